/- What the row of EncodeSorts stands on, made small by a program of this session (pack.py). -/
import Derived.Test.YtgddaddoabjgiaaCEncodeSorts2
import Derived.Test.YtgddaddoabjgiaaCEncodeSorts5
import Derived.Test.YtgddaddoabjgiaaCEncodeSorts10
namespace Go.Proofs.Ytgddaddoabjgiaa.BDat
open RowKit PB YtgddaddoabjgiaaW.PrintWords YtgddaddoabjgiaaW.PrintLast YtgddaddoabjgiaaW.PrintMore
open Bs
open Dt
set_option linter.unusedVariables false
theorem toList_iff (a b : ByteArray) : a.toList = b.toList ↔ bytesOf a = bytesOf b := by
 have := toList_beq a b
 rw [Bool.eq_iff_iff, beq_iff_eq, beq_iff_eq] at this
 exact this
def tagOf (u : Bool) : Int := if u = true then 23 else 24
theorem start_yes (u : Bool) : when_Start.f (tagOf u) (lenOf u) = some ((⟨#[]⟩ : ByteArray), lenOf u, u, true) := by
 cases u <;> rfl
theorem start_no (tag n : Int) (h : ∀ u, ¬ (tag = tagOf u ∧ n = lenOf u)) : when_Start.f tag n = some ((⟨#[]⟩ : ByteArray), 0, false, false) := by
 have h1 : ¬ (tag = 23 ∧ n = 13) := h true
 have h2 : ¬ (tag = 24 ∧ n = 15) := h false
 unfold when_Start.f
 by_cases a : tag = 23
 ·
  rw [if_pos a, if_neg (fun b => h1 ⟨a, b⟩)]
 rw [if_neg a]
 by_cases c : tag = 24
 ·
  rw [if_pos c, if_neg (fun b => h2 ⟨c, b⟩)]
 ·
  rw [if_neg c]
theorem get_l0 (u : Bool) (s : ByteArray) (hs : (s.size : Int) = lenOf u) : ∀ (d k i : Nat) (ok : Bool) (D : ByteArray) (n : Int) (u' : Bool), i + d = s.size → d + 16 ≤ k → Runs u s ok i D n u' →
 when_Get.l0 k s ok (i : Int) D n u' = some (match run u ([], lenOf u) (bytesOf s) with
  | some s' => (strOfNums s'.1, true)
  | none => ((⟨#[]⟩ : ByteArray), false)) := by
 have hN : lenOf u ≤ 15 := by cases u <;> decide
 have no : ∀ (k i : Nat) (D : ByteArray) (n : Int) (u' : Bool), Runs u s false i D n u' → when_Get.l0 (k + 1) s false (i : Int) D n u' = some (match run u ([], lenOf u) (bytesOf s) with
  | some s' => (strOfNums s'.1, true)
  | none => ((⟨#[]⟩ : ByteArray), false)) := by
  intro k i D n u' h
  have : run u ([], lenOf u) (bytesOf s) = none := by
   cases hr : run u ([], lenOf u) (bytesOf s) with
   | none => rfl
   | some x =>
     have := run_front u ([], lenOf u) (bytesOf s) i (by rw [hr]; rfl)
     rw [← h.ok_] at this; cases this
  rw [when_Get.l0, if_neg zz13, this]
 intro d
 induction d with
 | zero =>
   intro k i ok D n u' hi hk h
   obtain ⟨k, rfl⟩ : ∃ m, k = m + 1 := ⟨k - 1, zz7⟩
   cases ok with
   | false => exact no k i D n u' h
   | true =>
     obtain ⟨_, L, rfl, hr⟩ := h.st_ rfl
     rw [List.take_of_length_le zz70] at hr
     rw [when_Get.l0, if_pos rfl, if_neg zz7, hr]
 | succ d ih =>
   intro k i ok D n u' hi hk h
   obtain ⟨k, rfl⟩ : ∃ m, k = m + 15 := ⟨k - 15, zz7⟩
   cases ok with
   | false => exact no (k + 14) i D n u' h
   | true =>
     obtain ⟨ok', D', n', u'', hp, hr⟩ := h.push zz7 zz7 k
     rw [when_Get.l0, if_pos rfl, if_pos zz7, if_pos zz7, hp]
     simp only [Option.bind_some]
     rw [w64 (x := (i : Int) + 1) zz7 zz7, show ((i : Int) + 1) = ((i + 1 : Nat) : Int) by omega]
     exact ih (k + 14) (i + 1) ok' D' n' u'' zz7 zz7 hr
def Con (tag : Int) (l : List Int) (u : Bool) (p : List Int) : Prop := l = p ++ [90] ∧ okp u p ∧ tag = tagOf u ∧ (p.length : Int) + 1 = lenOf u
theorem get_yes (k : Nat) (hk : 40 ≤ k) (tag : Int) (c : ByteArray) (u : Bool) (p : List Int) (h : Con tag (bytesOf c) u p) : when_Get.f k tag c = some (strOfNums (F u p), true) := by
 obtain ⟨hl, ho, rfl, hn⟩ := h
 have hc : (c.size : Int) = lenOf u := by rw [bytesOf_size, hl, List.length_append]; simp; omega
 have hN : lenOf u ≤ 15 := by cases u <;> decide
 unfold when_Get.f
 rw [hc, start_yes]
 simp only [Option.bind_some]
 have := get_l0 u c hc c.size k 0 true _ _ _ zz7 zz7 (Runs.start u c)
 rw [show ((0 : Nat) : Int) = 0 from rfl] at this
 rw [this, hl, (run_last u (lenOf u) p 90 hn).1 ⟨ho, rfl⟩]
theorem get_no (k : Nat) (hk : 40 ≤ k) (tag : Int) (c : ByteArray) (h : ∀ u p, ¬ Con tag (bytesOf c) u p) : when_Get.f k tag c = some ((⟨#[]⟩ : ByteArray), false) := by
 obtain ⟨k, rfl⟩ : ∃ m, k = m + 40 := ⟨k - 40, zz7⟩
 unfold when_Get.f
 by_cases ht : ∃ u, tag = tagOf u ∧ (c.size : Int) = lenOf u
 ·
  obtain ⟨u, rfl, hc⟩ := ht
  have hN : lenOf u ≤ 15 ∧ 13 ≤ lenOf u := by cases u <;> decide
  rw [hc, start_yes]
  simp only [Option.bind_some]
  have := get_l0 u c hc c.size (k + 40) 0 true _ _ _ zz7 zz7 (Runs.start u c)
  rw [show ((0 : Nat) : Int) = 0 from rfl] at this
  rw [this]
  have hne : bytesOf c ≠ [] := by intro h0; have h9 := bytesOf_size c; rw [h0] at h9; simp only [List.length_nil] at h9; omega
  have e := List.dropLast_concat_getLast hne
  rw [← e]
  have hlen : (((bytesOf c).dropLast).length : Int) + 1 = lenOf u := by rw [List.length_dropLast, bytesOf_length]; omega
  rw [(run_last u (lenOf u) _ _ hlen).2 (fun hh => h u _ ⟨by rw [← hh.2]; exact e.symm, hh.1, rfl, hlen⟩)]
 ·
  rw [start_no tag _ (fun u hu => ht ⟨u, hu⟩)]
  simp only [Option.bind_some]
  rw [when_Get.l0, if_neg zz13]
theorem Con.uniq {tag : Int} {l : List Int} {u v : Bool} {p q : List Int} (h : Con tag l u p) (g : Con tag l v q) : u = v ∧ p = q := by
 obtain ⟨h1, _, h3, _⟩ := h
 obtain ⟨g1, _, g3, _⟩ := g
 refine ⟨?_, List.append_cancel_right (h1.symm.trans g1)⟩
 rw [h3] at g3
 revert g3
 cases u <;> cases v <;> decide
def inA (D : List Int) : Prop := D.length = 14 ∧ okp true (D.drop 2) ∧ F true (D.drop 2) = D
theorem zed : bytesOf (⟨#[90]⟩ : ByteArray) = [90] := by decide
theorem putA (s : ByteArray) (h : s.size = 14) : bytesOf ((s ++ (⟨#[90]⟩ : ByteArray)).extract 2 (s.size + 1)) = (bytesOf s).drop 2 ++ [90] := by
 rw [bytesOf_part, bytesOf_append, zed, List.drop_append_of_le_length zz70, List.take_of_length_le (by simp [bytesOf_length]; omega)]
theorem put_0 (k : Nat) (s : ByteArray) (h : s.size ≠ 14) : when_Put.f k s = some (0, (⟨#[]⟩ : ByteArray), false) := by
 unfold when_Put.f
 rw [if_neg zz7]
open Classical in
theorem put_2 (k : Nat) (s : ByteArray) (h : s.size = 14) : when_Put.l0 (k + 45) s [23, 24] 2 1 = if okp false (bytesOf s) then some (24, s ++ (⟨#[90]⟩ : ByteArray), true) else some (0, (⟨#[]⟩ : ByteArray), false) := by
 have hl : (bytesOf s).length = 14 := by rw [bytesOf_length]; exact h
 rw [when_Put.l0, if_pos zz13, if_pos zz13, if_pos zz13, if_pos zz7, if_neg zz13, show rd [23, 24] 1 = 24 from rfl]
 have hend : when_Put.l0 (k + 44) s [23, 24] 2 (wrap64 (1 + 1)) = some (0, (⟨#[]⟩ : ByteArray), false) := by
  rw [when_Put.l0, if_neg (by decide +kernel)]
 by_cases ho : okp false (bytesOf s)
 ·
  rw [if_pos ho, get_yes (k + 44) zz7 24 _ false (bytesOf s) ⟨by rw [bytesOf_append, zed], ho, rfl, by rw [hl]; rfl⟩]
  simp only [Option.bind_some, if_true]
  rw [if_pos ((toList_iff _ _).2 (by rw [bytesOf_nums _ (digs_bytes (F_digs ho.1))]; rfl))]
 ·
  rw [if_neg ho, get_no (k + 44) zz7 24 _ (fun u p hc => ho (by
   obtain ⟨h1, h2, h3, _⟩ := hc
   rw [bytesOf_append, zed] at h1
   have : u = false := by revert h3; cases u <;> decide
   subst this
   rw [List.append_cancel_right h1]; exact h2))]
  simp only [Option.bind_some]
  rw [if_neg zz13, hend]
open Classical in
theorem put_1 (k : Nat) (hk : 50 ≤ k) (s : ByteArray) (h : s.size = 14) : when_Put.f k s = if inA (bytesOf s) then some (23, strOfNums ((bytesOf s).drop 2 ++ [90]), true) else if okp false (bytesOf s) then some (24, s ++ (⟨#[90]⟩ : ByteArray), true) else some (0, (⟨#[]⟩ : ByteArray), false) := by
 obtain ⟨k, rfl⟩ : ∃ m, k = m + 46 := ⟨k - 46, zz7⟩
 have hl : (bytesOf s).length = 14 := by rw [bytesOf_length]; exact h
 have hput : bytesOf ((s ++ (⟨#[90]⟩ : ByteArray)).extract 2 (s.size + 1)) = (bytesOf s).drop 2 ++ [90] := putA s h
 have hnext : when_Put.l0 (k + 45) s [23, 24] 2 (wrap64 (0 + 1)) = if okp false (bytesOf s) then some (24, s ++ (⟨#[90]⟩ : ByteArray), true) else some (0, (⟨#[]⟩ : ByteArray), false) := by
  rw [show wrap64 (0 + 1) = 1 by decide +kernel]; exact put_2 k s h
 unfold when_Put.f
 rw [if_pos zz7]
 simp only [Option.bind_some]
 show when_Put.l0 (k + 46) s [23, 24] 2 0 = _
 rw [when_Put.l0, if_pos zz13, if_pos zz13, if_pos zz13, if_pos zz7, if_pos zz13, if_pos (by rw [ByteArray.size_append]; omega), show rd [23, 24] 0 = 23 from rfl]
 by_cases ho : okp true ((bytesOf s).drop 2)
 ·
  rw [get_yes (k + 45) zz7 23 _ true ((bytesOf s).drop 2) ⟨hput, ho, rfl, by rw [List.length_drop, hl]; rfl⟩]
  simp only [Option.bind_some, if_true]
  by_cases hF : F true ((bytesOf s).drop 2) = bytesOf s
  ·
   rw [if_pos ((toList_iff _ _).2 (by rw [bytesOf_nums _ (digs_bytes (F_digs ho.1))]; exact hF)), if_pos (show inA (bytesOf s) from ⟨hl, ho, hF⟩)]
   rw [← hput, nums_bytesOf]
  ·
   rw [if_neg (fun hh => hF (by have := (toList_iff _ _).1 hh; rwa [bytesOf_nums _ (digs_bytes (F_digs ho.1))] at this)), if_neg (fun hh : inA (bytesOf s) => hF hh.2.2), hnext]
 ·
  rw [get_no (k + 45) zz7 23 _ (fun u p hc => ho (by
   obtain ⟨h1, h2, h3, _⟩ := hc
   rw [hput] at h1
   have : u = true := by revert h3; cases u <;> decide
   subst this
   rw [List.append_cancel_right h1]; exact h2)), if_neg (fun hh : inA (bytesOf s) => ho hh.2.1)]
  simp only [Option.bind_some]
  rw [if_neg zz13, hnext]
end Go.Proofs.Ytgddaddoabjgiaa.BDat
namespace Go.Proofs.Ytgddaddoabjgiaa.PB
open RowKit YtgddaddoabjgiaaW.PrintWords YtgddaddoabjgiaaW.PrintLast YtgddaddoabjgiaaW.PrintMore
attribute [local go_sem] max2_int min2_int max_two min_two max_three min_three max_four min_four
set_option linter.unusedVariables false
set_option linter.unusedSimpArgs false
mutual
def gantletref13_Days.j0 : Nat → Int → Int → Bool → Option (Int)
 | 0, _, _, _ => none
 | k + 1, x0, x1, x10 => if x10 = true then (some 0) else (if x1 = 1 then (gantletref13_Days.j1 k x0 x1 (x1 == 1)) else (if x1 = 3 then (gantletref13_Days.j1 k x0 x1 (x1 == 3)) else (if x1 = 5 then (gantletref13_Days.j1 k x0 x1 (x1 == 5)) else (if x1 = 7 then (gantletref13_Days.j1 k x0 x1 (x1 == 7)) else (if x1 = 8 then (gantletref13_Days.j1 k x0 x1 (x1 == 8)) else (if x1 = 10 then (gantletref13_Days.j1 k x0 x1 (x1 == 10)) else (gantletref13_Days.j1 k x0 x1 (x1 == 12))))))))
def gantletref13_Days.j1 : Nat → Int → Int → Bool → Option (Int)
 | 0, _, _, _ => none
 | k + 1, x0, x11, x12 => if x12 = true then (some 31) else (if x11 = 4 then (gantletref13_Days.j2 k x0 x11 (x11 == 4)) else (if x11 = 6 then (gantletref13_Days.j2 k x0 x11 (x11 == 6)) else (if x11 = 9 then (gantletref13_Days.j2 k x0 x11 (x11 == 9)) else (gantletref13_Days.j2 k x0 x11 (x11 == 11)))))
def gantletref13_Days.j2 : Nat → Int → Int → Bool → Option (Int)
 | 0, _, _, _ => none
 | k + 1, x0, x11, x20 => if x20 = true then (some 30) else (if x11 = 2 then (if (Int.tmod x0 400) = 0 then (some 29) else (if (Int.tmod x0 4) = 0 then (if (Int.tmod x0 100) = 0 then (some 28) else (some 29)) else (some 28))) else (some 0))
end
def gantletref13_Days.f (k : Nat) (a0 : Int) (a1 : Int) : Option (Int) := if a0 < 0 then (gantletref13_Days.j0 k a0 a1 true) else (gantletref13_Days.j0 k a0 a1 (decide (a0 > 9999)))
set_option maxHeartbeats 8000000 in
set_option maxRecDepth 100000 in
theorem gantletref13_Days.calls (k : Nat) (a0 : Int) (a1 : Int) (r : Int) (w : World) (h : gantletref13_Days.f k a0 a1 = some r) :
 Calls Try.prog 75 #[.int .i64 a0, .int .i64 a1] w fun e w' => e = .returned (.int .i64 r) ∧ Drawn0 w w' := by
 have H : (if a0 < 0 then (gantletref13_Days.j0 k a0 a1 true) else (gantletref13_Days.j0 k a0 a1 (decide (a0 > 9999)))) = some r := h
 clear h
 have HC3 := Aside0.mk H
 clear H
 go_enter Try.func75, Try.ntmps75
 go_upto_region 1 with (fail)
 go_cut [10] (fun v10 wc => ∃ (kq : Nat) (x10_2 : Bool), v10 = .bool x10_2 ∧ Aside0 (gantletref13_Days.j0 kq a0 a1 x10_2 = some r) ∧ Aside0 (kq ≤ k) ∧ Drawn0 w wc)
 case first =>
  have H := HC3.out
  clear HC3
  by_cases c4 : a0 < 0
  ·
   rw [if_pos c4] at H
   have c4b0 : decide (a0 < 0) = true := decide_eq_true c4
   clear c4
   (first | rw [c4b0] | (simp only [i64_w, i32_w]; rw [c4b0]) | skip)
   have H' := Aside0.mk H
   clear H
   go_wp2
   go_meet
   case rel => exact ⟨_, (true), zz0, H', ⟨zz28⟩, zz2⟩
  ·
   rw [if_neg c4] at H
   have c4b0 : decide (a0 < 0) = false := decide_eq_false c4
   clear c4
   (first | rw [c4b0] | (simp only [i64_w, i32_w]; rw [c4b0]) | skip)
   have H' := Aside0.mk H
   clear H
   go_wp2
   go_meet
   case rel => exact ⟨_, (decide (a0 > 9999)), zz0, H', ⟨zz28⟩, zz2⟩
 case rest =>
  clear HC3
  try clear p2
  try clear c4
  try clear c4b0
  obtain ⟨kq, x10_2, rfl, HA, HJ2, ⟨mc2, rfl⟩⟩ := hcut
  cases kq with
  | zero => exact absurd HA.out (by simp [gantletref13_Days.j0])
  | succ kj2 =>
    have H := HA.out
    clear HA
    simp only [gantletref13_Days.j0] at H
    by_cases c5 : x10_2 = true
    ·
     subst c5
     have H1 : (some 0) = some r := by rw [if_pos rfl] at H; exact H
     clear H
     have H := H1
     clear H1
     obtain rfl := Option.some.inj H
     go_wp2
     go_ret
     exact ⟨zz0, zz2⟩
    ·
     replace c5 := Bool.eq_false_iff.mpr c5
     subst c5
     have H1 : (if a1 = 1 then (gantletref13_Days.j1 kj2 a0 a1 (a1 == 1)) else (if a1 = 3 then (gantletref13_Days.j1 kj2 a0 a1 (a1 == 3)) else (if a1 = 5 then (gantletref13_Days.j1 kj2 a0 a1 (a1 == 5)) else (if a1 = 7 then (gantletref13_Days.j1 kj2 a0 a1 (a1 == 7)) else (if a1 = 8 then (gantletref13_Days.j1 kj2 a0 a1 (a1 == 8)) else (if a1 = 10 then (gantletref13_Days.j1 kj2 a0 a1 (a1 == 10)) else (gantletref13_Days.j1 kj2 a0 a1 (a1 == 12)))))))) = some r := by rw [if_neg (show ¬ (false = true) by decide)] at H; exact H
     clear H
     have H := H1
     clear H1
     have HC6 := Aside0.mk H
     clear H
     go_upto_if 12 with (fail)
     go_cut [12] (fun v12 wc => ∃ (kq : Nat) (x12_5 : Bool), v12 = .bool x12_5 ∧ Aside0 (gantletref13_Days.j1 kq a0 a1 x12_5 = some r) ∧ Aside0 (kq ≤ kj2) ∧ Drawn0 w wc)
     case first =>
      have H := HC6.out
      clear HC6
      by_cases c7 : a1 = 1
      ·
       rw [if_pos c7] at H
       have c7b0 : (a1 == 1) = true := beq_iff_eq.mpr c7
       have c7b1 : (a1 != 1) = false := bne_eq_false_iff_eq.mpr c7
       clear c7
       (first | rw [c7b0] | (simp only [i64_w, i32_w]; rw [c7b0]) | skip)
       have H' := Aside0.mk H
       clear H
       go_wp2
       go_meet
       case rel => exact ⟨_, ((a1 == 1)), zz0, H', ⟨zz71⟩, zz2⟩
      ·
       rw [if_neg c7] at H
       have c7b0 : (a1 == 1) = false := beq_eq_false_iff_ne.mpr c7
       have c7b1 : (a1 != 1) = true := bne_iff_ne.mpr c7
       (first | rw [c7b0] | (simp only [i64_w, i32_w]; rw [c7b0]) | skip)
       by_cases c8 : a1 = 3
       ·
        rw [if_pos c8] at H
        have c8b0 : (a1 == 3) = true := beq_iff_eq.mpr c8
        have c8b1 : (a1 != 3) = false := bne_eq_false_iff_eq.mpr c8
        clear c8
        have H' := Aside0.mk H
        clear H
        go_wp2
        go_meet
        case rel => exact ⟨_, ((a1 == 3)), zz0, H', ⟨zz71⟩, zz2⟩
       ·
        rw [if_neg c8] at H
        have c8b0 : (a1 == 3) = false := beq_eq_false_iff_ne.mpr c8
        have c8b1 : (a1 != 3) = true := bne_iff_ne.mpr c8
        by_cases c9 : a1 = 5
        ·
         rw [if_pos c9] at H
         have c9b0 : (a1 == 5) = true := beq_iff_eq.mpr c9
         have c9b1 : (a1 != 5) = false := bne_eq_false_iff_eq.mpr c9
         clear c9
         have H' := Aside0.mk H
         clear H
         go_wp2
         go_meet
         case rel => exact ⟨_, ((a1 == 5)), zz0, H', ⟨zz71⟩, zz2⟩
        ·
         rw [if_neg c9] at H
         have c9b0 : (a1 == 5) = false := beq_eq_false_iff_ne.mpr c9
         have c9b1 : (a1 != 5) = true := bne_iff_ne.mpr c9
         by_cases c10 : a1 = 7
         ·
          rw [if_pos c10] at H
          have c10b0 : (a1 == 7) = true := beq_iff_eq.mpr c10
          have c10b1 : (a1 != 7) = false := bne_eq_false_iff_eq.mpr c10
          clear c10
          have H' := Aside0.mk H
          clear H
          go_wp2
          go_meet
          case rel => exact ⟨_, ((a1 == 7)), zz0, H', ⟨zz71⟩, zz2⟩
         ·
          rw [if_neg c10] at H
          have c10b0 : (a1 == 7) = false := beq_eq_false_iff_ne.mpr c10
          have c10b1 : (a1 != 7) = true := bne_iff_ne.mpr c10
          by_cases c11 : a1 = 8
          ·
           rw [if_pos c11] at H
           have c11b0 : (a1 == 8) = true := beq_iff_eq.mpr c11
           have c11b1 : (a1 != 8) = false := bne_eq_false_iff_eq.mpr c11
           clear c11
           have H' := Aside0.mk H
           clear H
           go_wp2
           go_meet
           case rel => exact ⟨_, ((a1 == 8)), zz0, H', ⟨zz71⟩, zz2⟩
          ·
           rw [if_neg c11] at H
           have c11b0 : (a1 == 8) = false := beq_eq_false_iff_ne.mpr c11
           have c11b1 : (a1 != 8) = true := bne_iff_ne.mpr c11
           by_cases c12 : a1 = 10
           ·
            rw [if_pos c12] at H
            have c12b0 : (a1 == 10) = true := beq_iff_eq.mpr c12
            have c12b1 : (a1 != 10) = false := bne_eq_false_iff_eq.mpr c12
            clear c12
            have H' := Aside0.mk H
            clear H
            go_wp2
            go_meet
            case rel => exact ⟨_, ((a1 == 10)), zz0, H', ⟨zz71⟩, zz2⟩
           ·
            rw [if_neg c12] at H
            have c12b0 : (a1 == 10) = false := beq_eq_false_iff_ne.mpr c12
            have c12b1 : (a1 != 10) = true := bne_iff_ne.mpr c12
            have H' := Aside0.mk H
            clear H
            go_wp2
            go_meet
            case rel => exact ⟨_, ((a1 == 12)), zz0, H', ⟨zz71⟩, zz2⟩
     case rest =>
      clear HC6
      try clear c1
      try clear c2
      try clear p2
      try clear c4
      try clear c4b0
      try clear c5
      try clear c7
      try clear c7b0
      try clear c7b1
      try clear c8
      try clear c8b0
      try clear c8b1
      try clear c9
      try clear c9b0
      try clear c9b1
      try clear c10
      try clear c10b0
      try clear c10b1
      try clear c11
      try clear c11b0
      try clear c11b1
      try clear c12
      try clear c12b0
      try clear c12b1
      try clear p2
      obtain ⟨kq, x12_5, rfl, HA, HJ5, ⟨mc5, rfl⟩⟩ := hcut
      cases kq with
      | zero => exact absurd HA.out (by simp [gantletref13_Days.j1])
      | succ kj5 =>
        have H := HA.out
        clear HA
        simp only [gantletref13_Days.j1] at H
        by_cases c13 : x12_5 = true
        ·
         subst c13
         have H1 : (some 31) = some r := by rw [if_pos rfl] at H; exact H
         clear H
         have H := H1
         clear H1
         obtain rfl := Option.some.inj H
         go_wp2
         go_ret
         exact ⟨zz0, zz2⟩
        ·
         replace c13 := Bool.eq_false_iff.mpr c13
         subst c13
         have H1 : (if a1 = 4 then (gantletref13_Days.j2 kj5 a0 a1 (a1 == 4)) else (if a1 = 6 then (gantletref13_Days.j2 kj5 a0 a1 (a1 == 6)) else (if a1 = 9 then (gantletref13_Days.j2 kj5 a0 a1 (a1 == 9)) else (gantletref13_Days.j2 kj5 a0 a1 (a1 == 11))))) = some r := by rw [if_neg (show ¬ (false = true) by decide)] at H; exact H
         clear H
         have H := H1
         clear H1
         have HC14 := Aside0.mk H
         clear H
         go_upto_if 20 with (fail)
         go_cut [20] (fun v20 wc => ∃ (kq : Nat) (x20_13 : Bool), v20 = .bool x20_13 ∧ Aside0 (gantletref13_Days.j2 kq a0 a1 x20_13 = some r) ∧ Aside0 (kq ≤ kj5) ∧ Drawn0 w wc)
         case first =>
          have H := HC14.out
          clear HC14
          by_cases c15 : a1 = 4
          ·
           rw [if_pos c15] at H
           have c15b0 : (a1 == 4) = true := beq_iff_eq.mpr c15
           have c15b1 : (a1 != 4) = false := bne_eq_false_iff_eq.mpr c15
           clear c15
           (first | rw [c15b0] | (simp only [i64_w, i32_w]; rw [c15b0]) | skip)
           have H' := Aside0.mk H
           clear H
           go_wp2
           go_meet
           case rel => exact ⟨_, ((a1 == 4)), zz0, H', ⟨zz83⟩, zz2⟩
          ·
           rw [if_neg c15] at H
           have c15b0 : (a1 == 4) = false := beq_eq_false_iff_ne.mpr c15
           have c15b1 : (a1 != 4) = true := bne_iff_ne.mpr c15
           (first | rw [c15b0] | (simp only [i64_w, i32_w]; rw [c15b0]) | skip)
           by_cases c16 : a1 = 6
           ·
            rw [if_pos c16] at H
            have c16b0 : (a1 == 6) = true := beq_iff_eq.mpr c16
            have c16b1 : (a1 != 6) = false := bne_eq_false_iff_eq.mpr c16
            clear c16
            have H' := Aside0.mk H
            clear H
            go_wp2
            go_meet
            case rel => exact ⟨_, ((a1 == 6)), zz0, H', ⟨zz83⟩, zz2⟩
           ·
            rw [if_neg c16] at H
            have c16b0 : (a1 == 6) = false := beq_eq_false_iff_ne.mpr c16
            have c16b1 : (a1 != 6) = true := bne_iff_ne.mpr c16
            by_cases c17 : a1 = 9
            ·
             rw [if_pos c17] at H
             have c17b0 : (a1 == 9) = true := beq_iff_eq.mpr c17
             have c17b1 : (a1 != 9) = false := bne_eq_false_iff_eq.mpr c17
             clear c17
             have H' := Aside0.mk H
             clear H
             go_wp2
             go_meet
             case rel => exact ⟨_, ((a1 == 9)), zz0, H', ⟨zz83⟩, zz2⟩
            ·
             rw [if_neg c17] at H
             have c17b0 : (a1 == 9) = false := beq_eq_false_iff_ne.mpr c17
             have c17b1 : (a1 != 9) = true := bne_iff_ne.mpr c17
             have H' := Aside0.mk H
             clear H
             go_wp2
             go_meet
             case rel => exact ⟨_, ((a1 == 11)), zz0, H', ⟨zz83⟩, zz2⟩
         case rest =>
          clear HC14
          try clear c1
          try clear c2
          try clear p2
          try clear c4
          try clear c4b0
          try clear c5
          try clear c7
          try clear c7b0
          try clear c7b1
          try clear c8
          try clear c8b0
          try clear c8b1
          try clear c9
          try clear c9b0
          try clear c9b1
          try clear c10
          try clear c10b0
          try clear c10b1
          try clear c11
          try clear c11b0
          try clear c11b1
          try clear c12
          try clear c12b0
          try clear c12b1
          try clear c13
          try clear c15
          try clear c15b0
          try clear c15b1
          try clear c16
          try clear c16b0
          try clear c16b1
          try clear c17
          try clear c17b0
          try clear c17b1
          try clear p2
          obtain ⟨kq, x20_13, rfl, HA, HJ13, ⟨mc13, rfl⟩⟩ := hcut
          cases kq with
          | zero => exact absurd HA.out (by simp [gantletref13_Days.j2])
          | succ kj13 =>
            have H := HA.out
            clear HA
            simp only [gantletref13_Days.j2] at H
            by_cases c18 : x20_13 = true
            ·
             subst c18
             have H1 : (some 30) = some r := by rw [if_pos rfl] at H; exact H
             clear H
             have H := H1
             clear H1
             obtain rfl := Option.some.inj H
             go_wp2
             go_ret
             exact ⟨zz0, zz2⟩
            ·
             replace c18 := Bool.eq_false_iff.mpr c18
             subst c18
             have H1 : (if a1 = 2 then (if (Int.tmod a0 400) = 0 then (some 29) else (if (Int.tmod a0 4) = 0 then (if (Int.tmod a0 100) = 0 then (some 28) else (some 29)) else (some 28))) else (some 0)) = some r := by rw [if_neg (show ¬ (false = true) by decide)] at H; exact H
             clear H
             have H := H1
             clear H1
             by_cases c19 : a1 = 2
             ·
              rw [if_pos c19] at H
              have c19b0 : (a1 == 2) = true := beq_iff_eq.mpr c19
              have c19b1 : (a1 != 2) = false := bne_eq_false_iff_eq.mpr c19
              clear c19
              by_cases c20 : (Int.tmod a0 400) = 0
              ·
               rw [if_pos c20] at H
               have c20b0 : ((Int.tmod a0 400) == 0) = true := beq_iff_eq.mpr c20
               have c20b1 : ((Int.tmod a0 400) != 0) = false := bne_eq_false_iff_eq.mpr c20
               clear c20
               obtain rfl := Option.some.inj H
               go_wp2
               go_ret
               exact ⟨zz0, zz2⟩
              ·
               rw [if_neg c20] at H
               have c20b0 : ((Int.tmod a0 400) == 0) = false := beq_eq_false_iff_ne.mpr c20
               have c20b1 : ((Int.tmod a0 400) != 0) = true := bne_iff_ne.mpr c20
               by_cases c21 : (Int.tmod a0 4) = 0
               ·
                rw [if_pos c21] at H
                have c21b0 : ((Int.tmod a0 4) == 0) = true := beq_iff_eq.mpr c21
                have c21b1 : ((Int.tmod a0 4) != 0) = false := bne_eq_false_iff_eq.mpr c21
                clear c21
                by_cases c22 : (Int.tmod a0 100) = 0
                ·
                 rw [if_pos c22] at H
                 have c22b0 : ((Int.tmod a0 100) == 0) = true := beq_iff_eq.mpr c22
                 have c22b1 : ((Int.tmod a0 100) != 0) = false := bne_eq_false_iff_eq.mpr c22
                 clear c22
                 obtain rfl := Option.some.inj H
                 go_wp2
                 go_ret
                 exact ⟨zz0, zz2⟩
                ·
                 rw [if_neg c22] at H
                 have c22b0 : ((Int.tmod a0 100) == 0) = false := beq_eq_false_iff_ne.mpr c22
                 have c22b1 : ((Int.tmod a0 100) != 0) = true := bne_iff_ne.mpr c22
                 obtain rfl := Option.some.inj H
                 go_wp2
                 go_ret
                 exact ⟨zz0, zz2⟩
               ·
                rw [if_neg c21] at H
                have c21b0 : ((Int.tmod a0 4) == 0) = false := beq_eq_false_iff_ne.mpr c21
                have c21b1 : ((Int.tmod a0 4) != 0) = true := bne_iff_ne.mpr c21
                obtain rfl := Option.some.inj H
                go_wp2
                go_ret
                exact ⟨zz0, zz2⟩
             ·
              rw [if_neg c19] at H
              have c19b0 : (a1 == 2) = false := beq_eq_false_iff_ne.mpr c19
              have c19b1 : (a1 != 2) = true := bne_iff_ne.mpr c19
              obtain rfl := Option.some.inj H
              go_wp2
              go_ret
              exact ⟨zz0, zz2⟩
end Go.Proofs.Ytgddaddoabjgiaa.PB
namespace Go.Proofs.Ytgddaddoabjgiaa.PB
open RowKit YtgddaddoabjgiaaW.PrintWords YtgddaddoabjgiaaW.PrintLast YtgddaddoabjgiaaW.PrintMore
attribute [local go_sem] max2_int min2_int max_two min_two max_three min_three max_four min_four
set_option linter.unusedVariables false
set_option linter.unusedSimpArgs false
mutual
def gantletref13_Date.l0 : Nat → ByteArray → Int → Option (Bool)
 | 0, _, _ => none
 | k + 1, x0, x3 => if x3 < 14 then ((gantletref13_two.f x0 x3).bind fun t197 => (if t197 < 0 then (some false) else (gantletref13_Date.l0 k x0 (wrap64 (x3 + 2))))) else ((gantletref13_two.f x0 6).bind fun t198 => (if t198 < 1 then (gantletref13_Date.j1 k x0 true) else ((gantletref13_two.f x0 0).bind fun t199 => ((gantletref13_two.f x0 2).bind fun t200 => ((gantletref13_two.f x0 4).bind fun t201 => ((gantletref13_Days.f k (wrap64 ((wrap64 (100 * t199)) + t200)) t201).bind fun t202 => (gantletref13_Date.j1 k x0 (decide (t198 > t202)))))))))
def gantletref13_Date.j1 : Nat → ByteArray → Bool → Option (Bool)
 | 0, _, _ => none
 | k + 1, x0, x32 => if x32 = true then (some false) else ((gantletref13_two.f x0 8).bind fun t203 => (if t203 < 24 then ((gantletref13_two.f x0 10).bind fun t204 => (if t204 < 60 then ((gantletref13_two.f x0 12).bind fun t205 => (some (decide (t205 < 60)))) else (some false))) else (some false)))
end
def gantletref13_Date.f (k : Nat) (a0 : ByteArray) : Option (Bool) := if (a0.size : Int) = 14 then (gantletref13_Date.l0 k a0 0) else (some false)
set_option maxHeartbeats 8000000 in
set_option maxRecDepth 100000 in
theorem gantletref13_Date.calls (k : Nat) (a0 : ByteArray) (r : Bool) (w : World) (h : gantletref13_Date.f k a0 = some r) :
 Calls Try.prog 51 #[.string a0] w fun e w' => e = .returned (.bool r) ∧ Drawn0 w w' := by
 have H : (if (a0.size : Int) = 14 then (gantletref13_Date.l0 k a0 0) else (some false)) = some r := h
 clear h
 by_cases c2 : (a0.size : Int) = 14
 ·
  rw [if_pos c2] at H
  have c2b0 : ((a0.size : Int) == 14) = true := beq_iff_eq.mpr c2
  have c2b1 : ((a0.size : Int) != 14) = false := bne_eq_false_iff_eq.mpr c2
  clear c2
  have H' := Aside0.mk H
  clear H
  go_enter Try.func51, Try.ntmps51
  go_wp2
  go_loopg [3] k (fun kq v3 w' => ∃ (x3_1 : Int), v3 = .int .i64 x3_1 ∧ Aside0 (gantletref13_Date.l0 kq a0 x3_1 = some r) ∧ Aside0 (kq ≤ k) ∧ Drawn0 w w')
  case atStart => exact ⟨(0), zz0, H', ⟨Nat.le_refl _⟩, zz2⟩
  case round =>
   clear H'
   try clear c2
   try clear c2b0
   try clear c2b1
   try clear p2
   obtain ⟨x3_1, rfl, HA, HK1, ⟨m1, rfl⟩⟩ := hrel
   cases gk with
   | zero => exact absurd HA.out (by simp [gantletref13_Date.l0])
   | succ k1 =>
     have H := HA.out
     clear HA
     simp only [gantletref13_Date.l0] at H
     by_cases c3 : x3_1 < 14
     ·
      rw [if_pos c3] at H
      have c3b0 : decide (x3_1 < 14) = true := decide_eq_true c3
      clear c3
      replace H := Option.bind_eq_some_iff.mp H
      obtain ⟨t197, A40, H⟩ := H
      replace H : (if t197 < 0 then (some false) else (gantletref13_Date.l0 k1 a0 (wrap64 (x3_1 + 2)))) = some r := H
      have A4 := Aside0.mk A40
      clear A40
      by_cases c5 : t197 < 0
      ·
       rw [if_pos c5] at H
       have c5b0 : decide (t197 < 0) = true := decide_eq_true c5
       clear c5
       obtain rfl := Option.some.inj H
       go_wp2_with (first | ((with_reducible refine gate_callee (f := 74) rfl ?_); refine goesL_ (some 14) rfl rfl Try.func74 zz4 rfl #[.string a0, .int .i64 x3_1] rfl zz5 ?_; (with_reducible refine (gantletref13_two.calls a0 x3_1 t197 _ A4.out).mono ?_); rintro e w' ⟨rfl, ⟨nd, rfl⟩⟩; refine ⟨_, rfl, ?_⟩))
       go_ret
       exact ⟨zz0, zz2⟩
      ·
       rw [if_neg c5] at H
       have c5b0 : decide (t197 < 0) = false := decide_eq_false c5
       clear c5
       have H' := Aside0.mk H
       clear H
       go_wp2_with (first | ((with_reducible refine gate_callee (f := 74) rfl ?_); refine goesL_ (some 14) rfl rfl Try.func74 zz4 rfl #[.string a0, .int .i64 x3_1] rfl zz5 ?_; (with_reducible refine (gantletref13_two.calls a0 x3_1 t197 _ A4.out).mono ?_); rintro e w' ⟨rfl, ⟨nd, rfl⟩⟩; refine ⟨_, rfl, ?_⟩))
       go_roundg k1
       case measure => have := HK1.out; omega
       case rel => exact ⟨(wrap64 (x3_1 + 2)), zz0, H', ⟨zz68⟩, zz2⟩
     ·
      rw [if_neg c3] at H
      have c3b0 : decide (x3_1 < 14) = false := decide_eq_false c3
      clear c3
      replace H := Option.bind_eq_some_iff.mp H
      obtain ⟨t198, A60, H⟩ := H
      replace H : (if t198 < 1 then (gantletref13_Date.j1 k1 a0 true) else ((gantletref13_two.f a0 0).bind fun t199 => ((gantletref13_two.f a0 2).bind fun t200 => ((gantletref13_two.f a0 4).bind fun t201 => ((gantletref13_Days.f k1 (wrap64 ((wrap64 (100 * t199)) + t200)) t201).bind fun t202 => (gantletref13_Date.j1 k1 a0 (decide (t198 > t202)))))))) = some r := H
      have A6 := Aside0.mk A60
      clear A60
      have HC7 := Aside0.mk H
      clear H
      go_upto_region 9 with (first | ((with_reducible refine gate_callee (f := 74) rfl ?_); refine goesL_ (some 17) rfl rfl Try.func74 zz4 rfl #[.string a0, .int .i64 6] rfl zz5 ?_; (with_reducible refine (gantletref13_two.calls a0 6 t198 _ A6.out).mono ?_); rintro e w' ⟨rfl, ⟨nd, rfl⟩⟩; refine ⟨_, rfl, ?_⟩))
      (try simp only [Act.put, List.setIfInBounds_toArray, List.set_cons_zero, List.set_cons_succ])
      go_cut [32] (fun v32 wc => ∃ (kq : Nat) (x32_6 : Bool), v32 = .bool x32_6 ∧ Aside0 (gantletref13_Date.j1 kq a0 x32_6 = some r) ∧ Aside0 (kq ≤ k1) ∧ Drawn0 w wc)
      case first =>
       have H := HC7.out
       clear HC7
       by_cases c8 : t198 < 1
       ·
        rw [if_pos c8] at H
        have c8b0 : decide (t198 < 1) = true := decide_eq_true c8
        clear c8
        (first | rw [c8b0] | (simp only [i64_w, i32_w]; rw [c8b0]) | skip)
        have H' := Aside0.mk H
        clear H
        go_wp2
        go_meet
        case rel => exact ⟨_, (true), zz0, H', ⟨by have := HK1.out; first | omega | exact Nat.le_refl _⟩, zz2⟩
       ·
        rw [if_neg c8] at H
        have c8b0 : decide (t198 < 1) = false := decide_eq_false c8
        clear c8
        (first | rw [c8b0] | (simp only [i64_w, i32_w]; rw [c8b0]) | skip)
        replace H := Option.bind_eq_some_iff.mp H
        obtain ⟨t199, A90, H⟩ := H
        replace H : ((gantletref13_two.f a0 2).bind fun t200 => ((gantletref13_two.f a0 4).bind fun t201 => ((gantletref13_Days.f k1 (wrap64 ((wrap64 (100 * t199)) + t200)) t201).bind fun t202 => (gantletref13_Date.j1 k1 a0 (decide (t198 > t202)))))) = some r := H
        have A9 := Aside0.mk A90
        clear A90
        replace H := Option.bind_eq_some_iff.mp H
        obtain ⟨t200, A100, H⟩ := H
        replace H : ((gantletref13_two.f a0 4).bind fun t201 => ((gantletref13_Days.f k1 (wrap64 ((wrap64 (100 * t199)) + t200)) t201).bind fun t202 => (gantletref13_Date.j1 k1 a0 (decide (t198 > t202))))) = some r := H
        have A10 := Aside0.mk A100
        clear A100
        replace H := Option.bind_eq_some_iff.mp H
        obtain ⟨t201, A110, H⟩ := H
        replace H : ((gantletref13_Days.f k1 (wrap64 ((wrap64 (100 * t199)) + t200)) t201).bind fun t202 => (gantletref13_Date.j1 k1 a0 (decide (t198 > t202)))) = some r := H
        have A11 := Aside0.mk A110
        clear A110
        replace H := Option.bind_eq_some_iff.mp H
        obtain ⟨t202, A120, H⟩ := H
        replace H : (gantletref13_Date.j1 k1 a0 (decide (t198 > t202))) = some r := H
        have A12 := Aside0.mk A120
        clear A120
        have H' := Aside0.mk H
        clear H
        go_wp2_with (first | (go_at_call 74; (with_reducible refine (gantletref13_two.calls a0 0 t199 _ A9.out).mono ?_); rintro e w' ⟨rfl, ⟨nd, rfl⟩⟩) | (go_at_call 74; (with_reducible refine (gantletref13_two.calls a0 2 t200 _ A10.out).mono ?_); rintro e w' ⟨rfl, ⟨nd, rfl⟩⟩) | (go_at_call 74; (with_reducible refine (gantletref13_two.calls a0 4 t201 _ A11.out).mono ?_); rintro e w' ⟨rfl, ⟨nd, rfl⟩⟩) | (go_at_call 75; (with_reducible refine (gantletref13_Days.calls k1 (wrap64 ((wrap64 (100 * t199)) + t200)) t201 t202 _ A12.out).mono ?_); rintro e w' ⟨rfl, ⟨nd, rfl⟩⟩))
        go_meet
        case rel => exact ⟨_, (decide (t198 > t202)), zz0, H', ⟨by have := HK1.out; first | omega | exact Nat.le_refl _⟩, zz2⟩
      case rest =>
       clear HC7
       try clear c2
       try clear c2b0
       try clear c2b1
       try clear p2
       try clear c3
       try clear c3b0
       try clear c5
       try clear c5b0
       try clear p6
       try clear c7
       try clear c8
       try clear c8b0
       try clear p2
       obtain ⟨kq, x32_6, rfl, HA, HJ6, ⟨mc6, rfl⟩⟩ := hcut
       cases kq with
       | zero => exact absurd HA.out (by simp [gantletref13_Date.j1])
       | succ kj6 =>
         have H := HA.out
         clear HA
         simp only [gantletref13_Date.j1] at H
         by_cases c13 : x32_6 = true
         ·
          subst c13
          have H1 : (some false) = some r := by rw [if_pos rfl] at H; exact H
          clear H
          have H := H1
          clear H1
          obtain rfl := Option.some.inj H
          go_wp2
          go_ret
          exact ⟨zz0, zz2⟩
         ·
          replace c13 := Bool.eq_false_iff.mpr c13
          subst c13
          have H1 : ((gantletref13_two.f a0 8).bind fun t203 => (if t203 < 24 then ((gantletref13_two.f a0 10).bind fun t204 => (if t204 < 60 then ((gantletref13_two.f a0 12).bind fun t205 => (some (decide (t205 < 60)))) else (some false))) else (some false))) = some r := by rw [if_neg (show ¬ (false = true) by decide)] at H; exact H
          clear H
          have H := H1
          clear H1
          replace H := Option.bind_eq_some_iff.mp H
          obtain ⟨t203, A140, H⟩ := H
          replace H : (if t203 < 24 then ((gantletref13_two.f a0 10).bind fun t204 => (if t204 < 60 then ((gantletref13_two.f a0 12).bind fun t205 => (some (decide (t205 < 60)))) else (some false))) else (some false)) = some r := H
          have A14 := Aside0.mk A140
          clear A140
          by_cases c15 : t203 < 24
          ·
           rw [if_pos c15] at H
           have c15b0 : decide (t203 < 24) = true := decide_eq_true c15
           clear c15
           replace H := Option.bind_eq_some_iff.mp H
           obtain ⟨t204, A160, H⟩ := H
           replace H : (if t204 < 60 then ((gantletref13_two.f a0 12).bind fun t205 => (some (decide (t205 < 60)))) else (some false)) = some r := H
           have A16 := Aside0.mk A160
           clear A160
           by_cases c17 : t204 < 60
           ·
            rw [if_pos c17] at H
            have c17b0 : decide (t204 < 60) = true := decide_eq_true c17
            clear c17
            replace H := Option.bind_eq_some_iff.mp H
            obtain ⟨t205, A180, H⟩ := H
            replace H : (some (decide (t205 < 60))) = some r := H
            have A18 := Aside0.mk A180
            clear A180
            obtain rfl := Option.some.inj H
            go_wp2_with (first | ((with_reducible refine gate_callee (f := 74) rfl ?_); refine goesL_ (some 34) rfl rfl Try.func74 zz4 rfl #[.string a0, .int .i64 8] rfl zz5 ?_; (with_reducible refine (gantletref13_two.calls a0 8 t203 _ A14.out).mono ?_); rintro e w' ⟨rfl, ⟨nd, rfl⟩⟩; refine ⟨_, rfl, ?_⟩) | (go_at_call 74; (with_reducible refine (gantletref13_two.calls a0 10 t204 _ A16.out).mono ?_); rintro e w' ⟨rfl, ⟨nd, rfl⟩⟩) | (go_at_call 74; (with_reducible refine (gantletref13_two.calls a0 12 t205 _ A18.out).mono ?_); rintro e w' ⟨rfl, ⟨nd, rfl⟩⟩))
            go_ret
            exact ⟨zz0, zz2⟩
           ·
            rw [if_neg c17] at H
            have c17b0 : decide (t204 < 60) = false := decide_eq_false c17
            clear c17
            obtain rfl := Option.some.inj H
            go_wp2_with (first | ((with_reducible refine gate_callee (f := 74) rfl ?_); refine goesL_ (some 34) rfl rfl Try.func74 zz4 rfl #[.string a0, .int .i64 8] rfl zz5 ?_; (with_reducible refine (gantletref13_two.calls a0 8 t203 _ A14.out).mono ?_); rintro e w' ⟨rfl, ⟨nd, rfl⟩⟩; refine ⟨_, rfl, ?_⟩) | (go_at_call 74; (with_reducible refine (gantletref13_two.calls a0 10 t204 _ A16.out).mono ?_); rintro e w' ⟨rfl, ⟨nd, rfl⟩⟩))
            go_ret
            exact ⟨zz0, zz2⟩
          ·
           rw [if_neg c15] at H
           have c15b0 : decide (t203 < 24) = false := decide_eq_false c15
           clear c15
           obtain rfl := Option.some.inj H
           go_wp2_with (first | ((with_reducible refine gate_callee (f := 74) rfl ?_); refine goesL_ (some 34) rfl rfl Try.func74 zz4 rfl #[.string a0, .int .i64 8] rfl zz5 ?_; (with_reducible refine (gantletref13_two.calls a0 8 t203 _ A14.out).mono ?_); rintro e w' ⟨rfl, ⟨nd, rfl⟩⟩; refine ⟨_, rfl, ?_⟩))
           go_ret
           exact ⟨zz0, zz2⟩
 ·
  rw [if_neg c2] at H
  have c2b0 : ((a0.size : Int) == 14) = false := beq_eq_false_iff_ne.mpr c2
  have c2b1 : ((a0.size : Int) != 14) = true := bne_iff_ne.mpr c2
  obtain rfl := Option.some.inj H
  go_enter Try.func51, Try.ntmps51
  go_wp2
  go_ret
  exact ⟨zz0, zz2⟩
def bitstr_Start.f (a0 : Int) : Option (Int × Bool × Int × Bool) := if a0 < 1 then (some (0, false, 0, false)) else (some (a0, false, 0, true))
set_option maxHeartbeats 8000000 in
set_option maxRecDepth 100000 in
theorem bitstr_Start.calls (a0 : Int) (r1 : Int) (r2 : Bool) (r3 : Int) (r4 : Bool) (w : World) (h : bitstr_Start.f a0 = some (r1, r2, r3, r4)) :
 Calls Try.prog 66 #[.int .i64 a0] w fun e w' => e = .returned (.tuple #[.agg #[.int .i64 r1, .bool r2, .int .u8 r3], .bool r4]) ∧ Below w.heap.size w w' := by
 have hu92 := Try.underlying92
 have HB := Aside0.mk (Below.refl w.heap.size w)
 have H : (if a0 < 1 then (some (0, false, 0, false)) else (some (a0, false, 0, true))) = some (r1, r2, r3, r4) := h
 clear h
 by_cases c2 : a0 < 1
 ·
  rw [if_pos c2] at H
  have c2b0 : decide (a0 < 1) = true := decide_eq_true c2
  clear c2
  simp only [Option.some.injEq, Prod.mk.injEq] at H
  obtain ⟨rfl, rfl, rfl, rfl⟩ := H
  go_enter Try.func66, Try.ntmps66
  go_wp2_with (first | ((with_reducible refine gate_dst (N := 2) rfl ?_); refine zzbx (N := 2) (cs := #[.int .i64 0, .bool false, .int .u8 0]) (t := 92) ?_; intro gb206 hg w3 hbox hb; have n0_ := Aside0.mk (below_step zz1 hb); have n1_ := Aside0.mk (hbox); have n2_ := Aside0.mk ((zz15 : w.heap.size ≤ gb206)); have n3_ := Aside0.mk ((zz15 : w.heap.size ≤ gb206)); clear HB; have HB := n0_; have BK206 := n1_; have GW206 := n2_; have GE206 := n3_; clear n0_ n1_ n2_ n3_; clear hb hbox hg; have hcz4_0 : w3.cell? ⟨gb206, 0, none⟩ = some (.int .i64 0) := (blk_cell BK206.out 0).trans rfl; have hcz4_1 : w3.cell? ⟨gb206, 1, none⟩ = some (.bool false) := (blk_cell BK206.out 1).trans rfl; have hcz4_2 : w3.cell? ⟨gb206, 2, none⟩ = some (.int .u8 0) := (blk_cell BK206.out 2).trans rfl; have hfz4_0 := blk_frozen BK206.out 0; have hfz4_1 := blk_frozen BK206.out 1; have hfz4_2 := blk_frozen BK206.out 2))
  refine bodyPost_ret (results_ct rfl _ _ gb206 92 #[.int .i64 0, .bool false, .int .u8 0] (0, 0) _ rfl (by (with_reducible repeat (first | refine blk_drewN ?_ _ | refine blk_drew ?_ | refine blk_alloc ?_ _)); refine blk_put (cs := #[.int .i64 0, .bool false, .int .u8 0]) ?_ 2 _ rfl; (with_reducible repeat (first | refine blk_drewN ?_ _ | refine blk_drew ?_ | refine blk_alloc ?_ _)); refine blk_put (cs := #[.int .i64 0, .bool false, .int .u8 0]) ?_ 1 _ rfl; (with_reducible repeat (first | refine blk_drewN ?_ _ | refine blk_drew ?_ | refine blk_alloc ?_ _)); refine blk_put (cs := #[.int .i64 0, .bool false, .int .u8 0]) ?_ 0 _ rfl; (with_reducible repeat (first | refine blk_drewN ?_ _ | refine blk_drew ?_ | refine blk_alloc ?_ _)); exact BK206.out) Try.underlying92 rfl zz4) rfl ?_
  exact ⟨zz3, by repeat (first | (with_reducible first | exact HB.out | apply below_alloc | apply pw_below_drewN | apply below_drew1 | refine below_set ?_ GE206.out) | exact HB.out)⟩
 ·
  rw [if_neg c2] at H
  have c2b0 : decide (a0 < 1) = false := decide_eq_false c2
  clear c2
  simp only [Option.some.injEq, Prod.mk.injEq] at H
  obtain ⟨rfl, rfl, rfl, rfl⟩ := H
  go_enter Try.func66, Try.ntmps66
  go_wp2_with (first | ((with_reducible refine gate_dst (N := 2) rfl ?_); refine zzbx (N := 2) (cs := #[.int .i64 0, .bool false, .int .u8 0]) (t := 92) ?_; intro gb206 hg w5 hbox hb; have n0_ := Aside0.mk (below_step zz1 hb); have n1_ := Aside0.mk (hbox); have n2_ := Aside0.mk ((zz15 : w.heap.size ≤ gb206)); have n3_ := Aside0.mk ((zz15 : w.heap.size ≤ gb206)); clear HB; have HB := n0_; have BK206 := n1_; have GW206 := n2_; have GE206 := n3_; clear n0_ n1_ n2_ n3_; clear hb hbox hg; have hcz6_0 : w5.cell? ⟨gb206, 0, none⟩ = some (.int .i64 0) := (blk_cell BK206.out 0).trans rfl; have hcz6_1 : w5.cell? ⟨gb206, 1, none⟩ = some (.bool false) := (blk_cell BK206.out 1).trans rfl; have hcz6_2 : w5.cell? ⟨gb206, 2, none⟩ = some (.int .u8 0) := (blk_cell BK206.out 2).trans rfl; have hfz6_0 := blk_frozen BK206.out 0; have hfz6_1 := blk_frozen BK206.out 1; have hfz6_2 := blk_frozen BK206.out 2))
  refine bodyPost_ret (results_ct rfl _ _ gb206 92 #[.int .i64 a0, .bool false, .int .u8 0] (0, 0) _ rfl (by (with_reducible repeat (first | refine blk_drewN ?_ _ | refine blk_drew ?_ | refine blk_alloc ?_ _)); refine blk_put (cs := #[.int .i64 a0, .bool false, .int .u8 0]) ?_ 2 _ rfl; (with_reducible repeat (first | refine blk_drewN ?_ _ | refine blk_drew ?_ | refine blk_alloc ?_ _)); refine blk_put (cs := #[.int .i64 a0, .bool false, .int .u8 0]) ?_ 1 _ rfl; (with_reducible repeat (first | refine blk_drewN ?_ _ | refine blk_drew ?_ | refine blk_alloc ?_ _)); refine blk_put (cs := #[.int .i64 0, .bool false, .int .u8 0]) ?_ 0 _ rfl; (with_reducible repeat (first | refine blk_drewN ?_ _ | refine blk_drew ?_ | refine blk_alloc ?_ _)); exact BK206.out) Try.underlying92 rfl zz4) rfl ?_
  exact ⟨zz3, by repeat (first | (with_reducible first | exact HB.out | apply below_alloc | apply pw_below_drewN | apply below_drew1 | refine below_set ?_ GE206.out) | exact HB.out)⟩
end Go.Proofs.Ytgddaddoabjgiaa.PB
namespace Go.Proofs.Ytgddaddoabjgiaa.BDat
open RowKit PB YtgddaddoabjgiaaW.PrintWords YtgddaddoabjgiaaW.PrintLast YtgddaddoabjgiaaW.PrintMore
open Bs
open Dt
set_option linter.unusedVariables false
theorem cen_digits {D : List Int} (h : Digs D) (h2 : 2 < D.length) (hc : D.take 2 = cen (D.getD 2 0)) : 1950 ≤ yr D ∧ yr D ≤ 2049 ∨ 3 ≥ D.length := by
 rcases (zz7 : D.length ≤ 3 ∨ 4 ≤ D.length) with h3 | h4
 ·
  exact .inr h3
 refine .inl ?_
 obtain ⟨a, b, c, d, r, rfl⟩ : ∃ a b c d r, D = a :: b :: c :: d :: r := by
  match D, h4 with
  | a :: b :: c :: d :: r, _ => exact ⟨a, b, c, d, r, rfl⟩
 have hcd := h c zz43; have hdd := h d zz43
 unfold Dig at hcd hdd
 simp only [List.take_succ_cons, List.take_zero, cen] at hc
 simp only [yr, at_, List.getD_cons_zero, List.getD_cons_succ] at hc ⊢
 split at hc
 ·
  simp at hc; omega
 ·
  simp at hc; omega
theorem inA_year {D : List Int} (h : inA D) : 1950 ≤ yr D ∧ yr D ≤ 2049 := by
 obtain ⟨hl, ho, hF⟩ := h
 have hD : Digs D := by rw [← hF]; exact F_digs ho.1
 have hd : ∃ a b c d r, D = a :: b :: c :: d :: r := by
  match D, hl with
  | a :: b :: c :: d :: r, _ => exact ⟨a, b, c, d, r, rfl⟩
 obtain ⟨a, b, c, d, r, rfl⟩ := hd
 have : (a :: b :: c :: d :: r).take 2 = cen ((a :: b :: c :: d :: r).getD 2 0) := by
  simp only [List.drop_succ_cons, List.drop_zero, F, if_true] at hF
  simp only [List.take_succ_cons, List.take_zero, List.getD_cons_zero, List.getD_cons_succ]
  have h2 : (cen c ++ c :: d :: r).take 2 = cen c := List.take_left' (cen_len c)
  rw [hF] at h2; simpa using h2
 rcases cen_digits hD zz43 this with h1 | h1
 ·
  exact h1
 ·
  simp at h1
theorem inA_of {D : List Int} (hl : D.length = 14) (hD : Digs D) (ho : okc D) (h1 : 1950 ≤ yr D) (h2 : yr D ≤ 2049) : inA D := by
 have hd : ∃ a b c d r, D = a :: b :: c :: d :: r := by
  match D, hl with
  | a :: b :: c :: d :: r, _ => exact ⟨a, b, c, d, r, rfl⟩
 obtain ⟨a, b, c, d, r, rfl⟩ := hd
 have ha := hD a zz43; have hb := hD b zz43; have hc := hD c zz43; have hd := hD d zz43
 unfold Dig at ha hb hc hd
 have hF : F true ((a :: b :: c :: d :: r).drop 2) = a :: b :: c :: d :: r := by
  simp only [List.drop_succ_cons, List.drop_zero, F, if_true, cen]
  simp only [yr, at_, List.getD_cons_zero, List.getD_cons_succ] at h1 h2
  split
  ·
   have : a = 49 := by omega
   have : b = 57 := by omega
   simp; omega
  ·
   have : a = 50 := by omega
   have : b = 48 := by omega
   simp; omega
 refine ⟨hl, ⟨fun x hx => hD x (List.mem_of_mem_drop hx), by rw [hF]; exact ho, fun h => by cases h⟩, hF⟩
theorem inB_iff {D : List Int} (hl : D.length = 14) (hD : Digs D) (ho : okc D) : okp false D ↔ 2050 ≤ yr D := by
 unfold okp late
 rw [pad_full _ zz7]
 simp only [F]
 constructor
 ·
  rintro ⟨_, _, h⟩; simpa using h
 ·
  intro h; exact ⟨hD, ho, fun _ => by simpa using h⟩
theorem inA_okc {D : List Int} (h : inA D) : Digs D ∧ okc D := by
 obtain ⟨_, h1, h2⟩ := h
 rw [← h2]; exact ⟨F_digs h1.1, h1.2.1⟩
end Go.Proofs.Ytgddaddoabjgiaa.BDat
namespace Go.Proofs.Ytgddaddoabjgiaa.BDat
open RowKit PB YtgddaddoabjgiaaW.PrintWords YtgddaddoabjgiaaW.PrintLast YtgddaddoabjgiaaW.PrintMore
open Bs
open Dt
set_option linter.unusedVariables false
def bl : List Int → List Int → Bool
 | _, [] => false
 | [], _ :: _ => true
 | a :: x, b :: y => decide (a < b) || (a == b && bl x y)
theorem bytesLess_map : ∀ (x y : List UInt8), Op.bytesLess x y = bl (x.map fun b => (b.toNat : Int)) (y.map fun b => (b.toNat : Int))
 | _, [] => by simp [Op.bytesLess, bl]
 | [], _ :: _ => rfl
 | a :: x, b :: y => by
   have h1 : decide (a < b) = decide ((a.toNat : Int) < (b.toNat : Int)) := by
    rw [decide_eq_decide, UInt8.lt_iff_toNat_lt]; omega
   have h2 : (a == b) = ((a.toNat : Int) == (b.toNat : Int)) := by
    rw [Bool.eq_iff_iff, beq_iff_eq, beq_iff_eq, ← UInt8.toNat_inj]; omega
   simp only [Op.bytesLess, List.map_cons, bl]
   rw [h1, h2, bytesLess_map x y]
theorem less_bl (s t : ByteArray) : Op.bytesLess s.toList t.toList = bl (bytesOf s) (bytesOf t) := by
 rw [bytesLess_map, Lib.toList_data, Lib.toList_data]; rfl
theorem four {D : List Int} (h : 4 ≤ D.length) : ∃ a b c d r, D = a :: b :: c :: d :: r := by
 match D, h with
 | a :: b :: c :: d :: r, _ => exact ⟨a, b, c, d, r, rfl⟩
theorem bl_year {D E : List Int} (hD : Digs D) (hE : Digs E) (h4 : 4 ≤ D.length) (g4 : 4 ≤ E.length) : (yr D < yr E → bl D E = true) ∧ (yr E < yr D → bl D E = false) ∧ (yr D = yr E → bl D E = bl (D.drop 4) (E.drop 4)) := by
 obtain ⟨a, b, c, d, r, rfl⟩ := four h4
 obtain ⟨a', b', c', d', r', rfl⟩ := four g4
 have ha := hD a zz43; have hb := hD b zz43; have hc := hD c zz43; have hd := hD d zz43
 have ha' := hE a' zz43; have hb' := hE b' zz43; have hc' := hE c' zz43; have hd' := hE d' zz43
 unfold Dig at *
 simp only [yr, at_, List.getD_cons_zero, List.getD_cons_succ, bl, List.drop_succ_cons, List.drop_zero]
 refine ⟨fun h => ?_, fun h => ?_, fun h => ?_⟩
 ·
  by_cases h1 : a < a'
  ·
   simp [h1]
  by_cases h2 : b < b'
  ·
   have : a = a' := by omega
   simp [h2, this]
  by_cases h3 : c < c'
  ·
   have : a = a' := by omega
   have : b = b' := by omega
   simp [*]
  ·
   have : a = a' := by omega
   have : b = b' := by omega
   have : c = c' := by omega
   have : d < d' := by omega
   simp [*]
 ·
  by_cases h1 : a' < a
  ·
   have : ¬ a < a' := by omega
   have : ¬ a = a' := by omega
   simp [*]
  by_cases h2 : b' < b
  ·
   have : ¬ b < b' := by omega
   have : ¬ b = b' := by omega
   have : ¬ a < a' := by omega
   simp [*]
  by_cases h3 : c' < c
  ·
   have : ¬ c < c' := by omega
   have : ¬ c = c' := by omega
   have : ¬ b < b' := by omega
   have : ¬ a < a' := by omega
   simp [*]
  ·
   have : ¬ d < d' := by omega
   have : ¬ d = d' := by omega
   have : ¬ c < c' := by omega
   have : ¬ b < b' := by omega
   have : ¬ a < a' := by omega
   simp [*]
 ·
  have : a = a' := by omega
  have : b = b' := by omega
  have : c = c' := by omega
  have : d = d' := by omega
  simp [*]
theorem bl_lit {D E : List Int} (hD : Digs D) (hE : Digs E) (h4 : 4 ≤ D.length) (g4 : E.length = 4) : bl D E = decide (yr D < yr E) := by
 obtain ⟨h1, h2, h3⟩ := bl_year hD hE h4 zz7
 rcases (zz7 : yr D < yr E ∨ yr E < yr D ∨ yr D = yr E) with h | h | h
 ·
  rw [h1 h]; simpa using h
 ·
  rw [h2 h]; simp; omega
 ·
  rw [h3 h, List.drop_of_length_le (l := E) zz7, show bl (D.drop 4) [] = false by cases D.drop 4 <;> rfl]
  simp; omega
theorem less_2050 (s : ByteArray) (h : Digs (bytesOf s)) (h4 : 4 ≤ s.size) : Op.bytesLess s.toList ([50, 48, 53, 48] : List UInt8) = decide (yr (bytesOf s) < 2050) := by
 rw [bytesLess_map, Lib.toList_data]
 exact bl_lit (E := [50, 48, 53, 48]) h (fun x hx => by simp at hx; unfold Dig; omega) (by rw [← bytesOf_length] at h4; exact h4) rfl
theorem less_1950 (s : ByteArray) (h : Digs (bytesOf s)) (h4 : 4 ≤ s.size) : Op.bytesLess s.toList ([49, 57, 53, 48] : List UInt8) = decide (yr (bytesOf s) < 1950) := by
 rw [bytesLess_map, Lib.toList_data]
 exact bl_lit (E := [49, 57, 53, 48]) h (fun x hx => by simp at hx; unfold Dig; omega) (by rw [← bytesOf_length] at h4; exact h4) rfl
end Go.Proofs.Ytgddaddoabjgiaa.BDat
namespace Go.Proofs.Ytgddaddoabjgiaa.BDat
open RowKit PB YtgddaddoabjgiaaW.PrintWords YtgddaddoabjgiaaW.PrintLast YtgddaddoabjgiaaW.PrintMore
open Bs
open Dt
set_option linter.unusedVariables false
theorem days_out {y m : Int} (h : y < 0 ∨ y > 9999 ∨ m < 1 ∨ m > 12) : Dt.days y m = 0 := by unfold Dt.days; rw [if_pos h]
theorem days_in {y m : Int} (h : ¬ (y < 0 ∨ y > 9999 ∨ m < 1 ∨ m > 12)) : Dt.days y m = if m = 2 ∧ leap y = true then 29 else tab m := by unfold Dt.days; rw [if_neg h]
theorem rdays_eq (k : Nat) (y m : Int) : gantletref13_Days.f (k + 3) y m = some (Dt.days y m) := by
 unfold gantletref13_Days.f
 by_cases h1 : y < 0
 ·
  rw [if_pos h1, days_out (.inl h1), gantletref13_Days.j0, if_pos rfl]
 rw [if_neg h1]
 by_cases h2 : y > 9999
 ·
  rw [days_out (.inr (.inl h2)), show decide (y > 9999) = true by simpa using h2, gantletref13_Days.j0, if_pos rfl]
 rw [show decide (y > 9999) = false by simpa using h2]
 have t4 : Int.tmod y 4 = y % 4 := Int.tmod_eq_emod_of_nonneg zz7
 have t100 : Int.tmod y 100 = y % 100 := Int.tmod_eq_emod_of_nonneg zz7
 have t400 : Int.tmod y 400 = y % 400 := Int.tmod_eq_emod_of_nonneg zz7
 rw [gantletref13_Days.j0, if_neg zz13]
 by_cases h3 : m < 1 ∨ m > 12
 ·
  rw [days_out zz7, if_neg zz7, if_neg zz7, if_neg zz7, if_neg zz7, if_neg zz7, if_neg zz7, gantletref13_Days.j1, if_neg zz73, if_neg zz7, if_neg zz7, if_neg zz7,
   gantletref13_Days.j2, if_neg zz73, if_neg zz7]
 rw [days_in zz7]
 by_cases hm : m = 2
 ·
  subst hm
  have e : (if (2 : Int) = 2 ∧ leap y = true then (29 : Int) else tab 2) = if leap y = true then 29 else 28 := by simp [tab]
  rw [e]
  have hj : gantletref13_Days.j1 (k + 2) y 2 ((2 : Int) == 12) = (if Int.tmod y 400 = 0 then some 29 else if Int.tmod y 4 = 0 then if Int.tmod y 100 = 0 then some 28 else some 29 else some 28) := rfl
  rw [if_neg zz13, if_neg zz13, if_neg zz13, if_neg zz13, if_neg zz13, if_neg zz13, hj, t4, t100, t400]
  have hl : leap y = true ↔ (y % 4 = 0 ∧ ¬ y % 100 = 0) ∨ y % 400 = 0 := by simp [leap]
  by_cases a : y % 400 = 0
  ·
   rw [if_pos a, if_pos (hl.2 (.inr a))]
  rw [if_neg a]
  by_cases b : y % 4 = 0
  ·
   rw [if_pos b]
   by_cases c : y % 100 = 0
   ·
    rw [if_pos c, if_neg (fun h => by have := hl.1 h; omega)]
   ·
    rw [if_neg c, if_pos (hl.2 (.inl ⟨b, c⟩))]
  ·
   rw [if_neg b, if_neg (fun h => by have := hl.1 h; omega)]
 ·
  rw [if_neg (c := m = 2 ∧ leap y = true) (fun h => hm h.1)]
  rcases (zz7 : m = 1 ∨ m = 3 ∨ m = 4 ∨ m = 5 ∨ m = 6 ∨ m = 7 ∨ m = 8 ∨ m = 9 ∨ m = 10 ∨ m = 11 ∨ m = 12) with rfl | rfl | rfl | rfl | rfl | rfl | rfl | rfl | rfl | rfl | rfl <;> rfl
theorem two_yes (s : ByteArray) (i : Nat) (h : i + 1 < s.size) (hi : i ≤ 100) (ha : Dig (bt s (i : Int))) (hb : Dig (bt s ((i + 1 : Nat) : Int))) : gantletref13_two.f s (i : Int) = some (Dt.two (bytesOf s) i) := by
 unfold Dig at ha hb
 have ra := bt_range s (i : Int); have rb := bt_range s ((i + 1 : Nat) : Int)
 unfold gantletref13_two.f Dt.two
 rw [w64 (x := (i : Int) + 1) zz7 zz7, show ((i : Int) + 1) = ((i + 1 : Nat) : Int) by omega, at_bt, at_bt]
 rw [w64 (x := bt s (i : Int)) zz7 zz7, w64 (x := bt s ((i + 1 : Nat) : Int)) zz7 zz7, w64 (x := bt s (i : Int) - 48) zz7 zz7, w64 (x := bt s ((i + 1 : Nat) : Int) - 48) zz7 zz7]
 rw [if_pos zz7, if_pos zz7, if_pos zz7, if_pos zz7, if_neg zz7, if_neg zz7, if_neg zz7, if_neg zz7, w64 (x := 10 * (bt s (i : Int) - 48)) zz7 zz7, w64 zz7 zz7]
theorem two_no (s : ByteArray) (i : Nat) (h : i + 1 < s.size) (hi : i ≤ 100) (hab : ¬ (Dig (bt s (i : Int)) ∧ Dig (bt s ((i + 1 : Nat) : Int)))) : gantletref13_two.f s (i : Int) = some (-1) := by
 unfold Dig at hab
 have ra := bt_range s (i : Int); have rb := bt_range s ((i + 1 : Nat) : Int)
 unfold gantletref13_two.f
 rw [w64 (x := (i : Int) + 1) zz7 zz7, show ((i : Int) + 1) = ((i + 1 : Nat) : Int) by omega]
 rw [w64 (x := bt s (i : Int)) zz7 zz7, w64 (x := bt s ((i + 1 : Nat) : Int)) zz7 zz7, w64 (x := bt s (i : Int) - 48) zz7 zz7, w64 (x := bt s ((i + 1 : Nat) : Int) - 48) zz7 zz7]
 rw [if_pos zz7, if_pos zz7, if_pos zz7, if_pos zz7]
 by_cases h1 : bt s (i : Int) - 48 < 0
 ·
  rw [if_pos h1]
 rw [if_neg h1]
 by_cases h2 : bt s (i : Int) - 48 > 9
 ·
  rw [if_pos h2]
 rw [if_neg h2]
 by_cases h3 : bt s ((i + 1 : Nat) : Int) - 48 < 0
 ·
  rw [if_pos h3]
 rw [if_neg h3, if_pos zz7]
theorem date_yes (s : ByteArray) (h : s.size = 14) (hd : Digs (bytesOf s)) : ∀ (d k i : Nat), i + 2 * d = 14 → gantletref13_Date.l0 (k + d) s (i : Int) = gantletref13_Date.l0 k s 14 := by
 have hb : ∀ i : Nat, i < 14 → Dig (bt s (i : Int)) := by
  intro i hi
  have := at_dig hd i zz7
  unfold Dig; omega
 intro d
 induction d with
 | zero => intro k i hi; rw [show i = 14 by omega]; rfl
 | succ d ih =>
   intro k i hi
   have hr := at_range hd (i := i) zz70
   have hr2 := at_range hd (i := i + 1) zz70
   rw [show k + (d + 1) = (k + d) + 1 by omega, gantletref13_Date.l0, if_pos zz7, two_yes s i zz7 zz7 (hb i zz7) (hb (i + 1) zz7)]
   simp only [Option.bind_some]
   rw [if_neg (by unfold Dt.two; omega), w64 zz7 zz7, show ((i : Int) + 2) = ((i + 2 : Nat) : Int) by omega]
   exact ih k (i + 2) zz7
theorem date_no (s : ByteArray) (h : s.size = 14) : ∀ (d k i : Nat), i + 2 * d = 14 → (∃ j, i ≤ j ∧ j < 14 ∧ ¬ Dig (bt s (j : Int))) → gantletref13_Date.l0 (k + d) s (i : Int) = some false := by
 intro d
 induction d with
 | zero => rintro k i hi ⟨j, h1, h2, _⟩; omega
 | succ d ih =>
   rintro k i hi ⟨j, h1, h2, h3⟩
   rw [show k + (d + 1) = (k + d) + 1 by omega, gantletref13_Date.l0, if_pos zz7]
   by_cases hg : Dig (bt s (i : Int)) ∧ Dig (bt s ((i + 1 : Nat) : Int))
   ·
    rw [two_yes s i zz7 zz7 hg.1 hg.2]
    simp only [Option.bind_some]
    obtain ⟨g1, g2⟩ := hg
    have e1 := at_bt s i; have e2 := at_bt s (i + 1)
    rw [if_neg (by unfold Dig at g1 g2; unfold Dt.two; omega), w64 zz7 zz7, show ((i : Int) + 2) = ((i + 2 : Nat) : Int) by omega]
    refine ih k (i + 2) zz7 ⟨j, ?_, h2, h3⟩
    rcases (zz7 : j = i ∨ j = i + 1 ∨ i + 2 ≤ j) with rfl | rfl | h4
    ·
     exact absurd g1 h3
    ·
     exact absurd g2 h3
    ·
     exact h4
   ·
    rw [two_no s i zz7 zz7 hg]; rfl
theorem not_digs {s : ByteArray} (h : ¬ Digs (bytesOf s)) : ∃ j : Nat, j < s.size ∧ ¬ Dig (bt s (j : Int)) := by
 apply Classical.byContradiction
 intro hn
 apply h
 intro b hb
 obtain ⟨i, hi, rfl⟩ := List.getElem_of_mem hb
 rw [bytesOf_length] at hi
 apply Classical.byContradiction
 intro hd
 refine hn ⟨i, hi, ?_⟩
 rw [bt_get, Int.toNat_natCast, List.getD_eq_getElem?_getD, List.getElem?_eq_getElem (by rw [bytesOf_length]; exact hi)]
 exact hd
open Classical in
theorem date_eq (k : Nat) (hk : 30 ≤ k) (s : ByteArray) : gantletref13_Date.f k s = some (decide (full (bytesOf s))) := by
 unfold gantletref13_Date.f
 by_cases h : s.size = 14
 ·
  rw [if_pos zz7]
  obtain ⟨k, rfl⟩ : ∃ m, k = (m + 5) + 7 := ⟨k - 12, zz7⟩
  by_cases hd : Digs (bytesOf s)
  ·
   have := date_yes s h hd 7 (k + 5) 0 zz7
   rw [show ((0 : Nat) : Int) = 0 from rfl] at this
   rw [this]
   have hb : ∀ i : Nat, i < 14 → Dig (bt s (i : Int)) := by
    intro i hi
    have := at_dig hd i zz7
    unfold Dig; omega
   have ht : ∀ i : Nat, i + 1 < 14 → gantletref13_two.f s (i : Int) = some (Dt.two (bytesOf s) i) := fun i hi => two_yes s i zz7 zz7 (hb i zz7) (hb (i + 1) zz7)
   have t0 := ht 0 zz7; have t2 := ht 2 zz7; have t4 := ht 4 zz7; have t6 := ht 6 zz7; have t8 := ht 8 zz7; have t10 := ht 10 zz7; have t12 := ht 12 zz7
   have r := fun i (hi : i < 14) => at_range hd (i := i) zz70
   have r0 := r 0 zz7; have r1 := r 1 zz7; have r2 := r 2 zz7; have r3 := r 3 zz7
   have hy : wrap64 ((wrap64 (100 * Dt.two (bytesOf s) 0)) + Dt.two (bytesOf s) 2) = yr (bytesOf s) := by
    unfold Dt.two yr
    simp only [Nat.zero_add, Nat.reduceAdd]
    rw [w64 (x := 100 * _) zz7 zz7, w64 zz7 zz7]; omega
   rw [gantletref13_Date.l0, if_neg zz13]
   rw [show (6 : Int) = ((6 : Nat) : Int) from rfl, t6]
   simp only [Option.bind_some]
   have hfull : full (bytesOf s) ↔ 1 ≤ Dt.two (bytesOf s) 6 ∧ Dt.two (bytesOf s) 6 ≤ Dt.days (yr (bytesOf s)) (Dt.two (bytesOf s) 4) ∧ Dt.two (bytesOf s) 8 < 24 ∧ Dt.two (bytesOf s) 10 < 60 ∧ Dt.two (bytesOf s) 12 < 60 := by
    unfold full
    rw [bytesOf_length]
    constructor
    ·
     rintro ⟨_, _, h1⟩; exact h1
    ·
     intro h1; exact ⟨h, hd, h1⟩
   have hj : ∀ x : Bool, gantletref13_Date.j1 (k + 4) s x = some (!x && (decide (Dt.two (bytesOf s) 8 < 24) && (decide (Dt.two (bytesOf s) 10 < 60) && decide (Dt.two (bytesOf s) 12 < 60)))) := by
    intro x
    rw [gantletref13_Date.j1]
    cases x with
    | true => rw [if_pos rfl]; rfl
    | false =>
      rw [if_neg zz13, show (8 : Int) = ((8 : Nat) : Int) from rfl, t8, show (10 : Int) = ((10 : Nat) : Int) from rfl, t10, show (12 : Int) = ((12 : Nat) : Int) from rfl, t12]
      simp only [Option.bind_some]
      by_cases a : Dt.two (bytesOf s) 8 < 24
      ·
       rw [if_pos a]
       by_cases b : Dt.two (bytesOf s) 10 < 60
       ·
        rw [if_pos b]; simp [a, b]
       ·
        rw [if_neg b]; simp [b]
      ·
       rw [if_neg a]; simp [a]
   by_cases h1 : Dt.two (bytesOf s) 6 < 1
   ·
    rw [if_pos h1, hj]
    congr 1
    rw [Bool.not_true, Bool.false_and]
    symm; simp only [decide_eq_false_iff_not, hfull]; omega
   ·
    rw [if_neg h1, show (0 : Int) = ((0 : Nat) : Int) from rfl, t0, show (2 : Int) = ((2 : Nat) : Int) from rfl, t2, show (4 : Int) = ((4 : Nat) : Int) from rfl, t4]
    simp only [Option.bind_some]
    rw [hy, rdays_eq (k + 1)]
    simp only [Option.bind_some]
    rw [hj]
    congr 1
    rw [Bool.eq_iff_iff, decide_eq_true_iff, hfull]
    simp
    omega
  ·
   obtain ⟨j, h1, h2⟩ := not_digs hd
   have := date_no s h 7 (k + 5) 0 zz7 ⟨j, zz7, zz7, h2⟩
   rw [show ((0 : Nat) : Int) = 0 from rfl] at this
   rw [this]
   congr 1; symm
   rw [decide_eq_false_iff_not]
   exact fun hf => hd hf.2.1
 ·
  rw [if_neg zz7]
  congr 1; symm
  rw [decide_eq_false_iff_not]
  intro hf
  have := hf.1
  rw [bytesOf_length] at this; exact h this
end Go.Proofs.Ytgddaddoabjgiaa.BDat
namespace Go.Proofs.Ytgddaddoabjgiaa.PB
open RowKit YtgddaddoabjgiaaW.PrintWords YtgddaddoabjgiaaW.PrintLast YtgddaddoabjgiaaW.PrintMore
attribute [local go_sem] max2_int min2_int max_two min_two max_three min_three max_four min_four
set_option linter.unusedVariables false
set_option linter.unusedSimpArgs false
def bitstr_State_Push.f (a0_0 : Int) (a0_1 : Bool) (a0_2 : Int) (a1 : Int) : Option (Int × Bool × Int × Bool) := if a0_1 = true then (if (wrap64 (a0_0 - 1)) = 0 then (if 0 ≤ a0_2 then (if (Go.bits .and .u8 a1 (((shl .u8 1 a0_2) - 1) % 256)) = 0 then (some (wrap64 (a0_0 - 1), a0_1, a0_2, true)) else (some (0, false, 0, false))) else (none)) else (some (wrap64 (a0_0 - 1), a0_1, a0_2, true))) else (if a1 > 7 then (some (0, false, 0, false)) else (if a1 > 0 then (if (wrap64 (a0_0 - 1)) = 0 then (some (0, false, 0, false)) else (some (wrap64 (a0_0 - 1), true, a1, true))) else (some (wrap64 (a0_0 - 1), true, a1, true))))
set_option maxHeartbeats 8000000 in
set_option maxRecDepth 100000 in
theorem bitstr_State_Push.calls (a0_0 : Int) (a0_1 : Bool) (a0_2 : Int) (a1 : Int) (r1 : Int) (r2 : Bool) (r3 : Int) (r4 : Bool) (w : World) (h : bitstr_State_Push.f a0_0 a0_1 a0_2 a1 = some (r1, r2, r3, r4)) :
 Calls Try.prog 67 #[.agg #[.int .i64 a0_0, .bool a0_1, .int .u8 a0_2], .int .u8 a1] w fun e w' => e = .returned (.tuple #[.agg #[.int .i64 r1, .bool r2, .int .u8 r3], .bool r4]) ∧ Below w.heap.size w w' := by
 have hu92 := Try.underlying92
 have HB := Aside0.mk (Below.refl w.heap.size w)
 have H : (if a0_1 = true then (if (wrap64 (a0_0 - 1)) = 0 then (if 0 ≤ a0_2 then (if (Go.bits .and .u8 a1 (((shl .u8 1 a0_2) - 1) % 256)) = 0 then (some (wrap64 (a0_0 - 1), a0_1, a0_2, true)) else (some (0, false, 0, false))) else (none)) else (some (wrap64 (a0_0 - 1), a0_1, a0_2, true))) else (if a1 > 7 then (some (0, false, 0, false)) else (if a1 > 0 then (if (wrap64 (a0_0 - 1)) = 0 then (some (0, false, 0, false)) else (some (wrap64 (a0_0 - 1), true, a1, true))) else (some (wrap64 (a0_0 - 1), true, a1, true))))) = some (r1, r2, r3, r4) := h
 clear h
 by_cases c3 : a0_1 = true
 ·
  subst c3
  have H1 : (if (wrap64 (a0_0 - 1)) = 0 then (if 0 ≤ a0_2 then (if (Go.bits .and .u8 a1 (((shl .u8 1 a0_2) - 1) % 256)) = 0 then (some (wrap64 (a0_0 - 1), true, a0_2, true)) else (some (0, false, 0, false))) else (none)) else (some (wrap64 (a0_0 - 1), true, a0_2, true))) = some (r1, r2, r3, r4) := by rw [if_pos rfl] at H; exact H
  clear H
  have H := H1
  clear H1
  by_cases c4 : (wrap64 (a0_0 - 1)) = 0
  ·
   rw [if_pos c4] at H
   have c4b0 : ((wrap64 (a0_0 - 1)) == 0) = true := beq_iff_eq.mpr c4
   have c4b1 : ((wrap64 (a0_0 - 1)) != 0) = false := bne_eq_false_iff_eq.mpr c4
   clear c4
   by_cases c5 : 0 ≤ a0_2
   ·
    rw [if_pos c5] at H
    have c5b0 := eq_true c5
    have c5b1 : decide (0 ≤ a0_2) = true := decide_eq_true c5
    clear c5
    obtain ⟨ji6, hji6⟩ : ∃ j_ : Int, (shl .u8 1 a0_2) = j_ := ⟨_, rfl⟩
    replace H : (if (Go.bits .and .u8 a1 (((ji6) - 1) % 256)) = 0 then (some (wrap64 (a0_0 - 1), true, a0_2, true)) else (some (0, false, 0, false))) = some (r1, r2, r3, r4) := by first | (rw [hji6] at H; exact H) | (simp only [hji6] at H ⊢; exact H)
    have hji6_ : (IntKind.u8.wrap (1 * 2 ^ min a0_2.toNat 8)) = ji6 := hji6
    have hji6z : a0_2 ≤ 8 → (IntKind.u8.wrap (1 * 2 ^ a0_2.toNat)) = ji6 := shl_small hji6
    have hji6u : (IntKind.u8.wrap (2 ^ min a0_2.toNat 8)) = ji6 := by have h_ := hji6_; rw [Int.one_mul] at h_; exact h_
    have hji6v : a0_2 ≤ 8 → (IntKind.u8.wrap (2 ^ a0_2.toNat)) = ji6 := fun hle_ => by have h_ := hji6z hle_; rw [Int.one_mul] at h_; exact h_
    by_cases c7 : (Go.bits .and .u8 a1 (((ji6) - 1) % 256)) = 0
    ·
     rw [if_pos c7] at H
     have c7b0 : ((Go.bits .and .u8 a1 (((ji6) - 1) % 256)) == 0) = true := beq_iff_eq.mpr c7
     have c7b1 : ((Go.bits .and .u8 a1 (((ji6) - 1) % 256)) != 0) = false := bne_eq_false_iff_eq.mpr c7
     clear c7
     simp only [Option.some.injEq, Prod.mk.injEq] at H
     obtain ⟨rfl, rfl, rfl, rfl⟩ := H
     go_enter Try.func67, Try.ntmps67
     go_wp2_with (first | ((with_reducible refine gate_dst (N := 2) rfl ?_); refine zzbx (N := 2) (cs := #[.int .i64 a0_0, .bool true, .int .u8 a0_2]) (t := 92) ?_; intro gb207 hg w8 hbox hb; have n0_ := Aside0.mk (below_step zz1 hb); have n1_ := Aside0.mk (hbox); have n2_ := Aside0.mk ((zz15 : w.heap.size ≤ gb207)); have n3_ := Aside0.mk ((zz15 : w.heap.size ≤ gb207)); clear HB; have HB := n0_; have BK207 := n1_; have GW207 := n2_; have GE207 := n3_; clear n0_ n1_ n2_ n3_; clear hb hbox hg) | ((with_reducible refine gate_dst (N := 4) rfl ?_); refine zzbx (N := 4) (cs := #[.int .i64 0, .bool false, .int .u8 0]) (t := 92) ?_; intro gb208 hg w9 hbox hb; have n0_ := Aside0.mk (blk_below (g := gb207) (o := .cells #[.int .i64 a0_0, .bool true, .int .u8 a0_2] 92 (0, 0)) zz22 hb); have n1_ := Aside0.mk (below_step zz12 hb); have n2_ := Aside0.mk (hbox); have n3_ := Aside0.mk ((zz63 : w.heap.size ≤ gb208)); have n4_ := Aside0.mk ((zz63 : w.heap.size ≤ gb208)); have n5_ := Aside0.mk ((zz76 : gb207 ≠ gb208)); have n6_ := Aside0.mk ((zz77 : gb208 ≠ gb207)); clear BK207; clear HB; have BK207 := n0_; have HB := n1_; have BK208 := n2_; have GW208 := n3_; have GE208 := n4_; have NB207_208 := n5_; have NB208_207 := n6_; clear n0_ n1_ n2_ n3_ n4_ n5_ n6_; clear hb hbox hg; have hnb10 := NB207_208.out; have hnc10 := NB208_207.out; have hcz11_0 : w9.cell? ⟨gb207, 0, none⟩ = some (.int .i64 a0_0) := (blk_cell BK207.out 0).trans rfl; have hcz11_1 : w9.cell? ⟨gb207, 1, none⟩ = some (.bool true) := (blk_cell BK207.out 1).trans rfl; have hcz11_2 : w9.cell? ⟨gb207, 2, none⟩ = some (.int .u8 a0_2) := (blk_cell BK207.out 2).trans rfl; have hfz11_0 := blk_frozen BK207.out 0; have hfz11_1 := blk_frozen BK207.out 1; have hfz11_2 := blk_frozen BK207.out 2; have hcz12_0 : w9.cell? ⟨gb208, 0, none⟩ = some (.int .i64 0) := (blk_cell BK208.out 0).trans rfl; have hcz12_1 : w9.cell? ⟨gb208, 1, none⟩ = some (.bool false) := (blk_cell BK208.out 1).trans rfl; have hcz12_2 : w9.cell? ⟨gb208, 2, none⟩ = some (.int .u8 0) := (blk_cell BK208.out 2).trans rfl; have hfz12_0 := blk_frozen BK208.out 0; have hfz12_1 := blk_frozen BK208.out 1; have hfz12_2 := blk_frozen BK208.out 2))
     refine bodyPost_ret (results_ct rfl _ _ gb208 92 #[.int .i64 (wrap64 (a0_0 - 1)), .bool true, .int .u8 a0_2] (0, 0) _ rfl (by (with_reducible repeat (first | refine blk_drewN ?_ _ | refine blk_drew ?_ | refine blk_alloc ?_ _)); refine blk_put (cs := #[.int .i64 (wrap64 (a0_0 - 1)), .bool true, .int .u8 0]) ?_ 2 _ rfl; (with_reducible repeat (first | refine blk_drewN ?_ _ | refine blk_drew ?_ | refine blk_alloc ?_ _)); refine blk_put (cs := #[.int .i64 (wrap64 (a0_0 - 1)), .bool false, .int .u8 0]) ?_ 1 _ rfl; (with_reducible repeat (first | refine blk_drewN ?_ _ | refine blk_drew ?_ | refine blk_alloc ?_ _)); refine blk_put (cs := #[.int .i64 0, .bool false, .int .u8 0]) ?_ 0 _ rfl; (with_reducible repeat (first | refine blk_drewN ?_ _ | refine blk_drew ?_ | refine blk_alloc ?_ _)); refine blk_far ?_ NB208_207.out _; (with_reducible repeat (first | refine blk_drewN ?_ _ | refine blk_drew ?_ | refine blk_alloc ?_ _)); exact BK208.out) Try.underlying92 rfl zz4) rfl ?_
     exact ⟨by first | rfl | (simp [errW_none, errW_some] <;> rfl) | (simp only [← hji6]; first | rfl | (simp [errW_none, errW_some] <;> rfl)) | (simp [*, errW_none, errW_some] <;> rfl), zz40⟩
    ·
     rw [if_neg c7] at H
     have c7b0 : ((Go.bits .and .u8 a1 (((ji6) - 1) % 256)) == 0) = false := beq_eq_false_iff_ne.mpr c7
     have c7b1 : ((Go.bits .and .u8 a1 (((ji6) - 1) % 256)) != 0) = true := bne_iff_ne.mpr c7
     simp only [Option.some.injEq, Prod.mk.injEq] at H
     obtain ⟨rfl, rfl, rfl, rfl⟩ := H
     go_enter Try.func67, Try.ntmps67
     go_wp2_with (first | ((with_reducible refine gate_dst (N := 2) rfl ?_); refine zzbx (N := 2) (cs := #[.int .i64 a0_0, .bool true, .int .u8 a0_2]) (t := 92) ?_; intro gb207 hg w13 hbox hb; have n0_ := Aside0.mk (below_step zz1 hb); have n1_ := Aside0.mk (hbox); have n2_ := Aside0.mk ((zz15 : w.heap.size ≤ gb207)); have n3_ := Aside0.mk ((zz15 : w.heap.size ≤ gb207)); clear HB; have HB := n0_; have BK207 := n1_; have GW207 := n2_; have GE207 := n3_; clear n0_ n1_ n2_ n3_; clear hb hbox hg) | ((with_reducible refine gate_dst (N := 4) rfl ?_); refine zzbx (N := 4) (cs := #[.int .i64 0, .bool false, .int .u8 0]) (t := 92) ?_; intro gb208 hg w14 hbox hb; have n0_ := Aside0.mk (blk_below (g := gb207) (o := .cells #[.int .i64 a0_0, .bool true, .int .u8 a0_2] 92 (0, 0)) zz22 hb); have n1_ := Aside0.mk (below_step zz12 hb); have n2_ := Aside0.mk (hbox); have n3_ := Aside0.mk ((zz63 : w.heap.size ≤ gb208)); have n4_ := Aside0.mk ((zz63 : w.heap.size ≤ gb208)); have n5_ := Aside0.mk ((zz76 : gb207 ≠ gb208)); have n6_ := Aside0.mk ((zz77 : gb208 ≠ gb207)); clear BK207; clear HB; have BK207 := n0_; have HB := n1_; have BK208 := n2_; have GW208 := n3_; have GE208 := n4_; have NB207_208 := n5_; have NB208_207 := n6_; clear n0_ n1_ n2_ n3_ n4_ n5_ n6_; clear hb hbox hg; have hnb15 := NB207_208.out; have hnc15 := NB208_207.out; have hcz16_0 : w14.cell? ⟨gb207, 0, none⟩ = some (.int .i64 a0_0) := (blk_cell BK207.out 0).trans rfl; have hcz16_1 : w14.cell? ⟨gb207, 1, none⟩ = some (.bool true) := (blk_cell BK207.out 1).trans rfl; have hcz16_2 : w14.cell? ⟨gb207, 2, none⟩ = some (.int .u8 a0_2) := (blk_cell BK207.out 2).trans rfl; have hfz16_0 := blk_frozen BK207.out 0; have hfz16_1 := blk_frozen BK207.out 1; have hfz16_2 := blk_frozen BK207.out 2; have hcz17_0 : w14.cell? ⟨gb208, 0, none⟩ = some (.int .i64 0) := (blk_cell BK208.out 0).trans rfl; have hcz17_1 : w14.cell? ⟨gb208, 1, none⟩ = some (.bool false) := (blk_cell BK208.out 1).trans rfl; have hcz17_2 : w14.cell? ⟨gb208, 2, none⟩ = some (.int .u8 0) := (blk_cell BK208.out 2).trans rfl; have hfz17_0 := blk_frozen BK208.out 0; have hfz17_1 := blk_frozen BK208.out 1; have hfz17_2 := blk_frozen BK208.out 2))
     refine bodyPost_ret (results_ct rfl _ _ gb208 92 #[.int .i64 0, .bool false, .int .u8 0] (0, 0) _ rfl zz32 Try.underlying92 rfl zz4) rfl ?_
     exact ⟨by first | rfl | (simp [errW_none, errW_some] <;> rfl) | (simp only [← hji6]; first | rfl | (simp [errW_none, errW_some] <;> rfl)) | (simp [*, errW_none, errW_some] <;> rfl), zz40⟩
   ·
    rw [if_neg c5] at H
    exact absurd H zz43
  ·
   rw [if_neg c4] at H
   have c4b0 : ((wrap64 (a0_0 - 1)) == 0) = false := beq_eq_false_iff_ne.mpr c4
   have c4b1 : ((wrap64 (a0_0 - 1)) != 0) = true := bne_iff_ne.mpr c4
   simp only [Option.some.injEq, Prod.mk.injEq] at H
   obtain ⟨rfl, rfl, rfl, rfl⟩ := H
   go_enter Try.func67, Try.ntmps67
   go_wp2_with (first | ((with_reducible refine gate_dst (N := 2) rfl ?_); refine zzbx (N := 2) (cs := #[.int .i64 a0_0, .bool true, .int .u8 a0_2]) (t := 92) ?_; intro gb207 hg w18 hbox hb; have n0_ := Aside0.mk (below_step zz1 hb); have n1_ := Aside0.mk (hbox); have n2_ := Aside0.mk ((zz15 : w.heap.size ≤ gb207)); have n3_ := Aside0.mk ((zz15 : w.heap.size ≤ gb207)); clear HB; have HB := n0_; have BK207 := n1_; have GW207 := n2_; have GE207 := n3_; clear n0_ n1_ n2_ n3_; clear hb hbox hg) | ((with_reducible refine gate_dst (N := 4) rfl ?_); refine zzbx (N := 4) (cs := #[.int .i64 0, .bool false, .int .u8 0]) (t := 92) ?_; intro gb208 hg w19 hbox hb; have n0_ := Aside0.mk (blk_below (g := gb207) (o := .cells #[.int .i64 a0_0, .bool true, .int .u8 a0_2] 92 (0, 0)) zz22 hb); have n1_ := Aside0.mk (below_step zz12 hb); have n2_ := Aside0.mk (hbox); have n3_ := Aside0.mk ((zz63 : w.heap.size ≤ gb208)); have n4_ := Aside0.mk ((zz63 : w.heap.size ≤ gb208)); have n5_ := Aside0.mk ((zz76 : gb207 ≠ gb208)); have n6_ := Aside0.mk ((zz77 : gb208 ≠ gb207)); clear BK207; clear HB; have BK207 := n0_; have HB := n1_; have BK208 := n2_; have GW208 := n3_; have GE208 := n4_; have NB207_208 := n5_; have NB208_207 := n6_; clear n0_ n1_ n2_ n3_ n4_ n5_ n6_; clear hb hbox hg; have hnb20 := NB207_208.out; have hnc20 := NB208_207.out; have hcz21_0 : w19.cell? ⟨gb207, 0, none⟩ = some (.int .i64 a0_0) := (blk_cell BK207.out 0).trans rfl; have hcz21_1 : w19.cell? ⟨gb207, 1, none⟩ = some (.bool true) := (blk_cell BK207.out 1).trans rfl; have hcz21_2 : w19.cell? ⟨gb207, 2, none⟩ = some (.int .u8 a0_2) := (blk_cell BK207.out 2).trans rfl; have hfz21_0 := blk_frozen BK207.out 0; have hfz21_1 := blk_frozen BK207.out 1; have hfz21_2 := blk_frozen BK207.out 2; have hcz22_0 : w19.cell? ⟨gb208, 0, none⟩ = some (.int .i64 0) := (blk_cell BK208.out 0).trans rfl; have hcz22_1 : w19.cell? ⟨gb208, 1, none⟩ = some (.bool false) := (blk_cell BK208.out 1).trans rfl; have hcz22_2 : w19.cell? ⟨gb208, 2, none⟩ = some (.int .u8 0) := (blk_cell BK208.out 2).trans rfl; have hfz22_0 := blk_frozen BK208.out 0; have hfz22_1 := blk_frozen BK208.out 1; have hfz22_2 := blk_frozen BK208.out 2))
   refine bodyPost_ret (results_ct rfl _ _ gb208 92 #[.int .i64 (wrap64 (a0_0 - 1)), .bool true, .int .u8 a0_2] (0, 0) _ rfl (by (with_reducible repeat (first | refine blk_drewN ?_ _ | refine blk_drew ?_ | refine blk_alloc ?_ _)); refine blk_put (cs := #[.int .i64 (wrap64 (a0_0 - 1)), .bool true, .int .u8 0]) ?_ 2 _ rfl; (with_reducible repeat (first | refine blk_drewN ?_ _ | refine blk_drew ?_ | refine blk_alloc ?_ _)); refine blk_put (cs := #[.int .i64 (wrap64 (a0_0 - 1)), .bool false, .int .u8 0]) ?_ 1 _ rfl; (with_reducible repeat (first | refine blk_drewN ?_ _ | refine blk_drew ?_ | refine blk_alloc ?_ _)); refine blk_put (cs := #[.int .i64 0, .bool false, .int .u8 0]) ?_ 0 _ rfl; (with_reducible repeat (first | refine blk_drewN ?_ _ | refine blk_drew ?_ | refine blk_alloc ?_ _)); refine blk_far ?_ NB208_207.out _; (with_reducible repeat (first | refine blk_drewN ?_ _ | refine blk_drew ?_ | refine blk_alloc ?_ _)); exact BK208.out) Try.underlying92 rfl zz4) rfl ?_
   exact ⟨zz3, zz40⟩
 ·
  replace c3 := Bool.eq_false_iff.mpr c3
  subst c3
  have H1 : (if a1 > 7 then (some (0, false, 0, false)) else (if a1 > 0 then (if (wrap64 (a0_0 - 1)) = 0 then (some (0, false, 0, false)) else (some (wrap64 (a0_0 - 1), true, a1, true))) else (some (wrap64 (a0_0 - 1), true, a1, true)))) = some (r1, r2, r3, r4) := by rw [if_neg (show ¬ (false = true) by decide)] at H; exact H
  clear H
  have H := H1
  clear H1
  by_cases c23 : a1 > 7
  ·
   rw [if_pos c23] at H
   have c23b0 : decide (7 < a1) = true := decide_eq_true c23
   clear c23
   simp only [Option.some.injEq, Prod.mk.injEq] at H
   obtain ⟨rfl, rfl, rfl, rfl⟩ := H
   go_enter Try.func67, Try.ntmps67
   go_wp2_with (first | ((with_reducible refine gate_dst (N := 2) rfl ?_); refine zzbx (N := 2) (cs := #[.int .i64 a0_0, .bool false, .int .u8 a0_2]) (t := 92) ?_; intro gb207 hg w24 hbox hb; have n0_ := Aside0.mk (below_step zz1 hb); have n1_ := Aside0.mk (hbox); have n2_ := Aside0.mk ((zz15 : w.heap.size ≤ gb207)); have n3_ := Aside0.mk ((zz15 : w.heap.size ≤ gb207)); clear HB; have HB := n0_; have BK207 := n1_; have GW207 := n2_; have GE207 := n3_; clear n0_ n1_ n2_ n3_; clear hb hbox hg) | ((with_reducible refine gate_dst (N := 4) rfl ?_); refine zzbx (N := 4) (cs := #[.int .i64 0, .bool false, .int .u8 0]) (t := 92) ?_; intro gb208 hg w25 hbox hb; have n0_ := Aside0.mk (blk_below (g := gb207) (o := .cells #[.int .i64 a0_0, .bool false, .int .u8 a0_2] 92 (0, 0)) zz22 hb); have n1_ := Aside0.mk (below_step zz12 hb); have n2_ := Aside0.mk (hbox); have n3_ := Aside0.mk ((zz63 : w.heap.size ≤ gb208)); have n4_ := Aside0.mk ((zz63 : w.heap.size ≤ gb208)); have n5_ := Aside0.mk ((zz65 : gb207 ≠ gb208)); have n6_ := Aside0.mk ((zz66 : gb208 ≠ gb207)); clear BK207; clear HB; have BK207 := n0_; have HB := n1_; have BK208 := n2_; have GW208 := n3_; have GE208 := n4_; have NB207_208 := n5_; have NB208_207 := n6_; clear n0_ n1_ n2_ n3_ n4_ n5_ n6_; clear hb hbox hg; have hnb26 := NB207_208.out; have hnc26 := NB208_207.out; have hcz27_0 : w25.cell? ⟨gb207, 0, none⟩ = some (.int .i64 a0_0) := (blk_cell BK207.out 0).trans rfl; have hcz27_1 : w25.cell? ⟨gb207, 1, none⟩ = some (.bool false) := (blk_cell BK207.out 1).trans rfl; have hcz27_2 : w25.cell? ⟨gb207, 2, none⟩ = some (.int .u8 a0_2) := (blk_cell BK207.out 2).trans rfl; have hfz27_0 := blk_frozen BK207.out 0; have hfz27_1 := blk_frozen BK207.out 1; have hfz27_2 := blk_frozen BK207.out 2; have hcz28_0 : w25.cell? ⟨gb208, 0, none⟩ = some (.int .i64 0) := (blk_cell BK208.out 0).trans rfl; have hcz28_1 : w25.cell? ⟨gb208, 1, none⟩ = some (.bool false) := (blk_cell BK208.out 1).trans rfl; have hcz28_2 : w25.cell? ⟨gb208, 2, none⟩ = some (.int .u8 0) := (blk_cell BK208.out 2).trans rfl; have hfz28_0 := blk_frozen BK208.out 0; have hfz28_1 := blk_frozen BK208.out 1; have hfz28_2 := blk_frozen BK208.out 2))
   refine bodyPost_ret (results_ct rfl _ _ gb208 92 #[.int .i64 0, .bool false, .int .u8 0] (0, 0) _ rfl zz32 Try.underlying92 rfl zz4) rfl ?_
   exact ⟨zz3, zz40⟩
  ·
   rw [if_neg c23] at H
   have c23b0 : decide (7 < a1) = false := decide_eq_false c23
   clear c23
   by_cases c29 : a1 > 0
   ·
    rw [if_pos c29] at H
    have c29b0 : decide (0 < a1) = true := decide_eq_true c29
    clear c29
    by_cases c30 : (wrap64 (a0_0 - 1)) = 0
    ·
     rw [if_pos c30] at H
     have c30b0 : ((wrap64 (a0_0 - 1)) == 0) = true := beq_iff_eq.mpr c30
     have c30b1 : ((wrap64 (a0_0 - 1)) != 0) = false := bne_eq_false_iff_eq.mpr c30
     clear c30
     simp only [Option.some.injEq, Prod.mk.injEq] at H
     obtain ⟨rfl, rfl, rfl, rfl⟩ := H
     go_enter Try.func67, Try.ntmps67
     go_wp2_with (first | ((with_reducible refine gate_dst (N := 2) rfl ?_); refine zzbx (N := 2) (cs := #[.int .i64 a0_0, .bool false, .int .u8 a0_2]) (t := 92) ?_; intro gb207 hg w31 hbox hb; have n0_ := Aside0.mk (below_step zz1 hb); have n1_ := Aside0.mk (hbox); have n2_ := Aside0.mk ((zz15 : w.heap.size ≤ gb207)); have n3_ := Aside0.mk ((zz15 : w.heap.size ≤ gb207)); clear HB; have HB := n0_; have BK207 := n1_; have GW207 := n2_; have GE207 := n3_; clear n0_ n1_ n2_ n3_; clear hb hbox hg) | ((with_reducible refine gate_dst (N := 4) rfl ?_); refine zzbx (N := 4) (cs := #[.int .i64 0, .bool false, .int .u8 0]) (t := 92) ?_; intro gb208 hg w32 hbox hb; have n0_ := Aside0.mk (blk_below (g := gb207) (o := .cells #[.int .i64 a0_0, .bool false, .int .u8 a0_2] 92 (0, 0)) zz22 hb); have n1_ := Aside0.mk (below_step zz12 hb); have n2_ := Aside0.mk (hbox); have n3_ := Aside0.mk ((zz63 : w.heap.size ≤ gb208)); have n4_ := Aside0.mk ((zz63 : w.heap.size ≤ gb208)); have n5_ := Aside0.mk ((zz65 : gb207 ≠ gb208)); have n6_ := Aside0.mk ((zz66 : gb208 ≠ gb207)); clear BK207; clear HB; have BK207 := n0_; have HB := n1_; have BK208 := n2_; have GW208 := n3_; have GE208 := n4_; have NB207_208 := n5_; have NB208_207 := n6_; clear n0_ n1_ n2_ n3_ n4_ n5_ n6_; clear hb hbox hg; have hnb33 := NB207_208.out; have hnc33 := NB208_207.out; have hcz34_0 : w32.cell? ⟨gb207, 0, none⟩ = some (.int .i64 a0_0) := (blk_cell BK207.out 0).trans rfl; have hcz34_1 : w32.cell? ⟨gb207, 1, none⟩ = some (.bool false) := (blk_cell BK207.out 1).trans rfl; have hcz34_2 : w32.cell? ⟨gb207, 2, none⟩ = some (.int .u8 a0_2) := (blk_cell BK207.out 2).trans rfl; have hfz34_0 := blk_frozen BK207.out 0; have hfz34_1 := blk_frozen BK207.out 1; have hfz34_2 := blk_frozen BK207.out 2; have hcz35_0 : w32.cell? ⟨gb208, 0, none⟩ = some (.int .i64 0) := (blk_cell BK208.out 0).trans rfl; have hcz35_1 : w32.cell? ⟨gb208, 1, none⟩ = some (.bool false) := (blk_cell BK208.out 1).trans rfl; have hcz35_2 : w32.cell? ⟨gb208, 2, none⟩ = some (.int .u8 0) := (blk_cell BK208.out 2).trans rfl; have hfz35_0 := blk_frozen BK208.out 0; have hfz35_1 := blk_frozen BK208.out 1; have hfz35_2 := blk_frozen BK208.out 2))
     refine bodyPost_ret (results_ct rfl _ _ gb208 92 #[.int .i64 0, .bool false, .int .u8 0] (0, 0) _ rfl zz32 Try.underlying92 rfl zz4) rfl ?_
     exact ⟨zz3, zz40⟩
    ·
     rw [if_neg c30] at H
     have c30b0 : ((wrap64 (a0_0 - 1)) == 0) = false := beq_eq_false_iff_ne.mpr c30
     have c30b1 : ((wrap64 (a0_0 - 1)) != 0) = true := bne_iff_ne.mpr c30
     simp only [Option.some.injEq, Prod.mk.injEq] at H
     obtain ⟨rfl, rfl, rfl, rfl⟩ := H
     go_enter Try.func67, Try.ntmps67
     go_wp2_with (first | ((with_reducible refine gate_dst (N := 2) rfl ?_); refine zzbx (N := 2) (cs := #[.int .i64 a0_0, .bool false, .int .u8 a0_2]) (t := 92) ?_; intro gb207 hg w36 hbox hb; have n0_ := Aside0.mk (below_step zz1 hb); have n1_ := Aside0.mk (hbox); have n2_ := Aside0.mk ((zz15 : w.heap.size ≤ gb207)); have n3_ := Aside0.mk ((zz15 : w.heap.size ≤ gb207)); clear HB; have HB := n0_; have BK207 := n1_; have GW207 := n2_; have GE207 := n3_; clear n0_ n1_ n2_ n3_; clear hb hbox hg) | ((with_reducible refine gate_dst (N := 4) rfl ?_); refine zzbx (N := 4) (cs := #[.int .i64 0, .bool false, .int .u8 0]) (t := 92) ?_; intro gb208 hg w37 hbox hb; have n0_ := Aside0.mk (blk_below (g := gb207) (o := .cells #[.int .i64 a0_0, .bool false, .int .u8 a0_2] 92 (0, 0)) zz22 hb); have n1_ := Aside0.mk (below_step zz12 hb); have n2_ := Aside0.mk (hbox); have n3_ := Aside0.mk ((zz63 : w.heap.size ≤ gb208)); have n4_ := Aside0.mk ((zz63 : w.heap.size ≤ gb208)); have n5_ := Aside0.mk ((zz65 : gb207 ≠ gb208)); have n6_ := Aside0.mk ((zz66 : gb208 ≠ gb207)); clear BK207; clear HB; have BK207 := n0_; have HB := n1_; have BK208 := n2_; have GW208 := n3_; have GE208 := n4_; have NB207_208 := n5_; have NB208_207 := n6_; clear n0_ n1_ n2_ n3_ n4_ n5_ n6_; clear hb hbox hg; have hnb38 := NB207_208.out; have hnc38 := NB208_207.out; have hcz39_0 : w37.cell? ⟨gb207, 0, none⟩ = some (.int .i64 a0_0) := (blk_cell BK207.out 0).trans rfl; have hcz39_1 : w37.cell? ⟨gb207, 1, none⟩ = some (.bool false) := (blk_cell BK207.out 1).trans rfl; have hcz39_2 : w37.cell? ⟨gb207, 2, none⟩ = some (.int .u8 a0_2) := (blk_cell BK207.out 2).trans rfl; have hfz39_0 := blk_frozen BK207.out 0; have hfz39_1 := blk_frozen BK207.out 1; have hfz39_2 := blk_frozen BK207.out 2; have hcz40_0 : w37.cell? ⟨gb208, 0, none⟩ = some (.int .i64 0) := (blk_cell BK208.out 0).trans rfl; have hcz40_1 : w37.cell? ⟨gb208, 1, none⟩ = some (.bool false) := (blk_cell BK208.out 1).trans rfl; have hcz40_2 : w37.cell? ⟨gb208, 2, none⟩ = some (.int .u8 0) := (blk_cell BK208.out 2).trans rfl; have hfz40_0 := blk_frozen BK208.out 0; have hfz40_1 := blk_frozen BK208.out 1; have hfz40_2 := blk_frozen BK208.out 2))
     refine bodyPost_ret (results_ct rfl _ _ gb208 92 #[.int .i64 (wrap64 (a0_0 - 1)), .bool true, .int .u8 a1] (0, 0) _ rfl (by (with_reducible repeat (first | refine blk_drewN ?_ _ | refine blk_drew ?_ | refine blk_alloc ?_ _)); refine blk_put (cs := #[.int .i64 (wrap64 (a0_0 - 1)), .bool true, .int .u8 0]) ?_ 2 _ rfl; (with_reducible repeat (first | refine blk_drewN ?_ _ | refine blk_drew ?_ | refine blk_alloc ?_ _)); refine blk_put (cs := #[.int .i64 (wrap64 (a0_0 - 1)), .bool false, .int .u8 0]) ?_ 1 _ rfl; (with_reducible repeat (first | refine blk_drewN ?_ _ | refine blk_drew ?_ | refine blk_alloc ?_ _)); refine blk_put (cs := #[.int .i64 0, .bool false, .int .u8 0]) ?_ 0 _ rfl; (with_reducible repeat (first | refine blk_drewN ?_ _ | refine blk_drew ?_ | refine blk_alloc ?_ _)); refine blk_far ?_ NB208_207.out _; (with_reducible repeat (first | refine blk_drewN ?_ _ | refine blk_drew ?_ | refine blk_alloc ?_ _)); refine blk_far ?_ NB208_207.out _; (with_reducible repeat (first | refine blk_drewN ?_ _ | refine blk_drew ?_ | refine blk_alloc ?_ _)); refine blk_far ?_ NB208_207.out _; (with_reducible repeat (first | refine blk_drewN ?_ _ | refine blk_drew ?_ | refine blk_alloc ?_ _)); exact BK208.out) Try.underlying92 rfl zz4) rfl ?_
     exact ⟨zz3, zz40⟩
   ·
    rw [if_neg c29] at H
    have c29b0 : decide (0 < a1) = false := decide_eq_false c29
    clear c29
    simp only [Option.some.injEq, Prod.mk.injEq] at H
    obtain ⟨rfl, rfl, rfl, rfl⟩ := H
    go_enter Try.func67, Try.ntmps67
    go_wp2_with (first | ((with_reducible refine gate_dst (N := 2) rfl ?_); refine zzbx (N := 2) (cs := #[.int .i64 a0_0, .bool false, .int .u8 a0_2]) (t := 92) ?_; intro gb207 hg w41 hbox hb; have n0_ := Aside0.mk (below_step zz1 hb); have n1_ := Aside0.mk (hbox); have n2_ := Aside0.mk ((zz15 : w.heap.size ≤ gb207)); have n3_ := Aside0.mk ((zz15 : w.heap.size ≤ gb207)); clear HB; have HB := n0_; have BK207 := n1_; have GW207 := n2_; have GE207 := n3_; clear n0_ n1_ n2_ n3_; clear hb hbox hg) | ((with_reducible refine gate_dst (N := 4) rfl ?_); refine zzbx (N := 4) (cs := #[.int .i64 0, .bool false, .int .u8 0]) (t := 92) ?_; intro gb208 hg w42 hbox hb; have n0_ := Aside0.mk (blk_below (g := gb207) (o := .cells #[.int .i64 a0_0, .bool false, .int .u8 a0_2] 92 (0, 0)) zz22 hb); have n1_ := Aside0.mk (below_step zz12 hb); have n2_ := Aside0.mk (hbox); have n3_ := Aside0.mk ((zz63 : w.heap.size ≤ gb208)); have n4_ := Aside0.mk ((zz63 : w.heap.size ≤ gb208)); have n5_ := Aside0.mk ((zz65 : gb207 ≠ gb208)); have n6_ := Aside0.mk ((zz66 : gb208 ≠ gb207)); clear BK207; clear HB; have BK207 := n0_; have HB := n1_; have BK208 := n2_; have GW208 := n3_; have GE208 := n4_; have NB207_208 := n5_; have NB208_207 := n6_; clear n0_ n1_ n2_ n3_ n4_ n5_ n6_; clear hb hbox hg; have hnb43 := NB207_208.out; have hnc43 := NB208_207.out; have hcz44_0 : w42.cell? ⟨gb207, 0, none⟩ = some (.int .i64 a0_0) := (blk_cell BK207.out 0).trans rfl; have hcz44_1 : w42.cell? ⟨gb207, 1, none⟩ = some (.bool false) := (blk_cell BK207.out 1).trans rfl; have hcz44_2 : w42.cell? ⟨gb207, 2, none⟩ = some (.int .u8 a0_2) := (blk_cell BK207.out 2).trans rfl; have hfz44_0 := blk_frozen BK207.out 0; have hfz44_1 := blk_frozen BK207.out 1; have hfz44_2 := blk_frozen BK207.out 2; have hcz45_0 : w42.cell? ⟨gb208, 0, none⟩ = some (.int .i64 0) := (blk_cell BK208.out 0).trans rfl; have hcz45_1 : w42.cell? ⟨gb208, 1, none⟩ = some (.bool false) := (blk_cell BK208.out 1).trans rfl; have hcz45_2 : w42.cell? ⟨gb208, 2, none⟩ = some (.int .u8 0) := (blk_cell BK208.out 2).trans rfl; have hfz45_0 := blk_frozen BK208.out 0; have hfz45_1 := blk_frozen BK208.out 1; have hfz45_2 := blk_frozen BK208.out 2))
    refine bodyPost_ret (results_ct rfl _ _ gb208 92 #[.int .i64 (wrap64 (a0_0 - 1)), .bool true, .int .u8 a1] (0, 0) _ rfl (by (with_reducible repeat (first | refine blk_drewN ?_ _ | refine blk_drew ?_ | refine blk_alloc ?_ _)); refine blk_put (cs := #[.int .i64 (wrap64 (a0_0 - 1)), .bool true, .int .u8 0]) ?_ 2 _ rfl; (with_reducible repeat (first | refine blk_drewN ?_ _ | refine blk_drew ?_ | refine blk_alloc ?_ _)); refine blk_put (cs := #[.int .i64 (wrap64 (a0_0 - 1)), .bool false, .int .u8 0]) ?_ 1 _ rfl; (with_reducible repeat (first | refine blk_drewN ?_ _ | refine blk_drew ?_ | refine blk_alloc ?_ _)); refine blk_put (cs := #[.int .i64 0, .bool false, .int .u8 0]) ?_ 0 _ rfl; (with_reducible repeat (first | refine blk_drewN ?_ _ | refine blk_drew ?_ | refine blk_alloc ?_ _)); refine blk_far ?_ NB208_207.out _; (with_reducible repeat (first | refine blk_drewN ?_ _ | refine blk_drew ?_ | refine blk_alloc ?_ _)); refine blk_far ?_ NB208_207.out _; (with_reducible repeat (first | refine blk_drewN ?_ _ | refine blk_drew ?_ | refine blk_alloc ?_ _)); refine blk_far ?_ NB208_207.out _; (with_reducible repeat (first | refine blk_drewN ?_ _ | refine blk_drew ?_ | refine blk_alloc ?_ _)); exact BK208.out) Try.underlying92 rfl zz4) rfl ?_
    exact ⟨zz3, zz40⟩
def bitstr_right.l0 : Nat → ByteArray → Bool → Int → Int → Bool → Int → Option (Bool)
 | 0, _, _, _, _, _, _ => none
 | k + 1, x0, x4, x5, x214000, x214001, x214002 => if x4 = true then (if x5 < (x0.size : Int) then (if 0 ≤ x5 then ((bitstr_State_Push.f x214000 x214001 x214002 (bt x0 x5)).bind fun bt214 => (bitstr_right.l0 k x0 bt214.2.2.2 (wrap64 (x5 + 1)) bt214.1 bt214.2.1 bt214.2.2.1)) else (none)) else (some x4)) else (some x4)
def bitstr_right.f (k : Nat) (a0 : ByteArray) : Option (Bool) := (bitstr_Start.f (a0.size : Int)).bind fun bt209 => (bitstr_right.l0 k a0 bt209.2.2.2 0 bt209.1 bt209.2.1 bt209.2.2.1)
def bitstr_right.T5 : Bool × List (List Nat × List Nat) := (true, [([], []), ([], []), ([], []), ([1, 2], [1, 2]), ([0, 3], [0, 3]), ([4], [4]), ([5], [5]), ([5], [5]), ([6, 4, 0, 1, 2, 3, 4, 5, 6], [6]), ([7, 8, 0, 1, 2, 3, 4, 5, 6, 7, 8], [7])])
def bitstr_right.B5 : List Nat := [0, 0, 0, 6, 15, 31, 63, 63, 127, 511]
theorem bitstr_right.tab5 : rtab .any (opsOf Try.f45 5) = bitstr_right.T5 := by kernel_rfl
theorem bitstr_right.bits5 : waitsOk bitstr_right.T5.2 bitstr_right.B5 = true := by kernel_rfl
set_option maxHeartbeats 8000000 in
set_option maxRecDepth 100000 in
theorem bitstr_right.calls (k : Nat) (a0 : ByteArray) (r : Bool) (w : World) (h : bitstr_right.f k a0 = some r) :
 Calls Try.prog 45 #[.string a0] w fun e w' => e = .returned (.bool r) ∧ Below w.heap.size w w' := by
 have hu92 := Try.underlying92
 have HB := Aside0.mk (Below.refl w.heap.size w)
 have H : ((bitstr_Start.f (a0.size : Int)).bind fun bt209 => (bitstr_right.l0 k a0 bt209.2.2.2 0 bt209.1 bt209.2.1 bt209.2.2.1)) = some r := h
 clear h
 replace H := Option.bind_eq_some_iff.mp H
 obtain ⟨⟨t209, t210, t211, t212⟩, A20, H⟩ := H
 replace H : (bitstr_right.l0 k a0 t212 0 t209 t210 t211) = some r := H
 have A2 := Aside0.mk A20
 clear A20
 have H' := Aside0.mk H
 clear H
 go_enter Try.func45, Try.ntmps45
 go_wp2_with (first | ((with_reducible refine gate_callee (f := 66) rfl ?_); refine goesL_ (some 9) rfl rfl Try.func66 zz4 rfl #[.int .i64 (a0.size : Int)] rfl zz5 ?_; (with_reducible refine (bitstr_Start.calls (a0.size : Int) t209 t210 t211 t212 _ A2.out).mono ?_); rintro e w3 ⟨rfl, hb⟩; refine ⟨_, rfl, ?_⟩; have n0_ := Aside0.mk (below_step zz1 hb); clear HB; have HB := n0_; clear n0_; (try clear hb); (try clear hb2); (try clear hk); (try clear hi)) | ((with_reducible refine gate_dst (N := 3) rfl ?_); (try (refine gate_guard zz54 ?_; dsimp only)); refine zzbx (N := 3) (cs := #[.int .i64 0, .bool false, .int .u8 0]) (t := 92) ?_; intro gb213 hg w4 hbox hb; have n0_ := Aside0.mk (below_step zz1 hb); have n1_ := Aside0.mk (hbox); have n2_ := Aside0.mk ((zz15 : w.heap.size ≤ gb213)); have n3_ := Aside0.mk ((zz15 : w.heap.size ≤ gb213)); clear HB; have HB := n0_; have BK213 := n1_; have GW213 := n2_; have GE213 := n3_; clear n0_ n1_ n2_ n3_; clear hb hbox hg; have hcz5_0 : w4.cell? ⟨gb213, 0, none⟩ = some (.int .i64 0) := (blk_cell BK213.out 0).trans rfl; have hcz5_1 : w4.cell? ⟨gb213, 1, none⟩ = some (.bool false) := (blk_cell BK213.out 1).trans rfl; have hcz5_2 : w4.cell? ⟨gb213, 2, none⟩ = some (.int .u8 0) := (blk_cell BK213.out 2).trans rfl; have hfz5_0 := blk_frozen BK213.out 0; have hfz5_1 := blk_frozen BK213.out 1; have hfz5_2 := blk_frozen BK213.out 2))
 go_loopg [4, 5] k (fun kq v4 v5 w' => ∃ (x4_1 : Bool) (x5_1 : Int) (x214000_1 : Int) (x214001_1 : Bool) (x214002_1 : Int), v4 = .bool x4_1 ∧ v5 = .int .i64 x5_1 ∧ Aside0 (bitstr_right.l0 kq a0 x4_1 x5_1 x214000_1 x214001_1 x214002_1 = some r) ∧ Aside0 (kq ≤ k) ∧ Aside0 (w'.heap[gb213]? = some (.cells #[.int .i64 x214000_1, .bool x214001_1, .int .u8 x214002_1] 92 (0, 0))) ∧ Aside0 (Below w.heap.size w w'))
 case atStart => exact ⟨(t212), (0), (t209), (t210), (t211), zz0, zz0, H', ⟨Nat.le_refl _⟩, ⟨by (with_reducible repeat (first | refine blk_drewN ?_ _ | refine blk_drew ?_ | refine blk_alloc ?_ _)); refine blk_put (cs := #[.int .i64 t209, .bool t210, .int .u8 0]) ?_ 2 _ rfl; (with_reducible repeat (first | refine blk_drewN ?_ _ | refine blk_drew ?_ | refine blk_alloc ?_ _)); refine blk_put (cs := #[.int .i64 t209, .bool false, .int .u8 0]) ?_ 1 _ rfl; (with_reducible repeat (first | refine blk_drewN ?_ _ | refine blk_drew ?_ | refine blk_alloc ?_ _)); refine blk_put (cs := #[.int .i64 0, .bool false, .int .u8 0]) ?_ 0 _ rfl; (with_reducible repeat (first | refine blk_drewN ?_ _ | refine blk_drew ?_ | refine blk_alloc ?_ _)); exact BK213.out⟩, ⟨zz52⟩⟩
 case round =>
  clear H'
  try clear p2
  try clear c4
  try clear hcz5_0
  try clear hcz5_1
  try clear hcz5_2
  try clear hfz5_0
  try clear hfz5_1
  try clear hfz5_2
  obtain ⟨x4_1, x5_1, x214000_1, x214001_1, x214002_1, rfl, rfl, HA, HK1, BK213, HB⟩ := hrel
  cases gk with
  | zero => exact absurd HA.out (by simp [bitstr_right.l0])
  | succ k1 =>
    have H := HA.out
    clear HA
    simp only [bitstr_right.l0] at H
    by_cases c6 : x4_1 = true
    ·
     subst c6
     have H1 : (if x5_1 < (a0.size : Int) then (if 0 ≤ x5_1 then ((bitstr_State_Push.f x214000_1 x214001_1 x214002_1 (bt a0 x5_1)).bind fun bt214 => (bitstr_right.l0 k1 a0 bt214.2.2.2 (wrap64 (x5_1 + 1)) bt214.1 bt214.2.1 bt214.2.2.1)) else (none)) else (some true)) = some r := by rw [if_pos rfl] at H; exact H
     clear H
     have H := H1
     clear H1
     by_cases c7 : x5_1 < (a0.size : Int)
     ·
      rw [if_pos c7] at H
      have c7b0 : decide (x5_1 < (a0.size : Int)) = true := decide_eq_true c7
      clear c7
      by_cases c8 : 0 ≤ x5_1
      ·
       rw [if_pos c8] at H
       have c8b0 : decide (0 ≤ x5_1) = true := decide_eq_true c8
       clear c8
       replace H := Option.bind_eq_some_iff.mp H
       obtain ⟨⟨t214, t215, t216, t217⟩, A100, H⟩ := H
       replace H : (bitstr_right.l0 k1 a0 t217 (wrap64 (x5_1 + 1)) t214 t215 t216) = some r := H
       have A10 := Aside0.mk A100
       clear A100
       have H' := Aside0.mk H
       clear H
       try go_wp2
       have n0_ := Aside0.mk (blk_drew BK213.out)
       have n1_ := Aside0.mk (below_drew1 HB.out)
       clear BK213
       clear HB
       have BK213 := n0_
       have HB := n1_
       clear n0_ n1_
       have p9 : 0 ≤ (x5_1 : Int) := of_decide_eq_true zz6
       have q9 : x5_1 < (a0.size : Int) := of_decide_eq_true zz6
       have hx9 := bt_at a0 x5_1
       replace p9 := eq_true p9
       replace q9 := eq_true q9
       refine start_ (n := 10) (S := fun w' => w'.cell? ⟨gb213, 0, none⟩ = some (.int .i64 x214000_1) ∧ w'.cell? ⟨gb213, 1, none⟩ = some (.bool x214001_1) ∧ w'.cell? ⟨gb213, 2, none⟩ = some (.int .u8 x214002_1)) (ds := [8]) #[false, false, false, false, false, false, false, false, false, false] zz4 rfl rfl ⟨(blk_cell BK213.out 0).trans rfl, (blk_cell BK213.out 1).trans rfl, (blk_cell BK213.out 2).trans rfl⟩ (fun hHeld => ?_); refine with_tabW bitstr_right.tab5 bitstr_right.bits5 (fun HT_ HW_ => ?_)
       generalize wr.drew = w11 at BK213 HB hHeld ⊢
       refine pure_ (i := 1) (N := some 23) (v := ?_) (a' := ?_) #[false, true, false, false, false, false, false, false, false, false] rfl rfl (any_of HT_.out zz4) (fun _ _ _ h => h) (Or.inl ⟨zz54, ?_⟩) ?_ ?_
       rotate_left
       ·
        intro w'
        go_simp
        with_reducible rfl
       rotate_left
       ·
        simp only [Act.put, List.setIfInBounds_toArray, List.set_cons_zero, List.set_cons_succ, i64_w, i32_w]
        rfl
       refine pure_ (i := 2) (N := some 24) (v := ?_) (a' := ?_) #[false, true, true, false, false, false, false, false, false, false] rfl rfl (any_of HT_.out zz4) (fun _ _ _ h => h) (Or.inl ⟨zz54, ?_⟩) ?_ ?_
       rotate_left
       ·
        intro w'
        go_simp
        with_reducible rfl
       rotate_left
       ·
        simp only [Act.put, List.setIfInBounds_toArray, List.set_cons_zero, List.set_cons_succ, i64_w, i32_w]
        rfl
       refine take_ (i := 0) (N := some 22) (v := ?_) (a' := ?_) #[true, true, true, false, false, false, false, false, false, false] rfl rfl (take_ofW HT_.out HW_.out zz4) (fun _ _ _ h => h) (Or.inl ⟨zz54, ?_⟩) hHeld ?_ ?_
       rotate_left
       ·
        rintro w' ⟨s0, s1, s2⟩
        go_simp
        with_reducible rfl
       rotate_left
       ·
        simp only [Act.put, List.setIfInBounds_toArray, List.set_cons_zero, List.set_cons_succ, i64_w, i32_w]
        rfl
       refine take_ (i := 3) (N := some 25) (v := ?_) (a' := ?_) #[true, true, true, true, false, false, false, false, false, false] rfl rfl (take_ofW HT_.out HW_.out zz4) (fun _ _ _ h => h) (Or.inl ⟨zz54, ?_⟩) hHeld ?_ ?_
       rotate_left
       ·
        rintro w' ⟨s0, s1, s2⟩
        go_simp
        with_reducible rfl
       rotate_left
       ·
        simp only [Act.put, List.setIfInBounds_toArray, List.set_cons_zero, List.set_cons_succ, i64_w, i32_w]
        rfl
       refine one_ (i := 4) (N := some 26) #[true, true, true, true, true, false, false, false, false, false] rfl rfl (one_of HT_.out zz4) zz13 (fun K hK => ?_)
       refine goes_ Try.func67 zz4 rfl #[.agg #[.int .i64 x214000_1, .bool x214001_1, .int .u8 x214002_1], .int .u8 (bt a0 x5_1)] zz54 rfl rfl zz5 ?_
       with_reducible refine (bitstr_State_Push.calls x214000_1 x214001_1 x214002_1 (bt a0 x5_1) t214 t215 t216 t217 _ A10.out).mono ?_
       rintro e w12 ⟨rfl, hb⟩
       refine ⟨_, rfl, ?_⟩
       have n0_ := Aside0.mk (blk_below (g := gb213) (o := .cells #[.int .i64 x214000_1, .bool x214001_1, .int .u8 x214002_1] 92 (0, 0)) (by (with_reducible repeat (first | refine blk_drewN ?_ _ | refine blk_drew ?_ | refine blk_alloc ?_ _)); exact BK213.out) hb)
       have n1_ := Aside0.mk (below_step zz52 hb)
       clear BK213
       clear HB
       have BK213 := n0_
       have HB := n1_
       clear n0_ n1_
       (try clear hb)
       (try clear hb2)
       (try clear hk)
       (try clear hi)
       refine hK.out _ _ ⟨(blk_cell BK213.out 0).trans rfl, (blk_cell BK213.out 1).trans rfl, (blk_cell BK213.out 2).trans rfl⟩ (fun hHeld => ?_)
       clear hK K
       refine norm_ (a' := ?_) ?_ ?_
       rotate_left
       ·
        show Act.put _ (some 26) _ = _
        simp only [Act.put, List.setIfInBounds_toArray, List.set_cons_zero, List.set_cons_succ, i64_w, i32_w]
        rfl
       refine pure_ (i := 5) (N := some 21) (v := ?_) (a' := ?_) #[true, true, true, true, true, true, false, false, false, false] rfl rfl (any_of HT_.out zz4) (fun _ _ _ h => h) (Or.inl ⟨zz54, ?_⟩) ?_ ?_
       rotate_left
       ·
        intro w'
        go_simp
        with_reducible rfl
       rotate_left
       ·
        simp only [Act.put, List.setIfInBounds_toArray, List.set_cons_zero, List.set_cons_succ, i64_w, i32_w]
        rfl
       refine pure_ (i := 6) (N := some 27) (v := ?_) (a' := ?_) #[true, true, true, true, true, true, true, false, false, false] rfl rfl (any_of HT_.out zz4) (fun _ _ _ h => h) (Or.inl ⟨zz54, ?_⟩) ?_ ?_
       rotate_left
       ·
        intro w'
        go_simp
        with_reducible rfl
       rotate_left
       ·
        simp only [Act.put, List.setIfInBounds_toArray, List.set_cons_zero, List.set_cons_succ, i64_w, i32_w]
        rfl
       refine pure_ (i := 7) (N := some 28) (v := ?_) (a' := ?_) #[true, true, true, true, true, true, true, true, false, false] rfl rfl (any_of HT_.out zz4) (fun _ _ _ h => h) (Or.inl ⟨zz54, ?_⟩) ?_ ?_
       rotate_left
       ·
        intro w'
        go_simp
        with_reducible rfl
       rotate_left
       ·
        simp only [Act.put, List.setIfInBounds_toArray, List.set_cons_zero, List.set_cons_succ, i64_w, i32_w]
        rfl
       refine last_ (i := 8) (N := none) #[true, true, true, true, true, true, true, true, true, false] rfl rfl (one_of HT_.out zz4) zz13 (fun K hK => ?_)
       have hs13 : w12.cell? ⟨gb213, 0, none⟩ = some (.int .i64 x214000_1) := (blk_cell BK213.out 0).trans rfl
       have hfs13 := blk_frozen BK213.out 0
       have hs14 : w12.cell? ⟨gb213, 1, none⟩ = some (.bool x214001_1) := (blk_cell BK213.out 1).trans rfl
       have hfs14 := blk_frozen BK213.out 1
       have hs15 : w12.cell? ⟨gb213, 2, none⟩ = some (.int .u8 x214002_1) := (blk_cell BK213.out 2).trans rfl
       have hfs15 := blk_frozen BK213.out 2
       refine skip_ (w1 := ?_) zz54 rfl ?_ ?_
       rotate_left
       ·
        go_simp
        rfl
       refine hK.out _ _ ?_
       clear hK K
       refine pure_ (i := 9) (N := some 4) (v := ?_) (a' := ?_) #[true, true, true, true, true, true, true, true, true, true] rfl rfl (any_of HT_.out zz4) (fun _ _ _ h => h) (Or.inl ⟨zz54, ?_⟩) ?_ ?_
       rotate_left
       ·
        intro w'
        go_simp
        with_reducible rfl
       rotate_left
       ·
        simp only [Act.put, List.setIfInBounds_toArray, List.set_cons_zero, List.set_cons_succ, i64_w, i32_w]
        rfl
       refine done_ (done_of HT_.out zz4) ?_
       try go_wp2
       go_roundg k1
       case measure => have := HK1.out; omega
       case rel => exact ⟨(t217), (wrap64 (x5_1 + 1)), (t214), (t215), (t216), zz0, zz0, H', ⟨zz68⟩, ⟨by (with_reducible repeat (first | refine blk_drewN ?_ _ | refine blk_drew ?_ | refine blk_alloc ?_ _)); refine blk_put (cs := #[.int .i64 t214, .bool t215, .int .u8 x214002_1]) ?_ 2 _ rfl; (with_reducible repeat (first | refine blk_drewN ?_ _ | refine blk_drew ?_ | refine blk_alloc ?_ _)); refine blk_put (cs := #[.int .i64 t214, .bool x214001_1, .int .u8 x214002_1]) ?_ 1 _ rfl; (with_reducible repeat (first | refine blk_drewN ?_ _ | refine blk_drew ?_ | refine blk_alloc ?_ _)); refine blk_put (cs := #[.int .i64 x214000_1, .bool x214001_1, .int .u8 x214002_1]) ?_ 0 _ rfl; (with_reducible repeat (first | refine blk_drewN ?_ _ | refine blk_drew ?_ | refine blk_alloc ?_ _)); exact BK213.out⟩, ⟨zz52⟩⟩
      ·
       rw [if_neg c8] at H
       exact absurd H zz43
     ·
      rw [if_neg c7] at H
      have c7b0 : decide (x5_1 < (a0.size : Int)) = false := decide_eq_false c7
      clear c7
      obtain rfl := Option.some.inj H
      go_wp2
      go_ret
      exact ⟨zz3, zz52⟩
    ·
     replace c6 := Bool.eq_false_iff.mpr c6
     subst c6
     have H1 : (some false) = some r := by rw [if_neg (show ¬ (false = true) by decide)] at H; exact H
     clear H
     have H := H1
     clear H1
     obtain rfl := Option.some.inj H
     go_wp2
     go_ret
     exact ⟨zz3, zz52⟩
end Go.Proofs.Ytgddaddoabjgiaa.PB
