/- What when.Get and when.Put come to. -/
import Derived.Test.YtailnnjkbiihmaaBDat
import Derived.Test.YtailnnjkbiihmaaPAx2
import Derived.Test.YtailnnjkbiihmaaPAx3
namespace Go.Proofs.Ytailnnjkbiihmaa.BDat
open Go.RowKit Go.Proofs.Ytailnnjkbiihmaa.PA Go.Proofs.YtailnnjkbiihmaaW.PrintWords Go.Proofs.YtailnnjkbiihmaaW.PrintLast Go.Proofs.YtailnnjkbiihmaaW.PrintMore
open Go.Proofs.Ytailnnjkbiihmaa.Bs
open Go.Proofs.Ytailnnjkbiihmaa.Dt
set_option linter.unusedVariables false

theorem toList_iff (a b : ByteArray) : a.toList = b.toList ↔ bytesOf a = bytesOf b := by
  have := toList_beq a b
  rw [Bool.eq_iff_iff, beq_iff_eq, beq_iff_eq] at this
  exact this
def tagOf (u : Bool) : Int := if u = true then 23 else 24
theorem start_yes (u : Bool) : when_Start.f (tagOf u) (lenOf u) = some ((⟨#[]⟩ : ByteArray), lenOf u, u, true) := by
  cases u <;> rfl
theorem start_no (tag n : Int) (h : ∀ u, ¬ (tag = tagOf u ∧ n = lenOf u)) : when_Start.f tag n = some ((⟨#[]⟩ : ByteArray), 0, false, false) := by
  have h1 : ¬ (tag = 23 ∧ n = 13) := h true
  have h2 : ¬ (tag = 24 ∧ n = 15) := h false
  unfold when_Start.f
  by_cases a : tag = 23
  · rw [if_pos a, if_neg (fun b => h1 ⟨a, b⟩)]
  rw [if_neg a]
  by_cases c : tag = 24
  · rw [if_pos c, if_neg (fun b => h2 ⟨c, b⟩)]
  · rw [if_neg c]
theorem get_l0 (u : Bool) (s : ByteArray) (hs : (s.size : Int) = lenOf u) : ∀ (d k i : Nat) (ok : Bool) (D : ByteArray) (n : Int) (u' : Bool), i + d = s.size → d + 16 ≤ k → Runs u s ok i D n u' →
    when_Get.l0 k s ok (i : Int) D n u' = some (match run u ([], lenOf u) (bytesOf s) with
      | some s' => (strOfNums s'.1, true)
      | none => ((⟨#[]⟩ : ByteArray), false)) := by
  have hN : lenOf u ≤ 15 := by cases u <;> decide
  have no : ∀ (k i : Nat) (D : ByteArray) (n : Int) (u' : Bool), Runs u s false i D n u' → when_Get.l0 (k + 1) s false (i : Int) D n u' = some (match run u ([], lenOf u) (bytesOf s) with
      | some s' => (strOfNums s'.1, true)
      | none => ((⟨#[]⟩ : ByteArray), false)) := by
    intro k i D n u' h
    have : run u ([], lenOf u) (bytesOf s) = none := by
      cases hr : run u ([], lenOf u) (bytesOf s) with
      | none => rfl
      | some x =>
        have := run_front u ([], lenOf u) (bytesOf s) i (by rw [hr]; rfl)
        rw [← h.ok_] at this; cases this
    rw [when_Get.l0, if_neg (by decide), this]
  intro d
  induction d with
  | zero =>
    intro k i ok D n u' hi hk h
    obtain ⟨k, rfl⟩ : ∃ m, k = m + 1 := ⟨k - 1, by omega⟩
    cases ok with
    | false => exact no k i D n u' h
    | true =>
      obtain ⟨_, L, rfl, hr⟩ := h.st_ rfl
      rw [List.take_of_length_le (by rw [bytesOf_length]; omega)] at hr
      rw [when_Get.l0, if_pos rfl, if_neg (by omega), hr]
  | succ d ih =>
    intro k i ok D n u' hi hk h
    obtain ⟨k, rfl⟩ : ∃ m, k = m + 15 := ⟨k - 15, by omega⟩
    cases ok with
    | false => exact no (k + 14) i D n u' h
    | true =>
      obtain ⟨ok', D', n', u'', hp, hr⟩ := h.push (by omega) (by omega) k
      rw [when_Get.l0, if_pos rfl, if_pos (by omega), if_pos (by omega), hp]
      simp only [Option.bind_some]
      rw [w64 (x := (i : Int) + 1) (by omega) (by omega), show ((i : Int) + 1) = ((i + 1 : Nat) : Int) by omega]
      exact ih (k + 14) (i + 1) ok' D' n' u'' (by omega) (by omega) hr
/-- A content, and what of it is the date's. -/
def Con (tag : Int) (l : List Int) (u : Bool) (p : List Int) : Prop := l = p ++ [90] ∧ okp u p ∧ tag = tagOf u ∧ (p.length : Int) + 1 = lenOf u
theorem get_yes (k : Nat) (hk : 40 ≤ k) (tag : Int) (c : ByteArray) (u : Bool) (p : List Int) (h : Con tag (bytesOf c) u p) : when_Get.f k tag c = some (strOfNums (F u p), true) := by
  obtain ⟨hl, ho, rfl, hn⟩ := h
  have hc : (c.size : Int) = lenOf u := by rw [bytesOf_size, hl, List.length_append]; simp; omega
  have hN : lenOf u ≤ 15 := by cases u <;> decide
  unfold when_Get.f
  rw [hc, start_yes]
  simp only [Option.bind_some]
  have := get_l0 u c hc c.size k 0 true _ _ _ (by omega) (by omega) (Runs.start u c)
  rw [show ((0 : Nat) : Int) = 0 from rfl] at this
  rw [this, hl, (run_last u (lenOf u) p 90 hn).1 ⟨ho, rfl⟩]
theorem get_no (k : Nat) (hk : 40 ≤ k) (tag : Int) (c : ByteArray) (h : ∀ u p, ¬ Con tag (bytesOf c) u p) : when_Get.f k tag c = some ((⟨#[]⟩ : ByteArray), false) := by
  obtain ⟨k, rfl⟩ : ∃ m, k = m + 40 := ⟨k - 40, by omega⟩
  unfold when_Get.f
  by_cases ht : ∃ u, tag = tagOf u ∧ (c.size : Int) = lenOf u
  · obtain ⟨u, rfl, hc⟩ := ht
    have hN : lenOf u ≤ 15 ∧ 13 ≤ lenOf u := by cases u <;> decide
    rw [hc, start_yes]
    simp only [Option.bind_some]
    have := get_l0 u c hc c.size (k + 40) 0 true _ _ _ (by omega) (by omega) (Runs.start u c)
    rw [show ((0 : Nat) : Int) = 0 from rfl] at this
    rw [this]
    have hne : bytesOf c ≠ [] := by intro h0; have h9 := bytesOf_size c; rw [h0] at h9; simp only [List.length_nil] at h9; omega
    have e := List.dropLast_concat_getLast hne
    rw [← e]
    have hlen : (((bytesOf c).dropLast).length : Int) + 1 = lenOf u := by rw [List.length_dropLast, bytesOf_length]; omega
    rw [(run_last u (lenOf u) _ _ hlen).2 (fun hh => h u _ ⟨by rw [← hh.2]; exact e.symm, hh.1, rfl, hlen⟩)]
  · rw [start_no tag _ (fun u hu => ht ⟨u, hu⟩)]
    simp only [Option.bind_some]
    rw [when_Get.l0, if_neg (by decide)]
theorem Con.uniq {tag : Int} {l : List Int} {u v : Bool} {p q : List Int} (h : Con tag l u p) (g : Con tag l v q) : u = v ∧ p = q := by
  obtain ⟨h1, _, h3, _⟩ := h
  obtain ⟨g1, _, g3, _⟩ := g
  refine ⟨?_, List.append_cancel_right (h1.symm.trans g1)⟩
  rw [h3] at g3
  revert g3
  cases u <;> cases v <;> decide

/-! ### Put -/
def inA (D : List Int) : Prop := D.length = 14 ∧ okp true (D.drop 2) ∧ F true (D.drop 2) = D
def inB (D : List Int) : Prop := D.length = 14 ∧ okp false D
theorem zed : bytesOf (⟨#[90]⟩ : ByteArray) = [90] := by decide
theorem putA (s : ByteArray) (h : s.size = 14) : bytesOf ((s ++ (⟨#[90]⟩ : ByteArray)).extract 2 (s.size + 1)) = (bytesOf s).drop 2 ++ [90] := by
  rw [bytesOf_part, bytesOf_append, zed, List.drop_append_of_le_length (by rw [bytesOf_length]; omega), List.take_of_length_le (by simp [bytesOf_length]; omega)]
theorem okp_bytes {u : Bool} {p : List Int} (h : okp u p) : Bytes p := digs_bytes h.1
theorem put_0 (k : Nat) (s : ByteArray) (h : s.size ≠ 14) : when_Put.f k s = some (0, (⟨#[]⟩ : ByteArray), false) := by
  unfold when_Put.f
  rw [if_neg (by omega)]
open Classical in
/-- The second content that is tried. -/
theorem put_2 (k : Nat) (s : ByteArray) (h : s.size = 14) : when_Put.l0 (k + 45) s [23, 24] 2 1 = if okp false (bytesOf s) then some (24, s ++ (⟨#[90]⟩ : ByteArray), true) else some (0, (⟨#[]⟩ : ByteArray), false) := by
  have hl : (bytesOf s).length = 14 := by rw [bytesOf_length]; exact h
  rw [when_Put.l0, if_pos (by decide), if_pos (by decide), if_pos (by decide), if_pos (by omega), if_neg (by decide), show rd [23, 24] 1 = 24 from rfl]
  have hend : when_Put.l0 (k + 44) s [23, 24] 2 (wrap64 (1 + 1)) = some (0, (⟨#[]⟩ : ByteArray), false) := by
    rw [when_Put.l0, if_neg (by decide +kernel)]
  by_cases ho : okp false (bytesOf s)
  · rw [if_pos ho, get_yes (k + 44) (by omega) 24 _ false (bytesOf s) ⟨by rw [bytesOf_append, zed], ho, rfl, by rw [hl]; rfl⟩]
    simp only [Option.bind_some, if_true]
    rw [if_pos ((toList_iff _ _).2 (by rw [bytesOf_nums _ (digs_bytes (F_digs ho.1))]; rfl))]
  · rw [if_neg ho, get_no (k + 44) (by omega) 24 _ (fun u p hc => ho (by
      obtain ⟨h1, h2, h3, _⟩ := hc
      rw [bytesOf_append, zed] at h1
      have : u = false := by revert h3; cases u <;> decide
      subst this
      rw [List.append_cancel_right h1]; exact h2))]
    simp only [Option.bind_some]
    rw [if_neg (by decide), hend]
open Classical in
theorem put_1 (k : Nat) (hk : 50 ≤ k) (s : ByteArray) (h : s.size = 14) : when_Put.f k s = if inA (bytesOf s) then some (23, strOfNums ((bytesOf s).drop 2 ++ [90]), true) else if okp false (bytesOf s) then some (24, s ++ (⟨#[90]⟩ : ByteArray), true) else some (0, (⟨#[]⟩ : ByteArray), false) := by
  obtain ⟨k, rfl⟩ : ∃ m, k = m + 46 := ⟨k - 46, by omega⟩
  have hl : (bytesOf s).length = 14 := by rw [bytesOf_length]; exact h
  have hput : bytesOf ((s ++ (⟨#[90]⟩ : ByteArray)).extract 2 (s.size + 1)) = (bytesOf s).drop 2 ++ [90] := putA s h
  have hnext : when_Put.l0 (k + 45) s [23, 24] 2 (wrap64 (0 + 1)) = if okp false (bytesOf s) then some (24, s ++ (⟨#[90]⟩ : ByteArray), true) else some (0, (⟨#[]⟩ : ByteArray), false) := by
    rw [show wrap64 (0 + 1) = 1 by decide +kernel]; exact put_2 k s h
  unfold when_Put.f
  rw [if_pos (by omega)]
  simp only [Option.bind_some]
  show when_Put.l0 (k + 46) s [23, 24] 2 0 = _
  rw [when_Put.l0, if_pos (by decide), if_pos (by decide), if_pos (by decide), if_pos (by omega), if_pos (by decide), if_pos (by rw [ByteArray.size_append]; omega), show rd [23, 24] 0 = 23 from rfl]
  by_cases ho : okp true ((bytesOf s).drop 2)
  · rw [get_yes (k + 45) (by omega) 23 _ true ((bytesOf s).drop 2) ⟨hput, ho, rfl, by rw [List.length_drop, hl]; rfl⟩]
    simp only [Option.bind_some, if_true]
    by_cases hF : F true ((bytesOf s).drop 2) = bytesOf s
    · rw [if_pos ((toList_iff _ _).2 (by rw [bytesOf_nums _ (digs_bytes (F_digs ho.1))]; exact hF)), if_pos (show inA (bytesOf s) from ⟨hl, ho, hF⟩)]
      rw [← hput, nums_bytesOf]
    · rw [if_neg (fun hh => hF (by have := (toList_iff _ _).1 hh; rwa [bytesOf_nums _ (digs_bytes (F_digs ho.1))] at this)), if_neg (fun hh : inA (bytesOf s) => hF hh.2.2), hnext]
  · rw [get_no (k + 45) (by omega) 23 _ (fun u p hc => ho (by
      obtain ⟨h1, h2, h3, _⟩ := hc
      rw [hput] at h1
      have : u = true := by revert h3; cases u <;> decide
      subst this
      rw [List.append_cancel_right h1]; exact h2)), if_neg (fun hh : inA (bytesOf s) => ho hh.2.1)]
    simp only [Option.bind_some]
    rw [if_neg (by decide), hnext]
end Go.Proofs.Ytailnnjkbiihmaa.BDat
