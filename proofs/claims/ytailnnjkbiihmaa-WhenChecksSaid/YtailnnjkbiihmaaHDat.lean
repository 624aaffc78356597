/- What when.Put answers, told by cases; awake. -/
import Derived.Test.YtailnnjkbiihmaaGDat
import Derived.Test.YtailnnjkbiihmaaPAx3
import Derived.Test.YtailnnjkbiihmaaPAx4
namespace Go.Proofs.Ytailnnjkbiihmaa.BDat
open Go.RowKit Go.Proofs.Ytailnnjkbiihmaa.PA Go.Proofs.YtailnnjkbiihmaaW.PrintWords Go.Proofs.YtailnnjkbiihmaaW.PrintLast Go.Proofs.YtailnnjkbiihmaaW.PrintMore
open Go.Proofs.Ytailnnjkbiihmaa.Bs
open Go.Proofs.Ytailnnjkbiihmaa.Dt
set_option linter.unusedVariables false

theorem put_cases (k : Nat) (hk : 50 ≤ k) (s : ByteArray) :
    (∃ (u : Bool) (c : ByteArray) (p : List Int), when_Put.f k s = some (tagOf u, c, true) ∧ s.size = 14 ∧ Con (tagOf u) (bytesOf c) u p ∧ F u p = bytesOf s ∧ bytesOf c = p ++ [90] ∧
      ((u = true ∧ inA (bytesOf s) ∧ p = (bytesOf s).drop 2) ∨ (u = false ∧ ¬ inA (bytesOf s) ∧ p = bytesOf s))) ∨
    (when_Put.f k s = some (0, (⟨#[]⟩ : ByteArray), false) ∧ ¬ inA (bytesOf s) ∧ ¬ inB (bytesOf s)) := by
  by_cases h : s.size = 14
  · have hl : (bytesOf s).length = 14 := by rw [bytesOf_length]; exact h
    have e := put_1 k hk s h
    by_cases hA : inA (bytesOf s)
    · rw [if_pos hA] at e
      have hb : bytesOf (strOfNums ((bytesOf s).drop 2 ++ [90])) = (bytesOf s).drop 2 ++ [90] := by
        refine bytesOf_nums _ (fun x hx => ?_)
        rcases List.mem_append.1 hx with h1 | h1
        · exact okp_bytes hA.2.1 x h1
        · simp at h1; omega
      exact .inl ⟨true, _, (bytesOf s).drop 2, e, h, ⟨hb, hA.2.1, rfl, by rw [List.length_drop, hl]; rfl⟩, hA.2.2, hb, .inl ⟨rfl, hA, rfl⟩⟩
    · rw [if_neg hA] at e
      by_cases hB : okp false (bytesOf s)
      · rw [if_pos hB] at e
        have hb : bytesOf (s ++ (⟨#[90]⟩ : ByteArray)) = bytesOf s ++ [90] := by rw [bytesOf_append, zed]
        exact .inl ⟨false, _, bytesOf s, e, h, ⟨hb, hB, rfl, by rw [hl]; rfl⟩, rfl, hb, .inr ⟨rfl, hA, rfl⟩⟩
      · rw [if_neg hB] at e
        exact .inr ⟨e, hA, fun hh => hB hh.2⟩
  · refine .inr ⟨put_0 k s h, fun hh => h ?_, fun hh => h ?_⟩
    · rw [← bytesOf_length]; exact hh.1
    · rw [← bytesOf_length]; exact hh.1
theorem get_cases (k : Nat) (hk : 40 ≤ k) (tag : Int) (c : ByteArray) :
    (∃ u p, Con tag (bytesOf c) u p ∧ when_Get.f k tag c = some (strOfNums (F u p), true)) ∨ ((∀ u p, ¬ Con tag (bytesOf c) u p) ∧ when_Get.f k tag c = some ((⟨#[]⟩ : ByteArray), false)) := by
  by_cases h : ∃ u p, Con tag (bytesOf c) u p
  · obtain ⟨u, p, h⟩ := h
    exact .inl ⟨u, p, h, get_yes k hk tag c u p h⟩
  · have h' : ∀ u p, ¬ Con tag (bytesOf c) u p := fun u p hh => h ⟨u, p, hh⟩
    exact .inr ⟨h', get_no k hk tag c h'⟩
theorem cen_digits {D : List Int} (h : Digs D) (h2 : 2 < D.length) (hc : D.take 2 = cen (D.getD 2 0)) : 1950 ≤ yr D ∧ yr D ≤ 2049 ∨ 3 ≥ D.length := by
  rcases (by omega : D.length ≤ 3 ∨ 4 ≤ D.length) with h3 | h4
  · exact .inr h3
  refine .inl ?_
  obtain ⟨a, b, c, d, r, rfl⟩ : ∃ a b c d r, D = a :: b :: c :: d :: r := by
    match D, h4 with
    | a :: b :: c :: d :: r, _ => exact ⟨a, b, c, d, r, rfl⟩
  have hcd := h c (by simp); have hdd := h d (by simp)
  unfold Dig at hcd hdd
  simp only [List.take_succ_cons, List.take_zero, cen] at hc
  simp only [yr, at_, List.getD_cons_zero, List.getD_cons_succ] at hc ⊢
  split at hc
  · simp at hc; omega
  · simp at hc; omega
/-- What is put as a UTCTime has a year from 1950 to 2049. -/
theorem inA_year {D : List Int} (h : inA D) : 1950 ≤ yr D ∧ yr D ≤ 2049 := by
  obtain ⟨hl, ho, hF⟩ := h
  have hD : Digs D := by rw [← hF]; exact F_digs ho.1
  have hd : ∃ a b c d r, D = a :: b :: c :: d :: r := by
    match D, hl with
    | a :: b :: c :: d :: r, _ => exact ⟨a, b, c, d, r, rfl⟩
  obtain ⟨a, b, c, d, r, rfl⟩ := hd
  have : (a :: b :: c :: d :: r).take 2 = cen ((a :: b :: c :: d :: r).getD 2 0) := by
    simp only [List.drop_succ_cons, List.drop_zero, F, if_true] at hF
    simp only [List.take_succ_cons, List.take_zero, List.getD_cons_zero, List.getD_cons_succ]
    have h2 : (cen c ++ c :: d :: r).take 2 = cen c := List.take_left' (cen_len c)
    rw [hF] at h2; simpa using h2
  rcases cen_digits hD (by simp) this with h1 | h1
  · exact h1
  · simp at h1
theorem inA_of {D : List Int} (hl : D.length = 14) (hD : Digs D) (ho : okc D) (h1 : 1950 ≤ yr D) (h2 : yr D ≤ 2049) : inA D := by
  have hd : ∃ a b c d r, D = a :: b :: c :: d :: r := by
    match D, hl with
    | a :: b :: c :: d :: r, _ => exact ⟨a, b, c, d, r, rfl⟩
  obtain ⟨a, b, c, d, r, rfl⟩ := hd
  have ha := hD a (by simp); have hb := hD b (by simp); have hc := hD c (by simp); have hd := hD d (by simp)
  unfold Dig at ha hb hc hd
  have hF : F true ((a :: b :: c :: d :: r).drop 2) = a :: b :: c :: d :: r := by
    simp only [List.drop_succ_cons, List.drop_zero, F, if_true, cen]
    simp only [yr, at_, List.getD_cons_zero, List.getD_cons_succ] at h1 h2
    split
    · have : a = 49 := by omega
      have : b = 57 := by omega
      simp; omega
    · have : a = 50 := by omega
      have : b = 48 := by omega
      simp; omega
  refine ⟨hl, ⟨fun x hx => hD x (List.mem_of_mem_drop hx), by rw [hF]; exact ho, fun h => by cases h⟩, hF⟩
theorem inB_iff {D : List Int} (hl : D.length = 14) (hD : Digs D) (ho : okc D) : okp false D ↔ 2050 ≤ yr D := by
  unfold okp late
  rw [pad_full _ (by omega)]
  simp only [F]
  constructor
  · rintro ⟨_, _, h⟩; simpa using h
  · intro h; exact ⟨hD, ho, fun _ => by simpa using h⟩
theorem inA_okc {D : List Int} (h : inA D) : Digs D ∧ okc D := by
  obtain ⟨_, h1, h2⟩ := h
  rw [← h2]; exact ⟨F_digs h1.1, h1.2.1⟩
theorem F_all {u : Bool} {p : List Int} (h : okp u p) (hl : (p.length : Int) + 1 = lenOf u) : (F u p).length = 14 := by
  cases u with
  | true =>
    cases p with
    | nil => simp [lenOf] at hl
    | cons a r => simp [F, cen_len, lenOf] at hl ⊢; omega
  | false => simp [F, lenOf] at hl ⊢; omega
theorem awake_ok (k : Nat) (hk : 100 ≤ k) : gantletlaw13_awake.f k = some true := by
  refine at_rounds (g := fun k => gantletlaw13_awake.f k) (fun k => gantletlaw13_awake.mono k) hk ?_
  decide +kernel
end Go.Proofs.Ytailnnjkbiihmaa.BDat
