/- What the printed functions of the reference for numbers come to (Get, Put); and the answers that the document fixes. -/
import Derived.Test.YtghkfoaiieajhaaBNum
import Derived.Test.YtghkfoaiieajhaaPAx4
import Derived.Test.YtghkfoaiieajhaaPAx5
import Derived.Test.YtghkfoaiieajhaaPAx6
namespace Go.Proofs.Ytghkfoaiieajhaa.RNum
open Go.RowKit Go.Proofs.Ytghkfoaiieajhaa.PA Go.Proofs.YtghkfoaiieajhaaW.PrintWords Go.Proofs.YtghkfoaiieajhaaW.PrintLast Go.Proofs.YtghkfoaiieajhaaW.PrintMore
open Go.Proofs.Ytghkfoaiieajhaa.Bs Go.Proofs.Ytghkfoaiieajhaa.BNum
open Go.Proofs.Ytghkfoaiieajhaa.Nm (pn sb fo sv Least Fits)
set_option linter.unusedVariables false

theorem rput_l0 (k : Nat) : ∀ (n : Nat) (v : Int) (acc : List Int) (i : Int), Fits n v → -9223372036854775808 ≤ v → v ≤ 9223372036854775807 → acc.length < 100 - n → 0 ≤ i → i + n ≤ 7 →
    gantletref10_Put.l0 (k + n + 1) v acc i = some (strOfNums (pn n v ++ acc)) := by
  have hm : ∀ v : Int, (if Int.tmod v 256 < 0 then wrap64 (Int.tmod v 256 + 256) else Int.tmod v 256) = v % 256 := by
    intro v
    have h1 := Int.tmod_def v 256
    have h2 : Int.tdiv v 256 = if 0 ≤ v then v / 256 else -((-v) / 256) := by
      split
      · exact Int.tdiv_eq_ediv_of_nonneg ‹_›
      · have := Int.tdiv_eq_ediv_of_nonneg (show 0 ≤ -v by omega) (b := 256)
        rw [Int.neg_tdiv] at this; omega
    have h3 : -256 < Int.tmod v 256 ∧ Int.tmod v 256 < 256 := by
      rw [h1, h2]; split <;> omega
    split
    · rw [w64 (by omega) (by omega), h1, h2]; split <;> omega
    · rename_i h; rw [h1, h2] at h ⊢; split at h <;> rename_i hv
      · rw [if_pos hv]; omega
      · rw [if_neg hv]; omega
  have hd : ∀ v : Int, -9223372036854775808 ≤ v → v ≤ 9223372036854775807 → wrap64 (Int.tdiv (wrap64 (v - v % 256)) 256) = v / 256 := by
    intro v h0 h1
    rw [w64 (x := v - v % 256) (by omega) (by omega)]
    have : v - v % 256 = 256 * (v / 256) := by omega
    rw [this, Int.mul_tdiv_cancel_left _ (by decide), w64 (by omega) (by omega)]
  intro n
  induction n with
  | zero =>
    intro v acc i hf h0 h1 hl hi hin
    obtain ⟨g1, g2⟩ := hf
    show gantletref10_Put.l0 (k + 1) v acc i = _
    have e := hm v
    have e2 := hd v h0 h1
    rw [gantletref10_Put.l0]
    rw [if_pos (by omega)]
    simp only [Option.bind_some]
    have hg : ∀ x : Int, ([x] : List Int).length + acc.length < 140737488355328 := by intro x; simp; omega
    by_cases ht : Int.tmod v 256 < 0
    · rw [if_pos ht] at e
      rw [if_pos ht, e, if_pos (hg _), e2]
      by_cases hz : v / 256 = 0
      · rw [if_pos hz, if_pos (by omega)]; simp [pn]
      · rw [if_neg hz, if_pos (by omega), if_pos (by omega)]; simp [pn]
    · rw [if_neg ht] at e
      rw [if_neg ht, e, if_pos (hg _), e2]
      by_cases hz : v / 256 = 0
      · rw [if_pos hz, if_pos (by omega)]; simp [pn]
      · rw [if_neg hz, if_pos (by omega), if_pos (by omega)]; simp [pn]
  | succ n ih =>
    intro v acc i hf h0 h1 hl hi hin
    show gantletref10_Put.l0 (k + n + 1 + 1) v acc i = _
    have e := hm v
    have e2 := hd v h0 h1
    have hg : ∀ x : Int, ([x] : List Int).length + acc.length < 140737488355328 := by intro x; simp; omega
    have hrec := ih (v / 256) ([v % 256] ++ acc) (i + 1) hf (by omega) (by omega) (by simp; omega) (by omega) (by omega)
    have hw : wrap64 (i + 1) = i + 1 := w64 (by omega) (by omega)
    rw [gantletref10_Put.l0]
    rw [if_pos (by omega)]
    simp only [Option.bind_some]
    have hmm : v % 256 % 256 = v % 256 := by omega
    have fin : (if v / 256 = 0 then if v % 256 < 128 then some (strOfNums ([v % 256 % 256] ++ acc)) else if v / 256 = -1 then if v % 256 > 127 then some (strOfNums ([v % 256 % 256] ++ acc)) else gantletref10_Put.l0 (k + n + 1) (v / 256) ([v % 256 % 256] ++ acc) (wrap64 (i + 1)) else gantletref10_Put.l0 (k + n + 1) (v / 256) ([v % 256 % 256] ++ acc) (wrap64 (i + 1))
        else if v / 256 = -1 then if v % 256 > 127 then some (strOfNums ([v % 256 % 256] ++ acc)) else gantletref10_Put.l0 (k + n + 1) (v / 256) ([v % 256 % 256] ++ acc) (wrap64 (i + 1)) else gantletref10_Put.l0 (k + n + 1) (v / 256) ([v % 256 % 256] ++ acc) (wrap64 (i + 1))) = some (strOfNums (pn (n + 1) v ++ acc)) := by
      rw [hmm, hw, hrec]
      simp only [pn]
      by_cases hfar : v > 127 ∨ v < -128
      · rw [if_pos hfar, List.append_assoc]
        by_cases hz : v / 256 = 0
        · rw [if_pos hz, if_neg (by omega), if_neg (by omega)]
        · rw [if_neg hz]
          by_cases hz1 : v / 256 = -1
          · rw [if_pos hz1, if_neg (by omega)]
          · rw [if_neg hz1]
      · rw [if_neg hfar]
        by_cases hz : v / 256 = 0
        · rw [if_pos hz, if_pos (by omega)]
        · rw [if_neg hz, if_pos (by omega), if_pos (by omega)]
    by_cases ht : Int.tmod v 256 < 0
    · rw [if_pos ht] at e
      rw [if_pos ht, e, if_pos (hg _), e2]
      exact fin
    · rw [if_neg ht] at e
      rw [if_neg ht, e, if_pos (hg _), e2]
      exact fin
theorem rput_ok (k : Nat) (v : Int) (h : -9223372036854775808 ≤ v ∧ v ≤ 9223372036854775807) : gantletref10_Put.f (k + 8) v = some (strOfNums (pn 7 v)) := by
  unfold gantletref10_Put.f
  have := rput_l0 k 7 v [] 0 (fits64 h) h.1 h.2 (by simp) (by decide) (by decide)
  rw [List.append_nil] at this
  exact this

theorem rget_l0 (s : ByteArray) (a : Int) (r : List Int) (hs : bytesOf s = a :: r) (h8 : r.length < 8) :
    ∀ (d k i : Nat) (x4 : Int), i + d = s.size → d + 1 ≤ k → 1 ≤ i → x4 = fo (sb a) (r.take (i - 1)) →
      gantletref10_Get.l0 k s x4 (i : Int) = some (sv (a :: r), true) := by
  have hb := bytes_of s
  rw [hs] at hb
  have hl := bytesOf_length s
  rw [hs] at hl
  intro d
  induction d with
  | zero =>
    intro k i x4 hi hk h1 h4
    obtain ⟨k, rfl⟩ : ∃ m, k = m + 1 := ⟨k - 1, by omega⟩
    rw [gantletref10_Get.l0, if_neg (by omega)]
    have ht : r.take (i - 1) = r := List.take_of_length_le (by simp at hl; omega)
    rw [h4, ht]; rfl
  | succ d ih =>
    intro k i x4 hi hk h1 h4
    obtain ⟨k, rfl⟩ : ∃ m, k = m + 1 := ⟨k - 1, by omega⟩
    have hbt : bt s (i : Int) = r.getD (i - 1) 0 := by
      rw [bt_get, hs, Int.toNat_natCast]
      obtain ⟨j, rfl⟩ : ∃ j, i = j + 1 := ⟨i - 1, by omega⟩
      simp
    have hir : i - 1 < r.length := by simp at hl; omega
    have hmem : r.getD (i - 1) 0 ∈ (a :: r) := by
      rw [List.getD_eq_getElem?_getD, List.getElem?_eq_getElem hir]
      exact List.mem_cons_of_mem _ (List.getElem_mem hir)
    have hr := hb _ hmem
    have ha := hb a (by simp)
    have hx : -36028797018963968 ≤ x4 ∧ x4 < 36028797018963968 := by
      have hb' := fo_bound (r.take (i - 1)) (fun x hx => hb x (List.mem_cons_of_mem _ (List.mem_of_mem_take hx))) (sb a) 0 (by unfold sb; split <;> omega) (by unfold sb; split <;> omega)
      rw [h4]
      have hm : 0 + (r.take (i - 1)).length ≤ 6 := by simp at hl ⊢; omega
      have hpow := pow6 _ hm
      omega
    rw [gantletref10_Get.l0, if_pos (by omega), if_pos (by omega), hbt, w64 (x := 256 * x4) (by omega) (by omega), w64 (x := r.getD (i - 1) 0) (by omega) (by omega), w64 (by omega) (by omega), w64 (x := (i : Int) + 1) (by omega) (by simp at hl; omega), show ((i : Int) + 1) = ((i + 1 : Nat) : Int) by omega]
    refine ih k (i + 1) _ (by omega) (by omega) (by omega) ?_
    obtain ⟨j, rfl⟩ : ∃ j, i = j + 1 := ⟨i - 1, by omega⟩
    simp only [Nat.add_sub_cancel] at *
    rw [fo_last _ _ _ hir, h4]
theorem rget_ok (s : ByteArray) (k : Nat) (hs : s.size ≤ 1000) (hk : 2100 ≤ k) : gantletref10_Get.f k s = some (got (bytesOf s)) := by
  obtain ⟨k, rfl⟩ : ∃ m, k = m + 3 := ⟨k - 3, by omega⟩
  have hl := bytesOf_length s
  have j0t : gantletref10_Get.j0 (k + 3) s true = some (0, false) := by rw [gantletref10_Get.j0, if_pos rfl]
  unfold gantletref10_Get.f
  cases hc : bytesOf s with
  | nil =>
    rw [hc] at hl
    rw [if_pos (by simp at hl; omega), j0t]; rfl
  | cons a r =>
    rw [hc] at hl
    simp at hl
    have hb := bytes_of s
    rw [hc] at hb
    have ha := hb a (by simp)
    rw [if_neg (by omega)]
    by_cases h8 : (s.size : Int) > 8
    · rw [if_pos h8, j0t]
      simp only [got]
      rw [if_neg (by omega)]
    · rw [if_neg h8, wrong_eq]
      simp only [Option.bind_some]
      rw [hc, show (s.size : Int) = ((a :: r).length : Int) by simp; omega]
      by_cases hw : wr 2 ((a :: r).length : Int) (a :: r) = -1
      · rw [hw]
        show gantletref10_Get.j0 (k + 3) s false = _
        have hbt : bt s 0 = a := by rw [bt_get, hc]; rfl
        have hlast := rget_l0 s a r hc (by omega) (s.size - 1) (k + 1) 1 (sb a) (by omega) (by omega) (by omega) rfl
        rw [gantletref10_Get.j0, if_neg (by decide), if_pos (by omega), hbt, w64 (x := a) (by omega) (by omega)]
        have hg : got (a :: r) = (sv (a :: r), true) := by simp only [got]; rw [if_pos ⟨by omega, hw⟩]
        rw [hg]
        unfold sb at hlast
        by_cases h : a > 127
        · rw [if_pos h] at hlast
          rw [if_pos h, w64 (by omega) (by omega), gantletref10_Get.j1]; exact hlast
        · rw [if_neg h] at hlast
          rw [if_neg h, gantletref10_Get.j1]; exact hlast
      · rw [show (wr 2 ((a :: r).length : Int) (a :: r) != -1) = true by simpa using hw, j0t]
        simp only [got]
        rw [if_neg (by rintro ⟨_, h⟩; exact hw h)]

theorem awake_ok (k : Nat) (hk : 2200 ≤ k) : gantletlaw10_awake.f k = some true := by
  obtain ⟨m, rfl⟩ : ∃ m, k = m + 8 := ⟨k - 8, by omega⟩
  unfold gantletlaw10_awake.f
  rw [show m + 8 = (m + 7) + 1 from rfl, BNum.start_eq, BNum.start_eq, show okN 2 2 = true by decide, show okN 5 1 = false by decide]
  simp only [Option.bind_some, if_true]
  rw [push_eq _ _ _ _ _ _ (by decide) (by decide), show okP 2 0 0 0 = true by decide]
  simp only [Option.bind_some, if_true]
  rw [push_eq _ _ _ _ _ _ (by decide) (by decide), push_eq _ _ _ _ _ _ (by decide) (by decide), show okP 2 (0 + 1) 0 127 = false by decide, show okP 2 (0 + 1) 0 128 = true by decide]
  simp only [Option.bind_some, if_true, Bool.false_eq_true, if_false]
  rw [show m + 7 + 1 = m + 8 from rfl, get_ok _ (m + 8) (by decide) (by omega), put_ok m 128 (by decide), put_ok m (-129) (by decide)]
  simp only [Option.bind_some]
  rw [Lib.strOfNums_toList, Lib.strOfNums_toList]
  decide +kernel
end Go.Proofs.Ytghkfoaiieajhaa.RNum
