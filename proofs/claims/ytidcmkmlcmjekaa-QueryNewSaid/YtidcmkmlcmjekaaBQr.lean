/- What the printed functions of the queries' layer and of its reference come to: is a text a serial number? -/
import Derived.Test.YtidcmkmlcmjekaaMNum
import Derived.Test.YtidcmkmlcmjekaaBs
import Derived.Test.YtidcmkmlcmjekaaPAx2
import Derived.Test.YtidcmkmlcmjekaaPAx3
import Derived.Test.YtidcmkmlcmjekaaPAx4
import Derived.Test.YtidcmkmlcmjekaaPAx5
import Derived.Test.YtidcmkmlcmjekaaPAx6
import Derived.Test.YtidcmkmlcmjekaaPAx7
import Derived.Test.YtidcmkmlcmjekaaPAx8
namespace Go.Proofs.Ytidcmkmlcmjekaa.BNum
open Go.RowKit Go.Proofs.Ytidcmkmlcmjekaa.PA Go.Proofs.YtidcmkmlcmjekaaW.PrintWords Go.Proofs.YtidcmkmlcmjekaaW.PrintLast Go.Proofs.YtidcmkmlcmjekaaW.PrintMore
open Go.Proofs.Ytidcmkmlcmjekaa.Bs
open Go.Proofs.Ytidcmkmlcmjekaa.Nm (pn sb fo sv Least Fits)
set_option linter.unusedVariables false

/-- May a content of so many bytes begin? -/
def okN (tag n : Int) : Bool :=
  if tag = 2 ∨ tag = 10 then decide (n > 0) else if tag = 1 then n == 1 else if tag = 5 then n == 0 else decide (n ≥ 0)
/-- May a byte come at a place, behind a first one? -/
def okP (tag at_ first b : Int) : Bool :=
  if tag = 1 then b == 0 || b == 255
  else if (tag = 2 ∨ tag = 10) ∧ at_ = 1 then !(first == 0 && decide (b < 128) || first == 255 && decide (b ≥ 128))
  else true
theorem start_eq (k : Nat) (tag n : Int) : number_Start.f (k + 1) tag n = some (if okN tag n = true then (tag, n, 0, 0, true) else (0, 0, 0, 0, false)) := by
  unfold number_Start.f okN
  simp only [number_Start.j0]
  by_cases h2 : tag = 2
  · subst h2; by_cases hn : n > 0 <;> simp [hn]
  by_cases h10 : tag = 10
  · subst h10; by_cases hn : n > 0 <;> simp [hn]
  by_cases h1 : tag = 1
  · subst h1; by_cases hn : n = 1 <;> simp [hn]
  by_cases h5 : tag = 5
  · subst h5; by_cases hn : n = 0 <;> simp [hn]
  by_cases hn : n ≥ 0 <;> simp [h2, h10, h1, h5, hn]
theorem push_eq (k : Nat) (tag n at_ first b : Int) (ha : 0 ≤ at_) (ha' : at_ < 4611686018427387904) : number_State_Push.f (k + 1) tag n at_ first b =
    some (if okP tag at_ first b = true then (tag, n, at_ + 1, (if at_ = 0 then b else first), true) else (0, 0, 0, 0, false)) := by
  have e : ∀ c : Bool, number_State_Push.j0 (k + 1) b c tag n at_ first = some (if c = true then (tag, n, at_ + 1, (if at_ = 0 then b else first), true) else (0, 0, 0, 0, false)) := by
    intro c
    simp only [number_State_Push.j0]
    rw [w64 (x := at_ + 1) (by omega) (by omega)]
    cases c
    · rfl
    · by_cases h : at_ = 0
      · simp [h]
      · simp [h]
  have e1 : ∀ c d : Bool, c = d → number_State_Push.j0 (k + 1) b c tag n at_ first = some (if d = true then (tag, n, at_ + 1, (if at_ = 0 then b else first), true) else (0, 0, 0, 0, false)) := fun c d h => h ▸ e c
  unfold number_State_Push.f
  by_cases h1 : tag = 1
  · rw [if_pos h1]
    by_cases hb : b = 0
    · rw [if_pos hb]; exact e1 _ _ (by simp [okP, h1, hb])
    · rw [if_neg hb]; exact e1 _ _ (by simp [okP, h1, hb])
  rw [if_neg h1]
  by_cases h2 : tag = 2
  · rw [if_pos h2]
    by_cases h3 : at_ = 1
    · rw [if_pos h3]
      by_cases h4 : first = 0
      · rw [if_pos h4]
        by_cases h5 : b < 128
        · rw [if_pos h5]; exact e1 _ _ (by simp [okP, h2, h3, h4, h5])
        · rw [if_neg h5, if_neg (by omega)]; exact e1 _ _ (by simp [okP, h2, h3, h4, h5])
      · rw [if_neg h4]
        by_cases h6 : first = 255
        · rw [if_pos h6]; exact e1 _ _ (by simp [okP, h2, h3, h6])
        · rw [if_neg h6]; exact e1 _ _ (by simp [okP, h2, h3, h4, h6])
    · rw [if_neg h3]; exact e1 _ _ (by simp [okP, h2, h3])
  rw [if_neg h2]
  by_cases h10 : tag = 10
  · rw [if_pos h10]
    by_cases h3 : at_ = 1
    · rw [if_pos h3]
      by_cases h4 : first = 0
      · rw [if_pos h4]
        by_cases h5 : b < 128
        · rw [if_pos h5]; exact e1 _ _ (by simp [okP, h10, h3, h4, h5])
        · rw [if_neg h5, if_neg (by omega)]; exact e1 _ _ (by simp [okP, h10, h3, h4, h5])
      · rw [if_neg h4]
        by_cases h6 : first = 255
        · rw [if_pos h6]; exact e1 _ _ (by simp [okP, h10, h3, h6])
        · rw [if_neg h6]; exact e1 _ _ (by simp [okP, h10, h3, h4, h6])
    · rw [if_neg h3]; exact e1 _ _ (by simp [okP, h10, h3])
  rw [if_neg h10]
  exact e1 _ _ (by simp [okP, h1, h2, h10])

/-- With which byte a content of n bytes, of which these came, is wrong. -/
def wr (tag n : Int) (l : List Int) : Int :=
  if okN tag n = false ∨ n < 0 then 0
  else if tag = 1 then (match l with
    | b :: _ => if okP 1 0 0 b = true then -1 else 1
    | [] => -1)
  else if tag = 2 ∨ tag = 10 then (match l with
    | a :: b :: _ => if okP tag 1 a b = true then -1 else 2
    | _ => -1)
  else -1
theorem wrong_eq (k : Nat) (tag n : Int) (s : ByteArray) : gantletref10_Wrong.f (k + 1) tag n s = some (wr tag n (bytesOf s)) := by
  have hl := bytesOf_length s
  have hb0 := bt_get s 0
  have hb1 := bt_get s 1
  have j0 : ∀ c : Bool, 0 ≤ n → gantletref10_Wrong.j0 (k + 1) n s c = some (if c = true then -1 else if n = 0 then 0 else (match bytesOf s with
      | a :: b :: _ => if okP 2 1 a b = true then -1 else 2
      | _ => -1)) := by
    intro c hn
    simp only [gantletref10_Wrong.j0]
    cases c
    · simp only [Bool.false_eq_true, if_false]
      by_cases h0 : n = 0
      · rw [if_pos h0, if_pos h0]
      rw [if_neg h0, if_neg h0]
      cases hs : bytesOf s with
      | nil => rw [hs] at hl; rw [if_neg (by simp at hl; omega)]
      | cons a r =>
        cases r with
        | nil => rw [hs] at hl; rw [if_neg (by simp at hl; omega)]
        | cons b r =>
          rw [hs] at hl hb0 hb1
          simp at hl hb0 hb1
          rw [if_pos (by omega), if_pos (by omega), hb0, hb1]
          simp only [okP]
          by_cases ha : a = 0
          · subst ha
            rw [if_pos rfl, if_pos (by omega)]
            by_cases hb : b < 128
            · rw [if_pos hb]; simp [hb]
            · rw [if_neg hb, if_neg (by decide)]; simp [hb]
          · rw [if_neg ha]
            by_cases ha5 : a = 255
            · subst ha5
              rw [if_pos rfl, if_pos (by omega)]
              by_cases hb : b > 127
              · rw [if_pos hb]; simp; omega
              · rw [if_neg hb]; simp; omega
            · rw [if_neg ha5]; simp [ha, ha5]
    · simp
  unfold gantletref10_Wrong.f wr
  by_cases hn : n < 0
  · rw [if_pos hn, if_pos (.inr hn)]
  rw [if_neg hn]
  by_cases h5 : tag = 5
  · subst h5
    rw [if_pos rfl]
    by_cases h0 : n = 0
    · simp [okN, h0]
    · simp [okN, h0]
  rw [if_neg h5]
  by_cases h1 : tag = 1
  · subst h1
    rw [if_pos rfl]
    by_cases hn1 : n = 1
    · subst hn1
      rw [if_pos rfl]
      cases hs : bytesOf s with
      | nil => rw [hs] at hl; rw [if_neg (by simp at hl; omega)]; simp [okN]
      | cons b r =>
        rw [hs] at hl hb0
        simp at hl hb0
        rw [if_pos (by omega), if_pos (by omega), hb0]
        by_cases h : b = 0
        · simp [h, okN, okP]
        · by_cases h' : b = 255
          · simp [h', okN, okP]
          · simp [h, h', okN, okP]
    · rw [if_neg hn1]; simp [okN, hn1]
  rw [if_neg h1]
  by_cases h2 : tag = 2
  · subst h2
    rw [if_pos rfl, j0 _ (by omega)]
    by_cases h0 : n = 0
    · simp [okN, h0]
    · have : n > 0 := by omega
      simp [okN, h0, this]; omega
  rw [if_neg h2, j0 _ (by omega)]
  by_cases h10 : tag = 10
  · subst h10
    by_cases h0 : n = 0
    · simp [okN, h0]
    · have : n > 0 := by omega
      simp [okN, h0, this, okP]; omega
  · have : (tag != 10) = true := by simpa using h10
    rw [if_pos this, if_neg, if_neg h1, if_neg (by omega)]
    simp [okN, h1, h2, h5, h10]; omega


/-- Is it a serial number? -/
def R (s : ByteArray) : Bool := decide (0 < s.size) && decide (s.size ≤ 20) && (wr 2 (s.size : Int) (bytesOf s) == -1)
theorem right_ref (k : Nat) (s : ByteArray) : gantletref18_Right.f (k + 1) s = some (R s) := by
  unfold gantletref18_Right.f R
  by_cases h0 : 0 < s.size
  · rw [if_pos (by omega)]
    by_cases h1 : s.size ≤ 20
    · rw [if_pos (by omega), wrong_eq]
      simp [h0, h1]
    · rw [if_neg (by omega)]
      simp [h1]
  · rw [if_neg (by omega)]
    simp [h0]
/-- The loop of 'right', from a place on. -/
theorem right_l0 (s : ByteArray) (hs : s.size ≤ 1000) : ∀ (m k i : Nat) (f : Int), i + m = s.size → m < k →
    query_right.l0 k s true (i : Int) 2 (s.size : Int) (i : Int) f = some ((if i = 0 then decide (m = 0 ∨ (m = 1 ∨ okP 2 1 (bt s 0) (bt s 1) = true)) else if i = 1 then decide (m = 0 ∨ okP 2 1 f (bt s 1) = true) else true) && decide (s.size ≤ 20)) := by
  intro m
  induction m with
  | zero =>
    intro k i f hi hk
    obtain ⟨k, rfl⟩ : ∃ q, k = q + 1 := ⟨k - 1, by omega⟩
    simp only [query_right.l0]
    rw [if_pos trivial, if_neg (by omega)]
    have e : decide ((s.size : Int) ≤ 20) = decide (s.size ≤ 20) := by by_cases h : s.size ≤ 20 <;> simp [h] <;> omega
    rw [e]
    simp
  | succ m ih =>
    intro k i f hi hk
    obtain ⟨k, rfl⟩ : ∃ q, k = q + 1 := ⟨k - 1, by omega⟩
    obtain ⟨k, rfl⟩ : ∃ q, k = q + 1 := ⟨k - 1, by omega⟩
    rw [query_right.l0]
    rw [if_pos rfl, if_pos (by omega), if_pos (by omega), push_eq k 2 (s.size : Int) (i : Int) f _ (by omega) (by omega)]
    simp only [Option.bind_some]
    rw [w64 (by omega) (by omega)]
    by_cases h0 : i = 0
    · subst h0
      have e : okP 2 ((0 : Nat) : Int) f (bt s ((0 : Nat) : Int)) = true := by simp [okP]
      rw [if_pos e]
      simp only
      have := ih (k + 1) 1 (bt s 0) (by omega) (by omega)
      simp only [Nat.one_ne_zero, if_false, if_true] at this
      rw [if_pos (show ((0 : Nat) : Int) = 0 from rfl)]
      simp only [if_true]
      rw [show ((0 : Nat) : Int) + 1 = 1 from rfl, show ((0 : Nat) : Int) = 0 from rfl]
      rw [show ((1 : Nat) : Int) = 1 from rfl] at this
      rw [this]
      congr 2
      by_cases hm : m = 0 <;> simp [hm]
    · by_cases h1 : i = 1
      · subst h1
        by_cases e : okP 2 ((1 : Nat) : Int) f (bt s ((1 : Nat) : Int)) = true
        · rw [if_pos e]
          simp only
          have := ih (k + 1) 2 f (by omega) (by omega)
          simp only [show (2 : Nat) ≠ 0 by decide, show (2 : Nat) ≠ 1 by decide, if_false] at this
          rw [show ((1 : Nat) : Int) = 1 from rfl] at e ⊢
          rw [if_neg (show ¬ (1 : Int) = 0 by decide), show (1 : Int) + 1 = ((2 : Nat) : Int) from rfl, this]
          simp [e]
        · have e' : okP 2 ((1 : Nat) : Int) f (bt s ((1 : Nat) : Int)) = false := by simpa using e
          rw [if_neg e]
          rw [query_right.l0, if_neg (by decide)]
          rw [show ((1 : Nat) : Int) = 1 from rfl] at e'
          simp [e']
      · have e : okP 2 (i : Int) f (bt s (i : Int)) = true := by simp [okP]; omega
        rw [if_pos e]
        simp only
        have := ih (k + 1) (i + 1) f (by omega) (by omega)
        rw [if_neg (by omega), if_neg (by omega)] at this
        rw [if_neg (by omega), if_neg h0, if_neg h1, show (i : Int) + 1 = ((i + 1 : Nat) : Int) by omega, this]
theorem wr_eq (s : ByteArray) (h0 : 0 < s.size) : (wr 2 (s.size : Int) (bytesOf s) == -1) = decide (s.size = 1 ∨ okP 2 1 (bt s 0) (bt s 1) = true) := by
  have hb0 := bt_get s 0
  have hb1 := bt_get s 1
  have hl := bytesOf_length s
  have e0 : okN 2 (s.size : Int) = true := by unfold okN; rw [if_pos (by decide)]; exact decide_eq_true (by omega)
  have g : ¬ (okN 2 (s.size : Int) = false ∨ (s.size : Int) < 0) := by
    rw [e0]
    rintro (h | h)
    · cases h
    · omega
  unfold wr
  rw [if_neg g, if_neg (by decide), if_pos (by decide)]
  match hbo : bytesOf s with
  | [] => rw [hbo] at hl; simp at hl; omega
  | [a] => rw [hbo] at hl; simp at hl; simp [hl.symm]
  | a :: b :: r =>
    rw [hbo] at hl hb0 hb1
    have e0 : bt s 0 = a := by simpa [rd] using hb0
    have e1 : bt s 1 = b := by simpa [rd] using hb1
    have hn : s.size ≠ 1 := by simp at hl; omega
    simp only [e0, e1]
    by_cases h : okP 2 1 a b = true
    · simp [h]
    · simp [h, hn]
theorem right_ok (k : Nat) (s : ByteArray) (hs : s.size ≤ 1000) (hk : s.size + 2 ≤ k) : query_right.f k s = some (R s) := by
  obtain ⟨k, rfl⟩ : ∃ q, k = q + 1 := ⟨k - 1, by omega⟩
  unfold query_right.f R
  rw [start_eq k 2 (s.size : Int)]
  simp only [Option.bind_some]
  by_cases h0 : 0 < s.size
  · have e : okN 2 (s.size : Int) = true := by unfold okN; rw [if_pos (by decide)]; exact decide_eq_true (by omega)
    rw [if_pos e, wr_eq s h0]
    simp only
    have := right_l0 s hs s.size (k + 1) 0 0 (by omega) (by omega)
    rw [show ((0 : Nat) : Int) = 0 from rfl, if_pos rfl] at this
    rw [this]
    have hz : s.size ≠ 0 := by omega
    simp [h0, hz, Bool.and_comm]
  · have e : ¬ okN 2 (s.size : Int) = true := by unfold okN; rw [if_pos (by decide), decide_eq_true_eq]; omega
    rw [if_neg e]
    simp only [query_right.l0]
    simp [h0]
theorem rd_at (l : List ByteArray) (i : Nat) (h : i < l.length) : rdOf ByteArray.empty l (i : Int) = l[i] := by simp [rdOf, h]
theorem all_l0 (l : List ByteArray) (hl : l.length ≤ 100000) : ∀ (m k i : Nat), i + m = l.length → m + 1 < k → gantletref18_All.l0 k l (i : Int) = some ((l.drop i).all R && decide (l.length ≤ 64)) := by
  intro m
  induction m with
  | zero =>
    intro k i hi hk
    obtain ⟨k, rfl⟩ : ∃ q, k = q + 1 := ⟨k - 1, by omega⟩
    rw [gantletref18_All.l0, if_neg (by omega), List.drop_eq_nil_of_le (by omega)]
    have e : decide ((l.length : Int) ≤ 64) = decide (l.length ≤ 64) := by by_cases h : l.length ≤ 64 <;> simp [h] <;> omega
    rw [e]; rfl
  | succ m ih =>
    intro k i hi hk
    obtain ⟨k, rfl⟩ : ∃ q, k = q + 1 := ⟨k - 1, by omega⟩
    obtain ⟨k, rfl⟩ : ∃ q, k = q + 1 := ⟨k - 1, by omega⟩
    have hlt : i < l.length := by omega
    rw [gantletref18_All.l0, if_pos (by omega), if_pos (by omega), rd_at l i hlt, right_ref, Option.bind_some, w64 (by omega) (by omega), List.drop_eq_getElem_cons hlt, List.all_cons]
    by_cases h : R l[i] = true
    · rw [if_pos h, show (i : Int) + 1 = ((i + 1 : Nat) : Int) by omega, ih (k + 1) (i + 1) (by omega) (by omega), h]; simp
    · rw [if_neg h]; simp [h]
theorem all_ok (l : List ByteArray) (hl : l.length ≤ 100000) (k : Nat) (hk : l.length + 2 ≤ k) : gantletref18_All.f k l = some (l.all R && decide (l.length ≤ 64)) := by
  unfold gantletref18_All.f
  have := all_l0 l hl l.length k 0 (by omega) (by omega)
  simpa using this
theorem same_l0 (l : List (S43)) (hl : l.length ≤ 100000) : ∀ (m k i : Nat), i + m = l.length → m < k → gantletref18_Same.l0 k l l (i : Int) = some true := by
  intro m
  induction m with
  | zero =>
    intro k i hi hk
    obtain ⟨k, rfl⟩ : ∃ q, k = q + 1 := ⟨k - 1, by omega⟩
    rw [gantletref18_Same.l0, if_neg (by omega)]
  | succ m ih =>
    intro k i hi hk
    obtain ⟨k, rfl⟩ : ∃ q, k = q + 1 := ⟨k - 1, by omega⟩
    rw [gantletref18_Same.l0, if_pos (by omega), if_pos (by omega), if_pos (by omega), if_neg (by simp), w64 (by omega) (by omega), show (i : Int) + 1 = ((i + 1 : Nat) : Int) by omega]
    exact ih k (i + 1) (by omega) (by omega)
theorem same_ok (l : List (S43)) (hl : l.length ≤ 100000) (k : Nat) (hk : l.length < k) : gantletref18_Same.f k l l = some true := by
  unfold gantletref18_Same.f
  rw [if_pos rfl]
  exact same_l0 l hl l.length k 0 (by omega) hk
theorem great_l1 (acts : List (S37)) (ha : acts.length ≤ 200) : ∀ (m k i : Nat), i + m = acts.length → m < k → (∀ j (h : j < acts.length), j < i → (acts[j].f1).size ≤ 100) →
    ∃ r, gantletlaw18_great.l1 k acts (acts.length : Int) (i : Int) = some r ∧ (r = false → ∀ a, a ∈ acts → a.f1.size ≤ 100) := by
  intro m
  induction m with
  | zero =>
    intro k i hi hk hd
    obtain ⟨k, rfl⟩ : ∃ q, k = q + 1 := ⟨k - 1, by omega⟩
    rw [gantletlaw18_great.l1, if_neg (by omega)]
    refine ⟨false, rfl, fun _ a hm => ?_⟩
    obtain ⟨j, hj, rfl⟩ := List.getElem_of_mem hm
    exact hd j hj (by omega)
  | succ m ih =>
    intro k i hi hk hd
    obtain ⟨k, rfl⟩ : ∃ q, k = q + 1 := ⟨k - 1, by omega⟩
    have hlt : i < acts.length := by omega
    have e : rd_T37 acts (i : Int) = acts[i] := by simp [rd_T37, hlt]
    rw [gantletlaw18_great.l1, if_pos (by omega), if_pos (by omega), if_pos (by omega), e]
    by_cases h : ((acts[i].f1).size : Int) > 100
    · rw [if_pos h]; exact ⟨true, rfl, fun h => by cases h⟩
    · rw [if_neg h, w64 (by omega) (by omega), show (i : Int) + 1 = ((i + 1 : Nat) : Int) by omega]
      refine ih k (i + 1) (by omega) (by omega) (fun j hj hji => ?_)
      by_cases hjs : j = i
      · subst hjs; omega
      · exact hd j hj (by omega)
theorem great_l0 (l : List ByteArray) (acts : List (S37)) (hl : l.length ≤ 200) (ha : acts.length ≤ 200) : ∀ (m k i : Nat), i + m = l.length → m + acts.length + 1 < k → (∀ j (h : j < l.length), j < i → l[j].size ≤ 100) →
    ∃ r, gantletlaw18_great.l0 k acts l (l.length : Int) (i : Int) = some r ∧ (r = false → (∀ s, s ∈ l → s.size ≤ 100) ∧ ∀ a, a ∈ acts → a.f1.size ≤ 100) := by
  intro m
  induction m with
  | zero =>
    intro k i hi hk hd
    obtain ⟨k, rfl⟩ : ∃ q, k = q + 1 := ⟨k - 1, by omega⟩
    rw [gantletlaw18_great.l0, if_neg (by omega)]
    obtain ⟨r, h1, h2⟩ := great_l1 acts ha acts.length k 0 (by omega) (by omega) (fun j _ h => by omega)
    refine ⟨r, h1, fun h => ⟨fun s hm => ?_, h2 h⟩⟩
    obtain ⟨j, hj, rfl⟩ := List.getElem_of_mem hm
    exact hd j hj (by omega)
  | succ m ih =>
    intro k i hi hk hd
    obtain ⟨k, rfl⟩ : ∃ q, k = q + 1 := ⟨k - 1, by omega⟩
    have hlt : i < l.length := by omega
    rw [gantletlaw18_great.l0, if_pos (by omega), if_pos (by omega), if_pos (by omega), rd_at l i hlt]
    by_cases h : ((l[i]).size : Int) > 100
    · rw [if_pos h]; exact ⟨true, rfl, fun h => by cases h⟩
    · rw [if_neg h, w64 (by omega) (by omega), show (i : Int) + 1 = ((i + 1 : Nat) : Int) by omega]
      refine ih k (i + 1) (by omega) (by omega) (fun j hj hji => ?_)
      by_cases hjs : j = i
      · subst hjs; omega
      · exact hd j hj (by omega)
theorem great_ok (l : List ByteArray) (acts : List (S37)) (k : Nat) (hk : 500 ≤ k) :
    ∃ r, gantletlaw18_great.f k l acts = some r ∧ (r = false → l.length ≤ 200 ∧ acts.length ≤ 200 ∧ (∀ s, s ∈ l → s.size ≤ 100) ∧ ∀ a, a ∈ acts → a.f1.size ≤ 100) := by
  obtain ⟨k, rfl⟩ : ∃ q, k = q + 1 := ⟨k - 1, by omega⟩
  unfold gantletlaw18_great.f
  by_cases h1 : (l.length : Int) > 200
  · rw [if_pos h1, gantletlaw18_great.j0, if_pos rfl]
    exact ⟨true, rfl, fun h => by cases h⟩
  rw [if_neg h1]
  by_cases h2 : (acts.length : Int) > 200
  · rw [decide_eq_true h2, gantletlaw18_great.j0, if_pos rfl]
    exact ⟨true, rfl, fun h => by cases h⟩
  rw [decide_eq_false h2, gantletlaw18_great.j0, if_neg (by decide)]
  obtain ⟨r, h3, h4⟩ := great_l0 l acts (by omega) (by omega) l.length k 0 (by omega) (by omega) (fun j _ h => by omega)
  exact ⟨r, h3, fun h => ⟨by omega, by omega, (h4 h).1, (h4 h).2⟩⟩
end Go.Proofs.Ytidcmkmlcmjekaa.BNum
