/- What the printed functions of the numbers' layer and of its reference come to: the plain law's functions. -/
import Derived.Test.YtghkfoaiieajhaaMNum
import Derived.Test.YtghkfoaiieajhaaBs
import Derived.Test.YtghkfoaiieajhaaPAx1
import Derived.Test.YtghkfoaiieajhaaPAx2
import Derived.Test.YtghkfoaiieajhaaPAx3
import Derived.Test.YtghkfoaiieajhaaPAx4
namespace Go.Proofs.Ytghkfoaiieajhaa.BNum
open Go.RowKit Go.Proofs.Ytghkfoaiieajhaa.PA Go.Proofs.YtghkfoaiieajhaaW.PrintWords Go.Proofs.YtghkfoaiieajhaaW.PrintLast Go.Proofs.YtghkfoaiieajhaaW.PrintMore
open Go.Proofs.Ytghkfoaiieajhaa.Bs
open Go.Proofs.Ytghkfoaiieajhaa.Nm (pn sb fo sv Least Fits)
set_option linter.unusedVariables false

/-- May a content of so many bytes begin? -/
def okN (tag n : Int) : Bool :=
  if tag = 2 ∨ tag = 10 then decide (n > 0) else if tag = 1 then n == 1 else if tag = 5 then n == 0 else decide (n ≥ 0)
/-- May a byte come at a place, behind a first one? -/
def okP (tag at_ first b : Int) : Bool :=
  if tag = 1 then b == 0 || b == 255
  else if (tag = 2 ∨ tag = 10) ∧ at_ = 1 then !(first == 0 && decide (b < 128) || first == 255 && decide (b ≥ 128))
  else true
theorem start_eq (k : Nat) (tag n : Int) : number_Start.f (k + 1) tag n = some (if okN tag n = true then (tag, n, 0, 0, true) else (0, 0, 0, 0, false)) := by
  unfold number_Start.f okN
  simp only [number_Start.j0]
  by_cases h2 : tag = 2
  · subst h2; by_cases hn : n > 0 <;> simp [hn]
  by_cases h10 : tag = 10
  · subst h10; by_cases hn : n > 0 <;> simp [hn]
  by_cases h1 : tag = 1
  · subst h1; by_cases hn : n = 1 <;> simp [hn]
  by_cases h5 : tag = 5
  · subst h5; by_cases hn : n = 0 <;> simp [hn]
  by_cases hn : n ≥ 0 <;> simp [h2, h10, h1, h5, hn]
theorem push_eq (k : Nat) (tag n at_ first b : Int) (ha : 0 ≤ at_) (ha' : at_ < 4611686018427387904) : number_State_Push.f (k + 1) tag n at_ first b =
    some (if okP tag at_ first b = true then (tag, n, at_ + 1, (if at_ = 0 then b else first), true) else (0, 0, 0, 0, false)) := by
  have e : ∀ c : Bool, number_State_Push.j0 (k + 1) b c tag n at_ first = some (if c = true then (tag, n, at_ + 1, (if at_ = 0 then b else first), true) else (0, 0, 0, 0, false)) := by
    intro c
    simp only [number_State_Push.j0]
    rw [w64 (x := at_ + 1) (by omega) (by omega)]
    cases c
    · rfl
    · by_cases h : at_ = 0
      · simp [h]
      · simp [h]
  have e1 : ∀ c d : Bool, c = d → number_State_Push.j0 (k + 1) b c tag n at_ first = some (if d = true then (tag, n, at_ + 1, (if at_ = 0 then b else first), true) else (0, 0, 0, 0, false)) := fun c d h => h ▸ e c
  unfold number_State_Push.f
  by_cases h1 : tag = 1
  · rw [if_pos h1]
    by_cases hb : b = 0
    · rw [if_pos hb]; exact e1 _ _ (by simp [okP, h1, hb])
    · rw [if_neg hb]; exact e1 _ _ (by simp [okP, h1, hb])
  rw [if_neg h1]
  by_cases h2 : tag = 2
  · rw [if_pos h2]
    by_cases h3 : at_ = 1
    · rw [if_pos h3]
      by_cases h4 : first = 0
      · rw [if_pos h4]
        by_cases h5 : b < 128
        · rw [if_pos h5]; exact e1 _ _ (by simp [okP, h2, h3, h4, h5])
        · rw [if_neg h5, if_neg (by omega)]; exact e1 _ _ (by simp [okP, h2, h3, h4, h5])
      · rw [if_neg h4]
        by_cases h6 : first = 255
        · rw [if_pos h6]; exact e1 _ _ (by simp [okP, h2, h3, h6])
        · rw [if_neg h6]; exact e1 _ _ (by simp [okP, h2, h3, h4, h6])
    · rw [if_neg h3]; exact e1 _ _ (by simp [okP, h2, h3])
  rw [if_neg h2]
  by_cases h10 : tag = 10
  · rw [if_pos h10]
    by_cases h3 : at_ = 1
    · rw [if_pos h3]
      by_cases h4 : first = 0
      · rw [if_pos h4]
        by_cases h5 : b < 128
        · rw [if_pos h5]; exact e1 _ _ (by simp [okP, h10, h3, h4, h5])
        · rw [if_neg h5, if_neg (by omega)]; exact e1 _ _ (by simp [okP, h10, h3, h4, h5])
      · rw [if_neg h4]
        by_cases h6 : first = 255
        · rw [if_pos h6]; exact e1 _ _ (by simp [okP, h10, h3, h6])
        · rw [if_neg h6]; exact e1 _ _ (by simp [okP, h10, h3, h4, h6])
    · rw [if_neg h3]; exact e1 _ _ (by simp [okP, h10, h3])
  rw [if_neg h10]
  exact e1 _ _ (by simp [okP, h1, h2, h10])

/-- With which byte a content of n bytes, of which these came, is wrong. -/
def wr (tag n : Int) (l : List Int) : Int :=
  if okN tag n = false ∨ n < 0 then 0
  else if tag = 1 then (match l with
    | b :: _ => if okP 1 0 0 b = true then -1 else 1
    | [] => -1)
  else if tag = 2 ∨ tag = 10 then (match l with
    | a :: b :: _ => if okP tag 1 a b = true then -1 else 2
    | _ => -1)
  else -1
theorem wrong_eq (k : Nat) (tag n : Int) (s : ByteArray) : gantletref10_Wrong.f (k + 1) tag n s = some (wr tag n (bytesOf s)) := by
  have hl := bytesOf_length s
  have hb0 := bt_get s 0
  have hb1 := bt_get s 1
  have j0 : ∀ c : Bool, 0 ≤ n → gantletref10_Wrong.j0 (k + 1) n s c = some (if c = true then -1 else if n = 0 then 0 else (match bytesOf s with
      | a :: b :: _ => if okP 2 1 a b = true then -1 else 2
      | _ => -1)) := by
    intro c hn
    simp only [gantletref10_Wrong.j0]
    cases c
    · simp only [Bool.false_eq_true, if_false]
      by_cases h0 : n = 0
      · rw [if_pos h0, if_pos h0]
      rw [if_neg h0, if_neg h0]
      cases hs : bytesOf s with
      | nil => rw [hs] at hl; rw [if_neg (by simp at hl; omega)]
      | cons a r =>
        cases r with
        | nil => rw [hs] at hl; rw [if_neg (by simp at hl; omega)]
        | cons b r =>
          rw [hs] at hl hb0 hb1
          simp at hl hb0 hb1
          rw [if_pos (by omega), if_pos (by omega), hb0, hb1]
          simp only [okP]
          by_cases ha : a = 0
          · subst ha
            rw [if_pos rfl, if_pos (by omega)]
            by_cases hb : b < 128
            · rw [if_pos hb]; simp [hb]
            · rw [if_neg hb, if_neg (by decide)]; simp [hb]
          · rw [if_neg ha]
            by_cases ha5 : a = 255
            · subst ha5
              rw [if_pos rfl, if_pos (by omega)]
              by_cases hb : b > 127
              · rw [if_pos hb]; simp; omega
              · rw [if_neg hb]; simp; omega
            · rw [if_neg ha5]; simp [ha, ha5]
    · simp
  unfold gantletref10_Wrong.f wr
  by_cases hn : n < 0
  · rw [if_pos hn, if_pos (.inr hn)]
  rw [if_neg hn]
  by_cases h5 : tag = 5
  · subst h5
    rw [if_pos rfl]
    by_cases h0 : n = 0
    · simp [okN, h0]
    · simp [okN, h0]
  rw [if_neg h5]
  by_cases h1 : tag = 1
  · subst h1
    rw [if_pos rfl]
    by_cases hn1 : n = 1
    · subst hn1
      rw [if_pos rfl]
      cases hs : bytesOf s with
      | nil => rw [hs] at hl; rw [if_neg (by simp at hl; omega)]; simp [okN]
      | cons b r =>
        rw [hs] at hl hb0
        simp at hl hb0
        rw [if_pos (by omega), if_pos (by omega), hb0]
        by_cases h : b = 0
        · simp [h, okN, okP]
        · by_cases h' : b = 255
          · simp [h', okN, okP]
          · simp [h, h', okN, okP]
    · rw [if_neg hn1]; simp [okN, hn1]
  rw [if_neg h1]
  by_cases h2 : tag = 2
  · subst h2
    rw [if_pos rfl, j0 _ (by omega)]
    by_cases h0 : n = 0
    · simp [okN, h0]
    · have : n > 0 := by omega
      simp [okN, h0, this]; omega
  rw [if_neg h2, j0 _ (by omega)]
  by_cases h10 : tag = 10
  · subst h10
    by_cases h0 : n = 0
    · simp [okN, h0]
    · have : n > 0 := by omega
      simp [okN, h0, this, okP]; omega
  · have : (tag != 10) = true := by simpa using h10
    rw [if_pos this, if_neg, if_neg h1, if_neg (by omega)]
    simp [okN, h1, h2, h5, h10]; omega

/-! ### Put -/
theorem put_l0 (k : Nat) : ∀ (n : Nat) (v : Int) (acc : List Int), Fits n v → acc.length < 1000 - n → number_Put.l0 (k + n + 1) v (v % 256 :: acc) = some (strOfNums (pn n v ++ acc)) := by
  intro n
  induction n with
  | zero =>
    intro v acc hf hl
    obtain ⟨h1, h2⟩ := hf
    show number_Put.l0 (k + 1) v _ = _
    simp only [number_Put.l0]
    rw [if_neg (by omega), if_neg (by omega)]
    rfl
  | succ n ih =>
    intro v acc hf hl
    show number_Put.l0 (k + n + 1 + 1) v _ = _
    simp only [number_Put.l0, Option.bind_some]
    have hi := ih (v / 256) (v % 256 :: acc) hf (by simp; omega)
    have hg : ([v / 256 % 256] : List Int).length + (v % 256 :: acc).length < 140737488355328 := by simp; omega
    by_cases h1 : v > 127
    · rw [if_pos h1, if_pos hg]
      simp only [pn]
      rw [if_pos (show v > 127 ∨ v < -128 from .inl h1), List.append_assoc]
      exact hi
    by_cases h2 : v < -128
    · rw [if_neg h1, if_pos h2, if_pos hg]
      simp only [pn]
      rw [if_pos (show v > 127 ∨ v < -128 from .inr h2), List.append_assoc]
      exact hi
    · rw [if_neg h1, if_neg h2]
      simp only [pn]
      rw [if_neg (by omega)]
      rfl
theorem fits64 {v : Int} (h : -9223372036854775808 ≤ v ∧ v ≤ 9223372036854775807) : Fits 7 v := by
  show -128 ≤ v / 256 / 256 / 256 / 256 / 256 / 256 / 256 ∧ v / 256 / 256 / 256 / 256 / 256 / 256 / 256 ≤ 127
  omega
theorem put_ok (k : Nat) (v : Int) (h : -9223372036854775808 ≤ v ∧ v ≤ 9223372036854775807) : number_Put.f (k + 8) v = some (strOfNums (pn 7 v)) := by
  unfold number_Put.f
  have := put_l0 k 7 v [] (fits64 h) (by simp)
  rw [List.append_nil] at this
  exact this

/-! ### Get -/
/-- What is taken so far, in so many bytes, fits. -/
theorem fo_last (v : Int) (l : List Int) (i : Nat) (h : i < l.length) : fo v (l.take (i + 1)) = 256 * fo v (l.take i) + l.getD i 0 := by
  rw [List.take_succ_eq_append_getElem h, Nm.fo_append, List.getD_eq_getElem?_getD, List.getElem?_eq_getElem h]; rfl
def Ok8 (l : List Int) : Prop := ∀ b, b ∈ l → 0 ≤ b ∧ b < 256
theorem fo_bound (l : List Int) (hb : Ok8 l) : ∀ (v : Int) (m : Nat), -(128 * 256 ^ m : Int) ≤ v → v < 128 * 256 ^ m → -(128 * 256 ^ (m + l.length) : Int) ≤ fo v l ∧ fo v l < 128 * 256 ^ (m + l.length) := by
  induction l with
  | nil => intro v m h1 h2; exact ⟨h1, h2⟩
  | cons a r ih =>
    intro v m h1 h2
    have ha := hb a (by simp)
    have := ih (fun x hx => hb x (by simp [hx])) (256 * v + a) (m + 1) (by rw [Int.pow_succ]; omega) (by rw [Int.pow_succ]; omega)
    rw [show m + (a :: r).length = m + 1 + r.length by simp; omega]
    exact this
theorem i8_wrap (b : Int) (h0 : 0 ≤ b) (h1 : b < 256) : wrap64 (IntKind.i8.wrap b) = sb b := by
  have : ∀ n : Nat, n < 256 → wrap64 (IntKind.i8.wrap (n : Int)) = sb (n : Int) := by decide +kernel
  have := this b.toNat (by omega)
  rwa [Int.toNat_of_nonneg h0] at this
theorem pow6 (m : Nat) (h : m ≤ 6) : (256 : Int) ^ m ≤ 281474976710656 := by
  match m, h with
  | 0, _ => decide
  | 1, _ => decide
  | 2, _ => decide
  | 3, _ => decide
  | 4, _ => decide
  | 5, _ => decide
  | 6, _ => decide
/-- The state behind some bytes; the first one's place. -/
theorem get_l0 (s : ByteArray) (a : Int) (r : List Int) (hs : bytesOf s = a :: r) (h8 : r.length < 8) (f0 : Int) :
    ∀ (d k i : Nat) (x6 : Int) (first : Int), i + d = s.size → 2 * d + 2 ≤ k → 1 ≤ i → x6 = fo (sb a) (r.take (i - 1)) → first = a →
      number_Get.l0 k s x6 (s.size : Int) (i : Int) 2 (s.size : Int) (i : Int) first =
        some (if i = 1 ∧ r ≠ [] ∧ okP 2 1 a (r.getD 0 0) = false then (0, false) else (sv (a :: r), true)) := by
  have hb := bytes_of s
  rw [hs] at hb
  have hl := bytesOf_length s
  rw [hs] at hl
  intro d
  induction d with
  | zero =>
    intro k i x6 first hi hk h1 h6 hf
    obtain ⟨k, rfl⟩ : ∃ m, k = m + 1 := ⟨k - 1, by omega⟩
    simp only [number_Get.l0]
    rw [if_neg (by omega)]
    have ht : r.take (i - 1) = r := List.take_of_length_le (by simp at hl; omega)
    rw [if_neg, h6, ht]
    · rfl
    · rintro ⟨e, h, _⟩
      have : r.length ≠ 0 := by simpa using h
      simp at hl; omega
  | succ d ih =>
    intro k i x6 first hi hk h1 h6 hf
    obtain ⟨k, rfl⟩ : ∃ m, k = m + 2 := ⟨k - 2, by omega⟩
    have hbt : bt s (i : Int) = r.getD (i - 1) 0 := by
      rw [bt_get, hs, Int.toNat_natCast]
      obtain ⟨j, rfl⟩ : ∃ j, i = j + 1 := ⟨i - 1, by omega⟩
      simp
    have hir : i - 1 < r.length := by simp at hl; omega
    have hmem : r.getD (i - 1) 0 ∈ (a :: r) := by
      rw [List.getD_eq_getElem?_getD, List.getElem?_eq_getElem hir]
      exact List.mem_cons_of_mem _ (List.getElem_mem hir)
    have hr := hb _ hmem
    have ha := hb a (by simp)
    have hrne : r ≠ [] := by intro he; rw [he] at hir; simp at hir
    rw [number_Get.l0]
    rw [if_pos (by omega), if_pos (by omega), if_pos (by omega), hbt, push_eq k 2 _ _ _ _ (by omega) (by simp at hl; omega)]
    simp only [Option.bind_some]
    by_cases hp : okP 2 (i : Int) first (r.getD (i - 1) 0) = true
    · rw [if_pos hp]
      simp only
      have hno : ¬ (i = 1 ∧ r ≠ [] ∧ okP 2 1 a (r.getD 0 0) = false) := by
        rintro ⟨rfl, _, h⟩
        rw [hf] at hp
        simp only [Nat.sub_self, Int.natCast_one] at hp
        rw [hp] at h; cases h
      rw [if_neg hno]
      have hx : -36028797018963968 ≤ x6 ∧ x6 < 36028797018963968 := by
        have hb' := fo_bound (r.take (i - 1)) (fun x hx => hb x (List.mem_cons_of_mem _ (List.mem_of_mem_take hx))) (sb a) 0 (by unfold sb; split <;> omega) (by unfold sb; split <;> omega)
        rw [h6]
        have hm : 0 + (r.take (i - 1)).length ≤ 6 := by simp at hl ⊢; omega
        have hpow : (256 : Int) ^ (0 + (r.take (i - 1)).length) ≤ 281474976710656 := pow6 _ hm
        omega
      have hstep : Go.bits .or .i64 (wrap64 (x6 * 256)) (wrap64 (r.getD (i - 1) 0)) = fo (sb a) (r.take (i + 1 - 1)) := by
        rw [w64 (x := x6 * 256) (by omega) (by omega), w64 (x := r.getD (i - 1) 0) (by omega) (by omega), Int.mul_comm x6 256, i64_or8 _ _ hx.1 hx.2 hr.1 hr.2]
        obtain ⟨j, rfl⟩ : ∃ j, i = j + 1 := ⟨i - 1, by omega⟩
        simp only [Nat.add_sub_cancel] at *
        rw [fo_last _ _ _ hir, h6]
      rw [if_pos (by simp), if_pos (by omega), hstep, w64 (x := (i : Int) + 1) (by omega) (by simp at hl; omega), show ((i : Int) + 1) = ((i + 1 : Nat) : Int) by omega,
        ih (k + 1) (i + 1) _ _ (by omega) (by omega) (by omega) rfl (by rw [if_neg (by omega)]; exact hf), if_neg (by omega)]
    · have hp' : okP 2 (i : Int) first (r.getD (i - 1) 0) = false := by simpa using hp
      rw [if_neg hp]
      simp only [Bool.false_eq_true, if_false]
      have hi1 : i = 1 := by
        by_cases h : i = 1
        · exact h
        · exfalso; apply hp
          have : ¬ ((i : Int) = 1) := by omega
          simp [okP, this]
      subst hi1
      rw [hf] at hp'
      rw [if_pos ⟨rfl, hrne, by simpa using hp'⟩]
/-- A content's value, or none. -/
def got (l : List Int) : Int × Bool :=
  match l with
  | [] => (0, false)
  | a :: r => if r.length < 8 ∧ wr 2 ((a :: r).length : Int) (a :: r) = -1 then (sv (a :: r), true) else (0, false)
theorem wr_two (a : Int) (r : List Int) : wr 2 ((a :: r).length : Int) (a :: r) = if r ≠ [] ∧ okP 2 1 a (r.getD 0 0) = false then 2 else -1 := by
  have h1 : okN 2 ((a :: r).length : Int) = true := by simp [okN]
  unfold wr
  rw [if_neg (by rw [h1]; simp; omega), if_neg (by decide), if_pos (.inl rfl)]
  cases r with
  | nil => simp
  | cons b r => simp; cases okP 2 1 a b <;> rfl
theorem get_ok (s : ByteArray) (k : Nat) (hs : s.size ≤ 1000) (hk : 2100 ≤ k) : number_Get.f k s = some (got (bytesOf s)) := by
  obtain ⟨k, rfl⟩ : ∃ m, k = m + 1 := ⟨k - 1, by omega⟩
  have hl := bytesOf_length s
  have j0t : ∀ p q r t, number_Get.j0 (k + 1) s true p q r t = some (0, false) := by
    intro p q r t; simp only [number_Get.j0, if_true]
  unfold number_Get.f
  rw [start_eq k]
  cases hc : bytesOf s with
  | nil =>
    rw [hc] at hl
    have : okN 2 (s.size : Int) = false := by simp at hl; simp [okN, ← hl]
    rw [this]
    simp only [Option.bind_some, Bool.false_eq_true, if_false, j0t]
    rfl
  | cons a r =>
    rw [hc] at hl
    simp at hl
    have hn : okN 2 (s.size : Int) = true := by simp [okN]; omega
    rw [hn]
    simp only [Option.bind_some, if_true]
    have hb := bytes_of s
    rw [hc] at hb
    by_cases h8 : (s.size : Int) > 8
    · rw [show decide ((s.size : Int) > 8) = true by simpa using h8, j0t]
      simp only [got]
      rw [if_neg (by omega)]
    · rw [show decide ((s.size : Int) > 8) = false by simpa using h8]
      simp only [number_Get.j0, Bool.false_eq_true, if_false]
      have ha := hb a (by simp)
      have hbt : bt s 0 = a := by rw [bt_get, hc]; rfl
      rw [if_pos (by omega), hbt, i8_wrap a ha.1 ha.2]
      obtain ⟨k, rfl⟩ : ∃ m, k = m + 2 := ⟨k - 2, by omega⟩
      rw [number_Get.l0]
      rw [if_pos (by omega), if_pos (by omega), if_pos (by omega), hbt, push_eq k 2 _ _ _ _ (by omega) (by omega), show okP 2 0 0 a = true from rfl]
      simp only [Option.bind_some, if_true]
      rw [if_neg (by omega), show wrap64 (0 + 1) = ((1 : Nat) : Int) by decide +kernel, show (0 : Int) + 1 = ((1 : Nat) : Int) from rfl]
      rw [get_l0 s a r hc (by omega) 0 (s.size - 1) (k + 1) 1 (sb a) _ (by omega) (by omega) (by omega) rfl rfl]
      simp only [got]
      rw [wr_two]
      by_cases hx : r ≠ [] ∧ okP 2 1 a (r.getD 0 0) = false
      · rw [if_pos (by simpa using hx), if_neg (by rw [if_pos hx]; simp)]
      · rw [if_neg (by rintro ⟨_, h⟩; exact hx h), if_pos ⟨by omega, by rw [if_neg hx]⟩]
end Go.Proofs.Ytghkfoaiieajhaa.BNum
