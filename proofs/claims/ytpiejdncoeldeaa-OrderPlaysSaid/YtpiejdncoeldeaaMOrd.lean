/- Plain law of the order of elements: what stands first is told by the first place where two differ, zeros behind the end. No program in sight. -/
namespace Go.Proofs.Ytpiejdncoeldeaa.Ord

def Cmp (A B : Nat → Int) (r : Int) : Prop :=
  (r = 0 ∧ ∀ i, A i = B i) ∨ (r = -1 ∧ ∃ i, A i < B i ∧ ∀ j, j < i → A j = B j) ∨ (r = 1 ∧ ∃ i, B i < A i ∧ ∀ j, j < i → A j = B j)
theorem Cmp.swap {A B : Nat → Int} {r : Int} (h : Cmp A B r) : Cmp B A (-r) := by
  rcases h with ⟨rfl, h⟩ | ⟨rfl, i, h1, h2⟩ | ⟨rfl, i, h1, h2⟩
  · exact .inl ⟨rfl, fun i => (h i).symm⟩
  · exact .inr (.inr ⟨rfl, i, h1, fun j hj => (h2 j hj).symm⟩)
  · exact .inr (.inl ⟨rfl, i, h1, fun j hj => (h2 j hj).symm⟩)
theorem less_once {A B : Nat → Int} {i k : Nat} (h1 : A i < B i) (h2 : ∀ j, j < i → A j = B j) (g1 : B k < A k) (g2 : ∀ j, j < k → A j = B j) : False := by
  rcases Nat.lt_trichotomy i k with h | h | h
  · have := g2 i h; omega
  · subst h; omega
  · have := h2 k h; omega
theorem Cmp.uniq {A B : Nat → Int} {r s : Int} (h : Cmp A B r) (g : Cmp A B s) : r = s := by
  rcases h with ⟨rfl, h⟩ | ⟨rfl, i, h1, h2⟩ | ⟨rfl, i, h1, h2⟩ <;> rcases g with ⟨rfl, g⟩ | ⟨rfl, k, g1, g2⟩ | ⟨rfl, k, g1, g2⟩
  · rfl
  · have := h k; omega
  · have := h k; omega
  · have := g i; omega
  · rfl
  · exact (less_once h1 h2 g1 g2).elim
  · have := g i; omega
  · exact (less_once g1 g2 h1 h2).elim
  · rfl
theorem less_trans {A B C : Nat → Int} {i k : Nat} (h1 : A i < B i) (h2 : ∀ j, j < i → A j = B j) (g1 : B k < C k) (g2 : ∀ j, j < k → B j = C j) : ∃ m, A m < C m ∧ ∀ j, j < m → A j = C j := by
  rcases Nat.lt_trichotomy i k with h | h | h
  · exact ⟨i, by have := g2 i h; omega, fun j hj => (h2 j hj).trans (g2 j (by omega))⟩
  · subst h; exact ⟨i, by omega, fun j hj => (h2 j hj).trans (g2 j hj)⟩
  · exact ⟨k, by have := h2 k h; omega, fun j hj => (h2 j (by omega)).trans (g2 j hj)⟩
theorem Cmp.same {A B C : Nat → Int} {y : Int} (h : ∀ i, A i = B i) (g : Cmp B C y) : Cmp A C y := by
  have : A = B := funext h
  rw [this]; exact g
theorem Cmp.third {A B C : Nat → Int} {x y z : Int} (hx : Cmp A B x) (hy : Cmp B C y) (hz : Cmp A C z) : (x > 0 ∨ y > 0 ∨ z ≤ 0) ∧ (x ≠ 0 ∨ y = z) := by
  rcases hx with ⟨rfl, h⟩ | ⟨rfl, i, h1, h2⟩ | ⟨rfl, i, h1, h2⟩
  · have := (Cmp.same h hy).uniq hz
    subst this
    exact ⟨by omega, .inr rfl⟩
  · refine ⟨?_, .inl (by omega)⟩
    rcases hy with ⟨rfl, g⟩ | ⟨rfl, k, g1, g2⟩ | ⟨rfl, k, g1, g2⟩
    · have e : B = C := funext g
      subst e
      have := hz.uniq (.inr (.inl ⟨rfl, i, h1, h2⟩)); omega
    · have := hz.uniq (.inr (.inl ⟨rfl, less_trans h1 h2 g1 g2⟩)); omega
    · omega
  · exact ⟨by omega, .inl (by omega)⟩
theorem Cmp.range {A B : Nat → Int} {r : Int} (h : Cmp A B r) : -1 ≤ r ∧ r ≤ 1 := by
  rcases h with ⟨rfl, _⟩ | ⟨rfl, _⟩ | ⟨rfl, _⟩ <;> omega
theorem Cmp.refl (A : Nat → Int) : Cmp A A 0 := .inl ⟨rfl, fun _ => rfl⟩

/-! ### Texts as lists -/
def seq (l : List Int) (i : Nat) : Int := l.getD i 0
theorem seq_nil (i : Nat) : seq [] i = 0 := rfl
theorem seq_zero (l : List Int) : seq (l ++ [0]) = seq l := by
  funext i
  unfold seq
  rw [List.getD_eq_getElem?_getD, List.getD_eq_getElem?_getD]
  rcases Nat.lt_trichotomy i l.length with h | h | h
  · rw [List.getElem?_append_left h]
  · subst h; simp
  · rw [List.getElem?_eq_none (by simp; omega), List.getElem?_eq_none (by omega)]
def bl : List Int → List Int → Bool
  | _, [] => false
  | [], _ :: _ => true
  | a :: x, b :: y => decide (a < b) || (a == b && bl x y)
theorem bl_cmp : ∀ (x y : List Int), x.length = y.length → Cmp (seq x) (seq y) (if bl x y = true then -1 else if bl y x = true then 1 else 0)
  | [], [], _ => .inl ⟨by simp [bl], fun _ => rfl⟩
  | a :: x, b :: y, h => by
    have ih := bl_cmp x y (by simpa using h)
    by_cases h1 : a < b
    · rw [if_pos (by simp [bl, h1])]
      exact .inr (.inl ⟨rfl, 0, by simpa [seq] using h1, fun j hj => by omega⟩)
    by_cases h2 : b < a
    · have h3 : ¬ a = b := by omega
      rw [if_neg (by simp [bl, h1, h3]), if_pos (by simp [bl, h2])]
      exact .inr (.inr ⟨rfl, 0, by simpa [seq] using h2, fun j hj => by omega⟩)
    · have h3 : a = b := by omega
      subst h3
      have e1 : bl (a :: x) (a :: y) = bl x y := by simp [bl]
      have e2 : bl (a :: y) (a :: x) = bl y x := by simp [bl]
      rw [e1, e2]
      rcases ih with ⟨hr, g⟩ | ⟨hr, i, g1, g2⟩ | ⟨hr, i, g1, g2⟩
      · exact .inl ⟨hr, fun i => by cases i with
          | zero => rfl
          | succ i => exact g i⟩
      · exact .inr (.inl ⟨hr, i + 1, g1, fun j hj => by cases j with
          | zero => rfl
          | succ j => exact g2 j (by omega)⟩)
      · exact .inr (.inr ⟨hr, i + 1, g1, fun j hj => by cases j with
          | zero => rfl
          | succ j => exact g2 j (by omega)⟩)
  | [], _ :: _, h => by simp at h
  | _ :: _, [], h => by simp at h
end Go.Proofs.Ytpiejdncoeldeaa.Ord
