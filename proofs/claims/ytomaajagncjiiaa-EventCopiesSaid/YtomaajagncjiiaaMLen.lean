/- Plain law of lengths: what a length's bytes are, and what bytes are read as. No program in sight. -/
import Derived.Test.YtomaajagncjiiaaMId
namespace Go.Proofs.Ytomaajagncjiiaa.Lenm
open Go.Proofs.Ytomaajagncjiiaa.Idm
set_option linter.unusedVariables false

/-- The number of some bytes, the highest first. -/
def val (l : List Int) : Int := l.foldl (fun a b => 256 * a + b) 0
/-- A number's bytes, the highest first, none too many. -/
def lb (n : Nat) : List Int := if h : n < 256 then [(n : Int)] else lb (n / 256) ++ [((n % 256 : Nat) : Int)]
def lenc (n : Int) : List Int := if n < 128 then [n] else (128 + ((lb n.toNat).length : Int)) :: lb n.toNat
def MaxLen : Int := 2305843009213693951
/-- (length, place, error) -/
def lg : List Int → Int × Nat × Int
  | [] => (0, 0, 2)
  | f :: r =>
    if f < 128 then (f, 1, 0)
    else if f = 128 ∨ 136 < f then (0, 0, 4)
    else if 0 < r.length ∧ (r.getD 0 0 = 0 ∨ f = 129 ∧ r.getD 0 0 < 128) then (0, 1, 4)
    else if (r.length : Int) < f - 128 then (0, 1 + r.length, 2)
    else if MaxLen < val (r.take (f - 128).toNat) then (0, (f - 128).toNat, 4)
    else (val (r.take (f - 128).toNat), 1 + (f - 128).toNat, 0)

theorem rev_ind {α : Type} {p : List α → Prop} (h0 : p []) (h1 : ∀ l b, p l → p (l ++ [b])) (l : List α) : p l := by
  have key : ∀ r : List α, p r.reverse := by
    intro r
    induction r with
    | nil => exact h0
    | cons a r ih => rw [List.reverse_cons]; exact h1 _ _ ih
  have := key l.reverse
  rwa [List.reverse_reverse] at this
theorem getD_front (l r : List Int) (h : 0 < l.length) : (l ++ r).getD 0 0 = l.getD 0 0 := by
  cases l with
  | nil => simp at h
  | cons a l => rfl
theorem val_snoc (l : List Int) (b : Int) : val (l ++ [b]) = 256 * val l + b := by simp [val, List.foldl_append]
theorem val_nonneg (l : List Int) (h : Bytes l) : 0 ≤ val l := by
  revert h
  refine rev_ind (p := fun l => Bytes l → 0 ≤ val l) (fun _ => by simp [val]) (fun l b ih h => ?_) l
  rw [val_snoc]
  have := ih (fun x hx => h x (by simp [hx])); have := h b (by simp); omega
theorem lb_val (n : Nat) : val (lb n) = n := by
  induction n using Nat.strongRecOn with
  | ind n ih =>
    rw [lb]
    split
    · simp [val]
    · rw [val_snoc, ih (n / 256) (by omega)]; omega
theorem lb_bytes (n : Nat) : Bytes (lb n) := by
  induction n using Nat.strongRecOn with
  | ind n ih =>
    rw [lb]
    split
    · intro b hb; simp at hb; omega
    · intro b hb
      simp only [List.mem_append, List.mem_singleton] at hb
      rcases hb with hb | hb
      · exact ih (n / 256) (by omega) b hb
      · omega
theorem lb_ne (n : Nat) : lb n ≠ [] := by rw [lb]; split <;> simp
theorem lb_pos (n : Nat) : 0 < (lb n).length := List.length_pos_iff.2 (lb_ne n)
theorem lb_head (n : Nat) (h : 0 < n) : 0 < (lb n).getD 0 0 := by
  induction n using Nat.strongRecOn with
  | ind n ih =>
    rw [lb]
    split
    · simp; omega
    · have h1 := ih (n / 256) (by omega) (by omega)
      have h2 := lb_pos (n / 256)
      rwa [getD_front _ _ h2]
theorem lb_small (n : Nat) (h : n < 256) : lb n = [(n : Int)] := by rw [lb, dif_pos h]
theorem lb_big (n : Nat) (h : 256 ≤ n) : lb n = lb (n / 256) ++ [((n % 256 : Nat) : Int)] := by rw [lb, dif_neg (by omega)]
theorem lb_len_one (n : Nat) : (lb n).length = 1 ↔ n < 256 := by
  constructor
  · intro h
    rcases Nat.lt_or_ge n 256 with h1 | h1
    · exact h1
    · rw [lb_big n h1] at h
      have h2 := lb_pos (n / 256)
      rw [List.length_append, List.length_singleton] at h; omega
  · intro h; rw [lb_small n h]; rfl
theorem lb_len_le (k : Nat) : ∀ n : Nat, n < 256 ^ (k + 1) → (lb n).length ≤ k + 1 := by
  induction k with
  | zero => intro n h; rw [lb_small n (by simpa using h)]; simp
  | succ k ih =>
    intro n h
    rcases Nat.lt_or_ge n 256 with h1 | h1
    · rw [lb_small n h1]; simp
    · rw [lb_big n h1]
      have := ih (n / 256) (by rw [Nat.div_lt_iff_lt_mul (by omega)]; rw [Nat.pow_succ] at h; exact h)
      simp; omega
theorem lb_of (l : List Int) (hb : Bytes l) (h0 : 0 < l.length) (h1 : l.getD 0 0 ≠ 0) : lb (val l).toNat = l ∧ 0 < val l := by
  revert hb h0 h1
  refine rev_ind (p := fun l => Bytes l → 0 < l.length → l.getD 0 0 ≠ 0 → lb (val l).toNat = l ∧ 0 < val l) (fun _ h => by simp at h) (fun l b ih hb h0 h1 => ?_) l
  · have hb0 := hb b (by simp)
    have hl : Bytes l := fun x hx => hb x (by simp [hx])
    rcases Nat.eq_zero_or_pos l.length with e | e
    · obtain rfl := List.eq_nil_of_length_eq_zero e
      simp at h1
      simp only [List.nil_append]
      rw [show val [b] = b by simp [val], lb_small _ (by omega)]
      exact ⟨by congr 1; omega, by omega⟩
    · rw [getD_front _ _ e] at h1
      obtain ⟨i1, i2⟩ := ih hl e h1
      rw [val_snoc]
      have h3 : (256 * val l + b).toNat = 256 * (val l).toNat + b.toNat := by omega
      rw [h3, lb_big _ (by omega), show (256 * (val l).toNat + b.toNat) / 256 = (val l).toNat by omega, i1]
      refine ⟨by congr 2; omega, by omega⟩

theorem lenc_len (n : Int) (h0 : 0 ≤ n) (h1 : n ≤ MaxLen) : 1 ≤ (lenc n).length ∧ (lenc n).length ≤ 9 := by
  unfold MaxLen at h1
  unfold lenc
  split
  · simp
  · have := lb_len_le 7 n.toNat (by simp; omega)
    simp; omega
theorem lenc_bytes (n : Int) (h0 : 0 ≤ n) (h1 : n ≤ MaxLen) : Bytes (lenc n) := by
  unfold MaxLen at h1
  unfold lenc
  split
  · intro b hb; simp at hb; omega
  · have := lb_len_le 7 n.toNat (by simp; omega)
    intro b hb
    simp only [List.mem_cons] at hb
    rcases hb with hb | hb
    · omega
    · exact lb_bytes _ b hb
/-- What is put is got. -/
theorem lg_lenc (n : Int) (h0 : 0 ≤ n) (h1 : n ≤ MaxLen) (r : List Int) : lg (lenc n ++ r) = (n, (lenc n).length, 0) := by
  unfold lenc
  split
  · rename_i h; simp [lg, h]
  · rename_i h
    have h8 := lb_len_le 7 n.toNat (by unfold MaxLen at h1; simp; omega)
    have hp := lb_pos n.toNat
    have hh := lb_head n.toNat (by omega)
    have hone := lb_len_one n.toNat
    have hv := lb_val n.toNat
    have hg : (lb n.toNat ++ r).getD 0 0 = (lb n.toNat).getD 0 0 := getD_front _ _ hp
    rw [List.cons_append]
    simp only [lg]
    rw [if_neg (by omega), if_neg (by omega), if_neg, if_neg (by simp; omega)]
    · rw [show (128 + ((lb n.toNat).length : Int) - 128).toNat = (lb n.toNat).length by omega, List.take_left, hv, if_neg (by omega)]
      simp; omega
    · rw [hg]
      rintro ⟨_, h2 | ⟨h2, h3⟩⟩
      · omega
      · have := hone.1 (by omega)
        rw [lb_small _ this] at h3
        simp at h3; omega
/-- A beginning is cut off. -/
theorem lg_cut (n : Int) (h0 : 0 ≤ n) (h1 : n ≤ MaxLen) (m : Nat) (hm : m < (lenc n).length) : lg ((lenc n).take m) = (0, m, 2) := by
  revert hm
  unfold lenc
  split
  · intro hm; obtain rfl : m = 0 := by simpa using hm
    rfl
  · rename_i h
    intro hm
    have h8 := lb_len_le 7 n.toNat (by unfold MaxLen at h1; simp; omega)
    have hp := lb_pos n.toNat
    have hh := lb_head n.toNat (by omega)
    have hone := lb_len_one n.toNat
    match m, hm with
    | 0, _ => rfl
    | m + 1, hm =>
      simp only [List.length_cons] at hm
      have hl : ((lb n.toNat).take m).length = m := by rw [List.length_take]; omega
      simp only [List.take_succ_cons, lg]
      rw [if_neg (by omega), if_neg (by omega), if_neg, if_pos (by omega)]
      · rw [hl]; simp; omega
      · rintro ⟨g0, h2⟩
        have hg : ((lb n.toNat).take m).getD 0 0 = (lb n.toNat).getD 0 0 := by
          rw [List.getD_eq_getElem?_getD, List.getD_eq_getElem?_getD, List.getElem?_take, if_pos (by omega)]
        rw [hg] at h2
        rcases h2 with h2 | ⟨h2, h3⟩
        · omega
        · omega
/-- Bytes that are got are put as they were. -/
theorem lg_back (l : List Int) (hb : Bytes l) (n : Int) (p : Nat) (h : lg l = (n, p, 0)) : 0 ≤ n ∧ n ≤ MaxLen ∧ 1 ≤ p ∧ p ≤ l.length ∧ lenc n = l.take p := by
  cases l with
  | nil => simp [lg] at h
  | cons f r =>
    have hf := hb f (by simp)
    have hr : Bytes r := fun x hx => hb x (by simp [hx])
    simp only [lg] at h
    split at h
    · rename_i h1
      simp only [Prod.mk.injEq, and_true] at h
      obtain ⟨rfl, rfl⟩ := h
      refine ⟨hf.1, by unfold MaxLen; omega, by omega, by simp, ?_⟩
      unfold lenc; rw [if_pos h1]; rfl
    split at h
    · simp at h
    split at h
    · simp at h
    split at h
    · simp at h
    split at h
    · simp at h
    · rename_i h1 h2 h3 h4 h5
      simp only [Prod.mk.injEq, and_true] at h
      obtain ⟨rfl, rfl⟩ := h
      obtain ⟨c, hc⟩ : ∃ c, c = (f - 128).toNat := ⟨_, rfl⟩
      rw [← hc] at h5 ⊢
      have hcl : (r.take c).length = c := by rw [List.length_take]; omega
      have hg : (r.take c).getD 0 0 = r.getD 0 0 := by
        rw [List.getD_eq_getElem?_getD, List.getD_eq_getElem?_getD, List.getElem?_take, if_pos (by omega)]
      have hbt : Bytes (r.take c) := fun x hx => hr x (List.mem_of_mem_take hx)
      have hne : r.getD 0 0 ≠ 0 := fun e => h3 ⟨by omega, .inl e⟩
      obtain ⟨i1, i2⟩ := lb_of (r.take c) hbt (by omega) (by rwa [hg])
      refine ⟨by omega, by omega, by omega, by simp; omega, ?_⟩
      have h128 : 128 ≤ val (r.take c) := by
        rcases Nat.lt_or_ge 1 c with hc1 | hc1
        · have hone := lb_len_one (val (r.take c)).toNat
          rw [i1, hcl] at hone
          have : ¬ (val (r.take c)).toNat < 256 := fun h => by have := hone.2 h; omega
          omega
        · obtain rfl : c = 1 := by omega
          have h6 : ¬ r.getD 0 0 < 128 := fun e => h3 ⟨by omega, .inr ⟨by omega, e⟩⟩
          have h7 := i1
          rw [lb_small _ ((lb_len_one _).1 (by rw [i1, hcl]))] at h7
          have h8 : (r.take 1).getD 0 0 = ((val (r.take 1)).toNat : Int) := by
            generalize (val (r.take 1)).toNat = m at h7
            rw [← h7]; rfl
          omega
      unfold lenc
      rw [if_neg (by omega), i1, hcl, show 1 + c = c + 1 by omega, List.take_succ_cons]
      congr 1; omega
theorem lg_err (l : List Int) (h : (lg l).2.2 ≠ 0) : (lg l).1 = 0 ∧ (lg l).2.1 ≤ l.length ∧ ((lg l).2.2 = 2 ∨ (lg l).2.2 = 4) := by
  cases l with
  | nil => simp [lg]
  | cons f r =>
    revert h
    simp only [lg]
    split
    · simp
    split
    · simp
    split
    · simp
    split
    · simp; omega
    split
    · simp; omega
    · simp
end Go.Proofs.Ytomaajagncjiiaa.Lenm
