/- Plain law of strings' contents: the automaton that takes them byte by byte, and the definition by characters. No program in sight. -/
namespace Go.Proofs.Ytjookjdpfbflkaa.Tx

def Bytes (l : List Int) : Prop := ∀ b, b ∈ l → 0 ≤ b ∧ b < 256
theorem Bytes.tail {a : Int} {l : List Int} (h : Bytes (a :: l)) : Bytes l := fun b hb => h b (by simp [hb])
theorem Bytes.drop {l : List Int} (h : Bytes l) (n : Nat) : Bytes (l.drop n) := fun b hb => h b (List.mem_of_mem_drop hb)

/-! ### The automaton -/
/-- A character's first byte: how many go on, the next one's least and greatest; none: it can't be. -/
def first (b : Int) : Option (Int × Int × Int) :=
  if b < 128 then some (0, 128, 191)
  else if b < 194 ∨ b > 244 then none
  else if b < 224 then some (1, 128, 191)
  else if b = 224 then some (2, 160, 191)
  else if b = 237 then some (2, 128, 159)
  else if b < 240 then some (2, 128, 191)
  else if b = 240 then some (3, 144, 191)
  else if b = 244 then some (3, 128, 143)
  else some (3, 128, 191)
/-- (bytes left, bytes of a character to come, the next one's least and greatest) -/
abbrev St := Int × Int × Int × Int
def u8 (s : St) (b : Int) : Option St :=
  if s.2.1 > 0 then (if b < s.2.2.1 ∨ b > s.2.2.2 then none else some (s.1 - 1, s.2.1 - 1, 128, 191))
  else match first b with
    | none => none
    | some (m, lo, hi) => if m > s.1 - 1 then none else some (s.1 - 1, m, lo, hi)
def printable (b : Int) : Bool :=
  decide (65 ≤ b ∧ b ≤ 90) || decide (97 ≤ b ∧ b ≤ 122) || decide (48 ≤ b ∧ b ≤ 57) || b == 32 || b == 39 || b == 40 || b == 41 || b == 43 || b == 44 || b == 45 || b == 46 || b == 47 || b == 58 || b == 61 || b == 63
def plain (tag b : Int) : Bool := if tag = 22 then decide (b < 128) else if tag = 19 then printable b else true
def stp (tag : Int) (s : St) (b : Int) : Option St :=
  if tag = 12 then u8 s b else if plain tag b = true then some (s.1 - 1, s.2.1, s.2.2.1, s.2.2.2) else none
def run (tag : Int) : St → List Int → Option St
  | s, [] => some s
  | s, b :: r => match stp tag s b with
    | none => none
    | some s' => run tag s' r
theorem run_append (tag : Int) (a b : List Int) : ∀ s, run tag s (a ++ b) = (run tag s a).bind fun s' => run tag s' b := by
  induction a with
  | nil => intro s; rfl
  | cons x a ih =>
    intro s
    simp only [List.cons_append, run]
    cases stp tag s x with
    | none => rfl
    | some s' => exact ih s'

/-! ### Characters -/
def cont (b : Int) : Bool := decide (128 ≤ b) && decide (b ≤ 191)
def ch2 (a b : Int) : Bool := cont b && decide (128 ≤ 64 * (a - 192) + b - 128)
def ch3 (a b c : Int) : Bool := cont b && cont c && decide (2048 ≤ 64 * (64 * (a - 224) + b - 128) + c - 128) && !(decide (55296 ≤ 64 * (64 * (a - 224) + b - 128) + c - 128) && decide (64 * (64 * (a - 224) + b - 128) + c - 128 ≤ 57343))
def ch4 (a b c d : Int) : Bool := cont b && cont c && cont d && decide (65536 ≤ 64 * (64 * (64 * (a - 240) + b - 128) + c - 128) + d - 128) && decide (64 * (64 * (64 * (a - 240) + b - 128) + c - 128) + d - 128 ≤ 1114111)
/-- How many bytes the character has that begins here, if it is one, and whole; 0: it isn't. -/
def chr : List Int → Nat
  | [] => 0
  | a :: r =>
    if a < 128 then 1
    else if 192 ≤ a ∧ a < 224 then (match r with
      | b :: _ => if ch2 a b = true then 2 else 0
      | _ => 0)
    else if 224 ≤ a ∧ a < 240 then (match r with
      | b :: c :: _ => if ch3 a b c = true then 3 else 0
      | _ => 0)
    else if 240 ≤ a ∧ a < 248 then (match r with
      | b :: c :: d :: _ => if ch4 a b c d = true then 4 else 0
      | _ => 0)
    else 0
theorem chr_le (l : List Int) : chr l ≤ l.length ∧ chr l ≤ 4 := by
  unfold chr
  cases l with
  | nil => simp
  | cons a r =>
    simp only
    split
    · simp
    split
    · cases r with
      | nil => simp
      | cons b r => simp only; split <;> simp
    split
    · cases r with
      | nil => simp
      | cons b r =>
        cases r with
        | nil => simp
        | cons c r => simp only; split <;> simp
    split
    · cases r with
      | nil => simp
      | cons b r =>
        cases r with
        | nil => simp
        | cons c r =>
          cases r with
          | nil => simp
          | cons d r => simp only; split <;> simp
    · simp
/-- Of how many bytes the whole characters at the beginning are. -/
def lst : Nat → List Int → Nat
  | 0, _ => 0
  | n + 1, l => if chr l = 0 then 0 else chr l + lst n (l.drop (chr l))
def valid : Nat → List Int → Bool
  | 0, l => l.isEmpty
  | n + 1, l => if l.isEmpty = true then true else if chr l = 0 then false else valid n (l.drop (chr l))
theorem lst_more : ∀ (n m : Nat) (l : List Int), l.length ≤ n → l.length ≤ m → lst n l = lst m l := by
  intro n
  induction n with
  | zero =>
    intro m l h _
    obtain rfl : l = [] := List.eq_nil_of_length_eq_zero (by omega)
    cases m with
    | zero => rfl
    | succ m => rfl
  | succ n ih =>
    intro m l h1 h2
    cases m with
    | zero =>
      obtain rfl : l = [] := List.eq_nil_of_length_eq_zero (by omega)
      rfl
    | succ m =>
      simp only [lst]
      split
      · rfl
      · rename_i hc
        have := chr_le l
        rw [ih m (l.drop (chr l)) (by rw [List.length_drop]; omega) (by rw [List.length_drop]; omega)]
theorem valid_more : ∀ (n m : Nat) (l : List Int), l.length ≤ n → l.length ≤ m → valid n l = valid m l := by
  intro n
  induction n with
  | zero =>
    intro m l h _
    obtain rfl : l = [] := List.eq_nil_of_length_eq_zero (by omega)
    cases m with
    | zero => rfl
    | succ m => rfl
  | succ n ih =>
    intro m l h1 h2
    cases m with
    | zero =>
      obtain rfl : l = [] := List.eq_nil_of_length_eq_zero (by omega)
      rfl
    | succ m =>
      simp only [valid]
      split
      · rfl
      split
      · rfl
      · rename_i hc
        have := chr_le l
        rw [ih m (l.drop (chr l)) (by rw [List.length_drop]; omega) (by rw [List.length_drop]; omega)]
def rep (k : Nat) (b : Int) : List Int := List.replicate k b
def ends (t : List Int) (k : Nat) : Bool := chr (t ++ rep k 128) == t.length + k || chr (t ++ rep k 191) == t.length + k
/-- Can a part of a character be filled up to one, of at most so many bytes more? -/
def fill (left : Int) (t : List Int) : Bool :=
  decide (1 ≤ left) && (ends t 1 || decide (2 ≤ left) && (ends t 2 || decide (3 ≤ left) && ends t 3))
def canU (n : Int) (l : List Int) : Bool :=
  if l.length - lst l.length l > 3 then false
  else if lst l.length l = l.length then true
  else fill (n - l.length) (l.drop (lst l.length l))

theorem first_hi (b : Int) (h : 128 ≤ b) : first b = if b < 194 ∨ b > 244 then none
  else if b < 224 then some (1, 128, 191)
  else if b = 224 then some (2, 160, 191)
  else if b = 237 then some (2, 128, 159)
  else if b < 240 then some (2, 128, 191)
  else if b = 240 then some (3, 144, 191)
  else if b = 244 then some (3, 128, 143)
  else some (3, 128, 191) := by
  unfold first
  rw [if_neg (by omega)]
theorem run12 (s : St) (b : Int) (r : List Int) : run 12 s (b :: r) = match u8 s b with
    | none => none
    | some s' => run 12 s' r := rfl
/-- In the midst of a character. -/
theorem u8_in (l m lo hi b : Int) (h : 0 < m) : u8 (l, m, lo, hi) b = if b < lo ∨ b > hi then none else some (l - 1, m - 1, 128, 191) := by
  unfold u8; rw [if_pos h]
theorem u8_new (l lo hi b : Int) : u8 (l, 0, lo, hi) b = match first b with
    | none => none
    | some (m, lo, hi) => if m > l - 1 then none else some (l - 1, m, lo, hi) := by
  unfold u8; rw [if_neg (by simp)]
/-- A whole character is taken. -/
theorem run_chr (N lo hi : Int) (l : List Int) (hb : Bytes l) (hN : (l.length : Int) ≤ N) (hc : chr l ≠ 0) :
    run 12 (N, 0, lo, hi) l = run 12 (N - chr l, 0, 128, 191) (l.drop (chr l)) := by
  cases l with
  | nil => exact absurd rfl hc
  | cons a r =>
    have ha := hb a (by simp)
    simp only [List.length_cons] at hN
    rw [run12, u8_new]
    by_cases h1 : a < 128
    · have e : chr (a :: r) = 1 := by simp only [chr]; rw [if_pos h1]
      rw [e]
      have f : first a = some (0, 128, 191) := by unfold first; rw [if_pos h1]
      rw [f]
      simp only
      rw [if_neg (by omega)]
      simp
    rw [first_hi a (by omega)]
    by_cases h2 : a < 224
    · cases r with
      | nil => exact absurd (by simp [chr, h1]) hc
      | cons b r =>
        have e : chr (a :: b :: r) = if 192 ≤ a ∧ ch2 a b = true then 2 else 0 := by
          simp only [chr]
          rw [if_neg h1]
          by_cases h : 192 ≤ a
          · rw [if_pos ⟨h, h2⟩]; simp [h]
          · rw [if_neg (by omega), if_neg (by omega), if_neg (by omega), if_neg (by omega)]
        rw [e] at hc ⊢
        by_cases hq : 192 ≤ a ∧ ch2 a b = true
        · obtain ⟨g1, g2⟩ := hq
          simp only [ch2, cont, Bool.and_eq_true, decide_eq_true_eq] at g2
          rw [if_pos (show 192 ≤ a ∧ ch2 a b = true from ⟨g1, by simp [ch2, cont]; omega⟩), if_neg (by omega), if_pos h2]
          simp only [List.length_cons] at hN
          simp only
          rw [if_neg (by omega)]
          simp only
          rw [run12, u8_in _ _ _ _ _ (by decide), if_neg (by omega)]
          simp only [List.drop_succ_cons, List.drop_zero]
          rw [show N - 1 - 1 = N - ((2 : Nat) : Int) by omega]; rfl
        · rw [if_neg hq] at hc; exact absurd rfl hc
    by_cases h3 : a < 240
    · cases r with
      | nil => exact absurd (by simp only [chr]; rw [if_neg h1, if_neg (by omega), if_pos (by omega)]) hc
      | cons b r =>
        cases r with
        | nil => exact absurd (by simp only [chr]; rw [if_neg h1, if_neg (by omega), if_pos (by omega)]) hc
        | cons c r =>
          have e : chr (a :: b :: c :: r) = if ch3 a b c = true then 3 else 0 := by
            simp only [chr]; rw [if_neg h1, if_neg (by omega), if_pos (by omega)]
          rw [e] at hc ⊢
          by_cases hq : ch3 a b c = true
          · rw [if_pos hq]
            simp only [ch3, cont, Bool.and_eq_true, decide_eq_true_eq, Bool.not_eq_true', Bool.and_eq_false_iff, decide_eq_false_iff_not] at hq
            simp only [List.length_cons] at hN
            rw [if_neg (by omega), if_neg h2]
            have fin : ∀ lo' hi' : Int, lo' ≤ b → b ≤ hi' → (match (if (2 : Int) > N - 1 then none else some (N - 1, (2 : Int), lo', hi') : Option St) with
                | none => none
                | some s' => run 12 s' (b :: c :: r)) = run 12 (N - ((3 : Nat) : Int), 0, 128, 191) (List.drop 3 (a :: b :: c :: r)) := by
              intro lo' hi' g1 g2
              rw [if_neg (by omega)]
              simp only
              rw [run12, u8_in _ _ _ _ _ (by decide), if_neg (by omega)]
              simp only
              rw [run12, u8_in _ _ _ _ _ (by decide), if_neg (by omega)]
              simp only [List.drop_succ_cons, List.drop_zero]
              rw [show N - 1 - 1 - 1 = N - ((3 : Nat) : Int) by omega]; rfl
            by_cases g1 : a = 224
            · rw [if_pos g1]; exact fin _ _ (by omega) (by omega)
            by_cases g2 : a = 237
            · rw [if_neg g1, if_pos g2]; exact fin _ _ (by omega) (by omega)
            · rw [if_neg g1, if_neg g2, if_pos h3]; exact fin _ _ (by omega) (by omega)
          · rw [if_neg hq] at hc; exact absurd rfl hc
    · by_cases h4 : a < 248
      · cases r with
        | nil => exact absurd (by simp only [chr]; rw [if_neg h1, if_neg (by omega), if_neg (by omega), if_pos (by omega)]) hc
        | cons b r =>
          cases r with
          | nil => exact absurd (by simp only [chr]; rw [if_neg h1, if_neg (by omega), if_neg (by omega), if_pos (by omega)]) hc
          | cons c r =>
            cases r with
            | nil => exact absurd (by simp only [chr]; rw [if_neg h1, if_neg (by omega), if_neg (by omega), if_pos (by omega)]) hc
            | cons d r =>
              have e : chr (a :: b :: c :: d :: r) = if ch4 a b c d = true then 4 else 0 := by
                simp only [chr]; rw [if_neg h1, if_neg (by omega), if_neg (by omega), if_pos (by omega)]
              rw [e] at hc ⊢
              by_cases hq : ch4 a b c d = true
              · rw [if_pos hq]
                simp only [ch4, cont, Bool.and_eq_true, decide_eq_true_eq] at hq
                simp only [List.length_cons] at hN
                have fin : ∀ lo' hi' : Int, lo' ≤ b → b ≤ hi' → (match (if (3 : Int) > N - 1 then none else some (N - 1, (3 : Int), lo', hi') : Option St) with
                    | none => none
                    | some s' => run 12 s' (b :: c :: d :: r)) = run 12 (N - ((4 : Nat) : Int), 0, 128, 191) (List.drop 4 (a :: b :: c :: d :: r)) := by
                  intro lo' hi' g1 g2
                  rw [if_neg (by omega)]
                  simp only
                  rw [run12, u8_in _ _ _ _ _ (by decide), if_neg (by omega)]
                  simp only
                  rw [run12, u8_in _ _ _ _ _ (by decide), if_neg (by omega)]
                  simp only
                  rw [run12, u8_in _ _ _ _ _ (by decide), if_neg (by omega)]
                  simp only [List.drop_succ_cons, List.drop_zero]
                  rw [show N - 1 - 1 - 1 - 1 = N - ((4 : Nat) : Int) by omega]; rfl
                rw [if_neg (by omega), if_neg h2, if_neg (by omega), if_neg (by omega), if_neg h3]
                by_cases g1 : a = 240
                · rw [if_pos g1]; exact fin _ _ (by omega) (by omega)
                by_cases g2 : a = 244
                · rw [if_neg g1, if_pos g2]; exact fin _ _ (by omega) (by omega)
                · rw [if_neg g1, if_neg g2]; exact fin _ _ (by omega) (by omega)
              · rw [if_neg hq] at hc; exact absurd rfl hc
      · exact absurd (by simp only [chr]; rw [if_neg h1, if_neg (by omega), if_neg (by omega), if_neg (by omega)]) hc
end Go.Proofs.Ytjookjdpfbflkaa.Tx
