/- Plain law of integers' contents: the content of a value, and a content's value. No program in sight. -/
namespace Go.Proofs.Ytidcmkmlcmjekaa.Nm

def Bytes (l : List Int) : Prop := ∀ b, b ∈ l → 0 ≤ b ∧ b < 256
/-- A value's content, in at most n + 1 bytes. -/
def pn : Nat → Int → List Int
  | 0, v => [v % 256]
  | n + 1, v => if v > 127 ∨ v < -128 then pn n (v / 256) ++ [v % 256] else [v % 256]
/-- A first byte's value. -/
def sb (b : Int) : Int := if b > 127 then b - 256 else b
def fo (v : Int) : List Int → Int
  | [] => v
  | b :: r => fo (256 * v + b) r
/-- A content's value. -/
def sv : List Int → Int
  | [] => 0
  | b :: r => fo (sb b) r
/-- No content of fewer bytes has the same value. -/
def Least : List Int → Prop
  | a :: b :: _ => ¬ (a = 0 ∧ b < 128) ∧ ¬ (a = 255 ∧ 128 ≤ b)
  | _ => True

theorem fo_append (r : List Int) : ∀ (v x : Int), fo v (r ++ [x]) = 256 * fo v r + x := by
  induction r with
  | nil => intro v x; rfl
  | cons a r ih => intro v x; exact ih _ _
theorem sv_append (a : Int) (r : List Int) (x : Int) : sv (a :: r ++ [x]) = 256 * sv (a :: r) + x := fo_append r _ _

theorem pn_bytes : ∀ (n : Nat) (v : Int), Bytes (pn n v) := by
  intro n
  induction n with
  | zero => intro v b hb; simp [pn] at hb; omega
  | succ n ih =>
    intro v b hb
    simp only [pn] at hb
    split at hb
    · rcases List.mem_append.1 hb with h | h
      · exact ih _ b h
      · simp at h; omega
    · simp at hb; omega
theorem pn_ne (n : Nat) (v : Int) : 1 ≤ (pn n v).length ∧ (pn n v).length ≤ n + 1 := by
  induction n generalizing v with
  | zero => simp [pn]
  | succ n ih =>
    simp only [pn]
    split
    · have := ih (v / 256); simp; omega
    · simp
/-- How far n + 1 bytes reach. -/
def Fits : Nat → Int → Prop
  | 0, v => -128 ≤ v ∧ v ≤ 127
  | n + 1, v => Fits n (v / 256)
theorem fits_small {v : Int} (h : -128 ≤ v ∧ v ≤ 127) : ∀ n, Fits n v
  | 0 => h
  | n + 1 => fits_small (v := v / 256) (by omega) n
theorem sv_pn : ∀ (n : Nat) (v : Int), Fits n v → sv (pn n v) = v := by
  intro n
  induction n with
  | zero =>
    intro v h
    obtain ⟨h1, h2⟩ := h
    simp only [pn, sv, fo, sb]
    split <;> omega
  | succ n ih =>
    intro v h
    simp only [pn]
    split
    · have h1 := ih (v / 256) h
      have h2 := pn_ne n (v / 256)
      cases hp : pn n (v / 256) with
      | nil => rw [hp] at h2; simp at h2
      | cons a r =>
        rw [hp] at h1
        rw [sv_append, h1]; omega
    · simp only [sv, fo, sb]
      split <;> omega

theorem fo_far : ∀ (r : List Int) (v : Int), Bytes r → (v > 127 ∨ v < -128) → (fo v r > 127 ∨ fo v r < -128) := by
  intro r
  induction r with
  | nil => intro v _ h; exact h
  | cons a r ih =>
    intro v hb h
    have := hb a (by simp)
    exact ih _ (fun x hx => hb x (by simp [hx])) (by omega)
theorem sv_far (a b : Int) (r : List Int) (hb : Bytes (a :: b :: r)) (h : Least (a :: b :: r)) : sv (a :: b :: r) > 127 ∨ sv (a :: b :: r) < -128 := by
  have h1 := hb a (by simp)
  have h2 := hb b (by simp)
  refine fo_far r _ (fun x hx => hb x (by simp [hx])) ?_
  obtain ⟨h3, h4⟩ := h
  unfold sb
  split <;> omega
theorem least_front (a : Int) (r : List Int) (x : Int) (h : Least (a :: r ++ [x])) : Least (a :: r) := by
  cases r with
  | nil => trivial
  | cons b r => exact h
/-- A content of n + 1 bytes at most is put as it was. -/
theorem pn_sv : ∀ (n : Nat) (l : List Int), l ≠ [] → l.length ≤ n + 1 → Bytes l → Least l → pn n (sv l) = l := by
  intro n
  induction n with
  | zero =>
    intro l h0 hl hb _
    match l, h0, hl with
    | [a], _, _ =>
      have := hb a (by simp)
      simp only [pn, sv, fo, sb]
      split
      · simp; omega
      · simp; omega
  | succ n ih =>
    intro l h0 hl hb hm
    rcases List.eq_nil_or_concat l with rfl | ⟨r, x, rfl⟩
    · exact absurd rfl h0
    rw [List.concat_eq_append] at *
    cases r with
    | nil =>
      have := hb x (by simp)
      have hs : -128 ≤ sb x ∧ sb x ≤ 127 ∧ sb x % 256 = x := by unfold sb; split <;> omega
      show pn (n + 1) (sb x) = [x]
      simp only [pn]
      rw [if_neg (by omega), hs.2.2]
    | cons a r =>
      have hx := hb x (by simp)
      have hfar : sv (a :: r ++ [x]) > 127 ∨ sv (a :: r ++ [x]) < -128 := by
        cases r with
        | nil => exact sv_far a x [] hb hm
        | cons b r => exact sv_far a b (r ++ [x]) hb hm
      have hi := ih (a :: r) (by simp) (by simp at hl ⊢; omega) (fun y hy => hb y (List.mem_append_left _ hy)) (least_front a r x hm)
      simp only [pn]
      rw [if_pos hfar, sv_append, show (256 * sv (a :: r) + x) / 256 = sv (a :: r) by omega, show (256 * sv (a :: r) + x) % 256 = x by omega, hi]
theorem least_pn : ∀ (n : Nat) (v : Int), Fits n v → Least (pn n v) := by
  intro n
  induction n with
  | zero => intro v _; simp [pn, Least]
  | succ n ih =>
    intro v hf
    simp only [pn]
    split
    · rename_i hfar
      have h1 := ih (v / 256) hf
      have h2 := pn_ne n (v / 256)
      have h3 := sv_pn n (v / 256) hf
      cases hp : pn n (v / 256) with
      | nil => rw [hp] at h2; simp at h2
      | cons a r =>
        rw [hp] at h1 h3
        cases r with
        | nil =>
          simp only [sv, fo, sb] at h3
          simp only [List.cons_append, List.nil_append, Least]
          split at h3 <;> omega
        | cons b r => exact h1
    · simp [Least]

/-- Of two values not below 0 the greater one has no fewer bytes, and of like many it is the greater list. -/
inductive Le : List Int → List Int → Prop
  | nil : Le [] []
  | same (a : Int) {x y : List Int} : Le x y → Le (a :: x) (a :: y)
  | less {a b : Int} {x y : List Int} : a < b → Le (a :: x) (b :: y)
theorem Le.refl : ∀ l, Le l l
  | [] => .nil
  | a :: l => .same a (Le.refl l)
theorem Le.snoc {x y : List Int} (h : Le x y) (hl : x.length = y.length) (hne : x ≠ y) (a b : Int) : Le (x ++ [a]) (y ++ [b]) := by
  induction h with
  | nil => exact absurd rfl hne
  | same c h ih =>
    refine .same c (ih (by simpa using hl) ?_)
    intro he; exact hne (by rw [he])
  | less h => exact .less h
theorem Le.last (x : List Int) {a b : Int} (h : a ≤ b) : Le (x ++ [a]) (x ++ [b]) := by
  induction x with
  | nil =>
    rcases (by omega : a = b ∨ a < b) with rfl | h
    · exact Le.refl _
    · exact .less h
  | cons c x ih => exact .same c ih
theorem pn_rise : ∀ (n : Nat) (v u : Int), 0 ≤ v → v ≤ u → Fits n u →
    (pn n v).length ≤ (pn n u).length ∧ ((pn n v).length = (pn n u).length → Le (pn n v) (pn n u)) := by
  intro n
  induction n with
  | zero =>
    intro v u h0 h hf
    obtain ⟨_, h2⟩ := hf
    simp only [pn]
    refine ⟨by simp, fun _ => ?_⟩
    rw [show v % 256 = v by omega, show u % 256 = u by omega]
    exact Le.last [] h
  | succ n ih =>
    intro v u h0 h hf
    simp only [pn]
    by_cases hu : u > 127 ∨ u < -128
    · rw [if_pos hu]
      by_cases hv : v > 127 ∨ v < -128
      · rw [if_pos hv]
        obtain ⟨i1, i2⟩ := ih (v / 256) (u / 256) (by omega) (by omega) hf
        refine ⟨by simp; omega, fun hl => ?_⟩
        have hl' : (pn n (v / 256)).length = (pn n (u / 256)).length := by simpa using hl
        by_cases he : v / 256 = u / 256
        · rw [he]; exact Le.last _ (by omega)
        · refine Le.snoc (i2 hl') hl' (fun hc => he ?_) _ _
          have q : -128 ≤ v / 256 := by omega
          have hfv : Fits n (v / 256) := by
            clear ih i1 i2 hl hl' hc hv hu
            have : ∀ (m : Nat) (a b : Int), 0 ≤ a → a ≤ b → Fits m b → Fits m a := by
              intro m
              induction m with
              | zero => intro a b h1 h2 h3; exact ⟨by omega, by have := h3.2; omega⟩
              | succ m ih => intro a b h1 h2 h3; exact ih (a / 256) (b / 256) (by omega) (by omega) h3
            exact this n _ _ (by omega) (by omega) hf
          have h1 := sv_pn n (v / 256) hfv
          have h2 := sv_pn n (u / 256) hf
          rw [hc] at h1; omega
      · rw [if_neg hv]
        have := pn_ne n (u / 256)
        exact ⟨by simp, fun hl => by rw [List.length_append] at hl; simp only [List.length_cons, List.length_nil] at hl; omega⟩
    · rw [if_neg hu, if_neg (by omega)]
      refine ⟨by simp, fun _ => ?_⟩
      rw [show v % 256 = v by omega, show u % 256 = u by omega]
      exact Le.last [] h
end Go.Proofs.Ytidcmkmlcmjekaa.Nm
