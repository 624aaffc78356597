/- Plain law of identifiers: what a head's identifier bytes are, and what bytes are read as. No program in sight. -/
namespace Go.Proofs.Ytomaajagncjiiaa.Idm

def cb (c : Bool) : Int := if c then 1 else 0
/-- The groups of seven bits of a tag of at least 31, at most 28 bits. -/
def grp (t : Int) : List Int :=
  if t < 128 then [t]
  else if t < 16384 then [128 + t / 128, t % 128]
  else if t < 2097152 then [128 + t / 128 / 128, 128 + t / 128 % 128, t % 128]
  else [128 + t / 128 / 128 / 128, 128 + t / 128 / 128 % 128, 128 + t / 128 % 128, t % 128]
def enc (cls tag : Int) (cons : Bool) : List Int :=
  if tag < 31 then [64 * cls + 32 * cb cons + tag] else (64 * cls + 32 * cb cons + 31) :: grp tag

/-- The tag's bytes, read: (place, tag, error). -/
def gT (t : Int) (n : Nat) (first : Bool) : List Int → Nat × Int × Int
  | [] => (n, 0, 2)
  | b :: r =>
    if (first && b == 128) = true then (n, 0, 3)
    else if 128 * t + b % 128 > 268435455 then (n, 0, 3)
    else if b ≥ 128 then gT (128 * t + b % 128) (n + 1) false r
    else if 128 * t + b % 128 < 31 then (n, 0, 3)
    else (n + 1, 128 * t + b % 128, 0)

/-- (class, tag, form, place, error) -/
def idg : List Int → Int × Int × Bool × Nat × Int
  | [] => (0, 0, false, 0, 2)
  | b :: r =>
    if b % 32 < 31 then (b / 64, b % 32, (b / 32 % 2 == 1), 1, 0)
    else if (gT 0 1 true r).2.2 = 0 then (b / 64, (gT 0 1 true r).2.1, (b / 32 % 2 == 1), (gT 0 1 true r).1, 0)
    else (0, 0, false, (gT 0 1 true r).1, (gT 0 1 true r).2.2)

def Bytes (l : List Int) : Prop := ∀ b, b ∈ l → 0 ≤ b ∧ b < 256
def Valid (cls tag : Int) : Prop := 0 ≤ cls ∧ cls ≤ 3 ∧ 0 ≤ tag ∧ tag ≤ 268435455

theorem cb_range (c : Bool) : 0 ≤ cb c ∧ cb c ≤ 1 := by cases c <;> simp [cb]
theorem cb_beq (c : Bool) (x : Int) (h : x = cb c) : (x == 1) = c := by subst h; cases c <;> rfl

theorem grp_len (t : Int) : 1 ≤ (grp t).length ∧ (grp t).length ≤ 4 := by
  unfold grp
  split
  · simp
  split
  · simp
  split <;> simp
theorem enc_len (cls tag : Int) (cons : Bool) : 1 ≤ (enc cls tag cons).length ∧ (enc cls tag cons).length ≤ 5 := by
  unfold enc
  split
  · simp
  · have := grp_len tag
    simp; omega
theorem enc_bytes {cls tag : Int} {cons : Bool} (h : Valid cls tag) : Bytes (enc cls tag cons) := by
  obtain ⟨h1, h2, h3, h4⟩ := h
  have hc := cb_range cons
  unfold enc Bytes
  split
  · simp; omega
  · unfold grp
    split
    · simp; omega
    split
    · simp; omega
    split
    · simp; omega
    · simp; omega

theorem gT_cons (t : Int) (n : Nat) (f : Bool) (b : Int) (r : List Int) : gT t n f (b :: r) =
    if (f && b == 128) = true then (n, 0, 3)
    else if 128 * t + b % 128 > 268435455 then (n, 0, 3)
    else if b ≥ 128 then gT (128 * t + b % 128) (n + 1) false r
    else if 128 * t + b % 128 < 31 then (n, 0, 3)
    else (n + 1, 128 * t + b % 128, 0) := rfl
/-- A byte that goes on. -/
theorem gT_more (t x : Int) (n : Nat) (f : Bool) (r : List Int) (h0 : 0 ≤ x) (h1 : x < 128) (hf : f = true → 0 < x) (hm : 128 * t + x ≤ 268435455) :
    gT t n f ((128 + x) :: r) = gT (128 * t + x) (n + 1) false r := by
  rw [gT_cons, if_neg, if_neg (by omega), if_pos (by omega), show (128 + x) % 128 = x by omega]
  cases f
  · simp
  · have := hf rfl
    simp; omega
theorem gT_on (t x : Int) (n : Nat) (r : List Int) (h0 : 0 ≤ x) (h1 : x < 128) (hm : 128 * t + x ≤ 268435455) :
    gT t n false ((128 + x) :: r) = gT (128 * t + x) (n + 1) false r := gT_more t x n false r h0 h1 (by simp) hm
theorem gT_last (t x : Int) (n : Nat) (f : Bool) (r : List Int) (h0 : 0 ≤ x) (h1 : x < 128) (hm : 128 * t + x ≤ 268435455) (hl : 31 ≤ 128 * t + x) :
    gT t n f (x :: r) = (n + 1, 128 * t + x, 0) := by
  rw [gT_cons, if_neg (by cases f <;> simp; omega), if_neg (by omega), if_neg (by omega), if_neg (by omega), show x % 128 = x by omega]

theorem gT_grp (t : Int) (h : 31 ≤ t) (hm : t ≤ 268435455) (r : List Int) : gT 0 1 true (grp t ++ r) = ((grp t).length + 1, t, 0) := by
  unfold grp
  split
  · rw [List.cons_append, gT_last _ _ _ _ _ (by omega) (by omega) (by omega) (by omega)]
    simp
  split
  · rw [List.cons_append, gT_more _ _ _ _ _ (by omega) (by omega) (by omega) (by omega), List.cons_append,
      gT_last _ _ _ _ _ (by omega) (by omega) (by omega) (by omega)]
    simp; omega
  split
  · rw [List.cons_append, gT_more _ _ _ _ _ (by omega) (by omega) (by omega) (by omega), List.cons_append,
      gT_on _ _ _ _ (by omega) (by omega) (by omega), List.cons_append,
      gT_last _ _ _ _ _ (by omega) (by omega) (by omega) (by omega)]
    simp; omega
  · rw [List.cons_append, gT_more _ _ _ _ _ (by omega) (by omega) (by omega) (by omega), List.cons_append,
      gT_on _ _ _ _ (by omega) (by omega) (by omega), List.cons_append,
      gT_on _ _ _ _ (by omega) (by omega) (by omega), List.cons_append,
      gT_last _ _ _ _ _ (by omega) (by omega) (by omega) (by omega)]
    simp; omega

/-- What is put is got, whatever stands behind. -/
theorem idg_enc {cls tag : Int} (cons : Bool) (h : Valid cls tag) (r : List Int) :
    idg (enc cls tag cons ++ r) = (cls, tag, cons, (enc cls tag cons).length, 0) := by
  obtain ⟨h1, h2, h3, h4⟩ := h
  have hc := cb_range cons
  unfold enc
  split
  · rw [List.cons_append]
    simp only [idg]
    rw [if_pos (by omega), cb_beq cons _ (by omega), show (64 * cls + 32 * cb cons + tag) / 64 = cls by omega, show (64 * cls + 32 * cb cons + tag) % 32 = tag by omega]
    simp
  · rw [List.cons_append]
    simp only [idg]
    rw [if_neg (by omega), gT_grp tag (by omega) h4, if_pos rfl, cb_beq cons _ (by omega), show (64 * cls + 32 * cb cons + 31) / 64 = cls by omega]
    simp

/-- A beginning is cut off, at its end. -/
theorem gT_cut (t : Int) (h : 31 ≤ t) (hm : t ≤ 268435455) (m : Nat) (hl : m < (grp t).length) : gT 0 1 true ((grp t).take m) = (m + 1, 0, 2) := by
  revert hl
  unfold grp
  split
  · intro hl
    obtain rfl : m = 0 := by simpa using hl
    rfl
  split
  · intro hl
    match m, hl with
    | 0, _ => rfl
    | 1, _ =>
      simp only [List.take_succ_cons, List.take_zero]
      rw [gT_more _ _ _ _ _ (by omega) (by omega) (by omega) (by omega)]; rfl
  split
  · intro hl
    match m, hl with
    | 0, _ => rfl
    | 1, _ =>
      simp only [List.take_succ_cons, List.take_zero]
      rw [gT_more _ _ _ _ _ (by omega) (by omega) (by omega) (by omega)]; rfl
    | 2, _ =>
      simp only [List.take_succ_cons, List.take_zero]
      rw [gT_more _ _ _ _ _ (by omega) (by omega) (by omega) (by omega), gT_on _ _ _ _ (by omega) (by omega) (by omega)]; rfl
  · intro hl
    match m, hl with
    | 0, _ => rfl
    | 1, _ =>
      simp only [List.take_succ_cons, List.take_zero]
      rw [gT_more _ _ _ _ _ (by omega) (by omega) (by omega) (by omega)]; rfl
    | 2, _ =>
      simp only [List.take_succ_cons, List.take_zero]
      rw [gT_more _ _ _ _ _ (by omega) (by omega) (by omega) (by omega), gT_on _ _ _ _ (by omega) (by omega) (by omega)]; rfl
    | 3, _ =>
      simp only [List.take_succ_cons, List.take_zero]
      rw [gT_more _ _ _ _ _ (by omega) (by omega) (by omega) (by omega), gT_on _ _ _ _ (by omega) (by omega) (by omega), gT_on _ _ _ _ (by omega) (by omega) (by omega)]; rfl
theorem idg_cut {cls tag : Int} (cons : Bool) (h : Valid cls tag) (m : Nat) (hl : m < (enc cls tag cons).length) :
    idg ((enc cls tag cons).take m) = (0, 0, false, m, 2) := by
  obtain ⟨h1, h2, h3, h4⟩ := h
  have hc := cb_range cons
  revert hl
  unfold enc
  split
  · intro hl
    obtain rfl : m = 0 := by simpa using hl
    rfl
  · intro hl
    match m, hl with
    | 0, _ => rfl
    | m + 1, hl =>
      simp only [List.take_succ_cons, idg]
      rw [if_neg (by omega), gT_cut tag (by omega) h4 m (by simpa using hl), if_neg (by simp)]

/-- What is got ends in a whole number of groups. -/
theorem gT_got : ∀ (l : List Int) (t : Int) (n : Nat) (f : Bool) (n' : Nat) (t' : Int), Bytes l → 0 ≤ t → (f = true → t = 0) → (f = false → 0 < t) → gT t n f l = (n', t', 0) →
    31 ≤ t' ∧ t' ≤ 268435455 ∧ ∃ j, n' = n + j ∧ 1 ≤ j ∧ j ≤ l.length ∧
      (j = 1 ∧ t' = 128 * t + l.getD 0 0 ∧ 0 ≤ l.getD 0 0 ∧ l.getD 0 0 < 128 ∨ 1 < j ∧ 128 ≤ l.getD 0 0 ∧ l.getD 0 0 < 256 ∧ (f = true → l.getD 0 0 ≠ 128) ∧
        gT (128 * t + (l.getD 0 0 - 128)) (n + 1) false (l.drop 1) = (n', t', 0)) := by
  intro l
  induction l with
  | nil => intro t n f n' t' _ _ _ _ h; simp [gT] at h
  | cons b r ih =>
    intro t n f n' t' hb h0 hf hf' h
    have hb0 := hb b (by simp)
    rw [gT_cons] at h
    split at h
    · simp at h
    rename_i hc1
    split at h
    · simp at h
    split at h
    · rename_i hc2 hc3
      have hne : f = true → b ≠ 128 := by
        intro hft hbe
        exact hc1 (by simp [hft, hbe])
      have ht1 : 0 < 128 * t + b % 128 := by
        cases f
        · have := hf' rfl; omega
        · have := hne rfl; omega
      obtain ⟨i1, i2, j, i3, i4, i5, i6⟩ := ih (128 * t + b % 128) (n + 1) false n' t' (fun x hx => hb x (by simp [hx])) (by omega) (by simp) (fun _ => ht1) h
      refine ⟨i1, i2, j + 1, by omega, by omega, by simp; omega, .inr ⟨by omega, by simpa using hc3, by simpa using hb0.2, by simpa using hne, ?_⟩⟩
      simpa [show b % 128 = b - 128 by omega] using h
    · split at h
      · simp at h
      · simp only [Prod.mk.injEq, and_true] at h
        obtain ⟨rfl, rfl⟩ := h
        exact ⟨by omega, by omega, 1, rfl, by omega, by simp, .inl ⟨rfl, by simp; omega, by simpa using hb0.1, by simp; omega⟩⟩

theorem getD_drop (l : List Int) (i j : Nat) : (l.drop i).getD j 0 = l.getD (i + j) 0 := by simp [List.getD_eq_getElem?_getD, List.getElem?_drop]
theorem take_get (l : List Int) (h : 0 < l.length) (n : Nat) : l.take (n + 1) = l.getD 0 0 :: (l.drop 1).take n := by
  cases l with
  | nil => simp at h
  | cons a r => simp
/-- Bytes that are got are put as they were. -/
theorem gT_grp_back (l : List Int) (n' : Nat) (t : Int) (hb : Bytes l) (h : gT 0 1 true l = (n', t, 0)) : 31 ≤ t ∧ t ≤ 268435455 ∧ 2 ≤ n' ∧ n' ≤ l.length + 1 ∧ grp t = l.take (n' - 1) := by
  obtain ⟨g1, g2, j, rfl, g3, g4, g5⟩ := gT_got l 0 1 true n' t hb (by omega) (fun _ => rfl) (by simp) h
  refine ⟨g1, g2, by omega, by omega, ?_⟩
  have hd : ∀ i, Bytes (l.drop i) := fun i x hx => hb x (List.mem_of_mem_drop hx)
  have lt1 : 0 < l.length := by omega
  rcases g5 with ⟨rfl, e, e1, e2⟩ | ⟨k1, k2, k3, k4, k5⟩
  · rw [show 1 + 1 - 1 = 0 + 1 from rfl, take_get l lt1]
    unfold grp
    rw [if_pos (by omega)]
    simp only [List.take_zero, List.cons.injEq, and_true]; omega
  have k4 := k4 rfl
  obtain ⟨_, _, j2, w2, m3, m4, m5⟩ := gT_got (l.drop 1) _ 2 false _ t (hd 1) (by omega) (by simp) (fun _ => by omega) k5
  rw [List.length_drop] at m4
  rw [getD_drop] at m5
  obtain ⟨q, rfl⟩ : ∃ q, j = q + 2 := ⟨j - 2, by omega⟩
  obtain rfl : j2 = q + 1 := by omega
  rcases m5 with ⟨m5, e, e1, e2⟩ | ⟨p1, p2, p3, _, p5⟩
  · obtain rfl : q = 0 := by omega
    rw [show 1 + (0 + 2) - 1 = 1 + 1 from rfl, take_get l lt1, show (1 : Nat) = 0 + 1 from rfl, take_get (l.drop 1) (by simp; omega), getD_drop]
    unfold grp
    rw [if_neg (by omega), if_pos (by omega)]
    simp only [List.take_zero, List.cons.injEq, and_true]
    exact ⟨by omega, by simp at *; omega⟩
  rw [List.drop_drop] at p5
  obtain ⟨_, _, j3, w3, r3, r4, r5⟩ := gT_got (l.drop (1 + 1)) _ 3 false _ t (hd 2) (by omega) (by simp) (fun _ => by omega) p5
  rw [List.length_drop] at r4
  rw [getD_drop] at r5
  obtain ⟨u, rfl⟩ : ∃ u, q = u + 1 := ⟨q - 1, by omega⟩
  obtain rfl : j3 = u + 1 := by omega
  rcases r5 with ⟨r5, e, e1, e2⟩ | ⟨s1, s2, s3, _, s5⟩
  · obtain rfl : u = 0 := by omega
    rw [show 1 + (0 + 1 + 2) - 1 = 2 + 1 from rfl, take_get l lt1, show (2 : Nat) = 1 + 1 from rfl, take_get (l.drop 1) (by simp; omega), List.drop_drop, show (1 : Nat) = 0 + 1 from rfl, take_get (l.drop (0 + 1 + (0 + 1))) (by simp; omega), getD_drop, getD_drop]
    unfold grp
    simp at *
    rw [if_neg (by omega), if_neg (by omega), if_pos (by omega)]
    simp only [List.cons.injEq, and_true]
    exact ⟨by omega, by omega, by omega⟩
  rw [List.drop_drop] at s5
  obtain ⟨_, _, j4, w4, x3, x4, x5⟩ := gT_got (l.drop (1 + 1 + 1)) _ 4 false _ t (hd 3) (by omega) (by simp) (fun _ => by omega) s5
  rw [List.length_drop] at x4
  rw [getD_drop] at x5
  obtain ⟨v, rfl⟩ : ∃ v, u = v + 1 := ⟨u - 1, by omega⟩
  obtain rfl : j4 = v + 1 := by omega
  rcases x5 with ⟨x5, e, e1, e2⟩ | ⟨y1, y2, y3, _, y5⟩
  · obtain rfl : v = 0 := by omega
    rw [show 1 + (0 + 1 + 1 + 2) - 1 = 3 + 1 from rfl, take_get l lt1, show (3 : Nat) = 2 + 1 from rfl, take_get (l.drop 1) (by simp; omega), List.drop_drop, show (2 : Nat) = 1 + 1 from rfl, take_get (l.drop _) (by simp; omega), List.drop_drop, show (1 : Nat) = 0 + 1 from rfl, take_get (l.drop _) (by simp; omega), getD_drop, getD_drop, getD_drop]
    unfold grp
    simp at *
    rw [if_neg (by omega), if_neg (by omega), if_neg (by omega)]
    simp only [List.cons.injEq, and_true]
    exact ⟨by omega, by omega, by omega, by omega⟩
  · rw [List.drop_drop] at y5
    obtain ⟨_, _, j5, w5, z3, z4, z5⟩ := gT_got (l.drop (1 + 1 + 1 + 1)) _ 5 false _ t (hd 4) (by omega) (by simp) (fun _ => by omega) y5
    rcases z5 with ⟨_, e, e1, e2⟩ | ⟨_, z6, _, _, z7⟩
    · simp at *; omega
    · obtain ⟨_, hz, _⟩ := gT_got _ _ _ _ _ _ (fun x hx => hd 4 x (List.mem_of_mem_drop hx)) (by simp at *; omega) (by simp) (fun _ => by simp at *; omega) z7
      cases hr : l.drop (1 + 1 + 1 + 1) with
      | nil => rw [hr] at z6; simp at z6
      | cons b r =>
        rw [hr] at y5
        rw [gT_cons] at y5
        rw [if_neg (by simp), if_pos (by simp at *; omega)] at y5
        simp at y5

theorem idg_back (l : List Int) (cls tag : Int) (cons : Bool) (n : Nat) (hb : Bytes l) (h : idg l = (cls, tag, cons, n, 0)) :
    Valid cls tag ∧ 1 ≤ n ∧ n ≤ l.length ∧ enc cls tag cons = l.take n := by
  cases l with
  | nil => simp [idg] at h
  | cons b r =>
    have hb0 := hb b (by simp)
    have hr : Bytes r := fun x hx => hb x (by simp [hx])
    have hcb : cb (b / 32 % 2 == 1) = b / 32 % 2 := by
      unfold cb
      rcases (by omega : b / 32 % 2 = 0 ∨ b / 32 % 2 = 1) with e | e <;> rw [e] <;> rfl
    simp only [idg] at h
    split at h
    · simp only [Prod.mk.injEq, and_true] at h
      obtain ⟨rfl, rfl, rfl, rfl⟩ := h
      refine ⟨⟨by omega, by omega, by omega, by omega⟩, by omega, by simp, ?_⟩
      unfold enc
      rw [if_pos (by omega), hcb]
      simp; omega
    · split at h
      · rename_i h31 h0
        simp only [Prod.mk.injEq, and_true] at h
        obtain ⟨rfl, rfl, rfl, rfl⟩ := h
        obtain ⟨g1, g2, g3, g4, g5⟩ := gT_grp_back r _ _ hr (Prod.ext rfl (Prod.ext rfl h0) : gT 0 1 true r = ((gT 0 1 true r).1, (gT 0 1 true r).2.1, 0))
        refine ⟨⟨by omega, by omega, by omega, by omega⟩, by omega, by simp; omega, ?_⟩
        unfold enc
        rw [if_neg (by omega), g5, hcb]
        obtain ⟨m, hm⟩ : ∃ m, (gT 0 1 true r).1 = m + 1 := ⟨(gT 0 1 true r).1 - 1, by omega⟩
        rw [hm, List.take_succ_cons]
        simp; omega
      · rename_i h0
        simp only [Prod.mk.injEq] at h
        exact absurd h.2.2.2.2 h0

/-- What an error is, and where it is told. -/
theorem gT_err : ∀ (l : List Int) (t : Int) (n : Nat) (f : Bool), ((gT t n f l).2.2 = 0 ∨ (gT t n f l).2.2 = 2 ∨ (gT t n f l).2.2 = 3) ∧ n ≤ (gT t n f l).1 ∧ (gT t n f l).1 ≤ n + l.length ∧ ((gT t n f l).2.2 = 2 → (gT t n f l).1 = n + l.length) ∧ ((gT t n f l).2.2 = 3 → (gT t n f l).1 < n + l.length) := by
  intro l
  induction l with
  | nil => intro t n f; simp [gT]
  | cons b r ih =>
    intro t n f
    rw [gT_cons]
    have := ih (128 * t + b % 128) (n + 1) false
    simp only [List.length_cons]
    split
    · simp
    split
    · simp
    split
    · obtain ⟨i1, i2, i3, i4, i5⟩ := this
      exact ⟨i1, by omega, by omega, fun h => by have := i4 h; omega, fun h => by have := i5 h; omega⟩
    split
    · simp
    · simp
theorem idg_err (l : List Int) : ((idg l).2.2.2.2 = 0 ∨ (idg l).2.2.2.2 = 2 ∨ (idg l).2.2.2.2 = 3) ∧ (idg l).2.2.2.1 ≤ l.length ∧ ((idg l).2.2.2.2 = 2 → (idg l).2.2.2.1 = l.length) ∧ ((idg l).2.2.2.2 = 3 → (idg l).2.2.2.1 < l.length) ∧
    ((idg l).2.2.2.2 ≠ 0 → (idg l).1 = 0 ∧ (idg l).2.1 = 0 ∧ (idg l).2.2.1 = false) := by
  cases l with
  | nil => simp [idg]
  | cons b r =>
    have := gT_err r 0 1 true
    simp only [idg]
    split
    · simp
    · split
      · simp; omega
      · simp; omega

end Go.Proofs.Ytomaajagncjiiaa.Idm
