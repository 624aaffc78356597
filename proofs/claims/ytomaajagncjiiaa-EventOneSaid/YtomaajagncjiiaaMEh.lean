/- Plain law of the machine's run over a head, and over a primitive element's content. -/
import Derived.Test.YtomaajagncjiiaaMEv
namespace Go.Proofs.Ytomaajagncjiiaa.PB
open Go.RowKit Go.Proofs.YtomaajagncjiiaaW.PrintWords Go.Proofs.YtomaajagncjiiaaW.PrintLast Go.Proofs.YtomaajagncjiiaaW.PrintMore
set_option linter.unusedVariables false
set_option linter.unusedSimpArgs false

/-- So many bytes of the innermost came. -/
def dc (j : Nat) : List Int → List Int
  | [] => []
  | x :: r => (x - (j : Int)) :: r
theorem dc_zero (l : List Int) : dc 0 l = l := by cases l <;> simp [dc]
theorem tk_dc (j : Nat) (l : List Int) (h : ∀ x r, l = x :: r → (j : Int) < x) : Mxm.tk (dc j l) = (dc (j + 1) l, 0) := by
  cases l with
  | nil => rfl
  | cons x r =>
    have := h x r rfl
    simp only [dc, Mxm.tk]
    rw [if_neg (by omega)]
    refine congrArg (·, (0 : Int)) (congrArg (· :: r) ?_)
    omega
/-- The state behind so many bytes of a head. -/
def sj (s : St) (H : List Int) (j : Nat) : St := { s with came := H.take j, left := dc j s.left, at_ := s.at_ + (j : Int) }
theorem done_sj (s : St) (H : List Int) (j : Nat) (hj : 0 < j) (hH : j ≤ H.length) : done (sj s H j) = false := by
  have h : ((H.take j).length : Int) ≠ 0 := by rw [List.length_take]; omega
  unfold done sj
  simp only
  rw [beq_eq_false_iff_ne.2 h, Bool.and_false]
/-- A head's byte that isn't its last one. -/
theorem push_head (most : Nat) (s : St) (H : List Int) (j : Nat) (b : Int) (r : List Int) (h0 : s.over = 0) (hl : s.leaf = 0) (hd : done s = false) (hc : s.came = []) (hdr : H.drop j = b :: r) (he : er (H.take (j + 1)) = 2) (hx : ∀ x r, s.left = x :: r → (j : Int) < x) :
    pushM most (sj s H j) b = (sj s H (j + 1), [], 0) := by
  have hlen : j < H.length := by
    have := congrArg List.length hdr
    rw [List.length_drop, List.length_cons] at this
    omega
  have hb : H.take (j + 1) = H.take j ++ [b] := by
    rw [List.take_add_one]
    have : H[j]? = some b := by rw [← List.head?_drop, hdr]; rfl
    rw [this]; rfl
  have hdn : done (sj s H j) = false := by
    by_cases hz : 0 < j
    · exact done_sj s H j hz (by omega)
    · obtain rfl : j = 0 := by omega
      have : sj s H 0 = s := by
        unfold sj
        rw [dc_zero, List.take_zero, ← hc]
        cases s; simp
      rw [this]; exact hd
  unfold pushM
  rw [if_neg (show ¬ (sj s H j).over ≠ 0 by simp [sj, h0]), if_neg (by rw [hdn]; decide)]
  have hs : stepM most (sj s H j) b = ({ takeM (sj s H j) with came := (sj s H j).came ++ [b] }, [], 0) := by
    unfold stepM
    rw [if_neg (show ¬ 0 < (sj s H j).leaf by simp [sj, hl]), show (sj s H j).left = dc j s.left from rfl, tk_dc j s.left hx, if_neg (fun h => h rfl), show (sj s H j).came = H.take j from rfl, ← hb, if_pos he]
  rw [hs, if_neg (fun h => h rfl)]
  have hcl : closeM { takeM (sj s H j) with came := (sj s H j).came ++ [b] } = (sj s H (j + 1), []) := by
    unfold closeM
    rw [if_neg (by simp)]
    simp only [takeM, sj]
    rw [tk_dc j s.left hx, hb]
    refine congrArg (·, ([] : List Ev)) ?_
    simp only [St.mk.injEq, true_and, and_true]
    omega
  rw [hcl]; rfl
/-- A whole head but its last byte. -/
theorem head_front (most : Nat) (s : St) (H : List Int) (p : Nat) (hp : p = H.length) (h0 : s.over = 0) (hl : s.leaf = 0) (hd : done s = false) (hc : s.came = []) (he : ∀ j, j < p → er (H.take j) = 2 ∨ j = 0) (hx : ∀ x r, s.left = x :: r → (p : Int) ≤ x) (rest : List Int) (acc : List Ev) (i : Int) :
    ∀ d j : Nat, j + d + 1 = p → runM most (sj s H j) (H.drop j ++ rest) (i + (j : Int)) acc = runM most (sj s H (p - 1)) (H.drop (p - 1) ++ rest) (i + ((p - 1 : Nat) : Int)) acc
  | 0, j, h => by rw [show j = p - 1 by omega]
  | d + 1, j, h => by
    obtain ⟨b, r, hdr⟩ : ∃ b r, H.drop j = b :: r := by
      cases hq : H.drop j with
      | nil => have := congrArg List.length hq; rw [List.length_drop] at this; simp at this; omega
      | cons b r => exact ⟨b, r, rfl⟩
    have he1 : er (H.take (j + 1)) = 2 := by
      rcases he (j + 1) (by omega) with h | h
      · exact h
      · omega
    have hr : r = H.drop (j + 1) := by rw [← List.tail_drop, hdr]; rfl
    rw [hdr, List.cons_append, runM_step most _ _ b [] 0 _ _ _ (push_head most s H j b r h0 hl hd hc hdr he1 (fun x r hxr => by have := hx x r hxr; omega)), if_neg (by decide), List.append_nil, hr, show i + (j : Int) + 1 = i + ((j + 1 : Nat) : Int) by omega]
    exact head_front most s H p hp h0 hl hd hc he hx rest acc i d (j + 1) (by omega)
theorem er_cut {c t n : Int} {cons : Bool} (hw : Hdm.Whole c t n) (j : Nat) (hj : j < (Hdm.hdenc c t cons n).length) : er ((Hdm.hdenc c t cons n).take j) = 2 := by
  unfold er; rw [Hdm.hg_cut cons hw j hj]
/-- Over a whole head. -/
theorem head_run (most : Nat) (s : St) (c t n : Int) (cons : Bool) (hw : Hdm.Whole c t n) (p : Nat) (hp : p = (Hdm.hdenc c t cons n).length) (h0 : s.over = 0) (hl : s.leaf = 0) (hd : done s = false) (hc : s.came = []) (hx : ∀ x r, s.left = x :: r → (p : Int) ≤ x)
    (rest : List Int) (acc : List Ev) (i : Int) (s1 : St) (x : List Ev) (e : Int) (hb : beginM most { sj s (Hdm.hdenc c t cons n) p with at_ := s.at_ + (p : Int) - 1 } ⟨c, t, cons, n⟩ = (s1, x, e)) :
    runM most s (Hdm.hdenc c t cons n ++ rest) i acc = if e ≠ 0 then (acc, e, i + (p : Int) - 1) else runM most (closeM s1).1 rest (i + (p : Int)) (acc ++ (x ++ (closeM s1).2)) := by
  have h2 := (Hdm.hdenc_len cons hw).2.1
  have hg0 := Hdm.hg_enc0 cons hw
  have hcut := fun j hj => er_cut (cons := cons) hw j hj
  generalize hH : Hdm.hdenc c t cons n = H at *
  have s0 : sj s H 0 = s := by
    unfold sj
    rw [dc_zero, List.take_zero, ← hc]
    cases s; simp
  have hf := head_front most s H p hp h0 hl hd hc (fun j hj => .inl (hcut j (by omega))) hx rest acc i (p - 1) 0 (by omega)
  rw [s0, List.drop_zero, show i + ((0 : Nat) : Int) = i by omega] at hf
  rw [hf]
  obtain ⟨b, hdr⟩ : ∃ b, H.drop (p - 1) = [b] := by
    cases hq : H.drop (p - 1) with
    | nil => have := congrArg List.length hq; rw [List.length_drop] at this; simp at this; omega
    | cons b r =>
      have := congrArg List.length hq
      rw [List.length_drop, List.length_cons] at this
      have : r = [] := List.eq_nil_of_length_eq_zero (by omega)
      exact ⟨b, by rw [this]⟩
  have hb2 : H.take (p - 1) ++ [b] = H := by rw [← hdr]; exact List.take_append_drop _ _
  have hps : pushM most (sj s H (p - 1)) b = if e ≠ 0 then ({ s1 with over := e }, [], e) else ((closeM s1).1, x ++ (closeM s1).2, 0) := by
    unfold pushM
    rw [if_neg (show ¬ (sj s H (p - 1)).over ≠ 0 by simp [sj, h0]), if_neg (by rw [done_sj s H (p - 1) (by omega) (by omega)]; decide)]
    have hs : stepM most (sj s H (p - 1)) b = (s1, x, e) := by
      unfold stepM
      have ez : er H = 0 := by unfold er; rw [hg0]
      have eh : _root_.Go.Proofs.Ytomaajagncjiiaa.PB.hd H = ⟨c, t, cons, n⟩ := by unfold _root_.Go.Proofs.Ytomaajagncjiiaa.PB.hd; rw [hg0]
      rw [if_neg (show ¬ 0 < (sj s H (p - 1)).leaf by simp [sj, hl]), show (sj s H (p - 1)).left = dc (p - 1) s.left from rfl, tk_dc (p - 1) s.left (fun x r hxr => by have := hx x r hxr; omega), if_neg (fun h => h rfl), show (sj s H (p - 1)).came = H.take (p - 1) from rfl, hb2, ez, if_neg (by decide), if_neg (by decide), eh, ← hb]
      refine congrArg (fun q => beginM most q _) ?_
      simp only [takeM, sj]
      rw [tk_dc (p - 1) s.left (fun x r hxr => by have := hx x r hxr; omega), show p - 1 + 1 = p by omega, hp, List.take_length, ← hp]
      simp only [St.mk.injEq, true_and, and_true]
      omega
    rw [hs]
  rw [hdr]
  by_cases he : e = 0
  · subst he
    rw [if_neg (by decide)] at hps
    rw [if_neg (by decide), List.singleton_append, runM_step most _ _ b _ 0 _ _ _ hps, if_neg (by decide), show i + ((p - 1 : Nat) : Int) + 1 = i + (p : Int) by omega]
  · rw [if_pos he] at hps
    rw [if_pos he, List.singleton_append, runM_step most _ _ b _ e _ _ _ hps, if_pos he, show i + ((p - 1 : Nat) : Int) = i + (p : Int) - 1 by omega]
/-- The events of a content's bytes, and its end. -/
def bodyE (i : Int) : List Int → List Ev
  | [] => []
  | [b] => [ev 3 i h0 b, ev 4 i h0 0]
  | b :: r => ev 3 i h0 b :: bodyE (i + 1) r
theorem bodyE_len : ∀ (c : List Int) (i : Int), c ≠ [] → (bodyE i c).length = c.length + 1
  | [], i, h => absurd rfl h
  | [b], i, h => rfl
  | b :: b2 :: r, i, h => by simp only [bodyE, List.length_cons]; rw [bodyE_len (b2 :: r) (i + 1) (by simp)]; simp
/-- A primitive element's content; what stands open behind it. -/
theorem content_run (most : Nat) (m : List Int) : ∀ (c : List Int) (s : St) (i : Int) (acc : List Ev), c ≠ [] → s.over = 0 → s.came = [] → s.leaf = (c.length : Int) → s.at_ = i → (∀ x r, s.left = x :: r → (c.length : Int) ≤ x) →
    runM most s (c ++ m) i acc = runM most (closeM { s with left := dc c.length s.left, leaf := 0, at_ := i + (c.length : Int) - 1 }).1 m (i + (c.length : Int)) (acc ++ (bodyE i c ++ (exits (i + (c.length : Int) - 1) (dc c.length s.left)).2))
  | [], s, i, acc, h, _, _, _, _, _ => absurd rfl h
  | [b], s, i, acc, h, ho, hc, hl, ha, hx => by
    have htk : Mxm.tk s.left = (dc 1 s.left, 0) := by
      have := tk_dc 0 s.left (fun x r hxr => by have := hx x r hxr; simp at this; omega)
      rwa [dc_zero] at this
    have hl1 : s.leaf = 1 := by simpa using hl
    have hp : pushM most s b = ((closeM { s with left := dc 1 s.left, leaf := 0 }).1, [ev 3 i h0 b, ev 4 i h0 0] ++ (closeM { s with left := dc 1 s.left, leaf := 0 }).2, 0) := by
      unfold pushM
      rw [if_neg (by simp [ho]), if_neg (by unfold done; simp [hl1])]
      have hs : stepM most s b = ({ s with left := dc 1 s.left, leaf := 0 }, [ev 3 i h0 b, ev 4 i h0 0], 0) := by
        unfold stepM
        rw [if_pos (by omega)]
        simp only [contentM, takeM, htk, hl1, ends, ha]
        rfl
      rw [hs]; simp
    rw [List.singleton_append, runM_step most _ _ b _ 0 _ _ _ hp, if_neg (by decide)]
    have ea : i + (([b] : List Int).length : Int) - 1 = i := by simp only [List.length_singleton]; omega
    have el : i + (([b] : List Int).length : Int) = i + 1 := by simp
    rw [ea, el]
    have es : ({ s with left := dc ([b] : List Int).length s.left, leaf := 0, at_ := i } : St) = { s with left := dc 1 s.left, leaf := 0 } := by rw [← ha]; rfl
    rw [es]
    have ee : (closeM { s with left := dc 1 s.left, leaf := 0 }).2 = (exits i (dc ([b] : List Int).length s.left)).2 := by
      unfold closeM; rw [if_pos ⟨rfl, hc⟩]; simp only [ha]; rfl
    rw [ee]; rfl
  | b :: b2 :: r, s, i, acc, h, ho, hc, hl, ha, hx => by
    have htk : Mxm.tk s.left = (dc 1 s.left, 0) := by
      have := tk_dc 0 s.left (fun x r hxr => by have := hx x r hxr; simp at this; omega)
      rwa [dc_zero] at this
    have hl1 : 1 < s.leaf := by rw [hl]; simp only [List.length_cons]; omega
    have hp : pushM most s b = ({ s with left := dc 1 s.left, leaf := s.leaf - 1, at_ := s.at_ + 1 }, [ev 3 i h0 b], 0) := by
      unfold pushM
      rw [if_neg (by simp [ho]), if_neg (by unfold done; simp; intros; omega)]
      have hs : stepM most s b = ({ s with left := dc 1 s.left, leaf := s.leaf - 1 }, [ev 3 i h0 b], 0) := by
        unfold stepM
        rw [if_pos (by omega)]
        simp only [contentM, takeM, htk, ends, ha]
        rw [if_neg (by omega)]
      rw [hs]
      have hcl : closeM { s with left := dc 1 s.left, leaf := s.leaf - 1 } = ({ s with left := dc 1 s.left, leaf := s.leaf - 1, at_ := s.at_ + 1 }, []) := by
        unfold closeM; rw [if_neg (by simp only; omega)]
      simp [hcl]
    rw [List.cons_append, runM_step most _ _ b _ 0 _ _ _ hp, if_neg (by decide)]
    have hdd : ∀ (k : Nat) (l : List Int), dc k (dc 1 l) = dc (k + 1) l := by
      intro k l
      cases l with
      | nil => rfl
      | cons x r => simp only [dc]; refine congrArg (· :: r) ?_; omega
    have ih := content_run most m (b2 :: r) { s with left := dc 1 s.left, leaf := s.leaf - 1, at_ := s.at_ + 1 } (i + 1) (acc ++ [ev 3 i h0 b]) (by simp) ho hc (by simp only [hl, List.length_cons]; omega) (by simp only [ha]) (fun x r' hxr => by
      cases hls : s.left with
      | nil => rw [hls] at hxr; simp [dc] at hxr
      | cons y q =>
        rw [hls] at hxr
        simp only [dc, List.cons.injEq] at hxr
        have := hx y q hls
        simp only [List.length_cons] at this ⊢
        omega)
    rw [ih]
    simp only [hdd]
    have e1 : i + 1 + ((b2 :: r).length : Int) = i + ((b :: b2 :: r).length : Int) := by simp only [List.length_cons]; omega
    rw [e1, List.append_assoc]
    rfl
end Go.Proofs.Ytomaajagncjiiaa.PB
