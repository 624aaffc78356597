/- Plain law: the machine's run over a text is the reference's element. -/
import Derived.Test.YtomaajagncjiiaaMEv
import Derived.Test.YtomaajagncjiiaaZA
import Derived.Test.YtomaajagncjiiaaBRf
import Derived.Test.YtomaajagncjiiaaPCx11
namespace Go.Proofs.Ytomaajagncjiiaa.PC
open Go.RowKit Go.Proofs.YtomaajagncjiiaaW.PrintWords Go.Proofs.YtomaajagncjiiaaW.PrintLast Go.Proofs.YtomaajagncjiiaaW.PrintMore
set_option linter.unusedVariables false
set_option linter.unusedSimpArgs false

/-- The head that begins with some bytes, so many of which may be of it (below 0: any). -/
def stG : List Int → List Int → Int → Int → Hd × Int × Int
  | _, [], i, _ => (h0, i, 2)
  | came, b :: r, i, room => if room = 0 then (h0, i, 5) else if er (came ++ [b]) = 0 then (hd (came ++ [b]), i, 0) else if er (came ++ [b]) = 2 then stG (came ++ [b]) r (i + 1) (room - 1) else (h0, i, er (came ++ [b]))
def Room (L : List Int) (room : Int) : Prop := (L = [] ∧ room < 0) ∨ ∃ R, L = room :: R ∧ 0 ≤ room
theorem done_came (s : St) (h : s.came ≠ []) : done s = false := by
  unfold done
  have : ((s.came.length : Int) == 0) = false := beq_eq_false_iff_ne.2 (fun e => h (List.eq_nil_of_length_eq_zero (by omega)))
  rw [this, Bool.and_false]
theorem room_tk {L : List Int} {room : Int} (h : Room L room) (h0 : room ≠ 0) : Mxm.tk L = (dc 1 L, 0) ∧ Room (dc 1 L) (room - 1) := by
  rcases h with ⟨rfl, h1⟩ | ⟨R, rfl, h1⟩
  · exact ⟨rfl, .inl ⟨rfl, by omega⟩⟩
  · simp only [Mxm.tk, dc]
    rw [if_neg h0]
    exact ⟨rfl, .inr ⟨R, rfl, by omega⟩⟩
theorem dc_dc (j k : Nat) (l : List Int) : dc j (dc k l) = dc (k + j) l := by
  cases l with
  | nil => rfl
  | cons x r => simp only [dc]; refine congrArg (· :: r) ?_; omega
/-- What begins with a whole head. -/
def after (most : Nat) (s : St) (h : Hd) (r : List Int) (la : Int) (acc : List Ev) : List Ev × Int × Int :=
  if (beginM most s h).2.2 ≠ 0 then (acc, (beginM most s h).2.2, la) else runM most (closeM (beginM most s h).1).1 r (la + 1) (acc ++ ((beginM most s h).2.1 ++ (closeM (beginM most s h).1).2))
theorem st_run (most : Nat) : ∀ (rest came : List Int) (i room : Int) (s : St) (acc : List Ev), s.over = 0 → s.leaf = 0 → s.came = came → s.at_ = i → (came = [] → done s = false) → Room s.left room →
    ((stG came rest i room).2.2 ≠ 0 → runM most s rest i acc = (acc, (stG came rest i room).2.2, (stG came rest i room).2.1)) ∧
    ((stG came rest i room).2.2 = 0 → ∃ (n : Nat) (C : List Int), n < rest.length ∧ (stG came rest i room).2.1 = i + (n : Int) ∧ C ≠ [] ∧ (stG came rest i room).1 = hd C ∧ er C = 0 ∧ (∀ x ∈ C, x ∈ came ∨ x ∈ rest) ∧ (room < 0 ∨ (n : Int) < room) ∧
      runM most s rest i acc = after most { s with came := C, left := dc (n + 1) s.left, at_ := i + (n : Int) } (hd C) (rest.drop (n + 1)) (i + (n : Int)) acc)
  | [], came, i, room, s, acc, ho, hl, hc, ha, hd0, hR => by
    constructor
    · intro _
      have hd1 : done s = false := by
        by_cases h : came = []
        · exact hd0 h
        · exact done_came s (by rw [hc]; exact h)
      simp [stG, runM, hd1]
    · intro h; simp [stG] at h
  | b :: r, came, i, room, s, acc, ho, hl, hc, ha, hd0, hR => by
    have hd1 : done s = false := by
      by_cases h : came = []
      · exact hd0 h
      · exact done_came s (by rw [hc]; exact h)
    have hpush : ∀ q, stepM most s b = q → pushM most s b = if q.2.2 ≠ 0 then ({ q.1 with over := q.2.2 }, [], q.2.2) else ((closeM q.1).1, q.2.1 ++ (closeM q.1).2, 0) := by
      intro q hq
      unfold pushM
      rw [if_neg (by simp [ho]), if_neg (by rw [hd1]; decide), hq]
    by_cases h0 : room = 0
    · have hst : stG came (b :: r) i room = (_root_.Go.Proofs.Ytomaajagncjiiaa.PC.h0, i, 5) := by simp only [stG]; rw [if_pos h0]
      rw [hst]
      refine ⟨fun _ => ?_, fun h => absurd (show (5 : Int) = 0 from h) (by decide)⟩
      have hL : (Mxm.tk s.left).2 = 5 := by
        rcases hR with ⟨_, h1⟩ | ⟨R, h1, _⟩
        · omega
        · rw [h1, h0]; rfl
      have hs : stepM most s b = (takeM s, [], 5) := by
        unfold stepM; rw [if_neg (by omega), if_pos (by rw [hL]; decide), hL]
      have hp := hpush _ hs
      rw [if_pos (show (5 : Int) ≠ 0 by decide)] at hp
      rw [runM_step most s _ b _ 5 _ _ _ hp]; rfl
    · obtain ⟨htk, hR1⟩ := room_tk hR h0
      by_cases h1 : er (came ++ [b]) = 0
      · have hst : stG came (b :: r) i room = (hd (came ++ [b]), i, 0) := by simp only [stG]; rw [if_neg h0, if_pos h1]
        rw [hst]
        refine ⟨fun h => absurd rfl h, fun _ => ⟨0, came ++ [b], by simp, by simp, by simp, rfl, h1, fun x hx => ?_, ?_, ?_⟩⟩
        · rcases List.mem_append.1 hx with hx | hx
          · exact .inl hx
          · exact .inr (by rw [List.mem_singleton.1 hx]; simp)
        · rcases hR with ⟨_, h2⟩ | ⟨R, _, h2⟩
          · exact .inl h2
          · exact .inr (by omega)
        · have hs : stepM most s b = beginM most { s with came := came ++ [b], left := dc (0 + 1) s.left, at_ := i + ((0 : Nat) : Int) } (hd (came ++ [b])) := by
            unfold stepM
            rw [if_neg (by omega), htk, if_neg (fun h => h rfl), hc, h1, if_neg (by decide), if_neg (fun h => h rfl)]
            refine congrArg (fun q => beginM most q _) ?_
            simp only [takeM, htk, St.mk.injEq, true_and, and_true]
            rw [ha]; simp
          have hp := hpush _ hs
          unfold after
          generalize beginM most { s with came := came ++ [b], left := dc (0 + 1) s.left, at_ := i + ((0 : Nat) : Int) } (hd (came ++ [b])) = q at hp
          by_cases he : q.2.2 = 0
          · rw [if_neg (fun h => h he)] at hp ⊢
            rw [runM_step most s _ b _ 0 _ _ _ hp, if_neg (fun h => h rfl)]
            simp
          · rw [if_pos he] at hp ⊢
            rw [runM_step most s _ b _ _ _ _ _ hp, if_pos he]
            simp
      · by_cases h2 : er (came ++ [b]) = 2
        · have hst : stG came (b :: r) i room = stG (came ++ [b]) r (i + 1) (room - 1) := by simp only [stG]; rw [if_neg h0, if_neg h1, if_pos h2]
          have hs : stepM most s b = ({ s with left := dc 1 s.left, came := came ++ [b] }, [], 0) := by
            unfold stepM
            rw [if_neg (by omega), htk, if_neg (fun h => h rfl), hc, if_pos h2]
            simp only [takeM, htk]
          have hp := hpush _ hs
          rw [if_neg (fun h => h rfl)] at hp
          have hcl : closeM { s with left := dc 1 s.left, came := came ++ [b] } = ({ s with left := dc 1 s.left, came := came ++ [b], at_ := i + 1 }, []) := by
            unfold closeM; rw [if_neg (by simp)]; simp only [ha]
          simp only at hp
          rw [hcl] at hp
          rw [hst, runM_step most s _ b _ 0 _ _ _ hp, if_neg (fun h => h rfl)]
          simp only [List.append_nil]
          have ih := st_run most r (came ++ [b]) (i + 1) (room - 1) { s with left := dc 1 s.left, came := came ++ [b], at_ := i + 1 } acc ho hl rfl rfl (fun h => by simp at h) hR1
          refine ⟨ih.1, fun h => ?_⟩
          obtain ⟨n, C, a1, a2, a3, a4, a5, a6, a7, a8⟩ := ih.2 h
          refine ⟨n + 1, C, by simp; omega, by rw [a2]; omega, a3, a4, a5, fun x hx => ?_, by omega, ?_⟩
          · rcases a6 x hx with hx | hx
            · rcases List.mem_append.1 hx with hx | hx
              · exact .inl hx
              · exact .inr (by rw [List.mem_singleton.1 hx]; simp)
            · exact .inr (by simp [hx])
          · rw [a8]
            simp only [dc_dc, List.drop_succ_cons]
            rw [show 1 + (n + 1) = n + 1 + 1 by omega, show i + 1 + (n : Int) = i + ((n + 1 : Nat) : Int) by omega]
        · have hst : stG came (b :: r) i room = (_root_.Go.Proofs.Ytomaajagncjiiaa.PC.h0, i, er (came ++ [b])) := by simp only [stG]; rw [if_neg h0, if_neg h1, if_neg h2]
          rw [hst]
          refine ⟨fun _ => ?_, fun h => absurd h h1⟩
          have hs : stepM most s b = ({ takeM s with came := s.came ++ [b] }, [], er (came ++ [b])) := by
            unfold stepM
            rw [if_neg (by omega), htk, if_neg (fun h => h rfl), hc, if_neg h2, if_pos h1]
          have hp := hpush _ hs
          rw [if_pos h1] at hp
          rw [runM_step most s _ b _ _ _ _ _ hp, if_pos h1]

def Mst (L : List Int) (at_ : Int) (bg : Bool) : St := ⟨L, [], 0, at_, bg, 0⟩
/-- Behind what is over at a place: the run goes on. -/
def goOn (mo : Nat) (a : ByteArray) (L : List Int) (p : Int) (l : List Ev) : List Ev × Int × Int := runM mo (Mst (exits (p - 1) L).1 p true) ((bytesOf a).drop p.toNat) p (l ++ (exits (p - 1) L).2)
theorem drop_next (a : ByteArray) (i : Int) (h0 : 0 ≤ i) (h1 : i < a.size) : (bytesOf a).drop i.toNat = bt a i :: (bytesOf a).drop (i + 1).toNat := Bs.drop_at a i h0 h1
/-- A primitive element's content. -/
theorem leaf_run (mo : Nat) (a : ByteArray) (fr n : Int) : ∀ (g : Nat) (k : Int) (l : List Ev) (s : St), 1 ≤ g → k + (g : Int) = n → 0 ≤ fr + k → fr + k ≤ a.size → s.over = 0 → s.came = [] → s.leaf = (g : Int) → s.at_ = fr + k → s.begun = true → (∀ x r, s.left = x :: r → (g : Int) ≤ x) →
    ((lfG a fr n g k l).2.1 ≠ 0 → runM mo s ((bytesOf a).drop (fr + k).toNat) (fr + k) l = lfG a fr n g k l) ∧
    ((lfG a fr n g k l).2.1 = 0 → (lfG a fr n g k l).2.2 = fr + n ∧ fr + n ≤ a.size ∧ runM mo s ((bytesOf a).drop (fr + k).toNat) (fr + k) l = goOn mo a (dc g s.left) (fr + n) (lfG a fr n g k l).1)
  | 0, k, l, s, hg, _, _, _, _, _, _, _, _, _ => absurd hg (by omega)
  | g + 1, k, l, s, hg, hk, h0, h1, ho, hc, hl, ha, hbg, hx => by
    have hnd : done s = false := by
      unfold done
      have : (s.leaf == 0) = false := beq_eq_false_iff_ne.2 (by omega)
      rw [this]; simp
    unfold lfG
    by_cases hz : (a.size : Int) ≤ fr + k
    · rw [if_pos hz]
      refine ⟨fun _ => ?_, fun h => absurd (show (2 : Int) = 0 from h) (by decide)⟩
      rw [Bs.drop_end a (fr + k) hz]
      simp only [runM, hnd]
      simp; omega
    · rw [if_neg hz]
      have htk : Mxm.tk s.left = (dc 1 s.left, 0) := by
        have := tk_dc 0 s.left (fun x r hxr => by have := hx x r hxr; omega)
        rwa [dc_zero] at this
      rw [drop_next a (fr + k) h0 (by omega)]
      by_cases hg1 : g = 0
      · subst hg1
        have hs : stepM mo s (bt a (fr + k)) = ({ s with left := dc 1 s.left, leaf := 0 }, [ev 3 (fr + k) _root_.Go.Proofs.Ytomaajagncjiiaa.PC.h0 (bt a (fr + k)), ev 4 (fr + k) _root_.Go.Proofs.Ytomaajagncjiiaa.PC.h0 0], 0) := by
          unfold stepM
          rw [if_pos (by omega)]
          simp only [contentM, takeM, htk, ends, ha]
          rw [show s.leaf - 1 = 0 by omega]; rfl
        have hp : pushM mo s (bt a (fr + k)) = ((closeM { s with left := dc 1 s.left, leaf := 0 }).1, [ev 3 (fr + k) _root_.Go.Proofs.Ytomaajagncjiiaa.PC.h0 (bt a (fr + k)), ev 4 (fr + k) _root_.Go.Proofs.Ytomaajagncjiiaa.PC.h0 0] ++ (closeM { s with left := dc 1 s.left, leaf := 0 }).2, 0) := by
          unfold pushM
          rw [if_neg (by simp [ho]), if_neg (by rw [hnd]; decide), hs, if_neg (fun h => h rfl)]
        have hcl : closeM { s with left := dc 1 s.left, leaf := 0 } = (Mst (exits (fr + k) (dc 1 s.left)).1 (fr + k + 1) true, (exits (fr + k) (dc 1 s.left)).2) := by
          unfold closeM
          rw [if_pos ⟨rfl, hc⟩]
          simp only [Mst, ha, ho, hc, hbg]
        rw [hcl] at hp
        rw [runM_step mo s _ _ _ 0 _ _ _ hp, if_neg (fun h => h rfl)]
        simp only [lfG]
        refine ⟨fun h => absurd rfl h, fun _ => ⟨by first | trivial | rfl, by omega, ?_⟩⟩
        unfold goOn
        rw [show fr + n = fr + k + 1 by omega, show fr + k + 1 - 1 = fr + k by omega, List.append_assoc, List.append_assoc]
        rfl
      · have hs : stepM mo s (bt a (fr + k)) = ({ s with left := dc 1 s.left, leaf := s.leaf - 1 }, [ev 3 (fr + k) _root_.Go.Proofs.Ytomaajagncjiiaa.PC.h0 (bt a (fr + k))], 0) := by
          unfold stepM
          rw [if_pos (by omega)]
          simp only [contentM, takeM, htk, ends, ha]
          rw [if_neg (by omega)]
        have hcl : closeM { s with left := dc 1 s.left, leaf := s.leaf - 1 } = ({ s with left := dc 1 s.left, leaf := s.leaf - 1, at_ := fr + k + 1 }, []) := by
          unfold closeM; rw [if_neg (by simp only; omega)]; simp only [ha]
        have hp : pushM mo s (bt a (fr + k)) = ({ s with left := dc 1 s.left, leaf := s.leaf - 1, at_ := fr + k + 1 }, [ev 3 (fr + k) _root_.Go.Proofs.Ytomaajagncjiiaa.PC.h0 (bt a (fr + k))], 0) := by
          unfold pushM
          rw [if_neg (by simp [ho]), if_neg (by rw [hnd]; decide), hs, if_neg (fun h => h rfl)]
          simp only [hcl, List.append_nil]
        rw [runM_step mo s _ _ _ 0 _ _ _ hp, if_neg (fun h => h rfl)]
        have ih := leaf_run mo a fr n g (k + 1) (l ++ [ev 3 (fr + k) _root_.Go.Proofs.Ytomaajagncjiiaa.PC.h0 (bt a (fr + k))]) { s with left := dc 1 s.left, leaf := s.leaf - 1, at_ := fr + k + 1 } (by omega) (by omega) (by omega) (by omega) ho hc (by simp only; omega) (by simp only; omega) hbg (fun x r hxr => by
          cases hls : s.left with
          | nil => rw [hls] at hxr; simp [dc] at hxr
          | cons y q =>
            rw [hls] at hxr
            simp only [dc, List.cons.injEq] at hxr
            have := hx y q hls
            omega)
        rw [show fr + (k + 1) = fr + k + 1 by omega] at ih
        simp only [dc_dc, show 1 + g = g + 1 by omega] at ih
        exact ih
/-- Of a start that is right. -/
def Tst (a : ByteArray) (p en : Int) : Hd × Int × Int := stG [] ((bytesOf a).drop p.toNat) p (en - p)
/-- Where the machine stands when an element begins: at a text's beginning, or within another one. -/
def At0 (L : List Int) (bg : Bool) (p en op : Int) : Prop := (L = [] ∧ en = -1 ∧ op = 0) ∨ (∃ R, L = (en - p) :: R ∧ p < en ∧ bg = true ∧ op = (L.length : Int))
theorem el_run (mo : Nat) (a : ByteArray) : ∀ (g : Nat),
    (∀ (l : List Ev) (p en op : Int) (r : List Ev × Int × Int) (L : List Int) (bg : Bool), elX a (Tst a) (mo : Int) g false l p en op = some r → 0 ≤ p → p ≤ a.size → At0 L bg p en op → L.length ≤ mo → (L = [] → bg = false) →
      (r.2.1 ≠ 0 → runM mo (Mst L p bg) ((bytesOf a).drop p.toNat) p l = r) ∧
      (r.2.1 = 0 → p < r.2.2 ∧ r.2.2 ≤ a.size ∧ (L ≠ [] → r.2.2 ≤ en) ∧ runM mo (Mst L p bg) ((bytesOf a).drop p.toNat) p l = goOn mo a (dc (r.2.2 - p).toNat L) r.2.2 r.1)) ∧
    (∀ (l : List Ev) (p stop op : Int) (r : List Ev × Int × Int) (R : List Int), elX a (Tst a) (mo : Int) g true l p stop op = some r → 0 ≤ p → p ≤ a.size → p ≤ stop → op = (R.length : Int) → R.length + 1 ≤ mo →
      (r.2.1 ≠ 0 → goOn mo a ((stop - p) :: R) p l = r) ∧
      (r.2.1 = 0 → r.2.2 = stop ∧ stop ≤ a.size ∧ goOn mo a ((stop - p) :: R) p l = goOn mo a R stop r.1))
  | 0 => ⟨fun l p en op r L bg h => by simp [elX] at h, fun l p stop op r R h => by simp [elX] at h⟩
  | g + 1 => by
    obtain ⟨ih1, ih2⟩ := el_run mo a g
    constructor
    · intro l p en op r L bg h hp0 hp1 hA hlm hbg
      unfold elX at h
      have hroom : Room L (en - p) := by
        rcases hA with ⟨h1, h2, h3⟩ | ⟨R, h1, h2, _⟩
        · exact .inl ⟨h1, by omega⟩
        · exact .inr ⟨R, h1, by omega⟩
      have hdn : done (Mst L p bg) = false := by
        unfold done Mst
        rcases hA with ⟨h1, _⟩ | ⟨R, h1, _⟩
        · rw [hbg h1]; simp
        · rw [h1]; simp
          intros; omega
      have hop : op = (L.length : Int) := by
        rcases hA with ⟨h1, _, h3⟩ | ⟨R, h1, _, _, h3⟩
        · rw [h1, h3]; rfl
        · exact h3
      have hen : L = [] → en = -1 := by
        intro hL
        rcases hA with ⟨_, h2, _⟩ | ⟨R, h1, _⟩
        · exact h2
        · rw [h1] at hL; exact absurd hL (by simp)
      have hleft : ∀ x R, L = x :: R → x = en - p := by
        intro x R hL
        rcases hA with ⟨h1, _⟩ | ⟨R', h1, _⟩
        · rw [h1] at hL; exact absurd hL (by simp)
        · rw [h1] at hL; exact (List.cons.inj hL).1.symm
      have hs := st_run mo ((bytesOf a).drop p.toNat) [] p (en - p) (Mst L p bg) l rfl rfl rfl rfl (fun _ => hdn) hroom
      have hT : stG [] ((bytesOf a).drop p.toNat) p (en - p) = Tst a p en := rfl
      rw [hT] at hs
      have hdl : ((bytesOf a).drop p.toNat).length = a.size - p.toNat := by rw [List.length_drop, bytesOf_length]
      by_cases c1 : (Tst a p en).2.2 = 0
      · rw [if_neg (fun h => h c1)] at h
        obtain ⟨n, C, a1, a2, a3, a4, a5, a6, a7, a8⟩ := hs.2 c1
        rw [a2] at h
        rw [a4] at h
        have hbC : Idm.Bytes C := fun x hx => by
          rcases a6 x hx with h | h
          · simp at h
          · exact Bs.bytes_of a x (List.mem_of_mem_drop h)
        have hw := (hd_ok hbC a5).1
        have hn0 := hw.2.1
        have hdd : ((bytesOf a).drop p.toNat).drop (n + 1) = (bytesOf a).drop (p + (n : Int) + 1).toNat := by
          rw [List.drop_drop]; congr 1; omega
        rw [a8, hdd]
        clear a8 hs hw a6 a5 a3
        generalize _root_.Go.Proofs.Ytomaajagncjiiaa.PC.hd C = hh at *
        have hla : p + (n : Int) + 1 ≤ a.size := by omega
        -- the room behind the head
        have hdc : ∀ x R, L = x :: R → dc (n + 1) L = (en - (p + (n : Int) + 1)) :: R ∧ p + (n : Int) + 1 ≤ en := by
          intro x R hL
          have := hleft x R hL
          refine ⟨by rw [hL, this]; simp only [dc]; refine congrArg (· :: R) ?_; omega, ?_⟩
          rcases a7 with h | h
          · rcases hroom with ⟨h1, _⟩ | ⟨R', h1, h2⟩
            · rw [h1] at hL; exact absurd hL (by simp)
            · omega
          · omega
        by_cases c2 : 0 ≤ en ∧ en - (p + (n : Int) + 1) < hh.f3
        · rw [if_pos c2] at h
          obtain rfl := Option.some.inj h
          refine ⟨fun _ => ?_, fun h => absurd (show (5 : Int) = 0 from h) (by decide)⟩
          cases hL : L with
          | nil => have := hen hL; omega
          | cons x R =>
            obtain ⟨d1, d2⟩ := hdc x R hL
            unfold after
            have hb : beginM mo { Mst L p bg with came := C, left := dc (n + 1) L, at_ := p + (n : Int) } hh = ({ Mst L p bg with came := C, left := dc (n + 1) L, at_ := p + (n : Int) }, [], 5) := by
              unfold beginM
              rw [if_pos (by simp only [Mst]; rw [d1]; exact ⟨by simp, c2.2⟩)]
            rw [← hL, show (Mst L p bg).left = L from rfl, hb]
            rw [if_pos (show (5 : Int) ≠ 0 by decide)]
        · rw [if_neg c2] at h
          have hfit : ¬ (0 < ((dc (n + 1) L).length : Int) ∧ (dc (n + 1) L).headD 0 < hh.f3) := by
            intro ⟨h1, h2⟩
            cases hL : L with
            | nil => rw [hL] at h1; simp [dc] at h1
            | cons x R =>
              obtain ⟨d1, d2⟩ := hdc x R hL
              rw [d1] at h2
              exact c2 ⟨by omega, h2⟩
          by_cases c3 : hh.f2 = false
          · rw [if_pos c3] at h
            obtain rfl := Option.some.inj h
            have hb : beginM mo { Mst L p bg with came := C, left := dc (n + 1) L, at_ := p + (n : Int) } hh = (⟨dc (n + 1) L, [], hh.f3, p + (n : Int), true, 0⟩, ev 2 (p + (n : Int)) hh 0 :: ends (Mst L (p + (n : Int)) bg) hh.f3, 0) := by
              unfold beginM
              rw [if_neg hfit, if_neg (by rw [c3]; decide)]
              rfl
            unfold after
            rw [show (Mst L p bg).left = L from rfl, hb, if_neg (fun h => h rfl)]
            simp only
            unfold lfM
            by_cases hz : hh.f3 = 0
            · rw [if_pos hz]
              refine ⟨fun h => absurd rfl h, fun _ => ⟨by simp only; omega, hla, fun hL => ?_, ?_⟩⟩
              · cases hL2 : L with
                | nil => exact absurd hL2 hL
                | cons x R => exact (hdc x R hL2).2
              · have hcl : closeM ⟨dc (n + 1) L, [], hh.f3, p + (n : Int), true, 0⟩ = (Mst (exits (p + (n : Int)) (dc (n + 1) L)).1 (p + (n : Int) + 1) true, (exits (p + (n : Int)) (dc (n + 1) L)).2) := by
                  unfold closeM
                  rw [if_pos ⟨hz, rfl⟩]
                  simp only [Mst, hz]
                rw [hcl]
                unfold goOn
                simp only
                rw [show p + (n : Int) + 1 - 1 = p + (n : Int) by omega, show (p + (n : Int) + 1 - p).toNat = n + 1 by omega]
                simp only [ends, hz, if_true, Mst, List.append_assoc, List.cons_append, List.nil_append]
            · rw [if_neg hz]
              have hcl : closeM ⟨dc (n + 1) L, [], hh.f3, p + (n : Int), true, 0⟩ = (⟨dc (n + 1) L, [], hh.f3, p + (n : Int) + 1, true, 0⟩, []) := by
                unfold closeM; rw [if_neg (fun h => hz h.1)]
              rw [hcl]
              simp only [ends, if_neg hz, List.append_nil]
              have hlr := leaf_run mo a (p + (n : Int) + 1) hh.f3 hh.f3.toNat 0 (l ++ [ev 2 (p + (n : Int)) hh 0]) ⟨dc (n + 1) L, [], hh.f3, p + (n : Int) + 1, true, 0⟩ (by omega) (by omega) (by omega) (by omega) rfl rfl (by simp only; omega) (by simp only; omega) rfl (fun x R hx => by
                simp only at hx
                cases hL : L with
                | nil => rw [hL] at hx; simp [dc] at hx
                | cons y Q =>
                  obtain ⟨d1, d2⟩ := hdc y Q hL
                  rw [d1] at hx
                  have := (List.cons.inj hx).1
                  have : ¬ (en - (p + (n : Int) + 1) < hh.f3) := fun h => c2 ⟨by omega, h⟩
                  omega)
              rw [show p + (n : Int) + 1 + 0 = p + (n : Int) + 1 by omega] at hlr
              refine ⟨hlr.1, fun h => ?_⟩
              obtain ⟨e1, e2, e3⟩ := hlr.2 h
              refine ⟨by omega, by omega, fun hL => ?_, ?_⟩
              · cases hL2 : L with
                | nil => exact absurd hL2 hL
                | cons y Q =>
                  obtain ⟨d1, d2⟩ := hdc y Q hL2
                  have : ¬ (en - (p + (n : Int) + 1) < hh.f3) := fun h => c2 ⟨by omega, h⟩
                  omega
              · rw [e3, e1]
                simp only [dc_dc]
                rw [show n + 1 + hh.f3.toNat = (p + (n : Int) + 1 + hh.f3 - p).toNat by omega]
          · rw [if_neg c3] at h
            have c3 : hh.f2 = true := by simpa using c3
            by_cases c4 : op = (mo : Int)
            · rw [if_pos c4] at h
              obtain rfl := Option.some.inj h
              refine ⟨fun _ => ?_, fun h => absurd (show (10 : Int) = 0 from h) (by decide)⟩
              have hen10 : (Mxm.en mo (dc (n + 1) L) hh.f3).2 = 10 := by
                cases hL : L with
                | nil =>
                  rw [hL] at hop
                  simp only [dc, Mxm.en]
                  rw [if_pos (by simp at hop; omega)]
                | cons x R =>
                  obtain ⟨d1, d2⟩ := hdc x R hL
                  rw [← hL, d1]
                  simp only [Mxm.en]
                  rw [if_neg (fun h => c2 ⟨by omega, h⟩), if_pos (by rw [hL] at hop; simp at hop; omega)]
              unfold after
              have hb : (beginM mo { Mst L p bg with came := C, left := dc (n + 1) L, at_ := p + (n : Int) } hh).2.2 = 10 := by
                unfold beginM
                rw [if_neg hfit, if_pos c3, if_pos (by rw [hen10]; decide), hen10]
              rw [show (Mst L p bg).left = L from rfl, hb, if_pos (by decide)]
            · rw [if_neg c4] at h
              obtain ⟨L2, hL2⟩ : ∃ L2, Mxm.en mo (dc (n + 1) L) hh.f3 = (hh.f3 :: L2, 0) ∧ L2.length = L.length ∧ (∀ k : Nat, hh.f3 = (k : Int) → L2 = dc (n + 1 + k) L) := by
                cases hL : L with
                | nil =>
                  rw [hL] at hop
                  refine ⟨[], ?_, rfl, fun k hk => rfl⟩
                  simp only [dc, Mxm.en]
                  rw [if_neg (by simp at hop; omega)]
                | cons x R =>
                  obtain ⟨d1, d2⟩ := hdc x R hL
                  refine ⟨(en - (p + (n : Int) + 1) - hh.f3) :: R, ?_, by simp, fun k hk => ?_⟩
                  · rw [← hL, d1]
                    simp only [Mxm.en]
                    rw [if_neg (fun h => c2 ⟨by omega, h⟩), if_neg (by rw [hL] at hop hlm; simp at hop hlm; omega)]
                  · rw [← hL, ← dc_dc, d1]
                    simp only [dc]; refine congrArg (· :: R) ?_; omega
              obtain ⟨hL2a, hL2b, hL2c⟩ := hL2
              have hb : beginM mo { Mst L p bg with came := C, left := dc (n + 1) L, at_ := p + (n : Int) } hh = (⟨hh.f3 :: L2, [], 0, p + (n : Int), true, 0⟩, [ev 1 (p + (n : Int)) hh 0], 0) := by
                unfold beginM
                rw [if_neg hfit, if_pos c3, if_neg (by rw [hL2a]; exact fun h => h rfl), hL2a]
                rfl
              have hcl : closeM ⟨hh.f3 :: L2, [], 0, p + (n : Int), true, 0⟩ = (Mst (exits (p + (n : Int)) (hh.f3 :: L2)).1 (p + (n : Int) + 1) true, (exits (p + (n : Int)) (hh.f3 :: L2)).2) := by
                unfold closeM; rw [if_pos ⟨rfl, rfl⟩]; rfl
              have hgo : after mo { Mst L p bg with came := C, left := dc (n + 1) L, at_ := p + (n : Int) } hh ((bytesOf a).drop (p + (n : Int) + 1).toNat) (p + (n : Int)) l = goOn mo a ((p + (n : Int) + 1 + hh.f3 - (p + (n : Int) + 1)) :: L2) (p + (n : Int) + 1) (l ++ [ev 1 (p + (n : Int)) hh 0]) := by
                unfold after
                rw [hb, if_neg (fun h => h rfl)]
                simp only
                rw [hcl]
                unfold goOn
                rw [show p + (n : Int) + 1 + hh.f3 - (p + (n : Int) + 1) = hh.f3 by omega, show p + (n : Int) + 1 - 1 = p + (n : Int) by omega, List.append_assoc]
              rw [show (Mst L p bg).left = L from rfl, hgo]
              have i2 := ih2 _ _ _ _ r L2 h (by omega) hla (by omega) (by omega) (by omega)
              refine ⟨i2.1, fun hr => ?_⟩
              obtain ⟨e1, e2, e3⟩ := i2.2 hr
              refine ⟨by omega, by omega, fun hL => ?_, ?_⟩
              · cases hLc : L with
                | nil => exact absurd hLc hL
                | cons y Q =>
                  obtain ⟨d1, d2⟩ := hdc y Q hLc
                  have : ¬ (en - (p + (n : Int) + 1) < hh.f3) := fun h => c2 ⟨by omega, h⟩
                  omega
              · rw [e3, e1, hL2c hh.f3.toNat (by omega), show n + 1 + hh.f3.toNat = (p + (n : Int) + 1 + hh.f3 - p).toNat by omega]
      · rw [if_pos c1] at h
        obtain rfl := Option.some.inj h
        exact ⟨fun _ => hs.1 c1, fun h => absurd h c1⟩
    · intro l p stop op r R h hp0 hp1 hps hop hlm
      unfold elX at h
      by_cases hlt : p < stop
      · rw [if_pos hlt] at h
        obtain ⟨t, ht, h⟩ := Option.bind_eq_some_iff.mp h
        have hgo : goOn mo a ((stop - p) :: R) p l = runM mo (Mst ((stop - p) :: R) p true) ((bytesOf a).drop p.toNat) p l := by
          unfold goOn
          simp only [exits]
          rw [if_neg (by omega), List.append_nil]
        have i1 := ih1 l p stop (op + 1) t ((stop - p) :: R) true ht hp0 hp1 (.inr ⟨R, rfl, hlt, rfl, by simp [hop]⟩) (by simpa using hlm) (fun h => by simp at h)
        rw [hgo]
        by_cases ht0 : t.2.1 = 0
        · rw [if_neg (fun h => h ht0)] at h
          obtain ⟨e1, e2, e3, e4⟩ := i1.2 ht0
          have e3 := e3 (by simp)
          rw [e4]
          have hd : dc (t.2.2 - p).toNat ((stop - p) :: R) = (stop - t.2.2) :: R := by
            simp only [dc]; refine congrArg (· :: R) ?_; omega
          rw [hd]
          exact ih2 t.1 t.2.2 stop op r R h (by omega) e2 e3 hop hlm
        · rw [if_pos ht0] at h
          obtain rfl := Option.some.inj h
          exact ⟨i1.1, fun h => absurd h ht0⟩
      · rw [if_neg hlt] at h
        obtain rfl := Option.some.inj h
        refine ⟨fun h => absurd rfl h, fun _ => ⟨by simp only; omega, by omega, ?_⟩⟩
        obtain rfl : p = stop := by omega
        unfold goOn
        rw [show p - p = 0 by omega]
        simp only [exits, if_true, List.append_assoc, List.cons_append, List.nil_append]

theorem stG_good : ∀ (rest came : List Int) (i room : Int), Idm.Bytes came → Idm.Bytes rest → (stG came rest i room).2.2 = 0 → i ≤ (stG came rest i room).2.1 ∧ (stG came rest i room).2.1 < i + (rest.length : Int) ∧ 0 ≤ (stG came rest i room).1.f3 ∧ (stG came rest i room).1.f3 ≤ 2305843009213693951
  | [], came, i, room, hc, hr, h => by simp [stG] at h
  | b :: r, came, i, room, hc, hr, h => by
    have hcb : Idm.Bytes (came ++ [b]) := bytes_snoc hc (hr b (by simp))
    by_cases h0 : room = 0
    · rw [show stG came (b :: r) i room = (_root_.Go.Proofs.Ytomaajagncjiiaa.PC.h0, i, 5) by simp only [stG]; rw [if_pos h0]] at h
      exact absurd (show (5 : Int) = 0 from h) (by decide)
    · by_cases h1 : er (came ++ [b]) = 0
      · rw [show stG came (b :: r) i room = (hd (came ++ [b]), i, 0) by simp only [stG]; rw [if_neg h0, if_pos h1]]
        have hw := (hd_ok hcb h1).1
        exact ⟨Int.le_refl _, by simp; omega, hw.2.1, hw.2.2⟩
      · by_cases h2 : er (came ++ [b]) = 2
        · have e : stG came (b :: r) i room = stG (came ++ [b]) r (i + 1) (room - 1) := by simp only [stG]; rw [if_neg h0, if_neg h1, if_pos h2]
          rw [e] at h ⊢
          have ih := stG_good r (came ++ [b]) (i + 1) (room - 1) hcb (fun x hx => hr x (by simp [hx])) h
          exact ⟨by omega, by simp only [List.length_cons]; omega, ih.2.2⟩
        · rw [show stG came (b :: r) i room = (_root_.Go.Proofs.Ytomaajagncjiiaa.PC.h0, i, er (came ++ [b])) by simp only [stG]; rw [if_neg h0, if_neg h1, if_neg h2]] at h
          exact absurd h h1
theorem good_T (a : ByteArray) : GoodT a (Tst a) := by
  intro p en h0 h1 h
  have := stG_good ((bytesOf a).drop p.toNat) [] p (en - p) (fun x hx => by simp at hx) (fun x hx => Bs.bytes_of a x (List.mem_of_mem_drop hx)) h
  rw [List.length_drop, bytesOf_length] at this
  exact ⟨this.1, by have := this.2.1; unfold Tst; omega, this.2.2.1, this.2.2.2⟩
theorem elX_some (a : ByteArray) (T : Int → Int → Hd × Int × Int) (most : Int) (hT : GoodT a T) : ∀ g : Nat,
    (∀ (l : List Ev) (p en op : Int), 0 ≤ p → p ≤ a.size → 2 * ((a.size : Int) - p) + 2 ≤ g → ∃ r, elX a T most g false l p en op = some r) ∧
    (∀ (l : List Ev) (p stop op : Int), 0 ≤ p → p ≤ a.size → 2 * ((a.size : Int) - p) + 3 ≤ g → ∃ r, elX a T most g true l p stop op = some r)
  | 0 => ⟨fun l p en op h0 h1 h => by omega, fun l p en op h0 h1 h => by omega⟩
  | g + 1 => by
    obtain ⟨ih1, ih2⟩ := elX_some a T most hT g
    constructor
    · intro l p en op h0 h1 h
      unfold elX
      by_cases c1 : (T p en).2.2 ≠ 0
      · rw [if_pos c1]; exact ⟨_, rfl⟩
      rw [if_neg c1]
      have tt := hT p en h0 h1 (by simpa using c1)
      split
      · exact ⟨_, rfl⟩
      · split
        · exact ⟨_, rfl⟩
        · split
          · exact ⟨_, rfl⟩
          · exact ih2 _ _ _ _ (by omega) (by omega) (by omega)
    · intro l p stop op h0 h1 h
      unfold elX
      split
      · obtain ⟨t, ht⟩ := ih1 l p stop (op + 1) h0 h1 (by omega)
        rw [ht, Option.bind_some]
        split
        · exact ⟨_, rfl⟩
        · rename_i hc
          have hc : t.2.1 = 0 := by simpa using hc
          have hl := elX_len a T most hT g false l p stop (op + 1) (3 * p - l.length) t ht h0 h1 hc (by simp; omega)
          exact ih2 _ _ _ _ (by have := hl.2.2.1 rfl; omega) hl.2.2.2 (by have := hl.2.2.1 rfl; omega)
      · exact ⟨_, rfl⟩
/-- The reference's answer for a whole text. -/
def refW (a : ByteArray) (r : List Ev × Int × Int) : List Ev × Int × Int := if r.2.1 = 0 ∧ r.2.2 < (a.size : Int) then (r.1, 6, r.2.2) else r
theorem whole_ref (mo : Nat) (a : ByteArray) (g : Nat) (r : List Ev × Int × Int) (h : elX a (Tst a) (mo : Int) g false [] 0 (-1) 0 = some r) : wholeM mo (bytesOf a) = refW a r := by
  have hr := (el_run mo a g).1 [] 0 (-1) 0 r [] false h (Int.le_refl _) (by omega) (.inl ⟨rfl, rfl, rfl⟩) (by simp) (fun _ => rfl)
  have hm : Mst [] 0 false = init0 := rfl
  rw [hm, show ((0 : Int)).toNat = 0 from rfl, List.drop_zero] at hr
  unfold wholeM refW
  by_cases h0 : r.2.1 = 0
  · obtain ⟨e1, e2, _, e3⟩ := hr.2 h0
    rw [e3]
    unfold goOn
    simp only [dc, exits, List.append_nil]
    have hdn : done (Mst [] r.2.2 true) = true := rfl
    by_cases h1 : r.2.2 < (a.size : Int)
    · rw [if_pos ⟨h0, h1⟩, drop_next a r.2.2 (by omega) h1, run_more mo _ hdn rfl]
    · rw [if_neg (fun h => h1 h.2), Bs.drop_end a r.2.2 (by omega)]
      simp only [runM, hdn, if_true]
      obtain ⟨r1, r2, r3⟩ := r
      simp only at h0 ⊢
      rw [h0]
  · rw [hr.1 h0, if_neg (fun h => h0 h.1)]
theorem start_l0 (a : ByteArray) (hs : a.size ≤ 281474976710000) (p en : Int) (hp0 : 0 ≤ p) (hp1 : p ≤ a.size) : ∀ (d k : Nat) (i : Int) (came : List Int), i + (d : Int) = a.size → p ≤ i → came = ((bytesOf a).drop p.toNat).take (i - p).toNat → 2 * a.size + 20 + d < k →
    gantletref09_start.l0 k a p en i = some ((stG came ((bytesOf a).drop i.toNat) i (en - i)).1.f0, (stG came ((bytesOf a).drop i.toNat) i (en - i)).1.f1, (stG came ((bytesOf a).drop i.toNat) i (en - i)).1.f2, (stG came ((bytesOf a).drop i.toNat) i (en - i)).1.f3, (stG came ((bytesOf a).drop i.toNat) i (en - i)).2.1, (stG came ((bytesOf a).drop i.toNat) i (en - i)).2.2)
  | d, 0, i, came, hd, hpi, hc, hk => absurd hk (by omega)
  | 0, k + 1, i, came, hd, hpi, hc, hk => by
    simp only [gantletref09_start.l0]
    rw [if_neg (by omega), Bs.drop_end a i (by omega)]
    simp only [stG, h0]
    rw [show i = (a.size : Int) by omega]
  | d + 1, k + 1, i, came, hd, hpi, hc, hk => by
    have hi : i < a.size := by omega
    have hdr := drop_next a i (by omega) hi
    have ew : wrap64 (i + 1) = i + 1 := Bs.w64 (by omega) (by omega)
    have hcl : came.length = (i - p).toNat := by rw [hc, List.length_take, List.length_drop, bytesOf_length]; omega
    have hnx : ((bytesOf a).drop p.toNat).take (i + 1 - p).toNat = came ++ [bt a i] := by
      rw [show (i + 1 - p).toNat = (i - p).toNat + 1 by omega, List.take_add_one, ← hc]
      have : ((bytesOf a).drop p.toNat)[(i - p).toNat]? = some (bt a i) := by
        rw [List.getElem?_drop, show p.toNat + (i - p).toNat = i.toNat by omega, ← List.head?_drop, hdr]; rfl
      rw [this]; rfl
    rw [hdr]
    simp only [gantletref09_start.l0]
    rw [if_pos hi]
    by_cases he : i = en
    · rw [if_pos he]
      simp only [stG]
      rw [if_pos (by omega)]
      rfl
    rw [if_neg he, ew, if_pos (by omega), if_pos (by omega)]
    have hsz : (a.extract 0 (i + 1).toNat).size = (i + 1).toNat := by rw [ByteArray.size_extract]; omega
    rw [BHd.rhget_ok (a.extract 0 (i + 1).toNat) (by omega) p hp0 (by omega) k (by omega), Option.bind_some]
    have eb : (bytesOf (a.extract 0 (i + 1).toNat)).drop p.toNat = came ++ [bt a i] := by
      rw [Bs.bytesOf_front, ← hnx, List.drop_take]
      congr 1; omega
    rw [eb]
    have heg : (BHd.gotH p (Hdm.hg (came ++ [bt a i]))).2.2.2.2.2 = er (came ++ [bt a i]) := rfl
    rw [heg]
    by_cases h1 : er (came ++ [bt a i]) = 0
    · rw [if_pos h1]
      have e : stG came (bt a i :: (bytesOf a).drop (i + 1).toNat) i (en - i) = (_root_.Go.Proofs.Ytomaajagncjiiaa.PC.hd (came ++ [bt a i]), i, 0) := by simp only [stG]; rw [if_neg (by omega), if_pos h1]
      rw [e]; rfl
    · rw [if_neg h1]
      by_cases h2 : er (came ++ [bt a i]) = 2
      · rw [if_pos h2]
        have e : stG came (bt a i :: (bytesOf a).drop (i + 1).toNat) i (en - i) = stG (came ++ [bt a i]) ((bytesOf a).drop (i + 1).toNat) (i + 1) (en - (i + 1)) := by
          simp only [stG]; rw [if_neg (by omega), if_neg h1, if_pos h2, show en - i - 1 = en - (i + 1) by omega]
        rw [e]
        exact start_l0 a hs p en hp0 hp1 d k (i + 1) (came ++ [bt a i]) (by omega) (by omega) hnx.symm (by omega)
      · rw [if_neg h2]
        have e : stG came (bt a i :: (bytesOf a).drop (i + 1).toNat) i (en - i) = (_root_.Go.Proofs.Ytomaajagncjiiaa.PC.h0, i, er (came ++ [bt a i])) := by simp only [stG]; rw [if_neg (by omega), if_neg h1, if_neg h2]
        rw [e]; rfl
theorem start_ok (a : ByteArray) (hs : a.size ≤ 700) (p en : Int) (hp0 : 0 ≤ p) (hp1 : p ≤ a.size) : gantletref09_start.f 3000 a p en = some ((Tst a p en).1.f0, (Tst a p en).1.f1, (Tst a p en).1.f2, (Tst a p en).1.f3, (Tst a p en).2.1, (Tst a p en).2.2) := by
  unfold gantletref09_start.f Tst
  exact start_l0 a (by omega) p en hp0 hp1 (a.size - p.toNat) 3000 p [] (by omega) (Int.le_refl _) (by rw [show p - p = 0 by omega]; rfl) (by omega)
end Go.Proofs.Ytomaajagncjiiaa.PC
