/- What the reference's functions of the dates' layer come to: contents. -/
import Derived.Test.YtailnnjkbiihmaaEDat
import Derived.Test.YtailnnjkbiihmaaPAx3
import Derived.Test.YtailnnjkbiihmaaPAx5
import Derived.Test.YtailnnjkbiihmaaPAx6
namespace Go.Proofs.Ytailnnjkbiihmaa.BDat
open Go.RowKit Go.Proofs.Ytailnnjkbiihmaa.PA Go.Proofs.YtailnnjkbiihmaaW.PrintWords Go.Proofs.YtailnnjkbiihmaaW.PrintLast Go.Proofs.YtailnnjkbiihmaaW.PrintMore
open Go.Proofs.Ytailnnjkbiihmaa.Bs
open Go.Proofs.Ytailnnjkbiihmaa.Dt
set_option linter.unusedVariables false

theorem cen_bytes (b : Int) : Bytes (cen b) := digs_bytes (cen_digs b)
theorem nums_take (s : ByteArray) (n : Nat) : strOfNums ((bytesOf s).take n) = s.extract 0 n := by
  rw [← bytesOf_front, nums_bytesOf]
theorem full_ref (u : Bool) (c : ByteArray) (h : (c.size : Int) = lenOf u) : gantletref13_Full.f (tagOf u) c = some (strOfNums (F u ((bytesOf c).take (c.size - 1)))) := by
  unfold gantletref13_Full.f
  cases u with
  | false =>
    have h15 : c.size = 15 := by simp [lenOf] at h; omega
    rw [if_pos (by decide), if_pos (by decide), if_pos (by omega), h15]
    show _ = some (strOfNums ((bytesOf c).take 14))
    rw [nums_take]
  | true =>
    have h13 : c.size = 13 := by simp [lenOf] at h; omega
    have hc : bytesOf c = bt c 0 :: (bytesOf c).drop 1 := by
      have := drop_at c 0 (by omega) (by omega)
      simpa using this
    have hF : F true ((bytesOf c).take 12) = cen (bt c 0) ++ (bytesOf c).take 12 := by
      rw [hc]; rfl
    have hB : Bytes ((bytesOf c).take 12) := fun x hx => bytes_of c x (List.mem_of_mem_take hx)
    rw [h13, show (13 : Nat) - 1 = 12 from rfl, hF, ← nums_append _ _ (cen_bytes _) hB, nums_take, cen_nums]
    have hz : (c.extract 0 12).size = 12 := by rw [ByteArray.size_extract]; omega
    rw [if_neg (by decide), if_pos (by omega)]
    by_cases hb : bt c 0 < 53
    · rw [if_pos hb, if_pos (by decide), if_pos (by decide), if_pos (by omega), if_neg (by omega)]
    · rw [if_neg hb, if_pos (by decide), if_pos (by decide), if_pos (by omega), if_pos (by omega)]
theorem full_F (u : Bool) (p : List Int) (hl : (p.length : Int) + 1 = lenOf u) : (full (F u p) ∧ (u = false → late p = true)) ↔ okp u p := by
  constructor
  · rintro ⟨h1, h2⟩
    have hd : Digs p := by
      have := h1.2.1
      cases u with
      | false => exact this
      | true =>
        cases p with
        | nil => intro x hx; simp at hx
        | cons a r => exact Digs.right (a := cen a) this
    exact ⟨hd, (full_okc _ h1.1 h1.2.1).1 h1, h2⟩
  · intro h
    exact ⟨(full_okc _ (F_all h hl) (F_digs h.1)).2 h.2.1, h.2.2⟩
theorem F_bytes {u : Bool} {p : List Int} (h : Bytes p) : Bytes (F u p) := by
  cases u with
  | false => exact h
  | true =>
    cases p with
    | nil => exact h
    | cons a r =>
      intro x hx
      rcases List.mem_append.1 hx with h1 | h1
      · exact cen_bytes a x h1
      · exact h x h1
theorem last_eq (c : ByteArray) (n : Nat) (h : c.size = n + 1) : bytesOf c = (bytesOf c).take n ++ [bt c (n : Int)] := by
  have := take_snoc c n (by omega)
  rwa [List.take_of_length_le (by rw [bytesOf_length]; omega)] at this
open Classical in
theorem right_eq (k : Nat) (hk : 30 ≤ k) (tag : Int) (c : ByteArray) : gantletref13_Right.f k tag c = some (decide (∃ u p, Con tag (bytesOf c) u p)) := by
  unfold gantletref13_Right.f
  have hcon : ∀ u : Bool, tag = tagOf u → (c.size : Int) = lenOf u → ((∃ v p, Con tag (bytesOf c) v p) ↔ bt c ((c.size - 1 : Nat) : Int) = 90 ∧ okp u ((bytesOf c).take (c.size - 1))) := by
    intro u ht hn
    have hN : 13 ≤ lenOf u := by cases u <;> decide
    have hl := last_eq c (c.size - 1) (by omega)
    constructor
    · rintro ⟨v, p, h1, h2, h3, h4⟩
      have : v = u := by rw [ht] at h3; revert h3; cases u <;> cases v <;> decide
      subst this
      rw [hl] at h1
      have hlen : ((bytesOf c).take (c.size - 1)).length = p.length := by rw [List.length_take, bytesOf_length]; omega
      obtain ⟨e1, e2⟩ := List.append_inj h1 hlen
      rw [e1]; simp at e2; exact ⟨e2, h2⟩
    · rintro ⟨h1, h2⟩
      refine ⟨u, _, ?_, h2, ht, ?_⟩
      · rw [h1] at hl; exact hl
      · rw [List.length_take, bytesOf_length]; omega
  have hno : (∀ u : Bool, ¬ (tag = tagOf u ∧ (c.size : Int) = lenOf u)) → ¬ ∃ v p, Con tag (bytesOf c) v p := by
    rintro hh ⟨v, p, h1, h2, h3, h4⟩
    exact hh v ⟨h3, by rw [bytesOf_size, h1, List.length_append]; simp; omega⟩
  have hB : ∀ n, Bytes ((bytesOf c).take n) := fun n x hx => bytes_of c x (List.mem_of_mem_take hx)
  have hdate : ∀ u : Bool, (c.size : Int) = lenOf u → (gantletref13_Full.f (tagOf u) c).bind (fun t => gantletref13_Date.f k t) = some (decide (full (F u ((bytesOf c).take (c.size - 1))))) := by
    intro u hn
    rw [full_ref u c hn]
    simp only [Option.bind_some]
    rw [date_eq k hk, bytesOf_nums _ (F_bytes (hB _))]
  by_cases h23 : tag = 23
  · subst h23
    rw [if_pos rfl]
    by_cases h13 : c.size = 13
    · have hc := hcon true rfl (by rw [h13]; rfl)
      rw [if_pos (by omega), if_pos (by omega)]
      rw [h13] at hc
      simp only [show ((13 - 1 : Nat) : Int) = 12 from rfl] at hc
      by_cases hz : bt c 12 = 90
      · rw [if_pos hz]
        have hd := hdate true (by rw [h13]; rfl)
        rw [full_ref true c (by rw [h13]; rfl)] at hd
        simp only [Option.bind_some] at hd
        rw [show (23 : Int) = tagOf true from rfl, full_ref true c (by rw [h13]; rfl)]
        simp only [Option.bind_some]
        rw [hd]
        simp only [Option.bind_some]
        congr 1
        rw [decide_eq_decide, show tagOf true = 23 from rfl, hc, h13]
        have := full_F true ((bytesOf c).take 12) (by rw [List.length_take, bytesOf_length, h13]; rfl)
        rw [← this]
        exact ⟨fun h => ⟨hz, h, fun h => by cases h⟩, fun h => h.2.1⟩
      · rw [if_neg hz]
        congr 1; symm
        rw [decide_eq_false_iff_not, hc]
        exact fun h => hz h.1
    · rw [if_neg (by omega)]
      congr 1; symm
      rw [decide_eq_false_iff_not]
      refine hno ?_
      intro u hu
      cases u with
      | true => have := hu.2; simp [lenOf] at this; omega
      | false => have := hu.1; simp [tagOf] at this
  rw [if_neg h23]
  by_cases h24 : tag = 24
  · subst h24
    rw [if_pos rfl]
    by_cases h15 : c.size = 15
    · have hc := hcon false rfl (by rw [h15]; rfl)
      rw [if_pos (by omega), if_pos (by omega)]
      rw [h15] at hc
      simp only [show ((15 - 1 : Nat) : Int) = 14 from rfl, show (15 - 1 : Nat) = 14 from rfl] at hc
      by_cases hz : bt c 14 = 90
      · rw [if_pos hz]
        have hd := hdate false (by rw [h15]; rfl)
        rw [full_ref false c (by rw [h15]; rfl)] at hd
        simp only [Option.bind_some] at hd
        rw [show (24 : Int) = tagOf false from rfl, full_ref false c (by rw [h15]; rfl)]
        simp only [Option.bind_some]
        rw [hd]
        simp only [Option.bind_some]
        rw [h15, show F false ((bytesOf c).take (15 - 1)) = (bytesOf c).take 14 from rfl]
        have hok := full_F false ((bytesOf c).take 14) (by rw [List.length_take, bytesOf_length, h15]; rfl)
        have hok' : okp false ((bytesOf c).take 14) ↔ full ((bytesOf c).take 14) ∧ late ((bytesOf c).take 14) = true := by
          rw [← hok]
          exact ⟨fun h => ⟨h.1, h.2 rfl⟩, fun h => ⟨h.1, fun _ => h.2⟩⟩
        by_cases hf : full ((bytesOf c).take 14)
        · rw [if_pos (by simpa using hf), if_pos (by decide), if_pos (by omega), less_2050 _ (by rw [bytesOf_front]; rw [show (bytesOf c).take 4 = ((bytesOf c).take 14).take 4 by rw [List.take_take]; rfl]; exact hf.2.1.take 4) (by rw [ByteArray.size_extract]; omega), bytesOf_front]
          congr 1
          rw [Bool.eq_iff_iff, show tagOf false = 24 from rfl, decide_eq_true_iff, hc, hok']
          have hy : yr ((bytesOf c).take 4) = yr (bytesOf c) := yr_take _ _ (by omega)
          have hy2 : yr ((bytesOf c).take 14) = yr (bytesOf c) := yr_take _ _ (by omega)
          unfold late
          rw [pad_full _ (by rw [hf.1]; omega), hy, hy2]
          simp only [Bool.not_eq_true', decide_eq_false_iff_not, decide_eq_true_eq]
          constructor
          · intro h; exact ⟨hz, hf, by omega⟩
          · intro h; omega
        · rw [if_neg (by simpa using hf)]
          congr 1; symm
          rw [decide_eq_false_iff_not, show tagOf false = 24 from rfl, hc, hok']
          exact fun h => hf h.2.1
      · rw [if_neg hz]
        congr 1; symm
        rw [decide_eq_false_iff_not, hc]
        exact fun h => hz h.1
    · rw [if_neg (by omega)]
      congr 1; symm
      rw [decide_eq_false_iff_not]
      refine hno ?_
      intro u hu
      cases u with
      | false => have := hu.2; simp [lenOf] at this; omega
      | true => have := hu.1; simp [tagOf] at this
  · rw [if_neg h24]
    congr 1; symm
    rw [decide_eq_false_iff_not]
    refine hno ?_
    intro u hu
    cases u with
    | false => exact h24 hu.1
    | true => exact h23 hu.1
end Go.Proofs.Ytailnnjkbiihmaa.BDat
