/- The plain law of WhenPuts: a text has the content that the document says, or none; a content is the date that it says, or none. -/
import Derived.Test.YtailnnjkbiihmaaFDat
import Derived.Test.YtailnnjkbiihmaaPAx7
namespace Go.Proofs.Ytailnnjkbiihmaa.Pure
open Go.RowKit Go.Proofs.Ytailnnjkbiihmaa.PA Go.Proofs.YtailnnjkbiihmaaW.PrintWords Go.Proofs.YtailnnjkbiihmaaW.PrintLast Go.Proofs.YtailnnjkbiihmaaW.PrintMore
open Go.Proofs.Ytailnnjkbiihmaa.Bs Go.Proofs.Ytailnnjkbiihmaa.BDat Go.Proofs.Ytailnnjkbiihmaa.Dt
set_option linter.unusedVariables false

open Classical in
/-- What the second content comes to. -/
theorem puts_j2 (k : Nat) (hk : 50 ≤ k) (a : ByteArray) (t1 : Int) (c1 : ByteArray) (o1 : Bool) (tag : Int) (c : ByteArray) (hj : ∀ m, 5 ≤ m → gantletlaw13_WhenPuts.j3 m a t1 c1 o1 false = some true) :
    ((when_Get.f (k + 1) tag c).bind fun g => ((gantletref13_Right.f k tag c).bind fun t => gantletlaw13_WhenPuts.j2 k a tag c t1 c1 o1 g.1 g.2 (g.2 != t))) = some true := by
  obtain ⟨k, rfl⟩ : ∃ m, k = m + 2 := ⟨k - 2, by omega⟩
  rw [right_eq (k + 2) (by omega)]
  rcases get_cases (k + 3) (by omega) tag c with ⟨u, p, hc, e⟩ | ⟨hn, e⟩
  · rw [e]
    simp only [Option.bind_some]
    rw [decide_eq_true (p := ∃ u p, Con tag (bytesOf c) u p) ⟨u, p, hc⟩]
    rw [gantletlaw13_WhenPuts.j2, if_neg (by decide), if_pos rfl]
    obtain ⟨h1, h2, h3, h4⟩ := hc
    have hsz : (c.size : Int) = lenOf u := by rw [bytesOf_size, h1, List.length_append]; simp; omega
    have hp : (bytesOf c).take (c.size - 1) = p := by
      have : c.size - 1 = p.length := by omega
      rw [this, h1]; exact List.take_left
    subst h3
    rw [full_ref u c hsz, hp]
    simp only [Option.bind_some, if_true]
    exact hj _ (by omega)
  · rw [e]
    simp only [Option.bind_some]
    rw [decide_eq_false (p := ∃ u p, Con tag (bytesOf c) u p) (fun ⟨u, p, hc⟩ => hn u p hc)]
    rw [gantletlaw13_WhenPuts.j2, if_neg (by decide), if_neg (by decide), show ((⟨#[]⟩ : ByteArray).toList != ([] : List UInt8)) = false by decide +kernel]
    exact hj _ (by omega)
theorem puts_put (k : Nat) (hk : 100 ≤ k) (a : ByteArray) (ha : a.size ≤ 100) : ∃ (t : Int) (c : ByteArray) (o : Bool), when_Put.f k a = some (t, c, o) ∧
    ((full (bytesOf a) ∧ 1950 ≤ yr (bytesOf a)) ↔ o = true) ∧ ∀ m, 5 ≤ m → gantletlaw13_WhenPuts.j3 m a t c o false = some true := by
  rcases put_cases k (by omega) a with ⟨u, c, p, e, hs, hc, hF, hq, hu⟩ | ⟨e, h1, h2⟩
  · have hl := F_all hc.2.1 hc.2.2.2
    have hd := F_digs (u := u) hc.2.1.1
    rw [hF] at hl hd
    have hf : full (bytesOf a) := (full_okc _ hl hd).2 (by rw [← hF]; exact hc.2.1.2.1)
    have hyr : (u = true ∧ 1950 ≤ yr (bytesOf a) ∧ yr (bytesOf a) < 2050) ∨ (u = false ∧ 2050 ≤ yr (bytesOf a)) := by
      rcases hu with ⟨rfl, hA, _⟩ | ⟨rfl, hA, rfl⟩
      · have := inA_year hA; exact .inl ⟨rfl, by omega, by omega⟩
      · exact .inr ⟨rfl, (inB_iff hl hd hc.2.1.2.1).1 hc.2.1⟩
    refine ⟨_, c, true, e, ⟨fun _ => rfl, fun _ => ⟨hf, by omega⟩⟩, ?_⟩
    intro m hm
    obtain ⟨m, rfl⟩ : ∃ q, m = q + 1 := ⟨m - 1, by omega⟩
    rw [gantletlaw13_WhenPuts.j3, if_neg (by decide), if_pos rfl, less_2050 a hd (by omega)]
    rcases hu with ⟨rfl, hA, hp⟩ | ⟨rfl, hA, hp⟩
    · have hy : yr (bytesOf a) < 2050 := by
        rcases hyr with ⟨_, _, h⟩ | ⟨h, _⟩
        · exact h
        · cases h
      rw [if_pos (by simpa using hy), if_pos (by decide), if_pos (by omega), if_pos (by rw [ByteArray.size_extract]; omega)]
      congr 1
      rw [beq_iff_eq, toList_iff, hq, hp, bytesOf_append, zed, bytesOf_part, List.take_of_length_le (by rw [List.length_drop, bytesOf_length]; omega)]
    · have hy : 2050 ≤ yr (bytesOf a) := by
        rcases hyr with ⟨h, _⟩ | ⟨_, h⟩
        · cases h
        · exact h
      rw [if_neg (by simpa using hy), if_pos (by decide), if_pos (by omega)]
      congr 1
      rw [beq_iff_eq, toList_iff, hq, hp, bytesOf_append, zed]
  · refine ⟨_, _, false, e, ⟨fun hh => ?_, fun hh => by cases hh⟩, ?_⟩
    · exfalso
      obtain ⟨hf, hy⟩ := hh
      have ho := (full_okc _ hf.1 hf.2.1).1 hf
      by_cases h50 : yr (bytesOf a) ≤ 2049
      · exact h1 (inA_of hf.1 hf.2.1 ho hy h50)
      · exact h2 ⟨hf.1, (inB_iff hf.1 hf.2.1 ho).2 (by omega)⟩
    · intro m hm
      obtain ⟨m, rfl⟩ : ∃ q, m = q + 1 := ⟨m - 1, by omega⟩
      rw [gantletlaw13_WhenPuts.j3, if_neg (by decide), if_neg (by decide), if_pos rfl]
      decide +kernel
open Classical in
theorem WhenPuts (a : ByteArray) (tag : Int) (c : ByteArray) (_ : a.size ≤ 140737488351232) (_ : (Lit.int .i64 tag).wf = true) (_ : c.size ≤ 140737488351232) : ∃ k, gantletlaw13_WhenPuts.f k a tag c = some true := by
  refine ⟨300, ?_⟩
  have aw : gantletlaw13_WhenPuts.j0 300 a tag c true = some true := by
    rw [gantletlaw13_WhenPuts.j0, if_pos rfl, awake_ok 299 (by decide)]; rfl
  unfold gantletlaw13_WhenPuts.f
  rw [awake_ok 300 (by decide)]
  simp only [Option.bind_some, if_true]
  by_cases h : (a.size : Int) > 100
  · rw [if_pos h, aw]
  rw [if_neg h]
  by_cases h2 : (c.size : Int) > 100
  · rw [show decide ((c.size : Int) > 100) = true by simpa using h2, aw]
  rw [show decide ((c.size : Int) > 100) = false by simpa using h2, gantletlaw13_WhenPuts.j0, if_neg (by decide)]
  obtain ⟨t1, c1, o1, e, hio, hj⟩ := puts_put 299 (by decide) a (by omega)
  rw [e]
  simp only [Option.bind_some]
  rw [date_eq 299 (by decide)]
  simp only [Option.bind_some]
  have hfin := puts_j2 298 (by decide) a t1 c1 o1 tag c hj
  have hwant : ∀ (x : ByteArray) (y : Bool), (if decide (full (bytesOf a)) = true then gantletlaw13_WhenPuts.j1 299 a tag c t1 c1 o1 x y (!(Op.bytesLess a.toList ([49, 57, 53, 48] : List UInt8))) else gantletlaw13_WhenPuts.j1 299 a tag c t1 c1 o1 x y false) = gantletlaw13_WhenPuts.j1 299 a tag c t1 c1 o1 x y o1 := by
    intro x y
    by_cases hf : full (bytesOf a)
    · rw [if_pos (by simpa using hf), less_1950 a hf.2.1 (by have := hf.1; rw [bytesOf_length] at this; omega)]
      congr 1
      rw [Bool.eq_iff_iff, ← hio]
      simp
      exact fun _ => hf
    · rw [if_neg (by simpa using hf)]
      congr 1
      rw [Bool.eq_iff_iff, ← hio]
      simp
      exact fun h => absurd h hf
  cases hg : when_Get.f 299 tag c with
  | none => rw [hg] at hfin; cases hfin
  | some g =>
    rw [hg] at hfin
    simp only [Option.bind_some] at hfin ⊢
    rw [hwant, gantletlaw13_WhenPuts.j1, if_neg (by simp)]
    exact hfin
end Go.Proofs.Ytailnnjkbiihmaa.Pure
