/- What the row of ValuePushes stands on, made small by a program of this session (pack.py). -/
import Derived.Test.YtpfconocipmcjaaCValuePushes2
import Derived.Test.YtpfconocipmcjaaCValuePushes21
import Derived.Test.YtpfconocipmcjaaCValuePushes23
import Derived.Test.YtpfconocipmcjaaCValuePushes24
import Derived.Test.YtpfconocipmcjaaCValuePushes25
namespace Go.Proofs.Ytpfconocipmcjaa.BDat
open RowKit PC YtpfconocipmcjaaW.PrintWords YtpfconocipmcjaaW.PrintLast YtpfconocipmcjaaW.PrintMore
open Bs
open Dt
set_option linter.unusedVariables false
theorem cen_bytes (b : Int) : Bytes (cen b) := digs_bytes (cen_digs b)
theorem nums_take (s : ByteArray) (n : Nat) : strOfNums ((bytesOf s).take n) = s.extract 0 n := by
 rw [← bytesOf_front, nums_bytesOf]
theorem full_ref (u : Bool) (c : ByteArray) (h : (c.size : Int) = lenOf u) : gantletref13_Full.f (tagOf u) c = some (strOfNums (F u ((bytesOf c).take (c.size - 1)))) := by
 unfold gantletref13_Full.f
 cases u with
 | false =>
   have h15 : c.size = 15 := by simp [lenOf] at h; omega
   rw [if_pos zz13, if_pos zz13, if_pos zz3, h15]
   show _ = some (strOfNums ((bytesOf c).take 14))
   rw [nums_take]
 | true =>
   have h13 : c.size = 13 := by simp [lenOf] at h; omega
   have hc : bytesOf c = bt c 0 :: (bytesOf c).drop 1 := by
    have := drop_at c 0 zz3 zz3
    simpa using this
   have hF : F true ((bytesOf c).take 12) = cen (bt c 0) ++ (bytesOf c).take 12 := by
    rw [hc]; rfl
   have hB : Bytes ((bytesOf c).take 12) := fun x hx => bytes_of c x (List.mem_of_mem_take hx)
   rw [h13, show (13 : Nat) - 1 = 12 from rfl, hF, ← nums_append _ _ (cen_bytes _) hB, nums_take, cen_nums]
   have hz : (c.extract 0 12).size = 12 := by rw [ByteArray.size_extract]; omega
   rw [if_neg zz13, if_pos zz3]
   by_cases hb : bt c 0 < 53
   ·
    rw [if_pos hb, if_pos zz13, if_pos zz13, if_pos zz3, if_neg zz3]
   ·
    rw [if_neg hb, if_pos zz13, if_pos zz13, if_pos zz3, if_pos zz3]
theorem full_F (u : Bool) (p : List Int) (hl : (p.length : Int) + 1 = lenOf u) : (full (F u p) ∧ (u = false → late p = true)) ↔ okp u p := by
 constructor
 ·
  rintro ⟨h1, h2⟩
  have hd : Digs p := by
   have := h1.2.1
   cases u with
   | false => exact this
   | true =>
     cases p with
     | nil => intro x hx; simp at hx
     | cons a r => exact Digs.right (a := cen a) this
  exact ⟨hd, (full_okc _ h1.1 h1.2.1).1 h1, h2⟩
 ·
  intro h
  exact ⟨(full_okc _ (F_all h hl) (F_digs h.1)).2 h.2.1, h.2.2⟩
theorem F_bytes {u : Bool} {p : List Int} (h : Bytes p) : Bytes (F u p) := by
 cases u with
 | false => exact h
 | true =>
   cases p with
   | nil => exact h
   | cons a r =>
     intro x hx
     rcases List.mem_append.1 hx with h1 | h1
     ·
      exact cen_bytes a x h1
     ·
      exact h x h1
theorem last_eq (c : ByteArray) (n : Nat) (h : c.size = n + 1) : bytesOf c = (bytesOf c).take n ++ [bt c (n : Int)] := by
 have := take_snoc c n zz3
 rwa [List.take_of_length_le zz46] at this
open Classical in
theorem right_eq (k : Nat) (hk : 30 ≤ k) (tag : Int) (c : ByteArray) : gantletref13_Right.f k tag c = some (decide (∃ u p, Con tag (bytesOf c) u p)) := by
 unfold gantletref13_Right.f
 have hcon : ∀ u : Bool, tag = tagOf u → (c.size : Int) = lenOf u → ((∃ v p, Con tag (bytesOf c) v p) ↔ bt c ((c.size - 1 : Nat) : Int) = 90 ∧ okp u ((bytesOf c).take (c.size - 1))) := by
  intro u ht hn
  have hN : 13 ≤ lenOf u := by cases u <;> decide
  have hl := last_eq c (c.size - 1) zz3
  constructor
  ·
   rintro ⟨v, p, h1, h2, h3, h4⟩
   have : v = u := by rw [ht] at h3; revert h3; cases u <;> cases v <;> decide
   subst this
   rw [hl] at h1
   have hlen : ((bytesOf c).take (c.size - 1)).length = p.length := by rw [List.length_take, bytesOf_length]; omega
   obtain ⟨e1, e2⟩ := List.append_inj h1 hlen
   rw [e1]; simp at e2; exact ⟨e2, h2⟩
  ·
   rintro ⟨h1, h2⟩
   refine ⟨u, _, ?_, h2, ht, ?_⟩
   ·
    rw [h1] at hl; exact hl
   ·
    rw [List.length_take, bytesOf_length]; omega
 have hno : (∀ u : Bool, ¬ (tag = tagOf u ∧ (c.size : Int) = lenOf u)) → ¬ ∃ v p, Con tag (bytesOf c) v p := by
  rintro hh ⟨v, p, h1, h2, h3, h4⟩
  exact hh v ⟨h3, by rw [bytesOf_size, h1, List.length_append]; simp; omega⟩
 have hB : ∀ n, Bytes ((bytesOf c).take n) := fun n x hx => bytes_of c x (List.mem_of_mem_take hx)
 have hdate : ∀ u : Bool, (c.size : Int) = lenOf u → (gantletref13_Full.f (tagOf u) c).bind (fun t => gantletref13_Date.f k t) = some (decide (full (F u ((bytesOf c).take (c.size - 1))))) := by
  intro u hn
  rw [full_ref u c hn]
  simp only [Option.bind_some]
  rw [date_eq k hk, bytesOf_nums _ (F_bytes (hB _))]
 by_cases h23 : tag = 23
 ·
  subst h23
  rw [if_pos rfl]
  by_cases h13 : c.size = 13
  ·
   have hc := hcon true rfl (by rw [h13]; rfl)
   rw [if_pos zz3, if_pos zz3]
   rw [h13] at hc
   simp only [show ((13 - 1 : Nat) : Int) = 12 from rfl] at hc
   by_cases hz : bt c 12 = 90
   ·
    rw [if_pos hz]
    have hd := hdate true (by rw [h13]; rfl)
    rw [full_ref true c (by rw [h13]; rfl)] at hd
    simp only [Option.bind_some] at hd
    rw [show (23 : Int) = tagOf true from rfl, full_ref true c (by rw [h13]; rfl)]
    simp only [Option.bind_some]
    rw [hd]
    simp only [Option.bind_some]
    congr 1
    rw [decide_eq_decide, show tagOf true = 23 from rfl, hc, h13]
    have := full_F true ((bytesOf c).take 12) (by rw [List.length_take, bytesOf_length, h13]; rfl)
    rw [← this]
    exact ⟨fun h => ⟨hz, h, fun h => by cases h⟩, fun h => h.2.1⟩
   ·
    rw [if_neg hz]
    congr 1; symm
    rw [decide_eq_false_iff_not, hc]
    exact fun h => hz h.1
  ·
   rw [if_neg zz3]
   congr 1; symm
   rw [decide_eq_false_iff_not]
   refine hno ?_
   intro u hu
   cases u with
   | true => have := hu.2; simp [lenOf] at this; omega
   | false => have := hu.1; simp [tagOf] at this
 rw [if_neg h23]
 by_cases h24 : tag = 24
 ·
  subst h24
  rw [if_pos rfl]
  by_cases h15 : c.size = 15
  ·
   have hc := hcon false rfl (by rw [h15]; rfl)
   rw [if_pos zz3, if_pos zz3]
   rw [h15] at hc
   simp only [show ((15 - 1 : Nat) : Int) = 14 from rfl, show (15 - 1 : Nat) = 14 from rfl] at hc
   by_cases hz : bt c 14 = 90
   ·
    rw [if_pos hz]
    have hd := hdate false (by rw [h15]; rfl)
    rw [full_ref false c (by rw [h15]; rfl)] at hd
    simp only [Option.bind_some] at hd
    rw [show (24 : Int) = tagOf false from rfl, full_ref false c (by rw [h15]; rfl)]
    simp only [Option.bind_some]
    rw [hd]
    simp only [Option.bind_some]
    rw [h15, show F false ((bytesOf c).take (15 - 1)) = (bytesOf c).take 14 from rfl]
    have hok := full_F false ((bytesOf c).take 14) (by rw [List.length_take, bytesOf_length, h15]; rfl)
    have hok' : okp false ((bytesOf c).take 14) ↔ full ((bytesOf c).take 14) ∧ late ((bytesOf c).take 14) = true := by
     rw [← hok]
     exact ⟨fun h => ⟨h.1, h.2 rfl⟩, fun h => ⟨h.1, fun _ => h.2⟩⟩
    by_cases hf : full ((bytesOf c).take 14)
    ·
     rw [if_pos (by simpa using hf), if_pos zz13, if_pos zz3, less_2050 _ (by rw [bytesOf_front]; rw [show (bytesOf c).take 4 = ((bytesOf c).take 14).take 4 by rw [List.take_take]; rfl]; exact hf.2.1.take 4) (by rw [ByteArray.size_extract]; omega), bytesOf_front]
     congr 1
     rw [Bool.eq_iff_iff, show tagOf false = 24 from rfl, decide_eq_true_iff, hc, hok']
     have hy : yr ((bytesOf c).take 4) = yr (bytesOf c) := yr_take _ _ zz3
     have hy2 : yr ((bytesOf c).take 14) = yr (bytesOf c) := yr_take _ _ zz3
     unfold late
     rw [pad_full _ (by rw [hf.1]; omega), hy, hy2]
     simp only [Bool.not_eq_true', decide_eq_false_iff_not, decide_eq_true_eq]
     constructor
     ·
      intro h; exact ⟨hz, hf, zz3⟩
     ·
      intro h; omega
    ·
     rw [if_neg (by simpa using hf)]
     congr 1; symm
     rw [decide_eq_false_iff_not, show tagOf false = 24 from rfl, hc, hok']
     exact fun h => hf h.2.1
   ·
    rw [if_neg hz]
    congr 1; symm
    rw [decide_eq_false_iff_not, hc]
    exact fun h => hz h.1
  ·
   rw [if_neg zz3]
   congr 1; symm
   rw [decide_eq_false_iff_not]
   refine hno ?_
   intro u hu
   cases u with
   | false => have := hu.2; simp [lenOf] at this; omega
   | true => have := hu.1; simp [tagOf] at this
 ·
  rw [if_neg h24]
  congr 1; symm
  rw [decide_eq_false_iff_not]
  refine hno ?_
  intro u hu
  cases u with
  | false => exact h24 hu.1
  | true => exact h23 hu.1
end Go.Proofs.Ytpfconocipmcjaa.BDat
namespace Go.Proofs.Ytpfconocipmcjaa.BDat
open RowKit PC YtpfconocipmcjaaW.PrintWords YtpfconocipmcjaaW.PrintLast YtpfconocipmcjaaW.PrintMore
open Bs
open Dt
set_option linter.unusedVariables false
instance (b : Int) : Decidable (Dig b) := by unfold Dig; infer_instance
instance (l : List Int) : Decidable (Digs l) := by unfold Digs; infer_instance
theorem plain_l0 (s : ByteArray) (hs : s.size ≤ 100) : ∀ (d k i : Nat), i + d = s.size → d + 1 ≤ k → gantletref13_plain.l0 k s (i : Int) = some (decide (Digs ((bytesOf s).drop i))) := by
 intro d
 induction d with
 | zero =>
   intro k i hi hk
   obtain ⟨k, rfl⟩ : ∃ m, k = m + 1 := ⟨k - 1, zz3⟩
   rw [gantletref13_plain.l0, if_neg zz3, List.drop_of_length_le zz46]
   rfl
 | succ d ih =>
   intro k i hi hk
   obtain ⟨k, rfl⟩ : ∃ m, k = m + 1 := ⟨k - 1, zz3⟩
   have hd := drop_at s (i : Int) zz3 zz3
   rw [Int.toNat_natCast, show ((i : Int) + 1).toNat = i + 1 by omega] at hd
   rw [gantletref13_plain.l0, if_pos zz3, if_pos zz3, w64 zz3 zz3, show ((i : Int) + 1) = ((i + 1 : Nat) : Int) by omega, ih k (i + 1) zz3 zz3, hd]
   by_cases h1 : bt s (i : Int) < 48
   ·
    rw [if_pos h1]
    congr 1; symm
    rw [decide_eq_false_iff_not]
    intro h
    have := h (bt s (i : Int)) zz29
    unfold Dig at this; omega
   rw [if_neg h1]
   by_cases h2 : bt s (i : Int) > 57
   ·
    rw [if_pos h2]
    congr 1; symm
    rw [decide_eq_false_iff_not]
    intro h
    have := h (bt s (i : Int)) zz29
    unfold Dig at this; omega
   ·
    rw [if_neg h2]
    congr 1
    rw [decide_eq_decide]
    constructor
    ·
     intro h x hx
     rcases List.mem_cons.1 hx with rfl | hx
     ·
      unfold Dig; omega
     ·
      exact h x hx
    ·
     intro h x hx; exact h x (List.mem_cons_of_mem _ hx)
theorem plain_eq (s : ByteArray) (hs : s.size ≤ 100) (k : Nat) (hk : 101 ≤ k) : gantletref13_plain.f k s = some (decide (Digs (bytesOf s))) := by
 have := plain_l0 s hs s.size k 0 zz3 zz3
 rwa [List.drop_zero] at this
theorem year_l0 : ∀ (d k : Nat) (s : ByteArray), s.size + d = 4 → Digs (bytesOf s) → gantletref13_year.l0 (k + d + 1) s = some (late (bytesOf s)) := by
 intro d
 induction d with
 | zero =>
   intro k s hd h
   rw [gantletref13_year.l0, if_neg zz3, less_2050 s h zz3]
   unfold late
   rw [pad_full _ zz46]
   congr 1
   rw [Bool.eq_iff_iff]; simp
 | succ d ih =>
   intro k s hd h
   rw [show k + (d + 1) + 1 = (k + d + 1) + 1 by omega, gantletref13_year.l0, if_pos zz3, if_pos zz3, ih k _ (by rw [ByteArray.size_append]; show s.size + 1 + d = 4; omega) (by rw [bytesOf_append, nine]; exact h.append (fun x hx => by simp at hx; unfold Dig; omega))]
   unfold late
   rw [bytesOf_append, nine, pad_nine _ zz46]
theorem year_ref (s : ByteArray) (hs : s.size ≤ 4) (h : Digs (bytesOf s)) (k : Nat) (hk : 5 ≤ k) : gantletref13_year.f k s = some (late (bytesOf s)) := by
 have := year_l0 (4 - s.size) (k - 5 + s.size) s zz3 h
 rwa [show k - 5 + s.size + (4 - s.size) + 1 = k by omega] at this
theorem zeros : bytesOf (⟨#[48, 48]⟩ : ByteArray) = [48, 48] := by decide
open Classical in
theorem right_ref (u : Bool) (k : Nat) (hk : 30 ≤ k) (s : ByteArray) (h : (s.size : Int) + 1 = lenOf u) : gantletref13_Right.f k (tagOf u) (s ++ (⟨#[90]⟩ : ByteArray)) = some (decide (okp u (bytesOf s))) := by
 rw [right_eq k hk]
 congr 1
 rw [decide_eq_decide, bytesOf_append, zed]
 constructor
 ·
  rintro ⟨v, p, h1, h2, h3, _⟩
  have : v = u := by revert h3; cases u <;> cases v <;> decide
  subst this
  rw [List.append_cancel_right h1]; exact h2
 ·
  intro ho
  exact ⟨u, _, rfl, ho, rfl, by rw [bytesOf_length]; exact h⟩
open Classical in
theorem grow_eq (u : Bool) : ∀ (d k : Nat) (s : ByteArray), (s.size : Int) + d + 1 = lenOf u → d ≤ 9 → 20 * d + 60 ≤ k → gantletref13_grow.f k (tagOf u) (lenOf u) s = some (decide (okp u (bytesOf s))) := by
 have hN : lenOf u = 13 ∨ lenOf u = 15 := by cases u <;> decide
 intro d
 induction d using Nat.strongRecOn with
 | ind d ih =>
 intro k s hd h9 hk
 obtain ⟨k, rfl⟩ : ∃ m, k = m + 1 := ⟨k - 1, zz3⟩
 have hFl : okp u (bytesOf s) → (F u (bytesOf s)).length + d = 14 := by
  intro ho
  rw [F_len, bytesOf_length]
  cases u with
  | true =>
    have h13 : lenOf true = 13 := rfl
    rw [if_pos ⟨rfl, by intro h0; have := bytesOf_size s; rw [h0] at this; simp only [List.length_nil] at this; omega⟩]; omega
  | false =>
    have h15 : lenOf false = 15 := rfl
    rw [if_neg zz29]; omega
 rw [gantletref13_grow.f, if_neg zz3, w64 (x := lenOf u - 1) zz3 zz3, w64 (x := lenOf u - 7) zz3 zz3, w64 (x := lenOf u - (s.size : Int)) zz3 zz3]
 by_cases h0 : d = 0
 ·
  subst h0
  rw [if_pos zz3, if_pos zz3, right_ref u k zz3 s zz3]; rfl
 rw [if_neg zz3]
 obtain ⟨k, rfl⟩ : ∃ m, k = m + 1 := ⟨k - 1, zz3⟩
 have hdig : ∀ e : Nat, e < 10 → wrap64 (48 + (e : Int)) % 256 = 48 + (e : Int) := by
  intro e he
  rw [w64 zz3 zz3, Int.emod_eq_of_lt zz3 zz3]
 have hsnoc : ∀ e : Nat, e < 10 → bytesOf (s ++ strOfNums [48 + (e : Int)]) = bytesOf s ++ [48 + (e : Int)] := by
  intro e he
  rw [bytesOf_append, bytesOf_nums _ (fun x hx => by simp at hx; omega)]
 have hloop : ∀ (r m e : Nat), e + r = 10 → r + 20 * (d - 1) + 61 ≤ m → gantletref13_grow.l0 m (tagOf u) (lenOf u) s (e : Int) = some (decide (∃ x : Nat, e ≤ x ∧ x < 10 ∧ okp u (bytesOf s ++ [48 + (x : Int)]))) := by
  intro r
  induction r with
  | zero =>
    intro m e he hm
    obtain ⟨m, rfl⟩ : ∃ q, m = q + 1 := ⟨m - 1, zz3⟩
    rw [gantletref13_grow.l0, if_neg zz3]
    congr 1; symm
    rw [decide_eq_false_iff_not]
    rintro ⟨x, h1, h2, _⟩; omega
  | succ r ihr =>
    intro m e he hm
    obtain ⟨m, rfl⟩ : ∃ q, m = q + 1 := ⟨m - 1, zz3⟩
    have hz : (strOfNums [48 + (e : Int)]).size = 1 := strOfNums_size _
    rw [gantletref13_grow.l0, if_pos zz3, hdig e zz3]
    simp only [Option.bind_some]
    rw [if_pos zz3, ih (d - 1) zz3 m (s ++ strOfNums [48 + (e : Int)]) (by rw [ByteArray.size_append, hz]; omega) zz3 zz3, hsnoc e zz3]
    simp only [Option.bind_some]
    by_cases ho : okp u (bytesOf s ++ [48 + (e : Int)])
    ·
     rw [if_pos (by simpa using ho)]
     congr 1; symm
     rw [decide_eq_true_iff]
     exact ⟨e, Nat.le_refl _, zz3, ho⟩
    ·
     rw [if_neg (by simpa using ho), w64 zz3 zz3, show ((e : Int) + 1) = ((e + 1 : Nat) : Int) by omega, ihr m (e + 1) zz3 zz3]
     congr 1
     rw [decide_eq_decide]
     constructor
     ·
      rintro ⟨x, h1, h2, h3⟩; exact ⟨x, zz3, h2, h3⟩
     ·
      rintro ⟨x, h1, h2, h3⟩
      refine ⟨x, ?_, h2, h3⟩
      rcases (zz3 : x = e ∨ e + 1 ≤ x) with rfl | h4
      ·
       exact absurd h3 ho
      ·
       exact h4
 have hall : gantletref13_grow.l0 k (tagOf u) (lenOf u) s 0 = some (decide (okp u (bytesOf s))) := by
  have := hloop 10 k 0 zz3 zz3
  rw [show ((0 : Nat) : Int) = 0 from rfl] at this
  rw [this]
  congr 1
  rw [decide_eq_decide]
  constructor
  ·
   rintro ⟨x, _, _, h3⟩; exact okp_left h3
  ·
   intro ho
   have hl := hFl ho
   obtain ⟨b, hb, hok, _⟩ := okp_next ho zz3 zz3
   unfold Dig at hb
   refine ⟨(b - 48).toNat, zz3, zz3, ?_⟩
   rw [show 48 + (((b - 48).toNat : Nat) : Int) = b by omega]; exact hok
 by_cases h7 : (s.size : Int) ≥ lenOf u - 7
 ·
  rw [if_pos h7, gantletref13_grow.j0]
  have htm : Int.tmod (lenOf u - (s.size : Int)) 2 = (lenOf u - (s.size : Int)) % 2 := Int.tmod_eq_emod_of_nonneg zz3
  rw [htm]
  by_cases ho : (lenOf u - (s.size : Int)) % 2 = 1
  ·
   rw [if_pos (by simpa using ho), if_pos zz3, ih (d - 2) zz3 k (s ++ (⟨#[48, 48]⟩ : ByteArray)) (by rw [ByteArray.size_append]; show ((s.size + 2 : Nat) : Int) + ((d - 2 : Nat) : Int) + 1 = lenOf u; omega) zz3 zz3, bytesOf_append, zeros]
   simp only [Option.bind_some]
   congr 1
   rw [decide_eq_decide]
   constructor
   ·
    intro h; exact okp_left h
   ·
    intro ho2
    have hl := hFl ho2
    obtain ⟨b, _, hok, he, _⟩ := okp_next ho2 zz3 zz3
    have hb := he zz3
    subst hb
    have hl2 : (F u (bytesOf s ++ [48])).length = (F u (bytesOf s)).length + 1 := by
     rw [F_snoc]
     have : (F u (bytesOf s)).isEmpty = false := by
      cases hE : F u (bytesOf s) with
      | nil => rw [hE] at hl; simp only [List.length_nil] at hl; omega
      | cons a r => rfl
     rw [this]; simp
    obtain ⟨b, _, hok2, _, h8⟩ := okp_next hok zz3 zz3
    have hb := h8 zz3
    subst hb
    have := hok2
    rwa [List.append_assoc] at this
  ·
   rw [if_neg (by simpa using ho), hall]
 ·
  rw [if_neg h7, gantletref13_grow.j0, if_neg zz13, hall]
def CanP (tag n : Int) (l : List Int) : Prop := ∃ u : Bool, tag = tagOf u ∧ n = lenOf u ∧ (run u ([], lenOf u) l).isSome = true
theorem run_short (u : Bool) (l : List Int) (h : (l.length : Int) < lenOf u) : (run u ([], lenOf u) l).isSome = true ↔ okp u l := by
 obtain ⟨h1, h2⟩ := run_okp u (lenOf u) l h
 by_cases ho : okp u l
 ·
  rw [h1 ho]; exact ⟨fun _ => ho, fun _ => rfl⟩
 ·
  rw [h2 ho]; exact ⟨fun h => (by cases h), fun h => absurd h ho⟩
open Classical in
theorem can_some (u : Bool) (s : ByteArray) (hs : (s.size : Int) ≤ lenOf u) (k : Nat) (hk : 400 ≤ k) : gantletref13_Can.j0 (k + 1) (tagOf u) (lenOf u) s false = some (decide ((run u ([], lenOf u) (bytesOf s)).isSome = true)) := by
 have hN : lenOf u = 13 ∨ lenOf u = 15 := by cases u <;> decide
 rw [gantletref13_Can.j0, if_neg zz13, w64 zz3 zz3]
 by_cases h11 : (s.size : Int) ≤ lenOf u - 11
 ·
  rw [if_pos h11, plain_eq s zz3 k zz3]
  simp only [Option.bind_some]
  have hr := run_short u (bytesOf s) zz46
  have hshort : okc (F u (bytesOf s)) := by
   refine okc_short ?_
   have := F_len_le u (bytesOf s)
   rw [bytesOf_length] at this
   cases u with
   | true => have : lenOf true = 13 := rfl; simp only [if_true] at *; omega
   | false => have : lenOf false = 15 := rfl; simp only [Bool.false_eq_true, if_false] at *; omega
  by_cases hd : Digs (bytesOf s)
  ·
   rw [if_pos (by simpa using hd)]
   cases u with
   | true =>
     rw [if_pos zz13]
     congr 1; symm
     rw [decide_eq_true_iff, hr]
     exact ⟨hd, hshort, fun h => by cases h⟩
   | false =>
     have h15 : lenOf false = 15 := rfl
     rw [if_neg zz13, year_ref s zz3 hd k zz3]
     simp only [Option.bind_some]
     congr 1
     rw [Bool.eq_iff_iff, decide_eq_true_iff, hr]
     exact ⟨fun h => ⟨hd, hshort, fun _ => h⟩, fun h => h.2.2 rfl⟩
  ·
   rw [if_neg (by simpa using hd)]
   congr 1; symm
   rw [decide_eq_false_iff_not, hr]
   exact fun h => hd h.1
 ·
  rw [if_neg h11]
  by_cases hl : (s.size : Int) = lenOf u
  ·
   obtain ⟨k, rfl⟩ : ∃ m, k = m + 1 := ⟨k - 1, zz3⟩
   rw [gantletref13_grow.f, if_pos zz3, right_eq k zz3]
   simp only [Option.bind_some]
   congr 1
   rw [decide_eq_decide]
   have hlast := last_eq s (s.size - 1) zz3
   have hlen : (((bytesOf s).take (s.size - 1)).length : Int) + 1 = lenOf u := by rw [List.length_take, bytesOf_length]; omega
   obtain ⟨h1, h2⟩ := run_last u (lenOf u) ((bytesOf s).take (s.size - 1)) (bt s ((s.size - 1 : Nat) : Int)) hlen
   rw [← hlast] at h1 h2
   constructor
   ·
    rintro ⟨v, p, g1, g2, g3, g4⟩
    have : v = u := by revert g3; cases u <;> cases v <;> decide
    subst this
    have e : (bytesOf s).take (s.size - 1) ++ [bt s ((s.size - 1 : Nat) : Int)] = p ++ [90] := hlast.symm.trans g1
    obtain ⟨e1, e2⟩ := List.append_inj e zz3
    simp only [List.cons.injEq, and_true] at e2
    rw [h1 ⟨by rw [e1]; exact g2, e2⟩]; rfl
   ·
    intro h
    apply Classical.byContradiction
    intro hn
    rw [h2 (fun hh => hn ⟨u, _, by rw [← hh.2]; exact hlast, hh.1, rfl, hlen⟩)] at h
    cases h
  ·
   rw [grow_eq u (lenOf u - (s.size : Int) - 1).toNat k s zz3 zz3 zz3]
   simp only [Option.bind_some]
   congr 1
   rw [decide_eq_decide, run_short u (bytesOf s) zz46]
open Classical in
theorem can_eq (tag n : Int) (s : ByteArray) (hs : (s.size : Int) ≤ n) (k : Nat) (hk : 401 ≤ k) : gantletref13_Can.f k tag n s = some (decide (CanP tag n (bytesOf s))) := by
 obtain ⟨k, rfl⟩ : ∃ m, k = m + 1 := ⟨k - 1, zz3⟩
 have no : (∀ u : Bool, ¬ (tag = tagOf u ∧ n = lenOf u)) → gantletref13_Can.j0 (k + 1) tag n s true = some (decide (CanP tag n (bytesOf s))) := by
  intro hh
  rw [gantletref13_Can.j0, if_pos rfl]
  congr 1; symm
  rw [decide_eq_false_iff_not]
  rintro ⟨u, h1, h2, _⟩
  exact hh u ⟨h1, h2⟩
 have yes : ∀ u : Bool, tag = tagOf u → n = lenOf u → gantletref13_Can.j0 (k + 1) tag n s false = some (decide (CanP tag n (bytesOf s))) := by
  intro u h1 h2
  subst h1; subst h2
  rw [can_some u s hs k zz3]
  congr 1
  rw [decide_eq_decide]
  constructor
  ·
   intro h; exact ⟨u, rfl, rfl, h⟩
  ·
   rintro ⟨v, g1, _, g3⟩
   have : v = u := by revert g1; cases u <;> cases v <;> decide
   rwa [this] at g3
 unfold gantletref13_Can.f
 by_cases h23 : tag = 23
 ·
  rw [if_pos h23]
  by_cases h13 : n = 13
  ·
   rw [if_pos h13, if_neg zz3, yes true h23 h13]
  ·
   rw [if_neg h13, no (fun u hu => by cases u with
    | true => exact h13 hu.2
    | false => have := hu.1; simp [tagOf] at this; omega)]
 ·
  rw [if_neg h23]
  by_cases h24 : tag = 24
  ·
   rw [if_pos h24]
   by_cases h15 : n = 15
   ·
    rw [if_pos h15, yes false h24 h15]
   ·
    rw [if_neg h15, no (fun u hu => by cases u with
     | false => exact h15 hu.2
     | true => exact h23 hu.1)]
  ·
   rw [if_neg h24, no (fun u hu => by cases u with
    | false => exact h24 hu.1
    | true => exact h23 hu.1)]
theorem wrong_l0 (tag n : Int) (s : ByteArray) (hs : (s.size : Int) ≤ n) (h20 : s.size ≤ 20) : ∀ (d k i : Nat), i + d = s.size + 1 → d + 402 ≤ k →
 ∃ at_ : Int, gantletref13_Wrong.l0 k tag n s (i : Int) = some at_ ∧
  ((at_ = -1 ∧ ∀ j, i ≤ j → j ≤ s.size → CanP tag n ((bytesOf s).take j)) ∨
   (∃ a : Nat, at_ = a ∧ i ≤ a ∧ a ≤ s.size ∧ ¬ CanP tag n ((bytesOf s).take a) ∧ ∀ j, i ≤ j → j < a → CanP tag n ((bytesOf s).take j))) := by
 intro d
 induction d with
 | zero =>
   intro k i hi hk
   obtain ⟨k, rfl⟩ : ∃ m, k = m + 1 := ⟨k - 1, zz3⟩
   refine ⟨-1, ?_, .inl ⟨rfl, fun j h1 h2 => by omega⟩⟩
   rw [gantletref13_Wrong.l0, if_neg zz3]
 | succ d ih =>
   intro k i hi hk
   obtain ⟨k, rfl⟩ : ∃ m, k = m + 1 := ⟨k - 1, zz3⟩
   have hz : (s.extract 0 i).size ≤ s.size := by rw [ByteArray.size_extract]; omega
   rw [gantletref13_Wrong.l0, if_pos zz3, if_pos zz3, Int.toNat_natCast, can_eq tag n _ zz3 k zz3, bytesOf_front]
   simp only [Option.bind_some]
   by_cases hc : CanP tag n ((bytesOf s).take i)
   ·
    rw [if_pos (by simpa using hc), w64 zz3 zz3, show ((i : Int) + 1) = ((i + 1 : Nat) : Int) by omega]
    obtain ⟨at_, h1, h2⟩ := ih k (i + 1) zz3 zz3
    refine ⟨at_, h1, ?_⟩
    rcases h2 with ⟨g1, g2⟩ | ⟨a, g1, g2, g3, g4, g5⟩
    ·
     refine .inl ⟨g1, fun j q1 q2 => ?_⟩
     rcases (zz3 : j = i ∨ i + 1 ≤ j) with rfl | h
     ·
      exact hc
     ·
      exact g2 j h q2
    ·
     refine .inr ⟨a, g1, zz3, g3, g4, fun j q1 q2 => ?_⟩
     rcases (zz3 : j = i ∨ i + 1 ≤ j) with rfl | h
     ·
      exact hc
     ·
      exact g5 j h q2
   ·
    rw [if_neg (by simpa using hc)]
    exact ⟨(i : Int), rfl, .inr ⟨i, rfl, Nat.le_refl _, zz3, hc, fun j h1 h2 => by omega⟩⟩
theorem wrong_eq (tag n : Int) (s : ByteArray) (hs : (s.size : Int) ≤ n) (h20 : s.size ≤ 20) (k : Nat) (hk : 500 ≤ k) :
 ∃ at_ : Int, gantletref13_Wrong.f k tag n s = some at_ ∧
  ((at_ = -1 ∧ ∀ j, j ≤ s.size → CanP tag n ((bytesOf s).take j)) ∨
   (∃ a : Nat, at_ = a ∧ a ≤ s.size ∧ ¬ CanP tag n ((bytesOf s).take a) ∧ ∀ j, j < a → CanP tag n ((bytesOf s).take j))) := by
 obtain ⟨at_, h1, h2⟩ := wrong_l0 tag n s hs h20 (s.size + 1) k 0 zz3 zz3
 refine ⟨at_, h1, ?_⟩
 rcases h2 with ⟨g1, g2⟩ | ⟨a, g1, g2, g3, g4, g5⟩
 ·
  exact .inl ⟨g1, fun j q => g2 j zz3 q⟩
 ·
  exact .inr ⟨a, g1, g3, g4, fun j q => g5 j zz3 q⟩
end Go.Proofs.Ytpfconocipmcjaa.BDat
