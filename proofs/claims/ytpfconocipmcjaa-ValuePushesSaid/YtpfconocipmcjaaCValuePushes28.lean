/- What the row of ValuePushes stands on, made small by a program of this session (pack.py). -/
import Derived.Test.YtpfconocipmcjaaCValuePushes2
import Derived.Test.YtpfconocipmcjaaCValuePushes11
import Derived.Test.YtpfconocipmcjaaCValuePushes27
namespace Go.Proofs.Ytpfconocipmcjaa.RTxt
open RowKit PC YtpfconocipmcjaaW.PrintWords YtpfconocipmcjaaW.PrintLast YtpfconocipmcjaaW.PrintMore
open Bs BTxt
open Tx (chr ch2 ch3 ch4 cont lst valid plain printable canU can fill ends rep)
set_option linter.unusedVariables false
theorem char_at (s : ByteArray) (hs : s.size ≤ 140737488351232) (i : Nat) (hi : i < s.size) (k : Nat) : gantletref14_char.f (k + 20) s (i : Int) = some (chr ((bytesOf s).drop i) : Int) := by
 have ha := bt_range s (i : Int)
 have h0 : (bytesOf s).drop i = bt s (i : Int) :: (bytesOf s).drop (i + 1) := by
  have := drop_at s (i : Int) zz3 zz3
  rwa [Int.toNat_natCast, show ((i : Int) + 1).toNat = i + 1 by omega] at this
 have hn : ∀ j : Nat, i + j < s.size → (bytesOf s).drop (i + j) = bt s ((i : Int) + j) :: (bytesOf s).drop (i + j + 1) := by
  intro j hj
  have := drop_at s ((i : Int) + j) zz3 zz3
  rwa [show ((i : Int) + j).toNat = i + j by omega, show ((i : Int) + j + 1).toNat = i + j + 1 by omega] at this
 have he : ∀ j : Nat, s.size ≤ i + j → (bytesOf s).drop (i + j) = [] := by
  intro j hj
  rw [List.drop_eq_nil_iff, bytesOf_length]; omega
 have wa : ∀ j : Int, 0 ≤ j → j ≤ 4 → wrap64 ((i : Int) + j) = (i : Int) + j := fun j _ _ => w64 zz3 zz3
 have wb : ∀ j : Int, wrap64 (bt s j) = bt s j := fun j => by have := bt_range s j; exact w64 zz3 zz3
 rw [h0]
 generalize hav : bt s (i : Int) = a at *
 unfold gantletref14_char.f
 rw [if_pos zz3, if_pos zz3, hav, w64 (x := a) zz3 zz3]
 by_cases h1 : a < 128
 ·
  rw [if_pos h1]; simp only [chr]; rw [if_pos h1]; rfl
 rw [if_neg h1]
 have j5z : ∀ (m : Nat) (n : Int), gantletref14_char.j5 (m + 2) s (i : Int) 0 n = some 0 := by
  intro m n
  rw [gantletref14_char.j5, if_pos rfl, gantletref14_char.j6, if_pos rfl]
 have j5n : ∀ (m : Nat) (z n : Int), 2 ≤ z → z ≤ 4 → gantletref14_char.j5 (m + 2) s (i : Int) z n = if (i : Int) + z > s.size then some 0 else gantletref14_char.l0 m s (i : Int) z n 1 := by
  intro m z n hz hz'
  rw [gantletref14_char.j5, if_neg zz3, wa z zz3 hz', gantletref14_char.j6]
  by_cases h : (i : Int) + z > s.size
  ·
   rw [show decide ((i : Int) + z > s.size) = true by simpa using h, if_pos rfl, if_pos h]
  ·
   rw [show decide ((i : Int) + z > s.size) = false by simpa using h, if_neg zz13, if_neg h]
 have next : ∀ (m : Nat) (z n j : Int), 1 ≤ j → j < z → z ≤ 4 → (i : Int) + z ≤ s.size → 0 ≤ n → n < 100000000 → gantletref14_char.l0 (m + 1) s (i : Int) z n j =
  if cont (bt s ((i : Int) + j)) = true then gantletref14_char.l0 m s (i : Int) z (64 * n + bt s ((i : Int) + j) - 128) (j + 1) else some 0 := by
  intro m z n j h1 h2 h3 h4 h5 h6
  have := bt_range s ((i : Int) + j)
  rw [gantletref14_char.l0, if_pos h2, wa j zz3 zz3, if_pos zz3, if_pos zz3, wb, w64 (x := 64 * n) zz3 zz3, w64 (x := 64 * n + bt s ((i : Int) + j)) zz3 zz3, w64 (x := 64 * n + bt s ((i : Int) + j) - 128) zz3 zz3, w64 (x := j + 1) zz3 zz3]
  by_cases g1 : bt s ((i : Int) + j) < 128
  ·
   rw [if_pos g1, if_neg (by simp [cont]; omega)]
  ·
   rw [if_neg g1]
   by_cases g2 : bt s ((i : Int) + j) > 191
   ·
    rw [if_pos g2, if_neg (by simp [cont]; omega)]
   ·
    rw [if_neg g2, if_pos (by simp [cont]; omega)]
 have end2 : ∀ (m : Nat) (n : Int), n < 55296 → gantletref14_char.l0 (m + 1) s (i : Int) 2 n 2 = some (if n < 128 then 0 else 2) := by
  intro m n hn'
  rw [gantletref14_char.l0, if_neg zz13, if_pos rfl]
  by_cases h : n < 128
  ·
   rw [if_pos h, if_pos h]
  ·
   rw [if_neg h, if_neg h, if_neg zz13, if_neg zz13, if_neg zz3]
 have end3 : ∀ (m : Nat) (n : Int), gantletref14_char.l0 (m + 1) s (i : Int) 3 n 3 = some (if n < 2048 ∨ (55296 ≤ n ∧ n ≤ 57343) then 0 else 3) := by
  intro m n
  rw [gantletref14_char.l0, if_neg zz13, if_neg zz13, if_pos rfl]
  by_cases h : n < 2048
  ·
   rw [if_pos h, if_pos (.inl h)]
  ·
   rw [if_neg h, if_neg zz13]
   by_cases h2 : n ≥ 55296
   ·
    rw [if_pos h2]
    by_cases h3 : n ≤ 57343
    ·
     rw [if_pos h3, if_pos (.inr ⟨h2, h3⟩)]
    ·
     rw [if_neg h3, if_neg zz3]
   ·
    rw [if_neg h2, if_neg zz3]
 have end4 : ∀ (m : Nat) (n : Int), gantletref14_char.l0 (m + 1) s (i : Int) 4 n 4 = some (if n < 65536 ∨ n > 1114111 then 0 else 4) := by
  intro m n
  rw [gantletref14_char.l0, if_neg zz13, if_neg zz13, if_neg zz13, if_pos rfl]
  by_cases h : n < 65536
  ·
   rw [if_pos h, if_pos (.inl h)]
  ·
   rw [if_neg h]
   by_cases h2 : n > 1114111
   ·
    rw [if_pos h2, if_pos (.inr h2)]
   ·
    rw [if_neg h2, if_pos (show n ≥ 55296 by omega), if_neg (show ¬ n ≤ 57343 by omega), if_neg zz3]
 by_cases h2 : 192 ≤ a ∧ a < 224
 ·
  rw [if_pos (show a ≥ 192 from h2.1), show decide (a < 224) = true by simpa using h2.2]
  rw [gantletref14_char.j0, if_pos rfl, gantletref14_char.j1, if_neg zz3, gantletref14_char.j2, if_neg zz13, gantletref14_char.j3, if_neg zz3, gantletref14_char.j4, if_neg zz13, w64 (x := a - 192) zz3 zz3, j5n _ 2 _ zz13 zz13]
  simp only [chr]
  rw [if_neg h1, if_pos h2]
  by_cases hl : (i : Int) + 2 > s.size
  ·
   rw [if_pos hl, he 1 zz3]; rfl
  ·
   rw [if_neg hl, hn 1 zz3]
   have hb := bt_range s ((i : Int) + 1)
   simp only
   rw [next _ 2 _ 1 zz13 zz13 zz13 zz3 zz3 zz3, show ((i : Int) + ((1 : Nat) : Int)) = (i : Int) + 1 from rfl]
   by_cases hc : cont (bt s ((i : Int) + 1)) = true
   ·
    rw [if_pos hc, show (1 : Int) + 1 = 2 from rfl, end2 _ _ zz3]
    by_cases hx : 64 * (a - 192) + bt s ((i : Int) + 1) - 128 < 128
    ·
     rw [if_pos hx, if_neg (by simp [ch2, hc]; omega)]; rfl
    ·
     rw [if_neg hx, if_pos (by simp [ch2, hc]; omega)]; rfl
   ·
    rw [if_neg hc, if_neg (by simp [ch2, hc])]; rfl
 have e1 : (if a ≥ 192 then gantletref14_char.j0 (k + 20) s (i : Int) a 0 0 (decide (a < 224)) else gantletref14_char.j0 (k + 20) s (i : Int) a 0 0 false) = gantletref14_char.j1 (k + 19) s (i : Int) a 0 0 := by
  by_cases h : a ≥ 192
  ·
   rw [if_pos h, show decide (a < 224) = false by simp; omega, gantletref14_char.j0, if_neg zz13]
  ·
   rw [if_neg h, gantletref14_char.j0, if_neg zz13]
 rw [e1, gantletref14_char.j1]
 by_cases h3 : 224 ≤ a ∧ a < 240
 ·
  rw [if_pos (show a ≥ 224 from h3.1), show decide (a < 240) = true by simpa using h3.2, gantletref14_char.j2, if_pos rfl, gantletref14_char.j3, if_neg zz3, gantletref14_char.j4, if_neg zz13, w64 (x := a - 224) zz3 zz3, j5n _ 3 _ zz13 zz13]
  simp only [chr]
  rw [if_neg h1, if_neg h2, if_pos h3]
  by_cases hl : (i : Int) + 3 > s.size
  ·
   rw [if_pos hl]
   by_cases h4 : s.size ≤ i + 1
   ·
    rw [he 1 zz3]; rfl
   ·
    rw [hn 1 zz3, show i + 1 + 1 = i + 2 from rfl, he 2 zz3]; rfl
  ·
   rw [if_neg hl, hn 1 zz3, show i + 1 + 1 = i + 2 from rfl, hn 2 zz3]
   have hb := bt_range s ((i : Int) + 1)
   have hc := bt_range s ((i : Int) + 2)
   simp only
   rw [next _ 3 _ 1 zz13 zz13 zz13 zz3 zz3 zz3, show ((i : Int) + ((1 : Nat) : Int)) = (i : Int) + 1 from rfl, show ((i : Int) + ((2 : Nat) : Int)) = (i : Int) + 2 from rfl]
   by_cases g1 : cont (bt s ((i : Int) + 1)) = true
   ·
    have g1' := g1
    simp only [cont, Bool.and_eq_true, decide_eq_true_eq] at g1'
    rw [if_pos g1, show (1 : Int) + 1 = 2 from rfl, next _ 3 _ 2 zz13 zz13 zz13 zz3 zz3 zz3]
    by_cases g2 : cont (bt s ((i : Int) + 2)) = true
    ·
     rw [if_pos g2, show (2 : Int) + 1 = 3 from rfl, end3]
     obtain ⟨n, hn'⟩ : ∃ n, 64 * (64 * (a - 224) + bt s ((i : Int) + 1) - 128) + bt s ((i : Int) + 2) - 128 = n := ⟨_, rfl⟩
     have hch : ch3 a (bt s ((i : Int) + 1)) (bt s ((i : Int) + 2)) = (decide (2048 ≤ n) && !(decide (55296 ≤ n) && decide (n ≤ 57343))) := by
      simp only [ch3]; rw [g1, g2, hn']; simp
     rw [hn']
     by_cases hx : n < 2048 ∨ (55296 ≤ n ∧ n ≤ 57343)
     ·
      rw [if_pos hx, if_neg (by rw [hch]; simp; omega)]; rfl
     ·
      rw [if_neg hx, if_pos (by rw [hch]; simp; omega)]; rfl
    ·
     rw [if_neg g2, if_neg (by simp [ch3, g2])]; rfl
   ·
    rw [if_neg g1, if_neg (by simp [ch3, g1])]; rfl
 have e2 : (if a ≥ 224 then gantletref14_char.j2 (k + 18) s (i : Int) a 0 0 (decide (a < 240)) else gantletref14_char.j2 (k + 18) s (i : Int) a 0 0 false) = gantletref14_char.j3 (k + 17) s (i : Int) a 0 0 := by
  by_cases h : a ≥ 224
  ·
   rw [if_pos h, show decide (a < 240) = false by simp; omega, gantletref14_char.j2, if_neg zz13]
  ·
   rw [if_neg h, gantletref14_char.j2, if_neg zz13]
 rw [e2, gantletref14_char.j3]
 by_cases h4 : 240 ≤ a ∧ a < 248
 ·
  rw [if_pos (show a ≥ 240 from h4.1), show decide (a < 248) = true by simpa using h4.2, gantletref14_char.j4, if_pos rfl, w64 (x := a - 240) zz3 zz3, j5n _ 4 _ zz13 zz13]
  simp only [chr]
  rw [if_neg h1, if_neg h2, if_neg h3, if_pos h4]
  by_cases hl : (i : Int) + 4 > s.size
  ·
   rw [if_pos hl]
   by_cases g4 : s.size ≤ i + 1
   ·
    rw [he 1 zz3]; rfl
   ·
    rw [hn 1 zz3, show i + 1 + 1 = i + 2 from rfl]
    by_cases g5 : s.size ≤ i + 2
    ·
     rw [he 2 zz3]; rfl
    ·
     rw [hn 2 zz3, show i + 2 + 1 = i + 3 from rfl, he 3 zz3]; rfl
  ·
   rw [if_neg hl, hn 1 zz3, show i + 1 + 1 = i + 2 from rfl, hn 2 zz3, show i + 2 + 1 = i + 3 from rfl, hn 3 zz3]
   have hb := bt_range s ((i : Int) + 1)
   have hc := bt_range s ((i : Int) + 2)
   have hd := bt_range s ((i : Int) + 3)
   simp only
   rw [next _ 4 _ 1 zz13 zz13 zz13 zz3 zz3 zz3, show ((i : Int) + ((1 : Nat) : Int)) = (i : Int) + 1 from rfl, show ((i : Int) + ((2 : Nat) : Int)) = (i : Int) + 2 from rfl, show ((i : Int) + ((3 : Nat) : Int)) = (i : Int) + 3 from rfl]
   by_cases g1 : cont (bt s ((i : Int) + 1)) = true
   ·
    have g1' := g1
    simp only [cont, Bool.and_eq_true, decide_eq_true_eq] at g1'
    rw [if_pos g1, show (1 : Int) + 1 = 2 from rfl, next _ 4 _ 2 zz13 zz13 zz13 zz3 zz3 zz3]
    by_cases g2 : cont (bt s ((i : Int) + 2)) = true
    ·
     have g2' := g2
     simp only [cont, Bool.and_eq_true, decide_eq_true_eq] at g2'
     rw [if_pos g2, show (2 : Int) + 1 = 3 from rfl, next _ 4 _ 3 zz13 zz13 zz13 zz3 zz3 zz3]
     by_cases g3 : cont (bt s ((i : Int) + 3)) = true
     ·
      rw [if_pos g3, show (3 : Int) + 1 = 4 from rfl, end4]
      obtain ⟨n, hn'⟩ : ∃ n, 64 * (64 * (64 * (a - 240) + bt s ((i : Int) + 1) - 128) + bt s ((i : Int) + 2) - 128) + bt s ((i : Int) + 3) - 128 = n := ⟨_, rfl⟩
      have hch : ch4 a (bt s ((i : Int) + 1)) (bt s ((i : Int) + 2)) (bt s ((i : Int) + 3)) = (decide (65536 ≤ n) && decide (n ≤ 1114111)) := by
       simp only [ch4]; rw [g1, g2, g3, hn']; simp
      rw [hn']
      by_cases hx : n < 65536 ∨ n > 1114111
      ·
       rw [if_pos hx, if_neg (by rw [hch]; simp; omega)]; rfl
      ·
       rw [if_neg hx, if_pos (by rw [hch]; simp; omega)]; rfl
     ·
      rw [if_neg g3, if_neg (by simp [ch4, g3])]; rfl
    ·
     rw [if_neg g2, if_neg (by simp [ch4, g2])]; rfl
   ·
    rw [if_neg g1, if_neg (by simp [ch4, g1])]; rfl
 have e3 : (if a ≥ 240 then gantletref14_char.j4 (k + 16) s (i : Int) a 0 0 (decide (a < 248)) else gantletref14_char.j4 (k + 16) s (i : Int) a 0 0 false) = some 0 := by
  by_cases h : a ≥ 240
  ·
   rw [if_pos h, show decide (a < 248) = false by simp; omega, gantletref14_char.j4, if_neg zz13, j5z]
  ·
   rw [if_neg h, gantletref14_char.j4, if_neg zz13, j5z]
 rw [e3]
 simp only [chr]
 rw [if_neg h1, if_neg h2, if_neg h3, if_neg h4]; rfl
theorem utf8_l0 (s : ByteArray) (hs : s.size ≤ 140737488351232) : ∀ (d k i : Nat), i + d = s.size → d + 22 ≤ k → gantletref14_Utf8.l0 k s (i : Int) = some (valid d ((bytesOf s).drop i)) := by
 intro d
 induction d using Nat.strongRecOn with
 | _ d ih =>
   intro k i hi hk
   obtain ⟨k, rfl⟩ : ∃ m, k = m + 21 := ⟨k - 21, zz3⟩
   rw [gantletref14_Utf8.l0]
   cases d with
   | zero =>
     rw [if_neg zz3, List.drop_of_length_le zz46]; rfl
   | succ d =>
     have hl : ((bytesOf s).drop i).length = d + 1 := by rw [List.length_drop, bytesOf_length]; omega
     rw [if_pos zz3, char_at s hs i zz3 k]
     simp only [Option.bind_some, valid]
     rw [show ((bytesOf s).drop i).isEmpty = false by cases h : (bytesOf s).drop i with | nil => rw [h] at hl; simp at hl | cons a r => rfl, if_neg (show ¬ (false = true) by decide)]
     have hle := Tx.chr_le ((bytesOf s).drop i)
     by_cases hc : chr ((bytesOf s).drop i) = 0
     ·
      rw [if_pos zz3, if_pos hc]
     ·
      rw [if_neg zz3, if_neg hc, w64 zz3 zz3, show ((i : Int) + (chr ((bytesOf s).drop i) : Int)) = ((i + chr ((bytesOf s).drop i) : Nat) : Int) by omega]
      rw [ih (d + 1 - chr ((bytesOf s).drop i)) zz3 _ _ zz3 zz3, List.drop_drop]
      congr 1
      exact Tx.valid_more _ _ _ (by rw [List.length_drop, bytesOf_length]; omega) (by rw [List.length_drop, bytesOf_length]; omega)
theorem utf8_eq (s : ByteArray) (hs : s.size ≤ 140737488351232) (k : Nat) (hk : s.size + 22 ≤ k) : gantletref14_Utf8.f k s = some (valid s.size (bytesOf s)) := by
 have := utf8_l0 s hs s.size k 0 zz3 hk
 unfold gantletref14_Utf8.f
 simpa using this
theorem plain_eq (k : Nat) (tag b : Int) (h0 : 0 ≤ b) (h1 : b < 256) (ht : tag ≠ 12) : gantletref14_plain.f (k + 20) tag b = some (plain tag b) := by
 refine at_rounds (g := fun k => gantletref14_plain.f k tag b) (fun k => gantletref14_plain.mono tag b k) (show 20 ≤ k + 20 by omega) ?_
 show gantletref14_plain.f 20 tag b = _
 by_cases h22 : tag = 22
 ·
  unfold gantletref14_plain.f plain; rw [if_pos h22, if_pos h22]
 by_cases h19 : tag = 19
 ·
  subst h19
  have : ∀ n : Nat, n < 256 → gantletref14_plain.f 20 19 (n : Int) = some (plain 19 (n : Int)) := by decide +kernel
  have := this b.toNat zz3
  rwa [Int.toNat_of_nonneg h0] at this
 ·
  unfold gantletref14_plain.f plain; rw [if_neg h22, if_neg h19, if_neg h22, if_neg h19]
theorem check_l0 (tag : Int) (ht : tag ≠ 12) (s : ByteArray) (hs : s.size ≤ 140737488351232) : ∀ (d k i : Nat), i + d = s.size → d + 22 ≤ k → gantletref14_Check.l0 k tag s (i : Int) = some (((bytesOf s).drop i).all (plain tag)) := by
 intro d
 induction d with
 | zero =>
   intro k i hi hk
   obtain ⟨k, rfl⟩ : ∃ m, k = m + 1 := ⟨k - 1, zz3⟩
   rw [gantletref14_Check.l0, if_neg zz3, List.drop_of_length_le zz46]; rfl
 | succ d ih =>
   intro k i hi hk
   obtain ⟨k, rfl⟩ : ∃ m, k = m + 21 := ⟨k - 21, zz3⟩
   have hb := bt_range s (i : Int)
   have hd := drop_at s (i : Int) zz3 zz3
   rw [Int.toNat_natCast, show ((i : Int) + 1).toNat = i + 1 by omega] at hd
   rw [gantletref14_Check.l0, if_pos zz3, if_pos zz3, plain_eq k tag _ hb.1 zz3 ht, hd]
   simp only [Option.bind_some, List.all_cons]
   by_cases hp : plain tag (bt s (i : Int)) = true
   ·
    rw [if_pos hp, hp, w64 zz3 zz3, show ((i : Int) + 1) = ((i + 1 : Nat) : Int) by omega, ih (k + 20) (i + 1) zz3 zz3]; rfl
   ·
    rw [if_neg hp, show plain tag (bt s (i : Int)) = false by simpa using hp]; rfl
theorem rcheck_eq (tag : Int) (s : ByteArray) (hs : s.size ≤ 140737488351232) (k : Nat) (hk : s.size + 22 ≤ k) : gantletref14_Check.f k tag s = some (Tx.check tag (bytesOf s)) := by
 unfold gantletref14_Check.f Tx.check
 by_cases h : tag = 12
 ·
  rw [if_pos h, if_pos h, utf8_eq s hs k hk, bytesOf_length]; rfl
 ·
  rw [if_neg h, if_neg h]
  have := check_l0 tag h s hs s.size k 0 zz3 hk
  simpa using this
theorem last_l0 (s : ByteArray) (hs : s.size ≤ 140737488351232) : ∀ (d k i : Nat), i + d = s.size → d + 22 ≤ k → gantletref14_last.l0 k s (i : Int) = some (if d - lst d ((bytesOf s).drop i) > 3 then -1 else ((i + lst d ((bytesOf s).drop i) : Nat) : Int)) := by
 intro d
 induction d using Nat.strongRecOn with
 | _ d ih =>
   intro k i hi hk
   obtain ⟨k, rfl⟩ : ∃ m, k = m + 21 := ⟨k - 21, zz3⟩
   rw [gantletref14_last.l0]
   cases d with
   | zero =>
     rw [if_neg zz3, w64 zz3 zz3, if_neg zz3]; simp [lst]
   | succ d =>
     have hl : ((bytesOf s).drop i).length = d + 1 := by rw [List.length_drop, bytesOf_length]; omega
     have hle := Tx.chr_le ((bytesOf s).drop i)
     rw [if_pos zz3, char_at s hs i zz3 k]
     simp only [Option.bind_some]
     by_cases hc : chr ((bytesOf s).drop i) = 0
     ·
      have e0 : lst (d + 1) ((bytesOf s).drop i) = 0 := by simp only [lst]; rw [if_pos hc]
      rw [if_pos zz3, e0, w64 zz3 zz3]
      by_cases h3 : (s.size : Int) - (i : Int) > 3
      ·
       rw [if_pos h3, if_pos zz3]
      ·
       rw [if_neg h3, if_neg zz3]; simp
     ·
      have e1 : lst (d + 1) ((bytesOf s).drop i) = chr ((bytesOf s).drop i) + lst d ((bytesOf s).drop (i + chr ((bytesOf s).drop i))) := by
       simp only [lst]; rw [if_neg hc, List.drop_drop]
      rw [if_neg zz3, e1, w64 zz3 zz3, show ((i : Int) + (chr ((bytesOf s).drop i) : Int)) = ((i + chr ((bytesOf s).drop i) : Nat) : Int) by omega]
      rw [ih (d + 1 - chr ((bytesOf s).drop i)) zz3 _ _ zz3 zz3]
      have e : lst (d + 1 - chr ((bytesOf s).drop i)) ((bytesOf s).drop (i + chr ((bytesOf s).drop i))) = lst d ((bytesOf s).drop (i + chr ((bytesOf s).drop i))) :=
       Tx.lst_more _ _ _ (by rw [List.length_drop, bytesOf_length]; omega) (by rw [List.length_drop, bytesOf_length]; omega)
      rw [e]
      generalize lst d ((bytesOf s).drop (i + chr ((bytesOf s).drop i))) = q
      by_cases h3 : d + 1 - chr ((bytesOf s).drop i) - q > 3
      ·
       rw [if_pos h3, if_pos zz3]
      ·
       rw [if_neg h3, if_neg zz3]; congr 2; omega
theorem last_eq (s : ByteArray) (hs : s.size ≤ 140737488351232) (k : Nat) (hk : s.size + 22 ≤ k) : gantletref14_last.f k s = some (if s.size - lst s.size (bytesOf s) > 3 then -1 else (lst s.size (bytesOf s) : Int)) := by
 have := last_l0 s hs s.size k 0 zz3 hk
 unfold gantletref14_last.f
 simpa using this
theorem bytes_suffix (s : ByteArray) (n : Nat) : bytesOf (s.extract n s.size) = (bytesOf s).drop n := by
 simp only [bytesOf, ByteArray.data_extract, Array.toList_extract, List.extract_eq_take_drop, List.map_take, List.map_drop]
 rw [List.take_of_length_le]
 rw [List.length_drop, List.length_map, Array.length_toList]; exact Nat.le_refl _
theorem bytesOf_one (x : Int) (h0 : 0 ≤ x) (h1 : x < 256) : bytesOf (strOfNums [x]) = [x] := bytesOf_nums _ (by intro b hb; simp at hb; omega)
theorem can_l2 (n : Int) (s : ByteArray) (hs : s.size ≤ 140737488350000) (at_ : Int) (x8 : Nat) (h8 : 1 ≤ x8 ∧ x8 ≤ 3) (x9 : Int) (b : Int) (hb : wrap64 (128 + wrap64 (63 * x9)) % 256 = b) (hb' : b = 128 ∨ b = 191) (t : List Int) (ht : t ≠ []) (htl : t.length ≤ 140737488350000) :
 ∀ (d : Nat) (k : Nat) (x10 : ByteArray) (i : Nat), i + d = x8 → d + 30 ≤ k → bytesOf x10 = t ++ rep i b →
  gantletref14_Can.l2 k n s at_ (x8 : Int) x9 x10 (i : Int) = (if chr (t ++ rep x8 b) = t.length + x8 then some true else gantletref14_Can.l1 (k - d - 1) n s at_ (x8 : Int) (wrap64 (x9 + 1))) := by
 intro d
 induction d with
 | zero =>
   intro k x10 i hi hk hx
   obtain ⟨k, rfl⟩ : ∃ m, k = m + 21 := ⟨k - 21, zz3⟩
   have hlen := congrArg List.length hx
   rw [bytesOf_length, List.length_append] at hlen
   have hr : (rep i b).length = i := by simp [rep]
   have hpos : 0 < t.length := List.length_pos_iff.2 ht
   have hc := char_at x10 zz3 0 zz3 k
   rw [List.drop_zero, hx] at hc
   rw [gantletref14_Can.l2, if_neg zz3, show (0 : Int) = ((0 : Nat) : Int) from rfl, hc]
   simp only [Option.bind_some]
   obtain rfl : i = x8 := by omega
   by_cases h : chr (t ++ rep i b) = t.length + i
   ·
    rw [if_pos zz3, if_pos h]
   ·
    rw [if_neg zz3, if_neg h]; rfl
 | succ d ih =>
   intro k x10 i hi hk hx
   obtain ⟨k, rfl⟩ : ∃ m, k = m + 1 := ⟨k - 1, zz3⟩
   have hlen := congrArg List.length hx
   rw [bytesOf_length, List.length_append] at hlen
   have hr : (rep i b).length = i := by simp [rep]
   have h1 : (strOfNums [b]).size = 1 := strOfNums_size _
   rw [gantletref14_Can.l2, if_pos zz3, hb]
   simp only [Option.bind_some]
   rw [if_pos zz3, w64 zz3 zz3, show ((i : Int) + 1) = ((i + 1 : Nat) : Int) by omega]
   have hx' : bytesOf (x10 ++ strOfNums [b]) = t ++ rep (i + 1) b := by
    rw [bytesOf_append, hx, bytesOf_one b zz3 zz3, List.append_assoc]
    congr 1
    simp [rep, List.replicate_succ']
   have hz' : (x10 ++ strOfNums [b]).size = x10.size + 1 := by rw [ByteArray.size_append, h1]
   have hlen' := congrArg List.length hx'
   rw [bytesOf_length, List.length_append, hz'] at hlen'
   have hr' : (rep (i + 1) b).length = i + 1 := by simp [rep]
   rw [ih k _ (i + 1) zz3 zz3 hx', show k + 1 - (d + 1) - 1 = k - d - 1 by omega]
theorem can_l1 (n : Int) (s : ByteArray) (hs : s.size ≤ 140737488350000) (at_ : Nat) (hat : at_ < s.size) (x8 : Nat) (h8 : 1 ≤ x8 ∧ x8 ≤ 3) (k : Nat) (hk : 100 ≤ k) :
 ∃ k', k ≤ k' + 20 ∧ gantletref14_Can.l1 k n s (at_ : Int) (x8 : Int) 0 = if ends ((bytesOf s).drop at_) x8 = true then some true else gantletref14_Can.l0 k' n s (at_ : Int) ((x8 + 1 : Nat) : Int) := by
 have ht : (bytesOf s).drop at_ ≠ [] := by
  intro h
  have := congrArg List.length h
  rw [List.length_drop, bytesOf_length] at this
  simp at this; omega
 have htl : ((bytesOf s).drop at_).length ≤ 140737488350000 := by rw [List.length_drop, bytesOf_length]; omega
 obtain ⟨k, rfl⟩ : ∃ m, k = m + 60 := ⟨k - 60, zz3⟩
 have a1 := can_l2 n s hs (at_ : Int) x8 h8 0 128 (by decide +kernel) (.inl rfl) _ ht htl x8 (k + 59) (s.extract at_ s.size) 0 zz3 zz3 (by rw [bytes_suffix]; simp [rep])
 have a2 := can_l2 n s hs (at_ : Int) x8 h8 1 191 (by decide +kernel) (.inr rfl) _ ht htl x8 (k + 59 - x8 - 1 - 1) (s.extract at_ s.size) 0 zz3 zz3 (by rw [bytes_suffix]; simp [rep])
 refine ⟨k + 59 - x8 - 1 - 1 - x8 - 1 - 1, zz3, ?_⟩
 obtain ⟨m1, hm1⟩ : ∃ m, k + 59 - x8 - 1 = m + 1 := ⟨k + 59 - x8 - 1 - 1, zz3⟩
 obtain ⟨m2, hm2⟩ : ∃ m, k + 59 - x8 - 1 - 1 - x8 - 1 = m + 1 := ⟨k + 59 - x8 - 1 - 1 - x8 - 1 - 1, zz3⟩
 rw [show k + 60 = k + 59 + 1 from rfl, gantletref14_Can.l1, if_pos zz13, if_pos zz3, if_pos zz3, Int.toNat_natCast]
 rw [show (0 : Int) = ((0 : Nat) : Int) from rfl] at a1 ⊢
 rw [a1]
 unfold ends
 by_cases e1 : chr ((bytesOf s).drop at_ ++ rep x8 128) = ((bytesOf s).drop at_).length + x8
 ·
  rw [if_pos e1, if_pos (by simp [e1])]
 rw [if_neg e1, hm1, show wrap64 (((0 : Nat) : Int) + 1) = 1 by decide +kernel, gantletref14_Can.l1, if_pos zz13, if_pos zz3, if_pos zz3, Int.toNat_natCast]
 rw [show k + 59 - x8 - 1 - 1 = m1 by omega] at a2 hm2
 rw [show (0 : Int) = ((0 : Nat) : Int) from rfl]
 rw [a2, show m1 + 1 - 1 - x8 - 1 - 1 = m2 by omega]
 by_cases e2 : chr ((bytesOf s).drop at_ ++ rep x8 191) = ((bytesOf s).drop at_).length + x8
 ·
  rw [if_pos e2, if_pos (by simp [e2])]
 rw [if_neg e2, if_neg (by rw [beq_eq_false_iff_ne.2 e1, beq_eq_false_iff_ne.2 e2]; decide), hm2, show wrap64 (1 + 1) = 2 by decide +kernel, gantletref14_Can.l1, if_neg zz13, w64 zz3 zz3]
 rfl
theorem can_l0 (n : Int) (s : ByteArray) (hs : s.size ≤ 140737488350000) (at_ : Nat) (hat : at_ < s.size) (k : Nat) (hk : 300 ≤ k) :
 gantletref14_Can.l0 k n s (at_ : Int) 1 = some (fill (n - s.size) ((bytesOf s).drop at_)) := by
 have one : ∀ (x8 : Nat) (k : Nat), 1 ≤ x8 → x8 ≤ 3 → 150 ≤ k → ∃ k', k ≤ k' + 30 ∧ gantletref14_Can.l0 k n s (at_ : Int) (x8 : Int) = if (x8 : Int) ≤ n - s.size then (if ends ((bytesOf s).drop at_) x8 = true then some true else gantletref14_Can.l0 k' n s (at_ : Int) ((x8 + 1 : Nat) : Int)) else some false := by
  intro x8 k h1 h3 hk
  obtain ⟨k, rfl⟩ : ∃ m, k = m + 2 := ⟨k - 2, zz3⟩
  obtain ⟨k', hk', e⟩ := can_l1 n s hs at_ hat x8 ⟨h1, h3⟩ k zz3
  refine ⟨k', zz3, ?_⟩
  rw [gantletref14_Can.l0, if_pos zz3, w64 zz3 zz3, gantletref14_Can.j1]
  by_cases hl : (x8 : Int) ≤ n - s.size
  ·
   rw [show decide ((s.size : Int) + (x8 : Int) ≤ n) = true by simp; omega, if_pos rfl, if_pos hl, e]
  ·
   rw [show decide ((s.size : Int) + (x8 : Int) ≤ n) = false by simp; omega, if_neg zz13, if_neg hl]
 obtain ⟨k1, h1, e1⟩ := one 1 k zz13 zz13 zz3
 obtain ⟨k2, h2, e2⟩ := one 2 k1 zz13 zz13 zz3
 obtain ⟨k3, h3, e3⟩ := one 3 k2 zz13 zz13 zz3
 have e4 : gantletref14_Can.l0 k3 n s (at_ : Int) ((3 + 1 : Nat) : Int) = some false := by
  obtain ⟨k, rfl⟩ : ∃ m, k3 = m + 2 := ⟨k3 - 2, zz3⟩
  rw [gantletref14_Can.l0, if_neg zz13, gantletref14_Can.j1, if_neg zz13]
 rw [e4] at e3
 rw [show ((2 + 1 : Nat) : Int) = ((3 : Nat) : Int) from rfl, e3] at e2
 rw [show ((1 + 1 : Nat) : Int) = ((2 : Nat) : Int) from rfl, e2] at e1
 rw [show (1 : Int) = ((1 : Nat) : Int) from rfl, e1]
 unfold fill
 by_cases g1 : (1 : Int) ≤ n - s.size
 ·
  rw [if_pos (show ((1 : Nat) : Int) ≤ n - s.size from g1), show decide ((1 : Int) ≤ n - s.size) = true by simpa using g1]
  cases ends ((bytesOf s).drop at_) 1 with
  | true => rfl
  | false =>
    rw [if_neg zz13]
    by_cases g2 : (2 : Int) ≤ n - s.size
    ·
     rw [if_pos (show ((2 : Nat) : Int) ≤ n - s.size from g2), show decide ((2 : Int) ≤ n - s.size) = true by simpa using g2]
     cases ends ((bytesOf s).drop at_) 2 with
     | true => rfl
     | false =>
       rw [if_neg zz13]
       by_cases g3 : (3 : Int) ≤ n - s.size
       ·
        rw [if_pos (show ((3 : Nat) : Int) ≤ n - s.size from g3), show decide ((3 : Int) ≤ n - s.size) = true by simpa using g3]
        cases ends ((bytesOf s).drop at_) 3 <;> rfl
       ·
        rw [if_neg (show ¬ ((3 : Nat) : Int) ≤ n - s.size from g3), show decide ((3 : Int) ≤ n - s.size) = false by simpa using g3]; rfl
    ·
     rw [if_neg (show ¬ ((2 : Nat) : Int) ≤ n - s.size from g2), show decide ((2 : Int) ≤ n - s.size) = false by simpa using g2]; rfl
 ·
  rw [if_neg (show ¬ ((1 : Nat) : Int) ≤ n - s.size from g1), show decide ((1 : Int) ≤ n - s.size) = false by simpa using g1]; rfl
theorem can_eq (tag n : Int) (s : ByteArray) (hs : s.size ≤ 140737488350000) (k : Nat) (hk : s.size + 400 ≤ k) : gantletref14_Can.f k tag n s = some (can tag n (bytesOf s)) := by
 unfold gantletref14_Can.f can
 by_cases hn : n < 0
 ·
  rw [if_pos hn, if_pos hn]
 rw [if_neg hn, if_neg hn]
 by_cases ht : tag = 12
 ·
  rw [if_pos ht, if_pos ht, last_eq s zz3 k zz3]
  simp only [Option.bind_some]
  unfold canU
  rw [bytesOf_length]
  by_cases h3 : s.size - lst s.size (bytesOf s) > 3
  ·
   rw [if_pos h3, if_pos h3, if_pos zz13]
  ·
   rw [if_neg h3, if_neg h3, if_neg zz3]
   have hll : ∀ (k : Nat) (t : List Int), lst k t ≤ t.length := by
    intro k
    induction k with
    | zero => intro t; simp [lst]
    | succ k ih2 =>
      intro t
      simp only [lst]
      split
      ·
       omega
      ·
       have := ih2 (t.drop (chr t))
       have := Tx.chr_le t
       rw [List.length_drop] at *
       omega
   have hq := hll s.size (bytesOf s)
   rw [bytesOf_length] at hq
   by_cases h4 : lst s.size (bytesOf s) = s.size
   ·
    rw [if_pos zz3, if_pos h4]
   ·
    rw [if_neg zz3, if_neg h4, can_l0 n s hs _ zz3 k zz3]
 ·
  rw [if_neg ht, if_neg ht, rcheck_eq tag s zz3 k zz3]
  simp only [Option.bind_some, Tx.check]
  rw [if_neg ht]
theorem wrong_l0 (tag n : Int) (s : ByteArray) (hs : s.size ≤ 140737488350000) : ∀ (d k i : Nat), i + d = s.size + 1 → s.size + d + 402 ≤ k →
 ∃ at_ : Int, gantletref14_Wrong.l0 k tag n s (i : Int) = some at_ ∧
  ((at_ = -1 ∧ ∀ j, i ≤ j → j ≤ s.size → can tag n ((bytesOf s).take j) = true) ∨
   (∃ a : Nat, at_ = a ∧ i ≤ a ∧ a ≤ s.size ∧ can tag n ((bytesOf s).take a) = false ∧ ∀ j, i ≤ j → j < a → can tag n ((bytesOf s).take j) = true)) := by
 intro d
 induction d with
 | zero =>
   intro k i hi hk
   obtain ⟨k, rfl⟩ : ∃ m, k = m + 1 := ⟨k - 1, zz3⟩
   refine ⟨-1, ?_, .inl ⟨rfl, fun j h1 h2 => by omega⟩⟩
   rw [gantletref14_Wrong.l0, if_neg zz3]
 | succ d ih =>
   intro k i hi hk
   obtain ⟨k, rfl⟩ : ∃ m, k = m + 1 := ⟨k - 1, zz3⟩
   have hz : (s.extract 0 i).size ≤ s.size := by rw [ByteArray.size_extract]; omega
   rw [gantletref14_Wrong.l0, if_pos zz3, if_pos zz3, Int.toNat_natCast, can_eq tag n _ zz3 k zz3, bytesOf_front]
   simp only [Option.bind_some]
   cases hc : can tag n ((bytesOf s).take i) with
   | false =>
     rw [if_neg zz13]
     exact ⟨(i : Int), rfl, .inr ⟨i, rfl, Nat.le_refl _, zz3, hc, fun j h1 h2 => by omega⟩⟩
   | true =>
     rw [if_pos rfl, w64 zz3 zz3, show ((i : Int) + 1) = ((i + 1 : Nat) : Int) by omega]
     obtain ⟨at_, h1, h2⟩ := ih k (i + 1) zz3 zz3
     refine ⟨at_, h1, ?_⟩
     rcases h2 with ⟨g1, g2⟩ | ⟨a, g1, g2, g3, g4, g5⟩
     ·
      refine .inl ⟨g1, fun j q1 q2 => ?_⟩
      rcases (zz3 : j = i ∨ i + 1 ≤ j) with rfl | h
      ·
       exact hc
      ·
       exact g2 j h q2
     ·
      refine .inr ⟨a, g1, zz3, g3, g4, fun j q1 q2 => ?_⟩
      rcases (zz3 : j = i ∨ i + 1 ≤ j) with rfl | h
      ·
       exact hc
      ·
       exact g5 j h q2
theorem wrong_eq (tag n : Int) (s : ByteArray) (hs : s.size ≤ 140737488350000) (k : Nat) (hk : 2 * s.size + 500 ≤ k) :
 ∃ at_ : Int, gantletref14_Wrong.f k tag n s = some at_ ∧
  ((at_ = -1 ∧ ∀ j, j ≤ s.size → can tag n ((bytesOf s).take j) = true) ∨
   (∃ a : Nat, at_ = a ∧ a ≤ s.size ∧ can tag n ((bytesOf s).take a) = false ∧ ∀ j, j < a → can tag n ((bytesOf s).take j) = true)) := by
 obtain ⟨at_, h1, h2⟩ := wrong_l0 tag n s hs (s.size + 1) k 0 zz3 zz3
 refine ⟨at_, h1, ?_⟩
 rcases h2 with ⟨g1, g2⟩ | ⟨a, g1, g2, g3, g4, g5⟩
 ·
  exact .inl ⟨g1, fun j q => g2 j zz3 q⟩
 ·
  exact .inr ⟨a, g1, g3, g4, fun j q => g5 j zz3 q⟩
end Go.Proofs.Ytpfconocipmcjaa.RTxt
