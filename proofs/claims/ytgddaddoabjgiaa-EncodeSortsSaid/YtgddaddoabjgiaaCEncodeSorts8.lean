/- What the row of EncodeSorts stands on, made small by a program of this session (pack.py). -/
import Derived.Test.YtgddaddoabjgiaaCEncodeSorts2
import Derived.Test.YtgddaddoabjgiaaCEncodeSorts3
import Derived.Test.YtgddaddoabjgiaaCEncodeSorts5
import Derived.Test.YtgddaddoabjgiaaCEncodeSorts7
namespace Go.Proofs.Ytgddaddoabjgiaa.RTxt
open RowKit PB YtgddaddoabjgiaaW.PrintWords YtgddaddoabjgiaaW.PrintLast YtgddaddoabjgiaaW.PrintMore
open Bs BTxt
open Tx (chr ch2 ch3 ch4 cont lst valid plain printable canU can fill ends rep)
set_option linter.unusedVariables false
theorem char_at (s : ByteArray) (hs : s.size ≤ 140737488351232) (i : Nat) (hi : i < s.size) (k : Nat) : gantletref14_char.f (k + 20) s (i : Int) = some (chr ((bytesOf s).drop i) : Int) := by
 have ha := bt_range s (i : Int)
 have h0 : (bytesOf s).drop i = bt s (i : Int) :: (bytesOf s).drop (i + 1) := by
  have := drop_at s (i : Int) zz7 zz7
  rwa [Int.toNat_natCast, show ((i : Int) + 1).toNat = i + 1 by omega] at this
 have hn : ∀ j : Nat, i + j < s.size → (bytesOf s).drop (i + j) = bt s ((i : Int) + j) :: (bytesOf s).drop (i + j + 1) := by
  intro j hj
  have := drop_at s ((i : Int) + j) zz7 zz7
  rwa [show ((i : Int) + j).toNat = i + j by omega, show ((i : Int) + j + 1).toNat = i + j + 1 by omega] at this
 have he : ∀ j : Nat, s.size ≤ i + j → (bytesOf s).drop (i + j) = [] := by
  intro j hj
  rw [List.drop_eq_nil_iff, bytesOf_length]; omega
 have wa : ∀ j : Int, 0 ≤ j → j ≤ 4 → wrap64 ((i : Int) + j) = (i : Int) + j := fun j _ _ => w64 zz7 zz7
 have wb : ∀ j : Int, wrap64 (bt s j) = bt s j := fun j => by have := bt_range s j; exact w64 zz7 zz7
 rw [h0]
 generalize hav : bt s (i : Int) = a at *
 unfold gantletref14_char.f
 rw [if_pos zz7, if_pos zz7, hav, w64 (x := a) zz7 zz7]
 by_cases h1 : a < 128
 ·
  rw [if_pos h1]; simp only [chr]; rw [if_pos h1]; rfl
 rw [if_neg h1]
 have j5z : ∀ (m : Nat) (n : Int), gantletref14_char.j5 (m + 2) s (i : Int) 0 n = some 0 := by
  intro m n
  rw [gantletref14_char.j5, if_pos rfl, gantletref14_char.j6, if_pos rfl]
 have j5n : ∀ (m : Nat) (z n : Int), 2 ≤ z → z ≤ 4 → gantletref14_char.j5 (m + 2) s (i : Int) z n = if (i : Int) + z > s.size then some 0 else gantletref14_char.l0 m s (i : Int) z n 1 := by
  intro m z n hz hz'
  rw [gantletref14_char.j5, if_neg zz7, wa z zz7 hz', gantletref14_char.j6]
  by_cases h : (i : Int) + z > s.size
  ·
   rw [show decide ((i : Int) + z > s.size) = true by simpa using h, if_pos rfl, if_pos h]
  ·
   rw [show decide ((i : Int) + z > s.size) = false by simpa using h, if_neg zz13, if_neg h]
 have next : ∀ (m : Nat) (z n j : Int), 1 ≤ j → j < z → z ≤ 4 → (i : Int) + z ≤ s.size → 0 ≤ n → n < 100000000 → gantletref14_char.l0 (m + 1) s (i : Int) z n j =
  if cont (bt s ((i : Int) + j)) = true then gantletref14_char.l0 m s (i : Int) z (64 * n + bt s ((i : Int) + j) - 128) (j + 1) else some 0 := by
  intro m z n j h1 h2 h3 h4 h5 h6
  have := bt_range s ((i : Int) + j)
  rw [gantletref14_char.l0, if_pos h2, wa j zz7 zz7, if_pos zz7, if_pos zz7, wb, w64 (x := 64 * n) zz7 zz7, w64 (x := 64 * n + bt s ((i : Int) + j)) zz7 zz7, w64 (x := 64 * n + bt s ((i : Int) + j) - 128) zz7 zz7, w64 (x := j + 1) zz7 zz7]
  by_cases g1 : bt s ((i : Int) + j) < 128
  ·
   rw [if_pos g1, if_neg (by simp [cont]; omega)]
  ·
   rw [if_neg g1]
   by_cases g2 : bt s ((i : Int) + j) > 191
   ·
    rw [if_pos g2, if_neg (by simp [cont]; omega)]
   ·
    rw [if_neg g2, if_pos (by simp [cont]; omega)]
 have end2 : ∀ (m : Nat) (n : Int), n < 55296 → gantletref14_char.l0 (m + 1) s (i : Int) 2 n 2 = some (if n < 128 then 0 else 2) := by
  intro m n hn'
  rw [gantletref14_char.l0, if_neg zz13, if_pos rfl]
  by_cases h : n < 128
  ·
   rw [if_pos h, if_pos h]
  ·
   rw [if_neg h, if_neg h, if_neg zz13, if_neg zz13, if_neg zz7]
 have end3 : ∀ (m : Nat) (n : Int), gantletref14_char.l0 (m + 1) s (i : Int) 3 n 3 = some (if n < 2048 ∨ (55296 ≤ n ∧ n ≤ 57343) then 0 else 3) := by
  intro m n
  rw [gantletref14_char.l0, if_neg zz13, if_neg zz13, if_pos rfl]
  by_cases h : n < 2048
  ·
   rw [if_pos h, if_pos (.inl h)]
  ·
   rw [if_neg h, if_neg zz13]
   by_cases h2 : n ≥ 55296
   ·
    rw [if_pos h2]
    by_cases h3 : n ≤ 57343
    ·
     rw [if_pos h3, if_pos (.inr ⟨h2, h3⟩)]
    ·
     rw [if_neg h3, if_neg zz7]
   ·
    rw [if_neg h2, if_neg zz7]
 have end4 : ∀ (m : Nat) (n : Int), gantletref14_char.l0 (m + 1) s (i : Int) 4 n 4 = some (if n < 65536 ∨ n > 1114111 then 0 else 4) := by
  intro m n
  rw [gantletref14_char.l0, if_neg zz13, if_neg zz13, if_neg zz13, if_pos rfl]
  by_cases h : n < 65536
  ·
   rw [if_pos h, if_pos (.inl h)]
  ·
   rw [if_neg h]
   by_cases h2 : n > 1114111
   ·
    rw [if_pos h2, if_pos (.inr h2)]
   ·
    rw [if_neg h2, if_pos (show n ≥ 55296 by omega), if_neg (show ¬ n ≤ 57343 by omega), if_neg zz7]
 by_cases h2 : 192 ≤ a ∧ a < 224
 ·
  rw [if_pos (show a ≥ 192 from h2.1), show decide (a < 224) = true by simpa using h2.2]
  rw [gantletref14_char.j0, if_pos rfl, gantletref14_char.j1, if_neg zz7, gantletref14_char.j2, if_neg zz13, gantletref14_char.j3, if_neg zz7, gantletref14_char.j4, if_neg zz13, w64 (x := a - 192) zz7 zz7, j5n _ 2 _ zz13 zz13]
  simp only [chr]
  rw [if_neg h1, if_pos h2]
  by_cases hl : (i : Int) + 2 > s.size
  ·
   rw [if_pos hl, he 1 zz7]; rfl
  ·
   rw [if_neg hl, hn 1 zz7]
   have hb := bt_range s ((i : Int) + 1)
   simp only
   rw [next _ 2 _ 1 zz13 zz13 zz13 zz7 zz7 zz7, show ((i : Int) + ((1 : Nat) : Int)) = (i : Int) + 1 from rfl]
   by_cases hc : cont (bt s ((i : Int) + 1)) = true
   ·
    rw [if_pos hc, show (1 : Int) + 1 = 2 from rfl, end2 _ _ zz7]
    by_cases hx : 64 * (a - 192) + bt s ((i : Int) + 1) - 128 < 128
    ·
     rw [if_pos hx, if_neg (by simp [ch2, hc]; omega)]; rfl
    ·
     rw [if_neg hx, if_pos (by simp [ch2, hc]; omega)]; rfl
   ·
    rw [if_neg hc, if_neg (by simp [ch2, hc])]; rfl
 have e1 : (if a ≥ 192 then gantletref14_char.j0 (k + 20) s (i : Int) a 0 0 (decide (a < 224)) else gantletref14_char.j0 (k + 20) s (i : Int) a 0 0 false) = gantletref14_char.j1 (k + 19) s (i : Int) a 0 0 := by
  by_cases h : a ≥ 192
  ·
   rw [if_pos h, show decide (a < 224) = false by simp; omega, gantletref14_char.j0, if_neg zz13]
  ·
   rw [if_neg h, gantletref14_char.j0, if_neg zz13]
 rw [e1, gantletref14_char.j1]
 by_cases h3 : 224 ≤ a ∧ a < 240
 ·
  rw [if_pos (show a ≥ 224 from h3.1), show decide (a < 240) = true by simpa using h3.2, gantletref14_char.j2, if_pos rfl, gantletref14_char.j3, if_neg zz7, gantletref14_char.j4, if_neg zz13, w64 (x := a - 224) zz7 zz7, j5n _ 3 _ zz13 zz13]
  simp only [chr]
  rw [if_neg h1, if_neg h2, if_pos h3]
  by_cases hl : (i : Int) + 3 > s.size
  ·
   rw [if_pos hl]
   by_cases h4 : s.size ≤ i + 1
   ·
    rw [he 1 zz7]; rfl
   ·
    rw [hn 1 zz7, show i + 1 + 1 = i + 2 from rfl, he 2 zz7]; rfl
  ·
   rw [if_neg hl, hn 1 zz7, show i + 1 + 1 = i + 2 from rfl, hn 2 zz7]
   have hb := bt_range s ((i : Int) + 1)
   have hc := bt_range s ((i : Int) + 2)
   simp only
   rw [next _ 3 _ 1 zz13 zz13 zz13 zz7 zz7 zz7, show ((i : Int) + ((1 : Nat) : Int)) = (i : Int) + 1 from rfl, show ((i : Int) + ((2 : Nat) : Int)) = (i : Int) + 2 from rfl]
   by_cases g1 : cont (bt s ((i : Int) + 1)) = true
   ·
    have g1' := g1
    simp only [cont, Bool.and_eq_true, decide_eq_true_eq] at g1'
    rw [if_pos g1, show (1 : Int) + 1 = 2 from rfl, next _ 3 _ 2 zz13 zz13 zz13 zz7 zz7 zz7]
    by_cases g2 : cont (bt s ((i : Int) + 2)) = true
    ·
     rw [if_pos g2, show (2 : Int) + 1 = 3 from rfl, end3]
     obtain ⟨n, hn'⟩ : ∃ n, 64 * (64 * (a - 224) + bt s ((i : Int) + 1) - 128) + bt s ((i : Int) + 2) - 128 = n := ⟨_, rfl⟩
     have hch : ch3 a (bt s ((i : Int) + 1)) (bt s ((i : Int) + 2)) = (decide (2048 ≤ n) && !(decide (55296 ≤ n) && decide (n ≤ 57343))) := by
      simp only [ch3]; rw [g1, g2, hn']; simp
     rw [hn']
     by_cases hx : n < 2048 ∨ (55296 ≤ n ∧ n ≤ 57343)
     ·
      rw [if_pos hx, if_neg (by rw [hch]; simp; omega)]; rfl
     ·
      rw [if_neg hx, if_pos (by rw [hch]; simp; omega)]; rfl
    ·
     rw [if_neg g2, if_neg (by simp [ch3, g2])]; rfl
   ·
    rw [if_neg g1, if_neg (by simp [ch3, g1])]; rfl
 have e2 : (if a ≥ 224 then gantletref14_char.j2 (k + 18) s (i : Int) a 0 0 (decide (a < 240)) else gantletref14_char.j2 (k + 18) s (i : Int) a 0 0 false) = gantletref14_char.j3 (k + 17) s (i : Int) a 0 0 := by
  by_cases h : a ≥ 224
  ·
   rw [if_pos h, show decide (a < 240) = false by simp; omega, gantletref14_char.j2, if_neg zz13]
  ·
   rw [if_neg h, gantletref14_char.j2, if_neg zz13]
 rw [e2, gantletref14_char.j3]
 by_cases h4 : 240 ≤ a ∧ a < 248
 ·
  rw [if_pos (show a ≥ 240 from h4.1), show decide (a < 248) = true by simpa using h4.2, gantletref14_char.j4, if_pos rfl, w64 (x := a - 240) zz7 zz7, j5n _ 4 _ zz13 zz13]
  simp only [chr]
  rw [if_neg h1, if_neg h2, if_neg h3, if_pos h4]
  by_cases hl : (i : Int) + 4 > s.size
  ·
   rw [if_pos hl]
   by_cases g4 : s.size ≤ i + 1
   ·
    rw [he 1 zz7]; rfl
   ·
    rw [hn 1 zz7, show i + 1 + 1 = i + 2 from rfl]
    by_cases g5 : s.size ≤ i + 2
    ·
     rw [he 2 zz7]; rfl
    ·
     rw [hn 2 zz7, show i + 2 + 1 = i + 3 from rfl, he 3 zz7]; rfl
  ·
   rw [if_neg hl, hn 1 zz7, show i + 1 + 1 = i + 2 from rfl, hn 2 zz7, show i + 2 + 1 = i + 3 from rfl, hn 3 zz7]
   have hb := bt_range s ((i : Int) + 1)
   have hc := bt_range s ((i : Int) + 2)
   have hd := bt_range s ((i : Int) + 3)
   simp only
   rw [next _ 4 _ 1 zz13 zz13 zz13 zz7 zz7 zz7, show ((i : Int) + ((1 : Nat) : Int)) = (i : Int) + 1 from rfl, show ((i : Int) + ((2 : Nat) : Int)) = (i : Int) + 2 from rfl, show ((i : Int) + ((3 : Nat) : Int)) = (i : Int) + 3 from rfl]
   by_cases g1 : cont (bt s ((i : Int) + 1)) = true
   ·
    have g1' := g1
    simp only [cont, Bool.and_eq_true, decide_eq_true_eq] at g1'
    rw [if_pos g1, show (1 : Int) + 1 = 2 from rfl, next _ 4 _ 2 zz13 zz13 zz13 zz7 zz7 zz7]
    by_cases g2 : cont (bt s ((i : Int) + 2)) = true
    ·
     have g2' := g2
     simp only [cont, Bool.and_eq_true, decide_eq_true_eq] at g2'
     rw [if_pos g2, show (2 : Int) + 1 = 3 from rfl, next _ 4 _ 3 zz13 zz13 zz13 zz7 zz7 zz7]
     by_cases g3 : cont (bt s ((i : Int) + 3)) = true
     ·
      rw [if_pos g3, show (3 : Int) + 1 = 4 from rfl, end4]
      obtain ⟨n, hn'⟩ : ∃ n, 64 * (64 * (64 * (a - 240) + bt s ((i : Int) + 1) - 128) + bt s ((i : Int) + 2) - 128) + bt s ((i : Int) + 3) - 128 = n := ⟨_, rfl⟩
      have hch : ch4 a (bt s ((i : Int) + 1)) (bt s ((i : Int) + 2)) (bt s ((i : Int) + 3)) = (decide (65536 ≤ n) && decide (n ≤ 1114111)) := by
       simp only [ch4]; rw [g1, g2, g3, hn']; simp
      rw [hn']
      by_cases hx : n < 65536 ∨ n > 1114111
      ·
       rw [if_pos hx, if_neg (by rw [hch]; simp; omega)]; rfl
      ·
       rw [if_neg hx, if_pos (by rw [hch]; simp; omega)]; rfl
     ·
      rw [if_neg g3, if_neg (by simp [ch4, g3])]; rfl
    ·
     rw [if_neg g2, if_neg (by simp [ch4, g2])]; rfl
   ·
    rw [if_neg g1, if_neg (by simp [ch4, g1])]; rfl
 have e3 : (if a ≥ 240 then gantletref14_char.j4 (k + 16) s (i : Int) a 0 0 (decide (a < 248)) else gantletref14_char.j4 (k + 16) s (i : Int) a 0 0 false) = some 0 := by
  by_cases h : a ≥ 240
  ·
   rw [if_pos h, show decide (a < 248) = false by simp; omega, gantletref14_char.j4, if_neg zz13, j5z]
  ·
   rw [if_neg h, gantletref14_char.j4, if_neg zz13, j5z]
 rw [e3]
 simp only [chr]
 rw [if_neg h1, if_neg h2, if_neg h3, if_neg h4]; rfl
theorem utf8_l0 (s : ByteArray) (hs : s.size ≤ 140737488351232) : ∀ (d k i : Nat), i + d = s.size → d + 22 ≤ k → gantletref14_Utf8.l0 k s (i : Int) = some (valid d ((bytesOf s).drop i)) := by
 intro d
 induction d using Nat.strongRecOn with
 | _ d ih =>
   intro k i hi hk
   obtain ⟨k, rfl⟩ : ∃ m, k = m + 21 := ⟨k - 21, zz7⟩
   rw [gantletref14_Utf8.l0]
   cases d with
   | zero =>
     rw [if_neg zz7, List.drop_of_length_le zz70]; rfl
   | succ d =>
     have hl : ((bytesOf s).drop i).length = d + 1 := by rw [List.length_drop, bytesOf_length]; omega
     rw [if_pos zz7, char_at s hs i zz7 k]
     simp only [Option.bind_some, valid]
     rw [show ((bytesOf s).drop i).isEmpty = false by cases h : (bytesOf s).drop i with | nil => rw [h] at hl; simp at hl | cons a r => rfl, if_neg (show ¬ (false = true) by decide)]
     have hle := Tx.chr_le ((bytesOf s).drop i)
     by_cases hc : chr ((bytesOf s).drop i) = 0
     ·
      rw [if_pos zz7, if_pos hc]
     ·
      rw [if_neg zz7, if_neg hc, w64 zz7 zz7, show ((i : Int) + (chr ((bytesOf s).drop i) : Int)) = ((i + chr ((bytesOf s).drop i) : Nat) : Int) by omega]
      rw [ih (d + 1 - chr ((bytesOf s).drop i)) zz7 _ _ zz7 zz7, List.drop_drop]
      congr 1
      exact Tx.valid_more _ _ _ (by rw [List.length_drop, bytesOf_length]; omega) (by rw [List.length_drop, bytesOf_length]; omega)
theorem utf8_eq (s : ByteArray) (hs : s.size ≤ 140737488351232) (k : Nat) (hk : s.size + 22 ≤ k) : gantletref14_Utf8.f k s = some (valid s.size (bytesOf s)) := by
 have := utf8_l0 s hs s.size k 0 zz7 hk
 unfold gantletref14_Utf8.f
 simpa using this
theorem plain_eq (k : Nat) (tag b : Int) (h0 : 0 ≤ b) (h1 : b < 256) (ht : tag ≠ 12) : gantletref14_plain.f (k + 20) tag b = some (plain tag b) := by
 refine at_rounds (g := fun k => gantletref14_plain.f k tag b) (fun k => gantletref14_plain.mono tag b k) (show 20 ≤ k + 20 by omega) ?_
 show gantletref14_plain.f 20 tag b = _
 by_cases h22 : tag = 22
 ·
  unfold gantletref14_plain.f plain; rw [if_pos h22, if_pos h22]
 by_cases h19 : tag = 19
 ·
  subst h19
  have : ∀ n : Nat, n < 256 → gantletref14_plain.f 20 19 (n : Int) = some (plain 19 (n : Int)) := by decide +kernel
  have := this b.toNat zz7
  rwa [Int.toNat_of_nonneg h0] at this
 ·
  unfold gantletref14_plain.f plain; rw [if_neg h22, if_neg h19, if_neg h22, if_neg h19]
theorem check_l0 (tag : Int) (ht : tag ≠ 12) (s : ByteArray) (hs : s.size ≤ 140737488351232) : ∀ (d k i : Nat), i + d = s.size → d + 22 ≤ k → gantletref14_Check.l0 k tag s (i : Int) = some (((bytesOf s).drop i).all (plain tag)) := by
 intro d
 induction d with
 | zero =>
   intro k i hi hk
   obtain ⟨k, rfl⟩ : ∃ m, k = m + 1 := ⟨k - 1, zz7⟩
   rw [gantletref14_Check.l0, if_neg zz7, List.drop_of_length_le zz70]; rfl
 | succ d ih =>
   intro k i hi hk
   obtain ⟨k, rfl⟩ : ∃ m, k = m + 21 := ⟨k - 21, zz7⟩
   have hb := bt_range s (i : Int)
   have hd := drop_at s (i : Int) zz7 zz7
   rw [Int.toNat_natCast, show ((i : Int) + 1).toNat = i + 1 by omega] at hd
   rw [gantletref14_Check.l0, if_pos zz7, if_pos zz7, plain_eq k tag _ hb.1 zz7 ht, hd]
   simp only [Option.bind_some, List.all_cons]
   by_cases hp : plain tag (bt s (i : Int)) = true
   ·
    rw [if_pos hp, hp, w64 zz7 zz7, show ((i : Int) + 1) = ((i + 1 : Nat) : Int) by omega, ih (k + 20) (i + 1) zz7 zz7]; rfl
   ·
    rw [if_neg hp, show plain tag (bt s (i : Int)) = false by simpa using hp]; rfl
theorem rcheck_eq (tag : Int) (s : ByteArray) (hs : s.size ≤ 140737488351232) (k : Nat) (hk : s.size + 22 ≤ k) : gantletref14_Check.f k tag s = some (Tx.check tag (bytesOf s)) := by
 unfold gantletref14_Check.f Tx.check
 by_cases h : tag = 12
 ·
  rw [if_pos h, if_pos h, utf8_eq s hs k hk, bytesOf_length]; rfl
 ·
  rw [if_neg h, if_neg h]
  have := check_l0 tag h s hs s.size k 0 zz7 hk
  simpa using this
end Go.Proofs.Ytgddaddoabjgiaa.RTxt
namespace Go.Proofs.Ytgddaddoabjgiaa.Nm
def Bytes (l : List Int) : Prop := ∀ b, b ∈ l → 0 ≤ b ∧ b < 256
def pn : Nat → Int → List Int
 | 0, v => [v % 256]
 | n + 1, v => if v > 127 ∨ v < -128 then pn n (v / 256) ++ [v % 256] else [v % 256]
def sb (b : Int) : Int := if b > 127 then b - 256 else b
def fo (v : Int) : List Int → Int
 | [] => v
 | b :: r => fo (256 * v + b) r
def sv : List Int → Int
 | [] => 0
 | b :: r => fo (sb b) r
def Least : List Int → Prop
 | a :: b :: _ => ¬ (a = 0 ∧ b < 128) ∧ ¬ (a = 255 ∧ 128 ≤ b)
 | _ => True
def Fits : Nat → Int → Prop
 | 0, v => -128 ≤ v ∧ v ≤ 127
 | n + 1, v => Fits n (v / 256)
inductive Le : List Int → List Int → Prop
 | nil : Le [] []
 | same (a : Int) {x y : List Int} : Le x y → Le (a :: x) (a :: y)
 | less {a b : Int} {x y : List Int} : a < b → Le (a :: x) (b :: y)
theorem Le.refl : ∀ l, Le l l
 | [] => .nil
 | a :: l => .same a (Le.refl l)
theorem Le.snoc {x y : List Int} (h : Le x y) (hl : x.length = y.length) (hne : x ≠ y) (a b : Int) : Le (x ++ [a]) (y ++ [b]) := by
 induction h with
 | nil => exact absurd rfl hne
 | same c h ih =>
   refine .same c (ih (by simpa using hl) ?_)
   intro he; exact hne (by rw [he])
 | less h => exact .less h
end Go.Proofs.Ytgddaddoabjgiaa.Nm
namespace Go.Proofs.Ytgddaddoabjgiaa.PB
open RowKit YtgddaddoabjgiaaW.PrintWords YtgddaddoabjgiaaW.PrintLast YtgddaddoabjgiaaW.PrintMore
attribute [local go_sem] max2_int min2_int max_two min_two max_three min_three max_four min_four
set_option linter.unusedVariables false
set_option linter.unusedSimpArgs false
def number_State_Push.j0 : Nat → Int → Bool → Int → Int → Int → Int → Option (Int × Int × Int × Int × Bool)
 | 0, _, _, _, _, _, _ => none
 | k + 1, x1, x6, x150000, x150001, x150002, x150003 => if x6 = true then (if x150002 = 0 then (some (x150000, x150001, wrap64 (x150002 + 1), x1, true)) else (some (x150000, x150001, wrap64 (x150002 + 1), x150003, true))) else (some (0, 0, 0, 0, false))
def number_State_Push.f (k : Nat) (a0_0 : Int) (a0_1 : Int) (a0_2 : Int) (a0_3 : Int) (a1 : Int) : Option (Int × Int × Int × Int × Bool) := if a0_0 = 1 then (if a1 = 0 then (number_State_Push.j0 k a1 true a0_0 a0_1 a0_2 a0_3) else (number_State_Push.j0 k a1 (a1 == 255) a0_0 a0_1 a0_2 a0_3)) else (if a0_0 = 2 then (if a0_2 = 1 then (if a0_3 = 0 then (if a1 < 128 then (number_State_Push.j0 k a1 (!true) a0_0 a0_1 a0_2 a0_3) else (if a0_3 = 255 then (number_State_Push.j0 k a1 (!(decide (a1 ≥ 128))) a0_0 a0_1 a0_2 a0_3) else (number_State_Push.j0 k a1 (!false) a0_0 a0_1 a0_2 a0_3))) else (if a0_3 = 255 then (number_State_Push.j0 k a1 (!(decide (a1 ≥ 128))) a0_0 a0_1 a0_2 a0_3) else (number_State_Push.j0 k a1 (!false) a0_0 a0_1 a0_2 a0_3))) else (number_State_Push.j0 k a1 true a0_0 a0_1 a0_2 a0_3)) else (if a0_0 = 10 then (if a0_2 = 1 then (if a0_3 = 0 then (if a1 < 128 then (number_State_Push.j0 k a1 (!true) a0_0 a0_1 a0_2 a0_3) else (if a0_3 = 255 then (number_State_Push.j0 k a1 (!(decide (a1 ≥ 128))) a0_0 a0_1 a0_2 a0_3) else (number_State_Push.j0 k a1 (!false) a0_0 a0_1 a0_2 a0_3))) else (if a0_3 = 255 then (number_State_Push.j0 k a1 (!(decide (a1 ≥ 128))) a0_0 a0_1 a0_2 a0_3) else (number_State_Push.j0 k a1 (!false) a0_0 a0_1 a0_2 a0_3))) else (number_State_Push.j0 k a1 true a0_0 a0_1 a0_2 a0_3)) else (number_State_Push.j0 k a1 true a0_0 a0_1 a0_2 a0_3)))
set_option maxHeartbeats 8000000 in
set_option maxRecDepth 100000 in
theorem number_State_Push.calls (k : Nat) (a0_0 : Int) (a0_1 : Int) (a0_2 : Int) (a0_3 : Int) (a1 : Int) (r1 : Int) (r2 : Int) (r3 : Int) (r4 : Int) (r5 : Bool) (w : World) (h : number_State_Push.f k a0_0 a0_1 a0_2 a0_3 a1 = some (r1, r2, r3, r4, r5)) :
 Calls Try.prog 88 #[.agg #[.int .i64 a0_0, .int .i64 a0_1, .int .i64 a0_2, .int .u8 a0_3], .int .u8 a1] w fun e w' => e = .returned (.tuple #[.agg #[.int .i64 r1, .int .i64 r2, .int .i64 r3, .int .u8 r4], .bool r5]) ∧ Below w.heap.size w w' := by
 have hu125 := Try.underlying125
 have HB := Aside0.mk (Below.refl w.heap.size w)
 have H : (if a0_0 = 1 then (if a1 = 0 then (number_State_Push.j0 k a1 true a0_0 a0_1 a0_2 a0_3) else (number_State_Push.j0 k a1 (a1 == 255) a0_0 a0_1 a0_2 a0_3)) else (if a0_0 = 2 then (if a0_2 = 1 then (if a0_3 = 0 then (if a1 < 128 then (number_State_Push.j0 k a1 (!true) a0_0 a0_1 a0_2 a0_3) else (if a0_3 = 255 then (number_State_Push.j0 k a1 (!(decide (a1 ≥ 128))) a0_0 a0_1 a0_2 a0_3) else (number_State_Push.j0 k a1 (!false) a0_0 a0_1 a0_2 a0_3))) else (if a0_3 = 255 then (number_State_Push.j0 k a1 (!(decide (a1 ≥ 128))) a0_0 a0_1 a0_2 a0_3) else (number_State_Push.j0 k a1 (!false) a0_0 a0_1 a0_2 a0_3))) else (number_State_Push.j0 k a1 true a0_0 a0_1 a0_2 a0_3)) else (if a0_0 = 10 then (if a0_2 = 1 then (if a0_3 = 0 then (if a1 < 128 then (number_State_Push.j0 k a1 (!true) a0_0 a0_1 a0_2 a0_3) else (if a0_3 = 255 then (number_State_Push.j0 k a1 (!(decide (a1 ≥ 128))) a0_0 a0_1 a0_2 a0_3) else (number_State_Push.j0 k a1 (!false) a0_0 a0_1 a0_2 a0_3))) else (if a0_3 = 255 then (number_State_Push.j0 k a1 (!(decide (a1 ≥ 128))) a0_0 a0_1 a0_2 a0_3) else (number_State_Push.j0 k a1 (!false) a0_0 a0_1 a0_2 a0_3))) else (number_State_Push.j0 k a1 true a0_0 a0_1 a0_2 a0_3)) else (number_State_Push.j0 k a1 true a0_0 a0_1 a0_2 a0_3)))) = some (r1, r2, r3, r4, r5) := h
 clear h
 have HC3 := Aside0.mk H
 clear H
 go_enter Try.func88, Try.ntmps88
 go_upto_block 0 with (first | ((with_reducible refine gate_dst (N := 2) rfl ?_); refine zzbx (N := 2) (cs := #[.int .i64 a0_0, .int .i64 a0_1, .int .i64 a0_2, .int .u8 a0_3]) (t := 125) ?_; intro gb149 hg w4 hbox hb; have n0_ := Aside0.mk (below_step zz1 hb); have n1_ := Aside0.mk (hbox); have n2_ := Aside0.mk ((zz15 : w.heap.size ≤ gb149)); have n3_ := Aside0.mk ((zz15 : w.heap.size ≤ gb149)); clear HB; have HB := n0_; have BK149 := n1_; have GW149 := n2_; have GE149 := n3_; clear n0_ n1_ n2_ n3_; clear hb hbox hg) | ((with_reducible refine gate_dst (N := 4) rfl ?_); refine zzbx (N := 4) (cs := #[.int .i64 0, .int .i64 0, .int .i64 0, .int .u8 0]) (t := 125) ?_; intro gb150 hg w5 hbox hb; have n0_ := Aside0.mk (blk_below (g := gb149) (o := .cells #[.int .i64 a0_0, .int .i64 a0_1, .int .i64 a0_2, .int .u8 a0_3] 125 (0, 0)) zz25 hb); have n1_ := Aside0.mk (below_step zz69 hb); have n2_ := Aside0.mk (hbox); have n3_ := Aside0.mk ((by rw [hg]; exact (below_size zz69) : w.heap.size ≤ gb150)); have n4_ := Aside0.mk ((by rw [hg]; exact (below_size zz69) : w.heap.size ≤ gb150)); have n5_ := Aside0.mk ((by rw [hg]; exact Nat.ne_of_lt (blk_lt (g := gb149) (o := .cells #[.int .i64 a0_0, .int .i64 a0_1, .int .i64 a0_2, .int .u8 a0_3] 125 (0, 0)) zz25) : gb149 ≠ gb150)); have n6_ := Aside0.mk ((by rw [hg]; exact Nat.ne_of_gt (blk_lt (g := gb149) (o := .cells #[.int .i64 a0_0, .int .i64 a0_1, .int .i64 a0_2, .int .u8 a0_3] 125 (0, 0)) zz25) : gb150 ≠ gb149)); clear BK149; clear HB; have BK149 := n0_; have HB := n1_; have BK150 := n2_; have GW150 := n3_; have GE150 := n4_; have NB149_150 := n5_; have NB150_149 := n6_; clear n0_ n1_ n2_ n3_ n4_ n5_ n6_; clear hb hbox hg))
 (try simp only [Act.put, List.setIfInBounds_toArray, List.set_cons_zero, List.set_cons_succ])
 go_cut [6] (fun v6 wc => ∃ (kq : Nat) (x6_2 : Bool), v6 = .bool x6_2 ∧ Aside0 (number_State_Push.j0 kq a1 x6_2 a0_0 a0_1 a0_2 a0_3 = some (r1, r2, r3, r4, r5)) ∧ Aside0 (kq ≤ k) ∧ Aside0 (wc.heap[gb149]? = some (.cells #[.int .i64 a0_0, .int .i64 a0_1, .int .i64 a0_2, .int .u8 a0_3] 125 (0, 0))) ∧ Aside0 (wc.heap[gb150]? = some (.cells #[.int .i64 0, .int .i64 0, .int .i64 0, .int .u8 0] 125 (0, 0))) ∧ Aside0 (Below w.heap.size w wc))
 case first =>
  have H := HC3.out
  clear HC3
  by_cases c6 : a0_0 = 1
  ·
   rw [if_pos c6] at H
   have c6b0 : (a0_0 == 1) = true := beq_iff_eq.mpr c6
   have c6b1 : (a0_0 != 1) = false := bne_eq_false_iff_eq.mpr c6
   clear c6
   (first | rw [c6b0] | (simp only [i64_w, i32_w]; rw [c6b0]) | skip)
   by_cases c7 : a1 = 0
   ·
    rw [if_pos c7] at H
    have c7b0 : (a1 == 0) = true := beq_iff_eq.mpr c7
    have c7b1 : (a1 != 0) = false := bne_eq_false_iff_eq.mpr c7
    clear c7
    have H' := Aside0.mk H
    clear H
    have hnb8 := NB149_150.out
    have hnc8 := NB150_149.out
    have hcz9_0 : w5.cell? ⟨gb149, 0, none⟩ = some (.int .i64 a0_0) := (blk_cell BK149.out 0).trans rfl
    have hcz9_1 : w5.cell? ⟨gb149, 1, none⟩ = some (.int .i64 a0_1) := (blk_cell BK149.out 1).trans rfl
    have hcz9_2 : w5.cell? ⟨gb149, 2, none⟩ = some (.int .i64 a0_2) := (blk_cell BK149.out 2).trans rfl
    have hcz9_3 : w5.cell? ⟨gb149, 3, none⟩ = some (.int .u8 a0_3) := (blk_cell BK149.out 3).trans rfl
    have hfz9_0 := blk_frozen BK149.out 0
    have hfz9_1 := blk_frozen BK149.out 1
    have hfz9_2 := blk_frozen BK149.out 2
    have hfz9_3 := blk_frozen BK149.out 3
    go_wp2
    go_meet
    case rel => exact ⟨_, (true), zz0, H', ⟨zz28⟩, ⟨zz25⟩, ⟨zz31⟩, ⟨zz11⟩⟩
   ·
    rw [if_neg c7] at H
    have c7b0 : (a1 == 0) = false := beq_eq_false_iff_ne.mpr c7
    have c7b1 : (a1 != 0) = true := bne_iff_ne.mpr c7
    have H' := Aside0.mk H
    clear H
    have hnb10 := NB149_150.out
    have hnc10 := NB150_149.out
    have hcz11_0 : w5.cell? ⟨gb149, 0, none⟩ = some (.int .i64 a0_0) := (blk_cell BK149.out 0).trans rfl
    have hcz11_1 : w5.cell? ⟨gb149, 1, none⟩ = some (.int .i64 a0_1) := (blk_cell BK149.out 1).trans rfl
    have hcz11_2 : w5.cell? ⟨gb149, 2, none⟩ = some (.int .i64 a0_2) := (blk_cell BK149.out 2).trans rfl
    have hcz11_3 : w5.cell? ⟨gb149, 3, none⟩ = some (.int .u8 a0_3) := (blk_cell BK149.out 3).trans rfl
    have hfz11_0 := blk_frozen BK149.out 0
    have hfz11_1 := blk_frozen BK149.out 1
    have hfz11_2 := blk_frozen BK149.out 2
    have hfz11_3 := blk_frozen BK149.out 3
    go_wp2
    go_meet
    case rel => exact ⟨_, ((a1 == 255)), zz0, H', ⟨zz28⟩, ⟨zz25⟩, ⟨zz31⟩, ⟨zz11⟩⟩
  ·
   rw [if_neg c6] at H
   have c6b0 : (a0_0 == 1) = false := beq_eq_false_iff_ne.mpr c6
   have c6b1 : (a0_0 != 1) = true := bne_iff_ne.mpr c6
   (first | rw [c6b0] | (simp only [i64_w, i32_w]; rw [c6b0]) | skip)
   by_cases c12 : a0_0 = 2
   ·
    rw [if_pos c12] at H
    have c12b0 : (a0_0 == 2) = true := beq_iff_eq.mpr c12
    have c12b1 : (a0_0 != 2) = false := bne_eq_false_iff_eq.mpr c12
    clear c12
    by_cases c13 : a0_2 = 1
    ·
     rw [if_pos c13] at H
     have c13b0 : (a0_2 == 1) = true := beq_iff_eq.mpr c13
     have c13b1 : (a0_2 != 1) = false := bne_eq_false_iff_eq.mpr c13
     clear c13
     by_cases c14 : a0_3 = 0
     ·
      rw [if_pos c14] at H
      have c14b0 : (a0_3 == 0) = true := beq_iff_eq.mpr c14
      have c14b1 : (a0_3 != 0) = false := bne_eq_false_iff_eq.mpr c14
      clear c14
      by_cases c15 : a1 < 128
      ·
       rw [if_pos c15] at H
       have c15b0 : decide (a1 < 128) = true := decide_eq_true c15
       clear c15
       have H' := Aside0.mk H
       clear H
       have hnb16 := NB149_150.out
       have hnc16 := NB150_149.out
       have hcz17_0 : w5.cell? ⟨gb149, 0, none⟩ = some (.int .i64 a0_0) := (blk_cell BK149.out 0).trans rfl
       have hcz17_1 : w5.cell? ⟨gb149, 1, none⟩ = some (.int .i64 a0_1) := (blk_cell BK149.out 1).trans rfl
       have hcz17_2 : w5.cell? ⟨gb149, 2, none⟩ = some (.int .i64 a0_2) := (blk_cell BK149.out 2).trans rfl
       have hcz17_3 : w5.cell? ⟨gb149, 3, none⟩ = some (.int .u8 a0_3) := (blk_cell BK149.out 3).trans rfl
       have hfz17_0 := blk_frozen BK149.out 0
       have hfz17_1 := blk_frozen BK149.out 1
       have hfz17_2 := blk_frozen BK149.out 2
       have hfz17_3 := blk_frozen BK149.out 3
       go_wp2
       go_meet
       case rel => exact ⟨_, (!true), zz0, H', ⟨zz28⟩, ⟨zz25⟩, ⟨zz31⟩, ⟨zz11⟩⟩
      ·
       rw [if_neg c15] at H
       have c15b0 : decide (a1 < 128) = false := decide_eq_false c15
       clear c15
       by_cases c18 : a0_3 = 255
       ·
        rw [if_pos c18] at H
        have c18b0 : (a0_3 == 255) = true := beq_iff_eq.mpr c18
        have c18b1 : (a0_3 != 255) = false := bne_eq_false_iff_eq.mpr c18
        clear c18
        have H' := Aside0.mk H
        clear H
        have hnb19 := NB149_150.out
        have hnc19 := NB150_149.out
        have hcz20_0 : w5.cell? ⟨gb149, 0, none⟩ = some (.int .i64 a0_0) := (blk_cell BK149.out 0).trans rfl
        have hcz20_1 : w5.cell? ⟨gb149, 1, none⟩ = some (.int .i64 a0_1) := (blk_cell BK149.out 1).trans rfl
        have hcz20_2 : w5.cell? ⟨gb149, 2, none⟩ = some (.int .i64 a0_2) := (blk_cell BK149.out 2).trans rfl
        have hcz20_3 : w5.cell? ⟨gb149, 3, none⟩ = some (.int .u8 a0_3) := (blk_cell BK149.out 3).trans rfl
        have hfz20_0 := blk_frozen BK149.out 0
        have hfz20_1 := blk_frozen BK149.out 1
        have hfz20_2 := blk_frozen BK149.out 2
        have hfz20_3 := blk_frozen BK149.out 3
        go_wp2
        go_meet
        case rel => exact ⟨_, (!(decide (a1 ≥ 128))), zz0, H', ⟨zz28⟩, ⟨zz25⟩, ⟨zz31⟩, ⟨zz11⟩⟩
       ·
        rw [if_neg c18] at H
        have c18b0 : (a0_3 == 255) = false := beq_eq_false_iff_ne.mpr c18
        have c18b1 : (a0_3 != 255) = true := bne_iff_ne.mpr c18
        have H' := Aside0.mk H
        clear H
        have hnb21 := NB149_150.out
        have hnc21 := NB150_149.out
        have hcz22_0 : w5.cell? ⟨gb149, 0, none⟩ = some (.int .i64 a0_0) := (blk_cell BK149.out 0).trans rfl
        have hcz22_1 : w5.cell? ⟨gb149, 1, none⟩ = some (.int .i64 a0_1) := (blk_cell BK149.out 1).trans rfl
        have hcz22_2 : w5.cell? ⟨gb149, 2, none⟩ = some (.int .i64 a0_2) := (blk_cell BK149.out 2).trans rfl
        have hcz22_3 : w5.cell? ⟨gb149, 3, none⟩ = some (.int .u8 a0_3) := (blk_cell BK149.out 3).trans rfl
        have hfz22_0 := blk_frozen BK149.out 0
        have hfz22_1 := blk_frozen BK149.out 1
        have hfz22_2 := blk_frozen BK149.out 2
        have hfz22_3 := blk_frozen BK149.out 3
        go_wp2
        go_meet
        case rel => exact ⟨_, (!false), zz0, H', ⟨zz28⟩, ⟨zz25⟩, ⟨zz31⟩, ⟨zz11⟩⟩
     ·
      rw [if_neg c14] at H
      have c14b0 : (a0_3 == 0) = false := beq_eq_false_iff_ne.mpr c14
      have c14b1 : (a0_3 != 0) = true := bne_iff_ne.mpr c14
      by_cases c23 : a0_3 = 255
      ·
       rw [if_pos c23] at H
       have c23b0 : (a0_3 == 255) = true := beq_iff_eq.mpr c23
       have c23b1 : (a0_3 != 255) = false := bne_eq_false_iff_eq.mpr c23
       clear c23
       have H' := Aside0.mk H
       clear H
       have hnb24 := NB149_150.out
       have hnc24 := NB150_149.out
       have hcz25_0 : w5.cell? ⟨gb149, 0, none⟩ = some (.int .i64 a0_0) := (blk_cell BK149.out 0).trans rfl
       have hcz25_1 : w5.cell? ⟨gb149, 1, none⟩ = some (.int .i64 a0_1) := (blk_cell BK149.out 1).trans rfl
       have hcz25_2 : w5.cell? ⟨gb149, 2, none⟩ = some (.int .i64 a0_2) := (blk_cell BK149.out 2).trans rfl
       have hcz25_3 : w5.cell? ⟨gb149, 3, none⟩ = some (.int .u8 a0_3) := (blk_cell BK149.out 3).trans rfl
       have hfz25_0 := blk_frozen BK149.out 0
       have hfz25_1 := blk_frozen BK149.out 1
       have hfz25_2 := blk_frozen BK149.out 2
       have hfz25_3 := blk_frozen BK149.out 3
       go_wp2
       go_meet
       case rel => exact ⟨_, (!(decide (a1 ≥ 128))), zz0, H', ⟨zz28⟩, ⟨zz25⟩, ⟨zz31⟩, ⟨zz11⟩⟩
      ·
       rw [if_neg c23] at H
       have c23b0 : (a0_3 == 255) = false := beq_eq_false_iff_ne.mpr c23
       have c23b1 : (a0_3 != 255) = true := bne_iff_ne.mpr c23
       have H' := Aside0.mk H
       clear H
       have hnb26 := NB149_150.out
       have hnc26 := NB150_149.out
       have hcz27_0 : w5.cell? ⟨gb149, 0, none⟩ = some (.int .i64 a0_0) := (blk_cell BK149.out 0).trans rfl
       have hcz27_1 : w5.cell? ⟨gb149, 1, none⟩ = some (.int .i64 a0_1) := (blk_cell BK149.out 1).trans rfl
       have hcz27_2 : w5.cell? ⟨gb149, 2, none⟩ = some (.int .i64 a0_2) := (blk_cell BK149.out 2).trans rfl
       have hcz27_3 : w5.cell? ⟨gb149, 3, none⟩ = some (.int .u8 a0_3) := (blk_cell BK149.out 3).trans rfl
       have hfz27_0 := blk_frozen BK149.out 0
       have hfz27_1 := blk_frozen BK149.out 1
       have hfz27_2 := blk_frozen BK149.out 2
       have hfz27_3 := blk_frozen BK149.out 3
       go_wp2
       go_meet
       case rel => exact ⟨_, (!false), zz0, H', ⟨zz28⟩, ⟨zz25⟩, ⟨zz31⟩, ⟨zz11⟩⟩
    ·
     rw [if_neg c13] at H
     have c13b0 : (a0_2 == 1) = false := beq_eq_false_iff_ne.mpr c13
     have c13b1 : (a0_2 != 1) = true := bne_iff_ne.mpr c13
     have H' := Aside0.mk H
     clear H
     have hnb28 := NB149_150.out
     have hnc28 := NB150_149.out
     have hcz29_0 : w5.cell? ⟨gb149, 0, none⟩ = some (.int .i64 a0_0) := (blk_cell BK149.out 0).trans rfl
     have hcz29_1 : w5.cell? ⟨gb149, 1, none⟩ = some (.int .i64 a0_1) := (blk_cell BK149.out 1).trans rfl
     have hcz29_2 : w5.cell? ⟨gb149, 2, none⟩ = some (.int .i64 a0_2) := (blk_cell BK149.out 2).trans rfl
     have hcz29_3 : w5.cell? ⟨gb149, 3, none⟩ = some (.int .u8 a0_3) := (blk_cell BK149.out 3).trans rfl
     have hfz29_0 := blk_frozen BK149.out 0
     have hfz29_1 := blk_frozen BK149.out 1
     have hfz29_2 := blk_frozen BK149.out 2
     have hfz29_3 := blk_frozen BK149.out 3
     go_wp2
     go_meet
     case rel => exact ⟨_, (true), zz0, H', ⟨zz28⟩, ⟨zz25⟩, ⟨zz31⟩, ⟨zz11⟩⟩
   ·
    rw [if_neg c12] at H
    have c12b0 : (a0_0 == 2) = false := beq_eq_false_iff_ne.mpr c12
    have c12b1 : (a0_0 != 2) = true := bne_iff_ne.mpr c12
    by_cases c30 : a0_0 = 10
    ·
     rw [if_pos c30] at H
     have c30b0 : (a0_0 == 10) = true := beq_iff_eq.mpr c30
     have c30b1 : (a0_0 != 10) = false := bne_eq_false_iff_eq.mpr c30
     clear c30
     by_cases c31 : a0_2 = 1
     ·
      rw [if_pos c31] at H
      have c31b0 : (a0_2 == 1) = true := beq_iff_eq.mpr c31
      have c31b1 : (a0_2 != 1) = false := bne_eq_false_iff_eq.mpr c31
      clear c31
      by_cases c32 : a0_3 = 0
      ·
       rw [if_pos c32] at H
       have c32b0 : (a0_3 == 0) = true := beq_iff_eq.mpr c32
       have c32b1 : (a0_3 != 0) = false := bne_eq_false_iff_eq.mpr c32
       clear c32
       by_cases c33 : a1 < 128
       ·
        rw [if_pos c33] at H
        have c33b0 : decide (a1 < 128) = true := decide_eq_true c33
        clear c33
        have H' := Aside0.mk H
        clear H
        have hnb34 := NB149_150.out
        have hnc34 := NB150_149.out
        have hcz35_0 : w5.cell? ⟨gb149, 0, none⟩ = some (.int .i64 a0_0) := (blk_cell BK149.out 0).trans rfl
        have hcz35_1 : w5.cell? ⟨gb149, 1, none⟩ = some (.int .i64 a0_1) := (blk_cell BK149.out 1).trans rfl
        have hcz35_2 : w5.cell? ⟨gb149, 2, none⟩ = some (.int .i64 a0_2) := (blk_cell BK149.out 2).trans rfl
        have hcz35_3 : w5.cell? ⟨gb149, 3, none⟩ = some (.int .u8 a0_3) := (blk_cell BK149.out 3).trans rfl
        have hfz35_0 := blk_frozen BK149.out 0
        have hfz35_1 := blk_frozen BK149.out 1
        have hfz35_2 := blk_frozen BK149.out 2
        have hfz35_3 := blk_frozen BK149.out 3
        go_wp2
        go_meet
        case rel => exact ⟨_, (!true), zz0, H', ⟨zz28⟩, ⟨zz25⟩, ⟨zz31⟩, ⟨zz11⟩⟩
       ·
        rw [if_neg c33] at H
        have c33b0 : decide (a1 < 128) = false := decide_eq_false c33
        clear c33
        by_cases c36 : a0_3 = 255
        ·
         rw [if_pos c36] at H
         have c36b0 : (a0_3 == 255) = true := beq_iff_eq.mpr c36
         have c36b1 : (a0_3 != 255) = false := bne_eq_false_iff_eq.mpr c36
         clear c36
         have H' := Aside0.mk H
         clear H
         have hnb37 := NB149_150.out
         have hnc37 := NB150_149.out
         have hcz38_0 : w5.cell? ⟨gb149, 0, none⟩ = some (.int .i64 a0_0) := (blk_cell BK149.out 0).trans rfl
         have hcz38_1 : w5.cell? ⟨gb149, 1, none⟩ = some (.int .i64 a0_1) := (blk_cell BK149.out 1).trans rfl
         have hcz38_2 : w5.cell? ⟨gb149, 2, none⟩ = some (.int .i64 a0_2) := (blk_cell BK149.out 2).trans rfl
         have hcz38_3 : w5.cell? ⟨gb149, 3, none⟩ = some (.int .u8 a0_3) := (blk_cell BK149.out 3).trans rfl
         have hfz38_0 := blk_frozen BK149.out 0
         have hfz38_1 := blk_frozen BK149.out 1
         have hfz38_2 := blk_frozen BK149.out 2
         have hfz38_3 := blk_frozen BK149.out 3
         go_wp2
         go_meet
         case rel => exact ⟨_, (!(decide (a1 ≥ 128))), zz0, H', ⟨zz28⟩, ⟨zz25⟩, ⟨zz31⟩, ⟨zz11⟩⟩
        ·
         rw [if_neg c36] at H
         have c36b0 : (a0_3 == 255) = false := beq_eq_false_iff_ne.mpr c36
         have c36b1 : (a0_3 != 255) = true := bne_iff_ne.mpr c36
         have H' := Aside0.mk H
         clear H
         have hnb39 := NB149_150.out
         have hnc39 := NB150_149.out
         have hcz40_0 : w5.cell? ⟨gb149, 0, none⟩ = some (.int .i64 a0_0) := (blk_cell BK149.out 0).trans rfl
         have hcz40_1 : w5.cell? ⟨gb149, 1, none⟩ = some (.int .i64 a0_1) := (blk_cell BK149.out 1).trans rfl
         have hcz40_2 : w5.cell? ⟨gb149, 2, none⟩ = some (.int .i64 a0_2) := (blk_cell BK149.out 2).trans rfl
         have hcz40_3 : w5.cell? ⟨gb149, 3, none⟩ = some (.int .u8 a0_3) := (blk_cell BK149.out 3).trans rfl
         have hfz40_0 := blk_frozen BK149.out 0
         have hfz40_1 := blk_frozen BK149.out 1
         have hfz40_2 := blk_frozen BK149.out 2
         have hfz40_3 := blk_frozen BK149.out 3
         go_wp2
         go_meet
         case rel => exact ⟨_, (!false), zz0, H', ⟨zz28⟩, ⟨zz25⟩, ⟨zz31⟩, ⟨zz11⟩⟩
      ·
       rw [if_neg c32] at H
       have c32b0 : (a0_3 == 0) = false := beq_eq_false_iff_ne.mpr c32
       have c32b1 : (a0_3 != 0) = true := bne_iff_ne.mpr c32
       by_cases c41 : a0_3 = 255
       ·
        rw [if_pos c41] at H
        have c41b0 : (a0_3 == 255) = true := beq_iff_eq.mpr c41
        have c41b1 : (a0_3 != 255) = false := bne_eq_false_iff_eq.mpr c41
        clear c41
        have H' := Aside0.mk H
        clear H
        have hnb42 := NB149_150.out
        have hnc42 := NB150_149.out
        have hcz43_0 : w5.cell? ⟨gb149, 0, none⟩ = some (.int .i64 a0_0) := (blk_cell BK149.out 0).trans rfl
        have hcz43_1 : w5.cell? ⟨gb149, 1, none⟩ = some (.int .i64 a0_1) := (blk_cell BK149.out 1).trans rfl
        have hcz43_2 : w5.cell? ⟨gb149, 2, none⟩ = some (.int .i64 a0_2) := (blk_cell BK149.out 2).trans rfl
        have hcz43_3 : w5.cell? ⟨gb149, 3, none⟩ = some (.int .u8 a0_3) := (blk_cell BK149.out 3).trans rfl
        have hfz43_0 := blk_frozen BK149.out 0
        have hfz43_1 := blk_frozen BK149.out 1
        have hfz43_2 := blk_frozen BK149.out 2
        have hfz43_3 := blk_frozen BK149.out 3
        go_wp2
        go_meet
        case rel => exact ⟨_, (!(decide (a1 ≥ 128))), zz0, H', ⟨zz28⟩, ⟨zz25⟩, ⟨zz31⟩, ⟨zz11⟩⟩
       ·
        rw [if_neg c41] at H
        have c41b0 : (a0_3 == 255) = false := beq_eq_false_iff_ne.mpr c41
        have c41b1 : (a0_3 != 255) = true := bne_iff_ne.mpr c41
        have H' := Aside0.mk H
        clear H
        have hnb44 := NB149_150.out
        have hnc44 := NB150_149.out
        have hcz45_0 : w5.cell? ⟨gb149, 0, none⟩ = some (.int .i64 a0_0) := (blk_cell BK149.out 0).trans rfl
        have hcz45_1 : w5.cell? ⟨gb149, 1, none⟩ = some (.int .i64 a0_1) := (blk_cell BK149.out 1).trans rfl
        have hcz45_2 : w5.cell? ⟨gb149, 2, none⟩ = some (.int .i64 a0_2) := (blk_cell BK149.out 2).trans rfl
        have hcz45_3 : w5.cell? ⟨gb149, 3, none⟩ = some (.int .u8 a0_3) := (blk_cell BK149.out 3).trans rfl
        have hfz45_0 := blk_frozen BK149.out 0
        have hfz45_1 := blk_frozen BK149.out 1
        have hfz45_2 := blk_frozen BK149.out 2
        have hfz45_3 := blk_frozen BK149.out 3
        go_wp2
        go_meet
        case rel => exact ⟨_, (!false), zz0, H', ⟨zz28⟩, ⟨zz25⟩, ⟨zz31⟩, ⟨zz11⟩⟩
     ·
      rw [if_neg c31] at H
      have c31b0 : (a0_2 == 1) = false := beq_eq_false_iff_ne.mpr c31
      have c31b1 : (a0_2 != 1) = true := bne_iff_ne.mpr c31
      have H' := Aside0.mk H
      clear H
      have hnb46 := NB149_150.out
      have hnc46 := NB150_149.out
      have hcz47_0 : w5.cell? ⟨gb149, 0, none⟩ = some (.int .i64 a0_0) := (blk_cell BK149.out 0).trans rfl
      have hcz47_1 : w5.cell? ⟨gb149, 1, none⟩ = some (.int .i64 a0_1) := (blk_cell BK149.out 1).trans rfl
      have hcz47_2 : w5.cell? ⟨gb149, 2, none⟩ = some (.int .i64 a0_2) := (blk_cell BK149.out 2).trans rfl
      have hcz47_3 : w5.cell? ⟨gb149, 3, none⟩ = some (.int .u8 a0_3) := (blk_cell BK149.out 3).trans rfl
      have hfz47_0 := blk_frozen BK149.out 0
      have hfz47_1 := blk_frozen BK149.out 1
      have hfz47_2 := blk_frozen BK149.out 2
      have hfz47_3 := blk_frozen BK149.out 3
      go_wp2
      go_meet
      case rel => exact ⟨_, (true), zz0, H', ⟨zz28⟩, ⟨zz25⟩, ⟨zz31⟩, ⟨zz11⟩⟩
    ·
     rw [if_neg c30] at H
     have c30b0 : (a0_0 == 10) = false := beq_eq_false_iff_ne.mpr c30
     have c30b1 : (a0_0 != 10) = true := bne_iff_ne.mpr c30
     have H' := Aside0.mk H
     clear H
     have hnb48 := NB149_150.out
     have hnc48 := NB150_149.out
     have hcz49_0 : w5.cell? ⟨gb149, 0, none⟩ = some (.int .i64 a0_0) := (blk_cell BK149.out 0).trans rfl
     have hcz49_1 : w5.cell? ⟨gb149, 1, none⟩ = some (.int .i64 a0_1) := (blk_cell BK149.out 1).trans rfl
     have hcz49_2 : w5.cell? ⟨gb149, 2, none⟩ = some (.int .i64 a0_2) := (blk_cell BK149.out 2).trans rfl
     have hcz49_3 : w5.cell? ⟨gb149, 3, none⟩ = some (.int .u8 a0_3) := (blk_cell BK149.out 3).trans rfl
     have hfz49_0 := blk_frozen BK149.out 0
     have hfz49_1 := blk_frozen BK149.out 1
     have hfz49_2 := blk_frozen BK149.out 2
     have hfz49_3 := blk_frozen BK149.out 3
     go_wp2
     go_meet
     case rel => exact ⟨_, (true), zz0, H', ⟨zz28⟩, ⟨zz25⟩, ⟨zz31⟩, ⟨zz11⟩⟩
 case rest =>
  clear HC3
  try clear c1
  try clear c2
  try clear p2
  try clear c3
  try clear c4
  try clear c6
  try clear c6b0
  try clear c6b1
  try clear c7
  try clear c7b0
  try clear c7b1
  try clear c8
  try clear c10
  try clear c12
  try clear c12b0
  try clear c12b1
  try clear c13
  try clear c13b0
  try clear c13b1
  try clear c14
  try clear c14b0
  try clear c14b1
  try clear c15
  try clear c15b0
  try clear c16
  try clear c18
  try clear c18b0
  try clear c18b1
  try clear c19
  try clear c21
  try clear c23
  try clear c23b0
  try clear c23b1
  try clear c24
  try clear c26
  try clear c28
  try clear c30
  try clear c30b0
  try clear c30b1
  try clear c31
  try clear c31b0
  try clear c31b1
  try clear c32
  try clear c32b0
  try clear c32b1
  try clear c33
  try clear c33b0
  try clear c34
  try clear c36
  try clear c36b0
  try clear c36b1
  try clear c37
  try clear c39
  try clear c41
  try clear c41b0
  try clear c41b1
  try clear c42
  try clear c44
  try clear c46
  try clear c48
  try clear hcz11_0
  try clear hcz11_1
  try clear hcz11_2
  try clear hcz11_3
  try clear hcz17_0
  try clear hcz17_1
  try clear hcz17_2
  try clear hcz17_3
  try clear hcz20_0
  try clear hcz20_1
  try clear hcz20_2
  try clear hcz20_3
  try clear hcz22_0
  try clear hcz22_1
  try clear hcz22_2
  try clear hcz22_3
  try clear hcz25_0
  try clear hcz25_1
  try clear hcz25_2
  try clear hcz25_3
  try clear hcz27_0
  try clear hcz27_1
  try clear hcz27_2
  try clear hcz27_3
  try clear hcz29_0
  try clear hcz29_1
  try clear hcz29_2
  try clear hcz29_3
  try clear hcz35_0
  try clear hcz35_1
  try clear hcz35_2
  try clear hcz35_3
  try clear hcz38_0
  try clear hcz38_1
  try clear hcz38_2
  try clear hcz38_3
  try clear hcz40_0
  try clear hcz40_1
  try clear hcz40_2
  try clear hcz40_3
  try clear hcz43_0
  try clear hcz43_1
  try clear hcz43_2
  try clear hcz43_3
  try clear hcz45_0
  try clear hcz45_1
  try clear hcz45_2
  try clear hcz45_3
  try clear hcz47_0
  try clear hcz47_1
  try clear hcz47_2
  try clear hcz47_3
  try clear hcz49_0
  try clear hcz49_1
  try clear hcz49_2
  try clear hcz49_3
  try clear hcz9_0
  try clear hcz9_1
  try clear hcz9_2
  try clear hcz9_3
  try clear hfz11_0
  try clear hfz11_1
  try clear hfz11_2
  try clear hfz11_3
  try clear hfz17_0
  try clear hfz17_1
  try clear hfz17_2
  try clear hfz17_3
  try clear hfz20_0
  try clear hfz20_1
  try clear hfz20_2
  try clear hfz20_3
  try clear hfz22_0
  try clear hfz22_1
  try clear hfz22_2
  try clear hfz22_3
  try clear hfz25_0
  try clear hfz25_1
  try clear hfz25_2
  try clear hfz25_3
  try clear hfz27_0
  try clear hfz27_1
  try clear hfz27_2
  try clear hfz27_3
  try clear hfz29_0
  try clear hfz29_1
  try clear hfz29_2
  try clear hfz29_3
  try clear hfz35_0
  try clear hfz35_1
  try clear hfz35_2
  try clear hfz35_3
  try clear hfz38_0
  try clear hfz38_1
  try clear hfz38_2
  try clear hfz38_3
  try clear hfz40_0
  try clear hfz40_1
  try clear hfz40_2
  try clear hfz40_3
  try clear hfz43_0
  try clear hfz43_1
  try clear hfz43_2
  try clear hfz43_3
  try clear hfz45_0
  try clear hfz45_1
  try clear hfz45_2
  try clear hfz45_3
  try clear hfz47_0
  try clear hfz47_1
  try clear hfz47_2
  try clear hfz47_3
  try clear hfz49_0
  try clear hfz49_1
  try clear hfz49_2
  try clear hfz49_3
  try clear hfz9_0
  try clear hfz9_1
  try clear hfz9_2
  try clear hfz9_3
  obtain ⟨kq, x6_2, rfl, HA, HJ2, BK149, BK150, HB⟩ := hcut
  cases kq with
  | zero => exact absurd HA.out (by simp [number_State_Push.j0])
  | succ kj2 =>
    have H := HA.out
    clear HA
    simp only [number_State_Push.j0] at H
    by_cases c50 : x6_2 = true
    ·
     subst c50
     have H1 : (if a0_2 = 0 then (some (a0_0, a0_1, wrap64 (a0_2 + 1), a1, true)) else (some (a0_0, a0_1, wrap64 (a0_2 + 1), a0_3, true))) = some (r1, r2, r3, r4, r5) := by rw [if_pos rfl] at H; exact H
     clear H
     have H := H1
     clear H1
     by_cases c51 : a0_2 = 0
     ·
      rw [if_pos c51] at H
      have c51b0 : (a0_2 == 0) = true := beq_iff_eq.mpr c51
      have c51b1 : (a0_2 != 0) = false := bne_eq_false_iff_eq.mpr c51
      clear c51
      simp only [Option.some.injEq, Prod.mk.injEq] at H
      obtain ⟨rfl, rfl, rfl, rfl, rfl⟩ := H
      have hnb52 := NB149_150.out
      have hnc52 := NB150_149.out
      have hcz53_0 : wc.cell? ⟨gb149, 0, none⟩ = some (.int .i64 a0_0) := (blk_cell BK149.out 0).trans rfl
      have hcz53_1 : wc.cell? ⟨gb149, 1, none⟩ = some (.int .i64 a0_1) := (blk_cell BK149.out 1).trans rfl
      have hcz53_2 : wc.cell? ⟨gb149, 2, none⟩ = some (.int .i64 a0_2) := (blk_cell BK149.out 2).trans rfl
      have hcz53_3 : wc.cell? ⟨gb149, 3, none⟩ = some (.int .u8 a0_3) := (blk_cell BK149.out 3).trans rfl
      have hfz53_0 := blk_frozen BK149.out 0
      have hfz53_1 := blk_frozen BK149.out 1
      have hfz53_2 := blk_frozen BK149.out 2
      have hfz53_3 := blk_frozen BK149.out 3
      have hcz54_0 : wc.cell? ⟨gb150, 0, none⟩ = some (.int .i64 0) := (blk_cell BK150.out 0).trans rfl
      have hcz54_1 : wc.cell? ⟨gb150, 1, none⟩ = some (.int .i64 0) := (blk_cell BK150.out 1).trans rfl
      have hcz54_2 : wc.cell? ⟨gb150, 2, none⟩ = some (.int .i64 0) := (blk_cell BK150.out 2).trans rfl
      have hcz54_3 : wc.cell? ⟨gb150, 3, none⟩ = some (.int .u8 0) := (blk_cell BK150.out 3).trans rfl
      have hfz54_0 := blk_frozen BK150.out 0
      have hfz54_1 := blk_frozen BK150.out 1
      have hfz54_2 := blk_frozen BK150.out 2
      have hfz54_3 := blk_frozen BK150.out 3
      go_wp2
      refine bodyPost_ret (results_ct rfl _ _ gb150 125 #[.int .i64 a0_0, .int .i64 a0_1, .int .i64 (wrap64 (a0_2 + 1)), .int .u8 a1] (0, 0) _ rfl (by (with_reducible repeat (first | refine blk_drewN ?_ _ | refine blk_drew ?_ | refine blk_alloc ?_ _)); refine blk_put (cs := #[.int .i64 a0_0, .int .i64 a0_1, .int .i64 (wrap64 (a0_2 + 1)), .int .u8 0]) ?_ 3 _ rfl; (with_reducible repeat (first | refine blk_drewN ?_ _ | refine blk_drew ?_ | refine blk_alloc ?_ _)); refine blk_put (cs := #[.int .i64 a0_0, .int .i64 a0_1, .int .i64 0, .int .u8 0]) ?_ 2 _ rfl; (with_reducible repeat (first | refine blk_drewN ?_ _ | refine blk_drew ?_ | refine blk_alloc ?_ _)); refine blk_put (cs := #[.int .i64 a0_0, .int .i64 0, .int .i64 0, .int .u8 0]) ?_ 1 _ rfl; (with_reducible repeat (first | refine blk_drewN ?_ _ | refine blk_drew ?_ | refine blk_alloc ?_ _)); refine blk_put (cs := #[.int .i64 0, .int .i64 0, .int .i64 0, .int .u8 0]) ?_ 0 _ rfl; (with_reducible repeat (first | refine blk_drewN ?_ _ | refine blk_drew ?_ | refine blk_alloc ?_ _)); refine blk_far ?_ NB150_149.out _; (with_reducible repeat (first | refine blk_drewN ?_ _ | refine blk_drew ?_ | refine blk_alloc ?_ _)); refine blk_far ?_ NB150_149.out _; (with_reducible repeat (first | refine blk_drewN ?_ _ | refine blk_drew ?_ | refine blk_alloc ?_ _)); exact BK150.out) Try.underlying125 rfl zz4) rfl ?_
      exact ⟨zz3, zz11⟩
     ·
      rw [if_neg c51] at H
      have c51b0 : (a0_2 == 0) = false := beq_eq_false_iff_ne.mpr c51
      have c51b1 : (a0_2 != 0) = true := bne_iff_ne.mpr c51
      simp only [Option.some.injEq, Prod.mk.injEq] at H
      obtain ⟨rfl, rfl, rfl, rfl, rfl⟩ := H
      have hnb55 := NB149_150.out
      have hnc55 := NB150_149.out
      have hcz56_0 : wc.cell? ⟨gb149, 0, none⟩ = some (.int .i64 a0_0) := (blk_cell BK149.out 0).trans rfl
      have hcz56_1 : wc.cell? ⟨gb149, 1, none⟩ = some (.int .i64 a0_1) := (blk_cell BK149.out 1).trans rfl
      have hcz56_2 : wc.cell? ⟨gb149, 2, none⟩ = some (.int .i64 a0_2) := (blk_cell BK149.out 2).trans rfl
      have hcz56_3 : wc.cell? ⟨gb149, 3, none⟩ = some (.int .u8 a0_3) := (blk_cell BK149.out 3).trans rfl
      have hfz56_0 := blk_frozen BK149.out 0
      have hfz56_1 := blk_frozen BK149.out 1
      have hfz56_2 := blk_frozen BK149.out 2
      have hfz56_3 := blk_frozen BK149.out 3
      have hcz57_0 : wc.cell? ⟨gb150, 0, none⟩ = some (.int .i64 0) := (blk_cell BK150.out 0).trans rfl
      have hcz57_1 : wc.cell? ⟨gb150, 1, none⟩ = some (.int .i64 0) := (blk_cell BK150.out 1).trans rfl
      have hcz57_2 : wc.cell? ⟨gb150, 2, none⟩ = some (.int .i64 0) := (blk_cell BK150.out 2).trans rfl
      have hcz57_3 : wc.cell? ⟨gb150, 3, none⟩ = some (.int .u8 0) := (blk_cell BK150.out 3).trans rfl
      have hfz57_0 := blk_frozen BK150.out 0
      have hfz57_1 := blk_frozen BK150.out 1
      have hfz57_2 := blk_frozen BK150.out 2
      have hfz57_3 := blk_frozen BK150.out 3
      go_wp2
      refine bodyPost_ret (results_ct rfl _ _ gb150 125 #[.int .i64 a0_0, .int .i64 a0_1, .int .i64 (wrap64 (a0_2 + 1)), .int .u8 a0_3] (0, 0) _ rfl (by (with_reducible repeat (first | refine blk_drewN ?_ _ | refine blk_drew ?_ | refine blk_alloc ?_ _)); refine blk_put (cs := #[.int .i64 a0_0, .int .i64 a0_1, .int .i64 (wrap64 (a0_2 + 1)), .int .u8 0]) ?_ 3 _ rfl; (with_reducible repeat (first | refine blk_drewN ?_ _ | refine blk_drew ?_ | refine blk_alloc ?_ _)); refine blk_put (cs := #[.int .i64 a0_0, .int .i64 a0_1, .int .i64 0, .int .u8 0]) ?_ 2 _ rfl; (with_reducible repeat (first | refine blk_drewN ?_ _ | refine blk_drew ?_ | refine blk_alloc ?_ _)); refine blk_put (cs := #[.int .i64 a0_0, .int .i64 0, .int .i64 0, .int .u8 0]) ?_ 1 _ rfl; (with_reducible repeat (first | refine blk_drewN ?_ _ | refine blk_drew ?_ | refine blk_alloc ?_ _)); refine blk_put (cs := #[.int .i64 0, .int .i64 0, .int .i64 0, .int .u8 0]) ?_ 0 _ rfl; (with_reducible repeat (first | refine blk_drewN ?_ _ | refine blk_drew ?_ | refine blk_alloc ?_ _)); refine blk_far ?_ NB150_149.out _; (with_reducible repeat (first | refine blk_drewN ?_ _ | refine blk_drew ?_ | refine blk_alloc ?_ _)); exact BK150.out) Try.underlying125 rfl zz4) rfl ?_
      exact ⟨zz3, zz11⟩
    ·
     replace c50 := Bool.eq_false_iff.mpr c50
     subst c50
     have H1 : (some (0, 0, 0, 0, false)) = some (r1, r2, r3, r4, r5) := by rw [if_neg (show ¬ (false = true) by decide)] at H; exact H
     clear H
     have H := H1
     clear H1
     simp only [Option.some.injEq, Prod.mk.injEq] at H
     obtain ⟨rfl, rfl, rfl, rfl, rfl⟩ := H
     have hnb58 := NB150_149.out
     have hnc58 := NB149_150.out
     have hcz59_0 : wc.cell? ⟨gb150, 0, none⟩ = some (.int .i64 0) := (blk_cell BK150.out 0).trans rfl
     have hcz59_1 : wc.cell? ⟨gb150, 1, none⟩ = some (.int .i64 0) := (blk_cell BK150.out 1).trans rfl
     have hcz59_2 : wc.cell? ⟨gb150, 2, none⟩ = some (.int .i64 0) := (blk_cell BK150.out 2).trans rfl
     have hcz59_3 : wc.cell? ⟨gb150, 3, none⟩ = some (.int .u8 0) := (blk_cell BK150.out 3).trans rfl
     have hfz59_0 := blk_frozen BK150.out 0
     have hfz59_1 := blk_frozen BK150.out 1
     have hfz59_2 := blk_frozen BK150.out 2
     have hfz59_3 := blk_frozen BK150.out 3
     go_wp2
     refine bodyPost_ret (results_ct rfl _ _ gb150 125 #[.int .i64 0, .int .i64 0, .int .i64 0, .int .u8 0] (0, 0) _ rfl (by (with_reducible repeat (first | refine blk_drewN ?_ _ | refine blk_drew ?_ | refine blk_alloc ?_ _)); refine blk_put (cs := #[.int .i64 0, .int .i64 0, .int .i64 0, .int .u8 0]) ?_ 3 _ rfl; (with_reducible repeat (first | refine blk_drewN ?_ _ | refine blk_drew ?_ | refine blk_alloc ?_ _)); refine blk_put (cs := #[.int .i64 0, .int .i64 0, .int .i64 0, .int .u8 0]) ?_ 2 _ rfl; (with_reducible repeat (first | refine blk_drewN ?_ _ | refine blk_drew ?_ | refine blk_alloc ?_ _)); refine blk_put (cs := #[.int .i64 0, .int .i64 0, .int .i64 0, .int .u8 0]) ?_ 1 _ rfl; (with_reducible repeat (first | refine blk_drewN ?_ _ | refine blk_drew ?_ | refine blk_alloc ?_ _)); refine blk_put (cs := #[.int .i64 0, .int .i64 0, .int .i64 0, .int .u8 0]) ?_ 0 _ rfl; (with_reducible repeat (first | refine blk_drewN ?_ _ | refine blk_drew ?_ | refine blk_alloc ?_ _)); exact BK150.out) Try.underlying125 rfl zz4) rfl ?_
     exact ⟨zz3, zz11⟩
end Go.Proofs.Ytgddaddoabjgiaa.PB
namespace Go.Proofs.Ytgddaddoabjgiaa.PB
open RowKit YtgddaddoabjgiaaW.PrintWords YtgddaddoabjgiaaW.PrintLast YtgddaddoabjgiaaW.PrintMore
attribute [local go_sem] max2_int min2_int max_two min_two max_three min_three max_four min_four
set_option linter.unusedVariables false
set_option linter.unusedSimpArgs false
def gantletref10_Wrong.j0 : Nat → Int → ByteArray → Bool → Option (Int)
 | 0, _, _, _ => none
 | k + 1, x1, x2, x35 => if x35 = true then (some (-1)) else (if x1 = 0 then (some 0) else (if (x2.size : Int) > 1 then (if 0 < (x2.size : Int) then (if (bt x2 0) = 0 then (if 1 < (x2.size : Int) then (if (bt x2 1) < 128 then (some 2) else (if (bt x2 0) = 255 then (if (bt x2 1) > 127 then (some 2) else (some (-1))) else (some (-1)))) else (none)) else (if (bt x2 0) = 255 then (if 1 < (x2.size : Int) then (if (bt x2 1) > 127 then (some 2) else (some (-1))) else (none)) else (some (-1)))) else (none)) else (some (-1))))
def gantletref10_Wrong.f (k : Nat) (a0 : Int) (a1 : Int) (a2 : ByteArray) : Option (Int) := if a1 < 0 then (some 0) else (if a0 = 5 then (if a1 = 0 then (some (-1)) else (some 0)) else (if a0 = 1 then (if a1 = 1 then (if (a2.size : Int) > 0 then (if 0 < (a2.size : Int) then (if (bt a2 0) = 0 then (some (-1)) else (if (bt a2 0) = 255 then (some (-1)) else (some 1))) else (none)) else (some (-1))) else (some 0)) else (if a0 = 2 then (gantletref10_Wrong.j0 k a1 a2 false) else (gantletref10_Wrong.j0 k a1 a2 (a0 != 10)))))
set_option maxHeartbeats 8000000 in
set_option maxRecDepth 100000 in
theorem gantletref10_Wrong.calls (k : Nat) (a0 : Int) (a1 : Int) (a2 : ByteArray) (r : Int) (w : World) (h : gantletref10_Wrong.f k a0 a1 a2 = some r) :
 Calls Try.prog 52 #[.int .i64 a0, .int .i64 a1, .string a2] w fun e w' => e = .returned (.int .i64 r) ∧ Drawn0 w w' := by
 have H : (if a1 < 0 then (some 0) else (if a0 = 5 then (if a1 = 0 then (some (-1)) else (some 0)) else (if a0 = 1 then (if a1 = 1 then (if (a2.size : Int) > 0 then (if 0 < (a2.size : Int) then (if (bt a2 0) = 0 then (some (-1)) else (if (bt a2 0) = 255 then (some (-1)) else (some 1))) else (none)) else (some (-1))) else (some 0)) else (if a0 = 2 then (gantletref10_Wrong.j0 k a1 a2 false) else (gantletref10_Wrong.j0 k a1 a2 (a0 != 10)))))) = some r := h
 clear h
 by_cases c4 : a1 < 0
 ·
  rw [if_pos c4] at H
  have c4b0 : decide (a1 < 0) = true := decide_eq_true c4
  clear c4
  obtain rfl := Option.some.inj H
  go_enter Try.func52, Try.ntmps52
  go_wp2
  go_ret
  exact ⟨zz0, zz2⟩
 ·
  rw [if_neg c4] at H
  have c4b0 : decide (a1 < 0) = false := decide_eq_false c4
  clear c4
  by_cases c5 : a0 = 5
  ·
   rw [if_pos c5] at H
   have c5b0 : (a0 == 5) = true := beq_iff_eq.mpr c5
   have c5b1 : (a0 != 5) = false := bne_eq_false_iff_eq.mpr c5
   clear c5
   by_cases c6 : a1 = 0
   ·
    rw [if_pos c6] at H
    have c6b0 : (a1 == 0) = true := beq_iff_eq.mpr c6
    have c6b1 : (a1 != 0) = false := bne_eq_false_iff_eq.mpr c6
    clear c6
    obtain rfl := Option.some.inj H
    go_enter Try.func52, Try.ntmps52
    go_wp2
    go_ret
    exact ⟨zz0, zz2⟩
   ·
    rw [if_neg c6] at H
    have c6b0 : (a1 == 0) = false := beq_eq_false_iff_ne.mpr c6
    have c6b1 : (a1 != 0) = true := bne_iff_ne.mpr c6
    obtain rfl := Option.some.inj H
    go_enter Try.func52, Try.ntmps52
    go_wp2
    go_ret
    exact ⟨zz0, zz2⟩
  ·
   rw [if_neg c5] at H
   have c5b0 : (a0 == 5) = false := beq_eq_false_iff_ne.mpr c5
   have c5b1 : (a0 != 5) = true := bne_iff_ne.mpr c5
   by_cases c7 : a0 = 1
   ·
    rw [if_pos c7] at H
    have c7b0 : (a0 == 1) = true := beq_iff_eq.mpr c7
    have c7b1 : (a0 != 1) = false := bne_eq_false_iff_eq.mpr c7
    clear c7
    by_cases c8 : a1 = 1
    ·
     rw [if_pos c8] at H
     have c8b0 : (a1 == 1) = true := beq_iff_eq.mpr c8
     have c8b1 : (a1 != 1) = false := bne_eq_false_iff_eq.mpr c8
     clear c8
     by_cases c9 : (a2.size : Int) > 0
     ·
      rw [if_pos c9] at H
      have c9b0 : decide (0 < (a2.size : Int)) = true := decide_eq_true c9
      have c9b1 : decide (0 < a2.size) = true := decide_eq_true zz7
      clear c9
      by_cases c10 : 0 < (a2.size : Int)
      ·
       rw [if_pos c10] at H
       have c10b0 : decide (0 < (a2.size : Int)) = true := decide_eq_true c10
       have c10b1 : decide (0 < a2.size) = true := decide_eq_true zz7
       clear c10
       by_cases c12 : (bt a2 0) = 0
       ·
        rw [if_pos c12] at H
        have c12b0 : ((bt a2 0) == 0) = true := beq_iff_eq.mpr c12
        have c12b1 : ((bt a2 0) != 0) = false := bne_eq_false_iff_eq.mpr c12
        clear c12
        obtain rfl := Option.some.inj H
        have p11 : 0 ≤ (0 : Int) := zz7
        have q11 : 0 < a2.size := (by have : (0 : Int) < (a2.size : Int) := of_decide_eq_true zz6; omega)
        have hx11 : ∀ h : 0 < a2.size, ((a2[0]'h).toNat : Int) = bt a2 0 := bt_at a2 0
        clear p11
        have qi11 : (0 < (a2.size : Int)) = True := eq_true (of_decide_eq_true zz6)
        replace q11 := eq_true q11
        go_enter Try.func52, Try.ntmps52
        go_wp2
        go_ret
        exact ⟨zz0, zz2⟩
       ·
        rw [if_neg c12] at H
        have c12b0 : ((bt a2 0) == 0) = false := beq_eq_false_iff_ne.mpr c12
        have c12b1 : ((bt a2 0) != 0) = true := bne_iff_ne.mpr c12
        by_cases c14 : (bt a2 0) = 255
        ·
         rw [if_pos c14] at H
         have c14b0 : ((bt a2 0) == 255) = true := beq_iff_eq.mpr c14
         have c14b1 : ((bt a2 0) != 255) = false := bne_eq_false_iff_eq.mpr c14
         clear c14
         obtain rfl := Option.some.inj H
         have p11 : 0 ≤ (0 : Int) := zz7
         have q11 : 0 < a2.size := (by have : (0 : Int) < (a2.size : Int) := of_decide_eq_true zz6; omega)
         have hx11 : ∀ h : 0 < a2.size, ((a2[0]'h).toNat : Int) = bt a2 0 := bt_at a2 0
         clear p11
         have qi11 : (0 < (a2.size : Int)) = True := eq_true (of_decide_eq_true zz6)
         replace q11 := eq_true q11
         have p13 : 0 ≤ (0 : Int) := zz7
         have q13 : 0 < a2.size := (by have : (0 : Int) < (a2.size : Int) := of_decide_eq_true zz6; omega)
         have hx13 : ∀ h : 0 < a2.size, ((a2[0]'h).toNat : Int) = bt a2 0 := bt_at a2 0
         clear p13
         have qi13 : (0 < (a2.size : Int)) = True := eq_true (of_decide_eq_true zz6)
         replace q13 := eq_true q13
         go_enter Try.func52, Try.ntmps52
         go_wp2
         go_ret
         exact ⟨zz0, zz2⟩
        ·
         rw [if_neg c14] at H
         have c14b0 : ((bt a2 0) == 255) = false := beq_eq_false_iff_ne.mpr c14
         have c14b1 : ((bt a2 0) != 255) = true := bne_iff_ne.mpr c14
         obtain rfl := Option.some.inj H
         have p11 : 0 ≤ (0 : Int) := zz7
         have q11 : 0 < a2.size := (by have : (0 : Int) < (a2.size : Int) := of_decide_eq_true zz6; omega)
         have hx11 : ∀ h : 0 < a2.size, ((a2[0]'h).toNat : Int) = bt a2 0 := bt_at a2 0
         clear p11
         have qi11 : (0 < (a2.size : Int)) = True := eq_true (of_decide_eq_true zz6)
         replace q11 := eq_true q11
         have p13 : 0 ≤ (0 : Int) := zz7
         have q13 : 0 < a2.size := (by have : (0 : Int) < (a2.size : Int) := of_decide_eq_true zz6; omega)
         have hx13 : ∀ h : 0 < a2.size, ((a2[0]'h).toNat : Int) = bt a2 0 := bt_at a2 0
         clear p13
         have qi13 : (0 < (a2.size : Int)) = True := eq_true (of_decide_eq_true zz6)
         replace q13 := eq_true q13
         go_enter Try.func52, Try.ntmps52
         go_wp2
         go_ret
         exact ⟨zz0, zz2⟩
      ·
       rw [if_neg c10] at H
       exact absurd H zz43
     ·
      rw [if_neg c9] at H
      have c9b0 : decide (0 < (a2.size : Int)) = false := decide_eq_false c9
      have c9b1 : decide (0 < a2.size) = false := decide_eq_false zz7
      clear c9
      obtain rfl := Option.some.inj H
      go_enter Try.func52, Try.ntmps52
      go_wp2
      go_ret
      exact ⟨zz0, zz2⟩
    ·
     rw [if_neg c8] at H
     have c8b0 : (a1 == 1) = false := beq_eq_false_iff_ne.mpr c8
     have c8b1 : (a1 != 1) = true := bne_iff_ne.mpr c8
     obtain rfl := Option.some.inj H
     go_enter Try.func52, Try.ntmps52
     go_wp2
     go_ret
     exact ⟨zz0, zz2⟩
   ·
    rw [if_neg c7] at H
    have c7b0 : (a0 == 1) = false := beq_eq_false_iff_ne.mpr c7
    have c7b1 : (a0 != 1) = true := bne_iff_ne.mpr c7
    have HC15 := Aside0.mk H
    clear H
    go_enter Try.func52, Try.ntmps52
    go_upto_region 13 with (fail)
    go_cut [35] (fun v35 wc => ∃ (kq : Nat) (x35_14 : Bool), v35 = .bool x35_14 ∧ Aside0 (gantletref10_Wrong.j0 kq a1 a2 x35_14 = some r) ∧ Aside0 (kq ≤ k) ∧ Drawn0 w wc)
    case first =>
     have H := HC15.out
     clear HC15
     by_cases c16 : a0 = 2
     ·
      rw [if_pos c16] at H
      have c16b0 : (a0 == 2) = true := beq_iff_eq.mpr c16
      have c16b1 : (a0 != 2) = false := bne_eq_false_iff_eq.mpr c16
      clear c16
      (first | rw [c16b0] | (simp only [i64_w, i32_w]; rw [c16b0]) | skip)
      have H' := Aside0.mk H
      clear H
      go_wp2
      go_meet
      case rel => exact ⟨_, (false), zz0, H', ⟨zz28⟩, zz2⟩
     ·
      rw [if_neg c16] at H
      have c16b0 : (a0 == 2) = false := beq_eq_false_iff_ne.mpr c16
      have c16b1 : (a0 != 2) = true := bne_iff_ne.mpr c16
      (first | rw [c16b0] | (simp only [i64_w, i32_w]; rw [c16b0]) | skip)
      have H' := Aside0.mk H
      clear H
      go_wp2
      go_meet
      case rel => exact ⟨_, ((a0 != 10)), zz0, H', ⟨zz28⟩, zz2⟩
    case rest =>
     clear HC15
     try clear c1
     try clear p1
     try clear q1
     try clear hx1
     try clear qi1
     try clear p2
     try clear c4
     try clear c4b0
     try clear c5
     try clear c5b0
     try clear c5b1
     try clear c6
     try clear c6b0
     try clear c6b1
     try clear c7
     try clear c7b0
     try clear c7b1
     try clear c8
     try clear c8b0
     try clear c8b1
     try clear c9
     try clear c9b0
     try clear c9b1
     try clear c10
     try clear c10b0
     try clear c10b1
     try clear p11
     try clear q11
     try clear hx11
     try clear qi11
     try clear c12
     try clear c12b0
     try clear c12b1
     try clear p13
     try clear q13
     try clear hx13
     try clear qi13
     try clear c14
     try clear c14b0
     try clear c14b1
     try clear c16
     try clear c16b0
     try clear c16b1
     try clear p11
     try clear p13
     try clear q11
     try clear q13
     obtain ⟨kq, x35_14, rfl, HA, HJ14, ⟨mc14, rfl⟩⟩ := hcut
     cases kq with
     | zero => exact absurd HA.out (by simp [gantletref10_Wrong.j0])
     | succ kj14 =>
       have H := HA.out
       clear HA
       simp only [gantletref10_Wrong.j0] at H
       by_cases c17 : x35_14 = true
       ·
        subst c17
        have H1 : (some (-1)) = some r := by rw [if_pos rfl] at H; exact H
        clear H
        have H := H1
        clear H1
        obtain rfl := Option.some.inj H
        go_wp2
        go_ret
        exact ⟨zz0, zz2⟩
       ·
        replace c17 := Bool.eq_false_iff.mpr c17
        subst c17
        have H1 : (if a1 = 0 then (some 0) else (if (a2.size : Int) > 1 then (if 0 < (a2.size : Int) then (if (bt a2 0) = 0 then (if 1 < (a2.size : Int) then (if (bt a2 1) < 128 then (some 2) else (if (bt a2 0) = 255 then (if (bt a2 1) > 127 then (some 2) else (some (-1))) else (some (-1)))) else (none)) else (if (bt a2 0) = 255 then (if 1 < (a2.size : Int) then (if (bt a2 1) > 127 then (some 2) else (some (-1))) else (none)) else (some (-1)))) else (none)) else (some (-1)))) = some r := by rw [if_neg (show ¬ (false = true) by decide)] at H; exact H
        clear H
        have H := H1
        clear H1
        by_cases c18 : a1 = 0
        ·
         rw [if_pos c18] at H
         have c18b0 : (a1 == 0) = true := beq_iff_eq.mpr c18
         have c18b1 : (a1 != 0) = false := bne_eq_false_iff_eq.mpr c18
         clear c18
         obtain rfl := Option.some.inj H
         go_wp2
         go_ret
         exact ⟨zz0, zz2⟩
        ·
         rw [if_neg c18] at H
         have c18b0 : (a1 == 0) = false := beq_eq_false_iff_ne.mpr c18
         have c18b1 : (a1 != 0) = true := bne_iff_ne.mpr c18
         by_cases c19 : (a2.size : Int) > 1
         ·
          rw [if_pos c19] at H
          have c19b0 : decide (1 < (a2.size : Int)) = true := decide_eq_true c19
          have c19b1 : decide (1 < a2.size) = true := decide_eq_true zz7
          clear c19
          by_cases c20 : 0 < (a2.size : Int)
          ·
           rw [if_pos c20] at H
           have c20b0 : decide (0 < (a2.size : Int)) = true := decide_eq_true c20
           have c20b1 : decide (0 < a2.size) = true := decide_eq_true zz7
           clear c20
           by_cases c22 : (bt a2 0) = 0
           ·
            rw [if_pos c22] at H
            have c22b0 : ((bt a2 0) == 0) = true := beq_iff_eq.mpr c22
            have c22b1 : ((bt a2 0) != 0) = false := bne_eq_false_iff_eq.mpr c22
            clear c22
            by_cases c23 : 1 < (a2.size : Int)
            ·
             rw [if_pos c23] at H
             have c23b0 : decide (1 < (a2.size : Int)) = true := decide_eq_true c23
             have c23b1 : decide (1 < a2.size) = true := decide_eq_true zz7
             clear c23
             by_cases c25 : (bt a2 1) < 128
             ·
              rw [if_pos c25] at H
              have c25b0 : decide ((bt a2 1) < 128) = true := decide_eq_true c25
              clear c25
              obtain rfl := Option.some.inj H
              have p21 : 0 ≤ (0 : Int) := zz7
              have q21 : 0 < a2.size := (by have : (0 : Int) < (a2.size : Int) := of_decide_eq_true zz6; omega)
              have hx21 : ∀ h : 0 < a2.size, ((a2[0]'h).toNat : Int) = bt a2 0 := bt_at a2 0
              clear p21
              have qi21 : (0 < (a2.size : Int)) = True := eq_true (of_decide_eq_true zz6)
              replace q21 := eq_true q21
              have p24 : 0 ≤ (1 : Int) := zz7
              have q24 : 1 < a2.size := (by have : (1 : Int) < (a2.size : Int) := of_decide_eq_true zz6; omega)
              have hx24 : ∀ h : 1 < a2.size, ((a2[1]'h).toNat : Int) = bt a2 1 := bt_at a2 1
              clear p24
              have qi24 : (1 < (a2.size : Int)) = True := eq_true (of_decide_eq_true zz6)
              replace q24 := eq_true q24
              go_wp2
              go_ret
              exact ⟨zz0, zz2⟩
             ·
              rw [if_neg c25] at H
              have c25b0 : decide ((bt a2 1) < 128) = false := decide_eq_false c25
              clear c25
              by_cases c27 : (bt a2 0) = 255
              ·
               rw [if_pos c27] at H
               have c27b0 : ((bt a2 0) == 255) = true := beq_iff_eq.mpr c27
               have c27b1 : ((bt a2 0) != 255) = false := bne_eq_false_iff_eq.mpr c27
               clear c27
               by_cases c29 : (bt a2 1) > 127
               ·
                rw [if_pos c29] at H
                have c29b0 : decide (127 < (bt a2 1)) = true := decide_eq_true c29
                clear c29
                obtain rfl := Option.some.inj H
                have p21 : 0 ≤ (0 : Int) := zz7
                have q21 : 0 < a2.size := (by have : (0 : Int) < (a2.size : Int) := of_decide_eq_true zz6; omega)
                have hx21 : ∀ h : 0 < a2.size, ((a2[0]'h).toNat : Int) = bt a2 0 := bt_at a2 0
                clear p21
                have qi21 : (0 < (a2.size : Int)) = True := eq_true (of_decide_eq_true zz6)
                replace q21 := eq_true q21
                have p24 : 0 ≤ (1 : Int) := zz7
                have q24 : 1 < a2.size := (by have : (1 : Int) < (a2.size : Int) := of_decide_eq_true zz6; omega)
                have hx24 : ∀ h : 1 < a2.size, ((a2[1]'h).toNat : Int) = bt a2 1 := bt_at a2 1
                clear p24
                have qi24 : (1 < (a2.size : Int)) = True := eq_true (of_decide_eq_true zz6)
                replace q24 := eq_true q24
                have p26 : 0 ≤ (0 : Int) := zz7
                have q26 : 0 < a2.size := (by have : (0 : Int) < (a2.size : Int) := of_decide_eq_true zz6; omega)
                have hx26 : ∀ h : 0 < a2.size, ((a2[0]'h).toNat : Int) = bt a2 0 := bt_at a2 0
                clear p26
                have qi26 : (0 < (a2.size : Int)) = True := eq_true (of_decide_eq_true zz6)
                replace q26 := eq_true q26
                have p28 : 0 ≤ (1 : Int) := zz7
                have q28 : 1 < a2.size := (by have : (1 : Int) < (a2.size : Int) := of_decide_eq_true zz6; omega)
                have hx28 : ∀ h : 1 < a2.size, ((a2[1]'h).toNat : Int) = bt a2 1 := bt_at a2 1
                clear p28
                have qi28 : (1 < (a2.size : Int)) = True := eq_true (of_decide_eq_true zz6)
                replace q28 := eq_true q28
                go_wp2
                go_ret
                exact ⟨zz0, zz2⟩
               ·
                rw [if_neg c29] at H
                have c29b0 : decide (127 < (bt a2 1)) = false := decide_eq_false c29
                clear c29
                obtain rfl := Option.some.inj H
                have p21 : 0 ≤ (0 : Int) := zz7
                have q21 : 0 < a2.size := (by have : (0 : Int) < (a2.size : Int) := of_decide_eq_true zz6; omega)
                have hx21 : ∀ h : 0 < a2.size, ((a2[0]'h).toNat : Int) = bt a2 0 := bt_at a2 0
                clear p21
                have qi21 : (0 < (a2.size : Int)) = True := eq_true (of_decide_eq_true zz6)
                replace q21 := eq_true q21
                have p24 : 0 ≤ (1 : Int) := zz7
                have q24 : 1 < a2.size := (by have : (1 : Int) < (a2.size : Int) := of_decide_eq_true zz6; omega)
                have hx24 : ∀ h : 1 < a2.size, ((a2[1]'h).toNat : Int) = bt a2 1 := bt_at a2 1
                clear p24
                have qi24 : (1 < (a2.size : Int)) = True := eq_true (of_decide_eq_true zz6)
                replace q24 := eq_true q24
                have p26 : 0 ≤ (0 : Int) := zz7
                have q26 : 0 < a2.size := (by have : (0 : Int) < (a2.size : Int) := of_decide_eq_true zz6; omega)
                have hx26 : ∀ h : 0 < a2.size, ((a2[0]'h).toNat : Int) = bt a2 0 := bt_at a2 0
                clear p26
                have qi26 : (0 < (a2.size : Int)) = True := eq_true (of_decide_eq_true zz6)
                replace q26 := eq_true q26
                have p28 : 0 ≤ (1 : Int) := zz7
                have q28 : 1 < a2.size := (by have : (1 : Int) < (a2.size : Int) := of_decide_eq_true zz6; omega)
                have hx28 : ∀ h : 1 < a2.size, ((a2[1]'h).toNat : Int) = bt a2 1 := bt_at a2 1
                clear p28
                have qi28 : (1 < (a2.size : Int)) = True := eq_true (of_decide_eq_true zz6)
                replace q28 := eq_true q28
                go_wp2
                go_ret
                exact ⟨zz0, zz2⟩
              ·
               rw [if_neg c27] at H
               have c27b0 : ((bt a2 0) == 255) = false := beq_eq_false_iff_ne.mpr c27
               have c27b1 : ((bt a2 0) != 255) = true := bne_iff_ne.mpr c27
               obtain rfl := Option.some.inj H
               have p21 : 0 ≤ (0 : Int) := zz7
               have q21 : 0 < a2.size := (by have : (0 : Int) < (a2.size : Int) := of_decide_eq_true zz6; omega)
               have hx21 : ∀ h : 0 < a2.size, ((a2[0]'h).toNat : Int) = bt a2 0 := bt_at a2 0
               clear p21
               have qi21 : (0 < (a2.size : Int)) = True := eq_true (of_decide_eq_true zz6)
               replace q21 := eq_true q21
               have p24 : 0 ≤ (1 : Int) := zz7
               have q24 : 1 < a2.size := (by have : (1 : Int) < (a2.size : Int) := of_decide_eq_true zz6; omega)
               have hx24 : ∀ h : 1 < a2.size, ((a2[1]'h).toNat : Int) = bt a2 1 := bt_at a2 1
               clear p24
               have qi24 : (1 < (a2.size : Int)) = True := eq_true (of_decide_eq_true zz6)
               replace q24 := eq_true q24
               have p26 : 0 ≤ (0 : Int) := zz7
               have q26 : 0 < a2.size := (by have : (0 : Int) < (a2.size : Int) := of_decide_eq_true zz6; omega)
               have hx26 : ∀ h : 0 < a2.size, ((a2[0]'h).toNat : Int) = bt a2 0 := bt_at a2 0
               clear p26
               have qi26 : (0 < (a2.size : Int)) = True := eq_true (of_decide_eq_true zz6)
               replace q26 := eq_true q26
               go_wp2
               go_ret
               exact ⟨zz0, zz2⟩
            ·
             rw [if_neg c23] at H
             exact absurd H zz43
           ·
            rw [if_neg c22] at H
            have c22b0 : ((bt a2 0) == 0) = false := beq_eq_false_iff_ne.mpr c22
            have c22b1 : ((bt a2 0) != 0) = true := bne_iff_ne.mpr c22
            by_cases c31 : (bt a2 0) = 255
            ·
             rw [if_pos c31] at H
             have c31b0 : ((bt a2 0) == 255) = true := beq_iff_eq.mpr c31
             have c31b1 : ((bt a2 0) != 255) = false := bne_eq_false_iff_eq.mpr c31
             clear c31
             by_cases c32 : 1 < (a2.size : Int)
             ·
              rw [if_pos c32] at H
              have c32b0 : decide (1 < (a2.size : Int)) = true := decide_eq_true c32
              have c32b1 : decide (1 < a2.size) = true := decide_eq_true zz7
              clear c32
              by_cases c34 : (bt a2 1) > 127
              ·
               rw [if_pos c34] at H
               have c34b0 : decide (127 < (bt a2 1)) = true := decide_eq_true c34
               clear c34
               obtain rfl := Option.some.inj H
               have p21 : 0 ≤ (0 : Int) := zz7
               have q21 : 0 < a2.size := (by have : (0 : Int) < (a2.size : Int) := of_decide_eq_true zz6; omega)
               have hx21 : ∀ h : 0 < a2.size, ((a2[0]'h).toNat : Int) = bt a2 0 := bt_at a2 0
               clear p21
               have qi21 : (0 < (a2.size : Int)) = True := eq_true (of_decide_eq_true zz6)
               replace q21 := eq_true q21
               have p30 : 0 ≤ (0 : Int) := zz7
               have q30 : 0 < a2.size := (by have : (0 : Int) < (a2.size : Int) := of_decide_eq_true zz6; omega)
               have hx30 : ∀ h : 0 < a2.size, ((a2[0]'h).toNat : Int) = bt a2 0 := bt_at a2 0
               clear p30
               have qi30 : (0 < (a2.size : Int)) = True := eq_true (of_decide_eq_true zz6)
               replace q30 := eq_true q30
               have p33 : 0 ≤ (1 : Int) := zz7
               have q33 : 1 < a2.size := (by have : (1 : Int) < (a2.size : Int) := of_decide_eq_true zz6; omega)
               have hx33 : ∀ h : 1 < a2.size, ((a2[1]'h).toNat : Int) = bt a2 1 := bt_at a2 1
               clear p33
               have qi33 : (1 < (a2.size : Int)) = True := eq_true (of_decide_eq_true zz6)
               replace q33 := eq_true q33
               go_wp2
               go_ret
               exact ⟨zz0, zz2⟩
              ·
               rw [if_neg c34] at H
               have c34b0 : decide (127 < (bt a2 1)) = false := decide_eq_false c34
               clear c34
               obtain rfl := Option.some.inj H
               have p21 : 0 ≤ (0 : Int) := zz7
               have q21 : 0 < a2.size := (by have : (0 : Int) < (a2.size : Int) := of_decide_eq_true zz6; omega)
               have hx21 : ∀ h : 0 < a2.size, ((a2[0]'h).toNat : Int) = bt a2 0 := bt_at a2 0
               clear p21
               have qi21 : (0 < (a2.size : Int)) = True := eq_true (of_decide_eq_true zz6)
               replace q21 := eq_true q21
               have p30 : 0 ≤ (0 : Int) := zz7
               have q30 : 0 < a2.size := (by have : (0 : Int) < (a2.size : Int) := of_decide_eq_true zz6; omega)
               have hx30 : ∀ h : 0 < a2.size, ((a2[0]'h).toNat : Int) = bt a2 0 := bt_at a2 0
               clear p30
               have qi30 : (0 < (a2.size : Int)) = True := eq_true (of_decide_eq_true zz6)
               replace q30 := eq_true q30
               have p33 : 0 ≤ (1 : Int) := zz7
               have q33 : 1 < a2.size := (by have : (1 : Int) < (a2.size : Int) := of_decide_eq_true zz6; omega)
               have hx33 : ∀ h : 1 < a2.size, ((a2[1]'h).toNat : Int) = bt a2 1 := bt_at a2 1
               clear p33
               have qi33 : (1 < (a2.size : Int)) = True := eq_true (of_decide_eq_true zz6)
               replace q33 := eq_true q33
               go_wp2
               go_ret
               exact ⟨zz0, zz2⟩
             ·
              rw [if_neg c32] at H
              exact absurd H zz43
            ·
             rw [if_neg c31] at H
             have c31b0 : ((bt a2 0) == 255) = false := beq_eq_false_iff_ne.mpr c31
             have c31b1 : ((bt a2 0) != 255) = true := bne_iff_ne.mpr c31
             obtain rfl := Option.some.inj H
             have p21 : 0 ≤ (0 : Int) := zz7
             have q21 : 0 < a2.size := (by have : (0 : Int) < (a2.size : Int) := of_decide_eq_true zz6; omega)
             have hx21 : ∀ h : 0 < a2.size, ((a2[0]'h).toNat : Int) = bt a2 0 := bt_at a2 0
             clear p21
             have qi21 : (0 < (a2.size : Int)) = True := eq_true (of_decide_eq_true zz6)
             replace q21 := eq_true q21
             have p30 : 0 ≤ (0 : Int) := zz7
             have q30 : 0 < a2.size := (by have : (0 : Int) < (a2.size : Int) := of_decide_eq_true zz6; omega)
             have hx30 : ∀ h : 0 < a2.size, ((a2[0]'h).toNat : Int) = bt a2 0 := bt_at a2 0
             clear p30
             have qi30 : (0 < (a2.size : Int)) = True := eq_true (of_decide_eq_true zz6)
             replace q30 := eq_true q30
             go_wp2
             go_ret
             exact ⟨zz0, zz2⟩
          ·
           rw [if_neg c20] at H
           exact absurd H zz43
         ·
          rw [if_neg c19] at H
          have c19b0 : decide (1 < (a2.size : Int)) = false := decide_eq_false c19
          have c19b1 : decide (1 < a2.size) = false := decide_eq_false zz7
          clear c19
          obtain rfl := Option.some.inj H
          go_wp2
          go_ret
          exact ⟨zz0, zz2⟩
end Go.Proofs.Ytgddaddoabjgiaa.PB
namespace Go.Proofs.Ytgddaddoabjgiaa.PB
open RowKit YtgddaddoabjgiaaW.PrintWords YtgddaddoabjgiaaW.PrintLast YtgddaddoabjgiaaW.PrintMore
attribute [local go_sem] max2_int min2_int max_two min_two max_three min_three max_four min_four
set_option linter.unusedVariables false
set_option linter.unusedSimpArgs false
def number_Start.j0 : Nat → Int → Int → Bool → Int → Bool → Option (Int × Int × Int × Int × Bool)
 | 0, _, _, _, _, _ => none
 | k + 1, x0, x1, x6, x9, x10 => if x10 = true then (if x1 > 0 then (some (x0, x1, 0, 0, true)) else (some (0, 0, 0, 0, false))) else (if x9 = 1 then (if x1 = 1 then (some (x0, x1, 0, 0, true)) else (some (0, 0, 0, 0, false))) else (if x9 = 5 then (if x1 = 0 then (some (x0, x1, 0, 0, true)) else (some (0, 0, 0, 0, false))) else (if x6 = true then (some (x0, x1, 0, 0, true)) else (some (0, 0, 0, 0, false)))))
def number_Start.f (k : Nat) (a0 : Int) (a1 : Int) : Option (Int × Int × Int × Int × Bool) := if a0 = 2 then (number_Start.j0 k a0 a1 (decide (a1 ≥ 0)) a0 (a0 == 2)) else (number_Start.j0 k a0 a1 (decide (a1 ≥ 0)) a0 (a0 == 10))
set_option maxHeartbeats 8000000 in
set_option maxRecDepth 100000 in
theorem number_Start.calls (k : Nat) (a0 : Int) (a1 : Int) (r1 : Int) (r2 : Int) (r3 : Int) (r4 : Int) (r5 : Bool) (w : World) (h : number_Start.f k a0 a1 = some (r1, r2, r3, r4, r5)) :
 Calls Try.prog 87 #[.int .i64 a0, .int .i64 a1] w fun e w' => e = .returned (.tuple #[.agg #[.int .i64 r1, .int .i64 r2, .int .i64 r3, .int .u8 r4], .bool r5]) ∧ Below w.heap.size w w' := by
 have hu125 := Try.underlying125
 have HB := Aside0.mk (Below.refl w.heap.size w)
 have H : (if a0 = 2 then (number_Start.j0 k a0 a1 (decide (a1 ≥ 0)) a0 (a0 == 2)) else (number_Start.j0 k a0 a1 (decide (a1 ≥ 0)) a0 (a0 == 10))) = some (r1, r2, r3, r4, r5) := h
 clear h
 have HC3 := Aside0.mk H
 clear H
 go_enter Try.func87, Try.ntmps87
 go_upto_if 10 with (first | ((with_reducible refine gate_dst (N := 4) rfl ?_); refine zzbx (N := 4) (cs := #[.int .i64 0, .int .i64 0, .int .i64 0, .int .u8 0]) (t := 125) ?_; intro gb148 hg w4 hbox hb; have n0_ := Aside0.mk (below_step zz1 hb); have n1_ := Aside0.mk (hbox); have n2_ := Aside0.mk ((zz15 : w.heap.size ≤ gb148)); have n3_ := Aside0.mk ((zz15 : w.heap.size ≤ gb148)); clear HB; have HB := n0_; have BK148 := n1_; have GW148 := n2_; have GE148 := n3_; clear n0_ n1_ n2_ n3_; clear hb hbox hg))
 (try simp only [Act.put, List.setIfInBounds_toArray, List.set_cons_zero, List.set_cons_succ])
 go_cut [10] (fun v10 wc => ∃ (kq : Nat) (x10_2 : Bool), v10 = .bool x10_2 ∧ Aside0 (number_Start.j0 kq a0 a1 (decide (a1 ≥ 0)) a0 x10_2 = some (r1, r2, r3, r4, r5)) ∧ Aside0 (kq ≤ k) ∧ Aside0 (wc.heap[gb148]? = some (.cells #[.int .i64 0, .int .i64 0, .int .i64 0, .int .u8 0] 125 (0, 0))) ∧ Aside0 (Below w.heap.size w wc))
 case first =>
  have H := HC3.out
  clear HC3
  by_cases c5 : a0 = 2
  ·
   rw [if_pos c5] at H
   have c5b0 : (a0 == 2) = true := beq_iff_eq.mpr c5
   have c5b1 : (a0 != 2) = false := bne_eq_false_iff_eq.mpr c5
   clear c5
   (first | rw [c5b0] | (simp only [i64_w, i32_w]; rw [c5b0]) | skip)
   have H' := Aside0.mk H
   clear H
   go_wp2
   go_meet
   case rel => exact ⟨_, ((a0 == 2)), zz0, H', ⟨zz28⟩, ⟨by (with_reducible repeat (first | refine blk_drewN ?_ _ | refine blk_drew ?_ | refine blk_alloc ?_ _)); exact BK148.out⟩, ⟨zz35⟩⟩
  ·
   rw [if_neg c5] at H
   have c5b0 : (a0 == 2) = false := beq_eq_false_iff_ne.mpr c5
   have c5b1 : (a0 != 2) = true := bne_iff_ne.mpr c5
   (first | rw [c5b0] | (simp only [i64_w, i32_w]; rw [c5b0]) | skip)
   have H' := Aside0.mk H
   clear H
   go_wp2
   go_meet
   case rel => exact ⟨_, ((a0 == 10)), zz0, H', ⟨zz28⟩, ⟨by (with_reducible repeat (first | refine blk_drewN ?_ _ | refine blk_drew ?_ | refine blk_alloc ?_ _)); exact BK148.out⟩, ⟨zz35⟩⟩
 case rest =>
  clear HC3
  try clear p2
  try clear c5
  try clear c5b0
  try clear c5b1
  obtain ⟨kq, x10_2, rfl, HA, HJ2, BK148, HB⟩ := hcut
  cases kq with
  | zero => exact absurd HA.out (by simp [number_Start.j0])
  | succ kj2 =>
    have H := HA.out
    clear HA
    simp only [number_Start.j0] at H
    by_cases c6 : x10_2 = true
    ·
     subst c6
     have H1 : (if a1 > 0 then (some (a0, a1, 0, 0, true)) else (some (0, 0, 0, 0, false))) = some (r1, r2, r3, r4, r5) := by rw [if_pos rfl] at H; exact H
     clear H
     have H := H1
     clear H1
     by_cases c7 : a1 > 0
     ·
      rw [if_pos c7] at H
      have c7b0 : decide (0 < a1) = true := decide_eq_true c7
      clear c7
      simp only [Option.some.injEq, Prod.mk.injEq] at H
      obtain ⟨rfl, rfl, rfl, rfl, rfl⟩ := H
      have hcz8_0 : wc.cell? ⟨gb148, 0, none⟩ = some (.int .i64 0) := (blk_cell BK148.out 0).trans rfl
      have hcz8_1 : wc.cell? ⟨gb148, 1, none⟩ = some (.int .i64 0) := (blk_cell BK148.out 1).trans rfl
      have hcz8_2 : wc.cell? ⟨gb148, 2, none⟩ = some (.int .i64 0) := (blk_cell BK148.out 2).trans rfl
      have hcz8_3 : wc.cell? ⟨gb148, 3, none⟩ = some (.int .u8 0) := (blk_cell BK148.out 3).trans rfl
      have hfz8_0 := blk_frozen BK148.out 0
      have hfz8_1 := blk_frozen BK148.out 1
      have hfz8_2 := blk_frozen BK148.out 2
      have hfz8_3 := blk_frozen BK148.out 3
      go_wp2
      refine bodyPost_ret (results_ct rfl _ _ gb148 125 #[.int .i64 a0, .int .i64 a1, .int .i64 0, .int .u8 0] (0, 0) _ rfl zz17 Try.underlying125 rfl zz4) rfl ?_
      exact ⟨zz3, zz35⟩
     ·
      rw [if_neg c7] at H
      have c7b0 : decide (0 < a1) = false := decide_eq_false c7
      clear c7
      simp only [Option.some.injEq, Prod.mk.injEq] at H
      obtain ⟨rfl, rfl, rfl, rfl, rfl⟩ := H
      have hcz9_0 : wc.cell? ⟨gb148, 0, none⟩ = some (.int .i64 0) := (blk_cell BK148.out 0).trans rfl
      have hcz9_1 : wc.cell? ⟨gb148, 1, none⟩ = some (.int .i64 0) := (blk_cell BK148.out 1).trans rfl
      have hcz9_2 : wc.cell? ⟨gb148, 2, none⟩ = some (.int .i64 0) := (blk_cell BK148.out 2).trans rfl
      have hcz9_3 : wc.cell? ⟨gb148, 3, none⟩ = some (.int .u8 0) := (blk_cell BK148.out 3).trans rfl
      have hfz9_0 := blk_frozen BK148.out 0
      have hfz9_1 := blk_frozen BK148.out 1
      have hfz9_2 := blk_frozen BK148.out 2
      have hfz9_3 := blk_frozen BK148.out 3
      go_wp2
      refine bodyPost_ret (results_ct rfl _ _ gb148 125 #[.int .i64 0, .int .i64 0, .int .i64 0, .int .u8 0] (0, 0) _ rfl zz18 Try.underlying125 rfl zz4) rfl ?_
      exact ⟨zz3, zz35⟩
    ·
     replace c6 := Bool.eq_false_iff.mpr c6
     subst c6
     have H1 : (if a0 = 1 then (if a1 = 1 then (some (a0, a1, 0, 0, true)) else (some (0, 0, 0, 0, false))) else (if a0 = 5 then (if a1 = 0 then (some (a0, a1, 0, 0, true)) else (some (0, 0, 0, 0, false))) else (if (decide (a1 ≥ 0)) = true then (some (a0, a1, 0, 0, true)) else (some (0, 0, 0, 0, false))))) = some (r1, r2, r3, r4, r5) := by rw [if_neg (show ¬ (false = true) by decide)] at H; exact H
     clear H
     have H := H1
     clear H1
     by_cases c10 : a0 = 1
     ·
      rw [if_pos c10] at H
      have c10b0 : (a0 == 1) = true := beq_iff_eq.mpr c10
      have c10b1 : (a0 != 1) = false := bne_eq_false_iff_eq.mpr c10
      clear c10
      by_cases c11 : a1 = 1
      ·
       rw [if_pos c11] at H
       have c11b0 : (a1 == 1) = true := beq_iff_eq.mpr c11
       have c11b1 : (a1 != 1) = false := bne_eq_false_iff_eq.mpr c11
       clear c11
       simp only [Option.some.injEq, Prod.mk.injEq] at H
       obtain ⟨rfl, rfl, rfl, rfl, rfl⟩ := H
       have hcz12_0 : wc.cell? ⟨gb148, 0, none⟩ = some (.int .i64 0) := (blk_cell BK148.out 0).trans rfl
       have hcz12_1 : wc.cell? ⟨gb148, 1, none⟩ = some (.int .i64 0) := (blk_cell BK148.out 1).trans rfl
       have hcz12_2 : wc.cell? ⟨gb148, 2, none⟩ = some (.int .i64 0) := (blk_cell BK148.out 2).trans rfl
       have hcz12_3 : wc.cell? ⟨gb148, 3, none⟩ = some (.int .u8 0) := (blk_cell BK148.out 3).trans rfl
       have hfz12_0 := blk_frozen BK148.out 0
       have hfz12_1 := blk_frozen BK148.out 1
       have hfz12_2 := blk_frozen BK148.out 2
       have hfz12_3 := blk_frozen BK148.out 3
       go_wp2
       refine bodyPost_ret (results_ct rfl _ _ gb148 125 #[.int .i64 a0, .int .i64 a1, .int .i64 0, .int .u8 0] (0, 0) _ rfl zz17 Try.underlying125 rfl zz4) rfl ?_
       exact ⟨zz3, zz35⟩
      ·
       rw [if_neg c11] at H
       have c11b0 : (a1 == 1) = false := beq_eq_false_iff_ne.mpr c11
       have c11b1 : (a1 != 1) = true := bne_iff_ne.mpr c11
       simp only [Option.some.injEq, Prod.mk.injEq] at H
       obtain ⟨rfl, rfl, rfl, rfl, rfl⟩ := H
       have hcz13_0 : wc.cell? ⟨gb148, 0, none⟩ = some (.int .i64 0) := (blk_cell BK148.out 0).trans rfl
       have hcz13_1 : wc.cell? ⟨gb148, 1, none⟩ = some (.int .i64 0) := (blk_cell BK148.out 1).trans rfl
       have hcz13_2 : wc.cell? ⟨gb148, 2, none⟩ = some (.int .i64 0) := (blk_cell BK148.out 2).trans rfl
       have hcz13_3 : wc.cell? ⟨gb148, 3, none⟩ = some (.int .u8 0) := (blk_cell BK148.out 3).trans rfl
       have hfz13_0 := blk_frozen BK148.out 0
       have hfz13_1 := blk_frozen BK148.out 1
       have hfz13_2 := blk_frozen BK148.out 2
       have hfz13_3 := blk_frozen BK148.out 3
       go_wp2
       refine bodyPost_ret (results_ct rfl _ _ gb148 125 #[.int .i64 0, .int .i64 0, .int .i64 0, .int .u8 0] (0, 0) _ rfl zz18 Try.underlying125 rfl zz4) rfl ?_
       exact ⟨zz3, zz35⟩
     ·
      rw [if_neg c10] at H
      have c10b0 : (a0 == 1) = false := beq_eq_false_iff_ne.mpr c10
      have c10b1 : (a0 != 1) = true := bne_iff_ne.mpr c10
      by_cases c14 : a0 = 5
      ·
       rw [if_pos c14] at H
       have c14b0 : (a0 == 5) = true := beq_iff_eq.mpr c14
       have c14b1 : (a0 != 5) = false := bne_eq_false_iff_eq.mpr c14
       clear c14
       by_cases c15 : a1 = 0
       ·
        rw [if_pos c15] at H
        have c15b0 : (a1 == 0) = true := beq_iff_eq.mpr c15
        have c15b1 : (a1 != 0) = false := bne_eq_false_iff_eq.mpr c15
        clear c15
        simp only [Option.some.injEq, Prod.mk.injEq] at H
        obtain ⟨rfl, rfl, rfl, rfl, rfl⟩ := H
        have hcz16_0 : wc.cell? ⟨gb148, 0, none⟩ = some (.int .i64 0) := (blk_cell BK148.out 0).trans rfl
        have hcz16_1 : wc.cell? ⟨gb148, 1, none⟩ = some (.int .i64 0) := (blk_cell BK148.out 1).trans rfl
        have hcz16_2 : wc.cell? ⟨gb148, 2, none⟩ = some (.int .i64 0) := (blk_cell BK148.out 2).trans rfl
        have hcz16_3 : wc.cell? ⟨gb148, 3, none⟩ = some (.int .u8 0) := (blk_cell BK148.out 3).trans rfl
        have hfz16_0 := blk_frozen BK148.out 0
        have hfz16_1 := blk_frozen BK148.out 1
        have hfz16_2 := blk_frozen BK148.out 2
        have hfz16_3 := blk_frozen BK148.out 3
        go_wp2
        refine bodyPost_ret (results_ct rfl _ _ gb148 125 #[.int .i64 a0, .int .i64 a1, .int .i64 0, .int .u8 0] (0, 0) _ rfl zz17 Try.underlying125 rfl zz4) rfl ?_
        exact ⟨zz3, zz35⟩
       ·
        rw [if_neg c15] at H
        have c15b0 : (a1 == 0) = false := beq_eq_false_iff_ne.mpr c15
        have c15b1 : (a1 != 0) = true := bne_iff_ne.mpr c15
        simp only [Option.some.injEq, Prod.mk.injEq] at H
        obtain ⟨rfl, rfl, rfl, rfl, rfl⟩ := H
        have hcz17_0 : wc.cell? ⟨gb148, 0, none⟩ = some (.int .i64 0) := (blk_cell BK148.out 0).trans rfl
        have hcz17_1 : wc.cell? ⟨gb148, 1, none⟩ = some (.int .i64 0) := (blk_cell BK148.out 1).trans rfl
        have hcz17_2 : wc.cell? ⟨gb148, 2, none⟩ = some (.int .i64 0) := (blk_cell BK148.out 2).trans rfl
        have hcz17_3 : wc.cell? ⟨gb148, 3, none⟩ = some (.int .u8 0) := (blk_cell BK148.out 3).trans rfl
        have hfz17_0 := blk_frozen BK148.out 0
        have hfz17_1 := blk_frozen BK148.out 1
        have hfz17_2 := blk_frozen BK148.out 2
        have hfz17_3 := blk_frozen BK148.out 3
        go_wp2
        refine bodyPost_ret (results_ct rfl _ _ gb148 125 #[.int .i64 0, .int .i64 0, .int .i64 0, .int .u8 0] (0, 0) _ rfl zz18 Try.underlying125 rfl zz4) rfl ?_
        exact ⟨zz3, zz35⟩
      ·
       rw [if_neg c14] at H
       have c14b0 : (a0 == 5) = false := beq_eq_false_iff_ne.mpr c14
       have c14b1 : (a0 != 5) = true := bne_iff_ne.mpr c14
       by_cases c18 : (decide (a1 ≥ 0)) = true
       ·
        rw [if_pos c18] at H
        have c18b0 : (decide (a1 ≥ 0)) = true := c18
        clear c18
        simp only [Option.some.injEq, Prod.mk.injEq] at H
        obtain ⟨rfl, rfl, rfl, rfl, rfl⟩ := H
        have hcz19_0 : wc.cell? ⟨gb148, 0, none⟩ = some (.int .i64 0) := (blk_cell BK148.out 0).trans rfl
        have hcz19_1 : wc.cell? ⟨gb148, 1, none⟩ = some (.int .i64 0) := (blk_cell BK148.out 1).trans rfl
        have hcz19_2 : wc.cell? ⟨gb148, 2, none⟩ = some (.int .i64 0) := (blk_cell BK148.out 2).trans rfl
        have hcz19_3 : wc.cell? ⟨gb148, 3, none⟩ = some (.int .u8 0) := (blk_cell BK148.out 3).trans rfl
        have hfz19_0 := blk_frozen BK148.out 0
        have hfz19_1 := blk_frozen BK148.out 1
        have hfz19_2 := blk_frozen BK148.out 2
        have hfz19_3 := blk_frozen BK148.out 3
        go_wp2
        refine bodyPost_ret (results_ct rfl _ _ gb148 125 #[.int .i64 a0, .int .i64 a1, .int .i64 0, .int .u8 0] (0, 0) _ rfl zz17 Try.underlying125 rfl zz4) rfl ?_
        exact ⟨zz3, zz35⟩
       ·
        rw [if_neg c18] at H
        have c18b0 : (decide (a1 ≥ 0)) = false := by simpa using c18
        clear c18
        simp only [Option.some.injEq, Prod.mk.injEq] at H
        obtain ⟨rfl, rfl, rfl, rfl, rfl⟩ := H
        have hcz20_0 : wc.cell? ⟨gb148, 0, none⟩ = some (.int .i64 0) := (blk_cell BK148.out 0).trans rfl
        have hcz20_1 : wc.cell? ⟨gb148, 1, none⟩ = some (.int .i64 0) := (blk_cell BK148.out 1).trans rfl
        have hcz20_2 : wc.cell? ⟨gb148, 2, none⟩ = some (.int .i64 0) := (blk_cell BK148.out 2).trans rfl
        have hcz20_3 : wc.cell? ⟨gb148, 3, none⟩ = some (.int .u8 0) := (blk_cell BK148.out 3).trans rfl
        have hfz20_0 := blk_frozen BK148.out 0
        have hfz20_1 := blk_frozen BK148.out 1
        have hfz20_2 := blk_frozen BK148.out 2
        have hfz20_3 := blk_frozen BK148.out 3
        go_wp2
        refine bodyPost_ret (results_ct rfl _ _ gb148 125 #[.int .i64 0, .int .i64 0, .int .i64 0, .int .u8 0] (0, 0) _ rfl zz18 Try.underlying125 rfl zz4) rfl ?_
        exact ⟨zz3, zz35⟩
end Go.Proofs.Ytgddaddoabjgiaa.PB
namespace Go.Proofs.Ytgddaddoabjgiaa.BNum
open RowKit PB YtgddaddoabjgiaaW.PrintWords YtgddaddoabjgiaaW.PrintLast YtgddaddoabjgiaaW.PrintMore
open Bs
open Go.Proofs.Ytgddaddoabjgiaa.Nm (pn sb fo sv Least Fits)
set_option linter.unusedVariables false
def okN (tag n : Int) : Bool :=
 if tag = 2 ∨ tag = 10 then decide (n > 0) else if tag = 1 then n == 1 else if tag = 5 then n == 0 else decide (n ≥ 0)
def okP (tag at_ first b : Int) : Bool :=
 if tag = 1 then b == 0 || b == 255
 else if (tag = 2 ∨ tag = 10) ∧ at_ = 1 then !(first == 0 && decide (b < 128) || first == 255 && decide (b ≥ 128))
 else true
theorem start_eq (k : Nat) (tag n : Int) : number_Start.f (k + 1) tag n = some (if okN tag n = true then (tag, n, 0, 0, true) else (0, 0, 0, 0, false)) := by
 unfold number_Start.f okN
 simp only [number_Start.j0]
 by_cases h2 : tag = 2
 ·
  subst h2; by_cases hn : n > 0 <;> simp [hn]
 by_cases h10 : tag = 10
 ·
  subst h10; by_cases hn : n > 0 <;> simp [hn]
 by_cases h1 : tag = 1
 ·
  subst h1; by_cases hn : n = 1 <;> simp [hn]
 by_cases h5 : tag = 5
 ·
  subst h5; by_cases hn : n = 0 <;> simp [hn]
 by_cases hn : n ≥ 0 <;> simp [h2, h10, h1, h5, hn]
theorem push_eq (k : Nat) (tag n at_ first b : Int) (ha : 0 ≤ at_) (ha' : at_ < 4611686018427387904) : number_State_Push.f (k + 1) tag n at_ first b =
 some (if okP tag at_ first b = true then (tag, n, at_ + 1, (if at_ = 0 then b else first), true) else (0, 0, 0, 0, false)) := by
 have e : ∀ c : Bool, number_State_Push.j0 (k + 1) b c tag n at_ first = some (if c = true then (tag, n, at_ + 1, (if at_ = 0 then b else first), true) else (0, 0, 0, 0, false)) := by
  intro c
  simp only [number_State_Push.j0]
  rw [w64 (x := at_ + 1) zz7 zz7]
  cases c
  ·
   rfl
  ·
   by_cases h : at_ = 0
   ·
    simp [h]
   ·
    simp [h]
 have e1 : ∀ c d : Bool, c = d → number_State_Push.j0 (k + 1) b c tag n at_ first = some (if d = true then (tag, n, at_ + 1, (if at_ = 0 then b else first), true) else (0, 0, 0, 0, false)) := fun c d h => h ▸ e c
 unfold number_State_Push.f
 by_cases h1 : tag = 1
 ·
  rw [if_pos h1]
  by_cases hb : b = 0
  ·
   rw [if_pos hb]; exact e1 _ _ (by simp [okP, h1, hb])
  ·
   rw [if_neg hb]; exact e1 _ _ (by simp [okP, h1, hb])
 rw [if_neg h1]
 by_cases h2 : tag = 2
 ·
  rw [if_pos h2]
  by_cases h3 : at_ = 1
  ·
   rw [if_pos h3]
   by_cases h4 : first = 0
   ·
    rw [if_pos h4]
    by_cases h5 : b < 128
    ·
     rw [if_pos h5]; exact e1 _ _ (by simp [okP, h2, h3, h4, h5])
    ·
     rw [if_neg h5, if_neg zz7]; exact e1 _ _ (by simp [okP, h2, h3, h4, h5])
   ·
    rw [if_neg h4]
    by_cases h6 : first = 255
    ·
     rw [if_pos h6]; exact e1 _ _ (by simp [okP, h2, h3, h6])
    ·
     rw [if_neg h6]; exact e1 _ _ (by simp [okP, h2, h3, h4, h6])
  ·
   rw [if_neg h3]; exact e1 _ _ (by simp [okP, h2, h3])
 rw [if_neg h2]
 by_cases h10 : tag = 10
 ·
  rw [if_pos h10]
  by_cases h3 : at_ = 1
  ·
   rw [if_pos h3]
   by_cases h4 : first = 0
   ·
    rw [if_pos h4]
    by_cases h5 : b < 128
    ·
     rw [if_pos h5]; exact e1 _ _ (by simp [okP, h10, h3, h4, h5])
    ·
     rw [if_neg h5, if_neg zz7]; exact e1 _ _ (by simp [okP, h10, h3, h4, h5])
   ·
    rw [if_neg h4]
    by_cases h6 : first = 255
    ·
     rw [if_pos h6]; exact e1 _ _ (by simp [okP, h10, h3, h6])
    ·
     rw [if_neg h6]; exact e1 _ _ (by simp [okP, h10, h3, h4, h6])
  ·
   rw [if_neg h3]; exact e1 _ _ (by simp [okP, h10, h3])
 rw [if_neg h10]
 exact e1 _ _ (by simp [okP, h1, h2, h10])
def wr (tag n : Int) (l : List Int) : Int :=
 if okN tag n = false ∨ n < 0 then 0
 else if tag = 1 then (match l with
  | b :: _ => if okP 1 0 0 b = true then -1 else 1
  | [] => -1)
 else if tag = 2 ∨ tag = 10 then (match l with
  | a :: b :: _ => if okP tag 1 a b = true then -1 else 2
  | _ => -1)
 else -1
theorem wrong_eq (k : Nat) (tag n : Int) (s : ByteArray) : gantletref10_Wrong.f (k + 1) tag n s = some (wr tag n (bytesOf s)) := by
 have hl := bytesOf_length s
 have hb0 := bt_get s 0
 have hb1 := bt_get s 1
 have j0 : ∀ c : Bool, 0 ≤ n → gantletref10_Wrong.j0 (k + 1) n s c = some (if c = true then -1 else if n = 0 then 0 else (match bytesOf s with
  | a :: b :: _ => if okP 2 1 a b = true then -1 else 2
  | _ => -1)) := by
  intro c hn
  simp only [gantletref10_Wrong.j0]
  cases c
  ·
   simp only [Bool.false_eq_true, if_false]
   by_cases h0 : n = 0
   ·
    rw [if_pos h0, if_pos h0]
   rw [if_neg h0, if_neg h0]
   cases hs : bytesOf s with
   | nil => rw [hs] at hl; rw [if_neg (by simp at hl; omega)]
   | cons a r =>
     cases r with
     | nil => rw [hs] at hl; rw [if_neg (by simp at hl; omega)]
     | cons b r =>
       rw [hs] at hl hb0 hb1
       simp at hl hb0 hb1
       rw [if_pos zz7, if_pos zz7, hb0, hb1]
       simp only [okP]
       by_cases ha : a = 0
       ·
        subst ha
        rw [if_pos rfl, if_pos zz7]
        by_cases hb : b < 128
        ·
         rw [if_pos hb]; simp [hb]
        ·
         rw [if_neg hb, if_neg zz13]; simp [hb]
       ·
        rw [if_neg ha]
        by_cases ha5 : a = 255
        ·
         subst ha5
         rw [if_pos rfl, if_pos zz7]
         by_cases hb : b > 127
         ·
          rw [if_pos hb]; simp; omega
         ·
          rw [if_neg hb]; simp; omega
        ·
         rw [if_neg ha5]; simp [ha, ha5]
  ·
   simp
 unfold gantletref10_Wrong.f wr
 by_cases hn : n < 0
 ·
  rw [if_pos hn, if_pos (.inr hn)]
 rw [if_neg hn]
 by_cases h5 : tag = 5
 ·
  subst h5
  rw [if_pos rfl]
  by_cases h0 : n = 0
  ·
   simp [okN, h0]
  ·
   simp [okN, h0]
 rw [if_neg h5]
 by_cases h1 : tag = 1
 ·
  subst h1
  rw [if_pos rfl]
  by_cases hn1 : n = 1
  ·
   subst hn1
   rw [if_pos rfl]
   cases hs : bytesOf s with
   | nil => rw [hs] at hl; rw [if_neg (by simp at hl; omega)]; simp [okN]
   | cons b r =>
     rw [hs] at hl hb0
     simp at hl hb0
     rw [if_pos zz7, if_pos zz7, hb0]
     by_cases h : b = 0
     ·
      simp [h, okN, okP]
     ·
      by_cases h' : b = 255
      ·
       simp [h', okN, okP]
      ·
       simp [h, h', okN, okP]
  ·
   rw [if_neg hn1]; simp [okN, hn1]
 rw [if_neg h1]
 by_cases h2 : tag = 2
 ·
  subst h2
  rw [if_pos rfl, j0 _ zz7]
  by_cases h0 : n = 0
  ·
   simp [okN, h0]
  ·
   have : n > 0 := by omega
   simp [okN, h0, this]; omega
 rw [if_neg h2, j0 _ zz7]
 by_cases h10 : tag = 10
 ·
  subst h10
  by_cases h0 : n = 0
  ·
   simp [okN, h0]
  ·
   have : n > 0 := by omega
   simp [okN, h0, this, okP]; omega
 ·
  have : (tag != 10) = true := by simpa using h10
  rw [if_pos this, if_neg, if_neg h1, if_neg zz7]
  simp [okN, h1, h2, h5, h10]; omega
theorem put_l0 (k : Nat) : ∀ (n : Nat) (v : Int) (acc : List Int), Fits n v → acc.length < 1000 - n → number_Put.l0 (k + n + 1) v (v % 256 :: acc) = some (strOfNums (pn n v ++ acc)) := by
 intro n
 induction n with
 | zero =>
   intro v acc hf hl
   obtain ⟨h1, h2⟩ := hf
   show number_Put.l0 (k + 1) v _ = _
   simp only [number_Put.l0]
   rw [if_neg zz7, if_neg zz7]
   rfl
 | succ n ih =>
   intro v acc hf hl
   show number_Put.l0 (k + n + 1 + 1) v _ = _
   simp only [number_Put.l0, Option.bind_some]
   have hi := ih (v / 256) (v % 256 :: acc) hf zz73
   have hg : ([v / 256 % 256] : List Int).length + (v % 256 :: acc).length < 140737488355328 := by simp; omega
   by_cases h1 : v > 127
   ·
    rw [if_pos h1, if_pos hg]
    simp only [pn]
    rw [if_pos (show v > 127 ∨ v < -128 from .inl h1), List.append_assoc]
    exact hi
   by_cases h2 : v < -128
   ·
    rw [if_neg h1, if_pos h2, if_pos hg]
    simp only [pn]
    rw [if_pos (show v > 127 ∨ v < -128 from .inr h2), List.append_assoc]
    exact hi
   ·
    rw [if_neg h1, if_neg h2]
    simp only [pn]
    rw [if_neg zz7]
    rfl
theorem fits64 {v : Int} (h : -9223372036854775808 ≤ v ∧ v ≤ 9223372036854775807) : Fits 7 v := by
 show -128 ≤ v / 256 / 256 / 256 / 256 / 256 / 256 / 256 ∧ v / 256 / 256 / 256 / 256 / 256 / 256 / 256 ≤ 127
 omega
theorem put_ok (k : Nat) (v : Int) (h : -9223372036854775808 ≤ v ∧ v ≤ 9223372036854775807) : number_Put.f (k + 8) v = some (strOfNums (pn 7 v)) := by
 unfold number_Put.f
 have := put_l0 k 7 v [] (fits64 h) zz43
 rw [List.append_nil] at this
 exact this
theorem wr_two (a : Int) (r : List Int) : wr 2 ((a :: r).length : Int) (a :: r) = if r ≠ [] ∧ okP 2 1 a (r.getD 0 0) = false then 2 else -1 := by
 have h1 : okN 2 ((a :: r).length : Int) = true := by simp [okN]
 unfold wr
 rw [if_neg (by rw [h1]; simp; omega), if_neg zz13, if_pos (.inl rfl)]
 cases r with
 | nil => simp
 | cons b r => simp; cases okP 2 1 a b <;> rfl
end Go.Proofs.Ytgddaddoabjgiaa.BNum
