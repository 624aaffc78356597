/- What the row of EncodeSorts stands on, made small by a program of this session (pack.py). -/
import Derived.Test.YtgddaddoabjgiaaCEncodeSorts2
import Derived.Test.YtgddaddoabjgiaaCEncodeSorts3
import Derived.Test.YtgddaddoabjgiaaCEncodeSorts5
import Derived.Test.YtgddaddoabjgiaaCEncodeSorts6
import Derived.Test.YtgddaddoabjgiaaCEncodeSorts7
import Derived.Test.YtgddaddoabjgiaaCEncodeSorts8
import Derived.Test.YtgddaddoabjgiaaCEncodeSorts9
import Derived.Test.YtgddaddoabjgiaaCEncodeSorts10
import Derived.Test.YtgddaddoabjgiaaCEncodeSorts11
namespace Go.Proofs.Ytgddaddoabjgiaa.PB
open RowKit YtgddaddoabjgiaaW.PrintWords YtgddaddoabjgiaaW.PrintLast YtgddaddoabjgiaaW.PrintMore
attribute [local go_sem] max2_int min2_int max_two min_two max_three min_three max_four min_four
set_option linter.unusedVariables false
set_option linter.unusedSimpArgs false
def bitstr_Put.f (k : Nat) (a0 : Int) (a1 : ByteArray) : Option (ByteArray × Bool) := (some (([(a0) % 256] : List Int) : List Int)).bind fun y218 => (if (strOfNums y218).size + a1.size ≤ 9223372036854775807 then (if a0 < 0 then (some ((⟨#[]⟩ : ByteArray), false)) else (if a0 > 7 then (some ((⟨#[]⟩ : ByteArray), false)) else ((bitstr_right.f k ((strOfNums y218) ++ a1)).bind fun t221 => (if t221 = true then (some ((strOfNums y218) ++ a1, true)) else (some ((⟨#[]⟩ : ByteArray), false)))))) else (none))
set_option maxHeartbeats 8000000 in
set_option maxRecDepth 100000 in
theorem bitstr_Put.calls (k : Nat) (a0 : Int) (a1 : ByteArray) (r1 : ByteArray) (r2 : Bool) (w : World) (h : bitstr_Put.f k a0 a1 = some (r1, r2)) :
 Calls Try.prog 23 #[.int .i64 a0, .string a1] w fun e w' => e = .returned (.tuple #[.string r1, .bool r2]) ∧ Below w.heap.size w w' := by
 have HB := Aside0.mk (Below.refl w.heap.size w)
 have H : ((some (([(a0) % 256] : List Int) : List Int)).bind fun y218 => (if (strOfNums y218).size + a1.size ≤ 9223372036854775807 then (if a0 < 0 then (some ((⟨#[]⟩ : ByteArray), false)) else (if a0 > 7 then (some ((⟨#[]⟩ : ByteArray), false)) else ((bitstr_right.f k ((strOfNums y218) ++ a1)).bind fun t221 => (if t221 = true then (some ((strOfNums y218) ++ a1, true)) else (some ((⟨#[]⟩ : ByteArray), false)))))) else (none))) = some (r1, r2) := h
 clear h
 obtain ⟨y218, hy218⟩ : ∃ y_ : List Int, y_ = (([(a0) % 256] : List Int)) := ⟨_, rfl⟩
 replace H : (if (strOfNums y218).size + a1.size ≤ 9223372036854775807 then (if a0 < 0 then (some ((⟨#[]⟩ : ByteArray), false)) else (if a0 > 7 then (some ((⟨#[]⟩ : ByteArray), false)) else ((bitstr_right.f k ((strOfNums y218) ++ a1)).bind fun t221 => (if t221 = true then (some ((strOfNums y218) ++ a1, true)) else (some ((⟨#[]⟩ : ByteArray), false)))))) else (none)) = some (r1, r2) := by first | (rw [hy218]; with_reducible exact H) | (have H2_ := (Option.bind_some _ _).symm.trans H; rw [hy218]; with_reducible exact H2_) | (have H2_ := (Option.bind_some _ _).symm.trans H; with_reducible exact H2_) | with_reducible exact H | (rw [hy218]; exact H) | exact H
 have Ny218 := Aside0.mk hy218
 clear hy218
 by_cases c3 : (strOfNums y218).size + a1.size ≤ 9223372036854775807
 ·
  rw [if_pos c3] at H
  have c3b0 := eq_true c3
  have c3b1 : decide ((strOfNums y218).size + a1.size ≤ 9223372036854775807) = true := decide_eq_true c3
  try have c3b2 : (9223372036854775807 < (strOfNums y218).size + a1.size) = False := eq_false (Nat.not_lt.2 c3)
  by_cases c4 : a0 < 0
  ·
   rw [if_pos c4] at H
   have c4b0 : decide (a0 < 0) = true := decide_eq_true c4
   clear c4
   simp only [Option.some.injEq, Prod.mk.injEq] at H
   obtain ⟨rfl, rfl⟩ := H
   go_enter Try.func23, Try.ntmps23
   go_wp2_with (first | ((with_reducible refine gate_dst (N := 9) rfl ?_); refine Kd.R_lit (Kd.int .u8) _ 5 ?hg (N := 9) ?hd (xs := ([(a0) % 256] : List Int)) (inner := [.int .u8 ((a0) % 256)]) (ok := fun _ => True) (okp := fun _ => True) ?hr ?hp (fun _ hk => hk) trivial (Below.refl _ _) (Nat.le_refl _) zz43 ?_; (case hd => rfl); (case hg => rfl); (case hr => first | (go_simp; done) | (go_simp; rfl)); (case hp => exact (Reps.one (show Kd.M (Kd.int .u8) _ _ _ ((a0) % 256) [.int .u8 ((a0) % 256)] from rfl) (Reps.none _ _))); intro v219 w5 ho6 hb hg_ hnew_; clear hg_ hnew_; (first | rw [← Ny218.out] at ho6 | (simp only [Int.reduceToNat] at ho6; rw [← Ny218.out] at ho6)); have n0_ := Aside0.mk (Kd.R_lower ho6 (below_size zz1)); have n1_ := Aside0.mk (below_step zz1 hb); clear HB; have HO220 := n0_; have HB := n1_; clear n0_ n1_; clear hb ho6; have hcv7 := own_string (P := Try.prog) Try.underlying76 Try.underlying5 Try.underlying9 (Kd.own_of_R HO220.out)))
   go_ret2
   exact ⟨zz3, zz1⟩
  ·
   rw [if_neg c4] at H
   have c4b0 : decide (a0 < 0) = false := decide_eq_false c4
   clear c4
   by_cases c8 : a0 > 7
   ·
    rw [if_pos c8] at H
    have c8b0 : decide (7 < a0) = true := decide_eq_true c8
    clear c8
    simp only [Option.some.injEq, Prod.mk.injEq] at H
    obtain ⟨rfl, rfl⟩ := H
    go_enter Try.func23, Try.ntmps23
    go_wp2_with (first | ((with_reducible refine gate_dst (N := 9) rfl ?_); refine Kd.R_lit (Kd.int .u8) _ 5 ?hg (N := 9) ?hd (xs := ([(a0) % 256] : List Int)) (inner := [.int .u8 ((a0) % 256)]) (ok := fun _ => True) (okp := fun _ => True) ?hr ?hp (fun _ hk => hk) trivial (Below.refl _ _) (Nat.le_refl _) zz43 ?_; (case hd => rfl); (case hg => rfl); (case hr => first | (go_simp; done) | (go_simp; rfl)); (case hp => exact (Reps.one (show Kd.M (Kd.int .u8) _ _ _ ((a0) % 256) [.int .u8 ((a0) % 256)] from rfl) (Reps.none _ _))); intro v219 w9 ho10 hb hg_ hnew_; clear hg_ hnew_; (first | rw [← Ny218.out] at ho10 | (simp only [Int.reduceToNat] at ho10; rw [← Ny218.out] at ho10)); have n0_ := Aside0.mk (Kd.R_lower ho10 (below_size zz1)); have n1_ := Aside0.mk (below_step zz1 hb); clear HB; have HO220 := n0_; have HB := n1_; clear n0_ n1_; clear hb ho10; have hcv11 := own_string (P := Try.prog) Try.underlying76 Try.underlying5 Try.underlying9 (Kd.own_of_R HO220.out)))
    go_ret2
    exact ⟨zz3, zz1⟩
   ·
    rw [if_neg c8] at H
    have c8b0 : decide (7 < a0) = false := decide_eq_false c8
    clear c8
    replace H := Option.bind_eq_some_iff.mp H
    obtain ⟨t221, A120, H⟩ := H
    replace H : (if t221 = true then (some ((strOfNums y218) ++ a1, true)) else (some ((⟨#[]⟩ : ByteArray), false))) = some (r1, r2) := H
    have A12 := Aside0.mk A120
    clear A120
    by_cases c13 : t221 = true
    ·
     subst c13
     have H1 : (some ((strOfNums y218) ++ a1, true)) = some (r1, r2) := by rw [if_pos rfl] at H; exact H
     clear H
     have H := H1
     clear H1
     simp only [Option.some.injEq, Prod.mk.injEq] at H
     obtain ⟨rfl, rfl⟩ := H
     go_enter Try.func23, Try.ntmps23
     go_wp2_with (first | ((with_reducible refine gate_dst (N := 9) rfl ?_); refine Kd.R_lit (Kd.int .u8) _ 5 ?hg (N := 9) ?hd (xs := ([(a0) % 256] : List Int)) (inner := [.int .u8 ((a0) % 256)]) (ok := fun _ => True) (okp := fun _ => True) ?hr ?hp (fun _ hk => hk) trivial (Below.refl _ _) (Nat.le_refl _) zz43 ?_; (case hd => rfl); (case hg => rfl); (case hr => first | (go_simp; done) | (go_simp; rfl)); (case hp => exact (Reps.one (show Kd.M (Kd.int .u8) _ _ _ ((a0) % 256) [.int .u8 ((a0) % 256)] from rfl) (Reps.none _ _))); intro v219 w14 ho15 hb hg_ hnew_; clear hg_ hnew_; (first | rw [← Ny218.out] at ho15 | (simp only [Int.reduceToNat] at ho15; rw [← Ny218.out] at ho15)); have n0_ := Aside0.mk (Kd.R_lower ho15 (below_size zz1)); have n1_ := Aside0.mk (below_step zz1 hb); clear HB; have HO220 := n0_; have HB := n1_; clear n0_ n1_; clear hb ho15; have hcv16 := own_string (P := Try.prog) Try.underlying76 Try.underlying5 Try.underlying9 (Kd.own_of_R HO220.out)) | (go_at_call 45; (with_reducible refine (bitstr_right.calls k ((strOfNums y218) ++ a1) true _ A12.out).mono ?_); rintro e w17 ⟨rfl, hb⟩; have n0_ := Aside0.mk (Kd.R_below (by (with_reducible repeat (first | apply Kd.R_alloc | apply Kd.R_drewN | apply Kd.R_drew)); exact HO220.out) hb); have n1_ := Aside0.mk (below_step zz1 hb); clear HO220; clear HB; have HO220 := n0_; have HB := n1_; clear n0_ n1_; (try clear hb); (try clear hb2); (try clear hk); (try clear hi)))
     go_ret2
     exact ⟨zz3, zz1⟩
    ·
     replace c13 := Bool.eq_false_iff.mpr c13
     subst c13
     have H1 : (some ((⟨#[]⟩ : ByteArray), false)) = some (r1, r2) := by rw [if_neg (show ¬ (false = true) by decide)] at H; exact H
     clear H
     have H := H1
     clear H1
     simp only [Option.some.injEq, Prod.mk.injEq] at H
     obtain ⟨rfl, rfl⟩ := H
     go_enter Try.func23, Try.ntmps23
     go_wp2_with (first | ((with_reducible refine gate_dst (N := 9) rfl ?_); refine Kd.R_lit (Kd.int .u8) _ 5 ?hg (N := 9) ?hd (xs := ([(a0) % 256] : List Int)) (inner := [.int .u8 ((a0) % 256)]) (ok := fun _ => True) (okp := fun _ => True) ?hr ?hp (fun _ hk => hk) trivial (Below.refl _ _) (Nat.le_refl _) zz43 ?_; (case hd => rfl); (case hg => rfl); (case hr => first | (go_simp; done) | (go_simp; rfl)); (case hp => exact (Reps.one (show Kd.M (Kd.int .u8) _ _ _ ((a0) % 256) [.int .u8 ((a0) % 256)] from rfl) (Reps.none _ _))); intro v219 w18 ho19 hb hg_ hnew_; clear hg_ hnew_; (first | rw [← Ny218.out] at ho19 | (simp only [Int.reduceToNat] at ho19; rw [← Ny218.out] at ho19)); have n0_ := Aside0.mk (Kd.R_lower ho19 (below_size zz1)); have n1_ := Aside0.mk (below_step zz1 hb); clear HB; have HO220 := n0_; have HB := n1_; clear n0_ n1_; clear hb ho19; have hcv20 := own_string (P := Try.prog) Try.underlying76 Try.underlying5 Try.underlying9 (Kd.own_of_R HO220.out)) | (go_at_call 45; (with_reducible refine (bitstr_right.calls k ((strOfNums y218) ++ a1) false _ A12.out).mono ?_); rintro e w21 ⟨rfl, hb⟩; have n0_ := Aside0.mk (Kd.R_below (by (with_reducible repeat (first | apply Kd.R_alloc | apply Kd.R_drewN | apply Kd.R_drew)); exact HO220.out) hb); have n1_ := Aside0.mk (below_step zz1 hb); clear HO220; clear HB; have HO220 := n0_; have HB := n1_; clear n0_ n1_; (try clear hb); (try clear hb2); (try clear hk); (try clear hi)))
     go_ret2
     exact ⟨zz3, zz1⟩
 ·
  rw [if_neg c3] at H
  exact absurd H zz43
end Go.Proofs.Ytgddaddoabjgiaa.PB
namespace Go.Proofs.Ytgddaddoabjgiaa.Cn
open RowKit PB YtgddaddoabjgiaaW.PrintWords YtgddaddoabjgiaaW.PrintLast YtgddaddoabjgiaaW.PrintMore Own Bs BDat Dt
set_option linter.unusedVariables false
theorem of_drawn {w w' : World} (h : Drawn0 w w') : Upd None0 w w' := by obtain ⟨m, rfl⟩ := h; exact (Upd.refl _ _).drewN m
theorem check_any (tag : Int) (s : ByteArray) (w : World) (hs : s.size ≤ 1000000) :
 Calls Try.prog 53 #[.int .i64 tag, .string s] w fun e w' => e = .returned (.bool (Tx.check tag (bytesOf s))) ∧ Upd None0 w w' :=
 (text_Check.calls (s.size + 4) tag s _ w (BTxt.check_eq tag s zz7 _ (Nat.le_refl _))).mono fun e w' ⟨h1, h2⟩ => ⟨h1, Upd.of_below h2⟩
theorem rcheck_any (tag : Int) (s : ByteArray) (w : World) (hs : s.size ≤ 1000000) :
 Calls Try.prog 40 #[.int .i64 tag, .string s] w fun e w' => e = .returned (.bool (Tx.check tag (bytesOf s))) ∧ Upd None0 w w' :=
 (gantletref14_Check.calls (s.size + 22) tag s _ w (RTxt.rcheck_eq tag s zz7 _ (Nat.le_refl _))).mono fun e w' ⟨h1, h2⟩ => ⟨h1, of_drawn h2⟩
theorem number_one (w : World) : Calls Try.prog 30 #[.int .i64 1] w fun e w' => e = .returned (.string ⟨#[1]⟩) ∧ Upd None0 w w' :=
 (number_Put.calls 10 1 ⟨#[1]⟩ w ((BNum.put_ok 2 1 zz13).trans (congrArg some (show strOfNums (Nm.pn 7 1) = ⟨#[1]⟩ by decide)))).mono fun e w' ⟨h1, h2⟩ => ⟨h1, Upd.of_below h2⟩
def intOk : List Int → Bool
 | [] => false
 | [_] => true
 | a :: b :: _ => !(a == 0 && decide (b < 128) || a == 255 && decide (b ≥ 128))
theorem int_l0 (s : ByteArray) (a : Int) (r : List Int) (hb : bytesOf s = a :: r) (hs : s.size ≤ 1000000) (hok : intOk (a :: r) = true) : ∀ (d k i : Nat) (f : Int), i + d = s.size → d + 3 ≤ k → (i ≠ 0 → f = a) →
 encode_integer.l0 k s true (i : Int) 2 (s.size : Int) (i : Int) f = some true := by
 intro d
 induction d with
 | zero =>
   intro k i f hi hk hf
   obtain ⟨k, rfl⟩ : ∃ m, k = m + 1 := ⟨k - 1, zz7⟩
   rw [encode_integer.l0, if_pos rfl, if_neg zz7]
 | succ d ih =>
   intro k i f hi hk hf
   obtain ⟨k, rfl⟩ : ∃ m, k = m + 2 := ⟨k - 2, zz7⟩
   rw [encode_integer.l0, if_pos rfl, if_pos zz7, if_pos zz7, BNum.push_eq k 2 _ _ _ _ zz7 zz7]
   have e1 : wrap64 ((i : Int) + 1) = ((i + 1 : Nat) : Int) := by unfold wrap64; omega
   have hfa : (if (i : Int) = 0 then bt s (i : Int) else f) = a := by
    by_cases h0 : i = 0
    ·
     subst h0
     rw [if_pos zz7, bt_get, hb, Int.toNat_natCast, List.getD_cons_zero]
    ·
     rw [if_neg zz7]; exact hf h0
   have hp : BNum.okP 2 (i : Int) f (bt s (i : Int)) = true := by
    unfold BNum.okP
    rw [if_neg zz13]
    by_cases h1 : i = 1
    ·
     subst h1
     rw [hf zz7]
     have hlen : (bytesOf s).length = s.size := bytesOf_length s
     cases r with
     | nil => rw [hb] at hlen; rw [List.length_singleton] at hlen; omega
     | cons b r =>
       have e : bt s ((1 : Nat) : Int) = b := by rw [bt_get, hb, Int.toNat_natCast, List.getD_cons_succ, List.getD_cons_zero]
       rw [e, if_pos ⟨.inl rfl, zz7⟩]
       exact hok
    ·
     rw [if_neg (fun h => h1 zz7)]
   rw [if_pos hp, Option.bind_some, e1, hfa]
   exact ih (k + 1) (i + 1) a zz7 zz7 (fun _ => rfl)
theorem int_step (s : ByteArray) (k i : Nat) (f : Int) (hi : i < s.size) (hs : s.size ≤ 1000000) : encode_integer.l0 (k + 2) s true (i : Int) 2 (s.size : Int) (i : Int) f =
 if BNum.okP 2 (i : Int) f (bt s (i : Int)) = true then encode_integer.l0 (k + 1) s true ((i + 1 : Nat) : Int) 2 (s.size : Int) ((i + 1 : Nat) : Int) (if (i : Int) = 0 then bt s (i : Int) else f) else some false := by
 rw [encode_integer.l0, if_pos rfl, if_pos zz7, if_pos zz7, BNum.push_eq k 2 _ _ _ _ zz7 zz7]
 have e1 : wrap64 ((i : Int) + 1) = ((i + 1 : Nat) : Int) := by unfold wrap64; omega
 rw [Option.bind_some, e1]
 split
 ·
  rfl
 ·
  rw [encode_integer.l0, if_neg zz13]
theorem int_eq (s : ByteArray) (hs : s.size ≤ 1000000) : encode_integer.f (s.size + 5) s = some (intOk (bytesOf s)) := by
 unfold encode_integer.f
 rw [BNum.start_eq, Option.bind_some]
 have hlen : (bytesOf s).length = s.size := bytesOf_length s
 cases hb : bytesOf s with
 | nil =>
   rw [hb] at hlen
   have h0 : s.size = 0 := hlen.symm
   rw [if_neg (by unfold BNum.okN; rw [if_pos (.inl rfl), decide_eq_false zz7]; decide)]
   rw [encode_integer.l0, if_neg zz13]
   rfl
 | cons a r =>
   rw [hb, List.length_cons] at hlen
   rw [if_pos (by unfold BNum.okN; rw [if_pos (.inl rfl)]; exact decide_eq_true zz7)]
   by_cases hok : intOk (a :: r) = true
   ·
    rw [hok]
    exact int_l0 s a r hb hs hok s.size (s.size + 5) 0 0 zz7 zz7 (fun h => absurd rfl h)
   ·
    have hf : intOk (a :: r) = false := by simpa using hok
    match r, hb, hlen, hf with
    | [], _, _, hf => cases hf
    | b :: r, hb, hlen, hf =>
      rw [List.length_cons] at hlen
      have e0 : bt s ((0 : Nat) : Int) = a := by rw [bt_get, hb, Int.toNat_natCast, List.getD_cons_zero]
      have e1 : bt s ((1 : Nat) : Int) = b := by rw [bt_get, hb, Int.toNat_natCast, List.getD_cons_succ, List.getD_cons_zero]
      have s0 := int_step s (s.size + 3) 0 0 zz7 hs
      have s1 := int_step s (s.size + 2) 1 a zz7 hs
      rw [if_pos (by unfold BNum.okP; rw [if_neg zz13, if_neg (fun h => by omega)]), if_pos zz7, e0] at s0
      rw [if_neg (by unfold BNum.okP; rw [if_neg zz13, if_pos ⟨.inl rfl, zz7⟩, e1]; rw [show (!(a == 0 && decide (b < 128) || a == 255 && decide (b ≥ 128))) = false from hf]; decide)] at s1
      rw [hf]
      exact s0.trans s1
theorem integer_any (s : ByteArray) (w : World) (hs : s.size ≤ 1000000) :
 Calls Try.prog 73 #[.string s] w fun e w' => e = .returned (.bool (intOk (bytesOf s))) ∧ Upd None0 w w' :=
 (encode_integer.calls _ s _ w (int_eq s hs)).mono fun e w' ⟨h1, h2⟩ => ⟨h1, Upd.of_below h2⟩
theorem rwrong_any (s : ByteArray) (w : World) (hs : s.size ≠ 0) :
 Calls Try.prog 52 #[.int .i64 2, .int .i64 (s.size : Int), .string s] w fun e w' => e = .returned (.int .i64 (if intOk (bytesOf s) then -1 else 2)) ∧ Upd None0 w w' := by
 refine (gantletref10_Wrong.calls 1 2 (s.size : Int) s _ w (BNum.wrong_eq 0 2 (s.size : Int) s)).mono fun e w' ⟨h1, h2⟩ => ⟨h1.trans ?_, of_drawn h2⟩
 have hlen : (bytesOf s).length = s.size := bytesOf_length s
 cases hb : bytesOf s with
 | nil => rw [hb] at hlen; exact absurd hlen.symm hs
 | cons a r =>
   rw [hb] at hlen
   rw [← hlen, BNum.wr_two]
   congr 2
   cases r with
   | nil => rfl
   | cons b r =>
     have e : BNum.okP 2 1 a b = intOk (a :: b :: r) := by unfold BNum.okP; rw [if_neg zz13, if_pos ⟨.inl rfl, rfl⟩]; rfl
     rw [List.getD_cons_zero, e]
     cases intOk (a :: b :: r) <;> simp
open Classical in
noncomputable def datOk (s : ByteArray) : Bool := decide (full (bytesOf s) ∧ 1950 ≤ yr (bytesOf s))
def datU (s : ByteArray) : Bool := decide (yr (bytesOf s) < 2050)
def datt (s : ByteArray) : Int := if datU s then 23 else 24
def datc (s : ByteArray) : ByteArray := if datU s then strOfNums ((bytesOf s).drop 2 ++ [90]) else s ++ ⟨#[90]⟩
open Classical in
theorem datOk_iff (s : ByteArray) : datOk s = true ↔ full (bytesOf s) ∧ 1950 ≤ yr (bytesOf s) := by unfold datOk; exact decide_eq_true_iff
theorem okpF {D : List Int} (h : okp false D) : Digs D ∧ okc D := ⟨h.1, by have := h.2.1; simpa [F] using this⟩
theorem wput_eq (s : ByteArray) : when_Put.f 50 s = some (if datOk s then (datt s, datc s, true) else (0, (⟨#[]⟩ : ByteArray), false)) := by
 have hln : (bytesOf s).length = s.size := bytesOf_length s
 by_cases h : s.size = 14
 ·
  rw [put_1 50 zz7 s h]
  have hl : (bytesOf s).length = 14 := by omega
  by_cases hA : inA (bytesOf s)
  ·
   have hy := inA_year hA
   have ho := inA_okc hA
   have hd : datOk s = true := (datOk_iff s).2 ⟨(full_okc _ hl ho.1).2 ho.2, hy.1⟩
   have hu : datU s = true := by unfold datU; exact decide_eq_true zz7
   rw [if_pos hA, if_pos hd]
   unfold datt datc
   rw [if_pos hu, if_pos hu]
  ·
   rw [if_neg hA]
   by_cases hB : okp false (bytesOf s)
   ·
    have ho := okpF hB
    have hy := (inB_iff hl ho.1 ho.2).1 hB
    have hd : datOk s = true := (datOk_iff s).2 ⟨(full_okc _ hl ho.1).2 ho.2, zz7⟩
    have hu : ¬ datU s = true := by unfold datU; rw [decide_eq_true_iff]; omega
    rw [if_pos hB, if_pos hd]
    unfold datt datc
    rw [if_neg hu, if_neg hu]
   ·
    rw [if_neg hB]
    have hd : ¬ datOk s = true := fun hd => by
     obtain ⟨hf, hy⟩ := (datOk_iff s).1 hd
     have hg : Digs (bytesOf s) := hf.2.1
     have ho := (full_okc _ hl hg).1 hf
     by_cases h2 : yr (bytesOf s) < 2050
     ·
      exact hA (inA_of hl hg ho hy zz7)
     ·
      exact hB ((inB_iff hl hg ho).2 zz7)
    rw [if_neg hd]
 ·
  rw [put_0 50 s h]
  have hd : ¬ datOk s = true := fun hd => h (by have := ((datOk_iff s).1 hd).1.1; omega)
  rw [if_neg hd]
theorem wput_any (s : ByteArray) (w : World) :
 Calls Try.prog 48 #[.string s] w fun e w' => e = .returned (.tuple #[.int .i64 (if datOk s then datt s else 0), .string (if datOk s then datc s else ⟨#[]⟩), .bool (datOk s)]) ∧ Upd None0 w w' := by
 have h := wput_eq s
 cases hd : datOk s with
 | true => rw [if_pos hd] at h; exact (when_Put.calls 50 s _ _ _ w h).mono fun e w' ⟨h1, h2⟩ => ⟨h1, Upd.of_below h2⟩
 | false => rw [if_neg (by rw [hd]; decide)] at h; exact (when_Put.calls 50 s _ _ _ w h).mono fun e w' ⟨h1, h2⟩ => ⟨h1, Upd.of_below h2⟩
open Classical in
theorem rdate_any (s : ByteArray) (w : World) :
 Calls Try.prog 51 #[.string s] w fun e w' => e = .returned (.bool (decide (full (bytesOf s)))) ∧ Upd None0 w w' :=
 (gantletref13_Date.calls 30 s _ w (date_eq 30 (Nat.le_refl _) s)).mono fun e w' ⟨h1, h2⟩ => ⟨h1.trans (by congr 2), of_drawn h2⟩
theorem and_none (x : Int) (h0 : 0 ≤ x) (h1 : x < 256) : Go.bits .and .u8 x (((shl .u8 1 0) - 1) % 256) = 0 := by
 have e : ((shl .u8 1 0) - 1) % 256 = 2 ^ 0 - 1 := by decide
 rw [e, bits_mask .u8 8 zz13 wraps_u8 0 zz13 x h0 h1]
 omega
theorem bit_l0 (x : ByteArray) (h0 : bt x 0 = 0) (hs : x.size ≤ 1000000) : ∀ (d k i : Nat) (bg : Bool), i + d = x.size → d + 1 ≤ k → (i = 0 → bg = false) → (i ≠ 0 → bg = true) →
 bitstr_right.l0 k x true (i : Int) ((x.size : Int) - i) bg 0 = some true := by
 intro d
 induction d with
 | zero =>
   intro k i bg hi hk _ _
   obtain ⟨k, rfl⟩ : ∃ m, k = m + 1 := ⟨k - 1, zz7⟩
   rw [bitstr_right.l0, if_pos rfl, if_neg zz7]
 | succ d ih =>
   intro k i bg hi hk h1 h2
   obtain ⟨k, rfl⟩ : ∃ m, k = m + 1 := ⟨k - 1, zz7⟩
   have e1 : wrap64 ((i : Int) + 1) = ((i + 1 : Nat) : Int) := by unfold wrap64; omega
   have e2 : wrap64 ((x.size : Int) - i - 1) = (x.size : Int) - ((i + 1 : Nat) : Int) := by unfold wrap64; omega
   have hr := bt_range x (i : Int)
   have hp : bitstr_State_Push.f ((x.size : Int) - i) bg 0 (bt x (i : Int)) = some ((x.size : Int) - ((i + 1 : Nat) : Int), true, 0, true) := by
    unfold bitstr_State_Push.f
    rw [e2]
    by_cases hi0 : i = 0
    ·
     subst hi0
     rw [h1 rfl, if_neg zz13, show bt x ((0 : Nat) : Int) = 0 from h0, if_neg zz13, if_neg zz13]
    ·
     rw [h2 hi0, if_pos rfl]
     by_cases hl : (x.size : Int) - ((i + 1 : Nat) : Int) = 0
     ·
      rw [if_pos hl, if_pos zz13, if_pos (and_none _ hr.1 zz7)]
     ·
      rw [if_neg hl]
   rw [bitstr_right.l0, if_pos rfl, if_pos zz7, if_pos zz7, hp, Option.bind_some, e1]
   exact ih k (i + 1) true zz7 zz7 (fun h => by omega) (fun _ => rfl)
theorem bit_eq (s : ByteArray) (hs : s.size ≤ 100000) : bitstr_Put.f (s.size + 5) 0 s = some ((⟨#[0]⟩ : ByteArray) ++ s, true) := by
 have e : strOfNums [(0 : Int) % 256] = (⟨#[0]⟩ : ByteArray) := by decide
 unfold bitstr_Put.f
 rw [Option.bind_some, e]
 have hz : (⟨#[0]⟩ ++ s : ByteArray).size = 1 + s.size := ByteArray.size_append
 have hz1 : (⟨#[0]⟩ : ByteArray).size = 1 := rfl
 have hb : bt (⟨#[0]⟩ ++ s : ByteArray) 0 = 0 := by
  rw [bt_get, bytesOf_append, show bytesOf (⟨#[0]⟩ : ByteArray) = [0] by decide]; rfl
 have hr : bitstr_right.f (s.size + 5) (⟨#[0]⟩ ++ s : ByteArray) = some true := by
  unfold bitstr_right.f bitstr_Start.f
  rw [if_neg zz7, Option.bind_some]
  exact bit_l0 _ hb zz7 (1 + s.size) (s.size + 5) 0 false zz7 zz7 (fun _ => rfl) (fun h => absurd rfl h)
 rw [if_pos zz7, if_neg zz13, if_neg zz13, hr, Option.bind_some, if_pos rfl]
theorem bit_any (s : ByteArray) (w : World) (hs : s.size ≤ 100000) :
 Calls Try.prog 23 #[.int .i64 0, .string s] w fun e w' => e = .returned (.tuple #[.string ((⟨#[0]⟩ : ByteArray) ++ s), .bool true]) ∧ Upd None0 w w' :=
 (bitstr_Put.calls _ 0 s _ _ w (bit_eq s hs)).mono fun e w' ⟨h1, h2⟩ => ⟨h1, Upd.of_below h2⟩
end Go.Proofs.Ytgddaddoabjgiaa.Cn
namespace Go.Proofs.Ytgddaddoabjgiaa.At
open RowKit YtgddaddoabjgiaaW.PrintWords YtgddaddoabjgiaaW.PrintLast YtgddaddoabjgiaaW.PrintMore Own Sl Bs El Wr Oid Oidm Kn Cn
set_option linter.unusedVariables false
set_option linter.unusedSimpArgs false
def datb (s : ByteArray) : ByteArray := elb 0 (datt s) false (datc s)
noncomputable def datx (s : ByteArray) : ByteArray := if datOk s then datb s else elb 0 0 false ByteArray.empty
theorem datt_cases (s : ByteArray) : datt s = 23 ∨ datt s = 24 := by unfold datt; split <;> simp
theorem datc_size (s : ByteArray) (h : datOk s = true) : (datc s).size ≤ 15 := by
 have hf := ((datOk_iff s).1 h).1
 have hl : (bytesOf s).length = 14 := hf.1
 have hz : s.size = 14 := by rw [← bytesOf_length]; exact hl
 unfold datc
 split
 ·
  rw [Oid.nums_size _ (fun b hb => ?_)]
  ·
   rw [List.length_append, List.length_drop, hl]; decide
  ·
   rcases List.mem_append.1 hb with h1 | h1
   ·
    have := hf.2.1 b (List.mem_of_mem_drop h1); unfold Dt.Dig at this; omega
   ·
    simp at h1; omega
 ·
  rw [ByteArray.size_append, hz]; decide
theorem datb_size (s : ByteArray) (h : datOk s = true) : (datb s).size ≤ 29 := by
 have h1 := datc_size s h
 have := (elb_size (c := 0) (t := datt s) false (s := datc s) ⟨zz13, zz13, by rcases datt_cases s with h | h <;> omega, by rcases datt_cases s with h | h <;> omega⟩ zz7).2
 unfold datb
 omega
theorem datx_size (s : ByteArray) : (datx s).size ≤ 29 := by
 unfold datx
 split
 ·
  rename_i h; exact datb_size s h
 ·
  decide
set_option maxHeartbeats 4000000 in
set_option maxRecDepth 100000 in
theorem date_any (s : ByteArray) (w : World) :
 Calls Try.prog 31 #[.string s] w fun e w' => e = .returned (.tuple #[.string (datx s), .bool (datOk s)]) ∧ Upd None0 w w' := by
 have hL : ∀ W, Calls Try.prog 25 #[.int .i64 (if datOk s then datt s else 0), .string (if datOk s then datc s else ⟨#[]⟩)] W fun e w' => e = .returned (.string (datx s)) ∧ Upd None0 W w' := fun W => by
  have hz : (if datOk s then datc s else (⟨#[]⟩ : ByteArray)).size ≤ 100000000 := by
   split
   ·
    rename_i h; have := datc_size s h; omega
   ·
    decide
  have h := leaf_any (if datOk s then datt s else 0) (if datOk s then datc s else ⟨#[]⟩) W hz
  have e : leafb (if datOk s then datt s else 0) (if datOk s then datc s else ⟨#[]⟩) = datx s := by
   unfold datx datb
   split
   ·
    exact leafb_ok _ (by rcases datt_cases s with h | h <;> omega)
   ·
    exact leafb_ok _ zz13
  rw [e] at h
  exact h
 have HL := Aside0.mk hL
 have HP := Aside0.mk (wput_any s w)
 clear hL
 obtain ⟨t, ht⟩ : ∃ t, (if datOk s then datt s else 0) = t := ⟨_, rfl⟩
 obtain ⟨x, hx⟩ : ∃ x, (if datOk s then datc s else (⟨#[]⟩ : ByteArray)) = x := ⟨_, rfl⟩
 obtain ⟨y, hy⟩ : ∃ y, datx s = y := ⟨_, rfl⟩
 obtain ⟨ok, hok⟩ : ∃ y, datOk s = y := ⟨_, rfl⟩
 rw [ht, hx, hy] at HL
 rw [ht, hx, hok] at HP
 rw [hy, hok]
 clear ht hx hy hok
 go_enter Try.func31, Try.ntmps31
 go_wp2_with (first
  | (go_at_call 48
     (with_reducible refine HP.out.mono ?_)
     rintro e w3 ⟨rfl, hun⟩
     have HU := Aside0.mk hun
     clear hun)
  | (go_at_call 25
     (with_reducible refine (HL.out _).mono ?_)
     rintro e w4 ⟨rfl, hun⟩
     have HU2 := Aside0.mk hun
     clear hun))
 go_ret2
 exact ⟨rfl, HU.out.trans ((lu : Upd None0 w3 _).trans HU2.out (fun _ h => h.elim)) (fun _ h => h.elim)⟩
def extl (x : S51) : List ByteArray := idb x.f0 :: ((if x.f1 then [elb 0 1 false ⟨#[255]⟩] else []) ++ [elb 0 4 false x.f2])
def extb (x : S51) : ByteArray := elb 0 16 true (cat (extl x))
def extx (x : S51) : ByteArray := if oidOk x.f0 then extb x else ByteArray.empty
def ExtP (x : S51) : Prop := Arcs x.f0 ∧ x.f2.size ≤ 1000
theorem extl_size (x : S51) (h : ExtP x) : (cat (extl x)).size ≤ 30000 := by
 have h1 := idb_size x.f0 h.1
 have h2 := (elb_size (c := 0) (t := 4) false (s := x.f2) ⟨zz13, zz13, zz13, zz13⟩ (by have := h.2; omega)).2
 have h3 := (elb_size (c := 0) (t := 1) false (s := ⟨#[255]⟩) ⟨zz13, zz13, zz13, zz13⟩ zz13).2
 have h4 := h.2
 have h5 : (⟨#[255]⟩ : ByteArray).size = 1 := rfl
 rw [cat_count]
 unfold extl
 split
 ·
  simp only [List.map_cons, List.map_append, List.map_nil, List.sum_cons, List.sum_append, List.sum_nil, List.singleton_append]; omega
 ·
  simp only [List.map_cons, List.map_append, List.map_nil, List.sum_cons, List.sum_append, List.sum_nil, List.nil_append]; omega
theorem extb_size (x : S51) (h : ExtP x) : (extb x).size ≤ 30100 := by
 have h1 := extl_size x h
 have := (elb_size (c := 0) (t := 16) true (s := cat (extl x)) ⟨zz13, zz13, zz13, zz13⟩ zz7).2
 unfold extb
 omega
theorem extx_size (x : S51) (h : ExtP x) : (extx x).size ≤ 30100 := by
 unfold extx
 split
 ·
  exact extb_size x h
 ·
  simp
end Go.Proofs.Ytgddaddoabjgiaa.At
namespace Go.Proofs.Ytgddaddoabjgiaa.At
open RowKit YtgddaddoabjgiaaW.PrintWords YtgddaddoabjgiaaW.PrintLast YtgddaddoabjgiaaW.PrintMore Own Sl Bs El Wr Oid Oidm Kn Cn
set_option linter.unusedVariables false
set_option linter.unusedSimpArgs false
def extsOk (l : List S51) : Bool := !l.isEmpty && l.all (fun x => oidOk x.f0)
def extsb (l : List S51) : ByteArray := elb 0 16 true (cat (l.map extx))
theorem cat_all (f : S51 → ByteArray) (M : Nat) (l : List S51) (h : ∀ x, x ∈ l → (f x).size ≤ M) : (cat (l.map f)).size ≤ M * l.length := by
 induction l with
 | nil => simp [cat]
 | cons x l ih =>
   have h1 := ih (fun y hy => h y (List.mem_cons_of_mem _ hy))
   have h2 := h x (List.mem_cons_self ..)
   rw [List.map_cons, List.length_cons, Nat.mul_add, Nat.mul_one]
   unfold cat
   rw [ByteArray.size_append]
   omega
theorem take_map_snoc {α β : Type} (f : α → β) (l : List α) (i : Nat) (x : α) (h : l[i]? = some x) : (l.take i).map f ++ [f x] = (l.take (i + 1)).map f := by
 rw [List.take_add_one, h, Option.toList_some, List.map_append]; rfl
theorem any_snoc {α : Type} (f : α → Bool) (l : List α) (i : Nat) (x : α) (h : l[i]? = some x) : ((l.take i).any (fun y => !f y) || !f x) = (l.take (i + 1)).any (fun y => !f y) := by
 rw [List.take_add_one, h, Option.toList_some, List.any_append]; simp
theorem all_any_ {α : Type} (f : α → Bool) (l : List α) : l.any (fun y => !f y) = !l.all f := by
 induction l with
 | nil => rfl
 | cons x l ih => rw [List.any_cons, List.all_cons, ih, Bool.not_and]
theorem up_cell {w W : World} {a : Addr} {v : Value} (hu : Upd None0 w W) (h : w.cell? a = some v) : W.cell? a = some v := (hu.below0.cell (block_lt_of_cell h)).trans h
theorem wr_out {w0 w : World} {S : Nat → Prop} {l : List Ast} {g : Nat} {parts : List ByteArray} {wrong : Bool} (h : Sp w0 S (wr g parts wrong :: l) w) : ∃ A c, Sp w0 S (wrL g parts wrong A c ++ l) w := by
 obtain ⟨⟨A, c⟩, h⟩ := h.ex0
 exact ⟨A, c, h.flat⟩
theorem wr_in {w0 w : World} {S : Nat → Prop} {l : List Ast} {g : Nat} {parts : List ByteArray} {wrong : Bool} {A : Option Addr} {c : Nat} (h : Sp w0 S (wrL g parts wrong A c ++ l) w) : Sp w0 S (wr g parts wrong :: l) w := Sp.exI (A, c) (Sp.fold _ h)
theorem rd_some {α : Type} (l : List α) (i : Nat) (z : α) (h : i < l.length) : l[i]? = some (l.getD (i : Int).toNat z) := by
 rw [Int.toNat_natCast, List.getElem?_eq_getElem h, List.getD_eq_getElem?_getD, List.getElem?_eq_getElem h]; rfl
theorem end_ext (x : S51) (ps : List ByteArray) (hps : extl x = ps) (b : Bool) (hb : b = !oidOk x.f0) (g : Nat) (hP : ExtP x) (W : World) (S : Nat → Prop) (h : Hs W S [wr g ps b]) :
 Calls Try.prog 33 #[.pointer (some ⟨g, 0, none⟩), .int .i64 16] W fun e w' => e = .returned (.tuple #[.string (extx x), .bool (oidOk x.f0)]) ∧ Sp W S [wr g ps b] w' := by
 subst hps hb
 refine (end_any (t := 16) g (extl x) (!oidOk x.f0) W S h zz13 (by have := extl_size x hP; omega) (by unfold extl; split <;> simp)).mono fun e w' ⟨h1, h2⟩ => ⟨h1.trans ?_, h2⟩
 unfold extx extb
 cases oidOk x.f0 <;> rfl
set_option maxHeartbeats 4000000 in
set_option maxRecDepth 100000 in
theorem exts_any (A : Option Addr) (c : Nat) (l : List S51) (w : World) (hC : k51.C w A l.length l) (hcap : l.length ≤ c) (hA : ∀ x, x ∈ l → ExtP x) (hn : l.length ≤ 100) :
 Calls Try.prog 16 #[.slice A l.length c] w fun e w' => e = .returned (.tuple #[.string (if extsOk l then extsb l else ByteArray.empty), .bool (extsOk l)]) ∧ Upd None0 w w' := by
 have hu := Try.underlying51
 have hu2 := Try.underlying62
 have hS := Sp.nil (w := w) (S := None0)
 have HC0 := Aside0.mk hC
 have HPX := Aside0.mk hA
 have HZ := Aside0.mk (show (cat (l.map extx)).size ≤ 100000000 by
  have := cat_all extx 30100 l (fun x hx => extx_size x (hA x hx))
  have h2 : 30100 * l.length ≤ 30100 * 100 := Nat.mul_le_mul_left _ hn
  omega)
 have hee : extsOk l = !(l.any (fun x => !oidOk x.f0) || decide (l.length = 0)) := by
  unfold extsOk
  rw [all_any_]
  cases l with
  | nil => rfl
  | cons x r => simp
 have HEE := Aside0.mk hee
 obtain ⟨n, hln⟩ : ∃ n, l.length = n := ⟨_, rfl⟩
 have HLN := Aside0.mk hln
 rw [hln] at hn HC0 HEE ⊢
 have HN := Aside0.mk hn
 obtain ⟨Y, hY⟩ : ∃ y, (if extsOk l then extsb l else ByteArray.empty) = y := ⟨_, rfl⟩
 obtain ⟨OK, hOK⟩ : ∃ y, extsOk l = y := ⟨_, rfl⟩
 rw [hY, hOK]
 have HY := Aside0.mk hY
 have HOK := Aside0.mk hOK
 clear hC hcap hA hln hee hn hY hOK
 go_enter Try.func16, Try.ntmps16
 go_wp2_with (first
  | ((with_reducible refine gate_dst (N := 4) rfl ?_)
     refine sp_box hS rfl (N := 4) rfl #[.slice none 0 0, .bool false] 62 zz20 ?_
     intro gw w2 hg2 hS
     replace hS := wr_new hS))
 go_loopg [10] n (fun gk v10 wr => ∃ (i : Nat), v10 = .int .i64 (i : Int) ∧ Aside0 (i ≤ n ∧ n - i ≤ gk) ∧ Aside0 (Sp w None0 [Wr.wr gw ((l.take i).map extx) ((l.take i).any (fun x => !oidOk x.f0))] wr))
 case atStart => exact ⟨0, rfl, ⟨Nat.zero_le _, zz7⟩, ⟨hS⟩⟩
 case round =>
  clear hS
  obtain ⟨i, rfl, HI, HS⟩ := hrel
  have hS := HS.out
  clear HS
  by_cases hlt : i < n
  ·
   have hd : decide ((i : Int) < (n : Int)) = true := decide_eq_true zz7
   have hil : i < l.length := by rw [HLN.out]; exact hlt
   have hxi := rd_some l i z51 hil
   obtain ⟨ad, A0, c0, rfl, h0, h1, h2, hl0, hi0⟩ := at_T51 HC0.out (i : Int) zz7 zz7
   replace h0 := up_cell hS.u h0
   replace h1 := up_cell hS.u h1
   replace h2 := up_cell hS.u h2
   rw [Int.toNat_natCast] at h0 h1 h2
   obtain ⟨x, hx⟩ : ∃ x, rd_T51 l (i : Int) = x := ⟨_, rfl⟩
   have hxx : l[i]? = some x := hx ▸ hxi
   rw [hx] at h0 h1 h2 hl0 hi0
   have hxP := HPX.out x (List.mem_of_getElem? hxx)
   have HID := Aside0.mk (fun (W : World) (h : Upd None0 w W) => id_any A0 c0 x.f0 W (Kd.C_below hi0 h.below0) hl0 hxP.1)
   have HL1 := Aside0.mk (fun W => leaf_any 1 ⟨#[255]⟩ W zz13)
   have HL4 := Aside0.mk (fun W => leaf_any 4 x.f2 W (by have := hxP.2; omega))
   rw [leafb_ok _ zz13] at HL1 HL4
   have HEN := Aside0.mk (fun ps (hps : extl x = ps) b (hb : b = !oidOk x.f0) g => end_ext x ps hps b hb g hxP)
   have HT1 := Aside0.mk (take_map_snoc extx l i x hxx)
   have HT2 := Aside0.mk (any_snoc (fun x : S51 => oidOk x.f0) l i x hxx)
   have HLN2 := Aside0.mk (show ((l.take i).map extx).length ≤ 100000 by have := HN.out; have := List.length_take_le i l; rw [List.length_map]; omega)
   have hw1 : IntKind.i64.wrap ((i : Int) + 1) = ((i + 1 : Nat) : Int) := by have := HN.out; rw [IntKind.wrap_i64]; omega
   obtain ⟨m, hm⟩ : ∃ m, x.f0.length = m := ⟨_, rfl⟩
   rw [hm] at h0 HID
   have hex : extl x = idb x.f0 :: ((if x.f1 then [elb 0 1 false ⟨#[255]⟩] else []) ++ [elb 0 4 false x.f2]) := rfl
   have HEX := Aside0.mk hex
   obtain ⟨ok, hok⟩ : ∃ b, oidOk x.f0 = b := ⟨_, rfl⟩
   have HT2b : ((l.take i).any (fun x => !oidOk x.f0) || !ok) = (l.take (i + 1)).any (fun x => !oidOk x.f0) := by rw [← hok]; exact HT2.out
   clear HT2
   have HT3 := Aside0.mk HT2b
   rw [hok] at HID HEN
   obtain ⟨x1, hx1⟩ : ∃ y, idb x.f0 = y := ⟨_, rfl⟩
   rw [hx1] at HID HEX
   obtain ⟨x2, hx2⟩ : ∃ y, extx x = y := ⟨_, rfl⟩
   rw [hx2] at HEN HT1
   obtain ⟨x4, hx4⟩ : ∃ y, elb 0 4 false x.f2 = y := ⟨_, rfl⟩
   rw [hx4] at HL4 HEX
   obtain ⟨x3, hx3⟩ : ∃ y, elb 0 1 false (⟨#[255]⟩ : ByteArray) = y := ⟨_, rfl⟩
   rw [hx3] at HL1 HEX
   obtain ⟨P, hP⟩ : ∃ P, (l.take i).map extx = P := ⟨_, rfl⟩
   obtain ⟨B, hB⟩ : ∃ B, (l.take i).any (fun x => !oidOk x.f0) = B := ⟨_, rfl⟩
   rw [hP] at HT1 HLN2 hS
   rw [hB] at HT3 hS
   clear HT2b hil hxi hx hxx hxP hi0 hl0 hm hex hok hx1 hx2 hx3 hx4 hP hB
   have hlti : (i : Int) < (n : Int) := by omega
   have hi00 : (0 : Int) ≤ (i : Int) := by omega
   obtain ⟨xo, xc, xv⟩ := x
   dsimp only at h0 h1 h2 HID HL4 HEN HEX
   go_upto_if 21 with (first
    | ((with_reducible refine gate_dst (N := 6) rfl ?_)
       refine sp_box hS rfl (N := 6) rfl #[.slice none 0 0, .bool false, .string ⟨#[]⟩] 51 zz20 ?_
       intro gx w3 hg3 hS)
    | ((with_reducible refine gate_store (t := 51) (p := 6) (v := .tmp 13) rfl ?_)
       refine sp_row hS 0 rfl 51 (.tmp 6) (.tmp 13) rfl rfl gx #[.slice A0 m c0, .bool xc, .string xv] rfl rfl 51 _ rfl zz4 rfl zz82 rfl ?_
       intro w4 hS)
    | ((with_reducible refine gate_dst (N := 7) rfl ?_)
       refine sp_box hS rfl (N := 7) rfl #[.slice none 0 0, .bool false] 62 zz20 ?_
       intro ge w5 hg5 hS
       replace hS := wr_new hS
       obtain ⟨k0, k1, k2⟩ := hS.cells3 1)
    | (go_at_call 42
       (with_reducible refine (HID.out _ hS.lt.u).mono ?_)
       rintro e w6 ⟨rfl, hun⟩
       replace hS := hS.toN hun
       clear k0 k1 k2 hun
       obtain ⟨k0, k1, k2⟩ := hS.cells3 1)
    | (go_at_call 29
       (with_reducible refine (add_any ge _ _ x1 ok _ (hS.ft 1) zz55 zz43).mono ?_)
       rintro e w7 ⟨rfl, hq⟩
       replace hS := hS.post1 hq
       rw [List.nil_append] at hS
       clear k0 k1 k2 hq
       obtain ⟨k0, k1, k2⟩ := hS.cells3 1))
   cases xc
   ·
    have HE2 := Aside0.mk (HEN.out [x1, x4] HEX.out ((false || !ok) || !true) (by cases ok <;> rfl))
    go_wp2_with (first
     | (go_at_call 25
        (with_reducible refine (HL4.out _).mono ?_)
        rintro e w8 ⟨rfl, hun⟩
        replace hS := hS.toN hun
        clear k0 k1 k2 hun
        obtain ⟨k0, k1, k2⟩ := hS.cells3 1)
     | (go_at_call 29
        first
        | ((with_reducible refine (add_any gw P B x2 ok _ (hS.ft 1) zz55 HLN2.out).mono ?_)
           rintro e w12 ⟨rfl, hq⟩
           replace hS := hS.post1 hq
           rw [HT1.out, HT3.out] at hS
           clear k0 k1 k2 hq)
        | ((with_reducible refine (add_any ge _ _ _ true _ (hS.ft 1) zz55 zz43).mono ?_)
           rintro e w9 ⟨rfl, hq⟩
           replace hS := hS.post1 hq
           simp only [List.cons_append, List.nil_append] at hS
           clear k0 k1 k2 hq
           obtain ⟨k0, k1, k2⟩ := hS.cells3 1))
     | (go_at_call 33
        (with_reducible refine (HE2.out ge _ (hS.ft 1) zz55).mono ?_)
        rintro e w11 ⟨rfl, hq⟩
        replace hS := hS.post1 hq
        replace hS := Sp.sel (l2 := [Wr.wr gw P B, blk gx #[.slice A0 m c0, .bool false, .string xv] 51]) hS [2, 1]
        clear k0 k1 k2 hq
        obtain ⟨k0, k1, k2⟩ := hS.cells3 1))
    go_roundg (gk - 1)
    case measure => have := HI.out.2; omega
    case rel => exact ⟨i + 1, rfl, ⟨zz7, by have := HI.out.2; omega⟩, ⟨Sp.sel (l2 := [Wr.wr gw ((l.take (i + 1)).map extx) ((l.take (i + 1)).any (fun x => !oidOk x.f0))]) hS.lt [0]⟩⟩
   ·
    have HE2 := Aside0.mk (HEN.out [x1, x3, x4] HEX.out (((false || !ok) || !true) || !true) (by cases ok <;> rfl))
    go_wp2_with (first
     | (go_at_call 25
        first
        | ((with_reducible refine (HL1.out _).mono ?_)
           rintro e w8 ⟨rfl, hun⟩
           replace hS := hS.toN hun
           clear k0 k1 k2 hun
           obtain ⟨k0, k1, k2⟩ := hS.cells3 1)
        | ((with_reducible refine (HL4.out _).mono ?_)
           rintro e w8 ⟨rfl, hun⟩
           replace hS := hS.toN hun
           clear k0 k1 k2 hun
           obtain ⟨k0, k1, k2⟩ := hS.cells3 1))
     | (go_at_call 29
        first
        | ((with_reducible refine (add_any gw P B x2 ok _ (hS.ft 1) zz55 HLN2.out).mono ?_)
           rintro e w12 ⟨rfl, hq⟩
           replace hS := hS.post1 hq
           rw [HT1.out, HT3.out] at hS
           clear k0 k1 k2 hq)
        | ((with_reducible refine (add_any ge _ _ _ true _ (hS.ft 1) zz55 zz43).mono ?_)
           rintro e w9 ⟨rfl, hq⟩
           replace hS := hS.post1 hq
           simp only [List.cons_append, List.nil_append] at hS
           clear k0 k1 k2 hq
           obtain ⟨k0, k1, k2⟩ := hS.cells3 1))
     | (go_at_call 33
        (with_reducible refine (HE2.out ge _ (hS.ft 1) zz55).mono ?_)
        rintro e w11 ⟨rfl, hq⟩
        replace hS := hS.post1 hq
        replace hS := Sp.sel (l2 := [Wr.wr gw P B, blk gx #[.slice A0 m c0, .bool true, .string xv] 51]) hS [2, 1]
        clear k0 k1 k2 hq
        obtain ⟨k0, k1, k2⟩ := hS.cells3 1))
    go_roundg (gk - 1)
    case measure => have := HI.out.2; omega
    case rel => exact ⟨i + 1, rfl, ⟨zz7, by have := HI.out.2; omega⟩, ⟨Sp.sel (l2 := [Wr.wr gw ((l.take (i + 1)).map extx) ((l.take (i + 1)).any (fun x => !oidOk x.f0))]) hS.lt [0]⟩⟩
  ·
   have hd : decide ((i : Int) < (n : Int)) = false := decide_eq_false zz7
   have hil : l.take i = l := List.take_of_length_le zz80
   rw [hil] at hS
   obtain ⟨P, hP⟩ : ∃ P, l.map extx = P := ⟨_, rfl⟩
   obtain ⟨B, hB⟩ : ∃ B, l.any (fun x => !oidOk x.f0) = B := ⟨_, rfl⟩
   have hPL : P.length ≤ 100000 := by have := HN.out; rw [← hP, List.length_map, HLN.out]; omega
   rw [hP] at HZ hS
   rw [hB] at HEE hS
   have hxb : extsb l = elb 0 16 true (cat P) := by unfold extsb; rw [hP]
   have HXB := Aside0.mk hxb
   have HPL := Aside0.mk hPL
   clear hil hP hB hPL hxb
   have hn0 : (0 : Int) ≤ (n : Int) := by omega
   obtain ⟨z, hz⟩ : ∃ b, decide (n = 0) = b := ⟨_, rfl⟩
   have hnn : ((n : Int) == 0) = z := by rw [← hz]; cases n <;> rfl
   have hn3 : decide ((n : Int) = 0) = z := by rw [← hz]; exact decide_eq_decide.2 zz7
   rw [hz] at HEE
   clear hz
   obtain ⟨A2, c2, hS⟩ := wr_out hS
   obtain ⟨k0, k1⟩ := hS.cells2 0
   cases B <;> cases z
   all_goals
    go_wp2_with (first
     | ((with_reducible refine gate_store (t := 4) (p := 40) (v := .tmp 39) rfl ?_)
        refine sp_cell hS 0 rfl 4 (.tmp 40) (.tmp 39) rfl rfl gw 1 (.bool _) rfl rfl 62 _ _ rfl zz4 zz43 rfl rfl rfl ?_
        clear k0 k1
        intro w3 hS
        replace hS := wr_in (A := A2) (c := c2) hS)
     | (go_at_call 33
        (with_reducible refine (end_any (t := 16) gw P _ _ (hS.ft 1) zz55 zz13 HZ.out HPL.out).mono ?_)
        rintro e w8 ⟨rfl, hq⟩
        replace hS := hS.post1 hq))
    go_ret2
    refine ⟨?_, hS.lt.u⟩
    have h1 := HOK.out
    have h2 := HY.out
    rw [HEE.out] at h1 h2
    rw [HXB.out] at h2
    rw [← h1, ← h2]
    rfl
end Go.Proofs.Ytgddaddoabjgiaa.At
namespace Go.Proofs.Ytgddaddoabjgiaa.Sl
open RowKit YtgddaddoabjgiaaW.PrintWords YtgddaddoabjgiaaW.PrintLast YtgddaddoabjgiaaW.PrintMore Own
section
variable {P : Program} {ops : Array Oper} {Q : Exit → Act → World → Prop} {md : Region.Mode} {S : World → Prop}
theorem at_drop {i : Nat} {oi : Oper} {rest : List Oper} (h : ops.toList.drop i = oi :: rest) : ops[i]? = some oi := by
 have : (ops.toList.drop i)[0]? = some oi := by rw [h]; rfl
 rw [List.getElem?_drop] at this
 simpa using this
theorem tk (i : Nat) {oi : Oper} {rest : List Oper} {v : Value} {fuel : Nat} {listed : Array Bool} {a : Act} {w : World} (hi : ops.toList.drop i = oi :: rest)
 (hs : Region.noSelect ops = true) (hf : Region.free md ops listed i = true) (hr : (Region.ready md ops listed).contains i = true)
 (hQ : ∀ c a w, Q (.panic c) (a.put oi.dst v) w → Q (.panic c) a w) (hS : S w) (hy : YieldsIf P ops S oi v a)
 (h : wpAnyH P md ops Q S fuel (listed.setIfInBounds i true) (a.put oi.dst v) w) : wpAnyH P md ops Q S (fuel + 1) listed a w :=
 wpAnyH_take (at_drop hi) hs hf hr hQ hy hS h
theorem alone (i : Nat) {o : Oper} {rest : List Oper} {fuel : Nat} {listed : Array Bool} {a : Act} {w : World} (hi : ops.toList.drop i = o :: rest) (hr : Region.ready md ops listed = [i]) (hg : Region.wanted o (yielded ops a.tmps) = true)
 (h : ∀ K' : Act → World → Prop, Shut (∀ a w, S w → (S w → wpAnyH P md ops Q S fuel (listed.setIfInBounds i true) a w) → K' a w) → Oper.wp P o a w K' Q) : wpAnyH P md ops Q S (fuel + 1) listed a w :=
 wpAnyH_ready hr zz43 (AllReadyH.cons (at_drop hi) (fun K hK => by rw [if_pos hg]; exact h K hK) AllReadyH.nil)
theorem aloneL (i : Nat) {o : Oper} {rest : List Oper} {fuel : Nat} {listed : Array Bool} {a : Act} {w : World} (hi : ops.toList.drop i = o :: rest) (hr : Region.ready md ops listed = [i])
 (h : ∀ K' : Act → World → Prop, Shut (∀ a w, S w → (S w → wpAnyH P md ops Q S fuel (listed.setIfInBounds i true) a w) → K' a w) → wpList P ops (QK K') [o] a w) : wpAnyH P md ops Q S (fuel + 1) listed a w :=
 wpAnyH_ready hr zz43 (AllReadyH.cons (at_drop hi) (fun K hK => step_list (h K hK)) AllReadyH.nil)
end
end Go.Proofs.Ytgddaddoabjgiaa.Sl
namespace Go.Proofs.Ytgddaddoabjgiaa.At
open RowKit YtgddaddoabjgiaaW.PrintWords YtgddaddoabjgiaaW.PrintLast YtgddaddoabjgiaaW.PrintMore Own Sl Bs El Wr Oid Oidm Kn Cn
set_option linter.unusedVariables false
set_option linter.unusedSimpArgs false
theorem cat2 (a b : ByteArray) : cat [a, b] = a ++ b := by unfold cat cat cat; simp
theorem pick_tag (t : Int) : ((t == 12) = true) ∨ ((t == 12) = false ∧ (t == 19) = true) ∨ ((t == 12) = false ∧ (t == 19) = false ∧ (t == 22) = true) ∨ ((t == 12) = false ∧ (t == 19) = false ∧ (t == 22) = false) := by
 cases h1 : (t == 12) <;> cases h2 : (t == 19) <;> cases h3 : (t == 22) <;> simp
set_option maxHeartbeats 8000000 in
set_option maxRecDepth 100000 in
theorem attr_walk (A : Option Addr) (n c : Nat) (t : Int) (s x1 x2 Y : ByteArray) (ok ck OK D : Bool) (w : World)
 (HI : Aside0 (∀ W : World, Upd None0 w W → Calls Try.prog 42 #[.slice A n c] W fun e w' => e = .returned (.tuple #[.string x1, .bool ok]) ∧ Upd None0 W w'))
 (HL : Aside0 (∀ W : World, Calls Try.prog 25 #[.int .i64 t, .string s] W fun e w' => e = .returned (.string x2) ∧ Upd None0 W w'))
 (HK : Aside0 (∀ W : World, Calls Try.prog 53 #[.int .i64 t, .string s] W fun e w' => e = .returned (.bool ck) ∧ Upd None0 W w'))
 (HE2 : Aside0 (∀ (g : Nat) (W : World) (S : Nat → Prop), Hs W S [Wr.wr g [x1, x2] ((false || !ok) || !D)] → Calls Try.prog 33 #[.pointer (some ⟨g, 0, none⟩), .int .i64 16] W fun e w' => e = .returned (.tuple #[.string Y, .bool OK]) ∧ Sp W S [Wr.wr g [x1, x2] ((false || !ok) || !D)] w'))
 (hD : D = (((t == 12) || (t == 19) || (t == 22)) && ck)) :
 Calls Try.prog 38 #[.agg #[.slice A n c, .int .i64 t, .string s]] w fun e w' => e = .returned (.tuple #[.string Y, .bool OK]) ∧ Upd None0 w w' := by
 have hu := Try.underlying47
 have hu2 := Try.underlying62
 have hS := Sp.nil (w := w) (S := None0)
 rcases pick_tag t with y1 | ⟨y1, y2⟩ | ⟨y1, y2, y3⟩ | ⟨y1, y2, y3⟩
 ·
  rw [y1] at hD
  simp only [Bool.true_or, Bool.or_true, Bool.false_or, Bool.or_false, Bool.true_and, Bool.false_and] at hD
  subst hD
  go_enter Try.func38, Try.ntmps38
  go_wp2_with (first
   | ((with_reducible refine gate_dst (N := 1) rfl ?_)
      refine sp_box hS rfl (N := 1) rfl #[.slice A n c, .int .i64 t, .string s] 47 zz20 ?_
      intro ga w1 hg1 hS)
   | ((with_reducible refine gate_dst (N := 4) rfl ?_)
      refine sp_box hS rfl (N := 4) rfl #[.slice none 0 0, .bool false] 62 zz20 ?_
      intro gw w2 hg2 hS
      replace hS := wr_new hS
      obtain ⟨k0, k1, k2⟩ := hS.cells3 1)
   | (go_at_call 42
      (with_reducible refine (HI.out _ hS.lt.u).mono ?_)
      rintro e w3 ⟨rfl, hun⟩
      replace hS := hS.toN hun
      clear k0 k1 k2 hun
      obtain ⟨k0, k1, k2⟩ := hS.cells3 1)
   | (go_at_call 29
      (with_reducible refine (add_any gw [] false x1 ok _ (hS.ft 1) zz55 zz13).mono ?_)
      rintro e w4 ⟨rfl, hq⟩
      replace hS := hS.post1 hq
      rw [List.nil_append] at hS
      clear k0 k1 k2 hq
      obtain ⟨k0, k1, k2⟩ := hS.cells3 1))
  ·
   refine wp_region_held_drew (S := fun W => W.cell? ⟨ga, 1, none⟩ = some (.int .i64 t) ∧ W.cell? ⟨ga, 2, none⟩ = some (.string s)) zz4 ⟨hS.cellW 1 1 _ rfl rfl, hS.cellW 1 2 _ rfl rfl⟩ (fun hHeld => ?_)
   refine tk 0 (v := ?_) rfl zz4 zz4 zz4 (fun _ _ _ h => h) zz37 (Or.inl ⟨zz54, ?_⟩) ?_
   rotate_left 1
   ·
    (intro w hSw; (try dsimp only at hSw); go_simp; try with_reducible rfl)
   simp only [Act.put, List.setIfInBounds_toArray, List.set_cons_zero, List.set_cons_succ]
   refine tk 1 (v := ?_) rfl zz4 zz4 zz4 (fun _ _ _ h => h) zz37 (Or.inl ⟨zz54, ?_⟩) ?_
   rotate_left 1
   ·
    (intro w hSw; (try dsimp only at hSw); go_simp; try with_reducible rfl)
   simp only [Act.put, List.setIfInBounds_toArray, List.set_cons_zero, List.set_cons_succ]
   refine tk 2 (v := ?_) rfl zz4 zz4 zz4 (fun _ _ _ h => h) zz37 (Or.inl ⟨zz54, ?_⟩) ?_
   rotate_left 1
   ·
    (intro w hSw; (try dsimp only at hSw); go_simp; try with_reducible rfl)
   simp only [Act.put, List.setIfInBounds_toArray, List.set_cons_zero, List.set_cons_succ]
   refine tk 3 (v := ?_) rfl zz4 zz4 zz4 (fun _ _ _ h => h) zz37 (Or.inl ⟨zz54, ?_⟩) ?_
   rotate_left 1
   ·
    (intro w hSw; (try dsimp only at hSw); go_simp; try with_reducible rfl)
   simp only [Act.put, List.setIfInBounds_toArray, List.set_cons_zero, List.set_cons_succ]
   refine tk 5 (v := ?_) rfl zz4 zz4 zz4 (fun _ _ _ h => h) zz37 (Or.inl ⟨zz54, ?_⟩) ?_
   rotate_left 1
   ·
    (intro w hSw; (try dsimp only at hSw); go_simp; try with_reducible rfl)
   simp only [Act.put, List.setIfInBounds_toArray, List.set_cons_zero, List.set_cons_succ]
   refine tk 6 (v := ?_) rfl zz4 zz4 zz4 (fun _ _ _ h => h) zz37 (Or.inl ⟨zz54, ?_⟩) ?_
   rotate_left 1
   ·
    (intro w hSw; (try dsimp only at hSw); go_simp; try with_reducible rfl)
   simp only [Act.put, List.setIfInBounds_toArray, List.set_cons_zero, List.set_cons_succ]
   refine tk 7 (v := ?_) rfl zz4 zz4 zz4 (fun _ _ _ h => h) zz37 (Or.inl ⟨zz54, ?_⟩) ?_
   rotate_left 1
   ·
    (intro w hSw; (try dsimp only at hSw); go_simp; try with_reducible rfl)
   simp only [Act.put, List.setIfInBounds_toArray, List.set_cons_zero, List.set_cons_succ]
   refine alone 4 rfl zz4 zz54 (fun K hK => ?_)
   go_simp
   go_at_call 25
   (with_reducible refine (HL.out _).mono ?_)
   rintro e w5 ⟨rfl, hun⟩
   replace hS := hS.toN hun
   clear k0 k1 k2 hun hHeld
   refine hK.out _ _ ?_ (fun hHeld => ?_)
   ·
    exact ⟨hS.cellW 1 1 _ rfl rfl, hS.cellW 1 2 _ rfl rfl⟩
   clear hK K
   try simp only [Act.put, List.setIfInBounds_toArray, List.set_cons_zero, List.set_cons_succ]
   refine tk 8 (v := ?_) rfl zz4 zz4 zz4 (fun _ _ _ h => h) zz37 (Or.inl ⟨zz54, ?_⟩) ?_
   rotate_left 1
   ·
    (intro w hSw; (try dsimp only at hSw); go_simp; try with_reducible rfl)
   simp only [Act.put, List.setIfInBounds_toArray, List.set_cons_zero, List.set_cons_succ]
   refine tk 9 (v := undef) rfl zz4 zz4 zz4 (fun _ _ _ h => h) zz37 (Or.inr ⟨zz54, rfl⟩) ?_
   simp only [Act.put, List.setIfInBounds_toArray, List.set_cons_zero, List.set_cons_succ]
   refine tk 10 (v := undef) rfl zz4 zz4 zz4 (fun _ _ _ h => h) zz37 (Or.inr ⟨zz54, rfl⟩) ?_
   simp only [Act.put, List.setIfInBounds_toArray, List.set_cons_zero, List.set_cons_succ]
   refine tk 11 (v := undef) rfl zz4 zz4 zz4 (fun _ _ _ h => h) zz37 (Or.inr ⟨zz54, rfl⟩) ?_
   simp only [Act.put, List.setIfInBounds_toArray, List.set_cons_zero, List.set_cons_succ]
   refine tk 12 (v := ?_) rfl zz4 zz4 zz4 (fun _ _ _ h => h) zz37 (Or.inl ⟨zz54, ?_⟩) ?_
   rotate_left 1
   ·
    (intro w hSw; (try dsimp only at hSw); go_simp; try with_reducible rfl)
   simp only [Act.put, List.setIfInBounds_toArray, List.set_cons_zero, List.set_cons_succ]
   refine tk 13 (v := ?_) rfl zz4 zz4 zz4 (fun _ _ _ h => h) zz37 (Or.inl ⟨zz54, ?_⟩) ?_
   rotate_left 1
   ·
    (intro w hSw; (try dsimp only at hSw); go_simp; try with_reducible rfl)
   simp only [Act.put, List.setIfInBounds_toArray, List.set_cons_zero, List.set_cons_succ]
   refine tk 14 (v := undef) rfl zz4 zz4 zz4 (fun _ _ _ h => h) zz37 (Or.inr ⟨zz54, rfl⟩) ?_
   simp only [Act.put, List.setIfInBounds_toArray, List.set_cons_zero, List.set_cons_succ]
   refine tk 15 (v := undef) rfl zz4 zz4 zz4 (fun _ _ _ h => h) zz37 (Or.inr ⟨zz54, rfl⟩) ?_
   simp only [Act.put, List.setIfInBounds_toArray, List.set_cons_zero, List.set_cons_succ]
   refine tk 16 (v := undef) rfl zz4 zz4 zz4 (fun _ _ _ h => h) zz37 (Or.inr ⟨zz54, rfl⟩) ?_
   simp only [Act.put, List.setIfInBounds_toArray, List.set_cons_zero, List.set_cons_succ]
   refine tk 17 (v := ?_) rfl zz4 zz4 zz4 (fun _ _ _ h => h) zz37 (Or.inl ⟨zz54, ?_⟩) ?_
   rotate_left 1
   ·
    (intro w hSw; (try dsimp only at hSw); go_simp; try with_reducible rfl)
   simp only [Act.put, List.setIfInBounds_toArray, List.set_cons_zero, List.set_cons_succ]
   refine tk 18 (v := ?_) rfl zz4 zz4 zz4 (fun _ _ _ h => h) zz37 (Or.inl ⟨zz54, ?_⟩) ?_
   rotate_left 1
   ·
    (intro w hSw; (try dsimp only at hSw); go_simp; try with_reducible rfl)
   simp only [Act.put, List.setIfInBounds_toArray, List.set_cons_zero, List.set_cons_succ]
   refine tk 19 (v := ?_) rfl zz4 zz4 zz4 (fun _ _ _ h => h) zz37 (Or.inl ⟨zz54, ?_⟩) ?_
   rotate_left 1
   ·
    (intro w hSw; (try dsimp only at hSw); go_simp; try with_reducible rfl)
   simp only [Act.put, List.setIfInBounds_toArray, List.set_cons_zero, List.set_cons_succ]
   refine tk 20 (v := ?_) rfl zz4 zz4 zz4 (fun _ _ _ h => h) zz37 (Or.inl ⟨zz54, ?_⟩) ?_
   rotate_left 1
   ·
    (intro w hSw; (try dsimp only at hSw); go_simp; try with_reducible rfl)
   simp only [Act.put, List.setIfInBounds_toArray, List.set_cons_zero, List.set_cons_succ]
   refine tk 21 (v := ?_) rfl zz4 zz4 zz4 (fun _ _ _ h => h) zz37 (Or.inl ⟨zz54, ?_⟩) ?_
   rotate_left 1
   ·
    (intro w hSw; (try dsimp only at hSw); go_simp; try with_reducible rfl)
   simp only [Act.put, List.setIfInBounds_toArray, List.set_cons_zero, List.set_cons_succ]
   refine tk 22 (v := ?_) rfl zz4 zz4 zz4 (fun _ _ _ h => h) zz37 (Or.inl ⟨zz54, ?_⟩) ?_
   rotate_left 1
   ·
    (intro w hSw; (try dsimp only at hSw); go_simp; try with_reducible rfl)
   simp only [Act.put, List.setIfInBounds_toArray, List.set_cons_zero, List.set_cons_succ]
   refine alone 23 rfl zz4 zz54 (fun K hK => ?_)
   go_simp
   go_at_call 53
   (with_reducible refine (HK.out _).mono ?_)
   rintro e w6 ⟨rfl, hun⟩
   replace hS := hS.toN hun
   clear hun hHeld
   refine hK.out _ _ ?_ (fun hHeld => ?_)
   ·
    exact ⟨hS.cellW 1 1 _ rfl rfl, hS.cellW 1 2 _ rfl rfl⟩
   clear hK K
   try simp only [Act.put, List.setIfInBounds_toArray, List.set_cons_zero, List.set_cons_succ]
   refine tk 24 (v := ?_) rfl zz4 zz4 zz4 (fun _ _ _ h => h) zz37 (Or.inl ⟨zz54, ?_⟩) ?_
   rotate_left 1
   ·
    (intro w hSw; (try dsimp only at hSw); go_simp; try with_reducible rfl)
   simp only [Act.put, List.setIfInBounds_toArray, List.set_cons_zero, List.set_cons_succ]
   refine alone 25 rfl zz4 zz54 (fun K hK => ?_)
   go_simp
   go_at_call 29
   (with_reducible refine (add_any gw [x1] (false || !ok) x2 D _ (hS.ft 1) zz55 zz43).mono ?_)
   rintro e w7 ⟨rfl, hq⟩
   replace hS := hS.post1 hq
   rw [List.cons_append, List.nil_append] at hS
   clear hq hHeld
   refine hK.out _ _ ?_ (fun hHeld => ?_)
   ·
    exact ⟨hS.cellW 1 1 _ rfl rfl, hS.cellW 1 2 _ rfl rfl⟩
   clear hK K
   try simp only [Act.put, List.setIfInBounds_toArray, List.set_cons_zero, List.set_cons_succ]
   refine wpAnyH_done zz4 ?_ _
   go_wp2_with (first
    | (go_at_call 33
       (with_reducible refine (HE2.out gw _ (hS.ft 1) zz55).mono ?_)
       rintro e w8 ⟨rfl, hq⟩
       replace hS := hS.post1 hq))
   go_ret2
   exact ⟨rfl, hS.lt.u⟩
 ·
  rw [y1, y2] at hD
  simp only [Bool.true_or, Bool.or_true, Bool.false_or, Bool.or_false, Bool.true_and, Bool.false_and] at hD
  subst hD
  go_enter Try.func38, Try.ntmps38
  go_wp2_with (first
   | ((with_reducible refine gate_dst (N := 1) rfl ?_)
      refine sp_box hS rfl (N := 1) rfl #[.slice A n c, .int .i64 t, .string s] 47 zz20 ?_
      intro ga w1 hg1 hS)
   | ((with_reducible refine gate_dst (N := 4) rfl ?_)
      refine sp_box hS rfl (N := 4) rfl #[.slice none 0 0, .bool false] 62 zz20 ?_
      intro gw w2 hg2 hS
      replace hS := wr_new hS
      obtain ⟨k0, k1, k2⟩ := hS.cells3 1)
   | (go_at_call 42
      (with_reducible refine (HI.out _ hS.lt.u).mono ?_)
      rintro e w3 ⟨rfl, hun⟩
      replace hS := hS.toN hun
      clear k0 k1 k2 hun
      obtain ⟨k0, k1, k2⟩ := hS.cells3 1)
   | (go_at_call 29
      (with_reducible refine (add_any gw [] false x1 ok _ (hS.ft 1) zz55 zz13).mono ?_)
      rintro e w4 ⟨rfl, hq⟩
      replace hS := hS.post1 hq
      rw [List.nil_append] at hS
      clear k0 k1 k2 hq
      obtain ⟨k0, k1, k2⟩ := hS.cells3 1))
  ·
   refine wp_region_held_drew (S := fun W => W.cell? ⟨ga, 1, none⟩ = some (.int .i64 t) ∧ W.cell? ⟨ga, 2, none⟩ = some (.string s)) zz4 ⟨hS.cellW 1 1 _ rfl rfl, hS.cellW 1 2 _ rfl rfl⟩ (fun hHeld => ?_)
   refine tk 0 (v := ?_) rfl zz4 zz4 zz4 (fun _ _ _ h => h) zz37 (Or.inl ⟨zz54, ?_⟩) ?_
   rotate_left 1
   ·
    (intro w hSw; (try dsimp only at hSw); go_simp; try with_reducible rfl)
   simp only [Act.put, List.setIfInBounds_toArray, List.set_cons_zero, List.set_cons_succ]
   refine tk 1 (v := ?_) rfl zz4 zz4 zz4 (fun _ _ _ h => h) zz37 (Or.inl ⟨zz54, ?_⟩) ?_
   rotate_left 1
   ·
    (intro w hSw; (try dsimp only at hSw); go_simp; try with_reducible rfl)
   simp only [Act.put, List.setIfInBounds_toArray, List.set_cons_zero, List.set_cons_succ]
   refine tk 2 (v := ?_) rfl zz4 zz4 zz4 (fun _ _ _ h => h) zz37 (Or.inl ⟨zz54, ?_⟩) ?_
   rotate_left 1
   ·
    (intro w hSw; (try dsimp only at hSw); go_simp; try with_reducible rfl)
   simp only [Act.put, List.setIfInBounds_toArray, List.set_cons_zero, List.set_cons_succ]
   refine tk 3 (v := ?_) rfl zz4 zz4 zz4 (fun _ _ _ h => h) zz37 (Or.inl ⟨zz54, ?_⟩) ?_
   rotate_left 1
   ·
    (intro w hSw; (try dsimp only at hSw); go_simp; try with_reducible rfl)
   simp only [Act.put, List.setIfInBounds_toArray, List.set_cons_zero, List.set_cons_succ]
   refine tk 5 (v := ?_) rfl zz4 zz4 zz4 (fun _ _ _ h => h) zz37 (Or.inl ⟨zz54, ?_⟩) ?_
   rotate_left 1
   ·
    (intro w hSw; (try dsimp only at hSw); go_simp; try with_reducible rfl)
   simp only [Act.put, List.setIfInBounds_toArray, List.set_cons_zero, List.set_cons_succ]
   refine tk 6 (v := ?_) rfl zz4 zz4 zz4 (fun _ _ _ h => h) zz37 (Or.inl ⟨zz54, ?_⟩) ?_
   rotate_left 1
   ·
    (intro w hSw; (try dsimp only at hSw); go_simp; try with_reducible rfl)
   simp only [Act.put, List.setIfInBounds_toArray, List.set_cons_zero, List.set_cons_succ]
   refine tk 7 (v := ?_) rfl zz4 zz4 zz4 (fun _ _ _ h => h) zz37 (Or.inl ⟨zz54, ?_⟩) ?_
   rotate_left 1
   ·
    (intro w hSw; (try dsimp only at hSw); go_simp; try with_reducible rfl)
   simp only [Act.put, List.setIfInBounds_toArray, List.set_cons_zero, List.set_cons_succ]
   refine alone 4 rfl zz4 zz54 (fun K hK => ?_)
   go_simp
   go_at_call 25
   (with_reducible refine (HL.out _).mono ?_)
   rintro e w5 ⟨rfl, hun⟩
   replace hS := hS.toN hun
   clear k0 k1 k2 hun hHeld
   refine hK.out _ _ ?_ (fun hHeld => ?_)
   ·
    exact ⟨hS.cellW 1 1 _ rfl rfl, hS.cellW 1 2 _ rfl rfl⟩
   clear hK K
   try simp only [Act.put, List.setIfInBounds_toArray, List.set_cons_zero, List.set_cons_succ]
   refine tk 8 (v := ?_) rfl zz4 zz4 zz4 (fun _ _ _ h => h) zz37 (Or.inl ⟨zz54, ?_⟩) ?_
   rotate_left 1
   ·
    (intro w hSw; (try dsimp only at hSw); go_simp; try with_reducible rfl)
   simp only [Act.put, List.setIfInBounds_toArray, List.set_cons_zero, List.set_cons_succ]
   refine tk 9 (v := ?_) rfl zz4 zz4 zz4 (fun _ _ _ h => h) zz37 (Or.inl ⟨zz54, ?_⟩) ?_
   rotate_left 1
   ·
    (intro w hSw; (try dsimp only at hSw); go_simp; try with_reducible rfl)
   simp only [Act.put, List.setIfInBounds_toArray, List.set_cons_zero, List.set_cons_succ]
   refine tk 10 (v := ?_) rfl zz4 zz4 zz4 (fun _ _ _ h => h) zz37 (Or.inl ⟨zz54, ?_⟩) ?_
   rotate_left 1
   ·
    (intro w hSw; (try dsimp only at hSw); go_simp; try with_reducible rfl)
   simp only [Act.put, List.setIfInBounds_toArray, List.set_cons_zero, List.set_cons_succ]
   refine tk 11 (v := ?_) rfl zz4 zz4 zz4 (fun _ _ _ h => h) zz37 (Or.inl ⟨zz54, ?_⟩) ?_
   rotate_left 1
   ·
    (intro w hSw; (try dsimp only at hSw); go_simp; try with_reducible rfl)
   simp only [Act.put, List.setIfInBounds_toArray, List.set_cons_zero, List.set_cons_succ]
   refine tk 12 (v := ?_) rfl zz4 zz4 zz4 (fun _ _ _ h => h) zz37 (Or.inl ⟨zz54, ?_⟩) ?_
   rotate_left 1
   ·
    (intro w hSw; (try dsimp only at hSw); go_simp; try with_reducible rfl)
   simp only [Act.put, List.setIfInBounds_toArray, List.set_cons_zero, List.set_cons_succ]
   refine tk 13 (v := ?_) rfl zz4 zz4 zz4 (fun _ _ _ h => h) zz37 (Or.inl ⟨zz54, ?_⟩) ?_
   rotate_left 1
   ·
    (intro w hSw; (try dsimp only at hSw); go_simp; try with_reducible rfl)
   simp only [Act.put, List.setIfInBounds_toArray, List.set_cons_zero, List.set_cons_succ]
   refine tk 14 (v := undef) rfl zz4 zz4 zz4 (fun _ _ _ h => h) zz37 (Or.inr ⟨zz54, rfl⟩) ?_
   simp only [Act.put, List.setIfInBounds_toArray, List.set_cons_zero, List.set_cons_succ]
   refine tk 15 (v := undef) rfl zz4 zz4 zz4 (fun _ _ _ h => h) zz37 (Or.inr ⟨zz54, rfl⟩) ?_
   simp only [Act.put, List.setIfInBounds_toArray, List.set_cons_zero, List.set_cons_succ]
   refine tk 16 (v := undef) rfl zz4 zz4 zz4 (fun _ _ _ h => h) zz37 (Or.inr ⟨zz54, rfl⟩) ?_
   simp only [Act.put, List.setIfInBounds_toArray, List.set_cons_zero, List.set_cons_succ]
   refine tk 17 (v := ?_) rfl zz4 zz4 zz4 (fun _ _ _ h => h) zz37 (Or.inl ⟨zz54, ?_⟩) ?_
   rotate_left 1
   ·
    (intro w hSw; (try dsimp only at hSw); go_simp; try with_reducible rfl)
   simp only [Act.put, List.setIfInBounds_toArray, List.set_cons_zero, List.set_cons_succ]
   refine tk 18 (v := ?_) rfl zz4 zz4 zz4 (fun _ _ _ h => h) zz37 (Or.inl ⟨zz54, ?_⟩) ?_
   rotate_left 1
   ·
    (intro w hSw; (try dsimp only at hSw); go_simp; try with_reducible rfl)
   simp only [Act.put, List.setIfInBounds_toArray, List.set_cons_zero, List.set_cons_succ]
   refine tk 19 (v := ?_) rfl zz4 zz4 zz4 (fun _ _ _ h => h) zz37 (Or.inl ⟨zz54, ?_⟩) ?_
   rotate_left 1
   ·
    (intro w hSw; (try dsimp only at hSw); go_simp; try with_reducible rfl)
   simp only [Act.put, List.setIfInBounds_toArray, List.set_cons_zero, List.set_cons_succ]
   refine tk 20 (v := ?_) rfl zz4 zz4 zz4 (fun _ _ _ h => h) zz37 (Or.inl ⟨zz54, ?_⟩) ?_
   rotate_left 1
   ·
    (intro w hSw; (try dsimp only at hSw); go_simp; try with_reducible rfl)
   simp only [Act.put, List.setIfInBounds_toArray, List.set_cons_zero, List.set_cons_succ]
   refine tk 21 (v := ?_) rfl zz4 zz4 zz4 (fun _ _ _ h => h) zz37 (Or.inl ⟨zz54, ?_⟩) ?_
   rotate_left 1
   ·
    (intro w hSw; (try dsimp only at hSw); go_simp; try with_reducible rfl)
   simp only [Act.put, List.setIfInBounds_toArray, List.set_cons_zero, List.set_cons_succ]
   refine tk 22 (v := ?_) rfl zz4 zz4 zz4 (fun _ _ _ h => h) zz37 (Or.inl ⟨zz54, ?_⟩) ?_
   rotate_left 1
   ·
    (intro w hSw; (try dsimp only at hSw); go_simp; try with_reducible rfl)
   simp only [Act.put, List.setIfInBounds_toArray, List.set_cons_zero, List.set_cons_succ]
   refine alone 23 rfl zz4 zz54 (fun K hK => ?_)
   go_simp
   go_at_call 53
   (with_reducible refine (HK.out _).mono ?_)
   rintro e w6 ⟨rfl, hun⟩
   replace hS := hS.toN hun
   clear hun hHeld
   refine hK.out _ _ ?_ (fun hHeld => ?_)
   ·
    exact ⟨hS.cellW 1 1 _ rfl rfl, hS.cellW 1 2 _ rfl rfl⟩
   clear hK K
   try simp only [Act.put, List.setIfInBounds_toArray, List.set_cons_zero, List.set_cons_succ]
   refine tk 24 (v := ?_) rfl zz4 zz4 zz4 (fun _ _ _ h => h) zz37 (Or.inl ⟨zz54, ?_⟩) ?_
   rotate_left 1
   ·
    (intro w hSw; (try dsimp only at hSw); go_simp; try with_reducible rfl)
   simp only [Act.put, List.setIfInBounds_toArray, List.set_cons_zero, List.set_cons_succ]
   refine alone 25 rfl zz4 zz54 (fun K hK => ?_)
   go_simp
   go_at_call 29
   (with_reducible refine (add_any gw [x1] (false || !ok) x2 D _ (hS.ft 1) zz55 zz43).mono ?_)
   rintro e w7 ⟨rfl, hq⟩
   replace hS := hS.post1 hq
   rw [List.cons_append, List.nil_append] at hS
   clear hq hHeld
   refine hK.out _ _ ?_ (fun hHeld => ?_)
   ·
    exact ⟨hS.cellW 1 1 _ rfl rfl, hS.cellW 1 2 _ rfl rfl⟩
   clear hK K
   try simp only [Act.put, List.setIfInBounds_toArray, List.set_cons_zero, List.set_cons_succ]
   refine wpAnyH_done zz4 ?_ _
   go_wp2_with (first
    | (go_at_call 33
       (with_reducible refine (HE2.out gw _ (hS.ft 1) zz55).mono ?_)
       rintro e w8 ⟨rfl, hq⟩
       replace hS := hS.post1 hq))
   go_ret2
   exact ⟨rfl, hS.lt.u⟩
 ·
  rw [y1, y2, y3] at hD
  simp only [Bool.true_or, Bool.or_true, Bool.false_or, Bool.or_false, Bool.true_and, Bool.false_and] at hD
  subst hD
  go_enter Try.func38, Try.ntmps38
  go_wp2_with (first
   | ((with_reducible refine gate_dst (N := 1) rfl ?_)
      refine sp_box hS rfl (N := 1) rfl #[.slice A n c, .int .i64 t, .string s] 47 zz20 ?_
      intro ga w1 hg1 hS)
   | ((with_reducible refine gate_dst (N := 4) rfl ?_)
      refine sp_box hS rfl (N := 4) rfl #[.slice none 0 0, .bool false] 62 zz20 ?_
      intro gw w2 hg2 hS
      replace hS := wr_new hS
      obtain ⟨k0, k1, k2⟩ := hS.cells3 1)
   | (go_at_call 42
      (with_reducible refine (HI.out _ hS.lt.u).mono ?_)
      rintro e w3 ⟨rfl, hun⟩
      replace hS := hS.toN hun
      clear k0 k1 k2 hun
      obtain ⟨k0, k1, k2⟩ := hS.cells3 1)
   | (go_at_call 29
      (with_reducible refine (add_any gw [] false x1 ok _ (hS.ft 1) zz55 zz13).mono ?_)
      rintro e w4 ⟨rfl, hq⟩
      replace hS := hS.post1 hq
      rw [List.nil_append] at hS
      clear k0 k1 k2 hq
      obtain ⟨k0, k1, k2⟩ := hS.cells3 1))
  ·
   refine wp_region_held_drew (S := fun W => W.cell? ⟨ga, 1, none⟩ = some (.int .i64 t) ∧ W.cell? ⟨ga, 2, none⟩ = some (.string s)) zz4 ⟨hS.cellW 1 1 _ rfl rfl, hS.cellW 1 2 _ rfl rfl⟩ (fun hHeld => ?_)
   refine tk 0 (v := ?_) rfl zz4 zz4 zz4 (fun _ _ _ h => h) zz37 (Or.inl ⟨zz54, ?_⟩) ?_
   rotate_left 1
   ·
    (intro w hSw; (try dsimp only at hSw); go_simp; try with_reducible rfl)
   simp only [Act.put, List.setIfInBounds_toArray, List.set_cons_zero, List.set_cons_succ]
   refine tk 1 (v := ?_) rfl zz4 zz4 zz4 (fun _ _ _ h => h) zz37 (Or.inl ⟨zz54, ?_⟩) ?_
   rotate_left 1
   ·
    (intro w hSw; (try dsimp only at hSw); go_simp; try with_reducible rfl)
   simp only [Act.put, List.setIfInBounds_toArray, List.set_cons_zero, List.set_cons_succ]
   refine tk 2 (v := ?_) rfl zz4 zz4 zz4 (fun _ _ _ h => h) zz37 (Or.inl ⟨zz54, ?_⟩) ?_
   rotate_left 1
   ·
    (intro w hSw; (try dsimp only at hSw); go_simp; try with_reducible rfl)
   simp only [Act.put, List.setIfInBounds_toArray, List.set_cons_zero, List.set_cons_succ]
   refine tk 3 (v := ?_) rfl zz4 zz4 zz4 (fun _ _ _ h => h) zz37 (Or.inl ⟨zz54, ?_⟩) ?_
   rotate_left 1
   ·
    (intro w hSw; (try dsimp only at hSw); go_simp; try with_reducible rfl)
   simp only [Act.put, List.setIfInBounds_toArray, List.set_cons_zero, List.set_cons_succ]
   refine tk 5 (v := ?_) rfl zz4 zz4 zz4 (fun _ _ _ h => h) zz37 (Or.inl ⟨zz54, ?_⟩) ?_
   rotate_left 1
   ·
    (intro w hSw; (try dsimp only at hSw); go_simp; try with_reducible rfl)
   simp only [Act.put, List.setIfInBounds_toArray, List.set_cons_zero, List.set_cons_succ]
   refine tk 6 (v := ?_) rfl zz4 zz4 zz4 (fun _ _ _ h => h) zz37 (Or.inl ⟨zz54, ?_⟩) ?_
   rotate_left 1
   ·
    (intro w hSw; (try dsimp only at hSw); go_simp; try with_reducible rfl)
   simp only [Act.put, List.setIfInBounds_toArray, List.set_cons_zero, List.set_cons_succ]
   refine tk 7 (v := ?_) rfl zz4 zz4 zz4 (fun _ _ _ h => h) zz37 (Or.inl ⟨zz54, ?_⟩) ?_
   rotate_left 1
   ·
    (intro w hSw; (try dsimp only at hSw); go_simp; try with_reducible rfl)
   simp only [Act.put, List.setIfInBounds_toArray, List.set_cons_zero, List.set_cons_succ]
   refine alone 4 rfl zz4 zz54 (fun K hK => ?_)
   go_simp
   go_at_call 25
   (with_reducible refine (HL.out _).mono ?_)
   rintro e w5 ⟨rfl, hun⟩
   replace hS := hS.toN hun
   clear k0 k1 k2 hun hHeld
   refine hK.out _ _ ?_ (fun hHeld => ?_)
   ·
    exact ⟨hS.cellW 1 1 _ rfl rfl, hS.cellW 1 2 _ rfl rfl⟩
   clear hK K
   try simp only [Act.put, List.setIfInBounds_toArray, List.set_cons_zero, List.set_cons_succ]
   refine tk 8 (v := ?_) rfl zz4 zz4 zz4 (fun _ _ _ h => h) zz37 (Or.inl ⟨zz54, ?_⟩) ?_
   rotate_left 1
   ·
    (intro w hSw; (try dsimp only at hSw); go_simp; try with_reducible rfl)
   simp only [Act.put, List.setIfInBounds_toArray, List.set_cons_zero, List.set_cons_succ]
   refine tk 9 (v := ?_) rfl zz4 zz4 zz4 (fun _ _ _ h => h) zz37 (Or.inl ⟨zz54, ?_⟩) ?_
   rotate_left 1
   ·
    (intro w hSw; (try dsimp only at hSw); go_simp; try with_reducible rfl)
   simp only [Act.put, List.setIfInBounds_toArray, List.set_cons_zero, List.set_cons_succ]
   refine tk 10 (v := ?_) rfl zz4 zz4 zz4 (fun _ _ _ h => h) zz37 (Or.inl ⟨zz54, ?_⟩) ?_
   rotate_left 1
   ·
    (intro w hSw; (try dsimp only at hSw); go_simp; try with_reducible rfl)
   simp only [Act.put, List.setIfInBounds_toArray, List.set_cons_zero, List.set_cons_succ]
   refine tk 11 (v := ?_) rfl zz4 zz4 zz4 (fun _ _ _ h => h) zz37 (Or.inl ⟨zz54, ?_⟩) ?_
   rotate_left 1
   ·
    (intro w hSw; (try dsimp only at hSw); go_simp; try with_reducible rfl)
   simp only [Act.put, List.setIfInBounds_toArray, List.set_cons_zero, List.set_cons_succ]
   refine tk 12 (v := ?_) rfl zz4 zz4 zz4 (fun _ _ _ h => h) zz37 (Or.inl ⟨zz54, ?_⟩) ?_
   rotate_left 1
   ·
    (intro w hSw; (try dsimp only at hSw); go_simp; try with_reducible rfl)
   simp only [Act.put, List.setIfInBounds_toArray, List.set_cons_zero, List.set_cons_succ]
   refine tk 13 (v := ?_) rfl zz4 zz4 zz4 (fun _ _ _ h => h) zz37 (Or.inl ⟨zz54, ?_⟩) ?_
   rotate_left 1
   ·
    (intro w hSw; (try dsimp only at hSw); go_simp; try with_reducible rfl)
   simp only [Act.put, List.setIfInBounds_toArray, List.set_cons_zero, List.set_cons_succ]
   refine tk 14 (v := ?_) rfl zz4 zz4 zz4 (fun _ _ _ h => h) zz37 (Or.inl ⟨zz54, ?_⟩) ?_
   rotate_left 1
   ·
    (intro w hSw; (try dsimp only at hSw); go_simp; try with_reducible rfl)
   simp only [Act.put, List.setIfInBounds_toArray, List.set_cons_zero, List.set_cons_succ]
   refine tk 15 (v := ?_) rfl zz4 zz4 zz4 (fun _ _ _ h => h) zz37 (Or.inl ⟨zz54, ?_⟩) ?_
   rotate_left 1
   ·
    (intro w hSw; (try dsimp only at hSw); go_simp; try with_reducible rfl)
   simp only [Act.put, List.setIfInBounds_toArray, List.set_cons_zero, List.set_cons_succ]
   refine tk 16 (v := ?_) rfl zz4 zz4 zz4 (fun _ _ _ h => h) zz37 (Or.inl ⟨zz54, ?_⟩) ?_
   rotate_left 1
   ·
    (intro w hSw; (try dsimp only at hSw); go_simp; try with_reducible rfl)
   simp only [Act.put, List.setIfInBounds_toArray, List.set_cons_zero, List.set_cons_succ]
   refine tk 17 (v := ?_) rfl zz4 zz4 zz4 (fun _ _ _ h => h) zz37 (Or.inl ⟨zz54, ?_⟩) ?_
   rotate_left 1
   ·
    (intro w hSw; (try dsimp only at hSw); go_simp; try with_reducible rfl)
   simp only [Act.put, List.setIfInBounds_toArray, List.set_cons_zero, List.set_cons_succ]
   refine tk 18 (v := ?_) rfl zz4 zz4 zz4 (fun _ _ _ h => h) zz37 (Or.inl ⟨zz54, ?_⟩) ?_
   rotate_left 1
   ·
    (intro w hSw; (try dsimp only at hSw); go_simp; try with_reducible rfl)
   simp only [Act.put, List.setIfInBounds_toArray, List.set_cons_zero, List.set_cons_succ]
   refine tk 19 (v := ?_) rfl zz4 zz4 zz4 (fun _ _ _ h => h) zz37 (Or.inl ⟨zz54, ?_⟩) ?_
   rotate_left 1
   ·
    (intro w hSw; (try dsimp only at hSw); go_simp; try with_reducible rfl)
   simp only [Act.put, List.setIfInBounds_toArray, List.set_cons_zero, List.set_cons_succ]
   refine tk 20 (v := ?_) rfl zz4 zz4 zz4 (fun _ _ _ h => h) zz37 (Or.inl ⟨zz54, ?_⟩) ?_
   rotate_left 1
   ·
    (intro w hSw; (try dsimp only at hSw); go_simp; try with_reducible rfl)
   simp only [Act.put, List.setIfInBounds_toArray, List.set_cons_zero, List.set_cons_succ]
   refine tk 21 (v := ?_) rfl zz4 zz4 zz4 (fun _ _ _ h => h) zz37 (Or.inl ⟨zz54, ?_⟩) ?_
   rotate_left 1
   ·
    (intro w hSw; (try dsimp only at hSw); go_simp; try with_reducible rfl)
   simp only [Act.put, List.setIfInBounds_toArray, List.set_cons_zero, List.set_cons_succ]
   refine tk 22 (v := ?_) rfl zz4 zz4 zz4 (fun _ _ _ h => h) zz37 (Or.inl ⟨zz54, ?_⟩) ?_
   rotate_left 1
   ·
    (intro w hSw; (try dsimp only at hSw); go_simp; try with_reducible rfl)
   simp only [Act.put, List.setIfInBounds_toArray, List.set_cons_zero, List.set_cons_succ]
   refine alone 23 rfl zz4 zz54 (fun K hK => ?_)
   go_simp
   go_at_call 53
   (with_reducible refine (HK.out _).mono ?_)
   rintro e w6 ⟨rfl, hun⟩
   replace hS := hS.toN hun
   clear hun hHeld
   refine hK.out _ _ ?_ (fun hHeld => ?_)
   ·
    exact ⟨hS.cellW 1 1 _ rfl rfl, hS.cellW 1 2 _ rfl rfl⟩
   clear hK K
   try simp only [Act.put, List.setIfInBounds_toArray, List.set_cons_zero, List.set_cons_succ]
   refine tk 24 (v := ?_) rfl zz4 zz4 zz4 (fun _ _ _ h => h) zz37 (Or.inl ⟨zz54, ?_⟩) ?_
   rotate_left 1
   ·
    (intro w hSw; (try dsimp only at hSw); go_simp; try with_reducible rfl)
   simp only [Act.put, List.setIfInBounds_toArray, List.set_cons_zero, List.set_cons_succ]
   refine alone 25 rfl zz4 zz54 (fun K hK => ?_)
   go_simp
   go_at_call 29
   (with_reducible refine (add_any gw [x1] (false || !ok) x2 D _ (hS.ft 1) zz55 zz43).mono ?_)
   rintro e w7 ⟨rfl, hq⟩
   replace hS := hS.post1 hq
   rw [List.cons_append, List.nil_append] at hS
   clear hq hHeld
   refine hK.out _ _ ?_ (fun hHeld => ?_)
   ·
    exact ⟨hS.cellW 1 1 _ rfl rfl, hS.cellW 1 2 _ rfl rfl⟩
   clear hK K
   try simp only [Act.put, List.setIfInBounds_toArray, List.set_cons_zero, List.set_cons_succ]
   refine wpAnyH_done zz4 ?_ _
   go_wp2_with (first
    | (go_at_call 33
       (with_reducible refine (HE2.out gw _ (hS.ft 1) zz55).mono ?_)
       rintro e w8 ⟨rfl, hq⟩
       replace hS := hS.post1 hq))
   go_ret2
   exact ⟨rfl, hS.lt.u⟩
 ·
  rw [y1, y2, y3] at hD
  simp only [Bool.true_or, Bool.or_true, Bool.false_or, Bool.or_false, Bool.true_and, Bool.false_and] at hD
  subst hD
  go_enter Try.func38, Try.ntmps38
  go_wp2_with (first
   | ((with_reducible refine gate_dst (N := 1) rfl ?_)
      refine sp_box hS rfl (N := 1) rfl #[.slice A n c, .int .i64 t, .string s] 47 zz20 ?_
      intro ga w1 hg1 hS)
   | ((with_reducible refine gate_dst (N := 4) rfl ?_)
      refine sp_box hS rfl (N := 4) rfl #[.slice none 0 0, .bool false] 62 zz20 ?_
      intro gw w2 hg2 hS
      replace hS := wr_new hS
      obtain ⟨k0, k1, k2⟩ := hS.cells3 1)
   | (go_at_call 42
      (with_reducible refine (HI.out _ hS.lt.u).mono ?_)
      rintro e w3 ⟨rfl, hun⟩
      replace hS := hS.toN hun
      clear k0 k1 k2 hun
      obtain ⟨k0, k1, k2⟩ := hS.cells3 1)
   | (go_at_call 29
      (with_reducible refine (add_any gw [] false x1 ok _ (hS.ft 1) zz55 zz13).mono ?_)
      rintro e w4 ⟨rfl, hq⟩
      replace hS := hS.post1 hq
      rw [List.nil_append] at hS
      clear k0 k1 k2 hq
      obtain ⟨k0, k1, k2⟩ := hS.cells3 1))
  ·
   refine wp_region_held_drew (S := fun W => W.cell? ⟨ga, 1, none⟩ = some (.int .i64 t) ∧ W.cell? ⟨ga, 2, none⟩ = some (.string s)) zz4 ⟨hS.cellW 1 1 _ rfl rfl, hS.cellW 1 2 _ rfl rfl⟩ (fun hHeld => ?_)
   refine tk 0 (v := ?_) rfl zz4 zz4 zz4 (fun _ _ _ h => h) zz37 (Or.inl ⟨zz54, ?_⟩) ?_
   rotate_left 1
   ·
    (intro w hSw; (try dsimp only at hSw); go_simp; try with_reducible rfl)
   simp only [Act.put, List.setIfInBounds_toArray, List.set_cons_zero, List.set_cons_succ]
   refine tk 1 (v := ?_) rfl zz4 zz4 zz4 (fun _ _ _ h => h) zz37 (Or.inl ⟨zz54, ?_⟩) ?_
   rotate_left 1
   ·
    (intro w hSw; (try dsimp only at hSw); go_simp; try with_reducible rfl)
   simp only [Act.put, List.setIfInBounds_toArray, List.set_cons_zero, List.set_cons_succ]
   refine tk 2 (v := ?_) rfl zz4 zz4 zz4 (fun _ _ _ h => h) zz37 (Or.inl ⟨zz54, ?_⟩) ?_
   rotate_left 1
   ·
    (intro w hSw; (try dsimp only at hSw); go_simp; try with_reducible rfl)
   simp only [Act.put, List.setIfInBounds_toArray, List.set_cons_zero, List.set_cons_succ]
   refine tk 3 (v := ?_) rfl zz4 zz4 zz4 (fun _ _ _ h => h) zz37 (Or.inl ⟨zz54, ?_⟩) ?_
   rotate_left 1
   ·
    (intro w hSw; (try dsimp only at hSw); go_simp; try with_reducible rfl)
   simp only [Act.put, List.setIfInBounds_toArray, List.set_cons_zero, List.set_cons_succ]
   refine tk 5 (v := ?_) rfl zz4 zz4 zz4 (fun _ _ _ h => h) zz37 (Or.inl ⟨zz54, ?_⟩) ?_
   rotate_left 1
   ·
    (intro w hSw; (try dsimp only at hSw); go_simp; try with_reducible rfl)
   simp only [Act.put, List.setIfInBounds_toArray, List.set_cons_zero, List.set_cons_succ]
   refine tk 6 (v := ?_) rfl zz4 zz4 zz4 (fun _ _ _ h => h) zz37 (Or.inl ⟨zz54, ?_⟩) ?_
   rotate_left 1
   ·
    (intro w hSw; (try dsimp only at hSw); go_simp; try with_reducible rfl)
   simp only [Act.put, List.setIfInBounds_toArray, List.set_cons_zero, List.set_cons_succ]
   refine tk 7 (v := ?_) rfl zz4 zz4 zz4 (fun _ _ _ h => h) zz37 (Or.inl ⟨zz54, ?_⟩) ?_
   rotate_left 1
   ·
    (intro w hSw; (try dsimp only at hSw); go_simp; try with_reducible rfl)
   simp only [Act.put, List.setIfInBounds_toArray, List.set_cons_zero, List.set_cons_succ]
   refine alone 4 rfl zz4 zz54 (fun K hK => ?_)
   go_simp
   go_at_call 25
   (with_reducible refine (HL.out _).mono ?_)
   rintro e w5 ⟨rfl, hun⟩
   replace hS := hS.toN hun
   clear k0 k1 k2 hun hHeld
   refine hK.out _ _ ?_ (fun hHeld => ?_)
   ·
    exact ⟨hS.cellW 1 1 _ rfl rfl, hS.cellW 1 2 _ rfl rfl⟩
   clear hK K
   try simp only [Act.put, List.setIfInBounds_toArray, List.set_cons_zero, List.set_cons_succ]
   refine tk 8 (v := ?_) rfl zz4 zz4 zz4 (fun _ _ _ h => h) zz37 (Or.inl ⟨zz54, ?_⟩) ?_
   rotate_left 1
   ·
    (intro w hSw; (try dsimp only at hSw); go_simp; try with_reducible rfl)
   simp only [Act.put, List.setIfInBounds_toArray, List.set_cons_zero, List.set_cons_succ]
   refine tk 9 (v := ?_) rfl zz4 zz4 zz4 (fun _ _ _ h => h) zz37 (Or.inl ⟨zz54, ?_⟩) ?_
   rotate_left 1
   ·
    (intro w hSw; (try dsimp only at hSw); go_simp; try with_reducible rfl)
   simp only [Act.put, List.setIfInBounds_toArray, List.set_cons_zero, List.set_cons_succ]
   refine tk 10 (v := ?_) rfl zz4 zz4 zz4 (fun _ _ _ h => h) zz37 (Or.inl ⟨zz54, ?_⟩) ?_
   rotate_left 1
   ·
    (intro w hSw; (try dsimp only at hSw); go_simp; try with_reducible rfl)
   simp only [Act.put, List.setIfInBounds_toArray, List.set_cons_zero, List.set_cons_succ]
   refine tk 11 (v := ?_) rfl zz4 zz4 zz4 (fun _ _ _ h => h) zz37 (Or.inl ⟨zz54, ?_⟩) ?_
   rotate_left 1
   ·
    (intro w hSw; (try dsimp only at hSw); go_simp; try with_reducible rfl)
   simp only [Act.put, List.setIfInBounds_toArray, List.set_cons_zero, List.set_cons_succ]
   refine tk 12 (v := ?_) rfl zz4 zz4 zz4 (fun _ _ _ h => h) zz37 (Or.inl ⟨zz54, ?_⟩) ?_
   rotate_left 1
   ·
    (intro w hSw; (try dsimp only at hSw); go_simp; try with_reducible rfl)
   simp only [Act.put, List.setIfInBounds_toArray, List.set_cons_zero, List.set_cons_succ]
   refine tk 13 (v := ?_) rfl zz4 zz4 zz4 (fun _ _ _ h => h) zz37 (Or.inl ⟨zz54, ?_⟩) ?_
   rotate_left 1
   ·
    (intro w hSw; (try dsimp only at hSw); go_simp; try with_reducible rfl)
   simp only [Act.put, List.setIfInBounds_toArray, List.set_cons_zero, List.set_cons_succ]
   refine tk 14 (v := ?_) rfl zz4 zz4 zz4 (fun _ _ _ h => h) zz37 (Or.inl ⟨zz54, ?_⟩) ?_
   rotate_left 1
   ·
    (intro w hSw; (try dsimp only at hSw); go_simp; try with_reducible rfl)
   simp only [Act.put, List.setIfInBounds_toArray, List.set_cons_zero, List.set_cons_succ]
   refine tk 15 (v := ?_) rfl zz4 zz4 zz4 (fun _ _ _ h => h) zz37 (Or.inl ⟨zz54, ?_⟩) ?_
   rotate_left 1
   ·
    (intro w hSw; (try dsimp only at hSw); go_simp; try with_reducible rfl)
   simp only [Act.put, List.setIfInBounds_toArray, List.set_cons_zero, List.set_cons_succ]
   refine tk 16 (v := ?_) rfl zz4 zz4 zz4 (fun _ _ _ h => h) zz37 (Or.inl ⟨zz54, ?_⟩) ?_
   rotate_left 1
   ·
    (intro w hSw; (try dsimp only at hSw); go_simp; try with_reducible rfl)
   simp only [Act.put, List.setIfInBounds_toArray, List.set_cons_zero, List.set_cons_succ]
   refine tk 17 (v := ?_) rfl zz4 zz4 zz4 (fun _ _ _ h => h) zz37 (Or.inl ⟨zz54, ?_⟩) ?_
   rotate_left 1
   ·
    (intro w hSw; (try dsimp only at hSw); go_simp; try with_reducible rfl)
   simp only [Act.put, List.setIfInBounds_toArray, List.set_cons_zero, List.set_cons_succ]
   refine tk 18 (v := ?_) rfl zz4 zz4 zz4 (fun _ _ _ h => h) zz37 (Or.inl ⟨zz54, ?_⟩) ?_
   rotate_left 1
   ·
    (intro w hSw; (try dsimp only at hSw); go_simp; try with_reducible rfl)
   simp only [Act.put, List.setIfInBounds_toArray, List.set_cons_zero, List.set_cons_succ]
   refine tk 19 (v := undef) rfl zz4 zz4 zz4 (fun _ _ _ h => h) zz37 (Or.inr ⟨zz54, rfl⟩) ?_
   simp only [Act.put, List.setIfInBounds_toArray, List.set_cons_zero, List.set_cons_succ]
   refine tk 20 (v := undef) rfl zz4 zz4 zz4 (fun _ _ _ h => h) zz37 (Or.inr ⟨zz54, rfl⟩) ?_
   simp only [Act.put, List.setIfInBounds_toArray, List.set_cons_zero, List.set_cons_succ]
   refine tk 21 (v := undef) rfl zz4 zz4 zz4 (fun _ _ _ h => h) zz37 (Or.inr ⟨zz54, rfl⟩) ?_
   simp only [Act.put, List.setIfInBounds_toArray, List.set_cons_zero, List.set_cons_succ]
   refine tk 22 (v := undef) rfl zz4 zz4 zz4 (fun _ _ _ h => h) zz37 (Or.inr ⟨zz54, rfl⟩) ?_
   simp only [Act.put, List.setIfInBounds_toArray, List.set_cons_zero, List.set_cons_succ]
   refine tk 23 (v := undef) rfl zz4 zz4 zz4 (fun _ _ _ h => h) zz37 (Or.inr ⟨zz54, rfl⟩) ?_
   simp only [Act.put, List.setIfInBounds_toArray, List.set_cons_zero, List.set_cons_succ]
   refine tk 24 (v := ?_) rfl zz4 zz4 zz4 (fun _ _ _ h => h) zz37 (Or.inl ⟨zz54, ?_⟩) ?_
   rotate_left 1
   ·
    (intro w hSw; (try dsimp only at hSw); go_simp; try with_reducible rfl)
   simp only [Act.put, List.setIfInBounds_toArray, List.set_cons_zero, List.set_cons_succ]
   refine alone 25 rfl zz4 zz54 (fun K hK => ?_)
   go_simp
   go_at_call 29
   (with_reducible refine (add_any gw [x1] (false || !ok) x2 false _ (hS.ft 1) zz55 zz43).mono ?_)
   rintro e w7 ⟨rfl, hq⟩
   replace hS := hS.post1 hq
   rw [List.cons_append, List.nil_append] at hS
   clear hq hHeld
   refine hK.out _ _ ?_ (fun hHeld => ?_)
   ·
    exact ⟨hS.cellW 1 1 _ rfl rfl, hS.cellW 1 2 _ rfl rfl⟩
   clear hK K
   try simp only [Act.put, List.setIfInBounds_toArray, List.set_cons_zero, List.set_cons_succ]
   refine wpAnyH_done zz4 ?_ _
   go_wp2_with (first
    | (go_at_call 33
       (with_reducible refine (HE2.out gw _ (hS.ft 1) zz55).mono ?_)
       rintro e w8 ⟨rfl, hq⟩
       replace hS := hS.post1 hq))
   go_ret2
   exact ⟨rfl, hS.lt.u⟩
end Go.Proofs.Ytgddaddoabjgiaa.At
namespace Go.Proofs.Ytgddaddoabjgiaa.At
open RowKit YtgddaddoabjgiaaW.PrintWords YtgddaddoabjgiaaW.PrintLast YtgddaddoabjgiaaW.PrintMore Own Sl Bs El Wr Oid Oidm Kn Cn
set_option linter.unusedVariables false
set_option linter.unusedSimpArgs false
def attrx (a : S47) : ByteArray := if attrOk a then attrb a else ByteArray.empty
theorem attrx_size (a : S47) (h : AttrP a) : (attrx a).size ≤ 30000 := by
 unfold attrx
 split
 ·
  exact attrb_size a h
 ·
  simp
theorem attr_any (A : Option Addr) (c : Nat) (a : S47) (w : World) (hC : (Kd.int .u64).C w A a.f0.length a.f0) (hcap : a.f0.length ≤ c) (hA : AttrP a) :
 Calls Try.prog 38 #[.agg #[.slice A a.f0.length c, .int .i64 a.f1, .string a.f2]] w fun e w' => e = .returned (.tuple #[.string (attrx a), .bool (attrOk a)]) ∧ Upd None0 w w' := by
 have z1 := idb_size a.f0 hA.1
 have z2 := leafb_size a.f1 a.f2 (by have := hA.2; omega)
 have z3 := hA.2
 have hZ : (cat [idb a.f0, leafb a.f1 a.f2]).size ≤ 100000000 := by rw [cat2, ByteArray.size_append]; omega
 have hb : ∀ t k : Int, (t == k) = decide (t = k) := fun t k => by by_cases h : t = k <;> simp [h]
 refine attr_walk A a.f0.length c a.f1 a.f2 (idb a.f0) (leafb a.f1 a.f2) (attrx a) (oidOk a.f0) (Tx.check a.f1 (bytesOf a.f2)) (attrOk a) ((decide (a.f1 = 12) || decide (a.f1 = 19) || decide (a.f1 = 22)) && Tx.check a.f1 (bytesOf a.f2)) w
  ⟨fun W h => id_any A c a.f0 W (Kd.C_below hC h.below0) hcap hA.1⟩ ⟨fun W => leaf_any a.f1 a.f2 W zz7⟩ ⟨fun W => check_any a.f1 a.f2 W zz7⟩
  ⟨fun g W S h => (end_any (t := 16) g [idb a.f0, leafb a.f1 a.f2] _ W S h zz13 hZ zz43).mono fun e w' ⟨h1, h2⟩ => ⟨h1.trans ?_, h2⟩⟩ (by rw [hb, hb, hb])
 have hat : attrb a = elb 0 16 true (cat [idb a.f0, leafb a.f1 a.f2]) := by unfold attrb; rw [cat2]
 have hao : attrOk a = (oidOk a.f0 && ((decide (a.f1 = 12) || decide (a.f1 = 19) || decide (a.f1 = 22)) && Tx.check a.f1 (bytesOf a.f2))) := rfl
 unfold attrx
 rw [hat, hao]
 generalize oidOk a.f0 = ok
 generalize ((decide (a.f1 = 12) || decide (a.f1 = 19) || decide (a.f1 = 22)) && Tx.check a.f1 (bytesOf a.f2)) = D
 cases ok <;> cases D <;> rfl
end Go.Proofs.Ytgddaddoabjgiaa.At
namespace Go.Proofs.Ytgddaddoabjgiaa.Ord
def Cmp (A B : Nat → Int) (r : Int) : Prop :=
 (r = 0 ∧ ∀ i, A i = B i) ∨ (r = -1 ∧ ∃ i, A i < B i ∧ ∀ j, j < i → A j = B j) ∨ (r = 1 ∧ ∃ i, B i < A i ∧ ∀ j, j < i → A j = B j)
theorem Cmp.swap {A B : Nat → Int} {r : Int} (h : Cmp A B r) : Cmp B A (-r) := by
 rcases h with ⟨rfl, h⟩ | ⟨rfl, i, h1, h2⟩ | ⟨rfl, i, h1, h2⟩
 ·
  exact .inl ⟨rfl, fun i => (h i).symm⟩
 ·
  exact .inr (.inr ⟨rfl, i, h1, fun j hj => (h2 j hj).symm⟩)
 ·
  exact .inr (.inl ⟨rfl, i, h1, fun j hj => (h2 j hj).symm⟩)
theorem less_once {A B : Nat → Int} {i k : Nat} (h1 : A i < B i) (h2 : ∀ j, j < i → A j = B j) (g1 : B k < A k) (g2 : ∀ j, j < k → A j = B j) : False := by
 rcases Nat.lt_trichotomy i k with h | h | h
 ·
  have := g2 i h; omega
 ·
  subst h; omega
 ·
  have := h2 k h; omega
theorem Cmp.uniq {A B : Nat → Int} {r s : Int} (h : Cmp A B r) (g : Cmp A B s) : r = s := by
 rcases h with ⟨rfl, h⟩ | ⟨rfl, i, h1, h2⟩ | ⟨rfl, i, h1, h2⟩ <;> rcases g with ⟨rfl, g⟩ | ⟨rfl, k, g1, g2⟩ | ⟨rfl, k, g1, g2⟩
 ·
  rfl
 ·
  have := h k; omega
 ·
  have := h k; omega
 ·
  have := g i; omega
 ·
  rfl
 ·
  exact (less_once h1 h2 g1 g2).elim
 ·
  have := g i; omega
 ·
  exact (less_once g1 g2 h1 h2).elim
 ·
  rfl
theorem Cmp.same {A B C : Nat → Int} {y : Int} (h : ∀ i, A i = B i) (g : Cmp B C y) : Cmp A C y := by
 have : A = B := funext h
 rw [this]; exact g
theorem Cmp.range {A B : Nat → Int} {r : Int} (h : Cmp A B r) : -1 ≤ r ∧ r ≤ 1 := by
 rcases h with ⟨rfl, _⟩ | ⟨rfl, _⟩ | ⟨rfl, _⟩ <;> omega
theorem Cmp.refl (A : Nat → Int) : Cmp A A 0 := .inl ⟨rfl, fun _ => rfl⟩
def seq (l : List Int) (i : Nat) : Int := l.getD i 0
theorem seq_zero (l : List Int) : seq (l ++ [0]) = seq l := by
 funext i
 unfold seq
 rw [List.getD_eq_getElem?_getD, List.getD_eq_getElem?_getD]
 rcases Nat.lt_trichotomy i l.length with h | h | h
 ·
  rw [List.getElem?_append_left h]
 ·
  subst h; simp
 ·
  rw [List.getElem?_eq_none zz73, List.getElem?_eq_none zz7]
def bl : List Int → List Int → Bool
 | _, [] => false
 | [], _ :: _ => true
 | a :: x, b :: y => decide (a < b) || (a == b && bl x y)
theorem bl_cmp : ∀ (x y : List Int), x.length = y.length → Cmp (seq x) (seq y) (if bl x y = true then -1 else if bl y x = true then 1 else 0)
 | [], [], _ => .inl ⟨by simp [bl], fun _ => rfl⟩
 | a :: x, b :: y, h => by
   have ih := bl_cmp x y (by simpa using h)
   by_cases h1 : a < b
   ·
    rw [if_pos (by simp [bl, h1])]
    exact .inr (.inl ⟨rfl, 0, by simpa [seq] using h1, fun j hj => by omega⟩)
   by_cases h2 : b < a
   ·
    have h3 : ¬ a = b := by omega
    rw [if_neg (by simp [bl, h1, h3]), if_pos (by simp [bl, h2])]
    exact .inr (.inr ⟨rfl, 0, by simpa [seq] using h2, fun j hj => by omega⟩)
   ·
    have h3 : a = b := by omega
    subst h3
    have e1 : bl (a :: x) (a :: y) = bl x y := by simp [bl]
    have e2 : bl (a :: y) (a :: x) = bl y x := by simp [bl]
    rw [e1, e2]
    rcases ih with ⟨hr, g⟩ | ⟨hr, i, g1, g2⟩ | ⟨hr, i, g1, g2⟩
    ·
     exact .inl ⟨hr, fun i => by cases i with
      | zero => rfl
      | succ i => exact g i⟩
    ·
     exact .inr (.inl ⟨hr, i + 1, g1, fun j hj => by cases j with
      | zero => rfl
      | succ j => exact g2 j zz7⟩)
    ·
     exact .inr (.inr ⟨hr, i + 1, g1, fun j hj => by cases j with
      | zero => rfl
      | succ j => exact g2 j zz7⟩)
 | [], _ :: _, h => by simp at h
 | _ :: _, [], h => by simp at h
end Go.Proofs.Ytgddaddoabjgiaa.Ord
namespace Go.Proofs.Ytgddaddoabjgiaa.Cm
open RowKit YtgddaddoabjgiaaW.PrintWords YtgddaddoabjgiaaW.PrintLast YtgddaddoabjgiaaW.PrintMore Bs Go.Proofs.Ytgddaddoabjgiaa.Ord
attribute [local go_sem] max2_int min2_int max_two min_two max_three min_three max_four min_four
set_option linter.unusedVariables false
set_option linter.unusedSimpArgs false
abbrev sq (s : ByteArray) : Nat → Int := seq (bytesOf s)
theorem sq_in (s : ByteArray) (i : Nat) (h : i < s.size) : ((s[i]).toNat : Int) = sq s i := by
 have := bt_at s (i : Int) h
 simp only [Int.toNat_natCast] at this
 rw [this, bt_get, Int.toNat_natCast]; unfold sq seq; rw [List.getD_eq_getElem?_getD]
theorem sq_out (s : ByteArray) (i : Nat) (h : s.size ≤ i) : sq s i = 0 := by
 unfold sq seq; rw [List.getD_eq_getElem?_getD, List.getElem?_eq_none zz70]; rfl
theorem at_any (s : ByteArray) (i : Nat) (w : World) (hi : i ≤ 9000000000000000000) (hs : s.size ≤ 9000000000000000000) :
 Calls Try.prog 79 #[.string s, .int .i64 (i : Int)] w fun e w' => e = .returned (.int .u8 (sq s i)) ∧ w = w' := by
 by_cases h : i < s.size
 ·
  have hd : decide ((i : Int) < (s.size : Int)) = true := decide_eq_true zz7
  have hb : ∀ h : i < s.size, ((s[i]'h).toNat : Int) = sq s i := sq_in s i
  go_enter Try.func79, Try.ntmps79
  go_wp2
  go_ret
  exact ⟨rfl, rfl⟩
 ·
  have hd : decide ((i : Int) < (s.size : Int)) = false := decide_eq_false zz7
  have hz := sq_out s i zz7
  go_enter Try.func79, Try.ntmps79
  go_wp2
  go_ret
  exact ⟨by rw [hz]; rfl, rfl⟩
set_option maxRecDepth 100000 in
set_option maxHeartbeats 1000000 in
theorem cmp_any (a b : ByteArray) (c : Int) (w : World) (ha : a.size ≤ 1000000) (hb : b.size ≤ 1000000) (hc : Cmp (sq a) (sq b) c) :
 Calls Try.prog 57 #[.string a, .string b] w fun e w' => e = .returned (.int .i64 c) ∧ w = w' := by
 have HC := Aside0.mk hc
 obtain ⟨m, hm⟩ : ∃ m : Nat, (if a.size < b.size then b.size else a.size) = m := ⟨_, rfl⟩
 have HM := Aside0.mk (show a.size ≤ m ∧ b.size ≤ m ∧ m ≤ 1000000 by split at hm <;> omega)
 clear hc
 have hmi : (if a.size < b.size then (b.size : Int) else (a.size : Int)) = (m : Int) := by rw [← hm]; split <;> rfl
 clear hm ha hb
 go_enter Try.func57, Try.ntmps57
 go_wp2
 clear hmi
 go_loopg [13] m (fun gk v13 wr => ∃ i : Nat, v13 = .int .i64 (i : Int) ∧ Aside0 (i ≤ m ∧ m - i ≤ gk) ∧ Aside0 (∀ j, j < i → sq a j = sq b j) ∧ w = wr)
 case atStart => exact ⟨0, rfl, ⟨Nat.zero_le _, zz7⟩, ⟨fun j h => absurd h zz7⟩, rfl⟩
 case round =>
  obtain ⟨i, rfl, HI, HJ, rfl⟩ := hrel
  have hi0 : (0 : Int) ≤ (i : Int) := by omega
  have him : (i : Int) ≤ 1000000 := by have := HI.out.1; have := HM.out; omega
  by_cases hlt : i < m
  ·
   have hd : decide (i < m) = true := decide_eq_true hlt
   obtain ⟨x, hx⟩ : ∃ x, sq a i = x := ⟨_, rfl⟩
   obtain ⟨y, hy⟩ : ∃ y, sq b i = y := ⟨_, rfl⟩
   have HX := Aside0.mk hx
   have HY := Aside0.mk hy
   have HS := Aside0.mk (show a.size ≤ 9000000000000000000 ∧ b.size ≤ 9000000000000000000 by have := HM.out; omega)
   have HLT := Aside0.mk hlt
   clear hx hy hlt
   by_cases h1 : x < y
   ·
    have k1 : decide (x < y) = true := decide_eq_true h1
    obtain rfl := HC.out.uniq (.inr (.inl ⟨rfl, i, by rw [HX.out, HY.out]; exact h1, HJ.out⟩))
    clear h1
    go_wp2_with (first | (go_at_call 79; first | ((with_reducible refine (at_any a i _ zz7 (by exact HS.out.1)).mono ?_); rintro e w' ⟨rfl, rfl⟩; rw [HX.out]) | ((with_reducible refine (at_any b i _ zz7 (by exact HS.out.2)).mono ?_); rintro e w' ⟨rfl, rfl⟩; rw [HY.out])))
    go_ret
    exact ⟨rfl, rfl⟩
   have k1 : decide (x < y) = false := decide_eq_false h1
   by_cases h2 : y < x
   ·
    have k2 : decide (y < x) = true := decide_eq_true h2
    obtain rfl := HC.out.uniq (.inr (.inr ⟨rfl, i, by rw [HX.out, HY.out]; exact h2, HJ.out⟩))
    clear h1 h2
    go_wp2_with (first | (go_at_call 79; first | ((with_reducible refine (at_any a i _ zz7 (by exact HS.out.1)).mono ?_); rintro e w' ⟨rfl, rfl⟩; rw [HX.out]) | ((with_reducible refine (at_any b i _ zz7 (by exact HS.out.2)).mono ?_); rintro e w' ⟨rfl, rfl⟩; rw [HY.out])))
    go_ret
    exact ⟨rfl, rfl⟩
   have k2 : decide (y < x) = false := decide_eq_false h2
   have HE := Aside0.mk (show x = y by omega)
   clear h1 h2
   go_wp2_with (first | (go_at_call 79; first | ((with_reducible refine (at_any a i _ zz7 (by exact HS.out.1)).mono ?_); rintro e w' ⟨rfl, rfl⟩; rw [HX.out]) | ((with_reducible refine (at_any b i _ zz7 (by exact HS.out.2)).mono ?_); rintro e w' ⟨rfl, rfl⟩; rw [HY.out])))
   go_roundg (gk - 1)
   case measure => have := HI.out; have := HLT.out; omega
   case rel => exact ⟨i + 1, by go_num, ⟨HLT.out, by have := HI.out; omega⟩, ⟨fun j hj => by
    by_cases h : j = i
    ·
     subst h; rw [HX.out, HY.out, HE.out]
    ·
     exact HJ.out j zz7⟩, rfl⟩
  ·
   have hd : decide (i < m) = false := decide_eq_false hlt
   obtain rfl := HC.out.uniq (.inl ⟨rfl, fun j => by
    by_cases h : j < i
    ·
     exact HJ.out j h
    ·
     rw [sq_out a j (by have := HM.out; omega), sq_out b j (by have := HM.out; omega)]⟩)
   go_wp2
   go_ret
   exact ⟨rfl, rfl⟩
end Go.Proofs.Ytgddaddoabjgiaa.Cm
namespace Go.Proofs.Ytgddaddoabjgiaa.Srt
open RowKit YtgddaddoabjgiaaW.PrintWords YtgddaddoabjgiaaW.PrintLast YtgddaddoabjgiaaW.PrintMore Own Sl Bs Go.Proofs.Ytgddaddoabjgiaa.Ord Cm
set_option linter.unusedVariables false
set_option linter.unusedSimpArgs false
noncomputable def cm (a b : ByteArray) : Int := Classical.epsilon (fun c => Cmp (sq a) (sq b) c)
theorem seq_far (l : List Int) (i : Nat) (h : l.length ≤ i) : seq l i = 0 := by
 unfold seq; rw [List.getD_eq_getElem?_getD, List.getElem?_eq_none h]; rfl
theorem cmp_tot (A B : Nat → Int) (n : Nat) (h : ∀ i, n ≤ i → A i = B i) : ∃ c, Cmp A B c := by
 by_cases he : ∀ i, A i = B i
 ·
  exact ⟨0, .inl ⟨rfl, he⟩⟩
 ·
  obtain ⟨i, hi⟩ : ∃ i, A i ≠ B i := Classical.not_forall.1 he
  obtain ⟨i, hi, hm⟩ : ∃ i, A i ≠ B i ∧ ∀ j, j < i → A j = B j := by
   induction i using Nat.strongRecOn with
   | _ i ih =>
     by_cases h2 : ∃ j, j < i ∧ A j ≠ B j
     ·
      obtain ⟨j, hj, hj2⟩ := h2
      exact ih j hj hj2
     ·
      exact ⟨i, hi, fun j hj => Classical.byContradiction fun h3 => h2 ⟨j, hj, h3⟩⟩
  rcases Int.lt_or_gt_of_ne hi with h3 | h3
  ·
   exact ⟨-1, .inr (.inl ⟨rfl, i, h3, hm⟩)⟩
  ·
   exact ⟨1, .inr (.inr ⟨rfl, i, h3, hm⟩)⟩
theorem cm_spec (a b : ByteArray) : Cmp (sq a) (sq b) (cm a b) := by
 refine Classical.epsilon_spec (p := fun c => Cmp (sq a) (sq b) c) (cmp_tot _ _ (a.size + b.size) (fun i h => ?_))
 unfold sq
 rw [seq_far _ i zz70, seq_far _ i zz70]
theorem cm_eq {a b : ByteArray} {c : Int} (h : Cmp (sq a) (sq b) c) : cm a b = c := (cm_spec a b).uniq h
theorem cm_swap (a b : ByteArray) : cm b a = - cm a b := cm_eq (cm_spec a b).swap
theorem clo_any (a b : ByteArray) (w : World) (ha : a.size ≤ 1000000) (hb : b.size ≤ 1000000) :
 Calls Try.prog 56 #[.string a, .string b] w fun e w' => e = .returned (.int .i64 (cm a b)) ∧ w = w' := by
 go_enter Try.func56, Try.ntmps56
 go_wp2_with (first
  | (go_at_call 57
     (with_reducible refine (cmp_any a b (cm a b) _ ha hb (cm_spec a b)).mono ?_)
     rintro e w' ⟨rfl, rfl⟩))
 go_ret
 exact ⟨rfl, rfl⟩
noncomputable def sift (a : Nat) : Nat → List ByteArray → List ByteArray
 | 0, xs => xs
 | j + 1, xs => if a < j + 1 ∧ cm (xs.getD (j + 1) ByteArray.empty) (xs.getD j ByteArray.empty) < 0 then sift a j ((xs.set (j + 1) (xs.getD j ByteArray.empty)).set j (xs.getD (j + 1) ByteArray.empty)) else xs
noncomputable def insF (a : Nat) : Nat → Nat → List ByteArray → List ByteArray
 | _, 0, xs => xs
 | i, m + 1, xs => insF a (i + 1) m (sift a i xs)
theorem sift_len (a : Nat) : ∀ (j : Nat) (xs : List ByteArray), (sift a j xs).length = xs.length
 | 0, xs => rfl
 | j + 1, xs => by unfold sift; split; rw [sift_len a j]; simp; rfl
theorem getD_mem_or (xs : List ByteArray) (i : Nat) (p : ByteArray → Prop) (h : ∀ s, s ∈ xs → p s) (h0 : p ByteArray.empty) : p (xs.getD i ByteArray.empty) := by
 rw [List.getD_eq_getElem?_getD]
 cases hx : xs[i]? with
 | none => exact h0
 | some s => exact h s (List.mem_of_getElem? hx)
theorem set_all {xs : List ByteArray} {i : Nat} {s : ByteArray} {p : ByteArray → Prop} (h : ∀ s, s ∈ xs → p s) (hs : p s) : ∀ x, x ∈ xs.set i s → p x := fun x hx => (List.mem_or_eq_of_mem_set hx).elim (h x) (fun e => e ▸ hs)
theorem str_cell {W : World} {g n i : Nat} {l : List ByteArray} {s : ByteArray} (h : Kd.C Kd.string W (some ⟨g, 0, none⟩) n l) (hi : i < l.length) (hs : l.getD i ByteArray.empty = s) : W.cell? ⟨g, i, none⟩ = some (.string s) := by
 have hn := h.1
 obtain ⟨ad2, e, hx⟩ := Kd.at_string h (i : Int) zz7 zz7
 cases e
 have e2 : rdOf ByteArray.empty l (i : Int) = s := by rw [← hs]; simp [rdOf, hi]
 rw [e2] at hx
 rw [add_plain] at hx
 simpa using hx
theorem row_fz {e : Nat} {w0 w : World} {S : Nat → Prop} {l : List Ast} {g n c : Nat} {xs : List ByteArray} (h : Sp w0 S l w) (k : Nat) (hi : l[k]? = some (row Kd.string e (.slice (some ⟨g, 0, none⟩) n c) xs)) (hn : n = xs.length) (i : Nat) (hlt : i < xs.length) : w.frozen? ⟨g, i, none⟩ = false := by
 subst hn
 have := (Kd.R_cell ByteArray.empty (h.row k hi) (i : Int) zz7 zz7).2
 simpa using this
set_option maxHeartbeats 8000000 in
set_option maxRecDepth 100000 in
theorem ins_any (g c n a b : Nat) (xs : List ByteArray) (w : World) (S : Nat → Prop) (h : Hs w S [row Kd.string 9 (.slice (some ⟨g, 0, none⟩) n c) xs]) (hn : n = xs.length) (ha : a ≤ n) (hb : b ≤ n) (hn2 : n ≤ 100000) (hs : ∀ s, s ∈ xs → s.size ≤ 1000000) :
 Calls Try.prog 91 #[.slice (some ⟨g, 0, none⟩) n c, .int .i64 (a : Int), .int .i64 (b : Int), .func (.func 56) #[] #[]] w fun e w' => e = .returned (.tuple #[]) ∧ Sp w S [row Kd.string 9 (.slice (some ⟨g, 0, none⟩) n c) (insF a (a + 1) (b - (a + 1)) xs)] w' := by
 have hS := Sp.start h
 have HN := Aside0.mk hn2
 have HA := Aside0.mk (And.intro ha hb)
 have hbi : (b : Int) ≤ 100000 := by omega
 have hai : (a : Int) ≤ 100000 := by omega
 obtain ⟨Z, hZ⟩ : ∃ Z, insF a (a + 1) (b - (a + 1)) xs = Z := ⟨_, rfl⟩
 rw [hZ]
 have H0 := Aside0.mk (And.intro hZ (And.intro hn hs))
 clear h hZ hn hs hb hn2 ha
 go_enter Try.func91, Try.ntmps91
 go_wp2
 go_loopg [8] (b + 1) (fun gk v8 wr => ∃ (i : Nat) (ys : List ByteArray), v8 = .int .i64 (i : Int) ∧ Aside0 (i ≤ n + 1 ∧ b - i < gk ∧ insF a i (b - i) ys = Z ∧ n = ys.length ∧ ∀ s, s ∈ ys → s.size ≤ 1000000) ∧ Aside0 (Sp w S [row Kd.string 9 (.slice (some ⟨g, 0, none⟩) n c) ys] wr))
 case atStart => exact ⟨a + 1, xs, zz43, ⟨by have := HA.out; omega, zz7, H0.out.1, H0.out.2.1, H0.out.2.2⟩, ⟨hS⟩⟩
 case round =>
  clear hS H0
  obtain ⟨i, ys, rfl, HI, HS⟩ := hrel
  have hS := HS.out
  clear HS
  obtain ⟨gko, hgko⟩ : ∃ q, q = gk := ⟨_, rfl⟩
  rw [← hgko] at HI
  have hi0 : (0 : Int) ≤ (i : Int) := by omega
  have hi1 : (i : Int) ≤ 100001 := by have := HI.out.1; have := HN.out; omega
  by_cases hlt : i < b
  case neg =>
   have hd : decide (i < b) = false := decide_eq_false hlt
   have HZ := Aside0.mk (show ys = Z by have := HI.out.2.2.1; rw [show b - i = 0 by omega] at this; exact this)
   go_wp2
   go_end0
   obtain rfl := HZ.out
   exact ⟨rfl, hS⟩
  have hd : decide (i < b) = true := decide_eq_true hlt
  obtain ⟨Y, hY⟩ : ∃ Y, sift a i ys = Y := ⟨_, rfl⟩
  have HY := Aside0.mk (show insF a (i + 1) (b - (i + 1)) Y = Z by
   have := HI.out.2.2.1
   rw [show b - i = (b - (i + 1)) + 1 by omega] at this
   rw [← hY]; exact this)
  have HLT := Aside0.mk hlt
  have H1 := Aside0.mk (And.intro hY (And.intro HI.out.2.2.2.1 HI.out.2.2.2.2))
  have HIB := Aside0.mk (And.intro HI.out.1 HI.out.2.1)
  clear hY hlt HI
  go_wp2
  go_loopg [9] (i + 1) (fun gk v9 wr => ∃ (j : Nat) (zs : List ByteArray), v9 = .int .i64 (j : Int) ∧ Aside0 (j ≤ i ∧ j < gk ∧ sift a j zs = Y ∧ n = zs.length ∧ ∀ s, s ∈ zs → s.size ≤ 1000000) ∧ Aside0 (Sp w S [row Kd.string 9 (.slice (some ⟨g, 0, none⟩) n c) zs] wr))
  case atStart => exact ⟨i, ys, zz43, ⟨Nat.le_refl _, zz7, H1.out.1, H1.out.2.1, H1.out.2.2⟩, ⟨hS⟩⟩
  case round =>
   clear hS H1 hd
   obtain ⟨j, zs, rfl, HJ, HS⟩ := hrel
   have hS := HS.out
   clear HS
   have hj0 : (0 : Int) ≤ (j : Int) := by omega
   have hj1 : (j : Int) ≤ 100001 := by have := HJ.out.1; omega
   by_cases hja : a < j
   case neg =>
    have hd : decide (a < j) = false := decide_eq_false hja
    have HZ := Aside0.mk (show zs = Y by
     have := HJ.out.2.2.1
     cases j with
     | zero => exact this
     | succ j => unfold sift at this; rw [if_neg (fun h => hja h.1)] at this; exact this)
    clear hja
    go_wp2
    go_quiet (fail)
    go_wp2
    go_roundg (gko - 1)
    case measure => have := HIB.out; have := HLT.out; omega
    case rel => exact ⟨i + 1, Y, zz43, ⟨by have := HLT.out; have := HA.out; omega, by have := HIB.out; have := HLT.out; omega, HY.out, by rw [← HZ.out]; exact HJ.out.2.2.2.1, by rw [← HZ.out]; exact HJ.out.2.2.2.2⟩, ⟨by rw [← HZ.out]; exact hS.lt⟩⟩
   have hd : decide (a < j) = true := decide_eq_true hja
   obtain ⟨p, rfl⟩ : ∃ p, j = p + 1 := ⟨j - 1, zz7⟩
   obtain ⟨q, hq⟩ : ∃ q, p + 1 = q := ⟨_, rfl⟩
   have hsi := HJ.out.2.2.1
   obtain ⟨x, hx⟩ : ∃ x, zs.getD (p + 1) ByteArray.empty = x := ⟨_, rfl⟩
   obtain ⟨y, hy⟩ : ∃ y, zs.getD p ByteArray.empty = y := ⟨_, rfl⟩
   unfold sift at hsi
   rw [hx, hy] at hsi
   have hpl : p + 1 < zs.length := by have := HJ.out; have := HLT.out; have := HA.out; omega
   have hxs : x.size ≤ 1000000 := by rw [← hx]; exact getD_mem_or zs _ _ HJ.out.2.2.2.2 zz13
   have hys : y.size ≤ 1000000 := by rw [← hy]; exact getD_mem_or zs _ _ HJ.out.2.2.2.2 zz13
   have hcx := str_cell (hS.reads 0) hpl hx
   have hcy := str_cell (hS.reads 0) (show p < zs.length by omega) hy
   rw [hq] at hcx hsi hja hd hpl ⊢
   have hqn : (q : Int) < (n : Int) := by have := HJ.out.2.2.2.1; omega
   have hpn : (p : Int) < (n : Int) := by have := HJ.out.2.2.2.1; omega
   have hqp : (q : Int) - 1 = (p : Int) := by omega
   have hqw : IntKind.i64.wrap (p : Int) = (p : Int) := by rw [IntKind.wrap_i64]; omega
   have hq0 : (0 : Int) ≤ (q : Int) := by omega
   have hp0 : (0 : Int) ≤ (p : Int) := by omega
   obtain ⟨k, hk⟩ : ∃ k, cm x y = k := ⟨_, rfl⟩
   have HCL := Aside0.mk (fun W => clo_any x y W hxs hys)
   rw [hk] at HCL hsi
   have HJ2 := Aside0.mk (show q ≤ i ∧ q < gk + 1 ∧ n = zs.length ∧ (∀ s, s ∈ zs → s.size ≤ 1000000) ∧ p + 1 = q by have := HJ.out; exact ⟨zz7, zz7, this.2.2.2.1, this.2.2.2.2, hq⟩)
   have HGK := Aside0.mk (show q < gk by have := HJ.out; omega)
   have HXY := Aside0.mk (And.intro hxs hys)
   have HX := Aside0.mk (show zs.getD q ByteArray.empty = x by rw [← hq]; exact hx)
   have HXv := Aside0.mk hy
   by_cases hk0 : k < 0
   ·
    have hd2 : decide (k < 0) = true := decide_eq_true hk0
    rw [if_pos ⟨hja, hk0⟩] at hsi
    have HSI := Aside0.mk hsi
    clear hsi hja hk0 hq hk hx hy hxs hys HJ hj0 hj1
    go_wp2
    go_quiet ((go_at_call 56; exact qleft (HCL.out _)))
    go_wp2
    clear hd2 hcx hcy
    replace hS : Sp w S _ (wr.drewN nq) := hS.lt
    generalize wr.drewN nq = W1 at hS ⊢
    have hcx := str_cell (hS.reads 0) hpl HX.out
    have hcy := str_cell (hS.reads 0) (show p < zs.length by omega) HXv.out
    have hfx := row_fz hS 0 rfl HJ2.out.2.2.1 q hpl
    have hfy := row_fz hS 0 rfl HJ2.out.2.2.1 p zz7
    go_region
    go_wp2
    have hS2 := (hS.rset 0 rfl HJ2.out.2.2.1 q y).rset 0 rfl (by rw [List.length_set]; exact HJ2.out.2.2.1) p x
    go_roundg (gk - 1)
    case measure => have := HGK.out; omega
    case rel => exact ⟨p, (zs.set q y).set p x, zz43, ⟨by have := HJ2.out; omega, by have := HJ2.out; have := HGK.out; omega, HSI.out, by simp; exact HJ2.out.2.2.1, set_all (set_all HJ2.out.2.2.2.1 HXY.out.2) HXY.out.1⟩, ⟨by exact Sp.lt (Sp.sel (l2 := [row Kd.string 9 (.slice (some ⟨g, 0, none⟩) n c) ((zs.set q y).set p x)]) hS2 [0])⟩⟩
   ·
    have hd2 : decide (k < 0) = false := decide_eq_false hk0
    rw [if_neg (fun h => hk0 h.2)] at hsi
    have HSI := Aside0.mk hsi
    clear hsi hja hk0 hq hk hx hy hxs hys HJ hj0 hj1
    go_wp2
    go_quiet ((go_at_call 56; exact qleft (HCL.out _)))
    go_wp2
    go_roundg (gko - 1)
    case measure => have := HIB.out; have := HLT.out; omega
    case rel => exact ⟨i + 1, Y, zz43, ⟨by have := HLT.out; have := HA.out; omega, by have := HIB.out; have := HLT.out; omega, HY.out, by rw [← HSI.out]; exact HJ2.out.2.2.1, by rw [← HSI.out]; exact HJ2.out.2.2.2.1⟩, ⟨by rw [← HSI.out]; exact hS.lt⟩⟩
end Go.Proofs.Ytgddaddoabjgiaa.Srt
