/- The plain law of IdentSizes: how many bytes an identifier has, and what class and form change in it. -/
import Derived.Test.YtiohngikhchgeaaAId
import Derived.Lib.Bytes
import Derived.Test.YtiohngikhchgeaaPAx8
namespace Go.Proofs.Ytiohngikhchgeaa.Pure
open Go.RowKit Go.Proofs.Ytiohngikhchgeaa.PA Go.Proofs.YtiohngikhchgeaaW.PrintWords Go.Proofs.YtiohngikhchgeaaW.PrintLast Go.Proofs.YtiohngikhchgeaaW.PrintMore
open Go.Proofs.Ytiohngikhchgeaa.Idm Go.Proofs.Ytiohngikhchgeaa.BId Go.Proofs.Ytiohngikhchgeaa.AId

/-- What is compared behind the counting. -/
theorem bt_zero (l : List Int) (x : Int) (h : Bytes (x :: l)) : bt (strOfNums (x :: l)) 0 = x := by
  rw [← rd_bytesOf, bytesOf_nums _ h]; rfl
theorem tail_same (c t : Int) (cons : Bool) : (strOfNums (enc c t cons)).extract 1 (strOfNums (enc c t cons)).size = (strOfNums (enc 0 t false)).extract 1 (strOfNums (enc 0 t false)).size := by
  refine ByteArray.ext ?_
  rw [ByteArray.data_extract, ByteArray.data_extract, strOfNums_size, strOfNums_size]
  unfold strOfNums enc
  split
  · simp
  · simp
theorem count_step (k : Nat) (b q : ByteArray) (n x c t : Int) (cons : Bool) (l : Int) (h0 : 0 < x) (hx : x ≤ 268435455) (hn : 0 ≤ n) (hn' : n < 100) :
    gantletlaw05_IdentSizes.l0 (k + 1) b q n x c t cons l = gantletlaw05_IdentSizes.l0 k b q (n + 1) (x / 128) c t cons l := by
  conv => lhs; unfold gantletlaw05_IdentSizes.l0
  rw [if_pos h0, w64 (by omega) (by omega), Int.tdiv_eq_ediv_of_nonneg (by omega), w64 (by omega) (by omega)]
theorem ends (k : Nat) {c t : Int} (cons : Bool) (l : Int) (hv : Valid c t) (n : Int) (hn : n = ((enc c t cons).length : Int)) (hn' : n = ((enc 0 t false).length : Int)) :
    gantletlaw05_IdentSizes.l0 (k + 1) (strOfNums (enc c t cons)) (strOfNums (enc 0 t false)) n 0 c t cons l = some true := by
  have v0 : Valid 0 t := ⟨by omega, by omega, hv.2.2.1, hv.2.2.2⟩
  have h1 := enc_len c t cons
  have h2 := enc_len 0 t false
  have b1 := enc_bytes (cons := cons) hv
  have b2 := enc_bytes (cons := false) v0
  obtain ⟨x, r, hx, hxv⟩ : ∃ x r, enc c t cons = x :: r ∧ x = 64 * c + 32 * cb cons + (if t < 31 then t else 31) := by
    unfold enc; split
    · exact ⟨_, _, rfl, rfl⟩
    · exact ⟨_, _, rfl, rfl⟩
  obtain ⟨y, s, hy, hyv⟩ : ∃ y s, enc 0 t false = y :: s ∧ y = (if t < 31 then t else 31) := by
    unfold enc; split
    · exact ⟨_, _, rfl, by simp [cb]⟩
    · exact ⟨_, _, rfl, by simp [cb]⟩
  have hc := cb_range cons
  have e1 : bt (strOfNums (enc c t cons)) 0 = x := by rw [hx]; rw [hx] at b1; exact bt_zero _ _ b1
  have e2 : bt (strOfNums (enc 0 t false)) 0 = y := by rw [hy]; rw [hy] at b2; exact bt_zero _ _ b2
  have hz1 : (strOfNums (enc c t cons)).size = (enc c t cons).length := strOfNums_size _
  have hz2 : (strOfNums (enc 0 t false)).size = (enc 0 t false).length := strOfNums_size _
  obtain ⟨c0, c3, t0, tm⟩ := hv
  conv => lhs; unfold gantletlaw05_IdentSizes.l0
  rw [if_neg (by decide), if_pos (by omega), if_pos (by omega), if_pos (by omega), if_pos (by omega), if_pos (by rw [tail_same]), if_pos (by omega), if_pos (by omega), e1, e2]
  have hxr : 0 ≤ x ∧ x < 256 := by subst hxv; split <;> omega
  have hyr : 0 ≤ y ∧ y < 32 := by subst hyv; split <;> omega
  rw [w64 (x := x) (by omega) (by omega), w64 (x := y) (by omega) (by omega), Int.tmod_eq_emod_of_nonneg hxr.1, Int.tmod_eq_emod_of_nonneg hyr.1, Int.tdiv_eq_ediv_of_nonneg hxr.1, Int.tdiv_eq_ediv_of_nonneg hxr.1, w64 (x := x / 64) (by omega) (by omega), w64 (x := x / 32) (by omega) (by omega), Int.tmod_eq_emod_of_nonneg (by omega)]
  have ex : x = 64 * c + 32 * cb cons + y := by rw [hxv, hyv]
  rw [if_pos (by omega), if_pos (by omega), cb_beq cons _ (by omega)]
  simp
theorem sizes_main (c t : Int) (cons : Bool) (l : Int) (hv : Valid c t) : gantletlaw05_IdentSizes.f 1000 c t cons l = some true := by
  have v0 : Valid 0 t := ⟨by omega, by omega, hv.2.2.1, hv.2.2.2⟩
  have h1 := enc_len c t cons
  have hz1 : (strOfNums (enc c t cons)).size = (enc c t cons).length := strOfNums_size _
  unfold gantletlaw05_IdentSizes.f
  rw [awake_ok 1000 (by decide), put_ok 992 cons l hv]
  simp only [Option.bind_some, if_true]
  rw [show (((strOfNums (enc c t cons)).size : Int) == 0) = false by rw [beq_eq_false_iff_ne]; omega]
  simp only [gantletlaw05_IdentSizes.j0, Bool.false_eq_true, if_false]
  rw [put_ok 991 false 0 v0]
  simp only [Option.bind_some]
  obtain ⟨c0, c3, t0, tm⟩ := hv
  have hv : Valid c t := ⟨c0, c3, t0, tm⟩
  by_cases h31 : t ≥ 31
  · rw [if_pos h31, count_step 998 _ _ _ _ _ _ _ _ (by omega) (by omega) (by omega) (by omega)]
    by_cases g1 : t < 128
    · rw [show t / 128 = 0 by omega]
      refine ends _ cons l hv _ ?_ ?_ <;> (unfold enc grp; rw [if_neg (by omega), if_pos g1]; rfl)
    rw [count_step 997 _ _ _ _ _ _ _ _ (by omega) (by omega) (by omega) (by omega)]
    by_cases g2 : t < 16384
    · rw [show t / 128 / 128 = 0 by omega]
      refine ends _ cons l hv _ ?_ ?_ <;> (unfold enc grp; rw [if_neg (by omega), if_neg g1, if_pos g2]; rfl)
    rw [count_step 996 _ _ _ _ _ _ _ _ (by omega) (by omega) (by omega) (by omega)]
    by_cases g3 : t < 2097152
    · rw [show t / 128 / 128 / 128 = 0 by omega]
      refine ends _ cons l hv _ ?_ ?_ <;> (unfold enc grp; rw [if_neg (by omega), if_neg g1, if_neg g2, if_pos g3]; rfl)
    rw [count_step 995 _ _ _ _ _ _ _ _ (by omega) (by omega) (by omega) (by omega), show t / 128 / 128 / 128 / 128 = 0 by omega]
    refine ends _ cons l hv _ ?_ ?_ <;> (unfold enc grp; rw [if_neg (by omega), if_neg g1, if_neg g2, if_neg g3]; rfl)
  · rw [if_neg h31]
    have := ends 500 cons l hv 1 (by unfold enc; rw [if_pos (by omega)]; rfl) (by unfold enc; rw [if_pos (by omega)]; rfl)
    conv at this => lhs; unfold gantletlaw05_IdentSizes.l0
    rw [if_neg (by decide)] at this
    exact this
theorem IdentSizes (c t : Int) (cons : Bool) (l : Int) (_ : (Lit.int .i64 c).wf = true) (_ : (Lit.int .i64 t).wf = true) (_ : (Lit.int .i64 l).wf = true) :
    ∃ k, gantletlaw05_IdentSizes.f k c t cons l = some true := by
  refine ⟨1000, ?_⟩
  by_cases hv : Valid c t
  · exact sizes_main c t cons l hv
  · unfold gantletlaw05_IdentSizes.f
    rw [awake_ok 1000 (by decide), put_bad 999 cons l hv]
    simp only [Option.bind_some, if_true]
    rw [if_neg (by decide)]
    simp only [gantletlaw05_IdentSizes.j0, if_true]
    rw [awake_ok 999 (by decide)]; rfl
end Go.Proofs.Ytiohngikhchgeaa.Pure
