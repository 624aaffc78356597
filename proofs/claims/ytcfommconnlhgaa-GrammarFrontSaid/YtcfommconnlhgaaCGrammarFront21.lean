/- The row of GrammarFront: for every input the law returns true; no condition. Made small by a program of this session (pack.py). -/
import Derived.Below
import Derived.ChangeOld
import Derived.Lib.SmallJoins
import Derived.OpenShut
import Derived.ProofKit
import Derived.ShutString
import Derived.SizedLaws
import Derived.Test.YtcfommconnlhgaaRows
import Derived.WalkKit
import Derived.Test.YtcfommconnlhgaaCGrammarFront2
import Derived.Test.YtcfommconnlhgaaCGrammarFront20
namespace Go.Proofs.Ytcfommconnlhgaa.Gm
open RowKit PC YtcfommconnlhgaaW.PrintWords YtcfommconnlhgaaW.PrintLast YtcfommconnlhgaaW.PrintMore Own Sl
open Bs Vp
set_option linter.unusedVariables false
set_option linter.unusedSimpArgs false
theorem gv1 : wholeG (mn (mx 9 0) 64).toNat (bytesOf (⟨#[2, 1, 1]⟩ : ByteArray)) = (8, 1) := by decide +kernel
theorem gv2 : wholeG (mn (mx 9 0) 64).toNat (bytesOf (⟨#[48, 0]⟩ : ByteArray)) = (8, 1) := by decide +kernel
theorem gwhole_at (a : ByteArray) (d x y : Int) (h : wholeG (mn (mx d 0) 64).toNat (bytesOf a) = (x, y)) (hs : a.size ≤ 700) (w : World) :
 Calls Try.prog 13 #[.string a, .int .i64 d] w fun e w' => e = .returned (.tuple #[.int .i64 x, .int .i64 y]) ∧ Upd None0 w w' := by
 have := gwhole_any a d w hs
 rw [h] at this
 exact this
def aw1 : Ev := ⟨1, 1, ⟨0, 16, true, 9⟩, 0⟩
def aw2 : Ev := ⟨1, 3, ⟨0, 16, true, 7⟩, 0⟩
def aw3 : Ev := ⟨2, 5, ⟨0, 2, false, 2⟩, 0⟩
def as1 : Gs := ⟨[(1, 0)], 0, false⟩
def as2 : Gs := ⟨[(2, 0), (1, 2)], 0, false⟩
theorem al1 : lookG g0 aw1 = (as1, 1) := rfl
theorem al2 : lookG as1 aw2 = (as2, 2) := rfl
theorem al3 : (lookG as2 aw3).2 = 0 := rfl
theorem ao1 : okD 0 false aw1 := ⟨zz8, fun _ _ => rfl, fun h => absurd (show (1 : Int) = 5 from h) zz8, fun _ => rfl, fun h => absurd (show (1 : Int) = 2 from h) zz8⟩
theorem ao2 : okD 1 true aw2 := ⟨zz8, fun _ h => absurd h zz8, fun h => absurd (show (1 : Int) = 5 from h) zz8, fun _ => rfl, fun h => absurd (show (1 : Int) = 2 from h) zz8⟩
theorem ao3 : okD 2 true aw3 := ⟨zz8, fun _ h => absurd h zz8, fun h => absurd (show (2 : Int) = 5 from h) zz8, fun h => absurd (show (2 : Int) = 1 from h) zz8, fun _ => rfl⟩
theorem ak1 : Okg as1 1 := by
 have := look_ok okg0 ao1 (by rw [al1]; show (1 : Int) ≠ 0; decide)
 rw [al1] at this
 exact this
theorem ak2 : Okg as2 2 := by
 have := look_ok ak1 ao2 (by rw [al2]; show (2 : Int) ≠ 0; decide)
 rw [al2] at this
 exact this
theorem ap1 (g : Nat) (w : World) (S : Nat → Prop) (h : Hs w S [gk g (some g0)]) : Calls Try.prog 10 #[.pointer (some ⟨g, 0, none⟩), .agg #[.int .i64 1, .int .i64 1, .int .i64 0, .int .i64 16, .bool true, .int .i64 9, .int .u8 0]] w fun e' w' => e' = .returned (.tuple #[.int .i64 1, .int .i64 0]) ∧ Sp w S [gk g (some as1)] w' := by
 have := gpush_ev g g0 0 false aw1 okg0 zz8 ao1 w S h
 unfold nextS at this
 rw [al1] at this
 exact this
theorem ap2 (g : Nat) (w : World) (S : Nat → Prop) (h : Hs w S [gk g (some as1)]) : Calls Try.prog 10 #[.pointer (some ⟨g, 0, none⟩), .agg #[.int .i64 1, .int .i64 3, .int .i64 0, .int .i64 16, .bool true, .int .i64 7, .int .u8 0]] w fun e' w' => e' = .returned (.tuple #[.int .i64 2, .int .i64 0]) ∧ Sp w S [gk g (some as2)] w' := by
 have := gpush_ev g as1 1 true aw2 ak1 zz8 ao2 w S h
 unfold nextS at this
 rw [al2] at this
 exact this
theorem ap3 (g : Nat) (w : World) (S : Nat → Prop) (h : Hs w S [gk g (some as2)]) : Calls Try.prog 10 #[.pointer (some ⟨g, 0, none⟩), .agg #[.int .i64 2, .int .i64 5, .int .i64 0, .int .i64 2, .bool false, .int .i64 2, .int .u8 0]] w fun e' w' => e' = .returned (.tuple #[.int .i64 0, .int .i64 8]) ∧ Sp w S [gk g none] w' := by
 have := gpush_ev g as2 2 true aw3 ak2 zz8 ao3 w S h
 unfold nextS at this
 rw [al3] at this
 exact this
set_option maxHeartbeats 4000000 in
set_option maxRecDepth 100000 in
theorem gawake_any (w : World) :
 Calls Try.prog 7 #[] w fun e w' => e = .returned (.bool true) ∧ Upd None0 w w' := by
 have hS := Sp.nil (w := w) (S := None0)
 have H1 := Aside0.mk (gwhole_at _ _ _ _ gv1 zz8)
 have H2 := Aside0.mk (gwhole_at _ _ _ _ gv2 zz8)
 have P1 := Aside0.mk ap1
 have P2 := Aside0.mk ap2
 have P3 := Aside0.mk ap3
 go_enter Try.func7, Try.ntmps7
 go_wp2_with (first
  | (go_at_call 13
     first
     | ((with_reducible refine (H1.out _).mono ?_)
        rintro e w4 ⟨rfl, hun⟩
        replace hS := hS.toN hun)
     | ((with_reducible refine (H2.out _).mono ?_)
        rintro e w4 ⟨rfl, hun⟩
        replace hS := hS.toN hun))
  | (go_at_call 6
     (with_reducible refine (gnew_any _).mono ?_)
     rintro e w5 ⟨gg, rfl, hq⟩
     replace hS := hS.post0 (hq.mo (fun _ h => h.elim)))
  | (go_at_call 10
     first
     | ((with_reducible refine (P1.out gg _ (hS.ft 1) zz28).mono ?_)
        rintro e w6 ⟨rfl, hq⟩
        replace hS := hS.post1 hq)
     | ((with_reducible refine (P2.out gg _ (hS.ft 1) zz28).mono ?_)
        rintro e w6 ⟨rfl, hq⟩
        replace hS := hS.post1 hq)
     | ((with_reducible refine (P3.out gg _ (hS.ft 1) zz28).mono ?_)
        rintro e w6 ⟨rfl, hq⟩
        replace hS := hS.post1 hq)))
 go_ret
 exact ⟨rfl, Sp.u zz25⟩
end Go.Proofs.Ytcfommconnlhgaa.Gm
namespace Go.Proofs.Ytcfommconnlhgaa.Gm
open RowKit PC YtcfommconnlhgaaW.PrintWords YtcfommconnlhgaaW.PrintLast YtcfommconnlhgaaW.PrintMore Own Sl
open Bs Vp
set_option linter.unusedVariables false
set_option linter.unusedSimpArgs false
set_option maxHeartbeats 4000000 in
set_option maxRecDepth 100000 in
theorem gfront_any (a : ByteArray) (n d : Int) (w : World) (hsz : a.size ≤ 140737488351232) :
 Calls Try.prog 5 #[.string a, .int .i64 n, .int .i64 d] w fun e w' => e = .returned (.bool true) ∧ Below w.heap.size w w' := by
 have hS := Sp.nil (w := w) (S := None0)
 have HAW := Aside0.mk gawake_any
 by_cases h1 : 500 < a.size
 ·
  have d1 : decide (500 < a.size) = true := decide_eq_true h1
  have d1' : decide ((500 : Int) < (a.size : Int)) = true := decide_eq_true zz4
  clear hsz h1
  go_enter Try.func5, Try.ntmps5
  go_wp2_with (first
   | (go_at_call 7
      (with_reducible refine (HAW.out _).mono ?_)
      rintro e w4 ⟨rfl, hun⟩
      replace hS := hS.toN hun))
  go_ret
  exact ⟨rfl, (Sp.u zz25).below0⟩
 have d1 : decide (500 < a.size) = false := decide_eq_false h1
 have d1' : decide ((500 : Int) < (a.size : Int)) = false := decide_eq_false zz4
 by_cases h2 : n < 0
 ·
  have d2 : decide (n < 0) = true := decide_eq_true h2
  clear hsz h1 h2
  go_enter Try.func5, Try.ntmps5
  go_wp2_with (first
   | (go_at_call 7
      (with_reducible refine (HAW.out _).mono ?_)
      rintro e w4 ⟨rfl, hun⟩
      replace hS := hS.toN hun))
  go_ret
  exact ⟨rfl, (Sp.u zz25).below0⟩
 have d2 : decide (n < 0) = false := decide_eq_false h2
 by_cases h3 : (a.size : Int) < n
 ·
  have d3 : decide ((a.size : Int) < n) = true := decide_eq_true h3
  clear hsz h1 h2 h3
  go_enter Try.func5, Try.ntmps5
  go_wp2_with (first
   | (go_at_call 7
      (with_reducible refine (HAW.out _).mono ?_)
      rintro e w4 ⟨rfl, hun⟩
      replace hS := hS.toN hun))
  go_ret
  exact ⟨rfl, (Sp.u zz25).below0⟩
 have d3 : decide ((a.size : Int) < n) = false := decide_eq_false h3
 obtain ⟨m, rfl⟩ : ∃ m : Nat, n = (m : Int) := ⟨n.toNat, zz4⟩
 obtain ⟨⟨e, at_⟩, hw1⟩ : ∃ q, wholeG (mn (mx d 0) 64).toNat (bytesOf a) = q := ⟨_, rfl⟩
 obtain ⟨⟨f, on⟩, hw2⟩ : ∃ q, wholeG (mn (mx d 0) 64).toNat (bytesOf (a.extract 0 m)) = q := ⟨_, rfl⟩
 have H1 := Aside0.mk (gwhole_at a d e at_ hw1 zz4)
 have H2 := Aside0.mk (gwhole_at (a.extract 0 m) d f on hw2 (by rw [ByteArray.size_extract]; omega))
 have hfr := wholeG_front (mn (mx d 0) 64).toNat ((bytesOf a).take m) ((bytesOf a).drop m) (fun x hx => bytes_of a x (List.mem_of_mem_take hx)) (fun x hx => bytes_of a x (List.mem_of_mem_drop hx)) e at_ f on (by rw [List.take_append_drop]; exact hw1) (by rw [← bytesOf_front]; exact hw2)
 rw [show (((bytesOf a).take m).length : Int) = (m : Int) by rw [List.length_take, bytesOf_length]; omega] at hfr
 have hm0 : (0 : Int) ≤ (m : Int) := by omega
 have hma : (m : Int) ≤ (a.size : Int) := by omega
 have hmn : m ≤ a.size := by omega
 clear hw1 hw2 hsz h1 h2 h3
 by_cases ho : on < (m : Int)
 ·
  rw [if_pos ho] at hfr
  obtain ⟨rfl, rfl⟩ := hfr
  have d4 : decide (on < (m : Int)) = true := decide_eq_true ho
  clear ho
  go_enter Try.func5, Try.ntmps5
  go_wp2_with (first
   | (go_at_call 7
      (with_reducible refine (HAW.out _).mono ?_)
      rintro e w4 ⟨rfl, hun⟩
      replace hS := hS.toN hun)
   | (go_at_call 13
      first
      | ((with_reducible refine (H1.out _).mono ?_)
         rintro e w4 ⟨rfl, hun⟩
         replace hS := hS.toN hun)
      | ((with_reducible refine (H2.out _).mono ?_)
         rintro e w4 ⟨rfl, hun⟩
         replace hS := hS.toN hun)))
  go_ret
  exact ⟨zz19, (Sp.u zz25).below0⟩
 rw [if_neg ho] at hfr
 have d4 : decide (on < (m : Int)) = false := decide_eq_false ho
 obtain ⟨q1, q2, q3⟩ := hfr
 subst q1
 clear ho
 have hcd : ∀ x : Int, decide ((m : Int) ≤ x) = decide ((m : Int) ≤ x) := fun _ => rfl
 by_cases he : e = 0
 ·
  subst he
  rcases q2 with rfl | rfl
  all_goals
   go_enter Try.func5, Try.ntmps5
   go_wp2_with (first
    | (go_at_call 7
       (with_reducible refine (HAW.out _).mono ?_)
       rintro e w4 ⟨rfl, hun⟩
       replace hS := hS.toN hun)
    | (go_at_call 13
       first
       | ((with_reducible refine (H1.out _).mono ?_)
          rintro e w4 ⟨rfl, hun⟩
          replace hS := hS.toN hun)
       | ((with_reducible refine (H2.out _).mono ?_)
          rintro e w4 ⟨rfl, hun⟩
          replace hS := hS.toN hun)))
   go_ret
   exact ⟨by first | rfl | simp, (Sp.u zz25).below0⟩
 ·
  have d5 : (e == 0) = false := by simpa using he
  have h6 : (m : Int) ≤ at_ := q3.resolve_left he
  have d6 : decide ((m : Int) ≤ at_) = true := decide_eq_true h6
  clear q3
  rcases q2 with rfl | rfl
  all_goals
   go_enter Try.func5, Try.ntmps5
   go_wp2_with (first
    | (go_at_call 7
       (with_reducible refine (HAW.out _).mono ?_)
       rintro e w4 ⟨rfl, hun⟩
       replace hS := hS.toN hun)
    | (go_at_call 13
       first
       | ((with_reducible refine (H1.out _).mono ?_)
          rintro e w4 ⟨rfl, hun⟩
          replace hS := hS.toN hun)
       | ((with_reducible refine (H2.out _).mono ?_)
          rintro e w4 ⟨rfl, hun⟩
          replace hS := hS.toN hun)))
   go_ret
   exact ⟨by first | rfl | simp, (Sp.u zz25).below0⟩
end Go.Proofs.Ytcfommconnlhgaa.Gm
namespace Go.Proofs.Ytcfommconnlhgaa.grammarFront
open Go.ChangeShapes Go.WideShapes Go.ChangeAt RowKit Go.Joins
open Go.ChangeMaps (open_string shut_string)
set_option linter.unusedVariables false
set_option linter.unusedSimpArgs false
theorem own : ownKnob Try.prog.godebug = none := by kernel_rfl
theorem laidOut : laidOutB Try.prog = true := by kernel_rfl
set_option maxRecDepth 100000 in
theorem lifted (os : Os) (started : os.Started) (H : Type) (enc : TypeId × Value → H) :
 ReturnsInHanded {} Try.checked os 5 .any (Rows.grammarFrontSpec.pre6 enc Try.prog Try.f5 Rows.grammarFrontRow.domain false) (Rows.grammarFrontSpec.post enc Try.prog Try.f5 false true false false) := by
 refine returnsInHanded_of_change_sized (C := Try.checked) own started zz5 Try.func5
  (ChangeSpec.witness6 (enc := enc) (C := Try.checked) false ⟨#[], #[.string ByteArray.empty, .int .i64 0, .int .i64 0], []⟩ 8 zz5 zz5 zz5 zz5) ?_
 intro W base args ds gs before hval0 hW hcnd hsz0 _
 have hsz : (DataW.weightsEach Try.prog (Try.f5.params.toList ++ Rows.grammarFrontSpec.plain.varTypes Try.prog) (ds ++ gs)).all (· ≤ reachBytes) = true := hsz0
 have hval : ∀ (j : Nat) t v, Try.f5.params[j]? = some t → args[j]? = some v → Value.okWide Try.prog W .any base t v := hval0
 have hW' := hW
 obtain ⟨p, q, hA0, hV, rfl, hfz, hnd⟩ := hW
 have hA : DataW.TrodAll enc Try.prog W 0 (fun _ => true) true Try.f5.params.toList args.toList ds p := hA0
 rw [Try.params5] at hA hval hsz
 obtain ⟨v0, vs0, d0, ds0, p0, q0, hargs, rfl, rfl, h0, r0⟩ := trodAll_cons hA
 obtain ⟨v1, vs1, d1, ds1, p1, q1, rfl, rfl, rfl, h1, r1⟩ := trodAll_cons r0
 obtain ⟨v2, vs2, d2, ds2, p2, q2, rfl, rfl, rfl, h2, r2⟩ := trodAll_cons r1
 obtain ⟨rfl, rfl, rfl⟩ := trodAll_nil r2
 obtain rfl : args = #[v0, v1, v2] := by cases args; simp_all
 obtain ⟨rfl, rfl⟩ := trodVars_none hV
 obtain ⟨a0, rfl, rfl, rfl, y0⟩ := open_string Try.underlying9 (hval 0 9 v0 rfl rfl) h0
 have w0 : a0.size ≤ 140737488351232 := by
  have z := sized_string hsz (j := 0) (t := 9) rfl rfl
  rw [Array.length_toList] at z
  exact z
 obtain ⟨a1, rfl, rfl, rfl, w1⟩ := open_int Try.underlying3 (hval 1 3 v1 rfl rfl) h1
 obtain ⟨a2, rfl, rfl, rfl, w2⟩ := open_int Try.underlying3 (hval 2 3 v2 rfl rfl) h2
 clear hA0 hval0 hsz0 hsz
 refine (Gm.gfront_any a0 a1 a2 W w0).mono fun e W' ⟨he, bel⟩ => ?_
 subst he
 exact ⟨_, rfl, _, _, _, [], _, [], hW', trodAll_mk1 (shut_bool Try.underlying4 _), (trodAll_cons_mk (shut_string Try.underlying9 y0) (trodAll_cons_mk (shut_int Try.underlying3 w1) (trodAll_cons_mk (shut_int Try.underlying3 w2) trodAll_mk0))), rfl, bel.frame _, fun h => by cases h⟩
theorem over : Rows.grammarFrontRow.holds Try.pinned (OpenSpec.ofChange Rows.grammarFrontSpec) :=
 OpenClaim.holds_of_wide 5 Try.f5 rfl rfl rfl rfl rfl rfl rfl ⟨rfl, rfl, rfl, rfl, rfl⟩ rfl rfl rfl rfl rfl zz5 Try.func5 zz5
  (of_decide_eq_true zz5) (by unfold Func.isWrapper; first | (rw [if_pos (by decide +kernel)]; kernel_rfl) | (rw [if_neg (by decide +kernel)]; exact ⟨rfl, rfl⟩))
  (fun os started H enc _ => lifted os started H enc)
theorem proved : Rows.GrammarFrontSaid := over
#print axioms proved
end Go.Proofs.Ytcfommconnlhgaa.grammarFront
namespace Go.Proofs.Ytcfommconnlhgaa
theorem grammarFront_holds : Rows.GrammarFrontSaid := grammarFront.proved
end Go.Proofs.Ytcfommconnlhgaa
