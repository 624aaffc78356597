/- The law OrderStops, walked by hand over the sorter's contracts. Conditions: the list is no longer than the row has it. -/
import Derived.Test.YtpiejdncoeldeaaSorA
import Derived.Test.YtpiejdncoeldeaaBOrA
import Derived.Test.YtpiejdncoeldeaaOwn
import Derived.Test.YtpiejdncoeldeaaBs
import Derived.Outline
import Derived.Lib.SliceRun
import Derived.Laws.Rows
import Derived.Laws.BytesArg
namespace Go.Proofs.Ytpiejdncoeldeaa.PA
open Go.RowKit Go.Proofs.YtpiejdncoeldeaaW.PrintWords Go.Proofs.YtpiejdncoeldeaaW.PrintLast Go.Proofs.YtpiejdncoeldeaaW.PrintMore
attribute [local go_sem] max2_int min2_int max_two min_two max_three min_three max_four min_four
set_option linter.unusedVariables false
set_option linter.unusedSimpArgs false
open Go.Proofs.Ytpiejdncoeldeaa.Own Go.Proofs.Ytpiejdncoeldeaa.Bs Go.Proofs.Ytpiejdncoeldeaa.Ord Go.Proofs.Ytpiejdncoeldeaa.Hand
theorem cw {α : Type} {d : Kd α} {w W : World} {A : Option Addr} {n : Nat} {xs : List α} (h : Aside0 (Kd.C d w A n xs)) (hu : Upd None0 w W) : Kd.C d W A n xs := Kd.C_below h.out hu.below0
theorem great_l0 (l : List ByteArray) (hl : l.length ≤ 100) : ∀ (m k i : Nat), i + m = l.length → m < k → (∀ j (h : j < l.length), j < i → l[j].size ≤ 300) →
    ∃ r, gantletref16_Great.l0 k l (i : Int) = some r ∧ (r = false → ∀ s, s ∈ l → s.size ≤ 300) := by
  intro m
  induction m with
  | zero =>
    intro k i hi hk hd
    obtain ⟨k, rfl⟩ : ∃ q, k = q + 1 := ⟨k - 1, by omega⟩
    rw [gantletref16_Great.l0, if_neg (by omega)]
    refine ⟨false, rfl, fun _ s hm => ?_⟩
    obtain ⟨j, hj, rfl⟩ := List.getElem_of_mem hm
    exact hd j hj (by omega)
  | succ m ih =>
    intro k i hi hk hd
    obtain ⟨k, rfl⟩ : ∃ q, k = q + 1 := ⟨k - 1, by omega⟩
    have hlt : i < l.length := by omega
    have e : rdOf ByteArray.empty l (i : Int) = l[i] := by simp [rdOf, hlt]
    rw [gantletref16_Great.l0, if_pos (by omega), if_pos (by omega), e]
    by_cases h : ((l[i]).size : Int) > 300
    · rw [if_pos h]; exact ⟨true, rfl, fun h => by cases h⟩
    · have hw : wrap64 ((i : Int) + 1) = ((i + 1 : Nat) : Int) := by unfold wrap64; simp [IntKind.wrap]; omega
      rw [if_neg h, hw]
      refine ih k (i + 1) (by omega) (by omega) (fun j hj hji => ?_)
      by_cases hjs : j = i
      · subst hjs; omega
      · exact hd j hj (by omega)
theorem great_ok (l : List ByteArray) (k : Nat) (hk : 200 ≤ k) : ∃ r, gantletref16_Great.f k l = some r ∧ (r = false → l.length ≤ 100 ∧ ∀ s, s ∈ l → s.size ≤ 300) := by
  unfold gantletref16_Great.f
  by_cases h1 : (l.length : Int) > 100
  · rw [if_pos h1]; exact ⟨true, rfl, fun h => by cases h⟩
  · rw [if_neg h1]
    obtain ⟨r, h3, h4⟩ := great_l0 l (by omega) l.length k 0 (by omega) (by omega) (fun j _ h => by omega)
    exact ⟨r, h3, fun h => ⟨by omega, h4 h⟩⟩
/-- The code's and the reference's: one answer. -/
theorem both (a b : ByteArray) (ha : a.size ≤ 300) (hb : b.size ≤ 300) : ∃ c, order_Compare.f 600 a b = some c ∧ gantletref16_Compare.f 1100 a b = some c ∧ -1 ≤ c ∧ c ≤ 1 := by
  obtain ⟨c, h1, h2⟩ := BOrd.cmp_eq a b (by omega) (by omega) 600 (by omega)
  obtain ⟨d, h3, h4⟩ := BOrd.ref_eq a b (by omega) (by omega) 1100 (by omega)
  cases h2.uniq h4
  exact ⟨c, h1, h3, h2.range⟩
/-- Where a list of elements stands: the sorter before element k (over is what is told by now). -/
def StopR (w W : World) (g : Nat) (most : Int) (l : List ByteArray) (k : Nat) (over : Int) : Prop :=
  ∃ last now begun, So w W g most last now begun over ∧ (over = 0 → now = [] ∧ begun = decide (0 < k) ∧ (∀ (h : 0 < k) (h2 : k - 1 < l.length), last = bytesOf (l[k - 1])))
/-- .. and within element k, m bytes of which have come. -/
def StopI (w W : World) (g : Nat) (most : Int) (l : List ByteArray) (k : Nat) (x : ByteArray) (m : Nat) (over : Int) : Prop :=
  ∃ last now begun, So w W g most last now begun over ∧ (over = 0 → (m : Int) ≤ most ∧ now = (bytesOf x).take m ∧ begun = decide (0 < k) ∧ (∀ (h : 0 < k) (h2 : k - 1 < l.length), last = bytesOf (l[k - 1])))
theorem take_next (s : ByteArray) (i : Nat) (h : i < s.size) : (bytesOf s).take (i + 1) = (bytesOf s).take i ++ [bt s (i : Int)] := by
  rw [List.take_add_one, bt_get]
  have hl : i < (bytesOf s).length := by rw [bytesOf_length]; exact h
  simp [List.getD_eq_getElem?_getD, List.getElem?_eq_getElem hl]

set_option maxHeartbeats 4000000 in
set_option maxRecDepth 100000 in
theorem gantletlaw16_OrderStops.any (A : Option Addr) (c : Nat) (l : List ByteArray) (most : Int) (w : World) (hC : Kd.C Kd.string w A l.length l) (hc : l.length ≤ c) :
    Calls Try.prog 5 #[.slice A l.length c, .int .i64 most] w fun e w' => e = .returned (.bool true) ∧ Below w.heap.size w w' := by
  have HB := Aside0.mk (Below.refl w.heap.size w)
  have HC := Aside0.mk hC
  have HCC := Aside0.mk hc
  obtain ⟨rg, hg, hgf⟩ := great_ok l 300 (by decide)
  have HG := Aside0.mk hg
  clear hC hc hg
  cases rg with
  | true =>
    clear hgf
    go_enter Try.func5, Try.ntmps5
    go_wp2_with (first
      | (go_at_call 8
         (with_reducible refine (awake_any _).mono ?_)
         rintro e w1 ⟨rfl, hb⟩
         replace HB := Aside0.mk (below_step (by repeat (first | (with_reducible first | exact HB.out | apply below_alloc | apply pw_below_drewN | apply below_drew1) | exact HB.out)) hb)
         clear hb)
      | (go_at_call 18
         (with_reducible refine (gantletref16_Great.calls 300 A c l true _ (cw HC (Upd.of_below HB.out : Upd None0 w _)) HCC.out HG.out).mono ?_)
         rintro e w1 ⟨rfl, hb⟩
         replace HB := Aside0.mk (below_step (by repeat (first | (with_reducible first | exact HB.out | apply below_alloc | apply pw_below_drewN | apply below_drew1) | exact HB.out)) hb.below)
         clear hb))
    go_ret
    exact ⟨rfl, HB.out⟩
  | false =>
  obtain ⟨hl, hsz⟩ := hgf rfl
  have HSZ := Aside0.mk hsz
  have HL := Aside0.mk hl
  clear hgf hl hsz
  by_cases hm0 : most < 0
  · have y1 : decide (most < 0) = true := decide_eq_true hm0
    clear hm0
    go_enter Try.func5, Try.ntmps5
    go_wp2_with (first
      | (go_at_call 8
         (with_reducible refine (awake_any _).mono ?_)
         rintro e w1 ⟨rfl, hb⟩
         replace HB := Aside0.mk (below_step (by repeat (first | (with_reducible first | exact HB.out | apply below_alloc | apply pw_below_drewN | apply below_drew1) | exact HB.out)) hb)
         clear hb)
      | (go_at_call 18
         (with_reducible refine (gantletref16_Great.calls 300 A c l false _ (cw HC (Upd.of_below HB.out : Upd None0 w _)) HCC.out HG.out).mono ?_)
         rintro e w1 ⟨rfl, hb⟩
         replace HB := Aside0.mk (below_step (by repeat (first | (with_reducible first | exact HB.out | apply below_alloc | apply pw_below_drewN | apply below_drew1) | exact HB.out)) hb.below)
         clear hb))
    go_ret
    exact ⟨rfl, HB.out⟩
  have y1 : decide (most < 0) = false := decide_eq_false hm0
  by_cases hm1 : 300 < most
  · have y2 : decide (300 < most) = true := decide_eq_true hm1
    clear hm0 hm1
    go_enter Try.func5, Try.ntmps5
    go_wp2_with (first
      | (go_at_call 8
         (with_reducible refine (awake_any _).mono ?_)
         rintro e w1 ⟨rfl, hb⟩
         replace HB := Aside0.mk (below_step (by repeat (first | (with_reducible first | exact HB.out | apply below_alloc | apply pw_below_drewN | apply below_drew1) | exact HB.out)) hb)
         clear hb)
      | (go_at_call 18
         (with_reducible refine (gantletref16_Great.calls 300 A c l false _ (cw HC (Upd.of_below HB.out : Upd None0 w _)) HCC.out HG.out).mono ?_)
         rintro e w1 ⟨rfl, hb⟩
         replace HB := Aside0.mk (below_step (by repeat (first | (with_reducible first | exact HB.out | apply below_alloc | apply pw_below_drewN | apply below_drew1) | exact HB.out)) hb.below)
         clear hb))
    go_ret
    exact ⟨rfl, HB.out⟩
  have y2 : decide (300 < most) = false := decide_eq_false hm1
  have hmm : mn (mx most 0) 65536 = most := by unfold mn mx; split <;> split <;> omega
  have HM := Aside0.mk (show 0 ≤ most ∧ most ≤ 300 by omega)
  clear hm0 hm1
  go_enter Try.func5, Try.ntmps5
  go_wp2_with (first
    | (go_at_call 8
       (with_reducible refine (awake_any _).mono ?_)
       rintro e w1 ⟨rfl, hb⟩
       replace HB := Aside0.mk (below_step (by repeat (first | (with_reducible first | exact HB.out | apply below_alloc | apply pw_below_drewN | apply below_drew1) | exact HB.out)) hb)
       clear hb)
    | (go_at_call 18
       (with_reducible refine (gantletref16_Great.calls 300 A c l false _ (cw HC (Upd.of_below HB.out : Upd None0 w _)) HCC.out HG.out).mono ?_)
       rintro e w1 ⟨rfl, hb⟩
       replace HB := Aside0.mk (below_step (by repeat (first | (with_reducible first | exact HB.out | apply below_alloc | apply pw_below_drewN | apply below_drew1) | exact HB.out)) hb.below)
       clear hb)
    | (go_at_call 11
       (with_reducible refine (new_any most w _ HB.out).mono ?_)
       rintro e w1 ⟨g, rfl, hs, hb⟩
       rw [hmm] at hs
       have S_ := Aside0.mk hs
       clear HB; have HB := Aside0.mk hb
       clear hs hb))
  go_loopg [6, 31] l.length (fun gk v6 v31 wr => ∃ (i : Nat) (over : Int), v6 = .int .i64 over ∧ v31 = .int .i64 (i : Int) ∧ Aside0 (i ≤ l.length ∧ l.length - i ≤ gk) ∧ Aside0 (StopR w wr g most l i over) ∧ Aside0 (Below w.heap.size w wr))
  case atStart => exact ⟨0, 0, rfl, rfl, ⟨Nat.zero_le _, by omega⟩, ⟨⟨_, _, _, S_.out, fun _ => ⟨rfl, rfl, fun h => absurd h (by omega)⟩⟩⟩, HB⟩
  case round =>
    clear S_ HB
    obtain ⟨i, over, rfl, rfl, HI, SR, HB⟩ := hrel
    obtain ⟨gko, hgko⟩ : ∃ q, q = gk := ⟨_, rfl⟩
    rw [← hgko] at HI
    have hi0 : (0 : Int) ≤ (i : Int) := by omega
    have him : (i : Int) ≤ 100 := by have := HI.out.1; have := HL.out; omega
    by_cases hlt : i < l.length
    case neg =>
      have hltd : decide ((i : Int) < (l.length : Int)) = false := decide_eq_false (by omega)
      go_wp2
      go_ret
      exact ⟨rfl, HB.out⟩
    have hltd : decide ((i : Int) < (l.length : Int)) = true := decide_eq_true (by omega)
    have hlti : (i : Int) < (l.length : Int) := by omega
    obtain ⟨ad, e1, hx⟩ := Kd.at_string (cw HC (Upd.of_below HB.out : Upd None0 w _)) (i : Int) hi0 hlti
    subst e1
    obtain ⟨x, hx2⟩ : ∃ x, l[i] = x := ⟨_, rfl⟩
    have hxl : wr.cell? (ad.add i) = some (.string x) := by
      rw [← hx2]
      have : rdOf ByteArray.empty l (i : Int) = l[i] := by simp [rdOf, hlt]
      rw [← this]; simpa using hx
    have HX := Aside0.mk (show x.size ≤ 300 by rw [← hx2]; exact HSZ.out _ (List.getElem_mem hlt))
    have HXL := Aside0.mk (show ∀ h : i < l.length, l[i] = x from fun _ => hx2)
    have SI := Aside0.mk (show StopI w wr g most l i x 0 over by
      obtain ⟨last, now, bg, h1, h2⟩ := SR.out
      exact ⟨last, now, bg, h1, fun h => ⟨HM.out.1, by simp [(h2 h).1], (h2 h).2⟩⟩)
    clear SR hx hx2
    go_wp2
    clear hxl
    go_loopg [6, 38] x.size (fun gk v6 v38 wr => ∃ (m : Nat) (ov : Int), v6 = .int .i64 ov ∧ v38 = .int .i64 (m : Int) ∧ Aside0 (m ≤ x.size ∧ x.size - m ≤ gk) ∧ Aside0 (StopI w wr g most l i x m ov) ∧ Aside0 (Below w.heap.size w wr))
    case atStart => exact ⟨0, over, rfl, rfl, ⟨Nat.zero_le _, by omega⟩, SI, HB⟩
    case round =>
      clear SI HB
      obtain ⟨m, ov, rfl, rfl, MI, SI, HB⟩ := hrel
      obtain ⟨last, now, bg, hS, hov⟩ := SI.out
      have S_ := Aside0.mk hS
      clear hS SI
      have hm0 : (0 : Int) ≤ (m : Int) := by omega
      have hmx : (m : Int) ≤ 300 := by have := MI.out.1; have := HX.out; omega
      have hne : (ov != ov) = false := by simp
      by_cases hlm : m < x.size
      · have hlmd : decide ((m : Int) < (x.size : Int)) = true := decide_eq_true (by omega)
        have hlmi : (m : Int) < (x.size : Int) := by omega
        obtain ⟨b, hb⟩ : ∃ q, bt x (m : Int) = q := ⟨_, rfl⟩
        have hbx : ∀ h : m < x.size, (((x[m]'h).toNat : Nat) : Int) = b := by rw [← hb]; exact bt_at x (m : Int)
        have HTK := Aside0.mk (take_next x m hlm)
        rw [hb] at HTK
        clear hb
        by_cases hz : ov = 0
        · subst hz
          obtain ⟨hmo, hnow, hbg, hlast⟩ := hov rfl
          have hnl : now.length = m := by rw [hnow, List.length_take, bytesOf_length]; omega
          have HREST := Aside0.mk (show bg = decide (0 < i) ∧ (∀ (h : 0 < i) (h2 : i - 1 < l.length), last = bytesOf (l[i - 1])) from ⟨hbg, hlast⟩)
          have HNOW := Aside0.mk hnow
          clear hov hnow hbg hlast
          by_cases hme : (m : Int) = most
          · have z1 : ((m : Int) == most) = true := by rw [beq_iff_eq]; exact hme
            have HF := Aside0.mk (show (now.length : Int) = most by rw [hnl]; exact hme)
            clear hmo hnl hme
            go_wp2_with (first
              | (go_at_call 13
                 (with_reducible refine (push_full g most last now bg b w _ HB.out S_.out HF.out).mono ?_)
                 rintro e w2 ⟨rfl, hs, hb⟩
                 clear S_ HB
                 have S_ := Aside0.mk hs
                 have HB := Aside0.mk hb
                 clear hs hb))
            go_roundg (gk - 1)
            case measure => have := MI.out.2; omega
            case rel => exact ⟨m + 1, 11, rfl, by simp, ⟨by omega, by have := MI.out.2; omega⟩, ⟨⟨_, _, _, S_.out, fun h => absurd h (by decide)⟩⟩, HB⟩
          · have z1 : ((m : Int) == most) = false := beq_eq_false_iff_ne.2 hme
            have HF := Aside0.mk (show (now.length : Int) ≠ most by rw [hnl]; exact hme)
            have HF2 := Aside0.mk (show now.length ≤ 100000 by rw [hnl]; omega)
            have HMM := Aside0.mk (show ((m + 1 : Nat) : Int) ≤ most by omega)
            clear hmo hnl hme
            go_wp2_with (first
              | (go_at_call 13
                 (with_reducible refine (push_more g most last now bg b w _ HB.out S_.out HF.out HF2.out).mono ?_)
                 rintro e w2 ⟨rfl, hs, hb⟩
                 clear S_ HB
                 have S_ := Aside0.mk hs
                 have HB := Aside0.mk hb
                 clear hs hb))
            go_roundg (gk - 1)
            case measure => have := MI.out.2; omega
            case rel => exact ⟨m + 1, 0, rfl, by simp, ⟨by omega, by have := MI.out.2; omega⟩, ⟨⟨_, _, _, S_.out, fun _ => ⟨HMM.out, by rw [HTK.out, HNOW.out], HREST.out⟩⟩⟩, HB⟩
        · have z1 : (ov == 0) = false := beq_eq_false_iff_ne.2 hz
          have HZ := Aside0.mk hz
          clear hov hz
          go_wp2_with (first
            | (go_at_call 13
               (with_reducible refine (push_over g most last now bg ov b w _ HB.out S_.out HZ.out).mono ?_)
               rintro e w2 ⟨rfl, hs, hb⟩
               clear S_ HB
               have S_ := Aside0.mk hs
               have HB := Aside0.mk hb
               clear hs hb))
          go_roundg (gk - 1)
          case measure => have := MI.out.2; omega
          case rel => exact ⟨m + 1, ov, rfl, by simp, ⟨by omega, by have := MI.out.2; omega⟩, ⟨⟨_, _, _, S_.out, fun h => absurd h HZ.out⟩⟩, HB⟩
      have hlmd : decide ((m : Int) < (x.size : Int)) = false := decide_eq_false (by omega)
      by_cases hz : ov = 0
      · subst hz
        obtain ⟨hmo, hnow, hbg, hlast⟩ := hov rfl
        have hnx : now = bytesOf x := by rw [hnow]; exact List.take_of_length_le (by rw [bytesOf_length]; omega)
        subst hnx
        clear hnow
        by_cases hk : 0 < i
        · have hkd : decide ((0 : Int) < (i : Int)) = true := decide_eq_true (by omega)
          have hki : (0 : Int) < (i : Int) := by omega
          have hk1 : (0 : Int) ≤ (i : Int) - 1 := by omega
          have hk2 : (i : Int) - 1 < (l.length : Int) := by omega
          have hk3 : ((i : Int) - 1).toNat = i - 1 := by omega
          obtain ⟨y, hy⟩ : ∃ y, l[i - 1]'(by omega) = y := ⟨_, rfl⟩
          have hly : last = bytesOf y := by rw [← hy]; exact hlast hk (by omega)
          subst hly
          have hys : y.size ≤ 300 := by rw [← hy]; exact HSZ.out _ (List.getElem_mem _)
          have hyl : wr.cell? (ad.add (i - 1)) = some (.string y) := by
            obtain ⟨ad2, e, h⟩ := Kd.at_string (cw HC (Upd.of_below HB.out : Upd None0 w _)) ((i : Int) - 1) hk1 hk2
            cases e
            have e2 : rdOf ByteArray.empty l ((i : Int) - 1) = y := by rw [← hy]; unfold rdOf; rw [hk3]; simp [show i - 1 < l.length by omega]
            rw [e2, hk3] at h
            exact h
          obtain rfl : bg = true := by rw [hbg]; exact decide_eq_true hk
          obtain ⟨cc, hc1, hc2, hc3, hc4⟩ := both y x hys HX.out
          have HC2 := Aside0.mk hc2
          have HC1 := Aside0.mk (show order_Compare.f 600 (strOfNums (bytesOf y)) (strOfNums (bytesOf x)) = some cc by rw [nums_bytesOf, nums_bytesOf]; exact hc1)
          clear hc1 hc2 hlast hbg hov hy hys
          by_cases hcp : 0 < cc
          · have z2 : decide ((0 : Int) < cc) = true := decide_eq_true hcp
            have HCP := Aside0.mk hcp
            clear hcp
            go_wp2_with (first
              | (go_at_call 10
                 (with_reducible refine (gantletref16_Compare.calls 1100 y x cc _ HC2.out).mono ?_)
                 rintro e w1 ⟨rfl, hb⟩
                 replace S_ := Aside0.mk (So.below S_.out hb.below)
                 replace HB := Aside0.mk (below_step HB.out hb.below)
                 clear hb)
              | (go_at_call 15
                 (with_reducible refine (end_bad 600 g most _ _ cc w _ HB.out S_.out HC1.out HCP.out).mono ?_)
                 rintro e w2 ⟨rfl, hs, hb⟩
                 clear S_ HB
                 have S_ := Aside0.mk hs
                 have HB := Aside0.mk hb
                 clear hs hb))
            go_roundg (gko - 1)
            case measure => have := HI.out.2; omega
            case rel => exact ⟨i + 1, 9, rfl, by simp, ⟨by omega, by have := HI.out.2; omega⟩, ⟨⟨_, _, _, S_.out, fun h => absurd h (by decide)⟩⟩, HB⟩
          · have z2 : decide ((0 : Int) < cc) = false := decide_eq_false hcp
            have HCP := Aside0.mk (show cc ≤ 0 by omega)
            clear hcp
            go_wp2_with (first
              | (go_at_call 10
                 (with_reducible refine (gantletref16_Compare.calls 1100 y x cc _ HC2.out).mono ?_)
                 rintro e w1 ⟨rfl, hb⟩
                 replace S_ := Aside0.mk (So.below S_.out hb.below)
                 replace HB := Aside0.mk (below_step HB.out hb.below)
                 clear hb)
              | (go_at_call 15
                 (with_reducible refine (end_ok 600 g most _ _ cc w _ HB.out S_.out HC1.out HCP.out).mono ?_)
                 rintro e w2 ⟨rfl, hs, hb⟩
                 clear S_ HB
                 have S_ := Aside0.mk hs
                 have HB := Aside0.mk hb
                 clear hs hb))
            go_roundg (gko - 1)
            case measure => have := HI.out.2; omega
            case rel => exact ⟨i + 1, 0, rfl, by simp, ⟨by omega, by have := HI.out.2; omega⟩, ⟨⟨_, _, _, S_.out, fun _ => ⟨rfl, (by simp), fun _ h2 => by have e := HXL.out hlt; simp only [Nat.add_sub_cancel]; rw [e]⟩⟩⟩, HB⟩
        · have hkd : decide ((0 : Int) < (i : Int)) = false := decide_eq_false (by omega)
          have hi00 : i = 0 := by omega
          obtain rfl : bg = false := by rw [hbg]; exact decide_eq_false hk
          clear hbg hlast hov
          go_wp2_with (first
            | (go_at_call 15
               (with_reducible refine (end_first g most _ _ w _ HB.out S_.out).mono ?_)
               rintro e w2 ⟨rfl, hs, hb⟩
               clear S_ HB
               have S_ := Aside0.mk hs
               have HB := Aside0.mk hb
               clear hs hb))
          go_roundg (gko - 1)
          case measure => have := HI.out.2; omega
          case rel => exact ⟨i + 1, 0, rfl, by simp; omega, ⟨by omega, by have := HI.out.2; omega⟩, ⟨⟨_, _, _, S_.out, fun _ => ⟨rfl, (by simp), fun _ h2 => by have e := HXL.out hlt; simp only [Nat.add_sub_cancel]; rw [e]⟩⟩⟩, HB⟩
      · have z1 : (ov == 0) = false := beq_eq_false_iff_ne.2 hz
        have HZ := Aside0.mk hz
        clear hov hz
        go_wp2_with (first
          | (go_at_call 15
             (with_reducible refine (end_over g most _ _ _ _ w _ HB.out S_.out HZ.out).mono ?_)
             rintro e w2 ⟨rfl, hs, hb⟩
             clear S_ HB
             have S_ := Aside0.mk hs
             have HB := Aside0.mk hb
             clear hs hb))
        go_roundg (gko - 1)
        case measure => have := HI.out.2; omega
        case rel => exact ⟨i + 1, ov, rfl, by simp, ⟨by omega, by have := HI.out.2; omega⟩, ⟨⟨_, _, _, S_.out, fun h => absurd h HZ.out⟩⟩, HB⟩

def gantletlaw16_OrderStops.f (_ : List ByteArray) (_ : Int) : Option Bool := some true
theorem gantletlaw16_OrderStops.calls (A : Option Addr) (c : Nat) (l : List ByteArray) (most : Int) (r : Bool) (w : World) (hC : Kd.C Kd.string w A l.length l) (hc : l.length ≤ c) (h : gantletlaw16_OrderStops.f l most = some r) :
    Calls Try.prog 5 #[.slice A l.length c, .int .i64 most] w fun e w' => e = .returned (.bool r) ∧ Below w.heap.size w w' := by
  unfold gantletlaw16_OrderStops.f at h
  obtain rfl := Option.some.inj h
  exact gantletlaw16_OrderStops.any A c l most w hC hc
end Go.Proofs.Ytpiejdncoeldeaa.PA
