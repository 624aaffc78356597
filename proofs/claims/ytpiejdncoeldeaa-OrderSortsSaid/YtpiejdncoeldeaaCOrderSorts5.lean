/- What the row of OrderSorts stands on, made small by a program of this session (pack.py). -/
import Derived.Test.YtpiejdncoeldeaaCOrderSorts3
import Derived.Test.YtpiejdncoeldeaaCOrderSorts4
namespace Go.Proofs.Ytpiejdncoeldeaa.Srt
open Go.RowKit Go.Proofs.YtpiejdncoeldeaaW.PrintWords Go.Proofs.YtpiejdncoeldeaaW.PrintLast Go.Proofs.YtpiejdncoeldeaaW.PrintMore Go.Proofs.Ytpiejdncoeldeaa.Own Go.Proofs.Ytpiejdncoeldeaa.Sl Go.Proofs.Ytpiejdncoeldeaa.Bs Go.Proofs.Ytpiejdncoeldeaa.Ord Go.Proofs.Ytpiejdncoeldeaa.Cm
set_option linter.unusedVariables false
set_option linter.unusedSimpArgs false
set_option maxHeartbeats 8000000 in
set_option maxRecDepth 100000 in
theorem sm_long (g c n a m b mid s0 r0 : Nat) (xs Z : List ByteArray) (w : World) (S : Nat → Prop) (h : Hs w S [rw_ g n c xs]) (hn : n = xs.length) (hn2 : n ≤ 100000) (ha : a + 1 < m) (hb : m + 1 < b) (hbn : b ≤ n) (hmid : (a + b) / 2 = mid)
    (hs0 : s0 = if mid < m then mid + m - b else a) (hr0 : r0 = if mid < m then mid else m) (hs : ∀ s, s ∈ xs → s.size ≤ 1000000)
    (HT : ∀ s, s0 ≤ s → s ≤ r0 → (s = s0 ∨ le (gt xs (s - 1)) (gt xs (mid + m - s))) → (s = r0 ∨ cm (gt xs (mid + m - 1 - s)) (gt xs s) < 0) →
      ∃ L1 L2, (s < m ∧ m < mid + m - s → RtOk g c n s m (mid + m - s) xs L1) ∧ (¬ (s < m ∧ m < mid + m - s) → xs = L1) ∧ (a < s ∧ s < mid → SmOk g c n a s mid L1 L2) ∧ (¬ (a < s ∧ s < mid) → L1 = L2) ∧ (mid < mid + m - s ∧ mid + m - s < b → SmOk g c n mid (mid + m - s) b L2 Z) ∧ (¬ (mid < mid + m - s ∧ mid + m - s < b) → L2 = Z)) :
    Calls Try.prog 28 #[.slice (some ⟨g, 0, none⟩) n c, .int .i64 (a : Int), .int .i64 (m : Int), .int .i64 (b : Int), .func (.func 25) #[] #[]] w fun e w' => e = .returned (.tuple #[]) ∧ Sp w S [rw_ g n c Z] w' := by
  have hS := Sp.start h
  have HN := Aside0.mk (show n ≤ 100000 ∧ a + 1 < m ∧ m + 1 < b ∧ b ≤ n ∧ n = xs.length ∧ a < mid ∧ mid < b ∧ s0 ≤ r0 ∧ r0 ≤ m ∧ r0 ≤ mid ∧ a ≤ s0 ∧ mid + m ≤ b + s0 from ⟨hn2, ha, hb, hbn, hn, by omega, by omega, by split at hs0 <;> split at hr0 <;> omega, by split at hr0 <;> omega, by split at hr0 <;> omega, by split at hs0 <;> omega, by split at hs0 <;> omega⟩)
  have HSZ := Aside0.mk hs
  have HTA := Aside0.mk HT
  have hai : (a : Int) ≤ 100000 := by omega
  have hbi : (b : Int) ≤ 100000 := by omega
  have hmi : (m : Int) ≤ 100000 := by omega
  have hdi : (mid : Int) ≤ 100000 := by omega
  obtain ⟨d, hd⟩ : ∃ d, m - a = d := ⟨_, rfl⟩
  have e1 : (m : Int) - (a : Int) = (d : Int) := by omega
  have e2 : IntKind.i64.wrap (d : Int) = (d : Int) := by rw [IntKind.wrap_i64]; omega
  have e3 : ¬ ((d : Int) = 1) := by omega
  have e6 : ((d : Int) == 1) = false := beq_eq_false_iff_ne.2 e3
  obtain ⟨f, hf⟩ : ∃ f, b - m = f := ⟨_, rfl⟩
  have f1 : (b : Int) - (m : Int) = (f : Int) := by omega
  have f2 : IntKind.i64.wrap (f : Int) = (f : Int) := by rw [IntKind.wrap_i64]; omega
  have f3 : ¬ ((f : Int) = 1) := by omega
  have f6 : ((f : Int) == 1) = false := beq_eq_false_iff_ne.2 f3
  obtain ⟨t, ht⟩ : ∃ t, a + b = t := ⟨_, rfl⟩
  have g1 : (a : Int) + (b : Int) = (t : Int) := by omega
  have g2 : IntKind.i64.wrap (t : Int) = (t : Int) := by rw [IntKind.wrap_i64]; omega
  have g3 : IntKind.u64.wrap (t : Int) = (t : Int) := by rw [IntKind.wrap_u64]; omega
  have g4 : (t : Int) / 2 = (mid : Int) := by omega
  have g5 : IntKind.i64.wrap (mid : Int) = (mid : Int) := by rw [IntKind.wrap_i64]; omega
  obtain ⟨nn, hnn⟩ : ∃ nn, mid + m = nn := ⟨_, rfl⟩
  have k1 : (mid : Int) + (m : Int) = (nn : Int) := by omega
  have k2 : IntKind.i64.wrap (nn : Int) = (nn : Int) := by rw [IntKind.wrap_i64]; omega
  obtain ⟨p, hp⟩ : ∃ p, nn - 1 = p := ⟨_, rfl⟩
  have k3 : (nn : Int) - 1 = (p : Int) := by omega
  have k4 : IntKind.i64.wrap (p : Int) = (p : Int) := by rw [IntKind.wrap_i64]; omega
  have HP := Aside0.mk (show mid + m = nn ∧ nn - 1 = p ∧ 0 < nn from ⟨hnn, hp, by omega⟩)
  have HC := Aside0.mk (show (mid < m ∧ (nn : Int) - (b : Int) = (s0 : Int) ∧ IntKind.i64.wrap (s0 : Int) = (s0 : Int) ∧ mid = r0) ∨ (¬ mid < m ∧ a = s0 ∧ m = r0) by
    by_cases hc : mid < m
    · rw [if_pos hc] at hs0 hr0
      exact .inl ⟨hc, by omega, by rw [IntKind.wrap_i64]; omega, hr0.symm⟩
    · rw [if_neg hc] at hs0 hr0
      exact .inr ⟨hc, hs0.symm, hr0.symm⟩)
  clear h hn hn2 ha hb hbn hmid hs0 hr0 hs HT hd hf ht hnn hp
  go_enter Try.func28, Try.ntmps28
  go_upto_region 27 with (fail)
  go_cut [140] from 138 to 140 (fun v140 wc => v140 = .bool (decide (mid < m)) ∧ w = wc)
  case first =>
    go_wp2
    go_meet
    exact ⟨rfl, rfl⟩
  obtain ⟨rfl, rfl⟩ := hcut
  go_upto_if 140 with (fail)
  go_cut [20, 21] from 138 to 146 (fun v20 v21 wc => v20 = .int .i64 (s0 : Int) ∧ v21 = .int .i64 (r0 : Int) ∧ w = wc)
  case first =>
    rcases HC.out with ⟨h1, h2, h3, h4⟩ | ⟨h1, h2, h3⟩
    · have hd : decide (mid < m) = true := decide_eq_true h1
      subst h4
      go_wp2
      go_meet
      exact ⟨rfl, rfl, rfl⟩
    · have hd : decide (mid < m) = false := decide_eq_false h1
      subst h2 h3
      go_wp2
      go_meet
      exact ⟨rfl, rfl, rfl⟩
  obtain ⟨rfl, rfl, rfl⟩ := hcut
  have HF := Aside0.mk (show nn ≤ 200000 ∧ p ≤ 200000 from by omega)
  clear e1 e2 e3 e6 f1 f2 f3 f6 g1 g2 g3 g4 g5 k1 k2 HC
  go_upto_block 8 with (fail)
  go_cut [20] from 149 to 174 (fun v20 wc => ∃ i : Nat, v20 = .int .i64 (i : Int) ∧ Aside0 (s0 ≤ i ∧ i ≤ r0 ∧ (i = s0 ∨ le (gt xs (i - 1)) (gt xs (mid + m - i))) ∧ (i = r0 ∨ cm (gt xs (mid + m - 1 - i)) (gt xs i) < 0)) ∧ Aside0 (Sp w S [rw_ g n c xs] wc))
  case first =>
    clear HTA k3 k4
    go_wp2_with (fail)
    go_loopg [20, 21] (b + 1) (fun gk v20 v21 wr => ∃ (i j : Nat), v20 = .int .i64 (i : Int) ∧ v21 = .int .i64 (j : Int) ∧ Aside0 (s0 ≤ i ∧ i ≤ j ∧ j ≤ r0 ∧ j - i < gk ∧ (i = s0 ∨ le (gt xs (i - 1)) (gt xs (mid + m - i))) ∧ (j = r0 ∨ cm (gt xs (mid + m - 1 - j)) (gt xs j) < 0)) ∧ Aside0 (Sp w S [rw_ g n c xs] wr))
    case atStart => exact ⟨s0, r0, rfl, rfl, ⟨Nat.le_refl _, by have := HN.out; omega, Nat.le_refl _, by have := HN.out; omega, .inl rfl, .inl rfl⟩, ⟨hS⟩⟩
    case round =>
      clear hS
      obtain ⟨i, j, rfl, rfl, HI, HS⟩ := hrel
      have hS := HS.out
      clear HS
      have hi0 : (0 : Int) ≤ (i : Int) := by omega
      have hi1 : (i : Int) ≤ 100000 := by have := HI.out; have := HN.out; omega
      have hj1 : (j : Int) ≤ 100000 := by have := HI.out; have := HN.out; omega
      by_cases hlt : i < j
      case neg =>
        have hd : decide (i < j) = false := decide_eq_false hlt
        have HB := Aside0.mk (show i = r0 ∨ cm (gt xs (mid + m - 1 - i)) (gt xs i) < 0 by
          have h := HI.out
          have e : j = i := by omega
          rw [e] at h
          exact h.2.2.2.2.2)
        go_wp2
        go_meet
        exact ⟨i, rfl, ⟨HI.out.1, by have := HI.out; omega, HI.out.2.2.2.2.1, HB.out⟩, ⟨hS⟩⟩
      have hd : decide (i < j) = true := decide_eq_true hlt
      obtain ⟨s, hs⟩ : ∃ s, i + j = s := ⟨_, rfl⟩
      obtain ⟨q, hq⟩ : ∃ q, s / 2 = q := ⟨_, rfl⟩
      have q1 : (i : Int) + (j : Int) = (s : Int) := by omega
      have q2 : IntKind.i64.wrap (s : Int) = (s : Int) := by rw [IntKind.wrap_i64]; omega
      have q3 : IntKind.u64.wrap (s : Int) = (s : Int) := by rw [IntKind.wrap_u64]; omega
      have q4 : IntKind.i64.wrap (q : Int) = (q : Int) := by rw [IntKind.wrap_i64]; omega
      have q5 : (s : Int) / 2 = (q : Int) := by omega
      have HQ := Aside0.mk (show i ≤ q ∧ q < j by omega)
      obtain ⟨u, hu⟩ : ∃ u, p - q = u := ⟨_, rfl⟩
      have q6 : (p : Int) - (q : Int) = (u : Int) := by have := HP.out; have := HI.out; have := HN.out; have := HQ.out; omega
      have hun : u < xs.length := by have := HN.out; have := HI.out; have := HP.out; have := HQ.out; omega
      have q7 : IntKind.i64.wrap (u : Int) = (u : Int) := by rw [IntKind.wrap_i64]; have := HN.out; omega
      have hqn : q < xs.length := by have := HN.out; have := HI.out; omega
      obtain ⟨x, hx⟩ : ∃ y, gt xs u = y := ⟨_, rfl⟩
      obtain ⟨y, hy⟩ : ∃ y, gt xs q = y := ⟨_, rfl⟩
      have hcx := str_cell (hS.reads 0) hun hx
      have hcy := str_cell (hS.reads 0) hqn hy
      obtain ⟨k, hk⟩ : ∃ k, cm x y = k := ⟨_, rfl⟩
      have HCL := Aside0.mk (fun W => clo_any x y W (by rw [← hx]; exact getD_mem_or xs _ _ HSZ.out (by decide)) (by rw [← hy]; exact getD_mem_or xs _ _ HSZ.out (by decide)))
      rw [hk] at HCL
      have HY := Aside0.mk (show cm (gt xs (mid + m - 1 - q)) (gt xs q) = k by rw [hy, show mid + m - 1 - q = u by have := HP.out; omega, hx]; exact hk)
      have hq0 : (0 : Int) ≤ (q : Int) := by omega
      have hu0 : (0 : Int) ≤ (u : Int) := by omega
      have hqn2 : (q : Int) < (n : Int) := by have := HN.out; omega
      have hun2 : (u : Int) < (n : Int) := by have := HN.out; omega
      have hq1 : (q : Int) ≤ 100000 := by omega
      by_cases hk0 : k < 0
      · have hd2 : decide (k < 0) = true := decide_eq_true hk0
        have HK0 := Aside0.mk hk0
        clear hk0 hk hx hy hs hq hqn hlt hu hun
        go_wp2
        go_quiet ((go_at_call 25; exact qleft (HCL.out _)))
        go_wp2
        go_roundg (gk - 1)
        case measure => have := HI.out; have := HQ.out; omega
        case rel => exact ⟨i, q, rfl, rfl, ⟨HI.out.1, HQ.out.1, by have := HI.out; have := HQ.out; omega, by have := HI.out; have := HQ.out; omega, HI.out.2.2.2.2.1, .inr (by rw [HY.out]; exact HK0.out)⟩, ⟨hS.lt⟩⟩
      · have hd2 : decide (k < 0) = false := decide_eq_false hk0
        have HK0 := Aside0.mk (show le (gt xs q) (gt xs (mid + m - (q + 1))) by
          have h1 := cm_swap (gt xs (mid + m - 1 - q)) (gt xs q)
          rw [HY.out] at h1
          rw [show mid + m - (q + 1) = mid + m - 1 - q by omega]
          unfold le; omega)
        clear hk0 hk hx hy hs hq hqn hlt hu hun
        go_wp2
        go_quiet ((go_at_call 25; exact qleft (HCL.out _)))
        go_wp2
        go_roundg (gk - 1)
        case measure => have := HI.out; have := HQ.out; omega
        case rel => exact ⟨q + 1, j, by simp, rfl, ⟨by have := HI.out; have := HQ.out; omega, by have := HQ.out; omega, HI.out.2.2.1, by have := HI.out; have := HQ.out; omega, .inr (by rw [Nat.add_sub_cancel]; exact HK0.out), HI.out.2.2.2.2.2⟩, ⟨hS.lt⟩⟩
  clear hS
  obtain ⟨i, rfl, HQ, HS⟩ := hcut
  have hS := HS.out
  clear HS
  generalize wc = wr at *
  have hi0 : (0 : Int) ≤ (i : Int) := by omega
  have hi1 : (i : Int) ≤ 100000 := by have := HQ.out; have := HN.out; omega
  obtain ⟨L1, L2, t1, t2, t3, t4, t5, t6⟩ := HTA.out i HQ.out.1 HQ.out.2.1 HQ.out.2.2.1 HQ.out.2.2.2
  obtain ⟨e, he⟩ : ∃ e, mid + m - i = e := ⟨_, rfl⟩
  rw [he] at t1 t2 t5 t6
  have q1 : (nn : Int) - (i : Int) = (e : Int) := by have := HP.out; have := HN.out; have := HQ.out; omega
  have hei : (e : Int) ≤ 200000 := by have := HF.out; omega
  have q2 : IntKind.i64.wrap (e : Int) = (e : Int) := by rw [IntKind.wrap_i64]; omega
  have T1 := Aside0.mk (And.intro t1 t2)
  have T2 := Aside0.mk (And.intro t3 t4)
  have T3 := Aside0.mk (And.intro t5 t6)
  clear t1 t2 t3 t4 t5 t6 HQ HTA he
  go_upto_region 39 with (fail)
  go_cut [185] from 178 to 185 (fun v wc => v = .bool (decide (i < m ∧ m < e)) ∧ wr = wc)
  case first =>
    by_cases h1 : i < m
    · have k1 : decide (i < m) = true := decide_eq_true h1
      have k2 : decide (i < m ∧ m < e) = decide (m < e) := by simp [h1]
      go_wp2
      go_meet
      exact ⟨by first | (rw [k2]; done) | simp [h1], rfl⟩
    · have k1 : decide (i < m) = false := decide_eq_false h1
      go_wp2
      go_meet
      exact ⟨by simp [h1], rfl⟩
  obtain ⟨rfl, rfl⟩ := hcut
  obtain ⟨bb, hbb⟩ : ∃ bb, decide (i < m ∧ m < e) = bb := ⟨_, rfl⟩
  rw [hbb]
  have HBB := Aside0.mk hbb
  clear hbb
  go_upto_if 185 with (fail)
  go_cut [] from 178 to 191 (fun wc => Aside0 (Sp w S [rw_ g n c L1] wc))
  case first =>
    cases bb
    · have HE := Aside0.mk (show xs = L1 from T1.out.2 (of_decide_eq_false HBB.out))
      rw [HE.out] at hS
      go_wp2
      go_meet
      exact ⟨hS.lt⟩
    · have HCC := Aside0.mk (T1.out.1 (of_decide_eq_true HBB.out))
      unfold RtOk at HCC
      go_wp2_with (first
        | (go_at_call 29
           (with_reducible refine (HCC.out _ (hS.ft 1) (by exact hS.pre1)).mono ?_)
           rintro e w6 ⟨rfl, hq⟩
           replace hS := hS.post1 hq))
      go_meet
      exact ⟨hS.lt⟩
  have hS := hcut.out
  clear hcut HBB
  generalize wc = wr at *
  go_upto_region 41 with (fail)
  go_cut [199] from 192 to 199 (fun v wc => v = .bool (decide (a < i ∧ i < mid)) ∧ wr = wc)
  case first =>
    by_cases h1 : a < i
    · have k1 : decide (a < i) = true := decide_eq_true h1
      have k2 : decide (a < i ∧ i < mid) = decide (i < mid) := by simp [h1]
      go_wp2
      go_meet
      exact ⟨by first | (rw [k2]; done) | simp [h1], rfl⟩
    · have k1 : decide (a < i) = false := decide_eq_false h1
      go_wp2
      go_meet
      exact ⟨by simp [h1], rfl⟩
  obtain ⟨rfl, rfl⟩ := hcut
  obtain ⟨bb, hbb⟩ : ∃ bb, decide (a < i ∧ i < mid) = bb := ⟨_, rfl⟩
  rw [hbb]
  have HBB := Aside0.mk hbb
  clear hbb
  go_upto_if 199 with (fail)
  go_cut [] from 192 to 205 (fun wc => Aside0 (Sp w S [rw_ g n c L2] wc))
  case first =>
    cases bb
    · have HE := Aside0.mk (show L1 = L2 from T2.out.2 (of_decide_eq_false HBB.out))
      rw [HE.out] at hS
      go_wp2
      go_meet
      exact ⟨hS.lt⟩
    · have HCC := Aside0.mk (T2.out.1 (of_decide_eq_true HBB.out))
      unfold SmOk at HCC
      go_wp2_with (first
        | (go_at_call 28
           (with_reducible refine (HCC.out _ (hS.ft 1) (by exact hS.pre1)).mono ?_)
           rintro e w6 ⟨rfl, hq⟩
           replace hS := hS.post1 hq))
      go_meet
      exact ⟨hS.lt⟩
  have hS := hcut.out
  clear hcut HBB
  generalize wc = wr at *
  go_upto_region 43 with (fail)
  go_cut [213] from 206 to 213 (fun v wc => v = .bool (decide (mid < e ∧ e < b)) ∧ wr = wc)
  case first =>
    by_cases h1 : mid < e
    · have k1 : decide (mid < e) = true := decide_eq_true h1
      have k2 : decide (mid < e ∧ e < b) = decide (e < b) := by simp [h1]
      go_wp2
      go_meet
      exact ⟨by first | (rw [k2]; done) | simp [h1], rfl⟩
    · have k1 : decide (mid < e) = false := decide_eq_false h1
      go_wp2
      go_meet
      exact ⟨by simp [h1], rfl⟩
  obtain ⟨rfl, rfl⟩ := hcut
  obtain ⟨bb, hbb⟩ : ∃ bb, decide (mid < e ∧ e < b) = bb := ⟨_, rfl⟩
  rw [hbb]
  have HBB := Aside0.mk hbb
  clear hbb
  go_upto_if 213 with (fail)
  cases bb
  · have HE := Aside0.mk (show L2 = Z from T3.out.2 (of_decide_eq_false HBB.out))
    rw [HE.out] at hS
    go_wp2
    (try simp only [Exit.inBlock, Exit.then])
    go_end0
    exact ⟨rfl, hS⟩
  · have HCC := Aside0.mk (T3.out.1 (of_decide_eq_true HBB.out))
    unfold SmOk at HCC
    go_wp2_with (first
      | (go_at_call 28
         (with_reducible refine (HCC.out _ (hS.ft 1) (by exact hS.pre1)).mono ?_)
         rintro e w6 ⟨rfl, hq⟩
         replace hS := hS.post1 hq))
    (try simp only [Exit.inBlock, Exit.then])
    go_end0
    exact ⟨rfl, hS⟩
end Go.Proofs.Ytpiejdncoeldeaa.Srt
namespace Go.Proofs.Ytpiejdncoeldeaa.Srt
open Go.RowKit Go.Proofs.YtpiejdncoeldeaaW.PrintWords Go.Proofs.YtpiejdncoeldeaaW.PrintLast Go.Proofs.YtpiejdncoeldeaaW.PrintMore Go.Proofs.Ytpiejdncoeldeaa.Own Go.Proofs.Ytpiejdncoeldeaa.Sl Go.Proofs.Ytpiejdncoeldeaa.Bs Go.Proofs.Ytpiejdncoeldeaa.Ord Go.Proofs.Ytpiejdncoeldeaa.Cm
set_option linter.unusedVariables false
set_option linter.unusedSimpArgs false
theorem sm_any (g c n : Nat) (hn2 : n ≤ 100000) : ∀ (N a m b : Nat) (P X Y R : List ByteArray), X.length + Y.length ≤ N → X ≠ [] → Y ≠ [] → X.Pairwise le → Y.Pairwise le → n = (P ++ X ++ Y ++ R).length → a = P.length → m = P.length + X.length → b = P.length + X.length + Y.length →
    (∀ s, s ∈ P ++ X ++ Y ++ R → s.size ≤ 1000000) → SmOk g c n a m b (P ++ X ++ Y ++ R) (P ++ srt (X ++ Y) ++ R) := by
  intro N
  induction N with
  | zero =>
    intro a m b P X Y R hN hX
    exact absurd (List.eq_nil_of_length_eq_zero (by omega)) hX
  | succ N ih =>
    intro a m b P X Y R hN hX hY sX sY hn ha hm hb hs
    have hlX := Nat.pos_of_ne_zero (fun e => hX (List.eq_nil_of_length_eq_zero e))
    have hlY := Nat.pos_of_ne_zero (fun e => hY (List.eq_nil_of_length_eq_zero e))
    have hn3 : n = P.length + X.length + Y.length + R.length := by rw [hn]; simp only [List.length_append]
    by_cases h1 : X.length = 1
    · obtain ⟨x, rfl⟩ := List.length_eq_one_iff.1 h1
      intro w S h
      have eg : gt (P ++ [x] ++ Y ++ R) a = x := by
        rw [ha, List.append_assoc, List.append_assoc]
        exact gt_app P x (Y ++ R)
      have eY : ∀ i, m ≤ i → i < b → gt (P ++ [x] ++ Y ++ R) i = gt Y (i - m) := fun i h1 h2 => by
        refine gt_mid' (P ++ [x]) Y R (i - m) i (by omega) ?_
        simp only [List.length_append, List.length_singleton] at *
        omega
      refine (sm_one g c n a m b _ w S h hn (by simp only [List.length_singleton] at hm; omega) (by omega) (by omega) hn2 hs).mono fun e w' ⟨he, i, i1, i2, i3, i4, hS⟩ => ⟨he, ?_⟩
      rw [eg] at i3 i4
      have hf := front_at (x := x) sY (i - m) (by omega)
        (by rcases i3 with h | h
            · exact .inl (by omega)
            · by_cases h0 : i = m
              · exact .inl (by omega)
              rw [eY (i - 1) (by omega) (by omega), show i - 1 - m = i - m - 1 by omega] at h
              exact .inr h)
        (by rcases i4 with h | h
            · exact .inl (by omega)
            · by_cases h0 : i = b
              · exact .inl (by omega)
              rw [eY i (by omega) (by omega)] at h
              refine .inr ?_
              have := cm_swap (gt Y (i - m)) x
              unfold le; omega)
      have hv := mvF_eq (Y.take (i - m)) P (Y.drop (i - m) ++ R) x
      have e1 : (Y.take (i - m)).length = i - m := by rw [List.length_take]; omega
      have e2 : P ++ x :: Y.take (i - m) ++ (Y.drop (i - m) ++ R) = P ++ [x] ++ Y ++ R := by
        rw [show P ++ [x] ++ Y ++ R = P ++ x :: (Y ++ R) by simp, show P ++ x :: Y.take (i - m) ++ (Y.drop (i - m) ++ R) = P ++ x :: ((Y.take (i - m) ++ Y.drop (i - m)) ++ R) by simp only [List.append_assoc, List.cons_append], List.take_append_drop]
      have e3 : P ++ Y.take (i - m) ++ x :: (Y.drop (i - m) ++ R) = P ++ (Y.take (i - m) ++ x :: Y.drop (i - m)) ++ R := by simp
      rw [e1, e2, e3, hf] at hv
      rw [ha] at hS
      rw [hv] at hS
      exact hS
    by_cases h2 : Y.length = 1
    · obtain ⟨x, rfl⟩ := List.length_eq_one_iff.1 h2
      intro w S h
      have eg : gt (P ++ X ++ [x] ++ R) m = x := by
        rw [List.append_assoc (P ++ X)]
        have := gt_app (P ++ X) x R
        rw [List.length_append, ← hm] at this
        exact this
      have eX : ∀ i, a ≤ i → i < m → gt (P ++ X ++ [x] ++ R) i = gt X (i - a) := fun i h1 h2 => by
        rw [List.append_assoc (P ++ X)]
        exact gt_mid' P X ([x] ++ R) (i - a) i (by omega) (by omega)
      refine (sm_two g c n a m b _ w S h hn (by omega) (by omega) (by simp only [List.length_singleton] at hb; omega) (by omega) hn2 hs).mono fun e w' ⟨he, i, i1, i2, i3, i4, hS⟩ => ⟨he, ?_⟩
      rw [eg] at i3 i4
      have hf := back_at (x := x) sX (i - a) (by omega)
        (by rcases i3 with h | h
            · exact .inl (by omega)
            · by_cases h0 : i = a
              · exact .inl (by omega)
              rw [eX (i - 1) (by omega) (by omega), show i - 1 - a = i - a - 1 by omega] at h
              refine .inr ?_
              have := cm_swap (gt X (i - a - 1)) x
              unfold le; omega)
        (by rcases i4 with h | h
            · exact .inl (by omega)
            · by_cases h0 : i = m
              · exact .inl (by omega)
              rw [eX i (by omega) (by omega)] at h
              exact .inr h)
      have e1 : (X.drop (i - a)).length = m - i := by rw [List.length_drop]; omega
      have hv := mvB_eq (m - i) (X.drop (i - a)) (P ++ X.take (i - a)) R x e1
      have e0 : (P ++ X.take (i - a)).length + (m - i) = m := by rw [List.length_append, List.length_take]; omega
      have e2 : P ++ X.take (i - a) ++ X.drop (i - a) ++ x :: R = P ++ X ++ [x] ++ R := by
        rw [List.append_assoc P, List.take_append_drop]; simp
      have e3 : P ++ X.take (i - a) ++ x :: X.drop (i - a) ++ R = P ++ (X.take (i - a) ++ x :: X.drop (i - a)) ++ R := by simp
      rw [e0, e2, e3, hf] at hv
      rw [hv] at hS
      exact hS
    · intro w S h
      refine sm_long g c n a m b ((a + b) / 2) _ _ _ (P ++ srt (X ++ Y) ++ R) w S h hn hn2 (by omega) (by omega) (by omega) rfl rfl rfl hs (fun s h3 h4 h5 h6 => ?_)
      generalize hmid : (a + b) / 2 = mid at *
      refine sm_tail g c n a m b mid s (mid + m - s) P X Y R hn hn2 ha hm hb sX sY (by omega) (by split at h3 <;> split at h4 <;> omega) (by split at h3 <;> split at h4 <;> omega) (by split at h4 <;> omega) ?_ ?_ ?_
      · rcases h6 with h6 | h6
        · split at h6
          · exact .inr (.inl (by omega))
          · exact .inl h6
        · refine .inr (.inr ?_)
          rw [show mid + m - s - 1 = mid + m - 1 - s by omega]
          exact h6
      · rcases h5 with h5 | h5
        · split at h5
          · exact .inr (.inl (by omega))
          · exact .inl h5
        · exact .inr (.inr h5)
      · intro a' m' b' P' X' Y' R' q1 q2 q3 q4 q5 q6 q7 q8 q9 q10
        exact ih a' m' b' P' X' Y' R' (by omega) q2 q3 q4 q5 q6 q7 q8 q9 (fun s h => hs s (q10 s h))
end Go.Proofs.Ytpiejdncoeldeaa.Srt
namespace Go.Proofs.Ytpiejdncoeldeaa.Srt
open Go.RowKit Go.Proofs.YtpiejdncoeldeaaW.PrintWords Go.Proofs.Ytpiejdncoeldeaa.Bs Go.Proofs.Ytpiejdncoeldeaa.Ord Go.Proofs.Ytpiejdncoeldeaa.Cm
set_option linter.unusedVariables false
set_option linter.unusedSimpArgs false
inductive Ch (B : Nat) : List ByteArray → Prop
  | last (X : List ByteArray) : X.length ≤ B → X.Pairwise le → Ch B X
  | more (X Y : List ByteArray) : X.length = B → X.Pairwise le → Ch B Y → Ch B (X ++ Y)
inductive Fu (B : Nat) : List ByteArray → Prop
  | nil : Fu B []
  | snoc (P X : List ByteArray) : Fu B P → X.length = B → X.Pairwise le → Fu B (P ++ X)
theorem Fu.ch {B : Nat} {P : List ByteArray} (h : Fu B P) : ∀ Q, Ch B Q → Ch B (P ++ Q) := by
  induction h with
  | nil => intro Q h; exact h
  | snoc P X hP hX sX ih => intro Q h; rw [List.append_assoc]; exact ih _ (.more X Q hX sX h)
theorem Ch.small {B : Nat} {Q : List ByteArray} (h : Ch B Q) (hl : Q.length ≤ B) : Q.Pairwise le := by
  cases h with
  | last X h1 h2 => exact h2
  | more X Y h1 h2 h3 =>
    rw [List.length_append] at hl
    have : Y = [] := List.eq_nil_of_length_eq_zero (by omega)
    subst this; rw [List.append_nil]; exact h2
theorem Ch.one {B : Nat} {Q : List ByteArray} (h : Ch B Q) (hl : B < Q.length) : ∃ X Y, Q = X ++ Y ∧ X.length = B ∧ X.Pairwise le ∧ Ch B Y := by
  cases h with
  | last X h1 h2 => omega
  | more X Y h1 h2 h3 => exact ⟨X, Y, rfl, h1, h2, h3⟩
theorem Ch.two {B : Nat} {Q : List ByteArray} (hB : 0 < B) (h : Ch B Q) (hl : 2 * B ≤ Q.length) : ∃ X Y R, Q = X ++ Y ++ R ∧ X.length = B ∧ Y.length = B ∧ X.Pairwise le ∧ Y.Pairwise le ∧ Ch B R := by
  obtain ⟨X, Y, rfl, h1, h2, h3⟩ := h.one (by omega)
  rw [List.length_append] at hl
  by_cases h4 : Y.length ≤ B
  · exact ⟨X, Y, [], by simp, h1, by omega, h2, h3.small h4, .last [] (by simp) (by simp)⟩
  · obtain ⟨Y1, R, rfl, g1, g2, g3⟩ := h3.one (by omega)
    exact ⟨X, Y1, R, by simp, h1, g1, h2, g2, g3⟩
theorem st_seg {l P Q Q' : List ByteArray} {R : List ByteArray} (h : St l (P ++ Q ++ R)) (g : St Q Q') : St l (P ++ Q' ++ R) :=
  h.trans (((St.refl P).app g).app (St.refl R))
theorem st_size {l m : List ByteArray} (h : St l m) (hs : ∀ s, s ∈ l → s.size ≤ 1000000) : ∀ s, s ∈ m → s.size ≤ 1000000 := fun s h1 => hs s (h.symm.mem h1)
structure Mg (l : List ByteArray) (B : Nat) (P Q : List ByteArray) : Prop where
  st : St l (P ++ Q)
  fu : Fu (2 * B) P
  ch : Ch B Q
theorem Mg.step {l : List ByteArray} {B : Nat} {P Q : List ByteArray} (h : Mg l B P Q) (hB : 0 < B) (hl : 2 * B ≤ Q.length) :
    ∃ X Y R, Q = X ++ Y ++ R ∧ X.length = B ∧ Y.length = B ∧ X.Pairwise le ∧ Y.Pairwise le ∧ Mg l B (P ++ srt (X ++ Y)) R := by
  obtain ⟨X, Y, R, rfl, h1, h2, h3, h4, h5⟩ := h.ch.two hB hl
  refine ⟨X, Y, R, rfl, h1, h2, h3, h4, ?_, .snoc _ _ h.fu (by rw [srt_len, List.length_append]; omega) (srt_st _).1, h5⟩
  have h6 := h.st
  rw [← List.append_assoc] at h6
  exact st_seg h6 (srt_st _).2
theorem Mg.tail {l : List ByteArray} {B : Nat} {P Q : List ByteArray} (h : Mg l B P Q) (hB : 0 < B) (hl : Q.length < 2 * B) (hg : B < Q.length) :
    ∃ X Y, Q = X ++ Y ∧ X.length = B ∧ 0 < Y.length ∧ X.Pairwise le ∧ Y.Pairwise le ∧ St l (P ++ srt (X ++ Y)) ∧ Ch (2 * B) (P ++ srt (X ++ Y)) := by
  obtain ⟨X, Y, rfl, h1, h2, h3⟩ := h.ch.one hg
  rw [List.length_append] at hl hg
  refine ⟨X, Y, rfl, h1, by omega, h2, h3.small (by omega), h.st.trans ((St.refl P).app (srt_st _).2), h.fu.ch _ (.last _ (by rw [srt_len, List.length_append]; omega) (srt_st _).1)⟩
theorem Mg.tail0 {l : List ByteArray} {B : Nat} {P Q : List ByteArray} (h : Mg l B P Q) (hg : Q.length ≤ B) : St l (P ++ Q) ∧ Ch (2 * B) (P ++ Q) :=
  ⟨h.st, h.fu.ch _ (.last _ (by omega) (h.ch.small hg))⟩
end Go.Proofs.Ytpiejdncoeldeaa.Srt
namespace Go.Proofs.Ytpiejdncoeldeaa.Srt
open Go.RowKit Go.Proofs.YtpiejdncoeldeaaW.PrintWords Go.Proofs.YtpiejdncoeldeaaW.PrintLast Go.Proofs.YtpiejdncoeldeaaW.PrintMore Go.Proofs.Ytpiejdncoeldeaa.Own Go.Proofs.Ytpiejdncoeldeaa.Sl Go.Proofs.Ytpiejdncoeldeaa.Bs Go.Proofs.Ytpiejdncoeldeaa.Ord Go.Proofs.Ytpiejdncoeldeaa.Cm
set_option linter.unusedVariables false
set_option linter.unusedSimpArgs false
theorem ins_seg (g c n a b : Nat) (P X R : List ByteArray) (hn : n = (P ++ X ++ R).length) (hn2 : n ≤ 100000) (ha : a = P.length) (hb : b = P.length + X.length) (hs : ∀ s, s ∈ P ++ X ++ R → s.size ≤ 1000000) (w : World) (S : Nat → Prop) (h : Hs w S [rw_ g n c (P ++ X ++ R)]) :
    Calls Try.prog 27 #[.slice (some ⟨g, 0, none⟩) n c, .int .i64 (a : Int), .int .i64 (b : Int), .func (.func 25) #[] #[]] w fun e w' => e = .returned (.tuple #[]) ∧ Sp w S [rw_ g n c (P ++ srt X ++ R)] w' := by
  subst ha hb
  have hn3 : n = P.length + X.length + R.length := by rw [hn]; simp only [List.length_append]
  have h1 := ins_any g c n P.length (P.length + X.length) _ w S h hn (by omega) (by omega) hn2 hs
  rw [show P.length + X.length - (P.length + 1) = X.length - 1 by omega, insF_seg] at h1
  exact h1
set_option maxHeartbeats 8000000 in
set_option maxRecDepth 100000 in
theorem stable_big (g c n : Nat) (l : List ByteArray) (w : World) (S : Nat → Prop) (h : Hs w S [rw_ g n c l]) (hn : n = l.length) (hn1 : 20 ≤ n) (hn2 : n ≤ 100000) (hs : ∀ s, s ∈ l → s.size ≤ 1000000) :
    Calls Try.prog 26 #[.slice (some ⟨g, 0, none⟩) n c, .int .i64 (n : Int), .func (.func 25) #[] #[]] w fun e w' => e = .returned (.tuple #[]) ∧ Sp w S [rw_ g n c (srt l)] w' := by
  have hS := Sp.start h
  have HN := Aside0.mk (show 20 ≤ n ∧ n ≤ 100000 ∧ n = l.length from ⟨hn1, hn2, hn⟩)
  have HSZ := Aside0.mk hs
  have hni : (n : Int) ≤ 100000 := by omega
  have HSL := Aside0.mk (fun m (h1 : m.Pairwise le) (h2 : St l m) => srt_one h1 h2)
  clear h hn hn1 hn2 hs
  go_enter Try.func26, Try.ntmps26
  go_wp2
  go_loopg [7, 8] (n + 1) (fun gk v7 v8 wr => ∃ (a b : Nat) (P Q : List ByteArray), v7 = .int .i64 (a : Int) ∧ v8 = .int .i64 (b : Int) ∧ Aside0 (a = P.length ∧ b = a + 20 ∧ Fu 20 P ∧ St l (P ++ Q) ∧ n = P.length + Q.length ∧ n - a < gk) ∧ Aside0 (Sp w S [rw_ g n c (P ++ Q)] wr))
  case atStart => exact ⟨0, 20, [], l, rfl, rfl, ⟨rfl, rfl, .nil, St.refl _, by simpa using HN.out.2.2, by omega⟩, ⟨hS⟩⟩
  case round =>
    clear hS
    obtain ⟨a, b, P, Q, rfl, rfl, HI, HS⟩ := hrel
    have hS := HS.out
    clear HS
    have ha1 : (a : Int) ≤ 100000 := by have := HI.out; omega
    have ha0 : (0 : Int) ≤ (a : Int) := by omega
    have hb1 : (b : Int) ≤ 100020 := by have := HI.out; omega
    have hb0 : (0 : Int) ≤ (b : Int) := by omega
    by_cases hlt : b ≤ n
    · have hd : decide (b ≤ n) = true := decide_eq_true hlt
      have HX := Aside0.mk (show ∃ X R, Q = X ++ R ∧ X.length = 20 from ⟨Q.take 20, Q.drop 20, (List.take_append_drop _ _).symm, by rw [List.length_take]; have := HI.out; omega⟩)
      obtain ⟨X, R, rfl, hX⟩ := HX.out
      have HX2 := Aside0.mk hX
      rw [← List.append_assoc] at hS
      have hst : St l (P ++ X ++ R) := by have := HI.out.2.2.2.1; rw [← List.append_assoc] at this; exact this
      have HC := Aside0.mk (ins_seg g c n a b P X R (by have := HI.out; simp only [List.length_append] at *; omega) HN.out.2.1 HI.out.1 (by have := HI.out; omega) (st_size hst HSZ.out))
      have HNX := Aside0.mk (show b = (P ++ srt X).length ∧ Fu 20 (P ++ srt X) ∧ St l ((P ++ srt X) ++ R) ∧ n = (P ++ srt X).length + R.length ∧ n - b < gk - 1 by
        have h1 := HI.out
        have h2 := srt_len X
        refine ⟨by rw [List.length_append]; omega, .snoc _ _ h1.2.2.1 (by omega) (srt_st X).1, st_seg hst (srt_st X).2, ?_, by omega⟩
        have h3 := h1.2.2.2.2.1
        rw [List.length_append] at h3 ⊢
        omega)
      have HAB := Aside0.mk hlt
      have HGK := Aside0.mk (show gk - 1 < gk by have := HI.out; omega)
      clear hX hst HX hlt HI
      go_wp2_with (first
        | (go_at_call 27
           (with_reducible refine (HC.out _ (hS.ft 1) (by exact hS.pre1)).mono ?_)
           rintro e w6 ⟨rfl, hq⟩
           replace hS := hS.post1 hq))
      go_roundg (gk - 1)
      case measure => have := HGK.out; omega
      case rel => exact ⟨b, b + 20, P ++ srt X, R, rfl, by simp, ⟨HNX.out.1, rfl, HNX.out.2.1, HNX.out.2.2.1, HNX.out.2.2.2.1, HNX.out.2.2.2.2⟩, ⟨hS.lt⟩⟩
    have hd : decide (b ≤ n) = false := decide_eq_false hlt
    have hst : St l (P ++ Q ++ []) := by rw [List.append_nil]; exact HI.out.2.2.2.1
    have HC := Aside0.mk (ins_seg g c n a n P Q [] (by have := HI.out; simp only [List.length_append, List.length_nil] at *; omega) HN.out.2.1 HI.out.1 (by have := HI.out; omega) (st_size hst HSZ.out))
    rw [List.append_nil, List.append_nil] at HC
    have HM := Aside0.mk (show St l (P ++ srt Q) ∧ Ch 20 (P ++ srt Q) ∧ n = (P ++ srt Q).length by
      have h1 := HI.out
      have h2 := srt_len Q
      refine ⟨by have := st_seg hst (srt_st Q).2; rw [List.append_nil] at this; exact this, h1.2.2.1.ch _ (.last _ (by omega) (srt_st Q).1), ?_⟩
      rw [List.length_append]; omega)
    obtain ⟨Y, hY⟩ : ∃ Y, P ++ srt Q = Y := ⟨_, rfl⟩
    rw [hY] at HC HM
    clear hlt hst HI hY
    go_upto_block 2 with (first
      | (go_at_call 27
         (with_reducible refine (HC.out _ (hS.ft 1) (by exact hS.pre1)).mono ?_)
         rintro e w6 ⟨rfl, hq⟩
         replace hS := hS.post1 hq))
    clear hd ha0 ha1 hb0 hb1
    go_wp2_with (fail)
    go_loopg [6] (n + 1) (fun gk v6 wr => ∃ (B : Nat) (Y : List ByteArray), v6 = .int .i64 (B : Int) ∧ Aside0 (0 < B ∧ B ≤ 200000 ∧ n - B < gk ∧ St l Y ∧ Ch B Y ∧ n = Y.length) ∧ Aside0 (Sp w S [rw_ g n c Y] wr))
    case atStart => exact ⟨20, Y, rfl, ⟨by decide, by decide, by have := HN.out; omega, HM.out⟩, ⟨hS.lt⟩⟩
    case round =>
      clear hS HM HC
      obtain ⟨B, Y, rfl, HB, HS⟩ := hrel
      obtain ⟨gko, hgko⟩ : ∃ q, q = gk := ⟨_, rfl⟩
      rw [← hgko] at HB
      have hS := HS.out
      clear HS
      have hB0 : (0 : Int) ≤ (B : Int) := by omega
      have hB1 : (B : Int) ≤ 200000 := by have := HB.out; omega
      by_cases hlt : B < n
      case neg =>
        have hd : decide (B < n) = false := decide_eq_false hlt
        have HE := Aside0.mk (show Y = srt l from HSL.out Y (HB.out.2.2.2.2.1.small (by have := HB.out; omega)) HB.out.2.2.2.1)
        rw [HE.out] at hS
        clear hlt HB HE
        go_wp2
        go_end0
        exact ⟨rfl, hS⟩
      have hd : decide (B < n) = true := decide_eq_true hlt
      obtain ⟨D, hD⟩ : ∃ D, 2 * B = D := ⟨_, rfl⟩
      have d1 : 2 * (B : Int) = (D : Int) := by omega
      have d1' : (B : Int) * 2 = (D : Int) := by omega
      have d2 : IntKind.i64.wrap (D : Int) = (D : Int) := by rw [IntKind.wrap_i64]; omega
      have HD := Aside0.mk (And.intro hD hlt)
      have hD1 : (D : Int) ≤ 200000 := by have := HN.out; omega
      clear hlt hD
      go_upto_block 4 with (fail)
      go_wp2_with (fail)
      go_loopg [7, 8] (n + 1) (fun gk2 v7 v8 wr => ∃ (a b : Nat) (P Q : List ByteArray), v7 = .int .i64 (a : Int) ∧ v8 = .int .i64 (b : Int) ∧ Aside0 (a = P.length ∧ b = a + D ∧ Mg l B P Q ∧ n = P.length + Q.length ∧ n - a < gk2) ∧ Aside0 (Sp w S [rw_ g n c (P ++ Q)] wr))
      case atStart => exact ⟨0, D, [], Y, rfl, rfl, ⟨rfl, (Nat.zero_add D).symm, ⟨HB.out.2.2.2.1, .nil, HB.out.2.2.2.2.1⟩, by simpa using HB.out.2.2.2.2.2, by omega⟩, ⟨hS⟩⟩
      case round =>
        clear hS
        obtain ⟨a, b, P, Q, rfl, rfl, HI, HS⟩ := hrel
        have hS := HS.out
        clear HS
        have ha1 : (a : Int) ≤ 100000 := by have := HI.out; have := HN.out; omega
        have ha0 : (0 : Int) ≤ (a : Int) := by omega
        have hb1 : (b : Int) ≤ 300000 := by have := HI.out; omega
        have hb0 : (0 : Int) ≤ (b : Int) := by omega
        obtain ⟨m, hm⟩ : ∃ m, a + B = m := ⟨_, rfl⟩
        have m1 : (a : Int) + (B : Int) = (m : Int) := by omega
        have m2 : IntKind.i64.wrap (m : Int) = (m : Int) := by rw [IntKind.wrap_i64]; omega
        have hst : ∀ R, Q = R → St l (P ++ R) := fun R e => by rw [← e]; exact HI.out.2.2.1.st
        by_cases hlt : b ≤ n
        · have hd3 : decide (b ≤ n) = true := decide_eq_true hlt
          obtain ⟨X, Z, R, hQ, h1, h2, h3, h4, h5⟩ := HI.out.2.2.1.step HB.out.1 (by have := HI.out; have := HD.out; omega)
          have hst := hst _ hQ
          have HE2 := Aside0.mk (show P ++ Q = P ++ X ++ Z ++ R by rw [hQ]; simp)
          have HC := Aside0.mk (sm_any g c n HN.out.2.1 (X.length + Z.length) a m b P X Z R (Nat.le_refl _) (fun e => by rw [e] at h1; simp at h1; have := HB.out; omega) (fun e => by rw [e] at h2; simp at h2; have := HB.out; omega) h3 h4
            (by have := HI.out.2.2.2.1; rw [hQ] at this; simp only [List.length_append] at *; omega) HI.out.1 (by have := HI.out; omega) (by have := HI.out; have := HD.out; omega) (st_size (by rw [← HE2.out, hQ]; exact hst) HSZ.out))
          unfold SmOk at HC
          rw [HE2.out] at hS
          have HNX := Aside0.mk (show b = (P ++ srt (X ++ Z)).length ∧ Mg l B (P ++ srt (X ++ Z)) R ∧ n = (P ++ srt (X ++ Z)).length + R.length ∧ n - b < gk - 1 ∧ gk - 1 < gk by
            have q1 := HI.out
            have q2 := srt_len (X ++ Z)
            have q3 := HD.out
            have q4 := HB.out
            have q5 := q1.2.2.2.1
            rw [hQ] at q5
            simp only [List.length_append] at q2 q5 ⊢
            exact ⟨by omega, h5, by omega, by omega, by omega⟩)
          obtain ⟨e, he⟩ : ∃ e, b + D = e := ⟨_, rfl⟩
          have z1 : (b : Int) + (D : Int) = (e : Int) := by omega
          have z2 : IntKind.i64.wrap (e : Int) = (e : Int) := by rw [IntKind.wrap_i64]; omega
          have HEE := Aside0.mk he.symm
          clear hst HE2 hQ h1 h2 h3 h4 h5 hlt HI hm he
          go_wp2_with (first
            | (go_at_call 28
               (with_reducible refine (HC.out _ _ (by exact hS.pre1)).mono ?_)
               rintro e w6 ⟨rfl, hq⟩
               replace hS := hS.post1 hq))
          go_roundg (gk - 1)
          case measure => have := HNX.out; omega
          case rel => exact ⟨b, e, P ++ srt (X ++ Z), R, rfl, rfl, ⟨HNX.out.1, HEE.out, HNX.out.2.1, HNX.out.2.2.1, HNX.out.2.2.2.1⟩, ⟨hS.lt⟩⟩
        have hd3 : decide (b ≤ n) = false := decide_eq_false hlt
        have HGK := Aside0.mk (show gko - 1 < gko ∧ n - D < gko - 1 ∧ 0 < D ∧ D ≤ 200000 by have := HB.out; have := HD.out; have := HN.out; omega)
        by_cases hmn : m < n
        · have hd4 : decide (m < n) = true := decide_eq_true hmn
          obtain ⟨X, Z, hQ, h1, h2, h3, h4, h5, h6⟩ := HI.out.2.2.1.tail HB.out.1 (by have := HI.out; have := HD.out; omega) (by have := HI.out; omega)
          have hst := hst _ hQ
          have HE2 := Aside0.mk (show P ++ Q = P ++ X ++ Z ++ [] by rw [hQ]; simp)
          have HC := Aside0.mk (sm_any g c n HN.out.2.1 (X.length + Z.length) a m n P X Z [] (Nat.le_refl _) (fun e => by rw [e] at h1; simp at h1; have := HB.out; omega) (fun e => by rw [e] at h2; simp at h2) h3 h4
            (by have := HI.out.2.2.2.1; rw [hQ] at this; simp only [List.length_append, List.length_nil] at *; omega) HI.out.1 (by have := HI.out; omega) (by have := HI.out.2.2.2.1; rw [hQ, List.length_append] at this; omega) (st_size (by rw [← HE2.out, hQ]; exact hst) HSZ.out))
          unfold SmOk at HC
          rw [HE2.out] at hS
          rw [List.append_nil (P ++ srt (X ++ Z))] at HC
          have HNX := Aside0.mk (show St l (P ++ srt (X ++ Z)) ∧ Ch D (P ++ srt (X ++ Z)) ∧ n = (P ++ srt (X ++ Z)).length by
            rw [← HD.out.1]
            refine ⟨h5, h6, ?_⟩
            have q5 := HI.out.2.2.2.1
            have q2 := srt_len (X ++ Z)
            rw [hQ] at q5
            simp only [List.length_append] at q2 q5 ⊢
            omega)
          clear hst HE2 hQ h1 h2 h3 h4 h5 h6 hlt HI hm hmn
          go_wp2_with (first
            | (go_at_call 28
               (with_reducible refine (HC.out _ _ (by exact hS.pre1)).mono ?_)
               rintro e w6 ⟨rfl, hq⟩
               replace hS := hS.post1 hq))
          go_roundg (gko - 1)
          case measure => have := HGK.out; omega
          case rel => exact ⟨D, P ++ srt (X ++ Z), rfl, ⟨HGK.out.2.2.1, HGK.out.2.2.2, HGK.out.2.1, HNX.out⟩, ⟨hS.lt⟩⟩
        · have hd4 : decide (m < n) = false := decide_eq_false hmn
          have HNX := Aside0.mk (show St l (P ++ Q) ∧ Ch D (P ++ Q) ∧ n = (P ++ Q).length by
            rw [← HD.out.1]
            have q := HI.out.2.2.1.tail0 (by have := HI.out; omega)
            exact ⟨q.1, q.2, by rw [List.length_append]; exact HI.out.2.2.2.1⟩)
          clear hst hlt HI hm hmn
          go_wp2
          go_roundg (gko - 1)
          case measure => have := HGK.out; omega
          case rel => exact ⟨D, P ++ Q, rfl, ⟨HGK.out.2.2.1, HGK.out.2.2.2, HGK.out.2.1, HNX.out⟩, ⟨hS.lt⟩⟩
end Go.Proofs.Ytpiejdncoeldeaa.Srt
namespace Go.Proofs.Ytpiejdncoeldeaa.Srt
open Go.RowKit Go.Proofs.YtpiejdncoeldeaaW.PrintWords Go.Proofs.YtpiejdncoeldeaaW.PrintLast Go.Proofs.YtpiejdncoeldeaaW.PrintMore Go.Proofs.Ytpiejdncoeldeaa.Own Go.Proofs.Ytpiejdncoeldeaa.Sl Go.Proofs.Ytpiejdncoeldeaa.Bs Go.Proofs.Ytpiejdncoeldeaa.Ord Go.Proofs.Ytpiejdncoeldeaa.Cm
set_option linter.unusedVariables false
set_option linter.unusedSimpArgs false
theorem stable_all (A : Option Addr) (c n : Nat) (xs : List ByteArray) (w : World) (S : Nat → Prop) (h : Hs w S [row Kd.string 9 (.slice A n c) xs]) (hn : n = xs.length) (hn2 : n ≤ 100000) (hs : ∀ s, s ∈ xs → s.size ≤ 1000000) :
    Calls Try.prog 26 #[.slice A n c, .int .i64 (n : Int), .func (.func 25) #[] #[]] w fun e w' => e = .returned (.tuple #[]) ∧ Sp w S [row Kd.string 9 (.slice A n c) (srt xs)] w' := by
  by_cases h20 : n < 20
  · exact stable_small A c n xs w S h hn h20 hs
  · subst hn
    obtain ⟨g, cap, hv, _⟩ := Kd.R_form ((Sp.start h).row 0) (by omega)
    cases hv
    exact stable_big g c xs.length xs w S h rfl (by omega) hn2 hs
set_option maxHeartbeats 4000000 in
set_option maxRecDepth 100000 in
theorem sort_all (A : Option Addr) (c : Nat) (l : List ByteArray) (w : World) (S' : Nat → Prop) (hR : Kd.string.R 9 w 0 S' (.slice A l.length c) l) (hl : l.length ≤ 100000) (hs : ∀ s, s ∈ l → s.size ≤ 1000000) :
    Calls Try.prog 19 #[.slice A l.length c] w fun e w' => ∃ A2 c2, e = .returned (.slice A2 l.length c2) ∧ Sp w None0 [row Kd.string 9 (.slice A2 l.length c2) (srt l)] w' := by
  have HC := Aside0.mk (clone_any A c l w S' hR hl)
  have HS := Aside0.mk (fun (A2 : Option Addr) (c2 : Nat) (W : World) (S : Nat → Prop) h => stable_all A2 c2 l.length l W S h rfl hl hs)
  obtain ⟨n, hn⟩ : ∃ n, l.length = n := ⟨_, rfl⟩
  rw [hn] at HC HS ⊢
  clear hR hl hs hn
  have HF : ∀ A2 c2 W S, Hs W S [row Kd.string 9 (.slice A2 n c2) l] → Calls Try.prog 24 #[.slice A2 n c2, .func (.func 25) #[] #[]] W fun e w' => e = .returned (.tuple #[]) ∧ Sp W S [row Kd.string 9 (.slice A2 n c2) (srt l)] w' := by
    intro A2 c2 W S h
    have HH := Aside0.mk (HS.out A2 c2 W S h)
    clear h HC
    go_enter Try.func24, Try.ntmps24
    go_wp2_with (first
      | (go_at_call 26
         (with_reducible refine HH.out.mono ?_)
         rintro e w3 ⟨rfl, hq⟩
         have HQ := Aside0.mk hq
         clear hq))
    go_end0
    exact ⟨rfl, HQ.out⟩
  have HFA := Aside0.mk HF
  clear HF HS
  go_enter Try.func19, Try.ntmps19
  go_wp2_with (first
    | (go_at_call 23
       (with_reducible refine HC.out.mono ?_)
       rintro e w3 ⟨A2, c2, rfl, hS⟩)
    | (go_at_call 24
       (with_reducible refine (HFA.out A2 c2 _ (hS.ft 1) (by exact hS.pre1)).mono ?_)
       rintro e w4 ⟨rfl, hq⟩
       replace hS := hS.post1 hq))
  go_ret
  exact ⟨A2, c2, rfl, hS.lt⟩
end Go.Proofs.Ytpiejdncoeldeaa.Srt
namespace Go.Proofs.Ytpiejdncoeldeaa.Sr
open Go.RowKit Go.Proofs.YtpiejdncoeldeaaW.PrintWords Go.Proofs.YtpiejdncoeldeaaW.PrintLast Go.Proofs.YtpiejdncoeldeaaW.PrintMore Go.Proofs.Ytpiejdncoeldeaa.Own Go.Proofs.Ytpiejdncoeldeaa.Sl Go.Proofs.Ytpiejdncoeldeaa.Cm Go.Proofs.Ytpiejdncoeldeaa.Ord Go.Proofs.Ytpiejdncoeldeaa.Bs
attribute [local go_sem] max2_int min2_int max_two min_two
set_option linter.unusedSimpArgs false
set_option linter.unusedVariables false
theorem info5 : (Try.prog.info? 5).map (fun i => (i.zero, i.size, i.bytes)) = some (some (.int .u8 0), 1, 1) := by kernel_rfl
def soL (g : Nat) (most : Int) (last now : List Int) (bg : Bool) (ov : Int) (Al : Option Addr) (cl : Nat) (An : Option Addr) (cn : Nat) : List Ast :=
  [blk g #[.int .i64 most, .slice Al last.length cl, .slice An now.length cn, .bool bg, .int .i64 ov] 47, row (Kd.int .u8) 5 (.slice Al last.length cl) last, row (Kd.int .u8) 5 (.slice An now.length cn) now]
def so (g : Nat) (most : Int) (last now : List Int) (bg : Bool) (ov : Int) : Ast := ex fun (q : (Option Addr × Nat) × (Option Addr × Nat)) => sep (soL g most last now bg ov q.1.1 q.1.2 q.2.1 q.2.2)
section
variable {w0 w W : World} {S : Nat → Prop} {l : List Ast} {g : Nat} {most ov : Int} {last now : List Int} {bg : Bool}
theorem so_open (h : Hs w S [so g most last now bg ov]) : ∃ Al cl An cn, Sp w S (soL g most last now bg ov Al cl An cn) w := by
  obtain ⟨⟨⟨Al, cl⟩, ⟨An, cn⟩⟩, h⟩ := (Sp.start h).ex0
  have := h.flat
  rw [List.append_nil] at this
  exact ⟨_, _, _, _, this⟩
theorem so_shut {Al An : Option Addr} {cl cn : Nat} (h : Sp w0 S (soL g most last now bg ov Al cl An cn) w) : Sp w0 S [so g most last now bg ov] w :=
  Sp.exI ((Al, cl), (An, cn)) (Sp.fold _ (by rw [List.append_nil]; exact h))
end
set_option maxHeartbeats 4000000 in
set_option maxRecDepth 100000 in
theorem push_over (g : Nat) (most : Int) (last now : List Int) (bg : Bool) (ov b : Int) (w : World) (S : Nat → Prop) (h : Hs w S [so g most last now bg ov]) (ho : ov ≠ 0) :
    Calls Try.prog 13 #[.pointer (some ⟨g, 0, none⟩), .int .u8 b] w fun e w' => e = .returned (.int .i64 ov) ∧ Sp w S [so g most last now bg ov] w' := by
  obtain ⟨Al, cl, An, cn, hS⟩ := so_open h
  obtain ⟨hc0, hc1, hc2, hc3, hc4⟩ := hS.cells5 0
  have ho1 : (ov == 0) = false := beq_eq_false_iff_ne.2 ho
  clear h ho
  go_enter Try.func13, Try.ntmps13
  go_wp2
  go_quiet (fail)
  go_wp2
  go_ret
  exact ⟨rfl, so_shut hS.lt⟩
set_option maxHeartbeats 4000000 in
set_option maxRecDepth 100000 in
theorem push_full (g : Nat) (most : Int) (last now : List Int) (bg : Bool) (b : Int) (w : World) (S : Nat → Prop) (h : Hs w S [so g most last now bg 0]) (ho : (now.length : Int) = most) :
    Calls Try.prog 13 #[.pointer (some ⟨g, 0, none⟩), .int .u8 b] w fun e w' => e = .returned (.int .i64 11) ∧ Sp w S [so g most last now bg 11] w' := by
  obtain ⟨Al, cl, An, cn, hS⟩ := so_open h
  obtain ⟨hc0, hc1, hc2, hc3, hc4⟩ := hS.cells5 0
  have ho1 : ((now.length : Int) == most) = true := beq_iff_eq.2 ho
  clear h
  go_enter Try.func13, Try.ntmps13
  go_wp2
  go_quiet (fail)
  go_wp2_with (first
    | ((with_reducible refine gate_store (t := 32) (p := 24) (v := .const (.int .i64 11)) rfl ?_)
       refine sp_cell hS 0 rfl 32 (.tmp 24) (.const (.int .i64 11)) rfl rfl g 4 (.int .i64 11) rfl rfl 47 _ _ rfl (by kernel_rfl) (by simp) rfl rfl rfl ?_
       clear hc0 hc1 hc2 hc3 hc4
       intro w1 (hS : Sp w S (soL g most last now bg 11 Al cl An cn) w1)
       obtain ⟨hc0, hc1, hc2, hc3, hc4⟩ := hS.cells5 0))
  go_ret
  exact ⟨rfl, so_shut hS.lt⟩
set_option maxHeartbeats 4000000 in
set_option maxRecDepth 100000 in
theorem push_more (g : Nat) (most : Int) (last now : List Int) (bg : Bool) (b : Int) (w : World) (S : Nat → Prop) (h : Hs w S [so g most last now bg 0]) (ho : (now.length : Int) ≠ most) (hl : now.length ≤ 100000) :
    Calls Try.prog 13 #[.pointer (some ⟨g, 0, none⟩), .int .u8 b] w fun e w' => e = .returned (.int .i64 0) ∧ Sp w S [so g most last (now ++ [b]) bg 0] w' := by
  obtain ⟨Al, cl, An, cn, hS⟩ := so_open h
  obtain ⟨hc0, hc1, hc2, hc3, hc4⟩ := hS.cells5 0
  have ho1 : ((now.length : Int) == most) = false := beq_eq_false_iff_ne.2 ho
  have HL := Aside0.mk (show (now.length + 1) * 1 ≤ 140737488355328 by omega)
  obtain ⟨ys, hys⟩ : ∃ ys, now ++ [b] = ys := ⟨_, rfl⟩
  have HY := Aside0.mk hys
  rw [hys]
  clear h ho hl hys
  go_enter Try.func13, Try.ntmps13
  go_wp2
  go_quiet (fail)
  go_wp2_with (first
    | ((with_reducible refine gate_builtin (b := .append) (xs := #[.tmp 34, .tmp 36]) rfl ?_); at_builtin
       refine sp_app (Kd.int .u8) hS 2 rfl (.tmp 34) (.tmp 36) 45 5 (.int .u8 0) 1 rfl Try.underlying45 info5 rfl (by decide) (by decide) (.slice An now.length cn) now b [.int .u8 b] rfl rfl (by exact rfl) rfl HL.out ys HY.out _ (fun _ _ => rfl) ?_
       clear hc0 hc1 hc2 hc3 hc4
       intro A2 c2 w1 hS)
    | ((with_reducible refine gate_store (t := 45) (p := 39) (v := .tmp 37) rfl ?_)
       refine sp_cell hS 0 rfl 45 (.tmp 39) (.tmp 37) rfl rfl g 2 (.slice A2 ys.length c2) rfl rfl 47 _ _ rfl (by kernel_rfl) (by simp) rfl rfl rfl ?_
       intro w2 hS
       obtain ⟨hc0, hc1, hc2, hc3, hc4⟩ := hS.cells5 0))
  go_ret
  exact ⟨rfl, so_shut hS.lt⟩
theorem so_turn {w0 w : World} {S : Nat → Prop} {g : Nat} {most : Int} {last now : List Int} {bg : Bool} {Al An : Option Addr} {cl cn : Nat} (hS : Sp w0 S (soL g most last now bg 0 Al cl An cn) w) :
    Sp w0 S [so g most now [] true 0] (((w.setCell ⟨g, 1, none⟩ (.slice An now.length cn)).setCell ⟨g, 2, none⟩ (.slice Al 0 cl)).setCell ⟨g, 3, none⟩ (.bool true)) := by
  have h1 := ((hS.set_ 0 1 (.slice An now.length cn)).set_ 0 2 (.slice Al 0 cl)).set_ 0 3 (.bool true)
  have h2 := h1.turn 1 _ (row (Kd.int .u8) 5 (.slice Al 0 cl) []) rfl (fun T hT => Kd.R_take hT (Nat.zero_le _))
  exact so_shut (Al := An) (cl := cn) (An := Al) (cn := cl) (h2.sel [0, 2, 1])
set_option maxHeartbeats 4000000 in
set_option maxRecDepth 100000 in
theorem end_first (g : Nat) (most : Int) (last now : List Int) (w : World) (S : Nat → Prop) (h : Hs w S [so g most last now false 0]) :
    Calls Try.prog 15 #[.pointer (some ⟨g, 0, none⟩)] w fun e w' => e = .returned (.int .i64 0) ∧ Sp w S [so g most now [] true 0] w' := by
  obtain ⟨Al, cl, An, cn, hS⟩ := so_open h
  obtain ⟨hc0, hc1, hc2, hc3, hc4⟩ := hS.cells5 0
  have hf := hS.fz 0
  clear h
  go_enter Try.func15, Try.ntmps15
  go_wp2
  go_quiet (fail)
  go_wp2
  go_region
  go_wp2
  go_ret
  exact ⟨rfl, so_turn (by exact hS.lt)⟩
theorem conv {w0 w : World} {S : Nat → Prop} {l : List Ast} {A : Option Addr} {c : Nat} {xs : List Int} (h : Sp w0 S l w) (i : Nat) (hi : l[i]? = some (row (Kd.int .u8) 5 (.slice A xs.length c) xs) := by rfl) : ∀ n, (convert 45 9 (.slice A xs.length c)).run Try.prog (w.drewN n) = .ok (.string (strOfNums xs)) (w.drewN n) :=
  fun n => own_string (P := Try.prog) Try.underlying45 Try.underlying5 Try.underlying9 (Kd.own_of_R (Kd.R_drewN (h.row i hi) n))
set_option maxHeartbeats 4000000 in
set_option maxRecDepth 100000 in
theorem end_ok (g : Nat) (most : Int) (last now : List Int) (c : Int) (w : World) (S : Nat → Prop) (h : Hs w S [so g most last now true 0]) (hb : Bytes last ∧ Bytes now ∧ last.length ≤ 1000000 ∧ now.length ≤ 1000000) (hc : Cmp (seq last) (seq now) c) (h0 : c ≤ 0) :
    Calls Try.prog 15 #[.pointer (some ⟨g, 0, none⟩)] w fun e w' => e = .returned (.int .i64 0) ∧ Sp w S [so g most now [] true 0] w' := by
  obtain ⟨Al, cl, An, cn, hS⟩ := so_open h
  have HC := Aside0.mk (cmp_nums hb hc)
  obtain ⟨hc0, hc1, hc2, hc3, hc4⟩ := hS.cells5 0
  have hf := hS.fz 0
  have hv1 := conv hS 1
  have hv2 := conv hS 2
  have hd1 : decide (0 < c) = false := by simp; omega
  clear h hc hb
  go_enter Try.func15, Try.ntmps15
  go_wp2
  go_quiet ((go_at_call 9; exact qleft (HC.out _)))
  go_wp2
  go_region
  go_wp2
  go_ret
  exact ⟨rfl, so_turn (by exact hS.lt)⟩
set_option maxHeartbeats 4000000 in
set_option maxRecDepth 100000 in
theorem end_bad (g : Nat) (most : Int) (last now : List Int) (c : Int) (w : World) (S : Nat → Prop) (h : Hs w S [so g most last now true 0]) (hb : Bytes last ∧ Bytes now ∧ last.length ≤ 1000000 ∧ now.length ≤ 1000000) (hc : Cmp (seq last) (seq now) c) (h0 : 0 < c) :
    Calls Try.prog 15 #[.pointer (some ⟨g, 0, none⟩)] w fun e w' => e = .returned (.int .i64 9) ∧ Sp w S [so g most last now true 9] w' := by
  obtain ⟨Al, cl, An, cn, hS⟩ := so_open h
  have HC := Aside0.mk (cmp_nums hb hc)
  obtain ⟨hc0, hc1, hc2, hc3, hc4⟩ := hS.cells5 0
  have hv1 := conv hS 1
  have hv2 := conv hS 2
  have hd1 : decide (0 < c) = true := by simpa using h0
  clear h hc hb h0
  go_enter Try.func15, Try.ntmps15
  go_wp2
  go_quiet ((go_at_call 9; exact qleft (HC.out _)))
  clear hv1 hv2
  go_wp2_with (first
    | ((with_reducible refine gate_store (t := 32) (p := 32) (v := .const (.int .i64 9)) rfl ?_)
       refine sp_cell hS 0 rfl 32 (.tmp 32) (.const (.int .i64 9)) rfl rfl g 4 (.int .i64 9) rfl rfl 47 _ _ rfl (by kernel_rfl) (by simp) rfl rfl rfl ?_
       clear hc0 hc1 hc2 hc3 hc4
       intro w1 (hS : Sp w S (soL g most last now true 9 Al cl An cn) w1)
       obtain ⟨hc0, hc1, hc2, hc3, hc4⟩ := hS.cells5 0))
  go_ret
  exact ⟨rfl, so_shut hS.lt⟩
theorem so_clear {w0 w : World} {S : Nat → Prop} {g : Nat} {most ov : Int} {last now : List Int} {bg : Bool} {Al An : Option Addr} {cl cn : Nat} (hS : Sp w0 S (soL g most last now bg ov Al cl An cn) w) :
    Sp w0 S [so g most [] [] false 0] (((((w.setCell ⟨g, 0, none⟩ (.int .i64 most)).setCell ⟨g, 1, none⟩ (.slice Al 0 cl)).setCell ⟨g, 2, none⟩ (.slice An 0 cn)).setCell ⟨g, 3, none⟩ (.bool false)).setCell ⟨g, 4, none⟩ (.int .i64 0)) := by
  have h1 := ((((hS.set_ 0 0 (.int .i64 most)).set_ 0 1 (.slice Al 0 cl)).set_ 0 2 (.slice An 0 cn)).set_ 0 3 (.bool false)).set_ 0 4 (.int .i64 0)
  have h2 := (h1.turn 1 _ (row (Kd.int .u8) 5 (.slice Al 0 cl) []) rfl (fun T hT => Kd.R_take hT (Nat.zero_le _))).turn 2 _ (row (Kd.int .u8) 5 (.slice An 0 cn) []) rfl (fun T hT => Kd.R_take hT (Nat.zero_le _))
  exact so_shut (Al := Al) (cl := cl) (An := An) (cn := cn) h2
set_option maxHeartbeats 4000000 in
set_option maxRecDepth 100000 in
theorem reset_any (g : Nat) (most : Int) (last now : List Int) (bg : Bool) (ov : Int) (w : World) (S : Nat → Prop) (h : Hs w S [so g most last now bg ov]) :
    Calls Try.prog 17 #[.pointer (some ⟨g, 0, none⟩)] w fun e w' => e = .returned (.tuple #[]) ∧ Sp w S [so g most [] [] false 0] w' := by
  obtain ⟨Al, cl, An, cn, hS⟩ := so_open h
  obtain ⟨hc0, hc1, hc2, hc3, hc4⟩ := hS.cells5 0
  have hf := hS.fz 0
  have hu := Try.underlying47
  clear h
  go_enter Try.func17, Try.ntmps17
  go_region
  go_end0
  exact ⟨rfl, (so_clear hS).lt⟩
set_option maxHeartbeats 4000000 in
set_option maxRecDepth 100000 in
theorem new_any (m : Int) (w : World) (S : Nat → Prop) :
    Calls Try.prog 11 #[.int .i64 m] w fun e w' => ∃ g : Nat, e = .returned (.pointer (some ⟨g, 0, none⟩)) ∧ Sp w S [so g (mn (mx m 0) 65536) [] [] false 0] w' := by
  have hS := Sp.nil (w := w) (S := S)
  have hu := Try.underlying47
  obtain ⟨x, hx⟩ : ∃ x, (if m < 0 then 0 else m) = x := ⟨_, rfl⟩
  obtain ⟨y, hy⟩ : ∃ y, (if 65536 < x then 65536 else x) = y := ⟨_, rfl⟩
  have HY := Aside0.mk (show mn (mx m 0) 65536 = y by rw [← hy, ← hx]; unfold mn mx; rfl)
  go_enter Try.func11, Try.ntmps11
  go_wp2_with (first
    | ((with_reducible refine gate_dst (N := 7) rfl ?_)
       refine sp_box hS rfl (N := 7) rfl #[.int .i64 y, .slice none 0 0, .slice none 0 0, .bool false, .int .i64 0] 47 (by first | (go_simp; done) | (go_simp; rfl)) ?_
       intro g w1 hg hS))
  go_ret
  refine ⟨g, rfl, ?_⟩
  rw [HY.out]
  exact so_shut (Al := none) (cl := 0) (An := none) (cn := 0) (((hS.nilrow (Kd.int .u8) 5).nilrow (Kd.int .u8) 5).sel [2, 1, 0])
end Go.Proofs.Ytpiejdncoeldeaa.Sr
