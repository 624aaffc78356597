/- The law OrderPlays, walked: two sorters side by side, act by act. -/
import Derived.Test.YtpiejdncoeldeaaSr
import Derived.Test.YtpiejdncoeldeaaRs2
import Derived.Test.YtpiejdncoeldeaaRs3
import Derived.Test.YtpiejdncoeldeaaBRowA
import Derived.Test.YtpiejdncoeldeaaSorA
namespace Go.Proofs.Ytpiejdncoeldeaa.Pl
open Go.RowKit Go.Proofs.YtpiejdncoeldeaaW.PrintWords Go.Proofs.YtpiejdncoeldeaaW.PrintLast Go.Proofs.YtpiejdncoeldeaaW.PrintMore Go.Proofs.Ytpiejdncoeldeaa.Own Go.Proofs.Ytpiejdncoeldeaa.Sl Go.Proofs.Ytpiejdncoeldeaa.Cm Go.Proofs.Ytpiejdncoeldeaa.Ord Go.Proofs.Ytpiejdncoeldeaa.Bs Go.Proofs.Ytpiejdncoeldeaa.BRow Go.Proofs.Ytpiejdncoeldeaa.Sr Go.Proofs.Ytpiejdncoeldeaa.Rs
set_option linter.unusedVariables false
set_option linter.unusedSimpArgs false
theorem bound_eq (m : Int) : mn (mx m 0) 65536 = bound m := by unfold mn mx bound; (repeat' split) <;> omega
theorem bound_range (m : Int) : 0 ≤ bound m ∧ bound m ≤ 65536 := by unfold bound; (repeat' split) <;> omega
/-- The two states, as far as they go together: behind i acts. -/
def Go2 (i : Nat) (most : Int) (last now : List Int) (bg : Bool) (ov : Int) (all : List ByteArray) : Prop :=
  ov = 0 → Bytes last ∧ Bytes now ∧ last.length ≤ i ∧ now.length ≤ i ∧ (now.length : Int) ≤ most ∧ ((bg = false ∧ all = [strOfNums now]) ∨ (bg = true ∧ ∃ prev, prev.length ≤ i ∧ all = prev ++ [strOfNums last, strOfNums now]))
theorem nums_one (l : List Int) (b : Int) (h : Bytes l) (hb : 0 ≤ b ∧ b < 256) : strOfNums l ++ strOfNums [b] = strOfNums (l ++ [b]) := by
  apply bytesOf_inj
  have h1 : Bytes [b] := fun x hx => by obtain rfl := List.mem_singleton.1 hx; exact hb
  have h2 : Bytes (l ++ [b]) := fun x hx => (List.mem_append.1 hx).elim (h x) (h1 x)
  rw [bytesOf_nums _ h2, bytesOf_append, bytesOf_nums _ h, bytesOf_nums _ h1]
theorem nums_len (l : List Int) (h : Bytes l) : (strOfNums l).size = l.length := by rw [← bytesOf_length, bytesOf_nums l h]
theorem cmp_tot (A B : Nat → Int) (n : Nat) (h : ∀ i, n ≤ i → A i = B i) : ∃ c, Cmp A B c := by
  by_cases he : ∀ i, A i = B i
  · exact ⟨0, .inl ⟨rfl, he⟩⟩
  · have hex : ∃ i, A i ≠ B i := Classical.not_forall.1 he
    obtain ⟨i, hi, hm⟩ : ∃ i, A i ≠ B i ∧ ∀ j, j < i → A j = B j := by
      obtain ⟨i, hi⟩ := hex
      induction i using Nat.strongRecOn with
      | _ i ih =>
        by_cases h2 : ∃ j, j < i ∧ A j ≠ B j
        · obtain ⟨j, hj, hj2⟩ := h2
          exact ih j hj hj2
        · exact ⟨i, hi, fun j hj => Classical.byContradiction fun h3 => h2 ⟨j, hj, h3⟩⟩
    rcases Int.lt_or_gt_of_ne hi with h3 | h3
    · exact ⟨-1, .inr (.inl ⟨rfl, i, h3, hm⟩)⟩
    · exact ⟨1, .inr (.inr ⟨rfl, i, h3, hm⟩)⟩
theorem seq_far (l : List Int) (i : Nat) (h : l.length ≤ i) : seq l i = 0 := by
  unfold seq; rw [List.getD_eq_getElem?_getD, List.getElem?_eq_none h]; rfl
theorem cmp_lists (a b : List Int) : ∃ c, Cmp (seq a) (seq b) c :=
  cmp_tot _ _ (a.length + b.length) (fun i h => by rw [seq_far a i (by omega), seq_far b i (by omega)])
/-- A byte comes to both: one answer, one state behind. -/
theorem both_push (i : Nat) (hi : i ≤ 400) (gs gm : Nat) (most : Int) (last now : List Int) (bg : Bool) (ov : Int) (all : List ByteArray) (b : Int) (hb : 0 ≤ b ∧ b < 256) (h2 : Go2 i most last now bg ov all) :
    ∃ (last2 now2 : List Int) (ov2 : Int) (all2 : List ByteArray), Go2 (i + 1) most last2 now2 bg ov2 all2 ∧
      (∀ w S, Hs w S [so gs most last now bg ov] → Calls Try.prog 13 #[.pointer (some ⟨gs, 0, none⟩), .int .u8 b] w fun e w' => e = .returned (.int .i64 ov2) ∧ Sp w S [so gs most last2 now2 bg ov2] w') ∧
      (∀ w S, Hs w S [rs gm most all ov] → Calls Try.prog 14 #[.pointer (some ⟨gm, 0, none⟩), .int .u8 b] w fun e w' => e = .returned (.int .i64 ov2) ∧ Sp w S [rs gm most all2 ov2] w') := by
  by_cases h0 : ov = 0
  · subst h0
    obtain ⟨hb1, hb2, hl1, hl2, hm, hall⟩ := h2 rfl
    obtain ⟨prev, hp, ha⟩ : ∃ prev : List ByteArray, prev.length ≤ i + 1 ∧ all = prev ++ [strOfNums now] := by
      rcases hall with ⟨_, h⟩ | ⟨_, p, hp, h⟩
      · exact ⟨[], by simp, h⟩
      · exact ⟨p ++ [strOfNums last], by simp; omega, by rw [h]; simp⟩
    have hsz := nums_len now hb2
    by_cases hf : (now.length : Int) = most
    · refine ⟨last, now, 11, all, fun h => absurd h (by decide), fun w S h => Sr.push_full gs most last now bg b w S h hf, fun w S h => ?_⟩
      subst ha
      exact Rs.push_full gm most prev (strOfNums now) b w S h (by omega) (by omega) (by omega)
    · refine ⟨last, now ++ [b], 0, prev ++ [strOfNums (now ++ [b])], fun _ => ⟨hb1, fun x hx => (List.mem_append.1 hx).elim (hb2 x) (fun hx => by obtain rfl := List.mem_singleton.1 hx; exact hb), by omega, by simp; omega, by simp; omega, ?_⟩, fun w S h => Sr.push_more gs most last now bg b w S h hf (by omega), fun w S h => ?_⟩
      · rcases hall with ⟨h1, h⟩ | ⟨h1, p, hp2, h⟩
        · have : prev = [] := by
            rw [ha] at h
            cases prev with
            | nil => rfl
            | cons x p => simp at h
          exact .inl ⟨h1, by rw [this]; rfl⟩
        · refine .inr ⟨h1, p, by omega, ?_⟩
          have e : prev = p ++ [strOfNums last] := by
            have h3 : prev ++ [strOfNums now] = (p ++ [strOfNums last]) ++ [strOfNums now] := by rw [← ha, h]; simp
            exact List.append_cancel_right h3
          rw [e]; simp
      · subst ha
        rw [← nums_one now b hb2 hb]
        exact Rs.push_more gm most prev (strOfNums now) b w S h (by omega) (by omega) (by omega)
  · exact ⟨last, now, ov, all, fun h => absurd h h0, fun w S h => Sr.push_over gs most last now bg ov b w S h h0, fun w S h => Rs.push_over gm most all ov b w S h h0⟩
/-- An element's end, of both. -/
theorem both_end (i : Nat) (hi : i ≤ 400) (gs gm : Nat) (most : Int) (hmost : 0 ≤ most) (last now : List Int) (bg : Bool) (ov : Int) (all : List ByteArray) (h2 : Go2 i most last now bg ov all) :
    ∃ (last2 now2 : List Int) (bg2 : Bool) (ov2 : Int) (all2 : List ByteArray), Go2 (i + 1) most last2 now2 bg2 ov2 all2 ∧
      (∀ w S, Hs w S [so gs most last now bg ov] → Calls Try.prog 15 #[.pointer (some ⟨gs, 0, none⟩)] w fun e w' => e = .returned (.int .i64 ov2) ∧ Sp w S [so gs most last2 now2 bg2 ov2] w') ∧
      (∀ w S, Hs w S [rs gm most all ov] → Calls Try.prog 16 #[.pointer (some ⟨gm, 0, none⟩)] w fun e w' => e = .returned (.int .i64 ov2) ∧ Sp w S [rs gm most all2 ov2] w') := by
  by_cases h0 : ov = 0
  · subst h0
    obtain ⟨hb1, hb2, hl1, hl2, hm, hall⟩ := h2 rfl
    have hsz := nums_len now hb2
    have hsz1 := nums_len last hb1
    have hnil : strOfNums [] = ByteArray.empty := rfl
    rcases hall with ⟨rfl, rfl⟩ | ⟨rfl, p, hp, rfl⟩
    · exact ⟨now, [], true, 0, _, fun _ => ⟨hb2, fun x hx => by simp at hx, by omega, by simp, by simpa using hmost, .inr ⟨rfl, [], by simp, rfl⟩⟩, fun w S h => Sr.end_first gs most last now w S h, fun w S h => Rs.end_first gm most (strOfNums now) w S h⟩
    · obtain ⟨c, hc⟩ := cmp_lists last now
      have hc2 : Cmp (sq (strOfNums last)) (sq (strOfNums now)) c := by unfold sq; rw [bytesOf_nums last hb1, bytesOf_nums now hb2]; exact hc
      by_cases hc0 : 0 < c
      · exact ⟨last, now, true, 9, _, fun h => absurd h (by decide), fun w S h => Sr.end_bad gs most last now c w S h ⟨hb1, hb2, by omega, by omega⟩ hc hc0, fun w S h => Rs.end_bad gm most p _ _ c w S h (by omega) (by omega) hc2 hc0⟩
      · exact ⟨now, [], true, 0, _, fun _ => ⟨hb2, fun x hx => by simp at hx, by omega, by simp, by simpa using hmost, .inr ⟨rfl, p ++ [strOfNums last], by simp; omega, by simp [hnil]⟩⟩, fun w S h => Sr.end_ok gs most last now c w S h ⟨hb1, hb2, by omega, by omega⟩ hc (by omega), fun w S h => Rs.end_ok gm most p _ _ c w S h (by omega) (by omega) hc2 (by omega)⟩
  · exact ⟨last, now, bg, ov, all, fun h => absurd h h0, fun w S h => Sr.end_over gs most last now bg ov w S h h0, fun w S h => Rs.end_over gm most all ov w S h h0⟩
set_option maxHeartbeats 8000000 in
set_option maxRecDepth 100000 in
theorem plays_any (most : Int) (A : Option Addr) (c : Nat) (l : List SAct) (w : World) (hC : Kd.C kAct w A l.length l) (hB : ∀ a, a ∈ l → 0 ≤ a.f1 ∧ a.f1 < 256) :
    Calls Try.prog 4 #[.int .i64 most, .slice A l.length c] w fun e w' => e = .returned (.bool true) ∧ Below w.heap.size w w' := by
  have hS := Sp.nil (w := w) (S := None0)
  have HC := Aside0.mk hC
  have HBY := Aside0.mk hB
  clear hC hB
  by_cases hl : (300 : Int) < (l.length : Int)
  · have y1 : decide ((300 : Int) < (l.length : Int)) = true := decide_eq_true hl
    clear hl
    go_enter Try.func4, Try.ntmps4
    go_wp2_with (first
      | (go_at_call 8
         (with_reducible refine (Hand.awake_any _).mono ?_)
         rintro e w1 ⟨rfl, hb⟩
         replace hS := Sp.to (by exact hS.lt) (Upd.of_below hb : Upd None0 _ _)
         clear hb))
    go_ret
    exact ⟨rfl, (hS.lt (W := _)).u.below0⟩
  have y1 : decide ((300 : Int) < (l.length : Int)) = false := decide_eq_false hl
  have hl3 : l.length ≤ 300 := by omega
  have HL := Aside0.mk hl3
  clear hl hl3
  go_enter Try.func4, Try.ntmps4
  go_wp2_with (first
    | (go_at_call 8
       (with_reducible refine (Hand.awake_any _).mono ?_)
       rintro e w1 ⟨rfl, hb⟩
       replace hS := Sp.to (by exact hS.lt) (Upd.of_below hb : Upd None0 _ _)
       clear hb)
    | (go_at_call 11
       (with_reducible refine (Sr.new_any most _ (hS.ft 0)).mono ?_)
       rintro e w1 ⟨gs, rfl, hq⟩
       rw [bound_eq] at hq
       replace hS := hS.post0 hq)
    | (go_at_call 12
       (with_reducible refine (Rs.new_any most _ (hS.ft 0)).mono ?_)
       rintro e w1 ⟨gm, rfl, hq⟩
       replace hS := hS.post0 hq))
  replace hS := Sp.sel (l2 := [so gs (bound most) [] [] false 0, rs gm (bound most) [ByteArray.empty] 0]) hS [1, 0]
  go_loopg [6, 26] l.length (fun gk v6 v26 wr => ∃ (i gm : Nat) (last now : List Int) (bg : Bool) (ov : Int) (all : List ByteArray), v6 = .pointer (some ⟨gm, 0, none⟩) ∧ v26 = .int .i64 (i : Int) ∧ Aside0 (i ≤ l.length ∧ l.length - i ≤ gk ∧ Go2 i (bound most) last now bg ov all) ∧ Aside0 (Sp w None0 [so gs (bound most) last now bg ov, rs gm (bound most) all ov] wr))
  case atStart => exact ⟨0, gm, [], [], false, 0, _, rfl, rfl, ⟨Nat.zero_le _, by omega, fun _ => ⟨fun x hx => by simp at hx, fun x hx => by simp at hx, by simp, by simp, by simpa using (bound_range most).1, .inl ⟨rfl, rfl⟩⟩⟩, ⟨by exact hS.lt⟩⟩
  case round =>
    clear hS
    obtain ⟨i, gm, last, now, bg, ov, all, rfl, rfl, HI, HS⟩ := hrel
    have hS := HS.out
    clear HS
    have hi0 : (0 : Int) ≤ (i : Int) := by omega
    have him : (i : Int) ≤ 300 := by have := HI.out.1; have := HL.out; omega
    by_cases hlt : i < l.length
    case neg =>
      have hltd : decide ((i : Int) < (l.length : Int)) = false := decide_eq_false (by omega)
      go_wp2
      go_ret
      exact ⟨rfl, (Sp.u (by exact hS.lt)).below0⟩
    have hltd : decide ((i : Int) < (l.length : Int)) = true := decide_eq_true (by omega)
    have hlti : (i : Int) < (l.length : Int) := by omega
    obtain ⟨adb, e2, hk0, hk1⟩ := at_Act (Kd.C_below HC.out hS.u.below0) (i : Int) hi0 hlti
    subst e2
    obtain ⟨ac, hac⟩ : ∃ q, rd_Act l (i : Int) = q := ⟨_, rfl⟩
    have hab : 0 ≤ ac.f1 ∧ ac.f1 < 256 := by
      refine HBY.out ac ?_
      rw [← hac]
      have : rd_Act l (i : Int) = l[i] := by simp [rd_Act, hlt]
      rw [this]; exact List.getElem_mem hlt
    rw [hac, Int.toNat_natCast] at hk0 hk1
    clear hac
    obtain ⟨kd, b⟩ := ac
    have HAB := Aside0.mk (show 0 ≤ b ∧ b < 256 from hab)
    clear hab
    have HLT := Aside0.mk hlt
    clear hlt
    have hu31 := Try.underlying31
    by_cases h1 : kd = 1
    · subst h1
      obtain ⟨last2, now2, ov2, all2, hg, c1, c2⟩ := both_push i (by omega) gs gm (bound most) last now bg ov all b HAB.out HI.out.2.2
      have HG := Aside0.mk hg
      have C1 := Aside0.mk c1
      have C2 := Aside0.mk c2
      clear hg c1 c2
      go_wp2_with (first
        | ((with_reducible refine gate_dst (N := 8) rfl ?_)
           refine sp_box hS rfl (N := 8) rfl #[.int .i64 0, .int .u8 0] 31 (by first | (go_simp; done) | (go_simp; rfl)) ?_
           intro ga w1 hg hS)
        | ((with_reducible refine gate_store (t := 31) (p := 8) (v := .tmp 29) rfl ?_)
           refine sp_row hS 0 rfl 31 (.tmp 8) (.tmp 29) rfl rfl ga #[.int .i64 1, .int .u8 b] rfl rfl 31 _ rfl (by kernel_rfl) rfl (by simp [Value.oneCell']) rfl ?_
           clear hk0 hk1
           intro w2 hS
           obtain ⟨hd0, hd1⟩ := hS.cells2 0))
      replace hS := Sp.sel (l2 := [so gs (bound most) last now bg ov, rs gm (bound most) all ov, blk ga #[.int .i64 1, .int .u8 b] 31]) hS [1, 2, 0]
      go_region_held3 (fun w' => w'.cell? ⟨ga, 1, none⟩ = some (.int .u8 b)) (exact hS.cellW 2 1 _ rfl rfl) (first
        | (go_at_call 13
           (with_reducible refine (C1.out _ (hS.ft 1) (by exact hS.pre1)).mono ?_)
           rintro e w3 ⟨rfl, hq⟩
           replace hS := hS.post1 hq)
        | (have hT := hS.swap
           go_at_call 14
           (with_reducible refine (C2.out _ (hT.ft 1) (by exact hT.pre1)).mono ?_)
           rintro e w3 ⟨rfl, hq⟩
           replace hS := (hT.post1 hq).swap
           clear hq hT))
      all_goals
        go_wp2
        go_roundg (gk - 1)
        case measure => have := HI.out; have := HLT.out; omega
        case rel => exact ⟨i + 1, gm, last2, now2, bg, ov2, all2, rfl, by simp, ⟨HLT.out, by have := HI.out; omega, HG.out⟩, ⟨by exact (Sp.sel (l2 := [so gs (bound most) last2 now2 bg ov2, rs gm (bound most) all2 ov2]) hS [0, 1]).lt⟩⟩
    have y2 : (kd == 1) = false := beq_eq_false_iff_ne.2 h1
    by_cases h2 : kd = 2
    · subst h2
      obtain ⟨last2, now2, bg2, ov2, all2, hg, c1, c2⟩ := both_end i (by omega) gs gm (bound most) (bound_range most).1 last now bg ov all HI.out.2.2
      have HG := Aside0.mk hg
      have C1 := Aside0.mk c1
      have C2 := Aside0.mk c2
      clear hg c1 c2
      go_wp2_with (first
        | ((with_reducible refine gate_dst (N := 8) rfl ?_)
           refine sp_box hS rfl (N := 8) rfl #[.int .i64 0, .int .u8 0] 31 (by first | (go_simp; done) | (go_simp; rfl)) ?_
           intro ga w1 hg hS)
        | ((with_reducible refine gate_store (t := 31) (p := 8) (v := .tmp 29) rfl ?_)
           refine sp_row hS 0 rfl 31 (.tmp 8) (.tmp 29) rfl rfl ga #[.int .i64 2, .int .u8 b] rfl rfl 31 _ rfl (by kernel_rfl) rfl (by simp [Value.oneCell']) rfl ?_
           clear hk0 hk1
           intro w2 hS
           obtain ⟨hd0, hd1⟩ := hS.cells2 0
           replace hS := Sp.sel (l2 := [so gs (bound most) last now bg ov, rs gm (bound most) all ov, blk ga #[.int .i64 2, .int .u8 b] 31]) hS [1, 2, 0])
        | (go_at_call 15
           (with_reducible refine (C1.out _ (hS.ft 1) (by exact hS.pre1)).mono ?_)
           rintro e w3 ⟨rfl, hq⟩
           replace hS := hS.post1 hq)
        | (have hT := hS.swap
           go_at_call 16
           (with_reducible refine (C2.out _ (hT.ft 1) (by exact hT.pre1)).mono ?_)
           rintro e w3 ⟨rfl, hq⟩
           replace hS := (hT.post1 hq).swap
           clear hq hT))
      go_roundg (gk - 1)
      case measure => have := HI.out; have := HLT.out; omega
      case rel => exact ⟨i + 1, gm, last2, now2, bg2, ov2, all2, rfl, by simp, ⟨HLT.out, by have := HI.out; omega, HG.out⟩, ⟨by exact (Sp.sel (l2 := [so gs (bound most) last2 now2 bg2 ov2, rs gm (bound most) all2 ov2]) hS [0, 1]).lt⟩⟩
    have y3 : (kd == 2) = false := beq_eq_false_iff_ne.2 h2
    by_cases h3 : kd = 3
    · subst h3
      go_wp2_with (first
        | ((with_reducible refine gate_dst (N := 8) rfl ?_)
           refine sp_box hS rfl (N := 8) rfl #[.int .i64 0, .int .u8 0] 31 (by first | (go_simp; done) | (go_simp; rfl)) ?_
           intro ga w1 hg hS)
        | ((with_reducible refine gate_store (t := 31) (p := 8) (v := .tmp 29) rfl ?_)
           refine sp_row hS 0 rfl 31 (.tmp 8) (.tmp 29) rfl rfl ga #[.int .i64 3, .int .u8 b] rfl rfl 31 _ rfl (by kernel_rfl) rfl (by simp [Value.oneCell']) rfl ?_
           clear hk0 hk1
           intro w2 hS
           obtain ⟨hd0, hd1⟩ := hS.cells2 0
           replace hS := Sp.sel (l2 := [so gs (bound most) last now bg ov, rs gm (bound most) all ov, blk ga #[.int .i64 3, .int .u8 b] 31]) hS [1, 2, 0])
        | (go_at_call 17
           (with_reducible refine (Sr.reset_any gs (bound most) last now bg ov _ (hS.ft 1) (by exact hS.pre1)).mono ?_)
           rintro e w3 ⟨rfl, hq⟩
           replace hS := hS.post1 hq)
        | (go_at_call 12
           (with_reducible refine (Rs.new_any most _ (hS.ft 0)).mono ?_)
           rintro e w3 ⟨gm2, rfl, hq⟩
           replace hS := hS.post0 hq))
      go_roundg (gk - 1)
      case measure => have := HI.out; have := HLT.out; omega
      case rel => exact ⟨i + 1, gm2, [], [], false, 0, _, rfl, by simp, ⟨HLT.out, by have := HI.out; omega, fun _ => ⟨fun x hx => by simp at hx, fun x hx => by simp at hx, by simp, by simp, by simpa using (bound_range most).1, .inl ⟨rfl, rfl⟩⟩⟩, ⟨by exact (Sp.sel (l2 := [so gs (bound most) [] [] false 0, rs gm2 (bound most) [ByteArray.empty] 0]) hS [1, 0]).lt⟩⟩
    · have y4 : (kd == 3) = false := beq_eq_false_iff_ne.2 h3
      clear h1 h2 h3
      go_wp2_with (first
        | ((with_reducible refine gate_dst (N := 8) rfl ?_)
           refine sp_box hS rfl (N := 8) rfl #[.int .i64 0, .int .u8 0] 31 (by first | (go_simp; done) | (go_simp; rfl)) ?_
           intro ga w1 hg hS)
        | ((with_reducible refine gate_store (t := 31) (p := 8) (v := .tmp 29) rfl ?_)
           refine sp_row hS 0 rfl 31 (.tmp 8) (.tmp 29) rfl rfl ga #[.int .i64 kd, .int .u8 b] rfl rfl 31 _ rfl (by kernel_rfl) rfl (by simp [Value.oneCell']) rfl ?_
           clear hk0 hk1
           intro w2 hS
           obtain ⟨hd0, hd1⟩ := hS.cells2 0))
      go_roundg (gk - 1)
      case measure => have := HI.out; have := HLT.out; omega
      case rel => exact ⟨i + 1, gm, last, now, bg, ov, all, rfl, by simp, ⟨HLT.out, by have := HI.out; omega, fun h => by
        have h2 := HI.out.2.2 h
        exact ⟨h2.1, h2.2.1, by omega, by omega, h2.2.2.2.2.1, h2.2.2.2.2.2.imp id (fun ⟨a, p, q, r⟩ => ⟨a, p, by omega, r⟩)⟩⟩, ⟨by exact (Sp.sel (l2 := [so gs (bound most) last now bg ov, rs gm (bound most) all ov]) hS [1, 2]).lt⟩⟩
end Go.Proofs.Ytpiejdncoeldeaa.Pl
namespace Go.Proofs.Ytpiejdncoeldeaa.PA
open Go.RowKit Go.Proofs.YtpiejdncoeldeaaW.PrintWords Go.Proofs.Ytpiejdncoeldeaa.BRow
open Classical in
noncomputable def gantletlaw16_OrderPlays.f (_ : Int) (l : List SAct) : Option Bool := if ∀ a, a ∈ l → 0 ≤ a.f1 ∧ a.f1 < 256 then some true else none
theorem gantletlaw16_OrderPlays.calls (most : Int) (A : Option Addr) (c : Nat) (l : List SAct) (r : Bool) (w : World) (hC : Kd.C kAct w A l.length l) (hc : l.length ≤ c) (h : gantletlaw16_OrderPlays.f most l = some r) :
    Calls Try.prog 4 #[.int .i64 most, .slice A l.length c] w fun e w' => e = .returned (.bool r) ∧ Below w.heap.size w w' := by
  unfold gantletlaw16_OrderPlays.f at h
  split at h
  · rename_i hb
    obtain rfl := Option.some.inj h
    exact Pl.plays_any most A c l w hC hb
  · cases h
end Go.Proofs.Ytpiejdncoeldeaa.PA
