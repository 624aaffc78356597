/- What the row of OrderSorts stands on, made small by a program of this session (pack.py). -/
import Derived.Test.YtpiejdncoeldeaaCOrderSorts3
namespace Go.Proofs.Ytpiejdncoeldeaa.Srt
open Go.RowKit Go.Proofs.YtpiejdncoeldeaaW.PrintWords Go.Proofs.YtpiejdncoeldeaaW.PrintLast Go.Proofs.YtpiejdncoeldeaaW.PrintMore Go.Proofs.Ytpiejdncoeldeaa.Own Go.Proofs.Ytpiejdncoeldeaa.Sl Go.Proofs.Ytpiejdncoeldeaa.Bs Go.Proofs.Ytpiejdncoeldeaa.Ord Go.Proofs.Ytpiejdncoeldeaa.Cm Go.Proofs.Ytpiejdncoeldeaa.Wr
set_option linter.unusedVariables false
set_option linter.unusedSimpArgs false
noncomputable def back (x : ByteArray) (out : List ByteArray) : Nat → Nat
  | 0 => 0
  | k + 1 => if 0 < cm (out.getD k ByteArray.empty) x then back x out k else k + 1
theorem back_le (x : ByteArray) (out : List ByteArray) : ∀ k, back x out k ≤ k
  | 0 => Nat.le_refl _
  | k + 1 => by unfold back; split; exact Nat.le_succ_of_le (back_le x out k); exact Nat.le_refl _
noncomputable def rins (out : List ByteArray) (x : ByteArray) : List ByteArray := out.take (back x out out.length) ++ [x] ++ out.drop (back x out out.length)
theorem rins_len (out : List ByteArray) (x : ByteArray) : (rins out x).length = out.length + 1 := by
  have := back_le x out out.length
  unfold rins
  simp only [List.length_append, List.length_take, List.length_drop, List.length_singleton]
  omega
noncomputable def rsort (l : List ByteArray) : List ByteArray := l.foldl rins []
theorem rsort_snoc (l : List ByteArray) (i : Nat) (x : ByteArray) (h : l[i]? = some x) : rins (rsort (l.take i)) x = rsort (l.take (i + 1)) := by
  unfold rsort
  rw [List.take_add_one, h, Option.toList_some, List.foldl_append]; rfl
theorem fold_len (l : List ByteArray) : ∀ out : List ByteArray, (l.foldl rins out).length = out.length + l.length := by
  induction l with
  | nil => intro out; rfl
  | cons x l ih => intro out; rw [List.foldl_cons, ih, rins_len, List.length_cons]; omega
theorem rsort_len (l : List ByteArray) : (rsort l).length = l.length := by unfold rsort; rw [fold_len]; simp
theorem rins_mem {p : ByteArray → Prop} {out : List ByteArray} {x : ByteArray} (h : ∀ s, s ∈ out → p s) (hx : p x) : ∀ s, s ∈ rins out x → p s := by
  intro s hs
  unfold rins at hs
  simp only [List.mem_append, List.mem_singleton] at hs
  rcases hs with (h1 | h1) | h1
  · exact h s (List.mem_of_mem_take h1)
  · exact h1 ▸ hx
  · exact h s (List.mem_of_mem_drop h1)
theorem rsort_mem {p : ByteArray → Prop} {l : List ByteArray} (h : ∀ s, s ∈ l → p s) : ∀ s, s ∈ rsort l → p s := by
  have : ∀ (l out : List ByteArray), (∀ s, s ∈ out → p s) → (∀ s, s ∈ l → p s) → ∀ s, s ∈ l.foldl rins out → p s := by
    intro l
    induction l with
    | nil => intro out h1 _; exact h1
    | cons x l ih => intro out h1 h2; exact ih _ (rins_mem h1 (h2 x (List.mem_cons_self ..))) (fun s hs => h2 s (List.mem_cons_of_mem _ hs))
  exact this l [] (fun s hs => by cases hs) h
theorem upc {w W : World} {a : Addr} {v : Value} (hu : Upd None0 w W) (h : w.cell? a = some v) : W.cell? a = some v := (hu.below0.cell (block_lt_of_cell h)).trans h
set_option maxHeartbeats 8000000 in
set_option maxRecDepth 100000 in
theorem rsort_any (A : Option Addr) (c : Nat) (l : List ByteArray) (w : World) (hC : Kd.string.C w A l.length l) (hcap : l.length ≤ c) (hl : l.length ≤ 1000) (hs : ∀ s, s ∈ l → s.size ≤ 1000000) :
    Calls Try.prog 21 #[.slice A l.length c] w fun e w' => ∃ A2 c2, e = .returned (.slice A2 l.length c2) ∧ Sp w None0 [row Kd.string 9 (.slice A2 l.length c2) (rsort l)] w' := by
  have hS := Sp.nil (w := w) (S := None0)
  have hu := Try.underlying38
  have HC0 := Aside0.mk hC
  have HSZ := Aside0.mk hs
  have HRL := Aside0.mk (show rsort (l.take l.length) = rsort l by rw [List.take_length])
  have HLEN := Aside0.mk (fun i => rsort_len (l.take i))
  obtain ⟨n, hln⟩ : ∃ n, l.length = n := ⟨_, rfl⟩
  have HLN := Aside0.mk hln
  rw [hln] at hl HC0 HRL ⊢
  have HN := Aside0.mk hl
  clear hC hcap hln hs hl
  go_enter Try.func21, Try.ntmps21
  go_wp2_with (first
    | ((with_reducible refine gate_dst (N := 7) rfl ?_)
       (go_loud (refine sp_lit Kd.string hS 9 rfl (N := 7) rfl ([] : List ByteArray) [] (by first | (go_simp; done) | (go_simp; rfl)) ⟨rfl, fun j p hj => by simp at hj⟩ (by decide) ?_))
       (go_loud (intro A0 c0 w1 hS))))
  go_loopg [3, 4] n (fun gk v3 v4 wr => ∃ (i : Nat) (A1 : Option Addr) (c1 : Nat) (out : List ByteArray), v3 = .slice A1 i c1 ∧ v4 = .int .i64 (i : Int) ∧ Aside0 (i ≤ n ∧ n - i ≤ gk) ∧ Aside0 (rsort (l.take i) = out ∧ out.length = i ∧ ∀ s, s ∈ out → s.size ≤ 1000000) ∧ Aside0 (Sp w None0 [row Kd.string 9 (.slice A1 i c1) out] wr))
  case atStart => exact ⟨0, A0, c0, [], rfl, rfl, ⟨Nat.zero_le _, by omega⟩, ⟨rfl, rfl, fun s hs => by cases hs⟩, ⟨by exact hS⟩⟩
  case round =>
    clear hS
    obtain ⟨i, A1, c1, out, rfl, rfl, HI, HO, HS⟩ := hrel
    have hS := HS.out
    clear HS
    have hi00 : (0 : Int) ≤ (i : Int) := by omega
    by_cases hlt : i < n
    case neg =>
      have hd : decide (i < n) = false := decide_eq_false hlt
      have hin : i = n := by have := HI.out.1; omega
      have HOUT := Aside0.mk (show out = rsort l by rw [← HO.out.1, hin, HRL.out])
      clear hlt
      go_wp2
      go_ret
      obtain rfl := HOUT.out
      exact ⟨A1, c1, by rw [← hin]; rfl, by rw [← hin]; exact hS.lt⟩
    have hd : decide (i < n) = true := decide_eq_true hlt
    have hil : i < l.length := by rw [HLN.out]; exact hlt
    obtain ⟨x, hx⟩ : ∃ x, l.getD i ByteArray.empty = x := ⟨_, rfl⟩
    have hxx : l[i]? = some x := by rw [List.getElem?_eq_getElem hil, ← hx, List.getD_eq_getElem?_getD, List.getElem?_eq_getElem hil]; rfl
    obtain ⟨ad, rfl⟩ : ∃ ad, A = some ad := by
      obtain ⟨ad, _, e, _⟩ := Kd.C_get HC0.out ByteArray.empty (i : Int) (by omega) (by omega)
      exact ⟨ad, e⟩
    have HCX := Aside0.mk (Wr.str_cell HC0.out hxx)
    have hxs : x.size ≤ 1000000 := HSZ.out x (List.mem_of_getElem? hxx)
    have HXS := Aside0.mk hxs
    have HSN := Aside0.mk (rsort_snoc l i x hxx)
    have hlti : (i : Int) < (n : Int) := by omega
    have hin : (i : Int) ≤ 1000 := by have := HN.out; omega
    obtain ⟨go, hgo⟩ : ∃ g, g = gk := ⟨_, rfl⟩
    have HGO := Aside0.mk hgo
    have HLT := Aside0.mk hlt
    clear hgo hil hx hxx hxs hlt
    go_wp2
    go_loopg [5] (i + 1) (fun gk v5 wr => ∃ (k : Nat), v5 = .int .i64 (k : Int) ∧ Aside0 (k ≤ i ∧ k < gk) ∧ Aside0 (back x out i = back x out k) ∧ Aside0 (Sp w None0 [row Kd.string 9 (.slice A1 i c1) out] wr))
    case atStart => exact ⟨i, rfl, ⟨Nat.le_refl _, by omega⟩, ⟨rfl⟩, ⟨hS⟩⟩
    case round =>
      clear hS hd
      obtain ⟨k, rfl, HK, HB, HS⟩ := hrel
      have hS := HS.out
      clear HS
      have hk0 : (0 : Int) ≤ (k : Int) := by omega
      by_cases hkz : k = 0
      · subst hkz
        have HKP := Aside0.mk (show back x out i = 0 from HB.out)
        obtain ⟨Z, hZ⟩ : ∃ z, out.drop 0 = z := ⟨_, rfl⟩
        have HZ := Aside0.mk hZ
        have HM := Aside0.mk (show i ≤ 1000 by omega)
        have HZL := Aside0.mk (show Z.length ≤ 1000 by rw [← hZ, List.length_drop]; have := HO.out.2.1; omega)
        have CT : ∀ {W : World} {l2 : List Ast} {v : Value}, Sp w None0 (row Kd.string 9 v [] :: row Kd.string 9 (.slice A1 i c1) out :: l2) W → Kd.string.C W A1 i Z := fun h => by rw [← hZ, List.drop_zero]; exact h.reads 1
        clear hZ
        go_wp2
        go_quiet (fail)
        go_wp2_with (first
          | ((with_reducible refine gate_dst (N := 33) rfl ?_)
             (go_loud (refine sp_lit Kd.string hS 9 rfl (N := 33) rfl ([] : List ByteArray) [] (by first | (go_simp; done) | (go_simp; rfl)) ⟨rfl, fun j p hj => by simp at hj⟩ (by decide) ?_))
             (go_loud (intro A2 c2 w1 hS))
             (go_loud (have HCT := Aside0.mk (CT hS))))
          | ((with_reducible refine gate_builtin (b := .append) (xs := #[.tmp 33, .tmp 36]) rfl ?_); at_builtin
             (go_loud (refine sp_apps Kd.string hS 0 rfl (.tmp 33) (.tmp 36) 38 9 (.string ByteArray.empty) 16 rfl Try.underlying38 infoS rfl (by decide) (by decide) (.slice A2 0 c2) [] Z _ _ _ rfl rfl (by exact rfl) (by exact HCT.out) (fun _ _ h => h) (by have := HM.out; simp only [List.length_nil]; omega) Z rfl _ (fun _ _ => rfl) ?_))
             (go_loud (clear HCT))
             (go_loud (intro A3 c3 w3 hS))))
        have hS2 := Sp.turn hS 1 (row Kd.string 9 (.slice A1 i c1) out) (row Kd.string 9 (.slice A1 0 c1) (out.take 0)) rfl (fun T h => Kd.R_take h (by have := HO.out.2.1; have := HK.out.1; omega))
        replace hS2 : Sp w None0 [row Kd.string 9 (.slice A3 Z.length c3) Z, row Kd.string 9 (.slice A1 0 c1) (out.take 0)] _ := hS2
        have hRC := hS.row 1
        obtain ⟨XS, hXS⟩ : ∃ z, out.take 0 ++ [x] = z := ⟨_, rfl⟩
        have HXS := Aside0.mk hXS
        have HXL := Aside0.mk (show XS.length = 0 + 1 by rw [← hXS, List.length_append, List.length_take, HO.out.2.1]; have := HK.out.1; simp <;> omega)
        clear hXS
        refine wp_region_held_drew (S := fun W => W.cell? (ad.add i) = some (.string x)) (by kernel_rfl) (upc (hS2.lt (W := _)).u HCX.out) (fun hHeld => ?_)
        refine tk 0 (v := ?_) rfl (by kernel_rfl) (by kernel_rfl) (by kernel_rfl) (fun _ _ _ h => h) (by assumption) (Or.inl ⟨by rfl, ?_⟩) ?_
        rotate_left 1
        · (intro w hSw; (try dsimp only at hSw); go_simp; try with_reducible rfl)
        simp only [Act.put, List.setIfInBounds_toArray, List.set_cons_zero, List.set_cons_succ]
        refine tk 1 (v := ?_) rfl (by kernel_rfl) (by kernel_rfl) (by kernel_rfl) (fun _ _ _ h => h) (by assumption) (Or.inl ⟨by rfl, ?_⟩) ?_
        rotate_left 1
        · (intro w hSw; (try dsimp only at hSw); go_simp; try with_reducible rfl)
        simp only [Act.put, List.setIfInBounds_toArray, List.set_cons_zero, List.set_cons_succ]
        refine tk 2 (v := ?_) rfl (by kernel_rfl) (by kernel_rfl) (by kernel_rfl) (fun _ _ _ h => h) (by assumption) (Or.inl ⟨by rfl, ?_⟩) ?_
        rotate_left 1
        · (intro w hSw; (try dsimp only at hSw); go_simp; try with_reducible rfl)
        simp only [Act.put, List.setIfInBounds_toArray, List.set_cons_zero, List.set_cons_succ]
        refine tk 3 (v := ?_) rfl (by kernel_rfl) (by kernel_rfl) (by kernel_rfl) (fun _ _ _ h => h) (by assumption) (Or.inl ⟨by rfl, ?_⟩) ?_
        rotate_left 1
        · (intro w hSw; (try dsimp only at hSw); go_simp; try with_reducible rfl)
        simp only [Act.put, List.setIfInBounds_toArray, List.set_cons_zero, List.set_cons_succ]
        refine tk 4 (v := ?_) rfl (by kernel_rfl) (by kernel_rfl) (by kernel_rfl) (fun _ _ _ h => h) (by assumption) (Or.inl ⟨by rfl, ?_⟩) ?_
        rotate_left 1
        · (intro w hSw; (try dsimp only at hSw); go_simp; try with_reducible rfl)
        simp only [Act.put, List.setIfInBounds_toArray, List.set_cons_zero, List.set_cons_succ]
        refine tk 5 (v := ?_) rfl (by kernel_rfl) (by kernel_rfl) (by kernel_rfl) (fun _ _ _ h => h) (by assumption) (Or.inl ⟨by rfl, ?_⟩) ?_
        rotate_left 1
        · (intro w hSw; (try dsimp only at hSw); go_simp; try with_reducible rfl)
        simp only [Act.put, List.setIfInBounds_toArray, List.set_cons_zero, List.set_cons_succ]
        refine tk 6 (v := ?_) rfl (by kernel_rfl) (by kernel_rfl) (by kernel_rfl) (fun _ _ _ h => h) (by assumption) (Or.inl ⟨by rfl, ?_⟩) ?_
        rotate_left 1
        · (intro w hSw; (try dsimp only at hSw); go_simp; try with_reducible rfl)
        simp only [Act.put, List.setIfInBounds_toArray, List.set_cons_zero, List.set_cons_succ]
        refine tk 9 (v := ?_) rfl (by kernel_rfl) (by kernel_rfl) (by kernel_rfl) (fun _ _ _ h => h) (by assumption) (Or.inl ⟨by rfl, ?_⟩) ?_
        rotate_left 1
        · (intro w hSw; (try dsimp only at hSw); go_simp; try with_reducible rfl)
        simp only [Act.put, List.setIfInBounds_toArray, List.set_cons_zero, List.set_cons_succ]
        refine alone 7 rfl (by kernel_rfl) (by rfl) (fun K hK => ?_)
        go_simp
        refine hK.out _ _ (upc (hS2.lt (W := _)).u HCX.out) (fun hHeld => ?_)
        clear hK K
        try simp only [Act.put, List.setIfInBounds_toArray, List.set_cons_zero, List.set_cons_succ]
        refine aloneL 8 rfl (by kernel_rfl) (fun K hK => ?_)
        refine sp_app (W := w3.drew) Kd.string hS2 1 rfl (.tmp 40) (.tmp 45) 38 9 (.string ByteArray.empty) 16 rfl Try.underlying38 infoS rfl (by decide) (by decide) (.slice A1 0 c1) (out.take 0) x [.string x] rfl rfl (by exact rfl) rfl (by have := HXS.out; have := HXL.out; have := HK.out.1; rw [List.length_take]; omega) XS HXS.out _ (fun _ _ => rfl) ?_
        intro A4 c4 w4 hS3
        refine list_K ?_
        refine hK.out _ _ (upc (hS3.lt (W := _)).u HCX.out) (fun hHeld => ?_)
        clear hK K hS2
        try simp only [Act.put, List.setIfInBounds_toArray, List.set_cons_zero, List.set_cons_succ]
        refine aloneL 10 rfl (by kernel_rfl) (fun K hK => ?_)
        refine sp_apps Kd.string hS3 1 rfl (.tmp 46) (.tmp 47) 38 9 (.string ByteArray.empty) 16 rfl Try.underlying38 infoS rfl (by decide) (by decide) (.slice A4 XS.length c4) XS Z A3 Z.length c3 rfl rfl (by exact rfl) (by exact hS3.reads 0) (fun _ _ h => h) (by have := HXL.out; have := HZL.out; have := HK.out.1; omega) (XS ++ Z) rfl _ (fun _ _ => rfl) ?_
        intro A5 c5 w5 hS4
        refine list_K ?_
        refine hK.out _ _ (upc (hS4.lt (W := _)).u HCX.out) (fun hHeld => ?_)
        clear hK K hS3
        try simp only [Act.put, List.setIfInBounds_toArray, List.set_cons_zero, List.set_cons_succ]
        refine tk 11 (v := ?_) rfl (by kernel_rfl) (by kernel_rfl) (by kernel_rfl) (fun _ _ _ h => h) (by assumption) (Or.inl ⟨by rfl, ?_⟩) ?_
        rotate_left 1
        · (intro w hSw; (try dsimp only at hSw); go_simp; try with_reducible rfl)
        simp only [Act.put, List.setIfInBounds_toArray, List.set_cons_zero, List.set_cons_succ]
        refine wpAnyH_done (by kernel_rfl) ?_ _
        go_wp2
        go_roundg (go - 1)
        case measure => have := HI.out.2; have := HGO.out; have := HLT.out; omega
        case rel =>
          have hfin : rsort (l.take (i + 1)) = XS ++ Z := by
            rw [← HSN.out, HO.out.1]
            unfold rins
            rw [HO.out.2.1, HKP.out, HXS.out, HZ.out]
          have hlen : (XS ++ Z).length = i + 1 := by rw [← hfin, HLEN.out, List.length_take, HLN.out]; have := HLT.out; omega
          exact ⟨i + 1, A5, c5, XS ++ Z, by rw [← hlen, List.length_append], rfl, ⟨by have := HLT.out; omega, by have := HI.out.2; have := HGO.out; omega⟩, ⟨hfin, hlen, by rw [← hfin]; exact rsort_mem (fun s hs => HSZ.out s (List.mem_of_mem_take hs))⟩, ⟨by rw [← hlen]; exact Sp.sel (l2 := [row Kd.string 9 (.slice A5 (XS ++ Z).length c5) (XS ++ Z)]) hS4.lt [1]⟩⟩
      · obtain ⟨p, rfl⟩ : ∃ p, k = p + 1 := ⟨k - 1, by omega⟩
        obtain ⟨q, hq⟩ : ∃ q, p + 1 = q := ⟨_, rfl⟩
        have hpl : p < out.length := by have := HO.out.2.1; have := HK.out.1; omega
        obtain ⟨y, hy⟩ : ∃ y, out.getD p ByteArray.empty = y := ⟨_, rfl⟩
        have hys : y.size ≤ 1000000 := by rw [← hy]; exact getD_mem_or out _ _ HO.out.2.2 (by decide)
        obtain ⟨g, rfl⟩ : ∃ g, A1 = some ⟨g, 0, none⟩ := by
          obtain ⟨g, cap, hv, _⟩ := Kd.R_form (hS.row 0) (by omega)
          cases hv
          exact ⟨g, rfl⟩
        have hcy := Srt.str_cell (hS.reads 0) hpl hy
        have hcx := upc hS.u HCX.out
        have hic : i ≤ c1 := (Kd.R_reads' (hS.row 0)).2.1 |> fun h => by have := HO.out.2.1; omega
        obtain ⟨r, hr⟩ : ∃ r, cm y x = r := ⟨_, rfl⟩
        have HCL := Aside0.mk (fun W => ref_cmp_any y x (cm y x) W hys HXS.out (cm_spec y x))
        rw [hr] at HCL
        have HB2 := Aside0.mk (show if 0 < r then back x out i = back x out p else back x out i = q by
          have h1 := HB.out
          rw [back, hy, hr] at h1
          split
          · rename_i h; rw [if_pos h] at h1; exact h1
          · rename_i h; rw [if_neg h] at h1; rw [h1, hq])
        have HPQ := Aside0.mk hq
        rw [hq] at HK hk0 ⊢
        have hqn : (q : Int) ≤ (i : Int) := by have := HK.out.1; omega
        have hpn : (p : Int) < (i : Int) := by omega
        have hqp : (q : Int) - 1 = (p : Int) := by omega
        have hqw : IntKind.i64.wrap (p : Int) = (p : Int) := by rw [IntKind.wrap_i64]; omega
        have hq0 : (0 : Int) < (q : Int) := by omega
        have hp0 : (0 : Int) ≤ (p : Int) := by omega
        have hq1 : 0 < q := by omega
        have hqi : q ≤ i := by omega
        have hqc : q ≤ c1 := by omega
        clear hq hy hys hr HB hkz hpl
        by_cases hr0 : 0 < r
        · have hd2 : decide (0 < r) = true := decide_eq_true hr0
          have HB3 := Aside0.mk (show back x out i = back x out p by have := HB2.out; rw [if_pos hr0] at this; exact this)
          clear hr0
          go_wp2
          go_quiet ((go_at_call 10; exact qleft (HCL.out _)))
          go_wp2
          go_roundg (gk - 1)
          case measure => have := HK.out; omega
          case rel => exact ⟨p, rfl, ⟨by have := HK.out; have := HPQ.out; omega, by have := HK.out; have := HPQ.out; omega⟩, HB3, ⟨hS.lt⟩⟩
        · have hd2 : decide (0 < r) = false := decide_eq_false hr0
          have HKP := Aside0.mk (show back x out i = q by have := HB2.out; rw [if_neg hr0] at this; exact this)
          clear hr0
          obtain ⟨Z, hZ⟩ : ∃ z, out.drop q = z := ⟨_, rfl⟩
          have HZ := Aside0.mk hZ
          have HM := Aside0.mk (show i ≤ 1000 by omega)
          have HZL := Aside0.mk (show Z.length ≤ 1000 by rw [← hZ, List.length_drop]; have := HO.out.2.1; omega)
          have HZE : Z.length = i - q := by rw [← hZ, List.length_drop, HO.out.2.1]
          by_cases hcq : c1 = q
          · subst hcq
            obtain rfl : i = c1 := by omega
            have hz0 : Z = [] := List.eq_nil_of_length_eq_zero (by omega)
            have CT : ∀ {W : World} {l2 : List Ast} {v : Value}, Sp w None0 (row Kd.string 9 v [] :: row Kd.string 9 (.slice (some ⟨g, 0, none⟩) i i) out :: l2) W → Kd.string.C W (some ⟨g, 0, none⟩) 0 Z := fun h => by rw [hz0]; exact ⟨rfl, by decide, fun h => absurd h (by decide)⟩
            clear hZ HZE hz0
            go_wp2
            go_quiet ((go_at_call 10; exact qleft (HCL.out _)))
            clear hcx hcy
            replace hS : Sp w None0 _ (wr.drewN nq) := hS.lt
            generalize wr.drewN nq = W1 at hS ⊢
            go_wp2_with (first
              | ((with_reducible refine gate_dst (N := 33) rfl ?_)
                 (go_loud (refine sp_lit Kd.string hS 9 rfl (N := 33) rfl ([] : List ByteArray) [] (by first | (go_simp; done) | (go_simp; rfl)) ⟨rfl, fun j p hj => by simp at hj⟩ (by decide) ?_))
                 (go_loud (intro A2 c2 w1 hS))
                 (go_loud (have HCT := Aside0.mk (CT hS))))
              | ((with_reducible refine gate_builtin (b := .append) (xs := #[.tmp 33, .tmp 36]) rfl ?_); at_builtin
                 (go_loud (refine sp_apps Kd.string hS 0 rfl (.tmp 33) (.tmp 36) 38 9 (.string ByteArray.empty) 16 rfl Try.underlying38 infoS rfl (by decide) (by decide) (.slice A2 0 c2) [] Z _ _ _ rfl rfl (by exact rfl) (by exact HCT.out) (fun _ _ h => h) (by have := HM.out; simp only [List.length_nil]; omega) Z rfl _ (fun _ _ => rfl) ?_))
                 (go_loud (clear HCT))
                 (go_loud (intro A3 c3 w3 hS))))
            have hS2 := Sp.turn hS 1 (row Kd.string 9 (.slice (some ⟨g, 0, none⟩) i i) out) (row Kd.string 9 (.slice (some ⟨g, 0, none⟩) i i) (out.take i)) rfl (fun T h => Kd.R_take h (by have := HO.out.2.1; have := HK.out.1; omega))
            replace hS2 : Sp w None0 [row Kd.string 9 (.slice A3 Z.length c3) Z, row Kd.string 9 (.slice (some ⟨g, 0, none⟩) i i) (out.take i)] _ := hS2
            have hRC := hS.row 1
            obtain ⟨XS, hXS⟩ : ∃ z, out.take i ++ [x] = z := ⟨_, rfl⟩
            have HXS := Aside0.mk hXS
            have HXL := Aside0.mk (show XS.length = i + 1 by rw [← hXS, List.length_append, List.length_take, HO.out.2.1]; have := HK.out.1; simp <;> omega)
            clear hXS
            refine wp_region_held_drew (S := fun W => W.cell? (ad.add i) = some (.string x)) (by kernel_rfl) (upc (hS2.lt (W := _)).u HCX.out) (fun hHeld => ?_)
            refine tk 0 (v := ?_) rfl (by kernel_rfl) (by kernel_rfl) (by kernel_rfl) (fun _ _ _ h => h) (by assumption) (Or.inl ⟨by rfl, ?_⟩) ?_
            rotate_left 1
            · (intro w hSw; (try dsimp only at hSw); go_simp; try with_reducible rfl)
            simp only [Act.put, List.setIfInBounds_toArray, List.set_cons_zero, List.set_cons_succ]
            refine tk 1 (v := ?_) rfl (by kernel_rfl) (by kernel_rfl) (by kernel_rfl) (fun _ _ _ h => h) (by assumption) (Or.inl ⟨by rfl, ?_⟩) ?_
            rotate_left 1
            · (intro w hSw; (try dsimp only at hSw); go_simp; try with_reducible rfl)
            simp only [Act.put, List.setIfInBounds_toArray, List.set_cons_zero, List.set_cons_succ]
            refine tk 2 (v := ?_) rfl (by kernel_rfl) (by kernel_rfl) (by kernel_rfl) (fun _ _ _ h => h) (by assumption) (Or.inl ⟨by rfl, ?_⟩) ?_
            rotate_left 1
            · (intro w hSw; (try dsimp only at hSw); go_simp; try with_reducible rfl)
            simp only [Act.put, List.setIfInBounds_toArray, List.set_cons_zero, List.set_cons_succ]
            refine tk 3 (v := ?_) rfl (by kernel_rfl) (by kernel_rfl) (by kernel_rfl) (fun _ _ _ h => h) (by assumption) (Or.inl ⟨by rfl, ?_⟩) ?_
            rotate_left 1
            · (intro w hSw; (try dsimp only at hSw); go_simp; try with_reducible rfl)
            simp only [Act.put, List.setIfInBounds_toArray, List.set_cons_zero, List.set_cons_succ]
            refine tk 4 (v := ?_) rfl (by kernel_rfl) (by kernel_rfl) (by kernel_rfl) (fun _ _ _ h => h) (by assumption) (Or.inl ⟨by rfl, ?_⟩) ?_
            rotate_left 1
            · (intro w hSw; (try dsimp only at hSw); go_simp; try with_reducible rfl)
            simp only [Act.put, List.setIfInBounds_toArray, List.set_cons_zero, List.set_cons_succ]
            refine tk 5 (v := ?_) rfl (by kernel_rfl) (by kernel_rfl) (by kernel_rfl) (fun _ _ _ h => h) (by assumption) (Or.inl ⟨by rfl, ?_⟩) ?_
            rotate_left 1
            · (intro w hSw; (try dsimp only at hSw); go_simp; try with_reducible rfl)
            simp only [Act.put, List.setIfInBounds_toArray, List.set_cons_zero, List.set_cons_succ]
            refine tk 6 (v := ?_) rfl (by kernel_rfl) (by kernel_rfl) (by kernel_rfl) (fun _ _ _ h => h) (by assumption) (Or.inl ⟨by rfl, ?_⟩) ?_
            rotate_left 1
            · (intro w hSw; (try dsimp only at hSw); go_simp; try with_reducible rfl)
            simp only [Act.put, List.setIfInBounds_toArray, List.set_cons_zero, List.set_cons_succ]
            refine tk 9 (v := ?_) rfl (by kernel_rfl) (by kernel_rfl) (by kernel_rfl) (fun _ _ _ h => h) (by assumption) (Or.inl ⟨by rfl, ?_⟩) ?_
            rotate_left 1
            · (intro w hSw; (try dsimp only at hSw); go_simp; try with_reducible rfl)
            simp only [Act.put, List.setIfInBounds_toArray, List.set_cons_zero, List.set_cons_succ]
            refine alone 7 rfl (by kernel_rfl) (by rfl) (fun K hK => ?_)
            go_simp
            refine hK.out _ _ (upc (hS2.lt (W := _)).u HCX.out) (fun hHeld => ?_)
            clear hK K
            try simp only [Act.put, List.setIfInBounds_toArray, List.set_cons_zero, List.set_cons_succ]
            refine aloneL 8 rfl (by kernel_rfl) (fun K hK => ?_)
            refine sp_app (W := w3.drew) Kd.string hS2 1 rfl (.tmp 40) (.tmp 45) 38 9 (.string ByteArray.empty) 16 rfl Try.underlying38 infoS rfl (by decide) (by decide) (.slice (some ⟨g, 0, none⟩) i i) (out.take i) x [.string x] rfl rfl (by exact rfl) rfl (by have := HXS.out; have := HXL.out; have := HK.out.1; rw [List.length_take]; omega) XS HXS.out _ (fun _ _ => rfl) ?_
            intro A4 c4 w4 hS3
            refine list_K ?_
            refine hK.out _ _ (upc (hS3.lt (W := _)).u HCX.out) (fun hHeld => ?_)
            clear hK K hS2
            try simp only [Act.put, List.setIfInBounds_toArray, List.set_cons_zero, List.set_cons_succ]
            refine aloneL 10 rfl (by kernel_rfl) (fun K hK => ?_)
            refine sp_apps Kd.string hS3 1 rfl (.tmp 46) (.tmp 47) 38 9 (.string ByteArray.empty) 16 rfl Try.underlying38 infoS rfl (by decide) (by decide) (.slice A4 XS.length c4) XS Z A3 Z.length c3 rfl rfl (by exact rfl) (by exact hS3.reads 0) (fun _ _ h => h) (by have := HXL.out; have := HZL.out; have := HK.out.1; omega) (XS ++ Z) rfl _ (fun _ _ => rfl) ?_
            intro A5 c5 w5 hS4
            refine list_K ?_
            refine hK.out _ _ (upc (hS4.lt (W := _)).u HCX.out) (fun hHeld => ?_)
            clear hK K hS3
            try simp only [Act.put, List.setIfInBounds_toArray, List.set_cons_zero, List.set_cons_succ]
            refine tk 11 (v := ?_) rfl (by kernel_rfl) (by kernel_rfl) (by kernel_rfl) (fun _ _ _ h => h) (by assumption) (Or.inl ⟨by rfl, ?_⟩) ?_
            rotate_left 1
            · (intro w hSw; (try dsimp only at hSw); go_simp; try with_reducible rfl)
            simp only [Act.put, List.setIfInBounds_toArray, List.set_cons_zero, List.set_cons_succ]
            refine wpAnyH_done (by kernel_rfl) ?_ _
            go_wp2
            go_roundg (go - 1)
            case measure => have := HI.out.2; have := HGO.out; have := HLT.out; omega
            case rel =>
              have hfin : rsort (l.take (i + 1)) = XS ++ Z := by
                rw [← HSN.out, HO.out.1]
                unfold rins
                rw [HO.out.2.1, HKP.out, HXS.out, HZ.out]
              have hlen : (XS ++ Z).length = i + 1 := by rw [← hfin, HLEN.out, List.length_take, HLN.out]; have := HLT.out; omega
              exact ⟨i + 1, A5, c5, XS ++ Z, by rw [← hlen, List.length_append], rfl, ⟨by have := HLT.out; omega, by have := HI.out.2; have := HGO.out; omega⟩, ⟨hfin, hlen, by rw [← hfin]; exact rsort_mem (fun s hs => HSZ.out s (List.mem_of_mem_take hs))⟩, ⟨by rw [← hlen]; exact Sp.sel (l2 := [row Kd.string 9 (.slice A5 (XS ++ Z).length c5) (XS ++ Z)]) hS4.lt [1]⟩⟩
          · have CT : ∀ {W : World} {l2 : List Ast} {v : Value}, Sp w None0 (row Kd.string 9 v [] :: row Kd.string 9 (.slice (some ⟨g, 0, none⟩) i c1) out :: l2) W → Kd.string.C W (some ⟨g, q, none⟩) (i - q) Z := fun {W l2 v} h => by
              have hR := h.row 1
              have h1 := Kd.R_reads' hR
              have h2 : Kd.string.C W (some (⟨g, 0, none⟩ : Addr)) out.length out := by rw [HO.out.2.1]; exact h.reads 1
              have h3 := Kd.C_drop (m := q) (c := c1) h2 (by rw [HO.out.2.1]; exact hqi) (by rw [HO.out.2.1]; exact hic)
              rw [if_neg hcq, hZ, HZE] at h3
              rw [Option.map_some, show Kd.string.sz = 1 from rfl, Nat.mul_one, add_plain] at h3
              first | exact h3 | (rw [Nat.zero_add] at h3; exact h3)
            clear hZ HZE
            go_wp2
            go_quiet ((go_at_call 10; exact qleft (HCL.out _)))
            clear hcx hcy
            replace hS : Sp w None0 _ (wr.drewN nq) := hS.lt
            generalize wr.drewN nq = W1 at hS ⊢
            go_wp2_with (first
              | ((with_reducible refine gate_dst (N := 33) rfl ?_)
                 (go_loud (refine sp_lit Kd.string hS 9 rfl (N := 33) rfl ([] : List ByteArray) [] (by first | (go_simp; done) | (go_simp; rfl)) ⟨rfl, fun j p hj => by simp at hj⟩ (by decide) ?_))
                 (go_loud (intro A2 c2 w1 hS))
                 (go_loud (have HCT := Aside0.mk (CT hS))))
              | ((with_reducible refine gate_builtin (b := .append) (xs := #[.tmp 33, .tmp 36]) rfl ?_); at_builtin
                 (go_loud (refine sp_apps Kd.string hS 0 rfl (.tmp 33) (.tmp 36) 38 9 (.string ByteArray.empty) 16 rfl Try.underlying38 infoS rfl (by decide) (by decide) (.slice A2 0 c2) [] Z _ _ _ rfl rfl (by exact rfl) (by exact HCT.out) (fun _ _ h => h) (by have := HM.out; simp only [List.length_nil]; omega) Z rfl _ (fun _ _ => rfl) ?_))
                 (go_loud (clear HCT))
                 (go_loud (intro A3 c3 w3 hS))))
            have hS2 := Sp.turn hS 1 (row Kd.string 9 (.slice (some ⟨g, 0, none⟩) i c1) out) (row Kd.string 9 (.slice (some ⟨g, 0, none⟩) q c1) (out.take q)) rfl (fun T h => Kd.R_take h (by have := HO.out.2.1; have := HK.out.1; omega))
            replace hS2 : Sp w None0 [row Kd.string 9 (.slice A3 Z.length c3) Z, row Kd.string 9 (.slice (some ⟨g, 0, none⟩) q c1) (out.take q)] _ := hS2
            have hRC := hS.row 1
            obtain ⟨XS, hXS⟩ : ∃ z, out.take q ++ [x] = z := ⟨_, rfl⟩
            have HXS := Aside0.mk hXS
            have HXL := Aside0.mk (show XS.length = q + 1 by rw [← hXS, List.length_append, List.length_take, HO.out.2.1]; have := HK.out.1; simp <;> omega)
            clear hXS
            refine wp_region_held_drew (S := fun W => W.cell? (ad.add i) = some (.string x)) (by kernel_rfl) (upc (hS2.lt (W := _)).u HCX.out) (fun hHeld => ?_)
            refine tk 0 (v := ?_) rfl (by kernel_rfl) (by kernel_rfl) (by kernel_rfl) (fun _ _ _ h => h) (by assumption) (Or.inl ⟨by rfl, ?_⟩) ?_
            rotate_left 1
            · (intro w hSw; (try dsimp only at hSw); go_simp; try with_reducible rfl)
            simp only [Act.put, List.setIfInBounds_toArray, List.set_cons_zero, List.set_cons_succ]
            refine tk 1 (v := ?_) rfl (by kernel_rfl) (by kernel_rfl) (by kernel_rfl) (fun _ _ _ h => h) (by assumption) (Or.inl ⟨by rfl, ?_⟩) ?_
            rotate_left 1
            · (intro w hSw; (try dsimp only at hSw); go_simp; try with_reducible rfl)
            simp only [Act.put, List.setIfInBounds_toArray, List.set_cons_zero, List.set_cons_succ]
            refine tk 2 (v := ?_) rfl (by kernel_rfl) (by kernel_rfl) (by kernel_rfl) (fun _ _ _ h => h) (by assumption) (Or.inl ⟨by rfl, ?_⟩) ?_
            rotate_left 1
            · (intro w hSw; (try dsimp only at hSw); go_simp; try with_reducible rfl)
            simp only [Act.put, List.setIfInBounds_toArray, List.set_cons_zero, List.set_cons_succ]
            refine tk 3 (v := ?_) rfl (by kernel_rfl) (by kernel_rfl) (by kernel_rfl) (fun _ _ _ h => h) (by assumption) (Or.inl ⟨by rfl, ?_⟩) ?_
            rotate_left 1
            · (intro w hSw; (try dsimp only at hSw); go_simp; try with_reducible rfl)
            simp only [Act.put, List.setIfInBounds_toArray, List.set_cons_zero, List.set_cons_succ]
            refine tk 4 (v := ?_) rfl (by kernel_rfl) (by kernel_rfl) (by kernel_rfl) (fun _ _ _ h => h) (by assumption) (Or.inl ⟨by rfl, ?_⟩) ?_
            rotate_left 1
            · (intro w hSw; (try dsimp only at hSw); go_simp; try with_reducible rfl)
            simp only [Act.put, List.setIfInBounds_toArray, List.set_cons_zero, List.set_cons_succ]
            refine tk 5 (v := ?_) rfl (by kernel_rfl) (by kernel_rfl) (by kernel_rfl) (fun _ _ _ h => h) (by assumption) (Or.inl ⟨by rfl, ?_⟩) ?_
            rotate_left 1
            · (intro w hSw; (try dsimp only at hSw); go_simp; try with_reducible rfl)
            simp only [Act.put, List.setIfInBounds_toArray, List.set_cons_zero, List.set_cons_succ]
            refine tk 6 (v := ?_) rfl (by kernel_rfl) (by kernel_rfl) (by kernel_rfl) (fun _ _ _ h => h) (by assumption) (Or.inl ⟨by rfl, ?_⟩) ?_
            rotate_left 1
            · (intro w hSw; (try dsimp only at hSw); go_simp; try with_reducible rfl)
            simp only [Act.put, List.setIfInBounds_toArray, List.set_cons_zero, List.set_cons_succ]
            refine tk 9 (v := ?_) rfl (by kernel_rfl) (by kernel_rfl) (by kernel_rfl) (fun _ _ _ h => h) (by assumption) (Or.inl ⟨by rfl, ?_⟩) ?_
            rotate_left 1
            · (intro w hSw; (try dsimp only at hSw); go_simp; try with_reducible rfl)
            simp only [Act.put, List.setIfInBounds_toArray, List.set_cons_zero, List.set_cons_succ]
            refine alone 7 rfl (by kernel_rfl) (by rfl) (fun K hK => ?_)
            go_simp
            refine hK.out _ _ (upc (hS2.lt (W := _)).u HCX.out) (fun hHeld => ?_)
            clear hK K
            try simp only [Act.put, List.setIfInBounds_toArray, List.set_cons_zero, List.set_cons_succ]
            refine aloneL 8 rfl (by kernel_rfl) (fun K hK => ?_)
            refine sp_app (W := w3.drew) Kd.string hS2 1 rfl (.tmp 40) (.tmp 45) 38 9 (.string ByteArray.empty) 16 rfl Try.underlying38 infoS rfl (by decide) (by decide) (.slice (some ⟨g, 0, none⟩) q c1) (out.take q) x [.string x] rfl rfl (by exact rfl) rfl (by have := HXS.out; have := HXL.out; have := HK.out.1; rw [List.length_take]; omega) XS HXS.out _ (fun _ _ => rfl) ?_
            intro A4 c4 w4 hS3
            refine list_K ?_
            refine hK.out _ _ (upc (hS3.lt (W := _)).u HCX.out) (fun hHeld => ?_)
            clear hK K hS2
            try simp only [Act.put, List.setIfInBounds_toArray, List.set_cons_zero, List.set_cons_succ]
            refine aloneL 10 rfl (by kernel_rfl) (fun K hK => ?_)
            refine sp_apps Kd.string hS3 1 rfl (.tmp 46) (.tmp 47) 38 9 (.string ByteArray.empty) 16 rfl Try.underlying38 infoS rfl (by decide) (by decide) (.slice A4 XS.length c4) XS Z A3 Z.length c3 rfl rfl (by exact rfl) (by exact hS3.reads 0) (fun _ _ h => h) (by have := HXL.out; have := HZL.out; have := HK.out.1; omega) (XS ++ Z) rfl _ (fun _ _ => rfl) ?_
            intro A5 c5 w5 hS4
            refine list_K ?_
            refine hK.out _ _ (upc (hS4.lt (W := _)).u HCX.out) (fun hHeld => ?_)
            clear hK K hS3
            try simp only [Act.put, List.setIfInBounds_toArray, List.set_cons_zero, List.set_cons_succ]
            refine tk 11 (v := ?_) rfl (by kernel_rfl) (by kernel_rfl) (by kernel_rfl) (fun _ _ _ h => h) (by assumption) (Or.inl ⟨by rfl, ?_⟩) ?_
            rotate_left 1
            · (intro w hSw; (try dsimp only at hSw); go_simp; try with_reducible rfl)
            simp only [Act.put, List.setIfInBounds_toArray, List.set_cons_zero, List.set_cons_succ]
            refine wpAnyH_done (by kernel_rfl) ?_ _
            go_wp2
            go_roundg (go - 1)
            case measure => have := HI.out.2; have := HGO.out; have := HLT.out; omega
            case rel =>
              have hfin : rsort (l.take (i + 1)) = XS ++ Z := by
                rw [← HSN.out, HO.out.1]
                unfold rins
                rw [HO.out.2.1, HKP.out, HXS.out, HZ.out]
              have hlen : (XS ++ Z).length = i + 1 := by rw [← hfin, HLEN.out, List.length_take, HLN.out]; have := HLT.out; omega
              exact ⟨i + 1, A5, c5, XS ++ Z, by rw [← hlen, List.length_append], rfl, ⟨by have := HLT.out; omega, by have := HI.out.2; have := HGO.out; omega⟩, ⟨hfin, hlen, by rw [← hfin]; exact rsort_mem (fun s hs => HSZ.out s (List.mem_of_mem_take hs))⟩, ⟨by rw [← hlen]; exact Sp.sel (l2 := [row Kd.string 9 (.slice A5 (XS ++ Z).length c5) (XS ++ Z)]) hS4.lt [1]⟩⟩
end Go.Proofs.Ytpiejdncoeldeaa.Srt
namespace Go.Proofs.Ytpiejdncoeldeaa.Srt
set_option linter.unusedVariables false
set_option linter.unusedSimpArgs false
theorem getD_mid {α : Type} (P : List α) (y : α) (T : List α) (z : α) (j : Nat) (hj : P.length = j) : (P ++ y :: T).getD j z = y := by
  subst hj
  rw [List.getD_eq_getElem?_getD, List.getElem?_append_right (Nat.le_refl _), Nat.sub_self]; rfl
theorem set_two {α : Type} : ∀ (P : List α) (y x : α) (T : List α), ((P ++ y :: x :: T).set (P.length + 1) y).set P.length x = P ++ x :: y :: T
  | [], y, x, T => rfl
  | p :: P, y, x, T => by simp
theorem sift_back (x : ByteArray) (S R : List ByteArray) : ∀ j, j ≤ S.length → sift 0 j (S.take j ++ x :: (S.drop j ++ R)) = S.take (back x S j) ++ x :: (S.drop (back x S j) ++ R)
  | 0, _ => rfl
  | j + 1, h => by
    have hj : j < S.length := h
    have h1 : S.take (j + 1) = S.take j ++ [S[j]] := by rw [List.take_succ_eq_append_getElem hj]
    have h2 : S.drop j = S[j] :: S.drop (j + 1) := List.drop_eq_getElem_cons hj
    have hl : (S.take j).length = j := by rw [List.length_take]; omega
    have e : S.take (j + 1) ++ x :: (S.drop (j + 1) ++ R) = S.take j ++ S[j] :: x :: (S.drop (j + 1) ++ R) := by rw [h1, List.append_assoc]; rfl
    have g1 : (S.take j ++ S[j] :: x :: (S.drop (j + 1) ++ R)).getD j ByteArray.empty = S[j] := getD_mid _ _ _ _ _ hl
    have g2 : (S.take j ++ S[j] :: x :: (S.drop (j + 1) ++ R)).getD (j + 1) ByteArray.empty = x := by
      have := getD_mid (S.take j ++ [S[j]]) x (S.drop (j + 1) ++ R) ByteArray.empty (j + 1) (by rw [List.length_append, hl]; rfl)
      rw [List.append_assoc] at this
      exact this
    have g3 : S.getD j ByteArray.empty = S[j] := by rw [List.getD_eq_getElem?_getD, List.getElem?_eq_getElem hj]; rfl
    rw [e]
    unfold sift
    rw [g1, g2]
    have hc := cm_swap S[j] x
    unfold back
    rw [g3]
    by_cases hk : 0 < cm S[j] x
    · rw [if_pos ⟨Nat.succ_pos _, by omega⟩, if_pos hk]
      have hs := set_two (S.take j) S[j] x (S.drop (j + 1) ++ R)
      rw [hl] at hs
      rw [hs]
      have ih := sift_back x S R j (Nat.le_of_succ_le h)
      rw [h2, List.cons_append] at ih
      exact ih
    · rw [if_neg (fun h => hk (by omega)), if_neg hk, e]
theorem sift_rins (x : ByteArray) (S R : List ByteArray) : sift 0 S.length (S ++ x :: R) = rins S x ++ R := by
  have h := sift_back x S R S.length (Nat.le_refl _)
  rw [List.take_length, List.drop_length, List.nil_append] at h
  rw [h]
  unfold rins
  simp
theorem insF_fold : ∀ (R S : List ByteArray), insF 0 S.length R.length (S ++ R) = R.foldl rins S
  | [], S => by simp [insF]
  | x :: R, S => by
    rw [List.length_cons, insF, sift_rins, ← rins_len S x, insF_fold R (rins S x), List.foldl_cons]
theorem srt_rsort (l : List ByteArray) : srt l = rsort l := by
  unfold srt rsort
  cases l with
  | nil => rfl
  | cons x r =>
    have h := insF_fold r [x]
    rw [List.foldl_cons]
    have e : rins [] x = [x] := rfl
    rw [e, ← h]
    rfl
end Go.Proofs.Ytpiejdncoeldeaa.Srt
namespace Go.Proofs.Ytpiejdncoeldeaa.Srt
open Go.RowKit Go.Proofs.YtpiejdncoeldeaaW.PrintWords Go.Proofs.Ytpiejdncoeldeaa.Bs Go.Proofs.Ytpiejdncoeldeaa.Ord Go.Proofs.Ytpiejdncoeldeaa.Cm
set_option linter.unusedVariables false
set_option linter.unusedSimpArgs false
def le (a b : ByteArray) : Prop := cm a b ≤ 0
theorem cm_zero (a b : ByteArray) : cm a b = 0 ↔ ∀ i, sq a i = sq b i := by
  constructor
  · intro h
    rcases cm_spec a b with ⟨_, k⟩ | ⟨k, _⟩ | ⟨k, _⟩
    · exact k
    · omega
    · omega
  · intro h; exact cm_eq (.inl ⟨rfl, h⟩)
theorem cm_self (a : ByteArray) : cm a a = 0 := (cm_zero a a).2 fun _ => rfl
theorem le_trans {a b c : ByteArray} (h : le a b) (g : le b c) : le a c := by
  unfold le at *
  have := (cm_spec a b).third (cm_spec b c) (cm_spec a c)
  omega
theorem lt_le {a b c : ByteArray} (h : cm a b < 0) (g : le b c) : cm a c < 0 := by
  unfold le at g
  by_cases h1 : cm a c < 0
  · exact h1
  have h2 : le c a := by have := cm_swap a c; unfold le; omega
  have h3 : le b a := le_trans g h2
  have h4 := cm_swap a b
  unfold le at h3
  omega
theorem le_lt {a b c : ByteArray} (h : le a b) (g : cm b c < 0) : cm a c < 0 := by
  by_cases h1 : cm a c < 0
  · exact h1
  have h2 : le c a := by have := cm_swap a c; unfold le; omega
  have h3 : le c b := le_trans h2 h
  have h4 := cm_swap b c
  unfold le at h3
  omega
theorem lt_le' {a b : ByteArray} (h : cm a b < 0) : le a b := by unfold le; omega
def St (l m : List ByteArray) : Prop := ∀ x, l.filter (fun y => decide (cm x y = 0)) = m.filter (fun y => decide (cm x y = 0))
theorem St.refl (l : List ByteArray) : St l l := fun _ => rfl
theorem St.symm {l m : List ByteArray} (h : St l m) : St m l := fun x => (h x).symm
theorem St.trans {l m k : List ByteArray} (h : St l m) (g : St m k) : St l k := fun x => (h x).trans (g x)
theorem St.app {l m l' m' : List ByteArray} (h : St l m) (g : St l' m') : St (l ++ l') (m ++ m') := fun x => by rw [List.filter_append, List.filter_append, h x, g x]
theorem St.swap {X Y : List ByteArray} (h : ∀ x, x ∈ X → ∀ y, y ∈ Y → cm y x < 0) : St (X ++ Y) (Y ++ X) := fun z => by
  rw [List.filter_append, List.filter_append]
  by_cases h1 : ∃ x, x ∈ X ∧ cm z x = 0
  · obtain ⟨x, hx, hz⟩ := h1
    have e : Y.filter (fun y => decide (cm z y = 0)) = [] := List.filter_eq_nil_iff.2 fun y hy hc => by
      have h2 := of_decide_eq_true hc
      have h3 := h x hx y hy
      have h4 : cm y x = 0 := by
        rw [cm_zero] at hz h2 ⊢
        exact fun i => (h2 i).symm.trans (hz i)
      omega
    rw [e]; simp
  · have e : X.filter (fun y => decide (cm z y = 0)) = [] := List.filter_eq_nil_iff.2 fun y hy hc => h1 ⟨y, hy, of_decide_eq_true hc⟩
    rw [e]; simp
theorem St.mem {l m : List ByteArray} (h : St l m) {a : ByteArray} (ha : a ∈ l) : a ∈ m := by
  have h1 : a ∈ l.filter (fun y => decide (cm a y = 0)) := List.mem_filter.2 ⟨ha, decide_eq_true (cm_self a)⟩
  rw [h a] at h1
  exact (List.mem_filter.1 h1).1
theorem uniq_st : ∀ l m : List ByteArray, l.Pairwise le → m.Pairwise le → St l m → l = m
  | [], [], _, _, _ => rfl
  | [], b :: m, _, _, h => by have := h.symm.mem (List.mem_cons_self ..); cases this
  | a :: l, [], _, _, h => by have := h.mem (List.mem_cons_self ..); cases this
  | a :: l, b :: m, hl, hm, h => by
    have refl : ∀ x, le x x := fun x => by unfold le; rw [cm_self]; exact Int.le_refl _
    have h1 : le a b := by
      rcases List.mem_cons.1 (h.symm.mem (List.mem_cons_self ..)) with g | g
      · rw [g]; exact refl a
      · exact (List.pairwise_cons.1 hl).1 b g
    have h2 : le b a := by
      rcases List.mem_cons.1 (h.mem (List.mem_cons_self ..)) with g | g
      · rw [g]; exact refl b
      · exact (List.pairwise_cons.1 hm).1 a g
    have h3 : cm a b = 0 := by have := cm_swap a b; unfold le at h1 h2; omega
    have h4 := h a
    rw [List.filter_cons_of_pos (p := fun y => decide (cm a y = 0)) (decide_eq_true (cm_self a)), List.filter_cons_of_pos (p := fun y => decide (cm a y = 0)) (decide_eq_true h3)] at h4
    obtain rfl := (List.cons.inj h4).1
    rw [uniq_st l m (List.pairwise_cons.1 hl).2 (List.pairwise_cons.1 hm).2 (fun x => by
      have h5 := h x
      rw [List.filter_cons, List.filter_cons] at h5
      by_cases hc : cm x a = 0
      · rw [if_pos (decide_eq_true hc), if_pos (decide_eq_true hc)] at h5
        exact (List.cons.inj h5).2
      · rw [if_neg (by simpa using hc), if_neg (by simpa using hc)] at h5
        exact h5)]
theorem back_mid (x : ByteArray) (S : List ByteArray) (hS : S.Pairwise le) : ∀ n, n ≤ S.length → (∀ j y, back x S n ≤ j → j < n → S[j]? = some y → cm x y < 0) ∧ (∀ j y, j < back x S n → S[j]? = some y → le y x)
  | 0, _ => ⟨fun j y _ h => by omega, fun j y h => by unfold back at h; omega⟩
  | n + 1, hn => by
    have ih := back_mid x S hS n (by omega)
    have hj : n < S.length := hn
    have g3 : S.getD n ByteArray.empty = S[n] := by rw [List.getD_eq_getElem?_getD, List.getElem?_eq_getElem hj]; rfl
    unfold back
    rw [g3]
    by_cases hk : 0 < cm S[n] x
    · rw [if_pos hk]
      refine ⟨fun j y h1 h2 hy => ?_, ih.2⟩
      by_cases hjn : j = n
      · subst hjn
        rw [List.getElem?_eq_getElem hj] at hy
        cases hy
        have := cm_swap S[j] x
        omega
      · exact ih.1 j y h1 (by omega) hy
    · rw [if_neg hk]
      refine ⟨fun j y h1 h2 => by omega, fun j y h1 hy => ?_⟩
      have hl : le S[n] x := by unfold le; omega
      by_cases hjn : j = n
      · subst hjn
        rw [List.getElem?_eq_getElem hj] at hy
        cases hy
        exact hl
      · have hjl : j < S.length := by omega
        rw [List.getElem?_eq_getElem hjl] at hy
        cases hy
        exact le_trans (List.pairwise_iff_getElem.1 hS j n hjl hj (by omega)) hl
theorem rins_st (x : ByteArray) (S : List ByteArray) (hS : S.Pairwise le) : (rins S x).Pairwise le ∧ St (S ++ [x]) (rins S x) := by
  have h := back_mid x S hS S.length (Nat.le_refl _)
  have hb := back_le x S S.length
  unfold rins
  obtain ⟨k, hk⟩ : ∃ k, back x S S.length = k := ⟨_, rfl⟩
  rw [hk] at h hb ⊢
  have a1 : ∀ y, y ∈ S.take k → le y x := by
    intro y hy
    obtain ⟨j, hj⟩ := List.mem_iff_getElem?.1 hy
    have hjk : j < k := by
      have := (List.getElem?_eq_some_iff.1 hj).1
      rw [List.length_take] at this; omega
    rw [List.getElem?_take_of_lt hjk] at hj
    exact h.2 j y hjk hj
  have a2 : ∀ y, y ∈ S.drop k → cm x y < 0 := by
    intro y hy
    obtain ⟨j, hj⟩ := List.mem_iff_getElem?.1 hy
    rw [List.getElem?_drop] at hj
    exact h.1 (k + j) y (by omega) (List.getElem?_eq_some_iff.1 hj).1 hj
  constructor
  · rw [List.pairwise_append, List.pairwise_append]
    refine ⟨⟨hS.sublist (List.take_sublist k S), List.pairwise_singleton _ _, fun a ha b hb => ?_⟩, hS.sublist (List.drop_sublist k S), fun a ha b hb => ?_⟩
    · rw [List.mem_singleton.1 hb]; exact a1 a ha
    · rcases List.mem_append.1 ha with ha | ha
      · exact le_trans (a1 a ha) (lt_le' (a2 b hb))
      · rw [List.mem_singleton.1 ha]; exact lt_le' (a2 b hb)
  · have e : S ++ [x] = S.take k ++ (S.drop k ++ [x]) := by rw [← List.append_assoc, List.take_append_drop]
    rw [e, List.append_assoc]
    exact (St.refl _).app (St.swap fun y hy z hz => by rw [List.mem_singleton.1 hz]; exact a2 y hy)
theorem foldl_st : ∀ (l S : List ByteArray), S.Pairwise le → (l.foldl rins S).Pairwise le ∧ St (S ++ l) (l.foldl rins S)
  | [], S, h => ⟨h, by rw [List.append_nil]; exact St.refl _⟩
  | x :: l, S, h => by
    have h1 := rins_st x S h
    have h2 := foldl_st l (rins S x) h1.1
    refine ⟨h2.1, St.trans ?_ h2.2⟩
    rw [show S ++ x :: l = (S ++ [x]) ++ l by simp]
    exact h1.2.app (St.refl _)
theorem srt_st (l : List ByteArray) : (srt l).Pairwise le ∧ St l (srt l) := by
  rw [srt_rsort]; exact foldl_st l [] List.Pairwise.nil
theorem srt_one {l m : List ByteArray} (h : m.Pairwise le) (g : St l m) : m = srt l := uniq_st _ _ h (srt_st l).1 (g.symm.trans (srt_st l).2)
theorem srt_sorted {l : List ByteArray} (h : l.Pairwise le) : srt l = l := (srt_one h (St.refl l)).symm
theorem merge_cross {X1 X2 Y1 Y2 : List ByteArray} (hX : (X1 ++ X2).Pairwise le) (hY : (Y1 ++ Y2).Pairwise le) (h1 : ∀ x, x ∈ X2 → ∀ y, y ∈ Y1 → cm y x < 0) (h2 : ∀ x, x ∈ X1 → ∀ y, y ∈ Y2 → le x y) :
    srt (X1 ++ Y1) ++ srt (X2 ++ Y2) = srt ((X1 ++ X2) ++ (Y1 ++ Y2)) := by
  rw [List.pairwise_append] at hX hY
  have s1 := srt_st (X1 ++ Y1)
  have s2 := srt_st (X2 ++ Y2)
  refine srt_one ?_ ?_
  · rw [List.pairwise_append]
    refine ⟨s1.1, s2.1, fun a ha b hb => ?_⟩
    rcases List.mem_append.1 (s1.2.symm.mem ha) with ha | ha <;> rcases List.mem_append.1 (s2.2.symm.mem hb) with hb | hb
    · exact hX.2.2 a ha b hb
    · exact h2 a ha b hb
    · exact lt_le' (h1 b hb a ha)
    · exact hY.2.2 a ha b hb
  · refine St.trans ?_ (s1.2.app s2.2)
    rw [List.append_assoc, List.append_assoc]
    refine (St.refl _).app ?_
    rw [← List.append_assoc, ← List.append_assoc]
    exact (St.swap h1).app (St.refl _)
theorem getD_app (P xs : List ByteArray) (j : Nat) : (P ++ xs).getD (P.length + j) ByteArray.empty = xs.getD j ByteArray.empty := by
  rw [List.getD_eq_getElem?_getD, List.getElem?_append_right (by omega), show P.length + j - P.length = j by omega, ← List.getD_eq_getElem?_getD]
theorem set_app (P xs : List ByteArray) (j : Nat) (x : ByteArray) : (P ++ xs).set (P.length + j) x = P ++ xs.set j x := by
  rw [List.set_append_right _ _ (by omega), show P.length + j - P.length = j by omega]
theorem sift_app (P : List ByteArray) : ∀ (j : Nat) (xs : List ByteArray), sift P.length (P.length + j) (P ++ xs) = P ++ sift 0 j xs
  | 0, xs => by
    cases hp : P.length with
    | zero => rfl
    | succ n => show sift (n + 1) (n + 1) (P ++ xs) = _; unfold sift; rw [if_neg (fun h => by omega)]
  | j + 1, xs => by
    show sift P.length (P.length + j + 1) (P ++ xs) = _
    unfold sift
    have e1 := getD_app P xs (j + 1)
    have e2 := getD_app P xs j
    rw [← Nat.add_assoc] at e1
    rw [e1, e2]
    by_cases hc : cm (xs.getD (j + 1) ByteArray.empty) (xs.getD j ByteArray.empty) < 0
    · rw [if_pos ⟨by omega, hc⟩, if_pos ⟨by omega, hc⟩, ← sift_app P j]
      have e3 := set_app P xs (j + 1) (xs.getD j ByteArray.empty)
      rw [← Nat.add_assoc] at e3
      rw [e3, set_app]
    · rw [if_neg (fun h => hc h.2), if_neg (fun h => hc h.2)]
theorem insF_app (P : List ByteArray) : ∀ (m i : Nat) (xs : List ByteArray), insF P.length (P.length + i) m (P ++ xs) = P ++ insF 0 i m xs
  | 0, i, xs => rfl
  | m + 1, i, xs => by
    rw [insF, insF, sift_app, ← insF_app P m (i + 1)]; rfl
theorem insF_seg (P X R : List ByteArray) : insF P.length (P.length + 1) (X.length - 1) (P ++ X ++ R) = P ++ srt X ++ R := by
  rw [List.append_assoc, insF_app, List.append_assoc]
  congr 1
  cases X with
  | nil =>
    rw [show ([] : List ByteArray).length - 1 = 0 from rfl]
    rfl
  | cons x X =>
    have h : ∀ (m : Nat) (X S : List ByteArray), X.length = m → insF 0 S.length m (S ++ X ++ R) = X.foldl rins S ++ R := by
      intro m
      induction m with
      | zero => intro X S hX; rw [List.eq_nil_of_length_eq_zero hX]; simp [insF]
      | succ m ih =>
        intro X S hX
        cases X with
        | nil => simp at hX
        | cons y X =>
          rw [insF, List.append_assoc, List.cons_append, sift_rins, ← rins_len S y, ← List.append_assoc, List.foldl_cons]
          exact ih X (rins S y) (by simpa using hX)
    have h2 := h X.length X [x] rfl
    rw [srt_rsort]
    exact h2
end Go.Proofs.Ytpiejdncoeldeaa.Srt
namespace Go.Proofs.Ytpiejdncoeldeaa.Srt
open Go.RowKit Go.Proofs.YtpiejdncoeldeaaW.PrintWords Go.Proofs.Ytpiejdncoeldeaa.Bs Go.Proofs.Ytpiejdncoeldeaa.Ord Go.Proofs.Ytpiejdncoeldeaa.Cm
set_option linter.unusedVariables false
set_option linter.unusedSimpArgs false
abbrev gt (xs : List ByteArray) (i : Nat) : ByteArray := xs.getD i ByteArray.empty
def swp (i j : Nat) (xs : List ByteArray) : List ByteArray := (xs.set i (gt xs j)).set j (gt xs i)
theorem gt_app (P : List ByteArray) (x : ByteArray) (R : List ByteArray) : gt (P ++ x :: R) P.length = x := by
  unfold gt; rw [List.getD_eq_getElem?_getD, List.getElem?_append_right (Nat.le_refl _), Nat.sub_self]; rfl
theorem set_at (P : List ByteArray) (x y : ByteArray) (R : List ByteArray) : (P ++ x :: R).set P.length y = P ++ y :: R := by
  rw [List.set_append_right _ _ (Nat.le_refl _), Nat.sub_self]; rfl
theorem swp_mid (P : List ByteArray) (x : ByteArray) (M : List ByteArray) (y : ByteArray) (R : List ByteArray) : swp P.length (P.length + 1 + M.length) (P ++ x :: (M ++ y :: R)) = P ++ y :: (M ++ x :: R) := by
  have e : ∀ z, P ++ z :: (M ++ y :: R) = (P ++ z :: M) ++ y :: R := fun z => by simp
  have l : ∀ z : ByteArray, (P ++ z :: M).length = P.length + 1 + M.length := fun z => by simp; omega
  have g1 : gt (P ++ x :: (M ++ y :: R)) (P.length + 1 + M.length) = y := by rw [e, ← l x]; exact gt_app _ _ _
  unfold swp
  rw [g1, gt_app, set_at, e, ← l y, set_at]
  simp
def swF : Nat → Nat → Nat → List ByteArray → List ByteArray
  | _, _, 0, xs => xs
  | a, b, m + 1, xs => swF (a + 1) (b + 1) m (swp a b xs)
theorem swF_eq : ∀ (X Y P M R : List ByteArray), X.length = Y.length → swF P.length (P.length + X.length + M.length) X.length (P ++ X ++ M ++ Y ++ R) = P ++ Y ++ M ++ X ++ R
  | [], [], P, M, R, _ => rfl
  | x :: X, y :: Y, P, M, R, h => by
    have h1 : P ++ (x :: X) ++ M ++ (y :: Y) ++ R = P ++ x :: ((X ++ M) ++ y :: (Y ++ R)) := by simp
    have h2 : P.length + (x :: X).length + M.length = P.length + 1 + (X ++ M).length := by simp; omega
    have h3 := swF_eq X Y (P ++ [y]) (M ++ [x]) R (by simpa using h)
    have h4 : (P ++ [y]).length = P.length + 1 := by simp
    have h5 : (P ++ [y]).length + X.length + (M ++ [x]).length = P.length + 1 + (X ++ M).length + 1 := by simp; omega
    have h6 : P ++ [y] ++ X ++ (M ++ [x]) ++ Y ++ R = P ++ y :: ((X ++ M) ++ x :: (Y ++ R)) := by simp
    rw [h5, h4, h6] at h3
    rw [h1, h2, List.length_cons, swF, swp_mid, h3]
    simp
def mvF : Nat → Nat → List ByteArray → List ByteArray
  | _, 0, xs => xs
  | k, m + 1, xs => mvF (k + 1) m (swp k (k + 1) xs)
theorem mvF_eq : ∀ (U P R : List ByteArray) (x : ByteArray), mvF P.length U.length (P ++ x :: U ++ R) = P ++ U ++ x :: R
  | [], P, R, x => by simp [mvF]
  | u :: U, P, R, x => by
    have h1 := swp_mid P x [] u (U ++ R)
    have h2 := mvF_eq U (P ++ [u]) R x
    have e1 : P ++ x :: (u :: U) ++ R = P ++ x :: ([] ++ u :: (U ++ R)) := by simp
    have e2 : P ++ [u] ++ x :: U ++ R = P ++ u :: ([] ++ x :: (U ++ R)) := by simp
    have e3 : (P ++ [u]).length = P.length + 1 := by simp
    rw [e2, e3] at h2
    rw [List.length_cons, mvF, e1]
    rw [show P.length + 1 + ([] : List ByteArray).length = P.length + 1 from rfl] at h1
    rw [h1, h2]; simp
def mvB : Nat → Nat → List ByteArray → List ByteArray
  | _, 0, xs => xs
  | k, m + 1, xs => mvB (k - 1) m (swp k (k - 1) xs)
theorem swp_comm (i j : Nat) (xs : List ByteArray) (h : i ≠ j) : swp i j xs = swp j i xs := by
  unfold swp; rw [List.set_comm _ _ h]
theorem mvB_eq : ∀ (m : Nat) (U P R : List ByteArray) (x : ByteArray), U.length = m → mvB (P.length + m) m (P ++ U ++ x :: R) = P ++ x :: U ++ R
  | 0, U, P, R, x, h => by rw [List.eq_nil_of_length_eq_zero h]; simp [mvB]
  | m + 1, U, P, R, x, h => by
    obtain ⟨V, u, rfl⟩ : ∃ V u, U = V ++ [u] := ⟨U.dropLast, U.getLast (fun e => by rw [e] at h; simp at h), (List.dropLast_concat_getLast _).symm⟩
    have hV : V.length = m := by simpa using h
    have h1 := swp_mid (P ++ V) u [] x R
    have h2 := mvB_eq m V P (u :: R) x hV
    have e1 : P ++ (V ++ [u]) ++ x :: R = (P ++ V) ++ u :: ([] ++ x :: R) := by simp
    have e3 : (P ++ V).length = P.length + m := by simp [hV]
    have e4 : P.length + (m + 1) - 1 = P.length + m := by omega
    rw [show (P ++ V).length + 1 + ([] : List ByteArray).length = (P ++ V).length + 1 from rfl, e3] at h1
    rw [mvB, e4, swp_comm _ _ _ (by omega), e1, ← Nat.add_assoc, h1]
    rw [List.nil_append, h2]; simp
theorem ins_front {x : ByteArray} {Y1 Y2 : List ByteArray} (hY : (Y1 ++ Y2).Pairwise le) (h1 : ∀ y, y ∈ Y1 → cm y x < 0) (h2 : ∀ y, y ∈ Y2 → le x y) : Y1 ++ x :: Y2 = srt (x :: (Y1 ++ Y2)) := by
  have h := merge_cross (X1 := []) (X2 := [x]) (Y1 := Y1) (Y2 := Y2) (by simp) hY (fun z hz y hy => by rw [List.mem_singleton.1 hz]; exact h1 y hy) (fun z hz => by cases hz)
  rw [List.pairwise_append] at hY
  rw [List.nil_append, srt_sorted hY.1, srt_sorted (l := [x] ++ Y2) (List.pairwise_cons.2 ⟨h2, hY.2.1⟩)] at h
  exact h
theorem ins_back {x : ByteArray} {X1 X2 : List ByteArray} (hX : (X1 ++ X2).Pairwise le) (h1 : ∀ y, y ∈ X2 → cm x y < 0) (h2 : ∀ y, y ∈ X1 → le y x) : X1 ++ x :: X2 = srt ((X1 ++ X2) ++ [x]) := by
  have h := merge_cross (X1 := X1) (X2 := X2) (Y1 := [x]) (Y2 := []) hX (by simp) (fun z hz y hy => by rw [List.mem_singleton.1 hy]; exact h1 z hz) (fun z hz y hy => by cases hy)
  rw [List.pairwise_append] at hX
  have h3 : (X1 ++ [x]).Pairwise le := by
    rw [List.pairwise_append]
    exact ⟨hX.1, List.pairwise_singleton _ _, fun a ha b hb => by rw [List.mem_singleton.1 hb]; exact h2 a ha⟩
  rw [List.append_nil, List.append_nil, srt_sorted h3, srt_sorted hX.2.1] at h
  rw [← h]; simp
theorem all_le_last {L : List ByteArray} (hL : L.Pairwise le) {i j : Nat} (hij : i ≤ j) (hj : j < L.length) : le (gt L i) (gt L j) := by
  have hi : i < L.length := by omega
  unfold gt
  rw [List.getD_eq_getElem?_getD, List.getD_eq_getElem?_getD, List.getElem?_eq_getElem hi, List.getElem?_eq_getElem hj]
  show le L[i] L[j]
  rcases Nat.lt_or_ge i j with h | h
  · exact List.pairwise_iff_getElem.1 hL i j hi hj h
  · have e : i = j := by omega
    subst e
    unfold le; rw [cm_self]; exact Int.le_refl _
theorem mem_take_gt {L : List ByteArray} {k : Nat} {y : ByteArray} (h : y ∈ L.take k) : ∃ i, i < k ∧ i < L.length ∧ gt L i = y := by
  obtain ⟨i, hi⟩ := List.mem_iff_getElem?.1 h
  have h1 := (List.getElem?_eq_some_iff.1 hi).1
  rw [List.length_take] at h1
  rw [List.getElem?_take_of_lt (by omega)] at hi
  exact ⟨i, by omega, by omega, by unfold gt; rw [List.getD_eq_getElem?_getD, hi]; rfl⟩
theorem mem_drop_gt {L : List ByteArray} {k : Nat} {y : ByteArray} (h : y ∈ L.drop k) : ∃ i, k ≤ i ∧ i < L.length ∧ gt L i = y := by
  obtain ⟨i, hi⟩ := List.mem_iff_getElem?.1 h
  rw [List.getElem?_drop] at hi
  exact ⟨k + i, by omega, (List.getElem?_eq_some_iff.1 hi).1, by unfold gt; rw [List.getD_eq_getElem?_getD, hi]; rfl⟩
theorem front_at {x : ByteArray} {L : List ByteArray} (hL : L.Pairwise le) (k : Nat) (hk : k ≤ L.length) (h1 : k = 0 ∨ cm (gt L (k - 1)) x < 0) (h2 : k = L.length ∨ le x (gt L k)) : L.take k ++ x :: L.drop k = srt (x :: L) := by
  have h := ins_front (x := x) (Y1 := L.take k) (Y2 := L.drop k) (by rw [List.take_append_drop]; exact hL) (fun y hy => by
    obtain ⟨i, hi, hl, rfl⟩ := mem_take_gt hy
    exact le_lt (all_le_last hL (show i ≤ k - 1 by omega) (by omega)) (h1.resolve_left (by omega))) (fun y hy => by
    obtain ⟨i, hi, hl, rfl⟩ := mem_drop_gt hy
    exact le_trans (h2.resolve_left (by omega)) (all_le_last hL hi hl))
  rw [List.take_append_drop] at h
  exact h
theorem back_at {x : ByteArray} {L : List ByteArray} (hL : L.Pairwise le) (k : Nat) (hk : k ≤ L.length) (h1 : k = 0 ∨ le (gt L (k - 1)) x) (h2 : k = L.length ∨ cm x (gt L k) < 0) : L.take k ++ x :: L.drop k = srt (L ++ [x]) := by
  have h := ins_back (x := x) (X1 := L.take k) (X2 := L.drop k) (by rw [List.take_append_drop]; exact hL) (fun y hy => by
    obtain ⟨i, hi, hl, rfl⟩ := mem_drop_gt hy
    exact lt_le (h2.resolve_left (by omega)) (all_le_last hL hi hl)) (fun y hy => by
    obtain ⟨i, hi, hl, rfl⟩ := mem_take_gt hy
    exact le_trans (all_le_last hL (show i ≤ k - 1 by omega) (by omega)) (h1.resolve_left (by omega)))
  rw [List.take_append_drop] at h
  exact h
theorem cut_at {X Y : List ByteArray} (hX : X.Pairwise le) (hY : Y.Pairwise le) (s e : Nat) (hs : s ≤ X.length) (he : e ≤ Y.length)
    (h1 : s = X.length ∨ e = 0 ∨ cm (gt Y (e - 1)) (gt X s) < 0) (h2 : s = 0 ∨ e = Y.length ∨ le (gt X (s - 1)) (gt Y e)) :
    srt (X.take s ++ Y.take e) ++ srt (X.drop s ++ Y.drop e) = srt (X ++ Y) := by
  have h := merge_cross (X1 := X.take s) (X2 := X.drop s) (Y1 := Y.take e) (Y2 := Y.drop e) (by rw [List.take_append_drop]; exact hX) (by rw [List.take_append_drop]; exact hY) (fun x hx y hy => by
    obtain ⟨i, hi, hl, rfl⟩ := mem_drop_gt hx
    obtain ⟨j, hj, hm, rfl⟩ := mem_take_gt hy
    exact le_lt (all_le_last hY (show j ≤ e - 1 by omega) (by omega)) (lt_le ((h1.resolve_left (by omega)).resolve_left (by omega)) (all_le_last hX hi hl))) (fun x hx y hy => by
    obtain ⟨i, hi, hl, rfl⟩ := mem_take_gt hx
    obtain ⟨j, hj, hm, rfl⟩ := mem_drop_gt hy
    exact le_trans (all_le_last hX (show i ≤ s - 1 by omega) (by omega)) (le_trans ((h2.resolve_left (by omega)).resolve_left (by omega)) (all_le_last hY hj hm)))
  rw [List.take_append_drop, List.take_append_drop] at h
  exact h
end Go.Proofs.Ytpiejdncoeldeaa.Srt
namespace Go.Proofs.Ytpiejdncoeldeaa.Srt
open Go.RowKit Go.Proofs.YtpiejdncoeldeaaW.PrintWords Go.Proofs.YtpiejdncoeldeaaW.PrintLast Go.Proofs.YtpiejdncoeldeaaW.PrintMore Go.Proofs.Ytpiejdncoeldeaa.Own Go.Proofs.Ytpiejdncoeldeaa.Sl Go.Proofs.Ytpiejdncoeldeaa.Bs Go.Proofs.Ytpiejdncoeldeaa.Ord Go.Proofs.Ytpiejdncoeldeaa.Cm
set_option linter.unusedVariables false
set_option linter.unusedSimpArgs false
abbrev rw_ (g n c : Nat) (xs : List ByteArray) : Ast := row Kd.string 9 (.slice (some ⟨g, 0, none⟩) n c) xs
set_option maxHeartbeats 8000000 in
set_option maxRecDepth 100000 in
theorem swr_any (g c n a b m : Nat) (xs : List ByteArray) (w : World) (S : Nat → Prop) (h : Hs w S [rw_ g n c xs]) (hn : n = xs.length) (ha : a + m ≤ n) (hb : b + m ≤ n) (hab : a < b) (hn2 : n ≤ 100000) :
    Calls Try.prog 30 #[.slice (some ⟨g, 0, none⟩) n c, .int .i64 (a : Int), .int .i64 (b : Int), .int .i64 (m : Int), .func (.func 25) #[] #[]] w fun e w' => e = .returned (.tuple #[]) ∧ Sp w S [rw_ g n c (swF a b m xs)] w' := by
  have hS := Sp.start h
  have HN := Aside0.mk (And.intro hn2 (And.intro ha hb))
  have HAB := Aside0.mk hab
  obtain ⟨Z, hZ⟩ : ∃ Z, swF a b m xs = Z := ⟨_, rfl⟩
  rw [hZ]
  have hai : (a : Int) ≤ 100000 := by omega
  have hbi : (b : Int) ≤ 100000 := by omega
  have hmi : (m : Int) ≤ 100000 := by omega
  have H0 := Aside0.mk (And.intro hZ hn)
  clear h hZ hn ha hb hn2 hab
  go_enter Try.func30, Try.ntmps30
  go_wp2
  go_loopg [10] (m + 1) (fun gk v10 wr => ∃ (i : Nat) (ys : List ByteArray), v10 = .int .i64 (i : Int) ∧ Aside0 (i ≤ m ∧ m - i < gk ∧ swF (a + i) (b + i) (m - i) ys = Z ∧ n = ys.length) ∧ Aside0 (Sp w S [rw_ g n c ys] wr))
  case atStart => exact ⟨0, xs, rfl, ⟨Nat.zero_le _, by omega, H0.out.1, H0.out.2⟩, ⟨hS⟩⟩
  case round =>
    clear hS H0
    obtain ⟨i, ys, rfl, HI, HS⟩ := hrel
    have hS := HS.out
    clear HS
    have hi0 : (0 : Int) ≤ (i : Int) := by omega
    have hi1 : (i : Int) ≤ 100000 := by have := HI.out.1; omega
    by_cases hlt : i < m
    case neg =>
      have hd : decide (i < m) = false := decide_eq_false hlt
      have HZ := Aside0.mk (show ys = Z by have := HI.out.2.2.1; rw [show m - i = 0 by omega] at this; exact this)
      go_wp2
      go_end0
      obtain rfl := HZ.out
      exact ⟨rfl, hS⟩
    have hd : decide (i < m) = true := decide_eq_true hlt
    have HST := Aside0.mk (show swF (a + (i + 1)) (b + (i + 1)) (m - (i + 1)) (swp (a + i) (b + i) ys) = Z by
      have := HI.out.2.2.1
      rw [show m - i = (m - (i + 1)) + 1 by omega] at this
      exact this)
    obtain ⟨p, hp⟩ : ∃ p, a + i = p := ⟨_, rfl⟩
    obtain ⟨q, hq⟩ : ∃ q, b + i = q := ⟨_, rfl⟩
    have hpn : p < ys.length := by have := HI.out; have := HN.out; omega
    have hqn : q < ys.length := by have := HI.out; have := HN.out; omega
    rw [hp, hq] at HST
    have hne : (p : Int) < (q : Int) := by have := HAB.out; omega
    have hpi : (a : Int) + (i : Int) = (p : Int) := by omega
    have hqi : (b : Int) + (i : Int) = (q : Int) := by omega
    have hpw : IntKind.i64.wrap (p : Int) = (p : Int) := by rw [IntKind.wrap_i64]; have := HN.out; have := HI.out; omega
    have hqw : IntKind.i64.wrap (q : Int) = (q : Int) := by rw [IntKind.wrap_i64]; have := HN.out; have := HI.out; omega
    have hp0 : (0 : Int) ≤ (p : Int) := by omega
    have hq0 : (0 : Int) ≤ (q : Int) := by omega
    have hpn2 : (p : Int) < (n : Int) := by have := HI.out; omega
    have hqn2 : (q : Int) < (n : Int) := by have := HI.out; omega
    obtain ⟨x, hx⟩ : ∃ x, gt ys p = x := ⟨_, rfl⟩
    obtain ⟨y, hy⟩ : ∃ y, gt ys q = y := ⟨_, rfl⟩
    have hcx := str_cell (hS.reads 0) hpn hx
    have hcy := str_cell (hS.reads 0) hqn hy
    have HLT := Aside0.mk hlt
    have hfx := row_fz hS 0 rfl HI.out.2.2.2 p hpn
    have hfy := row_fz hS 0 rfl HI.out.2.2.2 q hqn
    have HW := Aside0.mk (show swp p q ys = (ys.set p y).set q x by unfold swp; rw [hx, hy])
    have HPQ := Aside0.mk (And.intro hpn hqn)
    clear hx hy hpn hqn hp hq hlt
    go_wp2
    go_region
    go_wp2
    have hS2 := (hS.rset 0 rfl HI.out.2.2.2 p y).rset 0 rfl (by rw [List.length_set]; exact HI.out.2.2.2) q x
    go_roundg (gk - 1)
    case measure => have := HI.out; have := HLT.out; omega
    case rel => exact ⟨i + 1, (ys.set p y).set q x, by simp, ⟨HLT.out, by have := HI.out; have := HLT.out; omega, by rw [← HW.out]; exact HST.out, by simp; exact HI.out.2.2.2⟩, ⟨by exact Sp.lt (Sp.sel (l2 := [rw_ g n c ((ys.set p y).set q x)]) hS2 [0])⟩⟩
theorem swr_parts (g c n : Nat) (P X M Y R : List ByteArray) (w : World) (S : Nat → Prop) (h : Hs w S [rw_ g n c (P ++ X ++ M ++ Y ++ R)]) (hn : n = (P ++ X ++ M ++ Y ++ R).length) (hX : X ≠ []) (hXY : X.length = Y.length) (hn2 : n ≤ 100000) (a b m : Nat) (ha : a = P.length) (hb : b = P.length + X.length + M.length) (hm : m = X.length) :
    Calls Try.prog 30 #[.slice (some ⟨g, 0, none⟩) n c, .int .i64 (a : Int), .int .i64 (b : Int), .int .i64 (m : Int), .func (.func 25) #[] #[]] w fun e w' => e = .returned (.tuple #[]) ∧ Sp w S [rw_ g n c (P ++ Y ++ M ++ X ++ R)] w' := by
  subst ha hb hm
  have hl := Nat.pos_of_ne_zero (fun e => hX (List.eq_nil_of_length_eq_zero e))
  have hn3 : n = P.length + X.length + M.length + Y.length + R.length := by rw [hn]; simp only [List.length_append]
  have h1 := swr_any g c n P.length (P.length + X.length + M.length) X.length _ w S h hn (by omega) (by omega) (by omega) hn2
  rw [swF_eq X Y P M R hXY] at h1
  exact h1
set_option maxHeartbeats 8000000 in
set_option maxRecDepth 100000 in
theorem rot_any (g c n a m b : Nat) (P X Y R Z : List ByteArray) (w : World) (S : Nat → Prop) (h : Hs w S [rw_ g n c (P ++ X ++ Y ++ R)]) (hZ : P ++ Y ++ X ++ R = Z) (hn : n = (P ++ X ++ Y ++ R).length) (hX : X ≠ []) (hY : Y ≠ []) (hn2 : n ≤ 100000) (ha : a = P.length) (hm : m = P.length + X.length) (hb : b = P.length + X.length + Y.length) :
    Calls Try.prog 29 #[.slice (some ⟨g, 0, none⟩) n c, .int .i64 (a : Int), .int .i64 (m : Int), .int .i64 (b : Int), .func (.func 25) #[] #[]] w fun e w' => e = .returned (.tuple #[]) ∧ Sp w S [rw_ g n c Z] w' := by
  have hS := Sp.start h
  have hlX := Nat.pos_of_ne_zero (fun e => hX (List.eq_nil_of_length_eq_zero e))
  have hlY := Nat.pos_of_ne_zero (fun e => hY (List.eq_nil_of_length_eq_zero e))
  have hn3 : n = P.length + X.length + Y.length + R.length := by rw [hn]; simp only [List.length_append]
  obtain ⟨i0, hi⟩ : ∃ i, X.length = i := ⟨_, rfl⟩
  obtain ⟨j0, hj⟩ : ∃ j, Y.length = j := ⟨_, rfl⟩
  have e1 : (m : Int) - (a : Int) = (i0 : Int) := by omega
  have e2 : (b : Int) - (m : Int) = (j0 : Int) := by omega
  have e3 : IntKind.i64.wrap (i0 : Int) = (i0 : Int) := by rw [IntKind.wrap_i64]; omega
  have e4 : IntKind.i64.wrap (j0 : Int) = (j0 : Int) := by rw [IntKind.wrap_i64]; omega
  have HN := Aside0.mk (show n ≤ 100000 ∧ m ≤ 100000 from ⟨hn2, by omega⟩)
  have H0 := Aside0.mk (show ∃ P U V R : List ByteArray, P ++ U ++ V ++ R = P ++ U ++ V ++ R ∧ True from ⟨[], [], [], [], rfl, trivial⟩)
  have HS0 := Aside0.mk (show ∃ P U V R : List ByteArray, U.length = i0 ∧ V.length = j0 ∧ 0 < i0 ∧ 0 < j0 ∧ P.length + i0 = m ∧ P ++ V ++ U ++ R = Z ∧ n = P.length + i0 + j0 + R.length ∧ Sp w S [rw_ g n c (P ++ U ++ V ++ R)] w from ⟨P, X, Y, R, hi, hj, by omega, by omega, by omega, hZ, by omega, hS⟩)
  have HIJ := Aside0.mk (show i0 ≤ 100000 ∧ j0 ≤ 100000 by omega)
  clear h hZ hn hX hY hn2 ha hm hb hS hlX hlY hn3 hi hj H0
  go_enter Try.func29, Try.ntmps29
  go_wp2
  clear e1 e2 e3 e4
  go_loopg [10, 11] (i0 + j0 + 1) (fun gk v10 v11 wr => ∃ (i j : Nat), v10 = .int .i64 (i : Int) ∧ v11 = .int .i64 (j : Int) ∧ Aside0 (i + j < gk) ∧ Aside0 (∃ P U V R : List ByteArray, U.length = i ∧ V.length = j ∧ 0 < i ∧ 0 < j ∧ P.length + i = m ∧ P ++ V ++ U ++ R = Z ∧ n = P.length + i + j + R.length ∧ Sp w S [rw_ g n c (P ++ U ++ V ++ R)] wr))
  case atStart => exact ⟨i0, j0, rfl, rfl, ⟨by omega⟩, HS0⟩
  case round =>
    clear HS0 HIJ
    obtain ⟨i, j, rfl, rfl, HG, HS⟩ := hrel
    obtain ⟨P, U, V, R, hU, hV, h0i, h0j, hPm, hZ, hnn, hS⟩ := HS.out
    clear HS
    have hm0 := HN.out.2
    have hn0 := HN.out.1
    have q1 : (m : Int) - (i : Int) = (P.length : Int) := by omega
    have q2 : IntKind.i64.wrap (P.length : Int) = (P.length : Int) := by rw [IntKind.wrap_i64]; omega
    have hnl : ∀ Q : List ByteArray, Q.length = i + j → n = (P ++ Q ++ R).length := fun Q hQ => by simp only [List.length_append]; omega
    by_cases heq : i = j
    ·
      subst heq
      have HC := Aside0.mk (fun W S' h => swr_parts g c n P U [] V R W S' h (by simp only [List.length_append, List.length_nil]; omega) (fun e => by rw [e] at hU; simp at hU; omega) (by omega) hn0 P.length m i rfl (by simp only [List.length_nil]; omega) hU.symm)
      rw [List.append_nil, List.append_nil] at HC
      have HZ := Aside0.mk hZ
      clear hZ hnl hU hV hnn HG hPm
      go_wp2_with (first
        | (go_at_call 30
           (with_reducible refine (HC.out _ (hS.ft 1) (by exact hS.pre1)).mono ?_)
           rintro e w6 ⟨rfl, hq⟩
           replace hS := hS.post1 hq))
      go_end0
      rw [← HZ.out]
      exact ⟨rfl, hS⟩
    have hd : (i == j) = false := by simpa using heq
    by_cases hij : j < i
    · have hd2 : decide (j < i) = true := decide_eq_true hij
      have hUs : P ++ U ++ V ++ R = P ++ U.take j ++ U.drop j ++ V ++ R := by rw [List.append_assoc P (U.take j), List.take_append_drop]
      have hl1 : (U.take j).length = j := by rw [List.length_take]; omega
      have hl2 : (U.drop j).length = i - j := by rw [List.length_drop]; omega
      have hZ2 : (P ++ V) ++ U.take j ++ U.drop j ++ R = Z := by rw [← hZ, List.append_assoc (P ++ V), List.take_append_drop]
      rw [hUs] at hS
      obtain ⟨U1, hU1⟩ : ∃ z, U.take j = z := ⟨_, rfl⟩
      obtain ⟨U2, hU2⟩ : ∃ z, U.drop j = z := ⟨_, rfl⟩
      rw [hU1, hU2] at hS hZ2
      rw [hU1] at hl1
      rw [hU2] at hl2
      obtain ⟨d, hdd⟩ : ∃ d, i - j = d := ⟨_, rfl⟩
      have q3 : (i : Int) - (j : Int) = (d : Int) := by omega
      have q4 : IntKind.i64.wrap (d : Int) = (d : Int) := by rw [IntKind.wrap_i64]; omega
      have HC := Aside0.mk (fun W S' h => swr_parts g c n P U1 U2 V R W S' h (by simp only [List.length_append]; omega) (fun e => by rw [e] at hl1; simp at hl1; omega) (by omega) hn0 P.length m j rfl (by omega) hl1.symm)
      have HP := Aside0.mk (show 0 < d ∧ (P ++ V).length + d = m ∧ n = (P ++ V).length + d + j + R.length ∧ d + j + 1 < gk by have := HG.out; simp only [List.length_append]; omega)
      rw [hdd] at hl2
      have HR := Aside0.mk (And.intro hl2 (And.intro hl1 (And.intro h0j hZ2)))
      clear hdd hU1 hU2 hl1 hl2 hZ2 hUs hZ hnl hU hV hnn HG hPm hij heq
      go_wp2_with (first
        | (go_at_call 30
           (with_reducible refine (HC.out _ (hS.ft 1) (by exact hS.pre1)).mono ?_)
           rintro e w6 ⟨rfl, hq⟩
           replace hS := hS.post1 hq))
      go_roundg (gk - 1)
      case measure => have := HP.out; omega
      case rel => exact ⟨d, j, rfl, rfl, ⟨by have := HP.out; omega⟩, ⟨P ++ V, U2, U1, R, HR.out.1, HR.out.2.1, HP.out.1, HR.out.2.2.1, HP.out.2.1, HR.out.2.2.2, HP.out.2.2.1, hS.lt⟩⟩
    · have hd2 : decide (j < i) = false := decide_eq_false hij
      have hUs : P ++ U ++ V ++ R = P ++ U ++ V.take (j - i) ++ V.drop (j - i) ++ R := by rw [List.append_assoc (P ++ U) (V.take (j - i)), List.take_append_drop]
      have hl1 : (V.take (j - i)).length = j - i := by rw [List.length_take]; omega
      have hl2 : (V.drop (j - i)).length = i := by rw [List.length_drop]; omega
      have hZ2 : P ++ V.take (j - i) ++ V.drop (j - i) ++ (U ++ R) = Z := by rw [← hZ, List.append_assoc P, List.take_append_drop]; simp
      rw [hUs] at hS
      obtain ⟨V1, hV1⟩ : ∃ z, V.take (j - i) = z := ⟨_, rfl⟩
      obtain ⟨V2, hV2⟩ : ∃ z, V.drop (j - i) = z := ⟨_, rfl⟩
      rw [hV1, hV2] at hS hZ2
      rw [hV1] at hl1
      rw [hV2] at hl2
      obtain ⟨d, hdd⟩ : ∃ d, j - i = d := ⟨_, rfl⟩
      obtain ⟨s, hs⟩ : ∃ s, m + j = s := ⟨_, rfl⟩
      obtain ⟨t, ht⟩ : ∃ t, s - i = t := ⟨_, rfl⟩
      have q3 : (j : Int) - (i : Int) = (d : Int) := by omega
      have q4 : IntKind.i64.wrap (d : Int) = (d : Int) := by rw [IntKind.wrap_i64]; omega
      have q5 : (m : Int) + (j : Int) = (s : Int) := by omega
      have q6 : IntKind.i64.wrap (s : Int) = (s : Int) := by rw [IntKind.wrap_i64]; omega
      have q7 : (s : Int) - (i : Int) = (t : Int) := by omega
      have q8 : IntKind.i64.wrap (t : Int) = (t : Int) := by rw [IntKind.wrap_i64]; omega
      have HC := Aside0.mk (fun W S' h => swr_parts g c n P U V1 V2 R W S' h (by simp only [List.length_append]; omega) (fun e => by rw [e] at hU; simp at hU; omega) (by omega) hn0 P.length t i rfl (by omega) hU.symm)
      have HP := Aside0.mk (show 0 < d ∧ P.length + i = m ∧ n = P.length + i + d + (U ++ R).length ∧ i + d + 1 < gk by have := HG.out; simp only [List.length_append]; omega)
      rw [hdd] at hl1
      have HR := Aside0.mk (And.intro hl2 (And.intro hl1 (And.intro h0i hZ2)))
      have HA := Aside0.mk (show P ++ V2 ++ V1 ++ U ++ R = P ++ V2 ++ V1 ++ (U ++ R) from List.append_assoc _ _ _)
      clear hdd hs ht hV1 hV2 hl1 hl2 hZ2 hUs hZ hnl hU hV hnn HG hPm hij heq
      go_wp2_with (first
        | (go_at_call 30
           (with_reducible refine (HC.out _ (hS.ft 1) (by exact hS.pre1)).mono ?_)
           rintro e w6 ⟨rfl, hq⟩
           replace hS := hS.post1 hq))
      go_roundg (gk - 1)
      case measure => have := HP.out; omega
      case rel => exact ⟨i, d, rfl, rfl, ⟨by have := HP.out; omega⟩, ⟨P, V2, V1, U ++ R, HR.out.1, HR.out.2.1, HR.out.2.2.1, HP.out.1, HP.out.2.1, HR.out.2.2.2, HP.out.2.2.1, by rw [← HA.out]; exact hS.lt⟩⟩
end Go.Proofs.Ytpiejdncoeldeaa.Srt
namespace Go.Proofs.Ytpiejdncoeldeaa.Srt
open Go.RowKit Go.Proofs.YtpiejdncoeldeaaW.PrintWords Go.Proofs.YtpiejdncoeldeaaW.PrintLast Go.Proofs.YtpiejdncoeldeaaW.PrintMore Go.Proofs.Ytpiejdncoeldeaa.Own Go.Proofs.Ytpiejdncoeldeaa.Sl Go.Proofs.Ytpiejdncoeldeaa.Bs Go.Proofs.Ytpiejdncoeldeaa.Ord Go.Proofs.Ytpiejdncoeldeaa.Cm
set_option linter.unusedVariables false
set_option linter.unusedSimpArgs false
set_option maxHeartbeats 8000000 in
set_option maxRecDepth 100000 in
theorem sm_one (g c n a m b : Nat) (xs : List ByteArray) (w : World) (S : Nat → Prop) (h : Hs w S [rw_ g n c xs]) (hn : n = xs.length) (ha : m = a + 1) (hm : m ≤ b) (hb : b ≤ n) (hn2 : n ≤ 100000) (hs : ∀ s, s ∈ xs → s.size ≤ 1000000) :
    Calls Try.prog 28 #[.slice (some ⟨g, 0, none⟩) n c, .int .i64 (a : Int), .int .i64 (m : Int), .int .i64 (b : Int), .func (.func 25) #[] #[]] w fun e w' => e = .returned (.tuple #[]) ∧
      ∃ i, m ≤ i ∧ i ≤ b ∧ (i = m ∨ cm (gt xs (i - 1)) (gt xs a) < 0) ∧ (i = b ∨ ¬ cm (gt xs i) (gt xs a) < 0) ∧ Sp w S [rw_ g n c (mvF a (i - m) xs)] w' := by
  have hS := Sp.start h
  have HN := Aside0.mk (show n ≤ 100000 ∧ m = a + 1 ∧ m ≤ b ∧ b ≤ n ∧ n = xs.length from ⟨hn2, ha, hm, hb, hn⟩)
  have HSZ := Aside0.mk hs
  have e1 : (m : Int) - (a : Int) = 1 := by omega
  have hbi : (b : Int) ≤ 100000 := by omega
  have hai : (a : Int) ≤ 100000 := by omega
  have ham : a < xs.length := by omega
  obtain ⟨x, hx⟩ : ∃ x, gt xs a = x := ⟨_, rfl⟩
  rw [hx]
  have HX := Aside0.mk hx
  have HXS := Aside0.mk (show x.size ≤ 1000000 by rw [← hx]; exact getD_mem_or xs _ _ hs (by decide))
  have HAM := Aside0.mk ham
  clear h hn ha hm hb hn2 hs hx ham
  go_enter Try.func28, Try.ntmps28
  go_wp2
  go_loopg [10, 11] (b + 1) (fun gk v10 v11 wr => ∃ (i j : Nat), v10 = .int .i64 (i : Int) ∧ v11 = .int .i64 (j : Int) ∧ Aside0 (m ≤ i ∧ i ≤ j ∧ j ≤ b ∧ j - i < gk ∧ (i = m ∨ cm (gt xs (i - 1)) x < 0) ∧ (j = b ∨ ¬ cm (gt xs j) x < 0)) ∧ Aside0 (Sp w S [rw_ g n c xs] wr))
  case atStart => exact ⟨m, b, rfl, rfl, ⟨Nat.le_refl _, HN.out.2.2.1, Nat.le_refl _, by omega, .inl rfl, .inl rfl⟩, ⟨hS⟩⟩
  case round =>
    clear hS
    obtain ⟨i, j, rfl, rfl, HI, HS⟩ := hrel
    have hS := HS.out
    clear HS
    have hi0 : (0 : Int) ≤ (i : Int) := by omega
    have hi1 : (i : Int) ≤ 100000 := by have := HI.out; omega
    have hj1 : (j : Int) ≤ 100000 := by have := HI.out; omega
    by_cases hlt : i < j
    case neg =>
      have hd : decide (i < j) = false := decide_eq_false hlt
      have HI2 := Aside0.mk (show m ≤ i ∧ i ≤ b ∧ (i = m ∨ cm (gt xs (i - 1)) x < 0) ∧ (i = b ∨ ¬ cm (gt xs i) x < 0) by
        have h := HI.out
        have e : j = i := by omega
        rw [e] at h
        exact ⟨h.1, by omega, h.2.2.2.2.1, h.2.2.2.2.2⟩)
      obtain ⟨Z, hZ⟩ : ∃ Z, mvF a (i - m) xs = Z := ⟨_, rfl⟩
      have HF := Aside0.mk (show ∀ W, Sp w S [rw_ g n c Z] W → ∃ i, m ≤ i ∧ i ≤ b ∧ (i = m ∨ cm (gt xs (i - 1)) x < 0) ∧ (i = b ∨ ¬ cm (gt xs i) x < 0) ∧ Sp w S [rw_ g n c (mvF a (i - m) xs)] W from
        fun W h => ⟨i, HI2.out.1, HI2.out.2.1, HI2.out.2.2.1, HI2.out.2.2.2, by rw [hZ]; exact h⟩)
      obtain ⟨e, he⟩ : ∃ e, i - 1 = e := ⟨_, rfl⟩
      have q1 : (i : Int) - 1 = (e : Int) := by have := HN.out; have := HI2.out; omega
      have q2 : IntKind.i64.wrap (e : Int) = (e : Int) := by rw [IntKind.wrap_i64]; omega
      have HE := Aside0.mk (show a ≤ e ∧ e + 1 ≤ b ∧ mvF a (e - a) xs = Z by
        have := HN.out; have := HI2.out
        refine ⟨by omega, by omega, ?_⟩
        rw [← hZ, show e - a = i - m by omega])
      clear hlt HI HI2 hZ he
      go_wp2
      go_loopg [13] (b + 1) (fun gk v13 wr => ∃ (k : Nat) (ys : List ByteArray), v13 = .int .i64 (k : Int) ∧ Aside0 (k ≤ e ∧ e - k < gk ∧ mvF k (e - k) ys = Z ∧ n = ys.length) ∧ Aside0 (Sp w S [rw_ g n c ys] wr))
      case atStart => exact ⟨a, xs, rfl, ⟨HE.out.1, by have := HE.out; omega, HE.out.2.2, HN.out.2.2.2.2⟩, ⟨hS⟩⟩
      case round =>
        clear hS
        obtain ⟨k, ys, rfl, HK, HS⟩ := hrel
        have hS := HS.out
        clear HS
        have hk0 : (0 : Int) ≤ (k : Int) := by omega
        have hk1 : (k : Int) ≤ 100000 := by have := HK.out; omega
        by_cases hlt : k < e
        case neg =>
          have hd : decide (k < e) = false := decide_eq_false hlt
          have HZ := Aside0.mk (show ys = Z by have := HK.out.2.2.1; rw [show e - k = 0 by omega] at this; exact this)
          go_wp2
          (try simp only [Exit.inBlock, Exit.then])
          refine bodyPost_ret (results_none rfl _ _ _) rfl ?_
          obtain rfl := HZ.out
          exact ⟨rfl, HF.out _ hS⟩
        have hd : decide (k < e) = true := decide_eq_true hlt
        have HST := Aside0.mk (show mvF (k + 1) (e - (k + 1)) (swp k (k + 1) ys) = Z by
          have := HK.out.2.2.1
          rw [show e - k = (e - (k + 1)) + 1 by omega] at this
          exact this)
        obtain ⟨q, hq⟩ : ∃ q, k + 1 = q := ⟨_, rfl⟩
        have hpn : k < ys.length := by have := HN.out; have := HE.out; have := HK.out; omega
        have hqn : q < ys.length := by have := HN.out; have := HE.out; have := HK.out; omega
        rw [hq] at HST
        have hqi : (k : Int) + 1 = (q : Int) := by omega
        have hqw : IntKind.i64.wrap (q : Int) = (q : Int) := by rw [IntKind.wrap_i64]; omega
        have hpn2 : (k : Int) < (n : Int) := by have := HK.out; omega
        have hqn2 : (q : Int) < (n : Int) := by have := HK.out; omega
        have hq0 : (0 : Int) ≤ (q : Int) := by omega
        have hne : (k : Int) < (q : Int) := by omega
        obtain ⟨y0, hx⟩ : ∃ x, gt ys k = x := ⟨_, rfl⟩
        obtain ⟨y1, hy⟩ : ∃ y, gt ys q = y := ⟨_, rfl⟩
        have hcx := str_cell (hS.reads 0) hpn hx
        have hcy := str_cell (hS.reads 0) hqn hy
        have HLT := Aside0.mk (show k < e ∧ q = k + 1 from ⟨hlt, hq.symm⟩)
        have hfx := row_fz hS 0 rfl HK.out.2.2.2 k hpn
        have hfy := row_fz hS 0 rfl HK.out.2.2.2 q hqn
        have HW := Aside0.mk (show swp k q ys = (ys.set k y1).set q y0 by unfold swp; rw [hx, hy])
        clear hx hy hpn hqn hq hlt
        go_wp2
        go_region
        go_wp2
        have hS2 := (hS.rset 0 rfl HK.out.2.2.2 k y1).rset 0 rfl (by rw [List.length_set]; exact HK.out.2.2.2) q y0
        go_roundg (gk - 1)
        case measure => have := HK.out; have := HLT.out; omega
        case rel => exact ⟨q, (ys.set k y1).set q y0, rfl, ⟨by have := HLT.out; omega, by have := HK.out; have := HLT.out; omega, by rw [← HW.out]; exact HST.out, by simp; exact HK.out.2.2.2⟩, ⟨by exact Sp.lt (Sp.sel (l2 := [rw_ g n c ((ys.set k y1).set q y0)]) hS2 [0])⟩⟩
    have hd : decide (i < j) = true := decide_eq_true hlt
    obtain ⟨s, hs⟩ : ∃ s, i + j = s := ⟨_, rfl⟩
    obtain ⟨q, hq⟩ : ∃ q, s / 2 = q := ⟨_, rfl⟩
    have q1 : (i : Int) + (j : Int) = (s : Int) := by omega
    have q2 : IntKind.i64.wrap (s : Int) = (s : Int) := by rw [IntKind.wrap_i64]; omega
    have q3 : IntKind.u64.wrap (s : Int) = (s : Int) := by rw [IntKind.wrap_u64]; omega
    have q4 : IntKind.i64.wrap (q : Int) = (q : Int) := by rw [IntKind.wrap_i64]; omega
    have q5 : (s : Int) / 2 = (q : Int) := by omega
    have hqn : q < xs.length := by have := HN.out; have := HI.out; omega
    obtain ⟨y, hy⟩ : ∃ y, gt xs q = y := ⟨_, rfl⟩
    have hcx := str_cell (hS.reads 0) HAM.out HX.out
    have hcy := str_cell (hS.reads 0) hqn hy
    obtain ⟨k, hk⟩ : ∃ k, cm y x = k := ⟨_, rfl⟩
    have HCL := Aside0.mk (fun W => clo_any y x W (by rw [← hy]; exact getD_mem_or xs _ _ HSZ.out (by decide)) HXS.out)
    rw [hk] at HCL
    have HY := Aside0.mk (show cm (gt xs q) x = k by rw [hy]; exact hk)
    have HQ := Aside0.mk (show i ≤ q ∧ q < j by omega)
    have hq0 : (0 : Int) ≤ (q : Int) := by omega
    have hqn2 : (q : Int) < (n : Int) := by have := HN.out; omega
    have han2 : (a : Int) < (n : Int) := by have := HN.out; omega
    have ha0 : (0 : Int) ≤ (a : Int) := by omega
    have hq1 : (q : Int) ≤ 100000 := by omega
    by_cases hk0 : k < 0
    · have hd2 : decide (k < 0) = true := decide_eq_true hk0
      have HK0 := Aside0.mk hk0
      clear hk0 hk hy hs hq hqn hlt
      go_wp2
      go_quiet ((go_at_call 25; exact qleft (HCL.out _)))
      go_wp2
      go_roundg (gk - 1)
      case measure => have := HI.out; have := HQ.out; omega
      case rel => exact ⟨q + 1, j, by simp, rfl, ⟨by have := HI.out; have := HQ.out; omega, by have := HQ.out; omega, HI.out.2.2.1, by have := HI.out; have := HQ.out; omega, .inr (by rw [Nat.add_sub_cancel, HY.out]; exact HK0.out), HI.out.2.2.2.2.2⟩, ⟨hS.lt⟩⟩
    · have hd2 : decide (k < 0) = false := decide_eq_false hk0
      have HK0 := Aside0.mk hk0
      clear hk0 hk hy hs hq hqn hlt
      go_wp2
      go_quiet ((go_at_call 25; exact qleft (HCL.out _)))
      go_wp2
      go_roundg (gk - 1)
      case measure => have := HI.out; have := HQ.out; omega
      case rel => exact ⟨i, q, rfl, rfl, ⟨HI.out.1, HQ.out.1, by have := HI.out; have := HQ.out; omega, by have := HI.out; have := HQ.out; omega, HI.out.2.2.2.2.1, .inr (by rw [HY.out]; exact HK0.out)⟩, ⟨hS.lt⟩⟩
end Go.Proofs.Ytpiejdncoeldeaa.Srt
namespace Go.Proofs.Ytpiejdncoeldeaa.Srt
open Go.RowKit Go.Proofs.YtpiejdncoeldeaaW.PrintWords Go.Proofs.YtpiejdncoeldeaaW.PrintLast Go.Proofs.YtpiejdncoeldeaaW.PrintMore Go.Proofs.Ytpiejdncoeldeaa.Own Go.Proofs.Ytpiejdncoeldeaa.Sl Go.Proofs.Ytpiejdncoeldeaa.Bs Go.Proofs.Ytpiejdncoeldeaa.Ord Go.Proofs.Ytpiejdncoeldeaa.Cm
set_option linter.unusedVariables false
set_option linter.unusedSimpArgs false
set_option maxHeartbeats 8000000 in
set_option maxRecDepth 100000 in
theorem sm_two (g c n a m b : Nat) (xs : List ByteArray) (w : World) (S : Nat → Prop) (h : Hs w S [rw_ g n c xs]) (hn : n = xs.length) (ha : a < m) (ha1 : m ≠ a + 1) (hm : b = m + 1) (hb : b ≤ n) (hn2 : n ≤ 100000) (hs : ∀ s, s ∈ xs → s.size ≤ 1000000) :
    Calls Try.prog 28 #[.slice (some ⟨g, 0, none⟩) n c, .int .i64 (a : Int), .int .i64 (m : Int), .int .i64 (b : Int), .func (.func 25) #[] #[]] w fun e w' => e = .returned (.tuple #[]) ∧
      ∃ i, a ≤ i ∧ i ≤ m ∧ (i = a ∨ ¬ cm (gt xs m) (gt xs (i - 1)) < 0) ∧ (i = m ∨ cm (gt xs m) (gt xs i) < 0) ∧ Sp w S [rw_ g n c (mvB m (m - i) xs)] w' := by
  have hS := Sp.start h
  have HN := Aside0.mk (show n ≤ 100000 ∧ a < m ∧ b = m + 1 ∧ b ≤ n ∧ n = xs.length from ⟨hn2, ha, hm, hb, hn⟩)
  have HSZ := Aside0.mk hs
  obtain ⟨d, hd⟩ : ∃ d, m - a = d := ⟨_, rfl⟩
  have e1 : (m : Int) - (a : Int) = (d : Int) := by omega
  have e2 : IntKind.i64.wrap (d : Int) = (d : Int) := by rw [IntKind.wrap_i64]; omega
  have e3 : ¬ ((d : Int) = 1) := by omega
  have e6 : ((d : Int) == 1) = false := beq_eq_false_iff_ne.2 e3
  have e5 : (b : Int) - (m : Int) = 1 := by omega
  have hmi : (m : Int) ≤ 100000 := by omega
  have hbi : (b : Int) ≤ 100000 := by omega
  have hai : (a : Int) ≤ 100000 := by omega
  have ham : m < xs.length := by omega
  obtain ⟨x, hx⟩ : ∃ x, gt xs m = x := ⟨_, rfl⟩
  rw [hx]
  have HX := Aside0.mk hx
  have HXS := Aside0.mk (show x.size ≤ 1000000 by rw [← hx]; exact getD_mem_or xs _ _ hs (by decide))
  have HAM := Aside0.mk ham
  clear h hn ha ha1 hm hb hn2 hs hx ham hd
  go_enter Try.func28, Try.ntmps28
  go_wp2
  go_loopg [14, 15] (b + 1) (fun gk v14 v15 wr => ∃ (i j : Nat), v14 = .int .i64 (i : Int) ∧ v15 = .int .i64 (j : Int) ∧ Aside0 (a ≤ i ∧ i ≤ j ∧ j ≤ m ∧ j - i < gk ∧ (i = a ∨ ¬ cm x (gt xs (i - 1)) < 0) ∧ (j = m ∨ cm x (gt xs j) < 0)) ∧ Aside0 (Sp w S [rw_ g n c xs] wr))
  case atStart => exact ⟨a, m, rfl, rfl, ⟨Nat.le_refl _, by have := HN.out; omega, Nat.le_refl _, by have := HN.out; omega, .inl rfl, .inl rfl⟩, ⟨hS⟩⟩
  case round =>
    clear hS
    obtain ⟨i, j, rfl, rfl, HI, HS⟩ := hrel
    have hS := HS.out
    clear HS
    have hi0 : (0 : Int) ≤ (i : Int) := by omega
    have hi1 : (i : Int) ≤ 100000 := by have := HI.out; omega
    have hj1 : (j : Int) ≤ 100000 := by have := HI.out; omega
    by_cases hlt : i < j
    case neg =>
      have hd : decide (i < j) = false := decide_eq_false hlt
      have HI2 := Aside0.mk (show a ≤ i ∧ i ≤ m ∧ (i = a ∨ ¬ cm x (gt xs (i - 1)) < 0) ∧ (i = m ∨ cm x (gt xs i) < 0) by
        have h := HI.out
        have e : j = i := by omega
        rw [e] at h
        exact ⟨h.1, by omega, h.2.2.2.2.1, h.2.2.2.2.2⟩)
      obtain ⟨Z, hZ⟩ : ∃ Z, mvB m (m - i) xs = Z := ⟨_, rfl⟩
      have HF := Aside0.mk (show ∀ W, Sp w S [rw_ g n c Z] W → ∃ i, a ≤ i ∧ i ≤ m ∧ (i = a ∨ ¬ cm x (gt xs (i - 1)) < 0) ∧ (i = m ∨ cm x (gt xs i) < 0) ∧ Sp w S [rw_ g n c (mvB m (m - i) xs)] W from
        fun W h => ⟨i, HI2.out.1, HI2.out.2.1, HI2.out.2.2.1, HI2.out.2.2.2, by rw [hZ]; exact h⟩)
      have HE := Aside0.mk (show i ≤ m ∧ mvB m (m - i) xs = Z from ⟨HI2.out.2.1, hZ⟩)
      clear hlt HI HI2 hZ
      go_wp2
      go_loopg [17] (b + 1) (fun gk v17 wr => ∃ (k : Nat) (ys : List ByteArray), v17 = .int .i64 (k : Int) ∧ Aside0 (i ≤ k ∧ k ≤ m ∧ k - i < gk ∧ mvB k (k - i) ys = Z ∧ n = ys.length) ∧ Aside0 (Sp w S [rw_ g n c ys] wr))
      case atStart => exact ⟨m, xs, rfl, ⟨HE.out.1, Nat.le_refl _, by have := HN.out; omega, HE.out.2, HN.out.2.2.2.2⟩, ⟨hS⟩⟩
      case round =>
        clear hS
        obtain ⟨k, ys, rfl, HK, HS⟩ := hrel
        have hS := HS.out
        clear HS
        have hk0 : (0 : Int) ≤ (k : Int) := by omega
        have hk1 : (k : Int) ≤ 100000 := by have := HK.out; omega
        by_cases hlt : i < k
        case neg =>
          have hd : decide (i < k) = false := decide_eq_false hlt
          have HZ := Aside0.mk (show ys = Z by have := HK.out.2.2.2.1; rw [show k - i = 0 by omega] at this; exact this)
          go_wp2
          (try simp only [Exit.inBlock, Exit.then])
          refine bodyPost_ret (results_none rfl _ _ _) rfl ?_
          obtain rfl := HZ.out
          exact ⟨rfl, HF.out _ hS⟩
        have hd : decide (i < k) = true := decide_eq_true hlt
        have HST := Aside0.mk (show mvB (k - 1) (k - 1 - i) (swp k (k - 1) ys) = Z by
          have := HK.out.2.2.2.1
          rw [show k - i = (k - 1 - i) + 1 by omega] at this
          exact this)
        obtain ⟨q, hq⟩ : ∃ q, k - 1 = q := ⟨_, rfl⟩
        have hpn : k < ys.length := by have := HN.out; have := HE.out; have := HK.out; omega
        have hqn : q < ys.length := by have := HN.out; have := HE.out; have := HK.out; omega
        rw [hq] at HST
        have hqi : (k : Int) - 1 = (q : Int) := by omega
        have hqw : IntKind.i64.wrap (q : Int) = (q : Int) := by rw [IntKind.wrap_i64]; omega
        have hpn2 : (k : Int) < (n : Int) := by have := HK.out; omega
        have hqn2 : (q : Int) < (n : Int) := by have := HK.out; omega
        have hq0 : (0 : Int) ≤ (q : Int) := by omega
        have hne : (q : Int) < (k : Int) := by omega
        obtain ⟨y0, hx⟩ : ∃ x, gt ys k = x := ⟨_, rfl⟩
        obtain ⟨y1, hy⟩ : ∃ y, gt ys q = y := ⟨_, rfl⟩
        have hcx := str_cell (hS.reads 0) hpn hx
        have hcy := str_cell (hS.reads 0) hqn hy
        have HLT := Aside0.mk (show i < k ∧ q + 1 = k from ⟨hlt, by omega⟩)
        have hfx := row_fz hS 0 rfl HK.out.2.2.2.2 k hpn
        have hfy := row_fz hS 0 rfl HK.out.2.2.2.2 q hqn
        have HW := Aside0.mk (show swp k q ys = (ys.set k y1).set q y0 by unfold swp; rw [hx, hy])
        clear hx hy hpn hqn hq hlt
        go_wp2
        go_region
        go_wp2
        have hS2 := (hS.rset 0 rfl HK.out.2.2.2.2 k y1).rset 0 rfl (by rw [List.length_set]; exact HK.out.2.2.2.2) q y0
        go_roundg (gk - 1)
        case measure => have := HK.out; have := HLT.out; omega
        case rel => exact ⟨q, (ys.set k y1).set q y0, rfl, ⟨by have := HLT.out; omega, by have := HK.out; have := HLT.out; omega, by have := HK.out; have := HLT.out; omega, by rw [← HW.out]; exact HST.out, by simp; exact HK.out.2.2.2.2⟩, ⟨by exact Sp.lt (Sp.sel (l2 := [rw_ g n c ((ys.set k y1).set q y0)]) hS2 [0])⟩⟩
    have hd : decide (i < j) = true := decide_eq_true hlt
    obtain ⟨s, hs⟩ : ∃ s, i + j = s := ⟨_, rfl⟩
    obtain ⟨q, hq⟩ : ∃ q, s / 2 = q := ⟨_, rfl⟩
    have q1 : (i : Int) + (j : Int) = (s : Int) := by omega
    have q2 : IntKind.i64.wrap (s : Int) = (s : Int) := by rw [IntKind.wrap_i64]; omega
    have q3 : IntKind.u64.wrap (s : Int) = (s : Int) := by rw [IntKind.wrap_u64]; omega
    have q4 : IntKind.i64.wrap (q : Int) = (q : Int) := by rw [IntKind.wrap_i64]; omega
    have q5 : (s : Int) / 2 = (q : Int) := by omega
    have hqn : q < xs.length := by have := HN.out; have := HI.out; omega
    obtain ⟨y, hy⟩ : ∃ y, gt xs q = y := ⟨_, rfl⟩
    have hcx := str_cell (hS.reads 0) HAM.out HX.out
    have hcy := str_cell (hS.reads 0) hqn hy
    obtain ⟨k, hk⟩ : ∃ k, cm x y = k := ⟨_, rfl⟩
    have HCL := Aside0.mk (fun W => clo_any x y W HXS.out (by rw [← hy]; exact getD_mem_or xs _ _ HSZ.out (by decide)))
    rw [hk] at HCL
    have HY := Aside0.mk (show cm x (gt xs q) = k by rw [hy]; exact hk)
    have HQ := Aside0.mk (show i ≤ q ∧ q < j by omega)
    have hq0 : (0 : Int) ≤ (q : Int) := by omega
    have hqn2 : (q : Int) < (n : Int) := by have := HN.out; omega
    have han2 : (m : Int) < (n : Int) := by have := HN.out; omega
    have ha0 : (0 : Int) ≤ (m : Int) := by omega
    have hq1 : (q : Int) ≤ 100000 := by omega
    by_cases hk0 : k < 0
    · have hd2 : decide (k < 0) = true := decide_eq_true hk0
      have HK0 := Aside0.mk hk0
      clear hk0 hk hy hs hq hqn hlt
      go_wp2
      go_quiet ((go_at_call 25; exact qleft (HCL.out _)))
      go_wp2
      go_roundg (gk - 1)
      case measure => have := HI.out; have := HQ.out; omega
      case rel => exact ⟨i, q, rfl, rfl, ⟨HI.out.1, HQ.out.1, by have := HI.out; have := HQ.out; omega, by have := HI.out; have := HQ.out; omega, HI.out.2.2.2.2.1, .inr (by rw [HY.out]; exact HK0.out)⟩, ⟨hS.lt⟩⟩
    · have hd2 : decide (k < 0) = false := decide_eq_false hk0
      have HK0 := Aside0.mk hk0
      clear hk0 hk hy hs hq hqn hlt
      go_wp2
      go_quiet ((go_at_call 25; exact qleft (HCL.out _)))
      go_wp2
      go_roundg (gk - 1)
      case measure => have := HI.out; have := HQ.out; omega
      case rel => exact ⟨q + 1, j, by simp, rfl, ⟨by have := HI.out; have := HQ.out; omega, by have := HQ.out; omega, HI.out.2.2.1, by have := HI.out; have := HQ.out; omega, .inr (by rw [Nat.add_sub_cancel, HY.out]; exact HK0.out), HI.out.2.2.2.2.2⟩, ⟨hS.lt⟩⟩
end Go.Proofs.Ytpiejdncoeldeaa.Srt
namespace Go.Proofs.Ytpiejdncoeldeaa.Srt
open Go.RowKit Go.Proofs.YtpiejdncoeldeaaW.PrintWords Go.Proofs.YtpiejdncoeldeaaW.PrintLast Go.Proofs.YtpiejdncoeldeaaW.PrintMore Go.Proofs.Ytpiejdncoeldeaa.Own Go.Proofs.Ytpiejdncoeldeaa.Sl Go.Proofs.Ytpiejdncoeldeaa.Bs Go.Proofs.Ytpiejdncoeldeaa.Ord Go.Proofs.Ytpiejdncoeldeaa.Cm
set_option linter.unusedVariables false
set_option linter.unusedSimpArgs false
def SmOk (g c n a m b : Nat) (xs ys : List ByteArray) : Prop := ∀ (w : World) (S : Nat → Prop), Hs w S [rw_ g n c xs] →
  Calls Try.prog 28 #[.slice (some ⟨g, 0, none⟩) n c, .int .i64 (a : Int), .int .i64 (m : Int), .int .i64 (b : Int), .func (.func 25) #[] #[]] w fun e w' => e = .returned (.tuple #[]) ∧ Sp w S [rw_ g n c ys] w'
def RtOk (g c n a m b : Nat) (xs ys : List ByteArray) : Prop := ∀ (w : World) (S : Nat → Prop), Hs w S [rw_ g n c xs] →
  Calls Try.prog 29 #[.slice (some ⟨g, 0, none⟩) n c, .int .i64 (a : Int), .int .i64 (m : Int), .int .i64 (b : Int), .func (.func 25) #[] #[]] w fun e w' => e = .returned (.tuple #[]) ∧ Sp w S [rw_ g n c ys] w'
theorem gt_mid (P X R : List ByteArray) (i : Nat) (hi : i < X.length) : gt (P ++ X ++ R) (P.length + i) = gt X i := by
  unfold gt
  rw [List.append_assoc, getD_app, List.getD_eq_getElem?_getD, List.getElem?_append_left hi, ← List.getD_eq_getElem?_getD]
theorem gt_mid' (P X R : List ByteArray) (i j : Nat) (hi : i < X.length) (hj : j = P.length + i) : gt (P ++ X ++ R) j = gt X i := by
  subst hj; exact gt_mid P X R i hi
theorem sm_tail (g c n a m b mid s e : Nat) (P X Y R : List ByteArray) (hn : n = (P ++ X ++ Y ++ R).length) (hn2 : n ≤ 100000) (ha : a = P.length) (hm : m = P.length + X.length) (hb : b = P.length + X.length + Y.length)
    (hX : X.Pairwise le) (hY : Y.Pairwise le) (hmid : a < mid ∧ mid < b) (hs0 : a ≤ s ∧ s ≤ m) (he0 : m ≤ e ∧ e ≤ b) (hse : s + e = mid + m)
    (h1 : s = m ∨ e = m ∨ cm (gt (P ++ X ++ Y ++ R) (e - 1)) (gt (P ++ X ++ Y ++ R) s) < 0) (h2 : s = a ∨ e = b ∨ le (gt (P ++ X ++ Y ++ R) (s - 1)) (gt (P ++ X ++ Y ++ R) e))
    (IH : ∀ (a' m' b' : Nat) (P' X' Y' R' : List ByteArray), X'.length + Y'.length < X.length + Y.length → X' ≠ [] → Y' ≠ [] → X'.Pairwise le → Y'.Pairwise le → n = (P' ++ X' ++ Y' ++ R').length → a' = P'.length → m' = P'.length + X'.length → b' = P'.length + X'.length + Y'.length → (∀ s, s ∈ P' ++ X' ++ Y' ++ R' → s ∈ P ++ X ++ Y ++ R) →
      SmOk g c n a' m' b' (P' ++ X' ++ Y' ++ R') (P' ++ srt (X' ++ Y') ++ R')) :
    ∃ L1 L2, (s < m ∧ m < e → RtOk g c n s m e (P ++ X ++ Y ++ R) L1) ∧ (¬ (s < m ∧ m < e) → P ++ X ++ Y ++ R = L1) ∧ (a < s ∧ s < mid → SmOk g c n a s mid L1 L2) ∧ (¬ (a < s ∧ s < mid) → L1 = L2) ∧ (mid < e ∧ e < b → SmOk g c n mid e b L2 (P ++ srt (X ++ Y) ++ R)) ∧ (¬ (mid < e ∧ e < b) → L2 = P ++ srt (X ++ Y) ++ R) := by
  subst ha hm hb
  have hn3 : n = P.length + X.length + Y.length + R.length := by rw [hn]; simp only [List.length_append]
  obtain ⟨u, hu⟩ : ∃ u, s - P.length = u := ⟨_, rfl⟩
  obtain ⟨v, hv⟩ : ∃ v, e - (P.length + X.length) = v := ⟨_, rfl⟩
  have hX12 : X = X.take u ++ X.drop u := (List.take_append_drop u X).symm
  have hY12 : Y = Y.take v ++ Y.drop v := (List.take_append_drop v Y).symm
  have key : srt (X.take u ++ Y.take v) ++ srt (X.drop u ++ Y.drop v) = srt (X ++ Y) := by
    refine cut_at hX hY u v (by omega) (by omega) ?_ ?_
    · rcases h1 with h | h | h
      · exact .inl (by omega)
      · exact .inr (.inl (by omega))
      · by_cases hu2 : u = X.length
        · exact .inl hu2
        by_cases hv2 : v = 0
        · exact .inr (.inl hv2)
        rw [gt_mid' (P ++ X) Y R (v - 1) (e - 1) (by omega) (by simp only [List.length_append]; omega), List.append_assoc (P ++ X), gt_mid' P X (Y ++ R) u s (by omega) (by omega)] at h
        exact .inr (.inr h)
    · rcases h2 with h | h | h
      · exact .inl (by omega)
      · exact .inr (.inl (by omega))
      · by_cases hu2 : u = 0
        · exact .inl hu2
        by_cases hv2 : v = Y.length
        · exact .inr (.inl hv2)
        rw [gt_mid' (P ++ X) Y R v e (by omega) (by simp only [List.length_append]; omega), List.append_assoc (P ++ X), gt_mid' P X (Y ++ R) (u - 1) (s - 1) (by omega) (by omega)] at h
        exact .inr (.inr h)
  have l1 : (X.take u).length = u := by rw [List.length_take]; omega
  have l2 : (X.drop u).length = X.length - u := List.length_drop
  have l3 : (Y.take v).length = v := by rw [List.length_take]; omega
  have l4 : (Y.drop v).length = Y.length - v := List.length_drop
  have sX : (X.take u).Pairwise le ∧ (X.drop u).Pairwise le := ⟨hX.sublist (List.take_sublist _ _), hX.sublist (List.drop_sublist _ _)⟩
  have sY : (Y.take v).Pairwise le ∧ (Y.drop v).Pairwise le := ⟨hY.sublist (List.take_sublist _ _), hY.sublist (List.drop_sublist _ _)⟩
  have eL : P ++ X ++ Y ++ R = (P ++ X.take u) ++ X.drop u ++ Y.take v ++ (Y.drop v ++ R) := by
    rw [List.append_assoc P (X.take u), List.take_append_drop, List.append_assoc (P ++ X) (Y.take v), ← List.append_assoc (Y.take v), List.take_append_drop, List.append_assoc]
  have mX1 : ∀ s, s ∈ X.take u → s ∈ X := fun s => List.mem_of_mem_take
  have mX2 : ∀ s, s ∈ X.drop u → s ∈ X := fun s => List.mem_of_mem_drop
  have mY1 : ∀ s, s ∈ Y.take v → s ∈ Y := fun s => List.mem_of_mem_take
  have mY2 : ∀ s, s ∈ Y.drop v → s ∈ Y := fun s => List.mem_of_mem_drop
  rw [← key]
  generalize X.take u = X1 at *
  generalize X.drop u = X2 at *
  generalize Y.take v = Y1 at *
  generalize Y.drop v = Y2 at *
  have nil_of : ∀ L : List ByteArray, L.length = 0 → L = [] := fun L h => List.eq_nil_of_length_eq_zero h
  have ne_of : ∀ L : List ByteArray, 0 < L.length → L ≠ [] := fun L h e => by rw [e] at h; simp at h
  refine ⟨P ++ X1 ++ Y1 ++ (X2 ++ Y2 ++ R), P ++ srt (X1 ++ Y1) ++ (X2 ++ Y2 ++ R), fun h => ?_, fun h => ?_, fun h => ?_, fun h => ?_, fun h => ?_, fun h => ?_⟩
  · intro w S hh
    rw [eL] at hh
    exact rot_any g c n s (P.length + X.length) e (P ++ X1) X2 Y1 (Y2 ++ R) _ w S hh (by simp) (by simp only [List.length_append]; omega) (ne_of _ (by omega)) (ne_of _ (by omega)) hn2 (by simp only [List.length_append]; omega) (by simp only [List.length_append]; omega) (by simp only [List.length_append]; omega)
  · rw [eL]
    by_cases h3 : s < P.length + X.length
    · have : Y1 = [] := nil_of _ (by omega)
      subst this; simp
    · have : X2 = [] := nil_of _ (by omega)
      subst this; simp
  · exact IH _ _ _ P X1 Y1 (X2 ++ Y2 ++ R) (by omega) (ne_of _ (by omega)) (ne_of _ (by omega)) sX.1 sY.1 (by simp only [List.length_append]; omega) rfl (by omega) (by omega) (fun s hs => by
      simp only [List.mem_append] at hs ⊢
      rcases hs with ((h | h) | h) | (h | h) | h
      · exact .inl (.inl (.inl h))
      · exact .inl (.inl (.inr (mX1 s h)))
      · exact .inl (.inr (mY1 s h))
      · exact .inl (.inl (.inr (mX2 s h)))
      · exact .inl (.inr (mY2 s h))
      · exact .inr h)
  · by_cases h3 : P.length < s
    · have : Y1 = [] := nil_of _ (by omega)
      subst this; rw [List.append_nil, List.append_nil, srt_sorted sX.1]
    · have : X1 = [] := nil_of _ (by omega)
      subst this; rw [List.append_nil, List.nil_append, srt_sorted sY.1]
  · have hl := srt_len (X1 ++ Y1)
    rw [List.length_append] at hl
    have h5 := IH mid e (P.length + X.length + Y.length) (P ++ srt (X1 ++ Y1)) X2 Y2 R (by omega) (ne_of _ (by omega)) (ne_of _ (by omega)) sX.2 sY.2 (by simp only [List.length_append]; omega) (by simp only [List.length_append]; omega) (by simp only [List.length_append]; omega) (by simp only [List.length_append]; omega) (fun s hs => by
      simp only [List.mem_append] at hs ⊢
      rcases hs with (((h | h) | h) | h) | h
      · exact .inl (.inl (.inl h))
      · rcases List.mem_append.1 ((srt_st (X1 ++ Y1)).2.symm.mem h) with h | h
        · exact .inl (.inl (.inr (mX1 s h)))
        · exact .inl (.inr (mY1 s h))
      · exact .inl (.inl (.inr (mX2 s h)))
      · exact .inl (.inr (mY2 s h))
      · exact .inr h)
    have e1 : P ++ srt (X1 ++ Y1) ++ X2 ++ Y2 ++ R = P ++ srt (X1 ++ Y1) ++ (X2 ++ Y2 ++ R) := by simp
    have e2 : P ++ srt (X1 ++ Y1) ++ srt (X2 ++ Y2) ++ R = P ++ (srt (X1 ++ Y1) ++ srt (X2 ++ Y2)) ++ R := by simp
    rw [e1, e2] at h5
    exact h5
  · have e2 : P ++ (srt (X1 ++ Y1) ++ srt (X2 ++ Y2)) ++ R = P ++ srt (X1 ++ Y1) ++ (srt (X2 ++ Y2) ++ R) := by simp
    rw [e2]
    by_cases h3 : mid < e
    · have : Y2 = [] := nil_of _ (by omega)
      subst this; rw [List.append_nil, srt_sorted sX.2]
    · have : X2 = [] := nil_of _ (by omega)
      subst this; rw [List.nil_append, srt_sorted sY.2]
end Go.Proofs.Ytpiejdncoeldeaa.Srt
