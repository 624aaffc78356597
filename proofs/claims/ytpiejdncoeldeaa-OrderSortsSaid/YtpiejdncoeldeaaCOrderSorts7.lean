/- The row of OrderSorts: for every input the law returns true; no condition. Made small by a program of this session (pack.py). -/
import Derived.Below
import Derived.ChangeOld
import Derived.Lib.SmallJoins
import Derived.OpenShut
import Derived.ProofKit
import Derived.ShutString
import Derived.SizedLaws
import Derived.Test.YtpiejdncoeldeaaRows
import Derived.WalkKit
import Derived.Test.YtpiejdncoeldeaaCOrderSorts3
import Derived.Test.YtpiejdncoeldeaaCOrderSorts4
import Derived.Test.YtpiejdncoeldeaaCOrderSorts5
import Derived.Test.YtpiejdncoeldeaaCOrderSorts6
namespace Go.Proofs.Ytpiejdncoeldeaa.Srt
open Go.RowKit Go.Proofs.YtpiejdncoeldeaaW.PrintWords Go.Proofs.YtpiejdncoeldeaaW.PrintLast Go.Proofs.YtpiejdncoeldeaaW.PrintMore Go.Proofs.Ytpiejdncoeldeaa.Own Go.Proofs.Ytpiejdncoeldeaa.Sl Go.Proofs.Ytpiejdncoeldeaa.Bs Go.Proofs.Ytpiejdncoeldeaa.Ord Go.Proofs.Ytpiejdncoeldeaa.Cm
set_option linter.unusedVariables false
set_option linter.unusedSimpArgs false
set_option maxHeartbeats 4000000 in
set_option maxRecDepth 100000 in
theorem great_any (A : Option Addr) (c : Nat) (l : List ByteArray) (w : World) (hC : Kd.string.C w A l.length l) :
    Calls Try.prog 18 #[.slice A l.length c] w fun e w' => (∃ b : Bool, e = .returned (.bool b) ∧ (b = false → l.length ≤ 100 ∧ ∀ s, s ∈ l → s.size ≤ 300)) ∧ Upd None0 w w' := by
  have hS := Sp.nil (w := w) (S := None0)
  have HC0 := Aside0.mk hC
  obtain ⟨n, hln⟩ : ∃ n, l.length = n := ⟨_, rfl⟩
  have HLN := Aside0.mk hln
  rw [hln] at HC0 ⊢
  by_cases hn : 100 < n
  · have hd : decide ((100 : Int) < (n : Int)) = true := decide_eq_true (by omega)
    have hd2 : decide (100 < n) = true := decide_eq_true hn
    clear hC hln hn
    go_enter Try.func18, Try.ntmps18
    go_wp2
    go_ret
    exact ⟨⟨true, rfl, fun h => by cases h⟩, hS.u⟩
  have hd : decide ((100 : Int) < (n : Int)) = false := decide_eq_false (by omega)
  have HN := Aside0.mk hn
  clear hC hln hn
  go_enter Try.func18, Try.ntmps18
  go_wp2
  go_loopg [3] n (fun gk v3 wr => ∃ i : Nat, v3 = .int .i64 (i : Int) ∧ Aside0 (i ≤ n ∧ n - i ≤ gk ∧ ∀ s, s ∈ l.take i → s.size ≤ 300) ∧ Aside0 (Sp w None0 [] wr))
  case atStart => exact ⟨0, rfl, ⟨Nat.zero_le _, by omega, fun s h => by simp at h⟩, ⟨hS⟩⟩
  case round =>
    clear hS
    obtain ⟨i, rfl, HI, HS⟩ := hrel
    have hS := HS.out
    clear HS
    have hi0 : (0 : Int) ≤ (i : Int) := by omega
    have hi1 : (i : Int) ≤ 100 := by have := HI.out; have := HN.out; omega
    by_cases hlt : i < n
    case neg =>
      have hd2 : decide (i < n) = false := decide_eq_false hlt
      have hil : l.take i = l := List.take_of_length_le (by have := HLN.out; omega)
      have HI2 := Aside0.mk HI.out.2.2
      rw [hil] at HI2
      clear hil hlt HI
      go_wp2
      go_ret
      exact ⟨⟨false, rfl, fun _ => ⟨by have := HN.out; have := HLN.out; omega, HI2.out⟩⟩, hS.u⟩
    have hd2 : decide (i < n) = true := decide_eq_true hlt
    have hli : i < l.length := by have := HLN.out; omega
    obtain ⟨ad, e1, hx⟩ := Kd.at_string (Kd.C_below HC0.out hS.u.below0) (i : Int) hi0 (by have := HLN.out; omega)
    subst e1
    obtain ⟨x, hxx⟩ : ∃ x, l[i] = x := ⟨_, rfl⟩
    have hxl : wr.cell? (ad.add i) = some (.string x) := by
      rw [← hxx]
      have : rdOf ByteArray.empty l (i : Int) = l[i] := by simp [rdOf, hli]
      rw [← this]; simpa using hx
    have HX := Aside0.mk (show l[i]? = some x by rw [← hxx]; exact List.getElem?_eq_getElem hli)
    have hin : (i : Int) < (n : Int) := by omega
    clear hx hxx hli
    by_cases hb : 300 < x.size
    · have hd3 : decide ((300 : Int) < (x.size : Int)) = true := decide_eq_true (by omega)
      go_wp2
      go_ret
      exact ⟨⟨true, rfl, fun h => by cases h⟩, hS.u⟩
    · have hd3 : decide ((300 : Int) < (x.size : Int)) = false := decide_eq_false (by omega)
      have HB := Aside0.mk (And.intro hb hlt)
      clear hb hlt
      go_wp2
      go_roundg (gk - 1)
      case measure => have := HI.out; have := HB.out; omega
      case rel => exact ⟨i + 1, by simp, ⟨HB.out.2, by have := HI.out; omega, fun s h => by
        rw [List.take_add_one, HX.out, Option.toList_some] at h
        rcases List.mem_append.1 h with h | h
        · exact HI.out.2.2 s h
        · rw [List.mem_singleton.1 h]; have := HB.out; omega⟩, ⟨hS.lt⟩⟩
set_option maxHeartbeats 4000000 in
set_option maxRecDepth 100000 in
theorem same_any (A1 A2 : Option Addr) (c1 c2 : Nat) (l : List ByteArray) (w : World) (h1 : Kd.string.C w A1 l.length l) (h2 : Kd.string.C w A2 l.length l) (hl : l.length ≤ 100000) :
    Calls Try.prog 20 #[.slice A1 l.length c1, .slice A2 l.length c2] w fun e w' => e = .returned (.bool true) ∧ Upd None0 w w' := by
  have hS := Sp.nil (w := w) (S := None0)
  have H1 := Aside0.mk h1
  have H2 := Aside0.mk h2
  obtain ⟨n, hln⟩ : ∃ n, l.length = n := ⟨_, rfl⟩
  have HLN := Aside0.mk hln
  rw [hln] at H1 H2 hl ⊢
  have hni : (n : Int) ≤ 100000 := by omega
  clear h1 h2 hln hl
  go_enter Try.func20, Try.ntmps20
  go_wp2
  go_loopg [5] n (fun gk v5 wr => ∃ i : Nat, v5 = .int .i64 (i : Int) ∧ Aside0 (i ≤ n ∧ n - i ≤ gk) ∧ Aside0 (Sp w None0 [] wr))
  case atStart => exact ⟨0, rfl, ⟨Nat.zero_le _, by omega⟩, ⟨hS⟩⟩
  case round =>
    clear hS
    obtain ⟨i, rfl, HI, HS⟩ := hrel
    have hS := HS.out
    clear HS
    have hi0 : (0 : Int) ≤ (i : Int) := by omega
    have hi1 : (i : Int) ≤ 100000 := by have := HI.out; omega
    by_cases hlt : i < n
    case neg =>
      have hd2 : decide (i < n) = false := decide_eq_false hlt
      go_wp2
      go_ret
      exact ⟨rfl, hS.u⟩
    have hd2 : decide (i < n) = true := decide_eq_true hlt
    have hli : i < l.length := by have := HLN.out; omega
    obtain ⟨ad, e1, hx⟩ := Kd.at_string (Kd.C_below H1.out hS.u.below0) (i : Int) hi0 (by have := HLN.out; omega)
    subst e1
    obtain ⟨ad2, e1, hx2⟩ := Kd.at_string (Kd.C_below H2.out hS.u.below0) (i : Int) hi0 (by have := HLN.out; omega)
    subst e1
    obtain ⟨x, hxx⟩ : ∃ x, rdOf ByteArray.empty l (i : Int) = x := ⟨_, rfl⟩
    rw [hxx] at hx hx2
    rw [Int.toNat_natCast] at hx hx2
    have hin : (i : Int) < (n : Int) := by omega
    have hee : (x.toList == x.toList) = true := by simp
    have HLT := Aside0.mk hlt
    clear hxx hli hlt
    go_wp2
    go_region
    go_wp2
    go_roundg (gk - 1)
    case measure => have := HI.out; have := HLT.out; omega
    case rel => exact ⟨i + 1, by simp, ⟨HLT.out, by have := HI.out; omega⟩, ⟨hS.lt⟩⟩
end Go.Proofs.Ytpiejdncoeldeaa.Srt
namespace Go.Proofs.Ytpiejdncoeldeaa.Srt
open Go.RowKit Go.Proofs.YtpiejdncoeldeaaW.PrintWords Go.Proofs.YtpiejdncoeldeaaW.PrintLast Go.Proofs.YtpiejdncoeldeaaW.PrintMore Go.Proofs.Ytpiejdncoeldeaa.Own Go.Proofs.Ytpiejdncoeldeaa.Sl Go.Proofs.Ytpiejdncoeldeaa.Bs Go.Proofs.Ytpiejdncoeldeaa.Ord Go.Proofs.Ytpiejdncoeldeaa.Cm
set_option linter.unusedVariables false
set_option linter.unusedSimpArgs false
theorem take_next (s : ByteArray) (i : Nat) (h : i < s.size) : (bytesOf s).take (i + 1) = (bytesOf s).take i ++ [bt s (i : Int)] := by
  rw [List.take_add_one, bt_get]
  have hl : i < (bytesOf s).length := by rw [bytesOf_length]; exact h
  simp [List.getD_eq_getElem?_getD, List.getElem?_eq_getElem hl]
def Beg (L : List ByteArray) (i : Nat) (last : List Int) (bg : Bool) : Prop := bg = decide (0 < i) ∧ ∀ (h : 0 < i) (h2 : i - 1 < L.length), last = bytesOf (L[i - 1])
theorem end_next (g : Nat) (L : List ByteArray) (hL : L.Pairwise le) (hs : ∀ s, s ∈ L → s.size ≤ 300) (i : Nat) (x : ByteArray) (hx : L[i]? = some x) (last : List Int) (bg : Bool) (hb : Beg L i last bg) (w : World) (S : Nat → Prop) (h : Hs w S [Sr.so g 300 last (bytesOf x) bg 0]) :
    Calls Try.prog 15 #[.pointer (some ⟨g, 0, none⟩)] w fun e w' => e = .returned (.int .i64 0) ∧ Sp w S [Sr.so g 300 (bytesOf x) [] true 0] w' := by
  obtain ⟨hi, hx2⟩ := List.getElem?_eq_some_iff.1 hx
  by_cases h0 : 0 < i
  · rw [hb.1, decide_eq_true h0] at h
    rw [hb.2 h0 (by omega)] at h
    have hp := List.pairwise_iff_getElem.1 hL (i - 1) i (by omega) hi (by omega)
    rw [hx2] at hp
    have s1 := hs _ (List.getElem_mem (show i - 1 < L.length by omega))
    have s2 := hs x (hx2 ▸ List.getElem_mem hi)
    exact Sr.end_ok g 300 _ _ (cm (L[i - 1]) x) w S h ⟨bytes_of _, bytes_of _, by rw [bytesOf_length]; omega, by rw [bytesOf_length]; omega⟩ (cm_spec _ _) hp
  · rw [hb.1, decide_eq_false h0] at h
    exact Sr.end_first g 300 last _ w S h
set_option maxHeartbeats 4000000 in
set_option maxRecDepth 100000 in
theorem law_any (A : Option Addr) (c : Nat) (l : List ByteArray) (w : World) (hC : Kd.string.C w A l.length l) (hc : l.length ≤ c) :
    Calls Try.prog 7 #[.slice A l.length c] w fun e w' => e = .returned (.bool true) ∧ Below w.heap.size w w' := by
  have hS := Sp.nil (w := w) (S := None0)
  have HC0 := Aside0.mk hC
  have HG := Aside0.mk (fun (W : World) (h : Upd None0 w W) => great_any A c l W (Kd.C_below hC h.below0))
  have HRS := Aside0.mk (fun (W : World) (h : Upd None0 w W) (h1 : l.length ≤ 1000) h2 => rsort_any A c l W (Kd.C_below hC h.below0) hc h1 h2)
  have HSM := Aside0.mk (fun (A1 A2 : Option Addr) (c1 c2 : Nat) (W : World) h1 h2 h3 => same_any A1 A2 c1 c2 l W h1 h2 h3)
  have HSM2 := Aside0.mk (show ∀ (A1 A2 : Option Addr) (c1 c2 : Nat) (W : World), Kd.string.C W A1 l.length (srt l) → Kd.string.C W A2 l.length (rsort l) → l.length ≤ 100000 → Calls Try.prog 20 #[.slice A1 l.length c1, .slice A2 l.length c2] W fun e w' => e = .returned (.bool true) ∧ Upd None0 W w' from fun A1 A2 c1 c2 W h1 h2 h3 => by
    have h := same_any A1 A2 c1 c2 (srt l) W (by rw [srt_len]; exact h1) (by rw [srt_len, srt_rsort]; exact h2) (by rw [srt_len]; exact h3)
    rw [srt_len] at h
    exact h)
  have HST := Aside0.mk (fun (A2 : Option Addr) (c2 : Nat) (W : World) S' h (h1 : l.length ≤ 100000) h2 => sort_all A2 c2 l W S' h h1 h2)
  have HP := Aside0.mk (show (srt l).Pairwise le ∧ (srt l).length = l.length ∧ ((∀ s, s ∈ l → s.size ≤ 300) → ∀ s, s ∈ srt l → s.size ≤ 300) from ⟨(srt_st l).1, srt_len l, fun h s hs => h s ((srt_st l).2.symm.mem hs)⟩)
  obtain ⟨n, hln⟩ : ∃ n, l.length = n := ⟨_, rfl⟩
  have HLN := Aside0.mk hln
  rw [hln] at HC0 HG HRS HSM HSM2 HST HP ⊢
  have hmm : mn (mx 300 0) 65536 = 300 := by decide
  clear hC hln hc
  go_enter Try.func7, Try.ntmps7
  go_upto_if 14 with (first
    | (go_at_call 8
       (with_reducible refine (Hand.awake_any _).mono ?_)
       rintro e w1 ⟨rfl, hb⟩
       replace hS := Sp.to (by exact hS.lt) (Upd.of_below hb : Upd None0 _ _)
       clear hb)
    | (go_at_call 18
       (with_reducible refine (HG.out _ hS.u).mono ?_)
       rintro e w1 ⟨⟨b, rfl, hb⟩, hun⟩
       replace hS := hS.toN hun
       have HB := Aside0.mk hb
       clear hb hun))
  cases b
  case true =>
    go_wp2_with (first
      | (go_at_call 8
         (with_reducible refine (Hand.awake_any _).mono ?_)
         rintro e w1 ⟨rfl, hb⟩
         replace hS := Sp.to (by exact hS.lt) (Upd.of_below hb : Upd None0 _ _)
         clear hb))
    go_ret
    exact ⟨rfl, (Sp.u (by exact hS.lt)).below0⟩
  have HB2 := Aside0.mk (show n ≤ 100 ∧ ∀ s, s ∈ l → s.size ≤ 300 from ⟨(HB.out rfl).1, (HB.out rfl).2⟩)
  have HZ := Aside0.mk (show ∀ s, s ∈ l → s.size ≤ 1000000 from fun s h => by have := HB2.out.2 s h; omega)
  clear HB
  go_upto_region 7 with (first
    | ((with_reducible refine gate_dst (N := 16) rfl ?_)
       (go_loud (refine sp_lit Kd.string hS 9 rfl (N := 16) rfl ([] : List ByteArray) [] (by first | (go_simp; done) | (go_simp; rfl)) ⟨rfl, fun j p hj => by simp at hj⟩ (by decide) ?_))
       (go_loud (intro A2 c2 w1 hS)))
    | ((with_reducible refine gate_builtin (b := .append) (xs := #[.tmp 16, .tmp 17]) rfl ?_); at_builtin
       (go_loud (refine sp_apps Kd.string hS 0 rfl (.tmp 16) (.tmp 17) 38 9 (.string ByteArray.empty) 16 rfl Try.underlying38 Wr.infoS rfl (by decide) (by decide) (.slice A2 0 c2) [] l _ _ _ rfl rfl (by exact rfl) (by exact Kd.C_below HC0.out hS.u.below0) (fun _ _ h => h) (by have := HB2.out; simp only [List.length_nil]; omega) l rfl _ (fun _ _ => rfl) ?_))
       (go_loud (intro A3 c3 w3 hS))
       (go_loud (rw [HLN.out] at hS ⊢))
       (go_loud (replace hS : Sp w None0 [row Kd.string 9 (.slice A3 n c3) l] w3 := hS)))
    | (go_at_call 19
       (go_loud (have hR0 := hS.row 0))
       (go_loud (with_reducible refine (HST.out A3 c3 _ _ (by exact hR0) (by have := HB2.out; omega) HZ.out).mono ?_))
       (go_loud (rintro e w4 ⟨A4, c4, rfl, hq⟩))
       (go_loud (replace hS := hS.post0 (hq.mo (fun _ h => h.elim)))))
    | (go_at_call 21
       (go_loud (with_reducible refine (HRS.out _ hS.u (by have := HB2.out; omega) HZ.out).mono ?_))
       (go_loud (rintro e w5 ⟨A5, c5, rfl, hq⟩))
       (go_loud (replace hS := hS.post0 (hq.mo (fun _ h => h.elim)))))
    | (go_at_call 20
       first
       | (have hR4 := hS.reads 1
          have hR5 := hS.reads 0
          (with_reducible refine (HSM2.out A4 A5 c4 c5 _ (by exact hR4) (by exact hR5) (by have := HB2.out; omega)).mono ?_)
          rintro e w6 ⟨rfl, hun⟩
          replace hS := hS.toN hun)
       | (have hR3 := hS.reads 2
          (with_reducible refine (HSM.out A3 A c3 c _ (by exact hR3) (by exact Kd.C_below HC0.out hS.u.below0) (by have := HB2.out; omega)).mono ?_)
          rintro e w6 ⟨rfl, hun⟩
          replace hS := hS.toN hun)))
  replace hS := Sp.sel (l2 := [row Kd.string 9 (.slice A4 n c4) (srt l)]) hS [1]
  obtain ⟨L, hL⟩ : ∃ L, srt l = L := ⟨_, rfl⟩
  rw [hL] at hS HP
  have HL := Aside0.mk (show L.Pairwise le ∧ L.length = n ∧ (∀ s, s ∈ L → s.size ≤ 300) ∧ n ≤ 100 from ⟨HP.out.1, HP.out.2.1, HP.out.2.2 HB2.out.2, HB2.out.1⟩)
  clear hL HP HB2 HZ HG HRS HSM HSM2 HST
  go_wp2_with (first
    | (go_at_call 11
       (with_reducible refine (Sr.new_any 300 _ (hS.ft 0)).mono ?_)
       rintro e w1 ⟨gs, rfl, hq⟩
       rw [hmm] at hq
       replace hS := hS.post0 hq))
  go_loopg [37] n (fun gk v37 wr => ∃ (i : Nat) (last : List Int) (bg : Bool), v37 = .int .i64 (i : Int) ∧ Aside0 (i ≤ n ∧ n - i ≤ gk ∧ Beg L i last bg) ∧ Aside0 (Sp w None0 [Sr.so gs 300 last [] bg 0, row Kd.string 9 (.slice A4 n c4) L] wr))
  case atStart => exact ⟨0, [], false, rfl, ⟨Nat.zero_le _, by omega, rfl, fun h => absurd h (by omega)⟩, ⟨hS⟩⟩
  case round =>
    clear hS
    obtain ⟨i, last, bg, rfl, HI, HS⟩ := hrel
    have hS := HS.out
    clear HS
    obtain ⟨gko, hgko⟩ : ∃ q, q = gk := ⟨_, rfl⟩
    rw [← hgko] at HI
    have hi0 : (0 : Int) ≤ (i : Int) := by omega
    have hi1 : (i : Int) ≤ 100 := by have := HI.out; have := HL.out; omega
    by_cases hlt : i < n
    case neg =>
      have hd2 : decide (i < n) = false := decide_eq_false hlt
      go_wp2
      go_ret
      exact ⟨rfl, hS.u.below0⟩
    have hd2 : decide (i < n) = true := decide_eq_true hlt
    have hli : i < L.length := by have := HL.out; omega
    have hCL : Kd.string.C wr A4 L.length L := by have h := hS.reads 1; rw [HL.out.2.1]; exact h
    obtain ⟨ad, e1, hx⟩ := Kd.at_string hCL (i : Int) hi0 (by omega)
    subst e1
    obtain ⟨x, hxx⟩ : ∃ x, L[i] = x := ⟨_, rfl⟩
    have hxl : wr.cell? (ad.add i) = some (.string x) := by
      rw [← hxx]
      have : rdOf ByteArray.empty L (i : Int) = L[i] := by simp [rdOf, hli]
      rw [← this]; simpa using hx
    have HX := Aside0.mk (show L[i]? = some x by rw [← hxx]; exact List.getElem?_eq_getElem hli)
    have HXS := Aside0.mk (show x.size ≤ 300 by rw [← hxx]; exact HL.out.2.2.1 _ (List.getElem_mem hli))
    have hin : (i : Int) < (n : Int) := by omega
    have HLT := Aside0.mk hlt
    have HEN := Aside0.mk (fun W S h => end_next gs L HL.out.1 HL.out.2.2.1 i x HX.out last bg HI.out.2.2 W S h)
    clear hx hxx hli hCL hlt
    go_wp2
    go_loopg [43] x.size (fun gk v43 wr => ∃ (m : Nat), v43 = .int .i64 (m : Int) ∧ Aside0 (m ≤ x.size ∧ x.size - m ≤ gk) ∧ Aside0 (Sp w None0 [Sr.so gs 300 last ((bytesOf x).take m) bg 0, row Kd.string 9 (.slice (some ad) n c4) L] wr))
    case atStart => exact ⟨0, rfl, ⟨Nat.zero_le _, by omega⟩, ⟨by rw [List.take_zero]; exact hS.lt⟩⟩
    case round =>
      clear hS hxl
      obtain ⟨m, rfl, HM, HS⟩ := hrel
      have hS := HS.out
      clear HS
      have hm0 : (0 : Int) ≤ (m : Int) := by omega
      have hm1 : (m : Int) ≤ 300 := by have := HM.out; have := HXS.out; omega
      by_cases hlm : m < x.size
      · have hd3 : decide ((m : Int) < (x.size : Int)) = true := decide_eq_true (by omega)
        have hd4 : decide (m < x.size) = true := decide_eq_true hlm
        have hlmi : (m : Int) < (x.size : Int) := by omega
        obtain ⟨b, hb⟩ : ∃ q, bt x (m : Int) = q := ⟨_, rfl⟩
        have hbx : ∀ h : m < x.size, (((x[m]'h).toNat : Nat) : Int) = b := by rw [← hb]; exact bt_at x (m : Int)
        have HTK := Aside0.mk (take_next x m hlm)
        rw [hb] at HTK
        have HLM := Aside0.mk (show m < x.size ∧ ((bytesOf x).take m).length = m from ⟨hlm, by rw [List.length_take, bytesOf_length]; omega⟩)
        obtain ⟨T, hT⟩ : ∃ T, (bytesOf x).take m = T := ⟨_, rfl⟩
        rw [hT] at hS HTK HLM
        clear hb hT
        go_wp2_with (first
          | (go_at_call 13
             (with_reducible refine (Sr.push_more gs 300 last T bg b _ (hS.ft 1) (by exact hS.pre1) (by have := HLM.out; have := HXS.out; omega) (by have := HLM.out; have := HXS.out; omega)).mono ?_)
             rintro e w2 ⟨rfl, hq⟩
             replace hS := hS.post1 hq
             rw [← HTK.out] at hS))
        go_roundg (gk - 1)
        case measure => have := HM.out; have := HLM.out; omega
        case rel => exact ⟨m + 1, by simp, ⟨HLM.out.1, by have := HM.out; omega⟩, ⟨hS.lt⟩⟩
      · have hd3 : decide ((m : Int) < (x.size : Int)) = false := decide_eq_false (by omega)
        have hd4 : decide (m < x.size) = false := decide_eq_false hlm
        have hT : (bytesOf x).take m = bytesOf x := List.take_of_length_le (by rw [bytesOf_length]; omega)
        rw [hT] at hS
        have HNX := Aside0.mk (show Beg L (i + 1) (bytesOf x) true from ⟨(decide_eq_true (by omega)).symm, fun h h2 => by
          have h3 := List.getElem?_eq_some_iff.1 HX.out
          obtain ⟨h4, h5⟩ := h3
          show bytesOf x = bytesOf L[i]
          rw [h5]⟩)
        clear hT hlm
        go_wp2_with (first
          | (go_at_call 15
             (with_reducible refine (HEN.out _ (hS.ft 1) (by exact hS.pre1)).mono ?_)
             rintro e w2 ⟨rfl, hq⟩
             replace hS := hS.post1 hq))
        go_roundg (gko - 1)
        case measure => have := HI.out; have := HLT.out; omega
        case rel => exact ⟨i + 1, bytesOf x, true, by simp, ⟨HLT.out, by have := HI.out; omega, HNX.out⟩, ⟨hS.lt⟩⟩
end Go.Proofs.Ytpiejdncoeldeaa.Srt
namespace Go.Proofs.Ytpiejdncoeldeaa.orderSorts
open Go.ChangeShapes Go.WideShapes Go.ChangeAt Go.RowKit Go.Joins
open Go.ChangeMaps (open_string shut_string)
set_option linter.unusedVariables false
set_option linter.unusedSimpArgs false
theorem own : ownKnob Try.prog.godebug = none := by kernel_rfl
theorem laidOut : laidOutB Try.prog = true := by kernel_rfl
set_option maxRecDepth 100000 in
theorem lifted (os : Os) (started : os.Started) (H : Type) (enc : TypeId × Value → H) :
    ReturnsInHanded {} Try.checked os 7 .any (Rows.orderSortsSpec.pre6 enc Try.prog Try.f7 Rows.orderSortsRow.domain false) (Rows.orderSortsSpec.post enc Try.prog Try.f7 false true false false) := by
  refine returnsInHanded_of_change_sized (C := Try.checked) own started (by kernel_rfl) Try.func7
    (ChangeSpec.witness6 (enc := enc) (C := Try.checked) false ⟨#[], #[.slice none 0 0], []⟩ 8 (by kernel_rfl) (by kernel_rfl) (by kernel_rfl) (by kernel_rfl)) ?_
  intro W base args ds gs before hval0 hW hcnd hsz0 _
  have hsz : (DataW.weightsEach Try.prog (Try.f7.params.toList ++ Rows.orderSortsSpec.plain.varTypes Try.prog) (ds ++ gs)).all (· ≤ reachBytes) = true := hsz0
  have hval : ∀ (j : Nat) t v, Try.f7.params[j]? = some t → args[j]? = some v → Value.okWide Try.prog W .any base t v := hval0
  have hW' := hW
  obtain ⟨p, q, hA0, hV, rfl, hfz, hnd⟩ := hW
  have hA : DataW.TrodAll enc Try.prog W 0 (fun _ => true) true Try.f7.params.toList args.toList ds p := hA0
  rw [Try.params7] at hA hval hsz
  obtain ⟨v0, vs0, d0, ds0, p0, q0, hargs, rfl, rfl, h0, r0⟩ := trodAll_cons hA
  obtain ⟨rfl, rfl, rfl⟩ := trodAll_nil r0
  obtain rfl : args = #[v0] := by cases args; simp_all
  obtain ⟨rfl, rfl⟩ := trodVars_none hV
  obtain ⟨b0, len0, cap0, rfl⟩ := okWide_slice Try.underlying38 (hval 0 38 v0 rfl rfl)
  have k0 := h0
  have lt0 : ∀ x ∈ p0, x.block < W.heap.size := by obtain ⟨m, hm⟩ := k0; exact DataW.trod_lt m _ _ _ hm
  obtain ⟨a0, rfl, hC0, hc0, w0⟩ := BRow.strs_open hsz (j := 0) (t := 38) rfl rfl Try.underlying38 Try.underlying9 (by kernel_rfl) (by kernel_rfl) h0
  clear hA0 hval0 hsz0 hsz
  refine (Srt.law_any b0 cap0 a0 W hC0 hc0).mono fun e W' ⟨he, bel⟩ => ?_
  subst he
  exact ⟨_, rfl, _, _, _, [], _, [], hW', trodAll_mk1 (shut_bool Try.underlying4 _), (trodAll_cons_mk (Below.trod laidOut (by kernel_rfl) (of_decide_eq_true (by kernel_rfl)) k0 bel lt0) trodAll_mk0), rfl, bel.frame _, fun h => by cases h⟩
theorem over : Rows.orderSortsRow.holds Try.pinned (OpenSpec.ofChange Rows.orderSortsSpec) :=
  OpenClaim.holds_of_wide 7 Try.f7 rfl rfl rfl rfl rfl rfl rfl ⟨rfl, rfl, rfl, rfl, rfl⟩ rfl rfl rfl rfl rfl (by kernel_rfl) Try.func7 (by kernel_rfl)
    (of_decide_eq_true (by kernel_rfl)) (by unfold Func.isWrapper; first | (rw [if_pos (by decide +kernel)]; kernel_rfl) | (rw [if_neg (by decide +kernel)]; exact ⟨rfl, rfl⟩))
    (fun os started H enc _ => lifted os started H enc)
theorem proved : Rows.OrderSortsSaid := over
#print axioms proved
end Go.Proofs.Ytpiejdncoeldeaa.orderSorts
namespace Go.Proofs.Ytpiejdncoeldeaa
theorem orderSorts_holds : Rows.OrderSortsSaid := orderSorts.proved
end Go.Proofs.Ytpiejdncoeldeaa
