/- The reference's queries, walked by hand: what is made, what a date leaves. -/
import Derived.Test.YtidcmkmlcmjekaaZE
import Derived.Outline
import Derived.Lib.SliceRun
import Derived.Laws.Rows
import Derived.Laws.BytesArg
namespace Go.Proofs.Ytidcmkmlcmjekaa.PA
open Go.RowKit Go.Proofs.YtidcmkmlcmjekaaW.PrintWords Go.Proofs.YtidcmkmlcmjekaaW.PrintLast Go.Proofs.YtidcmkmlcmjekaaW.PrintMore Go.Proofs.Ytidcmkmlcmjekaa.Own
attribute [local go_sem] max2_int min2_int max_two min_two max_three min_three max_four min_four
set_option linter.unusedVariables false
set_option linter.unusedSimpArgs false
/-- The reference's state: the list, what was found, what came, whether there was a beginning. -/
def Rq (w : World) (S : Nat → Prop) (g : Nat) (A : Option Addr) (n c : Nat) (found : List S43) (came : ByteArray) (begun : Bool) : Prop :=
  S g ∧ ∃ vf, w.heap[g]? = some (.cells #[.slice A n c, vf, .string came, .bool begun] 39 (0, 0)) ∧ k43.R 43 w 0 S vf found
theorem Rq.upd {w W : World} {S T : Nat → Prop} {g : Nat} {A : Option Addr} {n c : Nat} {found : List S43} {came : ByteArray} {begun : Bool} (h : Rq w S g A n c found came begun) (hu : Upd T w W) (hd : ∀ k, S k → ¬ T k) : Rq W S g A n c found came begun := by
  obtain ⟨hg, vf, hb, hr⟩ := h
  exact ⟨hg, vf, hu.blk hb (hd g hg), row_upd hr hu hd⟩
theorem Rq.mono {w : World} {S S' : Nat → Prop} {g : Nat} {A : Option Addr} {n c : Nat} {found : List S43} {came : ByteArray} {begun : Bool} (h : Rq w S g A n c found came begun) (hs : ∀ k, S k → S' k) : Rq w S' g A n c found came begun := by
  obtain ⟨hg, vf, hb, hr⟩ := h
  exact ⟨hs g hg, vf, hb, row_mono hr hs⟩
theorem Rq.old {w : World} {S : Nat → Prop} {g : Nat} {A : Option Addr} {n c : Nat} {found : List S43} {came : ByteArray} {begun : Bool} (h : Rq w S g A n c found came begun) : Rq w (fun k => S k ∧ k < w.heap.size) g A n c found came begun := by
  obtain ⟨hg, vf, hb, hr⟩ := h
  exact ⟨⟨hg, blk_lt hb⟩, vf, hb, row_old hr⟩
theorem Rq.updN {w W : World} {S : Nat → Prop} {g : Nat} {A : Option Addr} {n c : Nat} {found : List S43} {came : ByteArray} {begun : Bool} (h : Rq w S g A n c found came begun) (hu : Upd None0 w W) : Rq W S g A n c found came begun := h.upd hu (fun _ _ h => h)
/-- What is found behind a date. -/
def dateR (begun : Bool) (came date : ByteArray) (l : List ByteArray) (found : List S43) : List S43 := List.zipWith (fun s a => if begun = true ∧ a.f0 = false ∧ s = came then ⟨true, date⟩ else a) l found
theorem dateR_len (begun : Bool) (came date : ByteArray) (l : List ByteArray) (found : List S43) (h : l.length = found.length) : (dateR begun came date l found).length = l.length := by unfold dateR; simp; omega
theorem dateR_take (begun : Bool) (came date : ByteArray) (l : List ByteArray) (found : List S43) (h : l.length = found.length) (i : Nat) (hi : i < l.length) (hf : i < found.length) :
    (dateR begun came date l found).take (i + 1) = (dateR begun came date l found).take i ++ [if begun = true ∧ found[i].f0 = false ∧ l[i] = came then ⟨true, date⟩ else found[i]] := by
  rw [List.take_add_one]
  congr 1
  unfold dateR
  rw [List.getElem?_zipWith, List.getElem?_eq_getElem hi, List.getElem?_eq_getElem hf]
  rfl
theorem qd_dateR (l : List ByteArray) (ans : List S43) (came : List Int) (bg : Bool) (d : ByteArray) (hb : Bs.Bytes came) (h20 : ∀ s, s ∈ l → s.size ≤ 20) (hl : l.length = ans.length) : qd l ans came bg d = dateR bg (strOfNums came) d l ans := by
  apply List.ext_getElem?
  intro i
  unfold qd dateR
  split
  · rename_i h
    unfold dateL
    rw [List.getElem?_zipWith, List.getElem?_zipWith]
    cases l[i]? with
    | none => rfl
    | some s => cases ans[i]? with
      | none => rfl
      | some a => simp only [dateF, h.1, true_and]
  · rename_i h
    rw [List.getElem?_zipWith]
    by_cases hi : i < l.length
    · rw [List.getElem?_eq_getElem hi, List.getElem?_eq_getElem (by omega)]
      simp only
      rw [if_neg]
      rintro ⟨h1, _, h3⟩
      apply h
      refine ⟨h1, ?_⟩
      rw [← nums_size came hb, ← h3]
      exact h20 _ (List.getElem_mem hi)
    · rw [List.getElem?_eq_none (by omega), List.getElem?_eq_none (by omega)]

set_option maxHeartbeats 16000000 in
set_option maxRecDepth 100000 in
theorem ref_new (A : Option Addr) (n c : Nat) (w : World) (hn : n ≤ 1000) :
    Calls Try.prog 14 #[.slice A n c] w fun e w' => ∃ g : Nat, e = .returned (.pointer (some ⟨g, 0, none⟩)) ∧ Rq w' (New w None0) g A n c (List.replicate n z43) ByteArray.empty false ∧ Upd None0 w w' := by
  have HU := Aside0.mk (Upd.refl None0 w)
  have hu_ := Try.underlying39
  have hu2_ := Try.underlying43
  have HN := Aside0.mk hn
  clear hn
  go_enter Try.func14, Try.ntmps14
  go_wp2_with (first
    | ((with_reducible refine gate_dst (N := 7) rfl ?_)
       refine boxnew ?hg (N := 7) ?hd (cs := #[.slice A n c, .slice none 0 0, .string ByteArray.empty, .bool false]) (t := 39) ?hr ?_; (case hd => rfl); (case hg => rfl); (case hr => first | (go_simp; done) | (go_simp; rfl))
       intro g hge w1 hbox hu
       have GE := Aside0.mk (Nat.le_trans ((by exact ul HU) : Upd None0 w _).size hge)
       replace HU := Aside0.mk (((by exact ul HU) : Upd None0 w _).trans hu (fun _ h => h.elim))
       have B_g := Aside0.mk hbox
       clear hu hbox hge))
  go_loopg [4] n (fun gk v4 wr => ∃ (i : Nat) (v : Value), v4 = .int .i64 (i : Int) ∧ Aside0 (i ≤ n ∧ n - i ≤ gk) ∧ Aside0 (wr.heap[g]? = some (.cells #[.slice A n c, v, .string ByteArray.empty, .bool false] 39 (0, 0))) ∧ Aside0 (k43.R 43 wr 0 (New w None0) v (List.replicate i z43)) ∧ Aside0 (Upd None0 w wr))
  case atStart => exact ⟨0, _, rfl, ⟨Nat.zero_le _, by omega⟩, B_g, ⟨Kd.R_nil _ _ _ _ _⟩, HU⟩
  case round =>
    clear B_g HU
    obtain ⟨i, v, rfl, HI, B_g, R_f, HU⟩ := hrel
    obtain ⟨A1, c1, rfl⟩ := Kd.R_slice R_f.out
    have hi0 : (0 : Int) ≤ (i : Int) := by omega
    have him : (i : Int) ≤ 1000 := by have := HI.out.1; have := HN.out; omega
    by_cases hlt : i < n
    case neg =>
      have hltd : decide ((i : Int) < (n : Int)) = false := decide_eq_false (by omega)
      have hin : i = n := by have := HI.out.1; omega
      subst hin
      go_wp2
      go_ret
      exact ⟨g, rfl, ⟨.inr GE.out, _, B_g.out, R_f.out⟩, HU.out⟩
    have hltd : decide ((i : Int) < (n : Int)) = true := decide_eq_true (by omega)
    have hlti : (i : Int) < (n : Int) := by omega
    have hc1 := co B_g 1 (.slice A1 (List.replicate i z43).length c1) rfl
    have HLL := Aside0.mk (show ((List.replicate i z43).length + 1) * 24 ≤ 140737488355328 by simp; omega)
    obtain ⟨xs, hxs⟩ : ∃ q, List.replicate i z43 = q := ⟨_, rfl⟩
    obtain ⟨ys, hys⟩ : ∃ q, List.replicate (i + 1) z43 = q := ⟨_, rfl⟩
    have HXS := Aside0.mk (show xs ++ [z43] = ys by rw [← hxs, ← hys, List.replicate_succ'])
    have HYS := Aside0.mk hys
    rw [hxs] at hc1 HLL R_f B_g
    clear hxs hys
    go_wp2_with (first
      | ((with_reducible refine gate_builtin (b := .append) (xs := #[.tmp 18, .tmp 20]) rfl ?_); at_builtin
         refine row_append k43 (S := New w None0) rfl (.tmp 18) (.tmp 20) 31 43 (.agg #[.bool false, .string ByteArray.empty]) 24 rfl Try.underlying31 infoAns rfl (by decide) (by omega) (.slice A1 xs.length c1) xs z43 [.bool false, .string ByteArray.empty] rfl rfl ?aP ?aO ?aL ys HXS.out ?_
         (case aP => exact k43_mkM _ _ _ _); (case aO => exact R_f.out); (case aL => exact HLL.out)
         intro v_a wa ho hu
         obtain ⟨A2, c2, rfl⟩ := Kd.R_slice ho
         have R_2 := Aside0.mk (row_mono ho (fun k hk => hk.elim id (fun h => (.inr (Nat.le_trans ((by exact ul HU) : Upd None0 w _).size h) : New w None0 k))))
         replace B_g := Aside0.mk (hu.blk (by exact bl B_g) (Kd.R_ne R_f.out B_g.out (by decide)))
         replace HU := Aside0.mk (((by exact ul HU) : Upd None0 w _).trans hu (fun k hk => .inr ((row_at R_f.out hk).elim (fun h => h.elim) id)))
         clear ho hu R_f hc1)
      | ((with_reducible refine gate_store (t := 31) (p := 23) (v := .tmp 21) rfl ?_)
         refine cellput rfl 31 (.tmp 23) (.tmp 21) rfl rfl g 1 (.slice A2 ys.length c2) rfl rfl 39 #[.slice A n c, .slice A1 xs.length c1, .string ByteArray.empty, .bool false] #[.slice A n c, .slice A2 ys.length c2, .string ByteArray.empty, .bool false] (by exact bl B_g) (by kernel_rfl) (by simp) rfl rfl ?_
         intro w3 hbox hu
         replace R_2 := Aside0.mk (row_updT (by exact rl R_2) (by exact bl B_g) (by decide) hu)
         replace HU := Aside0.mk (((by exact ul HU) : Upd None0 w _).trans hu (fun k hk => .inr (by rw [hk]; exact GE.out)))
         clear B_g; have B_g := Aside0.mk hbox
         clear hu hbox))
    go_roundg (gk - 1)
    case measure => have := HI.out; omega
    case rel => exact ⟨i + 1, _, by simp, ⟨by omega, by have := HI.out; omega⟩, B_g, ⟨by rw [HYS.out]; exact R_2.out⟩, HU⟩

theorem row_next {α : Type} {d : Kd α} {e : Nat} {w wr wq wa : World} {T : Nat → Prop} {v : Value} {ys : List α} (ho : d.R e wa 0 (New wq T) v ys) (hT : ∀ k, T k → w.heap.size ≤ k ∧ k < wr.heap.size) (hw : w.heap.size ≤ wq.heap.size) : ∃ T2, d.R e wa 0 T2 v ys ∧ ∀ k, T2 k → w.heap.size ≤ k ∧ k < wa.heap.size :=
  ⟨_, row_old ho, fun k h => ⟨h.1.elim (fun h => (hT k h).1) (fun h => Nat.le_trans hw h), h.2⟩⟩
theorem str_cell {W : World} {ad : Addr} {l : List ByteArray} {i : Nat} {s : ByteArray} (h : Kd.C Kd.string W (some ad) l.length l) (hs : l[i]? = some s) : W.cell? (ad.add i) = some (.string s) := by
  obtain ⟨hi, he⟩ := List.getElem?_eq_some_iff.1 hs
  obtain ⟨ad2, e, hx⟩ := Kd.at_string h (i : Int) (by omega) (by omega)
  cases e
  have e2 : rdOf ByteArray.empty l (i : Int) = s := by simp [rdOf, hi, he]
  rw [e2] at hx
  simpa using hx

set_option maxHeartbeats 16000000 in
set_option maxRecDepth 100000 in
theorem ref_date (A : Option Addr) (c : Nat) (l : List ByteArray) (g : Nat) (found : List S43) (came date : ByteArray) (begun : Bool) (S : Nat → Prop) (w : World) (hR : Rq w S g A l.length c found came begun) (hC : Kd.C Kd.string w A l.length l) (hlen : l.length = found.length) (hl : l.length ≤ 1000) :
    Calls Try.prog 18 #[.pointer (some ⟨g, 0, none⟩), .string date] w fun e w' => e = .returned (.tuple #[]) ∧ Rq w' (New w S) g A l.length c (dateR begun came date l found) came begun ∧ Upd S w w' := by
  obtain ⟨hg, vf, hb, hr⟩ := hR
  obtain ⟨Af, cf, rfl⟩ := Kd.R_slice hr
  have HU := Aside0.mk (Upd.refl None0 w)
  have B_0 := Aside0.mk hb
  have R_0 := Aside0.mk hr
  have HG := Aside0.mk hg
  have HC := Aside0.mk hC
  have HLEN := Aside0.mk hlen
  have HL := Aside0.mk hl
  have hu2_ := Try.underlying43
  obtain ⟨res, hres⟩ : ∃ q, dateR begun came date l found = q := ⟨_, rfl⟩
  have HRES := Aside0.mk hres
  rw [hres]
  have HRL := Aside0.mk (show res.length = l.length by rw [← hres]; exact dateR_len _ _ _ _ _ hlen)
  clear hb hr hg hC hlen hl hres
  go_enter Try.func18, Try.ntmps18
  go_wp2_with (first
    | ((with_reducible refine gate_dst (N := 7) rfl ?_)
       refine row_lit k43 43 rfl (N := 7) rfl (xs := []) (inner := []) ?hr (Reps.none _ _) (by decide) ?_; (case hr => first | (go_simp; done) | (go_simp; rfl))
       intro v_o w1 hr hu
       have R_o := Aside0.mk (row_old hr)
       have HTO := Aside0.mk (show ∀ k, (New w None0 k ∧ k < w1.heap.size) → w.heap.size ≤ k ∧ k < w1.heap.size from fun k h => ⟨h.1.elim (fun h => h.elim) id, h.2⟩)
       replace HU := Aside0.mk (HU.out.trans hu (fun _ h => h.elim))
       clear hr hu))
  go_loopg [4, 5] l.length (fun gk v4 v5 wr => ∃ (i : Nat) (T : Nat → Prop), v5 = .int .i64 (i : Int) ∧ Aside0 (i ≤ l.length ∧ l.length - i ≤ gk) ∧ Aside0 (k43.R 43 wr 0 T v4 (res.take i)) ∧ Aside0 (∀ k, T k → w.heap.size ≤ k ∧ k < wr.heap.size) ∧ Aside0 (Upd None0 w wr))
  case atStart => exact ⟨0, _, rfl, ⟨Nat.zero_le _, by omega⟩, R_o, HTO, HU⟩
  case round =>
    clear R_o HTO HU
    obtain ⟨i, T, rfl, HI, R_o, HT, HU⟩ := hrel
    obtain ⟨Ao, co_, rfl⟩ := Kd.R_slice R_o.out
    have hi0 : (0 : Int) ≤ (i : Int) := by omega
    have him : (i : Int) ≤ 1000 := by have := HI.out.1; have := HL.out; omega
    have B_g := Aside0.mk (HU.out.blk B_0.out (fun h => h))
    have hc0 := co B_g 0 (.slice A l.length c) rfl
    have hc1 := co B_g 1 (.slice Af found.length cf) rfl
    have hc2 := co B_g 2 (.string came) rfl
    have hc3 := co B_g 3 (.bool begun) rfl
    by_cases hlt : i < l.length
    case neg =>
      have hltd : decide ((i : Int) < (l.length : Int)) = false := decide_eq_false (by omega)
      have htk : res.take i = res := List.take_of_length_le (by rw [HRL.out]; omega)
      rw [htk] at R_o
      obtain ⟨xs, hxs⟩ : ∃ q, (res.take i).length = q := ⟨_, rfl⟩
      rw [htk] at hxs
      go_wp2_with (first
        | ((with_reducible refine gate_store (t := 31) (p := 56) (v := .tmp 54) rfl ?_)
           refine cellput rfl 31 (.tmp 56) (.tmp 54) rfl rfl g 1 (.slice Ao (res.take i).length co_) rfl rfl 39 #[.slice A l.length c, .slice Af found.length cf, .string came, .bool begun] #[.slice A l.length c, .slice Ao (res.take i).length co_, .string came, .bool begun] (by exact bl B_g) (by kernel_rfl) (by simp) rfl rfl ?_
           intro w3 hbox hu
           have R_1 := Aside0.mk (row_updT R_o.out B_g.out (by decide) hu)
           have U1 := Aside0.mk ((HU.out.mono (S' := S) (fun _ h => h.elim)).trans hu (fun k hk => .inl (by rw [hk]; exact HG.out)))
           have B_1 := Aside0.mk hbox
           clear hu hbox))
      go_end0
      have h1 := B_1.out
      rw [htk] at h1
      exact ⟨rfl, ⟨.inl HG.out, _, h1, row_mono R_1.out (fun k hk => .inr (HT.out k hk).1)⟩, U1.out⟩
    have hltd : decide ((i : Int) < (l.length : Int)) = true := decide_eq_true (by omega)
    have hlti : (i : Int) < (l.length : Int) := by omega
    have hlf : i < found.length := by have := HLEN.out; omega
    have hlfi : (i : Int) < (found.length : Int) := by omega
    have htn := dateR_take begun came date l found HLEN.out i hlt hlf
    rw [HRES.out] at htn
    obtain ⟨ad, e1, hx⟩ := Kd.at_string (cw HC HU.out) (i : Int) hi0 hlti
    subst e1
    obtain ⟨s, hs⟩ : ∃ s, l[i] = s := ⟨_, rfl⟩
    have hxl : wr.cell? (ad.add i) = some (.string s) := by
      rw [← hs]
      have : rdOf ByteArray.empty l (i : Int) = l[i] := by simp [rdOf, hlt]
      rw [← this]; simpa using hx
    obtain ⟨adf, e2, hf0, hf1⟩ := at_T43 (rc (row_upd R_0.out HU.out (fun k _ h => h))) (i : Int) hi0 hlfi
    subst e2
    have hrd : rd_T43 found (i : Int) = found[i] := by simp [rd_T43, hlf]
    rw [hrd, Int.toNat_natCast] at hf0 hf1
    rw [hs] at htn
    obtain ⟨a, ha⟩ : ∃ a, found[i] = a := ⟨_, rfl⟩
    rw [ha] at hf0 hf1 htn
    obtain ⟨ab, as_⟩ := a
    obtain ⟨nx, hnx⟩ : ∃ q, (if begun = true ∧ ab = false ∧ s = came then (⟨true, date⟩ : S43) else ⟨ab, as_⟩) = q := ⟨_, rfl⟩
    have HNX := Aside0.mk hnx
    have htn2 : res.take (i + 1) = res.take i ++ [nx] := by rw [← hnx]; exact htn
    obtain ⟨xs, hxs⟩ : ∃ q, res.take i = q := ⟨_, rfl⟩
    obtain ⟨ys, hys⟩ : ∃ q, res.take (i + 1) = q := ⟨_, rfl⟩
    rw [hxs, hys] at htn2
    have HY := Aside0.mk htn2.symm
    have HYS := Aside0.mk hys
    have HLL := Aside0.mk (show (xs.length + 1) * 24 ≤ 140737488355328 by rw [← hxs, List.length_take]; omega)
    rw [hxs] at R_o
    have HXE := Aside0.mk hxs
    have hsl : l[i]? = some s := by rw [List.getElem?_eq_getElem hlt, hs]
    clear hx hs hrd ha hnx htn htn2 hys
    rw [hxs]
    clear hxs
    have HSC := Aside0.mk (show ∀ W, Upd None0 w W → W.cell? (ad.add i) = some (.string s) from fun W hW => str_cell (cw HC hW) hsl)
    go_wp2_with (first
      | ((with_reducible refine gate_dst (N := 6) rfl ?_)
         refine boxnew ?hg (N := 6) ?hd (cs := #[.bool false, .string ByteArray.empty]) (t := 43) ?hr ?_; (case hd => rfl); (case hg => rfl); (case hr => first | (go_simp; done) | (go_simp; rfl))
         intro ga hge wA hbox hu
         have HGA := Aside0.mk (Nat.le_trans (lu : Upd None0 wr _).size hge)
         have HGW := Aside0.mk (Nat.le_trans HU.out.size (Nat.le_trans (lu : Upd None0 wr _).size hge))
         replace R_o := Aside0.mk (row_upd (by exact rl R_o) hu (fun k _ h => h))
         replace HU := Aside0.mk (((by exact ul HU) : Upd None0 w _).trans hu (fun _ h => h.elim))
         have B_a := Aside0.mk hbox
         clear hu hbox hge)
      | ((with_reducible refine gate_store (t := 43) (p := 6) (v := .tmp 23) rfl ?_)
         refine rowput rfl 43 (.tmp 6) (.tmp 23) rfl rfl ga #[.bool ab, .string as_] rfl rfl 43 #[.bool false, .string ByteArray.empty] (by exact bl B_a) (by kernel_rfl) rfl (by simp [Value.oneCell']) ?_
         intro wB hbox hu
         replace R_o := Aside0.mk (row_upd (by exact rl R_o) hu (fun k hk e => by have := (HT.out k hk).2; have := HGA.out; omega))
         replace HU := Aside0.mk (((by exact ul HU) : Upd None0 w _).trans hu (fun k hk => .inr (by rw [hk]; exact HGW.out)))
         clear B_a; have B_a := Aside0.mk hbox
         clear hu hbox
         (try clear hc0 hc1 hc2 hc3 hxl hf0 hf1)
         have B_g2 := Aside0.mk (HU.out.blk B_0.out (fun h => h))
         have hc0 := co B_g2 0 (.slice (some ad) l.length c) rfl
         have hc2 := co B_g2 2 (.string came) rfl
         have hc3 := co B_g2 3 (.bool begun) rfl
         have hd0 := co B_a 0 (.bool ab) rfl
         have hd1 := co B_a 1 (.string as_) rfl
         have hxl := HSC.out wB HU.out))
    (try simp only [Act.put, List.setIfInBounds_toArray, List.set_cons_zero, List.set_cons_succ])
    cases begun with
    | false =>
      obtain rfl : (⟨ab, as_⟩ : S43) = nx := by have := HNX.out; rwa [if_neg (by simp)] at this
      go_quiet (fail)
      go_wp2_with (first
        | ((with_reducible refine gate_builtin (b := .append) (xs := #[.tmp 49, .tmp 51]) rfl ?_); at_builtin
           refine row_append k43 (S := T) rfl (.tmp 49) (.tmp 51) 31 43 (.agg #[.bool false, .string ByteArray.empty]) 24 rfl Try.underlying31 infoAns rfl (by decide) (by omega) (.slice Ao xs.length co_) xs ⟨ab, as_⟩ [.bool ab, .string as_] rfl rfl ?aP ?aO ?aL ys HY.out ?_
           (case aP => exact k43_mkM _ _ _ _); (case aO => exact rl R_o); (case aL => exact HLL.out)
           intro v_a wa ho hu
           obtain ⟨T2, hr2, hT2⟩ := row_next (w := w) ho HT.out (by exact (ul HU : Upd None0 w _).size)
           have R_n := Aside0.mk hr2
           have HTN := Aside0.mk hT2
           clear hr2 hT2
           replace HU := Aside0.mk (((by exact ul HU) : Upd None0 w _).trans hu (fun k hk => .inr (HT.out k (row_at R_o.out hk)).1))
           clear ho hu))
      go_roundg (gk - 1)
      case measure => have := HI.out; omega
      case rel => exact ⟨i + 1, _, by simp, ⟨by omega, by have := HI.out; omega⟩, ⟨by rw [HYS.out]; exact R_n.out⟩, HTN, HU⟩
    | true =>
    cases ab with
    | true =>
      obtain rfl : (⟨true, as_⟩ : S43) = nx := by have := HNX.out; rwa [if_neg (by simp)] at this
      go_quiet (fail)
      go_wp2_with (first
        | ((with_reducible refine gate_builtin (b := .append) (xs := #[.tmp 49, .tmp 51]) rfl ?_); at_builtin
           refine row_append k43 (S := T) rfl (.tmp 49) (.tmp 51) 31 43 (.agg #[.bool false, .string ByteArray.empty]) 24 rfl Try.underlying31 infoAns rfl (by decide) (by omega) (.slice Ao xs.length co_) xs ⟨true, as_⟩ [.bool true, .string as_] rfl rfl ?aP ?aO ?aL ys HY.out ?_
           (case aP => exact k43_mkM _ _ _ _); (case aO => exact rl R_o); (case aL => exact HLL.out)
           intro v_a wa ho hu
           obtain ⟨T2, hr2, hT2⟩ := row_next (w := w) ho HT.out (by exact (ul HU : Upd None0 w _).size)
           have R_n := Aside0.mk hr2
           have HTN := Aside0.mk hT2
           clear hr2 hT2
           replace HU := Aside0.mk (((by exact ul HU) : Upd None0 w _).trans hu (fun k hk => .inr (HT.out k (row_at R_o.out hk)).1))
           clear ho hu))
      go_roundg (gk - 1)
      case measure => have := HI.out; omega
      case rel => exact ⟨i + 1, _, by simp, ⟨by omega, by have := HI.out; omega⟩, ⟨by rw [HYS.out]; exact R_n.out⟩, HTN, HU⟩
    | false =>
    by_cases hsk : s = came
    · obtain rfl : (⟨true, date⟩ : S43) = nx := by have := HNX.out; rwa [if_pos ⟨rfl, rfl, hsk⟩] at this
      subst hsk
      go_quiet (fail)
      go_wp2_with (first
        | ((with_reducible refine gate_store (t := 43) (p := 6) (v := .tmp 48) rfl ?_)
           refine rowput rfl 43 (.tmp 6) (.tmp 48) rfl rfl ga #[.bool true, .string date] rfl rfl 43 #[.bool false, .string as_] (by exact bl B_a) (by kernel_rfl) rfl (by simp [Value.oneCell']) ?_
           intro wC hbox hu
           replace R_o := Aside0.mk (row_upd (by exact rl R_o) hu (fun k hk e => by have := (HT.out k hk).2; have := HGA.out; omega))
           replace HU := Aside0.mk (((by exact ul HU) : Upd None0 w _).trans hu (fun k hk => .inr (by rw [hk]; exact HGW.out)))
           clear B_a; have B_a := Aside0.mk hbox
           clear hu hbox hd0 hd1
           have hd0 := co B_a 0 (.bool true) rfl
           have hd1 := co B_a 1 (.string date) rfl)
        | ((with_reducible refine gate_builtin (b := .append) (xs := #[.tmp 49, .tmp 51]) rfl ?_); at_builtin
           refine row_append k43 (S := T) rfl (.tmp 49) (.tmp 51) 31 43 (.agg #[.bool false, .string ByteArray.empty]) 24 rfl Try.underlying31 infoAns rfl (by decide) (by omega) (.slice Ao xs.length co_) xs ⟨true, date⟩ [.bool true, .string date] rfl rfl ?aP ?aO ?aL ys HY.out ?_
           (case aP => exact k43_mkM _ _ _ _); (case aO => exact rl R_o); (case aL => exact HLL.out)
           intro v_a wa ho hu
           obtain ⟨T2, hr2, hT2⟩ := row_next (w := w) ho HT.out (by exact (ul HU : Upd None0 w _).size)
           have R_n := Aside0.mk hr2
           have HTN := Aside0.mk hT2
           clear hr2 hT2
           replace HU := Aside0.mk (((by exact ul HU) : Upd None0 w _).trans hu (fun k hk => .inr (HT.out k (row_at R_o.out hk)).1))
           clear ho hu))
      go_roundg (gk - 1)
      case measure => have := HI.out; omega
      case rel => exact ⟨i + 1, _, by simp, ⟨by omega, by have := HI.out; omega⟩, ⟨by rw [HYS.out]; exact R_n.out⟩, HTN, HU⟩
    · obtain rfl : (⟨false, as_⟩ : S43) = nx := by have := HNX.out; rwa [if_neg (fun h => hsk h.2.2)] at this
      have hse1 : (s.toList == came.toList) = false := beq_eq_false_iff_ne.2 (fun h => hsk (ByteArray.ext (Array.ext' (by rw [← Lib.toList_data s, ← Lib.toList_data came, h]))))
      clear hsk
      go_quiet (fail)
      go_wp2_with (first
        | ((with_reducible refine gate_builtin (b := .append) (xs := #[.tmp 49, .tmp 51]) rfl ?_); at_builtin
           refine row_append k43 (S := T) rfl (.tmp 49) (.tmp 51) 31 43 (.agg #[.bool false, .string ByteArray.empty]) 24 rfl Try.underlying31 infoAns rfl (by decide) (by omega) (.slice Ao xs.length co_) xs ⟨false, as_⟩ [.bool false, .string as_] rfl rfl ?aP ?aO ?aL ys HY.out ?_
           (case aP => exact k43_mkM _ _ _ _); (case aO => exact rl R_o); (case aL => exact HLL.out)
           intro v_a wa ho hu
           obtain ⟨T2, hr2, hT2⟩ := row_next (w := w) ho HT.out (by exact (ul HU : Upd None0 w _).size)
           have R_n := Aside0.mk hr2
           have HTN := Aside0.mk hT2
           clear hr2 hT2
           replace HU := Aside0.mk (((by exact ul HU) : Upd None0 w _).trans hu (fun k hk => .inr (HT.out k (row_at R_o.out hk)).1))
           clear ho hu))
      go_roundg (gk - 1)
      case measure => have := HI.out; omega
      case rel => exact ⟨i + 1, _, by simp, ⟨by omega, by have := HI.out; omega⟩, ⟨by rw [HYS.out]; exact R_n.out⟩, HTN, HU⟩

end Go.Proofs.Ytidcmkmlcmjekaa.PA
