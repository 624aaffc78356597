/- What the row of EncodeSorts stands on, made small by a program of this session (pack.py). -/
import Derived.Test.YtgddaddoabjgiaaCEncodeSorts2
import Derived.Test.YtgddaddoabjgiaaCEncodeSorts12
import Derived.Test.YtgddaddoabjgiaaCEncodeSorts13
namespace Go.Proofs.Ytgddaddoabjgiaa.At
open RowKit YtgddaddoabjgiaaW.PrintWords YtgddaddoabjgiaaW.PrintLast YtgddaddoabjgiaaW.PrintMore Own Sl Bs El Wr Oid Oidm Kn Cn Srt
set_option linter.unusedVariables false
set_option linter.unusedSimpArgs false
theorem cat_takes {α : Type} (f g : α → ByteArray) (l : List α) (i : Nat) (x : α) (h : l[i]? = some x) (hx : f x = g x) : cat ((l.take i).map f) ++ g x = cat ((l.take (i + 1)).map f) := by
 rw [← take_map_snoc f l i x h, cat_snoc, hx]
theorem cat_les {α : Type} (f : α → ByteArray) (M K : Nat) (l : List α) (h : ∀ x, x ∈ l → (f x).size ≤ M) (i : Nat) (hi : i ≤ K) : (cat ((l.take i).map f)).size ≤ M * K :=
 Nat.le_trans (cat_alls f M (l.take i) (fun x hx => h x (List.mem_of_mem_take hx))) (Nat.mul_le_mul_left _ (Nat.le_trans (List.length_take_le i l) hi))
theorem tag_cases (t : Int) : t = 12 ∨ t = 19 ∨ t = 22 ∨ (¬ t = 12 ∧ ¬ t = 19 ∧ ¬ t = 22) := by omega
theorem size_le_cat (l : List ByteArray) (s : ByteArray) (h : s ∈ l) : s.size ≤ (cat l).size := by
 rw [cat_count]
 induction l with
 | nil => cases h
 | cons x l ih =>
   rw [List.map_cons, List.sum_cons]
   rcases List.mem_cons.1 h with rfl | h
   ·
    omega
   ·
    have := ih h; omega
theorem cat_take_le (l : List ByteArray) (k : Nat) : (cat (l.take k)).size ≤ (cat l).size := by
 have h : cat l = cat (l.take k) ++ cat (l.drop k) := by rw [← cat_append, List.take_append_drop]
 rw [h, ByteArray.size_append]; omega
set_option maxHeartbeats 8000000 in
set_option maxRecDepth 100000 in
theorem rname_any (A : Option Addr) (c : Nat) (l : List (List S47)) (w : World) (hC : (Kd.slice 47 k47).C w A l.length l) (hcap : l.length ≤ c) (hA : ∀ x, x ∈ l → SetP x) (hn : l.length ≤ 20) :
 Calls Try.prog 15 #[.slice A l.length c] w fun e w' => e = .returned (.tuple #[.string (if nameOk l then nameb l else ByteArray.empty), .bool (nameOk l)]) ∧ Upd None0 w w' := by
 have hu := Try.underlying47
 have hu3 := Try.underlying39
 have HC0 := Aside0.mk hC
 have HPX := Aside0.mk hA
 obtain ⟨n, hln⟩ : ∃ n, l.length = n := ⟨_, rfl⟩
 have HLN := Aside0.mk hln
 obtain ⟨Y, hY⟩ : ∃ y, (if nameOk l then nameb l else ByteArray.empty) = y := ⟨_, rfl⟩
 obtain ⟨OK, hOK⟩ : ∃ y, nameOk l = y := ⟨_, rfl⟩
 rw [hY, hOK]
 have HY := Aside0.mk hY
 have HOK := Aside0.mk hOK
 rw [hln] at hn HC0 ⊢
 have HN := Aside0.mk hn
 have HNO := Aside0.mk (show nameOk l = false → Y = ByteArray.empty ∧ OK = false from fun h => by rw [← hY, ← hOK, h]; exact ⟨rfl, rfl⟩)
 clear hC hcap hA hY hOK hn hln
 go_enter Try.func15, Try.ntmps15
 go_wp2
 go_loopg [4, 5] n (fun gk v4 v5 wr => ∃ (i : Nat), v4 = .string (cat ((l.take i).map setx)) ∧ v5 = .int .i64 (i : Int) ∧ Aside0 (i ≤ n ∧ n - i ≤ gk) ∧ Aside0 ((l.take i).all setOk = true) ∧ Aside0 (Sp w None0 [] wr))
 case atStart => exact ⟨0, rfl, rfl, ⟨Nat.zero_le _, zz7⟩, ⟨rfl⟩, ⟨(Sp.nil (w := w) (S := None0)).lt⟩⟩
 case round =>
  obtain ⟨i, rfl, rfl, HI, HA, HS⟩ := hrel
  have hS := HS.out
  clear HS
  have hz0 : (cat ((l.take i).map setx)).size ≤ 500100 * 20 := cat_les setx 500100 20 l (fun x hx => setx_size x (HPX.out x hx)) i (by have := HI.out.1; have := HN.out; omega)
  have hi00 : (0 : Int) ≤ (i : Int) := by omega
  by_cases hlt : i < n
  case neg =>
   have hd : decide (i < n) = false := decide_eq_false hlt
   have hil : l.take i = l := List.take_of_length_le zz80
   have hyes : nameOk l = true := by have h1 := HA.out; rw [hil] at h1; exact h1
   have e1 := HOK.out
   have e2 := HY.out
   rw [hyes] at e1 e2
   subst e1
   have hxb : nameb l = elb 0 16 true (cat (l.map setx)) := rfl
   rw [if_pos rfl, hxb] at e2
   rw [hil] at hz0 ⊢
   have HSQ := Aside0.mk (fun W => rseq_ok (cat (l.map setx)) W zz7)
   rw [e2] at HSQ
   obtain ⟨C, hCC⟩ : ∃ y, cat (l.map setx) = y := ⟨_, rfl⟩
   rw [hCC] at HSQ ⊢
   clear hil hyes e2 hxb hCC hz0 hlt
   go_wp2_with (first
    | (go_at_call 27
       (with_reducible refine (HSQ.out _).mono ?_)
       rintro e w9 ⟨rfl, hun⟩
       replace hS := hS.toN hun))
   go_ret2
   exact ⟨rfl, hS.lt.u⟩
  have hd : decide (i < n) = true := decide_eq_true hlt
  have hil : i < l.length := by rw [HLN.out]; exact hlt
  have hxi := rd_some l i ([] : List S47) hil
  obtain ⟨ad, A0, c0, rfl, h0, hl0, hi0⟩ := at_L7 HC0.out (i : Int) zz7 zz7
  rw [Int.toNat_natCast] at h0
  obtain ⟨x, hx⟩ : ∃ x, rd_L7 l (i : Int) = x := ⟨_, rfl⟩
  have hxx : l[i]? = some x := hx ▸ hxi
  rw [hx] at h0 hl0 hi0
  have hxP := HPX.out x (List.mem_of_getElem? hxx)
  have hw1 : IntKind.i64.wrap ((i : Int) + 1) = ((i + 1 : Nat) : Int) := by have := HN.out; rw [IntKind.wrap_i64]; omega
  have hlti : (i : Int) < (n : Int) := by omega
  obtain ⟨m, hm⟩ : ∃ m, x.length = m := ⟨_, rfl⟩
  rw [hm] at h0 hi0 hl0
  have hmm : m ≤ 15 := by rw [← hm]; exact hxP.1
  have hset : setOk x = (x.all attrOk && decide (0 < m)) := by unfold setOk; rw [hm]
  have HNX := Aside0.mk (show setOk x = false → nameOk l = false from fun h => by
   unfold nameOk
   rw [← Bool.not_eq_true, List.all_eq_true]
   intro hall
   have := hall x (List.mem_of_getElem? hxx)
   rw [h] at this
   cases this)
  have HXX := Aside0.mk hxx
  have HXC := Aside0.mk hi0
  have HXP := Aside0.mk hxP
  have HM := Aside0.mk hm
  have HK0 := Aside0.mk h0
  have HSET := Aside0.mk hset
  clear hil hxi hx hxx hxP hi0 hl0 hm hset
  by_cases hm0 : m = 0
  case pos =>
   subst hm0
   have k0 := up_cell hS.u h0
   have hno := HNO.out (HNX.out (by rw [HSET.out]; simp))
   obtain ⟨rfl, rfl⟩ := hno
   clear h0
   go_wp2
   go_ret2
   exact ⟨rfl, hS.lt.u⟩
  have hb1 : ((m : Int) == 0) = false := by cases m with
   | zero => exact absurd rfl hm0
   | succ m => rfl
  have hb2 : decide ((m : Int) = 0) = false := decide_eq_false zz7
  have hmz : 0 < m := Nat.pos_of_ne_zero hm0
  have k0 := up_cell hS.u h0
  obtain ⟨C, hCC⟩ : ∃ y, cat ((l.take i).map setx) = y := ⟨_, rfl⟩
  have HCC := Aside0.mk hCC
  rw [hCC] at hz0 ⊢
  have HZ0 := Aside0.mk hz0
  obtain ⟨go, hgo⟩ : ∃ g, g = gk := ⟨_, rfl⟩
  have HGO := Aside0.mk hgo
  have HLT := Aside0.mk hlt
  clear hgo hCC hlt hz0 h0 hm0
  go_wp2_with (first
   | ((with_reducible refine gate_dst (N := 25) rfl ?_)
      refine sp_lit Kd.string hS 9 rfl (N := 25) rfl ([] : List ByteArray) [] zz20 ⟨rfl, fun j p hj => by simp at hj⟩ zz13 ?_
      intro A2 c2 w1 hS
      clear k0))
  go_loopg [6, 7] m (fun gk v6 v7 wr => ∃ (j : Nat) (A2 : Option Addr) (c2 : Nat) (PS : List ByteArray), v6 = .slice A2 j c2 ∧ v7 = .int .i64 (j : Int) ∧ Aside0 (j ≤ m ∧ m - j ≤ gk) ∧ Aside0 ((x.take j).map attrx = PS ∧ PS.length = j ∧ (x.take j).all attrOk = true) ∧ Aside0 (Sp w None0 [row Kd.string 9 (.slice A2 j c2) PS] wr))
  case atStart => exact ⟨0, A2, c2, [], rfl, rfl, ⟨Nat.zero_le _, zz7⟩, ⟨rfl, rfl, rfl⟩, ⟨by exact hS⟩⟩
  case round =>
   clear hS hb1 hb2 hd
   obtain ⟨j, A2, c2, PS, rfl, rfl, HJ, HPS, HS⟩ := hrel
   have hS := HS.out
   clear HS
   have k0 := up_cell hS.u HK0.out
   have hj00 : (0 : Int) ≤ (j : Int) := by omega
   by_cases hlj : j < m
   ·
    have hd : decide ((j : Int) < (m : Int)) = true := decide_eq_true zz7
    have hjl : j < x.length := by rw [HM.out]; exact hlj
    have hyj := rd_some x j z47 hjl
    obtain ⟨ae, A1, c1, rfl, h0, h1, h2, hl1, hi1⟩ := at_T47 HXC.out (j : Int) zz7 zz7
    replace h0 := up_cell hS.u h0
    replace h1 := up_cell hS.u h1
    replace h2 := up_cell hS.u h2
    rw [Int.toNat_natCast] at h0 h1 h2
    obtain ⟨y, hy⟩ : ∃ y, rd_T47 x (j : Int) = y := ⟨_, rfl⟩
    have hyy : x[j]? = some y := hy ▸ hyj
    rw [hy] at h0 h1 h2 hl1 hi1
    have hyP := HXP.out.2 y (List.mem_of_getElem? hyy)
    have HID := Aside0.mk (fun (W : World) (h : Upd None0 w W) => rid_any A1 c1 y.f0 W (Kd.C_below hi1 h.below0) hl1 hyP.1)
    have HCK := Aside0.mk (fun (W : World) => rcheck_any y.f1 y.f2 W (by have := hyP.2; omega))
    have z1 := idb_size y.f0 hyP.1
    have z2 := leafb_size y.f1 y.f2 (by have := hyP.2; omega)
    have z3 := hyP.2
    have HLF := Aside0.mk (show ∀ (W : World), (0 ≤ y.f1 ∧ y.f1 ≤ 268435455) → Calls Try.prog 28 #[.int .i64 y.f1, .string y.f2] W fun e w' => e = .returned (.string (leafb y.f1 y.f2)) ∧ Upd None0 W w' from fun W ht => by
     have := rleaf_ok (t := y.f1) y.f2 W ht zz7
     rw [← leafb_ok _ ht] at this
     exact this)
    have HSQ := Aside0.mk (fun (W : World) => rseq_ok (idb y.f0 ++ leafb y.f1 y.f2) W (by rw [ByteArray.size_append]; omega))
    have hat : elb 0 16 true (idb y.f0 ++ leafb y.f1 y.f2) = attrb y := rfl
    rw [hat] at HSQ
    have hw2 : IntKind.i64.wrap ((j : Int) + 1) = ((j + 1 : Nat) : Int) := by rw [IntKind.wrap_i64]; omega
    have hltj : (j : Int) < (m : Int) := by omega
    have HAX := Aside0.mk (show attrOk y = false → nameOk l = false from fun h => HNX.out (by
     rw [HSET.out]
     have : x.all attrOk = false := by
      rw [← Bool.not_eq_true, List.all_eq_true]
      intro hall
      have := hall y (List.mem_of_getElem? hyy)
      rw [h] at this
      cases this
     rw [this]; rfl))
    have HU1 := Aside0.mk (take_map_snoc attrx x j y hyy)
    have HALL := Aside0.mk (show attrOk y = true → (x.take (j + 1)).all attrOk = true from fun h => by rw [List.take_add_one, hyy, Option.toList_some, List.all_append, HPS.out.2.2]; simp [h])
    have hb : ∀ t k : Int, (t == k) = decide (t = k) := fun t k => by by_cases h : t = k <;> simp [h]
    have HAO := Aside0.mk (show attrOk y = (oidOk y.f0 && (((y.f1 == 12) || (y.f1 == 19) || (y.f1 == 22)) && Tx.check y.f1 (bytesOf y.f2))) by rw [hb, hb, hb]; rfl)
    obtain ⟨q, hq⟩ : ∃ q, y.f0.length = q := ⟨_, rfl⟩
    rw [hq] at h0 HID
    obtain ⟨aok, haok⟩ : ∃ b, attrOk y = b := ⟨_, rfl⟩
    have HAOK := Aside0.mk haok
    rw [haok] at HAO HAX HALL
    have HAB := Aside0.mk (show aok = true → attrx y = attrb y from fun h => by unfold attrx; rw [haok, h]; rfl)
    obtain ⟨yo, yt, ys⟩ := y
    dsimp only at h0 h1 h2 HID HCK HLF HSQ HAO z1 z2 z3
    obtain ⟨ok, hok⟩ : ∃ b, oidOk yo = b := ⟨_, rfl⟩
    obtain ⟨ck, hck⟩ : ∃ b, Tx.check yt (bytesOf ys) = b := ⟨_, rfl⟩
    obtain ⟨x1, hx1⟩ : ∃ b, idb yo = b := ⟨_, rfl⟩
    obtain ⟨x3, hx3⟩ : ∃ b, attrb (S47.mk yo yt ys) = b := ⟨_, rfl⟩
    obtain ⟨x4, hx4⟩ : ∃ b, attrx (S47.mk yo yt ys) = b := ⟨_, rfl⟩
    rw [hok, hx1] at HID
    rw [hok, hck] at HAO
    rw [hck] at HCK
    rw [hx1] at HSQ z1
    obtain ⟨x5, hx5⟩ : ∃ b, leafb yt ys = b := ⟨_, rfl⟩
    rw [hx5] at HSQ HLF z2
    rw [hx3] at HSQ HAB
    rw [hx4] at HAB HU1
    have ht3 := tag_cases yt
    have HHB := Aside0.mk hb
    have s1 : ¬ 9223372036854775807 < x1.size + x5.size := by omega
    have s2 : x1.size + x5.size ≤ 9223372036854775807 := by omega
    clear hjl hyj hy hyy hyP hi1 hl1 hq hat hb haok hok hck hx1 hx3 hx4 hx5 z1 z2 z3
    have NO : aok = false → ∃ (_ : Y = ByteArray.empty), OK = false := fun h => ⟨(HNO.out (HAX.out h)).1, (HNO.out (HAX.out h)).2⟩
    cases ok
    case false =>
     obtain ⟨rfl, rfl⟩ := NO (by rw [HAO.out]; rfl)
     clear NO ht3
     go_wp2_with (first
      | ((with_reducible refine gate_dst (N := 8) rfl ?_)
         refine sp_box hS rfl (N := 8) rfl #[.slice none 0 0, .int .i64 0, .string ⟨#[]⟩] 47 zz20 ?_
         intro gx w3 hg3 hS)
      | ((with_reducible refine gate_store (t := 47) (p := 8) (v := .tmp 41) rfl ?_)
         refine sp_row hS 0 rfl 47 (.tmp 8) (.tmp 41) rfl rfl gx #[.slice A1 q c1, .int .i64 _, .string ys] rfl rfl 47 _ rfl zz4 rfl zz82 rfl ?_
         intro w4 hS
         clear h0 h1 h2 k0
         obtain ⟨k0, k1, k2⟩ := hS.cells3 0)
      | (go_at_call 26
         (with_reducible refine (HID.out _ hS.lt.u).mono ?_)
         rintro e w6 ⟨rfl, hun⟩
         replace hS := hS.toN hun
         clear k0 k1 k2 hun
         obtain ⟨k0, k1, k2⟩ := hS.cells3 0)
      | (go_at_call 40
         (with_reducible refine (HCK.out _).mono ?_)
         rintro e w6 ⟨rfl, hun⟩
         replace hS := hS.toN hun
         clear k0 k1 k2 hun
         obtain ⟨k0, k1, k2⟩ := hS.cells3 0))
     go_ret2
     exact ⟨rfl, hS.lt.u⟩
    rcases ht3 with rfl | rfl | rfl | ⟨y1, y2, y3⟩
    rotate_left 3
    ·
     obtain ⟨rfl, rfl⟩ := NO (by rw [HAO.out, HHB.out, HHB.out, HHB.out, decide_eq_false y1, decide_eq_false y2, decide_eq_false y3]; rfl)
     clear NO
     go_wp2_with (first
      | ((with_reducible refine gate_dst (N := 8) rfl ?_)
         refine sp_box hS rfl (N := 8) rfl #[.slice none 0 0, .int .i64 0, .string ⟨#[]⟩] 47 zz20 ?_
         intro gx w3 hg3 hS)
      | ((with_reducible refine gate_store (t := 47) (p := 8) (v := .tmp 41) rfl ?_)
         refine sp_row hS 0 rfl 47 (.tmp 8) (.tmp 41) rfl rfl gx #[.slice A1 q c1, .int .i64 _, .string ys] rfl rfl 47 _ rfl zz4 rfl zz82 rfl ?_
         intro w4 hS
         clear h0 h1 h2 k0
         obtain ⟨k0, k1, k2⟩ := hS.cells3 0)
      | (go_at_call 26
         (with_reducible refine (HID.out _ hS.lt.u).mono ?_)
         rintro e w6 ⟨rfl, hun⟩
         replace hS := hS.toN hun
         clear k0 k1 k2 hun
         obtain ⟨k0, k1, k2⟩ := hS.cells3 0)
      | (go_at_call 40
         (with_reducible refine (HCK.out _).mono ?_)
         rintro e w6 ⟨rfl, hun⟩
         replace hS := hS.toN hun
         clear k0 k1 k2 hun
         obtain ⟨k0, k1, k2⟩ := hS.cells3 0))
     go_ret2
     exact ⟨rfl, hS.lt.u⟩
    all_goals
     cases ck
     ·
      obtain ⟨rfl, rfl⟩ := NO (by rw [HAO.out]; simp)
      clear NO
      go_wp2_with (first
       | ((with_reducible refine gate_dst (N := 8) rfl ?_)
          refine sp_box hS rfl (N := 8) rfl #[.slice none 0 0, .int .i64 0, .string ⟨#[]⟩] 47 zz20 ?_
          intro gx w3 hg3 hS)
       | ((with_reducible refine gate_store (t := 47) (p := 8) (v := .tmp 41) rfl ?_)
          refine sp_row hS 0 rfl 47 (.tmp 8) (.tmp 41) rfl rfl gx #[.slice A1 q c1, .int .i64 _, .string ys] rfl rfl 47 _ rfl zz4 rfl zz82 rfl ?_
          intro w4 hS
          clear h0 h1 h2 k0
          obtain ⟨k0, k1, k2⟩ := hS.cells3 0)
       | (go_at_call 26
          (with_reducible refine (HID.out _ hS.lt.u).mono ?_)
          rintro e w6 ⟨rfl, hun⟩
          replace hS := hS.toN hun
          clear k0 k1 k2 hun
          obtain ⟨k0, k1, k2⟩ := hS.cells3 0)
       | (go_at_call 40
          (with_reducible refine (HCK.out _).mono ?_)
          rintro e w6 ⟨rfl, hun⟩
          replace hS := hS.toN hun
          clear k0 k1 k2 hun
          obtain ⟨k0, k1, k2⟩ := hS.cells3 0))
      go_ret2
      exact ⟨rfl, hS.lt.u⟩
     ·
      have ha : aok = true := by rw [HAO.out]; simp
      have hx34 := HAB.out ha
      obtain ⟨PS2, hPS2⟩ : ∃ z, PS ++ [x3] = z := ⟨_, rfl⟩
      have HP2 := Aside0.mk hPS2
      have HP3 := Aside0.mk (show (x.take (j + 1)).map attrx = PS2 ∧ PS2.length = j + 1 ∧ (x.take (j + 1)).all attrOk = true from ⟨by rw [← HU1.out, HPS.out.1, hx34]; exact hPS2, by rw [← hPS2, List.length_append, HPS.out.2.1]; rfl, HALL.out ha⟩)
      clear NO ha hx34 hPS2
      go_wp2_with (first
       | ((with_reducible refine gate_dst (N := 8) rfl ?_)
          refine sp_box hS rfl (N := 8) rfl #[.slice none 0 0, .int .i64 0, .string ⟨#[]⟩] 47 zz20 ?_
          intro gx w3 hg3 hS)
       | ((with_reducible refine gate_store (t := 47) (p := 8) (v := .tmp 41) rfl ?_)
          refine sp_row hS 0 rfl 47 (.tmp 8) (.tmp 41) rfl rfl gx #[.slice A1 q c1, .int .i64 _, .string ys] rfl rfl 47 _ rfl zz4 rfl zz82 rfl ?_
          intro w4 hS
          clear h0 h1 h2 k0
          obtain ⟨k0, k1, k2⟩ := hS.cells3 0)
       | (go_at_call 26
          (with_reducible refine (HID.out _ hS.lt.u).mono ?_)
          rintro e w6 ⟨rfl, hun⟩
          replace hS := hS.toN hun
          clear k0 k1 k2 hun
          obtain ⟨k0, k1, k2⟩ := hS.cells3 0)
       | (go_at_call 40
          (with_reducible refine (HCK.out _).mono ?_)
          rintro e w6 ⟨rfl, hun⟩
          replace hS := hS.toN hun
          clear k0 k1 k2 hun
          obtain ⟨k0, k1, k2⟩ := hS.cells3 0)
       | (go_at_call 28
          (with_reducible refine (HLF.out _ zz13).mono ?_)
          rintro e w6 ⟨rfl, hun⟩
          replace hS := hS.toN hun
          clear k0 k1 k2 hun)
       | (go_at_call 27
          (with_reducible refine (HSQ.out _).mono ?_)
          rintro e w6 ⟨rfl, hun⟩
          replace hS := hS.toN hun)
       | ((with_reducible refine gate_builtin (b := .append) (xs := #[.tmp 73, .tmp 82]) rfl ?_); at_builtin
          refine sp_app Kd.string hS 1 rfl (.tmp 73) (.tmp 82) 60 9 (.string ByteArray.empty) 16 rfl Try.underlying60 infoS rfl zz13 zz13 (.slice A2 j c2) PS x3 [.string x3] rfl rfl (by exact rfl) rfl (by have := HPS.out.2.1; omega) PS2 HP2.out _ (fun _ _ => rfl) ?_
          intro A3 c3 w9 hS))
      have HPL := HP3.out.2.1
      go_roundg (gk - 1)
      case measure => have := HJ.out.2; omega
      case rel => exact ⟨j + 1, A3, c3, PS2, by rw [← HPL], rfl, ⟨zz7, by have := HJ.out.2; omega⟩, HP3, ⟨by rw [← HPL]; exact Sp.sel (l2 := [row Kd.string 9 (.slice A3 PS2.length c3) PS2]) hS.lt [1]⟩⟩
   ·
    have hd : decide (j < m) = false := decide_eq_false hlj
    have hjm : j = m := by have := HJ.out.1; omega
    subst hjm
    have hjl : x.take j = x := List.take_of_length_le (by rw [HM.out]; omega)
    have hp := HPS.out
    rw [hjl] at hp
    obtain ⟨hp1, hp2, hp3⟩ := hp
    have hsx : setOk x = true := by rw [HSET.out, hp3, decide_eq_true hmz]; rfl
    have hpm : ∀ s, s ∈ PS → s.size ≤ 30000 := fun s hs => by
     rw [← hp1] at hs
     obtain ⟨y, hy, rfl⟩ := List.mem_map.1 hs
     exact attrx_size y (HXP.out.2 y hy)
    have HSO := Aside0.mk (fun (W : World) (A : Option Addr) (c : Nat) (hC : Kd.string.C W A PS.length PS) (hc : PS.length ≤ c) => rsort_any A c PS W hC hc zz7 (fun s hs => by have := hpm s hs; omega))
    have HRD := Aside0.mk (show Kd.string.C wr A2 PS.length PS by rw [hp2]; exact hS.reads 0)
    have HRC := Aside0.mk (show PS.length ≤ c2 by have := (Kd.R_reads' (hS.row 0)).2.1; omega)
    obtain ⟨RS, hRS⟩ : ∃ z, rsort PS = z := ⟨_, rfl⟩
    have hrl : RS.length = j := by rw [← hRS, rsort_len, hp2]
    have hzr : (cat RS).size ≤ 500000 := by rw [← hRS, ← srt_rsort, ← hp1]; exact setl_size x HXP.out
    have hsb : elb 0 17 true (cat RS) = setx x := by unfold setx setb; rw [hp3, if_pos rfl, hp1, srt_rsort, hRS]
    have HEL := Aside0.mk (fun (W : World) => relem_ok (c := 0) (t := 17) true 0 (cat RS) W ⟨zz13, zz13, zz13, zz13⟩ zz7)
    rw [hsb] at HEL
    have hcx : C ++ setx x = cat ((l.take (i + 1)).map setx) := by rw [← HCC.out]; exact cat_takes setx setx l i x HXX.out rfl
    have hzx := setx_size x HXP.out
    have HALL := Aside0.mk (show (l.take (i + 1)).all setOk = true by rw [List.take_add_one, HXX.out, Option.toList_some, List.all_append, HA.out]; simp [hsx])
    obtain ⟨X, hX⟩ : ∃ z, setx x = z := ⟨_, rfl⟩
    rw [hX] at HEL hcx hzx
    have s1 : ¬ 9223372036854775807 < C.size + X.size := by have := HZ0.out; omega
    have s2 : C.size + X.size ≤ 9223372036854775807 := by have := HZ0.out; omega
    have HCX := Aside0.mk hcx
    have HRL := Aside0.mk hrl
    have HZR := Aside0.mk hzr
    rw [hRS, hp2] at HSO
    rw [hp2] at HRD HRC
    clear hjl hp1 hp2 hp3 hsx hpm hrl hzr hsb hcx hzx hX hRS HPS
    go_wp2_with (first
     | (go_at_call 41
        (with_reducible refine (HSO.out _ A2 c2 HRD.out HRC.out).mono ?_)
        rintro e w6 ⟨A3, c3, rfl, hq⟩
        replace hS := hS.post0 (hq.mo (fun _ h => h.elim))
        clear hq k0 HRD HRC))
    go_loopg [11, 12] j (fun gk v11 v12 wr => ∃ (k : Nat), v11 = .string (cat (RS.take k)) ∧ v12 = .int .i64 (k : Int) ∧ Aside0 (k ≤ j ∧ j - k ≤ gk) ∧ Aside0 (Sp w None0 [row Kd.string 9 (.slice A3 j c3) RS] wr))
    case atStart => exact ⟨0, rfl, rfl, ⟨Nat.zero_le _, zz7⟩, ⟨Sp.sel (l2 := [row Kd.string 9 (.slice A3 j c3) RS]) hS.lt [0]⟩⟩
    case round =>
     clear hS hd
     obtain ⟨k, rfl, rfl, HK, HS⟩ := hrel
     have hS := HS.out
     clear HS
     have hk00 : (0 : Int) ≤ (k : Int) := by omega
     have hz1 : (cat (RS.take k)).size ≤ 500000 := Nat.le_trans (cat_take_le RS k) HZR.out
     by_cases hkj : k < j
     ·
      have hd : decide (k < j) = true := decide_eq_true hkj
      have hkr : k < RS.length := by rw [HRL.out]; exact hkj
      obtain ⟨s, hs⟩ : ∃ s, RS[k]? = some s := ⟨RS[k], List.getElem?_eq_getElem hkr⟩
      obtain ⟨a3, rfl⟩ : ∃ a3, A3 = some a3 := by
       obtain ⟨a3, _, e, _⟩ := Kd.C_get (hS.reads 0) ByteArray.empty (k : Int) zz7 zz7
       exact ⟨a3, e⟩
      have hc := Wr.str_cell (hS.reads 0) hs
      have hzs : s.size ≤ 500000 := Nat.le_trans (size_le_cat RS s (List.mem_of_getElem? hs)) HZR.out
      have HCT := Aside0.mk (show cat (RS.take k) ++ s = cat (RS.take (k + 1)) by rw [List.take_add_one, hs, Option.toList_some, cat_snoc])
      obtain ⟨D, hD⟩ : ∃ y, cat (RS.take k) = y := ⟨_, rfl⟩
      rw [hD] at hz1 HCT ⊢
      have s3 : ¬ 9223372036854775807 < D.size + s.size := by omega
      have s4 : D.size + s.size ≤ 9223372036854775807 := by omega
      have hltk : (k : Int) < (j : Int) := by omega
      have hw3 : IntKind.i64.wrap ((k : Int) + 1) = ((k + 1 : Nat) : Int) := by rw [IntKind.wrap_i64]; omega
      clear hkr hs hD
      go_wp2
      go_roundg (gk - 1)
      case measure => have := HK.out.2; omega
      case rel => exact ⟨k + 1, by rw [HCT.out], rfl, ⟨zz7, by have := HK.out.2; omega⟩, ⟨hS.lt⟩⟩
     ·
      have hd : decide (k < j) = false := decide_eq_false hkj
      have hkl : RS.take k = RS := List.take_of_length_le (by have := HRL.out; omega)
      rw [hkl] at hz1 ⊢
      obtain ⟨D, hD⟩ : ∃ y, cat RS = y := ⟨_, rfl⟩
      rw [hD] at HEL hz1 ⊢
      clear hkl hD
      go_wp2_with (first
       | (go_at_call 19
          (with_reducible refine (HEL.out _).mono ?_)
          rintro e w6 ⟨rfl, hun⟩
          replace hS := hS.toN hun))
      go_roundg (go - 1)
      case measure => have := HI.out.2; have := HGO.out; have := HLT.out; omega
      case rel => exact ⟨i + 1, by rw [HCX.out], rfl, ⟨by have := HLT.out; omega, zz84⟩, HALL, ⟨Sp.sel (l2 := []) hS.lt []⟩⟩
end Go.Proofs.Ytgddaddoabjgiaa.At
namespace Go.Proofs.Ytgddaddoabjgiaa.At
open RowKit YtgddaddoabjgiaaW.PrintWords YtgddaddoabjgiaaW.PrintLast YtgddaddoabjgiaaW.PrintMore Own Sl Bs El Wr Oid Oidm Kn Cn
set_option linter.unusedVariables false
set_option linter.unusedSimpArgs false
set_option maxHeartbeats 8000000 in
set_option maxRecDepth 100000 in
theorem rentry_any (A : Option Addr) (c : Nat) (x : S34) (w : World) (hC : k51.C w A x.f2.length x.f2) (hcap : x.f2.length ≤ c) (hA : EntP x) :
 Calls Try.prog 37 #[.agg #[.string x.f0, .string x.f1, .slice A x.f2.length c]] w fun e w' => e = .returned (.tuple #[.string (entx x), .bool (entOk x)]) ∧ Upd None0 w w' := by
 have hu := Try.underlying34
 have hS := Sp.nil (w := w) (S := None0)
 have HX := Aside0.mk (fun (W : World) (h : Upd None0 w W) => rexts_any A c x.f2 W (Kd.C_below hC h.below0) hcap hA.2.2.2 hA.2.2.1)
 have HL := Aside0.mk (fun W => rleaf_ok (t := 2) x.f0 W zz13 (by have := hA.1; omega))
 have HD := Aside0.mk (fun W => rdat_any x.f1 W)
 have HI0 := fun W (h : x.f0.size ≠ 0) => rwrong_any x.f0 W h
 have heo : entOk x = (intOk (bytesOf x.f0) && datOk x.f1 && (decide (x.f2.length = 0) || extsOk x.f2)) := rfl
 have hel : entl x = elb 0 2 false x.f0 :: datx x.f1 :: (if x.f2.length = 0 then [] else [extsx x.f2]) := rfl
 have hex : entx x = if entOk x then elb 0 16 true (cat (entl x)) else ByteArray.empty := rfl
 have hdx : datx x.f1 = if datOk x.f1 then datb x.f1 else elb 0 0 false ByteArray.empty := rfl
 have hxx : extsx x.f2 = if extsOk x.f2 then extsb x.f2 else ByteArray.empty := rfl
 have hz := entl_size x hA
 have zs := (elb_size (c := 0) (t := 2) false (s := x.f0) ⟨zz13, zz13, zz13, zz13⟩ (by have := hA.1; omega)).2
 have zd := datx_size x.f1
 have ze := extsx_size x.f2 hA.2.2.1 hA.2.2.2
 have z0 := hA.1
 have hnb : x.f0.size = 0 → intOk (bytesOf x.f0) = false := fun h => by
  have hl : (bytesOf x.f0).length = x.f0.size := bytesOf_length x.f0
  cases hb : bytesOf x.f0 with
  | nil => rfl
  | cons a r => rw [hb, List.length_cons] at hl; omega
 have hsq := fun W (h : (cat (entl x)).size ≤ 100000000) => rseq_ok (cat (entl x)) W h
 obtain ⟨n, hn⟩ : ∃ n, x.f2.length = n := ⟨_, rfl⟩
 have hn2 : n ≤ 100 := by rw [← hn]; exact hA.2.2.1
 rw [hn] at HX heo hel ⊢
 rw [hxx] at hel ze
 rw [hdx] at hel zd
 obtain ⟨xs, xd, xe⟩ := x
 dsimp only at HX HL HD HI0 heo hel hex zs zd ze z0 hnb ⊢
 obtain ⟨io, hio⟩ : ∃ y, intOk (bytesOf xs) = y := ⟨_, rfl⟩
 obtain ⟨dk, hdk⟩ : ∃ y, datOk xd = y := ⟨_, rfl⟩
 obtain ⟨ek, hek⟩ : ∃ y, extsOk xe = y := ⟨_, rfl⟩
 rw [hio, hdk, hek] at heo
 rw [hdk] at HD hel zd
 rw [hek] at HX hel ze
 simp only [hio] at HI0
 rw [hio] at hnb
 rw [heo] at hex ⊢
 rw [hex]
 obtain ⟨EL, hEL⟩ : ∃ z, entl (S34.mk xs xd xe) = z := ⟨_, rfl⟩
 rw [hEL] at hel hz hsq ⊢
 obtain ⟨x2, hx2⟩ : ∃ y, elb 0 2 false xs = y := ⟨_, rfl⟩
 rw [hx2] at HL hel zs
 obtain ⟨x3, hx3⟩ : ∃ y, datb xd = y := ⟨_, rfl⟩
 rw [hx3] at HD hel zd
 obtain ⟨x4, hx4⟩ : ∃ y, extsb xe = y := ⟨_, rfl⟩
 rw [hx4] at HX hel ze
 clear hC hcap hA heo hex hdx hxx hEL hx2 hx3 hx4 hio hdk hek hn
 by_cases hs0 : xs.size = 0
 ·
  obtain rfl := hnb hs0
  have hd1 : ((xs.size : Int) == 0) = true := by rw [hs0]; rfl
  have hd2 : decide (xs.size = 0) = true := decide_eq_true hs0
  have hd3 : decide ((xs.size : Int) = 0) = true := decide_eq_true zz7
  clear HI0 hnb hsq hel hz zs zd ze z0 hn2
  simp only [Bool.false_and, Bool.false_eq_true, if_false]
  go_enter Try.func37, Try.ntmps37
  go_wp2_with (first
   | ((with_reducible refine gate_dst (N := 1) rfl ?_)
      refine sp_box hS rfl (N := 1) rfl #[.string xs, .string xd, .slice A n c] 34 zz20 ?_
      intro ga w1 hg1 hS
      obtain ⟨k0, k1, k2⟩ := hS.cells3 0)
   | (go_at_call 52
      (with_reducible refine (HI.out _).mono ?_)
      rintro e w2 ⟨rfl, hun⟩
      replace hS := hS.toN hun
      clear k0 k1 k2 hun
      obtain ⟨k0, k1, k2⟩ := hS.cells3 0)
   | (go_at_call 36
      (with_reducible refine (HD.out _).mono ?_)
      rintro e w3 ⟨rfl, hun⟩
      replace hS := hS.toN hun
      clear k0 k1 k2 hun
      obtain ⟨k0, k1, k2⟩ := hS.cells3 0)
   | (go_at_call 28
      (with_reducible refine (HL.out _).mono ?_)
      rintro e w4 ⟨rfl, hun⟩
      replace hS := hS.toN hun
      clear k0 k1 k2 hun
      obtain ⟨k0, k1, k2⟩ := hS.cells3 0)
   | (go_at_call 17
      (with_reducible refine (HX.out _ hS.lt.u).mono ?_)
      rintro e w5 ⟨rfl, hun⟩
      replace hS := hS.toN hun
      clear k0 k1 k2 hun
      obtain ⟨k0, k1, k2⟩ := hS.cells3 0)
   | (go_at_call 27
      (with_reducible refine (HSQ.out _).mono ?_)
      rintro e w6 ⟨rfl, hun⟩
      replace hS := hS.toN hun))
  go_ret2
  exact ⟨rfl, hS.lt.u⟩
 have HI := Aside0.mk (fun W => HI0 W hs0)
 have hd1 : ((xs.size : Int) == 0) = false := by
  rw [beq_eq_false_iff_ne]; omega
 have hd2 : decide (xs.size = 0) = false := decide_eq_false hs0
 have hd3 : decide ((xs.size : Int) = 0) = false := decide_eq_false zz7
 clear HI0 hnb
 cases io
 ·
  clear hsq hel hz zs zd ze z0 hn2
  simp only [Bool.false_and, Bool.false_eq_true, if_false] at HI ⊢
  go_enter Try.func37, Try.ntmps37
  go_wp2_with (first
   | ((with_reducible refine gate_dst (N := 1) rfl ?_)
      refine sp_box hS rfl (N := 1) rfl #[.string xs, .string xd, .slice A n c] 34 zz20 ?_
      intro ga w1 hg1 hS
      obtain ⟨k0, k1, k2⟩ := hS.cells3 0)
   | (go_at_call 52
      (with_reducible refine (HI.out _).mono ?_)
      rintro e w2 ⟨rfl, hun⟩
      replace hS := hS.toN hun
      clear k0 k1 k2 hun
      obtain ⟨k0, k1, k2⟩ := hS.cells3 0)
   | (go_at_call 36
      (with_reducible refine (HD.out _).mono ?_)
      rintro e w3 ⟨rfl, hun⟩
      replace hS := hS.toN hun
      clear k0 k1 k2 hun
      obtain ⟨k0, k1, k2⟩ := hS.cells3 0)
   | (go_at_call 28
      (with_reducible refine (HL.out _).mono ?_)
      rintro e w4 ⟨rfl, hun⟩
      replace hS := hS.toN hun
      clear k0 k1 k2 hun
      obtain ⟨k0, k1, k2⟩ := hS.cells3 0)
   | (go_at_call 17
      (with_reducible refine (HX.out _ hS.lt.u).mono ?_)
      rintro e w5 ⟨rfl, hun⟩
      replace hS := hS.toN hun
      clear k0 k1 k2 hun
      obtain ⟨k0, k1, k2⟩ := hS.cells3 0)
   | (go_at_call 27
      (with_reducible refine (HSQ.out _).mono ?_)
      rintro e w6 ⟨rfl, hun⟩
      replace hS := hS.toN hun))
  go_ret2
  exact ⟨rfl, hS.lt.u⟩
 cases dk
 ·
  clear hsq hel hz zs zd ze z0 hn2
  simp only [Bool.and_false, Bool.false_and, Bool.false_eq_true, if_false, if_true] at HI HD ⊢
  go_enter Try.func37, Try.ntmps37
  go_wp2_with (first
   | ((with_reducible refine gate_dst (N := 1) rfl ?_)
      refine sp_box hS rfl (N := 1) rfl #[.string xs, .string xd, .slice A n c] 34 zz20 ?_
      intro ga w1 hg1 hS
      obtain ⟨k0, k1, k2⟩ := hS.cells3 0)
   | (go_at_call 52
      (with_reducible refine (HI.out _).mono ?_)
      rintro e w2 ⟨rfl, hun⟩
      replace hS := hS.toN hun
      clear k0 k1 k2 hun
      obtain ⟨k0, k1, k2⟩ := hS.cells3 0)
   | (go_at_call 36
      (with_reducible refine (HD.out _).mono ?_)
      rintro e w3 ⟨rfl, hun⟩
      replace hS := hS.toN hun
      clear k0 k1 k2 hun
      obtain ⟨k0, k1, k2⟩ := hS.cells3 0)
   | (go_at_call 28
      (with_reducible refine (HL.out _).mono ?_)
      rintro e w4 ⟨rfl, hun⟩
      replace hS := hS.toN hun
      clear k0 k1 k2 hun
      obtain ⟨k0, k1, k2⟩ := hS.cells3 0)
   | (go_at_call 17
      (with_reducible refine (HX.out _ hS.lt.u).mono ?_)
      rintro e w5 ⟨rfl, hun⟩
      replace hS := hS.toN hun
      clear k0 k1 k2 hun
      obtain ⟨k0, k1, k2⟩ := hS.cells3 0)
   | (go_at_call 27
      (with_reducible refine (HSQ.out _).mono ?_)
      rintro e w6 ⟨rfl, hun⟩
      replace hS := hS.toN hun))
  go_ret2
  exact ⟨rfl, hS.lt.u⟩
 simp only [if_true] at HI HD hel zd
 by_cases hn0 : n = 0
 ·
  rw [if_pos hn0] at hel
  have hn1 : decide (0 < n) = false := decide_eq_false zz7
  have hn3 : decide ((0 : Int) < (n : Int)) = false := decide_eq_false zz7
  have hn4 : decide (n = 0) = true := decide_eq_true hn0
  rw [hn4]
  have hcat : x2 ++ x3 = cat EL := by rw [hel, cat2]
  have s1 : ¬ 9223372036854775807 < x2.size + x3.size := by omega
  have s2 : x2.size + x3.size ≤ 9223372036854775807 := by omega
  rw [← hcat] at hsq hz
  have HSQ := Aside0.mk (fun W => hsq W zz7)
  rw [← hcat]
  obtain ⟨Y, hY⟩ : ∃ y, elb 0 16 true (x2 ++ x3) = y := ⟨_, rfl⟩
  rw [hY] at HSQ ⊢
  clear hsq hel hz zs zd ze z0 hcat hY hs0 hn0 hn4
  simp only [Bool.true_or, Bool.and_true, if_true]
  go_enter Try.func37, Try.ntmps37
  go_wp2_with (first
   | ((with_reducible refine gate_dst (N := 1) rfl ?_)
      refine sp_box hS rfl (N := 1) rfl #[.string xs, .string xd, .slice A n c] 34 zz20 ?_
      intro ga w1 hg1 hS
      obtain ⟨k0, k1, k2⟩ := hS.cells3 0)
   | (go_at_call 52
      (with_reducible refine (HI.out _).mono ?_)
      rintro e w2 ⟨rfl, hun⟩
      replace hS := hS.toN hun
      clear k0 k1 k2 hun
      obtain ⟨k0, k1, k2⟩ := hS.cells3 0)
   | (go_at_call 36
      (with_reducible refine (HD.out _).mono ?_)
      rintro e w3 ⟨rfl, hun⟩
      replace hS := hS.toN hun
      clear k0 k1 k2 hun
      obtain ⟨k0, k1, k2⟩ := hS.cells3 0)
   | (go_at_call 28
      (with_reducible refine (HL.out _).mono ?_)
      rintro e w4 ⟨rfl, hun⟩
      replace hS := hS.toN hun
      clear k0 k1 k2 hun
      obtain ⟨k0, k1, k2⟩ := hS.cells3 0)
   | (go_at_call 17
      (with_reducible refine (HX.out _ hS.lt.u).mono ?_)
      rintro e w5 ⟨rfl, hun⟩
      replace hS := hS.toN hun
      clear k0 k1 k2 hun
      obtain ⟨k0, k1, k2⟩ := hS.cells3 0)
   | (go_at_call 27
      (with_reducible refine (HSQ.out _).mono ?_)
      rintro e w6 ⟨rfl, hun⟩
      replace hS := hS.toN hun))
  go_ret2
  exact ⟨rfl, hS.lt.u⟩
 have hn1 : decide (0 < n) = true := decide_eq_true (Nat.pos_of_ne_zero hn0)
 have hn3 : decide ((0 : Int) < (n : Int)) = true := decide_eq_true zz7
 have hn4 : decide (n = 0) = false := decide_eq_false hn0
 rw [hn4]
 cases ek
 ·
  have s1 : ¬ 9223372036854775807 < x2.size + x3.size := by omega
  have s2 : x2.size + x3.size ≤ 9223372036854775807 := by omega
  clear hsq hel hz zd ze hn4
  clear zs z0 hs0 hn0
  simp only [Bool.and_false, Bool.or_false, Bool.false_eq_true, if_false] at HX ⊢
  go_enter Try.func37, Try.ntmps37
  go_wp2_with (first
   | ((with_reducible refine gate_dst (N := 1) rfl ?_)
      refine sp_box hS rfl (N := 1) rfl #[.string xs, .string xd, .slice A n c] 34 zz20 ?_
      intro ga w1 hg1 hS
      obtain ⟨k0, k1, k2⟩ := hS.cells3 0)
   | (go_at_call 52
      (with_reducible refine (HI.out _).mono ?_)
      rintro e w2 ⟨rfl, hun⟩
      replace hS := hS.toN hun
      clear k0 k1 k2 hun
      obtain ⟨k0, k1, k2⟩ := hS.cells3 0)
   | (go_at_call 36
      (with_reducible refine (HD.out _).mono ?_)
      rintro e w3 ⟨rfl, hun⟩
      replace hS := hS.toN hun
      clear k0 k1 k2 hun
      obtain ⟨k0, k1, k2⟩ := hS.cells3 0)
   | (go_at_call 28
      (with_reducible refine (HL.out _).mono ?_)
      rintro e w4 ⟨rfl, hun⟩
      replace hS := hS.toN hun
      clear k0 k1 k2 hun
      obtain ⟨k0, k1, k2⟩ := hS.cells3 0)
   | (go_at_call 17
      (with_reducible refine (HX.out _ hS.lt.u).mono ?_)
      rintro e w5 ⟨rfl, hun⟩
      replace hS := hS.toN hun
      clear k0 k1 k2 hun
      obtain ⟨k0, k1, k2⟩ := hS.cells3 0)
   | (go_at_call 27
      (with_reducible refine (HSQ.out _).mono ?_)
      rintro e w6 ⟨rfl, hun⟩
      replace hS := hS.toN hun))
  go_ret2
  exact ⟨rfl, hS.lt.u⟩
 ·
  simp only [if_true] at HX hel ze
  rw [if_neg hn0] at hel
  have hcat : (x2 ++ x3) ++ x4 = cat EL := by rw [hel]; simp [cat, ByteArray.append_assoc]
  have s1 : ¬ 9223372036854775807 < x2.size + x3.size := by omega
  have s2 : x2.size + x3.size ≤ 9223372036854775807 := by omega
  have s3 : ¬ 9223372036854775807 < (x2 ++ x3).size + x4.size := by rw [ByteArray.size_append]; omega
  have s4 : (x2 ++ x3).size + x4.size ≤ 9223372036854775807 := by rw [ByteArray.size_append]; omega
  rw [← hcat] at hsq hz
  have HSQ := Aside0.mk (fun W => hsq W zz7)
  rw [← hcat]
  obtain ⟨Y, hY⟩ : ∃ y, elb 0 16 true ((x2 ++ x3) ++ x4) = y := ⟨_, rfl⟩
  rw [hY] at HSQ ⊢
  clear hsq hel hz zs zd ze z0 hcat hY hs0 hn0 hn4
  simp only [Bool.or_true, Bool.and_true, if_true]
  go_enter Try.func37, Try.ntmps37
  go_wp2_with (first
   | ((with_reducible refine gate_dst (N := 1) rfl ?_)
      refine sp_box hS rfl (N := 1) rfl #[.string xs, .string xd, .slice A n c] 34 zz20 ?_
      intro ga w1 hg1 hS
      obtain ⟨k0, k1, k2⟩ := hS.cells3 0)
   | (go_at_call 52
      (with_reducible refine (HI.out _).mono ?_)
      rintro e w2 ⟨rfl, hun⟩
      replace hS := hS.toN hun
      clear k0 k1 k2 hun
      obtain ⟨k0, k1, k2⟩ := hS.cells3 0)
   | (go_at_call 36
      (with_reducible refine (HD.out _).mono ?_)
      rintro e w3 ⟨rfl, hun⟩
      replace hS := hS.toN hun
      clear k0 k1 k2 hun
      obtain ⟨k0, k1, k2⟩ := hS.cells3 0)
   | (go_at_call 28
      (with_reducible refine (HL.out _).mono ?_)
      rintro e w4 ⟨rfl, hun⟩
      replace hS := hS.toN hun
      clear k0 k1 k2 hun
      obtain ⟨k0, k1, k2⟩ := hS.cells3 0)
   | (go_at_call 17
      (with_reducible refine (HX.out _ hS.lt.u).mono ?_)
      rintro e w5 ⟨rfl, hun⟩
      replace hS := hS.toN hun
      clear k0 k1 k2 hun
      obtain ⟨k0, k1, k2⟩ := hS.cells3 0)
   | (go_at_call 27
      (with_reducible refine (HSQ.out _).mono ?_)
      rintro e w6 ⟨rfl, hun⟩
      replace hS := hS.toN hun))
  go_ret2
  exact ⟨rfl, hS.lt.u⟩
end Go.Proofs.Ytgddaddoabjgiaa.At
namespace Go.Proofs.Ytgddaddoabjgiaa.At
open RowKit YtgddaddoabjgiaaW.PrintWords YtgddaddoabjgiaaW.PrintLast YtgddaddoabjgiaaW.PrintMore Own Sl Bs El Wr Oid Oidm Kn Cn
set_option linter.unusedVariables false
set_option linter.unusedSimpArgs false
def algb (l : List Int) : ByteArray := elb 0 16 true (idb l ++ elb 0 5 false ByteArray.empty)
set_option maxHeartbeats 4000000 in
set_option maxRecDepth 100000 in
theorem alg_any (A : Option Addr) (c : Nat) (l : List Int) (v2 : Bool) (A2 A5 A6 : Option Addr) (n2 c2 n5 c5 n6 c6 : Nat) (th nx sg : ByteArray) (w : World) (hC : (Kd.int .u64).C w A l.length l) (hcap : l.length ≤ c) (hA : Arcs l) :
 Calls Try.prog 22 #[.agg #[.bool v2, .slice A l.length c, .slice A2 n2 c2, .string th, .string nx, .slice A5 n5 c5, .slice A6 n6 c6, .string sg]] w fun e w' => e = .returned (.tuple #[.string (if oidOk l then algb l else ByteArray.empty), .bool (oidOk l)]) ∧ Upd None0 w w' := by
 have hu := Try.underlying27
 have hu2 := Try.underlying62
 have hS := Sp.nil (w := w) (S := None0)
 have HI := Aside0.mk (fun (W : World) (h : Upd None0 w W) => id_any A c l W (Kd.C_below hC h.below0) hcap hA)
 have HL := Aside0.mk (show ∀ W, Calls Try.prog 25 #[.int .i64 5, .string ⟨#[]⟩] W fun e w' => e = .returned (.string (leafb 5 ByteArray.empty)) ∧ Upd None0 W w' from fun W => leaf_any 5 ByteArray.empty W zz13)
 rw [leafb_ok _ zz13] at HL
 have z1 := idb_size l hA
 have hab : algb l = elb 0 16 true (cat [idb l, elb 0 5 false ByteArray.empty]) := by unfold algb cat cat cat; simp
 obtain ⟨x1, hx1⟩ : ∃ y, idb l = y := ⟨_, rfl⟩
 obtain ⟨x2, hx2⟩ : ∃ y, elb 0 5 false ByteArray.empty = y := ⟨_, rfl⟩
 have z2 := (elb_size (c := 0) (t := 5) false (s := ByteArray.empty) ⟨zz13, zz13, zz13, zz13⟩ zz13).2
 rw [hx2] at z2 HL hab
 rw [hx1] at z1 HI hab
 have hz0 : ByteArray.empty.size = 0 := rfl
 obtain ⟨ok, hok⟩ : ∃ y, oidOk l = y := ⟨_, rfl⟩
 obtain ⟨Y, hY⟩ : ∃ y, (if oidOk l then algb l else ByteArray.empty) = y := ⟨_, rfl⟩
 rw [hY]
 rw [hok] at HI hY ⊢
 rw [hab] at hY
 have HE2 := Aside0.mk (show ∀ (g : Nat) (W : World) (S : Nat → Prop), Hs W S [Wr.wr g [x1, x2] ((false || !ok) || !true)] → Calls Try.prog 33 #[.pointer (some ⟨g, 0, none⟩), .int .i64 16] W fun e w' => e = .returned (.tuple #[.string Y, .bool ok]) ∧ Sp W S [Wr.wr g [x1, x2] ((false || !ok) || !true)] w' from
  fun g W S h => (end_any (t := 16) g [x1, x2] ((false || !ok) || !true) W S h zz13 (by rw [cat_count]; simp only [List.map_cons, List.map_nil, List.sum_cons, List.sum_nil]; omega) zz43).mono fun e w' ⟨h1, h2⟩ => ⟨h1.trans (by rw [← hY]; cases ok <;> rfl), h2⟩)
 obtain ⟨n, hn⟩ : ∃ n, l.length = n := ⟨_, rfl⟩
 rw [hn] at HI ⊢
 clear hC hcap hA z1 z2 hab hx1 hx2 hz0 hok hY hn
 go_enter Try.func22, Try.ntmps22
 go_wp2_with (first
  | ((with_reducible refine gate_dst (N := 1) rfl ?_)
     refine sp_box hS rfl (N := 1) rfl #[.bool v2, .slice A n c, .slice A2 n2 c2, .string th, .string nx, .slice A5 n5 c5, .slice A6 n6 c6, .string sg] 27 zz20 ?_
     intro ga w1 hg1 hS)
  | ((with_reducible refine gate_dst (N := 4) rfl ?_)
     refine sp_box hS rfl (N := 4) rfl #[.slice none 0 0, .bool false] 62 zz20 ?_
     intro gw w2 hg2 hS
     replace hS := wr_new hS
     obtain ⟨k0, k1, k2⟩ := hS.cells8 1)
  | (go_at_call 42
     (with_reducible refine (HI.out _ hS.lt.u).mono ?_)
     rintro e w6 ⟨rfl, hun⟩
     replace hS := hS.toN hun
     clear k0 k1 k2 hun)
  | (go_at_call 25
     (with_reducible refine (HL.out _).mono ?_)
     rintro e w8 ⟨rfl, hun⟩
     replace hS := hS.toN hun
     clear hun)
  | (go_at_call 29
     (with_reducible refine (add_any gw _ _ _ _ _ (hS.ft 1) zz55 zz43).mono ?_)
     rintro e w9 ⟨rfl, hq⟩
     replace hS := hS.post1 hq
     simp only [List.cons_append, List.nil_append] at hS
     clear hq)
  | (go_at_call 33
     (with_reducible refine (HE2.out gw _ (hS.ft 1) zz55).mono ?_)
     rintro e w11 ⟨rfl, hq⟩
     replace hS := hS.post1 hq))
 go_ret2
 exact ⟨rfl, hS.lt.u⟩
end Go.Proofs.Ytgddaddoabjgiaa.At
namespace Go.Proofs.Ytgddaddoabjgiaa.At
open RowKit YtgddaddoabjgiaaW.PrintWords YtgddaddoabjgiaaW.PrintLast YtgddaddoabjgiaaW.PrintMore Own Sl Bs El Wr Oid Oidm Kn Cn
set_option linter.unusedVariables false
set_option linter.unusedSimpArgs false
set_option maxHeartbeats 4000000 in
set_option maxRecDepth 100000 in
theorem has_any (A : Option Addr) (c n : Nat) (s d : ByteArray) (w : World) :
 Calls Try.prog 35 #[.agg #[.string s, .string d, .slice A n c]] w fun e w' => e = .returned (.bool (decide (0 < n))) ∧ Upd None0 w w' := by
 have hu := Try.underlying34
 have hS := Sp.nil (w := w) (S := None0)
 go_enter Try.func35, Try.ntmps35
 go_wp2_with (first
  | ((with_reducible refine gate_dst (N := 1) rfl ?_)
     refine sp_box hS rfl (N := 1) rfl #[.string s, .string d, .slice A n c] 34 zz20 ?_
     intro ga w1 hg1 hS
     obtain ⟨k0, k1, k2⟩ := hS.cells3 0))
 go_ret
 exact ⟨rfl, hS.lt.u⟩
def hasX (l : List S34) : Bool := l.any (fun x => decide (0 < x.f2.length))
set_option maxHeartbeats 4000000 in
set_option maxRecDepth 100000 in
theorem index_any (A : Option Addr) (c : Nat) (l : List S34) (w : World) (hC : k34.C w A l.length l) (hn : l.length ≤ 20) :
 Calls Try.prog 50 #[.slice A l.length c, .func (.func 35) #[] #[]] w fun e w' => ∃ r : Int, e = .returned (.int .i64 r) ∧ decide (0 ≤ r) = hasX l ∧ Upd None0 w w' := by
 have HC0 := Aside0.mk hC
 obtain ⟨n, hln⟩ : ∃ n, l.length = n := ⟨_, rfl⟩
 have HLN := Aside0.mk hln
 rw [hln] at hn HC0 ⊢
 have HN := Aside0.mk hn
 clear hC hln hn
 go_enter Try.func50, Try.ntmps50
 go_wp2
 go_loopg [8] n (fun gk v8 wr => ∃ (i : Nat), v8 = .int .i64 (i : Int) ∧ Aside0 (i ≤ n ∧ n - i ≤ gk) ∧ Aside0 ((l.take i).any (fun x => decide (0 < x.f2.length)) = false) ∧ Aside0 (Sp w None0 [] wr))
 case atStart => exact ⟨0, rfl, ⟨Nat.zero_le _, zz7⟩, ⟨rfl⟩, ⟨(Sp.nil (w := w) (S := None0)).lt⟩⟩
 case round =>
  obtain ⟨i, rfl, HI, HA, HS⟩ := hrel
  have hS := HS.out
  clear HS
  by_cases hlt : i < n
  ·
   have hd : decide ((i : Int) < (n : Int)) = true := decide_eq_true zz7
   have hil : i < l.length := by rw [HLN.out]; exact hlt
   have hxi := rd_some l i z34 hil
   obtain ⟨ad, A0, c0, rfl, h0, h1, h2, hl0, hi0⟩ := at_T34 HC0.out (i : Int) zz7 zz7
   replace h0 := up_cell hS.u h0
   replace h1 := up_cell hS.u h1
   replace h2 := up_cell hS.u h2
   rw [Int.toNat_natCast] at h0 h1 h2
   obtain ⟨x, hx⟩ : ∃ x, rd_T34 l (i : Int) = x := ⟨_, rfl⟩
   have hxx : l[i]? = some x := hx ▸ hxi
   rw [hx] at h0 h1 h2 hl0 hi0
   have HXX := Aside0.mk hxx
   obtain ⟨m, hm⟩ : ∃ m, x.f2.length = m := ⟨_, rfl⟩
   have HM := Aside0.mk hm
   rw [hm] at h2
   have HAS := Aside0.mk (fun W => has_any A0 c0 m x.f0 x.f1 W)
   obtain ⟨b, hb⟩ : ∃ b, decide (0 < m) = b := ⟨_, rfl⟩
   have HB := Aside0.mk hb
   rw [hb] at HAS
   have hw1 : IntKind.i64.wrap ((i : Int) + 1) = ((i + 1 : Nat) : Int) := by have := HN.out; rw [IntKind.wrap_i64]; omega
   have hlti : (i : Int) < (n : Int) := by omega
   have hi00 : (0 : Int) ≤ (i : Int) := by omega
   clear hil hxi hx hxx hl0 hi0 hm hb
   cases b
   all_goals
    go_wp2_with (first
     | (go_at_call 35
        (with_reducible refine (HAS.out _).mono ?_)
        rintro e w6 ⟨rfl, hun⟩
        replace hS := hS.toN hun
        clear h0 h1 h2 hun))
   ·
    go_roundg (gk - 1)
    case measure => have := HI.out.2; omega
    case rel => exact ⟨i + 1, rfl, ⟨zz7, by have := HI.out.2; omega⟩, ⟨by rw [List.take_add_one, HXX.out, Option.toList_some, List.any_append, HA.out]; simp [HM.out]; have := HB.out; simpa using this⟩, ⟨hS.lt⟩⟩
   ·
    go_ret
    refine ⟨(i : Int), rfl, ?_, hS.lt.u⟩
    rw [decide_eq_true zz7]
    refine Eq.symm (List.any_eq_true.2 ⟨x, List.mem_of_getElem? HXX.out, ?_⟩)
    rw [HM.out]; exact HB.out
  ·
   have hd : decide ((i : Int) < (n : Int)) = false := decide_eq_false zz7
   have hil : l.take i = l := List.take_of_length_le zz80
   go_wp2
   go_ret
   refine ⟨-1, rfl, ?_, hS.lt.u⟩
   have := HA.out
   rw [hil] at this
   unfold hasX
   rw [this]; rfl
set_option maxHeartbeats 4000000 in
set_option maxRecDepth 100000 in
theorem contains_any (A : Option Addr) (c : Nat) (l : List S34) (w : World) (hC : k34.C w A l.length l) (hn : l.length ≤ 20) :
 Calls Try.prog 34 #[.slice A l.length c, .func (.func 35) #[] #[]] w fun e w' => e = .returned (.bool (hasX l)) ∧ Upd None0 w w' := by
 have HI := Aside0.mk (index_any A c l w hC hn)
 obtain ⟨n, hln⟩ : ∃ n, l.length = n := ⟨_, rfl⟩
 obtain ⟨b, hb⟩ : ∃ b, hasX l = b := ⟨_, rfl⟩
 rw [hln, hb] at HI
 rw [hln, hb]
 clear hC hn hln hb
 go_enter Try.func34, Try.ntmps34
 go_wp2_with (first
  | (go_at_call 50
     (with_reducible refine HI.out.mono ?_)
     rintro e w6 ⟨r, rfl, hr, hun⟩
     have HR := Aside0.mk hr
     clear hr))
 go_ret
 exact ⟨by rw [← HR.out]; rfl, hun⟩
end Go.Proofs.Ytgddaddoabjgiaa.At
namespace Go.Proofs.Ytgddaddoabjgiaa.At
open RowKit YtgddaddoabjgiaaW.PrintWords YtgddaddoabjgiaaW.PrintLast YtgddaddoabjgiaaW.PrintMore Own Sl Bs El Wr Oid Oidm Kn Cn Srt
set_option linter.unusedVariables false
set_option linter.unusedSimpArgs false
structure CR where
 v2 : Bool
 alg : List Int
 iss : List (List S47)
 this : ByteArray
 next : ByteArray
 ents : List S34
 exts : List S51
 sg : ByteArray
structure CrP (c : CR) : Prop where
 alg : Arcs c.alg
 issl : c.iss.length ≤ 20
 iss : ∀ x, x ∈ c.iss → SetP x
 entsl : c.ents.length ≤ 20
 ents : ∀ x, x ∈ c.ents → EntP x
 extsl : c.exts.length ≤ 100
 exts : ∀ x, x ∈ c.exts → ExtP x
 this : c.this.size ≤ 1000
 next : c.next.size ≤ 1000
 sg : c.sg.size ≤ 1000
structure CA where
 A1 : Option Addr
 c1 : Nat
 A2 : Option Addr
 c2 : Nat
 A5 : Option Addr
 c5 : Nat
 A6 : Option Addr
 c6 : Nat
def crc (c : CR) (a : CA) : Array Value := #[.bool c.v2, .slice a.A1 c.alg.length a.c1, .slice a.A2 c.iss.length a.c2, .string c.this, .string c.next, .slice a.A5 c.ents.length a.c5, .slice a.A6 c.exts.length a.c6, .string c.sg]
structure CrM (w : World) (c : CR) (a : CA) : Prop where
 m1 : (Kd.int .u64).C w a.A1 c.alg.length c.alg
 l1 : c.alg.length ≤ a.c1
 m2 : (Kd.slice 47 k47).C w a.A2 c.iss.length c.iss
 l2 : c.iss.length ≤ a.c2
 m5 : k34.C w a.A5 c.ents.length c.ents
 l5 : c.ents.length ≤ a.c5
 m6 : k51.C w a.A6 c.exts.length c.exts
 l6 : c.exts.length ≤ a.c6
theorem CrM.up {w W : World} {c : CR} {a : CA} (h : CrM w c a) (hu : Upd None0 w W) : CrM W c a :=
 ⟨Kd.C_below h.m1 hu.below0, h.l1, Kd.C_below h.m2 hu.below0, h.l2, Kd.C_below h.m5 hu.below0, h.l5, Kd.C_below h.m6 hu.below0, h.l6⟩
noncomputable def tbsOk (c : CR) : Bool := oidOk c.alg && nameOk c.iss && datOk c.this && (c.next.isEmpty || datOk c.next) && entsOk c.ents && (decide (c.exts.length = 0) || extsOk c.exts)
def tbsHas (c : CR) : Bool := decide (0 < c.exts.length) || hasX c.ents
noncomputable def tbsl (c : CR) : List ByteArray :=
 (if c.v2 then [elb 0 2 false ⟨#[1]⟩] else []) ++ [algb c.alg, nameb c.iss, datb c.this] ++ (if c.next.isEmpty then [] else [datb c.next]) ++ (if c.ents.length = 0 then [] else [entsb c.ents]) ++ (if c.exts.length = 0 then [] else [elb 2 0 true (extsb c.exts)])
noncomputable def tbsb (c : CR) : ByteArray := elb 0 16 true (cat (tbsl c))
noncomputable def tbsE (c : CR) : Int := if tbsOk c then (if tbsHas c && !c.v2 then 8 else 0) else 7
noncomputable def tbsR (c : CR) : ByteArray := if tbsE c = 0 then tbsb c else ByteArray.empty
theorem algb_size (l : List Int) (h : Arcs l) : (algb l).size ≤ 21000 := by
 have h1 := idb_size l h
 have h2 : (elb 0 5 false ByteArray.empty).size ≤ 14 := (elb_size (c := 0) (t := 5) false ⟨zz13, zz13, zz13, zz13⟩ zz13).2
 have := (elb_size (c := 0) (t := 16) true (s := idb l ++ elb 0 5 false ByteArray.empty) ⟨zz13, zz13, zz13, zz13⟩ (by rw [ByteArray.size_append]; omega)).2
 rw [ByteArray.size_append] at this
 unfold algb
 omega
theorem nameb_size (l : List (List S47)) (hn : l.length ≤ 20) (hA : ∀ x, x ∈ l → SetP x) : (nameb l).size ≤ 10100000 := by
 have h1 := cat_alls setx 500100 l (fun x hx => setx_size x (hA x hx))
 have h2 : 500100 * l.length ≤ 500100 * 20 := Nat.mul_le_mul_left _ hn
 have := (elb_size (c := 0) (t := 16) true (s := cat (l.map setx)) ⟨zz13, zz13, zz13, zz13⟩ zz7).2
 unfold nameb
 omega
theorem entsc_size (l : List S34) (hn : l.length ≤ 20) (hA : ∀ x, x ∈ l → EntP x) : (cat (l.map entx)).size ≤ 60400280 := by
 have h1 := cat_alls entx 3020014 l (fun x hx => entx_size x (hA x hx))
 have h2 : 3020014 * l.length ≤ 3020014 * 20 := Nat.mul_le_mul_left _ hn
 omega
theorem entsb_size (l : List S34) (hn : l.length ≤ 20) (hA : ∀ x, x ∈ l → EntP x) : (entsb l).size ≤ 60400300 := by
 have h1 := entsc_size l hn hA
 have := (elb_size (c := 0) (t := 16) true (s := cat (l.map entx)) ⟨zz13, zz13, zz13, zz13⟩ zz7).2
 unfold entsb
 omega
theorem datb_le (s : ByteArray) (h : datOk s = true) : (datb s).size ≤ 29 := datb_size s h
theorem isE_size (s : ByteArray) : s.isEmpty = decide (s.size = 0) := by rw [ByteArray.isEmpty]; by_cases h : s.size = 0 <;> simp [h]
end Go.Proofs.Ytgddaddoabjgiaa.At
namespace Go.Proofs.Ytgddaddoabjgiaa.At
open RowKit YtgddaddoabjgiaaW.PrintWords YtgddaddoabjgiaaW.PrintLast YtgddaddoabjgiaaW.PrintMore Own Sl Bs El Wr Oid Oidm Kn Cn Srt
set_option linter.unusedVariables false
set_option linter.unusedSimpArgs false
theorem any_take {α : Type} (f : α → Bool) (l : List α) (i : Nat) (x : α) (h : l[i]? = some x) : ((l.take i).any f || f x) = (l.take (i + 1)).any f := by
 rw [List.take_add_one, h, Option.toList_some, List.any_append]; simp
theorem isE_toList (s : ByteArray) : s.toList.isEmpty = s.isEmpty := by
 rw [Lib.toList_data, isE_size]
 by_cases h : s.size = 0
 ·
  have : s.data.toList = [] := List.eq_nil_of_length_eq_zero (by rw [Array.length_toList]; exact h)
  rw [this, decide_eq_true h]; rfl
 ·
  rw [decide_eq_false h]
  cases hl : s.data.toList with
  | nil => exact absurd (by have := congrArg List.length hl; rw [Array.length_toList] at this; exact this) h
  | cons x r => rfl
set_option maxHeartbeats 8000000 in
set_option maxRecDepth 100000 in
theorem rtbs_any (c : CR) (a : CA) (w : World) (hM : CrM w c a) (hP : CrP c) :
 Calls Try.prog 13 #[.agg (crc c a)] w fun e w' => e = .returned (.tuple #[.string (tbsR c), .int .i64 (tbsE c)]) ∧ Upd None0 w w' := by
 have hu := Try.underlying27
 have hu2 := Try.underlying34
 have hu3 := Try.underlying39
 have hS := Sp.nil (w := w) (S := None0)
 have H0 := Aside0.mk (fun W => rleaf_ok (t := 2) ⟨#[1]⟩ W zz13 zz13)
 have H5 := Aside0.mk (show ∀ W, Calls Try.prog 28 #[.int .i64 5, .string ⟨#[]⟩] W fun e w' => e = .returned (.string (elb 0 5 false ByteArray.empty)) ∧ Upd None0 W w' from fun W => rleaf_ok (t := 5) ByteArray.empty W zz13 zz13)
 have HID := Aside0.mk (fun (W : World) (h : Upd None0 w W) => rid_any a.A1 a.c1 c.alg W (hM.up h).m1 hM.l1 hP.alg)
 have HNM := Aside0.mk (fun (W : World) (h : Upd None0 w W) => rname_any a.A2 a.c2 c.iss W (hM.up h).m2 hM.l2 hP.iss hP.issl)
 have HDT := Aside0.mk (fun (W : World) => rdat_any c.this W)
 have HNX := Aside0.mk (fun (W : World) => rdat_any c.next W)
 have HXT := Aside0.mk (fun (W : World) (h : Upd None0 w W) => rexts_any a.A6 a.c6 c.exts W (hM.up h).m6 hM.l6 hP.exts hP.extsl)
 have z1 := idb_size c.alg hP.alg
 have z2 := nameb_size c.iss hP.issl hP.iss
 have z5 : (elb 0 5 false ByteArray.empty).size ≤ 14 := (elb_size (c := 0) (t := 5) false ⟨zz13, zz13, zz13, zz13⟩ zz13).2
 have z0 : (elb 0 2 false ⟨#[1]⟩).size ≤ 15 := (elb_size (c := 0) (t := 2) false (s := ⟨#[1]⟩) ⟨zz13, zz13, zz13, zz13⟩ zz13).2
 have za := algb_size c.alg hP.alg
 have z6 := extsb_size c.exts hP.extsl hP.exts
 have zE := entsc_size c.ents hP.entsl hP.ents
 have HSA := Aside0.mk (fun (W : World) => rseq_ok (idb c.alg ++ elb 0 5 false ByteArray.empty) W (by rw [ByteArray.size_append]; omega))
 have hab : elb 0 16 true (idb c.alg ++ elb 0 5 false ByteArray.empty) = algb c.alg := rfl
 rw [hab] at HSA
 have HSE := Aside0.mk (fun (W : World) => rseq_ok (cat (c.ents.map entx)) W zz7)
 have heb : elb 0 16 true (cat (c.ents.map entx)) = entsb c.ents := rfl
 rw [heb] at HSE
 have HCX := Aside0.mk (fun (W : World) => relem_ok (c := 2) (t := 0) true 0 (extsb c.exts) W ⟨zz13, zz13, zz13, zz13⟩ zz7)
 have zx := (elb_size (c := 2) (t := 0) true (s := extsb c.exts) ⟨zz13, zz13, zz13, zz13⟩ zz7).2
 have zeb := entsb_size c.ents hP.entsl hP.ents
 have zd3 := datb_le c.this
 have zd4 := datb_le c.next
 have HM := Aside0.mk hM
 have HP := Aside0.mk hP
 clear hM hP
 have hE : tbsE c = if tbsOk c then (if tbsHas c && !c.v2 then 8 else 0) else 7 := rfl
 have hR : tbsR c = if tbsE c = 0 then tbsb c else ByteArray.empty := rfl
 have hb : tbsb c = elb 0 16 true (cat (tbsl c)) := rfl
 have hok : tbsOk c = (oidOk c.alg && nameOk c.iss && datOk c.this && (c.next.isEmpty || datOk c.next) && entsOk c.ents && (decide (c.exts.length = 0) || extsOk c.exts)) := rfl
 have hhas : tbsHas c = (decide (0 < c.exts.length) || hasX c.ents) := rfl
 have hl : tbsl c = (if c.v2 then [elb 0 2 false ⟨#[1]⟩] else []) ++ [algb c.alg, nameb c.iss, datb c.this] ++ (if c.next.isEmpty then [] else [datb c.next]) ++ (if c.ents.length = 0 then [] else [entsb c.ents]) ++ (if c.exts.length = 0 then [] else [elb 2 0 true (extsb c.exts)]) := rfl
 have hcr : crc c a = #[.bool c.v2, .slice a.A1 c.alg.length a.c1, .slice a.A2 c.iss.length a.c2, .string c.this, .string c.next, .slice a.A5 c.ents.length a.c5, .slice a.A6 c.exts.length a.c6, .string c.sg] := rfl
 rw [hcr]
 obtain ⟨EE, hEE⟩ : ∃ z, tbsE c = z := ⟨_, rfl⟩
 obtain ⟨RR, hRR⟩ : ∃ z, tbsR c = z := ⟨_, rfl⟩
 rw [hEE, hRR]
 rw [hEE] at hE hR
 rw [hRR] at hR
 have HBAD := Aside0.mk (show tbsOk c = false → EE = 7 ∧ RR = ByteArray.empty from fun h => by rw [hR, hE, h]; exact ⟨rfl, rfl⟩)
 have HE := Aside0.mk (And.intro hE hR)
 have HB := Aside0.mk hb
 have HOK := Aside0.mk hok
 have HHAS := Aside0.mk hhas
 have HL := Aside0.mk hl
 clear hE hR hb hok hhas hl hcr hEE hRR hab heb
 have HN := Aside0.mk (show c.ents.length ≤ 20 ∧ c.exts.length ≤ 100 from ⟨HP.out.entsl, HP.out.extsl⟩)
 obtain ⟨n1, hn1⟩ : ∃ z, c.alg.length = z := ⟨_, rfl⟩
 obtain ⟨n2, hn2⟩ : ∃ z, c.iss.length = z := ⟨_, rfl⟩
 obtain ⟨n5, hn5⟩ : ∃ z, c.ents.length = z := ⟨_, rfl⟩
 obtain ⟨n6, hn6⟩ : ∃ z, c.exts.length = z := ⟨_, rfl⟩
 rw [hn1] at HID
 rw [hn2] at HNM
 rw [hn6] at HXT HOK HHAS HL HN
 rw [hn5] at HL HN
 have HN5 := Aside0.mk hn5
 have HN6 := Aside0.mk hn6
 rw [hn1, hn2, hn5, hn6]
 obtain ⟨A1, c1, A2, c2, A5, c5, A6, c6⟩ := a
 dsimp only at HID HNM HXT ⊢
 obtain ⟨v2, alg, iss, th, nx, ents, exts, sg⟩ := c
 dsimp only at *
 obtain ⟨ok1, hk1⟩ : ∃ z, oidOk alg = z := ⟨_, rfl⟩
 obtain ⟨ok2, hk2⟩ : ∃ z, nameOk iss = z := ⟨_, rfl⟩
 obtain ⟨ok3, hk3⟩ : ∃ z, datOk th = z := ⟨_, rfl⟩
 obtain ⟨ok4, hk4⟩ : ∃ z, datOk nx = z := ⟨_, rfl⟩
 obtain ⟨ok6, hk6⟩ : ∃ z, extsOk exts = z := ⟨_, rfl⟩
 rw [hk1] at HID HOK
 rw [hk2] at HNM HOK
 rw [hk3] at HDT HOK zd3
 rw [hk4] at HNX HOK zd4
 rw [hk6] at HXT HOK
 obtain ⟨x0, hx0⟩ : ∃ z, elb 0 2 false (⟨#[1]⟩ : ByteArray) = z := ⟨_, rfl⟩
 obtain ⟨x1, hx1⟩ : ∃ z, idb alg = z := ⟨_, rfl⟩
 obtain ⟨x2, hx2⟩ : ∃ z, nameb iss = z := ⟨_, rfl⟩
 obtain ⟨x3, hx3⟩ : ∃ z, datb th = z := ⟨_, rfl⟩
 obtain ⟨x4, hx4⟩ : ∃ z, datb nx = z := ⟨_, rfl⟩
 obtain ⟨x5, hx5⟩ : ∃ z, elb 0 5 false ByteArray.empty = z := ⟨_, rfl⟩
 obtain ⟨xa, hxa⟩ : ∃ z, algb alg = z := ⟨_, rfl⟩
 obtain ⟨xE, hxE⟩ : ∃ z, entsb ents = z := ⟨_, rfl⟩
 obtain ⟨xX, hxX⟩ : ∃ z, elb 2 0 true (extsb exts) = z := ⟨_, rfl⟩
 obtain ⟨x6, hx6⟩ : ∃ z, extsb exts = z := ⟨_, rfl⟩
 rw [hx0] at H0 HL z0
 rw [hx1, hx5] at HSA
 rw [hx1] at HID z1
 rw [hx5] at H5 z5
 rw [hx2] at HNM HL z2
 rw [hx3] at HDT HL zd3
 rw [hx4] at HNX HL zd4
 rw [hxa] at HSA HL za
 rw [hxE] at HSE HL zeb
 rw [hxX] at HCX HL zx
 rw [hx6] at HXT HCX z6 zx
 clear hk1 hk2 hk3 hk4 hk6 hx0 hx1 hx2 hx3 hx4 hx5 hxa hxE hxX hx6 hn1 hn2 hn5 hn6
 obtain ⟨L1, hL1⟩ : ∃ z, (if v2 then x0 else ByteArray.empty) = z := ⟨_, rfl⟩
 have zL1 : L1.size ≤ 15 := by rw [← hL1]; split; exact z0; exact Nat.zero_le _
 have HL1 := Aside0.mk hL1
 clear hL1
 go_enter Try.func13, Try.ntmps13
 go_upto_if 19 with (first
  | ((with_reducible refine gate_dst (N := 1) rfl ?_)
     refine sp_box hS rfl (N := 1) rfl #[.bool v2, .slice A1 n1 c1, .slice A2 n2 c2, .string th, .string nx, .slice A5 n5 c5, .slice A6 n6 c6, .string sg] 27 zz20 ?_
     intro ga w1 hg1 hS
     obtain ⟨k0, k1, k2, k3, k4, k5, k6, k7⟩ := hS.cells8 0))
 go_cut [4] (fun v4 wc => v4 = .string L1 ∧ Aside0 (Sp w None0 [blk ga #[.bool v2, .slice A1 n1 c1, .slice A2 n2 c2, .string th, .string nx, .slice A5 n5 c5, .slice A6 n6 c6, .string sg] 27] wc))
 case first =>
  cases v2
  all_goals
   go_wp2_with (first
    | (go_at_call 28
       (with_reducible refine (H0.out _).mono ?_)
       rintro e w2 ⟨rfl, hun⟩
       replace hS := hS.toN hun))
   go_meet
   exact ⟨by rw [← HL1.out]; rfl, ⟨by exact hS.lt⟩⟩
 clear hS k0 k1 k2 k3 k4 k5 k6 k7
 obtain ⟨rfl, HS⟩ := hcut
 have hS := HS.out
 clear HS H0
 obtain ⟨k0, k1, k2, k3, k4, k5, k6, k7⟩ := hS.cells8 0
 have NO : ∀ {b : Bool}, tbsOk (CR.mk v2 alg iss th nx ents exts sg) = b → b = false → ∃ (_ : EE = 7), RR = ByteArray.empty := fun h h2 => ⟨(HBAD.out (h.trans h2)).1, (HBAD.out (h.trans h2)).2⟩
 cases ok1
 ·
  obtain ⟨rfl, rfl⟩ := NO HOK.out zz43
  clear NO
  go_wp2_with (first
   | (go_at_call 26
      (with_reducible refine (HID.out _ hS.lt.u).mono ?_)
      rintro e w2 ⟨rfl, hun⟩
      replace hS := hS.toN hun
      clear k0 k1 k2 k3 k4 k5 k6 k7 hun
      obtain ⟨k0, k1, k2, k3, k4, k5, k6, k7⟩ := hS.cells8 0)
   | (go_at_call 15
      (with_reducible refine (HNM.out _ hS.lt.u).mono ?_)
      rintro e w2 ⟨rfl, hun⟩
      replace hS := hS.toN hun
      clear k0 k1 k2 k3 k4 k5 k6 k7 hun
      obtain ⟨k0, k1, k2, k3, k4, k5, k6, k7⟩ := hS.cells8 0)
   | (go_at_call 36
      (with_reducible refine (HDT.out _).mono ?_)
      rintro e w2 ⟨rfl, hun⟩
      replace hS := hS.toN hun
      clear k0 k1 k2 k3 k4 k5 k6 k7 hun
      obtain ⟨k0, k1, k2, k3, k4, k5, k6, k7⟩ := hS.cells8 0)
   | (go_at_call 28
      (with_reducible refine (H5.out _).mono ?_)
      rintro e w2 ⟨rfl, hun⟩
      replace hS := hS.toN hun
      clear k0 k1 k2 k3 k4 k5 k6 k7 hun
      obtain ⟨k0, k1, k2, k3, k4, k5, k6, k7⟩ := hS.cells8 0)
   | (go_at_call 27
      (with_reducible refine (HSA.out _).mono ?_)
      rintro e w2 ⟨rfl, hun⟩
      replace hS := hS.toN hun
      clear k0 k1 k2 k3 k4 k5 k6 k7 hun
      obtain ⟨k0, k1, k2, k3, k4, k5, k6, k7⟩ := hS.cells8 0))
  go_ret2
  exact ⟨rfl, hS.lt.u⟩
 cases ok2
 ·
  obtain ⟨rfl, rfl⟩ := NO HOK.out zz43
  clear NO
  go_wp2_with (first
   | (go_at_call 26
      (with_reducible refine (HID.out _ hS.lt.u).mono ?_)
      rintro e w2 ⟨rfl, hun⟩
      replace hS := hS.toN hun
      clear k0 k1 k2 k3 k4 k5 k6 k7 hun
      obtain ⟨k0, k1, k2, k3, k4, k5, k6, k7⟩ := hS.cells8 0)
   | (go_at_call 15
      (with_reducible refine (HNM.out _ hS.lt.u).mono ?_)
      rintro e w2 ⟨rfl, hun⟩
      replace hS := hS.toN hun
      clear k0 k1 k2 k3 k4 k5 k6 k7 hun
      obtain ⟨k0, k1, k2, k3, k4, k5, k6, k7⟩ := hS.cells8 0)
   | (go_at_call 36
      (with_reducible refine (HDT.out _).mono ?_)
      rintro e w2 ⟨rfl, hun⟩
      replace hS := hS.toN hun
      clear k0 k1 k2 k3 k4 k5 k6 k7 hun
      obtain ⟨k0, k1, k2, k3, k4, k5, k6, k7⟩ := hS.cells8 0)
   | (go_at_call 28
      (with_reducible refine (H5.out _).mono ?_)
      rintro e w2 ⟨rfl, hun⟩
      replace hS := hS.toN hun
      clear k0 k1 k2 k3 k4 k5 k6 k7 hun
      obtain ⟨k0, k1, k2, k3, k4, k5, k6, k7⟩ := hS.cells8 0)
   | (go_at_call 27
      (with_reducible refine (HSA.out _).mono ?_)
      rintro e w2 ⟨rfl, hun⟩
      replace hS := hS.toN hun
      clear k0 k1 k2 k3 k4 k5 k6 k7 hun
      obtain ⟨k0, k1, k2, k3, k4, k5, k6, k7⟩ := hS.cells8 0))
  go_ret2
  exact ⟨rfl, hS.lt.u⟩
 cases ok3
 ·
  obtain ⟨rfl, rfl⟩ := NO HOK.out zz43
  clear NO
  go_wp2_with (first
   | (go_at_call 26
      (with_reducible refine (HID.out _ hS.lt.u).mono ?_)
      rintro e w2 ⟨rfl, hun⟩
      replace hS := hS.toN hun
      clear k0 k1 k2 k3 k4 k5 k6 k7 hun
      obtain ⟨k0, k1, k2, k3, k4, k5, k6, k7⟩ := hS.cells8 0)
   | (go_at_call 15
      (with_reducible refine (HNM.out _ hS.lt.u).mono ?_)
      rintro e w2 ⟨rfl, hun⟩
      replace hS := hS.toN hun
      clear k0 k1 k2 k3 k4 k5 k6 k7 hun
      obtain ⟨k0, k1, k2, k3, k4, k5, k6, k7⟩ := hS.cells8 0)
   | (go_at_call 36
      (with_reducible refine (HDT.out _).mono ?_)
      rintro e w2 ⟨rfl, hun⟩
      replace hS := hS.toN hun
      clear k0 k1 k2 k3 k4 k5 k6 k7 hun
      obtain ⟨k0, k1, k2, k3, k4, k5, k6, k7⟩ := hS.cells8 0)
   | (go_at_call 28
      (with_reducible refine (H5.out _).mono ?_)
      rintro e w2 ⟨rfl, hun⟩
      replace hS := hS.toN hun
      clear k0 k1 k2 k3 k4 k5 k6 k7 hun
      obtain ⟨k0, k1, k2, k3, k4, k5, k6, k7⟩ := hS.cells8 0)
   | (go_at_call 27
      (with_reducible refine (HSA.out _).mono ?_)
      rintro e w2 ⟨rfl, hun⟩
      replace hS := hS.toN hun
      clear k0 k1 k2 k3 k4 k5 k6 k7 hun
      obtain ⟨k0, k1, k2, k3, k4, k5, k6, k7⟩ := hS.cells8 0))
  go_ret2
  exact ⟨rfl, hS.lt.u⟩
 simp only [if_true] at HNM HDT
 have zd := zd3 rfl
 have s1 : ¬ 9223372036854775807 < x1.size + x5.size := by omega
 have s2 : x1.size + x5.size ≤ 9223372036854775807 := by omega
 have s3 : ¬ 9223372036854775807 < xa.size + x2.size := by omega
 have s4 : xa.size + x2.size ≤ 9223372036854775807 := by omega
 have s5 : ¬ 9223372036854775807 < (xa ++ x2).size + x3.size := by rw [ByteArray.size_append]; omega
 have s6 : (xa ++ x2).size + x3.size ≤ 9223372036854775807 := by rw [ByteArray.size_append]; omega
 have s7 : ¬ 9223372036854775807 < L1.size + ((xa ++ x2) ++ x3).size := by rw [ByteArray.size_append, ByteArray.size_append]; omega
 have s8 : L1.size + ((xa ++ x2) ++ x3).size ≤ 9223372036854775807 := by rw [ByteArray.size_append, ByteArray.size_append]; omega
 have zL2 : (L1 ++ ((xa ++ x2) ++ x3)).size ≤ 10200000 := by rw [ByteArray.size_append, ByteArray.size_append, ByteArray.size_append]; omega
 obtain ⟨nb, hnb⟩ : ∃ z, nx.isEmpty = z := ⟨_, rfl⟩
 have he : nx.toList.isEmpty = nb := (isE_toList nx).trans hnb
 rw [hnb] at HOK HL
 clear hnb
 obtain ⟨L2, hL2⟩ : ∃ z, L1 ++ ((xa ++ x2) ++ x3) = z := ⟨_, rfl⟩
 have HL2 := Aside0.mk hL2
 obtain ⟨L3, hL3⟩ : ∃ z, (if nb then L2 else L2 ++ x4) = z := ⟨_, rfl⟩
 have HL3 := Aside0.mk hL3
 rw [hL2] at zL2
 clear hL2 hL3
 go_upto_if 57 with (first
  | (go_at_call 26
     (with_reducible refine (HID.out _ hS.lt.u).mono ?_)
     rintro e w2 ⟨rfl, hun⟩
     replace hS := hS.toN hun
     clear k0 k1 k2 k3 k4 k5 k6 k7 hun
     obtain ⟨k0, k1, k2, k3, k4, k5, k6, k7⟩ := hS.cells8 0)
  | (go_at_call 15
     (with_reducible refine (HNM.out _ hS.lt.u).mono ?_)
     rintro e w2 ⟨rfl, hun⟩
     replace hS := hS.toN hun
     clear k0 k1 k2 k3 k4 k5 k6 k7 hun
     obtain ⟨k0, k1, k2, k3, k4, k5, k6, k7⟩ := hS.cells8 0)
  | (go_at_call 36
     (with_reducible refine (HDT.out _).mono ?_)
     rintro e w2 ⟨rfl, hun⟩
     replace hS := hS.toN hun
     clear k0 k1 k2 k3 k4 k5 k6 k7 hun
     obtain ⟨k0, k1, k2, k3, k4, k5, k6, k7⟩ := hS.cells8 0)
  | (go_at_call 28
     (with_reducible refine (H5.out _).mono ?_)
     rintro e w2 ⟨rfl, hun⟩
     replace hS := hS.toN hun
     clear k0 k1 k2 k3 k4 k5 k6 k7 hun
     obtain ⟨k0, k1, k2, k3, k4, k5, k6, k7⟩ := hS.cells8 0)
  | (go_at_call 27
     (with_reducible refine (HSA.out _).mono ?_)
     rintro e w2 ⟨rfl, hun⟩
     replace hS := hS.toN hun
     clear k0 k1 k2 k3 k4 k5 k6 k7 hun
     obtain ⟨k0, k1, k2, k3, k4, k5, k6, k7⟩ := hS.cells8 0))
 go_cut [4] (fun v4 wc => v4 = .string L3 ∧ Aside0 (nb = true ∨ ok4 = true) ∧ Aside0 (Sp w None0 [blk ga #[.bool v2, .slice A1 n1 c1, .slice A2 n2 c2, .string th, .string nx, .slice A5 n5 c5, .slice A6 n6 c6, .string sg] 27] wc))
 case first =>
  cases nb
  ·
   cases ok4
   ·
    obtain ⟨rfl, rfl⟩ := NO HOK.out zz43
    clear NO
    go_wp2_with (first
     | (go_at_call 36
        (with_reducible refine (HNX.out _).mono ?_)
        rintro e w2 ⟨rfl, hun⟩
        replace hS := hS.toN hun))
    go_ret2
    exact ⟨rfl, hS.lt.u⟩
   ·
    have hl2 := HL2.out
    simp only [if_true] at HNX
    have zd4b := zd4 rfl
    rw [hl2]
    have t1 : ¬ 9223372036854775807 < L2.size + x4.size := by omega
    have t2 : L2.size + x4.size ≤ 9223372036854775807 := by omega
    clear hl2 zd4b
    go_wp2_with (first
     | (go_at_call 36
        (with_reducible refine (HNX.out _).mono ?_)
        rintro e w2 ⟨rfl, hun⟩
        replace hS := hS.toN hun))
    go_meet
    exact ⟨by rw [← HL3.out]; rfl, ⟨zz43⟩, ⟨by exact hS.lt⟩⟩
  ·
   have hl2 := HL2.out
   rw [hl2]
   clear hl2
   go_wp2
   go_meet
   exact ⟨by rw [← HL3.out]; rfl, ⟨zz43⟩, ⟨by exact hS.lt⟩⟩
 clear hS k0 k1 k2 k3 k4 k5 k6 k7 he s1 s2 s3 s4 s5 s6 s7 s8
 obtain ⟨rfl, HN4, HS⟩ := hcut
 have hS := HS.out
 clear HS
 have zL3 : L3.size ≤ 10200030 := by
  rw [← HL3.out]
  split
  ·
   omega
  ·
   rename_i h
   have := zd4 (HN4.out.resolve_left h)
   rw [ByteArray.size_append]; omega
 obtain ⟨k0, k1, k2, k3, k4, k5, k6, k7⟩ := hS.cells8 0
 obtain ⟨hx, hhx⟩ : ∃ z, decide (0 < n6) = z := ⟨_, rfl⟩
 have hhx2 : decide ((0 : Int) < (n6 : Int)) = hx := by rw [← hhx]; exact decide_eq_decide.2 zz7
 rw [hhx] at HHAS
 have HHX := Aside0.mk hhx
 have hn60 : (0 : Int) ≤ (n6 : Int) := by omega
 go_wp2
 go_loopg [11, 12, 13] n5 (fun gk v11 v12 v13 wr => ∃ (i : Nat), v11 = .string (cat ((ents.take i).map entx)) ∧ v12 = .bool (hx || (ents.take i).any (fun x => decide (0 < x.f2.length))) ∧ v13 = .int .i64 (i : Int) ∧ Aside0 (i ≤ n5 ∧ n5 - i ≤ gk) ∧ Aside0 ((ents.take i).all entOk = true) ∧ Aside0 (Sp w None0 [blk ga #[.bool v2, .slice A1 n1 c1, .slice A2 n2 c2, .string th, .string nx, .slice A5 n5 c5, .slice A6 n6 c6, .string sg] 27] wr))
 case atStart => exact ⟨0, rfl, zz43, rfl, ⟨Nat.zero_le _, zz7⟩, ⟨rfl⟩, ⟨hS.lt⟩⟩
 case round =>
  clear hS k0 k1 k2 k3 k4 k5 k6 k7 hhx hhx2 hn60
  obtain ⟨i, rfl, rfl, rfl, HI, HA, HS⟩ := hrel
  have hS := HS.out
  clear HS
  obtain ⟨k0, k1, k2, k3, k4, k5, k6, k7⟩ := hS.cells8 0
  have hi00 : (0 : Int) ≤ (i : Int) := by omega
  have hzc : (cat ((ents.take i).map entx)).size ≤ 3020014 * 20 := cat_les entx 3020014 20 ents (fun x hx => entx_size x (HP.out.ents x hx)) i (by have := HI.out.1; have := HN.out.1; omega)
  by_cases hlt : i < n5
  ·
   have hd : decide (i < n5) = true := decide_eq_true hlt
   have hil : i < ents.length := by rw [HN5.out]; exact hlt
   have hxi := rd_some ents i z34 hil
   have hm5 : k34.C w A5 n5 ents := by have := HM.out.m5; dsimp only at this; rw [HN5.out] at this; exact this
   obtain ⟨ad, A0, c0, rfl, h0, h1, h2, hl0, hi0⟩ := at_T34 hm5 (i : Int) zz7 zz7
   replace h0 := up_cell hS.u h0
   replace h1 := up_cell hS.u h1
   replace h2 := up_cell hS.u h2
   rw [Int.toNat_natCast] at h0 h1 h2
   obtain ⟨x, hx_⟩ : ∃ x, rd_T34 ents (i : Int) = x := ⟨_, rfl⟩
   have hxx : ents[i]? = some x := hx_ ▸ hxi
   rw [hx_] at h0 h1 h2 hl0 hi0
   have hxP := HP.out.ents x (List.mem_of_getElem? hxx)
   have HEN := Aside0.mk (fun (W : World) (h : Upd None0 w W) => rentry_any A0 c0 x W (Kd.C_below hi0 h.below0) hl0 hxP)
   have HCT := Aside0.mk (cat_takes entx entx ents i x hxx rfl)
   have HAT := Aside0.mk (any_take (fun x : S34 => decide (0 < x.f2.length)) ents i x hxx)
   have HALL := Aside0.mk (show entOk x = true → (ents.take (i + 1)).all entOk = true from fun h => by rw [List.take_add_one, hxx, Option.toList_some, List.all_append, HA.out]; simp [h])
   have HNO := Aside0.mk (show entOk x = false → entsOk ents = false from fun h => by
    unfold entsOk
    rw [← Bool.not_eq_true, List.all_eq_true]
    intro hall
    have := hall x (List.mem_of_getElem? hxx)
    rw [h] at this
    cases this)
   have hzx := entx_size x hxP
   have hw1 : IntKind.i64.wrap ((i : Int) + 1) = ((i + 1 : Nat) : Int) := by have := HN.out.1; rw [IntKind.wrap_i64]; omega
   have hlti : (i : Int) < (n5 : Int) := by omega
   obtain ⟨m, hm⟩ : ∃ m, x.f2.length = m := ⟨_, rfl⟩
   rw [hm] at h2 HEN
   obtain ⟨ok, hok⟩ : ∃ b, entOk x = b := ⟨_, rfl⟩
   obtain ⟨y, hy⟩ : ∃ b, entx x = b := ⟨_, rfl⟩
   rw [hok] at HEN HALL HNO
   rw [hy] at HEN HCT hzx
   have hat2 := HAT.out
   rw [hm] at hat2
   obtain ⟨mb, hmb⟩ : ∃ b, decide (0 < m) = b := ⟨_, rfl⟩
   have hmb2 : decide ((0 : Int) < (m : Int)) = mb := by rw [← hmb]; exact decide_eq_decide.2 zz7
   rw [hmb] at hat2
   obtain ⟨C, hCC⟩ : ∃ y, cat ((ents.take i).map entx) = y := ⟨_, rfl⟩
   rw [hCC] at HCT hzc ⊢
   obtain ⟨B, hB⟩ : ∃ y, (ents.take i).any (fun x => decide (0 < x.f2.length)) = y := ⟨_, rfl⟩
   rw [hB] at hat2 ⊢
   have t1 : ¬ 9223372036854775807 < C.size + y.size := by omega
   have t2 : C.size + y.size ≤ 9223372036854775807 := by omega
   have HAT2 := Aside0.mk hat2
   obtain ⟨xs, xd, xe⟩ := x
   dsimp only at h0 h1 h2 HEN
   have HK := Aside0.mk (And.intro h0 (And.intro h1 h2))
   obtain ⟨BB, hBB⟩ : ∃ y, (hx || B) = y := ⟨_, rfl⟩
   have HBB := Aside0.mk hBB
   rw [hBB]
   clear hil hxi hx_ hxx hxP hi0 hl0 hm hok hy hCC hB hm5 hzx hzc hat2 HAT hBB
   cases ok
   ·
    obtain ⟨rfl, rfl⟩ := NO HOK.out (by rw [HNO.out rfl]; simp)
    clear NO
    go_wp2_with (first
     | (go_at_call 37
        (with_reducible refine (HEN.out _ hS.lt.u).mono ?_)
        rintro e w2 ⟨rfl, hun⟩
        replace hS := hS.toN hun))
    go_ret2
    exact ⟨rfl, hS.lt.u⟩
   ·
    cases BB
    all_goals
     go_wp2_with (first
      | (go_at_call 37
         (with_reducible refine (HEN.out _ hS.lt.u).mono ?_)
         rintro e w2 ⟨rfl, hun⟩
         replace hS := hS.toN hun
         clear k0 k1 k2 k3 k4 k5 k6 k7 h0 h1 h2
         have h0 := up_cell hun HK.out.1
         have h1 := up_cell hun HK.out.2.1
         have h2 := up_cell hun HK.out.2.2
         clear hun
         obtain ⟨k0, k1, k2, k3, k4, k5, k6, k7⟩ := hS.cells8 0))
     go_roundg (gk - 1)
     case measure => have := HI.out.2; omega
     case rel =>
      refine ⟨i + 1, by rw [HCT.out], ?_, rfl, ⟨zz7, by have := HI.out.2; omega⟩, ⟨by have := HALL.out; simpa using this⟩, ⟨hS.lt⟩⟩
      rw [← HAT2.out, ← Bool.or_assoc, HBB.out]
      first | rfl | simp
  ·
   have hd : decide (i < n5) = false := decide_eq_false hlt
   have hil : ents.take i = ents := List.take_of_length_le (by have := HI.out.1; rw [HN5.out]; omega)
   have hall := HA.out
   rw [hil] at hall hzc ⊢
   have hhas := HHAS.out
   have hX : hasX ents = ents.any (fun x => decide (0 < x.f2.length)) := rfl
   rw [← hX, ← hhas]
   obtain ⟨hb, hhb⟩ : ∃ z, tbsHas (CR.mk v2 alg iss th nx ents exts sg) = z := ⟨_, rfl⟩
   rw [hhb]
   have HHB := Aside0.mk hhb
   have hok : tbsOk (CR.mk v2 alg iss th nx ents exts sg) = (decide (n6 = 0) || ok6) := by
    rw [HOK.out, show entsOk ents = true from hall]
    have := HN4.out
    cases nb <;> cases ok4 <;> simp at this ⊢
   have HOK2 := Aside0.mk hok
   obtain ⟨C, hCC⟩ : ∃ y, cat (ents.map entx) = y := ⟨_, rfl⟩
   rw [hCC] at HSE ⊢
   obtain ⟨L4, hL4⟩ : ∃ z, (if n5 = 0 then L3 else L3 ++ xE) = z := ⟨_, rfl⟩
   have HL4 := Aside0.mk hL4
   obtain ⟨L5, hL5⟩ : ∃ z, (if n6 = 0 then L4 else L4 ++ xX) = z := ⟨_, rfl⟩
   have HL5 := Aside0.mk hL5
   have zL4 : L4.size ≤ 70700000 := by rw [← hL4]; split; omega; rw [ByteArray.size_append]; omega
   have zL5 : L5.size ≤ 80000000 := by rw [← hL5]; split; omega; rw [ByteArray.size_append]; omega
   have t1 : ¬ 9223372036854775807 < L3.size + xE.size := by omega
   have t2 : L3.size + xE.size ≤ 9223372036854775807 := by omega
   have t3 : ¬ 9223372036854775807 < L4.size + xX.size := by omega
   have t4 : L4.size + xX.size ≤ 9223372036854775807 := by omega
   have hcat : cat (tbsl (CR.mk v2 alg iss th nx ents exts sg)) = L5 := by
    rw [HL.out, cat_append, cat_append, cat_append, cat_append, ← HL5.out, ← HL4.out, ← HL3.out, ← HL2.out, ← HL1.out]
    by_cases h5 : n5 = 0 <;> by_cases h6 : n6 = 0 <;> cases v2 <;> cases nb <;> simp [cat, h5, h6, ByteArray.append_assoc]
   have HCAT := Aside0.mk hcat
   have hn50 : (0 : Int) ≤ (n5 : Int) := by omega
   have hn60 : (0 : Int) ≤ (n6 : Int) := by omega
   have HZ5 := Aside0.mk zL5
   clear hil hall hhas hX hhb hok hCC hL4 hL5 hcat hzc hlt
   go_upto_if 108 with (fail)
   go_cut [4] (fun v4 wc => v4 = .string L4 ∧ Aside0 (Sp w None0 [blk ga #[.bool v2, .slice A1 n1 c1, .slice A2 n2 c2, .string th, .string nx, .slice A5 n5 c5, .slice A6 n6 c6, .string sg] 27] wc))
   case first =>
    by_cases h5 : n5 = 0
    ·
     have d1 : decide (0 < n5) = false := decide_eq_false zz7
     have d2 : decide ((0 : Int) < (n5 : Int)) = false := decide_eq_false zz7
     have HH := Aside0.mk h5
     clear h5
     rw [d1]
     go_wp2
     go_meet
     exact ⟨by rw [← HL4.out, if_pos HH.out], ⟨by exact hS.lt⟩⟩
    ·
     have d1 : decide (0 < n5) = true := decide_eq_true zz7
     have d2 : decide ((0 : Int) < (n5 : Int)) = true := decide_eq_true zz7
     have HH := Aside0.mk h5
     clear h5
     rw [d1]
     go_wp2_with (first
      | (go_at_call 27
         (with_reducible refine (HSE.out _).mono ?_)
         rintro e w2 ⟨rfl, hun⟩
         replace hS := hS.toN hun))
     go_meet
     exact ⟨by rw [← HL4.out, if_neg HH.out], ⟨by exact hS.lt⟩⟩
   clear hS k0 k1 k2 k3 k4 k5 k6 k7 hd hn50
   obtain ⟨rfl, HS⟩ := hcut
   have hS := HS.out
   clear HS
   obtain ⟨k0, k1, k2, k3, k4, k5, k6, k7⟩ := hS.cells8 0
   go_upto_if 116 with (fail)
   go_cut [4] (fun v4 wc => v4 = .string L5 ∧ Aside0 (n6 = 0 ∨ ok6 = true) ∧ Aside0 (Sp w None0 [blk ga #[.bool v2, .slice A1 n1 c1, .slice A2 n2 c2, .string th, .string nx, .slice A5 n5 c5, .slice A6 n6 c6, .string sg] 27] wc))
   case first =>
    by_cases h6 : n6 = 0
    ·
     have d1 : decide (0 < n6) = false := decide_eq_false zz7
     have d2 : decide ((0 : Int) < (n6 : Int)) = false := decide_eq_false zz7
     have HH := Aside0.mk h6
     clear h6
     rw [d1]
     go_wp2
     go_meet
     exact ⟨by rw [← HL5.out, if_pos HH.out], ⟨.inl HH.out⟩, ⟨by exact hS.lt⟩⟩
    ·
     have d1 : decide (0 < n6) = true := decide_eq_true zz7
     have d2 : decide ((0 : Int) < (n6 : Int)) = true := decide_eq_true zz7
     have HH := Aside0.mk h6
     rw [d1]
     cases ok6
     ·
      obtain ⟨rfl, rfl⟩ := NO HOK2.out (by rw [decide_eq_false h6]; rfl)
      clear NO h6
      go_wp2_with (first
       | (go_at_call 17
          (with_reducible refine (HXT.out _ hS.lt.u).mono ?_)
          rintro e w2 ⟨rfl, hun⟩
          replace hS := hS.toN hun))
      go_ret2
      exact ⟨rfl, hS.lt.u⟩
     ·
      simp only [if_true] at HXT
      clear h6
      go_wp2_with (first
       | (go_at_call 17
          (with_reducible refine (HXT.out _ hS.lt.u).mono ?_)
          rintro e w2 ⟨rfl, hun⟩
          replace hS := hS.toN hun)
       | (go_at_call 19
          (with_reducible refine (HCX.out _).mono ?_)
          rintro e w3 ⟨rfl, hun⟩
          replace hS := hS.toN hun))
      go_meet
      exact ⟨by rw [← HL5.out, if_neg HH.out], ⟨zz43⟩, ⟨by exact hS.lt⟩⟩
   clear hS k0 k1 k2 k3 k4 k5 k6 k7
   obtain ⟨rfl, H6, HS⟩ := hcut
   have hS := HS.out
   clear HS
   obtain ⟨k0, k1, k2, k3, k4, k5, k6, k7⟩ := hS.cells8 0
   have hyes : tbsOk (CR.mk v2 alg iss th nx ents exts sg) = true := by
    rw [HOK2.out]
    rcases H6.out with h | h
    ·
     rw [decide_eq_true h]; rfl
    ·
     rw [h]; simp
   have HE2 := Aside0.mk (show EE = (if hb && !v2 then 8 else 0) ∧ RR = if EE = 0 then elb 0 16 true L5 else ByteArray.empty from ⟨by rw [HE.out.1, hyes, HHB.out]; rfl, by rw [HE.out.2, HB.out, HCAT.out]⟩)
   have HSQ := Aside0.mk (fun (W : World) => rseq_ok L5 W (by have := HZ5.out; omega))
   obtain ⟨Y, hY⟩ : ∃ z, elb 0 16 true L5 = z := ⟨_, rfl⟩
   rw [hY] at HSQ HE2
   clear hyes hY t1 t2 t3 t4 zL4 zL5 zL3 zL2
   cases hb <;> cases v2
   all_goals
    obtain ⟨e1, e2⟩ := HE2.out
    simp only [Bool.false_and, Bool.true_and, Bool.not_true, Bool.not_false, Bool.false_eq_true, if_false, if_true] at e1
    subst e1
    simp only [if_true, Int.reduceEq, if_false] at e2
    subst e2
    clear HE2
    go_wp2_with (first
     | (go_at_call 27
        (with_reducible refine (HSQ.out _).mono ?_)
        rintro e w2 ⟨rfl, hun⟩
        replace hS := hS.toN hun))
    go_ret2
    exact ⟨rfl, hS.lt.u⟩
end Go.Proofs.Ytgddaddoabjgiaa.At
namespace Go.Proofs.Ytgddaddoabjgiaa.At
open RowKit YtgddaddoabjgiaaW.PrintWords YtgddaddoabjgiaaW.PrintLast YtgddaddoabjgiaaW.PrintMore Own Sl Bs El Wr Oid Oidm Kn Cn Srt
set_option linter.unusedVariables false
set_option linter.unusedSimpArgs false
theorem end_bad (g : Nat) (parts : List ByteArray) (w : World) (S : Nat → Prop) (h : Hs w S [wr g parts true]) :
 Calls Try.prog 33 #[.pointer (some ⟨g, 0, none⟩), .int .i64 16] w fun e w' => e = .returned (.tuple #[.string ByteArray.empty, .bool false]) ∧ w = w' := by
 obtain ⟨A, c, hS⟩ := wr_open h
 obtain ⟨hc0, hc1⟩ := hS.cells2 0
 clear h
 go_enter Try.func33, Try.ntmps33
 go_wp2
 go_ret2
 exact ⟨rfl, rfl⟩
set_option maxHeartbeats 8000000 in
set_option maxRecDepth 100000 in
theorem tbs_any (c : CR) (a : CA) (w : World) (hM : CrM w c a) (hP : CrP c) :
 Calls Try.prog 12 #[.agg (crc c a)] w fun e w' => e = .returned (.tuple #[.string (tbsR c), .int .i64 (tbsE c)]) ∧ Upd None0 w w' := by
 have hu := Try.underlying27
 have hu2 := Try.underlying34
 have hu3 := Try.underlying39
 have hu4 := Try.underlying62
 have hS := Sp.nil (w := w) (S := None0)
 have HNU := Aside0.mk (fun W => number_one W)
 have H0 := Aside0.mk (fun W => leaf_any 2 ⟨#[1]⟩ W zz13)
 rw [leafb_ok _ zz13] at H0
 have HAL := Aside0.mk (fun (W : World) (h : Upd None0 w W) => alg_any a.A1 a.c1 c.alg c.v2 a.A2 a.A5 a.A6 c.iss.length a.c2 c.ents.length a.c5 c.exts.length a.c6 c.this c.next c.sg W (hM.up h).m1 hM.l1 hP.alg)
 have HNM := Aside0.mk (fun (W : World) (h : Upd None0 w W) => name_any a.A2 a.c2 c.iss W (hM.up h).m2 hM.l2 hP.iss hP.issl)
 have HDT := Aside0.mk (fun (W : World) => date_any c.this W)
 have HNX := Aside0.mk (fun (W : World) => date_any c.next W)
 have HEN := Aside0.mk (fun (W : World) (h : Upd None0 w W) => entries_any a.A5 a.c5 c.ents W (hM.up h).m5 hM.l5 hP.ents hP.entsl)
 have HXT := Aside0.mk (fun (W : World) (h : Upd None0 w W) => exts_any a.A6 a.c6 c.exts W (hM.up h).m6 hM.l6 hP.exts hP.extsl)
 have HCO := Aside0.mk (fun (W : World) (h : Upd None0 w W) => contains_any a.A5 a.c5 c.ents W (hM.up h).m5 hP.entsl)
 have z2 := nameb_size c.iss hP.issl hP.iss
 have z0 : (elb 0 2 false ⟨#[1]⟩).size ≤ 15 := (elb_size (c := 0) (t := 2) false (s := ⟨#[1]⟩) ⟨zz13, zz13, zz13, zz13⟩ zz13).2
 have za := algb_size c.alg hP.alg
 have z6 := extsb_size c.exts hP.extsl hP.exts
 have zeb := entsb_size c.ents hP.entsl hP.ents
 have z3 := datx_size c.this
 have z4 := datx_size c.next
 have HCX := Aside0.mk (fun (W : World) => elem_ok (c := 2) (t := 0) true 0 (if extsOk c.exts then extsb c.exts else ByteArray.empty) W ⟨zz13, zz13, zz13, zz13⟩ (by split; omega; exact Nat.zero_le _))
 have zx := (elb_size (c := 2) (t := 0) true (s := if extsOk c.exts then extsb c.exts else ByteArray.empty) ⟨zz13, zz13, zz13, zz13⟩ (by split; omega; exact Nat.zero_le _)).2
 have zx2 : (if extsOk c.exts then extsb c.exts else ByteArray.empty).size ≤ 3010014 := by split; omega; exact Nat.zero_le _
 have zpa : (if oidOk c.alg then algb c.alg else ByteArray.empty).size ≤ 21000 := by split; omega; exact Nat.zero_le _
 have zpn : (if nameOk c.iss then nameb c.iss else ByteArray.empty).size ≤ 10100000 := by split; omega; exact Nat.zero_le _
 have zpe : (if entsOk c.ents then entsb c.ents else ByteArray.empty).size ≤ 60400300 := by split; omega; exact Nat.zero_le _
 have HM := Aside0.mk hM
 have HP := Aside0.mk hP
 clear hM hP
 have HTE : tbsE c = if tbsOk c then (if tbsHas c && !c.v2 then 8 else 0) else 7 := rfl
 have HTR : tbsR c = if tbsE c = 0 then elb 0 16 true (cat (tbsl c)) else ByteArray.empty := rfl
 have HTL : tbsOk c = true → tbsl c = (if c.v2 then [elb 0 2 false ⟨#[1]⟩] else []) ++ [if oidOk c.alg then algb c.alg else ByteArray.empty, if nameOk c.iss then nameb c.iss else ByteArray.empty, datx c.this] ++ (if c.next.isEmpty then [] else [datx c.next]) ++ (if c.ents.length = 0 then [] else [if entsOk c.ents then entsb c.ents else ByteArray.empty]) ++ (if c.exts.length = 0 then [] else [elb 2 0 true (if extsOk c.exts then extsb c.exts else ByteArray.empty)]) := by
  intro h
  unfold tbsOk at h
  simp only [Bool.and_eq_true, Bool.or_eq_true, decide_eq_true_eq] at h
  obtain ⟨⟨⟨⟨⟨h1, h2⟩, h3⟩, h4⟩, h5⟩, h6⟩ := h
  unfold tbsl datx
  rw [h1, h2, h3, h5]
  simp only [if_true]
  by_cases hn : c.next.isEmpty = true
  ·
   rw [if_pos hn, if_pos hn]
   by_cases hx : c.exts.length = 0
   ·
    rw [if_pos hx, if_pos hx]
   ·
    rw [if_neg hx, if_neg hx, h6.resolve_left hx]; rfl
  ·
   rw [if_neg hn, if_neg hn, h4.resolve_left hn]
   by_cases hx : c.exts.length = 0
   ·
    rw [if_pos hx, if_pos hx]; rfl
   ·
    rw [if_neg hx, if_neg hx, h6.resolve_left hx]; rfl
 have HTO : tbsOk c = (oidOk c.alg && nameOk c.iss && datOk c.this && (c.next.isEmpty || datOk c.next) && (decide (c.ents.length = 0) || entsOk c.ents) && (decide (c.exts.length = 0) || extsOk c.exts)) := by
  unfold tbsOk
  by_cases h5 : c.ents.length = 0
  ·
   have e : entsOk c.ents = true := by rw [List.eq_nil_of_length_eq_zero h5]; rfl
   rw [e, decide_eq_true h5]; rfl
  ·
   rw [decide_eq_false h5]; rfl
 have HTH : tbsHas c = (decide (0 < c.exts.length) || hasX c.ents) := rfl
 have hcr : crc c a = #[.bool c.v2, .slice a.A1 c.alg.length a.c1, .slice a.A2 c.iss.length a.c2, .string c.this, .string c.next, .slice a.A5 c.ents.length a.c5, .slice a.A6 c.exts.length a.c6, .string c.sg] := rfl
 rw [hcr]
 obtain ⟨EE, hEE⟩ : ∃ z, tbsE c = z := ⟨_, rfl⟩
 obtain ⟨RR, hRR⟩ : ∃ z, tbsR c = z := ⟨_, rfl⟩
 obtain ⟨TL, hTL⟩ : ∃ z, tbsl c = z := ⟨_, rfl⟩
 obtain ⟨TO, hTO⟩ : ∃ z, tbsOk c = z := ⟨_, rfl⟩
 obtain ⟨TH, hTH⟩ : ∃ z, tbsHas c = z := ⟨_, rfl⟩
 rw [hEE, hRR]
 rw [hEE, hTO, hTH] at HTE
 rw [hEE, hRR, hTL] at HTR
 rw [hTL, hTO] at HTL
 rw [hTO] at HTO
 rw [hTH] at HTH
 obtain ⟨n1, hn1⟩ : ∃ z, c.alg.length = z := ⟨_, rfl⟩
 obtain ⟨n2, hn2⟩ : ∃ z, c.iss.length = z := ⟨_, rfl⟩
 obtain ⟨n5, hn5⟩ : ∃ z, c.ents.length = z := ⟨_, rfl⟩
 obtain ⟨n6, hn6⟩ : ∃ z, c.exts.length = z := ⟨_, rfl⟩
 rw [hn1, hn2, hn5, hn6] at HAL ⊢
 rw [hn2] at HNM
 rw [hn5] at HEN HCO HTL HTO
 rw [hn6] at HXT HTL HTO HTH
 clear hcr hEE hRR hTL hTO hTH hn1 hn2 hn5 hn6
 obtain ⟨A1, c1, A2, c2, A5, c5, A6, c6⟩ := a
 obtain ⟨v2, alg, iss, th, nx, ents, exts, sg⟩ := c
 dsimp only at *
 obtain ⟨ok1, hk1⟩ : ∃ z, oidOk alg = z := ⟨_, rfl⟩
 obtain ⟨ok2, hk2⟩ : ∃ z, nameOk iss = z := ⟨_, rfl⟩
 obtain ⟨ok3, hk3⟩ : ∃ z, datOk th = z := ⟨_, rfl⟩
 obtain ⟨ok4, hk4⟩ : ∃ z, datOk nx = z := ⟨_, rfl⟩
 obtain ⟨ok5, hk5⟩ : ∃ z, entsOk ents = z := ⟨_, rfl⟩
 obtain ⟨ok6, hk6⟩ : ∃ z, extsOk exts = z := ⟨_, rfl⟩
 obtain ⟨hx, hhx⟩ : ∃ z, hasX ents = z := ⟨_, rfl⟩
 rw [hk1] at HAL HTO HTL zpa
 rw [hk2] at HNM HTO HTL zpn
 rw [hk3] at HDT HTO
 rw [hk4] at HNX HTO
 rw [hk5] at HEN HTO HTL zpe
 rw [hk6] at HXT HTO HTL HCX zx zx2
 rw [hhx] at HCO HTH
 obtain ⟨x0, hx0⟩ : ∃ z, elb 0 2 false (⟨#[1]⟩ : ByteArray) = z := ⟨_, rfl⟩
 obtain ⟨pa, hpa⟩ : ∃ z, (if ok1 then algb alg else ByteArray.empty) = z := ⟨_, rfl⟩
 obtain ⟨pn, hpn⟩ : ∃ z, (if ok2 then nameb iss else ByteArray.empty) = z := ⟨_, rfl⟩
 obtain ⟨pd, hpd⟩ : ∃ z, datx th = z := ⟨_, rfl⟩
 obtain ⟨px, hpx⟩ : ∃ z, datx nx = z := ⟨_, rfl⟩
 obtain ⟨pe, hpe⟩ : ∃ z, (if ok5 then entsb ents else ByteArray.empty) = z := ⟨_, rfl⟩
 obtain ⟨p6, hp6⟩ : ∃ z, (if ok6 then extsb exts else ByteArray.empty) = z := ⟨_, rfl⟩
 rw [hx0] at H0 HTL z0
 rw [hpa] at HAL HTL zpa
 rw [hpn] at HNM HTL zpn
 rw [hpd] at HDT HTL z3
 rw [hpx] at HNX HTL z4
 rw [hpe] at HEN HTL zpe
 rw [hp6] at HXT HCX HTL zx zx2
 obtain ⟨pX, hpX⟩ : ∃ z, elb 2 0 true p6 = z := ⟨_, rfl⟩
 rw [hpX] at HCX HTL zx
 obtain ⟨nb, hnb⟩ : ∃ z, nx.isEmpty = z := ⟨_, rfl⟩
 have he : nx.toList.isEmpty = nb := (isE_toList nx).trans hnb
 rw [hnb] at HTO HTL
 clear hk1 hk2 hk3 hk4 hk5 hk6 hhx hx0 hpa hpn hpd hpx hpe hp6 hpX hnb
 have HZ := Aside0.mk (show (TO = true → (cat TL).size ≤ 90000000) from fun h => by
  rw [HTL h, cat_append, cat_append, cat_append, cat_append, ByteArray.size_append, ByteArray.size_append, ByteArray.size_append, ByteArray.size_append]
  have a1 : (cat (if v2 = true then [x0] else [])).size ≤ 15 := by split; simp [cat]; omega; simp [cat]
  have a2 : (cat [pa, pn, pd]).size ≤ 10200000 := by rw [cat_count]; simp only [List.map_cons, List.map_nil, List.sum_cons, List.sum_nil]; omega
  have a3 : (cat (if nb = true then [] else [px])).size ≤ 29 := by split; simp [cat]; simp [cat]; omega
  have a4 : (cat (if n5 = 0 then [] else [pe])).size ≤ 60400300 := by split; simp [cat]; simp [cat]; omega
  have a5 : (cat (if n6 = 0 then [] else [pX])).size ≤ 3010100 := by split; simp [cat]; simp [cat]; omega
  omega)
 have HT := Aside0.mk (And.intro HTE (And.intro HTR (And.intro HTL (And.intro HTO HTH))))
 clear HTE HTR HTL HTO HTH z0 za z2 z3 z4 z6 zeb zx zx2 zpa zpn zpe
 obtain ⟨L1, hL1⟩ : ∃ z, (if v2 then [x0] else []) = z := ⟨_, rfl⟩
 obtain ⟨L2, hL2⟩ : ∃ z, L1 ++ [pa, pn, pd] = z := ⟨_, rfl⟩
 obtain ⟨B2, hB2⟩ : ∃ z, (((false || !ok1) || !ok2) || !ok3) = z := ⟨_, rfl⟩
 obtain ⟨L3, hL3⟩ : ∃ z, L2 ++ (if nb then [] else [px]) = z := ⟨_, rfl⟩
 obtain ⟨B3, hB3⟩ : ∃ z, (B2 || (!nb && !ok4)) = z := ⟨_, rfl⟩
 obtain ⟨L4, hL4⟩ : ∃ z, L3 ++ (if n5 = 0 then [] else [pe]) = z := ⟨_, rfl⟩
 obtain ⟨B4, hB4⟩ : ∃ z, (B3 || (!decide (n5 = 0) && !ok5)) = z := ⟨_, rfl⟩
 obtain ⟨L5, hL5⟩ : ∃ z, L4 ++ (if n6 = 0 then [] else [pX]) = z := ⟨_, rfl⟩
 obtain ⟨B5, hB5⟩ : ∃ z, (B4 || (!decide (n6 = 0) && !ok6)) = z := ⟨_, rfl⟩
 have zl1 : L1.length ≤ 1 := by rw [← hL1]; split <;> simp
 have zl2 : L2.length ≤ 4 := by rw [← hL2, List.length_append]; simp; omega
 have zl3 : L3.length ≤ 5 := by rw [← hL3, List.length_append]; split <;> simp <;> omega
 have zl4 : L4.length ≤ 6 := by rw [← hL4, List.length_append]; split <;> simp <;> omega
 have zl5 : L5.length ≤ 7 := by rw [← hL5, List.length_append]; split <;> simp <;> omega
 have HBO := Aside0.mk (show B5 = !TO by
  rw [HT.out.2.2.2.1, ← hB5, ← hB4, ← hB3, ← hB2]
  cases ok1 <;> cases ok2 <;> cases ok3 <;> cases nb <;> cases ok4 <;> cases ok5 <;> cases ok6 <;> cases decide (n5 = 0) <;> cases decide (n6 = 0) <;> rfl)
 have HLT := Aside0.mk (show TO = true → L5 = TL from fun h => by rw [HT.out.2.2.1 h, ← hL5, ← hL4, ← hL3, ← hL2, ← hL1])
 have HQ1 := Aside0.mk hL1
 have HQ2 := Aside0.mk (And.intro hL2 hB2)
 have HQ3 := Aside0.mk (And.intro hL3 hB3)
 have HQ4 := Aside0.mk (And.intro hL4 hB4)
 have HQ5 := Aside0.mk (And.intro hL5 hB5)
 clear hL1 hL2 hL3 hL4 hL5 hB2 hB3 hB4 hB5
 go_enter Try.func12, Try.ntmps12
 go_upto_if 10 with (first
  | ((with_reducible refine gate_dst (N := 1) rfl ?_)
     refine sp_box hS rfl (N := 1) rfl #[.bool v2, .slice A1 n1 c1, .slice A2 n2 c2, .string th, .string nx, .slice A5 n5 c5, .slice A6 n6 c6, .string sg] 27 zz20 ?_
     intro ga w1 hg1 hS)
  | ((with_reducible refine gate_dst (N := 4) rfl ?_)
     refine sp_box hS rfl (N := 4) rfl #[.slice none 0 0, .bool false] 62 zz20 ?_
     intro gw w2 hg2 hS
     replace hS := wr_new hS
     obtain ⟨k0, k1, k2, k3, k4, k5, k6, k7⟩ := hS.cells8 1))
 go_cut [] (fun wc => Aside0 (Sp w None0 [Wr.wr gw L1 false, blk ga #[.bool v2, .slice A1 n1 c1, .slice A2 n2 c2, .string th, .string nx, .slice A5 n5 c5, .slice A6 n6 c6, .string sg] 27] wc))
 case first =>
  cases v2
  all_goals
   go_wp2_with (first
    | (go_at_call 30
       (with_reducible refine (HNU.out _).mono ?_)
       rintro e w2 ⟨rfl, hun⟩
       replace hS := hS.toN hun)
    | (go_at_call 25
       (with_reducible refine (H0.out _).mono ?_)
       rintro e w2 ⟨rfl, hun⟩
       replace hS := hS.toN hun)
    | (go_at_call 29
       (with_reducible refine (add_any gw _ _ x0 true _ (hS.ft 1) zz55 zz43).mono ?_)
       rintro e w9 ⟨rfl, hq⟩
       replace hS := hS.post1 hq
       clear hq))
   go_meet
   exact ⟨by rw [← HQ1.out]; exact hS.lt⟩
 clear hS k0 k1 k2 k3 k4 k5 k6 k7 HNU H0
 have hS := hcut.out
 clear hcut
 obtain ⟨k0, k1, k2, k3, k4, k5, k6, k7⟩ := hS.cells8 1
 have HA2 := Aside0.mk (show ((L1 ++ [pa]) ++ [pn]) ++ [pd] = L2 by rw [← HQ2.out.1]; simp)
 go_upto_if 33 with (first
  | (go_at_call 22
     (with_reducible refine (HAL.out _ hS.lt.u).mono ?_)
     rintro e w2 ⟨rfl, hun⟩
     replace hS := hS.toN hun
     clear k0 k1 k2 k3 k4 k5 k6 k7 hun
     obtain ⟨k0, k1, k2, k3, k4, k5, k6, k7⟩ := hS.cells8 1)
  | (go_at_call 14
     (with_reducible refine (HNM.out _ hS.lt.u).mono ?_)
     rintro e w2 ⟨rfl, hun⟩
     replace hS := hS.toN hun
     clear k0 k1 k2 k3 k4 k5 k6 k7 hun
     obtain ⟨k0, k1, k2, k3, k4, k5, k6, k7⟩ := hS.cells8 1)
  | (go_at_call 31
     (with_reducible refine (HDT.out _).mono ?_)
     rintro e w2 ⟨rfl, hun⟩
     replace hS := hS.toN hun
     clear k0 k1 k2 k3 k4 k5 k6 k7 hun
     obtain ⟨k0, k1, k2, k3, k4, k5, k6, k7⟩ := hS.cells8 1)
  | (go_at_call 29
     (with_reducible refine (add_any gw _ _ _ _ _ (hS.ft 1) zz55 (by first | omega | (simp; omega))).mono ?_)
     rintro e w9 ⟨rfl, hq⟩
     replace hS := hS.post1 hq
     clear k0 k1 k2 k3 k4 k5 k6 k7 hq
     obtain ⟨k0, k1, k2, k3, k4, k5, k6, k7⟩ := hS.cells8 1))
 rw [HA2.out, HQ2.out.2] at hS
 go_cut [] (fun wc => Aside0 (Sp w None0 [Wr.wr gw L3 B3, blk ga #[.bool v2, .slice A1 n1 c1, .slice A2 n2 c2, .string th, .string nx, .slice A5 n5 c5, .slice A6 n6 c6, .string sg] 27] wc))
 case first =>
  cases nb
  all_goals
   go_wp2_with (first
    | (go_at_call 31
       (with_reducible refine (HNX.out _).mono ?_)
       rintro e w2 ⟨rfl, hun⟩
       replace hS := hS.toN hun
       clear k0 k1 k2 k3 k4 k5 k6 k7 hun
       obtain ⟨k0, k1, k2, k3, k4, k5, k6, k7⟩ := hS.cells8 1)
    | (go_at_call 29
       (with_reducible refine (add_any gw L2 B2 px ok4 _ (hS.ft 1) zz55 zz7).mono ?_)
       rintro e w9 ⟨rfl, hq⟩
       replace hS := hS.post1 hq
       clear k0 k1 k2 k3 k4 k5 k6 k7 hq
       obtain ⟨k0, k1, k2, k3, k4, k5, k6, k7⟩ := hS.cells8 1))
   go_meet
   exact ⟨by rw [← HQ3.out.1, ← HQ3.out.2]; simp only [if_true, Bool.false_eq_true, if_false, Bool.not_true, Bool.not_false, Bool.false_and, Bool.true_and, Bool.or_false, List.append_nil]; exact hS.lt⟩
 clear hS k0 k1 k2 k3 k4 k5 k6 k7 he
 have hS := hcut.out
 clear hcut
 obtain ⟨k0, k1, k2, k3, k4, k5, k6, k7⟩ := hS.cells8 1
 have hn50 : (0 : Int) ≤ (n5 : Int) := by omega
 have hn60 : (0 : Int) ≤ (n6 : Int) := by omega
 go_upto_if 43 with (fail)
 go_cut [] (fun wc => Aside0 (Sp w None0 [Wr.wr gw L4 B4, blk ga #[.bool v2, .slice A1 n1 c1, .slice A2 n2 c2, .string th, .string nx, .slice A5 n5 c5, .slice A6 n6 c6, .string sg] 27] wc))
 case first =>
  by_cases h5 : n5 = 0
  ·
   have d1 : decide (0 < n5) = false := decide_eq_false zz7
   have HH := Aside0.mk h5
   clear h5
   rw [d1]
   go_wp2
   go_meet
   exact ⟨by rw [← HQ4.out.1, ← HQ4.out.2, if_pos HH.out, decide_eq_true HH.out, List.append_nil]; simp only [Bool.not_true, Bool.false_and, Bool.or_false]; exact hS.lt⟩
  ·
   have d1 : decide (0 < n5) = true := decide_eq_true zz7
   have HH := Aside0.mk h5
   clear h5
   rw [d1]
   go_wp2_with (first
    | (go_at_call 32
       (with_reducible refine (HEN.out _ hS.lt.u).mono ?_)
       rintro e w2 ⟨rfl, hun⟩
       replace hS := hS.toN hun
       clear k0 k1 k2 k3 k4 k5 k6 k7 hun
       obtain ⟨k0, k1, k2, k3, k4, k5, k6, k7⟩ := hS.cells8 1)
    | (go_at_call 29
       (with_reducible refine (add_any gw L3 B3 pe ok5 _ (hS.ft 1) zz55 zz7).mono ?_)
       rintro e w9 ⟨rfl, hq⟩
       replace hS := hS.post1 hq
       clear k0 k1 k2 k3 k4 k5 k6 k7 hq
       obtain ⟨k0, k1, k2, k3, k4, k5, k6, k7⟩ := hS.cells8 1))
   go_meet
   exact ⟨by rw [← HQ4.out.1, ← HQ4.out.2, if_neg HH.out, decide_eq_false HH.out]; simp only [Bool.not_false, Bool.true_and]; exact hS.lt⟩
 clear hS k0 k1 k2 k3 k4 k5 k6 k7
 have hS := hcut.out
 clear hcut
 obtain ⟨k0, k1, k2, k3, k4, k5, k6, k7⟩ := hS.cells8 1
 go_upto_if 53 with (fail)
 go_cut [] (fun wc => Aside0 (Sp w None0 [Wr.wr gw L5 B5, blk ga #[.bool v2, .slice A1 n1 c1, .slice A2 n2 c2, .string th, .string nx, .slice A5 n5 c5, .slice A6 n6 c6, .string sg] 27] wc))
 case first =>
  by_cases h6 : n6 = 0
  ·
   have d1 : decide (0 < n6) = false := decide_eq_false zz7
   have HH := Aside0.mk h6
   clear h6
   rw [d1]
   go_wp2
   go_meet
   exact ⟨by rw [← HQ5.out.1, ← HQ5.out.2, if_pos HH.out, decide_eq_true HH.out, List.append_nil]; simp only [Bool.not_true, Bool.false_and, Bool.or_false]; exact hS.lt⟩
  ·
   have d1 : decide (0 < n6) = true := decide_eq_true zz7
   have HH := Aside0.mk h6
   clear h6
   rw [d1]
   go_wp2_with (first
    | (go_at_call 16
       (with_reducible refine (HXT.out _ hS.lt.u).mono ?_)
       rintro e w2 ⟨rfl, hun⟩
       replace hS := hS.toN hun
       clear k0 k1 k2 k3 k4 k5 k6 k7 hun
       obtain ⟨k0, k1, k2, k3, k4, k5, k6, k7⟩ := hS.cells8 1)
    | (go_at_call 18
       (with_reducible refine (HCX.out _).mono ?_)
       rintro e w2 ⟨rfl, hun⟩
       replace hS := hS.toN hun
       clear k0 k1 k2 k3 k4 k5 k6 k7 hun
       obtain ⟨k0, k1, k2, k3, k4, k5, k6, k7⟩ := hS.cells8 1)
    | (go_at_call 29
       (with_reducible refine (add_any gw L4 B4 pX ok6 _ (hS.ft 1) zz55 zz7).mono ?_)
       rintro e w9 ⟨rfl, hq⟩
       replace hS := hS.post1 hq
       clear k0 k1 k2 k3 k4 k5 k6 k7 hq
       obtain ⟨k0, k1, k2, k3, k4, k5, k6, k7⟩ := hS.cells8 1))
   go_meet
   exact ⟨by rw [← HQ5.out.1, ← HQ5.out.2, if_neg HH.out, decide_eq_false HH.out]; simp only [Bool.not_false, Bool.true_and]; exact hS.lt⟩
 clear hS k0 k1 k2 k3 k4 k5 k6 k7
 have hS := hcut.out
 clear hcut
 obtain ⟨k0, k1, k2, k3, k4, k5, k6, k7⟩ := hS.cells8 1
 rw [HBO.out] at hS
 have HE := HT.out.1
 have HR := HT.out.2.1
 have HH := HT.out.2.2.2.2
 have hen : TO = true → L5 = TL := HLT.out
 have hz := HZ.out
 clear HLT HZ HT HQ1 HQ2 HQ3 HQ4 HQ5 HBO HA2 hn50
 cases TO
 ·
  rw [Bool.not_false] at hS
  simp only [Bool.false_eq_true, if_false] at HE
  subst HE
  simp only [Int.reduceEq, if_false] at HR
  subst HR
  have HEND := Aside0.mk (fun (W : World) (S : Nat → Prop) (h : Hs W S [Wr.wr gw L5 true]) => show Calls Try.prog 33 #[.pointer (some ⟨gw, 0, none⟩), .int .i64 16] W fun e w' => e = .returned (.tuple #[.string ByteArray.empty, .bool false]) ∧ W = w' from
   end_bad gw L5 W S h)
  clear hz hen HH
  go_wp2_with (first
   | (go_at_call 33
      (with_reducible refine (HEND.out _ (hS.ft 1) zz55).mono ?_)
      rintro e w8 ⟨rfl, rfl⟩))
  go_ret2
  exact ⟨rfl, hS.lt.u⟩
 ·
  have hLT := hen rfl
  have hzz := hz rfl
  rw [hLT] at hS zl5
  rw [Bool.not_true] at hS
  clear hz hen hLT
  simp only [if_true] at HE
  have HEND := Aside0.mk (fun (W : World) (S : Nat → Prop) (h : Hs W S [Wr.wr gw TL false]) => end_any (t := 16) gw TL false W S h zz13 zz7 zz7)
  obtain ⟨Y, hY⟩ : ∃ z, elb 0 16 true (cat TL) = z := ⟨_, rfl⟩
  rw [hY] at HR
  simp only [Bool.false_eq_true, if_false, Bool.not_false, hY] at HEND
  clear hzz hY
  obtain ⟨nn, hnn⟩ : ∃ z, decide (0 < n6) = z := ⟨_, rfl⟩
  have hnn2 : decide ((0 : Int) < (n6 : Int)) = nn := by rw [← hnn]; exact decide_eq_decide.2 zz7
  rw [hnn] at HH
  cases v2
  ·
   cases nn
   ·
    cases hx
    all_goals
     simp only [Bool.or_false, Bool.or_true, Bool.false_or, Bool.true_or] at HH
     subst HH
     simp only [Bool.not_false, Bool.and_true, Bool.and_self, Bool.and_false, Bool.true_and, Bool.false_and, Bool.false_eq_true, if_false, if_true] at HE
     subst HE
     simp only [Int.reduceEq, if_false, if_true] at HR
     subst HR
     go_wp2_with (first
      | (go_at_call 33
         (with_reducible refine (HEND.out _ (hS.ft 1) zz55).mono ?_)
         rintro e w8 ⟨rfl, hq⟩
         replace hS := hS.post1 hq
         clear k0 k1 k2 k3 k4 k5 k6 k7 hq
         obtain ⟨k0, k1, k2, k3, k4, k5, k6, k7⟩ := hS.cells8 1)
      | (go_at_call 34
         (with_reducible refine (HCO.out _ hS.lt.u).mono ?_)
         rintro e w9 ⟨rfl, hun⟩
         replace hS := hS.toN hun))
     go_ret2
     exact ⟨rfl, hS.lt.u⟩
   ·
    simp only [Bool.or_false, Bool.or_true, Bool.false_or, Bool.true_or] at HH
    subst HH
    simp only [Bool.not_false, Bool.and_true, Bool.and_self, Bool.and_false, Bool.true_and, Bool.false_and, Bool.false_eq_true, if_false, if_true] at HE
    subst HE
    simp only [Int.reduceEq, if_false, if_true] at HR
    subst HR
    go_wp2_with (first
     | (go_at_call 33
        (with_reducible refine (HEND.out _ (hS.ft 1) zz55).mono ?_)
        rintro e w8 ⟨rfl, hq⟩
        replace hS := hS.post1 hq
        clear k0 k1 k2 k3 k4 k5 k6 k7 hq
        obtain ⟨k0, k1, k2, k3, k4, k5, k6, k7⟩ := hS.cells8 1)
     | (go_at_call 34
        (with_reducible refine (HCO.out _ hS.lt.u).mono ?_)
        rintro e w9 ⟨rfl, hun⟩
        replace hS := hS.toN hun))
    go_ret2
    exact ⟨rfl, hS.lt.u⟩
  ·
   simp only [Bool.not_true, Bool.and_false, Bool.false_eq_true, if_false] at HE
   subst HE
   simp only [if_true] at HR
   subst HR
   clear HH
   go_wp2_with (first
    | (go_at_call 33
       (with_reducible refine (HEND.out _ (hS.ft 1) zz55).mono ?_)
       rintro e w8 ⟨rfl, hq⟩
       replace hS := hS.post1 hq
       clear k0 k1 k2 k3 k4 k5 k6 k7 hq
       obtain ⟨k0, k1, k2, k3, k4, k5, k6, k7⟩ := hS.cells8 1)
    | (go_at_call 34
       (with_reducible refine (HCO.out _ hS.lt.u).mono ?_)
       rintro e w9 ⟨rfl, hun⟩
       replace hS := hS.toN hun))
   go_ret2
   exact ⟨rfl, hS.lt.u⟩
end Go.Proofs.Ytgddaddoabjgiaa.At
