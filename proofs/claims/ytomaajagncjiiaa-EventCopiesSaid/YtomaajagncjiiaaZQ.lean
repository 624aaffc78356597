/- A copy of the machine, walked by hand. -/
import Derived.Test.YtomaajagncjiiaaPCx0
import Derived.Test.YtomaajagncjiiaaPCx6
import Derived.Test.YtomaajagncjiiaaBHd
import Derived.Test.YtomaajagncjiiaaBId
import Derived.Outline
import Derived.Laws.Rows
namespace Go.Proofs.Ytomaajagncjiiaa.PC
open Go.RowKit Go.Proofs.YtomaajagncjiiaaW.PrintWords Go.Proofs.YtomaajagncjiiaaW.PrintLast Go.Proofs.YtomaajagncjiiaaW.PrintMore Go.Proofs.Ytomaajagncjiiaa.Own
attribute [local go_sem] max2_int min2_int max_two min_two max_three min_three max_four min_four
set_option linter.unusedVariables false
set_option linter.unusedSimpArgs false
end Go.Proofs.Ytomaajagncjiiaa.PC
namespace Go.Proofs.Ytomaajagncjiiaa
theorem snoc_ind {α : Type} {p : List α → Prop} (nil : p []) (snoc : ∀ l b, p l → p (l ++ [b])) (l : List α) : p l := by
  have h : ∀ l : List α, p l.reverse := by
    intro l
    induction l with
    | nil => exact nil
    | cons a l ih => rw [List.reverse_cons]; exact snoc _ _ ih
  have := h l.reverse
  rwa [List.reverse_reverse] at this
end Go.Proofs.Ytomaajagncjiiaa
namespace Go.Proofs.Ytomaajagncjiiaa.PC
open Go.RowKit Go.Proofs.YtomaajagncjiiaaW.PrintWords Go.Proofs.YtomaajagncjiiaaW.PrintLast Go.Proofs.YtomaajagncjiiaaW.PrintMore Go.Proofs.Ytomaajagncjiiaa.Own
/-- What a byte does to a reader. -/
def rd1 (r : List Int × Int) (b : Int) : List Int × Int := ((rdp r.1 r.2 b (BHd.gotH 0 (Hdm.hg (r.1 ++ [b])))).2.2.2.1, (rdp r.1 r.2 b (BHd.gotH 0 (Hdm.hg (r.1 ++ [b])))).2.2.2.2)
def rdN (l : List Int) : List Int × Int := l.foldl rd1 ([], 0)
/-- Every beginning is cut. -/
def Cut (l : List Int) : Prop := ∀ j, j < l.length → er (l.take (j + 1)) = 2
theorem rdN_snoc (l : List Int) (b : Int) : rdN (l ++ [b]) = rd1 (rdN l) b := by unfold rdN; rw [List.foldl_append]; rfl
theorem rd1_bytes (r : List Int × Int) (b : Int) (h : Idm.Bytes r.1) (hb : 0 ≤ b ∧ b < 256) : Idm.Bytes (rd1 r b).1 := by
  have h2 := bytes_snoc h hb
  unfold rd1 rdp
  simp only
  split
  · exact h
  · split
    · intro x hx; simp at hx
    · split <;> exact h2
theorem rd1_len (r : List Int × Int) (b : Int) : (rd1 r b).1.length ≤ r.1.length + 1 := by
  unfold rd1 rdp
  simp only
  split
  · simp
  · split
    · simp
    · split <;> simp
theorem rdN_ok (l : List Int) (h : Idm.Bytes l) : Idm.Bytes (rdN l).1 ∧ (rdN l).1.length ≤ l.length := by
  induction l using Go.Proofs.Ytomaajagncjiiaa.snoc_ind with
  | nil => exact ⟨fun x hx => by simp [rdN] at hx, by simp [rdN]⟩
  | snoc l b ih =>
    obtain ⟨h1, h2⟩ := ih (fun x hx => h x (by simp [hx]))
    rw [rdN_snoc]
    exact ⟨rd1_bytes _ _ h1 (h b (by simp)), by have := rd1_len (rdN l) b; simp; omega⟩
theorem rdN_cut (l : List Int) (h : Cut l) : rdN l = (l, 0) := by
  induction l using Go.Proofs.Ytomaajagncjiiaa.snoc_ind with
  | nil => rfl
  | snoc l b ih =>
    have h1 : Cut l := by
      intro j hj
      have := h j (by simp; omega)
      rwa [List.take_append_of_le_length (by omega)] at this
    rw [rdN_snoc, ih h1]
    have h2 := h l.length (by simp)
    rw [List.take_of_length_le (by simp)] at h2
    have h3 : (BHd.gotH 0 (Hdm.hg (l ++ [b]))).2.2.2.2.2 = 2 := h2
    unfold rd1 rdp
    simp [h3]
set_option maxHeartbeats 8000000 in
set_option maxRecDepth 100000 in
theorem mach_copyN (g most : Nat) (s : St) (S : Nat → Prop) (w : World) (rc : List Int) (ro : Int) (hM : Mc w S g most s rc ro) (hby : Idm.Bytes s.came) (hl : s.came.length ≤ 900) :
    Calls Try.prog 22 #[.pointer (some ⟨g, 0, none⟩)] w fun e w' => ∃ g2 : Nat, e = .returned (.pointer (some ⟨g2, 0, none⟩)) ∧ Mc w' (New w None0) g2 most s (rdN s.came).1 (rdN s.came).2 ∧ Upd None0 w w' := by
  have hu_ := Try.underlying58
  obtain ⟨gs, gr, v, hb0, _, hk0, hr0, _⟩ := hM.opn
  obtain ⟨A0, c0, rfl⟩ := Kd.R_slice hr0
  have HU := Aside0.mk (Upd.refl None0 w)
  have B_G := Aside0.mk hb0
  have R_0 := Aside0.mk (Bnd.row (E := 5 :: (Kd.int .u8).E) hr0 (fun _ h => h))
  have P_K := Aside0.mk hk0.bnd
  have HBY := Aside0.mk hby
  have HL := Aside0.mk hl
  have hc_G_0 := co B_G 0 (.pointer (some ⟨gs, 0, none⟩)) rfl
  have hc_G_2 := co B_G 2 (.slice A0 s.came.length c0) rfl
  clear hb0 hr0 hk0 hM hby hl
  go_enter Try.func22, Try.ntmps22
  go_wp2_with (first
    | ((with_reducible refine gate_dst (N := 8) rfl ?_)
       refine wpList_load_row rfl 58 (.tmp 7) rfl g rfl 58 _ (0, 0) _ B_G.out hu_ rfl (by kernel_rfl) ?_)
    | ((with_reducible refine gate_dst (N := 3) rfl ?_)
       refine boxnew ?hg (N := 3) ?hd (cs := #[.pointer none, .pointer none, .slice none 0 0, .int .i64 0, .int .i64 0, .bool false, .int .i64 0]) (t := 58) ?hr ?_; (case hd => rfl); (case hg => rfl); (case hr => first | (go_simp; done) | (go_simp; rfl))
       intro g2 hge w1 hbox hu
       have NE := Aside0.mk (blk_fresh B_G.out hge)
       have GE := Aside0.mk (Nat.le_trans HU.out.size hge)
       replace B_G := Aside0.mk (hu.blk (by exact bl B_G) (fun h => h))
       replace HU := Aside0.mk (HU.out.trans hu (fun _ h => h.elim))
       have B_2 := Aside0.mk hbox
       clear hu hbox hge hc_G_0 hc_G_2
       have hc_G_0 := co B_G 0 (.pointer (some ⟨gs, 0, none⟩)) rfl
       have hc_G_2 := co B_G 2 (.slice A0 s.came.length c0) rfl)
    | ((with_reducible refine gate_store (t := 58) (p := 3) (v := .tmp 8) rfl ?_)
       refine rowput rfl 58 (.tmp 3) (.tmp 8) rfl rfl g2 #[.pointer (some ⟨gs, 0, none⟩), .pointer (some ⟨gr, 0, none⟩), .slice A0 s.came.length c0, .int .i64 s.leaf, .int .i64 s.at_, .bool s.begun, .int .i64 s.over] rfl rfl 58 #[.pointer none, .pointer none, .slice none 0 0, .int .i64 0, .int .i64 0, .bool false, .int .i64 0] (by exact bl B_2) (by kernel_rfl) rfl (by simp [Value.oneCell']) ?_
       intro w2 hbox hu
       replace B_G := Aside0.mk (hu.blk (by exact bl B_G) NE.out)
       replace HU := Aside0.mk (HU.out.trans hu (fun k hk => .inr (by rw [hk]; exact GE.out)))
       clear B_2; have B_2 := Aside0.mk hbox
       clear hu hbox hc_G_0 hc_G_2
       have hc_G_0 := co B_G 0 (.pointer (some ⟨gs, 0, none⟩)) rfl
       have hc_G_2 := co B_G 2 (.slice A0 s.came.length c0) rfl)
    | (go_at_call 31
       (with_reducible refine (stack_copy gs most s.left _ _ (P_K.out.updN ((by exact ul HU)))).mono ?_)
       rintro e w3 ⟨gs2, rfl, hs, hu⟩
       have SZ3 := Aside0.mk hu.size
       replace B_G := Aside0.mk (hu.blk (by exact bl B_G) (fun h => h))
       replace B_2 := Aside0.mk (hu.blk (by exact bl B_2) (fun h => h))
       have P_2 := Aside0.mk (hs.mono (fun k hk => hk.elim (fun h => h.elim) (fun h => (.inr (Nat.le_trans HU.out.size h) : New w None0 k))))
       replace HU := Aside0.mk (HU.out.trans hu (fun _ h => h.elim))
       clear hs hu hc_G_0 hc_G_2 SZ3
       have hc_G_0 := co B_G 0 (.pointer (some ⟨gs, 0, none⟩)) rfl
       have hc_G_2 := co B_G 2 (.slice A0 s.came.length c0) rfl)
    | (go_at_call 27
       (with_reducible refine (reader_new _).mono ?_)
       rintro e w4 ⟨gr2, rfl, hs, hu⟩
       replace B_G := Aside0.mk (hu.blk (by exact bl B_G) (fun h => h))
       replace B_2 := Aside0.mk (hu.blk (by exact bl B_2) (fun h => h))
       replace P_2 := Aside0.mk (P_2.out.updN hu)
       have P_R := Aside0.mk (hs.mono (fun k hk => hk.elim (fun h => h.elim) (fun h => (.inr (Nat.le_trans HU.out.size h) : New w None0 k))))
       replace HU := Aside0.mk (HU.out.trans hu (fun _ h => h.elim))
       clear hs hu hc_G_0 hc_G_2
       have hc_G_0 := co B_G 0 (.pointer (some ⟨gs, 0, none⟩)) rfl
       have hc_G_2 := co B_G 2 (.slice A0 s.came.length c0) rfl)
    | ((with_reducible refine gate_store (t := 53) (p := 15) (v := .tmp 13) rfl ?_)
       refine cellput rfl 53 (.tmp 15) (.tmp 13) rfl rfl g2 0 (.pointer (some ⟨gs2, 0, none⟩)) rfl rfl 58 #[.pointer (some ⟨gs, 0, none⟩), .pointer (some ⟨gr, 0, none⟩), .slice A0 s.came.length c0, .int .i64 s.leaf, .int .i64 s.at_, .bool s.begun, .int .i64 s.over] #[.pointer (some ⟨gs2, 0, none⟩), .pointer (some ⟨gr, 0, none⟩), .slice A0 s.came.length c0, .int .i64 s.leaf, .int .i64 s.at_, .bool s.begun, .int .i64 s.over] (by exact bl B_2) (by kernel_rfl) (by simp) rfl rfl ?_
       intro w5 hbox hu
       replace B_G := Aside0.mk (hu.blk (by exact bl B_G) NE.out)
       replace P_2 := Aside0.mk (P_2.out.updT B_2.out (by decide) hu)
       replace P_R := Aside0.mk (P_R.out.updT B_2.out (by decide) hu)
       replace HU := Aside0.mk (HU.out.trans hu (fun k hk => .inr (by rw [hk]; exact GE.out)))
       clear B_2; have B_2 := Aside0.mk hbox
       clear hu hbox hc_G_0 hc_G_2
       have hc_G_2 := co B_G 2 (.slice A0 s.came.length c0) rfl)
    | ((with_reducible refine gate_store (t := 55) (p := 16) (v := .tmp 14) rfl ?_)
       refine cellput rfl 55 (.tmp 16) (.tmp 14) rfl rfl g2 1 (.pointer (some ⟨gr2, 0, none⟩)) rfl rfl 58 #[.pointer (some ⟨gs2, 0, none⟩), .pointer (some ⟨gr, 0, none⟩), .slice A0 s.came.length c0, .int .i64 s.leaf, .int .i64 s.at_, .bool s.begun, .int .i64 s.over] #[.pointer (some ⟨gs2, 0, none⟩), .pointer (some ⟨gr2, 0, none⟩), .slice A0 s.came.length c0, .int .i64 s.leaf, .int .i64 s.at_, .bool s.begun, .int .i64 s.over] (by exact bl B_2) (by kernel_rfl) (by simp) rfl rfl ?_
       intro w6 hbox hu
       replace B_G := Aside0.mk (hu.blk (by exact bl B_G) NE.out)
       replace P_2 := Aside0.mk (P_2.out.updT B_2.out (by decide) hu)
       replace P_R := Aside0.mk (P_R.out.updT B_2.out (by decide) hu)
       replace HU := Aside0.mk (HU.out.trans hu (fun k hk => .inr (by rw [hk]; exact GE.out)))
       clear B_2; have B_2 := Aside0.mk hbox
       clear hu hbox hc_G_2
       have hc_G_2 := co B_G 2 (.slice A0 s.came.length c0) rfl)
    | ((with_reducible refine gate_store (t := 41) (p := 17) (v := .const (.slice none 0 0)) rfl ?_)
       refine cellput rfl 41 (.tmp 17) (.const (.slice none 0 0)) rfl rfl g2 2 (.slice none 0 0) rfl rfl 58 #[.pointer (some ⟨gs2, 0, none⟩), .pointer (some ⟨gr2, 0, none⟩), .slice A0 s.came.length c0, .int .i64 s.leaf, .int .i64 s.at_, .bool s.begun, .int .i64 s.over] #[.pointer (some ⟨gs2, 0, none⟩), .pointer (some ⟨gr2, 0, none⟩), .slice none 0 0, .int .i64 s.leaf, .int .i64 s.at_, .bool s.begun, .int .i64 s.over] (by exact bl B_2) (by kernel_rfl) (by simp) rfl rfl ?_
       intro w7 hbox hu
       replace B_G := Aside0.mk (hu.blk (by exact bl B_G) NE.out)
       replace P_2 := Aside0.mk (P_2.out.updT B_2.out (by decide) hu)
       replace P_R := Aside0.mk (P_R.out.updT B_2.out (by decide) hu)
       replace HU := Aside0.mk (HU.out.trans hu (fun k hk => .inr (by rw [hk]; exact GE.out)))
       clear B_2; have B_2 := Aside0.mk hbox
       clear hu hbox hc_G_2
       have hc_G_2 := co B_G 2 (.slice A0 s.came.length c0) rfl))
  clear hc_G_2
  have hnm : (s.came.length : Int) ≤ 900 := by have := HL.out; omega
  go_loopg [23] s.came.length (fun gk v23 wr => ∃ (i : Nat) (SR SC : Nat → Prop) (v : Value), v23 = .int .i64 (i : Int) ∧ Aside0 (i ≤ s.came.length ∧ s.came.length - i ≤ gk) ∧ Aside0 (wr.heap[g2]? = some (.cells #[.pointer (some ⟨gs2, 0, none⟩), .pointer (some ⟨gr2, 0, none⟩), v, .int .i64 s.leaf, .int .i64 s.at_, .bool s.begun, .int .i64 s.over] 58 (0, 0))) ∧ Aside0 (Sk wr (New w None0) gs2 most s.left) ∧ Aside0 (Rd wr SR gr2 (rdN (s.came.take i)).1 (rdN (s.came.take i)).2) ∧ Aside0 ((Kd.int .u8).R 5 wr 0 SC v (s.came.take i)) ∧ Aside0 ((∀ k, SR k → New w None0 k) ∧ (∀ k, SC k → New w None0 k) ∧ (∀ k, SR k → ¬ SC k)) ∧ Aside0 (Upd None0 w wr))
  case atStart => exact ⟨0, _, None0, _, rfl, ⟨Nat.zero_le _, by omega⟩, B_2, P_2, P_R, ⟨Kd.R_nil _ _ _ _ _⟩, ⟨fun k h => h, fun k h => h.elim, fun k _ h => h⟩, HU⟩
  case round =>
    clear B_2 P_2 P_R HU
    obtain ⟨i, SR, SC, v, rfl, HI, B_2, P_2, P_R, R_C, HD, HU⟩ := hrel
    obtain ⟨A1, c1, rfl⟩ := Kd.R_slice R_C.out
    have hi0 : (0 : Int) ≤ (i : Int) := by omega
    have him : (i : Int) ≤ 900 := by have := HI.out.1; omega
    by_cases hlt : i < s.came.length
    case neg =>
      have hltd : decide ((i : Int) < (s.came.length : Int)) = false := decide_eq_false (by omega)
      go_wp2
      go_ret
      have e : s.came.take i = s.came := List.take_of_length_le (by omega)
      have h1 := B_2.out; have h2 := P_R.out; have h3 := R_C.out
      rw [e] at h1 h2 h3
      exact ⟨_, rfl, ⟨gs2, gr2, _, SR, SC, .inr GE.out, h1, P_2.out, h2, h3, HD.out.1, HD.out.2.1, HD.out.2.2⟩, HU.out⟩
    have hltd : decide ((i : Int) < (s.came.length : Int)) = true := decide_eq_true (by omega)
    have hlti : (i : Int) < (s.came.length : Int) := by omega
    have R_0n := Aside0.mk (row_upd R_0.out HU.out (fun k _ h => h))
    obtain ⟨a0, rfl⟩ : ∃ a0, A0 = some a0 := by
      obtain ⟨ad, c, h, _⟩ := Kd.C_get (Kd.R_reads' R_0n.out).2.2 0 (i : Int) hi0 hlti
      exact ⟨ad, h⟩
    obtain ⟨g0, rfl⟩ := Kd.R_head R_0n.out
    obtain ⟨b, hb⟩ : ∃ b, rdOf 0 s.came (i : Int) = b := ⟨_, rfl⟩
    have hcell : wr.cell? ⟨g0, i, none⟩ = some (.int .u8 b) := by
      have := (Kd.R_cell 0 R_0n.out (i : Int) hi0 hlti).1
      rw [hb] at this
      simpa using this
    have htk : s.came.take (i + 1) = s.came.take i ++ [b] := by
      rw [List.take_add_one, List.getElem?_eq_getElem hlt]
      rw [← hb]
      simp [rdOf, hlt]
    have hbb : 0 ≤ b ∧ b < 256 := HBY.out b (by
      have : b ∈ s.came.take (i + 1) := by rw [htk]; simp
      exact List.mem_of_mem_take this)
    have hok := rdN_ok (s.came.take i) (fun x hx => HBY.out x (List.mem_of_mem_take hx))
    have hln : (rdN (s.came.take i)).1.length ≤ 900 := by have := hok.2; rw [List.length_take] at this; omega
    have hnx := rdN_snoc (s.came.take i) b
    rw [← htk] at hnx
    obtain ⟨⟨c, o⟩, hco⟩ : ∃ q, rdN (s.came.take i) = q := ⟨_, rfl⟩
    rw [hco] at hnx hok hln
    have hgt := BHd.hget_ok (strOfNums (c ++ [b])) (by rw [← bytesOf_length, BId.bytesOf_nums _ (bytes_snoc hok.1 hbb)]; simp; simp at hln; omega) 0 (by decide) (by omega) 5000 (by rw [← bytesOf_length, BId.bytesOf_nums _ (bytes_snoc hok.1 hbb)]; simp; simp at hln; omega)
    rw [BId.bytesOf_nums _ (bytes_snoc hok.1 hbb), show ((0 : Int)).toNat = 0 from rfl, List.drop_zero] at hgt
    have PR := P_R.out
    rw [hco] at PR
    clear P_R; have P_R := Aside0.mk PR
    have HGT := Aside0.mk hgt
    have HNX := Aside0.mk hnx
    have HTK := Aside0.mk htk
    have HLN := Aside0.mk (show c.length ≤ 100000 by simp at hln; omega)
    have HLI := Aside0.mk (show ((s.came.take i).length + 1) * 1 ≤ 140737488355328 by rw [List.length_take]; have := HL.out; omega)
    have hc_2_1 := co B_2 1 (.pointer (some ⟨gr2, 0, none⟩)) rfl
    have hc_2_2 := co B_2 2 (.slice A1 (s.came.take i).length c1) rfl
    obtain ⟨cm, hcm⟩ : ∃ q, s.came.take i = q := ⟨_, rfl⟩
    obtain ⟨cm2, hcm2⟩ : ∃ q, s.came.take (i + 1) = q := ⟨_, rfl⟩
    have HCM2 := Aside0.mk hcm2
    rw [hcm] at hc_2_2 R_C HTK HLI B_2
    rw [hcm2] at HTK HNX
    clear hb hgt hnx htk hln hok PR hco hcm hcm2 hbb
    go_wp2_with (first
      | (go_at_call 32
         (with_reducible refine (reader_push 5000 gr2 c o b _ _ _ P_R.out.bnd HLN.out (fun _ => HGT.out)).mono ?_)
         rintro e w1 ⟨rfl, hs, hu⟩
         replace B_2 := Aside0.mk (hu.blk (by exact bl B_2) (Bnd.ne B_2.out (by decide)))
         replace P_2 := Aside0.mk (P_2.out.updB hu (by decide))
         have SZ := Aside0.mk hu.size
         have R_D := Aside0.mk (row_upd (Bnd.row (E := 5 :: (Kd.int .u8).E) R_C.out (fun _ h => h)) hu (fun k h1 h2 => HD.out.2.2 k h2.1 h1.1))
         have P_D := Aside0.mk hs.old
         have HD1 := Aside0.mk (show (∀ k, (New wr (Bnd wr [72, 5] SR) k ∧ k < w1.heap.size) → New w None0 k) ∧ (∀ k, Bnd wr [5] SC k → New w None0 k) ∧ (∀ k, (New wr (Bnd wr [72, 5] SR) k ∧ k < w1.heap.size) → ¬ Bnd wr [5] SC k) from
           ⟨fun k h => h.1.elim (fun h => HD.out.1 k h.1) (fun h => .inr (Nat.le_trans HU.out.size h)), fun k h => HD.out.2.1 k h.1, fun k h h2 => h.1.elim (fun h => HD.out.2.2 k h.1 h2.1) (fun h => absurd h2.2.1 (by omega))⟩)
         replace HU := Aside0.mk (HU.out.trans hu (fun k hk => .inr ((HD.out.1 k hk.1).elim (fun h => h.elim) id)))
         clear hs hu P_R R_C HD
         (try clear hc_2_1 hc_2_2)
         have hc_2_1 := co B_2 1 (.pointer (some ⟨gr2, 0, none⟩)) rfl
         have hc_2_2 := co B_2 2 (.slice A1 cm.length c1) rfl)
      | ((with_reducible refine gate_builtin (b := .append) (xs := #[.tmp 32, .tmp 34]) rfl ?_); at_builtin
         refine row_append (Kd.int .u8) (S := Bnd wr [5] SC) rfl (.tmp 32) (.tmp 34) 41 5 (.int .u8 0) 1 rfl Try.underlying41 infoU8 rfl (by decide) (by omega) (.slice A1 cm.length c1) cm b [.int .u8 b] rfl rfl ?aP ?aO ?aL cm2 HTK.out.symm ?_
         (case aP => exact rfl); (case aO => exact rl R_D); (case aL => exact HLI.out)
         intro v2 w2 ho hu
         replace B_2 := Aside0.mk (hu.blk (by exact bl B_2) (Kd.R_ne R_D.out B_2.out (by decide)))
         replace P_2 := Aside0.mk (P_2.out.updR R_D.out (by decide) hu)
         replace P_D := Aside0.mk (P_D.out.upd hu (fun k h1 h2 => HD1.out.2.2 k h1 (row_at R_D.out h2)))
         have HD2 := Aside0.mk (show (∀ k, (New wr (Bnd wr [72, 5] SR) k ∧ k < w1.heap.size) → New w None0 k) ∧ (∀ k, New w1 (Bnd wr [5] SC) k → New w None0 k) ∧ (∀ k, (New wr (Bnd wr [72, 5] SR) k ∧ k < w1.heap.size) → ¬ New w1 (Bnd wr [5] SC) k) from
           ⟨HD1.out.1, fun k h => h.elim (HD1.out.2.1 k) (fun h => .inr (Nat.le_trans HU.out.size h)), fun k h h2 => h2.elim (HD1.out.2.2 k h) (fun h2 => absurd h.2 (by omega))⟩)
         replace HU := Aside0.mk (HU.out.trans hu (fun k hk => .inr ((HD1.out.2.1 k (row_at R_D.out hk)).elim (fun h => h.elim) id)))
         obtain ⟨A2, c2, rfl⟩ := Kd.R_slice ho
         have R_E := Aside0.mk ho
         clear ho hu R_D HD1
         (try clear hc_2_1 hc_2_2))
      | ((with_reducible refine gate_store (t := 41) (p := 36) (v := .tmp 35) rfl ?_)
         refine cellput rfl 41 (.tmp 36) (.tmp 35) rfl rfl g2 2 (.slice A2 cm2.length c2) rfl rfl 58 #[.pointer (some ⟨gs2, 0, none⟩), .pointer (some ⟨gr2, 0, none⟩), .slice A1 cm.length c1, .int .i64 s.leaf, .int .i64 s.at_, .bool s.begun, .int .i64 s.over] #[.pointer (some ⟨gs2, 0, none⟩), .pointer (some ⟨gr2, 0, none⟩), .slice A2 cm2.length c2, .int .i64 s.leaf, .int .i64 s.at_, .bool s.begun, .int .i64 s.over] (by exact bl B_2) (by kernel_rfl) (by simp) rfl rfl ?_
         intro w3 hbox hu
         replace P_2 := Aside0.mk (P_2.out.updT B_2.out (by decide) hu)
         replace P_D := Aside0.mk (P_D.out.updT B_2.out (by decide) hu)
         replace R_E := Aside0.mk (row_updT R_E.out B_2.out (by decide) hu)
         replace HU := Aside0.mk (HU.out.trans hu (fun k hk => .inr (by rw [hk]; exact GE.out)))
         clear B_2; have B_2 := Aside0.mk hbox
         clear hu hbox))
    go_roundg (gk - 1)
    case measure => have := HI.out; omega
    case rel =>
      have h2 := P_D.out
      have hn := HNX.out
      have e : rdN cm2 = ((rd1 (c, o) b).1, (rd1 (c, o) b).2) := hn
      refine ⟨i + 1, _, _, _, by simp, ⟨by omega, by have := HI.out; omega⟩, B_2, P_2, ⟨?_⟩, ⟨?_⟩, HD2, HU⟩
      · rw [HCM2.out, e]; exact h2
      · rw [HCM2.out]; exact R_E.out
end Go.Proofs.Ytomaajagncjiiaa.PC
