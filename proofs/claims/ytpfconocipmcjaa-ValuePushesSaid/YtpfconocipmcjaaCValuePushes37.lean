/- The row of ValuePushes: for every input the law returns true; no condition. Made small by a program of this session (pack.py). -/
import Derived.Below
import Derived.ChangeOld
import Derived.Lib.SmallJoins
import Derived.OpenShut
import Derived.Outline
import Derived.ProofKit
import Derived.ShutString
import Derived.SizedLaws
import Derived.Test.YtpfconocipmcjaaRows
import Derived.WalkKit
import Derived.Test.YtpfconocipmcjaaCValuePushes2
import Derived.Test.YtpfconocipmcjaaCValuePushes3
import Derived.Test.YtpfconocipmcjaaCValuePushes17
import Derived.Test.YtpfconocipmcjaaCValuePushes18
import Derived.Test.YtpfconocipmcjaaCValuePushes20
import Derived.Test.YtpfconocipmcjaaCValuePushes30
import Derived.Test.YtpfconocipmcjaaCValuePushes31
import Derived.Test.YtpfconocipmcjaaCValuePushes32
import Derived.Test.YtpfconocipmcjaaCValuePushes33
import Derived.Test.YtpfconocipmcjaaCValuePushes35
import Derived.Test.YtpfconocipmcjaaCValuePushes36
namespace Go.Proofs.Ytpfconocipmcjaa.BLen
open RowKit PC YtpfconocipmcjaaW.PrintWords YtpfconocipmcjaaW.PrintLast YtpfconocipmcjaaW.PrintMore
open Idm Lenm BId
set_option linter.unusedVariables false
theorem val_great (r : List Int) (hb : Bytes r) (c : Nat) (hc : c ≤ r.length) : ∀ (d i : Nat), i + (d + 1) = c → 9007199254740991 < val (r.take i) → MaxLen < val (r.take c) := by
 intro d
 induction d with
 | zero =>
   intro i hi hv
   rw [← hi, val_take r i zz3]
   have : 0 ≤ r.getD i 0 := by
    rw [List.getD_eq_getElem?_getD, List.getElem?_eq_getElem zz3]
    exact (hb _ (List.getElem_mem _)).1
   unfold MaxLen; omega
 | succ d ih =>
   intro i hi hv
   refine ih (i + 1) zz3 ?_
   rw [val_take r i zz3]
   have : 0 ≤ r.getD i 0 := by
    rw [List.getD_eq_getElem?_getD, List.getElem?_eq_getElem zz3]
    exact (hb _ (List.getElem_mem _)).1
   omega
theorem rlget_loop (x8 : ByteArray) (size at_ c : Int) (h0 : 0 ≤ at_) (hsz : size ≤ 281474976710656) (hx : (x8.size : Int) = size - (at_ + 1)) (hc1 : 1 ≤ c) (hc8 : c ≤ 8) (hcl : c ≤ x8.size) :
 ∀ (d k : Nat) (i : Nat), i + d = c.toNat → (val ((bytesOf x8).take i) ≤ 2305843009213693951 + 255 ∨ d = 0) → d < k →
  gantletref06_Get.l0 k at_ x8 c (val ((bytesOf x8).take i)) (i : Int) = some (tailR at_ size c (bytesOf x8)) := by
 obtain ⟨r, hr⟩ : ∃ r, r = bytesOf x8 := ⟨_, rfl⟩
 have hrl : (r.length : Int) = x8.size := by rw [hr, bytesOf_length]
 have hrb : Bytes r := by rw [hr]; exact bytes_of x8
 rw [← hr]
 have ha1 : Aside0 (wrap64 (at_ + 1) = at_ + 1) := ⟨w64 zz3 zz3⟩
 intro d
 induction d with
 | zero =>
   intro k i hi hv0 hk
   obtain ⟨k, rfl⟩ : ∃ m, k = m + 1 := ⟨k - 1, zz3⟩
   obtain rfl : i = c.toNat := by omega
   simp only [gantletref06_Get.l0]
   rw [if_neg zz3]
   unfold tailR MaxLen
   rw [if_neg (show ¬ (r.length : Int) < c by omega)]
   by_cases hm : val (r.take c.toNat) > 2305843009213693951
   ·
    rw [if_pos hm, if_pos zz3, w64 zz3 zz3]
   ·
    rw [if_neg hm, if_neg zz3, ha1.out, w64 zz3 zz3]
 | succ d ih =>
   intro k i hi hv0 hk
   obtain ⟨k, rfl⟩ : ∃ m, k = m + 1 := ⟨k - 1, zz3⟩
   have hi1 : Aside0 (wrap64 ((i : Int) + 1) = ((i + 1 : Nat) : Int)) := ⟨by rw [w64 zz3 zz3]; omega⟩
   have hil : i < r.length := by omega
   have hv := val_take8 r hrb i zz3 zz3
   simp only [gantletref06_Get.l0, hi1.out]
   rw [if_pos (show (i : Int) < c by omega)]
   by_cases hg : val (r.take i) > 9007199254740991
   ·
    rw [if_pos hg]
    have := val_great r hrb c.toNat zz3 d i zz3 hg
    unfold tailR
    rw [if_neg zz3, if_pos this, w64 zz3 zz3]
   ·
    rw [if_neg hg]
    have hbt : bt x8 (i : Int) = r.getD i 0 := by rw [← rd_bytesOf, rd, hr]; rfl
    have hbr := bt_range x8 (i : Int)
    have hst : Aside0 (wrap64 (wrap64 (256 * val (r.take i)) + wrap64 (bt x8 (i : Int))) = val (r.take (i + 1))) := ⟨by
     rw [w64 (x := 256 * val (r.take i)) zz3 zz3, w64 (x := bt x8 (i : Int)) zz3 zz3, w64 zz3 zz3, val_take r i hil, hbt]⟩
    have hnext : val (r.take (i + 1)) ≤ 2305843009213693951 + 255 := by rw [val_take r i hil]; omega
    have step := ih k (i + 1) zz3 (.inl hnext) zz3
    simp only [hst.out]
    rw [w64 (x := bt x8 (i : Int)) zz3 zz3]
    by_cases he : val (r.take i) = 9007199254740991
    ·
     rw [if_pos he, if_pos zz3, if_pos zz3, if_neg zz3]; exact step
    ·
     rw [if_neg he, if_pos zz3, if_pos zz3]; exact step
theorem bytesOf_back (s : ByteArray) (n : Nat) : bytesOf (s.extract n s.size) = (bytesOf s).drop n := by
 simp only [bytesOf, ByteArray.data_extract, Array.toList_extract]
 rw [show s.size = s.data.size from rfl]
 simp [List.take_of_length_le]
theorem rlget_ok (s : ByteArray) (hs : s.size ≤ 281474976710656) (at_ : Int) (h0 : 0 ≤ at_) (h1 : at_ ≤ s.size) (k : Nat) (hk : 14 ≤ k) :
 gantletref06_Get.f k s at_ = some (gotL at_ (lg ((bytesOf s).drop at_.toNat))) := by
 obtain ⟨k, rfl⟩ : ∃ m, k = m + 3 := ⟨k - 3, zz3⟩
 unfold gantletref06_Get.f
 rw [if_neg zz3, show decide (at_ > (s.size : Int)) = false by simp; omega]
 simp only [gantletref06_Get.j0, Bool.false_eq_true, if_false]
 by_cases h2 : at_ = (s.size : Int)
 ·
  rw [if_pos h2, drop_end s at_ zz3]; simp [lg, gotL]
 ·
  have hb := bt_range s at_
  have hl : at_ < s.size := by omega
  rw [if_neg h2, if_pos h0, if_pos hl, w64 (x := bt s at_) zz3 zz3, w64 (x := at_ + 1) zz3 zz3, drop_at s at_ h0 hl]
  by_cases h3 : bt s at_ < 128
  ·
   rw [if_pos h3]; simp [lg, gotL, h3]
  rw [if_neg h3]
  by_cases h4 : bt s at_ = 128 ∨ 136 < bt s at_
  ·
   have e : gantletref06_Get.j1 (k + 2) s at_ (bt s at_) true = some (0, at_, 4) := by simp only [gantletref06_Get.j1, if_true]
   have e2 : lg (bt s at_ :: (bytesOf s).drop (at_ + 1).toNat) = (0, 0, 4) := by simp only [lg]; rw [if_neg h3, if_pos h4]
   rw [e2]
   by_cases h5 : bt s at_ = 128
   ·
    rw [if_pos h5, e]; simp [gotL]
   ·
    rw [if_neg h5, show decide (bt s at_ > 136) = true by simp; omega, e]; simp [gotL]
  ·
   rw [if_neg zz3, show decide (bt s at_ > 136) = false by simp; omega]
   simp only [gantletref06_Get.j1, Bool.false_eq_true, if_false]
   have ha1 : wrap64 (at_ + 1) = at_ + 1 := w64 zz3 zz3
   rw [ha1, w64 (x := bt s at_ - 128) zz3 zz3, if_pos zz3, if_pos zz3]
   obtain ⟨x8, hx8⟩ : ∃ x8, x8 = s.extract (at_ + 1).toNat s.size := ⟨_, rfl⟩
   have hxb : bytesOf x8 = (bytesOf s).drop (at_ + 1).toNat := by rw [hx8, bytesOf_back]
   have hxl : x8.size = s.size - (at_ + 1).toNat := by rw [← bytesOf_length, hxb, List.length_drop, bytesOf_length]
   have hx0 : bt x8 0 = (bytesOf x8).getD 0 0 := by rw [← rd_bytesOf]; rfl
   rw [← hx8, ← hxb, hx0]
   have hrl : (bytesOf x8).length = x8.size := bytesOf_length _
   have hbad : gantletref06_Get.j2 (k + 1) s at_ x8 (bt s at_ - 128) true = some (0, at_ + 1, 4) := by simp only [gantletref06_Get.j2, if_true]; rw [ha1]
   have hgo : ¬ (0 < (bytesOf x8).length ∧ ((bytesOf x8).getD 0 0 = 0 ∨ bt s at_ = 129 ∧ (bytesOf x8).getD 0 0 < 128)) → gantletref06_Get.j2 (k + 1) s at_ x8 (bt s at_ - 128) false = some (gotL at_ (lg (bt s at_ :: bytesOf x8))) := by
    intro h6
    simp only [gantletref06_Get.j2, Bool.false_eq_true, if_false]
    rw [← tail_lg at_ s.size (bt s at_) _ zz3 h3 h4 h6]
    by_cases h7 : (x8.size : Int) < bt s at_ - 128
    ·
     rw [if_pos h7]
     unfold tailR
     rw [if_pos zz3]
    ·
     rw [if_neg h7]
     have := rlget_loop x8 s.size at_ (bt s at_ - 128) h0 zz3 zz3 zz3 zz3 zz3 (bt s at_ - 128).toNat k 0 zz3 (.inl (by rw [List.take_zero]; simp [val])) zz3
     rw [List.take_zero, show val [] = 0 from rfl, show ((0 : Nat) : Int) = 0 from rfl] at this
     exact this
   by_cases h8 : (x8.size : Int) > 0
   ·
    rw [if_pos h8, if_pos zz3]
    by_cases h9 : (bytesOf x8).getD 0 0 = 0
    ·
     rw [if_pos h9, hbad]
     have e2 : lg (bt s at_ :: bytesOf x8) = (0, 1, 4) := by simp only [lg]; rw [if_neg h3, if_neg h4, if_pos ⟨zz3, .inl h9⟩]
     rw [e2]; simp [gotL]
    ·
     rw [if_neg h9]
     by_cases h10 : bt s at_ - 128 = 1
     ·
      rw [if_pos h10]
      by_cases h11 : (bytesOf x8).getD 0 0 < 128
      ·
       rw [decide_eq_true h11, hbad]
       have e2 : lg (bt s at_ :: bytesOf x8) = (0, 1, 4) := by simp only [lg]; rw [if_neg h3, if_neg h4, if_pos ⟨zz3, .inr ⟨zz3, h11⟩⟩]
       rw [e2]; simp [gotL]
      ·
       rw [decide_eq_false h11]
       exact hgo (fun h => by rcases h.2 with h | ⟨_, h⟩; exact h9 h; exact h11 h)
     ·
      rw [if_neg h10]
      exact hgo (fun h => by rcases h.2 with h | ⟨h, _⟩; exact h9 h; omega)
   ·
    rw [if_neg h8]
    exact hgo (fun h => by omega)
end Go.Proofs.Ytpfconocipmcjaa.BLen
namespace Go.Proofs.Ytpfconocipmcjaa.BHd
open RowKit PC YtpfconocipmcjaaW.PrintWords YtpfconocipmcjaaW.PrintLast YtpfconocipmcjaaW.PrintMore
open Idm Lenm Hdm BId BLen RId
set_option linter.unusedVariables false
theorem rhget_ok (s : ByteArray) (hs : s.size ≤ 281474976710656) (at_ : Int) (h0 : 0 ≤ at_) (h1 : at_ ≤ s.size) (k : Nat) (hk : 2 * s.size + 20 ≤ k) :
 gantletref07_Get.f k s at_ = some (gotH at_ (hg ((bytesOf s).drop at_.toNat))) := by
 obtain ⟨l, hl⟩ : ∃ l, l = (bytesOf s).drop at_.toNat := ⟨_, rfl⟩
 have hll : l.length = s.size - at_.toNat := by rw [hl, List.length_drop, bytesOf_length]
 have hp := (idg_err l).2.1
 unfold gantletref07_Get.f
 rw [rget_ok s hs at_ h0 h1 k zz3, ← hl, Option.bind_some]
 by_cases h2 : (idg l).2.2.2.2 = 0
 ·
  rw [if_pos (show (gotten at_ (idg l)).2.2.2.2.2 = 0 from h2), show (gotten at_ (idg l)).2.2.2.2.1 = at_ + ((idg l).2.2.2.1 : Int) from rfl, rlget_ok s hs _ zz3 zz3 k zz3, Option.bind_some]
  have e : (bytesOf s).drop (at_ + ((idg l).2.2.2.1 : Int)).toNat = l.drop (idg l).2.2.2.1 := by
   rw [show (at_ + ((idg l).2.2.2.1 : Int)).toNat = at_.toNat + (idg l).2.2.2.1 by omega, ← List.drop_drop, ← hl]
  rw [e]
  by_cases h3 : (lg (l.drop (idg l).2.2.2.1)).2.2 = 0
  ·
   rw [if_pos (show (gotL (at_ + ((idg l).2.2.2.1 : Int)) (lg (l.drop (idg l).2.2.2.1))).2.2 = 0 from h3), hg_yes l h2 h3]
   simp only [gotH, gotL, gotten]
   rw [show at_ + (((idg l).2.2.2.1 + (lg (l.drop (idg l).2.2.2.1)).2.1 : Nat) : Int) = at_ + ((idg l).2.2.2.1 : Int) + ((lg (l.drop (idg l).2.2.2.1)).2.1 : Int) by omega]
  ·
   rw [if_neg (show ¬ (gotL (at_ + ((idg l).2.2.2.1 : Int)) (lg (l.drop (idg l).2.2.2.1))).2.2 = 0 from h3), hg_no l h2 h3]
   simp only [gotH, gotL]
   rw [show at_ + (((idg l).2.2.2.1 + (lg (l.drop (idg l).2.2.2.1)).2.1 : Nat) : Int) = at_ + ((idg l).2.2.2.1 : Int) + ((lg (l.drop (idg l).2.2.2.1)).2.1 : Int) by omega]
 ·
  rw [if_neg (show ¬ (gotten at_ (idg l)).2.2.2.2.2 = 0 from h2), hg_id l h2]
  simp only [gotH, gotten]
  obtain ⟨q1, q2, q3⟩ := (idg_err l).2.2.2.2 h2
  rw [q1, q2, q3]
end Go.Proofs.Ytpfconocipmcjaa.BHd
namespace Go.Proofs.Ytpfconocipmcjaa.PC
open RowKit YtpfconocipmcjaaW.PrintWords YtpfconocipmcjaaW.PrintLast YtpfconocipmcjaaW.PrintMore
set_option linter.unusedVariables false
set_option linter.unusedSimpArgs false
def stG : List Int → List Int → Int → Int → Hd × Int × Int
 | _, [], i, _ => (h0, i, 2)
 | came, b :: r, i, room => if room = 0 then (h0, i, 5) else if er (came ++ [b]) = 0 then (hd (came ++ [b]), i, 0) else if er (came ++ [b]) = 2 then stG (came ++ [b]) r (i + 1) (room - 1) else (h0, i, er (came ++ [b]))
def Room (L : List Int) (room : Int) : Prop := (L = [] ∧ room < 0) ∨ ∃ R, L = room :: R ∧ 0 ≤ room
theorem done_came (s : St) (h : s.came ≠ []) : done s = false := by
 unfold done
 have : ((s.came.length : Int) == 0) = false := beq_eq_false_iff_ne.2 (fun e => h (List.eq_nil_of_length_eq_zero zz3))
 rw [this, Bool.and_false]
theorem room_tk {L : List Int} {room : Int} (h : Room L room) (h0 : room ≠ 0) : Mxm.tk L = (dc 1 L, 0) ∧ Room (dc 1 L) (room - 1) := by
 rcases h with ⟨rfl, h1⟩ | ⟨R, rfl, h1⟩
 ·
  exact ⟨rfl, .inl ⟨rfl, zz3⟩⟩
 ·
  simp only [Mxm.tk, dc]
  rw [if_neg h0]
  exact ⟨rfl, .inr ⟨R, rfl, zz3⟩⟩
theorem dc_dc (j k : Nat) (l : List Int) : dc j (dc k l) = dc (k + j) l := by
 cases l with
 | nil => rfl
 | cons x r => simp only [dc]; refine congrArg (· :: r) ?_; omega
def after (most : Nat) (s : St) (h : Hd) (r : List Int) (la : Int) (acc : List Ev) : List Ev × Int × Int :=
 if (beginM most s h).2.2 ≠ 0 then (acc, (beginM most s h).2.2, la) else runM most (closeM (beginM most s h).1).1 r (la + 1) (acc ++ ((beginM most s h).2.1 ++ (closeM (beginM most s h).1).2))
theorem st_run (most : Nat) : ∀ (rest came : List Int) (i room : Int) (s : St) (acc : List Ev), s.over = 0 → s.leaf = 0 → s.came = came → s.at_ = i → (came = [] → done s = false) → Room s.left room →
 ((stG came rest i room).2.2 ≠ 0 → runM most s rest i acc = (acc, (stG came rest i room).2.2, (stG came rest i room).2.1)) ∧
 ((stG came rest i room).2.2 = 0 → ∃ (n : Nat) (C : List Int), n < rest.length ∧ (stG came rest i room).2.1 = i + (n : Int) ∧ C ≠ [] ∧ (stG came rest i room).1 = hd C ∧ er C = 0 ∧ (∀ x ∈ C, x ∈ came ∨ x ∈ rest) ∧ (room < 0 ∨ (n : Int) < room) ∧
   runM most s rest i acc = after most { s with came := C, left := dc (n + 1) s.left, at_ := i + (n : Int) } (hd C) (rest.drop (n + 1)) (i + (n : Int)) acc)
 | [], came, i, room, s, acc, ho, hl, hc, ha, hd0, hR => by
   constructor
   ·
    intro _
    have hd1 : done s = false := by
     by_cases h : came = []
     ·
      exact hd0 h
     ·
      exact done_came s (by rw [hc]; exact h)
    simp [stG, runM, hd1]
   ·
    intro h; simp [stG] at h
 | b :: r, came, i, room, s, acc, ho, hl, hc, ha, hd0, hR => by
   have hd1 : done s = false := by
    by_cases h : came = []
    ·
     exact hd0 h
    ·
     exact done_came s (by rw [hc]; exact h)
   have hpush : ∀ q, stepM most s b = q → pushM most s b = if q.2.2 ≠ 0 then ({ q.1 with over := q.2.2 }, [], q.2.2) else ((closeM q.1).1, q.2.1 ++ (closeM q.1).2, 0) := by
    intro q hq
    unfold pushM
    rw [if_neg (by simp [ho]), if_neg (by rw [hd1]; decide), hq]
   by_cases h0 : room = 0
   ·
    have hst : stG came (b :: r) i room = (_root_.Go.Proofs.Ytpfconocipmcjaa.PC.h0, i, 5) := by simp only [stG]; rw [if_pos h0]
    rw [hst]
    refine ⟨fun _ => ?_, fun h => absurd (show (5 : Int) = 0 from h) zz13⟩
    have hL : (Mxm.tk s.left).2 = 5 := by
     rcases hR with ⟨_, h1⟩ | ⟨R, h1, _⟩
     ·
      omega
     ·
      rw [h1, h0]; rfl
    have hs : stepM most s b = (takeM s, [], 5) := by
     unfold stepM; rw [if_neg zz3, if_pos (by rw [hL]; decide), hL]
    have hp := hpush _ hs
    rw [if_pos (show (5 : Int) ≠ 0 by decide)] at hp
    rw [runM_step most s _ b _ 5 _ _ _ hp]; rfl
   ·
    obtain ⟨htk, hR1⟩ := room_tk hR h0
    by_cases h1 : er (came ++ [b]) = 0
    ·
     have hst : stG came (b :: r) i room = (hd (came ++ [b]), i, 0) := by simp only [stG]; rw [if_neg h0, if_pos h1]
     rw [hst]
     refine ⟨fun h => absurd rfl h, fun _ => ⟨0, came ++ [b], zz29, zz29, zz29, rfl, h1, fun x hx => ?_, ?_, ?_⟩⟩
     ·
      rcases List.mem_append.1 hx with hx | hx
      ·
       exact .inl hx
      ·
       exact .inr (by rw [List.mem_singleton.1 hx]; simp)
     ·
      rcases hR with ⟨_, h2⟩ | ⟨R, _, h2⟩
      ·
       exact .inl h2
      ·
       exact .inr zz3
     ·
      have hs : stepM most s b = beginM most { s with came := came ++ [b], left := dc (0 + 1) s.left, at_ := i + ((0 : Nat) : Int) } (hd (came ++ [b])) := by
       unfold stepM
       rw [if_neg zz3, htk, if_neg (fun h => h rfl), hc, h1, if_neg zz13, if_neg (fun h => h rfl)]
       refine congrArg (fun q => beginM most q _) ?_
       simp only [takeM, htk, St.mk.injEq, true_and, and_true]
       rw [ha]; simp
      have hp := hpush _ hs
      unfold after
      generalize beginM most { s with came := came ++ [b], left := dc (0 + 1) s.left, at_ := i + ((0 : Nat) : Int) } (hd (came ++ [b])) = q at hp
      by_cases he : q.2.2 = 0
      ·
       rw [if_neg (fun h => h he)] at hp ⊢
       rw [runM_step most s _ b _ 0 _ _ _ hp, if_neg (fun h => h rfl)]
       simp
      ·
       rw [if_pos he] at hp ⊢
       rw [runM_step most s _ b _ _ _ _ _ hp, if_pos he]
       simp
    ·
     by_cases h2 : er (came ++ [b]) = 2
     ·
      have hst : stG came (b :: r) i room = stG (came ++ [b]) r (i + 1) (room - 1) := by simp only [stG]; rw [if_neg h0, if_neg h1, if_pos h2]
      have hs : stepM most s b = ({ s with left := dc 1 s.left, came := came ++ [b] }, [], 0) := by
       unfold stepM
       rw [if_neg zz3, htk, if_neg (fun h => h rfl), hc, if_pos h2]
       simp only [takeM, htk]
      have hp := hpush _ hs
      rw [if_neg (fun h => h rfl)] at hp
      have hcl : closeM { s with left := dc 1 s.left, came := came ++ [b] } = ({ s with left := dc 1 s.left, came := came ++ [b], at_ := i + 1 }, []) := by
       unfold closeM; rw [if_neg zz29]; simp only [ha]
      simp only at hp
      rw [hcl] at hp
      rw [hst, runM_step most s _ b _ 0 _ _ _ hp, if_neg (fun h => h rfl)]
      simp only [List.append_nil]
      have ih := st_run most r (came ++ [b]) (i + 1) (room - 1) { s with left := dc 1 s.left, came := came ++ [b], at_ := i + 1 } acc ho hl rfl rfl (fun h => by simp at h) hR1
      refine ⟨ih.1, fun h => ?_⟩
      obtain ⟨n, C, a1, a2, a3, a4, a5, a6, a7, a8⟩ := ih.2 h
      refine ⟨n + 1, C, zz44, by rw [a2]; omega, a3, a4, a5, fun x hx => ?_, zz3, ?_⟩
      ·
       rcases a6 x hx with hx | hx
       ·
        rcases List.mem_append.1 hx with hx | hx
        ·
         exact .inl hx
        ·
         exact .inr (by rw [List.mem_singleton.1 hx]; simp)
       ·
        exact .inr (by simp [hx])
      ·
       rw [a8]
       simp only [dc_dc, List.drop_succ_cons]
       rw [show 1 + (n + 1) = n + 1 + 1 by omega, show i + 1 + (n : Int) = i + ((n + 1 : Nat) : Int) by omega]
     ·
      have hst : stG came (b :: r) i room = (_root_.Go.Proofs.Ytpfconocipmcjaa.PC.h0, i, er (came ++ [b])) := by simp only [stG]; rw [if_neg h0, if_neg h1, if_neg h2]
      rw [hst]
      refine ⟨fun _ => ?_, fun h => absurd h h1⟩
      have hs : stepM most s b = ({ takeM s with came := s.came ++ [b] }, [], er (came ++ [b])) := by
       unfold stepM
       rw [if_neg zz3, htk, if_neg (fun h => h rfl), hc, if_neg h2, if_pos h1]
      have hp := hpush _ hs
      rw [if_pos h1] at hp
      rw [runM_step most s _ b _ _ _ _ _ hp, if_pos h1]
end Go.Proofs.Ytpfconocipmcjaa.PC
namespace Go.Proofs.Ytpfconocipmcjaa.PC
open RowKit YtpfconocipmcjaaW.PrintWords YtpfconocipmcjaaW.PrintLast YtpfconocipmcjaaW.PrintMore
set_option linter.unusedVariables false
set_option linter.unusedSimpArgs false
def Mst (L : List Int) (at_ : Int) (bg : Bool) : St := ⟨L, [], 0, at_, bg, 0⟩
def goOn (mo : Nat) (a : ByteArray) (L : List Int) (p : Int) (l : List Ev) : List Ev × Int × Int := runM mo (Mst (exits (p - 1) L).1 p true) ((bytesOf a).drop p.toNat) p (l ++ (exits (p - 1) L).2)
theorem drop_next (a : ByteArray) (i : Int) (h0 : 0 ≤ i) (h1 : i < a.size) : (bytesOf a).drop i.toNat = bt a i :: (bytesOf a).drop (i + 1).toNat := Bs.drop_at a i h0 h1
theorem leaf_run (mo : Nat) (a : ByteArray) (fr n : Int) : ∀ (g : Nat) (k : Int) (l : List Ev) (s : St), 1 ≤ g → k + (g : Int) = n → 0 ≤ fr + k → fr + k ≤ a.size → s.over = 0 → s.came = [] → s.leaf = (g : Int) → s.at_ = fr + k → s.begun = true → (∀ x r, s.left = x :: r → (g : Int) ≤ x) →
 ((lfG a fr n g k l).2.1 ≠ 0 → runM mo s ((bytesOf a).drop (fr + k).toNat) (fr + k) l = lfG a fr n g k l) ∧
 ((lfG a fr n g k l).2.1 = 0 → (lfG a fr n g k l).2.2 = fr + n ∧ fr + n ≤ a.size ∧ runM mo s ((bytesOf a).drop (fr + k).toNat) (fr + k) l = goOn mo a (dc g s.left) (fr + n) (lfG a fr n g k l).1)
 | 0, k, l, s, hg, _, _, _, _, _, _, _, _, _ => absurd hg zz3
 | g + 1, k, l, s, hg, hk, h0, h1, ho, hc, hl, ha, hbg, hx => by
   have hnd : done s = false := by
    unfold done
    have : (s.leaf == 0) = false := beq_eq_false_iff_ne.2 zz3
    rw [this]; simp
   unfold lfG
   by_cases hz : (a.size : Int) ≤ fr + k
   ·
    rw [if_pos hz]
    refine ⟨fun _ => ?_, fun h => absurd (show (2 : Int) = 0 from h) zz13⟩
    rw [Bs.drop_end a (fr + k) hz]
    simp only [runM, hnd]
    simp; omega
   ·
    rw [if_neg hz]
    have htk : Mxm.tk s.left = (dc 1 s.left, 0) := by
     have := tk_dc 0 s.left (fun x r hxr => by have := hx x r hxr; omega)
     rwa [dc_zero] at this
    rw [drop_next a (fr + k) h0 zz3]
    by_cases hg1 : g = 0
    ·
     subst hg1
     have hs : stepM mo s (bt a (fr + k)) = ({ s with left := dc 1 s.left, leaf := 0 }, [ev 3 (fr + k) _root_.Go.Proofs.Ytpfconocipmcjaa.PC.h0 (bt a (fr + k)), ev 4 (fr + k) _root_.Go.Proofs.Ytpfconocipmcjaa.PC.h0 0], 0) := by
      unfold stepM
      rw [if_pos zz3]
      simp only [contentM, takeM, htk, ends, ha]
      rw [show s.leaf - 1 = 0 by omega]; rfl
     have hp : pushM mo s (bt a (fr + k)) = ((closeM { s with left := dc 1 s.left, leaf := 0 }).1, [ev 3 (fr + k) _root_.Go.Proofs.Ytpfconocipmcjaa.PC.h0 (bt a (fr + k)), ev 4 (fr + k) _root_.Go.Proofs.Ytpfconocipmcjaa.PC.h0 0] ++ (closeM { s with left := dc 1 s.left, leaf := 0 }).2, 0) := by
      unfold pushM
      rw [if_neg (by simp [ho]), if_neg (by rw [hnd]; decide), hs, if_neg (fun h => h rfl)]
     have hcl : closeM { s with left := dc 1 s.left, leaf := 0 } = (Mst (exits (fr + k) (dc 1 s.left)).1 (fr + k + 1) true, (exits (fr + k) (dc 1 s.left)).2) := by
      unfold closeM
      rw [if_pos ⟨rfl, hc⟩]
      simp only [Mst, ha, ho, hc, hbg]
     rw [hcl] at hp
     rw [runM_step mo s _ _ _ 0 _ _ _ hp, if_neg (fun h => h rfl)]
     simp only [lfG]
     refine ⟨fun h => absurd rfl h, fun _ => ⟨by first | trivial | rfl, zz3, ?_⟩⟩
     unfold goOn
     rw [show fr + n = fr + k + 1 by omega, show fr + k + 1 - 1 = fr + k by omega, List.append_assoc, List.append_assoc]
     rfl
    ·
     have hs : stepM mo s (bt a (fr + k)) = ({ s with left := dc 1 s.left, leaf := s.leaf - 1 }, [ev 3 (fr + k) _root_.Go.Proofs.Ytpfconocipmcjaa.PC.h0 (bt a (fr + k))], 0) := by
      unfold stepM
      rw [if_pos zz3]
      simp only [contentM, takeM, htk, ends, ha]
      rw [if_neg zz3]
     have hcl : closeM { s with left := dc 1 s.left, leaf := s.leaf - 1 } = ({ s with left := dc 1 s.left, leaf := s.leaf - 1, at_ := fr + k + 1 }, []) := by
      unfold closeM; rw [if_neg zz60]; simp only [ha]
     have hp : pushM mo s (bt a (fr + k)) = ({ s with left := dc 1 s.left, leaf := s.leaf - 1, at_ := fr + k + 1 }, [ev 3 (fr + k) _root_.Go.Proofs.Ytpfconocipmcjaa.PC.h0 (bt a (fr + k))], 0) := by
      unfold pushM
      rw [if_neg (by simp [ho]), if_neg (by rw [hnd]; decide), hs, if_neg (fun h => h rfl)]
      simp only [hcl, List.append_nil]
     rw [runM_step mo s _ _ _ 0 _ _ _ hp, if_neg (fun h => h rfl)]
     have ih := leaf_run mo a fr n g (k + 1) (l ++ [ev 3 (fr + k) _root_.Go.Proofs.Ytpfconocipmcjaa.PC.h0 (bt a (fr + k))]) { s with left := dc 1 s.left, leaf := s.leaf - 1, at_ := fr + k + 1 } zz3 zz3 zz3 zz3 ho hc zz60 zz60 hbg (fun x r hxr => by
      cases hls : s.left with
      | nil => rw [hls] at hxr; simp [dc] at hxr
      | cons y q =>
        rw [hls] at hxr
        simp only [dc, List.cons.injEq] at hxr
        have := hx y q hls
        omega)
     rw [show fr + (k + 1) = fr + k + 1 by omega] at ih
     simp only [dc_dc, show 1 + g = g + 1 by omega] at ih
     exact ih
def Tst (a : ByteArray) (p en : Int) : Hd × Int × Int := stG [] ((bytesOf a).drop p.toNat) p (en - p)
def At0 (L : List Int) (bg : Bool) (p en op : Int) : Prop := (L = [] ∧ en = -1 ∧ op = 0) ∨ (∃ R, L = (en - p) :: R ∧ p < en ∧ bg = true ∧ op = (L.length : Int))
theorem el_run (mo : Nat) (a : ByteArray) : ∀ (g : Nat),
 (∀ (l : List Ev) (p en op : Int) (r : List Ev × Int × Int) (L : List Int) (bg : Bool), elX a (Tst a) (mo : Int) g false l p en op = some r → 0 ≤ p → p ≤ a.size → At0 L bg p en op → L.length ≤ mo → (L = [] → bg = false) →
  (r.2.1 ≠ 0 → runM mo (Mst L p bg) ((bytesOf a).drop p.toNat) p l = r) ∧
  (r.2.1 = 0 → p < r.2.2 ∧ r.2.2 ≤ a.size ∧ (L ≠ [] → r.2.2 ≤ en) ∧ runM mo (Mst L p bg) ((bytesOf a).drop p.toNat) p l = goOn mo a (dc (r.2.2 - p).toNat L) r.2.2 r.1)) ∧
 (∀ (l : List Ev) (p stop op : Int) (r : List Ev × Int × Int) (R : List Int), elX a (Tst a) (mo : Int) g true l p stop op = some r → 0 ≤ p → p ≤ a.size → p ≤ stop → op = (R.length : Int) → R.length + 1 ≤ mo →
  (r.2.1 ≠ 0 → goOn mo a ((stop - p) :: R) p l = r) ∧
  (r.2.1 = 0 → r.2.2 = stop ∧ stop ≤ a.size ∧ goOn mo a ((stop - p) :: R) p l = goOn mo a R stop r.1))
 | 0 => ⟨fun l p en op r L bg h => by simp [elX] at h, fun l p stop op r R h => by simp [elX] at h⟩
 | g + 1 => by
   obtain ⟨ih1, ih2⟩ := el_run mo a g
   constructor
   ·
    intro l p en op r L bg h hp0 hp1 hA hlm hbg
    unfold elX at h
    have hroom : Room L (en - p) := by
     rcases hA with ⟨h1, h2, h3⟩ | ⟨R, h1, h2, _⟩
     ·
      exact .inl ⟨h1, zz3⟩
     ·
      exact .inr ⟨R, h1, zz3⟩
    have hdn : done (Mst L p bg) = false := by
     unfold done Mst
     rcases hA with ⟨h1, _⟩ | ⟨R, h1, _⟩
     ·
      rw [hbg h1]; simp
     ·
      rw [h1]; simp
      intros; omega
    have hop : op = (L.length : Int) := by
     rcases hA with ⟨h1, _, h3⟩ | ⟨R, h1, _, _, h3⟩
     ·
      rw [h1, h3]; rfl
     ·
      exact h3
    have hen : L = [] → en = -1 := by
     intro hL
     rcases hA with ⟨_, h2, _⟩ | ⟨R, h1, _⟩
     ·
      exact h2
     ·
      rw [h1] at hL; exact absurd hL zz29
    have hleft : ∀ x R, L = x :: R → x = en - p := by
     intro x R hL
     rcases hA with ⟨h1, _⟩ | ⟨R', h1, _⟩
     ·
      rw [h1] at hL; exact absurd hL zz29
     ·
      rw [h1] at hL; exact (List.cons.inj hL).1.symm
    have hs := st_run mo ((bytesOf a).drop p.toNat) [] p (en - p) (Mst L p bg) l rfl rfl rfl rfl (fun _ => hdn) hroom
    have hT : stG [] ((bytesOf a).drop p.toNat) p (en - p) = Tst a p en := rfl
    rw [hT] at hs
    have hdl : ((bytesOf a).drop p.toNat).length = a.size - p.toNat := by rw [List.length_drop, bytesOf_length]
    by_cases c1 : (Tst a p en).2.2 = 0
    ·
     rw [if_neg (fun h => h c1)] at h
     obtain ⟨n, C, a1, a2, a3, a4, a5, a6, a7, a8⟩ := hs.2 c1
     rw [a2] at h
     rw [a4] at h
     have hbC : Idm.Bytes C := fun x hx => by
      rcases a6 x hx with h | h
      ·
       simp at h
      ·
       exact Bs.bytes_of a x (List.mem_of_mem_drop h)
     have hw := (hd_ok hbC a5).1
     have hn0 := hw.2.1
     have hdd : ((bytesOf a).drop p.toNat).drop (n + 1) = (bytesOf a).drop (p + (n : Int) + 1).toNat := by
      rw [List.drop_drop]; congr 1; omega
     rw [a8, hdd]
     clear a8 hs hw a6 a5 a3
     generalize _root_.Go.Proofs.Ytpfconocipmcjaa.PC.hd C = hh at *
     have hla : p + (n : Int) + 1 ≤ a.size := by omega
     have hdc : ∀ x R, L = x :: R → dc (n + 1) L = (en - (p + (n : Int) + 1)) :: R ∧ p + (n : Int) + 1 ≤ en := by
      intro x R hL
      have := hleft x R hL
      refine ⟨by rw [hL, this]; simp only [dc]; refine congrArg (· :: R) ?_; omega, ?_⟩
      rcases a7 with h | h
      ·
       rcases hroom with ⟨h1, _⟩ | ⟨R', h1, h2⟩
       ·
        rw [h1] at hL; exact absurd hL zz29
       ·
        omega
      ·
       omega
     by_cases c2 : 0 ≤ en ∧ en - (p + (n : Int) + 1) < hh.f3
     ·
      rw [if_pos c2] at h
      obtain rfl := Option.some.inj h
      refine ⟨fun _ => ?_, fun h => absurd (show (5 : Int) = 0 from h) zz13⟩
      cases hL : L with
      | nil => have := hen hL; omega
      | cons x R =>
        obtain ⟨d1, d2⟩ := hdc x R hL
        unfold after
        have hb : beginM mo { Mst L p bg with came := C, left := dc (n + 1) L, at_ := p + (n : Int) } hh = ({ Mst L p bg with came := C, left := dc (n + 1) L, at_ := p + (n : Int) }, [], 5) := by
         unfold beginM
         rw [if_pos (by simp only [Mst]; rw [d1]; exact ⟨zz29, c2.2⟩)]
        rw [← hL, show (Mst L p bg).left = L from rfl, hb]
        rw [if_pos (show (5 : Int) ≠ 0 by decide)]
     ·
      rw [if_neg c2] at h
      have hfit : ¬ (0 < ((dc (n + 1) L).length : Int) ∧ (dc (n + 1) L).headD 0 < hh.f3) := by
       intro ⟨h1, h2⟩
       cases hL : L with
       | nil => rw [hL] at h1; simp [dc] at h1
       | cons x R =>
         obtain ⟨d1, d2⟩ := hdc x R hL
         rw [d1] at h2
         exact c2 ⟨zz3, h2⟩
      by_cases c3 : hh.f2 = false
      ·
       rw [if_pos c3] at h
       obtain rfl := Option.some.inj h
       have hb : beginM mo { Mst L p bg with came := C, left := dc (n + 1) L, at_ := p + (n : Int) } hh = (⟨dc (n + 1) L, [], hh.f3, p + (n : Int), true, 0⟩, ev 2 (p + (n : Int)) hh 0 :: ends (Mst L (p + (n : Int)) bg) hh.f3, 0) := by
        unfold beginM
        rw [if_neg hfit, if_neg (by rw [c3]; decide)]
        rfl
       unfold after
       rw [show (Mst L p bg).left = L from rfl, hb, if_neg (fun h => h rfl)]
       simp only
       unfold lfM
       by_cases hz : hh.f3 = 0
       ·
        rw [if_pos hz]
        refine ⟨fun h => absurd rfl h, fun _ => ⟨zz60, hla, fun hL => ?_, ?_⟩⟩
        ·
         cases hL2 : L with
         | nil => exact absurd hL2 hL
         | cons x R => exact (hdc x R hL2).2
        ·
         have hcl : closeM ⟨dc (n + 1) L, [], hh.f3, p + (n : Int), true, 0⟩ = (Mst (exits (p + (n : Int)) (dc (n + 1) L)).1 (p + (n : Int) + 1) true, (exits (p + (n : Int)) (dc (n + 1) L)).2) := by
          unfold closeM
          rw [if_pos ⟨hz, rfl⟩]
          simp only [Mst, hz]
         rw [hcl]
         unfold goOn
         simp only
         rw [show p + (n : Int) + 1 - 1 = p + (n : Int) by omega, show (p + (n : Int) + 1 - p).toNat = n + 1 by omega]
         simp only [ends, hz, if_true, Mst, List.append_assoc, List.cons_append, List.nil_append]
       ·
        rw [if_neg hz]
        have hcl : closeM ⟨dc (n + 1) L, [], hh.f3, p + (n : Int), true, 0⟩ = (⟨dc (n + 1) L, [], hh.f3, p + (n : Int) + 1, true, 0⟩, []) := by
         unfold closeM; rw [if_neg (fun h => hz h.1)]
        rw [hcl]
        simp only [ends, if_neg hz, List.append_nil]
        have hlr := leaf_run mo a (p + (n : Int) + 1) hh.f3 hh.f3.toNat 0 (l ++ [ev 2 (p + (n : Int)) hh 0]) ⟨dc (n + 1) L, [], hh.f3, p + (n : Int) + 1, true, 0⟩ zz3 zz3 zz3 zz3 rfl rfl zz60 zz60 rfl (fun x R hx => by
         simp only at hx
         cases hL : L with
         | nil => rw [hL] at hx; simp [dc] at hx
         | cons y Q =>
           obtain ⟨d1, d2⟩ := hdc y Q hL
           rw [d1] at hx
           have := (List.cons.inj hx).1
           have : ¬ (en - (p + (n : Int) + 1) < hh.f3) := fun h => c2 ⟨zz3, h⟩
           omega)
        rw [show p + (n : Int) + 1 + 0 = p + (n : Int) + 1 by omega] at hlr
        refine ⟨hlr.1, fun h => ?_⟩
        obtain ⟨e1, e2, e3⟩ := hlr.2 h
        refine ⟨zz3, zz3, fun hL => ?_, ?_⟩
        ·
         cases hL2 : L with
         | nil => exact absurd hL2 hL
         | cons y Q =>
           obtain ⟨d1, d2⟩ := hdc y Q hL2
           have : ¬ (en - (p + (n : Int) + 1) < hh.f3) := fun h => c2 ⟨zz3, h⟩
           omega
        ·
         rw [e3, e1]
         simp only [dc_dc]
         rw [show n + 1 + hh.f3.toNat = (p + (n : Int) + 1 + hh.f3 - p).toNat by omega]
      ·
       rw [if_neg c3] at h
       have c3 : hh.f2 = true := by simpa using c3
       by_cases c4 : op = (mo : Int)
       ·
        rw [if_pos c4] at h
        obtain rfl := Option.some.inj h
        refine ⟨fun _ => ?_, fun h => absurd (show (10 : Int) = 0 from h) zz13⟩
        have hen10 : (Mxm.en mo (dc (n + 1) L) hh.f3).2 = 10 := by
         cases hL : L with
         | nil =>
           rw [hL] at hop
           simp only [dc, Mxm.en]
           rw [if_pos (by simp at hop; omega)]
         | cons x R =>
           obtain ⟨d1, d2⟩ := hdc x R hL
           rw [← hL, d1]
           simp only [Mxm.en]
           rw [if_neg (fun h => c2 ⟨zz3, h⟩), if_pos (by rw [hL] at hop; simp at hop; omega)]
        unfold after
        have hb : (beginM mo { Mst L p bg with came := C, left := dc (n + 1) L, at_ := p + (n : Int) } hh).2.2 = 10 := by
         unfold beginM
         rw [if_neg hfit, if_pos c3, if_pos (by rw [hen10]; decide), hen10]
        rw [show (Mst L p bg).left = L from rfl, hb, if_pos zz13]
       ·
        rw [if_neg c4] at h
        obtain ⟨L2, hL2⟩ : ∃ L2, Mxm.en mo (dc (n + 1) L) hh.f3 = (hh.f3 :: L2, 0) ∧ L2.length = L.length ∧ (∀ k : Nat, hh.f3 = (k : Int) → L2 = dc (n + 1 + k) L) := by
         cases hL : L with
         | nil =>
           rw [hL] at hop
           refine ⟨[], ?_, rfl, fun k hk => rfl⟩
           simp only [dc, Mxm.en]
           rw [if_neg (by simp at hop; omega)]
         | cons x R =>
           obtain ⟨d1, d2⟩ := hdc x R hL
           refine ⟨(en - (p + (n : Int) + 1) - hh.f3) :: R, ?_, zz29, fun k hk => ?_⟩
           ·
            rw [← hL, d1]
            simp only [Mxm.en]
            rw [if_neg (fun h => c2 ⟨zz3, h⟩), if_neg (by rw [hL] at hop hlm; simp at hop hlm; omega)]
           ·
            rw [← hL, ← dc_dc, d1]
            simp only [dc]; refine congrArg (· :: R) ?_; omega
        obtain ⟨hL2a, hL2b, hL2c⟩ := hL2
        have hb : beginM mo { Mst L p bg with came := C, left := dc (n + 1) L, at_ := p + (n : Int) } hh = (⟨hh.f3 :: L2, [], 0, p + (n : Int), true, 0⟩, [ev 1 (p + (n : Int)) hh 0], 0) := by
         unfold beginM
         rw [if_neg hfit, if_pos c3, if_neg (by rw [hL2a]; exact fun h => h rfl), hL2a]
         rfl
        have hcl : closeM ⟨hh.f3 :: L2, [], 0, p + (n : Int), true, 0⟩ = (Mst (exits (p + (n : Int)) (hh.f3 :: L2)).1 (p + (n : Int) + 1) true, (exits (p + (n : Int)) (hh.f3 :: L2)).2) := by
         unfold closeM; rw [if_pos ⟨rfl, rfl⟩]; rfl
        have hgo : after mo { Mst L p bg with came := C, left := dc (n + 1) L, at_ := p + (n : Int) } hh ((bytesOf a).drop (p + (n : Int) + 1).toNat) (p + (n : Int)) l = goOn mo a ((p + (n : Int) + 1 + hh.f3 - (p + (n : Int) + 1)) :: L2) (p + (n : Int) + 1) (l ++ [ev 1 (p + (n : Int)) hh 0]) := by
         unfold after
         rw [hb, if_neg (fun h => h rfl)]
         simp only
         rw [hcl]
         unfold goOn
         rw [show p + (n : Int) + 1 + hh.f3 - (p + (n : Int) + 1) = hh.f3 by omega, show p + (n : Int) + 1 - 1 = p + (n : Int) by omega, List.append_assoc]
        rw [show (Mst L p bg).left = L from rfl, hgo]
        have i2 := ih2 _ _ _ _ r L2 h zz3 hla zz3 zz3 zz3
        refine ⟨i2.1, fun hr => ?_⟩
        obtain ⟨e1, e2, e3⟩ := i2.2 hr
        refine ⟨zz3, zz3, fun hL => ?_, ?_⟩
        ·
         cases hLc : L with
         | nil => exact absurd hLc hL
         | cons y Q =>
           obtain ⟨d1, d2⟩ := hdc y Q hLc
           have : ¬ (en - (p + (n : Int) + 1) < hh.f3) := fun h => c2 ⟨zz3, h⟩
           omega
        ·
         rw [e3, e1, hL2c hh.f3.toNat zz3, show n + 1 + hh.f3.toNat = (p + (n : Int) + 1 + hh.f3 - p).toNat by omega]
    ·
     rw [if_pos c1] at h
     obtain rfl := Option.some.inj h
     exact ⟨fun _ => hs.1 c1, fun h => absurd h c1⟩
   ·
    intro l p stop op r R h hp0 hp1 hps hop hlm
    unfold elX at h
    by_cases hlt : p < stop
    ·
     rw [if_pos hlt] at h
     obtain ⟨t, ht, h⟩ := Option.bind_eq_some_iff.mp h
     have hgo : goOn mo a ((stop - p) :: R) p l = runM mo (Mst ((stop - p) :: R) p true) ((bytesOf a).drop p.toNat) p l := by
      unfold goOn
      simp only [exits]
      rw [if_neg zz3, List.append_nil]
     have i1 := ih1 l p stop (op + 1) t ((stop - p) :: R) true ht hp0 hp1 (.inr ⟨R, rfl, hlt, rfl, by simp [hop]⟩) (by simpa using hlm) (fun h => by simp at h)
     rw [hgo]
     by_cases ht0 : t.2.1 = 0
     ·
      rw [if_neg (fun h => h ht0)] at h
      obtain ⟨e1, e2, e3, e4⟩ := i1.2 ht0
      have e3 := e3 zz29
      rw [e4]
      have hd : dc (t.2.2 - p).toNat ((stop - p) :: R) = (stop - t.2.2) :: R := by
       simp only [dc]; refine congrArg (· :: R) ?_; omega
      rw [hd]
      exact ih2 t.1 t.2.2 stop op r R h zz3 e2 e3 hop hlm
     ·
      rw [if_pos ht0] at h
      obtain rfl := Option.some.inj h
      exact ⟨i1.1, fun h => absurd h ht0⟩
    ·
     rw [if_neg hlt] at h
     obtain rfl := Option.some.inj h
     refine ⟨fun h => absurd rfl h, fun _ => ⟨zz60, zz3, ?_⟩⟩
     obtain rfl : p = stop := by omega
     unfold goOn
     rw [show p - p = 0 by omega]
     simp only [exits, if_true, List.append_assoc, List.cons_append, List.nil_append]
end Go.Proofs.Ytpfconocipmcjaa.PC
namespace Go.Proofs.Ytpfconocipmcjaa.PC
open RowKit YtpfconocipmcjaaW.PrintWords YtpfconocipmcjaaW.PrintLast YtpfconocipmcjaaW.PrintMore
set_option linter.unusedVariables false
set_option linter.unusedSimpArgs false
theorem stG_good : ∀ (rest came : List Int) (i room : Int), Idm.Bytes came → Idm.Bytes rest → (stG came rest i room).2.2 = 0 → i ≤ (stG came rest i room).2.1 ∧ (stG came rest i room).2.1 < i + (rest.length : Int) ∧ 0 ≤ (stG came rest i room).1.f3 ∧ (stG came rest i room).1.f3 ≤ 2305843009213693951
 | [], came, i, room, hc, hr, h => by simp [stG] at h
 | b :: r, came, i, room, hc, hr, h => by
   have hcb : Idm.Bytes (came ++ [b]) := bytes_snoc hc (hr b zz29)
   by_cases h0 : room = 0
   ·
    rw [show stG came (b :: r) i room = (_root_.Go.Proofs.Ytpfconocipmcjaa.PC.h0, i, 5) by simp only [stG]; rw [if_pos h0]] at h
    exact absurd (show (5 : Int) = 0 from h) zz13
   ·
    by_cases h1 : er (came ++ [b]) = 0
    ·
     rw [show stG came (b :: r) i room = (hd (came ++ [b]), i, 0) by simp only [stG]; rw [if_neg h0, if_pos h1]]
     have hw := (hd_ok hcb h1).1
     exact ⟨Int.le_refl _, zz44, hw.2.1, hw.2.2⟩
    ·
     by_cases h2 : er (came ++ [b]) = 2
     ·
      have e : stG came (b :: r) i room = stG (came ++ [b]) r (i + 1) (room - 1) := by simp only [stG]; rw [if_neg h0, if_neg h1, if_pos h2]
      rw [e] at h ⊢
      have ih := stG_good r (came ++ [b]) (i + 1) (room - 1) hcb (fun x hx => hr x (by simp [hx])) h
      exact ⟨zz3, by simp only [List.length_cons]; omega, ih.2.2⟩
     ·
      rw [show stG came (b :: r) i room = (_root_.Go.Proofs.Ytpfconocipmcjaa.PC.h0, i, er (came ++ [b])) by simp only [stG]; rw [if_neg h0, if_neg h1, if_neg h2]] at h
      exact absurd h h1
theorem good_T (a : ByteArray) : GoodT a (Tst a) := by
 intro p en h0 h1 h
 have := stG_good ((bytesOf a).drop p.toNat) [] p (en - p) (fun x hx => by simp at hx) (fun x hx => Bs.bytes_of a x (List.mem_of_mem_drop hx)) h
 rw [List.length_drop, bytesOf_length] at this
 exact ⟨this.1, by have := this.2.1; unfold Tst; omega, this.2.2.1, this.2.2.2⟩
theorem elX_some (a : ByteArray) (T : Int → Int → Hd × Int × Int) (most : Int) (hT : GoodT a T) : ∀ g : Nat,
 (∀ (l : List Ev) (p en op : Int), 0 ≤ p → p ≤ a.size → 2 * ((a.size : Int) - p) + 2 ≤ g → ∃ r, elX a T most g false l p en op = some r) ∧
 (∀ (l : List Ev) (p stop op : Int), 0 ≤ p → p ≤ a.size → 2 * ((a.size : Int) - p) + 3 ≤ g → ∃ r, elX a T most g true l p stop op = some r)
 | 0 => ⟨fun l p en op h0 h1 h => by omega, fun l p en op h0 h1 h => by omega⟩
 | g + 1 => by
   obtain ⟨ih1, ih2⟩ := elX_some a T most hT g
   constructor
   ·
    intro l p en op h0 h1 h
    unfold elX
    by_cases c1 : (T p en).2.2 ≠ 0
    ·
     rw [if_pos c1]; exact ⟨_, rfl⟩
    rw [if_neg c1]
    have tt := hT p en h0 h1 (by simpa using c1)
    split
    ·
     exact ⟨_, rfl⟩
    ·
     split
     ·
      exact ⟨_, rfl⟩
     ·
      split
      ·
       exact ⟨_, rfl⟩
      ·
       exact ih2 _ _ _ _ zz3 zz3 zz3
   ·
    intro l p stop op h0 h1 h
    unfold elX
    split
    ·
     obtain ⟨t, ht⟩ := ih1 l p stop (op + 1) h0 h1 zz3
     rw [ht, Option.bind_some]
     split
     ·
      exact ⟨_, rfl⟩
     ·
      rename_i hc
      have hc : t.2.1 = 0 := by simpa using hc
      have hl := elX_len a T most hT g false l p stop (op + 1) (3 * p - l.length) t ht h0 h1 hc zz44
      exact ih2 _ _ _ _ (by have := hl.2.2.1 rfl; omega) hl.2.2.2 (by have := hl.2.2.1 rfl; omega)
    ·
     exact ⟨_, rfl⟩
def refW (a : ByteArray) (r : List Ev × Int × Int) : List Ev × Int × Int := if r.2.1 = 0 ∧ r.2.2 < (a.size : Int) then (r.1, 6, r.2.2) else r
theorem whole_ref (mo : Nat) (a : ByteArray) (g : Nat) (r : List Ev × Int × Int) (h : elX a (Tst a) (mo : Int) g false [] 0 (-1) 0 = some r) : wholeM mo (bytesOf a) = refW a r := by
 have hr := (el_run mo a g).1 [] 0 (-1) 0 r [] false h (Int.le_refl _) zz3 (.inl ⟨rfl, rfl, rfl⟩) zz29 (fun _ => rfl)
 have hm : Mst [] 0 false = init0 := rfl
 rw [hm, show ((0 : Int)).toNat = 0 from rfl, List.drop_zero] at hr
 unfold wholeM refW
 by_cases h0 : r.2.1 = 0
 ·
  obtain ⟨e1, e2, _, e3⟩ := hr.2 h0
  rw [e3]
  unfold goOn
  simp only [dc, exits, List.append_nil]
  have hdn : done (Mst [] r.2.2 true) = true := rfl
  by_cases h1 : r.2.2 < (a.size : Int)
  ·
   rw [if_pos ⟨h0, h1⟩, drop_next a r.2.2 zz3 h1, run_more mo _ hdn rfl]
  ·
   rw [if_neg (fun h => h1 h.2), Bs.drop_end a r.2.2 zz3]
   simp only [runM, hdn, if_true]
   obtain ⟨r1, r2, r3⟩ := r
   simp only at h0 ⊢
   rw [h0]
 ·
  rw [hr.1 h0, if_neg (fun h => h0 h.1)]
theorem start_l0 (a : ByteArray) (hs : a.size ≤ 281474976710000) (p en : Int) (hp0 : 0 ≤ p) (hp1 : p ≤ a.size) : ∀ (d k : Nat) (i : Int) (came : List Int), i + (d : Int) = a.size → p ≤ i → came = ((bytesOf a).drop p.toNat).take (i - p).toNat → 2 * a.size + 20 + d < k →
 gantletref09_start.l0 k a p en i = some ((stG came ((bytesOf a).drop i.toNat) i (en - i)).1.f0, (stG came ((bytesOf a).drop i.toNat) i (en - i)).1.f1, (stG came ((bytesOf a).drop i.toNat) i (en - i)).1.f2, (stG came ((bytesOf a).drop i.toNat) i (en - i)).1.f3, (stG came ((bytesOf a).drop i.toNat) i (en - i)).2.1, (stG came ((bytesOf a).drop i.toNat) i (en - i)).2.2)
 | d, 0, i, came, hd, hpi, hc, hk => absurd hk zz3
 | 0, k + 1, i, came, hd, hpi, hc, hk => by
   simp only [gantletref09_start.l0]
   rw [if_neg zz3, Bs.drop_end a i zz3]
   simp only [stG, h0]
   rw [show i = (a.size : Int) by omega]
 | d + 1, k + 1, i, came, hd, hpi, hc, hk => by
   have hi : i < a.size := by omega
   have hdr := drop_next a i zz3 hi
   have ew : wrap64 (i + 1) = i + 1 := Bs.w64 zz3 zz3
   have hcl : came.length = (i - p).toNat := by rw [hc, List.length_take, List.length_drop, bytesOf_length]; omega
   have hnx : ((bytesOf a).drop p.toNat).take (i + 1 - p).toNat = came ++ [bt a i] := by
    rw [show (i + 1 - p).toNat = (i - p).toNat + 1 by omega, List.take_add_one, ← hc]
    have : ((bytesOf a).drop p.toNat)[(i - p).toNat]? = some (bt a i) := by
     rw [List.getElem?_drop, show p.toNat + (i - p).toNat = i.toNat by omega, ← List.head?_drop, hdr]; rfl
    rw [this]; rfl
   rw [hdr]
   simp only [gantletref09_start.l0]
   rw [if_pos hi]
   by_cases he : i = en
   ·
    rw [if_pos he]
    simp only [stG]
    rw [if_pos zz3]
    rfl
   rw [if_neg he, ew, if_pos zz3, if_pos zz3]
   have hsz : (a.extract 0 (i + 1).toNat).size = (i + 1).toNat := by rw [ByteArray.size_extract]; omega
   rw [BHd.rhget_ok (a.extract 0 (i + 1).toNat) zz3 p hp0 zz3 k zz3, Option.bind_some]
   have eb : (bytesOf (a.extract 0 (i + 1).toNat)).drop p.toNat = came ++ [bt a i] := by
    rw [Bs.bytesOf_front, ← hnx, List.drop_take]
    congr 1; omega
   rw [eb]
   have heg : (BHd.gotH p (Hdm.hg (came ++ [bt a i]))).2.2.2.2.2 = er (came ++ [bt a i]) := rfl
   rw [heg]
   by_cases h1 : er (came ++ [bt a i]) = 0
   ·
    rw [if_pos h1]
    have e : stG came (bt a i :: (bytesOf a).drop (i + 1).toNat) i (en - i) = (_root_.Go.Proofs.Ytpfconocipmcjaa.PC.hd (came ++ [bt a i]), i, 0) := by simp only [stG]; rw [if_neg zz3, if_pos h1]
    rw [e]; rfl
   ·
    rw [if_neg h1]
    by_cases h2 : er (came ++ [bt a i]) = 2
    ·
     rw [if_pos h2]
     have e : stG came (bt a i :: (bytesOf a).drop (i + 1).toNat) i (en - i) = stG (came ++ [bt a i]) ((bytesOf a).drop (i + 1).toNat) (i + 1) (en - (i + 1)) := by
      simp only [stG]; rw [if_neg zz3, if_neg h1, if_pos h2, show en - i - 1 = en - (i + 1) by omega]
     rw [e]
     exact start_l0 a hs p en hp0 hp1 d k (i + 1) (came ++ [bt a i]) zz3 zz3 hnx.symm zz3
    ·
     rw [if_neg h2]
     have e : stG came (bt a i :: (bytesOf a).drop (i + 1).toNat) i (en - i) = (_root_.Go.Proofs.Ytpfconocipmcjaa.PC.h0, i, er (came ++ [bt a i])) := by simp only [stG]; rw [if_neg zz3, if_neg h1, if_neg h2]
     rw [e]; rfl
theorem start_ok (a : ByteArray) (hs : a.size ≤ 700) (p en : Int) (hp0 : 0 ≤ p) (hp1 : p ≤ a.size) : gantletref09_start.f 3000 a p en = some ((Tst a p en).1.f0, (Tst a p en).1.f1, (Tst a p en).1.f2, (Tst a p en).1.f3, (Tst a p en).2.1, (Tst a p en).2.2) := by
 unfold gantletref09_start.f Tst
 exact start_l0 a zz3 p en hp0 hp1 (a.size - p.toNat) 3000 p [] zz3 (Int.le_refl _) (by rw [show p - p = 0 by omega]; rfl) zz3
end Go.Proofs.Ytpfconocipmcjaa.PC
namespace Go.Proofs.Ytpfconocipmcjaa.PC
open RowKit YtpfconocipmcjaaW.PrintWords YtpfconocipmcjaaW.PrintLast YtpfconocipmcjaaW.PrintMore Own
attribute [local go_sem] max2_int min2_int max_two min_two max_three min_three max_four min_four
set_option linter.unusedVariables false
set_option linter.unusedSimpArgs false
theorem cs_nil {w : World} : Cs w none ([] : List Ev) := by
 obtain ⟨A, c, e, _, h⟩ := cs_row (Kd.R_nil k39 39 w 0 None0 : k39.R 39 w 0 None0 (.slice none 0 0) ([] : List Ev))
 cases e
 exact h
theorem start_T (a : ByteArray) (hs : a.size ≤ 700) : StartT a (Tst a) := by
 intro p en w h0 h1 h2 h3
 exact (gantletref09_start.calls 3000 a p en _ _ _ _ _ _ w (start_ok a hs p en h0 h1)).mono fun e w' ⟨h4, h5⟩ => ⟨h4, h5⟩
theorem refW_any (a : ByteArray) (dp : Int) (hs : a.size ≤ 700) (r1 : List Ev) (r2 r3 : Int) (h : event_Whole.f a dp = some (r1, r2, r3)) (w : World) :
 Calls Try.prog 12 #[.string a, .int .i64 dp] w fun e w' => ∃ A2 c2, e = .returned (.agg #[.slice A2 r1.length c2, .int .i64 r2, .int .i64 r3]) ∧ Cs w' A2 r1 ∧ r1.length ≤ c2 ∧ Below w.heap.size w w' := by
 have hm : (0 : Int) ≤ mn (mx dp 0) 64 ∧ mn (mx dp 0) 64 ≤ 64 := by unfold mn mx; (repeat' split) <;> omega
 obtain ⟨dq, hdq⟩ : ∃ q, q = mn (mx dp 0) 64 := ⟨_, rfl⟩
 rw [← hdq] at hm
 unfold event_Whole.f at h
 rw [if_pos hs, ← hdq] at h
 obtain ⟨⟨q1, q2, q3⟩, hq⟩ := (elX_some a (Tst a) dq (good_T a) 2000).1 [] 0 (-1) 0 (Int.le_refl _) zz3 zz3
 have hmo : ((dq.toNat : Nat) : Int) = dq := by omega
 have hwr := whole_ref dq.toNat a 2000 (q1, q2, q3) (by rw [hmo]; exact hq)
 rw [hwr] at h
 have hE : ∀ w, Calls Try.prog 18 #[.string a, .slice none 0 0, .int .i64 0, .int .i64 (-1), .int .i64 0, .int .i64 dq] w fun e w' => ∃ A2 c2, e = .returned (.agg #[.slice A2 q1.length c2, .int .i64 q2, .int .i64 q3]) ∧ Cs w' A2 q1 ∧ q1.length ≤ c2 ∧ Below w.heap.size w w' := fun w =>
  elem_any a (Tst a) (good_T a) (start_T a hs) hs dq hm.1 hm.2 2000 [] none 0 0 (-1) 0 w q1 q2 q3 cs_nil (Nat.le_refl _) (Int.le_refl _) zz3 (Int.le_refl _) zz13 (Int.le_refl _) hm.1 zz29 hq
 by_cases h0 : q2 = 0
 ·
  by_cases h1 : q3 < (a.size : Int)
  ·
   have e : refW a (q1, q2, q3) = (q1, 6, q3) := by unfold refW; rw [if_pos ⟨h0, h1⟩]
   rw [e] at h
   simp only [Option.some.injEq, Prod.mk.injEq] at h
   obtain ⟨rfl, rfl, rfl⟩ := h
   exact refw_more a dp dq q1 q2 q3 w hs hdq h0 h1 hE
  ·
   have e : refW a (q1, q2, q3) = (q1, q2, q3) := by unfold refW; rw [if_neg (fun h => h1 h.2)]
   rw [e] at h
   simp only [Option.some.injEq, Prod.mk.injEq] at h
   obtain ⟨rfl, rfl, rfl⟩ := h
   exact refw_all a dp dq q1 q2 q3 w hs hdq h0 h1 hE
 ·
  have e : refW a (q1, q2, q3) = (q1, q2, q3) := by unfold refW; rw [if_neg (fun h => h0 h.1)]
  rw [e] at h
  simp only [Option.some.injEq, Prod.mk.injEq] at h
  obtain ⟨rfl, rfl, rfl⟩ := h
  exact refw_err a dp dq q1 q2 q3 w hs hdq h0 hE
end Go.Proofs.Ytpfconocipmcjaa.PC
namespace Go.Proofs.Ytpfconocipmcjaa.Vp
open RowKit PC YtpfconocipmcjaaW.PrintWords YtpfconocipmcjaaW.PrintLast YtpfconocipmcjaaW.PrintMore Own Sl
open Bs
set_option linter.unusedVariables false
set_option linter.unusedSimpArgs false
end Go.Proofs.Ytpfconocipmcjaa.Vp
namespace Go.Proofs.Ytpfconocipmcjaa.Sl
open RowKit YtpfconocipmcjaaW.PrintWords YtpfconocipmcjaaW.PrintLast YtpfconocipmcjaaW.PrintMore Own
set_option linter.unusedVariables false
def Nty (e : Nat) (w : World) (k : Nat) : Prop := ∃ cs t, t ≠ e ∧ w.heap[k]? = some (.cells cs t (0, 0))
def NT (e : Nat) (a : Ast) : Prop := ∀ (w : World) (S : Nat → Prop), a.P w S → a.P w (fun k => S k ∧ Nty e w k)
theorem NT.blk {e g t : Nat} {cs : Array Value} (ht : t ≠ e) : NT e (blk g cs t) := fun w S h => ⟨⟨h.1, cs, t, ht, h.2⟩, h.2⟩
theorem NT.pu {e : Nat} {p : Prop} : NT e (pu p) := fun w S h => h
theorem NT.ex {e : Nat} {α : Type} {f : α → Ast} (h : ∀ x, NT e (f x)) : NT e (ex f) := fun w S ⟨x, hx⟩ => ⟨x, h x w S hx⟩
theorem NT.row {e : Nat} {α : Type} {d : Kd α} {q : Nat} {v : Value} {xs : List α} (hq : ∀ t, t ∈ q :: d.E → t ≠ e) : NT e (row d q v xs) := fun w S h =>
 Kd.R_mono (Kd.R_bound h) (fun k hk => ⟨hk.1, by obtain ⟨t, ht, cs, hc⟩ := hk.2.2.2; exact ⟨cs, t, hq t ht, hc⟩⟩)
open Classical in
theorem Hs.nt {e : Nat} {l : List Ast} (hl : ∀ a, a ∈ l → NT e a) {w : World} {S : Nat → Prop} (h : Hs w S l) : Hs w (fun k => S k ∧ Nty e w k) l := by
 obtain ⟨own, h1, h2⟩ := h
 refine ⟨fun k => if Nty e w k then own k else 0, fun k hk => ?_, fun i a ha => ?_⟩
 ·
  dsimp only at hk
  by_cases h5 : Nty e w k
  ·
   rw [if_pos h5] at hk; exact ⟨h1 k hk, h5⟩
  ·
   rw [if_neg h5] at hk; exact absurd rfl hk
 ·
  refine a.mo (hl a (List.mem_of_getElem? ha) w _ (h2 i a ha)) (fun k hk => ?_)
  show (if Nty e w k then own k else 0) = i + 1
  rw [if_pos hk.2]; exact hk.1
theorem NT.sep {e : Nat} {l : List Ast} (hl : ∀ a, a ∈ l → NT e a) : NT e (sep l) := fun w S h => Hs.nt hl h
theorem NT.two {e : Nat} {a b : Ast} (ha : NT e a) (hb : NT e b) : NT e (Sl.sep [a, b]) := NT.sep (fun x hx => by
 rcases List.mem_cons.1 hx with rfl | hx
 ·
  exact ha
 ·
  obtain rfl := List.mem_singleton.1 hx
  exact hb)
theorem Sp.alone {e : Nat} {w0 w : World} {S0 : Nat → Prop} {l : List Ast} {a : Ast} (h : Sp w0 S0 (a :: l) w) (ha : NT e a) : ∃ T : Nat → Prop, (∀ k, T k → Nty e w k) ∧ Sp w T [a] w ∧ ∀ (W : World) (b : Ast), Sp w T [b] W → Sp w0 S0 (b :: l) W := by
 obtain ⟨T, hP, hb⟩ := h.opn 0 a rfl
 refine ⟨fun k => T k ∧ Nty e w k, fun k hk => hk.2, ?_, fun W b hW => ?_⟩
 ·
  refine Sp.start ⟨fun k => open Classical in if T k ∧ Nty e w k then 1 else 0, fun k hk => ?_, fun i c hc => ?_⟩
  ·
   dsimp only at hk
   by_cases h5 : T k ∧ Nty e w k
   ·
    exact h5
   ·
    rw [if_neg h5] at hk; exact absurd rfl hk
  ·
   match i, hc with
   | 0, hc =>
     cases hc
     exact a.mo (ha w T hP) (fun k hk => if_pos hk)
   | i + 1, hc => simp at hc
 ·
  exact hb W b _ (fun k hk => hk.1) hW.u (b.mo (hW.h.get 0 b rfl) (New.mono (fun k hk => hk.1)))
end Go.Proofs.Ytpfconocipmcjaa.Sl
namespace Go.Proofs.Ytpfconocipmcjaa.Vp
open RowKit PC YtpfconocipmcjaaW.PrintWords YtpfconocipmcjaaW.PrintLast YtpfconocipmcjaaW.PrintMore Own Sl
open Bs
set_option linter.unusedVariables false
set_option linter.unusedSimpArgs false
theorem bi_pos : ∀ (l : List Ev) (c : Cs) (i : Int), bi c i l = -1 ∨ i ≤ bi c i l
  | [], c, i => .inl rfl
  | e :: l, c, i => by
    cases hl : lookC c e with
    | none => rw [bi_none hl]; exact .inr (Int.le_refl _)
    | some c' =>
      rw [bi_some hl]
      rcases bi_pos l c' (i + 1) with h | h
      · exact .inl h
      · exact .inr zz3
theorem nx_nt (s : Option Cs) (v : Value) : NT 39 (nx s v) := by
  rcases s with _ | (_ | _ | _ | _ | _ | _)
  · exact NT.pu
  · exact NT.pu
  all_goals exact NT.ex (fun g => NT.two NT.pu (NT.blk zz13))
theorem ck_nt (g : Nat) (s : Option Cs) : NT 39 (ck g s) := NT.ex (fun v => NT.two (NT.blk zz13) (by cases s with
  | none => exact NT.pu
  | some s => exact nx_nt _ _))
def AtP (l : List Ev) (i : Nat) : Option Cs → Prop
  | some c => (∃ r, Good c r ∧ WfL r (l.drop i)) ∧ fv 0 l = bi c (i : Int) (l.drop i)
  | none => 0 ≤ fv 0 l ∧ fv 0 l < (i : Int)
theorem at_push {l : List Ev} {i : Nat} {s : Option Cs} {e : Ev} (h : AtP l i s) (he : l[i]? = some e) (g : Nat) :
    ∃ (rc : Int) (s2 : Option Cs), (∀ (w : World) (S : Nat → Prop), Hs w S [ck g s] → Calls Try.prog 14 #[.pointer (some ⟨g, 0, none⟩), .agg #[.int .i64 e.f0, .int .i64 e.f1, .int .i64 e.f2.f0, .int .i64 e.f2.f1, .bool e.f2.f2, .int .i64 e.f2.f3, .int .u8 e.f3]] w fun e' w' => e' = .returned (.int .i64 rc) ∧ Sp w S [ck g s2] w') ∧
      AtP l (i + 1) s2 ∧ ((rc = 0 ∧ fv 0 l < 0) ∨ (rc = 0 ∧ ¬ fv 0 l < 0 ∧ (i : Int) < fv 0 l) ∨ (rc = 7 ∧ ¬ fv 0 l < 0 ∧ ¬ (i : Int) < fv 0 l)) := by
  cases s with
  | none => exact ⟨7, none, fun w S h => push_over g e.f0 e.f1 e.f2.f0 e.f2.f1 e.f2.f2 e.f2.f3 e.f3 w S h, ⟨h.1, by have := h.2; omega⟩, .inr (.inr ⟨rfl, by have := h.1; omega, by have := h.2; omega⟩)⟩
  | some c =>
    obtain ⟨hi, he2⟩ := List.getElem?_eq_some_iff.1 he
    have hd : l.drop i = e :: l.drop (i + 1) := by rw [List.drop_eq_getElem_cons hi, he2]
    obtain ⟨⟨r, h1, h2⟩, h3⟩ := h
    rw [hd] at h2 h3
    have hpu := fun (w : World) (S : Nat → Prop) (h : Hs w S [ck g (some c)]) => push_ev g c e r h1 h2.1 w S h
    cases hl : lookC c e with
    | none =>
      rw [bi_none hl] at h3
      refine ⟨7, none, fun w S h => ?_, ⟨zz3, zz3⟩, .inr (.inr ⟨rfl, zz3, zz3⟩)⟩
      have := hpu w S h
      rw [hl] at this
      exact this
    | some c2 =>
      rw [bi_some hl] at h3
      refine ⟨0, some c2, fun w S h => ?_, ⟨⟨_, good_look h1 h2.1 hl, h2.2⟩, by rw [h3]; rfl⟩, ?_⟩
      · have := hpu w S h
        rw [hl] at this
        exact this
      · rcases bi_pos (l.drop (i + 1)) c2 ((i : Int) + 1) with h | h
        · exact .inl ⟨rfl, zz3⟩
        · exact .inr (.inl ⟨rfl, zz3, zz3⟩)
set_option maxHeartbeats 4000000 in
set_option maxRecDepth 100000 in
theorem pushes_any (a : ByteArray) (d : Int) (w : World) (hsz : a.size ≤ 140737488351232) :
    Calls Try.prog 4 #[.string a, .int .i64 d] w fun e w' => e = .returned (.bool true) ∧ Below w.heap.size w w' := by
  have HAW := Aside0.mk awake_any
  by_cases h1 : 250 < a.size
  · have d1 : decide (250 < a.size) = true := decide_eq_true h1
    have d1' : decide ((250 : Int) < (a.size : Int)) = true := decide_eq_true zz3
    clear hsz h1
    go_enter Try.func4, Try.ntmps4
    go_wp2_with (first
      | (go_at_call 11
         (with_reducible refine (new_ck _).mono ?_)
         rintro e w2 ⟨g, rfl, hS⟩)
      | (go_at_call 8
         (with_reducible refine (HAW.out _).mono ?_)
         rintro e w4 ⟨rfl, hun⟩
         replace hS := hS.toN hun))
    go_ret
    exact ⟨rfl, (Sp.u zz52).below0⟩
  have d1 : decide (250 < a.size) = false := decide_eq_false h1
  have d1' : decide ((250 : Int) < (a.size : Int)) = false := decide_eq_false zz3
  have hby : Idm.Bytes (bytesOf a) := bytes_of a
  have hlen := evs_len d (bytesOf a) hby
  have hwf := evs_wf (mn (mx d 0) 64).toNat (bytesOf a) hby
  rw [bytesOf_length] at hlen
  obtain ⟨⟨l, me, mat⟩, hw⟩ : ∃ q, wholeM (mn (mx d 0) 64).toNat (bytesOf a) = q := ⟨_, rfl⟩
  have HR := Aside0.mk (refW_any a d zz3 l me mat (by unfold event_Whole.f; rw [if_pos zz3, hw]))
  rw [hw] at hlen hwf
  simp only at hlen hwf
  have hl5 : l.length ≤ 50000 := by omega
  have HFI := Aside0.mk (fun A c W h => first_any A c l W h hwf hl5)
  have HA0 := Aside0.mk (show AtP l 0 (some .any) from ⟨⟨0, trivial, hwf⟩, fv_bi l 0 0 hwf⟩)
  have HL := Aside0.mk hl5
  have hu := Try.underlying33
  have hu2 := Try.underlying39
  obtain ⟨n, hln⟩ : ∃ n, l.length = n := ⟨_, rfl⟩
  have HLN := Aside0.mk hln
  rw [hln] at HR HFI HL
  obtain ⟨F, hF⟩ : ∃ F, fv 0 l = F := ⟨_, rfl⟩
  rw [hF] at HFI
  have HF := Aside0.mk hF
  clear hw hlen hwf hby hl5 hln hF h1 hsz
  go_enter Try.func4, Try.ntmps4
  go_wp2_with (first
    | (go_at_call 11
       (with_reducible refine (new_ck _).mono ?_)
       rintro e w2 ⟨g, rfl, hS⟩)
    | (go_at_call 8
       (with_reducible refine (HAW.out _).mono ?_)
       rintro e w4 ⟨rfl, hun⟩
       replace hS := hS.toN hun)
    | (go_at_call 12
       (with_reducible refine (HR.out _).mono ?_)
       rintro e w1 ⟨A2, c2, rfl, hcs, hc2, hbl⟩
       have HY := Aside0.mk hcs
       have HC := Aside0.mk (hcs w1 (Upd.refl _ _))
       rw [HLN.out] at HC
       replace hS := hS.toN (Upd.of_below hbl : Upd None0 _ w1)
       have hfi : ∀ W, Sem.run Try.prog (Instr.field 33 (.agg #[.slice A2 n c2, .int .i64 me, .int .i64 mat]) 0) W = .ok (.slice A2 n c2) W := fun _ => by kernel_rfl
       clear hcs hc2 hbl)
    | (go_at_call 13
       (with_reducible refine (HFI.out _ _ _ (by exact cl_ HC)).mono ?_)
       rintro e w5 ⟨rfl, hun⟩
       replace hS := hS.toN hun
       replace HY := Aside0.mk (_root_.Go.Proofs.Ytpfconocipmcjaa.PC.Cs.updN (by exact HY.out.updN lu) hun)
       clear HC))
  go_loopg [32] n (fun gk v32 wr => ∃ (i : Nat) (s : Option Cs), v32 = .int .i64 (i : Int) ∧ Aside0 (i ≤ n ∧ n - i ≤ gk ∧ AtP l i s) ∧ Aside0 (Sp w None0 [ck g s] wr) ∧ Aside0 (_root_.Go.Proofs.Ytpfconocipmcjaa.PC.Cs wr A2 l))
  case atStart => exact ⟨0, some .any, rfl, ⟨Nat.zero_le _, zz3, HA0.out⟩, ⟨by exact hS⟩, HY⟩
  case round =>
    clear hS HY hfi
    obtain ⟨i, s, rfl, HI, HS, HY⟩ := hrel
    have hS := HS.out
    clear HS
    have HC := Aside0.mk HY.out.now
    rw [HLN.out] at HC
    have hi0 : (0 : Int) ≤ (i : Int) := by omega
    have hi1 : (i : Int) ≤ 50000 := by have := HI.out; have := HL.out; omega
    by_cases hlt : i < n
    case neg =>
      have hd : decide (i < n) = false := decide_eq_false hlt
      clear hlt HI
      go_wp2
      go_ret
      exact ⟨rfl, (Sp.u zz52).below0⟩
    have hd : decide (i < n) = true := decide_eq_true hlt
    have hli : i < l.length := by rw [HLN.out]; exact hlt
    obtain ⟨ad, rfl, h0, h1, h2, h3, h4, h5, h6⟩ := at_T39 HC.out (i : Int) hi0 zz3
    rw [Int.toNat_natCast] at h0 h1 h2 h3 h4 h5 h6
    obtain ⟨e, he⟩ : ∃ e, rd_T39 l (i : Int) = e := ⟨_, rfl⟩
    have hle : l[i]? = some e := by rw [← he, rd_drop l i hli]; exact List.getElem?_eq_getElem hli
    rw [he] at h0 h1 h2 h3 h4 h5 h6
    obtain ⟨rc, s2, hpu, ha2, hcase⟩ := at_push HI.out.2.2 hle g
    have HPU := Aside0.mk hpu
    have HA2 := Aside0.mk ha2
    have HLT := Aside0.mk hlt
    rw [HF.out] at hcase
    obtain ⟨⟨kd, at_, ⟨cl, tag, cons, ln⟩, b⟩, hq⟩ : ∃ q, e = q := ⟨_, rfl⟩
    rw [hq] at HPU h0 h1 h2 h3 h4 h5 h6
    simp only at HPU h0 h1 h2 h3 h4 h5 h6
    have hin : (i : Int) < (n : Int) := by omega
    clear hq he hle hpu ha2 hlt hli
    have hcs : (rc = 0 ∧ decide (F < 0) = true) ∨ (rc = 0 ∧ decide (F < 0) = false ∧ decide ((i : Int) < F) = true) ∨ (rc = 7 ∧ decide (F < 0) = false ∧ decide ((i : Int) < F) = false) := by
      rcases hcase with ⟨q1, q2⟩ | ⟨q1, q2, q3⟩ | ⟨q1, q2, q3⟩
      · exact .inl ⟨q1, decide_eq_true q2⟩
      · exact .inr (.inl ⟨q1, decide_eq_false q2, decide_eq_true q3⟩)
      · exact .inr (.inr ⟨q1, decide_eq_false q2, decide_eq_false q3⟩)
    clear hcase
    obtain ⟨T, hT, hS, hback⟩ := hS.alone (ck_nt g s)
    have HT := Aside0.mk hT
    have HBK := Aside0.mk hback
    clear hT hback
    rcases hcs with ⟨rfl, y1⟩ | ⟨rfl, y1, y2⟩ | ⟨rfl, y1, y2⟩
    all_goals
      go_wp2_with (first
        | ((with_reducible refine gate_dst (N := 9) rfl ?_)
           refine sp_box hS rfl (N := 9) rfl #[.int .i64 0, .int .i64 0, .int .i64 0, .int .i64 0, .bool false, .int .i64 0, .int .u8 0] 39 zz10 ?_
           intro gx w3 hg3 hS)
        | ((with_reducible refine gate_store (t := 39) (p := 9) (v := .tmp 36) rfl ?_)
           refine sp_row hS 0 rfl 39 (.tmp 9) (.tmp 36) rfl rfl gx #[.int .i64 kd, .int .i64 at_, .int .i64 cl, .int .i64 tag, .bool cons, .int .i64 ln, .int .u8 b] rfl rfl 39 _ rfl zz8 rfl zz17 rfl ?_
           intro w4 hS
           obtain ⟨k0, k1, k2, k3, k4, k5, k6⟩ := hS.cells7 0
           replace hS := Sp.swap hS)
        | (go_at_call 14
           (with_reducible refine (HPU.out _ (hS.ft 1) (by exact hS.pre1)).mono ?_)
           rintro e w6 ⟨rfl, hq⟩
           replace hS := hS.post1 hq
           clear k0 k1 k2 k3 k4 k5 k6
           obtain ⟨k0, k1, k2, k3, k4, k5, k6⟩ := hS.cells7 1))
      go_roundg (gk - 1)
      case measure => have := HI.out; have := HLT.out; omega
      case rel => exact ⟨i + 1, s2, zz29, ⟨by have := HLT.out; omega, by have := HI.out; have := HLT.out; omega, HA2.out⟩, ⟨HBK.out _ _ (Sp.sel (l2 := [ck g s2]) hS.lt [0])⟩, ⟨HY.out.upd (Sp.u zz52) (fun k hk => HT.out k hk)⟩⟩
end Go.Proofs.Ytpfconocipmcjaa.Vp
namespace Go.Proofs.Ytpfconocipmcjaa.valuePushes
open Go.ChangeShapes Go.WideShapes Go.ChangeAt RowKit Go.Joins
open Go.ChangeMaps (open_string shut_string)
set_option linter.unusedVariables false
set_option linter.unusedSimpArgs false
theorem own : ownKnob Try.prog.godebug = none := by kernel_rfl
theorem laidOut : laidOutB Try.prog = true := by kernel_rfl
set_option maxRecDepth 100000 in
theorem lifted (os : Os) (started : os.Started) (H : Type) (enc : TypeId × Value → H) :
 ReturnsInHanded {} Try.checked os 4 .any (Rows.valuePushesSpec.pre6 enc Try.prog Try.f4 Rows.valuePushesRow.domain false) (Rows.valuePushesSpec.post enc Try.prog Try.f4 false true false false) := by
 refine returnsInHanded_of_change_sized (C := Try.checked) own started zz8 Try.func4
  (ChangeSpec.witness6 (enc := enc) (C := Try.checked) false ⟨#[], #[.string ByteArray.empty, .int .i64 0], []⟩ 8 zz8 zz8 zz8 zz8) ?_
 intro W base args ds gs before hval0 hW hcnd hsz0 _
 have hsz : (DataW.weightsEach Try.prog (Try.f4.params.toList ++ Rows.valuePushesSpec.plain.varTypes Try.prog) (ds ++ gs)).all (· ≤ reachBytes) = true := hsz0
 have hval : ∀ (j : Nat) t v, Try.f4.params[j]? = some t → args[j]? = some v → Value.okWide Try.prog W .any base t v := hval0
 have hW' := hW
 obtain ⟨p, q, hA0, hV, rfl, hfz, hnd⟩ := hW
 have hA : DataW.TrodAll enc Try.prog W 0 (fun _ => true) true Try.f4.params.toList args.toList ds p := hA0
 rw [Try.params4] at hA hval hsz
 obtain ⟨v0, vs0, d0, ds0, p0, q0, hargs, rfl, rfl, h0, r0⟩ := trodAll_cons hA
 obtain ⟨v1, vs1, d1, ds1, p1, q1, rfl, rfl, rfl, h1, r1⟩ := trodAll_cons r0
 obtain ⟨rfl, rfl, rfl⟩ := trodAll_nil r1
 obtain rfl : args = #[v0, v1] := by cases args; simp_all
 obtain ⟨rfl, rfl⟩ := trodVars_none hV
 obtain ⟨a0, rfl, rfl, rfl, y0⟩ := open_string Try.underlying9 (hval 0 9 v0 rfl rfl) h0
 have w0 : a0.size ≤ 140737488351232 := by
  have z := sized_string hsz (j := 0) (t := 9) rfl rfl
  rw [Array.length_toList] at z
  exact z
 obtain ⟨a1, rfl, rfl, rfl, w1⟩ := open_int Try.underlying3 (hval 1 3 v1 rfl rfl) h1
 clear hA0 hval0 hsz0 hsz
 refine (Vp.pushes_any a0 a1 W w0).mono fun e W' ⟨he, bel⟩ => ?_
 subst he
 exact ⟨_, rfl, _, _, _, [], _, [], hW', trodAll_mk1 (shut_bool Try.underlying4 _), (trodAll_cons_mk (shut_string Try.underlying9 y0) (trodAll_cons_mk (shut_int Try.underlying3 w1) trodAll_mk0)), rfl, bel.frame _, fun h => by cases h⟩
theorem over : Rows.valuePushesRow.holds Try.pinned (OpenSpec.ofChange Rows.valuePushesSpec) :=
 OpenClaim.holds_of_wide 4 Try.f4 rfl rfl rfl rfl rfl rfl rfl ⟨rfl, rfl, rfl, rfl, rfl⟩ rfl rfl rfl rfl rfl zz8 Try.func4 zz8
  (of_decide_eq_true zz8) (by unfold Func.isWrapper; first | (rw [if_pos (by decide +kernel)]; kernel_rfl) | (rw [if_neg (by decide +kernel)]; exact ⟨rfl, rfl⟩))
  (fun os started H enc _ => lifted os started H enc)
theorem proved : Rows.ValuePushesSaid := over
#print axioms proved
end Go.Proofs.Ytpfconocipmcjaa.valuePushes
namespace Go.Proofs.Ytpfconocipmcjaa
theorem valuePushes_holds : Rows.ValuePushesSaid := valuePushes.proved
end Go.Proofs.Ytpfconocipmcjaa
