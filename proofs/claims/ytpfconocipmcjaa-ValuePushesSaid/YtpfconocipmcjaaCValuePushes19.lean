/- What the row of ValuePushes stands on, made small by a program of this session (pack.py). -/
import Derived.ArgAppend
import Derived.Below
import Derived.BigQuiet
import Derived.Deep.AppendLies
import Derived.Deep.CutBlock
import Derived.Deep.DeepCutAuto
import Derived.Deep.Draws
import Derived.Deep.LoopGhost
import Derived.Deep.OwnRows
import Derived.Deep.QuietTactic
import Derived.Deep.RegionHeld3
import Derived.Deep.RegionLaw
import Derived.KernelRfl
import Derived.Laws.BitsLemmas
import Derived.Laws.BytesArg
import Derived.Laws.EntriesVeiled
import Derived.Laws.IdiomCopy
import Derived.Laws.MakeOwn
import Derived.Laws.OwnMore
import Derived.Laws.Rows
import Derived.Laws.Slices
import Derived.Lib.AppendStr
import Derived.Lib.ConvBytes
import Derived.Maps.AppendAt
import Derived.OrdersHeld
import Derived.Outline
import Derived.OwnWalk
import Derived.RowKit
import Derived.RowKit3
import Derived.Tactics
import Derived.Test.YtpfconocipmcjaaProg
import Derived.WalkKit
import Derived.WideLaws
import Derived.Test.YtpfconocipmcjaaCValuePushes2
import Derived.Test.YtpfconocipmcjaaCValuePushes3
import Derived.Test.YtpfconocipmcjaaCValuePushes6
import Derived.Test.YtpfconocipmcjaaCValuePushes7
import Derived.Test.YtpfconocipmcjaaCValuePushes8
import Derived.Test.YtpfconocipmcjaaCValuePushes9
import Derived.Test.YtpfconocipmcjaaCValuePushes10
import Derived.Test.YtpfconocipmcjaaCValuePushes11
import Derived.Test.YtpfconocipmcjaaCValuePushes18
namespace Go.Proofs.Ytpfconocipmcjaa.Vp
open RowKit PC YtpfconocipmcjaaW.PrintWords YtpfconocipmcjaaW.PrintLast YtpfconocipmcjaaW.PrintMore
open Bs
open BNum (okN okP)
set_option linter.unusedVariables false
set_option linter.unusedSimpArgs false
inductive Cs
 | any
 | num (tag n at_ first : Int)
 | oid (left : Int) (within : Bool)
 | bit (left : Int) (begun : Bool) (unused : Int)
 | whn (u : Bool) (date : List Int) (left : Int)
 | txt (tag left more low high : Int)
def bitBad (u b : Int) : Bool := !(Go.bits .and .u8 b ((shl .u8 1 u - 1) % 256) == 0)
def pushC : Cs → Int → Option Cs
 | .any, _ => some .any
 | .num t n a f, b => if okP t a f b = true then some (.num t n (a + 1) (if a = 0 then b else f)) else none
 | .oid l w, b => if (w = false ∧ b = 128) ∨ (l - 1 = 0 ∧ 128 ≤ b) then none else some (.oid (l - 1) (decide (128 ≤ b)))
 | .bit l bg u, b => if bg = true then (if l - 1 = 0 ∧ bitBad u b = true then none else some (.bit (l - 1) bg u))
  else (if 7 < b ∨ (0 < b ∧ l - 1 = 0) then none else some (.bit (l - 1) true b))
 | .whn u D l, b => (Dt.stp u (D, l) b).map fun s => .whn u s.1 s.2
 | .txt t l m lo hi, b => (Tx.stp t (l, m, lo, hi) b).map fun s => .txt t s.1 s.2.1 s.2.2.1 s.2.2.2
def startC (tag n : Int) : Option Cs :=
 if tag = 0 ∨ tag = 16 ∨ tag = 17 then none
 else if tag = 1 ∨ tag = 2 ∨ tag = 5 ∨ tag = 10 then (if okN tag n = true then some (.num tag n 0 0) else none)
 else if tag = 6 then (if n < 1 then none else some (.oid n false))
 else if tag = 3 then (if n < 1 then none else some (.bit n false 0))
 else if tag = 23 ∨ tag = 24 then (if (tag = 23 ∧ n = 13) ∨ (tag = 24 ∧ n = 15) then some (.whn (decide (tag = 23)) [] n) else none)
 else if n < 0 then none else some (.txt tag n 0 0 0)
def lookC (s : Cs) (e : Ev) : Option Cs :=
 if e.f0 = 3 then pushC s e.f3
 else if e.f0 = 1 ∧ e.f2.f0 = 0 then (if e.f2.f1 = 16 ∨ e.f2.f1 = 17 then some s else none)
 else if e.f0 = 2 ∧ e.f2.f0 = 0 then startC e.f2.f1 e.f2.f3
 else if e.f0 = 2 then some .any
 else some s
def Good : Cs → Int → Prop
 | .any, _ => True
 | .num t n a f, r => 0 ≤ a ∧ 0 ≤ r ∧ a + r ≤ 2305843009213693951
 | .oid l w, r => l = r ∧ 0 ≤ r ∧ r ≤ 2305843009213693951
 | .bit l bg u, r => l = r ∧ 0 ≤ r ∧ r ≤ 2305843009213693951 ∧ 0 ≤ u ∧ u ≤ 7
 | .whn u D l, r => l = r ∧ 0 ≤ r ∧ Dt.Digs D ∧ (D.length : Int) + r ≤ 15 ∧ (u = true → D = [] → r ≤ 13)
 | .txt t l m lo hi, r => l = r ∧ 0 ≤ r ∧ r ≤ 2305843009213693951 ∧ 0 ≤ m ∧ m ≤ 3
theorem good_start {tag n : Int} (h0 : 0 ≤ n) (h1 : n ≤ 2305843009213693951) {s : Cs} (h : startC tag n = some s) : Good s n := by
 unfold startC at h
 split at h
 ·
  cases h
 split at h
 ·
  split at h
  ·
   cases h; exact ⟨Int.le_refl _, h0, zz3⟩
  ·
   cases h
 split at h
 ·
  split at h
  ·
   cases h
  ·
   cases h; exact ⟨rfl, h0, h1⟩
 split at h
 ·
  split at h
  ·
   cases h
  ·
   cases h; exact ⟨rfl, h0, h1, zz13, zz13⟩
 split at h
 ·
  split at h
  ·
   rename_i h2
   cases h
   exact ⟨rfl, h0, (fun x hx => by cases hx), by rcases h2 with h2 | h2 <;> simp <;> omega, fun h3 _ => by have := of_decide_eq_true h3; omega⟩
  ·
   cases h
 split at h
 ·
  cases h
 ·
  cases h; exact ⟨rfl, h0, h1, zz13, zz13⟩
theorem good_push {s s' : Cs} {r b : Int} (hg : Good s r) (hr : 0 < r) (hb : 0 ≤ b ∧ b < 256) (h : pushC s b = some s') : Good s' (r - 1) := by
 cases s with
 | any => cases h; trivial
 | num t n a f =>
   simp only [pushC] at h
   split at h
   ·
    cases h; obtain ⟨g1, g2, g3⟩ := hg; exact ⟨zz3, zz3, zz3⟩
   ·
    cases h
 | oid l w =>
   simp only [pushC] at h
   split at h
   ·
    cases h
   ·
    cases h; obtain ⟨g1, g2, g3⟩ := hg; exact ⟨zz3, zz3, zz3⟩
 | bit l bg u =>
   obtain ⟨g1, g2, g3, g4, g5⟩ := hg
   simp only [pushC] at h
   split at h
   ·
    split at h
    ·
     cases h
    ·
     cases h; exact ⟨zz3, zz3, zz3, g4, g5⟩
   ·
    split at h
    ·
     cases h
    ·
     cases h; exact ⟨zz3, zz3, zz3, hb.1, zz3⟩
 | whn u D l =>
   obtain ⟨g1, g2, g3, g4, g5⟩ := hg
   simp only [pushC] at h
   obtain ⟨p, hp, rfl⟩ := Option.map_eq_some_iff.1 h
   unfold Dt.stp at hp
   simp only at hp
   obtain ⟨X, hX⟩ : ∃ X, (if (u && D.isEmpty) = true then Dt.cen b else D) = X := ⟨_, rfl⟩
   rw [hX] at hp
   split at hp
   ·
    split at hp
    ·
     cases hp; exact ⟨by show l - 1 = r - 1; omega, zz3, g3, by show (D.length : Int) + (r - 1) ≤ 15; omega, fun h1 h2 => by have := g5 h1 h2; omega⟩
    ·
     cases hp
   split at hp
   ·
    cases hp
   split at hp
   ·
    rename_i h1 h2 h3
    cases hp
    have hd : Dt.Dig b := by unfold Dt.Dig; omega
    have hds : ∀ E : List Int, Dt.Digs E → Dt.Digs (E ++ [b]) := fun E hE => hE.append (fun x hx => by rw [List.mem_singleton.1 hx]; exact hd)
    by_cases hc : (u && D.isEmpty) = true
    ·
     rw [if_pos hc] at hX
     have hu : u = true := by cases u <;> simp_all
     have hD : D = [] := by cases D <;> simp_all
     subst hu hD
     have h5 := g5 rfl rfl
     subst hX
     refine ⟨by show l - 1 = r - 1; omega, zz3, hds _ (Dt.cen_digs b), ?_, fun _ h => ?_⟩
     ·
      have := Dt.cen_len b
      simp only [List.length_append, List.length_singleton]
      omega
     ·
      exact absurd h zz29
    ·
     rw [if_neg hc] at hX
     subst hX
     refine ⟨by show l - 1 = r - 1; omega, zz3, hds _ g3, ?_, fun _ h => absurd h zz29⟩
     simp only [List.length_append, List.length_singleton]
     omega
   ·
    cases hp
 | txt t l m lo hi =>
   obtain ⟨g1, g2, g3, g4, g5⟩ := hg
   simp only [pushC] at h
   obtain ⟨p, hp, rfl⟩ := Option.map_eq_some_iff.1 h
   have := BTxt.stp_ok hp ⟨g4, g5⟩
   exact ⟨by rw [this.1]; show l - 1 = r - 1; omega, zz3, zz3, this.2.1, this.2.2⟩
end Go.Proofs.Ytpfconocipmcjaa.Vp
namespace Go.Proofs.Ytpfconocipmcjaa.BDat
open RowKit PC YtpfconocipmcjaaW.PrintWords YtpfconocipmcjaaW.PrintLast YtpfconocipmcjaaW.PrintMore
open Bs
open Dt
set_option linter.unusedVariables false
def tagOf (u : Bool) : Int := if u = true then 23 else 24
theorem start_yes (u : Bool) : when_Start.f (tagOf u) (lenOf u) = some ((⟨#[]⟩ : ByteArray), lenOf u, u, true) := by
 cases u <;> rfl
theorem start_no (tag n : Int) (h : ∀ u, ¬ (tag = tagOf u ∧ n = lenOf u)) : when_Start.f tag n = some ((⟨#[]⟩ : ByteArray), 0, false, false) := by
 have h1 : ¬ (tag = 23 ∧ n = 13) := h true
 have h2 : ¬ (tag = 24 ∧ n = 15) := h false
 unfold when_Start.f
 by_cases a : tag = 23
 ·
  rw [if_pos a, if_neg (fun b => h1 ⟨a, b⟩)]
 rw [if_neg a]
 by_cases c : tag = 24
 ·
  rw [if_pos c, if_neg (fun b => h2 ⟨c, b⟩)]
 ·
  rw [if_neg c]
def Con (tag : Int) (l : List Int) (u : Bool) (p : List Int) : Prop := l = p ++ [90] ∧ okp u p ∧ tag = tagOf u ∧ (p.length : Int) + 1 = lenOf u
theorem zed : bytesOf (⟨#[90]⟩ : ByteArray) = [90] := by decide
end Go.Proofs.Ytpfconocipmcjaa.BDat

namespace Go.Proofs.Ytpfconocipmcjaa.Vp
open RowKit PC YtpfconocipmcjaaW.PrintWords YtpfconocipmcjaaW.PrintLast YtpfconocipmcjaaW.PrintMore Own Sl
open Bs
open BNum (okN okP)
set_option linter.unusedVariables false
set_option linter.unusedSimpArgs false
def cellsnum : Option Cs → Array Value
 | some (.num t n a f) => #[.int .i64 t, .int .i64 n, .int .i64 a, .int .u8 f]
 | _ => #[.int .i64 0, .int .i64 0, .int .i64 0, .int .u8 0]
def cellsoid : Option Cs → Array Value
 | some (.oid l wi) => #[.int .i64 l, .bool wi]
 | _ => #[.int .i64 0, .bool false]
def cellsbit : Option Cs → Array Value
 | some (.bit l bg u) => #[.int .i64 l, .bool bg, .int .u8 u]
 | _ => #[.int .i64 0, .bool false, .int .u8 0]
def cellswhn : Option Cs → Array Value
 | some (.whn u D l) => #[.string (strOfNums D), .int .i64 l, .bool u]
 | _ => #[.string ⟨#[]⟩, .int .i64 0, .bool false]
def cellstxt : Option Cs → Array Value
 | some (.txt t l m lo hi) => #[.int .i64 t, .int .i64 l, .int .i64 m, .int .u8 lo, .int .u8 hi]
 | _ => #[.int .i64 0, .int .i64 0, .int .i64 0, .int .u8 0, .int .u8 0]
theorem push_num (t n a f : Int) (b r : Int) (hg : Good (.num t n a f) r) (hr : 0 < r) (hb : 0 ≤ b ∧ b < 256) (w : World) :
 Calls Try.prog 101 #[.agg #[.int .i64 t, .int .i64 n, .int .i64 a, .int .u8 f], .int .u8 b] w fun e w' => e = .returned (.tuple #[.agg (cellsnum (pushC (.num t n a f) b)), .bool (pushC (.num t n a f) b).isSome]) ∧ Upd None0 w w' := by
 obtain ⟨g1, g2, g3⟩ := hg
 have hp := BNum.push_eq 0 t n a f b g1 zz3
 simp only [pushC]
 by_cases h : okP t a f b = true
 ·
  rw [if_pos h] at hp ⊢
  exact (number_State_Push.calls 1 t n a f b _ _ _ _ _ w hp).mono fun e w' ⟨he, hw⟩ => ⟨he, Upd.of_below hw⟩
 ·
  rw [if_neg h] at hp ⊢
  exact (number_State_Push.calls 1 t n a f b _ _ _ _ _ w hp).mono fun e w' ⟨he, hw⟩ => ⟨he, Upd.of_below hw⟩
theorem push_oid (l : Int) (wi : Bool) (b r : Int) (hg : Good (.oid l wi) r) (hr : 0 < r) (hb : 0 ≤ b ∧ b < 256) (w : World) :
 Calls Try.prog 102 #[.agg #[.int .i64 l, .bool wi], .int .u8 b] w fun e w' => e = .returned (.tuple #[.agg (cellsoid (pushC (.oid l wi) b)), .bool (pushC (.oid l wi) b).isSome]) ∧ Upd None0 w w' := by
 obtain ⟨g1, g2, g3⟩ := hg
 have hw : wrap64 (l - 1) = l - 1 := w64 zz3 zz3
 simp only [pushC]
 have hp : oid_State_Push.f l wi b = some (if (wi = false ∧ b = 128) ∨ (l - 1 = 0 ∧ 128 ≤ b) then (0, false, false) else (l - 1, decide (128 ≤ b), true)) := by
  unfold oid_State_Push.f
  rw [hw]
  cases wi <;> by_cases h1 : l - 1 = 0 <;> by_cases h2 : b ≥ 128 <;> by_cases h3 : b = 128 <;> simp [h1, h2, h3] <;> omega
 by_cases h : (wi = false ∧ b = 128) ∨ (l - 1 = 0 ∧ 128 ≤ b)
 ·
  rw [if_pos h] at hp ⊢
  exact (oid_State_Push.calls l wi b _ _ _ w hp).mono fun e w' ⟨he, hw⟩ => ⟨he, Upd.of_below hw⟩
 ·
  rw [if_neg h] at hp ⊢
  exact (oid_State_Push.calls l wi b _ _ _ w hp).mono fun e w' ⟨he, hw⟩ => ⟨he, Upd.of_below hw⟩
theorem push_bit (l : Int) (bg : Bool) (u : Int) (b r : Int) (hg : Good (.bit l bg u) r) (hr : 0 < r) (hb : 0 ≤ b ∧ b < 256) (w : World) :
 Calls Try.prog 103 #[.agg #[.int .i64 l, .bool bg, .int .u8 u], .int .u8 b] w fun e w' => e = .returned (.tuple #[.agg (cellsbit (pushC (.bit l bg u) b)), .bool (pushC (.bit l bg u) b).isSome]) ∧ Upd None0 w w' := by
 obtain ⟨g1, g2, g3, g4, g5⟩ := hg
 have hw : wrap64 (l - 1) = l - 1 := w64 zz3 zz3
 simp only [pushC]
 cases bg with
 | true =>
   rw [if_pos rfl]
   have hp : bitstr_State_Push.f l true u b = some (if l - 1 = 0 ∧ bitBad u b = true then (0, false, 0, false) else (l - 1, true, u, true)) := by
    unfold bitstr_State_Push.f bitBad
    rw [hw, if_pos rfl, if_pos g4]
    by_cases h1 : l - 1 = 0
    ·
     rw [if_pos h1]
     by_cases h2 : Go.bits .and .u8 b ((shl .u8 1 u - 1) % 256) = 0
     ·
      rw [if_pos h2, if_neg (by simp [h2])]
     ·
      rw [if_neg h2, if_pos ⟨h1, by simp [h2]⟩]
    ·
     rw [if_neg h1, if_neg (fun h => h1 h.1)]
   by_cases h : l - 1 = 0 ∧ bitBad u b = true
   ·
    rw [if_pos h] at hp ⊢
    exact (bitstr_State_Push.calls l true u b _ _ _ _ w hp).mono fun e w' ⟨he, hw⟩ => ⟨he, Upd.of_below hw⟩
   ·
    rw [if_neg h] at hp ⊢
    exact (bitstr_State_Push.calls l true u b _ _ _ _ w hp).mono fun e w' ⟨he, hw⟩ => ⟨he, Upd.of_below hw⟩
 | false =>
   rw [if_neg zz13]
   have hp : bitstr_State_Push.f l false u b = some (if 7 < b ∨ (0 < b ∧ l - 1 = 0) then (0, false, 0, false) else (l - 1, true, b, true)) := by
    unfold bitstr_State_Push.f
    rw [hw, if_neg zz13]
    by_cases h1 : b > 7
    ·
     rw [if_pos h1, if_pos (.inl h1)]
    ·
     rw [if_neg h1]
     by_cases h2 : b > 0
     ·
      rw [if_pos h2]
      by_cases h3 : l - 1 = 0
      ·
       rw [if_pos h3, if_pos (.inr ⟨h2, h3⟩)]
      ·
       rw [if_neg h3, if_neg zz3]
     ·
      rw [if_neg h2, if_neg zz3]
   by_cases h : 7 < b ∨ (0 < b ∧ l - 1 = 0)
   ·
    rw [if_pos h] at hp ⊢
    exact (bitstr_State_Push.calls l false u b _ _ _ _ w hp).mono fun e w' ⟨he, hw⟩ => ⟨he, Upd.of_below hw⟩
   ·
    rw [if_neg h] at hp ⊢
    exact (bitstr_State_Push.calls l false u b _ _ _ _ w hp).mono fun e w' ⟨he, hw⟩ => ⟨he, Upd.of_below hw⟩
theorem push_whn (u : Bool) (D : List Int) (l : Int) (b r : Int) (hg : Good (.whn u D l) r) (hr : 0 < r) (hb : 0 ≤ b ∧ b < 256) (w : World) :
 Calls Try.prog 104 #[.agg #[.string (strOfNums D), .int .i64 l, .bool u], .int .u8 b] w fun e w' => e = .returned (.tuple #[.agg (cellswhn (pushC (.whn u D l) b)), .bool (pushC (.whn u D l) b).isSome]) ∧ Upd None0 w w' := by
 obtain ⟨g1, g2, g3, g4, g5⟩ := hg
 have hp := BDat.push_eq 0 u D l b g3 (fun h => by omega) ⟨zz3, zz3⟩
 simp only [pushC]
 cases hs : Dt.stp u (D, l) b with
 | none => rw [hs] at hp; exact (when_State_Push.calls 14 _ l u b _ _ _ _ w hp).mono fun e w' ⟨he, hw⟩ => ⟨he, Upd.of_below hw⟩
 | some s => rw [hs] at hp; exact (when_State_Push.calls 14 _ l u b _ _ _ _ w hp).mono fun e w' ⟨he, hw⟩ => ⟨he, Upd.of_below hw⟩
theorem push_txt (t l m lo hi : Int) (b r : Int) (hg : Good (.txt t l m lo hi) r) (hr : 0 < r) (hb : 0 ≤ b ∧ b < 256) (w : World) :
 Calls Try.prog 110 #[.agg #[.int .i64 t, .int .i64 l, .int .i64 m, .int .u8 lo, .int .u8 hi], .int .u8 b] w fun e w' => e = .returned (.tuple #[.agg (cellstxt (pushC (.txt t l m lo hi) b)), .bool (pushC (.txt t l m lo hi) b).isSome]) ∧ Upd None0 w w' := by
 obtain ⟨g1, g2, g3, g4, g5⟩ := hg
 have hp := BTxt.push_eq 0 t (l, m, lo, hi) b ⟨by show _ < l; omega, by show l ≤ _; omega, g4, g5⟩ hb.1 hb.2
 simp only [pushC]
 cases hs : Tx.stp t (l, m, lo, hi) b with
 | none => rw [hs] at hp; exact (text_State_Push.calls 2 t l m lo hi b _ _ _ _ _ _ w hp).mono fun e w' ⟨he, hw⟩ => ⟨he, Upd.of_below hw⟩
 | some s => rw [hs] at hp; exact (text_State_Push.calls 2 t l m lo hi b _ _ _ _ _ _ w hp).mono fun e w' ⟨he, hw⟩ => ⟨he, Upd.of_below hw⟩
def nx : Option Cs → Value → Ast
 | none, v => pu (v = .nilFunc)
 | some .any, v => pu (v = .func (.func 17) #[] #[])
 | some (.num t n a f), v => ex fun g : Nat => sep [pu (v = .func (.func 67) #[] #[.pointer (some ⟨g, 0, none⟩)]), blk g #[.int .i64 t, .int .i64 n, .int .i64 a, .int .u8 f] 81]
 | some (.oid l wi), v => ex fun g : Nat => sep [pu (v = .func (.func 68) #[] #[.pointer (some ⟨g, 0, none⟩)]), blk g #[.int .i64 l, .bool wi] 86]
 | some (.bit l bg u), v => ex fun g : Nat => sep [pu (v = .func (.func 69) #[] #[.pointer (some ⟨g, 0, none⟩)]), blk g #[.int .i64 l, .bool bg, .int .u8 u] 91]
 | some (.whn u D l), v => ex fun g : Nat => sep [pu (v = .func (.func 70) #[] #[.pointer (some ⟨g, 0, none⟩)]), blk g #[.string (strOfNums D), .int .i64 l, .bool u] 96]
 | some (.txt t l m lo hi), v => ex fun g : Nat => sep [pu (v = .func (.func 71) #[] #[.pointer (some ⟨g, 0, none⟩)]), blk g #[.int .i64 t, .int .i64 l, .int .i64 m, .int .u8 lo, .int .u8 hi] 101]
theorem mf (fn : Fn) (first cap : Array Value) (w : World) : (Instr.makeFunc fn first cap).run Try.prog w = .ok (.func fn first cap) w := rfl
theorem nx_none {w0 w : World} {S : Nat → Prop} {l : List Ast} (h : Sp w0 S l w) : Sp w0 S (nx none .nilFunc :: l) w := h.more (Upd.refl _ _) rfl
set_option maxHeartbeats 4000000 in
set_option maxRecDepth 100000 in
theorem wrap_num (s : Option Cs) (hs : s = none ∨ ∃ t n a f, s = some (.num t n a f)) (w : World) :
 Calls Try.prog 45 #[.agg (cellsnum s), .bool s.isSome] w fun e w' => ∃ v, e = .returned (.tuple #[v, .bool s.isSome]) ∧ Sp w None0 [nx s v] w' := by
 have hS := Sp.nil (w := w) (S := None0)
 have hu := Try.underlying81
 have hmf := mf
 rcases hs with rfl | ⟨t, n, a, f, rfl⟩
 ·
  show Calls Try.prog 45 #[.agg #[.int .i64 0, .int .i64 0, .int .i64 0, .int .u8 0], .bool false] w _
  go_enter Try.func45, Try.ntmps45
  go_wp2_with (first
   | ((with_reducible refine gate_dst (N := 2) rfl ?_)
      refine sp_box hS rfl (N := 2) rfl #[.int .i64 0, .int .i64 0, .int .i64 0, .int .u8 0] 81 zz10 ?_
      intro g w1 hg hS))
  go_ret2
  exact ⟨_, rfl, Sp.sel (l2 := [nx none _]) (nx_none zz52) [0]⟩
 ·
  show Calls Try.prog 45 #[.agg #[.int .i64 t, .int .i64 n, .int .i64 a, .int .u8 f], .bool true] w _
  go_enter Try.func45, Try.ntmps45
  go_wp2_with (first
   | ((with_reducible refine gate_dst (N := 2) rfl ?_)
      refine sp_box hS rfl (N := 2) rfl #[.int .i64 t, .int .i64 n, .int .i64 a, .int .u8 f] 81 zz10 ?_
      intro g w1 hg hS))
  go_ret2
  exact ⟨_, rfl, Sp.exI g (Sp.fold [_, _] ((hS.lt (W := _)).more (a := pu _) (Upd.refl _ _) rfl))⟩
set_option maxHeartbeats 4000000 in
set_option maxRecDepth 100000 in
theorem wrap_oid (s : Option Cs) (hs : s = none ∨ ∃ l wi, s = some (.oid l wi)) (w : World) :
 Calls Try.prog 47 #[.agg (cellsoid s), .bool s.isSome] w fun e w' => ∃ v, e = .returned (.tuple #[v, .bool s.isSome]) ∧ Sp w None0 [nx s v] w' := by
 have hS := Sp.nil (w := w) (S := None0)
 have hu := Try.underlying86
 have hmf := mf
 rcases hs with rfl | ⟨l, wi, rfl⟩
 ·
  show Calls Try.prog 47 #[.agg #[.int .i64 0, .bool false], .bool false] w _
  go_enter Try.func47, Try.ntmps47
  go_wp2_with (first
   | ((with_reducible refine gate_dst (N := 2) rfl ?_)
      refine sp_box hS rfl (N := 2) rfl #[.int .i64 0, .bool false] 86 zz10 ?_
      intro g w1 hg hS))
  go_ret2
  exact ⟨_, rfl, Sp.sel (l2 := [nx none _]) (nx_none zz52) [0]⟩
 ·
  show Calls Try.prog 47 #[.agg #[.int .i64 l, .bool wi], .bool true] w _
  go_enter Try.func47, Try.ntmps47
  go_wp2_with (first
   | ((with_reducible refine gate_dst (N := 2) rfl ?_)
      refine sp_box hS rfl (N := 2) rfl #[.int .i64 l, .bool wi] 86 zz10 ?_
      intro g w1 hg hS))
  go_ret2
  exact ⟨_, rfl, Sp.exI g (Sp.fold [_, _] ((hS.lt (W := _)).more (a := pu _) (Upd.refl _ _) rfl))⟩
set_option maxHeartbeats 4000000 in
set_option maxRecDepth 100000 in
theorem wrap_bit (s : Option Cs) (hs : s = none ∨ ∃ l bg u, s = some (.bit l bg u)) (w : World) :
 Calls Try.prog 49 #[.agg (cellsbit s), .bool s.isSome] w fun e w' => ∃ v, e = .returned (.tuple #[v, .bool s.isSome]) ∧ Sp w None0 [nx s v] w' := by
 have hS := Sp.nil (w := w) (S := None0)
 have hu := Try.underlying91
 have hmf := mf
 rcases hs with rfl | ⟨l, bg, u, rfl⟩
 ·
  show Calls Try.prog 49 #[.agg #[.int .i64 0, .bool false, .int .u8 0], .bool false] w _
  go_enter Try.func49, Try.ntmps49
  go_wp2_with (first
   | ((with_reducible refine gate_dst (N := 2) rfl ?_)
      refine sp_box hS rfl (N := 2) rfl #[.int .i64 0, .bool false, .int .u8 0] 91 zz10 ?_
      intro g w1 hg hS))
  go_ret2
  exact ⟨_, rfl, Sp.sel (l2 := [nx none _]) (nx_none zz52) [0]⟩
 ·
  show Calls Try.prog 49 #[.agg #[.int .i64 l, .bool bg, .int .u8 u], .bool true] w _
  go_enter Try.func49, Try.ntmps49
  go_wp2_with (first
   | ((with_reducible refine gate_dst (N := 2) rfl ?_)
      refine sp_box hS rfl (N := 2) rfl #[.int .i64 l, .bool bg, .int .u8 u] 91 zz10 ?_
      intro g w1 hg hS))
  go_ret2
  exact ⟨_, rfl, Sp.exI g (Sp.fold [_, _] ((hS.lt (W := _)).more (a := pu _) (Upd.refl _ _) rfl))⟩
set_option maxHeartbeats 4000000 in
set_option maxRecDepth 100000 in
theorem wrap_whn (s : Option Cs) (hs : s = none ∨ ∃ u D l, s = some (.whn u D l)) (w : World) :
 Calls Try.prog 51 #[.agg (cellswhn s), .bool s.isSome] w fun e w' => ∃ v, e = .returned (.tuple #[v, .bool s.isSome]) ∧ Sp w None0 [nx s v] w' := by
 have hS := Sp.nil (w := w) (S := None0)
 have hu := Try.underlying96
 have hmf := mf
 rcases hs with rfl | ⟨u, D, l, rfl⟩
 ·
  show Calls Try.prog 51 #[.agg #[.string ⟨#[]⟩, .int .i64 0, .bool false], .bool false] w _
  go_enter Try.func51, Try.ntmps51
  go_wp2_with (first
   | ((with_reducible refine gate_dst (N := 2) rfl ?_)
      refine sp_box hS rfl (N := 2) rfl #[.string ⟨#[]⟩, .int .i64 0, .bool false] 96 zz10 ?_
      intro g w1 hg hS))
  go_ret2
  exact ⟨_, rfl, Sp.sel (l2 := [nx none _]) (nx_none zz52) [0]⟩
 ·
  show Calls Try.prog 51 #[.agg #[.string (strOfNums D), .int .i64 l, .bool u], .bool true] w _
  go_enter Try.func51, Try.ntmps51
  go_wp2_with (first
   | ((with_reducible refine gate_dst (N := 2) rfl ?_)
      refine sp_box hS rfl (N := 2) rfl #[.string (strOfNums D), .int .i64 l, .bool u] 96 zz10 ?_
      intro g w1 hg hS))
  go_ret2
  exact ⟨_, rfl, Sp.exI g (Sp.fold [_, _] ((hS.lt (W := _)).more (a := pu _) (Upd.refl _ _) rfl))⟩
set_option maxHeartbeats 4000000 in
set_option maxRecDepth 100000 in
theorem wrap_txt (s : Option Cs) (hs : s = none ∨ ∃ t l m lo hi, s = some (.txt t l m lo hi)) (w : World) :
 Calls Try.prog 53 #[.agg (cellstxt s), .bool s.isSome] w fun e w' => ∃ v, e = .returned (.tuple #[v, .bool s.isSome]) ∧ Sp w None0 [nx s v] w' := by
 have hS := Sp.nil (w := w) (S := None0)
 have hu := Try.underlying101
 have hmf := mf
 rcases hs with rfl | ⟨t, l, m, lo, hi, rfl⟩
 ·
  show Calls Try.prog 53 #[.agg #[.int .i64 0, .int .i64 0, .int .i64 0, .int .u8 0, .int .u8 0], .bool false] w _
  go_enter Try.func53, Try.ntmps53
  go_wp2_with (first
   | ((with_reducible refine gate_dst (N := 2) rfl ?_)
      refine sp_box hS rfl (N := 2) rfl #[.int .i64 0, .int .i64 0, .int .i64 0, .int .u8 0, .int .u8 0] 101 zz10 ?_
      intro g w1 hg hS))
  go_ret2
  exact ⟨_, rfl, Sp.sel (l2 := [nx none _]) (nx_none zz52) [0]⟩
 ·
  show Calls Try.prog 53 #[.agg #[.int .i64 t, .int .i64 l, .int .i64 m, .int .u8 lo, .int .u8 hi], .bool true] w _
  go_enter Try.func53, Try.ntmps53
  go_wp2_with (first
   | ((with_reducible refine gate_dst (N := 2) rfl ?_)
      refine sp_box hS rfl (N := 2) rfl #[.int .i64 t, .int .i64 l, .int .i64 m, .int .u8 lo, .int .u8 hi] 101 zz10 ?_
      intro g w1 hg hS))
  go_ret2
  exact ⟨_, rfl, Sp.exI g (Sp.fold [_, _] ((hS.lt (W := _)).more (a := pu _) (Upd.refl _ _) rfl))⟩
theorem kind_num (t n a f : Int) (b : Int) : pushC (.num t n a f) b = none ∨ ∃ t' n' a' f', pushC (.num t n a f) b = some (.num t' n' a' f') := by simp only [pushC]; split; exact .inr ⟨_, _, _, _, rfl⟩; exact .inl rfl
set_option maxHeartbeats 4000000 in
set_option maxRecDepth 100000 in
theorem clo_num (t n a f : Int) (b r : Int) (hg : Good (.num t n a f) r) (hr : 0 < r) (hb : 0 ≤ b ∧ b < 256) (g : Nat) (w : World) (S : Nat → Prop) (h : Hs w S [blk g #[.int .i64 t, .int .i64 n, .int .i64 a, .int .u8 f] 81]) :
 Calls Try.prog 67 #[.int .u8 b, .pointer (some ⟨g, 0, none⟩)] w fun e w' => ∃ v, e = .returned (.tuple #[v, .bool (pushC (.num t n a f) b).isSome]) ∧ Sp w S [nx (pushC (.num t n a f) b) v] w' := by
 have hS := Sp.start h
 have hu := Try.underlying81
 have HP := Aside0.mk (fun W => push_num t n a f b r hg hr hb W)
 obtain ⟨s, hs⟩ : ∃ s, pushC (.num t n a f) b = s := ⟨_, rfl⟩
 rw [hs] at HP ⊢
 have HW := Aside0.mk (fun W => wrap_num s (by rw [← hs]; exact kind_num t n a f b) W)
 obtain ⟨ok, hok⟩ : ∃ ok, s.isSome = ok := ⟨_, rfl⟩
 obtain ⟨cs, hcs⟩ : ∃ cs, cellsnum s = cs := ⟨_, rfl⟩
 rw [hok] at HP HW ⊢
 rw [hcs] at HP HW
 have hm : ∀ W, Sem.run Try.prog (method 255 81 (.agg #[.int .i64 t, .int .i64 n, .int .i64 a, .int .u8 f]) "Push") W = .ok (101, .agg #[.int .i64 t, .int .i64 n, .int .i64 a, .int .u8 f]) W := fun _ => by kernel_rfl
 obtain ⟨k0, k1, k2, k3⟩ := hS.cells4 0
 clear h hg hr hs hok hcs
 go_enter Try.func67, Try.ntmps67
 go_wp2_with (first
  | (go_at_call 101
     (with_reducible refine (HP.out _).mono ?_)
     rintro e w2 ⟨rfl, hun⟩
     replace hS := hS.toN hun)
  | (go_at_call 45
     (with_reducible refine (HW.out _).mono ?_)
     rintro e w3 ⟨v, rfl, hq⟩
     replace hS := hS.post0 (hq.mo (fun _ h => h.elim))))
 go_ret2
 exact ⟨v, rfl, Sp.sel (l2 := [nx s v]) hS.lt [0]⟩
theorem kind_oid (l : Int) (wi : Bool) (b : Int) : pushC (.oid l wi) b = none ∨ ∃ l' wi', pushC (.oid l wi) b = some (.oid l' wi') := by simp only [pushC]; split; exact .inl rfl; exact .inr ⟨_, _, rfl⟩
set_option maxHeartbeats 4000000 in
set_option maxRecDepth 100000 in
theorem clo_oid (l : Int) (wi : Bool) (b r : Int) (hg : Good (.oid l wi) r) (hr : 0 < r) (hb : 0 ≤ b ∧ b < 256) (g : Nat) (w : World) (S : Nat → Prop) (h : Hs w S [blk g #[.int .i64 l, .bool wi] 86]) :
 Calls Try.prog 68 #[.int .u8 b, .pointer (some ⟨g, 0, none⟩)] w fun e w' => ∃ v, e = .returned (.tuple #[v, .bool (pushC (.oid l wi) b).isSome]) ∧ Sp w S [nx (pushC (.oid l wi) b) v] w' := by
 have hS := Sp.start h
 have hu := Try.underlying86
 have HP := Aside0.mk (fun W => push_oid l wi b r hg hr hb W)
 obtain ⟨s, hs⟩ : ∃ s, pushC (.oid l wi) b = s := ⟨_, rfl⟩
 rw [hs] at HP ⊢
 have HW := Aside0.mk (fun W => wrap_oid s (by rw [← hs]; exact kind_oid l wi b) W)
 obtain ⟨ok, hok⟩ : ∃ ok, s.isSome = ok := ⟨_, rfl⟩
 obtain ⟨cs, hcs⟩ : ∃ cs, cellsoid s = cs := ⟨_, rfl⟩
 rw [hok] at HP HW ⊢
 rw [hcs] at HP HW
 have hm : ∀ W, Sem.run Try.prog (method 255 86 (.agg #[.int .i64 l, .bool wi]) "Push") W = .ok (102, .agg #[.int .i64 l, .bool wi]) W := fun _ => by kernel_rfl
 obtain ⟨k0, k1⟩ := hS.cells2 0
 clear h hg hr hs hok hcs
 go_enter Try.func68, Try.ntmps68
 go_wp2_with (first
  | (go_at_call 102
     (with_reducible refine (HP.out _).mono ?_)
     rintro e w2 ⟨rfl, hun⟩
     replace hS := hS.toN hun)
  | (go_at_call 47
     (with_reducible refine (HW.out _).mono ?_)
     rintro e w3 ⟨v, rfl, hq⟩
     replace hS := hS.post0 (hq.mo (fun _ h => h.elim))))
 go_ret2
 exact ⟨v, rfl, Sp.sel (l2 := [nx s v]) hS.lt [0]⟩
theorem kind_bit (l : Int) (bg : Bool) (u : Int) (b : Int) : pushC (.bit l bg u) b = none ∨ ∃ l' bg' u', pushC (.bit l bg u) b = some (.bit l' bg' u') := by simp only [pushC]; split <;> split <;> first | exact .inl rfl | exact .inr ⟨_, _, _, rfl⟩
set_option maxHeartbeats 4000000 in
set_option maxRecDepth 100000 in
theorem clo_bit (l : Int) (bg : Bool) (u : Int) (b r : Int) (hg : Good (.bit l bg u) r) (hr : 0 < r) (hb : 0 ≤ b ∧ b < 256) (g : Nat) (w : World) (S : Nat → Prop) (h : Hs w S [blk g #[.int .i64 l, .bool bg, .int .u8 u] 91]) :
 Calls Try.prog 69 #[.int .u8 b, .pointer (some ⟨g, 0, none⟩)] w fun e w' => ∃ v, e = .returned (.tuple #[v, .bool (pushC (.bit l bg u) b).isSome]) ∧ Sp w S [nx (pushC (.bit l bg u) b) v] w' := by
 have hS := Sp.start h
 have hu := Try.underlying91
 have HP := Aside0.mk (fun W => push_bit l bg u b r hg hr hb W)
 obtain ⟨s, hs⟩ : ∃ s, pushC (.bit l bg u) b = s := ⟨_, rfl⟩
 rw [hs] at HP ⊢
 have HW := Aside0.mk (fun W => wrap_bit s (by rw [← hs]; exact kind_bit l bg u b) W)
 obtain ⟨ok, hok⟩ : ∃ ok, s.isSome = ok := ⟨_, rfl⟩
 obtain ⟨cs, hcs⟩ : ∃ cs, cellsbit s = cs := ⟨_, rfl⟩
 rw [hok] at HP HW ⊢
 rw [hcs] at HP HW
 have hm : ∀ W, Sem.run Try.prog (method 255 91 (.agg #[.int .i64 l, .bool bg, .int .u8 u]) "Push") W = .ok (103, .agg #[.int .i64 l, .bool bg, .int .u8 u]) W := fun _ => by kernel_rfl
 obtain ⟨k0, k1, k2⟩ := hS.cells3 0
 clear h hg hr hs hok hcs
 go_enter Try.func69, Try.ntmps69
 go_wp2_with (first
  | (go_at_call 103
     (with_reducible refine (HP.out _).mono ?_)
     rintro e w2 ⟨rfl, hun⟩
     replace hS := hS.toN hun)
  | (go_at_call 49
     (with_reducible refine (HW.out _).mono ?_)
     rintro e w3 ⟨v, rfl, hq⟩
     replace hS := hS.post0 (hq.mo (fun _ h => h.elim))))
 go_ret2
 exact ⟨v, rfl, Sp.sel (l2 := [nx s v]) hS.lt [0]⟩
theorem kind_whn (u : Bool) (D : List Int) (l : Int) (b : Int) : pushC (.whn u D l) b = none ∨ ∃ u' D' l', pushC (.whn u D l) b = some (.whn u' D' l') := by simp only [pushC]; cases Dt.stp u (D, l) b; exact .inl rfl; exact .inr ⟨_, _, _, rfl⟩
set_option maxHeartbeats 4000000 in
set_option maxRecDepth 100000 in
theorem clo_whn (u : Bool) (D : List Int) (l : Int) (b r : Int) (hg : Good (.whn u D l) r) (hr : 0 < r) (hb : 0 ≤ b ∧ b < 256) (g : Nat) (w : World) (S : Nat → Prop) (h : Hs w S [blk g #[.string (strOfNums D), .int .i64 l, .bool u] 96]) :
 Calls Try.prog 70 #[.int .u8 b, .pointer (some ⟨g, 0, none⟩)] w fun e w' => ∃ v, e = .returned (.tuple #[v, .bool (pushC (.whn u D l) b).isSome]) ∧ Sp w S [nx (pushC (.whn u D l) b) v] w' := by
 have hS := Sp.start h
 have hu := Try.underlying96
 have HP := Aside0.mk (fun W => push_whn u D l b r hg hr hb W)
 obtain ⟨s, hs⟩ : ∃ s, pushC (.whn u D l) b = s := ⟨_, rfl⟩
 rw [hs] at HP ⊢
 have HW := Aside0.mk (fun W => wrap_whn s (by rw [← hs]; exact kind_whn u D l b) W)
 obtain ⟨ok, hok⟩ : ∃ ok, s.isSome = ok := ⟨_, rfl⟩
 obtain ⟨cs, hcs⟩ : ∃ cs, cellswhn s = cs := ⟨_, rfl⟩
 rw [hok] at HP HW ⊢
 rw [hcs] at HP HW
 have hm : ∀ W, Sem.run Try.prog (method 255 96 (.agg #[.string (strOfNums D), .int .i64 l, .bool u]) "Push") W = .ok (104, .agg #[.string (strOfNums D), .int .i64 l, .bool u]) W := fun _ => by kernel_rfl
 obtain ⟨k0, k1, k2⟩ := hS.cells3 0
 clear h hg hr hs hok hcs
 go_enter Try.func70, Try.ntmps70
 go_wp2_with (first
  | (go_at_call 104
     (with_reducible refine (HP.out _).mono ?_)
     rintro e w2 ⟨rfl, hun⟩
     replace hS := hS.toN hun)
  | (go_at_call 51
     (with_reducible refine (HW.out _).mono ?_)
     rintro e w3 ⟨v, rfl, hq⟩
     replace hS := hS.post0 (hq.mo (fun _ h => h.elim))))
 go_ret2
 exact ⟨v, rfl, Sp.sel (l2 := [nx s v]) hS.lt [0]⟩
theorem kind_txt (t l m lo hi : Int) (b : Int) : pushC (.txt t l m lo hi) b = none ∨ ∃ t' l' m' lo' hi', pushC (.txt t l m lo hi) b = some (.txt t' l' m' lo' hi') := by simp only [pushC]; cases Tx.stp t (l, m, lo, hi) b; exact .inl rfl; exact .inr ⟨_, _, _, _, _, rfl⟩
set_option maxHeartbeats 4000000 in
set_option maxRecDepth 100000 in
theorem clo_txt (t l m lo hi : Int) (b r : Int) (hg : Good (.txt t l m lo hi) r) (hr : 0 < r) (hb : 0 ≤ b ∧ b < 256) (g : Nat) (w : World) (S : Nat → Prop) (h : Hs w S [blk g #[.int .i64 t, .int .i64 l, .int .i64 m, .int .u8 lo, .int .u8 hi] 101]) :
 Calls Try.prog 71 #[.int .u8 b, .pointer (some ⟨g, 0, none⟩)] w fun e w' => ∃ v, e = .returned (.tuple #[v, .bool (pushC (.txt t l m lo hi) b).isSome]) ∧ Sp w S [nx (pushC (.txt t l m lo hi) b) v] w' := by
 have hS := Sp.start h
 have hu := Try.underlying101
 have HP := Aside0.mk (fun W => push_txt t l m lo hi b r hg hr hb W)
 obtain ⟨s, hs⟩ : ∃ s, pushC (.txt t l m lo hi) b = s := ⟨_, rfl⟩
 rw [hs] at HP ⊢
 have HW := Aside0.mk (fun W => wrap_txt s (by rw [← hs]; exact kind_txt t l m lo hi b) W)
 obtain ⟨ok, hok⟩ : ∃ ok, s.isSome = ok := ⟨_, rfl⟩
 obtain ⟨cs, hcs⟩ : ∃ cs, cellstxt s = cs := ⟨_, rfl⟩
 rw [hok] at HP HW ⊢
 rw [hcs] at HP HW
 have hm : ∀ W, Sem.run Try.prog (method 255 101 (.agg #[.int .i64 t, .int .i64 l, .int .i64 m, .int .u8 lo, .int .u8 hi]) "Push") W = .ok (110, .agg #[.int .i64 t, .int .i64 l, .int .i64 m, .int .u8 lo, .int .u8 hi]) W := fun _ => by kernel_rfl
 obtain ⟨k0, k1, k2, k3, k4⟩ := hS.cells5 0
 clear h hg hr hs hok hcs
 go_enter Try.func71, Try.ntmps71
 go_wp2_with (first
  | (go_at_call 110
     (with_reducible refine (HP.out _).mono ?_)
     rintro e w2 ⟨rfl, hun⟩
     replace hS := hS.toN hun)
  | (go_at_call 53
     (with_reducible refine (HW.out _).mono ?_)
     rintro e w3 ⟨v, rfl, hq⟩
     replace hS := hS.post0 (hq.mo (fun _ h => h.elim))))
 go_ret2
 exact ⟨v, rfl, Sp.sel (l2 := [nx s v]) hS.lt [0]⟩
theorem start_num (tag n : Int) (s : Option Cs) (hs : (if okN tag n = true then some (Cs.num tag n 0 0) else none) = s) (w : World) :
 Calls Try.prog 46 #[.int .i64 tag, .int .i64 n] w fun e w' => e = .returned (.tuple #[.agg (cellsnum s), .bool s.isSome]) ∧ Upd None0 w w' := by
 subst hs
 have hp := BNum.start_eq 0 tag n
 by_cases h : okN tag n = true
 ·
  rw [if_pos h] at hp ⊢
  exact (number_Start.calls 1 tag n _ _ _ _ _ w hp).mono fun e w' ⟨he, hw⟩ => ⟨he, Upd.of_below hw⟩
 ·
  rw [if_neg h] at hp ⊢
  exact (number_Start.calls 1 tag n _ _ _ _ _ w hp).mono fun e w' ⟨he, hw⟩ => ⟨he, Upd.of_below hw⟩
theorem start_oid (tag n : Int) (s : Option Cs) (hs : (if n < 1 then none else some (Cs.oid n false)) = s) (w : World) :
 Calls Try.prog 48 #[.int .i64 n] w fun e w' => e = .returned (.tuple #[.agg (cellsoid s), .bool s.isSome]) ∧ Upd None0 w w' := by
 subst hs
 have hp : oid_Start.f n = some (if n < 1 then (0, false, false) else (n, false, true)) := by unfold oid_Start.f; split <;> rfl
 by_cases h : n < 1
 ·
  rw [if_pos h] at hp ⊢
  exact (oid_Start.calls n _ _ _ w hp).mono fun e w' ⟨he, hw⟩ => ⟨he, Upd.of_below hw⟩
 ·
  rw [if_neg h] at hp ⊢
  exact (oid_Start.calls n _ _ _ w hp).mono fun e w' ⟨he, hw⟩ => ⟨he, Upd.of_below hw⟩
theorem start_bit (tag n : Int) (s : Option Cs) (hs : (if n < 1 then none else some (Cs.bit n false 0)) = s) (w : World) :
 Calls Try.prog 50 #[.int .i64 n] w fun e w' => e = .returned (.tuple #[.agg (cellsbit s), .bool s.isSome]) ∧ Upd None0 w w' := by
 subst hs
 have hp : bitstr_Start.f n = some (if n < 1 then (0, false, 0, false) else (n, false, 0, true)) := by unfold bitstr_Start.f; split <;> rfl
 by_cases h : n < 1
 ·
  rw [if_pos h] at hp ⊢
  exact (bitstr_Start.calls n _ _ _ _ w hp).mono fun e w' ⟨he, hw⟩ => ⟨he, Upd.of_below hw⟩
 ·
  rw [if_neg h] at hp ⊢
  exact (bitstr_Start.calls n _ _ _ _ w hp).mono fun e w' ⟨he, hw⟩ => ⟨he, Upd.of_below hw⟩
theorem start_whn (tag n : Int) (s : Option Cs) (hs : (if (tag = 23 ∧ n = 13) ∨ (tag = 24 ∧ n = 15) then some (Cs.whn (decide (tag = 23)) [] n) else none) = s) (w : World) :
 Calls Try.prog 52 #[.int .i64 tag, .int .i64 n] w fun e w' => e = .returned (.tuple #[.agg (cellswhn s), .bool s.isSome]) ∧ Upd None0 w w' := by
 subst hs
 have h0 : strOfNums [] = (⟨#[]⟩ : ByteArray) := by decide
 by_cases h : (tag = 23 ∧ n = 13) ∨ (tag = 24 ∧ n = 15)
 ·
  rw [if_pos h]
  show Calls Try.prog _ _ w fun e w' => e = .returned (.tuple #[.agg #[.string (strOfNums []), .int .i64 n, .bool (decide (tag = 23))], .bool true]) ∧ Upd None0 w w'
  rw [h0]
  rcases h with ⟨rfl, rfl⟩ | ⟨rfl, rfl⟩
  ·
   exact (when_Start.calls 23 13 _ _ _ _ w (BDat.start_yes true)).mono fun e w' ⟨he, hw⟩ => ⟨he, Upd.of_below hw⟩
  ·
   exact (when_Start.calls 24 15 _ _ _ _ w (BDat.start_yes false)).mono fun e w' ⟨he, hw⟩ => ⟨he, Upd.of_below hw⟩
 ·
  rw [if_neg h]
  exact (when_Start.calls tag n _ _ _ _ w (BDat.start_no tag n (fun u hu => by cases u; exact h (.inr hu); exact h (.inl hu)))).mono fun e w' ⟨he, hw⟩ => ⟨he, Upd.of_below hw⟩
theorem start_txt (tag n : Int) (s : Option Cs) (hs : (if n < 0 then none else some (Cs.txt tag n 0 0 0)) = s) (w : World) :
 Calls Try.prog 54 #[.int .i64 tag, .int .i64 n] w fun e w' => e = .returned (.tuple #[.agg (cellstxt s), .bool s.isSome]) ∧ Upd None0 w w' := by
 subst hs
 have hp := BTxt.start_eq tag n
 by_cases h : n < 0
 ·
  rw [if_pos h] at hp ⊢
  exact (text_Start.calls tag n _ _ _ _ _ _ w hp).mono fun e w' ⟨he, hw⟩ => ⟨he, Upd.of_below hw⟩
 ·
  rw [if_neg h] at hp ⊢
  exact (text_Start.calls tag n _ _ _ _ _ _ w hp).mono fun e w' ⟨he, hw⟩ => ⟨he, Upd.of_below hw⟩
set_option maxHeartbeats 4000000 in
set_option maxRecDepth 100000 in
theorem start_any (cl tag n : Int) (cons : Bool) (w : World) :
 Calls Try.prog 34 #[.agg #[.int .i64 cl, .int .i64 tag, .bool cons, .int .i64 n]] w fun e w' => ∃ v, e = .returned (.tuple #[v, .bool (startC tag n).isSome]) ∧ Sp w None0 [nx (startC tag n) v] w' := by
 have hS := Sp.nil (w := w) (S := None0)
 have hu := Try.underlying37
 obtain ⟨s, hs⟩ : ∃ s, startC tag n = s := ⟨_, rfl⟩
 rw [hs]
 have BOX : True := trivial
 by_cases c0 : tag = 0 ∨ tag = 16 ∨ tag = 17
 ·
  unfold startC at hs
  rw [if_pos c0] at hs
  subst hs
  rcases c0 with rfl | rfl | rfl
  all_goals
   go_enter Try.func34, Try.ntmps34
   go_wp2_with (first
    | ((with_reducible refine gate_dst (N := 1) rfl ?_)
       refine sp_box hS rfl (N := 1) rfl _ 37 zz10 ?_
       intro g w1 hg hS
       obtain ⟨k0, k1, k2, k3⟩ := hS.cells4 0))
   go_ret2
   exact ⟨_, rfl, Sp.sel (l2 := [nx none _]) (nx_none zz52) [0]⟩
 by_cases c_num : tag = 1 ∨ tag = 2 ∨ tag = 5 ∨ tag = 10
 ·
  have hsc : startC tag n = (if okN tag n = true then some (Cs.num tag n 0 0) else none) := by unfold startC; rw [if_neg c0, if_pos c_num]
  have HST := Aside0.mk (fun W => start_num tag n s (by rw [← hs, hsc]) W)
  have HW := Aside0.mk (fun W => wrap_num s (by rw [← hs, hsc]; repeat' split <;> first | exact .inl rfl | exact .inr ⟨_, _, _, _, rfl⟩) W)
  obtain ⟨ok, hok⟩ : ∃ ok, s.isSome = ok := ⟨_, rfl⟩
  obtain ⟨cs, hcs⟩ : ∃ cs, cellsnum s = cs := ⟨_, rfl⟩
  rw [hok] at HST HW ⊢
  rw [hcs] at HST HW
  clear hs hok hcs hsc
  rcases c_num with rfl | rfl | rfl | rfl
  all_goals
   go_enter Try.func34, Try.ntmps34
   go_wp2_with (first
    | ((with_reducible refine gate_dst (N := 1) rfl ?_)
       refine sp_box hS rfl (N := 1) rfl _ 37 zz10 ?_
       intro g w1 hg hS
       obtain ⟨k0, k1, k2, k3⟩ := hS.cells4 0)
    | (go_at_call 46
       (with_reducible refine (HST.out _).mono ?_)
       rintro e w2 ⟨rfl, hun⟩
       replace hS := hS.toN hun)
    | (go_at_call 45
       (with_reducible refine (HW.out _).mono ?_)
       rintro e w3 ⟨v, rfl, hq⟩
       replace hS := hS.post0 (hq.mo (fun _ h => h.elim))))
   go_ret2
   exact ⟨v, rfl, Sp.sel (l2 := [nx s v]) hS.lt [0]⟩
 by_cases c_oid : tag = 6
 ·
  have hsc : startC tag n = (if n < 1 then none else some (Cs.oid n false)) := by unfold startC; rw [if_neg c0, if_neg c_num, if_pos c_oid]
  have HST := Aside0.mk (fun W => start_oid tag n s (by rw [← hs, hsc]) W)
  have HW := Aside0.mk (fun W => wrap_oid s (by rw [← hs, hsc]; repeat' split <;> first | exact .inl rfl | exact .inr ⟨_, _, rfl⟩) W)
  obtain ⟨ok, hok⟩ : ∃ ok, s.isSome = ok := ⟨_, rfl⟩
  obtain ⟨cs, hcs⟩ : ∃ cs, cellsoid s = cs := ⟨_, rfl⟩
  rw [hok] at HST HW ⊢
  rw [hcs] at HST HW
  clear hs hok hcs hsc
  subst c_oid
  all_goals
   go_enter Try.func34, Try.ntmps34
   go_wp2_with (first
    | ((with_reducible refine gate_dst (N := 1) rfl ?_)
       refine sp_box hS rfl (N := 1) rfl _ 37 zz10 ?_
       intro g w1 hg hS
       obtain ⟨k0, k1, k2, k3⟩ := hS.cells4 0)
    | (go_at_call 48
       (with_reducible refine (HST.out _).mono ?_)
       rintro e w2 ⟨rfl, hun⟩
       replace hS := hS.toN hun)
    | (go_at_call 47
       (with_reducible refine (HW.out _).mono ?_)
       rintro e w3 ⟨v, rfl, hq⟩
       replace hS := hS.post0 (hq.mo (fun _ h => h.elim))))
   go_ret2
   exact ⟨v, rfl, Sp.sel (l2 := [nx s v]) hS.lt [0]⟩
 by_cases c_bit : tag = 3
 ·
  have hsc : startC tag n = (if n < 1 then none else some (Cs.bit n false 0)) := by unfold startC; rw [if_neg c0, if_neg c_num, if_neg c_oid, if_pos c_bit]
  have HST := Aside0.mk (fun W => start_bit tag n s (by rw [← hs, hsc]) W)
  have HW := Aside0.mk (fun W => wrap_bit s (by rw [← hs, hsc]; repeat' split <;> first | exact .inl rfl | exact .inr ⟨_, _, _, rfl⟩) W)
  obtain ⟨ok, hok⟩ : ∃ ok, s.isSome = ok := ⟨_, rfl⟩
  obtain ⟨cs, hcs⟩ : ∃ cs, cellsbit s = cs := ⟨_, rfl⟩
  rw [hok] at HST HW ⊢
  rw [hcs] at HST HW
  clear hs hok hcs hsc
  subst c_bit
  all_goals
   go_enter Try.func34, Try.ntmps34
   go_wp2_with (first
    | ((with_reducible refine gate_dst (N := 1) rfl ?_)
       refine sp_box hS rfl (N := 1) rfl _ 37 zz10 ?_
       intro g w1 hg hS
       obtain ⟨k0, k1, k2, k3⟩ := hS.cells4 0)
    | (go_at_call 50
       (with_reducible refine (HST.out _).mono ?_)
       rintro e w2 ⟨rfl, hun⟩
       replace hS := hS.toN hun)
    | (go_at_call 49
       (with_reducible refine (HW.out _).mono ?_)
       rintro e w3 ⟨v, rfl, hq⟩
       replace hS := hS.post0 (hq.mo (fun _ h => h.elim))))
   go_ret2
   exact ⟨v, rfl, Sp.sel (l2 := [nx s v]) hS.lt [0]⟩
 by_cases c_whn : tag = 23 ∨ tag = 24
 ·
  have hsc : startC tag n = (if (tag = 23 ∧ n = 13) ∨ (tag = 24 ∧ n = 15) then some (Cs.whn (decide (tag = 23)) [] n) else none) := by unfold startC; rw [if_neg c0, if_neg c_num, if_neg c_oid, if_neg c_bit, if_pos c_whn]
  have HST := Aside0.mk (fun W => start_whn tag n s (by rw [← hs, hsc]) W)
  have HW := Aside0.mk (fun W => wrap_whn s (by rw [← hs, hsc]; repeat' split <;> first | exact .inl rfl | exact .inr ⟨_, _, _, rfl⟩) W)
  obtain ⟨ok, hok⟩ : ∃ ok, s.isSome = ok := ⟨_, rfl⟩
  obtain ⟨cs, hcs⟩ : ∃ cs, cellswhn s = cs := ⟨_, rfl⟩
  rw [hok] at HST HW ⊢
  rw [hcs] at HST HW
  clear hs hok hcs hsc
  rcases c_whn with rfl | rfl
  all_goals
   go_enter Try.func34, Try.ntmps34
   go_wp2_with (first
    | ((with_reducible refine gate_dst (N := 1) rfl ?_)
       refine sp_box hS rfl (N := 1) rfl _ 37 zz10 ?_
       intro g w1 hg hS
       obtain ⟨k0, k1, k2, k3⟩ := hS.cells4 0)
    | (go_at_call 52
       (with_reducible refine (HST.out _).mono ?_)
       rintro e w2 ⟨rfl, hun⟩
       replace hS := hS.toN hun)
    | (go_at_call 51
       (with_reducible refine (HW.out _).mono ?_)
       rintro e w3 ⟨v, rfl, hq⟩
       replace hS := hS.post0 (hq.mo (fun _ h => h.elim))))
   go_ret2
   exact ⟨v, rfl, Sp.sel (l2 := [nx s v]) hS.lt [0]⟩
 have hsc : startC tag n = (if n < 0 then none else some (Cs.txt tag n 0 0 0)) := by unfold startC; rw [if_neg c0, if_neg c_num, if_neg c_oid, if_neg c_bit, if_neg c_whn]
 have HST := Aside0.mk (fun W => start_txt tag n s (by rw [← hs, hsc]) W)
 have HW := Aside0.mk (fun W => wrap_txt s (by rw [← hs, hsc]; repeat' split <;> first | exact .inl rfl | exact .inr ⟨_, _, _, _, _, rfl⟩) W)
 obtain ⟨ok, hok⟩ : ∃ ok, s.isSome = ok := ⟨_, rfl⟩
 obtain ⟨cs, hcs⟩ : ∃ cs, cellstxt s = cs := ⟨_, rfl⟩
 rw [hok] at HST HW ⊢
 rw [hcs] at HST HW
 clear hs hok hcs hsc
 have z : ¬ (tag = 0) ∧ ¬ (tag = 16) ∧ ¬ (tag = 17) ∧ ¬ (tag = 1) ∧ ¬ (tag = 2) ∧ ¬ (tag = 5) ∧ ¬ (tag = 10) ∧ ¬ (tag = 6) ∧ ¬ (tag = 3) ∧ ¬ (tag = 23) ∧ ¬ (tag = 24) := by omega
 obtain ⟨z0, z1, z2, z3, z4, z5, z6, z7, z8, z9, z10⟩ := z
 clear c0 c_num c_oid c_bit c_whn
 all_goals
  go_enter Try.func34, Try.ntmps34
  go_wp2_with (first
   | ((with_reducible refine gate_dst (N := 1) rfl ?_)
      refine sp_box hS rfl (N := 1) rfl _ 37 zz10 ?_
      intro g w1 hg hS
      obtain ⟨k0, k1, k2, k3⟩ := hS.cells4 0)
   | (go_at_call 54
      (with_reducible refine (HST.out _).mono ?_)
      rintro e w2 ⟨rfl, hun⟩
      replace hS := hS.toN hun)
   | (go_at_call 53
      (with_reducible refine (HW.out _).mono ?_)
      rintro e w3 ⟨v, rfl, hq⟩
      replace hS := hS.post0 (hq.mo (fun _ h => h.elim))))
  go_ret2
  exact ⟨v, rfl, Sp.sel (l2 := [nx s v]) hS.lt [0]⟩
end Go.Proofs.Ytpfconocipmcjaa.Vp
namespace Go.Proofs.Ytpfconocipmcjaa.Vp
open RowKit PC YtpfconocipmcjaaW.PrintWords YtpfconocipmcjaaW.PrintLast YtpfconocipmcjaaW.PrintMore Own Sl
open Bs
set_option linter.unusedVariables false
set_option linter.unusedSimpArgs false
def kx : Option Cs → Value → Ast
 | none, _ => pu True
 | some s, v => nx (some s) v
def ck (g : Nat) (s : Option Cs) : Ast := ex fun v : Value => sep [blk g #[v, .bool s.isNone] 50, kx s v]
def lk (g : Nat) (s : Option Cs) : Ast := ex fun v : Value => sep [blk g #[v, .bool false] 50, kx s v]
theorem any_any (b : Int) (w : World) : Calls Try.prog 17 #[.int .u8 b] w fun e w' => e = .returned (.tuple #[.func (.func 17) #[] #[], .bool true]) ∧ w = w' := by
 go_enter Try.func17, Try.ntmps17
 go_wp2
 go_ret2
 exact ⟨rfl, rfl⟩
theorem ck_open {w : World} {S : Nat → Prop} {g : Nat} {s : Option Cs} (h : Hs w S [ck g s]) : ∃ v, Sp w S [blk g #[v, .bool s.isNone] 50, kx s v] w := by
 obtain ⟨v, h⟩ := (Sp.start h).ex0
 have := h.flat
 rw [List.append_nil] at this
 exact ⟨v, this⟩
theorem ck_shut {w0 w : World} {S : Nat → Prop} {g : Nat} {s : Option Cs} {v : Value} (h : Sp w0 S [blk g #[v, .bool s.isNone] 50, kx s v] w) : Sp w0 S [ck g s] w := Sp.exI v (Sp.fold _ (by rw [List.append_nil]; exact h))
theorem lk_shut {w0 w : World} {S : Nat → Prop} {g : Nat} {s : Option Cs} {v : Value} (h : Sp w0 S [blk g #[v, .bool false] 50, kx s v] w) : Sp w0 S [lk g s] w := Sp.exI v (Sp.fold _ (by rw [List.append_nil]; exact h))
theorem lk_none {w0 w : World} {S : Nat → Prop} {g : Nat} {v : Value} (h : Sp w0 S [blk g #[v, .bool false] 50] w) : Sp w0 S [lk g none] w := lk_shut (v := v) (h.more (a := kx none v) (Upd.refl _ _) trivial).swap
theorem ck_none {w0 w : World} {S : Nat → Prop} {g : Nat} {v : Value} (h : Sp w0 S [blk g #[v, .bool true] 50] w) : Sp w0 S [ck g none] w := ck_shut (v := v) (h.more (a := kx none v) (Upd.refl _ _) trivial).swap
theorem shape_num {t n a f : Int} {v : Value} {w : World} {T : Nat → Prop} (h : (nx (some (.num t n a f)) v).P w T) : ∃ g2 : Nat, v = .func (.func 67) #[] #[.pointer (some ⟨g2, 0, none⟩)] := by
 obtain ⟨g2, h⟩ := h
 exact ⟨g2, Hs.get h 0 _ rfl⟩
theorem shape_oid {l : Int} {wi : Bool} {v : Value} {w : World} {T : Nat → Prop} (h : (nx (some (.oid l wi)) v).P w T) : ∃ g2 : Nat, v = .func (.func 68) #[] #[.pointer (some ⟨g2, 0, none⟩)] := by
 obtain ⟨g2, h⟩ := h
 exact ⟨g2, Hs.get h 0 _ rfl⟩
theorem shape_bit {l : Int} {bg : Bool} {u : Int} {v : Value} {w : World} {T : Nat → Prop} (h : (nx (some (.bit l bg u)) v).P w T) : ∃ g2 : Nat, v = .func (.func 69) #[] #[.pointer (some ⟨g2, 0, none⟩)] := by
 obtain ⟨g2, h⟩ := h
 exact ⟨g2, Hs.get h 0 _ rfl⟩
theorem shape_whn {u : Bool} {D : List Int} {l : Int} {v : Value} {w : World} {T : Nat → Prop} (h : (nx (some (.whn u D l)) v).P w T) : ∃ g2 : Nat, v = .func (.func 70) #[] #[.pointer (some ⟨g2, 0, none⟩)] := by
 obtain ⟨g2, h⟩ := h
 exact ⟨g2, Hs.get h 0 _ rfl⟩
theorem shape_txt {t l m lo hi : Int} {v : Value} {w : World} {T : Nat → Prop} (h : (nx (some (.txt t l m lo hi)) v).P w T) : ∃ g2 : Nat, v = .func (.func 71) #[] #[.pointer (some ⟨g2, 0, none⟩)] := by
 obtain ⟨g2, h⟩ := h
 exact ⟨g2, Hs.get h 0 _ rfl⟩
set_option maxHeartbeats 4000000 in
set_option maxRecDepth 100000 in
theorem look_byte_num (g : Nat) (t n a f : Int) (at_ cl tag : Int) (cons : Bool) (ln b r : Int) (hg : Good (.num t n a f) r) (hr : 0 < r) (hb : 0 ≤ b ∧ b < 256) (w : World) (S : Nat → Prop) (h : Hs w S [ck g (some (.num t n a f))]) :
 Calls Try.prog 20 #[.pointer (some ⟨g, 0, none⟩), .agg #[.int .i64 3, .int .i64 at_, .int .i64 cl, .int .i64 tag, .bool cons, .int .i64 ln, .int .u8 b]] w fun e w' => e = .returned (.bool (pushC (.num t n a f) b).isSome) ∧ Sp w S [lk g (pushC (.num t n a f) b)] w' := by
 obtain ⟨v, hS⟩ := ck_open h
 have hu := Try.underlying39
 have hu2 := Try.underlying50
 obtain ⟨gc, hv⟩ := shape_num (hS.h.get 1 _ rfl)
 subst hv
 obtain ⟨gc2, hS⟩ := Sp.ex0 (Sp.swap hS)
 replace hS := hS.flat
 have hgc : gc2 = gc := by
  have hv : (Value.func (.func 67) #[] #[.pointer (some ⟨gc, 0, none⟩)]) = .func (.func 67) #[] #[.pointer (some ⟨gc2, 0, none⟩)] := hS.h.get 0 _ rfl
  injection hv with _ _ hv
  simp at hv
  exact hv.symm
 subst hgc
 replace hS := Sp.sel (l2 := [blk g #[.func (.func 67) #[] #[.pointer (some ⟨gc2, 0, none⟩)], .bool false] 50, blk gc2 #[.int .i64 t, .int .i64 n, .int .i64 a, .int .u8 f] 81]) hS [2, 1]
 have HC := Aside0.mk (fun W S' h => clo_num t n a f b r hg hr hb gc2 W S' h)
 have hkd := kind_num t n a f b
 clear h hg hr hb
 rcases hkd with hk | ⟨t2, n2, a2, f2, hk⟩
 ·
  rw [hk] at HC ⊢
  clear hk
  go_enter Try.func20, Try.ntmps20
  go_upto_region 2 with (first
   | ((with_reducible refine gate_dst (N := 3) rfl ?_)
      refine sp_box hS rfl (N := 3) rfl #[.int .i64 3, .int .i64 at_, .int .i64 cl, .int .i64 tag, .bool cons, .int .i64 ln, .int .u8 b] 39 zz10 ?_
      intro ge w1 hge hS
      obtain ⟨e0, e1, e2, e3, e4, e5, e6⟩ := hS.cells7 0
      obtain ⟨k0, k1⟩ := hS.cells2 1
      have kf := hS.fz 1))
  replace hS := Sp.sel (l2 := [blk gc2 #[.int .i64 t, .int .i64 n, .int .i64 a, .int .u8 f] 81, blk g #[.func (.func 67) #[] #[.pointer (some ⟨gc2, 0, none⟩)], .bool false] 50, blk ge #[.int .i64 3, .int .i64 at_, .int .i64 cl, .int .i64 tag, .bool cons, .int .i64 ln, .int .u8 b] 39]) hS [2, 1, 0]
  go_region_with (first
   | (go_at_call 67
      (with_reducible refine (HC.out _ (hS.ft 1) (by exact hS.pre1)).mono ?_)
      rintro e w3 ⟨v2, rfl, hq⟩
      replace hS := hS.post1 hq
      have hv2 : v2 = .nilFunc := hS.h.get 0 _ rfl
      subst hv2
      clear e0 e1 e2 e3 e4 e5 e6 k0 k1 kf
      obtain ⟨k0, k1⟩ := hS.cells2 1
      have kf := hS.fz 1))
  all_goals
   go_wp2
   go_ret
   exact ⟨rfl, lk_none (Sp.sel (l2 := [blk g #[.nilFunc, .bool false] 50]) ((hS.set_ 1 0 _).lt) [1])⟩
 ·
  rw [hk] at HC ⊢
  clear hk
  go_enter Try.func20, Try.ntmps20
  go_upto_region 2 with (first
   | ((with_reducible refine gate_dst (N := 3) rfl ?_)
      refine sp_box hS rfl (N := 3) rfl #[.int .i64 3, .int .i64 at_, .int .i64 cl, .int .i64 tag, .bool cons, .int .i64 ln, .int .u8 b] 39 zz10 ?_
      intro ge w1 hge hS
      obtain ⟨e0, e1, e2, e3, e4, e5, e6⟩ := hS.cells7 0
      obtain ⟨k0, k1⟩ := hS.cells2 1
      have kf := hS.fz 1))
  replace hS := Sp.sel (l2 := [blk gc2 #[.int .i64 t, .int .i64 n, .int .i64 a, .int .u8 f] 81, blk g #[.func (.func 67) #[] #[.pointer (some ⟨gc2, 0, none⟩)], .bool false] 50, blk ge #[.int .i64 3, .int .i64 at_, .int .i64 cl, .int .i64 tag, .bool cons, .int .i64 ln, .int .u8 b] 39]) hS [2, 1, 0]
  go_region_with (first
   | (go_at_call 67
      (with_reducible refine (HC.out _ (hS.ft 1) (by exact hS.pre1)).mono ?_)
      rintro e w3 ⟨v2, rfl, hq⟩
      replace hS := hS.post1 hq
      obtain ⟨g2, hv2⟩ := shape_num (hS.h.get 0 _ rfl)
      subst hv2
      clear e0 e1 e2 e3 e4 e5 e6 k0 k1 kf
      obtain ⟨k0, k1⟩ := hS.cells2 1
      have kf := hS.fz 1))
  all_goals
   go_wp2
   go_ret
   exact ⟨rfl, lk_shut (s := some (.num t2 n2 a2 f2)) (Sp.sel (l2 := [blk g #[.func (.func 67) #[] #[.pointer (some ⟨g2, 0, none⟩)], .bool false] 50, kx (some (.num t2 n2 a2 f2)) _]) ((hS.set_ 1 0 _).lt) [1, 0])⟩
set_option maxHeartbeats 4000000 in
set_option maxRecDepth 100000 in
theorem look_byte_oid (g : Nat) (l : Int) (wi : Bool) (at_ cl tag : Int) (cons : Bool) (ln b r : Int) (hg : Good (.oid l wi) r) (hr : 0 < r) (hb : 0 ≤ b ∧ b < 256) (w : World) (S : Nat → Prop) (h : Hs w S [ck g (some (.oid l wi))]) :
 Calls Try.prog 20 #[.pointer (some ⟨g, 0, none⟩), .agg #[.int .i64 3, .int .i64 at_, .int .i64 cl, .int .i64 tag, .bool cons, .int .i64 ln, .int .u8 b]] w fun e w' => e = .returned (.bool (pushC (.oid l wi) b).isSome) ∧ Sp w S [lk g (pushC (.oid l wi) b)] w' := by
 obtain ⟨v, hS⟩ := ck_open h
 have hu := Try.underlying39
 have hu2 := Try.underlying50
 obtain ⟨gc, hv⟩ := shape_oid (hS.h.get 1 _ rfl)
 subst hv
 obtain ⟨gc2, hS⟩ := Sp.ex0 (Sp.swap hS)
 replace hS := hS.flat
 have hgc : gc2 = gc := by
  have hv : (Value.func (.func 68) #[] #[.pointer (some ⟨gc, 0, none⟩)]) = .func (.func 68) #[] #[.pointer (some ⟨gc2, 0, none⟩)] := hS.h.get 0 _ rfl
  injection hv with _ _ hv
  simp at hv
  exact hv.symm
 subst hgc
 replace hS := Sp.sel (l2 := [blk g #[.func (.func 68) #[] #[.pointer (some ⟨gc2, 0, none⟩)], .bool false] 50, blk gc2 #[.int .i64 l, .bool wi] 86]) hS [2, 1]
 have HC := Aside0.mk (fun W S' h => clo_oid l wi b r hg hr hb gc2 W S' h)
 have hkd := kind_oid l wi b
 clear h hg hr hb
 rcases hkd with hk | ⟨l2, wi2, hk⟩
 ·
  rw [hk] at HC ⊢
  clear hk
  go_enter Try.func20, Try.ntmps20
  go_upto_region 2 with (first
   | ((with_reducible refine gate_dst (N := 3) rfl ?_)
      refine sp_box hS rfl (N := 3) rfl #[.int .i64 3, .int .i64 at_, .int .i64 cl, .int .i64 tag, .bool cons, .int .i64 ln, .int .u8 b] 39 zz10 ?_
      intro ge w1 hge hS
      obtain ⟨e0, e1, e2, e3, e4, e5, e6⟩ := hS.cells7 0
      obtain ⟨k0, k1⟩ := hS.cells2 1
      have kf := hS.fz 1))
  replace hS := Sp.sel (l2 := [blk gc2 #[.int .i64 l, .bool wi] 86, blk g #[.func (.func 68) #[] #[.pointer (some ⟨gc2, 0, none⟩)], .bool false] 50, blk ge #[.int .i64 3, .int .i64 at_, .int .i64 cl, .int .i64 tag, .bool cons, .int .i64 ln, .int .u8 b] 39]) hS [2, 1, 0]
  go_region_with (first
   | (go_at_call 68
      (with_reducible refine (HC.out _ (hS.ft 1) (by exact hS.pre1)).mono ?_)
      rintro e w3 ⟨v2, rfl, hq⟩
      replace hS := hS.post1 hq
      have hv2 : v2 = .nilFunc := hS.h.get 0 _ rfl
      subst hv2
      clear e0 e1 e2 e3 e4 e5 e6 k0 k1 kf
      obtain ⟨k0, k1⟩ := hS.cells2 1
      have kf := hS.fz 1))
  all_goals
   go_wp2
   go_ret
   exact ⟨rfl, lk_none (Sp.sel (l2 := [blk g #[.nilFunc, .bool false] 50]) ((hS.set_ 1 0 _).lt) [1])⟩
 ·
  rw [hk] at HC ⊢
  clear hk
  go_enter Try.func20, Try.ntmps20
  go_upto_region 2 with (first
   | ((with_reducible refine gate_dst (N := 3) rfl ?_)
      refine sp_box hS rfl (N := 3) rfl #[.int .i64 3, .int .i64 at_, .int .i64 cl, .int .i64 tag, .bool cons, .int .i64 ln, .int .u8 b] 39 zz10 ?_
      intro ge w1 hge hS
      obtain ⟨e0, e1, e2, e3, e4, e5, e6⟩ := hS.cells7 0
      obtain ⟨k0, k1⟩ := hS.cells2 1
      have kf := hS.fz 1))
  replace hS := Sp.sel (l2 := [blk gc2 #[.int .i64 l, .bool wi] 86, blk g #[.func (.func 68) #[] #[.pointer (some ⟨gc2, 0, none⟩)], .bool false] 50, blk ge #[.int .i64 3, .int .i64 at_, .int .i64 cl, .int .i64 tag, .bool cons, .int .i64 ln, .int .u8 b] 39]) hS [2, 1, 0]
  go_region_with (first
   | (go_at_call 68
      (with_reducible refine (HC.out _ (hS.ft 1) (by exact hS.pre1)).mono ?_)
      rintro e w3 ⟨v2, rfl, hq⟩
      replace hS := hS.post1 hq
      obtain ⟨g2, hv2⟩ := shape_oid (hS.h.get 0 _ rfl)
      subst hv2
      clear e0 e1 e2 e3 e4 e5 e6 k0 k1 kf
      obtain ⟨k0, k1⟩ := hS.cells2 1
      have kf := hS.fz 1))
  all_goals
   go_wp2
   go_ret
   exact ⟨rfl, lk_shut (s := some (.oid l2 wi2)) (Sp.sel (l2 := [blk g #[.func (.func 68) #[] #[.pointer (some ⟨g2, 0, none⟩)], .bool false] 50, kx (some (.oid l2 wi2)) _]) ((hS.set_ 1 0 _).lt) [1, 0])⟩
set_option maxHeartbeats 4000000 in
set_option maxRecDepth 100000 in
theorem look_byte_bit (g : Nat) (l : Int) (bg : Bool) (u : Int) (at_ cl tag : Int) (cons : Bool) (ln b r : Int) (hg : Good (.bit l bg u) r) (hr : 0 < r) (hb : 0 ≤ b ∧ b < 256) (w : World) (S : Nat → Prop) (h : Hs w S [ck g (some (.bit l bg u))]) :
 Calls Try.prog 20 #[.pointer (some ⟨g, 0, none⟩), .agg #[.int .i64 3, .int .i64 at_, .int .i64 cl, .int .i64 tag, .bool cons, .int .i64 ln, .int .u8 b]] w fun e w' => e = .returned (.bool (pushC (.bit l bg u) b).isSome) ∧ Sp w S [lk g (pushC (.bit l bg u) b)] w' := by
 obtain ⟨v, hS⟩ := ck_open h
 have hu := Try.underlying39
 have hu2 := Try.underlying50
 obtain ⟨gc, hv⟩ := shape_bit (hS.h.get 1 _ rfl)
 subst hv
 obtain ⟨gc2, hS⟩ := Sp.ex0 (Sp.swap hS)
 replace hS := hS.flat
 have hgc : gc2 = gc := by
  have hv : (Value.func (.func 69) #[] #[.pointer (some ⟨gc, 0, none⟩)]) = .func (.func 69) #[] #[.pointer (some ⟨gc2, 0, none⟩)] := hS.h.get 0 _ rfl
  injection hv with _ _ hv
  simp at hv
  exact hv.symm
 subst hgc
 replace hS := Sp.sel (l2 := [blk g #[.func (.func 69) #[] #[.pointer (some ⟨gc2, 0, none⟩)], .bool false] 50, blk gc2 #[.int .i64 l, .bool bg, .int .u8 u] 91]) hS [2, 1]
 have HC := Aside0.mk (fun W S' h => clo_bit l bg u b r hg hr hb gc2 W S' h)
 have hkd := kind_bit l bg u b
 clear h hg hr hb
 rcases hkd with hk | ⟨l2, bg2, u2, hk⟩
 ·
  rw [hk] at HC ⊢
  clear hk
  go_enter Try.func20, Try.ntmps20
  go_upto_region 2 with (first
   | ((with_reducible refine gate_dst (N := 3) rfl ?_)
      refine sp_box hS rfl (N := 3) rfl #[.int .i64 3, .int .i64 at_, .int .i64 cl, .int .i64 tag, .bool cons, .int .i64 ln, .int .u8 b] 39 zz10 ?_
      intro ge w1 hge hS
      obtain ⟨e0, e1, e2, e3, e4, e5, e6⟩ := hS.cells7 0
      obtain ⟨k0, k1⟩ := hS.cells2 1
      have kf := hS.fz 1))
  replace hS := Sp.sel (l2 := [blk gc2 #[.int .i64 l, .bool bg, .int .u8 u] 91, blk g #[.func (.func 69) #[] #[.pointer (some ⟨gc2, 0, none⟩)], .bool false] 50, blk ge #[.int .i64 3, .int .i64 at_, .int .i64 cl, .int .i64 tag, .bool cons, .int .i64 ln, .int .u8 b] 39]) hS [2, 1, 0]
  go_region_with (first
   | (go_at_call 69
      (with_reducible refine (HC.out _ (hS.ft 1) (by exact hS.pre1)).mono ?_)
      rintro e w3 ⟨v2, rfl, hq⟩
      replace hS := hS.post1 hq
      have hv2 : v2 = .nilFunc := hS.h.get 0 _ rfl
      subst hv2
      clear e0 e1 e2 e3 e4 e5 e6 k0 k1 kf
      obtain ⟨k0, k1⟩ := hS.cells2 1
      have kf := hS.fz 1))
  all_goals
   go_wp2
   go_ret
   exact ⟨rfl, lk_none (Sp.sel (l2 := [blk g #[.nilFunc, .bool false] 50]) ((hS.set_ 1 0 _).lt) [1])⟩
 ·
  rw [hk] at HC ⊢
  clear hk
  go_enter Try.func20, Try.ntmps20
  go_upto_region 2 with (first
   | ((with_reducible refine gate_dst (N := 3) rfl ?_)
      refine sp_box hS rfl (N := 3) rfl #[.int .i64 3, .int .i64 at_, .int .i64 cl, .int .i64 tag, .bool cons, .int .i64 ln, .int .u8 b] 39 zz10 ?_
      intro ge w1 hge hS
      obtain ⟨e0, e1, e2, e3, e4, e5, e6⟩ := hS.cells7 0
      obtain ⟨k0, k1⟩ := hS.cells2 1
      have kf := hS.fz 1))
  replace hS := Sp.sel (l2 := [blk gc2 #[.int .i64 l, .bool bg, .int .u8 u] 91, blk g #[.func (.func 69) #[] #[.pointer (some ⟨gc2, 0, none⟩)], .bool false] 50, blk ge #[.int .i64 3, .int .i64 at_, .int .i64 cl, .int .i64 tag, .bool cons, .int .i64 ln, .int .u8 b] 39]) hS [2, 1, 0]
  go_region_with (first
   | (go_at_call 69
      (with_reducible refine (HC.out _ (hS.ft 1) (by exact hS.pre1)).mono ?_)
      rintro e w3 ⟨v2, rfl, hq⟩
      replace hS := hS.post1 hq
      obtain ⟨g2, hv2⟩ := shape_bit (hS.h.get 0 _ rfl)
      subst hv2
      clear e0 e1 e2 e3 e4 e5 e6 k0 k1 kf
      obtain ⟨k0, k1⟩ := hS.cells2 1
      have kf := hS.fz 1))
  all_goals
   go_wp2
   go_ret
   exact ⟨rfl, lk_shut (s := some (.bit l2 bg2 u2)) (Sp.sel (l2 := [blk g #[.func (.func 69) #[] #[.pointer (some ⟨g2, 0, none⟩)], .bool false] 50, kx (some (.bit l2 bg2 u2)) _]) ((hS.set_ 1 0 _).lt) [1, 0])⟩
set_option maxHeartbeats 4000000 in
set_option maxRecDepth 100000 in
theorem look_byte_whn (g : Nat) (u : Bool) (D : List Int) (l : Int) (at_ cl tag : Int) (cons : Bool) (ln b r : Int) (hg : Good (.whn u D l) r) (hr : 0 < r) (hb : 0 ≤ b ∧ b < 256) (w : World) (S : Nat → Prop) (h : Hs w S [ck g (some (.whn u D l))]) :
 Calls Try.prog 20 #[.pointer (some ⟨g, 0, none⟩), .agg #[.int .i64 3, .int .i64 at_, .int .i64 cl, .int .i64 tag, .bool cons, .int .i64 ln, .int .u8 b]] w fun e w' => e = .returned (.bool (pushC (.whn u D l) b).isSome) ∧ Sp w S [lk g (pushC (.whn u D l) b)] w' := by
 obtain ⟨v, hS⟩ := ck_open h
 have hu := Try.underlying39
 have hu2 := Try.underlying50
 obtain ⟨gc, hv⟩ := shape_whn (hS.h.get 1 _ rfl)
 subst hv
 obtain ⟨gc2, hS⟩ := Sp.ex0 (Sp.swap hS)
 replace hS := hS.flat
 have hgc : gc2 = gc := by
  have hv : (Value.func (.func 70) #[] #[.pointer (some ⟨gc, 0, none⟩)]) = .func (.func 70) #[] #[.pointer (some ⟨gc2, 0, none⟩)] := hS.h.get 0 _ rfl
  injection hv with _ _ hv
  simp at hv
  exact hv.symm
 subst hgc
 replace hS := Sp.sel (l2 := [blk g #[.func (.func 70) #[] #[.pointer (some ⟨gc2, 0, none⟩)], .bool false] 50, blk gc2 #[.string (strOfNums D), .int .i64 l, .bool u] 96]) hS [2, 1]
 have HC := Aside0.mk (fun W S' h => clo_whn u D l b r hg hr hb gc2 W S' h)
 have hkd := kind_whn u D l b
 clear h hg hr hb
 rcases hkd with hk | ⟨u2, D2, l2, hk⟩
 ·
  rw [hk] at HC ⊢
  clear hk
  go_enter Try.func20, Try.ntmps20
  go_upto_region 2 with (first
   | ((with_reducible refine gate_dst (N := 3) rfl ?_)
      refine sp_box hS rfl (N := 3) rfl #[.int .i64 3, .int .i64 at_, .int .i64 cl, .int .i64 tag, .bool cons, .int .i64 ln, .int .u8 b] 39 zz10 ?_
      intro ge w1 hge hS
      obtain ⟨e0, e1, e2, e3, e4, e5, e6⟩ := hS.cells7 0
      obtain ⟨k0, k1⟩ := hS.cells2 1
      have kf := hS.fz 1))
  replace hS := Sp.sel (l2 := [blk gc2 #[.string (strOfNums D), .int .i64 l, .bool u] 96, blk g #[.func (.func 70) #[] #[.pointer (some ⟨gc2, 0, none⟩)], .bool false] 50, blk ge #[.int .i64 3, .int .i64 at_, .int .i64 cl, .int .i64 tag, .bool cons, .int .i64 ln, .int .u8 b] 39]) hS [2, 1, 0]
  go_region_with (first
   | (go_at_call 70
      (with_reducible refine (HC.out _ (hS.ft 1) (by exact hS.pre1)).mono ?_)
      rintro e w3 ⟨v2, rfl, hq⟩
      replace hS := hS.post1 hq
      have hv2 : v2 = .nilFunc := hS.h.get 0 _ rfl
      subst hv2
      clear e0 e1 e2 e3 e4 e5 e6 k0 k1 kf
      obtain ⟨k0, k1⟩ := hS.cells2 1
      have kf := hS.fz 1))
  all_goals
   go_wp2
   go_ret
   exact ⟨rfl, lk_none (Sp.sel (l2 := [blk g #[.nilFunc, .bool false] 50]) ((hS.set_ 1 0 _).lt) [1])⟩
 ·
  rw [hk] at HC ⊢
  clear hk
  go_enter Try.func20, Try.ntmps20
  go_upto_region 2 with (first
   | ((with_reducible refine gate_dst (N := 3) rfl ?_)
      refine sp_box hS rfl (N := 3) rfl #[.int .i64 3, .int .i64 at_, .int .i64 cl, .int .i64 tag, .bool cons, .int .i64 ln, .int .u8 b] 39 zz10 ?_
      intro ge w1 hge hS
      obtain ⟨e0, e1, e2, e3, e4, e5, e6⟩ := hS.cells7 0
      obtain ⟨k0, k1⟩ := hS.cells2 1
      have kf := hS.fz 1))
  replace hS := Sp.sel (l2 := [blk gc2 #[.string (strOfNums D), .int .i64 l, .bool u] 96, blk g #[.func (.func 70) #[] #[.pointer (some ⟨gc2, 0, none⟩)], .bool false] 50, blk ge #[.int .i64 3, .int .i64 at_, .int .i64 cl, .int .i64 tag, .bool cons, .int .i64 ln, .int .u8 b] 39]) hS [2, 1, 0]
  go_region_with (first
   | (go_at_call 70
      (with_reducible refine (HC.out _ (hS.ft 1) (by exact hS.pre1)).mono ?_)
      rintro e w3 ⟨v2, rfl, hq⟩
      replace hS := hS.post1 hq
      obtain ⟨g2, hv2⟩ := shape_whn (hS.h.get 0 _ rfl)
      subst hv2
      clear e0 e1 e2 e3 e4 e5 e6 k0 k1 kf
      obtain ⟨k0, k1⟩ := hS.cells2 1
      have kf := hS.fz 1))
  all_goals
   go_wp2
   go_ret
   exact ⟨rfl, lk_shut (s := some (.whn u2 D2 l2)) (Sp.sel (l2 := [blk g #[.func (.func 70) #[] #[.pointer (some ⟨g2, 0, none⟩)], .bool false] 50, kx (some (.whn u2 D2 l2)) _]) ((hS.set_ 1 0 _).lt) [1, 0])⟩
set_option maxHeartbeats 4000000 in
set_option maxRecDepth 100000 in
theorem look_byte_txt (g : Nat) (t l m lo hi : Int) (at_ cl tag : Int) (cons : Bool) (ln b r : Int) (hg : Good (.txt t l m lo hi) r) (hr : 0 < r) (hb : 0 ≤ b ∧ b < 256) (w : World) (S : Nat → Prop) (h : Hs w S [ck g (some (.txt t l m lo hi))]) :
 Calls Try.prog 20 #[.pointer (some ⟨g, 0, none⟩), .agg #[.int .i64 3, .int .i64 at_, .int .i64 cl, .int .i64 tag, .bool cons, .int .i64 ln, .int .u8 b]] w fun e w' => e = .returned (.bool (pushC (.txt t l m lo hi) b).isSome) ∧ Sp w S [lk g (pushC (.txt t l m lo hi) b)] w' := by
 obtain ⟨v, hS⟩ := ck_open h
 have hu := Try.underlying39
 have hu2 := Try.underlying50
 obtain ⟨gc, hv⟩ := shape_txt (hS.h.get 1 _ rfl)
 subst hv
 obtain ⟨gc2, hS⟩ := Sp.ex0 (Sp.swap hS)
 replace hS := hS.flat
 have hgc : gc2 = gc := by
  have hv : (Value.func (.func 71) #[] #[.pointer (some ⟨gc, 0, none⟩)]) = .func (.func 71) #[] #[.pointer (some ⟨gc2, 0, none⟩)] := hS.h.get 0 _ rfl
  injection hv with _ _ hv
  simp at hv
  exact hv.symm
 subst hgc
 replace hS := Sp.sel (l2 := [blk g #[.func (.func 71) #[] #[.pointer (some ⟨gc2, 0, none⟩)], .bool false] 50, blk gc2 #[.int .i64 t, .int .i64 l, .int .i64 m, .int .u8 lo, .int .u8 hi] 101]) hS [2, 1]
 have HC := Aside0.mk (fun W S' h => clo_txt t l m lo hi b r hg hr hb gc2 W S' h)
 have hkd := kind_txt t l m lo hi b
 clear h hg hr hb
 rcases hkd with hk | ⟨t2, l2, m2, lo2, hi2, hk⟩
 ·
  rw [hk] at HC ⊢
  clear hk
  go_enter Try.func20, Try.ntmps20
  go_upto_region 2 with (first
   | ((with_reducible refine gate_dst (N := 3) rfl ?_)
      refine sp_box hS rfl (N := 3) rfl #[.int .i64 3, .int .i64 at_, .int .i64 cl, .int .i64 tag, .bool cons, .int .i64 ln, .int .u8 b] 39 zz10 ?_
      intro ge w1 hge hS
      obtain ⟨e0, e1, e2, e3, e4, e5, e6⟩ := hS.cells7 0
      obtain ⟨k0, k1⟩ := hS.cells2 1
      have kf := hS.fz 1))
  replace hS := Sp.sel (l2 := [blk gc2 #[.int .i64 t, .int .i64 l, .int .i64 m, .int .u8 lo, .int .u8 hi] 101, blk g #[.func (.func 71) #[] #[.pointer (some ⟨gc2, 0, none⟩)], .bool false] 50, blk ge #[.int .i64 3, .int .i64 at_, .int .i64 cl, .int .i64 tag, .bool cons, .int .i64 ln, .int .u8 b] 39]) hS [2, 1, 0]
  go_region_with (first
   | (go_at_call 71
      (with_reducible refine (HC.out _ (hS.ft 1) (by exact hS.pre1)).mono ?_)
      rintro e w3 ⟨v2, rfl, hq⟩
      replace hS := hS.post1 hq
      have hv2 : v2 = .nilFunc := hS.h.get 0 _ rfl
      subst hv2
      clear e0 e1 e2 e3 e4 e5 e6 k0 k1 kf
      obtain ⟨k0, k1⟩ := hS.cells2 1
      have kf := hS.fz 1))
  all_goals
   go_wp2
   go_ret
   exact ⟨rfl, lk_none (Sp.sel (l2 := [blk g #[.nilFunc, .bool false] 50]) ((hS.set_ 1 0 _).lt) [1])⟩
 ·
  rw [hk] at HC ⊢
  clear hk
  go_enter Try.func20, Try.ntmps20
  go_upto_region 2 with (first
   | ((with_reducible refine gate_dst (N := 3) rfl ?_)
      refine sp_box hS rfl (N := 3) rfl #[.int .i64 3, .int .i64 at_, .int .i64 cl, .int .i64 tag, .bool cons, .int .i64 ln, .int .u8 b] 39 zz10 ?_
      intro ge w1 hge hS
      obtain ⟨e0, e1, e2, e3, e4, e5, e6⟩ := hS.cells7 0
      obtain ⟨k0, k1⟩ := hS.cells2 1
      have kf := hS.fz 1))
  replace hS := Sp.sel (l2 := [blk gc2 #[.int .i64 t, .int .i64 l, .int .i64 m, .int .u8 lo, .int .u8 hi] 101, blk g #[.func (.func 71) #[] #[.pointer (some ⟨gc2, 0, none⟩)], .bool false] 50, blk ge #[.int .i64 3, .int .i64 at_, .int .i64 cl, .int .i64 tag, .bool cons, .int .i64 ln, .int .u8 b] 39]) hS [2, 1, 0]
  go_region_with (first
   | (go_at_call 71
      (with_reducible refine (HC.out _ (hS.ft 1) (by exact hS.pre1)).mono ?_)
      rintro e w3 ⟨v2, rfl, hq⟩
      replace hS := hS.post1 hq
      obtain ⟨g2, hv2⟩ := shape_txt (hS.h.get 0 _ rfl)
      subst hv2
      clear e0 e1 e2 e3 e4 e5 e6 k0 k1 kf
      obtain ⟨k0, k1⟩ := hS.cells2 1
      have kf := hS.fz 1))
  all_goals
   go_wp2
   go_ret
   exact ⟨rfl, lk_shut (s := some (.txt t2 l2 m2 lo2 hi2)) (Sp.sel (l2 := [blk g #[.func (.func 71) #[] #[.pointer (some ⟨g2, 0, none⟩)], .bool false] 50, kx (some (.txt t2 l2 m2 lo2 hi2)) _]) ((hS.set_ 1 0 _).lt) [1, 0])⟩
end Go.Proofs.Ytpfconocipmcjaa.Vp
namespace Go.Proofs.Ytpfconocipmcjaa.PC
open RowKit YtpfconocipmcjaaW.PrintWords YtpfconocipmcjaaW.PrintLast YtpfconocipmcjaaW.PrintMore
set_option linter.unusedVariables false
structure Inv (most : Nat) (s : St) (i : Nat) : Prop where
 over : s.over = 0
 at_ : s.at_ = (i : Int)
 len : s.left.length ≤ most
 leaf0 : 0 ≤ s.leaf
 came : s.leaf ≠ 0 → s.came = []
 bytes : Idm.Bytes s.came
 left0 : ∀ x ∈ s.left, 0 ≤ x
theorem inv0 (most : Nat) : Inv most init0 0 := ⟨rfl, rfl, Nat.zero_le _, Int.le_refl _, fun _ => rfl, fun x hx => by simp [init0] at hx, fun x hx => by simp [init0] at hx⟩
theorem tk_len (l : List Int) : (Mxm.tk l).1.length = l.length := by
 cases l with
 | nil => rfl
 | cons x r => simp only [Mxm.tk]; split <;> simp
theorem tk_pos (l : List Int) (h : ∀ x ∈ l, 0 ≤ x) : ∀ x ∈ (Mxm.tk l).1, 0 ≤ x := by
 cases l with
 | nil => exact h
 | cons x r =>
   simp only [Mxm.tk]
   split
   ·
    exact h
   ·
    intro y hy
    have := h x zz29
    rcases List.mem_cons.1 hy with rfl | hy
    ·
     omega
    ·
     exact h y (by simp [hy])
theorem en_ok (most : Nat) (l : List Int) (n : Int) (hl : l.length ≤ most) (h0 : 0 ≤ n) (hp : ∀ x ∈ l, 0 ≤ x) (h : (Mxm.en most l n).2 = 0) : (Mxm.en most l n).1.length = l.length + 1 ∧ l.length + 1 ≤ most ∧ ∀ x ∈ (Mxm.en most l n).1, 0 ≤ x := by
 cases l with
 | nil =>
   simp only [Mxm.en] at h ⊢
   split at h
   ·
    simp at h
   ·
    rename_i h1
    rw [if_neg h1]
    exact ⟨rfl, zz44, fun x hx => by simp at hx; omega⟩
 | cons x r =>
   simp only [Mxm.en] at h ⊢
   split at h
   ·
    simp at h
   ·
    rename_i h1
    rw [if_neg h1]
    split at h
    ·
     simp at h
    ·
     rename_i h2
     rw [if_neg h2]
     refine ⟨zz29, by simp at hl ⊢; omega, fun y hy => ?_⟩
     simp only [List.mem_cons] at hy
     rcases hy with rfl | rfl | hy
     ·
      exact h0
     ·
      omega
     ·
      exact hp y (by simp [hy])
theorem exits_ev (at_ : Int) : ∀ (l : List Int), (∀ y ∈ (exits at_ l).2, y = ev 5 at_ h0 0) ∧ (exits at_ l).2.length + (exits at_ l).1.length = l.length
 | [] => ⟨fun y hy => by simp [exits] at hy, rfl⟩
 | x :: r => by
   have ih := exits_ev at_ r
   simp only [exits]
   split
   ·
    refine ⟨fun y hy => ?_, by simp only [List.length_cons]; omega⟩
    rcases List.mem_cons.1 hy with rfl | hy
    ·
     rfl
    ·
     exact ih.1 y hy
   ·
    exact ⟨fun y hy => by simp at hy, zz29⟩
theorem exits_pos (at_ : Int) : ∀ (l : List Int), (∀ x ∈ l, 0 ≤ x) → ∀ x ∈ (exits at_ l).1, 0 ≤ x
 | [], h => h
 | x :: r, h => by
   simp only [exits]
   split
   ·
    exact exits_pos at_ r (fun y hy => h y (by simp [hy]))
   ·
    exact h
theorem hd_ok {l : List Int} (hb : Idm.Bytes l) (h : er l = 0) : Hdm.Whole (hd l).f0 (hd l).f1 (hd l).f3 ∧ ∃ p : Nat, 2 ≤ p ∧ p ≤ l.length ∧ Hdm.hdenc (hd l).f0 (hd l).f1 (hd l).f2 (hd l).f3 = l.take p := by
 have hv := Hdm.hg_back l _ _ _ _ _ hb (show Hdm.hg l = ((Hdm.hg l).1, (Hdm.hg l).2.1, (Hdm.hg l).2.2.1, (Hdm.hg l).2.2.2.1, (Hdm.hg l).2.2.2.2.1, 0) from Prod.ext rfl (Prod.ext rfl (Prod.ext rfl (Prod.ext rfl (Prod.ext rfl h)))))
 exact ⟨hv.1, _, hv.2.1, hv.2.2.1, hv.2.2.2⟩
theorem step_cases (most : Nat) (s s1 : St) (b : Int) (x : List Ev) (h : stepM most s b = (s1, x, 0)) :
 (0 < s.leaf ∧ s1 = { s with left := (Mxm.tk s.left).1, leaf := s.leaf - 1 } ∧ x = ev 3 s.at_ h0 b :: ends s (s.leaf - 1)) ∨
 (¬ 0 < s.leaf ∧ (Mxm.tk s.left).2 = 0 ∧ ((er (s.came ++ [b]) = 2 ∧ s1 = { s with left := (Mxm.tk s.left).1, came := s.came ++ [b] } ∧ x = []) ∨
  (er (s.came ++ [b]) = 0 ∧ ¬ (0 < ((Mxm.tk s.left).1.length : Int) ∧ (Mxm.tk s.left).1.headD 0 < (hd (s.came ++ [b])).f3) ∧ ((hd (s.came ++ [b])).f2 = true ∧ (Mxm.en most (Mxm.tk s.left).1 (hd (s.came ++ [b])).f3).2 = 0 ∧
   s1 = { s with left := (Mxm.en most (Mxm.tk s.left).1 (hd (s.came ++ [b])).f3).1, came := [], begun := true } ∧ x = [ev 1 s.at_ (hd (s.came ++ [b])) 0] ∨
   (hd (s.came ++ [b])).f2 = false ∧ s1 = { s with left := (Mxm.tk s.left).1, came := [], begun := true, leaf := (hd (s.came ++ [b])).f3 } ∧ x = ev 2 s.at_ (hd (s.came ++ [b])) 0 :: ends s (hd (s.came ++ [b])).f3)))) := by
 unfold stepM at h
 by_cases h1 : 0 < s.leaf
 ·
  rw [if_pos h1] at h
  simp only [Prod.mk.injEq, and_true] at h
  exact .inl ⟨h1, h.1.symm, h.2.symm⟩
 rw [if_neg h1] at h
 by_cases h2 : (Mxm.tk s.left).2 ≠ 0
 ·
  rw [if_pos h2] at h
  simp only [Prod.mk.injEq] at h
  exact absurd h.2.2 h2
 rw [if_neg h2] at h
 refine .inr ⟨h1, by simpa using h2, ?_⟩
 by_cases h3 : er (s.came ++ [b]) = 2
 ·
  rw [if_pos h3] at h
  simp only [Prod.mk.injEq, and_true] at h
  exact .inl ⟨h3, h.1.symm, h.2.symm⟩
 rw [if_neg h3] at h
 by_cases h4 : er (s.came ++ [b]) ≠ 0
 ·
  rw [if_pos h4] at h
  simp only [Prod.mk.injEq] at h
  exact absurd h.2.2 h4
 rw [if_neg h4] at h
 refine .inr ⟨by simpa using h4, ?_⟩
 unfold beginM at h
 split at h
 ·
  simp at h
 rename_i h5
 refine ⟨h5, ?_⟩
 split at h
 ·
  rename_i h6
  split at h
  ·
   rename_i h7
   simp only [Prod.mk.injEq] at h
   exact absurd h.2.2 h7
  ·
   rename_i h7
   simp only [Prod.mk.injEq, and_true] at h
   exact .inl ⟨h6, by simpa [takeM] using h7, h.1.symm, h.2.symm⟩
 ·
  rename_i h6
  simp only [Prod.mk.injEq, and_true] at h
  exact .inr ⟨by simpa using h6, h.1.symm, h.2.symm⟩
theorem push_ok (most : Nat) (s s' : St) (b : Int) (x : List Ev) (h0 : s.over = 0) (h : pushM most s b = (s', x, 0)) : done s = false ∧ ∃ s1 x1, stepM most s b = (s1, x1, 0) ∧ s' = (closeM s1).1 ∧ x = x1 ++ (closeM s1).2 := by
 unfold pushM at h
 rw [if_neg (by simp [h0])] at h
 by_cases hd : done s = true
 ·
  rw [if_pos hd] at h; simp at h
 rw [if_neg hd] at h
 refine ⟨by simpa using hd, ?_⟩
 obtain ⟨⟨s1, x1, e1⟩, hs⟩ : ∃ q, stepM most s b = q := ⟨_, rfl⟩
 rw [hs] at h
 by_cases he : e1 = 0
 ·
  subst he
  simp only [ne_eq, not_true_eq_false, if_false, Prod.mk.injEq, and_true] at h
  exact ⟨s1, x1, hs, h.1.symm, h.2.symm⟩
 ·
  rw [if_pos he] at h
  simp only [Prod.mk.injEq] at h
  exact absurd h.2.2 he
theorem ends_ev (s : St) (n : Int) : ∀ y ∈ ends s n, y = ev 4 s.at_ h0 0 := by
 unfold ends
 split
 ·
  intro y hy; simpa using hy
 ·
  intro y hy; simp at hy
theorem push_inv (most : Nat) (s s' : St) (b : Int) (x : List Ev) (i : Nat) (hI : Inv most s i) (hb : 0 ≤ b ∧ b < 256) (h : pushM most s b = (s', x, 0)) : Inv most s' (i + 1) ∧ (∀ y ∈ x, y.f1 = (i : Int)) ∧ x.length ≤ most + 3 := by
 obtain ⟨hd, s1, x1, hs, rfl, rfl⟩ := push_ok most s s' b x hI.over h
 have hby := bytes_snoc hI.bytes hb
 have key : s1.over = 0 ∧ s1.at_ = (i : Int) ∧ s1.left.length ≤ most ∧ 0 ≤ s1.leaf ∧ (s1.leaf ≠ 0 → s1.came = []) ∧ Idm.Bytes s1.came ∧ (∀ x ∈ s1.left, 0 ≤ x) ∧ (∀ y ∈ x1, y.f1 = (i : Int)) ∧ x1.length ≤ 2 := by
  have tl := tk_len s.left
  have tp := tk_pos s.left hI.left0
  have eat := hI.at_
  have el : ∀ n, (ends s n).length ≤ 1 := ends_len s
  have ea : ∀ n, ∀ y ∈ ends s n, y.f1 = (i : Int) := fun n y hy => by rw [ends_ev s n y hy]; exact eat
  rcases step_cases most s s1 b x1 hs with ⟨g1, rfl, rfl⟩ | ⟨g1, g2, ⟨g3, rfl, rfl⟩ | ⟨g3, g4, ⟨g5, g6, rfl, rfl⟩ | ⟨g5, rfl, rfl⟩⟩⟩
  ·
   refine ⟨hI.over, eat, by simp only; rw [tl]; exact hI.len, zz60, fun _ => hI.came zz3, hI.bytes, tp, fun y hy => ?_, by have := el (s.leaf - 1); simp only [List.length_cons]; omega⟩
   rcases List.mem_cons.1 hy with rfl | hy
   ·
    exact eat
   ·
    exact ea _ y hy
  ·
   exact ⟨hI.over, eat, by simp only; rw [tl]; exact hI.len, hI.leaf0, fun h => absurd h (by have := hI.leaf0; simp only; omega), hby, tp, fun y hy => by simp at hy, zz29⟩
  ·
   have ho := hd_ok hby g3
   have e1 := en_ok most (Mxm.tk s.left).1 (_root_.Go.Proofs.Ytpfconocipmcjaa.PC.hd (s.came ++ [b])).f3 (by rw [tl]; exact hI.len) ho.1.2.1 tp g6
   exact ⟨hI.over, eat, zz60, hI.leaf0, fun _ => rfl, fun x hx => by simp at hx, e1.2.2, fun y hy => by simp at hy; rw [hy]; exact eat, zz29⟩
  ·
   have ho := hd_ok hby g3
   refine ⟨hI.over, eat, by simp only; rw [tl]; exact hI.len, ho.1.2.1, fun _ => rfl, fun x hx => by simp at hx, tp, fun y hy => ?_, Nat.succ_le_succ (el _)⟩
   rcases List.mem_cons.1 hy with rfl | hy
   ·
    exact eat
   ·
    exact ea _ y hy
 obtain ⟨k1, k2, k3, k4, k5, k6, k7, k8, k9⟩ := key
 have xe := exits_ev s1.at_ s1.left
 have xp := exits_pos s1.at_ s1.left k7
 unfold closeM
 split
 ·
  rename_i hc
  refine ⟨⟨k1, by simp only [k2]; omega, zz60, k4, k5, k6, xp⟩, fun y hy => ?_, by rw [List.length_append]; simp only; omega⟩
  rcases List.mem_append.1 hy with hy | hy
  ·
   exact k8 y hy
  ·
   rw [xe.1 y hy]; exact k2
 ·
  exact ⟨⟨k1, by simp only [k2]; omega, k3, k4, k5, k6, k7⟩, fun y hy => k8 y (by simpa using hy), by rw [List.append_nil]; omega⟩
theorem run_split (most : Nat) : ∀ (l m : List Int) (s : St) (i : Nat) (acc : List Ev), Idm.Bytes l → Inv most s i →
 (∃ s' xs, Inv most s' (i + l.length) ∧ (∀ y ∈ xs, (i : Int) ≤ y.f1 ∧ y.f1 < ((i + l.length : Nat) : Int)) ∧ xs.length ≤ l.length * (most + 3) ∧ runM most s l i acc = (acc ++ xs, if done s' = true then 0 else 2, ((i + l.length : Nat) : Int)) ∧ runM most s (l ++ m) i acc = runM most s' m ((i + l.length : Nat) : Int) (acc ++ xs)) ∨
 (∃ xs e j, e ≠ 0 ∧ i ≤ j ∧ j < i + l.length ∧ (∀ y ∈ xs, (i : Int) ≤ y.f1 ∧ y.f1 < (j : Int)) ∧ xs.length ≤ l.length * (most + 3) ∧ runM most s l i acc = (acc ++ xs, e, ((j : Nat) : Int)) ∧ runM most s (l ++ m) i acc = (acc ++ xs, e, ((j : Nat) : Int)))
 | [], m, s, i, acc, hb, hI => .inl ⟨s, [], hI, fun y hy => by simp at hy, zz29, by simp [runM], zz29⟩
 | b :: r, m, s, i, acc, hb, hI => by
   obtain ⟨⟨s', x, e⟩, hp⟩ : ∃ q, pushM most s b = q := ⟨_, rfl⟩
   rw [List.cons_append, runM_step most s s' b x e _ _ _ hp, runM_step most s s' b x e _ _ _ hp]
   by_cases he : e = 0
   ·
    subst he
    have hq := push_inv most s s' b x i hI (hb b zz29) hp
    simp only [ne_eq, not_true_eq_false, if_false]
    have ih := run_split most r m s' (i + 1) (acc ++ x) (fun y hy => hb y (by simp [hy])) hq.1
    have ei : ((i : Int) + 1) = ((i + 1 : Nat) : Int) := by omega
    rw [ei]
    rcases ih with ⟨s2, xs, a1, a2, a3, a4, a5⟩ | ⟨xs, e, j, a1, a2, a3, a4, a5, a6, a7⟩
    ·
     refine .inl ⟨s2, x ++ xs, ?_, fun y hy => ?_, ?_, ?_, ?_⟩
     ·
      rw [List.length_cons, show i + (r.length + 1) = i + 1 + r.length by omega]; exact a1
     ·
      rcases List.mem_append.1 hy with hy | hy
      ·
       have := hq.2.1 y hy
       simp only [List.length_cons]; omega
      ·
       have := a2 y hy
       simp only [List.length_cons]; omega
     ·
      rw [List.length_append, List.length_cons, Nat.add_mul]; have := hq.2.2; omega
     ·
      rw [a4, List.append_assoc, List.length_cons, show i + (r.length + 1) = i + 1 + r.length by omega]
     ·
      rw [a5, List.append_assoc, List.length_cons, show i + (r.length + 1) = i + 1 + r.length by omega]
    ·
     refine .inr ⟨x ++ xs, e, j, a1, zz3, by simp only [List.length_cons]; omega, fun y hy => ?_, ?_, ?_, ?_⟩
     ·
      rcases List.mem_append.1 hy with hy | hy
      ·
       have := hq.2.1 y hy
       omega
      ·
       have := a4 y hy
       omega
     ·
      rw [List.length_append, List.length_cons, Nat.add_mul]; have := hq.2.2; omega
     ·
      rw [a6, List.append_assoc]
     ·
      rw [a7, List.append_assoc]
   ·
    rw [if_pos he, if_pos he]
    exact .inr ⟨[], e, i, he, Nat.le_refl _, zz29, fun y hy => by simp at hy, zz29, zz29, zz29⟩
theorem run_more (most : Nat) (s : St) (hd : done s = true) (ho : s.over = 0) (b : Int) (r : List Int) (i : Int) (acc : List Ev) : runM most s (b :: r) i acc = (acc, 6, i) := by
 have hp : pushM most s b = ({ s with over := 6 }, [], 6) := by unfold pushM; rw [if_neg (by simp [ho]), if_pos hd]
 rw [runM_step most s _ b _ _ _ _ _ hp]
 rfl
theorem rd_drop (l : List Ev) (j : Nat) (h : j < l.length) : rd_T39 l (j : Int) = l[j] := by
 unfold rd_T39
 rw [Int.toNat_natCast, List.getD_eq_getElem?_getD, List.getElem?_eq_getElem h]
 rfl
end Go.Proofs.Ytpfconocipmcjaa.PC
namespace Go.Proofs.Ytpfconocipmcjaa.Vp
open RowKit PC YtpfconocipmcjaaW.PrintWords YtpfconocipmcjaaW.PrintLast YtpfconocipmcjaaW.PrintMore
open Bs
set_option linter.unusedVariables false
set_option linter.unusedSimpArgs false
def nextR (r : Int) (e : Ev) : Int := if e.f0 = 3 then r - 1 else if e.f0 = 2 then e.f2.f3 else 0
def okR (r : Int) (e : Ev) : Prop :=
 (0 ≤ e.f3 ∧ e.f3 < 256) ∧ (e.f0 = 3 → 0 < r) ∧ (e.f0 ≠ 3 → r = 0) ∧ (e.f0 = 2 → 0 ≤ e.f2.f3 ∧ e.f2.f3 ≤ 2305843009213693951)
def WfL : Int → List Ev → Prop
 | _, [] => True
 | r, e :: l => okR r e ∧ WfL (nextR r e) l
def endR : Int → List Ev → Int
 | r, [] => r
 | r, e :: l => endR (nextR r e) l
theorem wf_append : ∀ (a b : List Ev) (r : Int), WfL r (a ++ b) ↔ WfL r a ∧ WfL (endR r a) b
 | [], b, r => ⟨fun h => ⟨trivial, h⟩, fun h => h.2⟩
 | e :: a, b, r => by
   show okR r e ∧ WfL (nextR r e) (a ++ b) ↔ (okR r e ∧ WfL (nextR r e) a) ∧ WfL (endR (nextR r e) a) b
   rw [wf_append a b]
   exact ⟨fun h => ⟨⟨h.1, h.2.1⟩, h.2.2⟩, fun h => ⟨h.1.1, h.1.2, h.2⟩⟩
theorem end_append : ∀ (a b : List Ev) (r : Int), endR r (a ++ b) = endR (endR r a) b
 | [], b, r => rfl
 | e :: a, b, r => end_append a b (nextR r e)
theorem ok_ev {k at_ : Int} {h : Hd} (h3 : k ≠ 3) (h2 : k = 2 → 0 ≤ h.f3 ∧ h.f3 ≤ 2305843009213693951) : okR 0 (ev k at_ h 0) := ⟨⟨Int.le_refl _, by show (0 : Int) < 256; decide⟩, fun h => absurd h h3, fun _ => rfl, h2⟩
theorem wf_exits (at_ : Int) : ∀ l : List Int, WfL 0 (exits at_ l).2 ∧ endR 0 (exits at_ l).2 = 0
 | [] => ⟨trivial, rfl⟩
 | x :: r => by
   unfold exits
   split
   ·
    have ih := wf_exits at_ r
    exact ⟨⟨ok_ev zz13 (fun h => absurd h zz13), ih.1⟩, ih.2⟩
   ·
    exact ⟨trivial, rfl⟩
theorem wf_ends (s : St) (n : Int) : WfL n (ends s n) ∧ endR n (ends s n) = n := by
 unfold ends
 split
 ·
  rename_i h
  subst h
  exact ⟨⟨ok_ev zz13 (fun h => absurd h zz13), trivial⟩, rfl⟩
 ·
  exact ⟨trivial, rfl⟩
theorem wf_push (most : Nat) (s s' : St) (b : Int) (x : List Ev) (i : Nat) (hI : Inv most s i) (hb : 0 ≤ b ∧ b < 256) (h : pushM most s b = (s', x, 0)) : WfL s.leaf x ∧ endR s.leaf x = s'.leaf := by
 obtain ⟨hd, s1, x1, hs, rfl, rfl⟩ := push_ok most s s' b x hI.over h
 have hby := bytes_snoc hI.bytes hb
 have key : WfL s.leaf x1 ∧ endR s.leaf x1 = s1.leaf := by
  rcases step_cases most s s1 b x1 hs with ⟨g1, rfl, rfl⟩ | ⟨g1, g2, ⟨g3, rfl, rfl⟩ | ⟨g3, g4, ⟨g5, g6, rfl, rfl⟩ | ⟨g5, rfl, rfl⟩⟩⟩
  ·
   have he := wf_ends s (s.leaf - 1)
   exact ⟨⟨⟨hb, (fun _ => g1), (fun h => absurd rfl h), (fun h => absurd (show (3 : Int) = 2 from h) zz13)⟩, he.1⟩, he.2⟩
  ·
   exact ⟨trivial, rfl⟩
  ·
   have h0 : s.leaf = 0 := by have := hI.leaf0; omega
   rw [h0]
   exact ⟨⟨ok_ev zz13 (fun h => absurd h zz13), trivial⟩, rfl⟩
  ·
   have h0 : s.leaf = 0 := by have := hI.leaf0; omega
   rw [h0]
   have ho := hd_ok hby g3
   have he := wf_ends s (_root_.Go.Proofs.Ytpfconocipmcjaa.PC.hd (s.came ++ [b])).f3
   exact ⟨⟨ok_ev zz13 (fun _ => ⟨ho.1.2.1, ho.1.2.2⟩), he.1⟩, he.2⟩
 unfold closeM
 split
 ·
  rename_i hc
  have hx := wf_exits s1.at_ s1.left
  rw [wf_append, end_append, key.2, hc.1]
  exact ⟨⟨key.1, hx.1⟩, hx.2⟩
 ·
  rw [List.append_nil]
  exact key
theorem run_wf (most : Nat) : ∀ (l : List Int) (s : St) (i : Nat) (acc : List Ev), Idm.Bytes l → Inv most s i → ∃ xs, (runM most s l i acc).1 = acc ++ xs ∧ WfL s.leaf xs
 | [], s, i, acc, hb, hI => ⟨[], by simp [runM], trivial⟩
 | b :: r, s, i, acc, hb, hI => by
   obtain ⟨⟨s', x, e⟩, hp⟩ : ∃ q, pushM most s b = q := ⟨_, rfl⟩
   rw [runM_step most s s' b x e _ _ _ hp]
   by_cases he : e = 0
   ·
    subst he
    have hq := push_inv most s s' b x i hI (hb b zz29) hp
    have hw := wf_push most s s' b x i hI (hb b zz29) hp
    simp only [ne_eq, not_true_eq_false, if_false]
    obtain ⟨xs, h1, h2⟩ := run_wf most r s' (i + 1) (acc ++ x) (fun y hy => hb y (by simp [hy])) hq.1
    have ei : ((i : Int) + 1) = ((i + 1 : Nat) : Int) := by omega
    rw [ei, h1]
    exact ⟨x ++ xs, by rw [List.append_assoc], (wf_append x xs _).2 ⟨hw.1, by rw [hw.2]; exact h2⟩⟩
   ·
    rw [if_pos he]
    exact ⟨[], zz29, trivial⟩
def badE : Cs → List Ev → Option Ev
 | _, [] => none
 | s, e :: l => match lookC s e with
   | none => some e
   | some s' => badE s' l
theorem good_look {s s' : Cs} {r : Int} {e : Ev} (hg : Good s r) (ho : okR r e) (h : lookC s e = some s') : Good s' (nextR r e) := by
 obtain ⟨o1, o2, o3, o4⟩ := ho
 unfold lookC at h
 unfold nextR
 by_cases h3 : e.f0 = 3
 ·
  rw [if_pos h3] at h ⊢
  exact good_push hg (o2 h3) o1 h
 rw [if_neg h3] at h ⊢
 by_cases h2 : e.f0 = 2
 ·
  rw [if_pos h2]
  rw [if_neg (fun h => by omega)] at h
  by_cases hc : e.f2.f0 = 0
  ·
   rw [if_pos ⟨h2, hc⟩] at h
   exact good_start (o4 h2).1 (o4 h2).2 h
  ·
   rw [if_neg (fun h => hc h.2), if_pos h2] at h
   cases h; trivial
 rw [if_neg h2]
 have h0 := o3 h3
 rw [h0] at hg
 split at h
 ·
  split at h
  ·
   cases h; exact hg
  ·
   cases h
 ·
  simp only [h2, false_and, if_false] at h
  cases h; exact hg
def wholeV (most : Nat) (l : List Int) : Int × Int := match badE .any (wholeM most l).1 with
 | some e => (7, e.f1)
 | none => ((wholeM most l).2.1, (wholeM most l).2.2)
end Go.Proofs.Ytpfconocipmcjaa.Vp
namespace Go.Proofs.Ytpfconocipmcjaa.Vp
open RowKit PC YtpfconocipmcjaaW.PrintWords YtpfconocipmcjaaW.PrintLast YtpfconocipmcjaaW.PrintMore Own Sl
open Bs
set_option linter.unusedVariables false
set_option linter.unusedSimpArgs false
theorem fn_nx {s : Cs} {v : Value} {w : World} {T : Nat → Prop} (h : (nx (some s) v).P w T) : ∃ fn cap, v = .func fn #[] cap := by
 cases s with
 | any => exact ⟨_, _, h⟩
 | num _ _ _ _ => obtain ⟨g2, hv⟩ := shape_num h; exact ⟨_, _, hv⟩
 | oid _ _ => obtain ⟨g2, hv⟩ := shape_oid h; exact ⟨_, _, hv⟩
 | bit _ _ _ => obtain ⟨g2, hv⟩ := shape_bit h; exact ⟨_, _, hv⟩
 | whn _ _ _ => obtain ⟨g2, hv⟩ := shape_whn h; exact ⟨_, _, hv⟩
 | txt _ _ _ _ _ => obtain ⟨g2, hv⟩ := shape_txt h; exact ⟨_, _, hv⟩
set_option maxHeartbeats 4000000 in
set_option maxRecDepth 100000 in
theorem look_byte_any (g : Nat) (at_ cl tag : Int) (cons : Bool) (ln b : Int) (w : World) (S : Nat → Prop) (h : Hs w S [ck g (some .any)]) :
 Calls Try.prog 20 #[.pointer (some ⟨g, 0, none⟩), .agg #[.int .i64 3, .int .i64 at_, .int .i64 cl, .int .i64 tag, .bool cons, .int .i64 ln, .int .u8 b]] w fun e w' => e = .returned (.bool (pushC .any b).isSome) ∧ Sp w S [lk g (pushC .any b)] w' := by
 obtain ⟨v, hS⟩ := ck_open h
 have hu := Try.underlying39
 have hu2 := Try.underlying50
 have hv : v = .func (.func 17) #[] #[] := hS.h.get 1 _ rfl
 subst hv
 have HC := Aside0.mk (fun W => any_any b W)
 clear h
 go_enter Try.func20, Try.ntmps20
 go_upto_region 2 with (first
  | ((with_reducible refine gate_dst (N := 3) rfl ?_)
     refine sp_box hS rfl (N := 3) rfl _ 39 zz10 ?_
     intro ge w1 hge hS
     obtain ⟨e0, e1, e2, e3, e4, e5, e6⟩ := hS.cells7 0
     obtain ⟨k0, k1⟩ := hS.cells2 1
     have kf := hS.fz 1))
 go_region_with (first
  | (go_at_call 17
     (with_reducible refine (HC.out _).mono ?_)
     rintro e w3 ⟨rfl, hw⟩
     replace hS := hS.toN (w2 := w3) (show Upd None0 w1.drew w3 by rw [hw]; exact Upd.refl _ _)
     clear e0 e1 e2 e3 e4 e5 e6 k0 k1 kf hw
     obtain ⟨k0, k1⟩ := hS.cells2 1
     have kf := hS.fz 1))
 all_goals
  go_wp2
  go_ret
  exact ⟨rfl, lk_shut (s := some .any) (Sp.sel (l2 := [blk g #[.func (.func 17) #[] #[], .bool false] 50, kx (some .any) _]) ((hS.set_ 1 0 _).lt) [1, 2])⟩
set_option maxHeartbeats 4000000 in
set_option maxRecDepth 100000 in
theorem look_enter (g : Nat) (s : Cs) (at_ cl tag : Int) (cons : Bool) (ln b : Int) (hc : cl = 0) (w : World) (S : Nat → Prop) (h : Hs w S [ck g (some s)]) :
 Calls Try.prog 20 #[.pointer (some ⟨g, 0, none⟩), .agg #[.int .i64 1, .int .i64 at_, .int .i64 cl, .int .i64 tag, .bool cons, .int .i64 ln, .int .u8 b]] w fun e w' => e = .returned (.bool ((if tag = 16 ∨ tag = 17 then some s else none)).isSome) ∧ Sp w S [lk g ((if tag = 16 ∨ tag = 17 then some s else none))] w' := by
 obtain ⟨v, hS⟩ := ck_open h
 have hu := Try.underlying39
 have hu2 := Try.underlying50
 subst hc
 clear h
 have key : ∀ x : Option Cs, (x = some s ∨ x = none) → ∀ w', Sp w S [blk g #[v, .bool false] 50, kx (some s) v] w' → Sp w S [lk g x] w' := by
  intro x hx w' h
  rcases hx with rfl | rfl
  ·
   exact lk_shut h
  ·
   exact lk_none (h.sel [0])
 by_cases h1 : tag = 16
 ·
  subst h1
  go_enter Try.func20, Try.ntmps20
  go_wp2_with (first
   | ((with_reducible refine gate_dst (N := 3) rfl ?_)
      refine sp_box hS rfl (N := 3) rfl _ 39 zz10 ?_
      intro ge w1 hge hS
      obtain ⟨e0, e1, e2, e3, e4, e5, e6⟩ := hS.cells7 0
      obtain ⟨k0, k1⟩ := hS.cells2 1
      have kf := hS.fz 1))
  go_ret
  exact ⟨rfl, key (some s) (.inl rfl) _ (Sp.sel (l2 := [blk g #[v, .bool false] 50, kx (some s) v]) hS.lt [1, 2])⟩
 by_cases h2 : tag = 17
 ·
  subst h2
  go_enter Try.func20, Try.ntmps20
  go_wp2_with (first
   | ((with_reducible refine gate_dst (N := 3) rfl ?_)
      refine sp_box hS rfl (N := 3) rfl _ 39 zz10 ?_
      intro ge w1 hge hS
      obtain ⟨e0, e1, e2, e3, e4, e5, e6⟩ := hS.cells7 0
      obtain ⟨k0, k1⟩ := hS.cells2 1
      have kf := hS.fz 1))
  go_ret
  exact ⟨rfl, key (some s) (.inl rfl) _ (Sp.sel (l2 := [blk g #[v, .bool false] 50, kx (some s) v]) hS.lt [1, 2])⟩
 ·
  have d1 : (tag == 16) = false := by simpa using h1
  have d2 : (tag == 17) = false := by simpa using h2
  have hn : (if tag = 16 ∨ tag = 17 then some s else none) = none := if_neg (fun h => h.elim h1 h2)
  go_enter Try.func20, Try.ntmps20
  go_wp2_with (first
   | ((with_reducible refine gate_dst (N := 3) rfl ?_)
      refine sp_box hS rfl (N := 3) rfl _ 39 zz10 ?_
      intro ge w1 hge hS
      obtain ⟨e0, e1, e2, e3, e4, e5, e6⟩ := hS.cells7 0
      obtain ⟨k0, k1⟩ := hS.cells2 1
      have kf := hS.fz 1))
  go_ret
  (try rw [hn])
  exact ⟨rfl, key none (.inr rfl) _ (Sp.sel (l2 := [blk g #[v, .bool false] 50, kx (some s) v]) hS.lt [1, 2])⟩
set_option maxHeartbeats 4000000 in
set_option maxRecDepth 100000 in
theorem look_leaf0 (g : Nat) (s : Cs) (at_ cl tag : Int) (cons : Bool) (ln b : Int) (hc : cl = 0) (w : World) (S : Nat → Prop) (h : Hs w S [ck g (some s)]) :
 Calls Try.prog 20 #[.pointer (some ⟨g, 0, none⟩), .agg #[.int .i64 2, .int .i64 at_, .int .i64 cl, .int .i64 tag, .bool cons, .int .i64 ln, .int .u8 b]] w fun e w' => e = .returned (.bool (startC tag ln).isSome) ∧ Sp w S [lk g (startC tag ln)] w' := by
 obtain ⟨v, hS⟩ := ck_open h
 have hu := Try.underlying39
 have hu2 := Try.underlying50
 subst hc
 clear h
 obtain ⟨s2, hs2⟩ : ∃ s2, startC tag ln = s2 := ⟨_, rfl⟩
 have HST := Aside0.mk (fun W => start_any 0 tag ln cons W)
 rw [hs2] at HST ⊢
 clear hs2
 rcases s2 with _ | s3
 ·
  go_enter Try.func20, Try.ntmps20
  go_wp2_with (first
   | ((with_reducible refine gate_dst (N := 3) rfl ?_)
      refine sp_box hS rfl (N := 3) rfl _ 39 zz10 ?_
      intro ge w1 hge hS
      obtain ⟨e0, e1, e2, e3, e4, e5, e6⟩ := hS.cells7 0
      obtain ⟨k0, k1⟩ := hS.cells2 1
      have kf := hS.fz 1)
   | (go_at_call 34
      (with_reducible refine (HST.out _).mono ?_)
      rintro e w3 ⟨v2, rfl, hq⟩
      replace hS := hS.post0 (hq.mo (fun _ h => h.elim))
      have hv2 : v2 = .nilFunc := hS.h.get 0 _ rfl
      subst hv2
      clear e0 e1 e2 e3 e4 e5 e6 k0 k1 kf
      obtain ⟨k0, k1⟩ := hS.cells2 2
      have kf := hS.fz 2))
  go_ret
  exact ⟨rfl, lk_none (Sp.sel (l2 := [blk g #[.nilFunc, .bool false] 50]) ((hS.set_ 2 0 _).lt) [2])⟩
 ·
  go_enter Try.func20, Try.ntmps20
  go_wp2_with (first
   | ((with_reducible refine gate_dst (N := 3) rfl ?_)
      refine sp_box hS rfl (N := 3) rfl _ 39 zz10 ?_
      intro ge w1 hge hS
      obtain ⟨e0, e1, e2, e3, e4, e5, e6⟩ := hS.cells7 0
      obtain ⟨k0, k1⟩ := hS.cells2 1
      have kf := hS.fz 1)
   | (go_at_call 34
      (with_reducible refine (HST.out _).mono ?_)
      rintro e w3 ⟨v2, rfl, hq⟩
      replace hS := hS.post0 (hq.mo (fun _ h => h.elim))
      obtain ⟨fn, cap, hv2⟩ := fn_nx (hS.h.get 0 _ rfl)
      subst hv2
      clear e0 e1 e2 e3 e4 e5 e6 k0 k1 kf
      obtain ⟨k0, k1⟩ := hS.cells2 2
      have kf := hS.fz 2))
  go_ret
  exact ⟨rfl, lk_shut (s := some s3) (Sp.sel (l2 := [blk g #[.func fn #[] cap, .bool false] 50, kx (some s3) _]) ((hS.set_ 2 0 _).lt) [2, 0])⟩
set_option maxHeartbeats 4000000 in
set_option maxRecDepth 100000 in
theorem look_leafx (g : Nat) (s : Cs) (at_ cl tag : Int) (cons : Bool) (ln b : Int) (hc : ¬ cl = 0) (w : World) (S : Nat → Prop) (h : Hs w S [ck g (some s)]) :
 Calls Try.prog 20 #[.pointer (some ⟨g, 0, none⟩), .agg #[.int .i64 2, .int .i64 at_, .int .i64 cl, .int .i64 tag, .bool cons, .int .i64 ln, .int .u8 b]] w fun e w' => e = .returned (.bool (some Cs.any).isSome) ∧ Sp w S [lk g (some Cs.any)] w' := by
 obtain ⟨v, hS⟩ := ck_open h
 have hu := Try.underlying39
 have hu2 := Try.underlying50
 have d1 : (cl == 0) = false := by simpa using hc
 clear h
 go_enter Try.func20, Try.ntmps20
 go_wp2_with (first
  | ((with_reducible refine gate_dst (N := 3) rfl ?_)
     refine sp_box hS rfl (N := 3) rfl _ 39 zz10 ?_
     intro ge w1 hge hS
     obtain ⟨e0, e1, e2, e3, e4, e5, e6⟩ := hS.cells7 0
     obtain ⟨k0, k1⟩ := hS.cells2 1
     have kf := hS.fz 1)
  | ((with_reducible refine gate_store (t := 48) (p := 69) (v := .func 17) rfl ?_)
     refine sp_cell hS 1 rfl 48 (.tmp 69) (.func 17) rfl rfl g 0 (.func (.func 17) #[] #[]) rfl rfl 50 _ _ rfl zz8 zz13 rfl rfl rfl ?_
     intro w4 hS))
 go_ret
 exact ⟨rfl, lk_shut (s := some .any) (v := .func (.func 17) #[] #[]) ((Sp.more (Sp.sel (l2 := [blk g #[.func (.func 17) #[] #[], .bool false] 50]) ((hS.set_ 1 0 _).lt) [1]) (a := kx (some .any) (.func (.func 17) #[] #[])) (Upd.refl _ _) rfl).swap)⟩
set_option maxHeartbeats 4000000 in
set_option maxRecDepth 100000 in
theorem look_rest (g : Nat) (s : Cs) (kd at_ cl tag : Int) (cons : Bool) (ln b : Int) (h3 : ¬ kd = 3) (h2 : ¬ kd = 2) (h1 : ¬ (kd = 1 ∧ cl = 0)) (w : World) (S : Nat → Prop) (h : Hs w S [ck g (some s)]) :
 Calls Try.prog 20 #[.pointer (some ⟨g, 0, none⟩), .agg #[.int .i64 kd, .int .i64 at_, .int .i64 cl, .int .i64 tag, .bool cons, .int .i64 ln, .int .u8 b]] w fun e w' => e = .returned (.bool (some s).isSome) ∧ Sp w S [lk g (some s)] w' := by
 obtain ⟨v, hS⟩ := ck_open h
 have hu := Try.underlying39
 have hu2 := Try.underlying50
 have d3 : (kd == 3) = false := by simpa using h3
 have d2 : (kd == 2) = false := by simpa using h2
 clear h
 by_cases hk : kd = 1
 ·
  subst hk
  have hc : ¬ cl = 0 := fun h => h1 ⟨rfl, h⟩
  have d1 : (cl == 0) = false := by simpa using hc
  go_enter Try.func20, Try.ntmps20
  go_wp2_with (first
   | ((with_reducible refine gate_dst (N := 3) rfl ?_)
      refine sp_box hS rfl (N := 3) rfl _ 39 zz10 ?_
      intro ge w1 hge hS
      obtain ⟨e0, e1, e2, e3, e4, e5, e6⟩ := hS.cells7 0
      obtain ⟨k0, k1⟩ := hS.cells2 1
      have kf := hS.fz 1))
  go_ret
  exact ⟨rfl, lk_shut (s := some s) (Sp.sel (l2 := [blk g #[v, .bool false] 50, kx (some s) v]) hS.lt [1, 2])⟩
 ·
  have d1 : (kd == 1) = false := by simpa using hk
  go_enter Try.func20, Try.ntmps20
  go_wp2_with (first
   | ((with_reducible refine gate_dst (N := 3) rfl ?_)
      refine sp_box hS rfl (N := 3) rfl _ 39 zz10 ?_
      intro ge w1 hge hS
      obtain ⟨e0, e1, e2, e3, e4, e5, e6⟩ := hS.cells7 0
      obtain ⟨k0, k1⟩ := hS.cells2 1
      have kf := hS.fz 1))
  go_ret
  exact ⟨rfl, lk_shut (s := some s) (Sp.sel (l2 := [blk g #[v, .bool false] 50, kx (some s) v]) hS.lt [1, 2])⟩
set_option maxRecDepth 100000 in
theorem look_ev (g : Nat) (s : Cs) (e : Ev) (r : Int) (hg : Good s r) (ho : okR r e) (w : World) (S : Nat → Prop) (h : Hs w S [ck g (some s)]) :
 Calls Try.prog 20 #[.pointer (some ⟨g, 0, none⟩), .agg #[.int .i64 e.f0, .int .i64 e.f1, .int .i64 e.f2.f0, .int .i64 e.f2.f1, .bool e.f2.f2, .int .i64 e.f2.f3, .int .u8 e.f3]] w fun e' w' => e' = .returned (.bool (lookC s e).isSome) ∧ Sp w S [lk g (lookC s e)] w' := by
 obtain ⟨kd, at_, ⟨cl, tag, cons, ln⟩, b⟩ := e
 obtain ⟨o1, o2, o3, o4⟩ := ho
 simp only at o1 o2 o3 o4 ⊢
 by_cases h3 : kd = 3
 ·
  subst h3
  have e1 : lookC s ⟨3, at_, ⟨cl, tag, cons, ln⟩, b⟩ = pushC s b := by unfold lookC; rw [if_pos rfl]
  rw [e1]
  have z2 := o2 rfl
  clear e1 o2 o3 o4
  cases s with
  | any => exact look_byte_any g at_ cl tag cons ln b w S h
  | num t n a f => exact look_byte_num g t n a f at_ cl tag cons ln b r hg z2 o1 w S h
  | oid l wi => exact look_byte_oid g l wi at_ cl tag cons ln b r hg z2 o1 w S h
  | bit l bg u => exact look_byte_bit g l bg u at_ cl tag cons ln b r hg z2 o1 w S h
  | whn u D l => exact look_byte_whn g u D l at_ cl tag cons ln b r hg z2 o1 w S h
  | txt t l m lo hi => exact look_byte_txt g t l m lo hi at_ cl tag cons ln b r hg z2 o1 w S h
 by_cases h1 : kd = 1 ∧ cl = 0
 ·
  obtain ⟨rfl, hc⟩ := h1
  have e1 : lookC s ⟨1, at_, ⟨cl, tag, cons, ln⟩, b⟩ = if tag = 16 ∨ tag = 17 then some s else none := by unfold lookC; rw [if_neg (by show ¬ (1 : Int) = 3; decide), if_pos ⟨rfl, hc⟩]
  rw [e1]
  exact look_enter g s at_ cl tag cons ln b hc w S h
 by_cases h2 : kd = 2
 ·
  subst h2
  by_cases hc : cl = 0
  ·
   have e1 : lookC s ⟨2, at_, ⟨cl, tag, cons, ln⟩, b⟩ = startC tag ln := by unfold lookC; rw [if_neg (by show ¬ (2 : Int) = 3; decide), if_neg (fun h => absurd (show (2 : Int) = 1 from h.1) zz13), if_pos ⟨rfl, hc⟩]
   rw [e1]
   exact look_leaf0 g s at_ cl tag cons ln b hc w S h
  ·
   have e1 : lookC s ⟨2, at_, ⟨cl, tag, cons, ln⟩, b⟩ = some .any := by unfold lookC; rw [if_neg (by show ¬ (2 : Int) = 3; decide), if_neg (fun h => absurd (show (2 : Int) = 1 from h.1) zz13), if_neg (fun h => hc h.2), if_pos rfl]
   rw [e1]
   exact look_leafx g s at_ cl tag cons ln b hc w S h
 ·
  have e1 : lookC s ⟨kd, at_, ⟨cl, tag, cons, ln⟩, b⟩ = some s := by unfold lookC; rw [if_neg h3, if_neg h1, if_neg (fun h => h2 h.1), if_neg h2]
  rw [e1]
  exact look_rest g s kd at_ cl tag cons ln b h3 h2 h1 w S h
set_option maxHeartbeats 4000000 in
set_option maxRecDepth 100000 in
theorem new_ck (w : World) : Calls Try.prog 11 #[] w fun e w' => ∃ g : Nat, e = .returned (.pointer (some ⟨g, 0, none⟩)) ∧ Sp w None0 [ck g (some .any)] w' := by
 have hS := Sp.nil (w := w) (S := None0)
 have hu := Try.underlying50
 go_enter Try.func11, Try.ntmps11
 go_wp2_with (first
  | ((with_reducible refine gate_dst (N := 2) rfl ?_)
     refine sp_box hS rfl (N := 2) rfl #[.func (.func 17) #[] #[], .bool false] 50 zz10 ?_
     intro g w1 hg hS))
 go_ret
 exact ⟨g, rfl, ck_shut (s := some .any) ((Sp.more (show Sp w None0 _ _ from hS.lt) (a := kx (some .any) (.func (.func 17) #[] #[])) (Upd.refl _ _) rfl).swap)⟩
set_option maxHeartbeats 4000000 in
set_option maxRecDepth 100000 in
theorem push_over (g : Nat) (e0 e1 e2 e3 : Int) (e4 : Bool) (e5 e6 : Int) (w : World) (S : Nat → Prop) (h : Hs w S [ck g none]) :
 Calls Try.prog 14 #[.pointer (some ⟨g, 0, none⟩), .agg #[.int .i64 e0, .int .i64 e1, .int .i64 e2, .int .i64 e3, .bool e4, .int .i64 e5, .int .u8 e6]] w fun e' w' => e' = .returned (.int .i64 7) ∧ Sp w S [ck g none] w' := by
 obtain ⟨v, hS⟩ := ck_open h
 have hu := Try.underlying39
 have hu2 := Try.underlying50
 clear h
 replace hS := Sp.sel (l2 := [blk g #[v, .bool true] 50]) hS [0]
 go_enter Try.func14, Try.ntmps14
 go_wp2_with (first
  | ((with_reducible refine gate_dst (N := 3) rfl ?_)
     refine sp_box hS rfl (N := 3) rfl _ 39 zz10 ?_
     intro ge w1 hge hS
     obtain ⟨k0, k1⟩ := hS.cells2 1))
 go_ret
 exact ⟨rfl, ck_none (v := v) (Sp.sel (l2 := [blk g #[v, .bool true] 50]) hS.lt [1])⟩
set_option maxHeartbeats 4000000 in
set_option maxRecDepth 100000 in
theorem push_ev (g : Nat) (s : Cs) (e : Ev) (r : Int) (hg : Good s r) (ho : okR r e) (w : World) (S : Nat → Prop) (h : Hs w S [ck g (some s)]) :
 Calls Try.prog 14 #[.pointer (some ⟨g, 0, none⟩), .agg #[.int .i64 e.f0, .int .i64 e.f1, .int .i64 e.f2.f0, .int .i64 e.f2.f1, .bool e.f2.f2, .int .i64 e.f2.f3, .int .u8 e.f3]] w fun e' w' => e' = .returned (.int .i64 (if (lookC s e).isSome then 0 else 7)) ∧ Sp w S [ck g (lookC s e)] w' := by
 obtain ⟨v, hS⟩ := ck_open h
 have hu := Try.underlying39
 have hu2 := Try.underlying50
 have HL := Aside0.mk (fun W S' h => look_ev g s e r hg ho W S' h)
 obtain ⟨s2, hs2⟩ : ∃ s2, lookC s e = s2 := ⟨_, rfl⟩
 rw [hs2] at HL ⊢
 obtain ⟨⟨kd, at_, ⟨cl, tag, cons, n⟩, b⟩, he⟩ : ∃ q, e = q := ⟨_, rfl⟩
 rw [he] at HL ⊢
 simp only at HL ⊢
 clear h hg ho hs2 he
 have KC : ∀ {w' : World} {T : Nat → Prop} {l : List Ast}, Sp w T (blk g #[v, .bool false] 50 :: kx (some s) v :: l) w' → Sp w T (ck g (some s) :: l) w' := fun h => Sp.exI v (Sp.fold [_, _] h)
 rcases s2 with _ | s3
 all_goals
  go_enter Try.func14, Try.ntmps14
  go_upto_if 9 with (first
   | ((with_reducible refine gate_dst (N := 3) rfl ?_)
      refine sp_box hS rfl (N := 3) rfl _ 39 zz10 ?_
      intro ge w1 hge hS
      obtain ⟨k0, k1⟩ := hS.cells2 1
      obtain ⟨e0, e1, e2, e3, e4, e5, e6⟩ := hS.cells7 0))
  replace hS := KC (Sp.sel (l2 := [blk g #[v, .bool false] 50, kx (some s) v]) hS [1, 2])
  go_wp2_with (first
   | (go_at_call 20
      (with_reducible refine (HL.out _ (hS.ft 1) (by exact hS.pre1)).mono ?_)
      rintro e w3 ⟨rfl, hq⟩
      replace hS := hS.post1 hq
      obtain ⟨v3, hS⟩ := Sp.ex0 hS
      replace hS := hS.flat
      clear e0 e1 e2 e3 e4 e5 e6 k0 k1
      obtain ⟨k0, k1⟩ := hS.cells2 0
      have kf := hS.fz 0))
  go_ret
 ·
  exact ⟨rfl, ck_none (v := v3) (Sp.sel (l2 := [blk g #[v3, .bool true] 50]) ((hS.set_ 0 1 _).lt) [0])⟩
 ·
  exact ⟨rfl, ck_shut (s := some s3) (v := v3) (Sp.sel (l2 := [blk g #[v3, .bool false] 50, kx (some s3) v3]) ((hS.set_ 0 1 _).lt) [0, 1])⟩
end Go.Proofs.Ytpfconocipmcjaa.Vp
namespace Go.Proofs.Ytpfconocipmcjaa.Vp
open RowKit YtpfconocipmcjaaW.PrintWords Own
theorem up_cell {w W : World} (hu : Upd None0 w W) {a : Addr} {v : Value} (h : w.cell? a = some v) : W.cell? a = some v := (hu.below0.cell (block_lt_of_cell h)).trans h
end Go.Proofs.Ytpfconocipmcjaa.Vp
