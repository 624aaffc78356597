/- What the row of EncodeSorts stands on, made small by a program of this session (pack.py). -/
import Derived.ArgAppend
import Derived.Below
import Derived.BigQuiet
import Derived.Deep.AppendLies
import Derived.Deep.CutBlock
import Derived.Deep.DeepCutAuto
import Derived.Deep.Draws
import Derived.Deep.LoopGhost
import Derived.Deep.OwnRows
import Derived.Deep.QuietTactic
import Derived.Deep.RegionHeld3
import Derived.KernelRfl
import Derived.Laws.BitsLemmas
import Derived.Laws.BytesArg
import Derived.Laws.IdiomCopy
import Derived.Laws.MakeOwn
import Derived.Laws.OwnMore
import Derived.Laws.Rows
import Derived.Laws.Slices
import Derived.Lib.AppendStr
import Derived.Lib.ConvBytes
import Derived.Maps.AppendAt
import Derived.OrdersHeld
import Derived.OwnWalk
import Derived.RowKit
import Derived.RowKit3
import Derived.Tactics
import Derived.Test.YtgddaddoabjgiaaProg
import Derived.WalkKit
import Derived.WideLaws
import Derived.Test.YtgddaddoabjgiaaCEncodeSorts0
import Derived.Test.YtgddaddoabjgiaaCEncodeSorts1
import Derived.Test.YtgddaddoabjgiaaCEncodeSorts2
import Derived.Test.YtgddaddoabjgiaaCEncodeSorts3
import Derived.Test.YtgddaddoabjgiaaCEncodeSorts4
namespace Go.Proofs.Ytgddaddoabjgiaa.El
open RowKit YtgddaddoabjgiaaW.PrintWords YtgddaddoabjgiaaW.PrintLast YtgddaddoabjgiaaW.PrintMore Own Sl Bs Idm Lenm Hdm PA
set_option linter.unusedVariables false
set_option linter.unusedSimpArgs false
def elb (c t : Int) (cons : Bool) (s : ByteArray) : ByteArray := strOfNums (hdenc c t cons (s.size : Int)) ++ s
theorem nums_sz (l : List Int) (h : Idm.Bytes l) : (strOfNums l).size = l.length := by rw [← bytesOf_length, bytesOf_nums l h]
theorem elb_size {c t : Int} (cons : Bool) {s : ByteArray} (h : Valid c t) (hs : s.size ≤ 100000000) : s.size + 2 ≤ (elb c t cons s).size ∧ (elb c t cons s).size ≤ s.size + 14 := by
 have hw : Whole c t (s.size : Int) := ⟨h, zz7, by unfold MaxLen; omega⟩
 unfold elb
 rw [ByteArray.size_append, nums_sz _ (hdenc_bytes hw)]
 have := hdenc_len cons hw
 omega
set_option maxHeartbeats 4000000 in
set_option maxRecDepth 100000 in
theorem elem_ok {c t : Int} (cons : Bool) (n0 : Int) (s : ByteArray) (w : World) (h : Valid c t) (hs : s.size ≤ 100000000) :
 Calls Try.prog 18 #[.agg #[.int .i64 c, .int .i64 t, .bool cons, .int .i64 n0], .string s] w fun e w' => e = .returned (.string (elb c t cons s)) ∧ Upd None0 w w' := by
 have hS := Sp.nil (w := w) (S := None0)
 have hw : Whole c t (s.size : Int) := ⟨h, zz7, by unfold MaxLen; omega⟩
 have HP := Aside0.mk (BHd.hput_ok 30 cons hw zz13)
 have hz := nums_sz _ (hdenc_bytes (cons := cons) hw)
 have hl := hdenc_len cons hw
 obtain ⟨x, hx⟩ : ∃ x, strOfNums (hdenc c t cons (s.size : Int)) = x := ⟨_, rfl⟩
 have HX := Aside0.mk (show elb c t cons s = x ++ s by unfold elb; rw [hx])
 rw [hx] at HP hz
 have hcat : ¬ 9223372036854775807 < x.size + s.size := by omega
 have hcat2 : x.size + s.size ≤ 9223372036854775807 := by omega
 have hu := Try.underlying39
 rw [HX.out]
 clear hz hl hw hx h
 go_enter Try.func18, Try.ntmps18
 go_wp2_with (first
  | ((with_reducible refine gate_dst (N := 2) rfl ?_)
     refine sp_box hS rfl (N := 2) rfl #[.int .i64 c, .int .i64 t, .bool cons, .int .i64 n0] 39 zz20 ?_
     intro g w1 hg hS)
  | ((with_reducible refine gate_store (t := 3) (p := 9) (v := .tmp 8) rfl ?_)
     refine sp_cell hS 0 rfl 3 (.tmp 9) (.tmp 8) rfl rfl g 3 (.int .i64 (s.size : Int)) rfl rfl 39 _ _ rfl zz4 zz43 rfl rfl rfl ?_
     intro w2 hS
     obtain ⟨hc0, hc1, hc2, hc3⟩ := hS.cells4 0)
  | (go_at_call 43
     (with_reducible refine (head_Put.calls 30 c t cons (s.size : Int) x 0 _ HP.out).mono ?_)
     rintro e w3 ⟨rfl, hb⟩
     replace hS := Sp.toN (by exact hS) (Upd.of_below hb : Upd None0 _ _)))
 go_ret
 exact ⟨rfl, hS.lt.u⟩
set_option maxHeartbeats 4000000 in
set_option maxRecDepth 100000 in
theorem elem_bad {c t : Int} (cons : Bool) (n0 : Int) (s : ByteArray) (w : World) (h : ¬ Valid c t) :
 Calls Try.prog 18 #[.agg #[.int .i64 c, .int .i64 t, .bool cons, .int .i64 n0], .string s] w fun e w' => e = .returned (.string ByteArray.empty) ∧ Upd None0 w w' := by
 have hS := Sp.nil (w := w) (S := None0)
 have HP := Aside0.mk (BHd.hput_bad 30 (n := (s.size : Int)) cons (fun hw => h hw.1) zz13)
 have hu := Try.underlying39
 clear h
 go_enter Try.func18, Try.ntmps18
 go_wp2_with (first
  | ((with_reducible refine gate_dst (N := 2) rfl ?_)
     refine sp_box hS rfl (N := 2) rfl #[.int .i64 c, .int .i64 t, .bool cons, .int .i64 n0] 39 zz20 ?_
     intro g w1 hg hS)
  | ((with_reducible refine gate_store (t := 3) (p := 9) (v := .tmp 8) rfl ?_)
     refine sp_cell hS 0 rfl 3 (.tmp 9) (.tmp 8) rfl rfl g 3 (.int .i64 (s.size : Int)) rfl rfl 39 _ _ rfl zz4 zz43 rfl rfl rfl ?_
     intro w2 hS
     obtain ⟨hc0, hc1, hc2, hc3⟩ := hS.cells4 0)
  | (go_at_call 43
     (with_reducible refine (head_Put.calls 30 c t cons (s.size : Int) _ 1 _ HP.out).mono ?_)
     rintro e w3 ⟨rfl, hb⟩
     replace hS := Sp.toN (by exact hS) (Upd.of_below hb : Upd None0 _ _)))
 go_ret
 exact ⟨rfl, hS.lt.u⟩
set_option maxHeartbeats 4000000 in
set_option maxRecDepth 100000 in
theorem relem_ok {c t : Int} (cons : Bool) (n0 : Int) (s : ByteArray) (w : World) (h : Valid c t) (hs : s.size ≤ 100000000) :
 Calls Try.prog 19 #[.agg #[.int .i64 c, .int .i64 t, .bool cons, .int .i64 n0], .string s] w fun e w' => e = .returned (.string (elb c t cons s)) ∧ Upd None0 w w' := by
 have hS := Sp.nil (w := w) (S := None0)
 have hw : Whole c t (s.size : Int) := ⟨h, zz7, by unfold MaxLen; omega⟩
 have HP := Aside0.mk (BHd.rhput_ok 30 cons hw zz13)
 have hz := nums_sz _ (hdenc_bytes (cons := cons) hw)
 have hl := hdenc_len cons hw
 obtain ⟨x, hx⟩ : ∃ x, strOfNums (hdenc c t cons (s.size : Int)) = x := ⟨_, rfl⟩
 have HX := Aside0.mk (show elb c t cons s = x ++ s by unfold elb; rw [hx])
 rw [hx] at HP hz
 have hcat : ¬ 9223372036854775807 < x.size + s.size := by omega
 have hcat2 : x.size + s.size ≤ 9223372036854775807 := by omega
 have hu := Try.underlying39
 rw [HX.out]
 clear hz hl hw hx h
 go_enter Try.func19, Try.ntmps19
 go_wp2_with (first
  | ((with_reducible refine gate_dst (N := 2) rfl ?_)
     refine sp_box hS rfl (N := 2) rfl #[.int .i64 c, .int .i64 t, .bool cons, .int .i64 n0] 39 zz20 ?_
     intro g w1 hg hS)
  | ((with_reducible refine gate_store (t := 3) (p := 9) (v := .tmp 8) rfl ?_)
     refine sp_cell hS 0 rfl 3 (.tmp 9) (.tmp 8) rfl rfl g 3 (.int .i64 (s.size : Int)) rfl rfl 39 _ _ rfl zz4 zz43 rfl rfl rfl ?_
     intro w2 hS
     obtain ⟨hc0, hc1, hc2, hc3⟩ := hS.cells4 0)
  | (go_at_call 44
     (with_reducible refine (gantletref07_Put.calls 30 c t cons (s.size : Int) x 0 _ HP.out).mono ?_)
     rintro e w3 ⟨rfl, hb⟩
     replace hS := Sp.toN (by exact hS) (Upd.of_below hb : Upd None0 _ _)))
 go_ret
 exact ⟨rfl, hS.lt.u⟩
def leafb (t : Int) (s : ByteArray) : ByteArray := if 0 ≤ t ∧ t ≤ 268435455 then elb 0 t false s else ByteArray.empty
set_option maxHeartbeats 4000000 in
set_option maxRecDepth 100000 in
theorem leaf_any (t : Int) (s : ByteArray) (w : World) (hs : s.size ≤ 100000000) :
 Calls Try.prog 25 #[.int .i64 t, .string s] w fun e w' => e = .returned (.string (leafb t s)) ∧ Upd None0 w w' := by
 have hu := Try.underlying39
 have HL : ∀ W, Calls Try.prog 18 #[.agg #[.int .i64 0, .int .i64 t, .bool false, .int .i64 0], .string s] W fun e w' => e = .returned (.string (leafb t s)) ∧ Upd None0 W w' := fun W => by
  unfold leafb
  split
  ·
   rename_i h; exact elem_ok false 0 s W ⟨zz13, zz13, h.1, h.2⟩ hs
  ·
   rename_i h; exact elem_bad false 0 s W (fun hv => h ⟨hv.2.2.1, hv.2.2.2⟩)
 have HE := Aside0.mk HL
 clear HL
 go_enter Try.func25, Try.ntmps25
 go_wp2_with (first
  | (go_at_call 18
     (with_reducible refine (HE.out _).mono ?_)
     rintro e w3 ⟨rfl, hun⟩
     have HU := Aside0.mk hun
     clear hun))
 go_ret
 exact ⟨rfl, (lu : Upd None0 w _).trans HU.out (fun _ h => h.elim)⟩
set_option maxHeartbeats 4000000 in
set_option maxRecDepth 100000 in
theorem rleaf_ok {t : Int} (s : ByteArray) (w : World) (ht : 0 ≤ t ∧ t ≤ 268435455) (hs : s.size ≤ 100000000) :
 Calls Try.prog 28 #[.int .i64 t, .string s] w fun e w' => e = .returned (.string (elb 0 t false s)) ∧ Upd None0 w w' := by
 have hu := Try.underlying39
 have HE := Aside0.mk (fun W => relem_ok (c := 0) (t := t) false 0 s W ⟨zz13, zz13, ht.1, ht.2⟩ hs)
 clear ht
 go_enter Try.func28, Try.ntmps28
 go_wp2_with (first
  | (go_at_call 19
     (with_reducible refine (HE.out _).mono ?_)
     rintro e w3 ⟨rfl, hun⟩
     have HU := Aside0.mk hun
     clear hun))
 go_ret
 exact ⟨rfl, (lu : Upd None0 w _).trans HU.out (fun _ h => h.elim)⟩
set_option maxHeartbeats 4000000 in
set_option maxRecDepth 100000 in
theorem rseq_ok (s : ByteArray) (w : World) (hs : s.size ≤ 100000000) :
 Calls Try.prog 27 #[.string s] w fun e w' => e = .returned (.string (elb 0 16 true s)) ∧ Upd None0 w w' := by
 have hu := Try.underlying39
 have HE := Aside0.mk (fun W => relem_ok (c := 0) (t := 16) true 0 s W ⟨zz13, zz13, zz13, zz13⟩ hs)
 go_enter Try.func27, Try.ntmps27
 go_wp2_with (first
  | (go_at_call 19
     (with_reducible refine (HE.out _).mono ?_)
     rintro e w3 ⟨rfl, hun⟩
     have HU := Aside0.mk hun
     clear hun))
 go_ret
 exact ⟨rfl, (lu : Upd None0 w _).trans HU.out (fun _ h => h.elim)⟩
end Go.Proofs.Ytgddaddoabjgiaa.El
namespace Go.Proofs.Ytgddaddoabjgiaa.Wr
open RowKit YtgddaddoabjgiaaW.PrintWords YtgddaddoabjgiaaW.PrintLast YtgddaddoabjgiaaW.PrintMore Own Sl Bs Idm El
set_option linter.unusedVariables false
set_option linter.unusedSimpArgs false
def cat : List ByteArray → ByteArray
 | [] => ByteArray.empty
 | s :: l => s ++ cat l
theorem toList_app (a b : ByteArray) : (a ++ b).data.toList = a.data.toList ++ b.data.toList := by simp
theorem cat_toList (l : List ByteArray) : (cat l).data.toList = (l.map (·.data.toList)).flatten := by
 induction l with
 | nil => rfl
 | cons s l ih => unfold cat; rw [toList_app, ih]; simp
theorem cat_append (a b : List ByteArray) : cat (a ++ b) = cat a ++ cat b := by
 apply ByteArray.ext
 apply Array.ext'
 rw [toList_app, cat_toList, cat_toList, cat_toList]
 simp
theorem cat_snoc (a : List ByteArray) (s : ByteArray) : cat (a ++ [s]) = cat a ++ s := by rw [cat_append]; simp [cat]
theorem join_flat (l : List (List UInt8)) : Lib.join l [] = l.flatten := by
 cases l with
 | nil => rfl
 | cons x r => rw [Lib.join_cons]; simp [Lib.joinTail]
theorem join_cat (l : List ByteArray) : (⟨(Lib.join (l.map (·.data.toList)) (ByteArray.empty).data.toList).toArray⟩ : ByteArray) = cat l := by
 apply ByteArray.ext
 apply Array.ext'
 have e : (ByteArray.empty).data.toList = [] := rfl
 rw [e, join_flat, cat_toList]
theorem cat_length (l : List ByteArray) : (Lib.join (l.map (·.data.toList)) (ByteArray.empty).data.toList).length = (cat l).size := by
 have e : (ByteArray.empty).data.toList = [] := rfl
 rw [e, join_flat, ← cat_toList, Array.length_toList]
 rfl
theorem cat_count (l : List ByteArray) : (cat l).size = (l.map ByteArray.size).sum := by
 induction l with
 | nil => rfl
 | cons s l ih => unfold cat; rw [ByteArray.size_append, ih]; simp
theorem infoS : (Try.prog.info? 9).map (fun i => (i.zero, i.size, i.bytes)) = some (some (.string ByteArray.empty), 1, 16) := by kernel_rfl
theorem str_cell {W : World} {ad : Addr} {l : List ByteArray} {n i : Nat} {s : ByteArray} (h : Kd.C Kd.string W (some ad) n l) (hs : l[i]? = some s) : W.cell? (ad.add i) = some (.string s) := by
 obtain ⟨hi, he⟩ := List.getElem?_eq_some_iff.1 hs
 have hn := h.1
 obtain ⟨ad2, e, hx⟩ := Kd.at_string h (i : Int) zz7 zz7
 cases e
 have e2 : rdOf ByteArray.empty l (i : Int) = s := by simp [rdOf, hi, he]
 rw [e2] at hx
 simpa using hx
theorem join_row {A : Option Addr} {c : Nat} {l : List ByteArray} {S : Nat → Prop} (w : World) (hR : Kd.string.R 9 w 0 S (.slice A l.length c) l) (hs : (cat l).size ≤ 100000000) (hn : l.length ≤ 100000) :
 Calls Try.prog 46 #[.slice A l.length c, .string ⟨#[]⟩] w fun e w' => e = .returned (.string (cat l)) ∧ Upd None0 w w' := by
 by_cases h0 : l = []
 ·
  subst h0
  exact (Try.strings_Join_none A c ByteArray.empty w).mono fun e w' ⟨h1, h2⟩ => ⟨h1, by rw [h2]; exact Upd.refl _ _⟩
 ·
  have hp : 0 < l.length := List.length_pos_iff.2 h0
  obtain ⟨g, cap, hv, _, hg, _⟩ := Kd.R_form hR hp
  cases hv
  have hcs := (Kd.R_reads' hR).2.2
  refine (Try.strings_Join g 0 c l ByteArray.empty w (fun j x hx => ?_) hg zz7 (Kd.R_reads' hR).2.1 (by rw [cat_length]; omega)).mono fun e w' ⟨h1, h2⟩ => ⟨?_, Upd.of_below h2⟩
  ·
   have := str_cell hcs hx
   rw [add_plain] at this
   rw [Nat.zero_add]; exact this
  ·
   rw [h1, join_cat]
def wrL (g : Nat) (parts : List ByteArray) (wrong : Bool) (A : Option Addr) (c : Nat) : List Ast := [blk g #[.slice A parts.length c, .bool wrong] 62, row Kd.string 9 (.slice A parts.length c) parts]
def wr (g : Nat) (parts : List ByteArray) (wrong : Bool) : Ast := ex fun (q : Option Addr × Nat) => sep (wrL g parts wrong q.1 q.2)
section
variable {w0 w W : World} {S : Nat → Prop} {l : List Ast} {g : Nat} {parts : List ByteArray} {wrong : Bool}
theorem wr_open (h : Hs w S [wr g parts wrong]) : ∃ A c, Sp w S (wrL g parts wrong A c) w := by
 obtain ⟨⟨A, c⟩, h⟩ := (Sp.start h).ex0
 have := h.flat
 rw [List.append_nil] at this
 exact ⟨_, _, this⟩
theorem wr_shut {A : Option Addr} {c : Nat} (h : Sp w0 S (wrL g parts wrong A c) w) : Sp w0 S [wr g parts wrong] w :=
 Sp.exI (A, c) (Sp.fold _ (by rw [List.append_nil]; exact h))
theorem wr_new (h : Sp w0 S (blk g #[.slice none 0 0, .bool false] 62 :: l) w) : Sp w0 S (wr g [] false :: l) w :=
 Sp.exI (none, 0) (Sp.fold (wrL g [] false none 0) (Sp.swap (h.nilrow Kd.string 9)))
end
set_option maxHeartbeats 4000000 in
set_option maxRecDepth 100000 in
theorem add_any (g : Nat) (parts : List ByteArray) (wrong : Bool) (part : ByteArray) (ok : Bool) (w : World) (S : Nat → Prop) (h : Hs w S [wr g parts wrong]) (hl : parts.length ≤ 100000) :
 Calls Try.prog 29 #[.pointer (some ⟨g, 0, none⟩), .string part, .bool ok] w fun e w' => e = .returned (.tuple #[]) ∧ Sp w S [wr g (parts ++ [part]) (wrong || !ok)] w' := by
 obtain ⟨A, c, hS⟩ := wr_open h
 obtain ⟨hc0, hc1⟩ := hS.cells2 0
 have HL := Aside0.mk (show (parts.length + 1) * 16 ≤ 140737488355328 by omega)
 obtain ⟨ys, hys⟩ : ∃ ys, parts ++ [part] = ys := ⟨_, rfl⟩
 have HY := Aside0.mk hys
 rw [hys]
 clear h hl hys
 cases wrong <;> cases ok
 all_goals
  go_enter Try.func29, Try.ntmps29
  go_wp2_with (first
   | ((with_reducible refine gate_builtin (b := .append) (xs := #[.tmp 10, .tmp 12]) rfl ?_); at_builtin
      refine sp_app Kd.string hS 1 rfl (.tmp 10) (.tmp 12) 60 9 (.string ByteArray.empty) 16 rfl Try.underlying60 infoS rfl zz13 zz13 (.slice A parts.length c) parts part [.string part] rfl rfl (by exact rfl) rfl HL.out ys HY.out _ (fun _ _ => rfl) ?_
      clear hc0 hc1
      intro A2 c2 w1 hS)
   | ((with_reducible refine gate_store (t := 60) (p := 15) (v := .tmp 13) rfl ?_)
      refine sp_cell hS 0 rfl 60 (.tmp 15) (.tmp 13) rfl rfl g 0 (.slice A2 ys.length c2) rfl rfl 62 _ _ rfl zz4 zz43 rfl rfl rfl ?_
      intro w2 hS
      obtain ⟨hc0, hc1⟩ := hS.cells2 0)
   | ((with_reducible refine gate_store (t := 4) (p := 26) (v := .tmp 24) rfl ?_)
      refine sp_cell hS 0 rfl 4 (.tmp 26) (.tmp 24) rfl rfl g 1 (.bool _) rfl rfl 62 _ _ rfl zz4 zz43 rfl rfl rfl ?_
      clear hc0 hc1
      intro w3 hS))
  go_end0
  exact ⟨rfl, wr_shut hS.lt⟩
set_option maxHeartbeats 4000000 in
set_option maxRecDepth 100000 in
theorem all_any {t : Int} (A : Option Addr) (c : Nat) (l : List ByteArray) (w : World) (S : Nat → Prop) (ht : 0 ≤ t ∧ t ≤ 268435455) (hR : Kd.string.R 9 w 0 S (.slice A l.length c) l) (hs : (cat l).size ≤ 100000000) (hn : l.length ≤ 100000) :
 Calls Try.prog 24 #[.int .i64 t, .slice A l.length c] w fun e w' => e = .returned (.string (elb 0 t true (cat l))) ∧ Upd None0 w w' := by
 have hu := Try.underlying39
 have HE := Aside0.mk (fun W => elem_ok (c := 0) (t := t) true 0 (cat l) W ⟨zz13, zz13, ht.1, ht.2⟩ hs)
 have HJ := Aside0.mk (join_row w hR hs hn)
 clear hR ht hs hn
 go_enter Try.func24, Try.ntmps24
 go_wp2_with (first
  | (go_at_call 46
     (with_reducible refine HJ.out.mono ?_)
     rintro e w3 ⟨rfl, hun⟩
     have HU := Aside0.mk hun
     clear hun)
  | (go_at_call 18
     (with_reducible refine (HE.out _).mono ?_)
     rintro e w4 ⟨rfl, hun⟩
     have HU2 := Aside0.mk hun
     clear hun))
 go_ret
 exact ⟨rfl, HU.out.trans ((lu : Upd None0 w3 _).trans HU2.out (fun _ h => h.elim)) (fun _ h => h.elim)⟩
set_option maxHeartbeats 4000000 in
set_option maxRecDepth 100000 in
theorem end_any {t : Int} (g : Nat) (parts : List ByteArray) (wrong : Bool) (w : World) (S : Nat → Prop) (h : Hs w S [wr g parts wrong]) (ht : 0 ≤ t ∧ t ≤ 268435455) (hs : (cat parts).size ≤ 100000000) (hn : parts.length ≤ 100000) :
 Calls Try.prog 33 #[.pointer (some ⟨g, 0, none⟩), .int .i64 t] w fun e w' => e = .returned (.tuple #[.string (if wrong then ByteArray.empty else elb 0 t true (cat parts)), .bool (!wrong)]) ∧ Sp w S [wr g parts wrong] w' := by
 obtain ⟨A, c, hS⟩ := wr_open h
 obtain ⟨hc0, hc1⟩ := hS.cells2 0
 have HN := Aside0.mk (all_any (t := t) A c parts w _ ht (hS.row 1) hs hn)
 clear h hs hn
 cases wrong with
 | true =>
   go_enter Try.func33, Try.ntmps33
   go_wp2
   go_ret2
   exact ⟨rfl, wr_shut hS⟩
 | false =>
   go_enter Try.func33, Try.ntmps33
   go_wp2_with (first
    | (go_at_call 24
       (with_reducible refine HN.out.mono ?_)
       rintro e w3 ⟨rfl, hun⟩
       replace hS := Sp.toN (by exact hS) hun))
   go_ret2
   exact ⟨rfl, wr_shut hS.lt⟩
end Go.Proofs.Ytgddaddoabjgiaa.Wr
namespace Go.Proofs.Ytgddaddoabjgiaa.Oidm
def hi (n : Nat) : List Int := if _h : n = 0 then [] else hi (n / 128) ++ [128 + ((n % 128 : Nat) : Int)]
def numb (n : Nat) : List Int := hi (n / 128) ++ [((n % 128 : Nat) : Int)]
theorem hi_zero : hi 0 = [] := by rw [hi]; rfl
theorem hi_pos (n : Nat) (h : 0 < n) : hi n = hi (n / 128) ++ [128 + ((n % 128 : Nat) : Int)] := by rw [hi, dif_neg zz7]
theorem hi_bytes (n : Nat) : ∀ b, b ∈ hi n → 128 ≤ b ∧ b < 256 := by
  induction n using Nat.strongRecOn with
  | _ n ih =>
    intro b hb
    by_cases h : n = 0
    · subst h; rw [hi_zero] at hb; cases hb
    · rw [hi_pos n zz7] at hb
      rcases List.mem_append.1 hb with h1 | h1
      · exact ih _ zz7 b h1
      · obtain rfl := List.mem_singleton.1 h1; omega
theorem hi_len (k : Nat) : ∀ n : Nat, n < 128 ^ k → (hi n).length ≤ k := by
  induction k with
  | zero => intro n h; obtain rfl : n = 0 := by simp at h; omega
            rw [hi_zero]; simp
  | succ k ih =>
    intro n h
    by_cases h0 : n = 0
    · subst h0; rw [hi_zero]; simp
    · rw [hi_pos n zz7, List.length_append]
      have := ih (n / 128) (by rw [Nat.div_lt_iff_lt_mul zz13]; rw [Nat.pow_succ] at h; exact h)
      simp; omega
theorem numb_len (n : Nat) (h : n < 18446744073709551616) : (numb n).length ≤ 11 := by
  unfold numb
  rw [List.length_append]
  have := hi_len 10 (n / 128) (by rw [Nat.div_lt_iff_lt_mul zz13]; exact Nat.lt_of_lt_of_le h zz13)
  simp; omega
theorem numb_bytes (n : Nat) : ∀ b, b ∈ numb n → 0 ≤ b ∧ b < 256 := by
  intro b hb
  rcases List.mem_append.1 hb with h1 | h1
  · have := hi_bytes _ b h1; omega
  · obtain rfl := List.mem_singleton.1 h1; omega
end Go.Proofs.Ytgddaddoabjgiaa.Oidm
namespace Go.Proofs.Ytgddaddoabjgiaa.Oid
open RowKit YtgddaddoabjgiaaW.PrintWords YtgddaddoabjgiaaW.PrintLast YtgddaddoabjgiaaW.PrintMore Own Sl Bs Oidm
set_option linter.unusedVariables false
set_option linter.unusedSimpArgs false
theorem infoB : (Try.prog.info? 5).map (fun i => (i.zero, i.size, i.bytes)) = some (some (.int .u8 0), 1, 1) := by kernel_rfl
theorem byte_and (n : Nat) : bits .and .u8 ((n : Int) % 256) 127 = ((n % 128 : Nat) : Int) := by
 have h : bits .and .u8 ((n : Int) % 256) 127 = ((n : Int) % 256) % 128 := bits_mask .u8 8 zz13 wraps_u8 7 zz13 _ zz7 zz7
 rw [h]; omega
theorem byte_or (n : Nat) : bits .or .u8 ((n : Int) % 256) 128 = 128 + ((n % 128 : Nat) : Int) := by
 have h : ∀ x : Nat, x < 256 → bits .or .u8 (x : Int) 128 = 128 + ((x % 128 : Nat) : Int) := by decide +kernel
 have := h (n % 256) zz7
 rw [show (n : Int) % 256 = ((n % 256 : Nat) : Int) by omega, this]; omega
set_option maxHeartbeats 4000000 in
set_option maxRecDepth 100000 in
theorem one_any (n : Nat) (hn : n < 18446744073709551616) (w : World) (S : Nat → Prop) :
 Calls Try.prog 81 #[.int .u64 (n : Int)] w fun e w' => ∃ A c, e = .returned (.slice A (numb n).length c) ∧ Sp w S [row (Kd.int .u8) 5 (.slice A (numb n).length c) (numb n)] w' := by
 have hS := Sp.nil (w := w) (S := S)
 obtain ⟨b, hb⟩ : ∃ b, bits .and .u8 ((n : Int) % 256) 127 = b := ⟨_, rfl⟩
 have HB := Aside0.mk ((byte_and n).symm.trans hb)
 obtain ⟨L, hL⟩ : ∃ L, numb n = L := ⟨_, rfl⟩
 rw [hL]
 have HL := Aside0.mk hL
 have HN := Aside0.mk hn
 clear hL hn
 go_enter Try.func81, Try.ntmps81
 go_wp2_with (first
  | ((with_reducible refine gate_dst (N := 7) rfl ?_)
     refine sp_lit (Kd.int .u8) hS 5 rfl (N := 7) rfl [b] [.int .u8 b] zz20 (reps_one rfl rfl) zz43 ?_
     intro A c w1 hS))
 clear hb
 go_loopg [0, 3] (n + 1) (fun gk v0 v3 wr => ∃ (m : Nat) (A : Option Addr) (k c : Nat) (l : List Int), v0 = .int .u64 (m : Int) ∧ v3 = .slice A k c ∧ Aside0 (m < gk ∧ m < 18446744073709551616 ∧ hi m ++ l = L) ∧ Aside0 (k = l.length ∧ Sp w S [row (Kd.int .u8) 5 (.slice A k c) l] wr))
 case atStart => exact ⟨n / 128, A, 1, c, [b], zz43, rfl, ⟨zz7, by have := HN.out; omega, by rw [← HB.out]; exact HL.out⟩, ⟨rfl, hS⟩⟩
 case round =>
  clear hS
  obtain ⟨m, A, k, c, l, rfl, rfl, HM, HS⟩ := hrel
  have hS := HS.out.2
  have hm0 : (0 : Int) ≤ (m : Int) := by omega
  have hm1 : (m : Int) < 18446744073709551616 := by have := HM.out.2.1; omega
  by_cases h0 : m = 0
  ·
   subst h0
   go_wp2
   go_ret
   have h2 : l = L := by have := HM.out.2.2; rwa [hi_zero, List.nil_append] at this
   obtain rfl := HS.out.1
   subst h2
   exact ⟨A, c, rfl, hS⟩
  ·
   have hd : decide ((0 : Int) < (m : Int)) = true := decide_eq_true zz7
   have hd2 : decide (0 < m) = true := decide_eq_true zz7
   have H0 := Aside0.mk h0
   obtain ⟨b2, hb2⟩ : ∃ b2, bits .or .u8 ((m : Int) % 256) 128 = b2 := ⟨_, rfl⟩
   have HB2 := Aside0.mk ((byte_or m).symm.trans hb2)
   obtain ⟨l2, hl2⟩ : ∃ l2, [b2] ++ l = l2 := ⟨_, rfl⟩
   have HL2 := Aside0.mk hl2
   have hlen : l.length ≤ 11 := by
    have := congrArg List.length HM.out.2.2
    rw [← HL.out, List.length_append] at this
    have := numb_len n HN.out
    omega
   have HLE := Aside0.mk (show ([b2].length + k) * 1 ≤ 140737488355328 by rw [HS.out.1]; simp; omega)
   have HR := Aside0.mk (hS.reads 0)
   clear h0 hl2 hlen HB
   go_wp2_with (first
    | ((with_reducible refine gate_dst (N := 17) rfl ?_)
       refine sp_lit (Kd.int .u8) hS 5 rfl (N := 17) rfl [b2] [.int .u8 b2] zz20 (reps_one rfl rfl) zz43 ?_
       intro A1 c1 w1 hS
       replace HR := Aside0.mk (hS.reads 1))
    | ((with_reducible refine gate_builtin (b := .append) (xs := #[.tmp 17, .tmp 18]) rfl ?_); (try at_builtin)
       refine sp_apps (Kd.int .u8) hS 0 rfl (.tmp 17) (.tmp 18) 76 5 (.int .u8 0) 1 rfl Try.underlying76 infoB rfl zz13 zz13 (.slice A1 1 c1) [b2] l A k c rfl rfl rfl (by exact cl_ HR) (fun _ _ h => h) HLE.out l2 HL2.out _ (fun _ _ => rfl) ?_
       intro A2 c2 w2 hS))
   clear hb2
   go_roundg (gk - 1)
   case measure => have := HM.out; omega
   case rel => exact ⟨m / 128, A2, l2.length, c2, l2, zz43, rfl, ⟨by have := HM.out; have := H0.out; omega, by have := HM.out; omega, by rw [← HL2.out, ← HM.out.2.2, hi_pos m (by have := H0.out; omega), ← HB2.out]; simp⟩, ⟨rfl, Sp.sel (l2 := [row (Kd.int .u8) 5 (.slice A2 l2.length c2) l2]) hS [0]⟩⟩
theorem nums_app (a b : List Int) (ha : Bytes a) (hb : Bytes b) : strOfNums a ++ strOfNums b = strOfNums (a ++ b) := by
 apply bytesOf_inj
 have h2 : Bytes (a ++ b) := fun x hx => (List.mem_append.1 hx).elim (ha x) (hb x)
 rw [bytesOf_nums _ h2, bytesOf_append, bytesOf_nums _ ha, bytesOf_nums _ hb]
theorem nums_size (l : List Int) (h : Bytes l) : (strOfNums l).size = l.length := by rw [← bytesOf_length, bytesOf_nums l h]
theorem conv {w0 w : World} {S : Nat → Prop} {l : List Ast} {A : Option Addr} {n c : Nat} {xs : List Int} (h : Sp w0 S l w) (i : Nat) (hi : l[i]? = some (row (Kd.int .u8) 5 (.slice A n c) xs)) (hn : xs.length = n) : (convert 76 9 (.slice A n c)).run Try.prog w = .ok (.string (strOfNums xs)) w := by
 subst hn
 exact own_string (P := Try.prog) Try.underlying76 Try.underlying5 Try.underlying9 (Kd.own_of_R (h.row i hi))
set_option maxHeartbeats 4000000 in
set_option maxRecDepth 100000 in
theorem ref_number (n : Nat) (hn : n < 18446744073709551616) (w : World) (S : Nat → Prop) :
 Calls Try.prog 71 #[.int .u64 (n : Int)] w fun e w' => e = .returned (.string (strOfNums (numb n))) ∧ Sp w S [] w' := by
 have hS := Sp.nil (w := w) (S := S)
 obtain ⟨b, hb⟩ : ∃ b, (((n % 128 : Nat) : Int)) = b := ⟨_, rfl⟩
 have hb1 : (n : Int) % 128 = b := by rw [← hb]; omega
 have hb2 : b % 256 = b := by rw [← hb]; omega
 have HB := Aside0.mk hb
 have hbb : 0 ≤ b ∧ b < 256 := by rw [← hb]; omega
 obtain ⟨L, hL⟩ : ∃ L, numb n = L := ⟨_, rfl⟩
 rw [hL]
 have HL := Aside0.mk hL
 have HN := Aside0.mk hn
 clear hL hn hb
 go_enter Try.func71, Try.ntmps71
 go_wp2_with (first
  | ((with_reducible refine gate_dst (N := 7) rfl ?_)
     refine sp_lit (Kd.int .u8) hS 5 rfl (N := 7) rfl [b] [.int .u8 b] zz20 (reps_one rfl rfl) zz43 ?_
     intro A c w1 hS
     have hk := conv (n := 1) hS 0 rfl rfl))
 clear hb1 hb2
 go_loopg [0, 3] (n + 1) (fun gk v0 v3 wr => ∃ (m : Nat) (l : List Int) (x : ByteArray), v0 = .int .u64 (m : Int) ∧ v3 = .string x ∧ Aside0 (m < gk ∧ m < 18446744073709551616 ∧ hi (m / 128) ++ l = L ∧ Bytes l ∧ x = strOfNums l) ∧ Aside0 (Sp w S [] wr))
 case atStart => exact ⟨n, [b], _, rfl, rfl, ⟨zz7, HN.out, by rw [← HB.out]; exact HL.out, fun y hy => by obtain rfl := List.mem_singleton.1 hy; exact hbb, rfl⟩, ⟨hS.sel []⟩⟩
 case round =>
  clear hS
  obtain ⟨m, l, x, rfl, rfl, HM, HS⟩ := hrel
  have hS := HS.out
  have hm0 : (0 : Int) ≤ (m : Int) := by omega
  have hm1 : (m : Int) < 18446744073709551616 := by have := HM.out.2.1; omega
  by_cases h0 : m ≤ 127
  ·
   have hd : decide ((127 : Int) < (m : Int)) = false := decide_eq_false zz7
   have HX := Aside0.mk (show x = strOfNums L by
    have h2 := HM.out.2.2.1
    rw [show m / 128 = 0 by omega, hi_zero, List.nil_append] at h2
    rw [← h2]; exact HM.out.2.2.2.2)
   go_wp2
   go_ret
   exact ⟨by rw [← HX.out]; rfl, hS⟩
  ·
   have hd : decide ((127 : Int) < (m : Int)) = true := decide_eq_true zz7
   obtain ⟨q, hq⟩ : ∃ q : Nat, m / 128 = q := ⟨_, rfl⟩
   have hqi : (m : Int) / 128 = (q : Int) := by rw [← hq]; omega
   have hqp : 0 < q := by omega
   obtain ⟨b2, hb2⟩ : ∃ b2, (128 + ((q % 128 : Nat) : Int)) = b2 := ⟨_, rfl⟩
   have e1 : (q : Int) % 128 + 128 = b2 := by rw [← hb2]; omega
   have e1b : 128 + (q : Int) % 128 = b2 := by rw [← hb2]; omega
   have e2 : b2 % 256 = b2 := by rw [← hb2]; omega
   have HB2 := Aside0.mk hb2
   have hq0 : (0 : Int) ≤ (q : Int) := by omega
   have hby : Bytes [b2] := fun y hy => by obtain rfl := List.mem_singleton.1 hy; rw [← hb2]; omega
   have hz := nums_size [b2] hby
   obtain ⟨s1, hs1⟩ : ∃ s1, strOfNums [b2] = s1 := ⟨_, rfl⟩
   rw [hs1] at hz
   have hz1 : s1.size = 1 := hz
   have hlen : l.length ≤ 11 := by
    have := congrArg List.length HM.out.2.2.1
    rw [← HL.out, List.length_append] at this
    have := numb_len n HN.out
    omega
   have hxz : x.size ≤ 11 := by rw [HM.out.2.2.2.2, nums_size l HM.out.2.2.2.1]; exact hlen
   have HX := Aside0.mk (show s1 ++ x = strOfNums ([b2] ++ l) by rw [← hs1, HM.out.2.2.2.2, nums_app _ _ hby HM.out.2.2.2.1])
   have HBY := Aside0.mk hby
   have H0 := Aside0.mk (And.intro hq hqp)
   clear h0 hq hqp hb2 hby hz
   go_wp2_with (first
    | ((with_reducible refine gate_dst (N := 17) rfl ?_)
       refine sp_lit (Kd.int .u8) hS 5 rfl (N := 17) rfl [b2] [.int .u8 b2] zz20 (reps_one rfl rfl) zz43 ?_
       intro A c w1 hS
       have hk := conv (n := 1) hS 0 rfl rfl
       rw [hs1] at hk))
   go_roundg (gk - 1)
   case measure => have := HM.out; omega
   case rel => exact ⟨q, [b2] ++ l, _, rfl, rfl, ⟨by have := HM.out; have := H0.out; omega, by have := HM.out; have := H0.out; omega, by rw [← HM.out.2.2.1, H0.out.1, hi_pos q H0.out.2, ← HB2.out]; simp, fun y hy => (List.mem_append.1 hy).elim (HBY.out y) (HM.out.2.2.2.1 y), HX.out⟩, ⟨hS.sel []⟩⟩
end Go.Proofs.Ytgddaddoabjgiaa.Oid
namespace Go.Proofs.Ytgddaddoabjgiaa.Oid
open RowKit YtgddaddoabjgiaaW.PrintWords YtgddaddoabjgiaaW.PrintLast YtgddaddoabjgiaaW.PrintMore Own Sl Bs Oidm
set_option linter.unusedVariables false
set_option linter.unusedSimpArgs false
theorem int_cell {k : IntKind} {W : World} {ad : Addr} {n i : Nat} {xs : List Int} {v : Int} (h : (Kd.int k).C W (some ad) n xs) (hs : xs[i]? = some v) : W.cell? (ad.add i) = some (.int k v) := by
 obtain ⟨hi, he⟩ := List.getElem?_eq_some_iff.1 hs
 have hn := h.1
 obtain ⟨ad2, e, hx⟩ := Kd.at_int h (i : Int) zz7 zz7
 cases e
 have e2 : rd xs (i : Int) = v := by simp [rd, hi, he]
 rw [e2] at hx
 simpa using hx
theorem add_zero_ (ad : Addr) : ad.add 0 = ad := rfl
theorem add_one_ (ad : Addr) : ad.add 1 = ⟨ad.block, ad.off + 1, none⟩ := rfl
def Arcs (l : List Int) : Prop := l.length ≤ 1000 ∧ ∀ a, a ∈ l → 0 ≤ a ∧ a < 18446744073709551616
def oidOk : List Int → Bool
 | a :: b :: _ => decide (a ≤ 2) && (decide (2 ≤ a) || decide (b < 40)) && decide (b ≤ 18446744073709551615 - 40 * a)
 | _ => false
def tl : List Int → List Int
 | [] => []
 | a :: r => numb a.toNat ++ tl r
def oidc : List Int → List Int
 | a :: b :: r => numb (40 * a + b).toNat ++ tl r
 | _ => []
theorem tl_snoc (l : List Int) (a : Int) : tl (l ++ [a]) = tl l ++ numb a.toNat := by
 induction l with
 | nil => simp [tl]
 | cons b l ih => simp [tl, ih]
theorem tl_bytes (l : List Int) : Bytes (tl l) := by
 induction l with
 | nil => intro b hb; cases hb
 | cons a l ih => intro b hb; exact (List.mem_append.1 hb).elim (numb_bytes _ b) (ih b)
theorem oidc_bytes (l : List Int) : Bytes (oidc l) := by
 match l with
 | [] => intro b hb; cases hb
 | [a] => intro b hb; cases hb
 | a :: b :: r => intro x hx; exact (List.mem_append.1 hx).elim (numb_bytes _ x) (tl_bytes r x)
theorem tl_len (l : List Int) (h : ∀ a, a ∈ l → 0 ≤ a ∧ a < 18446744073709551616) : (tl l).length ≤ 11 * l.length := by
 induction l with
 | nil => simp [tl]
 | cons a l ih =>
   have h1 := ih (fun b hb => h b (List.mem_cons_of_mem _ hb))
   have h2 := numb_len a.toNat (by have := h a (List.mem_cons_self ..); omega)
   simp [tl]; omega
set_option maxHeartbeats 4000000 in
set_option maxRecDepth 100000 in
theorem put_bad (A : Option Addr) (c : Nat) (l : List Int) (w : World) (hC : (Kd.int .u64).C w A l.length l) (hA : Arcs l) (h : oidOk l = false) :
 Calls Try.prog 61 #[.slice A l.length c] w fun e w' => e = .returned (.tuple #[.string ByteArray.empty, .bool false]) ∧ Upd None0 w w' := by
 match l, h with
 | [], _ =>
   clear hC
   go_enter Try.func61, Try.ntmps61
   go_wp2
   go_quiet (fail)
   go_wp2
   go_ret2
   exact ⟨rfl, lu⟩
 | [a], _ =>
   clear hC
   go_enter Try.func61, Try.ntmps61
   go_wp2
   go_quiet (fail)
   go_wp2
   go_ret2
   exact ⟨rfl, lu⟩
 | a :: b :: r, h =>
   obtain ⟨ad, _, rfl, _⟩ := Kd.C_get hC 0 (0 : Int) zz7 zz73
   have h0 := int_cell (i := 0) hC rfl
   rw [add_zero_] at h0
   have h1 := int_cell (i := 1) hC rfl
   rw [add_one_] at h1
   have ha := hA.2 a zz43
   have hb := hA.2 b zz43
   obtain ⟨n, hn⟩ : ∃ n, (a :: b :: r).length = n := ⟨_, rfl⟩
   rw [hn]
   have hn2 : (2 : Int) ≤ (n : Int) := by rw [← hn]; simp; omega
   have y1 : decide ((n : Int) < 2) = false := decide_eq_false zz7
   have hn0 : (0 : Int) < (n : Int) := by omega
   have hn1 : (1 : Int) < (n : Int) := by omega
   have hm0 : 0 < n := by omega
   have hm1 : 1 < n := by omega
   clear hC hA hn
   unfold oidOk at h
   by_cases k1 : 2 < a
   ·
    have y2 : decide (2 < a) = true := decide_eq_true k1
    go_enter Try.func61, Try.ntmps61
    go_wp2
    go_quiet (fail)
    go_wp2
    go_ret2
    exact ⟨rfl, lu⟩
   have y2 : decide (2 < a) = false := decide_eq_false k1
   by_cases k2 : a < 2 ∧ 40 ≤ b
   ·
    have y3 : decide (a < 2) = true := decide_eq_true k2.1
    have y4 : decide (40 ≤ b) = true := decide_eq_true k2.2
    have y5 : decide (b < 40) = false := decide_eq_false zz7
    clear k2 h
    go_enter Try.func61, Try.ntmps61
    go_wp2
    go_quiet (fail)
    go_wp2
    go_ret2
    exact ⟨rfl, lu⟩
   have hbig : 18446744073709551615 - 40 * a < b := by
    simp at h
    omega
   have y6 : decide (18446744073709551615 - 40 * a < b) = true := decide_eq_true hbig
   clear h hbig
   by_cases k3 : a < 2
   ·
    have y3 : decide (a < 2) = true := decide_eq_true k3
    have y4 : decide (40 ≤ b) = false := decide_eq_false zz7
    clear k2
    go_enter Try.func61, Try.ntmps61
    go_wp2
    go_quiet (fail)
    go_wp2
    go_ret2
    exact ⟨rfl, lu⟩
   ·
    have y3 : decide (a < 2) = false := decide_eq_false k3
    clear k2
    go_enter Try.func61, Try.ntmps61
    go_wp2
    go_quiet (fail)
    go_wp2
    go_ret2
    exact ⟨rfl, lu⟩
set_option maxHeartbeats 4000000 in
set_option maxRecDepth 100000 in
theorem put_ok (A : Option Addr) (c : Nat) (l : List Int) (w : World) (hC : (Kd.int .u64).C w A l.length l) (hcap : l.length ≤ c) (hA : Arcs l) (h : oidOk l = true) :
 Calls Try.prog 61 #[.slice A l.length c] w fun e w' => e = .returned (.tuple #[.string (strOfNums (oidc l)), .bool true]) ∧ Upd None0 w w' := by
 match l, h with
 | a :: b :: r, h =>
   obtain ⟨ad, _, rfl, _⟩ := Kd.C_get hC 0 (0 : Int) zz7 zz73
   have h0 := int_cell (i := 0) hC rfl
   rw [add_zero_] at h0
   have h1 := int_cell (i := 1) hC rfl
   rw [add_one_] at h1
   have ha := hA.2 a zz43
   have hb := hA.2 b zz43
   have hlen := hA.1
   have HC := Aside0.mk hC
   have HA := Aside0.mk hA
   obtain ⟨n, hn⟩ : ∃ n, (a :: b :: r).length = n := ⟨_, rfl⟩
   rw [hn] at hcap hlen ⊢
   have hn2 : (2 : Int) ≤ (n : Int) := by rw [← hn]; simp; omega
   have y1 : decide ((n : Int) < 2) = false := decide_eq_false zz7
   have hn0 : (0 : Int) < (n : Int) := by omega
   have hn1 : (1 : Int) < (n : Int) := by omega
   have hm0 : 0 < n := by omega
   have hm1 : 1 < n := by omega
   have hm2 : (n : Int) ≤ 1000 := by omega
   have hca : (n : Int) ≤ (c : Int) := by omega
   have hrn : r.length = n - 2 := by rw [← hn]; simp
   unfold oidOk at h
   simp only [Bool.and_eq_true, Bool.or_eq_true, decide_eq_true_eq] at h
   have y2 : decide (2 < a) = false := decide_eq_false zz7
   have y6 : decide (18446744073709551615 - 40 * a < b) = false := decide_eq_false zz7
   obtain ⟨m, hm⟩ : ∃ m : Nat, 40 * a + b = (m : Int) := ⟨(40 * a + b).toNat, zz7⟩
   have HM := Aside0.mk (show m = (40 * a + b).toNat ∧ m < 18446744073709551616 by omega)
   have hS := Sp.nil (w := w) (S := None0)
   have HN := Aside0.mk hn
   have HRN := Aside0.mk hrn
   have hor : (decide (a < 2) = true ∧ decide (40 ≤ b) = false) ∨ decide (a < 2) = false := by
    by_cases k : a < 2
    ·
     exact .inl ⟨decide_eq_true k, decide_eq_false zz7⟩
    ·
     exact .inr (decide_eq_false k)
   have ha2 : a ≤ 2 := h.1.1
   clear hC hA h hn hrn
   rcases hor with ⟨y3, y4⟩ | y3
   all_goals
    go_enter Try.func61, Try.ntmps61
    go_wp2
    go_quiet (fail)
    go_wp2
    replace hS : Sp w None0 [] (w.drewN nq) := hS.lt
    have HC0 := HC
    replace HC := Aside0.mk (Kd.C_drewN HC.out nq)
    clear y1 y2 y6 h0 h1
    (try clear y3)
    (try clear y4)
    generalize w.drewN nq = W1 at hS HC ⊢
    have h0 := int_cell (i := 0) HC.out rfl
    rw [add_zero_] at h0
    have h1 := int_cell (i := 1) HC.out rfl
    rw [add_one_] at h1
    have hw1 : IntKind.u64.wrap (40 * a) = 40 * a := by rw [IntKind.wrap_u64]; omega
    have hw2 : IntKind.u64.wrap (m : Int) = (m : Int) := by have := HM.out.2; rw [IntKind.wrap_u64]; omega
    go_region_held3 (fun w' => w'.cell? ad = some (.int .u64 a) ∧ w'.cell? ⟨ad.block, ad.off + 1, none⟩ = some (.int .u64 b)) (first | go_keep | exact ⟨k0, k1⟩) (first
     | (go_at_call 81
        (with_reducible refine (one_any m HM.out.2 _ (hS.ft 0)).mono ?_)
        rintro e w2 ⟨A1, c1, rfl, hq⟩
        have hun : Upd None0 _ _ := Sp.un hq
        replace HC := cup HC hun
        replace hS := hS.post0 hq
        have k0 := int_cell (i := 0) HC.out rfl
        rw [add_zero_] at k0
        have k1 := int_cell (i := 1) HC.out rfl
        rw [add_one_] at k1))
    clear h0 h1 hw1 hw2 k0 k1
    obtain ⟨q, hq⟩ : ∃ q, n - 2 = q := ⟨_, rfl⟩
    have HQ := Aside0.mk (show r.length = q by rw [HRN.out, hq])
    have HLEN := Aside0.mk (show q ≤ 1000 by omega)
    by_cases hc2 : c = 2
    ·
     subst hc2
     obtain rfl : q = 0 := by omega
     have hr : r = [] := List.eq_nil_of_length_eq_zero HQ.out
     subst hr
     go_wp2
     refine wp_loop_rounds 1 ?_
     rw [rounds_succ]
     have hk := conv hS 0 rfl rfl
     go_wp2
     go_ret2
     refine ⟨?_, hS.lt.u⟩
     have := HM.out.1
     subst this
     simp [oidc, tl]
    ·
     go_wp2
     clear hq hc2
     obtain ⟨L, hL⟩ : ∃ L, numb m = L := ⟨_, rfl⟩
     rw [hL] at hS ⊢
     have HLL := Aside0.mk hL
     have HRB := Aside0.mk (show ∀ a, a ∈ r → 0 ≤ a ∧ a < 18446744073709551616 from fun x hx => HA.out.2 x (List.mem_cons_of_mem _ (List.mem_cons_of_mem _ hx)))
     have HL11 := Aside0.mk (show L.length ≤ 11 by rw [← hL]; exact numb_len m HM.out.2)
     clear hL
     go_loopg [4, 51] q (fun gk v4 v51 wr => ∃ (i : Nat) (A2 : Option Addr) (k c2 : Nat) (xs : List Int), v4 = .slice A2 k c2 ∧ v51 = .int .i64 (i : Int) ∧ Aside0 (i ≤ q ∧ q - i ≤ gk ∧ k = xs.length ∧ xs = L ++ tl (r.take i)) ∧ Aside0 (Sp w None0 [row (Kd.int .u8) 5 (.slice A2 k c2) xs] wr))
     case atStart => exact ⟨0, A1, _, c1, L, rfl, rfl, ⟨Nat.zero_le _, zz7, rfl, by simp [tl]⟩, ⟨hS⟩⟩
     case round =>
      clear hS HC
      obtain ⟨i, A2, k, c2, xs, rfl, rfl, HI, HS⟩ := hrel
      have hS := HS.out
      have HC := Aside0.mk (Kd.C_below HC0.out hS.u.below0)
      clear HS
      have hi0 : (0 : Int) ≤ (i : Int) := by omega
      have hi1 : (i : Int) ≤ 1000 := by have := HI.out.1; have := HLEN.out; omega
      have hxl : xs.length ≤ 11 + 11 * 1000 := by
       rw [HI.out.2.2.2, List.length_append]
       have h1 := tl_len (r.take i) (fun x hx => HRB.out x (List.mem_of_mem_take hx))
       have h2 := List.length_take_le i r
       have := HL11.out
       omega
      by_cases hlt : i < q
      ·
       have hd : decide (i < q) = true := decide_eq_true hlt
       have hlti : (i : Int) < (q : Int) := by omega
       have hri : i < r.length := by rw [HQ.out]; exact hlt
       obtain ⟨x, hx⟩ : ∃ x, r[i] = x := ⟨_, rfl⟩
       have hxb := HRB.out x (by rw [← hx]; exact List.getElem_mem hri)
       have hcell := int_cell (i := 2 + i) (v := x) HC.out (by rw [Nat.add_comm]; simp [hri, hx])
       have hadd : ad.add (2 + i) = ⟨ad.block, ad.off + 2 + i, none⟩ := by unfold Addr.add; rw [if_neg zz7, Nat.add_assoc]
       rw [hadd] at hcell
       obtain ⟨y, hy⟩ : ∃ y : Nat, x = (y : Int) := ⟨x.toNat, zz7⟩
       subst hy
       have HYB := Aside0.mk (show y < 18446744073709551616 by omega)
       have HTK := Aside0.mk (show xs ++ numb y = L ++ tl (r.take (i + 1)) by
        rw [List.take_add_one, List.getElem?_eq_getElem hri, hx, Option.toList_some, tl_snoc, HI.out.2.2.2, List.append_assoc, Int.toNat_natCast])
       obtain ⟨ys, hys⟩ : ∃ ys, xs ++ numb y = ys := ⟨_, rfl⟩
       have HYS := Aside0.mk hys
       have HLE := Aside0.mk (show (xs.length + (numb y).length) * 1 ≤ 140737488355328 by have := numb_len y HYB.out; omega)
       have HLT := Aside0.mk hlt
       have HK := Aside0.mk HI.out.2.2.1
       obtain rfl := HK.out
       obtain ⟨ny, hny⟩ : ∃ ny, numb y = ny := ⟨_, rfl⟩
       have HNY := Aside0.mk hny
       rw [hny] at HLE HYS
       have HONE := Aside0.mk (one_any y HYB.out)
       rw [hny] at HONE
       clear hlt hri hx hxb hys hadd hny hxl
       go_wp2_with (first
        | (go_at_call 81
           (with_reducible refine (HONE.out _ (hS.ft 0)).mono ?_)
           rintro e w3 ⟨A3, c3, rfl, hq⟩
           replace hS := hS.post0 hq
           have HR := Aside0.mk (hS.reads 0))
        | ((with_reducible refine gate_builtin (b := .append) (xs := #[.tmp 55, .tmp 57]) rfl ?_); (try at_builtin)
           refine sp_apps (Kd.int .u8) hS 1 rfl (.tmp 55) (.tmp 57) 76 5 (.int .u8 0) 1 rfl Try.underlying76 infoB rfl zz13 zz13 (.slice A2 xs.length c2) xs ny A3 ny.length c3 rfl rfl rfl (by exact cl_ HR) (fun _ _ h => h) HLE.out ys HYS.out _ (fun _ _ => rfl) ?_
           intro A4 c4 w4 hS))
       go_roundg (gk - 1)
       case measure => have := HI.out; have := HLT.out; omega
       case rel => exact ⟨i + 1, A4, _, c4, ys, rfl, zz43, ⟨HLT.out, by have := HI.out; omega, rfl, by rw [← HYS.out, ← HNY.out]; exact HTK.out⟩, ⟨Sp.sel (l2 := [row (Kd.int .u8) 5 (.slice A4 ys.length c4) ys]) hS [1]⟩⟩
      ·
       have hd : decide (i < q) = false := decide_eq_false hlt
       have hk := conv hS 0 rfl HI.out.2.2.1.symm
       have HX := Aside0.mk (show strOfNums xs = strOfNums (oidc (a :: b :: r)) by
        rw [HI.out.2.2.2, List.take_of_length_le (by rw [HQ.out]; have := HI.out.1; omega), ← HLL.out, HM.out.1]; rfl)
       go_wp2
       go_ret2
       exact ⟨by rw [← HX.out]; rfl, hS.lt.u⟩
end Go.Proofs.Ytgddaddoabjgiaa.Oid
namespace Go.Proofs.Ytgddaddoabjgiaa.Oid
open RowKit YtgddaddoabjgiaaW.PrintWords YtgddaddoabjgiaaW.PrintLast YtgddaddoabjgiaaW.PrintMore Own Sl Bs Oidm
set_option linter.unusedVariables false
set_option linter.unusedSimpArgs false
set_option maxHeartbeats 4000000 in
set_option maxRecDepth 100000 in
theorem rput_bad (A : Option Addr) (c : Nat) (l : List Int) (w : World) (hC : (Kd.int .u64).C w A l.length l) (hA : Arcs l) (h : oidOk l = false) :
 Calls Try.prog 47 #[.slice A l.length c] w fun e w' => e = .returned (.tuple #[.string ByteArray.empty, .bool false]) ∧ Upd None0 w w' := by
 match l, h with
 | [], _ =>
   clear hC
   go_enter Try.func47, Try.ntmps47
   go_wp2
   go_ret2
   exact ⟨rfl, lu⟩
 | [a], _ =>
   clear hC
   go_enter Try.func47, Try.ntmps47
   go_wp2
   go_ret2
   exact ⟨rfl, lu⟩
 | a :: b :: r, h =>
   obtain ⟨ad, _, rfl, _⟩ := Kd.C_get hC 0 (0 : Int) zz7 zz73
   have h0 := int_cell (i := 0) hC rfl
   rw [add_zero_] at h0
   have h1 := int_cell (i := 1) hC rfl
   rw [add_one_] at h1
   have ha := hA.2 a zz43
   have hb := hA.2 b zz43
   obtain ⟨n, hn⟩ : ∃ n, (a :: b :: r).length = n := ⟨_, rfl⟩
   rw [hn]
   have hn2 : (2 : Int) ≤ (n : Int) := by rw [← hn]; simp; omega
   have y1 : decide ((n : Int) < 2) = false := decide_eq_false zz7
   have hn0 : (0 : Int) < (n : Int) := by omega
   have hn1 : (1 : Int) < (n : Int) := by omega
   have hm0 : 0 < n := by omega
   have hm1 : 1 < n := by omega
   clear hC hA hn
   unfold oidOk at h
   by_cases k1 : 2 < a
   ·
    have y2 : decide (2 < a) = true := decide_eq_true k1
    clear h
    go_enter Try.func47, Try.ntmps47
    go_wp2
    go_ret2
    exact ⟨rfl, lu⟩
   have y2 : decide (2 < a) = false := decide_eq_false k1
   by_cases k2 : a < 2
   ·
    have y3 : decide (a < 2) = true := decide_eq_true k2
    have y4 : decide (39 < b) = true := decide_eq_true (by simp at h; omega)
    clear h
    go_enter Try.func47, Try.ntmps47
    go_wp2
    go_ret2
    exact ⟨rfl, lu⟩
   ·
    obtain rfl : a = 2 := by omega
    have y4 : decide (18446744073709551535 < b) = true := decide_eq_true (by simp at h; omega)
    clear h y2 k1 k2
    go_enter Try.func47, Try.ntmps47
    go_wp2
    go_ret2
    exact ⟨rfl, lu⟩
set_option maxHeartbeats 4000000 in
set_option maxRecDepth 100000 in
theorem rput_ok (A : Option Addr) (c : Nat) (l : List Int) (w : World) (hC : (Kd.int .u64).C w A l.length l) (hcap : l.length ≤ c) (hA : Arcs l) (h : oidOk l = true) :
 Calls Try.prog 47 #[.slice A l.length c] w fun e w' => e = .returned (.tuple #[.string (strOfNums (oidc l)), .bool true]) ∧ Upd None0 w w' := by
 match l, h with
 | a :: b :: r, h =>
   obtain ⟨ad, _, rfl, _⟩ := Kd.C_get hC 0 (0 : Int) zz7 zz73
   have h0 := int_cell (i := 0) hC rfl
   rw [add_zero_] at h0
   have h1 := int_cell (i := 1) hC rfl
   rw [add_one_] at h1
   have ha := hA.2 a zz43
   have hb := hA.2 b zz43
   have hlen := hA.1
   have HC0 := Aside0.mk hC
   have HA := Aside0.mk hA
   obtain ⟨n, hn⟩ : ∃ n, (a :: b :: r).length = n := ⟨_, rfl⟩
   rw [hn] at hcap hlen ⊢
   have hn2 : (2 : Int) ≤ (n : Int) := by rw [← hn]; simp; omega
   have y1 : decide ((n : Int) < 2) = false := decide_eq_false zz7
   have hn0 : (0 : Int) < (n : Int) := by omega
   have hn1 : (1 : Int) < (n : Int) := by omega
   have hm0 : 0 < n := by omega
   have hm1 : 1 < n := by omega
   have hm2 : (n : Int) ≤ 1000 := by omega
   unfold oidOk at h
   simp only [Bool.and_eq_true, Bool.or_eq_true, decide_eq_true_eq] at h
   have y2 : decide (2 < a) = false := decide_eq_false zz7
   obtain ⟨m, hm⟩ : ∃ m : Nat, 40 * a + b = (m : Int) := ⟨(40 * a + b).toNat, zz7⟩
   have HM := Aside0.mk (show m = (40 * a + b).toNat ∧ m < 18446744073709551616 by omega)
   have hS := Sp.nil (w := w) (S := None0)
   have HN := Aside0.mk hn
   have hor : (decide (a < 2) = true ∧ decide (39 < b) = false ∧ (a == 2) = false) ∨ (decide (a < 2) = false ∧ (a == 2) = true ∧ decide (18446744073709551535 < b) = false) := by
    by_cases k : a < 2
    ·
     exact .inl ⟨decide_eq_true k, decide_eq_false zz7, beq_eq_false_iff_ne.2 zz7⟩
    ·
     exact .inr ⟨decide_eq_false k, beq_iff_eq.2 zz7, decide_eq_false zz7⟩
   have ha2 : a ≤ 2 := h.1.1
   clear hC hA h hn
   have hw1 : IntKind.u64.wrap (40 * a) = 40 * a := by rw [IntKind.wrap_u64]; omega
   have hw2 : IntKind.u64.wrap (m : Int) = (m : Int) := by have := HM.out.2; rw [IntKind.wrap_u64]; omega
   rcases hor with ⟨y3, y4, y5⟩ | ⟨y3, y4, y5⟩
   all_goals
    go_enter Try.func47, Try.ntmps47
    go_wp2
    clear y1 y2 y3 y4 y5
    go_region_held3 (fun w' => w'.cell? ad = some (.int .u64 a) ∧ w'.cell? ⟨ad.block, ad.off + 1, none⟩ = some (.int .u64 b)) (first | go_keep | exact ⟨k0, k1⟩) (first
     | (go_at_call 71
        (with_reducible refine (ref_number m HM.out.2 _ (hS.ft 0)).mono ?_)
        rintro e w2 ⟨rfl, hq⟩
        have hun : Upd None0 _ _ := Sp.un hq
        replace hS := Sp.toN (by exact hS) hun
        have HC := Aside0.mk (Kd.C_below HC0.out hS.u.below0)
        have k0 := int_cell (i := 0) HC.out rfl
        rw [add_zero_] at k0
        have k1 := int_cell (i := 1) HC.out rfl
        rw [add_one_] at k1))
    clear h0 h1 hw1 hw2 k0 k1 hq hun HC
    obtain ⟨L, hL⟩ : ∃ L, numb m = L := ⟨_, rfl⟩
    rw [hL]
    have HLL := Aside0.mk hL
    have HL11 := Aside0.mk (show L.length ≤ 11 ∧ Bytes L by rw [← hL]; exact ⟨numb_len m HM.out.2, numb_bytes m⟩)
    have HRB := Aside0.mk (show ∀ a, a ∈ r → 0 ≤ a ∧ a < 18446744073709551616 from fun x hx => HA.out.2 x (List.mem_cons_of_mem _ (List.mem_cons_of_mem _ hx)))
    clear hL
    go_wp2
    go_loopg [4, 5] n (fun gk v4 v5 wr => ∃ (i : Nat) (xs : List Int) (x : ByteArray), v4 = .string x ∧ v5 = .int .i64 (i : Int) ∧ Aside0 (2 ≤ i ∧ i ≤ n ∧ n - i ≤ gk ∧ x = strOfNums xs ∧ xs = L ++ tl (r.take (i - 2)) ∧ Bytes xs) ∧ Aside0 (Sp w None0 [] wr))
    case atStart => exact ⟨2, L, _, rfl, rfl, ⟨zz7, zz7, zz7, rfl, by simp [tl], HL11.out.2⟩, ⟨by exact hS.lt⟩⟩
    case round =>
     clear hS
     obtain ⟨i, xs, x, rfl, rfl, HI, HS⟩ := hrel
     have hS := HS.out
     have HC := Aside0.mk (Kd.C_below HC0.out hS.u.below0)
     clear HS
     have hi0 : (0 : Int) ≤ (i : Int) := by omega
     have hi1 : (i : Int) ≤ 1000 := by have := HI.out.2.1; omega
     have hxl : xs.length ≤ 11 + 11 * 1000 := by
      rw [HI.out.2.2.2.2.1, List.length_append]
      have h1 := tl_len (r.take (i - 2)) (fun x hx => HRB.out x (List.mem_of_mem_take hx))
      have h2 := List.length_take_le (i - 2) r
      have := HL11.out.1
      omega
     have hxz : x.size ≤ 20000 := by rw [HI.out.2.2.2.1, nums_size xs HI.out.2.2.2.2.2]; omega
     by_cases hlt : i < n
     ·
      have hd : decide (i < n) = true := decide_eq_true hlt
      have hlti : (i : Int) < (n : Int) := by omega
      have hri : i - 2 < r.length := by have := HN.out; have := HI.out.1; simp at *; omega
      obtain ⟨v, hv⟩ : ∃ v, r[i - 2] = v := ⟨_, rfl⟩
      have hvb := HRB.out v (by rw [← hv]; exact List.getElem_mem hri)
      have hcell := int_cell (i := i) (v := v) HC.out (by
       obtain ⟨j, rfl⟩ : ∃ j, i = j + 2 := ⟨i - 2, by have := HI.out.1; omega⟩
       simp at hri hv ⊢
       rw [List.getElem?_eq_getElem hri, hv])
      obtain ⟨y, hy⟩ : ∃ y : Nat, v = (y : Int) := ⟨v.toNat, zz7⟩
      subst hy
      have HYB := Aside0.mk (show y < 18446744073709551616 by omega)
      have HTK := Aside0.mk (show xs ++ numb y = L ++ tl (r.take (i + 1 - 2)) by
       rw [show i + 1 - 2 = (i - 2) + 1 by have := HI.out.1; omega, List.take_add_one, List.getElem?_eq_getElem hri, hv, Option.toList_some, tl_snoc, HI.out.2.2.2.2.1, List.append_assoc, Int.toNat_natCast])
      have HLT := Aside0.mk hlt
      obtain ⟨s1, hs1⟩ : ∃ s1, strOfNums (numb y) = s1 := ⟨_, rfl⟩
      have hs1z : s1.size ≤ 11 := by rw [← hs1, nums_size _ (numb_bytes y)]; exact numb_len y HYB.out
      have HX := Aside0.mk (show x ++ s1 = strOfNums (xs ++ numb y) by rw [← hs1, HI.out.2.2.2.1, nums_app _ _ HI.out.2.2.2.2.2 (numb_bytes y)])
      have HNB := Aside0.mk (ref_number y HYB.out)
      rw [hs1] at HNB
      have hcat : ¬ 9223372036854775807 < x.size + s1.size := by omega
      have hcat2 : x.size + s1.size ≤ 9223372036854775807 := by omega
      clear hlt hri hv hvb hs1 hxl
      go_wp2_with (first
       | (go_at_call 71
          (with_reducible refine (HNB.out _ (hS.ft 0)).mono ?_)
          rintro e w3 ⟨rfl, hq⟩
          have hun : Upd None0 _ _ := Sp.un hq
          replace hS := Sp.toN (by exact hS) hun))
      go_roundg (gk - 1)
      case measure => have := HI.out; have := HLT.out; omega
      case rel => exact ⟨i + 1, xs ++ numb y, _, rfl, zz43, ⟨by have := HI.out.1; omega, HLT.out, by have := HI.out; omega, HX.out, HTK.out, fun z hz => (List.mem_append.1 hz).elim (HI.out.2.2.2.2.2 z) (numb_bytes y z)⟩, ⟨by exact hS.lt⟩⟩
     ·
      have hd : decide (i < n) = false := decide_eq_false hlt
      have HX := Aside0.mk (show x = strOfNums (oidc (a :: b :: r)) by
       rw [HI.out.2.2.2.1, HI.out.2.2.2.2.1, List.take_of_length_le (by have := HN.out; have := HI.out.2.1; simp at *; omega), ← HLL.out, HM.out.1]; rfl)
      go_wp2
      go_ret2
      exact ⟨by rw [← HX.out]; rfl, hS.lt.u⟩
end Go.Proofs.Ytgddaddoabjgiaa.Oid
namespace Go.Proofs.Ytgddaddoabjgiaa.Kn
open RowKit YtgddaddoabjgiaaW.PrintWords YtgddaddoabjgiaaW.PrintLast YtgddaddoabjgiaaW.PrintMore
set_option linter.unusedVariables false
structure S51 where
 f0 : (List Int)
 f1 : Bool
 f2 : ByteArray
def z51 : S51 := ⟨([] : List Int), false, (⟨#[]⟩ : ByteArray)⟩
def k51 : Kd S51 := Kd.iso (Kd.pair (Kd.slice 49 (Kd.int .u64)) (Kd.pair Kd.bool Kd.string)) (fun x : S51 => (x.f0, x.f1, x.f2))
theorem k51_open {w : World} {x : S51} {cs : List Value} (h : k51.K w x cs) : ∃ A0 c0, cs = [.slice A0 x.f0.length c0, .bool x.f1, .string x.f2] ∧ x.f0.length ≤ c0 ∧ (Kd.int .u64).C w A0 x.f0.length x.f0 := by
 obtain ⟨_, _, rfl, ⟨A0, c0, rfl, l0, g0⟩, ⟨_, _, rfl, rfl, rfl⟩⟩ := h
 exact ⟨A0, c0, rfl, l0, g0⟩
theorem k51_mk (w : World) (x : S51) {A0 : Option Addr} {c0 : Nat} (l0 : x.f0.length ≤ c0) (g0 : (Kd.int .u64).C w A0 x.f0.length x.f0) : k51.K w x [.slice A0 x.f0.length c0, .bool x.f1, .string x.f2] := ⟨[.slice A0 x.f0.length c0], [.bool x.f1, .string x.f2], rfl, ⟨A0, c0, rfl, l0, g0⟩, ⟨[.bool x.f1], [.string x.f2], rfl, rfl, rfl⟩⟩
def rd_T51 (xs : List S51) (i : Int) : S51 := xs.getD i.toNat z51
theorem at_T51 {w : World} {A : Option Addr} {n : Nat} {xs : List S51} (h : Kd.C k51 w A n xs) (i : Int) (h0 : 0 ≤ i) (h1 : i < n) : ∃ ad A0 c0, A = some ad ∧ w.cell? (ad.add (i.toNat * 3)) = some (.slice A0 (rd_T51 xs i).f0.length c0) ∧ w.cell? ⟨(ad.add (i.toNat * 3)).block, (ad.add (i.toNat * 3)).off + 1, none⟩ = some (.bool (rd_T51 xs i).f1) ∧ w.cell? ⟨(ad.add (i.toNat * 3)).block, (ad.add (i.toNat * 3)).off + 2, none⟩ = some (.string (rd_T51 xs i).f2) ∧ (rd_T51 xs i).f0.length ≤ c0 ∧ (Kd.int .u64).C w A0 (rd_T51 xs i).f0.length (rd_T51 xs i).f0 := by
 obtain ⟨ad, c, e, _, hK, hc0⟩ := Kd.C_get h z51 i h0 h1
 have hc : ∀ j u, c[j]? = some u → w.cell? (ad.add (i.toNat * 3 + j)) = some u := hc0
 obtain ⟨A0, c0, rfl, l0, g0⟩ := k51_open hK
 exact ⟨ad, A0, c0, e, hc 0 _ rfl, by rw [← add_field _ _ 1 zz7]; exact hc 1 _ rfl, by rw [← add_field _ _ 2 zz7]; exact hc 2 _ rfl, l0, g0⟩
structure S47 where
 f0 : (List Int)
 f1 : Int
 f2 : ByteArray
def z47 : S47 := ⟨([] : List Int), (0 : Int), (⟨#[]⟩ : ByteArray)⟩
def k47 : Kd S47 := Kd.iso (Kd.pair (Kd.slice 49 (Kd.int .u64)) (Kd.pair (Kd.int .i64) Kd.string)) (fun x : S47 => (x.f0, x.f1, x.f2))
theorem k47_open {w : World} {x : S47} {cs : List Value} (h : k47.K w x cs) : ∃ A0 c0, cs = [.slice A0 x.f0.length c0, .int .i64 x.f1, .string x.f2] ∧ x.f0.length ≤ c0 ∧ (Kd.int .u64).C w A0 x.f0.length x.f0 := by
 obtain ⟨_, _, rfl, ⟨A0, c0, rfl, l0, g0⟩, ⟨_, _, rfl, rfl, rfl⟩⟩ := h
 exact ⟨A0, c0, rfl, l0, g0⟩
theorem k47_mk (w : World) (x : S47) {A0 : Option Addr} {c0 : Nat} (l0 : x.f0.length ≤ c0) (g0 : (Kd.int .u64).C w A0 x.f0.length x.f0) : k47.K w x [.slice A0 x.f0.length c0, .int .i64 x.f1, .string x.f2] := ⟨[.slice A0 x.f0.length c0], [.int .i64 x.f1, .string x.f2], rfl, ⟨A0, c0, rfl, l0, g0⟩, ⟨[.int .i64 x.f1], [.string x.f2], rfl, rfl, rfl⟩⟩
def rd_T47 (xs : List S47) (i : Int) : S47 := xs.getD i.toNat z47
theorem at_T47 {w : World} {A : Option Addr} {n : Nat} {xs : List S47} (h : Kd.C k47 w A n xs) (i : Int) (h0 : 0 ≤ i) (h1 : i < n) : ∃ ad A0 c0, A = some ad ∧ w.cell? (ad.add (i.toNat * 3)) = some (.slice A0 (rd_T47 xs i).f0.length c0) ∧ w.cell? ⟨(ad.add (i.toNat * 3)).block, (ad.add (i.toNat * 3)).off + 1, none⟩ = some (.int .i64 (rd_T47 xs i).f1) ∧ w.cell? ⟨(ad.add (i.toNat * 3)).block, (ad.add (i.toNat * 3)).off + 2, none⟩ = some (.string (rd_T47 xs i).f2) ∧ (rd_T47 xs i).f0.length ≤ c0 ∧ (Kd.int .u64).C w A0 (rd_T47 xs i).f0.length (rd_T47 xs i).f0 := by
 obtain ⟨ad, c, e, _, hK, hc0⟩ := Kd.C_get h z47 i h0 h1
 have hc : ∀ j u, c[j]? = some u → w.cell? (ad.add (i.toNat * 3 + j)) = some u := hc0
 obtain ⟨A0, c0, rfl, l0, g0⟩ := k47_open hK
 exact ⟨ad, A0, c0, e, hc 0 _ rfl, by rw [← add_field _ _ 1 zz7]; exact hc 1 _ rfl, by rw [← add_field _ _ 2 zz7]; exact hc 2 _ rfl, l0, g0⟩
def rd_L7 (xs : List (List S47)) (i : Int) : (List S47) := xs.getD i.toNat ([] : List S47)
theorem at_L7 {w : World} {A : Option Addr} {n : Nat} {xs : List (List S47)} (h : Kd.C (Kd.slice 47 k47) w A n xs) (i : Int) (h0 : 0 ≤ i) (h1 : i < n) : ∃ ad A0 c0, A = some ad ∧ w.cell? (ad.add i.toNat) = some (.slice A0 (rd_L7 xs i).length c0) ∧ (rd_L7 xs i).length ≤ c0 ∧ k47.C w A0 (rd_L7 xs i).length (rd_L7 xs i) := by
 obtain ⟨ad, c, e, _, hK, hc0⟩ := Kd.C_get h ([] : List S47) i h0 h1
 have hc : ∀ j u, c[j]? = some u → w.cell? (ad.add (i.toNat * 1 + j)) = some u := hc0
 obtain ⟨A0, c0, rfl, l0, g0⟩ := hK
 exact ⟨ad, A0, c0, e, by have hq := hc 0 _ rfl; rwa [Nat.mul_one, Nat.add_zero] at hq, l0, g0⟩
structure S34 where
 f0 : ByteArray
 f1 : ByteArray
 f2 : (List S51)
def z34 : S34 := ⟨(⟨#[]⟩ : ByteArray), (⟨#[]⟩ : ByteArray), ([] : List S51)⟩
def k34 : Kd S34 := Kd.iso (Kd.pair Kd.string (Kd.pair Kd.string (Kd.slice 51 k51))) (fun x : S34 => (x.f0, x.f1, x.f2))
theorem k34_open {w : World} {x : S34} {cs : List Value} (h : k34.K w x cs) : ∃ A2 c2, cs = [.string x.f0, .string x.f1, .slice A2 x.f2.length c2] ∧ x.f2.length ≤ c2 ∧ k51.C w A2 x.f2.length x.f2 := by
 obtain ⟨_, _, rfl, rfl, ⟨_, _, rfl, rfl, ⟨A2, c2, rfl, l2, g2⟩⟩⟩ := h
 exact ⟨A2, c2, rfl, l2, g2⟩
def rd_T34 (xs : List S34) (i : Int) : S34 := xs.getD i.toNat z34
theorem at_T34 {w : World} {A : Option Addr} {n : Nat} {xs : List S34} (h : Kd.C k34 w A n xs) (i : Int) (h0 : 0 ≤ i) (h1 : i < n) : ∃ ad A2 c2, A = some ad ∧ w.cell? (ad.add (i.toNat * 3)) = some (.string (rd_T34 xs i).f0) ∧ w.cell? ⟨(ad.add (i.toNat * 3)).block, (ad.add (i.toNat * 3)).off + 1, none⟩ = some (.string (rd_T34 xs i).f1) ∧ w.cell? ⟨(ad.add (i.toNat * 3)).block, (ad.add (i.toNat * 3)).off + 2, none⟩ = some (.slice A2 (rd_T34 xs i).f2.length c2) ∧ (rd_T34 xs i).f2.length ≤ c2 ∧ k51.C w A2 (rd_T34 xs i).f2.length (rd_T34 xs i).f2 := by
 obtain ⟨ad, c, e, _, hK, hc0⟩ := Kd.C_get h z34 i h0 h1
 have hc : ∀ j u, c[j]? = some u → w.cell? (ad.add (i.toNat * 3 + j)) = some u := hc0
 obtain ⟨A2, c2, rfl, l2, g2⟩ := k34_open hK
 exact ⟨ad, A2, c2, e, hc 0 _ rfl, by rw [← add_field _ _ 1 zz7]; exact hc 1 _ rfl, by rw [← add_field _ _ 2 zz7]; exact hc 2 _ rfl, l2, g2⟩
end Go.Proofs.Ytgddaddoabjgiaa.Kn
namespace Go.Proofs.Ytgddaddoabjgiaa.Tx
def Bytes (l : List Int) : Prop := ∀ b, b ∈ l → 0 ≤ b ∧ b < 256
theorem Bytes.drop {l : List Int} (h : Bytes l) (n : Nat) : Bytes (l.drop n) := fun b hb => h b (List.mem_of_mem_drop hb)
def first (b : Int) : Option (Int × Int × Int) :=
 if b < 128 then some (0, 128, 191)
 else if b < 194 ∨ b > 244 then none
 else if b < 224 then some (1, 128, 191)
 else if b = 224 then some (2, 160, 191)
 else if b = 237 then some (2, 128, 159)
 else if b < 240 then some (2, 128, 191)
 else if b = 240 then some (3, 144, 191)
 else if b = 244 then some (3, 128, 143)
 else some (3, 128, 191)
abbrev St := Int × Int × Int × Int
def u8 (s : St) (b : Int) : Option St :=
 if s.2.1 > 0 then (if b < s.2.2.1 ∨ b > s.2.2.2 then none else some (s.1 - 1, s.2.1 - 1, 128, 191))
 else match first b with
  | none => none
  | some (m, lo, hi) => if m > s.1 - 1 then none else some (s.1 - 1, m, lo, hi)
def printable (b : Int) : Bool :=
 decide (65 ≤ b ∧ b ≤ 90) || decide (97 ≤ b ∧ b ≤ 122) || decide (48 ≤ b ∧ b ≤ 57) || b == 32 || b == 39 || b == 40 || b == 41 || b == 43 || b == 44 || b == 45 || b == 46 || b == 47 || b == 58 || b == 61 || b == 63
def plain (tag b : Int) : Bool := if tag = 22 then decide (b < 128) else if tag = 19 then printable b else true
def stp (tag : Int) (s : St) (b : Int) : Option St :=
 if tag = 12 then u8 s b else if plain tag b = true then some (s.1 - 1, s.2.1, s.2.2.1, s.2.2.2) else none
def run (tag : Int) : St → List Int → Option St
 | s, [] => some s
 | s, b :: r => match stp tag s b with
   | none => none
   | some s' => run tag s' r
theorem run_append (tag : Int) (a b : List Int) : ∀ s, run tag s (a ++ b) = (run tag s a).bind fun s' => run tag s' b := by
 induction a with
 | nil => intro s; rfl
 | cons x a ih =>
   intro s
   simp only [List.cons_append, run]
   cases stp tag s x with
   | none => rfl
   | some s' => exact ih s'
def cont (b : Int) : Bool := decide (128 ≤ b) && decide (b ≤ 191)
def ch2 (a b : Int) : Bool := cont b && decide (128 ≤ 64 * (a - 192) + b - 128)
def ch3 (a b c : Int) : Bool := cont b && cont c && decide (2048 ≤ 64 * (64 * (a - 224) + b - 128) + c - 128) && !(decide (55296 ≤ 64 * (64 * (a - 224) + b - 128) + c - 128) && decide (64 * (64 * (a - 224) + b - 128) + c - 128 ≤ 57343))
def ch4 (a b c d : Int) : Bool := cont b && cont c && cont d && decide (65536 ≤ 64 * (64 * (64 * (a - 240) + b - 128) + c - 128) + d - 128) && decide (64 * (64 * (64 * (a - 240) + b - 128) + c - 128) + d - 128 ≤ 1114111)
def chr : List Int → Nat
 | [] => 0
 | a :: r =>
   if a < 128 then 1
   else if 192 ≤ a ∧ a < 224 then (match r with
    | b :: _ => if ch2 a b = true then 2 else 0
    | _ => 0)
   else if 224 ≤ a ∧ a < 240 then (match r with
    | b :: c :: _ => if ch3 a b c = true then 3 else 0
    | _ => 0)
   else if 240 ≤ a ∧ a < 248 then (match r with
    | b :: c :: d :: _ => if ch4 a b c d = true then 4 else 0
    | _ => 0)
   else 0
theorem chr_le (l : List Int) : chr l ≤ l.length ∧ chr l ≤ 4 := by
 unfold chr
 cases l with
 | nil => simp
 | cons a r =>
   simp only
   split
   ·
    simp
   split
   ·
    cases r with
    | nil => simp
    | cons b r => simp only; split <;> simp
   split
   ·
    cases r with
    | nil => simp
    | cons b r =>
      cases r with
      | nil => simp
      | cons c r => simp only; split <;> simp
   split
   ·
    cases r with
    | nil => simp
    | cons b r =>
      cases r with
      | nil => simp
      | cons c r =>
        cases r with
        | nil => simp
        | cons d r => simp only; split <;> simp
   ·
    simp
def lst : Nat → List Int → Nat
 | 0, _ => 0
 | n + 1, l => if chr l = 0 then 0 else chr l + lst n (l.drop (chr l))
def valid : Nat → List Int → Bool
 | 0, l => l.isEmpty
 | n + 1, l => if l.isEmpty = true then true else if chr l = 0 then false else valid n (l.drop (chr l))
theorem valid_more : ∀ (n m : Nat) (l : List Int), l.length ≤ n → l.length ≤ m → valid n l = valid m l := by
 intro n
 induction n with
 | zero =>
   intro m l h _
   obtain rfl : l = [] := List.eq_nil_of_length_eq_zero zz7
   cases m with
   | zero => rfl
   | succ m => rfl
 | succ n ih =>
   intro m l h1 h2
   cases m with
   | zero =>
     obtain rfl : l = [] := List.eq_nil_of_length_eq_zero zz7
     rfl
   | succ m =>
     simp only [valid]
     split
     ·
      rfl
     split
     ·
      rfl
     ·
      rename_i hc
      have := chr_le l
      rw [ih m (l.drop (chr l)) (by rw [List.length_drop]; omega) (by rw [List.length_drop]; omega)]
def rep (k : Nat) (b : Int) : List Int := List.replicate k b
def ends (t : List Int) (k : Nat) : Bool := chr (t ++ rep k 128) == t.length + k || chr (t ++ rep k 191) == t.length + k
def fill (left : Int) (t : List Int) : Bool :=
 decide (1 ≤ left) && (ends t 1 || decide (2 ≤ left) && (ends t 2 || decide (3 ≤ left) && ends t 3))
def canU (n : Int) (l : List Int) : Bool :=
 if l.length - lst l.length l > 3 then false
 else if lst l.length l = l.length then true
 else fill (n - l.length) (l.drop (lst l.length l))
theorem first_hi (b : Int) (h : 128 ≤ b) : first b = if b < 194 ∨ b > 244 then none
 else if b < 224 then some (1, 128, 191)
 else if b = 224 then some (2, 160, 191)
 else if b = 237 then some (2, 128, 159)
 else if b < 240 then some (2, 128, 191)
 else if b = 240 then some (3, 144, 191)
 else if b = 244 then some (3, 128, 143)
 else some (3, 128, 191) := by
 unfold first
 rw [if_neg zz7]
theorem run12 (s : St) (b : Int) (r : List Int) : run 12 s (b :: r) = match u8 s b with
 | none => none
 | some s' => run 12 s' r := rfl
theorem u8_in (l m lo hi b : Int) (h : 0 < m) : u8 (l, m, lo, hi) b = if b < lo ∨ b > hi then none else some (l - 1, m - 1, 128, 191) := by
 unfold u8; rw [if_pos h]
theorem u8_new (l lo hi b : Int) : u8 (l, 0, lo, hi) b = match first b with
 | none => none
 | some (m, lo, hi) => if m > l - 1 then none else some (l - 1, m, lo, hi) := by
 unfold u8; rw [if_neg zz43]
theorem run_chr (N lo hi : Int) (l : List Int) (hb : Bytes l) (hN : (l.length : Int) ≤ N) (hc : chr l ≠ 0) :
 run 12 (N, 0, lo, hi) l = run 12 (N - chr l, 0, 128, 191) (l.drop (chr l)) := by
 cases l with
 | nil => exact absurd rfl hc
 | cons a r =>
   have ha := hb a zz43
   simp only [List.length_cons] at hN
   rw [run12, u8_new]
   by_cases h1 : a < 128
   ·
    have e : chr (a :: r) = 1 := by simp only [chr]; rw [if_pos h1]
    rw [e]
    have f : first a = some (0, 128, 191) := by unfold first; rw [if_pos h1]
    rw [f]
    simp only
    rw [if_neg zz7]
    simp
   rw [first_hi a zz7]
   by_cases h2 : a < 224
   ·
    cases r with
    | nil => exact absurd (by simp [chr, h1]) hc
    | cons b r =>
      have e : chr (a :: b :: r) = if 192 ≤ a ∧ ch2 a b = true then 2 else 0 := by
       simp only [chr]
       rw [if_neg h1]
       by_cases h : 192 ≤ a
       ·
        rw [if_pos ⟨h, h2⟩]; simp [h]
       ·
        rw [if_neg zz7, if_neg zz7, if_neg zz7, if_neg zz7]
      rw [e] at hc ⊢
      by_cases hq : 192 ≤ a ∧ ch2 a b = true
      ·
       obtain ⟨g1, g2⟩ := hq
       simp only [ch2, cont, Bool.and_eq_true, decide_eq_true_eq] at g2
       rw [if_pos (show 192 ≤ a ∧ ch2 a b = true from ⟨g1, by simp [ch2, cont]; omega⟩), if_neg zz7, if_pos h2]
       simp only [List.length_cons] at hN
       simp only
       rw [if_neg zz7]
       simp only
       rw [run12, u8_in _ _ _ _ _ zz13, if_neg zz7]
       simp only [List.drop_succ_cons, List.drop_zero]
       rw [show N - 1 - 1 = N - ((2 : Nat) : Int) by omega]; rfl
      ·
       rw [if_neg hq] at hc; exact absurd rfl hc
   by_cases h3 : a < 240
   ·
    cases r with
    | nil => exact absurd (by simp only [chr]; rw [if_neg h1, if_neg zz7, if_pos zz7]) hc
    | cons b r =>
      cases r with
      | nil => exact absurd (by simp only [chr]; rw [if_neg h1, if_neg zz7, if_pos zz7]) hc
      | cons c r =>
        have e : chr (a :: b :: c :: r) = if ch3 a b c = true then 3 else 0 := by
         simp only [chr]; rw [if_neg h1, if_neg zz7, if_pos zz7]
        rw [e] at hc ⊢
        by_cases hq : ch3 a b c = true
        ·
         rw [if_pos hq]
         simp only [ch3, cont, Bool.and_eq_true, decide_eq_true_eq, Bool.not_eq_true', Bool.and_eq_false_iff, decide_eq_false_iff_not] at hq
         simp only [List.length_cons] at hN
         rw [if_neg zz7, if_neg h2]
         have fin : ∀ lo' hi' : Int, lo' ≤ b → b ≤ hi' → (match (if (2 : Int) > N - 1 then none else some (N - 1, (2 : Int), lo', hi') : Option St) with
          | none => none
          | some s' => run 12 s' (b :: c :: r)) = run 12 (N - ((3 : Nat) : Int), 0, 128, 191) (List.drop 3 (a :: b :: c :: r)) := by
          intro lo' hi' g1 g2
          rw [if_neg zz7]
          simp only
          rw [run12, u8_in _ _ _ _ _ zz13, if_neg zz7]
          simp only
          rw [run12, u8_in _ _ _ _ _ zz13, if_neg zz7]
          simp only [List.drop_succ_cons, List.drop_zero]
          rw [show N - 1 - 1 - 1 = N - ((3 : Nat) : Int) by omega]; rfl
         by_cases g1 : a = 224
         ·
          rw [if_pos g1]; exact fin _ _ zz7 zz7
         by_cases g2 : a = 237
         ·
          rw [if_neg g1, if_pos g2]; exact fin _ _ zz7 zz7
         ·
          rw [if_neg g1, if_neg g2, if_pos h3]; exact fin _ _ zz7 zz7
        ·
         rw [if_neg hq] at hc; exact absurd rfl hc
   ·
    by_cases h4 : a < 248
    ·
     cases r with
     | nil => exact absurd (by simp only [chr]; rw [if_neg h1, if_neg zz7, if_neg zz7, if_pos zz7]) hc
     | cons b r =>
       cases r with
       | nil => exact absurd (by simp only [chr]; rw [if_neg h1, if_neg zz7, if_neg zz7, if_pos zz7]) hc
       | cons c r =>
         cases r with
         | nil => exact absurd (by simp only [chr]; rw [if_neg h1, if_neg zz7, if_neg zz7, if_pos zz7]) hc
         | cons d r =>
           have e : chr (a :: b :: c :: d :: r) = if ch4 a b c d = true then 4 else 0 := by
            simp only [chr]; rw [if_neg h1, if_neg zz7, if_neg zz7, if_pos zz7]
           rw [e] at hc ⊢
           by_cases hq : ch4 a b c d = true
           ·
            rw [if_pos hq]
            simp only [ch4, cont, Bool.and_eq_true, decide_eq_true_eq] at hq
            simp only [List.length_cons] at hN
            have fin : ∀ lo' hi' : Int, lo' ≤ b → b ≤ hi' → (match (if (3 : Int) > N - 1 then none else some (N - 1, (3 : Int), lo', hi') : Option St) with
             | none => none
             | some s' => run 12 s' (b :: c :: d :: r)) = run 12 (N - ((4 : Nat) : Int), 0, 128, 191) (List.drop 4 (a :: b :: c :: d :: r)) := by
             intro lo' hi' g1 g2
             rw [if_neg zz7]
             simp only
             rw [run12, u8_in _ _ _ _ _ zz13, if_neg zz7]
             simp only
             rw [run12, u8_in _ _ _ _ _ zz13, if_neg zz7]
             simp only
             rw [run12, u8_in _ _ _ _ _ zz13, if_neg zz7]
             simp only [List.drop_succ_cons, List.drop_zero]
             rw [show N - 1 - 1 - 1 - 1 = N - ((4 : Nat) : Int) by omega]; rfl
            rw [if_neg zz7, if_neg h2, if_neg zz7, if_neg zz7, if_neg h3]
            by_cases g1 : a = 240
            ·
             rw [if_pos g1]; exact fin _ _ zz7 zz7
            by_cases g2 : a = 244
            ·
             rw [if_neg g1, if_pos g2]; exact fin _ _ zz7 zz7
            ·
             rw [if_neg g1, if_neg g2]; exact fin _ _ zz7 zz7
           ·
            rw [if_neg hq] at hc; exact absurd rfl hc
    ·
     exact absurd (by simp only [chr]; rw [if_neg h1, if_neg zz7, if_neg zz7, if_neg zz7]) hc
end Go.Proofs.Ytgddaddoabjgiaa.Tx
namespace Go.Proofs.Ytgddaddoabjgiaa.Tx
theorem rep1 (b : Int) : rep 1 b = [b] := rfl
theorem rep2 (b : Int) : rep 2 b = [b, b] := rfl
theorem rep3 (b : Int) : rep 3 b = [b, b, b] := rfl
theorem run_part (N lo hi : Int) (l : List Int) (hb : Bytes l) (hN : (l.length : Int) ≤ N) (h0 : l ≠ []) (hc : chr l = 0) :
 (run 12 (N, 0, lo, hi) l).isSome = (decide (l.length ≤ 3) && fill (N - l.length) l) := by
 cases l with
 | nil => exact absurd rfl h0
 | cons a r =>
   have ha := hb a zz43
   simp only [List.length_cons] at hN
   have h1 : ¬ a < 128 := by intro h; simp only [chr] at hc; rw [if_pos h] at hc; cases hc
   rw [run12, u8_new, first_hi a zz7]
   have none_ : (a < 194 ∨ a > 244) → fill (N - ((a :: r).length : Int)) (a :: r) = false := by
    intro h
    have e : ∀ (k : Nat) (b : Int), (b = 128 ∨ b = 191) → (k = 1 ∨ k = 2 ∨ k = 3) → (chr (a :: r ++ rep k b) == (a :: r).length + k) = false := by
     intro k b hb' hk
     rw [beq_eq_false_iff_ne]
     have hs := chr_le (a :: r ++ rep k b)
     have : chr (a :: r ++ rep k b) = 0 := by
      simp only [List.cons_append, chr]
      rw [if_neg h1]
      have hbb : ∀ x, x ∈ r ++ rep k b → 0 ≤ x ∧ x < 256 := by
       intro x hx
       rcases List.mem_append.1 hx with hx | hx
       ·
        exact hb x (by simp [hx])
       ·
        have := List.eq_of_mem_replicate hx; omega
      split
      ·
       rename_i g
       split
       ·
        rename_i b' r' heq
        rw [if_neg]
        simp only [ch2, cont, Bool.and_eq_true, decide_eq_true_eq]
        omega
       ·
        rfl
      split
      ·
       omega
      split
      ·
       split
       ·
        rename_i b' c' d' r' heq
        rw [if_neg]
        simp only [ch4, cont, Bool.and_eq_true, decide_eq_true_eq]
        omega
       ·
        rfl
      ·
       rfl
     rw [this]; simp; omega
    simp only [fill, ends]
    rw [e 1 128 (.inl rfl) (.inl rfl), e 1 191 (.inr rfl) (.inl rfl), e 2 128 (.inl rfl) (.inr (.inl rfl)), e 2 191 (.inr rfl) (.inr (.inl rfl)), e 3 128 (.inl rfl) (.inr (.inr rfl)), e 3 191 (.inr rfl) (.inr (.inr rfl))]
    simp
   by_cases hf : a < 194 ∨ a > 244
   ·
    rw [if_pos hf, none_ hf]; simp
   rw [if_neg hf]
   by_cases h2 : a < 224
   ·
    rw [if_pos h2]
    simp only
    cases r with
    | nil =>
      simp only [List.length_nil] at hN
      have e1 : chr ([a] ++ rep 1 128) = 2 := by
       simp only [rep1, List.cons_append, List.nil_append, chr]
       rw [if_neg h1, if_pos zz7, if_pos (by simp [ch2, cont]; omega)]
      have e2 : ∀ b, (b = 128 ∨ b = 191) → chr ([a] ++ rep 2 b) = 2 := by
       intro b hb'
       simp only [rep2, List.cons_append, List.nil_append, chr]
       rw [if_neg h1, if_pos zz7, if_pos (by simp [ch2, cont]; omega)]
      have e3 : ∀ b, (b = 128 ∨ b = 191) → chr ([a] ++ rep 3 b) = 2 := by
       intro b hb'
       simp only [rep3, List.cons_append, List.nil_append, chr]
       rw [if_neg h1, if_pos zz7, if_pos (by simp [ch2, cont]; omega)]
      simp only [fill, ends]
      rw [e1, e2 128 (.inl rfl), e2 191 (.inr rfl), e3 128 (.inl rfl), e3 191 (.inr rfl)]
      by_cases hl : (1 : Int) > N - 1
      ·
       rw [if_pos hl]; simp; omega
      ·
       rw [if_neg hl]; simp [run]; omega
    | cons b r =>
      have hnc : ch2 a b = false := by
       simp only [chr] at hc
       rw [if_neg h1, if_pos zz7] at hc
       cases h : ch2 a b with
       | false => rfl
       | true => rw [h] at hc; simp at hc
      have hbad : b < 128 ∨ b > 191 := by
       simp only [ch2, cont, Bool.and_eq_false_iff, decide_eq_false_iff_not] at hnc
       omega
      have e : ∀ (k : Nat) (x : Int), chr (a :: b :: r ++ rep k x) = 0 := by
       intro k x
       simp only [List.cons_append, chr]
       rw [if_neg h1, if_pos zz7, hnc]; rfl
      simp only [fill, ends]
      rw [e, e, e, e, e, e]
      simp only [List.length_cons] at hN ⊢
      rw [if_neg zz7]
      simp only
      rw [run12, u8_in _ _ _ _ _ zz13, if_pos hbad]
      simp
   by_cases h3 : a < 240
   ·
    have mid : ∀ lo' hi' : Int, (∀ x, (lo' ≤ x ∧ x ≤ hi') ↔ (128 ≤ x ∧ x ≤ 191 ∧ (a = 224 → 160 ≤ x) ∧ (a = 237 → x ≤ 159))) →
     ((match (if (2 : Int) > N - 1 then none else some (N - 1, (2 : Int), lo', hi') : Option St) with
       | none => none
       | some s' => run 12 s' r) : Option St).isSome = (decide ((a :: r).length ≤ 3) && fill (N - ((a :: r).length : Int)) (a :: r)) := by
     intro lo' hi' hlh
     have c3 : ∀ (b c : Int), ch3 a b c = (decide (lo' ≤ b ∧ b ≤ hi') && cont c) := by
      intro b c
      have := hlh b
      rw [Bool.eq_iff_iff]
      simp only [ch3, cont, Bool.and_eq_true, decide_eq_true_eq, Bool.not_eq_true', Bool.and_eq_false_iff, decide_eq_false_iff_not, this]
      omega
     have chr3 : ∀ (b c : Int) (t : List Int), chr (a :: b :: c :: t) = if ch3 a b c = true then 3 else 0 := by
      intro b c t
      simp only [chr]
      rw [if_neg h1, if_neg zz7, if_pos zz7]
     have w128 : cont 128 = true := by decide
     have w191 : cont 191 = true := by decide
     cases r with
     | nil =>
       simp only [List.length_nil] at hN
       have e1 : ∀ x, chr ([a] ++ rep 1 x) = 0 := by
        intro x
        simp only [rep1, List.cons_append, List.nil_append, chr]
        rw [if_neg h1, if_neg zz7, if_pos zz7]
       have p1 : ∀ x, [a] ++ rep 2 x = [a, x, x] := fun x => rfl
       have p2 : ∀ x, [a] ++ rep 3 x = [a, x, x, x] := fun x => rfl
       have q : (chr [a, 128, 128] == 3 || chr [a, 191, 191] == 3) = true := by
        rw [chr3, chr3, c3, c3, w128, w191]
        by_cases h : a = 224
        ·
         have : decide (lo' ≤ 191 ∧ 191 ≤ hi') = true := by rw [decide_eq_true_eq, hlh]; omega
         rw [this]; simp
        ·
         have : decide (lo' ≤ 128 ∧ 128 ≤ hi') = true := by rw [decide_eq_true_eq, hlh]; omega
         rw [this]; simp
       simp only [fill, ends]
       rw [e1, e1, p1, p1, p2, p2, chr3, chr3, chr3, chr3]
       rw [chr3, chr3] at q
       by_cases hl : (2 : Int) > N - 1
       ·
        rw [if_pos hl]
        simp only [List.length_cons, List.length_nil]
        have : decide ((2 : Int) ≤ N - ((0 + 1 : Nat) : Int)) = false := by simp; omega
        rw [this]; simp
       ·
        rw [if_neg hl]
        simp only [List.length_cons, List.length_nil, run, Option.isSome_some]
        have t1 : decide ((1 : Int) ≤ N - ((0 + 1 : Nat) : Int)) = true := by simp; omega
        have t2 : decide ((2 : Int) ≤ N - ((0 + 1 : Nat) : Int)) = true := by simp; omega
        rw [t1, t2, show 0 + 1 + 2 = 3 from rfl, q]; simp
     | cons b r =>
       simp only [List.length_cons] at hN
       by_cases hl : (2 : Int) > N - 1
       ·
        rw [if_pos hl]
        simp only [Option.isSome_none, fill, List.length_cons]
        have : decide ((1 : Int) ≤ N - ((r.length + 1 + 1 : Nat) : Int)) = false := by simp; omega
        rw [this]; simp
       rw [if_neg hl]
       simp only
       rw [run12, u8_in _ _ _ _ _ zz13]
       by_cases hbb : lo' ≤ b ∧ b ≤ hi'
       ·
        rw [if_neg zz7]
        simp only
        cases r with
        | nil =>
          simp only [List.length_nil] at hN
          have p1 : ∀ x, [a, b] ++ rep 1 x = [a, b, x] := fun x => rfl
          have p2 : ∀ x, [a, b] ++ rep 2 x = [a, b, x, x] := fun x => rfl
          have p3 : ∀ x, [a, b] ++ rep 3 x = [a, b, x, x, x] := fun x => rfl
          have d1 : decide (lo' ≤ b ∧ b ≤ hi') = true := by simpa using hbb
          simp only [fill, ends]
          rw [p1, p1, p2, p2, p3, p3, chr3, chr3, chr3, chr3, chr3, chr3, c3, c3, w128, w191, d1]
          simp only [run, Option.isSome_some, List.length_cons, List.length_nil]
          simp
          omega
        | cons c r =>
          have hnc : cont c = false := by
           rw [chr3, c3] at hc
           have d1 : decide (lo' ≤ b ∧ b ≤ hi') = true := by simpa using hbb
           rw [d1] at hc
           cases h : cont c with
           | false => rfl
           | true => rw [h] at hc; simp at hc
          have e : ∀ (k : Nat) (x : Int), chr (a :: b :: c :: r ++ rep k x) = 0 := by
           intro k x
           simp only [List.cons_append]
           rw [chr3, c3, hnc]; simp
          simp only [fill, ends]
          rw [e, e, e, e, e, e, run12, u8_in _ _ _ _ _ zz13]
          simp only [cont, Bool.and_eq_false_iff, decide_eq_false_iff_not] at hnc
          rw [if_pos zz7]
          simp
       ·
        rw [if_pos zz7]
        have d1 : decide (lo' ≤ b ∧ b ≤ hi') = false := by simpa using hbb
        have e : ∀ (k : Nat) (x : Int), 1 ≤ k → chr (a :: b :: r ++ rep k x) = 0 := by
         intro k x hk
         cases r with
         | nil =>
           obtain ⟨j, rfl⟩ : ∃ j, k = j + 1 := ⟨k - 1, zz7⟩
           have : [a, b] ++ rep (j + 1) x = a :: b :: x :: rep j x := rfl
           rw [this, chr3, c3, d1]; simp
         | cons c r =>
           simp only [List.cons_append]
           rw [chr3, c3, d1]; simp
        simp only [fill, ends]
        rw [e _ _ zz13, e _ _ zz13, e _ _ zz13, e _ _ zz13, e _ _ zz13, e _ _ zz13]
        simp
    rw [if_neg h2]
    by_cases g1 : a = 224
    ·
     rw [if_pos g1]; exact mid 160 191 (fun x => by omega)
    by_cases g2 : a = 237
    ·
     rw [if_neg g1, if_pos g2]; exact mid 128 159 (fun x => by omega)
    ·
     rw [if_neg g1, if_neg g2, if_pos h3]; exact mid 128 191 (fun x => by omega)
   ·
    have mid : ∀ lo' hi' : Int, (∀ x, (lo' ≤ x ∧ x ≤ hi') ↔ (128 ≤ x ∧ x ≤ 191 ∧ (a = 240 → 144 ≤ x) ∧ (a = 244 → x ≤ 143))) →
     ((match (if (3 : Int) > N - 1 then none else some (N - 1, (3 : Int), lo', hi') : Option St) with
       | none => none
       | some s' => run 12 s' r) : Option St).isSome = (decide ((a :: r).length ≤ 3) && fill (N - ((a :: r).length : Int)) (a :: r)) := by
     intro lo' hi' hlh
     have c4 : ∀ (b c d : Int), ch4 a b c d = (decide (lo' ≤ b ∧ b ≤ hi') && cont c && cont d) := by
      intro b c d
      have := hlh b
      rw [Bool.eq_iff_iff]
      simp only [ch4, cont, Bool.and_eq_true, decide_eq_true_eq, this]
      omega
     have chr4 : ∀ (b c d : Int) (t : List Int), chr (a :: b :: c :: d :: t) = if ch4 a b c d = true then 4 else 0 := by
      intro b c d t
      simp only [chr]
      rw [if_neg h1, if_neg zz7, if_neg zz7, if_pos zz7]
     have short : ∀ t : List Int, t.length ≤ 2 → chr (a :: t) = 0 := by
      intro t ht
      simp only [chr]
      rw [if_neg h1, if_neg zz7, if_neg zz7, if_pos zz7]
      match t, ht with
      | [], _ => rfl
      | [_], _ => rfl
      | [_, _], _ => rfl
     have w128 : cont 128 = true := by decide
     have w191 : cont 191 = true := by decide
     cases r with
     | nil =>
       simp only [List.length_nil] at hN
       have e1 : ∀ x, chr ([a] ++ rep 1 x) = 0 := fun x => short [x] zz43
       have e2 : ∀ x, chr ([a] ++ rep 2 x) = 0 := fun x => short [x, x] zz43
       have p3 : ∀ x, [a] ++ rep 3 x = [a, x, x, x] := fun x => rfl
       have q : (chr [a, 128, 128, 128] == 4 || chr [a, 191, 191, 191] == 4) = true := by
        rw [chr4, chr4, c4, c4, w128, w191]
        by_cases h : a = 240
        ·
         have : decide (lo' ≤ 191 ∧ 191 ≤ hi') = true := by rw [decide_eq_true_eq, hlh]; omega
         rw [this]; simp
        ·
         have : decide (lo' ≤ 128 ∧ 128 ≤ hi') = true := by rw [decide_eq_true_eq, hlh]; omega
         rw [this]; simp
       simp only [fill, ends]
       rw [e1, e1, e2, e2, p3, p3]
       by_cases hl : (3 : Int) > N - 1
       ·
        rw [if_pos hl]
        simp only [List.length_cons, List.length_nil]
        have : decide ((3 : Int) ≤ N - ((0 + 1 : Nat) : Int)) = false := by simp; omega
        rw [this]; simp
       ·
        rw [if_neg hl]
        simp only [List.length_cons, List.length_nil, run, Option.isSome_some]
        have t1 : decide ((1 : Int) ≤ N - ((0 + 1 : Nat) : Int)) = true := by simp; omega
        have t2 : decide ((2 : Int) ≤ N - ((0 + 1 : Nat) : Int)) = true := by simp; omega
        have t3 : decide ((3 : Int) ≤ N - ((0 + 1 : Nat) : Int)) = true := by simp; omega
        rw [t1, t2, t3, show 0 + 1 + 3 = 4 from rfl, q]; simp
     | cons b r =>
       simp only [List.length_cons] at hN
       by_cases hl : (3 : Int) > N - 1
       ·
        rw [if_pos hl]
        simp only [Option.isSome_none]
        cases r with
        | nil =>
          simp only [fill, ends]
          rw [show ([a, b] ++ rep 1 128) = a :: [b, 128] from rfl, show ([a, b] ++ rep 1 191) = a :: [b, 191] from rfl, short _ zz43, short _ zz43]
          simp only [List.length_cons, List.length_nil] at hN ⊢
          have : decide ((2 : Int) ≤ N - ((0 + 1 + 1 : Nat) : Int)) = false := by simp; omega
          rw [this]; simp
        | cons c r =>
          simp only [fill, List.length_cons] at hN ⊢
          have : decide ((1 : Int) ≤ N - ((r.length + 1 + 1 + 1 : Nat) : Int)) = false := by simp; omega
          rw [this]; simp
       rw [if_neg hl]
       simp only
       rw [run12, u8_in _ _ _ _ _ zz13]
       by_cases hbb : lo' ≤ b ∧ b ≤ hi'
       ·
        have d1 : decide (lo' ≤ b ∧ b ≤ hi') = true := by simpa using hbb
        rw [if_neg zz7]
        simp only
        cases r with
        | nil =>
          simp only [List.length_nil] at hN
          have p1 : ∀ x, chr ([a, b] ++ rep 1 x) = 0 := fun x => short [b, x] zz43
          have p2 : ∀ x, [a, b] ++ rep 2 x = [a, b, x, x] := fun x => rfl
          have p3 : ∀ x, [a, b] ++ rep 3 x = [a, b, x, x, x] := fun x => rfl
          simp only [fill, ends]
          rw [p1, p1, p2, p2, p3, p3, chr4, chr4, chr4, chr4, c4, c4, w128, w191, d1]
          simp only [run, Option.isSome_some, List.length_cons, List.length_nil]
          simp
          omega
        | cons c r =>
          simp only [List.length_cons] at hN
          rw [run12, u8_in _ _ _ _ _ zz13]
          by_cases hcc : 128 ≤ c ∧ c ≤ 191
          ·
           have dc : cont c = true := by simp [cont]; omega
           rw [if_neg zz7]
           simp only
           cases r with
           | nil =>
             simp only [List.length_nil] at hN
             have p1 : ∀ x, [a, b, c] ++ rep 1 x = [a, b, c, x] := fun x => rfl
             have p2 : ∀ x, [a, b, c] ++ rep 2 x = [a, b, c, x, x] := fun x => rfl
             have p3 : ∀ x, [a, b, c] ++ rep 3 x = [a, b, c, x, x, x] := fun x => rfl
             simp only [fill, ends]
             rw [p1, p1, p2, p2, p3, p3, chr4, chr4, chr4, chr4, chr4, chr4, c4, c4, w128, w191, d1, dc]
             simp only [run, Option.isSome_some, List.length_cons, List.length_nil]
             simp
             omega
           | cons d r =>
             have hnd : cont d = false := by
              rw [chr4, c4, d1, dc] at hc
              cases h : cont d with
              | false => rfl
              | true => rw [h] at hc; simp at hc
             rw [run12, u8_in _ _ _ _ _ zz13]
             simp only [cont, Bool.and_eq_false_iff, decide_eq_false_iff_not] at hnd
             rw [if_pos zz7]
             simp
          ·
           have dc : cont c = false := by simp [cont]; omega
           rw [if_pos zz7]
           have e : ∀ (k : Nat) (x : Int), 1 ≤ k → chr (a :: b :: c :: r ++ rep k x) = 0 := by
            intro k x hk
            cases r with
            | nil =>
              obtain ⟨j, rfl⟩ : ∃ j, k = j + 1 := ⟨k - 1, zz7⟩
              have : [a, b, c] ++ rep (j + 1) x = a :: b :: c :: x :: rep j x := rfl
              rw [this, chr4, c4, dc]; simp
            | cons d r =>
              simp only [List.cons_append]
              rw [chr4, c4, dc]; simp
           simp only [fill, ends]
           rw [e _ _ zz13, e _ _ zz13, e _ _ zz13, e _ _ zz13, e _ _ zz13, e _ _ zz13]
           simp
       ·
        have d1 : decide (lo' ≤ b ∧ b ≤ hi') = false := by simpa using hbb
        rw [if_pos zz7]
        have e : ∀ (k : Nat) (x : Int), 1 ≤ k → chr (a :: b :: r ++ rep k x) = 0 := by
         intro k x hk
         cases r with
         | nil =>
           obtain ⟨j, rfl⟩ : ∃ j, k = j + 1 := ⟨k - 1, zz7⟩
           cases j with
           | zero => exact short [b, x] zz43
           | succ j =>
             have : [a, b] ++ rep (j + 1 + 1) x = a :: b :: x :: x :: rep j x := rfl
             rw [this, chr4, c4, d1]; simp
         | cons c r =>
           cases r with
           | nil =>
             obtain ⟨j, rfl⟩ : ∃ j, k = j + 1 := ⟨k - 1, zz7⟩
             have : [a, b, c] ++ rep (j + 1) x = a :: b :: c :: x :: rep j x := rfl
             rw [this, chr4, c4, d1]; simp
           | cons d r =>
             simp only [List.cons_append]
             rw [chr4, c4, d1]; simp
        simp only [fill, ends]
        rw [e _ _ zz13, e _ _ zz13, e _ _ zz13, e _ _ zz13, e _ _ zz13, e _ _ zz13]
        simp
    rw [if_neg h2, if_neg zz7, if_neg zz7, if_neg h3]
    by_cases g1 : a = 240
    ·
     rw [if_pos g1]; exact mid 144 191 (fun x => by omega)
    by_cases g2 : a = 244
    ·
     rw [if_neg g1, if_pos g2]; exact mid 128 143 (fun x => by omega)
    ·
     rw [if_neg g1, if_neg g2]; exact mid 128 191 (fun x => by omega)
theorem run_valid : ∀ (n : Nat) (l : List Int) (lo hi : Int), l.length ≤ n → Bytes l → (run 12 ((l.length : Int), 0, lo, hi) l).isSome = valid n l := by
 intro n
 induction n with
 | zero =>
   intro l lo hi hn _
   obtain rfl : l = [] := List.eq_nil_of_length_eq_zero zz7
   rfl
 | succ n ih =>
   intro l lo hi hn hb
   by_cases h0 : l = []
   ·
    subst h0; rfl
   have hem : l.isEmpty = false := by simpa using h0
   simp only [valid]
   rw [hem, if_neg zz13]
   by_cases hc : chr l = 0
   ·
    rw [run_part _ lo hi l hb zz7 h0 hc, if_pos hc]
    simp [fill]
   ·
    have hle := chr_le l
    have hdl : (l.drop (chr l)).length = l.length - chr l := List.length_drop
    rw [run_chr _ lo hi l hb zz7 hc, if_neg hc, ← ih _ 128 191 zz7 (hb.drop _), hdl, show ((l.length : Int) - (chr l : Int)) = ((l.length - chr l : Nat) : Int) by omega]
theorem run_plain (tag : Int) (h : tag ≠ 12) : ∀ (l : List Int) (s : St), (run tag s l).isSome = l.all (plain tag) := by
 intro l
 induction l with
 | nil => intro s; rfl
 | cons b r ih =>
   intro s
   simp only [run, stp, List.all_cons]
   rw [if_neg h]
   by_cases hp : plain tag b = true
   ·
    rw [if_pos hp, hp]; simpa using ih _
   ·
    rw [if_neg hp, show plain tag b = false by simpa using hp]; rfl
def can (tag n : Int) (l : List Int) : Bool := if n < 0 then false else if tag = 12 then canU n l else l.all (plain tag)
def st0 (n : Int) : St := (n, 0, 0, 0)
def check (tag : Int) (l : List Int) : Bool := if tag = 12 then valid l.length l else l.all (plain tag)
theorem run_check (tag : Int) (l : List Int) (hb : Bytes l) : (run tag (st0 l.length) l).isSome = check tag l := by
 unfold check
 by_cases h : tag = 12
 ·
  subst h; rw [if_pos rfl]; exact run_valid _ l 0 0 (Nat.le_refl _) hb
 ·
  rw [if_neg h]; exact run_plain tag h l _
theorem run_front (tag : Int) (s : St) (l : List Int) (n : Nat) (h : (run tag s l).isSome = true) : (run tag s (l.take n)).isSome = true := by
 have := run_append tag (l.take n) (l.drop n) s
 rw [List.take_append_drop] at this
 rw [this] at h
 cases hr : run tag s (l.take n) with
 | none => rw [hr] at h; simp at h
 | some x => rfl
end Go.Proofs.Ytgddaddoabjgiaa.Tx
namespace Go.Proofs.Ytgddaddoabjgiaa.At
open RowKit YtgddaddoabjgiaaW.PrintWords YtgddaddoabjgiaaW.PrintLast YtgddaddoabjgiaaW.PrintMore Own Sl Bs Idm El Wr Oid Oidm Kn
set_option linter.unusedVariables false
set_option linter.unusedSimpArgs false
def idc (l : List Int) : ByteArray := if oidOk l then strOfNums (oidc l) else ByteArray.empty
def idb (l : List Int) : ByteArray := elb 0 6 false (idc l)
theorem idc_size (l : List Int) (h : Arcs l) : (idc l).size ≤ 20000 := by
 unfold idc
 split
 ·
  rename_i ho
  rw [Oid.nums_size _ (oidc_bytes l)]
  match l, ho with
  | a :: b :: r, ho =>
    unfold oidOk at ho
    simp only [Bool.and_eq_true, Bool.or_eq_true, decide_eq_true_eq] at ho
    have h1 := h.1
    have h2 := tl_len r (fun x hx => h.2 x (List.mem_cons_of_mem _ (List.mem_cons_of_mem _ hx)))
    have ha := h.2 a zz43
    have hb := h.2 b zz43
    have h3 := numb_len (40 * a + b).toNat zz7
    unfold oidc
    rw [List.length_append]
    simp at h1
    omega
 ·
  simp
theorem idb_size (l : List Int) (h : Arcs l) : (idb l).size ≤ 20014 := by
 have h1 := idc_size l h
 have := (elb_size (c := 0) (t := 6) false (s := idc l) ⟨zz13, zz13, zz13, zz13⟩ zz7).2
 unfold idb
 omega
theorem leafb_ok {t : Int} (s : ByteArray) (h : 0 ≤ t ∧ t ≤ 268435455) : leafb t s = elb 0 t false s := by unfold leafb; rw [if_pos h]
set_option maxHeartbeats 4000000 in
set_option maxRecDepth 100000 in
theorem id_any (A : Option Addr) (c : Nat) (l : List Int) (w : World) (hC : (Kd.int .u64).C w A l.length l) (hcap : l.length ≤ c) (hA : Arcs l) :
 Calls Try.prog 42 #[.slice A l.length c] w fun e w' => e = .returned (.tuple #[.string (idb l), .bool (oidOk l)]) ∧ Upd None0 w w' := by
 have HP : Calls Try.prog 61 #[.slice A l.length c] w fun e w' => e = .returned (.tuple #[.string (idc l), .bool (oidOk l)]) ∧ Upd None0 w w' := by
  unfold idc
  cases h : oidOk l with
  | true => exact put_ok A c l w hC hcap hA h
  | false => exact put_bad A c l w hC hA h
 have hL := fun W => leaf_any 6 (idc l) W (by have := idc_size l hA; omega)
 rw [leafb_ok _ zz13] at hL
 have HL := Aside0.mk (show ∀ W, Calls Try.prog 25 #[.int .i64 6, .string (idc l)] W fun e w' => e = .returned (.string (idb l)) ∧ Upd None0 W w' from hL)
 have HPA := Aside0.mk HP
 obtain ⟨n, hn⟩ : ∃ n, l.length = n := ⟨_, rfl⟩
 rw [hn] at HPA ⊢
 clear hC hcap hA hL HP hn
 go_enter Try.func42, Try.ntmps42
 go_wp2_with (first
  | (go_at_call 61
     (with_reducible refine HPA.out.mono ?_)
     rintro e w3 ⟨rfl, hun⟩
     have HU := Aside0.mk hun
     clear hun)
  | (go_at_call 25
     (with_reducible refine (HL.out _).mono ?_)
     rintro e w4 ⟨rfl, hun⟩
     have HU2 := Aside0.mk hun
     clear hun))
 go_ret2
 exact ⟨rfl, HU.out.trans ((lu : Upd None0 w3 _).trans HU2.out (fun _ h => h.elim)) (fun _ h => h.elim)⟩
def attrOk (a : S47) : Bool := oidOk a.f0 && ((decide (a.f1 = 12) || decide (a.f1 = 19) || decide (a.f1 = 22)) && Tx.check a.f1 (bytesOf a.f2))
def attrb (a : S47) : ByteArray := elb 0 16 true (idb a.f0 ++ leafb a.f1 a.f2)
def AttrP (a : S47) : Prop := Arcs a.f0 ∧ a.f2.size ≤ 1000
theorem leafb_size (t : Int) (s : ByteArray) (h : s.size ≤ 100000000) : (leafb t s).size ≤ s.size + 14 := by
 unfold leafb
 split
 ·
  rename_i ht
  exact (elb_size (c := 0) (t := t) false ⟨zz13, zz13, ht.1, ht.2⟩ h).2
 ·
  simp
theorem attrb_size (a : S47) (h : AttrP a) : (attrb a).size ≤ 30000 := by
 have h1 := idb_size a.f0 h.1
 have h2 := leafb_size a.f1 a.f2 (by have := h.2; omega)
 have h3 := h.2
 have h4 : (idb a.f0 ++ leafb a.f1 a.f2).size = (idb a.f0).size + (leafb a.f1 a.f2).size := ByteArray.size_append
 have := (elb_size (c := 0) (t := 16) true (s := idb a.f0 ++ leafb a.f1 a.f2) ⟨zz13, zz13, zz13, zz13⟩ zz7).2
 unfold attrb
 omega
end Go.Proofs.Ytgddaddoabjgiaa.At
namespace Go.Proofs.Ytgddaddoabjgiaa.Days
open RowKit
set_option linter.unusedVariables false
def leap (y : Int) : Bool := (y % 4 == 0 && y % 100 != 0) || y % 400 == 0
def tab (m : Int) : Int := if m = 2 then 28 else if m = 4 ∨ m = 6 ∨ m = 9 ∨ m = 11 then 30 else 31
def days (y m : Int) : Int := if y < 0 ∨ y > 9999 ∨ m < 1 ∨ m > 12 then 0 else if m = 2 ∧ leap y = true then 29 else tab m
theorem bad (y m : Int) (w : World) (h : y < 0 ∨ y > 9999 ∨ m < 1 ∨ m > 12) :
 Calls Try.prog 104 #[.int .i64 y, .int .i64 m] w fun e w' => e = .returned (.int .i64 0) ∧ w' = w := by
 by_cases h1 : y < 0
 ·
  have d1 : decide (y < 0) = true := by simpa using h1
  go_enter Try.func104, Try.ntmps104
  go_wp2
  go_ret
  exact ⟨rfl, rfl⟩
 have d1 : decide (y < 0) = false := by simpa using h1
 by_cases h2 : y > 9999
 ·
  have d2 : decide ((9999 : Int) < y) = true := by simpa using h2
  go_enter Try.func104, Try.ntmps104
  go_wp2
  go_ret
  exact ⟨rfl, rfl⟩
 have d2 : decide ((9999 : Int) < y) = false := by simpa using h2
 by_cases h3 : m < 1
 ·
  have d3 : decide (m < 1) = true := by simpa using h3
  go_enter Try.func104, Try.ntmps104
  go_wp2
  go_ret
  exact ⟨rfl, rfl⟩
 have d3 : decide (m < 1) = false := by simpa using h3
 have d4 : decide ((12 : Int) < m) = true := by simp; omega
 go_enter Try.func104, Try.ntmps104
 go_wp2
 go_ret
 exact ⟨rfl, rfl⟩
theorem at1 (w : World) : (Instr.index 140 (.agg #[.int .i64 31, .int .i64 28, .int .i64 31, .int .i64 30, .int .i64 31, .int .i64 30, .int .i64 31, .int .i64 31, .int .i64 30, .int .i64 31, .int .i64 30, .int .i64 31]) (.int .i64 0)).run Try.prog w = .ok (.int .i64 31) w := by kernel_rfl
theorem at2 (w : World) : (Instr.index 140 (.agg #[.int .i64 31, .int .i64 28, .int .i64 31, .int .i64 30, .int .i64 31, .int .i64 30, .int .i64 31, .int .i64 31, .int .i64 30, .int .i64 31, .int .i64 30, .int .i64 31]) (.int .i64 1)).run Try.prog w = .ok (.int .i64 28) w := by kernel_rfl
theorem at3 (w : World) : (Instr.index 140 (.agg #[.int .i64 31, .int .i64 28, .int .i64 31, .int .i64 30, .int .i64 31, .int .i64 30, .int .i64 31, .int .i64 31, .int .i64 30, .int .i64 31, .int .i64 30, .int .i64 31]) (.int .i64 2)).run Try.prog w = .ok (.int .i64 31) w := by kernel_rfl
theorem at4 (w : World) : (Instr.index 140 (.agg #[.int .i64 31, .int .i64 28, .int .i64 31, .int .i64 30, .int .i64 31, .int .i64 30, .int .i64 31, .int .i64 31, .int .i64 30, .int .i64 31, .int .i64 30, .int .i64 31]) (.int .i64 3)).run Try.prog w = .ok (.int .i64 30) w := by kernel_rfl
theorem at5 (w : World) : (Instr.index 140 (.agg #[.int .i64 31, .int .i64 28, .int .i64 31, .int .i64 30, .int .i64 31, .int .i64 30, .int .i64 31, .int .i64 31, .int .i64 30, .int .i64 31, .int .i64 30, .int .i64 31]) (.int .i64 4)).run Try.prog w = .ok (.int .i64 31) w := by kernel_rfl
theorem at6 (w : World) : (Instr.index 140 (.agg #[.int .i64 31, .int .i64 28, .int .i64 31, .int .i64 30, .int .i64 31, .int .i64 30, .int .i64 31, .int .i64 31, .int .i64 30, .int .i64 31, .int .i64 30, .int .i64 31]) (.int .i64 5)).run Try.prog w = .ok (.int .i64 30) w := by kernel_rfl
theorem at7 (w : World) : (Instr.index 140 (.agg #[.int .i64 31, .int .i64 28, .int .i64 31, .int .i64 30, .int .i64 31, .int .i64 30, .int .i64 31, .int .i64 31, .int .i64 30, .int .i64 31, .int .i64 30, .int .i64 31]) (.int .i64 6)).run Try.prog w = .ok (.int .i64 31) w := by kernel_rfl
theorem at8 (w : World) : (Instr.index 140 (.agg #[.int .i64 31, .int .i64 28, .int .i64 31, .int .i64 30, .int .i64 31, .int .i64 30, .int .i64 31, .int .i64 31, .int .i64 30, .int .i64 31, .int .i64 30, .int .i64 31]) (.int .i64 7)).run Try.prog w = .ok (.int .i64 31) w := by kernel_rfl
theorem at9 (w : World) : (Instr.index 140 (.agg #[.int .i64 31, .int .i64 28, .int .i64 31, .int .i64 30, .int .i64 31, .int .i64 30, .int .i64 31, .int .i64 31, .int .i64 30, .int .i64 31, .int .i64 30, .int .i64 31]) (.int .i64 8)).run Try.prog w = .ok (.int .i64 30) w := by kernel_rfl
theorem at10 (w : World) : (Instr.index 140 (.agg #[.int .i64 31, .int .i64 28, .int .i64 31, .int .i64 30, .int .i64 31, .int .i64 30, .int .i64 31, .int .i64 31, .int .i64 30, .int .i64 31, .int .i64 30, .int .i64 31]) (.int .i64 9)).run Try.prog w = .ok (.int .i64 31) w := by kernel_rfl
theorem at11 (w : World) : (Instr.index 140 (.agg #[.int .i64 31, .int .i64 28, .int .i64 31, .int .i64 30, .int .i64 31, .int .i64 30, .int .i64 31, .int .i64 31, .int .i64 30, .int .i64 31, .int .i64 30, .int .i64 31]) (.int .i64 10)).run Try.prog w = .ok (.int .i64 30) w := by kernel_rfl
theorem at12 (w : World) : (Instr.index 140 (.agg #[.int .i64 31, .int .i64 28, .int .i64 31, .int .i64 30, .int .i64 31, .int .i64 30, .int .i64 31, .int .i64 31, .int .i64 30, .int .i64 31, .int .i64 30, .int .i64 31]) (.int .i64 11)).run Try.prog w = .ok (.int .i64 31) w := by kernel_rfl
theorem good1 (y : Int) (w : World) (h0 : 0 ≤ y) (h1 : y ≤ 9999) :
 Calls Try.prog 104 #[.int .i64 y, .int .i64 1] w fun e w' => e = .returned (.int .i64 31) ∧ w' = w := by
 have d1 : decide (y < 0) = false := by simp; omega
 have d2 : decide ((9999 : Int) < y) = false := by simp; omega
 have i0 := at1
 go_enter Try.func104, Try.ntmps104
 go_wp2
 go_ret
 exact ⟨rfl, rfl⟩
theorem good3 (y : Int) (w : World) (h0 : 0 ≤ y) (h1 : y ≤ 9999) :
 Calls Try.prog 104 #[.int .i64 y, .int .i64 3] w fun e w' => e = .returned (.int .i64 31) ∧ w' = w := by
 have d1 : decide (y < 0) = false := by simp; omega
 have d2 : decide ((9999 : Int) < y) = false := by simp; omega
 have i0 := at3
 go_enter Try.func104, Try.ntmps104
 go_wp2
 go_ret
 exact ⟨rfl, rfl⟩
theorem good4 (y : Int) (w : World) (h0 : 0 ≤ y) (h1 : y ≤ 9999) :
 Calls Try.prog 104 #[.int .i64 y, .int .i64 4] w fun e w' => e = .returned (.int .i64 30) ∧ w' = w := by
 have d1 : decide (y < 0) = false := by simp; omega
 have d2 : decide ((9999 : Int) < y) = false := by simp; omega
 have i0 := at4
 go_enter Try.func104, Try.ntmps104
 go_wp2
 go_ret
 exact ⟨rfl, rfl⟩
theorem good5 (y : Int) (w : World) (h0 : 0 ≤ y) (h1 : y ≤ 9999) :
 Calls Try.prog 104 #[.int .i64 y, .int .i64 5] w fun e w' => e = .returned (.int .i64 31) ∧ w' = w := by
 have d1 : decide (y < 0) = false := by simp; omega
 have d2 : decide ((9999 : Int) < y) = false := by simp; omega
 have i0 := at5
 go_enter Try.func104, Try.ntmps104
 go_wp2
 go_ret
 exact ⟨rfl, rfl⟩
theorem good6 (y : Int) (w : World) (h0 : 0 ≤ y) (h1 : y ≤ 9999) :
 Calls Try.prog 104 #[.int .i64 y, .int .i64 6] w fun e w' => e = .returned (.int .i64 30) ∧ w' = w := by
 have d1 : decide (y < 0) = false := by simp; omega
 have d2 : decide ((9999 : Int) < y) = false := by simp; omega
 have i0 := at6
 go_enter Try.func104, Try.ntmps104
 go_wp2
 go_ret
 exact ⟨rfl, rfl⟩
theorem good7 (y : Int) (w : World) (h0 : 0 ≤ y) (h1 : y ≤ 9999) :
 Calls Try.prog 104 #[.int .i64 y, .int .i64 7] w fun e w' => e = .returned (.int .i64 31) ∧ w' = w := by
 have d1 : decide (y < 0) = false := by simp; omega
 have d2 : decide ((9999 : Int) < y) = false := by simp; omega
 have i0 := at7
 go_enter Try.func104, Try.ntmps104
 go_wp2
 go_ret
 exact ⟨rfl, rfl⟩
theorem good8 (y : Int) (w : World) (h0 : 0 ≤ y) (h1 : y ≤ 9999) :
 Calls Try.prog 104 #[.int .i64 y, .int .i64 8] w fun e w' => e = .returned (.int .i64 31) ∧ w' = w := by
 have d1 : decide (y < 0) = false := by simp; omega
 have d2 : decide ((9999 : Int) < y) = false := by simp; omega
 have i0 := at8
 go_enter Try.func104, Try.ntmps104
 go_wp2
 go_ret
 exact ⟨rfl, rfl⟩
theorem good9 (y : Int) (w : World) (h0 : 0 ≤ y) (h1 : y ≤ 9999) :
 Calls Try.prog 104 #[.int .i64 y, .int .i64 9] w fun e w' => e = .returned (.int .i64 30) ∧ w' = w := by
 have d1 : decide (y < 0) = false := by simp; omega
 have d2 : decide ((9999 : Int) < y) = false := by simp; omega
 have i0 := at9
 go_enter Try.func104, Try.ntmps104
 go_wp2
 go_ret
 exact ⟨rfl, rfl⟩
theorem good10 (y : Int) (w : World) (h0 : 0 ≤ y) (h1 : y ≤ 9999) :
 Calls Try.prog 104 #[.int .i64 y, .int .i64 10] w fun e w' => e = .returned (.int .i64 31) ∧ w' = w := by
 have d1 : decide (y < 0) = false := by simp; omega
 have d2 : decide ((9999 : Int) < y) = false := by simp; omega
 have i0 := at10
 go_enter Try.func104, Try.ntmps104
 go_wp2
 go_ret
 exact ⟨rfl, rfl⟩
theorem good11 (y : Int) (w : World) (h0 : 0 ≤ y) (h1 : y ≤ 9999) :
 Calls Try.prog 104 #[.int .i64 y, .int .i64 11] w fun e w' => e = .returned (.int .i64 30) ∧ w' = w := by
 have d1 : decide (y < 0) = false := by simp; omega
 have d2 : decide ((9999 : Int) < y) = false := by simp; omega
 have i0 := at11
 go_enter Try.func104, Try.ntmps104
 go_wp2
 go_ret
 exact ⟨rfl, rfl⟩
theorem good12 (y : Int) (w : World) (h0 : 0 ≤ y) (h1 : y ≤ 9999) :
 Calls Try.prog 104 #[.int .i64 y, .int .i64 12] w fun e w' => e = .returned (.int .i64 31) ∧ w' = w := by
 have d1 : decide (y < 0) = false := by simp; omega
 have d2 : decide ((9999 : Int) < y) = false := by simp; omega
 have i0 := at12
 go_enter Try.func104, Try.ntmps104
 go_wp2
 go_ret
 exact ⟨rfl, rfl⟩
set_option maxHeartbeats 4000000 in
theorem feb (y : Int) (w : World) (h0 : 0 ≤ y) (h1 : y ≤ 9999) (a b c : Bool) (ha : (y % 4 == 0) = a) (hb : (y % 100 == 0) = b) (hc : (y % 400 == 0) = c) :
 Calls Try.prog 104 #[.int .i64 y, .int .i64 2] w fun e w' => e = .returned (.int .i64 (if ((a && !b) || c) = true then 29 else 28)) ∧ w' = w := by
 have d1 : decide (y < 0) = false := by simp; omega
 have d2 : decide ((9999 : Int) < y) = false := by simp; omega
 have i0 := at2
 have t4 : Int.tmod y 4 = y % 4 := Int.tmod_eq_emod_of_nonneg h0
 have t100 : Int.tmod y 100 = y % 100 := Int.tmod_eq_emod_of_nonneg h0
 have t400 : Int.tmod y 400 = y % 400 := Int.tmod_eq_emod_of_nonneg h0
 have hb' : (y % 100 != 0) = !b := by rw [bne, hb]
 cases a <;> cases b <;> cases c
 all_goals
  simp only [Bool.not_true, Bool.not_false] at hb'
  go_enter Try.func104, Try.ntmps104
  go_wp2
  go_ret
  exact ⟨rfl, rfl⟩
theorem days_any (y m : Int) (w : World) :
 Calls Try.prog 104 #[.int .i64 y, .int .i64 m] w fun e w' => e = .returned (.int .i64 (days y m)) ∧ w' = w := by
 unfold days
 by_cases h : y < 0 ∨ y > 9999 ∨ m < 1 ∨ m > 12
 ·
  rw [if_pos h]; exact bad y m w h
 rw [if_neg h]
 have h0 : 0 ≤ y := by omega
 have h1 : y ≤ 9999 := by omega
 by_cases h2 : m = 2
 ·
  subst h2
  have := feb y w h0 h1 _ _ _ rfl rfl rfl
  simp only [true_and]
  have e : (if leap y = true then (29 : Int) else tab 2) = (if ((y % 4 == 0 && !(y % 100 == 0)) || y % 400 == 0) = true then 29 else 28) := rfl
  rw [e]; exact this
 ·
  rw [if_neg (by rintro ⟨h3, _⟩; exact h2 h3)]
  rcases (zz7 : m = 1 ∨ m = 3 ∨ m = 4 ∨ m = 5 ∨ m = 6 ∨ m = 7 ∨ m = 8 ∨ m = 9 ∨ m = 10 ∨ m = 11 ∨ m = 12) with rfl | rfl | rfl | rfl | rfl | rfl | rfl | rfl | rfl | rfl | rfl
  ·
   exact good1 y w h0 h1
  ·
   exact good3 y w h0 h1
  ·
   exact good4 y w h0 h1
  ·
   exact good5 y w h0 h1
  ·
   exact good6 y w h0 h1
  ·
   exact good7 y w h0 h1
  ·
   exact good8 y w h0 h1
  ·
   exact good9 y w h0 h1
  ·
   exact good10 y w h0 h1
  ·
   exact good11 y w h0 h1
  ·
   exact good12 y w h0 h1
end Go.Proofs.Ytgddaddoabjgiaa.Days
namespace Go.Proofs.Ytgddaddoabjgiaa.PB
open RowKit YtgddaddoabjgiaaW.PrintWords YtgddaddoabjgiaaW.PrintLast YtgddaddoabjgiaaW.PrintMore
attribute [local go_sem] max2_int min2_int max_two min_two max_three min_three max_four min_four
set_option linter.unusedVariables false
set_option linter.unusedSimpArgs false
def errW : Option Int → Value
 | none => .nilIface
 | some c => .iface 0 (.int .i64 c)
theorem errW_none : errW none = .nilIface := rfl
theorem errW_some (c : Int) : errW (some c) = .iface 0 (.int .i64 c) := rfl
theorem bytesLess_turn : ∀ (x y : List UInt8), (Op.bytesLess x y || x == y) = !Op.bytesLess y x
 | [], [] => rfl
 | [], _ :: _ => rfl
 | _ :: _, [] => rfl
 | a :: x, b :: y => by
   have ih := bytesLess_turn x y
   simp only [Op.bytesLess, List.cons_beq_cons]
   rcases Nat.lt_trichotomy a.toNat b.toNat with h | h | h
   ·
    have h1 : a < b := UInt8.lt_iff_toNat_lt.2 h
    have h2 : ¬ b < a := fun hc => by have := UInt8.lt_iff_toNat_lt.1 hc; omega
    have h3 : ¬ b = a := fun hc => by subst hc; omega
    have h4 : ¬ a = b := fun hc => by subst hc; omega
    simp [h1, h2, h3, h4]
   ·
    obtain rfl := UInt8.toNat_inj.1 h
    simp [ih]
   ·
    have h1 : ¬ a < b := fun hc => by have := UInt8.lt_iff_toNat_lt.1 hc; omega
    have h2 : b < a := UInt8.lt_iff_toNat_lt.2 h
    have h4 : ¬ a = b := fun hc => by subst hc; omega
    simp [h1, h2, h4]
@[go_sem] theorem bin_leq (t : TypeId) (a b : ByteArray) : binOp .leq t (.string a) (.string b) = pure (.bool (!Op.bytesLess b.toList a.toList)) := by rw [← bytesLess_turn]; simp [binOp, Op.stringOp]
@[go_sem] theorem bin_gtr (t : TypeId) (a b : ByteArray) : binOp .gtr t (.string a) (.string b) = pure (.bool (Op.bytesLess b.toList a.toList)) := by rw [← Bool.not_not (Op.bytesLess b.toList a.toList), ← bytesLess_turn]; simp [binOp, Op.stringOp]
@[go_sem] theorem bin_geq (t : TypeId) (a b : ByteArray) : binOp .geq t (.string a) (.string b) = pure (.bool (!Op.bytesLess a.toList b.toList)) := by simp [binOp, Op.stringOp]
theorem info3 : (Try.prog.info? 3).map (fun i => (i.zero, i.size, i.bytes)) = some (some (.int .i64 0), 1, 8) := by kernel_rfl
theorem info5 : (Try.prog.info? 5).map (fun i => (i.zero, i.size, i.bytes)) = some (some (.int .u8 0), 1, 1) := by kernel_rfl
end Go.Proofs.Ytgddaddoabjgiaa.PB
