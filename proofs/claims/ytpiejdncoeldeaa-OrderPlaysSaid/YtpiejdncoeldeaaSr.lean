/- order.Sorter, walked: its state in blocks of its own. -/
import Derived.Test.YtpiejdncoeldeaaCm
namespace Go.Proofs.Ytpiejdncoeldeaa.Sr
open Go.RowKit Go.Proofs.YtpiejdncoeldeaaW.PrintWords Go.Proofs.YtpiejdncoeldeaaW.PrintLast Go.Proofs.YtpiejdncoeldeaaW.PrintMore Go.Proofs.Ytpiejdncoeldeaa.Own Go.Proofs.Ytpiejdncoeldeaa.Sl Go.Proofs.Ytpiejdncoeldeaa.Cm Go.Proofs.Ytpiejdncoeldeaa.Ord Go.Proofs.Ytpiejdncoeldeaa.Bs
attribute [local go_sem] max2_int min2_int max_two min_two
set_option linter.unusedSimpArgs false
set_option linter.unusedVariables false

theorem info5 : (Try.prog.info? 5).map (fun i => (i.zero, i.size, i.bytes)) = some (some (.int .u8 0), 1, 1) := by kernel_rfl
def soL (g : Nat) (most : Int) (last now : List Int) (bg : Bool) (ov : Int) (Al : Option Addr) (cl : Nat) (An : Option Addr) (cn : Nat) : List Ast :=
  [blk g #[.int .i64 most, .slice Al last.length cl, .slice An now.length cn, .bool bg, .int .i64 ov] 47, row (Kd.int .u8) 5 (.slice Al last.length cl) last, row (Kd.int .u8) 5 (.slice An now.length cn) now]
def so (g : Nat) (most : Int) (last now : List Int) (bg : Bool) (ov : Int) : Ast := ex fun (q : (Option Addr × Nat) × (Option Addr × Nat)) => sep (soL g most last now bg ov q.1.1 q.1.2 q.2.1 q.2.2)
section
variable {w0 w W : World} {S : Nat → Prop} {l : List Ast} {g : Nat} {most ov : Int} {last now : List Int} {bg : Bool}
theorem so_open (h : Hs w S [so g most last now bg ov]) : ∃ Al cl An cn, Sp w S (soL g most last now bg ov Al cl An cn) w := by
  obtain ⟨⟨⟨Al, cl⟩, ⟨An, cn⟩⟩, h⟩ := (Sp.start h).ex0
  have := h.flat
  rw [List.append_nil] at this
  exact ⟨_, _, _, _, this⟩
theorem so_shut {Al An : Option Addr} {cl cn : Nat} (h : Sp w0 S (soL g most last now bg ov Al cl An cn) w) : Sp w0 S [so g most last now bg ov] w :=
  Sp.exI ((Al, cl), (An, cn)) (Sp.fold _ (by rw [List.append_nil]; exact h))
end
set_option maxHeartbeats 4000000 in
set_option maxRecDepth 100000 in
theorem push_over (g : Nat) (most : Int) (last now : List Int) (bg : Bool) (ov b : Int) (w : World) (S : Nat → Prop) (h : Hs w S [so g most last now bg ov]) (ho : ov ≠ 0) :
    Calls Try.prog 13 #[.pointer (some ⟨g, 0, none⟩), .int .u8 b] w fun e w' => e = .returned (.int .i64 ov) ∧ Sp w S [so g most last now bg ov] w' := by
  obtain ⟨Al, cl, An, cn, hS⟩ := so_open h
  obtain ⟨hc0, hc1, hc2, hc3, hc4⟩ := hS.cells5 0
  have ho1 : (ov == 0) = false := beq_eq_false_iff_ne.2 ho
  clear h ho
  go_enter Try.func13, Try.ntmps13
  go_wp2
  go_quiet (fail)
  go_wp2
  go_ret
  exact ⟨rfl, so_shut hS.lt⟩
set_option maxHeartbeats 4000000 in
set_option maxRecDepth 100000 in
theorem push_full (g : Nat) (most : Int) (last now : List Int) (bg : Bool) (b : Int) (w : World) (S : Nat → Prop) (h : Hs w S [so g most last now bg 0]) (ho : (now.length : Int) = most) :
    Calls Try.prog 13 #[.pointer (some ⟨g, 0, none⟩), .int .u8 b] w fun e w' => e = .returned (.int .i64 11) ∧ Sp w S [so g most last now bg 11] w' := by
  obtain ⟨Al, cl, An, cn, hS⟩ := so_open h
  obtain ⟨hc0, hc1, hc2, hc3, hc4⟩ := hS.cells5 0
  have ho1 : ((now.length : Int) == most) = true := beq_iff_eq.2 ho
  clear h
  go_enter Try.func13, Try.ntmps13
  go_wp2
  go_quiet (fail)
  go_wp2_with (first
    | ((with_reducible refine gate_store (t := 32) (p := 24) (v := .const (.int .i64 11)) rfl ?_)
       refine sp_cell hS 0 rfl 32 (.tmp 24) (.const (.int .i64 11)) rfl rfl g 4 (.int .i64 11) rfl rfl 47 _ _ rfl (by kernel_rfl) (by simp) rfl rfl rfl ?_
       clear hc0 hc1 hc2 hc3 hc4
       intro w1 (hS : Sp w S (soL g most last now bg 11 Al cl An cn) w1)
       obtain ⟨hc0, hc1, hc2, hc3, hc4⟩ := hS.cells5 0))
  go_ret
  exact ⟨rfl, so_shut hS.lt⟩
set_option maxHeartbeats 4000000 in
set_option maxRecDepth 100000 in
theorem push_more (g : Nat) (most : Int) (last now : List Int) (bg : Bool) (b : Int) (w : World) (S : Nat → Prop) (h : Hs w S [so g most last now bg 0]) (ho : (now.length : Int) ≠ most) (hl : now.length ≤ 100000) :
    Calls Try.prog 13 #[.pointer (some ⟨g, 0, none⟩), .int .u8 b] w fun e w' => e = .returned (.int .i64 0) ∧ Sp w S [so g most last (now ++ [b]) bg 0] w' := by
  obtain ⟨Al, cl, An, cn, hS⟩ := so_open h
  obtain ⟨hc0, hc1, hc2, hc3, hc4⟩ := hS.cells5 0
  have ho1 : ((now.length : Int) == most) = false := beq_eq_false_iff_ne.2 ho
  have HL := Aside0.mk (show (now.length + 1) * 1 ≤ 140737488355328 by omega)
  obtain ⟨ys, hys⟩ : ∃ ys, now ++ [b] = ys := ⟨_, rfl⟩
  have HY := Aside0.mk hys
  rw [hys]
  clear h ho hl hys
  go_enter Try.func13, Try.ntmps13
  go_wp2
  go_quiet (fail)
  go_wp2_with (first
    | ((with_reducible refine gate_builtin (b := .append) (xs := #[.tmp 34, .tmp 36]) rfl ?_); at_builtin
       refine sp_app (Kd.int .u8) hS 2 rfl (.tmp 34) (.tmp 36) 45 5 (.int .u8 0) 1 rfl Try.underlying45 info5 rfl (by decide) (by decide) (.slice An now.length cn) now b [.int .u8 b] rfl rfl (by exact rfl) rfl HL.out ys HY.out _ (fun _ _ => rfl) ?_
       clear hc0 hc1 hc2 hc3 hc4
       intro A2 c2 w1 hS)
    | ((with_reducible refine gate_store (t := 45) (p := 39) (v := .tmp 37) rfl ?_)
       refine sp_cell hS 0 rfl 45 (.tmp 39) (.tmp 37) rfl rfl g 2 (.slice A2 ys.length c2) rfl rfl 47 _ _ rfl (by kernel_rfl) (by simp) rfl rfl rfl ?_
       intro w2 hS
       obtain ⟨hc0, hc1, hc2, hc3, hc4⟩ := hS.cells5 0))
  go_ret
  exact ⟨rfl, so_shut hS.lt⟩
set_option maxHeartbeats 4000000 in
set_option maxRecDepth 100000 in
theorem end_over (g : Nat) (most : Int) (last now : List Int) (bg : Bool) (ov : Int) (w : World) (S : Nat → Prop) (h : Hs w S [so g most last now bg ov]) (ho : ov ≠ 0) :
    Calls Try.prog 15 #[.pointer (some ⟨g, 0, none⟩)] w fun e w' => e = .returned (.int .i64 ov) ∧ Sp w S [so g most last now bg ov] w' := by
  obtain ⟨Al, cl, An, cn, hS⟩ := so_open h
  obtain ⟨hc0, hc1, hc2, hc3, hc4⟩ := hS.cells5 0
  have ho1 : (ov != 0) = true := bne_iff_ne.2 ho
  clear h ho
  go_enter Try.func15, Try.ntmps15
  go_wp2
  go_ret
  exact ⟨rfl, so_shut hS.lt⟩
/-- What End leaves: this one is the one ahead. -/
theorem so_turn {w0 w : World} {S : Nat → Prop} {g : Nat} {most : Int} {last now : List Int} {bg : Bool} {Al An : Option Addr} {cl cn : Nat} (hS : Sp w0 S (soL g most last now bg 0 Al cl An cn) w) :
    Sp w0 S [so g most now [] true 0] (((w.setCell ⟨g, 1, none⟩ (.slice An now.length cn)).setCell ⟨g, 2, none⟩ (.slice Al 0 cl)).setCell ⟨g, 3, none⟩ (.bool true)) := by
  have h1 := ((hS.set_ 0 1 (.slice An now.length cn)).set_ 0 2 (.slice Al 0 cl)).set_ 0 3 (.bool true)
  have h2 := h1.turn 1 _ (row (Kd.int .u8) 5 (.slice Al 0 cl) []) rfl (fun T hT => Kd.R_take hT (Nat.zero_le _))
  exact so_shut (Al := An) (cl := cn) (An := Al) (cn := cl) (h2.sel [0, 2, 1])
set_option maxHeartbeats 4000000 in
set_option maxRecDepth 100000 in
theorem end_first (g : Nat) (most : Int) (last now : List Int) (w : World) (S : Nat → Prop) (h : Hs w S [so g most last now false 0]) :
    Calls Try.prog 15 #[.pointer (some ⟨g, 0, none⟩)] w fun e w' => e = .returned (.int .i64 0) ∧ Sp w S [so g most now [] true 0] w' := by
  obtain ⟨Al, cl, An, cn, hS⟩ := so_open h
  obtain ⟨hc0, hc1, hc2, hc3, hc4⟩ := hS.cells5 0
  have hf := hS.fz 0
  clear h
  go_enter Try.func15, Try.ntmps15
  go_wp2
  go_quiet (fail)
  go_wp2
  go_region
  go_wp2
  go_ret
  exact ⟨rfl, so_turn (by exact hS.lt)⟩
theorem conv {w0 w : World} {S : Nat → Prop} {l : List Ast} {A : Option Addr} {c : Nat} {xs : List Int} (h : Sp w0 S l w) (i : Nat) (hi : l[i]? = some (row (Kd.int .u8) 5 (.slice A xs.length c) xs) := by rfl) : ∀ n, (convert 45 9 (.slice A xs.length c)).run Try.prog (w.drewN n) = .ok (.string (strOfNums xs)) (w.drewN n) :=
  fun n => own_string (P := Try.prog) Try.underlying45 Try.underlying5 Try.underlying9 (Kd.own_of_R (Kd.R_drewN (h.row i hi) n))
set_option maxHeartbeats 4000000 in
set_option maxRecDepth 100000 in
theorem end_ok (g : Nat) (most : Int) (last now : List Int) (c : Int) (w : World) (S : Nat → Prop) (h : Hs w S [so g most last now true 0]) (hb : Bytes last ∧ Bytes now ∧ last.length ≤ 1000000 ∧ now.length ≤ 1000000) (hc : Cmp (seq last) (seq now) c) (h0 : c ≤ 0) :
    Calls Try.prog 15 #[.pointer (some ⟨g, 0, none⟩)] w fun e w' => e = .returned (.int .i64 0) ∧ Sp w S [so g most now [] true 0] w' := by
  obtain ⟨Al, cl, An, cn, hS⟩ := so_open h
  have HC := Aside0.mk (cmp_nums hb hc)
  obtain ⟨hc0, hc1, hc2, hc3, hc4⟩ := hS.cells5 0
  have hf := hS.fz 0
  have hv1 := conv hS 1
  have hv2 := conv hS 2
  have hd1 : decide (0 < c) = false := by simp; omega
  clear h hc hb
  go_enter Try.func15, Try.ntmps15
  go_wp2
  go_quiet ((go_at_call 9; exact qleft (HC.out _)))
  go_wp2
  go_region
  go_wp2
  go_ret
  exact ⟨rfl, so_turn (by exact hS.lt)⟩
set_option maxHeartbeats 4000000 in
set_option maxRecDepth 100000 in
theorem end_bad (g : Nat) (most : Int) (last now : List Int) (c : Int) (w : World) (S : Nat → Prop) (h : Hs w S [so g most last now true 0]) (hb : Bytes last ∧ Bytes now ∧ last.length ≤ 1000000 ∧ now.length ≤ 1000000) (hc : Cmp (seq last) (seq now) c) (h0 : 0 < c) :
    Calls Try.prog 15 #[.pointer (some ⟨g, 0, none⟩)] w fun e w' => e = .returned (.int .i64 9) ∧ Sp w S [so g most last now true 9] w' := by
  obtain ⟨Al, cl, An, cn, hS⟩ := so_open h
  have HC := Aside0.mk (cmp_nums hb hc)
  obtain ⟨hc0, hc1, hc2, hc3, hc4⟩ := hS.cells5 0
  have hv1 := conv hS 1
  have hv2 := conv hS 2
  have hd1 : decide (0 < c) = true := by simpa using h0
  clear h hc hb h0
  go_enter Try.func15, Try.ntmps15
  go_wp2
  go_quiet ((go_at_call 9; exact qleft (HC.out _)))
  clear hv1 hv2
  go_wp2_with (first
    | ((with_reducible refine gate_store (t := 32) (p := 32) (v := .const (.int .i64 9)) rfl ?_)
       refine sp_cell hS 0 rfl 32 (.tmp 32) (.const (.int .i64 9)) rfl rfl g 4 (.int .i64 9) rfl rfl 47 _ _ rfl (by kernel_rfl) (by simp) rfl rfl rfl ?_
       clear hc0 hc1 hc2 hc3 hc4
       intro w1 (hS : Sp w S (soL g most last now true 9 Al cl An cn) w1)
       obtain ⟨hc0, hc1, hc2, hc3, hc4⟩ := hS.cells5 0))
  go_ret
  exact ⟨rfl, so_shut hS.lt⟩
theorem so_clear {w0 w : World} {S : Nat → Prop} {g : Nat} {most ov : Int} {last now : List Int} {bg : Bool} {Al An : Option Addr} {cl cn : Nat} (hS : Sp w0 S (soL g most last now bg ov Al cl An cn) w) :
    Sp w0 S [so g most [] [] false 0] (((((w.setCell ⟨g, 0, none⟩ (.int .i64 most)).setCell ⟨g, 1, none⟩ (.slice Al 0 cl)).setCell ⟨g, 2, none⟩ (.slice An 0 cn)).setCell ⟨g, 3, none⟩ (.bool false)).setCell ⟨g, 4, none⟩ (.int .i64 0)) := by
  have h1 := ((((hS.set_ 0 0 (.int .i64 most)).set_ 0 1 (.slice Al 0 cl)).set_ 0 2 (.slice An 0 cn)).set_ 0 3 (.bool false)).set_ 0 4 (.int .i64 0)
  have h2 := (h1.turn 1 _ (row (Kd.int .u8) 5 (.slice Al 0 cl) []) rfl (fun T hT => Kd.R_take hT (Nat.zero_le _))).turn 2 _ (row (Kd.int .u8) 5 (.slice An 0 cn) []) rfl (fun T hT => Kd.R_take hT (Nat.zero_le _))
  exact so_shut (Al := Al) (cl := cl) (An := An) (cn := cn) h2
set_option maxHeartbeats 4000000 in
set_option maxRecDepth 100000 in
theorem reset_any (g : Nat) (most : Int) (last now : List Int) (bg : Bool) (ov : Int) (w : World) (S : Nat → Prop) (h : Hs w S [so g most last now bg ov]) :
    Calls Try.prog 17 #[.pointer (some ⟨g, 0, none⟩)] w fun e w' => e = .returned (.tuple #[]) ∧ Sp w S [so g most [] [] false 0] w' := by
  obtain ⟨Al, cl, An, cn, hS⟩ := so_open h
  obtain ⟨hc0, hc1, hc2, hc3, hc4⟩ := hS.cells5 0
  have hf := hS.fz 0
  have hu := Try.underlying47
  clear h
  go_enter Try.func17, Try.ntmps17
  go_region
  go_end0
  exact ⟨rfl, (so_clear hS).lt⟩
set_option maxHeartbeats 4000000 in
set_option maxRecDepth 100000 in
theorem new_any (m : Int) (w : World) (S : Nat → Prop) :
    Calls Try.prog 11 #[.int .i64 m] w fun e w' => ∃ g : Nat, e = .returned (.pointer (some ⟨g, 0, none⟩)) ∧ Sp w S [so g (mn (mx m 0) 65536) [] [] false 0] w' := by
  have hS := Sp.nil (w := w) (S := S)
  have hu := Try.underlying47
  obtain ⟨x, hx⟩ : ∃ x, (if m < 0 then 0 else m) = x := ⟨_, rfl⟩
  obtain ⟨y, hy⟩ : ∃ y, (if 65536 < x then 65536 else x) = y := ⟨_, rfl⟩
  have HY := Aside0.mk (show mn (mx m 0) 65536 = y by rw [← hy, ← hx]; unfold mn mx; rfl)
  go_enter Try.func11, Try.ntmps11
  go_wp2_with (first
    | ((with_reducible refine gate_dst (N := 7) rfl ?_)
       refine sp_box hS rfl (N := 7) rfl #[.int .i64 y, .slice none 0 0, .slice none 0 0, .bool false, .int .i64 0] 47 (by first | (go_simp; done) | (go_simp; rfl)) ?_
       intro g w1 hg hS))
  go_ret
  refine ⟨g, rfl, ?_⟩
  rw [HY.out]
  exact so_shut (Al := none) (cl := 0) (An := none) (cn := 0) (((hS.nilrow (Kd.int .u8) 5).nilrow (Kd.int .u8) 5).sel [2, 1, 0])
end Go.Proofs.Ytpiejdncoeldeaa.Sr
