/- The reference's Sorter, walked: its state in blocks of its own. -/
import Derived.Test.YtpiejdncoeldeaaCm
import Derived.Deep.RegionLaw
namespace Go.Proofs.Ytpiejdncoeldeaa.Rs
open Go.RowKit Go.Proofs.YtpiejdncoeldeaaW.PrintWords Go.Proofs.YtpiejdncoeldeaaW.PrintLast Go.Proofs.YtpiejdncoeldeaaW.PrintMore Go.Proofs.Ytpiejdncoeldeaa.Own Go.Proofs.Ytpiejdncoeldeaa.Sl Go.Proofs.Ytpiejdncoeldeaa.Cm Go.Proofs.Ytpiejdncoeldeaa.Ord Go.Proofs.Ytpiejdncoeldeaa.Bs
set_option linter.unusedVariables false
set_option linter.unusedSimpArgs false

theorem infoS : (Try.prog.info? 9).map (fun i => (i.zero, i.size, i.bytes)) = some (some (.string ByteArray.empty), 1, 16) := by kernel_rfl
def rsL (g : Nat) (most : Int) (all : List ByteArray) (e : Int) (A : Option Addr) (c : Nat) : List Ast := [blk g #[.int .i64 most, .slice A all.length c, .int .i64 e] 49, row Kd.string 9 (.slice A all.length c) all]
def rs (g : Nat) (most : Int) (all : List ByteArray) (e : Int) : Ast := ex fun (q : Option Addr × Nat) => sep (rsL g most all e q.1 q.2)
section
variable {w0 w W : World} {S : Nat → Prop} {l : List Ast} {g : Nat} {most e : Int} {all : List ByteArray}
theorem rs_open (h : Hs w S [rs g most all e]) : ∃ A c, Sp w S (rsL g most all e A c) w := by
  obtain ⟨⟨A, c⟩, h⟩ := (Sp.start h).ex0
  have := h.flat
  rw [List.append_nil] at this
  exact ⟨_, _, this⟩
theorem rs_shut {A : Option Addr} {c : Nat} (h : Sp w0 S (rsL g most all e A c) w) : Sp w0 S [rs g most all e] w :=
  Sp.exI (A, c) (Sp.fold _ (by rw [List.append_nil]; exact h))
end
/-- The bound that New lays. -/
def bound (m : Int) : Int := if m < 0 then 0 else if 65536 < m then 65536 else m
set_option maxHeartbeats 4000000 in
set_option maxRecDepth 100000 in
theorem new_any (m : Int) (w : World) (S : Nat → Prop) :
    Calls Try.prog 12 #[.int .i64 m] w fun e w' => ∃ g : Nat, e = .returned (.pointer (some ⟨g, 0, none⟩)) ∧ Sp w S [rs g (bound m) [ByteArray.empty] 0] w' := by
  have hS := Sp.nil (w := w) (S := S)
  have key : ∀ x : Int, bound m = x → (decide (m < 0) = true ∧ x = 0 ∨ decide (m < 0) = false ∧ (decide (65536 < m) = true ∧ x = 65536 ∨ decide (65536 < m) = false ∧ x = m)) := by
    intro x hx; subst hx; unfold bound
    by_cases h0 : m < 0
    · exact .inl ⟨decide_eq_true h0, if_pos h0⟩
    by_cases h1 : 65536 < m
    · exact .inr ⟨decide_eq_false h0, .inl ⟨decide_eq_true h1, by rw [if_neg h0, if_pos h1]⟩⟩
    · exact .inr ⟨decide_eq_false h0, .inr ⟨decide_eq_false h1, by rw [if_neg h0, if_neg h1]⟩⟩
  obtain ⟨x, hx⟩ : ∃ x, bound m = x := ⟨_, rfl⟩
  rw [hx]
  rcases key x hx with ⟨h0, rfl⟩ | ⟨h0, ⟨h1, rfl⟩ | ⟨h1, rfl⟩⟩
  all_goals
    clear key hx
    go_enter Try.func12, Try.ntmps12
    go_wp2_with (first
      | ((with_reducible refine gate_dst (N := 8) rfl ?_)
         refine sp_lit Kd.string hS 9 rfl (N := 8) rfl [ByteArray.empty] [.string ByteArray.empty] (by first | (go_simp; done) | (go_simp; rfl)) (reps_one (c := [.string ByteArray.empty]) rfl rfl) (by simp) ?_
         intro A c w1 hS)
      | ((with_reducible refine gate_dst (N := 10) rfl ?_)
         refine sp_box hS rfl (N := 10) rfl #[.int .i64 _, .slice A 1 c, .int .i64 0] 49 (by first | (go_simp; done) | (go_simp; rfl)) ?_
         intro g w2 hg hS))
    go_ret
    exact ⟨g, rfl, rs_shut hS⟩
set_option maxHeartbeats 4000000 in
set_option maxRecDepth 100000 in
theorem push_over (g : Nat) (most : Int) (all : List ByteArray) (e b : Int) (w : World) (S : Nat → Prop) (h : Hs w S [rs g most all e]) (he : e ≠ 0) :
    Calls Try.prog 14 #[.pointer (some ⟨g, 0, none⟩), .int .u8 b] w fun r w' => r = .returned (.int .i64 e) ∧ Sp w S [rs g most all e] w' := by
  obtain ⟨A, c, hS⟩ := rs_open h
  obtain ⟨hc0, hc1, hc2⟩ := hS.cells3 0
  have y1 : (e != 0) = true := by rw [bne_iff_ne]; exact he
  clear he h
  go_enter Try.func14, Try.ntmps14
  go_wp2
  go_ret
  exact ⟨rfl, rs_shut hS.lt⟩
theorem str_cell {W : World} {ad : Addr} {l : List ByteArray} {n i : Nat} {s : ByteArray} (h : Kd.C Kd.string W (some ad) n l) (hn : n = l.length) (hs : l[i]? = some s) : W.cell? (ad.add i) = some (.string s) := by
  subst hn
  obtain ⟨hi, he⟩ := List.getElem?_eq_some_iff.1 hs
  obtain ⟨ad2, e, hx⟩ := Kd.at_string h (i : Int) (by omega) (by omega)
  cases e
  have e2 : rdOf ByteArray.empty l (i : Int) = s := by simp [rdOf, hi, he]
  rw [e2] at hx
  simpa using hx
/-- One byte of its own, as a text. -/
theorem conv_one (W : World) (b : Int) : (convert 45 9 (.slice (some ⟨W.heap.size, 0, none⟩) 1 1)).run Try.prog (W.alloc (.cells #[.int .u8 b] 5)).drew = .ok (.string (strOfNums [b])) (W.alloc (.cells #[.int .u8 b] 5)).drew :=
  own_string (P := Try.prog) (base := 0) (n := 1) (e' := 5) (xs := [b]) Try.underlying45 Try.underlying5 Try.underlying9 (Kd.own_of_R (Kd.R_drew (row_alloc (Kd.int .u8) W 5 (xs := [b]) (inner := [.int .u8 b]) (reps_one rfl rfl) (by simp))))
theorem rs_last {w : World} {S : Nat → Prop} {g : Nat} {most e : Int} {prev : List ByteArray} {last : ByteArray} {A : Option Addr} {c : Nat} (hS : Sp w S (rsL g most (prev ++ [last]) e A c) w) (hl : prev.length ≤ 1000) :
    ∃ ga n p, A = some ⟨ga, 0, none⟩ ∧ (w.cell? ⟨ga, p, none⟩ = some (.string last) ∧ ∀ o, (w.alloc o).cell? ⟨ga, p, none⟩ = some (.string last)) ∧ n ≤ c ∧ (prev ++ [last]).length = n ∧ n = p + 1 ∧ prev.length = p ∧ IntKind.i64.wrap ((n : Int) - 1) = (p : Int) ∧ (0 : Int) ≤ (p : Int) ∧ (p : Int) < (n : Int) ∧ (n : Int) ≤ 1001 ∧ (0 : Int) ≤ (n : Int) - 1 := by
  have hr := hS.row 1
  obtain ⟨ad, _, h, _⟩ := Kd.C_get (Kd.R_reads' hr).2.2 ByteArray.empty (0 : Int) (by omega) (by simp)
  subst h
  obtain ⟨ga, rfl⟩ := Kd.R_head hr
  have hx := str_cell (i := prev.length) (s := last) (Kd.R_reads' hr).2.2 rfl (by simp)
  rw [add_plain] at hx
  have hx2 : ∀ o, (w.alloc o).cell? ⟨ga, prev.length, none⟩ = some (.string last) := fun o => by
    have := str_cell (i := prev.length) (s := last) (Kd.C_alloc (Kd.R_reads' hr).2.2 o) rfl (by simp)
    rwa [add_plain] at this
  have h2 := (Kd.R_reads' hr).2.1
  have h3 : (prev ++ [last]).length = prev.length + 1 := by simp
  refine ⟨ga, _, _, rfl, ⟨hx, hx2⟩, h2, rfl, h3, rfl, ?_, by omega, by omega, by omega, by omega⟩
  rw [h3, IntKind.wrap_i64]; omega
set_option maxHeartbeats 4000000 in
set_option maxRecDepth 100000 in
theorem push_full (g : Nat) (most : Int) (prev : List ByteArray) (last : ByteArray) (b : Int) (w : World) (S : Nat → Prop) (h : Hs w S [rs g most (prev ++ [last]) 0]) (hm : most < (last.size : Int) + 1) (hl : prev.length ≤ 1000) (hs : last.size ≤ 1000) :
    Calls Try.prog 14 #[.pointer (some ⟨g, 0, none⟩), .int .u8 b] w fun r w' => r = .returned (.int .i64 11) ∧ Sp w S [rs g most (prev ++ [last]) 11] w' := by
  obtain ⟨A, c, hS⟩ := rs_open h
  obtain ⟨ga, n, p, rfl, ⟨hx, hx2⟩, hcap, hn, hnp, hp, hw, hi0, hi1, hi2, hi3⟩ := rs_last hS hl
  obtain ⟨hc0, hc1, hc2⟩ := hS.cells3 0
  rw [hn] at hc1
  have HN := Aside0.mk hn
  have HP := Aside0.mk (And.intro hnp hp)
  have hk := conv_one w b
  obtain ⟨s1, hs1⟩ : ∃ s1, strOfNums [b] = s1 := ⟨_, rfl⟩
  have hs1z : s1.size = 1 := by rw [← hs1]; rfl
  rw [hs1] at hk
  have HS1 := Aside0.mk hs1
  have hcat : last.size + 1 ≤ 9223372036854775807 := by omega
  have hcat3 : ¬ 9223372036854775807 < last.size + 1 := by omega
  have hcat2 : decide (most < (last.size : Int) + 1) = true := decide_eq_true hm
  clear hs1
  clear h hn hnp hp hm
  obtain ⟨ha0, ha1, ha2⟩ := (hS.lt (W := w.alloc (.cells #[.int .u8 b] 5))).cells3 0
  rw [HN.out] at ha1
  go_enter Try.func14, Try.ntmps14
  go_upto_region 3 with (fail)
  go_cut [5] (fun v5 wc => v5 = .string (last ++ s1) ∧ Aside0 (Sp w S (rsL g most (prev ++ [last]) 0 (some ⟨ga, 0, none⟩) c) wc))
  case first =>
    go_region_law (fail)
    all_goals
      go_wp2
      go_meet
      exact ⟨rfl, ⟨by exact hS.lt⟩⟩
  clear hk hc0 hc1 hc2 hx hx2 ha0 ha1 ha2 hS
  obtain ⟨rfl, HS⟩ := hcut
  have hS := HS.out
  clear HS
  clear hw hi0 hi1 hi2 hi3
  obtain ⟨hc0, hc1, hc2⟩ := hS.cells3 0
  go_wp2_with (first
    | ((with_reducible refine gate_store (t := 3) (p := 40) (v := .const (.int .i64 11)) rfl ?_)
       refine sp_cell hS 0 rfl 3 (.tmp 40) (.const (.int .i64 11)) rfl rfl g 2 (.int .i64 11) rfl rfl 49 _ _ rfl (by kernel_rfl) (by simp) rfl rfl rfl ?_
       clear hc0 hc1 hc2
       intro w1 (hS : Sp w S (rsL g most (prev ++ [last]) 11 _ c) w1)
       obtain ⟨hc0, hc1, hc2⟩ := hS.cells3 0))
  go_ret
  exact ⟨rfl, rs_shut hS.lt⟩
end Go.Proofs.Ytpiejdncoeldeaa.Rs
