/- The reference's Sorter, walked: an element's end. -/
import Derived.Test.YtpiejdncoeldeaaRs
import Derived.Test.YtpiejdncoeldeaaCr
namespace Go.Proofs.Ytpiejdncoeldeaa.Rs
open Go.RowKit Go.Proofs.YtpiejdncoeldeaaW.PrintWords Go.Proofs.YtpiejdncoeldeaaW.PrintLast Go.Proofs.YtpiejdncoeldeaaW.PrintMore Go.Proofs.Ytpiejdncoeldeaa.Own Go.Proofs.Ytpiejdncoeldeaa.Sl Go.Proofs.Ytpiejdncoeldeaa.Cm Go.Proofs.Ytpiejdncoeldeaa.Ord Go.Proofs.Ytpiejdncoeldeaa.Bs
set_option linter.unusedVariables false
set_option linter.unusedSimpArgs false
set_option maxHeartbeats 4000000 in
set_option maxRecDepth 100000 in
theorem end_over (g : Nat) (most : Int) (all : List ByteArray) (e : Int) (w : World) (S : Nat → Prop) (h : Hs w S [rs g most all e]) (he : e ≠ 0) :
    Calls Try.prog 16 #[.pointer (some ⟨g, 0, none⟩)] w fun r w' => r = .returned (.int .i64 e) ∧ Sp w S [rs g most all e] w' := by
  obtain ⟨A, c, hS⟩ := rs_open h
  obtain ⟨hc0, hc1, hc2⟩ := hS.cells3 0
  have y1 : (e == 0) = false := beq_eq_false_iff_ne.2 he
  clear he h
  go_enter Try.func16, Try.ntmps16
  go_wp2
  go_quiet (fail)
  go_wp2
  go_ret
  exact ⟨rfl, rs_shut (by exact hS.lt)⟩
set_option maxHeartbeats 4000000 in
set_option maxRecDepth 100000 in
theorem end_first (g : Nat) (most : Int) (x : ByteArray) (w : World) (S : Nat → Prop) (h : Hs w S [rs g most [x] 0]) :
    Calls Try.prog 16 #[.pointer (some ⟨g, 0, none⟩)] w fun r w' => r = .returned (.int .i64 0) ∧ Sp w S [rs g most [x, ByteArray.empty] 0] w' := by
  obtain ⟨A, c, hS⟩ := rs_open h
  obtain ⟨n, hn⟩ : ∃ n, [x].length = n := ⟨_, rfl⟩
  obtain ⟨all, hall⟩ : ∃ all, [x] = all := ⟨_, rfl⟩
  rw [hall] at hS hn
  have HA := Aside0.mk hall
  have HN := Aside0.mk hn
  replace hS : Sp w S [blk g #[.int .i64 most, .slice A n c, .int .i64 0] 49, row Kd.string 9 (.slice A n c) all] w := by rw [← hn]; exact hS
  obtain ⟨hc0, hc1, hc2⟩ := hS.cells3 0
  have y1 : decide ((1 : Int) < (n : Int)) = false := decide_eq_false (by rw [← hn, ← hall]; simp)
  have hb : n ≤ 1000 := by rw [← hn, ← hall]; simp
  clear h hn hall
  go_enter Try.func16, Try.ntmps16
  go_wp2
  go_quiet (fail)
  clear y1
  replace hS : Sp w S [blk g #[.int .i64 most, .slice A n c, .int .i64 0] 49, row Kd.string 9 (.slice A n c) all] (w.drewN nq) := hS.lt
  generalize w.drewN nq = W1 at hS ⊢
  clear hc0 hc1 hc2
  obtain ⟨hc0, hc1, hc2⟩ := hS.cells3 0
  have HR := Aside0.mk (hS.reads 1)
  have HL1 := Aside0.mk (show (([] : List ByteArray).length + n) * 16 ≤ 140737488355328 by simp; omega)
  have HL2 := Aside0.mk (show (all.length + 1) * 16 ≤ 140737488355328 by rw [HN.out]; omega)
  obtain ⟨ys, hys⟩ : ∃ ys, all ++ [ByteArray.empty] = ys := ⟨_, rfl⟩
  have HY := Aside0.mk hys
  clear hys
  go_wp2_with (first
    | ((with_reducible refine gate_dst (N := 47) rfl ?_)
       refine sp_lit Kd.string hS 9 rfl (N := 47) rfl [] [] (by first | (go_simp; done) | (go_simp; rfl)) (Reps.none _ _) (by simp) ?_
       clear hc0 hc1 hc2
       intro A1 c1 w1 hS
       obtain ⟨hc0, hc1, hc2⟩ := hS.cells3 1
       replace HR := Aside0.mk (hS.reads 2))
    | ((with_reducible refine gate_builtin (b := .append) (xs := #[.tmp 47, .tmp 51]) rfl ?_); (try at_builtin)
       refine sp_apps Kd.string hS 0 rfl (.tmp 47) (.tmp 51) 38 9 (.string ByteArray.empty) 16 rfl Try.underlying38 infoS rfl (by decide) (by decide) (.slice A1 0 c1) [] all A n c rfl rfl rfl (by exact cl_ HR) (fun _ _ h => h) HL1.out all (List.nil_append _) _ (fun _ _ => rfl) ?_
       clear hc0 hc1 hc2
       intro A2 c2 w2 hS)
    | ((with_reducible refine gate_builtin (b := .append) (xs := #[.tmp 52, .tmp 53]) rfl ?_); at_builtin
       refine sp_app Kd.string hS 0 rfl (.tmp 52) (.tmp 53) 38 9 (.string ByteArray.empty) 16 rfl Try.underlying38 infoS rfl (by decide) (by decide) (.slice A2 all.length c2) all ByteArray.empty [.string ByteArray.empty] rfl rfl (by exact rfl) rfl HL2.out ys HY.out _ (fun _ _ => rfl) ?_
       intro A3 c3 w3 hS)
    | ((with_reducible refine gate_store (t := 38) (p := 56) (v := .tmp 54) rfl ?_)
       refine sp_cell hS 1 rfl 38 (.tmp 56) (.tmp 54) rfl rfl g 1 (.slice A3 ys.length c3) rfl rfl 49 _ _ rfl (by kernel_rfl) (by simp) rfl rfl rfl ?_
       intro w4 hS
       obtain ⟨hc0, hc1, hc2⟩ := hS.cells3 1))
  go_ret
  obtain rfl := HY.out
  obtain rfl := HA.out
  exact ⟨rfl, rs_shut (A := A3) (c := c3) (Sp.sel (hS.lt) [1, 0])⟩
theorem rs_two {w : World} {S : Nat → Prop} {g : Nat} {most e : Int} {prev all : List ByteArray} {x y : ByteArray} {A : Option Addr} {c : Nat} (hS : Sp w S (rsL g most all e A c) w) (ha : prev ++ [x, y] = all) (hl : prev.length ≤ 1000) :
    ∃ ga n p q, A = some ⟨ga, 0, none⟩ ∧ w.cell? ⟨ga, p, none⟩ = some (.string x) ∧ w.cell? ⟨ga, q, none⟩ = some (.string y) ∧ n ≤ c ∧ all.length = n ∧ IntKind.i64.wrap ((n : Int) - 2) = (p : Int) ∧ IntKind.i64.wrap ((n : Int) - 1) = (q : Int) ∧ (p : Int) < (n : Int) ∧ (q : Int) < (n : Int) ∧ n ≤ 1002 ∧ decide ((1 : Int) < (n : Int)) = true ∧ (0 : Int) ≤ (p : Int) ∧ (0 : Int) ≤ (q : Int) := by
  subst ha
  have hr := hS.row 1
  obtain ⟨ad, _, h, _⟩ := Kd.C_get (Kd.R_reads' hr).2.2 ByteArray.empty (0 : Int) (by omega) (by simp; omega)
  subst h
  obtain ⟨ga, rfl⟩ := Kd.R_head hr
  have h1 := str_cell (i := prev.length) (s := x) (Kd.R_reads' hr).2.2 rfl (by simp)
  have h2 := str_cell (i := prev.length + 1) (s := y) (Kd.R_reads' hr).2.2 rfl (by rw [List.getElem?_append_right (by omega)]; simp)
  rw [add_plain] at h1 h2
  have h3 : (prev ++ [x, y]).length = prev.length + 2 := by simp
  refine ⟨ga, _, _, _, rfl, h1, h2, (Kd.R_reads' hr).2.1, rfl, ?_, ?_, by omega, by omega, by omega, decide_eq_true (by omega), by omega, by omega⟩
  · rw [h3, IntKind.wrap_i64]; omega
  · rw [h3, IntKind.wrap_i64]; omega
set_option maxHeartbeats 4000000 in
set_option maxRecDepth 100000 in
theorem end_ok (g : Nat) (most : Int) (prev : List ByteArray) (x y : ByteArray) (k : Int) (w : World) (S : Nat → Prop) (h : Hs w S [rs g most (prev ++ [x, y]) 0]) (hl : prev.length ≤ 1000) (hs : x.size ≤ 1000000 ∧ y.size ≤ 1000000) (hc : Cmp (sq x) (sq y) k) (hk : k ≤ 0) :
    Calls Try.prog 16 #[.pointer (some ⟨g, 0, none⟩)] w fun r w' => r = .returned (.int .i64 0) ∧ Sp w S [rs g most (prev ++ [x, y, ByteArray.empty]) 0] w' := by
  obtain ⟨A, c, hS⟩ := rs_open h
  obtain ⟨all, hall⟩ : ∃ all, prev ++ [x, y] = all := ⟨_, rfl⟩
  rw [hall] at hS
  have HA := Aside0.mk hall
  obtain ⟨ga, n, p, q, rfl, hx1, hx2, hcap, hn, hw1, hw2, hp1, hp2, hb, y1, hp3, hp4⟩ := rs_two hS hall hl
  have HN := Aside0.mk hn
  have HC := Aside0.mk (fun w => ref_cmp_any x y k w hs.1 hs.2 hc)
  obtain ⟨A, hA⟩ : ∃ A : Option Addr, some ⟨ga, 0, none⟩ = A := ⟨_, rfl⟩
  replace hS : Sp w S [blk g #[.int .i64 most, .slice (some ⟨ga, 0, none⟩) n c, .int .i64 0] 49, row Kd.string 9 (.slice (some ⟨ga, 0, none⟩) n c) all] w := by rw [← hn]; exact hS
  obtain ⟨hc0, hc1, hc2⟩ := hS.cells3 0
  have hd1 : decide (0 < k) = false := by simp; omega
  clear h hn hall hs hc hA A
  go_enter Try.func16, Try.ntmps16
  go_wp2
  go_quiet ((go_at_call 10; exact qleft (HC.out _)))
  clear y1 hw1 hw2 hp1 hp2 hp3 hp4 hx1 hx2
  replace hS : Sp w S [blk g #[.int .i64 most, .slice (some ⟨ga, 0, none⟩) n c, .int .i64 0] 49, row Kd.string 9 (.slice (some ⟨ga, 0, none⟩) n c) all] (w.drewN nq) := hS.lt
  generalize w.drewN nq = W1 at hS ⊢
  clear hc0 hc1 hc2
  obtain ⟨hc0, hc1, hc2⟩ := hS.cells3 0
  have HR := Aside0.mk (hS.reads 1)
  have HL1 := Aside0.mk (show (([] : List ByteArray).length + n) * 16 ≤ 140737488355328 by simp; omega)
  have HL2 := Aside0.mk (show (all.length + 1) * 16 ≤ 140737488355328 by rw [HN.out]; omega)
  obtain ⟨ys, hys⟩ : ∃ ys, all ++ [ByteArray.empty] = ys := ⟨_, rfl⟩
  have HY := Aside0.mk hys
  clear hys
  go_wp2_with (first
    | ((with_reducible refine gate_dst (N := 47) rfl ?_)
       refine sp_lit Kd.string hS 9 rfl (N := 47) rfl [] [] (by first | (go_simp; done) | (go_simp; rfl)) (Reps.none _ _) (by simp) ?_
       clear hc0 hc1 hc2
       intro A1 c1 w1 hS
       obtain ⟨hc0, hc1, hc2⟩ := hS.cells3 1
       replace HR := Aside0.mk (hS.reads 2))
    | ((with_reducible refine gate_builtin (b := .append) (xs := #[.tmp 47, .tmp 51]) rfl ?_); (try at_builtin)
       refine sp_apps Kd.string hS 0 rfl (.tmp 47) (.tmp 51) 38 9 (.string ByteArray.empty) 16 rfl Try.underlying38 infoS rfl (by decide) (by decide) (.slice A1 0 c1) [] all (some ⟨ga, 0, none⟩) n c rfl rfl rfl (by exact cl_ HR) (fun _ _ h => h) HL1.out all (List.nil_append _) _ (fun _ _ => rfl) ?_
       clear hc0 hc1 hc2
       intro A2 c2 w2 hS)
    | ((with_reducible refine gate_builtin (b := .append) (xs := #[.tmp 52, .tmp 53]) rfl ?_); at_builtin
       refine sp_app Kd.string hS 0 rfl (.tmp 52) (.tmp 53) 38 9 (.string ByteArray.empty) 16 rfl Try.underlying38 infoS rfl (by decide) (by decide) (.slice A2 all.length c2) all ByteArray.empty [.string ByteArray.empty] rfl rfl (by exact rfl) rfl HL2.out ys HY.out _ (fun _ _ => rfl) ?_
       intro A3 c3 w3 hS)
    | ((with_reducible refine gate_store (t := 38) (p := 56) (v := .tmp 54) rfl ?_)
       refine sp_cell hS 1 rfl 38 (.tmp 56) (.tmp 54) rfl rfl g 1 (.slice A3 ys.length c3) rfl rfl 49 _ _ rfl (by kernel_rfl) (by simp) rfl rfl rfl ?_
       intro w4 hS
       obtain ⟨hc0, hc1, hc2⟩ := hS.cells3 1))
  go_ret
  obtain rfl := HY.out
  obtain rfl := HA.out
  have e : prev ++ [x, y, ByteArray.empty] = prev ++ [x, y] ++ [ByteArray.empty] := by simp
  rw [e]
  exact ⟨rfl, rs_shut (A := A3) (c := c3) (Sp.sel (hS.lt) [1, 0])⟩
set_option maxHeartbeats 4000000 in
set_option maxRecDepth 100000 in
theorem end_bad (g : Nat) (most : Int) (prev : List ByteArray) (x y : ByteArray) (k : Int) (w : World) (S : Nat → Prop) (h : Hs w S [rs g most (prev ++ [x, y]) 0]) (hl : prev.length ≤ 1000) (hs : x.size ≤ 1000000 ∧ y.size ≤ 1000000) (hc : Cmp (sq x) (sq y) k) (hk : 0 < k) :
    Calls Try.prog 16 #[.pointer (some ⟨g, 0, none⟩)] w fun r w' => r = .returned (.int .i64 9) ∧ Sp w S [rs g most (prev ++ [x, y]) 9] w' := by
  obtain ⟨A, c, hS⟩ := rs_open h
  obtain ⟨all, hall⟩ : ∃ all, prev ++ [x, y] = all := ⟨_, rfl⟩
  rw [hall] at hS
  have HA := Aside0.mk hall
  obtain ⟨ga, n, p, q, rfl, hx1, hx2, hcap, hn, hw1, hw2, hp1, hp2, hb, y1, hp3, hp4⟩ := rs_two hS hall hl
  have HN := Aside0.mk hn
  have HC := Aside0.mk (fun w => ref_cmp_any x y k w hs.1 hs.2 hc)
  replace hS : Sp w S [blk g #[.int .i64 most, .slice (some ⟨ga, 0, none⟩) n c, .int .i64 0] 49, row Kd.string 9 (.slice (some ⟨ga, 0, none⟩) n c) all] w := by rw [← hn]; exact hS
  obtain ⟨hc0, hc1, hc2⟩ := hS.cells3 0
  have hd1 : decide (0 < k) = true := by simp; omega
  clear h hn hall hs hc
  go_enter Try.func16, Try.ntmps16
  go_wp2
  go_quiet ((go_at_call 10; exact qleft (HC.out _)))
  clear y1 hw1 hw2 hp1 hp2 hp3 hp4 hx1 hx2
  go_wp2_with (first
    | ((with_reducible refine gate_store (t := 3) (p := 40) (v := .const (.int .i64 9)) rfl ?_)
       refine sp_cell hS 0 rfl 3 (.tmp 40) (.const (.int .i64 9)) rfl rfl g 2 (.int .i64 9) rfl rfl 49 _ _ rfl (by kernel_rfl) (by simp) rfl rfl rfl ?_
       clear hc0 hc1 hc2
       intro w1 hS
       obtain ⟨hc0, hc1, hc2⟩ := hS.cells3 0))
  go_ret
  obtain rfl := HA.out
  obtain rfl := HN.out
  exact ⟨rfl, rs_shut (A := some ⟨ga, 0, none⟩) (c := c) (by exact hS.lt)⟩
end Go.Proofs.Ytpiejdncoeldeaa.Rs
