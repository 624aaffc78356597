/- The first answers that are fixed, and the law QueryLong, walked by hand. -/
import Derived.Test.YtidcmkmlcmjekaaZA
import Derived.Test.YtidcmkmlcmjekaaBQr
import Derived.Test.YtidcmkmlcmjekaaPAx3
import Derived.Test.YtidcmkmlcmjekaaPAx5
import Derived.Test.YtidcmkmlcmjekaaWGuard
import Derived.Outline
import Derived.Lib.SliceRun
import Derived.Laws.Rows
import Derived.Laws.BytesArg
namespace Go.Proofs.Ytidcmkmlcmjekaa.PA
open Go.RowKit Go.Proofs.YtidcmkmlcmjekaaW.PrintWords Go.Proofs.YtidcmkmlcmjekaaW.PrintLast Go.Proofs.YtidcmkmlcmjekaaW.PrintMore Go.Proofs.Ytidcmkmlcmjekaa.Own
attribute [local go_sem] max2_int min2_int max_two min_two max_three min_three max_four min_four
set_option linter.unusedVariables false
set_option linter.unusedSimpArgs false
theorem rc {α : Type} {d : Kd α} {e b : Nat} {w : World} {S : Nat → Prop} {A : Option Addr} {n c : Nat} {xs : List α} (h : d.R e w b S (.slice A n c) xs) : Kd.C d w A xs.length xs := (Kd.R_reads' h).2.2
theorem reps2 {α : Type} {R : α → List Value → Prop} {size : Nat} {p q : α} {c d : List Value} (h1 : R p c) (h2 : c.length = size) (h3 : R q d) (h4 : d.length = size) : Reps R size [p, q] (c ++ d) := by
  have := ((Reps.none R size).snoc h1 h2).snoc h3 h4
  simpa using this

set_option maxHeartbeats 16000000 in
set_option maxRecDepth 100000 in
theorem new1 (x : ByteArray) (hx : x.size ≤ 1000) (w : World) : Calls Try.prog 21 #[.string x] w fun e w' => e = .returned (.bool (!BNum.R x)) ∧ Below w.heap.size w w' := by
  have H := Aside0.mk (BNum.right_ok 1100 x hx (by omega))
  clear hx
  go_enter Try.func21, Try.ntmps21
  go_wp2_with (first
    | (go_at_call 22
       (with_reducible refine (query_right.calls 1100 x (BNum.R x) _ H.out).mono ?_)
       rintro e w1 ⟨rfl, hb⟩))
  go_ret
  exact ⟨rfl, hb⟩
theorem q_newY (A : Option Addr) (c : Nat) (xs : List ByteArray) (n : Nat) (hn : xs.length = n) (w : World) (hC : Kd.C Kd.string w A xs.length xs) (hc : xs.length ≤ c) (hs : ∀ x, x ∈ xs → x.size ≤ 1000) (h : (xs.all BNum.R && decide (xs.length ≤ 64)) = true) :
    Calls Try.prog 10 #[.slice A n c] w fun e w' => ∃ g : Nat, e = .returned (.tuple #[.pointer (some ⟨g, 0, none⟩), .int .i64 0]) ∧ Qs w' (New w None0) g xs (List.replicate xs.length z43) [] false ∧ Upd None0 w w' := by
  subst hn
  simp only [Bool.and_eq_true, decide_eq_true_eq, List.all_eq_true] at h
  refine new_ok A c xs w hC hc h.2 (fun x hx W => ?_)
  have e : (!BNum.R x) = false := by rw [h.1 x hx]; rfl
  have := new1 x (hs x hx) W
  rw [e] at this
  exact this
theorem q_newN (A : Option Addr) (c : Nat) (xs : List ByteArray) (n : Nat) (hn : xs.length = n) (w : World) (hC : Kd.C Kd.string w A xs.length xs) (hl : xs.length ≤ 100000) (hs : ∀ x, x ∈ xs → x.size ≤ 1000) (h : (xs.all BNum.R && decide (xs.length ≤ 64)) = false) :
    Calls Try.prog 10 #[.slice A n c] w fun e w' => e = .returned (.tuple #[.pointer none, .int .i64 15]) ∧ Upd None0 w w' := by
  subst hn
  refine new_no A c xs (fun x => !BNum.R x) w hC hl ?_ (fun x hx W => new1 x (hs x hx) W)
  by_cases h64 : xs.length ≤ 64
  · right
    rw [decide_eq_true h64, Bool.and_true] at h
    rw [List.any_eq_not_all_not]
    simp [h]
  · left; omega
/-- The answers behind a date. -/
def qd (list : List ByteArray) (ans : List S43) (came : List Int) (begun : Bool) (date : ByteArray) : List S43 := if begun = true ∧ came.length ≤ 20 then dateL (strOfNums came) date list ans else ans
theorem qd_len (list : List ByteArray) (ans : List S43) (came : List Int) (begun : Bool) (date : ByteArray) (h : list.length = ans.length) : list.length = (qd list ans came begun date).length := by
  unfold qd; split
  · unfold dateL; simp; omega
  · exact h
theorem q_dateD (g : Nat) (list : List ByteArray) (ans : List S43) (came : List Int) (begun : Bool) (S : Nat → Prop) (w : World) (hQ : Qs w S g list ans came begun) (date : ByteArray) (hlen : list.length = ans.length) (hlm : list.length ≤ 100000) :
    Calls Try.prog 17 #[.pointer (some ⟨g, 0, none⟩), .string date] w fun e w' => e = .returned (.tuple #[]) ∧ Qs w' S g list (qd list ans came begun date) came begun ∧ Upd S w w' ∧ list.length = (qd list ans came begun date).length :=
  (q_date g list ans came begun S w hQ date hlen (by omega)).mono fun e w' ⟨h1, h2, h3⟩ => ⟨h1, h2, h3, qd_len _ _ _ _ _ hlen⟩
theorem q_answersN (g : Nat) (list : List ByteArray) (ans : List S43) (came : List Int) (begun : Bool) (S : Nat → Prop) (w : World) (hQ : Qs w S g list ans came begun) (n : Nat) (hn : ans.length = n) (hl : n ≤ 100000) :
    Calls Try.prog 13 #[.pointer (some ⟨g, 0, none⟩)] w fun e w' => ∃ A c, e = .returned (.slice A n c) ∧ k43.R 43 w' 0 (New w None0) (.slice A ans.length c) ans ∧ Upd None0 w w' := by
  subst hn
  refine (q_answers g list ans came begun S w hQ hl).mono fun e w' ⟨v, h1, h2, h3⟩ => ?_
  obtain ⟨A, c, rfl⟩ := Kd.R_slice h2
  exact ⟨A, c, h1, h2, h3⟩
theorem same_c (A0 A1 : Option Addr) (c0 c1 : Nat) (l : List S43) (n0 n1 : Nat) (h0 : l.length = n0) (h1 : l.length = n1) (w : World) (hr0 : Kd.C k43 w A0 l.length l) (hc0 : l.length ≤ c0) (hr1 : Kd.C k43 w A1 l.length l) (hc1 : l.length ≤ c1) (hl : l.length ≤ 1000) :
    Calls Try.prog 12 #[.slice A0 n0 c0, .slice A1 n1 c1] w fun e w' => e = .returned (.bool true) ∧ Drawn0 w w' := by
  subst h0 h1
  exact gantletref18_Same.calls 2000 A0 c0 l A1 c1 l true w hr0 hc0 hr1 hc1 (BNum.same_ok l (by omega) 2000 (by omega))

set_option maxHeartbeats 16000000 in
set_option maxRecDepth 100000 in
theorem awake_any (w : World) : Calls Try.prog 8 #[] w fun e w' => e = .returned (.bool true) ∧ Upd None0 w w' := by
  have HU := Aside0.mk (Upd.refl None0 w)
  have hu_ := Try.underlying43
  have HN2 : Aside0 ((qd [(⟨#[5]⟩ : ByteArray), (⟨#[6]⟩ : ByteArray)] (qd [(⟨#[5]⟩ : ByteArray), (⟨#[6]⟩ : ByteArray)] (List.replicate [(⟨#[5]⟩ : ByteArray), (⟨#[6]⟩ : ByteArray)].length z43) ([] ++ [5]) true (⟨#[100]⟩ : ByteArray)) ([] ++ [6] ++ [0]) true (⟨#[100]⟩ : ByteArray)).length = 2) := ⟨by kernel_rfl⟩
  have HE2 : Aside0 ((qd [(⟨#[5]⟩ : ByteArray), (⟨#[6]⟩ : ByteArray)] (qd [(⟨#[5]⟩ : ByteArray), (⟨#[6]⟩ : ByteArray)] (List.replicate [(⟨#[5]⟩ : ByteArray), (⟨#[6]⟩ : ByteArray)].length z43) ([] ++ [5]) true (⟨#[100]⟩ : ByteArray)) ([] ++ [6] ++ [0]) true (⟨#[100]⟩ : ByteArray)) = [(⟨true, (⟨#[100]⟩ : ByteArray)⟩ : S43), z43]) := ⟨by kernel_rfl⟩
  go_enter Try.func8, Try.ntmps8
  go_wp2_with (first
    | ((with_reducible refine gate_dst (N := 6) rfl ?_)
       refine row_lit Kd.string 9 rfl (N := 6) rfl (xs := [(⟨#[5]⟩ : ByteArray), (⟨#[6]⟩ : ByteArray)]) (inner := [.string (⟨#[5]⟩ : ByteArray), .string (⟨#[6]⟩ : ByteArray)]) ?hr (reps2 (c := [.string (⟨#[5]⟩ : ByteArray)]) (d := [.string (⟨#[6]⟩ : ByteArray)]) rfl rfl rfl rfl) (by simp) ?_; (case hr => first | (go_simp; done) | (go_simp; rfl))
       intro v_a wl hr hu
       obtain ⟨A_a, c_a, rfl⟩ := Kd.R_slice hr
       have R_a := Aside0.mk (row_mono hr (fun k h => h.elim (fun h => h.elim) (fun h => (.inr (Nat.le_trans ((by exact ul HU) : Upd None0 w _).size h) : New w None0 k))))
       
       replace HU := Aside0.mk (((by exact ul HU) : Upd None0 w _).trans hu (fun _ h => h.elim))
       clear hr hu)
    | ((with_reducible refine gate_dst (N := 11) rfl ?_)
       refine row_lit Kd.string 9 rfl (N := 11) rfl (xs := [(⟨#[0, 5]⟩ : ByteArray)]) (inner := [.string (⟨#[0, 5]⟩ : ByteArray)]) ?hr (reps_one (c := [.string (⟨#[0, 5]⟩ : ByteArray)]) rfl rfl) (by simp) ?_; (case hr => first | (go_simp; done) | (go_simp; rfl))
       intro v_b wl hr hu
       obtain ⟨A_b, c_b, rfl⟩ := Kd.R_slice hr
       have R_b := Aside0.mk (row_mono hr (fun k h => h.elim (fun h => h.elim) (fun h => (.inr (Nat.le_trans ((by exact ul HU) : Upd None0 w _).size h) : New w None0 k))))
       replace P_q := Aside0.mk (Qs.updN (by exact P_q.out.updN lu) hu)
       replace HU := Aside0.mk (((by exact ul HU) : Upd None0 w _).trans hu (fun _ h => h.elim))
       clear hr hu)
    | (go_at_call 10
       first
       | ((with_reducible refine (q_newY A_a c_a [(⟨#[5]⟩ : ByteArray), (⟨#[6]⟩ : ByteArray)] 2 rfl _ (by exact rc (rl R_a)) (Kd.R_reads' R_a.out).2.1 (by decide) (by decide +kernel)).mono ?_)
          rintro e wq ⟨g, rfl, hs, hu⟩
          have P_q := Aside0.mk (hs.mono (fun k h => h.elim (fun h => h.elim) (fun h => (.inr (Nat.le_trans ((by exact ul HU) : Upd None0 w _).size h) : New w None0 k))))
          have HLQ := Aside0.mk (List.length_replicate (n := List.length [(⟨#[5]⟩ : ByteArray), (⟨#[6]⟩ : ByteArray)]) (a := z43)).symm
          have HLM := Aside0.mk (show ([(⟨#[5]⟩ : ByteArray), (⟨#[6]⟩ : ByteArray)]).length ≤ 100000 from by decide)
          replace HU := Aside0.mk (((by exact ul HU) : Upd None0 w _).trans hu (fun _ h => h.elim))
          clear hs hu)
       | ((with_reducible refine (q_newN A_b c_b [(⟨#[0, 5]⟩ : ByteArray)] 1 rfl _ (by exact rc (rl R_b)) (by decide) (by decide) (by decide +kernel)).mono ?_)
          rintro e wq ⟨rfl, hu⟩
          replace P_q := Aside0.mk (Qs.updN (by exact P_q.out.updN lu) hu)
          replace HU := Aside0.mk (((by exact ul HU) : Upd None0 w _).trans hu (fun _ h => h.elim))
          clear hu))
    | (go_at_call 15
       (with_reducible refine (q_begin g _ _ _ _ _ _ (Qs.bnd (by exact P_q.out.updN lu))).mono ?_)
       rintro e wq ⟨rfl, hs, hu⟩
       have hs2 := hs.mono Bnd.of
       replace HU := Aside0.mk (((by exact ul HU) : Upd None0 w _).trans hu (fun k hk => .inr (hk.1.elim (fun h => h.elim) id)))
       skip
       clear P_q hs hu; have P_q := Aside0.mk hs2; clear hs2)
    | (go_at_call 16
       (with_reducible refine (q_push g _ _ _ _ _ _ (Qs.bnd (by exact P_q.out.updN lu)) _).mono ?_)
       rintro e wq ⟨rfl, hs, hu⟩
       have hs2 := hs.mono Bnd.of
       replace HU := Aside0.mk (((by exact ul HU) : Upd None0 w _).trans hu (fun k hk => .inr (hk.1.elim (fun h => h.elim) id)))
       skip
       clear P_q hs hu; have P_q := Aside0.mk hs2; clear hs2)
    | (go_at_call 17
       (with_reducible refine (q_dateD g _ _ _ _ _ _ (Qs.bnd (by exact P_q.out.updN lu)) _ HLQ.out HLM.out).mono ?_)
       rintro e wq ⟨rfl, hs, hu, hlq⟩
       have hs2 := hs.mono Bnd.of
       replace HU := Aside0.mk (((by exact ul HU) : Upd None0 w _).trans hu (fun k hk => .inr (hk.1.elim (fun h => h.elim) id)))
       replace HLQ := Aside0.mk hlq
       clear P_q hs hu; have P_q := Aside0.mk hs2; clear hs2)
    | (go_at_call 13
       (with_reducible refine (q_answersN g _ _ _ _ _ _ (by exact P_q.out.updN lu) 2 HN2.out (by decide)).mono ?_)
       rintro e wq ⟨A_s, c_s, rfl, hr, hu⟩
       have R_s := Aside0.mk (row_mono hr (fun k h => h.elim (fun h => h.elim) (fun h => (.inr (Nat.le_trans ((by exact ul HU) : Upd None0 w _).size h) : New w None0 k))))
       rw [HE2.out] at R_s
       replace P_q := Aside0.mk (Qs.updN (by exact P_q.out.updN lu) hu)
       replace HU := Aside0.mk (((by exact ul HU) : Upd None0 w _).trans hu (fun _ h => h.elim))
       clear hr hu)
    | ((with_reducible refine gate_dst (N := 42) rfl ?_)
       refine gate_guard (by first | rfl | kernel_rfl) ?_
       refine row_lit k43 43 rfl (N := 42) rfl (xs := [(⟨true, (⟨#[100]⟩ : ByteArray)⟩ : S43), z43]) (inner := [.bool true, .string (⟨#[100]⟩ : ByteArray), .bool false, .string ByteArray.empty]) ?hr (reps2 (c := [.bool true, .string (⟨#[100]⟩ : ByteArray)]) (d := [.bool false, .string ByteArray.empty]) (k43_mkM _ 0 _ ⟨true, (⟨#[100]⟩ : ByteArray)⟩) rfl (show k43.M _ 0 _ z43 [.bool false, .string ByteArray.empty] from k43_mkM _ 0 _ z43) rfl) (by simp) ?_; (case hr => first | (go_simp; done) | (go_simp; rfl))
       intro v_t wl hr hu
       obtain ⟨A_t, c_t, rfl⟩ := Kd.R_slice hr
       have R_t := Aside0.mk (row_mono hr (fun k h => h.elim (fun h => h.elim) (fun h => (.inr (Nat.le_trans ((by exact ul HU) : Upd None0 w _).size h) : New w None0 k))))
       replace R_s := Aside0.mk (row_upd (rl R_s) hu (fun k _ h => h))
       replace HU := Aside0.mk (((by exact ul HU) : Upd None0 w _).trans hu (fun _ h => h.elim))
       clear hr hu)
    | (go_at_call 12
       (with_reducible refine (same_c A_s A_t c_s c_t _ 2 2 rfl rfl _ (by exact rc (rl R_s)) (Kd.R_reads' R_s.out).2.1 (by exact rc (rl R_t)) (Kd.R_reads' R_t.out).2.1 (by decide)).mono ?_)
       rintro e wq ⟨rfl, hb⟩
       replace HU := Aside0.mk (((by exact ul HU) : Upd None0 w _).trans (Upd.of_below hb.below : Upd None0 _ _) (fun _ h => h.elim))
       clear hb))
  go_ret
  exact ⟨rfl, HU.out⟩

theorem nums_size (l : List Int) (h : Bs.Bytes l) : (strOfNums l).size = l.length := by rw [← bytesOf_length, Bs.bytesOf_nums l h]
theorem bytes_take (s : ByteArray) (i : Nat) : Bs.Bytes ((bytesOf s).take i) := fun x hx => Bs.bytes_of s x (List.mem_of_mem_take hx)
theorem take_next (s : ByteArray) (i : Nat) (h : i < s.size) : (bytesOf s).take (i + 1) = (bytesOf s).take i ++ [bt s (i : Int)] := by
  rw [List.take_add_one]
  have := Bs.drop_at s (i : Int) (by omega) (by omega)
  rw [Int.toNat_natCast] at this
  rw [show (bytesOf s)[i]? = some (bt s (i : Int)) by rw [← List.head?_drop, this]; rfl]
  rfl
theorem qd_other (s : ByteArray) (a : S43) (came : List Int) (d : ByteArray) (hb : Bs.Bytes came) (h : came.length ≠ s.size) : qd [s] [a] came true d = [a] := by
  unfold qd
  split
  · unfold dateL dateF
    simp only [List.zipWith_cons_cons, List.zipWith_nil_left]
    rw [if_neg (fun hh => h (by rw [hh.2, nums_size came hb]))]
  · rfl

set_option maxHeartbeats 16000000 in
set_option maxRecDepth 100000 in
theorem gantletlaw18_QueryLong.any (s mo : ByteArray) (w : World) (hs : s.size ≤ 140737488351232) (hm : mo.size ≤ 140737488351232) :
    Calls Try.prog 6 #[.string s, .string mo] w fun e w' => e = .returned (.bool true) ∧ Upd None0 w w' := by
  have HU := Aside0.mk (Upd.refl None0 w)
  have hu_ := Try.underlying43
  by_cases hz : (100 : Int) < (mo.size : Int)
  case pos =>
    have y1 : decide ((100 : Int) < (mo.size : Int)) = true := decide_eq_true hz
    go_enter Try.func6, Try.ntmps6
    go_wp2_with (first
      | (go_at_call 8
         (with_reducible refine (awake_any _).mono ?_)
         rintro e wq ⟨rfl, hu⟩
         replace HU := Aside0.mk (((by exact ul HU) : Upd None0 w _).trans hu (fun _ h => h.elim))
         clear hu))
    go_ret
    exact ⟨rfl, HU.out⟩
  have y1 : decide ((100 : Int) < (mo.size : Int)) = false := decide_eq_false hz
  by_cases hr : BNum.R s = true
  case neg =>
    have hr2 : BNum.R s = false := by simpa using hr
    have HRR : Aside0 (gantletref18_Right.f 20 s = some false) := ⟨by rw [BNum.right_ref 19 s, hr2]⟩
    go_enter Try.func6, Try.ntmps6
    go_wp2_with (first
      | (go_at_call 8
         (with_reducible refine (awake_any _).mono ?_)
         rintro e wq ⟨rfl, hu⟩
         replace HU := Aside0.mk (((by exact ul HU) : Upd None0 w _).trans hu (fun _ h => h.elim))
         clear hu)
      | (go_at_call 19
         (with_reducible refine (gantletref18_Right.calls 20 s false _ HRR.out).mono ?_)
         rintro e wq ⟨rfl, hb⟩
         replace HU := Aside0.mk (((by exact ul HU) : Upd None0 w _).trans (Upd.of_below hb.below : Upd None0 _ _) (fun _ h => h.elim))
         clear hb))
    go_ret
    exact ⟨rfl, HU.out⟩
  have HRR : Aside0 (gantletref18_Right.f 20 s = some true) := ⟨by rw [BNum.right_ref 19 s, hr]⟩
  have hs20 : 0 < s.size ∧ s.size ≤ 20 := by
    unfold BNum.R at hr
    simp only [Bool.and_eq_true, decide_eq_true_eq] at hr
    exact hr.1
  have HS20 := Aside0.mk hs20
  have HALL : Aside0 (([s].all BNum.R && decide ([s].length ≤ 64)) = true) := ⟨by simp [hr]⟩
  have HSZ : Aside0 (∀ x, x ∈ [s] → x.size ≤ 1000) := ⟨fun x hx => by rw [List.mem_singleton.1 hx]; omega⟩
  obtain ⟨all, hall⟩ : ∃ q, s ++ mo = q := ⟨_, rfl⟩
  have hsz : all.size = s.size + mo.size := by rw [← hall]; exact ByteArray.size_append
  have HM := Aside0.mk (show all.size ≤ 1000 by omega)
  have hsum : s.size + mo.size ≤ 9223372036854775807 := by omega
  have hs2 : (all.size : Int) ≤ 9223372036854775807 := by omega
  have hs3 : (s.size : Int) ≤ 9223372036854775807 := by omega
  have hs4 : (0 : Int) < (s.size : Int) := by omega
  clear hr hz hs hm hs20 hsz
  go_enter Try.func6, Try.ntmps6
  go_wp2_with (first
    | (go_at_call 8
       (with_reducible refine (awake_any _).mono ?_)
       rintro e wq ⟨rfl, hu⟩
       replace HU := Aside0.mk (((by exact ul HU) : Upd None0 w _).trans hu (fun _ h => h.elim))
       clear hu)
    | (go_at_call 19
       (with_reducible refine (gantletref18_Right.calls 20 s true _ HRR.out).mono ?_)
       rintro e wq ⟨rfl, hb⟩
       replace HU := Aside0.mk (((by exact ul HU) : Upd None0 w _).trans (Upd.of_below hb.below : Upd None0 _ _) (fun _ h => h.elim))
       clear hb)
    | ((with_reducible refine gate_dst (N := 25) rfl ?_)
       refine row_lit Kd.string 9 rfl (N := 25) rfl (xs := [s]) (inner := [.string s]) ?hr (reps_one (c := [.string s]) rfl rfl) (by simp) ?_; (case hr => first | (go_simp; done) | (go_simp; rfl))
       intro v_l wl hr hu
       obtain ⟨A_l, c_l, rfl⟩ := Kd.R_slice hr
       have R_l := Aside0.mk (row_mono hr (fun k h => h.elim (fun h => h.elim) (fun h => (.inr (Nat.le_trans ((by exact ul HU) : Upd None0 w _).size h) : New w None0 k))))
       
       replace HU := Aside0.mk (((by exact ul HU) : Upd None0 w _).trans hu (fun _ h => h.elim))
       clear hr hu)
    | (go_at_call 10
       (with_reducible refine (q_newY A_l c_l [s] 1 rfl _ (by exact rc (rl R_l)) (Kd.R_reads' R_l.out).2.1 HSZ.out HALL.out).mono ?_)
       rintro e wq ⟨g, rfl, hs, hu⟩
       have P_q := Aside0.mk (hs.mono (fun k h => h.elim (fun h => h.elim) (fun h => (.inr (Nat.le_trans ((by exact ul HU) : Upd None0 w _).size h) : New w None0 k))))
       have HLQ := Aside0.mk (List.length_replicate (n := List.length [s]) (a := z43)).symm
       have HLM := Aside0.mk (show ([s]).length ≤ 100000 from by simp)
       replace HU := Aside0.mk (((by exact ul HU) : Upd None0 w _).trans hu (fun _ h => h.elim))
       clear hs hu)
    | (go_at_call 15
       (with_reducible refine (q_begin g _ _ _ _ _ _ (Qs.bnd (by exact P_q.out.updN lu))).mono ?_)
       rintro e wq ⟨rfl, hs, hu⟩
       have hs2 := hs.mono Bnd.of
       replace HU := Aside0.mk (((by exact ul HU) : Upd None0 w _).trans hu (fun k hk => .inr (hk.1.elim (fun h => h.elim) id)))
       skip
       clear P_q hs hu; have P_q := Aside0.mk hs2; clear hs2))
  go_loopg [38] all.size (fun gk v38 wr => ∃ i : Nat, v38 = .int .i64 (i : Int) ∧ Aside0 (i ≤ all.size ∧ all.size - i ≤ gk) ∧ Aside0 (Qs wr (New w None0) g [s] [z43] ((bytesOf all).take i) true) ∧ Aside0 (Upd None0 w wr))
  case atStart => exact ⟨0, rfl, ⟨Nat.zero_le _, by omega⟩, ⟨P_q.out⟩, HU⟩
  case round =>
    clear P_q HU HLQ
    obtain ⟨i, rfl, HI, P_q, HU⟩ := hrel
    have hi0 : (0 : Int) ≤ (i : Int) := by omega
    have him : (i : Int) ≤ 1000 := by have := HI.out.1; have := HM.out; omega
    by_cases hlt : i < all.size
    case neg =>
      have hltd : decide ((i : Int) < (all.size : Int)) = false := decide_eq_false (by omega)
      go_wp2_with (first
        | (go_at_call 13
           (with_reducible refine (q_answersN g _ _ _ _ _ _ P_q.out 1 rfl (by decide)).mono ?_)
           rintro e wq ⟨A_s, c_s, rfl, hr, hu⟩
           obtain ⟨gs, rfl⟩ : ∃ gs, A_s = some ⟨gs, 0, none⟩ := by
             obtain ⟨ad, _, h, _⟩ := Kd.C_get (rc hr) z43 0 (by decide) (by decide)
             subst h
             obtain ⟨gs, h⟩ := Kd.R_head hr
             exact ⟨gs, by rw [h]⟩
           obtain ⟨cc, hcl, hM, hcc⟩ := Kd.R_getA hr z43 0 (by decide) (by decide)
           have hcce := k43_openM hM
           have hc0 : wq.cell? ⟨gs, 0, none⟩ = some (.bool false) := by
             have := hcc 0 (.bool false) (by rw [hcce]; rfl)
             simpa [add_plain] using this
           replace HU := Aside0.mk (((by exact ul HU) : Upd None0 w _).trans hu (fun _ h => h.elim))
           clear hr hu hcl hM hcc hcce))
      go_ret
      exact ⟨by simp, HU.out⟩
    have hltd : decide ((i : Int) < (all.size : Int)) = true := decide_eq_true (by omega)
    have hlti : (i : Int) < (all.size : Int) := by omega
    obtain ⟨b, hb⟩ : ∃ q, bt all (i : Int) = q := ⟨_, rfl⟩
    have hbx : ∀ h : i < all.size, (((all[i]'h).toNat : Nat) : Int) = b := by rw [← hb]; exact bt_at all (i : Int)
    have HTK := Aside0.mk (take_next all i hlt)
    rw [hb] at HTK
    have HBY := Aside0.mk (bytes_take all (i + 1))
    have HLN := Aside0.mk (show ((bytesOf all).take (i + 1)).length = i + 1 by rw [List.length_take, bytesOf_length]; omega)
    have HLQ : Aside0 (([s] : List ByteArray).length = ([z43] : List S43).length) := ⟨rfl⟩
    clear hb
    by_cases he : i + 1 = s.size
    · have y2 : ((i : Int) == (s.size : Int) - 1) = true := by rw [beq_iff_eq]; omega
      have y3 : ((i : Int) != (s.size : Int) - 1) = false := by rw [bne_eq_false_iff_eq]; omega
      clear he
      go_wp2_with (first
        | (go_at_call 16
           (with_reducible refine (q_push g _ _ _ _ _ _ (Qs.bnd (by exact P_q.out.updN lu)) _).mono ?_)
           rintro e wq ⟨rfl, hs, hu⟩
           have hs2 := hs.mono Bnd.of
           replace HU := Aside0.mk (((by exact ul HU) : Upd None0 w _).trans hu (fun k hk => .inr (hk.1.elim (fun h => h.elim) id)))
           skip
           clear P_q hs hu; have P_q := Aside0.mk hs2; clear hs2)
        | (go_at_call 17
           (with_reducible refine (q_dateD g _ _ _ _ _ _ (Qs.bnd (by exact P_q.out.updN lu)) _ HLQ.out HLM.out).mono ?_)
           rintro e wq ⟨rfl, hs, hu, hlq⟩
           have hs2 := hs.mono Bnd.of
           replace HU := Aside0.mk (((by exact ul HU) : Upd None0 w _).trans hu (fun k hk => .inr (hk.1.elim (fun h => h.elim) id)))
           replace HLQ := Aside0.mk hlq
           clear P_q hs hu; have P_q := Aside0.mk hs2; clear hs2))
      go_roundg (gk - 1)
      case measure => have := HI.out.2; omega
      case rel => exact ⟨i + 1, by simp, ⟨by omega, by have := HI.out.2; omega⟩, ⟨by rw [HTK.out]; exact P_q.out⟩, HU⟩
    · have y2 : ((i : Int) == (s.size : Int) - 1) = false := by rw [beq_eq_false_iff_ne]; omega
      have y3 : ((i : Int) != (s.size : Int) - 1) = true := by rw [bne_iff_ne]; omega
      have HNE := Aside0.mk he
      clear he
      go_wp2_with (first
        | (go_at_call 16
           (with_reducible refine (q_push g _ _ _ _ _ _ (Qs.bnd (by exact P_q.out.updN lu)) _).mono ?_)
           rintro e wq ⟨rfl, hs, hu⟩
           have hs2 := hs.mono Bnd.of
           replace HU := Aside0.mk (((by exact ul HU) : Upd None0 w _).trans hu (fun k hk => .inr (hk.1.elim (fun h => h.elim) id)))
           skip
           clear P_q hs hu; have P_q := Aside0.mk hs2; clear hs2)
        | (go_at_call 17
           (with_reducible refine (q_dateD g _ _ _ _ _ _ (Qs.bnd (by exact P_q.out.updN lu)) _ HLQ.out HLM.out).mono ?_)
           rintro e wq ⟨rfl, hs, hu, hlq⟩
           have hs2 := hs.mono Bnd.of
           replace HU := Aside0.mk (((by exact ul HU) : Upd None0 w _).trans hu (fun k hk => .inr (hk.1.elim (fun h => h.elim) id)))
           replace HLQ := Aside0.mk hlq
           clear P_q hs hu; have P_q := Aside0.mk hs2; clear hs2))
      go_roundg (gk - 1)
      case measure => have := HI.out.2; omega
      case rel =>
        have h := P_q.out
        rw [← HTK.out, qd_other s z43 _ _ HBY.out (by rw [HLN.out]; exact HNE.out)] at h
        exact ⟨i + 1, by simp, ⟨by omega, by have := HI.out.2; omega⟩, ⟨h⟩, HU⟩

def gantletlaw18_QueryLong.f (a0 : ByteArray) (a1 : ByteArray) : Option Bool := if a0.size ≤ 140737488351232 ∧ a1.size ≤ 140737488351232 then some true else none
theorem gantletlaw18_QueryLong.calls (a0 : ByteArray) (a1 : ByteArray) (r : Bool) (w : World) (h : gantletlaw18_QueryLong.f a0 a1 = some r) :
    Calls Try.prog 6 #[.string a0, .string a1] w fun e w' => e = .returned (.bool r) ∧ Below w.heap.size w w' := by
  unfold gantletlaw18_QueryLong.f at h
  by_cases hz : a0.size ≤ 140737488351232 ∧ a1.size ≤ 140737488351232
  · rw [if_pos hz] at h
    obtain rfl := Option.some.inj h
    exact (gantletlaw18_QueryLong.any a0 a1 w hz.1 hz.2).mono fun e w' ⟨h1, h2⟩ => ⟨h1, h2.below0⟩
  · rw [if_neg hz] at h
    exact absurd h (by simp)

end Go.Proofs.Ytidcmkmlcmjekaa.PA
