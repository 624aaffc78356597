/- What when.Days comes to, walked by hand (its table is an array literal). -/
import Derived.Test.YtailnnjkbiihmaaProg
import Derived.WalkKit
import Derived.KernelRfl
import Derived.BigQuiet
namespace Go.Proofs.Ytailnnjkbiihmaa.Days
open Go.RowKit
set_option linter.unusedVariables false

def leap (y : Int) : Bool := (y % 4 == 0 && y % 100 != 0) || y % 400 == 0
def tab (m : Int) : Int := if m = 2 then 28 else if m = 4 ∨ m = 6 ∨ m = 9 ∨ m = 11 then 30 else 31
def days (y m : Int) : Int := if y < 0 ∨ y > 9999 ∨ m < 1 ∨ m > 12 then 0 else if m = 2 ∧ leap y = true then 29 else tab m

theorem ret_int {k : IntKind} {a b : Int} (h : a = b) : Ending.returned (.int k a) = .returned (.int k b) := by rw [h]
theorem bad (y m : Int) (w : World) (h : y < 0 ∨ y > 9999 ∨ m < 1 ∨ m > 12) :
    Calls Try.prog 18 #[.int .i64 y, .int .i64 m] w fun e w' => e = .returned (.int .i64 0) ∧ w' = w := by
  by_cases h1 : y < 0
  · have d1 : decide (y < 0) = true := by simpa using h1
    go_enter Try.func18, Try.ntmps18
    go_wp2
    go_ret
    exact ⟨rfl, rfl⟩
  have d1 : decide (y < 0) = false := by simpa using h1
  by_cases h2 : y > 9999
  · have d2 : decide ((9999 : Int) < y) = true := by simpa using h2
    go_enter Try.func18, Try.ntmps18
    go_wp2
    go_ret
    exact ⟨rfl, rfl⟩
  have d2 : decide ((9999 : Int) < y) = false := by simpa using h2
  by_cases h3 : m < 1
  · have d3 : decide (m < 1) = true := by simpa using h3
    go_enter Try.func18, Try.ntmps18
    go_wp2
    go_ret
    exact ⟨rfl, rfl⟩
  have d3 : decide (m < 1) = false := by simpa using h3
  have d4 : decide ((12 : Int) < m) = true := by simp; omega
  go_enter Try.func18, Try.ntmps18
  go_wp2
  go_ret
  exact ⟨rfl, rfl⟩
theorem leap_split (y : Int) : leap y = true ∨ leap y = false := by cases leap y <;> simp
theorem at1 (w : World) : (Instr.index 43 (.agg #[.int .i64 31, .int .i64 28, .int .i64 31, .int .i64 30, .int .i64 31, .int .i64 30, .int .i64 31, .int .i64 31, .int .i64 30, .int .i64 31, .int .i64 30, .int .i64 31]) (.int .i64 0)).run Try.prog w = .ok (.int .i64 31) w := by kernel_rfl
theorem at2 (w : World) : (Instr.index 43 (.agg #[.int .i64 31, .int .i64 28, .int .i64 31, .int .i64 30, .int .i64 31, .int .i64 30, .int .i64 31, .int .i64 31, .int .i64 30, .int .i64 31, .int .i64 30, .int .i64 31]) (.int .i64 1)).run Try.prog w = .ok (.int .i64 28) w := by kernel_rfl
theorem at3 (w : World) : (Instr.index 43 (.agg #[.int .i64 31, .int .i64 28, .int .i64 31, .int .i64 30, .int .i64 31, .int .i64 30, .int .i64 31, .int .i64 31, .int .i64 30, .int .i64 31, .int .i64 30, .int .i64 31]) (.int .i64 2)).run Try.prog w = .ok (.int .i64 31) w := by kernel_rfl
theorem at4 (w : World) : (Instr.index 43 (.agg #[.int .i64 31, .int .i64 28, .int .i64 31, .int .i64 30, .int .i64 31, .int .i64 30, .int .i64 31, .int .i64 31, .int .i64 30, .int .i64 31, .int .i64 30, .int .i64 31]) (.int .i64 3)).run Try.prog w = .ok (.int .i64 30) w := by kernel_rfl
theorem at5 (w : World) : (Instr.index 43 (.agg #[.int .i64 31, .int .i64 28, .int .i64 31, .int .i64 30, .int .i64 31, .int .i64 30, .int .i64 31, .int .i64 31, .int .i64 30, .int .i64 31, .int .i64 30, .int .i64 31]) (.int .i64 4)).run Try.prog w = .ok (.int .i64 31) w := by kernel_rfl
theorem at6 (w : World) : (Instr.index 43 (.agg #[.int .i64 31, .int .i64 28, .int .i64 31, .int .i64 30, .int .i64 31, .int .i64 30, .int .i64 31, .int .i64 31, .int .i64 30, .int .i64 31, .int .i64 30, .int .i64 31]) (.int .i64 5)).run Try.prog w = .ok (.int .i64 30) w := by kernel_rfl
theorem at7 (w : World) : (Instr.index 43 (.agg #[.int .i64 31, .int .i64 28, .int .i64 31, .int .i64 30, .int .i64 31, .int .i64 30, .int .i64 31, .int .i64 31, .int .i64 30, .int .i64 31, .int .i64 30, .int .i64 31]) (.int .i64 6)).run Try.prog w = .ok (.int .i64 31) w := by kernel_rfl
theorem at8 (w : World) : (Instr.index 43 (.agg #[.int .i64 31, .int .i64 28, .int .i64 31, .int .i64 30, .int .i64 31, .int .i64 30, .int .i64 31, .int .i64 31, .int .i64 30, .int .i64 31, .int .i64 30, .int .i64 31]) (.int .i64 7)).run Try.prog w = .ok (.int .i64 31) w := by kernel_rfl
theorem at9 (w : World) : (Instr.index 43 (.agg #[.int .i64 31, .int .i64 28, .int .i64 31, .int .i64 30, .int .i64 31, .int .i64 30, .int .i64 31, .int .i64 31, .int .i64 30, .int .i64 31, .int .i64 30, .int .i64 31]) (.int .i64 8)).run Try.prog w = .ok (.int .i64 30) w := by kernel_rfl
theorem at10 (w : World) : (Instr.index 43 (.agg #[.int .i64 31, .int .i64 28, .int .i64 31, .int .i64 30, .int .i64 31, .int .i64 30, .int .i64 31, .int .i64 31, .int .i64 30, .int .i64 31, .int .i64 30, .int .i64 31]) (.int .i64 9)).run Try.prog w = .ok (.int .i64 31) w := by kernel_rfl
theorem at11 (w : World) : (Instr.index 43 (.agg #[.int .i64 31, .int .i64 28, .int .i64 31, .int .i64 30, .int .i64 31, .int .i64 30, .int .i64 31, .int .i64 31, .int .i64 30, .int .i64 31, .int .i64 30, .int .i64 31]) (.int .i64 10)).run Try.prog w = .ok (.int .i64 30) w := by kernel_rfl
theorem at12 (w : World) : (Instr.index 43 (.agg #[.int .i64 31, .int .i64 28, .int .i64 31, .int .i64 30, .int .i64 31, .int .i64 30, .int .i64 31, .int .i64 31, .int .i64 30, .int .i64 31, .int .i64 30, .int .i64 31]) (.int .i64 11)).run Try.prog w = .ok (.int .i64 31) w := by kernel_rfl
theorem good1 (y : Int) (w : World) (h0 : 0 ≤ y) (h1 : y ≤ 9999) :
    Calls Try.prog 18 #[.int .i64 y, .int .i64 1] w fun e w' => e = .returned (.int .i64 31) ∧ w' = w := by
  have d1 : decide (y < 0) = false := by simp; omega
  have d2 : decide ((9999 : Int) < y) = false := by simp; omega
  have i0 := at1
  go_enter Try.func18, Try.ntmps18
  go_wp2
  go_ret
  exact ⟨rfl, rfl⟩
theorem good3 (y : Int) (w : World) (h0 : 0 ≤ y) (h1 : y ≤ 9999) :
    Calls Try.prog 18 #[.int .i64 y, .int .i64 3] w fun e w' => e = .returned (.int .i64 31) ∧ w' = w := by
  have d1 : decide (y < 0) = false := by simp; omega
  have d2 : decide ((9999 : Int) < y) = false := by simp; omega
  have i0 := at3
  go_enter Try.func18, Try.ntmps18
  go_wp2
  go_ret
  exact ⟨rfl, rfl⟩
theorem good4 (y : Int) (w : World) (h0 : 0 ≤ y) (h1 : y ≤ 9999) :
    Calls Try.prog 18 #[.int .i64 y, .int .i64 4] w fun e w' => e = .returned (.int .i64 30) ∧ w' = w := by
  have d1 : decide (y < 0) = false := by simp; omega
  have d2 : decide ((9999 : Int) < y) = false := by simp; omega
  have i0 := at4
  go_enter Try.func18, Try.ntmps18
  go_wp2
  go_ret
  exact ⟨rfl, rfl⟩
theorem good5 (y : Int) (w : World) (h0 : 0 ≤ y) (h1 : y ≤ 9999) :
    Calls Try.prog 18 #[.int .i64 y, .int .i64 5] w fun e w' => e = .returned (.int .i64 31) ∧ w' = w := by
  have d1 : decide (y < 0) = false := by simp; omega
  have d2 : decide ((9999 : Int) < y) = false := by simp; omega
  have i0 := at5
  go_enter Try.func18, Try.ntmps18
  go_wp2
  go_ret
  exact ⟨rfl, rfl⟩
theorem good6 (y : Int) (w : World) (h0 : 0 ≤ y) (h1 : y ≤ 9999) :
    Calls Try.prog 18 #[.int .i64 y, .int .i64 6] w fun e w' => e = .returned (.int .i64 30) ∧ w' = w := by
  have d1 : decide (y < 0) = false := by simp; omega
  have d2 : decide ((9999 : Int) < y) = false := by simp; omega
  have i0 := at6
  go_enter Try.func18, Try.ntmps18
  go_wp2
  go_ret
  exact ⟨rfl, rfl⟩
theorem good7 (y : Int) (w : World) (h0 : 0 ≤ y) (h1 : y ≤ 9999) :
    Calls Try.prog 18 #[.int .i64 y, .int .i64 7] w fun e w' => e = .returned (.int .i64 31) ∧ w' = w := by
  have d1 : decide (y < 0) = false := by simp; omega
  have d2 : decide ((9999 : Int) < y) = false := by simp; omega
  have i0 := at7
  go_enter Try.func18, Try.ntmps18
  go_wp2
  go_ret
  exact ⟨rfl, rfl⟩
theorem good8 (y : Int) (w : World) (h0 : 0 ≤ y) (h1 : y ≤ 9999) :
    Calls Try.prog 18 #[.int .i64 y, .int .i64 8] w fun e w' => e = .returned (.int .i64 31) ∧ w' = w := by
  have d1 : decide (y < 0) = false := by simp; omega
  have d2 : decide ((9999 : Int) < y) = false := by simp; omega
  have i0 := at8
  go_enter Try.func18, Try.ntmps18
  go_wp2
  go_ret
  exact ⟨rfl, rfl⟩
theorem good9 (y : Int) (w : World) (h0 : 0 ≤ y) (h1 : y ≤ 9999) :
    Calls Try.prog 18 #[.int .i64 y, .int .i64 9] w fun e w' => e = .returned (.int .i64 30) ∧ w' = w := by
  have d1 : decide (y < 0) = false := by simp; omega
  have d2 : decide ((9999 : Int) < y) = false := by simp; omega
  have i0 := at9
  go_enter Try.func18, Try.ntmps18
  go_wp2
  go_ret
  exact ⟨rfl, rfl⟩
theorem good10 (y : Int) (w : World) (h0 : 0 ≤ y) (h1 : y ≤ 9999) :
    Calls Try.prog 18 #[.int .i64 y, .int .i64 10] w fun e w' => e = .returned (.int .i64 31) ∧ w' = w := by
  have d1 : decide (y < 0) = false := by simp; omega
  have d2 : decide ((9999 : Int) < y) = false := by simp; omega
  have i0 := at10
  go_enter Try.func18, Try.ntmps18
  go_wp2
  go_ret
  exact ⟨rfl, rfl⟩
theorem good11 (y : Int) (w : World) (h0 : 0 ≤ y) (h1 : y ≤ 9999) :
    Calls Try.prog 18 #[.int .i64 y, .int .i64 11] w fun e w' => e = .returned (.int .i64 30) ∧ w' = w := by
  have d1 : decide (y < 0) = false := by simp; omega
  have d2 : decide ((9999 : Int) < y) = false := by simp; omega
  have i0 := at11
  go_enter Try.func18, Try.ntmps18
  go_wp2
  go_ret
  exact ⟨rfl, rfl⟩
theorem good12 (y : Int) (w : World) (h0 : 0 ≤ y) (h1 : y ≤ 9999) :
    Calls Try.prog 18 #[.int .i64 y, .int .i64 12] w fun e w' => e = .returned (.int .i64 31) ∧ w' = w := by
  have d1 : decide (y < 0) = false := by simp; omega
  have d2 : decide ((9999 : Int) < y) = false := by simp; omega
  have i0 := at12
  go_enter Try.func18, Try.ntmps18
  go_wp2
  go_ret
  exact ⟨rfl, rfl⟩
set_option maxHeartbeats 4000000 in
theorem feb (y : Int) (w : World) (h0 : 0 ≤ y) (h1 : y ≤ 9999) (a b c : Bool) (ha : (y % 4 == 0) = a) (hb : (y % 100 == 0) = b) (hc : (y % 400 == 0) = c) :
    Calls Try.prog 18 #[.int .i64 y, .int .i64 2] w fun e w' => e = .returned (.int .i64 (if ((a && !b) || c) = true then 29 else 28)) ∧ w' = w := by
  have d1 : decide (y < 0) = false := by simp; omega
  have d2 : decide ((9999 : Int) < y) = false := by simp; omega
  have i0 := at2
  have t4 : Int.tmod y 4 = y % 4 := Int.tmod_eq_emod_of_nonneg h0
  have t100 : Int.tmod y 100 = y % 100 := Int.tmod_eq_emod_of_nonneg h0
  have t400 : Int.tmod y 400 = y % 400 := Int.tmod_eq_emod_of_nonneg h0
  have hb' : (y % 100 != 0) = !b := by rw [bne, hb]
  cases a <;> cases b <;> cases c
  all_goals
    simp only [Bool.not_true, Bool.not_false] at hb'
    go_enter Try.func18, Try.ntmps18
    go_wp2
    go_ret
    exact ⟨rfl, rfl⟩
theorem days_any (y m : Int) (w : World) :
    Calls Try.prog 18 #[.int .i64 y, .int .i64 m] w fun e w' => e = .returned (.int .i64 (days y m)) ∧ w' = w := by
  unfold days
  by_cases h : y < 0 ∨ y > 9999 ∨ m < 1 ∨ m > 12
  · rw [if_pos h]; exact bad y m w h
  rw [if_neg h]
  have h0 : 0 ≤ y := by omega
  have h1 : y ≤ 9999 := by omega
  by_cases h2 : m = 2
  · subst h2
    have := feb y w h0 h1 _ _ _ rfl rfl rfl
    simp only [true_and]
    have e : (if leap y = true then (29 : Int) else tab 2) = (if ((y % 4 == 0 && !(y % 100 == 0)) || y % 400 == 0) = true then 29 else 28) := rfl
    rw [e]; exact this
  · rw [if_neg (by rintro ⟨h3, _⟩; exact h2 h3)]
    rcases (by omega : m = 1 ∨ m = 3 ∨ m = 4 ∨ m = 5 ∨ m = 6 ∨ m = 7 ∨ m = 8 ∨ m = 9 ∨ m = 10 ∨ m = 11 ∨ m = 12) with rfl | rfl | rfl | rfl | rfl | rfl | rfl | rfl | rfl | rfl | rfl
    · exact good1 y w h0 h1
    · exact good3 y w h0 h1
    · exact good4 y w h0 h1
    · exact good5 y w h0 h1
    · exact good6 y w h0 h1
    · exact good7 y w h0 h1
    · exact good8 y w h0 h1
    · exact good9 y w h0 h1
    · exact good10 y w h0 h1
    · exact good11 y w h0 h1
    · exact good12 y w h0 h1
end Go.Proofs.Ytailnnjkbiihmaa.Days
