/- What the row of ValueRight stands on, made small by a program of this session (pack.py). -/
import Derived.Test.YtpfconocipmcjaaCValueRight2
import Derived.Test.YtpfconocipmcjaaCValueRight4
namespace Go.Proofs.Ytpfconocipmcjaa.PC
open RowKit YtpfconocipmcjaaW.PrintWords YtpfconocipmcjaaW.PrintLast YtpfconocipmcjaaW.PrintMore
attribute [local go_sem] max2_int min2_int max_two min_two max_three min_three max_four min_four
set_option linter.unusedVariables false
set_option linter.unusedSimpArgs false
mutual
def gantletref14_char.j0 : Nat → ByteArray → Int → Int → Int → Int → Bool → Option (Int)
 | 0, _, _, _, _, _, _ => none
 | k + 1, x0, x1, x5, x6, x7, x21 => if x21 = true then (gantletref14_char.j1 k x0 x1 x5 2 (wrap64 (x5 - 192))) else (gantletref14_char.j1 k x0 x1 x5 x6 x7)
def gantletref14_char.j1 : Nat → ByteArray → Int → Int → Int → Int → Option (Int)
 | 0, _, _, _, _, _ => none
 | k + 1, x0, x1, x5, x6, x7 => if x5 ≥ 224 then (gantletref14_char.j2 k x0 x1 x5 x6 x7 (decide (x5 < 240))) else (gantletref14_char.j2 k x0 x1 x5 x6 x7 false)
def gantletref14_char.j2 : Nat → ByteArray → Int → Int → Int → Int → Bool → Option (Int)
 | 0, _, _, _, _, _, _ => none
 | k + 1, x0, x1, x5, x6, x7, x29 => if x29 = true then (gantletref14_char.j3 k x0 x1 x5 3 (wrap64 (x5 - 224))) else (gantletref14_char.j3 k x0 x1 x5 x6 x7)
def gantletref14_char.j3 : Nat → ByteArray → Int → Int → Int → Int → Option (Int)
 | 0, _, _, _, _, _ => none
 | k + 1, x0, x1, x5, x6, x7 => if x5 ≥ 240 then (gantletref14_char.j4 k x0 x1 x5 x6 x7 (decide (x5 < 248))) else (gantletref14_char.j4 k x0 x1 x5 x6 x7 false)
def gantletref14_char.j4 : Nat → ByteArray → Int → Int → Int → Int → Bool → Option (Int)
 | 0, _, _, _, _, _, _ => none
 | k + 1, x0, x1, x5, x6, x7, x37 => if x37 = true then (gantletref14_char.j5 k x0 x1 4 (wrap64 (x5 - 240))) else (gantletref14_char.j5 k x0 x1 x6 x7)
def gantletref14_char.j5 : Nat → ByteArray → Int → Int → Int → Option (Int)
 | 0, _, _, _, _ => none
 | k + 1, x0, x1, x6, x7 => if x6 = 0 then (gantletref14_char.j6 k x0 x1 x6 x7 true) else (gantletref14_char.j6 k x0 x1 x6 x7 (decide ((wrap64 (x1 + x6)) > (x0.size : Int))))
def gantletref14_char.j6 : Nat → ByteArray → Int → Int → Int → Bool → Option (Int)
 | 0, _, _, _, _, _ => none
 | k + 1, x0, x1, x6, x7, x49 => if x49 = true then (some 0) else (gantletref14_char.l0 k x0 x1 x6 x7 1)
def gantletref14_char.l0 : Nat → ByteArray → Int → Int → Int → Int → Option (Int)
 | 0, _, _, _, _, _ => none
 | k + 1, x0, x1, x6, x7, x8 => if x8 < x6 then (if 0 ≤ (wrap64 (x1 + x8)) then (if (wrap64 (x1 + x8)) < (x0.size : Int) then (if (wrap64 (bt x0 (wrap64 (x1 + x8)))) < 128 then (some 0) else (if (wrap64 (bt x0 (wrap64 (x1 + x8)))) > 191 then (some 0) else (gantletref14_char.l0 k x0 x1 x6 (wrap64 ((wrap64 ((wrap64 (64 * x7)) + (wrap64 (bt x0 (wrap64 (x1 + x8)))))) - 128)) (wrap64 (x8 + 1))))) else (none)) else (none)) else (if x6 = 2 then (if x7 < 128 then (some 0) else (if x6 = 3 then (if x7 < 2048 then (some 0) else (if x6 = 4 then (if x7 < 65536 then (some 0) else (if x7 > 1114111 then (some 0) else (if x7 ≥ 55296 then (if x7 ≤ 57343 then (some 0) else (some x6)) else (some x6)))) else (if x7 ≥ 55296 then (if x7 ≤ 57343 then (some 0) else (some x6)) else (some x6)))) else (if x6 = 4 then (if x7 < 65536 then (some 0) else (if x7 > 1114111 then (some 0) else (if x7 ≥ 55296 then (if x7 ≤ 57343 then (some 0) else (some x6)) else (some x6)))) else (if x7 ≥ 55296 then (if x7 ≤ 57343 then (some 0) else (some x6)) else (some x6))))) else (if x6 = 3 then (if x7 < 2048 then (some 0) else (if x6 = 4 then (if x7 < 65536 then (some 0) else (if x7 > 1114111 then (some 0) else (if x7 ≥ 55296 then (if x7 ≤ 57343 then (some 0) else (some x6)) else (some x6)))) else (if x7 ≥ 55296 then (if x7 ≤ 57343 then (some 0) else (some x6)) else (some x6)))) else (if x6 = 4 then (if x7 < 65536 then (some 0) else (if x7 > 1114111 then (some 0) else (if x7 ≥ 55296 then (if x7 ≤ 57343 then (some 0) else (some x6)) else (some x6)))) else (if x7 ≥ 55296 then (if x7 ≤ 57343 then (some 0) else (some x6)) else (some x6)))))
end
def gantletref14_char.f (k : Nat) (a0 : ByteArray) (a1 : Int) : Option (Int) := if 0 ≤ a1 then (if a1 < (a0.size : Int) then (if (wrap64 (bt a0 a1)) < 128 then (some 1) else (if (wrap64 (bt a0 a1)) ≥ 192 then (gantletref14_char.j0 k a0 a1 (wrap64 (bt a0 a1)) 0 0 (decide ((wrap64 (bt a0 a1)) < 224))) else (gantletref14_char.j0 k a0 a1 (wrap64 (bt a0 a1)) 0 0 false))) else (none)) else (none)
set_option maxHeartbeats 8000000 in
set_option maxRecDepth 100000 in
theorem gantletref14_char.calls (k : Nat) (a0 : ByteArray) (a1 : Int) (r : Int) (w : World) (h : gantletref14_char.f k a0 a1 = some r) :
 Calls Try.prog 66 #[.string a0, .int .i64 a1] w fun e w' => e = .returned (.int .i64 r) ∧ Drawn0 w w' := by
 have H : (if 0 ≤ a1 then (if a1 < (a0.size : Int) then (if (wrap64 (bt a0 a1)) < 128 then (some 1) else (if (wrap64 (bt a0 a1)) ≥ 192 then (gantletref14_char.j0 k a0 a1 (wrap64 (bt a0 a1)) 0 0 (decide ((wrap64 (bt a0 a1)) < 224))) else (gantletref14_char.j0 k a0 a1 (wrap64 (bt a0 a1)) 0 0 false))) else (none)) else (none)) = some r := h
 clear h
 by_cases c3 : 0 ≤ a1
 ·
  rw [if_pos c3] at H
  have c3b0 : decide (0 ≤ a1) = true := decide_eq_true c3
  clear c3
  by_cases c4 : a1 < (a0.size : Int)
  ·
   rw [if_pos c4] at H
   have c4b0 : decide (a1 < (a0.size : Int)) = true := decide_eq_true c4
   clear c4
   by_cases c6 : (wrap64 (bt a0 a1)) < 128
   ·
    rw [if_pos c6] at H
    have c6b0 : decide ((wrap64 (bt a0 a1)) < 128) = true := decide_eq_true c6
    clear c6
    obtain rfl := Option.some.inj H
    have p5 : 0 ≤ (a1 : Int) := of_decide_eq_true zz3
    have q5 : a1 < (a0.size : Int) := of_decide_eq_true zz3
    have hx5 := bt_at a0 a1
    replace p5 := eq_true p5
    replace q5 := eq_true q5
    go_enter Try.func66, Try.ntmps66
    go_wp2
    go_ret
    exact ⟨zz0, zz1⟩
   ·
    rw [if_neg c6] at H
    have c6b0 : decide ((wrap64 (bt a0 a1)) < 128) = false := decide_eq_false c6
    clear c6
    have HC7 := Aside0.mk H
    clear H
    have p5 : 0 ≤ (a1 : Int) := of_decide_eq_true zz3
    have q5 : a1 < (a0.size : Int) := of_decide_eq_true zz3
    have hx5 := bt_at a0 a1
    replace p5 := eq_true p5
    replace q5 := eq_true q5
    go_enter Try.func66, Try.ntmps66
    go_upto_region 6 with (fail)
    go_cut [21] (fun v21 wc => ∃ (kq : Nat) (x21_6 : Bool), v21 = .bool x21_6 ∧ Aside0 (gantletref14_char.j0 kq a0 a1 (wrap64 (bt a0 a1)) 0 0 x21_6 = some r) ∧ Aside0 (kq ≤ k) ∧ Drawn0 w wc)
    case first =>
     have H := HC7.out
     clear HC7
     by_cases c8 : (wrap64 (bt a0 a1)) ≥ 192
     ·
      rw [if_pos c8] at H
      have c8b0 : decide (192 ≤ (wrap64 (bt a0 a1))) = true := decide_eq_true c8
      clear c8
      (first | rw [c8b0] | (simp only [i64_w, i32_w]; rw [c8b0]) | skip)
      have H' := Aside0.mk H
      clear H
      go_wp2
      go_meet
      case rel => exact ⟨_, (decide ((wrap64 (bt a0 a1)) < 224)), zz0, H', ⟨zz25⟩, zz1⟩
     ·
      rw [if_neg c8] at H
      have c8b0 : decide (192 ≤ (wrap64 (bt a0 a1))) = false := decide_eq_false c8
      clear c8
      (first | rw [c8b0] | (simp only [i64_w, i32_w]; rw [c8b0]) | skip)
      have H' := Aside0.mk H
      clear H
      go_wp2
      go_meet
      case rel => exact ⟨_, (false), zz0, H', ⟨zz25⟩, zz1⟩
    case rest =>
     clear HC7
     try clear p2
     try clear c3
     try clear c3b0
     try clear c4
     try clear c4b0
     try clear p5
     try clear q5
     try clear hx5
     try clear c6
     try clear c6b0
     try clear p6
     try clear c8
     try clear c8b0
     try clear p5
     try clear q5
     obtain ⟨kq, x21_6, rfl, HA, HJ6, ⟨mc6, rfl⟩⟩ := hcut
     cases kq with
     | zero => exact absurd HA.out (by simp [gantletref14_char.j0])
     | succ kj6 =>
       have H := HA.out
       clear HA
       simp only [gantletref14_char.j0] at H
       have HC9 := Aside0.mk H
       clear H
       go_upto_if 21 with (fail)
       go_cut [6, 7] (fun v6 v7 wc => ∃ (kq : Nat) (x6_8 : Int) (x7_8 : Int), v6 = .int .i64 x6_8 ∧ v7 = .int .i64 x7_8 ∧ Aside0 (gantletref14_char.j1 kq a0 a1 (wrap64 (bt a0 a1)) x6_8 x7_8 = some r) ∧ Aside0 (kq ≤ kj6) ∧ Drawn0 w wc)
       case first =>
        have H := HC9.out
        clear HC9
        by_cases c10 : x21_6 = true
        ·
         subst c10
         rw [if_pos rfl] at H
         have H' := Aside0.mk H
         clear H
         go_wp2
         go_meet
         case rel => exact ⟨_, (2), (wrap64 ((wrap64 (bt a0 a1)) - 192)), zz0, zz0, H', ⟨by have := HJ6.out; first | omega | exact Nat.le_refl _⟩, zz1⟩
        ·
         replace c10 := Bool.eq_false_iff.mpr c10
         subst c10
         rw [if_neg (show ¬ (false = true) by decide)] at H
         have H' := Aside0.mk H
         clear H
         go_wp2
         go_meet
         case rel => exact ⟨_, (0), (0), zz0, zz0, H', ⟨by have := HJ6.out; first | omega | exact Nat.le_refl _⟩, zz1⟩
       case rest =>
        clear HC9
        try clear c1
        try clear p2
        try clear c3
        try clear c3b0
        try clear c4
        try clear c4b0
        try clear p5
        try clear q5
        try clear hx5
        try clear c6
        try clear c6b0
        try clear p6
        try clear c8
        try clear c8b0
        try clear c10
        try clear p2
        try clear p5
        try clear p6
        try clear q5
        obtain ⟨kq, x6_8, x7_8, rfl, rfl, HA, HJ8, ⟨mc8, rfl⟩⟩ := hcut
        cases kq with
        | zero => exact absurd HA.out (by simp [gantletref14_char.j1])
        | succ kj8 =>
          have H := HA.out
          clear HA
          simp only [gantletref14_char.j1] at H
          have HC11 := Aside0.mk H
          clear H
          go_upto_region 9 with (fail)
          go_cut [29] (fun v29 wc => ∃ (kq : Nat) (x29_10 : Bool), v29 = .bool x29_10 ∧ Aside0 (gantletref14_char.j2 kq a0 a1 (wrap64 (bt a0 a1)) x6_8 x7_8 x29_10 = some r) ∧ Aside0 (kq ≤ kj8) ∧ Drawn0 w wc)
          case first =>
           have H := HC11.out
           clear HC11
           by_cases c12 : (wrap64 (bt a0 a1)) ≥ 224
           ·
            rw [if_pos c12] at H
            have c12b0 : decide (224 ≤ (wrap64 (bt a0 a1))) = true := decide_eq_true c12
            clear c12
            (first | rw [c12b0] | (simp only [i64_w, i32_w]; rw [c12b0]) | skip)
            have H' := Aside0.mk H
            clear H
            go_wp2
            go_meet
            case rel => exact ⟨_, (decide ((wrap64 (bt a0 a1)) < 240)), zz0, H', ⟨by have := HJ6.out; have := HJ8.out; first | omega | exact Nat.le_refl _⟩, zz1⟩
           ·
            rw [if_neg c12] at H
            have c12b0 : decide (224 ≤ (wrap64 (bt a0 a1))) = false := decide_eq_false c12
            clear c12
            (first | rw [c12b0] | (simp only [i64_w, i32_w]; rw [c12b0]) | skip)
            have H' := Aside0.mk H
            clear H
            go_wp2
            go_meet
            case rel => exact ⟨_, (false), zz0, H', ⟨by have := HJ6.out; have := HJ8.out; first | omega | exact Nat.le_refl _⟩, zz1⟩
          case rest =>
           clear HC11
           try clear c1
           try clear p2
           try clear c3
           try clear c3b0
           try clear c4
           try clear c4b0
           try clear p5
           try clear q5
           try clear hx5
           try clear c6
           try clear c6b0
           try clear p6
           try clear c8
           try clear c8b0
           try clear c10
           try clear c12
           try clear c12b0
           try clear p2
           try clear p5
           try clear p6
           try clear q5
           obtain ⟨kq, x29_10, rfl, HA, HJ10, ⟨mc10, rfl⟩⟩ := hcut
           cases kq with
           | zero => exact absurd HA.out (by simp [gantletref14_char.j2])
           | succ kj10 =>
             have H := HA.out
             clear HA
             simp only [gantletref14_char.j2] at H
             have HC13 := Aside0.mk H
             clear H
             go_upto_if 29 with (fail)
             go_cut [6, 7] (fun v6 v7 wc => ∃ (kq : Nat) (x6_12 : Int) (x7_12 : Int), v6 = .int .i64 x6_12 ∧ v7 = .int .i64 x7_12 ∧ Aside0 (gantletref14_char.j3 kq a0 a1 (wrap64 (bt a0 a1)) x6_12 x7_12 = some r) ∧ Aside0 (kq ≤ kj10) ∧ Drawn0 w wc)
             case first =>
              have H := HC13.out
              clear HC13
              by_cases c14 : x29_10 = true
              ·
               subst c14
               rw [if_pos rfl] at H
               have H' := Aside0.mk H
               clear H
               go_wp2
               go_meet
               case rel => exact ⟨_, (3), (wrap64 ((wrap64 (bt a0 a1)) - 224)), zz0, zz0, H', ⟨by have := HJ6.out; have := HJ8.out; have := HJ10.out; first | omega | exact Nat.le_refl _⟩, zz1⟩
              ·
               replace c14 := Bool.eq_false_iff.mpr c14
               subst c14
               rw [if_neg (show ¬ (false = true) by decide)] at H
               have H' := Aside0.mk H
               clear H
               go_wp2
               go_meet
               case rel => exact ⟨_, (x6_8), (x7_8), zz0, zz0, H', ⟨by have := HJ6.out; have := HJ8.out; have := HJ10.out; first | omega | exact Nat.le_refl _⟩, zz1⟩
             case rest =>
              clear HC13
              try clear c1
              try clear p2
              try clear c3
              try clear c3b0
              try clear c4
              try clear c4b0
              try clear p5
              try clear q5
              try clear hx5
              try clear c6
              try clear c6b0
              try clear p6
              try clear c8
              try clear c8b0
              try clear c10
              try clear c12
              try clear c12b0
              try clear c14
              try clear p2
              try clear p5
              try clear p6
              try clear q5
              obtain ⟨kq, x6_12, x7_12, rfl, rfl, HA, HJ12, ⟨mc12, rfl⟩⟩ := hcut
              cases kq with
              | zero => exact absurd HA.out (by simp [gantletref14_char.j3])
              | succ kj12 =>
                have H := HA.out
                clear HA
                simp only [gantletref14_char.j3] at H
                have HC15 := Aside0.mk H
                clear H
                go_upto_region 12 with (fail)
                go_cut [37] (fun v37 wc => ∃ (kq : Nat) (x37_14 : Bool), v37 = .bool x37_14 ∧ Aside0 (gantletref14_char.j4 kq a0 a1 (wrap64 (bt a0 a1)) x6_12 x7_12 x37_14 = some r) ∧ Aside0 (kq ≤ kj12) ∧ Drawn0 w wc)
                case first =>
                 have H := HC15.out
                 clear HC15
                 by_cases c16 : (wrap64 (bt a0 a1)) ≥ 240
                 ·
                  rw [if_pos c16] at H
                  have c16b0 : decide (240 ≤ (wrap64 (bt a0 a1))) = true := decide_eq_true c16
                  clear c16
                  (first | rw [c16b0] | (simp only [i64_w, i32_w]; rw [c16b0]) | skip)
                  have H' := Aside0.mk H
                  clear H
                  go_wp2
                  go_meet
                  case rel => exact ⟨_, (decide ((wrap64 (bt a0 a1)) < 248)), zz0, H', ⟨by have := HJ6.out; have := HJ8.out; have := HJ10.out; have := HJ12.out; first | omega | exact Nat.le_refl _⟩, zz1⟩
                 ·
                  rw [if_neg c16] at H
                  have c16b0 : decide (240 ≤ (wrap64 (bt a0 a1))) = false := decide_eq_false c16
                  clear c16
                  (first | rw [c16b0] | (simp only [i64_w, i32_w]; rw [c16b0]) | skip)
                  have H' := Aside0.mk H
                  clear H
                  go_wp2
                  go_meet
                  case rel => exact ⟨_, (false), zz0, H', ⟨by have := HJ6.out; have := HJ8.out; have := HJ10.out; have := HJ12.out; first | omega | exact Nat.le_refl _⟩, zz1⟩
                case rest =>
                 clear HC15
                 try clear c1
                 try clear p2
                 try clear c3
                 try clear c3b0
                 try clear c4
                 try clear c4b0
                 try clear p5
                 try clear q5
                 try clear hx5
                 try clear c6
                 try clear c6b0
                 try clear p6
                 try clear c8
                 try clear c8b0
                 try clear c10
                 try clear c12
                 try clear c12b0
                 try clear c14
                 try clear c16
                 try clear c16b0
                 try clear p2
                 try clear p5
                 try clear p6
                 try clear q5
                 obtain ⟨kq, x37_14, rfl, HA, HJ14, ⟨mc14, rfl⟩⟩ := hcut
                 cases kq with
                 | zero => exact absurd HA.out (by simp [gantletref14_char.j4])
                 | succ kj14 =>
                   have H := HA.out
                   clear HA
                   simp only [gantletref14_char.j4] at H
                   have HC17 := Aside0.mk H
                   clear H
                   go_upto_if 37 with (fail)
                   go_cut [6, 7] (fun v6 v7 wc => ∃ (kq : Nat) (x6_16 : Int) (x7_16 : Int), v6 = .int .i64 x6_16 ∧ v7 = .int .i64 x7_16 ∧ Aside0 (gantletref14_char.j5 kq a0 a1 x6_16 x7_16 = some r) ∧ Aside0 (kq ≤ kj14) ∧ Drawn0 w wc)
                   case first =>
                    have H := HC17.out
                    clear HC17
                    by_cases c18 : x37_14 = true
                    ·
                     subst c18
                     rw [if_pos rfl] at H
                     have H' := Aside0.mk H
                     clear H
                     go_wp2
                     go_meet
                     case rel => exact ⟨_, (4), (wrap64 ((wrap64 (bt a0 a1)) - 240)), zz0, zz0, H', ⟨by have := HJ6.out; have := HJ8.out; have := HJ10.out; have := HJ12.out; have := HJ14.out; first | omega | exact Nat.le_refl _⟩, zz1⟩
                    ·
                     replace c18 := Bool.eq_false_iff.mpr c18
                     subst c18
                     rw [if_neg (show ¬ (false = true) by decide)] at H
                     have H' := Aside0.mk H
                     clear H
                     go_wp2
                     go_meet
                     case rel => exact ⟨_, (x6_12), (x7_12), zz0, zz0, H', ⟨by have := HJ6.out; have := HJ8.out; have := HJ10.out; have := HJ12.out; have := HJ14.out; first | omega | exact Nat.le_refl _⟩, zz1⟩
                   case rest =>
                    clear HC17
                    try clear c1
                    try clear p2
                    try clear c3
                    try clear c3b0
                    try clear c4
                    try clear c4b0
                    try clear p5
                    try clear q5
                    try clear hx5
                    try clear c6
                    try clear c6b0
                    try clear p6
                    try clear c8
                    try clear c8b0
                    try clear c10
                    try clear c12
                    try clear c12b0
                    try clear c14
                    try clear c16
                    try clear c16b0
                    try clear c18
                    try clear p2
                    try clear p5
                    try clear p6
                    try clear q5
                    obtain ⟨kq, x6_16, x7_16, rfl, rfl, HA, HJ16, ⟨mc16, rfl⟩⟩ := hcut
                    cases kq with
                    | zero => exact absurd HA.out (by simp [gantletref14_char.j5])
                    | succ kj16 =>
                      have H := HA.out
                      clear HA
                      simp only [gantletref14_char.j5] at H
                      have HC19 := Aside0.mk H
                      clear H
                      go_upto_region 15 with (fail)
                      go_cut [49] (fun v49 wc => ∃ (kq : Nat) (x49_18 : Bool), v49 = .bool x49_18 ∧ Aside0 (gantletref14_char.j6 kq a0 a1 x6_16 x7_16 x49_18 = some r) ∧ Aside0 (kq ≤ kj16) ∧ Drawn0 w wc)
                      case first =>
                       have H := HC19.out
                       clear HC19
                       by_cases c20 : x6_16 = 0
                       ·
                        rw [if_pos c20] at H
                        have c20b0 : (x6_16 == 0) = true := beq_iff_eq.mpr c20
                        have c20b1 : (x6_16 != 0) = false := bne_eq_false_iff_eq.mpr c20
                        clear c20
                        (first | rw [c20b0] | (simp only [i64_w, i32_w]; rw [c20b0]) | skip)
                        have H' := Aside0.mk H
                        clear H
                        go_wp2
                        go_meet
                        case rel => exact ⟨_, (true), zz0, H', ⟨by have := HJ6.out; have := HJ8.out; have := HJ10.out; have := HJ12.out; have := HJ14.out; have := HJ16.out; first | omega | exact Nat.le_refl _⟩, zz1⟩
                       ·
                        rw [if_neg c20] at H
                        have c20b0 : (x6_16 == 0) = false := beq_eq_false_iff_ne.mpr c20
                        have c20b1 : (x6_16 != 0) = true := bne_iff_ne.mpr c20
                        (first | rw [c20b0] | (simp only [i64_w, i32_w]; rw [c20b0]) | skip)
                        have H' := Aside0.mk H
                        clear H
                        go_wp2
                        go_meet
                        case rel => exact ⟨_, (decide ((wrap64 (a1 + x6_16)) > (a0.size : Int))), zz0, H', ⟨by have := HJ6.out; have := HJ8.out; have := HJ10.out; have := HJ12.out; have := HJ14.out; have := HJ16.out; first | omega | exact Nat.le_refl _⟩, zz1⟩
                      case rest =>
                       clear HC19
                       try clear c1
                       try clear c2
                       try clear p2
                       try clear c3
                       try clear c3b0
                       try clear c4
                       try clear c4b0
                       try clear p5
                       try clear q5
                       try clear hx5
                       try clear c6
                       try clear c6b0
                       try clear p6
                       try clear c8
                       try clear c8b0
                       try clear c10
                       try clear c12
                       try clear c12b0
                       try clear c14
                       try clear c16
                       try clear c16b0
                       try clear c18
                       try clear c20
                       try clear c20b0
                       try clear c20b1
                       try clear p2
                       try clear p5
                       try clear p6
                       try clear q5
                       obtain ⟨kq, x49_18, rfl, HA, HJ18, ⟨mc18, rfl⟩⟩ := hcut
                       cases kq with
                       | zero => exact absurd HA.out (by simp [gantletref14_char.j6])
                       | succ kj18 =>
                         have H := HA.out
                         clear HA
                         simp only [gantletref14_char.j6] at H
                         by_cases c21 : x49_18 = true
                         ·
                          subst c21
                          rw [if_pos rfl] at H
                          obtain rfl := Option.some.inj H
                          go_wp2
                          go_ret
                          exact ⟨zz0, zz1⟩
                         ·
                          replace c21 := Bool.eq_false_iff.mpr c21
                          subst c21
                          rw [if_neg (show ¬ (false = true) by decide)] at H
                          have H' := Aside0.mk H
                          clear H
                          go_wp2
                          go_loopg [7, 8] kj18 (fun kq v7 v8 w' => ∃ (x7_8 : Int) (x8_8 : Int), v7 = .int .i64 x7_8 ∧ v8 = .int .i64 x8_8 ∧ Aside0 (gantletref14_char.l0 kq a0 a1 x6_16 x7_8 x8_8 = some r) ∧ Aside0 (kq ≤ kj18) ∧ Drawn0 w w')
                          case atStart => exact ⟨(x7_16), (1), zz0, zz0, H', ⟨Nat.le_refl _⟩, zz1⟩
                          case round =>
                           clear H'
                           try clear c1
                           try clear c2
                           try clear p2
                           try clear c3
                           try clear c3b0
                           try clear c4
                           try clear c4b0
                           try clear p5
                           try clear q5
                           try clear hx5
                           try clear c6
                           try clear c6b0
                           try clear p6
                           try clear c8
                           try clear c8b0
                           try clear c10
                           try clear c12
                           try clear c12b0
                           try clear c14
                           try clear c16
                           try clear c16b0
                           try clear c18
                           try clear c20
                           try clear c20b0
                           try clear c20b1
                           try clear c21
                           try clear p2
                           try clear p5
                           try clear p6
                           try clear q5
                           obtain ⟨x7_8, x8_8, rfl, rfl, HA, HK8, ⟨m8, rfl⟩⟩ := hrel
                           cases gk with
                           | zero => exact absurd HA.out (by simp [gantletref14_char.l0])
                           | succ k8 =>
                             have H := HA.out
                             clear HA
                             simp only [gantletref14_char.l0] at H
                             by_cases c22 : x8_8 < x6_16
                             ·
                              rw [if_pos c22] at H
                              have c22b0 : decide (x8_8 < x6_16) = true := decide_eq_true c22
                              clear c22
                              obtain ⟨ji23, hji23⟩ : ∃ j_ : Int, (wrap64 (a1 + x8_8)) = j_ := ⟨_, rfl⟩
                              replace H : (if 0 ≤ (ji23) then (if (ji23) < (a0.size : Int) then (if (wrap64 (bt a0 (ji23))) < 128 then (some 0) else (if (wrap64 (bt a0 (ji23))) > 191 then (some 0) else (gantletref14_char.l0 k8 a0 a1 x6_16 (wrap64 ((wrap64 ((wrap64 (64 * x7_8)) + (wrap64 (bt a0 (ji23))))) - 128)) (wrap64 (x8_8 + 1))))) else (none)) else (none)) = some r := by first | (rw [hji23] at H; exact H) | (simp only [hji23] at H ⊢; exact H)
                              have hji23w : (IntKind.i64.wrap (a1 + x8_8)) = ji23 := (i64_w _).trans hji23
                              by_cases c24 : 0 ≤ (ji23)
                              ·
                               rw [if_pos c24] at H
                               have c24b0 : decide (0 ≤ (ji23)) = true := decide_eq_true c24
                               clear c24
                               by_cases c25 : (ji23) < (a0.size : Int)
                               ·
                                rw [if_pos c25] at H
                                have c25b0 : decide ((ji23) < (a0.size : Int)) = true := decide_eq_true c25
                                clear c25
                                by_cases c27 : (wrap64 (bt a0 (ji23))) < 128
                                ·
                                 rw [if_pos c27] at H
                                 have c27b0 : decide ((wrap64 (bt a0 (ji23))) < 128) = true := decide_eq_true c27
                                 clear c27
                                 obtain rfl := Option.some.inj H
                                 have p26 : 0 ≤ ((ji23) : Int) := of_decide_eq_true zz3
                                 have q26 : (ji23) < (a0.size : Int) := of_decide_eq_true zz3
                                 have hx26 := bt_at a0 (ji23)
                                 replace p26 := eq_true p26
                                 replace q26 := eq_true q26
                                 go_wp2
                                 go_ret
                                 exact ⟨by first | rfl | (simp; done) | (simp only [← hji23] <;> (first | rfl | simp)) | (simp [*]; done), zz1⟩
                                ·
                                 rw [if_neg c27] at H
                                 have c27b0 : decide ((wrap64 (bt a0 (ji23))) < 128) = false := decide_eq_false c27
                                 clear c27
                                 by_cases c28 : (wrap64 (bt a0 (ji23))) > 191
                                 ·
                                  rw [if_pos c28] at H
                                  have c28b0 : decide (191 < (wrap64 (bt a0 (ji23)))) = true := decide_eq_true c28
                                  clear c28
                                  obtain rfl := Option.some.inj H
                                  have p26 : 0 ≤ ((ji23) : Int) := of_decide_eq_true zz3
                                  have q26 : (ji23) < (a0.size : Int) := of_decide_eq_true zz3
                                  have hx26 := bt_at a0 (ji23)
                                  replace p26 := eq_true p26
                                  replace q26 := eq_true q26
                                  go_wp2
                                  go_ret
                                  exact ⟨by first | rfl | (simp; done) | (simp only [← hji23] <;> (first | rfl | simp)) | (simp [*]; done), zz1⟩
                                 ·
                                  rw [if_neg c28] at H
                                  have c28b0 : decide (191 < (wrap64 (bt a0 (ji23)))) = false := decide_eq_false c28
                                  clear c28
                                  have H' := Aside0.mk H
                                  clear H
                                  have p26 : 0 ≤ ((ji23) : Int) := of_decide_eq_true zz3
                                  have q26 : (ji23) < (a0.size : Int) := of_decide_eq_true zz3
                                  have hx26 := bt_at a0 (ji23)
                                  replace p26 := eq_true p26
                                  replace q26 := eq_true q26
                                  go_wp2
                                  go_roundg k8
                                  case measure => have := HJ6.out; have := HJ8.out; have := HJ10.out; have := HJ12.out; have := HJ14.out; have := HJ16.out; have := HJ18.out; have := HK8.out; omega
                                  case rel => exact ⟨(wrap64 ((wrap64 ((wrap64 (64 * x7_8)) + (wrap64 (bt a0 (ji23))))) - 128)), (wrap64 (x8_8 + 1)), (by first | rfl | (simp; done) | (simp only [← hji23] <;> (first | rfl | simp)) | (simp [*]; done)), zz0, H', ⟨by have := HJ6.out; have := HJ8.out; have := HJ10.out; have := HJ12.out; have := HJ14.out; have := HJ16.out; have := HJ18.out; have := HK8.out; omega⟩, zz1⟩
                               ·
                                rw [if_neg c25] at H
                                exact absurd H zz30
                              ·
                               rw [if_neg c24] at H
                               exact absurd H zz30
                             ·
                              rw [if_neg c22] at H
                              have c22b0 : decide (x8_8 < x6_16) = false := decide_eq_false c22
                              clear c22
                              by_cases c29 : x6_16 = 2
                              ·
                               rw [if_pos c29] at H
                               have c29b0 : (x6_16 == 2) = true := beq_iff_eq.mpr c29
                               have c29b1 : (x6_16 != 2) = false := bne_eq_false_iff_eq.mpr c29
                               clear c29
                               by_cases c30 : x7_8 < 128
                               ·
                                rw [if_pos c30] at H
                                have c30b0 : decide (x7_8 < 128) = true := decide_eq_true c30
                                clear c30
                                obtain rfl := Option.some.inj H
                                go_wp2
                                go_ret
                                exact ⟨zz0, zz1⟩
                               ·
                                rw [if_neg c30] at H
                                have c30b0 : decide (x7_8 < 128) = false := decide_eq_false c30
                                clear c30
                                by_cases c31 : x6_16 = 3
                                ·
                                 rw [if_pos c31] at H
                                 have c31b0 : (x6_16 == 3) = true := beq_iff_eq.mpr c31
                                 have c31b1 : (x6_16 != 3) = false := bne_eq_false_iff_eq.mpr c31
                                 clear c31
                                 by_cases c32 : x7_8 < 2048
                                 ·
                                  rw [if_pos c32] at H
                                  have c32b0 : decide (x7_8 < 2048) = true := decide_eq_true c32
                                  clear c32
                                  obtain rfl := Option.some.inj H
                                  go_wp2
                                  go_ret
                                  exact ⟨zz0, zz1⟩
                                 ·
                                  rw [if_neg c32] at H
                                  have c32b0 : decide (x7_8 < 2048) = false := decide_eq_false c32
                                  clear c32
                                  by_cases c33 : x6_16 = 4
                                  ·
                                   rw [if_pos c33] at H
                                   have c33b0 : (x6_16 == 4) = true := beq_iff_eq.mpr c33
                                   have c33b1 : (x6_16 != 4) = false := bne_eq_false_iff_eq.mpr c33
                                   clear c33
                                   by_cases c34 : x7_8 < 65536
                                   ·
                                    rw [if_pos c34] at H
                                    have c34b0 : decide (x7_8 < 65536) = true := decide_eq_true c34
                                    clear c34
                                    obtain rfl := Option.some.inj H
                                    go_wp2
                                    go_ret
                                    exact ⟨zz0, zz1⟩
                                   ·
                                    rw [if_neg c34] at H
                                    have c34b0 : decide (x7_8 < 65536) = false := decide_eq_false c34
                                    clear c34
                                    by_cases c35 : x7_8 > 1114111
                                    ·
                                     rw [if_pos c35] at H
                                     have c35b0 : decide (1114111 < x7_8) = true := decide_eq_true c35
                                     clear c35
                                     obtain rfl := Option.some.inj H
                                     go_wp2
                                     go_ret
                                     exact ⟨zz0, zz1⟩
                                    ·
                                     rw [if_neg c35] at H
                                     have c35b0 : decide (1114111 < x7_8) = false := decide_eq_false c35
                                     clear c35
                                     by_cases c36 : x7_8 ≥ 55296
                                     ·
                                      rw [if_pos c36] at H
                                      have c36b0 : decide (55296 ≤ x7_8) = true := decide_eq_true c36
                                      clear c36
                                      by_cases c37 : x7_8 ≤ 57343
                                      ·
                                       rw [if_pos c37] at H
                                       have c37b0 : decide (x7_8 ≤ 57343) = true := decide_eq_true c37
                                       clear c37
                                       obtain rfl := Option.some.inj H
                                       go_wp2
                                       go_ret
                                       exact ⟨zz0, zz1⟩
                                      ·
                                       rw [if_neg c37] at H
                                       have c37b0 : decide (x7_8 ≤ 57343) = false := decide_eq_false c37
                                       clear c37
                                       obtain rfl := Option.some.inj H
                                       go_wp2
                                       go_ret
                                       exact ⟨zz0, zz1⟩
                                     ·
                                      rw [if_neg c36] at H
                                      have c36b0 : decide (55296 ≤ x7_8) = false := decide_eq_false c36
                                      clear c36
                                      obtain rfl := Option.some.inj H
                                      go_wp2
                                      go_ret
                                      exact ⟨zz0, zz1⟩
                                  ·
                                   rw [if_neg c33] at H
                                   have c33b0 : (x6_16 == 4) = false := beq_eq_false_iff_ne.mpr c33
                                   have c33b1 : (x6_16 != 4) = true := bne_iff_ne.mpr c33
                                   by_cases c38 : x7_8 ≥ 55296
                                   ·
                                    rw [if_pos c38] at H
                                    have c38b0 : decide (55296 ≤ x7_8) = true := decide_eq_true c38
                                    clear c38
                                    by_cases c39 : x7_8 ≤ 57343
                                    ·
                                     rw [if_pos c39] at H
                                     have c39b0 : decide (x7_8 ≤ 57343) = true := decide_eq_true c39
                                     clear c39
                                     obtain rfl := Option.some.inj H
                                     go_wp2
                                     go_ret
                                     exact ⟨zz0, zz1⟩
                                    ·
                                     rw [if_neg c39] at H
                                     have c39b0 : decide (x7_8 ≤ 57343) = false := decide_eq_false c39
                                     clear c39
                                     obtain rfl := Option.some.inj H
                                     go_wp2
                                     go_ret
                                     exact ⟨zz0, zz1⟩
                                   ·
                                    rw [if_neg c38] at H
                                    have c38b0 : decide (55296 ≤ x7_8) = false := decide_eq_false c38
                                    clear c38
                                    obtain rfl := Option.some.inj H
                                    go_wp2
                                    go_ret
                                    exact ⟨zz0, zz1⟩
                                ·
                                 rw [if_neg c31] at H
                                 have c31b0 : (x6_16 == 3) = false := beq_eq_false_iff_ne.mpr c31
                                 have c31b1 : (x6_16 != 3) = true := bne_iff_ne.mpr c31
                                 by_cases c40 : x6_16 = 4
                                 ·
                                  rw [if_pos c40] at H
                                  have c40b0 : (x6_16 == 4) = true := beq_iff_eq.mpr c40
                                  have c40b1 : (x6_16 != 4) = false := bne_eq_false_iff_eq.mpr c40
                                  clear c40
                                  by_cases c41 : x7_8 < 65536
                                  ·
                                   rw [if_pos c41] at H
                                   have c41b0 : decide (x7_8 < 65536) = true := decide_eq_true c41
                                   clear c41
                                   obtain rfl := Option.some.inj H
                                   go_wp2
                                   go_ret
                                   exact ⟨zz0, zz1⟩
                                  ·
                                   rw [if_neg c41] at H
                                   have c41b0 : decide (x7_8 < 65536) = false := decide_eq_false c41
                                   clear c41
                                   by_cases c42 : x7_8 > 1114111
                                   ·
                                    rw [if_pos c42] at H
                                    have c42b0 : decide (1114111 < x7_8) = true := decide_eq_true c42
                                    clear c42
                                    obtain rfl := Option.some.inj H
                                    go_wp2
                                    go_ret
                                    exact ⟨zz0, zz1⟩
                                   ·
                                    rw [if_neg c42] at H
                                    have c42b0 : decide (1114111 < x7_8) = false := decide_eq_false c42
                                    clear c42
                                    by_cases c43 : x7_8 ≥ 55296
                                    ·
                                     rw [if_pos c43] at H
                                     have c43b0 : decide (55296 ≤ x7_8) = true := decide_eq_true c43
                                     clear c43
                                     by_cases c44 : x7_8 ≤ 57343
                                     ·
                                      rw [if_pos c44] at H
                                      have c44b0 : decide (x7_8 ≤ 57343) = true := decide_eq_true c44
                                      clear c44
                                      obtain rfl := Option.some.inj H
                                      go_wp2
                                      go_ret
                                      exact ⟨zz0, zz1⟩
                                     ·
                                      rw [if_neg c44] at H
                                      have c44b0 : decide (x7_8 ≤ 57343) = false := decide_eq_false c44
                                      clear c44
                                      obtain rfl := Option.some.inj H
                                      go_wp2
                                      go_ret
                                      exact ⟨zz0, zz1⟩
                                    ·
                                     rw [if_neg c43] at H
                                     have c43b0 : decide (55296 ≤ x7_8) = false := decide_eq_false c43
                                     clear c43
                                     obtain rfl := Option.some.inj H
                                     go_wp2
                                     go_ret
                                     exact ⟨zz0, zz1⟩
                                 ·
                                  rw [if_neg c40] at H
                                  have c40b0 : (x6_16 == 4) = false := beq_eq_false_iff_ne.mpr c40
                                  have c40b1 : (x6_16 != 4) = true := bne_iff_ne.mpr c40
                                  by_cases c45 : x7_8 ≥ 55296
                                  ·
                                   rw [if_pos c45] at H
                                   have c45b0 : decide (55296 ≤ x7_8) = true := decide_eq_true c45
                                   clear c45
                                   by_cases c46 : x7_8 ≤ 57343
                                   ·
                                    rw [if_pos c46] at H
                                    have c46b0 : decide (x7_8 ≤ 57343) = true := decide_eq_true c46
                                    clear c46
                                    obtain rfl := Option.some.inj H
                                    go_wp2
                                    go_ret
                                    exact ⟨zz0, zz1⟩
                                   ·
                                    rw [if_neg c46] at H
                                    have c46b0 : decide (x7_8 ≤ 57343) = false := decide_eq_false c46
                                    clear c46
                                    obtain rfl := Option.some.inj H
                                    go_wp2
                                    go_ret
                                    exact ⟨zz0, zz1⟩
                                  ·
                                   rw [if_neg c45] at H
                                   have c45b0 : decide (55296 ≤ x7_8) = false := decide_eq_false c45
                                   clear c45
                                   obtain rfl := Option.some.inj H
                                   go_wp2
                                   go_ret
                                   exact ⟨zz0, zz1⟩
                              ·
                               rw [if_neg c29] at H
                               have c29b0 : (x6_16 == 2) = false := beq_eq_false_iff_ne.mpr c29
                               have c29b1 : (x6_16 != 2) = true := bne_iff_ne.mpr c29
                               by_cases c47 : x6_16 = 3
                               ·
                                rw [if_pos c47] at H
                                have c47b0 : (x6_16 == 3) = true := beq_iff_eq.mpr c47
                                have c47b1 : (x6_16 != 3) = false := bne_eq_false_iff_eq.mpr c47
                                clear c47
                                by_cases c48 : x7_8 < 2048
                                ·
                                 rw [if_pos c48] at H
                                 have c48b0 : decide (x7_8 < 2048) = true := decide_eq_true c48
                                 clear c48
                                 obtain rfl := Option.some.inj H
                                 go_wp2
                                 go_ret
                                 exact ⟨zz0, zz1⟩
                                ·
                                 rw [if_neg c48] at H
                                 have c48b0 : decide (x7_8 < 2048) = false := decide_eq_false c48
                                 clear c48
                                 by_cases c49 : x6_16 = 4
                                 ·
                                  rw [if_pos c49] at H
                                  have c49b0 : (x6_16 == 4) = true := beq_iff_eq.mpr c49
                                  have c49b1 : (x6_16 != 4) = false := bne_eq_false_iff_eq.mpr c49
                                  clear c49
                                  by_cases c50 : x7_8 < 65536
                                  ·
                                   rw [if_pos c50] at H
                                   have c50b0 : decide (x7_8 < 65536) = true := decide_eq_true c50
                                   clear c50
                                   obtain rfl := Option.some.inj H
                                   go_wp2
                                   go_ret
                                   exact ⟨zz0, zz1⟩
                                  ·
                                   rw [if_neg c50] at H
                                   have c50b0 : decide (x7_8 < 65536) = false := decide_eq_false c50
                                   clear c50
                                   by_cases c51 : x7_8 > 1114111
                                   ·
                                    rw [if_pos c51] at H
                                    have c51b0 : decide (1114111 < x7_8) = true := decide_eq_true c51
                                    clear c51
                                    obtain rfl := Option.some.inj H
                                    go_wp2
                                    go_ret
                                    exact ⟨zz0, zz1⟩
                                   ·
                                    rw [if_neg c51] at H
                                    have c51b0 : decide (1114111 < x7_8) = false := decide_eq_false c51
                                    clear c51
                                    by_cases c52 : x7_8 ≥ 55296
                                    ·
                                     rw [if_pos c52] at H
                                     have c52b0 : decide (55296 ≤ x7_8) = true := decide_eq_true c52
                                     clear c52
                                     by_cases c53 : x7_8 ≤ 57343
                                     ·
                                      rw [if_pos c53] at H
                                      have c53b0 : decide (x7_8 ≤ 57343) = true := decide_eq_true c53
                                      clear c53
                                      obtain rfl := Option.some.inj H
                                      go_wp2
                                      go_ret
                                      exact ⟨zz0, zz1⟩
                                     ·
                                      rw [if_neg c53] at H
                                      have c53b0 : decide (x7_8 ≤ 57343) = false := decide_eq_false c53
                                      clear c53
                                      obtain rfl := Option.some.inj H
                                      go_wp2
                                      go_ret
                                      exact ⟨zz0, zz1⟩
                                    ·
                                     rw [if_neg c52] at H
                                     have c52b0 : decide (55296 ≤ x7_8) = false := decide_eq_false c52
                                     clear c52
                                     obtain rfl := Option.some.inj H
                                     go_wp2
                                     go_ret
                                     exact ⟨zz0, zz1⟩
                                 ·
                                  rw [if_neg c49] at H
                                  have c49b0 : (x6_16 == 4) = false := beq_eq_false_iff_ne.mpr c49
                                  have c49b1 : (x6_16 != 4) = true := bne_iff_ne.mpr c49
                                  by_cases c54 : x7_8 ≥ 55296
                                  ·
                                   rw [if_pos c54] at H
                                   have c54b0 : decide (55296 ≤ x7_8) = true := decide_eq_true c54
                                   clear c54
                                   by_cases c55 : x7_8 ≤ 57343
                                   ·
                                    rw [if_pos c55] at H
                                    have c55b0 : decide (x7_8 ≤ 57343) = true := decide_eq_true c55
                                    clear c55
                                    obtain rfl := Option.some.inj H
                                    go_wp2
                                    go_ret
                                    exact ⟨zz0, zz1⟩
                                   ·
                                    rw [if_neg c55] at H
                                    have c55b0 : decide (x7_8 ≤ 57343) = false := decide_eq_false c55
                                    clear c55
                                    obtain rfl := Option.some.inj H
                                    go_wp2
                                    go_ret
                                    exact ⟨zz0, zz1⟩
                                  ·
                                   rw [if_neg c54] at H
                                   have c54b0 : decide (55296 ≤ x7_8) = false := decide_eq_false c54
                                   clear c54
                                   obtain rfl := Option.some.inj H
                                   go_wp2
                                   go_ret
                                   exact ⟨zz0, zz1⟩
                               ·
                                rw [if_neg c47] at H
                                have c47b0 : (x6_16 == 3) = false := beq_eq_false_iff_ne.mpr c47
                                have c47b1 : (x6_16 != 3) = true := bne_iff_ne.mpr c47
                                by_cases c56 : x6_16 = 4
                                ·
                                 rw [if_pos c56] at H
                                 have c56b0 : (x6_16 == 4) = true := beq_iff_eq.mpr c56
                                 have c56b1 : (x6_16 != 4) = false := bne_eq_false_iff_eq.mpr c56
                                 clear c56
                                 by_cases c57 : x7_8 < 65536
                                 ·
                                  rw [if_pos c57] at H
                                  have c57b0 : decide (x7_8 < 65536) = true := decide_eq_true c57
                                  clear c57
                                  obtain rfl := Option.some.inj H
                                  go_wp2
                                  go_ret
                                  exact ⟨zz0, zz1⟩
                                 ·
                                  rw [if_neg c57] at H
                                  have c57b0 : decide (x7_8 < 65536) = false := decide_eq_false c57
                                  clear c57
                                  by_cases c58 : x7_8 > 1114111
                                  ·
                                   rw [if_pos c58] at H
                                   have c58b0 : decide (1114111 < x7_8) = true := decide_eq_true c58
                                   clear c58
                                   obtain rfl := Option.some.inj H
                                   go_wp2
                                   go_ret
                                   exact ⟨zz0, zz1⟩
                                  ·
                                   rw [if_neg c58] at H
                                   have c58b0 : decide (1114111 < x7_8) = false := decide_eq_false c58
                                   clear c58
                                   by_cases c59 : x7_8 ≥ 55296
                                   ·
                                    rw [if_pos c59] at H
                                    have c59b0 : decide (55296 ≤ x7_8) = true := decide_eq_true c59
                                    clear c59
                                    by_cases c60 : x7_8 ≤ 57343
                                    ·
                                     rw [if_pos c60] at H
                                     have c60b0 : decide (x7_8 ≤ 57343) = true := decide_eq_true c60
                                     clear c60
                                     obtain rfl := Option.some.inj H
                                     go_wp2
                                     go_ret
                                     exact ⟨zz0, zz1⟩
                                    ·
                                     rw [if_neg c60] at H
                                     have c60b0 : decide (x7_8 ≤ 57343) = false := decide_eq_false c60
                                     clear c60
                                     obtain rfl := Option.some.inj H
                                     go_wp2
                                     go_ret
                                     exact ⟨zz0, zz1⟩
                                   ·
                                    rw [if_neg c59] at H
                                    have c59b0 : decide (55296 ≤ x7_8) = false := decide_eq_false c59
                                    clear c59
                                    obtain rfl := Option.some.inj H
                                    go_wp2
                                    go_ret
                                    exact ⟨zz0, zz1⟩
                                ·
                                 rw [if_neg c56] at H
                                 have c56b0 : (x6_16 == 4) = false := beq_eq_false_iff_ne.mpr c56
                                 have c56b1 : (x6_16 != 4) = true := bne_iff_ne.mpr c56
                                 by_cases c61 : x7_8 ≥ 55296
                                 ·
                                  rw [if_pos c61] at H
                                  have c61b0 : decide (55296 ≤ x7_8) = true := decide_eq_true c61
                                  clear c61
                                  by_cases c62 : x7_8 ≤ 57343
                                  ·
                                   rw [if_pos c62] at H
                                   have c62b0 : decide (x7_8 ≤ 57343) = true := decide_eq_true c62
                                   clear c62
                                   obtain rfl := Option.some.inj H
                                   go_wp2
                                   go_ret
                                   exact ⟨zz0, zz1⟩
                                  ·
                                   rw [if_neg c62] at H
                                   have c62b0 : decide (x7_8 ≤ 57343) = false := decide_eq_false c62
                                   clear c62
                                   obtain rfl := Option.some.inj H
                                   go_wp2
                                   go_ret
                                   exact ⟨zz0, zz1⟩
                                 ·
                                  rw [if_neg c61] at H
                                  have c61b0 : decide (55296 ≤ x7_8) = false := decide_eq_false c61
                                  clear c61
                                  obtain rfl := Option.some.inj H
                                  go_wp2
                                  go_ret
                                  exact ⟨zz0, zz1⟩
  ·
   rw [if_neg c4] at H
   exact absurd H zz30
 ·
  rw [if_neg c3] at H
  exact absurd H zz30
end Go.Proofs.Ytpfconocipmcjaa.PC
namespace Go.Proofs.Ytpfconocipmcjaa.PC
open RowKit YtpfconocipmcjaaW.PrintWords YtpfconocipmcjaaW.PrintLast YtpfconocipmcjaaW.PrintMore
attribute [local go_sem] max2_int min2_int max_two min_two max_three min_three max_four min_four
set_option linter.unusedVariables false
set_option linter.unusedSimpArgs false
def gantletref14_Utf8.l0 : Nat → ByteArray → Int → Option (Bool)
 | 0, _, _ => none
 | k + 1, x0, x3 => if x3 < (x0.size : Int) then ((gantletref14_char.f k x0 x3).bind fun t244 => (if t244 = 0 then (some false) else (gantletref14_Utf8.l0 k x0 (wrap64 (x3 + t244))))) else (some true)
def gantletref14_Utf8.f (k : Nat) (a0 : ByteArray) : Option (Bool) := gantletref14_Utf8.l0 k a0 0
set_option maxHeartbeats 8000000 in
set_option maxRecDepth 100000 in
theorem gantletref14_Utf8.calls (k : Nat) (a0 : ByteArray) (r : Bool) (w : World) (h : gantletref14_Utf8.f k a0 = some r) :
 Calls Try.prog 76 #[.string a0] w fun e w' => e = .returned (.bool r) ∧ Drawn0 w w' := by
 have H : (gantletref14_Utf8.l0 k a0 0) = some r := h
 clear h
 have H' := Aside0.mk H
 clear H
 go_enter Try.func76, Try.ntmps76
 go_wp2
 go_loopg [3] k (fun kq v3 w' => ∃ (x3_1 : Int), v3 = .int .i64 x3_1 ∧ Aside0 (gantletref14_Utf8.l0 kq a0 x3_1 = some r) ∧ Aside0 (kq ≤ k) ∧ Drawn0 w w')
 case atStart => exact ⟨(0), zz0, H', ⟨Nat.le_refl _⟩, zz1⟩
 case round =>
  clear H'
  obtain ⟨x3_1, rfl, HA, HK1, ⟨m1, rfl⟩⟩ := hrel
  cases gk with
  | zero => exact absurd HA.out (by simp [gantletref14_Utf8.l0])
  | succ k1 =>
    have H := HA.out
    clear HA
    simp only [gantletref14_Utf8.l0] at H
    by_cases c2 : x3_1 < (a0.size : Int)
    ·
     rw [if_pos c2] at H
     have c2b0 : decide (x3_1 < (a0.size : Int)) = true := decide_eq_true c2
     clear c2
     replace H := Option.bind_eq_some_iff.mp H
     obtain ⟨t244, A30, H⟩ := H
     replace H : (if t244 = 0 then (some false) else (gantletref14_Utf8.l0 k1 a0 (wrap64 (x3_1 + t244)))) = some r := H
     have A3 := Aside0.mk A30
     clear A30
     by_cases c4 : t244 = 0
     ·
      rw [if_pos c4] at H
      have c4b0 : (t244 == 0) = true := beq_iff_eq.mpr c4
      have c4b1 : (t244 != 0) = false := bne_eq_false_iff_eq.mpr c4
      clear c4
      obtain rfl := Option.some.inj H
      go_wp2_with (first | ((with_reducible refine gate_callee (f := 66) rfl ?_); refine goesL_ (some 11) rfl rfl Try.func66 zz12 rfl #[.string a0, .int .i64 x3_1] rfl zz5 ?_; (with_reducible refine (gantletref14_char.calls k1 a0 x3_1 t244 _ A3.out).mono ?_); rintro e w' ⟨rfl, ⟨nd, rfl⟩⟩; refine ⟨_, rfl, ?_⟩))
      go_ret
      exact ⟨zz0, zz1⟩
     ·
      rw [if_neg c4] at H
      have c4b0 : (t244 == 0) = false := beq_eq_false_iff_ne.mpr c4
      have c4b1 : (t244 != 0) = true := bne_iff_ne.mpr c4
      have H' := Aside0.mk H
      clear H
      go_wp2_with (first | ((with_reducible refine gate_callee (f := 66) rfl ?_); refine goesL_ (some 11) rfl rfl Try.func66 zz12 rfl #[.string a0, .int .i64 x3_1] rfl zz5 ?_; (with_reducible refine (gantletref14_char.calls k1 a0 x3_1 t244 _ A3.out).mono ?_); rintro e w' ⟨rfl, ⟨nd, rfl⟩⟩; refine ⟨_, rfl, ?_⟩))
      go_roundg k1
      case measure => have := HK1.out; omega
      case rel => exact ⟨(wrap64 (x3_1 + t244)), zz0, H', ⟨zz57⟩, zz1⟩
    ·
     rw [if_neg c2] at H
     have c2b0 : decide (x3_1 < (a0.size : Int)) = false := decide_eq_false c2
     clear c2
     obtain rfl := Option.some.inj H
     go_wp2
     go_ret
     exact ⟨zz0, zz1⟩
end Go.Proofs.Ytpfconocipmcjaa.PC
namespace Go.Proofs.Ytpfconocipmcjaa.PC
open RowKit YtpfconocipmcjaaW.PrintWords YtpfconocipmcjaaW.PrintLast YtpfconocipmcjaaW.PrintMore
attribute [local go_sem] max2_int min2_int max_two min_two max_three min_three max_four min_four
set_option linter.unusedVariables false
set_option linter.unusedSimpArgs false
mutual
def gantletref14_plain.j0 : Nat → Int → Bool → Option (Bool)
 | 0, _, _ => none
 | k + 1, x1, x34 => if x34 = true then (some true) else (gantletref14_plain.l0 k x1 (⟨#[32, 39, 40, 41, 43, 44, 45, 46, 47, 58, 61, 63]⟩ : ByteArray) 0)
def gantletref14_plain.l0 : Nat → Int → ByteArray → Int → Option (Bool)
 | 0, _, _, _ => none
 | k + 1, x1, x5, x6 => if x6 < (x5.size : Int) then (if 0 ≤ x6 then (if (bt x5 x6) = x1 then (some true) else (gantletref14_plain.l0 k x1 x5 (wrap64 (x6 + 1)))) else (none)) else (some false)
end
def gantletref14_plain.f (k : Nat) (a0 : Int) (a1 : Int) : Option (Bool) := if a0 = 22 then (some (decide (a1 < 128))) else (if a0 = 19 then (if a1 ≥ 65 then (if a1 ≤ 90 then (gantletref14_plain.j0 k a1 true) else (if a1 ≥ 97 then (if a1 ≤ 122 then (gantletref14_plain.j0 k a1 true) else (if a1 ≥ 48 then (gantletref14_plain.j0 k a1 (decide (a1 ≤ 57))) else (gantletref14_plain.j0 k a1 false))) else (if a1 ≥ 48 then (gantletref14_plain.j0 k a1 (decide (a1 ≤ 57))) else (gantletref14_plain.j0 k a1 false)))) else (if a1 ≥ 97 then (if a1 ≤ 122 then (gantletref14_plain.j0 k a1 true) else (if a1 ≥ 48 then (gantletref14_plain.j0 k a1 (decide (a1 ≤ 57))) else (gantletref14_plain.j0 k a1 false))) else (if a1 ≥ 48 then (gantletref14_plain.j0 k a1 (decide (a1 ≤ 57))) else (gantletref14_plain.j0 k a1 false)))) else (some true))
theorem gantletref14_plain.mono_l : ∀ k, (∀ y0 y1, LeO (gantletref14_plain.j0 k y0 y1) (gantletref14_plain.j0 (k + 1) y0 y1)) ∧ (∀ y0 y1 y2, LeO (gantletref14_plain.l0 k y0 y1 y2) (gantletref14_plain.l0 (k + 1) y0 y1 y2))
 | 0 => ⟨fun _ _ r h => by simp [gantletref14_plain.j0] at h, fun _ _ _ r h => by simp [gantletref14_plain.l0] at h⟩
 | k + 1 => by
   obtain ⟨ih0, ih1⟩ := gantletref14_plain.mono_l k
   refine ⟨?_, ?_⟩
   ·
    intro y0 y1
    unfold gantletref14_plain.j0
    repeat' first
    | (with_reducible exact ih0 _ _)
    | (with_reducible exact ih1 _ _ _)
    | (with_reducible exact LeO.refl _)
    | (with_reducible exact LeO.none _)
    | (with_reducible refine LeO.ite ?_ ?_)
    | (with_reducible refine LeO.bind ?_ (fun _ => ?_))
    | exact ih0 _ _
    | exact ih1 _ _ _
    | exact LeO.none _
    | refine LeO.ite ?_ ?_
    | refine LeO.bind ?_ (fun _ => ?_)
   ·
    intro y0 y1 y2
    unfold gantletref14_plain.l0
    repeat' first
    | (with_reducible exact ih0 _ _)
    | (with_reducible exact ih1 _ _ _)
    | (with_reducible exact LeO.refl _)
    | (with_reducible exact LeO.none _)
    | (with_reducible refine LeO.ite ?_ ?_)
    | (with_reducible refine LeO.bind ?_ (fun _ => ?_))
    | exact ih0 _ _
    | exact ih1 _ _ _
    | exact LeO.none _
    | refine LeO.ite ?_ ?_
    | refine LeO.bind ?_ (fun _ => ?_)
theorem gantletref14_plain.mono : ∀ a0 a1 k, LeO (gantletref14_plain.f k a0 a1) (gantletref14_plain.f (k + 1) a0 a1) := by
 intro a0 a1 k
 obtain ⟨ih0, ih1⟩ := gantletref14_plain.mono_l k
 unfold gantletref14_plain.f
 repeat' first
  | (with_reducible exact ih0 _ _)
  | (with_reducible exact ih1 _ _ _)
  | (with_reducible exact LeO.refl _)
  | (with_reducible exact LeO.none _)
  | (with_reducible refine LeO.ite ?_ ?_)
  | (with_reducible refine LeO.bind ?_ (fun _ => ?_))
  | exact ih0 _ _
  | exact ih1 _ _ _
  | exact LeO.none _
  | refine LeO.ite ?_ ?_
  | refine LeO.bind ?_ (fun _ => ?_)
set_option maxHeartbeats 8000000 in
set_option maxRecDepth 100000 in
theorem gantletref14_plain.calls (k : Nat) (a0 : Int) (a1 : Int) (r : Bool) (w : World) (h : gantletref14_plain.f k a0 a1 = some r) :
 Calls Try.prog 77 #[.int .i64 a0, .int .u8 a1] w fun e w' => e = .returned (.bool r) ∧ Drawn0 w w' := by
 have H : (if a0 = 22 then (some (decide (a1 < 128))) else (if a0 = 19 then (if a1 ≥ 65 then (if a1 ≤ 90 then (gantletref14_plain.j0 k a1 true) else (if a1 ≥ 97 then (if a1 ≤ 122 then (gantletref14_plain.j0 k a1 true) else (if a1 ≥ 48 then (gantletref14_plain.j0 k a1 (decide (a1 ≤ 57))) else (gantletref14_plain.j0 k a1 false))) else (if a1 ≥ 48 then (gantletref14_plain.j0 k a1 (decide (a1 ≤ 57))) else (gantletref14_plain.j0 k a1 false)))) else (if a1 ≥ 97 then (if a1 ≤ 122 then (gantletref14_plain.j0 k a1 true) else (if a1 ≥ 48 then (gantletref14_plain.j0 k a1 (decide (a1 ≤ 57))) else (gantletref14_plain.j0 k a1 false))) else (if a1 ≥ 48 then (gantletref14_plain.j0 k a1 (decide (a1 ≤ 57))) else (gantletref14_plain.j0 k a1 false)))) else (some true))) = some r := h
 clear h
 by_cases c3 : a0 = 22
 ·
  rw [if_pos c3] at H
  have c3b0 : (a0 == 22) = true := beq_iff_eq.mpr c3
  have c3b1 : (a0 != 22) = false := bne_eq_false_iff_eq.mpr c3
  clear c3
  obtain rfl := Option.some.inj H
  go_enter Try.func77, Try.ntmps77
  go_wp2
  go_ret
  exact ⟨zz0, zz1⟩
 ·
  rw [if_neg c3] at H
  have c3b0 : (a0 == 22) = false := beq_eq_false_iff_ne.mpr c3
  have c3b1 : (a0 != 22) = true := bne_iff_ne.mpr c3
  by_cases c4 : a0 = 19
  ·
   rw [if_pos c4] at H
   have c4b0 : (a0 == 19) = true := beq_iff_eq.mpr c4
   have c4b1 : (a0 != 19) = false := bne_eq_false_iff_eq.mpr c4
   clear c4
   have HC5 := Aside0.mk H
   clear H
   go_enter Try.func77, Try.ntmps77
   go_upto_region 5 with (fail)
   go_cut [34] (fun v34 wc => ∃ (kq : Nat) (x34_4 : Bool), v34 = .bool x34_4 ∧ Aside0 (gantletref14_plain.j0 kq a1 x34_4 = some r) ∧ Aside0 (kq ≤ k) ∧ Drawn0 w wc)
   case first =>
    have H := HC5.out
    clear HC5
    by_cases c6 : a1 ≥ 65
    ·
     rw [if_pos c6] at H
     have c6b0 : decide (65 ≤ a1) = true := decide_eq_true c6
     clear c6
     (first | rw [c6b0] | (simp only [i64_w, i32_w]; rw [c6b0]) | skip)
     by_cases c7 : a1 ≤ 90
     ·
      rw [if_pos c7] at H
      have c7b0 : decide (a1 ≤ 90) = true := decide_eq_true c7
      clear c7
      have H' := Aside0.mk H
      clear H
      go_wp2
      go_meet
      case rel => exact ⟨_, (true), zz0, H', ⟨zz25⟩, zz1⟩
     ·
      rw [if_neg c7] at H
      have c7b0 : decide (a1 ≤ 90) = false := decide_eq_false c7
      clear c7
      by_cases c8 : a1 ≥ 97
      ·
       rw [if_pos c8] at H
       have c8b0 : decide (97 ≤ a1) = true := decide_eq_true c8
       clear c8
       by_cases c9 : a1 ≤ 122
       ·
        rw [if_pos c9] at H
        have c9b0 : decide (a1 ≤ 122) = true := decide_eq_true c9
        clear c9
        have H' := Aside0.mk H
        clear H
        go_wp2
        go_meet
        case rel => exact ⟨_, (true), zz0, H', ⟨zz25⟩, zz1⟩
       ·
        rw [if_neg c9] at H
        have c9b0 : decide (a1 ≤ 122) = false := decide_eq_false c9
        clear c9
        by_cases c10 : a1 ≥ 48
        ·
         rw [if_pos c10] at H
         have c10b0 : decide (48 ≤ a1) = true := decide_eq_true c10
         clear c10
         have H' := Aside0.mk H
         clear H
         go_wp2
         go_meet
         case rel => exact ⟨_, (decide (a1 ≤ 57)), zz0, H', ⟨zz25⟩, zz1⟩
        ·
         rw [if_neg c10] at H
         have c10b0 : decide (48 ≤ a1) = false := decide_eq_false c10
         clear c10
         have H' := Aside0.mk H
         clear H
         go_wp2
         go_meet
         case rel => exact ⟨_, (false), zz0, H', ⟨zz25⟩, zz1⟩
      ·
       rw [if_neg c8] at H
       have c8b0 : decide (97 ≤ a1) = false := decide_eq_false c8
       clear c8
       by_cases c11 : a1 ≥ 48
       ·
        rw [if_pos c11] at H
        have c11b0 : decide (48 ≤ a1) = true := decide_eq_true c11
        clear c11
        have H' := Aside0.mk H
        clear H
        go_wp2
        go_meet
        case rel => exact ⟨_, (decide (a1 ≤ 57)), zz0, H', ⟨zz25⟩, zz1⟩
       ·
        rw [if_neg c11] at H
        have c11b0 : decide (48 ≤ a1) = false := decide_eq_false c11
        clear c11
        have H' := Aside0.mk H
        clear H
        go_wp2
        go_meet
        case rel => exact ⟨_, (false), zz0, H', ⟨zz25⟩, zz1⟩
    ·
     rw [if_neg c6] at H
     have c6b0 : decide (65 ≤ a1) = false := decide_eq_false c6
     clear c6
     (first | rw [c6b0] | (simp only [i64_w, i32_w]; rw [c6b0]) | skip)
     by_cases c12 : a1 ≥ 97
     ·
      rw [if_pos c12] at H
      have c12b0 : decide (97 ≤ a1) = true := decide_eq_true c12
      clear c12
      by_cases c13 : a1 ≤ 122
      ·
       rw [if_pos c13] at H
       have c13b0 : decide (a1 ≤ 122) = true := decide_eq_true c13
       clear c13
       have H' := Aside0.mk H
       clear H
       go_wp2
       go_meet
       case rel => exact ⟨_, (true), zz0, H', ⟨zz25⟩, zz1⟩
      ·
       rw [if_neg c13] at H
       have c13b0 : decide (a1 ≤ 122) = false := decide_eq_false c13
       clear c13
       by_cases c14 : a1 ≥ 48
       ·
        rw [if_pos c14] at H
        have c14b0 : decide (48 ≤ a1) = true := decide_eq_true c14
        clear c14
        have H' := Aside0.mk H
        clear H
        go_wp2
        go_meet
        case rel => exact ⟨_, (decide (a1 ≤ 57)), zz0, H', ⟨zz25⟩, zz1⟩
       ·
        rw [if_neg c14] at H
        have c14b0 : decide (48 ≤ a1) = false := decide_eq_false c14
        clear c14
        have H' := Aside0.mk H
        clear H
        go_wp2
        go_meet
        case rel => exact ⟨_, (false), zz0, H', ⟨zz25⟩, zz1⟩
     ·
      rw [if_neg c12] at H
      have c12b0 : decide (97 ≤ a1) = false := decide_eq_false c12
      clear c12
      by_cases c15 : a1 ≥ 48
      ·
       rw [if_pos c15] at H
       have c15b0 : decide (48 ≤ a1) = true := decide_eq_true c15
       clear c15
       have H' := Aside0.mk H
       clear H
       go_wp2
       go_meet
       case rel => exact ⟨_, (decide (a1 ≤ 57)), zz0, H', ⟨zz25⟩, zz1⟩
      ·
       rw [if_neg c15] at H
       have c15b0 : decide (48 ≤ a1) = false := decide_eq_false c15
       clear c15
       have H' := Aside0.mk H
       clear H
       go_wp2
       go_meet
       case rel => exact ⟨_, (false), zz0, H', ⟨zz25⟩, zz1⟩
   case rest =>
    clear HC5
    try clear c1
    try clear p2
    try clear c3
    try clear c3b0
    try clear c3b1
    try clear c4
    try clear c4b0
    try clear c4b1
    try clear c6
    try clear c6b0
    try clear c7
    try clear c7b0
    try clear c8
    try clear c8b0
    try clear c9
    try clear c9b0
    try clear c10
    try clear c10b0
    try clear c11
    try clear c11b0
    try clear c12
    try clear c12b0
    try clear c13
    try clear c13b0
    try clear c14
    try clear c14b0
    try clear c15
    try clear c15b0
    obtain ⟨kq, x34_4, rfl, HA, HJ4, ⟨mc4, rfl⟩⟩ := hcut
    cases kq with
    | zero => exact absurd HA.out (by simp [gantletref14_plain.j0])
    | succ kj4 =>
      have H := HA.out
      clear HA
      simp only [gantletref14_plain.j0] at H
      by_cases c16 : x34_4 = true
      ·
       subst c16
       rw [if_pos rfl] at H
       obtain rfl := Option.some.inj H
       go_wp2
       go_ret
       exact ⟨zz0, zz1⟩
      ·
       replace c16 := Bool.eq_false_iff.mpr c16
       subst c16
       rw [if_neg (show ¬ (false = true) by decide)] at H
       have H' := Aside0.mk H
       clear H
       go_wp2
       go_loopg [6] kj4 (fun kq v6 w' => ∃ (x6_2 : Int), v6 = .int .i64 x6_2 ∧ Aside0 (gantletref14_plain.l0 kq a1 (⟨#[32, 39, 40, 41, 43, 44, 45, 46, 47, 58, 61, 63]⟩ : ByteArray) x6_2 = some r) ∧ Aside0 (kq ≤ kj4) ∧ Drawn0 w w')
       case atStart => exact ⟨(0), zz0, H', ⟨Nat.le_refl _⟩, zz1⟩
       case round =>
        clear H'
        try clear c1
        try clear p2
        try clear c3
        try clear c3b0
        try clear c3b1
        try clear c4
        try clear c4b0
        try clear c4b1
        try clear c6
        try clear c6b0
        try clear c7
        try clear c7b0
        try clear c8
        try clear c8b0
        try clear c9
        try clear c9b0
        try clear c10
        try clear c10b0
        try clear c11
        try clear c11b0
        try clear c12
        try clear c12b0
        try clear c13
        try clear c13b0
        try clear c14
        try clear c14b0
        try clear c15
        try clear c15b0
        try clear c16
        try clear p2
        obtain ⟨x6_2, rfl, HA, HK2, ⟨m2, rfl⟩⟩ := hrel
        cases gk with
        | zero => exact absurd HA.out (by simp [gantletref14_plain.l0])
        | succ k2 =>
          have H := HA.out
          clear HA
          simp only [gantletref14_plain.l0] at H
          by_cases c17 : x6_2 < ((⟨#[32, 39, 40, 41, 43, 44, 45, 46, 47, 58, 61, 63]⟩ : ByteArray).size : Int)
          ·
           rw [if_pos c17] at H
           have c17b0 : decide (x6_2 < ((⟨#[32, 39, 40, 41, 43, 44, 45, 46, 47, 58, 61, 63]⟩ : ByteArray).size : Int)) = true := decide_eq_true c17
           (try (have c17v0 : decide (x6_2 < 12) = true := c17b0))
           clear c17
           by_cases c18 : 0 ≤ x6_2
           ·
            rw [if_pos c18] at H
            have c18b0 : decide (0 ≤ x6_2) = true := decide_eq_true c18
            clear c18
            by_cases c20 : (bt (⟨#[32, 39, 40, 41, 43, 44, 45, 46, 47, 58, 61, 63]⟩ : ByteArray) x6_2) = a1
            ·
             rw [if_pos c20] at H
             have c20b0 : ((bt (⟨#[32, 39, 40, 41, 43, 44, 45, 46, 47, 58, 61, 63]⟩ : ByteArray) x6_2) == a1) = true := beq_iff_eq.mpr c20
             have c20b1 : ((bt (⟨#[32, 39, 40, 41, 43, 44, 45, 46, 47, 58, 61, 63]⟩ : ByteArray) x6_2) != a1) = false := bne_eq_false_iff_eq.mpr c20
             clear c20
             obtain rfl := Option.some.inj H
             have p19 : 0 ≤ (x6_2 : Int) := of_decide_eq_true zz3
             have q19 : x6_2 < (12 : Int) := of_decide_eq_true zz3
             have hx19 := bt_at (⟨#[32, 39, 40, 41, 43, 44, 45, 46, 47, 58, 61, 63]⟩ : ByteArray) x6_2
             replace p19 := eq_true p19
             replace q19 := eq_true q19
             go_wp2
             go_ret
             exact ⟨zz0, zz1⟩
            ·
             rw [if_neg c20] at H
             have c20b0 : ((bt (⟨#[32, 39, 40, 41, 43, 44, 45, 46, 47, 58, 61, 63]⟩ : ByteArray) x6_2) == a1) = false := beq_eq_false_iff_ne.mpr c20
             have c20b1 : ((bt (⟨#[32, 39, 40, 41, 43, 44, 45, 46, 47, 58, 61, 63]⟩ : ByteArray) x6_2) != a1) = true := bne_iff_ne.mpr c20
             have H' := Aside0.mk H
             clear H
             have p19 : 0 ≤ (x6_2 : Int) := of_decide_eq_true zz3
             have q19 : x6_2 < (12 : Int) := of_decide_eq_true zz3
             have hx19 := bt_at (⟨#[32, 39, 40, 41, 43, 44, 45, 46, 47, 58, 61, 63]⟩ : ByteArray) x6_2
             replace p19 := eq_true p19
             replace q19 := eq_true q19
             go_wp2
             go_roundg k2
             case measure => have := HJ4.out; have := HK2.out; omega
             case rel => exact ⟨(wrap64 (x6_2 + 1)), zz0, H', ⟨by have := HJ4.out; have := HK2.out; omega⟩, zz1⟩
           ·
            rw [if_neg c18] at H
            exact absurd H zz30
          ·
           rw [if_neg c17] at H
           have c17b0 : decide (x6_2 < ((⟨#[32, 39, 40, 41, 43, 44, 45, 46, 47, 58, 61, 63]⟩ : ByteArray).size : Int)) = false := decide_eq_false c17
           (try (have c17v0 : decide (x6_2 < 12) = false := c17b0))
           clear c17
           obtain rfl := Option.some.inj H
           go_wp2
           go_ret
           exact ⟨zz0, zz1⟩
  ·
   rw [if_neg c4] at H
   have c4b0 : (a0 == 19) = false := beq_eq_false_iff_ne.mpr c4
   have c4b1 : (a0 != 19) = true := bne_iff_ne.mpr c4
   obtain rfl := Option.some.inj H
   go_enter Try.func77, Try.ntmps77
   go_wp2
   go_ret
   exact ⟨zz0, zz1⟩
end Go.Proofs.Ytpfconocipmcjaa.PC
namespace Go.Proofs.Ytpfconocipmcjaa.PC
open RowKit YtpfconocipmcjaaW.PrintWords YtpfconocipmcjaaW.PrintLast YtpfconocipmcjaaW.PrintMore
attribute [local go_sem] max2_int min2_int max_two min_two max_three min_three max_four min_four
set_option linter.unusedVariables false
set_option linter.unusedSimpArgs false
def gantletref14_Check.l0 : Nat → Int → ByteArray → Int → Option (Bool)
 | 0, _, _, _ => none
 | k + 1, x0, x1, x5 => if x5 < (x1.size : Int) then (if 0 ≤ x5 then ((gantletref14_plain.f k x0 (bt x1 x5)).bind fun t246 => (if t246 = true then (gantletref14_Check.l0 k x0 x1 (wrap64 (x5 + 1))) else (some false))) else (none)) else (some true)
def gantletref14_Check.f (k : Nat) (a0 : Int) (a1 : ByteArray) : Option (Bool) := if a0 = 12 then ((gantletref14_Utf8.f k a1).bind fun t245 => (some t245)) else (gantletref14_Check.l0 k a0 a1 0)
set_option maxHeartbeats 8000000 in
set_option maxRecDepth 100000 in
theorem gantletref14_Check.calls (k : Nat) (a0 : Int) (a1 : ByteArray) (r : Bool) (w : World) (h : gantletref14_Check.f k a0 a1 = some r) :
 Calls Try.prog 64 #[.int .i64 a0, .string a1] w fun e w' => e = .returned (.bool r) ∧ Drawn0 w w' := by
 have H : (if a0 = 12 then ((gantletref14_Utf8.f k a1).bind fun t245 => (some t245)) else (gantletref14_Check.l0 k a0 a1 0)) = some r := h
 clear h
 by_cases c3 : a0 = 12
 ·
  rw [if_pos c3] at H
  have c3b0 : (a0 == 12) = true := beq_iff_eq.mpr c3
  have c3b1 : (a0 != 12) = false := bne_eq_false_iff_eq.mpr c3
  clear c3
  replace H := Option.bind_eq_some_iff.mp H
  obtain ⟨t245, A40, H⟩ := H
  replace H : (some t245) = some r := H
  have A4 := Aside0.mk A40
  clear A40
  obtain rfl := Option.some.inj H
  go_enter Try.func64, Try.ntmps64
  go_wp2_with (first | ((with_reducible refine gate_callee (f := 76) rfl ?_); refine goesL_ (some 9) rfl rfl Try.func76 zz12 rfl #[.string a1] rfl zz5 ?_; (with_reducible refine (gantletref14_Utf8.calls k a1 t245 _ A4.out).mono ?_); rintro e w' ⟨rfl, ⟨nd, rfl⟩⟩; refine ⟨_, rfl, ?_⟩))
  go_ret
  exact ⟨zz0, zz1⟩
 ·
  rw [if_neg c3] at H
  have c3b0 : (a0 == 12) = false := beq_eq_false_iff_ne.mpr c3
  have c3b1 : (a0 != 12) = true := bne_iff_ne.mpr c3
  have H' := Aside0.mk H
  clear H
  go_enter Try.func64, Try.ntmps64
  go_wp2
  go_loopg [5] k (fun kq v5 w' => ∃ (x5_1 : Int), v5 = .int .i64 x5_1 ∧ Aside0 (gantletref14_Check.l0 kq a0 a1 x5_1 = some r) ∧ Aside0 (kq ≤ k) ∧ Drawn0 w w')
  case atStart => exact ⟨(0), zz0, H', ⟨Nat.le_refl _⟩, zz1⟩
  case round =>
   clear H'
   try clear p2
   try clear c3
   try clear c3b0
   try clear c3b1
   obtain ⟨x5_1, rfl, HA, HK1, ⟨m1, rfl⟩⟩ := hrel
   cases gk with
   | zero => exact absurd HA.out (by simp [gantletref14_Check.l0])
   | succ k1 =>
     have H := HA.out
     clear HA
     simp only [gantletref14_Check.l0] at H
     by_cases c5 : x5_1 < (a1.size : Int)
     ·
      rw [if_pos c5] at H
      have c5b0 : decide (x5_1 < (a1.size : Int)) = true := decide_eq_true c5
      clear c5
      by_cases c6 : 0 ≤ x5_1
      ·
       rw [if_pos c6] at H
       have c6b0 : decide (0 ≤ x5_1) = true := decide_eq_true c6
       clear c6
       replace H := Option.bind_eq_some_iff.mp H
       obtain ⟨t246, A80, H⟩ := H
       replace H : (if t246 = true then (gantletref14_Check.l0 k1 a0 a1 (wrap64 (x5_1 + 1))) else (some false)) = some r := H
       have A8 := Aside0.mk A80
       clear A80
       by_cases c9 : t246 = true
       ·
        subst c9
        rw [if_pos rfl] at H
        have H' := Aside0.mk H
        clear H
        have p7 : 0 ≤ (x5_1 : Int) := of_decide_eq_true zz3
        have q7 : x5_1 < (a1.size : Int) := of_decide_eq_true zz3
        have hx7 := bt_at a1 x5_1
        replace p7 := eq_true p7
        replace q7 := eq_true q7
        go_wp2_with (first | ((with_reducible refine gate_callee (f := 77) rfl ?_); refine goesL_ (some 20) rfl rfl Try.func77 zz12 rfl #[.int .i64 a0, .int .u8 (bt a1 x5_1)] rfl zz5 ?_; (with_reducible refine (gantletref14_plain.calls k1 a0 (bt a1 x5_1) true _ A8.out).mono ?_); rintro e w' ⟨rfl, ⟨nd, rfl⟩⟩; refine ⟨_, rfl, ?_⟩))
        go_roundg k1
        case measure => have := HK1.out; omega
        case rel => exact ⟨(wrap64 (x5_1 + 1)), zz0, H', ⟨zz57⟩, zz1⟩
       ·
        replace c9 := Bool.eq_false_iff.mpr c9
        subst c9
        rw [if_neg (show ¬ (false = true) by decide)] at H
        obtain rfl := Option.some.inj H
        have p7 : 0 ≤ (x5_1 : Int) := of_decide_eq_true zz3
        have q7 : x5_1 < (a1.size : Int) := of_decide_eq_true zz3
        have hx7 := bt_at a1 x5_1
        replace p7 := eq_true p7
        replace q7 := eq_true q7
        go_wp2_with (first | ((with_reducible refine gate_callee (f := 77) rfl ?_); refine goesL_ (some 20) rfl rfl Try.func77 zz12 rfl #[.int .i64 a0, .int .u8 (bt a1 x5_1)] rfl zz5 ?_; (with_reducible refine (gantletref14_plain.calls k1 a0 (bt a1 x5_1) false _ A8.out).mono ?_); rintro e w' ⟨rfl, ⟨nd, rfl⟩⟩; refine ⟨_, rfl, ?_⟩))
        go_ret
        exact ⟨zz0, zz1⟩
      ·
       rw [if_neg c6] at H
       exact absurd H zz30
     ·
      rw [if_neg c5] at H
      have c5b0 : decide (x5_1 < (a1.size : Int)) = false := decide_eq_false c5
      clear c5
      obtain rfl := Option.some.inj H
      go_wp2
      go_ret
      exact ⟨zz0, zz1⟩
def gantletref14_last.l0 : Nat → ByteArray → Int → Option (Int)
 | 0, _, _ => none
 | k + 1, x0, x3 => if x3 < (x0.size : Int) then ((gantletref14_char.f k x0 x3).bind fun t247 => (if t247 = 0 then (if (wrap64 ((x0.size : Int) - x3)) > 3 then (some (-1)) else (some x3)) else (gantletref14_last.l0 k x0 (wrap64 (x3 + t247))))) else (if (wrap64 ((x0.size : Int) - x3)) > 3 then (some (-1)) else (some x3))
def gantletref14_last.f (k : Nat) (a0 : ByteArray) : Option (Int) := gantletref14_last.l0 k a0 0
set_option maxHeartbeats 8000000 in
set_option maxRecDepth 100000 in
theorem gantletref14_last.calls (k : Nat) (a0 : ByteArray) (r : Int) (w : World) (h : gantletref14_last.f k a0 = some r) :
 Calls Try.prog 65 #[.string a0] w fun e w' => e = .returned (.int .i64 r) ∧ Drawn0 w w' := by
 have H : (gantletref14_last.l0 k a0 0) = some r := h
 clear h
 have H' := Aside0.mk H
 clear H
 go_enter Try.func65, Try.ntmps65
 go_wp2
 go_loopg [3] k (fun kq v3 w' => ∃ (x3_1 : Int), v3 = .int .i64 x3_1 ∧ Aside0 (gantletref14_last.l0 kq a0 x3_1 = some r) ∧ Aside0 (kq ≤ k) ∧ Drawn0 w w')
 case atStart => exact ⟨(0), zz0, H', ⟨Nat.le_refl _⟩, zz1⟩
 case round =>
  clear H'
  obtain ⟨x3_1, rfl, HA, HK1, ⟨m1, rfl⟩⟩ := hrel
  cases gk with
  | zero => exact absurd HA.out (by simp [gantletref14_last.l0])
  | succ k1 =>
    have H := HA.out
    clear HA
    simp only [gantletref14_last.l0] at H
    by_cases c2 : x3_1 < (a0.size : Int)
    ·
     rw [if_pos c2] at H
     have c2b0 : decide (x3_1 < (a0.size : Int)) = true := decide_eq_true c2
     clear c2
     replace H := Option.bind_eq_some_iff.mp H
     obtain ⟨t247, A30, H⟩ := H
     replace H : (if t247 = 0 then (if (wrap64 ((a0.size : Int) - x3_1)) > 3 then (some (-1)) else (some x3_1)) else (gantletref14_last.l0 k1 a0 (wrap64 (x3_1 + t247)))) = some r := H
     have A3 := Aside0.mk A30
     clear A30
     by_cases c4 : t247 = 0
     ·
      rw [if_pos c4] at H
      have c4b0 : (t247 == 0) = true := beq_iff_eq.mpr c4
      have c4b1 : (t247 != 0) = false := bne_eq_false_iff_eq.mpr c4
      clear c4
      by_cases c5 : (wrap64 ((a0.size : Int) - x3_1)) > 3
      ·
       rw [if_pos c5] at H
       have c5b0 : decide (3 < (wrap64 ((a0.size : Int) - x3_1))) = true := decide_eq_true c5
       (try (have c5w0 : decide (3 < (((a0.size : Int) - x3_1))) = true := by (have hw_ : wrap64 ((a0.size : Int) - x3_1) = ((a0.size : Int) - x3_1) := by (unfold wrap64; omega)); have hx_ := c5b0; rw [hw_] at hx_; exact hx_))
       clear c5
       obtain rfl := Option.some.inj H
       go_wp2_with (first | ((with_reducible refine gate_callee (f := 66) rfl ?_); refine goesL_ (some 11) rfl rfl Try.func66 zz12 rfl #[.string a0, .int .i64 x3_1] rfl zz5 ?_; (with_reducible refine (gantletref14_char.calls k1 a0 x3_1 t247 _ A3.out).mono ?_); rintro e w' ⟨rfl, ⟨nd, rfl⟩⟩; refine ⟨_, rfl, ?_⟩))
       go_ret
       exact ⟨zz0, zz1⟩
      ·
       rw [if_neg c5] at H
       have c5b0 : decide (3 < (wrap64 ((a0.size : Int) - x3_1))) = false := decide_eq_false c5
       (try (have c5w0 : decide (3 < (((a0.size : Int) - x3_1))) = false := by (have hw_ : wrap64 ((a0.size : Int) - x3_1) = ((a0.size : Int) - x3_1) := by (unfold wrap64; omega)); have hx_ := c5b0; rw [hw_] at hx_; exact hx_))
       clear c5
       obtain rfl := Option.some.inj H
       go_wp2_with (first | ((with_reducible refine gate_callee (f := 66) rfl ?_); refine goesL_ (some 11) rfl rfl Try.func66 zz12 rfl #[.string a0, .int .i64 x3_1] rfl zz5 ?_; (with_reducible refine (gantletref14_char.calls k1 a0 x3_1 t247 _ A3.out).mono ?_); rintro e w' ⟨rfl, ⟨nd, rfl⟩⟩; refine ⟨_, rfl, ?_⟩))
       go_ret
       exact ⟨zz0, zz1⟩
     ·
      rw [if_neg c4] at H
      have c4b0 : (t247 == 0) = false := beq_eq_false_iff_ne.mpr c4
      have c4b1 : (t247 != 0) = true := bne_iff_ne.mpr c4
      have H' := Aside0.mk H
      clear H
      go_wp2_with (first | ((with_reducible refine gate_callee (f := 66) rfl ?_); refine goesL_ (some 11) rfl rfl Try.func66 zz12 rfl #[.string a0, .int .i64 x3_1] rfl zz5 ?_; (with_reducible refine (gantletref14_char.calls k1 a0 x3_1 t247 _ A3.out).mono ?_); rintro e w' ⟨rfl, ⟨nd, rfl⟩⟩; refine ⟨_, rfl, ?_⟩))
      go_roundg k1
      case measure => have := HK1.out; omega
      case rel => exact ⟨(wrap64 (x3_1 + t247)), zz0, H', ⟨zz57⟩, zz1⟩
    ·
     rw [if_neg c2] at H
     have c2b0 : decide (x3_1 < (a0.size : Int)) = false := decide_eq_false c2
     clear c2
     by_cases c6 : (wrap64 ((a0.size : Int) - x3_1)) > 3
     ·
      rw [if_pos c6] at H
      have c6b0 : decide (3 < (wrap64 ((a0.size : Int) - x3_1))) = true := decide_eq_true c6
      (try (have c6w0 : decide (3 < (((a0.size : Int) - x3_1))) = true := by (have hw_ : wrap64 ((a0.size : Int) - x3_1) = ((a0.size : Int) - x3_1) := by (unfold wrap64; omega)); have hx_ := c6b0; rw [hw_] at hx_; exact hx_))
      clear c6
      obtain rfl := Option.some.inj H
      go_wp2
      go_ret
      exact ⟨zz0, zz1⟩
     ·
      rw [if_neg c6] at H
      have c6b0 : decide (3 < (wrap64 ((a0.size : Int) - x3_1))) = false := decide_eq_false c6
      (try (have c6w0 : decide (3 < (((a0.size : Int) - x3_1))) = false := by (have hw_ : wrap64 ((a0.size : Int) - x3_1) = ((a0.size : Int) - x3_1) := by (unfold wrap64; omega)); have hx_ := c6b0; rw [hw_] at hx_; exact hx_))
      clear c6
      obtain rfl := Option.some.inj H
      go_wp2
      go_ret
      exact ⟨zz0, zz1⟩
end Go.Proofs.Ytpfconocipmcjaa.PC
namespace Go.Proofs.Ytpfconocipmcjaa.PC
open RowKit YtpfconocipmcjaaW.PrintWords YtpfconocipmcjaaW.PrintLast YtpfconocipmcjaaW.PrintMore
attribute [local go_sem] max2_int min2_int max_two min_two max_three min_three max_four min_four
set_option linter.unusedVariables false
set_option linter.unusedSimpArgs false
mutual
def gantletref14_Can.l0 : Nat → Int → ByteArray → Int → Int → Option (Bool)
 | 0, _, _, _, _ => none
 | k + 1, x1, x2, x7, x8 => if x8 < 4 then (gantletref14_Can.j1 k x1 x2 x7 x8 (decide ((wrap64 ((x2.size : Int) + x8)) ≤ x1))) else (gantletref14_Can.j1 k x1 x2 x7 x8 false)
def gantletref14_Can.j1 : Nat → Int → ByteArray → Int → Int → Bool → Option (Bool)
 | 0, _, _, _, _, _ => none
 | k + 1, x1, x2, x7, x8, x36 => if x36 = true then (gantletref14_Can.l1 k x1 x2 x7 x8 0) else (some false)
def gantletref14_Can.l1 : Nat → Int → ByteArray → Int → Int → Int → Option (Bool)
 | 0, _, _, _, _, _ => none
 | k + 1, x1, x2, x7, x8, x9 => if x9 < 2 then (if 0 ≤ x7 then (if x7 ≤ (x2.size : Int) then (gantletref14_Can.l2 k x1 x2 x7 x8 x9 (x2.extract (x7 : Int).toNat x2.size) 0) else (none)) else (none)) else (gantletref14_Can.l0 k x1 x2 x7 (wrap64 (x8 + 1)))
def gantletref14_Can.l2 : Nat → Int → ByteArray → Int → Int → Int → ByteArray → Int → Option (Bool)
 | 0, _, _, _, _, _, _, _ => none
 | k + 1, x1, x2, x7, x8, x9, x10, x11 => if x11 < x8 then ((some (([(wrap64 (128 + (wrap64 (63 * x9)))) % 256] : List Int) : List Int)).bind fun y250 => (if x10.size + (strOfNums y250).size ≤ 9223372036854775807 then (gantletref14_Can.l2 k x1 x2 x7 x8 x9 (x10 ++ (strOfNums y250)) (wrap64 (x11 + 1))) else (none))) else ((gantletref14_char.f k x10 0).bind fun t253 => (if t253 = (x10.size : Int) then (some true) else (gantletref14_Can.l1 k x1 x2 x7 x8 (wrap64 (x9 + 1)))))
end
def gantletref14_Can.f (k : Nat) (a0 : Int) (a1 : Int) (a2 : ByteArray) : Option (Bool) := if a1 < 0 then (some false) else (if a0 = 12 then ((gantletref14_last.f k a2).bind fun t249 => (if t249 < 0 then (some false) else (if t249 = (a2.size : Int) then (some true) else (gantletref14_Can.l0 k a1 a2 t249 1)))) else ((gantletref14_Check.f k a0 a2).bind fun t248 => (some t248)))
set_option maxHeartbeats 8000000 in
set_option maxRecDepth 100000 in
theorem gantletref14_Can.calls (k : Nat) (a0 : Int) (a1 : Int) (a2 : ByteArray) (r : Bool) (w : World) (h : gantletref14_Can.f k a0 a1 a2 = some r) :
 Calls Try.prog 44 #[.int .i64 a0, .int .i64 a1, .string a2] w fun e w' => e = .returned (.bool r) ∧ Below w.heap.size w w' := by
 have HB := Aside0.mk (Below.refl w.heap.size w)
 have H : (if a1 < 0 then (some false) else (if a0 = 12 then ((gantletref14_last.f k a2).bind fun t249 => (if t249 < 0 then (some false) else (if t249 = (a2.size : Int) then (some true) else (gantletref14_Can.l0 k a1 a2 t249 1)))) else ((gantletref14_Check.f k a0 a2).bind fun t248 => (some t248)))) = some r := h
 clear h
 by_cases c4 : a1 < 0
 ·
  rw [if_pos c4] at H
  have c4b0 : decide (a1 < 0) = true := decide_eq_true c4
  clear c4
  obtain rfl := Option.some.inj H
  go_enter Try.func44, Try.ntmps44
  go_wp2
  go_ret
  exact ⟨zz6, zz2⟩
 ·
  rw [if_neg c4] at H
  have c4b0 : decide (a1 < 0) = false := decide_eq_false c4
  clear c4
  by_cases c5 : a0 = 12
  ·
   rw [if_pos c5] at H
   have c5b0 : (a0 == 12) = true := beq_iff_eq.mpr c5
   have c5b1 : (a0 != 12) = false := bne_eq_false_iff_eq.mpr c5
   clear c5
   replace H := Option.bind_eq_some_iff.mp H
   obtain ⟨t249, A60, H⟩ := H
   replace H : (if t249 < 0 then (some false) else (if t249 = (a2.size : Int) then (some true) else (gantletref14_Can.l0 k a1 a2 t249 1))) = some r := H
   have A6 := Aside0.mk A60
   clear A60
   by_cases c7 : t249 < 0
   ·
    rw [if_pos c7] at H
    have c7b0 : decide (t249 < 0) = true := decide_eq_true c7
    clear c7
    obtain rfl := Option.some.inj H
    go_enter Try.func44, Try.ntmps44
    go_wp2_with (first | ((with_reducible refine gate_callee (f := 65) rfl ?_); refine goesL_ (some 20) rfl rfl Try.func65 zz12 rfl #[.string a2] rfl zz5 ?_; (with_reducible refine (gantletref14_last.calls k a2 t249 _ A6.out).mono ?_); rintro e w' ⟨rfl, ⟨nd, rfl⟩⟩; refine ⟨_, rfl, ?_⟩))
    go_ret
    exact ⟨zz6, zz2⟩
   ·
    rw [if_neg c7] at H
    have c7b0 : decide (t249 < 0) = false := decide_eq_false c7
    clear c7
    by_cases c8 : t249 = (a2.size : Int)
    ·
     rw [if_pos c8] at H
     have c8b0 : (t249 == (a2.size : Int)) = true := beq_iff_eq.mpr c8
     have c8b1 : (t249 != (a2.size : Int)) = false := bne_eq_false_iff_eq.mpr c8
     clear c8
     obtain rfl := Option.some.inj H
     go_enter Try.func44, Try.ntmps44
     go_wp2_with (first | ((with_reducible refine gate_callee (f := 65) rfl ?_); refine goesL_ (some 20) rfl rfl Try.func65 zz12 rfl #[.string a2] rfl zz5 ?_; (with_reducible refine (gantletref14_last.calls k a2 t249 _ A6.out).mono ?_); rintro e w' ⟨rfl, ⟨nd, rfl⟩⟩; refine ⟨_, rfl, ?_⟩))
     go_ret
     exact ⟨zz6, zz2⟩
    ·
     rw [if_neg c8] at H
     have c8b0 : (t249 == (a2.size : Int)) = false := beq_eq_false_iff_ne.mpr c8
     have c8b1 : (t249 != (a2.size : Int)) = true := bne_iff_ne.mpr c8
     have H' := Aside0.mk H
     clear H
     go_enter Try.func44, Try.ntmps44
     go_wp2_with (first | ((with_reducible refine gate_callee (f := 65) rfl ?_); refine goesL_ (some 20) rfl rfl Try.func65 zz12 rfl #[.string a2] rfl zz5 ?_; (with_reducible refine (gantletref14_last.calls k a2 t249 _ A6.out).mono ?_); rintro e w' ⟨rfl, ⟨nd, rfl⟩⟩; refine ⟨_, rfl, ?_⟩))
     go_loopg [8] k (fun kq v8 w' => ∃ (x8_1 : Int), v8 = .int .i64 x8_1 ∧ Aside0 (gantletref14_Can.l0 kq a1 a2 t249 x8_1 = some r) ∧ Aside0 (kq ≤ k) ∧ Aside0 (Below w.heap.size w w'))
     case atStart => exact ⟨(1), zz0, H', ⟨Nat.le_refl _⟩, ⟨zz2⟩⟩
     case round =>
      clear H'
      try clear p2
      try clear c4
      try clear c4b0
      try clear c5
      try clear c5b0
      try clear c5b1
      try clear c6
      try clear c7
      try clear c7b0
      try clear c8
      try clear c8b0
      try clear c8b1
      obtain ⟨x8_1, rfl, HA, HK1, HB⟩ := hrel
      cases gk with
      | zero => exact absurd HA.out (by simp [gantletref14_Can.l0])
      | succ k1 =>
        have H := HA.out
        clear HA
        simp only [gantletref14_Can.l0] at H
        have HC9 := Aside0.mk H
        clear H
        go_upto_region 11 with (fail)
        go_cut [36] (fun v36 wc => ∃ (kq : Nat) (x36_8 : Bool), v36 = .bool x36_8 ∧ Aside0 (gantletref14_Can.j1 kq a1 a2 t249 x8_1 x36_8 = some r) ∧ Aside0 (kq ≤ k1) ∧ Aside0 (Below w.heap.size w wc))
        case first =>
         have H := HC9.out
         clear HC9
         by_cases c10 : x8_1 < 4
         ·
          rw [if_pos c10] at H
          have c10b0 : decide (x8_1 < 4) = true := decide_eq_true c10
          clear c10
          (first | rw [c10b0] | (simp only [i64_w, i32_w]; rw [c10b0]) | skip)
          have H' := Aside0.mk H
          clear H
          go_wp2
          go_meet
          case rel => exact ⟨_, (decide ((wrap64 ((a2.size : Int) + x8_1)) ≤ a1)), zz0, H', ⟨zz51⟩, ⟨zz2⟩⟩
         ·
          rw [if_neg c10] at H
          have c10b0 : decide (x8_1 < 4) = false := decide_eq_false c10
          clear c10
          (first | rw [c10b0] | (simp only [i64_w, i32_w]; rw [c10b0]) | skip)
          have H' := Aside0.mk H
          clear H
          go_wp2
          go_meet
          case rel => exact ⟨_, (false), zz0, H', ⟨zz51⟩, ⟨zz2⟩⟩
        case rest =>
         clear HC9
         try clear c1
         try clear p2
         try clear c4
         try clear c4b0
         try clear c5
         try clear c5b0
         try clear c5b1
         try clear c6
         try clear p6
         try clear c7
         try clear c7b0
         try clear c8
         try clear c8b0
         try clear c8b1
         try clear c10
         try clear c10b0
         try clear p2
         obtain ⟨kq, x36_8, rfl, HA, HJ8, HB⟩ := hcut
         cases kq with
         | zero => exact absurd HA.out (by simp [gantletref14_Can.j1])
         | succ kj8 =>
           have H := HA.out
           clear HA
           simp only [gantletref14_Can.j1] at H
           by_cases c11 : x36_8 = true
           ·
            subst c11
            rw [if_pos rfl] at H
            have H' := Aside0.mk H
            clear H
            go_wp2
            go_loopg [9] kj8 (fun kq v9 w' => ∃ (x9_3 : Int), v9 = .int .i64 x9_3 ∧ Aside0 (gantletref14_Can.l1 kq a1 a2 t249 x8_1 x9_3 = some r) ∧ Aside0 (kq ≤ kj8) ∧ Aside0 (Below w.heap.size w w'))
            case atStart => exact ⟨(0), zz0, H', ⟨Nat.le_refl _⟩, ⟨zz2⟩⟩
            case round =>
             clear H'
             try clear c1
             try clear p2
             try clear c4
             try clear c4b0
             try clear c5
             try clear c5b0
             try clear c5b1
             try clear c6
             try clear p6
             try clear c7
             try clear c7b0
             try clear c8
             try clear c8b0
             try clear c8b1
             try clear c10
             try clear c10b0
             try clear c11
             try clear p2
             try clear p6
             obtain ⟨x9_3, rfl, HA, HK3, HB⟩ := hrel
             cases gk with
             | zero => exact absurd HA.out (by simp [gantletref14_Can.l1])
             | succ k3 =>
               have H := HA.out
               clear HA
               simp only [gantletref14_Can.l1] at H
               by_cases c12 : x9_3 < 2
               ·
                rw [if_pos c12] at H
                have c12b0 : decide (x9_3 < 2) = true := decide_eq_true c12
                clear c12
                by_cases c13 : 0 ≤ t249
                ·
                 rw [if_pos c13] at H
                 have c13b0 := eq_true c13
                 have c13b1 : decide (0 ≤ t249) = true := decide_eq_true c13
                 clear c13
                 by_cases c14 : t249 ≤ (a2.size : Int)
                 ·
                  rw [if_pos c14] at H
                  have c14b0 := eq_true c14
                  have c14b1 : decide (t249 ≤ (a2.size : Int)) = true := decide_eq_true c14
                  clear c14
                  have H' := Aside0.mk H
                  clear H
                  go_wp2
                  go_loopg [10, 11] k3 (fun kq v10 v11 w' => ∃ (x10_4 : ByteArray) (x11_4 : Int), v10 = .string x10_4 ∧ v11 = .int .i64 x11_4 ∧ Aside0 (gantletref14_Can.l2 kq a1 a2 t249 x8_1 x9_3 x10_4 x11_4 = some r) ∧ Aside0 (kq ≤ k3) ∧ Aside0 (Below w.heap.size w w'))
                  case atStart => exact ⟨(a2.extract (t249 : Int).toNat a2.size), (0), zz0, zz0, H', ⟨Nat.le_refl _⟩, ⟨zz2⟩⟩
                  case round =>
                   clear H'
                   try clear c1
                   try clear p2
                   try clear c4
                   try clear c4b0
                   try clear c5
                   try clear c5b0
                   try clear c5b1
                   try clear c6
                   try clear p6
                   try clear c7
                   try clear c7b0
                   try clear c8
                   try clear c8b0
                   try clear c8b1
                   try clear c10
                   try clear c10b0
                   try clear c11
                   try clear c12
                   try clear c12b0
                   try clear c13
                   try clear c13b0
                   try clear c13b1
                   try clear c14
                   try clear c14b0
                   try clear c14b1
                   try clear p2
                   try clear p6
                   obtain ⟨x10_4, x11_4, rfl, rfl, HA, HK4, HB⟩ := hrel
                   cases gk with
                   | zero => exact absurd HA.out (by simp [gantletref14_Can.l2])
                   | succ k4 =>
                     have H := HA.out
                     clear HA
                     simp only [gantletref14_Can.l2] at H
                     by_cases c15 : x11_4 < x8_1
                     ·
                      rw [if_pos c15] at H
                      have c15b0 : decide (x11_4 < x8_1) = true := decide_eq_true c15
                      clear c15
                      obtain ⟨y250, hy250⟩ : ∃ y_ : List Int, y_ = (([(wrap64 (128 + (wrap64 (63 * x9_3)))) % 256] : List Int)) := ⟨_, rfl⟩
                      replace H : (if x10_4.size + (strOfNums y250).size ≤ 9223372036854775807 then (gantletref14_Can.l2 k4 a1 a2 t249 x8_1 x9_3 (x10_4 ++ (strOfNums y250)) (wrap64 (x11_4 + 1))) else (none)) = some r := by first | (rw [hy250]; with_reducible exact H) | (have H2_ := (Option.bind_some _ _).symm.trans H; rw [hy250]; with_reducible exact H2_) | (have H2_ := (Option.bind_some _ _).symm.trans H; with_reducible exact H2_) | with_reducible exact H | (rw [hy250]; exact H) | exact H
                      have Ny250 := Aside0.mk hy250
                      clear hy250
                      by_cases c16 : x10_4.size + (strOfNums y250).size ≤ 9223372036854775807
                      ·
                       rw [if_pos c16] at H
                       have c16b0 := eq_true c16
                       have c16b1 : decide (x10_4.size + (strOfNums y250).size ≤ 9223372036854775807) = true := decide_eq_true c16
                       try have c16b2 : (9223372036854775807 < x10_4.size + (strOfNums y250).size) = False := eq_false (Nat.not_lt.2 c16)
                       have H' := Aside0.mk H
                       clear H
                       go_wp2_with (first | ((with_reducible refine gate_dst (N := 56) rfl ?_); (try (refine gate_guard (by rfl) ?_; dsimp only)); refine Kd.R_lit (Kd.int .u8) _ 5 ?hg (N := 56) ?hd (xs := ([(wrap64 (128 + (wrap64 (63 * x9_3)))) % 256] : List Int)) (inner := [.int .u8 ((wrap64 (128 + (wrap64 (63 * x9_3)))) % 256)]) (ok := fun _ => True) (okp := fun _ => True) ?hr ?hp (fun _ hk => hk) trivial (Below.refl _ _) (Nat.le_refl _) zz30 ?_; (case hd => rfl); (case hg => rfl); (case hr => first | (go_simp; done) | (go_simp; rfl)); (case hp => exact (Reps.one (show Kd.M (Kd.int .u8) _ _ _ ((wrap64 (128 + (wrap64 (63 * x9_3)))) % 256) [.int .u8 ((wrap64 (128 + (wrap64 (63 * x9_3)))) % 256)] from rfl) (Reps.none _ _))); intro v251 w17 ho18 hb hg_ hnew_; clear hg_ hnew_; (first | rw [← Ny250.out] at ho18 | (simp only [Int.reduceToNat] at ho18; rw [← Ny250.out] at ho18)); have n0_ := Aside0.mk (Kd.R_lower ho18 (below_size zz2)); have n1_ := Aside0.mk (below_step zz2 hb); clear HB; have HO252 := n0_; have HB := n1_; clear n0_ n1_; clear hb ho18; have hcv19 := own_string (P := Try.prog) Try.underlying52 Try.underlying5 Try.underlying9 (Kd.own_of_R HO252.out)))
                       go_roundg k4
                       case measure => have := HK1.out; have := HJ8.out; have := HK3.out; have := HK4.out; omega
                       case rel => exact ⟨(x10_4 ++ (strOfNums y250)), (wrap64 (x11_4 + 1)), zz0, zz0, H', ⟨by have := HK1.out; have := HJ8.out; have := HK3.out; have := HK4.out; omega⟩, ⟨zz2⟩⟩
                      ·
                       rw [if_neg c16] at H
                       exact absurd H zz30
                     ·
                      rw [if_neg c15] at H
                      have c15b0 : decide (x11_4 < x8_1) = false := decide_eq_false c15
                      clear c15
                      replace H := Option.bind_eq_some_iff.mp H
                      obtain ⟨t253, A200, H⟩ := H
                      replace H : (if t253 = (x10_4.size : Int) then (some true) else (gantletref14_Can.l1 k4 a1 a2 t249 x8_1 (wrap64 (x9_3 + 1)))) = some r := H
                      have A20 := Aside0.mk A200
                      clear A200
                      by_cases c21 : t253 = (x10_4.size : Int)
                      ·
                       rw [if_pos c21] at H
                       have c21b0 : (t253 == (x10_4.size : Int)) = true := beq_iff_eq.mpr c21
                       have c21b1 : (t253 != (x10_4.size : Int)) = false := bne_eq_false_iff_eq.mpr c21
                       clear c21
                       obtain rfl := Option.some.inj H
                       go_wp2_with (first | ((with_reducible refine gate_callee (f := 66) rfl ?_); refine goesL_ (some 60) rfl rfl Try.func66 zz12 rfl #[.string x10_4, .int .i64 0] rfl zz5 ?_; (with_reducible refine (gantletref14_char.calls k4 x10_4 0 t253 _ A20.out).mono ?_); rintro e w' ⟨rfl, ⟨nd, rfl⟩⟩; refine ⟨_, rfl, ?_⟩))
                       go_ret
                       exact ⟨zz6, zz2⟩
                      ·
                       rw [if_neg c21] at H
                       have c21b0 : (t253 == (x10_4.size : Int)) = false := beq_eq_false_iff_ne.mpr c21
                       have c21b1 : (t253 != (x10_4.size : Int)) = true := bne_iff_ne.mpr c21
                       have H' := Aside0.mk H
                       clear H
                       go_wp2_with (first | ((with_reducible refine gate_callee (f := 66) rfl ?_); refine goesL_ (some 60) rfl rfl Try.func66 zz12 rfl #[.string x10_4, .int .i64 0] rfl zz5 ?_; (with_reducible refine (gantletref14_char.calls k4 x10_4 0 t253 _ A20.out).mono ?_); rintro e w' ⟨rfl, ⟨nd, rfl⟩⟩; refine ⟨_, rfl, ?_⟩))
                       go_roundg k4
                       case measure => have := HK1.out; have := HJ8.out; have := HK3.out; have := HK4.out; omega
                       case rel => exact ⟨(wrap64 (x9_3 + 1)), zz0, H', ⟨by have := HK1.out; have := HJ8.out; have := HK3.out; have := HK4.out; omega⟩, ⟨zz2⟩⟩
                 ·
                  rw [if_neg c14] at H
                  exact absurd H zz30
                ·
                 rw [if_neg c13] at H
                 exact absurd H zz30
               ·
                rw [if_neg c12] at H
                have c12b0 : decide (x9_3 < 2) = false := decide_eq_false c12
                clear c12
                have H' := Aside0.mk H
                clear H
                go_wp2
                go_roundg k3
                case measure => have := HK1.out; have := HJ8.out; have := HK3.out; omega
                case rel => exact ⟨(wrap64 (x8_1 + 1)), zz0, H', ⟨by have := HK1.out; have := HJ8.out; have := HK3.out; omega⟩, ⟨zz2⟩⟩
           ·
            replace c11 := Bool.eq_false_iff.mpr c11
            subst c11
            rw [if_neg (show ¬ (false = true) by decide)] at H
            obtain rfl := Option.some.inj H
            go_wp2
            go_ret
            exact ⟨zz6, zz2⟩
  ·
   rw [if_neg c5] at H
   have c5b0 : (a0 == 12) = false := beq_eq_false_iff_ne.mpr c5
   have c5b1 : (a0 != 12) = true := bne_iff_ne.mpr c5
   replace H := Option.bind_eq_some_iff.mp H
   obtain ⟨t248, A220, H⟩ := H
   replace H : (some t248) = some r := H
   have A22 := Aside0.mk A220
   clear A220
   obtain rfl := Option.some.inj H
   go_enter Try.func44, Try.ntmps44
   go_wp2_with (first | ((with_reducible refine gate_callee (f := 64) rfl ?_); refine goesL_ (some 18) rfl rfl Try.func64 zz12 rfl #[.int .i64 a0, .string a2] rfl zz5 ?_; (with_reducible refine (gantletref14_Check.calls k a0 a2 t248 _ A22.out).mono ?_); rintro e w' ⟨rfl, ⟨nd, rfl⟩⟩; refine ⟨_, rfl, ?_⟩))
   go_ret
   exact ⟨zz6, zz2⟩
end Go.Proofs.Ytpfconocipmcjaa.PC
