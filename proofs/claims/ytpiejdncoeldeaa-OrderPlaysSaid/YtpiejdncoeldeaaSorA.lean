/- What awake of the layer 16 comes to, walked by hand: true. -/
import Derived.Test.YtpiejdncoeldeaaSorP
import Derived.Test.YtpiejdncoeldeaaSorE
import Derived.Test.YtpiejdncoeldeaaSorR
namespace Go.Proofs.Ytpiejdncoeldeaa.Hand
open Go.RowKit Go.Proofs.Ytpiejdncoeldeaa.PA Go.Proofs.YtpiejdncoeldeaaW.PrintWords Go.Proofs.YtpiejdncoeldeaaW.PrintLast Go.Proofs.YtpiejdncoeldeaaW.PrintMore
set_option linter.unusedVariables false

set_option maxHeartbeats 8000000 in
set_option maxRecDepth 100000 in
theorem awake_any (w : World) :
    Calls Try.prog 8 #[] w fun e w' => e = .returned (.bool true) ∧ Below w.heap.size w w' := by
  have HB := Aside0.mk (Below.refl w.heap.size w)
  have k1 : order_Compare.f 20 (strOfNums [2]) (strOfNums [1]) = some 1 := by decide +kernel
  have k2 : order_Compare.f 20 (⟨#[1]⟩ : ByteArray) (⟨#[1, 0]⟩ : ByteArray) = some 0 := by decide +kernel
  have k3 : order_Compare.f 20 (⟨#[1, 1]⟩ : ByteArray) (⟨#[1]⟩ : ByteArray) = some 1 := by decide +kernel
  have K1 := Aside0.mk k1
  have K2 := Aside0.mk k2
  have K3 := Aside0.mk k3
  clear k1 k2 k3
  have hm : mn (mx 2 0) 65536 = 2 := by decide
  go_enter Try.func8, Try.ntmps8
  go_wp2_with (first
    | (
       go_at_call 11
       (with_reducible refine (new_any 2 w _ HB.out).mono ?_)
       rintro e w1 ⟨g, rfl, hs, hb⟩
       rw [hm] at hs
       clear HB hm; have S := Aside0.mk hs; have HB := Aside0.mk hb; clear hs hb)
    | (
       go_at_call 13
       (with_reducible first
         | refine (push_more g 2 [] [] false 2 w _ HB.out S.out (by decide) (by decide)).mono ?_
         | refine (push_more g 2 [2] [] true 1 w _ HB.out S.out (by decide) (by decide)).mono ?_
         | refine (push_over g 2 [2] [1] true 9 9 w _ HB.out S.out (by decide)).mono ?_
         | refine (push_more g 2 [] [] false 1 w _ HB.out S.out (by decide) (by decide)).mono ?_
         | refine (push_more g 2 [] [1] false 1 w _ HB.out S.out (by decide) (by decide)).mono ?_
         | refine (push_full g 2 [] [1, 1] false 1 w _ HB.out S.out (by decide)).mono ?_)
       rintro e w1 ⟨rfl, hs, hb⟩
       clear HB S; have S := Aside0.mk hs; have HB := Aside0.mk hb; clear hs hb
       (try simp only [List.nil_append, List.cons_append] at S))
    | (
       go_at_call 15
       (with_reducible first
         | refine (end_first g 2 [] [2] w _ HB.out S.out).mono ?_
         | refine (end_bad 20 g 2 [2] [1] 1 w _ HB.out S.out K1.out (by decide)).mono ?_)
       rintro e w1 ⟨rfl, hs, hb⟩
       clear HB S; have S := Aside0.mk hs; have HB := Aside0.mk hb; clear hs hb)
    | (
       go_at_call 17
       (with_reducible refine (reset_any g 2 [2] [1] true 9 w _ HB.out S.out).mono ?_)
       rintro e w1 ⟨rfl, hs, hb⟩
       clear HB S; have S := Aside0.mk hs; have HB := Aside0.mk hb; clear hs hb)
    | (
       go_at_call 9
       (with_reducible first
         | refine (order_Compare.calls 20 (⟨#[1]⟩ : ByteArray) (⟨#[1, 0]⟩ : ByteArray) 0 _ K2.out).mono ?_
         | refine (order_Compare.calls 20 (⟨#[1, 1]⟩ : ByteArray) (⟨#[1]⟩ : ByteArray) 1 _ K3.out).mono ?_)
       rintro e w1 ⟨rfl, hb⟩
       have n0_ := Aside0.mk (below_step (by repeat (first | (with_reducible first | exact HB.out | apply below_alloc | apply pw_below_drewN | apply below_drew1) | exact HB.out)) hb)
       clear HB hb; have HB := n0_; clear n0_))
  go_ret
  exact ⟨rfl, by repeat (first | (with_reducible first | exact HB.out | apply below_alloc | apply pw_below_drewN | apply below_drew1) | exact HB.out)⟩
end Go.Proofs.Ytpiejdncoeldeaa.Hand
