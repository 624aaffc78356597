-- Written by a program of this session (print2, a turned print): not PRINTED BY print.sh
import Derived.Test.YtomaajagncjiiaaPCx6p0
namespace Go.Proofs.Ytomaajagncjiiaa.PC
open Go.RowKit Go.Proofs.YtomaajagncjiiaaW.PrintWords Go.Proofs.YtomaajagncjiiaaW.PrintLast Go.Proofs.YtomaajagncjiiaaW.PrintMore
attribute [local go_sem] max2_int min2_int max_two min_two max_three min_three max_four min_four   -- for this text's walks alone
set_option linter.unusedVariables false
set_option linter.unusedSimpArgs false


open Go.Proofs.Ytomaajagncjiiaa.Own
/-! The machine, as plain functions. -/
abbrev Hd := S34
abbrev Ev := S36
def h0 : Hd := ⟨0, 0, false, 0⟩
def ev (kind at_ : Int) (h : Hd) (b : Int) : Ev := ⟨kind, at_, h, b⟩
/-- What is left of each element that is open (the innermost first), a head's bytes, what is left of a leaf, the place, whether a head was whole, the error. -/
structure St where
  left : List Int
  came : List Int
  leaf : Int
  at_ : Int
  begun : Bool
  over : Int
def init0 : St := ⟨[], [], 0, 0, false, 0⟩
def done (s : St) : Bool := s.begun && ((s.left.length : Int) == 0) && (s.leaf == 0) && ((s.came.length : Int) == 0)
def takeM (s : St) : St := { s with left := (Mxm.tk s.left).1 }
def ends (s : St) (n : Int) : List Ev := if n = 0 then [ev 4 s.at_ h0 0] else []
def contentM (s : St) (b : Int) : St × List Ev :=
  ({ takeM s with leaf := s.leaf - 1 }, ev 3 s.at_ h0 b :: ends s (s.leaf - 1))
def beginM (most : Nat) (s : St) (h : Hd) : St × List Ev × Int :=
  if 0 < (s.left.length : Int) ∧ s.left.headD 0 < h.f3 then (s, [], 5)
  else if h.f2 = true then
    (if (Mxm.en most s.left h.f3).2 ≠ 0 then ({ s with came := [], left := (Mxm.en most s.left h.f3).1 }, [], (Mxm.en most s.left h.f3).2)
     else ({ s with came := [], left := (Mxm.en most s.left h.f3).1, begun := true }, [ev 1 s.at_ h 0], 0))
  else ({ s with came := [], leaf := h.f3, begun := true }, ev 2 s.at_ h 0 :: ends s h.f3, 0)
/-- The head that some bytes are. -/
def hd (l : List Int) : Hd := ⟨(Hdm.hg l).1, (Hdm.hg l).2.1, (Hdm.hg l).2.2.1, (Hdm.hg l).2.2.2.1⟩
def er (l : List Int) : Int := (Hdm.hg l).2.2.2.2.2
def stepM (most : Nat) (s : St) (b : Int) : St × List Ev × Int :=
  if 0 < s.leaf then ((contentM s b).1, (contentM s b).2, 0)
  else if (Mxm.tk s.left).2 ≠ 0 then (takeM s, [], (Mxm.tk s.left).2)
  else if er (s.came ++ [b]) = 2 then ({ takeM s with came := s.came ++ [b] }, [], 0)
  else if er (s.came ++ [b]) ≠ 0 then ({ takeM s with came := s.came ++ [b] }, [], er (s.came ++ [b]))
  else beginM most { takeM s with came := s.came ++ [b] } (hd (s.came ++ [b]))
def exits (at_ : Int) : List Int → List Int × List Ev
  | [] => ([], [])
  | x :: r => if x = 0 then ((exits at_ r).1, ev 5 at_ h0 0 :: (exits at_ r).2) else (x :: r, [])
/-- Behind a step that was right: what is over with the byte. -/
def closeM (s : St) : St × List Ev :=
  if s.leaf = 0 ∧ s.came = [] then ({ s with left := (exits s.at_ s.left).1, at_ := s.at_ + 1 }, (exits s.at_ s.left).2) else ({ s with at_ := s.at_ + 1 }, [])
def pushM (most : Nat) (s : St) (b : Int) : St × List Ev × Int :=
  if s.over ≠ 0 then (s, [], s.over)
  else if done s = true then ({ s with over := 6 }, [], 6)
  else if (stepM most s b).2.2 ≠ 0 then ({ (stepM most s b).1 with over := (stepM most s b).2.2 }, [], (stepM most s b).2.2)
  else ((closeM (stepM most s b).1).1, (stepM most s b).2.1 ++ (closeM (stepM most s b).1).2, 0)
/-- Byte by byte, from a place on: the events, the error, its place. -/
def runM (most : Nat) : St → List Int → Int → List Ev → List Ev × Int × Int
  | s, [], i, acc => (acc, if done s = true then 0 else 2, i)
  | s, b :: r, i, acc => if (pushM most s b).2.2 ≠ 0 then (acc, (pushM most s b).2.2, i) else runM most (pushM most s b).1 r (i + 1) (acc ++ (pushM most s b).2.1)
def wholeM (most : Nat) (l : List Int) : List Ev × Int × Int := runM most init0 l 0 []
end Go.Proofs.Ytomaajagncjiiaa.PC
