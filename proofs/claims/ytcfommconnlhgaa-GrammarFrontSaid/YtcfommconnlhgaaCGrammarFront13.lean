/- What the row of GrammarFront stands on, made small by a program of this session (pack.py). -/
namespace Go.Proofs.Ytcfommconnlhgaa.Mxm
def tk : List Int → List Int × Int
 | [] => ([], 0)
 | x :: r => if x = 0 then (x :: r, 5) else ((x - 1) :: r, 0)
def lv : List Int → List Int × Bool
 | [] => ([], false)
 | x :: r => if x = 0 then (r, true) else (x :: r, false)
def en (most : Nat) : List Int → Int → List Int × Int
 | [], n => if 0 = most then ([], 10) else ([n], 0)
 | x :: r, n => if x < n then (x :: r, 5) else if r.length + 1 = most then (x :: r, 10) else (n :: (x - n) :: r, 0)
end Go.Proofs.Ytcfommconnlhgaa.Mxm
