/- The shortest words: the search's words are those that the document's table of distances leads along. By reckoning, for all numbers of lumps and places. -/
import Derived.Test.YtgnklmhjejbcoaaHG
import Derived.Test.YtgnklmhjejbcoaaQD
namespace Go.Proofs.Ytgnklmhjejbcoaa.K
open Go.RowKit Go.Proofs.YtgnklmhjejbcoaaW.PrintWords Go.Proofs.YtgnklmhjejbcoaaW.PrintLast Go.Proofs.YtgnklmhjejbcoaaW.PrintMore
set_option linter.unusedVariables false
set_option linter.unusedSimpArgs false

/-- After how many folds a lump can come from p to t. -/
def dist (n t p : Nat) : Nat := if p = t then 0 else if (t + (n - 1) * (2 * p)) % n < 2 then 1 else if (t + (n - 1) * (4 * p)) % n < 4 then 2 else if (t + (n - 1) * (8 * p)) % n < 8 then 3 else if (t + (n - 1) * (16 * p)) % n < 16 then 4 else 5
/-- The word along falling distances, outs first. -/
def gr (n t : Nat) : Nat → Nat → List Int
  | 0, _ => []
  | f + 1, p => if p = t then [] else if dist n t (stepN n p 0) + 1 = dist n t p then 0 :: gr n t f (stepN n p 0) else 1 :: gr n t f (stepN n p 1)
def oneChk (n p t : Nat) (w : Option (List Int)) : Bool :=
  decide (w = some (gr n t 10 p)) && decide (alongN n (gr n t 10 p) p = t) && decide (wcode (gr n t 10 p) = 0) && decide (dist n t p ≤ 1 + dist n t (stepN n p 0)) && decide (dist n t p ≤ 1 + dist n t (stepN n p 1)) &&
  decide (p = t ∨ dist n t p = 1 + dist n t (stepN n p 0) ∨ dist n t p = 1 + dist n t (stepN n p 1)) && decide (dist n t p ≤ 5) && decide (dist n t p ≤ n)
def wayChk (n : Nat) : Bool := (List.range n).all fun p => match bfs n 100000 (startW p) with | none => false | some wd => (List.range n).all fun t => oneChk n p t (wd t)
set_option maxRecDepth 100000 in
theorem way_all : ((List.range 16).all fun m => wayChk (2 * (m + 1))) = true := by decide +kernel
end Go.Proofs.Ytgnklmhjejbcoaa.K
