/-
  The plain functions of the program (printed by gen.py). Conditions: none.
-/
import Derived.Test.YtkopaeklihhdlaaGreatCDnx4dbce8
import Derived.Test.YtkopaeklihhdlaaGreatCP60ox6034d6
set_option linter.unusedSimpArgs false
set_option linter.unusedVariables false
namespace Go.Proofs.YtkopaeklihhdlaaGreat
namespace Abs
open Go Go.Proofs
set_option maxRecDepth 100000
set_option maxHeartbeats 40000000
def uL (n : Nat) (p0 : Val) (p1 : Val) (p2 : Val) : Option Bool := ((dG n p0 p1).bind fun x1 => ((dG n p1 p2).bind fun x2 => ((dG n p0 p2).bind fun x3 => ((((dG n p1 p0).bind fun x8 => (cond (x8 != (IntKind.wrap .i64 (0 - x1))) (some true) ((dU n p0 p1).bind fun x9 => (cond (!((x1 == 0) == x9)) (some true) (cond (decide (x1 ≤ 0)) (cond (decide (x2 ≤ 0)) (cond (decide (0 < x3)) (some true) (cond (decide (x1 < (-1))) (some true) (some (decide (1 < x1))))) (cond (decide (x1 < (-1))) (some true) (some (decide (1 < x1))))) (cond (decide (x1 < (-1))) (some true) (some (decide (1 < x1))))))))) : Option Bool).bind fun s1 => (cond s1 (some false) ((mU n ([p0, p1, p2])).bind fun x4 => ((mU n ([p2, p0, p1, p0, p2])).bind fun x5 => (((cond (x4.2 == 0) (cond (x5.2 == 0) ((dU n x4.1 x5.1).bind fun x6 => (cond x6 (cond (decide (1 ≤ (x4.1.kids.length : Int))) (cond (decide ((x4.1.kids.length : Int) ≤ 3)) ((qC n).bind fun x7 => some x7) (some false)) (some false)) (some false))) (some false)) (some false)) : Option Bool).bind fun s2 => some s2))))))))
end Abs
end Go.Proofs.YtkopaeklihhdlaaGreat
