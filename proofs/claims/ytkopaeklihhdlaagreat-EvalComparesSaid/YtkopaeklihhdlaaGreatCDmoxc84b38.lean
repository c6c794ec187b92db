/-
  The plain functions of the program (printed by gen.py). Conditions: none.
-/
import Derived.Test.YtkopaeklihhdlaaGreatCDmx12f51d
import Derived.Test.YtkopaeklihhdlaaGreatCAbs35ox20e367
set_option linter.unusedSimpArgs false
set_option linter.unusedVariables false
namespace Go.Proofs.YtkopaeklihhdlaaGreat
namespace Abs
open Go Go.Proofs
set_option maxRecDepth 100000
set_option maxHeartbeats 40000000
def um (n : Nat) (p0 : Int) (p1 : Int) : Option Int := (cond (decide (p0 < p1)) (some (-1)) (cond (decide (p1 < p0)) (some 1) (some 0)))
def jX (n : Nat) (qdc : Val → Val → Option Int) (p0 : Val) (p1 : Val) : Nat → Int → Option (LR Unit Int)
 | 0, _ => none
 | k + 1, s1 => (((cond (decide (s1 < (p0.kids.length : Int))) (some (decide (s1 < (p1.kids.length : Int)))) (some false)) : Option Bool).bind fun s3 => (cond s3 ((idx p0.kids s1).bind fun x4 => ((idx p1.kids s1).bind fun x5 => ((qdc x4 x5).bind fun x6 => (cond (x6 != 0) (some (.rt x6)) (jX n qdc p0 p1 k (IntKind.wrap .i64 (s1 + 1))))))) (some (.nx ()))))
def ng (n : Nat) (qdc : Val → Val → Option Int) (p0 : Val) (p1 : Val) : Option Int := (cond (p0.kind != p1.kind) ((um n p0.kind p1.kind).bind fun x1 => some x1) (cond (p0.n != p1.n) ((um n p0.n p1.n).bind fun x2 => some x2) (cond (Op.bytesLess p0.name p1.name) (some (-1)) (cond (!(Op.bytesLess p0.name p1.name || p0.name == p1.name)) (some 1) ((jX n qdc p0 p1 n 0).bind (LR.el (fun s2 => ((um n (p0.kids.length : Int) (p1.kids.length : Int)).bind fun x3 => some x3)) (fun r => some r)))))))
def fE : Nat → Val → Val → Option Int
 | 0, _, _ => none
 | n + 1, p0, p1 => ng n (fun p0 p1 => fE n p0 p1) p0 p1
end Abs
end Go.Proofs.YtkopaeklihhdlaaGreat
