/-
  The plain functions of the program (printed by gen.py). Conditions: none.
-/
import Derived.Test.YtkopaeklihhdlaaGreatCExtHx779638
set_option linter.unusedSimpArgs false
set_option linter.unusedVariables false
namespace Go.Proofs.YtkopaeklihhdlaaGreat
namespace Abs
open Go Go.Proofs
set_option maxRecDepth 100000
set_option maxHeartbeats 40000000
def kG (n : Nat) (qdk : Val → Option Val) (p0 : Val) : Nat → ((List Val) × Int) → Option (LR (List Val) Val)
 | 0, _ => none
 | k + 1, s1 => (cond (decide (s1.2 < (p0.kids.length : Int))) ((idx s1.1 s1.2).bind fun x3 => ((qdk x3).bind fun x4 => ((idx s1.1 s1.2).bind fun x5 => kG n qdk p0 k ((upd s1.1 s1.2 x4), (s1.2 + 1))))) (some (.nx s1.1)))
def mI (n : Nat) (qdk : Val → Option Val) (p0 : Val) : Option Val := ((qx n p0.kids).bind fun x1 => ((rX n p0.kids).bind fun x2 => ((kG n qdk p0 n (p0.kids, 0)).bind (LR.el (fun s2 => some (Val.mk p0.kind p0.n p0.name s2)) (fun r => some r)))))
def jB : Nat → Val → Option Val
 | 0, _ => none
 | n + 1, p0 => mI n (fun p0 => jB n p0) p0
def mU (n : Nat) (p0 : List Val) : Option (Val × Int) := ((wD n p0).bind fun x1 => (cond (decide (256 < (x1.length : Int))) (some ((Val.mk 0 0 ([] : Str) ([])), 11)) ((jB n (Val.mk 5 0 ([] : Str) x1)).bind fun x2 => some (x2, 0))))
def lW (n : Nat) (qdf : Val → Val → Option Bool) (qdg : (List Val) → (List Val) → Option Bool) (p0 : Val) (p1 : Val) : Option Bool := (((cond (p0.kind == p1.kind) (cond (p0.n == p1.n) (cond (p0.name == p1.name) ((qdg p0.kids p1.kids).bind fun x1 => some x1) (some false)) (some false)) (some false)) : Option Bool).bind fun s1 => some s1)
def je (n : Nat) (qdf : Val → Val → Option Bool) (qdg : (List Val) → (List Val) → Option Bool) (p0 : List Val) (p1 : List Val) : Nat → Int → Option (LR Unit Bool)
 | 0, _ => none
 | k + 1, s1 => (cond (decide (s1 < (p0.length : Int))) ((idx p0 s1).bind fun x1 => ((idx p1 s1).bind fun x2 => ((qdf x1 x2).bind fun x3 => (cond (!x3) (some (.rt false)) (je n qdf qdg p0 p1 k (s1 + 1)))))) (some (.nx ())))
def lC (n : Nat) (qdf : Val → Val → Option Bool) (qdg : (List Val) → (List Val) → Option Bool) (p0 : List Val) (p1 : List Val) : Option Bool := (cond ((p0.length : Int) != (p1.length : Int)) (some false) ((je n qdf qdg p0 p1 n 0).bind (LR.el (fun s2 => some true) (fun r => some r))))
mutual
def dU : Nat → Val → Val → Option Bool
 | 0, _, _ => none
 | n + 1, p0, p1 => lW n (fun p0 p1 => dU n p0 p1) (fun p0 p1 => iW n p0 p1) p0 p1
def iW : Nat → (List Val) → (List Val) → Option Bool
 | 0, _, _ => none
 | n + 1, p0, p1 => lC n (fun p0 p1 => dU n p0 p1) (fun p0 p1 => iW n p0 p1) p0 p1
end
end Abs
end Go.Proofs.YtkopaeklihhdlaaGreat
