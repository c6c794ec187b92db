/-
  The plain functions of the program (printed by gen.py). Conditions: none.
-/
import Derived.Test.YtkopaeklihhdlaaGreatCExtHoxbb6ceb
set_option linter.unusedSimpArgs false
set_option linter.unusedVariables false
namespace Go.Proofs.YtkopaeklihhdlaaGreat
namespace Abs
open Go Go.Proofs
set_option maxRecDepth 100000
set_option maxHeartbeats 40000000
def kX (n : Nat) (qdo : Val → Option Val) (p0 : Val) : Nat → ((List Val) × Int) → Option (LR (List Val) Val)
 | 0, _ => none
 | k + 1, s1 => (cond (decide (s1.2 < (p0.kids.length : Int))) ((idx s1.1 s1.2).bind fun x3 => ((qdo x3).bind fun x4 => ((idx s1.1 s1.2).bind fun x5 => kX n qdo p0 k ((upd s1.1 s1.2 x4), (s1.2 + 1))))) (some (.nx s1.1)))
def nN (n : Nat) (qdo : Val → Option Val) (p0 : Val) : Option Val := ((sM n p0.kids).bind fun x1 => ((mG n p0.kids).bind fun x2 => ((kX n qdo p0 n (p0.kids, 0)).bind (LR.el (fun s2 => some (Val.mk p0.kind p0.n p0.name s2)) (fun r => some r)))))
def gu : Nat → Val → Option Val
 | 0, _ => none
 | n + 1, p0 => nN n (fun p0 => gu n p0) p0
def nK (n : Nat) (qdh : (List Val) → Option (List Val)) (qdi : Val → Option Val) (p0 : List Val) : Nat → ((List Val) × Int) → Option (LR (List Val) (List Val))
 | 0, _ => none
 | k + 1, s1 => (cond (decide (s1.2 < (p0.length : Int))) ((idx p0 s1.2).bind fun x1 => ((qdi x1).bind fun x2 => ((app 56 s1.1 ([x2])).bind fun x3 => nK n qdh qdi p0 k (x3, (s1.2 + 1))))) (some (.nx s1.1)))
def pF (n : Nat) (qdh : (List Val) → Option (List Val)) (qdi : Val → Option Val) (p0 : List Val) : Option (List Val) := ((nK n qdh qdi p0 n (([] : List Val), 0)).bind (LR.el (fun s2 => some s2) (fun r => some r)))
def sH (n : Nat) (qdh : (List Val) → Option (List Val)) (qdi : Val → Option Val) (p0 : Val) : Option Val := ((qdh p0.kids).bind fun x1 => some (Val.mk p0.kind p0.n p0.name x1))
mutual
def ng : Nat → (List Val) → Option (List Val)
 | 0, _ => none
 | n + 1, p0 => pF n (fun p0 => ng n p0) (fun p0 => kC n p0) p0
def kC : Nat → Val → Option Val
 | 0, _ => none
 | n + 1, p0 => sH n (fun p0 => ng n p0) (fun p0 => kC n p0) p0
end
def mq (n : Nat) (qdj : Val → Val → Option Bool) (qdk : (List Val) → (List Val) → Option Bool) (p0 : Val) (p1 : Val) : Option Bool := (((cond (p0.kind == p1.kind) (cond (p0.n == p1.n) (cond (p0.name == p1.name) ((qdk p0.kids p1.kids).bind fun x1 => some x1) (some false)) (some false)) (some false)) : Option Bool).bind fun s1 => some s1)
def jv (n : Nat) (qdj : Val → Val → Option Bool) (qdk : (List Val) → (List Val) → Option Bool) (p0 : List Val) (p1 : List Val) : Nat → Int → Option (LR Unit Bool)
 | 0, _ => none
 | k + 1, s1 => (cond (decide (s1 < (p0.length : Int))) ((idx p0 s1).bind fun x1 => ((idx p1 s1).bind fun x2 => ((qdj x1 x2).bind fun x3 => (cond (!x3) (some (.rt false)) (jv n qdj qdk p0 p1 k (s1 + 1)))))) (some (.nx ())))
def lV (n : Nat) (qdj : Val → Val → Option Bool) (qdk : (List Val) → (List Val) → Option Bool) (p0 : List Val) (p1 : List Val) : Option Bool := (cond ((p0.length : Int) != (p1.length : Int)) (some false) ((jv n qdj qdk p0 p1 n 0).bind (LR.el (fun s2 => some true) (fun r => some r))))
mutual
def dN : Nat → Val → Val → Option Bool
 | 0, _, _ => none
 | n + 1, p0, p1 => mq n (fun p0 p1 => dN n p0 p1) (fun p0 p1 => iI n p0 p1) p0 p1
def iI : Nat → (List Val) → (List Val) → Option Bool
 | 0, _, _ => none
 | n + 1, p0, p1 => lV n (fun p0 p1 => dN n p0 p1) (fun p0 p1 => iI n p0 p1) p0 p1
end
end Abs
end Go.Proofs.YtkopaeklihhdlaaGreat
