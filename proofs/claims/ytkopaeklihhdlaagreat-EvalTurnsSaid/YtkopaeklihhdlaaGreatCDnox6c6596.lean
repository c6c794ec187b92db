/-
  The plain functions of the program (printed by gen.py). Conditions: none.
-/
import Derived.Test.YtkopaeklihhdlaaGreatCExtHoxc264b0
set_option linter.unusedSimpArgs false
set_option linter.unusedVariables false
namespace Go.Proofs.YtkopaeklihhdlaaGreat
namespace Abs
open Go Go.Proofs
set_option maxRecDepth 100000
set_option maxHeartbeats 40000000
def lN (n : Nat) (qdx : Val → Option Val) (p0 : Val) : Nat → ((List Val) × Int) → Option (LR (List Val) Val)
 | 0, _ => none
 | k + 1, s1 => (cond (decide (s1.2 < (p0.kids.length : Int))) ((idx s1.1 s1.2).bind fun x3 => ((qdx x3).bind fun x4 => ((idx s1.1 s1.2).bind fun x5 => lN n qdx p0 k ((upd s1.1 s1.2 x4), (s1.2 + 1))))) (some (.nx s1.1)))
def oh (n : Nat) (qdx : Val → Option Val) (p0 : Val) : Option Val := ((tK n p0.kids).bind fun x1 => ((mV n p0.kids).bind fun x2 => ((lN n qdx p0 n (p0.kids, 0)).bind (LR.el (fun s2 => some (Val.mk p0.kind p0.n p0.name s2)) (fun r => some r)))))
def gG : Nat → Val → Option Val
 | 0, _ => none
 | n + 1, p0 => oh n (fun p0 => gG n p0) p0
def oz (n : Nat) (qdo : (List Val) → Option (List Val)) (qdp : Val → Option Val) (p0 : List Val) : Nat → ((List Val) × Int) → Option (LR (List Val) (List Val))
 | 0, _ => none
 | k + 1, s1 => (cond (decide (s1.2 < (p0.length : Int))) ((idx p0 s1.2).bind fun x1 => ((qdp x1).bind fun x2 => ((app 56 s1.1 ([x2])).bind fun x3 => oz n qdo qdp p0 k (x3, (s1.2 + 1))))) (some (.nx s1.1)))
def qV (n : Nat) (qdo : (List Val) → Option (List Val)) (qdp : Val → Option Val) (p0 : List Val) : Option (List Val) := ((oz n qdo qdp p0 n (([] : List Val), 0)).bind (LR.el (fun s2 => some s2) (fun r => some r)))
def tF (n : Nat) (qdo : (List Val) → Option (List Val)) (qdp : Val → Option Val) (p0 : Val) : Option Val := ((qdo p0.kids).bind fun x1 => some (Val.mk p0.kind p0.n p0.name x1))
mutual
def nK : Nat → (List Val) → Option (List Val)
 | 0, _ => none
 | n + 1, p0 => qV n (fun p0 => nK n p0) (fun p0 => kM n p0) p0
def kM : Nat → Val → Option Val
 | 0, _ => none
 | n + 1, p0 => tF n (fun p0 => nK n p0) (fun p0 => kM n p0) p0
end
def iq (n : Nat) : Nat → ((List Val) × (List Val) × (List Val)) → Option (LR (List Val) (List Val))
 | 0, _ => none
 | k + 1, s1 => (((cond (decide (0 < (s1.1.length : Int))) (some true) (some (decide (0 < (s1.2.1.length : Int))))) : Option Bool).bind fun s3 => (cond s3 (((cond ((s1.1.length : Int) == 0) (some 1) (cond (decide (0 < (s1.2.1.length : Int))) ((idx s1.1 0).bind fun x7 => ((idx s1.2.1 0).bind fun x8 => ((fU n x7 x8).bind fun x9 => some x9))) (some (-1)))) : Option Int).bind fun s4 => (((cond (decide (s4 ≤ 0)) ((idx s1.1 0).bind fun x4 => ((app 56 s1.2.2 ([x4])).bind fun x5 => ((fO s1.1 1 (s1.1.length : Int)).bind fun x6 => some (x6, x5)))) (some (s1.1, s1.2.2))) : Option ((List Val) × (List Val))).bind fun s5 => (((cond (decide (0 < s4)) ((idx s1.2.1 0).bind fun x2 => ((app 56 s5.2 ([x2])).bind fun x3 => some x3)) (some s5.2)) : Option (List Val)).bind fun s6 => (cond (decide (0 ≤ s4)) ((fO s1.2.1 1 (s1.2.1.length : Int)).bind fun x1 => iq n k (s5.1, x1, s6)) (iq n k (s5.1, s1.2.1, s6)))))) (some (.nx s1.2.2))))
def Fb (n : Nat) (p0 : List Val) (p1 : List Val) : Option (List Val) := ((iq n n (p0, p1, ([] : List Val))).bind (LR.el (fun s2 => some s2) (fun r => some r)))
def iP (n : Nat) (qds : (List Val) → Option (List Val)) (p0 : List Val) : Option (List Val) := (cond (decide ((p0.length : Int) < 2)) ((app 56 ([] : List Val) p0).bind fun x1 => some x1) ((fO p0 0 (IntKind.wrap .i64 (Int.tdiv (p0.length : Int) 2))).bind fun x2 => ((qds x2).bind fun x3 => ((fO p0 (IntKind.wrap .i64 (Int.tdiv (p0.length : Int) 2)) (p0.length : Int)).bind fun x4 => ((qds x4).bind fun x5 => ((Fb n x3 x5).bind fun x6 => some x6))))))
def nM : Nat → (List Val) → Option (List Val)
 | 0, _ => none
 | n + 1, p0 => iP n (fun p0 => nM n p0) p0
def ni (n : Nat) (qdq : Val → Val → Option Bool) (qdr : (List Val) → (List Val) → Option Bool) (p0 : Val) (p1 : Val) : Option Bool := (((cond (p0.kind == p1.kind) (cond (p0.n == p1.n) (cond (p0.name == p1.name) ((qdr p0.kids p1.kids).bind fun x1 => some x1) (some false)) (some false)) (some false)) : Option Bool).bind fun s1 => some s1)
def jC (n : Nat) (qdq : Val → Val → Option Bool) (qdr : (List Val) → (List Val) → Option Bool) (p0 : List Val) (p1 : List Val) : Nat → Int → Option (LR Unit Bool)
 | 0, _ => none
 | k + 1, s1 => (cond (decide (s1 < (p0.length : Int))) ((idx p0 s1).bind fun x1 => ((idx p1 s1).bind fun x2 => ((qdq x1 x2).bind fun x3 => (cond (!x3) (some (.rt false)) (jC n qdq qdr p0 p1 k (s1 + 1)))))) (some (.nx ())))
def l9 (n : Nat) (qdq : Val → Val → Option Bool) (qdr : (List Val) → (List Val) → Option Bool) (p0 : List Val) (p1 : List Val) : Option Bool := (cond ((p0.length : Int) != (p1.length : Int)) (some false) ((jC n qdq qdr p0 p1 n 0).bind (LR.el (fun s2 => some true) (fun r => some r))))
mutual
def dn : Nat → Val → Val → Option Bool
 | 0, _, _ => none
 | n + 1, p0, p1 => ni n (fun p0 p1 => dn n p0 p1) (fun p0 p1 => iN n p0 p1) p0 p1
def iN : Nat → (List Val) → (List Val) → Option Bool
 | 0, _, _ => none
 | n + 1, p0, p1 => l9 n (fun p0 p1 => dn n p0 p1) (fun p0 p1 => iN n p0 p1) p0 p1
end
end Abs
end Go.Proofs.YtkopaeklihhdlaaGreat
