/-
  The plain functions of the program (printed by gen.py). Conditions: none.
-/
import Derived.Test.YtkopaeklihhdlaaGreatCDnx4dbce8
import Derived.Test.YtkopaeklihhdlaaGreatCP51ox5f6827
set_option linter.unusedSimpArgs false
set_option linter.unusedVariables false
namespace Go.Proofs.YtkopaeklihhdlaaGreat
namespace Abs
open Go Go.Proofs
set_option maxRecDepth 100000
set_option maxHeartbeats 40000000
def mO (n : Nat) (qdd : (List Val) → Option (List Val)) (qde : Val → Option Val) (p0 : List Val) : Nat → ((List Val) × Int) → Option (LR (List Val) (List Val))
 | 0, _ => none
 | k + 1, s1 => (cond (decide (s1.2 < (p0.length : Int))) ((idx p0 s1.2).bind fun x1 => ((qde x1).bind fun x2 => ((app 56 s1.1 ([x2])).bind fun x3 => mO n qdd qde p0 k (x3, (s1.2 + 1))))) (some (.nx s1.1)))
def oN (n : Nat) (qdd : (List Val) → Option (List Val)) (qde : Val → Option Val) (p0 : List Val) : Option (List Val) := ((mO n qdd qde p0 n (([] : List Val), 0)).bind (LR.el (fun s2 => some s2) (fun r => some r)))
def qH (n : Nat) (qdd : (List Val) → Option (List Val)) (qde : Val → Option Val) (p0 : Val) : Option Val := ((qdd p0.kids).bind fun x1 => some (Val.mk p0.kind p0.n p0.name x1))
mutual
def mo : Nat → (List Val) → Option (List Val)
 | 0, _ => none
 | n + 1, p0 => oN n (fun p0 => mo n p0) (fun p0 => nY n p0) p0
def nY : Nat → Val → Option Val
 | 0, _ => none
 | n + 1, p0 => qH n (fun p0 => mo n p0) (fun p0 => nY n p0) p0
end
def gG (n : Nat) : Nat → ((List Val) × (List Val) × (List Val)) → Option (LR (List Val) (List Val))
 | 0, _ => none
 | k + 1, s1 => (((cond (decide (0 < (s1.1.length : Int))) (some true) (some (decide (0 < (s1.2.1.length : Int))))) : Option Bool).bind fun s3 => (cond s3 (((cond ((s1.1.length : Int) == 0) (some 1) (cond (decide (0 < (s1.2.1.length : Int))) ((idx s1.1 0).bind fun x7 => ((idx s1.2.1 0).bind fun x8 => ((fE n x7 x8).bind fun x9 => some x9))) (some (-1)))) : Option Int).bind fun s4 => (((cond (decide (s4 ≤ 0)) ((idx s1.1 0).bind fun x4 => ((app 56 s1.2.2 ([x4])).bind fun x5 => ((eX s1.1 1 (s1.1.length : Int)).bind fun x6 => some (x6, x5)))) (some (s1.1, s1.2.2))) : Option ((List Val) × (List Val))).bind fun s5 => (((cond (decide (0 < s4)) ((idx s1.2.1 0).bind fun x2 => ((app 56 s5.2 ([x2])).bind fun x3 => some x3)) (some s5.2)) : Option (List Val)).bind fun s6 => (cond (decide (0 ≤ s4)) ((eX s1.2.1 1 (s1.2.1.length : Int)).bind fun x1 => gG n k (s5.1, x1, s6)) (gG n k (s5.1, s1.2.1, s6)))))) (some (.nx s1.2.2))))
def Ck (n : Nat) (p0 : List Val) (p1 : List Val) : Option (List Val) := ((gG n n (p0, p1, ([] : List Val))).bind (LR.el (fun s2 => some s2) (fun r => some r)))
def iq (n : Nat) (qdh : (List Val) → Option (List Val)) (p0 : List Val) : Option (List Val) := (cond (decide ((p0.length : Int) < 2)) ((app 56 ([] : List Val) p0).bind fun x1 => some x1) ((eX p0 0 (IntKind.wrap .i64 (Int.tdiv (p0.length : Int) 2))).bind fun x2 => ((qdh x2).bind fun x3 => ((eX p0 (IntKind.wrap .i64 (Int.tdiv (p0.length : Int) 2)) (p0.length : Int)).bind fun x4 => ((qdh x4).bind fun x5 => ((Ck n x3 x5).bind fun x6 => some x6))))))
def oV : Nat → (List Val) → Option (List Val)
 | 0, _ => none
 | n + 1, p0 => iq n (fun p0 => oV n p0) p0
def Ef (n : Nat) (p0 : List Val) : Option Val := ((oV n p0).bind fun x1 => some (Val.mk 5 0 ([] : Str) x1))
def uT (n : Nat) (p0 : List Val) : Option (Val × Int) := ((mo n p0).bind fun x1 => ((Ef n x1).bind fun x2 => (cond (decide (256 < (x2.kids.length : Int))) (some ((Val.mk 0 0 ([] : Str) ([])), 11)) (some (x2, 0)))))
def ql (n : Nat) (p0 : Val) (p1 : Val) (p2 : List Val) : Option Bool := (cond (decide (2000 < (p2.length : Int))) ((qC n).bind fun x1 => some x1) ((mU n p2).bind fun x2 => ((uT n p2).bind fun x3 => ((((dG n p0 p1).bind fun x4 => ((fE n p0 p1).bind fun x5 => (cond (x4 == x5) (cond (x2.2 == x3.2) ((dU n x2.1 x3.1).bind fun x6 => (cond x6 ((qC n).bind fun x7 => some x7) (some false))) (some false)) (some false)))) : Option Bool).bind fun s1 => some s1))))
end Abs
end Go.Proofs.YtkopaeklihhdlaaGreat
