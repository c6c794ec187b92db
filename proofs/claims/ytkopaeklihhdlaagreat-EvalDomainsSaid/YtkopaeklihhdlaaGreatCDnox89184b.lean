/-
  The plain functions of the program (printed by gen.py). Conditions: none.
-/
import Derived.Test.YtkopaeklihhdlaaGreatCExtHox0b8d54
set_option linter.all false
namespace Go.Proofs.YtkopaeklihhdlaaGreat
namespace Abs
open Go Go.Proofs
set_option maxRecDepth 100000
set_option maxHeartbeats 40000000
def pF(n:Nat)(qdy:Val→Option Val)(p0:Val):Nat→((List Val)×Int)→Option (LR (List Val) Val)
 |0,_=>none
 |k+1,s1=>(cond (decide (s1.2<(p0.kids.length:Int))) ((idx s1.1 s1.2).bind fun x3=>((qdy x3).bind fun x4=>((idx s1.1 s1.2).bind fun x5=>pF n qdy p0 k ((upd s1.1 s1.2 x4),(s1.2+1))))) (some (.nx s1.1)))
def sD(n:Nat)(qdy:Val→Option Val)(p0:Val):Option Val:=((tX n p0.kids).bind fun x1=>((qN n p0.kids).bind fun x2=>((pF n qdy p0 n (p0.kids,0)).bind (LR.el (fun s2=>some (Val.mk p0.kind p0.n p0.name s2)) (fun r=>some r)))))
def dV:Nat→Val→Option Val
 |0,_=>none
 |n+1,p0=>sD n (dV n) p0
def qR(n:Nat)(qdq:Val→Val→Option Bool)(qdr:(List Val)→(List Val)→Option Bool)(p0:Val)(p1:Val):Option Bool:=(((cond (p0.kind==p1.kind) (cond (p0.n==p1.n) (cond (p0.name==p1.name) ((qdr p0.kids p1.kids).bind fun x1=>some x1) (some false)) (some false)) (some false)):Option Bool).bind fun s1=>some s1)
def nk(n:Nat)(qdq:Val→Val→Option Bool)(qdr:(List Val)→(List Val)→Option Bool)(p0:List Val)(p1:List Val):Nat→Int→Option (LR Unit Bool)
 |0,_=>none
 |k+1,s1=>(cond (decide (s1<(p0.length:Int))) ((idx p0 s1).bind fun x1=>((idx p1 s1).bind fun x2=>((qdq x1 x2).bind fun x3=>(cond (!x3) (some (.rt false)) (nk n qdq qdr p0 p1 k (s1+1)))))) (some (.nx ())))
def ql(n:Nat)(qdq:Val→Val→Option Bool)(qdr:(List Val)→(List Val)→Option Bool)(p0:List Val)(p1:List Val):Option Bool:=(cond ((p0.length:Int)!=(p1.length:Int)) (some false) ((nk n qdq qdr p0 p1 n 0).bind (LR.el (fun s2=>some true) (fun r=>some r))))
mutual
def fM:Nat→Val→Val→Option Bool
 |0,_,_=>none
 |n+1,p0,p1=>qR n (fM n) (jw n) p0 p1
def jw:Nat→(List Val)→(List Val)→Option Bool
 |0,_,_=>none
 |n+1,p0,p1=>ql n (fM n) (jw n) p0 p1
end
end Abs
end Go.Proofs.YtkopaeklihhdlaaGreat
