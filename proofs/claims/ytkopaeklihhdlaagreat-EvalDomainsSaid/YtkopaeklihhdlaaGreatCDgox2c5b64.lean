/-
  The plain functions of the program (printed by gen.py). Conditions: none.
-/
import Derived.Test.YtkopaeklihhdlaaGreatCAbs38ox79bf07
set_option linter.all false
namespace Go.Proofs.YtkopaeklihhdlaaGreat
namespace Abs
open Go Go.Proofs
set_option maxRecDepth 100000
set_option maxHeartbeats 40000000
structure S_api_World where
  env:Env
  sizes:List Int
  values:List Val
structure S_refinementlaw03_Typed where
  sizes:List Int
  v:Val
  t:Ty
structure S_api_Scope where
  sizes:List Int
  lo:Int
  hi:Int
def y9(n:Nat)(p0:Env):Option Bool:=(((cond (decide ((p0.carriers.length:Int)≤100)) (some (decide ((p0.names.length:Int)≤100))) (some false)):Option Bool).bind fun s1=>some s1)
def nC(n:Nat)(p0:Env)(p1:List Int):Nat→Int→Option (LR Unit Bool)
 |0,_=>none
 |k+1,s1=>(cond (decide (s1<(p0.carriers.length:Int))) ((idx p0.carriers s1).bind fun x1=>((((idx p1 s1).bind fun x2=>(cond (decide (x2<1)) (some true) ((idx p1 s1).bind fun x3=>(cond (decide (8<x3)) (some true) (cond (decide (0<(x1.elems.length:Int))) ((idx p1 s1).bind fun x4=>some (x4 !=(x1.elems.length:Int))) (some false)))))):Option Bool).bind fun s3=>(cond s3 (some (.rt false)) (nC n p0 p1 k (s1+1))))) (some (.nx ())))
def qC(n:Nat)(p0:Env)(p1:List Int):Option Bool:=(cond ((p1.length:Int)!=(p0.carriers.length:Int)) (some false) ((nC n p0 p1 n 0).bind (LR.el (fun s2=>some true) (fun r=>some r))))
def Oc(n:Nat)(p0:Carrier)(p1:Str):Option Bool:=some (p0.name==p1)
def fq(n:Nat)(p0:List Carrier)(p1:Str):Nat→Int→Option (LR Unit Int)
 |0,_=>none
 |k+1,s1=>(cond (decide (s1<(p0.length:Int))) ((idx p0 s1).bind fun x1=>(cond (x1.name==p1) (some (.rt s1)) (fq n p0 p1 k (s1+1)))) (some (.nx ())))
def iF(n:Nat)(p0:List Carrier)(p1:Str):Option Int:=((fq n p0 p1 n 0).bind (LR.el (fun s2=>some (-1)) (fun r=>some r)))
def lU(n:Nat)(p0:Env)(p1:Str):Option Int:=((iF n p0.carriers p1).bind fun x1=>some x1)
def zw(n:Nat)(p0:Str)(p1:List Carrier)(p2:List Decl):Option Bool:=((lU n (Env.mk p1 p2) p0).bind fun x1=>some (decide (x1<0)))
def fE(n:Nat)(p0:List Str)(p1:List Carrier)(p2:List Decl):Nat→Int→Option (LR Unit Int)
 |0,_=>none
 |k+1,s1=>(cond (decide (s1<(p0.length:Int))) ((idx p0 s1).bind fun x1=>((zw n x1 p1 p2).bind fun x2=>(cond x2 (some (.rt s1)) (fE n p0 p1 p2 k (s1+1))))) (some (.nx ())))
def iR(n:Nat)(p0:List Str)(p1:List Carrier)(p2:List Decl):Option Int:=((fE n p0 p1 p2 n 0).bind (LR.el (fun s2=>some (-1)) (fun r=>some r)))
def gT(n:Nat)(p0:List Str)(p1:List Carrier)(p2:List Decl):Option Bool:=((iR n p0 p1 p2).bind fun x1=>some (decide (0≤x1)))
def uM(n:Nat)(p0:Env)(p1:Ty):Option Bool:=((((fA n p1).bind fun x1=>(cond x1 ((iU n p1).bind fun x2=>((gT n x2 p0.carriers p0.names).bind fun x3=>some (!x3))) (some false))):Option Bool).bind fun s1=>some s1)
def cmp_isNaN_int(n:Nat)(p0:Int):Option Bool:=some (p0 !=p0)
def cmp_Compare_int(n:Nat)(p0:Int)(p1:Int):Option Int:=(cond (p0 !=p0) (cond (p1 !=p1) (some 0) (some (-1))) (cond (p1 !=p1) (some 1) (cond (decide (p0<p1)) (some (-1)) (cond (decide (p1<p0)) (some 1) (some 0)))))
def tO(n:Nat)(p0:List Int):Nat→Int→Option (LR Unit Int)
 |0,_=>none
 |k+1,s1=>(cond (decide (s1<(p0.length:Int))) ((idx p0 s1).bind fun x1=>(cond (x1 !=0) (some (.rt x1)) (tO n p0 k (s1+1)))) (some (.nx ())))
def Gr(n:Nat)(p0:List Int):Option Int:=((tO n p0 n 0).bind (LR.el (fun s2=>some 0) (fun r=>some r)))
def eH(n:Nat)(qd5:(List Val)→(List Val)→Option Int)(qdx:Val→Val→Option Int)(p0:List Val)(p1:List Val):Nat→Int→Option (LR Unit Int)
 |0,_=>none
 |k+1,s1=>(cond (decide (s1<(p0.length:Int))) ((idx p0 s1).bind fun x1=>(cond (decide ((p1.length:Int)≤s1)) (some (.rt 1)) ((idx p1 s1).bind fun x2=>((qdx x1 x2).bind fun x3=>(cond (x3 !=0) (some (.rt x3)) (eH n qd5 qdx p0 p1 k (s1+1))))))) (some (.nx ())))
def jo(n:Nat)(qd5:(List Val)→(List Val)→Option Int)(qdx:Val→Val→Option Int)(p0:List Val)(p1:List Val):Option Int:=((eH n qd5 qdx p0 p1 n 0).bind (LR.el (fun s2=>(cond (decide ((p0.length:Int)<(p1.length:Int))) (some (-1)) (some 0))) (fun r=>some r)))
def qV(n:Nat)(qd5:(List Val)→(List Val)→Option Int)(qdx:Val→Val→Option Int)(p0:Val)(p1:Val):Option Int:=((cmp_Compare_int n p0.kind p1.kind).bind fun x1=>((cmp_Compare_int n p0.n p1.n).bind fun x2=>((strings_Compare n p0.name p1.name).bind fun x3=>((Gr n ([x1,x2,x3])).bind fun x4=>(cond (x4 !=0) (some x4) ((qd5 p0.kids p1.kids).bind fun x5=>some x5))))))
mutual
def fK:Nat→(List Val)→(List Val)→Option Int
 |0,_,_=>none
 |n+1,p0,p1=>jo n (fK n) (dW n) p0 p1
def dW:Nat→Val→Val→Option Int
 |0,_,_=>none
 |n+1,p0,p1=>qV n (fK n) (dW n) p0 p1
end
def qb(n:Nat)(qd1:Env→(List Int)→Val→Ty→Option Bool)(qd2:(List Ty)→Int→Int→Str→(List Val)→(List Carrier)→(List Decl)→(List Int)→Option Bool)(p2:Val):Nat→Int→Option (LR Unit Bool)
 |0,_=>none
 |k+1,s6=>(cond (decide (s6<(p2.kids.length:Int))) ((idx p2.kids (IntKind.wrap .i64 (s6 - 1))).bind fun x4=>((idx p2.kids s6).bind fun x5=>((dW n x4 x5).bind fun x6=>(cond (decide (0≤x6)) (some (.rt false)) (qb n qd1 qd2 p2 k (s6+1)))))) (some (.nx ())))
def iO(n:Nat)(qd1:Env→(List Int)→Val→Ty→Option Bool)(qd2:(List Ty)→Int→Int→Str→(List Val)→(List Carrier)→(List Decl)→(List Int)→Option Bool)(p0:Env)(p1:List Int)(p2:Val)(p3:Ty):Option Bool:=(cond (p3.kind==1) (((cond (p2.kind==1) (cond (decide ((-1000000000)≤p2.n)) (cond (decide (p2.n≤1000000000)) (cond (p2.name==([]:Str)) (some ((p2.kids.length:Int)==0)) (some false)) (some false)) (some false)) (some false)):Option Bool).bind fun s1=>some s1) (cond (p3.kind==2) (((cond (p2.kind==2) (cond (p2.n==0) (cond (p2.name==([]:Str)) (some ((p2.kids.length:Int)==0)) (some false)) (cond (p2.n==1) (cond (p2.name==([]:Str)) (some ((p2.kids.length:Int)==0)) (some false)) (some false))) (some false)):Option Bool).bind fun s2=>some s2) (cond (p3.kind==3) ((lU n p0 p3.name).bind fun x1=>(((cond (decide (0≤x1)) (cond (p2.kind==3) (cond (p2.name==p3.name) (cond (decide (0≤p2.n)) ((idx p1 x1).bind fun x2=>(cond (decide (p2.n<x2)) (some ((p2.kids.length:Int)==0)) (some false))) (some false)) (some false)) (some false)) (some false)):Option Bool).bind fun s3=>some s3)) (cond (p3.kind==4) (((cond (p2.kind==4) (cond (p2.n==0) (cond (p2.name==([]:Str)) (cond ((p2.kids.length:Int)==2) ((qd2 p3.kids p2.kind p2.n p2.name p2.kids p0.carriers p0.names p1).bind fun x3=>some x3) (some false)) (some false)) (some false)) (some false)):Option Bool).bind fun s4=>some s4) (cond (p3.kind==5) (((cond (p2.kind !=5) (some true) (cond (p2.n !=0) (some true) (cond (!(p2.name==([]:Str))) (some true) (cond (decide (256<(p2.kids.length:Int))) (some true) ((qd2 p3.kids p2.kind p2.n p2.name p2.kids p0.carriers p0.names p1).bind fun x7=>some (!x7)))))):Option Bool).bind fun s5=>(cond s5 (some false) ((qb n qd1 qd2 p2 n 1).bind (LR.el (fun s7=>some true) (fun r=>some r))))) (some false))))))
def mP(n:Nat)(qd1:Env→(List Int)→Val→Ty→Option Bool)(qd2:(List Ty)→Int→Int→Str→(List Val)→(List Carrier)→(List Decl)→(List Int)→Option Bool)(p0:List Ty)(p4:List Val)(p5:List Carrier)(p6:List Decl)(p7:List Int):Nat→Int→Option (LR Unit Bool)
 |0,_=>none
 |k+1,s1=>(cond (decide (s1<(p4.length:Int))) ((idx p4 s1).bind fun x1=>((idx p0 (if((p0.length:Int) - 1)<s1 then((p0.length:Int) - 1)else s1)).bind fun x2=>((qd1 (Env.mk p5 p6) p7 x1 x2).bind fun x3=>(cond (!x3) (some (.rt false)) (mP n qd1 qd2 p0 p4 p5 p6 p7 k (s1+1)))))) (some (.nx ())))
def nP(n:Nat)(qd1:Env→(List Int)→Val→Ty→Option Bool)(qd2:(List Ty)→Int→Int→Str→(List Val)→(List Carrier)→(List Decl)→(List Int)→Option Bool)(p0:List Ty)(p1:Int)(p2:Int)(p3:Str)(p4:List Val)(p5:List Carrier)(p6:List Decl)(p7:List Int):Option Bool:=((mP n qd1 qd2 p0 p4 p5 p6 p7 n 0).bind (LR.el (fun s2=>some true) (fun r=>some r)))
mutual
def iM:Nat→Env→(List Int)→Val→Ty→Option Bool
 |0,_,_,_,_=>none
 |n+1,p0,p1,p2,p3=>iO n (iM n) (nS n) p0 p1 p2 p3
def nS:Nat→(List Ty)→Int→Int→Str→(List Val)→(List Carrier)→(List Decl)→(List Int)→Option Bool
 |0,_,_,_,_,_,_,_,_=>none
 |n+1,p0,p1,p2,p3,p4,p5,p6,p7=>nP n (iM n) (nS n) p0 p1 p2 p3 p4 p5 p6 p7
end
def AX(n:Nat)(p0:Env)(p1:List Int)(p2:Val)(p3:Ty):Option Bool:=((((dH n p0).bind fun x1=>(cond x1 ((qC n p0 p1).bind fun x2=>(cond x2 ((uM n p0 p3).bind fun x3=>(cond x3 ((iM n p0 p1 p2 p3).bind fun x4=>some x4) (some false))) (some false))) (some false))):Option Bool).bind fun s1=>some s1)
def xk(n:Nat)(p0:Env)(p1:List Int):Nat→Int→Option (LR Unit Bool)
 |0,_=>none
 |k+1,s1=>(cond (decide (s1<(p1.length:Int))) ((idx p0.carriers s1).bind fun x1=>((((idx p1 s1).bind fun x2=>(cond (decide (x2<1)) (some true) ((idx p1 s1).bind fun x3=>(cond (decide (8<x3)) (some true) (cond (decide (0<(x1.elems.length:Int))) ((idx p1 s1).bind fun x4=>some (x4 !=(x1.elems.length:Int))) (some false)))))):Option Bool).bind fun s3=>(cond s3 (some (.rt false)) (xk n p0 p1 k (s1+1))))) (some (.nx ())))
def Dr(n:Nat)(p0:Env)(p1:List Int):Option Bool:=(cond ((p1.length:Int)!=(p0.carriers.length:Int)) (some false) ((xk n p0 p1 n 0).bind (LR.el (fun s2=>some true) (fun r=>some r))))
def l9(n:Nat)(p0:Env)(p1:S_api_Scope):Option Bool:=((((dH n p0).bind fun x1=>(cond x1 ((qC n p0 p1.sizes).bind fun x2=>(cond x2 (cond (decide ((-1000000000)≤p1.lo)) (cond (decide (p1.lo≤p1.hi)) (some (decide (p1.hi≤1000000000))) (some false)) (some false)) (some false))) (some false))):Option Bool).bind fun s1=>some s1)
def oN(n:Nat)(p0:Env)(p1:S_api_Scope):Option Bool:=((((jg n p0).bind fun x1=>(cond x1 ((Dr n p0 p1.sizes).bind fun x2=>(cond x2 (cond (decide ((-1000000000)≤p1.lo)) (cond (decide (p1.lo≤p1.hi)) (some (decide (p1.hi≤1000000000))) (some false)) (some false)) (some false))) (some false))):Option Bool).bind fun s1=>some s1)
end Abs
end Go.Proofs.YtkopaeklihhdlaaGreat
