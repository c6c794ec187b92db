/-
  The plain functions of the program (printed by gen.py). Conditions: none.
-/
import Derived.Test.YtkopaeklihhdlaaGreatCDnox89184b
import Derived.Test.YtkopaeklihhdlaaGreatCShloxcddbf8
set_option linter.all false
namespace Go.Proofs.YtkopaeklihhdlaaGreat
namespace Abs
open Go Go.Proofs
set_option maxRecDepth 100000
set_option maxHeartbeats 40000000
def eZ(n:Nat)(qd0:Env→S_api_Scope→Ty→Option Int)(p0:Env)(p1:S_api_Scope)(p2:Ty):Option Int:=(((cond (p2.kind==1) (some (IntKind.wrap .i64 ((IntKind.wrap .i64 (p1.hi - p1.lo))+1))) (cond (p2.kind==2) (some 2) (cond (p2.kind==3) ((lU n p0 p2.name).bind fun x1=>(cond (decide (0≤x1)) ((idx p1.sizes x1).bind fun x2=>some x2) (some (-1)))) (cond (p2.kind==4) ((idx p2.kids 0).bind fun x3=>((qd0 p0 p1 x3).bind fun x4=>((idx p2.kids 1).bind fun x5=>((qd0 p0 p1 x5).bind fun x6=>(((cond (decide (0≤x4)) (some (decide (0≤x6))) (some false)):Option Bool).bind fun s2=>(cond s2 (some (IntKind.wrap .i64 (x4*x6))) (some (-1)))))))) (cond (p2.kind==5) ((idx p2.kids 0).bind fun x7=>((qd0 p0 p1 x7).bind fun x8=>(((cond (decide (0≤x8)) (some (decide (x8≤16))) (some false)):Option Bool).bind fun s3=>(cond s3 ((Qs 1 x8).bind fun x9=>some x9) (some (-1)))))) (some (-1))))))):Option Int).bind fun s1=>(cond (decide (65536<s1)) (some (-1)) (some s1)))
def qZ:Nat→Env→S_api_Scope→Ty→Option Int
 |0,_,_,_=>none
 |n+1,p0,p1,p2=>eZ n (qZ n) p0 p1 p2
def xH(n:Nat)(p0:Env)(p1:S_api_Scope)(p2:Ty):Option Int:=((((l9 n p0 p1).bind fun x2=>(cond (!x2) (some true) ((uM n p0 p2).bind fun x3=>some (!x3)))):Option Bool).bind fun s1=>(cond s1 (some (-1)) ((qZ n p0 p1 p2).bind fun x1=>some x1)))
def gI(n:Nat)(qdu:Env→S_api_Scope→Ty→Option Int)(p0:Env)(p1:S_api_Scope)(p2:Ty):Option Int:=(((cond (p2.kind==1) (some (.nx (IntKind.wrap .i64 ((IntKind.wrap .i64 (p1.hi - p1.lo))+1)))) (cond (p2.kind==3) ((fT n p0 p2.name).bind fun x1=>((idx p1.sizes x1).bind fun x2=>some (.nx x2))) (cond (p2.kind==4) ((idx p2.kids 0).bind fun x3=>((qdu p0 p1 x3).bind fun x4=>((idx p2.kids 1).bind fun x5=>((qdu p0 p1 x5).bind fun x6=>(((cond (decide (x4<0)) (some true) (some (decide (x6<0)))):Option Bool).bind fun s2=>(cond s2 (some (.rt (-1))) (some (.nx (IntKind.wrap .i64 (x4*x6)))))))))) (cond (p2.kind==5) ((idx p2.kids 0).bind fun x7=>((qdu p0 p1 x7).bind fun x8=>(((cond (decide (x8<0)) (some true) (some (decide (16<x8)))):Option Bool).bind fun s3=>(cond s3 (some (.rt (-1))) ((Qs 1 (IntKind.wrap .u64 x8)).bind fun x9=>some (.nx x9)))))) (some (.nx 2)))))):Option (LR Int Int)).bind (LR.el (fun s1=>(cond (decide (65536<s1)) (some (-1)) (some s1))) (fun r=>some r)))
def ze:Nat→Env→S_api_Scope→Ty→Option Int
 |0,_,_,_=>none
 |n+1,p0,p1,p2=>gI n (ze n) p0 p1 p2
def Az(n:Nat)(p0:Env)(p1:S_api_Scope)(p2:Ty):Option Int:=((((oN n p0 p1).bind fun x2=>(cond (!x2) (some true) ((eY n p2).bind fun x3=>(cond (!x3) (some true) ((pI n p0 p2).bind fun x4=>some (!x4)))))):Option Bool).bind fun s1=>(cond s1 (some (-1)) ((ze n p0 p1 p2).bind fun x1=>some x1)))
def ZR(n:Nat)(p0:Int):Option Val:=some (Val.mk 1 p0 ([]:Str) ([]))
def Lu(n:Nat)(p0:Bool):Option Val:=(cond p0 (some (Val.mk 2 1 ([]:Str) ([]))) (some (Val.mk 2 0 ([]:Str) ([]))))
def agO(n:Nat)(p0:Str)(p1:Int):Option Val:=some (Val.mk 3 p1 p0 ([]))
def agK(n:Nat)(p0:Val)(p1:Val):Option Val:=some (Val.mk 4 0 ([]:Str) ([p0,p1]))
def qG(n:Nat)(p0:List Val)(p1:List Val)(s1:(List Val)×Int):Nat→((List Val)×Int)→Option (LR (List Val) (List Val))
 |0,_=>none
 |k+1,s3=>(cond (decide (s3.2<(p1.length:Int))) ((idx p0 s1.2).bind fun x1=>((idx p1 s3.2).bind fun x2=>((app 56 s3.1 ([(Val.mk 4 0 ([]:Str) ([x1,x2]))])).bind fun x3=>qG n p0 p1 s1 k (x3,(s3.2+1))))) (some (.nx s3.1)))
def qI(n:Nat)(p0:List Val)(p1:List Val):Nat→((List Val)×Int)→Option (LR (List Val) (List Val))
 |0,_=>none
 |k+1,s1=>(cond (decide (s1.2<(p0.length:Int))) ((qG n p0 p1 s1 n (s1.1,0)).bind (LR.el (fun s4=>qI n p0 p1 k (s4,(s1.2+1))) (fun r=>some (.rt r)))) (some (.nx s1.1)))
def zM(n:Nat)(p0:List Val)(p1:List Val):Option (List Val):=((qI n p0 p1 n (([]:List Val),0)).bind (LR.el (fun s2=>some s2) (fun r=>some r)))
def sN(n:Nat)(qdt:(List Val)→(List Val)→Int→Option (List Val))(p0:List Val)(p1:List Val):Nat→((List Val)×Int)→Option (LR (List Val) (List Val))
 |0,_=>none
 |k+1,s1=>(cond (decide (s1.2<(p1.length:Int))) ((app 56 ([]:List Val) p0).bind fun x1=>((idx p1 s1.2).bind fun x2=>((app 56 x1 ([x2])).bind fun x3=>((qdt x3 p1 (s1.2+1)).bind fun x4=>((app 56 s1.1 x4).bind fun x5=>sN n qdt p0 p1 k (x5,(s1.2+1))))))) (some (.nx s1.1)))
def vG(n:Nat)(qdt:(List Val)→(List Val)→Int→Option (List Val))(p0:List Val)(p1:List Val)(p2:Int):Option (List Val):=((sN n qdt p0 p1 n ([(Val.mk 5 0 ([]:Str) p0)],p2)).bind (LR.el (fun s2=>some s2) (fun r=>some r)))
def qp:Nat→(List Val)→(List Val)→Int→Option (List Val)
 |0,_,_,_=>none
 |n+1,p0,p1,p2=>vG n (qp n) p0 p1 p2
def sU(n:Nat)(qdv:Env→S_api_Scope→Ty→Option (List Val))(p0:Env)(p1:S_api_Scope)(p2:Ty):Nat→((List Val)×Int)→Option (LR (List Val) (List Val))
 |0,_=>none
 |k+1,s4=>((fT n p0 p2.name).bind fun x4=>((idx p1.sizes x4).bind fun x5=>(cond (decide (s4.2<x5)) ((app 56 s4.1 ([(Val.mk 3 s4.2 p2.name ([]))])).bind fun x6=>sU n qdv p0 p1 p2 k (x6,(s4.2+1))) (some (.nx s4.1)))))
def sM(n:Nat)(qdv:Env→S_api_Scope→Ty→Option (List Val))(p1:S_api_Scope):Nat→((List Val)×Int)→Option (LR (List Val) (List Val))
 |0,_=>none
 |k+1,s2=>(cond (decide (s2.2≤p1.hi)) ((app 56 s2.1 ([(Val.mk 1 s2.2 ([]:Str) ([]))])).bind fun x1=>sM n qdv p1 k (x1,(IntKind.wrap .i64 (s2.2+1)))) (some (.nx s2.1)))
def iq(n:Nat)(qdv:Env→S_api_Scope→Ty→Option (List Val))(p0:Env)(p1:S_api_Scope)(p2:Ty):Option (List Val):=(((cond (p2.kind==1) ((sM n qdv p1 n (([]:List Val),p1.lo)).bind (LR.el (fun s3=>some s3) (fun r=>none))) (cond (p2.kind==2) ((Lu n false).bind fun x2=>((Lu n true).bind fun x3=>some ([x2,x3]))) (cond (p2.kind==3) ((sU n qdv p0 p1 p2 n (([]:List Val),0)).bind (LR.el (fun s5=>some s5) (fun r=>none))) (cond (p2.kind==4) ((idx p2.kids 0).bind fun x7=>((qdv p0 p1 x7).bind fun x8=>((idx p2.kids 1).bind fun x9=>((qdv p0 p1 x9).bind fun x10=>((zM n x8 x10).bind fun x11=>some x11))))) (cond (p2.kind==5) ((idx p2.kids 0).bind fun x12=>((qdv p0 p1 x12).bind fun x13=>((qp n ([]:List Val) x13 0).bind fun x14=>some x14))) (some ([]:List Val))))))):Option (List Val)).bind fun s1=>some s1)
def tQ:Nat→Env→S_api_Scope→Ty→Option (List Val)
 |0,_,_,_=>none
 |n+1,p0,p1,p2=>iq n (tQ n) p0 p1 p2
def uK(n:Nat)(p0:Env)(p1:S_api_Scope)(p2:Ty):Option ((List Val)×Int):=((((oN n p0 p1).bind fun x3=>(cond (!x3) (some true) ((eY n p2).bind fun x4=>(cond (!x4) (some true) ((pI n p0 p2).bind fun x5=>some (!x5)))))):Option Bool).bind fun s1=>(cond s1 (some (([]:List Val),1)) ((ze n p0 p1 p2).bind fun x1=>(cond (decide (x1<0)) (some (([]:List Val),42)) ((tQ n p0 p1 p2).bind fun x2=>some (x2,0))))))
def L8(n:Nat)(p0:Bool):Option Val:=(cond p0 (some (Val.mk 2 1 ([]:Str) ([]))) (some (Val.mk 2 0 ([]:Str) ([]))))
def aau(n:Nat)(p0:Val)(p1:Val):Option Val:=some (Val.mk 4 0 ([]:Str) ([p0,p1]))
def ng(n:Nat)(p0:Str)(p1:Int):Nat→((List Val)×Int)→Option (LR (List Val) (List Val))
 |0,_=>none
 |k+1,s1=>(cond (decide (s1.2<p1)) ((app 56 s1.1 ([(Val.mk 3 s1.2 p0 ([]))])).bind fun x1=>ng n p0 p1 k (x1,(s1.2+1))) (some (.nx s1.1)))
def jV(n:Nat)(p0:Str)(p1:Int):Option (List Val):=((ng n p0 p1 n (([]:List Val),0)).bind (LR.el (fun s2=>some s2) (fun r=>some r)))
end Abs
end Go.Proofs.YtkopaeklihhdlaaGreat
