/-
  Printed by gend.py. Conditions: none.
-/
import Derived.Test.YtneeginmfjageaaGreatCD4ox7d8d26
set_option linter.all false
namespace Go.Proofs.YtneeginmfjageaaGreat
namespace Abs
open Go Go.Proofs
set_option maxRecDepth 100000
structure S_api_World where
 env:Env
 sizes:List Int
 values:List Val
structure S_refinementref01_token where
 kind:Int
 s:Str
 at_:Int
abbrev F0t:=List Carrier->List Decl->List Int->List (Str×Val)->List Bound->Tm->Option (PZ (Val×(List Bound)) (List Bound))
abbrev F1t:=List Carrier->List Decl->List Int->List (Str×Val)->List Bound->Tm->Option (PZ ((List Val)×(List Bound)) (List Bound))
abbrev F2t:=Int->Option (LR Unit Bool)
abbrev F3t:=List Val×Int->Option (LR (List Val) (List Val))
abbrev F4t:=Int→Option (LR Unit Int)
abbrev F5t:=(List Carrier)→(List Decl)→(List Int)→(List (Str×Val))→(List Bound)→Tm→Option (PZ (Int×Str×Int×Int×Str×(List Ty)×(List Tm)×(List Val)×(List Val)×(List Bound)) (List Bound))
abbrev F6t:=(List Carrier)→(List Decl)→(List Int)→(List (Str×Val))→(List Bound)→Tm→Int→Str→Int→Int→Str→(List Ty)→(List Tm)→(List Val)→Bool→Bool→Option (PZ ((List Bound)×(List Val)×Bool×Bool) ((List Bound)×(List Val)))
abbrev F7t:=Ty→Int→Option Bool
abbrev F8t:=Env→(List Int)→Val→Ty→Option Bool
abbrev F9t:=Val→Val→Option Int
abbrev F10t:=Ty→Ty→Option Bool
abbrev F11t:=Int→(List Val)→(List Val)→Int→(List Val)→(List Val)→Option (List Val)
abbrev F12t:=((List Val)×Int)→Option (LR (List Val) (PZ Val Unit))
abbrev F13t:=(List Ty)→Int→Int→Int→Int→Option (Int×Int)
abbrev F14t:=(List Ty)→Int→Int→Int→Int→Option (Bool×Int)
abbrev F15t:=Int→Int→Int→Ty→Int→Bool→Option (Bool×Int)
abbrev F16t:=Ty→Int→Int→Int→Int→Option (Bool×Int)
abbrev F17t:=(List Ty)→Int→Option Int
abbrev F18t:=(List Ty)→Int→Option Bool
abbrev F19t:=((List Str)×Int)→Option (LR (List Str) (List Str))
abbrev F20t:=(List Ty)→Int→Int→Str→(List Val)→(List Carrier)→(List Decl)→(List Int)→Option Bool
abbrev F21t:=(List Tm)→Int→Int→Int→Int→Option (Int×Int)
abbrev F22t:=(List Tm)→Int→Int→Int→Int→Option (Bool×Int)
abbrev F23t:=Int→Int→Int→Tm→Int→Option (Bool×Int)
abbrev F24t:=Tm→Int→Int→Int→Int→Option (Bool×Int)
abbrev F25t:=Ty→Option Ty
abbrev F26t:=(Int×Int)→Option (LR Int Int)
abbrev F27t:=(List Val)→(List Val)→Option Int
abbrev F28t:=List Ty->List Ty->Option Bool
abbrev F29t:=List (Str×Ty)->List (Str×Bool)->List Int->Tm->List Decl->Option (Ty×Int×List Int)
abbrev F30t:=List (Str×Ty)->List (Str×Bool)->List Int->Tm->Int->List Decl->Option (Ty×Int×List Int)
abbrev F31t:=Ty->Int->Int->Option Int
abbrev F32t:=Tm->Int->Int->Option Int
abbrev F33t:=Tm->Option Int
abbrev F34t:=Ty->List (Str×Bool)->Option (List (Str×Bool))
abbrev F35t:=Int×List (Str×Ty)->Option (LR (List (Str×Ty)) (List (Str×Ty)))
abbrev F36t:=Val->Option Val
abbrev F37t:=Ty->Option Bool
abbrev F38t:=Ty->Option (List Str)
abbrev F39t:=Env->List Decl->Tm->Option (Ty×List Int×Int)
abbrev F40t:=Int×Int->Option (LR Int (Int×Int))
abbrev F41t:=Int×List Ty->Option (LR (List Ty) Ty)
abbrev F42t:=List (List Val)×Int->Option (LR (List (List Val)) (List (List Val)))
abbrev F43t:=Int×List Val->Option (LR (List Val) (List Val))
abbrev F44t:=Int->Option (LR Unit (Int×Int))
abbrev F45t:=Int->Option (LR Int S_refinementref01_token)
def y7(n:Nat)(p:Env):=(cond (decide ((p.carriers.length:Int)<=100)) (some (decide ((p.names.length:Int)<=100))) (some false)).bind λs1=>some s1
def abO(n:Nat)(p:Int):=(cond (p==1) (some true) (cond (p==2) (some true) (cond (p==19) (some true) (cond (p==20) (some true) (some (p==29)))))).bind λs1=>cond s1 (some 0) (((cond (p==3) (some true) (cond (p==21) (some true) (cond (decide (46<=p)) (some (decide (p<=52))) (some false)))):Option Bool).bind λs2=>(cond s2 (some 1) (cond (p==28) (some (-1)) (((cond (decide (4<=p)) (some (decide (p<=56))) (some false)):Option Bool).bind λs3=>(cond s3 (some 2) (some (-2)))))))
def vB(n:Nat)(p:Int):=(cond (decide (97<=p)) (cond (decide (p<=122)) (some true) (cond (decide (65<=p)) (some (decide (p<=90))) (some false))) (cond (decide (65<=p)) (some (decide (p<=90))) (some false))).bind λs1=>some s1
def axn(n:Nat)p0(p:List Str)(r:F2t)s1:=cond (decide (s1<(p.length:Int))) ((idx p s1).bind λx1=>cond (x1==p0) (some (.rt true)) (r (s1+1))) (some (.nx ()))
def ap7 n p0 p1 k:=aH (axn n p0 p1) k
def J9 n p0 p1:=(ap7 n p0 p1 n 0).bind (LR.el (λs2=>some false) λr=>some r)
def Ht n p0:=(J9 n p0 [([116,114,117,101]:Str),([102,97,108,115,101]:Str),([110,111,116]:Str),([111,114]:Str),([102,111,114,97,108,108]:Str),([101,120,105,115,116,115]:Str),([105,110]:Str),([110,111,116,105,110]:Str),([115,117,98]:Str),([109,111,100]:Str),([102,117,110]:Str),([99,97,114,100]:Str),([109,105,110]:Str),([109,97,120]:Str),([100,111,109]:Str),([114,97,110]:Str),([80,79,87]:Str),([105,110,116]:Str),([98,111,111,108]:Str),([115,101,116]:Str),([112,97,105,114]:Str)]).bind λx1=>some x1
def Bh(n:Nat)(p:Int):=(cond (decide (48<=p)) (some (decide (p<=57))) (some false)).bind λs1=>some s1
def acJ(n)(p:Str)(r:F2t)s2:=cond (decide (s2<(p.length:Int))) ((((nC p s2).bind λx1=>((vB n x1).bind λx2=>(cond (!x2) ((nC p s2).bind λx3=>((Bh n x3).bind λx4=>(cond (!x4) ((nC p s2).bind λx5=>some (x5 !=95)) (some false)))) (some false))))).bind λs4=>cond s4 (some (.rt false)) (r (s2+1))) (some (.nx ()))
def Fq n p0 k:=aH (acJ n p0) k
def gZ(n:Nat)(p:Str):=(cond (decide ((p.length:Int)<1)) (some true) (cond (decide (16<(p.length:Int))) (some true) ((nC p 0).bind λx6=>((vB n x6).bind λx7=>(cond (!x7) (some true) ((Ht n p).bind λx8=>some x8)))))).bind λs1=>cond s1 (some false) ((Fq n p n 1).bind (LR.el (λs3=>some true) (λr=>some r)))
def LA(n:Nat)(p:Str):=(cond (decide (1<(p.length:Int))) ((nC p ((p.length:Int) - 1)).bind λx1=>(cond (x1==39) ((jM p 0 ((p.length:Int) - 1)).bind λx2=>((gZ n x2).bind λx3=>some x3)) (some false))) (some false)).bind λs1=>some s1
def JO n p0:=((gZ n p0).bind λx1=>(cond x1 (some true) ((LA n p0).bind λx2=>some x2))).bind λs1=>some s1
def yu(n:Nat)(p:Int):=(cond (p==8) (some true) (cond (p==9) (some true) (cond (p==55) (some true) (some (p==56))))).bind λs1=>some s1
def apG(n:Nat)(qbe:F31t)(p0:Ty)(p1:Int)(rec:F26t)(s4:Int×Int):Option (LR Int Int):=(cond (decide (s4.2<(p0.kids.length:Int))) ((idx p0.kids s4.2).bind fun x1=>((qbe x1 (IntKind.wrap .i64 (p1+1)) s4.1).bind fun x2=>(cond (decide (x2<0)) (some (.rt (-1))) (rec (x2,(s4.2+1)))))) (some (.nx s4.1)))
def Ky n qbe p0 p1 k:=aH (apG n qbe p0 p1) k
def Mj(n:Nat)qbe(p:Ty)p1(a:Int):=(cond (decide (6<p1)) (some true) (cond (decide (16<(IntKind.wrap .i64 (a+1)))) (some true) (cond (p.kind==2) (some (decide (1<p1))) (some false)))).bind λs1=>cond s1 (some (-1)) (((((cond (p.kind==1) (some (p.kind==1)) (cond (p.kind==2) (some (p.kind==2)) (some (p.kind==3)))):Option Bool).bind λs6=>(cond s6 (some (.nx 0)) (cond (p.kind==5) (some (.nx 1)) (cond (p.kind==4) (some (.nx 2)) (some (.rt (-1))))))):Option (LR Int Int)).bind (LR.el (λs2=>(((cond ((p.kids.length:Int)!=s2) (some true) (cond (p.kind==3) ((gZ n p.name).bind λx3=>(cond (!x3) (some true) (cond (p.kind !=3) (some (!(p.name==([]:Str)))) (some false)))) (cond (p.kind !=3) (some (!(p.name==([]:Str)))) (some false)))):Option Bool).bind λs3=>(cond s3 (some (-1)) ((Ky n qbe p p1 n ((IntKind.wrap .i64 (a+1)),0)).bind (LR.el (λs5=>some s5) (λr=>some r)))))) (λr=>some r)))
def yR:Nat->Ty->Int->Int->Option Int|0,_,_,_=>none|n+1,p,a,b=>Mj n (yR n) p a b
def sZ n p0:=(yR n p0 1 0).bind λx1=>some (decide (0<x1))
def KA(n:Nat)(p:Ty):=(cond (p.kind==0) (cond (p.name==([]:Str)) (some ((p.kids.length:Int)==0)) (some false)) (some false)).bind λs1=>some s1
def aci(n:Nat)(p:Tm):=((abO n p.op).bind λx1=>(((cond (x1==(-2)) (some true) (cond (x1==(-1)) (cond ((p.kids.length:Int)==0) (some true) (cond (decide (0<=x1)) (some ((p.kids.length:Int)!=x1)) (some false))) (cond (decide (0<=x1)) (some ((p.kids.length:Int)!=x1)) (some false)))):Option Bool).bind λs1=>(cond s1 (some false) (((cond (p.op==20) ((JO n p.name).bind λx4=>(cond (!x4) (some (.rt false)) (some (.nx ())))) ((yu n p.op).bind λx5=>(cond x5 ((gZ n p.name).bind λx6=>(cond (!x6) (some (.rt false)) (some (.nx ())))) (cond (!(p.name==([]:Str))) (some (.rt false)) (some (.nx ())))))):Option (LR Unit Bool)).bind (LR.el (λs2=>(((cond (p.op==19) (cond (decide (p.n<0)) (some true) (cond (decide (1000000000<p.n)) (some true) (cond (p.op !=19) (some (p.n !=0)) (some false)))) (cond (p.op !=19) (some (p.n !=0)) (some false))):Option Bool).bind λs3=>(cond s3 (some false) (cond (p.op==29) ((((sZ n p.ty).bind λx2=>(cond x2 (some (p.ty.kind !=2)) (some false))):Option Bool).bind λs4=>some s4) ((KA n p.ty).bind λx3=>some x3))))) (λr=>some r))))))
def aqd(n:Nat)(qbd:F32t)(p0:Tm)(p1:Int)(rec:F26t)(s2:Int×Int):Option (LR Int Int):=(cond (decide (s2.2<(p0.kids.length:Int))) ((idx p0.kids s2.2).bind fun x1=>((qbd x1 (IntKind.wrap .i64 (p1+1)) s2.1).bind fun x2=>(cond (decide (x2<0)) (some (.rt (-1))) (rec (x2,(s2.2+1)))))) (some (.nx s2.1)))
def adT n qbd p0 p1 k:=aH (aqd n qbd p0 p1) k
def Mi n qbd p0 p1 p2:=(cond (decide (64<p1)) (some true) (cond (decide (2000<(IntKind.wrap .i64 (p2+1)))) (some true) ((aci n p0).bind λx3=>some (!x3)))).bind λs1=>cond s1 (some (-1)) ((adT n qbd p0 p1 n ((IntKind.wrap .i64 (p2+1)),0)).bind (LR.el (λs3=>some s3) (λr=>some r)))
def EO:Nat->Tm->Int->Int->Option Int|0,_,_,_=>none|n+1,p,a,b=>Mi n (EO n) p a b
def tV n p0:=(EO n p0 1 0).bind λx1=>some (decide (0<x1))
def Ef(n:Nat)(qbs:F33t)(p0:Tm)(rec:F26t)(s1:Int×Int):Option (LR Int Int):=(cond (decide (s1.2<(p0.kids.length:Int))) ((idx p0.kids s1.2).bind fun x1=>((qbs x1).bind fun x2=>((((((yu n p0.op).bind fun x3=>(cond x3 (some (s1.2==1)) (some false))):Option Bool).bind fun s4=>(cond s4 (some (IntKind.wrap .i64 (x2*64))) (some x2))):Option Int).bind fun s3=>(cond (decide (20000000<(IntKind.wrap .i64 (s1.1+s3)))) (some (.rt 20000001)) (rec ((IntKind.wrap .i64 (s1.1+s3)),(s1.2+1))))))) (some (.nx s1.1)))
def Wm n qbs p0 k:=aH (Ef n qbs p0) k
def Pb n qbs p0:=(Wm n qbs p0 n (1,0)).bind (LR.el (λs2=>some s2) λr=>some r)
def I6:Nat->Tm->Option Int|0,_=>none|n+1,p=>Pb n (I6 n) p
def qJ n p0:=((tV n p0).bind λx1=>(cond (!x1) (some true) ((I6 n p0).bind λx2=>some (decide (x2<=20000000))))).bind λs1=>some s1
def Ee(n:Nat)(p:Int):=(cond (decide (97<=p)) (cond (decide (p<=122)) (some true) (cond (decide (65<=p)) (some (decide (p<=90))) (some false))) (cond (decide (65<=p)) (some (decide (p<=90))) (some false))).bind λs1=>some s1
def Gx(n:Nat)(p:Str):=(cond (p==([116,114,117,101]:Str)) (some (p==([116,114,117,101]:Str))) (cond (p==([102,97,108,115,101]:Str)) (some (p==([102,97,108,115,101]:Str))) (cond (p==([110,111,116]:Str)) (some (p==([110,111,116]:Str))) (cond (p==([111,114]:Str)) (some (p==([111,114]:Str))) (cond (p==([102,111,114,97,108,108]:Str)) (some (p==([102,111,114,97,108,108]:Str))) (cond (p==([101,120,105,115,116,115]:Str)) (some (p==([101,120,105,115,116,115]:Str))) (cond (p==([105,110]:Str)) (some (p==([105,110]:Str))) (cond (p==([110,111,116,105,110]:Str)) (some (p==([110,111,116,105,110]:Str))) (cond (p==([115,117,98]:Str)) (some (p==([115,117,98]:Str))) (cond (p==([109,111,100]:Str)) (some (p==([109,111,100]:Str))) (cond (p==([102,117,110]:Str)) (some (p==([102,117,110]:Str))) (cond (p==([99,97,114,100]:Str)) (some (p==([99,97,114,100]:Str))) (cond (p==([109,105,110]:Str)) (some (p==([109,105,110]:Str))) (cond (p==([109,97,120]:Str)) (some (p==([109,97,120]:Str))) (cond (p==([100,111,109]:Str)) (some (p==([100,111,109]:Str))) (cond (p==([114,97,110]:Str)) (some (p==([114,97,110]:Str))) (cond (p==([80,79,87]:Str)) (some (p==([80,79,87]:Str))) (cond (p==([105,110,116]:Str)) (some (p==([105,110,116]:Str))) (cond (p==([98,111,111,108]:Str)) (some (p==([98,111,111,108]:Str))) (cond (p==([115,101,116]:Str)) (some (p==([115,101,116]:Str))) (some (p==([112,97,105,114]:Str))))))))))))))))))))))).bind λs1=>cond s1 (some true) (some false)
def Np(n:Nat)(p:Int):=(cond (decide (48<=p)) (some (decide (p<=57))) (some false)).bind λs1=>some s1
def Ku n p0:=((Ee n p0).bind λx1=>(cond x1 (some true) ((Np n p0).bind λx2=>(cond x2 (some true) (some (p0==95)))))).bind λs1=>some s1
def YW(n)(p:Str)(r:F2t)s2:=cond (decide (s2<(p.length:Int))) ((nC p s2).bind λx1=>(Ku n x1).bind λx2=>(cond (!x2) (some (.rt false)) (r (s2+1)))) (some (.nx ()))
def BI n p0 k:=aH (YW n p0) k
def fK(n:Nat)(p:Str):=(cond (p==([]:Str)) (some true) (cond (decide (16<(p.length:Int))) (some true) ((nC p 0).bind λx3=>((Ee n x3).bind λx4=>(cond (!x4) (some true) ((Gx n p).bind λx5=>some x5)))))).bind λs1=>cond s1 (some false) ((BI n p n 0).bind (LR.el (λs3=>some true) (λr=>some r)))
def ny(n:Nat)(p:Str)(a:Str):=(cond (decide ((a.length:Int)<=(p.length:Int))) ((jM p (IntKind.wrap .i64 ((p.length:Int) - (a.length:Int))) (p.length:Int)).bind λx1=>some (x1==a)) (some false)).bind λs1=>some s1
def mW(n:Nat)(p:Str)(a:Str):Option Str:=(ny n p a).bind λx1=>cond x1 ((jM p 0 (IntKind.wrap .i64 ((p.length:Int) - (a.length:Int)))).bind λx2=>some x2) (some p)
def strings_TrimSuffix n p0 p1:=(mW n p0 p1).bind λx1=>some x1
def u6 n p0:=(strings_TrimSuffix n p0 [39]).bind λx1=>(fK n x1).bind λx2=>some x2
def ku(n:Nat)p0(p:Int)p2(a:Int):=(cond (decide ((IntKind.wrap .i64 (p0+1))<=p)) (some (decide (a<=p2))) (some false)).bind λs1=>some (s1,(IntKind.wrap .i64 (p0+1)))
def Nr(n:Nat)(qcf:F13t)(qcb:F14t)(qcj:F15t)(qck:F16t)(p0:List Ty)(p2:Int)(p3:Int)(p4:Int)(rec:F40t)(s1:Int×Int):Option (LR Int (Int×Int)):=(cond (decide (s1.1<(p0.length:Int))) ((idx p0 s1.1).bind fun x1=>((qck x1 s1.2 p2 p3 p4).bind fun x2=>(cond x2.1 (some (.rt (s1.1,x2.2))) (rec ((s1.1+1),x2.2))))) (some (.nx s1.2)))
def BK(n:Nat)(qcf:F13t)(qcb:F14t)(qcj:F15t)(qck:F16t)(p0:List Ty)(p2:Int)(p3:Int)(p4:Int)(k:Nat):(Int×Int)→Option (LR Int (Int×Int)):=aH (Nr n qcf qcb qcj qck p0 p2 p3 p4) k
def jA(n:Nat)(qcf:F13t)(qcb:F14t)(qcj:F15t)(qck:F16t)(p0:List Ty)(p1:Int)(p2:Int)(p3:Int)(p4:Int):Option (Int×Int):=((BK n qcf qcb qcj qck p0 p2 p3 p4 n (0,p1)).bind (LR.el (fun s2=>some ((-1),s2)) (fun r=>some r)))
def nY(n:Nat)(qcf:F13t)(qcb:F14t)(qcj:F15t)(qck:F16t)(p0:List Ty)(p1:Int)(p2:Int)(p3:Int)(p4:Int):Option (Bool×Int):=((qcf p0 p1 p2 p3 p4).bind fun x1=>some ((decide (0≤x1.1)),x1.2))
def qN(n:Nat)(qcf:F13t)(qcb:F14t)(qcj:F15t)(qck:F16t)(p0:Int)(p1:Int)(p2:Int)(p3:Ty)(p4:Int)(p5:Bool):Option (Bool×Int):=((ku n p0 p1 p2 p4).bind fun x1=>(cond (!x1.1) (some (false,x1.2)) (((cond (p3.kind==1) (some (.nx 0)) (cond (p3.kind==2) (cond p5 (some (.rt (false,x1.2))) (some (.nx 0))) (cond (p3.kind==3) ((fK n p3.name).bind fun x3=>(cond (!x3) (some (.rt (false,x1.2))) (some (.nx 0)))) (cond (p3.kind==4) (some (.nx 2)) (cond (p3.kind==5) (some (.nx 1)) (some (.rt (false,x1.2)))))))):Option (LR Int (Bool×Int))).bind (LR.el (fun s1=>(((cond ((p3.kids.length:Int)!=s1) (some true) (cond (p3.kind !=3) (some (!(p3.name==([]:Str)))) (some false))):Option Bool).bind fun s2=>(cond s2 (some (false,x1.2)) ((qcb p3.kids x1.2 p1 p2 p4).bind fun x2=>some ((!x2.1),x2.2))))) (fun r=>some r)))))
def oG(n:Nat)(qcf:F13t)(qcb:F14t)(qcj:F15t)(qck:F16t)(p0:Ty)(p1:Int)(p2:Int)(p3:Int)(p4:Int):Option (Bool×Int):=((qcj p1 p2 p3 p0 (IntKind.wrap .i64 (p4+1)) true).bind fun x1=>some ((!x1.1),x1.2))
mutual
def j6:Nat→(List Ty)→Int→Int→Int→Int→Option (Int×Int)
 |0,_,_,_,_,_=>none
 |n+1,p0,p1,p2,p3,p4=>jA n (j6 n) (eB n) (gQ n) (eX n) p0 p1 p2 p3 p4
def eB:Nat→(List Ty)→Int→Int→Int→Int→Option (Bool×Int)
 |0,_,_,_,_,_=>none
 |n+1,p0,p1,p2,p3,p4=>nY n (j6 n) (eB n) (gQ n) (eX n) p0 p1 p2 p3 p4
def gQ:Nat→Int→Int→Int→Ty→Int→Bool→Option (Bool×Int)
 |0,_,_,_,_,_,_=>none
 |n+1,p0,p1,p2,p3,p4,p5=>qN n (j6 n) (eB n) (gQ n) (eX n) p0 p1 p2 p3 p4 p5
def eX:Nat→Ty→Int→Int→Int→Int→Option (Bool×Int)
 |0,_,_,_,_,_=>none
 |n+1,p0,p1,p2,p3,p4=>oG n (j6 n) (eB n) (gQ n) (eX n) p0 p1 p2 p3 p4
end
def oC n p0:=(gQ n 0 16 6 p0 1 false).bind λx1=>some x1.1
def KV(n:Nat)(qcg:F17t)(qcc:F18t)(qco:F7t)(qcp:F7t)(p0:List Ty)(p1:Int)(rec:F4t)(s1:Int):Option (LR Unit Int):=(cond (decide (s1<(p0.length:Int))) ((idx p0 s1).bind fun x1=>((qcp x1 p1).bind fun x2=>(cond x2 (some (.rt s1)) (rec (s1+1))))) (some (.nx ())))
def zQ(n:Nat)(qcg:F17t)(qcc:F18t)(qco:F7t)(qcp:F7t)(p0:List Ty)(p1:Int)(k:Nat):Int→Option (LR Unit Int):=aH (KV n qcg qcc qco qcp p0 p1) k
def oz(n:Nat)(qcg:F17t)(qcc:F18t)(qco:F7t)(qcp:F7t)(p0:List Ty)(p1:Int):Option Int:=((zQ n qcg qcc qco qcp p0 p1 n 0).bind (LR.el (fun s2=>some (-1)) (fun r=>some r)))
def mV(n:Nat)(qcg:F17t)(qcc:F18t)(qco:F7t)(qcp:F7t)(p0:List Ty)(p1:Int):Option Bool:=((qcg p0 p1).bind fun x1=>some (decide (0≤x1)))
def yG(n:Nat)(qcg:F17t)(qcc:F18t)(qco:F7t)(qcp:F7t)(p0:Ty)(p1:Int):Option Bool:=(((cond (p0.kind==p1) (some true) ((qcc p0.kids p1).bind fun x1=>some x1)):Option Bool).bind fun s1=>some s1)
def wm(n:Nat)(qcg:F17t)(qcc:F18t)(qco:F7t)(qcp:F7t)(p0:Ty)(p1:Int):Option Bool:=((qco p0 p1).bind fun x1=>some x1)
mutual
def kT:Nat→(List Ty)→Int→Option Int
 |0,_,_=>none
 |n+1,p0,p1=>oz n (kT n) (iq n) (nN n) (kW n) p0 p1
def iq:Nat→(List Ty)→Int→Option Bool
 |0,_,_=>none
 |n+1,p0,p1=>mV n (kT n) (iq n) (nN n) (kW n) p0 p1
def nN:Nat→Ty→Int→Option Bool
 |0,_,_=>none
 |n+1,p0,p1=>yG n (kT n) (iq n) (nN n) (kW n) p0 p1
def kW:Nat→Ty→Int→Option Bool
 |0,_,_=>none
 |n+1,p0,p1=>wm n (kT n) (iq n) (nN n) (kW n) p0 p1
end
def wL n p0:=((oC n p0).bind λx1=>(cond x1 ((nN n p0 2).bind λx2=>some (!x2)) (some false))).bind λs1=>some s1
def aad(n:Nat)(q:F34t)(p:Ty)(r:(Int×(List (Str×Bool)))->Option (LR (List (Str×Bool)) (List (Str×Bool))))(s:Int×(List (Str×Bool))):=cond (decide (s.1<(p.kids.length:Int))) ((idx p.kids s.1).bind λx1=>(q x1 s.2).bind λx2=>r ((s.1+1),x2)) (some (.nx s.2))
def DF n qcn p0 k:=aH (aad n qcn p0) k
def Af n qcn p0 p1:=(cond (p0.kind==3) ((wY p1 p0.name true).bind λx3=>some x3) (some p1)).bind λs1=>(DF n qcn p0 n (0,s1)).bind (LR.el (λs3=>some s3) (λr=>some r))
def oI:Nat->Ty->List (Str×Bool)->Option (List (Str×Bool))|0,_,_=>none|n+1,p,a=>Af n (oI n) p a
def uY n p0:=(oC n p0).bind λx1=>cond (!x1) (some ([]:List Str)) ((oI n p0 ([]:List (Str×Bool))).bind λx2=>((nH n x2).bind λx3=>some x3))
def Yq(n:Nat)(p:Carrier)p1:=some (p.name==p1)
def J2(n:Nat)(p0:List Carrier)(p1:Str)(rec:F4t)(s1:Int):Option (LR Unit Int):=(cond (decide (s1<(p0.length:Int))) ((idx p0 s1).bind fun x1=>(cond (x1.name==p1) (some (.rt s1)) (rec (s1+1)))) (some (.nx ())))
def xW n p0 p1 k:=aH (J2 n p0 p1) k
def Bg n p0 p1:=(xW n p0 p1 n 0).bind (LR.el (λs2=>some (-1)) λr=>some r)
def xY n p0 p1:=(Bg n p0 p1).bind λx1=>some (decide (0<=x1))
def DT(n)(p:Env)p1:=(xY n p.carriers p1).bind λx1=>some x1
def DV n p0 p1 p2:=(DT n (Env.mk p1 p2) p0).bind λx1=>some !x1
def KO(n:Nat)(p0:List Str)(p1:List Carrier)(p2:List Decl)(rec:F4t)(s1:Int):Option (LR Unit Int):=(cond (decide (s1<(p0.length:Int))) ((idx p0 s1).bind fun x1=>((DV n x1 p1 p2).bind fun x2=>(cond x2 (some (.rt s1)) (rec (s1+1))))) (some (.nx ())))
def zy n p0 p1 p2 k:=aH (KO n p0 p1 p2) k
def Dl n p0 p1 p2:=(zy n p0 p1 p2 n 0).bind (LR.el (λs2=>some (-1)) λr=>some r)
def zG n p0 p1 p2:=(Dl n p0 p1 p2).bind λx1=>some (decide (0<=x1))
def Aj(n:Nat)(p:Env)p1:=(uY n p1).bind λx1=>(zG n x1 p.carriers p.names).bind λx2=>some (!x2)
def Yw(n:Nat)(p0:Env)(rec:F19t)(s1:(List Str)×Int):Option (LR (List Str) (List Str)):=(cond (decide (s1.2<(p0.carriers.length:Int))) ((idx p0.carriers s1.2).bind fun x3=>((app 16 s1.1 ([x3.name])).bind fun x4=>((app 16 x4 x3.elems).bind fun x5=>rec (x5,(s1.2+1))))) (some (.nx s1.1)))
def Lc n p0 k:=aH (Yw n p0) k
def Yl(n:Nat)(p0:Env)(rec:F19t)(s3:(List Str)×Int):Option (LR (List Str) (List Str)):=(cond (decide (s3.2<(p0.names.length:Int))) ((idx p0.names s3.2).bind fun x1=>((app 16 s3.1 ([x1.name])).bind fun x2=>rec (x2,(s3.2+1)))) (some (.nx s3.1)))
def Lb n p0 k:=aH (Yl n p0) k
def Av n p0:=(Lc n p0 n (([]),0)).bind (LR.el (λs2=>((Lb n p0 n (s2,0)).bind (LR.el (λs4=>some s4) (λr=>some r)))) λr=>some r)
def YJ(n:Nat)p0(r:(Int×(List (Str×Bool)))->Option (LR Unit Bool))(s1:Int×(List (Str×Bool))):=cond (decide (s1.1<(p0.length:Int))) ((idx p0 s1.1).bind λx1=>((mel (dO s1.2 x1) (some false) (λx3=>some x3)):Option Bool).bind λs3=>(cond s3 (some (.rt false)) ((wY s1.2 x1 true).bind λx2=>r ((s1.1+1),x2)))) (some (.nx ()))
def Lj n p0 k:=aH (YJ n p0) k
def AX n p0:=(Lj n p0 n (0,([]))).bind (LR.el (λs2=>some true) λr=>some r)
def YC(n)(x:Carrier)(r:F2t)s8:=cond (decide (s8<(x.elems.length:Int))) ((idx x.elems s8).bind λx8=>(fK n x8).bind λx9=>(cond (!x9) (some (.rt false)) (r (s8+1)))) (some (.nx ()))
def vg n x7 k:=aH (YC n x7) k
def YM(n)(p:Env)(e:F2t)s2:=cond (decide (s2<(p.carriers.length:Int))) ((idx p.carriers s2).bind λx7=>(((fK n x7.name).bind λx10=>(cond (!x10) (some true) (some (decide (8<(x7.elems.length:Int)))))):Option Bool).bind λs7=>(cond s7 (some (.rt false)) ((vg n x7 n 0).bind (LR.el (λs9=>e (s2+1)) (λr=>some (.rt r)))))) (some (.nx ()))
def LD n p0 k:=aH (YM n p0) k
def Za(n)p0(r:F2t)s4:=cond (decide (s4<(p0.names.length:Int))) ((idx p0.names s4).bind λx3=>(((u6 n x3.name).bind λx4=>(cond (!x4) (some true) ((wL n x3.ty).bind λx5=>(cond (!x5) (some true) ((Aj n p0 x3.ty).bind λx6=>some (!x6)))))):Option Bool).bind λs6=>(cond s6 (some (.rt false)) (r (s4+1)))) (some (.nx ()))
def Lp n p0 k:=aH (Za n p0) k
def qp n p0:=(cond (decide (8<(p0.carriers.length:Int))) (some true) (some (decide (64<(p0.names.length:Int))))).bind λs1=>cond s1 (some false) ((LD n p0 n 0).bind (LR.el (λs3=>((Lp n p0 n 0).bind (LR.el (λs5=>((Av n p0).bind λx1=>((AX n x1).bind λx2=>some x2))) (λr=>some r)))) (λr=>some r)))
def wN(n:Nat)(p:Env)p1(r:F2t)s1:=cond (decide (s1<(p.carriers.length:Int))) ((idx p.carriers s1).bind λx1=>((((idx p1 s1).bind λx2=>(cond (decide (x2<1)) (some true) ((idx p1 s1).bind λx3=>(cond (decide (8<x3)) (some true) (cond (decide (0<(x1.elems.length:Int))) ((idx p1 s1).bind λx4=>some (x4 !=(x1.elems.length:Int))) (some false)))))):Option Bool).bind λs3=>(cond s3 (some (.rt false)) (r (s1+1))))) (some (.nx ()))
def yQ n p0 p1 k:=aH (wN n p0 p1) k
def zx n p0 p1:=cond ((p1.length)!=(p0.carriers.length:Int)) (some false) ((yQ n p0 p1 n 0).bind (LR.el (λs2=>some true) (λr=>some r)))
def arR(n:Nat)(p:Carrier)p1:=some (p.name==p1)
def Gh(n:Nat)(p0:List Carrier)(p1:Str)(rec:F4t)(s1:Int):Option (LR Unit Int):=(cond (decide (s1<(p0.length:Int))) ((idx p0 s1).bind fun x1=>(cond (x1.name==p1) (some (.rt s1)) (rec (s1+1)))) (some (.nx ())))
def uV n p0 p1 k:=aH (Gh n p0 p1) k
def yB n p0 p1:=(uV n p0 p1 n 0).bind (LR.el (λs2=>some (-1)) λr=>some r)
def M5(n)(p:Env)p1:=(yB n p.carriers p1).bind λx1=>some x1
def cmp_isNaN_int(n:Nat)(p:Int):=some (p !=p)
def cmp_Compare_int(n:Nat)p0(p:Int):=cond (p0 !=p0) (cond (p !=p) (some 0) (some (-1))) (cond (p !=p) (some 1) (cond (decide (p0<p)) (some (-1)) (cond (decide (p<p0)) (some 1) (some 0))))
def Jy(n:Nat)(p0:List Int)(rec:F4t)(s1:Int):Option (LR Unit Int):=(cond (decide (s1<(p0.length:Int))) ((idx p0 s1).bind fun x1=>(cond (x1 !=0) (some (.rt x1)) (rec (s1+1)))) (some (.nx ())))
def Ew n p0 k:=aH (Jy n p0) k
def Vu n p0:=(Ew n p0 n 0).bind (LR.el (λs2=>some 0) λr=>some r)
def iU(n:Nat)(qb9:F27t)(qbx:F9t)(p0:List Val)(p1:List Val)(rec:F4t)(s1:Int):Option (LR Unit Int):=(cond (decide (s1<(p0.length:Int))) ((idx p0 s1).bind fun x1=>(cond (decide ((p1.length:Int)≤s1)) (some (.rt 1)) ((idx p1 s1).bind fun x2=>((qbx x1 x2).bind fun x3=>(cond (x3 !=0) (some (.rt x3)) (rec (s1+1))))))) (some (.nx ())))
def lq(n:Nat)(qb9:F27t)(qbx:F9t)(p0:List Val)(p1:List Val)(k:Nat):Int→Option (LR Unit Int):=aH (iU n qb9 qbx p0 p1) k
def nW(n:Nat)(qb9:F27t)(qbx:F9t)(p0:List Val)(p1:List Val):Option Int:=((lq n qb9 qbx p0 p1 n 0).bind (LR.el (fun s2=>(cond (decide ((p0.length:Int)<(p1.length:Int))) (some (-1)) (some 0))) (fun r=>some r)))
def Dr(n:Nat)(qb9:F27t)(qbx:F9t)(p0:Val)(p1:Val):Option Int:=((cmp_Compare_int n p0.kind p1.kind).bind fun x1=>((cmp_Compare_int n p0.n p1.n).bind fun x2=>((strings_Compare n p0.name p1.name).bind fun x3=>((Vu n ([x1,x2,x3])).bind fun x4=>(cond (x4 !=0) (some x4) ((qb9 p0.kids p1.kids).bind fun x5=>some x5))))))
mutual
def kF:Nat→(List Val)→(List Val)→Option Int
 |0,_,_=>none
 |n+1,p0,p1=>nW n (kF n) (dz n) p0 p1
def dz:Nat→Val→Val→Option Int
 |0,_,_=>none
 |n+1,p0,p1=>Dr n (kF n) (dz n) p0 p1
end
def Bq(n:Nat)(qbz:F8t)(qb0:F20t)(p2:Val)(rec:F2t)(s6:Int):Option (LR Unit Bool):=(cond (decide (s6<(p2.kids.length:Int))) ((idx p2.kids (IntKind.wrap .i64 (s6 - 1))).bind fun x4=>((idx p2.kids s6).bind fun x5=>((dz n x4 x5).bind fun x6=>(cond (decide (0≤x6)) (some (.rt false)) (rec (s6+1)))))) (some (.nx ())))
def DX(n:Nat)(qbz:F8t)(qb0:F20t)(p2:Val)(k:Nat):Int→Option (LR Unit Bool):=aH (Bq n qbz qb0 p2) k
def jD(n:Nat)(qbz:F8t)(qb0:F20t)(p0:Env)(p1:List Int)(p2:Val)(p3:Ty):Option Bool:=(cond (p3.kind==1) (((cond (p2.kind==1) (cond (decide ((-1000000000)≤p2.n)) (cond (decide (p2.n≤1000000000)) (cond (p2.name==([]:Str)) (some ((p2.kids.length:Int)==0)) (some false)) (some false)) (some false)) (some false)):Option Bool).bind fun s1=>some s1) (cond (p3.kind==2) (((cond (p2.kind==2) (cond (p2.n==0) (cond (p2.name==([]:Str)) (some ((p2.kids.length:Int)==0)) (some false)) (cond (p2.n==1) (cond (p2.name==([]:Str)) (some ((p2.kids.length:Int)==0)) (some false)) (some false))) (some false)):Option Bool).bind fun s2=>some s2) (cond (p3.kind==3) ((M5 n p0 p3.name).bind fun x1=>(((cond (decide (0≤x1)) (cond (p2.kind==3) (cond (p2.name==p3.name) (cond (decide (0≤p2.n)) ((idx p1 x1).bind fun x2=>(cond (decide (p2.n<x2)) (some ((p2.kids.length:Int)==0)) (some false))) (some false)) (some false)) (some false)) (some false)):Option Bool).bind fun s3=>some s3)) (cond (p3.kind==4) (((cond (p2.kind==4) (cond (p2.n==0) (cond (p2.name==([]:Str)) (cond ((p2.kids.length:Int)==2) ((qb0 p3.kids p2.kind p2.n p2.name p2.kids p0.carriers p0.names p1).bind fun x3=>some x3) (some false)) (some false)) (some false)) (some false)):Option Bool).bind fun s4=>some s4) (cond (p3.kind==5) (((cond (p2.kind !=5) (some true) (cond (p2.n !=0) (some true) (cond (!(p2.name==([]:Str))) (some true) (cond (decide (256<(p2.kids.length:Int))) (some true) ((qb0 p3.kids p2.kind p2.n p2.name p2.kids p0.carriers p0.names p1).bind fun x7=>some (!x7)))))):Option Bool).bind fun s5=>(cond s5 (some false) ((DX n qbz qb0 p2 n 1).bind (LR.el (fun s7=>some true) (fun r=>some r))))) (some false))))))
def xH(n:Nat)(qbz:F8t)(qb0:F20t)(p0:List Ty)(p4:List Val)(p5:List Carrier)(p6:List Decl)(p7:List Int)(rec:F2t)(s1:Int):Option (LR Unit Bool):=(cond (decide (s1<(p4.length:Int))) ((idx p4 s1).bind fun x1=>((idx p0 (if((p0.length:Int) - 1)<s1 then((p0.length:Int) - 1)else s1)).bind fun x2=>((qbz (Env.mk p5 p6) p7 x1 x2).bind fun x3=>(cond (!x3) (some (.rt false)) (rec (s1+1)))))) (some (.nx ())))
def zJ(n:Nat)(qbz:F8t)(qb0:F20t)(p0:List Ty)(p4:List Val)(p5:List Carrier)(p6:List Decl)(p7:List Int)(k:Nat):Int→Option (LR Unit Bool):=aH (xH n qbz qb0 p0 p4 p5 p6 p7) k
def uU(n:Nat)(qbz:F8t)(qb0:F20t)(p0:List Ty)(p1:Int)(p2:Int)(p3:Str)(p4:List Val)(p5:List Carrier)(p6:List Decl)(p7:List Int):Option Bool:=((zJ n qbz qb0 p0 p4 p5 p6 p7 n 0).bind (LR.el (fun s2=>some true) (fun r=>some r)))
mutual
def jL:Nat→Env→(List Int)→Val→Ty→Option Bool
 |0,_,_,_,_=>none
 |n+1,p0,p1,p2,p3=>jD n (jL n) (vF n) p0 p1 p2 p3
def vF:Nat→(List Ty)→Int→Int→Str→(List Val)→(List Carrier)→(List Decl)→(List Int)→Option Bool
 |0,_,_,_,_,_,_,_,_=>none
 |n+1,p0,p1,p2,p3,p4,p5,p6,p7=>uU n (jL n) (vF n) p0 p1 p2 p3 p4 p5 p6 p7
end
def Yh(n)(p:S_api_World)(r:F2t)s2:=cond (decide (s2<(p.env.names.length:Int))) ((idx p.env.names s2).bind λx1=>((idx p.values s2).bind λx2=>((jL n p.env p.sizes x2 x1.ty).bind λx3=>(cond (!x3) (some (.rt false)) (r (s2+1)))))) (some (.nx ()))
def Lg n p0 k:=aH (Yh n p0) k
def uW n p0:=((qp n p0.env).bind λx4=>(cond (!x4) (some true) ((zx n p0.env p0.sizes).bind λx5=>(cond (!x5) (some true) (some ((p0.values.length:Int)!=(p0.env.names.length:Int))))))).bind λs1=>cond s1 (some false) ((Lg n p0 n 0).bind (LR.el (λs3=>some true) (λr=>some r)))
def Qu(n:Nat)(p:Int):=(cond (p==1) (some (p==1)) (cond (p==2) (some (p==2)) (cond (p==19) (some (p==19)) (cond (p==20) (some (p==20)) (some (p==29)))))).bind λs1=>cond s1 (some (0,true)) (((cond (p==3) (some (p==3)) (cond (p==21) (some (p==21)) (((cond (decide (46<=p)) (some (decide (p<=51))) (some false)):Option Bool).bind λs4=>(cond s4 (some s4) (some (p==52)))))):Option Bool).bind λs2=>(cond s2 (some (1,true)) (cond (p==28) (some ((-1),true)) (((cond (decide (1<=p)) (some (decide (p<=56))) (some false)):Option Bool).bind λs3=>(cond s3 (some (2,true)) (some (0,false)))))))
def WH n p0:=(strings_TrimSuffix n p0 [39]).bind λx1=>(fK n x1).bind λx2=>some x2
def D9(n:Nat)(p:Int):=(cond (p==8) (some true) (cond (p==9) (some true) (cond (p==55) (some true) (some (p==56))))).bind λs1=>some s1
def EI(n:Nat)(p:Ty):=(cond (p.kind==0) (cond (p.name==([]:Str)) (some ((p.kids.length:Int)==0)) (some false)) (some false)).bind λs1=>some s1
def KD(n:Nat)(p:Tm):=((Qu n p.op).bind λx1=>(((((cond (!x1.2) (some (!x1.2)) (((cond (x1.1==(-1)) (some ((p.kids.length:Int)==0)) (some false)):Option Bool).bind λs6=>(cond s6 (some s6) (cond (x1.1 !=(-1)) (some ((p.kids.length:Int)!=x1.1)) (some false))))):Option Bool).bind λs5=>(cond s5 (some (.rt false)) (cond (p.op==20) ((WH n p.name).bind λx4=>some (.nx x4)) ((D9 n p.op).bind λx5=>(cond x5 ((fK n p.name).bind λx6=>some (.nx x6)) (some (.nx (p.name==([]:Str))))))))):Option (LR Bool Bool)).bind (LR.el (λs1=>(((cond (p.op==19) (cond s1 (cond (decide (0<=p.n)) (some (decide (p.n<=1000000000))) (some false)) (some false)) (cond s1 (some (p.n==0)) (some false))):Option Bool).bind λs2=>(cond (p.op==29) (((cond s2 (cond (p.ty.kind !=2) ((oC n p.ty).bind λx2=>some x2) (some false)) (some false)):Option Bool).bind λs3=>some s3) (((cond s2 ((EI n p.ty).bind λx3=>some x3) (some false)):Option Bool).bind λs4=>some s4)))) (λr=>some r))))
def M0(n:Nat)(qce:F21t)(qca:F22t)(qch:F23t)(qci:F24t)(p0:List Tm)(p2:Int)(p3:Int)(p4:Int)(rec:F40t)(s1:Int×Int):Option (LR Int (Int×Int)):=(cond (decide (s1.1<(p0.length:Int))) ((idx p0 s1.1).bind fun x1=>((qci x1 s1.2 p2 p3 p4).bind fun x2=>(cond x2.1 (some (.rt (s1.1,x2.2))) (rec ((s1.1+1),x2.2))))) (some (.nx s1.2)))
def Bo(n:Nat)(qce:F21t)(qca:F22t)(qch:F23t)(qci:F24t)(p0:List Tm)(p2:Int)(p3:Int)(p4:Int)(k:Nat):(Int×Int)→Option (LR Int (Int×Int)):=aH (M0 n qce qca qch qci p0 p2 p3 p4) k
def jC(n:Nat)(qce:F21t)(qca:F22t)(qch:F23t)(qci:F24t)(p0:List Tm)(p1:Int)(p2:Int)(p3:Int)(p4:Int):Option (Int×Int):=((Bo n qce qca qch qci p0 p2 p3 p4 n (0,p1)).bind (LR.el (fun s2=>some ((-1),s2)) (fun r=>some r)))
def wG(n:Nat)(qce:F21t)(qca:F22t)(qch:F23t)(qci:F24t)(p0:List Tm)(p1:Int)(p2:Int)(p3:Int)(p4:Int):Option (Bool×Int):=((qce p0 p1 p2 p3 p4).bind fun x1=>some ((decide (0≤x1.1)),x1.2))
def vT(n:Nat)(qce:F21t)(qca:F22t)(qch:F23t)(qci:F24t)(p0:Int)(p1:Int)(p2:Int)(p3:Tm)(p4:Int):Option (Bool×Int):=((((ku n p0 p1 p2 p4).bind fun x2=>(cond (!x2.1) (some (true,x2.2)) ((KD n p3).bind fun x3=>some ((!x3),x2.2)))):Option (Bool×Int)).bind fun s1=>(cond s1.1 (some (false,s1.2)) ((qca p3.kids s1.2 p1 p2 p4).bind fun x1=>some ((!x1.1),x1.2))))
def tL(n:Nat)(qce:F21t)(qca:F22t)(qch:F23t)(qci:F24t)(p0:Tm)(p1:Int)(p2:Int)(p3:Int)(p4:Int):Option (Bool×Int):=((qch p1 p2 p3 p0 (IntKind.wrap .i64 (p4+1))).bind fun x1=>some ((!x1.1),x1.2))
mutual
def j5:Nat→(List Tm)→Int→Int→Int→Int→Option (Int×Int)
 |0,_,_,_,_,_=>none
 |n+1,p0,p1,p2,p3,p4=>jC n (j5 n) (gL n) (jK n) (gP n) p0 p1 p2 p3 p4
def gL:Nat→(List Tm)→Int→Int→Int→Int→Option (Bool×Int)
 |0,_,_,_,_,_=>none
 |n+1,p0,p1,p2,p3,p4=>wG n (j5 n) (gL n) (jK n) (gP n) p0 p1 p2 p3 p4
def jK:Nat→Int→Int→Int→Tm→Int→Option (Bool×Int)
 |0,_,_,_,_,_=>none
 |n+1,p0,p1,p2,p3,p4=>vT n (j5 n) (gL n) (jK n) (gP n) p0 p1 p2 p3 p4
def gP:Nat→Tm→Int→Int→Int→Int→Option (Bool×Int)
 |0,_,_,_,_,_=>none
 |n+1,p0,p1,p2,p3,p4=>tL n (j5 n) (gL n) (jK n) (gP n) p0 p1 p2 p3 p4
end
def GQ n p0:=(jK n 0 2000 64 p0 1).bind λx1=>some x1.1
def apX(n:Nat)p0:=some (Ty.mk 5 ([]) [p0])
def aek(n:Nat)(x:Carrier)(r:F35t)(s:Int×(List (Str×Ty))):=cond (decide (s.1<(x.elems.length:Int))) ((idx x.elems s.1).bind λx5=>(wY s.2 x5 (Ty.mk 3 x.name ([]))).bind λx6=>r ((s.1+1),x6)) (some (.nx s.2))
def uT n x3 k:=aH (aek n x3) k
def aec(n)(p:Env)(e:F35t)(s1:Int×(List (Str×Ty))):=cond (decide (s1.1<(p.carriers.length:Int))) ((idx p.carriers s1.1).bind λx3=>(wY s1.2 x3.name (Ty.mk 5 ([]:Str) ([(Ty.mk 3 x3.name ([]))]))).bind λx4=>((uT n x3 n (0,x4)).bind (LR.el (λs6=>e ((s1.1+1),s6)) (λr=>some (.rt r))))) (some (.nx s1.2))
def Rb n p0 k:=aH (aec n p0) k
def aeE(n:Nat)(p:Env)(r:F35t)(s:Int×(List (Str×Ty))):=cond (decide (s.1<(p.names.length:Int))) ((idx p.names s.1).bind λx1=>(wY s.2 x1.name x1.ty).bind λx2=>r ((s.1+1),x2)) (some (.nx s.2))
def Q6 n p0 k:=aH (aeE n p0) k
def Hz n p0:=(Rb n p0 n (0,([]))).bind (LR.el (λs2=>((Q6 n p0 n (0,s2)).bind (LR.el (λs4=>some s4) (λr=>some r)))) λr=>some r)
def apJ(n:Nat):=some (Ty.mk 2 [] [])
def ata(n:Nat)(p:Int)(a:Ty):=some ()
def ajW(n:Nat):=some (Ty.mk 1 [] [])
def awK(n:Nat):=some ()
def acB(n:Nat):=some ()
def ao3(n:Nat):=some ()
def agh(n:Nat)(p:Ty):=some ()
def as7(n:Nat):=some ()
def am2(n:Nat):=some ()
def asJ(n:Nat):=some ()
def amG(n:Nat):=some ()
def ao4(n:Nat):=some ()
def YH(n:Nat):=some ()
def Yv(n:Nat):=some ()
def ai2(n:Nat):=some ()
def ajh(n:Nat):=some ()
def YN(n:Nat):=some ()
def Yj(n:Nat):=some ()
def YX(n:Nat):=some ()
def YS(n:Nat):=some ()
def YV(n:Nat):=some ()
def asU(n:Nat):=some ()
def Tz(n:Nat)(p:Env)(r:(Int×(List (Str×Bool)))->Option (LR (List (Str×Bool)) ((List (Str×Ty))×(List (Str×Bool)))))(s1:Int×(List (Str×Bool))):Option (LR (List (Str×Bool)) ((List (Str×Ty))×(List (Str×Bool)))):=cond (decide (s1.1<(p.carriers.length:Int))) ((idx p.carriers s1.1).bind λx2=>(wY s1.2 x2.name true).bind λx3=>r ((s1.1+1),x3)) (some (.nx s1.2))
def Hy n p0 k:=aH (Tz n p0) k
def Du n p0:=(Hz n p0).bind λx1=>(Hy n p0 n (0,([]:List (Str×Bool)))).bind (LR.el (λs2=>some (x1,s2)) (λr=>some r))
def zK(n:Nat)(p:Int):=(cond (p==8) (some true) (cond (p==9) (some true) (cond (p==55) (some true) (some (p==56))))).bind λs1=>some s1
def bQ(n:Nat)(p:Ty):=cond (p.kind !=5) (some ((Ty.mk 0 ([]:Str) ([])),false)) ((idx p.kids 0).bind λx1=>some (x1,true))
def Qq(n:Nat)p1(r:(List Decl)->Option (LR Unit (Ty×Bool)))s1:=cond (true !=List.isEmpty s1) ((unc s1).bind λx1=>cond (x1.1.name==p1) ((unc s1).bind λx2=>some (.rt (x2.1.ty,true))) ((unc s1).bind λx3=>r x3.2)) (some (.nx ()))
def oV n p1 k:=aH (Qq n p1) k
def tZ n p0 p1:=(oV n p1 n p0).bind (LR.el (λs2=>some ((Ty.mk 0 ([]:Str) ([])),false)) λr=>some r)
def oZ(n:Nat)p0(p:List (Str×Ty))p2(a:List Int):=(mel (dO p2 p0) (some true) (λx1=>some (!x1))).bind λs1=>some s1
def GU(n:Nat)(p0:List Str)(p1:List (Str×Ty))(p2:List (Str×Bool))(p3:List Int)(rec:F4t)(s1:Int):Option (LR Unit Int):=(cond (decide (s1<(p0.length:Int))) ((idx p0 s1).bind fun x1=>((oZ n x1 p1 p2 p3).bind fun x2=>(cond x2 (some (.rt s1)) (rec (s1+1))))) (some (.nx ())))
def wD n p0 p1 p2 p3 k:=aH (GU n p0 p1 p2 p3) k
def zk n p0 p1 p2 p3:=(wD n p0 p1 p2 p3 n 0).bind (LR.el (λs2=>some (-1)) λr=>some r)
def wJ n p0 p1 p2 p3:=(zk n p0 p1 p2 p3).bind λx1=>some (decide (0<=x1))
def rX n p0 p1 p2 p3:=(uY n p3).bind λx1=>(wJ n x1 p0 p1 p2).bind λx2=>some (!x2)
def sK(n:Nat)(p:Ty):Option (Ty×Int):=(oC n p).bind λx1=>cond (!x1) (some ((Ty.mk 0 ([]:Str) ([])),5)) (some (p,0))
def acW(n:Nat)(p:List Ty)p1(p2)p3:=some (Ty.mk p1 p2 p3,true)
def afO(n:Nat)(p:Ty)p1:=some (p.kind !=p1)
def Lf(n:Nat)(p0:List Ty)(p1:Int)(rec:F4t)(s1:Int):Option (LR Unit Int):=(cond (decide (s1<(p0.length:Int))) ((idx p0 s1).bind fun x1=>(cond (x1.kind !=p1) (some (.rt s1)) (rec (s1+1)))) (some (.nx ())))
def zl n p0 p1 k:=aH (Lf n p0 p1) k
def C8 n p0 p1:=(zl n p0 p1 n 0).bind (LR.el (λs2=>some (-1)) λr=>some r)
def zA n p0 p1:=(C8 n p0 p1).bind λx1=>some (decide (0<=x1))
def aV n p0 p1 p2 p3 p4:=(zA n p0 p4).bind λx1=>some (Ty.mk p1 p2 p3,!x1)
def anH(n:Nat)(p:Ty):=some (Ty.mk 2 [] [])
def qo(n:Nat)(p:List Ty):=(idx p 0).bind λx1=>(idx p 1).bind λx2=>some ((Ty.mk 2 ([]:Str) ([])),(x2.kind==2))
def NA(n:Nat)(qcd:F28t)(qcr:F10t)(p0:List Ty)(p1:List Ty)(rec:F2t)(s1:Int):Option (LR Unit Bool):=(cond (decide (s1<(p0.length:Int))) ((idx p0 s1).bind fun x1=>((idx p1 s1).bind fun x2=>((qcr x1 x2).bind fun x3=>(cond (!x3) (some (.rt false)) (rec (s1+1)))))) (some (.nx ())))
def Bw(n:Nat)(qcd:F28t)(qcr:F10t)(p0:List Ty)(p1:List Ty)(k:Nat):Int→Option (LR Unit Bool):=aH (NA n qcd qcr p0 p1) k
def qC(n:Nat)(qcd:F28t)(qcr:F10t)(p0:List Ty)(p1:List Ty):Option Bool:=(cond ((p0.length:Int)!=(p1.length:Int)) (some false) ((Bw n qcd qcr p0 p1 n 0).bind (LR.el (fun s2=>some true) (fun r=>some r))))
def DI(n:Nat)(qcd:F28t)(qcr:F10t)(p0:Ty)(p1:Ty):Option Bool:=(((cond (p0.kind==p1.kind) (cond (p0.name==p1.name) ((qcd p0.kids p1.kids).bind fun x1=>some x1) (some false)) (some false)):Option Bool).bind fun s1=>some s1)
mutual
def qx:Nat→(List Ty)→(List Ty)→Option Bool
 |0,_,_=>none
 |n+1,p0,p1=>qC n (qx n) (iO n) p0 p1
def iO:Nat→Ty→Ty→Option Bool
 |0,_,_=>none
 |n+1,p0,p1=>DI n (qx n) (iO n) p0 p1
end
def Cn n p0 p1:=(idx p1 0).bind λx1=>(iO n p0 x1).bind λx2=>some (!x2)
def Ld(n:Nat)(p0:List Ty)(p1:List Ty)(rec:F4t)(s1:Int):Option (LR Unit Int):=(cond (decide (s1<(p0.length:Int))) ((idx p0 s1).bind fun x1=>((Cn n x1 p1).bind fun x2=>(cond x2 (some (.rt s1)) (rec (s1+1))))) (some (.nx ())))
def zu n p0 p1 k:=aH (Ld n p0 p1) k
def uo n p0 p1:=(zu n p0 p1 n 0).bind (LR.el (λs2=>some (-1)) λr=>some r)
def qQ n p0 p1:=(uo n p0 p1).bind λx1=>some (decide (0<=x1))
def lG n p0:=((idx p0 0).bind λx1=>(cond (x1.kind !=2) ((qQ n p0 p0).bind λx2=>some (!x2)) (some false))).bind λs1=>some s1
def uJ n p0:=(lG n p0).bind λx1=>some (Ty.mk 2 ([]:Str) ([]),x1)
def qW n p0:=(idx p0 1).bind λx1=>(bQ n x1).bind λx2=>(((cond x2.2 ((idx p0 0).bind λx3=>((iO n x3 x2.1).bind λx4=>some x4)) (some false)):Option Bool).bind λs1=>some ((Ty.mk 2 ([]:Str) ([])),s1))
def uS n p0:=((idx p0 0).bind λx1=>((idx p0 0).bind λx2=>(cond (x2.kind==5) ((lG n p0).bind λx3=>some x3) (some false)))).bind λs1=>some ((Ty.mk 2 ([]:Str) ([])),s1)
def amO(n:Nat)p0(p1):=some (Ty.mk 4 ([]) [p0,p1])
def zH(n:Nat)p0:=((idx p0 0).bind λx1=>((idx p0 1).bind λx2=>((idx p0 0).bind λx3=>(cond (x3.kind !=2) ((idx p0 1).bind λx4=>some ((x4.kind !=2),([x1,x2]))) (some (false,([x1,x2]))))))).bind λs1=>some ((Ty.mk 4 ([]:Str) s1.2),s1.1)
def zo n p0:=(idx p0 0).bind λx1=>(lG n p0).bind λx2=>some ((Ty.mk 5 ([]:Str) ([x1])),x2)
def anX(n:Nat)(p:Ty):=some p
def jR n p0:=((idx p0 0).bind λx1=>((idx p0 0).bind λx2=>(cond (x2.kind==5) ((lG n p0).bind λx3=>some (x3,x1.kind,x1.name,x1.kids)) (some (false,x1.kind,x1.name,x1.kids))))).bind λs1=>some ((Ty.mk s1.2.1 s1.2.2.1 s1.2.2.2),s1.1)
def aie(n:Nat)p0(p1):=some (Ty.mk 5 ([]) [(Ty.mk 4 ([]:Str) ([p0,p1]))])
def w9 n p0:=(idx p0 0).bind λx1=>(bQ n x1).bind λx2=>((idx p0 1).bind λx3=>((bQ n x3).bind λx4=>(((cond (!x2.2) (some true) (some (!x4.2))):Option Bool).bind λs1=>(cond s1 (some ((Ty.mk 0 ([]:Str) ([])),false)) (some ((Ty.mk 5 ([]:Str) ([(Ty.mk 4 ([]:Str) ([x2.1,x4.1]))])),true))))))
def iT n p0:=(bQ n p0).bind λx1=>((cond (!x1.2) (some true) (some (x1.1.kind !=4))):Option Bool).bind λs1=>(cond s1 (some ((Ty.mk 0 ([]:Str) ([])),(Ty.mk 0 ([]:Str) ([])),false)) ((idx x1.1.kids 0).bind λx2=>((idx x1.1.kids 1).bind λx3=>some (x2,x3,true))))
def Xn(n:Nat)(p:Ty)(a:Ty)p2:=(idx p2 0).bind λx1=>(lG n p2).bind λx2=>some (x1,x2)
def mF n p0:=(idx p0 0).bind λx1=>(iT n x1).bind λx2=>(cond (!x2.2.2) (some ((Ty.mk 0 ([]:Str) ([])),false)) ((Xn n x2.1 x2.2.1 p0).bind λx3=>some (x3.1,x3.2)))
def LY n p0 p1 p2:=(idx p2 1).bind λx1=>(iT n x1).bind λx2=>(((cond x2.2.2 ((iO n p1 x2.1).bind λx3=>some (x3,([(Ty.mk 4 ([]:Str) ([p0,x2.2.1]))]))) (some (false,([(Ty.mk 4 ([]:Str) ([p0,x2.2.1]))])))):Option (Bool×(List Ty))).bind λs1=>some ((Ty.mk 5 ([]:Str) s1.2),s1.1))
def l7 n p0:=(idx p0 0).bind λx1=>(iT n x1).bind λx2=>(cond (!x2.2.2) (some ((Ty.mk 0 ([]:Str) ([])),false)) ((LY n x2.1 x2.2.1 p0).bind λx3=>some (x3.1,x3.2)))
def qD n p0:=(idx p0 0).bind λx1=>(bQ n x1).bind λx2=>((idx p0 1).bind λx3=>((iT n x3).bind λx4=>((((idx p0 1).bind λx5=>(cond x2.2 (cond x4.2.2 ((iO n x2.1 x4.1).bind λx6=>some (x6,x5.kind,x5.name,x5.kids)) (some (false,x5.kind,x5.name,x5.kids))) (some (false,x5.kind,x5.name,x5.kids)))):Option (Bool×Int×Str×(List Ty))).bind λs1=>some ((Ty.mk s1.2.1 s1.2.2.1 s1.2.2.2),s1.1))))
def Ma(n:Nat)(a:Ty)p1(p:List Ty):=(idx p 1).bind λx1=>(bQ n x1).bind λx2=>((((idx p 0).bind λx3=>(cond x2.2 ((iO n x2.1 p1).bind λx4=>some (x4,x3.kind,x3.name,x3.kids)) (some (false,x3.kind,x3.name,x3.kids)))):Option (Bool×Int×Str×(List Ty))).bind λs1=>some ((Ty.mk s1.2.1 s1.2.2.1 s1.2.2.2),s1.1))
def iW n p0:=(idx p0 0).bind λx1=>(iT n x1).bind λx2=>(cond (!x2.2.2) (some ((Ty.mk 0 ([]:Str) ([])),false)) ((Ma n x2.1 x2.2.1 p0).bind λx3=>some (x3.1,x3.2)))
def am0(n:Nat)p0(p1):=some (Ty.mk 5 ([]) [(Ty.mk 5 ([]:Str) ([(Ty.mk 4 ([]:Str) ([p0,p1]))]))])
def gy n p0:=(idx p0 0).bind λx1=>(bQ n x1).bind λx2=>((idx p0 1).bind λx3=>((bQ n x3).bind λx4=>(((cond (!x2.2) (some true) (some (!x4.2))):Option Bool).bind λs1=>(cond s1 (some ((Ty.mk 0 ([]:Str) ([])),false)) (some ((Ty.mk 5 ([]:Str) ([(Ty.mk 5 ([]:Str) ([(Ty.mk 4 ([]:Str) ([x2.1,x4.1]))]))])),true))))))
def akj(n:Nat)p0:=some (Ty.mk 5 ([]:Str) ([(Ty.mk 5 ([]:Str) ([p0]))]),true)
def sP n p0:=(idx p0 0).bind λx1=>(bQ n x1).bind λx2=>(cond (!x2.2) (some ((Ty.mk 0 ([]:Str) ([])),false)) (some ((((Ty.mk 5 ([]:Str) ([(Ty.mk 5 ([]:Str) ([x2.1]))])),true).1),((Ty.mk 5 ([]:Str) ([(Ty.mk 5 ([]:Str) ([x2.1]))])),true).2)))
def ajo(n:Nat)(p:Ty):=some (Ty.mk 1 ([]) [],true)
def sV n p0:=(idx p0 0).bind λx1=>(bQ n x1).bind λx2=>(cond (!x2.2) (some ((Ty.mk 0 ([]:Str) ([])),false)) (some ((((Ty.mk 1 ([]:Str) ([])),true).1),((Ty.mk 1 ([]:Str) ([])),true).2)))
def anf(n:Nat)(p:Ty):=some (Ty.mk 1 ([]) [],p.kind==1)
def l6 n p0:=(idx p0 0).bind λx1=>(bQ n x1).bind λx2=>(cond (!x2.2) (some ((Ty.mk 0 ([]:Str) ([])),false)) (some ((((Ty.mk 1 ([]:Str) ([])),(x2.1.kind==1)).1),((Ty.mk 1 ([]:Str) ([])),(x2.1.kind==1)).2)))
def aj7(n:Nat)p0(p:Ty)(a:List Ty):=some (Ty.mk 5 ([]:Str) ([p0]),true)
def mG n p0:=(idx p0 0).bind λx1=>(iT n x1).bind λx2=>(cond (!x2.2.2) (some ((Ty.mk 0 ([]:Str) ([])),false)) (some ((((Ty.mk 5 ([]:Str) ([x2.1])),true).1),((Ty.mk 5 ([]:Str) ([x2.1])),true).2)))
def akL(n:Nat)(p:Ty)p1(a:List Ty):=some (Ty.mk 5 ([]:Str) ([p1]),true)
def mP n p0:=(idx p0 0).bind λx1=>(iT n x1).bind λx2=>(cond (!x2.2.2) (some ((Ty.mk 0 ([]:Str) ([])),false)) (some ((((Ty.mk 5 ([]:Str) ([x2.2.1])),true).1),((Ty.mk 5 ([]:Str) ([x2.2.1])),true).2)))
def ajX(n:Nat)p0(p1)(p:List Ty):=some (Ty.mk 5 ([]:Str) ([(Ty.mk 4 ([]:Str) ([p1,p0]))]),true)
def mQ n p0:=(idx p0 0).bind λx1=>(iT n x1).bind λx2=>(cond (!x2.2.2) (some ((Ty.mk 0 ([]:Str) ([])),false)) (some ((((Ty.mk 5 ([]:Str) ([(Ty.mk 4 ([]:Str) ([x2.2.1,x2.1]))])),true).1),((Ty.mk 5 ([]:Str) ([(Ty.mk 4 ([]:Str) ([x2.2.1,x2.1]))])),true).2)))
def Ju n p0 p1 p2:=(idx p2 1).bind λx1=>(bQ n x1).bind λx2=>(((cond x2.2 ((iO n x2.1 p0).bind λx3=>some (x3,([p1]))) (some (false,([p1])))):Option (Bool×(List Ty))).bind λs1=>some ((Ty.mk 5 ([]:Str) s1.2),s1.1))
def mK n p0:=(idx p0 0).bind λx1=>(iT n x1).bind λx2=>(cond (!x2.2.2) (some ((Ty.mk 0 ([]:Str) ([])),false)) ((Ju n x2.1 x2.2.1 p0).bind λx3=>some (x3.1,x3.2)))
def Jm(n:Nat)p0(p:Ty)p2:=(idx p2 1).bind λx1=>(iO n x1 p0).bind λx2=>some (p,x2)
def mI n p0:=(idx p0 0).bind λx1=>(iT n x1).bind λx2=>(cond (!x2.2.2) (some ((Ty.mk 0 ([]:Str) ([])),false)) ((Jm n x2.1 x2.2.1 p0).bind λx3=>some (x3.1,x3.2)))
def AA(n:Nat)(p:List Ty):=(idx p 0).bind λx1=>(idx p 1).bind λx2=>some (x1,(x2.kind==2))
def xg n p0:=(idx p0 0).bind λx1=>(bQ n x1).bind λx2=>((((idx p0 1).bind λx3=>(cond x2.2 ((idx p0 1).bind λx4=>some ((x4.kind !=2),([(Ty.mk 4 ([]:Str) ([x2.1,x3]))]))) (some (false,([(Ty.mk 4 ([]:Str) ([x2.1,x3]))]))))):Option (Bool×(List Ty))).bind λs1=>some ((Ty.mk 5 ([]:Str) s1.2),s1.1))
def Uz(n)(c:F29t)(q:F30t)p0(p1)p3(e:((List Decl)×(List Ty)×Int×(List Int))->Option (LR ((List Decl)×(List Ty)×(List Int)) (Ty×Int×(List Int))))(s1:(List Decl)×(List Ty)×Int×(List Int)):=cond (decide (s1.2.2.1<(p3.kids.length:Int))) ((((q p0 p1 s1.2.2.2 p3 s1.2.2.1 s1.1).bind λx57=>(cond (x57.2.1 !=0) (some (.rt ((Ty.mk 0 ([]:Str) ([])),x57.2.1,x57.2.2))) ((app 48 s1.2.1 ([x57.1])).bind λx58=>(((cond (s1.2.2.1==0) ((zK n p3.op).bind λx60=>some x60) (some false)):Option Bool).bind λs6=>(cond s6 ((bQ n x57.1).bind λx59=>(cond (!x59.2) (some (.rt ((Ty.mk 0 ([]:Str) ([])),7,x57.2.2))) (some (.nx (((Decl.mk p3.name x59.1)::s1.1),x58,x57.2.2))))) (some (.nx (s1.1,x58,x57.2.2)))))))):Option (LR ((List Decl)×(List Ty)×(List Int)) (Ty×Int×(List Int)))).bind (LR.el (λs5=>e (s5.1,s5.2.1,(s1.2.2.1+1),s5.2.2)) (λr=>some (.rt r)))) (some (.nx (s1.1,s1.2.1,s1.2.2.2)))
def yU n qcm qcl p0 p1 p3 k:=aH (Uz n qcm qcl p0 p1 p3) k
def vN n qcm qcl p0 p1 p2 p3 p4:=(yU n qcm qcl p0 p1 p3 n (p4,([]),0,p2)).bind (LR.el (λs2=>(cond (p3.op==20) ((tZ n s2.1 p3.name).bind λx1=>(cond x1.2 (some (x1.1,0,s2.2.2)) (((mel (dO p0 p3.name) (some (false,0,([]:Str),([]:List Ty))) (λx2=>some (true,x2.kind,x2.name,x2.kids))):Option (Bool×Int×Str×(List Ty))).bind λs3=>(cond (!s3.1) (some ((Ty.mk 0 ([]:Str) ([])),6,s2.2.2)) (some ((Ty.mk s3.2.1 s3.2.2.1 s3.2.2.2),0,s2.2.2)))))) (cond (p3.op==29) ((rX n p0 p1 s2.2.2 p3.ty).bind λx3=>(cond (!x3) (some ((Ty.mk 0 ([]:Str) ([])),6,s2.2.2)) ((sK n (Ty.mk 5 ([]:Str) ([p3.ty]))).bind λx4=>some (x4.1,x4.2,s2.2.2)))) (((cond (p3.op==0) none (cond (p3.op==1) (some (((Ty.mk 2 ([]:Str) ([])),true).2,(((Ty.mk 2 ([]:Str) ([])),true).1).kind,(((Ty.mk 2 ([]:Str) ([])),true).1).name,(((Ty.mk 2 ([]:Str) ([])),true).1).kids)) (cond (p3.op==2) (some (((Ty.mk 2 ([]:Str) ([])),true).2,(((Ty.mk 2 ([]:Str) ([])),true).1).kind,(((Ty.mk 2 ([]:Str) ([])),true).1).name,(((Ty.mk 2 ([]:Str) ([])),true).1).kids)) (cond (p3.op==3) ((aV n s2.2.1 2 ([]:Str) ([]) 2).bind λx6=>some (x6.2,x6.1.kind,x6.1.name,x6.1.kids)) (cond (p3.op==4) ((aV n s2.2.1 2 ([]:Str) ([]) 2).bind λx7=>some (x7.2,x7.1.kind,x7.1.name,x7.1.kids)) (cond (p3.op==5) ((aV n s2.2.1 2 ([]:Str) ([]) 2).bind λx8=>some (x8.2,x8.1.kind,x8.1.name,x8.1.kids)) (cond (p3.op==6) ((aV n s2.2.1 2 ([]:Str) ([]) 2).bind λx9=>some (x9.2,x9.1.kind,x9.1.name,x9.1.kids)) (cond (p3.op==7) ((aV n s2.2.1 2 ([]:Str) ([]) 2).bind λx10=>some (x10.2,x10.1.kind,x10.1.name,x10.1.kids)) (cond (p3.op==8) ((qo n s2.2.1).bind λx11=>some (x11.2,x11.1.kind,x11.1.name,x11.1.kids)) (cond (p3.op==9) ((qo n s2.2.1).bind λx12=>some (x12.2,x12.1.kind,x12.1.name,x12.1.kids)) (cond (p3.op==10) ((uJ n s2.2.1).bind λx13=>some (x13.2,x13.1.kind,x13.1.name,x13.1.kids)) (cond (p3.op==11) ((uJ n s2.2.1).bind λx14=>some (x14.2,x14.1.kind,x14.1.name,x14.1.kids)) (cond (p3.op==12) ((aV n s2.2.1 2 ([]:Str) ([]) 1).bind λx15=>some (x15.2,x15.1.kind,x15.1.name,x15.1.kids)) (cond (p3.op==13) ((aV n s2.2.1 2 ([]:Str) ([]) 1).bind λx16=>some (x16.2,x16.1.kind,x16.1.name,x16.1.kids)) (cond (p3.op==14) ((aV n s2.2.1 2 ([]:Str) ([]) 1).bind λx17=>some (x17.2,x17.1.kind,x17.1.name,x17.1.kids)) (cond (p3.op==15) ((aV n s2.2.1 2 ([]:Str) ([]) 1).bind λx18=>some (x18.2,x18.1.kind,x18.1.name,x18.1.kids)) (cond (p3.op==16) ((qW n s2.2.1).bind λx19=>some (x19.2,x19.1.kind,x19.1.name,x19.1.kids)) (cond (p3.op==17) ((qW n s2.2.1).bind λx20=>some (x20.2,x20.1.kind,x20.1.name,x20.1.kids)) (cond (p3.op==18) ((uS n s2.2.1).bind λx21=>some (x21.2,x21.1.kind,x21.1.name,x21.1.kids)) (cond (p3.op==19) (some (((Ty.mk 1 ([]:Str) ([])),true).2,(((Ty.mk 1 ([]:Str) ([])),true).1).kind,(((Ty.mk 1 ([]:Str) ([])),true).1).name,(((Ty.mk 1 ([]:Str) ([])),true).1).kids)) (cond (p3.op==20) none (cond (p3.op==21) ((aV n s2.2.1 1 ([]:Str) ([]) 1).bind λx22=>some (x22.2,x22.1.kind,x22.1.name,x22.1.kids)) (cond (p3.op==22) ((aV n s2.2.1 1 ([]:Str) ([]) 1).bind λx23=>some (x23.2,x23.1.kind,x23.1.name,x23.1.kids)) (cond (p3.op==23) ((aV n s2.2.1 1 ([]:Str) ([]) 1).bind λx24=>some (x24.2,x24.1.kind,x24.1.name,x24.1.kids)) (cond (p3.op==24) ((aV n s2.2.1 1 ([]:Str) ([]) 1).bind λx25=>some (x25.2,x25.1.kind,x25.1.name,x25.1.kids)) (cond (p3.op==25) ((aV n s2.2.1 1 ([]:Str) ([]) 1).bind λx26=>some (x26.2,x26.1.kind,x26.1.name,x26.1.kids)) (cond (p3.op==26) ((aV n s2.2.1 1 ([]:Str) ([]) 1).bind λx27=>some (x27.2,x27.1.kind,x27.1.name,x27.1.kids)) (cond (p3.op==27) ((zH n s2.2.1).bind λx28=>some (x28.2,x28.1.kind,x28.1.name,x28.1.kids)) (cond (p3.op==28) ((zo n s2.2.1).bind λx29=>some (x29.2,x29.1.kind,x29.1.name,x29.1.kids)) (cond (p3.op==29) none (cond (p3.op==30) ((aV n s2.2.1 5 ([]:Str) ([(Ty.mk 1 ([]:Str) ([]))]) 1).bind λx30=>some (x30.2,x30.1.kind,x30.1.name,x30.1.kids)) (cond (p3.op==31) ((jR n s2.2.1).bind λx31=>some (x31.2,x31.1.kind,x31.1.name,x31.1.kids)) (cond (p3.op==32) ((jR n s2.2.1).bind λx32=>some (x32.2,x32.1.kind,x32.1.name,x32.1.kids)) (cond (p3.op==33) ((jR n s2.2.1).bind λx33=>some (x33.2,x33.1.kind,x33.1.name,x33.1.kids)) (cond (p3.op==34) ((w9 n s2.2.1).bind λx34=>some (x34.2,x34.1.kind,x34.1.name,x34.1.kids)) (cond (p3.op==35) ((mF n s2.2.1).bind λx35=>some (x35.2,x35.1.kind,x35.1.name,x35.1.kids)) (cond (p3.op==36) ((l7 n s2.2.1).bind λx36=>some (x36.2,x36.1.kind,x36.1.name,x36.1.kids)) (cond (p3.op==37) ((qD n s2.2.1).bind λx37=>some (x37.2,x37.1.kind,x37.1.name,x37.1.kids)) (cond (p3.op==38) ((qD n s2.2.1).bind λx38=>some (x38.2,x38.1.kind,x38.1.name,x38.1.kids)) (cond (p3.op==39) ((iW n s2.2.1).bind λx39=>some (x39.2,x39.1.kind,x39.1.name,x39.1.kids)) (cond (p3.op==40) ((iW n s2.2.1).bind λx40=>some (x40.2,x40.1.kind,x40.1.name,x40.1.kids)) (cond (p3.op==41) ((gy n s2.2.1).bind λx41=>some (x41.2,x41.1.kind,x41.1.name,x41.1.kids)) (cond (p3.op==42) ((gy n s2.2.1).bind λx42=>some (x42.2,x42.1.kind,x42.1.name,x42.1.kids)) (cond (p3.op==43) ((gy n s2.2.1).bind λx43=>some (x43.2,x43.1.kind,x43.1.name,x43.1.kids)) (cond (p3.op==44) ((gy n s2.2.1).bind λx44=>some (x44.2,x44.1.kind,x44.1.name,x44.1.kids)) (cond (p3.op==45) ((gy n s2.2.1).bind λx45=>some (x45.2,x45.1.kind,x45.1.name,x45.1.kids)) (cond (p3.op==46) ((sP n s2.2.1).bind λx46=>some (x46.2,x46.1.kind,x46.1.name,x46.1.kids)) (cond (p3.op==47) ((sV n s2.2.1).bind λx47=>some (x47.2,x47.1.kind,x47.1.name,x47.1.kids)) (cond (p3.op==48) ((l6 n s2.2.1).bind λx48=>some (x48.2,x48.1.kind,x48.1.name,x48.1.kids)) (cond (p3.op==49) ((l6 n s2.2.1).bind λx49=>some (x49.2,x49.1.kind,x49.1.name,x49.1.kids)) (cond (p3.op==50) ((mG n s2.2.1).bind λx50=>some (x50.2,x50.1.kind,x50.1.name,x50.1.kids)) (cond (p3.op==51) ((mP n s2.2.1).bind λx51=>some (x51.2,x51.1.kind,x51.1.name,x51.1.kids)) (cond (p3.op==52) ((mQ n s2.2.1).bind λx52=>some (x52.2,x52.1.kind,x52.1.name,x52.1.kids)) (cond (p3.op==53) ((mK n s2.2.1).bind λx53=>some (x53.2,x53.1.kind,x53.1.name,x53.1.kids)) (cond (p3.op==54) ((mI n s2.2.1).bind λx54=>some (x54.2,x54.1.kind,x54.1.name,x54.1.kids)) (cond (p3.op==55) ((AA n s2.2.1).bind λx55=>some (x55.2,x55.1.kind,x55.1.name,x55.1.kids)) (cond (p3.op==56) ((xg n s2.2.1).bind λx56=>some (x56.2,x56.1.kind,x56.1.name,x56.1.kids)) none))))))))))))))))))))))))))))))))))))))))))))))))))))))))):Option (Bool×Int×Str×(List Ty))).bind λs4=>(cond (!s4.1) (some ((Ty.mk 0 ([]:Str) ([])),7,s2.2.2)) ((sK n (Ty.mk s4.2.1 s4.2.2.1 s4.2.2.2)).bind λx5=>some (x5.1,x5.2,s2.2.2))))))) λr=>some r)
def rY(n:Nat)(q:F29t)(c:F30t)p0(p:List (Str×Bool))p2(a:Tm)p4(b:List Decl):=(app 8 p2 [p4]).bind λx1=>(idx a.kids p4).bind λx2=>((q p0 p x1 x2 b).bind λx3=>(((cond (x3.2.1==0) ((Dw (List.length x3.2.2) ((x3.2.2.length:Int) - 1)).bind λx4=>(cond (Nat.ble x4 (List.length x3.2.2)) (some (List.take x4 x3.2.2)) none)) (some x3.2.2)):Option (List Int)).bind λs1=>some (x3.1,x3.2.1,s1)))
mutual
def kV:Nat→(List (Str×Ty))→(List (Str×Bool))→(List Int)→Tm→(List Decl)→Option (Ty×Int×(List Int))
 |0,_,_,_,_,_=>none
 |n+1,p0,p1,p2,p3,p4=>vN n (kV n) (jk n) p0 p1 p2 p3 p4
def jk:Nat→(List (Str×Ty))→(List (Str×Bool))→(List Int)→Tm→Int→(List Decl)→Option (Ty×Int×(List Int))
 |0,_,_,_,_,_,_=>none
 |n+1,p0,p1,p2,p3,p4,p5=>rY n (kV n) (jk n) p0 p1 p2 p3 p4 p5
end
def Yg(n:Nat)(qcq:F25t)(p0:Ty)(rec:F41t)(s1:Int×(List Ty)):Option (LR (List Ty) Ty):=(cond (decide (s1.1<(p0.kids.length:Int))) ((idx p0.kids s1.1).bind fun x1=>((qcq x1).bind fun x2=>((app 48 s1.2 ([x2])).bind fun x3=>rec ((s1.1+1),x3)))) (some (.nx s1.2)))
def KX(n:Nat)(qcq:F25t)(p0:Ty)(k:Nat):(Int×(List Ty))→Option (LR (List Ty) Ty):=aH (Yg n qcq p0) k
def yI(n:Nat)(qcq:F25t)(p0:Ty):Option Ty:=((KX n qcq p0 n (0,([]:List Ty))).bind (LR.el (fun s2=>some (Ty.mk p0.kind p0.name s2)) (fun r=>some r)))
def qg:Nat->Ty->Option Ty|0,_=>none|n+1,p=>yI n (qg n) p
def zI n p0 p1:=((qp n p0).bind λx5=>(cond (!x5) (some true) ((GQ n p1).bind λx6=>some (!x6)))).bind λs1=>cond s1 (some ((Ty.mk 0 ([]:Str) ([])),([]:List Int),1)) ((Du n p0).bind λx1=>((kV n x1.1 x1.2 ([]:List Int) p1 ([]:List Decl)).bind λx2=>(cond (x2.2.1 !=0) ((slices_Clone_int n x2.2.2).bind λx3=>some ((Ty.mk 0 ([]:Str) ([])),x3,x2.2.1)) ((qg n x2.1).bind λx4=>some (x4,([]:List Int),0)))))
def AB(n:Nat)(p:S_api_World)(r:(Int×(List (Str×Val)))->Option (LR (List (Str×Val)) ((List Carrier)×(List Decl)×(List Int)×(List (Str×Val))×(List Bound))))(s1:Int×(List (Str×Val))):Option (LR (List (Str×Val)) ((List Carrier)×(List Decl)×(List Int)×(List (Str×Val))×(List Bound))):=cond (decide (s1.1<(p.env.names.length:Int))) ((idx p.env.names s1.1).bind λx1=>((idx p.values s1.1).bind λx2=>((wY s1.2 x1.name x2).bind λx3=>r ((s1.1+1),x3)))) (some (.nx s1.2))
def ajg n p0 k:=aH (AB n p0) k
def Kn n p0:=(ajg n p0 n (0,([]))).bind (LR.el (λs2=>some (p0.env.carriers,p0.env.names,p0.sizes,s2,([]:List Bound))) λr=>some r)
def bD(n:Nat)p0:=cond p0 (some (Val.mk 2 1 ([]:Str) ([]))) (some (Val.mk 2 0 ([]:Str) ([])))
def iP(n:Nat)(p:Int):Option (PZ Val Unit):=(cond (decide (1000000000<p)) (some true) (some (decide (p<(-1000000000))))).bind λs1=>cond s1 (some (.er 11 ())) (some (.ok (Val.mk 1 p ([]:Str) ([]))))
def axZ(n:Nat)p0(p1):=some (Val.mk 4 0 ([]) [p0,p1])
def rR(n:Nat)p0(p1)(p:Int)(a:Str)(b:Int)(c:Int)(d:Str)(e:List Ty)(f:List Tm)p9(p10)p11:=cond (p==56) ((app 56 p9 [(Val.mk 0 0 ([]:Str) ([]))]).bind λx1=>(idx x1 (p9.length:Int)).bind λx2=>((idx x1 (p9.length:Int)).bind λx3=>some ((upd x1 (p9.length:Int) (Val.mk 4 0 ([]:Str) ([p0,p1]))),p10,p11))) (cond (p1.n==1) ((app 56 p9 ([(Val.mk 0 0 ([]:Str) ([]))])).bind λx4=>((idx x4 (p9.length:Int)).bind λx5=>((idx x4 (p9.length:Int)).bind λx6=>some ((upd x4 (p9.length:Int) p0),true,p11)))) (some (p9,p10,false)))
def yK(n:Nat)(p:List Val):Option (PZ Val Unit):=(jG n p).bind λx1=>cond (decide (256<(x1.length:Int))) (some (.er 11 ())) (some (.ok (Val.mk 5 0 ([]:Str) x1)))
def wT(n:Nat)(p:Int):=(cond (decide (41<=p)) (some (decide (p<=46))) (some false)).bind λs1=>some s1
def dM(n)p0(p1)(r:(Int×Int)->Option (LR Int (Int×Bool)))(s1:Int×Int):=cond (decide (s1.1<s1.2)) ((apa .u64 (IntKind.wrap .u64 (IntKind.wrap .i64 (s1.1+s1.2))) 1).bind λx3=>(idx p0 (IntKind.wrap .i64 x3)).bind λx4=>((dz n x4 p1).bind λx5=>(cond (decide (x5<0)) (r ((IntKind.wrap .i64 ((IntKind.wrap .i64 x3)+1)),s1.2)) (r (s1.1,(IntKind.wrap .i64 x3)))))) (some (.nx s1.1))
def tq n p0 p1 k:=aH (dM n p0 p1) k
def og n p0 p1:=(tq n p0 p1 n (0,(p0.length))).bind (LR.el (λs2=>(((cond (decide (s2<(p0.length:Int))) ((idx p0 s2).bind λx1=>((dz n x1 p1).bind λx2=>some (s2,(x2==0)))) (some (s2,false))):Option (Int×Bool)).bind λs3=>some (s3.1,s3.2))) λr=>some r)
def fC n p0 p1:=(og n p0 p1).bind λx1=>some x1.2
def iV n p0 p1:=(fC n p1 p0).bind λx1=>some x1
def uF n p0 p1:=(fC n p1 p0).bind λx1=>some x1
def agF(n)p0(p1)(r:F3t)(s1:(List Val)×Int):=cond (decide (s1.2<(p0.length:Int))) ((((idx p0 s1.2).bind λx1=>((uF n x1 p1).bind λx2=>(cond x2 ((app 56 s1.1 ([x1])).bind λx3=>some x3) (some s1.1))))).bind λs3=>r (s3,(s1.2+1))) (some (.nx s1.1))
def ajd n p0 p1 k:=aH (agF n p0 p1) k
def adw n p0 p1:=(ajd n p0 p1 n (([]),0)).bind (LR.el (λs2=>some s2) λr=>some r)
def iQ(n)(p:Val)p1:=(adw n p.kids p1).bind λx1=>some ((x1.length)==(p.kids.length:Int))
def AO(n:Nat)(p:List Val)(r:F3t)(s1:(List Val)×Int):=cond (decide (s1.2<(p.length:Int))) ((idx p s1.2).bind λx3=>(idx x3.kids 0).bind λx4=>((app 56 s1.1 ([x4])).bind λx5=>r (x5,(s1.2+1)))) (some (.nx s1.1))
def ajb n p0 k:=aH (AO n p0) k
def zU n p0:=(mkS 56 p0.length).bind λx1=>(ajb n p0 n (([]:List Val),0)).bind (LR.el (λs2=>((jG n s2).bind λx2=>some x2)) (λr=>some r))
def y9(n:Nat)(p:List Val)(r:F3t)(s1:(List Val)×Int):=cond (decide (s1.2<(p.length:Int))) ((idx p s1.2).bind λx3=>(idx x3.kids 1).bind λx4=>((app 56 s1.1 ([x4])).bind λx5=>r (x5,(s1.2+1)))) (some (.nx s1.1))
def agB n p0 k:=aH (y9 n p0) k
def pX n p0:=(mkS 56 p0.length).bind λx1=>(agB n p0 n (([]:List Val),0)).bind (LR.el (λs2=>((jG n s2).bind λx2=>some x2)) (λr=>some r))
def wM(n)p1(p2)(p:List Val)(r:F2t)s1:=cond (decide (s1<(p.length:Int))) ((idx p s1).bind λx3=>(((idx x3.kids 0).bind λx4=>((fC n p1 x4).bind λx5=>(cond (!x5) (some true) ((idx x3.kids 1).bind λx6=>((fC n p2 x6).bind λx7=>some (!x7)))))):Option Bool).bind λs6=>(cond s6 (some (.rt false)) (r (s1+1)))) (some (.nx ()))
def aei n p1 p2 p3 k:=aH (wM n p1 p2 p3) k
def uP(n)(p:Int)p1(p2)p3:=(aei n p1 p2 p3 n 0).bind (LR.el (λs2=>((zU n p3).bind λx1=>((pX n p3).bind λx2=>(cond (p==41) (some true) (cond (p==42) (some ((x1.length:Int)==(p3.length:Int))) (cond (p==43) (((cond ((x1.length:Int)==(p3.length:Int)) (some ((x1.length:Int)==(p1.length:Int))) (some false)):Option Bool).bind λs3=>some s3) (cond (p==44) (((cond ((x1.length:Int)==(p3.length:Int)) (cond ((x1.length:Int)==(p1.length:Int)) (some ((x2.length:Int)==(p3.length:Int))) (some false)) (some false)):Option Bool).bind λs4=>some s4) (((cond ((x1.length:Int)==(p3.length:Int)) (cond ((x1.length:Int)==(p1.length:Int)) (cond ((x2.length:Int)==(p3.length:Int)) (some ((x2.length:Int)==(p2.length:Int))) (some false)) (some false)) (some false)):Option Bool).bind λs5=>some s5)))))))) λr=>some r)
def j4(n)(p:Val)p1(a:Str)(b:Int)(c:Int)(d:Str)(e:List Ty)(f:List Tm)p8(p9):=(uP n p1 p8 p9 p.kids).bind λx1=>some x1
def acM(n)p0(p1)(r:F3t)(s1:(List Val)×Int):=cond (decide (s1.2<(p0.length:Int))) ((((idx p0 s1.2).bind λx1=>((iV n x1 p1).bind λx2=>(cond x2 ((app 56 s1.1 ([x1])).bind λx3=>some x3) (some s1.1))))).bind λs3=>r (s3,(s1.2+1))) (some (.nx s1.1))
def aeC n p0 p1 k:=aH (acM n p0 p1) k
def Es n p0 p1:=(aeC n p0 p1 n (([]),0)).bind (LR.el (λs2=>some s2) λr=>some r)
def ac0(n)p0(p1)(r:F3t)(s1:(List Val)×Int):=cond (decide (s1.2<(p0.length:Int))) ((((idx p0 s1.2).bind λx1=>((iQ n x1 p1).bind λx2=>(cond x2 ((app 56 s1.1 ([x1])).bind λx3=>some x3) (some s1.1))))).bind λs3=>r (s3,(s1.2+1))) (some (.nx s1.1))
def aeU n p0 p1 k:=aH (ac0 n p0 p1) k
def Et n p0 p1:=(aeU n p0 p1 n (([]),0)).bind (LR.el (λs2=>some s2) λr=>some r)
def ac2(n)p0(p1)p2(p3)p4(p5)p6(p7)p8(p9)(r:F3t)(s1:(List Val)×Int):=cond (decide (s1.2<(p0.length:Int))) ((((idx p0 s1.2).bind λx1=>((j4 n x1 p1 p2 p3 p4 p5 p6 p7 p8 p9).bind λx2=>(cond x2 ((app 56 s1.1 ([x1])).bind λx3=>some x3) (some s1.1))))).bind λs3=>r (s3,(s1.2+1))) (some (.nx s1.1))
def ael n p0 p1 p2 p3 p4 p5 p6 p7 p8 p9 k:=aH (ac2 n p0 p1 p2 p3 p4 p5 p6 p7 p8 p9) k
def EC n p0 p1 p2 p3 p4 p5 p6 p7 p8 p9:=(ael n p0 p1 p2 p3 p4 p5 p6 p7 p8 p9 n (([]),0)).bind (LR.el (λs2=>some s2) λr=>some r)
def GJ(n:Nat)(p:Val)p1(a:Int)p3(b:List Val):=(idx p.kids 0).bind λx1=>(dz n x1 (Val.mk p1 a p3 b)).bind λx2=>some (x2==0)
def acy(n)p0(p1)p2(p3)p4(r:F3t)(s1:(List Val)×Int):=cond (decide (s1.2<(p0.length:Int))) ((((idx p0 s1.2).bind λx1=>((GJ n x1 p1 p2 p3 p4).bind λx2=>(cond x2 ((app 56 s1.1 ([x1])).bind λx3=>some x3) (some s1.1))))).bind λs3=>r (s3,(s1.2+1))) (some (.nx s1.1))
def ae0 n p0 p1 p2 p3 p4 k:=aH (acy n p0 p1 p2 p3 p4) k
def Xt n p0 p1 p2 p3 p4:=(ae0 n p0 p1 p2 p3 p4 n (([]),0)).bind (LR.el (λs2=>some s2) λr=>some r)
def GR(n:Nat)(b:Int)(p:Int)(a:Int):Option (PZ Val Unit):=(cond (b==21) ((iP n (IntKind.wrap .i64 (0 - p))).bind (PZ.el (λx1=>some (.ok x1)) (λ(e:Int) _=>some (.er e ())))) (cond (b==22) ((iP n (IntKind.wrap .i64 (p+a))).bind (PZ.el (λx2=>some (.ok x2)) (λ(c:Int) _=>some (.er c ())))) (cond (b==23) ((iP n (IntKind.wrap .i64 (p - a))).bind (PZ.el (λx3=>some (.ok x3)) (λ(d:Int) _=>some (.er d ())))) (cond (b==24) ((iP n (IntKind.wrap .i64 (p*a))).bind (PZ.el (λx4=>some (.ok x4)) (λ(f:Int) _=>some (.er f ())))) (cond (b==25) (cond (a==0) (some (.er 10 ())) ((arH p a).bind λx5=>((iP n x5).bind (PZ.el (λx6=>some (.ok x6)) (λ(g:Int) _=>some (.er g ())))))) (((cond (decide (p<0)) (some true) (some (decide (a<1)))):Option Bool).bind λs1=>(cond s1 (some (.er 10 ())) ((aeM p a).bind λx7=>((iP n x7).bind (PZ.el (λx8=>some (.ok x8)) (λ(h:Int) _=>some (.er h ()))))))))))))
def kN(n:Nat)(p:List (List Val))(r:(Int×Int)->Option (LR Int (List Val)))(s1:Int×Int):=cond (decide (s1.2<(p.length:Int))) ((idx p s1.2).bind λx4=>cond (decide ((IntKind.wrap .i64 (s1.1+(x4.length:Int)))<0)) none (r ((IntKind.wrap .i64 (s1.1+(x4.length:Int))),(s1.2+1)))) (some (.nx s1.1))
def vY n p0 k:=aH (kN n p0) k
def kP(n:Nat)p0(r:F3t)(s:(List Val)×Int):=cond (decide (s.2<(p0.length:Int))) ((idx p0 s.2).bind λx2=>(app 56 s.1 x2).bind λx3=>r (x3,(s.2+1))) (some (.nx s.1))
def vR n p0 k:=aH (kP n p0) k
def oh n p0:=(vY n p0 n (0,0)).bind (LR.el (λs2=>((Dz n s2).bind λx1=>((vR n p0 n (x1,0)).bind (LR.el (λs4=>some s4) (λr=>some r))))) λr=>some r)
def wh n p0 p1:=(fC n p1 p0).bind λx1=>some x1
def acQ(n)p0(p1)(r:F3t)(s1:(List Val)×Int):=cond (decide (s1.2<(p0.length:Int))) ((((idx p0 s1.2).bind λx1=>((wh n x1 p1).bind λx2=>(cond x2 ((app 56 s1.1 ([x1])).bind λx3=>some x3) (some s1.1))))).bind λs3=>r (s3,(s1.2+1))) (some (.nx s1.1))
def aeN n p0 p1 k:=aH (acQ n p0 p1) k
def XU n p0 p1:=(aeN n p0 p1 n (([]),0)).bind (LR.el (λs2=>some s2) λr=>some r)
def Sq n p0 p1:=(wh n p0 p1).bind λx1=>some !x1
def acF(n)p0(p1)(r:F3t)(s1:(List Val)×Int):=cond (decide (s1.2<(p0.length:Int))) ((((idx p0 s1.2).bind λx1=>((Sq n x1 p1).bind λx2=>(cond x2 ((app 56 s1.1 ([x1])).bind λx3=>some x3) (some s1.1))))).bind λs3=>r (s3,(s1.2+1))) (some (.nx s1.1))
def aez n p0 p1 k:=aH (acF n p0 p1) k
def XF n p0 p1:=(aez n p0 p1 n (([]),0)).bind (LR.el (λs2=>some s2) λr=>some r)
def J7(n:Nat)(p:Val)p1:=(idx p.kids 0).bind λx1=>(fC n p1 x1).bind λx2=>some (!x2)
def acS(n)p0(p1)(r:F3t)(s1:(List Val)×Int):=cond (decide (s1.2<(p0.length:Int))) ((((idx p0 s1.2).bind λx1=>((J7 n x1 p1).bind λx2=>(cond x2 ((app 56 s1.1 ([x1])).bind λx3=>some x3) (some s1.1))))).bind λs3=>r (s3,(s1.2+1))) (some (.nx s1.1))
def aeW n p0 p1 k:=aH (acS n p0 p1) k
def Xu n p0 p1:=(aeW n p0 p1 n (([]),0)).bind (LR.el (λs2=>some s2) λr=>some r)
def Sg n p0 p1:=(fC n p1 p0).bind λx1=>some x1
def Kw(n:Nat)(p:Val)p1:=(idx p.kids 0).bind λx1=>(Sg n x1 p1).bind λx2=>some x2
def acV(n)p0(p1)(r:F3t)(s1:(List Val)×Int):=cond (decide (s1.2<(p0.length:Int))) ((((idx p0 s1.2).bind λx1=>((Kw n x1 p1).bind λx2=>(cond x2 ((app 56 s1.1 ([x1])).bind λx3=>some x3) (some s1.1))))).bind λs3=>r (s3,(s1.2+1))) (some (.nx s1.1))
def aed n p0 p1 k:=aH (acV n p0 p1) k
def Xm n p0 p1:=(aed n p0 p1 n (([]),0)).bind (LR.el (λs2=>some s2) λr=>some r)
def Kt(n:Nat)(p:Val)p1:=(idx p.kids 0).bind λx1=>(Sg n x1 p1).bind λx2=>some (!x2)
def acr(n)p0(p1)(r:F3t)(s1:(List Val)×Int):=cond (decide (s1.2<(p0.length:Int))) ((((idx p0 s1.2).bind λx1=>((Kt n x1 p1).bind λx2=>(cond x2 ((app 56 s1.1 ([x1])).bind λx3=>some x3) (some s1.1))))).bind λs3=>r (s3,(s1.2+1))) (some (.nx s1.1))
def ae2 n p0 p1 k:=aH (acr n p0 p1) k
def Xg n p0 p1:=(ae2 n p0 p1 n (([]),0)).bind (LR.el (λs2=>some s2) λr=>some r)
def Kl(n:Nat)(p:Val)p1:=(idx p.kids 1).bind λx1=>(wh n x1 p1).bind λx2=>some x2
def aa1(n)p0(p1)(r:F3t)(s1:(List Val)×Int):=cond (decide (s1.2<(p0.length:Int))) ((((idx p0 s1.2).bind λx1=>((Kl n x1 p1).bind λx2=>(cond x2 ((app 56 s1.1 ([x1])).bind λx3=>some x3) (some s1.1))))).bind λs3=>r (s3,(s1.2+1))) (some (.nx s1.1))
def acs n p0 p1 k:=aH (aa1 n p0 p1) k
def TN n p0 p1:=(acs n p0 p1 n (([]),0)).bind (LR.el (λs2=>some s2) λr=>some r)
def KC(n:Nat)(p:Val)p1:=(idx p.kids 1).bind λx1=>(wh n x1 p1).bind λx2=>some (!x2)
def Zm(n)p0(p1)(r:F3t)(s1:(List Val)×Int):=cond (decide (s1.2<(p0.length:Int))) ((((idx p0 s1.2).bind λx1=>((KC n x1 p1).bind λx2=>(cond x2 ((app 56 s1.1 ([x1])).bind λx3=>some x3) (some s1.1))))).bind λs3=>r (s3,(s1.2+1))) (some (.nx s1.1))
def ac3 n p0 p1 k:=aH (Zm n p0 p1) k
def Tt n p0 p1:=(ac3 n p0 p1 n (([]),0)).bind (LR.el (λs2=>some s2) λr=>some r)
def yM(n)x1(x2)(r:F42t)(s:(List (List Val))×Int):=cond (decide (s.2<(x2.length:Int))) ((idx x2 s.2).bind λx3=>(ji n x3).bind λx4=>((app 56 x4 ([x1])).bind λx5=>((app 24 s.1 ([x5])).bind λx6=>r (x6,(s.2+1))))) (some (.nx s.1))
def Qy n x1 x2 k:=aH (yM n x1 x2) k
def yD(n)p0(e:F42t)(s1:(List (List Val))×Int):=cond (decide (s1.2<(p0.length:Int))) ((idx p0 s1.2).bind λx1=>(xA n s1.1).bind λx2=>((Qy n x1 x2 n (s1.1,0)).bind (LR.el (λs4=>e (s4,(s1.2+1))) (λr=>some (.rt r))))) (some (.nx s1.1))
def aic n p0 k:=aH (yD n p0) k
def GK n p0:=(aic n p0 n ([[]],0)).bind (LR.el (λs2=>some s2) λr=>some r)
def Ki(n:Nat)(p:Val)p1:=(idx p.kids 0).bind λx1=>(wh n x1 p1).bind λx2=>some x2
def abr(n)p0(p1)(r:F3t)(s1:(List Val)×Int):=cond (decide (s1.2<(p0.length:Int))) ((((idx p0 s1.2).bind λx1=>((Ki n x1 p1).bind λx2=>(cond x2 ((app 56 s1.1 ([x1])).bind λx3=>some x3) (some s1.1))))).bind λs3=>r (s3,(s1.2+1))) (some (.nx s1.1))
def acG n p0 p1 k:=aH (abr n p0 p1) k
def Uv n p0 p1:=(acG n p0 p1 n (([]),0)).bind (LR.el (λs2=>some s2) λr=>some r)
def LV(n:Nat)(p:Int)p1(a:Int):=(cond (p==45) (cond (p1 !=a) (some true) (cond (decide (44<=p)) (some (decide (a<p1))) (some false))) (cond (decide (44<=p)) (some (decide (a<p1))) (some false))).bind λs1=>some s1
def sQ(n:Nat)(p:Int)p1(a:Int)(e:(Int×Int)->Option (LR Unit Bool))(s1:Int×Int):=cond (decide (s1.2<p1)) (((cond (p==41) (cond (decide (8<a)) (some (.rt true)) ((Zi 1 a).bind λx2=>some (.nx x2))) (cond (p==42) (some (.nx (IntKind.wrap .i64 (a+1)))) (((cond (p==44) (some (p==44)) (some (p==45))):Option Bool).bind λs5=>(cond s5 (some (.nx (IntKind.wrap .i64 (a - s1.2)))) (some (.nx a)))))):Option (LR Int Bool)).bind (LR.el (λs3=>(cond (s3==0) (some (.rt false)) (((cond (decide (256<(IntKind.wrap .i64 (s1.1*s3)))) (cond (p !=43) (some true) (some (decide (0<a)))) (some false)):Option Bool).bind λs4=>(cond s4 (some (.rt true)) (e ((IntKind.wrap .i64 (s1.1*s3)),(s1.2+1))))))) (λr=>some (.rt r)))) (some (.nx ()))
def Gj n p0 p1 p2 k:=aH (sQ n p0 p1 p2) k
def BZ n p0 p1 p2:=(LV n p0 p1 p2).bind λx1=>cond x1 (some false) ((Gj n p0 p1 p2 n (1,0)).bind (LR.el (λs2=>some false) (λr=>some r)))
def nM(n:Nat)(qb8:F11t)(p0:Int)(p1:List Val)(p2:List Val)(p3:Int)(p4:List Val)(rec:F43t)(s7:Int×(List Val)):Option (LR (List Val) (List Val)):=(cond (decide (s7.1<(p4.length:Int))) ((((idx p4 s7.1).bind fun x13=>(((cond (decide (44≤p3)) ((pX n p1).bind fun x18=>((fC n x18 x13).bind fun x19=>some x19)) (some false)):Option Bool).bind fun s10=>(cond s10 (some s7.2) ((ji n p1).bind fun x14=>((idx p2 p0).bind fun x15=>((app 56 x14 ([(Val.mk 4 0 ([]:Str) ([x15,x13]))])).bind fun x16=>((qb8 (IntKind.wrap .i64 (p0+1)) x16 p2 p3 p4 s7.2).bind fun x17=>some x17))))))):Option (List Val)).bind fun s9=>rec ((s7.1+1),s9)) (some (.nx s7.2)))
def Y3(n:Nat)(qb8:F11t)(p0:Int)(p1:List Val)(p2:List Val)(p3:Int)(p4:List Val)(k:Nat):(Int×(List Val))→Option (LR (List Val) (List Val)):=aH (nM n qb8 p0 p1 p2 p3 p4) k
def rV(n:Nat)(qb8:F11t)(p0:Int)(p2:List Val)(x7:List Val)(rec:F3t)(s4:(List Val)×Int):Option (LR (List Val) (List Val)):=(cond (decide (s4.2<(x7.length:Int))) ((idx x7 s4.2).bind fun x10=>((idx p2 p0).bind fun x11=>((app 56 s4.1 ([(Val.mk 4 0 ([]:Str) ([x11,x10]))])).bind fun x12=>rec (x12,(s4.2+1))))) (some (.nx s4.1)))
def IJ(n:Nat)(qb8:F11t)(p0:Int)(p2:List Val)(x7:List Val)(k:Nat):((List Val)×Int)→Option (LR (List Val) (List Val)):=aH (rV n qb8 p0 p2 x7) k
def rH(n:Nat)(qb8:F11t)(p0:Int)(p1:List Val)(p2:List Val)(p3:Int)(p4:List Val)(x6:List (List Val))(rec:F43t)(s2:Int×(List Val)):Option (LR (List Val) (List Val)):=(cond (decide (s2.1<(x6.length:Int))) ((idx x6 s2.1).bind fun x7=>((ji n p1).bind fun x8=>((IJ n qb8 p0 p2 x7 n (x8,0)).bind (LR.el (fun s5=>((qb8 (IntKind.wrap .i64 (p0+1)) s5 p2 p3 p4 s2.2).bind fun x9=>rec ((s2.1+1),x9))) (fun r=>some (.rt r)))))) (some (.nx s2.2)))
def Yo(n:Nat)(qb8:F11t)(p0:Int)(p1:List Val)(p2:List Val)(p3:Int)(p4:List Val)(x6:List (List Val))(k:Nat):(Int×(List Val))→Option (LR (List Val) (List Val)):=aH (rH n qb8 p0 p1 p2 p3 p4 x6) k
def mE(n:Nat)(qb8:F11t)(p0:Int)(p1:List Val)(p2:List Val)(p3:Int)(p4:List Val)(p5:List Val):Option (List Val):=(cond (p0==(p2.length:Int)) ((((uP n p3 p2 p4 p1).bind fun x1=>(cond x1 ((jG n p1).bind fun x2=>((app 56 p5 ([(Val.mk 0 0 ([]:Str) ([]))])).bind fun x3=>((idx x3 (p5.length:Int)).bind fun x4=>((idx x3 (p5.length:Int)).bind fun x5=>some (upd x3 (p5.length:Int) (Val.mk 5 0 ([]:Str) x2)))))) (some p5))):Option (List Val)).bind fun s1=>some s1) (cond (p3==41) ((GK n p4).bind fun x6=>((Yo n qb8 p0 p1 p2 p3 p4 x6 n (0,p5)).bind (LR.el (fun s3=>some s3) (fun r=>some r)))) (((cond (p3==42) ((qb8 (IntKind.wrap .i64 (p0+1)) p1 p2 p3 p4 p5).bind fun x20=>some x20) (some p5)):Option (List Val)).bind fun s6=>((Y3 n qb8 p0 p1 p2 p3 p4 n (0,s6)).bind (LR.el (fun s8=>some s8) (fun r=>some r))))))
def gI:Nat->Int->List Val->List Val->Int->List Val->List Val->Option (List Val)|0,_,_,_,_,_,_=>none|n+1,p,a,b,c,d,e=>mE n (gI n) p a b c d e
def Cu(n:Nat)(p:Int)(a:List Val)(b:List Val):Option (PZ (List Val) Unit):=(BZ n p a.length b.length).bind λx1=>cond x1 (some (.er 11 ())) ((LV n p (a.length:Int) (b.length:Int)).bind λx2=>(cond x2 (some (.ok ([]:List Val))) ((some ():Option Unit).bind λs1=>((gI n 0 ([]:List Val) a p b ([]:List Val)).bind λx3=>some (.ok x3)))))
def Ez(n:Nat)(p1:Val)(rec:F12t)(s15:(List Val)×Int):Option (LR (List Val) (PZ Val Unit)):=(cond (decide (s15.2<(p1.kids.length:Int))) ((idx p1.kids s15.2).bind fun x30=>((idx x30.kids 1).bind fun x31=>((idx x30.kids 0).bind fun x32=>((app 56 s15.1 ([(Val.mk 4 0 ([]:Str) ([x31,x32]))])).bind fun x33=>rec (x33,(s15.2+1)))))) (some (.nx s15.1)))
def aaS n p1 k:=aH (Ez n p1) k
def EK(n:Nat)(x25:List (List Val))(rec:F12t)(s13:(List Val)×Int):Option (LR (List Val) (PZ Val Unit)):=(cond (decide (s13.2<(x25.length:Int))) ((idx x25 s13.2).bind fun x26=>((app 56 s13.1 ([(Val.mk 5 0 ([]:Str) x26)])).bind fun x27=>rec (x27,(s13.2+1)))) (some (.nx s13.1)))
def aaL n x25 k:=aH (EK n x25) k
def Ep(n:Nat)(p2:Val)(x13:Val)(rec:F12t)(s10:(List Val)×Int):Option (LR (List Val) (PZ Val Unit)):=(cond (decide (s10.2<(p2.kids.length:Int))) ((((idx p2.kids s10.2).bind fun x14=>((idx x13.kids 1).bind fun x15=>((idx x14.kids 0).bind fun x16=>((dz n x15 x16).bind fun x17=>(cond (x17==0) ((idx x13.kids 0).bind fun x18=>((idx x14.kids 1).bind fun x19=>((app 56 s10.1 ([(Val.mk 4 0 ([]:Str) ([x18,x19]))])).bind fun x20=>some x20))) (some s10.1)))))):Option (List Val)).bind fun s12=>rec (s12,(s10.2+1))) (some (.nx s10.1)))
def ZJ n p2 x13 k:=aH (Ep n p2 x13) k
def EJ(n:Nat)(p1:Val)(p2:Val)(rec:F12t)(s8:(List Val)×Int):Option (LR (List Val) (PZ Val Unit)):=(cond (decide (s8.2<(p1.kids.length:Int))) ((idx p1.kids s8.2).bind fun x13=>((ZJ n p2 x13 n (s8.1,0)).bind (LR.el (fun s11=>rec (s11,(s8.2+1))) (fun r=>some (.rt r))))) (some (.nx s8.1)))
def abb n p1 p2 k:=aH (EJ n p1 p2) k
def EA(n:Nat)(p2:Val)(x7:Val)(rec:F12t)(s6:(List Val)×Int):Option (LR (List Val) (PZ Val Unit)):=(cond (decide (s6.2<(p2.kids.length:Int))) ((idx p2.kids s6.2).bind fun x8=>((app 56 s6.1 ([(Val.mk 4 0 ([]:Str) ([x7,x8]))])).bind fun x9=>rec (x9,(s6.2+1)))) (some (.nx s6.1)))
def ZI n p2 x7 k:=aH (EA n p2 x7) k
def ED(n:Nat)(p1:Val)(p2:Val)(rec:F12t)(s4:(List Val)×Int):Option (LR (List Val) (PZ Val Unit)):=(cond (decide (s4.2<(p1.kids.length:Int))) ((idx p1.kids s4.2).bind fun x7=>((ZI n p2 x7 n (s4.1,0)).bind (LR.el (fun s7=>rec (s7,(s4.2+1))) (fun r=>some (.rt r))))) (some (.nx s4.1)))
def ZH n p1 p2 k:=aH (ED n p1 p2) k
def lU(n:Nat)(p2:Val)(rec:F12t)(s2:(List Val)×Int):Option (LR (List Val) (PZ Val Unit)):=(cond (decide (s2.2≤p2.n)) ((iP n s2.2).bind (PZ.el (fun x2=>((app 56 s2.1 ([x2])).bind fun x3=>rec (x3,(IntKind.wrap .i64 (s2.2+1))))) (fun(e2:Int) _=>some (.rt (.er e2 ()))))) (some (.nx s2.1)))
def Oq n p2 k:=aH (lU n p2) k
def Rh n p0 p1 p2:=(cond (p0==30) (cond (decide (256<=(IntKind.wrap .i64 (p2.n - p1.n)))) (some (.rt (.er 11 ()))) ((Oq n p2 n (([]:List Val),p1.n)).bind (LR.el (λs3=>some (.nx s3)) (λr=>some (.rt r))))) (cond (p0==31) ((oh n ([p1.kids,p2.kids])).bind λx4=>some (.nx x4)) (cond (p0==32) ((XU n p1.kids p2.kids).bind λx5=>some (.nx x5)) (cond (p0==33) ((XF n p1.kids p2.kids).bind λx6=>some (.nx x6)) (cond (p0==34) (cond (decide (256<(IntKind.wrap .i64 ((p1.kids.length:Int)*(p2.kids.length:Int))))) (some (.rt (.er 11 ()))) ((ZH n p1 p2 n (([]:List Val),0)).bind (LR.el (λs5=>some (.nx s5)) (λr=>some (.rt r))))) (cond (p0==35) ((zU n p2.kids).bind λx10=>((Xu n p1.kids x10).bind λx11=>((oh n ([x11,p2.kids])).bind λx12=>some (.nx x12)))) (cond (p0==36) ((abb n p1 p2 n (([]:List Val),0)).bind (LR.el (λs9=>some (.nx s9)) (λr=>some (.rt r)))) (cond (p0==37) ((Xm n p2.kids p1.kids).bind λx21=>some (.nx x21)) (cond (p0==38) ((Xg n p2.kids p1.kids).bind λx22=>some (.nx x22)) (cond (p0==39) ((TN n p1.kids p2.kids).bind λx23=>some (.nx x23)) (cond (p0==40) ((Tt n p1.kids p2.kids).bind λx24=>some (.nx x24)) (cond (p0==46) (cond (decide (8<(p1.kids.length:Int))) (some (.rt (.er 11 ()))) ((GK n p1.kids).bind λx25=>((aaL n x25 n (([]:List Val),0)).bind (LR.el (λs14=>some (.nx s14)) (λr=>some (.rt r)))))) (cond (p0==50) ((zU n p1.kids).bind λx28=>some (.nx x28)) (cond (p0==51) ((pX n p1.kids).bind λx29=>some (.nx x29)) (cond (p0==52) ((aaS n p1 n (([]:List Val),0)).bind (LR.el (λs16=>some (.nx s16)) (λr=>some (.rt r)))) (cond (p0==53) ((Uv n p1.kids p2.kids).bind λx34=>((pX n x34).bind λx35=>some (.nx x35))) ((Cu n p0 p1.kids p2.kids).bind (PZ.el (λx36=>some (.nx x36)) (λ(e:Int) _=>some (.rt (.er e ()))))))))))))))))))))).bind (LR.el (λs1=>((yK n s1).bind (PZ.el (λx1=>some (.ok x1)) (λ(a:Int) _=>some (.er a ()))))) (λr=>some r))
def nE(n:Nat)(p:Int)(a:Val)(b:Val):Option (PZ Val Unit):=(cond (p==3) ((bD n (a.n==0)).bind λx1=>some (.ok x1)) (cond (p==7) ((bD n (a.n==b.n)).bind λx2=>some (.ok x2)) (cond (p==10) ((dz n a b).bind λx3=>((bD n (x3==0)).bind λx4=>some (.ok x4))) (cond (p==11) ((dz n a b).bind λx5=>((bD n (x5 !=0)).bind λx6=>some (.ok x6))) (cond (p==12) ((bD n (decide (a.n<b.n))).bind λx7=>some (.ok x7)) (cond (p==13) ((bD n (decide (a.n<=b.n))).bind λx8=>some (.ok x8)) (cond (p==14) ((bD n (decide (b.n<a.n))).bind λx9=>some (.ok x9)) (cond (p==15) ((bD n (decide (b.n<=a.n))).bind λx10=>some (.ok x10)) (cond (p==27) (some (.ok (Val.mk 4 0 ([]:Str) ([a,b])))) (cond (p==54) ((Xt n a.kids b.kind b.n b.name b.kids).bind λx11=>(cond ((x11.length:Int)!=1) (some (.er 10 ())) ((idx x11 0).bind λx12=>((idx x12.kids 1).bind λx13=>some (.ok x13))))) (cond (decide (p<=26)) ((GR n p a.n b.n).bind (PZ.el (λx14=>some (.ok x14)) (λ(e:Int) _=>some (.er e ())))) (cond (p==47) ((iP n (a.kids.length:Int)).bind (PZ.el (λx15=>some (.ok x15)) (λ(c:Int) _=>some (.er c ())))) (((cond (p==48) (some (p==48)) (some (p==49))):Option Bool).bind λs1=>(cond s1 (cond ((a.kids.length:Int)==0) (some (.er 10 ())) (cond (p==48) ((idx a.kids 0).bind λx16=>some (.ok x16)) ((idx a.kids ((a.kids.length:Int) - 1)).bind λx17=>some (.ok x17)))) ((Rh n p a b).bind (PZ.el (λx18=>some (.ok x18)) (λ(d:Int) _=>some (.er d ()))))))))))))))))))
def pR(n:Nat)(qb4:F5t)(qb3:F1t)(qb2:F1t)(qb5:F6t)(qb1:F0t)(qb6:F0t)(qb7:F0t)(p0:List Carrier)(p1:List Decl)(p2:List Int)(p3:List (Str×Val))(p4:List Bound)(p5:Tm):Option (PZ (Int×Str×Int×Int×Str×(List Ty)×(List Tm)×(List Val)×(List Val)×(List Bound)) (List Bound)):=((wT n p5.op).bind fun x1=>(cond (!x1) ((qb6 p0 p1 p2 p3 p4 p5).bind (PZ.el (fun x2=>none) (fun(e1:Int) z1=>some (.er e1 z1)))) ((idx p5.kids 0).bind fun x3=>((qb6 p0 p1 p2 p3 p4 x3).bind (PZ.el (fun x4=>(cond (p5.op==46) none ((idx p5.kids 1).bind fun x5=>((qb6 p0 p1 p2 p3 x4.2 x5).bind (PZ.el (fun x6=>some (.ok (p5.op,p5.name,p5.n,p5.ty.kind,p5.ty.name,p5.ty.kids,p5.kids,x4.1.kids,x6.1.kids,x6.2))) (fun(e2:Int) z2=>some (.er e2 z2))))))) (fun(e3:Int) z3=>some (.er e3 z3)))))))
def pE(n:Nat)(qb4:F5t)(qb3:F1t)(qb2:F1t)(qb5:F6t)(qb1:F0t)(qb6:F0t)(qb7:F0t)(p0:List Carrier)(p1:List Decl)(p2:List Int)(p3:List (Str×Val))(p4:List Bound)(p5:Tm):Option (PZ ((List Val)×(List Bound)) (List Bound)):=((wT n p5.op).bind fun x1=>(cond (!x1) ((qb6 p0 p1 p2 p3 p4 p5).bind (PZ.el (fun x2=>none) (fun(e1:Int) z1=>some (.er e1 z1)))) ((idx p5.kids 0).bind fun x3=>((qb6 p0 p1 p2 p3 p4 x3).bind (PZ.el (fun x4=>(cond (p5.op==46) (some (.ok (x4.1.kids,x4.2))) ((idx p5.kids 1).bind fun x5=>((qb6 p0 p1 p2 p3 x4.2 x5).bind (PZ.el (fun x6=>none) (fun(e2:Int) z2=>some (.er e2 z2))))))) (fun(e3:Int) z3=>some (.er e3 z3)))))))
def pJ(n:Nat)(qb4:F5t)(qb3:F1t)(qb2:F1t)(qb5:F6t)(qb1:F0t)(qb6:F0t)(qb7:F0t)(p0:List Carrier)(p1:List Decl)(p2:List Int)(p3:List (Str×Val))(p4:List Bound)(p5:Tm):Option (PZ ((List Val)×(List Bound)) (List Bound)):=((wT n p5.op).bind fun x1=>(cond (!x1) ((qb6 p0 p1 p2 p3 p4 p5).bind (PZ.el (fun x2=>some (.ok (x2.1.kids,x2.2))) (fun(e1:Int) z1=>some (.er e1 z1)))) ((idx p5.kids 0).bind fun x3=>((qb6 p0 p1 p2 p3 p4 x3).bind (PZ.el (fun x4=>(cond (p5.op==46) none ((idx p5.kids 1).bind fun x5=>((qb6 p0 p1 p2 p3 x4.2 x5).bind (PZ.el (fun x6=>none) (fun(e2:Int) z2=>some (.er e2 z2))))))) (fun(e3:Int) z3=>some (.er e3 z3)))))))
def nO(n:Nat)(qb4:F5t)(qb3:F1t)(qb2:F1t)(qb5:F6t)(qb1:F0t)(qb6:F0t)(qb7:F0t)(p0:List Carrier)(p1:List Decl)(p2:List Int)(p3:List (Str×Val))(p5:Tm)(p6:Int)(p7:Str)(p8:Int)(p9:Int)(p10:Str)(p11:List Ty)(p12:List Tm)(x2:Val×(List Bound))(rec:(Int×Bool×Bool×(List Bound)×(List Val))→Option (LR (Bool×Bool×(List Bound)×(List Val)) (PZ ((List Bound)×(List Val)×Bool×Bool) ((List Bound)×(List Val)))))(s1:Int×Bool×Bool×(List Bound)×(List Val)):Option (LR (Bool×Bool×(List Bound)×(List Val)) (PZ ((List Bound)×(List Val)×Bool×Bool) ((List Bound)×(List Val)))):=(cond (decide (s1.1<(x2.1.kids.length:Int))) ((idx x2.1.kids s1.1).bind fun x5=>((idx s1.2.2.2.1 ((s1.2.2.2.1.length:Int) - 1)).bind fun x6=>((idx s1.2.2.2.1 ((s1.2.2.2.1.length:Int) - 1)).bind fun x7=>((idx p5.kids 1).bind fun x8=>((qb6 p0 p1 p2 p3 (upd s1.2.2.2.1 ((s1.2.2.2.1.length:Int) - 1) (Bound.mk x7.name x5)) x8).bind (PZ.el (fun x9=>((rR n x5 x9.1 p6 p7 p8 p9 p10 p11 p12 s1.2.2.2.2 s1.2.1 s1.2.2.1).bind fun x10=>rec ((s1.1+1),x10.2.1,x10.2.2,x9.2,x10.1))) (fun(e1:Int) z1=>some (.rt (.er e1 (z1,s1.2.2.2.2)))))))))) (some (.nx (s1.2.1,s1.2.2.1,s1.2.2.2.1,s1.2.2.2.2))))
def Ah(n:Nat)(qb4:F5t)(qb3:F1t)(qb2:F1t)(qb5:F6t)(qb1:F0t)(qb6:F0t)(qb7:F0t)(p0:List Carrier)(p1:List Decl)(p2:List Int)(p3:List (Str×Val))(p5:Tm)(p6:Int)(p7:Str)(p8:Int)(p9:Int)(p10:Str)(p11:List Ty)(p12:List Tm)(x2:Val×(List Bound))(k:Nat):(Int×Bool×Bool×(List Bound)×(List Val))→Option (LR (Bool×Bool×(List Bound)×(List Val)) (PZ ((List Bound)×(List Val)×Bool×Bool) ((List Bound)×(List Val)))):=aH (nO n qb4 qb3 qb2 qb5 qb1 qb6 qb7 p0 p1 p2 p3 p5 p6 p7 p8 p9 p10 p11 p12 x2) k
def xw(n:Nat)(qb4:F5t)(qb3:F1t)(qb2:F1t)(qb5:F6t)(qb1:F0t)(qb6:F0t)(qb7:F0t)(p0:List Carrier)(p1:List Decl)(p2:List Int)(p3:List (Str×Val))(p4:List Bound)(p5:Tm)(p6:Int)(p7:Str)(p8:Int)(p9:Int)(p10:Str)(p11:List Ty)(p12:List Tm)(p13:List Val)(p14:Bool)(p15:Bool):Option (PZ ((List Bound)×(List Val)×Bool×Bool) ((List Bound)×(List Val))):=((idx p5.kids 0).bind fun x1=>((qb6 p0 p1 p2 p3 p4 x1).bind (PZ.el (fun x2=>((app 72 x2.2 ([(Bound.mk p5.name (Val.mk 0 0 ([]:Str) ([])))])).bind fun x3=>((Ah n qb4 qb3 qb2 qb5 qb1 qb6 qb7 p0 p1 p2 p3 p5 p6 p7 p8 p9 p10 p11 p12 x2 n (0,p14,p15,x3,p13)).bind (LR.el (fun s2=>((Dw (List.length s2.2.2.1) ((s2.2.2.1.length:Int) - 1)).bind fun x4=>(cond (Nat.ble x4 (List.length s2.2.2.1)) (some (.ok ((List.take x4 s2.2.2.1),s2.2.2.2,s2.1,s2.2.1))) none))) (fun r=>some r))))) (fun(e2:Int) z2=>some (.er e2 (z2,p13))))))
def uG(n:Nat)(qb4:F5t)(qb3:F1t)(qb2:F1t)(qb5:F6t)(qb1:F0t)(qb6:F0t)(qb7:F0t)(p0:List Carrier)(p1:List Decl)(p2:List Int)(p3:List (Str×Val))(p4:List Bound)(p5:Tm):Option (PZ (Val×(List Bound)) (List Bound)):=((some ():Option Unit).bind fun s1=>((qb5 p0 p1 p2 p3 p4 p5 p5.op p5.name p5.n p5.ty.kind p5.ty.name p5.ty.kids p5.kids ([]:List Val) false true).bind (PZ.el (fun x1=>(cond (p5.op==8) ((bD n x1.2.2.2).bind fun x2=>some (.ok (x2,x1.1))) (cond (p5.op==9) ((bD n x1.2.2.1).bind fun x3=>some (.ok (x3,x1.1))) ((yK n x1.2.1).bind (PZ.el (fun x4=>some (.ok (x4,x1.1))) (fun(e1:Int) _=>some (.er e1 x1.1))))))) (fun(e2:Int) z2=>some (.er e2 z2.1)))))
def fE(n:Nat)(qb4:F5t)(qb3:F1t)(qb2:F1t)(qb5:F6t)(qb1:F0t)(qb6:F0t)(qb7:F0t)(p0:List Carrier)(p1:List Decl)(p2:List Int)(p3:List (Str×Val))(p5:Tm)(rec:(Int×Int×Int×Str×(List Val)×Int×Int×Str×(List Val)×(List Bound))→Option (LR (Int×Int×Str×(List Val)×Int×Int×Str×(List Val)×(List Bound)) (PZ (Val×(List Bound)) (List Bound))))(s7:Int×Int×Int×Str×(List Val)×Int×Int×Str×(List Val)×(List Bound)):Option (LR (Int×Int×Str×(List Val)×Int×Int×Str×(List Val)×(List Bound)) (PZ (Val×(List Bound)) (List Bound))):=(cond (decide (s7.1<(p5.kids.length:Int))) ((((idx p5.kids s7.1).bind fun x35=>((qb6 p0 p1 p2 p3 s7.2.2.2.2.2.2.2.2.2 x35).bind (PZ.el (fun x36=>(cond (s7.1==0) (some (.nx (x36.1.kind,x36.1.n,x36.1.name,x36.1.kids,s7.2.2.2.2.2.1,s7.2.2.2.2.2.2.1,s7.2.2.2.2.2.2.2.1,s7.2.2.2.2.2.2.2.2.1,x36.2))) (cond (s7.1==1) (some (.nx (s7.2.1,s7.2.2.1,s7.2.2.2.1,s7.2.2.2.2.1,x36.1.kind,x36.1.n,x36.1.name,x36.1.kids,x36.2))) none))) (fun(e16:Int) z16=>some (.rt (.er e16 z16)))))):Option (LR (Int×Int×Str×(List Val)×Int×Int×Str×(List Val)×(List Bound)) (PZ (Val×(List Bound)) (List Bound)))).bind (LR.el (fun s9=>rec ((s7.1+1),s9.1,s9.2.1,s9.2.2.1,s9.2.2.2.1,s9.2.2.2.2.1,s9.2.2.2.2.2.1,s9.2.2.2.2.2.2.1,s9.2.2.2.2.2.2.2.1,s9.2.2.2.2.2.2.2.2)) (fun r=>some (.rt r)))) (some (.nx (s7.2.1,s7.2.2.1,s7.2.2.2.1,s7.2.2.2.2.1,s7.2.2.2.2.2.1,s7.2.2.2.2.2.2.1,s7.2.2.2.2.2.2.2.1,s7.2.2.2.2.2.2.2.2.1,s7.2.2.2.2.2.2.2.2.2))))
def Io(n:Nat)(qb4:F5t)(qb3:F1t)(qb2:F1t)(qb5:F6t)(qb1:F0t)(qb6:F0t)(qb7:F0t)(p0:List Carrier)(p1:List Decl)(p2:List Int)(p3:List (Str×Val))(p5:Tm)(k:Nat):(Int×Int×Int×Str×(List Val)×Int×Int×Str×(List Val)×(List Bound))→Option (LR (Int×Int×Str×(List Val)×Int×Int×Str×(List Val)×(List Bound)) (PZ (Val×(List Bound)) (List Bound))):=aH (fE n qb4 qb3 qb2 qb5 qb1 qb6 qb7 p0 p1 p2 p3 p5) k
def nD(n:Nat)(qb4:F5t)(qb3:F1t)(qb2:F1t)(qb5:F6t)(qb1:F0t)(qb6:F0t)(qb7:F0t)(p0:List Carrier)(p1:List Decl)(p2:List Int)(p3:List (Str×Val))(p5:Tm)(rec:((List Val)×Int×(List Bound))→Option (LR ((List Val)×(List Bound)) (PZ (Val×(List Bound)) (List Bound))))(s5:(List Val)×Int×(List Bound)):Option (LR ((List Val)×(List Bound)) (PZ (Val×(List Bound)) (List Bound))):=(cond (decide (s5.2.1<(p5.kids.length:Int))) ((idx p5.kids s5.2.1).bind fun x31=>((qb6 p0 p1 p2 p3 s5.2.2 x31).bind (PZ.el (fun x32=>((app 56 s5.1 ([x32.1])).bind fun x33=>rec (x33,(s5.2.1+1),x32.2))) (fun(e14:Int) z14=>some (.rt (.er e14 z14)))))) (some (.nx (s5.1,s5.2.2))))
def Iu(n:Nat)(qb4:F5t)(qb3:F1t)(qb2:F1t)(qb5:F6t)(qb1:F0t)(qb6:F0t)(qb7:F0t)(p0:List Carrier)(p1:List Decl)(p2:List Int)(p3:List (Str×Val))(p5:Tm)(k:Nat):((List Val)×Int×(List Bound))→Option (LR ((List Val)×(List Bound)) (PZ (Val×(List Bound)) (List Bound))):=aH (nD n qb4 qb3 qb2 qb5 qb1 qb6 qb7 p0 p1 p2 p3 p5) k
def qh(n:Nat)(qb4:F5t)(qb3:F1t)(qb2:F1t)(qb5:F6t)(qb1:F0t)(qb6:F0t)(qb7:F0t)(p0:List Carrier)(p1:List Decl)(p2:List Int)(p3:List (Str×Val))(p4:List Bound)(p5:Tm):Option (PZ (Val×(List Bound)) (List Bound)):=(((cond (p5.op==1) (some (p5.op==1)) (some (p5.op==2))):Option Bool).bind fun s1=>(cond s1 ((bD n (p5.op==1)).bind fun x1=>some (.ok (x1,p4))) (cond (p5.op==19) ((iP n p5.n).bind (PZ.el (fun x2=>some (.ok (x2,p4))) (fun(e1:Int) _=>some (.er e1 p4)))) (cond (p5.op==20) ((mq n p0 p1 p2 p3 p4 p5.name).bind (PZ.el (fun x3=>some (.ok (x3,p4))) (fun(e2:Int) _=>some (.er e2 p4)))) (cond (p5.op==29) (some (.ok ((Val.mk 5 0 ([]:Str) ([])),p4))) (((cond (p5.op==4) (some (p5.op==4)) (cond (p5.op==5) (some (p5.op==5)) (some (p5.op==6)))):Option Bool).bind fun s2=>(cond s2 ((qb7 p0 p1 p2 p3 p4 p5).bind (PZ.el (fun x4=>some (.ok (x4.1,x4.2))) (fun(e3:Int) z3=>some (.er e3 z3)))) (((cond (p5.op==8) (some (p5.op==8)) (cond (p5.op==9) (some (p5.op==9)) (cond (p5.op==55) (some (p5.op==55)) (some (p5.op==56))))):Option Bool).bind fun s3=>(cond s3 ((qb1 p0 p1 p2 p3 p4 p5).bind (PZ.el (fun x5=>some (.ok (x5.1,x5.2))) (fun(e4:Int) z4=>some (.er e4 z4)))) (((cond (p5.op==16) (some (p5.op==16)) (some (p5.op==17))):Option Bool).bind fun s4=>(cond s4 ((idx p5.kids 0).bind fun x6=>((qb6 p0 p1 p2 p3 p4 x6).bind (PZ.el (fun x7=>((idx p5.kids 1).bind fun x8=>(cond (decide (x8.op<41) ||decide (46<x8.op)) ((qb2 p0 p1 p2 p3 x7.2 x8).bind (PZ.el (fun x9=>((iV n x7.1 x9.1).bind fun x10=>((bD n (x10==(p5.op==16))).bind fun x11=>some (.ok (x11,x9.2))))) (fun(e5:Int) z5=>some (.er e5 z5)))) (cond (x8.op==46) ((qb3 p0 p1 p2 p3 x7.2 x8).bind (PZ.el (fun x12=>((iQ n x7.1 x12.1).bind fun x13=>((bD n (x13==(p5.op==16))).bind fun x14=>some (.ok (x14,x12.2))))) (fun(e6:Int) z6=>some (.er e6 z6)))) ((qb4 p0 p1 p2 p3 x7.2 x8).bind (PZ.el (fun x15=>((j4 n x7.1 x15.1 x15.2.1 x15.2.2.1 x15.2.2.2.1 x15.2.2.2.2.1 x15.2.2.2.2.2.1 x15.2.2.2.2.2.2.1 x15.2.2.2.2.2.2.2.1 x15.2.2.2.2.2.2.2.2.1).bind fun x16=>((bD n (x16==(p5.op==16))).bind fun x17=>some (.ok (x17,x15.2.2.2.2.2.2.2.2.2))))) (fun(e7:Int) z7=>some (.er e7 z7)))))))) (fun(e8:Int) z8=>some (.er e8 z8))))) (cond (p5.op==18) ((idx p5.kids 0).bind fun x18=>((qb6 p0 p1 p2 p3 p4 x18).bind (PZ.el (fun x19=>((idx p5.kids 1).bind fun x20=>(cond (decide (x20.op<41) ||decide (46<x20.op)) ((qb2 p0 p1 p2 p3 x19.2 x20).bind (PZ.el (fun x21=>((Es n x19.1.kids x21.1).bind fun x22=>((bD n ((x22.length:Int)==(x19.1.kids.length:Int))).bind fun x23=>some (.ok (x23,x21.2))))) (fun(e9:Int) z9=>some (.er e9 z9)))) (cond (x20.op==46) ((qb3 p0 p1 p2 p3 x19.2 x20).bind (PZ.el (fun x24=>((Et n x19.1.kids x24.1).bind fun x25=>((bD n ((x25.length:Int)==(x19.1.kids.length:Int))).bind fun x26=>some (.ok (x26,x24.2))))) (fun(e10:Int) z10=>some (.er e10 z10)))) ((qb4 p0 p1 p2 p3 x19.2 x20).bind (PZ.el (fun x27=>((EC n x19.1.kids x27.1 x27.2.1 x27.2.2.1 x27.2.2.2.1 x27.2.2.2.2.1 x27.2.2.2.2.2.1 x27.2.2.2.2.2.2.1 x27.2.2.2.2.2.2.2.1 x27.2.2.2.2.2.2.2.2.1).bind fun x28=>((bD n ((x28.length:Int)==(x19.1.kids.length:Int))).bind fun x29=>some (.ok (x29,x27.2.2.2.2.2.2.2.2.2))))) (fun(e11:Int) z11=>some (.er e11 z11)))))))) (fun(e12:Int) z12=>some (.er e12 z12))))) (cond (p5.op==28) ((Iu n qb4 qb3 qb2 qb5 qb1 qb6 qb7 p0 p1 p2 p3 p5 n (([]:List Val),0,p4)).bind (LR.el (fun s6=>((yK n s6.1).bind (PZ.el (fun x30=>some (.ok (x30,s6.2))) (fun(e13:Int) _=>some (.er e13 s6.2))))) (fun r=>some r))) ((Io n qb4 qb3 qb2 qb5 qb1 qb6 qb7 p0 p1 p2 p3 p5 n (0,0,0,([]:Str),([]:List Val),0,0,([]:Str),([]:List Val),p4)).bind (LR.el (fun s8=>((nE n p5.op (Val.mk s8.1 s8.2.1 s8.2.2.1 s8.2.2.2.1) (Val.mk s8.2.2.2.2.1 s8.2.2.2.2.2.1 s8.2.2.2.2.2.2.1 s8.2.2.2.2.2.2.2.1)).bind (PZ.el (fun x34=>some (.ok (x34,s8.2.2.2.2.2.2.2.2))) (fun(e15:Int) _=>some (.er e15 s8.2.2.2.2.2.2.2.2))))) (fun r=>some r))))))))))))))))
def rJ(n:Nat)(qb4:F5t)(qb3:F1t)(qb2:F1t)(qb5:F6t)(qb1:F0t)(qb6:F0t)(qb7:F0t)(p0:List Carrier)(p1:List Decl)(p2:List Int)(p3:List (Str×Val))(p4:List Bound)(p5:Tm):Option (PZ (Val×(List Bound)) (List Bound)):=((idx p5.kids 0).bind fun x1=>((qb6 p0 p1 p2 p3 p4 x1).bind (PZ.el (fun x2=>(((cond (p5.op==4) (some (!(x2.1.n==1))) (some false)):Option Bool).bind fun s1=>(cond s1 ((bD n false).bind fun x3=>some (.ok (x3,x2.2))) (((((cond (p5.op==5) (some (x2.1.n==1)) (some false)):Option Bool).bind fun s3=>(cond s3 (some s3) (cond (p5.op==6) (some (!(x2.1.n==1))) (some false)))):Option Bool).bind fun s2=>(cond s2 ((bD n true).bind fun x4=>some (.ok (x4,x2.2))) ((idx p5.kids 1).bind fun x5=>((qb6 p0 p1 p2 p3 x2.2 x5).bind (PZ.el (fun x6=>some (.ok (x6.1,x6.2))) (fun(e1:Int) z1=>some (.er e1 z1)))))))))) (fun(e2:Int) z2=>some (.er e2 z2)))))
mutual
def bA:Nat→(List Carrier)→(List Decl)→(List Int)→(List (Str×Val))→(List Bound)→Tm→Option (PZ (Int×Str×Int×Int×Str×(List Ty)×(List Tm)×(List Val)×(List Val)×(List Bound)) (List Bound))
 |0,_,_,_,_,_,_=>none
 |n+1,p0,p1,p2,p3,p4,p5=>pR n (bA n) (bq n) (bB n) (bR n) (bZ n) (aI n) (bU n) p0 p1 p2 p3 p4 p5
def bq:Nat→(List Carrier)→(List Decl)→(List Int)→(List (Str×Val))→(List Bound)→Tm→Option (PZ ((List Val)×(List Bound)) (List Bound))
 |0,_,_,_,_,_,_=>none
 |n+1,p0,p1,p2,p3,p4,p5=>pE n (bA n) (bq n) (bB n) (bR n) (bZ n) (aI n) (bU n) p0 p1 p2 p3 p4 p5
def bB:Nat→(List Carrier)→(List Decl)→(List Int)→(List (Str×Val))→(List Bound)→Tm→Option (PZ ((List Val)×(List Bound)) (List Bound))
 |0,_,_,_,_,_,_=>none
 |n+1,p0,p1,p2,p3,p4,p5=>pJ n (bA n) (bq n) (bB n) (bR n) (bZ n) (aI n) (bU n) p0 p1 p2 p3 p4 p5
def bR:Nat→(List Carrier)→(List Decl)→(List Int)→(List (Str×Val))→(List Bound)→Tm→Int→Str→Int→Int→Str→(List Ty)→(List Tm)→(List Val)→Bool→Bool→Option (PZ ((List Bound)×(List Val)×Bool×Bool) ((List Bound)×(List Val)))
 |0,_,_,_,_,_,_,_,_,_,_,_,_,_,_,_,_=>none
 |n+1,p0,p1,p2,p3,p4,p5,p6,p7,p8,p9,p10,p11,p12,p13,p14,p15=>xw n (bA n) (bq n) (bB n) (bR n) (bZ n) (aI n) (bU n) p0 p1 p2 p3 p4 p5 p6 p7 p8 p9 p10 p11 p12 p13 p14 p15
def bZ:Nat→(List Carrier)→(List Decl)→(List Int)→(List (Str×Val))→(List Bound)→Tm→Option (PZ (Val×(List Bound)) (List Bound))
 |0,_,_,_,_,_,_=>none
 |n+1,p0,p1,p2,p3,p4,p5=>uG n (bA n) (bq n) (bB n) (bR n) (bZ n) (aI n) (bU n) p0 p1 p2 p3 p4 p5
def aI:Nat→(List Carrier)→(List Decl)→(List Int)→(List (Str×Val))→(List Bound)→Tm→Option (PZ (Val×(List Bound)) (List Bound))
 |0,_,_,_,_,_,_=>none
 |n+1,p0,p1,p2,p3,p4,p5=>qh n (bA n) (bq n) (bB n) (bR n) (bZ n) (aI n) (bU n) p0 p1 p2 p3 p4 p5
def bU:Nat→(List Carrier)→(List Decl)→(List Int)→(List (Str×Val))→(List Bound)→Tm→Option (PZ (Val×(List Bound)) (List Bound))
 |0,_,_,_,_,_,_=>none
 |n+1,p0,p1,p2,p3,p4,p5=>rJ n (bA n) (bq n) (bB n) (bR n) (bZ n) (aI n) (bU n) p0 p1 p2 p3 p4 p5
end
def ql n p0 p1 p2 p3 p4 p5:=(aI n p0 p1 p2 p3 p4 p5).bind (PZ.el (λx=>some (x.1,0,x.2)) λe z=>bif decide ((0:Int)<=e)&&decide (e<=1000)then((Dw (List.length z) (List.length p4:Int)).bind λc=>bif Nat.ble c (List.length z)then some (Val.mk 0 0 ([]:Str) [],e,List.take c z)else none)else none)
def Az(n:Nat)(q:F36t)(x:List Val)(r:(Int×(List Val))->Option (LR (List Val) Val))(s1:Int×(List Val)):=cond (decide (s1.1<(x.length:Int))) ((idx s1.2 s1.1).bind λx3=>(idx s1.2 s1.1).bind λx4=>((q x4).bind λx5=>((idx s1.2 s1.1).bind λx6=>((idx s1.2 s1.1).bind λx7=>r ((s1.1+1),(upd s1.2 s1.1 x5)))))) (some (.nx s1.2))
def Cm n qby x1 k:=aH (Az n qby x1) k
def Fb(n:Nat)qby(p:Val):=(AY n p.kids).bind λx1=>(wQ n x1).bind λx2=>((Cm n qby x1 n (0,x1)).bind (LR.el (λs2=>some (Val.mk p.kind p.n p.name s2)) (λr=>some r)))
def rZ:Nat->Val->Option Val|0,_=>none|n+1,p=>Fb n (rZ n) p
def lg n p0 p1:=((uW n p0).bind λx5=>(cond (!x5) (some true) ((GQ n p1).bind λx6=>some (!x6)))).bind λs1=>cond s1 (some ((Val.mk 0 0 ([]:Str) ([])),1)) ((zI n p0.env p1).bind λx1=>(cond (x1.2.2 !=0) (some ((Val.mk 0 0 ([]:Str) ([])),x1.2.2)) ((Kn n p0).bind λx2=>((ql n x2.1 x2.2.1 x2.2.2.1 x2.2.2.2.1 x2.2.2.2.2 p1).bind λx3=>((rZ n x3.1).bind λx4=>some (x4,x3.2.1))))))
def ae8(n:Nat)(q:F37t)(p:Ty)(r:F2t)s1:=cond (decide (s1<(p.kids.length:Int))) ((idx p.kids s1).bind λx1=>(q x1).bind λx2=>(cond x2 (some (.rt true)) (r (s1+1)))) (some (.nx ()))
def QA n qbh p0 k:=aH (ae8 n qbh p0) k
def Dv n qbh p0:=cond (p0.kind==2) (some true) ((QA n qbh p0 n 0).bind (LR.el (λs2=>some false) (λr=>some r)))
def tK:Nat->Ty->Option Bool|0,_=>none|n+1,p=>Dv n (tK n) p
def agq(n:Nat)(qbf:F38t)(p0:Ty)(rec:F19t)(s1:(List Str)×Int):Option (LR (List Str) (List Str)):=(cond (decide (s1.2<(p0.kids.length:Int))) ((idx p0.kids s1.2).bind fun x1=>((qbf x1).bind fun x2=>((app 16 s1.1 x2).bind fun x3=>rec (x3,(s1.2+1))))) (some (.nx s1.1)))
def TY n qbf p0 k:=aH (agq n qbf p0) k
def E5 n qbf p0:=cond (p0.kind==3) (some [p0.name]) ((TY n qbf p0 n (([]:List Str),0)).bind (LR.el (λs2=>some s2) (λr=>some r)))
def zT:Nat->Ty->Option (List Str)|0,_=>none|n+1,p=>E5 n (zT n) p
def aaD(n:Nat)(p0:Env)(p1:Str)(rec:F4t)(s1:Int):Option (LR Unit Int):=(cond (decide (s1<(p0.carriers.length:Int))) ((idx p0.carriers s1).bind fun x1=>(cond (x1.name==p1) (some (.rt s1)) (rec (s1+1)))) (some (.nx ())))
def MI n p0 p1 k:=aH (aaD n p0 p1) k
def mH n p0 p1:=(MI n p0 p1 n 0).bind (LR.el (λs2=>some (-1)) λr=>some r)
def ao2(n)p0(x1)(r:F2t)s1:=cond (decide (s1<(x1.length:Int))) ((idx x1 s1).bind λx2=>(mH n p0 x2).bind λx3=>(cond (decide (x3<0)) (some (.rt false)) (r (s1+1)))) (some (.nx ()))
def adi n p0 x1 k:=aH (ao2 n p0 x1) k
def Jp n p0 p1:=(zT n p1).bind λx1=>(adi n p0 x1 n 0).bind (LR.el (λs2=>some true) (λr=>some r))
def agk(n:Nat)(p0:Env)(rec:F19t)(s1:(List Str)×Int):Option (LR (List Str) (List Str)):=(cond (decide (s1.2<(p0.carriers.length:Int))) ((idx p0.carriers s1.2).bind fun x5=>((app 16 s1.1 ([x5.name])).bind fun x6=>rec (x6,(s1.2+1)))) (some (.nx s1.1)))
def Un n p0 k:=aH (agk n p0) k
def aij(n:Nat)(p0:Env)(rec:F19t)(s3:(List Str)×Int):Option (LR (List Str) (List Str)):=(cond (decide (s3.2<(p0.carriers.length:Int))) ((idx p0.carriers s3.2).bind fun x3=>((app 16 s3.1 x3.elems).bind fun x4=>rec (x4,(s3.2+1)))) (some (.nx s3.1)))
def Tw n p0 k:=aH (aij n p0) k
def af8(n:Nat)(p0:Env)(rec:F19t)(s5:(List Str)×Int):Option (LR (List Str) (List Str)):=(cond (decide (s5.2<(p0.names.length:Int))) ((idx p0.names s5.2).bind fun x1=>((app 16 s5.1 ([x1.name])).bind fun x2=>rec (x2,(s5.2+1)))) (some (.nx s5.1)))
def Uu n p0 k:=aH (af8 n p0) k
def J6 n p0:=(Un n p0 n (([]),0)).bind (LR.el (λs2=>((Tw n p0 n (s2,0)).bind (LR.el (λs4=>((Uu n p0 n (s4,0)).bind (LR.el (λs6=>some s6) (λr=>some r)))) (λr=>some r)))) λr=>some r)
def ag2(n)(x:Carrier)(r:F2t)s10:=cond (decide (s10<(x.elems.length:Int))) ((idx x.elems s10).bind λx11=>(gZ n x11).bind λx12=>(cond (!x12) (some (.rt false)) (r (s10+1)))) (some (.nx ()))
def Cq n x10 k:=aH (ag2 n x10) k
def agl(n)(p:Env)(e:F2t)s2:=cond (decide (s2<(p.carriers.length:Int))) ((idx p.carriers s2).bind λx10=>(((gZ n x10.name).bind λx13=>(cond (!x13) (some true) (some (decide (8<(x10.elems.length:Int)))))):Option Bool).bind λs9=>(cond s9 (some (.rt false)) ((Cq n x10 n 0).bind (LR.el (λs11=>e (s2+1)) (λr=>some (.rt r)))))) (some (.nx ()))
def Tj n p0 k:=aH (agl n p0) k
def agL(n)p0(r:F2t)s4:=cond (decide (s4<(p0.names.length:Int))) ((idx p0.names s4).bind λx5=>(((JO n x5.name).bind λx6=>(cond (!x6) (some true) ((sZ n x5.ty).bind λx7=>(cond (!x7) (some true) ((tK n x5.ty).bind λx8=>(cond x8 (some true) ((Jp n p0 x5.ty).bind λx9=>some (!x9)))))))):Option Bool).bind λs8=>(cond s8 (some (.rt false)) (r (s4+1)))) (some (.nx ()))
def Uh n p0 k:=aH (agL n p0) k
def ag4(n)x1(r:F2t)s6:=cond (decide (s6<(x1.length:Int))) ((idx x1 s6).bind λx2=>(jM x1 0 s6).bind λx3=>((J9 n x2 x3).bind λx4=>(cond x4 (some (.rt false)) (r (s6+1))))) (some (.nx ()))
def IX n x1 k:=aH (ag4 n x1) k
def zV n p0:=(cond (decide (8<(p0.carriers.length:Int))) (some true) (some (decide (64<(p0.names.length:Int))))).bind λs1=>cond s1 (some false) ((Tj n p0 n 0).bind (LR.el (λs3=>((Uh n p0 n 0).bind (LR.el (λs5=>((J6 n p0).bind λx1=>((IX n x1 n 0).bind (LR.el (λs7=>some true) (λr=>some r))))) (λr=>some r)))) (λr=>some r)))
def J8(n:Nat)(p0:Env)(p1:List Int)(rec:F2t)(s1:Int):Option (LR Unit Bool):=(cond (decide (s1<(p1.length:Int))) ((idx p0.carriers s1).bind fun x1=>((((idx p1 s1).bind fun x2=>(cond (decide (x2<1)) (some true) ((idx p1 s1).bind fun x3=>(cond (decide (8<x3)) (some true) (cond (decide (0<(x1.elems.length:Int))) ((idx p1 s1).bind fun x4=>some (x4 !=(x1.elems.length:Int))) (some false)))))):Option Bool).bind fun s3=>(cond s3 (some (.rt false)) (rec (s1+1))))) (some (.nx ())))
def NM(n:Nat)(p0:Env)(p1:List Int)(k:Nat):Int→Option (LR Unit Bool):=aH (J8 n p0 p1) k
def TW(n:Nat)(p0:Env)(p1:List Int):Option Bool:=(cond ((p1.length:Int)!=(p0.carriers.length:Int)) (some false) ((NM n p0 p1 n 0).bind (LR.el (fun s2=>some true) (fun r=>some r))))
def Jb(n:Nat)(p0:Int)(p1:Int):Option Int:=(cond (decide (p0<p1)) (some (-1)) (cond (decide (p1<p0)) (some 1) (some 0)))
def xR(n:Nat)(qbj:F9t)(p0:Val)(p1:Val)(rec:F4t)(s1:Int):Option (LR Unit Int):=(((cond (decide (s1<(p0.kids.length:Int))) (some (decide (s1<(p1.kids.length:Int)))) (some false)):Option Bool).bind fun s3=>(cond s3 ((idx p0.kids s1).bind fun x4=>((idx p1.kids s1).bind fun x5=>((qbj x4 x5).bind fun x6=>(cond (x6 !=0) (some (.rt x6)) (rec (IntKind.wrap .i64 (s1+1))))))) (some (.nx ()))))
def Eu(n:Nat)(qbj:F9t)(p0:Val)(p1:Val)(k:Nat):Int→Option (LR Unit Int):=aH (xR n qbj p0 p1) k
def HV(n:Nat)(qbj:F9t)(p0:Val)(p1:Val):Option Int:=(cond (p0.kind !=p1.kind) ((Jb n p0.kind p1.kind).bind fun x1=>some x1) (cond (p0.n !=p1.n) ((Jb n p0.n p1.n).bind fun x2=>some x2) (cond (Op.bytesLess p0.name p1.name) (some (-1)) (cond (!(Op.bytesLess p0.name p1.name ||p0.name==p1.name)) (some 1) ((Eu n qbj p0 p1 n 0).bind (LR.el (fun s2=>((Jb n (p0.kids.length:Int) (p1.kids.length:Int)).bind fun x3=>some x3)) (fun r=>some r)))))))
def lT:Nat→Val→Val→Option Int
 |0,_,_=>none
 |n+1,p0,p1=>HV n (lT n) p0 p1
def Co(n:Nat)(qbu:F8t)(p0:Env)(p1:List Int)(p2:Val)(p3:Ty)(rec:F2t)(s6:Int):Option (LR Unit Bool):=(cond (decide (s6<(p2.kids.length:Int))) ((((idx p2.kids s6).bind fun x9=>((idx p3.kids 0).bind fun x10=>((qbu p0 p1 x9 x10).bind fun x11=>(cond (!x11) (some true) (cond (decide (0<s6)) ((idx p2.kids (IntKind.wrap .i64 (s6 - 1))).bind fun x12=>((idx p2.kids s6).bind fun x13=>((lT n x12 x13).bind fun x14=>some (decide (0≤x14))))) (some false)))))):Option Bool).bind fun s8=>(cond s8 (some (.rt false)) (rec (s6+1)))) (some (.nx ())))
def Bt(n:Nat)(qbu:F8t)(p0:Env)(p1:List Int)(p2:Val)(p3:Ty)(k:Nat):Int→Option (LR Unit Bool):=aH (Co n qbu p0 p1 p2 p3) k
def lS(n:Nat)(qbu:F8t)(p0:Env)(p1:List Int)(p2:Val)(p3:Ty):Option Bool:=(cond (p3.kind==1) (((cond (p2.kind==1) (cond (p2.name==([]:Str)) (cond ((p2.kids.length:Int)==0) (cond (decide ((-1000000000)≤p2.n)) (some (decide (p2.n≤1000000000))) (some false)) (some false)) (some false)) (some false)):Option Bool).bind fun s1=>some s1) (cond (p3.kind==2) (((cond (p2.kind==2) (cond (p2.name==([]:Str)) (cond ((p2.kids.length:Int)==0) (cond (p2.n==0) (some true) (some (p2.n==1))) (some false)) (some false)) (some false)):Option Bool).bind fun s2=>some s2) (cond (p3.kind==3) (((cond (p2.kind==3) (cond (p2.name==p3.name) (cond ((p2.kids.length:Int)==0) (cond (decide (0≤p2.n)) ((mH n p0 p3.name).bind fun x1=>((idx p1 x1).bind fun x2=>some (decide (p2.n<x2)))) (some false)) (some false)) (some false)) (some false)):Option Bool).bind fun s3=>some s3) (cond (p3.kind==4) (((cond (p2.kind==4) (cond (p2.n==0) (cond (p2.name==([]:Str)) (cond ((p2.kids.length:Int)==2) ((idx p2.kids 0).bind fun x3=>((idx p3.kids 0).bind fun x4=>((qbu p0 p1 x3 x4).bind fun x5=>(cond x5 ((idx p2.kids 1).bind fun x6=>((idx p3.kids 1).bind fun x7=>((qbu p0 p1 x6 x7).bind fun x8=>some x8))) (some false))))) (some false)) (some false)) (some false)) (some false)):Option Bool).bind fun s4=>some s4) (((cond (p2.kind !=5) (some true) (cond (p2.n !=0) (some true) (cond (!(p2.name==([]:Str))) (some true) (some (decide (256<(p2.kids.length:Int))))))):Option Bool).bind fun s5=>(cond s5 (some false) ((Bt n qbu p0 p1 p2 p3 n 0).bind (LR.el (fun s7=>some true) (fun r=>some r)))))))))
def vw:Nat→Env→(List Int)→Val→Ty→Option Bool
 |0,_,_,_,_=>none
 |n+1,p0,p1,p2,p3=>lS n (vw n) p0 p1 p2 p3
def aiO(n:Nat)(p0:Env)(p1:Str)(rec:F4t)(s1:Int):Option (LR Unit Int):=(cond (decide (s1<(p0.names.length:Int))) ((idx p0.names s1).bind fun x1=>(cond (x1.name==p1) (some (.rt s1)) (rec (s1+1)))) (some (.nx ())))
def Uf n p0 p1 k:=aH (aiO n p0 p1) k
def D5 n p0 p1:=(Uf n p0 p1 n 0).bind (LR.el (λs2=>some (-1)) λr=>some r)
def au5(n:Nat)p0:=some (Ty.mk 3 p0 [])
def aDX(n:Nat)p0:=some (Ty.mk 5 ([]) [p0])
def aaV(n:Nat)(p:Env)p1(s1:Int)(r:F44t)s3:=(idx p.carriers s1).bind λx1=>cond (decide (s3<(x1.elems.length:Int))) ((idx p.carriers s1).bind λx2=>((idx x2.elems s3).bind λx3=>(cond (x3==p1) (some (.rt (s1,s3))) (r (s3+1))))) (some (.nx ()))
def ru n p0 p1 s1 k:=aH (aaV n p0 p1 s1) k
def aaz(n)p0(p1)(e:F44t)s1:=cond (decide (s1<(p0.carriers.length:Int))) ((ru n p0 p1 s1 n 0).bind (LR.el (λs4=>e (s1+1)) (λr=>some (.rt r)))) (some (.nx ()))
def MF n p0 p1 k:=aH (aaz n p0 p1) k
def sJ n p0 p1:=(MF n p0 p1 n 0).bind (LR.el (λs2=>some ((-1),(-1))) λr=>some r)
def JX(n:Nat)(p:List Decl)p2(r:Int->Option (LR Unit (Ty×Bool)))s1:=cond (decide (0<=s1)) ((idx p s1).bind λx6=>cond (x6.name==p2) ((idx p s1).bind λx7=>some (.rt (x7.ty,true))) (r (IntKind.wrap .i64 (s1 - 1)))) (some (.nx ()))
def zF n p1 p2 k:=aH (JX n p1 p2) k
def Gi n p0 p1 p2:=(zF n p1 p2 n ((p1.length) - 1)).bind (LR.el (λs2=>((D5 n p0 p2).bind λx1=>(cond (decide (0<=x1)) ((idx p0.names x1).bind λx2=>some (x2.ty,true)) ((mH n p0 p2).bind λx3=>(cond (decide (0<=x3)) (some ((Ty.mk 5 ([]:Str) ([(Ty.mk 3 p2 ([]))])),true)) ((sJ n p0 p2).bind λx4=>(cond (decide (0<=x4.1)) ((idx p0.carriers x4.1).bind λx5=>some ((Ty.mk 3 x5.name ([])),true)) (some ((Ty.mk 0 ([]:Str) ([])),false))))))))) λr=>some r)
def fF(n:Nat)(p:Ty):=(cond (p.kind==5) ((idx p.kids 0).bind λx1=>some (x1.kind !=2)) (some false)).bind λs1=>some s1
def aEi(n:Nat):=some (Ty.mk 1 [] [])
def ahR(n:Nat)(qbc:F10t)(p0:Ty)(p1:Ty)(rec:F2t)(s2:Int):Option (LR Unit Bool):=(cond (decide (s2<(p0.kids.length:Int))) ((idx p0.kids s2).bind fun x1=>((idx p1.kids s2).bind fun x2=>((qbc x1 x2).bind fun x3=>(cond (!x3) (some (.rt false)) (rec (s2+1)))))) (some (.nx ())))
def I4(n:Nat)(qbc:F10t)(p0:Ty)(p1:Ty)(k:Nat):Int→Option (LR Unit Bool):=aH (ahR n qbc p0 p1) k
def sW(n:Nat)(qbc:F10t)(p0:Ty)(p1:Ty):Option Bool:=(((cond (p0.kind !=p1.kind) (some true) (cond (!(p0.name==p1.name)) (some true) (some ((p0.kids.length:Int)!=(p1.kids.length:Int))))):Option Bool).bind fun s1=>(cond s1 (some false) ((I4 n qbc p0 p1 n 0).bind (LR.el (fun s3=>some true) (fun r=>some r)))))
def bW:Nat->Ty->Ty->Option Bool|0,_,_=>none|n+1,p,a=>sW n (bW n) p a
def awE(n)p0(p1)(r:F2t)s1:=cond (decide (s1<(p0.length:Int))) ((idx p0 s1).bind λx1=>(bW n x1 p1).bind λx2=>(cond (!x2) (some (.rt false)) (r (s1+1)))) (some (.nx ()))
def alE n p0 p1 k:=aH (awE n p0 p1) k
def wS n p0 p1:=(alE n p0 p1 n 0).bind (LR.el (λs2=>some true) λr=>some r)
def aCy(n:Nat)p0(p1):=some (Ty.mk 4 ([]) [p0,p1])
def aCG(n:Nat):=some (Ty.mk 2 [] [])
def BG(n:Nat)(p:Int)p1:=((cond (p==1) (some (p==1)) (some (p==2))):Option Bool).bind λs1=>(cond s1 (some ((Ty.mk 2 ([]:Str) ([])),true)) (((cond (p==3) (some (p==3)) (cond (p==4) (some (p==4)) (cond (p==5) (some (p==5)) (cond (p==6) (some (p==6)) (some (p==7)))))):Option Bool).bind λs2=>(cond s2 ((wS n p1 (Ty.mk 2 ([]:Str) ([]))).bind λx1=>some ((Ty.mk 2 ([]:Str) ([])),x1)) (((cond (p==8) (some (p==8)) (some (p==9))):Option Bool).bind λs3=>(cond s3 ((((idx p1 0).bind λx2=>((fF n x2).bind λx3=>(cond x3 ((idx p1 1).bind λx4=>some (x4.kind==2)) (some false)))):Option Bool).bind λs4=>some ((Ty.mk 2 ([]:Str) ([])),s4)) (((cond (p==10) (some (p==10)) (some (p==11))):Option Bool).bind λs5=>(cond s5 ((((idx p1 0).bind λx5=>(cond (x5.kind !=2) ((idx p1 0).bind λx6=>((idx p1 1).bind λx7=>((bW n x6 x7).bind λx8=>some x8))) (some false))):Option Bool).bind λs6=>some ((Ty.mk 2 ([]:Str) ([])),s6)) (((cond (p==12) (some (p==12)) (cond (p==13) (some (p==13)) (cond (p==14) (some (p==14)) (some (p==15))))):Option Bool).bind λs7=>(cond s7 ((wS n p1 (Ty.mk 1 ([]:Str) ([]))).bind λx9=>some ((Ty.mk 2 ([]:Str) ([])),x9)) (((cond (p==16) (some (p==16)) (some (p==17))):Option Bool).bind λs8=>(cond s8 ((((idx p1 0).bind λx10=>(cond (x10.kind !=2) ((idx p1 0).bind λx11=>((idx p1 1).bind λx12=>((bW n (Ty.mk 5 ([]:Str) ([x11])) x12).bind λx13=>some x13))) (some false))):Option Bool).bind λs9=>some ((Ty.mk 2 ([]:Str) ([])),s9)) (cond (p==18) ((((idx p1 0).bind λx14=>((fF n x14).bind λx15=>(cond x15 ((idx p1 0).bind λx16=>((idx p1 1).bind λx17=>((bW n x16 x17).bind λx18=>some x18))) (some false)))):Option Bool).bind λs10=>some ((Ty.mk 2 ([]:Str) ([])),s10)) (some ((Ty.mk 0 ([]:Str) ([])),false))))))))))))))
def Pm(n:Nat)(p:Ty):=(cond (p.kind==5) ((idx p.kids 0).bind λx1=>some (x1.kind==4)) (some false)).bind λs1=>some s1
def uR(n:Nat)(p:Ty):=(idx p.kids 0).bind λx1=>(idx x1.kids 1).bind λx2=>some x2
def yX(n:Nat)(p:Ty):=(idx p.kids 0).bind λx1=>(idx x1.kids 0).bind λx2=>some x2
def eU(n:Nat)(p:Int)p1:=(idx p1 0).bind λx1=>(((((cond (p==37) (some true) (some (p==38))):Option Bool).bind λs5=>(cond s5 ((idx p1 1).bind λx32=>some (x32.kind,x32.name,x32.kids)) (some (x1.kind,x1.name,x1.kids)))):Option (Int×Str×(List Ty))).bind λs1=>((Pm n (Ty.mk s1.1 s1.2.1 s1.2.2)).bind λx2=>(cond (!x2) (some ((Ty.mk 0 ([]:Str) ([])),false)) (cond (p==35) ((idx p1 1).bind λx3=>((bW n (Ty.mk s1.1 s1.2.1 s1.2.2) x3).bind λx4=>some ((Ty.mk s1.1 s1.2.1 s1.2.2),x4))) (cond (p==36) ((((idx p1 1).bind λx8=>((Pm n x8).bind λx9=>(cond (!x9) (some true) ((uR n (Ty.mk s1.1 s1.2.1 s1.2.2)).bind λx10=>((idx p1 1).bind λx11=>((yX n x11).bind λx12=>((bW n x10 x12).bind λx13=>some (!x13)))))))):Option Bool).bind λs2=>(cond s2 (some ((Ty.mk 0 ([]:Str) ([])),false)) ((yX n (Ty.mk s1.1 s1.2.1 s1.2.2)).bind λx5=>((idx p1 1).bind λx6=>((uR n x6).bind λx7=>some ((Ty.mk 5 ([]:Str) ([(Ty.mk 4 ([]:Str) ([x5,x7]))])),true)))))) (((cond (p==37) (some (p==37)) (some (p==38))):Option Bool).bind λs3=>(cond s3 ((idx p1 0).bind λx14=>((yX n (Ty.mk s1.1 s1.2.1 s1.2.2)).bind λx15=>((bW n x14 (Ty.mk 5 ([]:Str) ([x15]))).bind λx16=>some ((Ty.mk s1.1 s1.2.1 s1.2.2),x16)))) (((cond (p==39) (some (p==39)) (some (p==40))):Option Bool).bind λs4=>(cond s4 ((idx p1 1).bind λx17=>((uR n (Ty.mk s1.1 s1.2.1 s1.2.2)).bind λx18=>((bW n x17 (Ty.mk 5 ([]:Str) ([x18]))).bind λx19=>some ((Ty.mk s1.1 s1.2.1 s1.2.2),x19)))) (cond (p==50) ((yX n (Ty.mk s1.1 s1.2.1 s1.2.2)).bind λx20=>some ((Ty.mk 5 ([]:Str) ([x20])),true)) (cond (p==51) ((uR n (Ty.mk s1.1 s1.2.1 s1.2.2)).bind λx21=>some ((Ty.mk 5 ([]:Str) ([x21])),true)) (cond (p==52) ((uR n (Ty.mk s1.1 s1.2.1 s1.2.2)).bind λx22=>((yX n (Ty.mk s1.1 s1.2.1 s1.2.2)).bind λx23=>some ((Ty.mk 5 ([]:Str) ([(Ty.mk 4 ([]:Str) ([x22,x23]))])),true))) (cond (p==53) ((uR n (Ty.mk s1.1 s1.2.1 s1.2.2)).bind λx24=>((idx p1 1).bind λx25=>((yX n (Ty.mk s1.1 s1.2.1 s1.2.2)).bind λx26=>((bW n x25 (Ty.mk 5 ([]:Str) ([x26]))).bind λx27=>some ((Ty.mk 5 ([]:Str) ([x24])),x27))))) (cond (p==54) ((uR n (Ty.mk s1.1 s1.2.1 s1.2.2)).bind λx28=>((idx p1 1).bind λx29=>((yX n (Ty.mk s1.1 s1.2.1 s1.2.2)).bind λx30=>((bW n x29 x30).bind λx31=>some (x28,x31))))) (some ((Ty.mk 0 ([]:Str) ([])),false))))))))))))))))
def fP(n:Nat)(p:Tm)(a:List Ty):=(cond (p.op==19) (some ((Ty.mk 1 ([]:Str) ([])),true)) (((cond (p.op==21) (some (p.op==21)) (cond (p.op==22) (some (p.op==22)) (cond (p.op==23) (some (p.op==23)) (cond (p.op==24) (some (p.op==24)) (cond (p.op==25) (some (p.op==25)) (some (p.op==26))))))):Option Bool).bind λs1=>(cond s1 ((wS n a (Ty.mk 1 ([]:Str) ([]))).bind λx1=>some ((Ty.mk 1 ([]:Str) ([])),x1)) (cond (p.op==27) ((((idx a 0).bind λx2=>((idx a 1).bind λx3=>((idx a 0).bind λx4=>(cond (x4.kind !=2) ((idx a 1).bind λx5=>some ((x5.kind !=2),([x2,x3]))) (some (false,([x2,x3]))))))):Option (Bool×(List Ty))).bind λs2=>some ((Ty.mk 4 ([]:Str) s2.2),s2.1)) (cond (p.op==28) ((((idx a 0).bind λx6=>((idx a 0).bind λx7=>(cond (x7.kind !=2) ((idx a 0).bind λx8=>((wS n a x8).bind λx9=>some (x9,([x6])))) (some (false,([x6])))))):Option (Bool×(List Ty))).bind λs3=>some ((Ty.mk 5 ([]:Str) s3.2),s3.1)) (cond (p.op==29) (some ((Ty.mk 5 ([]:Str) ([p.ty])),true)) (cond (p.op==30) ((wS n a (Ty.mk 1 ([]:Str) ([]))).bind λx10=>some ((Ty.mk 5 ([]:Str) ([(Ty.mk 1 ([]:Str) ([]))])),x10)) (cond (p.op==55) ((((idx a 0).bind λx11=>((idx a 0).bind λx12=>((fF n x12).bind λx13=>(cond x13 ((idx a 1).bind λx14=>some ((x14.kind==2),x11.kind,x11.name,x11.kids)) (some (false,x11.kind,x11.name,x11.kids)))))):Option (Bool×Int×Str×(List Ty))).bind λs4=>some ((Ty.mk s4.2.1 s4.2.2.1 s4.2.2.2),s4.1)) (cond (p.op==56) ((((idx a 0).bind λx18=>((fF n x18).bind λx19=>(cond (!x19) (some true) ((idx a 1).bind λx20=>some (x20.kind==2))))):Option Bool).bind λs5=>(cond s5 (some ((Ty.mk 0 ([]:Str) ([])),false)) ((idx a 0).bind λx15=>((idx x15.kids 0).bind λx16=>((idx a 1).bind λx17=>some ((Ty.mk 5 ([]:Str) ([(Ty.mk 4 ([]:Str) ([x16,x17]))])),true)))))) (cond (p.op==47) ((idx a 0).bind λx21=>((fF n x21).bind λx22=>some ((Ty.mk 1 ([]:Str) ([])),x22))) (((cond (p.op==48) (some (p.op==48)) (some (p.op==49))):Option Bool).bind λs6=>(cond s6 ((idx a 0).bind λx23=>((bW n x23 (Ty.mk 5 ([]:Str) ([(Ty.mk 1 ([]:Str) ([]))]))).bind λx24=>some ((Ty.mk 1 ([]:Str) ([])),x24))) (cond (p.op==46) ((idx a 0).bind λx25=>((idx a 0).bind λx26=>((fF n x26).bind λx27=>some ((Ty.mk 5 ([]:Str) ([x25])),x27)))) (((cond (p.op==31) (some (p.op==31)) (cond (p.op==32) (some (p.op==32)) (some (p.op==33)))):Option Bool).bind λs7=>(cond s7 ((((idx a 0).bind λx28=>((idx a 0).bind λx29=>((fF n x29).bind λx30=>(cond x30 ((idx a 0).bind λx31=>((idx a 1).bind λx32=>((bW n x31 x32).bind λx33=>some (x33,x28.kind,x28.name,x28.kids)))) (some (false,x28.kind,x28.name,x28.kids)))))):Option (Bool×Int×Str×(List Ty))).bind λs8=>some ((Ty.mk s8.2.1 s8.2.2.1 s8.2.2.2),s8.1)) (((cond (p.op==34) (some (p.op==34)) (cond (p.op==41) (some (p.op==41)) (cond (p.op==42) (some (p.op==42)) (cond (p.op==43) (some (p.op==43)) (cond (p.op==44) (some (p.op==44)) (some (p.op==45))))))):Option Bool).bind λs9=>(cond s9 ((((idx a 0).bind λx38=>((fF n x38).bind λx39=>(cond (!x39) (some true) ((idx a 1).bind λx40=>((fF n x40).bind λx41=>some (!x41)))))):Option Bool).bind λs10=>(cond s10 (some ((Ty.mk 0 ([]:Str) ([])),false)) ((idx a 0).bind λx34=>((idx x34.kids 0).bind λx35=>((idx a 1).bind λx36=>((idx x36.kids 0).bind λx37=>(((cond (p.op !=34) (some ([(Ty.mk 5 ([]:Str) ([(Ty.mk 4 ([]:Str) ([x35,x37]))]))])) (some ([(Ty.mk 4 ([]:Str) ([x35,x37]))]))):Option (List Ty)).bind λs11=>some ((Ty.mk 5 ([]:Str) s11),true)))))))) (cond (decide (p.op<35)) ((BG n p.op a).bind λx42=>some (x42.1,x42.2)) ((eU n p.op a).bind λx43=>some (x43.1,x43.2))))))))))))))))))))
def an4(n:Nat)(q:F39t)p0(a:List Decl)(p:Tm)(e:((List Ty)×Int)->Option (LR (List Ty) (Ty×(List Int)×Int)))(s:(List Ty)×Int):=cond (decide (s.2<(p.kids.length:Int))) ((((((yu n p.op).bind λx14=>(cond x14 (some (s.2==1)) (some false))):Option Bool).bind λs5=>(cond s5 ((idx s.1 0).bind λx8=>((fF n x8).bind λx9=>(cond (!x9) (some (.rt ((Ty.mk 0 ([]:Str) ([])),([]:List Int),7))) ((app 64 ([]:List Decl) a).bind λx10=>((idx s.1 0).bind λx11=>((idx x11.kids 0).bind λx12=>((app 64 x10 ([(Decl.mk p.name x12)])).bind λx13=>some (.nx x13)))))))) (some (.nx a)))):Option (LR (List Decl) (Ty×(List Int)×Int))).bind (LR.el (λs4=>((idx p.kids s.2).bind λx4=>((q p0 s4 x4).bind λx5=>(cond (x5.2.2 !=0) ((app 8 ([s.2]) x5.2.1).bind λx6=>some (.rt ((Ty.mk 0 ([]:Str) ([])),x6,x5.2.2))) ((app 48 s.1 ([x5.1])).bind λx7=>e (x7,(s.2+1))))))) (λr=>some (.rt r)))) (some (.nx s.1))
def aaC n qbi p0 p1 p2 k:=aH (an4 n qbi p0 p1 p2) k
def JY n qbi p0 p1 p2:=cond (p2.op==20) ((Gi n p0 p1 p2.name).bind λx1=>cond (!x1.2) (some ((Ty.mk 0 ([]:Str) ([])),([]:List Int),6)) (some (x1.1,([]:List Int),0))) (((cond (p2.op==29) ((Jp n p0 p2.ty).bind λx15=>some (!x15)) (some false))).bind λs1=>cond s1 (some ((Ty.mk 0 ([]:Str) ([])),([]:List Int),6)) ((aaC n qbi p0 p1 p2 n (([]:List Ty),0)).bind (LR.el (λs3=>((fP n p2 s3).bind λx2=>(cond (!x2.2) (some ((Ty.mk 0 ([]:Str) ([])),([]:List Int),7)) ((sZ n x2.1).bind λx3=>(cond (!x3) (some ((Ty.mk 0 ([]:Str) ([])),([]:List Int),5)) (some (x2.1,([]:List Int),0))))))) (λr=>some r))))
def AZ:Nat->Env->List Decl->Tm->Option (Ty×List Int×Int)|0,_,_,_=>none|n+1,p,a,b=>JY n (AZ n) p a b
def ahZ(n:Nat)(qbb:F25t)(p0:Ty)(rec:F41t)(s1:Int×(List Ty)):Option (LR (List Ty) Ty):=(cond (decide (s1.1<(p0.kids.length:Int))) ((idx p0.kids s1.1).bind fun x1=>((qbb x1).bind fun x2=>((app 48 s1.2 ([x2])).bind fun x3=>rec ((s1.1+1),x3)))) (some (.nx s1.2)))
def Vb(n:Nat)(qbb:F25t)(p0:Ty)(k:Nat):(Int×(List Ty))→Option (LR (List Ty) Ty):=aH (ahZ n qbb p0) k
def EN(n:Nat)(qbb:F25t)(p0:Ty):Option Ty:=((Vb n qbb p0 n (0,([]:List Ty))).bind (LR.el (fun s2=>some (Ty.mk p0.kind p0.name s2)) (fun r=>some r)))
def vZ:Nat->Ty->Option Ty|0,_=>none|n+1,p=>EN n (vZ n) p
def Bc n p0 p1:=((zV n p0).bind λx3=>(cond (!x3) (some true) ((tV n p1).bind λx4=>some (!x4)))).bind λs1=>cond s1 (some ((Ty.mk 0 ([]:Str) ([])),([]:List Int),1)) ((AZ n p0 ([]:List Decl) p1).bind λx1=>((vZ n x1.1).bind λx2=>some (x2,x1.2.1,x1.2.2)))
def azF(n:Nat)p0:=some (Val.mk 1 p0 ([]) [])
def zh n p0 p1:=(zI n p0 p1).bind λx1=>((cond (x1.2.2==0) (some (x1.1.kind !=2)) (some false)):Option Bool).bind λs1=>(cond s1 (some 7) (some x1.2.2))
def eval_interp_holds n p0 p1 p2 p3 p4 p5:=(ql n p0 p1 p2 p3 p4 p5).bind λx1=>((cond (x1.2.1==0) (some ((x1.1.n==1),x1.2.1)) (some (false,x1.2.1))):Option (Bool×Int)).bind λs1=>some (s1.1,s1.2,x1.2.2)
def jm n p0 p1:=((uW n p0).bind λx4=>(cond (!x4) (some true) ((GQ n p1).bind λx5=>some (!x5)))).bind λs1=>cond s1 (some (false,1)) ((zh n p0.env p1).bind λx1=>(cond (x1 !=0) (some (false,x1)) ((Kn n p0).bind λx2=>((eval_interp_holds n x2.1 x2.2.1 x2.2.2.1 x2.2.2.2.1 x2.2.2.2.2 p1).bind λx3=>some (x3.1,x3.2.1)))))
def Gv(n:Nat)(p0:Str)(p1:List Carrier)(p2:List Decl):Option Bool:=((M5 n (Env.mk p1 p2) p0).bind fun x1=>some (decide (x1<0)))
def Ij(n:Nat)(p0:List Str)(p1:List Carrier)(p2:List Decl)(rec:F4t)(s1:Int):Option (LR Unit Int):=(cond (decide (s1<(p0.length:Int))) ((idx p0 s1).bind fun x1=>((Gv n x1 p1 p2).bind fun x2=>(cond x2 (some (.rt s1)) (rec (s1+1))))) (some (.nx ())))
def wZ(n:Nat)(p0:List Str)(p1:List Carrier)(p2:List Decl)(k:Nat):Int→Option (LR Unit Int):=aH (Ij n p0 p1 p2) k
def rM(n:Nat)(p0:List Str)(p1:List Carrier)(p2:List Decl):Option Int:=((wZ n p0 p1 p2 n 0).bind (LR.el (fun s2=>some (-1)) (fun r=>some r)))
def oM(n:Nat)(p0:List Str)(p1:List Carrier)(p2:List Decl):Option Bool:=((rM n p0 p1 p2).bind fun x1=>some (decide (0≤x1)))
def M6(n:Nat)(p0:Env)(p1:Ty):Option Bool:=((((oC n p1).bind fun x1=>(cond x1 ((uY n p1).bind fun x2=>((oM n x2 p0.carriers p0.names).bind fun x3=>some (!x3))) (some false))):Option Bool).bind fun s1=>some s1)
def V9(n:Nat)(p0:Env)(p1:List Int)(p2:Val)(p3:Ty):Option Bool:=((((qp n p0).bind fun x1=>(cond x1 ((zx n p0 p1).bind fun x2=>(cond x2 ((M6 n p0 p3).bind fun x3=>(cond x3 ((jL n p0 p1 p2 p3).bind fun x4=>some x4) (some false))) (some false))) (some false))):Option Bool).bind fun s1=>some s1)
def ahn(n:Nat)(p0:Env)(p1:List Int)(p2:Val)(p3:Ty):Option Bool:=((((zV n p0).bind fun x1=>(cond x1 ((sZ n p3).bind fun x2=>(cond x2 ((Jp n p0 p3).bind fun x3=>(cond x3 ((TW n p0 p1).bind fun x4=>(cond x4 ((vw n p0 p1 p2 p3).bind fun x5=>some x5) (some false))) (some false))) (some false))) (some false))):Option Bool).bind fun s1=>some s1)
def OH(n:Nat)(p0:S_api_World)(p1:Tm):Option Bool:=((((y7 n p0.env).bind fun x8=>(cond (!x8) (some true) ((qJ n p1).bind fun x9=>some (!x9)))):Option Bool).bind fun s1=>(cond s1 ((gJ n).bind fun x1=>some x1) ((lg n p0 p1).bind fun x2=>(cond (x2.2 !=0) (((cond (x2.1.kind==0) ((gJ n).bind fun x3=>some x3) (some false)):Option Bool).bind fun s2=>some s2) ((Bc n p0.env p1).bind fun x4=>(((cond (x4.2.2==0) ((V9 n p0.env p0.sizes x2.1 x4.1).bind fun x5=>(cond x5 ((ahn n p0.env p0.sizes x2.1 x4.1).bind fun x6=>(cond x6 ((gJ n).bind fun x7=>some x7) (some false))) (some false))) (some false)):Option Bool).bind fun s3=>some s3))))))
def atp n p0:=((vB n p0).bind λx1=>(cond x1 (some true) ((Bh n p0).bind λx2=>(cond x2 (some true) (some (p0==95)))))).bind λs1=>some s1
def am9(n:Nat)(p0:Str)(rec:F26t)(s2:Int×Int):Option (LR Int Int):=(cond (decide (s2.2<(p0.length:Int))) ((nC p0 s2.2).bind fun x1=>((Bh n x1).bind fun x2=>(cond (!x2) (some (.rt (-1))) ((nC p0 s2.2).bind fun x3=>rec ((IntKind.wrap .i64 ((IntKind.wrap .i64 (10*s2.1))+(IntKind.wrap .i64 (IntKind.wrap .u8 (x3 - 48))))),(s2.2+1)))))) (some (.nx s2.1)))
def arD n p0 k:=aH (am9 n p0) k
def alG(n:Nat)(p:Str):=(cond (decide (10<(p.length:Int))) (some true) (cond (decide (1<(p.length:Int))) ((nC p 0).bind λx4=>some (x4==48)) (some false))).bind λs1=>cond s1 (some (-1)) ((arD n p n (0,0)).bind (LR.el (λs3=>(cond (decide (1000000000<s3)) (some (-1)) (some s3))) (λr=>some r)))
def as4(n:Nat)(p:Str)p1(r:Int->Option (LR Unit Str))s1:=cond (decide (s1<(([([62,45,62,62]:Str),([60,61,62]:Str),([60,60,124]:Str),([124,62,62]:Str),([124,45,62]:Str),([60,45,62]:Str),([43,45,62]:Str),([45,45,62]:Str),([62,45,62]:Str),([61,62]:Str),([47,61]:Str),([60,61]:Str),([62,61]:Str),([46,46]:Str),([92,47]:Str),([47,92]:Str),([62,60]:Str),([60,43]:Str),([60,124]:Str),([124,62]:Str)]).length:Int))) ((((idx ([([62,45,62,62]:Str),([60,61,62]:Str),([60,60,124]:Str),([124,62,62]:Str),([124,45,62]:Str),([60,45,62]:Str),([43,45,62]:Str),([45,45,62]:Str),([62,45,62]:Str),([61,62]:Str),([47,61]:Str),([60,61]:Str),([62,61]:Str),([46,46]:Str),([92,47]:Str),([47,92]:Str),([62,60]:Str),([60,43]:Str),([60,124]:Str),([124,62]:Str)]) s1).bind λx5=>(cond (decide ((x5.length:Int)<=(IntKind.wrap .i64 ((p.length:Int) - p1)))) ((idx ([([62,45,62,62]:Str),([60,61,62]:Str),([60,60,124]:Str),([124,62,62]:Str),([124,45,62]:Str),([60,45,62]:Str),([43,45,62]:Str),([45,45,62]:Str),([62,45,62]:Str),([61,62]:Str),([47,61]:Str),([60,61]:Str),([62,61]:Str),([46,46]:Str),([92,47]:Str),([47,92]:Str),([62,60]:Str),([60,43]:Str),([60,124]:Str),([124,62]:Str)]) s1).bind λx6=>((jM p p1 (IntKind.wrap .i64 (p1+(x6.length:Int)))).bind λx7=>((idx ([([62,45,62,62]:Str),([60,61,62]:Str),([60,60,124]:Str),([124,62,62]:Str),([124,45,62]:Str),([60,45,62]:Str),([43,45,62]:Str),([45,45,62]:Str),([62,45,62]:Str),([61,62]:Str),([47,61]:Str),([60,61]:Str),([62,61]:Str),([46,46]:Str),([92,47]:Str),([47,92]:Str),([62,60]:Str),([60,43]:Str),([60,124]:Str),([124,62]:Str)]) s1).bind λx8=>some (x7==x8)))) (some false)))).bind λs3=>cond s3 ((idx ([([62,45,62,62]:Str),([60,61,62]:Str),([60,60,124]:Str),([124,62,62]:Str),([124,45,62]:Str),([60,45,62]:Str),([43,45,62]:Str),([45,45,62]:Str),([62,45,62]:Str),([61,62]:Str),([47,61]:Str),([60,61]:Str),([62,61]:Str),([46,46]:Str),([92,47]:Str),([47,92]:Str),([62,60]:Str),([60,43]:Str),([60,124]:Str),([124,62]:Str)]) s1).bind λx4=>some (.rt x4)) (r (s1+1))) (some (.nx ()))
def avH n p0 p1 k:=aH (as4 n p0 p1) k
def atl(n:Nat)(a:Str)(p:Int):Option Str:=(avH n a p n 0).bind (LR.el (λs2=>((jM a p (IntKind.wrap .i64 (p+1))).bind λx1=>((J9 n x1 ([([38]:Str),([61]:Str),([60]:Str),([62]:Str),([43]:Str),([45]:Str),([42]:Str),([47]:Str),([92]:Str),([59]:Str),([126]:Str),([46]:Str),([44]:Str),([124]:Str),([40]:Str),([41]:Str),([91]:Str),([93]:Str),([123]:Str),([125]:Str)])).bind λx2=>(cond x2 ((jM a p (IntKind.wrap .i64 (p+1))).bind λx3=>some x3) (some ([]:Str)))))) λr=>some r)
def au8(n:Nat)(p:Str)(r:F45t)s1:=(cond (decide (s1<(p.length:Int))) ((nC p s1).bind λx19=>(cond (x19==32) (some true) ((nC p s1).bind λx20=>(cond (x20==9) (some true) ((nC p s1).bind λx21=>some (x21==10)))))) (some false)).bind λs11=>cond s11 (r (IntKind.wrap .i64 (s1+1))) (some (.nx s1))
def ayE n p0 k:=aH (au8 n p0) k
def av4(n:Nat)(p:Str)(r:F45t)s3:=(cond (decide (s3<(p.length:Int))) ((nC p s3).bind λx17=>((atp n x17).bind λx18=>some x18)) (some false)).bind λs10=>cond s10 (r (IntKind.wrap .i64 (s3+1))) (some (.nx s3))
def axx n p0 k:=aH (av4 n p0) k
def ars n p0 p1:=(ayE n p0 n p1).bind (LR.el (λs2=>(cond (s2==(p0.length:Int)) (some (S_refinementref01_token.mk 0 ([]:Str) s2)) ((axx n p0 n s2).bind (LR.el (λs4=>((jM p0 s2 s4).bind λx1=>((((nC p0 s2).bind λx14=>((vB n x14).bind λx15=>(cond x15 ((Ht n x1).bind λx16=>some x16) (some false)))):Option Bool).bind λs5=>(cond s5 (some (S_refinementref01_token.mk 2 x1 s2)) ((((nC p0 s2).bind λx12=>((vB n x12).bind λx13=>(cond x13 (some (decide (16<(x1.length:Int)))) (some false)))):Option Bool).bind λs6=>(cond s6 (some (S_refinementref01_token.mk 5 x1 s2)) ((nC p0 s2).bind λx2=>((vB n x2).bind λx3=>(cond x3 (((((cond (decide (s4<(p0.length:Int))) ((nC p0 s4).bind λx5=>some (x5==39)) (some false)):Option Bool).bind λs8=>(cond s8 ((jM p0 s2 (IntKind.wrap .i64 (s4+1))).bind λx4=>some x4) (some x1))):Option Str).bind λs7=>some (S_refinementref01_token.mk 1 s7 s2)) ((((nC p0 s2).bind λx9=>((Bh n x9).bind λx10=>(cond x10 ((alG n x1).bind λx11=>some (decide (x11<0))) (some false)))):Option Bool).bind λs9=>(cond s9 (some (S_refinementref01_token.mk 5 x1 s2)) ((nC p0 s2).bind λx6=>((Bh n x6).bind λx7=>(cond x7 (some (S_refinementref01_token.mk 3 x1 s2)) ((atl n p0 s2).bind λx8=>(cond (!(x8==([]:Str))) (some (S_refinementref01_token.mk 4 x8 s2)) (some (S_refinementref01_token.mk 5 ([]:Str) s2)))))))))))))))))) (λr=>some r))))) λr=>some r)
def ao5(n:Nat)(a:Str)(b:Int)(c:Str)(d:Int)(e:Int)(f:Int)(p:Int):=some (p==0)
def aaW(n:Nat)(b:Str)(p:Int)p2(c:Int)(d:Int)(e:Int)(f:Int)(a:Str):=(cond (p==4) (some (p2==a)) (cond (p==2) (some (p2==a)) (some false))).bind λs1=>some s1
def JK(n:Nat)(b:Str)(c:Int)(d:Str)(e:Int)(f:Int)p5(p:Int)p7(a:Int):=cond (p==0) (some (a,p7)) (some (p5,p))
def Je n p0 p1 p2 p3 p4 p5 p6:=((J9 n p2 ([([40]:Str),([91]:Str),([123]:Str)])).bind λx3=>(cond x3 (cond (decide (64<(IntKind.wrap .i64 (p4+1)))) ((JK n p0 p1 p2 p3 (IntKind.wrap .i64 (p4+1)) p5 p6 4 p3).bind λx4=>some ((IntKind.wrap .i64 (p4+1)),x4.1,x4.2)) (some ((IntKind.wrap .i64 (p4+1)),p5,p6))) (some (p4,p5,p6)))).bind λs1=>(((J9 n p2 ([([41]:Str),([93]:Str),([125]:Str)])).bind λx2=>(cond x2 (some (IntKind.wrap .i64 (s1.1 - 1))) (some s1.1))):Option Int).bind λs2=>((ars n p0 (IntKind.wrap .i64 (p3+(p2.length:Int)))).bind λx1=>some (x1.kind,x1.s,x1.at_,s2,s1.2.1,s1.2.2))
def AP n p0 p1 p2 p3 p4 p5 p6:=(JK n p0 p1 p2 p3 p4 p5 p6 2 p3).bind λx1=>some (x1.1,x1.2)
def ajr n p0 p1 p2 p3 p4 p5 p6 p7:=cond (!p6==0) (some (p1,p2,p3,p4,p5,p6)) ((aaW n p0 p1 p2 p3 p4 p5 p6 p7).bind λx1=>cond (!x1) ((AP n p0 p1 p2 p3 p4 p5 p6).bind λx2=>some (p1,p2,p3,p4,x2.1,x2.2)) ((Je n p0 p1 p2 p3 p4 p5 p6).bind λx3=>some (x3.1,x3.2.1,x3.2.2.1,x3.2.2.2.1,x3.2.2.2.2.1,x3.2.2.2.2.2)))
def abm(n:Nat)p0(a:Int)(p:Str)p3(b:Int)(c:Int)(d:Int):=(ars n p0 (IntKind.wrap .i64 (p3+(p.length:Int)))).bind λx1=>((cond (x1.kind==2) (some (x1.s==([105,110]:Str))) (some false)):Option Bool).bind λs1=>some s1
def adG(n:Nat)(p:Str):Option Int:=cond (p==([61])) (some 10) (cond (p==([47,61]:Str)) (some 11) (cond (p==([60]:Str)) (some 12) (cond (p==([60,61]:Str)) (some 13) (cond (p==([62]:Str)) (some 14) (cond (p==([62,61]:Str)) (some 15) (cond (p==([105,110]:Str)) (some 16) (cond (p==([110,111,116,105,110]:Str)) (some 17) (cond (p==([115,117,98]:Str)) (some 18) (some 0)))))))))
def aaE(n:Nat)(p:Str):Option Int:=cond (p==([60,45,62])) (some 41) (cond (p==([43,45,62]:Str)) (some 42) (cond (p==([45,45,62]:Str)) (some 43) (cond (p==([62,45,62]:Str)) (some 44) (cond (p==([62,45,62,62]:Str)) (some 45) (some 0)))))
def auH(n:Nat)(p:Str):Option Int:=cond (p==([92,47])) (some 31) (cond (p==([47,92]:Str)) (some 32) (cond (p==([92]:Str)) (some 33) (cond (p==([62,60]:Str)) (some 34) (cond (p==([60,43]:Str)) (some 35) (cond (p==([59]:Str)) (some 36) (cond (p==([60,124]:Str)) (some 37) (cond (p==([60,60,124]:Str)) (some 38) (cond (p==([124,62]:Str)) (some 39) (cond (p==([124,62,62]:Str)) (some 40) (some 0))))))))))
def amy(n:Nat)(p:Str):Option (Int×Int):=cond (p==([60,61,62])) (some (1,7)) (cond (p==([61,62]:Str)) (some (2,6)) (cond (p==([111,114]:Str)) (some (3,5)) (cond (p==([38]:Str)) (some (4,4)) (cond (p==([124,45,62]:Str)) (some (8,27)) (cond (p==([46,46]:Str)) (some (10,30)) (cond (p==([43]:Str)) (some (11,22)) (cond (p==([45]:Str)) (some (11,23)) (cond (p==([42]:Str)) (some (12,24)) (cond (p==([47]:Str)) (some (12,25)) (cond (p==([109,111,100]:Str)) (some (12,26)) ((adG n p).bind λx1=>(cond (decide (0<x1)) (some (6,x1)) ((aaE n p).bind λx2=>(cond (decide (0<x2)) (some (7,x2)) ((auH n p).bind λx3=>(cond (decide (0<x3)) (some (9,x3)) (some (0,0))))))))))))))))))
def Zp(n:Nat)(a:Str)(p:Int)p2(b:Int)(c:Int)(d:Int)(e:Int)p7:=(cond (p !=4) (some (p !=2)) (some false)).bind λs1=>cond s1 (some 0) ((amy n p2).bind λx1=>(cond (x1.1 !=p7) (some 0) (some x1.2)))
def ajP(n:Nat)(f:Str)(a:Int)(p:Str)(b:Int)(c:Int)(e:Int)(d:Int):Option (Str×Int×Str×Int×Int×Int×Int):=cond (!d==0) (some (([]:Str),a,p,b,c,e,d)) (((cond (a !=1) (some true) ((LA n p).bind λx3=>some x3))).bind λs1=>cond s1 ((AP n f a p b c e d).bind λx1=>some (([]:Str),a,p,b,c,x1.1,x1.2)) ((Je n f a p b c e d).bind λx2=>some (p,x2.1,x2.2.1,x2.2.2.1,x2.2.2.2.1,x2.2.2.2.2.1,x2.2.2.2.2.2)))
def amM(n:Nat)(p0:Str)(rec:F4t)(s1:Int):Option (LR Unit Int):=(cond (decide (s1<(([([80,79,87]:Str),([99,97,114,100]:Str),([109,105,110]:Str),([109,97,120]:Str),([100,111,109]:Str),([114,97,110]:Str)]).length:Int))) ((idx ([([80,79,87]:Str),([99,97,114,100]:Str),([109,105,110]:Str),([109,97,120]:Str),([100,111,109]:Str),([114,97,110]:Str)]) s1).bind fun x1=>(cond (x1==p0) (some (.rt (IntKind.wrap .i64 (46+s1)))) (rec (s1+1)))) (some (.nx ())))
def aoX n p0 k:=aH (amM n p0) k
def azu n p0:=(aoX n p0 n 0).bind (LR.el (λs2=>some 0) λr=>some r)
def an6 n p0 p1 p2 p3 p4 p5 p6:=(cond (p6==0) (some (p1 !=0)) (some false)).bind λs1=>cond s1 ((AP n p0 p1 p2 p3 p4 p5 p6).bind λx1=>some (x1.1,x1.2)) (some (p5,p6))
end Abs
end Go.Proofs.YtneeginmfjageaaGreat
