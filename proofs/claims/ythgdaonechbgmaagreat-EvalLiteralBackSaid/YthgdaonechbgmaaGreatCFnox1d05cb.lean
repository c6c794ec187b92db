/-
  Printed by gend.py. Conditions: none.
-/
import Derived.Test.YthgdaonechbgmaaGreatCExtVox7e38ad
set_option linter.all false
namespace Go.Proofs.YthgdaonechbgmaaGreat
namespace Abs
open Go Go.Proofs
set_option maxRecDepth 100000
structure S_api_World where
 env:Env
 sizes:List Int
 values:List Val
structure S_refinementref01_token where
 kind:Int
 s:Str
 at_:Int
abbrev F0t:=List Carrier->List Decl->List Int->List (Str×Val)->List Bound->Tm->Option (PZ (Val×(List Bound)) (List Bound))
abbrev F1t:=List Carrier->List Decl->List Int->List (Str×Val)->List Bound->Tm->Option (PZ ((List Val)×(List Bound)) (List Bound))
abbrev F2t:=Int->Option (LR Unit Bool)
abbrev F3t:=List Val×Int->Option (LR (List Val) (List Val))
abbrev F4t:=Int→Option (LR Unit Int)
abbrev F5t:=(List Carrier)→(List Decl)→(List Int)→(List (Str×Val))→(List Bound)→Tm→Option (PZ (Int×Str×Int×Int×Str×(List Ty)×(List Tm)×(List Val)×(List Val)×(List Bound)) (List Bound))
abbrev F6t:=(List Carrier)→(List Decl)→(List Int)→(List (Str×Val))→(List Bound)→Tm→Int→Str→Int→Int→Str→(List Ty)→(List Tm)→(List Val)→Bool→Bool→Option (PZ ((List Bound)×(List Val)×Bool×Bool) ((List Bound)×(List Val)))
abbrev F7t:=Ty→Int→Option Bool
abbrev F8t:=Env→(List Int)→Val→Ty→Option Bool
abbrev F9t:=Val→Val→Option Int
abbrev F10t:=Int→(List Val)→(List Val)→Int→(List Val)→(List Val)→Option (List Val)
abbrev F11t:=((List Val)×Int)→Option (LR (List Val) (PZ Val Unit))
abbrev F12t:=List Ty->Int->Int->Int->Int->Option (Int×Int)
abbrev F13t:=List Ty->Int->Int->Int->Int->Option (Bool×Int)
abbrev F14t:=Int->Int->Int->Ty->Int->Bool->Option (Bool×Int)
abbrev F15t:=Ty->Int->Int->Int->Int->Option (Bool×Int)
abbrev F16t:=List Ty->Int->Option Int
abbrev F17t:=List Ty->Int->Option Bool
abbrev F18t:=List Str×Int->Option (LR (List Str) (List Str))
abbrev F19t:=(List Ty)→Int→Int→Str→(List Val)→(List Carrier)→(List Decl)→(List Int)→Option Bool
abbrev F20t:=(List Tm)→Int→Int→Int→Int→Option (Int×Int)
abbrev F21t:=(List Tm)→Int→Int→Int→Int→Option (Bool×Int)
abbrev F22t:=Int→Int→Int→Tm→Int→Option (Bool×Int)
abbrev F23t:=Tm→Int→Int→Int→Int→Option (Bool×Int)
abbrev F24t:=Ty→Option Ty
abbrev F25t:=(List Val)→(List Val)→Option Int
abbrev F26t:=(List Ty)→(List Ty)→Option Bool
abbrev F27t:=Ty→Ty→Option Bool
abbrev F28t:=(List (Str×Ty))→(List (Str×Bool))→(List Int)→Tm→(List Decl)→Option (Ty×Int×(List Int))
abbrev F29t:=(List (Str×Ty))→(List (Str×Bool))→(List Int)→Tm→Int→(List Decl)→Option (Ty×Int×(List Int))
abbrev F30t:=Val→Val→Option Bool
abbrev F31t:=(List Val)→(List Val)→Option Bool
abbrev F32t:=Ty→Int→Int→Option Int
abbrev F33t:=(Int×Int)→Option (LR Int Int)
abbrev F34t:=Tm->Int->Int->Option Int
abbrev F35t:=Ty→(List (Str×Bool))→Option (List (Str×Bool))
abbrev F36t:=(Int×(List (Str×Ty)))→Option (LR (List (Str×Ty)) (List (Str×Ty)))
abbrev F37t:=Val→Option Val
abbrev F38t:=Ty→Option Bool
abbrev F39t:=Ty→Option (List Str)
abbrev F40t:=Env→Val→Ty→Option (PZ Tm Unit)
abbrev F41t:=(Int×Int)→Option (LR Int (Int×Int))
abbrev F42t:=(Int×(List Ty))→Option (LR (List Ty) Ty)
abbrev F43t:=((List (List Val))×Int)→Option (LR (List (List Val)) (List (List Val)))
abbrev F44t:=(Int×(List Val))→Option (LR (List Val) (List Val))
abbrev F45t:=Int→Option (LR Int S_refinementref01_token)
def Ah(n:Nat)(p:Env):=(cond (decide ((p.carriers.length:Int)<=100)) (some (decide ((p.names.length:Int)<=100))) (some false)).bind λs1=>some s1
def aed(n:Nat)(p:Int):=(cond (p==1) (some true) (cond (p==2) (some true) (cond (p==19) (some true) (cond (p==20) (some true) (some (p==29)))))).bind λs1=>cond s1 (some 0) (((cond (p==3) (some true) (cond (p==21) (some true) (cond (decide (46<=p)) (some (decide (p<=52))) (some false)))):Option Bool).bind λs2=>(cond s2 (some 1) (cond (p==28) (some (-1)) (((cond (decide (4<=p)) (some (decide (p<=56))) (some false)):Option Bool).bind λs3=>(cond s3 (some 2) (some (-2)))))))
def wD(n:Nat)(p:Int):=(cond (decide (97<=p)) (cond (decide (p<=122)) (some true) (cond (decide (65<=p)) (some (decide (p<=90))) (some false))) (cond (decide (65<=p)) (some (decide (p<=90))) (some false))).bind λs1=>some s1
def azX(n:Nat)p0(p:List Str)(r:F2t)s1:=cond (decide (s1<(p.length:Int))) ((idx p s1).bind λx1=>cond (x1==p0) (some (.rt true)) (r (s1+1))) (some (.nx ()))
def aq4 n p0 p1 k:=aL (azX n p0 p1) k
def Mi n p0 p1:=(aq4 n p0 p1 n 0).bind (LR.el (λs2=>some false) λr=>some r)
def Ja n p0:=(Mi n p0 [([116,114,117,101]:Str),([102,97,108,115,101]:Str),([110,111,116]:Str),([111,114]:Str),([102,111,114,97,108,108]:Str),([101,120,105,115,116,115]:Str),([105,110]:Str),([110,111,116,105,110]:Str),([115,117,98]:Str),([109,111,100]:Str),([102,117,110]:Str),([99,97,114,100]:Str),([109,105,110]:Str),([109,97,120]:Str),([100,111,109]:Str),([114,97,110]:Str),([80,79,87]:Str),([105,110,116]:Str),([98,111,111,108]:Str),([115,101,116]:Str),([112,97,105,114]:Str)]).bind λx1=>some x1
def CY(n:Nat)(p:Int):=(cond (decide (48<=p)) (some (decide (p<=57))) (some false)).bind λs1=>some s1
def aeE(n)(p:Str)(r:F2t)s2:=cond (decide (s2<(p.length:Int))) ((((oL p s2).bind λx1=>((wD n x1).bind λx2=>(cond (!x2) ((oL p s2).bind λx3=>((CY n x3).bind λx4=>(cond (!x4) ((oL p s2).bind λx5=>some (x5 !=95)) (some false)))) (some false))))).bind λs4=>cond s4 (some (.rt false)) (r (s2+1))) (some (.nx ()))
def G7 n p0 k:=aL (aeE n p0) k
def jk(n:Nat)(p:Str):=(cond (decide ((p.length:Int)<1)) (some true) (cond (decide (16<(p.length:Int))) (some true) ((oL p 0).bind λx6=>((wD n x6).bind λx7=>(cond (!x7) (some true) ((Ja n p).bind λx8=>some x8)))))).bind λs1=>cond s1 (some false) ((G7 n p n 1).bind (LR.el (λs3=>some true) (λr=>some r)))
def Nk(n:Nat)(p:Str):=(cond (decide (1<(p.length:Int))) ((oL p ((p.length:Int) - 1)).bind λx1=>(cond (x1==39) ((kQ p 0 ((p.length:Int) - 1)).bind λx2=>((jk n x2).bind λx3=>some x3)) (some false))) (some false)).bind λs1=>some s1
def KN n p0:=((jk n p0).bind λx1=>(cond x1 (some true) ((Nk n p0).bind λx2=>some x2))).bind λs1=>some s1
def zM(n:Nat)(p:Int):=(cond (p==8) (some true) (cond (p==9) (some true) (cond (p==55) (some true) (some (p==56))))).bind λs1=>some s1
def ar2(n:Nat)(qbe:F32t)(p0:Ty)(p1:Int)(rec:F33t)(s4:Int×Int):Option (LR Int Int):=(cond (decide (s4.2<(p0.kids.length:Int))) ((idx p0.kids s4.2).bind fun x1=>((qbe x1 (IntKind.wrap .i64 (p1+1)) s4.1).bind fun x2=>(cond (decide (x2<0)) (some (.rt (-1))) (rec (x2,(s4.2+1)))))) (some (.nx s4.1)))
def MC(n:Nat)(qbe:F32t)(p0:Ty)(p1:Int)(k:Nat):(Int×Int)→Option (LR Int Int):=aL (ar2 n qbe p0 p1) k
def Oq(n:Nat)(qbe:F32t)(p0:Ty)(p1:Int)(p2:Int):Option Int:=(((cond (decide (6<p1)) (some true) (cond (decide (16<(IntKind.wrap .i64 (p2+1)))) (some true) (cond (p0.kind==2) (some (decide (1<p1))) (some false)))):Option Bool).bind fun s1=>(cond s1 (some (-1)) (((((cond (p0.kind==1) (some (p0.kind==1)) (cond (p0.kind==2) (some (p0.kind==2)) (some (p0.kind==3)))):Option Bool).bind fun s6=>(cond s6 (some (.nx 0)) (cond (p0.kind==5) (some (.nx 1)) (cond (p0.kind==4) (some (.nx 2)) (some (.rt (-1))))))):Option (LR Int Int)).bind (LR.el (fun s2=>(((cond ((p0.kids.length:Int)!=s2) (some true) (cond (p0.kind==3) ((jk n p0.name).bind fun x3=>(cond (!x3) (some true) (cond (p0.kind !=3) (some (!(p0.name==([]:Str)))) (some false)))) (cond (p0.kind !=3) (some (!(p0.name==([]:Str)))) (some false)))):Option Bool).bind fun s3=>(cond s3 (some (-1)) ((MC n qbe p0 p1 n ((IntKind.wrap .i64 (p2+1)),0)).bind (LR.el (fun s5=>some s5) (fun r=>some r)))))) (fun r=>some r)))))
def zR:Nat->Ty->Int->Int->Option Int|0,_,_,_=>none|n+1,p,a,b=>Oq n (zR n) p a b
def uS n p0:=(zR n p0 1 0).bind λx1=>some (decide (0<x1))
def Mk(n:Nat)(p:Ty):=(cond (p.kind==0) (cond (p.name==([]:Str)) (some ((p.kids.length:Int)==0)) (some false)) (some false)).bind λs1=>some s1
def adQ(n:Nat)(p:Tm):=((aed n p.op).bind λx1=>(((cond (x1==(-2)) (some true) (cond (x1==(-1)) (cond ((p.kids.length:Int)==0) (some true) (cond (decide (0<=x1)) (some ((p.kids.length:Int)!=x1)) (some false))) (cond (decide (0<=x1)) (some ((p.kids.length:Int)!=x1)) (some false)))):Option Bool).bind λs1=>(cond s1 (some false) (((cond (p.op==20) ((KN n p.name).bind λx4=>(cond (!x4) (some (.rt false)) (some (.nx ())))) ((zM n p.op).bind λx5=>(cond x5 ((jk n p.name).bind λx6=>(cond (!x6) (some (.rt false)) (some (.nx ())))) (cond (!(p.name==([]:Str))) (some (.rt false)) (some (.nx ())))))):Option (LR Unit Bool)).bind (LR.el (λs2=>(((cond (p.op==19) (cond (decide (p.n<0)) (some true) (cond (decide (1000000000<p.n)) (some true) (cond (p.op !=19) (some (p.n !=0)) (some false)))) (cond (p.op !=19) (some (p.n !=0)) (some false))):Option Bool).bind λs3=>(cond s3 (some false) (cond (p.op==29) ((((uS n p.ty).bind λx2=>(cond x2 (some (p.ty.kind !=2)) (some false))):Option Bool).bind λs4=>some s4) ((Mk n p.ty).bind λx3=>some x3))))) (λr=>some r))))))
def aqD(n:Nat)(qbd:F34t)(p0:Tm)(p1:Int)(rec:F33t)(s2:Int×Int):Option (LR Int Int):=(cond (decide (s2.2<(p0.kids.length:Int))) ((idx p0.kids s2.2).bind fun x1=>((qbd x1 (IntKind.wrap .i64 (p1+1)) s2.1).bind fun x2=>(cond (decide (x2<0)) (some (.rt (-1))) (rec (x2,(s2.2+1)))))) (some (.nx s2.1)))
def ae5 n qbd p0 p1 k:=aL (aqD n qbd p0 p1) k
def Ox n qbd p0 p1 p2:=(cond (decide (64<p1)) (some true) (cond (decide (2000<(IntKind.wrap .i64 (p2+1)))) (some true) ((adQ n p0).bind λx3=>some (!x3)))).bind λs1=>cond s1 (some (-1)) ((ae5 n qbd p0 p1 n ((IntKind.wrap .i64 (p2+1)),0)).bind (LR.el (λs3=>some s3) (λr=>some r)))
def GL:Nat->Tm->Int->Int->Option Int|0,_,_,_=>none|n+1,p,a,b=>Ox n (GL n) p a b
def vC n p0:=(GL n p0 1 0).bind λx1=>some (decide (0<x1))
def FT(n:Nat)(p:Int):=(cond (decide (97<=p)) (cond (decide (p<=122)) (some true) (cond (decide (65<=p)) (some (decide (p<=90))) (some false))) (cond (decide (65<=p)) (some (decide (p<=90))) (some false))).bind λs1=>some s1
def JH(n:Nat)(p:Str):=(cond (p==([116,114,117,101]:Str)) (some (p==([116,114,117,101]:Str))) (cond (p==([102,97,108,115,101]:Str)) (some (p==([102,97,108,115,101]:Str))) (cond (p==([110,111,116]:Str)) (some (p==([110,111,116]:Str))) (cond (p==([111,114]:Str)) (some (p==([111,114]:Str))) (cond (p==([102,111,114,97,108,108]:Str)) (some (p==([102,111,114,97,108,108]:Str))) (cond (p==([101,120,105,115,116,115]:Str)) (some (p==([101,120,105,115,116,115]:Str))) (cond (p==([105,110]:Str)) (some (p==([105,110]:Str))) (cond (p==([110,111,116,105,110]:Str)) (some (p==([110,111,116,105,110]:Str))) (cond (p==([115,117,98]:Str)) (some (p==([115,117,98]:Str))) (cond (p==([109,111,100]:Str)) (some (p==([109,111,100]:Str))) (cond (p==([102,117,110]:Str)) (some (p==([102,117,110]:Str))) (cond (p==([99,97,114,100]:Str)) (some (p==([99,97,114,100]:Str))) (cond (p==([109,105,110]:Str)) (some (p==([109,105,110]:Str))) (cond (p==([109,97,120]:Str)) (some (p==([109,97,120]:Str))) (cond (p==([100,111,109]:Str)) (some (p==([100,111,109]:Str))) (cond (p==([114,97,110]:Str)) (some (p==([114,97,110]:Str))) (cond (p==([80,79,87]:Str)) (some (p==([80,79,87]:Str))) (cond (p==([105,110,116]:Str)) (some (p==([105,110,116]:Str))) (cond (p==([98,111,111,108]:Str)) (some (p==([98,111,111,108]:Str))) (cond (p==([115,101,116]:Str)) (some (p==([115,101,116]:Str))) (some (p==([112,97,105,114]:Str))))))))))))))))))))))).bind λs1=>cond s1 (some true) (some false)
def Pf(n:Nat)(p:Int):=(cond (decide (48<=p)) (some (decide (p<=57))) (some false)).bind λs1=>some s1
def MR n p0:=((FT n p0).bind λx1=>(cond x1 (some true) ((Pf n p0).bind λx2=>(cond x2 (some true) (some (p0==95)))))).bind λs1=>some s1
def aaI(n)(p:Str)(r:F2t)s2:=cond (decide (s2<(p.length:Int))) ((oL p s2).bind λx1=>(MR n x1).bind λx2=>(cond (!x2) (some (.rt false)) (r (s2+1)))) (some (.nx ()))
def CJ n p0 k:=aL (aaI n p0) k
def gX(n:Nat)(p:Str):=(cond (p==([]:Str)) (some true) (cond (decide (16<(p.length:Int))) (some true) ((oL p 0).bind λx3=>((FT n x3).bind λx4=>(cond (!x4) (some true) ((JH n p).bind λx5=>some x5)))))).bind λs1=>cond s1 (some false) ((CJ n p n 0).bind (LR.el (λs3=>some true) (λr=>some r)))
def o8(n:Nat)(p:Str)(a:Str):=(cond (decide ((a.length:Int)<=(p.length:Int))) ((kQ p (IntKind.wrap .i64 ((p.length:Int) - (a.length:Int))) (p.length:Int)).bind λx1=>some (x1==a)) (some false)).bind λs1=>some s1
def oh(n:Nat)(p:Str)(a:Str):Option Str:=(o8 n p a).bind λx1=>cond x1 ((kQ p 0 (IntKind.wrap .i64 ((p.length:Int) - (a.length:Int)))).bind λx2=>some x2) (some p)
def strings_TrimSuffix n p0 p1:=(oh n p0 p1).bind λx1=>some x1
def wB n p0:=(strings_TrimSuffix n p0 [39]).bind λx1=>(gX n x1).bind λx2=>some x2
def lS(n:Nat)p0(p:Int)p2(a:Int):=(cond (decide ((IntKind.wrap .i64 (p0+1))<=p)) (some (decide (a<=p2))) (some false)).bind λs1=>some (s1,(IntKind.wrap .i64 (p0+1)))
def Qh(n:Nat)(qcf:F12t)(qcb:F13t)(qcj:F14t)(qck:F15t)(p0:List Ty)(p2:Int)(p3:Int)(p4:Int)(rec:F41t)(s1:Int×Int):Option (LR Int (Int×Int)):=(cond (decide (s1.1<(p0.length:Int))) ((idx p0 s1.1).bind fun x1=>((qck x1 s1.2 p2 p3 p4).bind fun x2=>(cond x2.1 (some (.rt (s1.1,x2.2))) (rec ((s1.1+1),x2.2))))) (some (.nx s1.2)))
def DC n qcf qcb qcj qck p0 p2 p3 p4 k:=aL (Qh n qcf qcb qcj qck p0 p2 p3 p4) k
def ku n qcf qcb qcj qck p0 p1 p2 p3 p4:=(DC n qcf qcb qcj qck p0 p2 p3 p4 n (0,p1)).bind (LR.el (λs2=>some ((-1),s2)) λr=>some r)
def pR(n:Nat)(q:F12t)(c:F13t)(j:F14t)(k:F15t)p0(p1)p2(p3)p4:=(q p0 p1 p2 p3 p4).bind λx1=>some (decide (0<=x1.1),x1.2)
def sS(n:Nat)(c:F12t)(q:F13t)(j:F14t)(k:F15t)p0(a:Int)p2(p:Ty)p4(b:Bool):=(lS n p0 a p2 p4).bind λx1=>cond (!x1.1) (some (false,x1.2)) (((cond (p.kind==1) (some (.nx 0)) (cond (p.kind==2) (cond b (some (.rt (false,x1.2))) (some (.nx 0))) (cond (p.kind==3) ((gX n p.name).bind λx3=>(cond (!x3) (some (.rt (false,x1.2))) (some (.nx 0)))) (cond (p.kind==4) (some (.nx 2)) (cond (p.kind==5) (some (.nx 1)) (some (.rt (false,x1.2)))))))):Option (LR Int (Bool×Int))).bind (LR.el (λs1=>(((cond ((p.kids.length:Int)!=s1) (some true) (cond (p.kind !=3) (some (!(p.name==([]:Str)))) (some false))):Option Bool).bind λs2=>(cond s2 (some (false,x1.2)) ((q p.kids x1.2 a p2 p4).bind λx2=>some ((!x2.1),x2.2))))) (λr=>some r)))
def qE(n:Nat)(c:F12t)(b:F13t)(q:F14t)(k:F15t)p0(p1)p2(p3)p4:=(q p1 p2 p3 p0 (IntKind.wrap .i64 (p4+1)) true).bind λx1=>some (!x1.1,x1.2)
mutual
def lG:Nat→(List Ty)→Int→Int→Int→Int→Option (Int×Int)
 |0,_,_,_,_,_=>none
 |n+1,p0,p1,p2,p3,p4=>ku n (lG n) (fD n) (iW n) (fQ n) p0 p1 p2 p3 p4
def fD:Nat→(List Ty)→Int→Int→Int→Int→Option (Bool×Int)
 |0,_,_,_,_,_=>none
 |n+1,p0,p1,p2,p3,p4=>pR n (lG n) (fD n) (iW n) (fQ n) p0 p1 p2 p3 p4
def iW:Nat→Int→Int→Int→Ty→Int→Bool→Option (Bool×Int)
 |0,_,_,_,_,_,_=>none
 |n+1,p0,p1,p2,p3,p4,p5=>sS n (lG n) (fD n) (iW n) (fQ n) p0 p1 p2 p3 p4 p5
def fQ:Nat→Ty→Int→Int→Int→Int→Option (Bool×Int)
 |0,_,_,_,_,_=>none
 |n+1,p0,p1,p2,p3,p4=>qE n (lG n) (fD n) (iW n) (fQ n) p0 p1 p2 p3 p4
end
def ql n p0:=(iW n 0 16 6 p0 1 false).bind λx1=>some x1.1
def NQ(n:Nat)(qcg:F16t)(qcc:F17t)(qco:F7t)(qcp:F7t)(p0:List Ty)(p1:Int)(rec:F4t)(s1:Int):Option (LR Unit Int):=(cond (decide (s1<(p0.length:Int))) ((idx p0 s1).bind fun x1=>((qcp x1 p1).bind fun x2=>(cond x2 (some (.rt s1)) (rec (s1+1))))) (some (.nx ())))
def Bn(n:Nat)(qcg:F16t)(qcc:F17t)(qco:F7t)(qcp:F7t)(p0:List Ty)(p1:Int)(k:Nat):Int→Option (LR Unit Int):=aL (NQ n qcg qcc qco qcp p0 p1) k
def qH(n:Nat)(qcg:F16t)(qcc:F17t)(qco:F7t)(qcp:F7t)(p0:List Ty)(p1:Int):Option Int:=((Bn n qcg qcc qco qcp p0 p1 n 0).bind (LR.el (fun s2=>some (-1)) (fun r=>some r)))
def oq(n:Nat)(qcg:F16t)(qcc:F17t)(qco:F7t)(qcp:F7t)(p0:List Ty)(p1:Int):Option Bool:=((qcg p0 p1).bind fun x1=>some (decide (0≤x1)))
def Az(n:Nat)(qcg:F16t)(qcc:F17t)(qco:F7t)(qcp:F7t)(p0:Ty)(p1:Int):Option Bool:=(((cond (p0.kind==p1) (some true) ((qcc p0.kids p1).bind fun x1=>some x1)):Option Bool).bind fun s1=>some s1)
def xP(n:Nat)(qcg:F16t)(qcc:F17t)(qco:F7t)(qcp:F7t)(p0:Ty)(p1:Int):Option Bool:=((qco p0 p1).bind fun x1=>some x1)
mutual
def mE:Nat→(List Ty)→Int→Option Int
 |0,_,_=>none
 |n+1,p0,p1=>qH n (mE n) (jl n) (oO n) (mK n) p0 p1
def jl:Nat→(List Ty)→Int→Option Bool
 |0,_,_=>none
 |n+1,p0,p1=>oq n (mE n) (jl n) (oO n) (mK n) p0 p1
def oO:Nat→Ty→Int→Option Bool
 |0,_,_=>none
 |n+1,p0,p1=>Az n (mE n) (jl n) (oO n) (mK n) p0 p1
def mK:Nat→Ty→Int→Option Bool
 |0,_,_=>none
 |n+1,p0,p1=>xP n (mE n) (jl n) (oO n) (mK n) p0 p1
end
def yt n p0:=((ql n p0).bind λx1=>(cond x1 ((oO n p0 2).bind λx2=>some (!x2)) (some false))).bind λs1=>some s1
def acJ(n:Nat)(qcn:F35t)(p0:Ty)(rec:(Int×(List (Str×Bool)))→Option (LR (List (Str×Bool)) (List (Str×Bool))))(s2:Int×(List (Str×Bool))):Option (LR (List (Str×Bool)) (List (Str×Bool))):=(cond (decide (s2.1<(p0.kids.length:Int))) ((idx p0.kids s2.1).bind fun x1=>((qcn x1 s2.2).bind fun x2=>rec ((s2.1+1),x2))) (some (.nx s2.2)))
def Fg(n:Nat)(qcn:F35t)(p0:Ty)(k:Nat):(Int×(List (Str×Bool)))→Option (LR (List (Str×Bool)) (List (Str×Bool))):=aL (acJ n qcn p0) k
def BM(n:Nat)(qcn:F35t)(p0:Ty)(p1:List (Str×Bool)):Option (List (Str×Bool)):=(((cond (p0.kind==3) ((yG p1 p0.name true).bind fun x3=>some x3) (some p1)):Option (List (Str×Bool))).bind fun s1=>((Fg n qcn p0 n (0,s1)).bind (LR.el (fun s3=>some s3) (fun r=>some r))))
def qC:Nat->Ty->List (Str×Bool)->Option (List (Str×Bool))|0,_,_=>none|n+1,p,a=>BM n (qC n) p a
def wV n p0:=(ql n p0).bind λx1=>cond (!x1) (some ([]:List Str)) ((qC n p0 ([]:List (Str×Bool))).bind λx2=>((ow n x2).bind λx3=>some x3))
def aa1(n:Nat)(p:Carrier)p1:=some (p.name==p1)
def Lh(n:Nat)(p0:List Carrier)(p1:Str)(rec:F4t)(s1:Int):Option (LR Unit Int):=(cond (decide (s1<(p0.length:Int))) ((idx p0 s1).bind fun x1=>(cond (x1.name==p1) (some (.rt s1)) (rec (s1+1)))) (some (.nx ())))
def zK n p0 p1 k:=aL (Lh n p0 p1) k
def Dp n p0 p1:=(zK n p0 p1 n 0).bind (LR.el (λs2=>some (-1)) λr=>some r)
def zL n p0 p1:=(Dp n p0 p1).bind λx1=>some (decide (0<=x1))
def Fz(n)(p:Env)p1:=(zL n p.carriers p1).bind λx1=>some x1
def Fh n p0 p1 p2:=(Fz n (Env.mk p1 p2) p0).bind λx1=>some !x1
def NA(n:Nat)(p0:List Str)(p1:List Carrier)(p2:List Decl)(rec:F4t)(s1:Int):Option (LR Unit Int):=(cond (decide (s1<(p0.length:Int))) ((idx p0 s1).bind fun x1=>((Fh n x1 p1 p2).bind fun x2=>(cond x2 (some (.rt s1)) (rec (s1+1))))) (some (.nx ())))
def AP n p0 p1 p2 k:=aL (NA n p0 p1 p2) k
def E8 n p0 p1 p2:=(AP n p0 p1 p2 n 0).bind (LR.el (λs2=>some (-1)) λr=>some r)
def Bb n p0 p1 p2:=(E8 n p0 p1 p2).bind λx1=>some (decide (0<=x1))
def Ct(n:Nat)(p:Env)p1:=(wV n p1).bind λx1=>(Bb n x1 p.carriers p.names).bind λx2=>some (!x2)
def aaN(n:Nat)(p:Env)(r:F18t)(s1:(List Str)×Int):=cond (decide (s1.2<(p.carriers.length:Int))) ((idx p.carriers s1.2).bind λx3=>(app 16 s1.1 ([x3.name])).bind λx4=>((app 16 x4 x3.elems).bind λx5=>r (x5,(s1.2+1)))) (some (.nx s1.1))
def Ni n p0 k:=aL (aaN n p0) k
def aaD(n:Nat)(p:Env)(r:F18t)(s:(List Str)×Int):=cond (decide (s.2<(p.names.length:Int))) ((idx p.names s.2).bind λx1=>(app 16 s.1 ([x1.name])).bind λx2=>r (x2,(s.2+1))) (some (.nx s.1))
def Nq n p0 k:=aL (aaD n p0) k
def Co n p0:=(Ni n p0 n (([]),0)).bind (LR.el (λs2=>((Nq n p0 n (s2,0)).bind (LR.el (λs4=>some s4) (λr=>some r)))) λr=>some r)
def aaH(n:Nat)p0(r:(Int×(List (Str×Bool)))->Option (LR Unit Bool))(s1:Int×(List (Str×Bool))):=cond (decide (s1.1<(p0.length:Int))) ((idx p0 s1.1).bind λx1=>((mel (dn s1.2 x1) (some false) (λx3=>some x3)):Option Bool).bind λs3=>(cond s3 (some (.rt false)) ((yG s1.2 x1 true).bind λx2=>r ((s1.1+1),x2)))) (some (.nx ()))
def NR n p0 k:=aL (aaH n p0) k
def Cm n p0:=(NR n p0 n (0,([]))).bind (LR.el (λs2=>some true) λr=>some r)
def aaW(n)(x:Carrier)(r:F2t)s8:=cond (decide (s8<(x.elems.length:Int))) ((idx x.elems s8).bind λx8=>(gX n x8).bind λx9=>(cond (!x9) (some (.rt false)) (r (s8+1)))) (some (.nx ()))
def wz n x7 k:=aL (aaW n x7) k
def aaF(n)(p:Env)(e:F2t)s2:=cond (decide (s2<(p.carriers.length:Int))) ((idx p.carriers s2).bind λx7=>(((gX n x7.name).bind λx10=>(cond (!x10) (some true) (some (decide (8<(x7.elems.length:Int)))))):Option Bool).bind λs7=>(cond s7 (some (.rt false)) ((wz n x7 n 0).bind (LR.el (λs9=>e (s2+1)) (λr=>some (.rt r)))))) (some (.nx ()))
def NZ n p0 k:=aL (aaF n p0) k
def aaL(n)p0(r:F2t)s4:=cond (decide (s4<(p0.names.length:Int))) ((idx p0.names s4).bind λx3=>(((wB n x3.name).bind λx4=>(cond (!x4) (some true) ((yt n x3.ty).bind λx5=>(cond (!x5) (some true) ((Ct n p0 x3.ty).bind λx6=>some (!x6)))))):Option Bool).bind λs6=>(cond s6 (some (.rt false)) (r (s4+1)))) (some (.nx ()))
def Oa n p0 k:=aL (aaL n p0) k
def rY n p0:=(cond (decide (8<(p0.carriers.length:Int))) (some true) (some (decide (64<(p0.names.length:Int))))).bind λs1=>cond s1 (some false) ((NZ n p0 n 0).bind (LR.el (λs3=>((Oa n p0 n 0).bind (LR.el (λs5=>((Co n p0).bind λx1=>((Cm n x1).bind λx2=>some x2))) (λr=>some r)))) (λr=>some r)))
def yu(n:Nat)(p:Env)p1(r:F2t)s1:=cond (decide (s1<(p.carriers.length:Int))) ((idx p.carriers s1).bind λx1=>((((idx p1 s1).bind λx2=>(cond (decide (x2<1)) (some true) ((idx p1 s1).bind λx3=>(cond (decide (8<x3)) (some true) (cond (decide (0<(x1.elems.length:Int))) ((idx p1 s1).bind λx4=>some (x4 !=(x1.elems.length:Int))) (some false)))))):Option Bool).bind λs3=>(cond s3 (some (.rt false)) (r (s1+1))))) (some (.nx ()))
def zW n p0 p1 k:=aL (yu n p0 p1) k
def Bh n p0 p1:=cond ((p1.length)!=(p0.carriers.length:Int)) (some false) ((zW n p0 p1 n 0).bind (LR.el (λs2=>some true) (λr=>some r)))
def ar9(n:Nat)(p:Carrier)p1:=some (p.name==p1)
def I4(n:Nat)(p0:List Carrier)(p1:Str)(rec:F4t)(s1:Int):Option (LR Unit Int):=(cond (decide (s1<(p0.length:Int))) ((idx p0 s1).bind fun x1=>(cond (x1.name==p1) (some (.rt s1)) (rec (s1+1)))) (some (.nx ())))
def wY n p0 p1 k:=aL (I4 n p0 p1) k
def zN n p0 p1:=(wY n p0 p1 n 0).bind (LR.el (λs2=>some (-1)) λr=>some r)
def Pz(n)(p:Env)p1:=(zN n p.carriers p1).bind λx1=>some x1
def cmp_isNaN_int(n:Nat)(p:Int):=some (p !=p)
def cmp_Compare_int(n:Nat)p0(p:Int):=cond (p0 !=p0) (cond (p !=p) (some 0) (some (-1))) (cond (p !=p) (some 1) (cond (decide (p0<p)) (some (-1)) (cond (decide (p<p0)) (some 1) (some 0))))
def K3(n:Nat)(p0:List Int)(rec:F4t)(s1:Int):Option (LR Unit Int):=(cond (decide (s1<(p0.length:Int))) ((idx p0 s1).bind fun x1=>(cond (x1 !=0) (some (.rt x1)) (rec (s1+1)))) (some (.nx ())))
def Gw n p0 k:=aL (K3 n p0) k
def Yp n p0:=(Gw n p0 n 0).bind (LR.el (λs2=>some 0) λr=>some r)
def jJ(n:Nat)(qb9:F25t)(qbx:F9t)(p0:List Val)(p1:List Val)(rec:F4t)(s1:Int):Option (LR Unit Int):=(cond (decide (s1<(p0.length:Int))) ((idx p0 s1).bind fun x1=>(cond (decide ((p1.length:Int)≤s1)) (some (.rt 1)) ((idx p1 s1).bind fun x2=>((qbx x1 x2).bind fun x3=>(cond (x3 !=0) (some (.rt x3)) (rec (s1+1))))))) (some (.nx ())))
def mW(n:Nat)(qb9:F25t)(qbx:F9t)(p0:List Val)(p1:List Val)(k:Nat):Int→Option (LR Unit Int):=aL (jJ n qb9 qbx p0 p1) k
def pV(n:Nat)(qb9:F25t)(qbx:F9t)(p0:List Val)(p1:List Val):Option Int:=((mW n qb9 qbx p0 p1 n 0).bind (LR.el (fun s2=>(cond (decide ((p0.length:Int)<(p1.length:Int))) (some (-1)) (some 0))) (fun r=>some r)))
def Fx(n:Nat)(qb9:F25t)(qbx:F9t)(p0:Val)(p1:Val):Option Int:=((cmp_Compare_int n p0.kind p1.kind).bind fun x1=>((cmp_Compare_int n p0.n p1.n).bind fun x2=>((strings_Compare n p0.name p1.name).bind fun x3=>((Yp n ([x1,x2,x3])).bind fun x4=>(cond (x4 !=0) (some x4) ((qb9 p0.kids p1.kids).bind fun x5=>some x5))))))
mutual
def lV:Nat→(List Val)→(List Val)→Option Int
 |0,_,_=>none
 |n+1,p0,p1=>pV n (lV n) (dY n) p0 p1
def dY:Nat→Val→Val→Option Int
 |0,_,_=>none
 |n+1,p0,p1=>Fx n (lV n) (dY n) p0 p1
end
def DN(n:Nat)(qbz:F8t)(qb0:F19t)(p2:Val)(rec:F2t)(s6:Int):Option (LR Unit Bool):=(cond (decide (s6<(p2.kids.length:Int))) ((idx p2.kids (IntKind.wrap .i64 (s6 - 1))).bind fun x4=>((idx p2.kids s6).bind fun x5=>((dY n x4 x5).bind fun x6=>(cond (decide (0≤x6)) (some (.rt false)) (rec (s6+1)))))) (some (.nx ())))
def FR(n:Nat)(qbz:F8t)(qb0:F19t)(p2:Val)(k:Nat):Int→Option (LR Unit Bool):=aL (DN n qbz qb0 p2) k
def ko(n:Nat)(qbz:F8t)(qb0:F19t)(p0:Env)(p1:List Int)(p2:Val)(p3:Ty):Option Bool:=(cond (p3.kind==1) (((cond (p2.kind==1) (cond (decide ((-1000000000)≤p2.n)) (cond (decide (p2.n≤1000000000)) (cond (p2.name==([]:Str)) (some ((p2.kids.length:Int)==0)) (some false)) (some false)) (some false)) (some false)):Option Bool).bind fun s1=>some s1) (cond (p3.kind==2) (((cond (p2.kind==2) (cond (p2.n==0) (cond (p2.name==([]:Str)) (some ((p2.kids.length:Int)==0)) (some false)) (cond (p2.n==1) (cond (p2.name==([]:Str)) (some ((p2.kids.length:Int)==0)) (some false)) (some false))) (some false)):Option Bool).bind fun s2=>some s2) (cond (p3.kind==3) ((Pz n p0 p3.name).bind fun x1=>(((cond (decide (0≤x1)) (cond (p2.kind==3) (cond (p2.name==p3.name) (cond (decide (0≤p2.n)) ((idx p1 x1).bind fun x2=>(cond (decide (p2.n<x2)) (some ((p2.kids.length:Int)==0)) (some false))) (some false)) (some false)) (some false)) (some false)):Option Bool).bind fun s3=>some s3)) (cond (p3.kind==4) (((cond (p2.kind==4) (cond (p2.n==0) (cond (p2.name==([]:Str)) (cond ((p2.kids.length:Int)==2) ((qb0 p3.kids p2.kind p2.n p2.name p2.kids p0.carriers p0.names p1).bind fun x3=>some x3) (some false)) (some false)) (some false)) (some false)):Option Bool).bind fun s4=>some s4) (cond (p3.kind==5) (((cond (p2.kind !=5) (some true) (cond (p2.n !=0) (some true) (cond (!(p2.name==([]:Str))) (some true) (cond (decide (256<(p2.kids.length:Int))) (some true) ((qb0 p3.kids p2.kind p2.n p2.name p2.kids p0.carriers p0.names p1).bind fun x7=>some (!x7)))))):Option Bool).bind fun s5=>(cond s5 (some false) ((FR n qbz qb0 p2 n 1).bind (LR.el (fun s7=>some true) (fun r=>some r))))) (some false))))))
def yX(n:Nat)(qbz:F8t)(qb0:F19t)(p0:List Ty)(p4:List Val)(p5:List Carrier)(p6:List Decl)(p7:List Int)(rec:F2t)(s1:Int):Option (LR Unit Bool):=(cond (decide (s1<(p4.length:Int))) ((idx p4 s1).bind fun x1=>((idx p0 (if((p0.length:Int) - 1)<s1 then((p0.length:Int) - 1)else s1)).bind fun x2=>((qbz (Env.mk p5 p6) p7 x1 x2).bind fun x3=>(cond (!x3) (some (.rt false)) (rec (s1+1)))))) (some (.nx ())))
def Ba(n:Nat)(qbz:F8t)(qb0:F19t)(p0:List Ty)(p4:List Val)(p5:List Carrier)(p6:List Decl)(p7:List Int)(k:Nat):Int→Option (LR Unit Bool):=aL (yX n qbz qb0 p0 p4 p5 p6 p7) k
def wQ(n:Nat)(qbz:F8t)(qb0:F19t)(p0:List Ty)(p1:Int)(p2:Int)(p3:Str)(p4:List Val)(p5:List Carrier)(p6:List Decl)(p7:List Int):Option Bool:=((Ba n qbz qb0 p0 p4 p5 p6 p7 n 0).bind (LR.el (fun s2=>some true) (fun r=>some r)))
mutual
def kN:Nat→Env→(List Int)→Val→Ty→Option Bool
 |0,_,_,_,_=>none
 |n+1,p0,p1,p2,p3=>ko n (kN n) (wF n) p0 p1 p2 p3
def wF:Nat→(List Ty)→Int→Int→Str→(List Val)→(List Carrier)→(List Decl)→(List Int)→Option Bool
 |0,_,_,_,_,_,_,_,_=>none
 |n+1,p0,p1,p2,p3,p4,p5,p6,p7=>wQ n (kN n) (wF n) p0 p1 p2 p3 p4 p5 p6 p7
end
def aaR(n)(p:S_api_World)(r:F2t)s2:=cond (decide (s2<(p.env.names.length:Int))) ((idx p.env.names s2).bind λx1=>(idx p.values s2).bind λx2=>((kN n p.env p.sizes x2 x1.ty).bind λx3=>(cond (!x3) (some (.rt false)) (r (s2+1))))) (some (.nx ()))
def NG n p0 k:=aL (aaR n p0) k
def wP n p0:=((rY n p0.env).bind λx4=>(cond (!x4) (some true) ((Bh n p0.env p0.sizes).bind λx5=>(cond (!x5) (some true) (some ((p0.values.length:Int)!=(p0.env.names.length:Int))))))).bind λs1=>cond s1 (some false) ((NG n p0 n 0).bind (LR.el (λs3=>some true) (λr=>some r)))
def Te(n:Nat)(p:Int):=(cond (p==1) (some (p==1)) (cond (p==2) (some (p==2)) (cond (p==19) (some (p==19)) (cond (p==20) (some (p==20)) (some (p==29)))))).bind λs1=>cond s1 (some (0,true)) (((cond (p==3) (some (p==3)) (cond (p==21) (some (p==21)) (((cond (decide (46<=p)) (some (decide (p<=51))) (some false)):Option Bool).bind λs4=>(cond s4 (some s4) (some (p==52)))))):Option Bool).bind λs2=>(cond s2 (some (1,true)) (cond (p==28) (some ((-1),true)) (((cond (decide (1<=p)) (some (decide (p<=56))) (some false)):Option Bool).bind λs3=>(cond s3 (some (2,true)) (some (0,false)))))))
def YA n p0:=(strings_TrimSuffix n p0 [39]).bind λx1=>(gX n x1).bind λx2=>some x2
def FZ(n:Nat)(p:Int):=(cond (p==8) (some true) (cond (p==9) (some true) (cond (p==55) (some true) (some (p==56))))).bind λs1=>some s1
def Gc(n:Nat)(p:Ty):=(cond (p.kind==0) (cond (p.name==([]:Str)) (some ((p.kids.length:Int)==0)) (some false)) (some false)).bind λs1=>some s1
def MP(n:Nat)(p:Tm):=((Te n p.op).bind λx1=>(((((cond (!x1.2) (some (!x1.2)) (((cond (x1.1==(-1)) (some ((p.kids.length:Int)==0)) (some false)):Option Bool).bind λs6=>(cond s6 (some s6) (cond (x1.1 !=(-1)) (some ((p.kids.length:Int)!=x1.1)) (some false))))):Option Bool).bind λs5=>(cond s5 (some (.rt false)) (cond (p.op==20) ((YA n p.name).bind λx4=>some (.nx x4)) ((FZ n p.op).bind λx5=>(cond x5 ((gX n p.name).bind λx6=>some (.nx x6)) (some (.nx (p.name==([]:Str))))))))):Option (LR Bool Bool)).bind (LR.el (λs1=>(((cond (p.op==19) (cond s1 (cond (decide (0<=p.n)) (some (decide (p.n<=1000000000))) (some false)) (some false)) (cond s1 (some (p.n==0)) (some false))):Option Bool).bind λs2=>(cond (p.op==29) (((cond s2 (cond (p.ty.kind !=2) ((ql n p.ty).bind λx2=>some x2) (some false)) (some false)):Option Bool).bind λs3=>some s3) (((cond s2 ((Gc n p.ty).bind λx3=>some x3) (some false)):Option Bool).bind λs4=>some s4)))) (λr=>some r))))
def Pj(n:Nat)(qce:F20t)(qca:F21t)(qch:F22t)(qci:F23t)(p0:List Tm)(p2:Int)(p3:Int)(p4:Int)(rec:F41t)(s1:Int×Int):Option (LR Int (Int×Int)):=(cond (decide (s1.1<(p0.length:Int))) ((idx p0 s1.1).bind fun x1=>((qci x1 s1.2 p2 p3 p4).bind fun x2=>(cond x2.1 (some (.rt (s1.1,x2.2))) (rec ((s1.1+1),x2.2))))) (some (.nx s1.2)))
def Du(n:Nat)(qce:F20t)(qca:F21t)(qch:F22t)(qci:F23t)(p0:List Tm)(p2:Int)(p3:Int)(p4:Int)(k:Nat):(Int×Int)→Option (LR Int (Int×Int)):=aL (Pj n qce qca qch qci p0 p2 p3 p4) k
def kg(n:Nat)(qce:F20t)(qca:F21t)(qch:F22t)(qci:F23t)(p0:List Tm)(p1:Int)(p2:Int)(p3:Int)(p4:Int):Option (Int×Int):=((Du n qce qca qch qci p0 p2 p3 p4 n (0,p1)).bind (LR.el (fun s2=>some ((-1),s2)) (fun r=>some r)))
def xZ(n:Nat)(qce:F20t)(qca:F21t)(qch:F22t)(qci:F23t)(p0:List Tm)(p1:Int)(p2:Int)(p3:Int)(p4:Int):Option (Bool×Int):=((qce p0 p1 p2 p3 p4).bind fun x1=>some ((decide (0≤x1.1)),x1.2))
def xI(n:Nat)(qce:F20t)(qca:F21t)(qch:F22t)(qci:F23t)(p0:Int)(p1:Int)(p2:Int)(p3:Tm)(p4:Int):Option (Bool×Int):=((((lS n p0 p1 p2 p4).bind fun x2=>(cond (!x2.1) (some (true,x2.2)) ((MP n p3).bind fun x3=>some ((!x3),x2.2)))):Option (Bool×Int)).bind fun s1=>(cond s1.1 (some (false,s1.2)) ((qca p3.kids s1.2 p1 p2 p4).bind fun x1=>some ((!x1.1),x1.2))))
def uY(n:Nat)(qce:F20t)(qca:F21t)(qch:F22t)(qci:F23t)(p0:Tm)(p1:Int)(p2:Int)(p3:Int)(p4:Int):Option (Bool×Int):=((qch p1 p2 p3 p0 (IntKind.wrap .i64 (p4+1))).bind fun x1=>some ((!x1.1),x1.2))
mutual
def lD:Nat→(List Tm)→Int→Int→Int→Int→Option (Int×Int)
 |0,_,_,_,_,_=>none
 |n+1,p0,p1,p2,p3,p4=>kg n (lD n) (iR n) (kM n) (iU n) p0 p1 p2 p3 p4
def iR:Nat→(List Tm)→Int→Int→Int→Int→Option (Bool×Int)
 |0,_,_,_,_,_=>none
 |n+1,p0,p1,p2,p3,p4=>xZ n (lD n) (iR n) (kM n) (iU n) p0 p1 p2 p3 p4
def kM:Nat→Int→Int→Int→Tm→Int→Option (Bool×Int)
 |0,_,_,_,_,_=>none
 |n+1,p0,p1,p2,p3,p4=>xI n (lD n) (iR n) (kM n) (iU n) p0 p1 p2 p3 p4
def iU:Nat→Tm→Int→Int→Int→Int→Option (Bool×Int)
 |0,_,_,_,_,_=>none
 |n+1,p0,p1,p2,p3,p4=>uY n (lD n) (iR n) (kM n) (iU n) p0 p1 p2 p3 p4
end
def J7 n p0:=(kM n 0 2000 64 p0 1).bind λx1=>some x1.1
def arM(n:Nat)p0:=some (Ty.mk 5 ([]) [p0])
def ag7(n:Nat)(x3:Carrier)(rec:F36t)(s5:Int×(List (Str×Ty))):Option (LR (List (Str×Ty)) (List (Str×Ty))):=(cond (decide (s5.1<(x3.elems.length:Int))) ((idx x3.elems s5.1).bind fun x5=>((yG s5.2 x5 (Ty.mk 3 x3.name ([]))).bind fun x6=>rec ((s5.1+1),x6))) (some (.nx s5.2)))
def wE n x3 k:=aL (ag7 n x3) k
def ahe(n:Nat)(p0:Env)(rec:F36t)(s1:Int×(List (Str×Ty))):Option (LR (List (Str×Ty)) (List (Str×Ty))):=(cond (decide (s1.1<(p0.carriers.length:Int))) ((idx p0.carriers s1.1).bind fun x3=>((yG s1.2 x3.name (Ty.mk 5 ([]:Str) ([(Ty.mk 3 x3.name ([]))]))).bind fun x4=>((wE n x3 n (0,x4)).bind (LR.el (fun s6=>rec ((s1.1+1),s6)) (fun r=>some (.rt r)))))) (some (.nx s1.2)))
def TJ n p0 k:=aL (ahe n p0) k
def ahb(n:Nat)(p0:Env)(rec:F36t)(s3:Int×(List (Str×Ty))):Option (LR (List (Str×Ty)) (List (Str×Ty))):=(cond (decide (s3.1<(p0.names.length:Int))) ((idx p0.names s3.1).bind fun x1=>((yG s3.2 x1.name x1.ty).bind fun x2=>rec ((s3.1+1),x2))) (some (.nx s3.2)))
def Ug n p0 k:=aL (ahb n p0) k
def Kh n p0:=(TJ n p0 n (0,([]))).bind (LR.el (λs2=>((Ug n p0 n (0,s2)).bind (LR.el (λs4=>some s4) (λr=>some r)))) λr=>some r)
def ath(n:Nat):=some (Ty.mk 2 [] [])
def auk(n:Nat)(p:Int)(a:Ty):=some ()
def ak9(n:Nat):=some (Ty.mk 1 [] [])
def awy(n:Nat):=some ()
def aeA(n:Nat):=some ()
def asU(n:Nat):=some ()
def aku(n:Nat)(p:Ty):=some ()
def atA(n:Nat):=some ()
def aoZ(n:Nat):=some ()
def atH(n:Nat):=some ()
def aoB(n:Nat):=some ()
def arF(n:Nat):=some ()
def aa9(n:Nat):=some ()
def aaP(n:Nat):=some ()
def akQ(n:Nat):=some ()
def alj(n:Nat):=some ()
def aa6(n:Nat):=some ()
def aaT(n:Nat):=some ()
def aa7(n:Nat):=some ()
def aaX(n:Nat):=some ()
def aaE(n:Nat):=some ()
def auf(n:Nat):=some ()
def Xh(n:Nat)(p:Env)(r:(Int×(List (Str×Bool)))->Option (LR (List (Str×Bool)) ((List (Str×Ty))×(List (Str×Bool)))))(s1:Int×(List (Str×Bool))):Option (LR (List (Str×Bool)) ((List (Str×Ty))×(List (Str×Bool)))):=cond (decide (s1.1<(p.carriers.length:Int))) ((idx p.carriers s1.1).bind λx2=>(yG s1.2 x2.name true).bind λx3=>r ((s1.1+1),x3)) (some (.nx s1.2))
def Kc n p0 k:=aL (Xh n p0) k
def FB n p0:=(Kh n p0).bind λx1=>(Kc n p0 n (0,([]:List (Str×Bool)))).bind (LR.el (λs2=>some (x1,s2)) (λr=>some r))
def Bg(n:Nat)(p:Int):=(cond (p==8) (some true) (cond (p==9) (some true) (cond (p==55) (some true) (some (p==56))))).bind λs1=>some s1
def dx(n:Nat)(p:Ty):=cond (p.kind !=5) (some ((Ty.mk 0 ([]:Str) ([])),false)) ((idx p.kids 0).bind λx1=>some (x1,true))
def SB(n:Nat)p1(r:(List Decl)->Option (LR Unit (Ty×Bool)))s1:=cond (true !=List.isEmpty s1) ((unc s1).bind λx1=>cond (x1.1.name==p1) ((unc s1).bind λx2=>some (.rt (x2.1.ty,true))) ((unc s1).bind λx3=>r x3.2)) (some (.nx ()))
def qL n p1 k:=aL (SB n p1) k
def vF n p0 p1:=(qL n p1 n p0).bind (LR.el (λs2=>some ((Ty.mk 0 ([]:Str) ([])),false)) λr=>some r)
def qN(n:Nat)p0(p:List (Str×Ty))p2(a:List Int):=(mel (dn p2 p0) (some true) (λx1=>some (!x1))).bind λs1=>some s1
def JA(n:Nat)(p0:List Str)(p1:List (Str×Ty))(p2:List (Str×Bool))(p3:List Int)(rec:F4t)(s1:Int):Option (LR Unit Int):=(cond (decide (s1<(p0.length:Int))) ((idx p0 s1).bind fun x1=>((qN n x1 p1 p2 p3).bind fun x2=>(cond x2 (some (.rt s1)) (rec (s1+1))))) (some (.nx ())))
def xX n p0 p1 p2 p3 k:=aL (JA n p0 p1 p2 p3) k
def Bq n p0 p1 p2 p3:=(xX n p0 p1 p2 p3 n 0).bind (LR.el (λs2=>some (-1)) λr=>some r)
def xW n p0 p1 p2 p3:=(Bq n p0 p1 p2 p3).bind λx1=>some (decide (0<=x1))
def tO n p0 p1 p2 p3:=(wV n p3).bind λx1=>(xW n x1 p0 p1 p2).bind λx2=>some (!x2)
def uH(n:Nat)(p:Ty):Option (Ty×Int):=(ql n p).bind λx1=>cond (!x1) (some ((Ty.mk 0 ([]:Str) ([])),5)) (some (p,0))
def aeQ(n:Nat)(p:List Ty)p1(p2)p3:=some (Ty.mk p1 p2 p3,true)
def ah2(n:Nat)(p:Ty)p1:=some (p.kind !=p1)
def Nh(n:Nat)(p0:List Ty)(p1:Int)(rec:F4t)(s1:Int):Option (LR Unit Int):=(cond (decide (s1<(p0.length:Int))) ((idx p0 s1).bind fun x1=>(cond (x1.kind !=p1) (some (.rt s1)) (rec (s1+1)))) (some (.nx ())))
def Bw n p0 p1 k:=aL (Nh n p0 p1) k
def E5 n p0 p1:=(Bw n p0 p1 n 0).bind (LR.el (λs2=>some (-1)) λr=>some r)
def Bt n p0 p1:=(E5 n p0 p1).bind λx1=>some (decide (0<=x1))
def aZ n p0 p1 p2 p3 p4:=(Bt n p0 p4).bind λx1=>some (Ty.mk p1 p2 p3,!x1)
def ao0(n:Nat)(p:Ty):=some (Ty.mk 2 [] [])
def wZ(n:Nat)(p:List Ty):=(idx p 0).bind λx1=>(idx p 1).bind λx2=>some ((Ty.mk 2 ([]:Str) ([])),(x2.kind==2))
def Pp(n:Nat)(qcd:F26t)(qcr:F27t)(p0:List Ty)(p1:List Ty)(rec:F2t)(s1:Int):Option (LR Unit Bool):=(cond (decide (s1<(p0.length:Int))) ((idx p0 s1).bind fun x1=>((idx p1 s1).bind fun x2=>((qcr x1 x2).bind fun x3=>(cond (!x3) (some (.rt false)) (rec (s1+1)))))) (some (.nx ())))
def C9(n:Nat)(qcd:F26t)(qcr:F27t)(p0:List Ty)(p1:List Ty)(k:Nat):Int→Option (LR Unit Bool):=aL (Pp n qcd qcr p0 p1) k
def sU(n:Nat)(qcd:F26t)(qcr:F27t)(p0:List Ty)(p1:List Ty):Option Bool:=(cond ((p0.length:Int)!=(p1.length:Int)) (some false) ((C9 n qcd qcr p0 p1 n 0).bind (LR.el (fun s2=>some true) (fun r=>some r))))
def FC(n:Nat)(qcd:F26t)(qcr:F27t)(p0:Ty)(p1:Ty):Option Bool:=(((cond (p0.kind==p1.kind) (cond (p0.name==p1.name) ((qcd p0.kids p1.kids).bind fun x1=>some x1) (some false)) (some false)):Option Bool).bind fun s1=>some s1)
mutual
def rV:Nat→(List Ty)→(List Ty)→Option Bool
 |0,_,_=>none
 |n+1,p0,p1=>sU n (rV n) (jQ n) p0 p1
def jQ:Nat→Ty→Ty→Option Bool
 |0,_,_=>none
 |n+1,p0,p1=>FC n (rV n) (jQ n) p0 p1
end
def DU n p0 p1:=(idx p1 0).bind λx1=>(jQ n p0 x1).bind λx2=>some (!x2)
def Nl(n:Nat)(p0:List Ty)(p1:List Ty)(rec:F4t)(s1:Int):Option (LR Unit Int):=(cond (decide (s1<(p0.length:Int))) ((idx p0 s1).bind fun x1=>((DU n x1 p1).bind fun x2=>(cond x2 (some (.rt s1)) (rec (s1+1))))) (some (.nx ())))
def Bj n p0 p1 k:=aL (Nl n p0 p1) k
def vR n p0 p1:=(Bj n p0 p1 n 0).bind (LR.el (λs2=>some (-1)) λr=>some r)
def sQ n p0 p1:=(vR n p0 p1).bind λx1=>some (decide (0<=x1))
def oW n p0:=((idx p0 0).bind λx1=>(cond (x1.kind !=2) ((sQ n p0 p0).bind λx2=>some (!x2)) (some false))).bind λs1=>some s1
def Bf n p0:=(oW n p0).bind λx1=>some (Ty.mk 2 ([]:Str) ([]),x1)
def Bu n p0:=(idx p0 1).bind λx1=>(dx n x1).bind λx2=>(((cond x2.2 ((idx p0 0).bind λx3=>((jQ n x3 x2.1).bind λx4=>some x4)) (some false)):Option Bool).bind λs1=>some ((Ty.mk 2 ([]:Str) ([])),s1))
def Ka n p0:=((idx p0 0).bind λx1=>((idx p0 0).bind λx2=>(cond (x2.kind==5) ((oW n p0).bind λx3=>some x3) (some false)))).bind λs1=>some ((Ty.mk 2 ([]:Str) ([])),s1)
def aoV(n:Nat)p0(p1):=some (Ty.mk 4 ([]) [p0,p1])
def Oj(n:Nat)p0:=((idx p0 0).bind λx1=>((idx p0 1).bind λx2=>((idx p0 0).bind λx3=>(cond (x3.kind !=2) ((idx p0 1).bind λx4=>some ((x4.kind !=2),([x1,x2]))) (some (false,([x1,x2]))))))).bind λs1=>some ((Ty.mk 4 ([]:Str) s1.2),s1.1)
def AX n p0:=(idx p0 0).bind λx1=>(oW n p0).bind λx2=>some ((Ty.mk 5 ([]:Str) ([x1])),x2)
def aoN(n:Nat)(p:Ty):=some p
def o7 n p0:=((idx p0 0).bind λx1=>((idx p0 0).bind λx2=>(cond (x2.kind==5) ((oW n p0).bind λx3=>some (x3,x1.kind,x1.name,x1.kids)) (some (false,x1.kind,x1.name,x1.kids))))).bind λs1=>some ((Ty.mk s1.2.1 s1.2.2.1 s1.2.2.2),s1.1)
def aij(n:Nat)p0(p1):=some (Ty.mk 5 ([]) [(Ty.mk 4 ([]:Str) ([p0,p1]))])
def Lc n p0:=(idx p0 0).bind λx1=>(dx n x1).bind λx2=>((idx p0 1).bind λx3=>((dx n x3).bind λx4=>(((cond (!x2.2) (some true) (some (!x4.2))):Option Bool).bind λs1=>(cond s1 (some ((Ty.mk 0 ([]:Str) ([])),false)) (some ((Ty.mk 5 ([]:Str) ([(Ty.mk 4 ([]:Str) ([x2.1,x4.1]))])),true))))))
def jN n p0:=(dx n p0).bind λx1=>((cond (!x1.2) (some true) (some (x1.1.kind !=4))):Option Bool).bind λs1=>(cond s1 (some ((Ty.mk 0 ([]:Str) ([])),(Ty.mk 0 ([]:Str) ([])),false)) ((idx x1.1.kids 0).bind λx2=>((idx x1.1.kids 1).bind λx3=>some (x2,x3,true))))
def Z9(n:Nat)(p:Ty)(a:Ty)p2:=(idx p2 0).bind λx1=>(oW n p2).bind λx2=>some (x1,x2)
def yU n p0:=(idx p0 0).bind λx1=>(jN n x1).bind λx2=>(cond (!x2.2.2) (some ((Ty.mk 0 ([]:Str) ([])),false)) ((Z9 n x2.1 x2.2.1 p0).bind λx3=>some (x3.1,x3.2)))
def ZL n p0 p1 p2:=(idx p2 1).bind λx1=>(jN n x1).bind λx2=>(((cond x2.2.2 ((jQ n p1 x2.1).bind λx3=>some (x3,([(Ty.mk 4 ([]:Str) ([p0,x2.2.1]))]))) (some (false,([(Ty.mk 4 ([]:Str) ([p0,x2.2.1]))])))):Option (Bool×(List Ty))).bind λs1=>some ((Ty.mk 5 ([]:Str) s1.2),s1.1))
def y9 n p0:=(idx p0 0).bind λx1=>(jN n x1).bind λx2=>(cond (!x2.2.2) (some ((Ty.mk 0 ([]:Str) ([])),false)) ((ZL n x2.1 x2.2.1 p0).bind λx3=>some (x3.1,x3.2)))
def Bz n p0:=(idx p0 0).bind λx1=>(dx n x1).bind λx2=>((idx p0 1).bind λx3=>((jN n x3).bind λx4=>((((idx p0 1).bind λx5=>(cond x2.2 (cond x4.2.2 ((jQ n x2.1 x4.1).bind λx6=>some (x6,x5.kind,x5.name,x5.kids)) (some (false,x5.kind,x5.name,x5.kids))) (some (false,x5.kind,x5.name,x5.kids)))):Option (Bool×Int×Str×(List Ty))).bind λs1=>some ((Ty.mk s1.2.1 s1.2.2.1 s1.2.2.2),s1.1))))
def ZN(n:Nat)(a:Ty)p1(p:List Ty):=(idx p 1).bind λx1=>(dx n x1).bind λx2=>((((idx p 0).bind λx3=>(cond x2.2 ((jQ n x2.1 p1).bind λx4=>some (x4,x3.kind,x3.name,x3.kids)) (some (false,x3.kind,x3.name,x3.kids)))):Option (Bool×Int×Str×(List Ty))).bind λs1=>some ((Ty.mk s1.2.1 s1.2.2.1 s1.2.2.2),s1.1))
def nR n p0:=(idx p0 0).bind λx1=>(jN n x1).bind λx2=>(cond (!x2.2.2) (some ((Ty.mk 0 ([]:Str) ([])),false)) ((ZN n x2.1 x2.2.1 p0).bind λx3=>some (x3.1,x3.2)))
def ao1(n:Nat)p0(p1):=some (Ty.mk 5 ([]) [(Ty.mk 5 ([]:Str) ([(Ty.mk 4 ([]:Str) ([p0,p1]))]))])
def jL n p0:=(idx p0 0).bind λx1=>(dx n x1).bind λx2=>((idx p0 1).bind λx3=>((dx n x3).bind λx4=>(((cond (!x2.2) (some true) (some (!x4.2))):Option Bool).bind λs1=>(cond s1 (some ((Ty.mk 0 ([]:Str) ([])),false)) (some ((Ty.mk 5 ([]:Str) ([(Ty.mk 5 ([]:Str) ([(Ty.mk 4 ([]:Str) ([x2.1,x4.1]))]))])),true))))))
def al2(n:Nat)p0:=some (Ty.mk 5 ([]:Str) ([(Ty.mk 5 ([]:Str) ([p0]))]),true)
def GN n p0:=(idx p0 0).bind λx1=>(dx n x1).bind λx2=>(cond (!x2.2) (some ((Ty.mk 0 ([]:Str) ([])),false)) (some ((((Ty.mk 5 ([]:Str) ([(Ty.mk 5 ([]:Str) ([x2.1]))])),true).1),((Ty.mk 5 ([]:Str) ([(Ty.mk 5 ([]:Str) ([x2.1]))])),true).2)))
def al5(n:Nat)(p:Ty):=some (Ty.mk 1 ([]) [],true)
def G5 n p0:=(idx p0 0).bind λx1=>(dx n x1).bind λx2=>(cond (!x2.2) (some ((Ty.mk 0 ([]:Str) ([])),false)) (some ((((Ty.mk 1 ([]:Str) ([])),true).1),((Ty.mk 1 ([]:Str) ([])),true).2)))
def apc(n:Nat)(p:Ty):=some (Ty.mk 1 ([]) [],p.kind==1)
def vB n p0:=(idx p0 0).bind λx1=>(dx n x1).bind λx2=>(cond (!x2.2) (some ((Ty.mk 0 ([]:Str) ([])),false)) (some ((((Ty.mk 1 ([]:Str) ([])),(x2.1.kind==1)).1),((Ty.mk 1 ([]:Str) ([])),(x2.1.kind==1)).2)))
def amb(n:Nat)p0(p:Ty)(a:List Ty):=some (Ty.mk 5 ([]:Str) ([p0]),true)
def zl n p0:=(idx p0 0).bind λx1=>(jN n x1).bind λx2=>(cond (!x2.2.2) (some ((Ty.mk 0 ([]:Str) ([])),false)) (some ((((Ty.mk 5 ([]:Str) ([x2.1])),true).1),((Ty.mk 5 ([]:Str) ([x2.1])),true).2)))
def al7(n:Nat)(p:Ty)p1(a:List Ty):=some (Ty.mk 5 ([]:Str) ([p1]),true)
def yI n p0:=(idx p0 0).bind λx1=>(jN n x1).bind λx2=>(cond (!x2.2.2) (some ((Ty.mk 0 ([]:Str) ([])),false)) (some ((((Ty.mk 5 ([]:Str) ([x2.2.1])),true).1),((Ty.mk 5 ([]:Str) ([x2.2.1])),true).2)))
def ak3(n:Nat)p0(p1)(p:List Ty):=some (Ty.mk 5 ([]:Str) ([(Ty.mk 4 ([]:Str) ([p1,p0]))]),true)
def yS n p0:=(idx p0 0).bind λx1=>(jN n x1).bind λx2=>(cond (!x2.2.2) (some ((Ty.mk 0 ([]:Str) ([])),false)) (some ((((Ty.mk 5 ([]:Str) ([(Ty.mk 4 ([]:Str) ([x2.2.1,x2.1]))])),true).1),((Ty.mk 5 ([]:Str) ([(Ty.mk 4 ([]:Str) ([x2.2.1,x2.1]))])),true).2)))
def V4 n p0 p1 p2:=(idx p2 1).bind λx1=>(dx n x1).bind λx2=>(((cond x2.2 ((jQ n x2.1 p0).bind λx3=>some (x3,([p1]))) (some (false,([p1])))):Option (Bool×(List Ty))).bind λs1=>some ((Ty.mk 5 ([]:Str) s1.2),s1.1))
def y5 n p0:=(idx p0 0).bind λx1=>(jN n x1).bind λx2=>(cond (!x2.2.2) (some ((Ty.mk 0 ([]:Str) ([])),false)) ((V4 n x2.1 x2.2.1 p0).bind λx3=>some (x3.1,x3.2)))
def V5(n:Nat)p0(p:Ty)p2:=(idx p2 1).bind λx1=>(jQ n x1 p0).bind λx2=>some (p,x2)
def yD n p0:=(idx p0 0).bind λx1=>(jN n x1).bind λx2=>(cond (!x2.2.2) (some ((Ty.mk 0 ([]:Str) ([])),false)) ((V5 n x2.1 x2.2.1 p0).bind λx3=>some (x3.1,x3.2)))
def JJ(n:Nat)(p:List Ty):=(idx p 0).bind λx1=>(idx p 1).bind λx2=>some (x1,(x2.kind==2))
def L9 n p0:=(idx p0 0).bind λx1=>(dx n x1).bind λx2=>((((idx p0 1).bind λx3=>(cond x2.2 ((idx p0 1).bind λx4=>some ((x4.kind !=2),([(Ty.mk 4 ([]:Str) ([x2.1,x3]))]))) (some (false,([(Ty.mk 4 ([]:Str) ([x2.1,x3]))]))))):Option (Bool×(List Ty))).bind λs1=>some ((Ty.mk 5 ([]:Str) s1.2),s1.1))
def Wh(n:Nat)(qcm:F28t)(qcl:F29t)(p0:List (Str×Ty))(p1:List (Str×Bool))(p3:Tm)(rec:((List Decl)×(List Ty)×Int×(List Int))→Option (LR ((List Decl)×(List Ty)×(List Int)) (Ty×Int×(List Int))))(s1:(List Decl)×(List Ty)×Int×(List Int)):Option (LR ((List Decl)×(List Ty)×(List Int)) (Ty×Int×(List Int))):=(cond (decide (s1.2.2.1<(p3.kids.length:Int))) ((((qcl p0 p1 s1.2.2.2 p3 s1.2.2.1 s1.1).bind fun x57=>(cond (x57.2.1 !=0) (some (.rt ((Ty.mk 0 ([]:Str) ([])),x57.2.1,x57.2.2))) ((app 48 s1.2.1 ([x57.1])).bind fun x58=>(((cond (s1.2.2.1==0) ((Bg n p3.op).bind fun x60=>some x60) (some false)):Option Bool).bind fun s6=>(cond s6 ((dx n x57.1).bind fun x59=>(cond (!x59.2) (some (.rt ((Ty.mk 0 ([]:Str) ([])),7,x57.2.2))) (some (.nx (((Decl.mk p3.name x59.1)::s1.1),x58,x57.2.2))))) (some (.nx (s1.1,x58,x57.2.2)))))))):Option (LR ((List Decl)×(List Ty)×(List Int)) (Ty×Int×(List Int)))).bind (LR.el (fun s5=>rec (s5.1,s5.2.1,(s1.2.2.1+1),s5.2.2)) (fun r=>some (.rt r)))) (some (.nx (s1.1,s1.2.1,s1.2.2.2))))
def Au(n:Nat)(qcm:F28t)(qcl:F29t)(p0:List (Str×Ty))(p1:List (Str×Bool))(p3:Tm)(k:Nat):((List Decl)×(List Ty)×Int×(List Int))→Option (LR ((List Decl)×(List Ty)×(List Int)) (Ty×Int×(List Int))):=aL (Wh n qcm qcl p0 p1 p3) k
def xK(n:Nat)(qcm:F28t)(qcl:F29t)(p0:List (Str×Ty))(p1:List (Str×Bool))(p2:List Int)(p3:Tm)(p4:List Decl):Option (Ty×Int×(List Int)):=((Au n qcm qcl p0 p1 p3 n (p4,([]:List Ty),0,p2)).bind (LR.el (fun s2=>(cond (p3.op==20) ((vF n s2.1 p3.name).bind fun x1=>(cond x1.2 (some (x1.1,0,s2.2.2)) (((mel (dn p0 p3.name) (some (false,0,([]:Str),([]:List Ty))) (fun x2=>some (true,x2.kind,x2.name,x2.kids))):Option (Bool×Int×Str×(List Ty))).bind fun s3=>(cond (!s3.1) (some ((Ty.mk 0 ([]:Str) ([])),6,s2.2.2)) (some ((Ty.mk s3.2.1 s3.2.2.1 s3.2.2.2),0,s2.2.2)))))) (cond (p3.op==29) ((tO n p0 p1 s2.2.2 p3.ty).bind fun x3=>(cond (!x3) (some ((Ty.mk 0 ([]:Str) ([])),6,s2.2.2)) ((uH n (Ty.mk 5 ([]:Str) ([p3.ty]))).bind fun x4=>some (x4.1,x4.2,s2.2.2)))) (((cond (p3.op==0) none (cond (p3.op==1) (some (((Ty.mk 2 ([]:Str) ([])),true).2,(((Ty.mk 2 ([]:Str) ([])),true).1).kind,(((Ty.mk 2 ([]:Str) ([])),true).1).name,(((Ty.mk 2 ([]:Str) ([])),true).1).kids)) (cond (p3.op==2) (some (((Ty.mk 2 ([]:Str) ([])),true).2,(((Ty.mk 2 ([]:Str) ([])),true).1).kind,(((Ty.mk 2 ([]:Str) ([])),true).1).name,(((Ty.mk 2 ([]:Str) ([])),true).1).kids)) (cond (p3.op==3) ((aZ n s2.2.1 2 ([]:Str) ([]) 2).bind fun x6=>some (x6.2,x6.1.kind,x6.1.name,x6.1.kids)) (cond (p3.op==4) ((aZ n s2.2.1 2 ([]:Str) ([]) 2).bind fun x7=>some (x7.2,x7.1.kind,x7.1.name,x7.1.kids)) (cond (p3.op==5) ((aZ n s2.2.1 2 ([]:Str) ([]) 2).bind fun x8=>some (x8.2,x8.1.kind,x8.1.name,x8.1.kids)) (cond (p3.op==6) ((aZ n s2.2.1 2 ([]:Str) ([]) 2).bind fun x9=>some (x9.2,x9.1.kind,x9.1.name,x9.1.kids)) (cond (p3.op==7) ((aZ n s2.2.1 2 ([]:Str) ([]) 2).bind fun x10=>some (x10.2,x10.1.kind,x10.1.name,x10.1.kids)) (cond (p3.op==8) ((wZ n s2.2.1).bind fun x11=>some (x11.2,x11.1.kind,x11.1.name,x11.1.kids)) (cond (p3.op==9) ((wZ n s2.2.1).bind fun x12=>some (x12.2,x12.1.kind,x12.1.name,x12.1.kids)) (cond (p3.op==10) ((Bf n s2.2.1).bind fun x13=>some (x13.2,x13.1.kind,x13.1.name,x13.1.kids)) (cond (p3.op==11) ((Bf n s2.2.1).bind fun x14=>some (x14.2,x14.1.kind,x14.1.name,x14.1.kids)) (cond (p3.op==12) ((aZ n s2.2.1 2 ([]:Str) ([]) 1).bind fun x15=>some (x15.2,x15.1.kind,x15.1.name,x15.1.kids)) (cond (p3.op==13) ((aZ n s2.2.1 2 ([]:Str) ([]) 1).bind fun x16=>some (x16.2,x16.1.kind,x16.1.name,x16.1.kids)) (cond (p3.op==14) ((aZ n s2.2.1 2 ([]:Str) ([]) 1).bind fun x17=>some (x17.2,x17.1.kind,x17.1.name,x17.1.kids)) (cond (p3.op==15) ((aZ n s2.2.1 2 ([]:Str) ([]) 1).bind fun x18=>some (x18.2,x18.1.kind,x18.1.name,x18.1.kids)) (cond (p3.op==16) ((Bu n s2.2.1).bind fun x19=>some (x19.2,x19.1.kind,x19.1.name,x19.1.kids)) (cond (p3.op==17) ((Bu n s2.2.1).bind fun x20=>some (x20.2,x20.1.kind,x20.1.name,x20.1.kids)) (cond (p3.op==18) ((Ka n s2.2.1).bind fun x21=>some (x21.2,x21.1.kind,x21.1.name,x21.1.kids)) (cond (p3.op==19) (some (((Ty.mk 1 ([]:Str) ([])),true).2,(((Ty.mk 1 ([]:Str) ([])),true).1).kind,(((Ty.mk 1 ([]:Str) ([])),true).1).name,(((Ty.mk 1 ([]:Str) ([])),true).1).kids)) (cond (p3.op==20) none (cond (p3.op==21) ((aZ n s2.2.1 1 ([]:Str) ([]) 1).bind fun x22=>some (x22.2,x22.1.kind,x22.1.name,x22.1.kids)) (cond (p3.op==22) ((aZ n s2.2.1 1 ([]:Str) ([]) 1).bind fun x23=>some (x23.2,x23.1.kind,x23.1.name,x23.1.kids)) (cond (p3.op==23) ((aZ n s2.2.1 1 ([]:Str) ([]) 1).bind fun x24=>some (x24.2,x24.1.kind,x24.1.name,x24.1.kids)) (cond (p3.op==24) ((aZ n s2.2.1 1 ([]:Str) ([]) 1).bind fun x25=>some (x25.2,x25.1.kind,x25.1.name,x25.1.kids)) (cond (p3.op==25) ((aZ n s2.2.1 1 ([]:Str) ([]) 1).bind fun x26=>some (x26.2,x26.1.kind,x26.1.name,x26.1.kids)) (cond (p3.op==26) ((aZ n s2.2.1 1 ([]:Str) ([]) 1).bind fun x27=>some (x27.2,x27.1.kind,x27.1.name,x27.1.kids)) (cond (p3.op==27) ((Oj n s2.2.1).bind fun x28=>some (x28.2,x28.1.kind,x28.1.name,x28.1.kids)) (cond (p3.op==28) ((AX n s2.2.1).bind fun x29=>some (x29.2,x29.1.kind,x29.1.name,x29.1.kids)) (cond (p3.op==29) none (cond (p3.op==30) ((aZ n s2.2.1 5 ([]:Str) ([(Ty.mk 1 ([]:Str) ([]))]) 1).bind fun x30=>some (x30.2,x30.1.kind,x30.1.name,x30.1.kids)) (cond (p3.op==31) ((o7 n s2.2.1).bind fun x31=>some (x31.2,x31.1.kind,x31.1.name,x31.1.kids)) (cond (p3.op==32) ((o7 n s2.2.1).bind fun x32=>some (x32.2,x32.1.kind,x32.1.name,x32.1.kids)) (cond (p3.op==33) ((o7 n s2.2.1).bind fun x33=>some (x33.2,x33.1.kind,x33.1.name,x33.1.kids)) (cond (p3.op==34) ((Lc n s2.2.1).bind fun x34=>some (x34.2,x34.1.kind,x34.1.name,x34.1.kids)) (cond (p3.op==35) ((yU n s2.2.1).bind fun x35=>some (x35.2,x35.1.kind,x35.1.name,x35.1.kids)) (cond (p3.op==36) ((y9 n s2.2.1).bind fun x36=>some (x36.2,x36.1.kind,x36.1.name,x36.1.kids)) (cond (p3.op==37) ((Bz n s2.2.1).bind fun x37=>some (x37.2,x37.1.kind,x37.1.name,x37.1.kids)) (cond (p3.op==38) ((Bz n s2.2.1).bind fun x38=>some (x38.2,x38.1.kind,x38.1.name,x38.1.kids)) (cond (p3.op==39) ((nR n s2.2.1).bind fun x39=>some (x39.2,x39.1.kind,x39.1.name,x39.1.kids)) (cond (p3.op==40) ((nR n s2.2.1).bind fun x40=>some (x40.2,x40.1.kind,x40.1.name,x40.1.kids)) (cond (p3.op==41) ((jL n s2.2.1).bind fun x41=>some (x41.2,x41.1.kind,x41.1.name,x41.1.kids)) (cond (p3.op==42) ((jL n s2.2.1).bind fun x42=>some (x42.2,x42.1.kind,x42.1.name,x42.1.kids)) (cond (p3.op==43) ((jL n s2.2.1).bind fun x43=>some (x43.2,x43.1.kind,x43.1.name,x43.1.kids)) (cond (p3.op==44) ((jL n s2.2.1).bind fun x44=>some (x44.2,x44.1.kind,x44.1.name,x44.1.kids)) (cond (p3.op==45) ((jL n s2.2.1).bind fun x45=>some (x45.2,x45.1.kind,x45.1.name,x45.1.kids)) (cond (p3.op==46) ((GN n s2.2.1).bind fun x46=>some (x46.2,x46.1.kind,x46.1.name,x46.1.kids)) (cond (p3.op==47) ((G5 n s2.2.1).bind fun x47=>some (x47.2,x47.1.kind,x47.1.name,x47.1.kids)) (cond (p3.op==48) ((vB n s2.2.1).bind fun x48=>some (x48.2,x48.1.kind,x48.1.name,x48.1.kids)) (cond (p3.op==49) ((vB n s2.2.1).bind fun x49=>some (x49.2,x49.1.kind,x49.1.name,x49.1.kids)) (cond (p3.op==50) ((zl n s2.2.1).bind fun x50=>some (x50.2,x50.1.kind,x50.1.name,x50.1.kids)) (cond (p3.op==51) ((yI n s2.2.1).bind fun x51=>some (x51.2,x51.1.kind,x51.1.name,x51.1.kids)) (cond (p3.op==52) ((yS n s2.2.1).bind fun x52=>some (x52.2,x52.1.kind,x52.1.name,x52.1.kids)) (cond (p3.op==53) ((y5 n s2.2.1).bind fun x53=>some (x53.2,x53.1.kind,x53.1.name,x53.1.kids)) (cond (p3.op==54) ((yD n s2.2.1).bind fun x54=>some (x54.2,x54.1.kind,x54.1.name,x54.1.kids)) (cond (p3.op==55) ((JJ n s2.2.1).bind fun x55=>some (x55.2,x55.1.kind,x55.1.name,x55.1.kids)) (cond (p3.op==56) ((L9 n s2.2.1).bind fun x56=>some (x56.2,x56.1.kind,x56.1.name,x56.1.kids)) none))))))))))))))))))))))))))))))))))))))))))))))))))))))))):Option (Bool×Int×Str×(List Ty))).bind fun s4=>(cond (!s4.1) (some ((Ty.mk 0 ([]:Str) ([])),7,s2.2.2)) ((uH n (Ty.mk s4.2.1 s4.2.2.1 s4.2.2.2)).bind fun x5=>some (x5.1,x5.2,s2.2.2))))))) (fun r=>some r)))
def ug(n:Nat)(qcm:F28t)(qcl:F29t)(p0:List (Str×Ty))(p1:List (Str×Bool))(p2:List Int)(p3:Tm)(p4:Int)(p5:List Decl):Option (Ty×Int×(List Int)):=((app 8 p2 ([p4])).bind fun x1=>((idx p3.kids p4).bind fun x2=>((qcm p0 p1 x1 x2 p5).bind fun x3=>(((cond (x3.2.1==0) ((FJ (List.length x3.2.2) ((x3.2.2.length:Int) - 1)).bind fun x4=>(cond (Nat.ble x4 (List.length x3.2.2)) (some (List.take x4 x3.2.2)) none)) (some x3.2.2)):Option (List Int)).bind fun s1=>some (x3.1,x3.2.1,s1)))))
mutual
def mP:Nat→(List (Str×Ty))→(List (Str×Bool))→(List Int)→Tm→(List Decl)→Option (Ty×Int×(List Int))
 |0,_,_,_,_,_=>none
 |n+1,p0,p1,p2,p3,p4=>xK n (mP n) (j6 n) p0 p1 p2 p3 p4
def j6:Nat→(List (Str×Ty))→(List (Str×Bool))→(List Int)→Tm→Int→(List Decl)→Option (Ty×Int×(List Int))
 |0,_,_,_,_,_,_=>none
 |n+1,p0,p1,p2,p3,p4,p5=>ug n (mP n) (j6 n) p0 p1 p2 p3 p4 p5
end
def aaM(n:Nat)(qcq:F24t)(p0:Ty)(rec:F42t)(s1:Int×(List Ty)):Option (LR (List Ty) Ty):=(cond (decide (s1.1<(p0.kids.length:Int))) ((idx p0.kids s1.1).bind fun x1=>((qcq x1).bind fun x2=>((app 48 s1.2 ([x2])).bind fun x3=>rec ((s1.1+1),x3)))) (some (.nx s1.2)))
def Nu(n:Nat)(qcq:F24t)(p0:Ty)(k:Nat):(Int×(List Ty))→Option (LR (List Ty) Ty):=aL (aaM n qcq p0) k
def zV(n:Nat)(qcq:F24t)(p0:Ty):Option Ty:=((Nu n qcq p0 n (0,([]:List Ty))).bind (LR.el (fun s2=>some (Ty.mk p0.kind p0.name s2)) (fun r=>some r)))
def su:Nat->Ty->Option Ty|0,_=>none|n+1,p=>zV n (su n) p
def A8 n p0 p1:=((rY n p0).bind λx5=>(cond (!x5) (some true) ((J7 n p1).bind λx6=>some (!x6)))).bind λs1=>cond s1 (some ((Ty.mk 0 ([]:Str) ([])),([]:List Int),1)) ((FB n p0).bind λx1=>((mP n x1.1 x1.2 ([]:List Int) p1 ([]:List Decl)).bind λx2=>(cond (x2.2.1 !=0) ((slices_Clone_int n x2.2.2).bind λx3=>some ((Ty.mk 0 ([]:Str) ([])),x3,x2.2.1)) ((su n x2.1).bind λx4=>some (x4,([]:List Int),0)))))
def Cx(n:Nat)(p:S_api_World)(r:(Int×(List (Str×Val)))->Option (LR (List (Str×Val)) ((List Carrier)×(List Decl)×(List Int)×(List (Str×Val))×(List Bound))))(s1:Int×(List (Str×Val))):Option (LR (List (Str×Val)) ((List Carrier)×(List Decl)×(List Int)×(List (Str×Val))×(List Bound))):=cond (decide (s1.1<(p.env.names.length:Int))) ((idx p.env.names s1.1).bind λx1=>(idx p.values s1.1).bind λx2=>((yG s1.2 x1.name x2).bind λx3=>r ((s1.1+1),x3))) (some (.nx s1.2))
def ami n p0 k:=aL (Cx n p0) k
def Mt n p0:=(ami n p0 n (0,([]))).bind (LR.el (λs2=>some (p0.env.carriers,p0.env.names,p0.sizes,s2,([]:List Bound))) λr=>some r)
def bN(n:Nat)p0:=cond p0 (some (Val.mk 2 1 ([]:Str) ([]))) (some (Val.mk 2 0 ([]:Str) ([])))
def jK(n:Nat)(p:Int):Option (PZ Val Unit):=(cond (decide (1000000000<p)) (some true) (some (decide (p<(-1000000000))))).bind λs1=>cond s1 (some (.er 11 ())) (some (.ok (Val.mk 1 p ([]:Str) ([]))))
def ayA(n:Nat)p0(p1):=some (Val.mk 4 0 ([]) [p0,p1])
def tQ(n:Nat)p0(p1)(p:Int)(a:Str)(b:Int)(c:Int)(d:Str)(e:List Ty)(f:List Tm)p9(p10)p11:=cond (p==56) ((app 56 p9 [(Val.mk 0 0 ([]:Str) ([]))]).bind λx1=>(idx x1 (p9.length:Int)).bind λx2=>((idx x1 (p9.length:Int)).bind λx3=>some ((upd x1 (p9.length:Int) (Val.mk 4 0 ([]:Str) ([p0,p1]))),p10,p11))) (cond (p1.n==1) ((app 56 p9 ([(Val.mk 0 0 ([]:Str) ([]))])).bind λx4=>((idx x4 (p9.length:Int)).bind λx5=>((idx x4 (p9.length:Int)).bind λx6=>some ((upd x4 (p9.length:Int) p0),true,p11)))) (some (p9,p10,false)))
def Ab(n:Nat)(p:List Val):Option (PZ Val Unit):=(kH n p).bind λx1=>cond (decide (256<(x1.length:Int))) (some (.er 11 ())) (some (.ok (Val.mk 5 0 ([]:Str) x1)))
def yV(n:Nat)(p:Int):=(cond (decide (41<=p)) (some (decide (p<=46))) (some false)).bind λs1=>some s1
def dZ(n)p0(p1)(r:(Int×Int)->Option (LR Int (Int×Bool)))(s1:Int×Int):=cond (decide (s1.1<s1.2)) ((as1 .u64 (IntKind.wrap .u64 (IntKind.wrap .i64 (s1.1+s1.2))) 1).bind λx3=>(idx p0 (IntKind.wrap .i64 x3)).bind λx4=>((dY n x4 p1).bind λx5=>(cond (decide (x5<0)) (r ((IntKind.wrap .i64 ((IntKind.wrap .i64 x3)+1)),s1.2)) (r (s1.1,(IntKind.wrap .i64 x3)))))) (some (.nx s1.1))
def uL n p0 p1 k:=aL (dZ n p0 p1) k
def pX n p0 p1:=(uL n p0 p1 n (0,(p0.length))).bind (LR.el (λs2=>(((cond (decide (s2<(p0.length:Int))) ((idx p0 s2).bind λx1=>((dY n x1 p1).bind λx2=>some (s2,(x2==0)))) (some (s2,false))):Option (Int×Bool)).bind λs3=>some (s3.1,s3.2))) λr=>some r)
def gL n p0 p1:=(pX n p0 p1).bind λx1=>some x1.2
def jM n p0 p1:=(gL n p1 p0).bind λx1=>some x1
def vO n p0 p1:=(gL n p1 p0).bind λx1=>some x1
def ajX(n)p0(p1)(r:F3t)(s1:(List Val)×Int):=cond (decide (s1.2<(p0.length:Int))) ((((idx p0 s1.2).bind λx1=>((vO n x1 p1).bind λx2=>(cond x2 ((app 56 s1.1 ([x1])).bind λx3=>some x3) (some s1.1))))).bind λs3=>r (s3,(s1.2+1))) (some (.nx s1.1))
def alc n p0 p1 k:=aL (ajX n p0 p1) k
def afW n p0 p1:=(alc n p0 p1 n (([]),0)).bind (LR.el (λs2=>some s2) λr=>some r)
def jP(n)(p:Val)p1:=(afW n p.kids p1).bind λx1=>some ((x1.length)==(p.kids.length:Int))
def Cb(n:Nat)(p:List Val)(r:F3t)(s1:(List Val)×Int):=cond (decide (s1.2<(p.length:Int))) ((idx p s1.2).bind λx3=>(idx x3.kids 0).bind λx4=>((app 56 s1.1 ([x4])).bind λx5=>r (x5,(s1.2+1)))) (some (.nx s1.1))
def ama n p0 k:=aL (Cb n p0) k
def BH n p0:=(mkS 56 p0.length).bind λx1=>(ama n p0 n (([]:List Val),0)).bind (LR.el (λs2=>((kH n s2).bind λx2=>some x2)) (λr=>some r))
def Ai(n:Nat)(p:List Val)(r:F3t)(s1:(List Val)×Int):=cond (decide (s1.2<(p.length:Int))) ((idx p s1.2).bind λx3=>(idx x3.kids 1).bind λx4=>((app 56 s1.1 ([x4])).bind λx5=>r (x5,(s1.2+1)))) (some (.nx s1.1))
def ajJ n p0 k:=aL (Ai n p0) k
def rz n p0:=(mkS 56 p0.length).bind λx1=>(ajJ n p0 n (([]:List Val),0)).bind (LR.el (λs2=>((kH n s2).bind λx2=>some x2)) (λr=>some r))
def yj(n)p1(p2)(p:List Val)(r:F2t)s1:=cond (decide (s1<(p.length:Int))) ((idx p s1).bind λx3=>(((idx x3.kids 0).bind λx4=>((gL n p1 x4).bind λx5=>(cond (!x5) (some true) ((idx x3.kids 1).bind λx6=>((gL n p2 x6).bind λx7=>some (!x7)))))):Option Bool).bind λs6=>(cond s6 (some (.rt false)) (r (s1+1)))) (some (.nx ()))
def ahv n p1 p2 p3 k:=aL (yj n p1 p2 p3) k
def wu(n)(p:Int)p1(p2)p3:=(ahv n p1 p2 p3 n 0).bind (LR.el (λs2=>((BH n p3).bind λx1=>((rz n p3).bind λx2=>(cond (p==41) (some true) (cond (p==42) (some ((x1.length:Int)==(p3.length:Int))) (cond (p==43) (((cond ((x1.length:Int)==(p3.length:Int)) (some ((x1.length:Int)==(p1.length:Int))) (some false)):Option Bool).bind λs3=>some s3) (cond (p==44) (((cond ((x1.length:Int)==(p3.length:Int)) (cond ((x1.length:Int)==(p1.length:Int)) (some ((x2.length:Int)==(p3.length:Int))) (some false)) (some false)):Option Bool).bind λs4=>some s4) (((cond ((x1.length:Int)==(p3.length:Int)) (cond ((x1.length:Int)==(p1.length:Int)) (cond ((x2.length:Int)==(p3.length:Int)) (some ((x2.length:Int)==(p2.length:Int))) (some false)) (some false)) (some false)):Option Bool).bind λs5=>some s5)))))))) λr=>some r)
def lF(n)(p:Val)p1(a:Str)(b:Int)(c:Int)(d:Str)(e:List Ty)(f:List Tm)p8(p9):=(wu n p1 p8 p9 p.kids).bind λx1=>some x1
def aeO(n)p0(p1)(r:F3t)(s1:(List Val)×Int):=cond (decide (s1.2<(p0.length:Int))) ((((idx p0 s1.2).bind λx1=>((jM n x1 p1).bind λx2=>(cond x2 ((app 56 s1.1 ([x1])).bind λx3=>some x3) (some s1.1))))).bind λs3=>r (s3,(s1.2+1))) (some (.nx s1.1))
def agI n p0 p1 k:=aL (aeO n p0 p1) k
def Gf n p0 p1:=(agI n p0 p1 n (([]),0)).bind (LR.el (λs2=>some s2) λr=>some r)
def aeF(n)p0(p1)(r:F3t)(s1:(List Val)×Int):=cond (decide (s1.2<(p0.length:Int))) ((((idx p0 s1.2).bind λx1=>((jP n x1 p1).bind λx2=>(cond x2 ((app 56 s1.1 ([x1])).bind λx3=>some x3) (some s1.1))))).bind λs3=>r (s3,(s1.2+1))) (some (.nx s1.1))
def agS n p0 p1 k:=aL (aeF n p0 p1) k
def Gq n p0 p1:=(agS n p0 p1 n (([]),0)).bind (LR.el (λs2=>some s2) λr=>some r)
def aey(n)p0(p1)p2(p3)p4(p5)p6(p7)p8(p9)(r:F3t)(s1:(List Val)×Int):=cond (decide (s1.2<(p0.length:Int))) ((((idx p0 s1.2).bind λx1=>((lF n x1 p1 p2 p3 p4 p5 p6 p7 p8 p9).bind λx2=>(cond x2 ((app 56 s1.1 ([x1])).bind λx3=>some x3) (some s1.1))))).bind λs3=>r (s3,(s1.2+1))) (some (.nx s1.1))
def agF n p0 p1 p2 p3 p4 p5 p6 p7 p8 p9 k:=aL (aey n p0 p1 p2 p3 p4 p5 p6 p7 p8 p9) k
def Gr n p0 p1 p2 p3 p4 p5 p6 p7 p8 p9:=(agF n p0 p1 p2 p3 p4 p5 p6 p7 p8 p9 n (([]),0)).bind (LR.el (λs2=>some s2) λr=>some r)
def Jj(n:Nat)(p:Val)p1(a:Int)p3(b:List Val):=(idx p.kids 0).bind λx1=>(dY n x1 (Val.mk p1 a p3 b)).bind λx2=>some (x2==0)
def aeH(n)p0(p1)p2(p3)p4(r:F3t)(s1:(List Val)×Int):=cond (decide (s1.2<(p0.length:Int))) ((((idx p0 s1.2).bind λx1=>((Jj n x1 p1 p2 p3 p4).bind λx2=>(cond x2 ((app 56 s1.1 ([x1])).bind λx3=>some x3) (some s1.1))))).bind λs3=>r (s3,(s1.2+1))) (some (.nx s1.1))
def aho n p0 p1 p2 p3 p4 k:=aL (aeH n p0 p1 p2 p3 p4) k
def aaq n p0 p1 p2 p3 p4:=(aho n p0 p1 p2 p3 p4 n (([]),0)).bind (LR.el (λs2=>some s2) λr=>some r)
def JX(n:Nat)(b:Int)(p:Int)(a:Int):Option (PZ Val Unit):=(cond (b==21) ((jK n (IntKind.wrap .i64 (0 - p))).bind (PZ.el (λx1=>some (.ok x1)) (λ(e:Int) _=>some (.er e ())))) (cond (b==22) ((jK n (IntKind.wrap .i64 (p+a))).bind (PZ.el (λx2=>some (.ok x2)) (λ(c:Int) _=>some (.er c ())))) (cond (b==23) ((jK n (IntKind.wrap .i64 (p - a))).bind (PZ.el (λx3=>some (.ok x3)) (λ(d:Int) _=>some (.er d ())))) (cond (b==24) ((jK n (IntKind.wrap .i64 (p*a))).bind (PZ.el (λx4=>some (.ok x4)) (λ(f:Int) _=>some (.er f ())))) (cond (b==25) (cond (a==0) (some (.er 10 ())) ((abO p a).bind λx5=>((jK n x5).bind (PZ.el (λx6=>some (.ok x6)) (λ(g:Int) _=>some (.er g ())))))) (((cond (decide (p<0)) (some true) (some (decide (a<1)))):Option Bool).bind λs1=>(cond s1 (some (.er 10 ())) ((Vr p a).bind λx7=>((jK n x7).bind (PZ.el (λx8=>some (.ok x8)) (λ(h:Int) _=>some (.er h ()))))))))))))
def mH(n:Nat)(p:List (List Val))(r:(Int×Int)->Option (LR Int (List Val)))(s1:Int×Int):=cond (decide (s1.2<(p.length:Int))) ((idx p s1.2).bind λx4=>cond (decide ((IntKind.wrap .i64 (s1.1+(x4.length:Int)))<0)) none (r ((IntKind.wrap .i64 (s1.1+(x4.length:Int))),(s1.2+1)))) (some (.nx s1.1))
def xJ n p0 k:=aL (mH n p0) k
def mF(n:Nat)p0(r:F3t)(s:(List Val)×Int):=cond (decide (s.2<(p0.length:Int))) ((idx p0 s.2).bind λx2=>(app 56 s.1 x2).bind λx3=>r (x3,(s.2+1))) (some (.nx s.1))
def xL n p0 k:=aL (mF n p0) k
def qg n p0:=(xJ n p0 n (0,0)).bind (LR.el (λs2=>((Fw n s2).bind λx1=>((xL n p0 n (x1,0)).bind (LR.el (λs4=>some s4) (λr=>some r))))) λr=>some r)
def xH n p0 p1:=(gL n p1 p0).bind λx1=>some x1
def aeG(n)p0(p1)(r:F3t)(s1:(List Val)×Int):=cond (decide (s1.2<(p0.length:Int))) ((((idx p0 s1.2).bind λx1=>((xH n x1 p1).bind λx2=>(cond x2 ((app 56 s1.1 ([x1])).bind λx3=>some x3) (some s1.1))))).bind λs3=>r (s3,(s1.2+1))) (some (.nx s1.1))
def agc n p0 p1 k:=aL (aeG n p0 p1) k
def Z8 n p0 p1:=(agc n p0 p1 n (([]),0)).bind (LR.el (λs2=>some s2) λr=>some r)
def Ve n p0 p1:=(xH n p0 p1).bind λx1=>some !x1
def aeJ(n)p0(p1)(r:F3t)(s1:(List Val)×Int):=cond (decide (s1.2<(p0.length:Int))) ((((idx p0 s1.2).bind λx1=>((Ve n x1 p1).bind λx2=>(cond x2 ((app 56 s1.1 ([x1])).bind λx3=>some x3) (some s1.1))))).bind λs3=>r (s3,(s1.2+1))) (some (.nx s1.1))
def agO n p0 p1 k:=aL (aeJ n p0 p1) k
def aaB n p0 p1:=(agO n p0 p1 n (([]),0)).bind (LR.el (λs2=>some s2) λr=>some r)
def Md(n:Nat)(p:Val)p1:=(idx p.kids 0).bind λx1=>(gL n p1 x1).bind λx2=>some (!x2)
def aeL(n)p0(p1)(r:F3t)(s1:(List Val)×Int):=cond (decide (s1.2<(p0.length:Int))) ((((idx p0 s1.2).bind λx1=>((Md n x1 p1).bind λx2=>(cond x2 ((app 56 s1.1 ([x1])).bind λx3=>some x3) (some s1.1))))).bind λs3=>r (s3,(s1.2+1))) (some (.nx s1.1))
def aht n p0 p1 k:=aL (aeL n p0 p1) k
def aam n p0 p1:=(aht n p0 p1 n (([]),0)).bind (LR.el (λs2=>some s2) λr=>some r)
def Vu n p0 p1:=(gL n p1 p0).bind λx1=>some x1
def MI(n:Nat)(p:Val)p1:=(idx p.kids 0).bind λx1=>(Vu n x1 p1).bind λx2=>some x2
def aeN(n)p0(p1)(r:F3t)(s1:(List Val)×Int):=cond (decide (s1.2<(p0.length:Int))) ((((idx p0 s1.2).bind λx1=>((MI n x1 p1).bind λx2=>(cond x2 ((app 56 s1.1 ([x1])).bind λx3=>some x3) (some s1.1))))).bind λs3=>r (s3,(s1.2+1))) (some (.nx s1.1))
def agq n p0 p1 k:=aL (aeN n p0 p1) k
def ZT n p0 p1:=(agq n p0 p1 n (([]),0)).bind (LR.el (λs2=>some s2) λr=>some r)
def MG(n:Nat)(p:Val)p1:=(idx p.kids 0).bind λx1=>(Vu n x1 p1).bind λx2=>some (!x2)
def ae2(n)p0(p1)(r:F3t)(s1:(List Val)×Int):=cond (decide (s1.2<(p0.length:Int))) ((((idx p0 s1.2).bind λx1=>((MG n x1 p1).bind λx2=>(cond x2 ((app 56 s1.1 ([x1])).bind λx3=>some x3) (some s1.1))))).bind λs3=>r (s3,(s1.2+1))) (some (.nx s1.1))
def ag3 n p0 p1 k:=aL (ae2 n p0 p1) k
def aal n p0 p1:=(ag3 n p0 p1 n (([]),0)).bind (LR.el (λs2=>some s2) λr=>some r)
def Mv(n:Nat)(p:Val)p1:=(idx p.kids 1).bind λx1=>(xH n x1 p1).bind λx2=>some x2
def abn(n)p0(p1)(r:F3t)(s1:(List Val)×Int):=cond (decide (s1.2<(p0.length:Int))) ((((idx p0 s1.2).bind λx1=>((Mv n x1 p1).bind λx2=>(cond x2 ((app 56 s1.1 ([x1])).bind λx3=>some x3) (some s1.1))))).bind λs3=>r (s3,(s1.2+1))) (some (.nx s1.1))
def aeS n p0 p1 k:=aL (abn n p0 p1) k
def XF n p0 p1:=(aeS n p0 p1 n (([]),0)).bind (LR.el (λs2=>some s2) λr=>some r)
def Mg(n:Nat)(p:Val)p1:=(idx p.kids 1).bind λx1=>(xH n x1 p1).bind λx2=>some (!x2)
def abr(n)p0(p1)(r:F3t)(s1:(List Val)×Int):=cond (decide (s1.2<(p0.length:Int))) ((((idx p0 s1.2).bind λx1=>((Mg n x1 p1).bind λx2=>(cond x2 ((app 56 s1.1 ([x1])).bind λx3=>some x3) (some s1.1))))).bind λs3=>r (s3,(s1.2+1))) (some (.nx s1.1))
def aes n p0 p1 k:=aL (abr n p0 p1) k
def WQ n p0 p1:=(aes n p0 p1 n (([]),0)).bind (LR.el (λs2=>some s2) λr=>some r)
def zX(n:Nat)(x1:Val)(x2:List (List Val))(rec:F43t)(s3:(List (List Val))×Int):Option (LR (List (List Val)) (List (List Val))):=(cond (decide (s3.2<(x2.length:Int))) ((idx x2 s3.2).bind fun x3=>((jZ n x3).bind fun x4=>((app 56 x4 ([x1])).bind fun x5=>((app 24 s3.1 ([x5])).bind fun x6=>rec (x6,(s3.2+1)))))) (some (.nx s3.1)))
def Un n x1 x2 k:=aL (zX n x1 x2) k
def zY(n:Nat)(p0:List Val)(rec:F43t)(s1:(List (List Val))×Int):Option (LR (List (List Val)) (List (List Val))):=(cond (decide (s1.2<(p0.length:Int))) ((idx p0 s1.2).bind fun x1=>((zq n s1.1).bind fun x2=>((Un n x1 x2 n (s1.1,0)).bind (LR.el (fun s4=>rec (s4,(s1.2+1))) (fun r=>some (.rt r)))))) (some (.nx s1.1)))
def akb n p0 k:=aL (zY n p0) k
def Jh n p0:=(akb n p0 n ([[]],0)).bind (LR.el (λs2=>some s2) λr=>some r)
def Mj(n:Nat)(p:Val)p1:=(idx p.kids 0).bind λx1=>(xH n x1 p1).bind λx2=>some x2
def abH(n)p0(p1)(r:F3t)(s1:(List Val)×Int):=cond (decide (s1.2<(p0.length:Int))) ((((idx p0 s1.2).bind λx1=>((Mj n x1 p1).bind λx2=>(cond x2 ((app 56 s1.1 ([x1])).bind λx3=>some x3) (some s1.1))))).bind λs3=>r (s3,(s1.2+1))) (some (.nx s1.1))
def aeR n p0 p1 k:=aL (abH n p0 p1) k
def VL n p0 p1:=(aeR n p0 p1 n (([]),0)).bind (LR.el (λs2=>some s2) λr=>some r)
def Nf(n:Nat)(p:Int)p1(a:Int):=(cond (p==45) (cond (p1 !=a) (some true) (cond (decide (44<=p)) (some (decide (a<p1))) (some false))) (cond (decide (44<=p)) (some (decide (a<p1))) (some false))).bind λs1=>some s1
def uR(n:Nat)(p:Int)p1(a:Int)(e:(Int×Int)->Option (LR Unit Bool))(s1:Int×Int):=cond (decide (s1.2<p1)) (((cond (p==41) (cond (decide (8<a)) (some (.rt true)) ((adw 1 a).bind λx2=>some (.nx x2))) (cond (p==42) (some (.nx (IntKind.wrap .i64 (a+1)))) (((cond (p==44) (some (p==44)) (some (p==45))):Option Bool).bind λs5=>(cond s5 (some (.nx (IntKind.wrap .i64 (a - s1.2)))) (some (.nx a)))))):Option (LR Int Bool)).bind (LR.el (λs3=>(cond (s3==0) (some (.rt false)) (((cond (decide (256<(IntKind.wrap .i64 (s1.1*s3)))) (cond (p !=43) (some true) (some (decide (0<a)))) (some false)):Option Bool).bind λs4=>(cond s4 (some (.rt true)) (e ((IntKind.wrap .i64 (s1.1*s3)),(s1.2+1))))))) (λr=>some (.rt r)))) (some (.nx ()))
def Js n p0 p1 p2 k:=aL (uR n p0 p1 p2) k
def Di n p0 p1 p2:=(Nf n p0 p1 p2).bind λx1=>cond x1 (some false) ((Js n p0 p1 p2 n (1,0)).bind (LR.el (λs2=>some false) (λr=>some r)))
def oN(n:Nat)(qb8:F10t)(p0:Int)(p1:List Val)(p2:List Val)(p3:Int)(p4:List Val)(rec:F44t)(s7:Int×(List Val)):Option (LR (List Val) (List Val)):=(cond (decide (s7.1<(p4.length:Int))) ((((idx p4 s7.1).bind fun x13=>(((cond (decide (44≤p3)) ((rz n p1).bind fun x18=>((gL n x18 x13).bind fun x19=>some x19)) (some false)):Option Bool).bind fun s10=>(cond s10 (some s7.2) ((jZ n p1).bind fun x14=>((idx p2 p0).bind fun x15=>((app 56 x14 ([(Val.mk 4 0 ([]:Str) ([x15,x13]))])).bind fun x16=>((qb8 (IntKind.wrap .i64 (p0+1)) x16 p2 p3 p4 s7.2).bind fun x17=>some x17))))))):Option (List Val)).bind fun s9=>rec ((s7.1+1),s9)) (some (.nx s7.2)))
def aaK(n:Nat)(qb8:F10t)(p0:Int)(p1:List Val)(p2:List Val)(p3:Int)(p4:List Val)(k:Nat):(Int×(List Val))→Option (LR (List Val) (List Val)):=aL (oN n qb8 p0 p1 p2 p3 p4) k
def uh(n:Nat)(qb8:F10t)(p0:Int)(p2:List Val)(x7:List Val)(rec:F3t)(s4:(List Val)×Int):Option (LR (List Val) (List Val)):=(cond (decide (s4.2<(x7.length:Int))) ((idx x7 s4.2).bind fun x10=>((idx p2 p0).bind fun x11=>((app 56 s4.1 ([(Val.mk 4 0 ([]:Str) ([x11,x10]))])).bind fun x12=>rec (x12,(s4.2+1))))) (some (.nx s4.1)))
def KD(n:Nat)(qb8:F10t)(p0:Int)(p2:List Val)(x7:List Val)(k:Nat):((List Val)×Int)→Option (LR (List Val) (List Val)):=aL (uh n qb8 p0 p2 x7) k
def tZ(n:Nat)(qb8:F10t)(p0:Int)(p1:List Val)(p2:List Val)(p3:Int)(p4:List Val)(x6:List (List Val))(rec:F44t)(s2:Int×(List Val)):Option (LR (List Val) (List Val)):=(cond (decide (s2.1<(x6.length:Int))) ((idx x6 s2.1).bind fun x7=>((jZ n p1).bind fun x8=>((KD n qb8 p0 p2 x7 n (x8,0)).bind (LR.el (fun s5=>((qb8 (IntKind.wrap .i64 (p0+1)) s5 p2 p3 p4 s2.2).bind fun x9=>rec ((s2.1+1),x9))) (fun r=>some (.rt r)))))) (some (.nx s2.2)))
def aaO(n:Nat)(qb8:F10t)(p0:Int)(p1:List Val)(p2:List Val)(p3:Int)(p4:List Val)(x6:List (List Val))(k:Nat):(Int×(List Val))→Option (LR (List Val) (List Val)):=aL (tZ n qb8 p0 p1 p2 p3 p4 x6) k
def nS(n:Nat)(qb8:F10t)(p0:Int)(p1:List Val)(p2:List Val)(p3:Int)(p4:List Val)(p5:List Val):Option (List Val):=(cond (p0==(p2.length:Int)) ((((wu n p3 p2 p4 p1).bind fun x1=>(cond x1 ((kH n p1).bind fun x2=>((app 56 p5 ([(Val.mk 0 0 ([]:Str) ([]))])).bind fun x3=>((idx x3 (p5.length:Int)).bind fun x4=>((idx x3 (p5.length:Int)).bind fun x5=>some (upd x3 (p5.length:Int) (Val.mk 5 0 ([]:Str) x2)))))) (some p5))):Option (List Val)).bind fun s1=>some s1) (cond (p3==41) ((Jh n p4).bind fun x6=>((aaO n qb8 p0 p1 p2 p3 p4 x6 n (0,p5)).bind (LR.el (fun s3=>some s3) (fun r=>some r)))) (((cond (p3==42) ((qb8 (IntKind.wrap .i64 (p0+1)) p1 p2 p3 p4 p5).bind fun x20=>some x20) (some p5)):Option (List Val)).bind fun s6=>((aaK n qb8 p0 p1 p2 p3 p4 n (0,s6)).bind (LR.el (fun s8=>some s8) (fun r=>some r))))))
def iP:Nat->Int->List Val->List Val->Int->List Val->List Val->Option (List Val)|0,_,_,_,_,_,_=>none|n+1,p,a,b,c,d,e=>nS n (iP n) p a b c d e
def D9(n:Nat)(p:Int)(a:List Val)(b:List Val):Option (PZ (List Val) Unit):=(Di n p a.length b.length).bind λx1=>cond x1 (some (.er 11 ())) ((Nf n p (a.length:Int) (b.length:Int)).bind λx2=>(cond x2 (some (.ok ([]:List Val))) ((some ():Option Unit).bind λs1=>((iP n 0 ([]:List Val) a p b ([]:List Val)).bind λx3=>some (.ok x3)))))
def GA(n:Nat)(p1:Val)(rec:F11t)(s15:(List Val)×Int):Option (LR (List Val) (PZ Val Unit)):=(cond (decide (s15.2<(p1.kids.length:Int))) ((idx p1.kids s15.2).bind fun x30=>((idx x30.kids 1).bind fun x31=>((idx x30.kids 0).bind fun x32=>((app 56 s15.1 ([(Val.mk 4 0 ([]:Str) ([x31,x32]))])).bind fun x33=>rec (x33,(s15.2+1)))))) (some (.nx s15.1)))
def adB n p1 k:=aL (GA n p1) k
def Gj(n:Nat)(x25:List (List Val))(rec:F11t)(s13:(List Val)×Int):Option (LR (List Val) (PZ Val Unit)):=(cond (decide (s13.2<(x25.length:Int))) ((idx x25 s13.2).bind fun x26=>((app 56 s13.1 ([(Val.mk 5 0 ([]:Str) x26)])).bind fun x27=>rec (x27,(s13.2+1)))) (some (.nx s13.1)))
def adq n x25 k:=aL (Gj n x25) k
def Gv(n:Nat)(p2:Val)(x13:Val)(rec:F11t)(s10:(List Val)×Int):Option (LR (List Val) (PZ Val Unit)):=(cond (decide (s10.2<(p2.kids.length:Int))) ((((idx p2.kids s10.2).bind fun x14=>((idx x13.kids 1).bind fun x15=>((idx x14.kids 0).bind fun x16=>((dY n x15 x16).bind fun x17=>(cond (x17==0) ((idx x13.kids 0).bind fun x18=>((idx x14.kids 1).bind fun x19=>((app 56 s10.1 ([(Val.mk 4 0 ([]:Str) ([x18,x19]))])).bind fun x20=>some x20))) (some s10.1)))))):Option (List Val)).bind fun s12=>rec (s12,(s10.2+1))) (some (.nx s10.1)))
def abP n p2 x13 k:=aL (Gv n p2 x13) k
def GI(n:Nat)(p1:Val)(p2:Val)(rec:F11t)(s8:(List Val)×Int):Option (LR (List Val) (PZ Val Unit)):=(cond (decide (s8.2<(p1.kids.length:Int))) ((idx p1.kids s8.2).bind fun x13=>((abP n p2 x13 n (s8.1,0)).bind (LR.el (fun s11=>rec (s11,(s8.2+1))) (fun r=>some (.rt r))))) (some (.nx s8.1)))
def acY n p1 p2 k:=aL (GI n p1 p2) k
def Gt(n:Nat)(p2:Val)(x7:Val)(rec:F11t)(s6:(List Val)×Int):Option (LR (List Val) (PZ Val Unit)):=(cond (decide (s6.2<(p2.kids.length:Int))) ((idx p2.kids s6.2).bind fun x8=>((app 56 s6.1 ([(Val.mk 4 0 ([]:Str) ([x7,x8]))])).bind fun x9=>rec (x9,(s6.2+1)))) (some (.nx s6.1)))
def ab4 n p2 x7 k:=aL (Gt n p2 x7) k
def Gz(n:Nat)(p1:Val)(p2:Val)(rec:F11t)(s4:(List Val)×Int):Option (LR (List Val) (PZ Val Unit)):=(cond (decide (s4.2<(p1.kids.length:Int))) ((idx p1.kids s4.2).bind fun x7=>((ab4 n p2 x7 n (s4.1,0)).bind (LR.el (fun s7=>rec (s7,(s4.2+1))) (fun r=>some (.rt r))))) (some (.nx s4.1)))
def abg n p1 p2 k:=aL (Gz n p1 p2) k
def nH(n:Nat)(p2:Val)(rec:F11t)(s2:(List Val)×Int):Option (LR (List Val) (PZ Val Unit)):=(cond (decide (s2.2≤p2.n)) ((jK n s2.2).bind (PZ.el (fun x2=>((app 56 s2.1 ([x2])).bind fun x3=>rec (x3,(IntKind.wrap .i64 (s2.2+1))))) (fun(e2:Int) _=>some (.rt (.er e2 ()))))) (some (.nx s2.1)))
def Rh n p2 k:=aL (nH n p2) k
def Tw(n:Nat)(p0:Int)(p1:Val)(p2:Val):Option (PZ Val Unit):=(((cond (p0==30) (cond (decide (256≤(IntKind.wrap .i64 (p2.n - p1.n)))) (some (.rt (.er 11 ()))) ((Rh n p2 n (([]:List Val),p1.n)).bind (LR.el (fun s3=>some (.nx s3)) (fun r=>some (.rt r))))) (cond (p0==31) ((qg n ([p1.kids,p2.kids])).bind fun x4=>some (.nx x4)) (cond (p0==32) ((Z8 n p1.kids p2.kids).bind fun x5=>some (.nx x5)) (cond (p0==33) ((aaB n p1.kids p2.kids).bind fun x6=>some (.nx x6)) (cond (p0==34) (cond (decide (256<(IntKind.wrap .i64 ((p1.kids.length:Int)*(p2.kids.length:Int))))) (some (.rt (.er 11 ()))) ((abg n p1 p2 n (([]:List Val),0)).bind (LR.el (fun s5=>some (.nx s5)) (fun r=>some (.rt r))))) (cond (p0==35) ((BH n p2.kids).bind fun x10=>((aam n p1.kids x10).bind fun x11=>((qg n ([x11,p2.kids])).bind fun x12=>some (.nx x12)))) (cond (p0==36) ((acY n p1 p2 n (([]:List Val),0)).bind (LR.el (fun s9=>some (.nx s9)) (fun r=>some (.rt r)))) (cond (p0==37) ((ZT n p2.kids p1.kids).bind fun x21=>some (.nx x21)) (cond (p0==38) ((aal n p2.kids p1.kids).bind fun x22=>some (.nx x22)) (cond (p0==39) ((XF n p1.kids p2.kids).bind fun x23=>some (.nx x23)) (cond (p0==40) ((WQ n p1.kids p2.kids).bind fun x24=>some (.nx x24)) (cond (p0==46) (cond (decide (8<(p1.kids.length:Int))) (some (.rt (.er 11 ()))) ((Jh n p1.kids).bind fun x25=>((adq n x25 n (([]:List Val),0)).bind (LR.el (fun s14=>some (.nx s14)) (fun r=>some (.rt r)))))) (cond (p0==50) ((BH n p1.kids).bind fun x28=>some (.nx x28)) (cond (p0==51) ((rz n p1.kids).bind fun x29=>some (.nx x29)) (cond (p0==52) ((adB n p1 n (([]:List Val),0)).bind (LR.el (fun s16=>some (.nx s16)) (fun r=>some (.rt r)))) (cond (p0==53) ((VL n p1.kids p2.kids).bind fun x34=>((rz n x34).bind fun x35=>some (.nx x35))) ((D9 n p0 p1.kids p2.kids).bind (PZ.el (fun x36=>some (.nx x36)) (fun(e3:Int) _=>some (.rt (.er e3 ()))))))))))))))))))))):Option (LR (List Val) (PZ Val Unit))).bind (LR.el (fun s1=>((Ab n s1).bind (PZ.el (fun x1=>some (.ok x1)) (fun(e1:Int) _=>some (.er e1 ()))))) (fun r=>some r)))
def oz(n:Nat)(p0:Int)(p1:Val)(p2:Val):Option (PZ Val Unit):=(cond (p0==3) ((bN n (p1.n==0)).bind fun x1=>some (.ok x1)) (cond (p0==7) ((bN n (p1.n==p2.n)).bind fun x2=>some (.ok x2)) (cond (p0==10) ((dY n p1 p2).bind fun x3=>((bN n (x3==0)).bind fun x4=>some (.ok x4))) (cond (p0==11) ((dY n p1 p2).bind fun x5=>((bN n (x5 !=0)).bind fun x6=>some (.ok x6))) (cond (p0==12) ((bN n (decide (p1.n<p2.n))).bind fun x7=>some (.ok x7)) (cond (p0==13) ((bN n (decide (p1.n≤p2.n))).bind fun x8=>some (.ok x8)) (cond (p0==14) ((bN n (decide (p2.n<p1.n))).bind fun x9=>some (.ok x9)) (cond (p0==15) ((bN n (decide (p2.n≤p1.n))).bind fun x10=>some (.ok x10)) (cond (p0==27) (some (.ok (Val.mk 4 0 ([]:Str) ([p1,p2])))) (cond (p0==54) ((aaq n p1.kids p2.kind p2.n p2.name p2.kids).bind fun x11=>(cond ((x11.length:Int)!=1) (some (.er 10 ())) ((idx x11 0).bind fun x12=>((idx x12.kids 1).bind fun x13=>some (.ok x13))))) (cond (decide (p0≤26)) ((JX n p0 p1.n p2.n).bind (PZ.el (fun x14=>some (.ok x14)) (fun(e1:Int) _=>some (.er e1 ())))) (cond (p0==47) ((jK n (p1.kids.length:Int)).bind (PZ.el (fun x15=>some (.ok x15)) (fun(e2:Int) _=>some (.er e2 ())))) (((cond (p0==48) (some (p0==48)) (some (p0==49))):Option Bool).bind fun s1=>(cond s1 (cond ((p1.kids.length:Int)==0) (some (.er 10 ())) (cond (p0==48) ((idx p1.kids 0).bind fun x16=>some (.ok x16)) ((idx p1.kids ((p1.kids.length:Int) - 1)).bind fun x17=>some (.ok x17)))) ((Tw n p0 p1 p2).bind (PZ.el (fun x18=>some (.ok x18)) (fun(e3:Int) _=>some (.er e3 ()))))))))))))))))))
def rH(n:Nat)(qb4:F5t)(qb3:F1t)(qb2:F1t)(qb5:F6t)(qb1:F0t)(qb6:F0t)(qb7:F0t)(p0:List Carrier)(p1:List Decl)(p2:List Int)(p3:List (Str×Val))(p4:List Bound)(p5:Tm):Option (PZ (Int×Str×Int×Int×Str×(List Ty)×(List Tm)×(List Val)×(List Val)×(List Bound)) (List Bound)):=((yV n p5.op).bind fun x1=>(cond (!x1) ((qb6 p0 p1 p2 p3 p4 p5).bind (PZ.el (fun x2=>none) (fun(e1:Int) z1=>some (.er e1 z1)))) ((idx p5.kids 0).bind fun x3=>((qb6 p0 p1 p2 p3 p4 x3).bind (PZ.el (fun x4=>(cond (p5.op==46) none ((idx p5.kids 1).bind fun x5=>((qb6 p0 p1 p2 p3 x4.2 x5).bind (PZ.el (fun x6=>some (.ok (p5.op,p5.name,p5.n,p5.ty.kind,p5.ty.name,p5.ty.kids,p5.kids,x4.1.kids,x6.1.kids,x6.2))) (fun(e2:Int) z2=>some (.er e2 z2))))))) (fun(e3:Int) z3=>some (.er e3 z3)))))))
def q9(n:Nat)(qb4:F5t)(qb3:F1t)(qb2:F1t)(qb5:F6t)(qb1:F0t)(qb6:F0t)(qb7:F0t)(p0:List Carrier)(p1:List Decl)(p2:List Int)(p3:List (Str×Val))(p4:List Bound)(p5:Tm):Option (PZ ((List Val)×(List Bound)) (List Bound)):=((yV n p5.op).bind fun x1=>(cond (!x1) ((qb6 p0 p1 p2 p3 p4 p5).bind (PZ.el (fun x2=>none) (fun(e1:Int) z1=>some (.er e1 z1)))) ((idx p5.kids 0).bind fun x3=>((qb6 p0 p1 p2 p3 p4 x3).bind (PZ.el (fun x4=>(cond (p5.op==46) (some (.ok (x4.1.kids,x4.2))) ((idx p5.kids 1).bind fun x5=>((qb6 p0 p1 p2 p3 x4.2 x5).bind (PZ.el (fun x6=>none) (fun(e2:Int) z2=>some (.er e2 z2))))))) (fun(e3:Int) z3=>some (.er e3 z3)))))))
def rR(n:Nat)(qb4:F5t)(qb3:F1t)(qb2:F1t)(qb5:F6t)(qb1:F0t)(qb6:F0t)(qb7:F0t)(p0:List Carrier)(p1:List Decl)(p2:List Int)(p3:List (Str×Val))(p4:List Bound)(p5:Tm):Option (PZ ((List Val)×(List Bound)) (List Bound)):=((yV n p5.op).bind fun x1=>(cond (!x1) ((qb6 p0 p1 p2 p3 p4 p5).bind (PZ.el (fun x2=>some (.ok (x2.1.kids,x2.2))) (fun(e1:Int) z1=>some (.er e1 z1)))) ((idx p5.kids 0).bind fun x3=>((qb6 p0 p1 p2 p3 p4 x3).bind (PZ.el (fun x4=>(cond (p5.op==46) none ((idx p5.kids 1).bind fun x5=>((qb6 p0 p1 p2 p3 x4.2 x5).bind (PZ.el (fun x6=>none) (fun(e2:Int) z2=>some (.er e2 z2))))))) (fun(e3:Int) z3=>some (.er e3 z3)))))))
def pq(n:Nat)(qb4:F5t)(qb3:F1t)(qb2:F1t)(qb5:F6t)(qb1:F0t)(qb6:F0t)(qb7:F0t)(p0:List Carrier)(p1:List Decl)(p2:List Int)(p3:List (Str×Val))(p5:Tm)(p6:Int)(p7:Str)(p8:Int)(p9:Int)(p10:Str)(p11:List Ty)(p12:List Tm)(x2:Val×(List Bound))(rec:(Int×Bool×Bool×(List Bound)×(List Val))→Option (LR (Bool×Bool×(List Bound)×(List Val)) (PZ ((List Bound)×(List Val)×Bool×Bool) ((List Bound)×(List Val)))))(s1:Int×Bool×Bool×(List Bound)×(List Val)):Option (LR (Bool×Bool×(List Bound)×(List Val)) (PZ ((List Bound)×(List Val)×Bool×Bool) ((List Bound)×(List Val)))):=(cond (decide (s1.1<(x2.1.kids.length:Int))) ((idx x2.1.kids s1.1).bind fun x5=>((idx s1.2.2.2.1 ((s1.2.2.2.1.length:Int) - 1)).bind fun x6=>((idx s1.2.2.2.1 ((s1.2.2.2.1.length:Int) - 1)).bind fun x7=>((idx p5.kids 1).bind fun x8=>((qb6 p0 p1 p2 p3 (upd s1.2.2.2.1 ((s1.2.2.2.1.length:Int) - 1) (Bound.mk x7.name x5)) x8).bind (PZ.el (fun x9=>((tQ n x5 x9.1 p6 p7 p8 p9 p10 p11 p12 s1.2.2.2.2 s1.2.1 s1.2.2.1).bind fun x10=>rec ((s1.1+1),x10.2.1,x10.2.2,x9.2,x10.1))) (fun(e1:Int) z1=>some (.rt (.er e1 (z1,s1.2.2.2.2)))))))))) (some (.nx (s1.2.1,s1.2.2.1,s1.2.2.2.1,s1.2.2.2.2))))
def BR(n:Nat)(qb4:F5t)(qb3:F1t)(qb2:F1t)(qb5:F6t)(qb1:F0t)(qb6:F0t)(qb7:F0t)(p0:List Carrier)(p1:List Decl)(p2:List Int)(p3:List (Str×Val))(p5:Tm)(p6:Int)(p7:Str)(p8:Int)(p9:Int)(p10:Str)(p11:List Ty)(p12:List Tm)(x2:Val×(List Bound))(k:Nat):(Int×Bool×Bool×(List Bound)×(List Val))→Option (LR (Bool×Bool×(List Bound)×(List Val)) (PZ ((List Bound)×(List Val)×Bool×Bool) ((List Bound)×(List Val)))):=aL (pq n qb4 qb3 qb2 qb5 qb1 qb6 qb7 p0 p1 p2 p3 p5 p6 p7 p8 p9 p10 p11 p12 x2) k
def zu(n:Nat)(qb4:F5t)(qb3:F1t)(qb2:F1t)(qb5:F6t)(qb1:F0t)(qb6:F0t)(qb7:F0t)(p0:List Carrier)(p1:List Decl)(p2:List Int)(p3:List (Str×Val))(p4:List Bound)(p5:Tm)(p6:Int)(p7:Str)(p8:Int)(p9:Int)(p10:Str)(p11:List Ty)(p12:List Tm)(p13:List Val)(p14:Bool)(p15:Bool):Option (PZ ((List Bound)×(List Val)×Bool×Bool) ((List Bound)×(List Val))):=((idx p5.kids 0).bind fun x1=>((qb6 p0 p1 p2 p3 p4 x1).bind (PZ.el (fun x2=>((app 72 x2.2 ([(Bound.mk p5.name (Val.mk 0 0 ([]:Str) ([])))])).bind fun x3=>((BR n qb4 qb3 qb2 qb5 qb1 qb6 qb7 p0 p1 p2 p3 p5 p6 p7 p8 p9 p10 p11 p12 x2 n (0,p14,p15,x3,p13)).bind (LR.el (fun s2=>((FJ (List.length s2.2.2.1) ((s2.2.2.1.length:Int) - 1)).bind fun x4=>(cond (Nat.ble x4 (List.length s2.2.2.1)) (some (.ok ((List.take x4 s2.2.2.1),s2.2.2.2,s2.1,s2.2.1))) none))) (fun r=>some r))))) (fun(e2:Int) z2=>some (.er e2 (z2,p13))))))
def vT(n:Nat)(qb4:F5t)(qb3:F1t)(qb2:F1t)(qb5:F6t)(qb1:F0t)(qb6:F0t)(qb7:F0t)(p0:List Carrier)(p1:List Decl)(p2:List Int)(p3:List (Str×Val))(p4:List Bound)(p5:Tm):Option (PZ (Val×(List Bound)) (List Bound)):=((some ():Option Unit).bind fun s1=>((qb5 p0 p1 p2 p3 p4 p5 p5.op p5.name p5.n p5.ty.kind p5.ty.name p5.ty.kids p5.kids ([]:List Val) false true).bind (PZ.el (fun x1=>(cond (p5.op==8) ((bN n x1.2.2.2).bind fun x2=>some (.ok (x2,x1.1))) (cond (p5.op==9) ((bN n x1.2.2.1).bind fun x3=>some (.ok (x3,x1.1))) ((Ab n x1.2.1).bind (PZ.el (fun x4=>some (.ok (x4,x1.1))) (fun(e1:Int) _=>some (.er e1 x1.1))))))) (fun(e2:Int) z2=>some (.er e2 z2.1)))))
def gN(n:Nat)(qb4:F5t)(qb3:F1t)(qb2:F1t)(qb5:F6t)(qb1:F0t)(qb6:F0t)(qb7:F0t)(p0:List Carrier)(p1:List Decl)(p2:List Int)(p3:List (Str×Val))(p5:Tm)(rec:(Int×Int×Int×Str×(List Val)×Int×Int×Str×(List Val)×(List Bound))→Option (LR (Int×Int×Str×(List Val)×Int×Int×Str×(List Val)×(List Bound)) (PZ (Val×(List Bound)) (List Bound))))(s7:Int×Int×Int×Str×(List Val)×Int×Int×Str×(List Val)×(List Bound)):Option (LR (Int×Int×Str×(List Val)×Int×Int×Str×(List Val)×(List Bound)) (PZ (Val×(List Bound)) (List Bound))):=(cond (decide (s7.1<(p5.kids.length:Int))) ((((idx p5.kids s7.1).bind fun x35=>((qb6 p0 p1 p2 p3 s7.2.2.2.2.2.2.2.2.2 x35).bind (PZ.el (fun x36=>(cond (s7.1==0) (some (.nx (x36.1.kind,x36.1.n,x36.1.name,x36.1.kids,s7.2.2.2.2.2.1,s7.2.2.2.2.2.2.1,s7.2.2.2.2.2.2.2.1,s7.2.2.2.2.2.2.2.2.1,x36.2))) (cond (s7.1==1) (some (.nx (s7.2.1,s7.2.2.1,s7.2.2.2.1,s7.2.2.2.2.1,x36.1.kind,x36.1.n,x36.1.name,x36.1.kids,x36.2))) none))) (fun(e16:Int) z16=>some (.rt (.er e16 z16)))))):Option (LR (Int×Int×Str×(List Val)×Int×Int×Str×(List Val)×(List Bound)) (PZ (Val×(List Bound)) (List Bound)))).bind (LR.el (fun s9=>rec ((s7.1+1),s9.1,s9.2.1,s9.2.2.1,s9.2.2.2.1,s9.2.2.2.2.1,s9.2.2.2.2.2.1,s9.2.2.2.2.2.2.1,s9.2.2.2.2.2.2.2.1,s9.2.2.2.2.2.2.2.2)) (fun r=>some (.rt r)))) (some (.nx (s7.2.1,s7.2.2.1,s7.2.2.2.1,s7.2.2.2.2.1,s7.2.2.2.2.2.1,s7.2.2.2.2.2.2.1,s7.2.2.2.2.2.2.2.1,s7.2.2.2.2.2.2.2.2.1,s7.2.2.2.2.2.2.2.2.2))))
def Kn(n:Nat)(qb4:F5t)(qb3:F1t)(qb2:F1t)(qb5:F6t)(qb1:F0t)(qb6:F0t)(qb7:F0t)(p0:List Carrier)(p1:List Decl)(p2:List Int)(p3:List (Str×Val))(p5:Tm)(k:Nat):(Int×Int×Int×Str×(List Val)×Int×Int×Str×(List Val)×(List Bound))→Option (LR (Int×Int×Str×(List Val)×Int×Int×Str×(List Val)×(List Bound)) (PZ (Val×(List Bound)) (List Bound))):=aL (gN n qb4 qb3 qb2 qb5 qb1 qb6 qb7 p0 p1 p2 p3 p5) k
def oH(n:Nat)(qb4:F5t)(qb3:F1t)(qb2:F1t)(qb5:F6t)(qb1:F0t)(qb6:F0t)(qb7:F0t)(p0:List Carrier)(p1:List Decl)(p2:List Int)(p3:List (Str×Val))(p5:Tm)(rec:((List Val)×Int×(List Bound))→Option (LR ((List Val)×(List Bound)) (PZ (Val×(List Bound)) (List Bound))))(s5:(List Val)×Int×(List Bound)):Option (LR ((List Val)×(List Bound)) (PZ (Val×(List Bound)) (List Bound))):=(cond (decide (s5.2.1<(p5.kids.length:Int))) ((idx p5.kids s5.2.1).bind fun x31=>((qb6 p0 p1 p2 p3 s5.2.2 x31).bind (PZ.el (fun x32=>((app 56 s5.1 ([x32.1])).bind fun x33=>rec (x33,(s5.2.1+1),x32.2))) (fun(e14:Int) z14=>some (.rt (.er e14 z14)))))) (some (.nx (s5.1,s5.2.2))))
def Ky(n:Nat)(qb4:F5t)(qb3:F1t)(qb2:F1t)(qb5:F6t)(qb1:F0t)(qb6:F0t)(qb7:F0t)(p0:List Carrier)(p1:List Decl)(p2:List Int)(p3:List (Str×Val))(p5:Tm)(k:Nat):((List Val)×Int×(List Bound))→Option (LR ((List Val)×(List Bound)) (PZ (Val×(List Bound)) (List Bound))):=aL (oH n qb4 qb3 qb2 qb5 qb1 qb6 qb7 p0 p1 p2 p3 p5) k
def sI(n:Nat)(qb4:F5t)(qb3:F1t)(qb2:F1t)(qb5:F6t)(qb1:F0t)(qb6:F0t)(qb7:F0t)(p0:List Carrier)(p1:List Decl)(p2:List Int)(p3:List (Str×Val))(p4:List Bound)(p5:Tm):Option (PZ (Val×(List Bound)) (List Bound)):=(((cond (p5.op==1) (some (p5.op==1)) (some (p5.op==2))):Option Bool).bind fun s1=>(cond s1 ((bN n (p5.op==1)).bind fun x1=>some (.ok (x1,p4))) (cond (p5.op==19) ((jK n p5.n).bind (PZ.el (fun x2=>some (.ok (x2,p4))) (fun(e1:Int) _=>some (.er e1 p4)))) (cond (p5.op==20) ((nY n p0 p1 p2 p3 p4 p5.name).bind (PZ.el (fun x3=>some (.ok (x3,p4))) (fun(e2:Int) _=>some (.er e2 p4)))) (cond (p5.op==29) (some (.ok ((Val.mk 5 0 ([]:Str) ([])),p4))) (((cond (p5.op==4) (some (p5.op==4)) (cond (p5.op==5) (some (p5.op==5)) (some (p5.op==6)))):Option Bool).bind fun s2=>(cond s2 ((qb7 p0 p1 p2 p3 p4 p5).bind (PZ.el (fun x4=>some (.ok (x4.1,x4.2))) (fun(e3:Int) z3=>some (.er e3 z3)))) (((cond (p5.op==8) (some (p5.op==8)) (cond (p5.op==9) (some (p5.op==9)) (cond (p5.op==55) (some (p5.op==55)) (some (p5.op==56))))):Option Bool).bind fun s3=>(cond s3 ((qb1 p0 p1 p2 p3 p4 p5).bind (PZ.el (fun x5=>some (.ok (x5.1,x5.2))) (fun(e4:Int) z4=>some (.er e4 z4)))) (((cond (p5.op==16) (some (p5.op==16)) (some (p5.op==17))):Option Bool).bind fun s4=>(cond s4 ((idx p5.kids 0).bind fun x6=>((qb6 p0 p1 p2 p3 p4 x6).bind (PZ.el (fun x7=>((idx p5.kids 1).bind fun x8=>(cond (decide (x8.op<41) ||decide (46<x8.op)) ((qb2 p0 p1 p2 p3 x7.2 x8).bind (PZ.el (fun x9=>((jM n x7.1 x9.1).bind fun x10=>((bN n (x10==(p5.op==16))).bind fun x11=>some (.ok (x11,x9.2))))) (fun(e5:Int) z5=>some (.er e5 z5)))) (cond (x8.op==46) ((qb3 p0 p1 p2 p3 x7.2 x8).bind (PZ.el (fun x12=>((jP n x7.1 x12.1).bind fun x13=>((bN n (x13==(p5.op==16))).bind fun x14=>some (.ok (x14,x12.2))))) (fun(e6:Int) z6=>some (.er e6 z6)))) ((qb4 p0 p1 p2 p3 x7.2 x8).bind (PZ.el (fun x15=>((lF n x7.1 x15.1 x15.2.1 x15.2.2.1 x15.2.2.2.1 x15.2.2.2.2.1 x15.2.2.2.2.2.1 x15.2.2.2.2.2.2.1 x15.2.2.2.2.2.2.2.1 x15.2.2.2.2.2.2.2.2.1).bind fun x16=>((bN n (x16==(p5.op==16))).bind fun x17=>some (.ok (x17,x15.2.2.2.2.2.2.2.2.2))))) (fun(e7:Int) z7=>some (.er e7 z7)))))))) (fun(e8:Int) z8=>some (.er e8 z8))))) (cond (p5.op==18) ((idx p5.kids 0).bind fun x18=>((qb6 p0 p1 p2 p3 p4 x18).bind (PZ.el (fun x19=>((idx p5.kids 1).bind fun x20=>(cond (decide (x20.op<41) ||decide (46<x20.op)) ((qb2 p0 p1 p2 p3 x19.2 x20).bind (PZ.el (fun x21=>((Gf n x19.1.kids x21.1).bind fun x22=>((bN n ((x22.length:Int)==(x19.1.kids.length:Int))).bind fun x23=>some (.ok (x23,x21.2))))) (fun(e9:Int) z9=>some (.er e9 z9)))) (cond (x20.op==46) ((qb3 p0 p1 p2 p3 x19.2 x20).bind (PZ.el (fun x24=>((Gq n x19.1.kids x24.1).bind fun x25=>((bN n ((x25.length:Int)==(x19.1.kids.length:Int))).bind fun x26=>some (.ok (x26,x24.2))))) (fun(e10:Int) z10=>some (.er e10 z10)))) ((qb4 p0 p1 p2 p3 x19.2 x20).bind (PZ.el (fun x27=>((Gr n x19.1.kids x27.1 x27.2.1 x27.2.2.1 x27.2.2.2.1 x27.2.2.2.2.1 x27.2.2.2.2.2.1 x27.2.2.2.2.2.2.1 x27.2.2.2.2.2.2.2.1 x27.2.2.2.2.2.2.2.2.1).bind fun x28=>((bN n ((x28.length:Int)==(x19.1.kids.length:Int))).bind fun x29=>some (.ok (x29,x27.2.2.2.2.2.2.2.2.2))))) (fun(e11:Int) z11=>some (.er e11 z11)))))))) (fun(e12:Int) z12=>some (.er e12 z12))))) (cond (p5.op==28) ((Ky n qb4 qb3 qb2 qb5 qb1 qb6 qb7 p0 p1 p2 p3 p5 n (([]:List Val),0,p4)).bind (LR.el (fun s6=>((Ab n s6.1).bind (PZ.el (fun x30=>some (.ok (x30,s6.2))) (fun(e13:Int) _=>some (.er e13 s6.2))))) (fun r=>some r))) ((Kn n qb4 qb3 qb2 qb5 qb1 qb6 qb7 p0 p1 p2 p3 p5 n (0,0,0,([]:Str),([]:List Val),0,0,([]:Str),([]:List Val),p4)).bind (LR.el (fun s8=>((oz n p5.op (Val.mk s8.1 s8.2.1 s8.2.2.1 s8.2.2.2.1) (Val.mk s8.2.2.2.2.1 s8.2.2.2.2.2.1 s8.2.2.2.2.2.2.1 s8.2.2.2.2.2.2.2.1)).bind (PZ.el (fun x34=>some (.ok (x34,s8.2.2.2.2.2.2.2.2))) (fun(e15:Int) _=>some (.er e15 s8.2.2.2.2.2.2.2.2))))) (fun r=>some r))))))))))))))))
def tV(n:Nat)(qb4:F5t)(qb3:F1t)(qb2:F1t)(qb5:F6t)(qb1:F0t)(qb6:F0t)(qb7:F0t)(p0:List Carrier)(p1:List Decl)(p2:List Int)(p3:List (Str×Val))(p4:List Bound)(p5:Tm):Option (PZ (Val×(List Bound)) (List Bound)):=((idx p5.kids 0).bind fun x1=>((qb6 p0 p1 p2 p3 p4 x1).bind (PZ.el (fun x2=>(((cond (p5.op==4) (some (!(x2.1.n==1))) (some false)):Option Bool).bind fun s1=>(cond s1 ((bN n false).bind fun x3=>some (.ok (x3,x2.2))) (((((cond (p5.op==5) (some (x2.1.n==1)) (some false)):Option Bool).bind fun s3=>(cond s3 (some s3) (cond (p5.op==6) (some (!(x2.1.n==1))) (some false)))):Option Bool).bind fun s2=>(cond s2 ((bN n true).bind fun x4=>some (.ok (x4,x2.2))) ((idx p5.kids 1).bind fun x5=>((qb6 p0 p1 p2 p3 x2.2 x5).bind (PZ.el (fun x6=>some (.ok (x6.1,x6.2))) (fun(e1:Int) z1=>some (.er e1 z1)))))))))) (fun(e2:Int) z2=>some (.er e2 z2)))))
mutual
def bJ:Nat→(List Carrier)→(List Decl)→(List Int)→(List (Str×Val))→(List Bound)→Tm→Option (PZ (Int×Str×Int×Int×Str×(List Ty)×(List Tm)×(List Val)×(List Val)×(List Bound)) (List Bound))
 |0,_,_,_,_,_,_=>none
 |n+1,p0,p1,p2,p3,p4,p5=>rH n (bJ n) (bK n) (bI n) (dw n) (dJ n) (aM n) (dD n) p0 p1 p2 p3 p4 p5
def bK:Nat→(List Carrier)→(List Decl)→(List Int)→(List (Str×Val))→(List Bound)→Tm→Option (PZ ((List Val)×(List Bound)) (List Bound))
 |0,_,_,_,_,_,_=>none
 |n+1,p0,p1,p2,p3,p4,p5=>q9 n (bJ n) (bK n) (bI n) (dw n) (dJ n) (aM n) (dD n) p0 p1 p2 p3 p4 p5
def bI:Nat→(List Carrier)→(List Decl)→(List Int)→(List (Str×Val))→(List Bound)→Tm→Option (PZ ((List Val)×(List Bound)) (List Bound))
 |0,_,_,_,_,_,_=>none
 |n+1,p0,p1,p2,p3,p4,p5=>rR n (bJ n) (bK n) (bI n) (dw n) (dJ n) (aM n) (dD n) p0 p1 p2 p3 p4 p5
def dw:Nat→(List Carrier)→(List Decl)→(List Int)→(List (Str×Val))→(List Bound)→Tm→Int→Str→Int→Int→Str→(List Ty)→(List Tm)→(List Val)→Bool→Bool→Option (PZ ((List Bound)×(List Val)×Bool×Bool) ((List Bound)×(List Val)))
 |0,_,_,_,_,_,_,_,_,_,_,_,_,_,_,_,_=>none
 |n+1,p0,p1,p2,p3,p4,p5,p6,p7,p8,p9,p10,p11,p12,p13,p14,p15=>zu n (bJ n) (bK n) (bI n) (dw n) (dJ n) (aM n) (dD n) p0 p1 p2 p3 p4 p5 p6 p7 p8 p9 p10 p11 p12 p13 p14 p15
def dJ:Nat→(List Carrier)→(List Decl)→(List Int)→(List (Str×Val))→(List Bound)→Tm→Option (PZ (Val×(List Bound)) (List Bound))
 |0,_,_,_,_,_,_=>none
 |n+1,p0,p1,p2,p3,p4,p5=>vT n (bJ n) (bK n) (bI n) (dw n) (dJ n) (aM n) (dD n) p0 p1 p2 p3 p4 p5
def aM:Nat→(List Carrier)→(List Decl)→(List Int)→(List (Str×Val))→(List Bound)→Tm→Option (PZ (Val×(List Bound)) (List Bound))
 |0,_,_,_,_,_,_=>none
 |n+1,p0,p1,p2,p3,p4,p5=>sI n (bJ n) (bK n) (bI n) (dw n) (dJ n) (aM n) (dD n) p0 p1 p2 p3 p4 p5
def dD:Nat→(List Carrier)→(List Decl)→(List Int)→(List (Str×Val))→(List Bound)→Tm→Option (PZ (Val×(List Bound)) (List Bound))
 |0,_,_,_,_,_,_=>none
 |n+1,p0,p1,p2,p3,p4,p5=>tV n (bJ n) (bK n) (bI n) (dw n) (dJ n) (aM n) (dD n) p0 p1 p2 p3 p4 p5
end
def rW(n:Nat)(p0:List Carrier)(p1:List Decl)(p2:List Int)(p3:List (Str×Val))(p4:List Bound)(p5:Tm):Option (Val×Int×(List Bound)):=((aM n p0 p1 p2 p3 p4 p5).bind (PZ.el (fun x=>some (x.1,0,x.2)) (fun e z=>bif decide ((0:Int)≤e)&&decide (e≤1000)then((FJ (List.length z) (List.length p4:Int)).bind fun c=>bif Nat.ble c (List.length z)then some (Val.mk 0 0 ([]:Str) [],e,List.take c z)else none)else none)))
def Cg(n:Nat)(qby:F37t)(x1:List Val)(rec:(Int×(List Val))→Option (LR (List Val) Val))(s1:Int×(List Val)):Option (LR (List Val) Val):=(cond (decide (s1.1<(x1.length:Int))) ((idx s1.2 s1.1).bind fun x3=>((idx s1.2 s1.1).bind fun x4=>((qby x4).bind fun x5=>((idx s1.2 s1.1).bind fun x6=>((idx s1.2 s1.1).bind fun x7=>rec ((s1.1+1),(upd s1.2 s1.1 x5))))))) (some (.nx s1.2)))
def Ep(n:Nat)(qby:F37t)(x1:List Val)(k:Nat):(Int×(List Val))→Option (LR (List Val) Val):=aL (Cg n qby x1) k
def Hl(n:Nat)(qby:F37t)(p0:Val):Option Val:=((Df n p0.kids).bind fun x1=>((yA n x1).bind fun x2=>((Ep n qby x1 n (0,x1)).bind (LR.el (fun s2=>some (Val.mk p0.kind p0.n p0.name s2)) (fun r=>some r)))))
def uE:Nat→Val→Option Val
 |0,_=>none
 |n+1,p0=>Hl n (uE n) p0
def mU(n:Nat)(p0:S_api_World)(p1:Tm):Option (Val×Int):=((((wP n p0).bind fun x5=>(cond (!x5) (some true) ((J7 n p1).bind fun x6=>some (!x6)))):Option Bool).bind fun s1=>(cond s1 (some ((Val.mk 0 0 ([]:Str) ([])),1)) ((A8 n p0.env p1).bind fun x1=>(cond (x1.2.2 !=0) (some ((Val.mk 0 0 ([]:Str) ([])),x1.2.2)) ((Mt n p0).bind fun x2=>((rW n x2.1 x2.2.1 x2.2.2.1 x2.2.2.2.1 x2.2.2.2.2 p1).bind fun x3=>((uE n x3.1).bind fun x4=>some (x4,x3.2.1))))))))
def agy(n:Nat)(qbh:F38t)(p0:Ty)(rec:F2t)(s1:Int):Option (LR Unit Bool):=(cond (decide (s1<(p0.kids.length:Int))) ((idx p0.kids s1).bind fun x1=>((qbh x1).bind fun x2=>(cond x2 (some (.rt true)) (rec (s1+1))))) (some (.nx ())))
def TG(n:Nat)(qbh:F38t)(p0:Ty)(k:Nat):Int→Option (LR Unit Bool):=aL (agy n qbh p0) k
def Fj(n:Nat)(qbh:F38t)(p0:Ty):Option Bool:=(cond (p0.kind==2) (some true) ((TG n qbh p0 n 0).bind (LR.el (fun s2=>some false) (fun r=>some r))))
def uV:Nat→Ty→Option Bool
 |0,_=>none
 |n+1,p0=>Fj n (uV n) p0
def ahU(n:Nat)(qbf:F39t)(p0:Ty)(rec:F18t)(s1:(List Str)×Int):Option (LR (List Str) (List Str)):=(cond (decide (s1.2<(p0.kids.length:Int))) ((idx p0.kids s1.2).bind fun x1=>((qbf x1).bind fun x2=>((app 16 s1.1 x2).bind fun x3=>rec (x3,(s1.2+1))))) (some (.nx s1.1)))
def WV(n:Nat)(qbf:F39t)(p0:Ty)(k:Nat):((List Str)×Int)→Option (LR (List Str) (List Str)):=aL (ahU n qbf p0) k
def Ht(n:Nat)(qbf:F39t)(p0:Ty):Option (List Str):=(cond (p0.kind==3) (some ([p0.name])) ((WV n qbf p0 n (([]:List Str),0)).bind (LR.el (fun s2=>some s2) (fun r=>some r))))
def BI:Nat→Ty→Option (List Str)
 |0,_=>none
 |n+1,p0=>Ht n (BI n) p0
def abB(n:Nat)(p0:Env)(p1:Str)(rec:F4t)(s1:Int):Option (LR Unit Int):=(cond (decide (s1<(p0.carriers.length:Int))) ((idx p0.carriers s1).bind fun x1=>(cond (x1.name==p1) (some (.rt s1)) (rec (s1+1)))) (some (.nx ())))
def OZ(n:Nat)(p0:Env)(p1:Str)(k:Nat):Int→Option (LR Unit Int):=aL (abB n p0 p1) k
def nT(n:Nat)(p0:Env)(p1:Str):Option Int:=((OZ n p0 p1 n 0).bind (LR.el (fun s2=>some (-1)) (fun r=>some r)))
def ap0(n:Nat)(p0:Env)(x1:List Str)(rec:F2t)(s1:Int):Option (LR Unit Bool):=(cond (decide (s1<(x1.length:Int))) ((idx x1 s1).bind fun x2=>((nT n p0 x2).bind fun x3=>(cond (decide (x3<0)) (some (.rt false)) (rec (s1+1))))) (some (.nx ())))
def afP(n:Nat)(p0:Env)(x1:List Str)(k:Nat):Int→Option (LR Unit Bool):=aL (ap0 n p0 x1) k
def K5(n:Nat)(p0:Env)(p1:Ty):Option Bool:=((BI n p1).bind fun x1=>((afP n p0 x1 n 0).bind (LR.el (fun s2=>some true) (fun r=>some r))))
def ajE(n:Nat)(p0:Env)(rec:F18t)(s1:(List Str)×Int):Option (LR (List Str) (List Str)):=(cond (decide (s1.2<(p0.carriers.length:Int))) ((idx p0.carriers s1.2).bind fun x5=>((app 16 s1.1 ([x5.name])).bind fun x6=>rec (x6,(s1.2+1)))) (some (.nx s1.1)))
def WT(n:Nat)(p0:Env)(k:Nat):((List Str)×Int)→Option (LR (List Str) (List Str)):=aL (ajE n p0) k
def ahV(n:Nat)(p0:Env)(rec:F18t)(s3:(List Str)×Int):Option (LR (List Str) (List Str)):=(cond (decide (s3.2<(p0.carriers.length:Int))) ((idx p0.carriers s3.2).bind fun x3=>((app 16 s3.1 x3.elems).bind fun x4=>rec (x4,(s3.2+1)))) (some (.nx s3.1)))
def VO(n:Nat)(p0:Env)(k:Nat):((List Str)×Int)→Option (LR (List Str) (List Str)):=aL (ahV n p0) k
def aiF(n:Nat)(p0:Env)(rec:F18t)(s5:(List Str)×Int):Option (LR (List Str) (List Str)):=(cond (decide (s5.2<(p0.names.length:Int))) ((idx p0.names s5.2).bind fun x1=>((app 16 s5.1 ([x1.name])).bind fun x2=>rec (x2,(s5.2+1)))) (some (.nx s5.1)))
def XO(n:Nat)(p0:Env)(k:Nat):((List Str)×Int)→Option (LR (List Str) (List Str)):=aL (aiF n p0) k
def ME(n:Nat)(p0:Env):Option (List Str):=((WT n p0 n (([]:List Str),0)).bind (LR.el (fun s2=>((VO n p0 n (s2,0)).bind (LR.el (fun s4=>((XO n p0 n (s4,0)).bind (LR.el (fun s6=>some s6) (fun r=>some r)))) (fun r=>some r)))) (fun r=>some r)))
def ajG(n:Nat)(x10:Carrier)(rec:F2t)(s10:Int):Option (LR Unit Bool):=(cond (decide (s10<(x10.elems.length:Int))) ((idx x10.elems s10).bind fun x11=>((jk n x11).bind fun x12=>(cond (!x12) (some (.rt false)) (rec (s10+1))))) (some (.nx ())))
def EB(n:Nat)(x10:Carrier)(k:Nat):Int→Option (LR Unit Bool):=aL (ajG n x10) k
def ahR(n:Nat)(p0:Env)(rec:F2t)(s2:Int):Option (LR Unit Bool):=(cond (decide (s2<(p0.carriers.length:Int))) ((idx p0.carriers s2).bind fun x10=>((((jk n x10.name).bind fun x13=>(cond (!x13) (some true) (some (decide (8<(x10.elems.length:Int)))))):Option Bool).bind fun s9=>(cond s9 (some (.rt false)) ((EB n x10 n 0).bind (LR.el (fun s11=>rec (s2+1)) (fun r=>some (.rt r))))))) (some (.nx ())))
def VH(n:Nat)(p0:Env)(k:Nat):Int→Option (LR Unit Bool):=aL (ahR n p0) k
def ahL(n:Nat)(p0:Env)(rec:F2t)(s4:Int):Option (LR Unit Bool):=(cond (decide (s4<(p0.names.length:Int))) ((idx p0.names s4).bind fun x5=>((((KN n x5.name).bind fun x6=>(cond (!x6) (some true) ((uS n x5.ty).bind fun x7=>(cond (!x7) (some true) ((uV n x5.ty).bind fun x8=>(cond x8 (some true) ((K5 n p0 x5.ty).bind fun x9=>some (!x9)))))))):Option Bool).bind fun s8=>(cond s8 (some (.rt false)) (rec (s4+1))))) (some (.nx ())))
def WH(n:Nat)(p0:Env)(k:Nat):Int→Option (LR Unit Bool):=aL (ahL n p0) k
def akH(n:Nat)(x1:List Str)(rec:F2t)(s6:Int):Option (LR Unit Bool):=(cond (decide (s6<(x1.length:Int))) ((idx x1 s6).bind fun x2=>((kQ x1 0 s6).bind fun x3=>((Mi n x2 x3).bind fun x4=>(cond x4 (some (.rt false)) (rec (s6+1)))))) (some (.nx ())))
def Ma(n:Nat)(x1:List Str)(k:Nat):Int→Option (LR Unit Bool):=aL (akH n x1) k
def BG(n:Nat)(p0:Env):Option Bool:=(((cond (decide (8<(p0.carriers.length:Int))) (some true) (some (decide (64<(p0.names.length:Int))))):Option Bool).bind fun s1=>(cond s1 (some false) ((VH n p0 n 0).bind (LR.el (fun s3=>((WH n p0 n 0).bind (LR.el (fun s5=>((ME n p0).bind fun x1=>((Ma n x1 n 0).bind (LR.el (fun s7=>some true) (fun r=>some r))))) (fun r=>some r)))) (fun r=>some r)))))
def aG8(n:Nat):Option Ty:=some (Ty.mk 1 ([]:Str) ([]))
def Fe(n:Nat)(qbm:F30t)(qbn:F31t)(p0:Val)(p1:Val):Option Bool:=(((cond (p0.kind==p1.kind) (cond (p0.n==p1.n) (cond (p0.name==p1.name) ((qbn p0.kids p1.kids).bind fun x1=>some x1) (some false)) (some false)) (some false)):Option Bool).bind fun s1=>some s1)
def yB(n:Nat)(qbm:F30t)(qbn:F31t)(p0:List Val)(p1:List Val)(rec:F2t)(s1:Int):Option (LR Unit Bool):=(cond (decide (s1<(p0.length:Int))) ((idx p0 s1).bind fun x1=>((idx p1 s1).bind fun x2=>((qbm x1 x2).bind fun x3=>(cond (!x3) (some (.rt false)) (rec (s1+1)))))) (some (.nx ())))
def zQ(n:Nat)(qbm:F30t)(qbn:F31t)(p0:List Val)(p1:List Val)(k:Nat):Int→Option (LR Unit Bool):=aL (yB n qbm qbn p0 p1) k
def Dc(n:Nat)(qbm:F30t)(qbn:F31t)(p0:List Val)(p1:List Val):Option Bool:=(cond ((p0.length:Int)!=(p1.length:Int)) (some false) ((zQ n qbm qbn p0 p1 n 0).bind (LR.el (fun s2=>some true) (fun r=>some r))))
mutual
def dB:Nat→Val→Val→Option Bool
 |0,_,_=>none
 |n+1,p0,p1=>Fe n (dB n) (vY n) p0 p1
def vY:Nat→(List Val)→(List Val)→Option Bool
 |0,_,_=>none
 |n+1,p0,p1=>Dc n (dB n) (vY n) p0 p1
end
def eval_copyType_L0B(n:Nat)(rec_eval_copyType:F24t)(x1:List Ty)(rec:F42t)(s1:Int×(List Ty)):Option (LR (List Ty) Ty):=(cond (decide (s1.1<(x1.length:Int))) ((idx s1.2 s1.1).bind fun x3=>((idx s1.2 s1.1).bind fun x4=>((rec_eval_copyType x4).bind fun x5=>((idx s1.2 s1.1).bind fun x6=>((idx s1.2 s1.1).bind fun x7=>rec ((s1.1+1),(upd s1.2 s1.1 x5))))))) (some (.nx s1.2)))
def eval_copyType_L0(n:Nat)(rec_eval_copyType:F24t)(x1:List Ty)(k:Nat):(Int×(List Ty))→Option (LR (List Ty) Ty):=aL (eval_copyType_L0B n rec_eval_copyType x1) k
def eval_copyType_body(n:Nat)(rec_eval_copyType:F24t)(p0:Ty):Option Ty:=((slices_Clone_Type n p0.kids).bind fun x1=>((slices_Clip_Type n x1).bind fun x2=>((eval_copyType_L0 n rec_eval_copyType x1 n (0,x1)).bind (LR.el (fun s2=>some (Ty.mk p0.kind p0.name s2)) (fun r=>some r)))))
def eval_copyType:Nat→Ty→Option Ty
 |0,_=>none
 |n+1,p0=>eval_copyType_body n (eval_copyType n) p0
def Me(n:Nat)(p0:Env)(p1:List Int)(rec:F2t)(s1:Int):Option (LR Unit Bool):=(cond (decide (s1<(p1.length:Int))) ((idx p0.carriers s1).bind fun x1=>((((idx p1 s1).bind fun x2=>(cond (decide (x2<1)) (some true) ((idx p1 s1).bind fun x3=>(cond (decide (8<x3)) (some true) (cond (decide (0<(x1.elems.length:Int))) ((idx p1 s1).bind fun x4=>some (x4 !=(x1.elems.length:Int))) (some false)))))):Option Bool).bind fun s3=>(cond s3 (some (.rt false)) (rec (s1+1))))) (some (.nx ())))
def Pk(n:Nat)(p0:Env)(p1:List Int)(k:Nat):Int→Option (LR Unit Bool):=aL (Me n p0 p1) k
def VG(n:Nat)(p0:Env)(p1:List Int):Option Bool:=(cond ((p1.length:Int)!=(p0.carriers.length:Int)) (some false) ((Pk n p0 p1 n 0).bind (LR.el (fun s2=>some true) (fun r=>some r))))
def LM(n:Nat)(p0:Int)(p1:Int):Option Int:=(cond (decide (p0<p1)) (some (-1)) (cond (decide (p1<p0)) (some 1) (some 0)))
def yL(n:Nat)(qbj:F9t)(p0:Val)(p1:Val)(rec:F4t)(s1:Int):Option (LR Unit Int):=(((cond (decide (s1<(p0.kids.length:Int))) (some (decide (s1<(p1.kids.length:Int)))) (some false)):Option Bool).bind fun s3=>(cond s3 ((idx p0.kids s1).bind fun x4=>((idx p1.kids s1).bind fun x5=>((qbj x4 x5).bind fun x6=>(cond (x6 !=0) (some (.rt x6)) (rec (IntKind.wrap .i64 (s1+1))))))) (some (.nx ()))))
def GD(n:Nat)(qbj:F9t)(p0:Val)(p1:Val)(k:Nat):Int→Option (LR Unit Int):=aL (yL n qbj p0 p1) k
def Jd(n:Nat)(qbj:F9t)(p0:Val)(p1:Val):Option Int:=(cond (p0.kind !=p1.kind) ((LM n p0.kind p1.kind).bind fun x1=>some x1) (cond (p0.n !=p1.n) ((LM n p0.n p1.n).bind fun x2=>some x2) (cond (Op.bytesLess p0.name p1.name) (some (-1)) (cond (!(Op.bytesLess p0.name p1.name ||p0.name==p1.name)) (some 1) ((GD n qbj p0 p1 n 0).bind (LR.el (fun s2=>((LM n (p0.kids.length:Int) (p1.kids.length:Int)).bind fun x3=>some x3)) (fun r=>some r)))))))
def nI:Nat→Val→Val→Option Int
 |0,_,_=>none
 |n+1,p0,p1=>Jd n (nI n) p0 p1
def DW(n:Nat)(qbu:F8t)(p0:Env)(p1:List Int)(p2:Val)(p3:Ty)(rec:F2t)(s6:Int):Option (LR Unit Bool):=(cond (decide (s6<(p2.kids.length:Int))) ((((idx p2.kids s6).bind fun x9=>((idx p3.kids 0).bind fun x10=>((qbu p0 p1 x9 x10).bind fun x11=>(cond (!x11) (some true) (cond (decide (0<s6)) ((idx p2.kids (IntKind.wrap .i64 (s6 - 1))).bind fun x12=>((idx p2.kids s6).bind fun x13=>((nI n x12 x13).bind fun x14=>some (decide (0≤x14))))) (some false)))))):Option Bool).bind fun s8=>(cond s8 (some (.rt false)) (rec (s6+1)))) (some (.nx ())))
def Dx(n:Nat)(qbu:F8t)(p0:Env)(p1:List Int)(p2:Val)(p3:Ty)(k:Nat):Int→Option (LR Unit Bool):=aL (DW n qbu p0 p1 p2 p3) k
def nA(n:Nat)(qbu:F8t)(p0:Env)(p1:List Int)(p2:Val)(p3:Ty):Option Bool:=(cond (p3.kind==1) (((cond (p2.kind==1) (cond (p2.name==([]:Str)) (cond ((p2.kids.length:Int)==0) (cond (decide ((-1000000000)≤p2.n)) (some (decide (p2.n≤1000000000))) (some false)) (some false)) (some false)) (some false)):Option Bool).bind fun s1=>some s1) (cond (p3.kind==2) (((cond (p2.kind==2) (cond (p2.name==([]:Str)) (cond ((p2.kids.length:Int)==0) (cond (p2.n==0) (some true) (some (p2.n==1))) (some false)) (some false)) (some false)):Option Bool).bind fun s2=>some s2) (cond (p3.kind==3) (((cond (p2.kind==3) (cond (p2.name==p3.name) (cond ((p2.kids.length:Int)==0) (cond (decide (0≤p2.n)) ((nT n p0 p3.name).bind fun x1=>((idx p1 x1).bind fun x2=>some (decide (p2.n<x2)))) (some false)) (some false)) (some false)) (some false)):Option Bool).bind fun s3=>some s3) (cond (p3.kind==4) (((cond (p2.kind==4) (cond (p2.n==0) (cond (p2.name==([]:Str)) (cond ((p2.kids.length:Int)==2) ((idx p2.kids 0).bind fun x3=>((idx p3.kids 0).bind fun x4=>((qbu p0 p1 x3 x4).bind fun x5=>(cond x5 ((idx p2.kids 1).bind fun x6=>((idx p3.kids 1).bind fun x7=>((qbu p0 p1 x6 x7).bind fun x8=>some x8))) (some false))))) (some false)) (some false)) (some false)) (some false)):Option Bool).bind fun s4=>some s4) (((cond (p2.kind !=5) (some true) (cond (p2.n !=0) (some true) (cond (!(p2.name==([]:Str))) (some true) (some (decide (256<(p2.kids.length:Int))))))):Option Bool).bind fun s5=>(cond s5 (some false) ((Dx n qbu p0 p1 p2 p3 n 0).bind (LR.el (fun s7=>some true) (fun r=>some r)))))))))
def wU:Nat→Env→(List Int)→Val→Ty→Option Bool
 |0,_,_,_,_=>none
 |n+1,p0,p1,p2,p3=>nA n (wU n) p0 p1 p2 p3
def aeU(n:Nat)(p0:S_api_World)(rec:F2t)(s2:Int):Option (LR Unit Bool):=(cond (decide (s2<(p0.values.length:Int))) ((idx p0.values s2).bind fun x1=>((idx p0.env.names s2).bind fun x2=>((wU n p0.env p0.sizes x1 x2.ty).bind fun x3=>(cond (!x3) (some (.rt false)) (rec (s2+1)))))) (some (.nx ())))
def HV(n:Nat)(p0:S_api_World)(k:Nat):Int→Option (LR Unit Bool):=aL (aeU n p0) k
def AO(n:Nat)(p0:S_api_World):Option Bool:=((((BG n p0.env).bind fun x4=>(cond (!x4) (some true) ((VG n p0.env p0.sizes).bind fun x5=>(cond (!x5) (some true) (some ((p0.values.length:Int)!=(p0.env.names.length:Int))))))):Option Bool).bind fun s1=>(cond s1 (some false) ((HV n p0 n 0).bind (LR.el (fun s3=>some true) (fun r=>some r)))))
def Jb(n:Nat)(p0:Str)(p1:List Carrier)(p2:List Decl):Option Bool:=((Pz n (Env.mk p1 p2) p0).bind fun x1=>some (decide (x1<0)))
def Kj(n:Nat)(p0:List Str)(p1:List Carrier)(p2:List Decl)(rec:F4t)(s1:Int):Option (LR Unit Int):=(cond (decide (s1<(p0.length:Int))) ((idx p0 s1).bind fun x1=>((Jb n x1 p1 p2).bind fun x2=>(cond x2 (some (.rt s1)) (rec (s1+1))))) (some (.nx ())))
def yO(n:Nat)(p0:List Str)(p1:List Carrier)(p2:List Decl)(k:Nat):Int→Option (LR Unit Int):=aL (Kj n p0 p1 p2) k
def tL(n:Nat)(p0:List Str)(p1:List Carrier)(p2:List Decl):Option Int:=((yO n p0 p1 p2 n 0).bind (LR.el (fun s2=>some (-1)) (fun r=>some r)))
def qj(n:Nat)(p0:List Str)(p1:List Carrier)(p2:List Decl):Option Bool:=((tL n p0 p1 p2).bind fun x1=>some (decide (0≤x1)))
def Px(n:Nat)(p0:Env)(p1:Ty):Option Bool:=((((ql n p1).bind fun x1=>(cond x1 ((wV n p1).bind fun x2=>((qj n x2 p0.carriers p0.names).bind fun x3=>some (!x3))) (some false))):Option Bool).bind fun s1=>some s1)
def eval_wide_L0B(n:Nat)(p0:Env)(rec:((List Int)×Int)→Option (LR (List Int) (List Int)))(s1:(List Int)×Int):Option (LR (List Int) (List Int)):=(cond (decide (s1.2<(p0.carriers.length:Int))) ((((idx p0.carriers s1.2).bind fun x1=>(cond (decide (0<(x1.elems.length:Int))) ((app 8 s1.1 ([(x1.elems.length:Int)])).bind fun x2=>some x2) ((app 8 s1.1 ([8])).bind fun x3=>some x3))):Option (List Int)).bind fun s3=>rec (s3,(s1.2+1))) (some (.nx s1.1)))
def eval_wide_L0(n:Nat)(p0:Env)(k:Nat):((List Int)×Int)→Option (LR (List Int) (List Int)):=aL (eval_wide_L0B n p0) k
def eval_wide(n:Nat)(p0:Env):Option (List Int):=((eval_wide_L0 n p0 n (([]:List Int),0)).bind (LR.el (fun s2=>some s2) (fun r=>some r)))
def eval_literal_L0B(n:Nat)(rec_eval_literal:F40t)(p0:Env)(p1:Val)(p2:Ty)(rec:(Int×(List Tm))→Option (LR (List Tm) (PZ Tm Unit)))(s1:Int×(List Tm)):Option (LR (List Tm) (PZ Tm Unit)):=(cond (decide (s1.1<(p1.kids.length:Int))) ((idx p1.kids s1.1).bind fun x13=>((idx p2.kids 0).bind fun x14=>((rec_eval_literal p0 x13 x14).bind (PZ.el (fun x15=>((app 104 s1.2 ([x15])).bind fun x16=>rec ((s1.1+1),x16))) (fun(e3:Int) _=>some (.rt (.er e3 ()))))))) (some (.nx s1.2)))
def eval_literal_L0(n:Nat)(rec_eval_literal:F40t)(p0:Env)(p1:Val)(p2:Ty)(k:Nat):(Int×(List Tm))→Option (LR (List Tm) (PZ Tm Unit)):=aL (eval_literal_L0B n rec_eval_literal p0 p1 p2) k
def eval_literal_body(n:Nat)(rec_eval_literal:F40t)(p0:Env)(p1:Val)(p2:Ty):Option (PZ Tm Unit):=(cond (p1.kind==1) (cond (decide (p1.n<0)) (some (.ok (Tm.mk 21 ([]:Str) 0 (Ty.mk 0 ([]:Str) ([])) ([(Tm.mk 19 ([]:Str) (IntKind.wrap .i64 (0 - p1.n)) (Ty.mk 0 ([]:Str) ([])) ([]))])))) (some (.ok (Tm.mk 19 ([]:Str) p1.n (Ty.mk 0 ([]:Str) ([])) ([]))))) (cond (p1.kind==3) ((Pz n p0 p1.name).bind fun x1=>((idx p0.carriers x1).bind fun x2=>(cond ((x2.elems.length:Int)==0) (some (.er 23 ())) ((idx x2.elems p1.n).bind fun x3=>some (.ok (Tm.mk 20 x3 0 (Ty.mk 0 ([]:Str) ([])) ([]))))))) (cond (p1.kind==4) ((idx p1.kids 0).bind fun x4=>((idx p2.kids 0).bind fun x5=>((rec_eval_literal p0 x4 x5).bind (PZ.el (fun x6=>((idx p1.kids 1).bind fun x7=>((idx p2.kids 1).bind fun x8=>((rec_eval_literal p0 x7 x8).bind (PZ.el (fun x9=>some (.ok (Tm.mk 27 ([]:Str) 0 (Ty.mk 0 ([]:Str) ([])) ([x6,x9])))) (fun(e1:Int) _=>some (.er e1 ()))))))) (fun(e2:Int) _=>some (.er e2 ())))))) (cond ((p1.kids.length:Int)==0) ((idx p2.kids 0).bind fun x10=>((eval_copyType n x10).bind fun x11=>some (.ok (Tm.mk 29 ([]:Str) 0 x11 ([]))))) ((eval_literal_L0 n rec_eval_literal p0 p1 p2 n (0,([]:List Tm))).bind (LR.el (fun s2=>((slices_Clip_Term_s n s2).bind fun x12=>some (.ok (Tm.mk 28 ([]:Str) 0 (Ty.mk 0 ([]:Str) ([])) x12)))) (fun r=>some r)))))))
def eval_literal:Nat→Env→Val→Ty→Option (PZ Tm Unit)
 |0,_,_,_=>none
 |n+1,p0,p1,p2=>eval_literal_body n (eval_literal n) p0 p1 p2
def eval_Literal(n:Nat)(p0:Env)(p1:Val)(p2:Ty):Option (Tm×Int):=((((rY n p0).bind fun x1=>(cond (!x1) (some true) ((Px n p0 p2).bind fun x2=>some (!x2)))):Option Bool).bind fun b1=>(cond b1 (some (Tm.mk 0 ([]:Str) 0 (Ty.mk 0 ([]:Str) []) [],1)) (((cond (p1.kind==2) (some true) ((eval_wide n p0).bind fun x3=>((kN n p0 x3 p1 p2).bind fun x4=>some (!x4))):Option Bool)).bind fun b2=>(cond b2 (some (Tm.mk 0 ([]:Str) 0 (Ty.mk 0 ([]:Str) []) [],7)) ((eval_literal n p0 p1 p2).bind (PZ.el (fun x5=>((J7 n x5).bind fun x6=>(cond (!x6) (some (Tm.mk 0 ([]:Str) 0 (Ty.mk 0 ([]:Str) []) [],5)) (some (x5,0))))) (fun e _=>bif decide ((0:Int)≤e)&&decide (e≤1000)then some (Tm.mk 0 ([]:Str) 0 (Ty.mk 0 ([]:Str) []) [],e)else none)))))))
def L3_EvalLiteralBack(n:Nat)(p0:S_api_World)(p1:Val)(p2:Ty):Option Bool:=((((Ah n p0.env).bind fun x7=>(cond (!x7) (some true) ((AO n p0).bind fun x8=>some (!x8)))):Option Bool).bind fun s1=>(cond s1 ((jf n).bind fun x1=>some x1) ((eval_Literal n p0.env p1 p2).bind fun x2=>(cond (x2.2 !=0) (((cond (x2.1.op==0) ((jf n).bind fun x3=>some x3) (some false)):Option Bool).bind fun s2=>some s2) ((mU n p0 x2.1).bind fun x4=>(((cond (x4.2==0) ((dB n x4.1 p1).bind fun x5=>(cond x5 ((jf n).bind fun x6=>some x6) (some false))) (some false)):Option Bool).bind fun s3=>some s3))))))
def ayr(n:Nat)(p0:Int):Option Val:=some (Val.mk 1 p0 ([]:Str) ([]))
def auF(n:Nat)(p0:Int):Option Bool:=((((wD n p0).bind fun x1=>(cond x1 (some true) ((CY n p0).bind fun x2=>(cond x2 (some true) (some (p0==95)))))):Option Bool).bind fun s1=>some s1)
def aon(n:Nat)(p0:Str)(rec:F33t)(s2:Int×Int):Option (LR Int Int):=(cond (decide (s2.2<(p0.length:Int))) ((oL p0 s2.2).bind fun x1=>((CY n x1).bind fun x2=>(cond (!x2) (some (.rt (-1))) ((oL p0 s2.2).bind fun x3=>rec ((IntKind.wrap .i64 ((IntKind.wrap .i64 (10*s2.1))+(IntKind.wrap .i64 (IntKind.wrap .u8 (x3 - 48))))),(s2.2+1)))))) (some (.nx s2.1)))
def ar6(n:Nat)(p0:Str)(k:Nat):(Int×Int)→Option (LR Int Int):=aL (aon n p0) k
def anE(n:Nat)(p0:Str):Option Int:=(((cond (decide (10<(p0.length:Int))) (some true) (cond (decide (1<(p0.length:Int))) ((oL p0 0).bind fun x4=>some (x4==48)) (some false))):Option Bool).bind fun s1=>(cond s1 (some (-1)) ((ar6 n p0 n (0,0)).bind (LR.el (fun s3=>(cond (decide (1000000000<s3)) (some (-1)) (some s3))) (fun r=>some r)))))
def atG(n:Nat)(p0:Str)(p1:Int)(rec:Int→Option (LR Unit Str))(s1:Int):Option (LR Unit Str):=(cond (decide (s1<(([([62,45,62,62]:Str),([60,61,62]:Str),([60,60,124]:Str),([124,62,62]:Str),([124,45,62]:Str),([60,45,62]:Str),([43,45,62]:Str),([45,45,62]:Str),([62,45,62]:Str),([61,62]:Str),([47,61]:Str),([60,61]:Str),([62,61]:Str),([46,46]:Str),([92,47]:Str),([47,92]:Str),([62,60]:Str),([60,43]:Str),([60,124]:Str),([124,62]:Str)]).length:Int))) ((((idx ([([62,45,62,62]:Str),([60,61,62]:Str),([60,60,124]:Str),([124,62,62]:Str),([124,45,62]:Str),([60,45,62]:Str),([43,45,62]:Str),([45,45,62]:Str),([62,45,62]:Str),([61,62]:Str),([47,61]:Str),([60,61]:Str),([62,61]:Str),([46,46]:Str),([92,47]:Str),([47,92]:Str),([62,60]:Str),([60,43]:Str),([60,124]:Str),([124,62]:Str)]) s1).bind fun x5=>(cond (decide ((x5.length:Int)≤(IntKind.wrap .i64 ((p0.length:Int) - p1)))) ((idx ([([62,45,62,62]:Str),([60,61,62]:Str),([60,60,124]:Str),([124,62,62]:Str),([124,45,62]:Str),([60,45,62]:Str),([43,45,62]:Str),([45,45,62]:Str),([62,45,62]:Str),([61,62]:Str),([47,61]:Str),([60,61]:Str),([62,61]:Str),([46,46]:Str),([92,47]:Str),([47,92]:Str),([62,60]:Str),([60,43]:Str),([60,124]:Str),([124,62]:Str)]) s1).bind fun x6=>((kQ p0 p1 (IntKind.wrap .i64 (p1+(x6.length:Int)))).bind fun x7=>((idx ([([62,45,62,62]:Str),([60,61,62]:Str),([60,60,124]:Str),([124,62,62]:Str),([124,45,62]:Str),([60,45,62]:Str),([43,45,62]:Str),([45,45,62]:Str),([62,45,62]:Str),([61,62]:Str),([47,61]:Str),([60,61]:Str),([62,61]:Str),([46,46]:Str),([92,47]:Str),([47,92]:Str),([62,60]:Str),([60,43]:Str),([60,124]:Str),([124,62]:Str)]) s1).bind fun x8=>some (x7==x8)))) (some false))):Option Bool).bind fun s3=>(cond s3 ((idx ([([62,45,62,62]:Str),([60,61,62]:Str),([60,60,124]:Str),([124,62,62]:Str),([124,45,62]:Str),([60,45,62]:Str),([43,45,62]:Str),([45,45,62]:Str),([62,45,62]:Str),([61,62]:Str),([47,61]:Str),([60,61]:Str),([62,61]:Str),([46,46]:Str),([92,47]:Str),([47,92]:Str),([62,60]:Str),([60,43]:Str),([60,124]:Str),([124,62]:Str)]) s1).bind fun x4=>some (.rt x4)) (rec (s1+1)))) (some (.nx ())))
def awE(n:Nat)(p0:Str)(p1:Int)(k:Nat):Int→Option (LR Unit Str):=aL (atG n p0 p1) k
def avy(n:Nat)(p0:Str)(p1:Int):Option Str:=((awE n p0 p1 n 0).bind (LR.el (fun s2=>((kQ p0 p1 (IntKind.wrap .i64 (p1+1))).bind fun x1=>((Mi n x1 ([([38]:Str),([61]:Str),([60]:Str),([62]:Str),([43]:Str),([45]:Str),([42]:Str),([47]:Str),([92]:Str),([59]:Str),([126]:Str),([46]:Str),([44]:Str),([124]:Str),([40]:Str),([41]:Str),([91]:Str),([93]:Str),([123]:Str),([125]:Str)])).bind fun x2=>(cond x2 ((kQ p0 p1 (IntKind.wrap .i64 (p1+1))).bind fun x3=>some x3) (some ([]:Str)))))) (fun r=>some r)))
def awI(n:Nat)(p0:Str)(rec:F45t)(s1:Int):Option (LR Int S_refinementref01_token):=(((cond (decide (s1<(p0.length:Int))) ((oL p0 s1).bind fun x19=>(cond (x19==32) (some true) ((oL p0 s1).bind fun x20=>(cond (x20==9) (some true) ((oL p0 s1).bind fun x21=>some (x21==10)))))) (some false)):Option Bool).bind fun s11=>(cond s11 (rec (IntKind.wrap .i64 (s1+1))) (some (.nx s1))))
def aAe(n:Nat)(p0:Str)(k:Nat):Int→Option (LR Int S_refinementref01_token):=aL (awI n p0) k
def awZ(n:Nat)(p0:Str)(rec:F45t)(s3:Int):Option (LR Int S_refinementref01_token):=(((cond (decide (s3<(p0.length:Int))) ((oL p0 s3).bind fun x17=>((auF n x17).bind fun x18=>some x18)) (some false)):Option Bool).bind fun s10=>(cond s10 (rec (IntKind.wrap .i64 (s3+1))) (some (.nx s3))))
def azG(n:Nat)(p0:Str)(k:Nat):Int→Option (LR Int S_refinementref01_token):=aL (awZ n p0) k
def aqn(n:Nat)(p0:Str)(p1:Int):Option S_refinementref01_token:=((aAe n p0 n p1).bind (LR.el (fun s2=>(cond (s2==(p0.length:Int)) (some (S_refinementref01_token.mk 0 ([]:Str) s2)) ((azG n p0 n s2).bind (LR.el (fun s4=>((kQ p0 s2 s4).bind fun x1=>((((oL p0 s2).bind fun x14=>((wD n x14).bind fun x15=>(cond x15 ((Ja n x1).bind fun x16=>some x16) (some false)))):Option Bool).bind fun s5=>(cond s5 (some (S_refinementref01_token.mk 2 x1 s2)) ((((oL p0 s2).bind fun x12=>((wD n x12).bind fun x13=>(cond x13 (some (decide (16<(x1.length:Int)))) (some false)))):Option Bool).bind fun s6=>(cond s6 (some (S_refinementref01_token.mk 5 x1 s2)) ((oL p0 s2).bind fun x2=>((wD n x2).bind fun x3=>(cond x3 (((((cond (decide (s4<(p0.length:Int))) ((oL p0 s4).bind fun x5=>some (x5==39)) (some false)):Option Bool).bind fun s8=>(cond s8 ((kQ p0 s2 (IntKind.wrap .i64 (s4+1))).bind fun x4=>some x4) (some x1))):Option Str).bind fun s7=>some (S_refinementref01_token.mk 1 s7 s2)) ((((oL p0 s2).bind fun x9=>((CY n x9).bind fun x10=>(cond x10 ((anE n x1).bind fun x11=>some (decide (x11<0))) (some false)))):Option Bool).bind fun s9=>(cond s9 (some (S_refinementref01_token.mk 5 x1 s2)) ((oL p0 s2).bind fun x6=>((CY n x6).bind fun x7=>(cond x7 (some (S_refinementref01_token.mk 3 x1 s2)) ((avy n p0 s2).bind fun x8=>(cond (!(x8==([]:Str))) (some (S_refinementref01_token.mk 4 x8 s2)) (some (S_refinementref01_token.mk 5 ([]:Str) s2)))))))))))))))))) (fun r=>some r))))) (fun r=>some r)))
def asu(n:Nat)(p0:Str)(p1:Int)(p2:Str)(p3:Int)(p4:Int)(p5:Int)(p6:Int):Option Bool:=some (p6==0)
def acK(n:Nat)(p0:Str)(p1:Int)(p2:Str)(p3:Int)(p4:Int)(p5:Int)(p6:Int)(p7:Str):Option Bool:=(((cond (p1==4) (some (p2==p7)) (cond (p1==2) (some (p2==p7)) (some false))):Option Bool).bind fun s1=>some s1)
def L8(n:Nat)(p0:Str)(p1:Int)(p2:Str)(p3:Int)(p4:Int)(p5:Int)(p6:Int)(p7:Int)(p8:Int):Option (Int×Int):=(cond (p6==0) (some (p8,p7)) (some (p5,p6)))
def LY(n:Nat)(p0:Str)(p1:Int)(p2:Str)(p3:Int)(p4:Int)(p5:Int)(p6:Int):Option (Int×Str×Int×Int×Int×Int):=((((Mi n p2 ([([40]:Str),([91]:Str),([123]:Str)])).bind fun x3=>(cond x3 (cond (decide (64<(IntKind.wrap .i64 (p4+1)))) ((L8 n p0 p1 p2 p3 (IntKind.wrap .i64 (p4+1)) p5 p6 4 p3).bind fun x4=>some ((IntKind.wrap .i64 (p4+1)),x4.1,x4.2)) (some ((IntKind.wrap .i64 (p4+1)),p5,p6))) (some (p4,p5,p6)))):Option (Int×Int×Int)).bind fun s1=>((((Mi n p2 ([([41]:Str),([93]:Str),([125]:Str)])).bind fun x2=>(cond x2 (some (IntKind.wrap .i64 (s1.1 - 1))) (some s1.1))):Option Int).bind fun s2=>((aqn n p0 (IntKind.wrap .i64 (p3+(p2.length:Int)))).bind fun x1=>some (x1.kind,x1.s,x1.at_,s2,s1.2.1,s1.2.2))))
def Ck(n:Nat)(p0:Str)(p1:Int)(p2:Str)(p3:Int)(p4:Int)(p5:Int)(p6:Int):Option (Int×Int):=((L8 n p0 p1 p2 p3 p4 p5 p6 2 p3).bind fun x1=>some (x1.1,x1.2))
def akU(n:Nat)(p0:Str)(p1:Int)(p2:Str)(p3:Int)(p4:Int)(p5:Int)(p6:Int)(p7:Str):Option (Int×Str×Int×Int×Int×Int):=(cond (!(p6==0)) (some (p1,p2,p3,p4,p5,p6)) ((acK n p0 p1 p2 p3 p4 p5 p6 p7).bind fun x1=>(cond (!x1) ((Ck n p0 p1 p2 p3 p4 p5 p6).bind fun x2=>some (p1,p2,p3,p4,x2.1,x2.2)) ((LY n p0 p1 p2 p3 p4 p5 p6).bind fun x3=>some (x3.1,x3.2.1,x3.2.2.1,x3.2.2.2.1,x3.2.2.2.2.1,x3.2.2.2.2.2)))))
def ade(n:Nat)(p0:Str)(p1:Int)(p2:Str)(p3:Int)(p4:Int)(p5:Int)(p6:Int):Option Bool:=((aqn n p0 (IntKind.wrap .i64 (p3+(p2.length:Int)))).bind fun x1=>(((cond (x1.kind==2) (some (x1.s==([105,110]:Str))) (some false)):Option Bool).bind fun s1=>some s1))
def af5(n:Nat)(p0:Str):Option Int:=(cond (p0==([61]:Str)) (some 10) (cond (p0==([47,61]:Str)) (some 11) (cond (p0==([60]:Str)) (some 12) (cond (p0==([60,61]:Str)) (some 13) (cond (p0==([62]:Str)) (some 14) (cond (p0==([62,61]:Str)) (some 15) (cond (p0==([105,110]:Str)) (some 16) (cond (p0==([110,111,116,105,110]:Str)) (some 17) (cond (p0==([115,117,98]:Str)) (some 18) (some 0))))))))))
def abl(n:Nat)(p0:Str):Option Int:=(cond (p0==([60,45,62]:Str)) (some 41) (cond (p0==([43,45,62]:Str)) (some 42) (cond (p0==([45,45,62]:Str)) (some 43) (cond (p0==([62,45,62]:Str)) (some 44) (cond (p0==([62,45,62,62]:Str)) (some 45) (some 0))))))
def auE(n:Nat)(p0:Str):Option Int:=(cond (p0==([92,47]:Str)) (some 31) (cond (p0==([47,92]:Str)) (some 32) (cond (p0==([92]:Str)) (some 33) (cond (p0==([62,60]:Str)) (some 34) (cond (p0==([60,43]:Str)) (some 35) (cond (p0==([59]:Str)) (some 36) (cond (p0==([60,124]:Str)) (some 37) (cond (p0==([60,60,124]:Str)) (some 38) (cond (p0==([124,62]:Str)) (some 39) (cond (p0==([124,62,62]:Str)) (some 40) (some 0)))))))))))
def amL(n:Nat)(p0:Str):Option (Int×Int):=(cond (p0==([60,61,62]:Str)) (some (1,7)) (cond (p0==([61,62]:Str)) (some (2,6)) (cond (p0==([111,114]:Str)) (some (3,5)) (cond (p0==([38]:Str)) (some (4,4)) (cond (p0==([124,45,62]:Str)) (some (8,27)) (cond (p0==([46,46]:Str)) (some (10,30)) (cond (p0==([43]:Str)) (some (11,22)) (cond (p0==([45]:Str)) (some (11,23)) (cond (p0==([42]:Str)) (some (12,24)) (cond (p0==([47]:Str)) (some (12,25)) (cond (p0==([109,111,100]:Str)) (some (12,26)) ((af5 n p0).bind fun x1=>(cond (decide (0<x1)) (some (6,x1)) ((abl n p0).bind fun x2=>(cond (decide (0<x2)) (some (7,x2)) ((auE n p0).bind fun x3=>(cond (decide (0<x3)) (some (9,x3)) (some (0,0)))))))))))))))))))
def acE(n:Nat)(p0:Str)(p1:Int)(p2:Str)(p3:Int)(p4:Int)(p5:Int)(p6:Int)(p7:Int):Option Int:=(((cond (p1 !=4) (some (p1 !=2)) (some false)):Option Bool).bind fun s1=>(cond s1 (some 0) ((amL n p2).bind fun x1=>(cond (x1.1 !=p7) (some 0) (some x1.2)))))
def akR(n:Nat)(p0:Str)(p1:Int)(p2:Str)(p3:Int)(p4:Int)(p5:Int)(p6:Int):Option (Str×Int×Str×Int×Int×Int×Int):=(cond (!(p6==0)) (some (([]:Str),p1,p2,p3,p4,p5,p6)) (((cond (p1 !=1) (some true) ((Nk n p2).bind fun x3=>some x3)):Option Bool).bind fun s1=>(cond s1 ((Ck n p0 p1 p2 p3 p4 p5 p6).bind fun x1=>some (([]:Str),p1,p2,p3,p4,x1.1,x1.2)) ((LY n p0 p1 p2 p3 p4 p5 p6).bind fun x2=>some (p2,x2.1,x2.2.1,x2.2.2.1,x2.2.2.2.1,x2.2.2.2.2.1,x2.2.2.2.2.2)))))
def aos(n:Nat)(p0:Str)(rec:F4t)(s1:Int):Option (LR Unit Int):=(cond (decide (s1<(([([80,79,87]:Str),([99,97,114,100]:Str),([109,105,110]:Str),([109,97,120]:Str),([100,111,109]:Str),([114,97,110]:Str)]).length:Int))) ((idx ([([80,79,87]:Str),([99,97,114,100]:Str),([109,105,110]:Str),([109,97,120]:Str),([100,111,109]:Str),([114,97,110]:Str)]) s1).bind fun x1=>(cond (x1==p0) (some (.rt (IntKind.wrap .i64 (46+s1)))) (rec (s1+1)))) (some (.nx ())))
def arE(n:Nat)(p0:Str)(k:Nat):Int→Option (LR Unit Int):=aL (aos n p0) k
def aAG(n:Nat)(p0:Str):Option Int:=((arE n p0 n 0).bind (LR.el (fun s2=>some 0) (fun r=>some r)))
def aoT(n:Nat)(p0:Str)(p1:Int)(p2:Str)(p3:Int)(p4:Int)(p5:Int)(p6:Int):Option (Int×Int):=(((cond (p6==0) (some (p1 !=0)) (some false)):Option Bool).bind fun s1=>(cond s1 ((Ck n p0 p1 p2 p3 p4 p5 p6).bind fun x1=>some (x1.1,x1.2)) (some (p5,p6))))
def Ao(n:Nat)(p0:Env)(p1:Tm):Option Int:=((A8 n p0 p1).bind fun x1=>(((cond (x1.2.2==0) (some (x1.1.kind !=2)) (some false)):Option Bool).bind fun s1=>(cond s1 (some 7) (some x1.2.2))))
def eval_interp_holds(n:Nat)(p0:List Carrier)(p1:List Decl)(p2:List Int)(p3:List (Str×Val))(p4:List Bound)(p5:Tm):Option (Bool×Int×(List Bound)):=((rW n p0 p1 p2 p3 p4 p5).bind fun x1=>(((cond (x1.2.1==0) (some ((x1.1.n==1),x1.2.1)) (some (false,x1.2.1))):Option (Bool×Int)).bind fun s1=>some (s1.1,s1.2,x1.2.2)))
def j4(n:Nat)(p0:S_api_World)(p1:Tm):Option (Bool×Int):=((((wP n p0).bind fun x4=>(cond (!x4) (some true) ((J7 n p1).bind fun x5=>some (!x5)))):Option Bool).bind fun s1=>(cond s1 (some (false,1)) ((Ao n p0.env p1).bind fun x1=>(cond (x1 !=0) (some (false,x1)) ((Mt n p0).bind fun x2=>((eval_interp_holds n x2.1 x2.2.1 x2.2.2.1 x2.2.2.2.1 x2.2.2.2.2 p1).bind fun x3=>some (x3.1,x3.2.1)))))))
end Abs
end Go.Proofs.YthgdaonechbgmaaGreat
