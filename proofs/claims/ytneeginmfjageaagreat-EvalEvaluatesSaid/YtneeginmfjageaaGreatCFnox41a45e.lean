/-
  Printed by gend.py. Conditions: none.
-/
import Derived.Test.YtneeginmfjageaaGreatCD2ox25f75d
set_option linter.all false
namespace Go.Proofs.YtneeginmfjageaaGreat
namespace Abs
open Go Go.Proofs
set_option maxRecDepth 100000
structure S_api_World where
 env:Env
 sizes:A2
 values:Af
structure S_refinementref01_token where
 kind:Int
 s:Str
 at_:Int
abbrev F0t:=S_api_World->At->Tm->Option (Val×Int)
abbrev F1t:=A7->A4->A2->(List (Str×Val))->At->Tm->Option (PZ (Val×At) At)
abbrev F2t:=Int->Option (LR Unit Bool)
abbrev F3t:=A7->A4->A2->(List (Str×Val))->At->Tm->Option (PZ (Af×At) At)
abbrev F4t:=(Af×Int)->Option (LR Af Af)
abbrev F5t:=Int->Option (LR Unit Int)
abbrev F6t:=A7->A4->A2->(List (Str×Val))->At->Tm->Option (PZ (Int×Str×Int×Int×Str×A3×Bi×Af×Af×At) At)
abbrev F7t:=A7->A4->A2->(List (Str×Val))->At->Tm->Int->Str->Int->Int->Str->A3->Bi->Af->Bool->Bool->Option (PZ (At×Af×Bool×Bool) (At×Af))
abbrev F8t:=Ty->Int->Ax
abbrev F9t:=S_api_World->At->Bi->Option (Af×Int)
abbrev F10t:=Env->A2->Val->Ty->Ax
abbrev F11t:=Val->Val->B0
abbrev F12t:=Ty->Ty->Ax
abbrev F13t:=((List Af)×Int)->Option (LR (List Af) (List Af))
abbrev F14t:=Int->Af->Af->Int->Af->Af->Option Af
abbrev F15t:=(Af×Int)->Option (LR Af (PZ Val Unit))
abbrev F16t:=Val->Cf
abbrev F17t:=(Int×Int)->Option (LR Int Int)
abbrev F18t:=A3->Int->Int->Int->Int->Option (Int×Int)
abbrev F19t:=A3->Int->Int->Int->Int->Option (Bool×Int)
abbrev F20t:=Int->Int->Int->Ty->Int->Bool->Option (Bool×Int)
abbrev F21t:=Ty->Int->Int->Int->Int->Option (Bool×Int)
abbrev F22t:=A3->Int->B0
abbrev F23t:=A3->Int->Ax
abbrev F24t:=(Bk×Int)->Option (LR Bk Bk)
abbrev F25t:=A3->Int->Int->Str->Af->A7->A4->A2->Ax
abbrev F26t:=Bi->Int->Int->Int->Int->Option (Int×Int)
abbrev F27t:=Bi->Int->Int->Int->Int->Option (Bool×Int)
abbrev F28t:=Int->Int->Int->Tm->Int->Option (Bool×Int)
abbrev F29t:=Tm->Int->Int->Int->Int->Option (Bool×Int)
abbrev F30t:=Ty->B7
abbrev F31t:=(Af×Int)->Option (LR Af (Val×Int))
abbrev F32t:=Af->Option Af
abbrev F33t:=Af->Af->B0
abbrev F34t:=A3->A3->Ax
abbrev F35t:=(List (Str×Ty))->(List (Str×Bool))->A2->Tm->A4->Option (Ty×Int×A2)
abbrev F36t:=(List (Str×Ty))->(List (Str×Bool))->A2->Tm->Int->A4->Option (Ty×Int×A2)
abbrev F37t:=Af->Af->Ax
abbrev F38t:=Val->Val->Ax
abbrev F39t:=Ty->Int->Int->B0
abbrev F40t:=Tm->Int->Int->B0
abbrev F41t:=Tm->B0
abbrev F42t:=Ty->(List (Str×Bool))->Option (List (Str×Bool))
abbrev F43t:=(Int×(List (Str×Ty)))->Option (LR (List (Str×Ty)) (List (Str×Ty)))
abbrev F44t:=Ty->Ax
abbrev F45t:=Ty->Option Bk
abbrev F46t:=Env->A4->Tm->Option (Ty×A2×Int)
abbrev F47t:=(Af×Int)->Option (LR Af Val)
abbrev F48t:=(Int×Int)->Option (LR Int (Int×Int))
abbrev F49t:=(Int×A3)->Option (LR A3 Ty)
abbrev F50t:=(Int×Af)->Option (LR Af Af)
abbrev F51t:=Int->Option (LR Unit (Int×Int))
abbrev F52t:=Int->Option (LR Int S_refinementref01_token)
def Ah(n:Nat)(p:Env):=(cond (decide ((p.carriers.length:Int)<=100)) (some (decide ((p.names.length:Int)<=100))) (some false)).bind λs=>some s
def aed(n:Nat)(p:Int):=(cond (p==1) (some true) (cond (p==2) (some true) (cond (p==19) (some true) (cond (p==20) (some true) (some (p==29)))))).bind λs=>cond s (some 0) (((cond (p==3) (some true) (cond (p==21) (some true) (cond (decide (46<=p)) (some (decide (p<=52))) (some false)))):Ax).bind λa=>cond a (some 1) (cond (p==28) (some (-1)) (((cond (decide (4<=p)) (some (decide (p<=56))) (some false)):Ax).bind λb=>cond b (some 2) (some (-2)))))
def wD(n:Nat)(p:Int):=(cond (decide (97<=p)) (cond (decide (p<=122)) (some true) (cond (decide (65<=p)) (some (decide (p<=90))) (some false))) (cond (decide (65<=p)) (some (decide (p<=90))) (some false))).bind λs=>some s
def azX(n:Nat)p0(p:Bk)(r:F2t)s1:=cond (decide (s1<(p.length:Int))) ((idx p s1).bind λx=>cond (x==p0) (some (.rt true)) (r (s1+1))) (some (.nx ()))
def aq4 n p0 p1 k:=aL (azX n p0 p1) k
def Mi n p0 p1:=(aq4 n p0 p1 n 0).bind (LR.el (λs=>some false) λr=>some r)
def Ja n p0:=(Mi n p0 [([116,114,117,101]:Str),([102,97,108,115,101]:Str),([110,111,116]:Str),([111,114]:Str),([102,111,114,97,108,108]:Str),([101,120,105,115,116,115]:Str),([105,110]:Str),([110,111,116,105,110]:Str),([115,117,98]:Str),([109,111,100]:Str),([102,117,110]:Str),([99,97,114,100]:Str),([109,105,110]:Str),([109,97,120]:Str),([100,111,109]:Str),([114,97,110]:Str),([80,79,87]:Str),([105,110,116]:Str),([98,111,111,108]:Str),([115,101,116]:Str),([112,97,105,114]:Str)]).bind λx=>some x
def CY(n:Nat)(p:Int):=(cond (decide (48<=p)) (some (decide (p<=57))) (some false)).bind λs=>some s
def aeE(n)(p:Str)(r:F2t)s2:=cond (decide (s2<(p.length:Int))) ((((oL p s2).bind λx=>(wD n x).bind λa=>cond (!a) ((oL p s2).bind λb=>(CY n b).bind λc=>cond (!c) ((oL p s2).bind λd=>some (d !=95)) (some false)) (some false))).bind λs=>cond s (some (.rt false)) (r (s2+1))) (some (.nx ()))
def G7 n p0 k:=aL (aeE n p0) k
def jk(n:Nat)(p:Str):=(cond (decide ((p.length:Int)<1)) (some true) (cond (decide (16<(p.length:Int))) (some true) ((oL p 0).bind λx=>(wD n x).bind λa=>cond (!a) (some true) ((Ja n p).bind λb=>some b)))).bind λs=>cond s (some false) ((G7 n p n 1).bind (LR.el (λc=>some true) (λr=>some r)))
def Nk(n:Nat)(p:Str):=(cond (decide (1<(p.length:Int))) ((oL p ((p.length:Int) - 1)).bind λx=>cond (x==39) ((kQ p 0 ((p.length:Int) - 1)).bind λa=>(jk n a).bind λb=>some b) (some false)) (some false)).bind λs=>some s
def KN n p0:=((jk n p0).bind λx=>cond x (some true) ((Nk n p0).bind λa=>some a)).bind λs=>some s
def zM(n:Nat)(p:Int):=(cond (p==8) (some true) (cond (p==9) (some true) (cond (p==55) (some true) (some (p==56))))).bind λs=>some s
def ar2(n:Nat)(q:F39t)(p:Ty)(a:Int)(r:F17t)(s:Int×Int):Option (LR Int Int):=cond (decide (s.2<(p.kids.length:Int))) ((idx p.kids s.2).bind λb=>(q b (IntKind.wrap .i64 (a+1)) s.1).bind λx=>cond (decide (x<0)) (some (.rt (-1))) (r (x,(s.2+1)))) (some (.nx s.1))
def MC(n:Nat)(q:F39t)(p:Ty)(a:Int)(k:Nat):(Int×Int)->Option (LR Int Int):=aL (ar2 n q p a) k
def Oq(n:Nat)(q:F39t)(p:Ty)(a:Int)(b:Int):B0:=((cond (decide (6<a)) (some true) (cond (decide (16<(IntKind.wrap .i64 (b+1)))) (some true) (cond (p.kind==2) (some (decide (1<a))) (some false)))):Ax).bind λs=>cond s (some (-1)) (((((cond (p.kind==1) (some (p.kind==1)) (cond (p.kind==2) (some (p.kind==2)) (some (p.kind==3)))):Ax).bind λc=>cond c (some (.nx 0)) (cond (p.kind==5) (some (.nx 1)) (cond (p.kind==4) (some (.nx 2)) (some (.rt (-1)))))):Option (LR Int Int)).bind (LR.el (λd=>((cond ((p.kids.length:Int)!=d) (some true) (cond (p.kind==3) ((jk n p.name).bind λx=>cond (!x) (some true) (cond (p.kind !=3) (some (!(p.name==([]:Str)))) (some false))) (cond (p.kind !=3) (some (!(p.name==([]:Str)))) (some false)))):Ax).bind λe=>cond e (some (-1)) ((MC n q p a n ((IntKind.wrap .i64 (b+1)),0)).bind (LR.el (λf=>some f) (λr=>some r)))) (λr=>some r)))
def zR:Nat->Ty->Int->Int->B0|0,_,_,_=>none|n+1,p,a,b=>Oq n (zR n) p a b
def uS n p0:=(zR n p0 1 0).bind λx=>some (decide (0<x))
def Mk(n:Nat)(p:Ty):=(cond (p.kind==0) (cond (p.name==([]:Str)) (some ((p.kids.length:Int)==0)) (some false)) (some false)).bind λs=>some s
def adQ(n:Nat)(p:Tm):=(aed n p.op).bind λx=>((cond (x==(-2)) (some true) (cond (x==(-1)) (cond ((p.kids.length:Int)==0) (some true) (cond (decide (0<=x)) (some ((p.kids.length:Int)!=x)) (some false))) (cond (decide (0<=x)) (some ((p.kids.length:Int)!=x)) (some false)))):Ax).bind λs=>cond s (some false) (((cond (p.op==20) ((KN n p.name).bind λa=>cond (!a) (some (.rt false)) (some (.nx ()))) ((zM n p.op).bind λb=>cond b ((jk n p.name).bind λc=>cond (!c) (some (.rt false)) (some (.nx ()))) (cond (!(p.name==([]:Str))) (some (.rt false)) (some (.nx ()))))):Option (LR Unit Bool)).bind (LR.el (λh=>((cond (p.op==19) (cond (decide (p.n<0)) (some true) (cond (decide (1000000000<p.n)) (some true) (cond (p.op !=19) (some (p.n !=0)) (some false)))) (cond (p.op !=19) (some (p.n !=0)) (some false))):Ax).bind λd=>cond d (some false) (cond (p.op==29) ((((uS n p.ty).bind λe=>cond e (some (p.ty.kind !=2)) (some false)):Ax).bind λf=>some f) ((Mk n p.ty).bind λg=>some g))) (λr=>some r)))
def aqD(n:Nat)(q:F40t)(p:Tm)(a:Int)(r:F17t)(s:Int×Int):Option (LR Int Int):=cond (decide (s.2<(p.kids.length:Int))) ((idx p.kids s.2).bind λb=>(q b (IntKind.wrap .i64 (a+1)) s.1).bind λx=>cond (decide (x<0)) (some (.rt (-1))) (r (x,(s.2+1)))) (some (.nx s.1))
def ae5(n:Nat)(q:F40t)(p:Tm)(a:Int)(k:Nat):(Int×Int)->Option (LR Int Int):=aL (aqD n q p a) k
def Ox(n:Nat)(q:F40t)(p:Tm)(a:Int)(b:Int):B0:=((cond (decide (64<a)) (some true) (cond (decide (2000<(IntKind.wrap .i64 (b+1)))) (some true) ((adQ n p).bind λx=>some (!x)))):Ax).bind λs=>cond s (some (-1)) ((ae5 n q p a n ((IntKind.wrap .i64 (b+1)),0)).bind (LR.el (λc=>some c) (λr=>some r)))
def GL:Nat->Tm->Int->Int->B0|0,_,_,_=>none|n+1,p,a,b=>Ox n (GL n) p a b
def vC n p0:=(GL n p0 1 0).bind λx=>some (decide (0<x))
def FL(n:Nat)(q:F41t)(p:Tm)(r:F17t)(s1:Int×Int):Option (LR Int Int):=cond (decide (s1.2<(p.kids.length:Int))) ((idx p.kids s1.2).bind λa=>(q a).bind λx=>(((((zM n p.op).bind λb=>cond b (some (s1.2==1)) (some false)):Ax).bind λc=>cond c (some (IntKind.wrap .i64 (x*64))) (some x)):B0).bind λs=>cond (decide (20000000<(IntKind.wrap .i64 (s1.1+s)))) (some (.rt 20000001)) (r ((IntKind.wrap .i64 (s1.1+s)),(s1.2+1)))) (some (.nx s1.1))
def Zl(n:Nat)(q:F41t)(p:Tm)(k:Nat):(Int×Int)->Option (LR Int Int):=aL (FL n q p) k
def RL(n:Nat)(q:F41t)(p:Tm):B0:=(Zl n q p n (1,0)).bind (LR.el (λs=>some s) (λr=>some r))
def KT:Nat->Tm->B0|0,_=>none|n+1,p=>RL n (KT n) p
def sM n p0:=((vC n p0).bind λx=>cond (!x) (some true) ((KT n p0).bind λa=>some (decide (a<=20000000)))).bind λs=>some s
def FT(n:Nat)(p:Int):=(cond (decide (97<=p)) (cond (decide (p<=122)) (some true) (cond (decide (65<=p)) (some (decide (p<=90))) (some false))) (cond (decide (65<=p)) (some (decide (p<=90))) (some false))).bind λs=>some s
def JH(n:Nat)(p:Str):=(cond (p==([116,114,117,101]:Str)) (some (p==([116,114,117,101]:Str))) (cond (p==([102,97,108,115,101]:Str)) (some (p==([102,97,108,115,101]:Str))) (cond (p==([110,111,116]:Str)) (some (p==([110,111,116]:Str))) (cond (p==([111,114]:Str)) (some (p==([111,114]:Str))) (cond (p==([102,111,114,97,108,108]:Str)) (some (p==([102,111,114,97,108,108]:Str))) (cond (p==([101,120,105,115,116,115]:Str)) (some (p==([101,120,105,115,116,115]:Str))) (cond (p==([105,110]:Str)) (some (p==([105,110]:Str))) (cond (p==([110,111,116,105,110]:Str)) (some (p==([110,111,116,105,110]:Str))) (cond (p==([115,117,98]:Str)) (some (p==([115,117,98]:Str))) (cond (p==([109,111,100]:Str)) (some (p==([109,111,100]:Str))) (cond (p==([102,117,110]:Str)) (some (p==([102,117,110]:Str))) (cond (p==([99,97,114,100]:Str)) (some (p==([99,97,114,100]:Str))) (cond (p==([109,105,110]:Str)) (some (p==([109,105,110]:Str))) (cond (p==([109,97,120]:Str)) (some (p==([109,97,120]:Str))) (cond (p==([100,111,109]:Str)) (some (p==([100,111,109]:Str))) (cond (p==([114,97,110]:Str)) (some (p==([114,97,110]:Str))) (cond (p==([80,79,87]:Str)) (some (p==([80,79,87]:Str))) (cond (p==([105,110,116]:Str)) (some (p==([105,110,116]:Str))) (cond (p==([98,111,111,108]:Str)) (some (p==([98,111,111,108]:Str))) (cond (p==([115,101,116]:Str)) (some (p==([115,101,116]:Str))) (some (p==([112,97,105,114]:Str))))))))))))))))))))))).bind λs=>cond s (some true) (some false)
def Pf(n:Nat)(p:Int):=(cond (decide (48<=p)) (some (decide (p<=57))) (some false)).bind λs=>some s
def MR n p0:=((FT n p0).bind λx=>cond x (some true) ((Pf n p0).bind λa=>cond a (some true) (some (p0==95)))).bind λs=>some s
def aaI(n)(p:Str)(r:F2t)s2:=cond (decide (s2<(p.length:Int))) ((oL p s2).bind λx=>(MR n x).bind λa=>cond (!a) (some (.rt false)) (r (s2+1))) (some (.nx ()))
def CJ n p0 k:=aL (aaI n p0) k
def gX(n:Nat)(p:Str):=(cond (p==([]:Str)) (some true) (cond (decide (16<(p.length:Int))) (some true) ((oL p 0).bind λx=>(FT n x).bind λa=>cond (!a) (some true) ((JH n p).bind λb=>some b)))).bind λs=>cond s (some false) ((CJ n p n 0).bind (LR.el (λc=>some true) (λr=>some r)))
def o8(n:Nat)(p:Str)(a:Str):=(cond (decide ((a.length:Int)<=(p.length:Int))) ((kQ p (IntKind.wrap .i64 ((p.length:Int) - (a.length:Int))) (p.length:Int)).bind λx=>some (x==a)) (some false)).bind λs=>some s
def oh(n:Nat)(p:Str)(a:Str):Option Str:=(o8 n p a).bind λx=>cond x ((kQ p 0 (IntKind.wrap .i64 ((p.length:Int) - (a.length:Int)))).bind λb=>some b) (some p)
def strings_TrimSuffix n p0 p1:=(oh n p0 p1).bind λx=>some x
def wB n p0:=(strings_TrimSuffix n p0 [39]).bind λx=>(gX n x).bind λa=>some a
def lS(n:Nat)p0(p:Int)p2(a:Int):=(cond (decide ((IntKind.wrap .i64 (p0+1))<=p)) (some (decide (a<=p2))) (some false)).bind λs=>some (s,(IntKind.wrap .i64 (p0+1)))
def Qh(n:Nat)(c:F18t)(b:F19t)(j:F20t)(q:F21t)(p:A3)(a:Int)(d:Int)(e:Int)(r:F48t)(s1:Int×Int):Option (LR Int (Int×Int)):=cond (decide (s1.1<(p.length:Int))) ((idx p s1.1).bind λf=>(q f s1.2 a d e).bind λx=>cond x.1 (some (.rt (s1.1,x.2))) (r ((s1.1+1),x.2))) (some (.nx s1.2))
def DC(n:Nat)(q:F18t)(c:F19t)(j:F20t)(a:F21t)(p:A3)(b:Int)(d:Int)(e:Int)(k:Nat):(Int×Int)->Option (LR Int (Int×Int)):=aL (Qh n q c j a p b d e) k
def ku(n:Nat)(q:F18t)(c:F19t)(j:F20t)(k:F21t)(p:A3)(a:Int)(b:Int)(d:Int)(e:Int):Option (Int×Int):=(DC n q c j k p b d e n (0,a)).bind (LR.el (λs=>some ((-1),s)) (λr=>some r))
def pR(n:Nat)(q:F18t)(c:F19t)(j:F20t)(k:F21t)(p:A3)(a:Int)(b:Int)(d:Int)(e:Int):Option (Bool×Int):=(q p a b d e).bind λx=>some ((decide (0<=x.1)),x.2)
def sS(n:Nat)(f:F18t)(q:F19t)(j:F20t)(k:F21t)(e:Int)(a:Int)(b:Int)(p:Ty)(c:Int)(g:Bool):Option (Bool×Int):=(lS n e a b c).bind λx=>cond (!x.1) (some (false,x.2)) (((cond (p.kind==1) (some (.nx 0)) (cond (p.kind==2) (cond g (some (.rt (false,x.2))) (some (.nx 0))) (cond (p.kind==3) ((gX n p.name).bind λh=>cond (!h) (some (.rt (false,x.2))) (some (.nx 0))) (cond (p.kind==4) (some (.nx 2)) (cond (p.kind==5) (some (.nx 1)) (some (.rt (false,x.2)))))))):Option (LR Int (Bool×Int))).bind (LR.el (λs=>((cond ((p.kids.length:Int)!=s) (some true) (cond (p.kind !=3) (some (!(p.name==([]:Str)))) (some false))):Ax).bind λi=>cond i (some (false,x.2)) ((q p.kids x.2 a b c).bind λd=>some ((!d.1),d.2))) (λr=>some r)))
def qE(n:Nat)(c:F18t)(b:F19t)(q:F20t)(k:F21t)(p:Ty)(a:Int)(d:Int)(e:Int)(f:Int):Option (Bool×Int):=(q a d e p (IntKind.wrap .i64 (f+1)) true).bind λx=>some ((!x.1),x.2)
mutual
def lG:Nat→A3→Int→Int→Int→Int→Option (Int×Int)
 |0,_,_,_,_,_=>none
 |n+1,p0,p1,p2,p3,p4=>ku n (lG n) (fD n) (iW n) (fQ n) p0 p1 p2 p3 p4
def fD:Nat→A3→Int→Int→Int→Int→Option (Bool×Int)
 |0,_,_,_,_,_=>none
 |n+1,p0,p1,p2,p3,p4=>pR n (lG n) (fD n) (iW n) (fQ n) p0 p1 p2 p3 p4
def iW:Nat→Int→Int→Int→Ty→Int→Bool→Option (Bool×Int)
 |0,_,_,_,_,_,_=>none
 |n+1,p0,p1,p2,p3,p4,p5=>sS n (lG n) (fD n) (iW n) (fQ n) p0 p1 p2 p3 p4 p5
def fQ:Nat→Ty→Int→Int→Int→Int→Option (Bool×Int)
 |0,_,_,_,_,_=>none
 |n+1,p0,p1,p2,p3,p4=>qE n (lG n) (fD n) (iW n) (fQ n) p0 p1 p2 p3 p4
end
def ql n p0:=(iW n 0 16 6 p0 1 false).bind λx=>some x.1
def NQ(n:Nat)(c:F22t)(a:F23t)(o:F8t)(q:F8t)(p:A3)(b:Int)(r:F5t)(s1:Int):Option (LR Unit Int):=cond (decide (s1<(p.length:Int))) ((idx p s1).bind λx=>(q x b).bind λd=>cond d (some (.rt s1)) (r (s1+1))) (some (.nx ()))
def Bn(n:Nat)(q:F22t)(c:F23t)(o:F8t)(p:F8t)(a:A3)(b:Int)(k:Nat):Int->Option (LR Unit Int):=aL (NQ n q c o p a b) k
def qH(n:Nat)(q:F22t)(c:F23t)(o:F8t)(p:F8t)(a:A3)(b:Int):B0:=(Bn n q c o p a b n 0).bind (LR.el (λs=>some (-1)) (λr=>some r))
def oq(n:Nat)(q:F22t)(c:F23t)(o:F8t)(p:F8t)(a:A3)(b:Int):Ax:=(q a b).bind λx=>some (decide (0<=x))
def Az(n:Nat)(c:F22t)(q:F23t)(o:F8t)(b:F8t)(p:Ty)(a:Int):Ax:=((cond (p.kind==a) (some true) ((q p.kids a).bind λx=>some x)):Ax).bind λs=>some s
def xP(n:Nat)(c:F22t)(a:F23t)(q:F8t)(p:F8t)(b:Ty)(d:Int):Ax:=(q b d).bind λx=>some x
mutual
def mE:Nat→A3→Int→B0
 |0,_,_=>none
 |n+1,p0,p1=>qH n (mE n) (jl n) (oO n) (mK n) p0 p1
def jl:Nat→A3→Int→Ax
 |0,_,_=>none
 |n+1,p0,p1=>oq n (mE n) (jl n) (oO n) (mK n) p0 p1
def oO:Nat→Ty→Int→Ax
 |0,_,_=>none
 |n+1,p0,p1=>Az n (mE n) (jl n) (oO n) (mK n) p0 p1
def mK:Nat→Ty→Int→Ax
 |0,_,_=>none
 |n+1,p0,p1=>xP n (mE n) (jl n) (oO n) (mK n) p0 p1
end
def yt n p0:=((ql n p0).bind λx=>cond x ((oO n p0 2).bind λa=>some (!a)) (some false)).bind λs=>some s
def acJ(n:Nat)(q:F42t)(p:Ty)(r:(Int×(List (Str×Bool)))->Option (LR (List (Str×Bool)) (List (Str×Bool))))(s:Int×(List (Str×Bool))):Option (LR (List (Str×Bool)) (List (Str×Bool))):=cond (decide (s.1<(p.kids.length:Int))) ((idx p.kids s.1).bind λx=>(q x s.2).bind λa=>r ((s.1+1),a)) (some (.nx s.2))
def Fg(n:Nat)(q:F42t)(p:Ty)(k:Nat):(Int×(List (Str×Bool)))->Option (LR (List (Str×Bool)) (List (Str×Bool))):=aL (acJ n q p) k
def BM(n:Nat)(q:F42t)(p:Ty)(a:List (Str×Bool)):Option (List (Str×Bool)):=((cond (p.kind==3) ((yG a p.name true).bind λx=>some x) (some a)):Option (List (Str×Bool))).bind λs=>(Fg n q p n (0,s)).bind (LR.el (λb=>some b) (λr=>some r))
def qC:Nat->Ty->List (Str×Bool)->Option (List (Str×Bool))|0,_,_=>none|n+1,p,a=>BM n (qC n) p a
def wV n p0:=(ql n p0).bind λx=>cond (!x) (some ([]:Bk)) ((qC n p0 ([]:List (Str×Bool))).bind λa=>(ow n a).bind λb=>some b)
def aa1(n:Nat)(p:Carrier)p1:=some (p.name==p1)
def Lh(n:Nat)(p:A7)(a:Str)(r:F5t)(s1:Int):Option (LR Unit Int):=cond (decide (s1<(p.length:Int))) ((idx p s1).bind λx=>cond (x.name==a) (some (.rt s1)) (r (s1+1))) (some (.nx ()))
def zK n p0 p1 k:=aL (Lh n p0 p1) k
def Dp n p0 p1:=(zK n p0 p1 n 0).bind (LR.el (λs=>some (-1)) λr=>some r)
def zL n p0 p1:=(Dp n p0 p1).bind λx=>some (decide (0<=x))
def Fz(n)(p:Env)p1:=(zL n p.carriers p1).bind λx=>some x
def Fh n p0 p1 p2:=(Fz n (Env.mk p1 p2) p0).bind λx=>some !x
def NA(n:Nat)(p:Bk)(a:A7)(b:A4)(r:F5t)(s1:Int):Option (LR Unit Int):=cond (decide (s1<(p.length:Int))) ((idx p s1).bind λx=>(Fh n x a b).bind λc=>cond c (some (.rt s1)) (r (s1+1))) (some (.nx ()))
def AP n p0 p1 p2 k:=aL (NA n p0 p1 p2) k
def E8 n p0 p1 p2:=(AP n p0 p1 p2 n 0).bind (LR.el (λs=>some (-1)) λr=>some r)
def Bb n p0 p1 p2:=(E8 n p0 p1 p2).bind λx=>some (decide (0<=x))
def Ct(n:Nat)(p:Env)p1:=(wV n p1).bind λx=>(Bb n x p.carriers p.names).bind λa=>some (!a)
def aaN(n:Nat)(p:Env)(r:F24t)(s1:Bk×Int):Option (LR Bk Bk):=cond (decide (s1.2<(p.carriers.length:Int))) ((idx p.carriers s1.2).bind λx=>(app 16 s1.1 ([x.name])).bind λa=>(app 16 a x.elems).bind λb=>r (b,(s1.2+1))) (some (.nx s1.1))
def Ni n p0 k:=aL (aaN n p0) k
def aaD(n:Nat)(p:Env)(r:F24t)(s:Bk×Int):Option (LR Bk Bk):=cond (decide (s.2<(p.names.length:Int))) ((idx p.names s.2).bind λx=>(app 16 s.1 ([x.name])).bind λa=>r (a,(s.2+1))) (some (.nx s.1))
def Nq n p0 k:=aL (aaD n p0) k
def Co n p0:=(Ni n p0 n (([]),0)).bind (LR.el (λs=>(Nq n p0 n (s,0)).bind (LR.el (λa=>some a) (λr=>some r))) λr=>some r)
def aaH(n:Nat)p0(r:(Int×(List (Str×Bool)))->Option (LR Unit Bool))(s1:Int×(List (Str×Bool))):=cond (decide (s1.1<(p0.length:Int))) ((idx p0 s1.1).bind λx=>((mel (dn s1.2 x) (some false) (λa=>some a)):Ax).bind λs=>cond s (some (.rt false)) ((yG s1.2 x true).bind λb=>r ((s1.1+1),b))) (some (.nx ()))
def NR n p0 k:=aL (aaH n p0) k
def Cm n p0:=(NR n p0 n (0,([]))).bind (LR.el (λs=>some true) λr=>some r)
def aaW(n)(x:Carrier)(r:F2t)s8:=cond (decide (s8<(x.elems.length:Int))) ((idx x.elems s8).bind λa=>(gX n a).bind λb=>cond (!b) (some (.rt false)) (r (s8+1))) (some (.nx ()))
def wz n x7 k:=aL (aaW n x7) k
def aaF(n)(p:Env)(e:F2t)s2:=cond (decide (s2<(p.carriers.length:Int))) ((idx p.carriers s2).bind λx=>(((gX n x.name).bind λa=>cond (!a) (some true) (some (decide (8<(x.elems.length:Int))))):Ax).bind λs=>cond s (some (.rt false)) ((wz n x n 0).bind (LR.el (λb=>e (s2+1)) (λr=>some (.rt r))))) (some (.nx ()))
def NZ n p0 k:=aL (aaF n p0) k
def aaL(n)p0(r:F2t)s4:=cond (decide (s4<(p0.names.length:Int))) ((idx p0.names s4).bind λx=>(((wB n x.name).bind λa=>cond (!a) (some true) ((yt n x.ty).bind λb=>cond (!b) (some true) ((Ct n p0 x.ty).bind λc=>some (!c)))):Ax).bind λs=>cond s (some (.rt false)) (r (s4+1))) (some (.nx ()))
def Oa n p0 k:=aL (aaL n p0) k
def rY n p0:=(cond (decide (8<(p0.carriers.length:Int))) (some true) (some (decide (64<(p0.names.length:Int))))).bind λs=>cond s (some false) ((NZ n p0 n 0).bind (LR.el (λb=>(Oa n p0 n 0).bind (LR.el (λc=>(Co n p0).bind λx=>(Cm n x).bind λa=>some a) (λr=>some r))) (λr=>some r)))
def yu(n:Nat)(p:Env)p1(r:F2t)s1:=cond (decide (s1<(p.carriers.length:Int))) ((idx p.carriers s1).bind λx=>(((idx p1 s1).bind λa=>cond (decide (a<1)) (some true) ((idx p1 s1).bind λb=>cond (decide (8<b)) (some true) (cond (decide (0<(x.elems.length:Int))) ((idx p1 s1).bind λc=>some (c !=(x.elems.length:Int))) (some false)))):Ax).bind λs=>cond s (some (.rt false)) (r (s1+1))) (some (.nx ()))
def zW n p0 p1 k:=aL (yu n p0 p1) k
def Bh n p0 p1:=cond ((p1.length)!=(p0.carriers.length:Int)) (some false) ((zW n p0 p1 n 0).bind (LR.el (λs=>some true) (λr=>some r)))
def ar9(n:Nat)(p:Carrier)p1:=some (p.name==p1)
def I4(n:Nat)(p:A7)(a:Str)(r:F5t)(s1:Int):Option (LR Unit Int):=cond (decide (s1<(p.length:Int))) ((idx p s1).bind λx=>cond (x.name==a) (some (.rt s1)) (r (s1+1))) (some (.nx ()))
def wY n p0 p1 k:=aL (I4 n p0 p1) k
def zN n p0 p1:=(wY n p0 p1 n 0).bind (LR.el (λs=>some (-1)) λr=>some r)
def Pz(n)(p:Env)p1:=(zN n p.carriers p1).bind λx=>some x
def cmp_isNaN_int(n:Nat)(p:Int):=some (p !=p)
def cmp_Compare_int(n:Nat)p0(p:Int):=cond (p0 !=p0) (cond (p !=p) (some 0) (some (-1))) (cond (p !=p) (some 1) (cond (decide (p0<p)) (some (-1)) (cond (decide (p<p0)) (some 1) (some 0))))
def K3(n:Nat)(p:A2)(r:F5t)(s1:Int):Option (LR Unit Int):=cond (decide (s1<(p.length:Int))) ((idx p s1).bind λx=>cond (x !=0) (some (.rt x)) (r (s1+1))) (some (.nx ()))
def Gw n p0 k:=aL (K3 n p0) k
def Yp n p0:=(Gw n p0 n 0).bind (LR.el (λs=>some 0) λr=>some r)
def jJ(n:Nat)(b:F33t)(q:F11t)(p:Af)(a:Af)(r:F5t)(s1:Int):Option (LR Unit Int):=cond (decide (s1<(p.length:Int))) ((idx p s1).bind λc=>cond (decide ((a.length:Int)<=s1)) (some (.rt 1)) ((idx a s1).bind λd=>(q c d).bind λx=>cond (x !=0) (some (.rt x)) (r (s1+1)))) (some (.nx ()))
def mW(n:Nat)(q:F33t)(b:F11t)(p:Af)(a:Af)(k:Nat):Int->Option (LR Unit Int):=aL (jJ n q b p a) k
def pV(n:Nat)(q:F33t)(b:F11t)(p:Af)(a:Af):B0:=(mW n q b p a n 0).bind (LR.el (λs=>cond (decide ((p.length:Int)<(a.length:Int))) (some (-1)) (some 0)) (λr=>some r))
def Fx(n:Nat)(q:F33t)(b:F11t)(p:Val)(a:Val):B0:=(cmp_Compare_int n p.kind a.kind).bind λc=>(cmp_Compare_int n p.n a.n).bind λd=>(strings_Compare n p.name a.name).bind λe=>(Yp n ([c,d,e])).bind λx=>cond (x !=0) (some x) ((q p.kids a.kids).bind λf=>some f)
mutual
def lV:Nat→Af→Af→B0
 |0,_,_=>none
 |n+1,p0,p1=>pV n (lV n) (dY n) p0 p1
def dY:Nat→Val→Val→B0
 |0,_,_=>none
 |n+1,p0,p1=>Fx n (lV n) (dY n) p0 p1
end
def DN(n:Nat)(q:F10t)(b:F25t)(p:Val)(r:F2t)(s:Int):Option (LR Unit Bool):=cond (decide (s<(p.kids.length:Int))) ((idx p.kids (IntKind.wrap .i64 (s - 1))).bind λx=>(idx p.kids s).bind λa=>(dY n x a).bind λc=>cond (decide (0<=c)) (some (.rt false)) (r (s+1))) (some (.nx ()))
def FR(n:Nat)(q:F10t)(b:F25t)(p:Val)(k:Nat):Int->Option (LR Unit Bool):=aL (DN n q b p) k
def ko(n:Nat)(z:F10t)(q:F25t)(b:Env)(c:A2)(p:Val)(a:Ty):Ax:=cond (a.kind==1) (((cond (p.kind==1) (cond (decide ((-1000000000)<=p.n)) (cond (decide (p.n<=1000000000)) (cond (p.name==([]:Str)) (some ((p.kids.length:Int)==0)) (some false)) (some false)) (some false)) (some false)):Ax).bind λs=>some s) (cond (a.kind==2) (((cond (p.kind==2) (cond (p.n==0) (cond (p.name==([]:Str)) (some ((p.kids.length:Int)==0)) (some false)) (cond (p.n==1) (cond (p.name==([]:Str)) (some ((p.kids.length:Int)==0)) (some false)) (some false))) (some false)):Ax).bind λd=>some d) (cond (a.kind==3) ((Pz n b a.name).bind λx=>((cond (decide (0<=x)) (cond (p.kind==3) (cond (p.name==a.name) (cond (decide (0<=p.n)) ((idx c x).bind λe=>cond (decide (p.n<e)) (some ((p.kids.length:Int)==0)) (some false)) (some false)) (some false)) (some false)) (some false)):Ax).bind λf=>some f) (cond (a.kind==4) (((cond (p.kind==4) (cond (p.n==0) (cond (p.name==([]:Str)) (cond ((p.kids.length:Int)==2) ((q a.kids p.kind p.n p.name p.kids b.carriers b.names c).bind λg=>some g) (some false)) (some false)) (some false)) (some false)):Ax).bind λh=>some h) (cond (a.kind==5) (((cond (p.kind !=5) (some true) (cond (p.n !=0) (some true) (cond (!(p.name==([]:Str))) (some true) (cond (decide (256<(p.kids.length:Int))) (some true) ((q a.kids p.kind p.n p.name p.kids b.carriers b.names c).bind λi=>some (!i)))))):Ax).bind λj=>cond j (some false) ((FR n z q p n 1).bind (LR.el (λk=>some true) (λr=>some r)))) (some false)))))
def yX(n:Nat)(q:F10t)(b:F25t)(p:A3)(a:Af)(c:A7)(d:A4)(e:A2)(r:F2t)(s1:Int):Option (LR Unit Bool):=cond (decide (s1<(a.length:Int))) ((idx a s1).bind λx=>(idx p (if((p.length:Int) - 1)<s1 then((p.length:Int) - 1)else s1)).bind λf=>(q (Env.mk c d) e x f).bind λg=>cond (!g) (some (.rt false)) (r (s1+1))) (some (.nx ()))
def Ba(n:Nat)(q:F10t)(b:F25t)(p:A3)(a:Af)(c:A7)(d:A4)(e:A2)(k:Nat):Int->Option (LR Unit Bool):=aL (yX n q b p a c d e) k
def wQ(n:Nat)(q:F10t)(b:F25t)(p:A3)(f:Int)(g:Int)(h:Str)(a:Af)(c:A7)(d:A4)(e:A2):Ax:=(Ba n q b p a c d e n 0).bind (LR.el (λs=>some true) (λr=>some r))
mutual
def kN:Nat→Env→A2→Val→Ty→Ax
 |0,_,_,_,_=>none
 |n+1,p0,p1,p2,p3=>ko n (kN n) (wF n) p0 p1 p2 p3
def wF:Nat→A3→Int→Int→Str→Af→A7→A4→A2→Ax
 |0,_,_,_,_,_,_,_,_=>none
 |n+1,p0,p1,p2,p3,p4,p5,p6,p7=>wQ n (kN n) (wF n) p0 p1 p2 p3 p4 p5 p6 p7
end
def aaR(n)(p:S_api_World)(r:F2t)s2:=cond (decide (s2<(p.env.names.length:Int))) ((idx p.env.names s2).bind λx=>(idx p.values s2).bind λa=>(kN n p.env p.sizes a x.ty).bind λb=>cond (!b) (some (.rt false)) (r (s2+1))) (some (.nx ()))
def NG n p0 k:=aL (aaR n p0) k
def wP n p0:=((rY n p0.env).bind λx=>cond (!x) (some true) ((Bh n p0.env p0.sizes).bind λa=>cond (!a) (some true) (some ((p0.values.length:Int)!=(p0.env.names.length:Int))))).bind λs=>cond s (some false) ((NG n p0 n 0).bind (LR.el (λb=>some true) (λr=>some r)))
def Te(n:Nat)(p:Int):=(cond (p==1) (some (p==1)) (cond (p==2) (some (p==2)) (cond (p==19) (some (p==19)) (cond (p==20) (some (p==20)) (some (p==29)))))).bind λa=>cond a (some (0,true)) (((cond (p==3) (some (p==3)) (cond (p==21) (some (p==21)) (((cond (decide (46<=p)) (some (decide (p<=51))) (some false)):Ax).bind λs=>cond s (some s) (some (p==52))))):Ax).bind λb=>cond b (some (1,true)) (cond (p==28) (some ((-1),true)) (((cond (decide (1<=p)) (some (decide (p<=56))) (some false)):Ax).bind λc=>cond c (some (2,true)) (some (0,false)))))
def YA n p0:=(strings_TrimSuffix n p0 [39]).bind λx=>(gX n x).bind λa=>some a
def FZ(n:Nat)(p:Int):=(cond (p==8) (some true) (cond (p==9) (some true) (cond (p==55) (some true) (some (p==56))))).bind λs=>some s
def Gc(n:Nat)(p:Ty):=(cond (p.kind==0) (cond (p.name==([]:Str)) (some ((p.kids.length:Int)==0)) (some false)) (some false)).bind λs=>some s
def MP(n:Nat)(p:Tm):=(Te n p.op).bind λx=>((((cond (!x.2) (some (!x.2)) (((cond (x.1==(-1)) (some ((p.kids.length:Int)==0)) (some false)):Ax).bind λs=>cond s (some s) (cond (x.1 !=(-1)) (some ((p.kids.length:Int)!=x.1)) (some false)))):Ax).bind λc=>cond c (some (.rt false)) (cond (p.op==20) ((YA n p.name).bind λd=>some (.nx d)) ((FZ n p.op).bind λe=>cond e ((gX n p.name).bind λf=>some (.nx f)) (some (.nx (p.name==([]:Str))))))):Option (LR Bool Bool)).bind (LR.el (λa=>((cond (p.op==19) (cond a (cond (decide (0<=p.n)) (some (decide (p.n<=1000000000))) (some false)) (some false)) (cond a (some (p.n==0)) (some false))):Ax).bind λb=>cond (p.op==29) (((cond b (cond (p.ty.kind !=2) ((ql n p.ty).bind λg=>some g) (some false)) (some false)):Ax).bind λh=>some h) (((cond b ((Gc n p.ty).bind λi=>some i) (some false)):Ax).bind λj=>some j)) (λr=>some r))
def Pj(n:Nat)(c:F26t)(a:F27t)(h:F28t)(q:F29t)(p:Bi)(b:Int)(d:Int)(e:Int)(r:F48t)(s1:Int×Int):Option (LR Int (Int×Int)):=cond (decide (s1.1<(p.length:Int))) ((idx p s1.1).bind λf=>(q f s1.2 b d e).bind λx=>cond x.1 (some (.rt (s1.1,x.2))) (r ((s1.1+1),x.2))) (some (.nx s1.2))
def Du(n:Nat)(q:F26t)(c:F27t)(h:F28t)(i:F29t)(p:Bi)(a:Int)(b:Int)(d:Int)(k:Nat):(Int×Int)->Option (LR Int (Int×Int)):=aL (Pj n q c h i p a b d) k
def kg(n:Nat)(q:F26t)(c:F27t)(h:F28t)(i:F29t)(p:Bi)(a:Int)(b:Int)(d:Int)(e:Int):Option (Int×Int):=(Du n q c h i p b d e n (0,a)).bind (LR.el (λs=>some ((-1),s)) (λr=>some r))
def xZ(n:Nat)(q:F26t)(c:F27t)(h:F28t)(i:F29t)(p:Bi)(a:Int)(b:Int)(d:Int)(e:Int):Option (Bool×Int):=(q p a b d e).bind λx=>some ((decide (0<=x.1)),x.2)
def xI(n:Nat)(e:F26t)(q:F27t)(h:F28t)(i:F29t)(f:Int)(p:Int)(a:Int)(b:Tm)(c:Int):Option (Bool×Int):=(((lS n f p a c).bind λx=>cond (!x.1) (some (true,x.2)) ((MP n b).bind λg=>some ((!g),x.2))):Option (Bool×Int)).bind λs=>cond s.1 (some (false,s.2)) ((q b.kids s.2 p a c).bind λd=>some ((!d.1),d.2))
def uY(n:Nat)(c:F26t)(a:F27t)(q:F28t)(i:F29t)(p:Tm)(b:Int)(d:Int)(e:Int)(f:Int):Option (Bool×Int):=(q b d e p (IntKind.wrap .i64 (f+1))).bind λx=>some ((!x.1),x.2)
mutual
def lD:Nat→Bi→Int→Int→Int→Int→Option (Int×Int)
 |0,_,_,_,_,_=>none
 |n+1,p0,p1,p2,p3,p4=>kg n (lD n) (iR n) (kM n) (iU n) p0 p1 p2 p3 p4
def iR:Nat→Bi→Int→Int→Int→Int→Option (Bool×Int)
 |0,_,_,_,_,_=>none
 |n+1,p0,p1,p2,p3,p4=>xZ n (lD n) (iR n) (kM n) (iU n) p0 p1 p2 p3 p4
def kM:Nat→Int→Int→Int→Tm→Int→Option (Bool×Int)
 |0,_,_,_,_,_=>none
 |n+1,p0,p1,p2,p3,p4=>xI n (lD n) (iR n) (kM n) (iU n) p0 p1 p2 p3 p4
def iU:Nat→Tm→Int→Int→Int→Int→Option (Bool×Int)
 |0,_,_,_,_,_=>none
 |n+1,p0,p1,p2,p3,p4=>uY n (lD n) (iR n) (kM n) (iU n) p0 p1 p2 p3 p4
end
def J7 n p0:=(kM n 0 2000 64 p0 1).bind λx=>some x.1
def arM(n:Nat)p0:=some (Ty.mk 5 ([]) [p0])
def ag7(n:Nat)(x:Carrier)(r:F43t)(s:Int×(List (Str×Ty))):Option (LR (List (Str×Ty)) (List (Str×Ty))):=cond (decide (s.1<(x.elems.length:Int))) ((idx x.elems s.1).bind λa=>(yG s.2 a (Ty.mk 3 x.name ([]))).bind λb=>r ((s.1+1),b)) (some (.nx s.2))
def wE n x3 k:=aL (ag7 n x3) k
def ahe(n:Nat)(p:Env)(e:F43t)(s1:Int×(List (Str×Ty))):Option (LR (List (Str×Ty)) (List (Str×Ty))):=cond (decide (s1.1<(p.carriers.length:Int))) ((idx p.carriers s1.1).bind λx=>(yG s1.2 x.name (Ty.mk 5 ([]:Str) ([(Ty.mk 3 x.name ([]))]))).bind λa=>(wE n x n (0,a)).bind (LR.el (λs=>e ((s1.1+1),s)) (λr=>some (.rt r)))) (some (.nx s1.2))
def TJ n p0 k:=aL (ahe n p0) k
def ahb(n:Nat)(p:Env)(r:F43t)(s:Int×(List (Str×Ty))):Option (LR (List (Str×Ty)) (List (Str×Ty))):=cond (decide (s.1<(p.names.length:Int))) ((idx p.names s.1).bind λx=>(yG s.2 x.name x.ty).bind λa=>r ((s.1+1),a)) (some (.nx s.2))
def Ug n p0 k:=aL (ahb n p0) k
def Kh n p0:=(TJ n p0 n (0,([]))).bind (LR.el (λs=>(Ug n p0 n (0,s)).bind (LR.el (λa=>some a) (λr=>some r))) λr=>some r)
def ath(n:Nat):=some (Ty.mk 2 [] [])
def auk(n:Nat)(p:Int)(a:Ty):=some ()
def ak9(n:Nat):=some (Ty.mk 1 [] [])
def awy(n:Nat):=some ()
def aeA(n:Nat):=some ()
def asU(n:Nat):=some ()
def aku(n:Nat)(p:Ty):=some ()
def atA(n:Nat):=some ()
def aoZ(n:Nat):=some ()
def atH(n:Nat):=some ()
def aoB(n:Nat):=some ()
def arF(n:Nat):=some ()
def aa9(n:Nat):=some ()
def aaP(n:Nat):=some ()
def akQ(n:Nat):=some ()
def alj(n:Nat):=some ()
def aa6(n:Nat):=some ()
def aaT(n:Nat):=some ()
def aa7(n:Nat):=some ()
def aaX(n:Nat):=some ()
def aaE(n:Nat):=some ()
def auf(n:Nat):=some ()
def Xh(n:Nat)(p:Env)(r:(Int×(List (Str×Bool)))->Option (LR (List (Str×Bool)) ((List (Str×Ty))×(List (Str×Bool)))))(s1:Int×(List (Str×Bool))):Option (LR (List (Str×Bool)) ((List (Str×Ty))×(List (Str×Bool)))):=cond (decide (s1.1<(p.carriers.length:Int))) ((idx p.carriers s1.1).bind λx=>(yG s1.2 x.name true).bind λa=>r ((s1.1+1),a)) (some (.nx s1.2))
def Kc n p0 k:=aL (Xh n p0) k
def FB n p0:=(Kh n p0).bind λx=>(Kc n p0 n (0,([]:List (Str×Bool)))).bind (LR.el (λs=>some (x,s)) (λr=>some r))
def Bg(n:Nat)(p:Int):=(cond (p==8) (some true) (cond (p==9) (some true) (cond (p==55) (some true) (some (p==56))))).bind λs=>some s
def dx(n:Nat)(p:Ty):=cond (p.kind !=5) (some ((Ty.mk 0 ([]:Str) ([])),false)) ((idx p.kids 0).bind λx=>some (x,true))
def SB(n:Nat)p1(r:A4->Option (LR Unit (Ty×Bool)))s1:=cond (true !=List.isEmpty s1) ((unc s1).bind λx=>cond (x.1.name==p1) ((unc s1).bind λa=>some (.rt (a.1.ty,true))) ((unc s1).bind λb=>r b.2)) (some (.nx ()))
def qL n p1 k:=aL (SB n p1) k
def vF n p0 p1:=(qL n p1 n p0).bind (LR.el (λs=>some ((Ty.mk 0 ([]:Str) ([])),false)) λr=>some r)
def qN(n:Nat)p0(p:List (Str×Ty))p2(a:A2):=(mel (dn p2 p0) (some true) (λx=>some (!x))).bind λs=>some s
def JA(n:Nat)(p:Bk)(a:List (Str×Ty))(b:List (Str×Bool))(c:A2)(r:F5t)(s1:Int):Option (LR Unit Int):=cond (decide (s1<(p.length:Int))) ((idx p s1).bind λx=>(qN n x a b c).bind λd=>cond d (some (.rt s1)) (r (s1+1))) (some (.nx ()))
def xX n p0 p1 p2 p3 k:=aL (JA n p0 p1 p2 p3) k
def Bq n p0 p1 p2 p3:=(xX n p0 p1 p2 p3 n 0).bind (LR.el (λs=>some (-1)) λr=>some r)
def xW n p0 p1 p2 p3:=(Bq n p0 p1 p2 p3).bind λx=>some (decide (0<=x))
def tO n p0 p1 p2 p3:=(wV n p3).bind λx=>(xW n x p0 p1 p2).bind λa=>some (!a)
def uH(n:Nat)(p:Ty):Option (Ty×Int):=(ql n p).bind λx=>cond (!x) (some ((Ty.mk 0 ([]:Str) ([])),5)) (some (p,0))
def aeQ(n:Nat)(p:A3)p1(p2)p3:=some (Ty.mk p1 p2 p3,true)
def ah2(n:Nat)(p:Ty)p1:=some (p.kind !=p1)
def Nh(n:Nat)(p:A3)(a:Int)(r:F5t)(s1:Int):Option (LR Unit Int):=cond (decide (s1<(p.length:Int))) ((idx p s1).bind λx=>cond (x.kind !=a) (some (.rt s1)) (r (s1+1))) (some (.nx ()))
def Bw n p0 p1 k:=aL (Nh n p0 p1) k
def E5 n p0 p1:=(Bw n p0 p1 n 0).bind (LR.el (λs=>some (-1)) λr=>some r)
def Bt n p0 p1:=(E5 n p0 p1).bind λx=>some (decide (0<=x))
def aZ n p0 p1 p2 p3 p4:=(Bt n p0 p4).bind λx=>some (Ty.mk p1 p2 p3,!x)
def ao0(n:Nat)(p:Ty):=some (Ty.mk 2 [] [])
def wZ(n:Nat)(p:A3):=(idx p 0).bind λa=>(idx p 1).bind λx=>some ((Ty.mk 2 ([]:Str) ([])),(x.kind==2))
def Pp(n:Nat)(c:F34t)(q:F12t)(p:A3)(a:A3)(r:F2t)(s1:Int):Option (LR Unit Bool):=cond (decide (s1<(p.length:Int))) ((idx p s1).bind λx=>(idx a s1).bind λb=>(q x b).bind λd=>cond (!d) (some (.rt false)) (r (s1+1))) (some (.nx ()))
def C9(n:Nat)(q:F34t)(c:F12t)(p:A3)(a:A3)(k:Nat):Int->Option (LR Unit Bool):=aL (Pp n q c p a) k
def sU(n:Nat)(q:F34t)(c:F12t)(p:A3)(a:A3):Ax:=cond ((p.length:Int)!=(a.length:Int)) (some false) ((C9 n q c p a n 0).bind (LR.el (λs=>some true) (λr=>some r)))
def FC(n:Nat)(q:F34t)(c:F12t)(p:Ty)(a:Ty):Ax:=((cond (p.kind==a.kind) (cond (p.name==a.name) ((q p.kids a.kids).bind λx=>some x) (some false)) (some false)):Ax).bind λs=>some s
mutual
def rV:Nat→A3→A3→Ax
 |0,_,_=>none
 |n+1,p0,p1=>sU n (rV n) (jQ n) p0 p1
def jQ:Nat→Ty→Ty→Ax
 |0,_,_=>none
 |n+1,p0,p1=>FC n (rV n) (jQ n) p0 p1
end
def DU n p0 p1:=(idx p1 0).bind λx=>(jQ n p0 x).bind λa=>some (!a)
def Nl(n:Nat)(p:A3)(a:A3)(r:F5t)(s1:Int):Option (LR Unit Int):=cond (decide (s1<(p.length:Int))) ((idx p s1).bind λx=>(DU n x a).bind λb=>cond b (some (.rt s1)) (r (s1+1))) (some (.nx ()))
def Bj n p0 p1 k:=aL (Nl n p0 p1) k
def vR n p0 p1:=(Bj n p0 p1 n 0).bind (LR.el (λs=>some (-1)) λr=>some r)
def sQ n p0 p1:=(vR n p0 p1).bind λx=>some (decide (0<=x))
def oW n p0:=((idx p0 0).bind λx=>cond (x.kind !=2) ((sQ n p0 p0).bind λa=>some (!a)) (some false)).bind λs=>some s
def Bf n p0:=(oW n p0).bind λx=>some (Ty.mk 2 ([]:Str) ([]),x)
def Bu n p0:=(idx p0 1).bind λa=>(dx n a).bind λx=>((cond x.2 ((idx p0 0).bind λb=>(jQ n b x.1).bind λc=>some c) (some false)):Ax).bind λs=>some ((Ty.mk 2 ([]:Str) ([])),s)
def Ka n p0:=((idx p0 0).bind λb=>(idx p0 0).bind λx=>cond (x.kind==5) ((oW n p0).bind λa=>some a) (some false)).bind λs=>some ((Ty.mk 2 ([]:Str) ([])),s)
def aoV(n:Nat)p0(p1):=some (Ty.mk 4 ([]) [p0,p1])
def Oj(n:Nat)p0:=((idx p0 0).bind λx=>(idx p0 1).bind λa=>(idx p0 0).bind λb=>cond (b.kind !=2) ((idx p0 1).bind λc=>some ((c.kind !=2),([x,a]))) (some (false,([x,a])))).bind λs=>some ((Ty.mk 4 ([]:Str) s.2),s.1)
def AX n p0:=(idx p0 0).bind λx=>(oW n p0).bind λa=>some ((Ty.mk 5 ([]:Str) ([x])),a)
def aoN(n:Nat)(p:Ty):=some p
def o7 n p0:=((idx p0 0).bind λx=>(idx p0 0).bind λa=>cond (a.kind==5) ((oW n p0).bind λb=>some (b,x.kind,x.name,x.kids)) (some (false,x.kind,x.name,x.kids))).bind λs=>some ((Ty.mk s.2.1 s.2.2.1 s.2.2.2),s.1)
def aij(n:Nat)p0(p1):=some (Ty.mk 5 ([]) [(Ty.mk 4 ([]:Str) ([p0,p1]))])
def Lc n p0:=(idx p0 0).bind λb=>(dx n b).bind λx=>(idx p0 1).bind λc=>(dx n c).bind λa=>((cond (!x.2) (some true) (some (!a.2))):Ax).bind λs=>cond s (some ((Ty.mk 0 ([]:Str) ([])),false)) (some ((Ty.mk 5 ([]:Str) ([(Ty.mk 4 ([]:Str) ([x.1,a.1]))])),true))
def jN n p0:=(dx n p0).bind λx=>((cond (!x.2) (some true) (some (x.1.kind !=4))):Ax).bind λs=>cond s (some ((Ty.mk 0 ([]:Str) ([])),(Ty.mk 0 ([]:Str) ([])),false)) ((idx x.1.kids 0).bind λa=>(idx x.1.kids 1).bind λb=>some (a,b,true))
def Z9(n:Nat)(p:Ty)(a:Ty)p2:=(idx p2 0).bind λx=>(oW n p2).bind λb=>some (x,b)
def yU n p0:=(idx p0 0).bind λb=>(jN n b).bind λx=>cond (!x.2.2) (some ((Ty.mk 0 ([]:Str) ([])),false)) ((Z9 n x.1 x.2.1 p0).bind λa=>some (a.1,a.2))
def ZL n p0 p1 p2:=(idx p2 1).bind λa=>(jN n a).bind λx=>((cond x.2.2 ((jQ n p1 x.1).bind λb=>some (b,([(Ty.mk 4 ([]:Str) ([p0,x.2.1]))]))) (some (false,([(Ty.mk 4 ([]:Str) ([p0,x.2.1]))])))):Option (Bool×A3)).bind λs=>some ((Ty.mk 5 ([]:Str) s.2),s.1)
def y9 n p0:=(idx p0 0).bind λb=>(jN n b).bind λx=>cond (!x.2.2) (some ((Ty.mk 0 ([]:Str) ([])),false)) ((ZL n x.1 x.2.1 p0).bind λa=>some (a.1,a.2))
def Bz n p0:=(idx p0 0).bind λc=>(dx n c).bind λa=>(idx p0 1).bind λd=>(jN n d).bind λb=>(((idx p0 1).bind λx=>cond a.2 (cond b.2.2 ((jQ n a.1 b.1).bind λe=>some (e,x.kind,x.name,x.kids)) (some (false,x.kind,x.name,x.kids))) (some (false,x.kind,x.name,x.kids))):Option (Bool×Int×Str×A3)).bind λs=>some ((Ty.mk s.2.1 s.2.2.1 s.2.2.2),s.1)
def ZN(n:Nat)(a:Ty)p1(p:A3):=(idx p 1).bind λc=>(dx n c).bind λb=>(((idx p 0).bind λx=>cond b.2 ((jQ n b.1 p1).bind λd=>some (d,x.kind,x.name,x.kids)) (some (false,x.kind,x.name,x.kids))):Option (Bool×Int×Str×A3)).bind λs=>some ((Ty.mk s.2.1 s.2.2.1 s.2.2.2),s.1)
def nR n p0:=(idx p0 0).bind λb=>(jN n b).bind λx=>cond (!x.2.2) (some ((Ty.mk 0 ([]:Str) ([])),false)) ((ZN n x.1 x.2.1 p0).bind λa=>some (a.1,a.2))
def ao1(n:Nat)p0(p1):=some (Ty.mk 5 ([]) [(Ty.mk 5 ([]:Str) ([(Ty.mk 4 ([]:Str) ([p0,p1]))]))])
def jL n p0:=(idx p0 0).bind λb=>(dx n b).bind λx=>(idx p0 1).bind λc=>(dx n c).bind λa=>((cond (!x.2) (some true) (some (!a.2))):Ax).bind λs=>cond s (some ((Ty.mk 0 ([]:Str) ([])),false)) (some ((Ty.mk 5 ([]:Str) ([(Ty.mk 5 ([]:Str) ([(Ty.mk 4 ([]:Str) ([x.1,a.1]))]))])),true))
def al2(n:Nat)p0:=some (Ty.mk 5 ([]:Str) ([(Ty.mk 5 ([]:Str) ([p0]))]),true)
def GN n p0:=(idx p0 0).bind λa=>(dx n a).bind λx=>cond (!x.2) (some ((Ty.mk 0 ([]:Str) ([])),false)) (some ((((Ty.mk 5 ([]:Str) ([(Ty.mk 5 ([]:Str) ([x.1]))])),true).1),((Ty.mk 5 ([]:Str) ([(Ty.mk 5 ([]:Str) ([x.1]))])),true).2))
def al5(n:Nat)(p:Ty):=some (Ty.mk 1 ([]) [],true)
def G5 n p0:=(idx p0 0).bind λx=>(dx n x).bind λa=>cond (!a.2) (some ((Ty.mk 0 ([]:Str) ([])),false)) (some ((((Ty.mk 1 ([]:Str) ([])),true).1),((Ty.mk 1 ([]:Str) ([])),true).2))
def apc(n:Nat)(p:Ty):=some (Ty.mk 1 ([]) [],p.kind==1)
def vB n p0:=(idx p0 0).bind λa=>(dx n a).bind λx=>cond (!x.2) (some ((Ty.mk 0 ([]:Str) ([])),false)) (some ((((Ty.mk 1 ([]:Str) ([])),(x.1.kind==1)).1),((Ty.mk 1 ([]:Str) ([])),(x.1.kind==1)).2))
def amb(n:Nat)p0(p:Ty)(a:A3):=some (Ty.mk 5 ([]:Str) ([p0]),true)
def zl n p0:=(idx p0 0).bind λa=>(jN n a).bind λx=>cond (!x.2.2) (some ((Ty.mk 0 ([]:Str) ([])),false)) (some ((((Ty.mk 5 ([]:Str) ([x.1])),true).1),((Ty.mk 5 ([]:Str) ([x.1])),true).2))
def al7(n:Nat)(p:Ty)p1(a:A3):=some (Ty.mk 5 ([]:Str) ([p1]),true)
def yI n p0:=(idx p0 0).bind λa=>(jN n a).bind λx=>cond (!x.2.2) (some ((Ty.mk 0 ([]:Str) ([])),false)) (some ((((Ty.mk 5 ([]:Str) ([x.2.1])),true).1),((Ty.mk 5 ([]:Str) ([x.2.1])),true).2))
def ak3(n:Nat)p0(p1)(p:A3):=some (Ty.mk 5 ([]:Str) ([(Ty.mk 4 ([]:Str) ([p1,p0]))]),true)
def yS n p0:=(idx p0 0).bind λa=>(jN n a).bind λx=>cond (!x.2.2) (some ((Ty.mk 0 ([]:Str) ([])),false)) (some ((((Ty.mk 5 ([]:Str) ([(Ty.mk 4 ([]:Str) ([x.2.1,x.1]))])),true).1),((Ty.mk 5 ([]:Str) ([(Ty.mk 4 ([]:Str) ([x.2.1,x.1]))])),true).2))
def V4 n p0 p1 p2:=(idx p2 1).bind λa=>(dx n a).bind λx=>((cond x.2 ((jQ n x.1 p0).bind λb=>some (b,([p1]))) (some (false,([p1])))):Option (Bool×A3)).bind λs=>some ((Ty.mk 5 ([]:Str) s.2),s.1)
def y5 n p0:=(idx p0 0).bind λb=>(jN n b).bind λx=>cond (!x.2.2) (some ((Ty.mk 0 ([]:Str) ([])),false)) ((V4 n x.1 x.2.1 p0).bind λa=>some (a.1,a.2))
def V5(n:Nat)p0(p:Ty)p2:=(idx p2 1).bind λx=>(jQ n x p0).bind λa=>some (p,a)
def yD n p0:=(idx p0 0).bind λb=>(jN n b).bind λx=>cond (!x.2.2) (some ((Ty.mk 0 ([]:Str) ([])),false)) ((V5 n x.1 x.2.1 p0).bind λa=>some (a.1,a.2))
def JJ(n:Nat)(p:A3):=(idx p 0).bind λx=>(idx p 1).bind λa=>some (x,(a.kind==2))
def L9 n p0:=(idx p0 0).bind λb=>(dx n b).bind λx=>(((idx p0 1).bind λa=>cond x.2 ((idx p0 1).bind λc=>some ((c.kind !=2),([(Ty.mk 4 ([]:Str) ([x.1,a]))]))) (some (false,([(Ty.mk 4 ([]:Str) ([x.1,a]))])))):Option (Bool×A3)).bind λs=>some ((Ty.mk 5 ([]:Str) s.2),s.1)
def Wh(n:Nat)(m:F35t)(q:F36t)(d:List (Str×Ty))(f:List (Str×Bool))(p:Tm)(e:(A4×A3×Int×A2)->Option (LR (A4×A3×A2) (Ty×Int×A2)))(s1:A4×A3×Int×A2):Option (LR (A4×A3×A2) (Ty×Int×A2)):=cond (decide (s1.2.2.1<(p.kids.length:Int))) ((((q d f s1.2.2.2 p s1.2.2.1 s1.1).bind λx=>cond (x.2.1 !=0) (some (.rt ((Ty.mk 0 ([]:Str) ([])),x.2.1,x.2.2))) ((app 48 s1.2.1 ([x.1])).bind λa=>((cond (s1.2.2.1==0) ((Bg n p.op).bind λc=>some c) (some false)):Ax).bind λg=>cond g ((dx n x.1).bind λb=>cond (!b.2) (some (.rt ((Ty.mk 0 ([]:Str) ([])),7,x.2.2))) (some (.nx (((Decl.mk p.name b.1)::s1.1),a,x.2.2)))) (some (.nx (s1.1,a,x.2.2))))):Option (LR (A4×A3×A2) (Ty×Int×A2))).bind (LR.el (λs=>e (s.1,s.2.1,(s1.2.2.1+1),s.2.2)) (λr=>some (.rt r)))) (some (.nx (s1.1,s1.2.1,s1.2.2.2)))
def Au(n:Nat)(q:F35t)(c:F36t)(p:List (Str×Ty))(a:List (Str×Bool))(b:Tm)(k:Nat):(A4×A3×Int×A2)->Option (LR (A4×A3×A2) (Ty×Int×A2)):=aL (Wh n q c p a b) k
def xK(n:Nat)(qcm:F35t)(qcl:F36t)(p0:List (Str×Ty))(p1:List (Str×Bool))(p2:A2)(p:Tm)(p4:A4):Option (Ty×Int×A2):=(Au n qcm qcl p0 p1 p n (p4,([]:A3),0,p2)).bind (LR.el (λs=>cond (p.op==20) ((vF n s.1 p.name).bind λx1=>cond x1.2 (some (x1.1,0,s.2.2)) (((mel (dn p0 p.name) (some (false,0,([]:Str),([]:A3))) (λx2=>some (true,x2.kind,x2.name,x2.kids))):Option (Bool×Int×Str×A3)).bind λZ=>cond (!Z.1) (some ((Ty.mk 0 ([]:Str) ([])),6,s.2.2)) (some ((Ty.mk Z.2.1 Z.2.2.1 Z.2.2.2),0,s.2.2)))) (cond (p.op==29) ((tO n p0 p1 s.2.2 p.ty).bind λx3=>cond (!x3) (some ((Ty.mk 0 ([]:Str) ([])),6,s.2.2)) ((uH n (Ty.mk 5 ([]:Str) ([p.ty]))).bind λx4=>some (x4.1,x4.2,s.2.2))) (((cond (p.op==0) none (cond (p.op==1) (some (((Ty.mk 2 ([]:Str) ([])),true).2,(((Ty.mk 2 ([]:Str) ([])),true).1).kind,(((Ty.mk 2 ([]:Str) ([])),true).1).name,(((Ty.mk 2 ([]:Str) ([])),true).1).kids)) (cond (p.op==2) (some (((Ty.mk 2 ([]:Str) ([])),true).2,(((Ty.mk 2 ([]:Str) ([])),true).1).kind,(((Ty.mk 2 ([]:Str) ([])),true).1).name,(((Ty.mk 2 ([]:Str) ([])),true).1).kids)) (cond (p.op==3) ((aZ n s.2.1 2 ([]:Str) ([]) 2).bind λx6=>some (x6.2,x6.1.kind,x6.1.name,x6.1.kids)) (cond (p.op==4) ((aZ n s.2.1 2 ([]:Str) ([]) 2).bind λx7=>some (x7.2,x7.1.kind,x7.1.name,x7.1.kids)) (cond (p.op==5) ((aZ n s.2.1 2 ([]:Str) ([]) 2).bind λx8=>some (x8.2,x8.1.kind,x8.1.name,x8.1.kids)) (cond (p.op==6) ((aZ n s.2.1 2 ([]:Str) ([]) 2).bind λx9=>some (x9.2,x9.1.kind,x9.1.name,x9.1.kids)) (cond (p.op==7) ((aZ n s.2.1 2 ([]:Str) ([]) 2).bind λx=>some (x.2,x.1.kind,x.1.name,x.1.kids)) (cond (p.op==8) ((wZ n s.2.1).bind λa=>some (a.2,a.1.kind,a.1.name,a.1.kids)) (cond (p.op==9) ((wZ n s.2.1).bind λb=>some (b.2,b.1.kind,b.1.name,b.1.kids)) (cond (p.op==10) ((Bf n s.2.1).bind λc=>some (c.2,c.1.kind,c.1.name,c.1.kids)) (cond (p.op==11) ((Bf n s.2.1).bind λd=>some (d.2,d.1.kind,d.1.name,d.1.kids)) (cond (p.op==12) ((aZ n s.2.1 2 ([]:Str) ([]) 1).bind λe=>some (e.2,e.1.kind,e.1.name,e.1.kids)) (cond (p.op==13) ((aZ n s.2.1 2 ([]:Str) ([]) 1).bind λf=>some (f.2,f.1.kind,f.1.name,f.1.kids)) (cond (p.op==14) ((aZ n s.2.1 2 ([]:Str) ([]) 1).bind λg=>some (g.2,g.1.kind,g.1.name,g.1.kids)) (cond (p.op==15) ((aZ n s.2.1 2 ([]:Str) ([]) 1).bind λh=>some (h.2,h.1.kind,h.1.name,h.1.kids)) (cond (p.op==16) ((Bu n s.2.1).bind λi=>some (i.2,i.1.kind,i.1.name,i.1.kids)) (cond (p.op==17) ((Bu n s.2.1).bind λj=>some (j.2,j.1.kind,j.1.name,j.1.kids)) (cond (p.op==18) ((Ka n s.2.1).bind λk=>some (k.2,k.1.kind,k.1.name,k.1.kids)) (cond (p.op==19) (some (((Ty.mk 1 ([]:Str) ([])),true).2,(((Ty.mk 1 ([]:Str) ([])),true).1).kind,(((Ty.mk 1 ([]:Str) ([])),true).1).name,(((Ty.mk 1 ([]:Str) ([])),true).1).kids)) (cond (p.op==20) none (cond (p.op==21) ((aZ n s.2.1 1 ([]:Str) ([]) 1).bind λl=>some (l.2,l.1.kind,l.1.name,l.1.kids)) (cond (p.op==22) ((aZ n s.2.1 1 ([]:Str) ([]) 1).bind λm=>some (m.2,m.1.kind,m.1.name,m.1.kids)) (cond (p.op==23) ((aZ n s.2.1 1 ([]:Str) ([]) 1).bind λo=>some (o.2,o.1.kind,o.1.name,o.1.kids)) (cond (p.op==24) ((aZ n s.2.1 1 ([]:Str) ([]) 1).bind λq=>some (q.2,q.1.kind,q.1.name,q.1.kids)) (cond (p.op==25) ((aZ n s.2.1 1 ([]:Str) ([]) 1).bind λt=>some (t.2,t.1.kind,t.1.name,t.1.kids)) (cond (p.op==26) ((aZ n s.2.1 1 ([]:Str) ([]) 1).bind λu=>some (u.2,u.1.kind,u.1.name,u.1.kids)) (cond (p.op==27) ((Oj n s.2.1).bind λv=>some (v.2,v.1.kind,v.1.name,v.1.kids)) (cond (p.op==28) ((AX n s.2.1).bind λw=>some (w.2,w.1.kind,w.1.name,w.1.kids)) (cond (p.op==29) none (cond (p.op==30) ((aZ n s.2.1 5 ([]:Str) ([(Ty.mk 1 ([]:Str) ([]))]) 1).bind λy=>some (y.2,y.1.kind,y.1.name,y.1.kids)) (cond (p.op==31) ((o7 n s.2.1).bind λz=>some (z.2,z.1.kind,z.1.name,z.1.kids)) (cond (p.op==32) ((o7 n s.2.1).bind λA=>some (A.2,A.1.kind,A.1.name,A.1.kids)) (cond (p.op==33) ((o7 n s.2.1).bind λB=>some (B.2,B.1.kind,B.1.name,B.1.kids)) (cond (p.op==34) ((Lc n s.2.1).bind λC=>some (C.2,C.1.kind,C.1.name,C.1.kids)) (cond (p.op==35) ((yU n s.2.1).bind λD=>some (D.2,D.1.kind,D.1.name,D.1.kids)) (cond (p.op==36) ((y9 n s.2.1).bind λE=>some (E.2,E.1.kind,E.1.name,E.1.kids)) (cond (p.op==37) ((Bz n s.2.1).bind λF=>some (F.2,F.1.kind,F.1.name,F.1.kids)) (cond (p.op==38) ((Bz n s.2.1).bind λG=>some (G.2,G.1.kind,G.1.name,G.1.kids)) (cond (p.op==39) ((nR n s.2.1).bind λH=>some (H.2,H.1.kind,H.1.name,H.1.kids)) (cond (p.op==40) ((nR n s.2.1).bind λI=>some (I.2,I.1.kind,I.1.name,I.1.kids)) (cond (p.op==41) ((jL n s.2.1).bind λJ=>some (J.2,J.1.kind,J.1.name,J.1.kids)) (cond (p.op==42) ((jL n s.2.1).bind λK=>some (K.2,K.1.kind,K.1.name,K.1.kids)) (cond (p.op==43) ((jL n s.2.1).bind λL=>some (L.2,L.1.kind,L.1.name,L.1.kids)) (cond (p.op==44) ((jL n s.2.1).bind λM=>some (M.2,M.1.kind,M.1.name,M.1.kids)) (cond (p.op==45) ((jL n s.2.1).bind λN=>some (N.2,N.1.kind,N.1.name,N.1.kids)) (cond (p.op==46) ((GN n s.2.1).bind λO=>some (O.2,O.1.kind,O.1.name,O.1.kids)) (cond (p.op==47) ((G5 n s.2.1).bind λP=>some (P.2,P.1.kind,P.1.name,P.1.kids)) (cond (p.op==48) ((vB n s.2.1).bind λQ=>some (Q.2,Q.1.kind,Q.1.name,Q.1.kids)) (cond (p.op==49) ((vB n s.2.1).bind λR=>some (R.2,R.1.kind,R.1.name,R.1.kids)) (cond (p.op==50) ((zl n s.2.1).bind λS=>some (S.2,S.1.kind,S.1.name,S.1.kids)) (cond (p.op==51) ((yI n s.2.1).bind λT=>some (T.2,T.1.kind,T.1.name,T.1.kids)) (cond (p.op==52) ((yS n s.2.1).bind λU=>some (U.2,U.1.kind,U.1.name,U.1.kids)) (cond (p.op==53) ((y5 n s.2.1).bind λV=>some (V.2,V.1.kind,V.1.name,V.1.kids)) (cond (p.op==54) ((yD n s.2.1).bind λW=>some (W.2,W.1.kind,W.1.name,W.1.kids)) (cond (p.op==55) ((JJ n s.2.1).bind λX=>some (X.2,X.1.kind,X.1.name,X.1.kids)) (cond (p.op==56) ((L9 n s.2.1).bind λY=>some (Y.2,Y.1.kind,Y.1.name,Y.1.kids)) none))))))))))))))))))))))))))))))))))))))))))))))))))))))))):Option (Bool×Int×Str×A3)).bind λs4=>cond (!s4.1) (some ((Ty.mk 0 ([]:Str) ([])),7,s.2.2)) ((uH n (Ty.mk s4.2.1 s4.2.2.1 s4.2.2.2)).bind λx5=>some (x5.1,x5.2,s.2.2))))) (λr=>some r))
def ug(n:Nat)(q:F35t)(c:F36t)(b:List (Str×Ty))(d:List (Str×Bool))(e:A2)(f:Tm)(p:Int)(g:A4):Option (Ty×Int×A2):=(app 8 e ([p])).bind λh=>(idx f.kids p).bind λi=>(q b d h i g).bind λx=>((cond (x.2.1==0) ((FJ (List.length x.2.2) ((x.2.2.length:Int) - 1)).bind λa=>cond (Nat.ble a (List.length x.2.2)) (some (List.take a x.2.2)) none) (some x.2.2)):Option A2).bind λs=>some (x.1,x.2.1,s)
mutual
def mP:Nat→(List (Str×Ty))→(List (Str×Bool))→A2→Tm→A4→Option (Ty×Int×A2)
 |0,_,_,_,_,_=>none
 |n+1,p0,p1,p2,p3,p4=>xK n (mP n) (j6 n) p0 p1 p2 p3 p4
def j6:Nat→(List (Str×Ty))→(List (Str×Bool))→A2→Tm→Int→A4→Option (Ty×Int×A2)
 |0,_,_,_,_,_,_=>none
 |n+1,p0,p1,p2,p3,p4,p5=>ug n (mP n) (j6 n) p0 p1 p2 p3 p4 p5
end
def aaM(n:Nat)(q:F30t)(p:Ty)(r:F49t)(s1:Int×A3):Option (LR A3 Ty):=cond (decide (s1.1<(p.kids.length:Int))) ((idx p.kids s1.1).bind λx=>(q x).bind λa=>(app 48 s1.2 ([a])).bind λb=>r ((s1.1+1),b)) (some (.nx s1.2))
def Nu(n:Nat)(q:F30t)(p:Ty)(k:Nat):(Int×A3)->Option (LR A3 Ty):=aL (aaM n q p) k
def zV(n:Nat)(q:F30t)(p:Ty):B7:=(Nu n q p n (0,([]:A3))).bind (LR.el (λs=>some (Ty.mk p.kind p.name s)) (λr=>some r))
def su:Nat->Ty->B7|0,_=>none|n+1,p=>zV n (su n) p
def A8 n p0 p1:=((rY n p0).bind λb=>cond (!b) (some true) ((J7 n p1).bind λc=>some (!c))).bind λs=>cond s (some ((Ty.mk 0 ([]:Str) ([])),([]:A2),1)) ((FB n p0).bind λa=>(mP n a.1 a.2 ([]:A2) p1 ([]:A4)).bind λx=>cond (x.2.1 !=0) ((slices_Clone_int n x.2.2).bind λd=>some ((Ty.mk 0 ([]:Str) ([])),d,x.2.1)) ((su n x.1).bind λe=>some (e,([]:A2),0)))
def Cx(n:Nat)(p:S_api_World)(r:(Int×(List (Str×Val)))->Option (LR (List (Str×Val)) (A7×A4×A2×(List (Str×Val))×At)))(s1:Int×(List (Str×Val))):Option (LR (List (Str×Val)) (A7×A4×A2×(List (Str×Val))×At)):=cond (decide (s1.1<(p.env.names.length:Int))) ((idx p.env.names s1.1).bind λx=>(idx p.values s1.1).bind λa=>(yG s1.2 x.name a).bind λb=>r ((s1.1+1),b)) (some (.nx s1.2))
def ami n p0 k:=aL (Cx n p0) k
def Mt n p0:=(ami n p0 n (0,([]))).bind (LR.el (λs=>some (p0.env.carriers,p0.env.names,p0.sizes,s,([]:At))) λr=>some r)
def bN(n:Nat)p0:=cond p0 (some (Val.mk 2 1 ([]:Str) ([]))) (some (Val.mk 2 0 ([]:Str) ([])))
def jK(n:Nat)(p:Int):Option (PZ Val Unit):=(cond (decide (1000000000<p)) (some true) (some (decide (p<(-1000000000))))).bind λs=>cond s (some (.er 11 ())) (some (.ok (Val.mk 1 p ([]:Str) ([]))))
def ayA(n:Nat)p0(p1):=some (Val.mk 4 0 ([]) [p0,p1])
def tQ(n:Nat)p0(p1)(p:Int)(a:Str)(b:Int)(c:Int)(d:Str)(e:A3)(f:Bi)p9(p10)p11:=cond (p==56) ((app 56 p9 [(Val.mk 0 0 ([]:Str) ([]))]).bind λx=>(idx x (p9.length:Int)).bind λh=>(idx x (p9.length:Int)).bind λi=>some ((upd x (p9.length:Int) (Val.mk 4 0 ([]:Str) ([p0,p1]))),p10,p11)) (cond (p1.n==1) ((app 56 p9 ([(Val.mk 0 0 ([]:Str) ([]))])).bind λg=>(idx g (p9.length:Int)).bind λj=>(idx g (p9.length:Int)).bind λk=>some ((upd g (p9.length:Int) p0),true,p11)) (some (p9,p10,false)))
def Ab(n:Nat)(p:Af):Option (PZ Val Unit):=(kH n p).bind λx=>cond (decide (256<(x.length:Int))) (some (.er 11 ())) (some (.ok (Val.mk 5 0 ([]:Str) x)))
def yV(n:Nat)(p:Int):=(cond (decide (41<=p)) (some (decide (p<=46))) (some false)).bind λs=>some s
def dZ(n)p0(p1)(r:(Int×Int)->Option (LR Int (Int×Bool)))(s1:Int×Int):=cond (decide (s1.1<s1.2)) ((as1 .u64 (IntKind.wrap .u64 (IntKind.wrap .i64 (s1.1+s1.2))) 1).bind λx=>(idx p0 (IntKind.wrap .i64 x)).bind λa=>(dY n a p1).bind λb=>cond (decide (b<0)) (r ((IntKind.wrap .i64 ((IntKind.wrap .i64 x)+1)),s1.2)) (r (s1.1,(IntKind.wrap .i64 x)))) (some (.nx s1.1))
def uL n p0 p1 k:=aL (dZ n p0 p1) k
def pX n p0 p1:=(uL n p0 p1 n (0,(p0.length))).bind (LR.el (λs=>((cond (decide (s<(p0.length:Int))) ((idx p0 s).bind λx=>(dY n x p1).bind λb=>some (s,(b==0))) (some (s,false))):Option (Int×Bool)).bind λa=>some (a.1,a.2)) λr=>some r)
def gL n p0 p1:=(pX n p0 p1).bind λx=>some x.2
def jM n p0 p1:=(gL n p1 p0).bind λx=>some x
def vO n p0 p1:=(gL n p1 p0).bind λx=>some x
def ajX(n:Nat)(p:Af)(a:Af)(r:F4t)(s1:Af×Int):Option (LR Af Af):=cond (decide (s1.2<(p.length:Int))) ((((idx p s1.2).bind λx=>(vO n x a).bind λb=>cond b ((app 56 s1.1 ([x])).bind λc=>some c) (some s1.1)):Option Af).bind λs=>r (s,(s1.2+1))) (some (.nx s1.1))
def alc n p0 p1 k:=aL (ajX n p0 p1) k
def afW n p0 p1:=(alc n p0 p1 n (([]),0)).bind (LR.el (λs=>some s) λr=>some r)
def jP(n)(p:Val)p1:=(afW n p.kids p1).bind λx=>some ((x.length)==(p.kids.length:Int))
def Cb(n:Nat)(p:Af)(r:F4t)(s1:Af×Int):Option (LR Af Af):=cond (decide (s1.2<(p.length:Int))) ((idx p s1.2).bind λx=>(idx x.kids 0).bind λa=>(app 56 s1.1 ([a])).bind λb=>r (b,(s1.2+1))) (some (.nx s1.1))
def ama n p0 k:=aL (Cb n p0) k
def BH n p0:=(mkS 56 p0.length).bind λa=>(ama n p0 n (([]:Af),0)).bind (LR.el (λs=>(kH n s).bind λx=>some x) (λr=>some r))
def Ai(n:Nat)(p:Af)(r:F4t)(s1:Af×Int):Option (LR Af Af):=cond (decide (s1.2<(p.length:Int))) ((idx p s1.2).bind λx=>(idx x.kids 1).bind λa=>(app 56 s1.1 ([a])).bind λb=>r (b,(s1.2+1))) (some (.nx s1.1))
def ajJ n p0 k:=aL (Ai n p0) k
def rz n p0:=(mkS 56 p0.length).bind λa=>(ajJ n p0 n (([]:Af),0)).bind (LR.el (λs=>(kH n s).bind λx=>some x) (λr=>some r))
def yj(n)p1(p2)(p:Af)(r:F2t)s1:=cond (decide (s1<(p.length:Int))) ((idx p s1).bind λx=>(((idx x.kids 0).bind λa=>(gL n p1 a).bind λb=>cond (!b) (some true) ((idx x.kids 1).bind λc=>(gL n p2 c).bind λd=>some (!d))):Ax).bind λs=>cond s (some (.rt false)) (r (s1+1))) (some (.nx ()))
def ahv n p1 p2 p3 k:=aL (yj n p1 p2 p3) k
def wu(n)(p:Int)p1(p2)p3:=(ahv n p1 p2 p3 n 0).bind (LR.el (λd=>(BH n p3).bind λx=>(rz n p3).bind λa=>cond (p==41) (some true) (cond (p==42) (some ((x.length:Int)==(p3.length:Int))) (cond (p==43) (((cond ((x.length:Int)==(p3.length:Int)) (some ((x.length:Int)==(p1.length:Int))) (some false)):Ax).bind λs=>some s) (cond (p==44) (((cond ((x.length:Int)==(p3.length:Int)) (cond ((x.length:Int)==(p1.length:Int)) (some ((a.length:Int)==(p3.length:Int))) (some false)) (some false)):Ax).bind λb=>some b) (((cond ((x.length:Int)==(p3.length:Int)) (cond ((x.length:Int)==(p1.length:Int)) (cond ((a.length:Int)==(p3.length:Int)) (some ((a.length:Int)==(p2.length:Int))) (some false)) (some false)) (some false)):Ax).bind λc=>some c))))) λr=>some r)
def lF(n)(p:Val)p1(a:Str)(b:Int)(c:Int)(d:Str)(e:A3)(f:Bi)p8(p9):=(wu n p1 p8 p9 p.kids).bind λx=>some x
def aeO(n:Nat)(p:Af)(a:Af)(r:F4t)(s1:Af×Int):Option (LR Af Af):=cond (decide (s1.2<(p.length:Int))) ((((idx p s1.2).bind λx=>(jM n x a).bind λb=>cond b ((app 56 s1.1 ([x])).bind λc=>some c) (some s1.1)):Option Af).bind λs=>r (s,(s1.2+1))) (some (.nx s1.1))
def agI n p0 p1 k:=aL (aeO n p0 p1) k
def Gf n p0 p1:=(agI n p0 p1 n (([]),0)).bind (LR.el (λs=>some s) λr=>some r)
def aeF(n:Nat)(p:Af)(a:Af)(r:F4t)(s1:Af×Int):Option (LR Af Af):=cond (decide (s1.2<(p.length:Int))) ((((idx p s1.2).bind λx=>(jP n x a).bind λb=>cond b ((app 56 s1.1 ([x])).bind λc=>some c) (some s1.1)):Option Af).bind λs=>r (s,(s1.2+1))) (some (.nx s1.1))
def agS n p0 p1 k:=aL (aeF n p0 p1) k
def Gq n p0 p1:=(agS n p0 p1 n (([]),0)).bind (LR.el (λs=>some s) λr=>some r)
def aey(n:Nat)(p:Af)(a:Int)(b:Str)(c:Int)(d:Int)(e:Str)(f:A3)(g:Bi)(h:Af)(i:Af)(r:F4t)(s1:Af×Int):Option (LR Af Af):=cond (decide (s1.2<(p.length:Int))) ((((idx p s1.2).bind λx=>(lF n x a b c d e f g h i).bind λj=>cond j ((app 56 s1.1 ([x])).bind λk=>some k) (some s1.1)):Option Af).bind λs=>r (s,(s1.2+1))) (some (.nx s1.1))
def agF n p0 p1 p2 p3 p4 p5 p6 p7 p8 p9 k:=aL (aey n p0 p1 p2 p3 p4 p5 p6 p7 p8 p9) k
def Gr n p0 p1 p2 p3 p4 p5 p6 p7 p8 p9:=(agF n p0 p1 p2 p3 p4 p5 p6 p7 p8 p9 n (([]),0)).bind (LR.el (λs=>some s) λr=>some r)
def Jj(n:Nat)(p:Val)p1(a:Int)p3(b:Af):=(idx p.kids 0).bind λx=>(dY n x (Val.mk p1 a p3 b)).bind λc=>some (c==0)
def aeH(n:Nat)(p:Af)(a:Int)(b:Int)(c:Str)(d:Af)(r:F4t)(s1:Af×Int):Option (LR Af Af):=cond (decide (s1.2<(p.length:Int))) ((((idx p s1.2).bind λx=>(Jj n x a b c d).bind λe=>cond e ((app 56 s1.1 ([x])).bind λf=>some f) (some s1.1)):Option Af).bind λs=>r (s,(s1.2+1))) (some (.nx s1.1))
def aho n p0 p1 p2 p3 p4 k:=aL (aeH n p0 p1 p2 p3 p4) k
def aaq n p0 p1 p2 p3 p4:=(aho n p0 p1 p2 p3 p4 n (([]),0)).bind (LR.el (λs=>some s) λr=>some r)
def JX(n:Nat)(b:Int)(p:Int)(a:Int):Option (PZ Val Unit):=cond (b==21) ((jK n (IntKind.wrap .i64 (0 - p))).bind (PZ.el (λx=>some (.ok x)) (λ(e:Int) _=>some (.er e ())))) (cond (b==22) ((jK n (IntKind.wrap .i64 (p+a))).bind (PZ.el (λi=>some (.ok i)) (λ(c:Int) _=>some (.er c ())))) (cond (b==23) ((jK n (IntKind.wrap .i64 (p - a))).bind (PZ.el (λj=>some (.ok j)) (λ(d:Int) _=>some (.er d ())))) (cond (b==24) ((jK n (IntKind.wrap .i64 (p*a))).bind (PZ.el (λk=>some (.ok k)) (λ(f:Int) _=>some (.er f ())))) (cond (b==25) (cond (a==0) (some (.er 10 ())) ((abO p a).bind λl=>(jK n l).bind (PZ.el (λm=>some (.ok m)) (λ(g:Int) _=>some (.er g ()))))) (((cond (decide (p<0)) (some true) (some (decide (a<1)))):Ax).bind λs=>cond s (some (.er 10 ())) ((Vr p a).bind λo=>(jK n o).bind (PZ.el (λq=>some (.ok q)) (λ(h:Int) _=>some (.er h ())))))))))
def mH(n:Nat)(p:List Af)(r:(Int×Int)->Option (LR Int Af))(s1:Int×Int):=cond (decide (s1.2<(p.length:Int))) ((idx p s1.2).bind λx=>cond (decide ((IntKind.wrap .i64 (s1.1+(x.length:Int)))<0)) none (r ((IntKind.wrap .i64 (s1.1+(x.length:Int))),(s1.2+1)))) (some (.nx s1.1))
def xJ n p0 k:=aL (mH n p0) k
def mF(n:Nat)(p:List Af)(r:F4t)(s:Af×Int):Option (LR Af Af):=cond (decide (s.2<(p.length:Int))) ((idx p s.2).bind λx=>(app 56 s.1 x).bind λa=>r (a,(s.2+1))) (some (.nx s.1))
def xL n p0 k:=aL (mF n p0) k
def qg n p0:=(xJ n p0 n (0,0)).bind (LR.el (λs=>(Fw n s).bind λx=>(xL n p0 n (x,0)).bind (LR.el (λa=>some a) (λr=>some r))) λr=>some r)
def xH n p0 p1:=(gL n p1 p0).bind λx=>some x
def aeG(n:Nat)(p:Af)(a:Af)(r:F4t)(s1:Af×Int):Option (LR Af Af):=cond (decide (s1.2<(p.length:Int))) ((((idx p s1.2).bind λx=>(xH n x a).bind λb=>cond b ((app 56 s1.1 ([x])).bind λc=>some c) (some s1.1)):Option Af).bind λs=>r (s,(s1.2+1))) (some (.nx s1.1))
def agc n p0 p1 k:=aL (aeG n p0 p1) k
def Z8 n p0 p1:=(agc n p0 p1 n (([]),0)).bind (LR.el (λs=>some s) λr=>some r)
def Ve n p0 p1:=(xH n p0 p1).bind λx=>some !x
def aeJ(n:Nat)(p:Af)(a:Af)(r:F4t)(s1:Af×Int):Option (LR Af Af):=cond (decide (s1.2<(p.length:Int))) ((((idx p s1.2).bind λx=>(Ve n x a).bind λb=>cond b ((app 56 s1.1 ([x])).bind λc=>some c) (some s1.1)):Option Af).bind λs=>r (s,(s1.2+1))) (some (.nx s1.1))
def agO n p0 p1 k:=aL (aeJ n p0 p1) k
def aaB n p0 p1:=(agO n p0 p1 n (([]),0)).bind (LR.el (λs=>some s) λr=>some r)
def Md(n:Nat)(p:Val)p1:=(idx p.kids 0).bind λx=>(gL n p1 x).bind λa=>some (!a)
def aeL(n:Nat)(p:Af)(a:Af)(r:F4t)(s1:Af×Int):Option (LR Af Af):=cond (decide (s1.2<(p.length:Int))) ((((idx p s1.2).bind λx=>(Md n x a).bind λb=>cond b ((app 56 s1.1 ([x])).bind λc=>some c) (some s1.1)):Option Af).bind λs=>r (s,(s1.2+1))) (some (.nx s1.1))
def aht n p0 p1 k:=aL (aeL n p0 p1) k
def aam n p0 p1:=(aht n p0 p1 n (([]),0)).bind (LR.el (λs=>some s) λr=>some r)
def Vu n p0 p1:=(gL n p1 p0).bind λx=>some x
def MI(n:Nat)(p:Val)p1:=(idx p.kids 0).bind λx=>(Vu n x p1).bind λa=>some a
def aeN(n:Nat)(p:Af)(a:Af)(r:F4t)(s1:Af×Int):Option (LR Af Af):=cond (decide (s1.2<(p.length:Int))) ((((idx p s1.2).bind λx=>(MI n x a).bind λb=>cond b ((app 56 s1.1 ([x])).bind λc=>some c) (some s1.1)):Option Af).bind λs=>r (s,(s1.2+1))) (some (.nx s1.1))
def agq n p0 p1 k:=aL (aeN n p0 p1) k
def ZT n p0 p1:=(agq n p0 p1 n (([]),0)).bind (LR.el (λs=>some s) λr=>some r)
def MG(n:Nat)(p:Val)p1:=(idx p.kids 0).bind λx=>(Vu n x p1).bind λa=>some (!a)
def ae2(n:Nat)(p:Af)(a:Af)(r:F4t)(s1:Af×Int):Option (LR Af Af):=cond (decide (s1.2<(p.length:Int))) ((((idx p s1.2).bind λx=>(MG n x a).bind λb=>cond b ((app 56 s1.1 ([x])).bind λc=>some c) (some s1.1)):Option Af).bind λs=>r (s,(s1.2+1))) (some (.nx s1.1))
def ag3 n p0 p1 k:=aL (ae2 n p0 p1) k
def aal n p0 p1:=(ag3 n p0 p1 n (([]),0)).bind (LR.el (λs=>some s) λr=>some r)
def Mv(n:Nat)(p:Val)p1:=(idx p.kids 1).bind λx=>(xH n x p1).bind λa=>some a
def abn(n:Nat)(p:Af)(a:Af)(r:F4t)(s1:Af×Int):Option (LR Af Af):=cond (decide (s1.2<(p.length:Int))) ((((idx p s1.2).bind λx=>(Mv n x a).bind λb=>cond b ((app 56 s1.1 ([x])).bind λc=>some c) (some s1.1)):Option Af).bind λs=>r (s,(s1.2+1))) (some (.nx s1.1))
def aeS n p0 p1 k:=aL (abn n p0 p1) k
def XF n p0 p1:=(aeS n p0 p1 n (([]),0)).bind (LR.el (λs=>some s) λr=>some r)
def Mg(n:Nat)(p:Val)p1:=(idx p.kids 1).bind λx=>(xH n x p1).bind λa=>some (!a)
def abr(n:Nat)(p:Af)(a:Af)(r:F4t)(s1:Af×Int):Option (LR Af Af):=cond (decide (s1.2<(p.length:Int))) ((((idx p s1.2).bind λx=>(Mg n x a).bind λb=>cond b ((app 56 s1.1 ([x])).bind λc=>some c) (some s1.1)):Option Af).bind λs=>r (s,(s1.2+1))) (some (.nx s1.1))
def aes n p0 p1 k:=aL (abr n p0 p1) k
def WQ n p0 p1:=(aes n p0 p1 n (([]),0)).bind (LR.el (λs=>some s) λr=>some r)
def zX(n:Nat)(a:Val)(x:List Af)(r:F13t)(s:(List Af)×Int):Option (LR (List Af) (List Af)):=cond (decide (s.2<(x.length:Int))) ((idx x s.2).bind λb=>(jZ n b).bind λc=>(app 56 c ([a])).bind λd=>(app 24 s.1 ([d])).bind λe=>r (e,(s.2+1))) (some (.nx s.1))
def Un n x1 x2 k:=aL (zX n x1 x2) k
def zY(n:Nat)(p:Af)(e:F13t)(s1:(List Af)×Int):Option (LR (List Af) (List Af)):=cond (decide (s1.2<(p.length:Int))) ((idx p s1.2).bind λx=>(zq n s1.1).bind λa=>(Un n x a n (s1.1,0)).bind (LR.el (λs=>e (s,(s1.2+1))) (λr=>some (.rt r)))) (some (.nx s1.1))
def akb n p0 k:=aL (zY n p0) k
def Jh n p0:=(akb n p0 n ([[]],0)).bind (LR.el (λs=>some s) λr=>some r)
def Mj(n:Nat)(p:Val)p1:=(idx p.kids 0).bind λx=>(xH n x p1).bind λa=>some a
def abH(n:Nat)(p:Af)(a:Af)(r:F4t)(s1:Af×Int):Option (LR Af Af):=cond (decide (s1.2<(p.length:Int))) ((((idx p s1.2).bind λx=>(Mj n x a).bind λb=>cond b ((app 56 s1.1 ([x])).bind λc=>some c) (some s1.1)):Option Af).bind λs=>r (s,(s1.2+1))) (some (.nx s1.1))
def aeR n p0 p1 k:=aL (abH n p0 p1) k
def VL n p0 p1:=(aeR n p0 p1 n (([]),0)).bind (LR.el (λs=>some s) λr=>some r)
def Nf(n:Nat)(p:Int)p1(a:Int):=(cond (p==45) (cond (p1 !=a) (some true) (cond (decide (44<=p)) (some (decide (a<p1))) (some false))) (cond (decide (44<=p)) (some (decide (a<p1))) (some false))).bind λs=>some s
def uR(n:Nat)(p:Int)p1(a:Int)(e:(Int×Int)->Option (LR Unit Bool))(s1:Int×Int):=cond (decide (s1.2<p1)) (((cond (p==41) (cond (decide (8<a)) (some (.rt true)) ((adw 1 a).bind λx=>some (.nx x))) (cond (p==42) (some (.nx (IntKind.wrap .i64 (a+1)))) (((cond (p==44) (some (p==44)) (some (p==45))):Ax).bind λb=>cond b (some (.nx (IntKind.wrap .i64 (a - s1.2)))) (some (.nx a))))):Option (LR Int Bool)).bind (LR.el (λs=>cond (s==0) (some (.rt false)) (((cond (decide (256<(IntKind.wrap .i64 (s1.1*s)))) (cond (p !=43) (some true) (some (decide (0<a)))) (some false)):Ax).bind λc=>cond c (some (.rt true)) (e ((IntKind.wrap .i64 (s1.1*s)),(s1.2+1))))) (λr=>some (.rt r)))) (some (.nx ()))
def Js n p0 p1 p2 k:=aL (uR n p0 p1 p2) k
def Di n p0 p1 p2:=(Nf n p0 p1 p2).bind λx=>cond x (some false) ((Js n p0 p1 p2 n (1,0)).bind (LR.el (λs=>some false) (λr=>some r)))
def oN(n:Nat)(q:F14t)(h:Int)(i:Af)(j:Af)(k:Int)(p:Af)(r:F50t)(s:Int×Af):Option (LR Af Af):=cond (decide (s.1<(p.length:Int))) ((((idx p s.1).bind λx=>((cond (decide (44<=k)) ((rz n i).bind λa=>(gL n a x).bind λb=>some b) (some false)):Ax).bind λc=>cond c (some s.2) ((jZ n i).bind λd=>(idx j h).bind λe=>(app 56 d ([(Val.mk 4 0 ([]:Str) ([e,x]))])).bind λf=>(q (IntKind.wrap .i64 (h+1)) f j k p s.2).bind λg=>some g)):Option Af).bind λl=>r ((s.1+1),l)) (some (.nx s.2))
def aaK(n:Nat)(q:F14t)(p:Int)(a:Af)(b:Af)(c:Int)(d:Af)(k:Nat):(Int×Af)->Option (LR Af Af):=aL (oN n q p a b c d) k
def uh(n:Nat)(q:F14t)(p:Int)(d:Af)(c:Af)(r:F4t)(s:Af×Int):Option (LR Af Af):=cond (decide (s.2<(c.length:Int))) ((idx c s.2).bind λx=>(idx d p).bind λa=>(app 56 s.1 ([(Val.mk 4 0 ([]:Str) ([a,x]))])).bind λb=>r (b,(s.2+1))) (some (.nx s.1))
def KD(n:Nat)(q:F14t)(p:Int)(a:Af)(x:Af)(k:Nat):(Af×Int)->Option (LR Af Af):=aL (uh n q p a x) k
def tZ(n:Nat)(q:F14t)(p:Int)(b:Af)(a:Af)(c:Int)(d:Af)(x:List Af)(e:F50t)(s:Int×Af):Option (LR Af Af):=cond (decide (s.1<(x.length:Int))) ((idx x s.1).bind λf=>(jZ n b).bind λg=>(KD n q p a f n (g,0)).bind (LR.el (λh=>(q (IntKind.wrap .i64 (p+1)) h a c d s.2).bind λi=>e ((s.1+1),i)) (λr=>some (.rt r)))) (some (.nx s.2))
def aaO(n:Nat)(q:F14t)(p:Int)(a:Af)(b:Af)(c:Int)(d:Af)(x:List Af)(k:Nat):(Int×Af)->Option (LR Af Af):=aL (tZ n q p a b c d x) k
def nS(n:Nat)(q:F14t)(e:Int)(b:Af)(c:Af)(a:Int)(d:Af)(p:Af):Option Af:=cond (e==(c.length:Int)) ((((wu n a c d b).bind λg=>cond g ((kH n b).bind λh=>(app 56 p ([(Val.mk 0 0 ([]:Str) ([]))])).bind λx=>(idx x (p.length:Int)).bind λm=>(idx x (p.length:Int)).bind λo=>some (upd x (p.length:Int) (Val.mk 5 0 ([]:Str) h))) (some p)):Option Af).bind λs=>some s) (cond (a==41) ((Jh n d).bind λi=>(aaO n q e b c a d i n (0,p)).bind (LR.el (λj=>some j) (λr=>some r))) (((cond (a==42) ((q (IntKind.wrap .i64 (e+1)) b c a d p).bind λf=>some f) (some p)):Option Af).bind λk=>(aaK n q e b c a d n (0,k)).bind (LR.el (λl=>some l) (λr=>some r))))
def iP:Nat->Int->Af->Af->Int->Af->Af->Option Af|0,_,_,_,_,_,_=>none|n+1,p,a,b,c,d,e=>nS n (iP n) p a b c d e
def D9(n:Nat)(p:Int)(a:Af)(b:Af):Option (PZ Af Unit):=(Di n p a.length b.length).bind λx=>cond x (some (.er 11 ())) ((Nf n p (a.length:Int) (b.length:Int)).bind λc=>cond c (some (.ok ([]:Af))) ((some ():Option Unit).bind λs=>(iP n 0 ([]:Af) a p b ([]:Af)).bind λd=>some (.ok d)))
def GA(n:Nat)(p:Val)(r:F15t)(s:Af×Int):Option (LR Af (PZ Val Unit)):=cond (decide (s.2<(p.kids.length:Int))) ((idx p.kids s.2).bind λx=>(idx x.kids 1).bind λa=>(idx x.kids 0).bind λb=>(app 56 s.1 ([(Val.mk 4 0 ([]:Str) ([a,b]))])).bind λc=>r (c,(s.2+1))) (some (.nx s.1))
def adB n p1 k:=aL (GA n p1) k
def Gj(n:Nat)(x:List Af)(r:F15t)(s:Af×Int):Option (LR Af (PZ Val Unit)):=cond (decide (s.2<(x.length:Int))) ((idx x s.2).bind λa=>(app 56 s.1 ([(Val.mk 5 0 ([]:Str) a)])).bind λb=>r (b,(s.2+1))) (some (.nx s.1))
def adq n x25 k:=aL (Gj n x25) k
def Gv(n:Nat)(p:Val)(x:Val)(r:F15t)(s:Af×Int):Option (LR Af (PZ Val Unit)):=cond (decide (s.2<(p.kids.length:Int))) ((((idx p.kids s.2).bind λa=>(idx x.kids 1).bind λb=>(idx a.kids 0).bind λc=>(dY n b c).bind λd=>cond (d==0) ((idx x.kids 0).bind λe=>(idx a.kids 1).bind λf=>(app 56 s.1 ([(Val.mk 4 0 ([]:Str) ([e,f]))])).bind λg=>some g) (some s.1)):Option Af).bind λh=>r (h,(s.2+1))) (some (.nx s.1))
def abP n p2 x13 k:=aL (Gv n p2 x13) k
def GI(n:Nat)(p:Val)(b:Val)(e:F15t)(s:Af×Int):Option (LR Af (PZ Val Unit)):=cond (decide (s.2<(p.kids.length:Int))) ((idx p.kids s.2).bind λx=>(abP n b x n (s.1,0)).bind (LR.el (λa=>e (a,(s.2+1))) (λr=>some (.rt r)))) (some (.nx s.1))
def acY n p1 p2 k:=aL (GI n p1 p2) k
def Gt(n:Nat)(p:Val)(x:Val)(r:F15t)(s:Af×Int):Option (LR Af (PZ Val Unit)):=cond (decide (s.2<(p.kids.length:Int))) ((idx p.kids s.2).bind λa=>(app 56 s.1 ([(Val.mk 4 0 ([]:Str) ([x,a]))])).bind λb=>r (b,(s.2+1))) (some (.nx s.1))
def ab4 n p2 x7 k:=aL (Gt n p2 x7) k
def Gz(n:Nat)(p:Val)(a:Val)(e:F15t)(s:Af×Int):Option (LR Af (PZ Val Unit)):=cond (decide (s.2<(p.kids.length:Int))) ((idx p.kids s.2).bind λx=>(ab4 n a x n (s.1,0)).bind (LR.el (λb=>e (b,(s.2+1))) (λr=>some (.rt r)))) (some (.nx s.1))
def abg n p1 p2 k:=aL (Gz n p1 p2) k
def nH(n:Nat)(p:Val)(r:F15t)(s:Af×Int):Option (LR Af (PZ Val Unit)):=cond (decide (s.2<=p.n)) ((jK n s.2).bind (PZ.el (λx=>(app 56 s.1 ([x])).bind λa=>r (a,(IntKind.wrap .i64 (s.2+1)))) (λ(e:Int) _=>some (.rt (.er e ()))))) (some (.nx s.1))
def Rh n p2 k:=aL (nH n p2) k
def Tw(n:Nat)(a:Int)(p:Val)(b:Val):Option (PZ Val Unit):=((cond (a==30) (cond (decide (256<=(IntKind.wrap .i64 (b.n - p.n)))) (some (.rt (.er 11 ()))) ((Rh n b n (([]:Af),p.n)).bind (LR.el (λt=>some (.nx t)) (λr=>some (.rt r))))) (cond (a==31) ((qg n ([p.kids,b.kids])).bind λu=>some (.nx u)) (cond (a==32) ((Z8 n p.kids b.kids).bind λv=>some (.nx v)) (cond (a==33) ((aaB n p.kids b.kids).bind λw=>some (.nx w)) (cond (a==34) (cond (decide (256<(IntKind.wrap .i64 ((p.kids.length:Int)*(b.kids.length:Int))))) (some (.rt (.er 11 ()))) ((abg n p b n (([]:Af),0)).bind (LR.el (λy=>some (.nx y)) (λr=>some (.rt r))))) (cond (a==35) ((BH n b.kids).bind λx=>(aam n p.kids x).bind λc=>(qg n ([c,b.kids])).bind λd=>some (.nx d)) (cond (a==36) ((acY n p b n (([]:Af),0)).bind (LR.el (λz=>some (.nx z)) (λr=>some (.rt r)))) (cond (a==37) ((ZT n b.kids p.kids).bind λe=>some (.nx e)) (cond (a==38) ((aal n b.kids p.kids).bind λf=>some (.nx f)) (cond (a==39) ((XF n p.kids b.kids).bind λg=>some (.nx g)) (cond (a==40) ((WQ n p.kids b.kids).bind λh=>some (.nx h)) (cond (a==46) (cond (decide (8<(p.kids.length:Int))) (some (.rt (.er 11 ()))) ((Jh n p.kids).bind λi=>(adq n i n (([]:Af),0)).bind (LR.el (λs=>some (.nx s)) (λr=>some (.rt r))))) (cond (a==50) ((BH n p.kids).bind λj=>some (.nx j)) (cond (a==51) ((rz n p.kids).bind λk=>some (.nx k)) (cond (a==52) ((adB n p n (([]:Af),0)).bind (LR.el (λl=>some (.nx l)) (λr=>some (.rt r)))) (cond (a==53) ((VL n p.kids b.kids).bind λm=>(rz n m).bind λo=>some (.nx o)) ((D9 n a p.kids b.kids).bind (PZ.el (λq=>some (.nx q)) (λ(A:Int) _=>some (.rt (.er A ()))))))))))))))))))))):Option (LR Af (PZ Val Unit))).bind (LR.el (λB=>(Ab n B).bind (PZ.el (λC=>some (.ok C)) (λ(D:Int) _=>some (.er D ())))) (λr=>some r))
def oz(n:Nat)(p:Int)(a:Val)(b:Val):Option (PZ Val Unit):=cond (p==3) ((bN n (a.n==0)).bind λk=>some (.ok k)) (cond (p==7) ((bN n (a.n==b.n)).bind λl=>some (.ok l)) (cond (p==10) ((dY n a b).bind λm=>(bN n (m==0)).bind λo=>some (.ok o)) (cond (p==11) ((dY n a b).bind λq=>(bN n (q !=0)).bind λr=>some (.ok r)) (cond (p==12) ((bN n (decide (a.n<b.n))).bind λs=>some (.ok s)) (cond (p==13) ((bN n (decide (a.n<=b.n))).bind λt=>some (.ok t)) (cond (p==14) ((bN n (decide (b.n<a.n))).bind λu=>some (.ok u)) (cond (p==15) ((bN n (decide (b.n<=a.n))).bind λc=>some (.ok c)) (cond (p==27) (some (.ok (Val.mk 4 0 ([]:Str) ([a,b])))) (cond (p==54) ((aaq n a.kids b.kind b.n b.name b.kids).bind λx=>cond ((x.length:Int)!=1) (some (.er 10 ())) ((idx x 0).bind λd=>(idx d.kids 1).bind λe=>some (.ok e))) (cond (decide (p<=26)) ((JX n p a.n b.n).bind (PZ.el (λf=>some (.ok f)) (λ(v:Int) _=>some (.er v ())))) (cond (p==47) ((jK n (a.kids.length:Int)).bind (PZ.el (λg=>some (.ok g)) (λ(w:Int) _=>some (.er w ())))) (((cond (p==48) (some (p==48)) (some (p==49))):Ax).bind λy=>cond y (cond ((a.kids.length:Int)==0) (some (.er 10 ())) (cond (p==48) ((idx a.kids 0).bind λh=>some (.ok h)) ((idx a.kids ((a.kids.length:Int) - 1)).bind λi=>some (.ok i)))) ((Tw n p a b).bind (PZ.el (λj=>some (.ok j)) (λ(z:Int) _=>some (.er z ()))))))))))))))))
def rH(n:Nat)(g:F6t)(h:F3t)(i:F3t)(j:F7t)(k:F1t)(q:F1t)(l:F1t)(a:A7)(b:A4)(c:A2)(d:List (Str×Val))(e:At)(p:Tm):Option (PZ (Int×Str×Int×Int×Str×A3×Bi×Af×Af×At) At):=(yV n p.op).bind λm=>cond (!m) ((q a b c d e p).bind (PZ.el (λy=>none) (λ(o:Int) z=>some (.er o z)))) ((idx p.kids 0).bind λr=>(q a b c d e r).bind (PZ.el (λx=>cond (p.op==46) none ((idx p.kids 1).bind λs=>(q a b c d x.2 s).bind (PZ.el (λf=>some (.ok (p.op,p.name,p.n,p.ty.kind,p.ty.name,p.ty.kids,p.kids,x.1.kids,f.1.kids,f.2))) (λ(t:Int) u=>some (.er t u))))) (λ(v:Int) w=>some (.er v w))))
def q9(n:Nat)(f:F6t)(g:F3t)(h:F3t)(i:F7t)(j:F1t)(q:F1t)(k:F1t)(a:A7)(b:A4)(c:A2)(d:List (Str×Val))(e:At)(p:Tm):Option (PZ (Af×At) At):=(yV n p.op).bind λl=>cond (!l) ((q a b c d e p).bind (PZ.el (λw=>none) (λ(m:Int) z=>some (.er m z)))) ((idx p.kids 0).bind λo=>(q a b c d e o).bind (PZ.el (λx=>cond (p.op==46) (some (.ok (x.1.kids,x.2))) ((idx p.kids 1).bind λr=>(q a b c d x.2 r).bind (PZ.el (λy=>none) (λ(s:Int) t=>some (.er s t))))) (λ(u:Int) v=>some (.er u v))))
def rR(n:Nat)(f:F6t)(g:F3t)(h:F3t)(i:F7t)(j:F1t)(q:F1t)(k:F1t)(a:A7)(b:A4)(c:A2)(d:List (Str×Val))(e:At)(p:Tm):Option (PZ (Af×At) At):=(yV n p.op).bind λl=>cond (!l) ((q a b c d e p).bind (PZ.el (λx=>some (.ok (x.1.kids,x.2))) (λ(m:Int) z=>some (.er m z)))) ((idx p.kids 0).bind λo=>(q a b c d e o).bind (PZ.el (λr=>cond (p.op==46) none ((idx p.kids 1).bind λs=>(q a b c d r.2 s).bind (PZ.el (λy=>none) (λ(t:Int) u=>some (.er t u))))) (λ(v:Int) w=>some (.er v w))))
def pq(n:Nat)(f:F6t)(g:F3t)(h:F3t)(i:F7t)(j:F1t)(q:F1t)(k:F1t)(l:A7)(m:A4)(o:A2)(s:List (Str×Val))(t:Tm)(u:Int)(v:Str)(w:Int)(y:Int)(p:Str)(a:A3)(b:Bi)(c:Val×At)(r:(Int×Bool×Bool×At×Af)->Option (LR (Bool×Bool×At×Af) (PZ (At×Af×Bool×Bool) (At×Af))))(s1:Int×Bool×Bool×At×Af):Option (LR (Bool×Bool×At×Af) (PZ (At×Af×Bool×Bool) (At×Af))):=cond (decide (s1.1<(c.1.kids.length:Int))) ((idx c.1.kids s1.1).bind λd=>(idx s1.2.2.2.1 ((s1.2.2.2.1.length:Int) - 1)).bind λD=>(idx s1.2.2.2.1 ((s1.2.2.2.1.length:Int) - 1)).bind λz=>(idx t.kids 1).bind λA=>(q l m o s (upd s1.2.2.2.1 ((s1.2.2.2.1.length:Int) - 1) (Bound.mk z.name d)) A).bind (PZ.el (λe=>(tQ n d e.1 u v w y p a b s1.2.2.2.2 s1.2.1 s1.2.2.1).bind λx=>r ((s1.1+1),x.2.1,x.2.2,e.2,x.1)) (λ(B:Int) C=>some (.rt (.er B (C,s1.2.2.2.2)))))) (some (.nx (s1.2.1,s1.2.2.1,s1.2.2.2.1,s1.2.2.2.2)))
def BR(n:Nat)(q:F6t)(b:F3t)(a:F3t)(c:F7t)(d:F1t)(e:F1t)(f:F1t)(i:A7)(j:A4)(l:A2)(m:List (Str×Val))(o:Tm)(r:Int)(s:Str)(t:Int)(u:Int)(p:Str)(g:A3)(h:Bi)(x:Val×At)(k:Nat):(Int×Bool×Bool×At×Af)->Option (LR (Bool×Bool×At×Af) (PZ (At×Af×Bool×Bool) (At×Af))):=aL (pq n q b a c d e f i j l m o r s t u p g h x) k
def zu(n:Nat)(b:F6t)(a:F3t)(c:F3t)(d:F7t)(e:F1t)(q:F1t)(f:F1t)(m:A7)(o:A4)(t:A2)(u:List (Str×Val))(w:At)(g:Tm)(y:Int)(z:Str)(A:Int)(B:Int)(h:Str)(i:A3)(j:Bi)(p:Af)(k:Bool)(l:Bool):Option (PZ (At×Af×Bool×Bool) (At×Af)):=(idx g.kids 0).bind λC=>(q m o t u w C).bind (PZ.el (λx=>(app 72 x.2 ([(Bound.mk g.name (Val.mk 0 0 ([]:Str) ([])))])).bind λD=>(BR n b a c d e q f m o t u g y z A B h i j x n (0,k,l,D,p)).bind (LR.el (λs=>(FJ (List.length s.2.2.1) ((s.2.2.1.length:Int) - 1)).bind λv=>cond (Nat.ble v (List.length s.2.2.1)) (some (.ok ((List.take v s.2.2.1),s.2.2.2,s.1,s.2.1))) none) (λr=>some r))) (λ(E:Int) F=>some (.er E (F,p))))
def vT(n:Nat)(b:F6t)(a:F3t)(c:F3t)(q:F7t)(d:F1t)(e:F1t)(f:F1t)(g:A7)(h:A4)(i:A2)(j:List (Str×Val))(k:At)(p:Tm):Option (PZ (Val×At) At):=(some ():Option Unit).bind λt=>(q g h i j k p p.op p.name p.n p.ty.kind p.ty.name p.ty.kids p.kids ([]:Af) false true).bind (PZ.el (λx=>cond (p.op==8) ((bN n x.2.2.2).bind λl=>some (.ok (l,x.1))) (cond (p.op==9) ((bN n x.2.2.1).bind λm=>some (.ok (m,x.1))) ((Ab n x.2.1).bind (PZ.el (λo=>some (.ok (o,x.1))) (λ(r:Int) _=>some (.er r x.1)))))) (λ(s:Int) z=>some (.er s z.1)))
def gN(n:Nat)(d:F6t)(f:F3t)(g:F3t)(h:F7t)(i:F1t)(q:F1t)(j:F1t)(k:A7)(l:A4)(m:A2)(o:List (Str×Val))(p:Tm)(e:(Int×Int×Int×Str×Af×Int×Int×Str×Af×At)->Option (LR (Int×Int×Str×Af×Int×Int×Str×Af×At) (PZ (Val×At) At)))(s:Int×Int×Int×Str×Af×Int×Int×Str×Af×At):Option (LR (Int×Int×Str×Af×Int×Int×Str×Af×At) (PZ (Val×At) At)):=cond (decide (s.1<(p.kids.length:Int))) ((((idx p.kids s.1).bind λb=>(q k l m o s.2.2.2.2.2.2.2.2.2 b).bind (PZ.el (λx=>cond (s.1==0) (some (.nx (x.1.kind,x.1.n,x.1.name,x.1.kids,s.2.2.2.2.2.1,s.2.2.2.2.2.2.1,s.2.2.2.2.2.2.2.1,s.2.2.2.2.2.2.2.2.1,x.2))) (cond (s.1==1) (some (.nx (s.2.1,s.2.2.1,s.2.2.2.1,s.2.2.2.2.1,x.1.kind,x.1.n,x.1.name,x.1.kids,x.2))) none)) (λ(c:Int) z=>some (.rt (.er c z))))):Option (LR (Int×Int×Str×Af×Int×Int×Str×Af×At) (PZ (Val×At) At))).bind (LR.el (λa=>e ((s.1+1),a.1,a.2.1,a.2.2.1,a.2.2.2.1,a.2.2.2.2.1,a.2.2.2.2.2.1,a.2.2.2.2.2.2.1,a.2.2.2.2.2.2.2.1,a.2.2.2.2.2.2.2.2)) (λr=>some (.rt r)))) (some (.nx (s.2.1,s.2.2.1,s.2.2.2.1,s.2.2.2.2.1,s.2.2.2.2.2.1,s.2.2.2.2.2.2.1,s.2.2.2.2.2.2.2.1,s.2.2.2.2.2.2.2.2.1,s.2.2.2.2.2.2.2.2.2)))
def Kn(n:Nat)(q:F6t)(b:F3t)(a:F3t)(c:F7t)(d:F1t)(e:F1t)(f:F1t)(p:A7)(g:A4)(h:A2)(i:List (Str×Val))(j:Tm)(k:Nat):(Int×Int×Int×Str×Af×Int×Int×Str×Af×At)->Option (LR (Int×Int×Str×Af×Int×Int×Str×Af×At) (PZ (Val×At) At)):=aL (gN n q b a c d e f p g h i j) k
def oH(n:Nat)(c:F6t)(d:F3t)(f:F3t)(g:F7t)(h:F1t)(q:F1t)(i:F1t)(j:A7)(k:A4)(l:A2)(m:List (Str×Val))(p:Tm)(r:(Af×Int×At)->Option (LR (Af×At) (PZ (Val×At) At)))(s:Af×Int×At):Option (LR (Af×At) (PZ (Val×At) At)):=cond (decide (s.2.1<(p.kids.length:Int))) ((idx p.kids s.2.1).bind λa=>(q j k l m s.2.2 a).bind (PZ.el (λx=>(app 56 s.1 ([x.1])).bind λb=>r (b,(s.2.1+1),x.2)) (λ(e:Int) z=>some (.rt (.er e z))))) (some (.nx (s.1,s.2.2)))
def Ky(n:Nat)(q:F6t)(b:F3t)(a:F3t)(c:F7t)(d:F1t)(e:F1t)(f:F1t)(p:A7)(g:A4)(h:A2)(i:List (Str×Val))(j:Tm)(k:Nat):(Af×Int×At)->Option (LR (Af×At) (PZ (Val×At) At)):=aL (oH n q b a c d e f p g h i j) k
def sI(n:Nat)(q:F6t)(i:F3t)(j:F3t)(u:F7t)(l:F1t)(k:F1t)(m:F1t)(c:A7)(d:A4)(e:A2)(f:List (Str×Val))(g:At)(p:Tm):Option (PZ (Val×At) At):=((cond (p.op==1) (some (p.op==1)) (some (p.op==2))):Ax).bind λs1=>cond s1 ((bN n (p.op==1)).bind λx1=>some (.ok (x1,g))) (cond (p.op==19) ((jK n p.n).bind (PZ.el (λx2=>some (.ok (x2,g))) (λ(e1:Int) _=>some (.er e1 g)))) (cond (p.op==20) ((nY n c d e f g p.name).bind (PZ.el (λx3=>some (.ok (x3,g))) (λ(e2:Int) _=>some (.er e2 g)))) (cond (p.op==29) (some (.ok ((Val.mk 5 0 ([]:Str) ([])),g))) (((cond (p.op==4) (some (p.op==4)) (cond (p.op==5) (some (p.op==5)) (some (p.op==6)))):Ax).bind λs2=>cond s2 ((m c d e f g p).bind (PZ.el (λX=>some (.ok (X.1,X.2))) (λ(e3:Int) z3=>some (.er e3 z3)))) (((cond (p.op==8) (some (p.op==8)) (cond (p.op==9) (some (p.op==9)) (cond (p.op==55) (some (p.op==55)) (some (p.op==56))))):Ax).bind λs3=>cond s3 ((l c d e f g p).bind (PZ.el (λY=>some (.ok (Y.1,Y.2))) (λ(e4:Int) z4=>some (.er e4 z4)))) (((cond (p.op==16) (some (p.op==16)) (some (p.op==17))):Ax).bind λs4=>cond s4 ((idx p.kids 0).bind λx6=>(k c d e f g x6).bind (PZ.el (λo=>(idx p.kids 1).bind λt=>cond (decide (t.op<41) ||decide (46<t.op)) ((j c d e f o.2 t).bind (PZ.el (λZ=>(jM n o.1 Z.1).bind λz=>(bN n (z==(p.op==16))).bind λA=>some (.ok (A,Z.2))) (λ(e5:Int) z5=>some (.er e5 z5)))) (cond (t.op==46) ((i c d e f o.2 t).bind (PZ.el (λv=>(jP n o.1 v.1).bind λB=>(bN n (B==(p.op==16))).bind λC=>some (.ok (C,v.2))) (λ(e6:Int) z6=>some (.er e6 z6)))) ((q c d e f o.2 t).bind (PZ.el (λx=>(lF n o.1 x.1 x.2.1 x.2.2.1 x.2.2.2.1 x.2.2.2.2.1 x.2.2.2.2.2.1 x.2.2.2.2.2.2.1 x.2.2.2.2.2.2.2.1 x.2.2.2.2.2.2.2.2.1).bind λD=>(bN n (D==(p.op==16))).bind λE=>some (.ok (E,x.2.2.2.2.2.2.2.2.2))) (λ(e7:Int) z7=>some (.er e7 z7)))))) (λ(e8:Int) z8=>some (.er e8 z8)))) (cond (p.op==18) ((idx p.kids 0).bind λF=>(k c d e f g F).bind (PZ.el (λb=>(idx p.kids 1).bind λh=>cond (decide (h.op<41) ||decide (46<h.op)) ((j c d e f b.2 h).bind (PZ.el (λw=>(Gf n b.1.kids w.1).bind λG=>(bN n ((G.length:Int)==(b.1.kids.length:Int))).bind λH=>some (.ok (H,w.2))) (λ(e9:Int) z9=>some (.er e9 z9)))) (cond (h.op==46) ((i c d e f b.2 h).bind (PZ.el (λy=>(Gq n b.1.kids y.1).bind λI=>(bN n ((I.length:Int)==(b.1.kids.length:Int))).bind λJ=>some (.ok (J,y.2))) (λ(K:Int) L=>some (.er K L)))) ((q c d e f b.2 h).bind (PZ.el (λa=>(Gr n b.1.kids a.1 a.2.1 a.2.2.1 a.2.2.2.1 a.2.2.2.2.1 a.2.2.2.2.2.1 a.2.2.2.2.2.2.1 a.2.2.2.2.2.2.2.1 a.2.2.2.2.2.2.2.2.1).bind λM=>(bN n ((M.length:Int)==(b.1.kids.length:Int))).bind λN=>some (.ok (N,a.2.2.2.2.2.2.2.2.2))) (λ(O:Int) P=>some (.er O P)))))) (λ(Q:Int) R=>some (.er Q R)))) (cond (p.op==28) ((Ky n q i j u l k m c d e f p n (([]:Af),0,g)).bind (LR.el (λS=>(Ab n S.1).bind (PZ.el (λT=>some (.ok (T,S.2))) (λ(U:Int) _=>some (.er U S.2)))) (λr=>some r))) ((Kn n q i j u l k m c d e f p n (0,0,0,([]:Str),([]:Af),0,0,([]:Str),([]:Af),g)).bind (LR.el (λs=>(oz n p.op (Val.mk s.1 s.2.1 s.2.2.1 s.2.2.2.1) (Val.mk s.2.2.2.2.1 s.2.2.2.2.2.1 s.2.2.2.2.2.2.1 s.2.2.2.2.2.2.2.1)).bind (PZ.el (λV=>some (.ok (V,s.2.2.2.2.2.2.2.2))) (λ(W:Int) _=>some (.er W s.2.2.2.2.2.2.2.2)))) (λr=>some r)))))))))))
def tV(n:Nat)(f:F6t)(g:F3t)(h:F3t)(i:F7t)(j:F1t)(q:F1t)(k:F1t)(a:A7)(b:A4)(c:A2)(d:List (Str×Val))(l:At)(p:Tm):Option (PZ (Val×At) At):=(idx p.kids 0).bind λm=>(q a b c d l m).bind (PZ.el (λx=>((cond (p.op==4) (some (!(x.1.n==1))) (some false)):Ax).bind λo=>cond o ((bN n false).bind λr=>some (.ok (r,x.2))) (((((cond (p.op==5) (some (x.1.n==1)) (some false)):Ax).bind λs=>cond s (some s) (cond (p.op==6) (some (!(x.1.n==1))) (some false))):Ax).bind λt=>cond t ((bN n true).bind λu=>some (.ok (u,x.2))) ((idx p.kids 1).bind λv=>(q a b c d x.2 v).bind (PZ.el (λe=>some (.ok (e.1,e.2))) (λ(w:Int) z=>some (.er w z)))))) (λ(y:Int) A=>some (.er y A)))
mutual
def bJ:Nat→A7→A4→A2→(List (Str×Val))→At→Tm→Option (PZ (Int×Str×Int×Int×Str×A3×Bi×Af×Af×At) At)
 |0,_,_,_,_,_,_=>none
 |n+1,p0,p1,p2,p3,p4,p5=>rH n (bJ n) (bK n) (bI n) (dw n) (dJ n) (aM n) (dD n) p0 p1 p2 p3 p4 p5
def bK:Nat→A7→A4→A2→(List (Str×Val))→At→Tm→Option (PZ (Af×At) At)
 |0,_,_,_,_,_,_=>none
 |n+1,p0,p1,p2,p3,p4,p5=>q9 n (bJ n) (bK n) (bI n) (dw n) (dJ n) (aM n) (dD n) p0 p1 p2 p3 p4 p5
def bI:Nat→A7→A4→A2→(List (Str×Val))→At→Tm→Option (PZ (Af×At) At)
 |0,_,_,_,_,_,_=>none
 |n+1,p0,p1,p2,p3,p4,p5=>rR n (bJ n) (bK n) (bI n) (dw n) (dJ n) (aM n) (dD n) p0 p1 p2 p3 p4 p5
def dw:Nat→A7→A4→A2→(List (Str×Val))→At→Tm→Int→Str→Int→Int→Str→A3→Bi→Af→Bool→Bool→Option (PZ (At×Af×Bool×Bool) (At×Af))
 |0,_,_,_,_,_,_,_,_,_,_,_,_,_,_,_,_=>none
 |n+1,p0,p1,p2,p3,p4,p5,p6,p7,p8,p9,p10,p11,p12,p13,p14,p15=>zu n (bJ n) (bK n) (bI n) (dw n) (dJ n) (aM n) (dD n) p0 p1 p2 p3 p4 p5 p6 p7 p8 p9 p10 p11 p12 p13 p14 p15
def dJ:Nat→A7→A4→A2→(List (Str×Val))→At→Tm→Option (PZ (Val×At) At)
 |0,_,_,_,_,_,_=>none
 |n+1,p0,p1,p2,p3,p4,p5=>vT n (bJ n) (bK n) (bI n) (dw n) (dJ n) (aM n) (dD n) p0 p1 p2 p3 p4 p5
def aM:Nat→A7→A4→A2→(List (Str×Val))→At→Tm→Option (PZ (Val×At) At)
 |0,_,_,_,_,_,_=>none
 |n+1,p0,p1,p2,p3,p4,p5=>sI n (bJ n) (bK n) (bI n) (dw n) (dJ n) (aM n) (dD n) p0 p1 p2 p3 p4 p5
def dD:Nat→A7→A4→A2→(List (Str×Val))→At→Tm→Option (PZ (Val×At) At)
 |0,_,_,_,_,_,_=>none
 |n+1,p0,p1,p2,p3,p4,p5=>tV n (bJ n) (bK n) (bI n) (dw n) (dJ n) (aM n) (dD n) p0 p1 p2 p3 p4 p5
end
def rW(n:Nat)(a:A7)(b:A4)(d:A2)(f:List (Str×Val))(p:At)(g:Tm):Option (Val×Int×At):=(aM n a b d f p g).bind (PZ.el (λx=>some (x.1,0,x.2)) (λe z=>bif decide ((0:Int)<=e)&&decide (e<=1000)then((FJ (List.length z) (List.length p:Int)).bind λc=>bif Nat.ble c (List.length z)then some (Val.mk 0 0 ([]:Str) [],e,List.take c z)else none)else none))
def Cg(n:Nat)(q:F16t)(x:Af)(r:(Int×Af)->Option (LR Af Val))(s1:Int×Af):Option (LR Af Val):=cond (decide (s1.1<(x.length:Int))) ((idx s1.2 s1.1).bind λc=>(idx s1.2 s1.1).bind λa=>(q a).bind λb=>(idx s1.2 s1.1).bind λd=>(idx s1.2 s1.1).bind λe=>r ((s1.1+1),(upd s1.2 s1.1 b))) (some (.nx s1.2))
def Ep(n:Nat)(q:F16t)(x:Af)(k:Nat):(Int×Af)->Option (LR Af Val):=aL (Cg n q x) k
def Hl(n:Nat)(q:F16t)(p:Val):Cf:=(Df n p.kids).bind λx=>(yA n x).bind λa=>(Ep n q x n (0,x)).bind (LR.el (λs=>some (Val.mk p.kind p.n p.name s)) (λr=>some r))
def uE:Nat->Val->Cf|0,_=>none|n+1,p=>Hl n (uE n) p
def mU(n:Nat)(p:S_api_World)(a:Tm):Option (Val×Int):=(((wP n p).bind λd=>cond (!d) (some true) ((J7 n a).bind λe=>some (!e))):Ax).bind λs=>cond s (some ((Val.mk 0 0 ([]:Str) ([])),1)) ((A8 n p.env a).bind λb=>cond (b.2.2 !=0) (some ((Val.mk 0 0 ([]:Str) ([])),b.2.2)) ((Mt n p).bind λx=>(rW n x.1 x.2.1 x.2.2.1 x.2.2.2.1 x.2.2.2.2 a).bind λc=>(uE n c.1).bind λf=>some (f,c.2.1)))
def agy(n:Nat)(q:F44t)(p:Ty)(r:F2t)(s1:Int):Option (LR Unit Bool):=cond (decide (s1<(p.kids.length:Int))) ((idx p.kids s1).bind λx=>(q x).bind λa=>cond a (some (.rt true)) (r (s1+1))) (some (.nx ()))
def TG(n:Nat)(q:F44t)(p:Ty)(k:Nat):Int->Option (LR Unit Bool):=aL (agy n q p) k
def Fj(n:Nat)(q:F44t)(p:Ty):Ax:=cond (p.kind==2) (some true) ((TG n q p n 0).bind (LR.el (λs=>some false) (λr=>some r)))
def uV:Nat->Ty->Ax|0,_=>none|n+1,p=>Fj n (uV n) p
def ahU(n:Nat)(q:F45t)(p:Ty)(r:F24t)(s1:Bk×Int):Option (LR Bk Bk):=cond (decide (s1.2<(p.kids.length:Int))) ((idx p.kids s1.2).bind λx=>(q x).bind λa=>(app 16 s1.1 a).bind λb=>r (b,(s1.2+1))) (some (.nx s1.1))
def WV(n:Nat)(q:F45t)(p:Ty)(k:Nat):(Bk×Int)->Option (LR Bk Bk):=aL (ahU n q p) k
def Ht(n:Nat)(q:F45t)(p:Ty):Option Bk:=cond (p.kind==3) (some ([p.name])) ((WV n q p n (([]:Bk),0)).bind (LR.el (λs=>some s) (λr=>some r)))
def BI:Nat->Ty->Option Bk|0,_=>none|n+1,p=>Ht n (BI n) p
def abB(n:Nat)(p:Env)(a:Str)(r:F5t)(s1:Int):Option (LR Unit Int):=cond (decide (s1<(p.carriers.length:Int))) ((idx p.carriers s1).bind λx=>cond (x.name==a) (some (.rt s1)) (r (s1+1))) (some (.nx ()))
def OZ(n:Nat)(p:Env)(a:Str)(k:Nat):Int->Option (LR Unit Int):=aL (abB n p a) k
def nT(n:Nat)(p:Env)(a:Str):B0:=(OZ n p a n 0).bind (LR.el (λs=>some (-1)) (λr=>some r))
def ap0(n:Nat)(p:Env)(x:Bk)(r:F2t)(s1:Int):Option (LR Unit Bool):=cond (decide (s1<(x.length:Int))) ((idx x s1).bind λa=>(nT n p a).bind λb=>cond (decide (b<0)) (some (.rt false)) (r (s1+1))) (some (.nx ()))
def afP(n:Nat)(p:Env)(x:Bk)(k:Nat):Int->Option (LR Unit Bool):=aL (ap0 n p x) k
def K5(n:Nat)(p:Env)(a:Ty):Ax:=(BI n a).bind λx=>(afP n p x n 0).bind (LR.el (λs=>some true) (λr=>some r))
def ajE(n:Nat)(p:Env)(r:F24t)(s1:Bk×Int):Option (LR Bk Bk):=cond (decide (s1.2<(p.carriers.length:Int))) ((idx p.carriers s1.2).bind λx=>(app 16 s1.1 ([x.name])).bind λa=>r (a,(s1.2+1))) (some (.nx s1.1))
def WT(n:Nat)(p:Env)(k:Nat):(Bk×Int)->Option (LR Bk Bk):=aL (ajE n p) k
def ahV(n:Nat)(p:Env)(r:F24t)(s:Bk×Int):Option (LR Bk Bk):=cond (decide (s.2<(p.carriers.length:Int))) ((idx p.carriers s.2).bind λx=>(app 16 s.1 x.elems).bind λa=>r (a,(s.2+1))) (some (.nx s.1))
def VO(n:Nat)(p:Env)(k:Nat):(Bk×Int)->Option (LR Bk Bk):=aL (ahV n p) k
def aiF(n:Nat)(p:Env)(r:F24t)(s:Bk×Int):Option (LR Bk Bk):=cond (decide (s.2<(p.names.length:Int))) ((idx p.names s.2).bind λx=>(app 16 s.1 ([x.name])).bind λa=>r (a,(s.2+1))) (some (.nx s.1))
def XO(n:Nat)(p:Env)(k:Nat):(Bk×Int)->Option (LR Bk Bk):=aL (aiF n p) k
def ME(n:Nat)(p:Env):Option Bk:=(WT n p n (([]:Bk),0)).bind (LR.el (λs=>(VO n p n (s,0)).bind (LR.el (λa=>(XO n p n (a,0)).bind (LR.el (λb=>some b) (λr=>some r))) (λr=>some r))) (λr=>some r))
def ajG(n:Nat)(x:Carrier)(r:F2t)(s:Int):Option (LR Unit Bool):=cond (decide (s<(x.elems.length:Int))) ((idx x.elems s).bind λa=>(jk n a).bind λb=>cond (!b) (some (.rt false)) (r (s+1))) (some (.nx ()))
def EB(n:Nat)(x:Carrier)(k:Nat):Int->Option (LR Unit Bool):=aL (ajG n x) k
def ahR(n:Nat)(p:Env)(e:F2t)(s:Int):Option (LR Unit Bool):=cond (decide (s<(p.carriers.length:Int))) ((idx p.carriers s).bind λx=>(((jk n x.name).bind λa=>cond (!a) (some true) (some (decide (8<(x.elems.length:Int))))):Ax).bind λb=>cond b (some (.rt false)) ((EB n x n 0).bind (LR.el (λc=>e (s+1)) (λr=>some (.rt r))))) (some (.nx ()))
def VH(n:Nat)(p:Env)(k:Nat):Int->Option (LR Unit Bool):=aL (ahR n p) k
def ahL(n:Nat)(p:Env)(r:F2t)(s:Int):Option (LR Unit Bool):=cond (decide (s<(p.names.length:Int))) ((idx p.names s).bind λx=>(((KN n x.name).bind λa=>cond (!a) (some true) ((uS n x.ty).bind λb=>cond (!b) (some true) ((uV n x.ty).bind λc=>cond c (some true) ((K5 n p x.ty).bind λd=>some (!d))))):Ax).bind λe=>cond e (some (.rt false)) (r (s+1))) (some (.nx ()))
def WH(n:Nat)(p:Env)(k:Nat):Int->Option (LR Unit Bool):=aL (ahL n p) k
def akH(n:Nat)(x:Bk)(r:F2t)(s:Int):Option (LR Unit Bool):=cond (decide (s<(x.length:Int))) ((idx x s).bind λa=>(kQ x 0 s).bind λb=>(Mi n a b).bind λc=>cond c (some (.rt false)) (r (s+1))) (some (.nx ()))
def Ma(n:Nat)(x:Bk)(k:Nat):Int->Option (LR Unit Bool):=aL (akH n x) k
def BG(n:Nat)(p:Env):Ax:=((cond (decide (8<(p.carriers.length:Int))) (some true) (some (decide (64<(p.names.length:Int))))):Ax).bind λs=>cond s (some false) ((VH n p n 0).bind (LR.el (λa=>(WH n p n 0).bind (LR.el (λb=>(ME n p).bind λx=>(Ma n x n 0).bind (LR.el (λc=>some true) (λr=>some r))) (λr=>some r))) (λr=>some r)))
def Me(n:Nat)(a:Env)(p:A2)(r:F2t)(s1:Int):Option (LR Unit Bool):=cond (decide (s1<(p.length:Int))) ((idx a.carriers s1).bind λx=>(((idx p s1).bind λb=>cond (decide (b<1)) (some true) ((idx p s1).bind λc=>cond (decide (8<c)) (some true) (cond (decide (0<(x.elems.length:Int))) ((idx p s1).bind λd=>some (d !=(x.elems.length:Int))) (some false)))):Ax).bind λs=>cond s (some (.rt false)) (r (s1+1))) (some (.nx ()))
def Pk(n:Nat)(p:Env)(a:A2)(k:Nat):Int->Option (LR Unit Bool):=aL (Me n p a) k
def VG(n:Nat)(p:Env)(a:A2):Ax:=cond ((a.length:Int)!=(p.carriers.length:Int)) (some false) ((Pk n p a n 0).bind (LR.el (λs=>some true) (λr=>some r)))
def LM(n:Nat)(p:Int)(a:Int):B0:=cond (decide (p<a)) (some (-1)) (cond (decide (a<p)) (some 1) (some 0))
def yL(n:Nat)(q:F11t)(p:Val)(a:Val)(r:F5t)(s1:Int):Option (LR Unit Int):=((cond (decide (s1<(p.kids.length:Int))) (some (decide (s1<(a.kids.length:Int)))) (some false)):Ax).bind λs=>cond s ((idx p.kids s1).bind λb=>(idx a.kids s1).bind λc=>(q b c).bind λx=>cond (x !=0) (some (.rt x)) (r (IntKind.wrap .i64 (s1+1)))) (some (.nx ()))
def GD(n:Nat)(q:F11t)(p:Val)(a:Val)(k:Nat):Int->Option (LR Unit Int):=aL (yL n q p a) k
def Jd(n:Nat)(q:F11t)(p0:Val)(p:Val):B0:=cond (p0.kind !=p.kind) ((LM n p0.kind p.kind).bind λx=>some x) (cond (p0.n !=p.n) ((LM n p0.n p.n).bind λa=>some a) (cond (Op.bytesLess p0.name p.name) (some (-1)) (cond (!(Op.bytesLess p0.name p.name ||p0.name==p.name)) (some 1) ((GD n q p0 p n 0).bind (LR.el (λs=>(LM n (p0.kids.length:Int) (p.kids.length:Int)).bind λb=>some b) (λr=>some r))))))
def nI:Nat->Val->Val->B0|0,_,_=>none|n+1,p,a=>Jd n (nI n) p a
def DW(n:Nat)(q:F10t)(e:Env)(f:A2)(p:Val)(g:Ty)(r:F2t)(s:Int):Option (LR Unit Bool):=cond (decide (s<(p.kids.length:Int))) ((((idx p.kids s).bind λh=>(idx g.kids 0).bind λx=>(q e f h x).bind λa=>cond (!a) (some true) (cond (decide (0<s)) ((idx p.kids (IntKind.wrap .i64 (s - 1))).bind λb=>(idx p.kids s).bind λc=>(nI n b c).bind λd=>some (decide (0<=d))) (some false))):Ax).bind λi=>cond i (some (.rt false)) (r (s+1))) (some (.nx ()))
def Dx(n:Nat)(q:F10t)(p:Env)(a:A2)(b:Val)(c:Ty)(k:Nat):Int->Option (LR Unit Bool):=aL (DW n q p a b c) k
def nA(n:Nat)(q:F10t)(b:Env)(c:A2)(p:Val)(a:Ty):Ax:=cond (a.kind==1) (((cond (p.kind==1) (cond (p.name==([]:Str)) (cond ((p.kids.length:Int)==0) (cond (decide ((-1000000000)<=p.n)) (some (decide (p.n<=1000000000))) (some false)) (some false)) (some false)) (some false)):Ax).bind λs=>some s) (cond (a.kind==2) (((cond (p.kind==2) (cond (p.name==([]:Str)) (cond ((p.kids.length:Int)==0) (cond (p.n==0) (some true) (some (p.n==1))) (some false)) (some false)) (some false)):Ax).bind λd=>some d) (cond (a.kind==3) (((cond (p.kind==3) (cond (p.name==a.name) (cond ((p.kids.length:Int)==0) (cond (decide (0<=p.n)) ((nT n b a.name).bind λx=>(idx c x).bind λe=>some (decide (p.n<e))) (some false)) (some false)) (some false)) (some false)):Ax).bind λf=>some f) (cond (a.kind==4) (((cond (p.kind==4) (cond (p.n==0) (cond (p.name==([]:Str)) (cond ((p.kids.length:Int)==2) ((idx p.kids 0).bind λg=>(idx a.kids 0).bind λh=>(q b c g h).bind λi=>cond i ((idx p.kids 1).bind λj=>(idx a.kids 1).bind λk=>(q b c j k).bind λl=>some l) (some false)) (some false)) (some false)) (some false)) (some false)):Ax).bind λm=>some m) (((cond (p.kind !=5) (some true) (cond (p.n !=0) (some true) (cond (!(p.name==([]:Str))) (some true) (some (decide (256<(p.kids.length:Int))))))):Ax).bind λo=>cond o (some false) ((Dx n q b c p a n 0).bind (LR.el (λt=>some true) (λr=>some r)))))))
def wU:Nat->Env->A2->Val->Ty->Ax|0,_,_,_,_=>none|n+1,p,a,b,c=>nA n (wU n) p a b c
def aeU(n:Nat)(p:S_api_World)(r:F2t)(s:Int):Option (LR Unit Bool):=cond (decide (s<(p.values.length:Int))) ((idx p.values s).bind λx=>(idx p.env.names s).bind λa=>(wU n p.env p.sizes x a.ty).bind λb=>cond (!b) (some (.rt false)) (r (s+1))) (some (.nx ()))
def HV(n:Nat)(p:S_api_World)(k:Nat):Int->Option (LR Unit Bool):=aL (aeU n p) k
def AO(n:Nat)(p:S_api_World):Ax:=(((BG n p.env).bind λx=>cond (!x) (some true) ((VG n p.env p.sizes).bind λa=>cond (!a) (some true) (some ((p.values.length:Int)!=(p.env.names.length:Int))))):Ax).bind λs=>cond s (some false) ((HV n p n 0).bind (LR.el (λb=>some true) (λr=>some r)))
def aix(n:Nat)(p:Env)(a:Str)(r:F5t)(s1:Int):Option (LR Unit Int):=cond (decide (s1<(p.names.length:Int))) ((idx p.names s1).bind λx=>cond (x.name==a) (some (.rt s1)) (r (s1+1))) (some (.nx ()))
def VY(n:Nat)(p:Env)(a:Str)(k:Nat):Int->Option (LR Unit Int):=aL (aix n p a) k
def FU(n:Nat)(p:Env)(a:Str):B0:=(VY n p a n 0).bind (LR.el (λs=>some (-1)) (λr=>some r))
def awu(n:Nat)(p:Str):B7:=some (Ty.mk 3 p ([]))
def aGX(n:Nat)(p:Ty):B7:=some (Ty.mk 5 ([]:Str) ([p]))
def adv(n:Nat)(p:Env)(a:Str)(s1:Int)(r:F51t)(s:Int):Option (LR Unit (Int×Int)):=(idx p.carriers s1).bind λx=>cond (decide (s<(x.elems.length:Int))) ((idx p.carriers s1).bind λb=>(idx b.elems s).bind λc=>cond (c==a) (some (.rt (s1,s))) (r (s+1))) (some (.nx ()))
def sZ(n:Nat)(p:Env)(a:Str)(s1:Int)(k:Nat):Int->Option (LR Unit (Int×Int)):=aL (adv n p a s1) k
def abv(n:Nat)(p:Env)(a:Str)(e:F51t)(s1:Int):Option (LR Unit (Int×Int)):=cond (decide (s1<(p.carriers.length:Int))) ((sZ n p a s1 n 0).bind (LR.el (λs=>e (s1+1)) (λr=>some (.rt r)))) (some (.nx ()))
def OX(n:Nat)(p:Env)(a:Str)(k:Nat):Int->Option (LR Unit (Int×Int)):=aL (abv n p a) k
def uJ(n:Nat)(p:Env)(a:Str):Option (Int×Int):=(OX n p a n 0).bind (LR.el (λs=>some ((-1),(-1))) (λr=>some r))
def Lu(n:Nat)(p:A4)(a:Str)(r:Int->Option (LR Unit (Ty×Bool)))(s1:Int):Option (LR Unit (Ty×Bool)):=cond (decide (0<=s1)) ((idx p s1).bind λx=>cond (x.name==a) ((idx p s1).bind λb=>some (.rt (b.ty,true))) (r (IntKind.wrap .i64 (s1 - 1)))) (some (.nx ()))
def AY(n:Nat)(p:A4)(a:Str)(k:Nat):Int->Option (LR Unit (Ty×Bool)):=aL (Lu n p a) k
def Jc(n:Nat)(p:Env)(b:A4)(a:Str):Option (Ty×Bool):=(AY n b a n ((b.length:Int) - 1)).bind (LR.el (λs=>(FU n p a).bind λx=>cond (decide (0<=x)) ((idx p.names x).bind λd=>some (d.ty,true)) ((nT n p a).bind λe=>cond (decide (0<=e)) (some ((Ty.mk 5 ([]:Str) ([(Ty.mk 3 a ([]))])),true)) ((uJ n p a).bind λc=>cond (decide (0<=c.1)) ((idx p.carriers c.1).bind λf=>some ((Ty.mk 3 f.name ([])),true)) (some ((Ty.mk 0 ([]:Str) ([])),false))))) (λr=>some r))
def nM(n:Nat)(p:Ty):Ax:=((cond (p.kind==5) ((idx p.kids 0).bind λx=>some (x.kind !=2)) (some false)):Ax).bind λs=>some s
def aG8(n:Nat):B7:=some (Ty.mk 1 ([]:Str) ([]))
def ahQ(n:Nat)(q:F12t)(p:Ty)(a:Ty)(r:F2t)(s:Int):Option (LR Unit Bool):=cond (decide (s<(p.kids.length:Int))) ((idx p.kids s).bind λx=>(idx a.kids s).bind λb=>(q x b).bind λc=>cond (!c) (some (.rt false)) (r (s+1))) (some (.nx ()))
def KO(n:Nat)(q:F12t)(p:Ty)(a:Ty)(k:Nat):Int->Option (LR Unit Bool):=aL (ahQ n q p a) k
def uO(n:Nat)(q:F12t)(p:Ty)(a:Ty):Ax:=((cond (p.kind !=a.kind) (some true) (cond (!(p.name==a.name)) (some true) (some ((p.kids.length:Int)!=(a.kids.length:Int))))):Ax).bind λs=>cond s (some false) ((KO n q p a n 0).bind (LR.el (λb=>some true) (λr=>some r)))
def fA:Nat->Ty->Ty->Ax|0,_,_=>none|n+1,p,a=>uO n (fA n) p a
def axZ(n:Nat)(p:A3)(a:Ty)(r:F2t)(s1:Int):Option (LR Unit Bool):=cond (decide (s1<(p.length:Int))) ((idx p s1).bind λx=>(fA n x a).bind λb=>cond (!b) (some (.rt false)) (r (s1+1))) (some (.nx ()))
def anN(n:Nat)(p:A3)(a:Ty)(k:Nat):Int->Option (LR Unit Bool):=aL (axZ n p a) k
def Oc(n:Nat)(p:A3)(a:Ty):Ax:=(anN n p a n 0).bind (LR.el (λs=>some true) (λr=>some r))
def aEY(n:Nat)(p:Ty)(a:Ty):B7:=some (Ty.mk 4 ([]:Str) ([p,a]))
def aEf(n:Nat):B7:=some (Ty.mk 2 ([]:Str) ([]))
def asl(n:Nat)(p:Int)(a:A3):Option (Ty×Bool):=((cond (p==1) (some (p==1)) (some (p==2))):Ax).bind λj=>cond j (some ((Ty.mk 2 ([]:Str) ([])),true)) (((cond (p==3) (some (p==3)) (cond (p==4) (some (p==4)) (cond (p==5) (some (p==5)) (cond (p==6) (some (p==6)) (some (p==7)))))):Ax).bind λk=>cond k ((Oc n a (Ty.mk 2 ([]:Str) ([]))).bind λl=>some ((Ty.mk 2 ([]:Str) ([])),l)) (((cond (p==8) (some (p==8)) (some (p==9))):Ax).bind λm=>cond m ((((idx a 0).bind λo=>(nM n o).bind λq=>cond q ((idx a 1).bind λr=>some (r.kind==2)) (some false)):Ax).bind λt=>some ((Ty.mk 2 ([]:Str) ([])),t)) (((cond (p==10) (some (p==10)) (some (p==11))):Ax).bind λu=>cond u ((((idx a 0).bind λv=>cond (v.kind !=2) ((idx a 0).bind λw=>(idx a 1).bind λy=>(fA n w y).bind λz=>some z) (some false)):Ax).bind λA=>some ((Ty.mk 2 ([]:Str) ([])),A)) (((cond (p==12) (some (p==12)) (cond (p==13) (some (p==13)) (cond (p==14) (some (p==14)) (some (p==15))))):Ax).bind λB=>cond B ((Oc n a (Ty.mk 1 ([]:Str) ([]))).bind λC=>some ((Ty.mk 2 ([]:Str) ([])),C)) (((cond (p==16) (some (p==16)) (some (p==17))):Ax).bind λD=>cond D ((((idx a 0).bind λx=>cond (x.kind !=2) ((idx a 0).bind λb=>(idx a 1).bind λc=>(fA n (Ty.mk 5 ([]:Str) ([b])) c).bind λd=>some d) (some false)):Ax).bind λE=>some ((Ty.mk 2 ([]:Str) ([])),E)) (cond (p==18) ((((idx a 0).bind λe=>(nM n e).bind λf=>cond f ((idx a 0).bind λg=>(idx a 1).bind λh=>(fA n g h).bind λi=>some i) (some false)):Ax).bind λs=>some ((Ty.mk 2 ([]:Str) ([])),s)) (some ((Ty.mk 0 ([]:Str) ([])),false))))))))
def QI(n:Nat)(p:Ty):Ax:=((cond (p.kind==5) ((idx p.kids 0).bind λx=>some (x.kind==4)) (some false)):Ax).bind λs=>some s
def zJ(n:Nat)(p:Ty):B7:=(idx p.kids 0).bind λx=>(idx x.kids 1).bind λa=>some a
def DK(n:Nat)(p:Ty):B7:=(idx p.kids 0).bind λx=>(idx x.kids 0).bind λa=>some a
def afS(n:Nat)(p:Int)(a:A3):Option (Ty×Bool):=(idx a 0).bind λb=>((((cond (p==37) (some true) (some (p==38))):Ax).bind λC=>cond C ((idx a 1).bind λx=>some (x.kind,x.name,x.kids)) (some (b.kind,b.name,b.kids))):Option (Int×Str×A3)).bind λs=>(QI n (Ty.mk s.1 s.2.1 s.2.2)).bind λD=>cond (!D) (some ((Ty.mk 0 ([]:Str) ([])),false)) (cond (p==35) ((idx a 1).bind λE=>(fA n (Ty.mk s.1 s.2.1 s.2.2) E).bind λF=>some ((Ty.mk s.1 s.2.1 s.2.2),F)) (cond (p==36) ((((idx a 1).bind λG=>(QI n G).bind λH=>cond (!H) (some true) ((zJ n (Ty.mk s.1 s.2.1 s.2.2)).bind λc=>(idx a 1).bind λd=>(DK n d).bind λe=>(fA n c e).bind λf=>some (!f))):Ax).bind λI=>cond I (some ((Ty.mk 0 ([]:Str) ([])),false)) ((DK n (Ty.mk s.1 s.2.1 s.2.2)).bind λJ=>(idx a 1).bind λK=>(zJ n K).bind λL=>some ((Ty.mk 5 ([]:Str) ([(Ty.mk 4 ([]:Str) ([J,L]))])),true))) (((cond (p==37) (some (p==37)) (some (p==38))):Ax).bind λM=>cond M ((idx a 0).bind λg=>(DK n (Ty.mk s.1 s.2.1 s.2.2)).bind λh=>(fA n g (Ty.mk 5 ([]:Str) ([h]))).bind λi=>some ((Ty.mk s.1 s.2.1 s.2.2),i)) (((cond (p==39) (some (p==39)) (some (p==40))):Ax).bind λN=>cond N ((idx a 1).bind λj=>(zJ n (Ty.mk s.1 s.2.1 s.2.2)).bind λk=>(fA n j (Ty.mk 5 ([]:Str) ([k]))).bind λl=>some ((Ty.mk s.1 s.2.1 s.2.2),l)) (cond (p==50) ((DK n (Ty.mk s.1 s.2.1 s.2.2)).bind λm=>some ((Ty.mk 5 ([]:Str) ([m])),true)) (cond (p==51) ((zJ n (Ty.mk s.1 s.2.1 s.2.2)).bind λo=>some ((Ty.mk 5 ([]:Str) ([o])),true)) (cond (p==52) ((zJ n (Ty.mk s.1 s.2.1 s.2.2)).bind λq=>(DK n (Ty.mk s.1 s.2.1 s.2.2)).bind λr=>some ((Ty.mk 5 ([]:Str) ([(Ty.mk 4 ([]:Str) ([q,r]))])),true)) (cond (p==53) ((zJ n (Ty.mk s.1 s.2.1 s.2.2)).bind λt=>(idx a 1).bind λu=>(DK n (Ty.mk s.1 s.2.1 s.2.2)).bind λv=>(fA n u (Ty.mk 5 ([]:Str) ([v]))).bind λw=>some ((Ty.mk 5 ([]:Str) ([t])),w)) (cond (p==54) ((zJ n (Ty.mk s.1 s.2.1 s.2.2)).bind λy=>(idx a 1).bind λz=>(DK n (Ty.mk s.1 s.2.1 s.2.2)).bind λA=>(fA n z A).bind λB=>some (y,B)) (some ((Ty.mk 0 ([]:Str) ([])),false)))))))))))
def tJ(n:Nat)(p:Tm)(a:A3):Option (Ty×Bool):=cond (p.op==19) (some ((Ty.mk 1 ([]:Str) ([])),true)) (((cond (p.op==21) (some (p.op==21)) (cond (p.op==22) (some (p.op==22)) (cond (p.op==23) (some (p.op==23)) (cond (p.op==24) (some (p.op==24)) (cond (p.op==25) (some (p.op==25)) (some (p.op==26))))))):Ax).bind λU=>cond U ((Oc n a (Ty.mk 1 ([]:Str) ([]))).bind λV=>some ((Ty.mk 1 ([]:Str) ([])),V)) (cond (p.op==27) ((((idx a 0).bind λP=>(idx a 1).bind λQ=>(idx a 0).bind λW=>cond (W.kind !=2) ((idx a 1).bind λX=>some ((X.kind !=2),([P,Q]))) (some (false,([P,Q])))):Option (Bool×A3)).bind λR=>some ((Ty.mk 4 ([]:Str) R.2),R.1)) (cond (p.op==28) ((((idx a 0).bind λS=>(idx a 0).bind λY=>cond (Y.kind !=2) ((idx a 0).bind λZ=>(Oc n a Z).bind λx9=>some (x9,([S]))) (some (false,([S])))):Option (Bool×A3)).bind λT=>some ((Ty.mk 5 ([]:Str) T.2),T.1)) (cond (p.op==29) (some ((Ty.mk 5 ([]:Str) ([p.ty])),true)) (cond (p.op==30) ((Oc n a (Ty.mk 1 ([]:Str) ([]))).bind λh=>some ((Ty.mk 5 ([]:Str) ([(Ty.mk 1 ([]:Str) ([]))])),h)) (cond (p.op==55) ((((idx a 0).bind λx=>(idx a 0).bind λi=>(nM n i).bind λj=>cond j ((idx a 1).bind λk=>some ((k.kind==2),x.kind,x.name,x.kids)) (some (false,x.kind,x.name,x.kids))):Option (Bool×Int×Str×A3)).bind λs=>some ((Ty.mk s.2.1 s.2.2.1 s.2.2.2),s.1)) (cond (p.op==56) ((((idx a 0).bind λl=>(nM n l).bind λm=>cond (!m) (some true) ((idx a 1).bind λo=>some (o.kind==2))):Ax).bind λs5=>cond s5 (some ((Ty.mk 0 ([]:Str) ([])),false)) ((idx a 0).bind λq=>(idx q.kids 0).bind λr=>(idx a 1).bind λt=>some ((Ty.mk 5 ([]:Str) ([(Ty.mk 4 ([]:Str) ([r,t]))])),true))) (cond (p.op==47) ((idx a 0).bind λu=>(nM n u).bind λv=>some ((Ty.mk 1 ([]:Str) ([])),v)) (((cond (p.op==48) (some (p.op==48)) (some (p.op==49))):Ax).bind λs6=>cond s6 ((idx a 0).bind λw=>(fA n w (Ty.mk 5 ([]:Str) ([(Ty.mk 1 ([]:Str) ([]))]))).bind λy=>some ((Ty.mk 1 ([]:Str) ([])),y)) (cond (p.op==46) ((idx a 0).bind λz=>(idx a 0).bind λA=>(nM n A).bind λB=>some ((Ty.mk 5 ([]:Str) ([z])),B)) (((cond (p.op==31) (some (p.op==31)) (cond (p.op==32) (some (p.op==32)) (some (p.op==33)))):Ax).bind λs7=>cond s7 ((((idx a 0).bind λb=>(idx a 0).bind λC=>(nM n C).bind λD=>cond D ((idx a 0).bind λE=>(idx a 1).bind λF=>(fA n E F).bind λG=>some (G,b.kind,b.name,b.kids)) (some (false,b.kind,b.name,b.kids))):Option (Bool×Int×Str×A3)).bind λg=>some ((Ty.mk g.2.1 g.2.2.1 g.2.2.2),g.1)) (((cond (p.op==34) (some (p.op==34)) (cond (p.op==41) (some (p.op==41)) (cond (p.op==42) (some (p.op==42)) (cond (p.op==43) (some (p.op==43)) (cond (p.op==44) (some (p.op==44)) (some (p.op==45))))))):Ax).bind λs9=>cond s9 ((((idx a 0).bind λH=>(nM n H).bind λI=>cond (!I) (some true) ((idx a 1).bind λJ=>(nM n J).bind λK=>some (!K))):Ax).bind λL=>cond L (some ((Ty.mk 0 ([]:Str) ([])),false)) ((idx a 0).bind λM=>(idx M.kids 0).bind λc=>(idx a 1).bind λN=>(idx N.kids 0).bind λd=>((cond (p.op !=34) (some ([(Ty.mk 5 ([]:Str) ([(Ty.mk 4 ([]:Str) ([c,d]))]))])) (some ([(Ty.mk 4 ([]:Str) ([c,d]))]))):Option A3).bind λO=>some ((Ty.mk 5 ([]:Str) O),true))) (cond (decide (p.op<35)) ((asl n p.op a).bind λe=>some (e.1,e.2)) ((afS n p.op a).bind λf=>some (f.1,f.2)))))))))))))))
def aoF(n:Nat)(q:F46t)(h:Env)(g:A4)(p:Tm)(e:(A3×Int)->Option (LR A3 (Ty×A2×Int)))(s:A3×Int):Option (LR A3 (Ty×A2×Int)):=cond (decide (s.2<(p.kids.length:Int))) ((((((zM n p.op).bind λa=>cond a (some (s.2==1)) (some false)):Ax).bind λi=>cond i ((idx s.1 0).bind λj=>(nM n j).bind λk=>cond (!k) (some (.rt ((Ty.mk 0 ([]:Str) ([])),([]:A2),7))) ((app 64 ([]:A4) g).bind λb=>(idx s.1 0).bind λc=>(idx c.kids 0).bind λd=>(app 64 b ([(Decl.mk p.name d)])).bind λf=>some (.nx f))) (some (.nx g))):Option (LR A4 (Ty×A2×Int))).bind (LR.el (λl=>(idx p.kids s.2).bind λm=>(q h l m).bind λx=>cond (x.2.2 !=0) ((app 8 ([s.2]) x.2.1).bind λo=>some (.rt ((Ty.mk 0 ([]:Str) ([])),o,x.2.2))) ((app 48 s.1 ([x.1])).bind λt=>e (t,(s.2+1)))) (λr=>some (.rt r)))) (some (.nx s.1))
def adD(n:Nat)(q:F46t)(p:Env)(a:A4)(b:Tm)(k:Nat):(A3×Int)->Option (LR A3 (Ty×A2×Int)):=aL (aoF n q p a b) k
def KL(n:Nat)(q:F46t)(a:Env)(c:A4)(p:Tm):Option (Ty×A2×Int):=cond (p.op==20) ((Jc n a c p.name).bind λd=>cond (!d.2) (some ((Ty.mk 0 ([]:Str) ([])),([]:A2),6)) (some (d.1,([]:A2),0))) (((cond (p.op==29) ((K5 n a p.ty).bind λx=>some (!x)) (some false)):Ax).bind λs=>cond s (some ((Ty.mk 0 ([]:Str) ([])),([]:A2),6)) ((adD n q a c p n (([]:A3),0)).bind (LR.el (λe=>(tJ n p e).bind λb=>cond (!b.2) (some ((Ty.mk 0 ([]:Str) ([])),([]:A2),7)) ((uS n b.1).bind λf=>cond (!f) (some ((Ty.mk 0 ([]:Str) ([])),([]:A2),5)) (some (b.1,([]:A2),0)))) (λr=>some r))))
def CF:Nat->Env->A4->Tm->Option (Ty×A2×Int)|0,_,_,_=>none|n+1,p,a,b=>KL n (CF n) p a b
def ahK(n:Nat)(q:F30t)(p:Ty)(r:F49t)(s1:Int×A3):Option (LR A3 Ty):=cond (decide (s1.1<(p.kids.length:Int))) ((idx p.kids s1.1).bind λx=>(q x).bind λa=>(app 48 s1.2 ([a])).bind λb=>r ((s1.1+1),b)) (some (.nx s1.2))
def WU(n:Nat)(q:F30t)(p:Ty)(k:Nat):(Int×A3)->Option (LR A3 Ty):=aL (ahK n q p) k
def GX(n:Nat)(q:F30t)(p:Ty):B7:=(WU n q p n (0,([]:A3))).bind (LR.el (λs=>some (Ty.mk p.kind p.name s)) (λr=>some r))
def xR:Nat->Ty->B7|0,_=>none|n+1,p=>GX n (xR n) p
def Dv(n:Nat)(p:Env)(a:Tm):Option (Ty×A2×Int):=(((BG n p).bind λb=>cond (!b) (some true) ((vC n a).bind λc=>some (!c))):Ax).bind λs=>cond s (some ((Ty.mk 0 ([]:Str) ([])),([]:A2),1)) ((CF n p ([]:A4) a).bind λx=>(xR n x.1).bind λd=>some (d,x.2.1,x.2.2))
def iQ(n:Nat)(p:Bool):Cf:=cond p (some (Val.mk 2 1 ([]:Str) ([]))) (some (Val.mk 2 0 ([]:Str) ([])))
def ayr(n:Nat)(p:Int):Cf:=some (Val.mk 1 p ([]:Str) ([]))
def aEk(n:Nat)(p:Str)(a:Int):Cf:=some (Val.mk 3 a p ([]))
def rC(n:Nat)(r:(Af×Af×Af)->Option (LR Af Af))(s1:Af×Af×Af):Option (LR Af Af):=((cond (decide (0<(s1.1.length:Int))) (some true) (some (decide (0<(s1.2.1.length:Int))))):Ax).bind λc=>cond c (((cond ((s1.1.length:Int)==0) (some 1) (cond (decide (0<(s1.2.1.length:Int))) ((idx s1.1 0).bind λx=>(idx s1.2.1 0).bind λd=>(nI n x d).bind λe=>some e) (some (-1)))):B0).bind λa=>((cond (decide (a<=0)) ((idx s1.1 0).bind λf=>(app 56 s1.2.2 ([f])).bind λg=>(kQ s1.1 1 (s1.1.length:Int)).bind λh=>some (h,g)) (some (s1.1,s1.2.2))):Option (Af×Af)).bind λs=>((cond (decide (0<a)) ((idx s1.2.1 0).bind λi=>(app 56 s.2 ([i])).bind λj=>some j) (some s.2)):Option Af).bind λb=>cond (decide (0<=a)) ((kQ s1.2.1 1 (s1.2.1.length:Int)).bind λk=>r (s.1,k,b)) (r (s.1,s1.2.1,b))) (some (.nx s1.2.2))
def FK(n:Nat)(k:Nat):(Af×Af×Af)->Option (LR Af Af):=aL (rC n) k
def agh(n:Nat)(p:Af)(a:Af):Option Af:=(FK n n (p,a,([]:Af))).bind (LR.el (λs=>some s) (λr=>some r))
def qD(n:Nat)(q:F32t)(p:Af):Option Af:=cond (decide ((p.length:Int)<2)) ((app 56 ([]:Af) p).bind λx=>some x) ((kQ p 0 (IntKind.wrap .i64 (Int.tdiv (p.length:Int) 2))).bind λa=>(q a).bind λb=>(kQ p (IntKind.wrap .i64 (Int.tdiv (p.length:Int) 2)) (p.length:Int)).bind λc=>(q c).bind λd=>(agh n b d).bind λe=>some e)
def Nc:Nat->Af->Option Af|0,_=>none|n+1,p=>qD n (Nc n) p
def iZ(n:Nat)(p:Af):Cf:=(Nc n p).bind λx=>some (Val.mk 5 0 ([]:Str) x)
def Vq(n:Nat)(p:At)(a:Str)(r:Int->Option (LR Unit Val))(s1:Int):Option (LR Unit Val):=cond (decide (0<=s1)) ((idx p s1).bind λb=>cond (b.name==a) ((idx p s1).bind λx=>some (.rt x.v)) (r (IntKind.wrap .i64 (s1 - 1)))) (some (.nx ()))
def P7(n:Nat)(p:At)(a:Str)(k:Nat):Int->Option (LR Unit Val):=aL (Vq n p a) k
def ML(n:Nat)(p:S_api_World)(a:Str)(x:Int)(r:F47t)(s:Af×Int):Option (LR Af Val):=(idx p.sizes x).bind λb=>cond (decide (s.2<b)) ((app 56 s.1 ([(Val.mk 3 s.2 a ([]))])).bind λc=>r (c,(s.2+1))) (some (.nx s.1))
def aks(n:Nat)(p:S_api_World)(a:Str)(x:Int)(k:Nat):(Af×Int)->Option (LR Af Val):=aL (ML n p a x) k
def ad4(n:Nat)(p:S_api_World)(b:At)(a:Str):Cf:=(P7 n b a n ((b.length:Int) - 1)).bind (LR.el (λh=>(FU n p.env a).bind λx=>cond (decide (0<=x)) ((idx p.values x).bind λe=>some e) ((nT n p.env a).bind λc=>cond (decide (0<=c)) ((aks n p a c n (([]:Af),0)).bind (LR.el (λs=>(iZ n s).bind λf=>some f) (λr=>some r))) ((uJ n p.env a).bind λd=>(idx p.env.carriers d.1).bind λg=>some (Val.mk 3 d.2 g.name ([]))))) (λr=>some r))
def aFN(n:Nat)(p:Val)(a:Val):Cf:=some (Val.mk 4 0 ([]:Str) ([p,a]))
def FY(n:Nat)(p:Int):Ax:=((cond (p==46) (some true) (cond (decide (41<=p)) (some (decide (p<=45))) (some false))):Ax).bind λs=>some s
def yB(n:Nat)(b:F37t)(q:F38t)(p:Af)(a:Af)(r:F2t)(s1:Int):Option (LR Unit Bool):=cond (decide (s1<(p.length:Int))) ((idx p s1).bind λx=>(idx a s1).bind λc=>(q x c).bind λd=>cond (!d) (some (.rt false)) (r (s1+1))) (some (.nx ()))
def zQ(n:Nat)(q:F37t)(b:F38t)(p:Af)(a:Af)(k:Nat):Int->Option (LR Unit Bool):=aL (yB n q b p a) k
def Dc(n:Nat)(q:F37t)(b:F38t)(p:Af)(a:Af):Ax:=cond ((p.length:Int)!=(a.length:Int)) (some false) ((zQ n q b p a n 0).bind (LR.el (λs=>some true) (λr=>some r)))
def Fe(n:Nat)(q:F37t)(b:F38t)(p:Val)(a:Val):Ax:=((cond (p.kind==a.kind) (cond (p.n==a.n) (cond (p.name==a.name) ((q p.kids a.kids).bind λx=>some x) (some false)) (some false)) (some false)):Ax).bind λs=>some s
mutual
def vY:Nat→Af→Af→Ax
 |0,_,_=>none
 |n+1,p0,p1=>Dc n (vY n) (dB n) p0 p1
def dB:Nat→Val→Val→Ax
 |0,_,_=>none
 |n+1,p0,p1=>Fe n (vY n) (dB n) p0 p1
end
def Gn(n:Nat)(a:Val)(p:Val)(r:F2t)(s1:Int):Option (LR Unit Bool):=cond (decide (s1<(p.kids.length:Int))) ((idx p.kids s1).bind λx=>(dB n x a).bind λb=>cond b (some (.rt true)) (r (s1+1))) (some (.nx ()))
def ar8(n:Nat)(p:Val)(a:Val)(k:Nat):Int->Option (LR Unit Bool):=aL (Gn n p a) k
def ru(n:Nat)(p:Val)(a:Val):Ax:=(ar8 n p a n 0).bind (LR.el (λs=>some false) (λr=>some r))
def PO(n:Nat)(p:Val)(a:Val)(r:F2t)(s1:Int):Option (LR Unit Bool):=cond (decide (s1<(p.kids.length:Int))) ((idx p.kids s1).bind λx=>(ru n x a).bind λb=>cond (!b) (some (.rt false)) (r (s1+1))) (some (.nx ()))
def aza(n:Nat)(p:Val)(a:Val)(k:Nat):Int->Option (LR Unit Bool):=aL (PO n p a) k
def kW(n:Nat)(p:Val)(a:Val):Ax:=(aza n p a n 0).bind (LR.el (λs=>some true) (λr=>some r))
def Gx(n:Nat)(p:Val)(a:Int)(r:F47t)(s1:Af×Int):Option (LR Af Val):=cond (decide (s1.2<(p.kids.length:Int))) ((idx p.kids s1.2).bind λx=>(idx x.kids a).bind λb=>(app 56 s1.1 ([b])).bind λc=>r (c,(s1.2+1))) (some (.nx s1.1))
def atm(n:Nat)(p:Val)(a:Int)(k:Nat):(Af×Int)->Option (LR Af Val):=aL (Gx n p a) k
def rE(n:Nat)(p:Val)(a:Int):Cf:=(atm n p a n (([]:Af),0)).bind (LR.el (λs=>(iZ n s).bind λx=>some x) (λr=>some r))
def nW(n:Nat)(p:Val)(a:Int):Ax:=(rE n p a).bind λx=>some ((x.kids.length:Int)==(p.kids.length:Int))
def Es(n:Nat)(p:Int)(b:Val)(c:Af):Ax:=cond (p==46) ((idx c 0).bind λv=>(kW n b v).bind λw=>some w) ((idx c 0).bind λd=>(idx c 1).bind λx=>(rE n b 0).bind λe=>(rE n b 1).bind λa=>(((kW n e d).bind λf=>cond (!f) (some true) ((kW n a x).bind λg=>some (!g))):Ax).bind λy=>cond y (some false) (((cond (decide (42<=p)) ((nW n b 0).bind λz=>cond (!z) (some false) (cond (decide (43<=p)) ((kW n d e).bind λA=>cond (!A) (some false) (cond (decide (44<=p)) ((nW n b 1).bind λB=>cond (!B) (some false) (cond (decide (45<=p)) ((kW n x a).bind λh=>some (!(!h))) (some true))) (cond (decide (45<=p)) ((kW n x a).bind λi=>some (!(!i))) (some true)))) (cond (decide (44<=p)) ((nW n b 1).bind λj=>cond (!j) (some false) (cond (decide (45<=p)) ((kW n x a).bind λk=>some (!(!k))) (some true))) (cond (decide (45<=p)) ((kW n x a).bind λl=>some (!(!l))) (some true))))) (cond (decide (43<=p)) ((kW n d e).bind λm=>cond (!m) (some false) (cond (decide (44<=p)) ((nW n b 1).bind λo=>cond (!o) (some false) (cond (decide (45<=p)) ((kW n x a).bind λq=>some (!(!q))) (some true))) (cond (decide (45<=p)) ((kW n x a).bind λr=>some (!(!r))) (some true)))) (cond (decide (44<=p)) ((nW n b 1).bind λs=>cond (!s) (some false) (cond (decide (45<=p)) ((kW n x a).bind λt=>some (!(!t))) (some true))) (cond (decide (45<=p)) ((kW n x a).bind λu=>some (!(!u))) (some true))))):Ax).bind λC=>some C))
def qM(n:Nat)(p:Af):Option (Val×Int):=(iZ n p).bind λx=>cond (decide (256<(x.kids.length:Int))) (some ((Val.mk 0 0 ([]:Str) ([])),11)) (some (x,0))
def Ea(n:Nat)(p:Af)(s1:(List Af)×Int)(r:F13t)(s:(List Af)×Int):Option (LR (List Af) (List Af)):=cond (decide (s.2<(s1.1.length:Int))) ((idx s.1 s.2).bind λx=>(app 56 ([]:Af) x).bind λa=>(idx p s1.2).bind λb=>(app 56 a ([b])).bind λc=>(app 24 s.1 ([c])).bind λd=>r (d,(s.2+1))) (some (.nx s.1))
def aaw(n:Nat)(p:Af)(s1:(List Af)×Int)(k:Nat):((List Af)×Int)->Option (LR (List Af) (List Af)):=aL (Ea n p s1) k
def Ef(n:Nat)(p:Af)(e:F13t)(s1:(List Af)×Int):Option (LR (List Af) (List Af)):=cond (decide (s1.2<(p.length:Int))) ((aaw n p s1 n (s1.1,0)).bind (LR.el (λs=>e (s,(s1.2+1))) (λr=>some (.rt r)))) (some (.nx s1.1))
def aou(n:Nat)(p:Af)(k:Nat):((List Af)×Int)->Option (LR (List Af) (List Af)):=aL (Ef n p) k
def Eo(n:Nat)(p:Af):Option (List Af):=(aou n p n ([[]],0)).bind (LR.el (λs=>some s) (λr=>some r))
def A9(n:Nat)(p:Int)(r:F17t)(s:Int×Int):Option (LR Int Int):=((cond (decide (s.2<p)) (some (decide (s.1<=256))) (some false)):Ax).bind λa=>cond a (r ((IntKind.wrap .i64 (s.1*2)),(IntKind.wrap .i64 (s.2+1)))) (some (.nx s.1))
def CX(n:Nat)(p:Int)(k:Nat):(Int×Int)->Option (LR Int Int):=aL (A9 n p) k
def kE(n:Nat)(a:Int)(c:Int)(p:Int)(e:F17t)(s:Int×Int):Option (LR Int Int):=cond (decide (s.2<c)) (((cond (a==41) ((CX n p n (s.1,0)).bind (LR.el (λd=>some d) (λr=>none))) (cond (a==42) (some (IntKind.wrap .i64 (s.1*(IntKind.wrap .i64 (p+1))))) (cond (a==43) (some (IntKind.wrap .i64 (s.1*p))) (some (IntKind.wrap .i64 (s.1*(IntKind.wrap .i64 (p - s.2)))))))):B0).bind λb=>cond (decide (256<b)) (some (.rt 257)) (e (b,(s.2+1)))) (some (.nx s.1))
def rT(n:Nat)(p:Int)(a:Int)(b:Int)(k:Nat):(Int×Int)->Option (LR Int Int):=aL (kE n p a b) k
def IK(n:Nat)(p:Int)(a:Int)(b:Int):B0:=((cond (p==45) (cond (a !=b) (some true) (cond (p==44) (some (decide (b<a))) (some false))) (cond (p==44) (some (decide (b<a))) (some false))):Ax).bind λs=>cond s (some 0) ((rT n p a b n (1,0)).bind (LR.el (λc=>some c) (λr=>some r)))
def EK(n:Nat)(a:Af)(p:Af)(s1:Af×Int)(r:F4t)(s:Af×Int):Option (LR Af Af):=cond (decide (s.2<(p.length:Int))) ((idx a s1.2).bind λx=>(idx p s.2).bind λb=>(app 56 s.1 ([(Val.mk 4 0 ([]:Str) ([x,b]))])).bind λc=>r (c,(s.2+1))) (some (.nx s.1))
def ZK(n:Nat)(p:Af)(a:Af)(s1:Af×Int)(k:Nat):(Af×Int)->Option (LR Af Af):=aL (EK n p a s1) k
def Eh(n:Nat)(p:Af)(a:Af)(e:F4t)(s1:Af×Int):Option (LR Af Af):=cond (decide (s1.2<(p.length:Int))) ((ZK n p a s1 n (s1.1,0)).bind (LR.el (λs=>e (s,(s1.2+1))) (λr=>some (.rt r)))) (some (.nx s1.1))
def ape(n:Nat)(p:Af)(a:Af)(k:Nat):(Af×Int)->Option (LR Af Af):=aL (Eh n p a) k
def Am(n:Nat)(p:Af)(a:Af):Option Af:=(ape n p a n (([]:Af),0)).bind (LR.el (λs=>some s) (λr=>some r))
def MK(n:Nat)(a:Int)(b:Af)(p:Af)(s1:(List Af)×Int)(c:(List Af)×Int)(r:F13t)(s:(List Af)×Int):Option (LR (List Af) (List Af)):=cond (decide (s.2<(p.length:Int))) ((((idx s1.1 c.2).bind λd=>(app 56 ([]:Af) d).bind λe=>(idx b s1.2).bind λf=>(idx p s.2).bind λg=>(app 56 e ([(Val.mk 4 0 ([]:Str) ([f,g]))])).bind λx=>((cond (decide (a<44)) (some true) ((nW n (Val.mk 0 0 ([]:Str) x) 1).bind λh=>some h)):Ax).bind λi=>cond i ((app 24 s.1 ([x])).bind λj=>some j) (some s.1)):Option (List Af)).bind λk=>r (k,(s.2+1))) (some (.nx s.1))
def akN(n:Nat)(p:Int)(a:Af)(b:Af)(s1:(List Af)×Int)(s:(List Af)×Int)(k:Nat):((List Af)×Int)->Option (LR (List Af) (List Af)):=aL (MK n p a b s1 s) k
def MF(n:Nat)(p:Int)(s1:(List Af)×Int)(a:Af)(b:Af)(e:F13t)(s:(List Af)×Int):Option (LR (List Af) (List Af)):=cond (decide (s.2<(s1.1.length:Int))) (((cond (p==42) ((idx s1.1 s.2).bind λx=>(app 24 s.1 ([x])).bind λc=>some c) (some s.1)):Option (List Af)).bind λd=>(akN n p a b s1 s n (d,0)).bind (LR.el (λf=>e (f,(s.2+1))) (λr=>some (.rt r)))) (some (.nx s.1))
def ajN(n:Nat)(p:Int)(s1:(List Af)×Int)(a:Af)(b:Af)(k:Nat):((List Af)×Int)->Option (LR (List Af) (List Af)):=aL (MF n p s1 a b) k
def Mq(n:Nat)(p:Af)(a:Int)(b:Af)(e:F13t)(s1:(List Af)×Int):Option (LR (List Af) (List Af)):=cond (decide (s1.2<(p.length:Int))) ((ajN n a s1 p b n (([]:List Af),0)).bind (LR.el (λs=>e (s,(s1.2+1))) (λr=>some (.rt r)))) (some (.nx s1.1))
def awF(n:Nat)(p:Af)(a:Int)(b:Af)(k:Nat):((List Af)×Int)->Option (LR (List Af) (List Af)):=aL (Mq n p a b) k
def XE(n:Nat)(p:Int)(a:Af)(b:Af):Option (List Af):=(awF n a p b n ([[]],0)).bind (LR.el (λs=>some s) (λr=>some r))
def Gm(n:Nat)(s1:List Af)(r:F31t)(s:Af×Int):Option (LR Af (Val×Int)):=cond (decide (s.2<(s1.length:Int))) ((idx s1 s.2).bind λx=>(iZ n x).bind λa=>(app 56 s.1 ([a])).bind λb=>r (b,(s.2+1))) (some (.nx s.1))
def yE(n:Nat)(s1:List Af)(k:Nat):(Af×Int)->Option (LR Af (Val×Int)):=aL (Gm n s1) k
def pK(n:Nat)(p:Int)(a:Af):Option (Val×Int):=(idx a 0).bind λx=>((((cond (p==46) (some (decide (8<(x.kids.length:Int)))) (some false)):Ax).bind λs=>cond s (some (.rt ((Val.mk 0 0 ([]:Str) ([])),11))) (cond (p==46) ((Eo n x.kids).bind λi=>some (.nx i)) ((idx a 1).bind λj=>(IK n p (x.kids.length:Int) (j.kids.length:Int)).bind λk=>cond (decide (256<k)) (some (.rt ((Val.mk 0 0 ([]:Str) ([])),11))) ((idx a 1).bind λl=>(IK n p (x.kids.length:Int) (l.kids.length:Int)).bind λb=>cond (b==0) ((iZ n ([]:Af)).bind λc=>some (.rt (c,0))) (cond (p==41) ((idx a 1).bind λd=>(Am n x.kids d.kids).bind λe=>(Eo n e).bind λf=>some (.nx f)) ((idx a 1).bind λg=>(XE n p x.kids g.kids).bind λh=>some (.nx h))))))):Option (LR (List Af) (Val×Int))).bind (LR.el (λm=>(yE n m n (([]:Af),0)).bind (LR.el (λo=>(iZ n o).bind λq=>some (q,0)) (λr=>some r))) (λr=>some r))
def j5(n:Nat)(p:Int):Option (Val×Int):=((cond (decide (1000000000<p)) (some true) (some (decide (p<(-1000000000))))):Ax).bind λs=>cond s (some ((Val.mk 0 0 ([]:Str) ([])),11)) (some ((Val.mk 1 p ([]:Str) ([])),0))
def JR(n:Nat)(p:Val)(r:F31t)(s:Af×Int):Option (LR Af (Val×Int)):=cond (decide (s.2<(p.kids.length:Int))) ((idx p.kids s.2).bind λc=>(idx c.kids 1).bind λd=>(idx p.kids s.2).bind λx=>(idx x.kids 0).bind λa=>(app 56 s.1 ([(Val.mk 4 0 ([]:Str) ([d,a]))])).bind λb=>r (b,(s.2+1))) (some (.nx s.1))
def afw(n:Nat)(p:Val)(k:Nat):(Af×Int)->Option (LR Af (Val×Int)):=aL (JR n p) k
def Rq(n:Nat)(a:Int)(p:Val):Option (Val×Int):=cond (a==3) ((iQ n (p.n==0)).bind λb=>some (b,0)) (cond (a==21) ((j5 n (IntKind.wrap .i64 (0 - p.n))).bind λx=>some (x.1,x.2)) (cond (a==47) (some ((Val.mk 1 (p.kids.length:Int) ([]:Str) ([])),0)) (((cond (a==48) (some (a==48)) (some (a==49))):Ax).bind λs=>cond s (cond ((p.kids.length:Int)==0) (some ((Val.mk 0 0 ([]:Str) ([])),10)) (cond (a==48) ((idx p.kids 0).bind λc=>some (c,0)) ((idx p.kids ((p.kids.length:Int) - 1)).bind λd=>some (d,0)))) (cond (a==50) ((rE n p 0).bind λe=>some (e,0)) (cond (a==51) ((rE n p 1).bind λf=>some (f,0)) ((afw n p n (([]:Af),0)).bind (LR.el (λg=>(iZ n g).bind λh=>some (h,0)) (λr=>some r))))))))
def lZ(n:Nat)(p:Int)(r:F31t)(s:Af×Int):Option (LR Af (Val×Int)):=cond (decide (s.2<=p)) ((app 56 s.1 ([(Val.mk 1 s.2 ([]:Str) ([]))])).bind λx=>r (x,(IntKind.wrap .i64 (s.2+1)))) (some (.nx s.1))
def vX(n:Nat)(p:Int)(k:Nat):(Af×Int)->Option (LR Af (Val×Int)):=aL (lZ n p) k
def JF(n:Nat)(b:Int)(a:Int)(p:Int):Option (Val×Int):=cond (b==12) ((iQ n (decide (a<p))).bind λi=>some (i,0)) (cond (b==13) ((iQ n (decide (a<=p))).bind λj=>some (j,0)) (cond (b==14) ((iQ n (decide (p<a))).bind λk=>some (k,0)) (cond (b==15) ((iQ n (decide (p<=a))).bind λl=>some (l,0)) (cond (b==22) ((j5 n (IntKind.wrap .i64 (a+p))).bind λe=>some (e.1,e.2)) (cond (b==23) ((j5 n (IntKind.wrap .i64 (a - p))).bind λf=>some (f.1,f.2)) (cond (b==24) ((j5 n (IntKind.wrap .i64 (a*p))).bind λg=>some (g.1,g.2)) (cond (b==25) (cond (p==0) (some ((Val.mk 0 0 ([]:Str) ([])),10)) ((abO a p).bind λm=>(j5 n m).bind λh=>some (h.1,h.2))) (cond (b==26) (((cond (decide (a<0)) (some true) (some (decide (p<1)))):Ax).bind λs=>cond s (some ((Val.mk 0 0 ([]:Str) ([])),10)) ((Vr a p).bind λc=>(j5 n c).bind λx=>some (x.1,x.2))) (cond (decide (256<=(IntKind.wrap .i64 (p - a)))) (some ((Val.mk 0 0 ([]:Str) ([])),11)) ((vX n p n (([]:Af),a)).bind (LR.el (λo=>(iZ n o).bind λd=>some (d,0)) (λr=>some r))))))))))))
def Ms(n:Nat)(p:Val)(a:Int)(b:Val)(c:Bool)(r:F47t)(s1:Af×Int):Option (LR Af Val):=cond (decide (s1.2<(p.kids.length:Int))) ((((idx p.kids s1.2).bind λx=>(idx x.kids a).bind λd=>(ru n d b).bind λe=>cond (e==c) ((idx p.kids s1.2).bind λf=>(app 56 s1.1 ([f])).bind λg=>some g) (some s1.1)):Option Af).bind λs=>r (s,(s1.2+1))) (some (.nx s1.1))
def axg(n:Nat)(p:Val)(a:Int)(b:Val)(c:Bool)(k:Nat):(Af×Int)->Option (LR Af Val):=aL (Ms n p a b c) k
def D8(n:Nat)(p:Val)(a:Int)(b:Val)(c:Bool):Cf:=(axg n p a b c n (([]:Af),0)).bind (LR.el (λs=>(iZ n s).bind λx=>some x) (λr=>some r))
def Av(n:Nat)(j:Val)(p:Val)(k:Af×Int)(r:F31t)(s:Af×Int):Option (LR Af (Val×Int)):=cond (decide (s.2<(p.kids.length:Int))) ((((idx j.kids k.2).bind λx=>(idx x.kids 1).bind λa=>(idx p.kids s.2).bind λb=>(idx b.kids 0).bind λc=>(dB n a c).bind λd=>cond d ((idx j.kids k.2).bind λe=>(idx e.kids 0).bind λf=>(idx p.kids s.2).bind λg=>(idx g.kids 1).bind λh=>(app 56 s.1 ([(Val.mk 4 0 ([]:Str) ([f,h]))])).bind λi=>some i) (some s.1)):Option Af).bind λl=>r (l,(s.2+1))) (some (.nx s.1))
def TS(n:Nat)(p:Val)(a:Val)(s:Af×Int)(k:Nat):(Af×Int)->Option (LR Af (Val×Int)):=aL (Av n p a s) k
def Al(n:Nat)(p:Val)(a:Val)(e:F31t)(s:Af×Int):Option (LR Af (Val×Int)):=cond (decide (s.2<(p.kids.length:Int))) ((TS n p a s n (s.1,0)).bind (LR.el (λb=>e (b,(s.2+1))) (λr=>some (.rt r)))) (some (.nx s.1))
def Tp(n:Nat)(p:Val)(a:Val)(k:Nat):(Af×Int)->Option (LR Af (Val×Int)):=aL (Al n p a) k
def Aj(n:Nat)(a:Int)(p:Val)(b:Val)(r:F31t)(s:Af×Int):Option (LR Af (Val×Int)):=cond (decide (s.2<(p.kids.length:Int))) ((((idx p.kids s.2).bind λx=>(ru n x b).bind λc=>cond (c==(a==32)) ((idx p.kids s.2).bind λd=>(app 56 s.1 ([d])).bind λe=>some e) (some s.1)):Option Af).bind λf=>r (f,(s.2+1))) (some (.nx s.1))
def SX(n:Nat)(p:Int)(a:Val)(b:Val)(k:Nat):(Af×Int)->Option (LR Af (Val×Int)):=aL (Aj n p a b) k
def Dn(n:Nat)(p:Int)(b:Val)(a:Val):Option (Val×Int):=cond (p==31) ((app 56 ([]:Af) b.kids).bind λw=>(app 56 w a.kids).bind λy=>(qM n y).bind λv=>some (v.1,v.2)) (((cond (p==32) (some (p==32)) (some (p==33))):Ax).bind λz=>cond z ((SX n p b a n (([]:Af),0)).bind (LR.el (λA=>(iZ n A).bind λB=>some (B,0)) (λr=>some r))) (cond (p==34) (cond (decide (256<(IntKind.wrap .i64 ((b.kids.length:Int)*(a.kids.length:Int))))) (some ((Val.mk 0 0 ([]:Str) ([])),11)) ((Am n b.kids a.kids).bind λC=>(iZ n C).bind λe=>some (e,0))) (cond (p==35) ((rE n a 0).bind λf=>(D8 n b 0 f false).bind λg=>(app 56 ([]:Af) a.kids).bind λh=>(app 56 h g.kids).bind λi=>(qM n i).bind λx=>some (x.1,x.2)) (cond (p==36) ((Tp n b a n (([]:Af),0)).bind (LR.el (λD=>(qM n D).bind λc=>some (c.1,c.2)) (λr=>some r))) (((cond (p==37) (some (p==37)) (some (p==38))):Ax).bind λs=>cond s ((D8 n a 0 b (p==37)).bind λj=>some (j,0)) (((cond (p==39) (some (p==39)) (some (p==40))):Ax).bind λk=>cond k ((D8 n b 1 a (p==39)).bind λl=>some (l,0)) (cond (p==53) ((D8 n b 0 a true).bind λm=>(rE n m 1).bind λo=>some (o,0)) ((iZ n ([a])).bind λq=>(D8 n b 0 q true).bind λt=>(rE n t 1).bind λd=>cond ((d.kids.length:Int)!=1) (some ((Val.mk 0 0 ([]:Str) ([])),10)) ((idx d.kids 0).bind λu=>some (u,0))))))))))
def Gi(n:Nat)(b:F9t)(a:F0t)(c:F0t)(q:F0t)(d:F0t)(e:S_api_World)(f:At)(p:Bi)(r:(Af×Int)->Option (LR Af (Af×Int)))(s1:Af×Int):Option (LR Af (Af×Int)):=cond (decide (s1.2<(p.length:Int))) ((idx p s1.2).bind λg=>(q e f g).bind λx=>cond (x.2 !=0) (some (.rt (([]:Af),x.2))) ((app 56 s1.1 ([x.1])).bind λh=>r (h,(s1.2+1)))) (some (.nx s1.1))
def aqb(n:Nat)(q:F9t)(b:F0t)(r:F0t)(t:F0t)(a:F0t)(p:S_api_World)(c:At)(d:Bi)(k:Nat):(Af×Int)->Option (LR Af (Af×Int)):=aL (Gi n q b r t a p c d) k
def Wv(n:Nat)(q:F9t)(b:F0t)(a:F0t)(t:F0t)(c:F0t)(p:S_api_World)(d:At)(e:Bi):Option (Af×Int):=(aqb n q b a t c p d e n (([]:Af),0)).bind (LR.el (λs=>some (s,0)) (λr=>some r))
def EI(n:Nat)(q:F9t)(p:F0t)(d:F0t)(t:F0t)(e:F0t)(s1:Af)(b:Tm)(c:Af×Int)(r:(Bool×Int)->Option (LR Bool (Val×Int)))(s:Bool×Int):Option (LR Bool (Val×Int)):=cond (decide (s.2<(s1.length:Int))) ((((FY n b.op).bind λf=>cond f (cond s.1 ((idx s1 s.2).bind λg=>(Es n b.op g c.1).bind λh=>some h) (some false)) (cond s.1 ((idx s1 s.2).bind λi=>(idx c.1 0).bind λx=>(ru n i x).bind λa=>some a) (some false))):Ax).bind λj=>r (j,(s.2+1))) (some (.nx s.1))
def apb(n:Nat)(q:F9t)(b:F0t)(r:F0t)(t:F0t)(a:F0t)(s1:Af)(x:Tm)(c:Af×Int)(k:Nat):(Bool×Int)->Option (LR Bool (Val×Int)):=aL (EI n q b r t a s1 x c) k
def I7(n:Nat)(q:F9t)(c:F0t)(d:F0t)(b:F0t)(e:F0t)(h:S_api_World)(i:At)(p:Tm):Option (Val×Int):=(idx p.kids 0).bind λj=>(b h i j).bind λx=>cond (x.2 !=0) (some ((Val.mk 0 0 ([]:Str) ([])),x.2)) (((cond (p.op==18) (some x.1.kids) (some ([x.1]))):Option Af).bind λs=>(idx p.kids 1).bind λa=>(((FY n a.op).bind λf=>cond f (some a.kids) (some ([a]))):Option Bi).bind λk=>(q h i k).bind λg=>cond (g.2 !=0) (some ((Val.mk 0 0 ([]:Str) ([])),g.2)) ((apb n q c d b e s a g n (true,0)).bind (LR.el (λl=>(iQ n (l==(p.op !=17))).bind λm=>some (m,0)) (λr=>some r))))
def Nj(n:Nat)(w:F9t)(d:F0t)(r:F0t)(q:F0t)(e:F0t)(a:S_api_World)(b:At)(p:Tm):Option (Val×Int):=(idx p.kids 0).bind λf=>(q a b f).bind λx=>cond (x.2 !=0) (some ((Val.mk 0 0 ([]:Str) ([])),x.2)) (((cond (p.op==4) (some (x.1.n==0)) (some false)):Ax).bind λg=>cond g ((iQ n false).bind λh=>some (h,0)) (((((cond (p.op==5) (some (x.1.n==1)) (some false)):Ax).bind λs=>cond s (some s) (cond (p.op==6) (some (x.1.n==0)) (some false))):Ax).bind λi=>cond i ((iQ n true).bind λj=>some (j,0)) ((idx p.kids 1).bind λk=>(q a b k).bind λc=>some (c.1,c.2))))
def oC(n:Nat)(q:F9t)(h:F0t)(r:F0t)(E:F0t)(i:F0t)(a:S_api_World)(b:At)(p:Tm):Option (Val×Int):=((cond (p.op==1) (some (p.op==1)) (some (p.op==2))):Ax).bind λF=>cond F ((iQ n (p.op==1)).bind λG=>some (G,0)) (cond (p.op==19) (some ((Val.mk 1 p.n ([]:Str) ([])),0)) (cond (p.op==20) ((ad4 n a b p.name).bind λH=>some (H,0)) (cond (p.op==29) ((iZ n ([]:Af)).bind λI=>some (I,0)) (((cond (p.op==8) (some (p.op==8)) (cond (p.op==9) (some (p.op==9)) (cond (p.op==55) (some (p.op==55)) (some (p.op==56))))):Ax).bind λJ=>cond J ((i a b p).bind λB=>some (B.1,B.2)) (((cond (p.op==4) (some (p.op==4)) (cond (p.op==5) (some (p.op==5)) (some (p.op==6)))):Ax).bind λK=>cond K ((r a b p).bind λC=>some (C.1,C.2)) (((cond (p.op==16) (some (p.op==16)) (cond (p.op==17) (some (p.op==17)) (some (p.op==18)))):Ax).bind λL=>cond L ((h a b p).bind λD=>some (D.1,D.2)) ((q a b p.kids).bind λx=>cond (x.2 !=0) (some ((Val.mk 0 0 ([]:Str) ([])),x.2)) (((cond (p.op==7) (some (p.op==7)) (some (p.op==10))):Ax).bind λM=>cond M ((idx x.1 0).bind λN=>(idx x.1 1).bind λO=>(dB n N O).bind λj=>(iQ n j).bind λk=>some (k,0)) (cond (p.op==11) ((idx x.1 0).bind λl=>(idx x.1 1).bind λm=>(dB n l m).bind λo=>(iQ n (!o)).bind λs=>some (s,0)) (cond (p.op==27) ((idx x.1 0).bind λt=>(idx x.1 1).bind λu=>some ((Val.mk 4 0 ([]:Str) ([t,u])),0)) (cond (p.op==28) ((qM n x.1).bind λc=>some (c.1,c.2)) (((cond (p.op==46) (some (p.op==46)) (cond (p.op==41) (some (p.op==41)) (cond (p.op==42) (some (p.op==42)) (cond (p.op==43) (some (p.op==43)) (cond (p.op==44) (some (p.op==44)) (some (p.op==45))))))):Ax).bind λP=>cond P ((pK n p.op x.1).bind λd=>some (d.1,d.2)) (cond ((x.1.length:Int)==1) ((idx x.1 0).bind λv=>(Rq n p.op v).bind λe=>some (e.1,e.2)) (((cond (decide (p.op<27)) (some true) (some (p.op==30))):Ax).bind λQ=>cond Q ((idx x.1 0).bind λw=>(idx x.1 1).bind λy=>(JF n p.op w.n y.n).bind λf=>some (f.1,f.2)) ((idx x.1 0).bind λz=>(idx x.1 1).bind λA=>(Dn n p.op z A).bind λg=>some (g.1,g.2))))))))))))))))
def Gp(n:Nat)(w:F9t)(h:F0t)(i:F0t)(q:F0t)(j:F0t)(k:S_api_World)(l:At)(p:Tm)(f:Val×Int)(e:(Bool×Bool×Af×Int)->Option (LR (Bool×Bool×Af) (Val×Int)))(s1:Bool×Bool×Af×Int):Option (LR (Bool×Bool×Af) (Val×Int)):=cond (decide (s1.2.2.2<(f.1.kids.length:Int))) ((((idx f.1.kids s1.2.2.2).bind λa=>(app 72 ([]:At) l).bind λm=>(app 72 m ([(Bound.mk p.name a)])).bind λo=>(idx p.kids 1).bind λt=>(q k o t).bind λx=>cond (x.2 !=0) (some (.rt ((Val.mk 0 0 ([]:Str) ([])),x.2))) (((cond s1.1 (cond s1.2.1 (some ((x.1.n==1),true)) (some ((x.1.n==1),(x.1.n==1)))) (cond s1.2.1 (some (false,true)) (some (false,(x.1.n==1))))):Option (Bool×Bool)).bind λs=>((((cond (p.op==55) (some (x.1.n==1)) (some false)):Ax).bind λu=>cond u ((app 56 s1.2.2.1 ([a])).bind λb=>some b) (some s1.2.2.1)):Option Af).bind λg=>cond (p.op==56) ((app 56 g ([(Val.mk 4 0 ([]:Str) ([a,x.1]))])).bind λc=>some (.nx (s.1,s.2,c))) (some (.nx (s.1,s.2,g))))):Option (LR (Bool×Bool×Af) (Val×Int))).bind (LR.el (λd=>e (d.1,d.2.1,d.2.2,(s1.2.2.2+1))) (λr=>some (.rt r)))) (some (.nx (s1.1,s1.2.1,s1.2.2.1)))
def ap7(n:Nat)(q:F9t)(b:F0t)(r:F0t)(t:F0t)(a:F0t)(p:S_api_World)(c:At)(d:Tm)(x:Val×Int)(k:Nat):(Bool×Bool×Af×Int)->Option (LR (Bool×Bool×Af) (Val×Int)):=aL (Gp n q b r t a p c d x) k
def KQ(n:Nat)(b:F9t)(a:F0t)(c:F0t)(q:F0t)(d:F0t)(e:S_api_World)(f:At)(p:Tm):Option (Val×Int):=(idx p.kids 0).bind λg=>(q e f g).bind λx=>cond (x.2 !=0) (some ((Val.mk 0 0 ([]:Str) ([])),x.2)) ((ap7 n b a c q d e f p x n (true,false,([]:Af),0)).bind (LR.el (λs=>cond (p.op==8) ((iQ n s.1).bind λh=>some (h,0)) (cond (p.op==9) ((iQ n s.2.1).bind λi=>some (i,0)) ((iZ n s.2.2).bind λj=>some (j,0)))) (λr=>some r)))
mutual
def kJ:Nat→S_api_World→At→Bi→Option (Af×Int)
 |0,_,_,_=>none
 |n+1,p0,p1,p2=>Wv n (kJ n) (gZ n) (eF n) (jO n) (iG n) p0 p1 p2
def gZ:Nat→S_api_World→At→Tm→Option (Val×Int)
 |0,_,_,_=>none
 |n+1,p0,p1,p2=>I7 n (kJ n) (gZ n) (eF n) (jO n) (iG n) p0 p1 p2
def eF:Nat→S_api_World→At→Tm→Option (Val×Int)
 |0,_,_,_=>none
 |n+1,p0,p1,p2=>Nj n (kJ n) (gZ n) (eF n) (jO n) (iG n) p0 p1 p2
def jO:Nat→S_api_World→At→Tm→Option (Val×Int)
 |0,_,_,_=>none
 |n+1,p0,p1,p2=>oC n (kJ n) (gZ n) (eF n) (jO n) (iG n) p0 p1 p2
def iG:Nat→S_api_World→At→Tm→Option (Val×Int)
 |0,_,_,_=>none
 |n+1,p0,p1,p2=>KQ n (kJ n) (gZ n) (eF n) (jO n) (iG n) p0 p1 p2
end
def aco(n:Nat)(b:F16t)(q:F32t)(p:Val):Cf:=(q p.kids).bind λx=>some (Val.mk p.kind p.n p.name x)
def Gs(n:Nat)(q:F16t)(b:F32t)(p:Af)(r:F4t)(s1:Af×Int):Option (LR Af Af):=cond (decide (s1.2<(p.length:Int))) ((idx p s1.2).bind λx=>(q x).bind λa=>(app 56 s1.1 ([a])).bind λc=>r (c,(s1.2+1))) (some (.nx s1.1))
def JY(n:Nat)(q:F16t)(b:F32t)(p:Af)(k:Nat):(Af×Int)->Option (LR Af Af):=aL (Gs n q b p) k
def KF(n:Nat)(q:F16t)(b:F32t)(p:Af):Option Af:=(JY n q b p n (([]:Af),0)).bind (LR.el (λs=>some s) (λr=>some r))
mutual
def BJ:Nat→Val→Cf
 |0,_=>none
 |n+1,p0=>aco n (BJ n) (H8 n) p0
def H8:Nat→Af→Option Af
 |0,_=>none
 |n+1,p0=>KF n (BJ n) (H8 n) p0
end
def aei(n:Nat)(p:S_api_World)(a:Tm):Option (Val×Int):=(((AO n p).bind λc=>cond (!c) (some true) ((vC n a).bind λd=>some (!d))):Ax).bind λs=>cond s (some ((Val.mk 0 0 ([]:Str) ([])),1)) ((Dv n p.env a).bind λx=>cond (x.2.2 !=0) (some ((Val.mk 0 0 ([]:Str) ([])),x.2.2)) ((jO n p ([]:At) a).bind λb=>(BJ n b.1).bind λe=>some (e,b.2)))
def Ao(n:Nat)(p:Env)(a:Tm):B0:=(A8 n p a).bind λx=>((cond (x.2.2==0) (some (x.1.kind !=2)) (some false)):Ax).bind λs=>cond s (some 7) (some x.2.2)
def eval_interp_holds(n:Nat)(p:A7)(a:A4)(b:A2)(c:List (Str×Val))(d:At)(e:Tm):Option (Bool×Int×At):=(rW n p a b c d e).bind λx=>((cond (x.2.1==0) (some ((x.1.n==1),x.2.1)) (some (false,x.2.1))):Option (Bool×Int)).bind λs=>some (s.1,s.2,x.2.2)
def j4(n:Nat)(p:S_api_World)(a:Tm):Option (Bool×Int):=(((wP n p).bind λd=>cond (!d) (some true) ((J7 n a).bind λe=>some (!e))):Ax).bind λs=>cond s (some (false,1)) ((Ao n p.env a).bind λb=>cond (b !=0) (some (false,b)) ((Mt n p).bind λx=>(eval_interp_holds n x.1 x.2.1 x.2.2.1 x.2.2.2.1 x.2.2.2.2 a).bind λc=>some (c.1,c.2.1)))
def vD(n:Nat)(p:Env)(a:Tm):B0:=(Dv n p a).bind λx=>((cond (x.2.2==0) (some (x.1.kind !=2)) (some false)):Ax).bind λs=>cond s (some 7) (some x.2.2)
def Zg(n:Nat)(p:S_api_World)(a:Tm):Option (Bool×Int):=(((AO n p).bind λc=>cond (!c) (some true) ((vC n a).bind λd=>some (!d))):Ax).bind λe=>cond e (some (false,1)) ((vD n p.env a).bind λb=>cond (b !=0) (some (false,b)) ((jO n p ([]:At) a).bind λx=>((cond (x.2==0) (some ((x.1.n==1),x.2)) (some (false,x.2))):Option (Bool×Int)).bind λs=>some (s.1,s.2)))
def R6(n:Nat)(p:S_api_World)(a:Tm):Ax:=(((Ah n p.env).bind λe=>cond (!e) (some true) ((sM n a).bind λf=>some (!f))):Ax).bind λs=>cond s ((jf n).bind λg=>some g) ((mU n p a).bind λx=>(aei n p a).bind λb=>(j4 n p a).bind λc=>(Zg n p a).bind λd=>((cond (x.2==b.2) ((dB n x.1 b.1).bind λh=>cond h (cond (c.2==d.2) (cond (c.1==d.1) ((jf n).bind λi=>some i) (some false)) (some false)) (some false)) (some false)):Ax).bind λj=>some j)
def auF(n:Nat)(p:Int):Ax:=(((wD n p).bind λx=>cond x (some true) ((CY n p).bind λa=>cond a (some true) (some (p==95)))):Ax).bind λs=>some s
def aon(n:Nat)(p:Str)(r:F17t)(s:Int×Int):Option (LR Int Int):=cond (decide (s.2<(p.length:Int))) ((oL p s.2).bind λx=>(CY n x).bind λa=>cond (!a) (some (.rt (-1))) ((oL p s.2).bind λb=>r ((IntKind.wrap .i64 ((IntKind.wrap .i64 (10*s.1))+(IntKind.wrap .i64 (IntKind.wrap .u8 (b - 48))))),(s.2+1)))) (some (.nx s.1))
def ar6(n:Nat)(p:Str)(k:Nat):(Int×Int)->Option (LR Int Int):=aL (aon n p) k
def anE(n:Nat)(p:Str):B0:=((cond (decide (10<(p.length:Int))) (some true) (cond (decide (1<(p.length:Int))) ((oL p 0).bind λx=>some (x==48)) (some false))):Ax).bind λa=>cond a (some (-1)) ((ar6 n p n (0,0)).bind (LR.el (λs=>cond (decide (1000000000<s)) (some (-1)) (some s)) (λr=>some r)))
def atG(n:Nat)(a:Str)(p:Int)(r:Int->Option (LR Unit Str))(s1:Int):Option (LR Unit Str):=cond (decide (s1<(([([62,45,62,62]:Str),([60,61,62]:Str),([60,60,124]:Str),([124,62,62]:Str),([124,45,62]:Str),([60,45,62]:Str),([43,45,62]:Str),([45,45,62]:Str),([62,45,62]:Str),([61,62]:Str),([47,61]:Str),([60,61]:Str),([62,61]:Str),([46,46]:Str),([92,47]:Str),([47,92]:Str),([62,60]:Str),([60,43]:Str),([60,124]:Str),([124,62]:Str)]).length:Int))) ((((idx ([([62,45,62,62]:Str),([60,61,62]:Str),([60,60,124]:Str),([124,62,62]:Str),([124,45,62]:Str),([60,45,62]:Str),([43,45,62]:Str),([45,45,62]:Str),([62,45,62]:Str),([61,62]:Str),([47,61]:Str),([60,61]:Str),([62,61]:Str),([46,46]:Str),([92,47]:Str),([47,92]:Str),([62,60]:Str),([60,43]:Str),([60,124]:Str),([124,62]:Str)]) s1).bind λx=>cond (decide ((x.length:Int)<=(IntKind.wrap .i64 ((a.length:Int) - p)))) ((idx ([([62,45,62,62]:Str),([60,61,62]:Str),([60,60,124]:Str),([124,62,62]:Str),([124,45,62]:Str),([60,45,62]:Str),([43,45,62]:Str),([45,45,62]:Str),([62,45,62]:Str),([61,62]:Str),([47,61]:Str),([60,61]:Str),([62,61]:Str),([46,46]:Str),([92,47]:Str),([47,92]:Str),([62,60]:Str),([60,43]:Str),([60,124]:Str),([124,62]:Str)]) s1).bind λb=>(kQ a p (IntKind.wrap .i64 (p+(b.length:Int)))).bind λc=>(idx ([([62,45,62,62]:Str),([60,61,62]:Str),([60,60,124]:Str),([124,62,62]:Str),([124,45,62]:Str),([60,45,62]:Str),([43,45,62]:Str),([45,45,62]:Str),([62,45,62]:Str),([61,62]:Str),([47,61]:Str),([60,61]:Str),([62,61]:Str),([46,46]:Str),([92,47]:Str),([47,92]:Str),([62,60]:Str),([60,43]:Str),([60,124]:Str),([124,62]:Str)]) s1).bind λd=>some (c==d)) (some false)):Ax).bind λs=>cond s ((idx ([([62,45,62,62]:Str),([60,61,62]:Str),([60,60,124]:Str),([124,62,62]:Str),([124,45,62]:Str),([60,45,62]:Str),([43,45,62]:Str),([45,45,62]:Str),([62,45,62]:Str),([61,62]:Str),([47,61]:Str),([60,61]:Str),([62,61]:Str),([46,46]:Str),([92,47]:Str),([47,92]:Str),([62,60]:Str),([60,43]:Str),([60,124]:Str),([124,62]:Str)]) s1).bind λe=>some (.rt e)) (r (s1+1))) (some (.nx ()))
def awE(n:Nat)(p:Str)(a:Int)(k:Nat):Int->Option (LR Unit Str):=aL (atG n p a) k
def avy(n:Nat)(a:Str)(p:Int):Option Str:=(awE n a p n 0).bind (LR.el (λs=>(kQ a p (IntKind.wrap .i64 (p+1))).bind λx=>(Mi n x ([([38]:Str),([61]:Str),([60]:Str),([62]:Str),([43]:Str),([45]:Str),([42]:Str),([47]:Str),([92]:Str),([59]:Str),([126]:Str),([46]:Str),([44]:Str),([124]:Str),([40]:Str),([41]:Str),([91]:Str),([93]:Str),([123]:Str),([125]:Str)])).bind λb=>cond b ((kQ a p (IntKind.wrap .i64 (p+1))).bind λc=>some c) (some ([]:Str))) (λr=>some r))
def awI(n:Nat)(p:Str)(r:F52t)(s1:Int):Option (LR Int S_refinementref01_token):=((cond (decide (s1<(p.length:Int))) ((oL p s1).bind λx=>cond (x==32) (some true) ((oL p s1).bind λa=>cond (a==9) (some true) ((oL p s1).bind λb=>some (b==10)))) (some false)):Ax).bind λs=>cond s (r (IntKind.wrap .i64 (s1+1))) (some (.nx s1))
def aAe(n:Nat)(p:Str)(k:Nat):Int->Option (LR Int S_refinementref01_token):=aL (awI n p) k
def awZ(n:Nat)(p:Str)(r:F52t)(s:Int):Option (LR Int S_refinementref01_token):=((cond (decide (s<(p.length:Int))) ((oL p s).bind λx=>(auF n x).bind λa=>some a) (some false)):Ax).bind λb=>cond b (r (IntKind.wrap .i64 (s+1))) (some (.nx s))
def azG(n:Nat)(p:Str)(k:Nat):Int->Option (LR Int S_refinementref01_token):=aL (awZ n p) k
def aqn(n:Nat)(p:Str)(j:Int):Option S_refinementref01_token:=(aAe n p n j).bind (LR.el (λs=>cond (s==(p.length:Int)) (some (S_refinementref01_token.mk 0 ([]:Str) s)) ((azG n p n s).bind (LR.el (λa=>(kQ p s a).bind λx=>(((oL p s).bind λb=>(wD n b).bind λc=>cond c ((Ja n x).bind λd=>some d) (some false)):Ax).bind λk=>cond k (some (S_refinementref01_token.mk 2 x s)) ((((oL p s).bind λe=>(wD n e).bind λf=>cond f (some (decide (16<(x.length:Int)))) (some false)):Ax).bind λl=>cond l (some (S_refinementref01_token.mk 5 x s)) ((oL p s).bind λm=>(wD n m).bind λo=>cond o (((((cond (decide (a<(p.length:Int))) ((oL p a).bind λq=>some (q==39)) (some false)):Ax).bind λt=>cond t ((kQ p s (IntKind.wrap .i64 (a+1))).bind λu=>some u) (some x)):Option Str).bind λv=>some (S_refinementref01_token.mk 1 v s)) ((((oL p s).bind λw=>(CY n w).bind λg=>cond g ((anE n x).bind λh=>some (decide (h<0))) (some false)):Ax).bind λy=>cond y (some (S_refinementref01_token.mk 5 x s)) ((oL p s).bind λz=>(CY n z).bind λA=>cond A (some (S_refinementref01_token.mk 3 x s)) ((avy n p s).bind λi=>cond (!(i==([]:Str))) (some (S_refinementref01_token.mk 4 i s)) (some (S_refinementref01_token.mk 5 ([]:Str) s)))))))) (λr=>some r)))) (λr=>some r))
def asu(n:Nat)(a:Str)(b:Int)(c:Str)(d:Int)(e:Int)(f:Int)(p:Int):Ax:=some (p==0)
def acK(n:Nat)(c:Str)(p:Int)(a:Str)(d:Int)(e:Int)(f:Int)(g:Int)(b:Str):Ax:=((cond (p==4) (some (a==b)) (cond (p==2) (some (a==b)) (some false))):Ax).bind λs=>some s
def L8(n:Nat)(d:Str)(e:Int)(f:Str)(g:Int)(h:Int)(a:Int)(p:Int)(b:Int)(c:Int):Option (Int×Int):=cond (p==0) (some (c,b)) (some (a,p))
def LY(n:Nat)(e:Str)(g:Int)(a:Str)(b:Int)(p:Int)(c:Int)(d:Int):Option (Int×Str×Int×Int×Int×Int):=(((Mi n a ([([40]:Str),([91]:Str),([123]:Str)])).bind λh=>cond h (cond (decide (64<(IntKind.wrap .i64 (p+1)))) ((L8 n e g a b (IntKind.wrap .i64 (p+1)) c d 4 b).bind λf=>some ((IntKind.wrap .i64 (p+1)),f.1,f.2)) (some ((IntKind.wrap .i64 (p+1)),c,d))) (some (p,c,d))):Option (Int×Int×Int)).bind λs=>(((Mi n a ([([41]:Str),([93]:Str),([125]:Str)])).bind λi=>cond i (some (IntKind.wrap .i64 (s.1 - 1))) (some s.1)):B0).bind λj=>(aqn n e (IntKind.wrap .i64 (b+(a.length:Int)))).bind λx=>some (x.kind,x.s,x.at_,j,s.2.1,s.2.2)
def Ck(n:Nat)(a:Str)(b:Int)(c:Str)(p:Int)(d:Int)(e:Int)(f:Int):Option (Int×Int):=(L8 n a b c p d e f 2 p).bind λx=>some (x.1,x.2)
def akU(n:Nat)(f:Str)(p:Int)(a:Str)(b:Int)(c:Int)(e:Int)(d:Int)(h:Str):Option (Int×Str×Int×Int×Int×Int):=cond (!(d==0)) (some (p,a,b,c,e,d)) ((acK n f p a b c e d h).bind λi=>cond (!i) ((Ck n f p a b c e d).bind λg=>some (p,a,b,c,g.1,g.2)) ((LY n f p a b c e d).bind λx=>some (x.1,x.2.1,x.2.2.1,x.2.2.2.1,x.2.2.2.2.1,x.2.2.2.2.2)))
def ade(n:Nat)(p:Str)(c:Int)(a:Str)(b:Int)(d:Int)(e:Int)(f:Int):Ax:=(aqn n p (IntKind.wrap .i64 (b+(a.length:Int)))).bind λx=>((cond (x.kind==2) (some (x.s==([105,110]:Str))) (some false)):Ax).bind λs=>some s
def af5(n:Nat)(p:Str):B0:=cond (p==([61]:Str)) (some 10) (cond (p==([47,61]:Str)) (some 11) (cond (p==([60]:Str)) (some 12) (cond (p==([60,61]:Str)) (some 13) (cond (p==([62]:Str)) (some 14) (cond (p==([62,61]:Str)) (some 15) (cond (p==([105,110]:Str)) (some 16) (cond (p==([110,111,116,105,110]:Str)) (some 17) (cond (p==([115,117,98]:Str)) (some 18) (some 0)))))))))
def abl(n:Nat)(p:Str):B0:=cond (p==([60,45,62]:Str)) (some 41) (cond (p==([43,45,62]:Str)) (some 42) (cond (p==([45,45,62]:Str)) (some 43) (cond (p==([62,45,62]:Str)) (some 44) (cond (p==([62,45,62,62]:Str)) (some 45) (some 0)))))
def auE(n:Nat)(p:Str):B0:=cond (p==([92,47]:Str)) (some 31) (cond (p==([47,92]:Str)) (some 32) (cond (p==([92]:Str)) (some 33) (cond (p==([62,60]:Str)) (some 34) (cond (p==([60,43]:Str)) (some 35) (cond (p==([59]:Str)) (some 36) (cond (p==([60,124]:Str)) (some 37) (cond (p==([60,60,124]:Str)) (some 38) (cond (p==([124,62]:Str)) (some 39) (cond (p==([124,62,62]:Str)) (some 40) (some 0))))))))))
def amL(n:Nat)(p:Str):Option (Int×Int):=cond (p==([60,61,62]:Str)) (some (1,7)) (cond (p==([61,62]:Str)) (some (2,6)) (cond (p==([111,114]:Str)) (some (3,5)) (cond (p==([38]:Str)) (some (4,4)) (cond (p==([124,45,62]:Str)) (some (8,27)) (cond (p==([46,46]:Str)) (some (10,30)) (cond (p==([43]:Str)) (some (11,22)) (cond (p==([45]:Str)) (some (11,23)) (cond (p==([42]:Str)) (some (12,24)) (cond (p==([47]:Str)) (some (12,25)) (cond (p==([109,111,100]:Str)) (some (12,26)) ((af5 n p).bind λx=>cond (decide (0<x)) (some (6,x)) ((abl n p).bind λa=>cond (decide (0<a)) (some (7,a)) ((auE n p).bind λb=>cond (decide (0<b)) (some (9,b)) (some (0,0)))))))))))))))
def acE(n:Nat)(c:Str)(p:Int)(a:Str)(d:Int)(e:Int)(f:Int)(g:Int)(b:Int):B0:=((cond (p !=4) (some (p !=2)) (some false)):Ax).bind λs=>cond s (some 0) ((amL n a).bind λx=>cond (x.1 !=b) (some 0) (some x.2))
def akR(n:Nat)(f:Str)(a:Int)(p:Str)(b:Int)(c:Int)(e:Int)(d:Int):Option (Str×Int×Str×Int×Int×Int×Int):=cond (!(d==0)) (some (([]:Str),a,p,b,c,e,d)) (((cond (a !=1) (some true) ((Nk n p).bind λh=>some h)):Ax).bind λs=>cond s ((Ck n f a p b c e d).bind λg=>some (([]:Str),a,p,b,c,g.1,g.2)) ((LY n f a p b c e d).bind λx=>some (p,x.1,x.2.1,x.2.2.1,x.2.2.2.1,x.2.2.2.2.1,x.2.2.2.2.2)))
def aos(n:Nat)(p:Str)(r:F5t)(s1:Int):Option (LR Unit Int):=cond (decide (s1<(([([80,79,87]:Str),([99,97,114,100]:Str),([109,105,110]:Str),([109,97,120]:Str),([100,111,109]:Str),([114,97,110]:Str)]).length:Int))) ((idx ([([80,79,87]:Str),([99,97,114,100]:Str),([109,105,110]:Str),([109,97,120]:Str),([100,111,109]:Str),([114,97,110]:Str)]) s1).bind λx=>cond (x==p) (some (.rt (IntKind.wrap .i64 (46+s1)))) (r (s1+1))) (some (.nx ()))
def arE(n:Nat)(p:Str)(k:Nat):Int->Option (LR Unit Int):=aL (aos n p) k
def aAG(n:Nat)(p:Str):B0:=(arE n p n 0).bind (LR.el (λs=>some 0) (λr=>some r))
def aoT(n:Nat)(c:Str)(a:Int)(d:Str)(e:Int)(f:Int)(b:Int)(p:Int):Option (Int×Int):=((cond (p==0) (some (a !=0)) (some false)):Ax).bind λs=>cond s ((Ck n c a d e f b p).bind λx=>some (x.1,x.2)) (some (b,p))
end Abs
end Go.Proofs.YtneeginmfjageaaGreat
