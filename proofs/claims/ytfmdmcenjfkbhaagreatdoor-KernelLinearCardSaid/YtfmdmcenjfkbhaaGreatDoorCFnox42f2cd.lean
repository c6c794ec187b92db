/-
  Printed by gend.py. Conditions: none.
-/
import Derived.Test.YtfmdmcenjfkbhaaGreatDoorCData2ox602d87
set_option linter.all false
namespace Go.Proofs.YtfmdmcenjfkbhaaGreatDoor
namespace Abs
open Go Go.Proofs
set_option maxRecDepth 100000
structure S_refinementref04_form where
 atoms:List Tm
 coefs:List Int
 c:Int
structure S_api_Term_ where
 atoms:List Tm
 coefs:List Int
 c:Int
structure S_term_scope where
 a:List Str
 b:List Str
abbrev F0t:=Int→Option (LR Unit Bool)
abbrev F1t:=Ty→Ty→Option Bool
abbrev F2t:=Tm→Option Tm
abbrev F3t:=Ty→Option Ty
abbrev F4t:=(List Ty)→Int→Int→Int→Int→Option (Int×Int)
abbrev F5t:=(List Ty)→Int→Int→Int→Int→Option (Bool×Int)
abbrev F6t:=Int→Int→Int→Ty→Int→Bool→Option (Bool×Int)
abbrev F7t:=Ty→Int→Int→Int→Int→Option (Bool×Int)
abbrev F8t:=(List Tm)→Int→Int→Int→Int→Option (Int×Int)
abbrev F9t:=(List Tm)→Int→Int→Int→Int→Option (Bool×Int)
abbrev F10t:=Int→Int→Int→Tm→Int→Option (Bool×Int)
abbrev F11t:=Tm→Int→Int→Int→Int→Option (Bool×Int)
abbrev F12t:=(List Tm)→Option (List Tm)
abbrev F13t:=(List Tm)→(List Tm)→Option Bool
abbrev F14t:=Tm→Tm→Option Bool
abbrev F15t:=(List Ty)→(List Ty)→Option Bool
abbrev F16t:=Ty→Int→Int→Option Int
abbrev F17t:=Tm→Int→Int→Option Int
abbrev F18t:=Int→Option (LR Unit Int)
abbrev F19t:=Tm→Tm→(List Str)→(List Str)→Option Bool
abbrev F20t:=S_term_scope→Tm→Tm→Option Bool
abbrev F21t:=(Int×Int)→Option (LR Int Int)
abbrev F22t:=(Int×(List Tm)×(List Int))→Option (LR ((List Tm)×(List Int)) (S_refinementref04_form×Int))
abbrev F23t:=(Int×(List Ty))→Option (LR (List Ty) Ty)
abbrev F24t:=(Int×Int)→Option (LR Int (Int×Int))
abbrev F25t:=(Int×(List Tm)×(List Int))→Option (LR ((List Tm)×(List Int)) S_api_Term_)
def Gy(n:Nat)(p0:Int):Option Int:=(((cond (p0==1) (some true) (cond (p0==2) (some true) (cond (p0==19) (some true) (cond (p0==20) (some true) (some (p0==29)))))):Option Bool).bind fun s1=>(cond s1 (some 0) (((cond (p0==3) (some true) (cond (p0==21) (some true) (cond (decide (46≤p0)) (some (decide (p0≤52))) (some false)))):Option Bool).bind fun s2=>(cond s2 (some 1) (cond (p0==28) (some (-1)) (((cond (decide (4≤p0)) (some (decide (p0≤56))) (some false)):Option Bool).bind fun s3=>(cond s3 (some 2) (some (-2)))))))))
def wK(n:Nat)(p0:Int):Option Bool:=(((cond (decide (97≤p0)) (cond (decide (p0≤122)) (some true) (cond (decide (65≤p0)) (some (decide (p0≤90))) (some false))) (cond (decide (65≤p0)) (some (decide (p0≤90))) (some false))):Option Bool).bind fun s1=>some s1)
def Xx(n:Nat)(p0:Str)(p1:List Str)(rec:F0t)(s1:Int):Option (LR Unit Bool):=(cond (decide (s1<(p1.length:Int))) ((idx p1 s1).bind fun x1=>(cond (x1==p0) (some (.rt true)) (rec (s1+1)))) (some (.nx ())))
def Q8(n:Nat)(p0:Str)(p1:List Str)(k:Nat):Int→Option (LR Unit Bool):=dz (Xx n p0 p1) k
def PS(n:Nat)(p0:Str)(p1:List Str):Option Bool:=((Q8 n p0 p1 n 0).bind (LR.el (fun s2=>some false) (fun r=>some r)))
def yC(n:Nat)(p0:Str):Option Bool:=((PS n p0 ([([116,114,117,101]:Str),([102,97,108,115,101]:Str),([110,111,116]:Str),([111,114]:Str),([102,111,114,97,108,108]:Str),([101,120,105,115,116,115]:Str),([105,110]:Str),([110,111,116,105,110]:Str),([115,117,98]:Str),([109,111,100]:Str),([102,117,110]:Str),([99,97,114,100]:Str),([109,105,110]:Str),([109,97,120]:Str),([100,111,109]:Str),([114,97,110]:Str),([80,79,87]:Str),([105,110,116]:Str),([98,111,111,108]:Str),([115,101,116]:Str),([112,97,105,114]:Str)])).bind fun x1=>some x1)
def DZ(n:Nat)(p0:Int):Option Bool:=(((cond (decide (48≤p0)) (some (decide (p0≤57))) (some false)):Option Bool).bind fun s1=>some s1)
def Hq(n:Nat)(p0:Str)(rec:F0t)(s2:Int):Option (LR Unit Bool):=(cond (decide (s2<(p0.length:Int))) ((((qP p0 s2).bind fun x1=>((wK n x1).bind fun x2=>(cond (!x2) ((qP p0 s2).bind fun x3=>((DZ n x3).bind fun x4=>(cond (!x4) ((qP p0 s2).bind fun x5=>some (x5 !=95)) (some false)))) (some false)))):Option Bool).bind fun s4=>(cond s4 (some (.rt false)) (rec (s2+1)))) (some (.nx ())))
def rP(n:Nat)(p0:Str)(k:Nat):Int→Option (LR Unit Bool):=dz (Hq n p0) k
def jh(n:Nat)(p0:Str):Option Bool:=(((cond (decide ((p0.length:Int)<1)) (some true) (cond (decide (16<(p0.length:Int))) (some true) ((qP p0 0).bind fun x6=>((wK n x6).bind fun x7=>(cond (!x7) (some true) ((yC n p0).bind fun x8=>some x8)))))):Option Bool).bind fun s1=>(cond s1 (some false) ((rP n p0 n 1).bind (LR.el (fun s3=>some true) (fun r=>some r)))))
def Af(n:Nat)(p0:Str):Option Bool:=(((cond (decide (1<(p0.length:Int))) ((qP p0 ((p0.length:Int) - 1)).bind fun x1=>(cond (x1==39) ((nQ p0 0 ((p0.length:Int) - 1)).bind fun x2=>((jh n x2).bind fun x3=>some x3)) (some false))) (some false)):Option Bool).bind fun s1=>some s1)
def C8(n:Nat)(p0:Str):Option Bool:=((((jh n p0).bind fun x1=>(cond x1 (some true) ((Af n p0).bind fun x2=>some x2))):Option Bool).bind fun s1=>some s1)
def nA(n:Nat)(p0:Int):Option Bool:=(((cond (p0==8) (some true) (cond (p0==9) (some true) (cond (p0==55) (some true) (some (p0==56))))):Option Bool).bind fun s1=>some s1)
def Ra(n:Nat)(qav:F16t)(p0:Ty)(p1:Int)(rec:F21t)(s4:Int×Int):Option (LR Int Int):=(cond (decide (s4.2<(p0.kids.length:Int))) ((idx p0.kids s4.2).bind fun x1=>((qav x1 (IntKind.wrap .i64 (p1+1)) s4.1).bind fun x2=>(cond (decide (x2<0)) (some (.rt (-1))) (rec (x2,(s4.2+1)))))) (some (.nx s4.1)))
def vQ(n:Nat)(qav:F16t)(p0:Ty)(p1:Int)(k:Nat):(Int×Int)→Option (LR Int Int):=dz (Ra n qav p0 p1) k
def wX(n:Nat)(qav:F16t)(p0:Ty)(p1:Int)(p2:Int):Option Int:=(((cond (decide (6<p1)) (some true) (cond (decide (16<(IntKind.wrap .i64 (p2+1)))) (some true) (cond (p0.kind==2) (some (decide (1<p1))) (some false)))):Option Bool).bind fun s1=>(cond s1 (some (-1)) (((((cond (p0.kind==1) (some (p0.kind==1)) (cond (p0.kind==2) (some (p0.kind==2)) (some (p0.kind==3)))):Option Bool).bind fun s6=>(cond s6 (some (.nx 0)) (cond (p0.kind==5) (some (.nx 1)) (cond (p0.kind==4) (some (.nx 2)) (some (.rt (-1))))))):Option (LR Int Int)).bind (LR.el (fun s2=>(((cond ((p0.kids.length:Int)!=s2) (some true) (cond (p0.kind==3) ((jh n p0.name).bind fun x3=>(cond (!x3) (some true) (cond (p0.kind !=3) (some (!(p0.name==([]:Str)))) (some false)))) (cond (p0.kind !=3) (some (!(p0.name==([]:Str)))) (some false)))):Option Bool).bind fun s3=>(cond s3 (some (-1)) ((vQ n qav p0 p1 n ((IntKind.wrap .i64 (p2+1)),0)).bind (LR.el (fun s5=>some s5) (fun r=>some r)))))) (fun r=>some r)))))
def nJ:Nat→Ty→Int→Int→Option Int
 |0,_,_,_=>none
 |n+1,p0,p1,p2=>wX n (nJ n) p0 p1 p2
def zP(n:Nat)(p0:Ty):Option Bool:=((nJ n p0 1 0).bind fun x1=>some (decide (0<x1)))
def vR(n:Nat)(p0:Ty):Option Bool:=(((cond (p0.kind==0) (cond (p0.name==([]:Str)) (some ((p0.kids.length:Int)==0)) (some false)) (some false)):Option Bool).bind fun s1=>some s1)
def G7(n:Nat)(p0:Tm):Option Bool:=((Gy n p0.op).bind fun x1=>(((cond (x1==(-2)) (some true) (cond (x1==(-1)) (cond ((p0.kids.length:Int)==0) (some true) (cond (decide (0≤x1)) (some ((p0.kids.length:Int)!=x1)) (some false))) (cond (decide (0≤x1)) (some ((p0.kids.length:Int)!=x1)) (some false)))):Option Bool).bind fun s1=>(cond s1 (some false) (((cond (p0.op==20) ((C8 n p0.name).bind fun x4=>(cond (!x4) (some (.rt false)) (some (.nx ())))) ((nA n p0.op).bind fun x5=>(cond x5 ((jh n p0.name).bind fun x6=>(cond (!x6) (some (.rt false)) (some (.nx ())))) (cond (!(p0.name==([]:Str))) (some (.rt false)) (some (.nx ())))))):Option (LR Unit Bool)).bind (LR.el (fun s2=>(((cond (p0.op==19) (cond (decide (p0.n<0)) (some true) (cond (decide (1000000000<p0.n)) (some true) (cond (p0.op !=19) (some (p0.n !=0)) (some false)))) (cond (p0.op !=19) (some (p0.n !=0)) (some false))):Option Bool).bind fun s3=>(cond s3 (some false) (cond (p0.op==29) ((((zP n p0.ty).bind fun x2=>(cond x2 (some (p0.ty.kind !=2)) (some false))):Option Bool).bind fun s4=>some s4) ((vR n p0.ty).bind fun x3=>some x3))))) (fun r=>some r))))))
def Qr(n:Nat)(qau:F17t)(p0:Tm)(p1:Int)(rec:F21t)(s2:Int×Int):Option (LR Int Int):=(cond (decide (s2.2<(p0.kids.length:Int))) ((idx p0.kids s2.2).bind fun x1=>((qau x1 (IntKind.wrap .i64 (p1+1)) s2.1).bind fun x2=>(cond (decide (x2<0)) (some (.rt (-1))) (rec (x2,(s2.2+1)))))) (some (.nx s2.1)))
def IE(n:Nat)(qau:F17t)(p0:Tm)(p1:Int)(k:Nat):(Int×Int)→Option (LR Int Int):=dz (Qr n qau p0 p1) k
def xg(n:Nat)(qau:F17t)(p0:Tm)(p1:Int)(p2:Int):Option Int:=(((cond (decide (64<p1)) (some true) (cond (decide (2000<(IntKind.wrap .i64 (p2+1)))) (some true) ((G7 n p0).bind fun x3=>some (!x3)))):Option Bool).bind fun s1=>(cond s1 (some (-1)) ((IE n qau p0 p1 n ((IntKind.wrap .i64 (p2+1)),0)).bind (LR.el (fun s3=>some s3) (fun r=>some r)))))
def rU:Nat→Tm→Int→Int→Option Int
 |0,_,_,_=>none
 |n+1,p0,p1,p2=>xg n (rU n) p0 p1 p2
def zT(n:Nat)(p0:Tm):Option Bool:=((rU n p0 1 0).bind fun x1=>some (decide (0<x1)))
def zB(n:Nat)(p0:Int):Option Bool:=(((cond (decide (1000000000<p0)) (some true) (some (decide (p0<(-1000000000))))):Option Bool).bind fun s1=>some s1)
def qp(n:Nat)(p0:S_refinementref04_form)(rec:F22t)(s1:Int×(List Tm)×(List Int)):Option (LR ((List Tm)×(List Int)) (S_refinementref04_form×Int)):=(cond (decide (s1.1<(p0.atoms.length:Int))) ((((idx p0.coefs s1.1).bind fun x2=>((zB n x2).bind fun x3=>(cond x3 (some (.rt ((S_refinementref04_form.mk ([]) ([]) 0),11))) ((idx p0.coefs s1.1).bind fun x4=>(cond (x4 !=0) ((idx p0.atoms s1.1).bind fun x5=>((app 104 s1.2.1 ([x5])).bind fun x6=>((idx p0.coefs s1.1).bind fun x7=>((app 8 s1.2.2 ([x7])).bind fun x8=>some (.nx (x6,x8)))))) (some (.nx (s1.2.1,s1.2.2)))))))):Option (LR ((List Tm)×(List Int)) (S_refinementref04_form×Int))).bind (LR.el (fun s3=>rec ((s1.1+1),s3.1,s3.2)) (fun r=>some (.rt r)))) (some (.nx (s1.2.1,s1.2.2))))
def Ea(n:Nat)(p0:S_refinementref04_form)(k:Nat):(Int×(List Tm)×(List Int))→Option (LR ((List Tm)×(List Int)) (S_refinementref04_form×Int)):=dz (qp n p0) k
def nP(n:Nat)(p0:S_refinementref04_form):Option (S_refinementref04_form×Int):=((zB n p0.c).bind fun x1=>(cond x1 (some ((S_refinementref04_form.mk ([]) ([]) 0),11)) ((Ea n p0 n (0,([]:List Tm),([]:List Int))).bind (LR.el (fun s2=>some ((S_refinementref04_form.mk s2.1 s2.2 p0.c),0)) (fun r=>some r)))))
def rH(n:Nat)(p0:S_refinementref04_form)(p1:Int)(rec:(Int×(List Int))→Option (LR (List Int) (S_refinementref04_form×Int)))(s1:Int×(List Int)):Option (LR (List Int) (S_refinementref04_form×Int)):=(cond (decide (s1.1<(p0.coefs.length:Int))) ((idx p0.coefs s1.1).bind fun x2=>((app 8 s1.2 ([(IntKind.wrap .i64 (p1*x2))])).bind fun x3=>rec ((s1.1+1),x3))) (some (.nx s1.2)))
def FD(n:Nat)(p0:S_refinementref04_form)(p1:Int)(k:Nat):(Int×(List Int))→Option (LR (List Int) (S_refinementref04_form×Int)):=dz (rH n p0 p1) k
def sG(n:Nat)(p0:S_refinementref04_form)(p1:Int):Option (S_refinementref04_form×Int):=((FD n p0 p1 n (0,([]:List Int))).bind (LR.el (fun s2=>((nP n (S_refinementref04_form.mk p0.atoms s2 (IntKind.wrap .i64 (p1*p0.c)))).bind fun x1=>some (x1.1,x1.2))) (fun r=>some r)))
def LU(n:Nat)(qas:F1t)(p0:Ty)(p1:Ty)(rec:F0t)(s2:Int):Option (LR Unit Bool):=(cond (decide (s2<(p0.kids.length:Int))) ((idx p0.kids s2).bind fun x1=>((idx p1.kids s2).bind fun x2=>((qas x1 x2).bind fun x3=>(cond (!x3) (some (.rt false)) (rec (s2+1)))))) (some (.nx ())))
def vC(n:Nat)(qas:F1t)(p0:Ty)(p1:Ty)(k:Nat):Int→Option (LR Unit Bool):=dz (LU n qas p0 p1) k
def kI(n:Nat)(qas:F1t)(p0:Ty)(p1:Ty):Option Bool:=(((cond (p0.kind !=p1.kind) (some true) (cond (!(p0.name==p1.name)) (some true) (some ((p0.kids.length:Int)!=(p1.kids.length:Int))))):Option Bool).bind fun s1=>(cond s1 (some false) ((vC n qas p0 p1 n 0).bind (LR.el (fun s3=>some true) (fun r=>some r)))))
def iB:Nat→Ty→Ty→Option Bool
 |0,_,_=>none
 |n+1,p0,p1=>kI n (iB n) p0 p1
def TF(n:Nat)(p0:Str)(p1:List Str)(rec:F18t)(s1:Int):Option (LR Unit Int):=(cond (decide (0≤s1)) ((idx p1 s1).bind fun x1=>(cond (x1==p0) (some (.rt s1)) (rec (IntKind.wrap .i64 (s1 - 1))))) (some (.nx ())))
def yA(n:Nat)(p0:Str)(p1:List Str)(k:Nat):Int→Option (LR Unit Int):=dz (TF n p0 p1) k
def u7(n:Nat)(p0:Str)(p1:List Str):Option Int:=((yA n p0 p1 n ((p1.length:Int) - 1)).bind (LR.el (fun s2=>some (-1)) (fun r=>some r)))
def uL(n:Nat)(p0:List Str)(p1:Str):Option (List Str):=((app 16 ([]:List Str) p0).bind fun x1=>((app 16 x1 ([p1])).bind fun x2=>some x2))
def Ry(n:Nat)(qat:F19t)(p0:Tm)(p1:Tm)(p2:List Str)(p3:List Str)(rec:F0t)(s3:Int):Option (LR Unit Bool):=(cond (decide (s3<(p0.kids.length:Int))) ((((((nA n p0.op).bind fun x8=>(cond x8 (some (s3==1)) (some false))):Option Bool).bind fun s6=>(cond s6 ((uL n p2 p0.name).bind fun x6=>((uL n p3 p1.name).bind fun x7=>some (x6,x7))) (some (p2,p3)))):Option ((List Str)×(List Str))).bind fun s5=>((idx p0.kids s3).bind fun x3=>((idx p1.kids s3).bind fun x4=>((qat x3 x4 s5.1 s5.2).bind fun x5=>(cond (!x5) (some (.rt false)) (rec (s3+1))))))) (some (.nx ())))
def Ik(n:Nat)(qat:F19t)(p0:Tm)(p1:Tm)(p2:List Str)(p3:List Str)(k:Nat):Int→Option (LR Unit Bool):=dz (Ry n qat p0 p1 p2 p3) k
def xA(n:Nat)(qat:F19t)(p0:Tm)(p1:Tm)(p2:List Str)(p3:List Str):Option Bool:=(((cond (p0.op !=p1.op) (some true) (cond (p0.n !=p1.n) (some true) ((iB n p0.ty p1.ty).bind fun x9=>(cond (!x9) (some true) (some ((p0.kids.length:Int)!=(p1.kids.length:Int))))))):Option Bool).bind fun s1=>(cond s1 (some false) (cond (p0.op==20) ((u7 n p0.name p2).bind fun x1=>((u7 n p1.name p3).bind fun x2=>(((cond (x1==x2) (cond (decide (0≤x1)) (some true) (some (p0.name==p1.name))) (some false)):Option Bool).bind fun s2=>some s2))) ((Ik n qat p0 p1 p2 p3 n 0).bind (LR.el (fun s4=>some true) (fun r=>some r))))))
def rM:Nat→Tm→Tm→(List Str)→(List Str)→Option Bool
 |0,_,_,_,_=>none
 |n+1,p0,p1,p2,p3=>xA n (rM n) p0 p1 p2 p3
def Du(n:Nat)(p0:Tm)(p1:Tm):Option Bool:=((((zT n p0).bind fun x1=>(cond x1 ((zT n p1).bind fun x2=>(cond x2 ((rM n p0 p1 ([]:List Str) ([]:List Str)).bind fun x3=>some x3) (some false))) (some false))):Option Bool).bind fun s1=>some s1)
def uj(n:Nat)(p1:S_refinementref04_form)(s1:Int×(List Tm)×(List Int))(rec:(Int×Int)→Option (LR Int (S_refinementref04_form×Int)))(s4:Int×Int):Option (LR Int (S_refinementref04_form×Int)):=(cond (decide (s4.2<(s1.2.1.length:Int))) ((((idx s1.2.1 s4.2).bind fun x13=>((idx p1.atoms s1.1).bind fun x14=>((Du n x13 x14).bind fun x15=>(cond x15 (some s4.2) (some s4.1))))):Option Int).bind fun s6=>rec (s6,(s4.2+1))) (some (.nx s4.1)))
def Ii(n:Nat)(p1:S_refinementref04_form)(s1:Int×(List Tm)×(List Int))(k:Nat):(Int×Int)→Option (LR Int (S_refinementref04_form×Int)):=dz (uj n p1 s1) k
def uq(n:Nat)(p1:S_refinementref04_form)(p2:Int)(rec:F22t)(s1:Int×(List Tm)×(List Int)):Option (LR ((List Tm)×(List Int)) (S_refinementref04_form×Int)):=(cond (decide (s1.1<(p1.atoms.length:Int))) ((((Ii n p1 s1 n ((-1),0)).bind (LR.el (fun s5=>(cond (decide (s5<0)) ((idx p1.atoms s1.1).bind fun x4=>((app 104 s1.2.1 ([x4])).bind fun x5=>((idx p1.coefs s1.1).bind fun x6=>((app 8 s1.2.2 ([(IntKind.wrap .i64 (p2*x6))])).bind fun x7=>some (x5,x7))))) ((idx s1.2.2 s5).bind fun x8=>((idx s1.2.2 s5).bind fun x9=>((idx p1.coefs s1.1).bind fun x10=>((idx s1.2.2 s5).bind fun x11=>((idx s1.2.2 s5).bind fun x12=>some (s1.2.1,(upd s1.2.2 s5 (IntKind.wrap .i64 (x9+(IntKind.wrap .i64 (p2*x10))))))))))))) (fun r=>none))):Option ((List Tm)×(List Int))).bind fun s3=>rec ((s1.1+1),s3.1,s3.2)) (some (.nx (s1.2.1,s1.2.2))))
def Bt(n:Nat)(p1:S_refinementref04_form)(p2:Int)(k:Nat):(Int×(List Tm)×(List Int))→Option (LR ((List Tm)×(List Int)) (S_refinementref04_form×Int)):=dz (uq n p1 p2) k
def y7(n:Nat)(p0:S_refinementref04_form)(p1:S_refinementref04_form)(p2:Int):Option (S_refinementref04_form×Int):=((app 104 ([]:List Tm) p0.atoms).bind fun x1=>((app 8 ([]:List Int) p0.coefs).bind fun x2=>((Bt n p1 p2 n (0,x1,x2)).bind (LR.el (fun s2=>((nP n (S_refinementref04_form.mk s2.1 s2.2 (IntKind.wrap .i64 (p0.c+(IntKind.wrap .i64 (p2*p1.c)))))).bind fun x3=>some (x3.1,x3.2))) (fun r=>some r)))))
def uJ(n:Nat)(qaw:Tm→Option (S_refinementref04_form×Int))(p0:Tm):Option (S_refinementref04_form×Int):=(cond (p0.op==19) ((nP n (S_refinementref04_form.mk ([]) ([]) p0.n)).bind fun x1=>some (x1.1,x1.2)) (((cond (p0.op==21) (some (p0.op==21)) (cond (p0.op==22) (some (p0.op==22)) (cond (p0.op==23) (some (p0.op==23)) (some (p0.op==24))))):Option Bool).bind fun s1=>(cond s1 ((idx p0.kids 0).bind fun x2=>((qaw x2).bind fun x3=>(cond (x3.2 !=0) (some ((S_refinementref04_form.mk ([]) ([]) 0),x3.2)) (cond (p0.op==21) ((sG n x3.1 (-1)).bind fun x4=>some (x4.1,x4.2)) ((idx p0.kids 1).bind fun x5=>((qaw x5).bind fun x6=>(cond (x6.2 !=0) (some ((S_refinementref04_form.mk ([]) ([]) 0),x6.2)) (cond (p0.op==22) ((y7 n x3.1 x6.1 1).bind fun x7=>some (x7.1,x7.2)) (cond (p0.op==23) ((y7 n x3.1 x6.1 (-1)).bind fun x8=>some (x8.1,x8.2)) (cond ((x3.1.atoms.length:Int)==0) ((sG n x6.1 x3.1.c).bind fun x9=>some (x9.1,x9.2)) (cond ((x6.1.atoms.length:Int)==0) ((sG n x3.1 x6.1.c).bind fun x10=>some (x10.1,x10.2)) (some ((S_refinementref04_form.mk ([p0]) ([1]) 0),0))))))))))))) (some ((S_refinementref04_form.mk ([p0]) ([1]) 0),0)))))
def wH:Nat→Tm→Option (S_refinementref04_form×Int)
 |0,_=>none
 |n+1,p0=>uJ n (wH n) p0
def KG(n:Nat)(qap:F3t)(p0:Ty)(rec:F23t)(s1:Int×(List Ty)):Option (LR (List Ty) Ty):=(cond (decide (s1.1<(p0.kids.length:Int))) ((idx p0.kids s1.1).bind fun x1=>((qap x1).bind fun x2=>((app 48 s1.2 ([x2])).bind fun x3=>rec ((s1.1+1),x3)))) (some (.nx s1.2)))
def uP(n:Nat)(qap:F3t)(p0:Ty)(k:Nat):(Int×(List Ty))→Option (LR (List Ty) Ty):=dz (KG n qap p0) k
def kS(n:Nat)(qap:F3t)(p0:Ty):Option Ty:=((uP n qap p0 n (0,([]:List Ty))).bind (LR.el (fun s2=>some (Ty.mk p0.kind p0.name s2)) (fun r=>some r)))
def jH:Nat→Ty→Option Ty
 |0,_=>none
 |n+1,p0=>kS n (jH n) p0
def O8(n:Nat)(qan:F12t)(qao:F2t)(p0:List Tm)(rec:((List Tm)×Int)→Option (LR (List Tm) (List Tm)))(s1:(List Tm)×Int):Option (LR (List Tm) (List Tm)):=(cond (decide (s1.2<(p0.length:Int))) ((idx p0 s1.2).bind fun x1=>((qao x1).bind fun x2=>((app 104 s1.1 ([x2])).bind fun x3=>rec (x3,(s1.2+1))))) (some (.nx s1.1)))
def Fv(n:Nat)(qan:F12t)(qao:F2t)(p0:List Tm)(k:Nat):((List Tm)×Int)→Option (LR (List Tm) (List Tm)):=dz (O8 n qan qao p0) k
def uO(n:Nat)(qan:F12t)(qao:F2t)(p0:List Tm):Option (List Tm):=((Fv n qan qao p0 n (([]:List Tm),0)).bind (LR.el (fun s2=>some s2) (fun r=>some r)))
def zf(n:Nat)(qan:F12t)(qao:F2t)(p0:Tm):Option Tm:=((jH n p0.ty).bind fun x1=>((qan p0.kids).bind fun x2=>some (Tm.mk p0.op p0.name p0.n x1 x2)))
mutual
def nu:Nat→(List Tm)→Option (List Tm)
 |0,_=>none
 |n+1,p0=>uO n (nu n) (qE n) p0
def qE:Nat→Tm→Option Tm
 |0,_=>none
 |n+1,p0=>zf n (nu n) (qE n) p0
end
def Am(n:Nat)(p0:Tm):Option ((List Tm)×(List Int)×Int×Int):=((zT n p0).bind fun x1=>(cond (!x1) (some (([]:List Tm),([]:List Int),0,1)) ((wH n p0).bind fun x2=>((nu n x2.1.atoms).bind fun x3=>((app 8 ([]:List Int) x2.1.coefs).bind fun x4=>some (x3,x4,x2.1.c,x2.2))))))
def JH(n:Nat)(qar:F13t)(qaq:F14t)(p0:List Tm)(p1:List Tm)(rec:F0t)(s1:Int):Option (LR Unit Bool):=(cond (decide (s1<(p0.length:Int))) ((idx p0 s1).bind fun x1=>((idx p1 s1).bind fun x2=>((qaq x1 x2).bind fun x3=>(cond (!x3) (some (.rt false)) (rec (s1+1)))))) (some (.nx ())))
def AB(n:Nat)(qar:F13t)(qaq:F14t)(p0:List Tm)(p1:List Tm)(k:Nat):Int→Option (LR Unit Bool):=dz (JH n qar qaq p0 p1) k
def qU(n:Nat)(qar:F13t)(qaq:F14t)(p0:List Tm)(p1:List Tm):Option Bool:=(cond ((p0.length:Int)!=(p1.length:Int)) (some false) ((AB n qar qaq p0 p1 n 0).bind (LR.el (fun s2=>some true) (fun r=>some r))))
def rQ(n:Nat)(qar:F13t)(qaq:F14t)(p0:Tm)(p1:Tm):Option Bool:=(((cond (p0.op==p1.op) (cond (p0.name==p1.name) (cond (p0.n==p1.n) ((iB n p0.ty p1.ty).bind fun x1=>(cond x1 ((qar p0.kids p1.kids).bind fun x2=>some x2) (some false))) (some false)) (some false)) (some false)):Option Bool).bind fun s1=>some s1)
mutual
def jM:Nat→(List Tm)→(List Tm)→Option Bool
 |0,_,_=>none
 |n+1,p0,p1=>qU n (jM n) (jG n) p0 p1
def jG:Nat→Tm→Tm→Option Bool
 |0,_,_=>none
 |n+1,p0,p1=>rQ n (jM n) (jG n) p0 p1
end
def LC(n:Nat)(p0:List Int)(p1:List Int)(rec:F0t)(s1:Int):Option (LR Unit Bool):=(cond (decide (s1<(p0.length:Int))) ((idx p0 s1).bind fun x1=>((idx p1 s1).bind fun x2=>(cond (x1 !=x2) (some (.rt false)) (rec (s1+1))))) (some (.nx ())))
def Cu(n:Nat)(p0:List Int)(p1:List Int)(k:Nat):Int→Option (LR Unit Bool):=dz (LC n p0 p1) k
def vM(n:Nat)(p0:List Int)(p1:List Int):Option Bool:=(cond ((p0.length:Int)!=(p1.length:Int)) (some false) ((Cu n p0 p1 n 0).bind (LR.el (fun s2=>some true) (fun r=>some r))))
def gK(n:Nat)(p0:Int)(p1:Int)(p2:Int)(p3:Int):Option (Bool×Int):=(((cond (decide ((IntKind.wrap .i64 (p0+1))≤p1)) (some (decide (p3≤p2))) (some false)):Option Bool).bind fun s1=>some (s1,(IntKind.wrap .i64 (p0+1))))
def AQ(n:Nat)(p0:Int):Option (Int×Bool):=(((cond (p0==1) (some (p0==1)) (cond (p0==2) (some (p0==2)) (cond (p0==19) (some (p0==19)) (cond (p0==20) (some (p0==20)) (some (p0==29)))))):Option Bool).bind fun s1=>(cond s1 (some (0,true)) (((cond (p0==3) (some (p0==3)) (cond (p0==21) (some (p0==21)) (((cond (decide (46≤p0)) (some (decide (p0≤51))) (some false)):Option Bool).bind fun s4=>(cond s4 (some s4) (some (p0==52)))))):Option Bool).bind fun s2=>(cond s2 (some (1,true)) (cond (p0==28) (some ((-1),true)) (((cond (decide (1≤p0)) (some (decide (p0≤56))) (some false)):Option Bool).bind fun s3=>(cond s3 (some (2,true)) (some (0,false)))))))))
def iY(n:Nat)(p0:Str)(p1:Str):Option Bool:=(((cond (decide ((p1.length:Int)≤(p0.length:Int))) ((nQ p0 (IntKind.wrap .i64 ((p0.length:Int) - (p1.length:Int))) (p0.length:Int)).bind fun x1=>some (x1==p1)) (some false)):Option Bool).bind fun s1=>some s1)
def iN(n:Nat)(p0:Str)(p1:Str):Option Str:=((iY n p0 p1).bind fun x1=>(cond x1 ((nQ p0 0 (IntKind.wrap .i64 ((p0.length:Int) - (p1.length:Int)))).bind fun x2=>some x2) (some p0)))
def strings_TrimSuffix(n:Nat)(p0:Str)(p1:Str):Option Str:=((iN n p0 p1).bind fun x1=>some x1)
def q9(n:Nat)(p0:Int):Option Bool:=(((cond (decide (97≤p0)) (cond (decide (p0≤122)) (some true) (cond (decide (65≤p0)) (some (decide (p0≤90))) (some false))) (cond (decide (65≤p0)) (some (decide (p0≤90))) (some false))):Option Bool).bind fun s1=>some s1)
def uo(n:Nat)(p0:Str):Option Bool:=(((cond (p0==([116,114,117,101]:Str)) (some (p0==([116,114,117,101]:Str))) (cond (p0==([102,97,108,115,101]:Str)) (some (p0==([102,97,108,115,101]:Str))) (cond (p0==([110,111,116]:Str)) (some (p0==([110,111,116]:Str))) (cond (p0==([111,114]:Str)) (some (p0==([111,114]:Str))) (cond (p0==([102,111,114,97,108,108]:Str)) (some (p0==([102,111,114,97,108,108]:Str))) (cond (p0==([101,120,105,115,116,115]:Str)) (some (p0==([101,120,105,115,116,115]:Str))) (cond (p0==([105,110]:Str)) (some (p0==([105,110]:Str))) (cond (p0==([110,111,116,105,110]:Str)) (some (p0==([110,111,116,105,110]:Str))) (cond (p0==([115,117,98]:Str)) (some (p0==([115,117,98]:Str))) (cond (p0==([109,111,100]:Str)) (some (p0==([109,111,100]:Str))) (cond (p0==([102,117,110]:Str)) (some (p0==([102,117,110]:Str))) (cond (p0==([99,97,114,100]:Str)) (some (p0==([99,97,114,100]:Str))) (cond (p0==([109,105,110]:Str)) (some (p0==([109,105,110]:Str))) (cond (p0==([109,97,120]:Str)) (some (p0==([109,97,120]:Str))) (cond (p0==([100,111,109]:Str)) (some (p0==([100,111,109]:Str))) (cond (p0==([114,97,110]:Str)) (some (p0==([114,97,110]:Str))) (cond (p0==([80,79,87]:Str)) (some (p0==([80,79,87]:Str))) (cond (p0==([105,110,116]:Str)) (some (p0==([105,110,116]:Str))) (cond (p0==([98,111,111,108]:Str)) (some (p0==([98,111,111,108]:Str))) (cond (p0==([115,101,116]:Str)) (some (p0==([115,101,116]:Str))) (some (p0==([112,97,105,114]:Str))))))))))))))))))))))):Option Bool).bind fun s1=>(cond s1 (some true) (some false)))
def yG(n:Nat)(p0:Int):Option Bool:=(((cond (decide (48≤p0)) (some (decide (p0≤57))) (some false)):Option Bool).bind fun s1=>some s1)
def vN(n:Nat)(p0:Int):Option Bool:=((((q9 n p0).bind fun x1=>(cond x1 (some true) ((yG n p0).bind fun x2=>(cond x2 (some true) (some (p0==95)))))):Option Bool).bind fun s1=>some s1)
def Ey(n:Nat)(p0:Str)(rec:F0t)(s2:Int):Option (LR Unit Bool):=(cond (decide (s2<(p0.length:Int))) ((qP p0 s2).bind fun x1=>((vN n x1).bind fun x2=>(cond (!x2) (some (.rt false)) (rec (s2+1))))) (some (.nx ())))
def pU(n:Nat)(p0:Str)(k:Nat):Int→Option (LR Unit Bool):=dz (Ey n p0) k
def iU(n:Nat)(p0:Str):Option Bool:=(((cond (p0==([]:Str)) (some true) (cond (decide (16<(p0.length:Int))) (some true) ((qP p0 0).bind fun x3=>((q9 n x3).bind fun x4=>(cond (!x4) (some true) ((uo n p0).bind fun x5=>some x5)))))):Option Bool).bind fun s1=>(cond s1 (some false) ((pU n p0 n 0).bind (LR.el (fun s3=>some true) (fun r=>some r)))))
def tN(n:Nat)(p0:Str):Option Bool:=((strings_TrimSuffix n p0 ([39]:Str)).bind fun x1=>((iU n x1).bind fun x2=>some x2))
def lY(n:Nat)(p0:Int):Option Bool:=(((cond (p0==8) (some true) (cond (p0==9) (some true) (cond (p0==55) (some true) (some (p0==56))))):Option Bool).bind fun s1=>some s1)
def xO(n:Nat)(qa4:F4t)(qa1:F5t)(qa7:F6t)(qa8:F7t)(p0:List Ty)(p2:Int)(p3:Int)(p4:Int)(rec:F24t)(s1:Int×Int):Option (LR Int (Int×Int)):=(cond (decide (s1.1<(p0.length:Int))) ((idx p0 s1.1).bind fun x1=>((qa8 x1 s1.2 p2 p3 p4).bind fun x2=>(cond x2.1 (some (.rt (s1.1,x2.2))) (rec ((s1.1+1),x2.2))))) (some (.nx s1.2)))
def pY(n:Nat)(qa4:F4t)(qa1:F5t)(qa7:F6t)(qa8:F7t)(p0:List Ty)(p2:Int)(p3:Int)(p4:Int)(k:Nat):(Int×Int)→Option (LR Int (Int×Int)):=dz (xO n qa4 qa1 qa7 qa8 p0 p2 p3 p4) k
def fB(n:Nat)(qa4:F4t)(qa1:F5t)(qa7:F6t)(qa8:F7t)(p0:List Ty)(p1:Int)(p2:Int)(p3:Int)(p4:Int):Option (Int×Int):=((pY n qa4 qa1 qa7 qa8 p0 p2 p3 p4 n (0,p1)).bind (LR.el (fun s2=>some ((-1),s2)) (fun r=>some r)))
def jo(n:Nat)(qa4:F4t)(qa1:F5t)(qa7:F6t)(qa8:F7t)(p0:List Ty)(p1:Int)(p2:Int)(p3:Int)(p4:Int):Option (Bool×Int):=((qa4 p0 p1 p2 p3 p4).bind fun x1=>some ((decide (0≤x1.1)),x1.2))
def jZ(n:Nat)(qa4:F4t)(qa1:F5t)(qa7:F6t)(qa8:F7t)(p0:Int)(p1:Int)(p2:Int)(p3:Ty)(p4:Int)(p5:Bool):Option (Bool×Int):=((gK n p0 p1 p2 p4).bind fun x1=>(cond (!x1.1) (some (false,x1.2)) (((cond (p3.kind==1) (some (.nx 0)) (cond (p3.kind==2) (cond p5 (some (.rt (false,x1.2))) (some (.nx 0))) (cond (p3.kind==3) ((iU n p3.name).bind fun x3=>(cond (!x3) (some (.rt (false,x1.2))) (some (.nx 0)))) (cond (p3.kind==4) (some (.nx 2)) (cond (p3.kind==5) (some (.nx 1)) (some (.rt (false,x1.2)))))))):Option (LR Int (Bool×Int))).bind (LR.el (fun s1=>(((cond ((p3.kids.length:Int)!=s1) (some true) (cond (p3.kind !=3) (some (!(p3.name==([]:Str)))) (some false))):Option Bool).bind fun s2=>(cond s2 (some (false,x1.2)) ((qa1 p3.kids x1.2 p1 p2 p4).bind fun x2=>some ((!x2.1),x2.2))))) (fun r=>some r)))))
def jC(n:Nat)(qa4:F4t)(qa1:F5t)(qa7:F6t)(qa8:F7t)(p0:Ty)(p1:Int)(p2:Int)(p3:Int)(p4:Int):Option (Bool×Int):=((qa7 p1 p2 p3 p0 (IntKind.wrap .i64 (p4+1)) true).bind fun x1=>some ((!x1.1),x1.2))
mutual
def fZ:Nat→(List Ty)→Int→Int→Int→Int→Option (Int×Int)
 |0,_,_,_,_,_=>none
 |n+1,p0,p1,p2,p3,p4=>fB n (fZ n) (bL n) (dD n) (bS n) p0 p1 p2 p3 p4
def bL:Nat→(List Ty)→Int→Int→Int→Int→Option (Bool×Int)
 |0,_,_,_,_,_=>none
 |n+1,p0,p1,p2,p3,p4=>jo n (fZ n) (bL n) (dD n) (bS n) p0 p1 p2 p3 p4
def dD:Nat→Int→Int→Int→Ty→Int→Bool→Option (Bool×Int)
 |0,_,_,_,_,_,_=>none
 |n+1,p0,p1,p2,p3,p4,p5=>jZ n (fZ n) (bL n) (dD n) (bS n) p0 p1 p2 p3 p4 p5
def bS:Nat→Ty→Int→Int→Int→Int→Option (Bool×Int)
 |0,_,_,_,_,_=>none
 |n+1,p0,p1,p2,p3,p4=>jC n (fZ n) (bL n) (dD n) (bS n) p0 p1 p2 p3 p4
end
def u6(n:Nat)(p0:Ty):Option Bool:=((dD n 0 16 6 p0 1 false).bind fun x1=>some x1.1)
def rJ(n:Nat)(p0:Ty):Option Bool:=(((cond (p0.kind==0) (cond (p0.name==([]:Str)) (some ((p0.kids.length:Int)==0)) (some false)) (some false)):Option Bool).bind fun s1=>some s1)
def vJ(n:Nat)(p0:Tm):Option Bool:=((AQ n p0.op).bind fun x1=>(((((cond (!x1.2) (some (!x1.2)) (((cond (x1.1==(-1)) (some ((p0.kids.length:Int)==0)) (some false)):Option Bool).bind fun s6=>(cond s6 (some s6) (cond (x1.1 !=(-1)) (some ((p0.kids.length:Int)!=x1.1)) (some false))))):Option Bool).bind fun s5=>(cond s5 (some (.rt false)) (cond (p0.op==20) ((tN n p0.name).bind fun x4=>some (.nx x4)) ((lY n p0.op).bind fun x5=>(cond x5 ((iU n p0.name).bind fun x6=>some (.nx x6)) (some (.nx (p0.name==([]:Str))))))))):Option (LR Bool Bool)).bind (LR.el (fun s1=>(((cond (p0.op==19) (cond s1 (cond (decide (0≤p0.n)) (some (decide (p0.n≤1000000000))) (some false)) (some false)) (cond s1 (some (p0.n==0)) (some false))):Option Bool).bind fun s2=>(cond (p0.op==29) (((cond s2 (cond (p0.ty.kind !=2) ((u6 n p0.ty).bind fun x2=>some x2) (some false)) (some false)):Option Bool).bind fun s3=>some s3) (((cond s2 ((rJ n p0.ty).bind fun x3=>some x3) (some false)):Option Bool).bind fun s4=>some s4)))) (fun r=>some r))))
def wJ(n:Nat)(qa3:F8t)(qa0:F9t)(qa5:F10t)(qa6:F11t)(p0:List Tm)(p2:Int)(p3:Int)(p4:Int)(rec:F24t)(s1:Int×Int):Option (LR Int (Int×Int)):=(cond (decide (s1.1<(p0.length:Int))) ((idx p0 s1.1).bind fun x1=>((qa6 x1 s1.2 p2 p3 p4).bind fun x2=>(cond x2.1 (some (.rt (s1.1,x2.2))) (rec ((s1.1+1),x2.2))))) (some (.nx s1.2)))
def nY(n:Nat)(qa3:F8t)(qa0:F9t)(qa5:F10t)(qa6:F11t)(p0:List Tm)(p2:Int)(p3:Int)(p4:Int)(k:Nat):(Int×Int)→Option (LR Int (Int×Int)):=dz (wJ n qa3 qa0 qa5 qa6 p0 p2 p3 p4) k
def eu(n:Nat)(qa3:F8t)(qa0:F9t)(qa5:F10t)(qa6:F11t)(p0:List Tm)(p1:Int)(p2:Int)(p3:Int)(p4:Int):Option (Int×Int):=((nY n qa3 qa0 qa5 qa6 p0 p2 p3 p4 n (0,p1)).bind (LR.el (fun s2=>some ((-1),s2)) (fun r=>some r)))
def kY(n:Nat)(qa3:F8t)(qa0:F9t)(qa5:F10t)(qa6:F11t)(p0:List Tm)(p1:Int)(p2:Int)(p3:Int)(p4:Int):Option (Bool×Int):=((qa3 p0 p1 p2 p3 p4).bind fun x1=>some ((decide (0≤x1.1)),x1.2))
def lZ(n:Nat)(qa3:F8t)(qa0:F9t)(qa5:F10t)(qa6:F11t)(p0:Int)(p1:Int)(p2:Int)(p3:Tm)(p4:Int):Option (Bool×Int):=((((gK n p0 p1 p2 p4).bind fun x2=>(cond (!x2.1) (some (true,x2.2)) ((vJ n p3).bind fun x3=>some ((!x3),x2.2)))):Option (Bool×Int)).bind fun s1=>(cond s1.1 (some (false,s1.2)) ((qa0 p3.kids s1.2 p1 p2 p4).bind fun x1=>some ((!x1.1),x1.2))))
def kM(n:Nat)(qa3:F8t)(qa0:F9t)(qa5:F10t)(qa6:F11t)(p0:Tm)(p1:Int)(p2:Int)(p3:Int)(p4:Int):Option (Bool×Int):=((qa5 p1 p2 p3 p0 (IntKind.wrap .i64 (p4+1))).bind fun x1=>some ((!x1.1),x1.2))
mutual
def eU:Nat→(List Tm)→Int→Int→Int→Int→Option (Int×Int)
 |0,_,_,_,_,_=>none
 |n+1,p0,p1,p2,p3,p4=>eu n (eU n) (cK n) (fP n) (dB n) p0 p1 p2 p3 p4
def cK:Nat→(List Tm)→Int→Int→Int→Int→Option (Bool×Int)
 |0,_,_,_,_,_=>none
 |n+1,p0,p1,p2,p3,p4=>kY n (eU n) (cK n) (fP n) (dB n) p0 p1 p2 p3 p4
def fP:Nat→Int→Int→Int→Tm→Int→Option (Bool×Int)
 |0,_,_,_,_,_=>none
 |n+1,p0,p1,p2,p3,p4=>lZ n (eU n) (cK n) (fP n) (dB n) p0 p1 p2 p3 p4
def dB:Nat→Tm→Int→Int→Int→Int→Option (Bool×Int)
 |0,_,_,_,_,_=>none
 |n+1,p0,p1,p2,p3,p4=>kM n (eU n) (cK n) (fP n) (dB n) p0 p1 p2 p3 p4
end
def nT(n:Nat)(p0:Tm):Option Bool:=((fP n 0 2000 64 p0 1).bind fun x1=>some x1.1)
def zN(n:Nat)(p0:Tm):Option Bool:=((nT n p0).bind fun x1=>some (!x1))
def wC(n:Nat)(p0:List Tm)(rec:F18t)(s1:Int):Option (LR Unit Int):=(cond (decide (s1<(p0.length:Int))) ((idx p0 s1).bind fun x1=>((zN n x1).bind fun x2=>(cond x2 (some (.rt s1)) (rec (s1+1))))) (some (.nx ())))
def oq(n:Nat)(p0:List Tm)(k:Nat):Int→Option (LR Unit Int):=dz (wC n p0) k
def qM(n:Nat)(p0:List Tm):Option Int:=((oq n p0 n 0).bind (LR.el (fun s2=>some (-1)) (fun r=>some r)))
def o9(n:Nat)(p0:List Tm):Option Bool:=((qM n p0).bind fun x1=>some (decide (0≤x1)))
def xS(n:Nat)(p0:List Tm):Option Bool:=((o9 n p0).bind fun x1=>some (!x1))
def pF(n:Nat)(qa9:F1t)(qa2:F15t)(p0:Ty)(p1:Ty):Option Bool:=(((cond (p0.kind==p1.kind) (cond (p0.name==p1.name) ((qa2 p0.kids p1.kids).bind fun x1=>some x1) (some false)) (some false)):Option Bool).bind fun s1=>some s1)
def xM(n:Nat)(qa9:F1t)(qa2:F15t)(p0:List Ty)(p1:List Ty)(rec:F0t)(s1:Int):Option (LR Unit Bool):=(cond (decide (s1<(p0.length:Int))) ((idx p0 s1).bind fun x1=>((idx p1 s1).bind fun x2=>((qa9 x1 x2).bind fun x3=>(cond (!x3) (some (.rt false)) (rec (s1+1)))))) (some (.nx ())))
def pO(n:Nat)(qa9:F1t)(qa2:F15t)(p0:List Ty)(p1:List Ty)(k:Nat):Int→Option (LR Unit Bool):=dz (xM n qa9 qa2 p0 p1) k
def j5(n:Nat)(qa9:F1t)(qa2:F15t)(p0:List Ty)(p1:List Ty):Option Bool:=(cond ((p0.length:Int)!=(p1.length:Int)) (some false) ((pO n qa9 qa2 p0 p1 n 0).bind (LR.el (fun s2=>some true) (fun r=>some r))))
mutual
def jm:Nat→Ty→Ty→Option Bool
 |0,_,_=>none
 |n+1,p0,p1=>pF n (jm n) (jU n) p0 p1
def jU:Nat→(List Ty)→(List Ty)→Option Bool
 |0,_,_=>none
 |n+1,p0,p1=>j5 n (jm n) (jU n) p0 p1
end
def Da(n:Nat)(qba:F20t)(p0:S_term_scope)(p1:Tm)(p2:Tm)(rec:F0t)(s3:Int):Option (LR Unit Bool):=(cond (decide (s3<(p1.kids.length:Int))) ((((((lY n p1.op).bind fun x10=>(cond x10 (some (s3==1)) (some false))):Option Bool).bind fun s6=>(cond s6 ((eB n p0.a).bind fun x6=>((app 16 x6 ([p1.name])).bind fun x7=>((eB n p0.b).bind fun x8=>((app 16 x8 ([p2.name])).bind fun x9=>some (x7,x9))))) (some (p0.a,p0.b)))):Option ((List Str)×(List Str))).bind fun s5=>((idx p1.kids s3).bind fun x3=>((idx p2.kids s3).bind fun x4=>((qba (S_term_scope.mk s5.1 s5.2) x3 x4).bind fun x5=>(cond (!x5) (some (.rt false)) (rec (s3+1))))))) (some (.nx ())))
def uH(n:Nat)(qba:F20t)(p0:S_term_scope)(p1:Tm)(p2:Tm)(k:Nat):Int→Option (LR Unit Bool):=dz (Da n qba p0 p1 p2) k
def mY(n:Nat)(qba:F20t)(p0:S_term_scope)(p1:Tm)(p2:Tm):Option Bool:=(((cond (p1.op !=p2.op) (some true) (cond (p1.n !=p2.n) (some true) ((jm n p1.ty p2.ty).bind fun x11=>(cond (!x11) (some true) (some ((p1.kids.length:Int)!=(p2.kids.length:Int))))))):Option Bool).bind fun s1=>(cond s1 (some false) (cond (p1.op==20) ((lT n p0.a p1.name).bind fun x1=>((lT n p0.b p2.name).bind fun x2=>(((cond (x1==x2) (cond (decide (0≤x1)) (some true) (some (p1.name==p2.name))) (some false)):Option Bool).bind fun s2=>some s2))) ((uH n qba p0 p1 p2 n 0).bind (LR.el (fun s4=>some true) (fun r=>some r))))))
def iE:Nat→S_term_scope→Tm→Tm→Option Bool
 |0,_,_,_=>none
 |n+1,p0,p1,p2=>mY n (iE n) p0 p1 p2
def yw(n:Nat)(p0:Tm)(p1:Tm):Option Bool:=((((xS n ([p0,p1])).bind fun x1=>(cond x1 ((iE n (S_term_scope.mk ([]) ([])) p0 p1).bind fun x2=>some x2) (some false))):Option Bool).bind fun s1=>some s1)
def jv(n:Nat)(p0:Tm)(p1:Int)(p2:Str)(p3:Int)(p4:Int)(p5:Str)(p6:List Ty)(p7:List Tm):Option Bool:=((yw n (Tm.mk p1 p2 p3 (Ty.mk p4 p5 p6) p7) p0).bind fun x1=>some x1)
def yI(n:Nat)(p0:List Tm)(p1:Int)(p2:Str)(p3:Int)(p4:Int)(p5:Str)(p6:List Ty)(p7:List Tm)(rec:F18t)(s1:Int):Option (LR Unit Int):=(cond (decide (s1<(p0.length:Int))) ((idx p0 s1).bind fun x1=>((jv n x1 p1 p2 p3 p4 p5 p6 p7).bind fun x2=>(cond x2 (some (.rt s1)) (rec (s1+1))))) (some (.nx ())))
def pK(n:Nat)(p0:List Tm)(p1:Int)(p2:Str)(p3:Int)(p4:Int)(p5:Str)(p6:List Ty)(p7:List Tm)(k:Nat):Int→Option (LR Unit Int):=dz (yI n p0 p1 p2 p3 p4 p5 p6 p7) k
def mR(n:Nat)(p0:List Tm)(p1:Int)(p2:Str)(p3:Int)(p4:Int)(p5:Str)(p6:List Ty)(p7:List Tm):Option Int:=((pK n p0 p1 p2 p3 p4 p5 p6 p7 n 0).bind (LR.el (fun s2=>some (-1)) (fun r=>some r)))
def iK(n:Nat)(p0:S_api_Term_)(p1:Int)(p2:S_api_Term_)(rec:F25t)(s1:Int×(List Tm)×(List Int)):Option (LR ((List Tm)×(List Int)) S_api_Term_):=(cond (decide (s1.1<(p2.atoms.length:Int))) ((((idx p2.atoms s1.1).bind fun x9=>((mR n p0.atoms x9.op x9.name x9.n x9.ty.kind x9.ty.name x9.ty.kids x9.kids).bind fun x10=>(cond (decide (x10<0)) ((app 104 s1.2.1 ([x9])).bind fun x11=>((idx p2.coefs s1.1).bind fun x12=>((app 8 s1.2.2 ([(IntKind.wrap .i64 (p1*x12))])).bind fun x13=>some (x11,x13)))) ((idx s1.2.2 x10).bind fun x14=>((idx s1.2.2 x10).bind fun x15=>((idx p2.coefs s1.1).bind fun x16=>((idx s1.2.2 x10).bind fun x17=>((idx s1.2.2 x10).bind fun x18=>some (s1.2.1,(upd s1.2.2 x10 (IntKind.wrap .i64 (x15+(IntKind.wrap .i64 (p1*x16)))))))))))))):Option ((List Tm)×(List Int))).bind fun s6=>rec ((s1.1+1),s6.1,s6.2)) (some (.nx (s1.2.1,s1.2.2))))
def pq(n:Nat)(p0:S_api_Term_)(p1:Int)(p2:S_api_Term_)(k:Nat):(Int×(List Tm)×(List Int))→Option (LR ((List Tm)×(List Int)) S_api_Term_):=dz (iK n p0 p1 p2) k
def iM(n:Nat)(s2:(List Tm)×(List Int))(rec:F25t)(s3:Int×(List Tm)×(List Int)):Option (LR ((List Tm)×(List Int)) S_api_Term_):=(cond (decide (s3.1<(s2.2.length:Int))) ((((idx s2.2 s3.1).bind fun x3=>((idx s2.2 s3.1).bind fun x4=>(cond (x4 !=0) ((idx s2.1 s3.1).bind fun x5=>((idx s2.1 s3.1).bind fun x6=>((app 104 s3.2.1 ([x6])).bind fun x7=>((app 8 s3.2.2 ([x4])).bind fun x8=>some (x7,x8))))) (some (s3.2.1,s3.2.2))))):Option ((List Tm)×(List Int))).bind fun s5=>rec ((s3.1+1),s5.1,s5.2)) (some (.nx (s3.2.1,s3.2.2))))
def qb(n:Nat)(s2:(List Tm)×(List Int))(k:Nat):(Int×(List Tm)×(List Int))→Option (LR ((List Tm)×(List Int)) S_api_Term_):=dz (iM n s2) k
def gq(n:Nat)(p0:S_api_Term_)(p1:Int)(p2:S_api_Term_):Option S_api_Term_:=((mI n p0.atoms).bind fun x1=>((slices_Clone_int n p0.coefs).bind fun x2=>((pq n p0 p1 p2 n (0,x1,x2)).bind (LR.el (fun s2=>((qb n s2 n (0,([]:List Tm),([]:List Int))).bind (LR.el (fun s4=>some (S_api_Term_.mk s4.1 s4.2 (IntKind.wrap .i64 (p0.c+(IntKind.wrap .i64 (p1*p2.c)))))) (fun r=>some r)))) (fun r=>some r)))))
def lI(n:Nat)(x2:List Int)(rec:Int→Option (LR Unit (PZ S_api_Term_ Unit)))(s1:Int):Option (LR Unit (PZ S_api_Term_ Unit)):=(cond (decide (s1<(x2.length:Int))) ((((idx x2 s1).bind fun x3=>(((cond (decide (1000000000<x3)) (some true) (some (decide (x3<(-1000000000))))):Option Bool).bind fun s4=>(cond s4 ((Hz n 11).bind (PZ.el (fun x4=>some (.nx ())) (fun(e1:Int) _=>some (.rt (.er e1 ()))))) (some (.nx ()))))):Option (LR Unit (PZ S_api_Term_ Unit))).bind (LR.el (fun s3=>rec (s1+1)) (fun r=>some (.rt r)))) (some (.nx ())))
def He(n:Nat)(x2:List Int)(k:Nat):Int→Option (LR Unit (PZ S_api_Term_ Unit)):=dz (lI n x2) k
def mP(n:Nat)(p0:S_api_Term_):Option (PZ S_api_Term_ Unit):=((iw n p0.coefs).bind fun x1=>((app 8 x1 ([p0.c])).bind fun x2=>((He n x2 n 0).bind (LR.el (fun s2=>some (.ok p0)) (fun r=>some r)))))
def pX(n:Nat)(qaz:Tm→Option (PZ S_api_Term_ Unit))(p0:Tm):Option (PZ S_api_Term_ Unit):=(((cond (p0.op==19) (some (.rt (.ok (S_api_Term_.mk ([]) ([]) p0.n)))) (cond (p0.op==21) ((idx p0.kids 0).bind fun x1=>((qaz x1).bind (PZ.el (fun x2=>((gq n (S_api_Term_.mk ([]) ([]) 0) (-1) x2).bind fun x3=>some (.rt (.ok x3)))) (fun(e1:Int) _=>some (.rt (.er e1 ())))))) (((cond (p0.op==22) (some (p0.op==22)) (some (p0.op==23))):Option Bool).bind fun s2=>(cond s2 ((idx p0.kids 0).bind fun x4=>((qaz x4).bind (PZ.el (fun x5=>((idx p0.kids 1).bind fun x6=>((qaz x6).bind (PZ.el (fun x7=>(((cond (p0.op==23) (some (-1)) (some 1)):Option Int).bind fun s3=>((gq n x5 s3 x7).bind fun x8=>((mP n x8).bind (PZ.el (fun x9=>some (.rt (.ok x9))) (fun(e2:Int) _=>some (.rt (.er e2 ())))))))) (fun(e3:Int) _=>some (.rt (.er e3 ()))))))) (fun(e4:Int) _=>some (.rt (.er e4 ())))))) (cond (p0.op==24) ((idx p0.kids 0).bind fun x10=>((qaz x10).bind (PZ.el (fun x11=>((idx p0.kids 1).bind fun x12=>((qaz x12).bind (PZ.el (fun x13=>(((cond (decide (0<(x11.atoms.length:Int))) (some (x13.atoms,x13.coefs,x13.c,x11.atoms,x11.coefs,x11.c)) (some (x11.atoms,x11.coefs,x11.c,x13.atoms,x13.coefs,x13.c))):Option ((List Tm)×(List Int)×Int×(List Tm)×(List Int)×Int)).bind fun s4=>(cond ((s4.1.length:Int)==0) ((gq n (S_api_Term_.mk ([]) ([]) 0) s4.2.2.1 (S_api_Term_.mk s4.2.2.2.1 s4.2.2.2.2.1 s4.2.2.2.2.2)).bind fun x14=>((mP n x14).bind (PZ.el (fun x15=>some (.rt (.ok x15))) (fun(e5:Int) _=>some (.rt (.er e5 ())))))) (some (.nx ()))))) (fun(e6:Int) _=>some (.rt (.er e6 ()))))))) (fun(e7:Int) _=>some (.rt (.er e7 ())))))) (some (.nx ()))))))):Option (LR Unit (PZ S_api_Term_ Unit))).bind (LR.el (fun s1=>some (.ok (S_api_Term_.mk ([p0]) ([1]) 0))) (fun r=>some r)))
def fu:Nat→Tm→Option (PZ S_api_Term_ Unit)
 |0,_=>none
 |n+1,p0=>pX n (fu n) p0
def EB(n:Nat)(qay:F3t)(p0:Ty)(rec:F23t)(s1:Int×(List Ty)):Option (LR (List Ty) Ty):=(cond (decide (s1.1<(p0.kids.length:Int))) ((idx p0.kids s1.1).bind fun x1=>((qay x1).bind fun x2=>((app 48 s1.2 ([x2])).bind fun x3=>rec ((s1.1+1),x3)))) (some (.nx s1.2)))
def wV(n:Nat)(qay:F3t)(p0:Ty)(k:Nat):(Int×(List Ty))→Option (LR (List Ty) Ty):=dz (EB n qay p0) k
def nR(n:Nat)(qay:F3t)(p0:Ty):Option Ty:=((wV n qay p0 n (0,([]:List Ty))).bind (LR.el (fun s2=>some (Ty.mk p0.kind p0.name s2)) (fun r=>some r)))
def jV:Nat→Ty→Option Ty
 |0,_=>none
 |n+1,p0=>nR n (jV n) p0
def EC(n:Nat)(qax:F2t)(p0:Tm)(rec:(Int×(List Tm))→Option (LR (List Tm) Tm))(s1:Int×(List Tm)):Option (LR (List Tm) Tm):=(cond (decide (s1.1<(p0.kids.length:Int))) ((idx p0.kids s1.1).bind fun x2=>((qax x2).bind fun x3=>((app 104 s1.2 ([x3])).bind fun x4=>rec ((s1.1+1),x4)))) (some (.nx s1.2)))
def wW(n:Nat)(qax:F2t)(p0:Tm)(k:Nat):(Int×(List Tm))→Option (LR (List Tm) Tm):=dz (EC n qax p0) k
def nI(n:Nat)(qax:F2t)(p0:Tm):Option Tm:=((jV n p0.ty).bind fun x1=>((wW n qax p0 n (0,([]:List Tm))).bind (LR.el (fun s2=>some (Tm.mk p0.op p0.name p0.n x1 s2)) (fun r=>some r))))
def jf:Nat→Tm→Option Tm
 |0,_=>none
 |n+1,p0=>nI n (jf n) p0
def mE(n:Nat)(x2:S_api_Term_)(rec:(Int×(List Tm))→Option (LR (List Tm) ((List Tm)×(List Int)×Int×Int)))(s1:Int×(List Tm)):Option (LR (List Tm) ((List Tm)×(List Int)×Int×Int)):=(cond (decide (s1.1<(x2.atoms.length:Int))) ((idx x2.atoms s1.1).bind fun x4=>((jf n x4).bind fun x5=>((app 104 s1.2 ([(Tm.mk 0 ([]:Str) 0 (Ty.mk 0 ([]:Str) ([])) ([]))])).bind fun x6=>((idx x6 (s1.2.length:Int)).bind fun x7=>((idx x6 (s1.2.length:Int)).bind fun x8=>rec ((s1.1+1),(upd x6 (s1.2.length:Int) x5))))))) (some (.nx s1.2)))
def kR(n:Nat)(x2:S_api_Term_)(k:Nat):(Int×(List Tm))→Option (LR (List Tm) ((List Tm)×(List Int)×Int×Int)):=dz (mE n x2) k
def nW(n:Nat)(p0:Tm):Option ((List Tm)×(List Int)×Int×Int):=((nT n p0).bind fun x1=>(cond (!x1) (some (([]:List Tm),([]:List Int),0,1)) ((fu n p0).bind (PZ.el (fun x2=>((kR n x2 n (0,([]:List Tm))).bind (LR.el (fun s2=>((slices_Clone_int n x2.coefs).bind fun x3=>some (s2,x3,x2.c,0))) (fun r=>some r)))) (fun(e1:Int) _=>bif decide ((1:Int)≤e1)&&decide (e1≤1000)then some (([]:List Tm),([]:List Int),0,e1)else none)))))
def sS(n:Nat)(p0:Tm):Option Bool:=((nW n p0).bind fun x1=>((Am n p0).bind fun x2=>(((cond (x1.2.2.2==x2.2.2.2) (cond (x1.2.2.1==x2.2.2.1) ((jM n x1.1 x2.1).bind fun x3=>(cond x3 ((vM n x1.2.1 x2.2.1).bind fun x4=>(cond x4 ((RU n).bind fun x5=>some x5) (some false))) (some false))) (some false)) (some false)):Option Bool).bind fun s1=>some s1)))
end Abs
end Go.Proofs.YtfmdmcenjfkbhaaGreatDoor
