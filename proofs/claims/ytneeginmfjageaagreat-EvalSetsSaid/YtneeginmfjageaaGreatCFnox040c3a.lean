/-
  Printed by gend.py. Conditions: none.
-/
import Derived.Test.YtneeginmfjageaaGreatCD4ox93c442
set_option linter.unusedSimpArgs false
set_option linter.unusedVariables false
namespace Go.Proofs.YtneeginmfjageaaGreat
namespace Abs
open Go Go.Proofs
set_option maxRecDepth 100000
structure S_api_World where
 env:Env
 sizes:List Int
 values:List Val
structure S_refinementref01_token where
 kind:Int
 s:Str
 at_:Int
abbrev F0t:=List Carrier→List Decl→List Int→List (Str×Val)→List Bound→Tm→Option (PZ (Val×(List Bound)) (List Bound))
abbrev F1t:=List Carrier→List Decl→List Int→List (Str×Val)→List Bound→Tm→Option (PZ ((List Val)×(List Bound)) (List Bound))
abbrev F2t:=List Val×Int→Option (LR (List Val) (List Val))
abbrev F3t:=Int→Option (LR Unit Bool)
abbrev F4t:=List Carrier→List Decl→List Int→List (Str×Val)→List Bound→Tm→Option (PZ (Int×Str×Int×Int×Str×(List Ty)×(List Tm)×(List Val)×(List Val)×(List Bound)) (List Bound))
abbrev F5t:=List Carrier→List Decl→List Int→List (Str×Val)→List Bound→Tm→Int→Str→Int→Int→Str→List Ty→List Tm→List Val→Bool→Bool→Option (PZ ((List Bound)×(List Val)×Bool×Bool) ((List Bound)×(List Val)))
abbrev F6t:=Ty→Int→Option Bool
abbrev F7t:=Int→Option (LR Unit Int)
abbrev F8t:=Int→List Val→List Val→Int→List Val→List Val→Option (List Val)
abbrev F9t:=List Val×Int→Option (LR (List Val) (PZ Val Unit))
abbrev F10t:=List Ty→Int→Int→Int→Int→Option (Int×Int)
abbrev F11t:=List Ty→Int→Int→Int→Int→Option (Bool×Int)
abbrev F12t:=Int→Int→Int→Ty→Int→Bool→Option (Bool×Int)
abbrev F13t:=Ty→Int→Int→Int→Int→Option (Bool×Int)
abbrev F14t:=List Ty→Int→Option Int
abbrev F15t:=List Ty→Int→Option Bool
abbrev F16t:=Env→List Int→Val→Ty→Option Bool
abbrev F17t:=List Ty→Int→Int→Str→List Val→List Carrier→List Decl→List Int→Option Bool
abbrev F18t:=List Tm→Int→Int→Int→Int→Option (Int×Int)
abbrev F19t:=List Tm→Int→Int→Int→Int→Option (Bool×Int)
abbrev F20t:=Int→Int→Int→Tm→Int→Option (Bool×Int)
abbrev F21t:=Tm→Int→Int→Int→Int→Option (Bool×Int)
abbrev F22t:=Int×Int→Option (LR Int Int)
abbrev F23t:=List Val→List Val→Option Int
abbrev F24t:=Val→Val→Option Int
abbrev F25t:=List Ty→List Ty→Option Bool
abbrev F26t:=Ty→Ty→Option Bool
abbrev F27t:=List (Str×Ty)→List (Str×Bool)→List Int→Tm→List Decl→Option (Ty×Int×List Int)
abbrev F28t:=List (Str×Ty)→List (Str×Bool)→List Int→Tm→Int→List Decl→Option (Ty×Int×List Int)
abbrev F29t:=List Val→List Val→Option Bool
abbrev F30t:=Val→Val→Option Bool
abbrev F31t:=Ty→Int→Int→Option Int
abbrev F32t:=Tm→Int→Int→Option Int
abbrev F33t:=Tm→Option Int
abbrev F34t:=Ty→List (Str×Bool)→Option (List (Str×Bool))
abbrev F35t:=Int×List (Str×Ty)→Option (LR (List (Str×Ty)) (List (Str×Ty)))
abbrev F36t:=Ty→Option Ty
abbrev F37t:=Val→Option Val
abbrev F38t:=Int×Int→Option (LR Int (Int×Int))
abbrev F39t:=List Str×Int→Option (LR (List Str) (List Str))
abbrev F40t:=List (List Val)×Int→Option (LR (List (List Val)) (List (List Val)))
abbrev F41t:=Int×List Val→Option (LR (List Val) (List Val))
abbrev F42t:=Int→Option (LR Int S_refinementref01_token)
def yJ(n:Nat)(p0:Env):=(cond (decide ((p0.carriers.length:Int)≤100)) (some (decide ((p0.names.length:Int)≤100))) (some false)).bind fun s1=>some s1
def aa8(n:Nat)(p0:Int):=(cond (p0==1) (some true) (cond (p0==2) (some true) (cond (p0==19) (some true) (cond (p0==20) (some true) (some (p0==29)))))).bind fun s1=>cond s1 (some 0) (((cond (p0==3) (some true) (cond (p0==21) (some true) (cond (decide (46≤p0)) (some (decide (p0≤52))) (some false)))):Option Bool).bind fun s2=>(cond s2 (some 1) (cond (p0==28) (some (-1)) (((cond (decide (4≤p0)) (some (decide (p0≤56))) (some false)):Option Bool).bind fun s3=>(cond s3 (some 2) (some (-2)))))))
def uR(n:Nat)(p0:Int):=(cond (decide (97≤p0)) (cond (decide (p0≤122)) (some true) (cond (decide (65≤p0)) (some (decide (p0≤90))) (some false))) (cond (decide (65≤p0)) (some (decide (p0≤90))) (some false))).bind fun s1=>some s1
def axD(n:Nat)p0(p1:List Str)(rec:F3t)s1:=cond (decide (s1<(p1.length:Int))) ((idx p1 s1).bind fun x1=>cond (x1==p0) (some (.rt true)) (rec (s1+1))) (some (.nx ()))
def amr n p0 p1 k:=aG (axD n p0 p1) k
def J7 n p0 p1:=(amr n p0 p1 n 0).bind (LR.el (fun s2=>some false) fun r=>some r)
def F9 n p0:=(J7 n p0 [([116,114,117,101]:Str),([102,97,108,115,101]:Str),([110,111,116]:Str),([111,114]:Str),([102,111,114,97,108,108]:Str),([101,120,105,115,116,115]:Str),([105,110]:Str),([110,111,116,105,110]:Str),([115,117,98]:Str),([109,111,100]:Str),([102,117,110]:Str),([99,97,114,100]:Str),([109,105,110]:Str),([109,97,120]:Str),([100,111,109]:Str),([114,97,110]:Str),([80,79,87]:Str),([105,110,116]:Str),([98,111,111,108]:Str),([115,101,116]:Str),([112,97,105,114]:Str)]).bind fun x1=>some x1
def A9(n:Nat)(p0:Int):=(cond (decide (48≤p0)) (some (decide (p0≤57))) (some false)).bind fun s1=>some s1
def abm(n)(p0:Str)(rec:F3t)s2:=cond (decide (s2<(p0.length:Int))) ((((mZ p0 s2).bind fun x1=>((uR n x1).bind fun x2=>(cond (!x2) ((mZ p0 s2).bind fun x3=>((A9 n x3).bind fun x4=>(cond (!x4) ((mZ p0 s2).bind fun x5=>some (x5 !=95)) (some false)))) (some false))))).bind fun s4=>cond s4 (some (.rt false)) (rec (s2+1))) (some (.nx ()))
def EH n p0 k:=aG (abm n p0) k
def gN(n:Nat)(p0:Str):=(cond (decide ((p0.length:Int)<1)) (some true) (cond (decide (16<(p0.length:Int))) (some true) ((mZ p0 0).bind fun x6=>((uR n x6).bind fun x7=>(cond (!x7) (some true) ((F9 n p0).bind fun x8=>some x8)))))).bind fun s1=>cond s1 (some false) ((EH n p0 n 1).bind (LR.el (fun s3=>some true) (fun r=>some r)))
def Ld(n:Nat)(p0:Str):=(cond (decide (1<(p0.length:Int))) ((mZ p0 ((p0.length:Int) - 1)).bind fun x1=>(cond (x1==39) ((jE p0 0 ((p0.length:Int) - 1)).bind fun x2=>((gN n x2).bind fun x3=>some x3)) (some false))) (some false)).bind fun s1=>some s1
def Jo n p0:=((gN n p0).bind fun x1=>(cond x1 (some true) ((Ld n p0).bind fun x2=>some x2))).bind fun s1=>some s1
def yg(n:Nat)(p0:Int):=(cond (p0==8) (some true) (cond (p0==9) (some true) (cond (p0==55) (some true) (some (p0==56))))).bind fun s1=>some s1
def aod(n:Nat)(qbe:F31t)(p0:Ty)p1(rec:F22t)(s4:Int×Int):=cond (decide (s4.2<(p0.kids.length:Int))) ((idx p0.kids s4.2).bind fun x1=>(qbe x1 (IntKind.wrap .i64 (p1+1)) s4.1).bind fun x2=>(cond (decide (x2<0)) (some (.rt (-1))) (rec (x2,(s4.2+1))))) (some (.nx s4.1))
def JK n qbe p0 p1 k:=aG (aod n qbe p0 p1) k
def Lm(n:Nat)qbe(p0:Ty)p1(p2:Int):=(cond (decide (6<p1)) (some true) (cond (decide (16<(IntKind.wrap .i64 (p2+1)))) (some true) (cond (p0.kind==2) (some (decide (1<p1))) (some false)))).bind fun s1=>cond s1 (some (-1)) (((((cond (p0.kind==1) (some (p0.kind==1)) (cond (p0.kind==2) (some (p0.kind==2)) (some (p0.kind==3)))):Option Bool).bind fun s6=>(cond s6 (some (.nx 0)) (cond (p0.kind==5) (some (.nx 1)) (cond (p0.kind==4) (some (.nx 2)) (some (.rt (-1))))))):Option (LR Int Int)).bind (LR.el (fun s2=>(((cond ((p0.kids.length:Int)!=s2) (some true) (cond (p0.kind==3) ((gN n p0.name).bind fun x3=>(cond (!x3) (some true) (cond (p0.kind !=3) (some (!(p0.name==([]:Str)))) (some false)))) (cond (p0.kind !=3) (some (!(p0.name==([]:Str)))) (some false)))):Option Bool).bind fun s3=>(cond s3 (some (-1)) ((JK n qbe p0 p1 n ((IntKind.wrap .i64 (p2+1)),0)).bind (LR.el (fun s5=>some s5) (fun r=>some r)))))) (fun r=>some r)))
def yj:Nat→Ty→Int→Int→Option Int
 | 0,_,_,_=>none
 | n+1,p0,p1,p2=>Lm n (fun p0 p1 p2=>yj n p0 p1 p2) p0 p1 p2
def oZ n p0:=(yj n p0 1 0).bind fun x1=>some (decide (0<x1))
def JZ(n:Nat)(p0:Ty):=(cond (p0.kind==0) (cond (p0.name==([]:Str)) (some ((p0.kids.length:Int)==0)) (some false)) (some false)).bind fun s1=>some s1
def aa0(n:Nat)(p0:Tm):=((aa8 n p0.op).bind fun x1=>(((cond (x1==(-2)) (some true) (cond (x1==(-1)) (cond ((p0.kids.length:Int)==0) (some true) (cond (decide (0≤x1)) (some ((p0.kids.length:Int)!=x1)) (some false))) (cond (decide (0≤x1)) (some ((p0.kids.length:Int)!=x1)) (some false)))):Option Bool).bind fun s1=>(cond s1 (some false) (((cond (p0.op==20) ((Jo n p0.name).bind fun x4=>(cond (!x4) (some (.rt false)) (some (.nx ())))) ((yg n p0.op).bind fun x5=>(cond x5 ((gN n p0.name).bind fun x6=>(cond (!x6) (some (.rt false)) (some (.nx ())))) (cond (!(p0.name==([]:Str))) (some (.rt false)) (some (.nx ())))))):Option (LR Unit Bool)).bind (LR.el (fun s2=>(((cond (p0.op==19) (cond (decide (p0.n<0)) (some true) (cond (decide (1000000000<p0.n)) (some true) (cond (p0.op !=19) (some (p0.n !=0)) (some false)))) (cond (p0.op !=19) (some (p0.n !=0)) (some false))):Option Bool).bind fun s3=>(cond s3 (some false) (cond (p0.op==29) ((((oZ n p0.ty).bind fun x2=>(cond x2 (some (p0.ty.kind !=2)) (some false))):Option Bool).bind fun s4=>some s4) ((JZ n p0.ty).bind fun x3=>some x3))))) (fun r=>some r))))))
def aps(n:Nat)(qbd:F32t)(p0:Tm)p1(rec:F22t)(s2:Int×Int):=cond (decide (s2.2<(p0.kids.length:Int))) ((idx p0.kids s2.2).bind fun x1=>(qbd x1 (IntKind.wrap .i64 (p1+1)) s2.1).bind fun x2=>(cond (decide (x2<0)) (some (.rt (-1))) (rec (x2,(s2.2+1))))) (some (.nx s2.1))
def acD n qbd p0 p1 k:=aG (aps n qbd p0 p1) k
def Lp n qbd p0 p1 p2:=(cond (decide (64<p1)) (some true) (cond (decide (2000<(IntKind.wrap .i64 (p2+1)))) (some true) ((aa0 n p0).bind fun x3=>some (!x3)))).bind fun s1=>cond s1 (some (-1)) ((acD n qbd p0 p1 n ((IntKind.wrap .i64 (p2+1)),0)).bind (LR.el (fun s3=>some s3) (fun r=>some r)))
def EP:Nat→Tm→Int→Int→Option Int
 | 0,_,_,_=>none
 | n+1,p0,p1,p2=>Lp n (fun p0 p1 p2=>EP n p0 p1 p2) p0 p1 p2
def vG n p0:=(EP n p0 1 0).bind fun x1=>some (decide (0<x1))
def DJ(n)(qbs:F33t)(p0:Tm)(rec:F22t)(s1:Int×Int):=cond (decide (s1.2<(p0.kids.length:Int))) ((idx p0.kids s1.2).bind fun x1=>(qbs x1).bind fun x2=>((((((yg n p0.op).bind fun x3=>(cond x3 (some (s1.2==1)) (some false))):Option Bool).bind fun s4=>(cond s4 (some (IntKind.wrap .i64 (x2*64))) (some x2))):Option Int).bind fun s3=>(cond (decide (20000000<(IntKind.wrap .i64 (s1.1+s3)))) (some (.rt 20000001)) (rec ((IntKind.wrap .i64 (s1.1+s3)),(s1.2+1)))))) (some (.nx s1.1))
def V4 n qbs p0 k:=aG (DJ n qbs p0) k
def O9 n qbs p0:=(V4 n qbs p0 n (1,0)).bind (LR.el (fun s2=>some s2) fun r=>some r)
def IQ:Nat→Tm→Option Int
 | 0,_=>none
 | n+1,p0=>O9 n (fun p0=>IQ n p0) p0
def oI n p0:=((vG n p0).bind fun x1=>(cond (!x1) (some true) ((IQ n p0).bind fun x2=>some (decide (x2≤20000000))))).bind fun s1=>some s1
def DV(n:Nat)(p0:Int):=(cond (decide (97≤p0)) (cond (decide (p0≤122)) (some true) (cond (decide (65≤p0)) (some (decide (p0≤90))) (some false))) (cond (decide (65≤p0)) (some (decide (p0≤90))) (some false))).bind fun s1=>some s1
def Gt(n:Nat)(p0:Str):=(cond (p0==([116,114,117,101]:Str)) (some (p0==([116,114,117,101]:Str))) (cond (p0==([102,97,108,115,101]:Str)) (some (p0==([102,97,108,115,101]:Str))) (cond (p0==([110,111,116]:Str)) (some (p0==([110,111,116]:Str))) (cond (p0==([111,114]:Str)) (some (p0==([111,114]:Str))) (cond (p0==([102,111,114,97,108,108]:Str)) (some (p0==([102,111,114,97,108,108]:Str))) (cond (p0==([101,120,105,115,116,115]:Str)) (some (p0==([101,120,105,115,116,115]:Str))) (cond (p0==([105,110]:Str)) (some (p0==([105,110]:Str))) (cond (p0==([110,111,116,105,110]:Str)) (some (p0==([110,111,116,105,110]:Str))) (cond (p0==([115,117,98]:Str)) (some (p0==([115,117,98]:Str))) (cond (p0==([109,111,100]:Str)) (some (p0==([109,111,100]:Str))) (cond (p0==([102,117,110]:Str)) (some (p0==([102,117,110]:Str))) (cond (p0==([99,97,114,100]:Str)) (some (p0==([99,97,114,100]:Str))) (cond (p0==([109,105,110]:Str)) (some (p0==([109,105,110]:Str))) (cond (p0==([109,97,120]:Str)) (some (p0==([109,97,120]:Str))) (cond (p0==([100,111,109]:Str)) (some (p0==([100,111,109]:Str))) (cond (p0==([114,97,110]:Str)) (some (p0==([114,97,110]:Str))) (cond (p0==([80,79,87]:Str)) (some (p0==([80,79,87]:Str))) (cond (p0==([105,110,116]:Str)) (some (p0==([105,110,116]:Str))) (cond (p0==([98,111,111,108]:Str)) (some (p0==([98,111,111,108]:Str))) (cond (p0==([115,101,116]:Str)) (some (p0==([115,101,116]:Str))) (some (p0==([112,97,105,114]:Str))))))))))))))))))))))).bind fun s1=>cond s1 (some true) (some false)
def M0(n:Nat)(p0:Int):=(cond (decide (48≤p0)) (some (decide (p0≤57))) (some false)).bind fun s1=>some s1
def JX n p0:=((DV n p0).bind fun x1=>(cond x1 (some true) ((M0 n p0).bind fun x2=>(cond x2 (some true) (some (p0==95)))))).bind fun s1=>some s1
def XH(n)(p0:Str)(rec:F3t)s2:=cond (decide (s2<(p0.length:Int))) ((mZ p0 s2).bind fun x1=>(JX n x1).bind fun x2=>(cond (!x2) (some (.rt false)) (rec (s2+1)))) (some (.nx ()))
def A8 n p0 k:=aG (XH n p0) k
def fE(n:Nat)(p0:Str):=(cond (p0==([]:Str)) (some true) (cond (decide (16<(p0.length:Int))) (some true) ((mZ p0 0).bind fun x3=>((DV n x3).bind fun x4=>(cond (!x4) (some true) ((Gt n p0).bind fun x5=>some x5)))))).bind fun s1=>cond s1 (some false) ((A8 n p0 n 0).bind (LR.el (fun s3=>some true) (fun r=>some r)))
def ny(n:Nat)(p0:Str)(p1:Str):=(cond (decide ((p1.length:Int)≤(p0.length:Int))) ((jE p0 (IntKind.wrap .i64 ((p0.length:Int) - (p1.length:Int))) (p0.length:Int)).bind fun x1=>some (x1==p1)) (some false)).bind fun s1=>some s1
def mJ(n:Nat)(p0:Str)(p1:Str):Option Str:=(ny n p0 p1).bind fun x1=>cond x1 ((jE p0 0 (IntKind.wrap .i64 ((p0.length:Int) - (p1.length:Int)))).bind fun x2=>some x2) (some p0)
def strings_TrimSuffix n p0 p1:=(mJ n p0 p1).bind fun x1=>some x1
def uS n p0:=(strings_TrimSuffix n p0 [39]).bind fun x1=>(fE n x1).bind fun x2=>some x2
def kg(n:Nat)p0(p1:Int)p2(p3:Int):=(cond (decide ((IntKind.wrap .i64 (p0+1))≤p1)) (some (decide (p3≤p2))) (some false)).bind fun s1=>some (s1,(IntKind.wrap .i64 (p0+1)))
def MJ(n:Nat)(qcf:F10t)(qcb:F11t)(qcj:F12t)(qck:F13t)p0(p2)p3(p4)(rec:F38t)(s1:Int×Int):=cond (decide (s1.1<(p0.length:Int))) ((idx p0 s1.1).bind fun x1=>(qck x1 s1.2 p2 p3 p4).bind fun x2=>(cond x2.1 (some (.rt (s1.1,x2.2))) (rec ((s1.1+1),x2.2)))) (some (.nx s1.2))
def Bz n qcf qcb qcj qck p0 p2 p3 p4 k:=aG (MJ n qcf qcb qcj qck p0 p2 p3 p4) k
def jm n qcf qcb qcj qck p0 p1 p2 p3 p4:=(Bz n qcf qcb qcj qck p0 p2 p3 p4 n (0,p1)).bind (LR.el (fun s2=>some ((-1),s2)) fun r=>some r)
def nV(n:Nat)(qcf:F10t)(qcb:F11t)(qcj:F12t)(qck:F13t)p0(p1)p2(p3)p4:=(qcf p0 p1 p2 p3 p4).bind fun x1=>some (decide (0≤x1.1),x1.2)
def qN(n:Nat)(qcf:F10t)(qcb:F11t)(qcj:F12t)(qck:F13t)p0(p1:Int)p2(p3:Ty)p4(p5:Bool):=(kg n p0 p1 p2 p4).bind fun x1=>cond (!x1.1) (some (false,x1.2)) (((cond (p3.kind==1) (some (.nx 0)) (cond (p3.kind==2) (cond p5 (some (.rt (false,x1.2))) (some (.nx 0))) (cond (p3.kind==3) ((fE n p3.name).bind fun x3=>(cond (!x3) (some (.rt (false,x1.2))) (some (.nx 0)))) (cond (p3.kind==4) (some (.nx 2)) (cond (p3.kind==5) (some (.nx 1)) (some (.rt (false,x1.2)))))))):Option (LR Int (Bool×Int))).bind (LR.el (fun s1=>(((cond ((p3.kids.length:Int)!=s1) (some true) (cond (p3.kind !=3) (some (!(p3.name==([]:Str)))) (some false))):Option Bool).bind fun s2=>(cond s2 (some (false,x1.2)) ((qcb p3.kids x1.2 p1 p2 p4).bind fun x2=>some ((!x2.1),x2.2))))) (fun r=>some r)))
def oz(n:Nat)(qcf:F10t)(qcb:F11t)(qcj:F12t)(qck:F13t)p0(p1)p2(p3)p4:=(qcj p1 p2 p3 p0 (IntKind.wrap .i64 (p4+1)) true).bind fun x1=>some (!x1.1,x1.2)
mutual
def jT:Nat→List Ty→Int→Int→Int→Int→Option (Int×Int)
 | 0,_,_,_,_,_=>none
 | n+1,p0,p1,p2,p3,p4=>jm n (fun p0 p1 p2 p3 p4=>jT n p0 p1 p2 p3 p4) (fun p0 p1 p2 p3 p4=>dS n p0 p1 p2 p3 p4) (fun p0 p1 p2 p3 p4 p5=>gu n p0 p1 p2 p3 p4 p5) (fun p0 p1 p2 p3 p4=>eB n p0 p1 p2 p3 p4) p0 p1 p2 p3 p4
def dS:Nat→List Ty→Int→Int→Int→Int→Option (Bool×Int)
 | 0,_,_,_,_,_=>none
 | n+1,p0,p1,p2,p3,p4=>nV n (fun p0 p1 p2 p3 p4=>jT n p0 p1 p2 p3 p4) (fun p0 p1 p2 p3 p4=>dS n p0 p1 p2 p3 p4) (fun p0 p1 p2 p3 p4 p5=>gu n p0 p1 p2 p3 p4 p5) (fun p0 p1 p2 p3 p4=>eB n p0 p1 p2 p3 p4) p0 p1 p2 p3 p4
def gu:Nat→Int→Int→Int→Ty→Int→Bool→Option (Bool×Int)
 | 0,_,_,_,_,_,_=>none
 | n+1,p0,p1,p2,p3,p4,p5=>qN n (fun p0 p1 p2 p3 p4=>jT n p0 p1 p2 p3 p4) (fun p0 p1 p2 p3 p4=>dS n p0 p1 p2 p3 p4) (fun p0 p1 p2 p3 p4 p5=>gu n p0 p1 p2 p3 p4 p5) (fun p0 p1 p2 p3 p4=>eB n p0 p1 p2 p3 p4) p0 p1 p2 p3 p4 p5
def eB:Nat→Ty→Int→Int→Int→Int→Option (Bool×Int)
 | 0,_,_,_,_,_=>none
 | n+1,p0,p1,p2,p3,p4=>oz n (fun p0 p1 p2 p3 p4=>jT n p0 p1 p2 p3 p4) (fun p0 p1 p2 p3 p4=>dS n p0 p1 p2 p3 p4) (fun p0 p1 p2 p3 p4 p5=>gu n p0 p1 p2 p3 p4 p5) (fun p0 p1 p2 p3 p4=>eB n p0 p1 p2 p3 p4) p0 p1 p2 p3 p4
end
def mD n p0:=(gu n 0 16 6 p0 1 false).bind fun x1=>some x1.1
def La(n:Nat)(qcg:F14t)(qcc:F15t)(qco:F6t)(qcp:F6t)p0(p1)(rec:F7t)s1:=cond (decide (s1<(p0.length:Int))) ((idx p0 s1).bind fun x1=>(qcp x1 p1).bind fun x2=>(cond x2 (some (.rt s1)) (rec (s1+1)))) (some (.nx ()))
def zI n qcg qcc qco qcp p0 p1 k:=aG (La n qcg qcc qco qcp p0 p1) k
def oN n qcg qcc qco qcp p0 p1:=(zI n qcg qcc qco qcp p0 p1 n 0).bind (LR.el (fun s2=>some (-1)) fun r=>some r)
def mI(n:Nat)(qcg:F14t)(qcc:F15t)(qco:F6t)(qcp:F6t)p0(p1):=(qcg p0 p1).bind fun x1=>some (decide (0≤x1))
def yE(n:Nat)(qcg:F14t)(qcc:F15t)(qco:F6t)(qcp:F6t)(p0:Ty)p1:=(cond (p0.kind==p1) (some true) ((qcc p0.kids p1).bind fun x1=>some x1)).bind fun s1=>some s1
def vR(n:Nat)(qcg:F14t)(qcc:F15t)(qco:F6t)(qcp:F6t)p0(p1):=(qco p0 p1).bind fun x1=>some x1
mutual
def kM:Nat→List Ty→Int→Option Int
 | 0,_,_=>none
 | n+1,p0,p1=>oN n (fun p0 p1=>kM n p0 p1) (fun p0 p1=>gL n p0 p1) (fun p0 p1=>mM n p0 p1) (fun p0 p1=>kS n p0 p1) p0 p1
def gL:Nat→List Ty→Int→Option Bool
 | 0,_,_=>none
 | n+1,p0,p1=>mI n (fun p0 p1=>kM n p0 p1) (fun p0 p1=>gL n p0 p1) (fun p0 p1=>mM n p0 p1) (fun p0 p1=>kS n p0 p1) p0 p1
def mM:Nat→Ty→Int→Option Bool
 | 0,_,_=>none
 | n+1,p0,p1=>yE n (fun p0 p1=>kM n p0 p1) (fun p0 p1=>gL n p0 p1) (fun p0 p1=>mM n p0 p1) (fun p0 p1=>kS n p0 p1) p0 p1
def kS:Nat→Ty→Int→Option Bool
 | 0,_,_=>none
 | n+1,p0,p1=>vR n (fun p0 p1=>kM n p0 p1) (fun p0 p1=>gL n p0 p1) (fun p0 p1=>mM n p0 p1) (fun p0 p1=>kS n p0 p1) p0 p1
end
def wD n p0:=((mD n p0).bind fun x1=>(cond x1 ((mM n p0 2).bind fun x2=>some (!x2)) (some false))).bind fun s1=>some s1
def Zv(n:Nat)(qcn:F34t)(p0:Ty)(rec:(Int×(List (Str×Bool)))→Option (LR (List (Str×Bool)) (List (Str×Bool))))(s2:Int×(List (Str×Bool))):=cond (decide (s2.1<(p0.kids.length:Int))) ((idx p0.kids s2.1).bind fun x1=>(qcn x1 s2.2).bind fun x2=>rec ((s2.1+1),x2)) (some (.nx s2.2))
def Dg n qcn p0 k:=aG (Zv n qcn p0) k
def zY n qcn p0 p1:=(cond (p0.kind==3) ((xG p1 p0.name true).bind fun x3=>some x3) (some p1)).bind fun s1=>(Dg n qcn p0 n (0,s1)).bind (LR.el (fun s3=>some s3) (fun r=>some r))
def ou:Nat→Ty→List (Str×Bool)→Option (List (Str×Bool))
 | 0,_,_=>none
 | n+1,p0,p1=>zY n (fun p0 p1=>ou n p0 p1) p0 p1
def qo n p0:=(mD n p0).bind fun x1=>cond (!x1) (some ([]:List Str)) ((ou n p0 ([]:List (Str×Bool))).bind fun x2=>((mQ n x2).bind fun x3=>some x3))
def XF(n:Nat)(p0:Carrier)p1:=some (p0.name==p1)
def Iu(n:Nat)(p0:List Carrier)p1(rec:F7t)s1:=cond (decide (s1<(p0.length:Int))) ((idx p0 s1).bind fun x1=>cond (x1.name==p1) (some (.rt s1)) (rec (s1+1))) (some (.nx ()))
def xS n p0 p1 k:=aG (Iu n p0 p1) k
def tC n p0 p1:=(xS n p0 p1 n 0).bind (LR.el (fun s2=>some (-1)) fun r=>some r)
def pE n p0 p1:=(tC n p0 p1).bind fun x1=>some (decide (0≤x1))
def wG(n)(p0:Env)p1:=(pE n p0.carriers p1).bind fun x1=>some x1
def wI n p0 p1 p2:=(wG n (Env.mk p1 p2) p0).bind fun x1=>some !x1
def KH(n)p0(p1)p2(rec:F7t)s1:=cond (decide (s1<(p0.length:Int))) ((idx p0 s1).bind fun x1=>(wI n x1 p1 p2).bind fun x2=>(cond x2 (some (.rt s1)) (rec (s1+1)))) (some (.nx ()))
def zn n p0 p1 p2 k:=aG (KH n p0 p1 p2) k
def um n p0 p1 p2:=(zn n p0 p1 p2 n 0).bind (LR.el (fun s2=>some (-1)) fun r=>some r)
def qE n p0 p1 p2:=(um n p0 p1 p2).bind fun x1=>some (decide (0≤x1))
def vk(n:Nat)(p0:Env)p1:=(qo n p1).bind fun x1=>(qE n x1 p0.carriers p0.names).bind fun x2=>some (!x2)
def XR(n:Nat)(p0:Env)(rec:F39t)(s1:(List Str)×Int):=cond (decide (s1.2<(p0.carriers.length:Int))) ((idx p0.carriers s1.2).bind fun x3=>(app 16 s1.1 ([x3.name])).bind fun x4=>((app 16 x4 x3.elems).bind fun x5=>rec (x5,(s1.2+1)))) (some (.nx s1.1))
def Kk n p0 k:=aG (XR n p0) k
def X5(n:Nat)(p0:Env)(rec:F39t)(s3:(List Str)×Int):=cond (decide (s3.2<(p0.names.length:Int))) ((idx p0.names s3.2).bind fun x1=>(app 16 s3.1 ([x1.name])).bind fun x2=>rec (x2,(s3.2+1))) (some (.nx s3.1))
def Kj n p0 k:=aG (X5 n p0) k
def Aj n p0:=(Kk n p0 n (([]),0)).bind (LR.el (fun s2=>((Kj n p0 n (s2,0)).bind (LR.el (fun s4=>some s4) (fun r=>some r)))) fun r=>some r)
def XG(n:Nat)p0(rec:(Int×(List (Str×Bool)))→Option (LR Unit Bool))(s1:Int×(List (Str×Bool))):=cond (decide (s1.1<(p0.length:Int))) ((idx p0 s1.1).bind fun x1=>((ZK (dw s1.2 x1) (some false) (fun x3=>some x3)):Option Bool).bind fun s3=>(cond s3 (some (.rt false)) ((xG s1.2 x1 true).bind fun x2=>rec ((s1.1+1),x2)))) (some (.nx ()))
def Lf n p0 k:=aG (XG n p0) k
def Ay n p0:=(Lf n p0 n (0,([]))).bind (LR.el (fun s2=>some true) fun r=>some r)
def XB(n)(x7:Carrier)(rec:F3t)s8:=cond (decide (s8<(x7.elems.length:Int))) ((idx x7.elems s8).bind fun x8=>(fE n x8).bind fun x9=>(cond (!x9) (some (.rt false)) (rec (s8+1)))) (some (.nx ()))
def vB n x7 k:=aG (XB n x7) k
def X4(n)(p0:Env)(rec:F3t)s2:=cond (decide (s2<(p0.carriers.length:Int))) ((idx p0.carriers s2).bind fun x7=>(((fE n x7.name).bind fun x10=>(cond (!x10) (some true) (some (decide (8<(x7.elems.length:Int)))))):Option Bool).bind fun s7=>(cond s7 (some (.rt false)) ((vB n x7 n 0).bind (LR.el (fun s9=>rec (s2+1)) (fun r=>some (.rt r)))))) (some (.nx ()))
def KM n p0 k:=aG (X4 n p0) k
def XO(n)p0(rec:F3t)s4:=cond (decide (s4<(p0.names.length:Int))) ((idx p0.names s4).bind fun x3=>(((uS n x3.name).bind fun x4=>(cond (!x4) (some true) ((wD n x3.ty).bind fun x5=>(cond (!x5) (some true) ((vk n p0 x3.ty).bind fun x6=>some (!x6)))))):Option Bool).bind fun s6=>(cond s6 (some (.rt false)) (rec (s4+1)))) (some (.nx ()))
def KP n p0 k:=aG (XO n p0) k
def qb n p0:=(cond (decide (8<(p0.carriers.length:Int))) (some true) (some (decide (64<(p0.names.length:Int))))).bind fun s1=>cond s1 (some false) ((KM n p0 n 0).bind (LR.el (fun s3=>((KP n p0 n 0).bind (LR.el (fun s5=>((Aj n p0).bind fun x1=>((Ay n x1).bind fun x2=>some x2))) (fun r=>some r)))) (fun r=>some r)))
def wz(n:Nat)(p0:Env)p1(rec:F3t)s1:=cond (decide (s1<(p0.carriers.length:Int))) ((idx p0.carriers s1).bind fun x1=>((((idx p1 s1).bind fun x2=>(cond (decide (x2<1)) (some true) ((idx p1 s1).bind fun x3=>(cond (decide (8<x3)) (some true) (cond (decide (0<(x1.elems.length:Int))) ((idx p1 s1).bind fun x4=>some (x4 !=(x1.elems.length:Int))) (some false)))))):Option Bool).bind fun s3=>(cond s3 (some (.rt false)) (rec (s1+1))))) (some (.nx ()))
def yH n p0 p1 k:=aG (wz n p0 p1) k
def zh n p0 p1:=cond ((p1.length)!=(p0.carriers.length:Int)) (some false) ((yH n p0 p1 n 0).bind (LR.el (fun s2=>some true) (fun r=>some r)))
def amC(n:Nat)(p0:Carrier)p1:=some (p0.name==p1)
def FR(n:Nat)(p0:List Carrier)p1(rec:F7t)s1:=cond (decide (s1<(p0.length:Int))) ((idx p0 s1).bind fun x1=>cond (x1.name==p1) (some (.rt s1)) (rec (s1+1))) (some (.nx ()))
def uV n p0 p1 k:=aG (FR n p0 p1) k
def pK n p0 p1:=(uV n p0 p1 n 0).bind (LR.el (fun s2=>some (-1)) fun r=>some r)
def GK(n)(p0:Env)p1:=(pK n p0.carriers p1).bind fun x1=>some x1
def cmp_isNaN_int(n:Nat)(p0:Int):=some (p0 !=p0)
def cmp_Compare_int(n:Nat)p0(p1:Int):=cond (p0 !=p0) (cond (p1 !=p1) (some 0) (some (-1))) (cond (p1 !=p1) (some 1) (cond (decide (p0<p1)) (some (-1)) (cond (decide (p1<p0)) (some 1) (some 0))))
def Js(n:Nat)p0(rec:F7t)s1:=cond (decide (s1<(p0.length:Int))) ((idx p0 s1).bind fun x1=>cond (x1 !=0) (some (.rt x1)) (rec (s1+1))) (some (.nx ()))
def Es n p0 k:=aG (Js n p0) k
def UU n p0:=(Es n p0 n 0).bind (LR.el (fun s2=>some 0) fun r=>some r)
def iH(n:Nat)(qb9:F23t)(qbx:F24t)p0(p1)(rec:F7t)s1:=cond (decide (s1<(p0.length:Int))) ((idx p0 s1).bind fun x1=>cond (decide ((p1.length:Int)≤s1)) (some (.rt 1)) ((idx p1 s1).bind fun x2=>((qbx x1 x2).bind fun x3=>(cond (x3 !=0) (some (.rt x3)) (rec (s1+1)))))) (some (.nx ()))
def kT n qb9 qbx p0 p1 k:=aG (iH n qb9 qbx p0 p1) k
def nX n qb9 qbx p0 p1:=(kT n qb9 qbx p0 p1 n 0).bind (LR.el (fun s2=>(cond (decide ((p0.length:Int)<(p1.length:Int))) (some (-1)) (some 0))) fun r=>some r)
def Dq(n:Nat)(qb9:F23t)(qbx:F24t)(p0:Val)(p1:Val):=(cmp_Compare_int n p0.kind p1.kind).bind fun x1=>(cmp_Compare_int n p0.n p1.n).bind fun x2=>((strings_Compare n p0.name p1.name).bind fun x3=>((UU n ([x1,x2,x3])).bind fun x4=>(cond (x4 !=0) (some x4) ((qb9 p0.kids p1.kids).bind fun x5=>some x5))))
mutual
def j5:Nat→List Val→List Val→Option Int
 | 0,_,_=>none
 | n+1,p0,p1=>nX n (fun p0 p1=>j5 n p0 p1) (fun p0 p1=>dF n p0 p1) p0 p1
def dF:Nat→Val→Val→Option Int
 | 0,_,_=>none
 | n+1,p0,p1=>Dq n (fun p0 p1=>j5 n p0 p1) (fun p0 p1=>dF n p0 p1) p0 p1
end
def Bq(n)(qbz:F16t)(qb0:F17t)(p2:Val)(rec:F3t)s6:=cond (decide (s6<(p2.kids.length:Int))) ((idx p2.kids (IntKind.wrap .i64 (s6 - 1))).bind fun x4=>(idx p2.kids s6).bind fun x5=>((dF n x4 x5).bind fun x6=>(cond (decide (0≤x6)) (some (.rt false)) (rec (s6+1))))) (some (.nx ()))
def DX n qbz qb0 p2 k:=aG (Bq n qbz qb0 p2) k
def jk(n:Nat)qbz(qb0:F17t)p0(p1:List Int)(p2:Val)(p3:Ty):=(cond (p3.kind==1) (((cond (p2.kind==1) (cond (decide ((-1000000000)≤p2.n)) (cond (decide (p2.n≤1000000000)) (cond (p2.name==([]:Str)) (some ((p2.kids.length:Int)==0)) (some false)) (some false)) (some false)) (some false)):Option Bool).bind fun s1=>some s1) (cond (p3.kind==2) (((cond (p2.kind==2) (cond (p2.n==0) (cond (p2.name==([]:Str)) (some ((p2.kids.length:Int)==0)) (some false)) (cond (p2.n==1) (cond (p2.name==([]:Str)) (some ((p2.kids.length:Int)==0)) (some false)) (some false))) (some false)):Option Bool).bind fun s2=>some s2) (cond (p3.kind==3) ((GK n p0 p3.name).bind fun x1=>(((cond (decide (0≤x1)) (cond (p2.kind==3) (cond (p2.name==p3.name) (cond (decide (0≤p2.n)) ((idx p1 x1).bind fun x2=>(cond (decide (p2.n<x2)) (some ((p2.kids.length:Int)==0)) (some false))) (some false)) (some false)) (some false)) (some false)):Option Bool).bind fun s3=>some s3)) (cond (p3.kind==4) (((cond (p2.kind==4) (cond (p2.n==0) (cond (p2.name==([]:Str)) (cond ((p2.kids.length:Int)==2) ((qb0 p3.kids p2.kind p2.n p2.name p2.kids p0.carriers p0.names p1).bind fun x3=>some x3) (some false)) (some false)) (some false)) (some false)):Option Bool).bind fun s4=>some s4) (cond (p3.kind==5) (((cond (p2.kind !=5) (some true) (cond (p2.n !=0) (some true) (cond (!(p2.name==([]:Str))) (some true) (cond (decide (256<(p2.kids.length:Int))) (some true) ((qb0 p3.kids p2.kind p2.n p2.name p2.kids p0.carriers p0.names p1).bind fun x7=>some (!x7)))))):Option Bool).bind fun s5=>(cond s5 (some false) ((DX n qbz qb0 p2 n 1).bind (LR.el (fun s7=>some true) (fun r=>some r))))) (some false))))))
def xw(n:Nat)(qbz:F16t)(qb0:F17t)p0(p4)p5(p6)p7(rec:F3t)s1:=cond (decide (s1<(p4.length:Int))) ((idx p4 s1).bind fun x1=>(idx p0 (if((p0.length:Int) - 1)<s1 then((p0.length:Int) - 1) else s1)).bind fun x2=>((qbz (Env.mk p5 p6) p7 x1 x2).bind fun x3=>(cond (!x3) (some (.rt false)) (rec (s1+1))))) (some (.nx ()))
def ze n qbz qb0 p0 p4 p5 p6 p7 k:=aG (xw n qbz qb0 p0 p4 p5 p6 p7) k
def uM(n)qbz(qb0)p0(p1:Int)(p2:Int)(p3:Str)p4(p5)p6(p7):=(ze n qbz qb0 p0 p4 p5 p6 p7 n 0).bind (LR.el (fun s2=>some true) fun r=>some r)
mutual
def jF:Nat→Env→List Int→Val→Ty→Option Bool
 | 0,_,_,_,_=>none
 | n+1,p0,p1,p2,p3=>jk n (fun p0 p1 p2 p3=>jF n p0 p1 p2 p3) (fun p0 p1 p2 p3 p4 p5 p6 p7=>vg n p0 p1 p2 p3 p4 p5 p6 p7) p0 p1 p2 p3
def vg:Nat→List Ty→Int→Int→Str→List Val→List Carrier→List Decl→List Int→Option Bool
 | 0,_,_,_,_,_,_,_,_=>none
 | n+1,p0,p1,p2,p3,p4,p5,p6,p7=>uM n (fun p0 p1 p2 p3=>jF n p0 p1 p2 p3) (fun p0 p1 p2 p3 p4 p5 p6 p7=>vg n p0 p1 p2 p3 p4 p5 p6 p7) p0 p1 p2 p3 p4 p5 p6 p7
end
def XU(n)(p0:S_api_World)(rec:F3t)s2:=cond (decide (s2<(p0.env.names.length:Int))) ((idx p0.env.names s2).bind fun x1=>((idx p0.values s2).bind fun x2=>((jF n p0.env p0.sizes x2 x1.ty).bind fun x3=>(cond (!x3) (some (.rt false)) (rec (s2+1)))))) (some (.nx ()))
def K9 n p0 k:=aG (XU n p0) k
def vw n p0:=((qb n p0.env).bind fun x4=>(cond (!x4) (some true) ((zh n p0.env p0.sizes).bind fun x5=>(cond (!x5) (some true) (some ((p0.values.length:Int)!=(p0.env.names.length:Int))))))).bind fun s1=>cond s1 (some false) ((K9 n p0 n 0).bind (LR.el (fun s3=>some true) (fun r=>some r)))
def Qd(n:Nat)(p0:Int):=(cond (p0==1) (some (p0==1)) (cond (p0==2) (some (p0==2)) (cond (p0==19) (some (p0==19)) (cond (p0==20) (some (p0==20)) (some (p0==29)))))).bind fun s1=>cond s1 (some (0,true)) (((cond (p0==3) (some (p0==3)) (cond (p0==21) (some (p0==21)) (((cond (decide (46≤p0)) (some (decide (p0≤51))) (some false)):Option Bool).bind fun s4=>(cond s4 (some s4) (some (p0==52)))))):Option Bool).bind fun s2=>(cond s2 (some (1,true)) (cond (p0==28) (some ((-1),true)) (((cond (decide (1≤p0)) (some (decide (p0≤56))) (some false)):Option Bool).bind fun s3=>(cond s3 (some (2,true)) (some (0,false)))))))
def UK n p0:=(strings_TrimSuffix n p0 [39]).bind fun x1=>(fE n x1).bind fun x2=>some x2
def DF(n:Nat)(p0:Int):=(cond (p0==8) (some true) (cond (p0==9) (some true) (cond (p0==55) (some true) (some (p0==56))))).bind fun s1=>some s1
def Ei(n:Nat)(p0:Ty):=(cond (p0.kind==0) (cond (p0.name==([]:Str)) (some ((p0.kids.length:Int)==0)) (some false)) (some false)).bind fun s1=>some s1
def JU(n:Nat)(p0:Tm):=((Qd n p0.op).bind fun x1=>(((((cond (!x1.2) (some (!x1.2)) (((cond (x1.1==(-1)) (some ((p0.kids.length:Int)==0)) (some false)):Option Bool).bind fun s6=>(cond s6 (some s6) (cond (x1.1 !=(-1)) (some ((p0.kids.length:Int)!=x1.1)) (some false))))):Option Bool).bind fun s5=>(cond s5 (some (.rt false)) (cond (p0.op==20) ((UK n p0.name).bind fun x4=>some (.nx x4)) ((DF n p0.op).bind fun x5=>(cond x5 ((fE n p0.name).bind fun x6=>some (.nx x6)) (some (.nx (p0.name==([]:Str))))))))):Option (LR Bool Bool)).bind (LR.el (fun s1=>(((cond (p0.op==19) (cond s1 (cond (decide (0≤p0.n)) (some (decide (p0.n≤1000000000))) (some false)) (some false)) (cond s1 (some (p0.n==0)) (some false))):Option Bool).bind fun s2=>(cond (p0.op==29) (((cond s2 (cond (p0.ty.kind !=2) ((mD n p0.ty).bind fun x2=>some x2) (some false)) (some false)):Option Bool).bind fun s3=>some s3) (((cond s2 ((Ei n p0.ty).bind fun x3=>some x3) (some false)):Option Bool).bind fun s4=>some s4)))) (fun r=>some r))))
def MQ(n:Nat)(qce:F18t)(qca:F19t)(qch:F20t)(qci:F21t)p0(p2)p3(p4)(rec:F38t)(s1:Int×Int):=cond (decide (s1.1<(p0.length:Int))) ((idx p0 s1.1).bind fun x1=>(qci x1 s1.2 p2 p3 p4).bind fun x2=>(cond x2.1 (some (.rt (s1.1,x2.2))) (rec ((s1.1+1),x2.2)))) (some (.nx s1.2))
def BH n qce qca qch qci p0 p2 p3 p4 k:=aG (MQ n qce qca qch qci p0 p2 p3 p4) k
def jr n qce qca qch qci p0 p1 p2 p3 p4:=(BH n qce qca qch qci p0 p2 p3 p4 n (0,p1)).bind (LR.el (fun s2=>some ((-1),s2)) fun r=>some r)
def nY(n:Nat)(qce:F18t)(qca:F19t)(qch:F20t)(qci:F21t)p0(p1)p2(p3)p4:=(qce p0 p1 p2 p3 p4).bind fun x1=>some (decide (0≤x1.1),x1.2)
def vX(n:Nat)(qce:F18t)(qca:F19t)(qch:F20t)(qci:F21t)p0(p1:Int)p2(p3:Tm)p4:=((kg n p0 p1 p2 p4).bind fun x2=>(cond (!x2.1) (some (true,x2.2)) ((JU n p3).bind fun x3=>some ((!x3),x2.2)))).bind fun s1=>cond s1.1 (some (false,s1.2)) ((qca p3.kids s1.2 p1 p2 p4).bind fun x1=>some ((!x1.1),x1.2))
def sJ(n:Nat)(qce:F18t)(qca:F19t)(qch:F20t)(qci:F21t)p0(p1)p2(p3)p4:=(qch p1 p2 p3 p0 (IntKind.wrap .i64 (p4+1))).bind fun x1=>some (!x1.1,x1.2)
mutual
def jR:Nat→List Tm→Int→Int→Int→Int→Option (Int×Int)
 | 0,_,_,_,_,_=>none
 | n+1,p0,p1,p2,p3,p4=>jr n (fun p0 p1 p2 p3 p4=>jR n p0 p1 p2 p3 p4) (fun p0 p1 p2 p3 p4=>fQ n p0 p1 p2 p3 p4) (fun p0 p1 p2 p3 p4=>jD n p0 p1 p2 p3 p4) (fun p0 p1 p2 p3 p4=>fZ n p0 p1 p2 p3 p4) p0 p1 p2 p3 p4
def fQ:Nat→List Tm→Int→Int→Int→Int→Option (Bool×Int)
 | 0,_,_,_,_,_=>none
 | n+1,p0,p1,p2,p3,p4=>nY n (fun p0 p1 p2 p3 p4=>jR n p0 p1 p2 p3 p4) (fun p0 p1 p2 p3 p4=>fQ n p0 p1 p2 p3 p4) (fun p0 p1 p2 p3 p4=>jD n p0 p1 p2 p3 p4) (fun p0 p1 p2 p3 p4=>fZ n p0 p1 p2 p3 p4) p0 p1 p2 p3 p4
def jD:Nat→Int→Int→Int→Tm→Int→Option (Bool×Int)
 | 0,_,_,_,_,_=>none
 | n+1,p0,p1,p2,p3,p4=>vX n (fun p0 p1 p2 p3 p4=>jR n p0 p1 p2 p3 p4) (fun p0 p1 p2 p3 p4=>fQ n p0 p1 p2 p3 p4) (fun p0 p1 p2 p3 p4=>jD n p0 p1 p2 p3 p4) (fun p0 p1 p2 p3 p4=>fZ n p0 p1 p2 p3 p4) p0 p1 p2 p3 p4
def fZ:Nat→Tm→Int→Int→Int→Int→Option (Bool×Int)
 | 0,_,_,_,_,_=>none
 | n+1,p0,p1,p2,p3,p4=>sJ n (fun p0 p1 p2 p3 p4=>jR n p0 p1 p2 p3 p4) (fun p0 p1 p2 p3 p4=>fQ n p0 p1 p2 p3 p4) (fun p0 p1 p2 p3 p4=>jD n p0 p1 p2 p3 p4) (fun p0 p1 p2 p3 p4=>fZ n p0 p1 p2 p3 p4) p0 p1 p2 p3 p4
end
def Cb n p0:=(jD n 0 2000 64 p0 1).bind fun x1=>some x1.1
def anO(n:Nat)p0:=some (Ty.mk 5 ([]) [p0])
def adA(n:Nat)(x3:Carrier)(rec:F35t)(s5:Int×(List (Str×Ty))):=cond (decide (s5.1<(x3.elems.length:Int))) ((idx x3.elems s5.1).bind fun x5=>(xG s5.2 x5 (Ty.mk 3 x3.name ([]))).bind fun x6=>rec ((s5.1+1),x6)) (some (.nx s5.2))
def vo n x3 k:=aG (adA n x3) k
def ad7(n)(p0:Env)(rec:F35t)(s1:Int×(List (Str×Ty))):=cond (decide (s1.1<(p0.carriers.length:Int))) ((idx p0.carriers s1.1).bind fun x3=>(xG s1.2 x3.name (Ty.mk 5 ([]:Str) ([(Ty.mk 3 x3.name ([]))]))).bind fun x4=>((vo n x3 n (0,x4)).bind (LR.el (fun s6=>rec ((s1.1+1),s6)) (fun r=>some (.rt r))))) (some (.nx s1.2))
def Q7 n p0 k:=aG (ad7 n p0) k
def ac5(n:Nat)(p0:Env)(rec:F35t)(s3:Int×(List (Str×Ty))):=cond (decide (s3.1<(p0.names.length:Int))) ((idx p0.names s3.1).bind fun x1=>(xG s3.2 x1.name x1.ty).bind fun x2=>rec ((s3.1+1),x2)) (some (.nx s3.2))
def QX n p0 k:=aG (ac5 n p0) k
def GH n p0:=(Q7 n p0 n (0,([]))).bind (LR.el (fun s2=>((QX n p0 n (0,s2)).bind (LR.el (fun s4=>some s4) (fun r=>some r)))) fun r=>some r)
def amk(n:Nat):=some (Ty.mk 2 [] [])
def arn(n:Nat)(p0:Int)(p1:Ty):=some ()
def aiD(n:Nat):=some (Ty.mk 1 [] [])
def aum(n:Nat):=some ()
def abQ(n:Nat):=some ()
def apU(n:Nat):=some ()
def agh(n:Nat)(p0:Ty):=some ()
def aqU(n:Nat):=some ()
def akX(n:Nat):=some ()
def aqz(n:Nat):=some ()
def al1(n:Nat):=some ()
def apM(n:Nat):=some ()
def XM(n:Nat):=some ()
def Xx(n:Nat):=some ()
def ahV(n:Nat):=some ()
def ai1(n:Nat):=some ()
def X9(n:Nat):=some ()
def X0(n:Nat):=some ()
def XE(n:Nat):=some ()
def Xy(n:Nat):=some ()
def XL(n:Nat):=some ()
def aq9(n:Nat):=some ()
def Ta(n:Nat)(p0:Env)(rec:(Int×(List (Str×Bool)))→Option (LR (List (Str×Bool)) ((List (Str×Ty))×(List (Str×Bool)))))(s1:Int×(List (Str×Bool))):Option (LR (List (Str×Bool)) ((List (Str×Ty))×(List (Str×Bool)))):=cond (decide (s1.1<(p0.carriers.length:Int))) ((idx p0.carriers s1.1).bind fun x2=>(xG s1.2 x2.name true).bind fun x3=>rec ((s1.1+1),x3)) (some (.nx s1.2))
def Gm n p0 k:=aG (Ta n p0) k
def wJ n p0:=(GH n p0).bind fun x1=>(Gm n p0 n (0,([]:List (Str×Bool)))).bind (LR.el (fun s2=>some (x1,s2)) (fun r=>some r))
def zx(n:Nat)(p0:Int):=(cond (p0==8) (some true) (cond (p0==9) (some true) (cond (p0==55) (some true) (some (p0==56))))).bind fun s1=>some s1
def bO(n:Nat)(p0:Ty):=cond (p0.kind !=5) (some ((Ty.mk 0 ([]:Str) ([])),false)) ((idx p0.kids 0).bind fun x1=>some (x1,true))
def Py(n:Nat)p1(rec:(List Decl)→Option (LR Unit (Ty×Bool)))s1:=cond (true !=List.isEmpty s1) ((unc s1).bind fun x1=>cond (x1.1.name==p1) ((unc s1).bind fun x2=>some (.rt (x2.1.ty,true))) ((unc s1).bind fun x3=>rec x3.2)) (some (.nx ()))
def oP n p1 k:=aG (Py n p1) k
def oq n p0 p1:=(oP n p1 n p0).bind (LR.el (fun s2=>some ((Ty.mk 0 ([]:Str) ([])),false)) fun r=>some r)
def oQ(n:Nat)p0(p1:List (Str×Ty))p2(p3:List Int):=(ZK (dw p2 p0) (some true) (fun x1=>some (!x1))).bind fun s1=>some s1
def GV(n)p0(p1)p2(p3)(rec:F7t)s1:=cond (decide (s1<(p0.length:Int))) ((idx p0 s1).bind fun x1=>(oQ n x1 p1 p2 p3).bind fun x2=>(cond x2 (some (.rt s1)) (rec (s1+1)))) (some (.nx ()))
def wm n p0 p1 p2 p3 k:=aG (GV n p0 p1 p2 p3) k
def qQ n p0 p1 p2 p3:=(wm n p0 p1 p2 p3 n 0).bind (LR.el (fun s2=>some (-1)) fun r=>some r)
def nW n p0 p1 p2 p3:=(qQ n p0 p1 p2 p3).bind fun x1=>some (decide (0≤x1))
def nJ n p0 p1 p2 p3:=(qo n p3).bind fun x1=>(nW n x1 p0 p1 p2).bind fun x2=>some (!x2)
def oG(n:Nat)(p0:Ty):Option (Ty×Int):=(mD n p0).bind fun x1=>cond (!x1) (some ((Ty.mk 0 ([]:Str) ([])),5)) (some (p0,0))
def abu(n:Nat)(p0:List Ty)p1(p2)p3:=some (Ty.mk p1 p2 p3,true)
def af7(n:Nat)(p0:Ty)p1:=some (p0.kind !=p1)
def K7(n:Nat)(p0:List Ty)p1(rec:F7t)s1:=cond (decide (s1<(p0.length:Int))) ((idx p0 s1).bind fun x1=>cond (x1.kind !=p1) (some (.rt s1)) (rec (s1+1))) (some (.nx ()))
def zy n p0 p1 k:=aG (K7 n p0 p1) k
def CG n p0 p1:=(zy n p0 p1 n 0).bind (LR.el (fun s2=>some (-1)) fun r=>some r)
def zB n p0 p1:=(CG n p0 p1).bind fun x1=>some (decide (0≤x1))
def aT n p0 p1 p2 p3 p4:=(zB n p0 p4).bind fun x1=>some (Ty.mk p1 p2 p3,!x1)
def alM(n:Nat)(p0:Ty):=some (Ty.mk 2 [] [])
def qw(n:Nat)(p0:List Ty):=(idx p0 0).bind fun x1=>(idx p0 1).bind fun x2=>some ((Ty.mk 2 ([]:Str) ([])),(x2.kind==2))
def MG(n:Nat)(qcd:F25t)(qcr:F26t)p0(p1)(rec:F3t)s1:=cond (decide (s1<(p0.length:Int))) ((idx p0 s1).bind fun x1=>(idx p1 s1).bind fun x2=>((qcr x1 x2).bind fun x3=>(cond (!x3) (some (.rt false)) (rec (s1+1))))) (some (.nx ()))
def BI n qcd qcr p0 p1 k:=aG (MG n qcd qcr p0 p1) k
def qM n qcd qcr p0 p1:=cond ((p0.length)!=(p1.length:Int)) (some false) ((BI n qcd qcr p0 p1 n 0).bind (LR.el (fun s2=>some true) (fun r=>some r)))
def Dh(n:Nat)(qcd:F25t)(qcr:F26t)(p0:Ty)(p1:Ty):=(cond (p0.kind==p1.kind) (cond (p0.name==p1.name) ((qcd p0.kids p1.kids).bind fun x1=>some x1) (some false)) (some false)).bind fun s1=>some s1
mutual
def qd:Nat→List Ty→List Ty→Option Bool
 | 0,_,_=>none
 | n+1,p0,p1=>qM n (fun p0 p1=>qd n p0 p1) (fun p0 p1=>iM n p0 p1) p0 p1
def iM:Nat→Ty→Ty→Option Bool
 | 0,_,_=>none
 | n+1,p0,p1=>Dh n (fun p0 p1=>qd n p0 p1) (fun p0 p1=>iM n p0 p1) p0 p1
end
def BJ n p0 p1:=(idx p1 0).bind fun x1=>(iM n p0 x1).bind fun x2=>some (!x2)
def K5(n)p0(p1)(rec:F7t)s1:=cond (decide (s1<(p0.length:Int))) ((idx p0 s1).bind fun x1=>(BJ n x1 p1).bind fun x2=>(cond x2 (some (.rt s1)) (rec (s1+1)))) (some (.nx ()))
def zF n p0 p1 k:=aG (K5 n p0 p1) k
def tV n p0 p1:=(zF n p0 p1 n 0).bind (LR.el (fun s2=>some (-1)) fun r=>some r)
def qV n p0 p1:=(tV n p0 p1).bind fun x1=>some (decide (0≤x1))
def lH n p0:=((idx p0 0).bind fun x1=>(cond (x1.kind !=2) ((qV n p0 p0).bind fun x2=>some (!x2)) (some false))).bind fun s1=>some s1
def uG n p0:=(lH n p0).bind fun x1=>some (Ty.mk 2 ([]:Str) ([]),x1)
def qU n p0:=(idx p0 1).bind fun x1=>(bO n x1).bind fun x2=>(((cond x2.2 ((idx p0 0).bind fun x3=>((iM n x3 x2.1).bind fun x4=>some x4)) (some false)):Option Bool).bind fun s1=>some ((Ty.mk 2 ([]:Str) ([])),s1))
def uP n p0:=((idx p0 0).bind fun x1=>((idx p0 0).bind fun x2=>(cond (x2.kind==5) ((lH n p0).bind fun x3=>some x3) (some false)))).bind fun s1=>some ((Ty.mk 2 ([]:Str) ([])),s1)
def alA(n:Nat)p0(p1):=some (Ty.mk 4 ([]) [p0,p1])
def za(n:Nat)p0:=((idx p0 0).bind fun x1=>((idx p0 1).bind fun x2=>((idx p0 0).bind fun x3=>(cond (x3.kind !=2) ((idx p0 1).bind fun x4=>some ((x4.kind !=2),([x1,x2]))) (some (false,([x1,x2]))))))).bind fun s1=>some ((Ty.mk 4 ([]:Str) s1.2),s1.1)
def zu n p0:=(idx p0 0).bind fun x1=>(lH n p0).bind fun x2=>some ((Ty.mk 5 ([]:Str) ([x1])),x2)
def alf(n:Nat)(p0:Ty):=some p0
def jJ n p0:=((idx p0 0).bind fun x1=>((idx p0 0).bind fun x2=>(cond (x2.kind==5) ((lH n p0).bind fun x3=>some (x3,x1.kind,x1.name,x1.kids)) (some (false,x1.kind,x1.name,x1.kids))))).bind fun s1=>some ((Ty.mk s1.2.1 s1.2.2.1 s1.2.2.2),s1.1)
def ag7(n:Nat)p0(p1):=some (Ty.mk 5 ([]) [(Ty.mk 4 ([]:Str) ([p0,p1]))])
def xI n p0:=(idx p0 0).bind fun x1=>(bO n x1).bind fun x2=>((idx p0 1).bind fun x3=>((bO n x3).bind fun x4=>(((cond (!x2.2) (some true) (some (!x4.2))):Option Bool).bind fun s1=>(cond s1 (some ((Ty.mk 0 ([]:Str) ([])),false)) (some ((Ty.mk 5 ([]:Str) ([(Ty.mk 4 ([]:Str) ([x2.1,x4.1]))])),true))))))
def iO n p0:=(bO n p0).bind fun x1=>((cond (!x1.2) (some true) (some (x1.1.kind !=4))):Option Bool).bind fun s1=>(cond s1 (some ((Ty.mk 0 ([]:Str) ([])),(Ty.mk 0 ([]:Str) ([])),false)) ((idx x1.1.kids 0).bind fun x2=>((idx x1.1.kids 1).bind fun x3=>some (x2,x3,true))))
def WT(n:Nat)(p0:Ty)(p1:Ty)p2:=(idx p2 0).bind fun x1=>(lH n p2).bind fun x2=>some (x1,x2)
def lY n p0:=(idx p0 0).bind fun x1=>(iO n x1).bind fun x2=>(cond (!x2.2.2) (some ((Ty.mk 0 ([]:Str) ([])),false)) ((WT n x2.1 x2.2.1 p0).bind fun x3=>some (x3.1,x3.2)))
def LH n p0 p1 p2:=(idx p2 1).bind fun x1=>(iO n x1).bind fun x2=>(((cond x2.2.2 ((iM n p1 x2.1).bind fun x3=>some (x3,([(Ty.mk 4 ([]:Str) ([p0,x2.2.1]))]))) (some (false,([(Ty.mk 4 ([]:Str) ([p0,x2.2.1]))])))):Option (Bool×(List Ty))).bind fun s1=>some ((Ty.mk 5 ([]:Str) s1.2),s1.1))
def lW n p0:=(idx p0 0).bind fun x1=>(iO n x1).bind fun x2=>(cond (!x2.2.2) (some ((Ty.mk 0 ([]:Str) ([])),false)) ((LH n x2.1 x2.2.1 p0).bind fun x3=>some (x3.1,x3.2)))
def qJ n p0:=(idx p0 0).bind fun x1=>(bO n x1).bind fun x2=>((idx p0 1).bind fun x3=>((iO n x3).bind fun x4=>((((idx p0 1).bind fun x5=>(cond x2.2 (cond x4.2.2 ((iM n x2.1 x4.1).bind fun x6=>some (x6,x5.kind,x5.name,x5.kids)) (some (false,x5.kind,x5.name,x5.kids))) (some (false,x5.kind,x5.name,x5.kids)))):Option (Bool×Int×Str×(List Ty))).bind fun s1=>some ((Ty.mk s1.2.1 s1.2.2.1 s1.2.2.2),s1.1))))
def LC(n:Nat)(p0:Ty)p1(p2:List Ty):=(idx p2 1).bind fun x1=>(bO n x1).bind fun x2=>((((idx p2 0).bind fun x3=>(cond x2.2 ((iM n x2.1 p1).bind fun x4=>some (x4,x3.kind,x3.name,x3.kids)) (some (false,x3.kind,x3.name,x3.kids)))):Option (Bool×Int×Str×(List Ty))).bind fun s1=>some ((Ty.mk s1.2.1 s1.2.2.1 s1.2.2.2),s1.1))
def iJ n p0:=(idx p0 0).bind fun x1=>(iO n x1).bind fun x2=>(cond (!x2.2.2) (some ((Ty.mk 0 ([]:Str) ([])),false)) ((LC n x2.1 x2.2.1 p0).bind fun x3=>some (x3.1,x3.2)))
def alG(n:Nat)p0(p1):=some (Ty.mk 5 ([]) [(Ty.mk 5 ([]:Str) ([(Ty.mk 4 ([]:Str) ([p0,p1]))]))])
def fO n p0:=(idx p0 0).bind fun x1=>(bO n x1).bind fun x2=>((idx p0 1).bind fun x3=>((bO n x3).bind fun x4=>(((cond (!x2.2) (some true) (some (!x4.2))):Option Bool).bind fun s1=>(cond s1 (some ((Ty.mk 0 ([]:Str) ([])),false)) (some ((Ty.mk 5 ([]:Str) ([(Ty.mk 5 ([]:Str) ([(Ty.mk 4 ([]:Str) ([x2.1,x4.1]))]))])),true))))))
def aiG(n:Nat)p0:=some (Ty.mk 5 ([]:Str) ([(Ty.mk 5 ([]:Str) ([p0]))]),true)
def sW n p0:=(idx p0 0).bind fun x1=>(bO n x1).bind fun x2=>(cond (!x2.2) (some ((Ty.mk 0 ([]:Str) ([])),false)) (some ((((Ty.mk 5 ([]:Str) ([(Ty.mk 5 ([]:Str) ([x2.1]))])),true).1),((Ty.mk 5 ([]:Str) ([(Ty.mk 5 ([]:Str) ([x2.1]))])),true).2)))
def ahM(n:Nat)(p0:Ty):=some (Ty.mk 1 ([]) [],true)
def sO n p0:=(idx p0 0).bind fun x1=>(bO n x1).bind fun x2=>(cond (!x2.2) (some ((Ty.mk 0 ([]:Str) ([])),false)) (some ((((Ty.mk 1 ([]:Str) ([])),true).1),((Ty.mk 1 ([]:Str) ([])),true).2)))
def ak8(n:Nat)(p0:Ty):=some (Ty.mk 1 ([]) [],p0.kind==1)
def lS n p0:=(idx p0 0).bind fun x1=>(bO n x1).bind fun x2=>(cond (!x2.2) (some ((Ty.mk 0 ([]:Str) ([])),false)) (some ((((Ty.mk 1 ([]:Str) ([])),(x2.1.kind==1)).1),((Ty.mk 1 ([]:Str) ([])),(x2.1.kind==1)).2)))
def ah6(n:Nat)p0(p1:Ty)(p2:List Ty):=some (Ty.mk 5 ([]:Str) ([p0]),true)
def mg n p0:=(idx p0 0).bind fun x1=>(iO n x1).bind fun x2=>(cond (!x2.2.2) (some ((Ty.mk 0 ([]:Str) ([])),false)) (some ((((Ty.mk 5 ([]:Str) ([x2.1])),true).1),((Ty.mk 5 ([]:Str) ([x2.1])),true).2)))
def aiN(n:Nat)(p0:Ty)p1(p2:List Ty):=some (Ty.mk 5 ([]:Str) ([p1]),true)
def lV n p0:=(idx p0 0).bind fun x1=>(iO n x1).bind fun x2=>(cond (!x2.2.2) (some ((Ty.mk 0 ([]:Str) ([])),false)) (some ((((Ty.mk 5 ([]:Str) ([x2.2.1])),true).1),((Ty.mk 5 ([]:Str) ([x2.2.1])),true).2)))
def ahJ(n:Nat)p0(p1)(p2:List Ty):=some (Ty.mk 5 ([]:Str) ([(Ty.mk 4 ([]:Str) ([p1,p0]))]),true)
def l8 n p0:=(idx p0 0).bind fun x1=>(iO n x1).bind fun x2=>(cond (!x2.2.2) (some ((Ty.mk 0 ([]:Str) ([])),false)) (some ((((Ty.mk 5 ([]:Str) ([(Ty.mk 4 ([]:Str) ([x2.2.1,x2.1]))])),true).1),((Ty.mk 5 ([]:Str) ([(Ty.mk 4 ([]:Str) ([x2.2.1,x2.1]))])),true).2)))
def IW n p0 p1 p2:=(idx p2 1).bind fun x1=>(bO n x1).bind fun x2=>(((cond x2.2 ((iM n x2.1 p0).bind fun x3=>some (x3,([p1]))) (some (false,([p1])))):Option (Bool×(List Ty))).bind fun s1=>some ((Ty.mk 5 ([]:Str) s1.2),s1.1))
def lU n p0:=(idx p0 0).bind fun x1=>(iO n x1).bind fun x2=>(cond (!x2.2.2) (some ((Ty.mk 0 ([]:Str) ([])),false)) ((IW n x2.1 x2.2.1 p0).bind fun x3=>some (x3.1,x3.2)))
def Ir(n:Nat)p0(p1:Ty)p2:=(idx p2 1).bind fun x1=>(iM n x1 p0).bind fun x2=>some (p1,x2)
def mF n p0:=(idx p0 0).bind fun x1=>(iO n x1).bind fun x2=>(cond (!x2.2.2) (some ((Ty.mk 0 ([]:Str) ([])),false)) ((Ir n x2.1 x2.2.1 p0).bind fun x3=>some (x3.1,x3.2)))
def Ad(n:Nat)(p0:List Ty):=(idx p0 0).bind fun x1=>(idx p0 1).bind fun x2=>some (x1,(x2.kind==2))
def wT n p0:=(idx p0 0).bind fun x1=>(bO n x1).bind fun x2=>((((idx p0 1).bind fun x3=>(cond x2.2 ((idx p0 1).bind fun x4=>some ((x4.kind !=2),([(Ty.mk 4 ([]:Str) ([x2.1,x3]))]))) (some (false,([(Ty.mk 4 ([]:Str) ([x2.1,x3]))]))))):Option (Bool×(List Ty))).bind fun s1=>some ((Ty.mk 5 ([]:Str) s1.2),s1.1))
def Uh(n)(qcm:F27t)(qcl:F28t)p0(p1)p3(rec:((List Decl)×(List Ty)×Int×(List Int))→Option (LR ((List Decl)×(List Ty)×(List Int)) (Ty×Int×(List Int))))(s1:(List Decl)×(List Ty)×Int×(List Int)):=cond (decide (s1.2.2.1<(p3.kids.length:Int))) ((((qcl p0 p1 s1.2.2.2 p3 s1.2.2.1 s1.1).bind fun x57=>(cond (x57.2.1 !=0) (some (.rt ((Ty.mk 0 ([]:Str) ([])),x57.2.1,x57.2.2))) ((app 48 s1.2.1 ([x57.1])).bind fun x58=>(((cond (s1.2.2.1==0) ((zx n p3.op).bind fun x60=>some x60) (some false)):Option Bool).bind fun s6=>(cond s6 ((bO n x57.1).bind fun x59=>(cond (!x59.2) (some (.rt ((Ty.mk 0 ([]:Str) ([])),7,x57.2.2))) (some (.nx (((Decl.mk p3.name x59.1)::s1.1),x58,x57.2.2))))) (some (.nx (s1.1,x58,x57.2.2)))))))):Option (LR ((List Decl)×(List Ty)×(List Int)) (Ty×Int×(List Int)))).bind (LR.el (fun s5=>rec (s5.1,s5.2.1,(s1.2.2.1+1),s5.2.2)) (fun r=>some (.rt r)))) (some (.nx (s1.1,s1.2.1,s1.2.2.2)))
def yu n qcm qcl p0 p1 p3 k:=aG (Uh n qcm qcl p0 p1 p3) k
def vW n qcm qcl p0 p1 p2 p3 p4:=(yu n qcm qcl p0 p1 p3 n (p4,([]),0,p2)).bind (LR.el (fun s2=>(cond (p3.op==20) ((oq n s2.1 p3.name).bind fun x1=>(cond x1.2 (some (x1.1,0,s2.2.2)) (((ZK (dw p0 p3.name) (some (false,0,([]:Str),([]:List Ty))) (fun x2=>some (true,x2.kind,x2.name,x2.kids))):Option (Bool×Int×Str×(List Ty))).bind fun s3=>(cond (!s3.1) (some ((Ty.mk 0 ([]:Str) ([])),6,s2.2.2)) (some ((Ty.mk s3.2.1 s3.2.2.1 s3.2.2.2),0,s2.2.2)))))) (cond (p3.op==29) ((nJ n p0 p1 s2.2.2 p3.ty).bind fun x3=>(cond (!x3) (some ((Ty.mk 0 ([]:Str) ([])),6,s2.2.2)) ((oG n (Ty.mk 5 ([]:Str) ([p3.ty]))).bind fun x4=>some (x4.1,x4.2,s2.2.2)))) (((cond (p3.op==0) none (cond (p3.op==1) (some (((Ty.mk 2 ([]:Str) ([])),true).2,(((Ty.mk 2 ([]:Str) ([])),true).1).kind,(((Ty.mk 2 ([]:Str) ([])),true).1).name,(((Ty.mk 2 ([]:Str) ([])),true).1).kids)) (cond (p3.op==2) (some (((Ty.mk 2 ([]:Str) ([])),true).2,(((Ty.mk 2 ([]:Str) ([])),true).1).kind,(((Ty.mk 2 ([]:Str) ([])),true).1).name,(((Ty.mk 2 ([]:Str) ([])),true).1).kids)) (cond (p3.op==3) ((aT n s2.2.1 2 ([]:Str) ([]) 2).bind fun x6=>some (x6.2,x6.1.kind,x6.1.name,x6.1.kids)) (cond (p3.op==4) ((aT n s2.2.1 2 ([]:Str) ([]) 2).bind fun x7=>some (x7.2,x7.1.kind,x7.1.name,x7.1.kids)) (cond (p3.op==5) ((aT n s2.2.1 2 ([]:Str) ([]) 2).bind fun x8=>some (x8.2,x8.1.kind,x8.1.name,x8.1.kids)) (cond (p3.op==6) ((aT n s2.2.1 2 ([]:Str) ([]) 2).bind fun x9=>some (x9.2,x9.1.kind,x9.1.name,x9.1.kids)) (cond (p3.op==7) ((aT n s2.2.1 2 ([]:Str) ([]) 2).bind fun x10=>some (x10.2,x10.1.kind,x10.1.name,x10.1.kids)) (cond (p3.op==8) ((qw n s2.2.1).bind fun x11=>some (x11.2,x11.1.kind,x11.1.name,x11.1.kids)) (cond (p3.op==9) ((qw n s2.2.1).bind fun x12=>some (x12.2,x12.1.kind,x12.1.name,x12.1.kids)) (cond (p3.op==10) ((uG n s2.2.1).bind fun x13=>some (x13.2,x13.1.kind,x13.1.name,x13.1.kids)) (cond (p3.op==11) ((uG n s2.2.1).bind fun x14=>some (x14.2,x14.1.kind,x14.1.name,x14.1.kids)) (cond (p3.op==12) ((aT n s2.2.1 2 ([]:Str) ([]) 1).bind fun x15=>some (x15.2,x15.1.kind,x15.1.name,x15.1.kids)) (cond (p3.op==13) ((aT n s2.2.1 2 ([]:Str) ([]) 1).bind fun x16=>some (x16.2,x16.1.kind,x16.1.name,x16.1.kids)) (cond (p3.op==14) ((aT n s2.2.1 2 ([]:Str) ([]) 1).bind fun x17=>some (x17.2,x17.1.kind,x17.1.name,x17.1.kids)) (cond (p3.op==15) ((aT n s2.2.1 2 ([]:Str) ([]) 1).bind fun x18=>some (x18.2,x18.1.kind,x18.1.name,x18.1.kids)) (cond (p3.op==16) ((qU n s2.2.1).bind fun x19=>some (x19.2,x19.1.kind,x19.1.name,x19.1.kids)) (cond (p3.op==17) ((qU n s2.2.1).bind fun x20=>some (x20.2,x20.1.kind,x20.1.name,x20.1.kids)) (cond (p3.op==18) ((uP n s2.2.1).bind fun x21=>some (x21.2,x21.1.kind,x21.1.name,x21.1.kids)) (cond (p3.op==19) (some (((Ty.mk 1 ([]:Str) ([])),true).2,(((Ty.mk 1 ([]:Str) ([])),true).1).kind,(((Ty.mk 1 ([]:Str) ([])),true).1).name,(((Ty.mk 1 ([]:Str) ([])),true).1).kids)) (cond (p3.op==20) none (cond (p3.op==21) ((aT n s2.2.1 1 ([]:Str) ([]) 1).bind fun x22=>some (x22.2,x22.1.kind,x22.1.name,x22.1.kids)) (cond (p3.op==22) ((aT n s2.2.1 1 ([]:Str) ([]) 1).bind fun x23=>some (x23.2,x23.1.kind,x23.1.name,x23.1.kids)) (cond (p3.op==23) ((aT n s2.2.1 1 ([]:Str) ([]) 1).bind fun x24=>some (x24.2,x24.1.kind,x24.1.name,x24.1.kids)) (cond (p3.op==24) ((aT n s2.2.1 1 ([]:Str) ([]) 1).bind fun x25=>some (x25.2,x25.1.kind,x25.1.name,x25.1.kids)) (cond (p3.op==25) ((aT n s2.2.1 1 ([]:Str) ([]) 1).bind fun x26=>some (x26.2,x26.1.kind,x26.1.name,x26.1.kids)) (cond (p3.op==26) ((aT n s2.2.1 1 ([]:Str) ([]) 1).bind fun x27=>some (x27.2,x27.1.kind,x27.1.name,x27.1.kids)) (cond (p3.op==27) ((za n s2.2.1).bind fun x28=>some (x28.2,x28.1.kind,x28.1.name,x28.1.kids)) (cond (p3.op==28) ((zu n s2.2.1).bind fun x29=>some (x29.2,x29.1.kind,x29.1.name,x29.1.kids)) (cond (p3.op==29) none (cond (p3.op==30) ((aT n s2.2.1 5 ([]:Str) ([(Ty.mk 1 ([]:Str) ([]))]) 1).bind fun x30=>some (x30.2,x30.1.kind,x30.1.name,x30.1.kids)) (cond (p3.op==31) ((jJ n s2.2.1).bind fun x31=>some (x31.2,x31.1.kind,x31.1.name,x31.1.kids)) (cond (p3.op==32) ((jJ n s2.2.1).bind fun x32=>some (x32.2,x32.1.kind,x32.1.name,x32.1.kids)) (cond (p3.op==33) ((jJ n s2.2.1).bind fun x33=>some (x33.2,x33.1.kind,x33.1.name,x33.1.kids)) (cond (p3.op==34) ((xI n s2.2.1).bind fun x34=>some (x34.2,x34.1.kind,x34.1.name,x34.1.kids)) (cond (p3.op==35) ((lY n s2.2.1).bind fun x35=>some (x35.2,x35.1.kind,x35.1.name,x35.1.kids)) (cond (p3.op==36) ((lW n s2.2.1).bind fun x36=>some (x36.2,x36.1.kind,x36.1.name,x36.1.kids)) (cond (p3.op==37) ((qJ n s2.2.1).bind fun x37=>some (x37.2,x37.1.kind,x37.1.name,x37.1.kids)) (cond (p3.op==38) ((qJ n s2.2.1).bind fun x38=>some (x38.2,x38.1.kind,x38.1.name,x38.1.kids)) (cond (p3.op==39) ((iJ n s2.2.1).bind fun x39=>some (x39.2,x39.1.kind,x39.1.name,x39.1.kids)) (cond (p3.op==40) ((iJ n s2.2.1).bind fun x40=>some (x40.2,x40.1.kind,x40.1.name,x40.1.kids)) (cond (p3.op==41) ((fO n s2.2.1).bind fun x41=>some (x41.2,x41.1.kind,x41.1.name,x41.1.kids)) (cond (p3.op==42) ((fO n s2.2.1).bind fun x42=>some (x42.2,x42.1.kind,x42.1.name,x42.1.kids)) (cond (p3.op==43) ((fO n s2.2.1).bind fun x43=>some (x43.2,x43.1.kind,x43.1.name,x43.1.kids)) (cond (p3.op==44) ((fO n s2.2.1).bind fun x44=>some (x44.2,x44.1.kind,x44.1.name,x44.1.kids)) (cond (p3.op==45) ((fO n s2.2.1).bind fun x45=>some (x45.2,x45.1.kind,x45.1.name,x45.1.kids)) (cond (p3.op==46) ((sW n s2.2.1).bind fun x46=>some (x46.2,x46.1.kind,x46.1.name,x46.1.kids)) (cond (p3.op==47) ((sO n s2.2.1).bind fun x47=>some (x47.2,x47.1.kind,x47.1.name,x47.1.kids)) (cond (p3.op==48) ((lS n s2.2.1).bind fun x48=>some (x48.2,x48.1.kind,x48.1.name,x48.1.kids)) (cond (p3.op==49) ((lS n s2.2.1).bind fun x49=>some (x49.2,x49.1.kind,x49.1.name,x49.1.kids)) (cond (p3.op==50) ((mg n s2.2.1).bind fun x50=>some (x50.2,x50.1.kind,x50.1.name,x50.1.kids)) (cond (p3.op==51) ((lV n s2.2.1).bind fun x51=>some (x51.2,x51.1.kind,x51.1.name,x51.1.kids)) (cond (p3.op==52) ((l8 n s2.2.1).bind fun x52=>some (x52.2,x52.1.kind,x52.1.name,x52.1.kids)) (cond (p3.op==53) ((lU n s2.2.1).bind fun x53=>some (x53.2,x53.1.kind,x53.1.name,x53.1.kids)) (cond (p3.op==54) ((mF n s2.2.1).bind fun x54=>some (x54.2,x54.1.kind,x54.1.name,x54.1.kids)) (cond (p3.op==55) ((Ad n s2.2.1).bind fun x55=>some (x55.2,x55.1.kind,x55.1.name,x55.1.kids)) (cond (p3.op==56) ((wT n s2.2.1).bind fun x56=>some (x56.2,x56.1.kind,x56.1.name,x56.1.kids)) none))))))))))))))))))))))))))))))))))))))))))))))))))))))))):Option (Bool×Int×Str×(List Ty))).bind fun s4=>(cond (!s4.1) (some ((Ty.mk 0 ([]:Str) ([])),7,s2.2.2)) ((oG n (Ty.mk s4.2.1 s4.2.2.1 s4.2.2.2)).bind fun x5=>some (x5.1,x5.2,s2.2.2))))))) fun r=>some r)
def rD(n:Nat)(qcm:F27t)(qcl:F28t)p0(p1:List (Str×Bool))p2(p3:Tm)p4(p5:List Decl):=(app 8 p2 [p4]).bind fun x1=>(idx p3.kids p4).bind fun x2=>((qcm p0 p1 x1 x2 p5).bind fun x3=>(((cond (x3.2.1==0) ((Dm (List.length x3.2.2) ((x3.2.2.length:Int) - 1)).bind fun x4=>(cond (Nat.ble x4 (List.length x3.2.2)) (some (List.take x4 x3.2.2)) none)) (some x3.2.2)):Option (List Int)).bind fun s1=>some (x3.1,x3.2.1,s1)))
mutual
def kP:Nat→List (Str×Ty)→List (Str×Bool)→List Int→Tm→List Decl→Option (Ty×Int×List Int)
 | 0,_,_,_,_,_=>none
 | n+1,p0,p1,p2,p3,p4=>vW n (fun p0 p1 p2 p3 p4=>kP n p0 p1 p2 p3 p4) (fun p0 p1 p2 p3 p4 p5=>iZ n p0 p1 p2 p3 p4 p5) p0 p1 p2 p3 p4
def iZ:Nat→List (Str×Ty)→List (Str×Bool)→List Int→Tm→Int→List Decl→Option (Ty×Int×List Int)
 | 0,_,_,_,_,_,_=>none
 | n+1,p0,p1,p2,p3,p4,p5=>rD n (fun p0 p1 p2 p3 p4=>kP n p0 p1 p2 p3 p4) (fun p0 p1 p2 p3 p4 p5=>iZ n p0 p1 p2 p3 p4 p5) p0 p1 p2 p3 p4 p5
end
def XV(n:Nat)(qcq:F36t)(p0:Ty)(rec:(Int×(List Ty))→Option (LR (List Ty) Ty))(s1:Int×(List Ty)):=cond (decide (s1.1<(p0.kids.length:Int))) ((idx p0.kids s1.1).bind fun x1=>(qcq x1).bind fun x2=>((app 48 s1.2 ([x2])).bind fun x3=>rec ((s1.1+1),x3))) (some (.nx s1.2))
def KX n qcq p0 k:=aG (XV n qcq p0) k
def yL n qcq p0:=(KX n qcq p0 n (0,([]))).bind (LR.el (fun s2=>some (Ty.mk p0.kind p0.name s2)) fun r=>some r)
def qc:Nat→Ty→Option Ty
 | 0,_=>none
 | n+1,p0=>yL n (fun p0=>qc n p0) p0
def zk n p0 p1:=((qb n p0).bind fun x5=>(cond (!x5) (some true) ((Cb n p1).bind fun x6=>some (!x6)))).bind fun s1=>cond s1 (some ((Ty.mk 0 ([]:Str) ([])),([]:List Int),1)) ((wJ n p0).bind fun x1=>((kP n x1.1 x1.2 ([]:List Int) p1 ([]:List Decl)).bind fun x2=>(cond (x2.2.1 !=0) ((slices_Clone_int n x2.2.2).bind fun x3=>some ((Ty.mk 0 ([]:Str) ([])),x3,x2.2.1)) ((qc n x2.1).bind fun x4=>some (x4,([]:List Int),0)))))
def Aq(n:Nat)(p0:S_api_World)(rec:(Int×(List (Str×Val)))→Option (LR (List (Str×Val)) ((List Carrier)×(List Decl)×(List Int)×(List (Str×Val))×(List Bound))))(s1:Int×(List (Str×Val))):Option (LR (List (Str×Val)) ((List Carrier)×(List Decl)×(List Int)×(List (Str×Val))×(List Bound))):=cond (decide (s1.1<(p0.env.names.length:Int))) ((idx p0.env.names s1.1).bind fun x1=>(idx p0.values s1.1).bind fun x2=>((xG s1.2 x1.name x2).bind fun x3=>rec ((s1.1+1),x3))) (some (.nx s1.2))
def ahS n p0 k:=aG (Aq n p0) k
def JW n p0:=(ahS n p0 n (0,([]))).bind (LR.el (fun s2=>some (p0.env.carriers,p0.env.names,p0.sizes,s2,([]:List Bound))) fun r=>some r)
def bB(n:Nat)p0:=cond p0 (some (Val.mk 2 1 ([]:Str) ([]))) (some (Val.mk 2 0 ([]:Str) ([])))
def iF(n:Nat)(p0:Int):Option (PZ Val Unit):=(cond (decide (1000000000<p0)) (some true) (some (decide (p0<(-1000000000))))).bind fun s1=>cond s1 (some (.er 11 ())) (some (.ok (Val.mk 1 p0 ([]:Str) ([]))))
def avQ(n:Nat)p0(p1):=some (Val.mk 4 0 ([]) [p0,p1])
def rO(n:Nat)p0(p1)(p2:Int)(p3:Str)(p4:Int)(p5:Int)(p6:Str)(p7:List Ty)(p8:List Tm)p9(p10)p11:=cond (p2==56) ((app 56 p9 [(Val.mk 0 0 ([]:Str) ([]))]).bind fun x1=>(idx x1 (p9.length:Int)).bind fun x2=>((idx x1 (p9.length:Int)).bind fun x3=>some ((upd x1 (p9.length:Int) (Val.mk 4 0 ([]:Str) ([p0,p1]))),p10,p11))) (cond (p1.n==1) ((app 56 p9 ([(Val.mk 0 0 ([]:Str) ([]))])).bind fun x4=>((idx x4 (p9.length:Int)).bind fun x5=>((idx x4 (p9.length:Int)).bind fun x6=>some ((upd x4 (p9.length:Int) p0),true,p11)))) (some (p9,p10,false)))
def yN(n:Nat)(p0:List Val):Option (PZ Val Unit):=(jw n p0).bind fun x1=>cond (decide (256<(x1.length:Int))) (some (.er 11 ())) (some (.ok (Val.mk 5 0 ([]:Str) x1)))
def xL(n:Nat)(p0:Int):=(cond (decide (41≤p0)) (some (decide (p0≤46))) (some false)).bind fun s1=>some s1
def dD(n)p0(p1)(rec:(Int×Int)→Option (LR Int (Int×Bool)))(s1:Int×Int):=cond (decide (s1.1<s1.2)) ((apl .u64 (IntKind.wrap .u64 (IntKind.wrap .i64 (s1.1+s1.2))) 1).bind fun x3=>(idx p0 (IntKind.wrap .i64 x3)).bind fun x4=>((dF n x4 p1).bind fun x5=>(cond (decide (x5<0)) (rec ((IntKind.wrap .i64 ((IntKind.wrap .i64 x3)+1)),s1.2)) (rec (s1.1,(IntKind.wrap .i64 x3)))))) (some (.nx s1.1))
def sN n p0 p1 k:=aG (dD n p0 p1) k
def nZ n p0 p1:=(sN n p0 p1 n (0,(p0.length))).bind (LR.el (fun s2=>(((cond (decide (s2<(p0.length:Int))) ((idx p0 s2).bind fun x1=>((dF n x1 p1).bind fun x2=>some (s2,(x2==0)))) (some (s2,false))):Option (Int×Bool)).bind fun s3=>some (s3.1,s3.2))) fun r=>some r)
def eU n p0 p1:=(nZ n p0 p1).bind fun x1=>some x1.2
def iI n p0 p1:=(eU n p1 p0).bind fun x1=>some x1
def uo n p0 p1:=(eU n p1 p0).bind fun x1=>some x1
def af9(n)p0(p1)(rec:F2t)(s1:(List Val)×Int):=cond (decide (s1.2<(p0.length:Int))) ((((idx p0 s1.2).bind fun x1=>((uo n x1 p1).bind fun x2=>(cond x2 ((app 56 s1.1 ([x1])).bind fun x3=>some x3) (some s1.1))))).bind fun s3=>rec (s3,(s1.2+1))) (some (.nx s1.1))
def ah7 n p0 p1 k:=aG (af9 n p0 p1) k
def acF n p0 p1:=(ah7 n p0 p1 n (([]),0)).bind (LR.el (fun s2=>some s2) fun r=>some r)
def iK(n)(p0:Val)p1:=(acF n p0.kids p1).bind fun x1=>some ((x1.length)==(p0.kids.length:Int))
def Aw(n:Nat)(p0:List Val)(rec:F2t)(s1:(List Val)×Int):=cond (decide (s1.2<(p0.length:Int))) ((idx p0 s1.2).bind fun x3=>(idx x3.kids 0).bind fun x4=>((app 56 s1.1 ([x4])).bind fun x5=>rec (x5,(s1.2+1)))) (some (.nx s1.1))
def ahP n p0 k:=aG (Aw n p0) k
def zS n p0:=(mkS 56 p0.length).bind fun x1=>(ahP n p0 n (([]:List Val),0)).bind (LR.el (fun s2=>((jw n s2).bind fun x2=>some x2)) (fun r=>some r))
def yK(n:Nat)(p0:List Val)(rec:F2t)(s1:(List Val)×Int):=cond (decide (s1.2<(p0.length:Int))) ((idx p0 s1.2).bind fun x3=>(idx x3.kids 1).bind fun x4=>((app 56 s1.1 ([x4])).bind fun x5=>rec (x5,(s1.2+1)))) (some (.nx s1.1))
def agD n p0 k:=aG (yK n p0) k
def o8 n p0:=(mkS 56 p0.length).bind fun x1=>(agD n p0 n (([]:List Val),0)).bind (LR.el (fun s2=>((jw n s2).bind fun x2=>some x2)) (fun r=>some r))
def wC(n)p1(p2)(p3:List Val)(rec:F3t)s1:=cond (decide (s1<(p3.length:Int))) ((idx p3 s1).bind fun x3=>(((idx x3.kids 0).bind fun x4=>((eU n p1 x4).bind fun x5=>(cond (!x5) (some true) ((idx x3.kids 1).bind fun x6=>((eU n p2 x6).bind fun x7=>some (!x7)))))):Option Bool).bind fun s6=>(cond s6 (some (.rt false)) (rec (s1+1)))) (some (.nx ()))
def ad5 n p1 p2 p3 k:=aG (wC n p1 p2 p3) k
def uF(n)(p0:Int)p1(p2)p3:=(ad5 n p1 p2 p3 n 0).bind (LR.el (fun s2=>((zS n p3).bind fun x1=>((o8 n p3).bind fun x2=>(cond (p0==41) (some true) (cond (p0==42) (some ((x1.length:Int)==(p3.length:Int))) (cond (p0==43) (((cond ((x1.length:Int)==(p3.length:Int)) (some ((x1.length:Int)==(p1.length:Int))) (some false)):Option Bool).bind fun s3=>some s3) (cond (p0==44) (((cond ((x1.length:Int)==(p3.length:Int)) (cond ((x1.length:Int)==(p1.length:Int)) (some ((x2.length:Int)==(p3.length:Int))) (some false)) (some false)):Option Bool).bind fun s4=>some s4) (((cond ((x1.length:Int)==(p3.length:Int)) (cond ((x1.length:Int)==(p1.length:Int)) (cond ((x2.length:Int)==(p3.length:Int)) (some ((x2.length:Int)==(p2.length:Int))) (some false)) (some false)) (some false)):Option Bool).bind fun s5=>some s5)))))))) fun r=>some r)
def jS(n)(p0:Val)p1(p2:Str)(p3:Int)(p4:Int)(p5:Str)(p6:List Ty)(p7:List Tm)p8(p9):=(uF n p1 p8 p9 p0.kids).bind fun x1=>some x1
def abA(n)p0(p1)(rec:F2t)(s1:(List Val)×Int):=cond (decide (s1.2<(p0.length:Int))) ((((idx p0 s1.2).bind fun x1=>((iI n x1 p1).bind fun x2=>(cond x2 ((app 56 s1.1 ([x1])).bind fun x3=>some x3) (some s1.1))))).bind fun s3=>rec (s3,(s1.2+1))) (some (.nx s1.1))
def ael n p0 p1 k:=aG (abA n p0 p1) k
def El n p0 p1:=(ael n p0 p1 n (([]),0)).bind (LR.el (fun s2=>some s2) fun r=>some r)
def abr(n)p0(p1)(rec:F2t)(s1:(List Val)×Int):=cond (decide (s1.2<(p0.length:Int))) ((((idx p0 s1.2).bind fun x1=>((iK n x1 p1).bind fun x2=>(cond x2 ((app 56 s1.1 ([x1])).bind fun x3=>some x3) (some s1.1))))).bind fun s3=>rec (s3,(s1.2+1))) (some (.nx s1.1))
def adP n p0 p1 k:=aG (abr n p0 p1) k
def D5 n p0 p1:=(adP n p0 p1 n (([]),0)).bind (LR.el (fun s2=>some s2) fun r=>some r)
def abN(n)p0(p1)p2(p3)p4(p5)p6(p7)p8(p9)(rec:F2t)(s1:(List Val)×Int):=cond (decide (s1.2<(p0.length:Int))) ((((idx p0 s1.2).bind fun x1=>((jS n x1 p1 p2 p3 p4 p5 p6 p7 p8 p9).bind fun x2=>(cond x2 ((app 56 s1.1 ([x1])).bind fun x3=>some x3) (some s1.1))))).bind fun s3=>rec (s3,(s1.2+1))) (some (.nx s1.1))
def ad4 n p0 p1 p2 p3 p4 p5 p6 p7 p8 p9 k:=aG (abN n p0 p1 p2 p3 p4 p5 p6 p7 p8 p9) k
def D8 n p0 p1 p2 p3 p4 p5 p6 p7 p8 p9:=(ad4 n p0 p1 p2 p3 p4 p5 p6 p7 p8 p9 n (([]),0)).bind (LR.el (fun s2=>some s2) fun r=>some r)
def FX(n:Nat)(p0:Val)p1(p2:Int)p3(p4:List Val):=(idx p0.kids 0).bind fun x1=>(dF n x1 (Val.mk p1 p2 p3 p4)).bind fun x2=>some (x2==0)
def abt(n)p0(p1)p2(p3)p4(rec:F2t)(s1:(List Val)×Int):=cond (decide (s1.2<(p0.length:Int))) ((((idx p0 s1.2).bind fun x1=>((FX n x1 p1 p2 p3 p4).bind fun x2=>(cond x2 ((app 56 s1.1 ([x1])).bind fun x3=>some x3) (some s1.1))))).bind fun s3=>rec (s3,(s1.2+1))) (some (.nx s1.1))
def adf n p0 p1 p2 p3 p4 k:=aG (abt n p0 p1 p2 p3 p4) k
def Wv n p0 p1 p2 p3 p4:=(adf n p0 p1 p2 p3 p4 n (([]),0)).bind (LR.el (fun s2=>some s2) fun r=>some r)
def F4(n:Nat)(p0:Int)(p1:Int)(p2:Int):Option (PZ Val Unit):=(cond (p0==21) ((iF n (IntKind.wrap .i64 (0 - p1))).bind (PZ.el (fun x1=>some (.ok x1)) (fun(e1:Int) _=>some (.er e1 ())))) (cond (p0==22) ((iF n (IntKind.wrap .i64 (p1+p2))).bind (PZ.el (fun x2=>some (.ok x2)) (fun(e2:Int) _=>some (.er e2 ())))) (cond (p0==23) ((iF n (IntKind.wrap .i64 (p1 - p2))).bind (PZ.el (fun x3=>some (.ok x3)) (fun(e3:Int) _=>some (.er e3 ())))) (cond (p0==24) ((iF n (IntKind.wrap .i64 (p1*p2))).bind (PZ.el (fun x4=>some (.ok x4)) (fun(e4:Int) _=>some (.er e4 ())))) (cond (p0==25) (cond (p2==0) (some (.er 10 ())) ((amO p1 p2).bind fun x5=>((iF n x5).bind (PZ.el (fun x6=>some (.ok x6)) (fun(e5:Int) _=>some (.er e5 ())))))) (((cond (decide (p1<0)) (some true) (some (decide (p2<1)))):Option Bool).bind fun s1=>(cond s1 (some (.er 10 ())) ((adK p1 p2).bind fun x7=>((iF n x7).bind (PZ.el (fun x8=>some (.ok x8)) (fun(e6:Int) _=>some (.er e6 ()))))))))))))
def kN(n:Nat)(p0:List (List Val))(rec:(Int×Int)→Option (LR Int (List Val)))(s1:Int×Int):=cond (decide (s1.2<(p0.length:Int))) ((idx p0 s1.2).bind fun x4=>cond (decide ((IntKind.wrap .i64 (s1.1+(x4.length:Int)))<0)) none (rec ((IntKind.wrap .i64 (s1.1+(x4.length:Int))),(s1.2+1)))) (some (.nx s1.1))
def vM n p0 k:=aG (kN n p0) k
def kI(n:Nat)p0(rec:F2t)(s3:(List Val)×Int):=cond (decide (s3.2<(p0.length:Int))) ((idx p0 s3.2).bind fun x2=>(app 56 s3.1 x2).bind fun x3=>rec (x3,(s3.2+1))) (some (.nx s3.1))
def vF n p0 k:=aG (kI n p0) k
def oh n p0:=(vM n p0 n (0,0)).bind (LR.el (fun s2=>((Dn n s2).bind fun x1=>((vF n p0 n (x1,0)).bind (LR.el (fun s4=>some s4) (fun r=>some r))))) fun r=>some r)
def vN n p0 p1:=(eU n p1 p0).bind fun x1=>some x1
def abH(n)p0(p1)(rec:F2t)(s1:(List Val)×Int):=cond (decide (s1.2<(p0.length:Int))) ((((idx p0 s1.2).bind fun x1=>((vN n x1 p1).bind fun x2=>(cond x2 ((app 56 s1.1 ([x1])).bind fun x3=>some x3) (some s1.1))))).bind fun s3=>rec (s3,(s1.2+1))) (some (.nx s1.1))
def aeu n p0 p1 k:=aG (abH n p0 p1) k
def WA n p0 p1:=(aeu n p0 p1 n (([]),0)).bind (LR.el (fun s2=>some s2) fun r=>some r)
def RP n p0 p1:=(vN n p0 p1).bind fun x1=>some !x1
def abE(n)p0(p1)(rec:F2t)(s1:(List Val)×Int):=cond (decide (s1.2<(p0.length:Int))) ((((idx p0 s1.2).bind fun x1=>((RP n x1 p1).bind fun x2=>(cond x2 ((app 56 s1.1 ([x1])).bind fun x3=>some x3) (some s1.1))))).bind fun s3=>rec (s3,(s1.2+1))) (some (.nx s1.1))
def aeg n p0 p1 k:=aG (abE n p0 p1) k
def Xw n p0 p1:=(aeg n p0 p1 n (([]),0)).bind (LR.el (fun s2=>some s2) fun r=>some r)
def JF(n:Nat)(p0:Val)p1:=(idx p0.kids 0).bind fun x1=>(eU n p1 x1).bind fun x2=>some (!x2)
def abD(n)p0(p1)(rec:F2t)(s1:(List Val)×Int):=cond (decide (s1.2<(p0.length:Int))) ((((idx p0 s1.2).bind fun x1=>((JF n x1 p1).bind fun x2=>(cond x2 ((app 56 s1.1 ([x1])).bind fun x3=>some x3) (some s1.1))))).bind fun s3=>rec (s3,(s1.2+1))) (some (.nx s1.1))
def adF n p0 p1 k:=aG (abD n p0 p1) k
def WI n p0 p1:=(adF n p0 p1 n (([]),0)).bind (LR.el (fun s2=>some s2) fun r=>some r)
def R8 n p0 p1:=(eU n p1 p0).bind fun x1=>some x1
def JD(n:Nat)(p0:Val)p1:=(idx p0.kids 0).bind fun x1=>(R8 n x1 p1).bind fun x2=>some x2
def abF(n)p0(p1)(rec:F2t)(s1:(List Val)×Int):=cond (decide (s1.2<(p0.length:Int))) ((((idx p0 s1.2).bind fun x1=>((JD n x1 p1).bind fun x2=>(cond x2 ((app 56 s1.1 ([x1])).bind fun x3=>some x3) (some s1.1))))).bind fun s3=>rec (s3,(s1.2+1))) (some (.nx s1.1))
def adx n p0 p1 k:=aG (abF n p0 p1) k
def WH n p0 p1:=(adx n p0 p1 n (([]),0)).bind (LR.el (fun s2=>some s2) fun r=>some r)
def JI(n:Nat)(p0:Val)p1:=(idx p0.kids 0).bind fun x1=>(R8 n x1 p1).bind fun x2=>some (!x2)
def abJ(n)p0(p1)(rec:F2t)(s1:(List Val)×Int):=cond (decide (s1.2<(p0.length:Int))) ((((idx p0 s1.2).bind fun x1=>((JI n x1 p1).bind fun x2=>(cond x2 ((app 56 s1.1 ([x1])).bind fun x3=>some x3) (some s1.1))))).bind fun s3=>rec (s3,(s1.2+1))) (some (.nx s1.1))
def aem n p0 p1 k:=aG (abJ n p0 p1) k
def Wq n p0 p1:=(aem n p0 p1 n (([]),0)).bind (LR.el (fun s2=>some s2) fun r=>some r)
def JE(n:Nat)(p0:Val)p1:=(idx p0.kids 1).bind fun x1=>(vN n x1 p1).bind fun x2=>some x2
def ZH(n)p0(p1)(rec:F2t)(s1:(List Val)×Int):=cond (decide (s1.2<(p0.length:Int))) ((((idx p0 s1.2).bind fun x1=>((JE n x1 p1).bind fun x2=>(cond x2 ((app 56 s1.1 ([x1])).bind fun x3=>some x3) (some s1.1))))).bind fun s3=>rec (s3,(s1.2+1))) (some (.nx s1.1))
def abp n p0 p1 k:=aG (ZH n p0 p1) k
def SQ n p0 p1:=(abp n p0 p1 n (([]),0)).bind (LR.el (fun s2=>some s2) fun r=>some r)
def JY(n:Nat)(p0:Val)p1:=(idx p0.kids 1).bind fun x1=>(vN n x1 p1).bind fun x2=>some (!x2)
def ZT(n)p0(p1)(rec:F2t)(s1:(List Val)×Int):=cond (decide (s1.2<(p0.length:Int))) ((((idx p0 s1.2).bind fun x1=>((JY n x1 p1).bind fun x2=>(cond x2 ((app 56 s1.1 ([x1])).bind fun x3=>some x3) (some s1.1))))).bind fun s3=>rec (s3,(s1.2+1))) (some (.nx s1.1))
def abq n p0 p1 k:=aG (ZT n p0 p1) k
def Ul n p0 p1:=(abq n p0 p1 n (([]),0)).bind (LR.el (fun s2=>some s2) fun r=>some r)
def yC(n)x1(x2)(rec:F40t)(s3:(List (List Val))×Int):=cond (decide (s3.2<(x2.length:Int))) ((idx x2 s3.2).bind fun x3=>(jf n x3).bind fun x4=>((app 56 x4 ([x1])).bind fun x5=>((app 24 s3.1 ([x5])).bind fun x6=>rec (x6,(s3.2+1))))) (some (.nx s3.1))
def Rb n x1 x2 k:=aG (yC n x1 x2) k
def yG(n)p0(rec:F40t)(s1:(List (List Val))×Int):=cond (decide (s1.2<(p0.length:Int))) ((idx p0 s1.2).bind fun x1=>(wN n s1.1).bind fun x2=>((Rb n x1 x2 n (s1.1,0)).bind (LR.el (fun s4=>rec (s4,(s1.2+1))) (fun r=>some (.rt r))))) (some (.nx s1.1))
def ae4 n p0 k:=aG (yG n p0) k
def He n p0:=(ae4 n p0 n ([[]],0)).bind (LR.el (fun s2=>some s2) fun r=>some r)
def J9(n:Nat)(p0:Val)p1:=(idx p0.kids 0).bind fun x1=>(vN n x1 p1).bind fun x2=>some x2
def Y2(n)p0(p1)(rec:F2t)(s1:(List Val)×Int):=cond (decide (s1.2<(p0.length:Int))) ((((idx p0 s1.2).bind fun x1=>((J9 n x1 p1).bind fun x2=>(cond x2 ((app 56 s1.1 ([x1])).bind fun x3=>some x3) (some s1.1))))).bind fun s3=>rec (s3,(s1.2+1))) (some (.nx s1.1))
def abn n p0 p1 k:=aG (Y2 n p0 p1) k
def Ux n p0 p1:=(abn n p0 p1 n (([]),0)).bind (LR.el (fun s2=>some s2) fun r=>some r)
def Ke(n:Nat)(p0:Int)p1(p2:Int):=(cond (p0==45) (cond (p1 !=p2) (some true) (cond (decide (44≤p0)) (some (decide (p2<p1))) (some false))) (cond (decide (44≤p0)) (some (decide (p2<p1))) (some false))).bind fun s1=>some s1
def tF(n:Nat)(p0:Int)p1(p2:Int)(rec:(Int×Int)→Option (LR Unit Bool))(s1:Int×Int):=(cond (decide (s1.2<p1)) (((cond (p0==41) (cond (decide (8<p2)) (some (.rt true)) ((YK 1 p2).bind fun x2=>some (.nx x2))) (cond (p0==42) (some (.nx (IntKind.wrap .i64 (p2+1)))) (((cond (p0==44) (some (p0==44)) (some (p0==45))):Option Bool).bind fun s5=>(cond s5 (some (.nx (IntKind.wrap .i64 (p2 - s1.2)))) (some (.nx p2)))))):Option (LR Int Bool)).bind (LR.el (fun s3=>(cond (s3==0) (some (.rt false)) (((cond (decide (256<(IntKind.wrap .i64 (s1.1*s3)))) (cond (p0 !=43) (some true) (some (decide (0<p2)))) (some false)):Option Bool).bind fun s4=>(cond s4 (some (.rt true)) (rec ((IntKind.wrap .i64 (s1.1*s3)),(s1.2+1))))))) (fun r=>some (.rt r)))) (some (.nx ())))
def Gi n p0 p1 p2 k:=aG (tF n p0 p1 p2) k
def Bh n p0 p1 p2:=(Ke n p0 p1 p2).bind fun x1=>cond x1 (some false) ((Gi n p0 p1 p2 n (1,0)).bind (LR.el (fun s2=>some false) (fun r=>some r)))
def nD(n)(qb8:F8t)p0(p1)p2(p3)p4(rec:F41t)(s7:Int×(List Val)):=cond (decide (s7.1<(p4.length:Int))) ((((idx p4 s7.1).bind fun x13=>(((cond (decide (44≤p3)) ((o8 n p1).bind fun x18=>((eU n x18 x13).bind fun x19=>some x19)) (some false)):Option Bool).bind fun s10=>(cond s10 (some s7.2) ((jf n p1).bind fun x14=>((idx p2 p0).bind fun x15=>((app 56 x14 ([(Val.mk 4 0 ([]:Str) ([x15,x13]))])).bind fun x16=>((qb8 (IntKind.wrap .i64 (p0+1)) x16 p2 p3 p4 s7.2).bind fun x17=>some x17)))))))).bind fun s9=>rec ((s7.1+1),s9)) (some (.nx s7.2))
def XD n qb8 p0 p1 p2 p3 p4 k:=aG (nD n qb8 p0 p1 p2 p3 p4) k
def rG(n:Nat)(qb8:F8t)p0(p2)x7(rec:F2t)(s4:(List Val)×Int):=cond (decide (s4.2<(x7.length:Int))) ((idx x7 s4.2).bind fun x10=>(idx p2 p0).bind fun x11=>((app 56 s4.1 ([(Val.mk 4 0 ([]:Str) ([x11,x10]))])).bind fun x12=>rec (x12,(s4.2+1)))) (some (.nx s4.1))
def HV n qb8 p0 p2 x7 k:=aG (rG n qb8 p0 p2 x7) k
def rF(n:Nat)qb8(p0:Int)p1(p2:List Val)p3(p4:List Val)x6(rec:F41t)(s2:Int×(List Val)):=cond (decide (s2.1<(x6.length:Int))) ((idx x6 s2.1).bind fun x7=>((jf n p1).bind fun x8=>((HV n qb8 p0 p2 x7 n (x8,0)).bind (LR.el (fun s5=>((qb8 (IntKind.wrap .i64 (p0+1)) s5 p2 p3 p4 s2.2).bind fun x9=>rec ((s2.1+1),x9))) (fun r=>some (.rt r)))))) (some (.nx s2.2))
def XC n qb8 p0 p1 p2 p3 p4 x6 k:=aG (rF n qb8 p0 p1 p2 p3 p4 x6) k
def mq n qb8 p0 p1 p2 p3 p4 p5:=cond (p0==(p2.length)) ((((uF n p3 p2 p4 p1).bind fun x1=>(cond x1 ((jw n p1).bind fun x2=>((app 56 p5 ([(Val.mk 0 0 ([]:Str) ([]))])).bind fun x3=>((idx x3 (p5.length:Int)).bind fun x4=>((idx x3 (p5.length:Int)).bind fun x5=>some (upd x3 (p5.length:Int) (Val.mk 5 0 ([]:Str) x2)))))) (some p5)))).bind fun s1=>some s1) (cond (p3==41) ((He n p4).bind fun x6=>((XC n qb8 p0 p1 p2 p3 p4 x6 n (0,p5)).bind (LR.el (fun s3=>some s3) (fun r=>some r)))) (((cond (p3==42) ((qb8 (IntKind.wrap .i64 (p0+1)) p1 p2 p3 p4 p5).bind fun x20=>some x20) (some p5)):Option (List Val)).bind fun s6=>((XD n qb8 p0 p1 p2 p3 p4 n (0,s6)).bind (LR.el (fun s8=>some s8) (fun r=>some r)))))
def fT:Nat→Int→List Val→List Val→Int→List Val→List Val→Option (List Val)
 | 0,_,_,_,_,_,_=>none
 | n+1,p0,p1,p2,p3,p4,p5=>mq n (fun p0 p1 p2 p3 p4 p5=>fT n p0 p1 p2 p3 p4 p5) p0 p1 p2 p3 p4 p5
def BL(n:Nat)(p0:Int)(p1:List Val)(p2:List Val):Option (PZ (List Val) Unit):=(Bh n p0 p1.length p2.length).bind fun x1=>cond x1 (some (.er 11 ())) ((Ke n p0 (p1.length:Int) (p2.length:Int)).bind fun x2=>(cond x2 (some (.ok ([]:List Val))) ((some ():Option Unit).bind fun s1=>((fT n 0 ([]:List Val) p1 p0 p2 ([]:List Val)).bind fun x3=>some (.ok x3)))))
def Em(n:Nat)(p1:Val)(rec:F9t)(s15:(List Val)×Int):=cond (decide (s15.2<(p1.kids.length:Int))) ((idx p1.kids s15.2).bind fun x30=>((idx x30.kids 1).bind fun x31=>((idx x30.kids 0).bind fun x32=>((app 56 s15.1 ([(Val.mk 4 0 ([]:Str) ([x31,x32]))])).bind fun x33=>rec (x33,(s15.2+1)))))) (some (.nx s15.1))
def Y1 n p1 k:=aG (Em n p1) k
def Eh(n:Nat)x25(rec:F9t)(s13:(List Val)×Int):=cond (decide (s13.2<(x25.length:Int))) ((idx x25 s13.2).bind fun x26=>(app 56 s13.1 ([(Val.mk 5 0 ([]:Str) x26)])).bind fun x27=>rec (x27,(s13.2+1))) (some (.nx s13.1))
def YQ n x25 k:=aG (Eh n x25) k
def Eo(n:Nat)(p2:Val)(x13:Val)(rec:F9t)(s10:(List Val)×Int):=cond (decide (s10.2<(p2.kids.length:Int))) ((((idx p2.kids s10.2).bind fun x14=>((idx x13.kids 1).bind fun x15=>((idx x14.kids 0).bind fun x16=>((dF n x15 x16).bind fun x17=>(cond (x17==0) ((idx x13.kids 0).bind fun x18=>((idx x14.kids 1).bind fun x19=>((app 56 s10.1 ([(Val.mk 4 0 ([]:Str) ([x18,x19]))])).bind fun x20=>some x20))) (some s10.1)))))):Option (List Val)).bind fun s12=>rec (s12,(s10.2+1))) (some (.nx s10.1))
def Yv n p2 x13 k:=aG (Eo n p2 x13) k
def Ee(n)(p1:Val)p2(rec:F9t)(s8:(List Val)×Int):=cond (decide (s8.2<(p1.kids.length:Int))) ((idx p1.kids s8.2).bind fun x13=>(Yv n p2 x13 n (s8.1,0)).bind (LR.el (fun s11=>rec (s11,(s8.2+1))) (fun r=>some (.rt r)))) (some (.nx s8.1))
def YE n p1 p2 k:=aG (Ee n p1 p2) k
def Ep(n:Nat)(p2:Val)x7(rec:F9t)(s6:(List Val)×Int):=cond (decide (s6.2<(p2.kids.length:Int))) ((idx p2.kids s6.2).bind fun x8=>(app 56 s6.1 ([(Val.mk 4 0 ([]:Str) ([x7,x8]))])).bind fun x9=>rec (x9,(s6.2+1))) (some (.nx s6.1))
def Z7 n p2 x7 k:=aG (Ep n p2 x7) k
def D7(n)(p1:Val)p2(rec:F9t)(s4:(List Val)×Int):=cond (decide (s4.2<(p1.kids.length:Int))) ((idx p1.kids s4.2).bind fun x7=>((Z7 n p2 x7 n (s4.1,0)).bind (LR.el (fun s7=>rec (s7,(s4.2+1))) (fun r=>some (.rt r))))) (some (.nx s4.1))
def aam n p1 p2 k:=aG (D7 n p1 p2) k
def lM(n)(p2:Val)(rec:F9t)(s2:(List Val)×Int):=cond (decide (s2.2≤p2.n)) ((iF n s2.2).bind (PZ.el (fun x2=>((app 56 s2.1 ([x2])).bind fun x3=>rec (x3,(IntKind.wrap .i64 (s2.2+1))))) (fun(e2:Int) _=>some (.rt (.er e2 ()))))) (some (.nx s2.1))
def Pn n p2 k:=aG (lM n p2) k
def PV n p0 p1 p2:=(cond (p0==30) (cond (decide (256≤(IntKind.wrap .i64 (p2.n - p1.n)))) (some (.rt (.er 11 ()))) ((Pn n p2 n (([]:List Val),p1.n)).bind (LR.el (fun s3=>some (.nx s3)) (fun r=>some (.rt r))))) (cond (p0==31) ((oh n ([p1.kids,p2.kids])).bind fun x4=>some (.nx x4)) (cond (p0==32) ((WA n p1.kids p2.kids).bind fun x5=>some (.nx x5)) (cond (p0==33) ((Xw n p1.kids p2.kids).bind fun x6=>some (.nx x6)) (cond (p0==34) (cond (decide (256<(IntKind.wrap .i64 ((p1.kids.length:Int)*(p2.kids.length:Int))))) (some (.rt (.er 11 ()))) ((aam n p1 p2 n (([]:List Val),0)).bind (LR.el (fun s5=>some (.nx s5)) (fun r=>some (.rt r))))) (cond (p0==35) ((zS n p2.kids).bind fun x10=>((WI n p1.kids x10).bind fun x11=>((oh n ([x11,p2.kids])).bind fun x12=>some (.nx x12)))) (cond (p0==36) ((YE n p1 p2 n (([]:List Val),0)).bind (LR.el (fun s9=>some (.nx s9)) (fun r=>some (.rt r)))) (cond (p0==37) ((WH n p2.kids p1.kids).bind fun x21=>some (.nx x21)) (cond (p0==38) ((Wq n p2.kids p1.kids).bind fun x22=>some (.nx x22)) (cond (p0==39) ((SQ n p1.kids p2.kids).bind fun x23=>some (.nx x23)) (cond (p0==40) ((Ul n p1.kids p2.kids).bind fun x24=>some (.nx x24)) (cond (p0==46) (cond (decide (8<(p1.kids.length:Int))) (some (.rt (.er 11 ()))) ((He n p1.kids).bind fun x25=>((YQ n x25 n (([]:List Val),0)).bind (LR.el (fun s14=>some (.nx s14)) (fun r=>some (.rt r)))))) (cond (p0==50) ((zS n p1.kids).bind fun x28=>some (.nx x28)) (cond (p0==51) ((o8 n p1.kids).bind fun x29=>some (.nx x29)) (cond (p0==52) ((Y1 n p1 n (([]:List Val),0)).bind (LR.el (fun s16=>some (.nx s16)) (fun r=>some (.rt r)))) (cond (p0==53) ((Ux n p1.kids p2.kids).bind fun x34=>((o8 n x34).bind fun x35=>some (.nx x35))) ((BL n p0 p1.kids p2.kids).bind (PZ.el (fun x36=>some (.nx x36)) (fun(e3:Int) _=>some (.rt (.er e3 ()))))))))))))))))))))).bind (LR.el (fun s1=>((yN n s1).bind (PZ.el (fun x1=>some (.ok x1)) (fun(e1:Int) _=>some (.er e1 ()))))) (fun r=>some r))
def nK(n:Nat)(p0:Int)(p1:Val)(p2:Val):Option (PZ Val Unit):=(cond (p0==3) ((bB n (p1.n==0)).bind fun x1=>some (.ok x1)) (cond (p0==7) ((bB n (p1.n==p2.n)).bind fun x2=>some (.ok x2)) (cond (p0==10) ((dF n p1 p2).bind fun x3=>((bB n (x3==0)).bind fun x4=>some (.ok x4))) (cond (p0==11) ((dF n p1 p2).bind fun x5=>((bB n (x5 !=0)).bind fun x6=>some (.ok x6))) (cond (p0==12) ((bB n (decide (p1.n<p2.n))).bind fun x7=>some (.ok x7)) (cond (p0==13) ((bB n (decide (p1.n≤p2.n))).bind fun x8=>some (.ok x8)) (cond (p0==14) ((bB n (decide (p2.n<p1.n))).bind fun x9=>some (.ok x9)) (cond (p0==15) ((bB n (decide (p2.n≤p1.n))).bind fun x10=>some (.ok x10)) (cond (p0==27) (some (.ok (Val.mk 4 0 ([]:Str) ([p1,p2])))) (cond (p0==54) ((Wv n p1.kids p2.kind p2.n p2.name p2.kids).bind fun x11=>(cond ((x11.length:Int)!=1) (some (.er 10 ())) ((idx x11 0).bind fun x12=>((idx x12.kids 1).bind fun x13=>some (.ok x13))))) (cond (decide (p0≤26)) ((F4 n p0 p1.n p2.n).bind (PZ.el (fun x14=>some (.ok x14)) (fun(e1:Int) _=>some (.er e1 ())))) (cond (p0==47) ((iF n (p1.kids.length:Int)).bind (PZ.el (fun x15=>some (.ok x15)) (fun(e2:Int) _=>some (.er e2 ())))) (((cond (p0==48) (some (p0==48)) (some (p0==49))):Option Bool).bind fun s1=>(cond s1 (cond ((p1.kids.length:Int)==0) (some (.er 10 ())) (cond (p0==48) ((idx p1.kids 0).bind fun x16=>some (.ok x16)) ((idx p1.kids ((p1.kids.length:Int) - 1)).bind fun x17=>some (.ok x17)))) ((PV n p0 p1 p2).bind (PZ.el (fun x18=>some (.ok x18)) (fun(e3:Int) _=>some (.er e3 ()))))))))))))))))))
def pO(n:Nat)(qb4:F4t)(qb3:F1t)(qb2:F1t)(qb5:F5t)(qb1:F0t)(qb6:F0t)(qb7:F0t)(p0:List Carrier)(p1:List Decl)(p2:List Int)(p3:List (Str×Val))(p4:List Bound)(p5:Tm):Option (PZ (Int×Str×Int×Int×Str×(List Ty)×(List Tm)×(List Val)×(List Val)×(List Bound)) (List Bound)):=(xL n p5.op).bind fun x1=>(cond (!x1) ((qb6 p0 p1 p2 p3 p4 p5).bind (PZ.el (fun x2=>none) (fun(e1:Int) z1=>some (.er e1 z1)))) ((idx p5.kids 0).bind fun x3=>((qb6 p0 p1 p2 p3 p4 x3).bind (PZ.el (fun x4=>(cond (p5.op==46) none ((idx p5.kids 1).bind fun x5=>((qb6 p0 p1 p2 p3 x4.2 x5).bind (PZ.el (fun x6=>some (.ok (p5.op,p5.name,p5.n,p5.ty.kind,p5.ty.name,p5.ty.kids,p5.kids,x4.1.kids,x6.1.kids,x6.2))) (fun(e2:Int) z2=>some (.er e2 z2))))))) (fun(e3:Int) z3=>some (.er e3 z3))))))
def o9(n:Nat)(qb4:F4t)(qb3:F1t)(qb2:F1t)(qb5:F5t)(qb1:F0t)(qb6:F0t)(qb7:F0t)(p0:List Carrier)(p1:List Decl)(p2:List Int)(p3:List (Str×Val))(p4:List Bound)(p5:Tm):Option (PZ ((List Val)×(List Bound)) (List Bound)):=(xL n p5.op).bind fun x1=>(cond (!x1) ((qb6 p0 p1 p2 p3 p4 p5).bind (PZ.el (fun x2=>none) (fun(e1:Int) z1=>some (.er e1 z1)))) ((idx p5.kids 0).bind fun x3=>((qb6 p0 p1 p2 p3 p4 x3).bind (PZ.el (fun x4=>(cond (p5.op==46) (some (.ok (x4.1.kids,x4.2))) ((idx p5.kids 1).bind fun x5=>((qb6 p0 p1 p2 p3 x4.2 x5).bind (PZ.el (fun x6=>none) (fun(e2:Int) z2=>some (.er e2 z2))))))) (fun(e3:Int) z3=>some (.er e3 z3))))))
def pq(n:Nat)(qb4:F4t)(qb3:F1t)(qb2:F1t)(qb5:F5t)(qb1:F0t)(qb6:F0t)(qb7:F0t)(p0:List Carrier)(p1:List Decl)(p2:List Int)(p3:List (Str×Val))(p4:List Bound)(p5:Tm):Option (PZ ((List Val)×(List Bound)) (List Bound)):=(xL n p5.op).bind fun x1=>(cond (!x1) ((qb6 p0 p1 p2 p3 p4 p5).bind (PZ.el (fun x2=>some (.ok (x2.1.kids,x2.2))) (fun(e1:Int) z1=>some (.er e1 z1)))) ((idx p5.kids 0).bind fun x3=>((qb6 p0 p1 p2 p3 p4 x3).bind (PZ.el (fun x4=>(cond (p5.op==46) none ((idx p5.kids 1).bind fun x5=>((qb6 p0 p1 p2 p3 x4.2 x5).bind (PZ.el (fun x6=>none) (fun(e2:Int) z2=>some (.er e2 z2))))))) (fun(e3:Int) z3=>some (.er e3 z3))))))
def nG(n:Nat)(qb4:F4t)(qb3:F1t)(qb2:F1t)(qb5:F5t)(qb1:F0t)(qb6:F0t)(qb7:F0t)(p0:List Carrier)(p1:List Decl)(p2:List Int)(p3:List (Str×Val))(p5:Tm)(p6:Int)(p7:Str)(p8:Int)(p9:Int)(p10:Str)(p11:List Ty)(p12:List Tm)(x2:Val×(List Bound))(rec:(Int×Bool×Bool×(List Bound)×(List Val))→Option (LR (Bool×Bool×(List Bound)×(List Val)) (PZ ((List Bound)×(List Val)×Bool×Bool) ((List Bound)×(List Val)))))(s1:Int×Bool×Bool×(List Bound)×(List Val)):Option (LR (Bool×Bool×(List Bound)×(List Val)) (PZ ((List Bound)×(List Val)×Bool×Bool) ((List Bound)×(List Val)))):=cond (decide (s1.1<(x2.1.kids.length:Int))) ((idx x2.1.kids s1.1).bind fun x5=>((idx s1.2.2.2.1 ((s1.2.2.2.1.length:Int) - 1)).bind fun x6=>((idx s1.2.2.2.1 ((s1.2.2.2.1.length:Int) - 1)).bind fun x7=>((idx p5.kids 1).bind fun x8=>((qb6 p0 p1 p2 p3 (upd s1.2.2.2.1 ((s1.2.2.2.1.length:Int) - 1) (Bound.mk x7.name x5)) x8).bind (PZ.el (fun x9=>((rO n x5 x9.1 p6 p7 p8 p9 p10 p11 p12 s1.2.2.2.2 s1.2.1 s1.2.2.1).bind fun x10=>rec ((s1.1+1),x10.2.1,x10.2.2,x9.2,x10.1))) (fun(e1:Int) z1=>some (.rt (.er e1 (z1,s1.2.2.2.2)))))))))) (some (.nx (s1.2.1,s1.2.2.1,s1.2.2.2.1,s1.2.2.2.2)))
def zZ n qb4 qb3 qb2 qb5 qb1 qb6 qb7 p0 p1 p2 p3 p5 p6 p7 p8 p9 p10 p11 p12 x2 k:=aG (nG n qb4 qb3 qb2 qb5 qb1 qb6 qb7 p0 p1 p2 p3 p5 p6 p7 p8 p9 p10 p11 p12 x2) k
def wW(n:Nat)qb4(qb3:F1t)qb2(qb5:F5t)qb1(qb6:F0t)qb7(p0:List Carrier)p1(p2:List Int)p3(p4:List Bound)p5(p6:Int)p7(p8:Int)p9(p10:Str)p11(p12:List Tm)p13(p14:Bool)p15:=(idx p5.kids 0).bind fun x1=>(qb6 p0 p1 p2 p3 p4 x1).bind (PZ.el (fun x2=>((app 72 x2.2 ([(Bound.mk p5.name (Val.mk 0 0 ([]:Str) ([])))])).bind fun x3=>((zZ n qb4 qb3 qb2 qb5 qb1 qb6 qb7 p0 p1 p2 p3 p5 p6 p7 p8 p9 p10 p11 p12 x2 n (0,p14,p15,x3,p13)).bind (LR.el (fun s2=>((Dm (List.length s2.2.2.1) ((s2.2.2.1.length:Int) - 1)).bind fun x4=>(cond (Nat.ble x4 (List.length s2.2.2.1)) (some (.ok ((List.take x4 s2.2.2.1),s2.2.2.2,s2.1,s2.2.1))) none))) (fun r=>some r))))) (fun(e2:Int) z2=>some (.er e2 (z2,p13))))
def uh(n:Nat)(qb4:F4t)(qb3:F1t)(qb2:F1t)(qb5:F5t)(qb1:F0t)(qb6:F0t)(qb7:F0t)(p0:List Carrier)(p1:List Decl)(p2:List Int)(p3:List (Str×Val))(p4:List Bound)(p5:Tm):Option (PZ (Val×(List Bound)) (List Bound)):=(some ():Option Unit).bind fun s1=>((qb5 p0 p1 p2 p3 p4 p5 p5.op p5.name p5.n p5.ty.kind p5.ty.name p5.ty.kids p5.kids ([]:List Val) false true).bind (PZ.el (fun x1=>(cond (p5.op==8) ((bB n x1.2.2.2).bind fun x2=>some (.ok (x2,x1.1))) (cond (p5.op==9) ((bB n x1.2.2.1).bind fun x3=>some (.ok (x3,x1.1))) ((yN n x1.2.1).bind (PZ.el (fun x4=>some (.ok (x4,x1.1))) (fun(e1:Int) _=>some (.er e1 x1.1))))))) (fun(e2:Int) z2=>some (.er e2 z2.1))))
def eY(n:Nat)(qb4:F4t)(qb3:F1t)(qb2:F1t)(qb5:F5t)(qb1:F0t)(qb6:F0t)(qb7:F0t)(p0:List Carrier)(p1:List Decl)(p2:List Int)(p3:List (Str×Val))(p5:Tm)(rec:(Int×Int×Int×Str×(List Val)×Int×Int×Str×(List Val)×(List Bound))→Option (LR (Int×Int×Str×(List Val)×Int×Int×Str×(List Val)×(List Bound)) (PZ (Val×(List Bound)) (List Bound))))(s7:Int×Int×Int×Str×(List Val)×Int×Int×Str×(List Val)×(List Bound)):Option (LR (Int×Int×Str×(List Val)×Int×Int×Str×(List Val)×(List Bound)) (PZ (Val×(List Bound)) (List Bound))):=cond (decide (s7.1<(p5.kids.length:Int))) ((((idx p5.kids s7.1).bind fun x35=>((qb6 p0 p1 p2 p3 s7.2.2.2.2.2.2.2.2.2 x35).bind (PZ.el (fun x36=>(cond (s7.1==0) (some (.nx (x36.1.kind,x36.1.n,x36.1.name,x36.1.kids,s7.2.2.2.2.2.1,s7.2.2.2.2.2.2.1,s7.2.2.2.2.2.2.2.1,s7.2.2.2.2.2.2.2.2.1,x36.2))) (cond (s7.1==1) (some (.nx (s7.2.1,s7.2.2.1,s7.2.2.2.1,s7.2.2.2.2.1,x36.1.kind,x36.1.n,x36.1.name,x36.1.kids,x36.2))) none))) (fun(e16:Int) z16=>some (.rt (.er e16 z16)))))):Option (LR (Int×Int×Str×(List Val)×Int×Int×Str×(List Val)×(List Bound)) (PZ (Val×(List Bound)) (List Bound)))).bind (LR.el (fun s9=>rec ((s7.1+1),s9.1,s9.2.1,s9.2.2.1,s9.2.2.2.1,s9.2.2.2.2.1,s9.2.2.2.2.2.1,s9.2.2.2.2.2.2.1,s9.2.2.2.2.2.2.2.1,s9.2.2.2.2.2.2.2.2)) (fun r=>some (.rt r)))) (some (.nx (s7.2.1,s7.2.2.1,s7.2.2.2.1,s7.2.2.2.2.1,s7.2.2.2.2.2.1,s7.2.2.2.2.2.2.1,s7.2.2.2.2.2.2.2.1,s7.2.2.2.2.2.2.2.2.1,s7.2.2.2.2.2.2.2.2.2)))
def Hy n qb4 qb3 qb2 qb5 qb1 qb6 qb7 p0 p1 p2 p3 p5 k:=aG (eY n qb4 qb3 qb2 qb5 qb1 qb6 qb7 p0 p1 p2 p3 p5) k
def nu(n:Nat)(qb4:F4t)(qb3:F1t)(qb2:F1t)(qb5:F5t)(qb1:F0t)(qb6:F0t)(qb7:F0t)(p0:List Carrier)(p1:List Decl)(p2:List Int)(p3:List (Str×Val))(p5:Tm)(rec:((List Val)×Int×(List Bound))→Option (LR ((List Val)×(List Bound)) (PZ (Val×(List Bound)) (List Bound))))(s5:(List Val)×Int×(List Bound)):Option (LR ((List Val)×(List Bound)) (PZ (Val×(List Bound)) (List Bound))):=cond (decide (s5.2.1<(p5.kids.length:Int))) ((idx p5.kids s5.2.1).bind fun x31=>(qb6 p0 p1 p2 p3 s5.2.2 x31).bind (PZ.el (fun x32=>((app 56 s5.1 ([x32.1])).bind fun x33=>rec (x33,(s5.2.1+1),x32.2))) (fun(e14:Int) z14=>some (.rt (.er e14 z14))))) (some (.nx (s5.1,s5.2.2)))
def HZ n qb4 qb3 qb2 qb5 qb1 qb6 qb7 p0 p1 p2 p3 p5 k:=aG (nu n qb4 qb3 qb2 qb5 qb1 qb6 qb7 p0 p1 p2 p3 p5) k
def qx n qb4 qb3 qb2 qb5 qb1 qb6 qb7 p0 p1 p2 p3 p4 p5:=(cond (p5.op==1) (some (p5.op==1)) (some (p5.op==2))).bind fun s1=>cond s1 ((bB n (p5.op==1)).bind fun x1=>some (.ok (x1,p4))) (cond (p5.op==19) ((iF n p5.n).bind (PZ.el (fun x2=>some (.ok (x2,p4))) (fun(e1:Int) _=>some (.er e1 p4)))) (cond (p5.op==20) ((lZ n p0 p1 p2 p3 p4 p5.name).bind (PZ.el (fun x3=>some (.ok (x3,p4))) (fun(e2:Int) _=>some (.er e2 p4)))) (cond (p5.op==29) (some (.ok ((Val.mk 5 0 ([]:Str) ([])),p4))) (((cond (p5.op==4) (some (p5.op==4)) (cond (p5.op==5) (some (p5.op==5)) (some (p5.op==6)))):Option Bool).bind fun s2=>(cond s2 ((qb7 p0 p1 p2 p3 p4 p5).bind (PZ.el (fun x4=>some (.ok (x4.1,x4.2))) (fun(e3:Int) z3=>some (.er e3 z3)))) (((cond (p5.op==8) (some (p5.op==8)) (cond (p5.op==9) (some (p5.op==9)) (cond (p5.op==55) (some (p5.op==55)) (some (p5.op==56))))):Option Bool).bind fun s3=>(cond s3 ((qb1 p0 p1 p2 p3 p4 p5).bind (PZ.el (fun x5=>some (.ok (x5.1,x5.2))) (fun(e4:Int) z4=>some (.er e4 z4)))) (((cond (p5.op==16) (some (p5.op==16)) (some (p5.op==17))):Option Bool).bind fun s4=>(cond s4 ((idx p5.kids 0).bind fun x6=>((qb6 p0 p1 p2 p3 p4 x6).bind (PZ.el (fun x7=>((idx p5.kids 1).bind fun x8=>(cond (decide (x8.op<41) ||decide (46<x8.op)) ((qb2 p0 p1 p2 p3 x7.2 x8).bind (PZ.el (fun x9=>((iI n x7.1 x9.1).bind fun x10=>((bB n (x10==(p5.op==16))).bind fun x11=>some (.ok (x11,x9.2))))) (fun(e5:Int) z5=>some (.er e5 z5)))) (cond (x8.op==46) ((qb3 p0 p1 p2 p3 x7.2 x8).bind (PZ.el (fun x12=>((iK n x7.1 x12.1).bind fun x13=>((bB n (x13==(p5.op==16))).bind fun x14=>some (.ok (x14,x12.2))))) (fun(e6:Int) z6=>some (.er e6 z6)))) ((qb4 p0 p1 p2 p3 x7.2 x8).bind (PZ.el (fun x15=>((jS n x7.1 x15.1 x15.2.1 x15.2.2.1 x15.2.2.2.1 x15.2.2.2.2.1 x15.2.2.2.2.2.1 x15.2.2.2.2.2.2.1 x15.2.2.2.2.2.2.2.1 x15.2.2.2.2.2.2.2.2.1).bind fun x16=>((bB n (x16==(p5.op==16))).bind fun x17=>some (.ok (x17,x15.2.2.2.2.2.2.2.2.2))))) (fun(e7:Int) z7=>some (.er e7 z7)))))))) (fun(e8:Int) z8=>some (.er e8 z8))))) (cond (p5.op==18) ((idx p5.kids 0).bind fun x18=>((qb6 p0 p1 p2 p3 p4 x18).bind (PZ.el (fun x19=>((idx p5.kids 1).bind fun x20=>(cond (decide (x20.op<41) ||decide (46<x20.op)) ((qb2 p0 p1 p2 p3 x19.2 x20).bind (PZ.el (fun x21=>((El n x19.1.kids x21.1).bind fun x22=>((bB n ((x22.length:Int)==(x19.1.kids.length:Int))).bind fun x23=>some (.ok (x23,x21.2))))) (fun(e9:Int) z9=>some (.er e9 z9)))) (cond (x20.op==46) ((qb3 p0 p1 p2 p3 x19.2 x20).bind (PZ.el (fun x24=>((D5 n x19.1.kids x24.1).bind fun x25=>((bB n ((x25.length:Int)==(x19.1.kids.length:Int))).bind fun x26=>some (.ok (x26,x24.2))))) (fun(e10:Int) z10=>some (.er e10 z10)))) ((qb4 p0 p1 p2 p3 x19.2 x20).bind (PZ.el (fun x27=>((D8 n x19.1.kids x27.1 x27.2.1 x27.2.2.1 x27.2.2.2.1 x27.2.2.2.2.1 x27.2.2.2.2.2.1 x27.2.2.2.2.2.2.1 x27.2.2.2.2.2.2.2.1 x27.2.2.2.2.2.2.2.2.1).bind fun x28=>((bB n ((x28.length:Int)==(x19.1.kids.length:Int))).bind fun x29=>some (.ok (x29,x27.2.2.2.2.2.2.2.2.2))))) (fun(e11:Int) z11=>some (.er e11 z11)))))))) (fun(e12:Int) z12=>some (.er e12 z12))))) (cond (p5.op==28) ((HZ n qb4 qb3 qb2 qb5 qb1 qb6 qb7 p0 p1 p2 p3 p5 n (([]:List Val),0,p4)).bind (LR.el (fun s6=>((yN n s6.1).bind (PZ.el (fun x30=>some (.ok (x30,s6.2))) (fun(e13:Int) _=>some (.er e13 s6.2))))) (fun r=>some r))) ((Hy n qb4 qb3 qb2 qb5 qb1 qb6 qb7 p0 p1 p2 p3 p5 n (0,0,0,([]:Str),([]:List Val),0,0,([]:Str),([]:List Val),p4)).bind (LR.el (fun s8=>((nK n p5.op (Val.mk s8.1 s8.2.1 s8.2.2.1 s8.2.2.2.1) (Val.mk s8.2.2.2.2.1 s8.2.2.2.2.2.1 s8.2.2.2.2.2.2.1 s8.2.2.2.2.2.2.2.1)).bind (PZ.el (fun x34=>some (.ok (x34,s8.2.2.2.2.2.2.2.2))) (fun(e15:Int) _=>some (.er e15 s8.2.2.2.2.2.2.2.2))))) (fun r=>some r))))))))))))))
def rM(n:Nat)(qb4:F4t)(qb3:F1t)(qb2:F1t)(qb5:F5t)(qb1:F0t)(qb6:F0t)(qb7:F0t)(p0:List Carrier)(p1:List Decl)(p2:List Int)(p3:List (Str×Val))(p4:List Bound)(p5:Tm):Option (PZ (Val×(List Bound)) (List Bound)):=(idx p5.kids 0).bind fun x1=>((qb6 p0 p1 p2 p3 p4 x1).bind (PZ.el (fun x2=>(((cond (p5.op==4) (some (!(x2.1.n==1))) (some false)):Option Bool).bind fun s1=>(cond s1 ((bB n false).bind fun x3=>some (.ok (x3,x2.2))) (((((cond (p5.op==5) (some (x2.1.n==1)) (some false)):Option Bool).bind fun s3=>(cond s3 (some s3) (cond (p5.op==6) (some (!(x2.1.n==1))) (some false)))):Option Bool).bind fun s2=>(cond s2 ((bB n true).bind fun x4=>some (.ok (x4,x2.2))) ((idx p5.kids 1).bind fun x5=>((qb6 p0 p1 p2 p3 x2.2 x5).bind (PZ.el (fun x6=>some (.ok (x6.1,x6.2))) (fun(e1:Int) z1=>some (.er e1 z1)))))))))) (fun(e2:Int) z2=>some (.er e2 z2))))
mutual
def bf:Nat→List Carrier→List Decl→List Int→List (Str×Val)→List Bound→Tm→Option (PZ (Int×Str×Int×Int×Str×(List Ty)×(List Tm)×(List Val)×(List Val)×(List Bound)) (List Bound))
 | 0,_,_,_,_,_,_=>none
 | n+1,p0,p1,p2,p3,p4,p5=>pO n (fun p0 p1 p2 p3 p4 p5=>bf n p0 p1 p2 p3 p4 p5) (fun p0 p1 p2 p3 p4 p5=>bg n p0 p1 p2 p3 p4 p5) (fun p0 p1 p2 p3 p4 p5=>bq n p0 p1 p2 p3 p4 p5) (fun p0 p1 p2 p3 p4 p5 p6 p7 p8 p9 p10 p11 p12 p13 p14 p15=>bP n p0 p1 p2 p3 p4 p5 p6 p7 p8 p9 p10 p11 p12 p13 p14 p15) (fun p0 p1 p2 p3 p4 p5=>bW n p0 p1 p2 p3 p4 p5) (fun p0 p1 p2 p3 p4 p5=>aH n p0 p1 p2 p3 p4 p5) (fun p0 p1 p2 p3 p4 p5=>bQ n p0 p1 p2 p3 p4 p5) p0 p1 p2 p3 p4 p5
def bg:Nat→List Carrier→List Decl→List Int→List (Str×Val)→List Bound→Tm→Option (PZ ((List Val)×(List Bound)) (List Bound))
 | 0,_,_,_,_,_,_=>none
 | n+1,p0,p1,p2,p3,p4,p5=>o9 n (fun p0 p1 p2 p3 p4 p5=>bf n p0 p1 p2 p3 p4 p5) (fun p0 p1 p2 p3 p4 p5=>bg n p0 p1 p2 p3 p4 p5) (fun p0 p1 p2 p3 p4 p5=>bq n p0 p1 p2 p3 p4 p5) (fun p0 p1 p2 p3 p4 p5 p6 p7 p8 p9 p10 p11 p12 p13 p14 p15=>bP n p0 p1 p2 p3 p4 p5 p6 p7 p8 p9 p10 p11 p12 p13 p14 p15) (fun p0 p1 p2 p3 p4 p5=>bW n p0 p1 p2 p3 p4 p5) (fun p0 p1 p2 p3 p4 p5=>aH n p0 p1 p2 p3 p4 p5) (fun p0 p1 p2 p3 p4 p5=>bQ n p0 p1 p2 p3 p4 p5) p0 p1 p2 p3 p4 p5
def bq:Nat→List Carrier→List Decl→List Int→List (Str×Val)→List Bound→Tm→Option (PZ ((List Val)×(List Bound)) (List Bound))
 | 0,_,_,_,_,_,_=>none
 | n+1,p0,p1,p2,p3,p4,p5=>pq n (fun p0 p1 p2 p3 p4 p5=>bf n p0 p1 p2 p3 p4 p5) (fun p0 p1 p2 p3 p4 p5=>bg n p0 p1 p2 p3 p4 p5) (fun p0 p1 p2 p3 p4 p5=>bq n p0 p1 p2 p3 p4 p5) (fun p0 p1 p2 p3 p4 p5 p6 p7 p8 p9 p10 p11 p12 p13 p14 p15=>bP n p0 p1 p2 p3 p4 p5 p6 p7 p8 p9 p10 p11 p12 p13 p14 p15) (fun p0 p1 p2 p3 p4 p5=>bW n p0 p1 p2 p3 p4 p5) (fun p0 p1 p2 p3 p4 p5=>aH n p0 p1 p2 p3 p4 p5) (fun p0 p1 p2 p3 p4 p5=>bQ n p0 p1 p2 p3 p4 p5) p0 p1 p2 p3 p4 p5
def bP:Nat→(List Carrier)→(List Decl)→(List Int)→(List (Str×Val))→(List Bound)→Tm→Int→Str→Int→Int→Str→(List Ty)→(List Tm)→(List Val)→Bool→Bool→Option (PZ ((List Bound)×(List Val)×Bool×Bool) ((List Bound)×(List Val)))
 | 0,_,_,_,_,_,_,_,_,_,_,_,_,_,_,_,_=>none
 | n+1,p0,p1,p2,p3,p4,p5,p6,p7,p8,p9,p10,p11,p12,p13,p14,p15=>wW n (fun p0 p1 p2 p3 p4 p5=>bf n p0 p1 p2 p3 p4 p5) (fun p0 p1 p2 p3 p4 p5=>bg n p0 p1 p2 p3 p4 p5) (fun p0 p1 p2 p3 p4 p5=>bq n p0 p1 p2 p3 p4 p5) (fun p0 p1 p2 p3 p4 p5 p6 p7 p8 p9 p10 p11 p12 p13 p14 p15=>bP n p0 p1 p2 p3 p4 p5 p6 p7 p8 p9 p10 p11 p12 p13 p14 p15) (fun p0 p1 p2 p3 p4 p5=>bW n p0 p1 p2 p3 p4 p5) (fun p0 p1 p2 p3 p4 p5=>aH n p0 p1 p2 p3 p4 p5) (fun p0 p1 p2 p3 p4 p5=>bQ n p0 p1 p2 p3 p4 p5) p0 p1 p2 p3 p4 p5 p6 p7 p8 p9 p10 p11 p12 p13 p14 p15
def bW:Nat→(List Carrier)→(List Decl)→(List Int)→(List (Str×Val))→(List Bound)→Tm→Option (PZ (Val×(List Bound)) (List Bound))
 | 0,_,_,_,_,_,_=>none
 | n+1,p0,p1,p2,p3,p4,p5=>uh n (fun p0 p1 p2 p3 p4 p5=>bf n p0 p1 p2 p3 p4 p5) (fun p0 p1 p2 p3 p4 p5=>bg n p0 p1 p2 p3 p4 p5) (fun p0 p1 p2 p3 p4 p5=>bq n p0 p1 p2 p3 p4 p5) (fun p0 p1 p2 p3 p4 p5 p6 p7 p8 p9 p10 p11 p12 p13 p14 p15=>bP n p0 p1 p2 p3 p4 p5 p6 p7 p8 p9 p10 p11 p12 p13 p14 p15) (fun p0 p1 p2 p3 p4 p5=>bW n p0 p1 p2 p3 p4 p5) (fun p0 p1 p2 p3 p4 p5=>aH n p0 p1 p2 p3 p4 p5) (fun p0 p1 p2 p3 p4 p5=>bQ n p0 p1 p2 p3 p4 p5) p0 p1 p2 p3 p4 p5
def aH:Nat→(List Carrier)→(List Decl)→(List Int)→(List (Str×Val))→(List Bound)→Tm→Option (PZ (Val×(List Bound)) (List Bound))
 | 0,_,_,_,_,_,_=>none
 | n+1,p0,p1,p2,p3,p4,p5=>qx n (fun p0 p1 p2 p3 p4 p5=>bf n p0 p1 p2 p3 p4 p5) (fun p0 p1 p2 p3 p4 p5=>bg n p0 p1 p2 p3 p4 p5) (fun p0 p1 p2 p3 p4 p5=>bq n p0 p1 p2 p3 p4 p5) (fun p0 p1 p2 p3 p4 p5 p6 p7 p8 p9 p10 p11 p12 p13 p14 p15=>bP n p0 p1 p2 p3 p4 p5 p6 p7 p8 p9 p10 p11 p12 p13 p14 p15) (fun p0 p1 p2 p3 p4 p5=>bW n p0 p1 p2 p3 p4 p5) (fun p0 p1 p2 p3 p4 p5=>aH n p0 p1 p2 p3 p4 p5) (fun p0 p1 p2 p3 p4 p5=>bQ n p0 p1 p2 p3 p4 p5) p0 p1 p2 p3 p4 p5
def bQ:Nat→(List Carrier)→(List Decl)→(List Int)→(List (Str×Val))→(List Bound)→Tm→Option (PZ (Val×(List Bound)) (List Bound))
 | 0,_,_,_,_,_,_=>none
 | n+1,p0,p1,p2,p3,p4,p5=>rM n (fun p0 p1 p2 p3 p4 p5=>bf n p0 p1 p2 p3 p4 p5) (fun p0 p1 p2 p3 p4 p5=>bg n p0 p1 p2 p3 p4 p5) (fun p0 p1 p2 p3 p4 p5=>bq n p0 p1 p2 p3 p4 p5) (fun p0 p1 p2 p3 p4 p5 p6 p7 p8 p9 p10 p11 p12 p13 p14 p15=>bP n p0 p1 p2 p3 p4 p5 p6 p7 p8 p9 p10 p11 p12 p13 p14 p15) (fun p0 p1 p2 p3 p4 p5=>bW n p0 p1 p2 p3 p4 p5) (fun p0 p1 p2 p3 p4 p5=>aH n p0 p1 p2 p3 p4 p5) (fun p0 p1 p2 p3 p4 p5=>bQ n p0 p1 p2 p3 p4 p5) p0 p1 p2 p3 p4 p5
end
def mV n p0 p1 p2 p3 p4 p5:=(aH n p0 p1 p2 p3 p4 p5).bind (PZ.el (fun x=>some (x.1,0,x.2)) fun e z=>bif decide ((0:Int)≤e)&&decide (e≤1000) then((Dm (List.length z) (List.length p4:Int)).bind fun c=>bif Nat.ble c (List.length z) then some (Val.mk 0 0 ([]:Str) [],e,List.take c z) else none) else none)
def Ap(n:Nat)(qby:F37t)(x1:List Val)(rec:(Int×(List Val))→Option (LR (List Val) Val))(s1:Int×(List Val)):=cond (decide (s1.1<(x1.length:Int))) ((idx s1.2 s1.1).bind fun x3=>(idx s1.2 s1.1).bind fun x4=>((qby x4).bind fun x5=>((idx s1.2 s1.1).bind fun x6=>((idx s1.2 s1.1).bind fun x7=>rec ((s1.1+1),(upd s1.2 s1.1 x5)))))) (some (.nx s1.2))
def Ce n qby x1 k:=aG (Ap n qby x1) k
def ES(n:Nat)qby(p0:Val):=(Bb n p0.kids).bind fun x1=>(wF n x1).bind fun x2=>((Ce n qby x1 n (0,x1)).bind (LR.el (fun s2=>some (Val.mk p0.kind p0.n p0.name s2)) (fun r=>some r)))
def rU:Nat→Val→Option Val
 | 0,_=>none
 | n+1,p0=>ES n (fun p0=>rU n p0) p0
def kU n p0 p1:=((vw n p0).bind fun x5=>(cond (!x5) (some true) ((Cb n p1).bind fun x6=>some (!x6)))).bind fun s1=>cond s1 (some ((Val.mk 0 0 ([]:Str) ([])),1)) ((zk n p0.env p1).bind fun x1=>(cond (x1.2.2 !=0) (some ((Val.mk 0 0 ([]:Str) ([])),x1.2.2)) ((JW n p0).bind fun x2=>((mV n x2.1 x2.2.1 x2.2.2.1 x2.2.2.2.1 x2.2.2.2.2 p1).bind fun x3=>((rU n x3.1).bind fun x4=>some (x4,x3.2.1))))))
def aCx(n:Nat):=some (Ty.mk 1 [] [])
def av1(n:Nat)p0:=some (Val.mk 1 p0 ([]) [])
def wE(n:Nat)(qbn:F29t)(qbm:F30t)p0(p1)(rec:F3t)s1:=cond (decide (s1<(p0.length:Int))) ((idx p0 s1).bind fun x1=>(idx p1 s1).bind fun x2=>((qbm x1 x2).bind fun x3=>(cond (!x3) (some (.rt false)) (rec (s1+1))))) (some (.nx ()))
def yM n qbn qbm p0 p1 k:=aG (wE n qbn qbm p0 p1) k
def AP n qbn qbm p0 p1:=cond ((p0.length)!=(p1.length:Int)) (some false) ((yM n qbn qbm p0 p1 n 0).bind (LR.el (fun s2=>some true) (fun r=>some r)))
def Dk(n:Nat)(qbn:F29t)(qbm:F30t)(p0:Val)(p1:Val):=(cond (p0.kind==p1.kind) (cond (p0.n==p1.n) (cond (p0.name==p1.name) ((qbn p0.kids p1.kids).bind fun x1=>some x1) (some false)) (some false)) (some false)).bind fun s1=>some s1
mutual
def uq:Nat→List Val→List Val→Option Bool
 | 0,_,_=>none
 | n+1,p0,p1=>AP n (fun p0 p1=>uq n p0 p1) (fun p0 p1=>fq n p0 p1) p0 p1
def fq:Nat→Val→Val→Option Bool
 | 0,_,_=>none
 | n+1,p0,p1=>Dk n (fun p0 p1=>uq n p0 p1) (fun p0 p1=>fq n p0 p1) p0 p1
end
def yP n p0 p1:=(zk n p0 p1).bind fun x1=>((cond (x1.2.2==0) (some (x1.1.kind !=2)) (some false)):Option Bool).bind fun s1=>(cond s1 (some 7) (some x1.2.2))
def eval_interp_holds n p0 p1 p2 p3 p4 p5:=(mV n p0 p1 p2 p3 p4 p5).bind fun x1=>((cond (x1.2.1==0) (some ((x1.1.n==1),x1.2.1)) (some (false,x1.2.1))):Option (Bool×Int)).bind fun s1=>some (s1.1,s1.2,x1.2.2)
def kE n p0 p1:=((vw n p0).bind fun x4=>(cond (!x4) (some true) ((Cb n p1).bind fun x5=>some (!x5)))).bind fun s1=>cond s1 (some (false,1)) ((yP n p0.env p1).bind fun x1=>(cond (x1 !=0) (some (false,x1)) ((JW n p0).bind fun x2=>((eval_interp_holds n x2.1 x2.2.1 x2.2.2.1 x2.2.2.2.1 x2.2.2.2.2 p1).bind fun x3=>some (x3.1,x3.2.1)))))
def aDu(n:Nat)p0(p1)p2:=some (Tm.mk p0 ([]) 0 (Ty.mk 0 ([]:Str) ([])) [p1,p2])
def GY(n:Nat)(p0:List Val):Option (Val×Int):=(jw n p0).bind fun x1=>cond (decide (256<(x1.length:Int))) (some ((Val.mk 0 0 ([]:Str) ([])),11)) ((rU n (Val.mk 5 0 ([]:Str) x1)).bind fun x2=>some (x2,0))
def RB n p0 p1 p2:=((yJ n p0.env).bind fun x18=>(cond (!x18) (some true) ((oI n p1).bind fun x19=>(cond (!x19) (some true) ((oI n p2).bind fun x20=>some (!x20)))))).bind fun s1=>cond s1 ((iG n).bind fun x1=>some x1) ((kU n p0 p1).bind fun x2=>((kU n p0 p2).bind fun x3=>((kU n p0 (Tm.mk 31 ([]:Str) 0 ((Ty.mk 0 ([]:Str) ([]))) ([p1,p2]))).bind fun x4=>((kU n p0 (Tm.mk 32 ([]:Str) 0 ((Ty.mk 0 ([]:Str) ([]))) ([p1,p2]))).bind fun x5=>((kU n p0 (Tm.mk 33 ([]:Str) 0 ((Ty.mk 0 ([]:Str) ([]))) ([p1,p2]))).bind fun x6=>(((cond (x2.2 !=0) (some true) (cond (x3.2 !=0) (some true) (cond (x4.2 !=0) (some true) (cond (x5.2 !=0) (some true) (some (x6.2 !=0)))))):Option Bool).bind fun s2=>(cond s2 ((iG n).bind fun x7=>some x7) (((cond ((IntKind.wrap .i64 ((x4.1.kids.length:Int)+(x5.1.kids.length:Int)))!=(IntKind.wrap .i64 ((x2.1.kids.length:Int)+(x3.1.kids.length:Int)))) (some true) (some ((IntKind.wrap .i64 ((x6.1.kids.length:Int)+(x5.1.kids.length:Int)))!=(x2.1.kids.length:Int)))):Option Bool).bind fun s3=>(cond s3 (some false) ((app 56 ([]:List Val) x6.1.kids).bind fun x8=>((app 56 x8 x3.1.kids).bind fun x9=>((GY n x9).bind fun x10=>((kE n p0 (Tm.mk 18 ([]:Str) 0 ((Ty.mk 0 ([]:Str) ([]))) ([p1,p2]))).bind fun x11=>((kE n p0 (Tm.mk 10 ([]:Str) 0 ((Ty.mk 0 ([]:Str) ([]))) ([p1,p2]))).bind fun x12=>((kE n p0 (Tm.mk 18 ([]:Str) 0 ((Ty.mk 0 ([]:Str) ([]))) ([p2,p1]))).bind fun x13=>(((cond (x10.2 !=0) (some true) ((fq n x10.1 x4.1).bind fun x16=>(cond (!x16) (some true) (cond (x12.2==0) ((fq n x2.1 x3.1).bind fun x17=>some (!(x12.1==x17))) (some false))))):Option Bool).bind fun s4=>(cond s4 (some false) (((cond (x11.2==0) (cond (x13.2==0) (cond (x12.2==0) (cond x11.1 (some (!(x12.1==x13.1))) (some (!(x12.1==false)))) (some false)) (some false)) (some false)):Option Bool).bind fun s5=>(cond s5 (some false) (((cond (x11.2 !=0) ((iG n).bind fun x14=>some x14) (cond (x11.1==((x6.1.kids.length:Int)==0)) ((iG n).bind fun x15=>some x15) (some false))):Option Bool).bind fun s6=>some s6))))))))))))))))))))
def asN n p0:=((uR n p0).bind fun x1=>(cond x1 (some true) ((A9 n p0).bind fun x2=>(cond x2 (some true) (some (p0==95)))))).bind fun s1=>some s1
def alB(n)(p0:Str)(rec:F22t)(s2:Int×Int):=cond (decide (s2.2<(p0.length:Int))) ((mZ p0 s2.2).bind fun x1=>(A9 n x1).bind fun x2=>(cond (!x2) (some (.rt (-1))) ((mZ p0 s2.2).bind fun x3=>rec ((IntKind.wrap .i64 ((IntKind.wrap .i64 (10*s2.1))+(IntKind.wrap .i64 (IntKind.wrap .u8 (x3 - 48))))),(s2.2+1))))) (some (.nx s2.1))
def anF n p0 k:=aG (alB n p0) k
def aj0(n:Nat)(p0:Str):=(cond (decide (10<(p0.length:Int))) (some true) (cond (decide (1<(p0.length:Int))) ((mZ p0 0).bind fun x4=>some (x4==48)) (some false))).bind fun s1=>cond s1 (some (-1)) ((anF n p0 n (0,0)).bind (LR.el (fun s3=>(cond (decide (1000000000<s3)) (some (-1)) (some s3))) (fun r=>some r)))
def aqI(n:Nat)(p0:Str)p1(rec:Int→Option (LR Unit Str))s1:=cond (decide (s1<(([([62,45,62,62]:Str),([60,61,62]:Str),([60,60,124]:Str),([124,62,62]:Str),([124,45,62]:Str),([60,45,62]:Str),([43,45,62]:Str),([45,45,62]:Str),([62,45,62]:Str),([61,62]:Str),([47,61]:Str),([60,61]:Str),([62,61]:Str),([46,46]:Str),([92,47]:Str),([47,92]:Str),([62,60]:Str),([60,43]:Str),([60,124]:Str),([124,62]:Str)]).length:Int))) ((((idx ([([62,45,62,62]:Str),([60,61,62]:Str),([60,60,124]:Str),([124,62,62]:Str),([124,45,62]:Str),([60,45,62]:Str),([43,45,62]:Str),([45,45,62]:Str),([62,45,62]:Str),([61,62]:Str),([47,61]:Str),([60,61]:Str),([62,61]:Str),([46,46]:Str),([92,47]:Str),([47,92]:Str),([62,60]:Str),([60,43]:Str),([60,124]:Str),([124,62]:Str)]) s1).bind fun x5=>(cond (decide ((x5.length:Int)≤(IntKind.wrap .i64 ((p0.length:Int) - p1)))) ((idx ([([62,45,62,62]:Str),([60,61,62]:Str),([60,60,124]:Str),([124,62,62]:Str),([124,45,62]:Str),([60,45,62]:Str),([43,45,62]:Str),([45,45,62]:Str),([62,45,62]:Str),([61,62]:Str),([47,61]:Str),([60,61]:Str),([62,61]:Str),([46,46]:Str),([92,47]:Str),([47,92]:Str),([62,60]:Str),([60,43]:Str),([60,124]:Str),([124,62]:Str)]) s1).bind fun x6=>((jE p0 p1 (IntKind.wrap .i64 (p1+(x6.length:Int)))).bind fun x7=>((idx ([([62,45,62,62]:Str),([60,61,62]:Str),([60,60,124]:Str),([124,62,62]:Str),([124,45,62]:Str),([60,45,62]:Str),([43,45,62]:Str),([45,45,62]:Str),([62,45,62]:Str),([61,62]:Str),([47,61]:Str),([60,61]:Str),([62,61]:Str),([46,46]:Str),([92,47]:Str),([47,92]:Str),([62,60]:Str),([60,43]:Str),([60,124]:Str),([124,62]:Str)]) s1).bind fun x8=>some (x7==x8)))) (some false)))).bind fun s3=>cond s3 ((idx ([([62,45,62,62]:Str),([60,61,62]:Str),([60,60,124]:Str),([124,62,62]:Str),([124,45,62]:Str),([60,45,62]:Str),([43,45,62]:Str),([45,45,62]:Str),([62,45,62]:Str),([61,62]:Str),([47,61]:Str),([60,61]:Str),([62,61]:Str),([46,46]:Str),([92,47]:Str),([47,92]:Str),([62,60]:Str),([60,43]:Str),([60,124]:Str),([124,62]:Str)]) s1).bind fun x4=>some (.rt x4)) (rec (s1+1))) (some (.nx ()))
def auV n p0 p1 k:=aG (aqI n p0 p1) k
def asu(n:Nat)(p0:Str)(p1:Int):Option Str:=(auV n p0 p1 n 0).bind (LR.el (fun s2=>((jE p0 p1 (IntKind.wrap .i64 (p1+1))).bind fun x1=>((J7 n x1 ([([38]:Str),([61]:Str),([60]:Str),([62]:Str),([43]:Str),([45]:Str),([42]:Str),([47]:Str),([92]:Str),([59]:Str),([126]:Str),([46]:Str),([44]:Str),([124]:Str),([40]:Str),([41]:Str),([91]:Str),([93]:Str),([123]:Str),([125]:Str)])).bind fun x2=>(cond x2 ((jE p0 p1 (IntKind.wrap .i64 (p1+1))).bind fun x3=>some x3) (some ([]:Str)))))) fun r=>some r)
def aur(n:Nat)(p0:Str)(rec:F42t)s1:=(cond (decide (s1<(p0.length:Int))) ((mZ p0 s1).bind fun x19=>(cond (x19==32) (some true) ((mZ p0 s1).bind fun x20=>(cond (x20==9) (some true) ((mZ p0 s1).bind fun x21=>some (x21==10)))))) (some false)).bind fun s11=>cond s11 (rec (IntKind.wrap .i64 (s1+1))) (some (.nx s1))
def au1 n p0 k:=aG (aur n p0) k
def auu(n:Nat)(p0:Str)(rec:F42t)s3:=(cond (decide (s3<(p0.length:Int))) ((mZ p0 s3).bind fun x17=>((asN n x17).bind fun x18=>some x18)) (some false)).bind fun s10=>cond s10 (rec (IntKind.wrap .i64 (s3+1))) (some (.nx s3))
def auZ n p0 k:=aG (auu n p0) k
def anp n p0 p1:=(au1 n p0 n p1).bind (LR.el (fun s2=>(cond (s2==(p0.length:Int)) (some (S_refinementref01_token.mk 0 ([]:Str) s2)) ((auZ n p0 n s2).bind (LR.el (fun s4=>((jE p0 s2 s4).bind fun x1=>((((mZ p0 s2).bind fun x14=>((uR n x14).bind fun x15=>(cond x15 ((F9 n x1).bind fun x16=>some x16) (some false)))):Option Bool).bind fun s5=>(cond s5 (some (S_refinementref01_token.mk 2 x1 s2)) ((((mZ p0 s2).bind fun x12=>((uR n x12).bind fun x13=>(cond x13 (some (decide (16<(x1.length:Int)))) (some false)))):Option Bool).bind fun s6=>(cond s6 (some (S_refinementref01_token.mk 5 x1 s2)) ((mZ p0 s2).bind fun x2=>((uR n x2).bind fun x3=>(cond x3 (((((cond (decide (s4<(p0.length:Int))) ((mZ p0 s4).bind fun x5=>some (x5==39)) (some false)):Option Bool).bind fun s8=>(cond s8 ((jE p0 s2 (IntKind.wrap .i64 (s4+1))).bind fun x4=>some x4) (some x1))):Option Str).bind fun s7=>some (S_refinementref01_token.mk 1 s7 s2)) ((((mZ p0 s2).bind fun x9=>((A9 n x9).bind fun x10=>(cond x10 ((aj0 n x1).bind fun x11=>some (decide (x11<0))) (some false)))):Option Bool).bind fun s9=>(cond s9 (some (S_refinementref01_token.mk 5 x1 s2)) ((mZ p0 s2).bind fun x6=>((A9 n x6).bind fun x7=>(cond x7 (some (S_refinementref01_token.mk 3 x1 s2)) ((asu n p0 s2).bind fun x8=>(cond (!(x8==([]:Str))) (some (S_refinementref01_token.mk 4 x8 s2)) (some (S_refinementref01_token.mk 5 ([]:Str) s2)))))))))))))))))) (fun r=>some r))))) fun r=>some r)
def amV(n:Nat)(p0:Str)(p1:Int)(p2:Str)(p3:Int)(p4:Int)(p5:Int)(p6:Int):=some (p6==0)
def YN(n:Nat)(p0:Str)(p1:Int)p2(p3:Int)(p4:Int)(p5:Int)(p6:Int)(p7:Str):=(cond (p1==4) (some (p2==p7)) (cond (p1==2) (some (p2==p7)) (some false))).bind fun s1=>some s1
def II(n:Nat)(p0:Str)(p1:Int)(p2:Str)(p3:Int)(p4:Int)p5(p6:Int)p7(p8:Int):=cond (p6==0) (some (p8,p7)) (some (p5,p6))
def Jq n p0 p1 p2 p3 p4 p5 p6:=((J7 n p2 ([([40]:Str),([91]:Str),([123]:Str)])).bind fun x3=>(cond x3 (cond (decide (64<(IntKind.wrap .i64 (p4+1)))) ((II n p0 p1 p2 p3 (IntKind.wrap .i64 (p4+1)) p5 p6 4 p3).bind fun x4=>some ((IntKind.wrap .i64 (p4+1)),x4.1,x4.2)) (some ((IntKind.wrap .i64 (p4+1)),p5,p6))) (some (p4,p5,p6)))).bind fun s1=>(((J7 n p2 ([([41]:Str),([93]:Str),([125]:Str)])).bind fun x2=>(cond x2 (some (IntKind.wrap .i64 (s1.1 - 1))) (some s1.1))):Option Int).bind fun s2=>((anp n p0 (IntKind.wrap .i64 (p3+(p2.length:Int)))).bind fun x1=>some (x1.kind,x1.s,x1.at_,s2,s1.2.1,s1.2.2))
def Av n p0 p1 p2 p3 p4 p5 p6:=(II n p0 p1 p2 p3 p4 p5 p6 2 p3).bind fun x1=>some (x1.1,x1.2)
def ahq n p0 p1 p2 p3 p4 p5 p6 p7:=cond (!p6==0) (some (p1,p2,p3,p4,p5,p6)) ((YN n p0 p1 p2 p3 p4 p5 p6 p7).bind fun x1=>cond (!x1) ((Av n p0 p1 p2 p3 p4 p5 p6).bind fun x2=>some (p1,p2,p3,p4,x2.1,x2.2)) ((Jq n p0 p1 p2 p3 p4 p5 p6).bind fun x3=>some (x3.1,x3.2.1,x3.2.2.1,x3.2.2.2.1,x3.2.2.2.2.1,x3.2.2.2.2.2)))
def Zm(n:Nat)p0(p1:Int)(p2:Str)p3(p4:Int)(p5:Int)(p6:Int):=(anp n p0 (IntKind.wrap .i64 (p3+(p2.length:Int)))).bind fun x1=>((cond (x1.kind==2) (some (x1.s==([105,110]:Str))) (some false)):Option Bool).bind fun s1=>some s1
def abZ(n:Nat)(p0:Str):Option Int:=cond (p0==([61])) (some 10) (cond (p0==([47,61]:Str)) (some 11) (cond (p0==([60]:Str)) (some 12) (cond (p0==([60,61]:Str)) (some 13) (cond (p0==([62]:Str)) (some 14) (cond (p0==([62,61]:Str)) (some 15) (cond (p0==([105,110]:Str)) (some 16) (cond (p0==([110,111,116,105,110]:Str)) (some 17) (cond (p0==([115,117,98]:Str)) (some 18) (some 0)))))))))
def aaB(n:Nat)(p0:Str):Option Int:=cond (p0==([60,45,62])) (some 41) (cond (p0==([43,45,62]:Str)) (some 42) (cond (p0==([45,45,62]:Str)) (some 43) (cond (p0==([62,45,62]:Str)) (some 44) (cond (p0==([62,45,62,62]:Str)) (some 45) (some 0)))))
def asQ(n:Nat)(p0:Str):Option Int:=cond (p0==([92,47])) (some 31) (cond (p0==([47,92]:Str)) (some 32) (cond (p0==([92]:Str)) (some 33) (cond (p0==([62,60]:Str)) (some 34) (cond (p0==([60,43]:Str)) (some 35) (cond (p0==([59]:Str)) (some 36) (cond (p0==([60,124]:Str)) (some 37) (cond (p0==([60,60,124]:Str)) (some 38) (cond (p0==([124,62]:Str)) (some 39) (cond (p0==([124,62,62]:Str)) (some 40) (some 0))))))))))
def akv(n:Nat)(p0:Str):Option (Int×Int):=cond (p0==([60,61,62])) (some (1,7)) (cond (p0==([61,62]:Str)) (some (2,6)) (cond (p0==([111,114]:Str)) (some (3,5)) (cond (p0==([38]:Str)) (some (4,4)) (cond (p0==([124,45,62]:Str)) (some (8,27)) (cond (p0==([46,46]:Str)) (some (10,30)) (cond (p0==([43]:Str)) (some (11,22)) (cond (p0==([45]:Str)) (some (11,23)) (cond (p0==([42]:Str)) (some (12,24)) (cond (p0==([47]:Str)) (some (12,25)) (cond (p0==([109,111,100]:Str)) (some (12,26)) ((abZ n p0).bind fun x1=>(cond (decide (0<x1)) (some (6,x1)) ((aaB n p0).bind fun x2=>(cond (decide (0<x2)) (some (7,x2)) ((asQ n p0).bind fun x3=>(cond (decide (0<x3)) (some (9,x3)) (some (0,0))))))))))))))))))
def YT(n:Nat)(p0:Str)(p1:Int)p2(p3:Int)(p4:Int)(p5:Int)(p6:Int)p7:=(cond (p1 !=4) (some (p1 !=2)) (some false)).bind fun s1=>cond s1 (some 0) ((akv n p2).bind fun x1=>(cond (x1.1 !=p7) (some 0) (some x1.2)))
def ahk(n:Nat)(p0:Str)(p1:Int)(p2:Str)(p3:Int)(p4:Int)(p5:Int)(p6:Int):Option (Str×Int×Str×Int×Int×Int×Int):=cond (!p6==0) (some (([]:Str),p1,p2,p3,p4,p5,p6)) (((cond (p1 !=1) (some true) ((Ld n p2).bind fun x3=>some x3))).bind fun s1=>cond s1 ((Av n p0 p1 p2 p3 p4 p5 p6).bind fun x1=>some (([]:Str),p1,p2,p3,p4,x1.1,x1.2)) ((Jq n p0 p1 p2 p3 p4 p5 p6).bind fun x2=>some (p2,x2.1,x2.2.1,x2.2.2.1,x2.2.2.2.1,x2.2.2.2.2.1,x2.2.2.2.2.2)))
def alS(n:Nat)(p0:Str)(rec:F7t)s1:=cond (decide (s1<(([([80,79,87]:Str),([99,97,114,100]:Str),([109,105,110]:Str),([109,97,120]:Str),([100,111,109]:Str),([114,97,110]:Str)]).length:Int))) ((idx [([80,79,87]:Str),([99,97,114,100]:Str),([109,105,110]:Str),([109,97,120]:Str),([100,111,109]:Str),([114,97,110]:Str)] s1).bind fun x1=>cond (x1==p0) (some (.rt (IntKind.wrap .i64 (46+s1)))) (rec (s1+1))) (some (.nx ()))
def an7 n p0 k:=aG (alS n p0) k
def axf n p0:=(an7 n p0 n 0).bind (LR.el (fun s2=>some 0) fun r=>some r)
def akS n p0 p1 p2 p3 p4 p5 p6:=(cond (p6==0) (some (p1 !=0)) (some false)).bind fun s1=>cond s1 ((Av n p0 p1 p2 p3 p4 p5 p6).bind fun x1=>some (x1.1,x1.2)) (some (p5,p6))
end Abs
end Go.Proofs.YtneeginmfjageaaGreat
