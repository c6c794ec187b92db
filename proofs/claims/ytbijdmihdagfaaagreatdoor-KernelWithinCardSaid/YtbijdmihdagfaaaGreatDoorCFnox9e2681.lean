/-
  Printed by gend.py. Conditions: none.
-/
import Derived.Test.YtbijdmihdagfaaaGreatDoorCData2ox88c65e
set_option linter.all false
namespace Go.Proofs.YtbijdmihdagfaaaGreatDoor
namespace Abs
open Go Go.Proofs
set_option maxRecDepth 100000
structure S_term_scope where
 a:List Str
 b:List Str
abbrev F0t:=Int→Option (LR Unit Bool)
abbrev F1t:=Int→Option (LR Unit Int)
abbrev F2t:=Ty→Int→Option Bool
abbrev F3t:=Ty→Ty→Option Bool
abbrev F4t:=(List Ty)→(List Ty)→Option Bool
abbrev F5t:=(List Ty)→Int→Int→Int→Int→Option (Int×Int)
abbrev F6t:=(List Ty)→Int→Int→Int→Int→Option (Bool×Int)
abbrev F7t:=Int→Int→Int→Ty→Int→Bool→Option (Bool×Int)
abbrev F8t:=Ty→Int→Int→Int→Int→Option (Bool×Int)
abbrev F9t:=(List Ty)→Int→Option Int
abbrev F10t:=(List Ty)→Int→Option Bool
abbrev F11t:=((List Str)×Int)→Option (LR (List Str) (List Str))
abbrev F12t:=(List Tm)→Int→Int→Int→Int→Option (Int×Int)
abbrev F13t:=(List Tm)→Int→Int→Int→Int→Option (Bool×Int)
abbrev F14t:=Int→Int→Int→Tm→Int→Option (Bool×Int)
abbrev F15t:=Tm→Int→Int→Int→Int→Option (Bool×Int)
abbrev F16t:=Ty→Option Ty
abbrev F17t:=(List (Str×Ty))→(List (Str×Bool))→(List Int)→Tm→(List Decl)→Option (Ty×Int×(List Int))
abbrev F18t:=(List (Str×Ty))→(List (Str×Bool))→(List Int)→Tm→Int→(List Decl)→Option (Ty×Int×(List Int))
abbrev F19t:=Ty→(List (Str×Bool))→Option (List (Str×Bool))
abbrev F20t:=(Int×(List (Str×Ty)))→Option (LR (List (Str×Ty)) (List (Str×Ty)))
abbrev F21t:=Ty→Int→Int→Option Int
abbrev F22t:=Ty→Option Bool
abbrev F23t:=Ty→Option (List Str)
abbrev F24t:=Tm→Int→Int→Option Int
abbrev F25t:=Env→(List Decl)→Tm→Option (Ty×(List Int)×Int)
abbrev F26t:=S_term_scope→Tm→Tm→Option Bool
abbrev F27t:=(Int×Int)→Option (LR Int (Int×Int))
abbrev F28t:=(Int×(List Ty))→Option (LR (List Ty) Ty)
abbrev F29t:=(Int×Int)→Option (LR Int Int)
abbrev F30t:=Int→Option (LR Unit (Int×Int))
def vE(n:Nat)(p0:S_api_Sequent):Option Bool:=(((cond (decide ((p0.hyps.length:Int)≤300)) (cond (decide ((p0.env.carriers.length:Int)≤100)) (some (decide ((p0.env.names.length:Int)≤100))) (some false)) (some false)):Option Bool).bind fun s1=>some s1)
def xP(n:Nat)(p0:Int):Option Bool:=(((cond (decide (97≤p0)) (cond (decide (p0≤122)) (some true) (cond (decide (65≤p0)) (some (decide (p0≤90))) (some false))) (cond (decide (65≤p0)) (some (decide (p0≤90))) (some false))):Option Bool).bind fun s1=>some s1)
def zV(n:Nat)(p0:Str):Option Bool:=(((cond (p0==([116,114,117,101]:Str)) (some (p0==([116,114,117,101]:Str))) (cond (p0==([102,97,108,115,101]:Str)) (some (p0==([102,97,108,115,101]:Str))) (cond (p0==([110,111,116]:Str)) (some (p0==([110,111,116]:Str))) (cond (p0==([111,114]:Str)) (some (p0==([111,114]:Str))) (cond (p0==([102,111,114,97,108,108]:Str)) (some (p0==([102,111,114,97,108,108]:Str))) (cond (p0==([101,120,105,115,116,115]:Str)) (some (p0==([101,120,105,115,116,115]:Str))) (cond (p0==([105,110]:Str)) (some (p0==([105,110]:Str))) (cond (p0==([110,111,116,105,110]:Str)) (some (p0==([110,111,116,105,110]:Str))) (cond (p0==([115,117,98]:Str)) (some (p0==([115,117,98]:Str))) (cond (p0==([109,111,100]:Str)) (some (p0==([109,111,100]:Str))) (cond (p0==([102,117,110]:Str)) (some (p0==([102,117,110]:Str))) (cond (p0==([99,97,114,100]:Str)) (some (p0==([99,97,114,100]:Str))) (cond (p0==([109,105,110]:Str)) (some (p0==([109,105,110]:Str))) (cond (p0==([109,97,120]:Str)) (some (p0==([109,97,120]:Str))) (cond (p0==([100,111,109]:Str)) (some (p0==([100,111,109]:Str))) (cond (p0==([114,97,110]:Str)) (some (p0==([114,97,110]:Str))) (cond (p0==([80,79,87]:Str)) (some (p0==([80,79,87]:Str))) (cond (p0==([105,110,116]:Str)) (some (p0==([105,110,116]:Str))) (cond (p0==([98,111,111,108]:Str)) (some (p0==([98,111,111,108]:Str))) (cond (p0==([115,101,116]:Str)) (some (p0==([115,101,116]:Str))) (some (p0==([112,97,105,114]:Str))))))))))))))))))))))):Option Bool).bind fun s1=>(cond s1 (some true) (some false)))
def Fx(n:Nat)(p0:Int):Option Bool:=(((cond (decide (48≤p0)) (some (decide (p0≤57))) (some false)):Option Bool).bind fun s1=>some s1)
def Ck(n:Nat)(p0:Int):Option Bool:=((((xP n p0).bind fun x1=>(cond x1 (some true) ((Fx n p0).bind fun x2=>(cond x2 (some true) (some (p0==95)))))):Option Bool).bind fun s1=>some s1)
def Pf(n:Nat)(p0:Str)(rec:F0t)(s2:Int):Option (LR Unit Bool):=(cond (decide (s2<(p0.length:Int))) ((xB p0 s2).bind fun x1=>((Ck n x1).bind fun x2=>(cond (!x2) (some (.rt false)) (rec (s2+1))))) (some (.nx ())))
def vw(n:Nat)(p0:Str)(k:Nat):Int→Option (LR Unit Bool):=aV (Pf n p0) k
def dO(n:Nat)(p0:Str):Option Bool:=(((cond (p0==([]:Str)) (some true) (cond (decide (16<(p0.length:Int))) (some true) ((xB p0 0).bind fun x3=>((xP n x3).bind fun x4=>(cond (!x4) (some true) ((zV n p0).bind fun x5=>some x5)))))):Option Bool).bind fun s1=>(cond s1 (some false) ((vw n p0 n 0).bind (LR.el (fun s3=>some true) (fun r=>some r)))))
def jV(n:Nat)(p0:Str)(p1:Str):Option Bool:=(((cond (decide ((p1.length:Int)≤(p0.length:Int))) ((nR p0 (IntKind.wrap .i64 ((p0.length:Int) - (p1.length:Int))) (p0.length:Int)).bind fun x1=>some (x1==p1)) (some false)):Option Bool).bind fun s1=>some s1)
def jB(n:Nat)(p0:Str)(p1:Str):Option Str:=((jV n p0 p1).bind fun x1=>(cond x1 ((nR p0 0 (IntKind.wrap .i64 ((p0.length:Int) - (p1.length:Int)))).bind fun x2=>some x2) (some p0)))
def strings_TrimSuffix(n:Nat)(p0:Str)(p1:Str):Option Str:=((jB n p0 p1).bind fun x1=>some x1)
def oz(n:Nat)(p0:Str):Option Bool:=((strings_TrimSuffix n p0 ([39]:Str)).bind fun x1=>((dO n x1).bind fun x2=>some x2))
def iI(n:Nat)(p0:Int)(p1:Int)(p2:Int)(p3:Int):Option (Bool×Int):=(((cond (decide ((IntKind.wrap .i64 (p0+1))≤p1)) (some (decide (p3≤p2))) (some false)):Option Bool).bind fun s1=>some (s1,(IntKind.wrap .i64 (p0+1))))
def Fz(n:Nat)(qaw:F5t)(qar:F6t)(qa0:F7t)(qa1:F8t)(p0:List Ty)(p2:Int)(p3:Int)(p4:Int)(rec:F27t)(s1:Int×Int):Option (LR Int (Int×Int)):=(cond (decide (s1.1<(p0.length:Int))) ((idx p0 s1.1).bind fun x1=>((qa1 x1 s1.2 p2 p3 p4).bind fun x2=>(cond x2.1 (some (.rt (s1.1,x2.2))) (rec ((s1.1+1),x2.2))))) (some (.nx s1.2)))
def uO(n:Nat)(qaw:F5t)(qar:F6t)(qa0:F7t)(qa1:F8t)(p0:List Ty)(p2:Int)(p3:Int)(p4:Int)(k:Nat):(Int×Int)→Option (LR Int (Int×Int)):=aV (Fz n qaw qar qa0 qa1 p0 p2 p3 p4) k
def gJ(n:Nat)(qaw:F5t)(qar:F6t)(qa0:F7t)(qa1:F8t)(p0:List Ty)(p1:Int)(p2:Int)(p3:Int)(p4:Int):Option (Int×Int):=((uO n qaw qar qa0 qa1 p0 p2 p3 p4 n (0,p1)).bind (LR.el (fun s2=>some ((-1),s2)) (fun r=>some r)))
def kC(n:Nat)(qaw:F5t)(qar:F6t)(qa0:F7t)(qa1:F8t)(p0:List Ty)(p1:Int)(p2:Int)(p3:Int)(p4:Int):Option (Bool×Int):=((qaw p0 p1 p2 p3 p4).bind fun x1=>some ((decide (0≤x1.1)),x1.2))
def lU(n:Nat)(qaw:F5t)(qar:F6t)(qa0:F7t)(qa1:F8t)(p0:Int)(p1:Int)(p2:Int)(p3:Ty)(p4:Int)(p5:Bool):Option (Bool×Int):=((iI n p0 p1 p2 p4).bind fun x1=>(cond (!x1.1) (some (false,x1.2)) (((cond (p3.kind==1) (some (.nx 0)) (cond (p3.kind==2) (cond p5 (some (.rt (false,x1.2))) (some (.nx 0))) (cond (p3.kind==3) ((dO n p3.name).bind fun x3=>(cond (!x3) (some (.rt (false,x1.2))) (some (.nx 0)))) (cond (p3.kind==4) (some (.nx 2)) (cond (p3.kind==5) (some (.nx 1)) (some (.rt (false,x1.2)))))))):Option (LR Int (Bool×Int))).bind (LR.el (fun s1=>(((cond ((p3.kids.length:Int)!=s1) (some true) (cond (p3.kind !=3) (some (!(p3.name==([]:Str)))) (some false))):Option Bool).bind fun s2=>(cond s2 (some (false,x1.2)) ((qar p3.kids x1.2 p1 p2 p4).bind fun x2=>some ((!x2.1),x2.2))))) (fun r=>some r)))))
def kF(n:Nat)(qaw:F5t)(qar:F6t)(qa0:F7t)(qa1:F8t)(p0:Ty)(p1:Int)(p2:Int)(p3:Int)(p4:Int):Option (Bool×Int):=((qa0 p1 p2 p3 p0 (IntKind.wrap .i64 (p4+1)) true).bind fun x1=>some ((!x1.1),x1.2))
mutual
def iy:Nat→(List Ty)→Int→Int→Int→Int→Option (Int×Int)
 |0,_,_,_,_,_=>none
 |n+1,p0,p1,p2,p3,p4=>gJ n (iy n) (cO n) (eG n) (dB n) p0 p1 p2 p3 p4
def cO:Nat→(List Ty)→Int→Int→Int→Int→Option (Bool×Int)
 |0,_,_,_,_,_=>none
 |n+1,p0,p1,p2,p3,p4=>kC n (iy n) (cO n) (eG n) (dB n) p0 p1 p2 p3 p4
def eG:Nat→Int→Int→Int→Ty→Int→Bool→Option (Bool×Int)
 |0,_,_,_,_,_,_=>none
 |n+1,p0,p1,p2,p3,p4,p5=>lU n (iy n) (cO n) (eG n) (dB n) p0 p1 p2 p3 p4 p5
def dB:Nat→Ty→Int→Int→Int→Int→Option (Bool×Int)
 |0,_,_,_,_,_=>none
 |n+1,p0,p1,p2,p3,p4=>kF n (iy n) (cO n) (eG n) (dB n) p0 p1 p2 p3 p4
end
def jw(n:Nat)(p0:Ty):Option Bool:=((eG n 0 16 6 p0 1 false).bind fun x1=>some x1.1)
def Cy(n:Nat)(qax:F9t)(qas:F10t)(qa7:F2t)(qa8:F2t)(p0:List Ty)(p1:Int)(rec:F1t)(s1:Int):Option (LR Unit Int):=(cond (decide (s1<(p0.length:Int))) ((idx p0 s1).bind fun x1=>((qa8 x1 p1).bind fun x2=>(cond x2 (some (.rt s1)) (rec (s1+1))))) (some (.nx ())))
def sD(n:Nat)(qax:F9t)(qas:F10t)(qa7:F2t)(qa8:F2t)(p0:List Ty)(p1:Int)(k:Nat):Int→Option (LR Unit Int):=aV (Cy n qax qas qa7 qa8 p0 p1) k
def kG(n:Nat)(qax:F9t)(qas:F10t)(qa7:F2t)(qa8:F2t)(p0:List Ty)(p1:Int):Option Int:=((sD n qax qas qa7 qa8 p0 p1 n 0).bind (LR.el (fun s2=>some (-1)) (fun r=>some r)))
def jC(n:Nat)(qax:F9t)(qas:F10t)(qa7:F2t)(qa8:F2t)(p0:List Ty)(p1:Int):Option Bool:=((qax p0 p1).bind fun x1=>some (decide (0≤x1)))
def rO(n:Nat)(qax:F9t)(qas:F10t)(qa7:F2t)(qa8:F2t)(p0:Ty)(p1:Int):Option Bool:=(((cond (p0.kind==p1) (some true) ((qas p0.kids p1).bind fun x1=>some x1)):Option Bool).bind fun s1=>some s1)
def oV(n:Nat)(qax:F9t)(qas:F10t)(qa7:F2t)(qa8:F2t)(p0:Ty)(p1:Int):Option Bool:=((qa7 p0 p1).bind fun x1=>some x1)
mutual
def iQ:Nat→(List Ty)→Int→Option Int
 |0,_,_=>none
 |n+1,p0,p1=>kG n (iQ n) (eU n) (jK n) (iT n) p0 p1
def eU:Nat→(List Ty)→Int→Option Bool
 |0,_,_=>none
 |n+1,p0,p1=>jC n (iQ n) (eU n) (jK n) (iT n) p0 p1
def jK:Nat→Ty→Int→Option Bool
 |0,_,_=>none
 |n+1,p0,p1=>rO n (iQ n) (eU n) (jK n) (iT n) p0 p1
def iT:Nat→Ty→Int→Option Bool
 |0,_,_=>none
 |n+1,p0,p1=>oV n (iQ n) (eU n) (jK n) (iT n) p0 p1
end
def pV(n:Nat)(p0:Ty):Option Bool:=((((jw n p0).bind fun x1=>(cond x1 ((jK n p0 2).bind fun x2=>some (!x2)) (some false))):Option Bool).bind fun s1=>some s1)
def QK(n:Nat)(qa6:F19t)(p0:Ty)(rec:(Int×(List (Str×Bool)))→Option (LR (List (Str×Bool)) (List (Str×Bool))))(s2:Int×(List (Str×Bool))):Option (LR (List (Str×Bool)) (List (Str×Bool))):=(cond (decide (s2.1<(p0.kids.length:Int))) ((idx p0.kids s2.1).bind fun x1=>((qa6 x1 s2.2).bind fun x2=>rec ((s2.1+1),x2))) (some (.nx s2.2)))
def xw(n:Nat)(qa6:F19t)(p0:Ty)(k:Nat):(Int×(List (Str×Bool)))→Option (LR (List (Str×Bool)) (List (Str×Bool))):=aV (QK n qa6 p0) k
def uf(n:Nat)(qa6:F19t)(p0:Ty)(p1:List (Str×Bool)):Option (List (Str×Bool)):=(((cond (p0.kind==3) ((qZ p1 p0.name true).bind fun x3=>some x3) (some p1)):Option (List (Str×Bool))).bind fun s1=>((xw n qa6 p0 n (0,s1)).bind (LR.el (fun s3=>some s3) (fun r=>some r))))
def kH:Nat→Ty→(List (Str×Bool))→Option (List (Str×Bool))
 |0,_,_=>none
 |n+1,p0,p1=>uf n (kH n) p0 p1
def uL(n:Nat)(p0:Ty):Option (List Str):=((jw n p0).bind fun x1=>(cond (!x1) (some ([]:List Str)) ((kH n p0 ([]:List (Str×Bool))).bind fun x2=>((jY n x2).bind fun x3=>some x3))))
def O7(n:Nat)(p0:Carrier)(p1:Str):Option Bool:=some (p0.name==p1)
def BO(n:Nat)(p0:List Carrier)(p1:Str)(rec:F1t)(s1:Int):Option (LR Unit Int):=(cond (decide (s1<(p0.length:Int))) ((idx p0 s1).bind fun x1=>(cond (x1.name==p1) (some (.rt s1)) (rec (s1+1)))) (some (.nx ())))
def qK(n:Nat)(p0:List Carrier)(p1:Str)(k:Nat):Int→Option (LR Unit Int):=aV (BO n p0 p1) k
def uR(n:Nat)(p0:List Carrier)(p1:Str):Option Int:=((qK n p0 p1 n 0).bind (LR.el (fun s2=>some (-1)) (fun r=>some r)))
def qO(n:Nat)(p0:List Carrier)(p1:Str):Option Bool:=((uR n p0 p1).bind fun x1=>some (decide (0≤x1)))
def wZ(n:Nat)(p0:Env)(p1:Str):Option Bool:=((qO n p0.carriers p1).bind fun x1=>some x1)
def wY(n:Nat)(p0:Str)(p1:List Carrier)(p2:List Decl):Option Bool:=((wZ n (Env.mk p1 p2) p0).bind fun x1=>some (!x1))
def Db(n:Nat)(p0:List Str)(p1:List Carrier)(p2:List Decl)(rec:F1t)(s1:Int):Option (LR Unit Int):=(cond (decide (s1<(p0.length:Int))) ((idx p0 s1).bind fun x1=>((wY n x1 p1 p2).bind fun x2=>(cond x2 (some (.rt s1)) (rec (s1+1))))) (some (.nx ())))
def sQ(n:Nat)(p0:List Str)(p1:List Carrier)(p2:List Decl)(k:Nat):Int→Option (LR Unit Int):=aV (Db n p0 p1 p2) k
def wJ(n:Nat)(p0:List Str)(p1:List Carrier)(p2:List Decl):Option Int:=((sQ n p0 p1 p2 n 0).bind (LR.el (fun s2=>some (-1)) (fun r=>some r)))
def sM(n:Nat)(p0:List Str)(p1:List Carrier)(p2:List Decl):Option Bool:=((wJ n p0 p1 p2).bind fun x1=>some (decide (0≤x1)))
def uw(n:Nat)(p0:Env)(p1:Ty):Option Bool:=((uL n p1).bind fun x1=>((sM n x1 p0.carriers p0.names).bind fun x2=>some (!x2)))
def OM(n:Nat)(p0:Env)(rec:F11t)(s1:(List Str)×Int):Option (LR (List Str) (List Str)):=(cond (decide (s1.2<(p0.carriers.length:Int))) ((idx p0.carriers s1.2).bind fun x3=>((app 16 s1.1 ([x3.name])).bind fun x4=>((app 16 x4 x3.elems).bind fun x5=>rec (x5,(s1.2+1))))) (some (.nx s1.1)))
def Dn(n:Nat)(p0:Env)(k:Nat):((List Str)×Int)→Option (LR (List Str) (List Str)):=aV (OM n p0) k
def Pj(n:Nat)(p0:Env)(rec:F11t)(s3:(List Str)×Int):Option (LR (List Str) (List Str)):=(cond (decide (s3.2<(p0.names.length:Int))) ((idx p0.names s3.2).bind fun x1=>((app 16 s3.1 ([x1.name])).bind fun x2=>rec (x2,(s3.2+1)))) (some (.nx s3.1)))
def CJ(n:Nat)(p0:Env)(k:Nat):((List Str)×Int)→Option (LR (List Str) (List Str)):=aV (Pj n p0) k
def uj(n:Nat)(p0:Env):Option (List Str):=((Dn n p0 n (([]:List Str),0)).bind (LR.el (fun s2=>((CJ n p0 n (s2,0)).bind (LR.el (fun s4=>some s4) (fun r=>some r)))) (fun r=>some r)))
def Po(n:Nat)(p0:List Str)(rec:(Int×(List (Str×Bool)))→Option (LR Unit Bool))(s1:Int×(List (Str×Bool))):Option (LR Unit Bool):=(cond (decide (s1.1<(p0.length:Int))) ((idx p0 s1.1).bind fun x1=>(((Ux (dI s1.2 x1) (some false) (fun x3=>some x3)):Option Bool).bind fun s3=>(cond s3 (some (.rt false)) ((qZ s1.2 x1 true).bind fun x2=>rec ((s1.1+1),x2))))) (some (.nx ())))
def Da(n:Nat)(p0:List Str)(k:Nat):(Int×(List (Str×Bool)))→Option (LR Unit Bool):=aV (Po n p0) k
def uo(n:Nat)(p0:List Str):Option Bool:=((Da n p0 n (0,([]:List (Str×Bool)))).bind (LR.el (fun s2=>some true) (fun r=>some r)))
def O9(n:Nat)(x7:Carrier)(rec:F0t)(s8:Int):Option (LR Unit Bool):=(cond (decide (s8<(x7.elems.length:Int))) ((idx x7.elems s8).bind fun x8=>((dO n x8).bind fun x9=>(cond (!x9) (some (.rt false)) (rec (s8+1))))) (some (.nx ())))
def ow(n:Nat)(x7:Carrier)(k:Nat):Int→Option (LR Unit Bool):=aV (O9 n x7) k
def OL(n:Nat)(p0:Env)(rec:F0t)(s2:Int):Option (LR Unit Bool):=(cond (decide (s2<(p0.carriers.length:Int))) ((idx p0.carriers s2).bind fun x7=>((((dO n x7.name).bind fun x10=>(cond (!x10) (some true) (some (decide (8<(x7.elems.length:Int)))))):Option Bool).bind fun s7=>(cond s7 (some (.rt false)) ((ow n x7 n 0).bind (LR.el (fun s9=>rec (s2+1)) (fun r=>some (.rt r))))))) (some (.nx ())))
def CX(n:Nat)(p0:Env)(k:Nat):Int→Option (LR Unit Bool):=aV (OL n p0) k
def OQ(n:Nat)(p0:Env)(rec:F0t)(s4:Int):Option (LR Unit Bool):=(cond (decide (s4<(p0.names.length:Int))) ((idx p0.names s4).bind fun x3=>((((oz n x3.name).bind fun x4=>(cond (!x4) (some true) ((pV n x3.ty).bind fun x5=>(cond (!x5) (some true) ((uw n p0 x3.ty).bind fun x6=>some (!x6)))))):Option Bool).bind fun s6=>(cond s6 (some (.rt false)) (rec (s4+1))))) (some (.nx ())))
def Dx(n:Nat)(p0:Env)(k:Nat):Int→Option (LR Unit Bool):=aV (OQ n p0) k
def oH(n:Nat)(p0:Env):Option Bool:=(((cond (decide (8<(p0.carriers.length:Int))) (some true) (some (decide (64<(p0.names.length:Int))))):Option Bool).bind fun s1=>(cond s1 (some false) ((CX n p0 n 0).bind (LR.el (fun s3=>((Dx n p0 n 0).bind (LR.el (fun s5=>((uj n p0).bind fun x1=>((uo n x1).bind fun x2=>some x2))) (fun r=>some r)))) (fun r=>some r)))))
def IV(n:Nat)(p0:Int):Option (Int×Bool):=(((cond (p0==1) (some (p0==1)) (cond (p0==2) (some (p0==2)) (cond (p0==19) (some (p0==19)) (cond (p0==20) (some (p0==20)) (some (p0==29)))))):Option Bool).bind fun s1=>(cond s1 (some (0,true)) (((cond (p0==3) (some (p0==3)) (cond (p0==21) (some (p0==21)) (((cond (decide (46≤p0)) (some (decide (p0≤51))) (some false)):Option Bool).bind fun s4=>(cond s4 (some s4) (some (p0==52)))))):Option Bool).bind fun s2=>(cond s2 (some (1,true)) (cond (p0==28) (some ((-1),true)) (((cond (decide (1≤p0)) (some (decide (p0≤56))) (some false)):Option Bool).bind fun s3=>(cond s3 (some (2,true)) (some (0,false)))))))))
def MN(n:Nat)(p0:Str):Option Bool:=((strings_TrimSuffix n p0 ([39]:Str)).bind fun x1=>((dO n x1).bind fun x2=>some x2))
def pz(n:Nat)(p0:Int):Option Bool:=(((cond (p0==8) (some true) (cond (p0==9) (some true) (cond (p0==55) (some true) (some (p0==56))))):Option Bool).bind fun s1=>some s1)
def xW(n:Nat)(p0:Ty):Option Bool:=(((cond (p0.kind==0) (cond (p0.name==([]:Str)) (some ((p0.kids.length:Int)==0)) (some false)) (some false)):Option Bool).bind fun s1=>some s1)
def Cj(n:Nat)(p0:Tm):Option Bool:=((IV n p0.op).bind fun x1=>(((((cond (!x1.2) (some (!x1.2)) (((cond (x1.1==(-1)) (some ((p0.kids.length:Int)==0)) (some false)):Option Bool).bind fun s6=>(cond s6 (some s6) (cond (x1.1 !=(-1)) (some ((p0.kids.length:Int)!=x1.1)) (some false))))):Option Bool).bind fun s5=>(cond s5 (some (.rt false)) (cond (p0.op==20) ((MN n p0.name).bind fun x4=>some (.nx x4)) ((pz n p0.op).bind fun x5=>(cond x5 ((dO n p0.name).bind fun x6=>some (.nx x6)) (some (.nx (p0.name==([]:Str))))))))):Option (LR Bool Bool)).bind (LR.el (fun s1=>(((cond (p0.op==19) (cond s1 (cond (decide (0≤p0.n)) (some (decide (p0.n≤1000000000))) (some false)) (some false)) (cond s1 (some (p0.n==0)) (some false))):Option Bool).bind fun s2=>(cond (p0.op==29) (((cond s2 (cond (p0.ty.kind !=2) ((jw n p0.ty).bind fun x2=>some x2) (some false)) (some false)):Option Bool).bind fun s3=>some s3) (((cond s2 ((xW n p0.ty).bind fun x3=>some x3) (some false)):Option Bool).bind fun s4=>some s4)))) (fun r=>some r))))
def Dq(n:Nat)(qav:F12t)(qaq:F13t)(qay:F14t)(qaz:F15t)(p0:List Tm)(p2:Int)(p3:Int)(p4:Int)(rec:F27t)(s1:Int×Int):Option (LR Int (Int×Int)):=(cond (decide (s1.1<(p0.length:Int))) ((idx p0 s1.1).bind fun x1=>((qaz x1 s1.2 p2 p3 p4).bind fun x2=>(cond x2.1 (some (.rt (s1.1,x2.2))) (rec ((s1.1+1),x2.2))))) (some (.nx s1.2)))
def sO(n:Nat)(qav:F12t)(qaq:F13t)(qay:F14t)(qaz:F15t)(p0:List Tm)(p2:Int)(p3:Int)(p4:Int)(k:Nat):(Int×Int)→Option (LR Int (Int×Int)):=aV (Dq n qav qaq qay qaz p0 p2 p3 p4) k
def fP(n:Nat)(qav:F12t)(qaq:F13t)(qay:F14t)(qaz:F15t)(p0:List Tm)(p1:Int)(p2:Int)(p3:Int)(p4:Int):Option (Int×Int):=((sO n qav qaq qay qaz p0 p2 p3 p4 n (0,p1)).bind (LR.el (fun s2=>some ((-1),s2)) (fun r=>some r)))
def nM(n:Nat)(qav:F12t)(qaq:F13t)(qay:F14t)(qaz:F15t)(p0:List Tm)(p1:Int)(p2:Int)(p3:Int)(p4:Int):Option (Bool×Int):=((qav p0 p1 p2 p3 p4).bind fun x1=>some ((decide (0≤x1.1)),x1.2))
def pG(n:Nat)(qav:F12t)(qaq:F13t)(qay:F14t)(qaz:F15t)(p0:Int)(p1:Int)(p2:Int)(p3:Tm)(p4:Int):Option (Bool×Int):=((((iI n p0 p1 p2 p4).bind fun x2=>(cond (!x2.1) (some (true,x2.2)) ((Cj n p3).bind fun x3=>some ((!x3),x2.2)))):Option (Bool×Int)).bind fun s1=>(cond s1.1 (some (false,s1.2)) ((qaq p3.kids s1.2 p1 p2 p4).bind fun x1=>some ((!x1.1),x1.2))))
def mZ(n:Nat)(qav:F12t)(qaq:F13t)(qay:F14t)(qaz:F15t)(p0:Tm)(p1:Int)(p2:Int)(p3:Int)(p4:Int):Option (Bool×Int):=((qay p1 p2 p3 p0 (IntKind.wrap .i64 (p4+1))).bind fun x1=>some ((!x1.1),x1.2))
mutual
def gB:Nat→(List Tm)→Int→Int→Int→Int→Option (Int×Int)
 |0,_,_,_,_,_=>none
 |n+1,p0,p1,p2,p3,p4=>fP n (gB n) (dQ n) (gX n) (eF n) p0 p1 p2 p3 p4
def dQ:Nat→(List Tm)→Int→Int→Int→Int→Option (Bool×Int)
 |0,_,_,_,_,_=>none
 |n+1,p0,p1,p2,p3,p4=>nM n (gB n) (dQ n) (gX n) (eF n) p0 p1 p2 p3 p4
def gX:Nat→Int→Int→Int→Tm→Int→Option (Bool×Int)
 |0,_,_,_,_,_=>none
 |n+1,p0,p1,p2,p3,p4=>pG n (gB n) (dQ n) (gX n) (eF n) p0 p1 p2 p3 p4
def eF:Nat→Tm→Int→Int→Int→Int→Option (Bool×Int)
 |0,_,_,_,_,_=>none
 |n+1,p0,p1,p2,p3,p4=>mZ n (gB n) (dQ n) (gX n) (eF n) p0 p1 p2 p3 p4
end
def Ah(n:Nat)(p0:Tm):Option Bool:=((gX n 0 2000 64 p0 1).bind fun x1=>some x1.1)
def AX(n:Nat)(p0:Tm):Option Bool:=((Ah n p0).bind fun x1=>some (!x1))
def EY(n:Nat)(p0:List Tm)(rec:F1t)(s1:Int):Option (LR Unit Int):=(cond (decide (s1<(p0.length:Int))) ((idx p0 s1).bind fun x1=>((AX n x1).bind fun x2=>(cond x2 (some (.rt s1)) (rec (s1+1))))) (some (.nx ())))
def vF(n:Nat)(p0:List Tm)(k:Nat):Int→Option (LR Unit Int):=aV (EY n p0) k
def yP(n:Nat)(p0:List Tm):Option Int:=((vF n p0 n 0).bind (LR.el (fun s2=>some (-1)) (fun r=>some r)))
def vI(n:Nat)(p0:List Tm):Option Bool:=((yP n p0).bind fun x1=>some (decide (0≤x1)))
def ac0(n:Nat)(p0:Ty):Option Ty:=some (Ty.mk 5 ([]:Str) ([p0]))
def UJ(n:Nat)(x3:Carrier)(rec:F20t)(s5:Int×(List (Str×Ty))):Option (LR (List (Str×Ty)) (List (Str×Ty))):=(cond (decide (s5.1<(x3.elems.length:Int))) ((idx x3.elems s5.1).bind fun x5=>((qZ s5.2 x5 (Ty.mk 3 x3.name ([]))).bind fun x6=>rec ((s5.1+1),x6))) (some (.nx s5.2)))
def oq(n:Nat)(x3:Carrier)(k:Nat):(Int×(List (Str×Ty)))→Option (LR (List (Str×Ty)) (List (Str×Ty))):=aV (UJ n x3) k
def UF(n:Nat)(p0:Env)(rec:F20t)(s1:Int×(List (Str×Ty))):Option (LR (List (Str×Ty)) (List (Str×Ty))):=(cond (decide (s1.1<(p0.carriers.length:Int))) ((idx p0.carriers s1.1).bind fun x3=>((qZ s1.2 x3.name (Ty.mk 5 ([]:Str) ([(Ty.mk 3 x3.name ([]))]))).bind fun x4=>((oq n x3 n (0,x4)).bind (LR.el (fun s6=>rec ((s1.1+1),s6)) (fun r=>some (.rt r)))))) (some (.nx s1.2)))
def JD(n:Nat)(p0:Env)(k:Nat):(Int×(List (Str×Ty)))→Option (LR (List (Str×Ty)) (List (Str×Ty))):=aV (UF n p0) k
def UE(n:Nat)(p0:Env)(rec:F20t)(s3:Int×(List (Str×Ty))):Option (LR (List (Str×Ty)) (List (Str×Ty))):=(cond (decide (s3.1<(p0.names.length:Int))) ((idx p0.names s3.1).bind fun x1=>((qZ s3.2 x1.name x1.ty).bind fun x2=>rec ((s3.1+1),x2))) (some (.nx s3.2)))
def JJ(n:Nat)(p0:Env)(k:Nat):(Int×(List (Str×Ty)))→Option (LR (List (Str×Ty)) (List (Str×Ty))):=aV (UE n p0) k
def zK(n:Nat)(p0:Env):Option (List (Str×Ty)):=((JD n p0 n (0,([]:List (Str×Ty)))).bind (LR.el (fun s2=>((JJ n p0 n (0,s2)).bind (LR.el (fun s4=>some s4) (fun r=>some r)))) (fun r=>some r)))
def aeC(n:Nat):Option Ty:=some (Ty.mk 2 ([]:Str) ([]))
def afK(n:Nat)(p0:Int)(p1:Ty):Option Unit:=some ()
def aaf(n:Nat):Option Ty:=some (Ty.mk 1 ([]:Str) ([]))
def ahE(n:Nat):Option Unit:=some ()
def Tc(n:Nat):Option Unit:=some ()
def acu(n:Nat):Option Unit:=some ()
def Xt(n:Nat)(p0:Ty):Option Unit:=some ()
def ae7(n:Nat):Option Unit:=some ()
def abg(n:Nat):Option Unit:=some ()
def afe(n:Nat):Option Unit:=some ()
def abm(n:Nat):Option Unit:=some ()
def adu(n:Nat):Option Unit:=some ()
def Pp(n:Nat):Option Unit:=some ()
def O8(n:Nat):Option Unit:=some ()
def ZO(n:Nat):Option Unit:=some ()
def Zc(n:Nat):Option Unit:=some ()
def Ph(n:Nat):Option Unit:=some ()
def OI(n:Nat):Option Unit:=some ()
def OJ(n:Nat):Option Unit:=some ()
def OO(n:Nat):Option Unit:=some ()
def OP(n:Nat):Option Unit:=some ()
def ae1(n:Nat):Option Unit:=some ()
def K8(n:Nat)(p0:Env)(rec:(Int×(List (Str×Bool)))→Option (LR (List (Str×Bool)) ((List (Str×Ty))×(List (Str×Bool)))))(s1:Int×(List (Str×Bool))):Option (LR (List (Str×Bool)) ((List (Str×Ty))×(List (Str×Bool)))):=(cond (decide (s1.1<(p0.carriers.length:Int))) ((idx p0.carriers s1.1).bind fun x2=>((qZ s1.2 x2.name true).bind fun x3=>rec ((s1.1+1),x3))) (some (.nx s1.2)))
def Ad(n:Nat)(p0:Env)(k:Nat):(Int×(List (Str×Bool)))→Option (LR (List (Str×Bool)) ((List (Str×Ty))×(List (Str×Bool)))):=aV (K8 n p0) k
def xk(n:Nat)(p0:Env):Option ((List (Str×Ty))×(List (Str×Bool))):=((zK n p0).bind fun x1=>((Ad n p0 n (0,([]:List (Str×Bool)))).bind (LR.el (fun s2=>some (x1,s2)) (fun r=>some r))))
def sS(n:Nat)(p0:Int):Option Bool:=(((cond (p0==8) (some true) (cond (p0==9) (some true) (cond (p0==55) (some true) (some (p0==56))))):Option Bool).bind fun s1=>some s1)
def bI(n:Nat)(p0:Ty):Option (Ty×Bool):=(cond (p0.kind !=5) (some ((Ty.mk 0 ([]:Str) ([])),false)) ((idx p0.kids 0).bind fun x1=>some (x1,true)))
def Iy(n:Nat)(p1:Str)(rec:(List Decl)→Option (LR Unit (Ty×Bool)))(s1:List Decl):Option (LR Unit (Ty×Bool)):=(cond (true !=List.isEmpty s1) ((unc s1).bind fun x1=>(cond (x1.1.name==p1) ((unc s1).bind fun x2=>some (.rt (x2.1.ty,true))) ((unc s1).bind fun x3=>rec x3.2))) (some (.nx ())))
def kU(n:Nat)(p1:Str)(k:Nat):(List Decl)→Option (LR Unit (Ty×Bool)):=aV (Iy n p1) k
def nL(n:Nat)(p0:List Decl)(p1:Str):Option (Ty×Bool):=((kU n p1 n p0).bind (LR.el (fun s2=>some ((Ty.mk 0 ([]:Str) ([])),false)) (fun r=>some r)))
def kV(n:Nat)(p0:Str)(p1:List (Str×Ty))(p2:List (Str×Bool))(p3:List Int):Option Bool:=(((Ux (dI p2 p0) (some true) (fun x1=>some (!x1))):Option Bool).bind fun s1=>some s1)
def zO(n:Nat)(p0:List Str)(p1:List (Str×Ty))(p2:List (Str×Bool))(p3:List Int)(rec:F1t)(s1:Int):Option (LR Unit Int):=(cond (decide (s1<(p0.length:Int))) ((idx p0 s1).bind fun x1=>((kV n x1 p1 p2 p3).bind fun x2=>(cond x2 (some (.rt s1)) (rec (s1+1))))) (some (.nx ())))
def pK(n:Nat)(p0:List Str)(p1:List (Str×Ty))(p2:List (Str×Bool))(p3:List Int)(k:Nat):Int→Option (LR Unit Int):=aV (zO n p0 p1 p2 p3) k
def sI(n:Nat)(p0:List Str)(p1:List (Str×Ty))(p2:List (Str×Bool))(p3:List Int):Option Int:=((pK n p0 p1 p2 p3 n 0).bind (LR.el (fun s2=>some (-1)) (fun r=>some r)))
def pJ(n:Nat)(p0:List Str)(p1:List (Str×Ty))(p2:List (Str×Bool))(p3:List Int):Option Bool:=((sI n p0 p1 p2 p3).bind fun x1=>some (decide (0≤x1)))
def mK(n:Nat)(p0:List (Str×Ty))(p1:List (Str×Bool))(p2:List Int)(p3:Ty):Option Bool:=((uL n p3).bind fun x1=>((pJ n x1 p0 p1 p2).bind fun x2=>some (!x2)))
def mU(n:Nat)(p0:Ty):Option (Ty×Int):=((jw n p0).bind fun x1=>(cond (!x1) (some ((Ty.mk 0 ([]:Str) ([])),5)) (some (p0,0))))
def SF(n:Nat)(p0:List Ty)(p1:Int)(p2:Str)(p3:List Ty):Option (Ty×Bool):=some ((Ty.mk p1 p2 p3),true)
def Yq(n:Nat)(p0:Ty)(p1:Int):Option Bool:=some (p0.kind !=p1)
def CV(n:Nat)(p0:List Ty)(p1:Int)(rec:F1t)(s1:Int):Option (LR Unit Int):=(cond (decide (s1<(p0.length:Int))) ((idx p0 s1).bind fun x1=>(cond (x1.kind !=p1) (some (.rt s1)) (rec (s1+1)))) (some (.nx ())))
def rX(n:Nat)(p0:List Ty)(p1:Int)(k:Nat):Int→Option (LR Unit Int):=aV (CV n p0 p1) k
def wF(n:Nat)(p0:List Ty)(p1:Int):Option Int:=((rX n p0 p1 n 0).bind (LR.el (fun s2=>some (-1)) (fun r=>some r)))
def sG(n:Nat)(p0:List Ty)(p1:Int):Option Bool:=((wF n p0 p1).bind fun x1=>some (decide (0≤x1)))
def aP(n:Nat)(p0:List Ty)(p1:Int)(p2:Str)(p3:List Ty)(p4:Int):Option (Ty×Bool):=((sG n p0 p4).bind fun x1=>some ((Ty.mk p1 p2 p3),(!x1)))
def abF(n:Nat)(p0:Ty):Option Ty:=some (Ty.mk 2 ([]:Str) ([]))
def oM(n:Nat)(p0:List Ty):Option (Ty×Bool):=((idx p0 0).bind fun x1=>((idx p0 1).bind fun x2=>some ((Ty.mk 2 ([]:Str) ([])),(x2.kind==2))))
def FH(n:Nat)(qat:F4t)(qba:F3t)(p0:List Ty)(p1:List Ty)(rec:F0t)(s1:Int):Option (LR Unit Bool):=(cond (decide (s1<(p0.length:Int))) ((idx p0 s1).bind fun x1=>((idx p1 s1).bind fun x2=>((qba x1 x2).bind fun x3=>(cond (!x3) (some (.rt false)) (rec (s1+1)))))) (some (.nx ())))
def vJ(n:Nat)(qat:F4t)(qba:F3t)(p0:List Ty)(p1:List Ty)(k:Nat):Int→Option (LR Unit Bool):=aV (FH n qat qba p0 p1) k
def lT(n:Nat)(qat:F4t)(qba:F3t)(p0:List Ty)(p1:List Ty):Option Bool:=(cond ((p0.length:Int)!=(p1.length:Int)) (some false) ((vJ n qat qba p0 p1 n 0).bind (LR.el (fun s2=>some true) (fun r=>some r))))
def wV(n:Nat)(qat:F4t)(qba:F3t)(p0:Ty)(p1:Ty):Option Bool:=(((cond (p0.kind==p1.kind) (cond (p0.name==p1.name) ((qat p0.kids p1.kids).bind fun x1=>some x1) (some false)) (some false)):Option Bool).bind fun s1=>some s1)
mutual
def lM:Nat→(List Ty)→(List Ty)→Option Bool
 |0,_,_=>none
 |n+1,p0,p1=>lT n (lM n) (eZ n) p0 p1
def eZ:Nat→Ty→Ty→Option Bool
 |0,_,_=>none
 |n+1,p0,p1=>wV n (lM n) (eZ n) p0 p1
end
def wE(n:Nat)(p0:Ty)(p1:List Ty):Option Bool:=((idx p1 0).bind fun x1=>((eZ n p0 x1).bind fun x2=>some (!x2)))
def CQ(n:Nat)(p0:List Ty)(p1:List Ty)(rec:F1t)(s1:Int):Option (LR Unit Int):=(cond (decide (s1<(p0.length:Int))) ((idx p0 s1).bind fun x1=>((wE n x1 p1).bind fun x2=>(cond x2 (some (.rt s1)) (rec (s1+1))))) (some (.nx ())))
def tC(n:Nat)(p0:List Ty)(p1:List Ty)(k:Nat):Int→Option (LR Unit Int):=aV (CQ n p0 p1) k
def nV(n:Nat)(p0:List Ty)(p1:List Ty):Option Int:=((tC n p0 p1 n 0).bind (LR.el (fun s2=>some (-1)) (fun r=>some r)))
def lW(n:Nat)(p0:List Ty)(p1:List Ty):Option Bool:=((nV n p0 p1).bind fun x1=>some (decide (0≤x1)))
def jL(n:Nat)(p0:List Ty):Option Bool:=((((idx p0 0).bind fun x1=>(cond (x1.kind !=2) ((lW n p0 p0).bind fun x2=>some (!x2)) (some false))):Option Bool).bind fun s1=>some s1)
def tF(n:Nat)(p0:List Ty):Option (Ty×Bool):=((jL n p0).bind fun x1=>some ((Ty.mk 2 ([]:Str) ([])),x1))
def sW(n:Nat)(p0:List Ty):Option (Ty×Bool):=((idx p0 1).bind fun x1=>((bI n x1).bind fun x2=>(((cond x2.2 ((idx p0 0).bind fun x3=>((eZ n x3 x2.1).bind fun x4=>some x4)) (some false)):Option Bool).bind fun s1=>some ((Ty.mk 2 ([]:Str) ([])),s1))))
def zW(n:Nat)(p0:List Ty):Option (Ty×Bool):=((((idx p0 0).bind fun x1=>((idx p0 0).bind fun x2=>(cond (x2.kind==5) ((jL n p0).bind fun x3=>some x3) (some false)))):Option Bool).bind fun s1=>some ((Ty.mk 2 ([]:Str) ([])),s1))
def abj(n:Nat)(p0:Ty)(p1:Ty):Option Ty:=some (Ty.mk 4 ([]:Str) ([p0,p1]))
def D7(n:Nat)(p0:List Ty):Option (Ty×Bool):=((((idx p0 0).bind fun x1=>((idx p0 1).bind fun x2=>((idx p0 0).bind fun x3=>(cond (x3.kind !=2) ((idx p0 1).bind fun x4=>some ((x4.kind !=2),([x1,x2]))) (some (false,([x1,x2]))))))):Option (Bool×(List Ty))).bind fun s1=>some ((Ty.mk 4 ([]:Str) s1.2),s1.1))
def rY(n:Nat)(p0:List Ty):Option (Ty×Bool):=((idx p0 0).bind fun x1=>((jL n p0).bind fun x2=>some ((Ty.mk 5 ([]:Str) ([x1])),x2)))
def abw(n:Nat)(p0:Ty):Option Ty:=some p0
def jZ(n:Nat)(p0:List Ty):Option (Ty×Bool):=((((idx p0 0).bind fun x1=>((idx p0 0).bind fun x2=>(cond (x2.kind==5) ((jL n p0).bind fun x3=>some (x3,x1.kind,x1.name,x1.kids)) (some (false,x1.kind,x1.name,x1.kids))))):Option (Bool×Int×Str×(List Ty))).bind fun s1=>some ((Ty.mk s1.2.1 s1.2.2.1 s1.2.2.2),s1.1))
def XQ(n:Nat)(p0:Ty)(p1:Ty):Option Ty:=some (Ty.mk 5 ([]:Str) ([(Ty.mk 4 ([]:Str) ([p0,p1]))]))
def Bg(n:Nat)(p0:List Ty):Option (Ty×Bool):=((idx p0 0).bind fun x1=>((bI n x1).bind fun x2=>((idx p0 1).bind fun x3=>((bI n x3).bind fun x4=>(((cond (!x2.2) (some true) (some (!x4.2))):Option Bool).bind fun s1=>(cond s1 (some ((Ty.mk 0 ([]:Str) ([])),false)) (some ((Ty.mk 5 ([]:Str) ([(Ty.mk 4 ([]:Str) ([x2.1,x4.1]))])),true))))))))
def fM(n:Nat)(p0:Ty):Option (Ty×Ty×Bool):=((bI n p0).bind fun x1=>(((cond (!x1.2) (some true) (some (x1.1.kind !=4))):Option Bool).bind fun s1=>(cond s1 (some ((Ty.mk 0 ([]:Str) ([])),(Ty.mk 0 ([]:Str) ([])),false)) ((idx x1.1.kids 0).bind fun x2=>((idx x1.1.kids 1).bind fun x3=>some (x2,x3,true))))))
def OE(n:Nat)(p0:Ty)(p1:Ty)(p2:List Ty):Option (Ty×Bool):=((idx p2 0).bind fun x1=>((jL n p2).bind fun x2=>some (x1,x2)))
def qw(n:Nat)(p0:List Ty):Option (Ty×Bool):=((idx p0 0).bind fun x1=>((fM n x1).bind fun x2=>(cond (!x2.2.2) (some ((Ty.mk 0 ([]:Str) ([])),false)) ((OE n x2.1 x2.2.1 p0).bind fun x3=>some (x3.1,x3.2)))))
def Oy(n:Nat)(p0:Ty)(p1:Ty)(p2:List Ty):Option (Ty×Bool):=((idx p2 1).bind fun x1=>((fM n x1).bind fun x2=>(((cond x2.2.2 ((eZ n p1 x2.1).bind fun x3=>some (x3,([(Ty.mk 4 ([]:Str) ([p0,x2.2.1]))]))) (some (false,([(Ty.mk 4 ([]:Str) ([p0,x2.2.1]))])))):Option (Bool×(List Ty))).bind fun s1=>some ((Ty.mk 5 ([]:Str) s1.2),s1.1))))
def qD(n:Nat)(p0:List Ty):Option (Ty×Bool):=((idx p0 0).bind fun x1=>((fM n x1).bind fun x2=>(cond (!x2.2.2) (some ((Ty.mk 0 ([]:Str) ([])),false)) ((Oy n x2.1 x2.2.1 p0).bind fun x3=>some (x3.1,x3.2)))))
def sF(n:Nat)(p0:List Ty):Option (Ty×Bool):=((idx p0 0).bind fun x1=>((bI n x1).bind fun x2=>((idx p0 1).bind fun x3=>((fM n x3).bind fun x4=>((((idx p0 1).bind fun x5=>(cond x2.2 (cond x4.2.2 ((eZ n x2.1 x4.1).bind fun x6=>some (x6,x5.kind,x5.name,x5.kids)) (some (false,x5.kind,x5.name,x5.kids))) (some (false,x5.kind,x5.name,x5.kids)))):Option (Bool×Int×Str×(List Ty))).bind fun s1=>some ((Ty.mk s1.2.1 s1.2.2.1 s1.2.2.2),s1.1))))))
def Oo(n:Nat)(p0:Ty)(p1:Ty)(p2:List Ty):Option (Ty×Bool):=((idx p2 1).bind fun x1=>((bI n x1).bind fun x2=>((((idx p2 0).bind fun x3=>(cond x2.2 ((eZ n x2.1 p1).bind fun x4=>some (x4,x3.kind,x3.name,x3.kids)) (some (false,x3.kind,x3.name,x3.kids)))):Option (Bool×Int×Str×(List Ty))).bind fun s1=>some ((Ty.mk s1.2.1 s1.2.2.1 s1.2.2.2),s1.1))))
def jq(n:Nat)(p0:List Ty):Option (Ty×Bool):=((idx p0 0).bind fun x1=>((fM n x1).bind fun x2=>(cond (!x2.2.2) (some ((Ty.mk 0 ([]:Str) ([])),false)) ((Oo n x2.1 x2.2.1 p0).bind fun x3=>some (x3.1,x3.2)))))
def aby(n:Nat)(p0:Ty)(p1:Ty):Option Ty:=some (Ty.mk 5 ([]:Str) ([(Ty.mk 5 ([]:Str) ([(Ty.mk 4 ([]:Str) ([p0,p1]))]))]))
def fO(n:Nat)(p0:List Ty):Option (Ty×Bool):=((idx p0 0).bind fun x1=>((bI n x1).bind fun x2=>((idx p0 1).bind fun x3=>((bI n x3).bind fun x4=>(((cond (!x2.2) (some true) (some (!x4.2))):Option Bool).bind fun s1=>(cond s1 (some ((Ty.mk 0 ([]:Str) ([])),false)) (some ((Ty.mk 5 ([]:Str) ([(Ty.mk 5 ([]:Str) ([(Ty.mk 4 ([]:Str) ([x2.1,x4.1]))]))])),true))))))))
def ZT(n:Nat)(p0:Ty):Option (Ty×Bool):=some ((Ty.mk 5 ([]:Str) ([(Ty.mk 5 ([]:Str) ([p0]))])),true)
def yE(n:Nat)(p0:List Ty):Option (Ty×Bool):=((idx p0 0).bind fun x1=>((bI n x1).bind fun x2=>(cond (!x2.2) (some ((Ty.mk 0 ([]:Str) ([])),false)) (some ((((Ty.mk 5 ([]:Str) ([(Ty.mk 5 ([]:Str) ([x2.1]))])),true).1),((Ty.mk 5 ([]:Str) ([(Ty.mk 5 ([]:Str) ([x2.1]))])),true).2)))))
def Y8(n:Nat)(p0:Ty):Option (Ty×Bool):=some ((Ty.mk 1 ([]:Str) ([])),true)
def yH(n:Nat)(p0:List Ty):Option (Ty×Bool):=((idx p0 0).bind fun x1=>((bI n x1).bind fun x2=>(cond (!x2.2) (some ((Ty.mk 0 ([]:Str) ([])),false)) (some ((((Ty.mk 1 ([]:Str) ([])),true).1),((Ty.mk 1 ([]:Str) ([])),true).2)))))
def abe(n:Nat)(p0:Ty):Option (Ty×Bool):=some ((Ty.mk 1 ([]:Str) ([])),(p0.kind==1))
def mW(n:Nat)(p0:List Ty):Option (Ty×Bool):=((idx p0 0).bind fun x1=>((bI n x1).bind fun x2=>(cond (!x2.2) (some ((Ty.mk 0 ([]:Str) ([])),false)) (some ((((Ty.mk 1 ([]:Str) ([])),(x2.1.kind==1)).1),((Ty.mk 1 ([]:Str) ([])),(x2.1.kind==1)).2)))))
def Zo(n:Nat)(p0:Ty)(p1:Ty)(p2:List Ty):Option (Ty×Bool):=some ((Ty.mk 5 ([]:Str) ([p0])),true)
def qb(n:Nat)(p0:List Ty):Option (Ty×Bool):=((idx p0 0).bind fun x1=>((fM n x1).bind fun x2=>(cond (!x2.2.2) (some ((Ty.mk 0 ([]:Str) ([])),false)) (some ((((Ty.mk 5 ([]:Str) ([x2.1])),true).1),((Ty.mk 5 ([]:Str) ([x2.1])),true).2)))))
def Zz(n:Nat)(p0:Ty)(p1:Ty)(p2:List Ty):Option (Ty×Bool):=some ((Ty.mk 5 ([]:Str) ([p1])),true)
def pW(n:Nat)(p0:List Ty):Option (Ty×Bool):=((idx p0 0).bind fun x1=>((fM n x1).bind fun x2=>(cond (!x2.2.2) (some ((Ty.mk 0 ([]:Str) ([])),false)) (some ((((Ty.mk 5 ([]:Str) ([x2.2.1])),true).1),((Ty.mk 5 ([]:Str) ([x2.2.1])),true).2)))))
def ZV(n:Nat)(p0:Ty)(p1:Ty)(p2:List Ty):Option (Ty×Bool):=some ((Ty.mk 5 ([]:Str) ([(Ty.mk 4 ([]:Str) ([p1,p0]))])),true)
def qG(n:Nat)(p0:List Ty):Option (Ty×Bool):=((idx p0 0).bind fun x1=>((fM n x1).bind fun x2=>(cond (!x2.2.2) (some ((Ty.mk 0 ([]:Str) ([])),false)) (some ((((Ty.mk 5 ([]:Str) ([(Ty.mk 4 ([]:Str) ([x2.2.1,x2.1]))])),true).1),((Ty.mk 5 ([]:Str) ([(Ty.mk 4 ([]:Str) ([x2.2.1,x2.1]))])),true).2)))))
def Mq(n:Nat)(p0:Ty)(p1:Ty)(p2:List Ty):Option (Ty×Bool):=((idx p2 1).bind fun x1=>((bI n x1).bind fun x2=>(((cond x2.2 ((eZ n x2.1 p0).bind fun x3=>some (x3,([p1]))) (some (false,([p1])))):Option (Bool×(List Ty))).bind fun s1=>some ((Ty.mk 5 ([]:Str) s1.2),s1.1))))
def p8(n:Nat)(p0:List Ty):Option (Ty×Bool):=((idx p0 0).bind fun x1=>((fM n x1).bind fun x2=>(cond (!x2.2.2) (some ((Ty.mk 0 ([]:Str) ([])),false)) ((Mq n x2.1 x2.2.1 p0).bind fun x3=>some (x3.1,x3.2)))))
def KO(n:Nat)(p0:Ty)(p1:Ty)(p2:List Ty):Option (Ty×Bool):=((idx p2 1).bind fun x1=>((eZ n x1 p0).bind fun x2=>some (p1,x2)))
def p9(n:Nat)(p0:List Ty):Option (Ty×Bool):=((idx p0 0).bind fun x1=>((fM n x1).bind fun x2=>(cond (!x2.2.2) (some ((Ty.mk 0 ([]:Str) ([])),false)) ((KO n x2.1 x2.2.1 p0).bind fun x3=>some (x3.1,x3.2)))))
def Ai(n:Nat)(p0:List Ty):Option (Ty×Bool):=((idx p0 0).bind fun x1=>((idx p0 1).bind fun x2=>some (x1,(x2.kind==2))))
def Bt(n:Nat)(p0:List Ty):Option (Ty×Bool):=((idx p0 0).bind fun x1=>((bI n x1).bind fun x2=>((((idx p0 1).bind fun x3=>(cond x2.2 ((idx p0 1).bind fun x4=>some ((x4.kind !=2),([(Ty.mk 4 ([]:Str) ([x2.1,x3]))]))) (some (false,([(Ty.mk 4 ([]:Str) ([x2.1,x3]))]))))):Option (Bool×(List Ty))).bind fun s1=>some ((Ty.mk 5 ([]:Str) s1.2),s1.1))))
def LZ(n:Nat)(qa5:F17t)(qa4:F18t)(p0:List (Str×Ty))(p1:List (Str×Bool))(p3:Tm)(rec:((List Decl)×(List Ty)×Int×(List Int))→Option (LR ((List Decl)×(List Ty)×(List Int)) (Ty×Int×(List Int))))(s1:(List Decl)×(List Ty)×Int×(List Int)):Option (LR ((List Decl)×(List Ty)×(List Int)) (Ty×Int×(List Int))):=(cond (decide (s1.2.2.1<(p3.kids.length:Int))) ((((qa4 p0 p1 s1.2.2.2 p3 s1.2.2.1 s1.1).bind fun x57=>(cond (x57.2.1 !=0) (some (.rt ((Ty.mk 0 ([]:Str) ([])),x57.2.1,x57.2.2))) ((app 48 s1.2.1 ([x57.1])).bind fun x58=>(((cond (s1.2.2.1==0) ((sS n p3.op).bind fun x60=>some x60) (some false)):Option Bool).bind fun s6=>(cond s6 ((bI n x57.1).bind fun x59=>(cond (!x59.2) (some (.rt ((Ty.mk 0 ([]:Str) ([])),7,x57.2.2))) (some (.nx (((Decl.mk p3.name x59.1)::s1.1),x58,x57.2.2))))) (some (.nx (s1.1,x58,x57.2.2)))))))):Option (LR ((List Decl)×(List Ty)×(List Int)) (Ty×Int×(List Int)))).bind (LR.el (fun s5=>rec (s5.1,s5.2.1,(s1.2.2.1+1),s5.2.2)) (fun r=>some (.rt r)))) (some (.nx (s1.1,s1.2.1,s1.2.2.2))))
def qY(n:Nat)(qa5:F17t)(qa4:F18t)(p0:List (Str×Ty))(p1:List (Str×Bool))(p3:Tm)(k:Nat):((List Decl)×(List Ty)×Int×(List Int))→Option (LR ((List Decl)×(List Ty)×(List Int)) (Ty×Int×(List Int))):=aV (LZ n qa5 qa4 p0 p1 p3) k
def oW(n:Nat)(qa5:F17t)(qa4:F18t)(p0:List (Str×Ty))(p1:List (Str×Bool))(p2:List Int)(p3:Tm)(p4:List Decl):Option (Ty×Int×(List Int)):=((qY n qa5 qa4 p0 p1 p3 n (p4,([]:List Ty),0,p2)).bind (LR.el (fun s2=>(cond (p3.op==20) ((nL n s2.1 p3.name).bind fun x1=>(cond x1.2 (some (x1.1,0,s2.2.2)) (((Ux (dI p0 p3.name) (some (false,0,([]:Str),([]:List Ty))) (fun x2=>some (true,x2.kind,x2.name,x2.kids))):Option (Bool×Int×Str×(List Ty))).bind fun s3=>(cond (!s3.1) (some ((Ty.mk 0 ([]:Str) ([])),6,s2.2.2)) (some ((Ty.mk s3.2.1 s3.2.2.1 s3.2.2.2),0,s2.2.2)))))) (cond (p3.op==29) ((mK n p0 p1 s2.2.2 p3.ty).bind fun x3=>(cond (!x3) (some ((Ty.mk 0 ([]:Str) ([])),6,s2.2.2)) ((mU n (Ty.mk 5 ([]:Str) ([p3.ty]))).bind fun x4=>some (x4.1,x4.2,s2.2.2)))) (((cond (p3.op==0) none (cond (p3.op==1) (some (((Ty.mk 2 ([]:Str) ([])),true).2,(((Ty.mk 2 ([]:Str) ([])),true).1).kind,(((Ty.mk 2 ([]:Str) ([])),true).1).name,(((Ty.mk 2 ([]:Str) ([])),true).1).kids)) (cond (p3.op==2) (some (((Ty.mk 2 ([]:Str) ([])),true).2,(((Ty.mk 2 ([]:Str) ([])),true).1).kind,(((Ty.mk 2 ([]:Str) ([])),true).1).name,(((Ty.mk 2 ([]:Str) ([])),true).1).kids)) (cond (p3.op==3) ((aP n s2.2.1 2 ([]:Str) ([]) 2).bind fun x6=>some (x6.2,x6.1.kind,x6.1.name,x6.1.kids)) (cond (p3.op==4) ((aP n s2.2.1 2 ([]:Str) ([]) 2).bind fun x7=>some (x7.2,x7.1.kind,x7.1.name,x7.1.kids)) (cond (p3.op==5) ((aP n s2.2.1 2 ([]:Str) ([]) 2).bind fun x8=>some (x8.2,x8.1.kind,x8.1.name,x8.1.kids)) (cond (p3.op==6) ((aP n s2.2.1 2 ([]:Str) ([]) 2).bind fun x9=>some (x9.2,x9.1.kind,x9.1.name,x9.1.kids)) (cond (p3.op==7) ((aP n s2.2.1 2 ([]:Str) ([]) 2).bind fun x10=>some (x10.2,x10.1.kind,x10.1.name,x10.1.kids)) (cond (p3.op==8) ((oM n s2.2.1).bind fun x11=>some (x11.2,x11.1.kind,x11.1.name,x11.1.kids)) (cond (p3.op==9) ((oM n s2.2.1).bind fun x12=>some (x12.2,x12.1.kind,x12.1.name,x12.1.kids)) (cond (p3.op==10) ((tF n s2.2.1).bind fun x13=>some (x13.2,x13.1.kind,x13.1.name,x13.1.kids)) (cond (p3.op==11) ((tF n s2.2.1).bind fun x14=>some (x14.2,x14.1.kind,x14.1.name,x14.1.kids)) (cond (p3.op==12) ((aP n s2.2.1 2 ([]:Str) ([]) 1).bind fun x15=>some (x15.2,x15.1.kind,x15.1.name,x15.1.kids)) (cond (p3.op==13) ((aP n s2.2.1 2 ([]:Str) ([]) 1).bind fun x16=>some (x16.2,x16.1.kind,x16.1.name,x16.1.kids)) (cond (p3.op==14) ((aP n s2.2.1 2 ([]:Str) ([]) 1).bind fun x17=>some (x17.2,x17.1.kind,x17.1.name,x17.1.kids)) (cond (p3.op==15) ((aP n s2.2.1 2 ([]:Str) ([]) 1).bind fun x18=>some (x18.2,x18.1.kind,x18.1.name,x18.1.kids)) (cond (p3.op==16) ((sW n s2.2.1).bind fun x19=>some (x19.2,x19.1.kind,x19.1.name,x19.1.kids)) (cond (p3.op==17) ((sW n s2.2.1).bind fun x20=>some (x20.2,x20.1.kind,x20.1.name,x20.1.kids)) (cond (p3.op==18) ((zW n s2.2.1).bind fun x21=>some (x21.2,x21.1.kind,x21.1.name,x21.1.kids)) (cond (p3.op==19) (some (((Ty.mk 1 ([]:Str) ([])),true).2,(((Ty.mk 1 ([]:Str) ([])),true).1).kind,(((Ty.mk 1 ([]:Str) ([])),true).1).name,(((Ty.mk 1 ([]:Str) ([])),true).1).kids)) (cond (p3.op==20) none (cond (p3.op==21) ((aP n s2.2.1 1 ([]:Str) ([]) 1).bind fun x22=>some (x22.2,x22.1.kind,x22.1.name,x22.1.kids)) (cond (p3.op==22) ((aP n s2.2.1 1 ([]:Str) ([]) 1).bind fun x23=>some (x23.2,x23.1.kind,x23.1.name,x23.1.kids)) (cond (p3.op==23) ((aP n s2.2.1 1 ([]:Str) ([]) 1).bind fun x24=>some (x24.2,x24.1.kind,x24.1.name,x24.1.kids)) (cond (p3.op==24) ((aP n s2.2.1 1 ([]:Str) ([]) 1).bind fun x25=>some (x25.2,x25.1.kind,x25.1.name,x25.1.kids)) (cond (p3.op==25) ((aP n s2.2.1 1 ([]:Str) ([]) 1).bind fun x26=>some (x26.2,x26.1.kind,x26.1.name,x26.1.kids)) (cond (p3.op==26) ((aP n s2.2.1 1 ([]:Str) ([]) 1).bind fun x27=>some (x27.2,x27.1.kind,x27.1.name,x27.1.kids)) (cond (p3.op==27) ((D7 n s2.2.1).bind fun x28=>some (x28.2,x28.1.kind,x28.1.name,x28.1.kids)) (cond (p3.op==28) ((rY n s2.2.1).bind fun x29=>some (x29.2,x29.1.kind,x29.1.name,x29.1.kids)) (cond (p3.op==29) none (cond (p3.op==30) ((aP n s2.2.1 5 ([]:Str) ([(Ty.mk 1 ([]:Str) ([]))]) 1).bind fun x30=>some (x30.2,x30.1.kind,x30.1.name,x30.1.kids)) (cond (p3.op==31) ((jZ n s2.2.1).bind fun x31=>some (x31.2,x31.1.kind,x31.1.name,x31.1.kids)) (cond (p3.op==32) ((jZ n s2.2.1).bind fun x32=>some (x32.2,x32.1.kind,x32.1.name,x32.1.kids)) (cond (p3.op==33) ((jZ n s2.2.1).bind fun x33=>some (x33.2,x33.1.kind,x33.1.name,x33.1.kids)) (cond (p3.op==34) ((Bg n s2.2.1).bind fun x34=>some (x34.2,x34.1.kind,x34.1.name,x34.1.kids)) (cond (p3.op==35) ((qw n s2.2.1).bind fun x35=>some (x35.2,x35.1.kind,x35.1.name,x35.1.kids)) (cond (p3.op==36) ((qD n s2.2.1).bind fun x36=>some (x36.2,x36.1.kind,x36.1.name,x36.1.kids)) (cond (p3.op==37) ((sF n s2.2.1).bind fun x37=>some (x37.2,x37.1.kind,x37.1.name,x37.1.kids)) (cond (p3.op==38) ((sF n s2.2.1).bind fun x38=>some (x38.2,x38.1.kind,x38.1.name,x38.1.kids)) (cond (p3.op==39) ((jq n s2.2.1).bind fun x39=>some (x39.2,x39.1.kind,x39.1.name,x39.1.kids)) (cond (p3.op==40) ((jq n s2.2.1).bind fun x40=>some (x40.2,x40.1.kind,x40.1.name,x40.1.kids)) (cond (p3.op==41) ((fO n s2.2.1).bind fun x41=>some (x41.2,x41.1.kind,x41.1.name,x41.1.kids)) (cond (p3.op==42) ((fO n s2.2.1).bind fun x42=>some (x42.2,x42.1.kind,x42.1.name,x42.1.kids)) (cond (p3.op==43) ((fO n s2.2.1).bind fun x43=>some (x43.2,x43.1.kind,x43.1.name,x43.1.kids)) (cond (p3.op==44) ((fO n s2.2.1).bind fun x44=>some (x44.2,x44.1.kind,x44.1.name,x44.1.kids)) (cond (p3.op==45) ((fO n s2.2.1).bind fun x45=>some (x45.2,x45.1.kind,x45.1.name,x45.1.kids)) (cond (p3.op==46) ((yE n s2.2.1).bind fun x46=>some (x46.2,x46.1.kind,x46.1.name,x46.1.kids)) (cond (p3.op==47) ((yH n s2.2.1).bind fun x47=>some (x47.2,x47.1.kind,x47.1.name,x47.1.kids)) (cond (p3.op==48) ((mW n s2.2.1).bind fun x48=>some (x48.2,x48.1.kind,x48.1.name,x48.1.kids)) (cond (p3.op==49) ((mW n s2.2.1).bind fun x49=>some (x49.2,x49.1.kind,x49.1.name,x49.1.kids)) (cond (p3.op==50) ((qb n s2.2.1).bind fun x50=>some (x50.2,x50.1.kind,x50.1.name,x50.1.kids)) (cond (p3.op==51) ((pW n s2.2.1).bind fun x51=>some (x51.2,x51.1.kind,x51.1.name,x51.1.kids)) (cond (p3.op==52) ((qG n s2.2.1).bind fun x52=>some (x52.2,x52.1.kind,x52.1.name,x52.1.kids)) (cond (p3.op==53) ((p8 n s2.2.1).bind fun x53=>some (x53.2,x53.1.kind,x53.1.name,x53.1.kids)) (cond (p3.op==54) ((p9 n s2.2.1).bind fun x54=>some (x54.2,x54.1.kind,x54.1.name,x54.1.kids)) (cond (p3.op==55) ((Ai n s2.2.1).bind fun x55=>some (x55.2,x55.1.kind,x55.1.name,x55.1.kids)) (cond (p3.op==56) ((Bt n s2.2.1).bind fun x56=>some (x56.2,x56.1.kind,x56.1.name,x56.1.kids)) none))))))))))))))))))))))))))))))))))))))))))))))))))))))))):Option (Bool×Int×Str×(List Ty))).bind fun s4=>(cond (!s4.1) (some ((Ty.mk 0 ([]:Str) ([])),7,s2.2.2)) ((mU n (Ty.mk s4.2.1 s4.2.2.1 s4.2.2.2)).bind fun x5=>some (x5.1,x5.2,s2.2.2))))))) (fun r=>some r)))
def mJ(n:Nat)(qa5:F17t)(qa4:F18t)(p0:List (Str×Ty))(p1:List (Str×Bool))(p2:List Int)(p3:Tm)(p4:Int)(p5:List Decl):Option (Ty×Int×(List Int)):=((app 8 p2 ([p4])).bind fun x1=>((idx p3.kids p4).bind fun x2=>((qa5 p0 p1 x1 x2 p5).bind fun x3=>(((cond (x3.2.1==0) ((ZP (List.length x3.2.2) ((x3.2.2.length:Int) - 1)).bind fun x4=>(cond (Nat.ble x4 (List.length x3.2.2)) (some (List.take x4 x3.2.2)) none)) (some x3.2.2)):Option (List Int)).bind fun s1=>some (x3.1,x3.2.1,s1)))))
mutual
def iR:Nat→(List (Str×Ty))→(List (Str×Bool))→(List Int)→Tm→(List Decl)→Option (Ty×Int×(List Int))
 |0,_,_,_,_,_=>none
 |n+1,p0,p1,p2,p3,p4=>oW n (iR n) (gH n) p0 p1 p2 p3 p4
def gH:Nat→(List (Str×Ty))→(List (Str×Bool))→(List Int)→Tm→Int→(List Decl)→Option (Ty×Int×(List Int))
 |0,_,_,_,_,_,_=>none
 |n+1,p0,p1,p2,p3,p4,p5=>mJ n (iR n) (gH n) p0 p1 p2 p3 p4 p5
end
def Pg(n:Nat)(qa9:F16t)(p0:Ty)(rec:F28t)(s1:Int×(List Ty)):Option (LR (List Ty) Ty):=(cond (decide (s1.1<(p0.kids.length:Int))) ((idx p0.kids s1.1).bind fun x1=>((qa9 x1).bind fun x2=>((app 48 s1.2 ([x2])).bind fun x3=>rec ((s1.1+1),x3)))) (some (.nx s1.2)))
def Dt(n:Nat)(qa9:F16t)(p0:Ty)(k:Nat):(Int×(List Ty))→Option (LR (List Ty) Ty):=aV (Pg n qa9 p0) k
def qX(n:Nat)(qa9:F16t)(p0:Ty):Option Ty:=((Dt n qa9 p0 n (0,([]:List Ty))).bind (LR.el (fun s2=>some (Ty.mk p0.kind p0.name s2)) (fun r=>some r)))
def lF:Nat→Ty→Option Ty
 |0,_=>none
 |n+1,p0=>qX n (lF n) p0
def xU(n:Nat)(p0:Env)(p1:Tm):Option (Ty×(List Int)×Int):=((((oH n p0).bind fun x5=>(cond (!x5) (some true) ((Ah n p1).bind fun x6=>some (!x6)))):Option Bool).bind fun s1=>(cond s1 (some ((Ty.mk 0 ([]:Str) ([])),([]:List Int),1)) ((xk n p0).bind fun x1=>((iR n x1.1 x1.2 ([]:List Int) p1 ([]:List Decl)).bind fun x2=>(cond (x2.2.1 !=0) ((slices_Clone_int n x2.2.2).bind fun x3=>some ((Ty.mk 0 ([]:Str) ([])),x3,x2.2.1)) ((lF n x2.1).bind fun x4=>some (x4,([]:List Int),0)))))))
def ni(n:Nat)(p0:Env)(p1:Tm):Option Int:=((xU n p0 p1).bind fun x1=>(((cond (x1.2.2==0) (some (x1.1.kind !=2)) (some false)):Option Bool).bind fun s1=>(cond s1 (some 7) (some x1.2.2))))
def UA(n:Nat)(p0:S_api_Sequent)(x1:List Tm)(rec:F1t)(s2:Int):Option (LR Unit Int):=(cond (decide (s2<(x1.length:Int))) ((idx x1 s2).bind fun x2=>((ni n p0.env x2).bind fun x3=>(cond (x3 !=0) (some (.rt x3)) (rec (s2+1))))) (some (.nx ())))
def JI(n:Nat)(p0:S_api_Sequent)(x1:List Tm)(k:Nat):Int→Option (LR Unit Int):=aV (UA n p0 x1) k
def lC(n:Nat)(p0:S_api_Sequent):Option Int:=((iV n p0).bind fun x1=>((((oH n p0.env).bind fun x4=>(cond (!x4) (some true) ((vI n x1).bind fun x5=>some x5))):Option Bool).bind fun s1=>(cond s1 (some 1) (cond (decide (200<(p0.hyps.length:Int))) (some 5) ((JI n p0 x1 n 0).bind (LR.el (fun s3=>some 0) (fun r=>some r)))))))
def Di(n:Nat)(p0:Int):Option Bool:=(((cond (decide (97≤p0)) (cond (decide (p0≤122)) (some true) (cond (decide (65≤p0)) (some (decide (p0≤90))) (some false))) (cond (decide (65≤p0)) (some (decide (p0≤90))) (some false))):Option Bool).bind fun s1=>some s1)
def ajt(n:Nat)(p0:Str)(p1:List Str)(rec:F0t)(s1:Int):Option (LR Unit Bool):=(cond (decide (s1<(p1.length:Int))) ((idx p1 s1).bind fun x1=>(cond (x1==p0) (some (.rt true)) (rec (s1+1)))) (some (.nx ())))
def ac3(n:Nat)(p0:Str)(p1:List Str)(k:Nat):Int→Option (LR Unit Bool):=aV (ajt n p0 p1) k
def M4(n:Nat)(p0:Str)(p1:List Str):Option Bool:=((ac3 n p0 p1 n 0).bind (LR.el (fun s2=>some false) (fun r=>some r)))
def FP(n:Nat)(p0:Str):Option Bool:=((M4 n p0 ([([116,114,117,101]:Str),([102,97,108,115,101]:Str),([110,111,116]:Str),([111,114]:Str),([102,111,114,97,108,108]:Str),([101,120,105,115,116,115]:Str),([105,110]:Str),([110,111,116,105,110]:Str),([115,117,98]:Str),([109,111,100]:Str),([102,117,110]:Str),([99,97,114,100]:Str),([109,105,110]:Str),([109,97,120]:Str),([100,111,109]:Str),([114,97,110]:Str),([80,79,87]:Str),([105,110,116]:Str),([98,111,111,108]:Str),([115,101,116]:Str),([112,97,105,114]:Str)])).bind fun x1=>some x1)
def Ny(n:Nat)(p0:Int):Option Bool:=(((cond (decide (48≤p0)) (some (decide (p0≤57))) (some false)):Option Bool).bind fun s1=>some s1)
def Tz(n:Nat)(p0:Str)(rec:F0t)(s2:Int):Option (LR Unit Bool):=(cond (decide (s2<(p0.length:Int))) ((((xB p0 s2).bind fun x1=>((Di n x1).bind fun x2=>(cond (!x2) ((xB p0 s2).bind fun x3=>((Ny n x3).bind fun x4=>(cond (!x4) ((xB p0 s2).bind fun x5=>some (x5 !=95)) (some false)))) (some false)))):Option Bool).bind fun s4=>(cond s4 (some (.rt false)) (rec (s2+1)))) (some (.nx ())))
def xY(n:Nat)(p0:Str)(k:Nat):Int→Option (LR Unit Bool):=aV (Tz n p0) k
def eX(n:Nat)(p0:Str):Option Bool:=(((cond (decide ((p0.length:Int)<1)) (some true) (cond (decide (16<(p0.length:Int))) (some true) ((xB p0 0).bind fun x6=>((Di n x6).bind fun x7=>(cond (!x7) (some true) ((FP n p0).bind fun x8=>some x8)))))):Option Bool).bind fun s1=>(cond s1 (some false) ((xY n p0 n 1).bind (LR.el (fun s3=>some true) (fun r=>some r)))))
def I7(n:Nat)(p0:Str):Option Bool:=(((cond (decide (1<(p0.length:Int))) ((xB p0 ((p0.length:Int) - 1)).bind fun x1=>(cond (x1==39) ((nR p0 0 ((p0.length:Int) - 1)).bind fun x2=>((eX n x2).bind fun x3=>some x3)) (some false))) (some false)):Option Bool).bind fun s1=>some s1)
def Bn(n:Nat)(p0:Str):Option Bool:=((((eX n p0).bind fun x1=>(cond x1 (some true) ((I7 n p0).bind fun x2=>some x2))):Option Bool).bind fun s1=>some s1)
def acN(n:Nat)(qam:F21t)(p0:Ty)(p1:Int)(rec:F29t)(s4:Int×Int):Option (LR Int Int):=(cond (decide (s4.2<(p0.kids.length:Int))) ((idx p0.kids s4.2).bind fun x1=>((qam x1 (IntKind.wrap .i64 (p1+1)) s4.1).bind fun x2=>(cond (decide (x2<0)) (some (.rt (-1))) (rec (x2,(s4.2+1)))))) (some (.nx s4.1)))
def Ce(n:Nat)(qam:F21t)(p0:Ty)(p1:Int)(k:Nat):(Int×Int)→Option (LR Int Int):=aV (acN n qam p0 p1) k
def DV(n:Nat)(qam:F21t)(p0:Ty)(p1:Int)(p2:Int):Option Int:=(((cond (decide (6<p1)) (some true) (cond (decide (16<(IntKind.wrap .i64 (p2+1)))) (some true) (cond (p0.kind==2) (some (decide (1<p1))) (some false)))):Option Bool).bind fun s1=>(cond s1 (some (-1)) (((((cond (p0.kind==1) (some (p0.kind==1)) (cond (p0.kind==2) (some (p0.kind==2)) (some (p0.kind==3)))):Option Bool).bind fun s6=>(cond s6 (some (.nx 0)) (cond (p0.kind==5) (some (.nx 1)) (cond (p0.kind==4) (some (.nx 2)) (some (.rt (-1))))))):Option (LR Int Int)).bind (LR.el (fun s2=>(((cond ((p0.kids.length:Int)!=s2) (some true) (cond (p0.kind==3) ((eX n p0.name).bind fun x3=>(cond (!x3) (some true) (cond (p0.kind !=3) (some (!(p0.name==([]:Str)))) (some false)))) (cond (p0.kind !=3) (some (!(p0.name==([]:Str)))) (some false)))):Option Bool).bind fun s3=>(cond s3 (some (-1)) ((Ce n qam p0 p1 n ((IntKind.wrap .i64 (p2+1)),0)).bind (LR.el (fun s5=>some s5) (fun r=>some r)))))) (fun r=>some r)))))
def rE:Nat→Ty→Int→Int→Option Int
 |0,_,_,_=>none
 |n+1,p0,p1,p2=>DV n (rE n) p0 p1 p2
def qy(n:Nat)(p0:Ty):Option Bool:=((rE n p0 1 0).bind fun x1=>some (decide (0<x1)))
def VB(n:Nat)(qao:F22t)(p0:Ty)(rec:F0t)(s1:Int):Option (LR Unit Bool):=(cond (decide (s1<(p0.kids.length:Int))) ((idx p0.kids s1).bind fun x1=>((qao x1).bind fun x2=>(cond x2 (some (.rt true)) (rec (s1+1))))) (some (.nx ())))
def JV(n:Nat)(qao:F22t)(p0:Ty)(k:Nat):Int→Option (LR Unit Bool):=aV (VB n qao p0) k
def w9(n:Nat)(qao:F22t)(p0:Ty):Option Bool:=(cond (p0.kind==2) (some true) ((JV n qao p0 n 0).bind (LR.el (fun s2=>some false) (fun r=>some r))))
def nk:Nat→Ty→Option Bool
 |0,_=>none
 |n+1,p0=>w9 n (nk n) p0
def WW(n:Nat)(qan:F23t)(p0:Ty)(rec:F11t)(s1:(List Str)×Int):Option (LR (List Str) (List Str)):=(cond (decide (s1.2<(p0.kids.length:Int))) ((idx p0.kids s1.2).bind fun x1=>((qan x1).bind fun x2=>((app 16 s1.1 x2).bind fun x3=>rec (x3,(s1.2+1))))) (some (.nx s1.1)))
def Mr(n:Nat)(qan:F23t)(p0:Ty)(k:Nat):((List Str)×Int)→Option (LR (List Str) (List Str)):=aV (WW n qan p0) k
def yw(n:Nat)(qan:F23t)(p0:Ty):Option (List Str):=(cond (p0.kind==3) (some ([p0.name])) ((Mr n qan p0 n (([]:List Str),0)).bind (LR.el (fun s2=>some s2) (fun r=>some r))))
def tO:Nat→Ty→Option (List Str)
 |0,_=>none
 |n+1,p0=>yw n (tO n) p0
def PD(n:Nat)(p0:Env)(p1:Str)(rec:F1t)(s1:Int):Option (LR Unit Int):=(cond (decide (s1<(p0.carriers.length:Int))) ((idx p0.carriers s1).bind fun x1=>(cond (x1.name==p1) (some (.rt s1)) (rec (s1+1)))) (some (.nx ())))
def EA(n:Nat)(p0:Env)(p1:Str)(k:Nat):Int→Option (LR Unit Int):=aV (PD n p0 p1) k
def iM(n:Nat)(p0:Env)(p1:Str):Option Int:=((EA n p0 p1 n 0).bind (LR.el (fun s2=>some (-1)) (fun r=>some r)))
def aew(n:Nat)(p0:Env)(x1:List Str)(rec:F0t)(s1:Int):Option (LR Unit Bool):=(cond (decide (s1<(x1.length:Int))) ((idx x1 s1).bind fun x2=>((iM n p0 x2).bind fun x3=>(cond (decide (x3<0)) (some (.rt false)) (rec (s1+1))))) (some (.nx ())))
def Ub(n:Nat)(p0:Env)(x1:List Str)(k:Nat):Int→Option (LR Unit Bool):=aV (aew n p0 x1) k
def Ik(n:Nat)(p0:Env)(p1:Ty):Option Bool:=((tO n p1).bind fun x1=>((Ub n p0 x1 n 0).bind (LR.el (fun s2=>some true) (fun r=>some r))))
def WQ(n:Nat)(p0:Env)(rec:F11t)(s1:(List Str)×Int):Option (LR (List Str) (List Str)):=(cond (decide (s1.2<(p0.carriers.length:Int))) ((idx p0.carriers s1.2).bind fun x5=>((app 16 s1.1 ([x5.name])).bind fun x6=>rec (x6,(s1.2+1)))) (some (.nx s1.1)))
def KJ(n:Nat)(p0:Env)(k:Nat):((List Str)×Int)→Option (LR (List Str) (List Str)):=aV (WQ n p0) k
def Yj(n:Nat)(p0:Env)(rec:F11t)(s3:(List Str)×Int):Option (LR (List Str) (List Str)):=(cond (decide (s3.2<(p0.carriers.length:Int))) ((idx p0.carriers s3.2).bind fun x3=>((app 16 s3.1 x3.elems).bind fun x4=>rec (x4,(s3.2+1)))) (some (.nx s3.1)))
def Md(n:Nat)(p0:Env)(k:Nat):((List Str)×Int)→Option (LR (List Str) (List Str)):=aV (Yj n p0) k
def Yf(n:Nat)(p0:Env)(rec:F11t)(s5:(List Str)×Int):Option (LR (List Str) (List Str)):=(cond (decide (s5.2<(p0.names.length:Int))) ((idx p0.names s5.2).bind fun x1=>((app 16 s5.1 ([x1.name])).bind fun x2=>rec (x2,(s5.2+1)))) (some (.nx s5.1)))
def KE(n:Nat)(p0:Env)(k:Nat):((List Str)×Int)→Option (LR (List Str) (List Str)):=aV (Yf n p0) k
def Co(n:Nat)(p0:Env):Option (List Str):=((KJ n p0 n (([]:List Str),0)).bind (LR.el (fun s2=>((Md n p0 n (s2,0)).bind (LR.el (fun s4=>((KE n p0 n (s4,0)).bind (LR.el (fun s6=>some s6) (fun r=>some r)))) (fun r=>some r)))) (fun r=>some r)))
def Yz(n:Nat)(x10:Carrier)(rec:F0t)(s10:Int):Option (LR Unit Bool):=(cond (decide (s10<(x10.elems.length:Int))) ((idx x10.elems s10).bind fun x11=>((eX n x11).bind fun x12=>(cond (!x12) (some (.rt false)) (rec (s10+1))))) (some (.nx ())))
def vV(n:Nat)(x10:Carrier)(k:Nat):Int→Option (LR Unit Bool):=aV (Yz n x10) k
def Xj(n:Nat)(p0:Env)(rec:F0t)(s2:Int):Option (LR Unit Bool):=(cond (decide (s2<(p0.carriers.length:Int))) ((idx p0.carriers s2).bind fun x10=>((((eX n x10.name).bind fun x13=>(cond (!x13) (some true) (some (decide (8<(x10.elems.length:Int)))))):Option Bool).bind fun s9=>(cond s9 (some (.rt false)) ((vV n x10 n 0).bind (LR.el (fun s11=>rec (s2+1)) (fun r=>some (.rt r))))))) (some (.nx ())))
def KC(n:Nat)(p0:Env)(k:Nat):Int→Option (LR Unit Bool):=aV (Xj n p0) k
def Xp(n:Nat)(p0:Env)(rec:F0t)(s4:Int):Option (LR Unit Bool):=(cond (decide (s4<(p0.names.length:Int))) ((idx p0.names s4).bind fun x5=>((((Bn n x5.name).bind fun x6=>(cond (!x6) (some true) ((qy n x5.ty).bind fun x7=>(cond (!x7) (some true) ((nk n x5.ty).bind fun x8=>(cond x8 (some true) ((Ik n p0 x5.ty).bind fun x9=>some (!x9)))))))):Option Bool).bind fun s8=>(cond s8 (some (.rt false)) (rec (s4+1))))) (some (.nx ())))
def KH(n:Nat)(p0:Env)(k:Nat):Int→Option (LR Unit Bool):=aV (Xp n p0) k
def Xc(n:Nat)(x1:List Str)(rec:F0t)(s6:Int):Option (LR Unit Bool):=(cond (decide (s6<(x1.length:Int))) ((idx x1 s6).bind fun x2=>((nR x1 0 s6).bind fun x3=>((M4 n x2 x3).bind fun x4=>(cond x4 (some (.rt false)) (rec (s6+1)))))) (some (.nx ())))
def Bw(n:Nat)(x1:List Str)(k:Nat):Int→Option (LR Unit Bool):=aV (Xc n x1) k
def xL(n:Nat)(p0:Env):Option Bool:=(((cond (decide (8<(p0.carriers.length:Int))) (some true) (some (decide (64<(p0.names.length:Int))))):Option Bool).bind fun s1=>(cond s1 (some false) ((KC n p0 n 0).bind (LR.el (fun s3=>((KH n p0 n 0).bind (LR.el (fun s5=>((Co n p0).bind fun x1=>((Bw n x1 n 0).bind (LR.el (fun s7=>some true) (fun r=>some r))))) (fun r=>some r)))) (fun r=>some r)))))
def Sn(n:Nat)(p0:Int):Option Int:=(((cond (p0==1) (some true) (cond (p0==2) (some true) (cond (p0==19) (some true) (cond (p0==20) (some true) (some (p0==29)))))):Option Bool).bind fun s1=>(cond s1 (some 0) (((cond (p0==3) (some true) (cond (p0==21) (some true) (cond (decide (46≤p0)) (some (decide (p0≤52))) (some false)))):Option Bool).bind fun s2=>(cond s2 (some 1) (cond (p0==28) (some (-1)) (((cond (decide (4≤p0)) (some (decide (p0≤56))) (some false)):Option Bool).bind fun s3=>(cond s3 (some 2) (some (-2)))))))))
def nZ(n:Nat)(p0:Int):Option Bool:=(((cond (p0==8) (some true) (cond (p0==9) (some true) (cond (p0==55) (some true) (some (p0==56))))):Option Bool).bind fun s1=>some s1)
def Cr(n:Nat)(p0:Ty):Option Bool:=(((cond (p0.kind==0) (cond (p0.name==([]:Str)) (some ((p0.kids.length:Int)==0)) (some false)) (some false)):Option Bool).bind fun s1=>some s1)
def R6(n:Nat)(p0:Tm):Option Bool:=((Sn n p0.op).bind fun x1=>(((cond (x1==(-2)) (some true) (cond (x1==(-1)) (cond ((p0.kids.length:Int)==0) (some true) (cond (decide (0≤x1)) (some ((p0.kids.length:Int)!=x1)) (some false))) (cond (decide (0≤x1)) (some ((p0.kids.length:Int)!=x1)) (some false)))):Option Bool).bind fun s1=>(cond s1 (some false) (((cond (p0.op==20) ((Bn n p0.name).bind fun x4=>(cond (!x4) (some (.rt false)) (some (.nx ())))) ((nZ n p0.op).bind fun x5=>(cond x5 ((eX n p0.name).bind fun x6=>(cond (!x6) (some (.rt false)) (some (.nx ())))) (cond (!(p0.name==([]:Str))) (some (.rt false)) (some (.nx ())))))):Option (LR Unit Bool)).bind (LR.el (fun s2=>(((cond (p0.op==19) (cond (decide (p0.n<0)) (some true) (cond (decide (1000000000<p0.n)) (some true) (cond (p0.op !=19) (some (p0.n !=0)) (some false)))) (cond (p0.op !=19) (some (p0.n !=0)) (some false))):Option Bool).bind fun s3=>(cond s3 (some false) (cond (p0.op==29) ((((qy n p0.ty).bind fun x2=>(cond x2 (some (p0.ty.kind !=2)) (some false))):Option Bool).bind fun s4=>some s4) ((Cr n p0.ty).bind fun x3=>some x3))))) (fun r=>some r))))))
def aeM(n:Nat)(qal:F24t)(p0:Tm)(p1:Int)(rec:F29t)(s2:Int×Int):Option (LR Int Int):=(cond (decide (s2.2<(p0.kids.length:Int))) ((idx p0.kids s2.2).bind fun x1=>((qal x1 (IntKind.wrap .i64 (p1+1)) s2.1).bind fun x2=>(cond (decide (x2<0)) (some (.rt (-1))) (rec (x2,(s2.2+1)))))) (some (.nx s2.1)))
def TL(n:Nat)(qal:F24t)(p0:Tm)(p1:Int)(k:Nat):(Int×Int)→Option (LR Int Int):=aV (aeM n qal p0 p1) k
def Ei(n:Nat)(qal:F24t)(p0:Tm)(p1:Int)(p2:Int):Option Int:=(((cond (decide (64<p1)) (some true) (cond (decide (2000<(IntKind.wrap .i64 (p2+1)))) (some true) ((R6 n p0).bind fun x3=>some (!x3)))):Option Bool).bind fun s1=>(cond s1 (some (-1)) ((TL n qal p0 p1 n ((IntKind.wrap .i64 (p2+1)),0)).bind (LR.el (fun s3=>some s3) (fun r=>some r)))))
def yx:Nat→Tm→Int→Int→Option Int
 |0,_,_,_=>none
 |n+1,p0,p1,p2=>Ei n (yx n) p0 p1 p2
def uP(n:Nat)(p0:Tm):Option Bool:=((yx n p0 1 0).bind fun x1=>some (decide (0<x1)))
def abG(n:Nat)(p0:List Tm)(rec:F0t)(s1:Int):Option (LR Unit Bool):=(cond (decide (s1<(p0.length:Int))) ((idx p0 s1).bind fun x1=>((uP n x1).bind fun x2=>(cond (!x2) (some (.rt false)) (rec (s1+1))))) (some (.nx ())))
def RS(n:Nat)(p0:List Tm)(k:Nat):Int→Option (LR Unit Bool):=aV (abG n p0) k
def JG(n:Nat)(p0:List Tm):Option Bool:=((RS n p0 n 0).bind (LR.el (fun s2=>some true) (fun r=>some r)))
def Yc(n:Nat)(p0:Env)(p1:Str)(rec:F1t)(s1:Int):Option (LR Unit Int):=(cond (decide (s1<(p0.names.length:Int))) ((idx p0.names s1).bind fun x1=>(cond (x1.name==p1) (some (.rt s1)) (rec (s1+1)))) (some (.nx ())))
def LP(n:Nat)(p0:Env)(p1:Str)(k:Nat):Int→Option (LR Unit Int):=aV (Yc n p0 p1) k
def o8(n:Nat)(p0:Env)(p1:Str):Option Int:=((LP n p0 p1 n 0).bind (LR.el (fun s2=>some (-1)) (fun r=>some r)))
def ahe(n:Nat)(p0:Str):Option Ty:=some (Ty.mk 3 p0 ([]))
def apC(n:Nat)(p0:Ty):Option Ty:=some (Ty.mk 5 ([]:Str) ([p0]))
def QI(n:Nat)(p0:Env)(p1:Str)(s1:Int)(rec:F30t)(s3:Int):Option (LR Unit (Int×Int)):=((idx p0.carriers s1).bind fun x1=>(cond (decide (s3<(x1.elems.length:Int))) ((idx p0.carriers s1).bind fun x2=>((idx x2.elems s3).bind fun x3=>(cond (x3==p1) (some (.rt (s1,s3))) (rec (s3+1))))) (some (.nx ()))))
def lZ(n:Nat)(p0:Env)(p1:Str)(s1:Int)(k:Nat):Int→Option (LR Unit (Int×Int)):=aV (QI n p0 p1 s1) k
def QZ(n:Nat)(p0:Env)(p1:Str)(rec:F30t)(s1:Int):Option (LR Unit (Int×Int)):=(cond (decide (s1<(p0.carriers.length:Int))) ((lZ n p0 p1 s1 n 0).bind (LR.el (fun s4=>rec (s1+1)) (fun r=>some (.rt r)))) (some (.nx ())))
def Eu(n:Nat)(p0:Env)(p1:Str)(k:Nat):Int→Option (LR Unit (Int×Int)):=aV (QZ n p0 p1) k
def qm(n:Nat)(p0:Env)(p1:Str):Option (Int×Int):=((Eu n p0 p1 n 0).bind (LR.el (fun s2=>some ((-1),(-1))) (fun r=>some r)))
def Bz(n:Nat)(p1:List Decl)(p2:Str)(rec:Int→Option (LR Unit (Ty×Bool)))(s1:Int):Option (LR Unit (Ty×Bool)):=(cond (decide (0≤s1)) ((idx p1 s1).bind fun x6=>(cond (x6.name==p2) ((idx p1 s1).bind fun x7=>some (.rt (x7.ty,true))) (rec (IntKind.wrap .i64 (s1 - 1))))) (some (.nx ())))
def sP(n:Nat)(p1:List Decl)(p2:Str)(k:Nat):Int→Option (LR Unit (Ty×Bool)):=aV (Bz n p1 p2) k
def zZ(n:Nat)(p0:Env)(p1:List Decl)(p2:Str):Option (Ty×Bool):=((sP n p1 p2 n ((p1.length:Int) - 1)).bind (LR.el (fun s2=>((o8 n p0 p2).bind fun x1=>(cond (decide (0≤x1)) ((idx p0.names x1).bind fun x2=>some (x2.ty,true)) ((iM n p0 p2).bind fun x3=>(cond (decide (0≤x3)) (some ((Ty.mk 5 ([]:Str) ([(Ty.mk 3 p2 ([]))])),true)) ((qm n p0 p2).bind fun x4=>(cond (decide (0≤x4.1)) ((idx p0.carriers x4.1).bind fun x5=>some ((Ty.mk 3 x5.name ([])),true)) (some ((Ty.mk 0 ([]:Str) ([])),false))))))))) (fun r=>some r)))
def jf(n:Nat)(p0:Ty):Option Bool:=(((cond (p0.kind==5) ((idx p0.kids 0).bind fun x1=>some (x1.kind !=2)) (some false)):Option Bool).bind fun s1=>some s1)
def ap0(n:Nat):Option Ty:=some (Ty.mk 1 ([]:Str) ([]))
def WT(n:Nat)(qaj:F3t)(p0:Ty)(p1:Ty)(rec:F0t)(s2:Int):Option (LR Unit Bool):=(cond (decide (s2<(p0.kids.length:Int))) ((idx p0.kids s2).bind fun x1=>((idx p1.kids s2).bind fun x2=>((qaj x1 x2).bind fun x3=>(cond (!x3) (some (.rt false)) (rec (s2+1)))))) (some (.nx ())))
def BA(n:Nat)(qaj:F3t)(p0:Ty)(p1:Ty)(k:Nat):Int→Option (LR Unit Bool):=aV (WT n qaj p0 p1) k
def nC(n:Nat)(qaj:F3t)(p0:Ty)(p1:Ty):Option Bool:=(((cond (p0.kind !=p1.kind) (some true) (cond (!(p0.name==p1.name)) (some true) (some ((p0.kids.length:Int)!=(p1.kids.length:Int))))):Option Bool).bind fun s1=>(cond s1 (some false) ((BA n qaj p0 p1 n 0).bind (LR.el (fun s3=>some true) (fun r=>some r)))))
def bq:Nat→Ty→Ty→Option Bool
 |0,_,_=>none
 |n+1,p0,p1=>nC n (bq n) p0 p1
def agU(n:Nat)(p0:List Ty)(p1:Ty)(rec:F0t)(s1:Int):Option (LR Unit Bool):=(cond (decide (s1<(p0.length:Int))) ((idx p0 s1).bind fun x1=>((bq n x1 p1).bind fun x2=>(cond (!x2) (some (.rt false)) (rec (s1+1))))) (some (.nx ())))
def aax(n:Nat)(p0:List Ty)(p1:Ty)(k:Nat):Int→Option (LR Unit Bool):=aV (agU n p0 p1) k
def Dw(n:Nat)(p0:List Ty)(p1:Ty):Option Bool:=((aax n p0 p1 n 0).bind (LR.el (fun s2=>some true) (fun r=>some r)))
def anf(n:Nat)(p0:Ty)(p1:Ty):Option Ty:=some (Ty.mk 4 ([]:Str) ([p0,p1]))
def am3(n:Nat):Option Ty:=some (Ty.mk 2 ([]:Str) ([]))
def ad7(n:Nat)(p0:Int)(p1:List Ty):Option (Ty×Bool):=(((cond (p0==1) (some (p0==1)) (some (p0==2))):Option Bool).bind fun s1=>(cond s1 (some ((Ty.mk 2 ([]:Str) ([])),true)) (((cond (p0==3) (some (p0==3)) (cond (p0==4) (some (p0==4)) (cond (p0==5) (some (p0==5)) (cond (p0==6) (some (p0==6)) (some (p0==7)))))):Option Bool).bind fun s2=>(cond s2 ((Dw n p1 (Ty.mk 2 ([]:Str) ([]))).bind fun x1=>some ((Ty.mk 2 ([]:Str) ([])),x1)) (((cond (p0==8) (some (p0==8)) (some (p0==9))):Option Bool).bind fun s3=>(cond s3 ((((idx p1 0).bind fun x2=>((jf n x2).bind fun x3=>(cond x3 ((idx p1 1).bind fun x4=>some (x4.kind==2)) (some false)))):Option Bool).bind fun s4=>some ((Ty.mk 2 ([]:Str) ([])),s4)) (((cond (p0==10) (some (p0==10)) (some (p0==11))):Option Bool).bind fun s5=>(cond s5 ((((idx p1 0).bind fun x5=>(cond (x5.kind !=2) ((idx p1 0).bind fun x6=>((idx p1 1).bind fun x7=>((bq n x6 x7).bind fun x8=>some x8))) (some false))):Option Bool).bind fun s6=>some ((Ty.mk 2 ([]:Str) ([])),s6)) (((cond (p0==12) (some (p0==12)) (cond (p0==13) (some (p0==13)) (cond (p0==14) (some (p0==14)) (some (p0==15))))):Option Bool).bind fun s7=>(cond s7 ((Dw n p1 (Ty.mk 1 ([]:Str) ([]))).bind fun x9=>some ((Ty.mk 2 ([]:Str) ([])),x9)) (((cond (p0==16) (some (p0==16)) (some (p0==17))):Option Bool).bind fun s8=>(cond s8 ((((idx p1 0).bind fun x10=>(cond (x10.kind !=2) ((idx p1 0).bind fun x11=>((idx p1 1).bind fun x12=>((bq n (Ty.mk 5 ([]:Str) ([x11])) x12).bind fun x13=>some x13))) (some false))):Option Bool).bind fun s9=>some ((Ty.mk 2 ([]:Str) ([])),s9)) (cond (p0==18) ((((idx p1 0).bind fun x14=>((jf n x14).bind fun x15=>(cond x15 ((idx p1 0).bind fun x16=>((idx p1 1).bind fun x17=>((bq n x16 x17).bind fun x18=>some x18))) (some false)))):Option Bool).bind fun s10=>some ((Ty.mk 2 ([]:Str) ([])),s10)) (some ((Ty.mk 0 ([]:Str) ([])),false)))))))))))))))
def Hr(n:Nat)(p0:Ty):Option Bool:=(((cond (p0.kind==5) ((idx p0.kids 0).bind fun x1=>some (x1.kind==4)) (some false)):Option Bool).bind fun s1=>some s1)
def qJ(n:Nat)(p0:Ty):Option Ty:=((idx p0.kids 0).bind fun x1=>((idx x1.kids 1).bind fun x2=>some x2))
def vH(n:Nat)(p0:Ty):Option Ty:=((idx p0.kids 0).bind fun x1=>((idx x1.kids 0).bind fun x2=>some x2))
def TW(n:Nat)(p0:Int)(p1:List Ty):Option (Ty×Bool):=((idx p1 0).bind fun x1=>(((((cond (p0==37) (some true) (some (p0==38))):Option Bool).bind fun s5=>(cond s5 ((idx p1 1).bind fun x32=>some (x32.kind,x32.name,x32.kids)) (some (x1.kind,x1.name,x1.kids)))):Option (Int×Str×(List Ty))).bind fun s1=>((Hr n (Ty.mk s1.1 s1.2.1 s1.2.2)).bind fun x2=>(cond (!x2) (some ((Ty.mk 0 ([]:Str) ([])),false)) (cond (p0==35) ((idx p1 1).bind fun x3=>((bq n (Ty.mk s1.1 s1.2.1 s1.2.2) x3).bind fun x4=>some ((Ty.mk s1.1 s1.2.1 s1.2.2),x4))) (cond (p0==36) ((((idx p1 1).bind fun x8=>((Hr n x8).bind fun x9=>(cond (!x9) (some true) ((qJ n (Ty.mk s1.1 s1.2.1 s1.2.2)).bind fun x10=>((idx p1 1).bind fun x11=>((vH n x11).bind fun x12=>((bq n x10 x12).bind fun x13=>some (!x13)))))))):Option Bool).bind fun s2=>(cond s2 (some ((Ty.mk 0 ([]:Str) ([])),false)) ((vH n (Ty.mk s1.1 s1.2.1 s1.2.2)).bind fun x5=>((idx p1 1).bind fun x6=>((qJ n x6).bind fun x7=>some ((Ty.mk 5 ([]:Str) ([(Ty.mk 4 ([]:Str) ([x5,x7]))])),true)))))) (((cond (p0==37) (some (p0==37)) (some (p0==38))):Option Bool).bind fun s3=>(cond s3 ((idx p1 0).bind fun x14=>((vH n (Ty.mk s1.1 s1.2.1 s1.2.2)).bind fun x15=>((bq n x14 (Ty.mk 5 ([]:Str) ([x15]))).bind fun x16=>some ((Ty.mk s1.1 s1.2.1 s1.2.2),x16)))) (((cond (p0==39) (some (p0==39)) (some (p0==40))):Option Bool).bind fun s4=>(cond s4 ((idx p1 1).bind fun x17=>((qJ n (Ty.mk s1.1 s1.2.1 s1.2.2)).bind fun x18=>((bq n x17 (Ty.mk 5 ([]:Str) ([x18]))).bind fun x19=>some ((Ty.mk s1.1 s1.2.1 s1.2.2),x19)))) (cond (p0==50) ((vH n (Ty.mk s1.1 s1.2.1 s1.2.2)).bind fun x20=>some ((Ty.mk 5 ([]:Str) ([x20])),true)) (cond (p0==51) ((qJ n (Ty.mk s1.1 s1.2.1 s1.2.2)).bind fun x21=>some ((Ty.mk 5 ([]:Str) ([x21])),true)) (cond (p0==52) ((qJ n (Ty.mk s1.1 s1.2.1 s1.2.2)).bind fun x22=>((vH n (Ty.mk s1.1 s1.2.1 s1.2.2)).bind fun x23=>some ((Ty.mk 5 ([]:Str) ([(Ty.mk 4 ([]:Str) ([x22,x23]))])),true))) (cond (p0==53) ((qJ n (Ty.mk s1.1 s1.2.1 s1.2.2)).bind fun x24=>((idx p1 1).bind fun x25=>((vH n (Ty.mk s1.1 s1.2.1 s1.2.2)).bind fun x26=>((bq n x25 (Ty.mk 5 ([]:Str) ([x26]))).bind fun x27=>some ((Ty.mk 5 ([]:Str) ([x24])),x27))))) (cond (p0==54) ((qJ n (Ty.mk s1.1 s1.2.1 s1.2.2)).bind fun x28=>((idx p1 1).bind fun x29=>((vH n (Ty.mk s1.1 s1.2.1 s1.2.2)).bind fun x30=>((bq n x29 x30).bind fun x31=>some (x28,x31))))) (some ((Ty.mk 0 ([]:Str) ([])),false)))))))))))))))))
def lY(n:Nat)(p0:Tm)(p1:List Ty):Option (Ty×Bool):=(cond (p0.op==19) (some ((Ty.mk 1 ([]:Str) ([])),true)) (((cond (p0.op==21) (some (p0.op==21)) (cond (p0.op==22) (some (p0.op==22)) (cond (p0.op==23) (some (p0.op==23)) (cond (p0.op==24) (some (p0.op==24)) (cond (p0.op==25) (some (p0.op==25)) (some (p0.op==26))))))):Option Bool).bind fun s1=>(cond s1 ((Dw n p1 (Ty.mk 1 ([]:Str) ([]))).bind fun x1=>some ((Ty.mk 1 ([]:Str) ([])),x1)) (cond (p0.op==27) ((((idx p1 0).bind fun x2=>((idx p1 1).bind fun x3=>((idx p1 0).bind fun x4=>(cond (x4.kind !=2) ((idx p1 1).bind fun x5=>some ((x5.kind !=2),([x2,x3]))) (some (false,([x2,x3]))))))):Option (Bool×(List Ty))).bind fun s2=>some ((Ty.mk 4 ([]:Str) s2.2),s2.1)) (cond (p0.op==28) ((((idx p1 0).bind fun x6=>((idx p1 0).bind fun x7=>(cond (x7.kind !=2) ((idx p1 0).bind fun x8=>((Dw n p1 x8).bind fun x9=>some (x9,([x6])))) (some (false,([x6])))))):Option (Bool×(List Ty))).bind fun s3=>some ((Ty.mk 5 ([]:Str) s3.2),s3.1)) (cond (p0.op==29) (some ((Ty.mk 5 ([]:Str) ([p0.ty])),true)) (cond (p0.op==30) ((Dw n p1 (Ty.mk 1 ([]:Str) ([]))).bind fun x10=>some ((Ty.mk 5 ([]:Str) ([(Ty.mk 1 ([]:Str) ([]))])),x10)) (cond (p0.op==55) ((((idx p1 0).bind fun x11=>((idx p1 0).bind fun x12=>((jf n x12).bind fun x13=>(cond x13 ((idx p1 1).bind fun x14=>some ((x14.kind==2),x11.kind,x11.name,x11.kids)) (some (false,x11.kind,x11.name,x11.kids)))))):Option (Bool×Int×Str×(List Ty))).bind fun s4=>some ((Ty.mk s4.2.1 s4.2.2.1 s4.2.2.2),s4.1)) (cond (p0.op==56) ((((idx p1 0).bind fun x18=>((jf n x18).bind fun x19=>(cond (!x19) (some true) ((idx p1 1).bind fun x20=>some (x20.kind==2))))):Option Bool).bind fun s5=>(cond s5 (some ((Ty.mk 0 ([]:Str) ([])),false)) ((idx p1 0).bind fun x15=>((idx x15.kids 0).bind fun x16=>((idx p1 1).bind fun x17=>some ((Ty.mk 5 ([]:Str) ([(Ty.mk 4 ([]:Str) ([x16,x17]))])),true)))))) (cond (p0.op==47) ((idx p1 0).bind fun x21=>((jf n x21).bind fun x22=>some ((Ty.mk 1 ([]:Str) ([])),x22))) (((cond (p0.op==48) (some (p0.op==48)) (some (p0.op==49))):Option Bool).bind fun s6=>(cond s6 ((idx p1 0).bind fun x23=>((bq n x23 (Ty.mk 5 ([]:Str) ([(Ty.mk 1 ([]:Str) ([]))]))).bind fun x24=>some ((Ty.mk 1 ([]:Str) ([])),x24))) (cond (p0.op==46) ((idx p1 0).bind fun x25=>((idx p1 0).bind fun x26=>((jf n x26).bind fun x27=>some ((Ty.mk 5 ([]:Str) ([x25])),x27)))) (((cond (p0.op==31) (some (p0.op==31)) (cond (p0.op==32) (some (p0.op==32)) (some (p0.op==33)))):Option Bool).bind fun s7=>(cond s7 ((((idx p1 0).bind fun x28=>((idx p1 0).bind fun x29=>((jf n x29).bind fun x30=>(cond x30 ((idx p1 0).bind fun x31=>((idx p1 1).bind fun x32=>((bq n x31 x32).bind fun x33=>some (x33,x28.kind,x28.name,x28.kids)))) (some (false,x28.kind,x28.name,x28.kids)))))):Option (Bool×Int×Str×(List Ty))).bind fun s8=>some ((Ty.mk s8.2.1 s8.2.2.1 s8.2.2.2),s8.1)) (((cond (p0.op==34) (some (p0.op==34)) (cond (p0.op==41) (some (p0.op==41)) (cond (p0.op==42) (some (p0.op==42)) (cond (p0.op==43) (some (p0.op==43)) (cond (p0.op==44) (some (p0.op==44)) (some (p0.op==45))))))):Option Bool).bind fun s9=>(cond s9 ((((idx p1 0).bind fun x38=>((jf n x38).bind fun x39=>(cond (!x39) (some true) ((idx p1 1).bind fun x40=>((jf n x40).bind fun x41=>some (!x41)))))):Option Bool).bind fun s10=>(cond s10 (some ((Ty.mk 0 ([]:Str) ([])),false)) ((idx p1 0).bind fun x34=>((idx x34.kids 0).bind fun x35=>((idx p1 1).bind fun x36=>((idx x36.kids 0).bind fun x37=>(((cond (p0.op !=34) (some ([(Ty.mk 5 ([]:Str) ([(Ty.mk 4 ([]:Str) ([x35,x37]))]))])) (some ([(Ty.mk 4 ([]:Str) ([x35,x37]))]))):Option (List Ty)).bind fun s11=>some ((Ty.mk 5 ([]:Str) s11),true)))))))) (cond (decide (p0.op<35)) ((ad7 n p0.op p1).bind fun x42=>some (x42.1,x42.2)) ((TW n p0.op p1).bind fun x43=>some (x43.1,x43.2))))))))))))))))))))
def abK(n:Nat)(qap:F25t)(p0:Env)(p1:List Decl)(p2:Tm)(rec:((List Ty)×Int)→Option (LR (List Ty) (Ty×(List Int)×Int)))(s2:(List Ty)×Int):Option (LR (List Ty) (Ty×(List Int)×Int)):=(cond (decide (s2.2<(p2.kids.length:Int))) ((((((nZ n p2.op).bind fun x14=>(cond x14 (some (s2.2==1)) (some false))):Option Bool).bind fun s5=>(cond s5 ((idx s2.1 0).bind fun x8=>((jf n x8).bind fun x9=>(cond (!x9) (some (.rt ((Ty.mk 0 ([]:Str) ([])),([]:List Int),7))) ((app 64 ([]:List Decl) p1).bind fun x10=>((idx s2.1 0).bind fun x11=>((idx x11.kids 0).bind fun x12=>((app 64 x10 ([(Decl.mk p2.name x12)])).bind fun x13=>some (.nx x13)))))))) (some (.nx p1)))):Option (LR (List Decl) (Ty×(List Int)×Int))).bind (LR.el (fun s4=>((idx p2.kids s2.2).bind fun x4=>((qap p0 s4 x4).bind fun x5=>(cond (x5.2.2 !=0) ((app 8 ([s2.2]) x5.2.1).bind fun x6=>some (.rt ((Ty.mk 0 ([]:Str) ([])),x6,x5.2.2))) ((app 48 s2.1 ([x5.1])).bind fun x7=>rec (x7,(s2.2+1))))))) (fun r=>some (.rt r)))) (some (.nx s2.1)))
def Qo(n:Nat)(qap:F25t)(p0:Env)(p1:List Decl)(p2:Tm)(k:Nat):((List Ty)×Int)→Option (LR (List Ty) (Ty×(List Int)×Int)):=aV (abK n qap p0 p1 p2) k
def Bo(n:Nat)(qap:F25t)(p0:Env)(p1:List Decl)(p2:Tm):Option (Ty×(List Int)×Int):=(cond (p2.op==20) ((zZ n p0 p1 p2.name).bind fun x1=>(cond (!x1.2) (some ((Ty.mk 0 ([]:Str) ([])),([]:List Int),6)) (some (x1.1,([]:List Int),0)))) (((cond (p2.op==29) ((Ik n p0 p2.ty).bind fun x15=>some (!x15)) (some false)):Option Bool).bind fun s1=>(cond s1 (some ((Ty.mk 0 ([]:Str) ([])),([]:List Int),6)) ((Qo n qap p0 p1 p2 n (([]:List Ty),0)).bind (LR.el (fun s3=>((lY n p2 s3).bind fun x2=>(cond (!x2.2) (some ((Ty.mk 0 ([]:Str) ([])),([]:List Int),7)) ((qy n x2.1).bind fun x3=>(cond (!x3) (some ((Ty.mk 0 ([]:Str) ([])),([]:List Int),5)) (some (x2.1,([]:List Int),0))))))) (fun r=>some r))))))
def uQ:Nat→Env→(List Decl)→Tm→Option (Ty×(List Int)×Int)
 |0,_,_,_=>none
 |n+1,p0,p1,p2=>Bo n (uQ n) p0 p1 p2
def Wt(n:Nat)(qai:F16t)(p0:Ty)(rec:F28t)(s1:Int×(List Ty)):Option (LR (List Ty) Ty):=(cond (decide (s1.1<(p0.kids.length:Int))) ((idx p0.kids s1.1).bind fun x1=>((qai x1).bind fun x2=>((app 48 s1.2 ([x2])).bind fun x3=>rec ((s1.1+1),x3)))) (some (.nx s1.2)))
def Lg(n:Nat)(qai:F16t)(p0:Ty)(k:Nat):(Int×(List Ty))→Option (LR (List Ty) Ty):=aV (Wt n qai p0) k
def yg(n:Nat)(qai:F16t)(p0:Ty):Option Ty:=((Lg n qai p0 n (0,([]:List Ty))).bind (LR.el (fun s2=>some (Ty.mk p0.kind p0.name s2)) (fun r=>some r)))
def tL:Nat→Ty→Option Ty
 |0,_=>none
 |n+1,p0=>yg n (tL n) p0
def JL(n:Nat)(p0:Env)(p1:Tm):Option (Ty×(List Int)×Int):=((((xL n p0).bind fun x3=>(cond (!x3) (some true) ((uP n p1).bind fun x4=>some (!x4)))):Option Bool).bind fun s1=>(cond s1 (some ((Ty.mk 0 ([]:Str) ([])),([]:List Int),1)) ((uQ n p0 ([]:List Decl) p1).bind fun x1=>((tL n x1.1).bind fun x2=>some (x2,x1.2.1,x1.2.2)))))
def qp(n:Nat)(p0:Env)(p1:Tm):Option Int:=((JL n p0 p1).bind fun x1=>(((cond (x1.2.2==0) (some (x1.1.kind !=2)) (some false)):Option Bool).bind fun s1=>(cond s1 (some 7) (some x1.2.2))))
def adA(n:Nat)(p0:S_api_Sequent)(rec:F1t)(s2:Int):Option (LR Unit Int):=(cond (decide (s2<(p0.hyps.length:Int))) ((idx p0.hyps s2).bind fun x2=>((qp n p0.env x2).bind fun x3=>(cond (x3 !=0) (some (.rt x3)) (rec (s2+1))))) (some (.nx ())))
def Uk(n:Nat)(p0:S_api_Sequent)(k:Nat):Int→Option (LR Unit Int):=aV (adA n p0) k
def oU(n:Nat)(p0:S_api_Sequent):Option Int:=((((xL n p0.env).bind fun x4=>(cond (!x4) (some true) ((JG n p0.hyps).bind fun x5=>(cond (!x5) (some true) ((uP n p0.goal).bind fun x6=>some (!x6)))))):Option Bool).bind fun s1=>(cond s1 (some 1) (cond (decide (200<(p0.hyps.length:Int))) (some 5) ((Uk n p0 n 0).bind (LR.el (fun s3=>((qp n p0.env p0.goal).bind fun x1=>some x1)) (fun r=>some r))))))
def IG(n:Nat)(p0:List Str)(p1:List Str)(rec:F0t)(s1:Int):Option (LR Unit Bool):=(cond (decide (s1<(p0.length:Int))) ((idx p0 s1).bind fun x1=>((idx p1 s1).bind fun x2=>(cond (!(x1==x2)) (some (.rt false)) (rec (s1+1))))) (some (.nx ())))
def xD(n:Nat)(p0:List Str)(p1:List Str)(k:Nat):Int→Option (LR Unit Bool):=aV (IG n p0 p1) k
def slices_Equal_string(n:Nat)(p0:List Str)(p1:List Str):Option Bool:=(cond ((p0.length:Int)!=(p1.length:Int)) (some false) ((xD n p0 p1 n 0).bind (LR.el (fun s2=>some true) (fun r=>some r))))
def jl(n:Nat)(p0:Carrier)(p1:Carrier):Option Bool:=(((cond (p0.name==p1.name) ((slices_Equal_string n p0.elems p1.elems).bind fun x1=>some x1) (some false)):Option Bool).bind fun s1=>some s1)
def AQ(n:Nat)(p0:List Carrier)(p1:List Carrier)(rec:F0t)(s1:Int):Option (LR Unit Bool):=(cond (decide (s1<(p0.length:Int))) ((idx p0 s1).bind fun x1=>((idx p1 s1).bind fun x2=>((jl n x1 x2).bind fun x3=>(cond (!x3) (some (.rt false)) (rec (s1+1)))))) (some (.nx ())))
def qP(n:Nat)(p0:List Carrier)(p1:List Carrier)(k:Nat):Int→Option (LR Unit Bool):=aV (AQ n p0 p1) k
def vN(n:Nat)(p0:List Carrier)(p1:List Carrier):Option Bool:=(cond ((p0.length:Int)!=(p1.length:Int)) (some false) ((qP n p0 p1 n 0).bind (LR.el (fun s2=>some true) (fun r=>some r))))
def Af(n:Nat)(p0:Ty)(p1:Ty):Option Bool:=((((jw n p0).bind fun x1=>(cond x1 ((jw n p1).bind fun x2=>(cond x2 ((eZ n p0 p1).bind fun x3=>some x3) (some false))) (some false))):Option Bool).bind fun s1=>some s1)
def lG(n:Nat)(p0:Decl)(p1:Decl):Option Bool:=(((cond (p0.name==p1.name) ((Af n p0.ty p1.ty).bind fun x1=>some x1) (some false)):Option Bool).bind fun s1=>some s1)
def FB(n:Nat)(p0:List Decl)(p1:List Decl)(rec:F0t)(s1:Int):Option (LR Unit Bool):=(cond (decide (s1<(p0.length:Int))) ((idx p0 s1).bind fun x1=>((idx p1 s1).bind fun x2=>((lG n x1 x2).bind fun x3=>(cond (!x3) (some (.rt false)) (rec (s1+1)))))) (some (.nx ())))
def vo(n:Nat)(p0:List Decl)(p1:List Decl)(k:Nat):Int→Option (LR Unit Bool):=aV (FB n p0 p1) k
def yL(n:Nat)(p0:List Decl)(p1:List Decl):Option Bool:=(cond ((p0.length:Int)!=(p1.length:Int)) (some false) ((vo n p0 p1 n 0).bind (LR.el (fun s2=>some true) (fun r=>some r))))
def vU(n:Nat)(p0:Env)(p1:Env):Option Bool:=((((vN n p0.carriers p1.carriers).bind fun x1=>(cond x1 ((yL n p0.names p1.names).bind fun x2=>some x2) (some false))):Option Bool).bind fun s1=>some s1)
def Ic(n:Nat)(p0:Tm):Option Bool:=((Ah n p0).bind fun x1=>some (!x1))
def Cw(n:Nat)(p0:List Tm)(rec:F1t)(s1:Int):Option (LR Unit Int):=(cond (decide (s1<(p0.length:Int))) ((idx p0 s1).bind fun x1=>((Ic n x1).bind fun x2=>(cond x2 (some (.rt s1)) (rec (s1+1))))) (some (.nx ())))
def rZ(n:Nat)(p0:List Tm)(k:Nat):Int→Option (LR Unit Int):=aV (Cw n p0) k
def wH(n:Nat)(p0:List Tm):Option Int:=((rZ n p0 n 0).bind (LR.el (fun s2=>some (-1)) (fun r=>some r)))
def sN(n:Nat)(p0:List Tm):Option Bool:=((wH n p0).bind fun x1=>some (decide (0≤x1)))
def Fp(n:Nat)(p0:List Tm):Option Bool:=((sN n p0).bind fun x1=>some (!x1))
def vk(n:Nat)(qa2:F3t)(qau:F4t)(p0:Ty)(p1:Ty):Option Bool:=(((cond (p0.kind==p1.kind) (cond (p0.name==p1.name) ((qau p0.kids p1.kids).bind fun x1=>some x1) (some false)) (some false)):Option Bool).bind fun s1=>some s1)
def DJ(n:Nat)(qa2:F3t)(qau:F4t)(p0:List Ty)(p1:List Ty)(rec:F0t)(s1:Int):Option (LR Unit Bool):=(cond (decide (s1<(p0.length:Int))) ((idx p0 s1).bind fun x1=>((idx p1 s1).bind fun x2=>((qa2 x1 x2).bind fun x3=>(cond (!x3) (some (.rt false)) (rec (s1+1)))))) (some (.nx ())))
def sV(n:Nat)(qa2:F3t)(qau:F4t)(p0:List Ty)(p1:List Ty)(k:Nat):Int→Option (LR Unit Bool):=aV (DJ n qa2 qau p0 p1) k
def kP(n:Nat)(qa2:F3t)(qau:F4t)(p0:List Ty)(p1:List Ty):Option Bool:=(cond ((p0.length:Int)!=(p1.length:Int)) (some false) ((sV n qa2 qau p0 p1 n 0).bind (LR.el (fun s2=>some true) (fun r=>some r))))
mutual
def ko:Nat→Ty→Ty→Option Bool
 |0,_,_=>none
 |n+1,p0,p1=>vk n (ko n) (kD n) p0 p1
def kD:Nat→(List Ty)→(List Ty)→Option Bool
 |0,_,_=>none
 |n+1,p0,p1=>kP n (ko n) (kD n) p0 p1
end
def MV(n:Nat)(qa3:F26t)(p0:S_term_scope)(p1:Tm)(p2:Tm)(rec:F0t)(s3:Int):Option (LR Unit Bool):=(cond (decide (s3<(p1.kids.length:Int))) ((((((pz n p1.op).bind fun x10=>(cond x10 (some (s3==1)) (some false))):Option Bool).bind fun s6=>(cond s6 ((fK n p0.a).bind fun x6=>((app 16 x6 ([p1.name])).bind fun x7=>((fK n p0.b).bind fun x8=>((app 16 x8 ([p2.name])).bind fun x9=>some (x7,x9))))) (some (p0.a,p0.b)))):Option ((List Str)×(List Str))).bind fun s5=>((idx p1.kids s3).bind fun x3=>((idx p2.kids s3).bind fun x4=>((qa3 (S_term_scope.mk s5.1 s5.2) x3 x4).bind fun x5=>(cond (!x5) (some (.rt false)) (rec (s3+1))))))) (some (.nx ())))
def Ay(n:Nat)(qa3:F26t)(p0:S_term_scope)(p1:Tm)(p2:Tm)(k:Nat):Int→Option (LR Unit Bool):=aV (MV n qa3 p0 p1 p2) k
def qh(n:Nat)(qa3:F26t)(p0:S_term_scope)(p1:Tm)(p2:Tm):Option Bool:=(((cond (p1.op !=p2.op) (some true) (cond (p1.n !=p2.n) (some true) ((ko n p1.ty p2.ty).bind fun x11=>(cond (!x11) (some true) (some ((p1.kids.length:Int)!=(p2.kids.length:Int))))))):Option Bool).bind fun s1=>(cond s1 (some false) (cond (p1.op==20) ((oN n p0.a p1.name).bind fun x1=>((oN n p0.b p2.name).bind fun x2=>(((cond (x1==x2) (cond (decide (0≤x1)) (some true) (some (p1.name==p2.name))) (some false)):Option Bool).bind fun s2=>some s2))) ((Ay n qa3 p0 p1 p2 n 0).bind (LR.el (fun s4=>some true) (fun r=>some r))))))
def jg:Nat→S_term_scope→Tm→Tm→Option Bool
 |0,_,_,_=>none
 |n+1,p0,p1,p2=>qh n (jg n) p0 p1 p2
def rz(n:Nat)(p0:Tm)(p1:Tm):Option Bool:=((((Fp n ([p0,p1])).bind fun x1=>(cond x1 ((jg n (S_term_scope.mk ([]) ([])) p0 p1).bind fun x2=>some x2) (some false))):Option Bool).bind fun s1=>some s1)
def FL(n:Nat)(p0:List Tm)(p1:List Tm)(rec:F0t)(s1:Int):Option (LR Unit Bool):=(cond (decide (s1<(p0.length:Int))) ((idx p0 s1).bind fun x1=>((idx p1 s1).bind fun x2=>((rz n x1 x2).bind fun x3=>(cond (!x3) (some (.rt false)) (rec (s1+1)))))) (some (.nx ())))
def uV(n:Nat)(p0:List Tm)(p1:List Tm)(k:Nat):Int→Option (LR Unit Bool):=aV (FL n p0 p1) k
def zi(n:Nat)(p0:List Tm)(p1:List Tm):Option Bool:=(cond ((p0.length:Int)!=(p1.length:Int)) (some false) ((uV n p0 p1 n 0).bind (LR.el (fun s2=>some true) (fun r=>some r))))
def pq(n:Nat)(p0:S_api_Sequent)(p1:S_api_Sequent):Option Bool:=((((lC n p0).bind fun x1=>(cond (x1==0) ((lC n p1).bind fun x2=>(cond (x2==0) ((vU n p0.env p1.env).bind fun x3=>(cond x3 ((iV n p0).bind fun x4=>((iV n p1).bind fun x5=>((zi n x4 x5).bind fun x6=>some x6))) (some false))) (some false))) (some false))):Option Bool).bind fun s1=>some s1)
def zI(n:Nat)(p0:Carrier)(p1:Str)(p2:List Str):Option Bool:=((jl n p0 (Carrier.mk p1 p2)).bind fun x1=>some x1)
def zu(n:Nat)(p0:List Carrier)(p1:Str)(p2:List Str)(rec:F1t)(s1:Int):Option (LR Unit Int):=(cond (decide (s1<(p0.length:Int))) ((idx p0 s1).bind fun x1=>((zI n x1 p1 p2).bind fun x2=>(cond x2 (some (.rt s1)) (rec (s1+1))))) (some (.nx ())))
def oD(n:Nat)(p0:List Carrier)(p1:Str)(p2:List Str)(k:Nat):Int→Option (LR Unit Int):=aV (zu n p0 p1 p2) k
def qR(n:Nat)(p0:List Carrier)(p1:Str)(p2:List Str):Option Int:=((oD n p0 p1 p2 n 0).bind (LR.el (fun s2=>some (-1)) (fun r=>some r)))
def kr(n:Nat)(p0:List Carrier)(p1:Str)(p2:List Str):Option Bool:=((qR n p0 p1 p2).bind fun x1=>some (decide (0≤x1)))
def Ac(n:Nat)(p0:Decl)(p1:Str)(p2:Int)(p3:Str)(p4:List Ty):Option Bool:=((lG n p0 (Decl.mk p1 (Ty.mk p2 p3 p4))).bind fun x1=>some x1)
def Fb(n:Nat)(p0:List Decl)(p1:Str)(p2:Int)(p3:Str)(p4:List Ty)(rec:F1t)(s1:Int):Option (LR Unit Int):=(cond (decide (s1<(p0.length:Int))) ((idx p0 s1).bind fun x1=>((Ac n x1 p1 p2 p3 p4).bind fun x2=>(cond x2 (some (.rt s1)) (rec (s1+1))))) (some (.nx ())))
def uY(n:Nat)(p0:List Decl)(p1:Str)(p2:Int)(p3:Str)(p4:List Ty)(k:Nat):Int→Option (LR Unit Int):=aV (Fb n p0 p1 p2 p3 p4) k
def ze(n:Nat)(p0:List Decl)(p1:Str)(p2:Int)(p3:Str)(p4:List Ty):Option Int:=((uY n p0 p1 p2 p3 p4 n 0).bind (LR.el (fun s2=>some (-1)) (fun r=>some r)))
def nA(n:Nat)(p0:List Decl)(p1:Str)(p2:Int)(p3:Str)(p4:List Ty):Option Bool:=((ze n p0 p1 p2 p3 p4).bind fun x1=>some (decide (0≤x1)))
def xA(n:Nat)(p0:Tm)(p1:Int)(p2:Str)(p3:Int)(p4:Int)(p5:Str)(p6:List Ty)(p7:List Tm):Option Bool:=((rz n p0 (Tm.mk p1 p2 p3 (Ty.mk p4 p5 p6) p7)).bind fun x1=>some x1)
def Dv(n:Nat)(p0:List Tm)(p1:Int)(p2:Str)(p3:Int)(p4:Int)(p5:Str)(p6:List Ty)(p7:List Tm)(rec:F1t)(s1:Int):Option (LR Unit Int):=(cond (decide (s1<(p0.length:Int))) ((idx p0 s1).bind fun x1=>((xA n x1 p1 p2 p3 p4 p5 p6 p7).bind fun x2=>(cond x2 (some (.rt s1)) (rec (s1+1))))) (some (.nx ())))
def sH(n:Nat)(p0:List Tm)(p1:Int)(p2:Str)(p3:Int)(p4:Int)(p5:Str)(p6:List Ty)(p7:List Tm)(k:Nat):Int→Option (LR Unit Int):=aV (Dv n p0 p1 p2 p3 p4 p5 p6 p7) k
def wR(n:Nat)(p0:List Tm)(p1:Int)(p2:Str)(p3:Int)(p4:Int)(p5:Str)(p6:List Ty)(p7:List Tm):Option Int:=((sH n p0 p1 p2 p3 p4 p5 p6 p7 n 0).bind (LR.el (fun s2=>some (-1)) (fun r=>some r)))
def sZ(n:Nat)(p0:List Tm)(p1:Int)(p2:Str)(p3:Int)(p4:Int)(p5:Str)(p6:List Ty)(p7:List Tm):Option Bool:=((wR n p0 p1 p2 p3 p4 p5 p6 p7).bind fun x1=>some (decide (0≤x1)))
def oL(n:Nat)(p0:List Tm)(p1:Tm):Option Bool:=((sZ n p0 p1.op p1.name p1.n p1.ty.kind p1.ty.name p1.ty.kids p1.kids).bind fun x1=>some x1)
def Td(n:Nat)(p0:S_api_Sequent)(p1:S_api_Sequent)(rec:F0t)(s2:Int):Option (LR Unit Bool):=(cond (decide (s2<(p0.env.carriers.length:Int))) ((idx p0.env.carriers s2).bind fun x5=>((kr n p1.env.carriers x5.name x5.elems).bind fun x6=>(cond (!x6) (some (.rt false)) (rec (s2+1))))) (some (.nx ())))
def Gl(n:Nat)(p0:S_api_Sequent)(p1:S_api_Sequent)(k:Nat):Int→Option (LR Unit Bool):=aV (Td n p0 p1) k
def SE(n:Nat)(p0:S_api_Sequent)(p1:S_api_Sequent)(rec:F0t)(s4:Int):Option (LR Unit Bool):=(cond (decide (s4<(p0.env.names.length:Int))) ((idx p0.env.names s4).bind fun x3=>((nA n p1.env.names x3.name x3.ty.kind x3.ty.name x3.ty.kids).bind fun x4=>(cond (!x4) (some (.rt false)) (rec (s4+1))))) (some (.nx ())))
def GL(n:Nat)(p0:S_api_Sequent)(p1:S_api_Sequent)(k:Nat):Int→Option (LR Unit Bool):=aV (SE n p0 p1) k
def SH(n:Nat)(p0:S_api_Sequent)(p1:S_api_Sequent)(rec:F0t)(s6:Int):Option (LR Unit Bool):=(cond (decide (s6<(p0.hyps.length:Int))) ((idx p0.hyps s6).bind fun x1=>((oL n p1.hyps x1).bind fun x2=>(cond (!x2) (some (.rt false)) (rec (s6+1))))) (some (.nx ())))
def Hz(n:Nat)(p0:S_api_Sequent)(p1:S_api_Sequent)(k:Nat):Int→Option (LR Unit Bool):=aV (SH n p0 p1) k
def fH(n:Nat)(p0:S_api_Sequent)(p1:S_api_Sequent):Option Bool:=((((lC n p0).bind fun x7=>(cond (x7 !=0) (some true) ((lC n p1).bind fun x8=>(cond (x8 !=0) (some true) ((rz n p0.goal p1.goal).bind fun x9=>some (!x9)))))):Option Bool).bind fun s1=>(cond s1 (some false) ((Gl n p0 p1 n 0).bind (LR.el (fun s3=>((GL n p0 p1 n 0).bind (LR.el (fun s5=>((Hz n p0 p1 n 0).bind (LR.el (fun s7=>some true) (fun r=>some r)))) (fun r=>some r)))) (fun r=>some r)))))
def zH(n:Nat)(p0:S_api_Sequent)(p1:S_api_Sequent)(p2:S_api_Sequent):Option Bool:=((((vE n p0).bind fun x15=>(cond (!x15) (some true) ((vE n p1).bind fun x16=>(cond (!x16) (some true) ((vE n p2).bind fun x17=>some (!x17)))))):Option Bool).bind fun s1=>(cond s1 ((Ie n).bind fun x1=>some x1) ((fH n p0 p1).bind fun x2=>((fH n p1 p2).bind fun x3=>((fH n p0 p2).bind fun x4=>((pq n p0 p1).bind fun x5=>(((cond x2 (cond x3 (cond (!x4) (some true) (cond x5 (cond (!x2) (some true) ((fH n p1 p0).bind fun x12=>some (!x12))) (some false))) (cond x5 (cond (!x2) (some true) ((fH n p1 p0).bind fun x13=>some (!x13))) (some false))) (cond x5 (cond (!x2) (some true) ((fH n p1 p0).bind fun x14=>some (!x14))) (some false))):Option Bool).bind fun s2=>(cond s2 (some false) ((((fH n p0 p0).bind fun x6=>((oU n p0).bind fun x7=>(cond (x6==(x7==0)) ((pq n p0 p0).bind fun x8=>((oU n p0).bind fun x9=>(cond (x8==(x9==0)) ((pq n p1 p0).bind fun x10=>(cond (x5==x10) ((Ie n).bind fun x11=>some x11) (some false))) (some false)))) (some false)))):Option Bool).bind fun s3=>some s3)))))))))
end Abs
end Go.Proofs.YtbijdmihdagfaaaGreatDoor
