/-
  Plain functions of what the evaluator reaches and is proved by hand. Conditions: none.
-/
import Derived.Test.YthgdaonechbgmaaGreatCV1ox3b2fa6
set_option linter.all false
namespace Go.Proofs.YthgdaonechbgmaaGreat
namespace Abs
open Go
def Df(_:Nat)(p0:List Val):Option (List Val):=app 56 ([]:List Val) p0
def jZ(_:Nat)(p0:List Val):Option (List Val):=app 56 ([]:List Val) p0
def zq(_:Nat)(p0:List (List Val)):Option (List (List Val)):=app 24 ([]:List (List Val)) p0
def slices_Clone_Type(_:Nat)(p0:List Ty):Option (List Ty):=app 48 ([]:List Ty) p0
def slices_Clip_Type(_:Nat)(p0:List Ty):Option (List Ty):=some p0
def clipS{α:Type}(p0:List α):Option (List α):=cond (Nat.ble p0.length 140737488355328) (some p0) none
def slices_Clip_Term_s(_:Nat)(p0:List Tm):Option (List Tm):=clipS p0
def yA(_:Nat)(p0:List Val):Option (List Val):=some p0
def kH(_:Nat)(p0:List Val):Option (List Val):=(app 56 ([]:List Val) p0).bind fun r=>some (sortV r)
def Fw(_:Nat)(k:Int):Option (List Val):=bif decide (0≤k)&&decide (k*56≤140737488355328)then some []else none
def BX(n:Nat)(p0:Str)(p1:Int)(rec:((List Val)×Int)→Option (LR (List Val) (List Val)))(s1:(List Val)×Int):Option (LR (List Val) (List Val)):=(cond (decide (s1.2<p1)) ((app 56 s1.1 ([(Val.mk 3 s1.2 p0 ([]))])).bind fun(x1:List Val)=>rec (x1,(s1.2+1))) (some (.nx s1.1)))
def al0(n:Nat)(p0:Str)(p1:Int)(k:Nat):((List Val)×Int)→Option (LR (List Val) (List Val)):=aL (BX n p0 p1) k
def MH(n:Nat)(p0:Str)(p1:Int):Option (List Val):=((al0 n p0 p1 n (([]:List Val),0)).bind (LR.el (fun(s2:List Val)=>some s2) (fun r=>some r)))
def asI(n:Nat)(p0:List Str)(p1:Str)(rec:Int→Option (LR Unit Int))(s1:Int):Option (LR Unit Int):=(cond (decide (s1<(p0.length:Int))) ((idx p0 s1).bind fun(x1:Str)=>(cond (p1==x1) (some (.rt s1)) (rec (s1+1)))) (some (.nx ())))
def ae8(n:Nat)(p0:List Str)(p1:Str)(k:Nat):Int→Option (LR Unit Int):=aL (asI n p0 p1) k
def Y1(n:Nat)(p0:List Str)(p1:Str):Option Int:=((ae8 n p0 p1 n 0).bind (LR.el (fun(s2:Unit)=>some (-1)) (fun r=>some r)))
def FN(n:Nat)(p0:List Carrier)(p2:List Int)(p5:Str)(rec:Int→Option (LR Unit (PZ Val Unit)))(s2:Int):Option (LR Unit (PZ Val Unit)):=(cond (decide (s2<(p0.length:Int))) ((idx p0 s2).bind fun(x1:Carrier)=>(cond (x1.name==p5) ((idx p2 s2).bind fun(x2:Int)=>((MH n x1.name x2).bind fun(x3:List Val)=>some (.rt (.ok (Val.mk 5 0 ([]:Str) x3))))) ((Y1 n x1.elems p5).bind fun(x4:Int)=>(cond (decide (0≤x4)) (some (.rt (.ok (Val.mk 3 x4 x1.name ([]))))) (rec (s2+1)))))) (some (.nx ())))
def YV(n:Nat)(p0:List Carrier)(p2:List Int)(p5:Str)(k:Nat):Int→Option (LR Unit (PZ Val Unit)):=aL (FN n p0 p2 p5) k
def adY(n:Nat)(p0:List Carrier)(p1:List Decl)(p2:List Int)(p3:List (Str×Val))(p4:List Bound)(p5:Str):Option (PZ Val Unit):=(((mel (dn p3 p5) (some (false,0,0,([]:Str),([]:List Val))) (fun(x5:Val)=>some (true,x5.kind,x5.n,x5.name,x5.kids))):Option (Bool×Int×Int×Str×(List Val))).bind fun(s1:Bool×Int×Int×Str×(List Val))=>(cond s1.1 (some (.ok (Val.mk s1.2.1 s1.2.2.1 s1.2.2.2.1 s1.2.2.2.2))) ((YV n p0 p2 p5 n 0).bind (LR.el (fun(s3:Unit)=>some (.er 6 ())) (fun r=>some r)))))
def nY(n:Nat)(cs:List Carrier)(ds:List Decl)(sizes:List Int)(m:List (Str×Val))(bound:List Bound)(name:Str):Option (PZ Val Unit):=
 match bound.reverse.find? (fun b=>b.name==name)with
 |some b=>some (.ok b.v)
 |none=>adY n cs ds sizes m bound name
end Abs
end Go.Proofs.YthgdaonechbgmaaGreat
