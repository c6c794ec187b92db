/-
  The plain functions. Conditions: none.
-/
import Derived.Test.YthgdaonechbgmaaGreatCFnox1d05cb
import Derived.Test.YthgdaonechbgmaaGreatCP1ox2e3983
set_option linter.all false

namespace Go.Proofs.YthgdaonechbgmaaGreat
namespace Abs
open Go

def abf(c:Carrier)(s:Int):Bool:=cond (decide (s<1)) true (cond (decide (8<s)) true (cond (decide (0<(c.elems.length:Int))) (s !=(c.elems.length:Int)) false))
def J4:List Carrier→List Int→Bool
  |c::cs,s::ss=>!(abf c s)&&J4 cs ss
  |_,_=>true
def uj(env:Env)(sz:List Int):Bool:=!((sz.length:Int)!=(env.carriers.length:Int))&&J4 env.carriers sz
theorem Dk{env:Env}{sz:List Int}(h:uj env sz=true):sz.length=env.carriers.length:=by
  unfold uj at h;simp only[qAa,qAV,bne_eq_false_iff_eq]at h;omega
def Fp:List Val→Bool
  |a::b::r=>!(decide (0≤bQ a b))&&Fp (b::r)
  |_=>true
def acs(v:Val):Bool:=v.kind==1&&(v.name==[]&&((v.kids.length:Int)==0&&(decide ((-1000000000)≤v.n)&&decide (v.n≤1000000000))))
def abw(v:Val):Bool:=v.kind==2&&(v.name==[]&&((v.kids.length:Int)==0&&(v.n==0 ||v.n==1)))
def He(env:Env)(sz:List Int)(nm:Str):Int:=(idx sz (dR (fun c=>c.name==nm) 0 env.carriers)).getD 0
def OD(env:Env)(sz:List Int)(nm:Str)(v:Val):Bool:=v.kind==3&&(v.name==nm&&((v.kids.length:Int)==0&&(decide (0≤v.n)&&decide (v.n<He env sz nm))))
mutual
def hasB(env:Env)(sz:List Int):Ty→Val→Bool
  | .mk k nm ks,v=>cond (k==1) (acs v) (cond (k==2) (abw v) (cond (k==3) (OD env sz nm v) (cond (k==4) (v.kind==4&&(v.n==0&&(v.name==[]&&((v.kids.length:Int)==2&&Zk env sz ks v.kids))))
      ((v.kind==5&&(v.n==0&&(v.name==[]&&!(decide (256<(v.kids.length:Int))))))&&(awR env sz ks v.kids&&Fp v.kids)))))
def Zk(env:Env)(sz:List Int):List Ty→List Val→Bool
  |[],_=>true
  |t::ts,vs=>match vs with
    |[]=>true
    |v::vs=>hasB env sz t v&&Zk env sz ts vs
def awR(env:Env)(sz:List Int):List Ty→List Val→Bool
  |[],_=>true
  |t::_,vs=>vs.all fun v=>hasB env sz t v
end

end Abs
end Go.Proofs.YthgdaonechbgmaaGreat
