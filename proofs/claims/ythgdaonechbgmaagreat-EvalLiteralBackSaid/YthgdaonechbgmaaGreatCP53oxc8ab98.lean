/-
  That a value has a type, at both sides; worlds and scopes; the law EvalHas. Conditions: none; lemmas without a program.
-/
import Derived.Test.YthgdaonechbgmaaGreatCP8ox7d5bce
set_option linter.all false
namespace Go.Proofs.YthgdaonechbgmaaGreat
namespace Abs
open Go
theorem MQ(n:Nat)(qbu:Env→(List Int)→Val→Ty→Option Bool)(p0:Env)(p1:List Int)(p2:Val)(p3:Ty)(k:Nat)(s:Int):Dx n qbu p0 p1 p2 p3 (k+1) s=DW n qbu p0 p1 p2 p3 (Dx n qbu p0 p1 p2 p3 k) s:=rfl
def apJ(f:Val→Bool):Val→List Val→Bool
 |_,[]=>true
 |x,y::s=>f y&&(!(decide (0≤bQ x y))&&apJ f y s)
theorem avb(f:Val→Bool):∀(s:List Val) (x:Val),apJ f x s=(s.all f&&Fp (x::s))
 |[],_=>rfl
 |y::s,x=>by
  simp only[apJ,qBC,Fp];rw[avb f s y];cases f y<;>cases decide (0≤bQ x y)<;>cases s.all f<;>cases Fp (y::s)<;>rfl
theorem aBQ(env:Env)(sz:List Int)(ty t:Ty)(v:Val)(pre:List Val)(x y:Val)(suf:List Val)(hk:v.kids=pre++[x]++y::suf)(ht:ty.kids=[t])(hvl:v.kids.length≤9223372036854775807)(hx:gU x)(H:Ev (fun n=>wU n env sz y t) (hasB env sz t y)):Ev (fun n=>(((idx v.kids ((pre++[x]).length:Int)).bind fun(x9:Val)=>((idx ty.kids 0).bind fun(x10:Ty)=>((wU n env sz x9 x10).bind fun(x11:Bool)=>(cond (!x11) (some true) (cond (decide (0<((pre++[x]).length:Int))) ((idx v.kids (IntKind.wrap .i64 (((pre++[x]).length:Int) - 1))).bind fun(x12:Val)=>((idx v.kids ((pre++[x]).length:Int)).bind fun(x13:Val)=>((nI n x12 x13).bind fun(x14:Int)=>some (decide (0≤x14))))) (some false)))))):Option Bool)) (!(hasB env sz t y&&!(decide (0≤bQ x y)))):=by
 have ew:IntKind.wrap .i64 (((pre++[x]).length:Int) - 1)=(pre.length:Int):=by
  have hl:pre.length≤v.kids.length:=by rw[hk];simp<;>omega
  rw[qAe,qAI,show(((pre.length+1:Nat):Int) - 1)=(pre.length:Int) by omega,wrap64 (by omega) (by omega)]
 have i1:idx v.kids (pre.length:Int)=some x:=by rw[hk,qAm,qCF];exact gJ _ _ _
 have i2:idx v.kids ((pre++[x]).length:Int)=some y:=by rw[hk];exact gJ _ _ _
 rw[ew,i1,i2,ht,decide_eq_true (show 0<(((pre++[x]).length:Nat):Int) by rw[qAe,qAI];omega)];simp only[qAb,cond_true,show idx [t] 0=some t from rfl];refine Ev.bind H ?_;cases hasB env sz t y with
 |false=>exact Ev.ret _
 |true=>
  simp only[qAv,cond_false,qAu,qCk];exact Ev.bind (afE x y hx) (Ev.ret _)
theorem anx(env:Env)(sz:List Int)(ty t:Ty)(v:Val)(hvl:v.kids.length≤9223372036854775807)(ht:ty.kids=[t])(H:∀u,gU u→Ev (fun n=>wU n env sz u t) (hasB env sz t u))(hv:∀u∈v.kids,gU u):∀(suf pre:List Val) (x:Val),v.kids=pre++[x]++suf→∃N,∀n,N≤n→∀k,suf.length+1≤k→Dx n (wU n) env sz v ty k ((pre++[x]).length:Int)=some (cond (apJ (hasB env sz t) x suf) (.nx ()) (.rt false))
 |[],pre,x,e=>by
  refine⟨0,fun n _ k hk=>?_⟩;obtain⟨j,rfl⟩:∃j,k=j+1:=⟨k - 1,by simp at hk;omega⟩;rw[MQ];unfold DW;rw[decide_eq_false (by rw[e];simp)];rfl
 |y::suf,pre,x,e=>by
  obtain⟨N1,h1⟩:=aBQ env sz ty t v pre x y suf e ht hvl (hv x (by rw[e];simp)) (H y (hv y (by rw[e];simp)));obtain⟨N2,h2⟩:=anx env sz ty t v hvl ht H hv suf (pre++[x]) y (by rw[e];simp);refine⟨N1+N2,fun n hn k hk=>?_⟩;obtain⟨j,rfl⟩:∃j,k=j+1:=⟨k - 1,by simp at hk;omega⟩;have h1:=h1 n (by omega);have h2:=h2 n (by omega) j (by simp at hk;omega);rw[MQ];unfold DW;rw[decide_eq_true (by rw[e];simp;omega)];simp only[cond_true];simp only at h1;rw[h1];simp only[qAb,apJ];cases hasB env sz t y with
  |false=>rfl
  |true=>
   cases decide (0≤bQ x y)with
   |true=>rfl
   |false=>
    simp only[cond_false,qBb,qAu,qAv];rw[show((pre++[x]).length:Int)+1=((pre++[x]++[y]).length:Int) by simp only[qAe,qAI];omega];exact h2
theorem aEO(env:Env)(sz:List Int)(ty t:Ty)(v:Val)(hvl:v.kids.length≤9223372036854775807)(ht:ty.kids=[t])(H:∀u,gU u→Ev (fun n=>wU n env sz u t) (hasB env sz t u))(hv:∀u∈v.kids,gU u):Ev (fun n=>Dx n (wU n) env sz v ty n 0) (cond ((v.kids.all fun u=>hasB env sz t u)&&Fp v.kids) (.nx ()) (.rt false)):=by
 cases hks:v.kids with
 |nil=>
  refine⟨1,fun n hn=>?_⟩;obtain⟨j,rfl⟩:∃j,n=j+1:=⟨n - 1,by omega⟩;show Dx (j+1) _ env sz v ty (j+1) 0=_;rw[MQ];unfold DW;rw[decide_eq_false (by rw[hks];simp)];rfl
 |cons x xs=>
  obtain⟨N1,h1⟩:=H x (hv x (by rw[hks];simp));obtain⟨N2,h2⟩:=anx env sz ty t v hvl ht H hv xs [] x (by rw[hks];rfl);refine⟨N1+N2+xs.length+3,fun n hn=>?_⟩;obtain⟨j,rfl⟩:∃j,n=j+1:=⟨n - 1,by omega⟩;have h1:wU (j+1) env sz x t=_:=h1 (j+1) (by omega);have h2:=h2 (j+1) (by omega) j (by omega);show Dx (j+1) _ env sz v ty (j+1) 0=_;rw[MQ];unfold DW;rw[decide_eq_true (by rw[hks,qAp];omega),ht,hks];simp only[cond_true,show idx (x::xs) 0=some x from rfl,show idx [t] 0=some t from rfl,qAb,show decide ((0:Int)<0)=false from rfl,cond_false];rw[h1];simp only[qAb,qBC];have er:=avb (hasB env sz t) xs x;cases hasB env sz t x with
  |false=>rfl
  |true=>
   simp only[qAv,cond_false,qAb,qAu];rw[←er];exact h2
theorem avl(env:Env)(sz:List Int)(hl:sz.length=env.carriers.length):∀{t:Ty},Shp t→(dX t).all (dP env)=true→∀v,gU v→Ev (fun n=>wU n env sz v t) (hasB env sz t v):=by
 intro t h
 induction h with
 |int=>
  intro _ v _;refine Ev.succ ?_;show Ev (fun n=>nA n _ env sz v (.mk 1 [] [])) _;unfold nA;refine Ev.pos rfl ?_;refine Ev.bind (a:=acs v) ?_ (Ev.ret _);unfold acs;cases v.kind==1<;>cases decide ((-1000000000)≤v.n)<;>cases decide (v.n≤1000000000)<;>cases v.name==[]<;>cases(v.kids.length:Int)==0<;>exact Ev.ret _
 |bool=>
  intro _ v _;refine Ev.succ ?_;show Ev (fun n=>nA n _ env sz v (.mk 2 [] [])) _;unfold nA;refine Ev.neg rfl ?_;refine Ev.pos rfl ?_;refine Ev.bind (a:=abw v) ?_ (Ev.ret _);unfold abw;cases v.kind==2<;>cases v.n==0<;>cases v.n==1<;>cases v.name==[]<;>cases(v.kids.length:Int)==0<;>exact Ev.ret _
 |car nm=>
  intro hc v _;have hc:dP env nm=true:=by simpa[dX]using hc
  obtain⟨g1,g2⟩:=ave hl hc;refine Ev.succ ?_;show Ev (fun n=>nA n _ env sz v (.mk 3 nm [])) _;unfold nA;refine Ev.neg rfl ?_;refine Ev.neg rfl ?_;refine Ev.pos rfl ?_;refine Ev.bind (a:=OD env sz nm v) ?_ (Ev.ret _);simp only[Ty.name];unfold OD;cases v.kind==3 with
  |false=>exact Ev.ret _
  |true=>
   cases v.name==nm with
   |false=>exact Ev.ret _
   |true=>
    cases(v.kids.length:Int)==0 with
    |false=>exact Ev.ret _
    |true=>
     cases decide (0≤v.n)with
     |false=>exact Ev.ret _
     |true=>
      simp only[cond_true,qAu];refine Ev.bind (DX env nm) ?_;rw[g2];exact Ev.ret _
 |@pair a b ha hb iha ihb=>
  intro hc v hv;simp only[dX,jG,qAt,show((4:Int)==3)=false from rfl,cond_false,qEa,qAa]at hc;refine Ev.succ ?_;show Ev (fun n=>nA n _ env sz v (.mk 4 [] [a,b])) _;unfold nA;refine Ev.neg rfl ?_;refine Ev.neg rfl ?_;refine Ev.neg rfl ?_;refine Ev.pos rfl ?_;refine Ev.bind (a:=hasB env sz (.mk 4 [] [a,b]) v) ?_ (Ev.ret _);simp only[hasB,show((4:Int)==1)=false from rfl,show((4:Int)==2)=false from rfl,show((4:Int)==3)=false from rfl,show((4:Int)==4)=true from rfl,cond_false,cond_true,Ty.kids];cases v.kind==4 with
  |false=>exact Ev.ret _
  |true=>
   cases v.n==0 with
   |false=>exact Ev.ret _
   |true=>
    cases v.name==[]with
    |false=>exact Ev.ret _
    |true=>
     cases h2:(v.kids.length:Int)==2 with
     |false=>exact Ev.ret _
     |true=>
      simp only[cond_true,qAu];have hv:=hv.kids.2;obtain⟨k,n,s,ks⟩:=v;simp only[Val.kids,beq_iff_eq]at h2 hv
      match ks,h2,hv with
      |[x,y],_,hv=>
       simp only[Val.kids,show idx [x,y] 0=some x from rfl,show idx [x,y] 1=some y from rfl,show idx [a,b] 0=some a from rfl,show idx [a,b] 1=some b from rfl,qAb,Zk];refine Ev.bind (iha hc.1 x (hv x (by simp))) ?_;cases hasB env sz a x with
       |false=>exact Ev.ret _
       |true=>
        simp only[cond_true,qAu,qBH];exact Ev.bind (ihb hc.2 y (hv y (by simp))) (Ev.ret _)
 |@set a ha iha=>
  intro hc v hv;simp only[dX,jG,qAt,show((5:Int)==3)=false from rfl,cond_false]at hc;have H:=iha hc;refine Ev.succ ?_;show Ev (fun n=>nA n _ env sz v (.mk 5 [] [a])) _;unfold nA;refine Ev.neg rfl ?_;refine Ev.neg rfl ?_;refine Ev.neg rfl ?_;refine Ev.neg rfl ?_;simp only[hasB,show((5:Int)==1)=false from rfl,show((5:Int)==2)=false from rfl,show((5:Int)==3)=false from rfl,show((5:Int)==4)=false from rfl,cond_false];have e1:(v.kind !=5)=!(v.kind==5):=rfl;have e2:(v.n !=0)=!(v.n==0):=rfl;rw[e1,e2];cases v.kind==5 with
  |false=>refine Ev.bind (a:=true) (Ev.ret _) ?_;exact Ev.ret _
  |true=>
   cases v.n==0 with
   |false=>refine Ev.bind (a:=true) (Ev.ret _) ?_;exact Ev.ret _
   |true=>
    cases v.name==[]with
    |false=>refine Ev.bind (a:=true) (Ev.ret _) ?_;exact Ev.ret _
    |true=>
     cases decide (256<(v.kids.length:Int))with
     |true=>refine Ev.bind (a:=true) (Ev.ret _) ?_;exact Ev.ret _
     |false=>
      refine Ev.bind (a:=false) (Ev.ret _) ?_;simp only[qBb,cond_false,qAu,awR];refine Ev.bind (aEO env sz (.mk 5 [] [a]) a v hv.kids.1 rfl H hv.kids.2) ?_;cases((v.kids.all fun u=>hasB env sz a u)&&Fp v.kids)<;>exact Ev.ret _
theorem afR{env:Env}(h:aW env=true):∀d∈env.names,bA d.ty=true∧(dX d.ty).all (dP env)=true:=by
 intro d hd;simp only[aW,qAa]at h;have:=qAP.1 h.2.2.1 d hd;simp only[EF,qAa]at this;exact⟨this.2.1.1,this.2.2⟩
def gW(w:S_api_World):Bool:=(aW w.env&&(uj w.env w.sizes&&!((w.values.length:Int)!=(w.env.names.length:Int))))&&!((w.env.names.zip w.values).any fun q=>!(hasB w.env w.sizes q.1.ty q.2))
theorem avf{α β:Type}(f:α→β→Bool):∀(l:List α) (m:List β),(l.zip m).any (fun q=>f q.1 q.2)=(m.zip l).any fun q=>f q.2 q.1
 |[],m=>by cases m<;>rfl
 |a::l,[]=>rfl
 |a::l,b::m=>by
  simp only[qDT,qCA,avf f l m]
theorem Zw(w:S_api_World)(hs:∀d∈w.env.names,d.name.length≤9223372036854775807):Ev (fun n=>wP n w) (gW w):=by
 unfold wP gW;refine Ev.bind (a:=!(aW w.env&&(uj w.env w.sizes&&!((w.values.length:Int)!=(w.env.names.length:Int))))) ?_ ?_
 ·refine Ev.bind (C8 w.env hs) ?_;cases aW w.env with
  |false=>exact Ev.ret _
  |true=>
   refine Ev.bind (af4 w.env w.sizes) ?_;cases uj w.env w.sizes with
   |false=>exact Ev.ret _
   |true=>
    simp only[qAv,cond_false,qAu,qCk];exact Ev.ret _
 ·cases hb:(aW w.env&&(uj w.env w.sizes&&!((w.values.length:Int)!=(w.env.names.length:Int))))with
  |false=>exact Ev.ret _
  |true=>
   simp only[qAa,qAV,bne_eq_false_iff_eq]at hb;obtain⟨h1,h2,h3⟩:=hb;simp only[qAv,cond_false,qAu];have hd:=afR h1;refine Ev.bind (acZ w.env.names w.values (by omega) (fun n k i=>NG n w k i) (fun n d v=>(kN n w.env w.sizes v d.ty).bind fun b=>some (!b)) (fun d v=>!(hasB w.env w.sizes d.ty v)) false (fun n k i=>by
    show cond _ _ _=_;simp only[qAW,qAb];rfl) (fun d hm v=>Ev.bind (ayM w.env w.sizes (Dk h2) (PY (hd d hm).1) (hd d hm).2 v) (Ev.ret _))) ?_
   cases((w.env.names.zip w.values).any fun q=>!(hasB w.env w.sizes q.1.ty q.2))<;>exact Ev.ret _
theorem XL(w:S_api_World)(hv:∀v∈w.values,gU v):Ev (fun n=>AO n w) (gW w):=by
 unfold AO gW;refine Ev.bind (a:=!(aW w.env&&(uj w.env w.sizes&&!((w.values.length:Int)!=(w.env.names.length:Int))))) ?_ ?_
 ·refine Ev.bind (KX w.env) ?_;cases aW w.env with
  |false=>exact Ev.ret _
  |true=>
   refine Ev.bind (av2 w.env w.sizes) ?_;cases uj w.env w.sizes with
   |false=>exact Ev.ret _
   |true=>
    simp only[qAv,cond_false,qAu,qCk];exact Ev.ret _
 ·cases hb:(aW w.env&&(uj w.env w.sizes&&!((w.values.length:Int)!=(w.env.names.length:Int))))with
  |false=>exact Ev.ret _
  |true=>
   simp only[qAa,qAV,bne_eq_false_iff_eq]at hb;obtain⟨h1,h2,h3⟩:=hb;simp only[qAv,cond_false,qAu];have hd:=afR h1;have hloop:=sN (w.values.zip w.env.names) (fun n k i=>HV n w k i) (fun n q=>(wU n w.env w.sizes q.1 q.2.ty).bind fun b=>some (!b)) (fun q=>!(hasB w.env w.sizes q.2.ty q.1)) false (fun n k i=>by
    show cond _ _ _=_;rw[←avm w.values w.env.names i fun x y=>((wU n w.env w.sizes x y.ty).bind fun b=>some (!b)).bind fun b=>cond b (some (.rt false)) (HV n w k (i+1))];rw[qDt,show min w.values.length w.env.names.length=w.values.length by omega];simp only[qAW,qAb];rfl) (fun q hq=>Ev.bind (avl w.env w.sizes (Dk h2) (PY (hd q.2 (qCR hq).2).1) (hd q.2 (qCR hq).2).2 q.1 (hv q.1 (qCR hq).1)) (Ev.ret _))
   rw[avf (fun(d:Decl) v=>!(hasB w.env w.sizes d.ty v))];refine Ev.bind hloop ?_;cases((w.values.zip w.env.names).any fun q=>!(hasB w.env w.sizes q.2.ty q.1))<;>exact Ev.ret _
end Abs
end Go.Proofs.YthgdaonechbgmaaGreat
