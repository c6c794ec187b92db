/-
  Sizes of carriers; that a value has a type. Conditions: none; lemmas without a program.
-/
import Derived.Test.YtkopaeklihhdlaaGreatCDoox9ffaaf
import Derived.Test.YtkopaeklihhdlaaGreatCP6ox918d0b
set_option linter.all false
namespace Go.Proofs.YtkopaeklihhdlaaGreat
namespace Abs
open Go
def Y5(c:Carrier)(s:Int):Bool:=cond (decide (s<1)) true (cond (decide (8<s)) true (cond (decide (0<(c.elems.length:Int))) (s !=(c.elems.length:Int)) false))
def Cq:List Carrier→List Int→Bool
 |c::cs,s::ss=>!(Y5 c s)&&Cq cs ss
 |_,_=>true
def kS(env:Env)(sz:List Int):Bool:=!((sz.length:Int)!=(env.carriers.length:Int))&&Cq env.carriers sz
theorem rP{env:Env}{sz:List Int}(h:kS env sz=true):sz.length=env.carriers.length:=by
 unfold kS at h;simp only[qAd,qBj,bne_eq_false_iff_eq]at h;omega
theorem ac3(c:Carrier)(l:List Int)(i:Int)(s:Int)(h:idx l i=some s):(((idx l i).bind fun(x2:Int)=>(cond (decide (x2<1)) (some true) ((idx l i).bind fun(x3:Int)=>(cond (decide (8<x3)) (some true) (cond (decide (0<(c.elems.length:Int))) ((idx l i).bind fun(x4:Int)=>some (x4 !=(c.elems.length:Int))) (some false)))))):Option Bool)=some (Y5 c s):=by
 rw[h];simp only[qAb,Y5];cases decide (s<1)<;>cases decide (8<s)<;>cases decide (0<(c.elems.length:Int))<;>rfl
theorem aes(n:Nat)(nm:List Decl):∀(cs:List Carrier) (ss:List Int) (pc:List Carrier) (ps:List Int),pc.length=ps.length→cs.length=ss.length→∀k,cs.length+1≤k→nC n ⟨pc++cs,nm⟩ (ps++ss) k (pc.length:Int)=some (cond (Cq cs ss) (.nx ()) (.rt false))
 |[],ss,pc,ps,hp,hl,k,hk=>by
  obtain⟨j,rfl⟩:∃j,k=j+1:=⟨k - 1,by simp at hk;omega⟩;unfold nC;rw[decide_eq_false (by simp)];rfl
 |c::cs,[],pc,ps,hp,hl,k,hk=>by simp at hl
 |c::cs,s::ss,pc,ps,hp,hl,k,hk=>by
  obtain⟨j,rfl⟩:∃j,k=j+1:=⟨k - 1,by simp at hk;omega⟩;have hi:idx (ps++s::ss) (pc.length:Int)=some s:=by rw[hp];exact kJ _ _ _
  have ih:=aes n nm cs ss (pc++[c]) (ps++[s]) (by simp[hp]) (by simpa using hl) j (by simp at hk;omega);unfold nC;rw[decide_eq_true (by simp;omega)];simp only[cond_true];rw[kJ];simp only[qAb];rw[ac3 c _ _ s hi];simp only[qAb,Cq];cases hb:Y5 c s with
  |true=>rfl
  |false=>
   simp only[cond_false,qAR,qAr];rw[show(pc.length:Int)+1=((pc++[c]).length:Int) by simp];simpa using ih
theorem ZM(n:Nat)(nm:List Decl):∀(cs:List Carrier) (ss:List Int) (pc:List Carrier) (ps:List Int),pc.length=ps.length→cs.length=ss.length→∀k,cs.length+1≤k→xk n ⟨pc++cs,nm⟩ (ps++ss) k (pc.length:Int)=some (cond (Cq cs ss) (.nx ()) (.rt false))
 |[],ss,pc,ps,hp,hl,k,hk=>by
  obtain⟨j,rfl⟩:∃j,k=j+1:=⟨k - 1,by simp at hk;omega⟩;have:ss=[]:=qAz.1 (by simpa using hl.symm);subst this;unfold xk;rw[decide_eq_false (by simp[hp])];rfl
 |c::cs,[],pc,ps,hp,hl,k,hk=>by simp at hl
 |c::cs,s::ss,pc,ps,hp,hl,k,hk=>by
  obtain⟨j,rfl⟩:∃j,k=j+1:=⟨k - 1,by simp at hk;omega⟩;have hi:idx (ps++s::ss) (pc.length:Int)=some s:=by rw[hp];exact kJ _ _ _
  have ih:=ZM n nm cs ss (pc++[c]) (ps++[s]) (by simp[hp]) (by simpa using hl) j (by simp at hk;omega);unfold xk;rw[decide_eq_true (by simp;omega)];simp only[cond_true];rw[kJ];simp only[qAb];rw[ac3 c _ _ s hi];simp only[qAb,Cq];cases hb:Y5 c s with
  |true=>rfl
  |false=>
   simp only[cond_false,qAR,qAr];rw[show(pc.length:Int)+1=((pc++[c]).length:Int) by simp];simpa using ih
theorem J3(env:Env)(sz:List Int):Ev (fun n=>qC n env sz) (kS env sz):=by
 unfold qC kS;cases h:((sz.length:Int)!=(env.carriers.length:Int))with
 |true=>exact Ev.ret _
 |false=>
  simp only[bne_eq_false_iff_eq]at h;simp only[cond_false,qAR,qAr];refine Ev.bind (a:=cond (Cq env.carriers sz) (.nx ()) (.rt false)) ⟨env.carriers.length+1,fun n hn=>?_⟩ ?_
  ·have:=aes n env.names env.carriers sz [] [] rfl (by omega) n hn;simpa using this
  ·cases Cq env.carriers sz<;>exact Ev.ret _
theorem XK(env:Env)(sz:List Int):Ev (fun n=>Dr n env sz) (kS env sz):=by
 unfold Dr kS;cases h:((sz.length:Int)!=(env.carriers.length:Int))with
 |true=>exact Ev.ret _
 |false=>
  simp only[bne_eq_false_iff_eq]at h;simp only[cond_false,qAR,qAr];refine Ev.bind (a:=cond (Cq env.carriers sz) (.nx ()) (.rt false)) ⟨env.carriers.length+1,fun n hn=>?_⟩ ?_
  ·have:=ZM n env.names env.carriers sz [] [] rfl (by omega) n hn;simpa using this
  ·cases Cq env.carriers sz<;>exact Ev.ret _
inductive Shp:Ty→Prop where
 |int:Shp (.mk 1 [] [])
 |bool:Shp (.mk 2 [] [])
 |car (nm:Str):Shp (.mk 3 nm [])
 |pair {a b:Ty} (h:Shp a) (k:Shp b):Shp (.mk 4 [] [a,b])
 |set {a:Ty} (h:Shp a):Shp (.mk 5 [] [a])
mutual
theorem ajt:∀(t:Ty) (d c:Int),(pf t d c).1=true→Shp t
 | .mk k nm ks,d,c,h=>by
  simp only[pf]at h;cases hb:((decide (c+1≤16)&&decide (d≤6))&&lQ k nm ks.length d)with
  |false=>rw[hb]at h;cases h
  |true=>
   rw[hb]at h;simp only[cond_true]at h;have hs:=agU ks (d+1) (c+1) h;simp only[lQ,qAd,qBB,beq_iff_eq]at hb;obtain⟨_,_,hk,hn⟩:=hb;rcases hk with⟨hk,hl⟩|⟨rfl,hl⟩|⟨rfl,hl⟩
   ·have:ks=[]:=qAz.1 hl;subst this;rcases hk with rfl|rfl|rfl
    ·have:nm=[]:=by simpa using hn
     subst this;exact .int
    ·have:nm=[]:=by simpa using hn
     subst this;exact .bool
    ·exact .car nm
   ·have:nm=[]:=by simpa using hn
    subst this
    match ks,hl with
    |[a,b],_=>exact .pair (hs a (by simp)) (hs b (by simp))
   ·have:nm=[]:=by simpa using hn
    subst this
    match ks,hl with
    |[a],_=>exact .set (hs a (by simp))
theorem agU:∀(ks:List Ty) (d c:Int),(pQ ks d c).1=true→∀t∈ks,Shp t
 |[],_,_,_,_,ht=>by cases ht
 |k::ks,d,c,h,t,ht=>by
  simp only[pQ]at h;cases h1:(pf k d c).1 with
  |false=>rw[h1]at h;cases h
  |true=>
   rw[h1]at h;simp only[cond_true]at h;rcases qAs.1 ht with h2|ht
   ·have h3:=ajt k d c h1;rw[h2];exact h3
   ·exact agU ks d _ h t ht
end
theorem oh{t:Ty}(h:gW t=true):Shp t:=ajt t 1 0 h
def C9:List Val→Bool
 |a::b::r=>!(decide (0≤dJ a b))&&C9 (b::r)
 |_=>true
def Mq(v:Val):Bool:=v.kind==1&&(v.name==[]&&((v.kids.length:Int)==0&&(decide ((-1000000000)≤v.n)&&decide (v.n≤1000000000))))
def TG(v:Val):Bool:=v.kind==2&&(v.name==[]&&((v.kids.length:Int)==0&&(v.n==0 ||v.n==1)))
def PX(env:Env)(sz:List Int)(nm:Str):Int:=(idx sz (jW (fun c=>c.name==nm) 0 env.carriers)).getD 0
def Na(env:Env)(sz:List Int)(nm:Str)(v:Val):Bool:=v.kind==3&&(v.name==nm&&((v.kids.length:Int)==0&&(decide (0≤v.n)&&decide (v.n<PX env sz nm))))
mutual
def hasB(env:Env)(sz:List Int):Ty→Val→Bool
 | .mk k nm ks,v=>cond (k==1) (Mq v) (cond (k==2) (TG v) (cond (k==3) (Na env sz nm v) (cond (k==4) (v.kind==4&&(v.n==0&&(v.name==[]&&((v.kids.length:Int)==2&&JI env sz ks v.kids))))
   ((v.kind==5&&(v.n==0&&(v.name==[]&&!(decide (256<(v.kids.length:Int))))))&&(YR env sz ks v.kids&&C9 v.kids)))))
def JI(env:Env)(sz:List Int):List Ty→List Val→Bool
 |[],_=>true
 |t::ts,vs=>match vs with
  |[]=>true
  |v::vs=>hasB env sz t v&&JI env sz ts vs
def YR(env:Env)(sz:List Int):List Ty→List Val→Bool
 |[],_=>true
 |t::_,vs=>vs.all fun v=>hasB env sz t v
end
theorem ML(env:Env)(s:Str):Ev (fun n=>lU n env s) (jW (fun c=>c.name==s) 0 env.carriers):=by
 unfold lU iF;refine Ev.bind (su env.carriers (fun n k i=>fq n env.carriers s k i) (fun _ x=>some (x.name==s)) (fun c=>c.name==s) (fun n k i=>rfl) (fun x _=>Ev.ret _)) (Ev.ret _)
theorem Rk{env:Env}{sz:List Int}{nm:Str}(hl:sz.length=env.carriers.length)(h:dn env nm=true):0≤jW (fun c=>c.name==nm) 0 env.carriers∧idx sz (jW (fun c=>c.name==nm) 0 env.carriers)=some (PX env sz nm):=by
 have hg:=xA (fun c:Carrier=>c.name==nm) env.carriers 0 (qBP _);have hany:env.carriers.any (fun c=>c.name==nm)=true:=h;rw[hany]at hg;have h0:0≤jW (fun c:Carrier=>c.name==nm) 0 env.carriers:=by simpa using hg
 refine⟨h0,?_⟩;rcases rR (fun c:Carrier=>c.name==nm) env.carriers []with⟨x,_,_,g1,g2⟩|⟨_,g⟩
 ·simp only[qAE,qAY]at g1 g2;unfold PX;unfold idx at g2⊢;rw[show(((0:Nat):Int))=0 from rfl]at g2;rw[if_pos h0]at g2⊢;have hlt:=(qAk.1 g2).1;rw[qAe (by omega)];rfl
 ·simp only[qAE]at g;rw[show(((0:Nat):Int))=0 from rfl]at g;omega
theorem adq(p2:Val):∀(suf pre:List Val) (x:Val),p2.kids=pre++[x]++suf→p2.kids.length≤256→∃N,∀n,N≤n→∀k,suf.length+1≤k→∀r1 r2,qb n r1 r2 p2 k ((pre++[x]).length:Int)=some (cond (C9 (x::suf)) (.nx ()) (.rt false))
 |[],pre,x,e,hl=>by
  refine⟨0,fun n _ k hk r1 r2=>?_⟩;obtain⟨j,rfl⟩:∃j,k=j+1:=⟨k - 1,by simp at hk;omega⟩;unfold qb;rw[decide_eq_false (by rw[e];simp)];rfl
 |y::suf,pre,x,e,hl=>by
  obtain⟨N1,h1⟩:=uD x y;obtain⟨N2,h2⟩:=adq p2 suf (pre++[x]) y (by rw[e];simp) hl;refine⟨N1+N2,fun n hn k hk r1 r2=>?_⟩;obtain⟨j,rfl⟩:∃j,k=j+1:=⟨k - 1,by simp at hk;omega⟩;have h1:dW n x y=_:=h1 n (by omega);have h2:=h2 n (by omega) j (by simp at hk;omega) r1 r2;have hlen:pre.length+1≤256:=by rw[e]at hl;simp at hl;omega
  have ew:IntKind.wrap .i64 (((pre++[x]).length:Int) - 1)=(pre.length:Int):=by
   rw[qAl,qAy,wrap64 (by omega) (by omega)];omega
  have i1:idx p2.kids (pre.length:Int)=some x:=by rw[e,qAN,qCj];exact kJ _ _ _
  have i2:idx p2.kids ((pre++[x]).length:Int)=some y:=by rw[e];exact kJ _ _ _
  unfold qb;rw[decide_eq_true (by rw[e];simp;omega),ew,i1,i2];simp only[cond_true,qAb];rw[h1];simp only[qAb,C9];cases decide (0≤dJ x y)with
  |true=>rfl
  |false=>
   simp only[cond_false,qAR,qAr];rw[show((pre++[x]).length:Int)+1=((pre++[x]++[y]).length:Int) by simp only[qAl,qAy];omega];exact h2
theorem Zo(env:Env)(sz:List Int)(t:Ty)(H:∀v,Ev (fun n=>iM n env sz v t) (hasB env sz t v)):∀(suf pre:List Val),∃N,∀n,N≤n→∀k,suf.length+1≤k→mP n (iM n) (nS n) [t] (pre++suf) env.carriers env.names sz k (pre.length:Int)=some (cond (suf.all fun v=>hasB env sz t v) (.nx ()) (.rt false))
 |[],pre=>by
  refine⟨0,fun n _ k hk=>?_⟩;obtain⟨j,rfl⟩:∃j,k=j+1:=⟨k - 1,by simp at hk;omega⟩;unfold mP;rw[decide_eq_false (by simp)];rfl
 |v::suf,pre=>by
  obtain⟨N1,h1⟩:=H v;obtain⟨N2,h2⟩:=Zo env sz t H suf (pre++[v]);refine⟨N1+N2,fun n hn k hk=>?_⟩;obtain⟨j,rfl⟩:∃j,k=j+1:=⟨k - 1,by simp at hk;omega⟩;have h1:iM n env sz v t=_:=h1 n (by omega);have h2:=h2 n (by omega) j (by simp at hk;omega);have i2:idx [t] (if(([t].length:Int) - 1)<(pre.length:Int)then(([t].length:Int) - 1)else(pre.length:Int))=some t:=by
   simp only[qAy];have:(if(((1:Nat):Int) - 1)<(pre.length:Int)then(((1:Nat):Int) - 1)else(pre.length:Int))=0:=by split<;>omega
   rw[this];rfl
  unfold mP;rw[decide_eq_true (by simp;omega),kJ,i2];simp only[cond_true,qAb];rw[show iM n (Env.mk env.carriers env.names) sz v t=iM n env sz v t from rfl,h1];simp only[qAb,qBD];cases hasB env sz t v with
  |false=>rfl
  |true=>
   simp only[qAB,cond_false,qAr];rw[show(pre.length:Int)+1=((pre++[v]).length:Int) by simp];simpa using h2
theorem anY(env:Env)(sz:List Int)(t u:Ty)(a b:Val)(k n:Int)(s:Str)(H1:Ev (fun n=>iM n env sz a t) (hasB env sz t a))(H2:Ev (fun n=>iM n env sz b u) (hasB env sz u b)):Ev (fun m=>nS m [t,u] k n s [a,b] env.carriers env.names sz) (JI env sz [t,u] [a,b]):=by
 refine Ev.succ ?_;obtain⟨N1,h1⟩:=H1;obtain⟨N2,h2⟩:=H2;refine⟨N1+N2+3,fun m hm=>?_⟩;have h1:iM m (Env.mk env.carriers env.names) sz a t=_:=h1 m (by omega);have h2:iM m (Env.mk env.carriers env.names) sz b u=_:=h2 m (by omega);show nP m _ _ [t,u] k n s [a,b] env.carriers env.names sz=_;unfold nP;obtain⟨j,hj⟩:∃j,m=j+3:=⟨m - 3,by omega⟩;have e1:mP m (iM m) (nS m) [t,u] [a,b] env.carriers env.names sz (j+3) 0=some (cond (JI env sz [t,u] [a,b]) (.nx ()) (.rt false)):=by
  have i0:idx [t,u] (if(((([t,u]:List Ty)).length:Int) - 1)<0 then((([t,u]:List Ty).length:Int) - 1)else 0)=some t:=rfl;have i1:idx [t,u] (if(((([t,u]:List Ty)).length:Int) - 1)<0+1 then((([t,u]:List Ty).length:Int) - 1)else 0+1)=some u:=rfl;simp only[mP,i0,i1,show idx [a,b] 0=some a from rfl,show idx [a,b] (0+1)=some b from rfl,qAb,show decide ((0:Int)<(([a,b]:List Val).length:Int))=true from rfl,show decide ((0+1:Int)<(([a,b]:List Val).length:Int))=true from rfl,show decide ((0+1+1:Int)<(([a,b]:List Val).length:Int))=false from rfl,cond_true,cond_false,h1,h2,JI];cases hasB env sz t a<;>cases hasB env sz u b<;>rfl
 rw[←hj]at e1;rw[e1];cases JI env sz [t,u] [a,b]<;>rfl
theorem adC(env:Env)(sz:List Int)(hl:sz.length=env.carriers.length):∀{t:Ty},Shp t→(dL t).all (dn env)=true→∀v,Ev (fun n=>iM n env sz v t) (hasB env sz t v):=by
 intro t h
 induction h with
 |int=>
  intro _ v;refine Ev.succ ?_;show Ev (fun n=>iO n _ _ env sz v (.mk 1 [] [])) _;unfold iO;refine Ev.pos rfl ?_;refine Ev.bind (a:=Mq v) ?_ (Ev.ret _);unfold Mq;cases v.kind==1<;>cases decide ((-1000000000)≤v.n)<;>cases decide (v.n≤1000000000)<;>cases v.name==[]<;>cases(v.kids.length:Int)==0<;>exact Ev.ret _
 |bool=>
  intro _ v;refine Ev.succ ?_;show Ev (fun n=>iO n _ _ env sz v (.mk 2 [] [])) _;unfold iO;refine Ev.neg rfl ?_;refine Ev.pos rfl ?_;refine Ev.bind (a:=TG v) ?_ (Ev.ret _);unfold TG;cases v.kind==2<;>cases v.n==0<;>cases v.n==1<;>cases v.name==[]<;>cases(v.kids.length:Int)==0<;>exact Ev.ret _
 |car nm=>
  intro hc v;have hc:dn env nm=true:=by simpa[dL]using hc
  obtain⟨g1,g2⟩:=Rk hl hc;refine Ev.succ ?_;show Ev (fun n=>iO n _ _ env sz v (.mk 3 nm [])) _;unfold iO;refine Ev.neg rfl ?_;refine Ev.neg rfl ?_;refine Ev.pos rfl ?_;refine Ev.bind (ML env nm) ?_;refine Ev.bind (a:=Na env sz nm v) ?_ (Ev.ret _);simp only[decide_eq_true g1,cond_true,g2,qAb,Ty.name];unfold Na;cases v.kind==3<;>cases v.name==nm<;>cases decide (0≤v.n)<;>cases decide (v.n<PX env sz nm)<;>cases(v.kids.length:Int)==0<;>exact Ev.ret _
 |@pair a b ha hb iha ihb=>
  intro hc v;simp only[dL,jP,qAK,show((4:Int)==3)=false from rfl,cond_false,List.all_append,qAd]at hc;refine Ev.succ ?_;show Ev (fun n=>iO n _ _ env sz v (.mk 4 [] [a,b])) _;unfold iO;refine Ev.neg rfl ?_;refine Ev.neg rfl ?_;refine Ev.neg rfl ?_;refine Ev.pos rfl ?_;refine Ev.bind (a:=hasB env sz (.mk 4 [] [a,b]) v) ?_ (Ev.ret _);simp only[hasB,show((4:Int)==1)=false from rfl,show((4:Int)==2)=false from rfl,show((4:Int)==3)=false from rfl,show((4:Int)==4)=true from rfl,cond_false,cond_true,Ty.kids];cases v.kind==4 with
  |false=>exact Ev.ret _
  |true=>
   cases v.n==0 with
   |false=>exact Ev.ret _
   |true=>
    cases v.name==[]with
    |false=>exact Ev.ret _
    |true=>
     cases h2:(v.kids.length:Int)==2 with
     |false=>exact Ev.ret _
     |true=>
      simp only[cond_true,qAr];obtain⟨k,n,s,ks⟩:=v;simp only[Val.kids,beq_iff_eq]at h2
      match ks,h2 with
      |[x,y],_=>exact Ev.bind (anY env sz a b x y k n s (iha hc.1 x) (ihb hc.2 y)) (Ev.ret _)
 |@set a ha iha=>
  intro hc v;simp only[dL,jP,qAK,show((5:Int)==3)=false from rfl,cond_false]at hc;have H:=iha hc;refine Ev.succ ?_;show Ev (fun n=>iO n _ _ env sz v (.mk 5 [] [a])) _;unfold iO;refine Ev.neg rfl ?_;refine Ev.neg rfl ?_;refine Ev.neg rfl ?_;refine Ev.neg rfl ?_;refine Ev.pos rfl ?_;simp only[hasB,show((5:Int)==1)=false from rfl,show((5:Int)==2)=false from rfl,show((5:Int)==3)=false from rfl,show((5:Int)==4)=false from rfl,cond_false,Ty.kids];have e1:(v.kind !=5)=!(v.kind==5):=rfl;have e2:(v.n !=0)=!(v.n==0):=rfl;rw[e1,e2];cases v.kind==5 with
  |false=>refine Ev.bind (a:=true) (Ev.ret _) ?_;exact Ev.ret _
  |true=>
   cases v.n==0 with
   |false=>refine Ev.bind (a:=true) (Ev.ret _) ?_;exact Ev.ret _
   |true=>
    cases v.name==[]with
    |false=>refine Ev.bind (a:=true) (Ev.ret _) ?_;exact Ev.ret _
    |true=>
     cases h256:decide (256<(v.kids.length:Int))with
     |true=>refine Ev.bind (a:=true) (Ev.ret _) ?_;exact Ev.ret _
     |false=>
      have hlen:v.kids.length≤256:=by simp at h256;omega
      have hk:Ev (fun n=>nS n [a] v.kind v.n v.name v.kids env.carriers env.names sz) (v.kids.all fun v=>hasB env sz a v):=by
       obtain⟨N,h⟩:=Zo env sz a H v.kids [];refine Ev.succ ?_;refine⟨N+v.kids.length+1,fun n hn=>?_⟩;have:=h n (by omega) n (by omega);simp only[qAY,qAE]at this;show nP n _ _ [a] v.kind v.n v.name v.kids env.carriers env.names sz=_;unfold nP;rw[show((0:Nat):Int)=0 from rfl]at this;rw[this];cases(v.kids.all fun v=>hasB env sz a v)<;>rfl
      simp only[qAB,cond_false,qAR,qAr,YR];refine Ev.bind (Ev.bind hk (Ev.ret _)) ?_;cases(v.kids.all fun v=>hasB env sz a v)with
      |false=>exact Ev.ret _
      |true=>
       simp only[qAB,cond_false,qAr];refine Ev.bind (a:=cond (C9 v.kids) (.nx ()) (.rt false)) ?_ (by cases C9 v.kids<;>exact Ev.ret _);cases hks:v.kids with
       |nil=>
        refine⟨1,fun n hn=>?_⟩;obtain⟨j,rfl⟩:∃j,n=j+1:=⟨n - 1,by omega⟩;show qb (j+1) _ _ v (j+1) 1=_;unfold qb;rw[decide_eq_false (by rw[hks];simp)];rfl
       |cons x xs=>
        obtain⟨N,h⟩:=adq v xs [] x (by rw[hks];rfl) hlen;refine⟨N+xs.length+1,fun n hn=>?_⟩;have:=h n (by omega) n (by omega) (iM n) (nS n);exact this
theorem ada(env:Env)(t:Ty):Ev (fun n=>uM n env t) (gW t&&(dL t).all (dn env)):=by
 unfold uM;refine Ev.bind (a:=gW t&&(dL t).all (dn env)) ?_ (Ev.ret _);refine Ev.bind (vk t) ?_;cases h:gW t with
 |false=>exact Ev.ret _
 |true=>
  simp only[cond_true,qAr];refine Ev.bind (Fz h) ?_;generalize hl:((iA ((dL t).map fun s=>(s,true)) []).map (·.1)).mergeSort Wu=l;have hm:∀s,s∈l↔s∈dL t:=fun s=>by rw[←hl];exact Qo t s
  unfold gT iR;have hf:=su l (fun n k i=>fE n l env.carriers env.names k i) (fun n x=>zw n x env.carriers env.names) (fun s=>!(dn env s)) (fun n k i=>rfl) (fun x _=>by
   unfold zw;refine Ev.bind (ML env x) ?_;rw[Bo,xA _ _ _ (qBP _)];exact Ev.ret _)
  refine Ev.bind (a:=l.any fun s=>!(dn env s)) (Ev.bind hf ?_) ?_
  ·rw[xA _ _ _ (qBP _)];exact Ev.ret _
  ·rw[wJ,qDd];have:l.all (dn env)=(dL t).all (dn env):=by
    have h:(l.all (dn env)=true)↔((dL t).all (dn env)=true):=by simp only[qAC,hm]
    cases h1:l.all (dn env)<;>cases h2:(dL t).all (dn env)<;>simp_all
   rw[this];exact Ev.ret _
def Cw(env:Env)(t:Ty):Bool:=gW t&&(dL t).all (dn env)
def OH(env:Env)(sz:List Int)(v:Val)(t:Ty):Bool:=bq env&&(kS env sz&&(Cw env t&&hasB env sz t v))
theorem ako(env:Env)(sz:List Int)(v:Val)(t:Ty)(hs:∀d∈env.names,d.name.length≤9223372036854775807):Ev (fun n=>AX n env sz v t) (OH env sz v t):=by
 unfold AX OH;refine Ev.bind (a:=bq env&&(kS env sz&&(Cw env t&&hasB env sz t v))) ?_ (Ev.ret _);refine Ev.bind (iW env hs) ?_;cases bq env with
 |false=>exact Ev.ret _
 |true=>
  simp only[cond_true,qAr];refine Ev.bind (J3 env sz) ?_;cases hf:kS env sz with
  |false=>exact Ev.ret _
  |true=>
   simp only[cond_true,qAr];refine Ev.bind (ada env t) ?_;unfold Cw;cases hk:(gW t&&(dL t).all (dn env))with
   |false=>exact Ev.ret _
   |true=>
    simp only[qAd]at hk;simp only[cond_true,qAr];exact Ev.bind (adC env sz (rP hf) (oh hk.1) hk.2 v) (Ev.ret _)
def PS(env:Env)(s:S_api_Scope):Bool:=bq env&&(kS env s.sizes&&(decide ((-1000000000)≤s.lo)&&(decide (s.lo≤s.hi)&&decide (s.hi≤1000000000))))
theorem Ns(env:Env)(s:S_api_Scope)(hs:∀d∈env.names,d.name.length≤9223372036854775807):Ev (fun n=>l9 n env s) (PS env s):=by
 unfold l9 PS;refine Ev.bind (a:=bq env&&(kS env s.sizes&&(decide ((-1000000000)≤s.lo)&&(decide (s.lo≤s.hi)&&decide (s.hi≤1000000000))))) ?_ (Ev.ret _);refine Ev.bind (iW env hs) ?_;cases bq env with
 |false=>exact Ev.ret _
 |true=>
  refine Ev.bind (J3 env s.sizes) ?_;cases kS env s.sizes<;>cases decide ((-1000000000)≤s.lo)<;>cases decide (s.lo≤s.hi)<;>exact Ev.ret _
theorem KD(env:Env)(s:S_api_Scope):Ev (fun n=>oN n env s) (PS env s):=by
 unfold oN PS;refine Ev.bind (a:=bq env&&(kS env s.sizes&&(decide ((-1000000000)≤s.lo)&&(decide (s.lo≤s.hi)&&decide (s.hi≤1000000000))))) ?_ (Ev.ret _);refine Ev.bind (nD env) ?_;cases bq env with
 |false=>exact Ev.ret _
 |true=>
  refine Ev.bind (XK env s.sizes) ?_;cases kS env s.sizes<;>cases decide ((-1000000000)≤s.lo)<;>cases decide (s.lo≤s.hi)<;>exact Ev.ret _
mutual
def mg:Val→Prop
 | .mk _ _ _ ks=>ks.length*56≤140737488355328∧Fp ks
def Fp:List Val→Prop
 |[]=>True
 |v::vs=>mg v∧Fp vs
end
theorem Vh:∀{vs:List Val},Fp vs→∀v∈vs,mg v
 |[],_,_,h=>by cases h
 |v::vs,h,u,hu=>by
  simp only[Fp]at h;rcases qAs.1 hu with rfl|hu
  ·exact h.1
  ·exact Vh h.2 u hu
theorem mg.kids{v:Val}(h:mg v):v.kids.length*56≤140737488355328∧∀u∈v.kids,mg u:=by
 cases v;simp only[mg]at h;exact⟨h.1,Vh h.2⟩
theorem wV{l ys:List Val}(h:(l.length+ys.length)*56≤140737488355328):app 56 l ys=some (l++ys):=by
 unfold app;rw[if_pos ⟨h,by omega⟩]
theorem ZC{α:Type}:∀(pre:List α) (x:α) (suf:List α),(pre++x::suf).set pre.length x=pre++x::suf
 |[],_,_=>rfl
 |p::pre,x,suf=>by simp
theorem RN(v:Val):∀(asx pre:List Val),v.kids=pre++asx→(∀a∈asx,Ev (fun n=>dV n a) a)→∃N,∀n,N≤n→∀k,asx.length+1≤k→pF n (dV n) v k (pre++asx,(pre.length:Int))=some (.nx (pre++asx))
 |[],pre,hp,_=>by
  refine⟨0,fun n _ k hk=>?_⟩;obtain⟨j,rfl⟩:∃j,k=j+1:=⟨k - 1,by simp at hk;omega⟩;unfold pF;rw[decide_eq_false (by rw[hp];simp)];rfl
 |a::asx,pre,hp,H=>by
  obtain⟨N1,h1⟩:=H a (by simp);obtain⟨N2,h2⟩:=RN v asx (pre++[a]) (by simp[hp]) (fun x hx=>H x (by simp[hx]));refine⟨N1+N2,fun n hn k hk=>?_⟩;obtain⟨j,rfl⟩:∃j,k=j+1:=⟨k - 1,by simp at hk;omega⟩;have h1:dV n a=_:=h1 n (by omega);have h2:=h2 n (by omega) j (by simp at hk;omega);unfold pF;rw[decide_eq_true (by rw[hp];simp;omega)];simp only[cond_true,kJ,qAb];rw[h1];simp only[qAb];have e:upd (pre++a::asx) (pre.length:Int) a=pre++a::asx:=by
   unfold upd;rw[qCF,ZC]
  rw[e,show(pre.length:Int)+1=((pre++[a]).length:Int) by simp];simpa using h2
theorem FH(v:Val)(hv:mg v):Ev (fun n=>dV n v) v:=by
 induction v using Val.ind with
 |h k n s ks ih=>
  obtain⟨h1,h2⟩:=hv.kids;simp only[Val.kids]at h1 h2;obtain⟨N,h⟩:=RN (.mk k n s ks) ks [] rfl (fun a ha=>ih a ha (h2 a ha));refine Ev.succ ⟨N+ks.length+1,fun m hm=>?_⟩;have:=h m (by omega) m (by omega);show sD m _ (.mk k n s ks)=_;unfold sD tX qN;simp only[Val.kids];rw[wV (by simpa using h1)];simp only[qAb,qAY,qAE]at this⊢;rw[show((0:Nat):Int)=0 from rfl]at this;rw[this];rfl
theorem QK(x y:Int):(lex x y==0)=((x==0)&&(y==0)):=by
 rw[qCt];simp[H7]
theorem aao:∀(asx:List Val),(∀a∈asx,∀b,Ev (fun n=>fM n a b) (dJ a b==0))→∀(bs pa pb:List Val),pa.length=pb.length→asx.length=bs.length→∃N,∀n,N≤n→∀k,asx.length+1≤k→nk n (fM n) (jw n) (pa++asx) (pb++bs) k (pa.length:Int)=some (cond (dS asx bs==0) (.nx ()) (.rt false))
 |[],_,bs,pa,pb,hp,hl=>by
  have:bs=[]:=qAz.1 (by simpa using hl.symm);subst this;refine⟨0,fun n _ k hk=>?_⟩;obtain⟨j,rfl⟩:∃j,k=j+1:=⟨k - 1,by simp at hk;omega⟩;unfold nk;rw[decide_eq_false (by simp)];rfl
 |a::asx,H,[],pa,pb,hp,hl=>by simp at hl
 |a::asx,H,b::bs,pa,pb,hp,hl=>by
  obtain⟨N1,h1⟩:=H a (by simp) b;obtain⟨N2,h2⟩:=aao asx (fun x hx=>H x (by simp[hx])) bs (pa++[a]) (pb++[b]) (by simp[hp]) (by simpa using hl);refine⟨N1+N2,fun n hn k hk=>?_⟩;obtain⟨j,rfl⟩:∃j,k=j+1:=⟨k - 1,by simp at hk;omega⟩;have h1:fM n a b=_:=h1 n (by omega);have h2:=h2 n (by omega) j (by simp at hk;omega);unfold nk;rw[decide_eq_true (by simp<;>omega),kJ];simp only[cond_true,qAb];rw[show(pa.length:Int)=(pb.length:Int) by rw[hp],kJ];simp only[qAb];rw[h1];simp only[qAb,uz,QK];cases dJ a b==0 with
  |false=>rfl
  |true=>
   simp only[qAB,cond_false,qAr];rw[show(pb.length:Int)+1=((pa++[a]).length:Int) by simp[hp]];simpa using h2
theorem DZ(l m:List Val)(H:∀a∈l,∀b,Ev (fun n=>fM n a b) (dJ a b==0)):Ev (fun n=>jw n l m) (dS l m==0):=by
 refine Ev.succ ?_;show Ev (fun n=>ql n _ _ l m) _;unfold ql;by_cases hl:l.length=m.length
 ·obtain⟨N,h⟩:=aao l H m [] [] rfl hl;refine⟨N+l.length+1,fun n hn=>?_⟩;have:=h n (by omega) n (by omega);have e:((l.length:Int)!=(m.length:Int))=false:=by simp[hl]
  rw[e];simp only[cond_false,qAY,qAE]at this⊢;rw[show((0:Nat):Int)=0 from rfl]at this;rw[this];cases dS l m==0<;>rfl
 ·have e:((l.length:Int)!=(m.length:Int))=true:=by simp<;>omega
  have e2:(dS l m==0)=false:=by
   cases h:dS l m==0 with
   |false=>rfl
   |true=>exact absurd (congrArg List.length ((Ck l m).1 (by simpa using h))) hl
  rw[e,e2];exact Ev.ret _
theorem Cc(a b:Val):Ev (fun n=>fM n a b) (dJ a b==0):=by
 revert b
 induction a using Val.ind with
 |h k n s ks ih=>
  intro b;obtain⟨k',n',s',ks'⟩:=b;refine Ev.succ ?_;show Ev (fun m=>qR m _ _ (.mk k n s ks) (.mk k' n' s' ks')) _;unfold qR;simp only[Val.kind,Val.n,Val.name,Val.kids];have e1:(lS k k'==0)=(k==k'):=by rw[qCt];simp[uF]
  have e2:(lS n n'==0)=(n==n'):=by rw[qCt];simp[uF]
  have e3:(Lib.compareBytes s s'==0)=(s==s'):=by rw[qCt];simp[Kn]
  rw[Bz,QK,QK,QK,e1,e2,e3];cases k==k' with
  |false=>exact Ev.bind (Ev.ret _) (Ev.ret _)
  |true=>
   cases n==n' with
   |false=>exact Ev.bind (Ev.ret _) (Ev.ret _)
   |true=>
    cases s==s' with
    |false=>exact Ev.bind (Ev.ret _) (Ev.ret _)
    |true=>exact Ev.bind (Ev.bind (DZ ks ks' ih) (Ev.ret _)) (Ev.ret _)
theorem abf(l m:List Val):Ev (fun n=>jw n l m) (dS l m==0):=DZ l m fun a _ b=>Cc a b
theorem LD{v:Val}(h:v.kids.length=0):mg v:=by
 obtain⟨k,n,s,ks⟩:=v;have:ks=[]:=qAz.1 h;subst this;simp[mg,Fp]
theorem UW:∀{vs:List Val},(∀v∈vs,mg v)→Fp vs
 |[],_=>trivial
 |v::vs,h=>by
  simp only[Fp];exact⟨h v (by simp),UW fun u hu=>h u (by simp[hu])⟩
theorem JE{env:Env}{sz:List Int}{t:Ty}(h:Shp t):∀v,hasB env sz t v=true→mg v:=by
 induction h with
 |int=>
  intro v hv;have hv:Mq v=true:=hv;simp only[Mq,qAd,beq_iff_eq]at hv;exact LD (by omega)
 |bool=>
  intro v hv;have hv:TG v=true:=hv;simp only[TG,qAd,beq_iff_eq]at hv;exact LD (by omega)
 |car nm=>
  intro v hv;have hv:Na env sz nm v=true:=hv;simp only[Na,qAd,beq_iff_eq]at hv;exact LD (by omega)
 |@pair a b _ _ iha ihb=>
  intro v hv;have hv:(v.kind==4&&(v.n==0&&(v.name==[]&&((v.kids.length:Int)==2&&JI env sz [a,b] v.kids))))=true:=by rw[hasB]at hv;exact hv
  simp only[qAd,beq_iff_eq]at hv;obtain⟨_,_,_,hl,hz⟩:=hv;obtain⟨k,n,s,ks⟩:=v;simp only[Val.kids]at hl hz
  match ks,hl with
  |[x,y],_=>
   simp only[JI,qAd]at hz;simp only[mg,Fp];exact⟨by simp,iha x hz.1,ihb y hz.2.1,trivial⟩
 |@set a _ iha=>
  intro v hv;have hv:((v.kind==5&&(v.n==0&&(v.name==[]&&!(decide (256<(v.kids.length:Int))))))&&(YR env sz [a] v.kids&&C9 v.kids))=true:=by rw[hasB]at hv;exact hv
  simp only[qAd,beq_iff_eq,qBj,decide_eq_false_iff_not,YR,qAC]at hv;obtain⟨⟨_,_,_,hl⟩,hz,_⟩:=hv;obtain⟨k,n,s,ks⟩:=v;simp only[Val.kids]at hl hz;simp only[mg];exact⟨by omega,UW fun u hu=>iha u (hz u hu)⟩
theorem MR{α:Type}{l:List α}{i:Int}{x:α}(h:idx l i=some x):0≤i∧l[i.toNat]? =some x:=by
 unfold idx at h;split at h
 ·exact⟨by assumption,h⟩
 ·cases h
end Abs
end Go.Proofs.YtkopaeklihhdlaaGreat
