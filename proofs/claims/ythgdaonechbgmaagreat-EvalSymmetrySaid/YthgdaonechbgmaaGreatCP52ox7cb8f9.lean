/-
  Sizes of carriers; that a value has a type. Conditions: none; lemmas without a program.
-/
import Derived.Test.YthgdaonechbgmaaGreatCW2ox72d696
set_option linter.all false
namespace Go.Proofs.YthgdaonechbgmaaGreat
namespace Abs
section
open Go
theorem J2(n:Nat)(qbz:Env→(List Int)→Val→Ty→Option Bool)(qb0:(List Ty)→Int→Int→Str→(List Val)→(List Carrier)→(List Decl)→(List Int)→Option Bool)(p0:List Ty)(p4:List Val)(p5:List Carrier)(p6:List Decl)(p7:List Int)(k:Nat)(s:Int):Ba n qbz qb0 p0 p4 p5 p6 p7 (k+1) s=yX n qbz qb0 p0 p4 p5 p6 p7 (Ba n qbz qb0 p0 p4 p5 p6 p7 k) s:=rfl
theorem Oo(n:Nat)(qbz:Env→(List Int)→Val→Ty→Option Bool)(qb0:(List Ty)→Int→Int→Str→(List Val)→(List Carrier)→(List Decl)→(List Int)→Option Bool)(p2:Val)(k:Nat)(s:Int):FR n qbz qb0 p2 (k+1) s=DN n qbz qb0 p2 (FR n qbz qb0 p2 k) s:=rfl
theorem Nr(n:Nat)(p0:Env)(p1:List Int)(k:Nat)(s:Int):zW n p0 p1 (k+1) s=yu n p0 p1 (zW n p0 p1 k) s:=rfl
theorem aqB(c:Carrier)(l:List Int)(i:Int)(s:Int)(h:idx l i=some s):(((idx l i).bind fun(x2:Int)=>(cond (decide (x2<1)) (some true) ((idx l i).bind fun(x3:Int)=>(cond (decide (8<x3)) (some true) (cond (decide (0<(c.elems.length:Int))) ((idx l i).bind fun(x4:Int)=>some (x4 !=(c.elems.length:Int))) (some false)))))):Option Bool)=some (abf c s):=by
 simp only[abf]
 grind
theorem arI(n:Nat)(nm:List Decl):∀(cs:List Carrier) (ss:List Int) (pc:List Carrier) (ps:List Int),pc.length=ps.length→cs.length=ss.length→∀k,cs.length+1≤k→zW n ⟨pc++cs,nm⟩ (ps++ss) k (pc.length:Int)=some (cond (J4 cs ss) (.nx ()) (.rt false))
 |[],ss,pc,ps,hp,hl,k,hk=>by
  obtain⟨j,rfl⟩:∃j,k=j+1:=⟨k - 1,by simp at hk;omega⟩;rw[Nr];unfold yu;rw[decide_eq_false (by simp)];rfl
 |c::cs,[],pc,ps,hp,hl,k,hk=>by simp at hl
 |c::cs,s::ss,pc,ps,hp,hl,k,hk=>by
  obtain⟨j,rfl⟩:∃j,k=j+1:=⟨k - 1,by simp at hk;omega⟩;have hi:idx (ps++s::ss) (pc.length:Int)=some s:=by rw[hp];exact gJ _ _ _
  have ih:=arI n nm cs ss (pc++[c]) (ps++[s]) (by simp[hp]) (by simpa using hl) j (by simp at hk;omega);rw[Nr];unfold yu;rw[decide_eq_true (by simp;omega)];simp only[cond_true];rw[gJ];simp only[qAb];rw[aqB c _ _ s hi];simp only[qAb,J4];cases hb:abf c s with
  |true=>rfl
  |false=>
   simp;rw[show(pc.length:Int)+1=((pc++[c]).length:Int) by simp];simpa using ih
theorem af4(env:Env)(sz:List Int):Ev (fun n=>Bh n env sz) (uj env sz):=by
 unfold Bh uj;cases h:((sz.length:Int)!=(env.carriers.length:Int))with
 |true=>exact Ev.ret _
 |false=>
  simp at h;refine Ev.bind (a:=cond (J4 env.carriers sz) (.nx ()) (.rt false)) ⟨env.carriers.length+1,fun n hn=>?_⟩ ?_
  ·have:=arI n env.names env.carriers sz [] [] rfl (by omega) n hn
   simp_all
  ·cases J4 env.carriers sz<;>exact Ev.ret _
inductive Shp:Ty→Prop where
 |int:Shp (.mk 1 [] [])
 |bool:Shp (.mk 2 [] [])
 |car (nm:Str):Shp (.mk 3 nm [])
 |pair {a b:Ty} (h:Shp a) (k:Shp b):Shp (.mk 4 [] [a,b])
 |set {a:Ty} (h:Shp a):Shp (.mk 5 [] [a])
mutual
theorem aAg:∀(t:Ty) (d c:Int),(pf t d c).1=true→Shp t
 | .mk k nm ks,d,c,h=>by
  simp only[pf]at h;cases hb:((decide (c+1≤16)&&decide (d≤6))&&fT k nm ks.length d)with
  |false=>rw[hb]at h;cases h
  |true=>
   rw[hb]at h;simp only[cond_true]at h;have hs:=au9 ks (d+1) (c+1) h;simp only[fT,qAa,qBe,beq_iff_eq]at hb;obtain⟨_,_,hk,hn⟩:=hb;rcases hk with⟨hk,hl⟩|⟨rfl,hl⟩|⟨rfl,hl⟩
   ·have:ks=[]:=qAD.1 hl;subst this;rcases hk with rfl|rfl|rfl
    ·have:nm=[]:=by simpa using hn
     subst this;exact .int
    ·have:nm=[]:=by simpa using hn
     subst this;exact .bool
    ·exact .car nm
   ·have:nm=[]:=by simpa using hn
    subst this
    match ks,hl with
    |[a,b],_=>exact .pair (hs a (by simp)) (hs b (by simp))
   ·have:nm=[]:=by simpa using hn
    subst this
    match ks,hl with
    |[a],_=>exact .set (hs a (by simp))
theorem au9:∀(ks:List Ty) (d c:Int),(kK ks d c).1=true→∀t∈ks,Shp t
 |[],_,_,_,_,ht=>by cases ht
 |k::ks,d,c,h,t,ht=>by
  simp only[kK]at h;cases h1:(pf k d c).1 with
  |false=>rw[h1]at h;cases h
  |true=>
   rw[h1]at h;simp only[cond_true]at h;rcases qAh.1 ht with h2|ht
   ·have h3:=aAg k d c h1;rw[h2];exact h3
   ·exact au9 ks d _ h t ht
end
theorem PY{t:Ty}(h:bA t=true):Shp t:=aAg t 1 0 h
theorem arx(env:Env)(s:Str):Ev (fun n=>Pz n env s) (dR (fun c=>c.name==s) 0 env.carriers):=by
 refine Ev.bind (vo env.carriers (fun n k i=>wY n env.carriers s k i) (fun _ x=>some (x.name==s)) (fun c=>c.name==s) (fun n k i=>rfl) (fun x _=>Ev.ret _)) (Ev.ret _)
theorem ave{env:Env}{sz:List Int}{nm:Str}(hl:sz.length=env.carriers.length)(h:dP env nm=true):0≤dR (fun c=>c.name==nm) 0 env.carriers∧idx sz (dR (fun c=>c.name==nm) 0 env.carriers)=some (He env sz nm):=by
 have hg:=mO (fun c:Carrier=>c.name==nm) env.carriers 0 (qBD _);have hany:env.carriers.any (fun c=>c.name==nm)=true:=h;rw[hany]at hg;have h0:0≤dR (fun c:Carrier=>c.name==nm) 0 env.carriers:=by simpa using hg
 rcases Dw (fun c:Carrier=>c.name==nm) env.carriers []with⟨x,_,_,g1,g2⟩|⟨_,g⟩
 ·simp at g1 g2;unfold He;unfold idx at g2⊢
  grind
 grind
theorem aqJ(p2:Val):∀(suf pre:List Val) (x:Val),p2.kids=pre++[x]++suf→p2.kids.length≤256→∃N,∀n,N≤n→∀k,suf.length+1≤k→∀r1 r2,FR n r1 r2 p2 k ((pre++[x]).length:Int)=some (cond (Fp (x::suf)) (.nx ()) (.rt false))
 |[],pre,x,e,hl=>by
  refine⟨0,fun n _ k hk r1 r2=>?_⟩;obtain⟨j,rfl⟩:∃j,k=j+1:=⟨k - 1,by simp at hk;omega⟩;rw[Oo];unfold DN;rw[decide_eq_false (by rw[e];simp)];rfl
 |y::suf,pre,x,e,hl=>by
  obtain⟨N1,h1⟩:=Eu x y;obtain⟨N2,h2⟩:=aqJ p2 suf (pre++[x]) y (by rw[e];simp) hl;refine⟨N1+N2,fun n hn k hk r1 r2=>?_⟩;obtain⟨j,rfl⟩:∃j,k=j+1:=⟨k - 1,by simp at hk;omega⟩;have h1:dY n x y=_:=h1 n (by omega);have h2:=h2 n (by omega) j (by simp at hk;omega) r1 r2;have hlen:pre.length+1≤256:=by rw[e]at hl;simp at hl;omega
  have ew:IntKind.wrap .i64 (((pre++[x]).length:Int) - 1)=(pre.length:Int):=by
   rw[qAe,qAI,wrap64 (by omega) (by omega)];omega
  have i1:idx p2.kids (pre.length:Int)=some x:=by rw[e,qAm,qCF];exact gJ _ _ _
  have i2:idx p2.kids ((pre++[x]).length:Int)=some y:=by rw[e];exact gJ _ _ _
  rw[Oo];unfold DN;rw[decide_eq_true (by rw[e];simp;omega),ew,i1,i2];simp only[cond_true,qAb];rw[h1];simp only[qAb,Fp];cases decide (0≤bQ x y)with
  |true=>rfl
  |false=>
   simp only[cond_false,qBb,qAu];rw[show((pre++[x]).length:Int)+1=((pre++[x]++[y]).length:Int) by simp only[qAe,qAI];omega];exact h2
theorem anQ(env:Env)(sz:List Int)(t:Ty)(H:∀v,Ev (fun n=>kN n env sz v t) (hasB env sz t v)):∀(suf pre:List Val),∃N,∀n,N≤n→∀k,suf.length+1≤k→Ba n (kN n) (wF n) [t] (pre++suf) env.carriers env.names sz k (pre.length:Int)=some (cond (suf.all fun v=>hasB env sz t v) (.nx ()) (.rt false))
 |[],pre=>by
  refine⟨0,fun n _ k hk=>?_⟩;obtain⟨j,rfl⟩:∃j,k=j+1:=⟨k - 1,by simp at hk;omega⟩;rw[J2];unfold yX;rw[decide_eq_false (by simp)];rfl
 |v::suf,pre=>by
  obtain⟨N1,h1⟩:=H v;obtain⟨N2,h2⟩:=anQ env sz t H suf (pre++[v]);refine⟨N1+N2,fun n hn k hk=>?_⟩;obtain⟨j,rfl⟩:∃j,k=j+1:=⟨k - 1,by simp at hk;omega⟩;have h1:kN n env sz v t=_:=h1 n (by omega);have h2:=h2 n (by omega) j (by simp at hk;omega);have i2:idx [t] (if(([t].length:Int) - 1)<(pre.length:Int)then(([t].length:Int) - 1)else(pre.length:Int))=some t:=by
   simp only[qAI];have:(if(((1:Nat):Int) - 1)<(pre.length:Int)then(((1:Nat):Int) - 1)else(pre.length:Int))=0:=by split<;>omega
   rw[this];rfl
  rw[J2];unfold yX;rw[decide_eq_true (by simp;omega),gJ,i2];simp only[cond_true,qAb];rw[show kN n (Env.mk env.carriers env.names) sz v t=kN n env sz v t from rfl,h1];simp only[qAb,qBC];cases hasB env sz t v with
  |false=>rfl
  |true=>
   simp only[qAv,cond_false,qAu];rw[show(pre.length:Int)+1=((pre++[v]).length:Int) by simp];simpa using h2
theorem aEr(env:Env)(sz:List Int)(t u:Ty)(a b:Val)(k n:Int)(s:Str)(H1:Ev (fun n=>kN n env sz a t) (hasB env sz t a))(H2:Ev (fun n=>kN n env sz b u) (hasB env sz u b)):Ev (fun m=>wF m [t,u] k n s [a,b] env.carriers env.names sz) (Zk env sz [t,u] [a,b]):=by
 refine Ev.succ ?_;obtain⟨N1,h1⟩:=H1;obtain⟨N2,h2⟩:=H2;refine⟨N1+N2+3,fun m hm=>?_⟩;have h1:kN m (Env.mk env.carriers env.names) sz a t=_:=h1 m (by omega);have h2:kN m (Env.mk env.carriers env.names) sz b u=_:=h2 m (by omega);show wQ m _ _ [t,u] k n s [a,b] env.carriers env.names sz=_;unfold wQ;obtain⟨j,hj⟩:∃j,m=j+3:=⟨m - 3,by omega⟩;have e1:Ba m (kN m) (wF m) [t,u] [a,b] env.carriers env.names sz (j+3) 0=some (cond (Zk env sz [t,u] [a,b]) (.nx ()) (.rt false)):=by
  have i0:idx [t,u] (if(((([t,u]:List Ty)).length:Int) - 1)<0 then((([t,u]:List Ty).length:Int) - 1)else 0)=some t:=rfl;have i1:idx [t,u] (if(((([t,u]:List Ty)).length:Int) - 1)<0+1 then((([t,u]:List Ty).length:Int) - 1)else 0+1)=some u:=rfl;simp only[J2,yX,show idx [a,b] 0=some a from rfl,show idx [a,b] (0+1)=some b from rfl,Zk]
  grind
 grind
theorem ayM(env:Env)(sz:List Int)(hl:sz.length=env.carriers.length):∀{t:Ty},Shp t→(dX t).all (dP env)=true→∀v,Ev (fun n=>kN n env sz v t) (hasB env sz t v):=by
 intro t h
 induction h with
 |int=>
  intro _ v;refine Ev.succ ?_;show Ev (fun n=>ko n _ _ env sz v (.mk 1 [] [])) _;unfold ko;refine Ev.pos rfl ?_;refine Ev.bind (a:=acs v) ?_ (Ev.ret _);unfold acs;cases v.kind==1<;>cases decide ((-1000000000)≤v.n)<;>cases decide (v.n≤1000000000)<;>cases v.name==[]<;>cases(v.kids.length:Int)==0<;>exact Ev.ret _
 |bool=>
  intro _ v;refine Ev.succ ?_;show Ev (fun n=>ko n _ _ env sz v (.mk 2 [] [])) _;unfold ko;refine Ev.neg rfl ?_;refine Ev.pos rfl ?_;refine Ev.bind (a:=abw v) ?_ (Ev.ret _);unfold abw;cases v.kind==2<;>cases v.n==0<;>cases v.n==1<;>cases v.name==[]<;>cases(v.kids.length:Int)==0<;>exact Ev.ret _
 |car nm=>
  intro hc v;have hc:dP env nm=true:=by simpa[dX]using hc
  obtain⟨g1,g2⟩:=ave hl hc;refine Ev.succ ?_;show Ev (fun n=>ko n _ _ env sz v (.mk 3 nm [])) _;unfold ko;refine Ev.neg rfl ?_;refine Ev.neg rfl ?_;refine Ev.pos rfl ?_;refine Ev.bind (arx env nm) ?_;refine Ev.bind (a:=OD env sz nm v) ?_ (Ev.ret _);simp only[decide_eq_true g1,cond_true,g2,qAb,Ty.name];unfold OD;cases v.kind==3<;>cases v.name==nm<;>cases decide (0≤v.n)<;>cases decide (v.n<He env sz nm)<;>cases(v.kids.length:Int)==0<;>exact Ev.ret _
 |@pair a b ha hb iha ihb=>
  intro hc v;simp only[dX,jG,qAt,show((4:Int)==3)=false from rfl,cond_false,List.all_append,qAa]at hc;refine Ev.succ ?_;show Ev (fun n=>ko n _ _ env sz v (.mk 4 [] [a,b])) _;unfold ko;refine Ev.neg rfl ?_;refine Ev.neg rfl ?_;refine Ev.neg rfl ?_;refine Ev.pos rfl ?_;refine Ev.bind (a:=hasB env sz (.mk 4 [] [a,b]) v) ?_ (Ev.ret _);simp only[hasB,show((4:Int)==1)=false from rfl,show((4:Int)==2)=false from rfl,show((4:Int)==3)=false from rfl,show((4:Int)==4)=true from rfl,cond_false,cond_true,Ty.kids];cases v.kind==4 with
  |false=>exact Ev.ret _
  |true=>
   cases v.n==0 with
   |false=>exact Ev.ret _
   |true=>
    cases v.name==[]with
    |false=>exact Ev.ret _
    |true=>
     cases h2:(v.kids.length:Int)==2 with
     |false=>exact Ev.ret _
     |true=>
      simp only[cond_true,qAu];obtain⟨k,n,s,ks⟩:=v;simp only[Val.kids,beq_iff_eq]at h2
      match ks,h2 with
      |[x,y],_=>exact Ev.bind (aEr env sz a b x y k n s (iha hc.1 x) (ihb hc.2 y)) (Ev.ret _)
 |@set a ha iha=>
  intro hc v;simp only[dX,jG,qAt,show((5:Int)==3)=false from rfl,cond_false]at hc;have H:=iha hc;refine Ev.succ ?_;show Ev (fun n=>ko n _ _ env sz v (.mk 5 [] [a])) _;unfold ko;refine Ev.neg rfl ?_;refine Ev.neg rfl ?_;refine Ev.neg rfl ?_;refine Ev.neg rfl ?_;refine Ev.pos rfl ?_;simp only[hasB,show((5:Int)==1)=false from rfl,show((5:Int)==2)=false from rfl,show((5:Int)==3)=false from rfl,show((5:Int)==4)=false from rfl,cond_false,Ty.kids];have e1:(v.kind !=5)=!(v.kind==5):=rfl;have e2:(v.n !=0)=!(v.n==0):=rfl;rw[e1,e2];cases v.kind==5 with
  |false=>refine Ev.bind (a:=true) (Ev.ret _) ?_;exact Ev.ret _
  |true=>
   cases v.n==0 with
   |false=>refine Ev.bind (a:=true) (Ev.ret _) ?_;exact Ev.ret _
   |true=>
    cases v.name==[]with
    |false=>refine Ev.bind (a:=true) (Ev.ret _) ?_;exact Ev.ret _
    |true=>
     cases h256:decide (256<(v.kids.length:Int))with
     |true=>refine Ev.bind (a:=true) (Ev.ret _) ?_;exact Ev.ret _
     |false=>
      have hlen:v.kids.length≤256:=by simp at h256;omega
      have hk:Ev (fun n=>wF n [a] v.kind v.n v.name v.kids env.carriers env.names sz) (v.kids.all fun v=>hasB env sz a v):=by
       obtain⟨N,h⟩:=anQ env sz a H v.kids [];refine Ev.succ ?_;refine⟨N+v.kids.length+1,fun n hn=>?_⟩;have:=h n (by omega) n (by omega);simp only[qAo,qAA]at this;show wQ n _ _ [a] v.kind v.n v.name v.kids env.carriers env.names sz=_;unfold wQ;rw[show((0:Nat):Int)=0 from rfl]at this;rw[this];cases(v.kids.all fun v=>hasB env sz a v)<;>rfl
      simp only[qAv,cond_false,qBb,qAu,awR];refine Ev.bind (Ev.bind hk (Ev.ret _)) ?_;cases(v.kids.all fun v=>hasB env sz a v)with
      |false=>exact Ev.ret _
      |true=>
       simp only[qAv,cond_false,qAu];refine Ev.bind (a:=cond (Fp v.kids) (.nx ()) (.rt false)) ?_ (by cases Fp v.kids<;>exact Ev.ret _);cases hks:v.kids with
       |nil=>
        refine⟨1,fun n hn=>?_⟩;obtain⟨j,rfl⟩:∃j,n=j+1:=⟨n - 1,by omega⟩;show FR (j+1) _ _ v (j+1) 1=_;rw[Oo];unfold DN;rw[decide_eq_false (by rw[hks];simp)];rfl
       |cons x xs=>
        obtain⟨N,h⟩:=aqJ v xs [] x (by rw[hks];rfl) hlen;refine⟨N+xs.length+1,fun n hn=>?_⟩;have:=h n (by omega) n (by omega) (kN n) (wF n);exact this
theorem avE:∀l:List Val,Fp l=true↔l.Pairwise iA
 |[]=>by simp[Fp]
 |[a]=>by simp[Fp]
 |a::b::r=>by
  have ih:=avE (b::r);unfold Fp;rw[qAa,ih,qAV,decide_eq_false_iff_not,Int.not_le];constructor
  ·rintro⟨h1,h2⟩;refine qBn.2 ⟨fun x hx=>?_,h2⟩;rcases qAh.1 hx with rfl|hx
   ·exact h1
   ·exact BF _ _ _ h1 ((qBn.1 h2).1 x hx)
  ·intro h;exact⟨(qBn.1 h).1 b (by simp),(qBn.1 h).2⟩
section
variable {env:Env}{sz:List Int}
theorem sG{v:Val}:hasB env sz fE v=true↔∃n,v=iY n∧EU n:=by
 obtain⟨k,n,s,ks⟩:=v;rw[show hasB env sz fE (.mk k n s ks)=acs (.mk k n s ks) by unfold fE hasB;rfl];unfold acs iY EU;simp only[Val.kind,Val.n,Val.name,Val.kids,qAa,beq_iff_eq,Val.mk.injEq];constructor
 ·rintro⟨rfl,rfl,h,h1,h2⟩;have:ks=[]:=qAD.1 (by omega)
  grind
 grind
theorem Aa{v:Val}:hasB env sz aY v=true↔∃b,v=aO b:=by
 obtain⟨k,n,s,ks⟩:=v;rw[show hasB env sz aY (.mk k n s ks)=abw (.mk k n s ks) by unfold aY hasB;rfl];unfold abw aO;simp only[Val.kind,Val.n,Val.name,Val.kids];constructor
 ·simp_all
 grind
theorem qJ{a b:Ty}{v:Val}:hasB env sz (aR a b) v=true↔∃x y,v=aG x y∧hasB env sz a x=true∧hasB env sz b y=true:=by
 obtain⟨k,n,s,ks⟩:=v;have e:hasB env sz (aR a b) (.mk k n s ks)=(k==4&&(n==0&&(s==[]&&((ks.length:Int)==2&&Zk env sz [a,b] ks)))):=by unfold aR;rw[hasB];rfl
 rw[e];simp;constructor
 ·rintro⟨rfl,rfl,rfl,h,h1⟩
  match ks,h with
  |[x,y],_=>
   simp only[Zk,qAa,and_true]at h1;exact⟨x,y,rfl,h1.1,h1.2⟩
  |[],h=>simp at h
  |[x],h=>simp at h
  |x::y::z::r,h=>simp at h;omega
 ·rintro⟨x,y,h,h1,h2⟩;cases h;simp only[Zk,h1,h2];simp
theorem iV{e:Ty}{v:Val}:hasB env sz (au e) v=true↔∃l,v=mkSet l∧dO l∧∀x∈l,hasB env sz e x=true:=by
 obtain⟨k,n,s,ks⟩:=v;have e:hasB env sz (au e) (.mk k n s ks)=((k==5&&(n==0&&(s==[]&&!(decide (256<(ks.length:Int))))))&&(ks.all (fun v=>hasB env sz e v)&&Fp ks)):=by unfold au;rw[hasB];simp only[awR];rfl
 rw[e];simp only[qAa,beq_iff_eq,qAV,decide_eq_false_iff_not,avE,qAP];constructor
 ·rintro⟨⟨rfl,rfl,rfl,h⟩,h1,h2⟩;exact⟨ks,rfl,⟨h2,by omega⟩,h1⟩
 ·rintro⟨l,h,h1,h2⟩;cases h;exact⟨⟨rfl,rfl,rfl,by have:=h1.2;omega⟩,h2,h1.1⟩
theorem Br{l:List Val}{v:Val}(h:bF l=.ok v):v=gH l∧(sortV l).length≤256:=by
 unfold bF at h
 grind
theorem mZ{e:Ty}{l:List Val}{v:Val}(h:bF l=.ok v)(hl:∀x∈l,hasB env sz e x=true):hasB env sz (au e) v=true:=by
 obtain⟨rfl,h1⟩:=Br h;exact iV.2 ⟨_,rfl,⟨cZ l,h1⟩,fun x hx=>hl x ((aV l x).1 hx)⟩
theorem aq8{n:Int}{v:Val}(h:gM n=.ok v):v=iY n∧EU n:=by
 unfold gM ab1 at h;cases h1:decide (1000000000<n)with
 |true=>rw[h1]at h;cases h
 |false=>
  cases h2:decide (n< -1000000000)with
  |true=>rw[h1,h2]at h;cases h
  |false=>
   rw[h1,h2]at h;cases h;have:=of_decide_eq_false h1;have:=of_decide_eq_false h2;exact⟨rfl,by omega,by omega⟩
theorem IX{n:Int}{v:Val}(h:gM n=.ok v):hasB env sz fE v=true:=by
 obtain⟨rfl,h1⟩:=aq8 h;exact sG.2 ⟨_,rfl,h1⟩
theorem lN{b:Bool}{v:Val}(h:(.ok (aO b):VR)=.ok v):hasB env sz aY v=true:=by cases h;exact Aa.2 ⟨b,rfl⟩
theorem then_ok{β γ:Type}{r:RR β}{f:β→RR γ}{v:γ}(h:r.thn f=.ok v):∃a,r=.ok a∧f a=.ok v:=by
 cases r with
 |ok a=>exact⟨a,rfl,h⟩
 |er e=>cases h
theorem seq_ok{α:Type}(f:α→VR):∀(xs:List α) (ys:List Val),aN (xs.map f)=.ok ys→ys.length=xs.length∧∀p∈xs.zip ys,f p.1=.ok p.2
 |[],ys,h=>by cases h;simp
 |x::xs,ys,h=>by
  rw[qAy]at h;cases hx:f x with
  |er e=>rw[hx]at h;cases h
  |ok v=>
   rw[hx]at h;unfold aN at h;cases hr:aN (xs.map f)with
   |er e=>rw[hr]at h;cases h
   |ok l=>
    rw[hr]at h;cases h;obtain⟨h1,h2⟩:=seq_ok f xs l hr;refine⟨by simp[h1],fun p hp=>?_⟩;rw[qDT]at hp
    grind
theorem seq1{r:VR}{f:List Val→VR}{v:Val}(h:(aN [r]).thn f=.ok v):∃a,r=.ok a∧f [a]=.ok v:=by
 cases r with
 |ok a=>exact⟨a,rfl,h⟩
 |er e=>cases h
theorem seq2{r s:VR}{f:List Val→VR}{v:Val}(h:(aN [r,s]).thn f=.ok v):∃a b,r=.ok a∧s=.ok b∧f [a,b]=.ok v:=by
 cases r with
 |ok a=>
  cases s with
  |ok b=>exact⟨a,b,rfl,rfl,h⟩
  |er e=>cases h
 |er e=>cases h
theorem Hz{l r:List Val}(h:r∈jr l):r.Sublist l:=by
 have key:∀(q pre:List Val) (os:List (List Val)),(∀r∈os,r.Sublist pre)→∀r∈q.foldl (fun out x=>out++out.map fun r=>r++[x]) os,r.Sublist (pre++q):=by
  intro q
  induction q with
  |nil=>intro pre os h r hr;rw[qAt];exact h r hr
  |cons y q ih=>
   intro pre os h r hr;have:=ih (pre++[y]) (os++os.map fun r=>r++[y]) (fun r hr=>by
    rcases qAr.1 hr with hr|hr
    ·grind
    ·obtain⟨z,hz,rfl⟩:=qAJ.1 hr;exact(h z hz).append (qDW _)) r hr
   grind
 exact key l [] [[]] (fun r hr=>by simp at hr;subst hr;exact qDW _) r h
theorem YO{op:Int}{a b:List Val}{d:Nat}(h1:1≤d)(hd:op=41→b.length≤d):∀(xs l:List Val) (x:Val),x∈iM op a b xs l→∃m,x=gH m∧(∀p∈m,p∈l∨∃u∈xs,∃v∈b,p=aG u v)∧m.length≤l.length+d*xs.length∧lC op a b m=true
 |[],l,x,h=>by
  unfold iM at h
  grind
 |y::xs,l,x,h=>by
  have ih:=YO (a:=a) h1 hd xs;unfold iM at h;have one:∀(q:List Val),(∀p∈q,∃v∈b,p=aG y v)→q.length≤d→x∈iM op a b xs (l++q)→∃m,x=gH m∧(∀p∈m,p∈l∨∃u∈y::xs,∃v∈b,p=aG u v)∧m.length≤l.length+d*(y::xs).length∧lC op a b m=true:=by
   intro q hq hl hx;obtain⟨m,e,h2,h3,h4⟩:=ih (l++q) x hx;refine⟨m,e,fun p hp=>?_,?_,h4⟩
   ·grind
   ·simp at h3⊢
    grind
  cases h41:(op==41)with
  |true=>
   rw[h41]at h;obtain⟨im,him,hx⟩:=qBx.1 h;have hs:=Hz him;refine one _ (fun p hp=>?_) ?_ hx
   ·grind
   grind
  |false=>
   rw[h41]at h;rcases qAr.1 h with h|h
   ·cases h42:(op==42)with
    |false=>rw[h42]at h;cases h
    |true=>rw[h42]at h;exact one [] (by simp) (by simp) (by simpa using h)
   ·obtain⟨v,hv,hx⟩:=qBx.1 h
    grind
theorem Sv:∀(k:Nat) (a:Int) (x:Val),x∈ints a k→∃i,x=iY i∧a≤i∧i<a+k
 |0,_,_,h=>by cases h
 |k+1,a,x,h=>by
  rcases qAh.1 h with rfl|h
  ·grind
  ·obtain⟨i,e,h1,h2⟩:=Sv k (a+1) x h
   grind
theorem IU{a b:Ty}{p:Val}(h:hasB env sz (aR a b) p=true):hasB env sz a (aJ p)=true∧hasB env sz b (aQ p)=true:=by
 obtain⟨x,y,rfl,h1,h2⟩:=qJ.1 h;exact⟨h1,h2⟩
theorem Lv{a b:Ty}{x y:Val}(h:hasB env sz a x=true)(k:hasB env sz b y=true):hasB env sz (aR a b) (aG x y)=true:=qJ.2 ⟨x,y,rfl,h,k⟩
theorem avw{op:Int}(ho:op=41∨op=42∨op=43∨op=44∨op=45){s t:Ty}{a b:List Val}(ha:dO a)(hb:dO b)(ta:∀x∈a,hasB env sz s x=true)(tb:∀x∈b,hasB env sz t x=true){l:List Val}(h:l8 op a b=.ok l):
  ∀x∈l,hasB env sz (au (aR s t)) x=true:=by
 unfold l8 at h;cases hN:kX op a.length b.length with
 |true=>rw[hN]at h;cases h;intro x hx;cases hx
 |false=>
  cases hM:je op b.length a.length 0 1 with
  |true=>rw[hN,hM]at h;cases h
  |false=>
   rw[hN,hM]at h;cases h;intro x hx;obtain⟨d,hd1,hd2,hd3⟩:∃d,1≤d∧(op=41→b.length≤d)∧d*a.length≤256:=by
    have:=ha.2;by_cases h41:op=41
    ·subst h41;have h1:=YN (.inl rfl) a.length 0 1 (by show 2^b.length≠0;have:=qCZ (n:=b.length);omega) (by omega) hM;rw[show lq 41 b.length=2^b.length from rfl,qCf,←Nat.pow_mul]at h1;have h2:b.length*a.length≤8:=by
      rcases qDq 8 (b.length*a.length)with h|h
      ·have:=Nat.pow_lt_pow_right (a:=2) (by omega) h;omega
      ·exact h
     refine⟨b.length+1,by omega,fun _=>by omega,?_⟩;rw[qAU,qCf];rcases qCY a.length with h|h
     ·grind
     ·rcases qCY b.length with h'|h'
      ·grind
      ·have:1*a.length≤b.length*a.length:=qAQ _ h';omega
    ·exact⟨1,by omega,fun h=>absurd h h41,by omega⟩
   obtain⟨m,rfl,h2,h3,_⟩:=YO hd1 hd2 a [] x hx;refine iV.2 ⟨_,rfl,⟨cZ _,?_⟩,fun p hp=>?_⟩
   ·have:=eP m
    grind
   ·rcases h2 p ((aV m p).1 hp)with h|⟨u,hu,v,hv,rfl⟩
    ·cases h
    ·exact Lv (ta u hu) (tb v hv)
inductive Scp(env:Env)(sz:List Int):List Decl→List Bound→Prop
 |nil:Scp env sz [] []
 |cons {nm:Str} {t:Ty} {v:Val} {sc:List Decl} {bs:List Bound} (h:hasB env sz t v=true) (k:Scp env sz sc bs):Scp env sz (⟨nm,t⟩::sc) (⟨nm,v⟩::bs)
def Xp(env:Env)(sz:List Int)(g:Str→Val):Prop:=∀s t,look env s=some t→hasB env sz t (g s)=true
theorem aCQ{g:Str→Val}(hg:Xp env sz g){sc:List Decl}{bs:List Bound}(h:Scp env sz sc bs)(s:Str)(t:Ty)(ht:nJ env sc s=some t):hasB env sz t (Ml g bs s)=true:=by
 unfold nJ at ht;unfold Ml
 induction h with
 |nil=>exact hg s t ht
 |cons h k ih=>
  grind
end
theorem mem2{P:Tm→Prop}{x y:Tm}(h:∀t∈[x,y],P t):P x∧P y:=by grind
set_option maxHeartbeats 4000000 in
theorem sound{env:Env}{sz:List Int}{g:Str→Val}(hg:Xp env sz g):∀t:Tm,∀(sc:List Decl) (ty:Ty) (bs:List Bound) (v:Val),HT env sc t ty→Scp env sz sc bs→aj g t bs=.ok v→hasB env sz ty v=true:=
 Tm.ind fun op nm m u ks ih sc ty bs v ht hs h=>by
 rw[bG]at h;have S:∀{e:Ty} {w:Val},hasB env sz (au e) w=true→dO w.kids∧∀x∈w.kids,hasB env sz e x=true:=fun hw=>by
  obtain⟨l,rfl,h1,h2⟩:=iV.1 hw;exact⟨h1,h2⟩
 cases ht with
 |lit op ho=>rcases ho with rfl|rfl<;>exact lN h
 |int _=>exact IX h
 |name hl=>cases h;exact aCQ hg hs _ _ hl
 |empty _=>cases h;exact iV.2 ⟨[],rfl,⟨.nil,by simp⟩,fun x hx=>by cases hx⟩
 |not _=>obtain⟨a,_,h⟩:=seq1 (r:=aj g _ bs) (f:=bB 3) h;exact lN h
 |log op ho hx hy=>
  rename_i x y;obtain⟨ix,iy⟩:=mem2 ih;rcases ho with rfl|rfl|rfl|rfl
  ·obtain⟨p,_,h⟩:=then_ok (r:=aj g x bs) h;cases hp:(p.n==1)with
   |false=>rw[hp]at h;exact lN h
   |true=>rw[hp]at h;exact iy sc aY bs v hy hs h
  ·obtain⟨p,_,h⟩:=then_ok (r:=aj g x bs) h;cases hp:(p.n==1)with
   |true=>rw[hp]at h;exact lN h
   |false=>rw[hp]at h;exact iy sc aY bs v hy hs h
  ·obtain⟨p,_,h⟩:=then_ok (r:=aj g x bs) h;cases hp:(p.n==1)with
   |false=>rw[hp]at h;exact lN h
   |true=>rw[hp]at h;exact iy sc aY bs v hy hs h
  ·obtain⟨a,b,_,_,h⟩:=seq2 (r:=aj g x bs) (s:=aj g y bs) (f:=bB 7) h;exact lN h
 |qu op ho hx hy=>
  rename_i x y e;rcases ho with rfl|rfl
  ·obtain⟨s,_,h⟩:=then_ok (r:=aj g x bs) h;obtain⟨ys,_,h⟩:=then_ok (r:=fH (aj g y) nm bs s.kids) h;exact lN h
  ·obtain⟨s,_,h⟩:=then_ok (r:=aj g x bs) h;obtain⟨ys,_,h⟩:=then_ok (r:=fH (aj g y) nm bs s.kids) h;exact lN h
 |compr hx hy=>
  rename_i x y e;obtain⟨ix,iy⟩:=mem2 ih;obtain⟨s,h1,h⟩:=then_ok (r:=aj g x bs) h;obtain⟨ys,h2,h⟩:=then_ok (r:=fH (aj g y) nm bs s.kids) h;obtain⟨_,hs2⟩:=S (ix sc _ bs s hx hs h1);refine mZ (l:=(s.kids.zip ys).flatMap fun(p:Val×Val)=>cond (p.2.n==1) [p.1] []) h fun z hz=>?_;obtain⟨p,hp,hz⟩:=qBx.1 hz;have hm:=hs2 p.1 (qCR (show(p.1,p.2)∈s.kids.zip ys from hp)).1;cases hb:(p.2.n==1)with
  |false=>rw[hb]at hz;cases hz
  |true=>
   rw[hb]at hz;have:z=p.1:=by simpa using hz
   rw[this];exact hm
 |fn hgt hx hy=>
  rename_i x y e t;obtain⟨ix,iy⟩:=mem2 ih;obtain⟨s,h1,h⟩:=then_ok (r:=aj g x bs) h;obtain⟨ys,h2,h⟩:=then_ok (r:=fH (aj g y) nm bs s.kids) h;obtain⟨_,hs2⟩:=S (ix sc _ bs s hx hs h1);refine mZ (l:=(s.kids.zip ys).flatMap fun(p:Val×Val)=>[aG p.1 p.2]) h fun z hz=>?_;obtain⟨p,hp,hz⟩:=qBx.1 hz;have hm:=hs2 p.1 (qCR (show(p.1,p.2)∈s.kids.zip ys from hp)).1;have hv:=(seq_ok (fun x=>aj g y (⟨nm,x⟩::bs)) s.kids ys h2).2 p hp;have:z=aG p.1 p.2:=by simpa using hz
  rw[this];exact Lv hm (iy _ _ _ _ hy (.cons hm hs) hv)
 |eq op ho hgt hx hy=>
  rename_i x y t;rcases ho with rfl|rfl
  ·obtain⟨a,b,_,_,h⟩:=seq2 (r:=aj g x bs) (s:=aj g y bs) (f:=bB 10) h;exact lN h
  ·obtain⟨a,b,_,_,h⟩:=seq2 (r:=aj g x bs) (s:=aj g y bs) (f:=bB 11) h;exact lN h
 |ord op ho hx hy=>
  rename_i x y;rcases ho with rfl|rfl|rfl|rfl
  ·obtain⟨a,b,_,_,h⟩:=seq2 (r:=aj g x bs) (s:=aj g y bs) (f:=bB 12) h;exact lN h
  ·obtain⟨a,b,_,_,h⟩:=seq2 (r:=aj g x bs) (s:=aj g y bs) (f:=bB 13) h;exact lN h
  ·obtain⟨a,b,_,_,h⟩:=seq2 (r:=aj g x bs) (s:=aj g y bs) (f:=bB 14) h;exact lN h
  ·obtain⟨a,b,_,_,h⟩:=seq2 (r:=aj g x bs) (s:=aj g y bs) (f:=bB 15) h;exact lN h
 |inn op ho hx hy=>
  rename_i x y t;rcases ho with rfl|rfl
  ·obtain⟨a,_,h⟩:=then_ok (r:=aj g x bs) h;obtain⟨l,_,h⟩:=then_ok (r:=vv (nu g y) bs) h;exact lN h
  ·obtain⟨a,_,h⟩:=then_ok (r:=aj g x bs) h;obtain⟨l,_,h⟩:=then_ok (r:=vv (nu g y) bs) h;exact lN h
 |sub hx hy=>
  rename_i x y t;obtain⟨a,_,h⟩:=then_ok (r:=aj g x bs) h;obtain⟨l,_,h⟩:=then_ok (r:=vv (nu g y) bs) h;exact lN h
 |neg hx=>obtain⟨a,_,h⟩:=seq1 (r:=aj g _ bs) (f:=bB 21) h;exact IX h
 |num op ho hx hy=>
  rename_i x y;rcases ho with rfl|rfl|rfl|rfl|rfl
  ·obtain⟨a,b,_,_,h⟩:=seq2 (r:=aj g x bs) (s:=aj g y bs) (f:=bB 22) h;exact IX h
  ·obtain⟨a,b,_,_,h⟩:=seq2 (r:=aj g x bs) (s:=aj g y bs) (f:=bB 23) h;exact IX h
  ·obtain⟨a,b,_,_,h⟩:=seq2 (r:=aj g x bs) (s:=aj g y bs) (f:=bB 24) h;exact IX h
  ·obtain⟨a,b,_,_,h⟩:=seq2 (r:=aj g x bs) (s:=aj g y bs) (f:=bB 25) h;have h:cond (b.n==0) (.er 10) (gM (Int.tdiv a.n b.n))=(.ok v:VR):=h;cases hb:(b.n==0)with
   |true=>rw[hb]at h;cases h
   |false=>rw[hb]at h;exact IX h
  ·obtain⟨a,b,_,_,h⟩:=seq2 (r:=aj g x bs) (s:=aj g y bs) (f:=bB 26) h;have h:cond (decide (a.n<0) ||decide (b.n<1)) (.er 10) (gM (Int.tmod a.n b.n))=(.ok v:VR):=h;cases hb:(decide (a.n<0) ||decide (b.n<1))with
   |true=>rw[hb]at h;cases h
   |false=>rw[hb]at h;exact IX h
 |pair ha hb hx hy=>
  rename_i x y a b;obtain⟨ix,iy⟩:=mem2 ih;obtain⟨a,b,h1,h2,h⟩:=seq2 (r:=aj g x bs) (s:=aj g y bs) (f:=bB 27) h;cases h;exact Lv (ix _ _ _ _ hx hs h1) (iy _ _ _ _ hy hs h2)
 |set ha hn hk=>
  rename_i a;have h:(aN ((ks.map (nu g)).map fun k=>k.f bs)).thn bF=(.ok v:VR):=h;obtain⟨l,hl,h⟩:=then_ok h;rw[qBh]at hl;obtain⟨h1,h2⟩:=seq_ok (fun t=>aj g t bs) ks l hl;refine mZ h fun z hz=>?_;obtain⟨i,hi,rfl⟩:=qBy hz;have hp:(ks[i]'(by omega),l[i])∈ks.zip l:=by
   rw[qBF];exact⟨i,by simp;omega,by simp⟩
  exact ih _ (qAO _) _ _ _ _ (hk _ (qAO _)) hs (h2 _ hp)
 |range hx hy=>
  rename_i x y;obtain⟨ix,iy⟩:=mem2 ih;obtain⟨a,b,h1,h2,h⟩:=seq2 (r:=aj g x bs) (s:=aj g y bs) (f:=bB 30) h;obtain⟨i,rfl,hi⟩:=sG.1 (ix _ _ _ _ hx hs h1);obtain⟨j,rfl,hj⟩:=sG.1 (iy _ _ _ _ hy hs h2);obtain⟨l,hl,h⟩:=then_ok (r:=sF 30 (iY i) (iY j)) (f:=bF) h;have hl:cond (decide (256≤j - i)) (.er 11) (.ok (ints i (j+1 - i).toNat))=(.ok l:xU):=hl;cases hb:decide (256≤j - i)with
  |true=>rw[hb]at hl;cases hl
  |false=>
   rw[hb]at hl;cases hl;refine mZ h fun z hz=>?_;obtain⟨k,rfl,h3,h4⟩:=Sv _ _ _ hz;have:=hi.1;have:=hj.2;exact sG.2 ⟨k,rfl,by omega,by omega⟩
 |bin op ho hx hy=>
  rename_i x y e;obtain⟨ix,iy⟩:=mem2 ih;have fin:∀(a b:Val),aj g x bs=.ok a→aj g y bs=.ok b→∀l:List Val,(∀z∈l,z∈a.kids∨z∈b.kids)→bF l=.ok v→hasB env sz (au e) v=true:=fun a b h1 h2 l hl hb=>
   mZ hb fun z hz=>(hl z hz).elim ((S (ix _ _ _ _ hx hs h1)).2 z) ((S (iy _ _ _ _ hy hs h2)).2 z)
  rcases ho with rfl|rfl|rfl
  ·obtain⟨a,b,h1,h2,h⟩:=seq2 (r:=aj g x bs) (s:=aj g y bs) (f:=bB 31) h;exact fin a b h1 h2 _ (fun z hz=>qAr.1 hz) h
  ·obtain⟨a,b,h1,h2,h⟩:=seq2 (r:=aj g x bs) (s:=aj g y bs) (f:=bB 32) h;exact fin a b h1 h2 _ (fun z hz=>.inl (qBa.1 hz).1) h
  ·obtain⟨a,b,h1,h2,h⟩:=seq2 (r:=aj g x bs) (s:=aj g y bs) (f:=bB 33) h;exact fin a b h1 h2 _ (fun z hz=>.inl (qBa.1 hz).1) h
 |prod hx hy=>
  rename_i x y s t;obtain⟨ix,iy⟩:=mem2 ih;obtain⟨a,b,h1,h2,h⟩:=seq2 (r:=aj g x bs) (s:=aj g y bs) (f:=bB 34) h;obtain⟨l,hl,h⟩:=then_ok (r:=sF 34 a b) (f:=bF) h;have hl:cond (decide (256<(a.kids.length:Int)*b.kids.length)) (.er 11) (.ok (a.kids.flatMap fun x=>b.kids.map (aG x)))=(.ok l:xU):=hl;cases hb:decide (256<(a.kids.length:Int)*b.kids.length)with
  |true=>rw[hb]at hl;cases hl
  |false=>
   rw[hb]at hl;cases hl;refine mZ h fun z hz=>?_;obtain⟨p,hp,hz⟩:=qBx.1 hz;obtain⟨q,hq,rfl⟩:=qAJ.1 hz;exact Lv ((S (ix _ _ _ _ hx hs h1)).2 p hp) ((S (iy _ _ _ _ hy hs h2)).2 q hq)
 |over hx hy=>
  rename_i x y s t;obtain⟨ix,iy⟩:=mem2 ih;obtain⟨a,b,h1,h2,h⟩:=seq2 (r:=aj g x bs) (s:=aj g y bs) (f:=bB 35) h;refine mZ (l:=a.kids.filter (fun p=>!aF (d9 b.kids) (aJ p))++b.kids) h fun z hz=>?_;rcases qAr.1 hz with hz|hz
  ·exact(S (ix _ _ _ _ hx hs h1)).2 z (qBa.1 hz).1
  ·exact(S (iy _ _ _ _ hy hs h2)).2 z hz
 |comp hx hy=>
  rename_i x y s t r;obtain⟨ix,iy⟩:=mem2 ih;obtain⟨a,b,h1,h2,h⟩:=seq2 (r:=aj g x bs) (s:=aj g y bs) (f:=bB 36) h;refine mZ (l:=a.kids.flatMap fun p=>b.kids.flatMap fun q=>cond (eD (aQ p) (aJ q)) [aG (aJ p) (aQ q)] []) h fun z hz=>?_;obtain⟨p,hp,hz⟩:=qBx.1 hz;obtain⟨q,hq,hz⟩:=qBx.1 hz;have hp:=IU ((S (ix _ _ _ _ hx hs h1)).2 p hp);have hq:=IU ((S (iy _ _ _ _ hy hs h2)).2 q hq);cases hb:eD (aQ p) (aJ q)with
  |false=>rw[hb]at hz;cases hz
  |true=>
   rw[hb]at hz;have:z=aG (aJ p) (aQ q):=by simpa using hz
   rw[this];exact Lv hp.1 hq.2
 |dres op ho hx hy=>
  rename_i x y s t;obtain⟨ix,iy⟩:=mem2 ih;rcases ho with rfl|rfl
  ·obtain⟨a,b,h1,h2,h⟩:=seq2 (r:=aj g x bs) (s:=aj g y bs) (f:=bB 37) h;exact mZ (l:=b.kids.filter _) h fun z hz=>(S (iy _ _ _ _ hy hs h2)).2 z (qBa.1 hz).1
  ·obtain⟨a,b,h1,h2,h⟩:=seq2 (r:=aj g x bs) (s:=aj g y bs) (f:=bB 38) h;exact mZ (l:=b.kids.filter _) h fun z hz=>(S (iy _ _ _ _ hy hs h2)).2 z (qBa.1 hz).1
 |rres op ho hx hy=>
  rename_i x y s t;obtain⟨ix,iy⟩:=mem2 ih;rcases ho with rfl|rfl
  ·obtain⟨a,b,h1,h2,h⟩:=seq2 (r:=aj g x bs) (s:=aj g y bs) (f:=bB 39) h;exact mZ (l:=a.kids.filter _) h fun z hz=>(S (ix _ _ _ _ hx hs h1)).2 z (qBa.1 hz).1
  ·obtain⟨a,b,h1,h2,h⟩:=seq2 (r:=aj g x bs) (s:=aj g y bs) (f:=bB 40) h;exact mZ (l:=a.kids.filter _) h fun z hz=>(S (ix _ _ _ _ hx hs h1)).2 z (qBa.1 hz).1
 |fam op ho hx hy=>
  rename_i x y s t;obtain⟨ix,iy⟩:=mem2 ih;have fin:∀(a b:Val),aj g x bs=.ok a→aj g y bs=.ok b→(l8 op a.kids b.kids).thn bF=.ok v→hasB env sz (au (au (aR s t))) v=true:=fun a b h1 h2 h=>by
   obtain⟨l,hl,h⟩:=then_ok h;obtain⟨a1,a2⟩:=S (ix _ _ _ _ hx hs h1);obtain⟨b1,b2⟩:=S (iy _ _ _ _ hy hs h2);exact mZ h (avw ho a1 b1 a2 b2 hl)
  rcases ho with rfl|rfl|rfl|rfl|rfl
  ·obtain⟨a,b,h1,h2,h⟩:=seq2 (r:=aj g x bs) (s:=aj g y bs) (f:=bB 41) h;exact fin a b h1 h2 h
  ·obtain⟨a,b,h1,h2,h⟩:=seq2 (r:=aj g x bs) (s:=aj g y bs) (f:=bB 42) h;exact fin a b h1 h2 h
  ·obtain⟨a,b,h1,h2,h⟩:=seq2 (r:=aj g x bs) (s:=aj g y bs) (f:=bB 43) h;exact fin a b h1 h2 h
  ·obtain⟨a,b,h1,h2,h⟩:=seq2 (r:=aj g x bs) (s:=aj g y bs) (f:=bB 44) h;exact fin a b h1 h2 h
  ·obtain⟨a,b,h1,h2,h⟩:=seq2 (r:=aj g x bs) (s:=aj g y bs) (f:=bB 45) h;exact fin a b h1 h2 h
 |pow hx=>
  rename_i x e;obtain⟨a,h1,h⟩:=seq1 (r:=aj g x bs) (f:=bB 46) h;obtain⟨a1,a2⟩:=S (ih x (by simp) _ _ _ _ hx hs h1);obtain⟨l,hl,h⟩:=then_ok (r:=sF 46 a v0) (f:=bF) h;have hl:cond (decide (8<(a.kids.length:Int))) (.er 11) (.ok ((jr a.kids).map mkSet))=(.ok l:xU):=hl;cases hb:decide (8<(a.kids.length:Int))with
  |true=>rw[hb]at hl;cases hl
  |false=>
   rw[hb]at hl;cases hl;refine mZ h fun z hz=>?_;obtain⟨r,hr,rfl⟩:=qAJ.1 hz;have hr:=Hz hr;exact iV.2 ⟨r,rfl,⟨a1.1.sublist hr,qAs hr.length_le a1.2⟩,fun z hz=>a2 z (hr.subset hz)⟩
 |card hx=>obtain⟨a,_,h⟩:=seq1 (r:=aj g _ bs) (f:=bB 47) h;exact IX h
 |ext op ho hx=>
  rename_i x;rcases ho with rfl|rfl
  ·obtain⟨a,h1,h⟩:=seq1 (r:=aj g x bs) (f:=bB 48) h;obtain⟨a1,a2⟩:=S (ih x (by simp) _ _ _ _ hx hs h1);have h:(match a.kids with|[]=>(.er 10:VR)|x::_=>.ok x)=(.ok v:VR):=h;cases hk:a.kids with
   |nil=>rw[hk]at h;cases h
   |cons z l=>rw[hk]at h;cases h;exact a2 _ (by rw[hk];simp)
  ·obtain⟨a,h1,h⟩:=seq1 (r:=aj g x bs) (f:=bB 49) h;obtain⟨a1,a2⟩:=S (ih x (by simp) _ _ _ _ hx hs h1);have h:(match a.kids.getLast? with|none=>(.er 10:VR)|some x=>.ok x)=(.ok v:VR):=h;cases hk:a.kids.getLast? with
   |none=>rw[hk]at h;cases h
   |some z=>rw[hk]at h;cases h;exact a2 _ (qDI hk)
 |dom hx=>
  rename_i x s t;obtain⟨a,h1,h⟩:=seq1 (r:=aj g x bs) (f:=bB 50) h;obtain⟨a1,a2⟩:=S (ih x (by simp) _ _ _ _ hx hs h1);refine mZ (l:=d9 a.kids) h fun z hz=>?_;obtain⟨p,hp,rfl⟩:=qAJ.1 ((aV _ _).1 hz);exact(IU (a2 p hp)).1
 |ran hx=>
  rename_i x s t;obtain⟨a,h1,h⟩:=seq1 (r:=aj g x bs) (f:=bB 51) h;obtain⟨a1,a2⟩:=S (ih x (by simp) _ _ _ _ hx hs h1);refine mZ (l:=bC a.kids) h fun z hz=>?_;obtain⟨p,hp,rfl⟩:=qAJ.1 ((aV _ _).1 hz);exact(IU (a2 p hp)).2
 |inv hx=>
  rename_i x s t;obtain⟨a,h1,h⟩:=seq1 (r:=aj g x bs) (f:=bB 52) h;obtain⟨a1,a2⟩:=S (ih x (by simp) _ _ _ _ hx hs h1);refine mZ (l:=a.kids.map fun p=>aG (aQ p) (aJ p)) h fun z hz=>?_;obtain⟨p,hp,rfl⟩:=qAJ.1 hz;exact Lv (IU (a2 p hp)).2 (IU (a2 p hp)).1
 |image hx hy=>
  rename_i x y s t;obtain⟨ix,iy⟩:=mem2 ih;obtain⟨a,b,h1,h2,h⟩:=seq2 (r:=aj g x bs) (s:=aj g y bs) (f:=bB 53) h;refine mZ (l:=bC (a.kids.filter fun p=>aF b.kids (aJ p))) h fun z hz=>?_;obtain⟨p,hp,rfl⟩:=qAJ.1 ((aV _ _).1 hz);exact(IU ((S (ix _ _ _ _ hx hs h1)).2 p (qBa.1 hp).1)).2
 |app hx hy=>
  rename_i x y s;obtain⟨ix,iy⟩:=mem2 ih;obtain⟨a,b,h1,h2,h⟩:=seq2 (r:=aj g x bs) (s:=aj g y bs) (f:=bB 54) h;have h:LV a b=(.ok v:VR):=h;unfold LV at h;have hsub:∀p∈a.kids.filter (fun p=>eD (aJ p) b),p∈a.kids:=fun p hp=>(qBa.1 hp).1
  match a.kids.filter (fun p=>eD (aJ p) b),hsub,h with
  |[p],hsub,h=>cases h;exact(IU ((S (ix _ _ _ _ hx hs h1)).2 p (hsub p (by simp)))).2
  |[],_,h=>cases h
  |p::q::r,_,h=>cases h
end
section
open Go
theorem uD:∀(a q:List Val),a.Pairwise iA→q.Pairwise iA→(∀x∈q,x∈a)→q.Sublist a
 |[],[],_,_,_=>qDW _
 |[],x::q,_,_,h=>by have:=h x (by simp);cases this
 |y::a,[],_,_,_=>List.nil_sublist _
 |y::a,x::q,ha,hq,h=>by
  have a1:=qBn.1 ha;have q1:=qBn.1 hq;by_cases e:x=y
  ·subst e;refine(uD a q a1.2 q1.2 fun z hz=>?_).cons_cons x;rcases qAh.1 (h z (by simp[hz]))with rfl|h'
   ·exact absurd (q1.1 z hz) (oG z)
   ·exact h'
  ·have hx:x∈a:=(qAh.1 (h x (by simp))).resolve_left e;refine(uD a (x::q) a1.2 hq fun z hz=>?_).cons y;rcases qAh.1 hz with rfl|hz
   ·exact hx
   ·rcases qAh.1 (h z (by simp[hz]))with rfl|h'
    ·exact absurd (q1.1 z hz) (acr (a1.1 x hx))
    ·exact h'
theorem agC{l q:List Val}(h:q.Sublist l):q∈jr l:=by
 have key:∀(l:List Val) (os:List (List Val)) (o s:List Val),o∈os→s.Sublist l→o++s∈l.foldl (fun out x=>out++out.map fun r=>r++[x]) os:=by
  intro l
  induction l with
  |nil=>intro os o s ho hs;cases hs;simpa using ho
  |cons x l ih=>
   intro os o s ho hs;rw[qBg];cases hs with
   |cons _ hs=>exact ih _ o s (qAr.2 (.inl ho)) hs
   |cons_cons _ hs=>
    rename_i s';have:=ih (os++os.map fun r=>r++[x]) (o++[x]) s' (qAr.2 (.inr (qAJ.2 ⟨o,ho,rfl⟩))) hs;simpa using this
 exact key l [[]] [] q (by simp) h
theorem jY{l:List Val}(h:l.Pairwise iA):sortV l=l:=(vw h fun _=>Iff.rfl).symm
theorem xE{l m:List Val}(h:∀x,x∈l↔x∈m):sortV l=sortV m:=vw (cZ l) fun x=>by rw[aV];exact h x
theorem aqt(a:Val):∀l:List Val,(a∈l→l.Pairwise iA→(Hr a l).length=l.length)∧(a∉l→(Hr a l).length=l.length+1)
 |[]=>by simp[Hr]
 |b::l=>by
  obtain⟨h1,h2⟩:=aqt a l;unfold Hr;by_cases hc:bQ a b<0
  ·rw[decide_eq_true hc,cond_true];refine⟨fun hm hp=>?_,fun _=>rfl⟩;rcases qAh.1 hm with rfl|hm
   ·exact absurd hc (oG a)
   ·exact absurd hc (acr ((qBn.1 hp).1 a hm))
  ·rw[decide_eq_false hc,cond_false];by_cases h0:bQ a b=0
   ·rw[show(bQ a b==0)=true by simpa using h0,cond_true];exact⟨fun _ _=>rfl,fun hm=>absurd (by rw[(gF a b).1 h0];simp) hm⟩
   ·rw[show(bQ a b==0)=false by simpa using h0,cond_false];have hne:a≠b:=fun e=>h0 ((gF a b).2 e);refine⟨fun hm hp=>?_,fun hm=>?_⟩
    ·rw[qAp,qAp,h1 ((qAh.1 hm).resolve_left hne) (qBn.1 hp).2]
    ·rw[qAp,qAp,h2 fun h=>hm (by simp[h])]
theorem xQ:∀l:List Val,(sortV l).length=l.length↔l.Nodup
 |[]=>by simp[sortV]
 |a::l=>by
  have ih:=xQ l;have hle:=eP l;obtain⟨h1,h2⟩:=aqt a (sortV l);rw[sortV,qAp,qCq];by_cases hm:a∈l
  ·have:=h1 ((aV l a).2 hm) (cZ l);constructor
   ·omega
   ·exact fun h=>absurd hm h.1
  ·have:=h2 fun h=>hm ((aV l a).1 h);rw[this];constructor
   ·exact fun h=>⟨hm,ih.1 (by omega)⟩
   ·exact fun h=>by rw[ih.2 h.2]
theorem ai8(l:List Val):fU (sortV l) l=true↔l.Nodup:=by
 unfold fU;rw[beq_iff_eq,Int.natCast_inj,xQ]
theorem w9(l m:List Val):fU l m=true↔l.length=m.length:=by
 unfold fU
 grind
theorem anR(l:List Val):fU (d9 l) l=true↔(l.map aJ).Nodup:=by
 rw[←ai8,w9,w9,qAi];rfl
theorem N8(l:List Val):fU (bC l) l=true↔(l.map aQ).Nodup:=by
 rw[←ai8,w9,w9,qAi];rfl
theorem KM{op:Int}(ho:op=41∨op=42∨op=43∨op=44∨op=45)(a b l:List Val):lC op a b l=true↔(∀p∈l,aJ p∈a∧aQ p∈b)∧(42≤op→(l.map aJ).Nodup)∧(43≤op→(d9 l).length=a.length)∧(44≤op→(l.map aQ).Nodup)∧(op=45→(bC l).length=b.length):=by
 have h0:(l.all fun p=>aF a (aJ p)&&aF b (aQ p))=true↔∀p∈l,aJ p∈a∧aQ p∈b:=by
  rw[qAP];constructor
  ·intro h p hp;have:=h p hp;rw[qAa,dN,dN]at this;exact this
  ·intro h p hp;rw[qAa,dN,dN];exact h p hp
 have h1:=anR l;have h2:=N8 l;have h3:=w9 (d9 l) a;have h4:=w9 (bC l) b;unfold lC
 grind
theorem azs{op:Int}(ho:op=41∨op=42∨op=43∨op=44∨op=45){a b m:List Val}(h:lC op a b m=true):lC op a b (sortV m)=true:=by
 rw[KM ho]at h⊢;obtain⟨h1,h2,h3,h4,h5⟩:=h;have ef:d9 (sortV m)=d9 m:=xE fun x=>by simp only[qAJ,aV]
 have es:bC (sortV m)=bC m:=xE fun x=>by simp only[qAJ,aV]
 have nd:∀f:Val→Val,(m.map f).Nodup→((sortV m).map f).Nodup:=fun f hn=>by
  rw[←xQ,xE (m:=m.map f) fun x=>by simp only[qAJ,aV],(xQ _).2 hn,qAi,qAi,(xQ m).2 (List.Pairwise.of_map f (fun a b h e=>h (by rw[e])) hn)]
 exact⟨fun p hp=>h1 p ((aV m p).1 hp),fun h=>nd _ (h2 h),fun h=>by rw[ef];exact h3 h,fun h=>nd _ (h4 h),fun h=>by rw[es];exact h5 h⟩
theorem aCJ{a b c d:Val}(h:bQ a c<0):iA (aG a b) (aG c d):=by
 show bQ _ _<0;unfold aG;rw[zw,uo];simp only[zy];exact .inr ⟨(pF 4 4).2 rfl,.inr ⟨(pF 0 0).2 rfl,.inr ⟨(Qp [] []).2 rfl,.inl h⟩⟩⟩
theorem aBs{a b d:Val}(h:iA (aG a b) (aG a d)):iA b d:=by
 have h:bQ _ _<0:=h;unfold aG at h;rw[zw,uo,uo]at h;simp only[zy]at h;have h4:kP 4 4=0:=(pF 4 4).2 rfl;have h0:kP 0 0=0:=(pF 0 0).2 rfl;have hb:=(Qp [] []).2 rfl;have haa:=(gF a a).2 rfl;have hnn:eZ [] []=0:=rfl;show bQ b d<0;omega
theorem am3{op:Int}(ho:op=41∨op=42∨op=43∨op=44∨op=45){a b:List Val}(ha:a.Pairwise iA)(hb:b.Pairwise iA):∀(xs l q:List Val),xs.Pairwise iA→(∀x∈xs,x∈a)→q.Pairwise iA→(∀p∈q,p=aG (aJ p) (aQ p)∧aJ p∈xs)→(∀p∈l,aJ p∉xs)→lC op a b (l++q)=true→gH (l++q)∈iM op a b xs l
 |[],l,q,_,_,_,hq,_,hr=>by
  have:q=[]:=by
   cases q with
   |nil=>rfl
   |cons p q=>have:=(hq p (by simp)).2;cases this
  subst this;rw[qAt]at hr⊢;unfold iM;rw[hr];simp
 |x::xs,l,q,hxs,hxa,hqs,hq,hl,hr=>by
  have x1:=qBn.1 hxs;have hxn:x∉xs:=fun h=>absurd (x1.1 x h) (oG x);obtain⟨q1,hd1⟩:∃q1,q1=q.filter fun p=>eD (aJ p) x:=⟨_,rfl⟩;obtain⟨q2,hd2⟩:∃q2,q2=q.filter fun p=>!eD (aJ p) x:=⟨_,rfl⟩;have eqx:∀p:Val,eD (aJ p) x=true↔aJ p=x:=fun p=>by unfold eD;rw[beq_iff_eq,gF]
  have m1:∀p,p∈q1↔p∈q∧aJ p=x:=fun p=>by rw[hd1,qBa,eqx]
  have m2:∀p,p∈q2↔p∈q∧aJ p≠x:=fun p=>by
   rw[hd2,qBa,qAV,qDi,ne_eq,eqx]
  have s1:q1.Pairwise iA:=hd1▸hqs.sublist List.filter_sublist;have s2:q2.Pairwise iA:=hd2▸hqs.sublist List.filter_sublist;have f2:∀p∈q2,p=aG (aJ p) (aQ p)∧aJ p∈xs:=fun p hp=>by
   have h:=(m2 p).1 hp;exact⟨(hq p h.1).1,(qAh.1 (hq p h.1).2).resolve_left h.2⟩
  have hsplit:q=q1++q2:=by
   refine Bv _ _ hqs (List.pairwise_append.2 ⟨s1,s2,fun p hp r hr=>?_⟩) fun p=>?_
   ·have h1:=(m1 p).1 hp;have h2:=(m2 r).1 hr;rw[(hq p h1.1).1,(hq r h2.1).1,h1.2];exact aCJ (x1.1 _ (f2 r hr).2)
   ·rw[qAr,m1,m2];by_cases h:aJ p=x<;>simp[h]
  have e1:∀q':List Val,(∀p∈q',p=aG (aJ p) (aQ p)∧aJ p=x)→(q'.map aQ).map (aG x)=q':=fun q' h=>by
   rw[qBh]
   conv=>rhs;rw[←qEg q']
   refine qBu fun p hp=>?_;have:=h p hp;rw[id,this.1,this.2];rfl
  have p1:∀p∈q1,p=aG (aJ p) (aQ p)∧aJ p=x:=fun p hp=>⟨(hq p ((m1 p).1 hp).1).1,((m1 p).1 hp).2⟩;have hr':lC op a b ((l++q1)++q2)=true:=by rw[qAm,←hsplit];exact hr
  have hl':∀p∈l++q1,aJ p∉xs:=fun p hp=>by
   rcases qAr.1 hp with hp|hp
   ·exact fun h=>hl p hp (by simp[h])
   ·rw[(p1 p hp).2];exact hxn
  have ih:=am3 ho ha hb xs (l++q1) q2 x1.2 (fun z hz=>hxa z (by simp[hz])) s2 f2 hl' hr';rw[qAm,←hsplit]at ih;obtain⟨r1,r2,r3,r4,r5⟩:=(KM ho a b _).1 hr;have hb1:∀p∈q1,aQ p∈b:=fun p hp=>(r1 p (qAr.2 (.inr ((m1 p).1 hp).1))).2;unfold iM;by_cases h41:op=41
  ·subst h41;show _∈(jr b).flatMap _;refine qBx.2 ⟨q1.map aQ,agC (uD b _ hb ?_ fun v hv=>?_),?_⟩
   ·rw[qDR];refine s1.imp_of_mem fun{p r} hp hr h=>?_;rw[(p1 p hp).1,(p1 r hr).1,(p1 p hp).2,(p1 r hr).2]at h;exact aBs h
   ·obtain⟨p,hp,rfl⟩:=qAJ.1 hv;exact hb1 p hp
   ·rw[e1 q1 p1];exact ih
  ·rw[show(op==41)=false by simpa using h41,cond_false];have hn:=r2 (by omega);rw[hsplit,qBj,qBj]at hn;have hn1:=(qDe.1 (qDe.1 hn).2.1).1;have hc:q1=[]∨(∃p,q1=[p])∨∃p r t,q1=p::r::t:=by
    match q1 with
    |[]=>exact .inl rfl
    |[p]=>exact .inr (.inl ⟨p,rfl⟩)
    |p::r::t=>exact .inr (.inr ⟨p,r,t,rfl⟩)
   rcases hc with hq1|⟨p,hq1⟩|⟨p,r,t,hq1⟩
   ·rw[hq1,qAt]at ih;by_cases h42:op=42
    ·subst h42;exact qAr.2 (.inl ih)
    ·exfalso;have h3:=r3 (by omega);have hsub:(d9 (l++q)).Sublist a:=uD a _ ha (cZ _) fun z hz=>by
      obtain⟨p,hp,rfl⟩:=qAJ.1 ((aV _ z).1 hz);exact(r1 p hp).1
     have:=hsub.eq_of_length h3;have hx:x∈d9 (l++q):=by rw[this];exact hxa x (by simp)
     obtain⟨p,hp,e⟩:=qAJ.1 ((aV _ x).1 hx);rcases qAr.1 hp with hp|hp
     ·exact hl p hp (by rw[e];simp)
     ·have:=(m1 p).2 ⟨hp,e⟩;rw[hq1]at this;cases this
   ·have hp:=p1 p (by rw[hq1];simp);refine qAr.2 (.inr (qBx.2 ⟨aQ p,hb1 p (by rw[hq1];simp),?_⟩));have hno:(decide (44≤op)&&aF (bC l) (aQ p))=false:=by
     by_cases h44:44≤op
     ·have h4:=r4 h44;rw[hsplit,qBj,qBj]at h4;have hd:=(qDe.1 h4).2.2;rw[qDB];right;rw[qDi,ne_eq,dN];intro hm;exact hd _ ((aV _ _).1 hm) (aQ p) (by rw[hq1];simp) rfl
     ·rw[decide_eq_false h44];rfl
    rw[hno,cond_false];have e:[aG x (aQ p)]=q1:=by rw[hq1,←hp.2,←hp.1]
    rw[e];exact ih
   ·exfalso;rw[hq1]at hn1;have h1:=p1 p (by rw[hq1];simp);have h2:=p1 r (by rw[hq1];simp);simp[h1.2,h2.2]at hn1
theorem aCR{op:Int}(ho:op=41∨op=42∨op=43∨op=44∨op=45){a b q:List Val}(hb:b.Pairwise iA)(hN:kX op a.length b.length=true):lC op a b q=false:=by
 rw[qDi];intro h;obtain⟨r1,r2,r3,r4,r5⟩:=(KM ho a b q).1 h;have h44:44≤op:=by
  unfold kX at hN
  grind
 have e1:(d9 q).length=q.length:=(w9 _ _).1 ((anR q).2 (r2 (by omega)));have e2:(bC q).length=q.length:=(w9 _ _).1 ((N8 q).2 (r4 h44));have hsub:(bC q).Sublist b:=uD b _ hb (cZ _) fun z hz=>by
  obtain⟨p,hp,rfl⟩:=qAJ.1 ((aV _ z).1 hz)
  grind
 unfold kX at hN
 grind
theorem ad5{op:Int}(ho:op=41∨op=42∨op=43∨op=44∨op=45){a b l q:List Val}(ha:dO a)(hb:dO b)(hl:l8 op a b=.ok l)(hq:q.Pairwise iA)(hp:∀p∈q,p=aG (aJ p) (aQ p)):aF (sortV l) (mkSet q)=lC op a b q:=by
 rw[qCe,dN,aV];unfold l8 at hl;cases hN:kX op a.length b.length with
 |true=>
  rw[hN]at hl;cases hl;rw[aCR ho hb.1 hN];simp
 |false=>
  cases hM:je op b.length a.length 0 1 with
  |true=>rw[hN,hM]at hl;cases hl
  |false=>
   rw[hN,hM]at hl;cases hl;constructor
   ·intro h;obtain⟨m,e,_,_,hm⟩:=YO (d:=b.length+1) (by omega) (by omega) a [] _ h;have e:q=sortV m:=by cases e;rfl
    rw[e];exact azs ho hm
   ·intro h;have r1:=((KM ho a b q).1 h).1;have:=am3 ho ha.1 hb.1 a [] q ha.1 (fun x hx=>hx) hq (fun p h=>⟨hp p h,(r1 p h).1⟩) (fun p h=>by cases h) (by simpa using h);rw[qAo]at this;unfold gH at this;rwa[jY hq]at this
theorem al8{a q:List Val}(ha:a.Pairwise iA)(hq:q.Pairwise iA):aF (sortV ((jr a).map mkSet)) (mkSet q)=q.all (aF a):=by
 rw[qCe,dN,aV,qAP,qAJ];constructor
 ·rintro⟨r,hr,e⟩ x hx;cases e;exact(dN a x).2 ((Hz hr).subset hx)
 ·exact fun h=>⟨q,agC (uD a q ha hq fun x hx=>(dN a x).1 (h x hx)),rfl⟩
end
section
open Go
def jo(env:Env)(sz:List Int)(t:Ty)(v:Val):Prop:=Top t∧hasB env sz t v=true
theorem nk{e:Ty}(h:Top (au e)):Good e:=by
 rcases h with h|h
 ·cases h
 ·cases h;assumption
theorem aCr{a b:Ty}(h:Top (aR a b)):Good a∧Good b:=by
 rcases h with h|h
 ·cases h
 ·cases h;exact⟨by assumption,by assumption⟩
theorem apF{env:Env}{sz:List Int}{e:Ty}{v:Val}(h:jo env sz (au e) v):∃l,v=mkSet l∧dO l∧∀x∈l,jo env sz e x:=by
 obtain⟨l,h1,h2,h3⟩:=iV.1 h.2;exact⟨l,h1,h2,fun x hx=>⟨.inr (nk h.1),h3 x hx⟩⟩
theorem aKV{env:Env}{sz:List Int}{e:Ty}(hg:Good e){l:List Val}(h:dO l)(k:∀x∈l,jo env sz e x):jo env sz (au e) (mkSet l):=⟨.inr (.set hg),iV.2 ⟨l,rfl,h,fun x hx=>(k x hx).2⟩⟩
theorem aqe{env:Env}{sz:List Int}{a b:Ty}{v:Val}(h:jo env sz (aR a b) v):∃x y,v=aG x y∧jo env sz a x∧jo env sz b y:=by
 obtain⟨x,y,h1,h2,h3⟩:=qJ.1 h.2;have q:=aCr h.1;exact⟨x,y,h1,⟨.inr q.1,h2⟩,.inr q.2,h3⟩
theorem Ew{env:Env}{sz:List Int}{a b:Ty}{p:Val}(h:jo env sz (aR a b) p):jo env sz a (aJ p)∧jo env sz b (aQ p):=by
 obtain⟨x,y,rfl,h1,h2⟩:=aqe h;exact⟨h1,h2⟩
structure Rn(env:Env)(sz:List Int)(T T':Val→Val):Prop where
 int:∀n,T (iY n)=iY n
 bool:∀b,T (aO b)=aO b
 pair:∀a b,T (aG a b)=aG (T a) (T b)
 set:∀l,T (mkSet l)=mkSet (sortV (l.map T))
 has:∀t v,jo env sz t v→jo env sz t (T v)
 inv:∀t v,jo env sz t v→T' (T v)=v
abbrev qK(env:Env)(sz:List Int)(t:Ty)(l:List Val):Prop:=∀x∈l,jo env sz t x
def gK(T:Val→Val)(l:List Val):List Val:=sortV (l.map T)
theorem LQ(T:Val→Val)(l:List Val)(z:Val):z∈gK T l↔∃x∈l,T x=z:=by
 unfold gK;rw[aV,qAJ]
theorem asD(T:Val→Val){l:List Val}{x:Val}(h:x∈l):T x∈gK T l:=(LQ T l _).2 ⟨x,h,rfl⟩
theorem Xe(T:Val→Val)(l:List Val):(gK T l).Pairwise iA:=cZ _
section
variable {env:Env}{sz:List Int}{T T':Val→Val}
theorem Rn.inj(h:Rn env sz T T'){t:Ty}{a b:Val}(ha:jo env sz t a)(hb:jo env sz t b)(e:T a=T b):a=b:=by
 rw[←h.inv t a ha,e,h.inv t b hb]
theorem Rn.eq(h:Rn env sz T T'){t:Ty}{a b:Val}(ha:jo env sz t a)(hb:jo env sz t b):eD (T a) (T b)=eD a b:=by
 unfold eD;rw[qCe,beq_iff_eq,beq_iff_eq,gF,gF];exact⟨h.inj ha hb,fun e=>by rw[e]⟩
theorem Rn.ty(h:Rn env sz T T'){t:Ty}{l:List Val}(hl:qK env sz t l):qK env sz t (gK T l):=fun x hx=>by
 obtain⟨y,hy,rfl⟩:=(LQ T l x).1 hx;exact h.has t y (hl y hy)
theorem Rn.mem(h:Rn env sz T T'){t:Ty}{l:List Val}{x:Val}(hl:qK env sz t l)(hx:jo env sz t x):T x∈gK T l↔x∈l:=by
 rw[LQ];exact⟨fun⟨y,hy,e⟩=>by rw[←h.inj (hl y hy) hx e];exact hy,fun hm=>⟨x,hm,rfl⟩⟩
theorem Rn.aF(h:Rn env sz T T'){t:Ty}{l:List Val}{x:Val}(hl:qK env sz t l)(hx:jo env sz t x):Abs.aF (gK T l) (T x)=Abs.aF l x:=by
 rw[qCe,dN,dN];exact h.mem hl hx
theorem Rn.nodup(h:Rn env sz T T'){t:Ty}{l:List Val}(hl:qK env sz t l)(hn:l.Nodup):(l.map T).Nodup:=by
 induction l with
 |nil=>exact .nil
 |cons a l ih=>
  rw[qCq]at hn;rw[qAy,qCq];refine⟨fun hm=>?_,ih (fun x hx=>hl x (qAk _ hx)) hn.2⟩;obtain⟨b,hb,e⟩:=qAJ.1 hm;rw[h.inj (hl b (qAk _ hb)) (hl a (by simp)) e]at hb;exact hn.1 hb
theorem aG0{l:List Val}(h:l.Pairwise iA):l.Nodup:=h.imp fun{a b} hab e=>by subst e;exact oG _ hab
theorem Rn.len(h:Rn env sz T T'){t:Ty}{l:List Val}(hl:qK env sz t l)(hn:l.Pairwise iA):(gK T l).length=l.length:=by
 unfold gK;rw[(xQ _).2 (h.nodup hl (aG0 hn)),qAi]
theorem Rn.ok(h:Rn env sz T T'){t:Ty}{l:List Val}(hl:qK env sz t l)(hn:dO l):dO (gK T l):=⟨Xe T l,by rw[h.len hl hn.1];exact hn.2⟩
def Ren(T:Val→Val)(l l':List Val):Prop:=∀z,z∈l'↔∃x∈l,T x=z
theorem Ren.sort{l l':List Val}(h:Ren T l l'):sortV l'=gK T (sortV l):=xE fun z=>by
 rw[h z,qAJ];simp only[aV]
theorem Ren.gK(l:List Val):Ren T l (gK T l):=fun z=>LQ T l z
theorem Ren.map(l:List Val):Ren T l (l.map T):=fun z=>qAJ
theorem Ren.app{l l' m m':List Val}(h:Ren T l l')(k:Ren T m m'):Ren T (l++m) (l'++m'):=fun z=>by
 simp only[qAr,h z,k z];constructor
 ·rintro(⟨x,h1,h2⟩|⟨x,h1,h2⟩)
  ·exact⟨x,.inl h1,h2⟩
  ·exact⟨x,.inr h1,h2⟩
 ·rintro⟨x,h1|h1,h2⟩
  ·exact .inl ⟨x,h1,h2⟩
  ·exact .inr ⟨x,h1,h2⟩
theorem Ren.F8{l l':List Val}(h:Ren T l l'){p p':Val→Bool}(hp:∀x∈l,p' (T x)=p x):Ren T (l.filter p) (l'.filter p'):=fun z=>by
 rw[qBa,h z];constructor
 ·rintro⟨⟨x,h1,rfl⟩,h2⟩;exact⟨x,qBa.2 ⟨h1,by rw[←hp x h1];exact h2⟩,rfl⟩
 ·rintro⟨x,h1,rfl⟩;obtain⟨h1,h2⟩:=qBa.1 h1;exact⟨⟨x,h1,rfl⟩,by rw[hp x h1];exact h2⟩
theorem Ren.maps{l l':List Val}(h:Ren T l l'){f f':Val→Val}(hf:∀x∈l,f' (T x)=T (f x)):Ren T (l.map f) (l'.map f'):=fun z=>by
 simp only[qAJ,h _];constructor
 ·rintro⟨_,⟨x,h1,rfl⟩,rfl⟩;exact⟨f x,⟨x,h1,rfl⟩,(hf x h1).symm⟩
 ·rintro⟨_,⟨x,h1,rfl⟩,rfl⟩;exact⟨T x,⟨x,h1,rfl⟩,hf x h1⟩
theorem Ren.flat{l l':List Val}(h:Ren T l l'){f f':Val→List Val}(hf:∀x∈l,Ren T (f x) (f' (T x))):Ren T (l.flatMap f) (l'.flatMap f'):=fun z=>by
 simp only[qBx,h _];constructor
 ·rintro⟨_,⟨x,h1,rfl⟩,h2⟩;obtain⟨y,h3,rfl⟩:=(hf x h1 z).1 h2;exact⟨y,⟨x,h1,h3⟩,rfl⟩
 ·rintro⟨y,⟨x,h1,h3⟩,rfl⟩;exact⟨T x,⟨x,h1,rfl⟩,(hf x h1 _).2 ⟨y,h3,rfl⟩⟩
theorem Ren.sorted{l l':List Val}(h:Ren T l l'):Ren T (sortV l) (sortV l'):=fun z=>by
 rw[aV,h z];simp only[aV]
theorem Ren.nil:Ren T [] []:=fun z=>by simp
theorem Ren.one(x:Val):Ren T [x] [T x]:=fun z=>by simp[eq_comm]
theorem Ren.cnd{b b':Bool}{l l' m m':List Val}(hb:b'=b)(h:Ren T l l')(k:Ren T m m'):Ren T (cond b l m) (cond b' l' m'):=by
 subst hb;cases b'<;>assumption
theorem Rn.ren(h:Rn env sz T T')(h':Rn env sz T' T){t:Ty}{l l':List Val}(hl:qK env sz t l)(hl':qK env sz t l')(hm:∀x,jo env sz t x→(T x∈l'↔x∈l)):Ren T l l':=fun z=>by
 constructor
 ·intro hz;have h1:=hl' z hz;have h2:=h'.inv t z h1;have h3:=h'.has t z h1;exact⟨T' z,(hm _ h3).1 (by rw[h2];exact hz),h2⟩
 ·rintro⟨x,hx,rfl⟩;exact(hm x (hl x hx)).2 hx
theorem Ren.len(h:Rn env sz T T'){t:Ty}{l l':List Val}(hl:qK env sz t l)(k:Ren T l l'):(sortV l').length=(sortV l).length:=by
 rw[k.sort];exact h.len (fun x hx=>hl x ((aV l x).1 hx)) (cZ l)
theorem Ren.aF(h:Rn env sz T T'){t:Ty}{l l':List Val}{x:Val}(hl:qK env sz t l)(hx:jo env sz t x)(k:Ren T l l'):Abs.aF l' (T x)=Abs.aF l x:=by
 rw[qCe,dN,dN,k];exact⟨fun⟨y,hy,e⟩=>by rw[←h.inj (hl y hy) hx e];exact hy,fun hm=>⟨x,hm,rfl⟩⟩
theorem Rn.fst(h:Rn env sz T T'){a b:Ty}{p:Val}(hp:jo env sz (aR a b) p):aJ (T p)=T (aJ p)∧aQ (T p)=T (aQ p):=by
 obtain⟨x,y,rfl,_,_⟩:=aqe hp;rw[h.pair];exact⟨rfl,rfl⟩
theorem Rn.aC5(h:Rn env sz T T'){a b:Ty}{l l':List Val}(hl:qK env sz (aR a b) l)(k:Ren T l l'):Ren T (d9 l) (d9 l'):=(k.maps fun x hx=>(h.fst (hl x hx)).1).sorted
theorem Rn.secs(h:Rn env sz T T'){a b:Ty}{l l':List Val}(hl:qK env sz (aR a b) l)(k:Ren T l l'):Ren T (bC l) (bC l'):=(k.maps fun x hx=>(h.fst (hl x hx)).2).sorted
theorem ay3{a b:Ty}{l:List Val}(hl:qK env sz (aR a b) l):qK env sz a (d9 l):=fun z hz=>by
 obtain⟨p,hp,rfl⟩:=qAJ.1 ((aV _ _).1 hz);exact(Ew (hl p hp)).1
theorem aHj{a b:Ty}{l:List Val}(hl:qK env sz (aR a b) l):qK env sz b (bC l):=fun z hz=>by
 obtain⟨p,hp,rfl⟩:=qAJ.1 ((aV _ _).1 hz);exact(Ew (hl p hp)).2
theorem aEb(h:Rn env sz T T'){a b:Ty}{l l':List Val}(hl:qK env sz (aR a b) l)(k:Ren T l l'):(d9 l').length=(d9 l).length:=by
 have:=Ren.len h (ay3 hl) (h.aC5 hl k);unfold d9 at *;rwa[jY (cZ _),jY (cZ _)]at this
theorem aFy(h:Rn env sz T T'){a b:Ty}{l l':List Val}(hl:qK env sz (aR a b) l)(k:Ren T l l'):(bC l').length=(bC l).length:=by
 have:=Ren.len h (aHj hl) (h.secs hl k);unfold bC at *;rwa[jY (cZ _),jY (cZ _)]at this
theorem Rn.all(p p':Val→Bool){l:List Val}(hp:∀x∈l,p' (T x)=p x):(gK T l).all p'=l.all p:=by
 rw[qCe,qAP,qAP];constructor
 ·exact fun h x hx=>by rw[←hp x hx];exact h _ (asD T hx)
 ·intro h z hz;obtain⟨x,hx,rfl⟩:=(LQ T l z).1 hz;rw[hp x hx];exact h x hx
theorem Rn.lC(h:Rn env sz T T'){s t:Ty}{a b l:List Val}(op:Int)(ha:qK env sz s a)(hb:qK env sz t b)(hl:qK env sz (aR s t) l)(oa:a.Pairwise iA)(ob:b.Pairwise iA)(ol:l.Pairwise iA):Abs.lC op (gK T a) (gK T b) (gK T l)=Abs.lC op a b l:=by
 have e1:((gK T l).all fun p=>Abs.aF (gK T a) (aJ p)&&Abs.aF (gK T b) (aQ p))=l.all fun p=>Abs.aF a (aJ p)&&Abs.aF b (aQ p):=Rn.all _ _ fun p hp=>by
  rw[(h.fst (hl p hp)).1,(h.fst (hl p hp)).2,h.aF ha (Ew (hl p hp)).1,h.aF hb (Ew (hl p hp)).2]
 have e2:=aEb h hl (Ren.gK l);have e3:=aFy h hl (Ren.gK l);unfold Abs.lC fU;rw[e1,e2,e3,h.len ha oa,h.len hb ob,h.len hl ol]
end
def fq{β γ:Type}(R:β→γ→Prop):RR β→RR γ→Prop
 | .ok v,.ok v'=>R v v'
 | .er e,.ok _=>e=11
 | .ok _,.er e=>e=11
 | .er _,.er _=>True
abbrev mJ(T:Val→Val):VR→VR→Prop:=fq fun v v'=>v'=T v
theorem fq.er{β γ:Type}{R:β→γ→Prop}(r:RR β):fq R r (.er 11)∧∀s:RR γ,fq R (.er 11) s:=by
 refine⟨by cases r<;>simp[fq],fun s=>by cases s<;>simp[fq]⟩
theorem fq.thn{β γ δ ε:Type}{R:β→γ→Prop}{Q:δ→ε→Prop}{r:RR β}{r':RR γ}{f:β→RR δ}{f':γ→RR ε}(h:fq R r r')(k:∀v v',r=.ok v→r'=.ok v'→R v v'→fq Q (f v) (f' v')):fq Q (r.thn f) (r'.thn f'):=by
 cases r with
 |ok v=>
  cases r' with
  |ok v'=>exact k v v' rfl rfl h
  |er e=>
   have h:e=11:=h;subst h;exact(fq.er _).1
 |er e=>
  cases r' with
  |ok v'=>
   have h:e=11:=h;subst h;exact(fq.er (.er 11)).2 _
  |er e'=>exact trivial
theorem fq.mono{β γ:Type}{R Q:β→γ→Prop}{r:RR β}{r':RR γ}(h:fq R r r')(k:∀v v',r=.ok v→r'=.ok v'→R v v'→Q v v'):fq Q r r':=by
 cases r<;>cases r'
 ·exact k _ _ rfl rfl h
 ·exact h
 ·exact h
 ·exact h
theorem fq.cnd{β γ:Type}{R:β→γ→Prop}{b b':Bool}{r s:RR β}{r' s':RR γ}(hb:b'=b)(h1:b=true→fq R r r')(h2:b=false→fq R s s'):fq R (cond b r s) (cond b' r' s'):=by
 subst hb;cases b'
 ·exact h2 rfl
 ·exact h1 rfl
theorem ahC{α:Type}{T:Val→Val}{f f':α→VR}:∀{l:List α},(∀x∈l,mJ T (f x) (f' x))→fq (fun l l'=>l'=l.map T) (aN (l.map f)) (aN (l.map f'))
 |[],_=>rfl
 |a::l,h=>by
  have h1:=h a (by simp);have h2:=ahC fun x hx=>h x (qAk a hx);rw[qAy,qAy];cases hf:f a with
  |er e=>
   cases hg:f' a with
   |er e'=>exact trivial
   |ok v'=>
    rw[hf,hg]at h1;have h1:e=11:=h1;subst h1;exact(fq.er (.er 11)).2 _
  |ok v=>
   cases hg:f' a with
   |er e'=>
    rw[hf,hg]at h1;have h1:e'=11:=h1;subst h1;exact(fq.er _).1
   |ok v'=>
    rw[hf,hg]at h1;have h1:v'=T v:=h1;unfold aN;cases hr:aN (l.map f)with
    |er e=>
     cases hr':aN (l.map f')with
     |er e'=>exact trivial
     |ok m=>rw[hr,hr']at h2;exact h2
    |ok m=>
     cases hr':aN (l.map f')with
     |er e'=>rw[hr,hr']at h2;exact h2
     |ok m'=>
      rw[hr,hr']at h2;have h2:m'=m.map T:=h2;show v'::m'=(v::m).map T;rw[h1,h2];rfl
theorem al9{α:Type}(f:α→VR):∀(xs:List α) (e:Int),aN (xs.map f)=.er e→∃x∈xs,f x=.er e
 |[],_,h=>by cases h
 |a::l,e,h=>by
  rw[qAy]at h;cases hf:f a with
  |er e'=>rw[hf]at h;cases h;exact⟨a,by simp,hf⟩
  |ok v=>
   rw[hf]at h;unfold aN at h;cases hr:aN (l.map f)with
   |er e'=>
    rw[hr]at h;cases h;obtain⟨x,hx,hy⟩:=al9 f l _ hr;exact⟨x,by simp[hx],hy⟩
   |ok m=>rw[hr]at h;cases h
theorem acS{α β:Type}:∀{xs:List α} {ys:List β},ys.length=xs.length→∀x∈xs,∃y,(x,y)∈xs.zip ys
 |[],_,_,x,hx=>by cases hx
 |a::xs,[],h,_,_=>by simp at h
 |a::xs,b::ys,h,x,hx=>by
  rcases qAh.1 hx with rfl|hx
  ·exact⟨b,by simp⟩
  ·obtain⟨y,hy⟩:=acS (ys:=ys) (by simpa using h) x hx;exact⟨y,by simp[hy]⟩
theorem aJR{T:Val→Val}{f f':Val→VR}{xs:List Val}(h:∀x∈xs,mJ T (f x) (f' (T x))):fq (fun ys ys'=>∀q,q∈(gK T xs).zip ys'↔∃p∈xs.zip ys,(T p.1,T p.2)=q) (aN (xs.map f)) (aN ((gK T xs).map f')):=by
 cases hr:aN (xs.map f)with
 |er e=>
  cases hr':aN ((gK T xs).map f')with
  |er e'=>exact trivial
  |ok ys'=>
   obtain⟨x,hx,he⟩:=al9 f xs e hr;obtain⟨l1,l2⟩:=seq_ok f' _ _ hr';obtain⟨y,hy⟩:=acS l1 _ (asD T hx);have h1:=h x hx;rw[he,l2 _ hy]at h1;exact h1
 |ok ys=>
  obtain⟨k1,k2⟩:=seq_ok f _ _ hr;cases hr':aN ((gK T xs).map f')with
  |er e'=>
   obtain⟨z,hz,he⟩:=al9 f' _ e' hr';obtain⟨x,hx,rfl⟩:=(LQ T xs z).1 hz;obtain⟨y,hy⟩:=acS k1 x hx;have h1:=h x hx;rw[he,k2 _ hy]at h1;exact h1
  |ok ys'=>
   obtain⟨l1,l2⟩:=seq_ok f' _ _ hr';intro q;constructor
   ·intro hq;obtain⟨x,hx,e⟩:=(LQ T xs q.1).1 (qCR (show(q.1,q.2)∈(gK T xs).zip ys' from hq)).1;obtain⟨y,hy⟩:=acS k1 x hx;have h1:=h x hx;have h3:=l2 q hq;rw[←e]at h3;rw[h3,k2 _ hy]at h1;exact⟨(x,y),hy,by rw[←(show q.2=T y from h1)];simp[e]⟩
   ·rintro⟨p,hp,rfl⟩;have hx:=(qCR (show(p.1,p.2)∈xs.zip ys from hp)).1;obtain⟨y,hy⟩:=acS l1 _ (asD T hx);have h1:=h p.1 hx;rw[k2 p hp,l2 _ hy]at h1;have h1:y=T p.2:=h1;rw[←h1];exact hy
end
section
open Go
section
variable {env:Env}{sz:List Int}{T T':Val→Val}
theorem aeg(h:Rn env sz T T'){t:Ty}{l l':List Val}(hs:∀v,bF l=.ok v→jo env sz (au t) v)(k:Ren T l l'):mJ T (bF l) (bF l'):=by
 cases hr:bF l with
 |er e=>
  have:e=11:=by
   unfold bF at hr;cases hd:decide (256<((sortV l).length:Int))with
   |true=>rw[hd]at hr;cases hr;rfl
   |false=>rw[hd]at hr;cases hr
  subst this;exact(fq.er (.er 11)).2 _
 |ok v=>
  obtain⟨rfl,h256⟩:=Br hr;obtain⟨m,e,_,hm⟩:=apF (hs _ hr);cases e;have hl:qK env sz t l:=fun x hx=>hm x ((aV l x).2 hx);have e:=Ren.len h hl k;unfold bF;rw[e,decide_eq_false (by omega)];show gH l'=T (gH l);unfold gH;rw[h.set,k.sort];rfl
theorem IE(h:Rn env sz T T')(n:Int):mJ T (gM n) (gM n):=by
 unfold gM;refine fq.cnd rfl (fun _=>trivial) fun _=>(h.int n).symm
theorem lM(h:Rn env sz T T'){b b':Bool}(e:b'=b):mJ T (.ok (aO b)) (.ok (aO b')):=by
 subst e;exact(h.bool _).symm
theorem aqM{a b:Ty}{p:Val}(hp:jo env sz (aR a b) p):p=aG (aJ p) (aQ p):=by
 obtain⟨x,y,rfl,_,_⟩:=aqe hp;rfl
theorem aCa(h:Rn env sz T T')(h':Rn env sz T' T){op:Int}(ho:op=41∨op=42∨op=43∨op=44∨op=45){s t:Ty}{a b:List Val}(gs:Good s)(gt:Good t)(ha:dO a)(hb:dO b)(ta:qK env sz s a)(tb:qK env sz t b):fq (Ren T) (l8 op a b) (l8 op (gK T a) (gK T b)):=by
 have la:=h.len ta ha.1;have lb:=h.len tb hb.1;unfold l8;rw[la,lb];refine fq.cnd rfl (fun _=>Ren.nil) fun hN=>fq.cnd rfl (fun _=>trivial) fun hM=>?_;have hl:l8 op a b=.ok (iM op a b a []):=by unfold l8;rw[hN,hM];rfl
 have hl':l8 op (gK T a) (gK T b)=.ok (iM op (gK T a) (gK T b) (gK T a) []):=by unfold l8;rw[la,lb,hN,hM];rfl
 have R:∀{a b l:List Val},dO a→dO b→qK env sz s a→qK env sz t b→l8 op a b=.ok l→qK env sz (au (aR s t)) l:=fun ha hb ta tb hl x hx=>⟨.inr (.set (.pair gs gt)),avw ho ha hb (fun x hx=>(ta x hx).2) (fun x hx=>(tb x hx).2) hl x hx⟩;refine h.ren h' (R ha hb ta tb hl) (R (h.ok ta ha) (h.ok tb hb) (h.ty ta) (h.ty tb) hl') fun x hx=>?_;obtain⟨q,rfl,q1,q2⟩:=apF hx;have e1:=ad5 ho ha hb hl q1.1 fun p hp=>aqM (q2 p hp);have e2:=ad5 ho (h.ok ta ha) (h.ok tb hb) hl' (Xe T q) fun p hp=>aqM (h.ty q2 p hp);rw[h.lC op ta tb q2 ha.1 hb.1 q1.1,←e1,qCe,dN,dN,aV,aV]at e2;rw[h.set];exact e2
theorem aEW(h:Rn env sz T T')(h':Rn env sz T' T){t:Ty}{a:List Val}(gt:Good t)(ha:dO a)(ta:qK env sz t a):fq (Ren T) (cond (decide (8<(a.length:Int))) (.er 11) (.ok ((jr a).map mkSet)):xU) (cond (decide (8<((gK T a).length:Int))) (.er 11) (.ok ((jr (gK T a)).map mkSet))):=by
 refine fq.cnd (by rw[h.len ta ha.1]) (fun _=>trivial) fun _=>?_;have ty:∀{a:List Val},dO a→qK env sz t a→qK env sz (au t) ((jr a).map mkSet):=fun{a} ha ta z hz=>by
  obtain⟨r,hr,rfl⟩:=qAJ.1 hz;have hr:=Hz hr;exact aKV gt ⟨ha.1.sublist hr,qAs hr.length_le ha.2⟩ fun z hz=>ta z (hr.subset hz)
 refine h.ren h' (ty ha ta) (ty (h.ok ta ha) (h.ty ta)) fun x hx=>?_;obtain⟨q,rfl,q1,q2⟩:=apF hx;have e1:=al8 ha.1 q1.1;have e2:=al8 (Xe T a) (Xe T q);rw[Rn.all (T:=T) (aF a) (aF (gK T a)) fun z hz=>h.aF ta (q2 z hz),←e1,qCe,dN,dN,aV,aV]at e2;rw[h.set];exact e2
theorem aFI(h:Rn env sz T T'){a b:Ty}{l:List Val}{y:Val}(ol:l.Pairwise iA)(hl:qK env sz (aR a b) l)(hy:jo env sz a y):mJ T (LV (mkSet l) y) (LV (mkSet (gK T l)) (T y)):=by
 have hk:Ren T (l.filter fun p=>eD (aJ p) y) ((gK T l).filter fun p=>eD (aJ p) (T y)):=(Ren.gK l).F8 fun p hp=>by
  rw[(h.fst (hl p hp)).1,h.eq (Ew (hl p hp)).1 hy]
 have e:=hk.sort;rw[jY ((Xe T l).filter _),jY (ol.filter _)]at e;have ht:qK env sz (aR a b) (l.filter fun p=>eD (aJ p) y):=fun p hp=>hl p (qBa.1 hp).1;have hn:=h.len ht (ol.filter _);unfold LV;rw[show(mkSet l).kids=l from rfl,show(mkSet (gK T l)).kids=gK T l from rfl,e];generalize (l.filter fun p=>eD (aJ p) y)=F at *
 match F,ht,hn with
 |[],_,_=>exact trivial
 |[p],ht,_=>exact(h.fst (ht p (by simp))).2
 |p::q::r,_,hn=>
  generalize gK T (p::q::r)=G at *
  match G,hn with
  |[],hn=>simp at hn
  |[_],hn=>simp at hn
  |_::_::_,_=>exact trivial
theorem mI(h:Rn env sz T T'){a:Val}(ha:jo env sz fE a):T a=a:=by
 obtain⟨n,rfl,_⟩:=sG.1 ha.2;exact h.int n
theorem En(h:Rn env sz T T'){a:Val}(ha:jo env sz aY a):T a=a:=by
 obtain⟨b,rfl⟩:=Aa.1 ha.2;exact h.bool b
theorem aFd(h:Rn env sz T T'){l:List Val}(hl:qK env sz fE l)(ol:l.Pairwise iA):gK T l=l:=by
 unfold gK;rw[show l.map T=l from(qBu fun x hx=>mI h (hl x hx)).trans (qEg l)];exact jY ol
theorem ak7{r r':VR}{f f':List Val→VR}(hr:mJ T r r')(k:∀a,r=.ok a→mJ T (f [a]) (f' [T a])):mJ T ((aN [r]).thn f) ((aN [r']).thn f'):=by
 have h:=ahC (T:=T) (f:=fun(p:VR×VR)=>p.1) (f':=fun p=>p.2) (l:=[(r,r')]) (by simpa using hr);refine fq.thn h fun v v' e _ hv=>?_;obtain⟨a,h1,h2⟩:=seq1 (r:=r) (f:=fun l=>.ok (l.headD v0)) (v:=v.headD v0) (by rw[show aN [r]=.ok v from e];rfl);rw[h1]at e;have e:(.ok [a]:xU)=.ok v:=e;cases e;subst hv;exact k a h1
theorem GY{r r' s s':VR}{f f':List Val→VR}(hr:mJ T r r')(hs:mJ T s s')(k:∀a b,r=.ok a→s=.ok b→mJ T (f [a,b]) (f' [T a,T b])):mJ T ((aN [r,s]).thn f) ((aN [r',s']).thn f'):=by
 have h:=ahC (T:=T) (f:=fun(p:VR×VR)=>p.1) (f':=fun p=>p.2) (l:=[(r,r'),(s,s')]) (by simpa using⟨hr,hs⟩);refine fq.thn h fun v v' e _ hv=>?_;obtain⟨a,b,h1,h2,_⟩:=seq2 (r:=r) (s:=s) (f:=fun l=>.ok (l.headD v0)) (v:=v.headD v0) (by rw[show aN [r,s]=.ok v from e];rfl);rw[h1,h2]at e;have e:(.ok [a,b]:xU)=.ok v:=e;cases e;subst hv;exact k a b h1 h2
theorem aHV(h:Rn env sz T T'){t:Ty}{r r':xU}(hs:∀v,r.thn bF=.ok v→jo env sz (au t) v)(hr:fq (Ren T) r r'):mJ T (r.thn bF) (r'.thn bF):=
 hr.thn fun _ _ e _ k=>aeg h (fun v hv=>hs v (by rw[e];exact hv)) k
theorem wN(h:Rn env sz T T'){op:Int}{t:Ty}{r r' s s':VR}(hop:∀a b,bB op [a,b]=(sF op a b).thn bF)(hr:mJ T r r')(hs:mJ T s s')(sd:∀v,(aN [r,s]).thn (bB op)=.ok v→jo env sz (au t) v)(k:∀a b,r=.ok a→s=.ok b→fq (Ren T) (sF op a b) (sF op (T a) (T b))):mJ T ((aN [r,s]).thn (bB op)) ((aN [r',s']).thn (bB op)):=
 GY hr hs fun a b ha hb=>by
  rw[hop,hop];refine aHV h (fun v hv=>sd v ?_) (k a b ha hb);rw[ha,hb];exact(hop a b).trans hv
theorem aps(h:Rn env sz T T'){op:Int}{t:Ty}{r r':VR}(hop:∀a,bB op [a]=(sF op a v0).thn bF)(hr:mJ T r r')(sd:∀v,(aN [r]).thn (bB op)=.ok v→jo env sz (au t) v)(k:∀a,r=.ok a→fq (Ren T) (sF op a v0) (sF op (T a) v0)):mJ T ((aN [r]).thn (bB op)) ((aN [r']).thn (bB op)):=
 ak7 hr fun a ha=>by
  rw[hop,hop];refine aHV h (fun v hv=>sd v ?_) (k a ha);rw[ha];exact(hop a).trans hv
end
end
end Abs
end Go.Proofs.YthgdaonechbgmaaGreat
