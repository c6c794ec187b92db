/-
  Sizes of carriers; that a value has a type. Conditions: none; lemmas without a program.
-/
import Derived.Test.YthgdaonechbgmaaGreatCW2ox720170
set_option linter.all false
namespace Go.Proofs.YthgdaonechbgmaaGreat
namespace Abs
section
open Go
theorem J2(n:Nat)(qbz:Env→(List Int)→Val→Ty→Option Bool)(qb0:(List Ty)→Int→Int→Str→(List Val)→(List Carrier)→(List Decl)→(List Int)→Option Bool)(p0:List Ty)(p4:List Val)(p5:List Carrier)(p6:List Decl)(p7:List Int)(k:Nat)(s:Int):Ba n qbz qb0 p0 p4 p5 p6 p7 (k+1) s=yX n qbz qb0 p0 p4 p5 p6 p7 (Ba n qbz qb0 p0 p4 p5 p6 p7 k) s:=rfl
theorem Oo(n:Nat)(qbz:Env→(List Int)→Val→Ty→Option Bool)(qb0:(List Ty)→Int→Int→Str→(List Val)→(List Carrier)→(List Decl)→(List Int)→Option Bool)(p2:Val)(k:Nat)(s:Int):FR n qbz qb0 p2 (k+1) s=DN n qbz qb0 p2 (FR n qbz qb0 p2 k) s:=rfl
theorem Nr(n:Nat)(p0:Env)(p1:List Int)(k:Nat)(s:Int):zW n p0 p1 (k+1) s=yu n p0 p1 (zW n p0 p1 k) s:=rfl
theorem aqB(c:Carrier)(l:List Int)(i:Int)(s:Int)(h:idx l i=some s):(((idx l i).bind fun(x2:Int)=>(cond (decide (x2<1)) (some true) ((idx l i).bind fun(x3:Int)=>(cond (decide (8<x3)) (some true) (cond (decide (0<(c.elems.length:Int))) ((idx l i).bind fun(x4:Int)=>some (x4 !=(c.elems.length:Int))) (some false)))))):Option Bool)=some (abf c s):=by
 simp only[abf]
 grind
theorem arI(n:Nat)(nm:List Decl):∀(cs:List Carrier) (ss:List Int) (pc:List Carrier) (ps:List Int),pc.length=ps.length→cs.length=ss.length→∀k,cs.length+1≤k→zW n ⟨pc++cs,nm⟩ (ps++ss) k (pc.length:Int)=some (cond (J4 cs ss) (.nx ()) (.rt false))
 |[],ss,pc,ps,hp,hl,k,hk=>by
  obtain⟨j,rfl⟩:∃j,k=j+1:=⟨k - 1,by simp at hk;omega⟩;rw[Nr];unfold yu;rw[decide_eq_false (by simp)];rfl
 |c::cs,[],pc,ps,hp,hl,k,hk=>by simp at hl
 |c::cs,s::ss,pc,ps,hp,hl,k,hk=>by
  obtain⟨j,rfl⟩:∃j,k=j+1:=⟨k - 1,by simp at hk;omega⟩;have hi:idx (ps++s::ss) (pc.length:Int)=some s:=by rw[hp];exact gJ _ _ _
  have ih:=arI n nm cs ss (pc++[c]) (ps++[s]) (by simp[hp]) (by simpa using hl) j (by simp at hk;omega);rw[Nr];unfold yu;rw[decide_eq_true (by simp;omega)];simp only[cond_true];rw[gJ];simp only[qAb];rw[aqB c _ _ s hi];simp only[qAb,J4];cases hb:abf c s with
  |true=>rfl
  |false=>
   simp;rw[show(pc.length:Int)+1=((pc++[c]).length:Int) by simp];simpa using ih
theorem af4(env:Env)(sz:List Int):Ev (fun n=>Bh n env sz) (uj env sz):=by
 unfold Bh uj;cases h:((sz.length:Int)!=(env.carriers.length:Int))with
 |true=>exact Ev.ret _
 |false=>
  simp at h;refine Ev.bind (a:=cond (J4 env.carriers sz) (.nx ()) (.rt false)) ⟨env.carriers.length+1,fun n hn=>?_⟩ ?_
  ·have:=arI n env.names env.carriers sz [] [] rfl (by omega) n hn
   simp_all
  ·cases J4 env.carriers sz<;>exact Ev.ret _
inductive Shp:Ty→Prop where
 |int:Shp (.mk 1 [] [])
 |bool:Shp (.mk 2 [] [])
 |car (nm:Str):Shp (.mk 3 nm [])
 |pair {a b:Ty} (h:Shp a) (k:Shp b):Shp (.mk 4 [] [a,b])
 |set {a:Ty} (h:Shp a):Shp (.mk 5 [] [a])
mutual
theorem aAg:∀(t:Ty) (d c:Int),(pf t d c).1=true→Shp t
 | .mk k nm ks,d,c,h=>by
  simp only[pf]at h;cases hb:((decide (c+1≤16)&&decide (d≤6))&&fT k nm ks.length d)with
  |false=>rw[hb]at h;cases h
  |true=>
   rw[hb]at h;simp only[cond_true]at h;have hs:=au9 ks (d+1) (c+1) h;simp only[fT,qAa,qBe,beq_iff_eq]at hb;obtain⟨_,_,hk,hn⟩:=hb;rcases hk with⟨hk,hl⟩|⟨rfl,hl⟩|⟨rfl,hl⟩
   ·have:ks=[]:=qAD.1 hl;subst this;rcases hk with rfl|rfl|rfl
    ·have:nm=[]:=by simpa using hn
     subst this;exact .int
    ·have:nm=[]:=by simpa using hn
     subst this;exact .bool
    ·exact .car nm
   ·have:nm=[]:=by simpa using hn
    subst this
    match ks,hl with
    |[a,b],_=>exact .pair (hs a (by simp)) (hs b (by simp))
   ·have:nm=[]:=by simpa using hn
    subst this
    match ks,hl with
    |[a],_=>exact .set (hs a (by simp))
theorem au9:∀(ks:List Ty) (d c:Int),(kK ks d c).1=true→∀t∈ks,Shp t
 |[],_,_,_,_,ht=>by cases ht
 |k::ks,d,c,h,t,ht=>by
  simp only[kK]at h;cases h1:(pf k d c).1 with
  |false=>rw[h1]at h;cases h
  |true=>
   rw[h1]at h;simp only[cond_true]at h;rcases qAh.1 ht with h2|ht
   ·have h3:=aAg k d c h1;rw[h2];exact h3
   ·exact au9 ks d _ h t ht
end
theorem PY{t:Ty}(h:bA t=true):Shp t:=aAg t 1 0 h
theorem arx(env:Env)(s:Str):Ev (fun n=>Pz n env s) (dR (fun c=>c.name==s) 0 env.carriers):=by
 refine Ev.bind (vo env.carriers (fun n k i=>wY n env.carriers s k i) (fun _ x=>some (x.name==s)) (fun c=>c.name==s) (fun n k i=>rfl) (fun x _=>Ev.ret _)) (Ev.ret _)
theorem ave{env:Env}{sz:List Int}{nm:Str}(hl:sz.length=env.carriers.length)(h:dP env nm=true):0≤dR (fun c=>c.name==nm) 0 env.carriers∧idx sz (dR (fun c=>c.name==nm) 0 env.carriers)=some (He env sz nm):=by
 have hg:=mO (fun c:Carrier=>c.name==nm) env.carriers 0 (qBD _);have hany:env.carriers.any (fun c=>c.name==nm)=true:=h;rw[hany]at hg;have h0:0≤dR (fun c:Carrier=>c.name==nm) 0 env.carriers:=by simpa using hg
 rcases Dw (fun c:Carrier=>c.name==nm) env.carriers []with⟨x,_,_,g1,g2⟩|⟨_,g⟩
 ·simp at g1 g2;unfold He;unfold idx at g2⊢
  grind
 grind
theorem aqJ(p2:Val):∀(suf pre:List Val) (x:Val),p2.kids=pre++[x]++suf→p2.kids.length≤256→∃N,∀n,N≤n→∀k,suf.length+1≤k→∀r1 r2,FR n r1 r2 p2 k ((pre++[x]).length:Int)=some (cond (Fp (x::suf)) (.nx ()) (.rt false))
 |[],pre,x,e,hl=>by
  refine⟨0,fun n _ k hk r1 r2=>?_⟩;obtain⟨j,rfl⟩:∃j,k=j+1:=⟨k - 1,by simp at hk;omega⟩;rw[Oo];unfold DN;rw[decide_eq_false (by rw[e];simp)];rfl
 |y::suf,pre,x,e,hl=>by
  obtain⟨N1,h1⟩:=Eu x y;obtain⟨N2,h2⟩:=aqJ p2 suf (pre++[x]) y (by rw[e];simp) hl;refine⟨N1+N2,fun n hn k hk r1 r2=>?_⟩;obtain⟨j,rfl⟩:∃j,k=j+1:=⟨k - 1,by simp at hk;omega⟩;have h1:dY n x y=_:=h1 n (by omega);have h2:=h2 n (by omega) j (by simp at hk;omega) r1 r2;have hlen:pre.length+1≤256:=by rw[e]at hl;simp at hl;omega
  have ew:IntKind.wrap .i64 (((pre++[x]).length:Int) - 1)=(pre.length:Int):=by
   rw[qAe,qAI,wrap64 (by omega) (by omega)];omega
  have i1:idx p2.kids (pre.length:Int)=some x:=by rw[e,qAm,qCF];exact gJ _ _ _
  have i2:idx p2.kids ((pre++[x]).length:Int)=some y:=by rw[e];exact gJ _ _ _
  rw[Oo];unfold DN;rw[decide_eq_true (by rw[e];simp;omega),ew,i1,i2];simp only[cond_true,qAb];rw[h1];simp only[qAb,Fp];cases decide (0≤bQ x y)with
  |true=>rfl
  |false=>
   simp only[cond_false,qBb,qAu];rw[show((pre++[x]).length:Int)+1=((pre++[x]++[y]).length:Int) by simp only[qAe,qAI];omega];exact h2
theorem anQ(env:Env)(sz:List Int)(t:Ty)(H:∀v,Ev (fun n=>kN n env sz v t) (hasB env sz t v)):∀(suf pre:List Val),∃N,∀n,N≤n→∀k,suf.length+1≤k→Ba n (kN n) (wF n) [t] (pre++suf) env.carriers env.names sz k (pre.length:Int)=some (cond (suf.all fun v=>hasB env sz t v) (.nx ()) (.rt false))
 |[],pre=>by
  refine⟨0,fun n _ k hk=>?_⟩;obtain⟨j,rfl⟩:∃j,k=j+1:=⟨k - 1,by simp at hk;omega⟩;rw[J2];unfold yX;rw[decide_eq_false (by simp)];rfl
 |v::suf,pre=>by
  obtain⟨N1,h1⟩:=H v;obtain⟨N2,h2⟩:=anQ env sz t H suf (pre++[v]);refine⟨N1+N2,fun n hn k hk=>?_⟩;obtain⟨j,rfl⟩:∃j,k=j+1:=⟨k - 1,by simp at hk;omega⟩;have h1:kN n env sz v t=_:=h1 n (by omega);have h2:=h2 n (by omega) j (by simp at hk;omega);have i2:idx [t] (if(([t].length:Int) - 1)<(pre.length:Int)then(([t].length:Int) - 1)else(pre.length:Int))=some t:=by
   simp only[qAI];have:(if(((1:Nat):Int) - 1)<(pre.length:Int)then(((1:Nat):Int) - 1)else(pre.length:Int))=0:=by split<;>omega
   rw[this];rfl
  rw[J2];unfold yX;rw[decide_eq_true (by simp;omega),gJ,i2];simp only[cond_true,qAb];rw[show kN n (Env.mk env.carriers env.names) sz v t=kN n env sz v t from rfl,h1];simp only[qAb,qBC];cases hasB env sz t v with
  |false=>rfl
  |true=>
   simp only[qAv,cond_false,qAu];rw[show(pre.length:Int)+1=((pre++[v]).length:Int) by simp];simpa using h2
theorem aEr(env:Env)(sz:List Int)(t u:Ty)(a b:Val)(k n:Int)(s:Str)(H1:Ev (fun n=>kN n env sz a t) (hasB env sz t a))(H2:Ev (fun n=>kN n env sz b u) (hasB env sz u b)):Ev (fun m=>wF m [t,u] k n s [a,b] env.carriers env.names sz) (Zk env sz [t,u] [a,b]):=by
 refine Ev.succ ?_;obtain⟨N1,h1⟩:=H1;obtain⟨N2,h2⟩:=H2;refine⟨N1+N2+3,fun m hm=>?_⟩;have h1:kN m (Env.mk env.carriers env.names) sz a t=_:=h1 m (by omega);have h2:kN m (Env.mk env.carriers env.names) sz b u=_:=h2 m (by omega);show wQ m _ _ [t,u] k n s [a,b] env.carriers env.names sz=_;unfold wQ;obtain⟨j,hj⟩:∃j,m=j+3:=⟨m - 3,by omega⟩;have e1:Ba m (kN m) (wF m) [t,u] [a,b] env.carriers env.names sz (j+3) 0=some (cond (Zk env sz [t,u] [a,b]) (.nx ()) (.rt false)):=by
  have i0:idx [t,u] (if(((([t,u]:List Ty)).length:Int) - 1)<0 then((([t,u]:List Ty).length:Int) - 1)else 0)=some t:=rfl;have i1:idx [t,u] (if(((([t,u]:List Ty)).length:Int) - 1)<0+1 then((([t,u]:List Ty).length:Int) - 1)else 0+1)=some u:=rfl;simp only[J2,yX,show idx [a,b] 0=some a from rfl,show idx [a,b] (0+1)=some b from rfl,Zk]
  grind
 grind
theorem ayM(env:Env)(sz:List Int)(hl:sz.length=env.carriers.length):∀{t:Ty},Shp t→(dX t).all (dP env)=true→∀v,Ev (fun n=>kN n env sz v t) (hasB env sz t v):=by
 intro t h
 induction h with
 |int=>
  intro _ v;refine Ev.succ ?_;show Ev (fun n=>ko n _ _ env sz v (.mk 1 [] [])) _;unfold ko;refine Ev.pos rfl ?_;refine Ev.bind (a:=acs v) ?_ (Ev.ret _);unfold acs;cases v.kind==1<;>cases decide ((-1000000000)≤v.n)<;>cases decide (v.n≤1000000000)<;>cases v.name==[]<;>cases(v.kids.length:Int)==0<;>exact Ev.ret _
 |bool=>
  intro _ v;refine Ev.succ ?_;show Ev (fun n=>ko n _ _ env sz v (.mk 2 [] [])) _;unfold ko;refine Ev.neg rfl ?_;refine Ev.pos rfl ?_;refine Ev.bind (a:=abw v) ?_ (Ev.ret _);unfold abw;cases v.kind==2<;>cases v.n==0<;>cases v.n==1<;>cases v.name==[]<;>cases(v.kids.length:Int)==0<;>exact Ev.ret _
 |car nm=>
  intro hc v;have hc:dP env nm=true:=by simpa[dX]using hc
  obtain⟨g1,g2⟩:=ave hl hc;refine Ev.succ ?_;show Ev (fun n=>ko n _ _ env sz v (.mk 3 nm [])) _;unfold ko;refine Ev.neg rfl ?_;refine Ev.neg rfl ?_;refine Ev.pos rfl ?_;refine Ev.bind (arx env nm) ?_;refine Ev.bind (a:=OD env sz nm v) ?_ (Ev.ret _);simp only[decide_eq_true g1,cond_true,g2,qAb,Ty.name];unfold OD;cases v.kind==3<;>cases v.name==nm<;>cases decide (0≤v.n)<;>cases decide (v.n<He env sz nm)<;>cases(v.kids.length:Int)==0<;>exact Ev.ret _
 |@pair a b ha hb iha ihb=>
  intro hc v;simp only[dX,jG,qAt,show((4:Int)==3)=false from rfl,cond_false,List.all_append,qAa]at hc;refine Ev.succ ?_;show Ev (fun n=>ko n _ _ env sz v (.mk 4 [] [a,b])) _;unfold ko;refine Ev.neg rfl ?_;refine Ev.neg rfl ?_;refine Ev.neg rfl ?_;refine Ev.pos rfl ?_;refine Ev.bind (a:=hasB env sz (.mk 4 [] [a,b]) v) ?_ (Ev.ret _);simp only[hasB,show((4:Int)==1)=false from rfl,show((4:Int)==2)=false from rfl,show((4:Int)==3)=false from rfl,show((4:Int)==4)=true from rfl,cond_false,cond_true,Ty.kids];cases v.kind==4 with
  |false=>exact Ev.ret _
  |true=>
   cases v.n==0 with
   |false=>exact Ev.ret _
   |true=>
    cases v.name==[]with
    |false=>exact Ev.ret _
    |true=>
     cases h2:(v.kids.length:Int)==2 with
     |false=>exact Ev.ret _
     |true=>
      simp only[cond_true,qAu];obtain⟨k,n,s,ks⟩:=v;simp only[Val.kids,beq_iff_eq]at h2
      match ks,h2 with
      |[x,y],_=>exact Ev.bind (aEr env sz a b x y k n s (iha hc.1 x) (ihb hc.2 y)) (Ev.ret _)
 |@set a ha iha=>
  intro hc v;simp only[dX,jG,qAt,show((5:Int)==3)=false from rfl,cond_false]at hc;have H:=iha hc;refine Ev.succ ?_;show Ev (fun n=>ko n _ _ env sz v (.mk 5 [] [a])) _;unfold ko;refine Ev.neg rfl ?_;refine Ev.neg rfl ?_;refine Ev.neg rfl ?_;refine Ev.neg rfl ?_;refine Ev.pos rfl ?_;simp only[hasB,show((5:Int)==1)=false from rfl,show((5:Int)==2)=false from rfl,show((5:Int)==3)=false from rfl,show((5:Int)==4)=false from rfl,cond_false,Ty.kids];have e1:(v.kind !=5)=!(v.kind==5):=rfl;have e2:(v.n !=0)=!(v.n==0):=rfl;rw[e1,e2];cases v.kind==5 with
  |false=>refine Ev.bind (a:=true) (Ev.ret _) ?_;exact Ev.ret _
  |true=>
   cases v.n==0 with
   |false=>refine Ev.bind (a:=true) (Ev.ret _) ?_;exact Ev.ret _
   |true=>
    cases v.name==[]with
    |false=>refine Ev.bind (a:=true) (Ev.ret _) ?_;exact Ev.ret _
    |true=>
     cases h256:decide (256<(v.kids.length:Int))with
     |true=>refine Ev.bind (a:=true) (Ev.ret _) ?_;exact Ev.ret _
     |false=>
      have hlen:v.kids.length≤256:=by simp at h256;omega
      have hk:Ev (fun n=>wF n [a] v.kind v.n v.name v.kids env.carriers env.names sz) (v.kids.all fun v=>hasB env sz a v):=by
       obtain⟨N,h⟩:=anQ env sz a H v.kids [];refine Ev.succ ?_;refine⟨N+v.kids.length+1,fun n hn=>?_⟩;have:=h n (by omega) n (by omega);simp only[qAo,qAA]at this;show wQ n _ _ [a] v.kind v.n v.name v.kids env.carriers env.names sz=_;unfold wQ;rw[show((0:Nat):Int)=0 from rfl]at this;rw[this];cases(v.kids.all fun v=>hasB env sz a v)<;>rfl
      simp only[qAv,cond_false,qBb,qAu,awR];refine Ev.bind (Ev.bind hk (Ev.ret _)) ?_;cases(v.kids.all fun v=>hasB env sz a v)with
      |false=>exact Ev.ret _
      |true=>
       simp only[qAv,cond_false,qAu];refine Ev.bind (a:=cond (Fp v.kids) (.nx ()) (.rt false)) ?_ (by cases Fp v.kids<;>exact Ev.ret _);cases hks:v.kids with
       |nil=>
        refine⟨1,fun n hn=>?_⟩;obtain⟨j,rfl⟩:∃j,n=j+1:=⟨n - 1,by omega⟩;show FR (j+1) _ _ v (j+1) 1=_;rw[Oo];unfold DN;rw[decide_eq_false (by rw[hks];simp)];rfl
       |cons x xs=>
        obtain⟨N,h⟩:=aqJ v xs [] x (by rw[hks];rfl) hlen;refine⟨N+xs.length+1,fun n hn=>?_⟩;have:=h n (by omega) n (by omega) (kN n) (wF n);exact this
theorem avE:∀l:List Val,Fp l=true↔l.Pairwise iA
 |[]=>by simp[Fp]
 |[a]=>by simp[Fp]
 |a::b::r=>by
  have ih:=avE (b::r);unfold Fp;rw[qAa,ih,qAV,decide_eq_false_iff_not,Int.not_le];constructor
  ·rintro⟨h1,h2⟩;refine qBn.2 ⟨fun x hx=>?_,h2⟩;rcases qAh.1 hx with rfl|hx
   ·exact h1
   ·exact BF _ _ _ h1 ((qBn.1 h2).1 x hx)
  ·intro h;exact⟨(qBn.1 h).1 b (by simp),(qBn.1 h).2⟩
section
variable {env:Env}{sz:List Int}
theorem sG{v:Val}:hasB env sz fE v=true↔∃n,v=iY n∧EU n:=by
 obtain⟨k,n,s,ks⟩:=v;rw[show hasB env sz fE (.mk k n s ks)=acs (.mk k n s ks) by unfold fE hasB;rfl];unfold acs iY EU;simp only[Val.kind,Val.n,Val.name,Val.kids,qAa,beq_iff_eq,Val.mk.injEq];constructor
 ·rintro⟨rfl,rfl,h,h1,h2⟩;have:ks=[]:=qAD.1 (by omega)
  grind
 grind
theorem Aa{v:Val}:hasB env sz aY v=true↔∃b,v=aO b:=by
 obtain⟨k,n,s,ks⟩:=v;rw[show hasB env sz aY (.mk k n s ks)=abw (.mk k n s ks) by unfold aY hasB;rfl];unfold abw aO;simp only[Val.kind,Val.n,Val.name,Val.kids];constructor
 ·simp_all
 grind
theorem qJ{a b:Ty}{v:Val}:hasB env sz (aR a b) v=true↔∃x y,v=aG x y∧hasB env sz a x=true∧hasB env sz b y=true:=by
 obtain⟨k,n,s,ks⟩:=v;have e:hasB env sz (aR a b) (.mk k n s ks)=(k==4&&(n==0&&(s==[]&&((ks.length:Int)==2&&Zk env sz [a,b] ks)))):=by unfold aR;rw[hasB];rfl
 rw[e];simp;constructor
 ·rintro⟨rfl,rfl,rfl,h,h1⟩
  match ks,h with
  |[x,y],_=>
   simp only[Zk,qAa,and_true]at h1;exact⟨x,y,rfl,h1.1,h1.2⟩
  |[],h=>simp at h
  |[x],h=>simp at h
  |x::y::z::r,h=>simp at h;omega
 ·rintro⟨x,y,h,h1,h2⟩;cases h;simp only[Zk,h1,h2];simp
theorem iV{e:Ty}{v:Val}:hasB env sz (au e) v=true↔∃l,v=mkSet l∧dO l∧∀x∈l,hasB env sz e x=true:=by
 obtain⟨k,n,s,ks⟩:=v;have e:hasB env sz (au e) (.mk k n s ks)=((k==5&&(n==0&&(s==[]&&!(decide (256<(ks.length:Int))))))&&(ks.all (fun v=>hasB env sz e v)&&Fp ks)):=by unfold au;rw[hasB];simp only[awR];rfl
 rw[e];simp only[qAa,beq_iff_eq,qAV,decide_eq_false_iff_not,avE,qAP];constructor
 ·rintro⟨⟨rfl,rfl,rfl,h⟩,h1,h2⟩;exact⟨ks,rfl,⟨h2,by omega⟩,h1⟩
 ·rintro⟨l,h,h1,h2⟩;cases h;exact⟨⟨rfl,rfl,rfl,by have:=h1.2;omega⟩,h2,h1.1⟩
theorem Br{l:List Val}{v:Val}(h:bF l=.ok v):v=gH l∧(sortV l).length≤256:=by
 unfold bF at h
 grind
theorem mZ{e:Ty}{l:List Val}{v:Val}(h:bF l=.ok v)(hl:∀x∈l,hasB env sz e x=true):hasB env sz (au e) v=true:=by
 obtain⟨rfl,h1⟩:=Br h;exact iV.2 ⟨_,rfl,⟨cZ l,h1⟩,fun x hx=>hl x ((aV l x).1 hx)⟩
theorem aq8{n:Int}{v:Val}(h:gM n=.ok v):v=iY n∧EU n:=by
 unfold gM ab1 at h;cases h1:decide (1000000000<n)with
 |true=>rw[h1]at h;cases h
 |false=>
  cases h2:decide (n< -1000000000)with
  |true=>rw[h1,h2]at h;cases h
  |false=>
   rw[h1,h2]at h;cases h;have:=of_decide_eq_false h1;have:=of_decide_eq_false h2;exact⟨rfl,by omega,by omega⟩
theorem IX{n:Int}{v:Val}(h:gM n=.ok v):hasB env sz fE v=true:=by
 obtain⟨rfl,h1⟩:=aq8 h;exact sG.2 ⟨_,rfl,h1⟩
theorem lN{b:Bool}{v:Val}(h:(.ok (aO b):VR)=.ok v):hasB env sz aY v=true:=by cases h;exact Aa.2 ⟨b,rfl⟩
theorem then_ok{β γ:Type}{r:RR β}{f:β→RR γ}{v:γ}(h:r.thn f=.ok v):∃a,r=.ok a∧f a=.ok v:=by
 cases r with
 |ok a=>exact⟨a,rfl,h⟩
 |er e=>cases h
theorem seq_ok{α:Type}(f:α→VR):∀(xs:List α) (ys:List Val),aN (xs.map f)=.ok ys→ys.length=xs.length∧∀p∈xs.zip ys,f p.1=.ok p.2
 |[],ys,h=>by cases h;simp
 |x::xs,ys,h=>by
  rw[qAy]at h;cases hx:f x with
  |er e=>rw[hx]at h;cases h
  |ok v=>
   rw[hx]at h;unfold aN at h;cases hr:aN (xs.map f)with
   |er e=>rw[hr]at h;cases h
   |ok l=>
    rw[hr]at h;cases h;obtain⟨h1,h2⟩:=seq_ok f xs l hr;refine⟨by simp[h1],fun p hp=>?_⟩;rw[List.zip_cons_cons]at hp
    grind
theorem seq1{r:VR}{f:List Val→VR}{v:Val}(h:(aN [r]).thn f=.ok v):∃a,r=.ok a∧f [a]=.ok v:=by
 cases r with
 |ok a=>exact⟨a,rfl,h⟩
 |er e=>cases h
theorem seq2{r s:VR}{f:List Val→VR}{v:Val}(h:(aN [r,s]).thn f=.ok v):∃a b,r=.ok a∧s=.ok b∧f [a,b]=.ok v:=by
 cases r with
 |ok a=>
  cases s with
  |ok b=>exact⟨a,b,rfl,rfl,h⟩
  |er e=>cases h
 |er e=>cases h
theorem Hz{l r:List Val}(h:r∈jr l):r.Sublist l:=by
 have key:∀(q pre:List Val) (os:List (List Val)),(∀r∈os,r.Sublist pre)→∀r∈q.foldl (fun out x=>out++out.map fun r=>r++[x]) os,r.Sublist (pre++q):=by
  intro q
  induction q with
  |nil=>intro pre os h r hr;rw[qAt];exact h r hr
  |cons y q ih=>
   intro pre os h r hr;have:=ih (pre++[y]) (os++os.map fun r=>r++[y]) (fun r hr=>by
    rcases qAr.1 hr with hr|hr
    ·grind
    ·obtain⟨z,hz,rfl⟩:=qAJ.1 hr;exact(h z hz).append (List.Sublist.refl _)) r hr
   grind
 exact key l [] [[]] (fun r hr=>by simp at hr;subst hr;exact List.Sublist.refl _) r h
theorem YO{op:Int}{a b:List Val}{d:Nat}(h1:1≤d)(hd:op=41→b.length≤d):∀(xs l:List Val) (x:Val),x∈iM op a b xs l→∃m,x=gH m∧(∀p∈m,p∈l∨∃u∈xs,∃v∈b,p=aG u v)∧m.length≤l.length+d*xs.length∧lC op a b m=true
 |[],l,x,h=>by
  unfold iM at h
  grind
 |y::xs,l,x,h=>by
  have ih:=YO (a:=a) h1 hd xs;unfold iM at h;have one:∀(q:List Val),(∀p∈q,∃v∈b,p=aG y v)→q.length≤d→x∈iM op a b xs (l++q)→∃m,x=gH m∧(∀p∈m,p∈l∨∃u∈y::xs,∃v∈b,p=aG u v)∧m.length≤l.length+d*(y::xs).length∧lC op a b m=true:=by
   intro q hq hl hx;obtain⟨m,e,h2,h3,h4⟩:=ih (l++q) x hx;refine⟨m,e,fun p hp=>?_,?_,h4⟩
   ·grind
   ·simp at h3⊢
    grind
  cases h41:(op==41)with
  |true=>
   rw[h41]at h;obtain⟨im,him,hx⟩:=qBx.1 h;have hs:=Hz him;refine one _ (fun p hp=>?_) ?_ hx
   ·grind
   grind
  |false=>
   rw[h41]at h;rcases qAr.1 h with h|h
   ·cases h42:(op==42)with
    |false=>rw[h42]at h;cases h
    |true=>rw[h42]at h;exact one [] (by simp) (by simp) (by simpa using h)
   ·obtain⟨v,hv,hx⟩:=qBx.1 h
    grind
theorem Sv:∀(k:Nat) (a:Int) (x:Val),x∈ints a k→∃i,x=iY i∧a≤i∧i<a+k
 |0,_,_,h=>by cases h
 |k+1,a,x,h=>by
  rcases qAh.1 h with rfl|h
  ·grind
  ·obtain⟨i,e,h1,h2⟩:=Sv k (a+1) x h
   grind
theorem IU{a b:Ty}{p:Val}(h:hasB env sz (aR a b) p=true):hasB env sz a (aJ p)=true∧hasB env sz b (aQ p)=true:=by
 obtain⟨x,y,rfl,h1,h2⟩:=qJ.1 h;exact⟨h1,h2⟩
theorem Lv{a b:Ty}{x y:Val}(h:hasB env sz a x=true)(k:hasB env sz b y=true):hasB env sz (aR a b) (aG x y)=true:=qJ.2 ⟨x,y,rfl,h,k⟩
theorem avw{op:Int}(ho:op=41∨op=42∨op=43∨op=44∨op=45){s t:Ty}{a b:List Val}(ha:dO a)(hb:dO b)(ta:∀x∈a,hasB env sz s x=true)(tb:∀x∈b,hasB env sz t x=true){l:List Val}(h:l8 op a b=.ok l):
  ∀x∈l,hasB env sz (au (aR s t)) x=true:=by
 unfold l8 at h;cases hN:kX op a.length b.length with
 |true=>rw[hN]at h;cases h;intro x hx;cases hx
 |false=>
  cases hM:je op b.length a.length 0 1 with
  |true=>rw[hN,hM]at h;cases h
  |false=>
   rw[hN,hM]at h;cases h;intro x hx;obtain⟨d,hd1,hd2,hd3⟩:∃d,1≤d∧(op=41→b.length≤d)∧d*a.length≤256:=by
    have:=ha.2;by_cases h41:op=41
    ·subst h41;have h1:=YN (.inl rfl) a.length 0 1 (by show 2^b.length≠0;have:=qCZ (n:=b.length);omega) (by omega) hM;rw[show lq 41 b.length=2^b.length from rfl,qCf,←Nat.pow_mul]at h1;have h2:b.length*a.length≤8:=by
      rcases qDq 8 (b.length*a.length)with h|h
      ·have:=Nat.pow_lt_pow_right (a:=2) (by omega) h;omega
      ·exact h
     refine⟨b.length+1,by omega,fun _=>by omega,?_⟩;rw[qAU,qCf];rcases qCY a.length with h|h
     ·grind
     ·rcases qCY b.length with h'|h'
      ·grind
      ·have:1*a.length≤b.length*a.length:=qAQ _ h';omega
    ·exact⟨1,by omega,fun h=>absurd h h41,by omega⟩
   obtain⟨m,rfl,h2,h3,_⟩:=YO hd1 hd2 a [] x hx;refine iV.2 ⟨_,rfl,⟨cZ _,?_⟩,fun p hp=>?_⟩
   ·have:=eP m
    grind
   ·rcases h2 p ((aV m p).1 hp)with h|⟨u,hu,v,hv,rfl⟩
    ·cases h
    ·exact Lv (ta u hu) (tb v hv)
inductive Scp(env:Env)(sz:List Int):List Decl→List Bound→Prop
 |nil:Scp env sz [] []
 |cons {nm:Str} {t:Ty} {v:Val} {sc:List Decl} {bs:List Bound} (h:hasB env sz t v=true) (k:Scp env sz sc bs):Scp env sz (⟨nm,t⟩::sc) (⟨nm,v⟩::bs)
def Xp(env:Env)(sz:List Int)(g:Str→Val):Prop:=∀s t,look env s=some t→hasB env sz t (g s)=true
theorem aCQ{g:Str→Val}(hg:Xp env sz g){sc:List Decl}{bs:List Bound}(h:Scp env sz sc bs)(s:Str)(t:Ty)(ht:nJ env sc s=some t):hasB env sz t (Ml g bs s)=true:=by
 unfold nJ at ht;unfold Ml
 induction h with
 |nil=>exact hg s t ht
 |cons h k ih=>
  grind
end
theorem mem2{P:Tm→Prop}{x y:Tm}(h:∀t∈[x,y],P t):P x∧P y:=by grind
set_option maxHeartbeats 4000000 in
theorem sound{env:Env}{sz:List Int}{g:Str→Val}(hg:Xp env sz g):∀t:Tm,∀(sc:List Decl) (ty:Ty) (bs:List Bound) (v:Val),HT env sc t ty→Scp env sz sc bs→aj g t bs=.ok v→hasB env sz ty v=true:=
 Tm.ind fun op nm m u ks ih sc ty bs v ht hs h=>by
 rw[bG]at h;have S:∀{e:Ty} {w:Val},hasB env sz (au e) w=true→dO w.kids∧∀x∈w.kids,hasB env sz e x=true:=fun hw=>by
  obtain⟨l,rfl,h1,h2⟩:=iV.1 hw;exact⟨h1,h2⟩
 cases ht with
 |lit op ho=>rcases ho with rfl|rfl<;>exact lN h
 |int _=>exact IX h
 |name hl=>cases h;exact aCQ hg hs _ _ hl
 |empty _=>cases h;exact iV.2 ⟨[],rfl,⟨.nil,by simp⟩,fun x hx=>by cases hx⟩
 |not _=>obtain⟨a,_,h⟩:=seq1 (r:=aj g _ bs) (f:=bB 3) h;exact lN h
 |log op ho hx hy=>
  rename_i x y;obtain⟨ix,iy⟩:=mem2 ih;rcases ho with rfl|rfl|rfl|rfl
  ·obtain⟨p,_,h⟩:=then_ok (r:=aj g x bs) h;cases hp:(p.n==1)with
   |false=>rw[hp]at h;exact lN h
   |true=>rw[hp]at h;exact iy sc aY bs v hy hs h
  ·obtain⟨p,_,h⟩:=then_ok (r:=aj g x bs) h;cases hp:(p.n==1)with
   |true=>rw[hp]at h;exact lN h
   |false=>rw[hp]at h;exact iy sc aY bs v hy hs h
  ·obtain⟨p,_,h⟩:=then_ok (r:=aj g x bs) h;cases hp:(p.n==1)with
   |false=>rw[hp]at h;exact lN h
   |true=>rw[hp]at h;exact iy sc aY bs v hy hs h
  ·obtain⟨a,b,_,_,h⟩:=seq2 (r:=aj g x bs) (s:=aj g y bs) (f:=bB 7) h;exact lN h
 |qu op ho hx hy=>
  rename_i x y e;rcases ho with rfl|rfl
  ·obtain⟨s,_,h⟩:=then_ok (r:=aj g x bs) h;obtain⟨ys,_,h⟩:=then_ok (r:=fH (aj g y) nm bs s.kids) h;exact lN h
  ·obtain⟨s,_,h⟩:=then_ok (r:=aj g x bs) h;obtain⟨ys,_,h⟩:=then_ok (r:=fH (aj g y) nm bs s.kids) h;exact lN h
 |compr hx hy=>
  rename_i x y e;obtain⟨ix,iy⟩:=mem2 ih;obtain⟨s,h1,h⟩:=then_ok (r:=aj g x bs) h;obtain⟨ys,h2,h⟩:=then_ok (r:=fH (aj g y) nm bs s.kids) h;obtain⟨_,hs2⟩:=S (ix sc _ bs s hx hs h1);refine mZ (l:=(s.kids.zip ys).flatMap fun(p:Val×Val)=>cond (p.2.n==1) [p.1] []) h fun z hz=>?_;obtain⟨p,hp,hz⟩:=qBx.1 hz;have hm:=hs2 p.1 (qCR (show(p.1,p.2)∈s.kids.zip ys from hp)).1;cases hb:(p.2.n==1)with
  |false=>rw[hb]at hz;cases hz
  |true=>
   rw[hb]at hz;have:z=p.1:=by simpa using hz
   rw[this];exact hm
 |fn hgt hx hy=>
  rename_i x y e t;obtain⟨ix,iy⟩:=mem2 ih;obtain⟨s,h1,h⟩:=then_ok (r:=aj g x bs) h;obtain⟨ys,h2,h⟩:=then_ok (r:=fH (aj g y) nm bs s.kids) h;obtain⟨_,hs2⟩:=S (ix sc _ bs s hx hs h1);refine mZ (l:=(s.kids.zip ys).flatMap fun(p:Val×Val)=>[aG p.1 p.2]) h fun z hz=>?_;obtain⟨p,hp,hz⟩:=qBx.1 hz;have hm:=hs2 p.1 (qCR (show(p.1,p.2)∈s.kids.zip ys from hp)).1;have hv:=(seq_ok (fun x=>aj g y (⟨nm,x⟩::bs)) s.kids ys h2).2 p hp;have:z=aG p.1 p.2:=by simpa using hz
  rw[this];exact Lv hm (iy _ _ _ _ hy (.cons hm hs) hv)
 |eq op ho hgt hx hy=>
  rename_i x y t;rcases ho with rfl|rfl
  ·obtain⟨a,b,_,_,h⟩:=seq2 (r:=aj g x bs) (s:=aj g y bs) (f:=bB 10) h;exact lN h
  ·obtain⟨a,b,_,_,h⟩:=seq2 (r:=aj g x bs) (s:=aj g y bs) (f:=bB 11) h;exact lN h
 |ord op ho hx hy=>
  rename_i x y;rcases ho with rfl|rfl|rfl|rfl
  ·obtain⟨a,b,_,_,h⟩:=seq2 (r:=aj g x bs) (s:=aj g y bs) (f:=bB 12) h;exact lN h
  ·obtain⟨a,b,_,_,h⟩:=seq2 (r:=aj g x bs) (s:=aj g y bs) (f:=bB 13) h;exact lN h
  ·obtain⟨a,b,_,_,h⟩:=seq2 (r:=aj g x bs) (s:=aj g y bs) (f:=bB 14) h;exact lN h
  ·obtain⟨a,b,_,_,h⟩:=seq2 (r:=aj g x bs) (s:=aj g y bs) (f:=bB 15) h;exact lN h
 |inn op ho hx hy=>
  rename_i x y t;rcases ho with rfl|rfl
  ·obtain⟨a,_,h⟩:=then_ok (r:=aj g x bs) h;obtain⟨l,_,h⟩:=then_ok (r:=vv (nu g y) bs) h;exact lN h
  ·obtain⟨a,_,h⟩:=then_ok (r:=aj g x bs) h;obtain⟨l,_,h⟩:=then_ok (r:=vv (nu g y) bs) h;exact lN h
 |sub hx hy=>
  rename_i x y t;obtain⟨a,_,h⟩:=then_ok (r:=aj g x bs) h;obtain⟨l,_,h⟩:=then_ok (r:=vv (nu g y) bs) h;exact lN h
 |neg hx=>obtain⟨a,_,h⟩:=seq1 (r:=aj g _ bs) (f:=bB 21) h;exact IX h
 |num op ho hx hy=>
  rename_i x y;rcases ho with rfl|rfl|rfl|rfl|rfl
  ·obtain⟨a,b,_,_,h⟩:=seq2 (r:=aj g x bs) (s:=aj g y bs) (f:=bB 22) h;exact IX h
  ·obtain⟨a,b,_,_,h⟩:=seq2 (r:=aj g x bs) (s:=aj g y bs) (f:=bB 23) h;exact IX h
  ·obtain⟨a,b,_,_,h⟩:=seq2 (r:=aj g x bs) (s:=aj g y bs) (f:=bB 24) h;exact IX h
  ·obtain⟨a,b,_,_,h⟩:=seq2 (r:=aj g x bs) (s:=aj g y bs) (f:=bB 25) h;have h:cond (b.n==0) (.er 10) (gM (Int.tdiv a.n b.n))=(.ok v:VR):=h;cases hb:(b.n==0)with
   |true=>rw[hb]at h;cases h
   |false=>rw[hb]at h;exact IX h
  ·obtain⟨a,b,_,_,h⟩:=seq2 (r:=aj g x bs) (s:=aj g y bs) (f:=bB 26) h;have h:cond (decide (a.n<0) ||decide (b.n<1)) (.er 10) (gM (Int.tmod a.n b.n))=(.ok v:VR):=h;cases hb:(decide (a.n<0) ||decide (b.n<1))with
   |true=>rw[hb]at h;cases h
   |false=>rw[hb]at h;exact IX h
 |pair ha hb hx hy=>
  rename_i x y a b;obtain⟨ix,iy⟩:=mem2 ih;obtain⟨a,b,h1,h2,h⟩:=seq2 (r:=aj g x bs) (s:=aj g y bs) (f:=bB 27) h;cases h;exact Lv (ix _ _ _ _ hx hs h1) (iy _ _ _ _ hy hs h2)
 |set ha hn hk=>
  rename_i a;have h:(aN ((ks.map (nu g)).map fun k=>k.f bs)).thn bF=(.ok v:VR):=h;obtain⟨l,hl,h⟩:=then_ok h;rw[qBh]at hl;obtain⟨h1,h2⟩:=seq_ok (fun t=>aj g t bs) ks l hl;refine mZ h fun z hz=>?_;obtain⟨i,hi,rfl⟩:=qBy hz;have hp:(ks[i]'(by omega),l[i])∈ks.zip l:=by
   rw[qBF];exact⟨i,by simp;omega,by simp⟩
  exact ih _ (qAO _) _ _ _ _ (hk _ (qAO _)) hs (h2 _ hp)
 |range hx hy=>
  rename_i x y;obtain⟨ix,iy⟩:=mem2 ih;obtain⟨a,b,h1,h2,h⟩:=seq2 (r:=aj g x bs) (s:=aj g y bs) (f:=bB 30) h;obtain⟨i,rfl,hi⟩:=sG.1 (ix _ _ _ _ hx hs h1);obtain⟨j,rfl,hj⟩:=sG.1 (iy _ _ _ _ hy hs h2);obtain⟨l,hl,h⟩:=then_ok (r:=sF 30 (iY i) (iY j)) (f:=bF) h;have hl:cond (decide (256≤j - i)) (.er 11) (.ok (ints i (j+1 - i).toNat))=(.ok l:xU):=hl;cases hb:decide (256≤j - i)with
  |true=>rw[hb]at hl;cases hl
  |false=>
   rw[hb]at hl;cases hl;refine mZ h fun z hz=>?_;obtain⟨k,rfl,h3,h4⟩:=Sv _ _ _ hz;have:=hi.1;have:=hj.2;exact sG.2 ⟨k,rfl,by omega,by omega⟩
 |bin op ho hx hy=>
  rename_i x y e;obtain⟨ix,iy⟩:=mem2 ih;have fin:∀(a b:Val),aj g x bs=.ok a→aj g y bs=.ok b→∀l:List Val,(∀z∈l,z∈a.kids∨z∈b.kids)→bF l=.ok v→hasB env sz (au e) v=true:=fun a b h1 h2 l hl hb=>
   mZ hb fun z hz=>(hl z hz).elim ((S (ix _ _ _ _ hx hs h1)).2 z) ((S (iy _ _ _ _ hy hs h2)).2 z)
  rcases ho with rfl|rfl|rfl
  ·obtain⟨a,b,h1,h2,h⟩:=seq2 (r:=aj g x bs) (s:=aj g y bs) (f:=bB 31) h;exact fin a b h1 h2 _ (fun z hz=>qAr.1 hz) h
  ·obtain⟨a,b,h1,h2,h⟩:=seq2 (r:=aj g x bs) (s:=aj g y bs) (f:=bB 32) h;exact fin a b h1 h2 _ (fun z hz=>.inl (qBa.1 hz).1) h
  ·obtain⟨a,b,h1,h2,h⟩:=seq2 (r:=aj g x bs) (s:=aj g y bs) (f:=bB 33) h;exact fin a b h1 h2 _ (fun z hz=>.inl (qBa.1 hz).1) h
 |prod hx hy=>
  rename_i x y s t;obtain⟨ix,iy⟩:=mem2 ih;obtain⟨a,b,h1,h2,h⟩:=seq2 (r:=aj g x bs) (s:=aj g y bs) (f:=bB 34) h;obtain⟨l,hl,h⟩:=then_ok (r:=sF 34 a b) (f:=bF) h;have hl:cond (decide (256<(a.kids.length:Int)*b.kids.length)) (.er 11) (.ok (a.kids.flatMap fun x=>b.kids.map (aG x)))=(.ok l:xU):=hl;cases hb:decide (256<(a.kids.length:Int)*b.kids.length)with
  |true=>rw[hb]at hl;cases hl
  |false=>
   rw[hb]at hl;cases hl;refine mZ h fun z hz=>?_;obtain⟨p,hp,hz⟩:=qBx.1 hz;obtain⟨q,hq,rfl⟩:=qAJ.1 hz;exact Lv ((S (ix _ _ _ _ hx hs h1)).2 p hp) ((S (iy _ _ _ _ hy hs h2)).2 q hq)
 |over hx hy=>
  rename_i x y s t;obtain⟨ix,iy⟩:=mem2 ih;obtain⟨a,b,h1,h2,h⟩:=seq2 (r:=aj g x bs) (s:=aj g y bs) (f:=bB 35) h;refine mZ (l:=a.kids.filter (fun p=>!aF (d9 b.kids) (aJ p))++b.kids) h fun z hz=>?_;rcases qAr.1 hz with hz|hz
  ·exact(S (ix _ _ _ _ hx hs h1)).2 z (qBa.1 hz).1
  ·exact(S (iy _ _ _ _ hy hs h2)).2 z hz
 |comp hx hy=>
  rename_i x y s t r;obtain⟨ix,iy⟩:=mem2 ih;obtain⟨a,b,h1,h2,h⟩:=seq2 (r:=aj g x bs) (s:=aj g y bs) (f:=bB 36) h;refine mZ (l:=a.kids.flatMap fun p=>b.kids.flatMap fun q=>cond (eD (aQ p) (aJ q)) [aG (aJ p) (aQ q)] []) h fun z hz=>?_;obtain⟨p,hp,hz⟩:=qBx.1 hz;obtain⟨q,hq,hz⟩:=qBx.1 hz;have hp:=IU ((S (ix _ _ _ _ hx hs h1)).2 p hp);have hq:=IU ((S (iy _ _ _ _ hy hs h2)).2 q hq);cases hb:eD (aQ p) (aJ q)with
  |false=>rw[hb]at hz;cases hz
  |true=>
   rw[hb]at hz;have:z=aG (aJ p) (aQ q):=by simpa using hz
   rw[this];exact Lv hp.1 hq.2
 |dres op ho hx hy=>
  rename_i x y s t;obtain⟨ix,iy⟩:=mem2 ih;rcases ho with rfl|rfl
  ·obtain⟨a,b,h1,h2,h⟩:=seq2 (r:=aj g x bs) (s:=aj g y bs) (f:=bB 37) h;exact mZ (l:=b.kids.filter _) h fun z hz=>(S (iy _ _ _ _ hy hs h2)).2 z (qBa.1 hz).1
  ·obtain⟨a,b,h1,h2,h⟩:=seq2 (r:=aj g x bs) (s:=aj g y bs) (f:=bB 38) h;exact mZ (l:=b.kids.filter _) h fun z hz=>(S (iy _ _ _ _ hy hs h2)).2 z (qBa.1 hz).1
 |rres op ho hx hy=>
  rename_i x y s t;obtain⟨ix,iy⟩:=mem2 ih;rcases ho with rfl|rfl
  ·obtain⟨a,b,h1,h2,h⟩:=seq2 (r:=aj g x bs) (s:=aj g y bs) (f:=bB 39) h;exact mZ (l:=a.kids.filter _) h fun z hz=>(S (ix _ _ _ _ hx hs h1)).2 z (qBa.1 hz).1
  ·obtain⟨a,b,h1,h2,h⟩:=seq2 (r:=aj g x bs) (s:=aj g y bs) (f:=bB 40) h;exact mZ (l:=a.kids.filter _) h fun z hz=>(S (ix _ _ _ _ hx hs h1)).2 z (qBa.1 hz).1
 |fam op ho hx hy=>
  rename_i x y s t;obtain⟨ix,iy⟩:=mem2 ih;have fin:∀(a b:Val),aj g x bs=.ok a→aj g y bs=.ok b→(l8 op a.kids b.kids).thn bF=.ok v→hasB env sz (au (au (aR s t))) v=true:=fun a b h1 h2 h=>by
   obtain⟨l,hl,h⟩:=then_ok h;obtain⟨a1,a2⟩:=S (ix _ _ _ _ hx hs h1);obtain⟨b1,b2⟩:=S (iy _ _ _ _ hy hs h2);exact mZ h (avw ho a1 b1 a2 b2 hl)
  rcases ho with rfl|rfl|rfl|rfl|rfl
  ·obtain⟨a,b,h1,h2,h⟩:=seq2 (r:=aj g x bs) (s:=aj g y bs) (f:=bB 41) h;exact fin a b h1 h2 h
  ·obtain⟨a,b,h1,h2,h⟩:=seq2 (r:=aj g x bs) (s:=aj g y bs) (f:=bB 42) h;exact fin a b h1 h2 h
  ·obtain⟨a,b,h1,h2,h⟩:=seq2 (r:=aj g x bs) (s:=aj g y bs) (f:=bB 43) h;exact fin a b h1 h2 h
  ·obtain⟨a,b,h1,h2,h⟩:=seq2 (r:=aj g x bs) (s:=aj g y bs) (f:=bB 44) h;exact fin a b h1 h2 h
  ·obtain⟨a,b,h1,h2,h⟩:=seq2 (r:=aj g x bs) (s:=aj g y bs) (f:=bB 45) h;exact fin a b h1 h2 h
 |pow hx=>
  rename_i x e;obtain⟨a,h1,h⟩:=seq1 (r:=aj g x bs) (f:=bB 46) h;obtain⟨a1,a2⟩:=S (ih x (by simp) _ _ _ _ hx hs h1);obtain⟨l,hl,h⟩:=then_ok (r:=sF 46 a v0) (f:=bF) h;have hl:cond (decide (8<(a.kids.length:Int))) (.er 11) (.ok ((jr a.kids).map mkSet))=(.ok l:xU):=hl;cases hb:decide (8<(a.kids.length:Int))with
  |true=>rw[hb]at hl;cases hl
  |false=>
   rw[hb]at hl;cases hl;refine mZ h fun z hz=>?_;obtain⟨r,hr,rfl⟩:=qAJ.1 hz;have hr:=Hz hr;exact iV.2 ⟨r,rfl,⟨a1.1.sublist hr,qAs hr.length_le a1.2⟩,fun z hz=>a2 z (hr.subset hz)⟩
 |card hx=>obtain⟨a,_,h⟩:=seq1 (r:=aj g _ bs) (f:=bB 47) h;exact IX h
 |ext op ho hx=>
  rename_i x;rcases ho with rfl|rfl
  ·obtain⟨a,h1,h⟩:=seq1 (r:=aj g x bs) (f:=bB 48) h;obtain⟨a1,a2⟩:=S (ih x (by simp) _ _ _ _ hx hs h1);have h:(match a.kids with|[]=>(.er 10:VR)|x::_=>.ok x)=(.ok v:VR):=h;cases hk:a.kids with
   |nil=>rw[hk]at h;cases h
   |cons z l=>rw[hk]at h;cases h;exact a2 _ (by rw[hk];simp)
  ·obtain⟨a,h1,h⟩:=seq1 (r:=aj g x bs) (f:=bB 49) h;obtain⟨a1,a2⟩:=S (ih x (by simp) _ _ _ _ hx hs h1);have h:(match a.kids.getLast? with|none=>(.er 10:VR)|some x=>.ok x)=(.ok v:VR):=h;cases hk:a.kids.getLast? with
   |none=>rw[hk]at h;cases h
   |some z=>rw[hk]at h;cases h;exact a2 _ (qDI hk)
 |dom hx=>
  rename_i x s t;obtain⟨a,h1,h⟩:=seq1 (r:=aj g x bs) (f:=bB 50) h;obtain⟨a1,a2⟩:=S (ih x (by simp) _ _ _ _ hx hs h1);refine mZ (l:=d9 a.kids) h fun z hz=>?_;obtain⟨p,hp,rfl⟩:=qAJ.1 ((aV _ _).1 hz);exact(IU (a2 p hp)).1
 |ran hx=>
  rename_i x s t;obtain⟨a,h1,h⟩:=seq1 (r:=aj g x bs) (f:=bB 51) h;obtain⟨a1,a2⟩:=S (ih x (by simp) _ _ _ _ hx hs h1);refine mZ (l:=bC a.kids) h fun z hz=>?_;obtain⟨p,hp,rfl⟩:=qAJ.1 ((aV _ _).1 hz);exact(IU (a2 p hp)).2
 |inv hx=>
  rename_i x s t;obtain⟨a,h1,h⟩:=seq1 (r:=aj g x bs) (f:=bB 52) h;obtain⟨a1,a2⟩:=S (ih x (by simp) _ _ _ _ hx hs h1);refine mZ (l:=a.kids.map fun p=>aG (aQ p) (aJ p)) h fun z hz=>?_;obtain⟨p,hp,rfl⟩:=qAJ.1 hz;exact Lv (IU (a2 p hp)).2 (IU (a2 p hp)).1
 |image hx hy=>
  rename_i x y s t;obtain⟨ix,iy⟩:=mem2 ih;obtain⟨a,b,h1,h2,h⟩:=seq2 (r:=aj g x bs) (s:=aj g y bs) (f:=bB 53) h;refine mZ (l:=bC (a.kids.filter fun p=>aF b.kids (aJ p))) h fun z hz=>?_;obtain⟨p,hp,rfl⟩:=qAJ.1 ((aV _ _).1 hz);exact(IU ((S (ix _ _ _ _ hx hs h1)).2 p (qBa.1 hp).1)).2
 |app hx hy=>
  rename_i x y s;obtain⟨ix,iy⟩:=mem2 ih;obtain⟨a,b,h1,h2,h⟩:=seq2 (r:=aj g x bs) (s:=aj g y bs) (f:=bB 54) h;have h:LV a b=(.ok v:VR):=h;unfold LV at h;have hsub:∀p∈a.kids.filter (fun p=>eD (aJ p) b),p∈a.kids:=fun p hp=>(qBa.1 hp).1
  match a.kids.filter (fun p=>eD (aJ p) b),hsub,h with
  |[p],hsub,h=>cases h;exact(IU ((S (ix _ _ _ _ hx hs h1)).2 p (hsub p (by simp)))).2
  |[],_,h=>cases h
  |p::q::r,_,h=>cases h
end
section
open Go
theorem jY{l:List Val}(h:l.Pairwise iA):sortV l=l:=(vw h fun _=>Iff.rfl).symm
theorem xE{l m:List Val}(h:∀x,x∈l↔x∈m):sortV l=sortV m:=vw (cZ l) fun x=>by rw[aV];exact h x
end
section
open Go
def dV{α β:Type}(J:β→α)(f:Nat→Option (PZ α (List Bound)))(b:List Bound):RR β→Prop
 | .ok v=>Ev f (.ok (J v))
 | .er e=>(e=10∨e=11)∧∃z,Ev f (.er e (b++z))
theorem dV.bind{α β γ δ:Type}{J:β→α}{K:γ→δ}{f:Nat→Option (PZ α (List Bound))}{b:List Bound}{r:RR β}{g:α→Nat→Option (PZ δ (List Bound))}{k:β→RR γ}(h1:dV J f b r)(h2:∀v,r=.ok v→dV K (g (J v)) b (k v)):
  dV K (fun n=>(f n).bind (PZ.el (fun x=>g x n) (fun e z=>some (.er e z)))) b (r.thn k):=by
 cases r with
 |er e=>obtain⟨he,z,hz⟩:=h1;exact⟨he,z,Ev.bind hz (Ev.ret _)⟩
 |ok v=>
  have h3:=h2 v rfl;show dV K _ b (k v);cases hk:k v with
  |ok w=>rw[hk]at h3;exact Ev.bind h1 h3
  |er e=>rw[hk]at h3;obtain⟨he,z,hz⟩:=h3;exact⟨he,z,Ev.bind h1 hz⟩
theorem dV.mono{α β:Type}{J:β→α}{f g:Nat→Option (PZ α (List Bound))}{b:List Bound}{r:RR β}(h:∀v,Ev f v→Ev g v)(h1:dV J f b r):dV J g b r:=by
 cases r with
 |ok v=>exact h _ h1
 |er e=>obtain⟨he,z,hz⟩:=h1;exact⟨he,z,h _ hz⟩
theorem dV.succ{α β:Type}{J:β→α}{f:Nat→Option (PZ α (List Bound))}{b:List Bound}{r:RR β}(h:dV J (fun n=>f (n+1)) b r):dV J f b r:=dV.mono (fun _=>Ev.succ) h
abbrev vb(b:List Bound)(v:Val):Val×List Bound:=(v,b)
theorem dV.same{f:Nat→Option (PZ (Val×List Bound) (List Bound))}{b:List Bound}{r:VR}(h:dV (vb b) f b r):dV (vb b) (fun n=>(f n).bind (PZ.el (fun x=>some (.ok (x.1,x.2))) (fun e z=>some (.er e z)))) b r:=by
 cases r with
 |ok v=>exact Ev.bind h (Ev.ret _)
 |er e=>obtain⟨he,z,hz⟩:=h;exact⟨he,z,Ev.bind hz (Ev.ret _)⟩
def Er{β:Type}(r:RR β):Prop:=∀e,r=.er e→e=10∨e=11
theorem Er.ok{β:Type}(v:β):Er (.ok v):=fun e h=>by cases h
theorem Er.e10{β:Type}:Er (.er 10:RR β):=fun e h=>by cases h;exact .inl rfl
theorem Er.e11{β:Type}:Er (.er 11:RR β):=fun e h=>by cases h;exact .inr rfl
theorem Er.cnd{β:Type}{b:Bool}{x y:RR β}(h1:Er x)(h2:Er y):Er (cond b x y):=by grind
theorem dV.pure{f:Nat→Option (PZ Val Unit)}{r:VR}{b:List Bound}(h:Ev f (pz r))(he:Er r):dV (vb b) (fun n=>(f n).bind (PZ.el (fun x=>some (.ok (x,b))) (fun e _=>some (.er e b)))) b r:=by
 cases r with
 |ok v=>exact Ev.bind h (Ev.ret _)
 |er e=>exact⟨he e rfl,[],Ev.bind h (by rw[qAt];exact Ev.ret _)⟩
theorem Er.int(n:Int):Er (gM n):=Er.cnd Er.e11 (Er.ok _)
theorem Er.bnd(l:List Val):Er (bF l):=Er.cnd Er.e11 (Er.ok _)
theorem Er.apply(op:Int)(a b:Val):Er (CG op a b):=by
 have hA:Er (LV a b):=by
  unfold LV;split
  ·exact Er.ok _
  ·exact Er.e10
 have h1:Er (match a.kids with|[]=>(.er 10:VR)|x::_=>.ok x):=by split;exact Er.e10;exact Er.ok _
 have h2:Er (match a.kids.getLast? with|none=>(.er 10:VR)|some x=>.ok x):=by split;exact Er.e10;exact Er.ok _
 have hR:Er (ai1 op a.n b.n):=Er.cnd (Er.int _) (Er.cnd (Er.int _) (Er.cnd (Er.int _) (Er.cnd (Er.int _) (Er.cnd (Er.cnd Er.e10 (Er.int _)) (Er.cnd Er.e10 (Er.int _))))));have hS:Er (sF op a b):=by
  have o:=fun l=>Er.ok (β:=List Val) l;have hr:Er (l8 op a.kids b.kids):=Er.cnd (o _) (Er.cnd Er.e11 (o _));exact Er.cnd (Er.cnd Er.e11 (o _)) (Er.cnd (o _) (Er.cnd (o _) (Er.cnd (o _) (Er.cnd (Er.cnd Er.e11 (o _)) (Er.cnd (o _) (Er.cnd (o _) (Er.cnd (o _) (Er.cnd (o _) (Er.cnd (o _) (Er.cnd (o _) (Er.cnd (Er.cnd Er.e11 (o _)) (Er.cnd (o _) (Er.cnd (o _) (Er.cnd (o _) (Er.cnd (o _) hr)))))))))))))))
 have hT:Er ((sF op a b).thn bF):=by
  cases hq:sF op a b with
  |ok l=>exact Er.bnd l
  |er e=>exact fun e' h=>by cases h;exact hS e hq
 have o:=fun v=>Er.ok (β:=Val) v;exact Er.cnd (o _) (Er.cnd (o _) (Er.cnd (o _) (Er.cnd (o _) (Er.cnd (o _) (Er.cnd (o _) (Er.cnd (o _) (Er.cnd (o _) (Er.cnd (o _) (Er.cnd hA (Er.cnd hR (Er.cnd (Er.int _) (Er.cnd h1 (Er.cnd h2 hT)))))))))))))
section
variable {cs:List Carrier}{ds:List Decl}{sz:List Int}{m:List (Str×Val)}{g:Str→Val}
def nK(cs:List Carrier)(ds:List Decl)(sz:List Int)(m:List (Str×Val))(g:Str→Val)(t:Tm)(bs:List Bound):Prop:=dV (vb bs.reverse) (fun n=>aM n cs ds sz m bs.reverse t) bs.reverse (aj g t bs)
theorem ahl{op:Int}{nm:Str}{k:Int}{u:Ty}{x y:Tm}{bs:List Bound}(ho:op=4∨op=5∨op=6)(hx:nK cs ds sz m g x bs)(hy:nK cs ds sz m g y bs):
  dV (vb bs.reverse) (fun n=>dD n cs ds sz m bs.reverse (.mk op nm k u [x,y])) bs.reverse (aj g (.mk op nm k u [x,y]) bs):=by
 rw[bG];refine dV.succ ?_;show dV _ (fun n=>tV n _ _ _ _ _ (aM n) _ _ _ _ _ _ _) _ _;unfold tV;have e:Za g op nm k ([x,y].map (nu g)) bs=(aj g x bs).thn fun p=>cond (op==4&&!(p.n==1)) (.ok (aO false)) (cond ((op==5&&p.n==1) ||(op==6&&!(p.n==1))) (.ok (aO true)) (aj g y bs)):=by
  rcases ho with rfl|rfl|rfl<;>rfl
 rw[e];refine dV.bind (K:=vb bs.reverse) (f:=fun n=>aM n cs ds sz m bs.reverse x) hx fun p _=>?_;have hs:=dV.same hy;have t1:dV (vb bs.reverse) (fun n=>((bN n false).bind fun(v:Val)=>some (.ok (v,bs.reverse)))) bs.reverse (.ok (aO false)):=Ev.bind (CQ _) (Ev.ret _);have t2:dV (vb bs.reverse) (fun n=>((bN n true).bind fun(v:Val)=>some (.ok (v,bs.reverse)))) bs.reverse (.ok (aO true)):=Ev.bind (CQ _) (Ev.ret _);rcases ho with rfl|rfl|rfl
 ·cases hp:(p.n==1)
  ·simp only[vb,hp];exact t1
  ·simp only[vb,hp];exact hs
 ·cases hp:(p.n==1)
  ·simp only[vb,hp];exact hs
  ·simp only[vb,hp];exact t2
 ·cases hp:(p.n==1)
  ·simp only[vb,hp];exact t2
  ·simp only[vb,hp];exact hs
def stB(op:Int)(x y:Val)(s:List Val×Bool×Bool):List Val×Bool×Bool:=cond (op==56) (s.1++[aG x y],s.2.1,s.2.2) (cond (y.n==1) (s.1++[x],true,s.2.2) (s.1,s.2.1,false))
def Ol(op:Int):List Val→List Val→List Val×Bool×Bool→List Val×Bool×Bool
 |x::xs,y::ys,s=>Ol op xs ys (stB op x y s)
 |_,_,s=>s
theorem atM(n:Nat)(x y:Val)(op:Int)(nm:Str)(k q:Int)(r:Str)(ts:List Ty)(ks:List Tm)(l:List Val)(so al:Bool)(hl:l.length≤1000000):tQ n x y op nm k q r ts ks l so al=some (stB op x y (l,so,al)):=by
 have h1:∀v:Val,upd (l++[Val.mk 0 0 [] []]) (l.length:Int) v=l++[v]:=fun v=>by
  unfold upd
  simp_all
 unfold tQ stB;rw[dQ (by simp;omega)];cases op==56
 ·cases y.n==1
  ·rfl
  ·simp only[cond_false,cond_true,qAb,gJ,h1]
 ·simp only[qAb,gJ,h1];rfl
theorem YS(l:List Bound)(a b:Bound):idx (l++[a]) (((l++[a]).length:Int) - 1)=some a∧upd (l++[a]) (((l++[a]).length:Int) - 1) b=l++[b]:=by
 have e:(((l++[a]).length:Int) - 1)=(l.length:Int):=by simp
 rw[e,gJ];unfold upd
 simp_all
theorem aFo(op:Int)(x y:Val)(s:List Val×Bool×Bool):(stB op x y s).1.length≤s.1.length+1:=by
 unfold stB
 grind
def ai4(cs:List Carrier)(ds:List Decl)(sz:List Int)(m:List (Str×Val))(t:Tm)(v:Val×List Bound)(n:Nat):=pq n (bJ n) (bK n) (bI n) (dw n) (dJ n) (aM n) (dD n) cs ds sz m t t.op t.name t.n t.ty.kind t.ty.name t.ty.kids t.kids v
def apv(cs:List Carrier)(ds:List Decl)(sz:List Int)(m:List (Str×Val))(t:Tm)(v:Val×List Bound)(n k:Nat):=aL (ai4 cs ds sz m t v n) k
theorem alT(cs:List Carrier)(ds:List Decl)(sz:List Int)(m:List (Str×Val))(t:Tm)(v:Val×List Bound)(n k:Nat)(s:Int×Bool×Bool×List Bound×List Val):apv cs ds sz m t v n (k+1) s=ai4 cs ds sz m t v n (apv cs ds sz m t v n k) s:=rfl
theorem ayB{op:Int}{nm:Str}{k:Int}{u:Ty}{x y:Tm}{bs:List Bound}(v:Val):∀(suf pre:List Val) (s:List Val×Bool×Bool) (w:Val),v.kids=pre++suf→s.1.length+suf.length≤1000→(∀a∈suf,nK cs ds sz m g y (⟨nm,a⟩::bs))→
  ∃N,∃z,∃lz:List Val,((∀e,fH (aj g y) nm bs suf=.er e→e=10∨e=11))∧∀n,N≤n→∀j,suf.length+1≤j→
   apv cs ds sz m (.mk op nm k u [x,y]) (v,bs.reverse) n j ((pre.length:Int),s.2.1,s.2.2,bs.reverse++[⟨nm,w⟩],s.1)
   =some (match fH (aj g y) nm bs suf with
    | .ok ys=>.nx ((Ol op suf ys s).2.1,(Ol op suf ys s).2.2,bs.reverse++[⟨nm,(suf.getLast?).getD w⟩],(Ol op suf ys s).1)
    | .er e=>.rt (.er e (bs.reverse++z,lz))):=by
 intro suf
 induction suf with
 |nil=>
  intro pre s w hp _ _;refine⟨0,[],[],(fun e h=>by cases h),fun n _ j hj=>?_⟩;obtain⟨j,rfl⟩:∃q,j=q+1:=⟨j - 1,by omega⟩;rw[alT];unfold ai4 pq;rw[decide_eq_false (by rw[hp];simp)];rfl
 |cons a suf ih=>
  intro pre s w hp hl hE;have ha:=hE a (by simp);unfold nK at ha;have hi:idx v.kids (pre.length:Int)=some a:=(bg hp).2;have hlt:=(bg hp).1;have hee:fH (aj g y) nm bs (a::suf)=match aj g y (⟨nm,a⟩::bs)with| .er e=>.er e| .ok b=>(match fH (aj g y) nm bs suf with| .er e=>.er e| .ok l=>.ok (b::l)):=by
   unfold fH;rw[qAy];cases aj g y (⟨nm,a⟩::bs)<;>rfl
  simp only[qAp]at hl;cases hr:aj g y (⟨nm,a⟩::bs)with
  |er e=>
   rw[hr]at ha;obtain⟨he,z,N,hz⟩:=ha;refine⟨N,⟨nm,a⟩::z,s.1,fun e' h=>?_,fun n hn j hj=>?_⟩
   ·rw[hee,hr]at h;cases h;exact he
   ·obtain⟨j,rfl⟩:∃q,j=q+1:=⟨j - 1,by omega⟩;have hz:aM n cs ds sz m (Bound.mk nm a::bs).reverse y=_:=hz n hn;rw[qDh,qAm]at hz;rw[alT];unfold ai4 pq;rw[hlt,hee,hr];simp only[cond_true,hi,qAb,(YS bs.reverse ⟨nm,w⟩ ⟨nm,a⟩).1,(YS bs.reverse ⟨nm,w⟩ ⟨nm,a⟩).2,Tm.kids,show idx [x,y] 1=some y from rfl];rw[hz];rfl
  |ok b=>
   rw[hr]at ha;obtain⟨N1,h1⟩:=ha;obtain⟨N2,z,lz,h2,h3⟩:=ih (pre++[a]) (stB op a b s) a (by simp[hp]) (by have:=aFo op a b s;omega) (fun c hc=>hE c (by simp[hc]));refine⟨N1+N2,z,lz,fun e h=>?_,fun n hn j hj=>?_⟩
   ·rw[hee,hr]at h;cases hq:fH (aj g y) nm bs suf with
    |ok l=>rw[hq]at h;cases h
    |er e'=>rw[hq]at h;cases h;exact h2 _ hq
   ·obtain⟨j,rfl⟩:∃q,j=q+1:=⟨j - 1,by omega⟩;have h1:aM n cs ds sz m (Bound.mk nm a::bs).reverse y=_:=h1 n (by omega);simp only[vb]at h1;rw[qDh]at h1;have h3:=h3 n (by omega) j (by simp at hj;omega);rw[alT];unfold ai4 pq;rw[hlt,hee,hr];simp only[cond_true,hi,qAb,(YS bs.reverse ⟨nm,w⟩ ⟨nm,a⟩).1,(YS bs.reverse ⟨nm,w⟩ ⟨nm,a⟩).2,Tm.kids,show idx [x,y] 1=some y from rfl,h1,PZ.el];rw[atM n _ _ _ _ _ _ _ _ _ _ _ _ (by omega)];simp only[qAb];rw[show(pre.length:Int)+1=((pre++[a]).length:Int) by simp];refine h3.trans ?_;cases hq:fH (aj g y) nm bs suf with
    |er e=>rfl
    |ok ys=>
     cases suf with
     |nil=>rfl
     |cons c suf=>rfl
end
end
section
open Go
section
variable {cs:List Carrier}{ds:List Decl}{sz:List Int}{m:List (Str×Val)}{g:Str→Val}
theorem ak0(op:Int):∀(xs ys:List Val) (s:List Val×Bool×Bool),ys.length=xs.length→Ol op xs ys s=(s.1++(xs.zip ys).flatMap (fun p=>cond (op==56) [aG p.1 p.2] (cond (p.2.n==1) [p.1] [])),cond (op==56) s.2.1 (s.2.1 ||ys.any fun y=>y.n==1),cond (op==56) s.2.2 (s.2.2&&ys.all fun y=>y.n==1))
 |[],[],s,_=>by
  obtain⟨a,b,c⟩:=s;cases hq:(op==56)<;>simp[Ol]
 |[],y::ys,s,h=>by simp at h
 |x::xs,[],s,h=>by simp at h
 |x::xs,y::ys,s,h=>by
  rw[Ol,ak0 op xs ys _ (by simpa using h)];unfold stB;obtain⟨a,b,c⟩:=s;cases hq:(op==56)<;>cases hy:(y.n==1)<;>simp[hy]
theorem alV{α:Type}(f:α→VR)(xs:List α)(ys:List Val)(h:aN (xs.map f)=.ok ys):ys.length=xs.length:=(seq_ok f xs ys h).1
theorem aAp{op:Int}{nm:Str}{k:Int}{u:Ty}{x y:Tm}{bs:List Bound}(ho:bY op=true)(hx:nK cs ds sz m g x bs)(hb:bs.length≤1000)(hl:∀v,aj g x bs=.ok v→v.kids.length≤256)(hy:∀v,aj g x bs=.ok v→∀a∈v.kids,nK cs ds sz m g y (⟨nm,a⟩::bs)):
  dV (vb bs.reverse) (fun n=>dJ n cs ds sz m bs.reverse (.mk op nm k u [x,y])) bs.reverse (aj g (.mk op nm k u [x,y]) bs):=by
 have hE:dV (fun(q:List Val×Bool×Bool)=>(bs.reverse,q.1,q.2.1,q.2.2)) (fun n=>(dw n cs ds sz m bs.reverse (.mk op nm k u [x,y]) op nm k u.kind u.name u.kids [x,y] [] false true).bind fun r=>some (match r with| .ok a=>PZ.ok a| .er e z=>.er e z.1)) bs.reverse
   ((aj g x bs).thn fun s=>(fH (aj g y) nm bs s.kids).thn fun ys=>RR.ok (Ol op s.kids ys ([],false,true))):=by
  refine dV.mono (f:=fun n=>(dw (n+1) cs ds sz m bs.reverse (.mk op nm k u [x,y]) op nm k u.kind u.name u.kids [x,y] [] false true).bind fun r=>some (match r with| .ok a=>PZ.ok a| .er e z=>.er e z.1)) (fun v h=>Ev.succ h) ?_
  show dV _ (fun n=>(zu n _ _ _ _ _ (aM n) _ _ _ _ _ _ _ _ _ _ _ _ _ _ _ _ _).bind _) _ _;unfold zu;unfold nK at hx;cases hr:aj g x bs with
  |er e=>
   rw[hr]at hx;obtain⟨he,z,hz⟩:=hx;show dV _ _ _ (RR.er e);exact⟨he,z,Ev.bind (Ev.bind (a:=x) (Ev.of fun _=>rfl) (Ev.bind hz (Ev.ret _))) (Ev.ret _)⟩
  |ok v=>
   rw[hr]at hx;obtain⟨N,z,lz,h2,h3⟩:=ayB (op:=op) (k:=k) (u:=u) (x:=x) v v.kids [] ([],false,true) v0 rfl (by have:=hl v hr;simp;omega) (hy v hr);obtain⟨N1,h1⟩:=hx;have happ:app 72 bs.reverse [Bound.mk nm (Val.mk 0 0 [] [])]=some (bs.reverse++[⟨nm,v0⟩]):=by
    unfold app;rw[if_pos ⟨by simp;omega,by simp;omega⟩];rfl
   have hw:∀n,N+N1+v.kids.length+1≤n→apv cs ds sz m (.mk op nm k u [x,y]) (v,bs.reverse) n n (0,false,true,bs.reverse++[⟨nm,v0⟩],[])=_:=fun n hn=>h3 n (by omega) n (by omega);have hfin:∀(w:Bound),((FJ (List.length (bs.reverse++[w])) (((bs.reverse++[w]).length:Int) - 1)).bind fun(x4:Nat)=>(cond (Nat.ble x4 (List.length (bs.reverse++[w]))) (some (List.take x4 (bs.reverse++[w]))) none))=some bs.reverse:=by
    intro w;unfold FJ;rw[show(((bs.reverse++[w]).length:Int) - 1)=(bs.reverse.length:Int) by simp,if_pos ⟨by omega,by simp;omega⟩,qBM];simp only[qAb];rw[show Nat.ble bs.reverse.length (bs.reverse++[w]).length=true by rw[Nat.ble_eq];simp];simp
   show dV _ (fun n=>_) _ ((fH (aj g y) nm bs v.kids).thn fun ys=>RR.ok (Ol op v.kids ys ([],false,true)));cases hq:fH (aj g y) nm bs v.kids with
   |er e=>
    show dV _ _ _ (RR.er e);refine⟨h2 e hq,z,N+N1+v.kids.length+1,fun n hn=>?_⟩;have h1:aM n cs ds sz m bs.reverse x=_:=h1 n (by omega);have h4:=hw n hn;rw[hq]at h4;change BR n _ _ _ _ _ _ _ _ _ _ _ (Tm.mk op nm k u [x,y]) op nm k u.kind u.name u.kids [x,y] _ _ _=_ at h4;simp only[Tm.kids,Tm.name,show idx [x,y] 0=some x from rfl,qAb,h1,PZ.el,vb,happ];rw[h4];rfl
   |ok ys=>
    show dV _ _ _ (RR.ok _);refine⟨N+N1+v.kids.length+1,fun n hn=>?_⟩;have h1:aM n cs ds sz m bs.reverse x=_:=h1 n (by omega);have h4:=hw n hn;rw[hq]at h4;change BR n _ _ _ _ _ _ _ _ _ _ _ (Tm.mk op nm k u [x,y]) op nm k u.kind u.name u.kids [x,y] _ _ _=_ at h4;simp only[Tm.kids,Tm.name,show idx [x,y] 0=some x from rfl,qAb,h1,PZ.el,vb,happ];rw[h4];have hf:=hfin ⟨nm,v.kids.getLast?.getD v0⟩;simp only[qAb,LR.el];unfold FJ at hf⊢;split at hf
    ·rename_i hc;rw[if_pos hc];simp only[qAb]at hf⊢;generalize Nat.ble _ _=bb at hf⊢;cases bb with
     |false=>cases hf
     |true=>simp only[cond_true,qAb]at hf⊢;rw[Option.some.inj hf]
    ·cases hf
 rw[bG];have e:Za g op nm k ([x,y].map (nu g)) bs=(aj g x bs).thn fun s=>(fH (aj g y) nm bs s.kids).thn fun ys=>nZ op s.kids ys:=by
  unfold bY at ho;simp only[qBe,beq_iff_eq]at ho;rcases ho with rfl|rfl|rfl|rfl<;>rfl
 rw[e];refine dV.succ ?_;show dV _ (fun n=>vT n _ _ _ (dw n) _ _ _ _ _ _ _ _ _) _ _;unfold vT;have key:dV (vb bs.reverse) (fun n=>((dw n cs ds sz m bs.reverse (.mk op nm k u [x,y]) op nm k u.kind u.name u.kids [x,y] [] false true).bind fun r=>some (match r with| .ok a=>PZ.ok a| .er e z=>.er e z.1)).bind (PZ.el (fun(x1:(List Bound)×(List Val)×Bool×Bool)=>(cond (op==8) ((bN n x1.2.2.2).bind fun(x2:Val)=>some (.ok (x2,x1.1))) (cond (op==9) ((bN n x1.2.2.1).bind fun(x3:Val)=>some (.ok (x3,x1.1))) ((Ab n x1.2.1).bind (PZ.el (fun(x4:Val)=>some (.ok (x4,x1.1))) (fun(e1:Int) _=>some (.er e1 x1.1))))))) (fun(e2:Int) z2=>some (.er e2 z2)))) bs.reverse
   ((aj g x bs).thn fun s=>(fH (aj g y) nm bs s.kids).thn fun ys=>nZ op s.kids ys):=by
  have e2:((aj g x bs).thn fun s=>(fH (aj g y) nm bs s.kids).thn fun ys=>nZ op s.kids ys)=((aj g x bs).thn fun s=>(fH (aj g y) nm bs s.kids).thn fun ys=>RR.ok (Ol op s.kids ys ([],false,true))).thn fun q=>cond (op==8) (.ok (aO q.2.2)) (cond (op==9) (.ok (aO q.2.1)) (bF q.1)):=by
   cases hr:aj g x bs with
   |er e=>rfl
   |ok v=>
    show(fH (aj g y) nm bs v.kids).thn _=((fH (aj g y) nm bs v.kids).thn _).thn _;cases hq:fH (aj g y) nm bs v.kids with
    |er e=>rfl
    |ok ys=>
     show nZ op v.kids ys=cond (op==8) _ _;rw[ak0 op v.kids ys _ (alV _ _ _ hq)];unfold nZ;unfold bY at ho;simp only[qBe,beq_iff_eq]at ho;rcases ho with rfl|rfl|rfl|rfl<;>rfl
  rw[e2];refine dV.bind (K:=vb bs.reverse) hE fun q hq=>?_;obtain⟨v,hv,hq⟩:=then_ok hq;obtain⟨ys,hys,hq⟩:=then_ok hq;cases hq;have hlen:(Ol op v.kids ys ([],false,true)).1.length≤256:=by
   rw[ak0 op v.kids ys _ (alV _ _ _ hys)];have:=iF (fun(p:Val×Val)=>cond (op==56) [aG p.1 p.2] (cond (p.2.n==1) [p.1] [])) 1 (v.kids.zip ys) (fun p _=>by cases op==56<;>cases p.2.n==1<;>simp);have h3:=hl v hv;have h4:(v.kids.zip ys).length≤v.kids.length:=by rw[qDt];omega
   simp only[qAo];omega
  cases op==8 with
  |true=>exact Ev.bind (CQ _) (Ev.ret _)
  |false=>
   cases op==9 with
   |true=>exact Ev.bind (CQ _) (Ev.ret _)
   |false=>exact dV.pure (aqR (show(Ol op v.kids ys ([],false,true)).1.length*56≤_ by omega)) (Er.bnd _)
 refine dV.mono (fun v h=>?_) key;obtain⟨N,h⟩:=h;refine⟨N,fun n hn=>?_⟩;rw[←h n hn];simp only[qAb,Tm.op,Tm.name,Tm.n,Tm.ty,Tm.kids];cases dw n cs ds sz m bs.reverse (.mk op nm k u [x,y]) op nm k u.kind u.name u.kids [x,y] [] false true with
 |none=>rfl
 |some r=>cases r<;>rfl
theorem ar5{σ:Type}(f:Tm→VR)(b:List Bound)(zf:Tm→List Bound):∀(ks:List Tm) (acc:List Val),∃z,fG (fun x acc=>match f x with| .ok v=>LR.nx (acc++[v])| .er e=>.rt (PZ.er (α:=σ) e (b++zf x))) (fun acc=>(acc,b)) ks acc=match aN (ks.map f)with| .ok l=>.nx (acc++l,b)| .er e=>.rt (.er e (b++z))
 |[],acc=>⟨[],by simp[fG,aN]⟩
 |x::ks,acc=>by
  rw[qAy];cases hx:f x with
  |er e=>exact⟨zf x,by simp only[fG,hx,aN]⟩
  |ok v=>
   obtain⟨z,h⟩:=ar5 f b zf ks (acc++[v]);refine⟨z,?_⟩;simp only[fG,hx,aN];rw[h];cases aN (ks.map f)with
   |er e=>rfl
   |ok l=>simp
theorem ajc{α:Type}(f:α→VR):∀(xs:List α),(∀x∈xs,Er (f x))→Er (aN (xs.map f))
 |[],_=>Er.ok _
 |x::xs,h=>by
  have h1:=h x (by simp);have h2:=ajc f xs fun y hy=>h y (by simp[hy]);intro e he;rw[qAy]at he;cases hx:f x with
  |er e'=>rw[hx]at he;cases he;exact h1 _ hx
  |ok v=>
   rw[hx]at he;unfold aN at he;cases hs:aN (xs.map f)with
   |ok l=>rw[hs]at he;cases he
   |er e'=>rw[hs]at he;cases he;exact h2 _ hs
theorem nK.er{t:Tm}{bs:List Bound}(h:nK cs ds sz m g t bs):Er (aj g t bs):=fun e he=>by
 unfold nK at h;rw[he]at h;exact h.1
def aLt(cs:List Carrier)(ds:List Decl)(sz:List Int)(m:List (Str×Val))(t:Tm)(n:Nat):=Ky n (bJ n) (bK n) (bI n) (dw n) (dJ n) (aM n) (dD n) cs ds sz m t
def axc(cs:List Carrier)(ds:List Decl)(sz:List Int)(m:List (Str×Val))(t:Tm)(n:Nat):=oH n (bJ n) (bK n) (bI n) (dw n) (dJ n) (aM n) (dD n) cs ds sz m t
theorem aAd{nm:Str}{k:Int}{u:Ty}{ks:List Tm}{bs:List Bound}(h:∀x∈ks,nK cs ds sz m g x bs)(hl:ks.length≤1000000):
  dV (vb bs.reverse) (fun n=>(aLt cs ds sz m (.mk 28 nm k u ks) n n (([]:List Val),0,bs.reverse)).bind (LR.el (fun(s6:(List Val)×(List Bound))=>((Ab n s6.1).bind (PZ.el (fun(x30:Val)=>some (.ok (x30,s6.2))) (fun(e13:Int) _=>some (.er e13 s6.2))))) (fun r=>some r))) bs.reverse ((aN (ks.map fun t=>aj g t bs)).thn bF):=by
 have hz:∀x:Tm,∃z,x∈ks→∀e,aj g x bs=.er e→Ev (fun n=>aM n cs ds sz m bs.reverse x) (.er e (bs.reverse++z)):=fun x=>by
  by_cases hx:x∈ks
  ·have h1:=h x hx;unfold nK at h1;cases hr:aj g x bs with
   |ok v=>exact⟨[],fun _ e he=>by cases he⟩
   |er e=>
    rw[hr]at h1;obtain⟨_,z,hz⟩:=h1;exact⟨z,fun _ e' he=>by cases he;exact hz⟩
  simp_all
 obtain⟨zf,hzf⟩:=qCu hz;have h1:=wI (Tm.mk 28 nm k u ks).kids (axc cs ds sz m (.mk 28 nm k u ks)) (fun i s=>(s,i,bs.reverse)) (fun x acc=>match aj g x bs with| .ok v=>LR.nx (acc++[v])| .er e=>.rt (PZ.er e (bs.reverse++zf x))) (fun acc=>(acc,bs.reverse)) (fun suf acc=>acc.length+suf.length≤1000000) (fun n rec s=>by unfold axc oH;rw[at_end];rfl) (fun pre x suf s e hI=>by
  have hx:x∈ks:=by have e:ks=_:=e;simp[e]
  have hE:=h x hx;unfold nK at hE;simp only[qAp]at hI;cases hr:aj g x bs with
  |er e'=>
   obtain⟨N,hN⟩:=hzf x hx e' hr;refine⟨⟨N,fun n hn rec=>?_⟩,fun s' hs=>by cases hs⟩;have hN:aM n cs ds sz m bs.reverse x=_:=hN n hn;unfold axc oH;rw[(bg e).1];simp only[cond_true,(bg e).2,qAb,hN,PZ.el]
  |ok v=>
   rw[hr]at hE;obtain⟨N,hN⟩:=hE;refine⟨⟨N,fun n hn rec=>?_⟩,fun s' hs=>by cases hs;simp;omega⟩;have hN:aM n cs ds sz m bs.reverse x=_:=hN n hn;unfold axc oH;rw[(bg e).1];simp only[cond_true,(bg e).2,qAb,hN,PZ.el,vb];rw[dQ (by simp;omega)];rfl) (s0:=[]) (qAs (qBm (qAL _)) hl)
 obtain⟨z,hrun⟩:=ar5 (σ:=Val×List Bound) (fun t=>aj g t bs) bs.reverse zf ks [];have h1:=Ev.eq h1 hrun;cases hs:aN (ks.map fun t=>aj g t bs)with
 |er e=>
  rw[hs]at h1;exact⟨ajc _ ks (fun x hx=>(h x hx).er) e hs,z,Ev.bind h1 (Ev.ret _)⟩
 |ok l=>
  rw[hs]at h1;have hll:=alV _ _ _ hs;refine dV.mono (fun v hv=>Ev.bind h1 hv) ?_;exact dV.pure (aqR (by simp only[qAo];omega)) (Er.bnd _)
end
end
section
open Go
section
variable {cs:List Carrier}{ds:List Decl}{sz:List Int}{m:List (Str×Val)}{g:Str→Val}
abbrev LSt:Type:=Int×Int×Int×Str×List Val×Int×Int×Str×List Val×List Bound
def Lx(cs:List Carrier)(ds:List Decl)(sz:List Int)(m:List (Str×Val))(t:Tm)(n:Nat):=gN n (bJ n) (bK n) (bI n) (dw n) (dJ n) (aM n) (dD n) cs ds sz m t
def LB(cs:List Carrier)(ds:List Decl)(sz:List Int)(m:List (Str×Val))(t:Tm)(n k:Nat):=aL (Lx cs ds sz m t n) k
theorem Qx(t:Tm)(n k:Nat)(s:LSt):LB cs ds sz m t n (k+1) s=Lx cs ds sz m t n (LB cs ds sz m t n k) s:=rfl
abbrev asw(op:Int)(n:Nat):LR (Int×Int×Str×(List Val)×Int×Int×Str×(List Val)×(List Bound)) (PZ (Val×(List Bound)) (List Bound))→Option (PZ (Val×(List Bound)) (List Bound)):=LR.el (fun(s8:Int×Int×Str×(List Val)×Int×Int×Str×(List Val)×(List Bound))=>((oz n op (Val.mk s8.1 s8.2.1 s8.2.2.1 s8.2.2.2.1) (Val.mk s8.2.2.2.2.1 s8.2.2.2.2.2.1 s8.2.2.2.2.2.2.1 s8.2.2.2.2.2.2.2.1)).bind (PZ.el (fun(x34:Val)=>some (.ok (x34,s8.2.2.2.2.2.2.2.2))) (fun(e15:Int) _=>some (.er e15 s8.2.2.2.2.2.2.2.2))))) (fun r=>some r)
theorem alv(v:Val):Val.mk v.kind v.n v.name v.kids=v:=by cases v;rfl
theorem aGd{op:Int}{nm:Str}{k:Int}{u:Ty}{x:Tm}{bs:List Bound}(hop:(op==28)=false)(hx:nK cs ds sz m g x bs)(hA:∀a,aj g x bs=.ok a→Ev (fun n=>oz n op a v0) (pz (CG op a v0))):
  dV (vb bs.reverse) (fun n=>(LB cs ds sz m (.mk op nm k u [x]) n n (0,0,0,([]:Str),([]:List Val),0,0,([]:Str),([]:List Val),bs.reverse)).bind (asw op n)) bs.reverse ((aN [aj g x bs]).thn (bB op)):=by
 unfold nK at hx;cases hr:aj g x bs with
 |er e=>
  rw[hr]at hx;obtain⟨he,z,N,hz⟩:=hx;refine⟨he,z,N+2,fun n hn=>?_⟩;have hz:aM n cs ds sz m bs.reverse x=_:=hz n (by omega);obtain⟨j,rfl⟩:∃j,n=j+2:=⟨n - 2,by omega⟩;dsimp only;rw[Qx];unfold Lx gN;simp only[Tm.kids,show idx [x] 0=some x from rfl,qAb,hz]<;>rfl
 |ok a=>
  rw[hr]at hx;obtain⟨N,h1⟩:=hx;have hA:=hA a hr;have e:(aN [(.ok a:VR)]).thn (bB op)=CG op a v0:=by
   unfold bB;rw[hop];rfl
  rw[e];refine dV.mono (f:=fun n=>(oz n op a v0).bind (PZ.el (fun(x34:Val)=>some (.ok (x34,bs.reverse))) (fun(e15:Int) _=>some (.er e15 bs.reverse)))) (fun v hv=>?_) (dV.pure hA (Er.apply op a v0));obtain⟨M,hM⟩:=hv;refine⟨N+M+2,fun n hn=>?_⟩;rw[←hM n (by omega)];have h1:aM n cs ds sz m bs.reverse x=_:=h1 n (by omega);have hj:n=(n - 2)+1+1:=by omega
  have hl:LB cs ds sz m (.mk op nm k u [x]) n n (0,0,0,([]:Str),([]:List Val),0,0,([]:Str),([]:List Val),bs.reverse)=some (.nx (a.kind,a.n,a.name,a.kids,0,0,[],[],bs.reverse)):=by
   conv=>lhs;arg 7;rw[hj]
   rw[Qx];unfold Lx gN;simp only[Tm.kids,cond_true,show idx [x] 0=some x from rfl,qAb,h1,PZ.el,LR.el,show((0:Int)==0)=true from rfl];rw[show ∀s,LB cs ds sz m (.mk op nm k u [x]) n (n - 2+1) s=Lx cs ds sz m (.mk op nm k u [x]) n (LB cs ds sz m (.mk op nm k u [x]) n (n - 2)) s from fun s=>Qx _ _ _ s];rfl
  simp only[hl,qAb,asw,LR.el,alv];rfl
theorem aGG{op:Int}{nm:Str}{k:Int}{u:Ty}{x y:Tm}{bs:List Bound}(hop:(op==28)=false)(hx:nK cs ds sz m g x bs)(hy:nK cs ds sz m g y bs)(hA:∀a b,aj g x bs=.ok a→aj g y bs=.ok b→Ev (fun n=>oz n op a b) (pz (CG op a b))):
  dV (vb bs.reverse) (fun n=>(LB cs ds sz m (.mk op nm k u [x,y]) n n (0,0,0,([]:Str),([]:List Val),0,0,([]:Str),([]:List Val),bs.reverse)).bind (asw op n)) bs.reverse ((aN [aj g x bs,aj g y bs]).thn (bB op)):=by
 unfold nK at hx hy;have e1:decide ((0:Int)<([x,y].length:Int))=true:=rfl;have e2:decide ((0:Int)+1<([x,y].length:Int))=true:=rfl;have e3:decide ((0:Int)+1+1<([x,y].length:Int))=false:=rfl;cases hr:aj g x bs with
 |er e=>
  rw[hr]at hx;obtain⟨he,z,N,hz⟩:=hx;show dV _ _ _ (RR.er e);refine⟨he,z,N+2,fun n hn=>?_⟩;have hz:aM n cs ds sz m bs.reverse x=_:=hz n (by omega);obtain⟨j,rfl⟩:∃j,n=j+2:=⟨n - 2,by omega⟩;dsimp only;rw[Qx];unfold Lx gN;simp only[Tm.kids,e1,cond_true,show idx [x,y] 0=some x from rfl,qAb,hz,PZ.el,LR.el]<;>rfl
 |ok a=>
  rw[hr]at hx;obtain⟨N,h1⟩:=hx;cases hq:aj g y bs with
  |er e=>
   rw[hq]at hy;obtain⟨he,z,M,hz⟩:=hy;show dV _ _ _ (RR.er e);refine⟨he,z,N+M+3,fun n hn=>?_⟩;have h1:aM n cs ds sz m bs.reverse x=_:=h1 n (by omega);have hz:aM n cs ds sz m bs.reverse y=_:=hz n (by omega);have hj:n=(n - 2)+1+1:=by omega
   dsimp only;rw[show LB cs ds sz m (.mk op nm k u [x,y]) n n (0,0,0,([]:Str),([]:List Val),0,0,([]:Str),([]:List Val),bs.reverse)=some (.rt (.er e (bs.reverse++z))) by
    conv=>lhs;arg 7;rw[hj]
    rw[Qx];unfold Lx gN;simp only[Tm.kids,e1,cond_true,show idx [x,y] 0=some x from rfl,qAb,h1,PZ.el,LR.el,vb,show((0:Int)==0)=true from rfl];rw[show ∀s,LB cs ds sz m (.mk op nm k u [x,y]) n (n - 2+1) s=Lx cs ds sz m (.mk op nm k u [x,y]) n (LB cs ds sz m (.mk op nm k u [x,y]) n (n - 2)) s from fun s=>Qx _ _ _ s];unfold Lx gN;simp only[Tm.kids,e2,cond_true,show idx [x,y] (0+1)=some y from rfl,qAb,hz,PZ.el,LR.el];rfl]
   rfl
  |ok b=>
   rw[hq]at hy;obtain⟨M,h2⟩:=hy;have hA:=hA a b hr hq;have e:(aN [(.ok a:VR),.ok b]).thn (bB op)=CG op a b:=by
    show bB op [a,b]=_;unfold bB;rw[hop];rfl
   rw[e];refine dV.mono (f:=fun n=>(oz n op a b).bind (PZ.el (fun(x34:Val)=>some (.ok (x34,bs.reverse))) (fun(e15:Int) _=>some (.er e15 bs.reverse)))) (fun v hv=>?_) (dV.pure hA (Er.apply op a b));obtain⟨L,hL⟩:=hv;refine⟨N+M+L+3,fun n hn=>?_⟩;rw[←hL n (by omega)];have h1:aM n cs ds sz m bs.reverse x=_:=h1 n (by omega);have h2:aM n cs ds sz m bs.reverse y=_:=h2 n (by omega);have hj:n=(n - 3)+1+1+1:=by omega
   have hs:∀j s,LB cs ds sz m (.mk op nm k u [x,y]) n (j+1) s=Lx cs ds sz m (.mk op nm k u [x,y]) n (LB cs ds sz m (.mk op nm k u [x,y]) n j) s:=fun j s=>Qx _ _ _ s;have hl:LB cs ds sz m (.mk op nm k u [x,y]) n n (0,0,0,([]:Str),([]:List Val),0,0,([]:Str),([]:List Val),bs.reverse)=some (.nx (a.kind,a.n,a.name,a.kids,b.kind,b.n,b.name,b.kids,bs.reverse)):=by
    conv=>lhs;arg 7;rw[hj]
    rw[hs];unfold Lx gN;simp only[Tm.kids,e1,cond_true,show idx [x,y] 0=some x from rfl,qAb,h1,PZ.el,LR.el,vb,show((0:Int)==0)=true from rfl];rw[hs];unfold Lx gN;simp only[Tm.kids,e2,cond_true,cond_false,show idx [x,y] (0+1)=some y from rfl,qAb,h2,PZ.el,LR.el,vb,show((0:Int)+1==0)=false from rfl,show((0:Int)+1==1)=true from rfl];rw[hs];unfold Lx gN;rfl
   simp only[hl,qAb,asw,LR.el,alv]
theorem YI(n:Nat)(op:Int):yV n op=some (iO op):=by
 unfold yV iO
 grind
theorem avN(p:Val→Bool)(l:List Val):(((l.filter p).length:Int)==(l.length:Int))=l.all p:=by
 rw[qCe,beq_iff_eq,qAP,Int.natCast_inj,List.length_filter_eq_length_iff]
theorem aJc{y:Tm}{bs:List Bound}(hs:iO y.op=false)(hy:nK cs ds sz m g y bs):dV (fun l:List Val=>((l.headD v0).kids,bs.reverse)) (fun n=>bI n cs ds sz m bs.reverse y) bs.reverse (aN [aj g y bs]):=by
 refine dV.succ ?_;show dV _ (fun n=>rR n _ _ _ _ _ (aM n) _ _ _ _ _ _ _) _ _;unfold rR;simp only[YI,hs,qAb];unfold nK at hy;cases hr:aj g y bs with
 |er e=>rw[hr]at hy;obtain⟨he,z,hz⟩:=hy;exact⟨he,z,Ev.bind hz (Ev.ret _)⟩
 |ok v=>rw[hr]at hy;exact Ev.bind hy (Ev.ret _)
theorem aJB{nm:Str}{k:Int}{u:Ty}{z:Tm}{bs:List Bound}(hz:nK cs ds sz m g z bs):dV (fun l:List Val=>((l.headD v0).kids,bs.reverse)) (fun n=>bK n cs ds sz m bs.reverse (.mk 46 nm k u [z])) bs.reverse (aN [aj g z bs]):=by
 refine dV.succ ?_;show dV _ (fun n=>q9 n _ _ _ _ _ (aM n) _ _ _ _ _ _ _) _ _;unfold q9;simp only[YI,qAb];unfold nK at hz;cases hr:aj g z bs with
 |er e=>rw[hr]at hz;obtain⟨he,w,hw⟩:=hz;exact⟨he,w,Ev.bind hw (Ev.ret _)⟩
 |ok v=>rw[hr]at hz;exact Ev.bind hz (Ev.ret _)
theorem aJy{op:Int}{nm:Str}{k:Int}{u:Ty}{z w:Tm}{bs:List Bound}(ho:op=41∨op=42∨op=43∨op=44∨op=45)(hz:nK cs ds sz m g z bs)(hw:nK cs ds sz m g w bs):
  dV (fun l:List Val=>(op,nm,k,u.kind,u.name,u.kids,[z,w],(l.headD v0).kids,((l.drop 1).headD v0).kids,bs.reverse)) (fun n=>bJ n cs ds sz m bs.reverse (.mk op nm k u [z,w])) bs.reverse (aN [aj g z bs,aj g w bs]):=by
 refine dV.succ ?_;show dV _ (fun n=>rH n _ _ _ _ _ (aM n) _ _ _ _ _ _ _) _ _;unfold rH;have hs:iO op=true∧(op==46)=false:=by rcases ho with rfl|rfl|rfl|rfl|rfl<;>exact⟨rfl,rfl⟩
 simp only[YI,Tm.op,hs.1,hs.2];have e:aN [aj g z bs,aj g w bs]=(aj g z bs).thn fun a=>(aj g w bs).thn fun b=>RR.ok [a,b]:=by
  cases aj g z bs<;>cases aj g w bs<;>rfl
 rw[e];exact dV.bind hz fun a _=>dV.bind hw fun b _=>Ev.ret _
theorem aGw{env:Env}(hg:Xp env sz g){op:Int}{sc:List Decl}{t:Ty}{y:Tm}{bs:List Bound}(ho:op=16∨op=17∨op=18)(hs:Scp env sz sc bs)(hy:HT env sc y (au t))(hE:nK cs ds sz m g y bs)(hK:∀z∈y.kids,iO y.op=true→nK cs ds sz m g z bs)(a:Val)
  (ha:hasB env sz (cond (op==18) (au t) t) a=true) (la:a.kids.length≤256):
  dV (vb bs.reverse) (fun n=>cond (op==18)
    ((cond (decide (y.op<41) ||decide (46<y.op)) ((bI n cs ds sz m bs.reverse y).bind (PZ.el (fun(x21:(List Val)×(List Bound))=>((Gf n a.kids x21.1).bind fun(x22:List Val)=>((bN n ((x22.length:Int)==(a.kids.length:Int))).bind fun(x23:Val)=>some (.ok (x23,x21.2))))) (fun(e9:Int) z9=>some (.er e9 z9)))) (cond (y.op==46) ((bK n cs ds sz m bs.reverse y).bind (PZ.el (fun(x24:(List Val)×(List Bound))=>((Gq n a.kids x24.1).bind fun(x25:List Val)=>((bN n ((x25.length:Int)==(a.kids.length:Int))).bind fun(x26:Val)=>some (.ok (x26,x24.2))))) (fun(e10:Int) z10=>some (.er e10 z10)))) ((bJ n cs ds sz m bs.reverse y).bind (PZ.el (fun(x27:Int×Str×Int×Int×Str×(List Ty)×(List Tm)×(List Val)×(List Val)×(List Bound))=>((Gr n a.kids x27.1 x27.2.1 x27.2.2.1 x27.2.2.2.1 x27.2.2.2.2.1 x27.2.2.2.2.2.1 x27.2.2.2.2.2.2.1 x27.2.2.2.2.2.2.2.1 x27.2.2.2.2.2.2.2.2.1).bind fun(x28:List Val)=>((bN n ((x28.length:Int)==(a.kids.length:Int))).bind fun(x29:Val)=>some (.ok (x29,x27.2.2.2.2.2.2.2.2.2))))) (fun(e11:Int) z11=>some (.er e11 z11)))))))
    ((cond (decide (y.op<41) ||decide (46<y.op)) ((bI n cs ds sz m bs.reverse y).bind (PZ.el (fun(x9:(List Val)×(List Bound))=>((jM n a x9.1).bind fun(x10:Bool)=>((bN n (x10==(op==16))).bind fun(x11:Val)=>some (.ok (x11,x9.2))))) (fun(e5:Int) z5=>some (.er e5 z5)))) (cond (y.op==46) ((bK n cs ds sz m bs.reverse y).bind (PZ.el (fun(x12:(List Val)×(List Bound))=>((jP n a x12.1).bind fun(x13:Bool)=>((bN n (x13==(op==16))).bind fun(x14:Val)=>some (.ok (x14,x12.2))))) (fun(e6:Int) z6=>some (.er e6 z6)))) ((bJ n cs ds sz m bs.reverse y).bind (PZ.el (fun(x15:Int×Str×Int×Int×Str×(List Ty)×(List Tm)×(List Val)×(List Val)×(List Bound))=>((lF n a x15.1 x15.2.1 x15.2.2.1 x15.2.2.2.1 x15.2.2.2.2.1 x15.2.2.2.2.2.1 x15.2.2.2.2.2.2.1 x15.2.2.2.2.2.2.2.1 x15.2.2.2.2.2.2.2.2.1).bind fun(x16:Bool)=>((bN n (x16==(op==16))).bind fun(x17:Val)=>some (.ok (x17,x15.2.2.2.2.2.2.2.2.2))))) (fun(e7:Int) z7=>some (.er e7 z7))))))))
   bs.reverse (X9 op (nu g y) bs a):=by
 -- what a test makes of one value, or of a set
 have fin:∀{α:Type} {J:List Val→α} {f:Nat→Option (PZ α (List Bound))} {r:xU} {F:Nat→α→List Val→Option (List Val)} {D:Nat→Val→α→Option Bool} {B:α→List Bound},
   dV J f bs.reverse r→(∀l,B (J l)=bs.reverse)→(∀l,r=.ok l→∀x,hasB env sz t x=true→Ev (fun n=>D n x (J l)) (iB y.op l x))→(∀l,r=.ok l→op=18→Ev (fun n=>F n (J l) a.kids) (a.kids.filter (iB y.op l)))→
   dV (vb bs.reverse) (fun n=>cond (op==18) ((f n).bind (PZ.el (fun x=>((F n x a.kids).bind fun(q:List Val)=>((bN n ((q.length:Int)==(a.kids.length:Int))).bind fun(v:Val)=>some (.ok (v,B x))))) (fun e z=>some (.er e z))))
    ((f n).bind (PZ.el (fun x=>((D n a x).bind fun(q:Bool)=>((bN n (q==(op==16))).bind fun(v:Val)=>some (.ok (v,B x))))) (fun e z=>some (.er e z))))) bs.reverse
    (r.thn fun l=>.ok (aO (cond (op==18) (a.kids.all (iB y.op l)) (iB y.op l a==(op==16))))):=by
  intro α J f r F D B hf hB hD hF;cases h18:(op==18)with
  |true=>
   refine dV.bind hf fun l hl=>?_;have h1:=hF l hl (eq_of_beq h18);show Ev _ _;rw[cond_true,←avN,show vb bs.reverse _=(aO (((a.kids.filter (iB y.op l)).length:Int)==(a.kids.length:Int)),B (J l)) by rw[hB]];exact Ev.bind h1 (Ev.bind (CQ _) (Ev.ret _))
  |false=>
   rw[h18]at ha;refine dV.bind hf fun l hl=>?_;have h1:=hD l hl a ha;show Ev _ _;rw[cond_false,show vb bs.reverse _=(aO (iB y.op l a==(op==16)),B (J l)) by rw[hB]];exact Ev.bind h1 (Ev.bind (CQ _) (Ev.ret _))
 have hkids:op=18→∀x∈a.kids,hasB env sz t x=true:=fun h=>by
  subst h;obtain⟨l,rfl,_,h2⟩:=iV.1 ha;exact h2
 have S:∀{e:Ty} {w:Val},hasB env sz (au e) w=true→dO w.kids∧∀x∈w.kids,hasB env sz e x=true:=fun hw=>by
  obtain⟨l,rfl,h1,h2⟩:=iV.1 hw;exact⟨h1,h2⟩
 have la':a.kids.length≤1000000:=by omega
 have hsym:(decide (y.op<41) ||decide (46<y.op))=!(iO y.op):=by
  unfold iO
  grind
 rw[hsym];unfold X9 vv;show dV _ _ _ ((cond (iO y.op) (aN ((y.kids.map (aj g)).map fun g=>g bs)) (aN [aj g y bs])).thn _);by_cases hsy:iO y.op=true
 ·rw[hsy];cases hy with
  |fam q hq hz hw=>
   rename_i nm k u z w c d;have iz:=hK z (by simp[Tm.kids]) hsy;have iw:=hK w (by simp[Tm.kids]) hsy;have h46:(q==46)=false:=by rcases hq with rfl|rfl|rfl|rfl|rfl<;>rfl
   simp only[Tm.op,h46,cond_true,cond_false,qAv];have hT:∀l,aN [aj g z bs,aj g w bs]=.ok l→∃p r,l=[p,r]∧dO p.kids∧dO r.kids:=fun l hl=>by
    obtain⟨p,r,h1,h2,h3⟩:=seq2 (f:=fun l=>(RR.ok (mkSet l):VR)) (v:=mkSet l) (by rw[hl];rfl);cases h3;exact⟨p,r,rfl,(S (sound hg z sc _ bs p hz hs h1)).1,(S (sound hg w sc _ bs r hw hs h2)).1⟩
   have hD:∀l,aN [aj g z bs,aj g w bs]=.ok l→∀x,hasB env sz (au (aR c d)) x=true→Ev (fun n=>wu n q (l.headD v0).kids ((l.drop 1).headD v0).kids x.kids) (iB q l x):=fun l hl x hx=>by
    obtain⟨p,r,rfl,h1,h2⟩:=hT l hl;obtain⟨h3,h4⟩:=S hx;unfold iB;rw[show iO q=true from hsy,h46];exact ae6 q h1.1 h2.1 (Ap h1) (Ap h2) (fun v hv=>by
     obtain⟨s,t,rfl,_,_⟩:=qJ.1 (h4 v hv);exact⟨s,t,rfl⟩) (Ap h3)
   have h:=fin (α:=Int×Str×Int×Int×Str×(List Ty)×(List Tm)×(List Val)×(List Val)×(List Bound)) (F:=fun n x l=>Gr n l x.1 x.2.1 x.2.2.1 x.2.2.2.1 x.2.2.2.2.1 x.2.2.2.2.2.1 x.2.2.2.2.2.2.1 x.2.2.2.2.2.2.2.1 x.2.2.2.2.2.2.2.2.1) (D:=fun n v x=>lF n v x.1 x.2.1 x.2.2.1 x.2.2.2.1 x.2.2.2.2.1 x.2.2.2.2.2.1 x.2.2.2.2.2.2.1 x.2.2.2.2.2.2.2.1 x.2.2.2.2.2.2.2.2.1) (B:=fun x=>x.2.2.2.2.2.2.2.2.2) (aJy (nm:=nm) (k:=k) (u:=u) hq iz iw) (fun l=>rfl)
    (fun l hl x hx=>Ev.same (hD l hl x hx))
    (fun l hl h18=>D5 a.kids (fun n x=>lF n x q nm k u.kind u.name u.kids [z,w] (l.headD v0).kids ((l.drop 1).headD v0).kids) _ (fun x hx=>Ev.same (hD l hl x (hkids h18 x hx))) la')
   exact h
  |pow hz=>
   rename_i nm k u z c;have iz:=hK z (by simp[Tm.kids]) hsy;simp only[Tm.op,show((46:Int)==46)=true from rfl,cond_true,cond_false,qAv];have hD:∀l,aN [aj g z bs]=.ok l→∀x,hasB env sz (au c) x=true→Ev (fun n=>jP n x (l.headD v0).kids) (iB 46 l x):=fun l hl x hx=>by
    obtain⟨p,h1,h3⟩:=seq1 (f:=fun l=>(RR.ok (mkSet l):VR)) (v:=mkSet l) (by rw[hl];rfl);cases h3;have hp:=(S (sound hg z sc _ bs p hz hs h1)).1;have hx:=(S hx).1;show Ev _ (x.kids.all (aF p.kids));rw[←avN];exact Ev.bind (D5 x.kids (fun n v=>vO n v p.kids) (aF p.kids) (fun v _=>hp.has v) (Ap hx)) (Ev.ret _)
   have h:=fin (α:=List Val×List Bound) (F:=fun n x l=>Gq n l x.1) (D:=fun n v x=>jP n v x.1) (B:=fun x=>x.2) (aJB (nm:=nm) (k:=k) (u:=u) iz) (fun l=>rfl) hD
    (fun l hl h18=>D5 a.kids (fun n x=>jP n x (l.headD v0).kids) _ (fun x hx=>hD l hl x (hkids h18 x hx)) la')
   exact h
  |bin q hq=>rcases hq with rfl|rfl|rfl<;>cases hsy
  |dres q hq=>rcases hq with rfl|rfl<;>cases hsy
  |rres q hq=>rcases hq with rfl|rfl<;>cases hsy
  |_=>cases hsy
 ·rw[qDp]at hsy;rw[hsy];simp only[cond_true,cond_false,qBb];have hD:∀l,aN [aj g y bs]=.ok l→∀x:Val,Ev (fun n=>jM n x (l.headD v0).kids) (iB y.op l x):=fun l hl x=>by
   obtain⟨p,h1,h3⟩:=seq1 (f:=fun l=>(RR.ok (mkSet l):VR)) (v:=mkSet l) (by rw[hl];rfl);cases h3;have hp:=(S (sound hg y sc _ bs p hy hs h1)).1;unfold iB;rw[hsy];exact hp.has x
  have h:=fin (α:=List Val×List Bound) (F:=fun n x l=>Gf n l x.1) (D:=fun n v x=>jM n v x.1) (B:=fun x=>x.2) (aJc hsy hE) (fun l=>rfl) (fun l hl x _=>hD l hl x)
   (fun l hl h18=>D5 a.kids (fun n x=>jM n x (l.headD v0).kids) _ (fun x hx=>hD l hl x) la')
  exact h
end
end
end Abs
end Go.Proofs.YthgdaonechbgmaaGreat
