/-
  Sizes of carriers; that a value has a type. Conditions: none; lemmas without a program.
-/
import Derived.Test.YtneeginmfjageaaGreatCW2ox383edf
set_option linter.unusedSimpArgs false
set_option linter.unusedVariables false
namespace Go.Proofs.YtneeginmfjageaaGreat
namespace Abs
section
open Go
theorem GQ(n:Nat)(qbz:Env→(List Int)→Val→Ty→Option Bool)(qb0:(List Ty)→Int→Int→Str→(List Val)→(List Carrier)→(List Decl)→(List Int)→Option Bool)(p0:List Ty)(p4:List Val)(p5:List Carrier)(p6:List Decl)(p7:List Int)(k:Nat)(s:Int):ze n qbz qb0 p0 p4 p5 p6 p7 (k+1) s=xw n qbz qb0 p0 p4 p5 p6 p7 (ze n qbz qb0 p0 p4 p5 p6 p7 k) s:=rfl
theorem LA(n:Nat)(qbz:Env→(List Int)→Val→Ty→Option Bool)(qb0:(List Ty)→Int→Int→Str→(List Val)→(List Carrier)→(List Decl)→(List Int)→Option Bool)(p2:Val)(k:Nat)(s:Int):DX n qbz qb0 p2 (k+1) s=Bq n qbz qb0 p2 (DX n qbz qb0 p2 k) s:=rfl
theorem Lh(n:Nat)(p0:Env)(p1:List Int)(k:Nat)(s:Int):yH n p0 p1 (k+1) s=wz n p0 p1 (yH n p0 p1 k) s:=rfl
theorem anl(c:Carrier)(l:List Int)(i:Int)(s:Int)(h:idx l i=some s):(((idx l i).bind fun(x2:Int)=>(cond (decide (x2<1)) (some true) ((idx l i).bind fun(x3:Int)=>(cond (decide (8<x3)) (some true) (cond (decide (0<(c.elems.length:Int))) ((idx l i).bind fun(x4:Int)=>some (x4 !=(c.elems.length:Int))) (some false)))))):Option Bool)=some (YZ c s):=by
 rw[h];simp only[qAb,YZ];cases decide (s<1)<;>cases decide (8<s)<;>cases decide (0<(c.elems.length:Int))<;>rfl
theorem an5(n:Nat)(nm:List Decl):∀(cs:List Carrier) (ss:List Int) (pc:List Carrier) (ps:List Int),pc.length=ps.length→cs.length=ss.length→∀k,cs.length+1≤k→yH n ⟨pc++cs,nm⟩ (ps++ss) k (pc.length:Int)=some (cond (Gz cs ss) (.nx ()) (.rt false))
 | [],ss,pc,ps,hp,hl,k,hk=>by
  obtain⟨j,rfl⟩:∃j,k=j+1:=⟨k - 1,by simp at hk;omega⟩;rw[Lh];unfold wz;rw[decide_eq_false (by simp)];rfl
 | c::cs,[],pc,ps,hp,hl,k,hk=>by simp at hl
 | c::cs,s::ss,pc,ps,hp,hl,k,hk=>by
  obtain⟨j,rfl⟩:∃j,k=j+1:=⟨k - 1,by simp at hk;omega⟩;have hi:idx (ps++s::ss) (pc.length:Int)=some s:=by rw[hp];exact gF _ _ _
  have ih:=an5 n nm cs ss (pc++[c]) (ps++[s]) (by simp[hp]) (by simpa using hl) j (by simp at hk;omega);rw[Lh];unfold wz;rw[decide_eq_true (by simp;omega)];simp only[cond_true];rw[gF];simp only[qAb];rw[anl c _ _ s hi];simp only[qAb,Gz];cases hb:YZ c s with
  | true=>rfl
  | false=>
   simp only[cond_false,qBe,qAz];rw[show(pc.length:Int)+1=((pc++[c]).length:Int) by simp];simpa using ih
theorem aqf(env:Env)(sz:List Int):Ev (fun n=>zh n env sz) (rQ env sz):=by
 unfold zh rQ;cases h:((sz.length:Int)!=(env.carriers.length:Int)) with
 | true=>exact Ev.ret _
 | false=>
  simp only[bne_eq_false_iff_eq] at h;simp only[cond_false,qBe,qAz];refine Ev.bind (a:=cond (Gz env.carriers sz) (.nx ()) (.rt false)) ⟨env.carriers.length+1,fun n hn=>?_⟩ ?_
  ·have:=an5 n env.names env.carriers sz [] [] rfl (by omega) n hn;simpa using this
  ·cases Gz env.carriers sz<;>exact Ev.ret _
inductive Shp:Ty→Prop where
 | int:Shp (.mk 1 [] [])
 | bool:Shp (.mk 2 [] [])
 | car (nm:Str):Shp (.mk 3 nm [])
 | pair {a b:Ty} (h:Shp a) (k:Shp b):Shp (.mk 4 [] [a,b])
 | set {a:Ty} (h:Shp a):Shp (.mk 5 [] [a])
mutual
theorem axv:∀(t:Ty) (d c:Int),(pf t d c).1=true→Shp t
 | .mk k nm ks,d,c,h=>by
  simp only[pf] at h;cases hb:((decide (c+1≤16)&&decide (d≤6))&&iX k nm ks.length d) with
  | false=>rw[hb] at h;cases h
  | true=>
   rw[hb] at h;simp only[cond_true] at h;have hs:=ar1 ks (d+1) (c+1) h;simp only[iX,qAa,qAZ,beq_iff_eq] at hb;obtain⟨_,_,hk,hn⟩:=hb;rcases hk with⟨hk,hl⟩ | ⟨rfl,hl⟩ | ⟨rfl,hl⟩
   ·have:ks=[]:=qAw.1 hl;subst this;rcases hk with rfl | rfl | rfl
    ·have:nm=[]:=by simpa using hn
     subst this;exact .int
    ·have:nm=[]:=by simpa using hn
     subst this;exact .bool
    ·exact .car nm
   ·have:nm=[]:=by simpa using hn
    subst this
    match ks,hl with
    | [a,b],_=>exact .pair (hs a (by simp)) (hs b (by simp))
   ·have:nm=[]:=by simpa using hn
    subst this
    match ks,hl with
    | [a],_=>exact .set (hs a (by simp))
theorem ar1:∀(ks:List Ty) (d c:Int),(nP ks d c).1=true→∀t∈ks,Shp t
 | [],_,_,_,_,ht=>by cases ht
 | k::ks,d,c,h,t,ht=>by
  simp only[nP] at h;cases h1:(pf k d c).1 with
  | false=>rw[h1] at h;cases h
  | true=>
   rw[h1] at h;simp only[cond_true] at h;rcases qAg.1 ht with h2 | ht
   ·have h3:=axv k d c h1;rw[h2];exact h3
   ·exact ar1 ks d _ h t ht
end
theorem agK{t:Ty}(h:eG t=true):Shp t:=axv t 1 0 h
theorem ayG(env:Env)(s:Str):Ev (fun n=>GK n env s) (gI (fun c=>c.name==s) 0 env.carriers):=by
 unfold GK pK;refine Ev.bind (vI env.carriers (fun n k i=>uV n env.carriers s k i) (fun _ x=>some (x.name==s)) (fun c=>c.name==s) (fun n k i=>rfl) (fun x _=>Ev.ret _)) (Ev.ret _)
theorem arO{env:Env}{sz:List Int}{nm:Str}(hl:sz.length=env.carriers.length)(h:bV env nm=true):0≤gI (fun c=>c.name==nm) 0 env.carriers∧idx sz (gI (fun c=>c.name==nm) 0 env.carriers)=some (ahT env sz nm):=by
 have hg:=vQ (fun c:Carrier=>c.name==nm) env.carriers 0 (qBP _);have hany:env.carriers.any (fun c=>c.name==nm)=true:=h;rw[hany] at hg;have h0:0≤gI (fun c:Carrier=>c.name==nm) 0 env.carriers:=by simpa using hg
 refine⟨h0,?_⟩;rcases EW (fun c:Carrier=>c.name==nm) env.carriers [] with⟨x,_,_,g1,g2⟩ | ⟨_,g⟩
 ·simp only[qAK,qAt] at g1 g2;unfold ahT;unfold idx at g2⊢;rw[show(((0:Nat):Int))=0 from rfl] at g2;rw[if_pos h0] at g2⊢;have hlt:=(qAx.1 g2).1;rw[qAc (by omega)];rfl
 ·simp only[qAK] at g;rw[show(((0:Nat):Int))=0 from rfl] at g;omega
theorem am3(p2:Val):∀(suf pre:List Val) (x:Val),p2.kids=pre++[x]++suf→p2.kids.length≤256→∃N,∀n,N≤n→∀k,suf.length+1≤k→∀r1 r2,DX n r1 r2 p2 k ((pre++[x]).length:Int)=some (cond (Df (x::suf)) (.nx ()) (.rt false))
 | [],pre,x,e,hl=>by
  refine⟨0,fun n _ k hk r1 r2=>?_⟩;obtain⟨j,rfl⟩:∃j,k=j+1:=⟨k - 1,by simp at hk;omega⟩;rw[LA];unfold Bq;rw[decide_eq_false (by rw[e];simp)];rfl
 | y::suf,pre,x,e,hl=>by
  obtain⟨N1,h1⟩:=Co x y;obtain⟨N2,h2⟩:=am3 p2 suf (pre++[x]) y (by rw[e];simp) hl;refine⟨N1+N2,fun n hn k hk r1 r2=>?_⟩;obtain⟨j,rfl⟩:∃j,k=j+1:=⟨k - 1,by simp at hk;omega⟩;have h1:dF n x y=_:=h1 n (by omega);have h2:=h2 n (by omega) j (by simp at hk;omega) r1 r2;have hlen:pre.length+1≤256:=by rw[e] at hl;simp at hl;omega
  have ew:IntKind.wrap .i64 (((pre++[x]).length:Int) - 1)=(pre.length:Int):=by
   rw[qAf,qAW,wrap64 (by omega) (by omega)];omega
  have i1:idx p2.kids (pre.length:Int)=some x:=by rw[e,qAo,qCp];exact gF _ _ _
  have i2:idx p2.kids ((pre++[x]).length:Int)=some y:=by rw[e];exact gF _ _ _
  rw[LA];unfold Bq;rw[decide_eq_true (by rw[e];simp;omega),ew,i1,i2];simp only[cond_true,qAb];rw[h1];simp only[qAb,Df];cases decide (0≤bH x y) with
  | true=>rfl
  | false=>
   simp only[cond_false,qBe,qAz];rw[show((pre++[x]).length:Int)+1=((pre++[x]++[y]).length:Int) by simp only[qAf,qAW];omega];exact h2
theorem aj9(env:Env)(sz:List Int)(t:Ty)(H:∀v,Ev (fun n=>jF n env sz v t) (hasB env sz t v)):∀(suf pre:List Val),∃N,∀n,N≤n→∀k,suf.length+1≤k→ze n (fun p0 p1 p2 p3=>jF n p0 p1 p2 p3) (fun p0 p1 p2 p3 p4 p5 p6 p7=>vg n p0 p1 p2 p3 p4 p5 p6 p7) [t] (pre++suf) env.carriers env.names sz k (pre.length:Int)=some (cond (suf.all fun v=>hasB env sz t v) (.nx ()) (.rt false))
 | [],pre=>by
  refine⟨0,fun n _ k hk=>?_⟩;obtain⟨j,rfl⟩:∃j,k=j+1:=⟨k - 1,by simp at hk;omega⟩;rw[GQ];unfold xw;rw[decide_eq_false (by simp)];rfl
 | v::suf,pre=>by
  obtain⟨N1,h1⟩:=H v;obtain⟨N2,h2⟩:=aj9 env sz t H suf (pre++[v]);refine⟨N1+N2,fun n hn k hk=>?_⟩;obtain⟨j,rfl⟩:∃j,k=j+1:=⟨k - 1,by simp at hk;omega⟩;have h1:jF n env sz v t=_:=h1 n (by omega);have h2:=h2 n (by omega) j (by simp at hk;omega);have i2:idx [t] (if(([t].length:Int) - 1)<(pre.length:Int) then(([t].length:Int) - 1) else(pre.length:Int))=some t:=by
   simp only[qAW];have:(if(((1:Nat):Int) - 1)<(pre.length:Int) then(((1:Nat):Int) - 1) else(pre.length:Int))=0:=by split<;>omega
   rw[this];rfl
  rw[GQ];unfold xw;rw[decide_eq_true (by simp;omega),gF,i2];simp only[cond_true,qAb];rw[show jF n (Env.mk env.carriers env.names) sz v t=jF n env sz v t from rfl,h1];simp only[qAb,qBK];cases hasB env sz t v with
  | false=>rfl
  | true=>
   simp only[qAC,cond_false,qAz];rw[show(pre.length:Int)+1=((pre++[v]).length:Int) by simp];simpa using h2
theorem aA0(env:Env)(sz:List Int)(t u:Ty)(a b:Val)(k n:Int)(s:Str)(H1:Ev (fun n=>jF n env sz a t) (hasB env sz t a))(H2:Ev (fun n=>jF n env sz b u) (hasB env sz u b)):Ev (fun m=>vg m [t,u] k n s [a,b] env.carriers env.names sz) (RX env sz [t,u] [a,b]):=by
 refine Ev.succ ?_;obtain⟨N1,h1⟩:=H1;obtain⟨N2,h2⟩:=H2;refine⟨N1+N2+3,fun m hm=>?_⟩;have h1:jF m (Env.mk env.carriers env.names) sz a t=_:=h1 m (by omega);have h2:jF m (Env.mk env.carriers env.names) sz b u=_:=h2 m (by omega);show uM m _ _ [t,u] k n s [a,b] env.carriers env.names sz=_;unfold uM;obtain⟨j,hj⟩:∃j,m=j+3:=⟨m - 3,by omega⟩;have e1:ze m (fun p0 p1 p2 p3=>jF m p0 p1 p2 p3) (fun p0 p1 p2 p3 p4 p5 p6 p7=>vg m p0 p1 p2 p3 p4 p5 p6 p7) [t,u] [a,b] env.carriers env.names sz (j+3) 0=some (cond (RX env sz [t,u] [a,b]) (.nx ()) (.rt false)):=by
  have i0:idx [t,u] (if(((([t,u]:List Ty)).length:Int) - 1)<0 then((([t,u]:List Ty).length:Int) - 1) else 0)=some t:=rfl;have i1:idx [t,u] (if(((([t,u]:List Ty)).length:Int) - 1)<0+1 then((([t,u]:List Ty).length:Int) - 1) else 0+1)=some u:=rfl;simp only[GQ,xw,i0,i1,show idx [a,b] 0=some a from rfl,show idx [a,b] (0+1)=some b from rfl,qAb,show decide ((0:Int)<(([a,b]:List Val).length:Int))=true from rfl,show decide ((0+1:Int)<(([a,b]:List Val).length:Int))=true from rfl,show decide ((0+1+1:Int)<(([a,b]:List Val).length:Int))=false from rfl,cond_true,cond_false,h1,h2,RX];cases hasB env sz t a<;>cases hasB env sz u b<;>rfl
 rw[←hj] at e1;rw[e1];cases RX env sz [t,u] [a,b]<;>rfl
theorem aCw(env:Env)(sz:List Int)(hl:sz.length=env.carriers.length):∀{t:Ty},Shp t→(dN t).all (bV env)=true→∀v,Ev (fun n=>jF n env sz v t) (hasB env sz t v):=by
 intro t h
 induction h with
 | int=>
  intro _ v;refine Ev.succ ?_;show Ev (fun n=>jk n _ _ env sz v (.mk 1 [] [])) _;unfold jk;refine Ev.pos rfl ?_;refine Ev.bind (a:=aaF v) ?_ (Ev.ret _);unfold aaF;cases v.kind==1<;>cases decide ((-1000000000)≤v.n)<;>cases decide (v.n≤1000000000)<;>cases v.name==[]<;>cases(v.kids.length:Int)==0<;>exact Ev.ret _
 | bool=>
  intro _ v;refine Ev.succ ?_;show Ev (fun n=>jk n _ _ env sz v (.mk 2 [] [])) _;unfold jk;refine Ev.neg rfl ?_;refine Ev.pos rfl ?_;refine Ev.bind (a:=Zc v) ?_ (Ev.ret _);unfold Zc;cases v.kind==2<;>cases v.n==0<;>cases v.n==1<;>cases v.name==[]<;>cases(v.kids.length:Int)==0<;>exact Ev.ret _
 | car nm=>
  intro hc v;have hc:bV env nm=true:=by simpa[dN] using hc
  obtain⟨g1,g2⟩:=arO hl hc;refine Ev.succ ?_;show Ev (fun n=>jk n _ _ env sz v (.mk 3 nm [])) _;unfold jk;refine Ev.neg rfl ?_;refine Ev.neg rfl ?_;refine Ev.pos rfl ?_;refine Ev.bind (ayG env nm) ?_;refine Ev.bind (a:=RD env sz nm v) ?_ (Ev.ret _);simp only[decide_eq_true g1,cond_true,g2,qAb,Ty.name];unfold RD;cases v.kind==3<;>cases v.name==nm<;>cases decide (0≤v.n)<;>cases decide (v.n<ahT env sz nm)<;>cases(v.kids.length:Int)==0<;>exact Ev.ret _
 | @pair a b ha hb iha ihb=>
  intro hc v;simp only[dN,kr,qAr,show((4:Int)==3)=false from rfl,cond_false,List.all_append,qAa] at hc;refine Ev.succ ?_;show Ev (fun n=>jk n _ _ env sz v (.mk 4 [] [a,b])) _;unfold jk;refine Ev.neg rfl ?_;refine Ev.neg rfl ?_;refine Ev.neg rfl ?_;refine Ev.pos rfl ?_;refine Ev.bind (a:=hasB env sz (.mk 4 [] [a,b]) v) ?_ (Ev.ret _);simp only[hasB,show((4:Int)==1)=false from rfl,show((4:Int)==2)=false from rfl,show((4:Int)==3)=false from rfl,show((4:Int)==4)=true from rfl,cond_false,cond_true,Ty.kids];cases v.kind==4 with
  | false=>exact Ev.ret _
  | true=>
   cases v.n==0 with
   | false=>exact Ev.ret _
   | true=>
    cases v.name==[] with
    | false=>exact Ev.ret _
    | true=>
     cases h2:(v.kids.length:Int)==2 with
     | false=>exact Ev.ret _
     | true=>
      simp only[cond_true,qAz];obtain⟨k,n,s,ks⟩:=v;simp only[Val.kids,beq_iff_eq] at h2
      match ks,h2 with
      | [x,y],_=>exact Ev.bind (aA0 env sz a b x y k n s (iha hc.1 x) (ihb hc.2 y)) (Ev.ret _)
 | @set a ha iha=>
  intro hc v;simp only[dN,kr,qAr,show((5:Int)==3)=false from rfl,cond_false] at hc;have H:=iha hc;refine Ev.succ ?_;show Ev (fun n=>jk n _ _ env sz v (.mk 5 [] [a])) _;unfold jk;refine Ev.neg rfl ?_;refine Ev.neg rfl ?_;refine Ev.neg rfl ?_;refine Ev.neg rfl ?_;refine Ev.pos rfl ?_;simp only[hasB,show((5:Int)==1)=false from rfl,show((5:Int)==2)=false from rfl,show((5:Int)==3)=false from rfl,show((5:Int)==4)=false from rfl,cond_false,Ty.kids];have e1:(v.kind !=5)=!(v.kind==5):=rfl;have e2:(v.n !=0)=!(v.n==0):=rfl;rw[e1,e2];cases v.kind==5 with
  | false=>refine Ev.bind (a:=true) (Ev.ret _) ?_;exact Ev.ret _
  | true=>
   cases v.n==0 with
   | false=>refine Ev.bind (a:=true) (Ev.ret _) ?_;exact Ev.ret _
   | true=>
    cases v.name==[] with
    | false=>refine Ev.bind (a:=true) (Ev.ret _) ?_;exact Ev.ret _
    | true=>
     cases h256:decide (256<(v.kids.length:Int)) with
     | true=>refine Ev.bind (a:=true) (Ev.ret _) ?_;exact Ev.ret _
     | false=>
      have hlen:v.kids.length≤256:=by simp at h256;omega
      have hk:Ev (fun n=>vg n [a] v.kind v.n v.name v.kids env.carriers env.names sz) (v.kids.all fun v=>hasB env sz a v):=by
       obtain⟨N,h⟩:=aj9 env sz a H v.kids [];refine Ev.succ ?_;refine⟨N+v.kids.length+1,fun n hn=>?_⟩;have:=h n (by omega) n (by omega);simp only[qAt,qAK] at this;show uM n _ _ [a] v.kind v.n v.name v.kids env.carriers env.names sz=_;unfold uM;rw[show((0:Nat):Int)=0 from rfl] at this;rw[this];cases(v.kids.all fun v=>hasB env sz a v)<;>rfl
      simp only[qAC,cond_false,qBe,qAz,as9];refine Ev.bind (Ev.bind hk (Ev.ret _)) ?_;cases(v.kids.all fun v=>hasB env sz a v) with
      | false=>exact Ev.ret _
      | true=>
       simp only[qAC,cond_false,qAz];refine Ev.bind (a:=cond (Df v.kids) (.nx ()) (.rt false)) ?_ (by cases Df v.kids<;>exact Ev.ret _);cases hks:v.kids with
       | nil=>
        refine⟨1,fun n hn=>?_⟩;obtain⟨j,rfl⟩:∃j,n=j+1:=⟨n - 1,by omega⟩;show DX (j+1) _ _ v (j+1) 1=_;rw[LA];unfold Bq;rw[decide_eq_false (by rw[hks];simp)];rfl
       | cons x xs=>
        obtain⟨N,h⟩:=am3 v xs [] x (by rw[hks];rfl) hlen;refine⟨N+xs.length+1,fun n hn=>?_⟩;have:=h n (by omega) n (by omega) (fun p0 p1 p2 p3=>jF n p0 p1 p2 p3) (fun p0 p1 p2 p3 p4 p5 p6 p7=>vg n p0 p1 p2 p3 p4 p5 p6 p7);exact this
theorem arR:∀l:List Val,Df l=true↔l.Pairwise kJ
 | []=>by simp[Df]
 | [a]=>by simp[Df]
 | a::b::r=>by
  have ih:=arR (b::r);unfold Df;rw[qAa,ih,qAF,decide_eq_false_iff_not,Int.not_le];constructor
  ·rintro⟨h1,h2⟩;refine qBd.2 ⟨fun x hx=>?_,h2⟩;rcases qAg.1 hx with rfl | hx
   ·exact h1
   ·exact zN _ _ _ h1 ((qBd.1 h2).1 x hx)
  ·intro h;exact⟨(qBd.1 h).1 b (by simp),(qBd.1 h).2⟩
section
variable {env:Env}{sz:List Int}
theorem Nr{v:Val}:hasB env sz bY v=true↔∃n,v=R9 n∧QB n:=by
 obtain⟨k,n,s,ks⟩:=v;rw[show hasB env sz bY (.mk k n s ks)=aaF (.mk k n s ks) by unfold bY hasB;rfl];unfold aaF R9 QB;simp only[Val.kind,Val.n,Val.name,Val.kids,qAa,beq_iff_eq,Val.mk.injEq];constructor
 ·rintro⟨rfl,rfl,h,h1,h2⟩;have:ks=[]:=qAw.1 (by omega)
  grind
 grind
theorem ant{v:Val}:hasB env sz aV v=true↔∃b,v=gH b:=by
 obtain⟨k,n,s,ks⟩:=v;rw[show hasB env sz aV (.mk k n s ks)=Zc (.mk k n s ks) by unfold aV hasB;rfl];unfold Zc gH;simp only[Val.kind,Val.n,Val.name,Val.kids];constructor
 ·simp_all
 grind
theorem Ih{a b:Ty}{v:Val}:hasB env sz (aK a b) v=true↔∃x y,v=dh x y∧hasB env sz a x=true∧hasB env sz b y=true:=by
 obtain⟨k,n,s,ks⟩:=v;have e:hasB env sz (aK a b) (.mk k n s ks)=(k==4&&(n==0&&(s==[]&&((ks.length:Int)==2&&RX env sz [a,b] ks)))):=by unfold aK;rw[hasB];rfl
 rw[e];simp;constructor
 ·rintro⟨rfl,rfl,rfl,h,h1⟩
  match ks,h with
  | [x,y],_=>
   simp only[RX,qAa,and_true] at h1;exact⟨x,y,rfl,h1.1,h1.2⟩
  | [],h=>simp at h
  | [x],h=>simp at h
  | x::y::z::r,h=>simp at h;omega
 ·rintro⟨x,y,h,h1,h2⟩;cases h;simp only[RX,h1,h2];simp
theorem nL{e:Ty}{v:Val}:hasB env sz (ak e) v=true↔∃l,v=mkSet l∧iT l∧∀x∈l,hasB env sz e x=true:=by
 obtain⟨k,n,s,ks⟩:=v;have e:hasB env sz (ak e) (.mk k n s ks)=((k==5&&(n==0&&(s==[]&&!(decide (256<(ks.length:Int))))))&&(ks.all (fun v=>hasB env sz e v)&&Df ks)):=by unfold ak;rw[hasB];simp only[as9];rfl
 rw[e];simp only[qAa,beq_iff_eq,qAF,decide_eq_false_iff_not,arR,qAE];constructor
 ·rintro⟨⟨rfl,rfl,rfl,h⟩,h1,h2⟩;exact⟨ks,rfl,⟨h2,by omega⟩,h1⟩
 ·rintro⟨l,h,h1,h2⟩;cases h;exact⟨⟨rfl,rfl,rfl,by have:=h1.2;omega⟩,h2,h1.1⟩
theorem SI{l:List Val}{v:Val}(h:pX l=.ok v):v=NZ l∧(sortV l).length≤256:=by
 unfold pX at h
 grind
theorem kX{e:Ty}{l:List Val}{v:Val}(h:pX l=.ok v)(hl:∀x∈l,hasB env sz e x=true):hasB env sz (ak e) v=true:=by
 obtain⟨rfl,h1⟩:=SI h;exact nL.2 ⟨_,rfl,⟨iN l,h1⟩,fun x hx=>hl x ((dY l x).1 hx)⟩
theorem aCD{n:Int}{v:Val}(h:wP n=.ok v):v=R9 n∧QB n:=by
 unfold wP atZ at h;cases h1:decide (1000000000<n) with
 | true=>rw[h1] at h;cases h
 | false=>
  cases h2:decide (n< -1000000000) with
  | true=>rw[h1,h2] at h;cases h
  | false=>
   rw[h1,h2] at h;cases h;have:=of_decide_eq_false h1;have:=of_decide_eq_false h2;exact⟨rfl,by omega,by omega⟩
theorem FQ{n:Int}{v:Val}(h:wP n=.ok v):hasB env sz bY v=true:=by
 obtain⟨rfl,h1⟩:=aCD h;exact Nr.2 ⟨_,rfl,h1⟩
theorem jY{b:Bool}{v:Val}(h:(.ok (gH b):VR)=.ok v):hasB env sz aV v=true:=by cases h;exact ant.2 ⟨b,rfl⟩
theorem then_ok{β γ:Type}{r:RR β}{f:β→RR γ}{v:γ}(h:r.thn f=.ok v):∃a,r=.ok a∧f a=.ok v:=by
 cases r with
 | ok a=>exact⟨a,rfl,h⟩
 | er e=>cases h
theorem seq_ok{α:Type}(f:α→VR):∀(xs:List α) (ys:List Val),gD (xs.map f)=.ok ys→ys.length=xs.length∧∀p∈xs.zip ys,f p.1=.ok p.2
 | [],ys,h=>by cases h;simp
 | x::xs,ys,h=>by
  rw[qAu] at h;cases hx:f x with
  | er e=>rw[hx] at h;cases h
  | ok v=>
   rw[hx] at h;unfold gD at h;cases hr:gD (xs.map f) with
   | er e=>rw[hr] at h;cases h
   | ok l=>
    rw[hr] at h;cases h;obtain⟨h1,h2⟩:=seq_ok f xs l hr;refine⟨by simp[h1],fun p hp=>?_⟩;rw[qDh] at hp
    grind
theorem seq1{r:VR}{f:List Val→VR}{v:Val}(h:(gD [r]).thn f=.ok v):∃a,r=.ok a∧f [a]=.ok v:=by
 cases r with
 | ok a=>exact⟨a,rfl,h⟩
 | er e=>cases h
theorem seq2{r s:VR}{f:List Val→VR}{v:Val}(h:(gD [r,s]).thn f=.ok v):∃a b,r=.ok a∧s=.ok b∧f [a,b]=.ok v:=by
 cases r with
 | ok a=>
  cases s with
  | ok b=>exact⟨a,b,rfl,rfl,h⟩
  | er e=>cases h
 | er e=>cases h
theorem adW{l r:List Val}(h:r∈uW l):r.Sublist l:=by
 have key:∀(q pre:List Val) (os:List (List Val)),(∀r∈os,r.Sublist pre)→∀r∈q.foldl (fun out x=>out++out.map fun r=>r++[x]) os,r.Sublist (pre++q):=by
  intro q
  induction q with
  | nil=>intro pre os h r hr;rw[qAr];exact h r hr
  | cons y q ih=>
   intro pre os h r hr;have:=ih (pre++[y]) (os++os.map fun r=>r++[y]) (fun r hr=>by
    rcases qAn.1 hr with hr | hr
    ·grind
    ·obtain⟨z,hz,rfl⟩:=qAA.1 hr;exact(h z hz).append (qDq _)) r hr
   grind
 exact key l [] [[]] (fun r hr=>by simp at hr;subst hr;exact qDq _) r h
theorem adI{op:Int}{a b:List Val}{d:Nat}(h1:1≤d)(hd:op=41→b.length≤d):∀(xs l:List Val) (x:Val),x∈lN op a b xs l→∃m,x=NZ m∧(∀p∈m,p∈l∨∃u∈xs,∃v∈b,p=dh u v)∧m.length≤l.length+d*xs.length∧zX op a b m=true
 | [],l,x,h=>by
  unfold lN at h
  grind
 | y::xs,l,x,h=>by
  have ih:=adI (a:=a) h1 hd xs;unfold lN at h;have one:∀(q:List Val),(∀p∈q,∃v∈b,p=dh y v)→q.length≤d→x∈lN op a b xs (l++q)→∃m,x=NZ m∧(∀p∈m,p∈l∨∃u∈y::xs,∃v∈b,p=dh u v)∧m.length≤l.length+d*(y::xs).length∧zX op a b m=true:=by
   intro q hq hl hx;obtain⟨m,e,h2,h3,h4⟩:=ih (l++q) x hx;refine⟨m,e,fun p hp=>?_,?_,h4⟩
   ·grind
   ·simp at h3⊢
    grind
  cases h41:(op==41) with
  | true=>
   rw[h41] at h;obtain⟨im,him,hx⟩:=qBn.1 h;have hs:=adW him;refine one _ (fun p hp=>?_) ?_ hx
   ·grind
   grind
  | false=>
   rw[h41] at h;rcases qAn.1 h with h | h
   ·cases h42:(op==42) with
    | false=>rw[h42] at h;cases h
    | true=>rw[h42] at h;exact one [] (by simp) (by simp) (by simpa using h)
   ·obtain⟨v,hv,hx⟩:=qBn.1 h
    grind
theorem aoU:∀(k:Nat) (a:Int) (x:Val),x∈ints a k→∃i,x=R9 i∧a≤i∧i<a+k
 | 0,_,_,h=>by cases h
 | k+1,a,x,h=>by
  rcases qAg.1 h with rfl | h
  ·grind
  ·obtain⟨i,e,h1,h2⟩:=aoU k (a+1) x h
   grind
theorem FB{a b:Ty}{p:Val}(h:hasB env sz (aK a b) p=true):hasB env sz a (bK p)=true∧hasB env sz b (dH p)=true:=by
 obtain⟨x,y,rfl,h1,h2⟩:=Ih.1 h;exact⟨h1,h2⟩
theorem Ji{a b:Ty}{x y:Val}(h:hasB env sz a x=true)(k:hasB env sz b y=true):hasB env sz (aK a b) (dh x y)=true:=Ih.2 ⟨x,y,rfl,h,k⟩
theorem aBp{op:Int}(ho:op=41∨op=42∨op=43∨op=44∨op=45){s t:Ty}{a b:List Val}(ha:iT a)(hb:iT b)(ta:∀x∈a,hasB env sz s x=true)(tb:∀x∈b,hasB env sz t x=true){l:List Val}(h:I5 op a b=.ok l):
  ∀x∈l,hasB env sz (ak (aK s t)) x=true:=by
 unfold I5 at h;cases hN:yF op a.length b.length with
 | true=>rw[hN] at h;cases h;intro x hx;cases hx
 | false=>
  cases hM:wB op b.length a.length 0 1 with
  | true=>rw[hN,hM] at h;cases h
  | false=>
   rw[hN,hM] at h;cases h;intro x hx;obtain⟨d,hd1,hd2,hd3⟩:∃d,1≤d∧(op=41→b.length≤d)∧d*a.length≤256:=by
    have:=ha.2;by_cases h41:op=41
    ·subst h41;have h1:=ad6 (.inl rfl) a.length 0 1 (by show 2^b.length≠0;have:=qDi (n:=b.length);omega) (by omega) hM;rw[show Ba 41 b.length=2^b.length from rfl,qCj,←Nat.pow_mul] at h1;have h2:b.length*a.length≤8:=by
      rcases qDx 8 (b.length*a.length) with h | h
      ·have:=Nat.pow_lt_pow_right (a:=2) (by omega) h;omega
      ·exact h
     refine⟨b.length+1,by omega,fun _=>by omega,?_⟩;rw[qAV,qCj];rcases qDg a.length with h | h
     ·grind
     ·rcases qDg b.length with h' | h'
      ·grind
      ·have:1*a.length≤b.length*a.length:=qAR _ h';omega
    ·exact⟨1,by omega,fun h=>absurd h h41,by omega⟩
   obtain⟨m,rfl,h2,h3,_⟩:=adI hd1 hd2 a [] x hx;refine nL.2 ⟨_,rfl,⟨iN _,?_⟩,fun p hp=>?_⟩
   ·have:=lD m
    grind
   ·rcases h2 p ((dY m p).1 hp) with h | ⟨u,hu,v,hv,rfl⟩
    ·cases h
    ·exact Ji (ta u hu) (tb v hv)
inductive Scp(env:Env)(sz:List Int):List Decl→List Bound→Prop
 | nil:Scp env sz [] []
 | cons {nm:Str} {t:Ty} {v:Val} {sc:List Decl} {bs:List Bound} (h:hasB env sz t v=true) (k:Scp env sz sc bs):Scp env sz (⟨nm,t⟩::sc) (⟨nm,v⟩::bs)
def GOk(env:Env)(sz:List Int)(g:Str→Val):Prop:=∀s t,look env s=some t→hasB env sz t (g s)=true
theorem ayq{g:Str→Val}(hg:GOk env sz g){sc:List Decl}{bs:List Bound}(h:Scp env sz sc bs)(s:Str)(t:Ty)(ht:wK env sc s=some t):hasB env sz t (agj g bs s)=true:=by
 unfold wK at ht;unfold agj
 induction h with
 | nil=>exact hg s t ht
 | cons h k ih=>
  grind
end
theorem mem2{P:Tm→Prop}{x y:Tm}(h:∀t∈[x,y],P t):P x∧P y:=by grind
set_option maxHeartbeats 4000000 in
theorem sound{env:Env}{sz:List Int}{g:Str→Val}(hg:GOk env sz g):∀t:Tm,∀(sc:List Decl) (ty:Ty) (bs:List Bound) (v:Val),HT env sc t ty→Scp env sz sc bs→aI g t bs=.ok v→hasB env sz ty v=true:=
 Tm.ind fun op nm m u ks ih sc ty bs v ht hs h=>by
 rw[zq] at h;have S:∀{e:Ty} {w:Val},hasB env sz (ak e) w=true→iT w.kids∧∀x∈w.kids,hasB env sz e x=true:=fun hw=>by
  obtain⟨l,rfl,h1,h2⟩:=nL.1 hw;exact⟨h1,h2⟩
 cases ht with
 | lit op ho=>rcases ho with rfl | rfl<;>exact jY h
 | int _=>exact FQ h
 | name hl=>cases h;exact ayq hg hs _ _ hl
 | empty _=>cases h;exact nL.2 ⟨[],rfl,⟨.nil,by simp⟩,fun x hx=>by cases hx⟩
 | not _=>obtain⟨a,_,h⟩:=seq1 (r:=aI g _ bs) (f:=gX 3) h;exact jY h
 | log op ho hx hy=>
  rename_i x y;obtain⟨ix,iy⟩:=mem2 ih;rcases ho with rfl | rfl | rfl | rfl
  ·obtain⟨p,_,h⟩:=then_ok (r:=aI g x bs) h;cases hp:(p.n==1) with
   | false=>rw[hp] at h;exact jY h
   | true=>rw[hp] at h;exact iy sc aV bs v hy hs h
  ·obtain⟨p,_,h⟩:=then_ok (r:=aI g x bs) h;cases hp:(p.n==1) with
   | true=>rw[hp] at h;exact jY h
   | false=>rw[hp] at h;exact iy sc aV bs v hy hs h
  ·obtain⟨p,_,h⟩:=then_ok (r:=aI g x bs) h;cases hp:(p.n==1) with
   | false=>rw[hp] at h;exact jY h
   | true=>rw[hp] at h;exact iy sc aV bs v hy hs h
  ·obtain⟨a,b,_,_,h⟩:=seq2 (r:=aI g x bs) (s:=aI g y bs) (f:=gX 7) h;exact jY h
 | qu op ho hx hy=>
  rename_i x y e;rcases ho with rfl | rfl
  ·obtain⟨s,_,h⟩:=then_ok (r:=aI g x bs) h;obtain⟨ys,_,h⟩:=then_ok (r:=og (aI g y) nm bs s.kids) h;exact jY h
  ·obtain⟨s,_,h⟩:=then_ok (r:=aI g x bs) h;obtain⟨ys,_,h⟩:=then_ok (r:=og (aI g y) nm bs s.kids) h;exact jY h
 | compr hx hy=>
  rename_i x y e;obtain⟨ix,iy⟩:=mem2 ih;obtain⟨s,h1,h⟩:=then_ok (r:=aI g x bs) h;obtain⟨ys,h2,h⟩:=then_ok (r:=og (aI g y) nm bs s.kids) h;obtain⟨_,hs2⟩:=S (ix sc _ bs s hx hs h1);refine kX (l:=(s.kids.zip ys).flatMap fun(p:Val×Val)=>cond (p.2.n==1) [p.1] []) h fun z hz=>?_;obtain⟨p,hp,hz⟩:=qBn.1 hz;have hm:=hs2 p.1 (qCZ (show(p.1,p.2)∈s.kids.zip ys from hp)).1;cases hb:(p.2.n==1) with
  | false=>rw[hb] at hz;cases hz
  | true=>
   rw[hb] at hz;have:z=p.1:=by simpa using hz
   rw[this];exact hm
 | fn hgt hx hy=>
  rename_i x y e t;obtain⟨ix,iy⟩:=mem2 ih;obtain⟨s,h1,h⟩:=then_ok (r:=aI g x bs) h;obtain⟨ys,h2,h⟩:=then_ok (r:=og (aI g y) nm bs s.kids) h;obtain⟨_,hs2⟩:=S (ix sc _ bs s hx hs h1);refine kX (l:=(s.kids.zip ys).flatMap fun(p:Val×Val)=>[dh p.1 p.2]) h fun z hz=>?_;obtain⟨p,hp,hz⟩:=qBn.1 hz;have hm:=hs2 p.1 (qCZ (show(p.1,p.2)∈s.kids.zip ys from hp)).1;have hv:=(seq_ok (fun x=>aI g y (⟨nm,x⟩::bs)) s.kids ys h2).2 p hp;have:z=dh p.1 p.2:=by simpa using hz
  rw[this];exact Ji hm (iy _ _ _ _ hy (.cons hm hs) hv)
 | eq op ho hgt hx hy=>
  rename_i x y t;rcases ho with rfl | rfl
  ·obtain⟨a,b,_,_,h⟩:=seq2 (r:=aI g x bs) (s:=aI g y bs) (f:=gX 10) h;exact jY h
  ·obtain⟨a,b,_,_,h⟩:=seq2 (r:=aI g x bs) (s:=aI g y bs) (f:=gX 11) h;exact jY h
 | ord op ho hx hy=>
  rename_i x y;rcases ho with rfl | rfl | rfl | rfl
  ·obtain⟨a,b,_,_,h⟩:=seq2 (r:=aI g x bs) (s:=aI g y bs) (f:=gX 12) h;exact jY h
  ·obtain⟨a,b,_,_,h⟩:=seq2 (r:=aI g x bs) (s:=aI g y bs) (f:=gX 13) h;exact jY h
  ·obtain⟨a,b,_,_,h⟩:=seq2 (r:=aI g x bs) (s:=aI g y bs) (f:=gX 14) h;exact jY h
  ·obtain⟨a,b,_,_,h⟩:=seq2 (r:=aI g x bs) (s:=aI g y bs) (f:=gX 15) h;exact jY h
 | inn op ho hx hy=>
  rename_i x y t;rcases ho with rfl | rfl
  ·obtain⟨a,_,h⟩:=then_ok (r:=aI g x bs) h;obtain⟨l,_,h⟩:=then_ok (r:=Ll (Eu g y) bs) h;exact jY h
  ·obtain⟨a,_,h⟩:=then_ok (r:=aI g x bs) h;obtain⟨l,_,h⟩:=then_ok (r:=Ll (Eu g y) bs) h;exact jY h
 | sub hx hy=>
  rename_i x y t;obtain⟨a,_,h⟩:=then_ok (r:=aI g x bs) h;obtain⟨l,_,h⟩:=then_ok (r:=Ll (Eu g y) bs) h;exact jY h
 | neg hx=>obtain⟨a,_,h⟩:=seq1 (r:=aI g _ bs) (f:=gX 21) h;exact FQ h
 | num op ho hx hy=>
  rename_i x y;rcases ho with rfl | rfl | rfl | rfl | rfl
  ·obtain⟨a,b,_,_,h⟩:=seq2 (r:=aI g x bs) (s:=aI g y bs) (f:=gX 22) h;exact FQ h
  ·obtain⟨a,b,_,_,h⟩:=seq2 (r:=aI g x bs) (s:=aI g y bs) (f:=gX 23) h;exact FQ h
  ·obtain⟨a,b,_,_,h⟩:=seq2 (r:=aI g x bs) (s:=aI g y bs) (f:=gX 24) h;exact FQ h
  ·obtain⟨a,b,_,_,h⟩:=seq2 (r:=aI g x bs) (s:=aI g y bs) (f:=gX 25) h;have h:cond (b.n==0) (.er 10) (wP (Int.tdiv a.n b.n))=(.ok v:VR):=h;cases hb:(b.n==0) with
   | true=>rw[hb] at h;cases h
   | false=>rw[hb] at h;exact FQ h
  ·obtain⟨a,b,_,_,h⟩:=seq2 (r:=aI g x bs) (s:=aI g y bs) (f:=gX 26) h;have h:cond (decide (a.n<0) ||decide (b.n<1)) (.er 10) (wP (Int.tmod a.n b.n))=(.ok v:VR):=h;cases hb:(decide (a.n<0) ||decide (b.n<1)) with
   | true=>rw[hb] at h;cases h
   | false=>rw[hb] at h;exact FQ h
 | pair ha hb hx hy=>
  rename_i x y a b;obtain⟨ix,iy⟩:=mem2 ih;obtain⟨a,b,h1,h2,h⟩:=seq2 (r:=aI g x bs) (s:=aI g y bs) (f:=gX 27) h;cases h;exact Ji (ix _ _ _ _ hx hs h1) (iy _ _ _ _ hy hs h2)
 | set ha hn hk=>
  rename_i a;have h:(gD ((ks.map (Eu g)).map fun k=>k.f bs)).thn pX=(.ok v:VR):=h;obtain⟨l,hl,h⟩:=then_ok h;rw[qBh] at hl;obtain⟨h1,h2⟩:=seq_ok (fun t=>aI g t bs) ks l hl;refine kX h fun z hz=>?_;obtain⟨i,hi,rfl⟩:=qBB hz;have hp:(ks[i]'(by omega),l[i])∈ks.zip l:=by
   rw[qBH];exact⟨i,by simp;omega,by simp⟩
  exact ih _ (qAO _) _ _ _ _ (hk _ (qAO _)) hs (h2 _ hp)
 | range hx hy=>
  rename_i x y;obtain⟨ix,iy⟩:=mem2 ih;obtain⟨a,b,h1,h2,h⟩:=seq2 (r:=aI g x bs) (s:=aI g y bs) (f:=gX 30) h;obtain⟨i,rfl,hi⟩:=Nr.1 (ix _ _ _ _ hx hs h1);obtain⟨j,rfl,hj⟩:=Nr.1 (iy _ _ _ _ hy hs h2);obtain⟨l,hl,h⟩:=then_ok (r:=Gl 30 (R9 i) (R9 j)) (f:=pX) h;have hl:cond (decide (256≤j - i)) (.er 11) (.ok (ints i (j+1 - i).toNat))=(.ok l:Uk):=hl;cases hb:decide (256≤j - i) with
  | true=>rw[hb] at hl;cases hl
  | false=>
   rw[hb] at hl;cases hl;refine kX h fun z hz=>?_;obtain⟨k,rfl,h3,h4⟩:=aoU _ _ _ hz;have:=hi.1;have:=hj.2;exact Nr.2 ⟨k,rfl,by omega,by omega⟩
 | bin op ho hx hy=>
  rename_i x y e;obtain⟨ix,iy⟩:=mem2 ih;have fin:∀(a b:Val),aI g x bs=.ok a→aI g y bs=.ok b→∀l:List Val,(∀z∈l,z∈a.kids∨z∈b.kids)→pX l=.ok v→hasB env sz (ak e) v=true:=fun a b h1 h2 l hl hb=>
   kX hb fun z hz=>(hl z hz).elim ((S (ix _ _ _ _ hx hs h1)).2 z) ((S (iy _ _ _ _ hy hs h2)).2 z)
  rcases ho with rfl | rfl | rfl
  ·obtain⟨a,b,h1,h2,h⟩:=seq2 (r:=aI g x bs) (s:=aI g y bs) (f:=gX 31) h;exact fin a b h1 h2 _ (fun z hz=>qAn.1 hz) h
  ·obtain⟨a,b,h1,h2,h⟩:=seq2 (r:=aI g x bs) (s:=aI g y bs) (f:=gX 32) h;exact fin a b h1 h2 _ (fun z hz=>.inl (qAQ.1 hz).1) h
  ·obtain⟨a,b,h1,h2,h⟩:=seq2 (r:=aI g x bs) (s:=aI g y bs) (f:=gX 33) h;exact fin a b h1 h2 _ (fun z hz=>.inl (qAQ.1 hz).1) h
 | prod hx hy=>
  rename_i x y s t;obtain⟨ix,iy⟩:=mem2 ih;obtain⟨a,b,h1,h2,h⟩:=seq2 (r:=aI g x bs) (s:=aI g y bs) (f:=gX 34) h;obtain⟨l,hl,h⟩:=then_ok (r:=Gl 34 a b) (f:=pX) h;have hl:cond (decide (256<(a.kids.length:Int)*b.kids.length)) (.er 11) (.ok (a.kids.flatMap fun x=>b.kids.map (dh x)))=(.ok l:Uk):=hl;cases hb:decide (256<(a.kids.length:Int)*b.kids.length) with
  | true=>rw[hb] at hl;cases hl
  | false=>
   rw[hb] at hl;cases hl;refine kX h fun z hz=>?_;obtain⟨p,hp,hz⟩:=qBn.1 hz;obtain⟨q,hq,rfl⟩:=qAA.1 hz;exact Ji ((S (ix _ _ _ _ hx hs h1)).2 p hp) ((S (iy _ _ _ _ hy hs h2)).2 q hq)
 | over hx hy=>
  rename_i x y s t;obtain⟨ix,iy⟩:=mem2 ih;obtain⟨a,b,h1,h2,h⟩:=seq2 (r:=aI g x bs) (s:=aI g y bs) (f:=gX 35) h;refine kX (l:=a.kids.filter (fun p=>!bG (nE b.kids) (bK p))++b.kids) h fun z hz=>?_;rcases qAn.1 hz with hz | hz
  ·exact(S (ix _ _ _ _ hx hs h1)).2 z (qAQ.1 hz).1
  ·exact(S (iy _ _ _ _ hy hs h2)).2 z hz
 | comp hx hy=>
  rename_i x y s t r;obtain⟨ix,iy⟩:=mem2 ih;obtain⟨a,b,h1,h2,h⟩:=seq2 (r:=aI g x bs) (s:=aI g y bs) (f:=gX 36) h;refine kX (l:=a.kids.flatMap fun p=>b.kids.flatMap fun q=>cond (qp (dH p) (bK q)) [dh (bK p) (dH q)] []) h fun z hz=>?_;obtain⟨p,hp,hz⟩:=qBn.1 hz;obtain⟨q,hq,hz⟩:=qBn.1 hz;have hp:=FB ((S (ix _ _ _ _ hx hs h1)).2 p hp);have hq:=FB ((S (iy _ _ _ _ hy hs h2)).2 q hq);cases hb:qp (dH p) (bK q) with
  | false=>rw[hb] at hz;cases hz
  | true=>
   rw[hb] at hz;have:z=dh (bK p) (dH q):=by simpa using hz
   rw[this];exact Ji hp.1 hq.2
 | dres op ho hx hy=>
  rename_i x y s t;obtain⟨ix,iy⟩:=mem2 ih;rcases ho with rfl | rfl
  ·obtain⟨a,b,h1,h2,h⟩:=seq2 (r:=aI g x bs) (s:=aI g y bs) (f:=gX 37) h;exact kX (l:=b.kids.filter _) h fun z hz=>(S (iy _ _ _ _ hy hs h2)).2 z (qAQ.1 hz).1
  ·obtain⟨a,b,h1,h2,h⟩:=seq2 (r:=aI g x bs) (s:=aI g y bs) (f:=gX 38) h;exact kX (l:=b.kids.filter _) h fun z hz=>(S (iy _ _ _ _ hy hs h2)).2 z (qAQ.1 hz).1
 | rres op ho hx hy=>
  rename_i x y s t;obtain⟨ix,iy⟩:=mem2 ih;rcases ho with rfl | rfl
  ·obtain⟨a,b,h1,h2,h⟩:=seq2 (r:=aI g x bs) (s:=aI g y bs) (f:=gX 39) h;exact kX (l:=a.kids.filter _) h fun z hz=>(S (ix _ _ _ _ hx hs h1)).2 z (qAQ.1 hz).1
  ·obtain⟨a,b,h1,h2,h⟩:=seq2 (r:=aI g x bs) (s:=aI g y bs) (f:=gX 40) h;exact kX (l:=a.kids.filter _) h fun z hz=>(S (ix _ _ _ _ hx hs h1)).2 z (qAQ.1 hz).1
 | fam op ho hx hy=>
  rename_i x y s t;obtain⟨ix,iy⟩:=mem2 ih;have fin:∀(a b:Val),aI g x bs=.ok a→aI g y bs=.ok b→(I5 op a.kids b.kids).thn pX=.ok v→hasB env sz (ak (ak (aK s t))) v=true:=fun a b h1 h2 h=>by
   obtain⟨l,hl,h⟩:=then_ok h;obtain⟨a1,a2⟩:=S (ix _ _ _ _ hx hs h1);obtain⟨b1,b2⟩:=S (iy _ _ _ _ hy hs h2);exact kX h (aBp ho a1 b1 a2 b2 hl)
  rcases ho with rfl | rfl | rfl | rfl | rfl
  ·obtain⟨a,b,h1,h2,h⟩:=seq2 (r:=aI g x bs) (s:=aI g y bs) (f:=gX 41) h;exact fin a b h1 h2 h
  ·obtain⟨a,b,h1,h2,h⟩:=seq2 (r:=aI g x bs) (s:=aI g y bs) (f:=gX 42) h;exact fin a b h1 h2 h
  ·obtain⟨a,b,h1,h2,h⟩:=seq2 (r:=aI g x bs) (s:=aI g y bs) (f:=gX 43) h;exact fin a b h1 h2 h
  ·obtain⟨a,b,h1,h2,h⟩:=seq2 (r:=aI g x bs) (s:=aI g y bs) (f:=gX 44) h;exact fin a b h1 h2 h
  ·obtain⟨a,b,h1,h2,h⟩:=seq2 (r:=aI g x bs) (s:=aI g y bs) (f:=gX 45) h;exact fin a b h1 h2 h
 | pow hx=>
  rename_i x e;obtain⟨a,h1,h⟩:=seq1 (r:=aI g x bs) (f:=gX 46) h;obtain⟨a1,a2⟩:=S (ih x (by simp) _ _ _ _ hx hs h1);obtain⟨l,hl,h⟩:=then_ok (r:=Gl 46 a v0) (f:=pX) h;have hl:cond (decide (8<(a.kids.length:Int))) (.er 11) (.ok ((uW a.kids).map mkSet))=(.ok l:Uk):=hl;cases hb:decide (8<(a.kids.length:Int)) with
  | true=>rw[hb] at hl;cases hl
  | false=>
   rw[hb] at hl;cases hl;refine kX h fun z hz=>?_;obtain⟨r,hr,rfl⟩:=qAA.1 hz;have hr:=adW hr;exact nL.2 ⟨r,rfl,⟨a1.1.sublist hr,qAs hr.length_le a1.2⟩,fun z hz=>a2 z (hr.subset hz)⟩
 | card hx=>obtain⟨a,_,h⟩:=seq1 (r:=aI g _ bs) (f:=gX 47) h;exact FQ h
 | ext op ho hx=>
  rename_i x;rcases ho with rfl | rfl
  ·obtain⟨a,h1,h⟩:=seq1 (r:=aI g x bs) (f:=gX 48) h;obtain⟨a1,a2⟩:=S (ih x (by simp) _ _ _ _ hx hs h1);have h:(match a.kids with | []=>(.er 10:VR) | x::_=>.ok x)=(.ok v:VR):=h;cases hk:a.kids with
   | nil=>rw[hk] at h;cases h
   | cons z l=>rw[hk] at h;cases h;exact a2 _ (by rw[hk];simp)
  ·obtain⟨a,h1,h⟩:=seq1 (r:=aI g x bs) (f:=gX 49) h;obtain⟨a1,a2⟩:=S (ih x (by simp) _ _ _ _ hx hs h1);have h:(match a.kids.getLast? with | none=>(.er 10:VR) | some x=>.ok x)=(.ok v:VR):=h;cases hk:a.kids.getLast? with
   | none=>rw[hk] at h;cases h
   | some z=>rw[hk] at h;cases h;exact a2 _ (qDS hk)
 | dom hx=>
  rename_i x s t;obtain⟨a,h1,h⟩:=seq1 (r:=aI g x bs) (f:=gX 50) h;obtain⟨a1,a2⟩:=S (ih x (by simp) _ _ _ _ hx hs h1);refine kX (l:=nE a.kids) h fun z hz=>?_;obtain⟨p,hp,rfl⟩:=qAA.1 ((dY _ _).1 hz);exact(FB (a2 p hp)).1
 | ran hx=>
  rename_i x s t;obtain⟨a,h1,h⟩:=seq1 (r:=aI g x bs) (f:=gX 51) h;obtain⟨a1,a2⟩:=S (ih x (by simp) _ _ _ _ hx hs h1);refine kX (l:=qF a.kids) h fun z hz=>?_;obtain⟨p,hp,rfl⟩:=qAA.1 ((dY _ _).1 hz);exact(FB (a2 p hp)).2
 | inv hx=>
  rename_i x s t;obtain⟨a,h1,h⟩:=seq1 (r:=aI g x bs) (f:=gX 52) h;obtain⟨a1,a2⟩:=S (ih x (by simp) _ _ _ _ hx hs h1);refine kX (l:=a.kids.map fun p=>dh (dH p) (bK p)) h fun z hz=>?_;obtain⟨p,hp,rfl⟩:=qAA.1 hz;exact Ji (FB (a2 p hp)).2 (FB (a2 p hp)).1
 | image hx hy=>
  rename_i x y s t;obtain⟨ix,iy⟩:=mem2 ih;obtain⟨a,b,h1,h2,h⟩:=seq2 (r:=aI g x bs) (s:=aI g y bs) (f:=gX 53) h;refine kX (l:=qF (a.kids.filter fun p=>bG b.kids (bK p))) h fun z hz=>?_;obtain⟨p,hp,rfl⟩:=qAA.1 ((dY _ _).1 hz);exact(FB ((S (ix _ _ _ _ hx hs h1)).2 p (qAQ.1 hp).1)).2
 | app hx hy=>
  rename_i x y s;obtain⟨ix,iy⟩:=mem2 ih;obtain⟨a,b,h1,h2,h⟩:=seq2 (r:=aI g x bs) (s:=aI g y bs) (f:=gX 54) h;have h:aiB a b=(.ok v:VR):=h;unfold aiB at h;have hsub:∀p∈a.kids.filter (fun p=>qp (bK p) b),p∈a.kids:=fun p hp=>(qAQ.1 hp).1
  match a.kids.filter (fun p=>qp (bK p) b),hsub,h with
  | [p],hsub,h=>cases h;exact(FB ((S (ix _ _ _ _ hx hs h1)).2 p (hsub p (by simp)))).2
  | [],_,h=>cases h
  | p::q::r,_,h=>cases h
end
section
open Go
theorem zJ:∀(a q:List Val),a.Pairwise kJ→q.Pairwise kJ→(∀x∈q,x∈a)→q.Sublist a
 | [],[],_,_,_=>qDq _
 | [],x::q,_,_,h=>by have:=h x (by simp);cases this
 | y::a,[],_,_,_=>List.nil_sublist _
 | y::a,x::q,ha,hq,h=>by
  have a1:=qBd.1 ha;have q1:=qBd.1 hq;by_cases e:x=y
  ·subst e;refine(zJ a q a1.2 q1.2 fun z hz=>?_).cons_cons x;rcases qAg.1 (h z (by simp[hz])) with rfl | h'
   ·exact absurd (q1.1 z hz) (Cn z)
   ·exact h'
  ·have hx:x∈a:=(qAg.1 (h x (by simp))).resolve_left e;refine(zJ a (x::q) a1.2 hq fun z hz=>?_).cons y;rcases qAg.1 hz with rfl | hz
   ·exact hx
   ·rcases qAg.1 (h z (by simp[hz])) with rfl | h'
    ·exact absurd (q1.1 z hz) (ZY (a1.1 x hx))
    ·exact h'
theorem apB{l q:List Val}(h:q.Sublist l):q∈uW l:=by
 have key:∀(l:List Val) (os:List (List Val)) (o s:List Val),o∈os→s.Sublist l→o++s∈l.foldl (fun out x=>out++out.map fun r=>r++[x]) os:=by
  intro l
  induction l with
  | nil=>intro os o s ho hs;cases hs;simpa using ho
  | cons x l ih=>
   intro os o s ho hs;rw[qBl];cases hs with
   | cons _ hs=>exact ih _ o s (qAn.2 (.inl ho)) hs
   | cons_cons _ hs=>
    rename_i s';have:=ih (os++os.map fun r=>r++[x]) (o++[x]) s' (qAn.2 (.inr (qAA.2 ⟨o,ho,rfl⟩))) hs;simpa using this
 exact key l [[]] [] q (by simp) h
theorem ahO{l:List Val}(h:l.Pairwise kJ):sortV l=l:=(AB h fun _=>Iff.rfl).symm
theorem Vp{l m:List Val}(h:∀x,x∈l↔x∈m):sortV l=sortV m:=AB (iN l) fun x=>by rw[dY];exact h x
theorem apf(a:Val):∀l:List Val,(a∈l→l.Pairwise kJ→(Ez a l).length=l.length)∧(a∉l→(Ez a l).length=l.length+1)
 | []=>by simp[Ez]
 | b::l=>by
  obtain⟨h1,h2⟩:=apf a l;unfold Ez;by_cases hc:bH a b<0
  ·rw[decide_eq_true hc,cond_true];refine⟨fun hm hp=>?_,fun _=>rfl⟩;rcases qAg.1 hm with rfl | hm
   ·exact absurd hc (Cn a)
   ·exact absurd hc (ZY ((qBd.1 hp).1 a hm))
  ·rw[decide_eq_false hc,cond_false];by_cases h0:bH a b=0
   ·rw[show(bH a b==0)=true by simpa using h0,cond_true];exact⟨fun _ _=>rfl,fun hm=>absurd (by rw[(fK a b).1 h0];simp) hm⟩
   ·rw[show(bH a b==0)=false by simpa using h0,cond_false];have hne:a≠b:=fun e=>h0 ((fK a b).2 e);refine⟨fun hm hp=>?_,fun hm=>?_⟩
    ·rw[qAm,qAm,h1 ((qAg.1 hm).resolve_left hne) (qBd.1 hp).2]
    ·rw[qAm,qAm,h2 fun h=>hm (by simp[h])]
theorem JA:∀l:List Val,(sortV l).length=l.length↔l.Nodup
 | []=>by simp[sortV]
 | a::l=>by
  have ih:=JA l;have hle:=lD l;obtain⟨h1,h2⟩:=apf a (sortV l);rw[sortV,qAm,qBR];by_cases hm:a∈l
  ·have:=h1 ((dY l a).2 hm) (iN l);constructor
   ·intro h;omega
   ·exact fun h=>absurd hm h.1
  ·have:=h2 fun h=>hm ((dY l a).1 h);rw[this];constructor
   ·exact fun h=>⟨hm,ih.1 (by omega)⟩
   ·exact fun h=>by rw[ih.2 h.2]
theorem agP(l:List Val):uX (sortV l) l=true↔l.Nodup:=by
 unfold uX;rw[beq_iff_eq,qDD,JA]
theorem xU(l m:List Val):uX l m=true↔l.length=m.length:=by
 unfold uX;rw[beq_iff_eq,qDD]
theorem ake(l:List Val):uX (nE l) l=true↔(l.map bK).Nodup:=by
 rw[←agP,xU,xU,qAh];rfl
theorem akf(l:List Val):uX (qF l) l=true↔(l.map dH).Nodup:=by
 rw[←agP,xU,xU,qAh];rfl
theorem VQ{op:Int}(ho:op=41∨op=42∨op=43∨op=44∨op=45)(a b l:List Val):zX op a b l=true↔(∀p∈l,bK p∈a∧dH p∈b)∧(42≤op→(l.map bK).Nodup)∧(43≤op→(nE l).length=a.length)∧(44≤op→(l.map dH).Nodup)∧(op=45→(qF l).length=b.length):=by
 have h0:(l.all fun p=>bG a (bK p)&&bG b (dH p))=true↔∀p∈l,bK p∈a∧dH p∈b:=by
  rw[qAE];constructor
  ·intro h p hp;have:=h p hp;rw[qAa,j3,j3] at this;exact this
  ·intro h p hp;rw[qAa,j3,j3];exact h p hp
 have h1:=ake l;have h2:=akf l;have h3:=xU (nE l) a;have h4:=xU (qF l) b;unfold zX;rw[qAa,h0];rcases ho with rfl | rfl | rfl | rfl | rfl
 ·simp
 ·simp[h1]
 ·simp[h1,h3]
 ·simp[h1,h2,h3]
 ·simp[h1,h2,h3,h4]
theorem awH{op:Int}(ho:op=41∨op=42∨op=43∨op=44∨op=45){a b m:List Val}(h:zX op a b m=true):zX op a b (sortV m)=true:=by
 rw[VQ ho] at h⊢;obtain⟨h1,h2,h3,h4,h5⟩:=h;have ef:nE (sortV m)=nE m:=Vp fun x=>by simp only[qAA,dY]
 have es:qF (sortV m)=qF m:=Vp fun x=>by simp only[qAA,dY]
 have nd:∀f:Val→Val,(m.map f).Nodup→((sortV m).map f).Nodup:=fun f hn=>by
  rw[←JA,Vp (m:=m.map f) fun x=>by simp only[qAA,dY],(JA _).2 hn,qAh,qAh,(JA m).2 (List.Pairwise.of_map f (fun a b h e=>h (by rw[e])) hn)]
 exact⟨fun p hp=>h1 p ((dY m p).1 hp),fun h=>nd _ (h2 h),fun h=>by rw[ef];exact h3 h,fun h=>nd _ (h4 h),fun h=>by rw[es];exact h5 h⟩
theorem azT{a b c d:Val}(h:bH a c<0):kJ (dh a b) (dh c d):=by
 show bH _ _<0;unfold dh;rw[Cy,rP];simp only[Fy];exact .inr ⟨(pY 4 4).2 rfl,.inr ⟨(pY 0 0).2 rfl,.inr ⟨(Nu [] []).2 rfl,.inl h⟩⟩⟩
theorem ayt{a b d:Val}(h:kJ (dh a b) (dh a d)):kJ b d:=by
 have h:bH _ _<0:=h;unfold dh at h;rw[Cy,rP,rP] at h;simp only[Fy,Jp] at h;have h4:jQ 4 4=0:=(pY 4 4).2 rfl;have h0:jQ 0 0=0:=(pY 0 0).2 rfl;have hb:=(Nu [] []).2 rfl;have haa:=(fK a a).2 rfl;have hnn:dI [] []=0:=rfl;show bH b d<0;omega
theorem ajp{op:Int}(ho:op=41∨op=42∨op=43∨op=44∨op=45){a b:List Val}(ha:a.Pairwise kJ)(hb:b.Pairwise kJ):∀(xs l q:List Val),xs.Pairwise kJ→(∀x∈xs,x∈a)→q.Pairwise kJ→(∀p∈q,p=dh (bK p) (dH p)∧bK p∈xs)→(∀p∈l,bK p∉xs)→zX op a b (l++q)=true→NZ (l++q)∈lN op a b xs l
 | [],l,q,_,_,_,hq,_,hr=>by
  have:q=[]:=by
   cases q with
   | nil=>rfl
   | cons p q=>have:=(hq p (by simp)).2;cases this
  subst this;rw[qAr] at hr⊢;unfold lN;rw[hr];simp
 | x::xs,l,q,hxs,hxa,hqs,hq,hl,hr=>by
  have x1:=qBd.1 hxs;have hxn:x∉xs:=fun h=>absurd (x1.1 x h) (Cn x);obtain⟨q1,hd1⟩:∃q1,q1=q.filter fun p=>qp (bK p) x:=⟨_,rfl⟩;obtain⟨q2,hd2⟩:∃q2,q2=q.filter fun p=>!qp (bK p) x:=⟨_,rfl⟩;have eqx:∀p:Val,qp (bK p) x=true↔bK p=x:=fun p=>by unfold qp;rw[beq_iff_eq,fK]
  have m1:∀p,p∈q1↔p∈q∧bK p=x:=fun p=>by rw[hd1,qAQ,eqx]
  have m2:∀p,p∈q2↔p∈q∧bK p≠x:=fun p=>by
   rw[hd2,qAQ,qAF,qBZ,ne_eq,eqx]
  have s1:q1.Pairwise kJ:=hd1▸hqs.sublist qCg;have s2:q2.Pairwise kJ:=hd2▸hqs.sublist qCg;have f2:∀p∈q2,p=dh (bK p) (dH p)∧bK p∈xs:=fun p hp=>by
   have h:=(m2 p).1 hp;exact⟨(hq p h.1).1,(qAg.1 (hq p h.1).2).resolve_left h.2⟩
  have hsplit:q=q1++q2:=by
   refine Ef _ _ hqs (List.pairwise_append.2 ⟨s1,s2,fun p hp r hr=>?_⟩) fun p=>?_
   ·have h1:=(m1 p).1 hp;have h2:=(m2 r).1 hr;rw[(hq p h1.1).1,(hq r h2.1).1,h1.2];exact azT (x1.1 _ (f2 r hr).2)
   ·rw[qAn,m1,m2];by_cases h:bK p=x<;>simp[h]
  have e1:∀q':List Val,(∀p∈q',p=dh (bK p) (dH p)∧bK p=x)→(q'.map dH).map (dh x)=q':=fun q' h=>by
   rw[qBh]
   conv=>rhs;rw[←List.map_id q']
   refine qBo fun p hp=>?_;have:=h p hp;rw[id,this.1,this.2];rfl
  have p1:∀p∈q1,p=dh (bK p) (dH p)∧bK p=x:=fun p hp=>⟨(hq p ((m1 p).1 hp).1).1,((m1 p).1 hp).2⟩;have hr':zX op a b ((l++q1)++q2)=true:=by rw[qAo,←hsplit];exact hr
  have hl':∀p∈l++q1,bK p∉xs:=fun p hp=>by
   rcases qAn.1 hp with hp | hp
   ·exact fun h=>hl p hp (by simp[h])
   ·rw[(p1 p hp).2];exact hxn
  have ih:=ajp ho ha hb xs (l++q1) q2 x1.2 (fun z hz=>hxa z (by simp[hz])) s2 f2 hl' hr';rw[qAo,←hsplit] at ih;obtain⟨r1,r2,r3,r4,r5⟩:=(VQ ho a b _).1 hr;have hb1:∀p∈q1,dH p∈b:=fun p hp=>(r1 p (qAn.2 (.inr ((m1 p).1 hp).1))).2;unfold lN;by_cases h41:op=41
  ·subst h41;show _∈(uW b).flatMap _;refine qBn.2 ⟨q1.map dH,apB (zJ b _ hb ?_ fun v hv=>?_),?_⟩
   ·rw[qDp];refine s1.imp_of_mem fun{p r} hp hr h=>?_;rw[(p1 p hp).1,(p1 r hr).1,(p1 p hp).2,(p1 r hr).2] at h;exact ayt h
   ·obtain⟨p,hp,rfl⟩:=qAA.1 hv;exact hb1 p hp
   ·rw[e1 q1 p1];exact ih
  ·rw[show(op==41)=false by simpa using h41,cond_false];have hn:=r2 (by omega);rw[hsplit,qAY,qAY] at hn;have hn1:=(qBq.1 (qBq.1 hn).2.1).1;have hc:q1=[]∨(∃p,q1=[p])∨∃p r t,q1=p::r::t:=by
    match q1 with
    | []=>exact .inl rfl
    | [p]=>exact .inr (.inl ⟨p,rfl⟩)
    | p::r::t=>exact .inr (.inr ⟨p,r,t,rfl⟩)
   rcases hc with hq1 | ⟨p,hq1⟩ | ⟨p,r,t,hq1⟩
   ·rw[hq1,qAr] at ih;by_cases h42:op=42
    ·subst h42;exact qAn.2 (.inl ih)
    ·exfalso;have h3:=r3 (by omega);have hsub:(nE (l++q)).Sublist a:=zJ a _ ha (iN _) fun z hz=>by
      obtain⟨p,hp,rfl⟩:=qAA.1 ((dY _ z).1 hz);exact(r1 p hp).1
     have:=hsub.eq_of_length h3;have hx:x∈nE (l++q):=by rw[this];exact hxa x (by simp)
     obtain⟨p,hp,e⟩:=qAA.1 ((dY _ x).1 hx);rcases qAn.1 hp with hp | hp
     ·exact hl p hp (by rw[e];simp)
     ·have:=(m1 p).2 ⟨hp,e⟩;rw[hq1] at this;cases this
   ·have hp:=p1 p (by rw[hq1];simp);refine qAn.2 (.inr (qBn.2 ⟨dH p,hb1 p (by rw[hq1];simp),?_⟩));have hno:(decide (44≤op)&&bG (qF l) (dH p))=false:=by
     by_cases h44:44≤op
     ·have h4:=r4 h44;rw[hsplit,qAY,qAY] at h4;have hd:=(qBq.1 h4).2.2;rw[qBY];right;rw[qBZ,ne_eq,j3];intro hm;exact hd _ ((dY _ _).1 hm) (dH p) (by rw[hq1];simp) rfl
     ·rw[decide_eq_false h44];rfl
    rw[hno,cond_false];have e:[dh x (dH p)]=q1:=by rw[hq1,←hp.2,←hp.1]
    rw[e];exact ih
   ·exfalso;rw[hq1] at hn1;have h1:=p1 p (by rw[hq1];simp);have h2:=p1 r (by rw[hq1];simp);simp[h1.2,h2.2] at hn1
theorem azz{op:Int}(ho:op=41∨op=42∨op=43∨op=44∨op=45){a b q:List Val}(hb:b.Pairwise kJ)(hN:yF op a.length b.length=true):zX op a b q=false:=by
 rw[qBZ];intro h;obtain⟨r1,r2,r3,r4,r5⟩:=(VQ ho a b q).1 h;have h44:44≤op:=by
  unfold yF at hN;rcases ho with rfl | rfl | rfl | rfl | rfl
  ·cases hN
  ·cases hN
  ·cases hN
  ·omega
  ·omega
 have e1:(nE q).length=q.length:=(xU _ _).1 ((ake q).2 (r2 (by omega)));have e2:(qF q).length=q.length:=(xU _ _).1 ((akf q).2 (r4 h44));have e3:=r3 (by omega);have hsub:(qF q).Sublist b:=zJ b _ hb (iN _) fun z hz=>by
  obtain⟨p,hp,rfl⟩:=qAA.1 ((dY _ z).1 hz);exact(r1 p hp).2
 have:=hsub.length_le;unfold yF at hN;cases hq:(op==45&&(a.length:Int)!=b.length) with
 | true=>
  simp only[qAa,beq_iff_eq,bne_iff_ne,ne_eq] at hq;have:=r5 hq.1;omega
 | false=>
  rw[hq,cond_false,qAa] at hN;have:=of_decide_eq_true hN.2;omega
theorem aBD{op:Int}(ho:op=41∨op=42∨op=43∨op=44∨op=45){a b l q:List Val}(ha:iT a)(hb:iT b)(hl:I5 op a b=.ok l)(hq:q.Pairwise kJ)(hp:∀p∈q,p=dh (bK p) (dH p)):bG (sortV l) (mkSet q)=zX op a b q:=by
 rw[qBw,j3,dY];unfold I5 at hl;cases hN:yF op a.length b.length with
 | true=>
  rw[hN] at hl;cases hl;rw[azz ho hb.1 hN];simp
 | false=>
  cases hM:wB op b.length a.length 0 1 with
  | true=>rw[hN,hM] at hl;cases hl
  | false=>
   rw[hN,hM] at hl;cases hl;constructor
   ·intro h;obtain⟨m,e,_,_,hm⟩:=adI (d:=b.length+1) (by omega) (by omega) a [] _ h;have e:q=sortV m:=by cases e;rfl
    rw[e];exact awH ho hm
   ·intro h;have r1:=((VQ ho a b q).1 h).1;have:=ajp ho ha.1 hb.1 a [] q ha.1 (fun x hx=>hx) hq (fun p h=>⟨hp p h,(r1 p h).1⟩) (fun p h=>by cases h) (by simpa using h);rw[qAt] at this;unfold NZ at this;rwa[ahO hq] at this
theorem aBg{a q:List Val}(ha:a.Pairwise kJ)(hq:q.Pairwise kJ):bG (sortV ((uW a).map mkSet)) (mkSet q)=q.all (bG a):=by
 rw[qBw,j3,dY,qAE,qAA];constructor
 ·rintro⟨r,hr,e⟩ x hx;cases e;exact(j3 a x).2 ((adW hr).subset hx)
 ·exact fun h=>⟨q,apB (zJ a q ha hq fun x hx=>(j3 a x).1 (h x hx)),rfl⟩
theorem azF{env:Env}{sz:List Int}{g:Str→Val}(hg:GOk env sz g){y:Tm}{t:Ty}{s:Val}(hy:HT env [] y (ak t))(hs:aI g y []=.ok s):∃l,Ll (Eu g y) []=.ok l∧∀x,hasB env sz t x=true→uL y.op l x=bG s.kids x:=by
 have S:∀{e:Ty} {w:Val},hasB env sz (ak e) w=true→iT w.kids∧∀x∈w.kids,hasB env sz e x=true:=fun hw=>by
  obtain⟨l,rfl,h1,h2⟩:=nL.1 hw;exact⟨h1,h2⟩
 unfold Ll;by_cases hsy:Aa y.op=true
 ·show ∃l,cond (Aa y.op) _ _=_∧_;rw[hsy];cases hy with
  | fam q hq hz hw=>
   rename_i nm k u z w c d;rw[zq] at hs;obtain⟨p,r,h1,h2,h3⟩:∃p r,aI g z []=.ok p∧aI g w []=.ok r∧(I5 q p.kids r.kids).thn pX=.ok s:=by
    rcases hq with rfl | rfl | rfl | rfl | rfl
    ·exact seq2 (f:=gX 41) hs
    ·exact seq2 (f:=gX 42) hs
    ·exact seq2 (f:=gX 43) hs
    ·exact seq2 (f:=gX 44) hs
    ·exact seq2 (f:=gX 45) hs
   obtain⟨l,h4,h5⟩:=then_ok h3;obtain⟨rfl,_⟩:=SI h5;refine⟨[p,r],?_,fun x hx=>?_⟩
   ·show gD [aI g z [],aI g w []]=_;rw[h1,h2];rfl
   ·obtain⟨m,rfl,m1,m2⟩:=nL.1 hx;unfold uL;rw[show Aa (Tm.mk q nm k u [z,w]).op=true from hsy];have h46:(q==46)=false:=by rcases hq with rfl | rfl | rfl | rfl | rfl<;>rfl
    show cond (q==46) _ (zX q p.kids r.kids m)=bG (sortV l) (mkSet m);rw[h46,cond_false,aBD hq (S (sound hg z [] _ [] p hz .nil h1)).1 (S (sound hg w [] _ [] r hw .nil h2)).1 h4 m1.1 fun v hv=>?_];obtain⟨a,b,rfl,_,_⟩:=Ih.1 (m2 v hv);rfl
  | pow hz=>
   rename_i nm k u z c;rw[zq] at hs;obtain⟨p,h1,h2⟩:=seq1 (r:=aI g z []) (f:=gX 46) hs;obtain⟨l,h4,h5⟩:=then_ok (r:=Gl 46 p v0) (f:=pX) h2;obtain⟨rfl,_⟩:=SI h5;refine⟨[p],?_,fun x hx=>?_⟩
   ·show gD [aI g z []]=_;rw[h1];rfl
   ·obtain⟨m,rfl,m1,m2⟩:=nL.1 hx;have h4:cond (decide (8<(p.kids.length:Int))) (.er 11) (.ok ((uW p.kids).map mkSet))=(.ok l:Uk):=h4;cases hd:decide (8<(p.kids.length:Int)) with
    | true=>rw[hd] at h4;cases h4
    | false=>
     rw[hd] at h4;cases h4;exact(aBg (S (sound hg z [] _ [] p hz .nil h1)).1.1 m1.1).symm
  | bin q hq=>rcases hq with rfl | rfl | rfl<;>cases hsy
  | dres q hq=>rcases hq with rfl | rfl<;>cases hsy
  | rres q hq=>rcases hq with rfl | rfl<;>cases hsy
  | _=>cases hsy
 ·rw[qCu] at hsy;show ∃l,cond (Aa y.op) _ _=_∧_;rw[hsy];refine⟨[s],?_,fun x _=>?_⟩
  ·show gD [aI g y []]=_;rw[hs];rfl
  ·unfold uL;rw[hsy];rfl
end
section
open Go
def dz{α β:Type}(J:β→α)(f:Nat→Option (PZ α (List Bound)))(b:List Bound):RR β→Prop
 | .ok v=>Ev f (.ok (J v))
 | .er e=>(e=10∨e=11)∧∃z,Ev f (.er e (b++z))
theorem dz.bind{α β γ δ:Type}{J:β→α}{K:γ→δ}{f:Nat→Option (PZ α (List Bound))}{b:List Bound}{r:RR β}{g:α→Nat→Option (PZ δ (List Bound))}{k:β→RR γ}(h1:dz J f b r)(h2:∀v,r=.ok v→dz K (g (J v)) b (k v)):
  dz K (fun n=>(f n).bind (PZ.el (fun x=>g x n) (fun e z=>some (.er e z)))) b (r.thn k):=by
 cases r with
 | er e=>obtain⟨he,z,hz⟩:=h1;exact⟨he,z,Ev.bind hz (Ev.ret _)⟩
 | ok v=>
  have h3:=h2 v rfl;show dz K _ b (k v);cases hk:k v with
  | ok w=>rw[hk] at h3;exact Ev.bind h1 h3
  | er e=>rw[hk] at h3;obtain⟨he,z,hz⟩:=h3;exact⟨he,z,Ev.bind h1 hz⟩
theorem dz.mono{α β:Type}{J:β→α}{f g:Nat→Option (PZ α (List Bound))}{b:List Bound}{r:RR β}(h:∀v,Ev f v→Ev g v)(h1:dz J f b r):dz J g b r:=by
 cases r with
 | ok v=>exact h _ h1
 | er e=>obtain⟨he,z,hz⟩:=h1;exact⟨he,z,h _ hz⟩
theorem dz.succ{α β:Type}{J:β→α}{f:Nat→Option (PZ α (List Bound))}{b:List Bound}{r:RR β}(h:dz J (fun n=>f (n+1)) b r):dz J f b r:=dz.mono (fun _=>Ev.succ) h
abbrev vb(b:List Bound)(v:Val):Val×List Bound:=(v,b)
theorem dz.same{f:Nat→Option (PZ (Val×List Bound) (List Bound))}{b:List Bound}{r:VR}(h:dz (vb b) f b r):dz (vb b) (fun n=>(f n).bind (PZ.el (fun x=>some (.ok (x.1,x.2))) (fun e z=>some (.er e z)))) b r:=by
 cases r with
 | ok v=>exact Ev.bind h (Ev.ret _)
 | er e=>obtain⟨he,z,hz⟩:=h;exact⟨he,z,Ev.bind hz (Ev.ret _)⟩
def Er{β:Type}(r:RR β):Prop:=∀e,r=.er e→e=10∨e=11
theorem Er.ok{β:Type}(v:β):Er (.ok v):=fun e h=>by cases h
theorem Er.e10{β:Type}:Er (.er 10:RR β):=fun e h=>by cases h;exact .inl rfl
theorem Er.e11{β:Type}:Er (.er 11:RR β):=fun e h=>by cases h;exact .inr rfl
theorem Er.cnd{β:Type}{b:Bool}{x y:RR β}(h1:Er x)(h2:Er y):Er (cond b x y):=by cases b;exact h2;exact h1
theorem dz.pure{f:Nat→Option (PZ Val Unit)}{r:VR}{b:List Bound}(h:Ev f (pz r))(he:Er r):dz (vb b) (fun n=>(f n).bind (PZ.el (fun x=>some (.ok (x,b))) (fun e _=>some (.er e b)))) b r:=by
 cases r with
 | ok v=>exact Ev.bind h (Ev.ret _)
 | er e=>exact⟨he e rfl,[],Ev.bind h (by rw[qAr];exact Ev.ret _)⟩
theorem Er.int(n:Int):Er (wP n):=Er.cnd Er.e11 (Er.ok _)
theorem Er.bnd(l:List Val):Er (pX l):=Er.cnd Er.e11 (Er.ok _)
theorem Er.apply(op:Int)(a b:Val):Er (DY op a b):=by
 have hA:Er (aiB a b):=by
  unfold aiB;split
  ·exact Er.ok _
  ·exact Er.e10
 have h1:Er (match a.kids with | []=>(.er 10:VR) | x::_=>.ok x):=by split;exact Er.e10;exact Er.ok _
 have h2:Er (match a.kids.getLast? with | none=>(.er 10:VR) | some x=>.ok x):=by split;exact Er.e10;exact Er.ok _
 have hR:Er (aoe op a.n b.n):=Er.cnd (Er.int _) (Er.cnd (Er.int _) (Er.cnd (Er.int _) (Er.cnd (Er.int _) (Er.cnd (Er.cnd Er.e10 (Er.int _)) (Er.cnd Er.e10 (Er.int _))))));have hS:Er (Gl op a b):=by
  have o:=fun l=>Er.ok (β:=List Val) l;have hr:Er (I5 op a.kids b.kids):=Er.cnd (o _) (Er.cnd Er.e11 (o _));exact Er.cnd (Er.cnd Er.e11 (o _)) (Er.cnd (o _) (Er.cnd (o _) (Er.cnd (o _) (Er.cnd (Er.cnd Er.e11 (o _)) (Er.cnd (o _) (Er.cnd (o _) (Er.cnd (o _) (Er.cnd (o _) (Er.cnd (o _) (Er.cnd (o _) (Er.cnd (Er.cnd Er.e11 (o _)) (Er.cnd (o _) (Er.cnd (o _) (Er.cnd (o _) (Er.cnd (o _) hr)))))))))))))))
 have hT:Er ((Gl op a b).thn pX):=by
  cases hq:Gl op a b with
  | ok l=>exact Er.bnd l
  | er e=>exact fun e' h=>by cases h;exact hS e hq
 have o:=fun v=>Er.ok (β:=Val) v;exact Er.cnd (o _) (Er.cnd (o _) (Er.cnd (o _) (Er.cnd (o _) (Er.cnd (o _) (Er.cnd (o _) (Er.cnd (o _) (Er.cnd (o _) (Er.cnd (o _) (Er.cnd hA (Er.cnd hR (Er.cnd (Er.int _) (Er.cnd h1 (Er.cnd h2 hT)))))))))))))
section
variable {cs:List Carrier}{ds:List Decl}{sz:List Int}{m:List (Str×Val)}{g:Str→Val}
def lq(cs:List Carrier)(ds:List Decl)(sz:List Int)(m:List (Str×Val))(g:Str→Val)(t:Tm)(bs:List Bound):Prop:=dz (vb bs.reverse) (fun n=>aH n cs ds sz m bs.reverse t) bs.reverse (aI g t bs)
theorem acY{op:Int}{nm:Str}{k:Int}{u:Ty}{x y:Tm}{bs:List Bound}(ho:op=4∨op=5∨op=6)(hx:lq cs ds sz m g x bs)(hy:lq cs ds sz m g y bs):
  dz (vb bs.reverse) (fun n=>bQ n cs ds sz m bs.reverse (.mk op nm k u [x,y])) bs.reverse (aI g (.mk op nm k u [x,y]) bs):=by
 rw[zq];refine dz.succ ?_;show dz _ (fun n=>rM n _ _ _ _ _ (aH n) _ _ _ _ _ _ _) _ _;unfold rM;have e:Zr g op nm k ([x,y].map (Eu g)) bs=(aI g x bs).thn fun p=>cond (op==4&&!(p.n==1)) (.ok (gH false)) (cond ((op==5&&p.n==1) ||(op==6&&!(p.n==1))) (.ok (gH true)) (aI g y bs)):=by
  rcases ho with rfl | rfl | rfl<;>rfl
 rw[e];refine dz.bind (K:=vb bs.reverse) (f:=fun n=>aH n cs ds sz m bs.reverse x) hx fun p _=>?_;have hs:=dz.same hy;have t1:dz (vb bs.reverse) (fun n=>((bB n false).bind fun(v:Val)=>some (.ok (v,bs.reverse)))) bs.reverse (.ok (gH false)):=Ev.bind (Bn _) (Ev.ret _);have t2:dz (vb bs.reverse) (fun n=>((bB n true).bind fun(v:Val)=>some (.ok (v,bs.reverse)))) bs.reverse (.ok (gH true)):=Ev.bind (Bn _) (Ev.ret _);rcases ho with rfl | rfl | rfl
 ·cases hp:(p.n==1)
  ·simp only[vb,hp];exact t1
  ·simp only[vb,hp];exact hs
 ·cases hp:(p.n==1)
  ·simp only[vb,hp];exact hs
  ·simp only[vb,hp];exact t2
 ·cases hp:(p.n==1)
  ·simp only[vb,hp];exact t2
  ·simp only[vb,hp];exact hs
def stB(op:Int)(x y:Val)(s:List Val×Bool×Bool):List Val×Bool×Bool:=cond (op==56) (s.1++[dh x y],s.2.1,s.2.2) (cond (y.n==1) (s.1++[x],true,s.2.2) (s.1,s.2.1,false))
def LK(op:Int):List Val→List Val→List Val×Bool×Bool→List Val×Bool×Bool
 | x::xs,y::ys,s=>LK op xs ys (stB op x y s)
 | _,_,s=>s
theorem aqO(n:Nat)(x y:Val)(op:Int)(nm:Str)(k q:Int)(r:Str)(ts:List Ty)(ks:List Tm)(l:List Val)(so al:Bool)(hl:l.length≤1000000):rO n x y op nm k q r ts ks l so al=some (stB op x y (l,so,al)):=by
 have h1:∀v:Val,upd (l++[Val.mk 0 0 [] []]) (l.length:Int) v=l++[v]:=fun v=>by
  unfold upd;rw[qBm,qCR _ _ (qAd _),qCX];rfl
 unfold rO stB;rw[iB (by simp;omega)];cases op==56
 ·cases y.n==1
  ·rfl
  ·simp only[cond_false,cond_true,qAb,gF,h1]
 ·simp only[cond_true,qAb,gF,h1];rfl
theorem Wh(l:List Bound)(a b:Bound):idx (l++[a]) (((l++[a]).length:Int) - 1)=some a∧upd (l++[a]) (((l++[a]).length:Int) - 1) b=l++[b]:=by
 have e:(((l++[a]).length:Int) - 1)=(l.length:Int):=by simp
 rw[e,gF];refine⟨rfl,?_⟩;unfold upd;rw[qBm,qCR _ _ (qAd _),qCX];rfl
theorem aBY(op:Int)(x y:Val)(s:List Val×Bool×Bool):(stB op x y s).1.length≤s.1.length+1:=by
 unfold stB;cases op==56<;>cases y.n==1<;>simp
def ahb(cs:List Carrier)(ds:List Decl)(sz:List Int)(m:List (Str×Val))(t:Tm)(v:Val×List Bound)(n:Nat):=nG n (bf n) (bg n) (bq n) (bP n) (bW n) (aH n) (bQ n) cs ds sz m t t.op t.name t.n t.ty.kind t.ty.name t.ty.kids t.kids v
def al6(cs:List Carrier)(ds:List Decl)(sz:List Int)(m:List (Str×Val))(t:Tm)(v:Val×List Bound)(n k:Nat):=aG (ahb cs ds sz m t v n) k
theorem ai6(cs:List Carrier)(ds:List Decl)(sz:List Int)(m:List (Str×Val))(t:Tm)(v:Val×List Bound)(n k:Nat)(s:Int×Bool×Bool×List Bound×List Val):al6 cs ds sz m t v n (k+1) s=ahb cs ds sz m t v n (al6 cs ds sz m t v n k) s:=rfl
theorem awV{op:Int}{nm:Str}{k:Int}{u:Ty}{x y:Tm}{bs:List Bound}(v:Val):∀(suf pre:List Val) (s:List Val×Bool×Bool) (w:Val),v.kids=pre++suf→s.1.length+suf.length≤1000→(∀a∈suf,lq cs ds sz m g y (⟨nm,a⟩::bs))→
  ∃N,∃z,∃lz:List Val,((∀e,og (aI g y) nm bs suf=.er e→e=10∨e=11))∧∀n,N≤n→∀j,suf.length+1≤j→
   al6 cs ds sz m (.mk op nm k u [x,y]) (v,bs.reverse) n j ((pre.length:Int),s.2.1,s.2.2,bs.reverse++[⟨nm,w⟩],s.1)
   =some (match og (aI g y) nm bs suf with
    | .ok ys=>.nx ((LK op suf ys s).2.1,(LK op suf ys s).2.2,bs.reverse++[⟨nm,(suf.getLast?).getD w⟩],(LK op suf ys s).1)
    | .er e=>.rt (.er e (bs.reverse++z,lz))):=by
 intro suf
 induction suf with
 | nil=>
  intro pre s w hp _ _;refine⟨0,[],[],(fun e h=>by cases h),fun n _ j hj=>?_⟩;obtain⟨j,rfl⟩:∃q,j=q+1:=⟨j - 1,by omega⟩;rw[ai6];unfold ahb nG;rw[decide_eq_false (by rw[hp];simp)];rfl
 | cons a suf ih=>
  intro pre s w hp hl hE;have ha:=hE a (by simp);unfold lq at ha;have hi:idx v.kids (pre.length:Int)=some a:=(eD hp).2;have hlt:=(eD hp).1;have hee:og (aI g y) nm bs (a::suf)=match aI g y (⟨nm,a⟩::bs) with | .er e=>.er e | .ok b=>(match og (aI g y) nm bs suf with | .er e=>.er e | .ok l=>.ok (b::l)):=by
   unfold og;rw[qAu];cases aI g y (⟨nm,a⟩::bs)<;>rfl
  simp only[qAm] at hl;cases hr:aI g y (⟨nm,a⟩::bs) with
  | er e=>
   rw[hr] at ha;obtain⟨he,z,N,hz⟩:=ha;refine⟨N,⟨nm,a⟩::z,s.1,fun e' h=>?_,fun n hn j hj=>?_⟩
   ·rw[hee,hr] at h;cases h;exact he
   ·obtain⟨j,rfl⟩:∃q,j=q+1:=⟨j - 1,by omega⟩;have hz:aH n cs ds sz m (Bound.mk nm a::bs).reverse y=_:=hz n hn;rw[List.reverse_cons,qAo] at hz;rw[ai6];unfold ahb nG;rw[hlt,hee,hr];simp only[cond_true,hi,qAb,(Wh bs.reverse ⟨nm,w⟩ ⟨nm,a⟩).1,(Wh bs.reverse ⟨nm,w⟩ ⟨nm,a⟩).2,Tm.kids,show idx [x,y] 1=some y from rfl];rw[hz];rfl
  | ok b=>
   rw[hr] at ha;obtain⟨N1,h1⟩:=ha;obtain⟨N2,z,lz,h2,h3⟩:=ih (pre++[a]) (stB op a b s) a (by simp[hp]) (by have:=aBY op a b s;omega) (fun c hc=>hE c (by simp[hc]));refine⟨N1+N2,z,lz,fun e h=>?_,fun n hn j hj=>?_⟩
   ·rw[hee,hr] at h;cases hq:og (aI g y) nm bs suf with
    | ok l=>rw[hq] at h;cases h
    | er e'=>rw[hq] at h;cases h;exact h2 _ hq
   ·obtain⟨j,rfl⟩:∃q,j=q+1:=⟨j - 1,by omega⟩;have h1:aH n cs ds sz m (Bound.mk nm a::bs).reverse y=_:=h1 n (by omega);simp only[vb] at h1;rw[List.reverse_cons] at h1;have h3:=h3 n (by omega) j (by simp at hj;omega);rw[ai6];unfold ahb nG;rw[hlt,hee,hr];simp only[cond_true,hi,qAb,(Wh bs.reverse ⟨nm,w⟩ ⟨nm,a⟩).1,(Wh bs.reverse ⟨nm,w⟩ ⟨nm,a⟩).2,Tm.kids,show idx [x,y] 1=some y from rfl,h1,PZ.el];rw[aqO n _ _ _ _ _ _ _ _ _ _ _ _ (by omega)];simp only[qAb];rw[show(pre.length:Int)+1=((pre++[a]).length:Int) by simp];refine h3.trans ?_;cases hq:og (aI g y) nm bs suf with
    | er e=>rfl
    | ok ys=>
     cases suf with
     | nil=>rfl
     | cons c suf=>rfl
end
end
section
open Go
section
variable {cs:List Carrier}{ds:List Decl}{sz:List Int}{m:List (Str×Val)}{g:Str→Val}
theorem ahW(op:Int):∀(xs ys:List Val) (s:List Val×Bool×Bool),ys.length=xs.length→LK op xs ys s=(s.1++(xs.zip ys).flatMap (fun p=>cond (op==56) [dh p.1 p.2] (cond (p.2.n==1) [p.1] [])),cond (op==56) s.2.1 (s.2.1 ||ys.any fun y=>y.n==1),cond (op==56) s.2.2 (s.2.2&&ys.all fun y=>y.n==1))
 | [],[],s,_=>by
  obtain⟨a,b,c⟩:=s;cases hq:(op==56)<;>simp[LK]
 | [],y::ys,s,h=>by simp at h
 | x::xs,[],s,h=>by simp at h
 | x::xs,y::ys,s,h=>by
  rw[LK,ahW op xs ys _ (by simpa using h)];unfold stB;obtain⟨a,b,c⟩:=s;cases hq:(op==56)<;>cases hy:(y.n==1)<;>simp[hq,hy]
theorem ahu{α:Type}(f:α→VR)(xs:List α)(ys:List Val)(h:gD (xs.map f)=.ok ys):ys.length=xs.length:=(seq_ok f xs ys h).1
theorem axT{op:Int}{nm:Str}{k:Int}{u:Ty}{x y:Tm}{bs:List Bound}(ho:dx op=true)(hx:lq cs ds sz m g x bs)(hb:bs.length≤1000)(hl:∀v,aI g x bs=.ok v→v.kids.length≤256)(hy:∀v,aI g x bs=.ok v→∀a∈v.kids,lq cs ds sz m g y (⟨nm,a⟩::bs)):
  dz (vb bs.reverse) (fun n=>bW n cs ds sz m bs.reverse (.mk op nm k u [x,y])) bs.reverse (aI g (.mk op nm k u [x,y]) bs):=by
 have hE:dz (fun(q:List Val×Bool×Bool)=>(bs.reverse,q.1,q.2.1,q.2.2)) (fun n=>(bP n cs ds sz m bs.reverse (.mk op nm k u [x,y]) op nm k u.kind u.name u.kids [x,y] [] false true).bind fun r=>some (match r with | .ok a=>PZ.ok a | .er e z=>.er e z.1)) bs.reverse
   ((aI g x bs).thn fun s=>(og (aI g y) nm bs s.kids).thn fun ys=>RR.ok (LK op s.kids ys ([],false,true))):=by
  refine dz.mono (f:=fun n=>(bP (n+1) cs ds sz m bs.reverse (.mk op nm k u [x,y]) op nm k u.kind u.name u.kids [x,y] [] false true).bind fun r=>some (match r with | .ok a=>PZ.ok a | .er e z=>.er e z.1)) (fun v h=>Ev.succ h) ?_
  show dz _ (fun n=>(wW n _ _ _ _ _ (aH n) _ _ _ _ _ _ _ _ _ _ _ _ _ _ _ _ _).bind _) _ _;unfold wW;unfold lq at hx;cases hr:aI g x bs with
  | er e=>
   rw[hr] at hx;obtain⟨he,z,hz⟩:=hx;show dz _ _ _ (RR.er e);exact⟨he,z,Ev.bind (Ev.bind (a:=x) (Ev.of fun _=>rfl) (Ev.bind hz (Ev.ret _))) (Ev.ret _)⟩
  | ok v=>
   rw[hr] at hx;obtain⟨N,z,lz,h2,h3⟩:=awV (op:=op) (k:=k) (u:=u) (x:=x) v v.kids [] ([],false,true) v0 rfl (by have:=hl v hr;simp;omega) (hy v hr);obtain⟨N1,h1⟩:=hx;have happ:app 72 bs.reverse [Bound.mk nm (Val.mk 0 0 [] [])]=some (bs.reverse++[⟨nm,v0⟩]):=by
    unfold app;rw[if_pos ⟨by simp;omega,by simp;omega⟩];rfl
   have hw:∀n,N+N1+v.kids.length+1≤n→al6 cs ds sz m (.mk op nm k u [x,y]) (v,bs.reverse) n n (0,false,true,bs.reverse++[⟨nm,v0⟩],[])=_:=fun n hn=>h3 n (by omega) n (by omega);have hfin:∀(w:Bound),((Dm (List.length (bs.reverse++[w])) (((bs.reverse++[w]).length:Int) - 1)).bind fun(x4:Nat)=>(cond (Nat.ble x4 (List.length (bs.reverse++[w]))) (some (List.take x4 (bs.reverse++[w]))) none))=some bs.reverse:=by
    intro w;unfold Dm;rw[show(((bs.reverse++[w]).length:Int) - 1)=(bs.reverse.length:Int) by simp,if_pos ⟨by omega,by simp;omega⟩,qBm];simp only[qAb];rw[show Nat.ble bs.reverse.length (bs.reverse++[w]).length=true by rw[Nat.ble_eq];simp];simp
   show dz _ (fun n=>_) _ ((og (aI g y) nm bs v.kids).thn fun ys=>RR.ok (LK op v.kids ys ([],false,true)));cases hq:og (aI g y) nm bs v.kids with
   | er e=>
    show dz _ _ _ (RR.er e);refine⟨h2 e hq,z,N+N1+v.kids.length+1,fun n hn=>?_⟩;have h1:aH n cs ds sz m bs.reverse x=_:=h1 n (by omega);have h4:=hw n hn;rw[hq] at h4;change zZ n _ _ _ _ _ _ _ _ _ _ _ (Tm.mk op nm k u [x,y]) op nm k u.kind u.name u.kids [x,y] _ _ _=_ at h4;simp only[Tm.kids,Tm.name,show idx [x,y] 0=some x from rfl,qAb,h1,PZ.el,vb,happ];rw[h4];rfl
   | ok ys=>
    show dz _ _ _ (RR.ok _);refine⟨N+N1+v.kids.length+1,fun n hn=>?_⟩;have h1:aH n cs ds sz m bs.reverse x=_:=h1 n (by omega);have h4:=hw n hn;rw[hq] at h4;change zZ n _ _ _ _ _ _ _ _ _ _ _ (Tm.mk op nm k u [x,y]) op nm k u.kind u.name u.kids [x,y] _ _ _=_ at h4;simp only[Tm.kids,Tm.name,show idx [x,y] 0=some x from rfl,qAb,h1,PZ.el,vb,happ];rw[h4];have hf:=hfin ⟨nm,v.kids.getLast?.getD v0⟩;simp only[qAb,LR.el];unfold Dm at hf⊢;split at hf
    ·rename_i hc;rw[if_pos hc];simp only[qAb] at hf⊢;generalize Nat.ble _ _=bb at hf⊢;cases bb with
     | false=>cases hf
     | true=>simp only[cond_true,qAb] at hf⊢;rw[Option.some.inj hf]
    ·cases hf
 rw[zq];have e:Zr g op nm k ([x,y].map (Eu g)) bs=(aI g x bs).thn fun s=>(og (aI g y) nm bs s.kids).thn fun ys=>aaI op s.kids ys:=by
  unfold dx at ho;simp only[qAZ,beq_iff_eq] at ho;rcases ho with rfl | rfl | rfl | rfl<;>rfl
 rw[e];refine dz.succ ?_;show dz _ (fun n=>uh n _ _ _ (bP n) _ _ _ _ _ _ _ _ _) _ _;unfold uh;have key:dz (vb bs.reverse) (fun n=>((bP n cs ds sz m bs.reverse (.mk op nm k u [x,y]) op nm k u.kind u.name u.kids [x,y] [] false true).bind fun r=>some (match r with | .ok a=>PZ.ok a | .er e z=>.er e z.1)).bind (PZ.el (fun(x1:(List Bound)×(List Val)×Bool×Bool)=>(cond (op==8) ((bB n x1.2.2.2).bind fun(x2:Val)=>some (.ok (x2,x1.1))) (cond (op==9) ((bB n x1.2.2.1).bind fun(x3:Val)=>some (.ok (x3,x1.1))) ((yN n x1.2.1).bind (PZ.el (fun(x4:Val)=>some (.ok (x4,x1.1))) (fun(e1:Int) _=>some (.er e1 x1.1))))))) (fun(e2:Int) z2=>some (.er e2 z2)))) bs.reverse
   ((aI g x bs).thn fun s=>(og (aI g y) nm bs s.kids).thn fun ys=>aaI op s.kids ys):=by
  have e2:((aI g x bs).thn fun s=>(og (aI g y) nm bs s.kids).thn fun ys=>aaI op s.kids ys)=((aI g x bs).thn fun s=>(og (aI g y) nm bs s.kids).thn fun ys=>RR.ok (LK op s.kids ys ([],false,true))).thn fun q=>cond (op==8) (.ok (gH q.2.2)) (cond (op==9) (.ok (gH q.2.1)) (pX q.1)):=by
   cases hr:aI g x bs with
   | er e=>rfl
   | ok v=>
    show(og (aI g y) nm bs v.kids).thn _=((og (aI g y) nm bs v.kids).thn _).thn _;cases hq:og (aI g y) nm bs v.kids with
    | er e=>rfl
    | ok ys=>
     show aaI op v.kids ys=cond (op==8) _ _;rw[ahW op v.kids ys _ (ahu _ _ _ hq)];unfold aaI;unfold dx at ho;simp only[qAZ,beq_iff_eq] at ho;rcases ho with rfl | rfl | rfl | rfl<;>rfl
  rw[e2];refine dz.bind (K:=vb bs.reverse) hE fun q hq=>?_;obtain⟨v,hv,hq⟩:=then_ok hq;obtain⟨ys,hys,hq⟩:=then_ok hq;cases hq;have hlen:(LK op v.kids ys ([],false,true)).1.length≤256:=by
   rw[ahW op v.kids ys _ (ahu _ _ _ hys)];have:=vK (fun(p:Val×Val)=>cond (op==56) [dh p.1 p.2] (cond (p.2.n==1) [p.1] [])) 1 (v.kids.zip ys) (fun p _=>by cases op==56<;>cases p.2.n==1<;>simp);have h3:=hl v hv;have h4:(v.kids.zip ys).length≤v.kids.length:=by rw[qDC];omega
   simp only[qAt];omega
  cases op==8 with
  | true=>exact Ev.bind (Bn _) (Ev.ret _)
  | false=>
   cases op==9 with
   | true=>exact Ev.bind (Bn _) (Ev.ret _)
   | false=>exact dz.pure (aoJ (show(LK op v.kids ys ([],false,true)).1.length*56≤_ by omega)) (Er.bnd _)
 refine dz.mono (fun v h=>?_) key;obtain⟨N,h⟩:=h;refine⟨N,fun n hn=>?_⟩;rw[←h n hn];simp only[qAb,Tm.op,Tm.name,Tm.n,Tm.ty,Tm.kids];cases bP n cs ds sz m bs.reverse (.mk op nm k u [x,y]) op nm k u.kind u.name u.kids [x,y] [] false true with
 | none=>rfl
 | some r=>cases r<;>rfl
theorem anU{σ:Type}(f:Tm→VR)(b:List Bound)(zf:Tm→List Bound):∀(ks:List Tm) (acc:List Val),∃z,gQ (fun x acc=>match f x with | .ok v=>LR.nx (acc++[v]) | .er e=>.rt (PZ.er (α:=σ) e (b++zf x))) (fun acc=>(acc,b)) ks acc=match gD (ks.map f) with | .ok l=>.nx (acc++l,b) | .er e=>.rt (.er e (b++z))
 | [],acc=>⟨[],by simp[gQ,gD]⟩
 | x::ks,acc=>by
  rw[qAu];cases hx:f x with
  | er e=>exact⟨zf x,by simp only[gQ,hx,gD]⟩
  | ok v=>
   obtain⟨z,h⟩:=anU f b zf ks (acc++[v]);refine⟨z,?_⟩;simp only[gQ,hx,gD];rw[h];cases gD (ks.map f) with
   | er e=>rfl
   | ok l=>simp
theorem awh{α:Type}(f:α→VR):∀(xs:List α),(∀x∈xs,Er (f x))→Er (gD (xs.map f))
 | [],_=>Er.ok _
 | x::xs,h=>by
  have h1:=h x (by simp);have h2:=awh f xs fun y hy=>h y (by simp[hy]);intro e he;rw[qAu] at he;cases hx:f x with
  | er e'=>rw[hx] at he;cases he;exact h1 _ hx
  | ok v=>
   rw[hx] at he;unfold gD at he;cases hs:gD (xs.map f) with
   | ok l=>rw[hs] at he;cases he
   | er e'=>rw[hs] at he;cases he;exact h2 _ hs
theorem lq.er{t:Tm}{bs:List Bound}(h:lq cs ds sz m g t bs):Er (aI g t bs):=fun e he=>by
 unfold lq at h;rw[he] at h;exact h.1
def aGD(cs:List Carrier)(ds:List Decl)(sz:List Int)(m:List (Str×Val))(t:Tm)(n:Nat):=HZ n (bf n) (bg n) (bq n) (bP n) (bW n) (aH n) (bQ n) cs ds sz m t
def atl(cs:List Carrier)(ds:List Decl)(sz:List Int)(m:List (Str×Val))(t:Tm)(n:Nat):=nu n (bf n) (bg n) (bq n) (bP n) (bW n) (aH n) (bQ n) cs ds sz m t
theorem avX{nm:Str}{k:Int}{u:Ty}{ks:List Tm}{bs:List Bound}(h:∀x∈ks,lq cs ds sz m g x bs)(hl:ks.length≤1000000):
  dz (vb bs.reverse) (fun n=>(aGD cs ds sz m (.mk 28 nm k u ks) n n (([]:List Val),0,bs.reverse)).bind (LR.el (fun(s6:(List Val)×(List Bound))=>((yN n s6.1).bind (PZ.el (fun(x30:Val)=>some (.ok (x30,s6.2))) (fun(e13:Int) _=>some (.er e13 s6.2))))) (fun r=>some r))) bs.reverse ((gD (ks.map fun t=>aI g t bs)).thn pX):=by
 have hz:∀x:Tm,∃z,x∈ks→∀e,aI g x bs=.er e→Ev (fun n=>aH n cs ds sz m bs.reverse x) (.er e (bs.reverse++z)):=fun x=>by
  by_cases hx:x∈ks
  ·have h1:=h x hx;unfold lq at h1;cases hr:aI g x bs with
   | ok v=>exact⟨[],fun _ e he=>by cases he⟩
   | er e=>
    rw[hr] at h1;obtain⟨_,z,hz⟩:=h1;exact⟨z,fun _ e' he=>by cases he;exact hz⟩
  ·exact⟨[],fun h=>absurd h hx⟩
 obtain⟨zf,hzf⟩:=qCD hz;have h1:=Zk (Tm.mk 28 nm k u ks).kids (atl cs ds sz m (.mk 28 nm k u ks)) (fun i s=>(s,i,bs.reverse)) (fun x acc=>match aI g x bs with | .ok v=>LR.nx (acc++[v]) | .er e=>.rt (PZ.er e (bs.reverse++zf x))) (fun acc=>(acc,bs.reverse)) (fun suf acc=>acc.length+suf.length≤1000000) (fun n rec s=>by unfold atl nu;rw[at_end];rfl) (fun pre x suf s e hI=>by
  have hx:x∈ks:=by have e:ks=_:=e;simp[e]
  have hE:=h x hx;unfold lq at hE;simp only[qAm] at hI;cases hr:aI g x bs with
  | er e'=>
   obtain⟨N,hN⟩:=hzf x hx e' hr;refine⟨⟨N,fun n hn rec=>?_⟩,fun s' hs=>by cases hs⟩;have hN:aH n cs ds sz m bs.reverse x=_:=hN n hn;unfold atl nu;rw[(eD e).1];simp only[cond_true,(eD e).2,qAb,hN,PZ.el]
  | ok v=>
   rw[hr] at hE;obtain⟨N,hN⟩:=hE;refine⟨⟨N,fun n hn rec=>?_⟩,fun s' hs=>by cases hs;simp;omega⟩;have hN:aH n cs ds sz m bs.reverse x=_:=hN n hn;unfold atl nu;rw[(eD e).1];simp only[cond_true,(eD e).2,qAb,hN,PZ.el,vb];rw[iB (by simp;omega)];rfl) (s0:=[]) (qAs (qBj (qAL _)) hl)
 obtain⟨z,hrun⟩:=anU (σ:=Val×List Bound) (fun t=>aI g t bs) bs.reverse zf ks [];have h1:=Ev.eq h1 hrun;cases hs:gD (ks.map fun t=>aI g t bs) with
 | er e=>
  rw[hs] at h1;exact⟨awh _ ks (fun x hx=>(h x hx).er) e hs,z,Ev.bind h1 (Ev.ret _)⟩
 | ok l=>
  rw[hs] at h1;have hll:=ahu _ _ _ hs;refine dz.mono (fun v hv=>Ev.bind h1 hv) ?_;exact dz.pure (aoJ (by simp only[qAt];omega)) (Er.bnd _)
end
end
end Abs
end Go.Proofs.YtneeginmfjageaaGreat
