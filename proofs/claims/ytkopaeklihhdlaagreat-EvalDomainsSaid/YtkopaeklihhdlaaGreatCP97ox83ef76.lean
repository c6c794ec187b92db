/-
  The loops of the domains of both sides come to their lists. Conditions: none.
-/
import Derived.Test.YtkopaeklihhdlaaGreatCP96ox46a4f5
set_option linter.all false
namespace Go.Proofs.YtkopaeklihhdlaaGreat
namespace Abs
open Go
theorem Kz{α:Type}(pre:List α)(x:α)(suf:List α):idx (pre++x::suf) (pre.length:Int)=some x:=by simp[idx]
theorem U4(n:Nat)(rec:Env→S_api_Scope→Ty→Option (List Val))(s:S_api_Scope)(hlo:s.hi≤1000000000):∀(m:Nat) (x:Int) (acc:List Val),x+m=s.hi+1→ -1000000000≤x→acc.length+m≤1000000→∀k,m+1≤k→
  sM n rec s k (acc,x)=some (.nx (acc++ups (fun y=>.mk 1 y [] []) x m))
 |0,x,acc,h,h0,ha,k,hk=>by
  obtain⟨k,rfl⟩:∃j,k=j+1:=⟨k - 1,by omega⟩;have e:decide (x≤s.hi)=false:=by rw[decide_eq_false_iff_not];omega
  simp only[sM,e,cond_false,ups,qAK]
 |m+1,x,acc,h,h0,ha,k,hk=>by
  obtain⟨k,rfl⟩:∃j,k=j+1:=⟨k - 1,by omega⟩;have e:decide (x≤s.hi)=true:=by rw[decide_eq_true_iff];omega
  simp only[sM,e,cond_true];rw[wV (by simp;omega)];simp only[qAb];rw[←bT (n:=x+1) (by omega) (by omega),U4 n rec s hlo m (x+1) _ (by omega) (by omega) (by simp;omega) k (by omega)];simp[ups]
theorem ad1(n:Nat)(nm:Str)(b:Int):∀(m:Nat) (x:Int) (acc:List Val),x+m=b→acc.length+m≤1000000→∀k,m+1≤k→
  ng n nm b k (acc,x)=some (.nx (acc++ups (fun y=>.mk 3 y nm []) x m))
 |0,x,acc,h,ha,k,hk=>by
  obtain⟨k,rfl⟩:∃j,k=j+1:=⟨k - 1,by omega⟩;have e:decide (x<b)=false:=by rw[decide_eq_false_iff_not];omega
  simp only[ng,e,cond_false,ups,qAK]
 |m+1,x,acc,h,ha,k,hk=>by
  obtain⟨k,rfl⟩:∃j,k=j+1:=⟨k - 1,by omega⟩;have e:decide (x<b)=true:=by rw[decide_eq_true_iff];omega
  simp only[ng,e,cond_true];rw[wV (by simp;omega)];simp only[qAb];rw[ad1 n nm b m (x+1) _ (by omega) (by simp;omega) k (by omega)];simp[ups]
theorem aqm(nm:Str)(m:Nat)(hm:m≤1000):Ev (fun n=>jV n nm (m:Int)) (ups (fun y=>.mk 3 y nm []) 0 m):=by
 refine⟨m+1,fun n hn=>?_⟩;show jV n nm (m:Int)=_;unfold jV;rw[ad1 n nm m m 0 [] (by omega) (by simp;omega) n hn];rfl
theorem Wy(n:Nat)(rec:Env→S_api_Scope→Ty→Option (List Val))(env:Env)(s:S_api_Scope)(ty:Ty)(i b:Int)(hi:fT n env ty.name=some i)(hb:idx s.sizes i=some b):∀(m:Nat) (x:Int) (acc:List Val),x+m=b→acc.length+m≤1000000→∀k,m+1≤k→
  sU n rec env s ty k (acc,x)=some (.nx (acc++ups (fun y=>.mk 3 y ty.name []) x m))
 |0,x,acc,h,ha,k,hk=>by
  obtain⟨k,rfl⟩:∃j,k=j+1:=⟨k - 1,by omega⟩;have e:decide (x<b)=false:=by rw[decide_eq_false_iff_not];omega
  simp only[sU,hi,hb,qAb,e,cond_false,ups,qAK]
 |m+1,x,acc,h,ha,k,hk=>by
  obtain⟨k,rfl⟩:∃j,k=j+1:=⟨k - 1,by omega⟩;have e:decide (x<b)=true:=by rw[decide_eq_true_iff];omega
  simp only[sU,hi,hb,qAb,e,cond_true];rw[wV (by simp;omega)];simp only[qAb];rw[Wy n rec env s ty i b hi hb m (x+1) _ (by omega) (by simp;omega) k (by omega)];simp[ups]
theorem agV(n:Nat)(la:List Val)(lb:List Val)(st:List Val×Int)(a:Val)(ha:idx la st.2=some a):∀(suf pre:List Val),lb=pre++suf→∀(acc:List Val),acc.length+suf.length≤1000000→∀k,suf.length+1≤k→
  qG n la lb st k (acc,(pre.length:Int))=some (.nx (acc++suf.map fun b=>pV a b))
 |[],pre,e,acc,hl,k,hk=>by
  obtain⟨k,rfl⟩:∃j,k=j+1:=⟨k - 1,by omega⟩;have e1:decide ((pre.length:Int)<(lb.length:Int))=false:=by rw[decide_eq_false_iff_not,e];simp
  simp only[qG,e1,cond_false,qAM,qAK]
 |b::suf,pre,e,acc,hl,k,hk=>by
  obtain⟨k,rfl⟩:∃j,k=j+1:=⟨k - 1,by omega⟩;simp only[qAv]at hl hk;have e1:decide ((pre.length:Int)<(lb.length:Int))=true:=by rw[decide_eq_true_iff,e];simp;omega
  have e2:idx lb (pre.length:Int)=some b:=by rw[e];exact Kz _ _ _
  simp only[qG,e1,cond_true,ha,e2,qAb];rw[wV (by simp;omega)];simp only[qAb];have:=agV n la lb st a ha suf (pre++[b]) (by rw[e];simp) (acc++[pV a b]) (by simp;omega) k (by omega);rw[show((pre++[b]).length:Int)=(pre.length:Int)+1 from by simp]at this;rw[this];simp
theorem adN(n:Nat)(la lb:List Val)(hn:lb.length+1≤n):∀(suf pre:List Val),la=pre++suf→∀(acc:List Val),acc.length+suf.length*lb.length≤1000000→∀k,suf.length+1≤k→
  qI n la lb k (acc,(pre.length:Int))=some (.nx (acc++suf.flatMap fun a=>lb.map fun b=>pV a b))
 |[],pre,e,acc,hl,k,hk=>by
  obtain⟨k,rfl⟩:∃j,k=j+1:=⟨k - 1,by omega⟩;have e1:decide ((pre.length:Int)<(la.length:Int))=false:=by rw[decide_eq_false_iff_not,e];simp
  simp only[qI,e1,cond_false,List.flatMap_nil,qAK]
 |a::suf,pre,e,acc,hl,k,hk=>by
  obtain⟨k,rfl⟩:∃j,k=j+1:=⟨k - 1,by omega⟩;simp only[qAv,Nat.succ_mul]at hl hk;have e1:decide ((pre.length:Int)<(la.length:Int))=true:=by rw[decide_eq_true_iff,e];simp;omega
  have e2:idx la (pre.length:Int)=some a:=by rw[e];exact Kz _ _ _
  simp only[qI,e1,cond_true];have h1:=agV n la lb (acc,(pre.length:Int)) a e2 lb [] rfl acc (by omega) n hn;simp only[qAE]at h1;rw[show(((0:Nat)):Int)=0 from rfl]at h1;rw[h1];simp only[qAb,LR.el];have:=adN n la lb hn suf (pre++[a]) (by rw[e];simp) (acc++lb.map fun b=>pV a b) (by simp;omega) k (by omega);rw[show((pre++[a]).length:Int)=(pre.length:Int)+1 from by simp]at this;rw[this];simp
theorem ah8(la lb:List Val)(h:la.length*lb.length≤1000000):Ev (fun n=>zM n la lb) (la.flatMap fun a=>lb.map fun b=>pV a b):=by
 refine⟨la.length+lb.length+1,fun n hn=>?_⟩;show zM n la lb=_;unfold zM;have:=adN n la lb (by omega) la [] rfl [] (by simpa using h) n (by omega);simp only[qAE]at this;rw[show(((0:Nat)):Int)=0 from rfl]at this;rw[this];simp[LR.el]
theorem Sd(all fs0:List Val)(hf:fs0.length≤1000)(M:Nat)(H:∀(v:Val) (pre suf:List Val),all=pre++v::suf→suf.length<M→Ev (fun n=>qp n (fs0++[v]) all ((pre.length:Int)+1)) (bh (fs0++[v]) suf)):∀(suf pre:List Val),all=pre++suf→suf.length≤M→
  ∃N,∀n,N≤n→∀(acc:List Val),acc.length+2^suf.length≤1000000→∀k,suf.length+1≤k→sN n (qp n) fs0 all k (acc,(pre.length:Int))=some (.nx (acc++Fv fs0 suf))
 |[],pre,e,_=>⟨0,fun n _ acc _ k hk=>by
  obtain⟨k,rfl⟩:∃j,k=j+1:=⟨k - 1,by omega⟩;have e1:decide ((pre.length:Int)<(all.length:Int))=false:=by rw[decide_eq_false_iff_not,e];simp
  simp only[sN,e1,cond_false,Fv,qAK]⟩
 |v::suf,pre,e,hM=>by
  simp only[qAv]at hM;obtain⟨N1,h1⟩:=H v pre suf e (by omega);obtain⟨N2,h2⟩:=Sd all fs0 hf M H suf (pre++[v]) (by rw[e];simp) (by omega);refine⟨N1+N2,fun n hn acc ha k hk=>?_⟩;obtain⟨k,rfl⟩:∃j,k=j+1:=⟨k - 1,by omega⟩;simp only[qAv,Nat.pow_succ]at ha hk;have e1:decide ((pre.length:Int)<(all.length:Int))=true:=by rw[decide_eq_true_iff,e];simp;omega
  have e2:idx all (pre.length:Int)=some v:=by rw[e];exact Kz _ _ _
  have hl:=VE suf (fs0++[v]);simp only[sN,e1,cond_true,e2,qAb];rw[wV (by simp;omega)];simp only[qAb,qAY];rw[wV (by simp;omega)];simp only[qAb];rw[show qp n (fs0++[v]) all ((pre.length:Int)+1)=some _ from h1 n (by omega)];simp only[qAb];rw[wV (by omega)];simp only[qAb];have:=h2 n (by omega) (acc++bh (fs0++[v]) suf) (by rw[qAl,hl];omega) k (by omega);rw[show((pre++[v]).length:Int)=(pre.length:Int)+1 from by simp]at this;rw[this];simp[Fv,bh]
theorem aiW(all:List Val):∀(m:Nat) (suf pre fs0:List Val),suf.length<m→suf.length≤16→fs0.length+suf.length≤900→all=pre++suf→Ev (fun n=>qp n fs0 all (pre.length:Int)) (bh fs0 suf):=by
 intro m
 induction m with
 |zero=>intro suf pre fs0 hm;omega
 |succ m ih=>
  intro suf pre fs0 hm h16 hf e;refine Ev.succ ?_;obtain⟨N,h⟩:=Sd all fs0 (by omega) suf.length (fun v p s hh hs=>by
   have:=ih s (p++[v]) (fs0++[v]) (by omega) (by omega) (by simp;omega) (by rw[hh];simp);rw[show((p++[v]).length:Int)=(p.length:Int)+1 from by simp]at this;exact this) suf pre e (qAc _)
  refine⟨N+suf.length+1,fun n hn=>?_⟩;show vG n (qp n) fs0 all (pre.length:Int)=_;unfold vG;have h2:2^suf.length≤2^16:=qCY (by omega) h16;rw[h n (by omega) [.mk 5 0 [] fs0] (by simp only[qAy];omega) n (by omega)];simp[LR.el,bh]
theorem aaj:∀(cs:List Carrier) (ss:List Int),Cq cs ss=true→∀(j:Nat) (c:Carrier) (s:Int),cs[j]? =some c→ss[j]? =some s→1≤s∧s≤8
 |[],_,_,_,_,_,hc,_=>by simp at hc
 |_::_,[],_,_,_,_,_,hs=>by simp at hs
 |c::cs,s::ss,h,0,c',s',hc,hs=>by
  simp only[qAp,Option.some.injEq]at hc hs;subst hc hs;simp only[Cq,qAd,qBj,Y5]at h;have h:=h.1;by_cases h1:s<1
  ·rw[decide_eq_true h1]at h;simp at h
  ·by_cases h2:8<s
   ·rw[decide_eq_false h1,decide_eq_true h2]at h;simp at h
   ·omega
 |c::cs,s::ss,h,j+1,c',s',hc,hs=>by
  simp only[qBl]at hc hs;simp only[Cq,qAd]at h;exact aaj cs ss h.2 j c' s' hc hs
theorem ah0{env:Env}{sz:List Int}{nm:Str}(h:kS env sz=true)(hc:dn env nm=true):1≤PX env sz nm∧PX env sz nm≤8:=by
 have hl:=rP h;obtain⟨h0,h1⟩:=Rk hl hc;have hs:=(MR h1).2;have hlt:=(qAk.1 hs).1;have hf:Cq env.carriers sz=true:=by
  unfold kS at h;simp only[qAd]at h;exact h.2
 exact aaj _ _ hf _ _ _ (qAe (by omega)) hs
def EH(env:Env)(s:S_api_Scope)(t:Ty)(c:Int):Prop:=
 Ev (fun n=>qZ n env s t) c∧Ev (fun n=>ze n env s t) c∧(c= -1∨∃D:List Val,c=(D.length:Int)∧1≤D.length∧D.length≤65536∧
  (∃N,∀n m,N≤n→N≤m→BQ (fun cs ns nm=>lU m (Env.mk cs ns) nm) (jV m) env.carriers env.names s.sizes s.lo s.hi n t=some D)∧Ev (fun n=>tQ n env s t) D∧D.Pairwise nN∧∀v∈D,hasB env s.sizes t v=true)
theorem QD{n:Int}(h1: -9223372036854775808≤n)(h2:n≤9223372036854775807):IntKind.wrap .i64 n=n:=(bT h1 h2).symm
theorem Ko{c:Int}:Ev (fun _=>cond (decide (65536<c)) (some (-1)) (some c)) (cond (decide (65536<c)) (-1) c):=by
 cases decide (65536<c)<;>exact Ev.ret _
theorem Y2{c:Int}:Ev (fun _=>LR.el (fun(s1:Int)=>cond (decide (65536<s1)) (some (-1)) (some s1)) (fun r=>some r) (.nx c)) (cond (decide (65536<c)) (-1) c):=Ko
theorem anh(env:Env)(s:S_api_Scope)(h1: -1000000000≤s.lo)(h2:s.lo≤s.hi)(h3:s.hi≤1000000000):∃c,EH env s (.mk 1 [] []) c:=by
 obtain⟨m,hm⟩:∃m:Nat,m=(s.hi - s.lo+1).toNat:=⟨_,rfl⟩;have hm':(m:Int)=s.hi - s.lo+1:=by omega
 have hw:IntKind.wrap .i64 ((IntKind.wrap .i64 (s.hi - s.lo))+1)=(m:Int):=by
  rw[QD (n:=s.hi - s.lo) (by omega) (by omega),QD (by omega) (by omega)];omega
 refine⟨cond (decide (65536<(m:Int))) (-1) (m:Int),?_,?_,?_⟩
 ·refine Ev.succ ?_;show Ev (fun n=>eZ n _ env s (.mk 1 [] [])) _;unfold eZ;refine Ev.bind (a:=(m:Int)) ?_ Ko;refine Ev.pos rfl ?_;rw[hw];exact Ev.ret _
 ·refine Ev.succ ?_;show Ev (fun n=>gI n _ env s (.mk 1 [] [])) _;unfold gI;refine Ev.bind (a:=.nx (m:Int)) ?_ Y2;refine Ev.pos rfl ?_;rw[hw];exact Ev.ret _
 ·by_cases hb:65536<(m:Int)
  ·rw[decide_eq_true hb];exact .inl rfl
  rw[decide_eq_false hb];refine .inr ⟨ups (fun y=>.mk 1 y [] []) s.lo m,by rw[Bq];rfl,by rw[Bq];omega,by rw[Bq];omega,?_,?_,XU (fun a b h=>aie h) m s.lo,?_⟩
  ·refine⟨1,fun n m' hn _=>?_⟩;obtain⟨n,rfl⟩:∃j,n=j+1:=⟨n - 1,by omega⟩;simp only[BQ];rw[show((Ty.mk 1 [] []).kind==1)=true from rfl,cond_true,decide_eq_true h1,decide_eq_true h3,qCf,cond_true,aan,←hm]
  ·refine Ev.succ ?_;show Ev (fun n=>iq n _ env s (.mk 1 [] [])) _;unfold iq;refine Ev.bind (a:=ups (fun y=>.mk 1 y [] []) s.lo m) ?_ (Ev.ret _);refine Ev.pos rfl ?_;refine⟨m+1,fun n hn=>?_⟩;have:=U4 n (tQ n) s h3 m s.lo [] (by omega) h1 (by simp;omega) n hn;simp only[this,qAb,LR.el,qAY]
  ·intro v hv;obtain⟨y,g1,g2,rfl⟩:=Rj hv;rw[show hasB env s.sizes (.mk 1 [] []) (.mk 1 y [] [])=Mq (.mk 1 y [] [])from rfl];simp only[Mq,Val.kind,Val.name,Val.kids,Val.n];simp;exact⟨decide_eq_true (by omega),decide_eq_true (by omega)⟩
theorem alg(env:Env)(s:S_api_Scope):EH env s (.mk 2 [] []) 2:=by
 refine⟨?_,?_,.inr ⟨[tV false,tV true],rfl,by simp,by simp,?_,?_,?_,?_⟩⟩
 ·refine Ev.succ ?_;show Ev (fun n=>eZ n _ env s (.mk 2 [] [])) _;unfold eZ;refine Ev.bind (a:=2) ?_ Ko;exact Ev.neg rfl (Ev.pos rfl (Ev.ret _))
 ·refine Ev.succ ?_;show Ev (fun n=>gI n _ env s (.mk 2 [] [])) _;unfold gI;refine Ev.bind (a:=.nx 2) ?_ Y2;exact Ev.neg rfl (Ev.neg rfl (Ev.neg rfl (Ev.neg rfl (Ev.ret _))))
 ·refine⟨1,fun n m' hn _=>?_⟩;obtain⟨n,rfl⟩:∃j,n=j+1:=⟨n - 1,by omega⟩;rfl
 ·refine Ev.succ ?_;show Ev (fun n=>iq n _ env s (.mk 2 [] [])) _;unfold iq;refine Ev.bind (a:=[tV false,tV true]) ?_ (Ev.ret _);exact Ev.neg rfl (Ev.pos rfl (Ev.of fun n=>rfl))
 ·refine .cons (fun v hv=>?_) (.cons (fun v hv=>by cases hv) .nil);simp only[List.mem_singleton]at hv;subst hv;exact aie (by decide)
 ·intro v hv;simp only[qAs,qCg,or_false]at hv;rcases hv with rfl|rfl<;>rfl
theorem aoG(env:Env)(s:S_api_Scope)(hf:kS env s.sizes=true)(nm:Str)(hc:dn env nm=true):∃c,EH env s (.mk 3 nm []) c:=by
 obtain⟨h0,h1⟩:=Rk (rP hf) hc;obtain⟨g1,g2⟩:=ah0 hf hc;obtain⟨m,hm⟩:∃m:Nat,(m:Int)=PX env s.sizes nm:=⟨(PX env s.sizes nm).toNat,by omega⟩;rw[←hm]at h1 g1 g2;have hb:¬65536<(m:Int):=by omega
 refine⟨(m:Int),?_,?_,.inr ⟨ups (fun y=>.mk 3 y nm []) 0 m,by rw[Bq],by rw[Bq];omega,by rw[Bq];omega,?_,?_,XU (fun a b h=>aie h) m 0,?_⟩⟩
 ·refine Ev.succ ?_;show Ev (fun n=>eZ n _ env s (.mk 3 nm [])) _;unfold eZ;refine Ev.bind (a:=(m:Int)) ?_ (by have:=Ko (c:=(m:Int));rwa[decide_eq_false hb]at this⊢);refine Ev.neg rfl (Ev.neg rfl (Ev.pos rfl ?_));refine Ev.bind (ML env nm) ?_;rw[decide_eq_true h0];simp only[cond_true,h1,qAb];exact Ev.ret _
 ·refine Ev.succ ?_;show Ev (fun n=>gI n _ env s (.mk 3 nm [])) _;unfold gI;refine Ev.bind (a:=.nx (m:Int)) ?_ (by have:=Ko (c:=(m:Int));rw[decide_eq_false hb]at this;simp only[LR.el];rw[decide_eq_false hb];exact Ev.ret _);refine Ev.neg rfl (Ev.pos rfl ?_);refine Ev.bind (rX env nm) ?_;simp only[h1,qAb];exact Ev.ret _
 ·obtain⟨N1,e1⟩:=ML env nm;obtain⟨N2,e2⟩:=aqm nm m (by omega);refine⟨N1+N2+1,fun n m' hn hm'=>?_⟩;obtain⟨n,rfl⟩:∃j,n=j+1:=⟨n - 1,by omega⟩;have e2':jV m' nm (m:Int)=some _:=e2 m' (by omega);have e1':lU m' env nm=some _:=e1 m' (by omega);show((lU m' env nm).bind fun i=>(idx s.sizes i).bind fun k=>(jV m' nm k).bind fun l=>bif Nat.ble l.length 100000 then some l else none)=_;rw[e1',qAb,h1,qAb,e2',qAb,Bq];rw[show Nat.ble m 100000=true from qCn (by omega)];rfl
 ·refine Ev.succ ?_;show Ev (fun n=>iq n _ env s (.mk 3 nm [])) _;unfold iq;refine Ev.bind (a:=ups (fun y=>.mk 3 y nm []) 0 m) ?_ (Ev.ret _);refine Ev.neg rfl (Ev.neg rfl (Ev.pos rfl ?_));obtain⟨N1,e1⟩:=rX env nm;refine⟨N1+m+1,fun n hn=>?_⟩;have:=Wy n (tQ n) env s (.mk 3 nm []) _ (m:Int) (e1 n (by omega)) h1 m 0 [] (by omega) (by simp;omega) n (by omega);simp only[this,qAb,LR.el,qAY];rfl
 ·intro v hv;obtain⟨y,q1,q2,rfl⟩:=Rj hv;rw[show hasB env s.sizes (.mk 3 nm []) (.mk 3 y nm [])=Na env s.sizes nm (.mk 3 y nm [])from rfl];simp only[Na,Val.kind,Val.name,Val.kids,Val.n];simp;exact⟨decide_eq_true (by omega),decide_eq_true (by omega)⟩
theorem ahj{env:Env}{s:S_api_Scope}{t:Ty}{c:Int}(h:EH env s t c): -1≤c∧c≤65536:=by
 rcases h.2.2 with h|⟨D,h,_,h2,_⟩<;>omega
theorem akB(env:Env)(s:S_api_Scope)(a b:Ty){ca cb:Int}(ha:EH env s a ca)(hb:EH env s b cb):∃c,EH env s (.mk 4 [] [a,b]) c:=by
 have ra:=ahj ha;have rb:=ahj hb;have hpb:0≤ca→0≤cb→0≤ca*cb∧ca*cb≤65536*65536:=fun h1 h2=>⟨Int.mul_nonneg h1 h2,Int.mul_le_mul ra.2 rb.2 h2 (by omega)⟩;obtain⟨p,hp⟩:∃p,p=(cond (decide (0≤ca)&&decide (0≤cb)) (ca*cb) (-1):Int):=⟨_,rfl⟩;have i0:idx [a,b] 0=some a:=rfl;have i1:idx [a,b] 1=some b:=rfl;refine⟨cond (decide (65536<p)) (-1) p,?_,?_,?_⟩
 ·refine Ev.succ ?_;show Ev (fun n=>eZ n _ env s (.mk 4 [] [a,b])) _;unfold eZ;refine Ev.bind (a:=p) ?_ Ko;refine Ev.neg rfl (Ev.neg rfl (Ev.neg rfl (Ev.pos rfl ?_)));simp only[Ty.kids,i0,i1,qAb];refine Ev.bind ha.1 (Ev.bind hb.1 ?_);rw[hp];by_cases h1:0≤ca
  ·by_cases h2:0≤cb
   ·simp only[decide_eq_true h1,decide_eq_true h2,cond_true,qAb,qCC];have:=hpb h1 h2;rw[QD (n:=ca*cb) (by omega) (by omega)];exact Ev.ret _
   ·simp only[decide_eq_true h1,decide_eq_false h2,cond_true,qAb,cond_false,qBT];exact Ev.ret _
  ·simp only[decide_eq_false h1,cond_false,qAb,qBb];exact Ev.ret _
 ·refine Ev.succ ?_;show Ev (fun n=>gI n _ env s (.mk 4 [] [a,b])) _;unfold gI;refine Ev.bind (a:=cond (decide (0≤ca)&&decide (0≤cb)) (.nx p) (.rt (-1))) ?_ ?_
  ·refine Ev.neg rfl (Ev.neg rfl (Ev.pos rfl ?_));simp only[Ty.kids,i0,i1,qAb];refine Ev.bind ha.2.1 (Ev.bind hb.2.1 ?_);rw[hp];by_cases h1:0≤ca
   ·by_cases h2:0≤cb
    ·simp only[decide_eq_true h1,decide_eq_true h2,decide_eq_false (show ¬ca<0 by omega),decide_eq_false (show ¬cb<0 by omega),cond_true,cond_false,qAb,qCC];have:=hpb h1 h2;rw[QD (n:=ca*cb) (by omega) (by omega)];exact Ev.ret _
    ·simp only[decide_eq_true h1,decide_eq_false h2,decide_eq_false (show ¬ca<0 by omega),decide_eq_true (show cb<0 by omega),qAb,cond_true,cond_false,qBT];exact Ev.ret _
   ·simp only[decide_eq_false h1,decide_eq_true (show ca<0 by omega),cond_true,cond_false,qAb,qBb];exact Ev.ret _
  ·rw[hp];by_cases h1:0≤ca
   ·by_cases h2:0≤cb
    ·simp only[decide_eq_true h1,decide_eq_true h2,cond_true,qCC];exact Y2
    ·simp only[decide_eq_true h1,decide_eq_false h2,cond_false,qBT,LR.el];exact Ev.ret _
   ·simp only[decide_eq_false h1,cond_false,qBb,LR.el];exact Ev.ret _
 ·by_cases hbig:65536<p
  ·rw[decide_eq_true hbig];exact .inl rfl
  rw[decide_eq_false hbig];simp only[cond_false];rcases ha.2.2 with rfl|⟨la,rfl,a1,a2,a3,a4,a5,a6⟩
  ·exact .inl hp
  rcases hb.2.2 with rfl|⟨lb,rfl,b1,b2,b3,b4,b5,b6⟩
  ·rw[hp,show decide ((0:Int)≤ -1)=false from rfl,qBT];exact .inl rfl
  rw[decide_eq_true (show(0:Int)≤(la.length:Int) by omega),decide_eq_true (show(0:Int)≤(lb.length:Int) by omega),qCC,cond_true]at hp;have hp2:p=((la.length*lb.length:Nat):Int):=by rw[hp];simp
  have hle:la.length*lb.length≤65536:=by omega
  refine .inr ⟨la.flatMap fun a=>lb.map fun b=>pV a b,by rw[Ot,hp2],?_,by rw[Ot];exact hle,?_,?_,ai2 a5 b5,?_⟩
  ·rw[Ot];exact Nat.mul_pos a1 b1
  ·obtain⟨N1,e1⟩:=a3;obtain⟨N2,e2⟩:=b3;refine⟨N1+N2+1,fun n m hn hm=>?_⟩;obtain⟨n,rfl⟩:∃j,n=j+1:=⟨n - 1,by omega⟩;show((idx [a,b] 0).bind fun t0=>(BQ _ _ _ _ _ _ _ n t0).bind fun la=>(idx [a,b] 1).bind fun t1=>(BQ _ _ _ _ _ _ _ n t1).bind fun lb=>some (la.flatMap fun a=>lb.map fun b=>pV a b))=_;rw[i0,qAb,e1 n m (by omega) (by omega),qAb,i1,qAb,e2 n m (by omega) (by omega)];rfl
  ·refine Ev.succ ?_;show Ev (fun n=>iq n _ env s (.mk 4 [] [a,b])) _;unfold iq;refine Ev.bind (a:=la.flatMap fun a=>lb.map fun b=>pV a b) ?_ (Ev.ret _);refine Ev.neg rfl (Ev.neg rfl (Ev.neg rfl (Ev.pos rfl ?_)));simp only[Ty.kids,i0,i1,qAb];exact Ev.bind a4 (Ev.bind b4 (Ev.bind (ah8 la lb (by omega)) (Ev.ret _)))
  ·intro v hv;obtain⟨x,hx,y,hy,rfl⟩:=Zy hv;simp only[hasB,JI,pV,Val.kind,Val.name,Val.kids,Val.n,a6 x hx,b6 y hy];rfl
theorem an8(env:Env)(s:S_api_Scope)(a:Ty){ca:Int}(ha:EH env s a ca):∃c,EH env s (.mk 5 [] [a]) c:=by
 have ra:=ahj ha;have i0:idx [a] 0=some a:=rfl;by_cases hk:0≤ca∧ca≤16
 rotate_left
 ·refine⟨-1,?_,?_,.inl rfl⟩
  ·refine Ev.succ ?_;show Ev (fun n=>eZ n _ env s (.mk 5 [] [a])) _;unfold eZ;refine Ev.bind (a:= -1) ?_ (Ev.of fun n=>rfl);refine Ev.neg rfl (Ev.neg rfl (Ev.neg rfl (Ev.neg rfl (Ev.pos rfl ?_))));simp only[Ty.kids,i0,qAb];refine Ev.bind ha.1 ?_;by_cases h1:0≤ca
   ·simp only[decide_eq_true h1,decide_eq_false (show ¬ca≤16 by omega),cond_true,cond_false,qAb];exact Ev.ret _
   ·simp only[decide_eq_false h1,cond_false,qAb];exact Ev.ret _
  ·refine Ev.succ ?_;show Ev (fun n=>gI n _ env s (.mk 5 [] [a])) _;unfold gI;refine Ev.bind (a:=.rt (-1)) ?_ (Ev.of fun n=>rfl);refine Ev.neg rfl (Ev.neg rfl (Ev.neg rfl (Ev.pos rfl ?_)));simp only[Ty.kids,i0,qAb];refine Ev.bind ha.2.1 ?_;by_cases h1:ca<0
   ·simp only[decide_eq_true h1,cond_true,qAb];exact Ev.ret _
   ·simp only[decide_eq_false h1,decide_eq_true (show 16<ca by omega),cond_true,cond_false,qAb];exact Ev.ret _
 obtain⟨h1,h2⟩:=hk;rcases ha.2.2 with rfl|⟨l,rfl,a1,a2,a3,a4,a5,a6⟩
 ·omega
 have hl:l.length≤16:=by omega
 have hpow:2^l.length≤2^16:=qCY (by omega) hl;have hsh:∀c:Int,c=(l.length:Int)→Qs 1 c=some ((2^l.length:Nat):Int):=by
  rintro _ rfl;unfold Qs;rw[if_pos (by omega),show((l.length:Int)).toNat=l.length from rfl];rw[QD]
  ·simp
  ·have:(0:Int)≤1*2^l.length:=by
    rw[Int.one_mul];exact qCo (Int.pow_pos (by decide))
   omega
  ·have:((2^l.length:Nat):Int)≤65536:=by omega
   rw[Int.natCast_pow]at this;simpa using qCI this (by decide)
 have hu:IntKind.wrap .u64 (l.length:Int)=(l.length:Int):=by
  simp only[IntKind.wrap,IntKind.signed,IntKind.bits];simp;omega
 refine⟨((2^l.length:Nat):Int),?_,?_,.inr ⟨bh [] l,by rw[VE],by rw[VE];exact Nat.one_le_two_pow,by rw[VE];omega,?_,?_,apW a5,?_⟩⟩
 ·refine Ev.succ ?_;show Ev (fun n=>eZ n _ env s (.mk 5 [] [a])) _;unfold eZ;refine Ev.bind (a:=((2^l.length:Nat):Int)) ?_ (by rw[decide_eq_false (by omega)];exact Ev.ret _);refine Ev.neg rfl (Ev.neg rfl (Ev.neg rfl (Ev.neg rfl (Ev.pos rfl ?_))));simp only[Ty.kids,i0,qAb];refine Ev.bind ha.1 ?_;simp only[decide_eq_true h1,decide_eq_true h2,cond_true,qAb,hsh _ rfl];exact Ev.ret _
 ·refine Ev.succ ?_;show Ev (fun n=>gI n _ env s (.mk 5 [] [a])) _;unfold gI;refine Ev.bind (a:=.nx ((2^l.length:Nat):Int)) ?_ (by simp only[LR.el];rw[decide_eq_false (by omega)];exact Ev.ret _);refine Ev.neg rfl (Ev.neg rfl (Ev.neg rfl (Ev.pos rfl ?_)));simp only[Ty.kids,i0,qAb];refine Ev.bind ha.2.1 ?_;simp only[decide_eq_false (show ¬(l.length:Int)<0 by omega),decide_eq_false (show ¬16<(l.length:Int) by omega),cond_false,qAb,hu,hsh _ rfl];exact Ev.ret _
 ·obtain⟨N1,e1⟩:=a3;refine⟨N1+1,fun n m hn hm=>?_⟩;obtain⟨n,rfl⟩:∃j,n=j+1:=⟨n - 1,by omega⟩;show((idx [a] 0).bind fun t0=>(BQ _ _ _ _ _ _ _ n t0).bind fun l=>bif Nat.ble l.length 100000 then some (bh [] l)else none)=_;rw[i0,qAb,e1 n m (by omega) (by omega),qAb,show Nat.ble l.length 100000=true from qCn (by omega)];rfl
 ·refine Ev.succ ?_;show Ev (fun n=>iq n _ env s (.mk 5 [] [a])) _;unfold iq;refine Ev.bind (a:=bh [] l) ?_ (Ev.ret _);refine Ev.neg rfl (Ev.neg rfl (Ev.neg rfl (Ev.neg rfl (Ev.pos rfl ?_))));simp only[Ty.kids,i0,qAb];exact Ev.bind a4 (Ev.bind (aiW l (l.length+1) l [] [] (by omega) hl (by simp;omega) rfl) (Ev.ret _))
 ·intro v hv;obtain⟨y,rfl,hy⟩:=apS hv;have hyl:=hy.length_le;have hall:(y.all fun v=>hasB env s.sizes a v)=true:=qAC.2 fun v hv=>a6 v (hy.subset hv);simp only[hasB,YR,Val.kind,Val.name,Val.kids,Val.n,qAY,hall,afJ (a5.sublist hy)];simp;first|omega|exact decide_eq_false (by omega)
theorem al5(env:Env)(s:S_api_Scope)(hf:kS env s.sizes=true)(h1: -1000000000≤s.lo)(h2:s.lo≤s.hi)(h3:s.hi≤1000000000):∀{t:Ty},Shp t→(dL t).all (dn env)=true→∃c,EH env s t c:=by
 intro t h
 induction h with
 |int=>intro _;exact anh env s h1 h2 h3
 |bool=>intro _;exact⟨2,alg env s⟩
 |car nm=>intro hc;exact aoG env s hf nm (by simpa[dL]using hc)
 |@pair a b _ _ iha ihb=>
  intro hc;simp only[dL,jP,qAK,show((4:Int)==3)=false from rfl,cond_false,List.all_append,qAd]at hc;obtain⟨ca,ha⟩:=iha hc.1;obtain⟨cb,hb⟩:=ihb hc.2;exact akB env s a b ha hb
 |@set a _ ih=>
  intro hc;simp only[dL,jP,qAK,show((5:Int)==3)=false from rfl,cond_false]at hc;obtain⟨ca,ha⟩:=ih hc;exact an8 env s a ha
theorem ajZ:∀(l:List Val),(∀v∈l,Ev (fun n=>dV n v) v)→Ev (fun n=>Zz (dV n) l) l
 |[],_=>Ev.ret _
 |v::l,h=>by
  simp only[Zz];exact Ev.bind (h v (by simp)) (Ev.bind (ajZ l fun u hu=>h u (by simp[hu])) (Ev.ret _))
theorem akD{pre suf:List Val}{u v:Val}(h:(pre++[u]++v::suf).Pairwise nN):nN u v:=by
 have:=(qCu.1 h).2.2 u (by simp) v (by simp);exact this
theorem ads(env:Env)(s:S_api_Scope)(t:Ty)(hs:∀d∈env.names,d.name.length≤9223372036854775807)(D:List Val)(e:Int)(hD:D.Pairwise nN)(hB:∀v∈D,OH env s.sizes v t=true):∀(suf pre:List Val),D=pre++suf→∃N,∀n,N≤n→∀k,suf.length+1≤k→l6 n env s t (D,e) k (pre.length:Int)=some (.nx ())
 |[],pre,h=>⟨0,fun n _ k hk=>by
  obtain⟨k,rfl⟩:∃j,k=j+1:=⟨k - 1,by omega⟩;have e1:decide ((pre.length:Int)<(D.length:Int))=false:=by rw[decide_eq_false_iff_not,h];simp
  simp only[l6,e1,cond_false]⟩
 |v::suf,pre,h=>by
  obtain⟨N1,h1⟩:=ako env s.sizes v t hs;obtain⟨N2,h2⟩:=ads env s t hs D e hD hB suf (pre++[v]) (by rw[h];simp);have hv:OH env s.sizes v t=true:=hB v (by rw[h];simp);rw[hv]at h1;have e2:idx D (pre.length:Int)=some v:=by rw[h];exact Kz _ _ _
  have e1:decide ((pre.length:Int)<(D.length:Int))=true:=by rw[decide_eq_true_iff,h];simp;omega
  have hstep:∃N3,∀n,N3≤n→(cond (decide (0<(pre.length:Int))) ((idx D ((pre.length:Int) - 1)).bind fun(x11:Val)=>((idx D (pre.length:Int)).bind fun(x12:Val)=>((dW n x11 x12).bind fun(x13:Int)=>some (decide (0≤x13))))) (some false))=some false:=by
   cases qCm pre with
   |inl hp=>subst hp;exact⟨0,fun n _=>rfl⟩
   |inr hp=>
    obtain⟨pre',u,rfl⟩:=hp;have hlt:nN u v:=akD (by rw[qBS]at h;rw[←h];exact hD);obtain⟨N3,h3⟩:=uD u v;refine⟨N3,fun n hn=>?_⟩;have e3:idx D (((pre'.concat u).length:Int) - 1)=some u:=by
     have:(((pre'.concat u).length:Int) - 1)=(pre'.length:Int):=by simp
     rw[this,h,qBS,qAN];exact Kz _ _ _
    have h3':dW n u v=some (dJ u v):=h3 n hn;unfold nN at hlt;rw[decide_eq_true (show(0:Int)<((pre'.concat u).length:Int) by simp),e3,e2];simp only[cond_true,qAb,h3',decide_eq_false (show ¬0≤dJ u v by omega)]
  obtain⟨N3,h3⟩:=hstep;refine⟨N1+N2+N3,fun n hn k hk=>?_⟩;obtain⟨k,rfl⟩:∃j,k=j+1:=⟨k - 1,by omega⟩;simp only[qAv]at hk;have h1':AX n env s.sizes v t=some true:=h1 n (by omega);have h3':=h3 n (by omega);have h2':=h2 n (by omega) k (by omega);rw[show((pre++[v]).length:Int)=(pre.length:Int)+1 from by simp]at h2';simp only[l6,e1,cond_true];rw[e2]at h3'⊢;simp only[qAb,h1',qAB,cond_false]at h3'⊢;rw[h3'];simp only[qAb,cond_false];exact h2'
theorem Vt(env:Env)(s:S_api_Scope)(t:Ty)(hs:∀d∈env.names,d.name.length≤9223372036854775807):Ev (fun n=>zC n env s t) true:=by
 have aw:Ev (fun n=>(lX n).bind fun x=>some x) true:=Ev.bind (a:=true) (Ev.ret _) (Ev.ret _);have awL:Ev (fun n=>LR.el (fun(_:Unit)=>((lX n).bind fun x=>some x)) (fun r=>some r) (.nx ())) true:=aw;unfold zC y9;refine Ev.bind (a:=decide ((env.carriers.length:Int)≤100)&&decide ((env.names.length:Int)≤100)) ?_ ?_
 ·cases decide ((env.carriers.length:Int)≤100)<;>exact Ev.ret _
 cases(decide ((env.carriers.length:Int)≤100)&&decide ((env.names.length:Int)≤100))with
 |false=>exact aw
 |true=>
 simp only[qAB,cond_false];have hsv:∀l:List Val,Ev (fun n=>jw n l l) true:=fun l=>by
  have:=abf l l;rwa[(Ck l l).2 rfl]at this
 -- what both sides ask first
 obtain⟨ok,hok⟩:∃ok,ok=(PS env s&&Cw env t):=⟨_,rfl⟩;have g1:Ev (fun n=>(((l9 n env s).bind fun(x2:Bool)=>(cond (!x2) (some true) ((uM n env t).bind fun(x3:Bool)=>some (!x3)))):Option Bool)) (!ok):=by
  refine Ev.bind (Ns env s hs) ?_;rw[hok];cases PS env s with
  |false=>exact Ev.ret _
  |true=>
   simp only[qAB,cond_false,qAr];exact Ev.bind (ada env t) (Ev.ret _)
 have g2:Ev (fun n=>(((oN n env s).bind fun(x2:Bool)=>(cond (!x2) (some true) ((eY n t).bind fun(x3:Bool)=>(cond (!x3) (some true) ((pI n env t).bind fun(x4:Bool)=>some (!x4)))))):Option Bool)) (!ok):=by
  refine Ev.bind (KD env s) ?_;rw[hok];cases PS env s with
  |false=>exact Ev.ret _
  |true=>
   simp only[qAB,cond_false,qAr];refine Ev.bind (yH t) ?_;unfold Cw;cases ht:gW t with
   |false=>exact Ev.ret _
   |true=>
    simp only[qAB,cond_false,qAr];exact Ev.bind (MC env ht) (Ev.ret _)
 cases ok with
 |false=>
  have c1:Ev (fun n=>xH n env s t) (-1):=by
   unfold xH;exact Ev.bind g1 (Ev.ret _)
  have c2:Ev (fun n=>Az n env s t) (-1):=by
   unfold Az;exact Ev.bind g2 (Ev.ret _)
  have d1:Ev (fun n=>pX n env s t) ([],1):=by
   unfold pX;exact Ev.bind g1 (Ev.ret _)
  have d2:Ev (fun n=>uK n env s t) ([],1):=by
   unfold uK;exact Ev.bind g2 (Ev.ret _)
  refine Ev.bind c1 (Ev.bind c2 (Ev.neg rfl (Ev.neg rfl (Ev.bind d1 (Ev.bind d2 (Ev.bind (a:=false) ?_ ?_))))))
  ·exact Ev.neg rfl (Ev.bind (hsv []) (Ev.ret _))
  ·refine Ev.neg rfl (Ev.bind (a:=.nx ()) ⟨1,fun n hn=>?_⟩ awL);obtain⟨n,rfl⟩:∃j,n=j+1:=⟨n - 1,by omega⟩;rfl
 |true=>
  have hok':=hok.symm;simp only[qAd,PS,Cw,decide_eq_true_eq]at hok';obtain⟨⟨k1,k2,k3,k4,k5⟩,k6,k7⟩:=hok';obtain⟨c,q1,q2,q3⟩:=al5 env s k2 k3 k4 k5 (oh k6) k7;have c1:Ev (fun n=>xH n env s t) c:=by
   unfold xH;exact Ev.bind g1 (Ev.bind q1 (Ev.ret _))
  have c2:Ev (fun n=>Az n env s t) c:=by
   unfold Az;exact Ev.bind g2 (Ev.bind q2 (Ev.ret _))
  refine Ev.bind c1 (Ev.bind c2 (Ev.neg (by simp) ?_));rcases q3 with rfl|⟨D,rfl,p1,p2,p3,p4,p5,p6⟩
  ·refine Ev.neg rfl ?_;have d1:Ev (fun n=>pX n env s t) ([],42):=by
    unfold pX;exact Ev.bind g1 (Ev.bind q1 (Ev.ret _))
   have d2:Ev (fun n=>uK n env s t) ([],42):=by
    unfold uK;exact Ev.bind g2 (Ev.bind q2 (Ev.ret _))
   refine Ev.bind d1 (Ev.bind d2 (Ev.bind (a:=false) ?_ ?_))
   ·exact Ev.neg rfl (Ev.bind (hsv []) (Ev.ret _))
   ·refine Ev.neg rfl (Ev.bind (a:=.nx ()) ⟨1,fun n hn=>?_⟩ awL);obtain⟨n,rfl⟩:∃j,n=j+1:=⟨n - 1,by omega⟩;rfl
  ·by_cases hbig:(5000:Int)<(D.length:Int)
   ·exact Ev.pos (decide_eq_true hbig) aw
   refine Ev.neg (decide_eq_false hbig) ?_;have hneg:decide ((D.length:Int)<0)=false:=decide_eq_false (by omega);have d1:Ev (fun n=>pX n env s t) (D,0):=by
    unfold pX;refine Ev.bind g1 (Ev.bind q1 (Ev.neg hneg ?_));obtain⟨N,hN⟩:=p3;refine Ev.bind (a:=D) ⟨N,fun n hn=>hN n n hn hn⟩ ?_;rw[show Nat.ble D.length 100000=true from qCn (by omega)];refine Ev.bind (ajZ D fun v hv=>FH v (JE (oh k6) v (p6 v hv))) (Ev.ret _)
   have d2:Ev (fun n=>uK n env s t) (D,0):=by
    unfold uK;exact Ev.bind g2 (Ev.bind q2 (Ev.neg hneg (Ev.bind p4 (Ev.ret _))))
   have hH:∀v∈D,OH env s.sizes v t=true:=fun v hv=>by
    simp only[OH,Cw,k1,k2,k6,k7,p6 v hv];rfl
   refine Ev.bind d1 (Ev.bind d2 (Ev.bind (a:=false) ?_ ?_))
   ·refine Ev.neg rfl (Ev.bind (hsv D) ?_);refine Ev.neg rfl (Ev.pos rfl ?_);rw[bne_self_eq_false];exact Ev.ret _
   ·refine Ev.neg rfl (Ev.bind (a:=.nx ()) ?_ awL);obtain⟨N,hN⟩:=ads env s t hs D 0 p5 hH D [] rfl;exact⟨N+D.length+1,fun n hn=>hN n (by omega) n (by omega)⟩
end Abs
end Go.Proofs.YtkopaeklihhdlaaGreat
