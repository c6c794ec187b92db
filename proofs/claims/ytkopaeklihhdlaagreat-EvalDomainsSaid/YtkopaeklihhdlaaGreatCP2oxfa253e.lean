/-
  Identifiers and names: the program's functions and the document's come to the same plain answer. Conditions: none; lemmas without a program.
-/
import Derived.Test.YtkopaeklihhdlaaGreatCP1ox39a9ae
set_option linter.all false
namespace Go.Proofs.YtkopaeklihhdlaaGreat
namespace Abs
open Go
def Hl(c:Int):Bool:=(decide (97≤c)&&decide (c≤122)) ||(decide (65≤c)&&decide (c≤90))
def Og(c:Int):Bool:=decide (48≤c)&&decide (c≤57)
def yB(c:Int):Bool:=Hl c ||(Og c ||c==95)
theorem KM(n:Nat)(c:Int):pW n c=some (Hl c):=by
 unfold pW Hl;cases decide (97≤c)<;>cases decide (c≤122)<;>cases decide (65≤c)<;>rfl
theorem Qg(n:Nat)(c:Int):rO n c=some (Hl c):=by
 unfold rO Hl;cases decide (97≤c)<;>cases decide (c≤122)<;>cases decide (65≤c)<;>rfl
theorem aaQ(n:Nat)(c:Int):wU n c=some (Og c):=by
 unfold wU Og;cases decide (48≤c)<;>rfl
theorem ae8(n:Nat)(c:Int):uP n c=some (Og c):=by
 unfold uP Og;cases decide (48≤c)<;>rfl
theorem Ye(n:Nat)(c:Int):uV n c=some (yB c):=by
 unfold uV yB;rw[KM,aaQ];cases Hl c<;>cases Og c<;>rfl
theorem LM(p0:Str)(l:List Str):Ev (fun n=>oU n p0 l) (l.any fun x=>x==p0):=by
 unfold oU;have h:=kV l (fun n k i=>Ig n p0 l k i) (fun _ x=>some (x==p0)) (fun x=>x==p0) true (fun n k i=>rfl) (fun x _=>Ev.ret _);refine Ev.bind h ?_;cases l.any fun x=>x==p0
 ·exact Ev.ret _
 ·exact Ev.ret _
def kws:List Str:=[[116,114,117,101],[102,97,108,115,101],[110,111,116],[111,114],[102,111,114,97,108,108],[101,120,105,115,116,115],[105,110],[110,111,116,105,110],[115,117,98],[109,111,100],[102,117,110],[99,97,114,100],[109,105,110],[109,97,120],[100,111,109],[114,97,110],[80,79,87],[105,110,116],[98,111,111,108],[115,101,116],[112,97,105,114]]
def kwB(s:Str):Bool:=kws.any fun x=>x==s
theorem abm(s:Str):Ev (fun n=>zD n s) (kwB s):=by
 unfold zD;exact Ev.bind (LM s _) (Ev.ret _)
theorem chainB(a b:Bool):cond a (some a) (some b)=some (a ||b):=by cases a<;>rfl
theorem VU(n:Nat)(s:Str):qg n s=some (kwB s):=by
 unfold qg;simp only[chainB,qAb];have h:∀b:Bool,cond b (some true) (some false)=some b:=fun b=>by cases b<;>rfl
 rw[h];simp only[kwB,kws,qDa,List.any_nil,qCz];simp only[BEq.comm (a:=s)]
def ident(s:Str):Bool:=match s with
 |[]=>false
 |c::cs=>decide (cs.length<16)&&(Hl (c.toNat:Int)&&(!(kwB (c::cs))&&cs.all fun c=>yB (c.toNat:Int)))
theorem wJ{α:Type}(p:α→Bool)(l:List α):l.any (fun x=>!(p x))=!(l.all p):=by
 induction l with
 |nil=>rfl
 |cons x l ih=>simp[ih]
theorem uq(s:Str):Ev (fun n=>dw n s) (ident s):=by
 unfold dw;cases s with
 |nil=>exact Ev.of fun n=>rfl
 |cons c cs=>
  have hloop:Ev (fun n=>jJ n (c::cs) n 0) (cond ((c::cs).any fun c=>!(yB (c.toNat:Int))) (.rt false) (.nx ())):=by
   refine kV (c::cs) (fun n k i=>jJ n (c::cs) k i) (fun _ x=>some (!(yB (x.toNat:Int)))) (fun x=>!(yB (x.toNat:Int))) false (fun n k i=>?_) (fun x _=>Ev.ret _);show cond _ _ _=_;congr 1;rw[II];cases idx (c::cs) i with
   |none=>rfl
   |some x=>
    simp only[qAt,qAb,Ye]
  have hs0:jS (c::cs) 0=some (c.toNat:Int):=by rw[II];rfl
  have hne:((c::cs)==([]:Str))=false:=by simp
  simp only[hne,cond_false,hs0,qAb,KM,VU];by_cases hl:cs.length<16
  ·have h1:decide (16<((c::cs).length:Int))=false:=decide_eq_false (by simp;omega);simp only[h1,cond_false,ident,decide_eq_true hl,qAr];cases hlet:Hl (c.toNat:Int)with
   |false=>exact Ev.ret _
   |true=>
    cases hk:kwB (c::cs)with
    |true=>exact Ev.ret _
    |false=>
     simp only[qAB,cond_false,qAb,qAr,qAR];refine Ev.bind hloop ?_;rw[wJ];simp only[qBD,yB,hlet,qBI,qAr];cases cs.all fun c=>Hl (c.toNat:Int) ||(Og (c.toNat:Int) ||(c.toNat:Int)==95)
     ·exact Ev.ret _
     ·exact Ev.ret _
  ·have h1:decide (16<((c::cs).length:Int))=true:=decide_eq_true (by simp;omega);simp only[h1,cond_true,qAb,ident,decide_eq_false hl,qBb];exact Ev.ret _
theorem sQ(s:Str):Ev (fun n=>gy n s) (ident s):=by
 unfold gy;cases s with
 |nil=>exact Ev.of fun n=>rfl
 |cons c cs=>
  have hloop:Ev (fun n=>pG n (c::cs) n 1) (cond (cs.any fun c=>!(yB (c.toNat:Int))) (.rt false) (.nx ())):=by
   refine VR (c::cs) (fun n k i=>pG n (c::cs) k i) (fun _ x=>some (!(yB (x.toNat:Int)))) (fun x=>!(yB (x.toNat:Int))) false (fun n k i=>?_) (fun x _=>Ev.ret _) [c] cs rfl;show cond _ _ _=_;congr 1;rw[II];cases idx (c::cs) i with
   |none=>rfl
   |some x=>
    simp only[qAt,qAb,Qg,ae8,yB];cases Hl (x.toNat:Int)<;>cases Og (x.toNat:Int)<;>rfl
  have hs0:jS (c::cs) 0=some (c.toNat:Int):=by rw[II];rfl
  have hne:decide (((c::cs).length:Int)<1)=false:=decide_eq_false (by simp;omega);simp only[hne,cond_false,hs0,qAb,Qg];by_cases hl:cs.length<16
  ·have h1:decide (16<((c::cs).length:Int))=false:=decide_eq_false (by simp;omega);simp only[h1,cond_false,ident,decide_eq_true hl,qAr];cases hlet:Hl (c.toNat:Int)with
   |false=>exact Ev.ret _
   |true=>
    simp only[qAB,cond_false,qAr];refine Ev.bind (a:=kwB (c::cs)) (Ev.bind (abm _) (Ev.ret _)) ?_;cases hk:kwB (c::cs)with
    |true=>exact Ev.ret _
    |false=>
     simp only[cond_false,qAr,qAR];refine Ev.bind hloop ?_;rw[wJ];cases cs.all fun c=>yB (c.toNat:Int)
     ·exact Ev.ret _
     ·exact Ev.ret _
  ·have h1:decide (16<((c::cs).length:Int))=true:=decide_eq_true (by simp;omega);simp only[h1,cond_true,qAb,ident,decide_eq_false hl,qBb];exact Ev.ret _
def QH(s:Str):Str:=if s.getLast? =some 39 then s.dropLast else s
theorem Mt{α:Type}(s:List α)(k:Nat)(h:k≤s.length):gQ s 0 (k:Int)=some (s.take k):=by
 unfold gQ;rw[if_pos (by omega)];simp
theorem aaL(n:Nat)(s:Str)(hs:s.length≤9223372036854775807):strings_TrimSuffix n s [39]=some (QH s):=by
 unfold strings_TrimSuffix fJ fZ;rcases qCm s with rfl|⟨t,c,rfl⟩
 ·rfl
 ·have hl:((t++[c]).length:Int) - (([39]:Str).length:Int)=(t.length:Int):=by simp
  have hd:decide ((([39]:Str).length:Int)≤((t++[c]).length:Int))=true:=decide_eq_true (by simp;omega);simp only[qBS]at hs⊢;rw[hl,hd,wrap64 (by omega) (by simp at hs;omega)];have h1:gQ (t++[c]) (t.length:Int) ((t++[c]).length:Int)=some [c]:=by
   unfold gQ;rw[if_pos (by simp;omega)];simp
  have h2:gQ (t++[c]) 0 (t.length:Int)=some t:=by rw[Mt _ _ (by simp)];simp
  simp only[cond_true,h1,h2,qAb];unfold QH;rw[qCU,qCV];by_cases hc:c=39
  ·subst hc;simp
  ·have:(([c]:Str)==[39])=false:=by simp[hc]
   rw[this,if_neg (by simpa using hc)];rfl
def named(s:Str):Bool:=ident (QH s)
theorem RZ(s:Str)(hs:s.length≤9223372036854775807):Ev (fun n=>kI n s) (named s):=by
 unfold kI;simp only[aaL _ s hs,qAb];exact Ev.bind (uq _) (Ev.ret _)
theorem ahm{s:Str}(h:ident s=true):∀c∈s,yB (c.toNat:Int)=true:=by
 cases s with
 |nil=>cases h
 |cons c cs=>
  simp only[ident,qAd,decide_eq_true_eq,qAC]at h;intro x hx;rcases qAs.1 hx with rfl|hx
  ·simp[yB,h.2.1]
  ·exact h.2.2.2 x hx
theorem SS(s:Str):Ev (fun n=>wZ n s) (named s):=by
 unfold wZ;have hp:Ev (fun n=>uh n s) (decide (s.getLast? =some 39)&&ident s.dropLast):=by
  unfold uh;rcases qCm s with rfl|⟨t,c,rfl⟩
  ·exact Ev.ret _
  ·simp only[qBS,qCU,qCV];cases t with
   |nil=>
    have h1:decide (1<(([]++[c]:Str).length:Int))=false:=rfl;simp only[h1,cond_false,qAb];have:ident ([]:Str)=false:=rfl;rw[this,qBT];exact Ev.ret _
   |cons d t=>
    have h1:decide (1<((d::t++[c]:Str).length:Int))=true:=decide_eq_true (by simp;omega);have hlen:(((d::t++[c]:Str).length:Int) - 1)=((d::t).length:Int):=by simp
    have h2:jS (d::t++[c]) (((d::t++[c]:Str).length:Int) - 1)=some (c.toNat:Int):=by
     rw[hlen,II,show(d::t++[c]:Str)=(d::t)++c::[]from rfl,kJ];rfl
    have h3:gQ (d::t++[c]) 0 (((d::t++[c]:Str).length:Int) - 1)=some (d::t):=by rw[hlen,Mt _ _ (by simp)];simp
    simp only[h1,cond_true,h2,h3,qAb];by_cases hc:c=39
    ·subst hc;simp only[show((((39:UInt8).toNat:Nat):Int)==39)=true from rfl,cond_true,decide_true,qAr];exact Ev.bind (Ev.bind (sQ _) (Ev.ret _)) (Ev.ret _)
    ·have e:(((c.toNat:Nat):Int)==39)=false:=by
      apply beq_false_of_ne;intro h;apply hc;have:c.toNat=39:=by omega
      exact UInt8.toNat_inj.1 this
     rw[e];have e2:decide (some c=some (39:UInt8))=false:=decide_eq_false (by simpa using hc);simp only[cond_false,qAb,e2,qBb];exact Ev.ret _
 refine Ev.bind (a:=named s) ?_ (Ev.ret _);refine Ev.bind (sQ s) ?_;unfold named QH;by_cases hq:s.getLast? =some 39
 ·have hi:ident s=false:=by
   cases h:ident s with
   |false=>rfl
   |true=>
    have:=ahm h 39 (List.mem_of_getLast? hq);cases this
  rw[hi,if_pos hq];rw[decide_eq_true hq,qAr]at hp;exact Ev.bind hp (Ev.ret _)
 ·rw[if_neg hq];rw[decide_eq_false hq,qBb]at hp;cases ident s
  ·exact Ev.bind hp (Ev.ret _)
  ·exact Ev.ret _
theorem Ty.ind{P:Ty→Prop}(h:∀k n ks,(∀t∈ks,P t)→P (.mk k n ks))(t:Ty):P t:=by
 match t with
 | .mk k n ks=>exact h k n ks fun u _=>Ty.ind h u
termination_by SizeOf.sizeOf t
decreasing_by
 rename_i hu;have:=qCT hu;simp only[Ty.mk.sizeOf_spec];omega
def lQ(k:Int)(nm:Str)(len:Nat)(d:Int):Bool:=
 !(k==2&&decide (1<d))&&((((k==1 ||(k==2 ||k==3))&&len==0) ||((k==4&&len==2) ||(k==5&&len==1)))&&cond (k==3) (ident nm) (nm==[]))
mutual
def pf:Ty→Int→Int→Bool×Int
 | .mk k nm ks,d,c=>cond ((decide (c+1≤16)&&decide (d≤6))&&lQ k nm ks.length d) (pQ ks (d+1) (c+1)) (false,c+1)
def pQ:List Ty→Int→Int→Bool×Int
 |[],_,c=>(true,c)
 |t::ts,d,c=>cond (pf t d c).1 (pQ ts d (pf t d c).2) (false,(pf t d c).2)
end
mutual
theorem Q5:∀(t:Ty) (d c:Int),(pf t d c).1=true→c<(pf t d c).2∧(pf t d c).2≤16
 | .mk k nm ks,d,c,h=>by
  simp only[pf]at h⊢;cases hb:((decide (c+1≤16)&&decide (d≤6))&&lQ k nm ks.length d)with
  |false=>rw[hb]at h;cases h
  |true=>
   rw[hb]at h;simp only[cond_true]at h⊢;simp only[qAd,decide_eq_true_eq]at hb;have:=aer ks (d+1) (c+1) h;omega
theorem aer:∀(ts:List Ty) (d c:Int),(pQ ts d c).1=true→c≤(pQ ts d c).2∧(c≤16→(pQ ts d c).2≤16)
 |[],_,c,_=>by simp[pQ]
 |t::ts,d,c,h=>by
  simp only[pQ]at h⊢;cases hb:(pf t d c).1 with
  |false=>rw[hb]at h;cases h
  |true=>
   rw[hb]at h;simp only[cond_true]at h⊢;have h1:=Q5 t d c hb;have h2:=aer ts d _ h;exact⟨by omega,fun _=>h2.2 h1.2⟩
end
theorem alz(n:Nat)(c d:Int)(h0:0≤c)(h1:c≤16):iV n c 16 6 d=some (decide (c+1≤16)&&decide (d≤6),c+1):=by
 unfold iV;rw[wrap64 (by omega) (by omega)];cases decide (c+1≤16)<;>rfl
def ao5(t:Ty):Prop:=∀d c:Int,1≤d→d≤7→0≤c→c≤16→Ev (fun n=>bO n c 16 6 t d (decide (1<d))) (pf t d c)
theorem af5(d:Int):∀(ts:List Ty) (i c:Int),0≤i→(∃j,0≤j∧(pQ ts d c).1=false∧vE (τ:=Int) (fun i x s=>cond (!(pf x d s).1) (.rt (i,(pf x d s).2)) (.nx (pf x d s).2)) (fun s=>s) i ts c=.rt (j,(pQ ts d c).2))∨((pQ ts d c).1=true∧vE (ρ:=Int×Int) (fun i x s=>cond (!(pf x d s).1) (.rt (i,(pf x d s).2)) (.nx (pf x d s).2)) (fun s=>s) i ts c=.nx (pQ ts d c).2)
 |[],i,c,_=>.inr ⟨rfl,rfl⟩
 |t::ts,i,c,hi=>by
  simp only[pQ,vE];cases hb:(pf t d c).1 with
  |false=>exact .inl ⟨i,hi,rfl,rfl⟩
  |true=>exact af5 d ts (i+1) _ (by omega)
theorem akk(ts:List Ty)(h:∀t∈ts,ao5 t)(d c:Int)(hd:1≤d)(hd6:d≤6)(h0:0≤c)(h1:c≤16):Ev (fun n=>bI n ts c 16 6 d) (!(pQ ts (d+1) c).1,(pQ ts (d+1) c).2):=by
 refine Ev.succ ?_;show Ev (fun n=>fD n _ _ _ _ ts c 16 6 d) _;unfold fD;have hloop:=G5 ts (fun n k i s=>iB n (dx n) (bI n) (bO n) (bJ n) ts 16 6 d k (i,s))
  (fun n i x s=>(bJ n x s 16 6 d).bind fun x2=>cond x2.1 (some (.rt (i,x2.2))) (some (.nx x2.2))) (fun i x s=>cond (!(pf x (d+1) s).1) (.rt (i,(pf x (d+1) s).2)) (.nx (pf x (d+1) s).2)) (fun s=>s) (fun _ _ s=>0≤s∧s≤16)
  (fun n k i s=>by
   show cond _ _ _=_;congr 1;congr 1;funext x;dsimp only;cases bJ n x s 16 6 d with
   |none=>rfl
   |some b=>obtain⟨b,e⟩:=b;cases b<;>rfl)
  (fun i x suf s hx hs=>⟨by
   have hfit:Ev (fun n=>bJ n x s 16 6 d) (!(pf x (d+1) s).1,(pf x (d+1) s).2):=by
    refine Ev.succ ?_;show Ev (fun n=>fI n _ _ _ _ x s 16 6 d) _;unfold fI;have:=h x hx (d+1) s (by omega) (by omega) hs.1 hs.2;rw[decide_eq_true (show 1<d+1 by omega)]at this;rw[wrap64 (by omega) (by omega)];exact Ev.bind this (Ev.ret _)
   refine Ev.bind hfit ?_;cases(pf x (d+1) s).1
   ·exact Ev.ret _
   ·exact Ev.ret _,fun s' he=>by
    cases hb:(pf x (d+1) s).1 with
    |false=>rw[hb]at he;cases he
    |true=>
     rw[hb]at he;simp only[qAB,cond_false,LR.nx.injEq]at he;have:=Q5 x (d+1) s hb;omega⟩) (s0:=c) ⟨h0,h1⟩
 rcases af5 (d+1) ts 0 c (qBP _)with⟨j,hj,hf,hr⟩|⟨ht,hr⟩
 ·rw[hr]at hloop;refine Ev.bind (a:=(j,(pQ ts (d+1) c).2)) (Ev.succ ?_) ?_
  ·show Ev (fun n=>dZ n _ _ _ _ ts c 16 6 d) _;unfold dZ;exact Ev.bind hloop (Ev.ret _)
  ·rw[hf];simp only[decide_eq_true hj];exact Ev.ret _
 ·rw[hr]at hloop;refine Ev.bind (a:=(-1,(pQ ts (d+1) c).2)) (Ev.succ ?_) ?_
  ·show Ev (fun n=>dZ n _ _ _ _ ts c 16 6 d) _;unfold dZ;exact Ev.bind hloop (Ev.ret _)
  ·rw[ht];exact Ev.ret _
theorem acC(len:Nat)(m:Nat):(((len:Int)!=(m:Int)))=!(len==m):=by
 rw[bne];congr 1;by_cases h:len=m
 ·subst h;simp
 ·rw[beq_false_of_ne h,beq_false_of_ne (by omega)]
theorem fits:∀t:Ty,ao5 t:=Ty.ind fun k nm ks ih d c hd hd7 h0 h1=>by
 refine Ev.succ ?_;show Ev (fun n=>gJ n _ _ _ _ c 16 6 (.mk k nm ks) d (decide (1<d))) _;unfold gJ;simp only[alz _ c d h0 h1,qAb,pf,Ty.kind,Ty.name,Ty.kids];cases hb:(decide (c+1≤16)&&decide (d≤6))with
 |false=>exact Ev.ret _
 |true=>
  simp only[qAd,decide_eq_true_eq]at hb;have hk:=akk ks ih d (c+1) hd hb.2 (by omega) hb.1;simp only[qAB,cond_false,qAr]
  -- the end: the number of kids, the name, the kids
  have hend:∀m:Nat,Ev (fun n=>(((cond ((ks.length:Int)!=(m:Int)) (some true) (cond (k !=3) (some (!(nm==([]:Str)))) (some false))):Option Bool).bind fun(s2:Bool)=>(cond s2 (some (false,c+1)) ((bI n ks (c+1) 16 6 d).bind fun(x2:Bool×Int)=>some ((!x2.1),x2.2)))))
    (cond ((ks.length==m)&&cond (k==3) true (nm==[])) (pQ ks (d+1) (c+1)) (false,c+1)):=fun m=>by
   rw[acC];cases ks.length==m with
   |false=>exact Ev.ret _
   |true=>
    simp only[qAB,cond_false,qAr,bne];have hkids:Ev (fun n=>(bI n ks (c+1) 16 6 d).bind fun(x2:Bool×Int)=>some ((!x2.1),x2.2)) (pQ ks (d+1) (c+1)):=by
     refine Ev.bind hk ?_;simp only[qDd];exact Ev.ret _
    cases k==3 with
    |true=>exact hkids
    |false=>
     simp only[qAR,cond_true,qAb,cond_false];cases nm==([]:Str)with
     |false=>exact Ev.ret _
     |true=>exact hkids
  by_cases e1:k=1
  ·subst e1;have:=hend 0;simpa[lQ]using this
  by_cases e2:k=2
  ·subst e2;cases hf:decide (1<d)with
   |true=>
    have:lQ 2 nm ks.length d=false:=by simp[lQ,hf]
    simp only[this,cond_false];exact Ev.of fun n=>by simp
   |false=>
    have:=hend 0;simpa[lQ,hf]using this
  by_cases e3:k=3
  ·subst e3;simp only[show((3:Int)==1)=false from rfl,show((3:Int)==2)=false from rfl,show((3:Int)==3)=true from rfl,cond_false,cond_true];refine Ev.bind (a:=cond (ident nm) (.nx 0) (.rt (false,c+1))) (Ev.bind (uq nm) ?_) ?_
   ·cases ident nm
    ·exact Ev.ret _
    ·exact Ev.ret _
   ·cases hi:ident nm with
    |false=>
     have:lQ 3 nm ks.length d=false:=by simp[lQ,hi]
     rw[this];exact Ev.ret _
    |true=>
     have:=hend 0;simpa[lQ,hi]using this
  by_cases e4:k=4
  ·subst e4;have:=hend 2;simpa[lQ]using this
  by_cases e5:k=5
  ·subst e5;have:=hend 1;simpa[lQ]using this
  ·have:lQ k nm ks.length d=false:=by simp[lQ,e1,e2,e3,e4,e5]
   rw[this];refine Ev.of fun n=>?_;have b1:=beq_false_of_ne e1;have b2:=beq_false_of_ne e2;have b3:=beq_false_of_ne e3;have b4:=beq_false_of_ne e4;have b5:=beq_false_of_ne e5;simp only[b1,b2,b3,b4,b5,cond_false,qAb,LR.el]
def gW(t:Ty):Bool:=(pf t 1 0).1
theorem vk(t:Ty):Ev (fun n=>fA n t) (gW t):=by
 unfold fA;have:=fits t 1 0 (by omega) (by omega) (by omega) (by omega);rw[show decide ((1:Int)<1)=false from rfl]at this;exact Ev.bind this (Ev.ret _)
def pt(t:Ty)(d c:Int):Int:=cond (pf t d c).1 (pf t d c).2 (-1)
def ape(t:Ty):Prop:=∀d c:Int,1≤d→d≤7→0≤c→c≤16→Ev (fun n=>qD n t d c) (pt t d c)
theorem agp(d:Int):∀(ts:List Ty) (c:Int),0≤c→kF (τ:=Int) (fun x s=>cond (decide (pt x d s<0)) (.rt (-1)) (.nx (pt x d s))) (fun s=>s) ts c=cond (pQ ts d c).1 (.nx (pQ ts d c).2) (.rt (-1))
 |[],c,_=>rfl
 |t::ts,c,h0=>by
  simp only[pQ,kF];by_cases hb:(pf t d c).1=true
  ·have h1:=Q5 t d c hb;have h2:pt t d c=(pf t d c).2:=by simp only[pt,hb,cond_true]
   have h3:decide ((pf t d c).2<0)=false:=decide_eq_false (by omega);simp only[h2,h3,hb,cond_true,cond_false];exact agp d ts (pf t d c).2 (by omega)
  ·have hb':(pf t d c).1=false:=by simpa using hb
   have h2:pt t d c= -1:=by simp only[pt,hb',cond_false]
   have h3:decide (pt t d c<0)=true:=decide_eq_true (by omega);simp only[h3,hb',cond_true,cond_false]
theorem typed:∀t:Ty,ape t:=Ty.ind fun k nm ks ih d c hd hd7 h0 h1=>by
 refine Ev.succ ?_;show Ev (fun n=>xK n _ (.mk k nm ks) d c) _;unfold xK;simp only[pt,pf,Ty.kind,Ty.name,Ty.kids];rw[wrap64 (by omega) (by omega)];by_cases hd6:d≤6
 case neg=>
  rw[decide_eq_true (show 6<d by omega),decide_eq_false hd6];simp only[qBT,qBb,cond_false];exact Ev.ret _
 by_cases hc:c+1≤16
 case neg=>
  rw[decide_eq_false (show ¬6<d by omega),decide_eq_true (show 16<c+1 by omega),decide_eq_false hc];simp only[qBb,cond_false,cond_true];exact Ev.ret _
 rw[decide_eq_false (show ¬6<d by omega),decide_eq_false (show ¬16<c+1 by omega),decide_eq_true hd6,decide_eq_true hc];simp only[cond_false,qAr];have hloop:=Cy ks (fun n k' i s=>uS n (qD n) (.mk k nm ks) d k' (s,i)) (fun n x s=>(qD n x (IntKind.wrap .i64 (d+1)) s).bind fun x2=>cond (decide (x2<0)) (some (.rt (-1))) (some (.nx x2)))
  (fun x s=>cond (decide (pt x (d+1) s<0)) (.rt (-1)) (.nx (pt x (d+1) s))) (fun s=>s) (fun _ s=>0≤s∧s≤16)
  (fun n k' i s=>by
   show cond _ _ _=_;congr 1;show(idx ks i).bind _=_;congr 1;funext x;dsimp only;cases qD n x (IntKind.wrap .i64 (d+1)) s with
   |none=>rfl
   |some b=>simp only[qAb];cases decide (b<0)<;>rfl)
  (fun x suf s hx hs=>⟨by
   rw[wrap64 (by omega) (by omega)];refine Ev.bind (ih x hx (d+1) s (by omega) (by omega) hs.1 hs.2) ?_;cases decide (pt x (d+1) s<0)
   ·exact Ev.ret _
   ·exact Ev.ret _,fun s' he=>by
    cases hb:decide (pt x (d+1) s<0)with
    |true=>rw[hb]at he;cases he
    |false=>
     rw[hb]at he;simp only[cond_false,LR.nx.injEq]at he;have hneg:¬pt x (d+1) s<0:=of_decide_eq_false hb;subst he;unfold pt at hneg⊢;cases hb2:(pf x (d+1) s).1 with
     |false=>rw[hb2]at hneg;simp at hneg
     |true=>have:=Q5 x (d+1) s hb2;simp only[cond_true];omega⟩) (s0:=c+1) ⟨by omega,hc⟩
 rw[agp _ _ _ (by omega)]at hloop;have hkids:Ev (fun n=>(uS n (qD n) (.mk k nm ks) d n (c+1,0)).bind (LR.el (fun(s5:Int)=>some s5) (fun r=>some r))) (cond (pQ ks (d+1) (c+1)).1 (pQ ks (d+1) (c+1)).2 (-1)):=by
  refine Ev.bind hloop ?_;cases(pQ ks (d+1) (c+1)).1
  ·exact Ev.ret _
  ·exact Ev.ret _
 have hend:∀m:Nat,Ev (fun n=>(((cond ((ks.length:Int)!=(m:Int)) (some true) (cond (k==3) ((gy n nm).bind fun(x3:Bool)=>(cond (!x3) (some true) (cond (k !=3) (some (!(nm==([]:Str)))) (some false)))) (cond (k !=3) (some (!(nm==([]:Str)))) (some false)))):Option Bool).bind fun(s3:Bool)=>(cond s3 (some (-1)) ((uS n (qD n) (.mk k nm ks) d n (c+1,0)).bind (LR.el (fun(s5:Int)=>some s5) (fun r=>some r))))))
   (cond ((ks.length==m)&&cond (k==3) (ident nm) (nm==[])) (cond (pQ ks (d+1) (c+1)).1 (pQ ks (d+1) (c+1)).2 (-1)) (-1)):=fun m=>by
  rw[acC];cases ks.length==m with
  |false=>exact Ev.ret _
  |true=>
   simp only[qAB,cond_false,qAr,bne];cases k==3 with
   |true=>
    simp only[cond_true,qAB,cond_false];refine Ev.bind (a:=!(ident nm)) (Ev.bind (sQ nm) ?_) ?_
    ·cases ident nm
     ·exact Ev.ret _
     ·exact Ev.ret _
    ·cases ident nm
     ·exact Ev.ret _
     ·exact hkids
   |false=>
    simp only[cond_false,qAR,cond_true,qAb];cases nm==([]:Str)with
    |false=>exact Ev.ret _
    |true=>exact hkids
 have hpair:∀b:Bool,(cond (cond b (pQ ks (d+1) (c+1)) (false,c+1)).1 (cond b (pQ ks (d+1) (c+1)) (false,c+1)).2 (-1):Int)=cond b (cond (pQ ks (d+1) (c+1)).1 (pQ ks (d+1) (c+1)).2 (-1)) (-1):=fun b=>by cases b<;>rfl
 rw[hpair];by_cases e1:k=1
 ·subst e1;have:=hend 0;simpa[lQ]using this
 by_cases e2:k=2
 ·subst e2;cases hf:decide (1<d)with
  |true=>
   have:lQ 2 nm ks.length d=false:=by simp[lQ,hf]
   rw[this];exact Ev.of fun n=>by simp
  |false=>
   have:=hend 0;simpa[lQ,hf]using this
 by_cases e3:k=3
 ·subst e3;have:=hend 0;simpa[lQ]using this
 by_cases e4:k=4
 ·subst e4;have:=hend 2;simpa[lQ]using this
 by_cases e5:k=5
 ·subst e5;have:=hend 1;simpa[lQ]using this
 ·have:lQ k nm ks.length d=false:=by simp[lQ,e1,e2,e3,e4,e5]
  rw[this];refine Ev.of fun n=>?_;have b1:=beq_false_of_ne e1;have b2:=beq_false_of_ne e2;have b3:=beq_false_of_ne e3;have b4:=beq_false_of_ne e4;have b5:=beq_false_of_ne e5;simp only[b1,b2,b3,b4,b5,cond_false,qAb,LR.el]
theorem yH(t:Ty):Ev (fun n=>eY n t) (gW t):=by
 unfold eY;refine Ev.bind (typed t 1 0 (by omega) (by omega) (by omega) (by omega)) ?_;unfold pt gW;cases hb:(pf t 1 0).1 with
 |false=>exact Ev.ret _
 |true=>
  have:=Q5 t 1 0 hb;simp only[cond_true];rw[decide_eq_true (by omega)];exact Ev.ret _
theorem QG{α σ τ ρ:Type}(f:α→σ→σ)(fin:σ→τ):∀(l:List α) (s:σ),kF (ρ:=ρ) (fun x s=>.nx (f x s)) fin l s=.nx (fin (l.foldl (fun s x=>f x s) s))
 |[],_=>rfl
 |x::xs,s=>QG f fin xs (f x s)
theorem kW{α σ τ ρ:Type}(l:List α)(L:Nat→Nat→Int→σ→Option (LR τ ρ))(step:Nat→α→σ→Option σ)(f:α→σ→σ)(fin:σ→τ)(I:List α→σ→Prop)
  (hL:∀n k i s,L n (k+1) i s=cond (decide (i<(l.length:Int))) ((idx l i).bind fun x=>(step n x s).bind fun s'=>L n k (i+1) s') (some (.nx (fin s))))
  (hI:∀x suf s,x∈l→I (x::suf) s→Ev (fun n=>step n x s) (f x s)∧I suf (f x s)) {s0:σ} (h0:I l s0):Ev (fun n=>L n n 0 s0) (.nx (fin (l.foldl (fun s x=>f x s) s0))):=by
 rw[←QG f fin];refine Cy l L (fun n x s=>(step n x s).bind fun s'=>some (.nx s')) (fun x s=>.nx (f x s)) fin I (fun n k i s=>?_) (fun x suf s hx hs=>?_) h0
 ·rw[hL];congr 1;congr 1;funext x;cases step n x s<;>rfl
 ·obtain⟨h1,h2⟩:=hI x suf s hx hs;exact⟨Ev.bind h1 (Ev.ret _),fun s' h=>by cases h;exact h2⟩
theorem aaz{α ρ:Type}(l:List α)(L:Nat→Nat→Int→Option (LR Unit ρ))(step:Nat→α→Option (LR Unit ρ))(p:α→Bool)(r:ρ)
  (hL:∀n k i,L n (k+1) i=cond (decide (i<(l.length:Int))) ((idx l i).bind fun x=>(step n x).bind (LR.el (fun _=>L n k (i+1)) (fun r=>some (.rt r)))) (some (.nx ())))
  (hp:∀x∈l,Ev (fun n=>step n x) (cond (p x) (.rt r) (.nx ()))):Ev (fun n=>L n n 0) (cond (l.any p) (.rt r) (.nx ())):=by
 have:=Cy l (fun n k i (_:Unit)=>L n k i) (fun n x _=>step n x) (fun x _=>cond (p x) (.rt r) (.nx ())) (fun _=>()) (fun _ _=>True)
  (fun n k i s=>by rw[hL]) (fun x suf s hx _=>⟨hp x hx,fun _ _=>trivial⟩) (s0:=()) trivial
 rw[Pk]at this;exact this
theorem iK{α:Type}{b:Nat}{l ys:List α}(h:l.length+ys.length≤1000000)(hb:b≤1000):app b l ys=some (l++ys):=by
 unfold app;have:=Nat.mul_le_mul h hb;rw[if_pos ⟨by omega,by omega⟩]
theorem Po{α:Type}(k:Str):eX ([]:List (Str×α)) k=none:=rfl
theorem nT{α:Type}(p:Str×α)(m:List (Str×α))(k:Str):eX (p::m) k=if p.1==k then some p.2 else eX m k:=by
 unfold eX;simp only[qCq];cases p.1==k<;>rfl
theorem OD{α:Type}(m:List (Str×α))(k:Str)(v:α)(k':Str):eX (ow m k v) k'=if k==k' then some v else eX m k':=by
 induction m with
 |nil=>rw[ow,nT]
 |cons p m ih=>
  simp only[ow];by_cases h:(p.1==k)=true
  ·have e:p.1=k:=by simpa using h
   rw[if_pos h,nT,nT,e];by_cases hk:(k==k')=true
   ·rw[if_pos hk,if_pos hk]
   ·rw[if_neg hk,if_neg hk,if_neg hk]
  ·rw[if_neg h,nT,ih,nT];by_cases hp:(p.1==k')=true
   ·rw[if_pos hp,if_pos hp,if_neg];intro h2;apply h;have e1:p.1=k':=by simpa using hp
    have e2:k=k':=by simpa using h2
    simp[e1,e2]
   ·rw[if_neg hp,if_neg hp]
theorem Eb{α:Type}(m:List (Str×α))(k:Str)(v:α):(ow m k v).length≤m.length+1:=by
 induction m with
 |nil=>simp[ow]
 |cons p m ih=>
  simp only[ow];split
  ·simp
  ·simp only[qAv];omega
theorem KI{α:Type}{m:List (Str×α)}(h:m.length≤1000000)(k:Str)(v:α):rG m k v=some (ow m k v):=by
 unfold rG;rw[if_pos (by omega)]
theorem mem_keys{α:Type}(m:List (Str×α))(k:Str):k∈m.map (·.1)↔∃v,eX m k=some v:=by
 induction m with
 |nil=>simp[Po]
 |cons p m ih=>
  rw[nT];simp only[qAA,qAs,ih];by_cases h:(p.1==k)=true
  ·rw[if_pos h];have e:p.1=k:=by simpa using h
   exact⟨fun _=>⟨_,rfl⟩,fun _=>.inl e.symm⟩
  ·rw[if_neg h];have e:k≠p.1:=fun e=>h (by simp[e]);simp[e]
def iA{α:Type}(l:List (Str×α))(m:List (Str×α)):List (Str×α):=l.foldl (fun m p=>ow m p.1 p.2) m
theorem Gy{α:Type}(l m:List (Str×α)):(iA l m).length≤m.length+l.length:=by
 induction l generalizing m with
 |nil=>simp[iA]
 |cons p l ih=>
  have h1:=ih (ow m p.1 p.2);have h2:=Eb m p.1 p.2;simp only[iA,qBm,qAv]at h1⊢;omega
theorem MK{α:Type}(l l' m:List (Str×α)):iA (l++l') m=iA l' (iA l m):=by simp[iA]
theorem ahN{α:Type}(l m:List (Str×α))(k:Str):k∈(iA l m).map (·.1)↔k∈m.map (·.1)∨k∈l.map (·.1):=by
 induction l generalizing m with
 |nil=>simp[iA]
 |cons p l ih=>
  have h1:=ih (ow m p.1 p.2);have h2:k∈(ow m p.1 p.2).map (·.1)↔k∈m.map (·.1)∨k=p.1:=by
   rw[mem_keys,mem_keys,OD];by_cases h:(p.1==k)=true
   ·rw[if_pos h];have e:p.1=k:=by simpa using h
    exact⟨fun _=>.inr e.symm,fun _=>⟨_,rfl⟩⟩
   ·rw[if_neg h];have e:k≠p.1:=fun e=>h (by simp[e]);simp[e]
  rw[h2]at h1;simp only[iA,qBm,qAA,qAs]at h1⊢;rw[h1,or_assoc]
mutual
def rE(q:Int):Ty→Bool
 | .mk k _ ks=>k==q ||abv q ks
def abv(q:Int):List Ty→Bool
 |[]=>false
 |t::ts=>rE q t ||abv q ts
end
theorem P7(q:Int):∀ts,abv q ts=ts.any (rE q)
 |[]=>rfl
 |t::ts=>by simp[abv,P7 q ts]
theorem Sw(q:Int):∀t:Ty,Ev (fun n=>dN n t q) (rE q t):=Ty.ind fun k nm ks ih=>by
 refine Ev.succ ?_;show Ev (fun n=>jO n _ _ _ _ (.mk k nm ks) q) _;unfold jO;simp only[Ty.kind,Ty.kids,rE,P7];have hk:Ev (fun n=>bM n ks q) (ks.any (rE q)):=by
  refine Ev.succ ?_;show Ev (fun n=>eF n _ _ _ _ ks q) _;unfold eF;refine Ev.bind (a:=jW (rE q) 0 ks) (Ev.succ ?_) ?_
  ·show Ev (fun n=>fH n _ _ _ _ ks q) _;unfold fH;refine su ks (fun n k i=>gB n _ _ _ (dR n) ks q k i) (fun n x=>dR n x q) (rE q) (fun n k i=>rfl) (fun x hx=>?_);refine Ev.succ ?_;show Ev (fun n=>je n _ _ _ _ x q) _;unfold je;exact Ev.bind (ih x hx) (Ev.ret _)
  ·rw[xA _ _ _ (qBP _)];exact Ev.ret _
 cases hq:(k==q)
 ·exact Ev.bind (Ev.bind hk (Ev.ret _)) (Ev.ret _)
 ·exact Ev.bind (Ev.ret _) (Ev.ret _)
theorem P6:∀t:Ty,Ev (fun n=>jT n t) (rE 2 t):=Ty.ind fun k nm ks ih=>by
 refine Ev.succ ?_;show Ev (fun n=>qP n _ (.mk k nm ks)) _;unfold qP;simp only[Ty.kind,rE,P7];cases hq:(k==2)
 ·have h:=kV ks (fun n k' i=>uj n (jT n) (.mk k nm ks) k' i) (fun n x=>jT n x) (rE 2) true (fun n k i=>rfl) ih;simp only[cond_false,qCA];refine Ev.bind h ?_;cases ks.any (rE 2)
  ·exact Ev.ret _
  ·exact Ev.ret _
 ·exact Ev.ret _
mutual
def dL:Ty→List Str
 | .mk k nm ks=>cond (k==3) [nm] (jP ks)
def jP:List Ty→List Str
 |[]=>[]
 |t::ts=>dL t++jP ts
end
mutual
def Gb:Ty→Bool
 | .mk k _ ks=>(decide (ks.length≤2)&&(k !=3 ||ks.length==0))&&TB ks
def TB:List Ty→Bool
 |[]=>true
 |t::ts=>Gb t&&TB ts
end
theorem DL:∀{ts:List Ty},TB ts=true→∀t∈ts,Gb t=true
 |[],_,t,h=>by cases h
 |u::ts,h,t,ht=>by
  simp only[TB,qAd]at h;rcases qAs.1 ht with rfl|ht
  ·exact h.1
  ·exact DL h.2 t ht
theorem U7:∀{ts:List Ty} {t:Ty},t∈ts→(dL t).length≤(jP ts).length
 |[],t,h=>by cases h
 |u::ts,t,ht=>by
  simp only[jP,qAl];rcases qAs.1 ht with rfl|ht
  ·omega
  ·have:=U7 ht;omega
theorem an6{k:Int}{nm:Str}{len:Nat}{d:Int}(h:lQ k nm len d=true):len≤2∧(k=3→len=0):=by
 unfold lQ at h;simp only[qAd,qBB,beq_iff_eq]at h;obtain⟨_,h,_⟩:=h;rcases h with⟨h1,h2⟩|⟨h1,h2⟩|⟨h1,h2⟩<;>omega
mutual
theorem amr:∀(t:Ty) (d c:Int),(pf t d c).1=true→Gb t=true∧((dL t).length:Int)≤(pf t d c).2 - c
 | .mk k nm ks,d,c,h=>by
  simp only[pf]at h⊢;cases hb:((decide (c+1≤16)&&decide (d≤6))&&lQ k nm ks.length d)with
  |false=>rw[hb]at h;cases h
  |true=>
   rw[hb]at h;simp only[cond_true]at h⊢;simp only[qAd]at hb;have hh:=an6 hb.2;have h1:=ajA ks (d+1) (c+1) h;have h2:=aer ks (d+1) (c+1) h;constructor
   ·simp only[Gb,h1.1,qCf,qAd,decide_eq_true_eq,qBB,bne_iff_ne,beq_iff_eq];refine⟨hh.1,?_⟩;by_cases e:k=3
    ·exact .inr (hh.2 e)
    ·exact .inl e
   ·simp only[dL];cases k==3 with
    |true=>simp only[cond_true,qAy];omega
    |false=>simp only[cond_false];omega
theorem ajA:∀(ts:List Ty) (d c:Int),(pQ ts d c).1=true→TB ts=true∧((jP ts).length:Int)≤(pQ ts d c).2 - c
 |[],_,c,_=>by simp[pQ,TB,jP]
 |t::ts,d,c,h=>by
  simp only[pQ]at h⊢;cases hb:(pf t d c).1 with
  |false=>rw[hb]at h;cases h
  |true=>
   rw[hb]at h;simp only[cond_true]at h⊢;have h1:=amr t d c hb;have h2:=ajA ts d _ h;simp only[TB,h1.1,h2.1,qCf,jP,qAl];refine⟨trivial,?_⟩;omega
end
theorem y8{t:Ty}(h:gW t=true):Gb t=true∧(dL t).length≤16:=by
 have h1:=amr t 1 0 h;have h2:=Q5 t 1 0 h;exact⟨h1.1,by omega⟩
theorem Yb:∀t:Ty,Gb t=true→(dL t).length≤16→Ev (fun n=>nO n t) (dL t):=Ty.ind fun k nm ks ih hok hlen=>by
 refine Ev.succ ?_;show Ev (fun n=>sI n _ (.mk k nm ks)) _;unfold sI;simp only[Ty.kind,Ty.name,dL]at hlen⊢;simp only[Gb,qAd,decide_eq_true_eq]at hok;cases hq:(k==3)with
 |true=>exact Ev.ret _
 |false=>
  rw[hq]at hlen;simp only[cond_false]at hlen⊢;have h:=kW ks (fun n k' i s=>wD n (nO n) (.mk k nm ks) k' (s,i)) (fun n x s=>(nO n x).bind fun x2=>app 16 s x2) (fun x s=>s++dL x) (fun s=>s) (fun suf s=>s.length+(jP suf).length≤16)
   (fun n k' i s=>by
    show cond _ _ _=_;congr 1;show(idx ks i).bind _=_;congr 1;funext x;simp only[qBv])
   (fun x suf s hx hs=>by
    simp only[jP,qAl]at hs;refine⟨Ev.bind (ih x hx (DL hok.2 x hx) (by have:=U7 hx;omega)) ?_,?_⟩
    ·rw[iK (by omega) (by omega)];exact Ev.ret _
    ·simp only[qAl];omega) (s0:=([]:List Str)) (by simpa using hlen)
  have hf:∀(ts:List Ty) (s:List Str),ts.foldl (fun s x=>s++dL x) s=s++jP ts:=by
   intro ts
   induction ts with
   |nil=>intro s;simp[jP]
   |cons t ts iht=>intro s;simp[jP,iht]
  rw[hf]at h;exact Ev.bind h (Ev.ret _)
theorem air:∀t:Ty,Gb t=true→∀m:List (Str×Bool),m.length+(dL t).length≤1000→Ev (fun n=>ig n t m) (iA ((dL t).map fun s=>(s,true)) m):=Ty.ind fun k nm ks ih hok m hlen=>by
 refine Ev.succ ?_;show Ev (fun n=>kE n _ (.mk k nm ks) m) _;unfold kE;simp only[Ty.kind,Ty.name,dL]at hlen⊢;simp only[Gb,qAd,decide_eq_true_eq,qBB,beq_iff_eq,bne_iff_ne]at hok;have hloop:∀(m:List (Str×Bool)),m.length+(jP ks).length≤1000→Ev (fun n=>ku n (ig n) (.mk k nm ks) n (0,m)) (.nx (iA ((jP ks).map fun s=>(s,true)) m)):=fun m hm=>by
  have h:=kW ks (fun n k' i s=>ku n (ig n) (.mk k nm ks) k' (i,s)) (fun n x s=>ig n x s) (fun x s=>iA ((dL x).map fun s=>(s,true)) s) (fun s=>s) (fun suf s=>s.length+(jP suf).length≤1000)
   (fun n k' i s=>rfl)
   (fun x suf s hx hs=>by
    simp only[jP,qAl]at hs;refine⟨ih x hx (DL hok.2 x hx) s (by omega),?_⟩;have:=Gy ((dL x).map fun s=>(s,true)) s;simp only[qAo]at this;omega) (s0:=m) hm
  have hf:∀(ts:List Ty) (s:List (Str×Bool)),ts.foldl (fun s x=>iA ((dL x).map fun s=>(s,true)) s) s=iA ((jP ts).map fun s=>(s,true)) s:=by
   intro ts
   induction ts with
   |nil=>intro s;rfl
   |cons t ts iht=>intro s;simp only[qBm,jP,qBs,MK,iht]
  rw[hf]at h;exact h
 cases hq:(k==3)with
 |true=>
  have hk:k=3:=by simpa using hq
  have hks:ks=[]:=by
   rcases hok.1.2 with h|h
   ·exact absurd hk h
   ·exact qAz.1 h
  rw[hq]at hlen;simp only[cond_true,qAy]at hlen⊢;rw[KI (by omega)];have hl:=Eb m nm true;have:=hloop (ow m nm true) (by rw[hks];simp only[jP,qAE];omega);rw[hks]at this⊢;simp only[qAb];exact Ev.bind this (Ev.ret _)
 |false=>
  rw[hq]at hlen;simp only[cond_false,qAb]at hlen⊢;exact Ev.bind (hloop m hlen) (Ev.ret _)
theorem Fz{t:Ty}(h:gW t=true):Ev (fun n=>iU n t) (((iA ((dL t).map fun s=>(s,true)) []).map (·.1)).mergeSort Wu):=by
 unfold iU;refine Ev.bind (vk t) ?_;rw[h];obtain⟨h1,h2⟩:=y8 h;refine Ev.bind (air t h1 [] (by simp;omega)) ?_;have:=Gy ((dL t).map fun s=>(s,true)) [];simp only[qAo,qAE]at this;unfold nY;rw[if_pos (by omega)];exact Ev.ret _
theorem Qo(t:Ty)(s:Str):s∈((iA ((dL t).map fun s=>(s,true)) []).map (·.1)).mergeSort Wu↔s∈dL t:=by
 rw[List.mem_mergeSort,ahN];simp
def dn(env:Env)(s:Str):Bool:=env.carriers.any fun c=>c.name==s
def D8(c:Carrier):Bool:=ident c.name&&(!(decide (8<(c.elems.length:Int)))&&c.elems.all ident)
def zy(env:Env)(d:Decl):Bool:=named d.name&&((gW d.ty&&!(rE 2 d.ty))&&(dL d.ty).all (dn env))
def vJ(env:Env):List Str:=(env.carriers.flatMap fun c=>c.name::c.elems)++env.names.map (·.name)
def names2(env:Env):List Str:=env.carriers.map (·.name)++(env.carriers.flatMap (·.elems)++env.names.map (·.name))
def kQ:List Str→List Str→Bool
 |_,[]=>true
 |pre,x::xs=>!(pre.any (·==x))&&kQ (pre++[x]) xs
theorem Zf:∀(l pre:List Str),kQ pre l=true↔l.Nodup∧∀x∈l,x∉pre
 |[],pre=>by simp[kQ]
 |x::l,pre=>by
  simp only[kQ,qAd,Zf l,qBj,qCr,qAs,List.any_eq_false,beq_iff_eq,qBn,qCg,or_false];constructor
  ·rintro⟨h1,h2,h3⟩;refine⟨⟨fun hx=>(h3 x hx) (.inr rfl),h2⟩,?_⟩;rintro y (rfl|hy)
   ·exact fun hp=>h1 _ hp rfl
   ·exact fun hp=>h3 y hy (.inl hp)
  ·rintro⟨⟨h1,h2⟩,h3⟩;refine⟨fun y hy e=>h3 x (.inl rfl) (e▸hy),h2,fun y hy hp=>?_⟩;rcases hp with hp|rfl
   ·exact h3 y (.inr hy) hp
   ·exact h1 hy
theorem Uc(l:List Str):kQ [] l=true↔l.Nodup:=by rw[Zf];simp
theorem ajM(cs:List Carrier):(cs.flatMap fun c=>c.name::c.elems).Perm (cs.map (·.name)++cs.flatMap (·.elems)):=by
 induction cs with
 |nil=>simp
 |cons c cs ih=>
  simp only[qBw,qAA,qBV];refine List.Perm.cons _ ?_;refine(List.Perm.append_left _ ih).trans ?_;rw[←qAN,←qAN];exact qCQ _ List.perm_append_comm
theorem xC(env:Env):(vJ env).Perm (names2 env):=by
 unfold vJ names2;rw[←qAN];exact qCQ _ (ajM _)
theorem akh(env:Env):kQ [] (vJ env)=kQ [] (names2 env):=by
 have h:(kQ [] (vJ env)=true)↔(kQ [] (names2 env)=true):=by rw[Uc,Uc];exact(xC env).nodup_iff
 cases h1:kQ [] (vJ env)<;>cases h2:kQ [] (names2 env)<;>simp_all
def bq(env:Env):Bool:=!(decide (8<(env.carriers.length:Int)) ||decide (64<(env.names.length:Int)))&&(env.carriers.all D8&&(env.names.all (zy env)&&kQ [] (names2 env)))
theorem aa2(env:Env)(s:Str):Ev (fun n=>l8 n env s) (dn env s):=by
 unfold l8 iJ jy;refine Ev.bind (a:=dn env s) ?_ (Ev.ret _);refine Ev.bind (su env.carriers (fun n k i=>fO n env.carriers s k i) (fun _ x=>some (x.name==s)) (fun c=>c.name==s) (fun n k i=>rfl) (fun x _=>Ev.ret _)) ?_;rw[xA _ _ _ (qBP _)];exact Ev.ret _
theorem RP(env:Env){t:Ty}(h:gW t=true):Ev (fun n=>iZ n env t) ((dL t).all (dn env)):=by
 unfold iZ iP jM;refine Ev.bind (Fz h) ?_;generalize hl:((iA ((dL t).map fun s=>(s,true)) []).map (·.1)).mergeSort Wu=l;have hm:∀s,s∈l↔s∈dL t:=fun s=>by rw[←hl];exact Qo t s
 have hf:=su l (fun n k i=>gH n l env.carriers env.names k i) (fun n x=>lZ n x env.carriers env.names) (fun s=>!(dn env s)) (fun n k i=>rfl) (fun x _=>by
  unfold lZ;exact Ev.bind (aa2 env x) (Ev.ret _))
 refine Ev.bind (a:=l.any fun s=>!(dn env s)) (Ev.bind hf ?_) ?_
 ·rw[xA _ _ _ (qBP _)];exact Ev.ret _
 ·rw[wJ,qDd];have:l.all (dn env)=(dL t).all (dn env):=by
   have h:(l.all (dn env)=true)↔((dL t).all (dn env)=true):=by simp only[qAC,hm]
   cases h1:l.all (dn env)<;>cases h2:(dL t).all (dn env)<;>simp_all
  rw[this];exact Ev.ret _
theorem rX(env:Env)(s:Str):Ev (fun n=>fT n env s) (jW (fun c=>c.name==s) 0 env.carriers):=by
 unfold fT;exact su env.carriers (fun n k i=>qU n env s k i) (fun _ x=>some (x.name==s)) (fun c=>c.name==s) (fun n k i=>rfl) (fun x _=>Ev.ret _)
theorem Bo(a:Int):decide (a<0)=!(decide (0≤a)):=by
 by_cases h:a<0
 ·rw[decide_eq_true h,decide_eq_false (by omega)];rfl
 ·rw[decide_eq_false h,decide_eq_true (by omega)];rfl
theorem MC(env:Env){t:Ty}(h:gW t=true):Ev (fun n=>pI n env t) ((dL t).all (dn env)):=by
 unfold pI;obtain⟨h1,h2⟩:=y8 h;refine Ev.bind (Yb t h1 h2) ?_;have hs:=kV (dL t) (fun n k i=>Af n env (dL t) k i) (fun n x=>(fT n env x).bind fun x3=>some (decide (x3<0))) (fun s=>!(dn env s)) false
  (fun n k i=>by
   show cond _ _ _=_;congr 1;congr 1;funext x;simp only[qBv,qAb])
  (fun x _=>by
   refine Ev.bind (rX env x) ?_;rw[Bo,xA _ _ _ (qBP _)];exact Ev.ret _)
 rw[wJ]at hs;refine Ev.bind hs ?_;cases(dL t).all (dn env)
 ·exact Ev.ret _
 ·exact Ev.ret _
theorem JR(env:Env)(h:(vJ env).length≤1000000):Ev (fun n=>kG n env) (vJ env):=by
 unfold kG;simp only[vJ,qAl,qAo]at h;have h1:=kW env.carriers (fun n k i s=>lH n env k (s,i)) (fun n x s=>(app 16 s [x.name]).bind fun x4=>app 16 x4 x.elems) (fun x s=>s++(x.name::x.elems)) (fun s=>s) (fun suf s=>s.length+(suf.flatMap fun c=>c.name::c.elems).length≤1000000)
  (fun n k i s=>by
   show cond _ _ _=_;congr 1;show(idx env.carriers i).bind _=_;congr 1;funext x;simp only[qBv])
  (fun x suf s hx hs=>by
   simp only[qBw,qAl,qAv]at hs;refine⟨?_,?_⟩
   ·rw[iK (by simp only[qAy];omega) (by omega),qAb,iK (by simp only[qAl,qAy];omega) (by omega)];rw[qAN];exact Ev.ret _
   ·simp only[qAl,qAv];omega) (s0:=([]:List Str)) (by simp only[qAE];omega)
 have hf1:∀(cs:List Carrier) (s:List Str),cs.foldl (fun s x=>s++(x.name::x.elems)) s=s++cs.flatMap fun c=>c.name::c.elems:=by
  intro cs
  induction cs with
  |nil=>intro s;simp
  |cons c cs ih=>intro s;rw[qBm,ih];simp
 rw[hf1,qAY]at h1;have h2:=kW env.names (fun n k i s=>lF n env k (s,i)) (fun n x s=>app 16 s [x.name]) (fun x s=>s++[x.name]) (fun s=>s) (fun suf s=>s.length+suf.length≤1000000)
  (fun n k i s=>rfl)
  (fun x suf s hx hs=>by
   simp only[qAv]at hs;refine⟨?_,?_⟩
   ·rw[iK (by simp only[qAy];omega) (by omega)];exact Ev.ret _
   ·simp only[qAl,qAy];omega) (s0:=env.carriers.flatMap fun c=>c.name::c.elems) (by omega)
 have hf2:∀(cs:List Decl) (s:List Str),cs.foldl (fun s x=>s++[x.name]) s=s++cs.map (·.name):=by
  intro cs
  induction cs with
  |nil=>intro s;simp
  |cons c cs ih=>intro s;rw[qBm,ih];simp
 rw[hf2]at h2;exact Ev.bind h1 (Ev.bind h2 (Ev.ret _))
theorem Am(env:Env)(h:(names2 env).length≤1000000):Ev (fun n=>pR n env) (names2 env):=by
 unfold pR;simp only[names2,qAl,qAo]at h;have h0:=kW env.carriers (fun n k i s=>wE n env k (s,i)) (fun n x s=>app 16 s [x.name]) (fun x s=>s++[x.name]) (fun s=>s) (fun suf s=>s.length+suf.length≤1000000)
  (fun n k i s=>rfl)
  (fun x suf s hx hs=>by
   simp only[qAv]at hs;refine⟨?_,?_⟩
   ·rw[iK (by simp only[qAy];omega) (by omega)];exact Ev.ret _
   ·simp only[qAl,qAy];omega) (s0:=([]:List Str)) (by simp only[qAE];omega)
 have hf0:∀(cs:List Carrier) (s:List Str),cs.foldl (fun s x=>s++[x.name]) s=s++cs.map (·.name):=by
  intro cs
  induction cs with
  |nil=>intro s;simp
  |cons c cs ih=>intro s;rw[qBm,ih];simp
 rw[hf0,qAY]at h0;have h1:=kW env.carriers (fun n k i s=>vX n env k (s,i)) (fun n x s=>app 16 s x.elems) (fun x s=>s++x.elems) (fun s=>s) (fun suf s=>s.length+(suf.flatMap (·.elems)).length≤1000000)
  (fun n k i s=>rfl)
  (fun x suf s hx hs=>by
   simp only[qBw,qAl]at hs;refine⟨?_,?_⟩
   ·rw[iK (by omega) (by omega)];exact Ev.ret _
   ·simp only[qAl];omega) (s0:=env.carriers.map (·.name)) (by simp only[qAo];omega)
 have hf1:∀(cs:List Carrier) (s:List Str),cs.foldl (fun s x=>s++x.elems) s=s++cs.flatMap (·.elems):=by
  intro cs
  induction cs with
  |nil=>intro s;simp
  |cons c cs ih=>intro s;rw[qBm,ih];simp
 rw[hf1]at h1;have h2:=kW env.names (fun n k i s=>wu n env k (s,i)) (fun n x s=>app 16 s [x.name]) (fun x s=>s++[x.name]) (fun s=>s) (fun suf s=>s.length+suf.length≤1000000)
  (fun n k i s=>rfl)
  (fun x suf s hx hs=>by
   simp only[qAv]at hs;refine⟨?_,?_⟩
   ·rw[iK (by simp only[qAy];omega) (by omega)];exact Ev.ret _
   ·simp only[qAl,qAy];omega) (s0:=env.carriers.map (·.name)++env.carriers.flatMap (·.elems)) (by simp only[qAl,qAo];omega)
 have hf2:∀(cs:List Decl) (s:List Str),cs.foldl (fun s x=>s++[x.name]) s=s++cs.map (·.name):=by
  intro cs
  induction cs with
  |nil=>intro s;simp
  |cons c cs ih=>intro s;rw[qBm,ih];simp
 rw[hf2,qAN]at h2;exact Ev.bind h0 (Ev.bind h1 (Ev.bind h2 (Ev.ret _)))
theorem SC(l:List Str)(hl:l.length≤1000000):Ev (fun n=>mq n l) (kQ [] l):=by
 unfold mq;have h:=Cy l (fun n k i s=>lu n l k (i,s)) (fun n x s=>(KT (eX s x) (some false) (fun x3=>some x3):Option Bool).bind fun s3=>cond s3 (some (.rt false)) ((rG s x true).bind fun x2=>some (.nx x2))) (fun x s=>cond ((eX s x).getD false) (.rt false) (.nx (ow s x true))) (fun _=>())
  (fun suf s=>s.length+suf.length≤1000000)
  (fun n k i s=>by
   show cond _ _ _=_;congr 1;show(idx l i).bind _=_;congr 1;funext x;cases eX s x with
   |none=>simp only[KT,qAb,cond_false,qBv]
   |some b=>cases b<;>simp only[KT,qAb,cond_false,cond_true,qBv])
  (fun x suf s hx hs=>by
   simp only[qAv]at hs;refine⟨?_,fun s' he=>?_⟩
   ·rw[KI (by omega)];cases eX s x with
    |none=>exact Ev.ret _
    |some b=>cases b<;>exact Ev.ret _
   ·cases hb:(eX s x).getD false with
    |true=>rw[hb]at he;cases he
    |false=>
     rw[hb]at he;cases he;have:=Eb s x true;omega) (s0:=([]:List (Str×Bool))) (by simpa using hl)
 have key:∀(suf pre:List Str) (s:List (Str×Bool)),(∀x,eX s x=if pre.any (·==x)then some true else none)→kF (τ:=Unit) (fun x s=>cond ((eX s x).getD false) (.rt false) (.nx (ow s x true))) (fun _=>()) suf s=cond (kQ pre suf) (.nx ()) (.rt false):=by
  intro suf
  induction suf with
  |nil=>intro pre s _;rfl
  |cons x suf ih=>
   intro pre s hs;simp only[kF,kQ];rw[hs x];cases hb:pre.any (·==x)with
   |true=>rfl
   |false=>
    simp only[qAx,if_false,qBz,cond_false,qAR,qAr];refine ih (pre++[x]) _ (fun y=>?_);rw[OD,hs y];simp only[List.any_append,qDa,List.any_nil,qCz];cases hy:(x==y)with
    |true=>simp
    |false=>simp
 rw[key l [] [] (fun x=>rfl)]at h;refine Ev.bind h ?_;cases kQ [] l
 ·exact Ev.ret _
 ·exact Ev.ret _
theorem ahd(l:List Str):Ev (fun n=>rV n l n 0) (cond (kQ [] l) (.nx ()) (.rt false)):=by
 have h:=G5 l (fun n k i (_:Unit)=>rV n l k i) (fun n i x _=>(gQ l 0 i).bind fun x3=>(oU n x x3).bind fun x4=>cond x4 (some (.rt false)) (some (.nx ()))) (fun i x _=>cond ((l.take i.toNat).any (·==x)) (.rt false) (.nx ())) (fun _=>())
  (fun i suf _=>∃pre,l=pre++suf∧i=(pre.length:Int))
  (fun n k i s=>by
   show cond _ _ _=_;congr 1;congr 1;funext x;cases gQ l 0 i with
   |none=>rfl
   |some y=>
    simp only[qAb];cases oU n x y with
    |none=>rfl
    |some b=>cases b<;>rfl)
  (fun i x suf s hx hs=>by
   obtain⟨pre,hp,rfl⟩:=hs;refine⟨?_,fun _ _=>⟨pre++[x],by rw[hp];simp,by simp⟩⟩;rw[Mt l pre.length (by rw[hp];simp)];simp only[qAb,qCF];refine Ev.bind (LM _ _) ?_;cases(l.take pre.length).any (·==x)
   ·exact Ev.ret _
   ·exact Ev.ret _) (s0:=()) ⟨[],rfl,rfl⟩
 have key:∀(suf pre:List Str),l=pre++suf→vE (τ:=Unit) (fun i x _=>cond ((l.take i.toNat).any (·==x)) (.rt false) (.nx ())) (fun _=>()) (pre.length:Int) suf ()=cond (kQ pre suf) (.nx ()) (.rt false):=by
  intro suf
  induction suf with
  |nil=>intro pre _;rfl
  |cons x suf ih=>
   intro pre hp;have ht:l.take pre.length=pre:=by rw[hp];simp
   simp only[vE,kQ,qCF,ht];cases pre.any (·==x)with
   |true=>rfl
   |false=>
    have:=ih (pre++[x]) (by rw[hp];simp);simp only[qAl,qAy,qCO,qCP]at this;simpa using this
 have:=key l [] rfl;simp only[qAE,Int.natCast_zero]at this;rw[this]at h;exact h
theorem yg{env:Env}(h1:¬8<(env.carriers.length:Int))(h2:¬64<(env.names.length:Int))(h3:env.carriers.all D8=true):(names2 env).length≤1000:=by
 have key:∀cs:List Carrier,cs.all D8=true→(cs.flatMap (·.elems)).length≤8*cs.length:=by
  intro cs
  induction cs with
  |nil=>intro _;simp
  |cons c cs ih=>
   intro h;simp only[qBD,qAd,D8,qBj,decide_eq_false_iff_not]at h;have:=ih (by simpa only[qAC,D8]using h.2);simp only[qBw,qAl,qAv];omega
 have:=key _ h3;simp only[names2,qAl,qAo];omega
theorem iW(env:Env)(hs:∀d∈env.names,d.name.length≤9223372036854775807):Ev (fun n=>dH n env) (bq env):=by
 unfold dH;by_cases h1:8<(env.carriers.length:Int)
 ·have:bq env=false:=by simp only[bq,decide_eq_true h1,qBI,qAB,qBb]
  rw[this,decide_eq_true h1];exact Ev.ret _
 by_cases h2:64<(env.names.length:Int)
 ·have:bq env=false:=by simp only[bq,decide_eq_true h2,qDe,qAB,qBb]
  rw[this,decide_eq_true h2,decide_eq_false h1];exact Ev.ret _
 simp only[bq,decide_eq_false h1,decide_eq_false h2,qCz,qAR,qAr,cond_false,qAb];have hcar:=aaz env.carriers (fun n k i=>lC n env k i) (fun n x=>((dw n x.name).bind fun x10=>cond (!x10) (some true) (some (decide (8<(x.elems.length:Int))))).bind fun s7=>cond s7 (some (.rt false)) ((iY n x n 0).bind (LR.el (fun _=>some (.nx ())) (fun r=>some (.rt r))))) (fun c=>!(D8 c)) false
  (fun n k i=>by
   show cond _ _ _=_;congr 1;congr 1;funext x;cases((dw n x.name).bind fun x10=>cond (!x10) (some true) (some (decide (8<(x.elems.length:Int)))))with
   |none=>rfl
   |some b=>
    cases b with
    |true=>rfl
    |false=>
     simp only[qAb,cond_false];cases iY n x n 0 with
     |none=>rfl
     |some r=>cases r<;>rfl)
  (fun c hc=>by
   refine Ev.bind (a:=!(ident c.name) ||decide (8<(c.elems.length:Int))) (Ev.bind (uq c.name) ?_) ?_
   ·cases ident c.name
    ·exact Ev.ret _
    ·exact Ev.ret _
   ·unfold D8;cases ident c.name with
    |false=>exact Ev.ret _
    |true=>
     cases decide (8<(c.elems.length:Int))with
     |true=>exact Ev.ret _
     |false=>
      simp only[qAB,qCA,cond_false,qAr,qAR];have h:=kV c.elems (fun n k i=>iY n c k i) (fun n x=>(dw n x).bind fun x9=>some (!x9)) (fun s=>!(ident s)) false
       (fun n k i=>by
        show cond _ _ _=_;congr 1;congr 1;funext x;simp only[qBv,qAb])
       (fun x _=>Ev.bind (uq x) (Ev.ret _))
      rw[wJ]at h;refine Ev.bind h ?_;cases c.elems.all ident
      ·exact Ev.ret _
      ·exact Ev.ret _)
 rw[wJ]at hcar;refine Ev.bind hcar ?_;cases hc:env.carriers.all D8 with
 |false=>exact Ev.ret _
 |true=>
  simp only[qAB,cond_false,qAr];have hdecl:=kV env.names (fun n k i=>lG n env k i) (fun n x=>(kI n x.name).bind fun x4=>cond (!x4) (some true) ((gN n x.ty).bind fun x5=>cond (!x5) (some true) ((iZ n env x.ty).bind fun x6=>some (!x6)))) (fun d=>!(zy env d)) false
   (fun n k i=>rfl)
   (fun d hd=>by
    refine Ev.bind (RZ d.name (hs d hd)) ?_;unfold zy;cases named d.name with
    |false=>exact Ev.ret _
    |true=>
     simp only[qAB,cond_false,qAr];refine Ev.bind (a:=gW d.ty&&!(rE 2 d.ty)) ?_ ?_
     ·unfold gN;refine Ev.bind (a:=gW d.ty&&!(rE 2 d.ty)) (Ev.bind (vk d.ty) ?_) (Ev.ret _);cases gW d.ty with
      |false=>exact Ev.ret _
      |true=>exact Ev.bind (Sw 2 d.ty) (Ev.ret _)
     ·cases hv:gW d.ty with
      |false=>exact Ev.ret _
      |true=>
       cases rE 2 d.ty with
       |true=>exact Ev.ret _
       |false=>exact Ev.bind (RP env hv) (Ev.ret _))
  rw[wJ]at hdecl;refine Ev.bind hdecl ?_;cases hd:env.names.all (zy env)with
  |false=>exact Ev.ret _
  |true=>
   simp only[qAB,cond_false,qAr];have hlen:=yg h1 h2 hc;have hlen1:(vJ env).length≤1000:=by rw[(xC env).length_eq];exact hlen
   refine Ev.bind (JR env (by omega)) ?_;rw[←akh];exact Ev.bind (SC _ (by omega)) (Ev.ret _)
theorem nD(env:Env):Ev (fun n=>jg n env) (bq env):=by
 unfold jg;by_cases h1:8<(env.carriers.length:Int)
 ·have:bq env=false:=by simp only[bq,decide_eq_true h1,qBI,qAB,qBb]
  rw[this,decide_eq_true h1];exact Ev.ret _
 by_cases h2:64<(env.names.length:Int)
 ·have:bq env=false:=by simp only[bq,decide_eq_true h2,qDe,qAB,qBb]
  rw[this,decide_eq_true h2,decide_eq_false h1];exact Ev.ret _
 simp only[bq,decide_eq_false h1,decide_eq_false h2,qCz,qAR,qAr,cond_false,qAb];have hcar:=aaz env.carriers (fun n k i=>vB n env k i) (fun n x=>((gy n x.name).bind fun x10=>cond (!x10) (some true) (some (decide (8<(x.elems.length:Int))))).bind fun s7=>cond s7 (some (.rt false)) ((pq n x n 0).bind (LR.el (fun _=>some (.nx ())) (fun r=>some (.rt r))))) (fun c=>!(D8 c)) false
  (fun n k i=>by
   show cond _ _ _=_;congr 1;congr 1;funext x;cases((gy n x.name).bind fun x10=>cond (!x10) (some true) (some (decide (8<(x.elems.length:Int)))))with
   |none=>rfl
   |some b=>
    cases b with
    |true=>rfl
    |false=>
     simp only[qAb,cond_false];cases pq n x n 0 with
     |none=>rfl
     |some r=>cases r<;>rfl)
  (fun c hc=>by
   refine Ev.bind (a:=!(ident c.name) ||decide (8<(c.elems.length:Int))) (Ev.bind (sQ c.name) ?_) ?_
   ·cases ident c.name
    ·exact Ev.ret _
    ·exact Ev.ret _
   ·unfold D8;cases ident c.name with
    |false=>exact Ev.ret _
    |true=>
     cases decide (8<(c.elems.length:Int))with
     |true=>exact Ev.ret _
     |false=>
      simp only[qAB,qCA,cond_false,qAr,qAR];have h:=kV c.elems (fun n k i=>pq n c k i) (fun n x=>(gy n x).bind fun x9=>some (!x9)) (fun s=>!(ident s)) false
       (fun n k i=>by
        show cond _ _ _=_;congr 1;congr 1;funext x;simp only[qBv,qAb])
       (fun x _=>Ev.bind (sQ x) (Ev.ret _))
      rw[wJ]at h;refine Ev.bind h ?_;cases c.elems.all ident
      ·exact Ev.ret _
      ·exact Ev.ret _)
 rw[wJ]at hcar;refine Ev.bind hcar ?_;cases hc:env.carriers.all D8 with
 |false=>exact Ev.ret _
 |true=>
  simp only[qAB,cond_false,qAr];have hdecl:=kV env.names (fun n k i=>wF n env k i) (fun n x=>(wZ n x.name).bind fun x6=>cond (!x6) (some true) ((eY n x.ty).bind fun x7=>cond (!x7) (some true) ((jT n x.ty).bind fun x8=>cond x8 (some true) ((pI n env x.ty).bind fun x9=>some (!x9))))) (fun d=>!(zy env d)) false
   (fun n k i=>rfl)
   (fun d hd=>by
    refine Ev.bind (SS d.name) ?_;unfold zy;cases named d.name with
    |false=>exact Ev.ret _
    |true=>
     simp only[qAB,cond_false,qAr];refine Ev.bind (yH d.ty) ?_;cases hv:gW d.ty with
     |false=>exact Ev.ret _
     |true=>
      refine Ev.bind (P6 d.ty) ?_;cases rE 2 d.ty with
      |true=>exact Ev.ret _
      |false=>exact Ev.bind (MC env hv) (Ev.ret _))
  rw[wJ]at hdecl;refine Ev.bind hdecl ?_;cases hd:env.names.all (zy env)with
  |false=>exact Ev.ret _
  |true=>
   simp only[qAB,cond_false,qAr];have hlen:=yg h1 h2 hc;refine Ev.bind (Am env (by omega)) ?_;refine Ev.bind (ahd _) ?_;cases kQ [] (names2 env)
   ·exact Ev.ret _
   ·exact Ev.ret _
end Abs
end Go.Proofs.YtkopaeklihhdlaaGreat
