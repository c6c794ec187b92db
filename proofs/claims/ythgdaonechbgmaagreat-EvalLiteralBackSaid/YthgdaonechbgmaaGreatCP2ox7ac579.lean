/-
  Identifiers and names: the program's functions and the document's come to the same plain answer. Conditions: none; lemmas without a program.
-/
import Derived.Test.YthgdaonechbgmaaGreatCDfoxb5ac49
set_option linter.all false
namespace Go.Proofs.YthgdaonechbgmaaGreat
namespace Abs
open Go
def Qv(c:Int):Bool:=(decide (97≤c)&&decide (c≤122)) ||(decide (65≤c)&&decide (c≤90))
def acU(c:Int):Bool:=decide (48≤c)&&decide (c≤57)
def Ca(c:Int):Bool:=Qv c ||(acU c ||c==95)
theorem XJ(n:Nat)(c:Int):FT n c=some (Qv c):=by
 unfold FT Qv;cases decide (97≤c)<;>cases decide (c≤122)<;>cases decide (65≤c)<;>rfl
theorem acz(n:Nat)(c:Int):wD n c=some (Qv c):=by
 unfold wD Qv;cases decide (97≤c)<;>cases decide (c≤122)<;>cases decide (65≤c)<;>rfl
theorem aoO(n:Nat)(c:Int):Pf n c=some (acU c):=by
 unfold Pf acU;cases decide (48≤c)<;>rfl
theorem atD(n:Nat)(c:Int):CY n c=some (acU c):=by
 unfold CY acU;cases decide (48≤c)<;>rfl
theorem amF(n:Nat)(c:Int):MR n c=some (Ca c):=by
 unfold MR Ca;rw[XJ,aoO];cases Qv c<;>cases acU c<;>rfl
theorem asK(p0:Str)(l:List Str):Ev (fun n=>Mi n p0 l) (l.any fun x=>x==p0):=by
 unfold Mi;have h:=sN l (fun n k i=>aq4 n p0 l k i) (fun _ x=>some (x==p0)) (fun x=>x==p0) true (fun n k i=>rfl) (fun x _=>Ev.ret _);refine Ev.bind h ?_;cases l.any fun x=>x==p0
 ·exact Ev.ret _
 ·exact Ev.ret _
def kws:List Str:=[[116,114,117,101],[102,97,108,115,101],[110,111,116],[111,114],[102,111,114,97,108,108],[101,120,105,115,116,115],[105,110],[110,111,116,105,110],[115,117,98],[109,111,100],[102,117,110],[99,97,114,100],[109,105,110],[109,97,120],[100,111,109],[114,97,110],[80,79,87],[105,110,116],[98,111,111,108],[115,101,116],[112,97,105,114]]
def kwB(s:Str):Bool:=kws.any fun x=>x==s
theorem apa(s:Str):Ev (fun n=>Ja n s) (kwB s):=by
 unfold Ja;exact Ev.bind (asK s _) (Ev.ret _)
theorem chainB(a b:Bool):cond a (some a) (some b)=some (a ||b):=by cases a<;>rfl
theorem aj4(n:Nat)(s:Str):JH n s=some (kwB s):=by
 unfold JH;simp only[chainB,qAb];have h:∀b:Bool,cond b (some true) (some false)=some b:=fun b=>by cases b<;>rfl
 rw[h];simp only[kwB,kws,qCA,List.any_nil,qDc];simp only[BEq.comm (a:=s)]
def ident(s:Str):Bool:=match s with
 |[]=>false
 |c::cs=>decide (cs.length<16)&&(Qv (c.toNat:Int)&&(!(kwB (c::cs))&&cs.all fun c=>Ca (c.toNat:Int)))
theorem qm{α:Type}(p:α→Bool)(l:List α):l.any (fun x=>!(p x))=!(l.all p):=by
 induction l with
 |nil=>rfl
 |cons x l ih=>simp[ih]
theorem rM(s:Str):Ev (fun n=>gX n s) (ident s):=by
 unfold gX;cases s with
 |nil=>exact Ev.of fun n=>rfl
 |cons c cs=>
  have hloop:Ev (fun n=>CJ n (c::cs) n 0) (cond ((c::cs).any fun c=>!(Ca (c.toNat:Int))) (.rt false) (.nx ())):=by
   refine sN (c::cs) (fun n k i=>CJ n (c::cs) k i) (fun _ x=>some (!(Ca (x.toNat:Int)))) (fun x=>!(Ca (x.toNat:Int))) false (fun n k i=>?_) (fun x _=>Ev.ret _);show cond _ _ _=_;congr 1;rw[QJ];cases idx (c::cs) i with
   |none=>rfl
   |some x=>
    simp only[qAx,qAb,amF];rfl
  have hs0:oL (c::cs) 0=some (c.toNat:Int):=by rw[QJ];rfl
  have hne:((c::cs)==([]:Str))=false:=by simp
  simp only[hne,cond_false,hs0,qAb,XJ,aj4];by_cases hl:cs.length<16
  ·have h1:decide (16<((c::cs).length:Int))=false:=decide_eq_false (by simp;omega);simp only[h1,cond_false,ident,decide_eq_true hl,qAu];cases hlet:Qv (c.toNat:Int)with
   |false=>exact Ev.ret _
   |true=>
    cases hk:kwB (c::cs)with
    |true=>exact Ev.ret _
    |false=>
     simp only[qAv,cond_false,qAb,qAu,qBb];refine Ev.bind hloop ?_;rw[qm];simp only[qBC,Ca,hlet,qCj,qAu];cases cs.all fun c=>Qv (c.toNat:Int) ||(acU (c.toNat:Int) ||(c.toNat:Int)==95)
     ·exact Ev.ret _
     ·exact Ev.ret _
  ·have h1:decide (16<((c::cs).length:Int))=true:=decide_eq_true (by simp;omega);simp only[h1,cond_true,qAb,ident,decide_eq_false hl,qBk];exact Ev.ret _
theorem qw(s:Str):Ev (fun n=>jk n s) (ident s):=by
 unfold jk;cases s with
 |nil=>exact Ev.of fun n=>rfl
 |cons c cs=>
  have hloop:Ev (fun n=>G7 n (c::cs) n 1) (cond (cs.any fun c=>!(Ca (c.toNat:Int))) (.rt false) (.nx ())):=by
   refine akz (c::cs) (fun n k i=>G7 n (c::cs) k i) (fun _ x=>some (!(Ca (x.toNat:Int)))) (fun x=>!(Ca (x.toNat:Int))) false (fun n k i=>?_) (fun x _=>Ev.ret _) [c] cs rfl;show cond _ _ _=_;congr 1;rw[QJ];cases idx (c::cs) i with
   |none=>rfl
   |some x=>
    simp only[qAx,qAb,acz,atD,Ca];cases Qv (x.toNat:Int)<;>cases acU (x.toNat:Int)<;>rfl
  have hs0:oL (c::cs) 0=some (c.toNat:Int):=by rw[QJ];rfl
  have hne:decide (((c::cs).length:Int)<1)=false:=decide_eq_false (by simp;omega);simp only[hne,cond_false,hs0,qAb,acz];by_cases hl:cs.length<16
  ·have h1:decide (16<((c::cs).length:Int))=false:=decide_eq_false (by simp;omega);simp only[h1,cond_false,ident,decide_eq_true hl,qAu];cases hlet:Qv (c.toNat:Int)with
   |false=>exact Ev.ret _
   |true=>
    simp only[qAv,cond_false,qAu];refine Ev.bind (a:=kwB (c::cs)) (Ev.bind (apa _) (Ev.ret _)) ?_;cases hk:kwB (c::cs)with
    |true=>exact Ev.ret _
    |false=>
     simp only[cond_false,qAu,qBb];refine Ev.bind hloop ?_;rw[qm];cases cs.all fun c=>Ca (c.toNat:Int)
     ·exact Ev.ret _
     ·exact Ev.ret _
  ·have h1:decide (16<((c::cs).length:Int))=true:=decide_eq_true (by simp;omega);simp only[h1,cond_true,qAb,ident,decide_eq_false hl,qBk];exact Ev.ret _
def ael(s:Str):Str:=if s.getLast? =some 39 then s.dropLast else s
theorem ahI{α:Type}(s:List α)(k:Nat)(h:k≤s.length):kQ s 0 (k:Int)=some (s.take k):=by
 unfold kQ;rw[if_pos (by omega)];simp
theorem aol(n:Nat)(s:Str)(hs:s.length≤9223372036854775807):strings_TrimSuffix n s [39]=some (ael s):=by
 unfold strings_TrimSuffix oh o8;rcases qDy s with rfl|⟨t,c,rfl⟩
 ·rfl
 ·have hl:((t++[c]).length:Int) - (([39]:Str).length:Int)=(t.length:Int):=by simp
  have hd:decide ((([39]:Str).length:Int)≤((t++[c]).length:Int))=true:=decide_eq_true (by simp;omega);simp only[qDz]at hs⊢;rw[hl,hd,wrap64 (by omega) (by simp at hs;omega)];have h1:kQ (t++[c]) (t.length:Int) ((t++[c]).length:Int)=some [c]:=by
   unfold kQ;rw[if_pos (by simp;omega)];simp
  have h2:kQ (t++[c]) 0 (t.length:Int)=some t:=by rw[ahI _ _ (by simp)];simp
  simp only[cond_true,h1,h2,qAb];unfold ael;rw[qDG,qDH];by_cases hc:c=39
  ·subst hc;simp
  ·have:(([c]:Str)==[39])=false:=by simp[hc]
   rw[this,if_neg (by simpa using hc)];rfl
def named(s:Str):Bool:=ident (ael s)
theorem afh(s:Str)(hs:s.length≤9223372036854775807):Ev (fun n=>wB n s) (named s):=by
 unfold wB;simp only[aol _ s hs,qAb];exact Ev.bind (rM _) (Ev.ret _)
theorem axh{s:Str}(h:ident s=true):∀c∈s,Ca (c.toNat:Int)=true:=by
 cases s with
 |nil=>cases h
 |cons c cs=>
  simp only[ident,qAa,decide_eq_true_eq,qAP]at h;intro x hx;rcases qAh.1 hx with rfl|hx
  ·simp[Ca,h.2.1]
  ·exact h.2.2.2 x hx
theorem afa(s:Str):Ev (fun n=>KN n s) (named s):=by
 unfold KN;have hp:Ev (fun n=>Nk n s) (decide (s.getLast? =some 39)&&ident s.dropLast):=by
  unfold Nk;rcases qDy s with rfl|⟨t,c,rfl⟩
  ·exact Ev.ret _
  ·simp only[qDz,qDG,qDH];cases t with
   |nil=>
    have h1:decide (1<(([]++[c]:Str).length:Int))=false:=rfl;simp only[h1,cond_false,qAb];have:ident ([]:Str)=false:=rfl;rw[this,qBP];exact Ev.ret _
   |cons d t=>
    have h1:decide (1<((d::t++[c]:Str).length:Int))=true:=decide_eq_true (by simp;omega);have hlen:(((d::t++[c]:Str).length:Int) - 1)=((d::t).length:Int):=by simp
    have h2:oL (d::t++[c]) (((d::t++[c]:Str).length:Int) - 1)=some (c.toNat:Int):=by
     rw[hlen,QJ,show(d::t++[c]:Str)=(d::t)++c::[]from rfl,gJ];rfl
    have h3:kQ (d::t++[c]) 0 (((d::t++[c]:Str).length:Int) - 1)=some (d::t):=by rw[hlen,ahI _ _ (by simp)];simp
    simp only[h1,cond_true,h2,h3,qAb];by_cases hc:c=39
    ·subst hc;simp only[show((((39:UInt8).toNat:Nat):Int)==39)=true from rfl,cond_true,decide_true,qAu];exact Ev.bind (Ev.bind (qw _) (Ev.ret _)) (Ev.ret _)
    ·have e:(((c.toNat:Nat):Int)==39)=false:=by
      apply beq_false_of_ne;intro h;apply hc;have:c.toNat=39:=by omega
      exact UInt8.toNat_inj.1 this
     rw[e];have e2:decide (some c=some (39:UInt8))=false:=decide_eq_false (by simpa using hc);simp only[cond_false,qAb,e2,qBk];exact Ev.ret _
 refine Ev.bind (a:=named s) ?_ (Ev.ret _);refine Ev.bind (qw s) ?_;unfold named ael;by_cases hq:s.getLast? =some 39
 ·have hi:ident s=false:=by
   cases h:ident s with
   |false=>rfl
   |true=>
    have:=axh h 39 (qDI hq);cases this
  rw[hi,if_pos hq];rw[decide_eq_true hq,qAu]at hp;exact Ev.bind hp (Ev.ret _)
 ·rw[if_neg hq];rw[decide_eq_false hq,qBk]at hp;cases ident s
  ·exact Ev.bind hp (Ev.ret _)
  ·exact Ev.ret _
theorem Ty.ind{P:Ty→Prop}(h:∀k n ks,(∀t∈ks,P t)→P (.mk k n ks))(t:Ty):P t:=by
 match t with
 | .mk k n ks=>exact h k n ks fun u _=>Ty.ind h u
decreasing_by
 rename_i hu;have:=qCH hu
 grind
def fT(k:Int)(nm:Str)(len:Nat)(d:Int):Bool:=
 !(k==2&&decide (1<d))&&((((k==1 ||(k==2 ||k==3))&&len==0) ||((k==4&&len==2) ||(k==5&&len==1)))&&cond (k==3) (ident nm) (nm==[]))
mutual
def pf:Ty→Int→Int→Bool×Int
 | .mk k nm ks,d,c=>cond ((decide (c+1≤16)&&decide (d≤6))&&fT k nm ks.length d) (kK ks (d+1) (c+1)) (false,c+1)
def kK:List Ty→Int→Int→Bool×Int
 |[],_,c=>(true,c)
 |t::ts,d,c=>cond (pf t d c).1 (kK ts d (pf t d c).2) (false,(pf t d c).2)
end
mutual
theorem Gd:∀(t:Ty) (d c:Int),(pf t d c).1=true→c<(pf t d c).2∧(pf t d c).2≤16
 | .mk k nm ks,d,c,h=>by
  simp only[pf]at h⊢;cases hb:((decide (c+1≤16)&&decide (d≤6))&&fT k nm ks.length d)with
  |false=>rw[hb]at h;cases h
  |true=>
   rw[hb]at h;simp only[cond_true]at h⊢;simp only[qAa,decide_eq_true_eq]at hb;have:=abd ks (d+1) (c+1) h;omega
theorem abd:∀(ts:List Ty) (d c:Int),(kK ts d c).1=true→c≤(kK ts d c).2∧(c≤16→(kK ts d c).2≤16)
 |[],_,c,_=>by simp[kK]
 |t::ts,d,c,h=>by
  simp only[kK]at h⊢;cases hb:(pf t d c).1 with
  |false=>rw[hb]at h;cases h
  |true=>
   rw[hb]at h;simp only[cond_true]at h⊢;have h1:=Gd t d c hb;have h2:=abd ts d _ h;exact⟨by omega,fun _=>h2.2 h1.2⟩
end
theorem aA5(n:Nat)(c d:Int)(h0:0≤c)(h1:c≤16):lS n c 16 6 d=some (decide (c+1≤16)&&decide (d≤6),c+1):=by
 unfold lS;rw[wrap64 (by omega) (by omega)]
 grind
def aHR(t:Ty):Prop:=∀d c:Int,1≤d→d≤7→0≤c→c≤16→Ev (fun n=>iW n c 16 6 t d (decide (1<d))) (pf t d c)
theorem avM(d:Int):∀(ts:List Ty) (i c:Int),0≤i→(∃j,0≤j∧(kK ts d c).1=false∧lu (τ:=Int) (fun i x s=>cond (!(pf x d s).1) (.rt (i,(pf x d s).2)) (.nx (pf x d s).2)) (fun s=>s) i ts c=.rt (j,(kK ts d c).2))∨((kK ts d c).1=true∧lu (ρ:=Int×Int) (fun i x s=>cond (!(pf x d s).1) (.rt (i,(pf x d s).2)) (.nx (pf x d s).2)) (fun s=>s) i ts c=.nx (kK ts d c).2)
 |[],i,c,_=>.inr ⟨rfl,rfl⟩
 |t::ts,i,c,hi=>by
  simp only[kK,lu];cases hb:(pf t d c).1 with
  |false=>exact .inl ⟨i,hi,rfl,rfl⟩
  |true=>exact avM d ts (i+1) _ (by omega)
theorem ayu(ts:List Ty)(h:∀t∈ts,aHR t)(d c:Int)(hd:1≤d)(hd6:d≤6)(h0:0≤c)(h1:c≤16):Ev (fun n=>fD n ts c 16 6 d) (!(kK ts (d+1) c).1,(kK ts (d+1) c).2):=by
 refine Ev.succ ?_;show Ev (fun n=>pR n _ _ _ _ ts c 16 6 d) _;unfold pR;have hloop:=Qk ts (fun n k i s=>DC n (lG n) (fD n) (iW n) (fQ n) ts 16 6 d k (i,s))
  (fun n i x s=>(fQ n x s 16 6 d).bind fun x2=>cond x2.1 (some (.rt (i,x2.2))) (some (.nx x2.2))) (fun i x s=>cond (!(pf x (d+1) s).1) (.rt (i,(pf x (d+1) s).2)) (.nx (pf x (d+1) s).2)) (fun s=>s) (fun _ _ s=>0≤s∧s≤16)
  (fun n k i s=>by
   show cond _ _ _=_;congr 1;congr 1;funext x;dsimp only;cases fQ n x s 16 6 d with
   |none=>rfl
   |some b=>obtain⟨b,e⟩:=b;cases b<;>rfl)
  (fun i x suf s hx hs=>⟨by
   have hfit:Ev (fun n=>fQ n x s 16 6 d) (!(pf x (d+1) s).1,(pf x (d+1) s).2):=by
    refine Ev.succ ?_;show Ev (fun n=>qE n _ _ _ _ x s 16 6 d) _;unfold qE;have:=h x hx (d+1) s (by omega) (by omega) hs.1 hs.2;rw[decide_eq_true (show 1<d+1 by omega)]at this;rw[wrap64 (by omega) (by omega)];exact Ev.bind this (Ev.ret _)
   refine Ev.bind hfit ?_;cases(pf x (d+1) s).1
   ·exact Ev.ret _
   ·exact Ev.ret _,fun s' he=>by
    cases hb:(pf x (d+1) s).1 with
    |false=>rw[hb]at he;cases he
    |true=>
     rw[hb]at he;simp only[qAv,cond_false,LR.nx.injEq]at he;have:=Gd x (d+1) s hb;omega⟩) (s0:=c) ⟨h0,h1⟩
 rcases avM (d+1) ts 0 c (qBD _)with⟨j,hj,hf,hr⟩|⟨ht,hr⟩
 ·rw[hr]at hloop;refine Ev.bind (a:=(j,(kK ts (d+1) c).2)) (Ev.succ ?_) ?_
  ·show Ev (fun n=>ku n _ _ _ _ ts c 16 6 d) _;unfold ku;exact Ev.bind hloop (Ev.ret _)
  ·rw[hf];simp only[decide_eq_true hj];exact Ev.ret _
 ·rw[hr]at hloop;refine Ev.bind (a:=(-1,(kK ts (d+1) c).2)) (Ev.succ ?_) ?_
  ·show Ev (fun n=>ku n _ _ _ _ ts c 16 6 d) _;unfold ku;exact Ev.bind hloop (Ev.ret _)
  ·rw[ht];exact Ev.ret _
theorem aqw(len:Nat)(m:Nat):(((len:Int)!=(m:Int)))=!(len==m):=by grind
theorem fits:∀t:Ty,aHR t:=Ty.ind fun k nm ks ih d c hd hd7 h0 h1=>by
 refine Ev.succ ?_;show Ev (fun n=>sS n _ _ _ _ c 16 6 (.mk k nm ks) d (decide (1<d))) _;unfold sS;simp only[aA5 _ c d h0 h1,qAb,pf,Ty.kind,Ty.name,Ty.kids];cases hb:(decide (c+1≤16)&&decide (d≤6))with
 |false=>exact Ev.ret _
 |true=>
  simp only[qAa,decide_eq_true_eq]at hb;have hk:=ayu ks ih d (c+1) hd hb.2 (by omega) hb.1;simp only[qAv,cond_false,qAu]
  -- the end: the number of kids, the name, the kids
  have hend:∀m:Nat,Ev (fun n=>(((cond ((ks.length:Int)!=(m:Int)) (some true) (cond (k !=3) (some (!(nm==([]:Str)))) (some false))):Option Bool).bind fun(s2:Bool)=>(cond s2 (some (false,c+1)) ((fD n ks (c+1) 16 6 d).bind fun(x2:Bool×Int)=>some ((!x2.1),x2.2)))))
    (cond ((ks.length==m)&&cond (k==3) true (nm==[])) (kK ks (d+1) (c+1)) (false,c+1)):=fun m=>by
   rw[aqw];cases ks.length==m with
   |false=>exact Ev.ret _
   |true=>
    simp only[qAv,cond_false,qAu,bne];have hkids:Ev (fun n=>(fD n ks (c+1) 16 6 d).bind fun(x2:Bool×Int)=>some ((!x2.1),x2.2)) (kK ks (d+1) (c+1)):=by
     refine Ev.bind hk ?_;simp only[qCk];exact Ev.ret _
    cases k==3 with
    |true=>exact hkids
    |false=>
     simp only[qBb,cond_true,qAb,cond_false];cases nm==([]:Str)with
     |false=>exact Ev.ret _
     |true=>exact hkids
  by_cases e1:k=1
  ·subst e1;have:=hend 0;simpa[fT]using this
  by_cases e2:k=2
  ·subst e2;cases hf:decide (1<d)with
   |true=>
    have:fT 2 nm ks.length d=false:=by simp[fT,hf]
    simp only[this,cond_false];exact Ev.of fun n=>by simp
   |false=>
    have:=hend 0;simpa[fT,hf]using this
  by_cases e3:k=3
  ·subst e3;simp only[show((3:Int)==1)=false from rfl,show((3:Int)==2)=false from rfl,show((3:Int)==3)=true from rfl,cond_false,cond_true];refine Ev.bind (a:=cond (ident nm) (.nx 0) (.rt (false,c+1))) (Ev.bind (rM nm) ?_) ?_
   ·cases ident nm
    ·exact Ev.ret _
    ·exact Ev.ret _
   ·cases hi:ident nm with
    |false=>
     have:fT 3 nm ks.length d=false:=by simp[fT,hi]
     rw[this];exact Ev.ret _
    |true=>
     have:=hend 0;simpa[fT,hi]using this
  by_cases e4:k=4
  ·subst e4;have:=hend 2;simpa[fT]using this
  by_cases e5:k=5
  ·subst e5;have:=hend 1;simpa[fT]using this
  ·have:fT k nm ks.length d=false:=by simp[fT,e1,e2,e3,e4,e5]
   rw[this];refine Ev.of fun n=>?_;have b1:=beq_false_of_ne e1;have b2:=beq_false_of_ne e2;have b3:=beq_false_of_ne e3;have b4:=beq_false_of_ne e4;have b5:=beq_false_of_ne e5;simp only[b1,b2,b3,b4,b5,cond_false,qAb,LR.el]
def bA(t:Ty):Bool:=(pf t 1 0).1
theorem tK(t:Ty):Ev (fun n=>ql n t) (bA t):=by
 have:=fits t 1 0 (by omega) (by omega) (by omega) (by omega);exact Ev.bind this (Ev.ret _)
def pt(t:Ty)(d c:Int):Int:=cond (pf t d c).1 (pf t d c).2 (-1)
def aGZ(t:Ty):Prop:=∀d c:Int,1≤d→d≤7→0≤c→c≤16→Ev (fun n=>zR n t d c) (pt t d c)
theorem avX(d:Int):∀(ts:List Ty) (c:Int),0≤c→fG (τ:=Int) (fun x s=>cond (decide (pt x d s<0)) (.rt (-1)) (.nx (pt x d s))) (fun s=>s) ts c=cond (kK ts d c).1 (.nx (kK ts d c).2) (.rt (-1))
 |[],c,_=>rfl
 |t::ts,c,h0=>by
  simp only[kK,fG];by_cases hb:(pf t d c).1=true
  ·have h1:=Gd t d c hb;have h2:pt t d c=(pf t d c).2:=by simp only[pt,hb,cond_true]
   have h3:decide ((pf t d c).2<0)=false:=decide_eq_false (by omega);simp only[h2,h3,hb,cond_true,cond_false];exact avX d ts (pf t d c).2 (by omega)
  ·have hb':(pf t d c).1=false:=by simpa using hb
   have h2:pt t d c= -1:=by simp only[pt,hb',cond_false]
   have h3:decide (pt t d c<0)=true:=decide_eq_true (by omega);simp only[h3,hb',cond_true,cond_false]
theorem typed:∀t:Ty,aGZ t:=Ty.ind fun k nm ks ih d c hd hd7 h0 h1=>by
 refine Ev.succ ?_;show Ev (fun n=>Oq n _ (.mk k nm ks) d c) _;unfold Oq;simp only[pt,pf,Ty.kind,Ty.name,Ty.kids];rw[wrap64 (by omega) (by omega)];by_cases hd6:d≤6
 case neg=>
  rw[decide_eq_true (show 6<d by omega),decide_eq_false hd6];simp only[qBP,qBk,cond_false];exact Ev.ret _
 by_cases hc:c+1≤16
 case neg=>
  rw[decide_eq_false (show ¬6<d by omega),decide_eq_true (show 16<c+1 by omega),decide_eq_false hc];simp only[qBk,cond_false,cond_true];exact Ev.ret _
 rw[decide_eq_false (show ¬6<d by omega),decide_eq_false (show ¬16<c+1 by omega),decide_eq_true hd6,decide_eq_true hc];simp only[cond_false,qAu];have hloop:=V3 ks (fun n k' i s=>MC n (zR n) (.mk k nm ks) d k' (s,i)) (fun n x s=>(zR n x (IntKind.wrap .i64 (d+1)) s).bind fun x2=>cond (decide (x2<0)) (some (.rt (-1))) (some (.nx x2)))
  (fun x s=>cond (decide (pt x (d+1) s<0)) (.rt (-1)) (.nx (pt x (d+1) s))) (fun s=>s) (fun _ s=>0≤s∧s≤16)
  (fun n k' i s=>by
   show cond _ _ _=_;congr 1;show(idx ks i).bind _=_;congr 1;funext x;dsimp only;cases zR n x (IntKind.wrap .i64 (d+1)) s with
   |none=>rfl
   |some b=>simp only[qAb];cases decide (b<0)<;>rfl)
  (fun x suf s hx hs=>⟨by
   rw[wrap64 (by omega) (by omega)];refine Ev.bind (ih x hx (d+1) s (by omega) (by omega) hs.1 hs.2) ?_;cases decide (pt x (d+1) s<0)
   ·exact Ev.ret _
   ·exact Ev.ret _,fun s' he=>by
    cases hb:decide (pt x (d+1) s<0)with
    |true=>rw[hb]at he;cases he
    |false=>
     rw[hb]at he;simp only[cond_false,LR.nx.injEq]at he;have hneg:¬pt x (d+1) s<0:=of_decide_eq_false hb;subst he;unfold pt at hneg⊢;cases hb2:(pf x (d+1) s).1 with
     |false=>rw[hb2]at hneg;simp at hneg
     |true=>have:=Gd x (d+1) s hb2;simp only[cond_true];omega⟩) (s0:=c+1) ⟨by omega,hc⟩
 rw[avX _ _ _ (by omega)]at hloop;have hkids:Ev (fun n=>(MC n (zR n) (.mk k nm ks) d n (c+1,0)).bind (LR.el (fun(s5:Int)=>some s5) (fun r=>some r))) (cond (kK ks (d+1) (c+1)).1 (kK ks (d+1) (c+1)).2 (-1)):=by
  refine Ev.bind hloop ?_;cases(kK ks (d+1) (c+1)).1
  ·exact Ev.ret _
  ·exact Ev.ret _
 have hend:∀m:Nat,Ev (fun n=>(((cond ((ks.length:Int)!=(m:Int)) (some true) (cond (k==3) ((jk n nm).bind fun(x3:Bool)=>(cond (!x3) (some true) (cond (k !=3) (some (!(nm==([]:Str)))) (some false)))) (cond (k !=3) (some (!(nm==([]:Str)))) (some false)))):Option Bool).bind fun(s3:Bool)=>(cond s3 (some (-1)) ((MC n (zR n) (.mk k nm ks) d n (c+1,0)).bind (LR.el (fun(s5:Int)=>some s5) (fun r=>some r))))))
   (cond ((ks.length==m)&&cond (k==3) (ident nm) (nm==[])) (cond (kK ks (d+1) (c+1)).1 (kK ks (d+1) (c+1)).2 (-1)) (-1)):=fun m=>by
  rw[aqw];cases ks.length==m with
  |false=>exact Ev.ret _
  |true=>
   simp only[qAv,cond_false,qAu,bne];cases k==3 with
   |true=>
    simp only[cond_true,qAv,cond_false];refine Ev.bind (a:=!(ident nm)) (Ev.bind (qw nm) ?_) ?_
    ·cases ident nm
     ·exact Ev.ret _
     ·exact Ev.ret _
    ·cases ident nm
     ·exact Ev.ret _
     ·exact hkids
   |false=>
    simp only[cond_false,qBb,cond_true,qAb];cases nm==([]:Str)with
    |false=>exact Ev.ret _
    |true=>exact hkids
 have hpair:∀b:Bool,(cond (cond b (kK ks (d+1) (c+1)) (false,c+1)).1 (cond b (kK ks (d+1) (c+1)) (false,c+1)).2 (-1):Int)=cond b (cond (kK ks (d+1) (c+1)).1 (kK ks (d+1) (c+1)).2 (-1)) (-1):=fun b=>by cases b<;>rfl
 rw[hpair];by_cases e1:k=1
 ·subst e1;have:=hend 0;simpa[fT]using this
 by_cases e2:k=2
 ·subst e2;cases hf:decide (1<d)with
  |true=>
   have:fT 2 nm ks.length d=false:=by simp[fT,hf]
   rw[this];exact Ev.of fun n=>by simp
  |false=>
   have:=hend 0;simpa[fT,hf]using this
 by_cases e3:k=3
 ·subst e3;have:=hend 0;simpa[fT]using this
 by_cases e4:k=4
 ·subst e4;have:=hend 2;simpa[fT]using this
 by_cases e5:k=5
 ·subst e5;have:=hend 1;simpa[fT]using this
 ·have:fT k nm ks.length d=false:=by simp[fT,e1,e2,e3,e4,e5]
  rw[this];refine Ev.of fun n=>?_;have b1:=beq_false_of_ne e1;have b2:=beq_false_of_ne e2;have b3:=beq_false_of_ne e3;have b4:=beq_false_of_ne e4;have b5:=beq_false_of_ne e5;simp only[b1,b2,b3,b4,b5,cond_false,qAb,LR.el]
theorem Cw(t:Ty):Ev (fun n=>uS n t) (bA t):=by
 refine Ev.bind (typed t 1 0 (by omega) (by omega) (by omega) (by omega)) ?_;unfold pt bA;cases hb:(pf t 1 0).1 with
 |false=>exact Ev.ret _
 |true=>
  have:=Gd t 1 0 hb;simp only[cond_true];rw[decide_eq_true (by omega)];exact Ev.ret _
theorem adk{α σ τ ρ:Type}(f:α→σ→σ)(fin:σ→τ):∀(l:List α) (s:σ),fG (ρ:=ρ) (fun x s=>.nx (f x s)) fin l s=.nx (fin (l.foldl (fun s x=>f x s) s))
 |[],_=>rfl
 |x::xs,s=>adk f fin xs (f x s)
theorem oZ{α σ τ ρ:Type}(l:List α)(L:Nat→Nat→Int→σ→Option (LR τ ρ))(step:Nat→α→σ→Option σ)(f:α→σ→σ)(fin:σ→τ)(I:List α→σ→Prop)
  (hL:∀n k i s,L n (k+1) i s=cond (decide (i<(l.length:Int))) ((idx l i).bind fun x=>(step n x s).bind fun s'=>L n k (i+1) s') (some (.nx (fin s))))
  (hI:∀x suf s,x∈l→I (x::suf) s→Ev (fun n=>step n x s) (f x s)∧I suf (f x s)) {s0:σ} (h0:I l s0):Ev (fun n=>L n n 0 s0) (.nx (fin (l.foldl (fun s x=>f x s) s0))):=by
 rw[←adk f fin];refine V3 l L (fun n x s=>(step n x s).bind fun s'=>some (.nx s')) (fun x s=>.nx (f x s)) fin I (fun n k i s=>?_) (fun x suf s hx hs=>?_) h0
 ·rw[hL];congr 1;congr 1;funext x
  grind
 ·obtain⟨h1,h2⟩:=hI x suf s hx hs;exact⟨Ev.bind h1 (Ev.ret _),fun s' h=>by cases h;exact h2⟩
theorem an6{α ρ:Type}(l:List α)(L:Nat→Nat→Int→Option (LR Unit ρ))(step:Nat→α→Option (LR Unit ρ))(p:α→Bool)(r:ρ)
  (hL:∀n k i,L n (k+1) i=cond (decide (i<(l.length:Int))) ((idx l i).bind fun x=>(step n x).bind (LR.el (fun _=>L n k (i+1)) (fun r=>some (.rt r)))) (some (.nx ())))
  (hp:∀x∈l,Ev (fun n=>step n x) (cond (p x) (.rt r) (.nx ()))):Ev (fun n=>L n n 0) (cond (l.any p) (.rt r) (.nx ())):=by
 have:=V3 l (fun n k i (_:Unit)=>L n k i) (fun n x _=>step n x) (fun x _=>cond (p x) (.rt r) (.nx ())) (fun _=>()) (fun _ _=>True)
  (fun n k i s=>by rw[hL]) (fun x suf s hx _=>⟨hp x hx,fun _ _=>trivial⟩) (s0:=()) trivial
 rw[Tg]at this;exact this
theorem qh{α:Type}{b:Nat}{l ys:List α}(h:l.length+ys.length≤1000000)(hb:b≤1000):app b l ys=some (l++ys):=by
 unfold app;have:=qCV h hb
 grind
theorem Pn{α:Type}:∀(l s:List α),l.foldl (fun s x=>s++[x]) s=s++l
 |[],s=>by simp
 |x::l,s=>by simp[Pn l]
theorem Oe{α:Type}(k:Str):dn ([]:List (Str×α)) k=none:=rfl
theorem mg{α:Type}(p:Str×α)(m:List (Str×α))(k:Str):dn (p::m) k=if p.1==k then some p.2 else dn m k:=by
 unfold dn
 grind
theorem ab2{α:Type}(m:List (Str×α))(k:Str)(v:α)(k':Str):dn (lJ m k v) k'=if k==k' then some v else dn m k':=by
 induction m with
 |nil=>rw[lJ,mg]
 |cons p m ih=>
  simp only[lJ];by_cases h:(p.1==k)=true
  ·have e:p.1=k:=by simpa using h
   rw[if_pos h,mg,mg,e]
   grind
  ·rw[if_neg h,mg,ih,mg]
   grind
theorem Dh{α:Type}(m:List (Str×α))(k:Str)(v:α):(lJ m k v).length≤m.length+1:=by
 induction m with
 |nil=>simp[lJ]
 |cons p m ih=>
  simp only[lJ]
  grind
theorem LX{α:Type}{m:List (Str×α)}(h:m.length≤1000000)(k:Str)(v:α):yG m k v=some (lJ m k v):=by
 unfold yG
 grind
theorem mem_keys{α:Type}(m:List (Str×α))(k:Str):k∈m.map (·.1)↔∃v,dn m k=some v:=by
 induction m with
 |nil=>simp[Oe]
 |cons p m ih=>
  rw[mg];by_cases h:(p.1==k)=true
  ·simp_all
  grind
def gI{α:Type}(l:List (Str×α))(m:List (Str×α)):List (Str×α):=l.foldl (fun m p=>lJ m p.1 p.2) m
theorem PK{α:Type}(l m:List (Str×α)):(gI l m).length≤m.length+l.length:=by
 induction l generalizing m with
 |nil=>simp[gI]
 |cons p l ih=>
  have h1:=ih (lJ m p.1 p.2);have h2:=Dh m p.1 p.2;simp only[gI,qBg,qAp]at h1⊢;omega
theorem Zt{α:Type}(l l' m:List (Str×α)):gI (l++l') m=gI l' (gI l m):=by simp[gI]
theorem awk{α:Type}(l m:List (Str×α))(k:Str):k∈(gI l m).map (·.1)↔k∈m.map (·.1)∨k∈l.map (·.1):=by
 induction l generalizing m with
 |nil=>simp[gI]
 |cons p l ih=>
  have h1:=ih (lJ m p.1 p.2);have h2:k∈(lJ m p.1 p.2).map (·.1)↔k∈m.map (·.1)∨k=p.1:=by
   rw[mem_keys,mem_keys,ab2];by_cases h:(p.1==k)=true
   ·rw[if_pos h];have e:p.1=k:=by simpa using h
    exact⟨fun _=>.inr e.symm,fun _=>⟨_,rfl⟩⟩
   ·rw[if_neg h];have e:k≠p.1:=fun e=>h (by simp[e]);simp[e]
  rw[h2]at h1;simp only[gI,qBg,qAy,qAh]at h1⊢
  grind
theorem QV{α:Type}(l m:List (Str×α))(k:Str)(hn:(l.map (·.1)).Nodup):dn (gI l m) k=(match dn l k with|some v=>some v|none=>dn m k):=by
 induction l generalizing m with
 |nil=>rfl
 |cons p l ih=>
  rw[qAy,qCq]at hn;have h1:=ih (lJ m p.1 p.2) hn.2;simp only[gI,qBg]at h1⊢;rw[h1,ab2,mg];by_cases h:(p.1==k)=true
  ·rw[if_pos h,if_pos h];have e:p.1=k:=by simpa using h
   have h3:dn l k=none:=by
    cases hm:dn l k with
    |none=>rfl
    |some v=>exact absurd ((mem_keys l k).2 ⟨v,hm⟩) (e▸hn.1)
   rw[h3]
  grind
theorem qY{α:Type}(l:List (Str×α))(k:Str)(v:α)(hn:(l.map (·.1)).Nodup):dn l k=some v↔(k,v)∈l:=by
 induction l with
 |nil=>simp[Oe]
 |cons p l ih=>
  rw[mg,qAh]
  grind
theorem aiS{α:Type}{l l':List (Str×α)}(hp:l.Perm l')(hn:(l.map (·.1)).Nodup)(k:Str):dn l k=dn l' k:=by
 have hn':(l'.map (·.1)).Nodup:=(hp.map _).nodup_iff.1 hn;cases h:dn l k with
 |some v=>
  rw[qY _ _ _ hn]at h;exact((qY _ _ _ hn').2 (hp.mem_iff.1 h)).symm
 |none=>
  cases h':dn l' k with
  |none=>rfl
  |some v=>
   rw[qY _ _ _ hn']at h';rw[(qY _ _ _ hn).2 (hp.mem_iff.2 h')]at h;cases h
mutual
def zU(q:Int):Ty→Bool
 | .mk k _ ks=>k==q ||apE q ks
def apE(q:Int):List Ty→Bool
 |[]=>false
 |t::ts=>zU q t ||apE q ts
end
theorem acO(q:Int):∀ts,apE q ts=ts.any (zU q)
 |[]=>rfl
 |t::ts=>by simp[apE,acO q ts]
theorem atU(q:Int):∀t:Ty,Ev (fun n=>oO n t q) (zU q t):=Ty.ind fun k nm ks ih=>by
 refine Ev.succ ?_;show Ev (fun n=>Az n _ _ _ _ (.mk k nm ks) q) _;unfold Az;simp only[Ty.kind,Ty.kids,zU,acO];have hk:Ev (fun n=>jl n ks q) (ks.any (zU q)):=by
  refine Ev.succ ?_;show Ev (fun n=>oq n _ _ _ _ ks q) _;unfold oq;refine Ev.bind (a:=dR (zU q) 0 ks) (Ev.succ ?_) ?_
  ·show Ev (fun n=>qH n _ _ _ _ ks q) _;unfold qH;refine vo ks (fun n k i=>Bn n _ _ _ (mK n) ks q k i) (fun n x=>mK n x q) (zU q) (fun n k i=>rfl) (fun x hx=>?_);refine Ev.succ ?_;show Ev (fun n=>xP n _ _ _ _ x q) _;unfold xP;exact Ev.bind (ih x hx) (Ev.ret _)
  ·rw[mO _ _ _ (qBD _)];exact Ev.ret _
 cases hq:(k==q)
 ·exact Ev.bind (Ev.bind hk (Ev.ret _)) (Ev.ret _)
 ·exact Ev.bind (Ev.ret _) (Ev.ret _)
theorem as8:∀t:Ty,Ev (fun n=>uV n t) (zU 2 t):=Ty.ind fun k nm ks ih=>by
 refine Ev.succ ?_;show Ev (fun n=>Fj n _ (.mk k nm ks)) _;unfold Fj;simp only[Ty.kind,zU,acO];cases hq:(k==2)
 ·have h:=sN ks (fun n k' i=>TG n (uV n) (.mk k nm ks) k' i) (fun n x=>uV n x) (zU 2) true (fun n k i=>rfl) ih;simp only[cond_false,qDd];refine Ev.bind h ?_;cases ks.any (zU 2)
  ·exact Ev.ret _
  ·exact Ev.ret _
 ·exact Ev.ret _
mutual
def dX:Ty→List Str
 | .mk k nm ks=>cond (k==3) [nm] (jG ks)
def jG:List Ty→List Str
 |[]=>[]
 |t::ts=>dX t++jG ts
end
mutual
def H9:Ty→Bool
 | .mk k _ ks=>(decide (ks.length≤2)&&(k !=3 ||ks.length==0))&&Vd ks
def Vd:List Ty→Bool
 |[]=>true
 |t::ts=>H9 t&&Vd ts
end
theorem QC:∀{ts:List Ty},Vd ts=true→∀t∈ts,H9 t=true
 |[],_,t,h=>by cases h
 |u::ts,h,t,ht=>by
  simp only[Vd,qAa]at h;rcases qAh.1 ht with rfl|ht
  ·exact h.1
  ·exact QC h.2 t ht
theorem akv:∀{ts:List Ty} {t:Ty},t∈ts→(dX t).length≤(jG ts).length
 |[],t,h=>by cases h
 |u::ts,t,ht=>by
  simp only[jG,qAe];rcases qAh.1 ht with rfl|ht
  ·omega
  ·have:=akv ht;omega
theorem aFR{k:Int}{nm:Str}{len:Nat}{d:Int}(h:fT k nm len d=true):len≤2∧(k=3→len=0):=by
 unfold fT at h
 grind
mutual
theorem aDO:∀(t:Ty) (d c:Int),(pf t d c).1=true→H9 t=true∧((dX t).length:Int)≤(pf t d c).2 - c
 | .mk k nm ks,d,c,h=>by
  simp only[pf]at h⊢;cases hb:((decide (c+1≤16)&&decide (d≤6))&&fT k nm ks.length d)with
  |false=>rw[hb]at h;cases h
  |true=>
   rw[hb]at h;simp only[cond_true]at h⊢;simp only[qAa]at hb;have hh:=aFR hb.2;have h1:=aAl ks (d+1) (c+1) h;have h2:=abd ks (d+1) (c+1) h;constructor
   ·simp only[H9,h1.1,qBH,qAa,decide_eq_true_eq,qBe,bne_iff_ne,beq_iff_eq];refine⟨hh.1,?_⟩;by_cases e:k=3
    ·exact .inr (hh.2 e)
    ·exact .inl e
   ·simp only[dX];cases k==3 with
    |true=>simp only[cond_true,qAI];omega
    |false=>simp only[cond_false];omega
theorem aAl:∀(ts:List Ty) (d c:Int),(kK ts d c).1=true→Vd ts=true∧((jG ts).length:Int)≤(kK ts d c).2 - c
 |[],_,c,_=>by simp[kK,Vd,jG]
 |t::ts,d,c,h=>by
  simp only[kK]at h⊢;cases hb:(pf t d c).1 with
  |false=>rw[hb]at h;cases h
  |true=>
   rw[hb]at h;simp only[cond_true]at h⊢;have h1:=aDO t d c hb;have h2:=aAl ts d _ h;simp only[Vd,h1.1,h2.1,qBH,jG,qAe];refine⟨trivial,?_⟩;omega
end
theorem YE{t:Ty}(h:bA t=true):H9 t=true∧(dX t).length≤16:=by
 have h1:=aDO t 1 0 h;have h2:=Gd t 1 0 h
 grind
theorem alr:∀t:Ty,H9 t=true→(dX t).length≤16→Ev (fun n=>BI n t) (dX t):=Ty.ind fun k nm ks ih hok hlen=>by
 refine Ev.succ ?_;show Ev (fun n=>Ht n _ (.mk k nm ks)) _;unfold Ht;simp only[Ty.kind,dX]at hlen⊢;simp only[H9,qAa]at hok;cases hq:(k==3)with
 |true=>exact Ev.ret _
 |false=>
  rw[hq]at hlen;have h:=oZ ks (fun n k' i s=>WV n (BI n) (.mk k nm ks) k' (s,i)) (fun n x s=>(BI n x).bind fun x2=>app 16 s x2) (fun x s=>s++dX x) (fun s=>s) (fun suf s=>s.length+(jG suf).length≤16)
   (fun n k' i s=>by
    show cond _ _ _=_;congr 1;congr 1;simp only[qAW];rfl)
   (fun x suf s hx hs=>by
    simp only[jG,qAe]at hs;refine⟨Ev.bind (ih x hx (QC hok.2 x hx) (by have:=akv hx;omega)) ?_,?_⟩
    ·rw[qh (by omega) (by omega)];exact Ev.ret _
    ·simp;omega) (s0:=([]:List Str)) (by simpa using hlen)
  have hf:∀(ts:List Ty) (s:List Str),ts.foldl (fun s x=>s++dX x) s=s++jG ts:=by
   intro ts
   induction ts with
   |nil=>intro s;simp[jG]
   |cons t ts iht=>intro s;simp[jG,iht]
  rw[hf]at h;exact Ev.bind h (Ev.ret _)
theorem axa:∀t:Ty,H9 t=true→∀m:List (Str×Bool),m.length+(dX t).length≤1000→Ev (fun n=>qC n t m) (gI ((dX t).map fun s=>(s,true)) m):=Ty.ind fun k nm ks ih hok m hlen=>by
 refine Ev.succ ?_;show Ev (fun n=>BM n _ (.mk k nm ks) m) _;unfold BM;simp only[Ty.kind,Ty.name,dX]at hlen⊢;simp only[H9,qAa,decide_eq_true_eq,qBe,beq_iff_eq,bne_iff_ne]at hok;have hloop:∀(m:List (Str×Bool)),m.length+(jG ks).length≤1000→Ev (fun n=>Fg n (qC n) (.mk k nm ks) n (0,m)) (.nx (gI ((jG ks).map fun s=>(s,true)) m)):=fun m hm=>by
  have h:=oZ ks (fun n k' i s=>Fg n (qC n) (.mk k nm ks) k' (i,s)) (fun n x s=>qC n x s) (fun x s=>gI ((dX x).map fun s=>(s,true)) s) (fun s=>s) (fun suf s=>s.length+(jG suf).length≤1000)
   (fun n k' i s=>rfl)
   (fun x suf s hx hs=>by
    simp only[jG,qAe]at hs;refine⟨ih x hx (QC hok.2 x hx) s (by omega),?_⟩;have:=PK ((dX x).map fun s=>(s,true)) s;simp only[qAi]at this;omega) (s0:=m) hm
  have hf:∀(ts:List Ty) (s:List (Str×Bool)),ts.foldl (fun s x=>gI ((dX x).map fun s=>(s,true)) s) s=gI ((jG ts).map fun s=>(s,true)) s:=by
   intro ts
   induction ts with
   |nil=>intro s;rfl
   |cons t ts iht=>intro s;simp only[qBg,jG,qBj,Zt,iht]
  grind
 cases hq:(k==3)with
 |true=>
  have hk:k=3:=by simpa using hq
  have hks:ks=[]:=by
   rcases hok.1.2 with h|h
   ·exact absurd hk h
   ·exact qAD.1 h
  rw[hq]at hlen;simp only[cond_true,qAI]at hlen⊢;rw[LX (by omega)];have hl:=Dh m nm true;have:=hloop (lJ m nm true) (by rw[hks];simp only[jG,qAA];omega);rw[hks]at this⊢;simp only[qAb];exact Ev.bind this (Ev.ret _)
 |false=>
  rw[hq]at hlen;simp only[cond_false,qAb]at hlen⊢;exact Ev.bind (hloop m hlen) (Ev.ret _)
theorem CK{t:Ty}(h:bA t=true):Ev (fun n=>wV n t) (((gI ((dX t).map fun s=>(s,true)) []).map (·.1)).mergeSort leS):=by
 refine Ev.bind (tK t) ?_;rw[h];obtain⟨h1,h2⟩:=YE h;refine Ev.bind (axa t h1 [] (by simp;omega)) ?_;have:=PK ((dX t).map fun s=>(s,true)) [];simp at this;unfold ow;rw[if_pos (by omega)];exact Ev.ret _
theorem RQ(t:Ty)(s:Str):s∈((gI ((dX t).map fun s=>(s,true)) []).map (·.1)).mergeSort leS↔s∈dX t:=by
 rw[List.mem_mergeSort,awk];simp
theorem atu:∀t:Ty,H9 t=true→Ev (fun n=>su n t) t:=Ty.ind fun k nm ks ih hok=>by
 refine Ev.succ ?_;show Ev (fun n=>zV n _ (.mk k nm ks)) _;unfold zV;simp only[H9,qAa]at hok;have h:=oZ ks (fun n k' i s=>Nu n (su n) (.mk k nm ks) k' (i,s)) (fun n x s=>(su n x).bind fun x2=>app 48 s [x2]) (fun x s=>s++[x]) (fun s=>s) (fun suf s=>s.length+suf.length≤2)
  (fun n k' i s=>by
   show cond _ _ _=_;congr 1;congr 1;simp only[qAW];rfl)
  (fun x suf s hx hs=>by
   simp at hs;refine⟨Ev.bind (ih x hx (QC hok.2 x hx)) ?_,?_⟩
   ·rw[qh (by simp;omega) (by omega)];exact Ev.ret _
   ·simp;omega) (s0:=([]:List Ty)) (by simpa using hok.1.1)
 rw[Pn]at h;exact Ev.bind h (Ev.ret _)
def dP(env:Env)(s:Str):Bool:=env.carriers.any fun c=>c.name==s
def OE(c:Carrier):Bool:=ident c.name&&(!(decide (8<(c.elems.length:Int)))&&c.elems.all ident)
def EF(env:Env)(d:Decl):Bool:=named d.name&&((bA d.ty&&!(zU 2 d.ty))&&(dX d.ty).all (dP env))
def JM(env:Env):List Str:=(env.carriers.flatMap fun c=>c.name::c.elems)++env.names.map (·.name)
def names2(env:Env):List Str:=env.carriers.map (·.name)++(env.carriers.flatMap (·.elems)++env.names.map (·.name))
def qU:List Str→List Str→Bool
 |_,[]=>true
 |pre,x::xs=>!(pre.any (·==x))&&qU (pre++[x]) xs
theorem anD:∀(l pre:List Str),qU pre l=true↔l.Nodup∧∀x∈l,x∉pre
 |[],pre=>by simp[qU]
 |x::l,pre=>by
  simp only[qU,qAa,anD l,qAV,qCq,qAh,qDP,beq_iff_eq,qAr,qCm,or_false];constructor
  ·rintro⟨h1,h2,h3⟩;refine⟨⟨fun hx=>(h3 x hx) (.inr rfl),h2⟩,?_⟩;rintro y (rfl|hy)
   ·exact fun hp=>h1 _ hp rfl
   ·exact fun hp=>h3 y hy (.inl hp)
  ·rintro⟨⟨h1,h2⟩,h3⟩;refine⟨fun y hy e=>h3 x (.inl rfl) (e▸hy),h2,fun y hy hp=>?_⟩;rcases hp with hp|rfl
   ·exact h3 y (.inr hy) hp
   ·exact h1 hy
theorem ahz(l:List Str):qU [] l=true↔l.Nodup:=by rw[anD];simp
theorem azW(cs:List Carrier):(cs.flatMap fun c=>c.name::c.elems).Perm (cs.map (·.name)++cs.flatMap (·.elems)):=by
 induction cs with
 |nil=>simp
 |cons c cs ih=>
  grind
theorem PL(env:Env):(JM env).Perm (names2 env):=by
 unfold JM names2;rw[←qAm];exact qCy _ (azW _)
theorem aGx(env:Env):qU [] (JM env)=qU [] (names2 env):=by
 have h:(qU [] (JM env)=true)↔(qU [] (names2 env)=true):=by rw[ahz,ahz];exact(PL env).nodup_iff
 grind
def aW(env:Env):Bool:=!(decide (8<(env.carriers.length:Int)) ||decide (64<(env.names.length:Int)))&&(env.carriers.all OE&&(env.names.all (EF env)&&qU [] (names2 env)))
theorem aox(env:Env)(s:Str):Ev (fun n=>Fz n env s) (dP env s):=by
 refine Ev.bind (a:=dP env s) ?_ (Ev.ret _);refine Ev.bind (vo env.carriers (fun n k i=>zK n env.carriers s k i) (fun _ x=>some (x.name==s)) (fun c=>c.name==s) (fun n k i=>rfl) (fun x _=>Ev.ret _)) ?_;rw[mO _ _ _ (qBD _)];exact Ev.ret _
theorem auh(env:Env){t:Ty}(h:bA t=true):Ev (fun n=>Ct n env t) ((dX t).all (dP env)):=by
 refine Ev.bind (CK h) ?_;generalize hl:((gI ((dX t).map fun s=>(s,true)) []).map (·.1)).mergeSort leS=l;have hm:∀s,s∈l↔s∈dX t:=fun s=>by rw[←hl];exact RQ t s
 have hf:=vo l (fun n k i=>AP n l env.carriers env.names k i) (fun n x=>Fh n x env.carriers env.names) (fun s=>!(dP env s)) (fun n k i=>rfl) (fun x _=>by
  exact Ev.bind (aox env x) (Ev.ret _))
 refine Ev.bind (a:=l.any fun s=>!(dP env s)) (Ev.bind hf ?_) ?_
 ·rw[mO _ _ _ (qBD _)];exact Ev.ret _
 ·rw[qm,qCk];have:l.all (dP env)=(dX t).all (dP env):=by
   grind
  rw[this];exact Ev.ret _
theorem DX(env:Env)(s:Str):Ev (fun n=>nT n env s) (dR (fun c=>c.name==s) 0 env.carriers):=by
 exact vo env.carriers (fun n k i=>OZ n env s k i) (fun _ x=>some (x.name==s)) (fun c=>c.name==s) (fun n k i=>rfl) (fun x _=>Ev.ret _)
theorem anU(a:Int):decide (a<0)=!(decide (0≤a)):=by grind
theorem ahA(env:Env){t:Ty}(h:bA t=true):Ev (fun n=>K5 n env t) ((dX t).all (dP env)):=by
 obtain⟨h1,h2⟩:=YE h;refine Ev.bind (alr t h1 h2) ?_;have hs:=sN (dX t) (fun n k i=>afP n env (dX t) k i) (fun n x=>(nT n env x).bind fun x3=>some (decide (x3<0))) (fun s=>!(dP env s)) false
  (fun n k i=>by
   show cond _ _ _=_;congr 1;congr 1;simp only[qAW];rfl)
  (fun x _=>by
   refine Ev.bind (DX env x) ?_;rw[anU,mO _ _ _ (qBD _)];exact Ev.ret _)
 rw[qm]at hs;refine Ev.bind hs ?_;cases(dX t).all (dP env)
 ·exact Ev.ret _
 ·exact Ev.ret _
theorem auc(env:Env)(h:(JM env).length≤1000000):Ev (fun n=>Co n env) (JM env):=by
 unfold Co;simp only[JM,qAe,qAi]at h;have h1:=oZ env.carriers (fun n k i s=>Ni n env k (s,i)) (fun n x s=>(app 16 s [x.name]).bind fun x4=>app 16 x4 x.elems) (fun x s=>s++(x.name::x.elems)) (fun s=>s) (fun suf s=>s.length+(suf.flatMap fun c=>c.name::c.elems).length≤1000000)
  (fun n k i s=>by
   show cond _ _ _=_;congr 1;show(idx env.carriers i).bind _=_;congr 1;funext x;simp only[qAW];rfl)
  (fun x suf s hx hs=>by
   simp only[qBf,qAe,qAp]at hs;refine⟨?_,?_⟩
   ·rw[qh (by simp only[qAI];omega) (by omega),qAb,qh (by simp only[qAe,qAI];omega) (by omega)];rw[qAm];exact Ev.ret _
   ·simp only[qAe,qAp];omega) (s0:=([]:List Str)) (by simp only[qAA];omega)
 have hf1:∀(cs:List Carrier) (s:List Str),cs.foldl (fun s x=>s++(x.name::x.elems)) s=s++cs.flatMap fun c=>c.name::c.elems:=by
  intro cs
  induction cs with
  |nil=>intro s;simp
  |cons c cs ih=>intro s;rw[qBg,ih];simp
 rw[hf1,qAo]at h1;have h2:=oZ env.names (fun n k i s=>Nq n env k (s,i)) (fun n x s=>app 16 s [x.name]) (fun x s=>s++[x.name]) (fun s=>s) (fun suf s=>s.length+suf.length≤1000000)
  (fun n k i s=>rfl)
  (fun x suf s hx hs=>by
   simp only[qAp]at hs;refine⟨?_,?_⟩
   ·rw[qh (by simp only[qAI];omega) (by omega)];exact Ev.ret _
   ·simp only[qAe,qAI];omega) (s0:=env.carriers.flatMap fun c=>c.name::c.elems) (by omega)
 have hf2:∀(cs:List Decl) (s:List Str),cs.foldl (fun s x=>s++[x.name]) s=s++cs.map (·.name):=by
  intro cs
  induction cs with
  |nil=>intro s;simp
  |cons c cs ih=>intro s;rw[qBg,ih];simp
 rw[hf2]at h2;exact Ev.bind h1 (Ev.bind h2 (Ev.ret _))
theorem aua(env:Env)(h:(names2 env).length≤1000000):Ev (fun n=>ME n env) (names2 env):=by
 unfold ME;simp only[names2,qAe,qAi]at h;have h0:=oZ env.carriers (fun n k i s=>WT n env k (s,i)) (fun n x s=>app 16 s [x.name]) (fun x s=>s++[x.name]) (fun s=>s) (fun suf s=>s.length+suf.length≤1000000)
  (fun n k i s=>rfl)
  (fun x suf s hx hs=>by
   simp only[qAp]at hs;refine⟨?_,?_⟩
   ·rw[qh (by simp only[qAI];omega) (by omega)];exact Ev.ret _
   ·simp only[qAe,qAI];omega) (s0:=([]:List Str)) (by simp only[qAA];omega)
 have hf0:∀(cs:List Carrier) (s:List Str),cs.foldl (fun s x=>s++[x.name]) s=s++cs.map (·.name):=by
  intro cs
  induction cs with
  |nil=>intro s;simp
  |cons c cs ih=>intro s;rw[qBg,ih];simp
 rw[hf0,qAo]at h0;have h1:=oZ env.carriers (fun n k i s=>VO n env k (s,i)) (fun n x s=>app 16 s x.elems) (fun x s=>s++x.elems) (fun s=>s) (fun suf s=>s.length+(suf.flatMap (·.elems)).length≤1000000)
  (fun n k i s=>rfl)
  (fun x suf s hx hs=>by
   simp only[qBf,qAe]at hs;refine⟨?_,?_⟩
   ·rw[qh (by omega) (by omega)];exact Ev.ret _
   ·simp only[qAe];omega) (s0:=env.carriers.map (·.name)) (by simp only[qAi];omega)
 have hf1:∀(cs:List Carrier) (s:List Str),cs.foldl (fun s x=>s++x.elems) s=s++cs.flatMap (·.elems):=by
  intro cs
  induction cs with
  |nil=>intro s;simp
  |cons c cs ih=>intro s;rw[qBg,ih];simp
 rw[hf1]at h1;have h2:=oZ env.names (fun n k i s=>XO n env k (s,i)) (fun n x s=>app 16 s [x.name]) (fun x s=>s++[x.name]) (fun s=>s) (fun suf s=>s.length+suf.length≤1000000)
  (fun n k i s=>rfl)
  (fun x suf s hx hs=>by
   simp only[qAp]at hs;refine⟨?_,?_⟩
   ·rw[qh (by simp only[qAI];omega) (by omega)];exact Ev.ret _
   ·simp only[qAe,qAI];omega) (s0:=env.carriers.map (·.name)++env.carriers.flatMap (·.elems)) (by simp only[qAe,qAi];omega)
 have hf2:∀(cs:List Decl) (s:List Str),cs.foldl (fun s x=>s++[x.name]) s=s++cs.map (·.name):=by
  intro cs
  induction cs with
  |nil=>intro s;simp
  |cons c cs ih=>intro s;rw[qBg,ih];simp
 rw[hf2,qAm]at h2;exact Ev.bind h0 (Ev.bind h1 (Ev.bind h2 (Ev.ret _)))
theorem atF(l:List Str)(hl:l.length≤1000000):Ev (fun n=>Cm n l) (qU [] l):=by
 unfold Cm;have h:=V3 l (fun n k i s=>NR n l k (i,s)) (fun n x s=>(mel (dn s x) (some false) (fun x3=>some x3):Option Bool).bind fun s3=>cond s3 (some (.rt false)) ((yG s x true).bind fun x2=>some (.nx x2))) (fun x s=>cond ((dn s x).getD false) (.rt false) (.nx (lJ s x true))) (fun _=>())
  (fun suf s=>s.length+suf.length≤1000000)
  (fun n k i s=>by
   show cond _ _ _=_;congr 1;show(idx l i).bind _=_;congr 1;funext x;cases dn s x with
   |none=>simp only[mel,qAb,cond_false,qAW];rfl
   |some b=>cases b<;>simp only[mel,qAb,cond_false,cond_true,qAW];rfl)
  (fun x suf s hx hs=>by
   simp only[qAp]at hs;refine⟨?_,fun s' he=>?_⟩
   ·rw[LX (by omega)];cases dn s x with
    |none=>exact Ev.ret _
    |some b=>cases b<;>exact Ev.ret _
   ·cases hb:(dn s x).getD false with
    |true=>rw[hb]at he;cases he
    |false=>
     rw[hb]at he;cases he;have:=Dh s x true;omega) (s0:=([]:List (Str×Bool))) (by simpa using hl)
 have key:∀(suf pre:List Str) (s:List (Str×Bool)),(∀x,dn s x=if pre.any (·==x)then some true else none)→fG (τ:=Unit) (fun x s=>cond ((dn s x).getD false) (.rt false) (.nx (lJ s x true))) (fun _=>()) suf s=cond (qU pre suf) (.nx ()) (.rt false):=by
  intro suf
  induction suf with
  |nil=>intro pre s _;rfl
  |cons x suf ih=>
   intro pre s hs;simp only[fG,qU];rw[hs x];cases hb:pre.any (·==x)with
   |true=>rfl
   |false=>
    simp only[qBR,if_false,qDl,cond_false,qBb,qAu];refine ih (pre++[x]) _ (fun y=>?_);rw[ab2,hs y];simp only[List.any_append,qCA,List.any_nil,qDc];cases hy:(x==y)with
    |true=>simp
    |false=>simp
 rw[key l [] [] (fun x=>rfl)]at h;refine Ev.bind h ?_;cases qU [] l
 ·exact Ev.ret _
 ·exact Ev.ret _
theorem axE(l:List Str):Ev (fun n=>Ma n l n 0) (cond (qU [] l) (.nx ()) (.rt false)):=by
 have h:=Qk l (fun n k i (_:Unit)=>Ma n l k i) (fun n i x _=>(kQ l 0 i).bind fun x3=>(Mi n x x3).bind fun x4=>cond x4 (some (.rt false)) (some (.nx ()))) (fun i x _=>cond ((l.take i.toNat).any (·==x)) (.rt false) (.nx ())) (fun _=>())
  (fun i suf _=>∃pre,l=pre++suf∧i=(pre.length:Int))
  (fun n k i s=>by
   show cond _ _ _=_;congr 1;congr 1;funext x;cases kQ l 0 i with
   |none=>rfl
   |some y=>
    simp;cases Mi n x y with
    |none=>rfl
    |some b=>cases b<;>rfl)
  (fun i x suf s hx hs=>by
   obtain⟨pre,hp,rfl⟩:=hs;refine⟨?_,fun _ _=>⟨pre++[x],by rw[hp];simp,by simp⟩⟩;rw[ahI l pre.length (by rw[hp];simp)];simp;refine Ev.bind (asK _ _) ?_;cases(l.take pre.length).any (·==x)
   ·exact Ev.ret _
   ·exact Ev.ret _) (s0:=()) ⟨[],rfl,rfl⟩
 have key:∀(suf pre:List Str),l=pre++suf→lu (τ:=Unit) (fun i x _=>cond ((l.take i.toNat).any (·==x)) (.rt false) (.nx ())) (fun _=>()) (pre.length:Int) suf ()=cond (qU pre suf) (.nx ()) (.rt false):=by
  intro suf
  induction suf with
  |nil=>intro pre _;rfl
  |cons x suf ih=>
   intro pre hp;have ht:l.take pre.length=pre:=by rw[hp];simp
   simp only[lu,qU]
   grind
 grind
theorem afr{env:Env}(h1:¬8<(env.carriers.length:Int))(h2:¬64<(env.names.length:Int))(h3:env.carriers.all OE=true):(names2 env).length≤1000:=by
 have key:∀cs:List Carrier,cs.all OE=true→(cs.flatMap (·.elems)).length≤8*cs.length:=by
  intro cs
  induction cs with
  |nil=>intro _;simp
  |cons c cs ih=>
   intro h;simp only[qBC,OE]at h
   grind
 have:=key _ h3;simp only[names2,qAe,qAi];omega
theorem C8(env:Env)(hs:∀d∈env.names,d.name.length≤9223372036854775807):Ev (fun n=>rY n env) (aW env):=by
 unfold rY;by_cases h1:8<(env.carriers.length:Int)
 ·have:aW env=false:=by simp only[aW,decide_eq_true h1,qCj,qAv,qBk]
  rw[this,decide_eq_true h1];exact Ev.ret _
 by_cases h2:64<(env.names.length:Int)
 ·have:aW env=false:=by simp only[aW,decide_eq_true h2,qDm,qAv,qBk]
  rw[this,decide_eq_true h2,decide_eq_false h1];exact Ev.ret _
 simp only[aW,decide_eq_false h1,decide_eq_false h2,qDc,qBb,qAu,cond_false,qAb];have hcar:=an6 env.carriers (fun n k i=>NZ n env k i) (fun n x=>((gX n x.name).bind fun x10=>cond (!x10) (some true) (some (decide (8<(x.elems.length:Int))))).bind fun s7=>cond s7 (some (.rt false)) ((wz n x n 0).bind (LR.el (fun _=>some (.nx ())) (fun r=>some (.rt r))))) (fun c=>!(OE c)) false
  (fun n k i=>by
   show cond _ _ _=_;congr 1;congr 1;funext x;cases((gX n x.name).bind fun x10=>cond (!x10) (some true) (some (decide (8<(x.elems.length:Int)))))with
   |none=>rfl
   |some b=>
    cases b with
    |true=>rfl
    |false=>
     simp only[qAb,cond_false];cases wz n x n 0 with
     |none=>rfl
     |some r=>cases r<;>rfl)
  (fun c hc=>by
   refine Ev.bind (a:=!(ident c.name) ||decide (8<(c.elems.length:Int))) (Ev.bind (rM c.name) ?_) ?_
   ·cases ident c.name
    ·exact Ev.ret _
    ·exact Ev.ret _
   ·unfold OE;cases ident c.name with
    |false=>exact Ev.ret _
    |true=>
     cases decide (8<(c.elems.length:Int))with
     |true=>exact Ev.ret _
     |false=>
      simp only[qAv,qDd,cond_false,qAu,qBb];have h:=sN c.elems (fun n k i=>wz n c k i) (fun n x=>(gX n x).bind fun x9=>some (!x9)) (fun s=>!(ident s)) false
       (fun n k i=>by
        show cond _ _ _=_;congr 1;congr 1;funext x;simp only[qAW,qAb];rfl)
       (fun x _=>Ev.bind (rM x) (Ev.ret _))
      rw[qm]at h;refine Ev.bind h ?_;cases c.elems.all ident
      ·exact Ev.ret _
      ·exact Ev.ret _)
 rw[qm]at hcar;refine Ev.bind hcar ?_;cases hc:env.carriers.all OE with
 |false=>exact Ev.ret _
 |true=>
  simp only[qAv,cond_false,qAu];have hdecl:=sN env.names (fun n k i=>Oa n env k i) (fun n x=>(wB n x.name).bind fun x4=>cond (!x4) (some true) ((yt n x.ty).bind fun x5=>cond (!x5) (some true) ((Ct n env x.ty).bind fun x6=>some (!x6)))) (fun d=>!(EF env d)) false
   (fun n k i=>rfl)
   (fun d hd=>by
    refine Ev.bind (afh d.name (hs d hd)) ?_;unfold EF;cases named d.name with
    |false=>exact Ev.ret _
    |true=>
     simp only[qAv,cond_false,qAu];refine Ev.bind (a:=bA d.ty&&!(zU 2 d.ty)) ?_ ?_
     ·unfold yt;refine Ev.bind (a:=bA d.ty&&!(zU 2 d.ty)) (Ev.bind (tK d.ty) ?_) (Ev.ret _);cases bA d.ty with
      |false=>exact Ev.ret _
      |true=>exact Ev.bind (atU 2 d.ty) (Ev.ret _)
     ·cases hv:bA d.ty with
      |false=>exact Ev.ret _
      |true=>
       cases zU 2 d.ty with
       |true=>exact Ev.ret _
       |false=>exact Ev.bind (auh env hv) (Ev.ret _))
  rw[qm]at hdecl;refine Ev.bind hdecl ?_;cases hd:env.names.all (EF env)with
  |false=>exact Ev.ret _
  |true=>
   simp only[qAv,cond_false,qAu];have hlen:=afr h1 h2 hc;have hlen1:(JM env).length≤1000:=by rw[(PL env).length_eq];exact hlen
   refine Ev.bind (auc env (by omega)) ?_;rw[←aGx];exact Ev.bind (atF _ (by omega)) (Ev.ret _)
theorem KX(env:Env):Ev (fun n=>BG n env) (aW env):=by
 unfold BG;by_cases h1:8<(env.carriers.length:Int)
 ·have:aW env=false:=by simp only[aW,decide_eq_true h1,qCj,qAv,qBk]
  rw[this,decide_eq_true h1];exact Ev.ret _
 by_cases h2:64<(env.names.length:Int)
 ·have:aW env=false:=by simp only[aW,decide_eq_true h2,qDm,qAv,qBk]
  rw[this,decide_eq_true h2,decide_eq_false h1];exact Ev.ret _
 simp only[aW,decide_eq_false h1,decide_eq_false h2,qDc,qBb,qAu,cond_false,qAb];have hcar:=an6 env.carriers (fun n k i=>VH n env k i) (fun n x=>((jk n x.name).bind fun x10=>cond (!x10) (some true) (some (decide (8<(x.elems.length:Int))))).bind fun s7=>cond s7 (some (.rt false)) ((EB n x n 0).bind (LR.el (fun _=>some (.nx ())) (fun r=>some (.rt r))))) (fun c=>!(OE c)) false
  (fun n k i=>by
   show cond _ _ _=_;congr 1;congr 1;funext x;cases((jk n x.name).bind fun x10=>cond (!x10) (some true) (some (decide (8<(x.elems.length:Int)))))with
   |none=>rfl
   |some b=>
    cases b with
    |true=>rfl
    |false=>
     simp only[qAb,cond_false];cases EB n x n 0 with
     |none=>rfl
     |some r=>cases r<;>rfl)
  (fun c hc=>by
   refine Ev.bind (a:=!(ident c.name) ||decide (8<(c.elems.length:Int))) (Ev.bind (qw c.name) ?_) ?_
   ·cases ident c.name
    ·exact Ev.ret _
    ·exact Ev.ret _
   ·unfold OE;cases ident c.name with
    |false=>exact Ev.ret _
    |true=>
     cases decide (8<(c.elems.length:Int))with
     |true=>exact Ev.ret _
     |false=>
      simp only[qAv,qDd,cond_false,qAu,qBb];have h:=sN c.elems (fun n k i=>EB n c k i) (fun n x=>(jk n x).bind fun x9=>some (!x9)) (fun s=>!(ident s)) false
       (fun n k i=>by
        show cond _ _ _=_;congr 1;congr 1;funext x;simp only[qAW,qAb];rfl)
       (fun x _=>Ev.bind (qw x) (Ev.ret _))
      rw[qm]at h;refine Ev.bind h ?_;cases c.elems.all ident
      ·exact Ev.ret _
      ·exact Ev.ret _)
 rw[qm]at hcar;refine Ev.bind hcar ?_;cases hc:env.carriers.all OE with
 |false=>exact Ev.ret _
 |true=>
  simp only[qAv,cond_false,qAu];have hdecl:=sN env.names (fun n k i=>WH n env k i) (fun n x=>(KN n x.name).bind fun x6=>cond (!x6) (some true) ((uS n x.ty).bind fun x7=>cond (!x7) (some true) ((uV n x.ty).bind fun x8=>cond x8 (some true) ((K5 n env x.ty).bind fun x9=>some (!x9))))) (fun d=>!(EF env d)) false
   (fun n k i=>rfl)
   (fun d hd=>by
    refine Ev.bind (afa d.name) ?_;unfold EF;cases named d.name with
    |false=>exact Ev.ret _
    |true=>
     simp only[qAv,cond_false,qAu];refine Ev.bind (Cw d.ty) ?_;cases hv:bA d.ty with
     |false=>exact Ev.ret _
     |true=>
      refine Ev.bind (as8 d.ty) ?_;cases zU 2 d.ty with
      |true=>exact Ev.ret _
      |false=>exact Ev.bind (ahA env hv) (Ev.ret _))
  rw[qm]at hdecl;refine Ev.bind hdecl ?_;cases hd:env.names.all (EF env)with
  |false=>exact Ev.ret _
  |true=>
   simp only[qAv,cond_false,qAu];have hlen:=afr h1 h2 hc;refine Ev.bind (aua env (by omega)) ?_;refine Ev.bind (axE _) ?_;cases qU [] (names2 env)
   ·exact Ev.ret _
   ·exact Ev.ret _
theorem Jl(n:Nat)(qbj:Val→Val→Option Int)(p0:Val)(p1:Val)(k:Nat)(s:Int):GD n qbj p0 p1 (k+1) s=yL n qbj p0 p1 (GD n qbj p0 p1 k) s:=rfl
theorem aiU(n:Nat)(p0:List Int)(k:Nat)(s:Int):Gw n p0 (k+1) s=K3 n p0 (Gw n p0 k) s:=rfl
theorem pU(n:Nat)(qb9:(List Val)→(List Val)→Option Int)(qbx:Val→Val→Option Int)(p0:List Val)(p1:List Val)(k:Nat)(s:Int):mW n qb9 qbx p0 p1 (k+1) s=jJ n qb9 qbx p0 p1 (mW n qb9 qbx p0 p1 k) s:=rfl
def XV:List Val→List Val→LR Unit Int
 |[],_=>.nx ()
 |_::_,[]=>.rt 1
 |a::asx,b::bs=>cond (bQ a b !=0) (.rt (bQ a b)) (XV asx bs)
theorem am4:∀(asx bs:List Val) (x y:Nat),x+bs.length=y+asx.length→(match XV asx bs with| .nx _=>cond (decide ((x:Int)<(y:Int))) (-1) 0| .rt r=>r)=eZ asx bs
 |[],[],x,y,h=>by
  simp only[XV,eZ];rw[decide_eq_false (by simp at h;omega)];rfl
 |[],b::bs,x,y,h=>by
  simp only[XV,eZ];rw[decide_eq_true (by simp at h;omega)];rfl
 |a::asx,[],x,y,h=>rfl
 |a::asx,b::bs,x,y,h=>by
  simp only[XV,eZ];cases hc:(bQ a b !=0)with
  |true=>rfl
  |false=>exact am4 asx bs x y (by simp at h;omega)
theorem akS(n:Nat)(a b:Int):cmp_Compare_int n a b=some (kP a b):=by
 unfold cmp_Compare_int kP
 grind
theorem aD7(a b c:Int):Ev (fun n=>Yp n [a,b,c]) (cond (a !=0) a (cond (b !=0) b (cond (c !=0) c 0))):=by
 refine⟨4,fun n hn=>?_⟩;obtain⟨m,rfl⟩:∃m,n=m+4:=⟨n - 4,by omega⟩;show(Gw (m+4) [a,b,c] (m+4) 0).bind _=_;have i0:idx [a,b,c] 0=some a:=rfl;have i1:idx [a,b,c] (0+1)=some b:=rfl;have i2:idx [a,b,c] (0+1+1)=some c:=rfl;simp only[aiU,K3]
 grind
theorem apQ:∀(asx:List Val),(∀a∈asx,∀b,Ev (fun n=>dY n a b) (bQ a b))→∀(bs pa pb:List Val),pa.length=pb.length→∃N,∀n,N≤n→∀k,asx.length+1≤k→mW n (lV n) (dY n) (pa++asx) (pb++bs) k (pa.length:Int)=some (XV asx bs)
 |[],_,bs,pa,pb,hp=>by
  refine⟨0,fun n _ k hk=>?_⟩;obtain⟨j,rfl⟩:∃j,k=j+1:=⟨k - 1,by simp at hk;omega⟩;rw[pU];unfold jJ;rw[decide_eq_false (by simp)];rfl
 |a::asx,H,[],pa,pb,hp=>by
  refine⟨0,fun n _ k hk=>?_⟩;obtain⟨j,rfl⟩:∃j,k=j+1:=⟨k - 1,by simp at hk;omega⟩;rw[pU];unfold jJ;rw[decide_eq_true (by simp;omega),gJ];simp only[cond_true,qAb];rw[decide_eq_true (by simp;omega)];rfl
 |a::asx,H,b::bs,pa,pb,hp=>by
  obtain⟨N1,h1⟩:=H a (by simp) b;obtain⟨N2,h2⟩:=apQ asx (fun x hx=>H x (by simp[hx])) bs (pa++[a]) (pb++[b]) (by simp[hp]);refine⟨N1+N2,fun n hn k hk=>?_⟩;obtain⟨j,rfl⟩:∃j,k=j+1:=⟨k - 1,by simp at hk;omega⟩;have h1:dY n a b=_:=h1 n (by omega);have h2:=h2 n (by omega) j (by simp at hk;omega);rw[pU];unfold jJ;rw[decide_eq_true (by simp;omega),gJ];simp only[cond_true,qAb];rw[decide_eq_false (by simp;omega),show(pa.length:Int)=(pb.length:Int) by rw[hp],gJ];simp only[cond_false,qAb];rw[h1];simp only[qAb,XV];cases hc:(bQ a b !=0)with
  |true=>rfl
  |false=>
   simp only[cond_false];rw[show(pb.length:Int)+1=((pa++[a]).length:Int) by simp[hp]];simpa using h2
theorem amE(asx bs:List Val)(H:∀a∈asx,∀b,Ev (fun n=>dY n a b) (bQ a b)):Ev (fun n=>lV n asx bs) (eZ asx bs):=by
 obtain⟨N,h⟩:=apQ asx H bs [] [] rfl;refine Ev.succ ?_;refine⟨N+asx.length+1,fun n hn=>?_⟩;have:=h n (by omega) n (by omega);simp only[qAo,qAA]at this;show pV n _ _ asx bs=_;unfold pV;rw[show((0:Nat):Int)=0 from rfl]at this;have he:=am4 asx bs asx.length bs.length (by omega)
 grind
theorem Eu(a b:Val):Ev (fun n=>dY n a b) (bQ a b):=by
 revert b
 induction a using Val.ind with
 |h k n s ks ih=>
  intro b;obtain⟨k',n',s',ks'⟩:=b;have hk:=amE ks ks' ih;refine Ev.succ ?_;show Ev (fun m=>Fx m _ _ (.mk k n s ks) (.mk k' n' s' ks')) _;unfold Fx;simp only[akS,strings_Compare,qAb,Val.kind,Val.n,Val.name,Val.kids];refine Ev.bind (aD7 _ _ _) ?_;simp only[bQ];cases h1:(kP k k' !=0)with
  |true=>simp only[cond_true,h1];exact Ev.ret _
  |false=>
   cases h2:(kP n n' !=0)with
   |true=>simp only[cond_true,cond_false,h2];exact Ev.ret _
   |false=>
    cases h3:(Lib.compareBytes s s' !=0)with
    |true=>simp only[cond_true,cond_false,h3];exact Ev.ret _
    |false=>
     grind
theorem sign_eq(n:Nat)(a b:Int):LM n a b=some (kP a b):=by
 unfold LM kP
 grind
theorem anr:∀(asx:List Val),(∀a∈asx,∀b,Ev (fun n=>nI n a b) (bQ a b))→∀(bs pa pb:List Val) (k1 n1 k2 n2:Int) (s1 s2:Str),pa.length=pb.length→(pa++asx).length≤9223372036854775807→∃N,∀n,N≤n→∀k,asx.length+1≤k→(GD n (nI n) (.mk k1 n1 s1 (pa++asx)) (.mk k2 n2 s2 (pb++bs)) k (pa.length:Int)).bind (LR.el (fun(_:Unit)=>((LM n ((pa++asx).length:Int) ((pb++bs).length:Int)).bind fun(x3:Int)=>some x3)) (fun r=>some r))=some (eZ asx bs)
 |[],_,bs,pa,pb,k1,n1,k2,n2,s1,s2,hp,hl=>by
  refine⟨0,fun n _ k hk=>?_⟩;obtain⟨j,rfl⟩:∃j,k=j+1:=⟨k - 1,by simp at hk;omega⟩;rw[Jl];unfold yL;rw[decide_eq_false (by simp[Val.kids])];simp only[cond_false,qAb,LR.el,sign_eq,Option.some.injEq];cases bs with
  |nil=>simp[kP,eZ,hp]
  |cons b bs=>
   simp only[eZ,kP];rw[decide_eq_true (by simp;omega)];rfl
 |a::asx,H,[],pa,pb,k1,n1,k2,n2,s1,s2,hp,hl=>by
  refine⟨0,fun n _ k hk=>?_⟩;obtain⟨j,rfl⟩:∃j,k=j+1:=⟨k - 1,by simp at hk;omega⟩;rw[Jl];unfold yL;rw[decide_eq_true (by simp[Val.kids];omega)];simp only[cond_true,qAb];rw[decide_eq_false (by simp[Val.kids];omega)];simp only[cond_false,qAb,LR.el,sign_eq,Option.some.injEq,eZ,kP];rw[decide_eq_false (by simp;omega),decide_eq_true (by simp;omega)];rfl
 |a::asx,H,b::bs,pa,pb,k1,n1,k2,n2,s1,s2,hp,hl=>by
  obtain⟨N1,h1⟩:=H a (by simp) b;obtain⟨N2,h2⟩:=anr asx (fun x hx=>H x (by simp[hx])) bs (pa++[a]) (pb++[b]) k1 n1 k2 n2 s1 s2 (by simp[hp]) (by simpa using hl);refine⟨N1+N2,fun n hn k hk=>?_⟩;obtain⟨j,rfl⟩:∃j,k=j+1:=⟨k - 1,by simp at hk;omega⟩;have h1:nI n a b=_:=h1 n (by omega);have h2:=h2 n (by omega) j (by simp at hk;omega);rw[Jl];unfold yL;rw[decide_eq_true (by simp[Val.kids];omega)];simp only[cond_true,qAb];rw[decide_eq_true (by simp[Val.kids];omega)];simp only[cond_true,qAb,Val.kids];rw[gJ,show(pa.length:Int)=(pb.length:Int) by rw[hp],gJ];simp only[qAb];rw[h1];simp only[qAb,eZ];cases hc:(bQ a b !=0)with
  |true=>rfl
  |false=>
   simp only[cond_false];have ew:IntKind.wrap .i64 ((pb.length:Int)+1)=((pa++[a]).length:Int):=by
    rw[wrap64 (by omega) (by simp at hl;omega)];simp[hp]
   rw[ew];simpa using h2
theorem afE(a b:Val)(ha:gU a):Ev (fun n=>nI n a b) (bQ a b):=by
 revert b
 induction a using Val.ind with
 |h k n s ks ih=>
  intro b;obtain⟨k',n',s',ks'⟩:=b;obtain⟨hl,hk⟩:=ha.kids;simp only[Val.kids]at hl hk;obtain⟨N,h⟩:=anr ks (fun a h b=>ih a h (hk a h) b) ks' [] [] k n k' n' s s' rfl (by simpa using hl);refine Ev.succ ?_;show Ev (fun m=>Jd m _ (.mk k n s ks) (.mk k' n' s' ks')) _;unfold Jd;simp only[sign_eq,qAb,Val.kind,Val.n,Val.name,bQ];have e1:(k !=k')=(kP k k' !=0):=by
   unfold kP
   grind
  have e2:(n !=n')=(kP n n' !=0):=by
   unfold kP
   grind
  rw[e1,e2,(Og s s').1,(Og s s').2];cases h1:(kP k k' !=0)with
  |true=>exact Ev.ret _
  |false=>
   simp only[cond_false];cases h2:(kP n n' !=0)with
   |true=>exact Ev.ret _
   |false=>
    simp only[cond_false];have hb:=am5 s s';rcases hb with hb|hb|hb<;>rw[hb]
    ·exact Ev.ret _
    ·refine⟨N+ks.length+1,fun m hm=>?_⟩;have:=h m (by omega) m (by omega);simp only[qAo,qAA,sign_eq,qAb]at this;exact this
    ·exact Ev.ret _
theorem iJ{env:Env}(h:aW env=true):env.carriers.length≤8∧env.names.length≤64∧env.carriers.all OE=true∧env.names.all (EF env)=true∧(names2 env).Nodup:=by
 simp only[aW,qAa,ahz]at h
 grind
theorem Po{env:Env}(h:aW env=true){d:Decl}(hd:d∈env.names):named d.name=true∧bA d.ty=true∧zU 2 d.ty=false∧(dX d.ty).all (dP env)=true:=by
 have:=qAP.1 (iJ h).2.2.2.1 d hd;simp only[EF]at this
 grind
theorem NJ{env:Env}(h:aW env=true){c:Carrier}(hc:c∈env.carriers):ident c.name=true∧c.elems.length≤8∧c.elems.all ident=true:=by
 have:=qAP.1 (iJ h).2.2.1 c hc;simp only[OE]at this
 grind
def nD(s:Str):Ty:=.mk 3 s []
def au(t:Ty):Ty:=.mk 5 [] [t]
def kR(c:Carrier):List (Str×Ty):=(c.name,au (nD c.name))::c.elems.map fun e=>(e,nD c.name)
def wK(env:Env):List (Str×Ty):=env.carriers.flatMap kR++env.names.map fun d=>(d.name,d.ty)
def aqz(env:Env):List (Str×Ty):=(env.names.map fun d=>(d.name,d.ty))++((env.carriers.map fun c=>(c.name,au (nD c.name)))++env.carriers.flatMap fun c=>c.elems.map fun e=>(e,nD c.name))
def look(env:Env)(s:Str):Option Ty:=dn (aqz env) s
theorem ah1(env:Env):(wK env).Perm (aqz env):=by
 refine List.Perm.trans ?_ qDA;refine qCy _ ?_;generalize env.carriers=cs
 induction cs with
 |nil=>simp
 |cons c cs ih=>
  simp;refine List.Perm.cons _ ?_;refine(List.Perm.append_left _ ih).trans ?_;rw[←qAm,←qAm];exact qCy _ qDA
theorem afv(env:Env):(wK env).map (·.1)=JM env:=by
 simp only[wK,qBj,qBh,List.map_flatMap,kR];congr 1
 ·congr 1;simp[qCv]
theorem DJ{env:Env}(h:aW env=true):((wK env).map (·.1)).Nodup:=by
 rw[afv,(PL env).nodup_iff];exact(iJ h).2.2.2.2
theorem Ae{env:Env}(h:aW env=true){s:Str}{t:Ty}:look env s=some t↔(s,t)∈wK env:=by
 unfold look;rw[←aiS (ah1 env) (DJ h),qY _ _ _ (DJ h)]
theorem aBb{env:Env}(h:aW env=true):Ev (fun n=>Kh n env) (gI (wK env) []):=by
 obtain⟨hc8,hn64,_,_,_⟩:=iJ h;unfold Kh;have hin:∀(c:Carrier) (m:List (Str×Ty)),c.elems.length≤8→m.length≤10000→Ev (fun n=>wE n c n (0,m)) (.nx (gI (c.elems.map fun e=>(e,nD c.name)) m)):=fun c m hce hm=>by
  have h1:=oZ (ρ:=List (Str×Ty)) c.elems (fun n k i s=>wE n c k (i,s)) (fun n x s=>yG s x (nD c.name)) (fun x s=>lJ s x (nD c.name)) (fun s=>s) (fun suf s=>s.length+suf.length≤10008)
   (fun n k i s=>rfl)
   (fun x suf s hx hs=>by
    simp only[qAp]at hs;refine⟨?_,?_⟩
    ·rw[LX (by omega)];exact Ev.ret _
    ·have:=Dh s x (nD c.name);omega) (s0:=m) (by omega)
  have hf:∀(es:List Str) (m:List (Str×Ty)),es.foldl (fun s x=>lJ s x (nD c.name)) m=gI (es.map fun e=>(e,nD c.name)) m:=by
   intro es
   induction es with
   |nil=>intro m;rfl
   |cons e es ih=>intro m;rw[qBg,ih];rfl
  rw[hf]at h1;exact h1
 have h1:=V3 env.carriers (fun n k i s=>TJ n env k (i,s)) (fun n x s=>(yG s x.name (au (nD x.name))).bind fun x4=>(wE n x n (0,x4)).bind (LR.el (fun s6=>some (.nx s6)) (fun r=>some (.rt r)))) (fun x s=>.nx (gI (kR x) s)) (fun s=>s)
  (fun suf s=>s.length+9*suf.length≤100)
  (fun n k i s=>by
   show cond _ _ _=_;congr 1;show(idx env.carriers i).bind _=_;congr 1;funext x;show(yG s x.name (au (nD x.name))).bind _=_;cases yG s x.name (au (nD x.name))with
   |none=>rfl
   |some y=>
    simp only[qAb];cases wE n x n (0,y)with
    |none=>rfl
    |some r=>cases r<;>rfl)
  (fun x suf s hx hs=>by
   simp only[qAp]at hs;have hx8:=(NJ h hx).2.1;refine⟨?_,fun s' he=>?_⟩
   ·rw[LX (by omega)];simp only[qAb];have:=Dh s x.name (au (nD x.name));exact Ev.bind (hin x _ hx8 (by omega)) (Ev.ret _)
   ·cases he;have:=PK (kR x) s;simp only[kR,qAp,qAi]at this⊢;omega) (s0:=([]:List (Str×Ty))) (by simp only[qAA];omega)
 rw[adk]at h1;have hf1:∀(cs:List Carrier) (m:List (Str×Ty)),cs.foldl (fun s x=>gI (kR x) s) m=gI (cs.flatMap kR) m:=by
  intro cs
  induction cs with
  |nil=>intro m;rfl
  |cons c cs ih=>intro m;rw[qBg,ih,qBf,Zt]
 rw[hf1]at h1;have hl1:(gI (env.carriers.flatMap kR) []).length≤100:=by
  have key:∀cs:List Carrier,(∀c∈cs,c.elems.length≤8)→(cs.flatMap kR).length≤9*cs.length:=by
   intro cs
   induction cs with
   |nil=>intro _;simp
   |cons c cs ih=>
    intro hh;have a:=hh c (qBB ..);have b:=ih fun c hc=>hh c (qAk _ hc);simp only[qBf,qAe,kR,qAp,qAi]at b⊢;omega
  have a:=key env.carriers fun c hc=>(NJ h hc).2.1;have b:=PK (env.carriers.flatMap kR) [];simp only[qAA]at b;omega
 have h2:=oZ (ρ:=List (Str×Ty)) env.names (fun n k i s=>Ug n env k (i,s)) (fun n x s=>yG s x.name x.ty) (fun x s=>lJ s x.name x.ty) (fun s=>s) (fun suf s=>s.length+suf.length≤1000)
  (fun n k i s=>rfl)
  (fun x suf s hx hs=>by
   simp only[qAp]at hs;refine⟨?_,?_⟩
   ·rw[LX (by omega)];exact Ev.ret _
   ·have:=Dh s x.name x.ty;omega) (s0:=gI (env.carriers.flatMap kR) []) (by omega)
 have hf2:∀(ds:List Decl) (m:List (Str×Ty)),ds.foldl (fun s x=>lJ s x.name x.ty) m=gI (ds.map fun d=>(d.name,d.ty)) m:=by
  intro ds
  induction ds with
  |nil=>intro m;rfl
  |cons e es ih=>intro m;rw[qBg,ih];rfl
 rw[hf2,←Zt]at h2;exact Ev.bind h1 (Ev.bind h2 (Ev.ret _))
def bH:Ty:=.mk 0 [] []
theorem UQ{α β:Type}(f:α→Str)(g:α→β)(l:List α)(k:Str):dn (l.map fun x=>(f x,g x)) k=(l.find? fun x=>f x==k).map g:=by
 induction l with
 |nil=>rfl
 |cons x l ih=>
  rw[qAy,mg,qCd,ih]
  grind
theorem avm{α β γ:Type}(l:List α)(l':List β)(i:Int)(F:α→β→Option γ):((idx l i).bind fun x=>(idx l' i).bind fun y=>F x y)=(idx (l.zip l') i).bind fun p=>F p.1 p.2:=by
 unfold idx;by_cases h:0≤i
 ·simp only[if_pos h,List.zip,List.getElem?_zipWith];cases l[i.toNat]?<;>cases l'[i.toNat]?<;>rfl
 ·simp only[if_neg h];rfl
theorem acZ{α β ρ:Type}(l:List α)(l':List β)(hlen:l.length=l'.length)(L:Nat→Nat→Int→Option (LR Unit ρ))(step:Nat→α→β→Option Bool)(p:α→β→Bool)(r:ρ)
  (hL:∀n k i,L n (k+1) i=cond (decide (i<(l.length:Int))) ((idx l i).bind fun x=>(idx l' i).bind fun y=>(step n x y).bind fun b=>cond b (some (.rt r)) (L n k (i+1))) (some (.nx ())))
  (hp:∀x∈l,∀y,Ev (fun n=>step n x y) (p x y)):Ev (fun n=>L n n 0) (cond ((l.zip l').any fun q=>p q.1 q.2) (.rt r) (.nx ())):=by
 refine sN (l.zip l') L (fun n q=>step n q.1 q.2) (fun q=>p q.1 q.2) r (fun n k i=>?_) (fun q hq=>hp q.1 (qCR hq).1 q.2);rw[hL,←avm l l' i fun x y=>(step n x y).bind fun b=>cond b (some (.rt r)) (L n k (i+1))];have:((l.zip l').length:Int)=(l.length:Int):=by rw[qDt,←hlen,qEm]
 rw[this]
mutual
def dI:Ty→Ty→Bool
 | .mk k n ks,.mk k' n' ks'=>(k==k')&&((n==n')&&Ay ks ks')
def Ay:List Ty→List Ty→Bool
 |[],[]=>true
 |[],_::_=>false
 |_::_,[]=>false
 |a::ar,b::br=>dI a b&&Ay ar br
end
mutual
theorem nU:∀a b:Ty,dI a b=true→a=b
 | .mk k n ks,.mk k' n' ks',h=>by
  simp only[dI,qAa,beq_iff_eq]at h;obtain⟨h1,h2,h3⟩:=h;rw[h1,h2,atf ks ks' h3]
theorem atf:∀a b:List Ty,Ay a b=true→a=b
 |[],[],_=>rfl
 |[],_::_,h=>by cases h
 |_::_,[],h=>by cases h
 |a::ar,b::br,h=>by
  simp only[Ay,qAa]at h;rw[nU a b h.1,atf ar br h.2]
end
mutual
theorem Ux:∀a:Ty,dI a a=true
 | .mk k n ks=>by simp only[dI,beq_self_eq_true,ajH ks,qCz]
theorem ajH:∀a:List Ty,Ay a a=true
 |[]=>rfl
 |a::ar=>by simp only[Ay,Ux a,ajH ar,qCz]
end
theorem adF:∀l l':List Ty,l.length=l'.length→(l.zip l').any (fun q=>!(dI q.1 q.2))=!(Ay l l')
 |[],[],_=>rfl
 |[],_::_,h=>by cases h
 |_::_,[],h=>by cases h
 |a::ar,b::br,h=>by
  have:=adF ar br (by simpa using h);simp only[qDT,qCA,this,Ay];cases dI a b<;>rfl
theorem abk:∀l l':List Ty,l.length≠l'.length→Ay l l'=false
 |[],[],h=>absurd rfl h
 |[],_::_,_=>rfl
 |_::_,[],_=>rfl
 |a::ar,b::br,h=>by
  have:=abk ar br (by simpa using h);simp only[Ay,this,qBP]
theorem QK:∀t u:Ty,Ev (fun n=>jQ n t u) (dI t u):=Ty.ind fun k nm ks ih u=>by
 obtain⟨k',nm',ks'⟩:=u;refine Ev.succ ?_;show Ev (fun n=>FC n _ _ (.mk k nm ks) (.mk k' nm' ks')) _;unfold FC;simp only[Ty.kind,Ty.name,Ty.kids,dI];cases k==k' with
 |false=>exact Ev.ret _
 |true=>
  cases nm==nm' with
  |false=>exact Ev.ret _
  |true=>
   simp only[cond_true,qAu];refine Ev.bind (a:=Ay ks ks') (Ev.bind (a:=Ay ks ks') (Ev.succ ?_) (Ev.ret _)) (Ev.ret _);show Ev (fun n=>sU n _ _ ks ks') _;unfold sU;simp only[bne];cases hl:(ks.length:Int)==(ks'.length:Int)with
   |false=>
    have:ks.length≠ks'.length:=fun e=>by simp[e]at hl
    rw[abk ks ks' this];exact Ev.ret _
   |true=>
    have hlen:ks.length=ks'.length:=by have:=beq_iff_eq.1 hl;omega
    simp only[qAv,cond_false];have h:=acZ ks ks' hlen (fun n k'' i=>C9 n (rV n) (jQ n) ks ks' k'' i) (fun n x y=>(jQ n x y).bind fun b=>some (!b)) (fun x y=>!(dI x y)) false
     (fun n k'' i=>by
      show cond _ _ _=_;congr 1;congr 1;funext x;congr 1;funext y;simp only[qAW,qAb];rfl)
     (fun x hx y=>Ev.bind (ih x hx y) (Ev.ret _))
    rw[adF ks ks' hlen]at h;refine Ev.bind h ?_;cases Ay ks ks'
    ·exact Ev.ret _
    ·exact Ev.ret _
end Abs
end Go.Proofs.YthgdaonechbgmaaGreat
