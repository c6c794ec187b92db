/-
  Valid terms: the program's functions and the document's come to the same plain answer. Conditions: names are no longer than a string may be; lemmas without a program.
-/
import Derived.Test.YtfmdmcenjfkbhaaGreatDoorCAw7oxc3dd52
set_option linter.all false
namespace Go.Proofs.YtfmdmcenjfkbhaaGreatDoor
namespace Abs
section
open Go
theorem Tm.ind{P:Tm→Prop}(h:∀k n m t ks,(∀t∈ks,P t)→P (.mk k n m t ks))(t:Tm):P t:=by
 match t with
 | .mk k n m ty ks=>exact h k n m ty ks fun u _=>Tm.ind h u
decreasing_by
 rename_i hu;have:=qDf hu
 grind
def eZ(op:Int):Int:=
 cond ((op==1 ||(op==2 ||(op==19 ||(op==20 ||op==29))))) 0
  (cond ((op==3 ||(op==21 ||(decide (46≤op)&&decide (op≤52))))) 1 (cond (op==28) (-1) (cond (decide (4≤op)&&decide (op≤56)) 2 (-2))))
def bC(op:Int):Bool:=op==8 ||(op==9 ||(op==55 ||op==56))
theorem orS(a b:Bool):(cond a (some a) (some b))=some (a ||b):=by cases a<;>rfl
theorem ai6(a b:Bool):(cond a (some b) (some false))=some (a&&b):=by cases a<;>rfl
theorem Xe(n:Nat)(op:Int):Gy n op=some (eZ op):=by
 unfold Gy eZ
 grind
theorem aiD(op:Int):((decide (46≤op)&&decide (op≤51)) ||op==52)=(decide (46≤op)&&decide (op≤52)):=by grind
theorem SI(n:Nat)(op:Int):AQ n op=some (cond (eZ op== -2) (0,false) (eZ op,true)):=by
 unfold AQ eZ;simp only[orS,ai6,qAb,aiD];cases h1:(op==1 ||(op==2 ||(op==19 ||(op==20 ||op==29))))with
 |true=>rfl
 |false=>
  cases h2:(op==3 ||(op==21 ||(decide (46≤op)&&decide (op≤52))))with
  |true=>rfl
  |false=>
   cases(op==28)with
   |true=>rfl
   |false=>
    simp only[qBe,beq_eq_false_iff_ne]at h1 h2;have e:(decide (1≤op)&&decide (op≤56))=(decide (4≤op)&&decide (op≤56)):=by
     by_cases h:4≤op
     ·simp[h,show 1≤op by omega]
     ·simp[h,show ¬1≤op by omega]
    rw[e];cases(decide (4≤op)&&decide (op≤56))<;>rfl
theorem ND(n:Nat)(op:Int):lY n op=some (bC op):=by
 unfold lY bC
 grind
theorem OA(n:Nat)(op:Int):nA n op=some (bC op):=by
 unfold nA bC
 grind
def yL(t:Ty):Bool:=t.kind==0&&(t.name==[]&&(t.kids.length:Int)==0)
theorem T9(n:Nat)(t:Ty):rJ n t=some (yL t):=by
 unfold rJ yL
 grind
theorem Nb(n:Nat)(t:Ty):vR n t=some (yL t):=by
 unfold vR yL
 grind
def tF(t:Tm):Bool:=cond (t.op==20) (named t.name) (cond (bC t.op) (ident t.name) (t.name==[]))
def DT(t:Tm):Bool:=cond (t.op==19) (decide (0≤t.n)&&decide (t.n≤1000000000)) (t.n==0)
def tyB(t:Tm):Bool:=cond (t.op==29) (jw t.ty&&t.ty.kind !=2) (yL t.ty)
def vU(t:Tm):Bool:=!(eZ t.op== -2)&&cond (eZ t.op== -1) (!((t.kids.length:Int)==0)) ((t.kids.length:Int)==eZ t.op)
def fG(t:Tm):Bool:=vU t&&(tF t&&(DT t&&tyB t))
theorem Y0(t:Tm)(hs:t.name.length≤9223372036854775807):Ev (fun n=>vJ n t) (fG t):=by
 unfold vJ fG;simp only[SI,qAb];have hfirst:Ev (fun n=>((((cond (!(cond (eZ t.op== -2) ((0:Int),false) (eZ t.op,true)).2) (some (!(cond (eZ t.op== -2) ((0:Int),false) (eZ t.op,true)).2)) (((cond ((cond (eZ t.op== -2) ((0:Int),false) (eZ t.op,true)).1==(-1)) (some ((t.kids.length:Int)==0)) (some false)):Option Bool).bind fun(s6:Bool)=>(cond s6 (some s6) (cond ((cond (eZ t.op== -2) ((0:Int),false) (eZ t.op,true)).1 !=(-1)) (some ((t.kids.length:Int)!=(cond (eZ t.op== -2) ((0:Int),false) (eZ t.op,true)).1)) (some false))))):Option Bool)).bind fun(s5:Bool)=>(cond s5 (some (.rt false)) (cond (t.op==20) ((tN n t.name).bind fun(x4:Bool)=>some (.nx x4)) ((lY n t.op).bind fun(x5:Bool)=>(cond x5 ((iU n t.name).bind fun(x6:Bool)=>some (.nx x6)) (some (.nx (t.name==([]:Str)))))))):Option (LR Bool Bool))) (cond (vU t) (.nx (tF t)) (.rt false)):=by
  refine Ev.bind (a:=!(vU t)) ?_ ?_
  ·refine Ev.of fun n=>?_;unfold vU
   grind
  ·cases vU t with
   |false=>exact Ev.ret _
   |true=>
    simp only[qAT,cond_false,cond_true,tF,ND,qAb];cases t.op==20 with
    |true=>
     refine Ev.bind (a:=named t.name) ?_ (Ev.ret _);exact Tx t.name hs
    |false=>
     cases bC t.op with
     |true=>exact Ev.bind (pW _) (Ev.ret _)
     |false=>exact Ev.ret _
 refine Ev.bind hfirst ?_;cases vU t with
 |false=>exact Ev.ret _
 |true=>
  simp only[cond_true,qAO];refine Ev.bind (a:=tF t&&DT t) ?_ ?_
  ·unfold DT;refine Ev.of fun n=>?_
   grind
  ·unfold tyB;cases t.op==29 with
   |true=>
    simp only[cond_true];refine Ev.bind (a:=tF t&&(DT t&&(jw t.ty&&t.ty.kind !=2))) ?_ (Ev.ret _);cases tF t with
    |false=>exact Ev.ret _
    |true=>
     cases DT t with
     |false=>exact Ev.ret _
     |true=>
      simp only[qAO,cond_true];cases hk:t.ty.kind !=2 with
      |false=>simp only[cond_false,qBU];exact Ev.ret _
      |true=>simp only[cond_true,qBv];exact Ev.bind (Hu _) (Ev.ret _)
   |false=>
    simp only[cond_false,T9,qAb];refine Ev.of fun n=>?_;cases tF t<;>cases DT t<;>rfl
theorem Vy(t:Tm):Ev (fun n=>G7 n t) (fG t):=by
 unfold G7 fG;simp only[Xe,qAb];refine Ev.bind (a:=!(vU t)) ?_ ?_
 ·refine Ev.of fun n=>?_;unfold vU;cases h2:eZ t.op== -2 with
  |true=>rfl
  |false=>
   simp only[cond_false,qAT,qBK,qAO];cases h1:eZ t.op== -1 with
   |true=>
    grind
   |false=>
    have hge:decide (0≤eZ t.op)=true:=by
     unfold eZ at h1 h2⊢
     grind
    grind
 ·cases vU t with
  |false=>exact Ev.ret _
  |true=>
   simp only[qAT,cond_false,qAO];refine Ev.bind (a:=cond (tF t) (.nx ()) (.rt false)) ?_ ?_
   ·unfold tF;simp only[OA,qAb];cases t.op==20 with
    |true=>
     refine Ev.bind (Uf _) ?_;simp only[cond_true];cases named t.name
     ·exact Ev.ret _
     ·exact Ev.ret _
    |false=>
     simp only[cond_false];cases bC t.op with
     |true=>
      refine Ev.bind (nN _) ?_;simp only[cond_true];cases ident t.name
      ·exact Ev.ret _
      ·exact Ev.ret _
     |false=>
      simp only[cond_false];cases t.name==([]:Str)
      ·exact Ev.ret _
      ·exact Ev.ret _
   ·cases tF t with
    |false=>exact Ev.ret _
    |true=>
     simp only[cond_true,qAO];refine Ev.bind (a:=!(DT t)) ?_ ?_
     ·refine Ev.of fun n=>?_;unfold DT;cases h19:t.op==19 with
      |true=>
       simp only[cond_true,bne,h19,qAT,cond_false];by_cases h0:t.n<0
       ·rw[decide_eq_true h0,decide_eq_false (show ¬0≤t.n by omega)];rfl
       ·rw[decide_eq_false h0,decide_eq_true (show 0≤t.n by omega)];by_cases hb:1000000000<t.n
        ·rw[decide_eq_true hb,decide_eq_false (show ¬t.n≤1000000000 by omega)];rfl
        ·rw[decide_eq_false hb,decide_eq_true (show t.n≤1000000000 by omega)];rfl
      |false=>simp only[cond_false,bne,h19,qBK,cond_true]
     ·cases DT t with
      |false=>exact Ev.ret _
      |true=>
       simp only[qAT,cond_false,qAO];unfold tyB;cases t.op==29 with
       |true=>
        simp only[cond_true];refine Ev.bind (a:=jw t.ty&&t.ty.kind !=2) (Ev.bind (Lv _) ?_) (Ev.ret _);cases jw t.ty
        ·exact Ev.ret _
        ·exact Ev.ret _
       |false=>
        simp only[cond_false,Nb,qAb];exact Ev.ret _
mutual
def mf:Tm→Int→Int→Bool×Int
 | .mk op nm m ty ks,d,c=>cond ((decide (c+1≤2000)&&decide (d≤64))&&fG (.mk op nm m ty ks)) (jS ks (d+1) (c+1)) (false,c+1)
def jS:List Tm→Int→Int→Bool×Int
 |[],_,c=>(true,c)
 |t::ts,d,c=>cond (mf t d c).1 (jS ts d (mf t d c).2) (false,(mf t d c).2)
end
mutual
theorem DC:∀(t:Tm) (d c:Int),(mf t d c).1=true→c<(mf t d c).2∧(mf t d c).2≤2000
 | .mk op nm m ty ks,d,c,h=>by
  simp only[mf]at h⊢;cases hb:((decide (c+1≤2000)&&decide (d≤64))&&fG (.mk op nm m ty ks))with
  |false=>rw[hb]at h;cases h
  |true=>
   rw[hb]at h;simp only[cond_true]at h⊢;simp only[qAa,decide_eq_true_eq]at hb;have:=Rz ks (d+1) (c+1) h;omega
theorem Rz:∀(ts:List Tm) (d c:Int),(jS ts d c).1=true→c≤(jS ts d c).2∧(c≤2000→(jS ts d c).2≤2000)
 |[],_,c,_=>by simp[jS]
 |t::ts,d,c,h=>by
  simp only[jS]at h⊢;cases hb:(mf t d c).1 with
  |false=>rw[hb]at h;cases h
  |true=>
   rw[hb]at h;simp only[cond_true]at h⊢;have h1:=DC t d c hb;have h2:=Rz ts d _ h;exact⟨by omega,fun _=>h2.2 h1.2⟩
end
mutual
def mq:Tm→Prop
 | .mk _ nm _ _ ks=>nm.length≤9223372036854775807∧DI ks
def DI:List Tm→Prop
 |[]=>True
 |t::ts=>mq t∧DI ts
end
theorem Ta:∀{ts:List Tm},DI ts→∀t∈ts,mq t
 |[],_,t,h=>by cases h
 |u::ts,h,t,ht=>by
  simp only[DI]at h;rcases qAh.1 ht with rfl|ht
  ·exact h.1
  ·exact Ta h.2 t ht
theorem Za(n:Nat)(c d:Int)(h0:0≤c)(h1:c≤2000):gK n c 2000 64 d=some (decide (c+1≤2000)&&decide (d≤64),c+1):=by
 unfold gK;rw[wrap64 (by omega) (by omega)]
 grind
def ad6(t:Tm):Prop:=mq t→∀d c:Int,1≤d→d≤65→0≤c→c≤2000→Ev (fun n=>fP n c 2000 64 t d) (mf t d c)
theorem U9(d:Int):∀(ts:List Tm) (i c:Int),0≤i→(∃j,0≤j∧(jS ts d c).1=false∧jy (τ:=Int) (fun i x s=>cond (!(mf x d s).1) (.rt (i,(mf x d s).2)) (.nx (mf x d s).2)) (fun s=>s) i ts c=.rt (j,(jS ts d c).2))∨((jS ts d c).1=true∧jy (ρ:=Int×Int) (fun i x s=>cond (!(mf x d s).1) (.rt (i,(mf x d s).2)) (.nx (mf x d s).2)) (fun s=>s) i ts c=.nx (jS ts d c).2)
 |[],i,c,_=>.inr ⟨rfl,rfl⟩
 |t::ts,i,c,hi=>by
  simp only[jS,jy];cases hb:(mf t d c).1 with
  |false=>exact .inl ⟨i,hi,rfl,rfl⟩
  |true=>exact U9 d ts (i+1) _ (by omega)
theorem WS(ts:List Tm)(h:∀t∈ts,ad6 t)(hS:DI ts)(d c:Int)(hd:1≤d)(hd6:d≤64)(h0:0≤c)(h1:c≤2000):Ev (fun n=>cK n ts c 2000 64 d) (!(jS ts (d+1) c).1,(jS ts (d+1) c).2):=by
 refine Ev.succ ?_;show Ev (fun n=>kY n _ _ _ _ ts c 2000 64 d) _;have hloop:=Nn ts (fun n k i s=>nY n (eU n) (cK n) (fP n) (dB n) ts 2000 64 d k (i,s))
  (fun n i x s=>(dB n x s 2000 64 d).bind fun x2=>cond x2.1 (some (.rt (i,x2.2))) (some (.nx x2.2))) (fun i x s=>cond (!(mf x (d+1) s).1) (.rt (i,(mf x (d+1) s).2)) (.nx (mf x (d+1) s).2)) (fun s=>s) (fun _ _ s=>0≤s∧s≤2000)
  (fun n k i s=>by
   show cond _ _ _=_;congr 1;congr 1;funext x;dsimp only;cases dB n x s 2000 64 d with
   |none=>rfl
   |some b=>obtain⟨b,e⟩:=b;cases b<;>rfl)
  (fun i x suf s hx hs=>⟨by
   have hfit:Ev (fun n=>dB n x s 2000 64 d) (!(mf x (d+1) s).1,(mf x (d+1) s).2):=by
    refine Ev.succ ?_;show Ev (fun n=>kM n _ _ _ _ x s 2000 64 d) _;unfold kM;have:=h x hx (Ta hS x hx) (d+1) s (by omega) (by omega) hs.1 hs.2;rw[wrap64 (by omega) (by omega)];exact Ev.bind this (Ev.ret _)
   refine Ev.bind hfit ?_;cases(mf x (d+1) s).1
   ·exact Ev.ret _
   ·exact Ev.ret _,fun s' he=>by
    cases hb:(mf x (d+1) s).1 with
    |false=>rw[hb]at he;cases he
    |true=>
     rw[hb]at he;simp at he;have:=DC x (d+1) s hb;omega⟩) (s0:=c) ⟨h0,h1⟩
 rcases U9 (d+1) ts 0 c (qCu _)with⟨j,hj,hf,hr⟩|⟨ht,hr⟩
 ·rw[hr]at hloop;refine Ev.bind (a:=(j,(jS ts (d+1) c).2)) (Ev.succ ?_) ?_
  ·show Ev (fun n=>eu n _ _ _ _ ts c 2000 64 d) _;unfold eu;exact Ev.bind hloop (Ev.ret _)
  ·rw[hf];simp only[decide_eq_true hj];exact Ev.ret _
 ·rw[hr]at hloop;refine Ev.bind (a:=(-1,(jS ts (d+1) c).2)) (Ev.succ ?_) ?_
  ·show Ev (fun n=>eu n _ _ _ _ ts c 2000 64 d) _;unfold eu;exact Ev.bind hloop (Ev.ret _)
  ·rw[ht];exact Ev.ret _
theorem agx:∀t:Tm,ad6 t:=Tm.ind fun op nm m ty ks ih hS d c hd hd7 h0 h1=>by
 refine Ev.succ ?_;show Ev (fun n=>lZ n _ _ _ _ c 2000 64 (.mk op nm m ty ks) d) _;unfold lZ;simp only[Za _ c d h0 h1,qAb,mf];cases hb:(decide (c+1≤2000)&&decide (d≤64))with
 |false=>exact Ev.ret _
 |true=>
  simp at hb;refine Ev.bind (a:=(!(fG (.mk op nm m ty ks)),c+1)) (Ev.bind (Y0 (.mk op nm m ty ks) hS.1) (Ev.ret _)) ?_;cases fG (.mk op nm m ty ks)with
  |false=>exact Ev.ret _
  |true=>
   refine Ev.bind (WS ks ih hS.2 d (c+1) hd hb.2 (by omega) hb.1) ?_;simp only[qDw];exact Ev.ret _
def bP(t:Tm):Bool:=(mf t 1 0).1
theorem Eu(t:Tm)(hS:mq t):Ev (fun n=>nT n t) (bP t):=by
 exact Ev.bind (agx t hS 1 0 (by omega) (by omega) (by omega) (by omega)) (Ev.ret _)
def mt(t:Tm)(d c:Int):Int:=cond (mf t d c).1 (mf t d c).2 (-1)
def afl(t:Tm):Prop:=∀d c:Int,1≤d→d≤65→0≤c→c≤2000→Ev (fun n=>rU n t d c) (mt t d c)
theorem Vh(d:Int):∀(ts:List Tm) (c:Int),0≤c→bW (τ:=Int) (fun x s=>cond (decide (mt x d s<0)) (.rt (-1)) (.nx (mt x d s))) (fun s=>s) ts c=cond (jS ts d c).1 (.nx (jS ts d c).2) (.rt (-1))
 |[],c,_=>rfl
 |t::ts,c,h0=>by
  simp only[jS,bW];by_cases hb:(mf t d c).1=true
  ·have h1:=DC t d c hb;have h2:mt t d c=(mf t d c).2:=by simp only[mt,hb,cond_true]
   have h3:decide ((mf t d c).2<0)=false:=decide_eq_false (by omega);simp only[h2,h3,hb,cond_true,cond_false];exact Vh d ts (mf t d c).2 (by omega)
  ·have hb':(mf t d c).1=false:=by simpa using hb
   have h2:mt t d c= -1:=by simp only[mt,hb',cond_false]
   have h3:decide (mt t d c<0)=true:=decide_eq_true (by omega);simp only[h3,hb',cond_true,cond_false]
theorem nodes:∀t:Tm,afl t:=Tm.ind fun op nm m ty ks ih d c hd hd7 h0 h1=>by
 refine Ev.succ ?_;show Ev (fun n=>xg n _ (.mk op nm m ty ks) d c) _;unfold xg;simp only[mt,mf];rw[wrap64 (by omega) (by omega)];by_cases hd6:d≤64
 case neg=>
  rw[decide_eq_true (show 64<d by omega),decide_eq_false hd6];simp only[qBU,qBL,cond_false];exact Ev.ret _
 by_cases hc:c+1≤2000
 case neg=>
  rw[decide_eq_false (show ¬64<d by omega),decide_eq_true (show 2000<c+1 by omega),decide_eq_false hc];simp only[qBL,cond_false,cond_true];exact Ev.ret _
 rw[decide_eq_false (show ¬64<d by omega),decide_eq_false (show ¬2000<c+1 by omega),decide_eq_true hd6,decide_eq_true hc];simp only[cond_false,qAO];refine Ev.bind (a:=!(fG (.mk op nm m ty ks))) (Ev.bind (Vy _) (Ev.ret _)) ?_;cases fG (.mk op nm m ty ks)with
 |false=>exact Ev.ret _
 |true=>
  simp only[qAT,cond_false,cond_true];have hloop:=Lu ks (fun n k' i s=>IE n (rU n) (.mk op nm m ty ks) d k' (s,i)) (fun n x s=>(rU n x (IntKind.wrap .i64 (d+1)) s).bind fun x2=>cond (decide (x2<0)) (some (.rt (-1))) (some (.nx x2)))
   (fun x s=>cond (decide (mt x (d+1) s<0)) (.rt (-1)) (.nx (mt x (d+1) s))) (fun s=>s) (fun _ s=>0≤s∧s≤2000)
   (fun n k' i s=>by
    show cond _ _ _=_;congr 1;show(idx ks i).bind _=_;congr 1;funext x;dsimp only;cases rU n x (IntKind.wrap .i64 (d+1)) s with
    |none=>rfl
    |some b=>simp only[qAb];cases decide (b<0)<;>rfl)
   (fun x suf s hx hs=>⟨by
    rw[wrap64 (by omega) (by omega)];refine Ev.bind (ih x hx (d+1) s (by omega) (by omega) hs.1 hs.2) ?_;cases decide (mt x (d+1) s<0)
    ·exact Ev.ret _
    ·exact Ev.ret _,fun s' he=>by
     cases hb:decide (mt x (d+1) s<0)with
     |true=>rw[hb]at he;cases he
     |false=>
      rw[hb]at he;simp only[cond_false,LR.nx.injEq]at he;have hneg:¬mt x (d+1) s<0:=of_decide_eq_false hb;subst he;unfold mt at hneg⊢;cases hb2:(mf x (d+1) s).1 with
      |false=>rw[hb2]at hneg;simp at hneg
      |true=>have:=DC x (d+1) s hb2;simp only[cond_true];omega⟩) (s0:=c+1) ⟨by omega,hc⟩
  rw[Vh _ _ _ (by omega)]at hloop;refine Ev.bind hloop ?_;cases(jS ks (d+1) (c+1)).1
  ·exact Ev.ret _
  ·exact Ev.ret _
theorem Bq(t:Tm):Ev (fun n=>zT n t) (bP t):=by
 refine Ev.bind (nodes t 1 0 (by omega) (by omega) (by omega) (by omega)) ?_;unfold mt bP;cases hb:(mf t 1 0).1 with
 |false=>exact Ev.ret _
 |true=>
  have:=DC t 1 0 hb;simp only[cond_true];rw[decide_eq_true (by omega)];exact Ev.ret _
def pJ:Ty:=.mk 2 [] []
def vK:Ty:=.mk 1 [] []
def ng(a b:Ty):Ty:=.mk 4 [] [a,b]
inductive Good:Ty→Prop where
 |int:Good vK
 |car (nm:Str):Good (H9 nm)
 |pair {a b:Ty}:Good a→Good b→Good (ng a b)
 |set {a:Ty}:Good a→Good (dG a)
def Top(t:Ty):Prop:=t=pJ∨Good t
theorem JE(a b:Ty):cO a b=true↔a=b:=⟨yQ a b,fun h=>h▸FV a⟩
theorem Y3(a b:Ty):cO a b=cO b a:=by
 rw[Bool.eq_iff_iff,JE,JE]
 grind
theorem shapes{t:Ty}(h:Top t):t=pJ∨t=vK∨(∃s,t=H9 s)∨(∃x y,t=ng x y)∨t=dG vK∨(∃s,t=dG (H9 s))∨(∃x y,t=dG (ng x y))∨∃x,t=dG (dG x):=by
 rcases h with rfl|h
 ·exact .inl rfl
 cases h with
 |int=>exact .inr (.inl rfl)
 |car s=>exact .inr (.inr (.inl ⟨s,rfl⟩))
 |pair _ _=>exact .inr (.inr (.inr (.inl ⟨_,_,rfl⟩)))
 |set h=>
  cases h with
  |int=>exact .inr (.inr (.inr (.inr (.inl rfl))))
  |car s=>exact .inr (.inr (.inr (.inr (.inr (.inl ⟨s,rfl⟩)))))
  |pair _ _=>exact .inr (.inr (.inr (.inr (.inr (.inr (.inl ⟨_,_,rfl⟩))))))
  |set _=>exact .inr (.inr (.inr (.inr (.inr (.inr (.inr ⟨_,rfl⟩))))))
def Wf(d:Int)(t:Tm):Prop:=∃c,0≤c∧(mf t d c).1=true
theorem ML:∀(ts:List Tm) (d c:Int),0≤c→(jS ts d c).1=true→c+ts.length≤(jS ts d c).2∧∀t∈ts,Wf d t
 |[],_,c,_,_=>by simp[jS]
 |t::ts,d,c,h0,h=>by
  simp only[jS]at h⊢;cases hb:(mf t d c).1 with
  |false=>rw[hb]at h;cases h
  |true=>
   rw[hb]at h;simp only[cond_true]at h⊢;have h1:=DC t d c hb;obtain⟨h2,h3⟩:=ML ts d _ (by omega) h;refine⟨by simp only[qAl];omega,fun u hu=>?_⟩;rcases qAh.1 hu with rfl|hu
   ·exact⟨_,h0,hb⟩
   ·exact h3 u hu
theorem Wf.node{op:Int}{nm:Str}{m:Int}{ty:Ty}{ks:List Tm}{d:Int}(h:Wf d (.mk op nm m ty ks)):fG (.mk op nm m ty ks)=true∧d≤64∧ks.length≤2000∧∀t∈ks,Wf (d+1) t:=by
 obtain⟨c,h0,h⟩:=h;simp only[mf]at h;cases hb:((decide (c+1≤2000)&&decide (d≤64))&&fG (.mk op nm m ty ks))with
 |false=>rw[hb]at h;cases h
 |true=>
  rw[hb]at h;obtain⟨h1,h2⟩:=ML _ _ _ (by omega) h;have h3:=Rz ks _ _ h
  grind
theorem vD{t:Tm}(h:bP t=true):Wf 1 t:=⟨0,by omega,h⟩
theorem JO:∀t u:Ty,Ev (fun n=>jm n t u) (cO t u):=Ty.ind fun k nm ks ih u=>by
 obtain⟨k',nm',ks'⟩:=u;refine Ev.succ ?_;show Ev (fun n=>pF n _ _ (.mk k nm ks) (.mk k' nm' ks')) _;unfold pF;simp only[Ty.kind,Ty.name,Ty.kids,cO];cases k==k' with
 |false=>exact Ev.ret _
 |true=>
  cases nm==nm' with
  |false=>exact Ev.ret _
  |true=>
   simp only[cond_true,qAO];refine Ev.bind (a:=nM ks ks') (Ev.bind (a:=nM ks ks') (Ev.succ ?_) (Ev.ret _)) (Ev.ret _);show Ev (fun n=>j5 n _ _ ks ks') _;unfold j5;simp only[bne];cases hl:(ks.length:Int)==(ks'.length:Int)with
   |false=>
    have:ks.length≠ks'.length:=fun e=>by simp[e]at hl
    rw[EX ks ks' this];exact Ev.ret _
   |true=>
    have hlen:ks.length=ks'.length:=by have:=beq_iff_eq.1 hl;omega
    simp only[qAT,cond_false];have h:=Oa ks ks' hlen (fun n k'' i=>pO n (jm n) (jU n) ks ks' k'' i) (fun n x y=>(jm n x y).bind fun b=>some (!b)) (fun x y=>!(cO x y)) false
     (fun n k'' i=>by
      show cond _ _ _=_;congr 1;congr 1;funext x;congr 1;funext y;simp only[qBx,qAb];rfl)
     (fun x hx y=>Ev.bind (ih x hx y) (Ev.ret _))
    rw[E5 ks ks' hlen]at h;refine Ev.bind h ?_;cases nM ks ks'
    ·exact Ev.ret _
    ·exact Ev.ret _
theorem U0(s:Str)(l:List Str)(hl:l.length≤1000000):Ev (fun n=>u7 n s l) (lastB s l):=by
 have key:∀(X post:List Str) (n k:Nat),X.length≤1000000→X.length+1≤k→yA n s (X.reverse++post) k ((X.length:Int) - 1)=some (match AY s X with|some i=>.rt ((X.length:Int) - 1 - i)|none=>.nx ()):=by
  intro X
  induction X with
  |nil=>
   intro post n k _ hk;cases k with
   |zero=>simp at hk
   |succ k=>rfl
  |cons x X ih=>
   intro post n k hX hk;simp only[qAl]at hX hk;cases k with
   |zero=>omega
   |succ k=>
    have e:(((x::X).length:Int) - 1)=(X.reverse.length:Int):=by simp
    have e2:(x::X).reverse++post=X.reverse++x::post:=by simp
    rw[e,e2];show cond (decide ((0:Int)≤(X.reverse.length:Int))) ((idx (X.reverse++x::post) (X.reverse.length:Int)).bind fun(x1:Str)=>cond (x1==s) (some (.rt (X.reverse.length:Int))) (yA n s (X.reverse++x::post) k (IntKind.wrap .i64 ((X.reverse.length:Int) - 1)))) (some (.nx ()))=_;rw[decide_eq_true (by omega),mJ];simp only[cond_true,qAb,AY];cases hd:x==s with
    |true=>simp
    |false=>
     simp only[cond_false];rw[qCk,wrap64 (by omega) (by omega),ih (x::post) n k (by omega) (by omega)];cases AY s X with
     |none=>rfl
     |some i=>simp;omega
 unfold u7;have h1:Ev (fun n=>yA n s l n ((l.length:Int) - 1)) (match AY s l.reverse with|some i=>.rt ((l.length:Int) - 1 - i)|none=>.nx ()):=⟨l.length+1,fun n hn=>by
  have:=key l.reverse [] n n (by simpa using hl) (by simpa using hn);rw[qAt,qDj,qCk]at this;exact this⟩
 refine Ev.bind h1 ?_;unfold lastB;cases AY s l.reverse<;>exact Ev.ret _
theorem FN(n:Nat)(s:Str)(l:List Str)(hl:l.length≤100000):lT n l s=some (lastB s l):=by
 unfold lT;rw[decide_eq_true hl];rfl
def ql(b:Bool)(i:Int)(s:Str)(X:List Str):List Str:=bif b&&(i==1)then X++[s]else X
mutual
def j3:Tm→Tm→List Str→List Str→Bool
 | .mk op nm n ty ks,.mk op' nm' n' ty' ks',X,Y=>((op==op')&&((n==n')&&(cO ty ty'&&(ks.length==ks'.length))))&&
  (bif op==20 then(lastB nm X==lastB nm' Y)&&(decide (0≤lastB nm X) ||(nm==nm'))else mF (bC op) nm nm' 0 ks ks' X Y)
def mF:Bool→Str→Str→Int→List Tm→List Tm→List Str→List Str→Bool
 |_,_,_,_,[],_,_,_=>true
 |_,_,_,_,_::_,[],_,_=>true
 |b,s,s',i,a::ks,c::ks',X,Y=>j3 a c (ql b i s X) (ql b i s' Y)&&mF b s s' (i+1) ks ks' X Y
end
theorem Uv{b:Bool}{i:Int}{s s':Str}{X Y:List Str}(h:X.length=Y.length):(ql b i s X).length=(ql b i s' Y).length:=by
 unfold ql;cases b&&(i==1)<;>simp[h]
theorem Yi{b:Bool}{i:Int}{s:Str}{X:List Str}:(ql b i s X).length≤X.length+1:=by
 unfold ql;cases b&&(i==1)<;>simp
theorem QU{op:Int}{nm nm':Str}{ks ks':List Tm}{X Y:List Str}(hl:ks.length=ks'.length)(A:Nat→Tm→Tm→List Str→List Str→Option Bool)(L:Nat→Nat→Int→Option (LR Unit Bool))
  (h0:∀n k,L n (k+1) (ks.length:Int)=some (.nx ()))
  (h1:∀n k i x,idx ks i=some x→decide (i<(ks.length:Int))=true→L n (k+1) i=(idx ks' i).bind fun y=>(A n x y (ql (bC op) i nm X) (ql (bC op) i nm' Y)).bind fun b=>cond (!b) (some (.rt false)) (L n k (i+1)))
  (ih:∀x∈ks,∀y i,Ev (fun n=>A n x y (ql (bC op) i nm X) (ql (bC op) i nm' Y)) (j3 x y (ql (bC op) i nm X) (ql (bC op) i nm' Y))):
  Ev (fun n=>L n n 0) (cond (mF (bC op) nm nm' 0 ks ks' X Y) (.nx ()) (.rt false)):=by
 have key:∀(suf suf' pre pre':List Tm),ks=pre++suf→ks'=pre'++suf'→pre.length=pre'.length→
   ∃N,∀n,N≤n→∀k,suf.length+1≤k→L n k (pre.length:Int)=some (cond (mF (bC op) nm nm' (pre.length:Int) suf suf' X Y) (.nx ()) (.rt false)):=by
  intro suf
  induction suf with
  |nil=>
   intro suf' pre pre' e _ _;refine⟨0,fun n _ k hk=>?_⟩;obtain⟨k,rfl⟩:∃j,k=j+1:=⟨k - 1,by simp at hk;omega⟩;have e2:(pre.length:Int)=(ks.length:Int):=by rw[e];simp
   rw[e2,h0];rfl
  |cons x suf ihs=>
   intro suf' pre pre' e e' hp;cases suf' with
   |nil=>exfalso;rw[e,e']at hl;simp at hl;omega
   |cons y suf'=>
    obtain⟨N1,g1⟩:=ih x (by rw[e];simp) y (pre.length:Int);obtain⟨N2,g2⟩:=ihs suf' (pre++[x]) (pre'++[y]) (by simp[e]) (by simp[e']) (by simp[hp]);refine⟨max N1 N2,fun n hn k hk=>?_⟩;have g1:A n x y (ql (bC op) (pre.length:Int) nm X) (ql (bC op) (pre.length:Int) nm' Y)=_:=g1 n (by omega);obtain⟨k,rfl⟩:∃j,k=j+1:=⟨k - 1,by simp at hk;omega⟩;rw[h1 n k _ x (by rw[e];exact mJ _ _ _) (decide_eq_true (by rw[e];simp;omega))];have hy:idx ks' (pre.length:Int)=some y:=by rw[hp,e'];exact mJ _ _ _
    have g2:=g2 n (by omega) k (by simp at hk;omega);have e3:((pre++[x]).length:Int)=(pre.length:Int)+1:=by simp
    rw[e3]at g2;rw[hy,qAb,g1,qAb,g2];simp only[mF];cases j3 x y (ql (bC op) (pre.length:Int) nm X) (ql (bC op) (pre.length:Int) nm' Y)<;>rfl
 obtain⟨N,h⟩:=key ks ks' [] [] rfl rfl rfl;exact⟨N+ks.length+1,fun n hn=>h n (by omega) n (by omega)⟩
theorem SX{op op' n0 n1:Int}{nm nm':Str}{ty ty':Ty}{ks ks':List Tm}{X Y:List Str}(S:Nat→Option Bool)(T1 T2:Nat→Option Int)(L:Nat→Option (LR Unit Bool))
  (hS:Ev S (cO ty ty')) (h1:Ev T1 (lastB nm X)) (h2:Ev T2 (lastB nm' Y)) (hL:ks.length=ks'.length→Ev L (cond (mF (bC op) nm nm' 0 ks ks' X Y) (.nx ()) (.rt false))):
  Ev (fun n=>(((cond (op !=op') (some true) (cond (n0 !=n1) (some true) ((S n).bind fun(x11:Bool)=>(cond (!x11) (some true) (some ((ks.length:Int)!=(ks'.length:Int))))))):Option Bool).bind fun(s1:Bool)=>(cond s1 (some false)
   (cond (op==20) ((T1 n).bind fun(x1:Int)=>((T2 n).bind fun(x2:Int)=>(((cond (x1==x2) (cond (decide (0≤x1)) (some true) (some (nm==nm'))) (some false)):Option Bool).bind fun(s2:Bool)=>some s2)))
   ((L n).bind (LR.el (fun(_:Unit)=>some true) (fun r=>some r))))))) (j3 (.mk op nm n0 ty ks) (.mk op' nm' n1 ty' ks') X Y):=by
 simp only[j3];refine Ev.bind (a:=!((op==op')&&((n0==n1)&&(cO ty ty'&&(ks.length==ks'.length))))) ?_ ?_
 ·simp only[bne];cases op==op' with
  |false=>exact Ev.ret _
  |true=>
   cases n0==n1 with
   |false=>exact Ev.ret _
   |true=>
    refine Ev.bind hS ?_;cases cO ty ty' with
    |false=>exact Ev.ret _
    |true=>
     have:=aeU ks ks';simp only[bne]at this;simp only[qAT,cond_false,qAO,this];exact Ev.ret _
 ·cases hc:((op==op')&&((n0==n1)&&(cO ty ty'&&(ks.length==ks'.length))))with
  |false=>exact Ev.ret _
  |true=>
   simp only[qAT,cond_false,qAO];have hl:ks.length=ks'.length:=by simp only[qAa,beq_iff_eq]at hc;exact hc.2.2.2
   cases op==20 with
   |true=>
    simp only[cond_true];refine Ev.bind h1 (Ev.bind h2 ?_);cases lastB nm X==lastB nm' Y with
    |false=>exact Ev.ret _
    |true=>cases decide (0≤lastB nm X)<;>exact Ev.ret _
   |false=>
    simp only[cond_false];refine Ev.bind (hL hl) ?_;cases mF (bC op) nm nm' 0 ks ks' X Y<;>exact Ev.ret _
theorem XZ(n:Nat)(X:List Str)(h:X.length≤1000):eB n X=some X:=by
 unfold eB;rw[dU (by simp;omega) (by omega)];rfl
theorem acj:∀(a b:Tm) (d:Int) (X Y:List Str),Wf d a→X.length=Y.length→(X.length:Int)<d→Ev (fun n=>iE n ⟨X,Y⟩ a b) (j3 a b X Y):=Tm.ind fun op nm m ty ks ih b d X Y hw hlen hd=>by
 obtain⟨op',nm',m',ty',ks'⟩:=b;obtain⟨_,hd64,_,hkw⟩:=hw.node;refine Ev.succ ?_;show Ev (fun n=>mY n (iE n) ⟨X,Y⟩ (.mk op nm m ty ks) (.mk op' nm' m' ty' ks')) _;unfold mY;refine SX (op:=op) (op':=op') (n0:=m) (n1:=m') (nm:=nm) (nm':=nm') (ty:=ty) (ty':=ty') (ks:=ks) (ks':=ks') (X:=X) (Y:=Y) (fun n=>jm n ty ty') (fun n=>lT n X nm) (fun n=>lT n Y nm') _ (JO ty ty') (Ev.of fun n=>FN n nm X (by omega)) (Ev.of fun n=>FN n nm' Y (by omega)) fun hl=>?_;refine QU (op:=op) (nm:=nm) (nm':=nm') (ks:=ks) (ks':=ks') (X:=X) (Y:=Y) hl (fun n x y U V=>iE n ⟨U,V⟩ x y) (fun n k i=>uH n (iE n) ⟨X,Y⟩ (.mk op nm m ty ks) (.mk op' nm' m' ty' ks') k i) (fun n k=>?_) (fun n k i x hx hi=>?_)
  (fun x hx y i=>ih x hx y (d+1) _ _ (hkw x hx) (Uv hlen) (by have:=@Yi (bC op) i nm X;omega))
 ·show cond (decide ((ks.length:Int)<(ks.length:Int))) _ _=_;rw[decide_eq_false (by omega)];rfl
 ·show cond (decide (i<(ks.length:Int))) _ _=_;rw[hi];have h5:((((lY n op).bind fun(x10:Bool)=>(cond x10 (some (i==1)) (some false)):Option Bool).bind fun(s6:Bool)=>(cond s6 ((eB n X).bind fun(x6:List Str)=>((app 16 x6 ([nm])).bind fun(x7:List Str)=>((eB n Y).bind fun(x8:List Str)=>((app 16 x8 ([nm'])).bind fun(x9:List Str)=>some (x7,x9))))) (some (X,Y)))):Option ((List Str)×(List Str)))=some (ql (bC op) i nm X,ql (bC op) i nm' Y):=by
   unfold ql;rw[ND,qAb];cases bC op with
   |false=>rfl
   |true=>
    cases i==1 with
    |false=>rfl
    |true=>
     simp only[cond_true,qAb,qCi];rw[XZ n X (by omega),qAb,dU (by simp;omega) (by omega),qAb,XZ n Y (by omega),qAb,dU (by simp;omega) (by omega)];rfl
  simp only[cond_true,Tm.op,Tm.name,Tm.kids];rw[h5,qAb,hx,qAb];rfl
theorem R6(n:Nat)(b:List Str)(nm:Str)(h:b.length≤1000):uL n b nm=some (b++[nm]):=by
 unfold uL;rw[dU (by simp;omega) (by omega),qAb,dU (by simp;omega) (by omega)];rfl
theorem acy:∀(a b:Tm) (d:Int) (X Y:List Str),Wf d a→X.length=Y.length→(X.length:Int)<d→Ev (fun n=>rM n a b X Y) (j3 a b X Y):=Tm.ind fun op nm m ty ks ih b d X Y hw hlen hd=>by
 obtain⟨op',nm',m',ty',ks'⟩:=b;obtain⟨_,hd64,_,hkw⟩:=hw.node;refine Ev.succ ?_;show Ev (fun n=>xA n (rM n) (.mk op nm m ty ks) (.mk op' nm' m' ty' ks') X Y) _;unfold xA;refine SX (op:=op) (op':=op') (n0:=m) (n1:=m') (nm:=nm) (nm':=nm') (ty:=ty) (ty':=ty') (ks:=ks) (ks':=ks') (X:=X) (Y:=Y) (fun n=>iB n ty ty') (fun n=>u7 n nm X) (fun n=>u7 n nm' Y) _ (R3 ty ty') (U0 nm X (by omega)) (U0 nm' Y (by omega)) fun hl=>?_;refine QU (op:=op) (nm:=nm) (nm':=nm') (ks:=ks) (ks':=ks') (X:=X) (Y:=Y) hl (fun n x y U V=>rM n x y U V) (fun n k i=>Ik n (rM n) (.mk op nm m ty ks) (.mk op' nm' m' ty' ks') X Y k i) (fun n k=>?_) (fun n k i x hx hi=>?_)
  (fun x hx y i=>ih x hx y (d+1) _ _ (hkw x hx) (Uv hlen) (by have:=@Yi (bC op) i nm X;omega))
 ·show cond (decide ((ks.length:Int)<(ks.length:Int))) _ _=_;rw[decide_eq_false (by omega)];rfl
 ·show cond (decide (i<(ks.length:Int))) _ _=_;rw[hi];have h5:((((nA n op).bind fun(x8:Bool)=>(cond x8 (some (i==1)) (some false)):Option Bool).bind fun(s6:Bool)=>(cond s6 ((uL n X nm).bind fun(x6:List Str)=>((uL n Y nm').bind fun(x7:List Str)=>some (x6,x7))) (some (X,Y)))):Option ((List Str)×(List Str)))=some (ql (bC op) i nm X,ql (bC op) i nm' Y):=by
   unfold ql;rw[OA,qAb];cases bC op with
   |false=>rfl
   |true=>
    cases i==1 with
    |false=>rfl
    |true=>
     simp only[cond_true,qAb,qCi];rw[R6 n X nm (by omega),qAb,R6 n Y nm' (by omega)];rfl
  simp only[cond_true,Tm.op,Tm.name,Tm.kids];rw[h5,qAb,hx,qAb];rfl
theorem wf1{t:Tm}(h:bP t=true):Wf 1 t:=⟨0,qCu 0,h⟩
def bn(a b:Tm):Bool:=bP a&&(bP b&&j3 a b [] [])
theorem Sg{α:Type}(l:List α)(L:Nat→Nat→Int→Option (LR Unit Int))(step:Nat→α→Option Bool)(p:α→Bool)
  (hL:∀n k i,L n (k+1) i=cond (decide (i<(l.length:Int))) ((idx l i).bind fun x=>(step n x).bind fun b=>cond b (some (.rt i)) (L n k (i+1))) (some (.nx ())))
  (hp:∀x∈l,Ev (fun n=>step n x) (p x)):Ev (fun n=>((L n n 0).bind (LR.el (fun _=>some (-1)) (fun r=>some r))).bind fun(x1:Int)=>some (decide (0≤x1))) (l.any p):=by
 refine Ev.bind (SB l L step p hL hp) ?_;rw[JZ p l 0 (qCu 0)];exact Ev.ret _
theorem Pf(l:List Tm)(hl:∀t∈l,mq t):Ev (fun n=>xS n l) (l.all bP):=by
 unfold xS;refine Ev.bind (Sg l (fun n k i=>oq n l k i) (fun n t=>zN n t) (fun t=>!(bP t)) (fun n k i=>rfl) fun t ht=>Ev.bind (Eu t (hl t ht)) (Ev.ret _)) ?_;refine(Ev.ret _).eq ?_;rw[←List.not_all_eq_any_not,qDw]
theorem Pn(a b:Tm)(ha:mq a)(hb:mq b):Ev (fun n=>yw n a b) (bn a b):=by
 unfold yw bn;refine Ev.bind (a:=bP a&&(bP b&&j3 a b [] [])) ?_ (Ev.ret _);refine Ev.bind (Pf [a,b] (by simp[ha,hb])) ?_;simp only[qBQ,List.all_nil,qBv];cases h1:bP a with
 |false=>exact Ev.ret _
 |true=>
  cases h2:bP b with
  |false=>exact Ev.ret _
  |true=>exact Ev.bind (acj a b 1 [] [] (wf1 h1) rfl (by decide)) (Ev.ret _)
theorem TJ(a b:Tm):Ev (fun n=>Du n a b) (bn a b):=by
 unfold Du bn;refine Ev.bind (a:=bP a&&(bP b&&j3 a b [] [])) ?_ (Ev.ret _);refine Ev.bind (Bq a) ?_;cases h1:bP a with
 |false=>exact Ev.ret _
 |true=>
  refine Ev.bind (Bq b) ?_;cases h2:bP b with
  |false=>exact Ev.ret _
  |true=>exact Ev.bind (acy a b 1 [] [] (wf1 h1) rfl (by decide)) (Ev.ret _)
theorem vX{α:Type}[BEq α][LawfulBEq α](a b:α):(a==b)=(b==a):=by
 rw[Bool.eq_iff_iff,beq_iff_eq,beq_iff_eq];exact⟨Eq.symm,Eq.symm⟩
theorem Zp:∀(a b:Tm) (X Y:List Str),j3 a b X Y=j3 b a Y X:=Tm.ind fun op nm m ty ks ih b X Y=>by
 obtain⟨op',nm',m',ty',ks'⟩:=b;simp only[j3];rw[vX op' op,vX m' m,Y3 ty' ty,vX ks'.length ks.length];cases hc:((op==op')&&((m==m')&&(cO ty ty'&&(ks.length==ks'.length))))with
 |false=>rfl
 |true=>
  simp only[qAa,beq_iff_eq]at hc;obtain⟨rfl, -, -,hl⟩:=hc;simp only[qAO];cases op==20 with
  |true=>
   simp only[cond_true];rw[vX (lastB nm' Y) (lastB nm X),vX nm' nm];cases h:lastB nm X==lastB nm' Y with
   |false=>rfl
   |true=>rw[beq_iff_eq.1 h]
  |false=>
   simp only[cond_false];have key:∀(l l':List Tm) (i:Int),l.length=l'.length→(∀k∈l,∀b X Y,j3 k b X Y=j3 b k Y X)→mF (bC op) nm nm' i l l' X Y=mF (bC op) nm' nm i l' l Y X:=by
    intro l
    induction l with
    |nil=>intro l' i h _;cases l' with|nil=>rfl|cons c l'=>cases h
    |cons k l ihl=>
     intro l' i h hk;cases l' with
     |nil=>cases h
     |cons c l'=>
      simp only[mF];rw[hk k (qBp ..),ihl l' (i+1) (by simpa using h) fun k h=>hk k (qAk _ h)]
   exact key ks ks' 0 hl fun k hk b X Y=>ih k hk b X Y
theorem VZ:∀(a b c:Tm) (X Y Z:List Str),j3 a b X Y=true→j3 b c Y Z=true→j3 a c X Z=true:=Tm.ind fun op nm m ty ks ih b c X Y Z h1 h2=>by
 obtain⟨op',nm',m',ty',ks'⟩:=b;obtain⟨op2,nm2,m2,ty2,ks2⟩:=c;simp only[j3,qAa,beq_iff_eq,JE]at h1 h2⊢;obtain⟨⟨rfl,rfl,rfl,l1⟩,g1⟩:=h1;obtain⟨⟨rfl,rfl,rfl,l2⟩,g2⟩:=h2;refine⟨⟨rfl,rfl,rfl,l1.trans l2⟩,?_⟩;cases h20:op==20 with
 |true=>
  rw[h20]at g1 g2;simp only[cond_true,qAa,beq_iff_eq,qBg,decide_eq_true_eq]at g1 g2⊢;refine⟨g1.1.trans g2.1,?_⟩;rcases g1.2 with h|h
  ·exact .inl h
  ·rcases g2.2 with h'|h'
   ·exact .inl (by rw[g1.1];exact h')
   ·exact .inr (h.trans h')
 |false=>
  rw[h20]at g1 g2;simp only[cond_false]at g1 g2⊢;have key:∀(l l' l2:List Tm) (i:Int),l.length=l'.length→l'.length=l2.length→(∀k∈l,∀b c X Y Z,j3 k b X Y=true→j3 b c Y Z=true→j3 k c X Z=true)→
    mF (bC op) nm nm' i l l' X Y=true→mF (bC op) nm' nm2 i l' l2 Y Z=true→mF (bC op) nm nm2 i l l2 X Z=true:=by
   intro l
   induction l with
   |nil=>intro l' l2 i _ _ _ _ _;rfl
   |cons k l ihl=>
    intro l' l2 i e1 e2 hk q1 q2;cases l' with
    |nil=>cases e1
    |cons k' l'=>
     cases l2 with
     |nil=>cases e2
     |cons k2 l2=>
      simp only[mF,qAa]at q1 q2⊢;exact⟨hk k (qBp ..) k' k2 _ _ _ q1.1 q2.1,ihl l' l2 (i+1) (by simpa using e1) (by simpa using e2) (fun k h=>hk k (qAk _ h)) q1.2 q2.2⟩
  exact key ks ks' ks2 0 l1 l2 (fun k hk b c X Y Z=>ih k hk b c X Y Z) g1 g2
theorem Bf(a b:Tm):bn a b=bn b a:=by
 simp only[bn];rw[Zp a b];cases bP a<;>cases bP b<;>rfl
theorem Q5{a b c:Tm}(h1:bn a b=true)(h2:bn b c=true):bn a c=true:=by
 simp only[bn,qAa]at h1 h2⊢;exact⟨h1.1,h2.2.1,VZ a b c _ _ _ h1.2.2 h2.2.2⟩
end
section
open Go Go.Proofs
def gX{α:Type}(p:α→Bool):Int→List α→Int→Int
 |_,[],acc=>acc
 |i,x::xs,acc=>gX p (i+1) xs (bif p x then i else acc)
theorem OH{α:Type}(p:α→Bool):∀(A B:List α) (i acc:Int),gX p i (A++B) acc=gX p (i+A.length) B (gX p i A acc)
 |[],B,i,acc=>by simp[gX]
 |x::A,B,i,acc=>by
  rw[qAH,gX,gX,OH p A B,qAl];congr 1;omega
theorem Dc{α:Type}(p:α→Bool):∀(A:List α) (i acc:Int),(∀x∈A,p x=false)→gX p i A acc=acc
 |[],_,_,_=>rfl
 |x::A,i,acc,h=>by
  rw[gX,h x (by simp),cond_false];exact Dc p A _ _ fun y hy=>h y (by simp[hy])
theorem NI{α:Type}(p:α→Bool):∀(A:List α) (i:Int),A.Pairwise (fun x y=>¬(p x=true∧p y=true))→gX p i A (-1)=dH p i A
 |[],_,_=>rfl
 |x::A,i,h=>by
  obtain⟨h1,h2⟩:=qCL.1 h;rw[gX,dH];cases hx:p x with
  |false=>exact NI p A (i+1) h2
  |true=>
   refine Dc p A _ _ fun y hy=>?_;cases hy':p y with
   |false=>rfl
   |true=>exact(h1 y hy ⟨hx,hy'⟩).elim
theorem O5{α:Type}{p:α→Bool}{A B:List α}(h:A.Pairwise (fun x y=>¬(p x=true∧p y=true)))(hB:∀x∈B,p x=false):gX p 0 (A++B) (-1)=dH p 0 A:=by
 rw[OH,Dc p B _ _ hB,NI p A 0 h]
structure Fo where
 ats:List Tm
 cs:List Int
 c:Int
def great(n:Int):Bool:=decide (1000000000<n) ||decide (n< -1000000000)
def Apart(l:List Tm):Prop:=l.Pairwise fun a b=>bn a b=false
def zR(A:List Tm)(k:Int)(s:List Tm×List Int)(a:Tm)(c:Int):List Tm×List Int:=
 bif decide (dH (fun b=>bn a b) 0 A<0)then(s.1++[a],s.2++[gZ (k*c)])else(s.1,upd s.2 (dH (fun b=>bn a b) 0 A) (gZ (s.2.getD (dH (fun b=>bn a b) 0 A).toNat 0+gZ (k*c))))
def iO(A:List Tm)(k:Int):List (Tm×Int)→List Tm×List Int→List Tm×List Int
 |[],s=>s
 |p::r,s=>iO A k r (zR A k s p.1 p.2)
def zX(k:Int)(s:List Tm×List Int)(a:Tm)(c:Int):List Tm×List Int:=
 bif decide (gX (fun b=>bn b a) 0 s.1 (-1)<0)then(s.1++[a],s.2++[gZ (k*c)])else(s.1,upd s.2 (gX (fun b=>bn b a) 0 s.1 (-1)) (gZ (s.2.getD (gX (fun b=>bn b a) 0 s.1 (-1)).toNat 0+gZ (k*c))))
def qx(k:Int):List (Tm×Int)→List Tm×List Int→List Tm×List Int
 |[],s=>s
 |p::r,s=>qx k r (zX k s p.1 p.2)
theorem adw{A:List Tm}(h:Apart A)(a:Tm):A.Pairwise (fun x y=>¬(bn x a=true∧bn y a=true)):=by
 refine h.imp fun{x y} hxy hc=>?_;have:=Q5 hc.1 (by rw[Bf];exact hc.2);rw[hxy]at this;cases this
theorem add_same{A:List Tm}(hA:Apart A)(k:Int):∀(r:List (Tm×Int)) (B:List Tm) (C:List Int),Apart (r.map (·.1))→(∀b∈B,∀p∈r,bn b p.1=false)→qx k r (A++B,C)=iO A k r (A++B,C)
 |[],_,_,_,_=>rfl
 |p::r,B,C,hr,hB=>by
  have hr':Apart (p.1::r.map (·.1)):=hr;obtain⟨h1,h2⟩:=qCL.1 hr';rw[qx,iO];have e:gX (fun b=>bn b p.1) 0 (A++B) (-1)=dH (fun b=>bn p.1 b) 0 A:=by
   rw[O5 (adw hA p.1) fun b hb=>hB b hb p (by simp)];congr 1;funext b;exact Bf b p.1
  have e2:zX k (A++B,C) p.1 p.2=zR A k (A++B,C) p.1 p.2:=by
   simp only[zX,zR,e]
  rw[e2];unfold zR;cases decide (dH (fun b=>bn p.1 b) 0 A<0)with
  |true=>
   simp only[cond_true,qAr];refine add_same hA k r (B++[p.1]) _ h2 fun b hb q hq=>?_;rcases qAy.1 hb with hb|hb
   ·exact hB b hb q (by simp[hq])
   ·rw[qAL.1 hb];exact h1 q.1 (List.mem_map_of_mem hq)
  |false=>exact add_same hA k r B _ h2 fun b hb q hq=>hB b hb q (by simp[hq])
def fJ:List Tm→List Int→List Tm×List Int
 |a::ats,c::cs=>bif c !=0 then(a::(fJ ats cs).1,c::(fJ ats cs).2)else fJ ats cs
 |_,_=>([],[])
def dN(f:Fo)(k:Int)(g:Fo):Fo:=
 ⟨(fJ (iO f.ats k (g.ats.zip g.cs) (f.ats,f.cs)).1 (iO f.ats k (g.ats.zip g.cs) (f.ats,f.cs)).2).1,(fJ (iO f.ats k (g.ats.zip g.cs) (f.ats,f.cs)).1 (iO f.ats k (g.ats.zip g.cs) (f.ats,f.cs)).2).2,gZ (f.c+gZ (k*g.c))⟩
def mU(f:Fo):Option Fo:=bif great f.c ||f.cs.any great then none else some f
def bJ:Fo:=⟨[],[],0⟩
def PO(t:Tm)(op m:Int)(l:List (Option Fo)):Option Fo:=
 bif op==19 then some ⟨[],[],m⟩else
 bif op==21 then(match l with|f::_=>f.map fun f=>dN bJ (-1) f|_=>none)else
 bif op==22 ||op==23 then(match l with|f::g::_=>f.bind fun f=>g.bind fun g=>mU (dN f (bif op==23 then -1 else 1) g)|_=>none)else
 bif op==24 then(match l with|f::g::_=>f.bind fun f=>g.bind fun g=>bif f.ats.isEmpty then mU (dN bJ f.c g)else bif g.ats.isEmpty then mU (dN bJ g.c f)else some ⟨[t],[1],0⟩|_=>none)else
 some ⟨[t],[1],0⟩
mutual
def dQ:Tm→Option Fo
 | .mk op nm m ty ks=>PO (.mk op nm m ty ks) op m (Kq ks)
def Kq:List Tm→List (Option Fo)
 |[]=>[]
 |t::ts=>dQ t::Kq ts
end
structure GoodF(f:Fo):Prop where
 len:f.ats.length=f.cs.length
 apart:Apart f.ats
 val:∀a∈f.ats,bP a=true
 cs:∀c∈f.cs,great c=false
 c:great f.c=false
theorem Yp{α:Type}{p:α→Bool}{A:List α}(h:dH p 0 A<0):∀x∈A,p x=false:=by
 have:=JZ p A 0 (qCu 0);rw[decide_eq_false (by omega)]at this;intro x hx;cases hp:p x with
 |false=>rfl
 |true=>rw[qCw.2 ⟨x,hx,hp⟩]at this;cases this
theorem VO{L:List Tm}{a:Tm}(h:Apart L)(ha:∀x∈L,bn x a=false):Apart (L++[a]):=
 List.pairwise_append.2 ⟨h,qCT ..,fun x hx y hy=>by rw[qAL.1 hy];exact ha x hx⟩
theorem vH{A:List Tm}{k:Int}:∀(r:List (Tm×Int)) (B:List Tm) (C:List Int),Apart (A++B)→Apart (r.map (·.1))→(∀b∈B,∀p∈r,bn b p.1=false)→(A++B).length=C.length→
  Apart (iO A k r (A++B,C)).1∧(iO A k r (A++B,C)).1.length=(iO A k r (A++B,C)).2.length∧∀x∈(iO A k r (A++B,C)).1,x∈A++B∨x∈r.map (·.1)
 |[],B,C,h1,_,_,h4=>⟨h1,h4,fun x hx=>.inl hx⟩
 |p::r,B,C,h1,h2,h3,h4=>by
  have h2':Apart (p.1::r.map (·.1)):=h2;obtain⟨g1,g2⟩:=qCL.1 h2';rw[iO];unfold zR;cases hd:decide (dH (fun b=>bn p.1 b) 0 A<0)with
  |true=>
   simp only[cond_true,qAr];have hA:=Yp (of_decide_eq_true hd);obtain⟨q1,q2,q3⟩:=vH (A:=A) (k:=k) r (B++[p.1]) (C++[gZ (k*p.2)]) (by
     rw[←qAr];refine VO h1 fun x hx=>?_;rcases qAy.1 hx with hx|hx
     ·rw[Bf];exact hA x hx
     ·exact h3 x hx p (by simp)) g2 (fun b hb q hq=>by
     rcases qAy.1 hb with hb|hb
     ·exact h3 b hb q (by simp[hq])
     ·rw[qAL.1 hb];exact g1 q.1 (List.mem_map_of_mem hq)) (by simp only[qAj,qAl,qAx]at h4⊢;omega)
   refine⟨q1,q2,fun x hx=>?_⟩;rcases q3 x hx with h|h
   ·simp only[qAy,qAL]at h;rcases h with h|h|h
    ·exact .inl (qAy.2 (.inl h))
    ·exact .inl (qAy.2 (.inr h))
    ·exact .inr (by simp[h])
   ·exact .inr (by simp only[qAz,qAh];exact .inr h)
  |false=>
   simp only[cond_false];obtain⟨q1,q2,q3⟩:=vH (A:=A) (k:=k) r B (upd C (dH (fun b=>bn p.1 b) 0 A) (gZ (C.getD (dH (fun b=>bn p.1 b) 0 A).toNat 0+gZ (k*p.2)))) h1 g2 (fun b hb q hq=>h3 b hb q (by simp[hq])) (by simpa[upd]using h4);refine⟨q1,q2,fun x hx=>?_⟩;rcases q3 x hx with h|h
   ·exact .inl h
   ·exact .inr (by simp only[qAz,qAh];exact .inr h)
theorem yt:∀(ats:List Tm) (cs:List Int),ats.length=cs.length→(fJ ats cs).1.Sublist ats∧(fJ ats cs).2.Sublist cs∧(fJ ats cs).1.length=(fJ ats cs).2.length
 |[],[],_=>⟨.slnil,.slnil,rfl⟩
 |a::ats,c::cs,h=>by
  obtain⟨h1,h2,h3⟩:=yt ats cs (by simpa using h);rw[fJ];cases c !=0 with
  |true=>exact⟨h1.cons_cons a,h2.cons_cons c,by simp[h3]⟩
  |false=>exact⟨h1.cons a,h2.cons c,h3⟩
theorem zip_fst{α β:Type}:∀{l:List α} {l':List β},l.length=l'.length→(l.zip l').map (·.1)=l
 |[],[],_=>rfl
 |a::l,b::l',h=>by simp only[qCq,qAz];rw[zip_fst (by simpa using h)]
theorem Aj{f g h:Fo}{k:Int}(hf:GoodF f)(hg:GoodF g)(e:mU (dN f k g)=some h):GoodF h:=by
 obtain⟨q1,q2,q3⟩:=vH (A:=f.ats) (k:=k) (g.ats.zip g.cs) [] f.cs (by simpa using hf.apart) (by rw[zip_fst hg.len];exact hg.apart) (fun b hb=>by cases hb) (by simpa using hf.len);rw[qAt]at q1 q2 q3;obtain⟨s1,s2,s3⟩:=yt _ _ q2;unfold mU at e;cases hb:great (dN f k g).c ||(dN f k g).cs.any great with
 |true=>rw[hb]at e;cases e
 |false=>
  rw[hb]at e;cases e;rw[qBe]at hb;refine⟨s3,q1.sublist s1,fun a ha=>?_,fun c hc=>?_,hb.1⟩
  ·rcases q3 a (s1.subset ha)with h|h
   ·exact hf.val a h
   ·rw[zip_fst hg.len]at h;exact hg.val a h
  ·cases hc':great c with
   |false=>rfl
   |true=>rw[qCw.2 ⟨c,hc,hc'⟩]at hb;cases hb.2
theorem nk:GoodF bJ:=⟨rfl,List.Pairwise.nil,fun a h=>(by cases h),fun a h=>(by cases h),rfl⟩
theorem YE{t:Tm}(h:bP t=true):GoodF ⟨[t],[1],0⟩:=⟨rfl,qCT ..,fun a ha=>(by rw[qAL.1 ha];exact h),fun c hc=>(by rw[qAL.1 hc];rfl),rfl⟩
mutual
theorem U6:∀(t:Tm) (d c d' c':Int),(mf t d c).1=true→d'≤d→c'≤c→(mf t d' c').1=true∧(mf t d' c').2 - c'=(mf t d c).2 - c
 | .mk op nm m ty ks,d,c,d',c',h,hd,hc=>by
  simp only[mf]at h⊢;cases hb:((decide (c+1≤2000)&&decide (d≤64))&&fG (.mk op nm m ty ks))with
  |false=>rw[hb]at h;cases h
  |true=>
   rw[hb]at h;simp only[qAa,decide_eq_true_eq]at hb;have hb':((decide (c'+1≤2000)&&decide (d'≤64))&&fG (.mk op nm m ty ks))=true:=by simp only[qAa,decide_eq_true_eq];exact⟨⟨by omega,by omega⟩,hb.2⟩
   rw[hb'];have:=RO ks (d+1) (c+1) (d'+1) (c'+1) h (by omega) (by omega);simp only[cond_true];exact⟨this.1,by omega⟩
theorem RO:∀(ts:List Tm) (d c d' c':Int),(jS ts d c).1=true→d'≤d→c'≤c→(jS ts d' c').1=true∧(jS ts d' c').2 - c'=(jS ts d c).2 - c
 |[],d,c,d',c',_,_,_=>⟨rfl,by simp[jS]⟩
 |t::ts,d,c,d',c',h,hd,hc=>by
  simp only[jS]at h⊢;cases hb:(mf t d c).1 with
  |false=>rw[hb]at h;cases h
  |true=>
   rw[hb]at h;obtain⟨h1,h2⟩:=U6 t d c d' c' hb hd hc;rw[h1];simp only[cond_true]at h⊢;obtain⟨h3,h4⟩:=RO ts d (mf t d c).2 d' (mf t d' c').2 h hd (by omega);exact⟨h3,by omega⟩
end
theorem ZF{d:Int}{t:Tm}(h:Wf d t)(hd:1≤d):bP t=true:=by
 obtain⟨c,h0,h⟩:=h;exact(U6 t d c 1 0 h hd h0).1
theorem xL{op:Int}{nm:Str}{m:Int}{ty:Ty}{ks:List Tm}(h:bP (.mk op nm m ty ks)=true):∀k∈ks,bP k=true:=fun k hk=>by
 have h':(mf (.mk op nm m ty ks) 1 0).1=true:=h;simp only[mf]at h';cases hb:((decide ((0:Int)+1≤2000)&&decide ((1:Int)≤64))&&fG (.mk op nm m ty ks))with
 |false=>rw[hb]at h';cases h'
 |true=>
  rw[hb]at h';exact ZF ((ML ks 2 1 (by omega) h').2 k hk) (by omega)
theorem I5(k:Int):∀(r:List (Tm×Int)) (A:List Tm) (C:List Int),iO [] k r (A,C)=(A++r.map (·.1),C++r.map fun p=>gZ (k*p.2))
 |[],A,C=>by simp[iO]
 |p::r,A,C=>by
  rw[iO];have e:zR [] k (A,C) p.1 p.2=(A++[p.1],C++[gZ (k*p.2)]):=rfl;rw[e,I5 k r];simp
theorem abx{c:Int}(h:great c=false):great (gZ (-1*c))=false∧gZ (-1*c)= -c:=by
 simp only[great,qBe,decide_eq_false_iff_not]at h⊢;have:gZ (-1*c)= -c:=by
  have:=FK (n:= -1*c) (by omega) (by omega);unfold gZ;omega
 rw[this];exact⟨⟨by omega,by omega⟩,rfl⟩
theorem Qp{f:Fo}(hf:GoodF f):mU (dN bJ (-1) f)=some (dN bJ (-1) f):=by
 have hl:(bJ.ats++(f.ats.zip f.cs).map (·.1)).length=(bJ.cs++(f.ats.zip f.cs).map fun p=>gZ (-1*p.2)).length:=by simp[bJ]
 have e:=I5 (-1) (f.ats.zip f.cs) bJ.ats bJ.cs;have hs:=yt _ _ hl;have hc:great (dN bJ (-1) f).c=false:=by
  have:=(abx hf.c);show great (gZ (0+gZ (-1*f.c)))=false;rw[Int.zero_add,this.2];have h2:=hf.c;simp only[great,qBe,decide_eq_false_iff_not]at h2⊢;have:=FK (n:= -f.c) (by omega) (by omega);unfold gZ;rw[←this];omega
 have hcs:(dN bJ (-1) f).cs.any great=false:=by
  rw[qCO];intro c hc;have hc':c∈(fJ (iO bJ.ats (-1) (f.ats.zip f.cs) (bJ.ats,bJ.cs)).1 (iO bJ.ats (-1) (f.ats.zip f.cs) (bJ.ats,bJ.cs)).2).2:=hc;have e':iO bJ.ats (-1) (f.ats.zip f.cs) (bJ.ats,bJ.cs)=_:=e;rw[e']at hc';have:=hs.2.1.subset hc';simp only[bJ,qAC,qBc]at this;obtain⟨p,hp,rfl⟩:=this;have:=hf.cs p.2 (qCW hp).2;rw[(abx this).1];simp
 unfold mU;rw[hc,hcs];rfl
theorem yK:∀ks:List Tm,Kq ks=ks.map dQ
 |[]=>rfl
 |k::ks=>by rw[Kq,qAz,yK ks]
theorem Jw(A:List Tm)(k:Int):∀(r:List (Tm×Int)) (s:List Tm×List Int),(iO A k r s).1.length≤s.1.length+r.length
 |[],s=>by simp[iO]
 |p::r,s=>by
  rw[iO];refine qAW (Jw A k r _) ?_;unfold zR;cases decide (dH (fun b=>bn p.1 b) 0 A<0)<;>simp<;>omega
theorem OL:∀(ats:List Tm) (cs:List Int),(fJ ats cs).1.length≤ats.length
 |[],_=>by simp[fJ]
 |_::_,[]=>by simp[fJ]
 |a::ats,c::cs=>by
  have:=OL ats cs;rw[fJ];cases c !=0<;>simp<;>omega
theorem rO(f g:Fo)(k:Int):(dN f k g).ats.length≤f.ats.length+g.ats.length:=by
 have h1:=OL (iO f.ats k (g.ats.zip g.cs) (f.ats,f.cs)).1 (iO f.ats k (g.ats.zip g.cs) (f.ats,f.cs)).2;have h2:=Jw f.ats k (g.ats.zip g.cs) (f.ats,f.cs);have h3:(g.ats.zip g.cs).length≤g.ats.length:=by rw[qBH];exact qCX ..
 have h2:(iO f.ats k (g.ats.zip g.cs) (f.ats,f.cs)).1.length≤f.ats.length+(g.ats.zip g.cs).length:=h2;show(fJ _ _).1.length≤_;omega
theorem SG{f h:Fo}(e:mU f=some h):h=f:=by
 unfold mU at e;cases hb:great f.c ||f.cs.any great with
 |true=>rw[hb]at e;cases e
 |false=>rw[hb]at e;cases e;rfl
mutual
def lV:Tm→Nat
 | .mk _ _ _ _ ks=>fU ks+1
def fU:List Tm→Nat
 |[]=>0
 |t::ts=>lV t+fU ts
end
theorem gQ:∀t:Tm,bP t=true→∀f,dQ t=some f→GoodF f∧f.ats.length≤lV t:=Tm.ind fun op nm m ty ks ih hv f hf=>by
 have hkv:=xL hv;have hnb:fG (.mk op nm m ty ks)=true:=(Wf.node (vD hv)).1;rw[dQ,yK]at hf;unfold PO at hf;cases h19:op==19 with
 |true=>
  rw[h19]at hf;cases hf;have hop:op=19:=beq_iff_eq.1 h19;subst hop;have:great m=false:=by
   simp only[fG,qAa]at hnb;have hm:(decide (0≤m)&&decide (m≤1000000000))=true:=hnb.2.2.1;simp only[qAa,decide_eq_true_eq]at hm;simp only[great,qBe,decide_eq_false_iff_not];omega
  exact⟨⟨rfl,List.Pairwise.nil,fun a h=>(by cases h),fun a h=>(by cases h),this⟩,by simp⟩
 |false=>
  rw[h19]at hf;have hatom:GoodF ⟨[.mk op nm m ty ks],[1],0⟩∧(1:Nat)≤lV (.mk op nm m ty ks):=⟨YE hv,by rw[lV];omega⟩;cases h21:op==21 with
  |true=>
   rw[h21]at hf
   match ks,hf with
   |k0::ks,hf=>
    simp only[cond_true,cond_false,qAz]at hf;cases e0:dQ k0 with
    |none=>rw[e0]at hf;cases hf
    |some f0=>
     rw[e0]at hf;cases hf;obtain⟨g0,l0⟩:=ih k0 (by simp) (hkv k0 (by simp)) f0 e0;refine⟨Aj nk g0 (Qp g0),?_⟩;have:=rO bJ f0 (-1);have e:bJ.ats.length=0:=rfl;show(dN bJ (-1) f0).ats.length≤_;rw[lV,fU];omega
   |[],hf=>cases hf
  |false=>
   rw[h21]at hf;cases h22:op==22 ||op==23 with
   |true=>
    rw[h22]at hf
    match ks,hf with
    |k0::k1::ks,hf=>
     simp only[cond_true,cond_false,qAz]at hf;cases e0:dQ k0 with
     |none=>rw[e0]at hf;cases hf
     |some f0=>
      cases e1:dQ k1 with
      |none=>rw[e0,e1]at hf;cases hf
      |some f1=>
       rw[e0,e1]at hf;obtain⟨g0,l0⟩:=ih k0 (by simp) (hkv k0 (by simp)) f0 e0;obtain⟨g1,l1⟩:=ih k1 (by simp) (hkv k1 (by simp)) f1 e1;refine⟨Aj g0 g1 hf,?_⟩;rw[SG hf,lV,fU,fU];have:=rO f0 f1 (bif op==23 then -1 else 1);omega
    |[k0],hf=>cases hf
    |[],hf=>cases hf
   |false=>
    rw[h22]at hf;cases h24:op==24 with
    |false=>rw[h24]at hf;cases hf;exact hatom
    |true=>
     rw[h24]at hf
     match ks,hf with
     |k0::k1::ks,hf=>
      simp only[cond_true,cond_false,qAz]at hf;cases e0:dQ k0 with
      |none=>rw[e0]at hf;cases hf
      |some f0=>
       cases e1:dQ k1 with
       |none=>rw[e0,e1]at hf;cases hf
       |some f1=>
        rw[e0,e1]at hf;obtain⟨g0,l0⟩:=ih k0 (by simp) (hkv k0 (by simp)) f0 e0;obtain⟨g1,l1⟩:=ih k1 (by simp) (hkv k1 (by simp)) f1 e1;simp only[qAb]at hf;have z:bJ.ats.length=0:=rfl;cases a0:f0.ats.isEmpty with
        |true=>
         rw[a0]at hf;refine⟨Aj nk g1 hf,?_⟩;rw[SG hf,lV,fU,fU];have:=rO bJ f1 f0.c;omega
        |false=>
         rw[a0]at hf;cases a1:f1.ats.isEmpty with
         |true=>
          rw[a1]at hf;refine⟨Aj nk g0 hf,?_⟩;rw[SG hf,lV,fU,fU];have:=rO bJ f0 f1.c;omega
         |false=>rw[a1]at hf;cases hf;exact hatom
     |[k0],hf=>cases hf
     |[],hf=>cases hf
theorem wQ{α σ S τ ρ:Type}(l:List α)(B:Nat→(S→Option (LR τ ρ))→S→Option (LR τ ρ))(pk:Int→σ→S)(st:α→σ→LR σ ρ)(fin:σ→τ)(I:List α→σ→Prop)
  (he:∀n rec s,B n rec (pk (l.length:Int) s)=some (.nx (fin s)))
  (hs:∀pre x suf s,l=pre++x::suf→I (x::suf) s→(∃N,∀n,N≤n→∀rec,B n rec (pk (pre.length:Int) s)=match st x s with| .nx s'=>rec (pk ((pre.length:Int)+1) s')| .rt r=>some (.rt r))∧∀s',st x s=.nx s'→I suf s')
  {s0:σ} (h0:I l s0):Ev (fun n=>dz (B n) n (pk 0 s0)) (bW st fin l s0):=by
 have key:∀(suf pre:List α) (s:σ),l=pre++suf→I suf s→∃N,∀n,N≤n→∀k,suf.length+1≤k→dz (B n) k (pk (pre.length:Int) s)=some (bW st fin suf s):=by
  intro suf
  induction suf with
  |nil=>
   intro pre s hl _;refine⟨0,fun n _ k hk=>?_⟩;obtain⟨j,rfl⟩:∃j,k=j+1:=⟨k - 1,by simp at hk;omega⟩;rw[show(pre.length:Int)=(l.length:Int) by rw[hl];simp];exact he n _ s
  |cons x suf ih=>
   intro pre s hl hI;obtain⟨⟨N,h1⟩,h2⟩:=hs pre x suf s hl hI;cases hx:st x s with
   |rt r=>
    refine⟨N,fun n hn k hk=>?_⟩;obtain⟨j,rfl⟩:∃j,k=j+1:=⟨k - 1,by simp at hk;omega⟩;have:=h1 n hn (dz (B n) j);rw[hx]at this;show B n (dz (B n) j) _=_;rw[this];simp only[bW,hx]
   |nx s'=>
    obtain⟨M,h3⟩:=ih (pre++[x]) s' (by simp[hl]) (h2 s' hx);refine⟨N+M,fun n hn k hk=>?_⟩;obtain⟨j,rfl⟩:∃j,k=j+1:=⟨k - 1,by simp at hk;omega⟩;have:=h1 n (by omega) (dz (B n) j);rw[hx]at this;show B n (dz (B n) j) _=_;rw[this];have h4:=h3 n (by omega) j (by simp at hk;omega);rw[show((pre++[x]).length:Int)=(pre.length:Int)+1 by simp]at h4;simp only[bW,hx];exact h4
 obtain⟨N,h⟩:=key l [] s0 rfl h0;exact⟨N+l.length+1,fun n hn=>h n (by omega) n (by omega)⟩
theorem aae(a x:Tm)(ha:mq a)(hx:mq x):Ev (fun n=>jv n x a.op a.name a.n a.ty.kind a.ty.name a.ty.kids a.kids) (bn a x):=by
 obtain⟨op,nm,m,⟨k,tn,ks⟩,kids⟩:=a;exact Ev.bind (Pn _ x ha hx) (Ev.ret _)
theorem ad8(A:List Tm)(a:Tm)(ha:mq a)(hA:∀x∈A,mq x):Ev (fun n=>mR n A a.op a.name a.n a.ty.kind a.ty.name a.ty.kids a.kids) (dH (fun b=>bn a b) 0 A):=
 SB A (fun n k i=>pK n A a.op a.name a.n a.ty.kind a.ty.name a.ty.kids a.kids k i) (fun n x=>jv n x a.op a.name a.n a.ty.kind a.ty.name a.ty.kids a.kids) (fun b=>bn a b) (fun n k i=>rfl) fun x hx=>aae a x ha (hA x hx)
theorem OO{α:Type}{p:α→Bool}:∀(A:List α) (i:Int),dH p i A= -1∨(i≤dH p i A∧dH p i A<i+A.length)
 |[],i=>.inl rfl
 |x::A,i=>by
  rw[dH];cases p x with
  |true=>right;simp;omega
  |false=>
   simp only[cond_false,qAl];rcases OO (p:=p) A (i+1)with h|h
   ·exact .inl h
   ·right;omega
theorem Rb(A:List Tm)(k:Int):∀(r:List (Tm×Int)) (s:List Tm×List Int),bW (ρ:=S_api_Term_) (fun p s=>.nx (zR A k s p.1 p.2)) (fun s=>s) r s=.nx (iO A k r s)
 |[],s=>rfl
 |p::r,s=>by rw[bW,iO];exact Rb A k r _
theorem LH{α β:Type}{l:List α}{l':List β}{pre suf:List (α×β)}{x:α×β}(h:l.zip l'=pre++x::suf):idx l (pre.length:Int)=some x.1∧idx l' (pre.length:Int)=some x.2:=by
 have e:(l.zip l')[pre.length]? =some x:=by rw[h];simp
 have:=List.getElem?_zip_eq_some.1 e;simpa[idx]using this
theorem Yq{l:List Int}{j:Int}(h0:0≤j)(h1:j<l.length):idx l j=some (l.getD j.toNat 0):=by
 have:j.toNat<l.length:=by omega
 simp[idx,h0,List.getD,this]
theorem Zi(f g:Fo)(k:Int)(hf:f.ats.length=f.cs.length)(hg:g.ats.length=g.cs.length)(lf:f.ats.length≤2000)(lg:g.ats.length≤2000)(sf:∀x∈f.ats,mq x)(sg:∀x∈g.ats,mq x):
  Ev (fun n=>pq n ⟨f.ats,f.cs,f.c⟩ k ⟨g.ats,g.cs,g.c⟩ n (0,f.ats,f.cs)) (.nx (iO f.ats k (g.ats.zip g.cs) (f.ats,f.cs))):=by
 have hz:(g.ats.zip g.cs).length=g.ats.length:=by rw[qBH];omega
 have main:=wQ (g.ats.zip g.cs) (fun n=>iK n ⟨f.ats,f.cs,f.c⟩ k ⟨g.ats,g.cs,g.c⟩) (fun i s=>(i,s.1,s.2)) (fun p s=>.nx (zR f.ats k s p.1 p.2)) (fun s=>s)
  (fun suf s=>s.1.length=s.2.length∧f.ats.length≤s.1.length∧s.1.length+suf.length≤4000)
  (fun n rec s=>by
   simp only[iK];rw[decide_eq_false (by rw[hz];omega)];rfl)
  (fun pre x suf s hl hI=>by
   obtain⟨i1,i2,i3⟩:=hI;have hpl:pre.length<g.ats.length:=by rw[←hz,hl];simp
   obtain⟨ea,ec⟩:=LH hl;have hm:x∈g.ats.zip g.cs:=by rw[hl];simp
   have hma:x.1∈g.ats:=(qCW hm).1;obtain⟨N,hN⟩:=ad8 f.ats x.1 (sg x.1 hma) sf;refine⟨⟨N,fun n hn rec=>?_⟩,fun s' hs'=>?_⟩
   ·simp only[iK,ea,ec,qAb];rw[decide_eq_true (show(pre.length:Int)<(g.ats.length:Int) by omega),cond_true];have hN:=hN n hn;simp only at hN;rw[hN];simp only[qAb];unfold zR;simp only[qAl]at i3;cases hd:decide (dH (fun b=>bn x.1 b) 0 f.ats<0)with
    |true=>
     simp only[cond_true];rw[dU (by simp only[qAl,qAx];omega) (by omega)];simp only[qAb];rw[dU (by simp only[qAl,qAx];omega) (by omega)];rfl
    |false=>
     have hj:=of_decide_eq_false hd;rcases OO (p:=fun b=>bn x.1 b) f.ats 0 with h|⟨h,h'⟩
     ·omega
     ·rw[Yq h (by omega)];rfl
   ·cases hs';unfold zR;simp only[qAl]at i3;cases hd:decide (dH (fun b=>bn x.1 b) 0 f.ats<0)with
    |true=>simp only[cond_true,qAj,qAl,qAx];omega
    |false=>simp only[cond_false,upd,qAD];omega)
  (s0:=(f.ats,f.cs)) ⟨hf,qAq _,by show f.ats.length+_≤_;omega⟩
 rw[Rb]at main;exact main
theorem ES:∀(A:List Tm) (C:List Int) (s:List Tm×List Int),A.length=C.length→bW (ρ:=S_api_Term_) (fun p s=>.nx (bif p.2 !=0 then(s.1++[p.1],s.2++[p.2])else s)) (fun s=>s) (A.zip C) s=.nx (s.1++(fJ A C).1,s.2++(fJ A C).2)
 |[],[],s,_=>by simp[bW,fJ]
 |a::A,c::C,s,h=>by
  rw[qCq,bW,fJ];cases c !=0 with
  |true=>
   simp only[cond_true];rw[ES A C _ (by simpa using h)];simp
  |false=>
   simp only[cond_false];exact ES A C _ (by simpa using h)
theorem YF(A:List Tm)(C:List Int)(hl:A.length=C.length)(la:A.length≤4000):Ev (fun n=>qb n (A,C) n (0,[],[])) (.nx (fJ A C)):=by
 have hz:(A.zip C).length=C.length:=by rw[qBH];omega
 have main:=wQ (A.zip C) (fun n=>iM n (A,C)) (fun i s=>(i,s.1,s.2)) (fun p s=>.nx (bif p.2 !=0 then(s.1++[p.1],s.2++[p.2])else s)) (fun s=>s)
  (fun suf s=>s.1.length=s.2.length∧s.1.length+suf.length≤4000)
  (fun n rec s=>by
   simp only[iM];rw[decide_eq_false (by rw[hz];omega)];rfl)
  (fun pre x suf s hl' hI=>by
   obtain⟨i1,i3⟩:=hI;have hpl:pre.length<C.length:=by rw[←hz,hl'];simp
   obtain⟨ea,ec⟩:=LH hl';simp only[qAl]at i3;refine⟨⟨0,fun n _ rec=>?_⟩,fun s' hs'=>?_⟩
   ·simp only[iM,ea,ec,qAb];rw[decide_eq_true (show(pre.length:Int)<(C.length:Int) by omega),cond_true];cases hd:x.2 !=0 with
    |true=>
     simp only[cond_true];rw[dU (by simp only[qAl,qAx];omega) (by omega)];simp only[qAb];rw[dU (by simp only[qAl,qAx];omega) (by omega)];rfl
    |false=>rfl
   ·cases hs';cases hd:x.2 !=0 with
    |true=>simp only[cond_true,qAj,qAl,qAx];omega
    |false=>simp only[cond_false];omega)
  (s0:=([],[])) ⟨rfl,by simp only[qAx];omega⟩
 rw[ES A C _ hl]at main;simp only[qAC]at main;exact main
theorem GK(f g:Fo)(k:Int)(hf:GoodF f)(hg:GoodF g)(lf:f.ats.length≤2000)(lg:g.ats.length≤2000)(sf:∀x∈f.ats,mq x)(sg:∀x∈g.ats,mq x):
  Ev (fun n=>gq n ⟨f.ats,f.cs,f.c⟩ k ⟨g.ats,g.cs,g.c⟩) (⟨(dN f k g).ats,(dN f k g).cs,(dN f k g).c⟩:S_api_Term_):=by
 have c1:∀n,mI n f.ats=some f.ats:=fun n=>by
  unfold mI;rw[dU (by simp;omega) (by omega)];rfl
 have c2:∀n,slices_Clone_int n f.cs=some f.cs:=fun n=>by
  unfold slices_Clone_int;have:=hf.len;rw[dU (by simp;omega) (by omega)];rfl
 simp only[gq,c1,c2,qAb];refine Ev.bind (Zi f g k hf.len hg.len lf lg sf sg) ?_;obtain⟨q1,q2,q3⟩:=vH (A:=f.ats) (k:=k) (g.ats.zip g.cs) [] f.cs (by simpa using hf.apart) (by rw[zip_fst hg.len];exact hg.apart) (fun b hb=>by cases hb) (by simpa using hf.len);rw[qAt]at q1 q2 q3;have hl:=Jw f.ats k (g.ats.zip g.cs) (f.ats,f.cs);have hl:(iO f.ats k (g.ats.zip g.cs) (f.ats,f.cs)).1.length≤f.ats.length+(g.ats.zip g.cs).length:=hl;have h3:(g.ats.zip g.cs).length≤g.ats.length:=by rw[qBH];exact qCX ..
 exact Ev.bind (YF _ _ q2 (by omega)) (Ev.ret _)
def fo(f:Fo):S_api_Term_:=⟨f.ats,f.cs,f.c⟩
def Kc:Option Fo→PZ S_api_Term_ Unit
 |some f=>.ok (fo f)
 |none=>.er 11 ()
theorem P6:∀l:List Int,bW (ρ:=PZ S_api_Term_ Unit) (fun x (_:Unit)=>bif great x then .rt (.er 11 ())else .nx ()) (fun s=>s) l ()=bif l.any great then .rt (.er 11 ())else .nx ()
 |[]=>rfl
 |x::l=>by
  rw[bW,qBR];cases great x with
  |true=>rfl
  |false=>exact P6 l
theorem Bh(f:Fo)(hl:f.cs.length≤4000):Ev (fun n=>mP n (fo f)) (Kc (mU f)):=by
 have c1:∀n,iw n f.cs=some f.cs:=fun n=>by
  unfold iw;rw[decide_eq_true (by omega)];rfl
 have c2:app 8 f.cs [f.c]=some (f.cs++[f.c]):=dU (by simp;omega) (by omega);simp only[mP,fo,c1,c2,qAb];have main:=wQ (f.cs++[f.c]) (fun n=>lI n (f.cs++[f.c])) (fun i (_:Unit)=>i) (fun x _=>bif great x then .rt (.er 11 ())else .nx ()) (fun s=>s) (fun _ _=>True)
  (fun n rec s=>by
   simp only[lI];rw[decide_eq_false (by omega)];rfl)
  (fun pre x suf s hl' _=>by
   refine⟨⟨0,fun n _ rec=>?_⟩,fun _ _=>trivial⟩;have hi:idx (f.cs++[f.c]) (pre.length:Int)=some x:=by rw[hl'];exact mJ pre x suf
   have hlt:(pre.length:Int)<((f.cs++[f.c]).length:Int):=by rw[hl'];simp;omega
   simp only[lI,hi,qAb];rw[decide_eq_true hlt,cond_true];unfold great;cases decide (1000000000<x)with
   |true=>rfl
   |false=>cases decide (x< -1000000000)<;>rfl)
  (s0:=()) trivial
 rw[P6]at main;refine Ev.bind main ?_;have e:(f.cs++[f.c]).any great=(great f.c ||f.cs.any great):=by rw[List.any_append,qBR,List.any_nil,qDr,Bool.or_comm]
 rw[e];unfold mU;cases great f.c ||f.cs.any great with
 |true=>exact Ev.ret _
 |false=>exact Ev.ret _
theorem abH{nm:Str}{m:Int}{ty:Ty}{ks:List Tm}(h:fG (.mk 21 nm m ty ks)=true):∃a,ks=[a]:=by
 simp only[fG,qAa]at h;have hl:((ks.length:Int)==1)=true:=h.1;have hl:(ks.length:Int)=1:=beq_iff_eq.1 hl
 match ks,hl with
 |[a],_=>exact⟨a,rfl⟩
theorem Pp{op:Int}{nm:Str}{m:Int}{ty:Ty}{ks:List Tm}(ho:op=22∨op=23∨op=24)(h:fG (.mk op nm m ty ks)=true):∃a b,ks=[a,b]:=by
 have hl:(ks.length:Int)=2:=by
  rcases ho with rfl|rfl|rfl<;>
  ·simp only[fG,qAa]at h;have hl:((ks.length:Int)==2)=true:=h.1;exact beq_iff_eq.1 hl
 match ks,hl with
 |[a,b],_=>exact⟨a,b,rfl⟩
theorem rF{α β δ:Type}{F:Nat→Option (PZ α β)}{a:α}{G:Nat→α→Option δ}{H:Nat→Int→β→Option δ}{r:δ}(h:Ev F (.ok a))(h1:Ev (fun n=>G n a) r):Ev (fun n=>(F n).bind (PZ.el (fun a=>G n a) (fun e z=>H n e z))) r:=
 Ev.bind h h1
theorem Dz{α β δ:Type}{F:Nat→Option (PZ α β)}{e:Int}{z:β}{G:Nat→α→Option δ}{H:Nat→Int→β→Option δ}{r:δ}(h:Ev F (.er e z))(h1:Ev (fun n=>H n e z) r):Ev (fun n=>(F n).bind (PZ.el (fun a=>G n a) (fun e z=>H n e z))) r:=
 Ev.bind h h1
theorem Vw{F:Nat→Option (PZ S_api_Term_ Unit)}{o:Option Fo}(h:Ev F (Kc o)):Ev (fun n=>(F n).bind (PZ.el (fun(x:S_api_Term_)=>some (LR.rt (PZ.ok x):LR Unit (PZ S_api_Term_ Unit))) (fun(e:Int) _=>some (.rt (.er e ()))))) (LR.rt (Kc o)):=by
 cases o with
 |none=>exact Dz h (Ev.ret _)
 |some f=>exact rF h (Ev.ret _)
theorem Mx{f g:Fo}(hf:GoodF f)(hg:GoodF g)(k:Int):(dN f k g).cs.length=(dN f k g).ats.length:=by
 obtain⟨q1,q2,q3⟩:=vH (A:=f.ats) (k:=k) (g.ats.zip g.cs) [] f.cs (by simpa using hf.apart) (by rw[zip_fst hg.len];exact hg.apart) (fun b hb=>by cases hb) (by simpa using hf.len);rw[qAt]at q2;exact(yt _ _ q2).2.2.symm
theorem XG:∀t:Tm,bP t=true→(∀x:Tm,bP x=true→mq x)→lV t≤2000→Ev (fun n=>fu n t) (Kc (dQ t)):=Tm.ind fun op nm m ty ks ih hv hS hn=>by
 have hkv:=xL hv;have hnb:fG (.mk op nm m ty ks)=true:=(Wf.node (vD hv)).1;refine Ev.succ ?_;show Ev (fun n=>pX n (fu n) (.mk op nm m ty ks)) _;unfold pX;simp only[Tm.op,Tm.n,Tm.kids];rw[dQ,yK];unfold PO;cases h19:op==19 with
 |true=>exact Ev.ret _
 |false=>
  simp only[cond_false];cases h21:op==21 with
  |true=>
   have hop:op=21:=beq_iff_eq.1 h21;subst hop;obtain⟨a,rfl⟩:=abH hnb;have ha:=ih a (by simp) (hkv a (by simp)) hS (by rw[lV,fU]at hn;omega);simp only[cond_true,qAz,qBM];refine Ev.bind (a:=LR.rt (Kc (Option.map (fun f=>dN bJ (-1) f) (dQ a)))) (Ev.bind (Ev.ret a) ?_) (Ev.ret _);cases e0:dQ a with
   |none=>rw[e0]at ha;exact Dz ha (Ev.ret _)
   |some f=>
    rw[e0]at ha;obtain⟨gf,lf⟩:=gQ a (hkv a (by simp)) f e0;rw[lV,fU]at hn;exact rF ha (Ev.bind (GK bJ f (-1) nk gf (by decide) (by omega) (fun x hx=>by cases hx) fun x hx=>hS x (gf.val x hx)) (Ev.ret _))
  |false=>
   simp only[cond_false];cases h22:op==22 ||op==23 with
   |true=>
    have ho:op=22∨op=23∨op=24:=by
     rcases Bool.or_eq_true_iff.1 h22 with h|h
     ·exact .inl (beq_iff_eq.1 h)
     ·exact .inr (.inl (beq_iff_eq.1 h))
    obtain⟨a,b,rfl⟩:=Pp ho hnb;have ha:=ih a (by simp) (hkv a (by simp)) hS (by rw[lV,fU]at hn;omega);have hb:=ih b (by simp) (hkv b (by simp)) hS (by rw[lV,fU,fU]at hn;omega);rw[lV,fU,fU]at hn;have hcond:∀n:Nat,(cond (op==22) (some (op==22)) (some (op==23)):Option Bool)=some true:=fun _=>by
     cases h:op==22 with
     |true=>rfl
     |false=>rw[h,qCj]at h22;rw[h22];rfl
    simp only[hcond 0,qAb,cond_true,qAz,qBM];refine Ev.bind (a:=LR.rt (Kc ((dQ a).bind fun f=>(dQ b).bind fun g=>mU (dN f (bif op==23 then -1 else 1) g)))) (Ev.bind (Ev.ret a) ?_) (Ev.ret _);cases e0:dQ a with
    |none=>rw[e0]at ha;exact Dz ha (Ev.ret _)
    |some f=>
     rw[e0]at ha;refine rF ha (Ev.bind (Ev.ret b) ?_);cases e1:dQ b with
     |none=>rw[e1]at hb;exact Dz hb (Ev.ret _)
     |some g=>
      rw[e1]at hb;obtain⟨gf,lf⟩:=gQ a (hkv a (by simp)) f e0;obtain⟨gg,lg⟩:=gQ b (hkv b (by simp)) g e1;refine rF hb (Ev.bind (a:=bif op==23 then(-1:Int)else 1) (by cases op==23<;>exact Ev.ret _) ?_);have hl:=rO f g (bif op==23 then(-1:Int)else 1);have hc:=Mx gf gg (bif op==23 then(-1:Int)else 1);exact Ev.bind (GK f g (bif op==23 then(-1:Int)else 1) gf gg (by omega) (by omega) (fun x hx=>hS x (gf.val x hx)) fun x hx=>hS x (gg.val x hx)) (Vw (Bh (dN f (bif op==23 then(-1:Int)else 1) g) (by omega)))
   |false=>
    have hcond:∀n:Nat,(cond (op==22) (some (op==22)) (some (op==23)):Option Bool)=some false:=fun _=>by
     rw[qBe]at h22;rw[h22.1,h22.2];rfl
    simp only[hcond 0,qAb,cond_false];cases h24:op==24 with
    |false=>exact Ev.ret _
    |true=>
     obtain⟨a,b,rfl⟩:=Pp (.inr (.inr (beq_iff_eq.1 h24))) hnb;have ha:=ih a (by simp) (hkv a (by simp)) hS (by rw[lV,fU]at hn;omega);have hb:=ih b (by simp) (hkv b (by simp)) hS (by rw[lV,fU,fU]at hn;omega);rw[lV,fU,fU]at hn;simp only[cond_true,qAz,qBM];cases e0:dQ a with
     |none=>rw[e0]at ha;exact Ev.bind (a:=LR.rt (.er 11 ())) (Ev.bind (Ev.ret a) (Dz ha (Ev.ret _))) (Ev.ret _)
     |some f=>
      rw[e0]at ha;cases e1:dQ b with
      |none=>rw[e1]at hb;exact Ev.bind (a:=LR.rt (.er 11 ())) (Ev.bind (Ev.ret a) (rF ha (Ev.bind (Ev.ret b) (Dz hb (Ev.ret _))))) (Ev.ret _)
      |some g=>
       rw[e1]at hb;obtain⟨gf,lf⟩:=gQ a (hkv a (by simp)) f e0;obtain⟨gg,lg⟩:=gQ b (hkv b (by simp)) g e1;simp only[qAb];cases a0:f.ats.isEmpty with
       |true=>
        have z:f.ats=[]:=qBa.1 a0;have hl:=rO bJ g f.c;have hc:=Mx nk gg f.c;have z0:bJ.ats.length=0:=rfl;refine Ev.bind (a:=LR.rt (Kc (mU (dN bJ f.c g)))) (Ev.bind (Ev.ret a) (rF ha (Ev.bind (Ev.ret b) (rF hb ?_)))) (Ev.ret _);simp only[fo,z,qAx];exact Ev.bind (Ev.ret _) (Ev.bind (GK bJ g f.c nk gg (by decide) (by omega) (fun x hx=>by cases hx) fun x hx=>hS x (gg.val x hx)) (Vw (Bh (dN bJ f.c g) (by omega))))
       |false=>
        have hd:(0:Int)<(f.ats.length:Int):=(by
         have:f.ats≠[]:=fun h=>by rw[h]at a0;cases a0
         have:=qBm.2 this;omega)
        have hd':(0:Int)<((fo f).atoms.length:Int):=hd;simp only[cond_false];cases a1:g.ats.isEmpty with
        |true=>
         have z:g.ats=[]:=qBa.1 a1;have hl:=rO bJ f g.c;have hc:=Mx nk gf g.c;have z0:bJ.ats.length=0:=rfl;refine Ev.bind (a:=LR.rt (Kc (mU (dN bJ g.c f)))) (Ev.bind (Ev.ret a) (rF ha (Ev.bind (Ev.ret b) (rF hb ?_)))) (Ev.ret _);rw[decide_eq_true hd'];simp only[fo,z];refine Ev.bind (a:=(([]:List Tm),g.cs,g.c,f.ats,f.cs,f.c)) (Ev.ret _) ?_;exact(Ev.bind (GK bJ f g.c nk gf (by decide) (by omega) (fun x hx=>by cases hx) fun x hx=>hS x (gf.val x hx)) (Vw (Bh (dN bJ g.c f) (by omega))))
        |false=>
         have he:((g.ats.length:Int)==0)=false:=beq_eq_false_iff_ne.2 (by
          have:g.ats≠[]:=fun h=>by rw[h]at a1;cases a1
          have:=qBm.2 this;omega)
         refine Ev.bind (a:=LR.nx ()) (Ev.bind (Ev.ret a) (rF ha (Ev.bind (Ev.ret b) (rF hb ?_)))) (Ev.ret _);rw[decide_eq_true hd'];simp only[fo];refine Ev.bind (a:=(g.ats,g.cs,g.c,f.ats,f.cs,f.c)) (Ev.ret _) ?_;simp only[he,cond_false];exact Ev.ret _
mutual
theorem ab5:∀(t:Tm) (d c:Int),(mf t d c).1=true→(mf t d c).2=c+lV t
 | .mk op nm m ty ks,d,c,h=>by
  simp only[mf]at h⊢;cases hb:((decide (c+1≤2000)&&decide (d≤64))&&fG (.mk op nm m ty ks))with
  |false=>rw[hb]at h;cases h
  |true=>
   rw[hb]at h;have:=YQ ks (d+1) (c+1) h;simp only[cond_true,lV];omega
theorem YQ:∀(ts:List Tm) (d c:Int),(jS ts d c).1=true→(jS ts d c).2=c+fU ts
 |[],d,c,_=>by simp[jS,fU]
 |t::ts,d,c,h=>by
  simp only[jS]at h⊢;cases hb:(mf t d c).1 with
  |false=>rw[hb]at h;cases h
  |true=>
   rw[hb]at h;have h1:=ab5 t d c hb;simp only[cond_true,fU]at h⊢;have h2:=YQ ts d _ h;omega
end
theorem CZ{t:Tm}(h:bP t=true):lV t≤2000:=by
 have h1:=ab5 t 1 0 h;have h2:=DC t 1 0 h;omega
theorem NK{s:Str}(h:ident s=true):s.length≤16:=by
 unfold ident at h;split at h
 ·cases h
 ·simp only[qAa,decide_eq_true_eq]at h;simp only[qAl];omega
theorem ZU{s:Str}(h:named s=true):s.length≤17:=by
 have:=NK h;unfold Cq at this
 grind
theorem RP:∀{ts:List Tm},(∀t∈ts,mq t)→DI ts
 |[],_=>trivial
 |t::ts,h=>by
  simp only[DI];exact⟨h t (qBp ..),RP fun u hu=>h u (qAk _ hu)⟩
theorem YO:∀t:Tm,bP t=true→mq t:=Tm.ind fun op nm m ty ks ih hv=>by
 have hnb:fG (.mk op nm m ty ks)=true:=(Wf.node (vD hv)).1;simp only[mq];refine⟨?_,RP fun t ht=>ih t ht (xL hv t ht)⟩;simp only[fG,qAa]at hnb;have hn:=hnb.2.1;simp only[tF,Tm.op,Tm.name]at hn;cases h20:op==20 with
 |true=>rw[h20]at hn;have:=ZU hn;omega
 |false=>
  rw[h20]at hn;cases hb:bC op with
  |true=>rw[hb]at hn;have:=NK hn;omega
  |false=>
   rw[hb]at hn;have:nm=[]:=beq_iff_eq.1 hn;subst this;simp
theorem XQ(t:Tm)(h:bP t=true):Ev (fun n=>fu n t) (Kc (dQ t)):=XG t h YO (CZ h)
def Aw(ats:List Tm)(cs:List Int)(c:Int):Option Fo:=bif great c ||cs.any great then none else some ⟨(fJ ats cs).1,(fJ ats cs).2,c⟩
theorem yj:∀(ats:List Tm) (cs:List Int),ats.length=cs.length→(fJ ats cs).2.any great=cs.any great
 |[],[],_=>rfl
 |a::ats,c::cs,h=>by
  rw[fJ,qBR];cases hc:c !=0 with
  |true=>simp only[cond_true,qBR];rw[yj ats cs (by simpa using h)]
  |false=>
   simp only[cond_false];have:c=0:=by simpa using hc
   subst this;rw[yj ats cs (by simpa using h),show great 0=false from rfl,qCj]
theorem aaC{f g:Fo}(hf:GoodF f)(hg:GoodF g)(k:Int):Aw (qx k (g.ats.zip g.cs) (f.ats,f.cs)).1 (qx k (g.ats.zip g.cs) (f.ats,f.cs)).2 (gZ (f.c+gZ (k*g.c)))=mU (dN f k g):=by
 have e:=add_same hf.apart k (g.ats.zip g.cs) [] f.cs (by rw[zip_fst hg.len];exact hg.apart) (fun b hb=>by cases hb);rw[qAt]at e;rw[e];obtain⟨q1,q2,q3⟩:=vH (A:=f.ats) (k:=k) (g.ats.zip g.cs) [] f.cs (by simpa using hf.apart) (by rw[zip_fst hg.len];exact hg.apart) (fun b hb=>by cases hb) (by simpa using hf.len);rw[qAt]at q2;have hd:=yj _ _ q2;unfold Aw mU;show _=bif great (dN f k g).c ||(dN f k g).cs.any great then none else some (dN f k g);have hd':(dN f k g).cs.any great=(iO f.ats k (g.ats.zip g.cs) (f.ats,f.cs)).2.any great:=hd;rw[hd'];rfl
theorem aaT(x:Int):gZ (0+gZ x)=gZ x:=by
 rw[Int.zero_add];have h: -9223372036854775808≤gZ x∧gZ x≤9223372036854775807:=by
  unfold gZ IntKind.wrap;simp only[IntKind.signed,IntKind.bits]
  grind
 exact(FK h.1 h.2).symm
theorem WM{g:Fo}(hg:GoodF g)(k:Int):Aw g.ats (g.cs.map fun c=>gZ (k*c)) (gZ (k*g.c))=mU (dN bJ k g):=by
 have e:iO bJ.ats k (g.ats.zip g.cs) (bJ.ats,bJ.cs)=(g.ats,g.cs.map fun c=>gZ (k*c)):=by
  have h:=I5 k (g.ats.zip g.cs) [] [];rw[zip_fst hg.len]at h;have h2:(g.ats.zip g.cs).map (fun p=>gZ (k*p.2))=g.cs.map fun c=>gZ (k*c):=by
   have:(g.ats.zip g.cs).map (·.2)=g.cs:=List.map_snd_zip (by rw[hg.len];exact qAq _)
   conv=>rhs;rw[←this]
   rw[qBr];rfl
  rw[h2]at h;simpa[bJ]using h
 have hl:g.ats.length=(g.cs.map fun c=>gZ (k*c)).length:=by rw[qAi];exact hg.len
 have hd:=yj _ _ hl;unfold Aw mU dN;simp only[e];rw[hd,show bJ.c=0 from rfl,aaT]
end
end Abs
end Go.Proofs.YtfmdmcenjfkbhaaGreatDoor
