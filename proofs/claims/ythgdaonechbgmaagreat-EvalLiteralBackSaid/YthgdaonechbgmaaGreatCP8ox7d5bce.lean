/-
  Valid terms: the program's functions and the document's come to the same plain answer. Conditions: names are no longer than a string may be; lemmas without a program.
-/
import Derived.Test.YthgdaonechbgmaaGreatCP2ox7ac579
set_option linter.all false
namespace Go.Proofs.YthgdaonechbgmaaGreat
namespace Abs
open Go
theorem Tm.ind{P:Tm→Prop}(h:∀k n m t ks,(∀t∈ks,P t)→P (.mk k n m t ks))(t:Tm):P t:=by
 match t with
 | .mk k n m ty ks=>exact h k n m ty ks fun u _=>Tm.ind h u
decreasing_by
 rename_i hu;have:=qCH hu
 grind
def iD(op:Int):Int:=
 cond ((op==1 ||(op==2 ||(op==19 ||(op==20 ||op==29))))) 0
  (cond ((op==3 ||(op==21 ||(decide (46≤op)&&decide (op≤52))))) 1 (cond (op==28) (-1) (cond (decide (4≤op)&&decide (op≤56)) 2 (-2))))
def bY(op:Int):Bool:=op==8 ||(op==9 ||(op==55 ||op==56))
theorem orS(a b:Bool):(cond a (some a) (some b))=some (a ||b):=by cases a<;>rfl
theorem aKF(a b:Bool):(cond a (some b) (some false))=some (a&&b):=by cases a<;>rfl
theorem axV(n:Nat)(op:Int):aed n op=some (iD op):=by
 unfold aed iD
 grind
theorem aLk(op:Int):((decide (46≤op)&&decide (op≤51)) ||op==52)=(decide (46≤op)&&decide (op≤52)):=by grind
theorem aqx(n:Nat)(op:Int):Te n op=some (cond (iD op== -2) (0,false) (iD op,true)):=by
 unfold Te iD;simp only[orS,aKF,qAb,aLk];cases h1:(op==1 ||(op==2 ||(op==19 ||(op==20 ||op==29))))with
 |true=>rfl
 |false=>
  cases h2:(op==3 ||(op==21 ||(decide (46≤op)&&decide (op≤52))))with
  |true=>rfl
  |false=>
   cases(op==28)with
   |true=>rfl
   |false=>
    simp only[qBL,beq_eq_false_iff_ne]at h1 h2;have e:(decide (1≤op)&&decide (op≤56))=(decide (4≤op)&&decide (op≤56)):=by
     by_cases h:4≤op
     ·simp[h,show 1≤op by omega]
     ·simp[h,show ¬1≤op by omega]
    rw[e];cases(decide (4≤op)&&decide (op≤56))<;>rfl
theorem aAN(n:Nat)(op:Int):FZ n op=some (bY op):=by
 unfold FZ bY
 grind
theorem abj(n:Nat)(op:Int):zM n op=some (bY op):=by
 unfold zM bY
 grind
def Qr(t:Ty):Bool:=t.kind==0&&(t.name==[]&&(t.kids.length:Int)==0)
theorem aue(n:Nat)(t:Ty):Gc n t=some (Qr t):=by
 unfold Gc Qr
 grind
theorem ams(n:Nat)(t:Ty):Mk n t=some (Qr t):=by
 unfold Mk Qr
 grind
def MO(t:Tm):Bool:=cond (t.op==20) (named t.name) (cond (bY t.op) (ident t.name) (t.name==[]))
def Yq(t:Tm):Bool:=cond (t.op==19) (decide (0≤t.n)&&decide (t.n≤1000000000)) (t.n==0)
def tyB(t:Tm):Bool:=cond (t.op==29) (bA t.ty&&t.ty.kind !=2) (Qr t.ty)
def BU(t:Tm):Bool:=!(iD t.op== -2)&&cond (iD t.op== -1) (!((t.kids.length:Int)==0)) ((t.kids.length:Int)==iD t.op)
def qV(t:Tm):Bool:=BU t&&(MO t&&(Yq t&&tyB t))
theorem azA(t:Tm)(hs:t.name.length≤9223372036854775807):Ev (fun n=>MP n t) (qV t):=by
 unfold MP qV;simp only[aqx,qAb];have hfirst:Ev (fun n=>((((cond (!(cond (iD t.op== -2) ((0:Int),false) (iD t.op,true)).2) (some (!(cond (iD t.op== -2) ((0:Int),false) (iD t.op,true)).2)) (((cond ((cond (iD t.op== -2) ((0:Int),false) (iD t.op,true)).1==(-1)) (some ((t.kids.length:Int)==0)) (some false)):Option Bool).bind fun(s6:Bool)=>(cond s6 (some s6) (cond ((cond (iD t.op== -2) ((0:Int),false) (iD t.op,true)).1 !=(-1)) (some ((t.kids.length:Int)!=(cond (iD t.op== -2) ((0:Int),false) (iD t.op,true)).1)) (some false))))):Option Bool)).bind fun(s5:Bool)=>(cond s5 (some (.rt false)) (cond (t.op==20) ((YA n t.name).bind fun(x4:Bool)=>some (.nx x4)) ((FZ n t.op).bind fun(x5:Bool)=>(cond x5 ((gX n t.name).bind fun(x6:Bool)=>some (.nx x6)) (some (.nx (t.name==([]:Str)))))))):Option (LR Bool Bool))) (cond (BU t) (.nx (MO t)) (.rt false)):=by
  refine Ev.bind (a:=!(BU t)) ?_ ?_
  ·refine Ev.of fun n=>?_;unfold BU
   grind
  ·cases BU t with
   |false=>exact Ev.ret _
   |true=>
    simp only[qAv,cond_false,cond_true,MO,aAN,qAb];cases t.op==20 with
    |true=>
     refine Ev.bind (a:=named t.name) ?_ (Ev.ret _);exact afh t.name hs
    |false=>
     cases bY t.op with
     |true=>exact Ev.bind (rM _) (Ev.ret _)
     |false=>exact Ev.ret _
 refine Ev.bind hfirst ?_;cases BU t with
 |false=>exact Ev.ret _
 |true=>
  simp only[cond_true,qAu];refine Ev.bind (a:=MO t&&Yq t) ?_ ?_
  ·unfold Yq;refine Ev.of fun n=>?_
   grind
  ·unfold tyB;cases t.op==29 with
   |true=>
    simp only[cond_true];refine Ev.bind (a:=MO t&&(Yq t&&(bA t.ty&&t.ty.kind !=2))) ?_ (Ev.ret _);cases MO t with
    |false=>exact Ev.ret _
    |true=>
     cases Yq t with
     |false=>exact Ev.ret _
     |true=>
      simp only[qAu,cond_true];cases hk:t.ty.kind !=2 with
      |false=>simp only[cond_false,qBP];exact Ev.ret _
      |true=>simp only[cond_true,qBH];exact Ev.bind (tK _) (Ev.ret _)
   |false=>
    simp only[cond_false,aue,qAb];refine Ev.of fun n=>?_;cases MO t<;>cases Yq t<;>rfl
theorem awQ(t:Tm):Ev (fun n=>adQ n t) (qV t):=by
 unfold adQ qV;simp only[axV,qAb];refine Ev.bind (a:=!(BU t)) ?_ ?_
 ·refine Ev.of fun n=>?_;unfold BU;cases h2:iD t.op== -2 with
  |true=>rfl
  |false=>
   simp only[cond_false,qAv,qBb,qAu];cases h1:iD t.op== -1 with
   |true=>
    grind
   |false=>
    have hge:decide (0≤iD t.op)=true:=by
     unfold iD at h1 h2⊢
     grind
    grind
 ·cases BU t with
  |false=>exact Ev.ret _
  |true=>
   simp only[qAv,cond_false,qAu];refine Ev.bind (a:=cond (MO t) (.nx ()) (.rt false)) ?_ ?_
   ·unfold MO;simp only[abj,qAb];cases t.op==20 with
    |true=>
     refine Ev.bind (afa _) ?_;simp only[cond_true];cases named t.name
     ·exact Ev.ret _
     ·exact Ev.ret _
    |false=>
     simp only[cond_false];cases bY t.op with
     |true=>
      refine Ev.bind (qw _) ?_;simp only[cond_true];cases ident t.name
      ·exact Ev.ret _
      ·exact Ev.ret _
     |false=>
      simp only[cond_false];cases t.name==([]:Str)
      ·exact Ev.ret _
      ·exact Ev.ret _
   ·cases MO t with
    |false=>exact Ev.ret _
    |true=>
     simp only[cond_true,qAu];refine Ev.bind (a:=!(Yq t)) ?_ ?_
     ·refine Ev.of fun n=>?_;unfold Yq;cases h19:t.op==19 with
      |true=>
       simp only[cond_true,bne,h19,qAv,cond_false];by_cases h0:t.n<0
       ·rw[decide_eq_true h0,decide_eq_false (show ¬0≤t.n by omega)];rfl
       ·rw[decide_eq_false h0,decide_eq_true (show 0≤t.n by omega)];by_cases hb:1000000000<t.n
        ·rw[decide_eq_true hb,decide_eq_false (show ¬t.n≤1000000000 by omega)];rfl
        ·rw[decide_eq_false hb,decide_eq_true (show t.n≤1000000000 by omega)];rfl
      |false=>simp only[cond_false,bne,h19,qBb,cond_true]
     ·cases Yq t with
      |false=>exact Ev.ret _
      |true=>
       simp only[qAv,cond_false,qAu];unfold tyB;cases t.op==29 with
       |true=>
        simp only[cond_true];refine Ev.bind (a:=bA t.ty&&t.ty.kind !=2) (Ev.bind (Cw _) ?_) (Ev.ret _);cases bA t.ty
        ·exact Ev.ret _
        ·exact Ev.ret _
       |false=>
        simp only[cond_false,ams,qAb];exact Ev.ret _
mutual
def mf:Tm→Int→Int→Bool×Int
 | .mk op nm m ty ks,d,c=>cond ((decide (c+1≤2000)&&decide (d≤64))&&qV (.mk op nm m ty ks)) (Cc ks (d+1) (c+1)) (false,c+1)
def Cc:List Tm→Int→Int→Bool×Int
 |[],_,c=>(true,c)
 |t::ts,d,c=>cond (mf t d c).1 (Cc ts d (mf t d c).2) (false,(mf t d c).2)
end
mutual
theorem adT:∀(t:Tm) (d c:Int),(mf t d c).1=true→c<(mf t d c).2∧(mf t d c).2≤2000
 | .mk op nm m ty ks,d,c,h=>by
  simp only[mf]at h⊢;cases hb:((decide (c+1≤2000)&&decide (d≤64))&&qV (.mk op nm m ty ks))with
  |false=>rw[hb]at h;cases h
  |true=>
   rw[hb]at h;simp only[cond_true]at h⊢;simp only[qAa,decide_eq_true_eq]at hb;have:=asb ks (d+1) (c+1) h;omega
theorem asb:∀(ts:List Tm) (d c:Int),(Cc ts d c).1=true→c≤(Cc ts d c).2∧(c≤2000→(Cc ts d c).2≤2000)
 |[],_,c,_=>by simp[Cc]
 |t::ts,d,c,h=>by
  simp only[Cc]at h⊢;cases hb:(mf t d c).1 with
  |false=>rw[hb]at h;cases h
  |true=>
   rw[hb]at h;simp only[cond_true]at h⊢;have h1:=adT t d c hb;have h2:=asb ts d _ h;exact⟨by omega,fun _=>h2.2 h1.2⟩
end
mutual
def iN:Tm→Prop
 | .mk _ nm _ _ ks=>nm.length≤9223372036854775807∧Oh ks
def Oh:List Tm→Prop
 |[]=>True
 |t::ts=>iN t∧Oh ts
end
theorem asG:∀{ts:List Tm},Oh ts→∀t∈ts,iN t
 |[],_,t,h=>by cases h
 |u::ts,h,t,ht=>by
  simp only[Oh]at h;rcases qAh.1 ht with rfl|ht
  ·exact h.1
  ·exact asG h.2 t ht
theorem az0(n:Nat)(c d:Int)(h0:0≤c)(h1:c≤2000):lS n c 2000 64 d=some (decide (c+1≤2000)&&decide (d≤64),c+1):=by
 unfold lS;rw[wrap64 (by omega) (by omega)]
 grind
def aGv(t:Tm):Prop:=iN t→∀d c:Int,1≤d→d≤65→0≤c→c≤2000→Ev (fun n=>kM n c 2000 64 t d) (mf t d c)
theorem auD(d:Int):∀(ts:List Tm) (i c:Int),0≤i→(∃j,0≤j∧(Cc ts d c).1=false∧lu (τ:=Int) (fun i x s=>cond (!(mf x d s).1) (.rt (i,(mf x d s).2)) (.nx (mf x d s).2)) (fun s=>s) i ts c=.rt (j,(Cc ts d c).2))∨((Cc ts d c).1=true∧lu (ρ:=Int×Int) (fun i x s=>cond (!(mf x d s).1) (.rt (i,(mf x d s).2)) (.nx (mf x d s).2)) (fun s=>s) i ts c=.nx (Cc ts d c).2)
 |[],i,c,_=>.inr ⟨rfl,rfl⟩
 |t::ts,i,c,hi=>by
  simp only[Cc,lu];cases hb:(mf t d c).1 with
  |false=>exact .inl ⟨i,hi,rfl,rfl⟩
  |true=>exact auD d ts (i+1) _ (by omega)
theorem axk(ts:List Tm)(h:∀t∈ts,aGv t)(hS:Oh ts)(d c:Int)(hd:1≤d)(hd6:d≤64)(h0:0≤c)(h1:c≤2000):Ev (fun n=>iR n ts c 2000 64 d) (!(Cc ts (d+1) c).1,(Cc ts (d+1) c).2):=by
 refine Ev.succ ?_;show Ev (fun n=>xZ n _ _ _ _ ts c 2000 64 d) _;have hloop:=Qk ts (fun n k i s=>Du n (lD n) (iR n) (kM n) (iU n) ts 2000 64 d k (i,s))
  (fun n i x s=>(iU n x s 2000 64 d).bind fun x2=>cond x2.1 (some (.rt (i,x2.2))) (some (.nx x2.2))) (fun i x s=>cond (!(mf x (d+1) s).1) (.rt (i,(mf x (d+1) s).2)) (.nx (mf x (d+1) s).2)) (fun s=>s) (fun _ _ s=>0≤s∧s≤2000)
  (fun n k i s=>by
   show cond _ _ _=_;congr 1;congr 1;funext x;dsimp only;cases iU n x s 2000 64 d with
   |none=>rfl
   |some b=>obtain⟨b,e⟩:=b;cases b<;>rfl)
  (fun i x suf s hx hs=>⟨by
   have hfit:Ev (fun n=>iU n x s 2000 64 d) (!(mf x (d+1) s).1,(mf x (d+1) s).2):=by
    refine Ev.succ ?_;show Ev (fun n=>uY n _ _ _ _ x s 2000 64 d) _;unfold uY;have:=h x hx (asG hS x hx) (d+1) s (by omega) (by omega) hs.1 hs.2;rw[wrap64 (by omega) (by omega)];exact Ev.bind this (Ev.ret _)
   refine Ev.bind hfit ?_;cases(mf x (d+1) s).1
   ·exact Ev.ret _
   ·exact Ev.ret _,fun s' he=>by
    cases hb:(mf x (d+1) s).1 with
    |false=>rw[hb]at he;cases he
    |true=>
     rw[hb]at he;simp at he;have:=adT x (d+1) s hb;omega⟩) (s0:=c) ⟨h0,h1⟩
 rcases auD (d+1) ts 0 c (qBD _)with⟨j,hj,hf,hr⟩|⟨ht,hr⟩
 ·rw[hr]at hloop;refine Ev.bind (a:=(j,(Cc ts (d+1) c).2)) (Ev.succ ?_) ?_
  ·show Ev (fun n=>kg n _ _ _ _ ts c 2000 64 d) _;unfold kg;exact Ev.bind hloop (Ev.ret _)
  ·rw[hf];simp only[decide_eq_true hj];exact Ev.ret _
 ·rw[hr]at hloop;refine Ev.bind (a:=(-1,(Cc ts (d+1) c).2)) (Ev.succ ?_) ?_
  ·show Ev (fun n=>kg n _ _ _ _ ts c 2000 64 d) _;unfold kg;exact Ev.bind hloop (Ev.ret _)
  ·rw[ht];exact Ev.ret _
theorem aJw:∀t:Tm,aGv t:=Tm.ind fun op nm m ty ks ih hS d c hd hd7 h0 h1=>by
 refine Ev.succ ?_;show Ev (fun n=>xI n _ _ _ _ c 2000 64 (.mk op nm m ty ks) d) _;unfold xI;simp only[az0 _ c d h0 h1,qAb,mf];cases hb:(decide (c+1≤2000)&&decide (d≤64))with
 |false=>exact Ev.ret _
 |true=>
  simp at hb;refine Ev.bind (a:=(!(qV (.mk op nm m ty ks)),c+1)) (Ev.bind (azA (.mk op nm m ty ks) hS.1) (Ev.ret _)) ?_;cases qV (.mk op nm m ty ks)with
  |false=>exact Ev.ret _
  |true=>
   refine Ev.bind (axk ks ih hS.2 d (c+1) hd hb.2 (by omega) hb.1) ?_;simp only[qCk];exact Ev.ret _
def cO(t:Tm):Bool:=(mf t 1 0).1
theorem OB(t:Tm)(hS:iN t):Ev (fun n=>J7 n t) (cO t):=by
 exact Ev.bind (aJw t hS 1 0 (by omega) (by omega) (by omega) (by omega)) (Ev.ret _)
def mt(t:Tm)(d c:Int):Int:=cond (mf t d c).1 (mf t d c).2 (-1)
def aGD(t:Tm):Prop:=∀d c:Int,1≤d→d≤65→0≤c→c≤2000→Ev (fun n=>GL n t d c) (mt t d c)
theorem avY(d:Int):∀(ts:List Tm) (c:Int),0≤c→fG (τ:=Int) (fun x s=>cond (decide (mt x d s<0)) (.rt (-1)) (.nx (mt x d s))) (fun s=>s) ts c=cond (Cc ts d c).1 (.nx (Cc ts d c).2) (.rt (-1))
 |[],c,_=>rfl
 |t::ts,c,h0=>by
  simp only[Cc,fG];by_cases hb:(mf t d c).1=true
  ·have h1:=adT t d c hb;have h2:mt t d c=(mf t d c).2:=by simp only[mt,hb,cond_true]
   have h3:decide ((mf t d c).2<0)=false:=decide_eq_false (by omega);simp only[h2,h3,hb,cond_true,cond_false];exact avY d ts (mf t d c).2 (by omega)
  ·have hb':(mf t d c).1=false:=by simpa using hb
   have h2:mt t d c= -1:=by simp only[mt,hb',cond_false]
   have h3:decide (mt t d c<0)=true:=decide_eq_true (by omega);simp only[h3,hb',cond_true,cond_false]
theorem nodes:∀t:Tm,aGD t:=Tm.ind fun op nm m ty ks ih d c hd hd7 h0 h1=>by
 refine Ev.succ ?_;show Ev (fun n=>Ox n _ (.mk op nm m ty ks) d c) _;unfold Ox;simp only[mt,mf];rw[wrap64 (by omega) (by omega)];by_cases hd6:d≤64
 case neg=>
  rw[decide_eq_true (show 64<d by omega),decide_eq_false hd6];simp only[qBP,qBk,cond_false];exact Ev.ret _
 by_cases hc:c+1≤2000
 case neg=>
  rw[decide_eq_false (show ¬64<d by omega),decide_eq_true (show 2000<c+1 by omega),decide_eq_false hc];simp only[qBk,cond_false,cond_true];exact Ev.ret _
 rw[decide_eq_false (show ¬64<d by omega),decide_eq_false (show ¬2000<c+1 by omega),decide_eq_true hd6,decide_eq_true hc];simp only[cond_false,qAu];refine Ev.bind (a:=!(qV (.mk op nm m ty ks))) (Ev.bind (awQ _) (Ev.ret _)) ?_;cases qV (.mk op nm m ty ks)with
 |false=>exact Ev.ret _
 |true=>
  simp only[qAv,cond_false,cond_true];have hloop:=V3 ks (fun n k' i s=>ae5 n (GL n) (.mk op nm m ty ks) d k' (s,i)) (fun n x s=>(GL n x (IntKind.wrap .i64 (d+1)) s).bind fun x2=>cond (decide (x2<0)) (some (.rt (-1))) (some (.nx x2)))
   (fun x s=>cond (decide (mt x (d+1) s<0)) (.rt (-1)) (.nx (mt x (d+1) s))) (fun s=>s) (fun _ s=>0≤s∧s≤2000)
   (fun n k' i s=>by
    show cond _ _ _=_;congr 1;show(idx ks i).bind _=_;congr 1;funext x;dsimp only;cases GL n x (IntKind.wrap .i64 (d+1)) s with
    |none=>rfl
    |some b=>simp only[qAb];cases decide (b<0)<;>rfl)
   (fun x suf s hx hs=>⟨by
    rw[wrap64 (by omega) (by omega)];refine Ev.bind (ih x hx (d+1) s (by omega) (by omega) hs.1 hs.2) ?_;cases decide (mt x (d+1) s<0)
    ·exact Ev.ret _
    ·exact Ev.ret _,fun s' he=>by
     cases hb:decide (mt x (d+1) s<0)with
     |true=>rw[hb]at he;cases he
     |false=>
      rw[hb]at he;simp only[cond_false,LR.nx.injEq]at he;have hneg:¬mt x (d+1) s<0:=of_decide_eq_false hb;subst he;unfold mt at hneg⊢;cases hb2:(mf x (d+1) s).1 with
      |false=>rw[hb2]at hneg;simp at hneg
      |true=>have:=adT x (d+1) s hb2;simp only[cond_true];omega⟩) (s0:=c+1) ⟨by omega,hc⟩
  rw[avY _ _ _ (by omega)]at hloop;refine Ev.bind hloop ?_;cases(Cc ks (d+1) (c+1)).1
  ·exact Ev.ret _
  ·exact Ev.ret _
def aY:Ty:=.mk 2 [] []
def fE:Ty:=.mk 1 [] []
def aR(a b:Ty):Ty:=.mk 4 [] [a,b]
inductive Good:Ty→Prop where
 |int:Good fE
 |car (nm:Str):Good (nD nm)
 |pair {a b:Ty}:Good a→Good b→Good (aR a b)
 |set {a:Ty}:Good a→Good (au a)
def Top(t:Ty):Prop:=t=aY∨Good t
mutual
theorem aEV:∀(t:Ty) (d c:Int),1<d→(pf t d c).1=true→Good t
 | .mk k nm ks,d,c,hd,h=>by
  simp only[pf]at h;cases hb:((decide (c+1≤16)&&decide (d≤6))&&fT k nm ks.length d)with
  |false=>rw[hb]at h;cases h
  |true=>
   rw[hb]at h;simp only[cond_true]at h;have hk:=agN ks (d+1) (c+1) (by omega) h;simp only[qAa,fT,decide_eq_true_eq,qBe,beq_iff_eq,qAV,qDB,beq_eq_false_iff_ne,decide_eq_false_iff_not]at hb;obtain⟨_,h2,h3,h4⟩:=hb;have hk2:k≠2:=by rcases h2 with h2|h2<;>omega
   rcases h3 with⟨h5,h6⟩|⟨h5,h6⟩|⟨h5,h6⟩
   ·have hks:ks=[]:=qAD.1 h6;subst hks;rcases h5 with rfl|rfl|rfl
    ·have:nm=[]:=by simpa using h4
     subst this;exact .int
    ·exact absurd rfl hk2
    ·exact .car nm
   ·subst h5;have:nm=[]:=by simpa using h4
    subst this
    match ks,h6,hk with
    |[a,b],_,hk=>exact .pair (hk a (by simp)) (hk b (by simp))
   ·subst h5;have:nm=[]:=by simpa using h4
    subst this
    match ks,h6,hk with
    |[a],_,hk=>exact .set (hk a (by simp))
theorem agN:∀(ts:List Ty) (d c:Int),1<d→(kK ts d c).1=true→∀t∈ts,Good t
 |[],_,_,_,_,t,ht=>by cases ht
 |u::ts,d,c,hd,h,t,ht=>by
  simp only[kK]at h;cases hb:(pf u d c).1 with
  |false=>rw[hb]at h;cases h
  |true=>
   rw[hb]at h;rcases qAh.1 ht with he|ht
   ·rw[he];exact aEV u d c hd hb
   ·exact agN ts d _ hd h t ht
end
theorem UH{t:Ty}(h:bA t=true):Top t:=by
 obtain⟨k,nm,ks⟩:=t;unfold bA at h;simp only[pf]at h;cases hb:((decide ((0:Int)+1≤16)&&decide ((1:Int)≤6))&&fT k nm ks.length 1)with
 |false=>rw[hb]at h;cases h
 |true=>
  rw[hb]at h;simp only[cond_true]at h;have hk:=agN ks (1+1) (0+1) (by omega) h;simp only[qAa,fT,decide_eq_true_eq,qBe,beq_iff_eq,qAV,qDB,beq_eq_false_iff_ne,decide_eq_false_iff_not]at hb;obtain⟨_,_,h3,h4⟩:=hb;rcases h3 with⟨h5,h6⟩|⟨h5,h6⟩|⟨h5,h6⟩
  ·have hks:ks=[]:=qAD.1 h6;subst hks;rcases h5 with rfl|rfl|rfl
   ·have:nm=[]:=by simpa using h4
    subst this;exact .inr .int
   ·have:nm=[]:=by simpa using h4
    subst this;exact .inl rfl
   ·exact .inr (.car nm)
  ·subst h5;have:nm=[]:=by simpa using h4
   subst this
   match ks,h6,hk with
   |[a,b],_,hk=>exact .inr (.pair (hk a (by simp)) (hk b (by simp)))
  ·subst h5;have:nm=[]:=by simpa using h4
   subst this
   match ks,h6,hk with
   |[a],_,hk=>exact .inr (.set (hk a (by simp)))
theorem aE0{t:Ty}(h:Good t):H9 t=true:=by
 induction h with
 |int=>rfl
 |car nm=>rfl
 |pair _ _ h1 h2=>simp[aR,H9,Vd,h1,h2]
 |set _ h1=>simp[au,H9,Vd,h1]
theorem aAH{t:Ty}(h:Top t):H9 t=true:=by
 rcases h with rfl|h
 ·rfl
 ·exact aE0 h
theorem Na{t:Ty}(h:Good t):(t.kind==2)=false:=by cases h<;>rfl
def eB(t:Ty):Option Ty:=cond (t.kind==5) t.kids.head? none
def pW(t:Ty):Option (Ty×Ty):=(eB t).bind fun p=>cond (p.kind==4) (p.kids.head?.bind fun a=>(p.kids.drop 1).head?.map fun b=>(a,b)) none
theorem ag9(a:Ty):eB (au a)=some a:=rfl
theorem aB4(a b:Ty):pW (au (aR a b))=some (a,b):=rfl
theorem DI{t:Ty}(h:Top t):(∃e,t=au e∧Good e)∨((t.kind==5)=false∧eB t=none∧pW t=none):=by
 rcases h with rfl|h
 ·exact .inr ⟨rfl,rfl,rfl⟩
 ·cases h with
  |int=>exact .inr ⟨rfl,rfl,rfl⟩
  |car nm=>exact .inr ⟨rfl,rfl,rfl⟩
  |pair _ _=>exact .inr ⟨rfl,rfl,rfl⟩
  |set h=>exact .inl ⟨_,rfl,h⟩
theorem aob{t:Ty}(h:Top t):(∃a b,t=au (aR a b)∧Good a∧Good b)∨pW t=none:=by
 rcases DI h with⟨e,rfl,he⟩|⟨_,_,h⟩
 ·cases he with
  |int=>exact .inr rfl
  |car nm=>exact .inr rfl
  |pair h1 h2=>exact .inl ⟨_,_,rfl,h1,h2⟩
  |set h=>exact .inr rfl
 ·exact .inr h
theorem jV{t e:Ty}(h:Top t)(he:eB t=some e):Good e∧t=au e:=by
 rcases DI h with⟨e',rfl,hg⟩|⟨_,h,_⟩
 ·rw[ag9]at he;cases he;exact⟨hg,rfl⟩
 ·rw[h]at he;cases he
theorem wM{t a b:Ty}(h:Top t)(he:pW t=some (a,b)):Good a∧Good b∧t=au (aR a b):=by
 rcases aob h with⟨a',b',rfl,hg⟩|h
 ·rw[aB4]at he;cases he;exact⟨hg.1,hg.2,rfl⟩
 ·rw[h]at he;cases he
def elP(o:Option Ty):Ty×Bool:=match o with|some e=>(e,true)|none=>(bH,false)
theorem acf(n:Nat){t:Ty}(h:Top t):dx n t=some (elP (eB t)):=by
 rcases DI h with⟨e,rfl,_⟩|⟨h1,h2,_⟩
 ·rfl
 ·unfold dx;rw[h2,bne,h1];rfl
def bW(b:Bool)(t:Ty):Option Ty:=cond b (some t) none
def vU(q:Int)(l:List Ty):Bool:=l.all fun x=>x.kind==q
def jT(op:Int)(l:List Ty):Option Ty:=
 let a:=l.headD bH
 let b:=(l.drop 1).headD bH
 cond (decide (op≤2)) (some aY) <|
 cond (decide (op≤7)) (bW (vU 2 l) aY) <|
 cond (decide (op≤9)) (bW ((eB a).isSome&&b.kind==2) aY) <|
 cond (decide (op≤11)) (bW (a.kind !=2&&dI a b) aY) <|
 cond (decide (op≤15)) (bW (vU 1 l) aY) <|
 cond (decide (op≤17)) ((eB b).bind fun e=>bW (dI a e) aY) <|
 cond (decide (op≤18)) (bW ((eB a).isSome&&dI a b) aY) <|
 cond (decide (op≤19)) (some fE) <|
 cond (decide (op≤26)) (bW (vU 1 l) fE) <|
 cond (decide (op≤27)) (bW (a.kind !=2&&b.kind !=2) (aR a b)) <|
 cond (decide (op≤28)) (bW (a.kind !=2&&l.all fun x=>dI x a) (au a)) <|
 cond (decide (op≤30)) (bW (vU 1 l) (au fE)) <|
 cond (decide (op≤33)) (bW ((eB a).isSome&&dI a b) a) <|
 cond (decide (op≤34)) ((eB a).bind fun x=>(eB b).map fun y=>au (aR x y)) <|
 cond (decide (op≤35)) (bW ((pW a).isSome&&dI a b) a) <|
 cond (decide (op≤36)) ((pW a).bind fun x=>(pW b).bind fun y=>bW (dI x.2 y.1) (au (aR x.1 y.2))) <|
 cond (decide (op≤38)) ((eB a).bind fun x=>(pW b).bind fun y=>bW (dI x y.1) b) <|
 cond (decide (op≤40)) ((pW a).bind fun x=>(eB b).bind fun y=>bW (dI y x.2) a) <|
 cond (decide (op≤45)) ((eB a).bind fun x=>(eB b).map fun y=>au (au (aR x y))) <|
 cond (decide (op≤46)) ((eB a).map fun x=>au (au x)) <|
 cond (decide (op≤47)) ((eB a).map fun _=>fE) <|
 cond (decide (op≤49)) ((eB a).bind fun x=>bW (x.kind==1) fE) <|
 cond (decide (op≤50)) ((pW a).map fun x=>au x.1) <|
 cond (decide (op≤51)) ((pW a).map fun x=>au x.2) <|
 cond (decide (op≤52)) ((pW a).map fun x=>au (aR x.2 x.1)) <|
 cond (decide (op≤53)) ((pW a).bind fun x=>(eB b).bind fun y=>bW (dI y x.1) (au x.2)) <|
 cond (decide (op≤54)) ((pW a).bind fun x=>bW (dI b x.1) x.2) <|
 cond (decide (op≤55)) (bW ((eB a).isSome&&b.kind==2) a) <|
 (eB a).bind fun x=>bW (b.kind !=2) (au (aR x b))
def apt(r:Ty×Bool)(o:Option Ty):Prop:=match o with|some t=>r=(t,true)|none=>r.2=false
def Row(f:Nat→Option (Ty×Bool))(o:Option Ty):Prop:=∃r,Ev f r∧apt r o
theorem Row.of{f:Nat→Option (Ty×Bool)}{o:Option Ty}(t:Ty)(b:Bool)(h:Ev f (t,b))(he:o=bW b t):Row f o:=by
 subst he;cases b
 ·exact⟨_,h,rfl⟩
 ·exact⟨_,h,rfl⟩
theorem abX{α:Type}(a:α)(l:List α):idx (a::l) 0=some a:=rfl
theorem aHy(t:Ty):Ty.mk t.kind t.name t.kids=t:=by cases t;rfl
theorem arR(a b:Ty):dI a b=true↔a=b:=⟨nU a b,fun h=>h▸Ux a⟩
theorem azQ(a b:Ty):dI a b=dI b a:=by
 rw[qCe,arR,arR]
 grind
theorem aBl(l:List Ty)(k:Int)(nm:Str)(ks:List Ty)(q:Int):Row (fun n=>aZ n l k nm ks q) (bW (vU q l) (.mk k nm ks)):=by
 refine Row.of (.mk k nm ks) (vU q l) ?_ rfl;refine Ev.bind (a:=l.any fun x=>x.kind !=q) (Ev.bind (vo l (fun n k i=>Bw n l q k i) (fun _ x=>some (x.kind !=q)) (fun x=>x.kind !=q) (fun n k i=>rfl) (fun x _=>Ev.ret _)) ?_) ?_
 ·rw[mO _ _ _ (qBD _)];exact Ev.ret _
 ·have:(!(l.any fun x=>x.kind !=q))=vU q l:=by
   unfold vU
   grind
  rw[this];exact Ev.ret _
theorem atc(a:Ty)(l:List Ty):Ev (fun n=>oW n (a::l)) (a.kind !=2&&(a::l).all fun x=>dI x a):=by
 unfold oW sQ vR;simp only[abX,qAb];cases a.kind !=2 with
 |false=>exact Ev.ret _
 |true=>
  simp;refine Ev.bind (a:=(a::l).any fun x=>!(dI x a)) (Ev.bind (vo (a::l) (fun n k i=>Bj n (a::l) (a::l) k i) (fun n x=>DU n x (a::l)) (fun x=>!(dI x a)) (fun n k i=>rfl) (fun x _=>?_)) ?_) ?_
  ·unfold DU;simp only[abX,qAb];exact Ev.bind (QK x a) (Ev.ret _)
  ·rw[mO _ _ _ (qBD _)];exact Ev.ret _
  ·rw[qm,qCk];exact Ev.ret _
theorem azD(a b:Ty):Ev (fun n=>oW n [a,b]) (a.kind !=2&&dI a b):=by
 have:=atc a [b];simp only[qBC,List.all_nil,qBH,Ux]at this;rwa[azQ b a]at this
theorem aFc{a:Ty}(l:List Ty):Row (fun n=>AX n (a::l)) (bW (a.kind !=2&&(a::l).all fun x=>dI x a) (au a)):=by
 unfold AX;simp only[abX,qAb];exact .of (au a) _ (Ev.bind (atc a l) (Ev.ret _)) rfl
theorem shapes{t:Ty}(h:Top t):t=aY∨t=fE∨(∃s,t=nD s)∨(∃x y,t=aR x y)∨t=au fE∨(∃s,t=au (nD s))∨(∃x y,t=au (aR x y))∨∃x,t=au (au x):=by
 rcases h with rfl|h
 ·exact .inl rfl
 cases h with
 |int=>exact .inr (.inl rfl)
 |car s=>exact .inr (.inr (.inl ⟨s,rfl⟩))
 |pair _ _=>exact .inr (.inr (.inr (.inl ⟨_,_,rfl⟩)))
 |set h=>
  cases h with
  |int=>exact .inr (.inr (.inr (.inr (.inl rfl))))
  |car s=>exact .inr (.inr (.inr (.inr (.inr (.inl ⟨s,rfl⟩)))))
  |pair _ _=>exact .inr (.inr (.inr (.inr (.inr (.inr (.inl ⟨_,_,rfl⟩))))))
  |set _=>exact .inr (.inr (.inr (.inr (.inr (.inr (.inr ⟨_,rfl⟩))))))
theorem CO(t:Ty)(b:Bool):apt (t,b) (bW b t):=by cases b<;>rfl
def aBg(f:Nat→Option (Bool×Int×Str×(List Ty)))(o:Option Ty):Prop:=∃r,Ev f r∧(match o with|some t=>r=(true,t.kind,t.name,t.kids)|none=>r.1=false)
theorem Row.c{f:Nat→Option (Ty×Bool)}{o:Option Ty}(h:Row f o):aBg (fun n=>(f n).bind fun x=>some (x.2,x.1.kind,x.1.name,x.1.kids)) o:=by
 obtain⟨r,h1,h2⟩:=h;refine⟨_,Ev.bind h1 (Ev.ret _),?_⟩;cases o with
 |none=>exact h2
 |some t=>have h2:r=(t,true):=h2;subst h2;rfl
def rc(x:Ty×Bool):Option (Bool×Int×Str×(List Ty)):=some (x.2,x.1.kind,x.1.name,x.1.kids)
def chn{α:Type}(op:Int):Int→List (Option α)→Option α
 |_,[]=>none
 |i,x::r=>cond (op==i) x (chn op (i+1) r)
def aqC(n:Nat)(op:Int)(l:List Ty):Option (Bool×Int×Str×(List Ty)):=
 chn op 0 [none,rc (aY,true),rc (aY,true),(aZ n l 2 [] [] 2).bind rc,(aZ n l 2 [] [] 2).bind rc,(aZ n l 2 [] [] 2).bind rc,(aZ n l 2 [] [] 2).bind rc,(aZ n l 2 [] [] 2).bind rc,(wZ n l).bind rc,(wZ n l).bind rc,(Bf n l).bind rc,(Bf n l).bind rc,(aZ n l 2 [] [] 1).bind rc,(aZ n l 2 [] [] 1).bind rc,(aZ n l 2 [] [] 1).bind rc,(aZ n l 2 [] [] 1).bind rc,(Bu n l).bind rc,(Bu n l).bind rc,(Ka n l).bind rc,rc (fE,true),none,(aZ n l 1 [] [] 1).bind rc,(aZ n l 1 [] [] 1).bind rc,(aZ n l 1 [] [] 1).bind rc,(aZ n l 1 [] [] 1).bind rc,(aZ n l 1 [] [] 1).bind rc,(aZ n l 1 [] [] 1).bind rc,(Oj n l).bind rc,(AX n l).bind rc,none,(aZ n l 5 [] [fE] 1).bind rc,(o7 n l).bind rc,(o7 n l).bind rc,(o7 n l).bind rc,(Lc n l).bind rc,(yU n l).bind rc,(y9 n l).bind rc,(Bz n l).bind rc,(Bz n l).bind rc,(nR n l).bind rc,(nR n l).bind rc,(jL n l).bind rc,(jL n l).bind rc,(jL n l).bind rc,(jL n l).bind rc,(jL n l).bind rc,(GN n l).bind rc,(G5 n l).bind rc,(vB n l).bind rc,(vB n l).bind rc,(zl n l).bind rc,(yI n l).bind rc,(yS n l).bind rc,(y5 n l).bind rc,(yD n l).bind rc,(JJ n l).bind rc,(L9 n l).bind rc]
theorem awe{op:Int}(h1:1≤op)(h2:op≤56):op=1∨op=2∨op=3∨op=4∨op=5∨op=6∨op=7∨op=8∨op=9∨op=10∨op=11∨op=12∨op=13∨op=14∨op=15∨op=16∨op=17∨op=18∨op=19∨op=20∨op=21∨op=22∨op=23∨op=24∨op=25∨op=26∨op=27∨op=28∨op=29∨op=30∨op=31∨op=32∨op=33∨op=34∨op=35∨op=36∨op=37∨op=38∨op=39∨op=40∨op=41∨op=42∨op=43∨op=44∨op=45∨op=46∨op=47∨op=48∨op=49∨op=50∨op=51∨op=52∨op=53∨op=54∨op=55∨op=56:=by omega
theorem aj7{α:Type}(l:List α)(h:(l.length:Int)=1):∃a,l=[a]:=by
 match l,h with
 |[a],_=>exact⟨a,rfl⟩
theorem Dz{α:Type}(l:List α)(h:(l.length:Int)=2):∃a b,l=[a,b]:=by
 match l,h with
 |[a,b],_=>exact⟨a,b,rfl⟩
theorem LH{α:Type}(l:List α)(h:l≠[]):∃a m,l=a::m:=by
 match l,h with
 |a::m,_=>exact⟨a,m,rfl⟩
structure LenOk(op:Int)(l:List Ty):Prop where
 one:iD op=1→(l.length:Int)=1
 two:iD op=2→(l.length:Int)=2
 some:iD op= -1→l≠[]
def asV(op:Int)(l:List Ty):Prop:=aBg (fun n=>aqC n op l) (jT op l)
theorem aEF{op:Int}(ho:op=46∨op=47∨op=48∨op=49∨op=50∨op=51∨op=52){a:Ty}(ha:Top a):asV op [a]:=by
 have E:=QK;rcases ho with rfl|rfl|rfl|rfl|rfl|rfl|rfl<;>rcases shapes ha with rfl|rfl|⟨_,rfl⟩|⟨_,_,rfl⟩|rfl|⟨_,rfl⟩|⟨_,_,rfl⟩|⟨_,rfl⟩<;>exact⟨_,Ev.ret _,rfl⟩
theorem aGQ{op:Int}(ho:op=8∨op=9∨op=27∨op=34∨op=41∨op=42∨op=43∨op=44∨op=45∨op=55∨op=56){a b:Ty}(ha:Top a)(hb:Top b)(hs:bY op=true→(eB a).isSome=true):asV op [a,b]:=by
 rcases ho with rfl|rfl|rfl|rfl|rfl|rfl|rfl|rfl|rfl|rfl|rfl<;>rcases shapes ha with rfl|rfl|⟨_,rfl⟩|⟨_,_,rfl⟩|rfl|⟨_,rfl⟩|⟨_,_,rfl⟩|⟨_,rfl⟩<;>first|exact absurd (hs rfl) Bool.false_ne_true|(rcases shapes hb with rfl|rfl|⟨_,rfl⟩|⟨_,_,rfl⟩|rfl|⟨_,rfl⟩|⟨_,_,rfl⟩|⟨_,rfl⟩<;>exact⟨_,Ev.ret _,rfl⟩)
theorem aGE{op:Int}(ho:op=10∨op=11∨op=18∨op=31∨op=32∨op=33∨op=35∨op=54){a b:Ty}(ha:Top a):asV op [a,b]:=by
 have E:=QK;have A:=azD;rcases ho with rfl|rfl|rfl|rfl|rfl|rfl|rfl|rfl<;>rcases shapes ha with rfl|rfl|⟨_,rfl⟩|⟨_,_,rfl⟩|rfl|⟨_,rfl⟩|⟨_,_,rfl⟩|⟨_,rfl⟩<;>first|exact⟨_,Ev.ret _,rfl⟩|(refine Row.c ?_;apply Exists.intro;apply And.intro;(repeat' first|exact Ev.ret _|exact E _ _|exact A _ _|apply Ev.bind);exact CO _ _)
theorem aGr{op:Int}(ho:op=16∨op=17){a b:Ty}(hb:Top b):asV op [a,b]:=by
 have E:=QK;rcases ho with rfl|rfl<;>rcases shapes hb with rfl|rfl|⟨_,rfl⟩|⟨_,_,rfl⟩|rfl|⟨_,rfl⟩|⟨_,_,rfl⟩|⟨_,rfl⟩<;>first|exact⟨_,Ev.ret _,rfl⟩|(refine Row.c ?_;apply Exists.intro;apply And.intro;(repeat' first|exact Ev.ret _|exact E _ _|apply Ev.bind);exact CO _ _)
theorem aHu{op:Int}(ho:op=36∨op=37∨op=38∨op=39∨op=40∨op=53){a b:Ty}(ha:Top a)(hb:Top b):asV op [a,b]:=by
 have E:=QK;rcases ho with rfl|rfl|rfl|rfl|rfl|rfl<;>rcases shapes ha with rfl|rfl|⟨_,rfl⟩|⟨_,_,rfl⟩|rfl|⟨_,rfl⟩|⟨_,_,rfl⟩|⟨_,rfl⟩<;>rcases shapes hb with rfl|rfl|⟨_,rfl⟩|⟨_,_,rfl⟩|rfl|⟨_,rfl⟩|⟨_,_,rfl⟩|⟨_,rfl⟩<;>first|exact⟨_,Ev.ret _,rfl⟩|(refine Row.c ?_;apply Exists.intro;apply And.intro;(repeat' first|exact Ev.ret _|exact E _ _|apply Ev.bind);exact CO _ _)
theorem ay8{op:Int}(h1:1≤op)(h2:op≤56)(h20:op≠20)(h29:op≠29){l:List Ty}(hl:∀t∈l,Top t)(hn:LenOk op l)(hb:bY op=true→(eB (l.headD bH)).isSome=true):aBg (fun n=>aqC n op l) (jT op l):=by
 rcases awe h1 h2 with rfl|rfl|rfl|rfl|rfl|rfl|rfl|rfl|rfl|rfl|rfl|rfl|rfl|rfl|rfl|rfl|rfl|rfl|rfl|rfl|rfl|rfl|rfl|rfl|rfl|rfl|rfl|rfl|rfl|rfl|rfl|rfl|rfl|rfl|rfl|rfl|rfl|rfl|rfl|rfl|rfl|rfl|rfl|rfl|rfl|rfl|rfl|rfl|rfl|rfl|rfl|rfl|rfl|rfl|rfl|rfl<;>first
 |exact absurd rfl h20
 |exact absurd rfl h29
 |exact⟨_,Ev.ret _,rfl⟩
 |exact Row.c (aBl l _ _ _ _)
 |(obtain⟨a,rfl⟩:=aj7 l (hn.one rfl);exact aEF (by decide) (hl a (by simp)))
 |(obtain⟨a,b,rfl⟩:=Dz l (hn.two rfl)
   have ha:=hl a (by simp);have hb':=hl b (by simp)
   first|exact aGQ (by decide) ha hb' hb|exact aGE (by decide) ha|exact aGr (by decide) hb'|exact aHu (by decide) ha hb')
 |(obtain⟨a,l,rfl⟩:=LH l (hn.some rfl);exact Row.c (aFc l))
theorem aD0{α σ τ ρ:Type}(l:List α)(L:Nat→Nat→Int→σ→Option (LR τ ρ))(step:Nat→Int→α→σ→Option (LR σ ρ))(st:Int→α→σ→LR σ ρ)(fin:σ→τ)(I:Int→List α→σ→Prop)
  (h0:∀n k s,L n (k+1) (l.length:Int) s=some (.nx (fin s)))
  (h1:∀n k i x s,idx l i=some x→decide (i<(l.length:Int))=true→L n (k+1) i s=(step n i x s).bind (LR.el (fun s'=>L n k (i+1) s') (fun r=>some (.rt r))))
  (hI:∀i x suf s,x∈l→I i (x::suf) s→idx l i=some x→Ev (fun n=>step n i x s) (st i x s)∧∀s',st i x s=.nx s'→I (i+1) suf s') {s0:σ} (hs0:I 0 l s0):Ev (fun n=>L n n 0 s0) (lu st fin 0 l s0):=by
 have key:∀(suf pre:List α) (s:σ),l=pre++suf→I (pre.length:Int) suf s→∃N,∀n,N≤n→∀k,suf.length+1≤k→L n k (pre.length:Int) s=some (lu st fin (pre.length:Int) suf s):=by
  intro suf
  induction suf with
  |nil=>
   intro pre s hl _;refine⟨0,fun n _ k hk=>?_⟩;cases k with
   |zero=>simp at hk
   |succ k=>
    have e:pre.length=l.length:=by rw[hl];simp
    rw[e,h0];rfl
  |cons x suf ih=>
   intro pre s hl hIs;have hx:idx l (pre.length:Int)=some x:=by rw[hl];exact gJ pre x suf
   obtain⟨⟨N1,k1⟩,k2⟩:=hI _ x suf s (by rw[hl];simp) hIs hx;replace k1:∀n,N1≤n→step n (pre.length:Int) x s=some (st (pre.length:Int) x s):=k1;have hi:decide ((pre.length:Int)<(l.length:Int))=true:=decide_eq_true (by rw[hl];simp;omega);cases hs:st (pre.length:Int) x s with
   |rt r=>
    refine⟨N1,fun n hn k hk=>?_⟩;cases k with
    |zero=>simp at hk
    |succ k=>
     rw[h1 n k _ x s hx hi,k1 n hn,hs];simp[lu,hs]
   |nx s'=>
    have h3:=k2 s' hs;have e:((pre++[x]).length:Int)=(pre.length:Int)+1:=by simp
    obtain⟨N2,h4⟩:=ih (pre++[x]) s' (by rw[hl];simp) (by rw[e];exact h3);refine⟨max N1 N2,fun n hn k hk=>?_⟩;cases k with
    |zero=>simp at hk
    |succ k=>
     rw[h1 n k _ x s hx hi,k1 n (by omega),hs];simp only[qAb,LR.el];have:=h4 n (by omega) k (by simp at hk;omega);rw[e]at this;rw[this];simp[lu,hs]
 obtain⟨N,hN⟩:=key l [] s0 rfl hs0;exact⟨max N (l.length+1),fun n hn=>hN n (by omega) n (by omega)⟩
def Wf(d:Int)(t:Tm):Prop:=∃c,0≤c∧(mf t d c).1=true
theorem avQ:∀(ts:List Tm) (d c:Int),0≤c→(Cc ts d c).1=true→c+ts.length≤(Cc ts d c).2∧∀t∈ts,Wf d t
 |[],_,c,_,_=>by simp[Cc]
 |t::ts,d,c,h0,h=>by
  simp only[Cc]at h⊢;cases hb:(mf t d c).1 with
  |false=>rw[hb]at h;cases h
  |true=>
   rw[hb]at h;simp only[cond_true]at h⊢;have h1:=adT t d c hb;obtain⟨h2,h3⟩:=avQ ts d _ (by omega) h;refine⟨by simp only[qAp];omega,fun u hu=>?_⟩;rcases qAh.1 hu with rfl|hu
   ·exact⟨_,h0,hb⟩
   ·exact h3 u hu
theorem Wf.node{op:Int}{nm:Str}{m:Int}{ty:Ty}{ks:List Tm}{d:Int}(h:Wf d (.mk op nm m ty ks)):qV (.mk op nm m ty ks)=true∧d≤64∧ks.length≤2000∧∀t∈ks,Wf (d+1) t:=by
 obtain⟨c,h0,h⟩:=h;simp only[mf]at h;cases hb:((decide (c+1≤2000)&&decide (d≤64))&&qV (.mk op nm m ty ks))with
 |false=>rw[hb]at h;cases h
 |true=>
  rw[hb]at h;obtain⟨h1,h2⟩:=avQ _ _ _ (by omega) h;have h3:=asb ks _ _ h
  grind
theorem sP{t:Tm}(h:cO t=true):Wf 1 t:=⟨0,by omega,h⟩
theorem axS{op:Int}(h:(iD op== -2)=false):1≤op∧op≤56:=by
 by_cases hr:1≤op∧op≤56
 ·exact hr
 ·exfalso;have e:iD op= -2:=by
   unfold iD
   grind
  grind
theorem UW{op:Int}{nm:Str}{m:Int}{ty:Ty}{ks:List Tm}(h:qV (.mk op nm m ty ks)=true):(1≤op∧op≤56)∧(op=20→ks=[])∧(op=29→ks=[]∧bA ty=true∧(ty.kind==2)=false)∧(∀l:List Ty,l.length=ks.length→LenOk op l)∧(bY op=true→∃x y,ks=[x,y]):=by
 simp only[qV,qAa,BU,Tm.op,Tm.kids,qAV]at h;obtain⟨⟨h1,h2⟩,_,_,h5⟩:=h;have hlen:∀q:Int,iD op=q→(q== -1)=false→(ks.length:Int)=q:=fun q e hq=>by
  grind
 have hnil:iD op=0→ks=[]:=fun e=>by
  simp_all
 refine⟨axS h1,fun e=>hnil (by subst e;rfl),fun e=>⟨hnil (by subst e;rfl),?_⟩,fun l hl=>⟨fun e=>by rw[hl];exact hlen 1 e rfl,fun e=>by rw[hl];exact hlen 2 e rfl,fun e=>?_⟩,fun hb=>?_⟩
 ·subst e;have h5':(bA ty&&ty.kind !=2)=true:=h5
  grind
 ·grind
 ·have:iD op=2:=by
   simp only[bY,qBe,beq_iff_eq]at hb;rcases hb with rfl|rfl|rfl|rfl<;>rfl
  obtain⟨x,y,e⟩:=Dz ks (hlen 2 this rfl)
  grind
inductive TR where
 |ok (t:Ty)
 |er (e:Int) (p:List Int)
inductive KR where
 |ok (l:List Ty)
 |er (e:Int) (p:List Int)
def nJ(env:Env)(sc:List Decl)(s:Str):Option Ty:=match sc.find? (fun d=>d.name==s)with|some d=>some d.ty|none=>look env s
def rJ(o:Option Ty):TR:=match o with|some t=>cond (bA t) (.ok t) (.er 5 [])|none=>.er 7 []
def knows(env:Env)(t:Ty):Bool:=(dX t).all (dP env)
def qc(b:Bool)(nm:Str)(ty:Ty)(sc:List Decl):Option (List Decl):=cond b ((eB ty).map fun e=>⟨nm,e⟩::sc) (some sc)
mutual
def bX(env:Env):List Decl→Tm→TR
 |sc,.mk op nm _ ty ks=>
  cond (op==20) (match nJ env sc nm with|some t=>.ok t|none=>.er 6 [])
   (cond (op==29&&!(knows env ty)) (.er 6 [])
    (match bV env sc (bY op) nm 0 ks with
     | .er e p=>.er e p
     | .ok l=>rJ (cond (op==29) (some (au ty)) (jT op l))))
def bV(env:Env):List Decl→Bool→Str→Int→List Tm→KR
 |_,_,_,_,[]=>.ok []
 |sc,b,nm,i,t::ts=>match bX env sc t with
  | .er e p=>.er e (i::p)
  | .ok ty=>match qc b nm ty sc with
   |none=>.er 7 []
   |some sc'=>match bV env sc' false nm (i+1) ts with
    | .er e p=>.er e p
    | .ok l=>.ok (ty::l)
end
def GoodS(sc:List Decl):Prop:=∀d∈sc,Good d.ty
theorem aun{t:Ty}(h:bA t=true)(hb:zU 2 t=false):Good t:=by
 rcases UH h with rfl|h
 ·cases hb
 ·exact h
theorem azO{env:Env}(h:aW env=true){s:Str}{t:Ty}(ht:look env s=some t):Good t:=by
 rw[Ae h]at ht;rcases qAr.1 ht with ht|ht
 ·obtain⟨c,hc,ht⟩:=qBx.1 ht;rcases qAh.1 ht with ht|ht
  ·cases ht;exact .set (.car _)
  ·obtain⟨e,_,he⟩:=qAJ.1 ht;cases he;exact .car _
 ·obtain⟨d,hd,he⟩:=qAJ.1 ht;cases he;obtain⟨_,h1,h2,_⟩:=Po h hd;exact aun h1 h2
theorem Yx{env:Env}(h:aW env=true){sc:List Decl}(hs:GoodS sc){s:Str}{t:Ty}(ht:nJ env sc s=some t):Good t:=by
 unfold nJ at ht;cases hf:sc.find? (fun d=>d.name==s)with
 |some d=>rw[hf]at ht;cases ht;exact hs d (List.mem_of_find?_eq_some hf)
 |none=>rw[hf]at ht;exact azO h ht
theorem Qu{o:Option Ty}{t:Ty}(h:rJ o=.ok t):o=some t∧bA t=true:=by
 cases o with
 |none=>cases h
 |some u=>
  simp only[rJ]at h
  grind
theorem auI{o:Option Ty}{e:Int}{p:List Int}(h:rJ o=.er e p):e≠0∧p=[]:=by
 cases o with
 |none=>cases h;exact⟨by decide,rfl⟩
 |some u=>
  simp only[rJ]at h
  grind
theorem Pq{b:Bool}{nm:Str}{ty:Ty}{sc sc':List Decl}(ht:Top ty)(hs:GoodS sc)(h:qc b nm ty sc=some sc'):GoodS sc':=by
 unfold qc at h;cases b with
 |false=>cases h;exact hs
 |true=>
  cases he:eB ty with
  |none=>rw[he]at h;cases h
  |some e=>
   rw[he]at h;cases h;intro d hd;rcases qAh.1 hd with rfl|hd
   ·exact(jV ht he).1
   ·exact hs d hd
theorem sV{env:Env}(h:aW env=true){t:Tm}{sc:List Decl}(hs:GoodS sc){ty:Ty}(ht:bX env sc t=.ok ty):Top ty:=by
 obtain⟨op,nm,m,u,ks⟩:=t;simp only[bX]at ht;cases h20:(op==20)with
 |true=>
  rw[h20]at ht;cases hl:nJ env sc nm with
  |none=>rw[hl]at ht;cases ht
  |some t=>rw[hl]at ht;cases ht;exact .inr (Yx h hs hl)
 |false=>
  rw[h20]at ht;cases h29:(op==29&&!(knows env u))with
  |true=>rw[h29]at ht;cases ht
  |false=>
   rw[h29]at ht;cases hk:bV env sc (bY op) nm 0 ks with
   |er e p=>rw[hk]at ht;cases ht
   |ok l=>rw[hk]at ht;exact UH (Qu ht).2
theorem akY{env:Env}(h:aW env=true):∀(ts:List Tm) (sc:List Decl) (b:Bool) (nm:Str) (i:Int) (l:List Ty),GoodS sc→bV env sc b nm i ts=.ok l→l.length=ts.length∧(∀t∈l,Top t)∧(b=true→ts≠[]→(eB (l.headD bH)).isSome=true)
 |[],sc,b,nm,i,l,_,hk=>by
  simp only[bV]at hk;cases hk;exact⟨rfl,fun t ht=>(by cases ht),fun _ h=>absurd rfl h⟩
 |t::ts,sc,b,nm,i,l,hs,hk=>by
  simp only[bV]at hk;cases ht:bX env sc t with
  |er e p=>rw[ht]at hk;cases hk
  |ok ty=>
   rw[ht]at hk;simp only at hk;have htop:=sV h hs ht;cases hb:qc b nm ty sc with
   |none=>rw[hb]at hk;cases hk
   |some sc'=>
    rw[hb]at hk;simp only at hk;cases hr:bV env sc' false nm (i+1) ts with
    |er e p=>rw[hr]at hk;cases hk
    |ok l'=>
     rw[hr]at hk;cases hk;obtain⟨h1,h2,_⟩:=akY h ts sc' false nm (i+1) l' (Pq htop hs hb) hr;refine⟨by simp[h1],fun u hu=>?_,fun hbt _=>?_⟩
     ·rcases qAh.1 hu with rfl|hu
      ·exact htop
      ·exact h2 u hu
     ·subst hbt;show(eB ty).isSome=true;unfold qc at hb;cases he:eB ty with
      |none=>rw[he]at hb;cases hb
      |some e=>rfl
mutual
theorem IG{env:Env}:∀(t:Tm) (sc:List Decl) (e:Int) (p:List Int),bX env sc t=.er e p→e≠0
 | .mk op nm m u ks,sc,e,p,h=>by
  simp only[bX]at h;cases h20:(op==20)with
  |true=>
   rw[h20]at h;simp only[cond_true]at h;cases hl:nJ env sc nm with
   |none=>rw[hl]at h;cases h;decide
   |some t=>rw[hl]at h;cases h
  |false=>
   rw[h20]at h;simp only[cond_false]at h;cases h29:(op==29&&!(knows env u))with
   |true=>rw[h29]at h;cases h;decide
   |false=>
    rw[h29]at h;simp only[cond_false]at h;cases hk:bV env sc (bY op) nm 0 ks with
    |er e' p'=>rw[hk]at h;cases h;exact auB ks sc _ nm 0 _ _ hk
    |ok l=>rw[hk]at h;exact(auI h).1
theorem auB{env:Env}:∀(ts:List Tm) (sc:List Decl) (b:Bool) (nm:Str) (i:Int) (e:Int) (p:List Int),bV env sc b nm i ts=.er e p→e≠0
 |[],sc,b,nm,i,e,p,h=>by simp only[bV]at h;cases h
 |t::ts,sc,b,nm,i,e,p,h=>by
  simp only[bV]at h;cases ht:bX env sc t with
  |er e' p'=>rw[ht]at h;cases h;exact IG t sc _ _ ht
  |ok ty=>
   rw[ht]at h;simp only at h;cases hb:qc b nm ty sc with
   |none=>rw[hb]at h;cases h;decide
   |some sc'=>
    rw[hb]at h;simp only at h;cases hr:bV env sc' false nm (i+1) ts with
    |er e' p'=>rw[hr]at h;cases h;exact auB ts sc' false nm _ _ _ hr
    |ok l'=>rw[hr]at h;cases h
end
mutual
theorem ab0{env:Env}:∀{t:Tm} {d:Int} (_:Wf d t) (sc:List Decl) (e:Int) (p:List Int),bX env sc t=.er e p→(p.length:Int)+d≤64
 | .mk op nm m u ks,d,hw,sc,e,p,h=>by
  obtain⟨_,hd,_,hkw⟩:=hw.node;simp only[bX]at h;cases h20:(op==20)with
  |true=>
   rw[h20]at h;simp only[cond_true]at h;cases hl:nJ env sc nm with
   |none=>rw[hl]at h;cases h;simpa using hd
   |some t=>rw[hl]at h;cases h
  |false=>
   rw[h20]at h;simp only[cond_false]at h;cases h29:(op==29&&!(knows env u))with
   |true=>rw[h29]at h;cases h;simpa using hd
   |false=>
    rw[h29]at h;simp only[cond_false]at h;cases hk:bV env sc (bY op) nm 0 ks with
    |er e' p'=>rw[hk]at h;cases h;exact amS ks d hd hkw sc _ nm 0 _ _ hk
    |ok l=>rw[hk]at h;rw[(auI h).2];simpa using hd
theorem amS{env:Env}:∀(ts:List Tm) (d:Int) (_:d≤64) (_:∀t∈ts,Wf (d+1) t) (sc:List Decl) (b:Bool) (nm:Str) (i:Int) (e:Int) (p:List Int),bV env sc b nm i ts=.er e p→(p.length:Int)+d≤64
 |[],d,_,_,sc,b,nm,i,e,p,h=>by simp only[bV]at h;cases h
 |t::ts,d,hd,hw,sc,b,nm,i,e,p,h=>by
  simp only[bV]at h;cases ht:bX env sc t with
  |er e' p'=>
   rw[ht]at h;cases h;have:=ab0 (hw t (qBB ..)) sc _ _ ht;simp only[qAp,qCP,qCQ];omega
  |ok ty=>
   rw[ht]at h;simp only at h;cases hb:qc b nm ty sc with
   |none=>rw[hb]at h;cases h;simpa using hd
   |some sc'=>
    rw[hb]at h;simp only at h;cases hr:bV env sc' false nm (i+1) ts with
    |er e' p'=>rw[hr]at h;cases h;exact amS ts d hd (fun u hu=>hw u (qAk _ hu)) sc' false nm _ _ _ hr
    |ok l'=>rw[hr]at h;cases h
end
theorem adn(n:Nat)(p0:Env)(p1:List Int)(k:Nat)(s:Int):Pk n p0 p1 (k+1) s=Me n p0 p1 (Pk n p0 p1 k) s:=rfl
theorem J2(n:Nat)(qbz:Env→(List Int)→Val→Ty→Option Bool)(qb0:(List Ty)→Int→Int→Str→(List Val)→(List Carrier)→(List Decl)→(List Int)→Option Bool)(p0:List Ty)(p4:List Val)(p5:List Carrier)(p6:List Decl)(p7:List Int)(k:Nat)(s:Int):Ba n qbz qb0 p0 p4 p5 p6 p7 (k+1) s=yX n qbz qb0 p0 p4 p5 p6 p7 (Ba n qbz qb0 p0 p4 p5 p6 p7 k) s:=rfl
theorem Oo(n:Nat)(qbz:Env→(List Int)→Val→Ty→Option Bool)(qb0:(List Ty)→Int→Int→Str→(List Val)→(List Carrier)→(List Decl)→(List Int)→Option Bool)(p2:Val)(k:Nat)(s:Int):FR n qbz qb0 p2 (k+1) s=DN n qbz qb0 p2 (FR n qbz qb0 p2 k) s:=rfl
theorem Nr(n:Nat)(p0:Env)(p1:List Int)(k:Nat)(s:Int):zW n p0 p1 (k+1) s=yu n p0 p1 (zW n p0 p1 k) s:=rfl
theorem aqB(c:Carrier)(l:List Int)(i:Int)(s:Int)(h:idx l i=some s):(((idx l i).bind fun(x2:Int)=>(cond (decide (x2<1)) (some true) ((idx l i).bind fun(x3:Int)=>(cond (decide (8<x3)) (some true) (cond (decide (0<(c.elems.length:Int))) ((idx l i).bind fun(x4:Int)=>some (x4 !=(c.elems.length:Int))) (some false)))))):Option Bool)=some (abf c s):=by
 simp only[abf]
 grind
theorem arI(n:Nat)(nm:List Decl):∀(cs:List Carrier) (ss:List Int) (pc:List Carrier) (ps:List Int),pc.length=ps.length→cs.length=ss.length→∀k,cs.length+1≤k→zW n ⟨pc++cs,nm⟩ (ps++ss) k (pc.length:Int)=some (cond (J4 cs ss) (.nx ()) (.rt false))
 |[],ss,pc,ps,hp,hl,k,hk=>by
  obtain⟨j,rfl⟩:∃j,k=j+1:=⟨k - 1,by simp at hk;omega⟩;rw[Nr];unfold yu;rw[decide_eq_false (by simp)];rfl
 |c::cs,[],pc,ps,hp,hl,k,hk=>by simp at hl
 |c::cs,s::ss,pc,ps,hp,hl,k,hk=>by
  obtain⟨j,rfl⟩:∃j,k=j+1:=⟨k - 1,by simp at hk;omega⟩;have hi:idx (ps++s::ss) (pc.length:Int)=some s:=by rw[hp];exact gJ _ _ _
  have ih:=arI n nm cs ss (pc++[c]) (ps++[s]) (by simp[hp]) (by simpa using hl) j (by simp at hk;omega);rw[Nr];unfold yu;rw[decide_eq_true (by simp;omega)];simp only[cond_true];rw[gJ];simp only[qAb];rw[aqB c _ _ s hi];simp only[qAb,J4];cases hb:abf c s with
  |true=>rfl
  |false=>
   simp;rw[show(pc.length:Int)+1=((pc++[c]).length:Int) by simp];simpa using ih
theorem amR(n:Nat)(nm:List Decl):∀(cs:List Carrier) (ss:List Int) (pc:List Carrier) (ps:List Int),pc.length=ps.length→cs.length=ss.length→∀k,cs.length+1≤k→Pk n ⟨pc++cs,nm⟩ (ps++ss) k (pc.length:Int)=some (cond (J4 cs ss) (.nx ()) (.rt false))
 |[],ss,pc,ps,hp,hl,k,hk=>by
  obtain⟨j,rfl⟩:∃j,k=j+1:=⟨k - 1,by simp at hk;omega⟩;have:ss=[]:=qAD.1 (by simpa using hl.symm);subst this;rw[adn];unfold Me;rw[decide_eq_false (by simp[hp])];rfl
 |c::cs,[],pc,ps,hp,hl,k,hk=>by simp at hl
 |c::cs,s::ss,pc,ps,hp,hl,k,hk=>by
  obtain⟨j,rfl⟩:∃j,k=j+1:=⟨k - 1,by simp at hk;omega⟩;have hi:idx (ps++s::ss) (pc.length:Int)=some s:=by rw[hp];exact gJ _ _ _
  have ih:=amR n nm cs ss (pc++[c]) (ps++[s]) (by simp[hp]) (by simpa using hl) j (by simp at hk;omega);rw[adn];unfold Me;rw[decide_eq_true (by simp;omega)];simp only[cond_true];rw[gJ];simp only[qAb];rw[aqB c _ _ s hi];simp only[qAb,J4];cases hb:abf c s with
  |true=>rfl
  |false=>
   simp;rw[show(pc.length:Int)+1=((pc++[c]).length:Int) by simp];simpa using ih
theorem af4(env:Env)(sz:List Int):Ev (fun n=>Bh n env sz) (uj env sz):=by
 unfold Bh uj;cases h:((sz.length:Int)!=(env.carriers.length:Int))with
 |true=>exact Ev.ret _
 |false=>
  simp at h;refine Ev.bind (a:=cond (J4 env.carriers sz) (.nx ()) (.rt false)) ⟨env.carriers.length+1,fun n hn=>?_⟩ ?_
  ·have:=arI n env.names env.carriers sz [] [] rfl (by omega) n hn
   simp_all
  ·cases J4 env.carriers sz<;>exact Ev.ret _
theorem av2(env:Env)(sz:List Int):Ev (fun n=>VG n env sz) (uj env sz):=by
 unfold VG uj;cases h:((sz.length:Int)!=(env.carriers.length:Int))with
 |true=>exact Ev.ret _
 |false=>
  simp at h;refine Ev.bind (a:=cond (J4 env.carriers sz) (.nx ()) (.rt false)) ⟨env.carriers.length+1,fun n hn=>?_⟩ ?_
  ·have:=amR n env.names env.carriers sz [] [] rfl (by omega) n hn
   simp_all
  ·cases J4 env.carriers sz<;>exact Ev.ret _
inductive Shp:Ty→Prop where
 |int:Shp (.mk 1 [] [])
 |bool:Shp (.mk 2 [] [])
 |car (nm:Str):Shp (.mk 3 nm [])
 |pair {a b:Ty} (h:Shp a) (k:Shp b):Shp (.mk 4 [] [a,b])
 |set {a:Ty} (h:Shp a):Shp (.mk 5 [] [a])
mutual
theorem aAg:∀(t:Ty) (d c:Int),(pf t d c).1=true→Shp t
 | .mk k nm ks,d,c,h=>by
  simp only[pf]at h;cases hb:((decide (c+1≤16)&&decide (d≤6))&&fT k nm ks.length d)with
  |false=>rw[hb]at h;cases h
  |true=>
   rw[hb]at h;simp only[cond_true]at h;have hs:=au9 ks (d+1) (c+1) h;simp only[fT,qAa,qBe,beq_iff_eq]at hb;obtain⟨_,_,hk,hn⟩:=hb;rcases hk with⟨hk,hl⟩|⟨rfl,hl⟩|⟨rfl,hl⟩
   ·have:ks=[]:=qAD.1 hl;subst this;rcases hk with rfl|rfl|rfl
    ·have:nm=[]:=by simpa using hn
     subst this;exact .int
    ·have:nm=[]:=by simpa using hn
     subst this;exact .bool
    ·exact .car nm
   ·have:nm=[]:=by simpa using hn
    subst this
    match ks,hl with
    |[a,b],_=>exact .pair (hs a (by simp)) (hs b (by simp))
   ·have:nm=[]:=by simpa using hn
    subst this
    match ks,hl with
    |[a],_=>exact .set (hs a (by simp))
theorem au9:∀(ks:List Ty) (d c:Int),(kK ks d c).1=true→∀t∈ks,Shp t
 |[],_,_,_,_,ht=>by cases ht
 |k::ks,d,c,h,t,ht=>by
  simp only[kK]at h;cases h1:(pf k d c).1 with
  |false=>rw[h1]at h;cases h
  |true=>
   rw[h1]at h;simp only[cond_true]at h;rcases qAh.1 ht with h2|ht
   ·have h3:=aAg k d c h1;rw[h2];exact h3
   ·exact au9 ks d _ h t ht
end
theorem PY{t:Ty}(h:bA t=true):Shp t:=aAg t 1 0 h
theorem arx(env:Env)(s:Str):Ev (fun n=>Pz n env s) (dR (fun c=>c.name==s) 0 env.carriers):=by
 refine Ev.bind (vo env.carriers (fun n k i=>wY n env.carriers s k i) (fun _ x=>some (x.name==s)) (fun c=>c.name==s) (fun n k i=>rfl) (fun x _=>Ev.ret _)) (Ev.ret _)
theorem ave{env:Env}{sz:List Int}{nm:Str}(hl:sz.length=env.carriers.length)(h:dP env nm=true):0≤dR (fun c=>c.name==nm) 0 env.carriers∧idx sz (dR (fun c=>c.name==nm) 0 env.carriers)=some (He env sz nm):=by
 have hg:=mO (fun c:Carrier=>c.name==nm) env.carriers 0 (qBD _);have hany:env.carriers.any (fun c=>c.name==nm)=true:=h;rw[hany]at hg;have h0:0≤dR (fun c:Carrier=>c.name==nm) 0 env.carriers:=by simpa using hg
 rcases Dw (fun c:Carrier=>c.name==nm) env.carriers []with⟨x,_,_,g1,g2⟩|⟨_,g⟩
 ·simp at g1 g2;unfold He;unfold idx at g2⊢
  grind
 grind
theorem aqJ(p2:Val):∀(suf pre:List Val) (x:Val),p2.kids=pre++[x]++suf→p2.kids.length≤256→∃N,∀n,N≤n→∀k,suf.length+1≤k→∀r1 r2,FR n r1 r2 p2 k ((pre++[x]).length:Int)=some (cond (Fp (x::suf)) (.nx ()) (.rt false))
 |[],pre,x,e,hl=>by
  refine⟨0,fun n _ k hk r1 r2=>?_⟩;obtain⟨j,rfl⟩:∃j,k=j+1:=⟨k - 1,by simp at hk;omega⟩;rw[Oo];unfold DN;rw[decide_eq_false (by rw[e];simp)];rfl
 |y::suf,pre,x,e,hl=>by
  obtain⟨N1,h1⟩:=Eu x y;obtain⟨N2,h2⟩:=aqJ p2 suf (pre++[x]) y (by rw[e];simp) hl;refine⟨N1+N2,fun n hn k hk r1 r2=>?_⟩;obtain⟨j,rfl⟩:∃j,k=j+1:=⟨k - 1,by simp at hk;omega⟩;have h1:dY n x y=_:=h1 n (by omega);have h2:=h2 n (by omega) j (by simp at hk;omega) r1 r2;have hlen:pre.length+1≤256:=by rw[e]at hl;simp at hl;omega
  have ew:IntKind.wrap .i64 (((pre++[x]).length:Int) - 1)=(pre.length:Int):=by
   rw[qAe,qAI,wrap64 (by omega) (by omega)];omega
  have i1:idx p2.kids (pre.length:Int)=some x:=by rw[e,qAm,qCF];exact gJ _ _ _
  have i2:idx p2.kids ((pre++[x]).length:Int)=some y:=by rw[e];exact gJ _ _ _
  rw[Oo];unfold DN;rw[decide_eq_true (by rw[e];simp;omega),ew,i1,i2];simp only[cond_true,qAb];rw[h1];simp only[qAb,Fp];cases decide (0≤bQ x y)with
  |true=>rfl
  |false=>
   simp only[cond_false,qBb,qAu];rw[show((pre++[x]).length:Int)+1=((pre++[x]++[y]).length:Int) by simp only[qAe,qAI];omega];exact h2
theorem anQ(env:Env)(sz:List Int)(t:Ty)(H:∀v,Ev (fun n=>kN n env sz v t) (hasB env sz t v)):∀(suf pre:List Val),∃N,∀n,N≤n→∀k,suf.length+1≤k→Ba n (kN n) (wF n) [t] (pre++suf) env.carriers env.names sz k (pre.length:Int)=some (cond (suf.all fun v=>hasB env sz t v) (.nx ()) (.rt false))
 |[],pre=>by
  refine⟨0,fun n _ k hk=>?_⟩;obtain⟨j,rfl⟩:∃j,k=j+1:=⟨k - 1,by simp at hk;omega⟩;rw[J2];unfold yX;rw[decide_eq_false (by simp)];rfl
 |v::suf,pre=>by
  obtain⟨N1,h1⟩:=H v;obtain⟨N2,h2⟩:=anQ env sz t H suf (pre++[v]);refine⟨N1+N2,fun n hn k hk=>?_⟩;obtain⟨j,rfl⟩:∃j,k=j+1:=⟨k - 1,by simp at hk;omega⟩;have h1:kN n env sz v t=_:=h1 n (by omega);have h2:=h2 n (by omega) j (by simp at hk;omega);have i2:idx [t] (if(([t].length:Int) - 1)<(pre.length:Int)then(([t].length:Int) - 1)else(pre.length:Int))=some t:=by
   simp only[qAI];have:(if(((1:Nat):Int) - 1)<(pre.length:Int)then(((1:Nat):Int) - 1)else(pre.length:Int))=0:=by split<;>omega
   rw[this];rfl
  rw[J2];unfold yX;rw[decide_eq_true (by simp;omega),gJ,i2];simp only[cond_true,qAb];rw[show kN n (Env.mk env.carriers env.names) sz v t=kN n env sz v t from rfl,h1];simp only[qAb,qBC];cases hasB env sz t v with
  |false=>rfl
  |true=>
   simp only[qAv,cond_false,qAu];rw[show(pre.length:Int)+1=((pre++[v]).length:Int) by simp];simpa using h2
theorem aEr(env:Env)(sz:List Int)(t u:Ty)(a b:Val)(k n:Int)(s:Str)(H1:Ev (fun n=>kN n env sz a t) (hasB env sz t a))(H2:Ev (fun n=>kN n env sz b u) (hasB env sz u b)):Ev (fun m=>wF m [t,u] k n s [a,b] env.carriers env.names sz) (Zk env sz [t,u] [a,b]):=by
 refine Ev.succ ?_;obtain⟨N1,h1⟩:=H1;obtain⟨N2,h2⟩:=H2;refine⟨N1+N2+3,fun m hm=>?_⟩;have h1:kN m (Env.mk env.carriers env.names) sz a t=_:=h1 m (by omega);have h2:kN m (Env.mk env.carriers env.names) sz b u=_:=h2 m (by omega);show wQ m _ _ [t,u] k n s [a,b] env.carriers env.names sz=_;unfold wQ;obtain⟨j,hj⟩:∃j,m=j+3:=⟨m - 3,by omega⟩;have e1:Ba m (kN m) (wF m) [t,u] [a,b] env.carriers env.names sz (j+3) 0=some (cond (Zk env sz [t,u] [a,b]) (.nx ()) (.rt false)):=by
  have i0:idx [t,u] (if(((([t,u]:List Ty)).length:Int) - 1)<0 then((([t,u]:List Ty).length:Int) - 1)else 0)=some t:=rfl;have i1:idx [t,u] (if(((([t,u]:List Ty)).length:Int) - 1)<0+1 then((([t,u]:List Ty).length:Int) - 1)else 0+1)=some u:=rfl;simp only[J2,yX,show idx [a,b] 0=some a from rfl,show idx [a,b] (0+1)=some b from rfl,Zk]
  grind
 grind
theorem ayM(env:Env)(sz:List Int)(hl:sz.length=env.carriers.length):∀{t:Ty},Shp t→(dX t).all (dP env)=true→∀v,Ev (fun n=>kN n env sz v t) (hasB env sz t v):=by
 intro t h
 induction h with
 |int=>
  intro _ v;refine Ev.succ ?_;show Ev (fun n=>ko n _ _ env sz v (.mk 1 [] [])) _;unfold ko;refine Ev.pos rfl ?_;refine Ev.bind (a:=acs v) ?_ (Ev.ret _);unfold acs;cases v.kind==1<;>cases decide ((-1000000000)≤v.n)<;>cases decide (v.n≤1000000000)<;>cases v.name==[]<;>cases(v.kids.length:Int)==0<;>exact Ev.ret _
 |bool=>
  intro _ v;refine Ev.succ ?_;show Ev (fun n=>ko n _ _ env sz v (.mk 2 [] [])) _;unfold ko;refine Ev.neg rfl ?_;refine Ev.pos rfl ?_;refine Ev.bind (a:=abw v) ?_ (Ev.ret _);unfold abw;cases v.kind==2<;>cases v.n==0<;>cases v.n==1<;>cases v.name==[]<;>cases(v.kids.length:Int)==0<;>exact Ev.ret _
 |car nm=>
  intro hc v;have hc:dP env nm=true:=by simpa[dX]using hc
  obtain⟨g1,g2⟩:=ave hl hc;refine Ev.succ ?_;show Ev (fun n=>ko n _ _ env sz v (.mk 3 nm [])) _;unfold ko;refine Ev.neg rfl ?_;refine Ev.neg rfl ?_;refine Ev.pos rfl ?_;refine Ev.bind (arx env nm) ?_;refine Ev.bind (a:=OD env sz nm v) ?_ (Ev.ret _);simp only[decide_eq_true g1,cond_true,g2,qAb,Ty.name];unfold OD;cases v.kind==3<;>cases v.name==nm<;>cases decide (0≤v.n)<;>cases decide (v.n<He env sz nm)<;>cases(v.kids.length:Int)==0<;>exact Ev.ret _
 |@pair a b ha hb iha ihb=>
  intro hc v;simp only[dX,jG,qAt,show((4:Int)==3)=false from rfl,cond_false,qEa,qAa]at hc;refine Ev.succ ?_;show Ev (fun n=>ko n _ _ env sz v (.mk 4 [] [a,b])) _;unfold ko;refine Ev.neg rfl ?_;refine Ev.neg rfl ?_;refine Ev.neg rfl ?_;refine Ev.pos rfl ?_;refine Ev.bind (a:=hasB env sz (.mk 4 [] [a,b]) v) ?_ (Ev.ret _);simp only[hasB,show((4:Int)==1)=false from rfl,show((4:Int)==2)=false from rfl,show((4:Int)==3)=false from rfl,show((4:Int)==4)=true from rfl,cond_false,cond_true,Ty.kids];cases v.kind==4 with
  |false=>exact Ev.ret _
  |true=>
   cases v.n==0 with
   |false=>exact Ev.ret _
   |true=>
    cases v.name==[]with
    |false=>exact Ev.ret _
    |true=>
     cases h2:(v.kids.length:Int)==2 with
     |false=>exact Ev.ret _
     |true=>
      simp only[cond_true,qAu];obtain⟨k,n,s,ks⟩:=v;simp only[Val.kids,beq_iff_eq]at h2
      match ks,h2 with
      |[x,y],_=>exact Ev.bind (aEr env sz a b x y k n s (iha hc.1 x) (ihb hc.2 y)) (Ev.ret _)
 |@set a ha iha=>
  intro hc v;simp only[dX,jG,qAt,show((5:Int)==3)=false from rfl,cond_false]at hc;have H:=iha hc;refine Ev.succ ?_;show Ev (fun n=>ko n _ _ env sz v (.mk 5 [] [a])) _;unfold ko;refine Ev.neg rfl ?_;refine Ev.neg rfl ?_;refine Ev.neg rfl ?_;refine Ev.neg rfl ?_;refine Ev.pos rfl ?_;simp only[hasB,show((5:Int)==1)=false from rfl,show((5:Int)==2)=false from rfl,show((5:Int)==3)=false from rfl,show((5:Int)==4)=false from rfl,cond_false,Ty.kids];have e1:(v.kind !=5)=!(v.kind==5):=rfl;have e2:(v.n !=0)=!(v.n==0):=rfl;rw[e1,e2];cases v.kind==5 with
  |false=>refine Ev.bind (a:=true) (Ev.ret _) ?_;exact Ev.ret _
  |true=>
   cases v.n==0 with
   |false=>refine Ev.bind (a:=true) (Ev.ret _) ?_;exact Ev.ret _
   |true=>
    cases v.name==[]with
    |false=>refine Ev.bind (a:=true) (Ev.ret _) ?_;exact Ev.ret _
    |true=>
     cases h256:decide (256<(v.kids.length:Int))with
     |true=>refine Ev.bind (a:=true) (Ev.ret _) ?_;exact Ev.ret _
     |false=>
      have hlen:v.kids.length≤256:=by simp at h256;omega
      have hk:Ev (fun n=>wF n [a] v.kind v.n v.name v.kids env.carriers env.names sz) (v.kids.all fun v=>hasB env sz a v):=by
       obtain⟨N,h⟩:=anQ env sz a H v.kids [];refine Ev.succ ?_;refine⟨N+v.kids.length+1,fun n hn=>?_⟩;have:=h n (by omega) n (by omega);simp only[qAo,qAA]at this;show wQ n _ _ [a] v.kind v.n v.name v.kids env.carriers env.names sz=_;unfold wQ;rw[show((0:Nat):Int)=0 from rfl]at this;rw[this];cases(v.kids.all fun v=>hasB env sz a v)<;>rfl
      simp only[qAv,cond_false,qBb,qAu,awR];refine Ev.bind (Ev.bind hk (Ev.ret _)) ?_;cases(v.kids.all fun v=>hasB env sz a v)with
      |false=>exact Ev.ret _
      |true=>
       simp only[qAv,cond_false,qAu];refine Ev.bind (a:=cond (Fp v.kids) (.nx ()) (.rt false)) ?_ (by cases Fp v.kids<;>exact Ev.ret _);cases hks:v.kids with
       |nil=>
        refine⟨1,fun n hn=>?_⟩;obtain⟨j,rfl⟩:∃j,n=j+1:=⟨n - 1,by omega⟩;show FR (j+1) _ _ v (j+1) 1=_;rw[Oo];unfold DN;rw[decide_eq_false (by rw[hks];simp)];rfl
       |cons x xs=>
        obtain⟨N,h⟩:=aqJ v xs [] x (by rw[hks];rfl) hlen;refine⟨N+xs.length+1,fun n hn=>?_⟩;have:=h n (by omega) n (by omega) (kN n) (wF n);exact this
def EH(env:Env):List (Str×Ty):=gI (wK env) []
def Bc(env:Env):List (Str×Bool):=gI (env.carriers.map fun c=>(c.name,true)) []
theorem arv{env:Env}(h:aW env=true)(s:Str):dn (EH env) s=look env s:=by
 unfold EH;rw[QV _ _ _ (DJ h),Oe];unfold look;rw[←aiS (ah1 env) (DJ h)]
 grind
theorem atq{env:Env}(h:aW env=true)(s:Str):dn (Bc env) s=cond (dP env s) (some true) none:=by
 unfold Bc;have hn:((env.carriers.map fun c=>(c.name,true)).map (·.1)).Nodup:=by
  have:=(iJ h).2.2.2.2;unfold names2 at this
  grind
 rw[QV _ _ _ hn,Oe,UQ (fun c:Carrier=>c.name) (fun _=>true)];unfold dP;cases hf:env.carriers.find? (fun c=>c.name==s)with
 |none=>
  grind
 |some c=>
  grind
theorem aoL{env:Env}(h:aW env=true):Ev (fun n=>FB n env) (EH env,Bc env):=by
 obtain⟨hc8,_⟩:=iJ h;refine Ev.bind (aBb h) ?_;have h1:=oZ (ρ:=(List (Str×Ty))×(List (Str×Bool))) env.carriers (fun n k i s=>Kc n env k (i,s)) (fun n x s=>yG s x.name true) (fun x s=>lJ s x.name true) (fun s=>s) (fun suf s=>s.length+suf.length≤1000)
  (fun n k i s=>rfl)
  (fun x suf s hx hs=>by
   simp at hs;refine⟨?_,?_⟩
   ·rw[LX (by omega)];exact Ev.ret _
   ·have:=Dh s x.name true;omega) (s0:=[]) (by simp;omega)
 have hf:∀(cs:List Carrier) (m:List (Str×Bool)),cs.foldl (fun s x=>lJ s x.name true) m=gI (cs.map fun c=>(c.name,true)) m:=by
  intro cs
  induction cs with
  |nil=>intro m;rfl
  |cons e es ih=>intro m;rw[qBg,ih];rfl
 rw[hf]at h1;exact Ev.bind h1 (Ev.ret _)
theorem aCM{env:Env}(h:aW env=true){t:Ty}(ht:bA t=true)(M:List (Str×Ty))(path:List Int):Ev (fun n=>tO n M (Bc env) path t) (knows env t):=by
 refine Ev.bind (CK ht) ?_;generalize hl:((gI ((dX t).map fun s=>(s,true)) []).map (·.1)).mergeSort leS=l;have hm:∀s,s∈l↔s∈dX t:=fun s=>by rw[←hl];exact RQ t s
 have hf:=vo l (fun n k i=>xX n l M (Bc env) path k i) (fun n x=>qN n x M (Bc env) path) (fun s=>!(dP env s)) (fun n k i=>rfl) (fun x _=>by
  unfold qN;rw[atq h];cases dP env x
  ·exact Ev.ret _
  ·exact Ev.ret _)
 refine Ev.bind (a:=l.any fun s=>!(dP env s)) (Ev.bind hf ?_) ?_
 ·rw[mO _ _ _ (qBD _)];exact Ev.ret _
 ·rw[qm,qCk];have:l.all (dP env)=(dX t).all (dP env):=by
   grind
  rw[this];exact Ev.ret _
theorem ahg(n:Nat)(op:Int):Bg n op=some (bY op):=by
 unfold Bg bY
 grind
theorem ajA(t:Ty):Ev (fun n=>uH n t) (cond (bA t) (t,0) (bH,5)):=by
 refine Ev.bind (tK t) ?_;cases bA t
 ·exact Ev.ret _
 ·exact Ev.ret _
def scP(o:Option Decl):Ty×Bool:=match o with|some d=>(d.ty,true)|none=>(bH,false)
theorem akx(sc:List Decl)(s:Str):Ev (fun n=>vF n sc s) (scP (sc.find? fun d=>d.name==s)):=by
 have key:∀(sc:List Decl) (n k:Nat),sc.length+1≤k→qL n s k sc=some (match sc.find? (fun d=>d.name==s)with|some d=>.rt (d.ty,true)|none=>.nx ()):=by
  intro sc
  induction sc with
  |nil=>
   intro n k hk;cases k with
   |zero=>simp at hk
   |succ k=>rfl
  |cons d sc ih=>
   intro n k hk;cases k with
   |zero=>simp at hk
   |succ k=>
    show cond (d.name==s) (some (.rt (d.ty,true))) (qL n s k sc)=_
    grind
 have h1:Ev (fun n=>qL n s n sc) (match sc.find? (fun d=>d.name==s)with|some d=>.rt (d.ty,true)|none=>.nx ()):=⟨sc.length+1,fun n hn=>key sc n n hn⟩;refine Ev.bind h1 ?_;cases sc.find? fun d=>d.name==s
 ·exact Ev.ret _
 ·exact Ev.ret _
def VB(path:List Int)(r:TR):Ty×Int×List Int:=match r with| .ok t=>(t,0,path)| .er e p=>(bH,e,path++p)
abbrev CS:=List Decl×List Ty×List Int
def aIO(env:Env)(n:Nat)(t:Tm)(i:Int)(s:CS):Option (LR CS (Ty×Int×List Int)):=(j6 n (EH env) (Bc env) s.2.2 t i s.1).bind fun(x57:Ty×Int×(List Int))=>(cond (x57.2.1 !=0) (some (.rt ((Ty.mk 0 ([]:Str) ([])),x57.2.1,x57.2.2))) ((app 48 s.2.1 ([x57.1])).bind fun(x58:List Ty)=>(((cond (i==0) ((Bg n t.op).bind fun(x60:Bool)=>some x60) (some false)):Option Bool).bind fun(s6:Bool)=>(cond s6 ((dx n x57.1).bind fun(x59:Ty×Bool)=>(cond (!x59.2) (some (.rt ((Ty.mk 0 ([]:Str) ([])),7,x57.2.2))) (some (.nx (((Decl.mk t.name x59.1)::s.1),x58,x57.2.2))))) (some (.nx (s.1,x58,x57.2.2)))))))
def stC(env:Env)(op:Int)(nm:Str)(i:Int)(x:Tm)(s:CS):LR CS (Ty×Int×List Int):=match bX env s.1 x with
 | .er e p=>.rt (bH,e,s.2.2++i::p)
 | .ok ty=>match qc (i==0&&bY op) nm ty s.1 with
  |none=>.rt (bH,7,s.2.2)
  |some sc'=>.nx (sc',s.2.1++[ty],s.2.2)
theorem avu(env:Env)(op:Int)(nm:Str):∀(ts:List Tm) (i:Int) (sc:List Decl) (acc:List Ty) (path:List Int),0≤i→(match bV env sc (i==0&&bY op) nm i ts with
  | .er e p=>lu (stC env op nm) (fun s=>s) i ts (sc,acc,path)=.rt (bH,e,path++p)
  | .ok l=>∃sc',lu (stC env op nm) (fun s=>s) i ts (sc,acc,path)=.nx (sc',acc++l,path))
 |[],i,sc,acc,path,_=>by
  simp only[bV,lu,qAt];exact⟨sc,rfl⟩
 |t::ts,i,sc,acc,path,hi=>by
  simp only[bV,lu,stC];cases ht:bX env sc t with
  |er e p=>rfl
  |ok ty=>
   simp only;cases hb:qc (i==0&&bY op) nm ty sc with
   |none=>simp
   |some sc'=>
    simp only;have hz:(i+1==0)=false:=by simp only[beq_eq_false_iff_ne];omega
    have:=avu env op nm ts (i+1) sc' (acc++[ty]) path (by omega);rw[hz,qBk]at this;cases hr:bV env sc' false nm (i+1) ts with
    |er e p=>rw[hr]at this;exact this
    |ok l=>
     rw[hr]at this;obtain⟨sc2,h2⟩:=this;exact⟨sc2,by rw[h2];simp⟩
def aAj(env:Env)(t:Tm):Prop:=∀(d:Int) (sc:List Decl) (path:List Int),Wf d t→GoodS sc→(path.length:Int)<d→Ev (fun n=>mP n (EH env) (Bc env) path t sc) (VB path (bX env sc t))
theorem aAM(path:List Int)(i:Int)(h:path.length≤1000):((FJ (path++[i]).length (((path++[i]).length:Int) - 1)).bind fun(c:Nat)=>bif Nat.ble c (path++[i]).length then some (List.take c (path++[i]))else none)=some path:=by
 have e:((path++[i]).length:Int) - 1=(path.length:Int):=by simp
 have h2:Nat.ble path.length (path++[i]).length=true:=qCI (by simp);rw[e,FJ,if_pos ⟨by omega,by simp;omega⟩]
 grind
theorem aBm{env:Env}{t x:Tm}{i:Int}(hx:idx t.kids i=some x)(hc:aAj env x){d:Int}{sc:List Decl}{path:List Int}(hw:Wf (d+1) x)(hs:GoodS sc)(hp:(path.length:Int)<d)(hd:d≤64):
  Ev (fun n=>j6 n (EH env) (Bc env) path t i sc) (match bX env sc x with| .ok ty=>(ty,0,path)| .er e p=>(bH,e,path++i::p)):=by
 refine Ev.succ ?_;show Ev (fun n=>ug n _ _ (EH env) (Bc env) path t i sc) _;unfold ug;rw[qh (by simp;omega) (by omega),hx];simp;refine Ev.bind (hc (d+1) sc (path++[i]) hw hs (by simp;omega)) ?_;cases ht:bX env sc x with
 |ok ty=>
  simp only[VB];rw[aAM path i (by omega)];exact Ev.ret _
 |er e p=>
  have he:=IG x sc e p ht;have e0:(e==0)=false:=by simpa using he
  simp only[VB,e0,qAm];exact Ev.ret _
theorem aCg(n:Nat)(r1:(List (Str×Ty))→(List (Str×Bool))→(List Int)→Tm→(List Decl)→Option (Ty×Int×(List Int)))(r2:(List (Str×Ty))→(List (Str×Bool))→(List Int)→Tm→Int→(List Decl)→Option (Ty×Int×(List Int)))(p0:List (Str×Ty))(p1:List (Str×Bool))(p2:List Int)(p3:Tm)(p4:List Decl):
  xK n r1 r2 p0 p1 p2 p3 p4=((Au n r1 r2 p0 p1 p3 n (p4,([]:List Ty),0,p2)).bind (LR.el (fun(s2:(List Decl)×(List Ty)×(List Int))=>(cond (p3.op==20) ((vF n s2.1 p3.name).bind fun(x1:Ty×Bool)=>(cond x1.2 (some (x1.1,0,s2.2.2)) (((mel (dn p0 p3.name) (some (false,0,([]:Str),([]:List Ty))) (fun(x2:Ty)=>some (true,x2.kind,x2.name,x2.kids))):Option (Bool×Int×Str×(List Ty))).bind fun(s3:Bool×Int×Str×(List Ty))=>(cond (!s3.1) (some ((Ty.mk 0 ([]:Str) ([])),6,s2.2.2)) (some ((Ty.mk s3.2.1 s3.2.2.1 s3.2.2.2),0,s2.2.2)))))) (cond (p3.op==29) ((tO n p0 p1 s2.2.2 p3.ty).bind fun(x3:Bool)=>(cond (!x3) (some ((Ty.mk 0 ([]:Str) ([])),6,s2.2.2)) ((uH n (Ty.mk 5 ([]:Str) ([p3.ty]))).bind fun(x4:Ty×Int)=>some (x4.1,x4.2,s2.2.2)))) ((aqC n p3.op s2.2.1).bind fun(s4:Bool×Int×Str×(List Ty))=>(cond (!s4.1) (some ((Ty.mk 0 ([]:Str) ([])),7,s2.2.2)) ((uH n (Ty.mk s4.2.1 s4.2.2.1 s4.2.2.2)).bind fun(x5:Ty×Int)=>some (x5.1,x5.2,s2.2.2))))))) (fun r=>some r))):=rfl
theorem aGC{env:Env}(hv:aW env=true):∀t:Tm,aAj env t:=Tm.ind fun op nm m ty ks ih d sc path hw hs hp=>by
 obtain⟨hnode,hd,hks,hkw⟩:=hw.node;obtain⟨hop,h20k,h29k,hlen,hbk⟩:=UW hnode;refine Ev.succ ?_;show Ev (fun n=>xK n (mP n) (j6 n) (EH env) (Bc env) path (.mk op nm m ty ks) sc) _;simp only[aCg];have hloop:=aD0 ks (fun n k i (s:CS)=>Au n (mP n) (j6 n) (EH env) (Bc env) (.mk op nm m ty ks) k (s.1,s.2.1,i,s.2.2))
  (fun n i _ s=>aIO env n (.mk op nm m ty ks) i s) (stC env op nm) (fun s=>s) (fun _ suf s=>GoodS s.1∧s.2.1.length+suf.length≤2000∧s.2.2=path)
  (fun n k s=>by
   show cond (decide ((ks.length:Int)<(ks.length:Int))) _ _=_;rw[decide_eq_false (by omega)];rfl)
  (fun n k i x s hx hi=>by
   show cond (decide (i<(ks.length:Int))) _ _=_;rw[hi];rfl)
  (fun i x suf s hx hI hidx=>by
   obtain⟨h1,h2,h3⟩:=hI;simp only[qAp]at h2;have hch:=aBm (t:=.mk op nm m ty ks) (i:=i) hidx (ih x hx) (hkw x hx) h1 (path:=s.2.2) (by rw[h3];exact hp) hd;refine⟨?_,fun s' hs'=>?_⟩
   ·refine Ev.bind hch ?_;unfold stC;cases ht:bX env s.1 x with
    |er e p=>
     have he:=IG x s.1 e p ht;have e0:(e !=0)=true:=by simpa using he
     simp only[e0,cond_true];exact Ev.ret _
    |ok u=>
     have htop:=sV hv h1 ht;simp only[show((0:Int)!=0)=false from rfl,cond_false];rw[qh (by simp;omega) (by omega)];simp only[qAb,ahg,Tm.op,Tm.name];refine Ev.bind (a:=(i==0&&bY op)) ?_ ?_
     ·cases i==0
      ·exact Ev.ret _
      ·exact Ev.ret _
     ·unfold qc;cases(i==0&&bY op)with
      |false=>exact Ev.ret _
      |true=>
       simp only[cond_true,acf _ htop,qAb];cases eB u with
       |none=>exact Ev.ret _
       |some e=>exact Ev.ret _
   ·unfold stC at hs';cases ht:bX env s.1 x with
    |er e p=>rw[ht]at hs';cases hs'
    |ok u=>
     rw[ht]at hs';simp only at hs';cases hb:qc (i==0&&bY op) nm u s.1 with
     |none=>rw[hb]at hs';cases hs'
     |some sc'=>
      rw[hb]at hs';cases hs';refine⟨Pq (sV hv h1 ht) h1 hb,?_,h3⟩;simp only[qAe,qAI];omega) (s0:=(sc,[],path)) ⟨hs,by simp;omega,rfl⟩
 have hrun:=avu env op nm ks 0 sc [] path (qBD _);simp only[show((0:Int)==0)=true from rfl,qAu,qAo]at hrun;simp only[bX];cases h20:(op==20)with
 |true=>
  have e:op=20:=by simpa using h20
  have hk:=h20k e;subst hk;refine Ev.bind hloop ?_;simp only[lu,LR.el,Tm.op,Tm.name,h20,cond_true];refine Ev.bind (akx sc nm) ?_;unfold nJ;cases sc.find? (fun d=>d.name==nm)with
  |some d=>exact Ev.ret _
  |none=>
   simp only[scP,cond_false,cond_true,Tm.name,arv hv];cases hl:look env nm with
   |none=>simp only[VB,qAt];exact Ev.ret _
   |some t=>obtain⟨a,b,c⟩:=t;exact Ev.ret _
 |false=>
  simp only[cond_false];cases h29:(op==29)with
  |true=>
   have e:op=29:=by simpa using h29
   obtain⟨hk,hvt,_⟩:=h29k e;subst hk;refine Ev.bind hloop ?_;simp only[Tm.op,h20,h29,cond_false,cond_true,Tm.ty];refine Ev.bind (aCM hv hvt _ _) ?_;cases knows env ty with
   |false=>simp only[qBb,qBH,cond_true,VB,qAt];exact Ev.ret _
   |true=>
    simp only[qAv,qBP,cond_false,bV,rJ];refine Ev.bind (ajA (au ty)) ?_;cases bA (au ty)with
    |false=>simp only[cond_false,VB,qAt];exact Ev.ret _
    |true=>exact Ev.ret _
  |false=>
   simp only[qBk,cond_false];cases hk:bV env sc (bY op) nm 0 ks with
   |er e p=>
    rw[hk]at hrun;simp only at hrun;rw[hrun]at hloop;exact Ev.bind hloop (Ev.ret _)
   |ok l=>
    rw[hk]at hrun;obtain⟨sc',hrun⟩:=hrun;rw[hrun]at hloop;refine Ev.bind hloop ?_;simp only[LR.el,Tm.op,h20,h29,cond_false];obtain⟨k1,k2,k3⟩:=akY hv ks sc (bY op) nm 0 l hs hk;obtain⟨r,hr1,hr2⟩:=ay8 hop.1 hop.2 (by simpa using h20) (by simpa using h29) k2 (hlen l k1) (fun hb=>k3 hb (by obtain⟨x,y,e⟩:=hbk hb;rw[e];simp));refine Ev.bind hr1 ?_;cases ho:jT op l with
    |none=>
     rw[ho]at hr2;simp only at hr2;simp only[hr2,qBb,cond_true,rJ,VB,qAt];exact Ev.ret _
    |some t=>
     rw[ho]at hr2;simp only at hr2;subst hr2;simp only[qAv,cond_false,aHy,rJ];refine Ev.bind (ajA t) ?_;cases bA t with
     |false=>simp only[cond_false,VB,qAt];exact Ev.ret _
     |true=>exact Ev.ret _
def YQ(r:TR):Ty×List Int×Int:=match r with| .ok t=>(t,[],0)| .er e p=>(bH,p,e)
end Abs
end Go.Proofs.YthgdaonechbgmaaGreat
