/-
  Valid terms: the program's functions and the document's come to the same plain answer. Conditions: names are no longer than a string may be; lemmas without a program.
-/
import Derived.Test.YtneeginmfjageaaGreatCSrxox966f4d
set_option linter.unusedSimpArgs false
set_option linter.unusedVariables false
namespace Go.Proofs.YtneeginmfjageaaGreat
namespace Abs
section
open Go
theorem Tm.ind{P:Tm→Prop}(h:∀k n m t ks,(∀t∈ks,P t)→P (.mk k n m t ks)) t:P t:=by
 match t with
 | .mk k n m ty ks=>exact h k n m ty ks fun u _=>Tm.ind h u
termination_by SizeOf.sizeOf t
decreasing_by
 rename_i hu;have:=qCN hu;simp only[Tm.mk.sizeOf_spec];omega
def fG(op:Int):=
 cond (op==1 ||(op==2 ||(op==19 ||(op==20 ||op==29)))) 0
  (cond (op==3 ||(op==21 ||(decide (46≤op)&&decide (op≤52)))) 1 (cond (op==28) (-1) (cond (decide (4≤op)&&decide (op≤56)) 2 (-2))))
def dx(op:Int):=op==8 ||(op==9 ||(op==55 ||op==56))
theorem orC a b:cond a (some true) (some b)=some (a ||b):=by cases a<;>rfl
theorem orS a b:cond a (some a) (some b)=some (a ||b):=by cases a<;>rfl
theorem auT a b:cond a (some b) (some false)=some (a&&b):=by cases a<;>rfl
theorem at1 n op:aa8 n op=some (fG op):=by
 unfold aa8 fG;simp only[orC,auT,qAb];cases(op==1 ||(op==2 ||(op==19 ||(op==20 ||op==29)))) with
 | true=>rfl
 | false=>
  cases(op==3 ||(op==21 ||(decide (46≤op)&&decide (op≤52)))) with
  | true=>rfl
  | false=>
   cases(op==28) with
   | true=>rfl
   | false=>cases(decide (4≤op)&&decide (op≤56))<;>rfl
theorem aGg(op:Int):(decide (46≤op)&&decide (op≤51) ||op==52)=(decide (46≤op)&&decide (op≤52)):=by
 by_cases h1:46≤op
 ·by_cases h2:op≤51
  ·simp[h1,h2,show op≤52 by omega]
  ·by_cases h3:op=52
   ·subst h3;rfl
   ·simp[h2,h3,show ¬op≤52 by omega]
 ·simp[h1,show op≠52 by omega]
theorem ao4 n op:Qd n op=some (cond (fG op== -2) (0,false) (fG op,true)):=by
 unfold Qd fG;simp only[orS,auT,qAb,aGg];cases h1:(op==1 ||(op==2 ||(op==19 ||(op==20 ||op==29)))) with
 | true=>rfl
 | false=>
  cases h2:(op==3 ||(op==21 ||(decide (46≤op)&&decide (op≤52)))) with
  | true=>rfl
  | false=>
   cases(op==28) with
   | true=>rfl
   | false=>
    simp only[qBv,beq_eq_false_iff_ne] at h1 h2;have e:(decide (1≤op)&&decide (op≤56))=(decide (4≤op)&&decide (op≤56)):=by
     by_cases h:4≤op
     ·simp[h,show 1≤op by omega]
     ·simp[h,show ¬1≤op by omega]
    rw[e];cases(decide (4≤op)&&decide (op≤56))<;>rfl
theorem awT n op:DF n op=some (dx op):=by
 unfold DF dx;simp only[orC,qAb]
theorem Zz n op:yg n op=some (dx op):=by
 unfold yg dx;simp only[orC,qAb]
def TL(t:Ty):=t.kind==0&&(t.name==[]&&(t.kids.length:Int)==0)
theorem aqT n t:Ei n t=some (TL t):=by
 unfold Ei TL;simp only[auT,qAb]
theorem aiM n t:JZ n t=some (TL t):=by
 unfold JZ TL;simp only[auT,qAb]
def F7(t:Tm):=cond (t.op==20) (named t.name) (cond (dx t.op) (ident t.name) (t.name==[]))
def Vn(t:Tm):=cond (t.op==19) (decide (0≤t.n)&&decide (t.n≤1000000000)) (t.n==0)
def tyB(t:Tm):=cond (t.op==29) (eG t.ty&&t.ty.kind !=2) (TL t.ty)
def Ah(t:Tm):=!fG t.op== -2&&cond (fG t.op== -1) (!(t.kids.length:Int)==0) ((t.kids.length)==fG t.op)
def rJ t:=Ah t&&(F7 t&&(Vn t&&tyB t))
theorem av8 t (hs:t.name.length≤9223372036854775807):Ev (fun n=>JU n t) (rJ t):=by
 unfold JU rJ;simp only[ao4,qAb];have hfirst:Ev (fun n=>((((cond (!(cond (fG t.op== -2) ((0:Int),false) (fG t.op,true)).2) (some (!(cond (fG t.op== -2) ((0:Int),false) (fG t.op,true)).2)) (((cond ((cond (fG t.op== -2) ((0:Int),false) (fG t.op,true)).1==(-1)) (some ((t.kids.length:Int)==0)) (some false)):Option Bool).bind fun(s6:Bool)=>(cond s6 (some s6) (cond ((cond (fG t.op== -2) ((0:Int),false) (fG t.op,true)).1 !=(-1)) (some ((t.kids.length:Int)!=(cond (fG t.op== -2) ((0:Int),false) (fG t.op,true)).1)) (some false))))):Option Bool)).bind fun(s5:Bool)=>(cond s5 (some (.rt false)) (cond (t.op==20) ((UK n t.name).bind fun(x4:Bool)=>some (.nx x4)) ((DF n t.op).bind fun(x5:Bool)=>(cond x5 ((fE n t.name).bind fun(x6:Bool)=>some (.nx x6)) (some (.nx (t.name==([]:Str)))))))):Option (LR Bool Bool))) (cond (Ah t) (.nx (F7 t)) (.rt false)):=by
  refine Ev.bind (a:=!(Ah t)) ?_ ?_
  ·refine Ev.of fun n=>?_;unfold Ah;cases h2:fG t.op== -2 with
   | true=>rfl
   | false=>
    simp only[cond_false,qAC,qBe,qAz];cases h1:fG t.op== -1 with
    | true=>
     simp only[cond_true,qAb,bne,h1,qAC,cond_false];cases(t.kids.length:Int)==0<;>rfl
    | false=>
     simp only[cond_false,qAb,bne,h1,qBe,cond_true]
  ·cases Ah t with
   | false=>exact Ev.ret _
   | true=>
    simp only[qAC,cond_false,cond_true,F7,awT,qAb];cases t.op==20 with
    | true=>
     refine Ev.bind (a:=named t.name) ?_ (Ev.ret _);exact acg t.name hs
    | false=>
     cases dx t.op with
     | true=>exact Ev.bind (pI _) (Ev.ret _)
     | false=>exact Ev.ret _
 refine Ev.bind hfirst ?_;cases Ah t with
 | false=>exact Ev.ret _
 | true=>
  simp only[cond_true,qAz];refine Ev.bind (a:=F7 t&&Vn t) ?_ ?_
  ·unfold Vn;refine Ev.of fun n=>?_;cases t.op==19<;>cases F7 t<;>cases decide (0≤t.n)<;>rfl
  ·unfold tyB;cases t.op==29 with
   | true=>
    simp only[cond_true];refine Ev.bind (a:=F7 t&&(Vn t&&(eG t.ty&&t.ty.kind !=2))) ?_ (Ev.ret _);cases F7 t with
    | false=>exact Ev.ret _
    | true=>
     cases Vn t with
     | false=>exact Ev.ret _
     | true=>
      simp only[qAz,cond_true];cases hk:t.ty.kind !=2 with
      | false=>simp only[cond_false,qCq];exact Ev.ret _
      | true=>simp only[cond_true,qBM];exact Ev.bind (wH _) (Ev.ret _)
   | false=>
    simp only[cond_false,aqT,qAb];refine Ev.of fun n=>?_;cases F7 t<;>cases Vn t<;>rfl
theorem auJ t:Ev (fun n=>aa0 n t) (rJ t):=by
 unfold aa0 rJ;simp only[at1,qAb];refine Ev.bind (a:=!(Ah t)) ?_ ?_
 ·refine Ev.of fun n=>?_;unfold Ah;cases h2:fG t.op== -2 with
  | true=>rfl
  | false=>
   simp only[cond_false,qAC,qBe,qAz];cases h1:fG t.op== -1 with
   | true=>
    have e:fG t.op= -1:=by simpa using h1
    rw[e];cases(t.kids.length:Int)==0<;>rfl
   | false=>
    have hge:decide (0≤fG t.op)=true:=by
     unfold fG at h1 h2⊢
     revert h1 h2
     cases(t.op==1 ||(t.op==2 ||(t.op==19 ||(t.op==20 ||t.op==29))))<;>cases(t.op==3 ||(t.op==21 ||(decide (46≤t.op)&&decide (t.op≤52))))<;>cases(t.op==28)<;>cases(decide (4≤t.op)&&decide (t.op≤56))<;>intro h1 h2<;>first | rfl | exact absurd h1 (by decide) | exact absurd h2 (by decide)
    simp only[cond_false,hge,cond_true,bne]
 ·cases Ah t with
  | false=>exact Ev.ret _
  | true=>
   simp only[qAC,cond_false,qAz];refine Ev.bind (a:=cond (F7 t) (.nx ()) (.rt false)) ?_ ?_
   ·unfold F7;simp only[Zz,qAb];cases t.op==20 with
    | true=>
     refine Ev.bind (acJ _) ?_;simp only[cond_true];cases named t.name
     ·exact Ev.ret _
     ·exact Ev.ret _
    | false=>
     simp only[cond_false];cases dx t.op with
     | true=>
      refine Ev.bind (oC _) ?_;simp only[cond_true];cases ident t.name
      ·exact Ev.ret _
      ·exact Ev.ret _
     | false=>
      simp only[cond_false];cases t.name==([]:Str)
      ·exact Ev.ret _
      ·exact Ev.ret _
   ·cases F7 t with
    | false=>exact Ev.ret _
    | true=>
     simp only[cond_true,qAz];refine Ev.bind (a:=!(Vn t)) ?_ ?_
     ·refine Ev.of fun n=>?_;unfold Vn;cases h19:t.op==19 with
      | true=>
       simp only[cond_true,bne,h19,qAC,cond_false];by_cases h0:t.n<0
       ·rw[decide_eq_true h0,decide_eq_false (show ¬0≤t.n by omega)];rfl
       ·rw[decide_eq_false h0,decide_eq_true (show 0≤t.n by omega)];by_cases hb:1000000000<t.n
        ·rw[decide_eq_true hb,decide_eq_false (show ¬t.n≤1000000000 by omega)];rfl
        ·rw[decide_eq_false hb,decide_eq_true (show t.n≤1000000000 by omega)];rfl
      | false=>simp only[cond_false,bne,h19,qBe,cond_true]
     ·cases Vn t with
      | false=>exact Ev.ret _
      | true=>
       simp only[qAC,cond_false,qAz];unfold tyB;cases t.op==29 with
       | true=>
        simp only[cond_true];refine Ev.bind (a:=eG t.ty&&t.ty.kind !=2) (Ev.bind (Gb _) ?_) (Ev.ret _);cases eG t.ty
        ·exact Ev.ret _
        ·exact Ev.ret _
       | false=>
        simp only[cond_false,aiM,qAb];exact Ev.ret _
mutual
def mf:Tm→Int→Int→Bool×Int
 | .mk op nm m ty ks,d,c=>cond (decide (c+1≤2000)&&decide (d≤64)&&rJ (.mk op nm m ty ks)) (Ag ks (d+1) (c+1)) (false,c+1)
def Ag:List Tm→Int→Int→Bool×Int
 | [],_,c=>(true,c)
 | t::ts,d,c=>cond (mf t d c).1 (Ag ts d (mf t d c).2) (false,(mf t d c).2)
end
mutual
theorem aaK:∀t d c,(mf t d c).1=true→c<(mf t d c).2∧(mf t d c).2≤2000
 | .mk op nm m ty ks,d,c,h=>by
  simp only[mf] at h⊢;cases hb:((decide (c+1≤2000)&&decide (d≤64))&&rJ (.mk op nm m ty ks)) with
  | false=>rw[hb] at h;cases h
  | true=>
   rw[hb] at h;simp only[cond_true] at h⊢;simp only[qAa,decide_eq_true_eq] at hb;have:=aoC ks (d+1) (c+1) h;omega
theorem aoC:∀(ts:List Tm) (d c:Int),(Ag ts d c).1=true→c≤(Ag ts d c).2∧(c≤2000→(Ag ts d c).2≤2000)
 | [],_,c,_=>by simp[Ag]
 | t::ts,d,c,h=>by
  simp only[Ag] at h⊢;cases hb:(mf t d c).1 with
  | false=>rw[hb] at h;cases h
  | true=>
   rw[hb] at h;simp only[cond_true] at h⊢;have h1:=aaK t d c hb;have h2:=aoC ts d _ h;exact⟨by omega,fun _=>h2.2 h1.2⟩
end
mutual
def CW:Tm→Prop
 | .mk _ nm _ _ ks=>nm.length≤9223372036854775807∧ads ks
def ads:List Tm→Prop
 | []=>True
 | t::ts=>CW t∧ads ts
end
theorem ane:∀{ts:List Tm},ads ts→∀t∈ts,CW t
 | [],_,t,h=>by cases h
 | u::ts,h,t,ht=>by
  simp only[ads] at h;rcases qAg.1 ht with rfl | ht
  ·exact h.1
  ·exact ane h.2 t ht
theorem aw1 n c d (h0:0≤c)(h1:c≤2000):kg n c 2000 64 d=some (decide (c+1≤2000)&&decide (d≤64),c+1):=by
 unfold kg;rw[wrap64 (by omega) (by omega)];cases decide (c+1≤2000)<;>rfl
def aCA t:=CW t→∀d c:Int,1≤d→d≤65→0≤c→c≤2000→Ev (fun n=>jD n c 2000 64 t d) (mf t d c)
theorem asn d:∀ts i c,0≤i→(∃j,0≤j∧(Ag ts d c).1=false∧jO (τ:=Int) (fun i x s=>cond (!(mf x d s).1) (.rt (i,(mf x d s).2)) (.nx (mf x d s).2)) (fun s=>s) i ts c=.rt (j,(Ag ts d c).2))∨(Ag ts d c).1=true∧jO (ρ:=Int×Int) (fun i x s=>cond (!(mf x d s).1) (.rt (i,(mf x d s).2)) (.nx (mf x d s).2)) (fun s=>s) i ts c=.nx (Ag ts d c).2
 | [],i,c,_=>.inr ⟨rfl,rfl⟩
 | t::ts,i,c,hi=>by
  simp only[Ag,jO];cases hb:(mf t d c).1 with
  | false=>exact .inl ⟨i,hi,rfl,rfl⟩
  | true=>exact asn d ts (i+1) _ (by omega)
theorem ate ts (h:∀t∈ts,aCA t)(hS:ads ts) d c (hd:1≤d)(hd6:d≤64)(h0:0≤c)(h1:c≤2000):Ev (fun n=>fQ n ts c 2000 64 d) (!(Ag ts (d+1) c).1,(Ag ts (d+1) c).2):=by
 refine Ev.succ ?_;show Ev (fun n=>nY n _ _ _ _ ts c 2000 64 d) _;unfold nY;have hloop:=Nt ts (fun n k i s=>BH n (fun p0 p1 p2 p3 p4=>jR n p0 p1 p2 p3 p4) (fun p0 p1 p2 p3 p4=>fQ n p0 p1 p2 p3 p4) (fun p0 p1 p2 p3 p4=>jD n p0 p1 p2 p3 p4) (fun p0 p1 p2 p3 p4=>fZ n p0 p1 p2 p3 p4) ts 2000 64 d k (i,s))
  (fun n i x s=>(fZ n x s 2000 64 d).bind fun x2=>cond x2.1 (some (.rt (i,x2.2))) (some (.nx x2.2))) (fun i x s=>cond (!(mf x (d+1) s).1) (.rt (i,(mf x (d+1) s).2)) (.nx (mf x (d+1) s).2)) (fun s=>s) (fun _ _ s=>0≤s∧s≤2000)
  (fun n k i s=>by
   show cond _ _ _=_;congr 1;congr 1;funext x;dsimp only;cases fZ n x s 2000 64 d with
   | none=>rfl
   | some b=>obtain⟨b,e⟩:=b;cases b<;>rfl)
  (fun i x suf s hx hs=>⟨by
   have hfit:Ev (fun n=>fZ n x s 2000 64 d) (!(mf x (d+1) s).1,(mf x (d+1) s).2):=by
    refine Ev.succ ?_;show Ev (fun n=>sJ n _ _ _ _ x s 2000 64 d) _;unfold sJ;have:=h x hx (ane hS x hx) (d+1) s (by omega) (by omega) hs.1 hs.2;rw[wrap64 (by omega) (by omega)];exact Ev.bind this (Ev.ret _)
   refine Ev.bind hfit ?_;cases(mf x (d+1) s).1
   ·exact Ev.ret _
   ·exact Ev.ret _,fun s' he=>by
    cases hb:(mf x (d+1) s).1 with
    | false=>rw[hb] at he;cases he
    | true=>
     rw[hb] at he;simp only[qAC,cond_false,LR.nx.injEq] at he;have:=aaK x (d+1) s hb;omega⟩) (s0:=c) ⟨h0,h1⟩
 rcases asn (d+1) ts 0 c (qBP _) with⟨j,hj,hf,hr⟩ | ⟨ht,hr⟩
 ·rw[hr] at hloop;refine Ev.bind (a:=(j,(Ag ts (d+1) c).2)) (Ev.succ ?_) ?_
  ·show Ev (fun n=>jr n _ _ _ _ ts c 2000 64 d) _;unfold jr;exact Ev.bind hloop (Ev.ret _)
  ·rw[hf];simp only[decide_eq_true hj];exact Ev.ret _
 ·rw[hr] at hloop;refine Ev.bind (a:=(-1,(Ag ts (d+1) c).2)) (Ev.succ ?_) ?_
  ·show Ev (fun n=>jr n _ _ _ _ ts c 2000 64 d) _;unfold jr;exact Ev.bind hloop (Ev.ret _)
  ·rw[ht];exact Ev.ret _
theorem aFu:∀t:Tm,aCA t:=Tm.ind fun op nm m ty ks ih hS d c hd hd7 h0 h1=>by
 refine Ev.succ ?_;show Ev (fun n=>vX n _ _ _ _ c 2000 64 (.mk op nm m ty ks) d) _;unfold vX;simp only[CW] at hS;simp only[aw1 _ c d h0 h1,qAb,mf];cases hb:(decide (c+1≤2000)&&decide (d≤64)) with
 | false=>exact Ev.ret _
 | true=>
  simp only[qAa,decide_eq_true_eq] at hb;simp only[qAC,cond_false,qAz];refine Ev.bind (a:=(!(rJ (.mk op nm m ty ks)),c+1)) (Ev.bind (av8 (.mk op nm m ty ks) hS.1) (Ev.ret _)) ?_;cases rJ (.mk op nm m ty ks) with
  | false=>exact Ev.ret _
  | true=>
   simp only[qAC,cond_false,cond_true];refine Ev.bind (ate ks ih hS.2 d (c+1) hd hb.2 (by omega) hb.1) ?_;simp only[qCr];exact Ev.ret _
def jN t:=(mf t 1 0).1
theorem LG t (hS:CW t):Ev (fun n=>Cb n t) (jN t):=by
 unfold Cb;exact Ev.bind (aFu t hS 1 0 (by omega) (by omega) (by omega) (by omega)) (Ev.ret _)
def mt t d c:=cond (mf t d c).1 (mf t d c).2 (-1)
def aCp t:=∀d c:Int,1≤d→d≤65→0≤c→c≤2000→Ev (fun n=>EP n t d c) (mt t d c)
theorem asL d:∀ts c,0≤c→gQ (τ:=Int) (fun x s=>cond (decide (mt x d s<0)) (.rt (-1)) (.nx (mt x d s))) (fun s=>s) ts c=cond (Ag ts d c).1 (.nx (Ag ts d c).2) (.rt (-1))
 | [],c,_=>rfl
 | t::ts,c,h0=>by
  simp only[Ag,gQ];by_cases hb:(mf t d c).1=true
  ·have h1:=aaK t d c hb;have h2:mt t d c=(mf t d c).2:=by simp only[mt,hb,cond_true]
   have h3:decide ((mf t d c).2<0)=false:=decide_eq_false (by omega);simp only[h2,h3,hb,cond_true,cond_false];exact asL d ts (mf t d c).2 (by omega)
  ·have hb':(mf t d c).1=false:=by simpa using hb
   have h2:mt t d c= -1:=by simp only[mt,hb',cond_false]
   have h3:decide (mt t d c<0)=true:=decide_eq_true (by omega);simp only[h3,hb',cond_true,cond_false]
theorem nodes:∀t:Tm,aCp t:=Tm.ind fun op nm m ty ks ih d c hd hd7 h0 h1=>by
 refine Ev.succ ?_;show Ev (fun n=>Lp n _ (.mk op nm m ty ks) d c) _;unfold Lp;simp only[mt,mf];rw[wrap64 (by omega) (by omega)];by_cases hd6:d≤64
 case neg=>
  rw[decide_eq_true (show 64<d by omega),decide_eq_false hd6];simp only[qCq,qBs,cond_false];exact Ev.ret _
 by_cases hc:c+1≤2000
 case neg=>
  rw[decide_eq_false (show ¬64<d by omega),decide_eq_true (show 2000<c+1 by omega),decide_eq_false hc];simp only[qBs,cond_false,cond_true];exact Ev.ret _
 rw[decide_eq_false (show ¬64<d by omega),decide_eq_false (show ¬2000<c+1 by omega),decide_eq_true hd6,decide_eq_true hc];simp only[cond_false,qAz];refine Ev.bind (a:=!(rJ (.mk op nm m ty ks))) (Ev.bind (auJ _) (Ev.ret _)) ?_;cases rJ (.mk op nm m ty ks) with
 | false=>exact Ev.ret _
 | true=>
  simp only[qAC,cond_false,cond_true];have hloop:=Ua ks (fun n k' i s=>acD n (fun p0 p1 p2=>EP n p0 p1 p2) (.mk op nm m ty ks) d k' (s,i)) (fun n x s=>(EP n x (IntKind.wrap .i64 (d+1)) s).bind fun x2=>cond (decide (x2<0)) (some (.rt (-1))) (some (.nx x2)))
   (fun x s=>cond (decide (mt x (d+1) s<0)) (.rt (-1)) (.nx (mt x (d+1) s))) (fun s=>s) (fun _ s=>0≤s∧s≤2000)
   (fun n k' i s=>by
    show cond _ _ _=_;congr 1;show(idx ks i).bind _=_;congr 1;funext x;dsimp only;cases EP n x (IntKind.wrap .i64 (d+1)) s with
    | none=>rfl
    | some b=>simp only[qAb];cases decide (b<0)<;>rfl)
   (fun x suf s hx hs=>⟨by
    rw[wrap64 (by omega) (by omega)];refine Ev.bind (ih x hx (d+1) s (by omega) (by omega) hs.1 hs.2) ?_;cases decide (mt x (d+1) s<0)
    ·exact Ev.ret _
    ·exact Ev.ret _,fun s' he=>by
     cases hb:decide (mt x (d+1) s<0) with
     | true=>rw[hb] at he;cases he
     | false=>
      rw[hb] at he;simp only[cond_false,LR.nx.injEq] at he;have hneg:¬mt x (d+1) s<0:=of_decide_eq_false hb;subst he;unfold mt at hneg⊢;cases hb2:(mf x (d+1) s).1 with
      | false=>rw[hb2] at hneg;simp at hneg
      | true=>have:=aaK x (d+1) s hb2;simp only[cond_true];omega⟩) (s0:=c+1) ⟨by omega,hc⟩
  rw[asL _ _ _ (by omega)] at hloop;refine Ev.bind hloop ?_;cases(Ag ks (d+1) (c+1)).1
  ·exact Ev.ret _
  ·exact Ev.ret _
theorem acC t:Ev (fun n=>vG n t) (jN t):=by
 unfold vG;refine Ev.bind (nodes t 1 0 (by omega) (by omega) (by omega) (by omega)) ?_;unfold mt jN;cases hb:(mf t 1 0).1 with
 | false=>exact Ev.ret _
 | true=>
  have:=aaK t 1 0 hb;simp only[cond_true];rw[decide_eq_true (by omega)];exact Ev.ret _
def aV:Ty:=.mk 2 [] []
def bY:Ty:=.mk 1 [] []
def aK(a b:Ty):Ty:=.mk 4 [] [a,b]
inductive Good:Ty→Prop where
 | int:Good bY
 | car (nm:Str):Good (wS nm)
 | pair {a b:Ty}:Good a→Good b→Good (aK a b)
 | set {a:Ty}:Good a→Good (ak a)
def Top t:=t=aV∨Good t
mutual
theorem aB2:∀t d c,1<d→(pf t d c).1=true→Good t
 | .mk k nm ks,d,c,hd,h=>by
  simp only[pf] at h;cases hb:((decide (c+1≤16)&&decide (d≤6))&&iX k nm ks.length d) with
  | false=>rw[hb] at h;cases h
  | true=>
   rw[hb] at h;simp only[cond_true] at h;have hk:=acX ks (d+1) (c+1) (by omega) h;simp only[qAa,iX,decide_eq_true_eq,qAZ,beq_iff_eq,qAF,qBY,beq_eq_false_iff_ne,decide_eq_false_iff_not] at hb;obtain⟨_,h2,h3,h4⟩:=hb;have hk2:k≠2:=by rcases h2 with h2 | h2<;>omega
   rcases h3 with⟨h5,h6⟩ | ⟨h5,h6⟩ | ⟨h5,h6⟩
   ·have hks:ks=[]:=qAw.1 h6;subst hks;rcases h5 with rfl | rfl | rfl
    ·have:nm=[]:=by simpa using h4
     subst this;exact .int
    ·exact absurd rfl hk2
    ·exact .car nm
   ·subst h5;have:nm=[]:=by simpa using h4
    subst this
    match ks,h6,hk with
    | [a,b],_,hk=>exact .pair (hk a (by simp)) (hk b (by simp))
   ·subst h5;have:nm=[]:=by simpa using h4
    subst this
    match ks,h6,hk with
    | [a],_,hk=>exact .set (hk a (by simp))
theorem acX:∀(ts:List Ty) (d c:Int),1<d→(nP ts d c).1=true→∀t∈ts,Good t
 | [],_,_,_,_,t,ht=>by cases ht
 | u::ts,d,c,hd,h,t,ht=>by
  simp only[nP] at h;cases hb:(pf u d c).1 with
  | false=>rw[hb] at h;cases h
  | true=>
   rw[hb] at h;rcases qAg.1 ht with he | ht
   ·rw[he];exact aB2 u d c hd hb
   ·exact acX ts d _ hd h t ht
end
theorem aau{t}(h:eG t=true):Top t:=by
 obtain⟨k,nm,ks⟩:=t;unfold eG at h;simp only[pf] at h;cases hb:((decide ((0:Int)+1≤16)&&decide ((1:Int)≤6))&&iX k nm ks.length 1) with
 | false=>rw[hb] at h;cases h
 | true=>
  rw[hb] at h;simp only[cond_true] at h;have hk:=acX ks (1+1) (0+1) (by omega) h;simp only[qAa,iX,decide_eq_true_eq,qAZ,beq_iff_eq,qAF,qBY,beq_eq_false_iff_ne,decide_eq_false_iff_not] at hb;obtain⟨_,_,h3,h4⟩:=hb;rcases h3 with⟨h5,h6⟩ | ⟨h5,h6⟩ | ⟨h5,h6⟩
  ·have hks:ks=[]:=qAw.1 h6;subst hks;rcases h5 with rfl | rfl | rfl
   ·have:nm=[]:=by simpa using h4
    subst this;exact .inr .int
   ·have:nm=[]:=by simpa using h4
    subst this;exact .inl rfl
   ·exact .inr (.car nm)
  ·subst h5;have:nm=[]:=by simpa using h4
   subst this
   match ks,h6,hk with
   | [a,b],_,hk=>exact .inr (.pair (hk a (by simp)) (hk b (by simp)))
  ·subst h5;have:nm=[]:=by simpa using h4
   subst this
   match ks,h6,hk with
   | [a],_,hk=>exact .inr (.set (hk a (by simp)))
theorem aAL{t}(h:Good t):H7 t=true:=by
 induction h with
 | int=>rfl
 | car nm=>rfl
 | pair _ _ h1 h2=>simp[aK,H7,UW,h1,h2]
 | set _ h1=>simp[ak,H7,UW,h1]
theorem axK{t}(h:Top t):H7 t=true:=by
 rcases h with rfl | h
 ·rfl
 ·exact aAL h
theorem ajx{t}(h:Good t):(t.kind==2)=false:=by cases h<;>rfl
def aO(t:Ty):=cond (t.kind==5) t.kids.head? none
def dn t:=(aO t).bind fun p=>cond (p.kind==4) (p.kids.head?.bind fun a=>(p.kids.drop 1).head?.map fun b=>(a,b)) none
theorem ada a:aO (ak a)=some a:=rfl
theorem ayS a b:dn (ak (aK a b))=some (a,b):=rfl
theorem AL{t}(h:Top t):(∃e,t=ak e∧Good e)∨(t.kind==5)=false∧aO t=none∧dn t=none:=by
 rcases h with rfl | h
 ·exact .inr ⟨rfl,rfl,rfl⟩
 ·cases h with
  | int=>exact .inr ⟨rfl,rfl,rfl⟩
  | car nm=>exact .inr ⟨rfl,rfl,rfl⟩
  | pair _ _=>exact .inr ⟨rfl,rfl,rfl⟩
  | set h=>exact .inl ⟨_,rfl,h⟩
theorem akg{t}(h:Top t):(∃a b,t=ak (aK a b)∧Good a∧Good b)∨dn t=none:=by
 rcases AL h with⟨e,rfl,he⟩ | ⟨_,_,h⟩
 ·cases he with
  | int=>exact .inr rfl
  | car nm=>exact .inr rfl
  | pair h1 h2=>exact .inl ⟨_,_,rfl,h1,h2⟩
  | set h=>exact .inr rfl
 ·exact .inr h
theorem eT{t e}(h:Top t)(he:aO t=some e):Good e∧t=ak e:=by
 rcases AL h with⟨e',rfl,hg⟩ | ⟨_,h,_⟩
 ·rw[ada] at he;cases he;exact⟨hg,rfl⟩
 ·rw[h] at he;cases he
theorem gq{t a b}(h:Top t)(he:dn t=some (a,b)):Good a∧Good b∧t=ak (aK a b):=by
 rcases akg h with⟨a',b',rfl,hg⟩ | h
 ·rw[ayS] at he;cases he;exact⟨hg.1,hg.2,rfl⟩
 ·rw[h] at he;cases he
def elP(o:Option Ty):=match o with | some e=>(e,true) | none=>(aW,false)
def siP(o:Option (Ty×Ty)):=match o with | some e=>(e.1,e.2,true) | none=>(aW,aW,false)
theorem gV n {t}(h:Top t):bO n t=some (elP (aO t)):=by
 rcases AL h with⟨e,rfl,_⟩ | ⟨h1,h2,_⟩
 ·rfl
 ·unfold bO;rw[h2,bne,h1];rfl
theorem vP n {t}(h:Top t):iO n t=some (siP (dn t)):=by
 unfold iO;rw[gV n h];rcases AL h with⟨e,rfl,he⟩ | ⟨_,h2,h3⟩
 ·cases he<;>rfl
 ·rw[h2,h3];rfl
def aP b(t:Ty):=cond b (some t) none
def wU q(l:List Ty):=l.all fun x=>x.kind==q
def iY(op:Int)l:=
 let a:=l.headD aW
 let b:=(l.drop 1).headD aW
 cond (decide (op≤2)) (some aV) <|
 cond (decide (op≤7)) (aP (wU 2 l) aV) <|
 cond (decide (op≤9)) (aP ((aO a).isSome&&b.kind==2) aV) <|
 cond (decide (op≤11)) (aP (a.kind !=2&&aQ a b) aV) <|
 cond (decide (op≤15)) (aP (wU 1 l) aV) <|
 cond (decide (op≤17)) ((aO b).bind fun e=>aP (aQ a e) aV) <|
 cond (decide (op≤18)) (aP ((aO a).isSome&&aQ a b) aV) <|
 cond (decide (op≤19)) (some bY) <|
 cond (decide (op≤26)) (aP (wU 1 l) bY) <|
 cond (decide (op≤27)) (aP (a.kind !=2&&b.kind !=2) (aK a b)) <|
 cond (decide (op≤28)) (aP (a.kind !=2&&l.all fun x=>aQ x a) (ak a)) <|
 cond (decide (op≤30)) (aP (wU 1 l) (ak bY)) <|
 cond (decide (op≤33)) (aP ((aO a).isSome&&aQ a b) a) <|
 cond (decide (op≤34)) ((aO a).bind fun x=>(aO b).map fun y=>ak (aK x y)) <|
 cond (decide (op≤35)) (aP ((dn a).isSome&&aQ a b) a) <|
 cond (decide (op≤36)) ((dn a).bind fun x=>(dn b).bind fun y=>aP (aQ x.2 y.1) (ak (aK x.1 y.2))) <|
 cond (decide (op≤38)) ((aO a).bind fun x=>(dn b).bind fun y=>aP (aQ x y.1) b) <|
 cond (decide (op≤40)) ((dn a).bind fun x=>(aO b).bind fun y=>aP (aQ y x.2) a) <|
 cond (decide (op≤45)) ((aO a).bind fun x=>(aO b).map fun y=>ak (ak (aK x y))) <|
 cond (decide (op≤46)) ((aO a).map fun x=>ak (ak x)) <|
 cond (decide (op≤47)) ((aO a).map fun _=>bY) <|
 cond (decide (op≤49)) ((aO a).bind fun x=>aP (x.kind==1) bY) <|
 cond (decide (op≤50)) ((dn a).map fun x=>ak x.1) <|
 cond (decide (op≤51)) ((dn a).map fun x=>ak x.2) <|
 cond (decide (op≤52)) ((dn a).map fun x=>ak (aK x.2 x.1)) <|
 cond (decide (op≤53)) ((dn a).bind fun x=>(aO b).bind fun y=>aP (aQ y x.1) (ak x.2)) <|
 cond (decide (op≤54)) ((dn a).bind fun x=>aP (aQ b x.1) x.2) <|
 cond (decide (op≤55)) (aP ((aO a).isSome&&b.kind==2) a) <|
 (aO a).bind fun x=>aP (b.kind !=2) (ak (aK x b))
def aAa r(o:Option Ty):=match o with | some t=>r=(t,true) | none=>r.2=false
def Row f o:=∃r,Ev f r∧aAa r o
theorem Row.of{f}{o} t b (h:Ev f (t,b))(he:o=aP b t):Row f o:=by
 subst he;cases b
 ·exact⟨_,h,rfl⟩
 ·exact⟨_,h,rfl⟩
theorem Row.no{f}{o} t (h:Ev f (t,false))(he:o=none):Row f o:=.of t false h he
theorem Row.yes{f}{o} t (h:Ev f (t,true))(he:o=some t):Row f o:=.of t true h he
theorem gB{α} a (l:List α):idx (a::l) 0=some a:=rfl
theorem mH{α} a b (l:List α):idx (a::b::l) 1=some b:=rfl
theorem mE t:Ty.mk t.kind t.name t.kids=t:=by cases t;rfl
theorem anI a b:aQ a b=true↔a=b:=⟨mh a b,fun h=>h▸Z8 a⟩
theorem avB a b:aQ a b=aQ b a:=by
 rw[qBw,anI,anI]
 grind
theorem aFg{t}(h:Top t):(t.kind==5)=(aO t).isSome:=by
 rcases h with rfl | h
 ·rfl
 ·cases h<;>rfl
theorem kQ l k nm ks q:Row (fun n=>aT n l k nm ks q) (aP (wU q l) (.mk k nm ks)):=by
 refine Row.of (.mk k nm ks) (wU q l) ?_ rfl;refine Ev.bind (a:=l.any fun x=>x.kind !=q) (Ev.bind (vI l (fun n k i=>zy n l q k i) (fun _ x=>some (x.kind !=q)) (fun x=>x.kind !=q) (fun n k i=>rfl) (fun x _=>Ev.ret _)) ?_) ?_
 ·rw[vQ _ _ _ (qBP _)];exact Ev.ret _
 ·have:(!(l.any fun x=>x.kind !=q))=wU q l:=by
   unfold wU
   grind
  rw[this];exact Ev.ret _
theorem ap9 a l:Ev (fun n=>lH n (a::l)) (a.kind !=2&&(a::l).all fun x=>aQ x a):=by
 unfold lH qV tV;simp only[gB,qAb];cases a.kind !=2 with
 | false=>exact Ev.ret _
 | true=>
  simp;refine Ev.bind (a:=(a::l).any fun x=>!(aQ x a)) (Ev.bind (vI (a::l) (fun n k i=>zF n (a::l) (a::l) k i) (fun n x=>BJ n x (a::l)) (fun x=>!(aQ x a)) (fun n k i=>rfl) (fun x _=>?_)) ?_) ?_
  ·unfold BJ;simp only[gB,qAb];exact Ev.bind (EI x a) (Ev.ret _)
  ·rw[vQ _ _ _ (qBP _)];exact Ev.ret _
  ·rw[su,qCr];exact Ev.ret _
theorem Qv a b:Ev (fun n=>lH n [a,b]) (a.kind !=2&&aQ a b):=by
 have:=ap9 a [b];simp only[qBK,List.all_nil,qBM,Z8] at this;rwa[avB b a] at this
section
variable {a b:Ty}(ha:Top a)(hb:Top b)
theorem akB(hs:(aO a).isSome=true):Row (fun n=>qw n [a,b]) (aP ((aO a).isSome&&b.kind==2) aV):=by
 rw[hs];exact Row.of aV (b.kind==2) (Ev.ret _) rfl
theorem awX(hs:(aO a).isSome=true):Row (fun n=>Ad n [a,b]) (aP ((aO a).isSome&&b.kind==2) a):=by
 rw[hs];exact Row.of a (b.kind==2) (Ev.ret _) rfl
theorem ao7:Row (fun n=>uG n [a,b]) (aP (a.kind !=2&&aQ a b) aV):=
 Row.of aV _ (Ev.bind (Qv a b) (Ev.ret _)) rfl
include hb in
theorem afY:Row (fun n=>qU n [a,b]) ((aO b).bind fun e=>aP (aQ a e) aV):=by
 unfold qU;simp only[gB,mH,qAb,gV _ hb];cases aO b with
 | none=>exact .no aV (Ev.ret _) rfl
 | some e=>exact .of aV (aQ a e) (Ev.bind (Ev.bind (EI a e) (Ev.ret _)) (Ev.ret _)) rfl
include ha in
theorem ang:(a.kind==5&&(a.kind !=2&&aQ a b))=((aO a).isSome&&aQ a b):=by
 rw[aFg ha];cases hs:aO a with
 | none=>rfl
 | some e=>obtain⟨_,rfl⟩:=eT ha hs;rfl
include ha in
theorem axa:Row (fun n=>uP n [a,b]) (aP ((aO a).isSome&&aQ a b) aV):=by
 rw[←ang ha];unfold uP;simp only[gB,qAb];refine .of aV _ (Ev.bind (a:=a.kind==5&&(a.kind !=2&&aQ a b)) ?_ (Ev.ret _)) rfl;cases a.kind==5 with
 | false=>exact Ev.ret _
 | true=>exact Ev.bind (Qv a b) (Ev.ret _)
include ha in
theorem YF:Row (fun n=>jJ n [a,b]) (aP ((aO a).isSome&&aQ a b) a):=by
 rw[←ang ha];unfold jJ;simp only[gB,qAb];refine .of a _ (Ev.bind (a:=(a.kind==5&&(a.kind !=2&&aQ a b),a.kind,a.name,a.kids)) ?_ (by simp only[mE];exact Ev.ret _)) rfl;cases a.kind==5 with
 | false=>exact Ev.ret _
 | true=>exact Ev.bind (Qv a b) (Ev.ret _)
theorem ay6:Row (fun n=>za n [a,b]) (aP (a.kind !=2&&b.kind !=2) (aK a b)):=by
 unfold za;simp only[gB,qAb];cases a.kind !=2 with
 | false=>exact .no (aK a b) (Ev.ret _) rfl
 | true=>exact .of (aK a b) (b.kind !=2) (Ev.ret _) rfl
theorem aBx l:Row (fun n=>zu n (a::l)) (aP (a.kind !=2&&(a::l).all fun x=>aQ x a) (ak a)):=by
 unfold zu;simp only[gB,qAb];exact .of (ak a) _ (Ev.bind (ap9 a l) (Ev.ret _)) rfl
include ha hb in
theorem ayR:Row (fun n=>xI n [a,b]) ((aO a).bind fun x=>(aO b).map fun y=>ak (aK x y)):=by
 unfold xI;simp only[gB,mH,qAb,gV _ ha,gV _ hb];cases aO a with
 | none=>exact .no aW (Ev.ret _) rfl
 | some x=>
  cases aO b with
  | none=>exact .no aW (Ev.ret _) rfl
  | some y=>exact .yes (ak (aK x y)) (Ev.ret _) rfl
include ha hb in
theorem OB:Row (fun n=>fO n [a,b]) ((aO a).bind fun x=>(aO b).map fun y=>ak (ak (aK x y))):=by
 unfold fO;simp only[gB,mH,qAb,gV _ ha,gV _ hb];cases aO a with
 | none=>exact .no aW (Ev.ret _) rfl
 | some x=>
  cases aO b with
  | none=>exact .no aW (Ev.ret _) rfl
  | some y=>exact .yes (ak (ak (aK x y))) (Ev.ret _) rfl
include ha in
theorem ay2:Row (fun n=>lY n [a,b]) (aP ((dn a).isSome&&aQ a b) a):=by
 unfold lY;simp only[gB,qAb,vP _ ha];cases hr:dn a with
 | none=>exact .no aW (Ev.ret _) rfl
 | some x=>
  obtain⟨x,y⟩:=x;obtain⟨_,_,rfl⟩:=gq ha hr;refine .of _ (aQ (ak (aK x y)) b) (Ev.bind (a:=(ak (aK x y),aQ (ak (aK x y)) b)) ?_ (Ev.ret _)) rfl;show Ev (fun n=>(lH n [ak (aK x y),b]).bind fun x2=>some (ak (aK x y),x2)) _;exact Ev.bind (Qv (ak (aK x y)) b) (Ev.ret _)
include ha hb in
theorem azx:Row (fun n=>lW n [a,b]) ((dn a).bind fun x=>(dn b).bind fun y=>aP (aQ x.2 y.1) (ak (aK x.1 y.2))):=by
 unfold lW LH;simp only[gB,mH,qAb,vP _ ha,vP _ hb];cases dn a with
 | none=>exact .no aW (Ev.ret _) rfl
 | some x=>
  cases dn b with
  | none=>exact .no (ak (aK x.1 aW)) (Ev.ret _) rfl
  | some y=>exact .of (ak (aK x.1 y.2)) (aQ x.2 y.1) (Ev.bind (Ev.bind (Ev.bind (EI x.2 y.1) (Ev.ret _)) (Ev.ret _)) (Ev.ret _)) rfl
include ha hb in
theorem am5:Row (fun n=>qJ n [a,b]) ((aO a).bind fun x=>(dn b).bind fun y=>aP (aQ x y.1) b):=by
 unfold qJ;simp only[gB,mH,qAb,gV _ ha,vP _ hb];cases aO a with
 | none=>exact .no b (by simp only[elP,cond_false,qAb,mE];exact Ev.ret _) rfl
 | some x=>
  cases dn b with
  | none=>exact .no b (by simp only[elP,siP,cond_true,cond_false,qAb,mE];exact Ev.ret _) rfl
  | some y=>
   refine .of b (aQ x y.1) ?_ rfl;simp only[elP,siP,cond_true];exact Ev.bind (a:=(aQ x y.1,b.kind,b.name,b.kids)) (Ev.bind (EI x y.1) (Ev.ret _)) (by simp only[mE];exact Ev.ret _)
include ha hb in
theorem apT:Row (fun n=>iJ n [a,b]) ((dn a).bind fun x=>(aO b).bind fun y=>aP (aQ y x.2) a):=by
 unfold iJ LC;simp only[gB,mH,qAb,gV _ hb,vP _ ha];cases dn a with
 | none=>exact .no aW (Ev.ret _) rfl
 | some x=>
  cases aO b with
  | none=>exact .no a (by simp only[elP,siP,cond_false,qAb,mE,qAC];exact Ev.ret _) rfl
  | some y=>
   refine .of a (aQ y x.2) ?_ rfl;simp only[elP,siP,cond_true,qAC,cond_false];exact Ev.bind (a:=(a,aQ y x.2)) (Ev.bind (a:=(aQ y x.2,a.kind,a.name,a.kids)) (Ev.bind (EI y x.2) (Ev.ret _)) (by simp only[mE];exact Ev.ret _)) (Ev.ret _)
include ha in
theorem aB8:Row (fun n=>sW n [a]) ((aO a).map fun x=>ak (ak x)):=by
 unfold sW;simp only[gB,qAb,gV _ ha];cases aO a with
 | none=>exact .no aW (Ev.ret _) rfl
 | some x=>exact .yes (ak (ak x)) (Ev.ret _) rfl
include ha in
theorem azi:Row (fun n=>sO n [a]) ((aO a).map fun _=>bY):=by
 unfold sO;simp only[gB,qAb,gV _ ha];cases aO a with
 | none=>exact .no aW (Ev.ret _) rfl
 | some x=>exact .yes bY (Ev.ret _) rfl
include ha in
theorem arD:Row (fun n=>lS n [a]) ((aO a).bind fun x=>aP (x.kind==1) bY):=by
 unfold lS;simp only[gB,qAb,gV _ ha];cases aO a with
 | none=>exact .no aW (Ev.ret _) rfl
 | some x=>exact .of bY (x.kind==1) (Ev.ret _) rfl
include ha in
theorem aB0:Row (fun n=>mg n [a]) ((dn a).map fun x=>ak x.1):=by
 unfold mg;simp only[gB,qAb,vP _ ha];cases dn a with
 | none=>exact .no aW (Ev.ret _) rfl
 | some x=>exact .yes (ak x.1) (Ev.ret _) rfl
include ha in
theorem aA2:Row (fun n=>lV n [a]) ((dn a).map fun x=>ak x.2):=by
 unfold lV;simp only[gB,qAb,vP _ ha];cases dn a with
 | none=>exact .no aW (Ev.ret _) rfl
 | some x=>exact .yes (ak x.2) (Ev.ret _) rfl
include ha in
theorem aBy:Row (fun n=>l8 n [a]) ((dn a).map fun x=>ak (aK x.2 x.1)):=by
 unfold l8;simp only[gB,qAb,vP _ ha];cases dn a with
 | none=>exact .no aW (Ev.ret _) rfl
 | some x=>exact .yes (ak (aK x.2 x.1)) (Ev.ret _) rfl
include ha hb in
theorem axO:Row (fun n=>lU n [a,b]) ((dn a).bind fun x=>(aO b).bind fun y=>aP (aQ y x.1) (ak x.2)):=by
 unfold lU IW;simp only[gB,mH,qAb,gV _ hb,vP _ ha];cases dn a with
 | none=>exact .no aW (Ev.ret _) rfl
 | some x=>
  cases aO b with
  | none=>exact .no (ak x.2) (Ev.ret _) rfl
  | some y=>exact .of (ak x.2) (aQ y x.1) (Ev.bind (Ev.bind (Ev.bind (EI y x.1) (Ev.ret _)) (Ev.ret _)) (Ev.ret _)) rfl
include ha in
theorem axy:Row (fun n=>mF n [a,b]) ((dn a).bind fun x=>aP (aQ b x.1) x.2):=by
 unfold mF Ir;simp only[gB,mH,qAb,vP _ ha];cases dn a with
 | none=>exact .no aW (Ev.ret _) rfl
 | some x=>exact .of x.2 (aQ b x.1) (Ev.bind (Ev.bind (EI b x.1) (Ev.ret _)) (Ev.ret _)) rfl
include ha in
theorem aAK:Row (fun n=>wT n [a,b]) ((aO a).bind fun x=>aP (b.kind !=2) (ak (aK x b))):=by
 unfold wT;simp only[gB,mH,qAb,gV _ ha];cases aO a with
 | none=>exact .no (ak (aK aW b)) (Ev.ret _) rfl
 | some x=>exact .of (ak (aK x b)) (b.kind !=2) (Ev.ret _) rfl
end
def aDP(f)(o:Option Ty):=∃r,Ev f r∧match o with | some t=>r=(true,t.kind,t.name,t.kids) | none=>r.1=false
theorem Row.c{f}{o}(h:Row f o):aDP (fun n=>(f n).bind fun x=>some (x.2,x.1.kind,x.1.name,x.1.kids)) o:=by
 obtain⟨r,h1,h2⟩:=h;refine⟨_,Ev.bind h1 (Ev.ret _),?_⟩;cases o with
 | none=>exact h2
 | some t=>have h2:r=(t,true):=h2;subst h2;rfl
def axj(n:Nat)(op:Int)l:=cond (op==0) none (cond (op==1) (some (((Ty.mk 2 ([]:Str) ([])),true).2,(((Ty.mk 2 ([]:Str) ([])),true).1).kind,(((Ty.mk 2 ([]:Str) ([])),true).1).name,(((Ty.mk 2 ([]:Str) ([])),true).1).kids)) (cond (op==2) (some (((Ty.mk 2 ([]:Str) ([])),true).2,(((Ty.mk 2 ([]:Str) ([])),true).1).kind,(((Ty.mk 2 ([]:Str) ([])),true).1).name,(((Ty.mk 2 ([]:Str) ([])),true).1).kids)) (cond (op==3) ((aT n l 2 ([]:Str) ([]) 2).bind fun(x6:Ty×Bool)=>some (x6.2,x6.1.kind,x6.1.name,x6.1.kids)) (cond (op==4) ((aT n l 2 ([]:Str) ([]) 2).bind fun(x7:Ty×Bool)=>some (x7.2,x7.1.kind,x7.1.name,x7.1.kids)) (cond (op==5) ((aT n l 2 ([]:Str) ([]) 2).bind fun(x8:Ty×Bool)=>some (x8.2,x8.1.kind,x8.1.name,x8.1.kids)) (cond (op==6) ((aT n l 2 ([]:Str) ([]) 2).bind fun(x9:Ty×Bool)=>some (x9.2,x9.1.kind,x9.1.name,x9.1.kids)) (cond (op==7) ((aT n l 2 ([]:Str) ([]) 2).bind fun(x10:Ty×Bool)=>some (x10.2,x10.1.kind,x10.1.name,x10.1.kids)) (cond (op==8) ((qw n l).bind fun(x11:Ty×Bool)=>some (x11.2,x11.1.kind,x11.1.name,x11.1.kids)) (cond (op==9) ((qw n l).bind fun(x12:Ty×Bool)=>some (x12.2,x12.1.kind,x12.1.name,x12.1.kids)) (cond (op==10) ((uG n l).bind fun(x13:Ty×Bool)=>some (x13.2,x13.1.kind,x13.1.name,x13.1.kids)) (cond (op==11) ((uG n l).bind fun(x14:Ty×Bool)=>some (x14.2,x14.1.kind,x14.1.name,x14.1.kids)) (cond (op==12) ((aT n l 2 ([]:Str) ([]) 1).bind fun(x15:Ty×Bool)=>some (x15.2,x15.1.kind,x15.1.name,x15.1.kids)) (cond (op==13) ((aT n l 2 ([]:Str) ([]) 1).bind fun(x16:Ty×Bool)=>some (x16.2,x16.1.kind,x16.1.name,x16.1.kids)) (cond (op==14) ((aT n l 2 ([]:Str) ([]) 1).bind fun(x17:Ty×Bool)=>some (x17.2,x17.1.kind,x17.1.name,x17.1.kids)) (cond (op==15) ((aT n l 2 ([]:Str) ([]) 1).bind fun(x18:Ty×Bool)=>some (x18.2,x18.1.kind,x18.1.name,x18.1.kids)) (cond (op==16) ((qU n l).bind fun(x19:Ty×Bool)=>some (x19.2,x19.1.kind,x19.1.name,x19.1.kids)) (cond (op==17) ((qU n l).bind fun(x20:Ty×Bool)=>some (x20.2,x20.1.kind,x20.1.name,x20.1.kids)) (cond (op==18) ((uP n l).bind fun(x21:Ty×Bool)=>some (x21.2,x21.1.kind,x21.1.name,x21.1.kids)) (cond (op==19) (some (((Ty.mk 1 ([]:Str) ([])),true).2,(((Ty.mk 1 ([]:Str) ([])),true).1).kind,(((Ty.mk 1 ([]:Str) ([])),true).1).name,(((Ty.mk 1 ([]:Str) ([])),true).1).kids)) (cond (op==20) none (cond (op==21) ((aT n l 1 ([]:Str) ([]) 1).bind fun(x22:Ty×Bool)=>some (x22.2,x22.1.kind,x22.1.name,x22.1.kids)) (cond (op==22) ((aT n l 1 ([]:Str) ([]) 1).bind fun(x23:Ty×Bool)=>some (x23.2,x23.1.kind,x23.1.name,x23.1.kids)) (cond (op==23) ((aT n l 1 ([]:Str) ([]) 1).bind fun(x24:Ty×Bool)=>some (x24.2,x24.1.kind,x24.1.name,x24.1.kids)) (cond (op==24) ((aT n l 1 ([]:Str) ([]) 1).bind fun(x25:Ty×Bool)=>some (x25.2,x25.1.kind,x25.1.name,x25.1.kids)) (cond (op==25) ((aT n l 1 ([]:Str) ([]) 1).bind fun(x26:Ty×Bool)=>some (x26.2,x26.1.kind,x26.1.name,x26.1.kids)) (cond (op==26) ((aT n l 1 ([]:Str) ([]) 1).bind fun(x27:Ty×Bool)=>some (x27.2,x27.1.kind,x27.1.name,x27.1.kids)) (cond (op==27) ((za n l).bind fun(x28:Ty×Bool)=>some (x28.2,x28.1.kind,x28.1.name,x28.1.kids)) (cond (op==28) ((zu n l).bind fun(x29:Ty×Bool)=>some (x29.2,x29.1.kind,x29.1.name,x29.1.kids)) (cond (op==29) none (cond (op==30) ((aT n l 5 ([]:Str) ([(Ty.mk 1 ([]:Str) ([]))]) 1).bind fun(x30:Ty×Bool)=>some (x30.2,x30.1.kind,x30.1.name,x30.1.kids)) (cond (op==31) ((jJ n l).bind fun(x31:Ty×Bool)=>some (x31.2,x31.1.kind,x31.1.name,x31.1.kids)) (cond (op==32) ((jJ n l).bind fun(x32:Ty×Bool)=>some (x32.2,x32.1.kind,x32.1.name,x32.1.kids)) (cond (op==33) ((jJ n l).bind fun(x33:Ty×Bool)=>some (x33.2,x33.1.kind,x33.1.name,x33.1.kids)) (cond (op==34) ((xI n l).bind fun(x34:Ty×Bool)=>some (x34.2,x34.1.kind,x34.1.name,x34.1.kids)) (cond (op==35) ((lY n l).bind fun(x35:Ty×Bool)=>some (x35.2,x35.1.kind,x35.1.name,x35.1.kids)) (cond (op==36) ((lW n l).bind fun(x36:Ty×Bool)=>some (x36.2,x36.1.kind,x36.1.name,x36.1.kids)) (cond (op==37) ((qJ n l).bind fun(x37:Ty×Bool)=>some (x37.2,x37.1.kind,x37.1.name,x37.1.kids)) (cond (op==38) ((qJ n l).bind fun(x38:Ty×Bool)=>some (x38.2,x38.1.kind,x38.1.name,x38.1.kids)) (cond (op==39) ((iJ n l).bind fun(x39:Ty×Bool)=>some (x39.2,x39.1.kind,x39.1.name,x39.1.kids)) (cond (op==40) ((iJ n l).bind fun(x40:Ty×Bool)=>some (x40.2,x40.1.kind,x40.1.name,x40.1.kids)) (cond (op==41) ((fO n l).bind fun(x41:Ty×Bool)=>some (x41.2,x41.1.kind,x41.1.name,x41.1.kids)) (cond (op==42) ((fO n l).bind fun(x42:Ty×Bool)=>some (x42.2,x42.1.kind,x42.1.name,x42.1.kids)) (cond (op==43) ((fO n l).bind fun(x43:Ty×Bool)=>some (x43.2,x43.1.kind,x43.1.name,x43.1.kids)) (cond (op==44) ((fO n l).bind fun(x44:Ty×Bool)=>some (x44.2,x44.1.kind,x44.1.name,x44.1.kids)) (cond (op==45) ((fO n l).bind fun(x45:Ty×Bool)=>some (x45.2,x45.1.kind,x45.1.name,x45.1.kids)) (cond (op==46) ((sW n l).bind fun(x46:Ty×Bool)=>some (x46.2,x46.1.kind,x46.1.name,x46.1.kids)) (cond (op==47) ((sO n l).bind fun(x47:Ty×Bool)=>some (x47.2,x47.1.kind,x47.1.name,x47.1.kids)) (cond (op==48) ((lS n l).bind fun(x48:Ty×Bool)=>some (x48.2,x48.1.kind,x48.1.name,x48.1.kids)) (cond (op==49) ((lS n l).bind fun(x49:Ty×Bool)=>some (x49.2,x49.1.kind,x49.1.name,x49.1.kids)) (cond (op==50) ((mg n l).bind fun(x50:Ty×Bool)=>some (x50.2,x50.1.kind,x50.1.name,x50.1.kids)) (cond (op==51) ((lV n l).bind fun(x51:Ty×Bool)=>some (x51.2,x51.1.kind,x51.1.name,x51.1.kids)) (cond (op==52) ((l8 n l).bind fun(x52:Ty×Bool)=>some (x52.2,x52.1.kind,x52.1.name,x52.1.kids)) (cond (op==53) ((lU n l).bind fun(x53:Ty×Bool)=>some (x53.2,x53.1.kind,x53.1.name,x53.1.kids)) (cond (op==54) ((mF n l).bind fun(x54:Ty×Bool)=>some (x54.2,x54.1.kind,x54.1.name,x54.1.kids)) (cond (op==55) ((Ad n l).bind fun(x55:Ty×Bool)=>some (x55.2,x55.1.kind,x55.1.name,x55.1.kids)) (cond (op==56) ((wT n l).bind fun(x56:Ty×Bool)=>some (x56.2,x56.1.kind,x56.1.name,x56.1.kids)) none))))))))))))))))))))))))))))))))))))))))))))))))))))))))
theorem ahL{op:Int}(h1:1≤op)(h2:op≤56):op=1∨op=2∨op=3∨op=4∨op=5∨op=6∨op=7∨op=8∨op=9∨op=10∨op=11∨op=12∨op=13∨op=14∨op=15∨op=16∨op=17∨op=18∨op=19∨op=20∨op=21∨op=22∨op=23∨op=24∨op=25∨op=26∨op=27∨op=28∨op=29∨op=30∨op=31∨op=32∨op=33∨op=34∨op=35∨op=36∨op=37∨op=38∨op=39∨op=40∨op=41∨op=42∨op=43∨op=44∨op=45∨op=46∨op=47∨op=48∨op=49∨op=50∨op=51∨op=52∨op=53∨op=54∨op=55∨op=56:=by omega
theorem uT{α:Type}(l:List α)(h:(l.length:Int)=1):∃a,l=[a]:=by
 match l,h with
 | [a],_=>exact⟨a,rfl⟩
theorem cO{α:Type}(l:List α)(h:(l.length:Int)=2):∃a b,l=[a,b]:=by
 match l,h with
 | [a,b],_=>exact⟨a,b,rfl⟩
theorem Jm{α:Type}(l:List α)(h:l≠[]):∃a m,l=a::m:=by
 match l,h with
 | a::m,_=>exact⟨a,m,rfl⟩
structure LenOk(op:Int)(l:List Ty):Prop where
 one:fG op=1→(l.length:Int)=1
 two:fG op=2→(l.length:Int)=2
 some:fG op= -1→l≠[]
set_option maxRecDepth 100000 in
theorem au3{op:Int}(h1:1≤op)(h2:op≤56)(h20:op≠20)(h29:op≠29){l:List Ty}(hl:∀t∈l,Top t)(hn:LenOk op l)(hb:dx op=true→(aO (l.headD aW)).isSome=true):aDP (fun n=>axj n op l) (iY op l):=by
 rcases ahL h1 h2 with rfl | rfl | rfl | rfl | rfl | rfl | rfl | rfl | rfl | rfl | rfl | rfl | rfl | rfl | rfl | rfl | rfl | rfl | rfl | rfl | rfl | rfl | rfl | rfl | rfl | rfl | rfl | rfl | rfl | rfl | rfl | rfl | rfl | rfl | rfl | rfl | rfl | rfl | rfl | rfl | rfl | rfl | rfl | rfl | rfl | rfl | rfl | rfl | rfl | rfl | rfl | rfl | rfl | rfl | rfl | rfl
 ·exact⟨_,Ev.ret _,rfl⟩
 ·exact⟨_,Ev.ret _,rfl⟩
 ·exact Row.c (kQ l 2 [] [] 2)
 ·exact Row.c (kQ l 2 [] [] 2)
 ·exact Row.c (kQ l 2 [] [] 2)
 ·exact Row.c (kQ l 2 [] [] 2)
 ·exact Row.c (kQ l 2 [] [] 2)
 ·obtain⟨a,b,rfl⟩:=cO l (hn.two rfl);exact Row.c (akB (hb rfl))
 ·obtain⟨a,b,rfl⟩:=cO l (hn.two rfl);exact Row.c (akB (hb rfl))
 ·obtain⟨a,b,rfl⟩:=cO l (hn.two rfl);exact Row.c (ao7)
 ·obtain⟨a,b,rfl⟩:=cO l (hn.two rfl);exact Row.c (ao7)
 ·exact Row.c (kQ l 2 [] [] 1)
 ·exact Row.c (kQ l 2 [] [] 1)
 ·exact Row.c (kQ l 2 [] [] 1)
 ·exact Row.c (kQ l 2 [] [] 1)
 ·obtain⟨a,b,rfl⟩:=cO l (hn.two rfl);exact Row.c (afY (hl b (by simp)))
 ·obtain⟨a,b,rfl⟩:=cO l (hn.two rfl);exact Row.c (afY (hl b (by simp)))
 ·obtain⟨a,b,rfl⟩:=cO l (hn.two rfl);exact Row.c (axa (hl a (by simp)))
 ·exact⟨_,Ev.ret _,rfl⟩
 ·exact absurd rfl h20
 ·exact Row.c (kQ l 1 [] [] 1)
 ·exact Row.c (kQ l 1 [] [] 1)
 ·exact Row.c (kQ l 1 [] [] 1)
 ·exact Row.c (kQ l 1 [] [] 1)
 ·exact Row.c (kQ l 1 [] [] 1)
 ·exact Row.c (kQ l 1 [] [] 1)
 ·obtain⟨a,b,rfl⟩:=cO l (hn.two rfl);exact Row.c (ay6)
 ·obtain⟨a,l,rfl⟩:=Jm l (hn.some rfl);exact Row.c (aBx l)
 ·exact absurd rfl h29
 ·exact Row.c (kQ l 5 [] [bY] 1)
 ·obtain⟨a,b,rfl⟩:=cO l (hn.two rfl);exact Row.c (YF (hl a (by simp)))
 ·obtain⟨a,b,rfl⟩:=cO l (hn.two rfl);exact Row.c (YF (hl a (by simp)))
 ·obtain⟨a,b,rfl⟩:=cO l (hn.two rfl);exact Row.c (YF (hl a (by simp)))
 ·obtain⟨a,b,rfl⟩:=cO l (hn.two rfl);exact Row.c (ayR (hl a (by simp)) (hl b (by simp)))
 ·obtain⟨a,b,rfl⟩:=cO l (hn.two rfl);exact Row.c (ay2 (hl a (by simp)))
 ·obtain⟨a,b,rfl⟩:=cO l (hn.two rfl);exact Row.c (azx (hl a (by simp)) (hl b (by simp)))
 ·obtain⟨a,b,rfl⟩:=cO l (hn.two rfl);exact Row.c (am5 (hl a (by simp)) (hl b (by simp)))
 ·obtain⟨a,b,rfl⟩:=cO l (hn.two rfl);exact Row.c (am5 (hl a (by simp)) (hl b (by simp)))
 ·obtain⟨a,b,rfl⟩:=cO l (hn.two rfl);exact Row.c (apT (hl a (by simp)) (hl b (by simp)))
 ·obtain⟨a,b,rfl⟩:=cO l (hn.two rfl);exact Row.c (apT (hl a (by simp)) (hl b (by simp)))
 ·obtain⟨a,b,rfl⟩:=cO l (hn.two rfl);exact Row.c (OB (hl a (by simp)) (hl b (by simp)))
 ·obtain⟨a,b,rfl⟩:=cO l (hn.two rfl);exact Row.c (OB (hl a (by simp)) (hl b (by simp)))
 ·obtain⟨a,b,rfl⟩:=cO l (hn.two rfl);exact Row.c (OB (hl a (by simp)) (hl b (by simp)))
 ·obtain⟨a,b,rfl⟩:=cO l (hn.two rfl);exact Row.c (OB (hl a (by simp)) (hl b (by simp)))
 ·obtain⟨a,b,rfl⟩:=cO l (hn.two rfl);exact Row.c (OB (hl a (by simp)) (hl b (by simp)))
 ·obtain⟨a,rfl⟩:=uT l (hn.one rfl);exact Row.c (aB8 (hl a (by simp)))
 ·obtain⟨a,rfl⟩:=uT l (hn.one rfl);exact Row.c (azi (hl a (by simp)))
 ·obtain⟨a,rfl⟩:=uT l (hn.one rfl);exact Row.c (arD (hl a (by simp)))
 ·obtain⟨a,rfl⟩:=uT l (hn.one rfl);exact Row.c (arD (hl a (by simp)))
 ·obtain⟨a,rfl⟩:=uT l (hn.one rfl);exact Row.c (aB0 (hl a (by simp)))
 ·obtain⟨a,rfl⟩:=uT l (hn.one rfl);exact Row.c (aA2 (hl a (by simp)))
 ·obtain⟨a,rfl⟩:=uT l (hn.one rfl);exact Row.c (aBy (hl a (by simp)))
 ·obtain⟨a,b,rfl⟩:=cO l (hn.two rfl);exact Row.c (axO (hl a (by simp)) (hl b (by simp)))
 ·obtain⟨a,b,rfl⟩:=cO l (hn.two rfl);exact Row.c (axy (hl a (by simp)))
 ·obtain⟨a,b,rfl⟩:=cO l (hn.two rfl);exact Row.c (awX (hb rfl))
 ·obtain⟨a,b,rfl⟩:=cO l (hn.two rfl);exact Row.c (aAK (hl a (by simp)))
end
section
open Go
end
section
open Go
theorem azZ{α σ τ ρ} l (L:Nat→Nat→Int→σ→Option (LR τ ρ))(step:Nat→Int→α→σ→Option (LR σ ρ)) st fin (I:Int→List α→σ→Prop)
  (h0:∀n k s,L n (k+1) (l.length:Int) s=some (.nx (fin s)))
  (h1:∀n k i x s,idx l i=some x→decide (i<(l.length:Int))=true→L n (k+1) i s=(step n i x s).bind (LR.el (fun s'=>L n k (i+1) s') (fun r=>some (.rt r))))
  (hI:∀i x suf s,x∈l→I i (x::suf) s→idx l i=some x→Ev (fun n=>step n i x s) (st i x s)∧∀s',st i x s=.nx s'→I (i+1) suf s') {s0} (hs0:I 0 l s0):Ev (fun n=>L n n 0 s0) (jO st fin 0 l s0):=by
 have key:∀(suf pre:List α) (s:σ),l=pre++suf→I (pre.length:Int) suf s→∃N,∀n,N≤n→∀k,suf.length+1≤k→L n k (pre.length:Int) s=some (jO st fin (pre.length:Int) suf s):=by
  intro suf
  induction suf with
  | nil=>
   intro pre s hl _;refine⟨0,fun n _ k hk=>?_⟩;cases k with
   | zero=>simp at hk
   | succ k=>
    have e:pre.length=l.length:=by rw[hl];simp
    rw[e,h0];rfl
  | cons x suf ih=>
   intro pre s hl hIs;have hx:idx l (pre.length:Int)=some x:=by rw[hl];exact gF pre x suf
   obtain⟨⟨N1,k1⟩,k2⟩:=hI _ x suf s (by rw[hl];simp) hIs hx;replace k1:∀n,N1≤n→step n (pre.length:Int) x s=some (st (pre.length:Int) x s):=k1;have hi:decide ((pre.length:Int)<(l.length:Int))=true:=decide_eq_true (by rw[hl];simp;omega);cases hs:st (pre.length:Int) x s with
   | rt r=>
    refine⟨N1,fun n hn k hk=>?_⟩;cases k with
    | zero=>simp at hk
    | succ k=>
     rw[h1 n k _ x s hx hi,k1 n hn,hs];simp[jO,hs]
   | nx s'=>
    have h3:=k2 s' hs;have e:((pre++[x]).length:Int)=(pre.length:Int)+1:=by simp
    obtain⟨N2,h4⟩:=ih (pre++[x]) s' (by rw[hl];simp) (by rw[e];exact h3);refine⟨max N1 N2,fun n hn k hk=>?_⟩;cases k with
    | zero=>simp at hk
    | succ k=>
     rw[h1 n k _ x s hx hi,k1 n (by omega),hs];simp only[qAb,LR.el];have:=h4 n (by omega) k (by simp at hk;omega);rw[e] at this;rw[this];simp[jO,hs]
 obtain⟨N,hN⟩:=key l [] s0 rfl hs0;exact⟨max N (l.length+1),fun n hn=>hN n (by omega) n (by omega)⟩
def Wf d t:=∃c,0≤c∧(mf t d c).1=true
theorem asE:∀ts d c,0≤c→(Ag ts d c).1=true→c+ts.length≤(Ag ts d c).2∧∀t∈ts,Wf d t
 | [],_,c,_,_=>by simp[Ag]
 | t::ts,d,c,h0,h=>by
  simp only[Ag] at h⊢;cases hb:(mf t d c).1 with
  | false=>rw[hb] at h;cases h
  | true=>
   rw[hb] at h;simp only[cond_true] at h⊢;have h1:=aaK t d c hb;obtain⟨h2,h3⟩:=asE ts d _ (by omega) h;refine⟨by simp only[qAm];omega,fun u hu=>?_⟩;rcases qAg.1 hu with rfl | hu
   ·exact⟨_,h0,hb⟩
   ·exact h3 u hu
theorem Wf.node{op}{nm}{m}{ty}{ks}{d}(h:Wf d (.mk op nm m ty ks)):rJ (.mk op nm m ty ks)=true∧d≤64∧ks.length≤2000∧∀t∈ks,Wf (d+1) t:=by
 obtain⟨c,h0,h⟩:=h;simp only[mf] at h;cases hb:((decide (c+1≤2000)&&decide (d≤64))&&rJ (.mk op nm m ty ks)) with
 | false=>rw[hb] at h;cases h
 | true=>
  rw[hb] at h;simp only[cond_true] at h;simp only[qAa,decide_eq_true_eq] at hb;obtain⟨h1,h2⟩:=asE _ _ _ (by omega) h;have h3:=aoC ks _ _ h;exact⟨hb.2,hb.1.2,by have:=h3.2 hb.1.1;omega,h2⟩
theorem NP{t}(h:jN t=true):Wf 1 t:=⟨0,by omega,h⟩
theorem auI{op}(h:(fG op== -2)=false):1≤op∧op≤56:=by
 by_cases hr:1≤op∧op≤56
 ·exact hr
 ·exfalso;have e:fG op= -2:=by
   unfold fG;have h1:(op==1 ||(op==2 ||(op==19 ||(op==20 ||op==29))))=false:=by
    simp only[qBv,beq_eq_false_iff_ne];omega
   have h2:(op==3 ||(op==21 ||(decide (46≤op)&&decide (op≤52))))=false:=by
    simp only[qBv,beq_eq_false_iff_ne,qBY,decide_eq_false_iff_not];omega
   have h3:(op==28)=false:=by
    simp only[beq_eq_false_iff_ne];omega
   have h4:(decide (4≤op)&&decide (op≤56))=false:=by
    simp only[qBY,decide_eq_false_iff_not];omega
   rw[h1,h2,h3,h4];rfl
  rw[e] at h;cases h
theorem YL{op}{nm}{m}{ty}{ks}(h:rJ (.mk op nm m ty ks)=true):(1≤op∧op≤56)∧(op=20→ks=[])∧(op=29→ks=[]∧eG ty=true∧(ty.kind==2)=false)∧(∀l:List Ty,l.length=ks.length→LenOk op l)∧(dx op=true→∃x y,ks=[x,y]):=by
 simp only[rJ,qAa,Ah,Tm.op,Tm.kids,qAF] at h;obtain⟨⟨h1,h2⟩,_,_,h5⟩:=h;have hlen:∀q:Int,fG op=q→(q== -1)=false→(ks.length:Int)=q:=fun q e hq=>by
  rw[e,hq] at h2;simpa using h2
 have hnil:fG op=0→ks=[]:=fun e=>by
  have:=hlen 0 e rfl;exact qAw.1 (by omega)
 refine⟨auI h1,fun e=>hnil (by subst e;rfl),fun e=>⟨hnil (by subst e;rfl),?_⟩,fun l hl=>⟨fun e=>by rw[hl];exact hlen 1 e rfl,fun e=>by rw[hl];exact hlen 2 e rfl,fun e=>?_⟩,fun hb=>?_⟩
 ·subst e;have h5':(eG ty&&ty.kind !=2)=true:=h5;simp only[qAa,bne_iff_ne,ne_eq] at h5';exact⟨h5'.1,by simpa using h5'.2⟩
 ·rintro rfl;rw[e] at h2;have:ks=[]:=qAw.1 hl.symm;subst this;cases h2
 ·have:fG op=2:=by
   simp only[dx,qAZ,beq_iff_eq] at hb;rcases hb with rfl | rfl | rfl | rfl<;>rfl
  obtain⟨x,y,e⟩:=cO ks (hlen 2 this rfl);exact⟨x,y,e⟩
inductive TR where
 | ok (t:Ty)
 | er (e:Int) (p:List Int)
inductive KR where
 | ok (l:List Ty)
 | er (e:Int) (p:List Int)
def wK(env:Env)(sc:List Decl)(s:Str):Option Ty:=match sc.find? fun d=>d.name==s with | some d=>some d.ty | none=>look env s
def LQ(o:Option Ty):TR:=match o with | some t=>cond (eG t) (.ok t) (.er 5 []) | none=>.er 7 []
def knows env t:=(dN t).all (bV env)
def tK(b)nm(ty)(sc:List Decl):=cond b ((aO ty).map fun e=>⟨nm,e⟩::sc) (some sc)
mutual
def gJ(env:Env):List Decl→Tm→TR
 | sc,.mk op nm _ ty ks=>
  cond (op==20) (match wK env sc nm with | some t=>.ok t | none=>.er 6 [])
   (cond (op==29&&!(knows env ty)) (.er 6 [])
    (match gZ env sc (dx op) nm 0 ks with
     | .er e p=>.er e p
     | .ok l=>LQ (cond (op==29) (some (ak ty)) (iY op l))))
def gZ(env:Env):List Decl→Bool→Str→Int→List Tm→KR
 | _,_,_,_,[]=>.ok []
 | sc,b,nm,i,t::ts=>match gJ env sc t with
  | .er e p=>.er e (i::p)
  | .ok ty=>match tK b nm ty sc with
   | none=>.er 7 []
   | some sc'=>match gZ env sc' false nm (i+1) ts with
    | .er e p=>.er e p
    | .ok l=>.ok (ty::l)
end
def GoodS(sc:List Decl):=∀d∈sc,Good d.ty
theorem aqk{t}(h:eG t=true)(hb:yt 2 t=false):Good t:=by
 rcases aau h with rfl | h
 ·cases hb
 ·exact h
theorem awM{env}(h:aZ env=true){s}{t}(ht:look env s=some t):Good t:=by
 rw[EF h] at ht;unfold pW at ht;rcases qAn.1 ht with ht | ht
 ·obtain⟨c,hc,ht⟩:=qBn.1 ht;unfold iL at ht;rcases qAg.1 ht with ht | ht
  ·cases ht;exact .set (.car _)
  ·obtain⟨e,_,he⟩:=qAA.1 ht;cases he;exact .car _
 ·obtain⟨d,hd,he⟩:=qAA.1 ht;cases he;obtain⟨_,h1,h2,_⟩:=aha h hd;exact aqk h1 h2
theorem asX{env}(h:aZ env=true){sc}(hs:GoodS sc){s}{t}(ht:wK env sc s=some t):Good t:=by
 unfold wK at ht;cases hf:sc.find? (fun d=>d.name==s) with
 | some d=>rw[hf] at ht;cases ht;exact hs d (qDs hf)
 | none=>rw[hf] at ht;exact awM h ht
theorem ahN{o}{t}(h:LQ o=.ok t):o=some t∧eG t=true:=by
 cases o with
 | none=>cases h
 | some u=>
  simp only[LQ] at h;cases hv:eG u with
  | false=>rw[hv] at h;cases h
  | true=>rw[hv] at h;cases h;exact⟨rfl,hv⟩
theorem arJ{o}{e}{p}(h:LQ o=.er e p):e≠0∧p=[]:=by
 cases o with
 | none=>cases h;exact⟨by decide,rfl⟩
 | some u=>
  simp only[LQ] at h;cases hv:eG u with
  | false=>rw[hv] at h;cases h;exact⟨by decide,rfl⟩
  | true=>rw[hv] at h;cases h
theorem Na{b}{nm}{ty}{sc sc'}(ht:Top ty)(hs:GoodS sc)(h:tK b nm ty sc=some sc'):GoodS sc':=by
 unfold tK at h;cases b with
 | false=>cases h;exact hs
 | true=>
  simp only[cond_true] at h;cases he:aO ty with
  | none=>rw[he] at h;cases h
  | some e=>
   rw[he] at h;cases h;intro d hd;rcases qAg.1 hd with rfl | hd
   ·exact(eT ht he).1
   ·exact hs d hd
theorem yV{env}(h:aZ env=true){t}{sc}(hs:GoodS sc){ty}(ht:gJ env sc t=.ok ty):Top ty:=by
 obtain⟨op,nm,m,u,ks⟩:=t;simp only[gJ] at ht;cases h20:(op==20) with
 | true=>
  rw[h20] at ht;simp only[cond_true] at ht;cases hl:wK env sc nm with
  | none=>rw[hl] at ht;cases ht
  | some t=>rw[hl] at ht;cases ht;exact .inr (asX h hs hl)
 | false=>
  rw[h20] at ht;simp only[cond_false] at ht;cases h29:(op==29&&!(knows env u)) with
  | true=>rw[h29] at ht;cases ht
  | false=>
   rw[h29] at ht;simp only[cond_false] at ht;cases hk:gZ env sc (dx op) nm 0 ks with
   | er e p=>rw[hk] at ht;cases ht
   | ok l=>rw[hk] at ht;exact aau (ahN ht).2
theorem ah4{env}(h:aZ env=true):∀ts sc b nm i l,GoodS sc→gZ env sc b nm i ts=.ok l→l.length=ts.length∧(∀t∈l,Top t)∧(b=true→ts≠[]→(aO (l.headD aW)).isSome=true)
 | [],sc,b,nm,i,l,_,hk=>by
  simp only[gZ] at hk;cases hk;exact⟨rfl,fun t ht=>(by cases ht),fun _ h=>absurd rfl h⟩
 | t::ts,sc,b,nm,i,l,hs,hk=>by
  simp only[gZ] at hk;cases ht:gJ env sc t with
  | er e p=>rw[ht] at hk;cases hk
  | ok ty=>
   rw[ht] at hk;simp only at hk;have htop:=yV h hs ht;cases hb:tK b nm ty sc with
   | none=>rw[hb] at hk;cases hk
   | some sc'=>
    rw[hb] at hk;simp only at hk;cases hr:gZ env sc' false nm (i+1) ts with
    | er e p=>rw[hr] at hk;cases hk
    | ok l'=>
     rw[hr] at hk;cases hk;obtain⟨h1,h2,_⟩:=ah4 h ts sc' false nm (i+1) l' (Na htop hs hb) hr;refine⟨by simp[h1],fun u hu=>?_,fun hbt _=>?_⟩
     ·rcases qAg.1 hu with rfl | hu
      ·exact htop
      ·exact h2 u hu
     ·subst hbt;show(aO ty).isSome=true;unfold tK at hb;cases he:aO ty with
      | none=>rw[he] at hb;cases hb
      | some e=>rfl
mutual
theorem Np{env:Env}:∀t sc e p,gJ env sc t=.er e p→e≠0
 | .mk op nm m u ks,sc,e,p,h=>by
  simp only[gJ] at h;cases h20:(op==20) with
  | true=>
   rw[h20] at h;simp only[cond_true] at h;cases hl:wK env sc nm with
   | none=>rw[hl] at h;cases h;decide
   | some t=>rw[hl] at h;cases h
  | false=>
   rw[h20] at h;simp only[cond_false] at h;cases h29:(op==29&&!(knows env u)) with
   | true=>rw[h29] at h;cases h;decide
   | false=>
    rw[h29] at h;simp only[cond_false] at h;cases hk:gZ env sc (dx op) nm 0 ks with
    | er e' p'=>rw[hk] at h;cases h;exact ar4 ks sc _ nm 0 _ _ hk
    | ok l=>rw[hk] at h;exact(arJ h).1
theorem ar4{env:Env}:∀(ts:List Tm) (sc:List Decl) (b:Bool) (nm:Str) (i:Int) (e:Int) (p:List Int),gZ env sc b nm i ts=.er e p→e≠0
 | [],sc,b,nm,i,e,p,h=>by simp only[gZ] at h;cases h
 | t::ts,sc,b,nm,i,e,p,h=>by
  simp only[gZ] at h;cases ht:gJ env sc t with
  | er e' p'=>rw[ht] at h;cases h;exact Np t sc _ _ ht
  | ok ty=>
   rw[ht] at h;simp only at h;cases hb:tK b nm ty sc with
   | none=>rw[hb] at h;cases h;decide
   | some sc'=>
    rw[hb] at h;simp only at h;cases hr:gZ env sc' false nm (i+1) ts with
    | er e' p'=>rw[hr] at h;cases h;exact ar4 ts sc' false nm _ _ _ hr
    | ok l'=>rw[hr] at h;cases h
end
mutual
theorem aaD{env:Env}:∀{t:Tm} {d:Int} (_:Wf d t) sc e p,gJ env sc t=.er e p→p.length+d≤64
 | .mk op nm m u ks,d,hw,sc,e,p,h=>by
  obtain⟨_,hd,_,hkw⟩:=hw.node;simp only[gJ] at h;cases h20:(op==20) with
  | true=>
   rw[h20] at h;simp only[cond_true] at h;cases hl:wK env sc nm with
   | none=>rw[hl] at h;cases h;simpa using hd
   | some t=>rw[hl] at h;cases h
  | false=>
   rw[h20] at h;simp only[cond_false] at h;cases h29:(op==29&&!(knows env u)) with
   | true=>rw[h29] at h;cases h;simpa using hd
   | false=>
    rw[h29] at h;simp only[cond_false] at h;cases hk:gZ env sc (dx op) nm 0 ks with
    | er e' p'=>rw[hk] at h;cases h;exact ajB ks d hd hkw sc _ nm 0 _ _ hk
    | ok l=>rw[hk] at h;rw[(arJ h).2];simpa using hd
theorem ajB{env:Env}:∀(ts:List Tm) (d:Int) (_:d≤64) (_:∀t∈ts,Wf (d+1) t) (sc:List Decl) (b:Bool) (nm:Str) (i:Int) (e:Int) (p:List Int),gZ env sc b nm i ts=.er e p→(p.length:Int)+d≤64
 | [],d,_,_,sc,b,nm,i,e,p,h=>by simp only[gZ] at h;cases h
 | t::ts,d,hd,hw,sc,b,nm,i,e,p,h=>by
  simp only[gZ] at h;cases ht:gJ env sc t with
  | er e' p'=>
   rw[ht] at h;cases h;have:=aaD (hw t (qBF ..)) sc _ _ ht;simp only[qAm,qDA,qDB];omega
  | ok ty=>
   rw[ht] at h;simp only at h;cases hb:tK b nm ty sc with
   | none=>rw[hb] at h;cases h;simpa using hd
   | some sc'=>
    rw[hb] at h;simp only at h;cases hr:gZ env sc' false nm (i+1) ts with
    | er e' p'=>rw[hr] at h;cases h;exact ajB ts d hd (fun u hu=>hw u (qAl _ hu)) sc' false nm _ _ _ hr
    | ok l'=>rw[hr] at h;cases h
end
end
section
open Go
inductive RR(β:Type) where
 | ok (v:β)
 | er (e:Int)
abbrev VR:=RR Val
abbrev Uk:=RR (List Val)
def RR.thn{β γ:Type}(r:RR β)(f:β→RR γ):=match r with | .ok v=>f v | .er e=>.er e
def gD:List VR→Uk
 | []=>.ok []
 | .er e::_=>.er e
 | .ok v::r=>match gD r with | .er e=>.er e | .ok l=>.ok (v::l)
def v0:Val:=.mk 0 0 [] []
def R9(n:Int):Val:=.mk 1 n [] []
def gH(b:Bool):Val:=cond b (.mk 2 1 [] []) (.mk 2 0 [] [])
def dh(a b:Val):Val:=.mk 4 0 [] [a,b]
def mkSet(l:List Val):Val:=.mk 5 0 [] l
def NZ l:=mkSet (sortV l)
def bK(p:Val):=p.kids.headD v0
def dH(p:Val):=(p.kids.drop 1).headD v0
def qp a b:=bH a b==0
def bG(l:List Val)x:=l.any fun y=>qp y x
def atZ n:=decide (1000000000<n) ||decide (n< -1000000000)
def wP(n:Int):VR:=cond (atZ n) (.er 11) (.ok (R9 n))
def pX(l:List Val):VR:=cond (decide (256<((sortV l).length:Int))) (.er 11) (.ok (NZ l))
def nE(l:List Val):=sortV (l.map bK)
def qF(l:List Val):=sortV (l.map dH)
def ints(a:Int):Nat→List Val
 | 0=>[]
 | n+1=>R9 a::ints (a+1) n
def uX(l m:List Val):=l.length==(m.length:Int)
def zX(op:Int)a b l:=
 l.all (fun p=>bG a (bK p)&&bG b (dH p))&&
 cond (op==41) true (cond (op==42) (uX (nE l) l) (cond (op==43) (uX (nE l) l&&uX (nE l) a)
  (cond (op==44) (uX (nE l) l&&(uX (nE l) a&&uX (qF l) l)) (uX (nE l) l&&(uX (nE l) a&&(uX (qF l) l&&uX (qF l) b))))))
def uW(l:List Val):=l.foldl (fun out x=>out++out.map fun r=>r++[x]) [[]]
def yF(op m n:Int):=cond (op==45&&m !=n) true (decide (44≤op)&&decide (n<m))
def aij(op n i:Int):=cond (op==41) (2^n.toNat) (cond (op==42) (n+1) (cond (op==44 ||op==45) (n - i) n))
def wB(op n:Int):Nat→Int→Int→Bool
 | 0,_,_=>false
 | k+1,i,c=>cond (op==41&&decide (8<n)) true (cond (aij op n i==0) false (cond (decide (256<c*aij op n i)) true (wB op n k (i+1) (c*aij op n i))))
def lN(op:Int)(a b:List Val):List Val→List Val→List Val
 | [],l=>cond (zX op a b l) [NZ l] []
 | x::xs,l=>cond (op==41) ((uW b).flatMap fun im=>lN op a b xs (l++im.map (dh x)))
  (cond (op==42) (lN op a b xs l) []++b.flatMap fun v=>cond (decide (44≤op)&&bG (qF l) v) [] (lN op a b xs (l++[dh x v])))
def I5(op:Int)(a b:List Val):Uk:=
 cond (yF op a.length b.length) (.ok []) (cond (wB op b.length a.length 0 1) (.er 11) (.ok (lN op a b a [])))
def Gl(op:Int)(a b:Val):=
 cond (op==30) (cond (decide (256≤b.n - a.n)) (.er 11) (.ok (ints a.n (b.n+1 - a.n).toNat))) <|
 cond (op==31) (.ok (a.kids++b.kids)) <|
 cond (op==32) (.ok (a.kids.filter (bG b.kids))) <|
 cond (op==33) (.ok (a.kids.filter fun x=>!bG b.kids x)) <|
 cond (op==34) (cond (decide (256<(a.kids.length:Int)*b.kids.length)) (.er 11) (.ok (a.kids.flatMap fun x=>b.kids.map (dh x)))) <|
 cond (op==35) (.ok (a.kids.filter (fun p=>!bG (nE b.kids) (bK p))++b.kids)) <|
 cond (op==36) (.ok (a.kids.flatMap fun p=>b.kids.flatMap fun q=>cond (qp (dH p) (bK q)) [dh (bK p) (dH q)] [])) <|
 cond (op==37) (.ok (b.kids.filter fun p=>bG a.kids (bK p))) <|
 cond (op==38) (.ok (b.kids.filter fun p=>!bG a.kids (bK p))) <|
 cond (op==39) (.ok (a.kids.filter fun p=>bG b.kids (dH p))) <|
 cond (op==40) (.ok (a.kids.filter fun p=>!bG b.kids (dH p))) <|
 cond (op==46) (cond (decide (8<(a.kids.length:Int))) (.er 11) (.ok ((uW a.kids).map mkSet))) <|
 cond (op==50) (.ok (nE a.kids)) <|
 cond (op==51) (.ok (qF a.kids)) <|
 cond (op==52) (.ok (a.kids.map fun p=>dh (dH p) (bK p))) <|
 cond (op==53) (.ok (qF (a.kids.filter fun p=>bG b.kids (bK p)))) <|
 I5 op a.kids b.kids
def aoe(op a b:Int):=
 cond (op==21) (wP (-a)) <|
 cond (op==22) (wP (a+b)) <|
 cond (op==23) (wP (a - b)) <|
 cond (op==24) (wP (a*b)) <|
 cond (op==25) (cond (b==0) (.er 10) (wP (Int.tdiv a b))) <|
 cond (decide (a<0) ||decide (b<1)) (.er 10) (wP (Int.tmod a b))
def aiB(a b:Val):VR:=match a.kids.filter fun p=>qp (bK p) b with
 | [p]=>.ok (dH p)
 | _=>.er 10
def DY op a b:=
 cond (op==3) (.ok (gH (a.n==0))) <|
 cond (op==7) (.ok (gH (a.n==b.n))) <|
 cond (op==10) (.ok (gH (qp a b))) <|
 cond (op==11) (.ok (gH (!qp a b))) <|
 cond (op==12) (.ok (gH (decide (a.n<b.n)))) <|
 cond (op==13) (.ok (gH (decide (a.n≤b.n)))) <|
 cond (op==14) (.ok (gH (decide (b.n<a.n)))) <|
 cond (op==15) (.ok (gH (decide (b.n≤a.n)))) <|
 cond (op==27) (.ok (dh a b)) <|
 cond (op==54) (aiB a b) <|
 cond (decide (op≤26)) (aoe op a.n b.n) <|
 cond (op==47) (wP a.kids.length) <|
 cond (op==48) (match a.kids with | []=>.er 10 | x::_=>.ok x) <|
 cond (op==49) (match a.kids.getLast? with | none=>.er 10 | some x=>.ok x) <|
 (Gl op a b).thn pX
def Aa(op:Int):=decide (41≤op)&&decide (op≤46)
def uL(op)(l:List Val)x:=
 cond (Aa op) (cond (op==46) (x.kids.all (bG (l.headD v0).kids)) (zX op (l.headD v0).kids ((l.drop 1).headD v0).kids x.kids)) (bG (l.headD v0).kids x)
def aaI(op:Int)(xs ys:List Val):=
 cond (op==8) (.ok (gH (ys.all fun y=>y.n==1))) <|
 cond (op==9) (.ok (gH (ys.any fun y=>y.n==1))) <|
 pX ((xs.zip ys).flatMap fun p=>cond (op==56) [dh p.1 p.2] (cond (p.2.n==1) [p.1] []))
abbrev Sem:=List Bound→VR
structure Kd where
 op:Int
 f:Sem
 gs:List Sem
def kd0:Kd:=⟨0,fun _=>.er 0,[]⟩
def Ll(k:Kd)bs:=cond (Aa k.op) (gD (k.gs.map fun g=>g bs)) (gD [k.f bs])
def anL(op:Int)(k:Kd)(bs:List Bound)(x:Val):VR:=(Ll k bs).thn fun l=>.ok (gH (cond (op==18) (x.kids.all (uL k.op l)) (uL k.op l x==(op==16))))
def og(f:Sem)nm(bs)(xs:List Val):=gD (xs.map fun x=>f (⟨nm,x⟩::bs))
def gX op l:=cond (op==28) (pX l) (DY op (l.headD v0) ((l.drop 1).headD v0))
def agj(g:Str→Val)(bs:List Bound)(s:Str):Val:=match bs.find? fun b=>b.name==s with
 | some b=>b.v
 | none=>g s
def Zr(g:Str→Val)op(nm:Str)(m:Int)(ks:List Kd)(bs:List Bound):=
 let k0:=ks.headD kd0
 let k1:=(ks.drop 1).headD kd0
 cond (op==1 ||op==2) (.ok (gH (op==1))) <|
 cond (op==19) (wP m) <|
 cond (op==20) (.ok (agj g bs nm)) <|
 cond (op==29) (.ok (mkSet [])) <|
 cond (op==4 ||(op==5 ||op==6)) ((k0.f bs).thn fun p=>cond (op==4&&!(p.n==1)) (.ok (gH false)) (cond ((op==5&&p.n==1) ||(op==6&&!(p.n==1))) (.ok (gH true)) (k1.f bs))) <|
 cond (dx op) ((k0.f bs).thn fun s=>(og k1.f nm bs s.kids).thn fun ys=>aaI op s.kids ys) <|
 cond (op==16 ||(op==17 ||op==18)) ((k0.f bs).thn (anL op k1 bs)) <|
 (gD (ks.map fun k=>k.f bs)).thn (gX op)
mutual
def aI(g:Str→Val):Tm→Sem
 | .mk op nm m _ ks=>Zr g op nm m (ac8 g ks)
def ac8(g:Str→Val):List Tm→List Kd
 | []=>[]
 | .mk op nm m _ ks::ts=>⟨op,Zr g op nm m (ac8 g ks),am0 g ks⟩::ac8 g ts
def am0(g:Str→Val):List Tm→List Sem
 | []=>[]
 | .mk op nm m _ ks::ts=>Zr g op nm m (ac8 g ks)::am0 g ts
end
def Eu(g:Str→Val)(t:Tm):Kd:=⟨t.op,aI g t,t.kids.map (aI g)⟩
theorem asr g:∀ts:List Tm,am0 g ts=ts.map (aI g)
 | []=>by rw[am0,qCV]
 | .mk op nm m ty ks::ts=>by rw[am0,qAu,aI,asr g ts]
theorem asy g:∀ts:List Tm,ac8 g ts=ts.map (Eu g)
 | []=>by rw[ac8,qCV]
 | .mk op nm m ty ks::ts=>by rw[ac8,qAu,Eu,aI,asy g ts,asr];rfl
theorem zq g op nm m ty ks:aI g (.mk op nm m ty ks)=Zr g op nm m (ks.map (Eu g)):=by rw[aI,asy]
end
section
open Go
theorem KC n (qbn:(List Val)→(List Val)→Option Bool)(qbm:Val→Val→Option Bool) p0 p1 k s:yM n qbn qbm p0 p1 (k+1) s=wE n qbn qbm p0 p1 (yM n qbn qbm p0 p1 k) s:=rfl
theorem OL n (qby:Val→Option Val) x1 k s:Ce n qby x1 (k+1) s=Ap n qby x1 (Ce n qby x1 k) s:=rfl
mutual
def qh:Val→Prop
 | .mk _ _ _ ks=>ks.length*56≤140737488355328∧Gu ks
def Gu:List Val→Prop
 | []=>True
 | v::vs=>qh v∧Gu vs
end
theorem afK:∀{vs:List Val},Gu vs→∀v∈vs,qh v
 | [],_,_,h=>by cases h
 | v::vs,h,u,hu=>by
  simp only[Gu] at h;rcases qAg.1 hu with rfl | hu
  ·exact h.1
  ·exact afK h.2 u hu
theorem qh.kids{v}(h:qh v):v.kids.length*56≤140737488355328∧∀u∈v.kids,qh u:=by
 cases v;simp only[qh] at h;exact⟨h.1,afK h.2⟩
theorem iB{l ys:List Val}(h:(l.length+ys.length)*56≤140737488355328):app 56 l ys=some (l++ys):=by
 unfold app;rw[if_pos ⟨h,by omega⟩]
theorem KG{α} x (l:List α):idx (x::l) 0=some x:=by simp[idx]
theorem awu{α:Type}:∀pre x (suf:List α),(pre++x::suf).set pre.length x=pre++x::suf
 | [],_,_=>rfl
 | p::pre,x,suf=>by simp
theorem acp l:∀asx pre,l=pre++asx→(∀a∈asx,Ev (fun n=>rU n a) a)→∃N,∀n,N≤n→∀k,asx.length+1≤k→Ce n (fun p0=>rU n p0) l k ((pre.length:Int),pre++asx)=some (.nx (pre++asx))
 | [],pre,hp,_=>by
  refine⟨0,fun n _ k hk=>?_⟩;obtain⟨j,rfl⟩:∃j,k=j+1:=⟨k - 1,by simp at hk;omega⟩;rw[OL];unfold Ap;rw[decide_eq_false (by rw[hp];simp)];rfl
 | a::asx,pre,hp,H=>by
  obtain⟨N1,h1⟩:=H a (by simp);obtain⟨N2,h2⟩:=acp l asx (pre++[a]) (by simp[hp]) (fun x hx=>H x (by simp[hx]));refine⟨N1+N2,fun n hn k hk=>?_⟩;obtain⟨j,rfl⟩:∃j,k=j+1:=⟨k - 1,by simp at hk;omega⟩;have h1:rU n a=_:=h1 n (by omega);have h2:=h2 n (by omega) j (by simp at hk;omega);rw[OL];unfold Ap;rw[decide_eq_true (by rw[hp];simp;omega)];simp only[cond_true,gF,qAb];rw[h1];simp only[qAb];have e:upd (pre++a::asx) (pre.length:Int) a=pre++a::asx:=by
   unfold upd;rw[qBm,awu]
  rw[e,show(pre.length:Int)+1=((pre++[a]).length:Int) by simp];simpa using h2
theorem YP v (hv:qh v):Ev (fun n=>rU n v) v:=by
 induction v using Val.ind with
 | h k n s ks ih=>
  obtain⟨h1,h2⟩:=hv.kids;simp only[Val.kids] at h1 h2;obtain⟨N,h⟩:=acp ks ks [] rfl (fun a ha=>ih a ha (h2 a ha));refine Ev.succ ⟨N+ks.length+1,fun m hm=>?_⟩;have:=h m (by omega) m (by omega);show ES m _ (.mk k n s ks)=_;unfold ES Bb wF;simp only[Val.kids];rw[iB (by simpa using h1)];simp only[qAb,qAt,qAK] at this⊢;rw[show((0:Nat):Int)=0 from rfl] at this;rw[this];rfl
def msV(l:List Val):Val×Int:=cond (decide (256<((sortV l).length:Int))) (.mk 0 0 [] [],11) (.mk 5 0 [] (sortV l),0)
theorem aa1 x y:(lex x y==0)=(x==0&&y==0):=by
 rw[qBw];simp[Jp]
theorem ajU:∀asx,(∀a∈asx,∀b,Ev (fun n=>fq n a b) (bH a b==0))→∀(bs pa pb),pa.length=pb.length→asx.length=bs.length→∃N,∀n,N≤n→∀k,asx.length+1≤k→yM n (fun p0 p1=>uq n p0 p1) (fun p0 p1=>fq n p0 p1) (pa++asx) (pb++bs) k (pa.length:Int)=some (cond (dI asx bs==0) (.nx ()) (.rt false))
 | [],_,bs,pa,pb,hp,hl=>by
  have:bs=[]:=qAw.1 (by simpa using hl.symm);subst this;refine⟨0,fun n _ k hk=>?_⟩;obtain⟨j,rfl⟩:∃j,k=j+1:=⟨k - 1,by simp at hk;omega⟩;rw[KC];unfold wE;rw[decide_eq_false (by simp)];rfl
 | a::asx,H,[],pa,pb,hp,hl=>by simp at hl
 | a::asx,H,b::bs,pa,pb,hp,hl=>by
  obtain⟨N1,h1⟩:=H a (by simp) b;obtain⟨N2,h2⟩:=ajU asx (fun x hx=>H x (by simp[hx])) bs (pa++[a]) (pb++[b]) (by simp[hp]) (by simpa using hl);refine⟨N1+N2,fun n hn k hk=>?_⟩;obtain⟨j,rfl⟩:∃j,k=j+1:=⟨k - 1,by simp at hk;omega⟩;have h1:fq n a b=_:=h1 n (by omega);have h2:=h2 n (by omega) j (by simp at hk;omega);rw[KC];unfold wE;rw[decide_eq_true (by simp<;>omega),gF];simp only[cond_true,qAb];rw[show(pa.length:Int)=(pb.length:Int) by rw[hp],gF];simp only[qAb];rw[h1];simp only[qAb,rP,aa1];cases bH a b==0 with
  | false=>rfl
  | true=>
   simp only[qAC,cond_false,qAz];rw[show(pb.length:Int)+1=((pa++[a]).length:Int) by simp[hp]];simpa using h2
theorem TD l m (H:∀a∈l,∀b,Ev (fun n=>fq n a b) (bH a b==0)):Ev (fun n=>uq n l m) (dI l m==0):=by
 refine Ev.succ ?_;show Ev (fun n=>AP n _ _ l m) _;unfold AP;by_cases hl:l.length=m.length
 ·obtain⟨N,h⟩:=ajU l H m [] [] rfl hl;refine⟨N+l.length+1,fun n hn=>?_⟩;have:=h n (by omega) n (by omega);have e:((l.length:Int)!=(m.length:Int))=false:=by simp[hl]
  rw[e];simp only[cond_false,qAt,qAK] at this⊢;rw[show((0:Nat):Int)=0 from rfl] at this;rw[this];cases dI l m==0<;>rfl
 ·have e:((l.length:Int)!=(m.length:Int))=true:=by simp<;>omega
  have e2:(dI l m==0)=false:=by
   cases h:dI l m==0 with
   | false=>rfl
   | true=>exact absurd (congrArg List.length ((Vm l m).1 (by simpa using h))) hl
  rw[e,e2];exact Ev.ret _
theorem aaf a b:Ev (fun n=>fq n a b) (bH a b==0):=by
 revert b
 induction a using Val.ind with
 | h k n s ks ih=>
  intro b;obtain⟨k',n',s',ks'⟩:=b;refine Ev.succ ?_;show Ev (fun m=>Dk m _ _ (.mk k n s ks) (.mk k' n' s' ks')) _;unfold Dk;simp only[Val.kind,Val.n,Val.name,Val.kids];have e1:(jQ k k'==0)=(k==k'):=by rw[qBw];simp[pY]
  have e2:(jQ n n'==0)=(n==n'):=by rw[qBw];simp[pY]
  have e3:(Lib.compareBytes s s'==0)=(s==s'):=by rw[qBw];simp[Nu]
  rw[Cy,aa1,aa1,aa1,e1,e2,e3];cases k==k' with
  | false=>exact Ev.bind (Ev.ret _) (Ev.ret _)
  | true=>
   cases n==n' with
   | false=>exact Ev.bind (Ev.ret _) (Ev.ret _)
   | true=>
    cases s==s' with
    | false=>exact Ev.bind (Ev.ret _) (Ev.ret _)
    | true=>exact Ev.bind (Ev.bind (TD ks ks' ih) (Ev.ret _)) (Ev.ret _)
end
end Abs
end Go.Proofs.YtneeginmfjageaaGreat
