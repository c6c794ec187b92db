/-
  Terms that are alike: the program's and the document's function come to the same plain answer. Conditions: valid terms; lemmas without a program.
-/
import Derived.Test.YtbijdmihdagfaaaGreatDoorCP9ox606b02
set_option linter.all false
namespace Go.Proofs.YtbijdmihdagfaaaGreatDoor
namespace Abs
open Go
theorem U7:∀t u:Ty,Ev (fun n=>ko n t u) (bJ t u):=Ty.ind fun k nm ks ih u=>by
 obtain⟨k',nm',ks'⟩:=u;refine Ev.succ ?_;show Ev (fun n=>vk n _ _ (.mk k nm ks) (.mk k' nm' ks')) _;unfold vk;simp only[Ty.kind,Ty.name,Ty.kids,bJ];cases k==k' with
 |false=>exact Ev.ret _
 |true=>
  cases nm==nm' with
  |false=>exact Ev.ret _
  |true=>
   simp only[cond_true,qAy];refine Ev.bind (a:=nJ ks ks') (Ev.bind (a:=nJ ks ks') (Ev.succ ?_) (Ev.ret _)) (Ev.ret _);show Ev (fun n=>kP n _ _ ks ks') _;unfold kP;simp only[bne];cases hl:(ks.length:Int)==(ks'.length:Int)with
   |false=>
    have:ks.length≠ks'.length:=fun e=>by simp[e]at hl
    rw[Jl ks ks' this];exact Ev.ret _
   |true=>
    have hlen:ks.length=ks'.length:=by have:=beq_iff_eq.1 hl;omega
    simp only[qAt,cond_false];have h:=Qt ks ks' hlen (fun n k'' i=>sV n (ko n) (kD n) ks ks' k'' i) (fun n x y=>(ko n x y).bind fun b=>some (!b)) (fun x y=>!(bJ x y)) false
     (fun n k'' i=>by
      show cond _ _ _=_;congr 1;congr 1;funext x;congr 1;funext y;simp only[qAU,qAb];rfl)
     (fun x hx y=>Ev.bind (ih x hx y) (Ev.ret _))
    rw[JC ks ks' hlen]at h;refine Ev.bind h ?_;cases nJ ks ks'
    ·exact Ev.ret _
    ·exact Ev.ret _
theorem QW(n:Nat)(s:Str)(l:List Str)(hl:l.length≤100000):oN n l s=some (lastB s l):=by
 unfold oN;rw[decide_eq_true hl];rfl
def uW(b:Bool)(i:Int)(s:Str)(X:List Str):List Str:=bif b&&(i==1)then X++[s]else X
mutual
def lQ:Tm→Tm→List Str→List Str→Bool
 | .mk op nm n ty ks,.mk op' nm' n' ty' ks',X,Y=>((op==op')&&((n==n')&&(bJ ty ty'&&(ks.length==ks'.length))))&&
  (bif op==20 then(lastB nm X==lastB nm' Y)&&(decide (0≤lastB nm X) ||(nm==nm'))else pR (bf op) nm nm' 0 ks ks' X Y)
def pR:Bool→Str→Str→Int→List Tm→List Tm→List Str→List Str→Bool
 |_,_,_,_,[],_,_,_=>true
 |_,_,_,_,_::_,[],_,_=>true
 |b,s,s',i,a::ks,c::ks',X,Y=>lQ a c (uW b i s X) (uW b i s' Y)&&pR b s s' (i+1) ks ks' X Y
end
theorem afS{b:Bool}{i:Int}{s s':Str}{X Y:List Str}(h:X.length=Y.length):(uW b i s X).length=(uW b i s' Y).length:=by
 unfold uW;cases b&&(i==1)<;>simp[h]
theorem ai8{b:Bool}{i:Int}{s:Str}{X:List Str}:(uW b i s X).length≤X.length+1:=by
 unfold uW;cases b&&(i==1)<;>simp
theorem aeT{op:Int}{nm nm':Str}{ks ks':List Tm}{X Y:List Str}(hl:ks.length=ks'.length)(A:Nat→Tm→Tm→List Str→List Str→Option Bool)(L:Nat→Nat→Int→Option (LR Unit Bool))
  (h0:∀n k,L n (k+1) (ks.length:Int)=some (.nx ()))
  (h1:∀n k i x,idx ks i=some x→decide (i<(ks.length:Int))=true→L n (k+1) i=(idx ks' i).bind fun y=>(A n x y (uW (bf op) i nm X) (uW (bf op) i nm' Y)).bind fun b=>cond (!b) (some (.rt false)) (L n k (i+1)))
  (ih:∀x∈ks,∀y i,Ev (fun n=>A n x y (uW (bf op) i nm X) (uW (bf op) i nm' Y)) (lQ x y (uW (bf op) i nm X) (uW (bf op) i nm' Y))):
  Ev (fun n=>L n n 0) (cond (pR (bf op) nm nm' 0 ks ks' X Y) (.nx ()) (.rt false)):=by
 have key:∀(suf suf' pre pre':List Tm),ks=pre++suf→ks'=pre'++suf'→pre.length=pre'.length→
   ∃N,∀n,N≤n→∀k,suf.length+1≤k→L n k (pre.length:Int)=some (cond (pR (bf op) nm nm' (pre.length:Int) suf suf' X Y) (.nx ()) (.rt false)):=by
  intro suf
  induction suf with
  |nil=>
   intro suf' pre pre' e _ _;refine⟨0,fun n _ k hk=>?_⟩;obtain⟨k,rfl⟩:∃j,k=j+1:=⟨k - 1,by simp at hk;omega⟩;have e2:(pre.length:Int)=(ks.length:Int):=by rw[e];simp
   rw[e2,h0];rfl
  |cons x suf ihs=>
   intro suf' pre pre' e e' hp;cases suf' with
   |nil=>exfalso;rw[e,e']at hl;simp at hl;omega
   |cons y suf'=>
    obtain⟨N1,g1⟩:=ih x (by rw[e];simp) y (pre.length:Int);obtain⟨N2,g2⟩:=ihs suf' (pre++[x]) (pre'++[y]) (by simp[e]) (by simp[e']) (by simp[hp]);refine⟨max N1 N2,fun n hn k hk=>?_⟩;have g1:A n x y (uW (bf op) (pre.length:Int) nm X) (uW (bf op) (pre.length:Int) nm' Y)=_:=g1 n (by omega);obtain⟨k,rfl⟩:∃j,k=j+1:=⟨k - 1,by simp at hk;omega⟩;rw[h1 n k _ x (by rw[e];exact xR _ _ _) (decide_eq_true (by rw[e];simp;omega))];have hy:idx ks' (pre.length:Int)=some y:=by rw[hp,e'];exact xR _ _ _
    have g2:=g2 n (by omega) k (by simp at hk;omega);have e3:((pre++[x]).length:Int)=(pre.length:Int)+1:=by simp
    rw[e3]at g2;rw[hy,qAb,g1,qAb,g2];simp only[pR];cases lQ x y (uW (bf op) (pre.length:Int) nm X) (uW (bf op) (pre.length:Int) nm' Y)<;>rfl
 obtain⟨N,h⟩:=key ks ks' [] [] rfl rfl rfl;exact⟨N+ks.length+1,fun n hn=>h n (by omega) n (by omega)⟩
theorem aeF{op op' n0 n1:Int}{nm nm':Str}{ty ty':Ty}{ks ks':List Tm}{X Y:List Str}(S:Nat→Option Bool)(T1 T2:Nat→Option Int)(L:Nat→Option (LR Unit Bool))
  (hS:Ev S (bJ ty ty')) (h1:Ev T1 (lastB nm X)) (h2:Ev T2 (lastB nm' Y)) (hL:ks.length=ks'.length→Ev L (cond (pR (bf op) nm nm' 0 ks ks' X Y) (.nx ()) (.rt false))):
  Ev (fun n=>(((cond (op !=op') (some true) (cond (n0 !=n1) (some true) ((S n).bind fun(x11:Bool)=>(cond (!x11) (some true) (some ((ks.length:Int)!=(ks'.length:Int))))))):Option Bool).bind fun(s1:Bool)=>(cond s1 (some false)
   (cond (op==20) ((T1 n).bind fun(x1:Int)=>((T2 n).bind fun(x2:Int)=>(((cond (x1==x2) (cond (decide (0≤x1)) (some true) (some (nm==nm'))) (some false)):Option Bool).bind fun(s2:Bool)=>some s2)))
   ((L n).bind (LR.el (fun(_:Unit)=>some true) (fun r=>some r))))))) (lQ (.mk op nm n0 ty ks) (.mk op' nm' n1 ty' ks') X Y):=by
 simp only[lQ];refine Ev.bind (a:=!((op==op')&&((n0==n1)&&(bJ ty ty'&&(ks.length==ks'.length))))) ?_ ?_
 ·simp only[bne];cases op==op' with
  |false=>exact Ev.ret _
  |true=>
   cases n0==n1 with
   |false=>exact Ev.ret _
   |true=>
    refine Ev.bind hS ?_;cases bJ ty ty' with
    |false=>exact Ev.ret _
    |true=>
     have:=Zk ks ks';simp only[bne]at this;simp only[qAt,cond_false,qAy,this];exact Ev.ret _
 ·cases hc:((op==op')&&((n0==n1)&&(bJ ty ty'&&(ks.length==ks'.length))))with
  |false=>exact Ev.ret _
  |true=>
   simp only[qAt,cond_false,qAy];have hl:ks.length=ks'.length:=by simp only[qAa,beq_iff_eq]at hc;exact hc.2.2.2
   cases op==20 with
   |true=>
    simp only[cond_true];refine Ev.bind h1 (Ev.bind h2 ?_);cases lastB nm X==lastB nm' Y with
    |false=>exact Ev.ret _
    |true=>cases decide (0≤lastB nm X)<;>exact Ev.ret _
   |false=>
    simp only[cond_false];refine Ev.bind (hL hl) ?_;cases pR (bf op) nm nm' 0 ks ks' X Y<;>exact Ev.ret _
theorem ajM(n:Nat)(X:List Str)(h:X.length≤1000):fK n X=some X:=by
 unfold fK;rw[iZ (by simp;omega) (by omega)];rfl
theorem anc:∀(a b:Tm) (d:Int) (X Y:List Str),Wf d a→X.length=Y.length→(X.length:Int)<d→Ev (fun n=>jg n ⟨X,Y⟩ a b) (lQ a b X Y):=Tm.ind fun op nm m ty ks ih b d X Y hw hlen hd=>by
 obtain⟨op',nm',m',ty',ks'⟩:=b;obtain⟨_,hd64,_,hkw⟩:=hw.node;refine Ev.succ ?_;show Ev (fun n=>qh n (jg n) ⟨X,Y⟩ (.mk op nm m ty ks) (.mk op' nm' m' ty' ks')) _;unfold qh;refine aeF (op:=op) (op':=op') (n0:=m) (n1:=m') (nm:=nm) (nm':=nm') (ty:=ty) (ty':=ty') (ks:=ks) (ks':=ks') (X:=X) (Y:=Y) (fun n=>ko n ty ty') (fun n=>oN n X nm) (fun n=>oN n Y nm') _ (U7 ty ty') (Ev.of fun n=>QW n nm X (by omega)) (Ev.of fun n=>QW n nm' Y (by omega)) fun hl=>?_;refine aeT (op:=op) (nm:=nm) (nm':=nm') (ks:=ks) (ks':=ks') (X:=X) (Y:=Y) hl (fun n x y U V=>jg n ⟨U,V⟩ x y) (fun n k i=>Ay n (jg n) ⟨X,Y⟩ (.mk op nm m ty ks) (.mk op' nm' m' ty' ks') k i) (fun n k=>?_) (fun n k i x hx hi=>?_)
  (fun x hx y i=>ih x hx y (d+1) _ _ (hkw x hx) (afS hlen) (by have:=@ai8 (bf op) i nm X;omega))
 ·show cond (decide ((ks.length:Int)<(ks.length:Int))) _ _=_;rw[decide_eq_false (by omega)];rfl
 ·show cond (decide (i<(ks.length:Int))) _ _=_;rw[hi];have h5:((((pz n op).bind fun(x10:Bool)=>(cond x10 (some (i==1)) (some false)):Option Bool).bind fun(s6:Bool)=>(cond s6 ((fK n X).bind fun(x6:List Str)=>((app 16 x6 ([nm])).bind fun(x7:List Str)=>((fK n Y).bind fun(x8:List Str)=>((app 16 x8 ([nm'])).bind fun(x9:List Str)=>some (x7,x9))))) (some (X,Y)))):Option ((List Str)×(List Str)))=some (uW (bf op) i nm X,uW (bf op) i nm' Y):=by
   unfold uW;rw[aal,qAb];cases bf op with
   |false=>rfl
   |true=>
    cases i==1 with
    |false=>rfl
    |true=>
     simp only[cond_true,qAb,qBR];rw[ajM n X (by omega),qAb,iZ (by simp;omega) (by omega),qAb,ajM n Y (by omega),qAb,iZ (by simp;omega) (by omega)];rfl
  simp only[cond_true,Tm.op,Tm.name,Tm.kids];rw[h5,qAb,hx,qAb];rfl
theorem wf1{t:Tm}(h:cu t=true):Wf 1 t:=⟨0,qBB 0,h⟩
def bM(a b:Tm):Bool:=cu a&&(cu b&&lQ a b [] [])
theorem vM{α:Type}(l:List α)(L:Nat→Nat→Int→Option (LR Unit Int))(step:Nat→α→Option Bool)(p:α→Bool)
  (hL:∀n k i,L n (k+1) i=cond (decide (i<(l.length:Int))) ((idx l i).bind fun x=>(step n x).bind fun b=>cond b (some (.rt i)) (L n k (i+1))) (some (.nx ())))
  (hp:∀x∈l,Ev (fun n=>step n x) (p x)):Ev (fun n=>((L n n 0).bind (LR.el (fun _=>some (-1)) (fun r=>some r))).bind fun(x1:Int)=>some (decide (0≤x1))) (l.any p):=by
 refine Ev.bind (rP l L step p hL hp) ?_;rw[rQ p l 0 (qBB 0)];exact Ev.ret _
theorem abh(l:List Tm)(hl:∀t∈l,zk t):Ev (fun n=>Fp n l) (l.all cu):=by
 unfold Fp;refine Ev.bind (vM l (fun n k i=>rZ n l k i) (fun n t=>Ic n t) (fun t=>!(cu t)) (fun n k i=>rfl) fun t ht=>Ev.bind (DY t (hl t ht)) (Ev.ret _)) ?_;refine(Ev.ret _).eq ?_;rw[←qCv,qCt]
theorem DX(a b:Tm)(ha:zk a)(hb:zk b):Ev (fun n=>rz n a b) (bM a b):=by
 unfold rz bM;refine Ev.bind (a:=cu a&&(cu b&&lQ a b [] [])) ?_ (Ev.ret _);refine Ev.bind (abh [a,b] (by simp[ha,hb])) ?_;simp only[qBy,List.all_nil,qBq];cases h1:cu a with
 |false=>exact Ev.ret _
 |true=>
  cases h2:cu b with
  |false=>exact Ev.ret _
  |true=>exact Ev.bind (anc a b 1 [] [] (wf1 h1) rfl (by decide)) (Ev.ret _)
theorem ajo:∀(a:Tm) (X:List Str),lQ a a X X=true:=Tm.ind fun op nm m ty ks ih X=>by
 simp only[lQ,beq_self_eq_true,I5,qBR,qAy,qDd];cases op==20 with
 |true=>rfl
 |false=>
  simp only[cond_false];have key:∀(l:List Tm) (i:Int),(∀k∈l,∀X,lQ k k X X=true)→pR (bf op) nm nm i l l X X=true:=by
   intro l
   induction l with
   |nil=>intro i _;rfl
   |cons k l ihl=>
    intro i h;simp only[pR,h k (qBv ..),qAy];exact ihl (i+1) fun k hk=>h k (qAk _ hk)
  exact key ks 0 fun k hk X=>ih k hk X
theorem zm{α:Type}[BEq α][LawfulBEq α](a b:α):(a==b)=(b==a):=by
 rw[qBW,beq_iff_eq,beq_iff_eq];exact⟨Eq.symm,Eq.symm⟩
theorem akk:∀(a b:Tm) (X Y:List Str),lQ a b X Y=lQ b a Y X:=Tm.ind fun op nm m ty ks ih b X Y=>by
 obtain⟨op',nm',m',ty',ks'⟩:=b;simp only[lQ];rw[zm op' op,zm m' m,aaz ty' ty,zm ks'.length ks.length];cases hc:((op==op')&&((m==m')&&(bJ ty ty'&&(ks.length==ks'.length))))with
 |false=>rfl
 |true=>
  simp only[qAa,beq_iff_eq]at hc;obtain⟨rfl, -, -,hl⟩:=hc;simp only[qAy];cases op==20 with
  |true=>
   simp only[cond_true];rw[zm (lastB nm' Y) (lastB nm X),zm nm' nm];cases h:lastB nm X==lastB nm' Y with
   |false=>rfl
   |true=>rw[beq_iff_eq.1 h]
  |false=>
   simp only[cond_false];have key:∀(l l':List Tm) (i:Int),l.length=l'.length→(∀k∈l,∀b X Y,lQ k b X Y=lQ b k Y X)→pR (bf op) nm nm' i l l' X Y=pR (bf op) nm' nm i l' l Y X:=by
    intro l
    induction l with
    |nil=>intro l' i h _;cases l' with|nil=>rfl|cons c l'=>cases h
    |cons k l ihl=>
     intro l' i h hk;cases l' with
     |nil=>cases h
     |cons c l'=>
      simp only[pR];rw[hk k (qBv ..),ihl l' (i+1) (by simpa using h) fun k h=>hk k (qAk _ h)]
   exact key ks ks' 0 hl fun k hk b X Y=>ih k hk b X Y
theorem aiv:∀(a b c:Tm) (X Y Z:List Str),lQ a b X Y=true→lQ b c Y Z=true→lQ a c X Z=true:=Tm.ind fun op nm m ty ks ih b c X Y Z h1 h2=>by
 obtain⟨op',nm',m',ty',ks'⟩:=b;obtain⟨op2,nm2,m2,ty2,ks2⟩:=c;simp only[lQ,qAa,beq_iff_eq,MC]at h1 h2⊢;obtain⟨⟨rfl,rfl,rfl,l1⟩,g1⟩:=h1;obtain⟨⟨rfl,rfl,rfl,l2⟩,g2⟩:=h2;refine⟨⟨rfl,rfl,rfl,l1.trans l2⟩,?_⟩;cases h20:op==20 with
 |true=>
  rw[h20]at g1 g2;simp only[cond_true,qAa,beq_iff_eq,qBb,decide_eq_true_eq]at g1 g2⊢;refine⟨g1.1.trans g2.1,?_⟩;rcases g1.2 with h|h
  ·exact .inl h
  ·rcases g2.2 with h'|h'
   ·exact .inl (by rw[g1.1];exact h')
   ·exact .inr (h.trans h')
 |false=>
  rw[h20]at g1 g2;simp only[cond_false]at g1 g2⊢;have key:∀(l l' l2:List Tm) (i:Int),l.length=l'.length→l'.length=l2.length→(∀k∈l,∀b c X Y Z,lQ k b X Y=true→lQ b c Y Z=true→lQ k c X Z=true)→
    pR (bf op) nm nm' i l l' X Y=true→pR (bf op) nm' nm2 i l' l2 Y Z=true→pR (bf op) nm nm2 i l l2 X Z=true:=by
   intro l
   induction l with
   |nil=>intro l' l2 i _ _ _ _ _;rfl
   |cons k l ihl=>
    intro l' l2 i e1 e2 hk q1 q2;cases l' with
    |nil=>cases e1
    |cons k' l'=>
     cases l2 with
     |nil=>cases e2
     |cons k2 l2=>
      simp only[pR,qAa]at q1 q2⊢;exact⟨hk k (qBv ..) k' k2 _ _ _ q1.1 q2.1,ihl l' l2 (i+1) (by simpa using e1) (by simpa using e2) (fun k h=>hk k (qAk _ h)) q1.2 q2.2⟩
  exact key ks ks' ks2 0 l1 l2 (fun k hk b c X Y Z=>ih k hk b c X Y Z) g1 g2
theorem Km{a:Tm}(h:cu a=true):bM a a=true:=by simp only[bM,h,ajo,qBR]
theorem Ka(a b:Tm):bM a b=bM b a:=by
 simp only[bM];rw[akk a b];cases cu a<;>cases cu b<;>rfl
theorem Rh{a b c:Tm}(h1:bM a b=true)(h2:bM b c=true):bM a c=true:=by
 simp only[bM,qAa]at h1 h2⊢;exact⟨h1.1,h2.2.1,aiv a b c _ _ _ h1.2.2 h2.2.2⟩
def QS(q:S_api_Sequent):Prop:=(∀d∈q.env.names,d.name.length≤9223372036854775807)∧(∀t∈q.hyps,zk t)∧zk q.goal
def jF(q:S_api_Sequent):List Tm:=q.hyps++[q.goal]
def errs(env:Env):List Tm→Int
 |[]=>0
 |t::l=>bif rC env t !=0 then rC env t else errs env l
def bK(q:S_api_Sequent):Int:=bif !(aU q.env) ||(jF q).any (fun t=>!(cu t))then 1 else bif decide (200<(q.hyps.length:Int))then 5 else errs q.env (jF q)
theorem QS.jF{q:S_api_Sequent}(h:QS q):∀t∈jF q,zk t:=fun t ht=>by
 rcases qAA.1 ht with h1|h1
 ·exact h.2.1 t h1
 ·rw[qBd.1 h1];exact h.2.2
theorem agl(env:Env)(l:List Tm)(L:Nat→Nat→Int→Option (LR Unit Int))(P:Nat→Tm→Option Int)
  (hL:∀n k i,L n (k+1) i=cond (decide (i<(l.length:Int))) ((idx l i).bind fun x=>(P n x).bind fun e=>cond (e !=0) (some (.rt e)) (L n k (i+1))) (some (.nx ())))
  (hP:∀x∈l,Ev (fun n=>P n x) (rC env x)):Ev (fun n=>L n n 0) (cond (errs env l !=0) (.rt (errs env l)) (.nx ())):=by
 have:=BJ l (fun n k i (_:Unit)=>L n k i) (fun n _ x _=>(P n x).bind fun e=>cond (e !=0) (some (.rt e)) (some (.nx ()))) (fun _ x _=>cond (rC env x !=0) (.rt (rC env x)) (.nx ())) (fun _=>()) (fun _ _ _=>True)
  (fun n k i s=>by
   rw[hL];congr 1;congr 1;funext x;cases P n x with
   |none=>rfl
   |some e=>simp only[qAb];cases e !=0<;>rfl)
  (fun i x suf s hx _=>⟨by
   refine Ev.bind (hP x hx) ?_;cases rC env x !=0
   ·exact Ev.ret _
   ·exact Ev.ret _,fun _ _=>trivial⟩) (s0:=()) trivial
 refine this.eq ?_;have key:∀(l:List Tm) (i:Int),gL (τ:=Unit) (fun _ x _=>cond (rC env x !=0) (LR.rt (rC env x)) (.nx ())) (fun _=>()) i l ()=cond (errs env l !=0) (.rt (errs env l)) (.nx ()):=by
  intro l
  induction l with
  |nil=>intro i;rfl
  |cons x l ih=>
   intro i;simp only[gL,errs];cases h:rC env x !=0 with
   |true=>simp only[cond_true,h]
   |false=>simp only[cond_false];exact ih (i+1)
 exact key l 0
theorem adk(env:Env)(t:Tm):∀l:List Tm,errs env (l++[t])=bif errs env l !=0 then errs env l else rC env t
 |[]=>by
  simp only[qAz,errs];cases h:rC env t !=0 with
  |true=>rfl
  |false=>exact(show rC env t=0 by simpa using h).symm
 |x::l=>by
  simp only[qAH,errs,adk env t l];cases h:rC env x !=0 with
  |true=>simp only[cond_true,h]
  |false=>rfl
theorem Kl(n:Nat)(q:S_api_Sequent)(h:q.hyps.length≤300):iV n q=some (jF q):=by
 unfold iV;rw[decide_eq_true (by omega)];rfl
theorem oG(q:S_api_Sequent)(h:QS q)(hl:q.hyps.length≤300):Ev (fun n=>lC n q) (bK q):=by
 unfold lC bK;refine Ev.bind (a:=jF q) (Ev.of fun n=>Kl n q hl) ?_;refine Ev.bind (a:=!(aU q.env) ||(jF q).any (fun t=>!(cu t))) ?_ ?_
 ·refine Ev.bind (Dl q.env h.1) ?_;cases aU q.env with
  |false=>exact Ev.ret _
  |true=>
   refine Ev.bind (vM (jF q) (fun n k i=>vF n (jF q) k i) (fun n t=>AX n t) (fun t=>!(cu t)) (fun n k i=>rfl) fun t ht=>Ev.bind (DY t (h.jF t ht)) (Ev.ret _)) ?_;exact Ev.ret _
 ·cases !(aU q.env) ||(jF q).any (fun t=>!(cu t))with
  |true=>exact Ev.ret _
  |false=>
   simp only[cond_false];cases decide (200<(q.hyps.length:Int))with
   |true=>exact Ev.ret _
   |false=>
    simp only[cond_false];refine Ev.bind (agl q.env (jF q) (fun n k i=>JI n q (jF q) k i) (fun n t=>ni n q.env t) (fun n k i=>rfl) fun t ht=>Pt q.env t h.1 (h.jF t ht)) ?_;cases he:errs q.env (jF q)!=0 with
    |true=>exact Ev.ret _
    |false=>exact(Ev.ret _).eq (show errs q.env (jF q)=0 by simpa using he).symm
theorem yJ{α:Type}(l:List α)(L:Nat→Nat→Int→Option (LR Unit Bool))(step:Nat→α→Option Bool)(p:α→Bool)
  (hL:∀n k i,L n (k+1) i=cond (decide (i<(l.length:Int))) ((idx l i).bind fun x=>(step n x).bind fun b=>cond (!b) (some (.rt false)) (L n k (i+1))) (some (.nx ())))
  (hp:∀x∈l,Ev (fun n=>step n x) (p x)):Ev (fun n=>L n n 0) (cond (l.all p) (.nx ()) (.rt false)):=by
 refine(kM l L (fun n x=>(step n x).bind fun b=>some (!b)) (fun x=>!(p x)) false (fun n k i=>?_) fun x hx=>Ev.bind (hp x hx) (Ev.ret _)).eq ?_
 ·rw[hL];congr 1;congr 1;funext x;cases step n x<;>rfl
 ·rw[←qCv];cases l.all p<;>rfl
theorem o7(q:S_api_Sequent):Ev (fun n=>oU n q) (bK q):=by
 unfold oU bK;refine Ev.bind (a:=!(aU q.env) ||(jF q).any (fun t=>!(cu t))) ?_ ?_
 ·refine Ev.bind (LM q.env) ?_;cases aU q.env with
  |false=>exact Ev.ret _
  |true=>
   have h1:Ev (fun n=>JG n q.hyps) (q.hyps.all cu):=by
    unfold JG;refine Ev.bind (yJ q.hyps (fun n k i=>RS n q.hyps k i) (fun n t=>uP n t) cu (fun n k i=>rfl) fun t _=>xE t) ?_;cases q.hyps.all cu<;>exact Ev.ret _
   have e:(jF q).any (fun t=>!(cu t))=!(q.hyps.all cu&&cu q.goal):=by
    rw[←qCv];simp[jF]
   rw[e];simp only[qAt,cond_false,qCS];refine Ev.bind h1 ?_;cases q.hyps.all cu with
   |false=>exact Ev.ret _
   |true=>exact Ev.bind (xE q.goal) (Ev.ret _)
 ·cases !(aU q.env) ||(jF q).any (fun t=>!(cu t))with
  |true=>exact Ev.ret _
  |false=>
   simp only[cond_false];cases decide (200<(q.hyps.length:Int))with
   |true=>exact Ev.ret _
   |false=>
    simp only[cond_false];refine Ev.bind (agl q.env q.hyps (fun n k i=>Uk n q k i) (fun n t=>qp n q.env t) (fun n k i=>rfl) fun t _=>Je q.env t) ?_;rw[show errs q.env (jF q)=_ from adk q.env q.goal q.hyps];cases he:errs q.env q.hyps !=0 with
    |true=>exact Ev.ret _
    |false=>exact Ev.bind (Je q.env q.goal) (Ev.ret _)
def iP{α β:Type}(p:α→β→Bool)(l:List α)(l':List β):Bool:=(l.length==l'.length)&&(l.zip l').all fun q=>p q.1 q.2
theorem Sw{α β:Type}(l:List α)(l':List β)(hlen:l.length=l'.length)(L:Nat→Nat→Int→Option (LR Unit Bool))(step:Nat→α→β→Option Bool)(p:α→β→Bool)
  (hL:∀n k i,L n (k+1) i=cond (decide (i<(l.length:Int))) ((idx l i).bind fun x=>(idx l' i).bind fun y=>(step n x y).bind fun b=>cond (!b) (some (.rt false)) (L n k (i+1))) (some (.nx ())))
  (hp:∀x∈l,∀y∈l',Ev (fun n=>step n x y) (p x y)):Ev (fun n=>L n n 0) (cond ((l.zip l').all fun q=>p q.1 q.2) (.nx ()) (.rt false)):=by
 refine yJ (l.zip l') L (fun n q=>step n q.1 q.2) (fun q=>p q.1 q.2) (fun n k i=>?_) (fun q hq=>hp q.1 (qDh hq).1 q.2 (qDh hq).2);rw[hL,←agA l l' i fun x y=>(step n x y).bind fun b=>cond (!b) (some (.rt false)) (L n k (i+1))];have:((l.zip l').length:Int)=(l.length:Int):=by rw[List.length_zip,←hlen,qDe]
 rw[this]
theorem KD{α β:Type}(l:List α)(l':List β)(L:Nat→Nat→Int→Option (LR Unit Bool))(step:Nat→α→β→Option Bool)(p:α→β→Bool)
  (hL:∀n k i,L n (k+1) i=cond (decide (i<(l.length:Int))) ((idx l i).bind fun x=>(idx l' i).bind fun y=>(step n x y).bind fun b=>cond (!b) (some (.rt false)) (L n k (i+1))) (some (.nx ())))
  (hp:∀x∈l,∀y∈l',Ev (fun n=>step n x y) (p x y)):Ev (fun n=>cond ((l.length:Int)!=(l'.length:Int)) (some false) ((L n n 0).bind (LR.el (fun(_:Unit)=>some true) (fun r=>some r)))) (iP p l l'):=by
 rw[Zk];unfold iP;cases hl:l.length==l'.length with
 |false=>exact Ev.ret _
 |true=>
  simp only[qAt,cond_false,qAy];refine Ev.bind (Sw l l' (beq_iff_eq.1 hl) L step p hL hp) ?_;cases(l.zip l').all fun q=>p q.1 q.2<;>exact Ev.ret _
theorem R8{α:Type}(p:α→α→Bool)(hp:∀a b,p a b=true↔a=b):∀l l':List α,iP p l l'=true↔l=l'
 |[],[]=>by simp[iP]
 |[],_::_=>by simp[iP]
 |_::_,[]=>by simp[iP]
 |a::l,b::l'=>by
  have ih:=R8 p hp l l';simp only[iP,qAa,beq_iff_eq]at ih;simp only[iP,qAu,qCR,qBy,qAa,beq_iff_eq,Nat.add_right_cancel_iff,List.cons.injEq,hp,←ih];constructor
  ·rintro⟨h1,h2,h3⟩;exact⟨h2,h1,h3⟩
  ·rintro⟨h2,h1,h3⟩;exact⟨h1,h2,h3⟩
def lJ(c c':Carrier):Bool:=(c.name==c'.name)&&iP (fun a b=>a==b) c.elems c'.elems
def jJ(d d':Decl):Bool:=(d.name==d'.name)&&bJ d.ty d'.ty
theorem DL(c c':Carrier):lJ c c'=true↔c=c':=by
 obtain⟨a,b⟩:=c;obtain⟨a',b'⟩:=c';simp only[lJ,qAa,beq_iff_eq,Carrier.mk.injEq];rw[R8 _ fun x y=>beq_iff_eq]
theorem Cx(c c':Decl):jJ c c'=true↔c=c':=by
 obtain⟨a,b⟩:=c;obtain⟨a',b'⟩:=c';simp only[jJ,qAa,beq_iff_eq,MC,Decl.mk.injEq]
def yA(e e':Env):Bool:=iP lJ e.carriers e'.carriers&&iP jJ e.names e'.names
theorem MP(e e':Env):yA e e'=true↔e=e':=by
 obtain⟨a,b⟩:=e;obtain⟨a',b'⟩:=e';simp only[yA,qAa,Env.mk.injEq];rw[R8 _ DL,R8 _ Cx]
theorem Mc(c c':Carrier):Ev (fun n=>jl n c c') (lJ c c'):=by
 unfold jl lJ;refine Ev.bind (a:=(c.name==c'.name)&&iP (fun a b=>a==b) c.elems c'.elems) ?_ (Ev.ret _);cases c.name==c'.name with
 |false=>exact Ev.ret _
 |true=>
  refine Ev.bind (a:=iP (fun a b=>a==b) c.elems c'.elems) ?_ (Ev.ret _);exact KD c.elems c'.elems (fun n k i=>xD n c.elems c'.elems k i) (fun _ x y=>some (x==y)) (fun a b=>a==b) (fun n k i=>rfl) fun x _ y _=>Ev.ret _
theorem Nw{env:Env}(h:aU env=true):∀d∈env.names,dL d.ty=true:=fun d hd=>by
 have:=qAC.1 (fu h).2.2.2.1 d hd;simp only[vX,qAa]at this;exact this.2.1.1
theorem Uq{d d':Decl}(h:dL d.ty=true)(h':dL d'.ty=true):Ev (fun n=>lG n d d') (jJ d d'):=by
 unfold lG jJ;refine Ev.bind (a:=(d.name==d'.name)&&bJ d.ty d'.ty) ?_ (Ev.ret _);cases d.name==d'.name with
 |false=>exact Ev.ret _
 |true=>
  refine Ev.bind (a:=bJ d.ty d'.ty) ?_ (Ev.ret _);unfold Af;refine Ev.bind (a:=bJ d.ty d'.ty) ?_ (Ev.ret _);refine Ev.bind (j3 d.ty) ?_;rw[h];refine Ev.bind (j3 d'.ty) ?_;rw[h'];exact Ev.bind (Bp d.ty d'.ty) (Ev.ret _)
theorem agX{e e':Env}(h:aU e=true)(h':aU e'=true):Ev (fun n=>vU n e e') (yA e e'):=by
 unfold vU yA;refine Ev.bind (a:=iP lJ e.carriers e'.carriers&&iP jJ e.names e'.names) ?_ (Ev.ret _);refine Ev.bind (KD e.carriers e'.carriers (fun n k i=>qP n e.carriers e'.carriers k i) (fun n x y=>jl n x y) lJ (fun n k i=>rfl) fun x _ y _=>Mc x y) ?_;cases iP lJ e.carriers e'.carriers with
 |false=>exact Ev.ret _
 |true=>
  refine Ev.bind (KD e.names e'.names (fun n k i=>vo n e.names e'.names k i) (fun n x y=>lG n x y) jJ (fun n k i=>rfl) fun x hx y hy=>Uq (Nw h x hx) (Nw h' y hy)) ?_;exact Ev.ret _
def uI(a b:S_api_Sequent):Bool:=(bK a==0)&&((bK b==0)&&(yA a.env b.env&&iP bM (jF a) (jF b)))
theorem Dc{q:S_api_Sequent}(h:bK q=0):aU q.env=true:=by
 unfold bK at h;cases hv:aU q.env with
 |true=>rfl
 |false=>rw[hv]at h;cases h
theorem aa5{q:S_api_Sequent}(h:bK q=0):∀t∈jF q,cu t=true:=by
 unfold bK at h;cases hv:(jF q).any (fun t=>!(cu t))with
 |true=>rw[hv,qDd]at h;cases h
 |false=>
  intro t ht;have:=qCV.1 hv t ht;simpa using this
theorem vT{a b:S_api_Sequent}(ha:QS a)(hb:QS b)(la:a.hyps.length≤300)(lb:b.hyps.length≤300):Ev (fun n=>pq n a b) (uI a b):=by
 unfold pq uI;refine Ev.bind (a:=(bK a==0)&&((bK b==0)&&(yA a.env b.env&&iP bM (jF a) (jF b)))) ?_ (Ev.ret _);refine Ev.bind (oG a ha la) ?_;cases h1:bK a==0 with
 |false=>exact Ev.ret _
 |true=>
  refine Ev.bind (oG b hb lb) ?_;cases h2:bK b==0 with
  |false=>exact Ev.ret _
  |true=>
   refine Ev.bind (agX (Dc (beq_iff_eq.1 h1)) (Dc (beq_iff_eq.1 h2))) ?_;cases yA a.env b.env with
   |false=>exact Ev.ret _
   |true=>
    refine Ev.bind (Ev.of fun n=>Kl n a la) (Ev.bind (Ev.of fun n=>Kl n b lb) ?_);refine Ev.bind (KD (jF a) (jF b) (fun n k i=>uV n (jF a) (jF b) k i) (fun n x y=>rz n x y) bM (fun n k i=>rfl) fun x hx y hy=>DX x y (ha.jF x hx) (hb.jF y hy)) ?_;exact Ev.ret _
theorem QJ{α:Type}(p:α→α→Bool)(x y:α):∀l l':List α,iP p (l++[x]) (l'++[y])=((l.length==l'.length)&&(p x y&&(l.zip l').all fun q=>p q.1 q.2))
 |[],[]=>by simp[iP]
 |[],b::l'=>by simp[iP]
 |a::l,[]=>by simp[iP]
 |a::l,b::l'=>by
  have ih:=QJ p x y l l';simp only[iP]at ih;simp only[iP,qAH,qAu,qCR,qBy];have e1:((l++[x]).length+1==(l'++[y]).length+1)=((l++[x]).length==(l'++[y]).length):=by rw[qBW,beq_iff_eq,beq_iff_eq];omega
  have e2:(l.length+1==l'.length+1)=(l.length==l'.length):=by rw[qBW,beq_iff_eq,beq_iff_eq];omega
  rw[e1,e2];have:((l++[x]).length==(l'++[y]).length&&(p a b&&((l++[x]).zip (l'++[y])).all fun q=>p q.1 q.2))=(p a b&&((l++[x]).length==(l'++[y]).length&&((l++[x]).zip (l'++[y])).all fun q=>p q.1 q.2)):=by
   cases p a b<;>simp
  rw[this,ih];cases p a b<;>simp
def gQ(a b:S_api_Sequent):Bool:=(bK a==0)&&((bK b==0)&&(bM a.goal b.goal&&(a.env.carriers.all (fun c=>b.env.carriers.any fun x=>lJ x c)&&
 (a.env.names.all (fun d=>b.env.names.any fun x=>jJ x d)&&a.hyps.all fun h=>b.hyps.any fun x=>bM x h))))
theorem afa(l:List Tm)(t:Tm)(hl:∀x∈l,zk x)(ht:zk t):Ev (fun n=>oL n l t) (l.any fun x=>bM x t):=by
 unfold oL;obtain⟨op,nm,m,⟨k,tn,ks⟩,kids⟩:=t;refine Ev.bind (vM l (fun n k' i=>sH n l op nm m k tn ks kids k' i) (fun n x=>xA n x op nm m k tn ks kids) (fun x=>bM x (.mk op nm m (.mk k tn ks) kids)) (fun n k i=>rfl) fun x hx=>Ev.bind (DX x _ (hl x hx) ht) (Ev.ret _)) ?_;exact Ev.ret _
theorem kR{a b:S_api_Sequent}(ha:QS a)(hb:QS b)(la:a.hyps.length≤300)(lb:b.hyps.length≤300):Ev (fun n=>fH n a b) (gQ a b):=by
 unfold fH gQ;refine Ev.bind (a:=!((bK a==0)&&((bK b==0)&&bM a.goal b.goal))) ?_ ?_
 ·refine Ev.bind (oG a ha la) ?_;simp only[bne];cases bK a==0 with
  |false=>exact Ev.ret _
  |true=>
   refine Ev.bind (oG b hb lb) ?_;cases bK b==0 with
   |false=>exact Ev.ret _
   |true=>exact Ev.bind (DX a.goal b.goal ha.2.2 hb.2.2) (Ev.ret _)
 ·cases hc:((bK a==0)&&((bK b==0)&&bM a.goal b.goal))with
  |false=>
   refine(Ev.ret _).eq ?_
   revert hc
   cases bK a==0<;>cases bK b==0<;>cases bM a.goal b.goal<;>simp
  |true=>
   simp only[qAa]at hc;obtain⟨h1,h2,h3⟩:=hc;simp only[h1,h2,h3,qAt,cond_false,qAy,qBR];have va:=Dc (beq_iff_eq.1 h1);have vb:=Dc (beq_iff_eq.1 h2);refine Ev.bind (yJ a.env.carriers (fun n k i=>Gl n a b k i) (fun n c=>kr n b.env.carriers c.name c.elems) (fun c=>b.env.carriers.any fun x=>lJ x c) (fun n k i=>rfl) fun c _=>?_) ?_
   ·exact vM b.env.carriers (fun n k i=>oD n b.env.carriers c.name c.elems k i) (fun n x=>zI n x c.name c.elems) (fun x=>lJ x c) (fun n k i=>rfl) fun x _=>Ev.bind (Mc x c) (Ev.ret _)
   cases a.env.carriers.all fun c=>b.env.carriers.any fun x=>lJ x c with
   |false=>exact Ev.ret _
   |true=>
    refine Ev.bind (yJ a.env.names (fun n k i=>GL n a b k i) (fun n d=>nA n b.env.names d.name d.ty.kind d.ty.name d.ty.kids) (fun d=>b.env.names.any fun x=>jJ x d) (fun n k i=>rfl) fun d hd=>?_) ?_
    ·obtain⟨dn,⟨k,tn,ks⟩⟩:=d;exact vM b.env.names (fun n k' i=>uY n b.env.names dn k tn ks k' i) (fun n x=>Ac n x dn k tn ks) (fun x=>jJ x ⟨dn,.mk k tn ks⟩) (fun n k i=>rfl) fun x hx=>Ev.bind (Uq (Nw vb x hx) (Nw va _ hd)) (Ev.ret _)
    cases a.env.names.all fun d=>b.env.names.any fun x=>jJ x d with
    |false=>exact Ev.ret _
    |true=>
     refine Ev.bind (yJ a.hyps (fun n k i=>Hz n a b k i) (fun n h=>oL n b.hyps h) (fun h=>b.hyps.any fun x=>bM x h) (fun n k i=>rfl) fun h hh=>afa b.hyps h hb.2.1 (ha.2.1 h hh)) ?_;cases a.hyps.all fun h=>b.hyps.any fun x=>bM x h<;>exact Ev.ret _
def kY(q:S_api_Sequent):Bool:=decide ((q.hyps.length:Int)≤300)&&(decide ((q.env.carriers.length:Int)≤100)&&decide ((q.env.names.length:Int)≤100))
theorem adz(n:Nat)(q:S_api_Sequent):vE n q=some (kY q):=by
 unfold vE kY;cases decide ((q.hyps.length:Int)≤300)<;>cases decide ((q.env.carriers.length:Int)≤100)<;>rfl
theorem Ig{q:S_api_Sequent}(h:kY q=true):q.hyps.length≤300:=by
 unfold kY at h;simp only[qAa,decide_eq_true_eq]at h;omega
theorem adD(a:S_api_Sequent):gQ a a=(bK a==0):=by
 unfold gQ;cases h:bK a==0 with
 |false=>rfl
 |true=>
  have hv:=aa5 (beq_iff_eq.1 h);have h1:a.env.carriers.all (fun c=>a.env.carriers.any fun x=>lJ x c)=true:=qAC.2 fun c hc=>qDa.2 ⟨c,hc,(DL c c).2 rfl⟩;have h2:a.env.names.all (fun c=>a.env.names.any fun x=>jJ x c)=true:=qAC.2 fun c hc=>qDa.2 ⟨c,hc,(Cx c c).2 rfl⟩;have h3:a.hyps.all (fun c=>a.hyps.any fun x=>bM x c)=true:=qAC.2 fun c hc=>qDa.2 ⟨c,hc,Km (hv c (qBr _ hc))⟩;rw[h1,h2,h3,Km (hv a.goal (qBu _ (qBd.2 rfl)))];rfl
theorem abz{a b c:S_api_Sequent}(h:gQ a b=true)(g:gQ b c=true):gQ a c=true:=by
 unfold gQ at *;simp only[qAa,qAC,qDa]at *;obtain⟨h1,h2,h3,h4,h5,h6⟩:=h;obtain⟨g1,g2,g3,g4,g5,g6⟩:=g;refine⟨h1,g2,Rh h3 g3,fun x hx=>?_,fun x hx=>?_,fun x hx=>?_⟩
 ·obtain⟨y,hy,e⟩:=h4 x hx;rw[(DL y x).1 e]at hy;exact g4 x hy
 ·obtain⟨y,hy,e⟩:=h5 x hx;rw[(Cx y x).1 e]at hy;exact g5 x hy
 ·obtain⟨y,hy,e⟩:=h6 x hx;obtain⟨z,hz,e'⟩:=g6 y hy;exact⟨z,hz,Rh e' e⟩
theorem aaZ{α:Type}(p:α→α→Bool)(hp:∀a b,p a b=p b a):∀l l':List α,iP p l l'=iP p l' l
 |[],[]=>rfl
 |[],_::_=>rfl
 |_::_,[]=>rfl
 |a::l,b::l'=>by
  have ih:=aaZ p hp l l';unfold iP at ih⊢;simp only[qAu,qCR,qBy,hp a b];have e1:(l.length+1==l'.length+1)=(l.length==l'.length):=by rw[qBW,beq_iff_eq,beq_iff_eq];omega
  have e2:(l'.length+1==l.length+1)=(l'.length==l.length):=by rw[qBW,beq_iff_eq,beq_iff_eq];omega
  rw[e1,e2]
  revert ih
  cases p b a<;>simp
theorem Yd(a b:S_api_Sequent):uI a b=uI b a:=by
 unfold uI;rw[aaZ bM Ka (jF a) (jF b)];have:yA a.env b.env=yA b.env a.env:=by rw[qBW,MP,MP];exact⟨Eq.symm,Eq.symm⟩
 rw[this];cases bK a==0<;>cases bK b==0<;>rfl
theorem aaB{α:Type}(p:α→α→Bool):∀l:List α,(∀x∈l,p x x=true)→iP p l l=true
 |[],_=>rfl
 |a::l,h=>by
  have ih:=aaB p l fun x hx=>h x (qAk _ hx);unfold iP at ih⊢;simp only[qAa]at ih;simp only[qAu,qCR,qBy,h a (qBv ..),beq_self_eq_true,qAy,ih.2]
theorem ahP(a:S_api_Sequent):uI a a=(bK a==0):=by
 unfold uI;cases h:bK a==0 with
 |false=>rfl
 |true=>
  rw[(MP a.env a.env).2 rfl,aaB bM (jF a) fun x hx=>Km (aa5 (beq_iff_eq.1 h) x hx)];rfl
theorem aeS{p:Tm→Tm→Bool}:∀{l l':List Tm},l.length=l'.length→(∀q∈l.zip l',p q.1 q.2=true)→∀x∈l,∃y∈l',p x y=true
 |[],[],_,_,x,hx=>by cases hx
 |a::l,b::l',e,h,x,hx=>by
  rcases qAh.1 hx with rfl|hx
  ·exact⟨b,qBv ..,h (x,b) (by simp)⟩
  ·obtain⟨y,hy,g⟩:=aeS (l:=l) (l':=l') (by simpa using e) (fun q hq=>h q (by simp[hq])) x hx;exact⟨y,qAk _ hy,g⟩
theorem TY{a b:S_api_Sequent}(h:uI a b=true):gQ a b=true:=by
 unfold uI at h;rw[show iP bM (jF a) (jF b)=_ from QJ bM a.goal b.goal a.hyps b.hyps]at h;simp only[qAa,qAC,beq_iff_eq]at h;obtain⟨h1,h2,h3,h4,h5,h6⟩:=h;have he:=(MP _ _).1 h3;unfold gQ;simp only[qAa,qAC,qDa,beq_iff_eq];refine⟨h1,h2,h5,fun c hc=>⟨c,by rw[←he];exact hc,(DL c c).2 rfl⟩,fun c hc=>⟨c,by rw[←he];exact hc,(Cx c c).2 rfl⟩,fun c hc=>?_⟩;obtain⟨y,hy,g⟩:=aeS h4 h6 c hc;exact⟨y,hy,by rw[Ka];exact g⟩
theorem U0(a b c:S_api_Sequent)(ha:QS a)(hb:QS b)(hc:QS c):Ev (fun n=>zH n a b c) true:=by
 unfold zH;simp only[adz,qAb];refine Ev.bind (a:=!(kY a&&(kY b&&kY c))) (by cases kY a<;>cases kY b<;>exact Ev.ret _) ?_;cases hs:kY a&&(kY b&&kY c)with
 |false=>exact Ev.ret _
 |true=>
  simp only[qAa]at hs;have la:=Ig hs.1;have lb:=Ig hs.2.1;have lc:=Ig hs.2.2;simp only[qAt,cond_false];refine Ev.bind (kR ha hb la lb) (Ev.bind (kR hb hc lb lc) (Ev.bind (kR ha hc la lc) (Ev.bind (vT ha hb la lb) ?_)));have t1:gQ a b=true→gQ b c=true→gQ a c=true:=abz;have t2:uI a b=true→gQ a b=true:=TY;have t3:uI a b=true→gQ b a=true:=fun h=>TY (by rw[Yd];exact h);have hba:Ev (fun n=>fH n b a) (gQ b a):=kR hb ha lb la;refine Ev.bind (a:=false) ?_ ?_
  ·revert t1 t2 t3
   cases gQ a b<;>cases gQ b c<;>cases gQ a c<;>cases uI a b<;>intro t1 t2 t3<;>
    first
    |exact Ev.ret _
    |(exfalso;simp at t1;done)
    |(exfalso;simp at t2;done)
    |(have e:=t3 rfl;rw[e]at hba;exact Ev.bind hba (Ev.ret _))
  ·simp only[cond_false];refine Ev.bind (a:=true) ?_ (Ev.ret _);refine Ev.bind (kR ha ha la la) (Ev.bind (o7 a) ?_);rw[adD,beq_self_eq_true];refine Ev.bind (vT ha ha la la) (Ev.bind (o7 a) ?_);rw[ahP,beq_self_eq_true];refine Ev.bind (vT hb ha lb la) ?_;rw[Yd b a,beq_self_eq_true];exact Ev.ret _
end Abs
end Go.Proofs.YtbijdmihdagfaaaGreatDoor
