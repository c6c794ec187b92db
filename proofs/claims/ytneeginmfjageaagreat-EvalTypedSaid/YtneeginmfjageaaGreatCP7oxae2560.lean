/-
  Union of the program and of the document come to the same plain answer; the law TypingUnions. Conditions: none; lemmas without a program.
-/
import Derived.Test.YtneeginmfjageaaGreatCSrxoxf3c403
set_option linter.all false
namespace Go.Proofs.YtneeginmfjageaaGreat
namespace Abs
section
open Go
theorem aun{α β a:Type} l l' i (F:α->β->Option a):((idx l i).bind λx=>(idx l' i).bind λy=>F x y)=(idx (l.zip l') i).bind λp=>F p.1 p.2:=by
 unfold idx;by_cases h:0<=i;·simp only[if_pos h,List.zip,List.getElem?_zipWith];cases l[i.toNat]?<;>cases l'[i.toNat]?<;>rfl
 simp only[if_neg h];rfl
theorem Zr{α β ρ} l l' (h:l.length=l'.length)(L:Nat->Nat->Int->Option (LR Unit ρ))(s:Nat->α->β->Option Bool)(p:α->β->Bool) r
  (a:∀n k i,L n (k+1) i=cond (decide (i<(l.length:Int))) ((idx l i).bind λx=>(idx l' i).bind λy=>(s n x y).bind λb=>cond b (some (.rt r)) (L n k (i+1))) (some (.nx ())))
  (c:∀x∈l,∀y,Ev (λn=>s n x y) (p x y)):Ev (λn=>L n n 0) (cond ((l.zip l').any λq=>p q.1 q.2) (.rt r) (.nx ())):=by
 refine qM (l.zip l') L (λn q=>s n q.1 q.2) (λq=>p q.1 q.2) r (λn k i=>?_) (λq d=>c q.1 (qCY d).1 q.2);rw[a,<-aun l l' i λx y=>(s n x y).bind λb=>cond b (some (.rt r)) (L n k (i+1))];have:((l.zip l').length:Int)=(l.length:Int):=by rw[qDC,<-h,Nat.min_self]
 rw[this]
mutual
def aS:Ty→Ty→Bool
 | .mk k n ks,.mk k' n' ks'=>(k==k')&&((n==n')&&yY ks ks')
def yY:List Ty→List Ty→Bool
 |[],[]=>true
 |[],_::_=>false
 |_::_,[]=>false
 |a::ar,b::br=>aS a b&&yY ar br
end
mutual
theorem mD:∀a b:Ty,aS a b=true→a=b
 | .mk k n ks,.mk k' n' ks',h=>by
  simp only[aS,qAb,beq_iff_eq]at h;obtain⟨h1,h2,h3⟩:=h;rw[h1,h2,aoC ks ks' h3]
theorem aoC:∀a b:List Ty,yY a b=true→a=b
 |[],[],_=>rfl
 |[],_::_,h=>by cases h
 |_::_,[],h=>by cases h
 |a::ar,b::br,h=>by
  simp only[yY,qAb]at h;rw[mD a b h.1,aoC ar br h.2]
end
mutual
theorem aaj:∀a:Ty,aS a a=true
 | .mk k n ks=>by simp only[aS,beq_self_eq_true,aiu ks,qDl]
theorem aiu:∀a:List Ty,yY a a=true
 |[]=>rfl
 |a::ar=>by simp only[yY,aaj a,aiu ar,qDl]
end
theorem abF:∀l l':List Ty,l.length=l'.length->(l.zip l').any (λq=>!aS q.1 q.2)=!yY l l'|[],[],_=>rfl|[],_::_,h=>by cases h|_::_,[],h=>by cases h|a::r,b::c,h=>by have:=abF r c (by simpa using h);simp only[List.zip_cons_cons,qCE,this,yY];cases aS a b<;>rfl
theorem Zo:∀l l':List Ty,l.length≠l'.length->yY l l'=false|[],[],h=>absurd rfl h|[],_::_,_=>rfl|_::_,[],_=>rfl|a::r,b::c,h=>by have:=Zo r c (by simpa using h);simp only[yY,this,qBO]
theorem aH3{α β:Type}(l:List α)(l':List β):((l.length:Int)!=(l'.length:Int))=!l.length==l'.length:=apn l.length l'.length
theorem jy:∀t u:Ty,Ev (λn=>bW n t u) (aS t u):=Ty.ind λk d a j u=>by
 have⟨f,m,s⟩:=u;refine Ev.succ ?_;show Ev (λn=>sW n _ (.mk k d a) (.mk f m s)) _;unfold sW;simp only[Ty.kind,Ty.name,Ty.kids,aS,bne,aH3];cases k==f with
 |false=>exact Ev.ret _|true=>
  cases d==m with
  |false=>exact Ev.ret _|true=>
   simp only[qAr,cond_false,qAa,qAw];cases g:(a.length:Int)==(s.length:Int)with
   |false=>
    have:a.length≠s.length:=λe=>by simp[e]at g
    rw[Zo a s this];exact Ev.ret _
   |true=>
    have l:a.length=s.length:=by have:=beq_iff_eq.1 g;omega
    simp only[qAr,cond_false];have h:=Zr a s l (λn c i=>I4 n (bW n) (.mk k d a) (.mk f m s) c i) (λn x y=>(bW n x y).bind λb=>some (!b)) (λx y=>!(aS x y)) false
     (λn c i=>by show cond _ _ _=_;congr 1;show(idx a i).bind _=_;congr 1;funext x;show(idx s i).bind _=_;congr 1;funext y;simp only[qAZ,qAa];rfl)
     (λx o y=>Ev.bind (j x o y) (Ev.ret _))
    rw[abF a s l]at h;refine Ev.bind h ?_;cases yY a s;·exact Ev.ret _
    exact Ev.ret _
theorem Fe:∀t u:Ty,Ev (λn=>iO n t u) (aS t u):=Ty.ind λk f c o u=>by
 have⟨g,m,s⟩:=u;refine Ev.succ ?_;show Ev (λn=>DI n _ _ (.mk k f c) (.mk g m s)) _;unfold DI;simp only[Ty.kind,Ty.name,Ty.kids,aS];cases k==g with
 |false=>exact Ev.ret _|true=>
  cases f==m with
  |false=>exact Ev.ret _|true=>
   simp only[cond_true,qAw];refine Ev.bind (a:=yY c s) (Ev.bind (a:=yY c s) (Ev.succ ?_) (Ev.ret _)) (Ev.ret _);show Ev (λn=>qC n _ _ c s) _;unfold qC;simp only[bne];cases j:(c.length:Int)==(s.length:Int)with
   |false=>
    have:c.length≠s.length:=λe=>by simp[e]at j
    rw[Zo c s this];exact Ev.ret _
   |true=>
    have l:c.length=s.length:=by have:=beq_iff_eq.1 j;omega
    simp only[qAr,cond_false];have h:=Zr c s l (λn d i=>Bw n (qx n) (iO n) c s d i) (λn x y=>(iO n x y).bind λb=>some (!b)) (λx y=>!(aS x y)) false
     (λn d i=>by show cond _ _ _=_;congr 1;congr 1;funext x;congr 1;funext y;simp only[qAZ,qAa];rfl)
     (λx p y=>Ev.bind (o x p y) (Ev.ret _))
    rw[abF c s l]at h;refine Ev.bind h ?_;cases yY c s;·exact Ev.ret _
    exact Ev.ret _
theorem Tm.ind{P:Tm->Prop}(h:∀k n m t s,(∀t∈s,P t)->P (.mk k n m t s)) t:P t:=by
 match t with| .mk k n m y s=>exact h k n m y s λu _=>Tm.ind h u
decreasing_by
 rename_i a;have:=qCM a
 grind
def gN(op:Int):=
 cond (op==1 ||(op==2 ||(op==19 ||(op==20 ||op==29)))) 0
  (cond (op==3 ||(op==21 ||(decide (46<=op)&&decide (op<=52)))) 1 (cond (op==28) (-1) (cond (decide (4<=op)&&decide (op<=56)) 2 (-2))))
def cO(op:Int):=op==8 ||(op==9 ||(op==55 ||op==56))
theorem orS a b:cond a (some a) (some b)=some (a ||b):=by cases a<;>rfl
theorem aIV a b:cond a (some b) (some false)=some (a&&b):=by cases a<;>rfl
theorem awe n op:abO n op=some (gN op):=by
 unfold abO gN
 grind
theorem aH9(op:Int):(decide (46<=op)&&decide (op<=51) ||op==52)=(decide (46<=op)&&decide (op<=52)):=by grind
theorem apg n op:Qu n op=some (cond (gN op== -2) (0,false) (gN op,true)):=by
 unfold Qu gN;simp only[orS,aIV,qAa,aH9];cases a:(op==1 ||(op==2 ||(op==19 ||(op==20 ||op==29))))with|true=>rfl|false=>
  cases b:(op==3 ||(op==21 ||(decide (46<=op)&&decide (op<=52))))with|true=>rfl|false=>
   cases(op==28)with|true=>rfl|false=>
    simp only[qBQ,beq_eq_false_iff_ne]at a b;have e:(decide (1<=op)&&decide (op<=56))=(decide (4<=op)&&decide (op<=56)):=by
     by_cases h:4<=op;·simp[h,show 1<=op by omega]
     simp[h,show ¬1<=op by omega]
    rw[e];cases(decide (4<=op)&&decide (op<=56))<;>rfl
theorem axB n op:D9 n op=some (cO op):=by
 unfold D9 cO
 grind
theorem abq n op:yu n op=some (cO op):=by
 unfold yu cO
 grind
def U5(t:Ty):=t.kind==0&&(t.name==[]&&(t.kids.length:Int)==0)
theorem asf n t:EI n t=some (U5 t):=by
 unfold EI U5
 grind
theorem akC n t:KA n t=some (U5 t):=by
 unfold KA U5
 grind
def Kc(t:Tm):=cond (t.op==20) (named t.name) (cond (cO t.op) (ident t.name) (t.name==[]))
def VX(t:Tm):=cond (t.op==19) (decide (0<=t.n)&&decide (t.n<=1000000000)) (t.n==0)
def tyB(t:Tm):=cond (t.op==29) (dI t.ty&&t.ty.kind !=2) (U5 t.ty)
def Ak(t:Tm):=!gN t.op== -2&&cond (gN t.op== -1) (!(t.kids.length:Int)==0) ((t.kids.length)==gN t.op)
def rW t:=Ak t&&(Kc t&&(VX t&&tyB t))
theorem axC t (hs:t.name.length<=9223372036854775807):Ev (λn=>KD n t) (rW t):=by
 unfold KD rW;simp only[apg,qAa];have h:Ev (λn=>((((cond (!(cond (gN t.op== -2) ((0:Int),false) (gN t.op,true)).2) (some (!(cond (gN t.op== -2) ((0:Int),false) (gN t.op,true)).2)) (((cond ((cond (gN t.op== -2) ((0:Int),false) (gN t.op,true)).1==(-1)) (some ((t.kids.length:Int)==0)) (some false)):Option Bool).bind λ(s:Bool)=>(cond s (some s) (cond ((cond (gN t.op== -2) ((0:Int),false) (gN t.op,true)).1 !=(-1)) (some ((t.kids.length:Int)!=(cond (gN t.op== -2) ((0:Int),false) (gN t.op,true)).1)) (some false))))):Option Bool)).bind λ(b:Bool)=>(cond b (some (.rt false)) (cond (t.op==20) ((WH n t.name).bind λ(x:Bool)=>some (.nx x)) ((D9 n t.op).bind λ(c:Bool)=>(cond c ((fK n t.name).bind λ(d:Bool)=>some (.nx d)) (some (.nx (t.name==([]:Str)))))))):Option (LR Bool Bool))) (cond (Ak t) (.nx (Kc t)) (.rt false)):=by
  refine Ev.bind (a:=!(Ak t)) ?_ ?_
  ·refine Ev.of λn=>?_;unfold Ak
   grind
  cases Ak t with
  |false=>exact Ev.ret _|true=>
   simp only[qAr,cond_false,cond_true,Kc,axB,qAa];cases t.op==20 with
   |true=>refine Ev.bind (a:=named t.name) ?_ (Ev.ret _);exact adb t.name hs
   |false=>
    cases cO t.op with|true=>exact Ev.bind (pF _) (Ev.ret _)|false=>exact Ev.ret _
 refine Ev.bind h ?_;cases Ak t with|false=>exact Ev.ret _|true=>
  simp only[cond_true,qAw];refine Ev.bind (a:=Kc t&&VX t) ?_ ?_
  ·unfold VX;refine Ev.of λn=>?_
   grind
  unfold tyB;cases t.op==29 with
  |true=>
   simp only[cond_true];refine Ev.bind (a:=Kc t&&(VX t&&(dI t.ty&&t.ty.kind !=2))) ?_ (Ev.ret _);cases Kc t with|false=>exact Ev.ret _|true=>
    cases VX t with|false=>exact Ev.ret _|true=>
     simp only[qAw,cond_true];cases k:t.ty.kind !=2 with|false=>simp only[cond_false,qBO];exact Ev.ret _|true=>simp only[cond_true,qBE];exact Ev.bind (rD _) (Ev.ret _)
  |false=>simp only[cond_false,asf,qAa];refine Ev.of λn=>?_;cases Kc t<;>cases VX t<;>rfl
theorem avJ t:Ev (λn=>aci n t) (rW t):=by
 unfold aci rW;simp only[awe,qAa];refine Ev.bind (a:=!(Ak t)) ?_ ?_;·refine Ev.of λn=>?_;unfold Ak;cases d:gN t.op== -2 with|true=>rfl|false=>
   simp only[cond_false,qAr,qBd,qAw];cases e:gN t.op== -1 with
   |true=>grind
   |false=>
    have g:decide (0<=gN t.op)=true:=by
     unfold gN at e d|-
     grind
    grind
 cases Ak t with
 |false=>exact Ev.ret _|true=>
  simp only[qAr,cond_false,qAw];refine Ev.bind (a:=cond (Kc t) (.nx ()) (.rt false)) ?_ ?_;·unfold Kc;simp only[abq,qAa];cases t.op==20 with
   |true=>
    refine Ev.bind (ac6 _) ?_;simp only[cond_true];cases named t.name;·exact Ev.ret _
    exact Ev.ret _
   |false=>
    simp only[cond_false];cases cO t.op with
    |true=>
     refine Ev.bind (oH _) ?_;simp only[cond_true];cases ident t.name;·exact Ev.ret _
     exact Ev.ret _
    |false=>
     simp only[cond_false];cases t.name==([]:Str);·exact Ev.ret _
     exact Ev.ret _
  cases Kc t with|false=>exact Ev.ret _|true=>
   simp only[cond_true,qAw];refine Ev.bind (a:=!(VX t)) ?_ ?_;·refine Ev.of λn=>?_;unfold VX;cases h:t.op==19 with
    |true=>
     simp only[cond_true,bne,h,qAr,cond_false];by_cases b:t.n<0;·rw[decide_eq_true b,decide_eq_false (show ¬0<=t.n by omega)];rfl
     rw[decide_eq_false b,decide_eq_true (show 0<=t.n by omega)];by_cases c:1000000000<t.n;·rw[decide_eq_true c,decide_eq_false (show ¬t.n<=1000000000 by omega)];rfl
     rw[decide_eq_false c,decide_eq_true (show t.n<=1000000000 by omega)];rfl
    |false=>simp only[cond_false,bne,h,qBd,cond_true]
   cases VX t with|false=>exact Ev.ret _|true=>
    simp only[qAr,cond_false,qAw];unfold tyB;cases t.op==29 with
    |true=>
     simp only[cond_true];refine Ev.bind (a:=dI t.ty&&t.ty.kind !=2) (Ev.bind (AJ _) ?_) (Ev.ret _);cases dI t.ty;·exact Ev.ret _
     exact Ev.ret _
    |false=>simp only[cond_false,akC,qAa];exact Ev.ret _
mutual
def mf:Tm→Int→Int→Bool×Int
 | .mk op nm m ty ks,d,c=>cond ((decide (c+1≤2000)&&decide (d≤64))&&rW (.mk op nm m ty ks)) (Aw ks (d+1) (c+1)) (false,c+1)
def Aw:List Tm→Int→Int→Bool×Int
 |[],_,c=>(true,c)
 |t::ts,d,c=>cond (mf t d c).1 (Aw ts d (mf t d c).2) (false,(mf t d c).2)
end
mutual
theorem ab2:∀(t:Tm) (d c:Int),(mf t d c).1=true→c<(mf t d c).2∧(mf t d c).2≤2000
 | .mk op nm m ty ks,d,c,h=>by
  simp only[mf]at h⊢;cases hb:((decide (c+1≤2000)&&decide (d≤64))&&rW (.mk op nm m ty ks))with
  |false=>rw[hb]at h;cases h
  |true=>
   rw[hb]at h;simp only[cond_true]at h⊢;simp only[qAb,decide_eq_true_eq]at hb;have:=arO ks (d+1) (c+1) h;omega
theorem arO:∀(ts:List Tm) (d c:Int),(Aw ts d c).1=true→c≤(Aw ts d c).2∧(c≤2000→(Aw ts d c).2≤2000)
 |[],_,c,_=>by simp[Aw]
 |t::ts,d,c,h=>by
  simp only[Aw]at h⊢;cases hb:(mf t d c).1 with
  |false=>rw[hb]at h;cases h
  |true=>
   rw[hb]at h;simp only[cond_true]at h⊢;have h1:=ab2 t d c hb;have h2:=arO ts d _ h;exact⟨by omega,fun _=>h2.2 h1.2⟩
end
mutual
def mh:Tm→Prop
 | .mk _ nm _ _ ks=>nm.length≤9223372036854775807∧aef ks
def aef:List Tm→Prop
 |[]=>True
 |t::ts=>mh t∧aef ts
end
theorem aqX:∀{s:List Tm},aef s->∀t∈s,mh t
 |[],_,t,h=>by cases h|u::s,h,t,a=>by
  simp only[aef]at h;rcases qAh.1 a with rfl|a
  ·exact h.1
  exact aqX h.2 t a
theorem axV n c d (h0:0<=c)(h:c<=2000):ku n c 2000 64 d=some (decide (c+1<=2000)&&decide (d<=64),c+1):=by
 unfold ku;rw[wrap64 (by omega) (by omega)]
 grind
def aFx t:=mh t->∀d c:Int,1<=d->d<=65->0<=c->c<=2000->Ev (λn=>jK n c 2000 64 t d) (mf t d c)
theorem aup d:∀a i c,0<=i->(∃j,0<=j/\(Aw a d c).1=false/\jZ (τ:=Int) (λi x s=>cond (!(mf x d s).1) (.rt (i,(mf x d s).2)) (.nx (mf x d s).2)) (λs=>s) i a c=.rt (j,(Aw a d c).2))∨(Aw a d c).1=true/\jZ (ρ:=Int×Int) (λi x s=>cond (!(mf x d s).1) (.rt (i,(mf x d s).2)) (.nx (mf x d s).2)) (λs=>s) i a c=.nx (Aw a d c).2
 |[],i,c,_=>.inr ⟨rfl,rfl⟩|t::a,i,c,h=>by
  simp only[Aw,jZ];cases b:(mf t d c).1 with|false=>exact .inl ⟨i,h,rfl,rfl⟩|true=>exact aup d a (i+1) _ (by omega)
theorem au3 ts (h:∀t∈ts,aFx t)(q:aef ts) d c (B:1<=d)(u:d<=64)(h0:0<=c)(v:c<=2000):Ev (λn=>gL n ts c 2000 64 d) (!(Aw ts (d+1) c).1,(Aw ts (d+1) c).2):=by
 refine Ev.succ ?_;show Ev (λn=>wG n _ _ _ _ ts c 2000 64 d) _;have l:=NS ts (λn k i s=>Bo n (j5 n) (gL n) (jK n) (gP n) ts 2000 64 d k (i,s))
  (λn i x s=>(gP n x s 2000 64 d).bind λx2=>cond x2.1 (some (.rt (i,x2.2))) (some (.nx x2.2))) (λi x s=>cond (!(mf x (d+1) s).1) (.rt (i,(mf x (d+1) s).2)) (.nx (mf x (d+1) s).2)) (λs=>s) (λ_ _ s=>0<=s/\s<=2000)
  (λn k i s=>by
   show cond _ _ _=_;congr 1;congr 1;funext x;dsimp only;cases gP n x s 2000 64 d with|none=>rfl|some b=>obtain⟨b,e⟩:=b;cases b<;>rfl)
  (λi x w s o p=>⟨by
   have f:Ev (λn=>gP n x s 2000 64 d) (!(mf x (d+1) s).1,(mf x (d+1) s).2):=by refine Ev.succ ?_;show Ev (λn=>tL n _ _ _ _ x s 2000 64 d) _;unfold tL;have:=h x o (aqX q x o) (d+1) s (by omega) (by omega) p.1 p.2;rw[wrap64 (by omega) (by omega)];exact Ev.bind this (Ev.ret _)
   refine Ev.bind f ?_;cases(mf x (d+1) s).1;·exact Ev.ret _
   exact Ev.ret _,λs' g=>by
   cases m:(mf x (d+1) s).1 with|false=>rw[m]at g;cases g|true=>rw[m]at g;simp at g;have:=ab2 x (d+1) s m;omega⟩) (s0:=c) ⟨h0,v⟩
 rcases aup (d+1) ts 0 c (qBJ _)with⟨j,y,z,r⟩|⟨A,r⟩
 ·rw[r]at l;refine Ev.bind (a:=(j,(Aw ts (d+1) c).2)) (Ev.succ ?_) ?_
  ·show Ev (λn=>jC n _ _ _ _ ts c 2000 64 d) _;unfold jC;exact Ev.bind l (Ev.ret _)
  rw[z];simp only[decide_eq_true y];exact Ev.ret _
 rw[r]at l;refine Ev.bind (a:=(-1,(Aw ts (d+1) c).2)) (Ev.succ ?_) ?_;·show Ev (λn=>jC n _ _ _ _ ts c 2000 64 d) _;unfold jC;exact Ev.bind l (Ev.ret _)
 rw[A];exact Ev.ret _
theorem aGC:∀t:Tm,aFx t:=Tm.ind λop b m y k i s d c e f g j=>by
 refine Ev.succ ?_;show Ev (λn=>vT n _ _ _ _ c 2000 64 (.mk op b m y k) d) _;unfold vT;simp only[axV _ c d g j,qAa,mf];cases h:(decide (c+1<=2000)&&decide (d<=64))with|false=>exact Ev.ret _|true=>
  simp at h;refine Ev.bind (a:=(!(rW (.mk op b m y k)),c+1)) (Ev.bind (axC (.mk op b m y k) s.1) (Ev.ret _)) ?_;cases rW (.mk op b m y k)with|false=>exact Ev.ret _|true=>refine Ev.bind (au3 k i s.2 d (c+1) e h.2 (by omega) h.1) ?_;simp only[qCq];exact Ev.ret _
def dH t:=(mf t 1 0).1
theorem Mh t (h:mh t):Ev (λn=>GQ n t) (dH t):=by exact Ev.bind (aGC t h 1 0 (by omega) (by omega) (by omega) (by omega)) (Ev.ret _)
def mt t d c:=cond (mf t d c).1 (mf t d c).2 (-1)
def aFC t:=∀d c:Int,1<=d->d<=65->0<=c->c<=2000->Ev (λn=>EO n t d c) (mt t d c)
theorem atu d:∀a c,0<=c->gD (τ:=Int) (λx s=>cond (decide (mt x d s<0)) (.rt (-1)) (.nx (mt x d s))) (λs=>s) a c=cond (Aw a d c).1 (.nx (Aw a d c).2) (.rt (-1))
 |[],c,_=>rfl|t::a,c,g=>by
  simp only[Aw,gD];by_cases b:(mf t d c).1=true
  ·have i:=ab2 t d c b;have f:mt t d c=(mf t d c).2:=by simp only[mt,b,cond_true]
   have e:decide ((mf t d c).2<0)=false:=decide_eq_false (by omega);simp only[f,e,b,cond_true,cond_false];exact atu d a (mf t d c).2 (by omega)
  have h:(mf t d c).1=false:=by simpa using b
  have f:mt t d c= -1:=by simp only[mt,h,cond_false]
  have e:decide (mt t d c<0)=true:=decide_eq_true (by omega);simp only[e,h,cond_true,cond_false]
theorem nodes:∀t:Tm,aFC t:=Tm.ind λop l m y k u d c A v B C=>by
 refine Ev.succ ?_;show Ev (λn=>Mi n _ (.mk op l m y k) d c) _;unfold Mi;simp only[mt,mf];rw[wrap64 (by omega) (by omega)];by_cases f:d<=64
 case neg=>rw[decide_eq_true (show 64<d by omega),decide_eq_false f];simp only[qBO,qBn,cond_false];exact Ev.ret _
 by_cases o:c+1<=2000
 case neg=>rw[decide_eq_false (show ¬64<d by omega),decide_eq_true (show 2000<c+1 by omega),decide_eq_false o];simp only[qBn,cond_false,cond_true];exact Ev.ret _
 rw[decide_eq_false (show ¬64<d by omega),decide_eq_false (show ¬2000<c+1 by omega),decide_eq_true f,decide_eq_true o];simp only[cond_false,qAw];refine Ev.bind (a:=!(rW (.mk op l m y k))) (Ev.bind (avJ _) (Ev.ret _)) ?_;cases rW (.mk op l m y k)with|false=>exact Ev.ret _|true=>
  simp only[qAr,cond_false,cond_true];have h:=UD k (λn q i s=>adT n (EO n) (.mk op l m y k) d q (s,i)) (λn x s=>(EO n x (IntKind.wrap .i64 (d+1)) s).bind λx2=>cond (decide (x2<0)) (some (.rt (-1))) (some (.nx x2)))
   (λx s=>cond (decide (mt x (d+1) s<0)) (.rt (-1)) (.nx (mt x (d+1) s))) (λs=>s) (λ_ s=>0<=s/\s<=2000)
   (λn q i s=>by
    show cond _ _ _=_;congr 1;show(idx k i).bind _=_;congr 1;funext x;dsimp only;cases EO n x (IntKind.wrap .i64 (d+1)) s with|none=>rfl|some b=>simp only[qAa];cases decide (b<0)<;>rfl)
   (λx w s z r=>⟨by
    rw[wrap64 (by omega) (by omega)];refine Ev.bind (u x z (d+1) s (by omega) (by omega) r.1 r.2) ?_;cases decide (mt x (d+1) s<0);·exact Ev.ret _
    exact Ev.ret _,λs' g=>by
    cases p:decide (mt x (d+1) s<0)with|true=>rw[p]at g;cases g|false=>
     rw[p]at g;simp only[cond_false,LR.nx.injEq]at g;have e:¬mt x (d+1) s<0:=of_decide_eq_false p;subst g;unfold mt at e|-;cases j:(mf x (d+1) s).1 with|false=>rw[j]at e;simp at e|true=>have:=ab2 x (d+1) s j;simp only[cond_true];omega⟩) (s0:=c+1) ⟨by omega,o⟩
  rw[atu _ _ _ (by omega)]at h;refine Ev.bind h ?_;cases(Aw k (d+1) (c+1)).1;·exact Ev.ret _
  exact Ev.ret _
theorem J5 t:Ev (λn=>tV n t) (dH t):=by
 refine Ev.bind (nodes t 1 0 (by omega) (by omega) (by omega) (by omega)) ?_;unfold mt dH;cases h:(mf t 1 0).1 with|false=>exact Ev.ret _|true=>have:=ab2 t 1 0 h;simp only[cond_true];rw[decide_eq_true (by omega)];exact Ev.ret _
def aK:Ty:=.mk 2 [] []
def bY:Ty:=.mk 1 [] []
def aL(a b:Ty):Ty:=.mk 4 [] [a,b]
inductive Good:Ty→Prop where
 |int:Good bY
 |car (nm:Str):Good (pq nm)
 |pair {a b:Ty}:Good a→Good b→Good (aL a b)
 |set {a:Ty}:Good a→Good (aj a)
def Top t:=t=aK∨Good t
mutual
theorem aCB:∀(t:Ty) (d c:Int),1<d→(pf t d c).1=true→Good t
 | .mk k nm ks,d,c,hd,h=>by
  simp only[pf]at h;cases hb:((decide (c+1≤16)&&decide (d≤6))&&iN k nm ks.length d)with
  |false=>rw[hb]at h;cases h
  |true=>
   rw[hb]at h;simp only[cond_true]at h;have hk:=afC ks (d+1) (c+1) (by omega) h;simp only[qAb,iN,decide_eq_true_eq,qBm,beq_iff_eq,qAS,qCP,beq_eq_false_iff_ne,decide_eq_false_iff_not]at hb;obtain⟨_,h2,h3,h4⟩:=hb;have hk2:k≠2:=by rcases h2 with h2|h2<;>omega
   rcases h3 with⟨h5,h6⟩|⟨h5,h6⟩|⟨h5,h6⟩
   ·have hks:ks=[]:=qAI.1 h6;subst hks;rcases h5 with rfl|rfl|rfl
    ·have:nm=[]:=by simpa using h4
     subst this;exact .int
    ·exact absurd rfl hk2
    ·exact .car nm
   ·subst h5;have:nm=[]:=by simpa using h4
    subst this
    match ks,h6,hk with
    |[a,b],_,hk=>exact .pair (hk a (by simp)) (hk b (by simp))
   ·subst h5;have:nm=[]:=by simpa using h4
    subst this
    match ks,h6,hk with
    |[a],_,hk=>exact .set (hk a (by simp))
theorem afC:∀(ts:List Ty) (d c:Int),1<d→(mX ts d c).1=true→∀t∈ts,Good t
 |[],_,_,_,_,t,ht=>by cases ht
 |u::ts,d,c,hd,h,t,ht=>by
  simp only[mX]at h;cases hb:(pf u d c).1 with
  |false=>rw[hb]at h;cases h
  |true=>
   rw[hb]at h;rcases qAh.1 ht with he|ht
   ·rw[he];exact aCB u d c hd hb
   ·exact afC ts d _ hd h t ht
end
theorem abj{t}(h:dI t=true):Top t:=by
 obtain⟨k,n,s⟩:=t;unfold dI at h;simp only[pf]at h;cases f:((decide ((0:Int)+1<=16)&&decide ((1:Int)<=6))&&iN k n s.length 1)with|false=>rw[f]at h;cases h|true=>
  rw[f]at h;simp only[cond_true]at h;have c:=afC s (1+1) (0+1) (by omega) h;simp only[qAb,iN,decide_eq_true_eq,qBm,beq_iff_eq,qAS,qCP,beq_eq_false_iff_ne,decide_eq_false_iff_not]at f;obtain⟨_,_,j,g⟩:=f;rcases j with⟨d,e⟩|⟨d,e⟩|⟨d,e⟩
  ·have i:s=[]:=qAI.1 e;subst i;rcases d with rfl|rfl|rfl
   ·have:n=[]:=by simpa using g
    subst this;exact .inr .int
   ·have:n=[]:=by simpa using g
    subst this;exact .inl rfl
   exact .inr (.car n)
  ·subst d;have:n=[]:=by simpa using g
   subst this
   match s,e,c with|[a,b],_,c=>exact .inr (.pair (c a (by simp)) (c b (by simp)))
  subst d;have:n=[]:=by simpa using g
  subst this
  match s,e,c with|[a],_,c=>exact .inr (.set (c a (by simp)))
theorem aCI{t}(h:Good t):Iw t=true:=by
 induction h with|int=>rfl|car n=>rfl|pair _ _ a b=>simp[aL,Iw,Vr,a,b]|set _ a=>simp[aj,Iw,Vr,a]
theorem ayW{t}(h:Top t):Iw t=true:=by
 rcases h with rfl|h
 ·rfl
 exact aCI h
theorem ak1{t}(h:Good t):(t.kind==2)=false:=by cases h<;>rfl
def aN(t:Ty):=cond (t.kind==5) t.kids.head? none
def dB t:=(aN t).bind λp=>cond (p.kind==4) (p.kids.head?.bind λa=>(p.kids.drop 1).head?.map λb=>(a,b)) none
theorem aej a:aN (aj a)=some a:=rfl
theorem aAT a b:dB (aj (aL a b))=some (a,b):=rfl
theorem BS{t}(h:Top t):(∃e,t=aj e/\Good e)∨(t.kind==5)=false/\aN t=none/\dB t=none:=by
 rcases h with rfl|h
 ·exact .inr ⟨rfl,rfl,rfl⟩
 cases h with|int=>exact .inr ⟨rfl,rfl,rfl⟩|car n=>exact .inr ⟨rfl,rfl,rfl⟩|pair _ _=>exact .inr ⟨rfl,rfl,rfl⟩|set h=>exact .inl ⟨_,rfl,h⟩
theorem amn{t}(h:Top t):(∃a b,t=aj (aL a b)/\Good a/\Good b)∨dB t=none:=by
 rcases BS h with⟨e,rfl,c⟩|⟨_,_,h⟩
 ·cases c with|int=>exact .inr rfl|car n=>exact .inr rfl|pair d f=>exact .inl ⟨_,_,rfl,d,f⟩|set h=>exact .inr rfl
 exact .inr h
theorem eO{t e}(h:Top t)(a:aN t=some e):Good e/\t=aj e:=by
 rcases BS h with⟨b,rfl,g⟩|⟨_,h,_⟩
 ·rw[aej]at a;cases a;exact⟨g,rfl⟩
 rw[h]at a;cases a
theorem gU{t a b}(h:Top t)(e:dB t=some (a,b)):Good a/\Good b/\t=aj (aL a b):=by
 rcases amn h with⟨c,d,rfl,g⟩|h
 ·rw[aAT]at e;cases e;exact⟨g.1,g.2,rfl⟩
 rw[h]at e;cases e
def elP(o:Option Ty):=match o with|some e=>(e,true)|none=>(aR,false)
def siP(o:Option (Ty×Ty)):=match o with|some e=>(e.1,e.2,true)|none=>(aR,aR,false)
theorem iA n {t}(h:Top t):bQ n t=some (elP (aN t)):=by
 rcases BS h with⟨e,rfl,_⟩|⟨a,b,_⟩
 ·rfl
 unfold bQ;rw[b,bne,a];rfl
theorem vU n {t}(h:Top t):iT n t=some (siP (dB t)):=by
 unfold iT;rw[iA n h];rcases BS h with⟨e,rfl,a⟩|⟨_,b,c⟩
 ·cases a<;>rfl
 rw[b,c];rfl
theorem qK n {t}(h:Top t):fF n t=some (aN t).isSome:=by
 rcases BS h with⟨e,rfl,a⟩|⟨b,c,_⟩
 ·cases a<;>rfl
 unfold fF;rw[c,b];rfl
theorem vV n {t}(h:Top t):Pm n t=some (dB t).isSome:=by
 rcases BS h with⟨e,rfl,a⟩|⟨b,d,c⟩
 ·cases a<;>rfl
 unfold Pm;rw[c,b];rfl
def aP b(t:Ty):=cond b (some t) none
def xP q(l:List Ty):=l.all λx=>x.kind==q
def gH(op:Int)l:=
 let a:=l.headD aR
 let b:=(l.drop 1).headD aR
 cond (decide (op<=2)) (some aK) <|
 cond (decide (op<=7)) (aP (xP 2 l) aK) <|
 cond (decide (op<=9)) (aP ((aN a).isSome&&b.kind==2) aK) <|
 cond (decide (op<=11)) (aP (a.kind !=2&&aS a b) aK) <|
 cond (decide (op<=15)) (aP (xP 1 l) aK) <|
 cond (decide (op<=17)) ((aN b).bind λe=>aP (aS a e) aK) <|
 cond (decide (op<=18)) (aP ((aN a).isSome&&aS a b) aK) <|
 cond (decide (op<=19)) (some bY) <|
 cond (decide (op<=26)) (aP (xP 1 l) bY) <|
 cond (decide (op<=27)) (aP (a.kind !=2&&b.kind !=2) (aL a b)) <|
 cond (decide (op<=28)) (aP (a.kind !=2&&l.all λx=>aS x a) (aj a)) <|
 cond (decide (op<=30)) (aP (xP 1 l) (aj bY)) <|
 cond (decide (op<=33)) (aP ((aN a).isSome&&aS a b) a) <|
 cond (decide (op<=34)) ((aN a).bind λx=>(aN b).map λy=>aj (aL x y)) <|
 cond (decide (op<=35)) (aP ((dB a).isSome&&aS a b) a) <|
 cond (decide (op<=36)) ((dB a).bind λx=>(dB b).bind λy=>aP (aS x.2 y.1) (aj (aL x.1 y.2))) <|
 cond (decide (op<=38)) ((aN a).bind λx=>(dB b).bind λy=>aP (aS x y.1) b) <|
 cond (decide (op<=40)) ((dB a).bind λx=>(aN b).bind λy=>aP (aS y x.2) a) <|
 cond (decide (op<=45)) ((aN a).bind λx=>(aN b).map λy=>aj (aj (aL x y))) <|
 cond (decide (op<=46)) ((aN a).map λx=>aj (aj x)) <|
 cond (decide (op<=47)) ((aN a).map λ_=>bY) <|
 cond (decide (op<=49)) ((aN a).bind λx=>aP (x.kind==1) bY) <|
 cond (decide (op<=50)) ((dB a).map λx=>aj x.1) <|
 cond (decide (op<=51)) ((dB a).map λx=>aj x.2) <|
 cond (decide (op<=52)) ((dB a).map λx=>aj (aL x.2 x.1)) <|
 cond (decide (op<=53)) ((dB a).bind λx=>(aN b).bind λy=>aP (aS y x.1) (aj x.2)) <|
 cond (decide (op<=54)) ((dB a).bind λx=>aP (aS b x.1) x.2) <|
 cond (decide (op<=55)) (aP ((aN a).isSome&&b.kind==2) a) <|
 (aN a).bind λx=>aP (b.kind !=2) (aj (aL x b))
def aB0 r(o:Option Ty):=match o with|some t=>r=(t,true)|none=>r.2=false
def Row f o:=∃r,Ev f r/\aB0 r o
theorem Row.of{f o} t b (h:Ev f (t,b))(e:o=aP b t):Row f o:=by
 subst e;cases b;·exact⟨_,h,rfl⟩
 exact⟨_,h,rfl⟩
theorem Row.no{f o} t (h:Ev f (t,false))(e:o=none):Row f o:=.of t false h e
theorem Row.yes{f o} t (h:Ev f (t,true))(e:o=some t):Row f o:=.of t true h e
theorem gK{α} a (l:List α):idx (a::l) 0=some a:=rfl
theorem lY{α} a b (l:List α):idx (a::b::l) 1=some b:=rfl
theorem mJ t:Ty.mk t.kind t.name t.kids=t:=by cases t;rfl
theorem arG a b:aS a b=true↔a=b:=⟨mD a b,λh=>h▸aaj a⟩
theorem ayL a b:aS a b=aS b a:=by
 rw[qBY,arG,arG]
 grind
theorem aqY a b:aS (aj a) (aj b)=aS a b:=by simp[aj,aS,yY]
theorem aBJ{t}(h:Top t):(t.kind==2)=aS t aK:=by
 rcases h with rfl|h
 ·rfl
 cases h<;>rfl
theorem auP{t}(h:Top t):(t.kind==1)=aS t bY:=by
 rcases h with rfl|h
 ·rfl
 cases h<;>rfl
theorem aGz{t}(h:Top t):(t.kind==5)=(aN t).isSome:=by
 rcases h with rfl|h
 ·rfl
 cases h<;>rfl
theorem aGJ{l}(h:∀t∈l,Top t):xP 2 l=l.all λx=>aS x aK:=by unfold xP;rw[qBY,qAJ,qAJ];exact⟨λk t a=>by rw[<-aBJ (h t a)];exact k t a,λk t a=>by rw[aBJ (h t a)];exact k t a⟩
theorem awF{l}(h:∀t∈l,Top t):xP 1 l=l.all λx=>aS x bY:=by unfold xP;rw[qBY,qAJ,qAJ];exact⟨λk t a=>by rw[<-auP (h t a)];exact k t a,λk t a=>by rw[auP (h t a)];exact k t a⟩
theorem kX l k nm ks q:Row (λn=>aV n l k nm ks q) (aP (xP q l) (.mk k nm ks)):=by
 refine Row.of (.mk k nm ks) (xP q l) ?_ rfl;refine Ev.bind (a:=l.any λx=>x.kind !=q) (Ev.bind (tC l (λn k i=>zl n l q k i) (λ_ x=>some (x.kind !=q)) (λx=>x.kind !=q) (λn k i=>rfl) (λx _=>Ev.ret _)) ?_) ?_;·rw[qE _ _ _ (qBJ _)];exact Ev.ret _
 have:(!(l.any λx=>x.kind !=q))=xP q l:=by
  unfold xP
  grind
 rw[this];exact Ev.ret _
theorem arX a l:Ev (λn=>lG n (a::l)) (a.kind !=2&&(a::l).all λx=>aS x a):=by
 unfold lG qQ uo;simp only[gK,qAa];cases a.kind !=2 with|false=>exact Ev.ret _|true=>
  simp;refine Ev.bind (a:=(a::l).any λx=>!(aS x a)) (Ev.bind (tC (a::l) (λn k i=>zu n (a::l) (a::l) k i) (λn x=>Cn n x (a::l)) (λx=>!(aS x a)) (λn k i=>rfl) (λx _=>?_)) ?_) ?_;·unfold Cn;simp only[gK,qAa];exact Ev.bind (Fe x a) (Ev.ret _)
  ·rw[qE _ _ _ (qBJ _)];exact Ev.ret _
  rw[qd,qCq];exact Ev.ret _
theorem Rq a b:Ev (λn=>lG n [a,b]) (a.kind !=2&&aS a b):=by have:=arX a [b];simp only[qBK,List.all_nil,qBE,aaj]at this;rwa[ayL b a]at this
section
variable {a b:Ty}(ha:Top a)(hb:Top b)
theorem amc(hs:(aN a).isSome=true):Row (λn=>qo n [a,b]) (aP ((aN a).isSome&&b.kind==2) aK):=by rw[hs];exact Row.of aK (b.kind==2) (Ev.ret _) rfl
theorem axj(hs:(aN a).isSome=true):Row (λn=>AA n [a,b]) (aP ((aN a).isSome&&b.kind==2) a):=by rw[hs];exact Row.of a (b.kind==2) (Ev.ret _) rfl
theorem apF:Row (fun n=>uJ n [a,b]) (aP (a.kind !=2&&aS a b) aK):=
 Row.of aK _ (Ev.bind (Rq a b) (Ev.ret _)) rfl
include hb in
theorem afU:Row (fun n=>qW n [a,b]) ((aN b).bind fun e=>aP (aS a e) aK):=by
 unfold qW;simp only[gK,lY,qAa,iA _ hb];cases aN b with
 |none=>exact .no aK (Ev.ret _) rfl
 |some e=>exact .of aK (aS a e) (Ev.bind (Ev.bind (Fe a e) (Ev.ret _)) (Ev.ret _)) rfl
include ha in
theorem arS:(a.kind==5&&(a.kind !=2&&aS a b))=((aN a).isSome&&aS a b):=by
 rw[aGz ha];cases hs:aN a with
 |none=>rfl
 |some e=>obtain⟨_,rfl⟩:=eO ha hs;rfl
include ha in
theorem azA:Row (fun n=>uS n [a,b]) (aP ((aN a).isSome&&aS a b) aK):=by
 rw[←arS ha];unfold uS;simp only[gK,qAa];refine .of aK _ (Ev.bind (a:=a.kind==5&&(a.kind !=2&&aS a b)) ?_ (Ev.ret _)) rfl;cases a.kind==5 with
 |false=>exact Ev.ret _
 |true=>exact Ev.bind (Rq a b) (Ev.ret _)
include ha in
theorem aaY:Row (fun n=>jR n [a,b]) (aP ((aN a).isSome&&aS a b) a):=by
 rw[←arS ha];unfold jR;simp only[gK,qAa];refine .of a _ (Ev.bind (a:=(a.kind==5&&(a.kind !=2&&aS a b),a.kind,a.name,a.kids)) ?_ (by simp only[mJ];exact Ev.ret _)) rfl;cases a.kind==5 with
 |false=>exact Ev.ret _
 |true=>exact Ev.bind (Rq a b) (Ev.ret _)
theorem azP:Row (λn=>zH n [a,b]) (aP (a.kind !=2&&b.kind !=2) (aL a b)):=by
 unfold zH;simp only[gK,qAa];cases a.kind !=2 with|false=>exact .no (aL a b) (Ev.ret _) rfl|true=>exact .of (aL a b) (b.kind !=2) (Ev.ret _) rfl
theorem aC0(l:List Ty):Row (fun n=>zo n (a::l)) (aP (a.kind !=2&&(a::l).all fun x=>aS x a) (aj a)):=by
 unfold zo;simp only[gK,qAa];exact .of (aj a) _ (Ev.bind (arX a l) (Ev.ret _)) rfl
include ha hb in
theorem aBA:Row (fun n=>w9 n [a,b]) ((aN a).bind fun x=>(aN b).map fun y=>aj (aL x y)):=by
 unfold w9;simp only[gK,lY,qAa,iA _ ha,iA _ hb];cases aN a with
 |none=>exact .no aR (Ev.ret _) rfl
 |some x=>
  cases aN b with
  |none=>exact .no aR (Ev.ret _) rfl
  |some y=>exact .yes (aj (aL x y)) (Ev.ret _) rfl
include ha hb in
theorem Qa:Row (fun n=>gy n [a,b]) ((aN a).bind fun x=>(aN b).map fun y=>aj (aj (aL x y))):=by
 unfold gy;simp only[gK,lY,qAa,iA _ ha,iA _ hb];cases aN a with
 |none=>exact .no aR (Ev.ret _) rfl
 |some x=>
  cases aN b with
  |none=>exact .no aR (Ev.ret _) rfl
  |some y=>exact .yes (aj (aj (aL x y))) (Ev.ret _) rfl
include ha in
theorem aBh:Row (fun n=>mF n [a,b]) (aP ((dB a).isSome&&aS a b) a):=by
 unfold mF;simp only[gK,qAa,vU _ ha];cases hr:dB a with
 |none=>exact .no aR (Ev.ret _) rfl
 |some x=>
  obtain⟨x,y⟩:=x;obtain⟨_,_,rfl⟩:=gU ha hr;refine .of _ (aS (aj (aL x y)) b) (Ev.bind (a:=(aj (aL x y),aS (aj (aL x y)) b)) ?_ (Ev.ret _)) rfl;show Ev (fun n=>(lG n [aj (aL x y),b]).bind fun x2=>some (aj (aL x y),x2)) _;exact Ev.bind (Rq (aj (aL x y)) b) (Ev.ret _)
include ha hb in
theorem aBj:Row (fun n=>l7 n [a,b]) ((dB a).bind fun x=>(dB b).bind fun y=>aP (aS x.2 y.1) (aj (aL x.1 y.2))):=by
 unfold l7 LY;simp only[gK,lY,qAa,vU _ ha,vU _ hb];cases dB a with
 |none=>exact .no aR (Ev.ret _) rfl
 |some x=>
  cases dB b with
  |none=>exact .no (aj (aL x.1 aR)) (Ev.ret _) rfl
  |some y=>exact .of (aj (aL x.1 y.2)) (aS x.2 y.1) (Ev.bind (Ev.bind (Ev.bind (Fe x.2 y.1) (Ev.ret _)) (Ev.ret _)) (Ev.ret _)) rfl
include ha hb in
theorem ape:Row (fun n=>qD n [a,b]) ((aN a).bind fun x=>(dB b).bind fun y=>aP (aS x y.1) b):=by
 unfold qD;simp only[gK,lY,qAa,iA _ ha,vU _ hb];cases aN a with
 |none=>exact .no b (by simp only[elP,cond_false,qAa,mJ];exact Ev.ret _) rfl
 |some x=>
  cases dB b with
  |none=>exact .no b (by simp only[elP,siP,cond_true,cond_false,qAa,mJ];exact Ev.ret _) rfl
  |some y=>
   refine .of b (aS x y.1) ?_ rfl;simp only[elP,siP,cond_true];exact Ev.bind (a:=(aS x y.1,b.kind,b.name,b.kids)) (Ev.bind (Fe x y.1) (Ev.ret _)) (by simp only[mJ];exact Ev.ret _)
include ha hb in
theorem apV:Row (fun n=>iW n [a,b]) ((dB a).bind fun x=>(aN b).bind fun y=>aP (aS y x.2) a):=by
 unfold iW Ma;simp only[gK,lY,qAa,iA _ hb,vU _ ha];cases dB a with
 |none=>exact .no aR (Ev.ret _) rfl
 |some x=>
  cases aN b with
  |none=>exact .no a (by simp only[elP,siP,cond_false,qAa,mJ,qAr];exact Ev.ret _) rfl
  |some y=>
   refine .of a (aS y x.2) ?_ rfl;simp only[elP,siP,cond_true,qAr,cond_false];exact Ev.bind (a:=(a,aS y x.2)) (Ev.bind (a:=(aS y x.2,a.kind,a.name,a.kids)) (Ev.bind (Fe y x.2) (Ev.ret _)) (by simp only[mJ];exact Ev.ret _)) (Ev.ret _)
include ha in
theorem aDQ:Row (fun n=>sP n [a]) ((aN a).map fun x=>aj (aj x)):=by
 unfold sP;simp only[gK,qAa,iA _ ha];cases aN a with
 |none=>exact .no aR (Ev.ret _) rfl
 |some x=>exact .yes (aj (aj x)) (Ev.ret _) rfl
include ha in
theorem az0:Row (fun n=>sV n [a]) ((aN a).map fun _=>bY):=by
 unfold sV;simp only[gK,qAa,iA _ ha];cases aN a with
 |none=>exact .no aR (Ev.ret _) rfl
 |some x=>exact .yes bY (Ev.ret _) rfl
include ha in
theorem auz:Row (fun n=>l6 n [a]) ((aN a).bind fun x=>aP (x.kind==1) bY):=by
 unfold l6;simp only[gK,qAa,iA _ ha];cases aN a with
 |none=>exact .no aR (Ev.ret _) rfl
 |some x=>exact .of bY (x.kind==1) (Ev.ret _) rfl
include ha in
theorem aC3:Row (fun n=>mG n [a]) ((dB a).map fun x=>aj x.1):=by
 unfold mG;simp only[gK,qAa,vU _ ha];cases dB a with
 |none=>exact .no aR (Ev.ret _) rfl
 |some x=>exact .yes (aj x.1) (Ev.ret _) rfl
include ha in
theorem aDt:Row (fun n=>mP n [a]) ((dB a).map fun x=>aj x.2):=by
 unfold mP;simp only[gK,qAa,vU _ ha];cases dB a with
 |none=>exact .no aR (Ev.ret _) rfl
 |some x=>exact .yes (aj x.2) (Ev.ret _) rfl
include ha in
theorem aCS:Row (fun n=>mQ n [a]) ((dB a).map fun x=>aj (aL x.2 x.1)):=by
 unfold mQ;simp only[gK,qAa,vU _ ha];cases dB a with
 |none=>exact .no aR (Ev.ret _) rfl
 |some x=>exact .yes (aj (aL x.2 x.1)) (Ev.ret _) rfl
include ha hb in
theorem ax5:Row (fun n=>mK n [a,b]) ((dB a).bind fun x=>(aN b).bind fun y=>aP (aS y x.1) (aj x.2)):=by
 unfold mK Ju;simp only[gK,lY,qAa,iA _ hb,vU _ ha];cases dB a with
 |none=>exact .no aR (Ev.ret _) rfl
 |some x=>
  cases aN b with
  |none=>exact .no (aj x.2) (Ev.ret _) rfl
  |some y=>exact .of (aj x.2) (aS y x.1) (Ev.bind (Ev.bind (Ev.bind (Fe y x.1) (Ev.ret _)) (Ev.ret _)) (Ev.ret _)) rfl
include ha in
theorem ayY:Row (fun n=>mI n [a,b]) ((dB a).bind fun x=>aP (aS b x.1) x.2):=by
 unfold mI Jm;simp only[gK,lY,qAa,vU _ ha];cases dB a with
 |none=>exact .no aR (Ev.ret _) rfl
 |some x=>exact .of x.2 (aS b x.1) (Ev.bind (Ev.bind (Fe b x.1) (Ev.ret _)) (Ev.ret _)) rfl
include ha in
theorem aDC:Row (fun n=>xg n [a,b]) ((aN a).bind fun x=>aP (b.kind !=2) (aj (aL x b))):=by
 unfold xg;simp only[gK,lY,qAa,iA _ ha];cases aN a with
 |none=>exact .no (aj (aL aR b)) (Ev.ret _) rfl
 |some x=>exact .of (aj (aL x b)) (b.kind !=2) (Ev.ret _) rfl
end
def aFs(f)(o:Option Ty):=∃r,Ev f r/\match o with|some t=>r=(true,t.kind,t.name,t.kids)|none=>r.1=false
theorem Row.c{f}{o}(h:Row f o):aFs (λn=>(f n).bind λx=>some (x.2,x.1.kind,x.1.name,x.1.kids)) o:=by
 obtain⟨r,b,a⟩:=h;refine⟨_,Ev.bind b (Ev.ret _),?_⟩;cases o with|none=>exact a|some t=>have a:r=(t,true):=a;subst a;rfl
def ay9(n)(op:Int)l:=cond (op==0) none (cond (op==1) (some (((Ty.mk 2 ([]:Str) ([])),true).2,(((Ty.mk 2 ([]:Str) ([])),true).1).kind,(((Ty.mk 2 ([]:Str) ([])),true).1).name,(((Ty.mk 2 ([]:Str) ([])),true).1).kids)) (cond (op==2) (some (((Ty.mk 2 ([]:Str) ([])),true).2,(((Ty.mk 2 ([]:Str) ([])),true).1).kind,(((Ty.mk 2 ([]:Str) ([])),true).1).name,(((Ty.mk 2 ([]:Str) ([])),true).1).kids)) (cond (op==3) ((aV n l 2 ([]:Str) ([]) 2).bind λ(X:Ty×Bool)=>some (X.2,X.1.kind,X.1.name,X.1.kids)) (cond (op==4) ((aV n l 2 ([]:Str) ([]) 2).bind λ(Y:Ty×Bool)=>some (Y.2,Y.1.kind,Y.1.name,Y.1.kids)) (cond (op==5) ((aV n l 2 ([]:Str) ([]) 2).bind λ(Z:Ty×Bool)=>some (Z.2,Z.1.kind,Z.1.name,Z.1.kids)) (cond (op==6) ((aV n l 2 ([]:Str) ([]) 2).bind λ(x9:Ty×Bool)=>some (x9.2,x9.1.kind,x9.1.name,x9.1.kids)) (cond (op==7) ((aV n l 2 ([]:Str) ([]) 2).bind λ(x:Ty×Bool)=>some (x.2,x.1.kind,x.1.name,x.1.kids)) (cond (op==8) ((qo n l).bind λ(a:Ty×Bool)=>some (a.2,a.1.kind,a.1.name,a.1.kids)) (cond (op==9) ((qo n l).bind λ(b:Ty×Bool)=>some (b.2,b.1.kind,b.1.name,b.1.kids)) (cond (op==10) ((uJ n l).bind λ(c:Ty×Bool)=>some (c.2,c.1.kind,c.1.name,c.1.kids)) (cond (op==11) ((uJ n l).bind λ(d:Ty×Bool)=>some (d.2,d.1.kind,d.1.name,d.1.kids)) (cond (op==12) ((aV n l 2 ([]:Str) ([]) 1).bind λ(e:Ty×Bool)=>some (e.2,e.1.kind,e.1.name,e.1.kids)) (cond (op==13) ((aV n l 2 ([]:Str) ([]) 1).bind λ(f:Ty×Bool)=>some (f.2,f.1.kind,f.1.name,f.1.kids)) (cond (op==14) ((aV n l 2 ([]:Str) ([]) 1).bind λ(g:Ty×Bool)=>some (g.2,g.1.kind,g.1.name,g.1.kids)) (cond (op==15) ((aV n l 2 ([]:Str) ([]) 1).bind λ(h:Ty×Bool)=>some (h.2,h.1.kind,h.1.name,h.1.kids)) (cond (op==16) ((qW n l).bind λ(i:Ty×Bool)=>some (i.2,i.1.kind,i.1.name,i.1.kids)) (cond (op==17) ((qW n l).bind λ(j:Ty×Bool)=>some (j.2,j.1.kind,j.1.name,j.1.kids)) (cond (op==18) ((uS n l).bind λ(k:Ty×Bool)=>some (k.2,k.1.kind,k.1.name,k.1.kids)) (cond (op==19) (some (((Ty.mk 1 ([]:Str) ([])),true).2,(((Ty.mk 1 ([]:Str) ([])),true).1).kind,(((Ty.mk 1 ([]:Str) ([])),true).1).name,(((Ty.mk 1 ([]:Str) ([])),true).1).kids)) (cond (op==20) none (cond (op==21) ((aV n l 1 ([]:Str) ([]) 1).bind λ(m:Ty×Bool)=>some (m.2,m.1.kind,m.1.name,m.1.kids)) (cond (op==22) ((aV n l 1 ([]:Str) ([]) 1).bind λ(o:Ty×Bool)=>some (o.2,o.1.kind,o.1.name,o.1.kids)) (cond (op==23) ((aV n l 1 ([]:Str) ([]) 1).bind λ(p:Ty×Bool)=>some (p.2,p.1.kind,p.1.name,p.1.kids)) (cond (op==24) ((aV n l 1 ([]:Str) ([]) 1).bind λ(q:Ty×Bool)=>some (q.2,q.1.kind,q.1.name,q.1.kids)) (cond (op==25) ((aV n l 1 ([]:Str) ([]) 1).bind λ(r:Ty×Bool)=>some (r.2,r.1.kind,r.1.name,r.1.kids)) (cond (op==26) ((aV n l 1 ([]:Str) ([]) 1).bind λ(s:Ty×Bool)=>some (s.2,s.1.kind,s.1.name,s.1.kids)) (cond (op==27) ((zH n l).bind λ(t:Ty×Bool)=>some (t.2,t.1.kind,t.1.name,t.1.kids)) (cond (op==28) ((zo n l).bind λ(u:Ty×Bool)=>some (u.2,u.1.kind,u.1.name,u.1.kids)) (cond (op==29) none (cond (op==30) ((aV n l 5 ([]:Str) ([(Ty.mk 1 ([]:Str) ([]))]) 1).bind λ(v:Ty×Bool)=>some (v.2,v.1.kind,v.1.name,v.1.kids)) (cond (op==31) ((jR n l).bind λ(w:Ty×Bool)=>some (w.2,w.1.kind,w.1.name,w.1.kids)) (cond (op==32) ((jR n l).bind λ(y:Ty×Bool)=>some (y.2,y.1.kind,y.1.name,y.1.kids)) (cond (op==33) ((jR n l).bind λ(z:Ty×Bool)=>some (z.2,z.1.kind,z.1.name,z.1.kids)) (cond (op==34) ((w9 n l).bind λ(A:Ty×Bool)=>some (A.2,A.1.kind,A.1.name,A.1.kids)) (cond (op==35) ((mF n l).bind λ(B:Ty×Bool)=>some (B.2,B.1.kind,B.1.name,B.1.kids)) (cond (op==36) ((l7 n l).bind λ(C:Ty×Bool)=>some (C.2,C.1.kind,C.1.name,C.1.kids)) (cond (op==37) ((qD n l).bind λ(D:Ty×Bool)=>some (D.2,D.1.kind,D.1.name,D.1.kids)) (cond (op==38) ((qD n l).bind λ(E:Ty×Bool)=>some (E.2,E.1.kind,E.1.name,E.1.kids)) (cond (op==39) ((iW n l).bind λ(F:Ty×Bool)=>some (F.2,F.1.kind,F.1.name,F.1.kids)) (cond (op==40) ((iW n l).bind λ(G:Ty×Bool)=>some (G.2,G.1.kind,G.1.name,G.1.kids)) (cond (op==41) ((gy n l).bind λ(H:Ty×Bool)=>some (H.2,H.1.kind,H.1.name,H.1.kids)) (cond (op==42) ((gy n l).bind λ(I:Ty×Bool)=>some (I.2,I.1.kind,I.1.name,I.1.kids)) (cond (op==43) ((gy n l).bind λ(J:Ty×Bool)=>some (J.2,J.1.kind,J.1.name,J.1.kids)) (cond (op==44) ((gy n l).bind λ(K:Ty×Bool)=>some (K.2,K.1.kind,K.1.name,K.1.kids)) (cond (op==45) ((gy n l).bind λ(L:Ty×Bool)=>some (L.2,L.1.kind,L.1.name,L.1.kids)) (cond (op==46) ((sP n l).bind λ(M:Ty×Bool)=>some (M.2,M.1.kind,M.1.name,M.1.kids)) (cond (op==47) ((sV n l).bind λ(N:Ty×Bool)=>some (N.2,N.1.kind,N.1.name,N.1.kids)) (cond (op==48) ((l6 n l).bind λ(O:Ty×Bool)=>some (O.2,O.1.kind,O.1.name,O.1.kids)) (cond (op==49) ((l6 n l).bind λ(P:Ty×Bool)=>some (P.2,P.1.kind,P.1.name,P.1.kids)) (cond (op==50) ((mG n l).bind λ(Q:Ty×Bool)=>some (Q.2,Q.1.kind,Q.1.name,Q.1.kids)) (cond (op==51) ((mP n l).bind λ(R:Ty×Bool)=>some (R.2,R.1.kind,R.1.name,R.1.kids)) (cond (op==52) ((mQ n l).bind λ(S:Ty×Bool)=>some (S.2,S.1.kind,S.1.name,S.1.kids)) (cond (op==53) ((mK n l).bind λ(T:Ty×Bool)=>some (T.2,T.1.kind,T.1.name,T.1.kids)) (cond (op==54) ((mI n l).bind λ(U:Ty×Bool)=>some (U.2,U.1.kind,U.1.name,U.1.kids)) (cond (op==55) ((AA n l).bind λ(V:Ty×Bool)=>some (V.2,V.1.kind,V.1.name,V.1.kids)) (cond (op==56) ((xg n l).bind λ(W:Ty×Bool)=>some (W.2,W.1.kind,W.1.name,W.1.kids)) none))))))))))))))))))))))))))))))))))))))))))))))))))))))))
theorem aks{op:Int}(h:1<=op)(h2:op<=56):op=1∨op=2∨op=3∨op=4∨op=5∨op=6∨op=7∨op=8∨op=9∨op=10∨op=11∨op=12∨op=13∨op=14∨op=15∨op=16∨op=17∨op=18∨op=19∨op=20∨op=21∨op=22∨op=23∨op=24∨op=25∨op=26∨op=27∨op=28∨op=29∨op=30∨op=31∨op=32∨op=33∨op=34∨op=35∨op=36∨op=37∨op=38∨op=39∨op=40∨op=41∨op=42∨op=43∨op=44∨op=45∨op=46∨op=47∨op=48∨op=49∨op=50∨op=51∨op=52∨op=53∨op=54∨op=55∨op=56:=by omega
theorem vE{α:Type}(l:List α)(h:(l.length:Int)=1):∃a,l=[a]:=by
 match l,h with|[a],_=>exact⟨a,rfl⟩
theorem dh{α:Type}(l:List α)(h:(l.length:Int)=2):∃a b,l=[a,b]:=by
 match l,h with|[a,b],_=>exact⟨a,b,rfl⟩
theorem Jv{α:Type}(l:List α)(h:l≠[]):∃a m,l=a::m:=by
 match l,h with|a::m,_=>exact⟨a,m,rfl⟩
structure LenOk(op:Int)(l:List Ty):Prop where
 one:gN op=1→(l.length:Int)=1
 two:gN op=2→(l.length:Int)=2
 some:gN op= -1→l≠[]
set_option maxRecDepth 100000 in
theorem axT{op:Int}(g:1<=op)(h2:op<=56)(d:op≠20)(e:op≠29){l:List Ty}(h:∀t∈l,Top t)(c:LenOk op l)(f:cO op=true->(aN (l.headD aR)).isSome=true):aFs (λn=>ay9 n op l) (gH op l):=by
 rcases aks g h2 with rfl|rfl|rfl|rfl|rfl|rfl|rfl|rfl|rfl|rfl|rfl|rfl|rfl|rfl|rfl|rfl|rfl|rfl|rfl|rfl|rfl|rfl|rfl|rfl|rfl|rfl|rfl|rfl|rfl|rfl|rfl|rfl|rfl|rfl|rfl|rfl|rfl|rfl|rfl|rfl|rfl|rfl|rfl|rfl|rfl|rfl|rfl|rfl|rfl|rfl|rfl|rfl|rfl|rfl|rfl|rfl
 ·exact⟨_,Ev.ret _,rfl⟩
 ·exact⟨_,Ev.ret _,rfl⟩
 ·exact Row.c (kX l 2 [] [] 2)
 ·exact Row.c (kX l 2 [] [] 2)
 ·exact Row.c (kX l 2 [] [] 2)
 ·exact Row.c (kX l 2 [] [] 2)
 ·exact Row.c (kX l 2 [] [] 2)
 ·obtain⟨a,b,rfl⟩:=dh l (c.two rfl);exact Row.c (amc (f rfl))
 ·obtain⟨a,b,rfl⟩:=dh l (c.two rfl);exact Row.c (amc (f rfl))
 ·obtain⟨a,b,rfl⟩:=dh l (c.two rfl);exact Row.c (apF)
 ·obtain⟨a,b,rfl⟩:=dh l (c.two rfl);exact Row.c (apF)
 ·exact Row.c (kX l 2 [] [] 1)
 ·exact Row.c (kX l 2 [] [] 1)
 ·exact Row.c (kX l 2 [] [] 1)
 ·exact Row.c (kX l 2 [] [] 1)
 ·obtain⟨a,b,rfl⟩:=dh l (c.two rfl);exact Row.c (afU (h b (by simp)))
 ·obtain⟨a,b,rfl⟩:=dh l (c.two rfl);exact Row.c (afU (h b (by simp)))
 ·obtain⟨a,b,rfl⟩:=dh l (c.two rfl);exact Row.c (azA (h a (by simp)))
 ·exact⟨_,Ev.ret _,rfl⟩
 ·exact absurd rfl d
 ·exact Row.c (kX l 1 [] [] 1)
 ·exact Row.c (kX l 1 [] [] 1)
 ·exact Row.c (kX l 1 [] [] 1)
 ·exact Row.c (kX l 1 [] [] 1)
 ·exact Row.c (kX l 1 [] [] 1)
 ·exact Row.c (kX l 1 [] [] 1)
 ·obtain⟨a,b,rfl⟩:=dh l (c.two rfl);exact Row.c (azP)
 ·obtain⟨a,l,rfl⟩:=Jv l (c.some rfl);exact Row.c (aC0 l)
 ·exact absurd rfl e
 ·exact Row.c (kX l 5 [] [bY] 1)
 ·obtain⟨a,b,rfl⟩:=dh l (c.two rfl);exact Row.c (aaY (h a (by simp)))
 ·obtain⟨a,b,rfl⟩:=dh l (c.two rfl);exact Row.c (aaY (h a (by simp)))
 ·obtain⟨a,b,rfl⟩:=dh l (c.two rfl);exact Row.c (aaY (h a (by simp)))
 ·obtain⟨a,b,rfl⟩:=dh l (c.two rfl);exact Row.c (aBA (h a (by simp)) (h b (by simp)))
 ·obtain⟨a,b,rfl⟩:=dh l (c.two rfl);exact Row.c (aBh (h a (by simp)))
 ·obtain⟨a,b,rfl⟩:=dh l (c.two rfl);exact Row.c (aBj (h a (by simp)) (h b (by simp)))
 ·obtain⟨a,b,rfl⟩:=dh l (c.two rfl);exact Row.c (ape (h a (by simp)) (h b (by simp)))
 ·obtain⟨a,b,rfl⟩:=dh l (c.two rfl);exact Row.c (ape (h a (by simp)) (h b (by simp)))
 ·obtain⟨a,b,rfl⟩:=dh l (c.two rfl);exact Row.c (apV (h a (by simp)) (h b (by simp)))
 ·obtain⟨a,b,rfl⟩:=dh l (c.two rfl);exact Row.c (apV (h a (by simp)) (h b (by simp)))
 ·obtain⟨a,b,rfl⟩:=dh l (c.two rfl);exact Row.c (Qa (h a (by simp)) (h b (by simp)))
 ·obtain⟨a,b,rfl⟩:=dh l (c.two rfl);exact Row.c (Qa (h a (by simp)) (h b (by simp)))
 ·obtain⟨a,b,rfl⟩:=dh l (c.two rfl);exact Row.c (Qa (h a (by simp)) (h b (by simp)))
 ·obtain⟨a,b,rfl⟩:=dh l (c.two rfl);exact Row.c (Qa (h a (by simp)) (h b (by simp)))
 ·obtain⟨a,b,rfl⟩:=dh l (c.two rfl);exact Row.c (Qa (h a (by simp)) (h b (by simp)))
 ·obtain⟨a,rfl⟩:=vE l (c.one rfl);exact Row.c (aDQ (h a (by simp)))
 ·obtain⟨a,rfl⟩:=vE l (c.one rfl);exact Row.c (az0 (h a (by simp)))
 ·obtain⟨a,rfl⟩:=vE l (c.one rfl);exact Row.c (auz (h a (by simp)))
 ·obtain⟨a,rfl⟩:=vE l (c.one rfl);exact Row.c (auz (h a (by simp)))
 ·obtain⟨a,rfl⟩:=vE l (c.one rfl);exact Row.c (aC3 (h a (by simp)))
 ·obtain⟨a,rfl⟩:=vE l (c.one rfl);exact Row.c (aDt (h a (by simp)))
 ·obtain⟨a,rfl⟩:=vE l (c.one rfl);exact Row.c (aCS (h a (by simp)))
 ·obtain⟨a,b,rfl⟩:=dh l (c.two rfl);exact Row.c (ax5 (h a (by simp)) (h b (by simp)))
 ·obtain⟨a,b,rfl⟩:=dh l (c.two rfl);exact Row.c (ayY (h a (by simp)))
 ·obtain⟨a,b,rfl⟩:=dh l (c.two rfl);exact Row.c (axj (f rfl))
 obtain⟨a,b,rfl⟩:=dh l (c.two rfl);exact Row.c (aDC (h a (by simp)))
end
section
open Go
theorem Row.eta{f o}(h:Row f o):Row (λn=>(f n).bind λx=>some (x.1,x.2)) o:=by obtain⟨r,a,b⟩:=h;exact⟨r,Ev.bind a (Ev.ret _),b⟩
theorem aaX l t:Ev (λn=>wS n l t) (l.all λx=>aS x t):=by
 unfold wS;have h:=qM l (λn k i=>alE n l t k i) (λn x=>(bW n x t).bind λb=>some (!b)) (λx=>!(aS x t)) false
  (λn k i=>by show cond _ _ _=_;congr 1;congr 1;funext x;simp only[qAZ,qAa];rfl)
  (λx _=>Ev.bind (jy x t) (Ev.ret _))
 rw[qd]at h;refine Ev.bind h ?_;cases l.all λx=>aS x t
 ·exact Ev.ret _
 exact Ev.ret _
theorem vS n x y:yX n (aj (aL x y))=some x:=rfl
theorem su n x y:uR n (aj (aL x y))=some y:=rfl
theorem aom{a}(b:Top a) x t:(aN a).bind (λz=>aP (aS z x) t)=aP (aS a (aj x)) t:=by
 cases h:aN a with
 |none=>
  cases c:aS a (aj x)with
  |false=>rfl|true=>have:=mD _ _ c;subst this;rw[aej]at h;cases h
 |some e=>obtain⟨_,rfl⟩:=eO b h;rw[aqY];rfl
theorem aEc{a b}(c:Top b) t:(aN b).bind (λe=>aP (aS a e) t)=aP (a.kind !=2&&aS (aj a) b) t:=by
 cases s:aN b with
 |none=>
  cases h:aS (aj a) b with|false=>rw[qBO];rfl|true=>have:=mD _ _ h;subst this;rw[aej]at s;cases s
 |some e=>
  obtain⟨g,rfl⟩:=eO c s;rw[aqY];cases h:aS a e with|false=>rw[qBO];simp only[qAa,h]|true=>have:=mD _ _ h;subst this;simp only[qAa,h,bne,ak1 g,qBd,qBE]
theorem aqt{op}(h:op=1∨op=2){l}(a:∀t∈l,Top t)(b:LenOk op l) nm m ty ks:Row (λn=>fP n (.mk op nm m ty ks) l) (gH op l):=by
 rcases h with rfl|rfl<;>
 exact Row.yes aK (Ev.ret _) rfl
theorem Ow{op}(h:op=3∨op=4∨op=5∨op=6∨op=7){l}(a:∀t∈l,Top t)(b:LenOk op l) nm m ty ks:Row (λn=>fP n (.mk op nm m ty ks) l) (gH op l):=by
 rcases h with rfl|rfl|rfl|rfl|rfl<;>
 ·refine Row.eta (f:=λn=>BG n _ l) ?_;show Row (λn=>((wS n l (Ty.mk 2 ([]:Str) ([]))).bind λx1=>some ((Ty.mk 2 ([]:Str) ([])),x1))) _;exact Row.of aK _ (Ev.bind (aaX l aK) (Ev.ret _)) (by rw[<-aGJ a];rfl)
theorem aqu{op}(o:op=8∨op=9){l}(h:∀t∈l,Top t)(c:LenOk op l) nm m ty ks:Row (λn=>fP n (.mk op nm m ty ks) l) (gH op l):=by
 rcases o with rfl|rfl<;>
 ·obtain⟨a,b,rfl⟩:=dh l (c.two rfl);have d:=h a (by simp);have g:=h b (by simp);refine Row.eta (f:=λn=>BG n _ [a,b]) ?_;show Row (λn=>((((idx [a,b] 0).bind λx2=>((fF n x2).bind λx3=>(cond x3 ((idx [a,b] 1).bind λx4=>some (x4.kind==2)) (some false)))):Option Bool).bind λs4=>some ((Ty.mk 2 ([]:Str) ([])),s4))) _;simp only[gK,lY,qAa,qK _ d];show Row _ (aP ((aN a).isSome&&b.kind==2) aK);cases aN a with|none=>exact .no aK (Ev.ret _) rfl|some e=>exact .of aK (b.kind==2) (Ev.ret _) rfl
theorem ak9{op}(o:op=10∨op=11){l}(h:∀t∈l,Top t)(c:LenOk op l) nm m ty ks:Row (λn=>fP n (.mk op nm m ty ks) l) (gH op l):=by
 rcases o with rfl|rfl<;>
 ·obtain⟨a,b,rfl⟩:=dh l (c.two rfl);have d:=h a (by simp);have e:=h b (by simp);refine Row.eta (f:=λn=>BG n _ [a,b]) ?_;show Row (λn=>((((idx [a,b] 0).bind λx5=>(cond (x5.kind !=2) ((idx [a,b] 0).bind λx6=>((idx [a,b] 1).bind λx7=>((bW n x6 x7).bind λx8=>some x8))) (some false))):Option Bool).bind λs6=>some ((Ty.mk 2 ([]:Str) ([])),s6))) _;simp only[gK,lY,qAa];show Row _ (aP (a.kind !=2&&aS a b) aK);cases a.kind !=2 with|false=>exact .no aK (Ev.ret _) rfl|true=>exact .of aK (aS a b) (Ev.bind (Ev.bind (jy a b) (Ev.ret _)) (Ev.ret _)) rfl
theorem RG{op}(h:op=12∨op=13∨op=14∨op=15){l}(a:∀t∈l,Top t)(b:LenOk op l) nm m ty ks:Row (λn=>fP n (.mk op nm m ty ks) l) (gH op l):=by
 rcases h with rfl|rfl|rfl|rfl<;>
 ·refine Row.eta (f:=λn=>BG n _ l) ?_;show Row (λn=>((wS n l (Ty.mk 1 ([]:Str) ([]))).bind λx9=>some ((Ty.mk 2 ([]:Str) ([])),x9))) _;exact Row.of aK _ (Ev.bind (aaX l bY) (Ev.ret _)) (by rw[<-awF a];rfl)
theorem ami{op}(o:op=16∨op=17){l}(h:∀t∈l,Top t)(c:LenOk op l) nm m ty ks:Row (λn=>fP n (.mk op nm m ty ks) l) (gH op l):=by
 rcases o with rfl|rfl<;>
 ·obtain⟨a,b,rfl⟩:=dh l (c.two rfl);have g:=h a (by simp);have d:=h b (by simp);refine Row.eta (f:=λn=>BG n _ [a,b]) ?_;show Row (λn=>((((idx [a,b] 0).bind λx10=>(cond (x10.kind !=2) ((idx [a,b] 0).bind λx11=>((idx [a,b] 1).bind λx12=>((bW n (Ty.mk 5 ([]:Str) ([x11])) x12).bind λx13=>some x13))) (some false))):Option Bool).bind λs9=>some ((Ty.mk 2 ([]:Str) ([])),s9))) _;simp only[gK,lY,qAa];show Row _ ((aN b).bind λe=>aP (aS a e) aK);rw[aEc d];cases a.kind !=2 with|false=>exact .no aK (Ev.ret _) rfl|true=>exact .of aK (aS (aj a) b) (Ev.bind (Ev.bind (jy (aj a) b) (Ev.ret _)) (Ev.ret _)) rfl
theorem axl{l}(h:∀t∈l,Top t)(c:LenOk 18 l) nm m ty ks:Row (λn=>fP n (.mk 18 nm m ty ks) l) (gH 18 l):=by
 obtain⟨a,b,rfl⟩:=dh l (c.two rfl);have d:=h a (by simp);have g:=h b (by simp);refine Row.eta (f:=λn=>BG n 18 [a,b]) ?_;show Row (λn=>((((idx [a,b] 0).bind λx14=>((fF n x14).bind λx15=>(cond x15 ((idx [a,b] 0).bind λx16=>((idx [a,b] 1).bind λx17=>((bW n x16 x17).bind λx18=>some x18))) (some false)))):Option Bool).bind λs10=>some ((Ty.mk 2 ([]:Str) ([])),s10))) _;simp only[gK,lY,qAa,qK _ d];show Row _ (aP ((aN a).isSome&&aS a b) aK);cases aN a with|none=>exact .no aK (Ev.ret _) rfl|some e=>exact .of aK (aS a b) (Ev.bind (Ev.bind (jy a b) (Ev.ret _)) (Ev.ret _)) rfl
theorem ayl{l}(h:∀t∈l,Top t)(a:LenOk 19 l) nm m ty ks:Row (λn=>fP n (.mk 19 nm m ty ks) l) (gH 19 l):=by exact Row.yes bY (Ev.ret _) rfl
theorem FL{op}(h:op=21∨op=22∨op=23∨op=24∨op=25∨op=26){l}(a:∀t∈l,Top t)(b:LenOk op l) nm m ty ks:Row (λn=>fP n (.mk op nm m ty ks) l) (gH op l):=by
 rcases h with rfl|rfl|rfl|rfl|rfl|rfl<;>
 ·show Row (λn=>((wS n l (Ty.mk 1 ([]:Str) ([]))).bind λx1=>some ((Ty.mk 1 ([]:Str) ([])),x1))) _;exact Row.of bY _ (Ev.bind (aaX l bY) (Ev.ret _)) (by rw[<-awF a];rfl)
theorem ayD{l}(h:∀t∈l,Top t)(c:LenOk 27 l) nm m ty ks:Row (λn=>fP n (.mk 27 nm m ty ks) l) (gH 27 l):=by
 obtain⟨a,b,rfl⟩:=dh l (c.two rfl);have d:=h a (by simp);have e:=h b (by simp);show Row (λn=>((((idx [a,b] 0).bind λx2=>((idx [a,b] 1).bind λx3=>((idx [a,b] 0).bind λx4=>(cond (x4.kind !=2) ((idx [a,b] 1).bind λx5=>some ((x5.kind !=2),([x2,x3]))) (some (false,([x2,x3]))))))):Option (Bool×(List Ty))).bind λs2=>some ((Ty.mk 4 ([]:Str) s2.2),s2.1))) _;simp only[gK,lY,qAa];show Row _ (aP (a.kind !=2&&b.kind !=2) (aL a b));cases a.kind !=2 with|false=>exact .no (aL a b) (Ev.ret _) rfl|true=>exact .of (aL a b) (b.kind !=2) (Ev.ret _) rfl
theorem awU{l}(b:∀t∈l,Top t)(h:LenOk 28 l) nm m ty ks:Row (λn=>fP n (.mk 28 nm m ty ks) l) (gH 28 l):=by
 obtain⟨a,l,rfl⟩:=Jv l (h.some rfl);show Row (λn=>((((idx (a::l) 0).bind λx6=>((idx (a::l) 0).bind λx7=>(cond (x7.kind !=2) ((idx (a::l) 0).bind λx8=>((wS n (a::l) x8).bind λx9=>some (x9,([x6])))) (some (false,([x6])))))):Option (Bool×(List Ty))).bind λs3=>some ((Ty.mk 5 ([]:Str) s3.2),s3.1))) _;simp only[gK,qAa];show Row _ (aP (a.kind !=2&&(a::l).all λx=>aS x a) (aj a));cases a.kind !=2 with|false=>exact .no (aj a) (Ev.ret _) rfl|true=>exact .of (aj a) _ (Ev.bind (a:=((a::l).all λx=>aS x a,[a])) (Ev.bind (aaX (a::l) a) (Ev.ret _)) (Ev.ret _)) rfl
theorem azg{l}(h:∀t∈l,Top t)(a:LenOk 30 l) nm m ty ks:Row (λn=>fP n (.mk 30 nm m ty ks) l) (gH 30 l):=by show Row (λn=>((wS n l (Ty.mk 1 ([]:Str) ([]))).bind λx10=>some ((Ty.mk 5 ([]:Str) ([(Ty.mk 1 ([]:Str) ([]))])),x10))) _;exact Row.of (aj bY) _ (Ev.bind (aaX l bY) (Ev.ret _)) (by rw[<-awF h];rfl)
theorem aan{op}(o:op=31∨op=32∨op=33){l}(h:∀t∈l,Top t)(c:LenOk op l) nm m ty ks:Row (λn=>fP n (.mk op nm m ty ks) l) (gH op l):=by
 rcases o with rfl|rfl|rfl<;>
 ·obtain⟨a,b,rfl⟩:=dh l (c.two rfl);have d:=h a (by simp);have f:=h b (by simp);show Row (λn=>((((idx [a,b] 0).bind λx28=>((idx [a,b] 0).bind λx29=>((fF n x29).bind λx30=>(cond x30 ((idx [a,b] 0).bind λx31=>((idx [a,b] 1).bind λx32=>((bW n x31 x32).bind λx33=>some (x33,x28.kind,x28.name,x28.kids)))) (some (false,x28.kind,x28.name,x28.kids)))))):Option (Bool×Int×Str×(List Ty))).bind λs8=>some ((Ty.mk s8.2.1 s8.2.2.1 s8.2.2.2),s8.1))) _;simp only[gK,lY,qAa,qK _ d];show Row _ (aP ((aN a).isSome&&aS a b) a);cases aN a with|none=>exact .no a (by simp only[qCw,cond_false,qAa,mJ];exact Ev.ret _) rfl|some e=>exact .of a (aS a b) (Ev.bind (a:=(aS a b,a.kind,a.name,a.kids)) (Ev.bind (jy a b) (Ev.ret _)) (by simp only[mJ];exact Ev.ret _)) rfl
theorem aw1{l}(h:∀t∈l,Top t)(e:LenOk 34 l) nm m ty ks:Row (λn=>fP n (.mk 34 nm m ty ks) l) (gH 34 l):=by
 obtain⟨a,b,rfl⟩:=dh l (e.two rfl);have c:=h a (by simp);have d:=h b (by simp);show Row (λn=>((((idx [a,b] 0).bind λx38=>((fF n x38).bind λx39=>(cond (!x39) (some true) ((idx [a,b] 1).bind λx40=>((fF n x40).bind λx41=>some (!x41)))))):Option Bool).bind λs10=>(cond s10 (some ((Ty.mk 0 ([]:Str) ([])),false)) ((idx [a,b] 0).bind λx34=>((idx x34.kids 0).bind λx35=>((idx [a,b] 1).bind λx36=>((idx x36.kids 0).bind λx37=>(((cond ((34:Int)!=34) (some ([(Ty.mk 5 ([]:Str) ([(Ty.mk 4 ([]:Str) ([x35,x37]))]))])) (some ([(Ty.mk 4 ([]:Str) ([x35,x37]))]))):Option (List Ty)).bind λs11=>some ((Ty.mk 5 ([]:Str) s11),true))))))))) _;simp only[gK,lY,qAa,qK _ c,qK _ d];show Row _ ((aN a).bind λx=>(aN b).map λy=>aj (aL x y));cases s:aN a with|none=>exact .no aR (Ev.ret _) rfl|some x=>
  cases f:aN b with|none=>exact .no aR (Ev.ret _) rfl|some y=>obtain⟨_,rfl⟩:=eO c s;obtain⟨_,rfl⟩:=eO d f;exact .yes (aj (aL x y)) (Ev.ret _) rfl
theorem azj{l}(h:∀t∈l,Top t)(d:LenOk 35 l) nm m ty ks:Row (λn=>fP n (.mk 35 nm m ty ks) l) (gH 35 l):=by
 obtain⟨a,b,rfl⟩:=dh l (d.two rfl);have c:=h a (by simp);have e:=h b (by simp);refine Row.eta (f:=λn=>eU n 35 [a,b]) ?_;show Row _ (aP ((dB a).isSome&&aS a b) a);simp only[eU,Tm.op,gK,lY,qAa,Int.reduceBEq,cond_true,cond_false,mJ,vV _ c];cases r:dB a with|none=>exact .no aR (Ev.ret _) rfl|some x=>obtain⟨x,y⟩:=x;obtain⟨_,_,rfl⟩:=gU c r;simp only[vS,su,qAa,qBj,qAr,cond_false];exact .of _ (aS (aj (aL x y)) b) (Ev.bind (jy _ _) (Ev.ret _)) rfl
theorem azx{l}(h:∀t∈l,Top t)(e:LenOk 36 l) nm m ty ks:Row (λn=>fP n (.mk 36 nm m ty ks) l) (gH 36 l):=by
 obtain⟨a,b,rfl⟩:=dh l (e.two rfl);have c:=h a (by simp);have d:=h b (by simp);refine Row.eta (f:=λn=>eU n 36 [a,b]) ?_;show Row _ ((dB a).bind λx=>(dB b).bind λy=>aP (aS x.2 y.1) (aj (aL x.1 y.2)));simp only[eU,Tm.op,gK,lY,qAa,Int.reduceBEq,cond_true,cond_false,mJ,vV _ c,vV _ d];cases r:dB a with|none=>exact .no aR (Ev.ret _) rfl|some x=>
  obtain⟨x,y⟩:=x;obtain⟨_,_,rfl⟩:=gU c r;simp only[vS,su,qAa,qBj,qAr,cond_false];cases q:dB b with
  |none=>exact .no aR (Ev.ret _) rfl|some z=>
   obtain⟨z,u⟩:=z;obtain⟨_,_,rfl⟩:=gU d q;simp only[vS,su,qAa,qBj,qAr,cond_false];refine .of (cond (aS y z) (aj (aL x u)) aR) (aS y z) (Ev.bind (a:=!(aS y z)) (Ev.bind (jy y z) (Ev.ret _)) ?_) ?_
   ·cases aS y z
    ·exact Ev.ret _
    exact Ev.ret _
   show aP (aS y z) _=_;cases aS y z<;>rfl
theorem alq{op}(o:op=37∨op=38){l}(h:∀t∈l,Top t)(d:LenOk op l) nm m ty ks:Row (λn=>fP n (.mk op nm m ty ks) l) (gH op l):=by
 rcases o with rfl|rfl<;>
 ·obtain⟨a,b,rfl⟩:=dh l (d.two rfl);have e:=h a (by simp);have c:=h b (by simp);refine Row.eta (f:=λn=>eU n _ [a,b]) ?_;show Row _ ((aN a).bind λx=>(dB b).bind λy=>aP (aS x y.1) b);simp only[eU,Tm.op,gK,lY,qAa,Int.reduceBEq,cond_true,cond_false,mJ,vV _ c];cases r:dB b with|none=>refine .no aR (Ev.ret _) ?_;cases aN a<;>rfl|some x=>obtain⟨x,y⟩:=x;obtain⟨_,_,rfl⟩:=gU c r;simp only[vS,su,qAa,qBj,qAr,cond_false];show Row _ ((aN a).bind λz=>aP (aS z x) (aj (aL x y)));rw[aom e];exact .of _ _ (Ev.bind (jy _ _) (Ev.ret _)) rfl
theorem akZ{op}(o:op=39∨op=40){l}(h:∀t∈l,Top t)(d:LenOk op l) nm m ty ks:Row (λn=>fP n (.mk op nm m ty ks) l) (gH op l):=by
 rcases o with rfl|rfl<;>
 ·obtain⟨a,b,rfl⟩:=dh l (d.two rfl);have c:=h a (by simp);have e:=h b (by simp);refine Row.eta (f:=λn=>eU n _ [a,b]) ?_;show Row _ ((dB a).bind λx=>(aN b).bind λy=>aP (aS y x.2) a);simp only[eU,Tm.op,gK,lY,qAa,Int.reduceBEq,cond_true,cond_false,mJ,vV _ c];cases r:dB a with|none=>exact .no aR (Ev.ret _) rfl|some x=>obtain⟨x,y⟩:=x;obtain⟨_,_,rfl⟩:=gU c r;simp only[vS,su,qAa,qBj,qAr,cond_false];show Row _ ((aN b).bind λz=>aP (aS z y) (aj (aL x y)));rw[aom e];exact .of _ _ (Ev.bind (jy _ _) (Ev.ret _)) rfl
theorem LG{op}(o:op=41∨op=42∨op=43∨op=44∨op=45){l}(h:∀t∈l,Top t)(e:LenOk op l)(nm:Str)(m:Int)(ty:Ty)(k:List Tm):Row (λn=>fP n (.mk op nm m ty k) l) (gH op l):=by
 rcases o with rfl|rfl|rfl|rfl|rfl<;>
 ·obtain⟨a,b,rfl⟩:=dh l (e.two rfl);have c:=h a (by simp);have d:=h b (by simp);show Row (λn=>((((idx [a,b] 0).bind λx38=>((fF n x38).bind λx39=>(cond (!x39) (some true) ((idx [a,b] 1).bind λx40=>((fF n x40).bind λx41=>some (!x41)))))):Option Bool).bind λs10=>(cond s10 (some ((Ty.mk 0 ([]:Str) ([])),false)) ((idx [a,b] 0).bind λx34=>((idx x34.kids 0).bind λx35=>((idx [a,b] 1).bind λx36=>((idx x36.kids 0).bind λx37=>(((cond true (some ([(Ty.mk 5 ([]:Str) ([(Ty.mk 4 ([]:Str) ([x35,x37]))]))])) (some ([(Ty.mk 4 ([]:Str) ([x35,x37]))]))):Option (List Ty)).bind λs11=>some ((Ty.mk 5 ([]:Str) s11),true))))))))) _;simp only[gK,lY,qAa,qK _ c,qK _ d];show Row _ ((aN a).bind λx=>(aN b).map λy=>aj (aj (aL x y)));cases s:aN a with|none=>exact .no aR (Ev.ret _) rfl|some x=>
   cases f:aN b with|none=>exact .no aR (Ev.ret _) rfl|some y=>obtain⟨_,rfl⟩:=eO c s;obtain⟨_,rfl⟩:=eO d f;exact .yes (aj (aj (aL x y))) (Ev.ret _) rfl
theorem axy{l}(b:∀t∈l,Top t)(c:LenOk 46 l) nm m ty ks:Row (λn=>fP n (.mk 46 nm m ty ks) l) (gH 46 l):=by
 obtain⟨a,rfl⟩:=vE l (c.one rfl);have h:=b a (by simp);show Row (λn=>((idx [a] 0).bind λx25=>((idx [a] 0).bind λx26=>((fF n x26).bind λx27=>some ((Ty.mk 5 ([]:Str) ([x25])),x27))))) _;simp only[gK,lY,qAa,qK _ h];show Row _ ((aN a).map λx=>aj (aj x));cases s:aN a with|none=>exact .no (aj a) (Ev.ret _) rfl|some e=>obtain⟨_,rfl⟩:=eO h s;exact .yes (aj (aj e)) (Ev.ret _) rfl
theorem awW{l}(h:∀t∈l,Top t)(b:LenOk 47 l) nm m ty ks:Row (λn=>fP n (.mk 47 nm m ty ks) l) (gH 47 l):=by
 obtain⟨a,rfl⟩:=vE l (b.one rfl);have c:=h a (by simp);show Row (λn=>((idx [a] 0).bind λx21=>((fF n x21).bind λx22=>some ((Ty.mk 1 ([]:Str) ([])),x22)))) _;simp only[gK,lY,qAa,qK _ c];show Row _ ((aN a).map λ_=>bY);cases aN a with|none=>exact .no bY (Ev.ret _) rfl|some e=>exact .yes bY (Ev.ret _) rfl
theorem amr{op}(o:op=48∨op=49){l}(b:∀t∈l,Top t)(c:LenOk op l) nm m ty ks:Row (λn=>fP n (.mk op nm m ty ks) l) (gH op l):=by
 rcases o with rfl|rfl<;>
 ·obtain⟨a,rfl⟩:=vE l (c.one rfl);have h:=b a (by simp);show Row (λn=>((idx [a] 0).bind λx23=>((bW n x23 (Ty.mk 5 ([]:Str) ([(Ty.mk 1 ([]:Str) ([]))]))).bind λx24=>some ((Ty.mk 1 ([]:Str) ([])),x24)))) _;simp only[gK,qAa];show Row _ ((aN a).bind λx=>aP (x.kind==1) bY);have e:((aN a).bind λx=>aP (x.kind==1) bY)=(aN a).bind λx=>aP (aS x bY) bY:=by
   cases s:aN a with|none=>rfl|some e=>simp only[qAa];rw[auP (.inr (eO h s).1)]
  rw[e,aom h];exact .of bY _ (Ev.bind (jy a (aj bY)) (Ev.ret _)) rfl
theorem axM{l}(b:∀t∈l,Top t)(c:LenOk 50 l) nm m ty ks:Row (λn=>fP n (.mk 50 nm m ty ks) l) (gH 50 l):=by
 obtain⟨a,rfl⟩:=vE l (c.one rfl);have h:=b a (by simp);refine Row.eta (f:=λn=>eU n 50 [a]) ?_;show Row _ ((dB a).map λx=>aj x.1);simp only[eU,Tm.op,gK,lY,qAa,Int.reduceBEq,cond_true,cond_false,mJ,vV _ h];cases r:dB a with|none=>exact .no aR (Ev.ret _) rfl|some x=>obtain⟨x,y⟩:=x;obtain⟨_,_,rfl⟩:=gU h r;simp only[vS,su,qAa,qBj,qAr,cond_false];exact .yes (aj x) (Ev.ret _) rfl
theorem ayI{l}(b:∀t∈l,Top t)(c:LenOk 51 l) nm m ty ks:Row (λn=>fP n (.mk 51 nm m ty ks) l) (gH 51 l):=by
 obtain⟨a,rfl⟩:=vE l (c.one rfl);have h:=b a (by simp);refine Row.eta (f:=λn=>eU n 51 [a]) ?_;show Row _ ((dB a).map λx=>aj x.2);simp only[eU,Tm.op,gK,lY,qAa,Int.reduceBEq,cond_true,cond_false,mJ,vV _ h];cases r:dB a with|none=>exact .no aR (Ev.ret _) rfl|some x=>obtain⟨x,y⟩:=x;obtain⟨_,_,rfl⟩:=gU h r;simp only[vS,su,qAa,qBj,qAr,cond_false];exact .yes (aj y) (Ev.ret _) rfl
theorem ayi{l}(b:∀t∈l,Top t)(c:LenOk 52 l) nm m ty ks:Row (λn=>fP n (.mk 52 nm m ty ks) l) (gH 52 l):=by
 obtain⟨a,rfl⟩:=vE l (c.one rfl);have h:=b a (by simp);refine Row.eta (f:=λn=>eU n 52 [a]) ?_;show Row _ ((dB a).map λx=>aj (aL x.2 x.1));simp only[eU,Tm.op,gK,lY,qAa,Int.reduceBEq,cond_true,cond_false,mJ,vV _ h];cases r:dB a with|none=>exact .no aR (Ev.ret _) rfl|some x=>obtain⟨x,y⟩:=x;obtain⟨_,_,rfl⟩:=gU h r;simp only[vS,su,qAa,qBj,qAr,cond_false];exact .yes (aj (aL y x)) (Ev.ret _) rfl
theorem ay0{l}(h:∀t∈l,Top t)(d:LenOk 53 l) nm m ty ks:Row (λn=>fP n (.mk 53 nm m ty ks) l) (gH 53 l):=by
 obtain⟨a,b,rfl⟩:=dh l (d.two rfl);have c:=h a (by simp);have e:=h b (by simp);refine Row.eta (f:=λn=>eU n 53 [a,b]) ?_;show Row _ ((dB a).bind λx=>(aN b).bind λy=>aP (aS y x.1) (aj x.2));simp only[eU,Tm.op,gK,lY,qAa,Int.reduceBEq,cond_true,cond_false,mJ,vV _ c];cases r:dB a with|none=>exact .no aR (Ev.ret _) rfl|some x=>obtain⟨x,y⟩:=x;obtain⟨_,_,rfl⟩:=gU c r;simp only[vS,su,qAa,qBj,qAr,cond_false];show Row _ ((aN b).bind λz=>aP (aS z x) (aj y));rw[aom e];exact .of _ _ (Ev.bind (jy _ _) (Ev.ret _)) rfl
theorem azl{l}(h:∀t∈l,Top t)(d:LenOk 54 l) nm m ty ks:Row (λn=>fP n (.mk 54 nm m ty ks) l) (gH 54 l):=by
 obtain⟨a,b,rfl⟩:=dh l (d.two rfl);have c:=h a (by simp);have e:=h b (by simp);refine Row.eta (f:=λn=>eU n 54 [a,b]) ?_;show Row _ ((dB a).bind λx=>aP (aS b x.1) x.2);simp only[eU,Tm.op,gK,lY,qAa,Int.reduceBEq,cond_true,cond_false,mJ,vV _ c];cases r:dB a with|none=>exact .no aR (Ev.ret _) rfl|some x=>obtain⟨x,y⟩:=x;obtain⟨_,_,rfl⟩:=gU c r;simp only[vS,su,qAa,qBj,qAr,cond_false];exact .of _ _ (Ev.bind (jy _ _) (Ev.ret _)) rfl
theorem axD{l}(h:∀t∈l,Top t)(c:LenOk 55 l) nm m ty ks:Row (λn=>fP n (.mk 55 nm m ty ks) l) (gH 55 l):=by
 obtain⟨a,b,rfl⟩:=dh l (c.two rfl);have d:=h a (by simp);have f:=h b (by simp);show Row (λn=>((((idx [a,b] 0).bind λx11=>((idx [a,b] 0).bind λx12=>((fF n x12).bind λx13=>(cond x13 ((idx [a,b] 1).bind λx14=>some ((x14.kind==2),x11.kind,x11.name,x11.kids)) (some (false,x11.kind,x11.name,x11.kids)))))):Option (Bool×Int×Str×(List Ty))).bind λs4=>some ((Ty.mk s4.2.1 s4.2.2.1 s4.2.2.2),s4.1))) _;simp only[gK,lY,qAa,qK _ d];show Row _ (aP ((aN a).isSome&&b.kind==2) a);cases aN a with|none=>exact .no a (by simp only[qCw,cond_false,qAa,mJ];exact Ev.ret _) rfl|some e=>exact .of a (b.kind==2) (by simp only[qBj,cond_true,qAa,mJ];exact Ev.ret _) rfl
theorem axA{l}(h:∀t∈l,Top t)(d:LenOk 56 l) nm m ty ks:Row (λn=>fP n (.mk 56 nm m ty ks) l) (gH 56 l):=by
 obtain⟨a,b,rfl⟩:=dh l (d.two rfl);have c:=h a (by simp);have f:=h b (by simp);show Row (λn=>((((idx [a,b] 0).bind λx18=>((fF n x18).bind λx19=>(cond (!x19) (some true) ((idx [a,b] 1).bind λx20=>some (x20.kind==2))))):Option Bool).bind λs5=>(cond s5 (some ((Ty.mk 0 ([]:Str) ([])),false)) ((idx [a,b] 0).bind λx15=>((idx x15.kids 0).bind λx16=>((idx [a,b] 1).bind λx17=>some ((Ty.mk 5 ([]:Str) ([(Ty.mk 4 ([]:Str) ([x16,x17]))])),true))))))) _;simp only[gK,lY,qAa,qK _ c];show Row _ ((aN a).bind λx=>aP (b.kind !=2) (aj (aL x b)));cases s:aN a with|none=>exact .no aR (Ev.ret _) rfl|some e=>
  obtain⟨_,rfl⟩:=eO c s;simp only[qBj,qAr,cond_false,qAa,bne];cases b.kind==2 with|true=>exact .no aR (Ev.ret _) rfl|false=>exact .yes (aj (aL e b)) (Ev.ret _) rfl
theorem axq{op}(d:1<=op)(h2:op<=56)(b:op≠20)(c:op≠29){l}(h:∀t∈l,Top t)(a:LenOk op l)(nm:Str)(m:Int)(ty:Ty)(k:List Tm):Row (λn=>fP n (.mk op nm m ty k) l) (gH op l):=by
 rcases aks d h2 with rfl|rfl|rfl|rfl|rfl|rfl|rfl|rfl|rfl|rfl|rfl|rfl|rfl|rfl|rfl|rfl|rfl|rfl|rfl|rfl|rfl|rfl|rfl|rfl|rfl|rfl|rfl|rfl|rfl|rfl|rfl|rfl|rfl|rfl|rfl|rfl|rfl|rfl|rfl|rfl|rfl|rfl|rfl|rfl|rfl|rfl|rfl|rfl|rfl|rfl|rfl|rfl|rfl|rfl|rfl|rfl
 ·exact aqt (by decide) h a nm m ty k
 ·exact aqt (by decide) h a nm m ty k
 ·exact Ow (by decide) h a nm m ty k
 ·exact Ow (by decide) h a nm m ty k
 ·exact Ow (by decide) h a nm m ty k
 ·exact Ow (by decide) h a nm m ty k
 ·exact Ow (by decide) h a nm m ty k
 ·exact aqu (by decide) h a nm m ty k
 ·exact aqu (by decide) h a nm m ty k
 ·exact ak9 (by decide) h a nm m ty k
 ·exact ak9 (by decide) h a nm m ty k
 ·exact RG (by decide) h a nm m ty k
 ·exact RG (by decide) h a nm m ty k
 ·exact RG (by decide) h a nm m ty k
 ·exact RG (by decide) h a nm m ty k
 ·exact ami (by decide) h a nm m ty k
 ·exact ami (by decide) h a nm m ty k
 ·exact axl h a nm m ty k
 ·exact ayl h a nm m ty k
 ·exact absurd rfl b
 ·exact FL (by decide) h a nm m ty k
 ·exact FL (by decide) h a nm m ty k
 ·exact FL (by decide) h a nm m ty k
 ·exact FL (by decide) h a nm m ty k
 ·exact FL (by decide) h a nm m ty k
 ·exact FL (by decide) h a nm m ty k
 ·exact ayD h a nm m ty k
 ·exact awU h a nm m ty k
 ·exact absurd rfl c
 ·exact azg h a nm m ty k
 ·exact aan (by decide) h a nm m ty k
 ·exact aan (by decide) h a nm m ty k
 ·exact aan (by decide) h a nm m ty k
 ·exact aw1 h a nm m ty k
 ·exact azj h a nm m ty k
 ·exact azx h a nm m ty k
 ·exact alq (by decide) h a nm m ty k
 ·exact alq (by decide) h a nm m ty k
 ·exact akZ (by decide) h a nm m ty k
 ·exact akZ (by decide) h a nm m ty k
 ·exact LG (by decide) h a nm m ty k
 ·exact LG (by decide) h a nm m ty k
 ·exact LG (by decide) h a nm m ty k
 ·exact LG (by decide) h a nm m ty k
 ·exact LG (by decide) h a nm m ty k
 ·exact axy h a nm m ty k
 ·exact awW h a nm m ty k
 ·exact amr (by decide) h a nm m ty k
 ·exact amr (by decide) h a nm m ty k
 ·exact axM h a nm m ty k
 ·exact ayI h a nm m ty k
 ·exact ayi h a nm m ty k
 ·exact ay0 h a nm m ty k
 ·exact azl h a nm m ty k
 ·exact axD h a nm m ty k
 exact axA h a nm m ty k
end
end Abs
end Go.Proofs.YtneeginmfjageaaGreat
