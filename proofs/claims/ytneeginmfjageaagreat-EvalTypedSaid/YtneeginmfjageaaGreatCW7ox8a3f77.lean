/-
  The evaluator comes to the plain value of a term: binders, memberships, operators, all terms. Conditions: the term has a type, names have values of their types; lemmas without a program.
-/
import Derived.Test.YtneeginmfjageaaGreatCQ2ox0e1e3a
set_option linter.all false
namespace Go.Proofs.YtneeginmfjageaaGreat
namespace Abs
section
open Go
section
variable {cs:List Carrier}{ds:List Decl}{sz:List Int}{m:List (Str×Val)}{g:Str→Val}
theorem aj3 op:∀xs ys s,ys.length=xs.length->Ml op xs ys s=(s.1++(xs.zip ys).flatMap (λp=>cond (op==56) [dD p.1 p.2] (cond (p.2.n==1) [p.1] [])),cond (op==56) s.2.1 (s.2.1 ||ys.any λy=>y.n==1),cond (op==56) s.2.2 (s.2.2&&ys.all λy=>y.n==1))|[],[],s,_=>by obtain⟨a,b,c⟩:=s;cases q:(op==56)<;>simp[Ml]|[],y::ys,s,h=>by simp at h|x::xs,[],s,h=>by simp at h|x::xs,y::ys,s,h=>by rw[Ml,aj3 op xs ys _ (by simpa using h)];unfold stB;obtain⟨a,b,c⟩:=s;cases q:(op==56)<;>cases d:(y.n==1)<;>simp[d]
theorem akp{α:Type} f (xs:List α) ys (h:eY (xs.map f)=.ok ys):ys.length=xs.length:=(seq_ok f xs ys h).1
theorem axO{op}{nm}{k}{u}{x y}{b}(o:cO op=true)(B:lX cs ds sz m g x b)(hb:b.length<=1000)(J:∀v,aF g x b=.ok v->v.kids.length<=256)(P:∀v,aF g x b=.ok v->∀a∈v.kids,lX cs ds sz m g y (⟨nm,a⟩::b)):
  dF (vb b.reverse) (λn=>bZ n cs ds sz m b.reverse (.mk op nm k u [x,y])) b.reverse (aF g (.mk op nm k u [x,y]) b):=by
 have Q:dF (λ(q:List Val×Bool×Bool)=>(b.reverse,q.1,q.2.1,q.2.2)) (λn=>(bR n cs ds sz m b.reverse (.mk op nm k u [x,y]) op nm k u.kind u.name u.kids [x,y] [] false true).bind λr=>some (match r with| .ok a=>PZ.ok a| .er e z=>.er e z.1)) b.reverse
   ((aF g x b).thn λs=>(jo (aF g y) nm b s.kids).thn λys=>RR.ok (Ml op s.kids ys ([],false,true))):=by
  refine dF.mono (f:=λn=>(bR (n+1) cs ds sz m b.reverse (.mk op nm k u [x,y]) op nm k u.kind u.name u.kids [x,y] [] false true).bind λr=>some (match r with| .ok a=>PZ.ok a| .er e z=>.er e z.1)) (λv h=>Ev.succ h) ?_
  show dF _ (λn=>(xw n _ _ _ _ _ (aI n) _ _ _ _ _ _ _ _ _ _ _ _ _ _ _ _ _).bind _) _ _;unfold xw;unfold lX at B;cases C:aF g x b with|er e=>rw[C]at B;obtain⟨R,z,S⟩:=B;show dF _ _ _ (RR.er e);exact⟨R,z,Ev.bind (Ev.bind (a:=x) (Ev.of λ_=>rfl) (Ev.bind S (Ev.ret _))) (Ev.ret _)⟩|ok v=>
   rw[C]at B;obtain⟨N,z,lz,T,L⟩:=azb (op:=op) (k:=k) (u:=u) (x:=x) v v.kids [] ([],false,true) v0 rfl (by have:=J v C;simp;omega) (P v C);obtain⟨F,t⟩:=B;have d:app 72 b.reverse [Bound.mk nm (Val.mk 0 0 [] [])]=some (b.reverse++[⟨nm,v0⟩]):=by unfold app;rw[if_pos ⟨by simp;omega,by simp;omega⟩];rfl
   have M:∀n,N+F+v.kids.length+1<=n->aoh cs ds sz m (.mk op nm k u [x,y]) (v,b.reverse) n n (0,false,true,b.reverse++[⟨nm,v0⟩],[])=_:=λn A=>L n (by omega) n (by omega);have D:∀(w:Bound),((Dw (List.length (b.reverse++[w])) (((b.reverse++[w]).length:Int) - 1)).bind λ(E:Nat)=>(cond (Nat.ble E (List.length (b.reverse++[w]))) (some (List.take E (b.reverse++[w]))) none))=some b.reverse:=by intro w;unfold Dw;rw[show(((b.reverse++[w]).length:Int) - 1)=(b.reverse.length:Int) by simp,if_pos ⟨by omega,by simp;omega⟩,qBS];simp only[qAa];rw[show Nat.ble b.reverse.length (b.reverse++[w]).length=true by rw[Nat.ble_eq];simp];simp
   show dF _ (λn=>_) _ ((jo (aF g y) nm b v.kids).thn λys=>RR.ok (Ml op v.kids ys ([],false,true)));cases c:jo (aF g y) nm b v.kids with|er e=>show dF _ _ _ (RR.er e);refine⟨T e c,z,N+F+v.kids.length+1,λn A=>?_⟩;have t:aI n cs ds sz m b.reverse x=_:=t n (by omega);have i:=M n A;rw[c]at i;change Ah n _ _ _ _ _ _ _ _ _ _ _ (Tm.mk op nm k u [x,y]) op nm k u.kind u.name u.kids [x,y] _ _ _=_ at i;simp only[Tm.kids,Tm.name,show idx [x,y] 0=some x from rfl,qAa,t,PZ.el,vb,d];rw[i];rfl|ok ys=>
    show dF _ _ _ (RR.ok _);refine⟨N+F+v.kids.length+1,λn A=>?_⟩;have t:aI n cs ds sz m b.reverse x=_:=t n (by omega);have i:=M n A;rw[c]at i;change Ah n _ _ _ _ _ _ _ _ _ _ _ (Tm.mk op nm k u [x,y]) op nm k u.kind u.name u.kids [x,y] _ _ _=_ at i;simp only[Tm.kids,Tm.name,show idx [x,y] 0=some x from rfl,qAa,t,PZ.el,vb,d];rw[i];have j:=D ⟨nm,v.kids.getLast?.getD v0⟩;simp only[qAa,LR.el];unfold Dw at j|-;split at j
    ·rename_i U;rw[if_pos U];simp only[qAa]at j|-;generalize Nat.ble _ _=V at j|-;cases V with|false=>cases j|true=>simp only[cond_true,qAa]at j|-;rw[Option.some.inj j]
    cases j
 rw[l8];have e:Z0 g op nm k ([x,y].map (uH g)) b=(aF g x b).thn λs=>(jo (aF g y) nm b s.kids).thn λys=>Ry op s.kids ys:=by unfold cO at o;simp only[qBm,beq_iff_eq]at o;rcases o with rfl|rfl|rfl|rfl<;>rfl
 rw[e];refine dF.succ ?_;show dF _ (λn=>uG n _ _ _ (bR n) _ _ _ _ _ _ _ _ _) _ _;unfold uG;have G:dF (vb b.reverse) (λn=>((bR n cs ds sz m b.reverse (.mk op nm k u [x,y]) op nm k u.kind u.name u.kids [x,y] [] false true).bind λr=>some (match r with| .ok a=>PZ.ok a| .er e z=>.er e z.1)).bind (PZ.el (λ(l:(List Bound)×(List Val)×Bool×Bool)=>(cond (op==8) ((bD n l.2.2.2).bind λ(W:Val)=>some (.ok (W,l.1))) (cond (op==9) ((bD n l.2.2.1).bind λ(X:Val)=>some (.ok (X,l.1))) ((yK n l.2.1).bind (PZ.el (λ(E:Val)=>some (.ok (E,l.1))) (λ(Y:Int) _=>some (.er Y l.1))))))) (λ(H:Int) Z=>some (.er H Z)))) b.reverse
   ((aF g x b).thn λs=>(jo (aF g y) nm b s.kids).thn λys=>Ry op s.kids ys):=by
  have H:((aF g x b).thn λs=>(jo (aF g y) nm b s.kids).thn λys=>Ry op s.kids ys)=((aF g x b).thn λs=>(jo (aF g y) nm b s.kids).thn λys=>RR.ok (Ml op s.kids ys ([],false,true))).thn λq=>cond (op==8) (.ok (bO q.2.2)) (cond (op==9) (.ok (bO q.2.1)) (pG q.1)):=by
   cases C:aF g x b with|er e=>rfl|ok v=>
    show(jo (aF g y) nm b v.kids).thn _=((jo (aF g y) nm b v.kids).thn _).thn _;cases c:jo (aF g y) nm b v.kids with|er e=>rfl|ok ys=>show Ry op v.kids ys=cond (op==8) _ _;rw[aj3 op v.kids ys _ (akp _ _ _ c)];unfold Ry;unfold cO at o;simp only[qBm,beq_iff_eq]at o;rcases o with rfl|rfl|rfl|rfl<;>rfl
  rw[H];refine dF.bind (K:=vb b.reverse) Q λq c=>?_;obtain⟨v,hv,c⟩:=then_ok c;obtain⟨ys,I,c⟩:=then_ok c;cases c;have O:(Ml op v.kids ys ([],false,true)).1.length<=256:=by
   rw[aj3 op v.kids ys _ (akp _ _ _ I)];have:=vO (λ(p:Val×Val)=>cond (op==56) [dD p.1 p.2] (cond (p.2.n==1) [p.1] [])) 1 (v.kids.zip ys) (λp _=>by cases op==56<;>cases p.2.n==1<;>simp);have L:=J v hv;have i:(v.kids.zip ys).length<=v.kids.length:=by rw[qDC];omega
   simp only[qAs];omega
  cases op==8 with|true=>exact Ev.bind (Bv _) (Ev.ret _)|false=>
   cases op==9 with|true=>exact Ev.bind (Bv _) (Ev.ret _)|false=>exact dF.pure (ao9 (show(Ml op v.kids ys ([],false,true)).1.length*56<=_ by omega)) (Er.bnd _)
 refine dF.mono (λv h=>?_) G;obtain⟨N,h⟩:=h;refine⟨N,λn A=>?_⟩;rw[<-h n A];simp only[qAa,Tm.op,Tm.name,Tm.n,Tm.ty,Tm.kids];cases bR n cs ds sz m b.reverse (.mk op nm k u [x,y]) op nm k u.kind u.name u.kids [x,y] [] false true with|none=>rfl|some r=>cases r<;>rfl
theorem aq2{σ}(f:Tm->VR) b (a:Tm->List Bound):∀k acc,∃z,gD (λx acc=>match f x with| .ok v=>LR.nx (acc++[v])| .er e=>.rt (PZ.er (α:=σ) e (b++a x))) (λacc=>(acc,b)) k acc=match eY (k.map f)with| .ok l=>.nx (acc++l,b)| .er e=>.rt (.er e (b++z))
 |[],acc=>⟨[],by simp[gD,eY]⟩|x::k,acc=>by
  rw[qAz];cases c:f x with|er e=>exact⟨a x,by simp only[gD,c,eY]⟩|ok v=>
   obtain⟨z,h⟩:=aq2 f b a k (acc++[v]);refine⟨z,?_⟩;simp only[gD,c,eY];rw[h];cases eY (k.map f)with|er e=>rfl|ok l=>simp
theorem ayt{α:Type} f:∀(xs:List α),(∀x∈xs,Er (f x))->Er (eY (xs.map f))
 |[],_=>Er.ok _|x::xs,h=>by
  have c:=h x (by simp);have d:=ayt f xs λy g=>h y (by simp[g]);intro e a;rw[qAz]at a;cases b:f x with
  |er i=>rw[b]at a;cases a;exact c _ b|ok v=>
   rw[b]at a;unfold eY at a;cases s:eY (xs.map f)with|ok l=>rw[s]at a;cases a|er i=>rw[s]at a;cases a;exact d _ s
theorem lX.er{t b}(h:lX cs ds sz m g t b):Er (aF g t b):=λe a=>by unfold lX at h;rw[a]at h;exact h.1
def aIU cs ds sz m t n:=Iu n (bA n) (bq n) (bB n) (bR n) (bZ n) (aI n) (bU n) cs ds sz m t
def awL cs ds sz m t n:=nD n (bA n) (bq n) (bB n) (bR n) (bZ n) (aI n) (bU n) cs ds sz m t
theorem ayw{nm}{k}{u}{a}{b}(h:∀x∈a,lX cs ds sz m g x b)(I:a.length<=1000000):
  dF (vb b.reverse) (λn=>(aIU cs ds sz m (.mk 28 nm k u a) n n (([]:List Val),0,b.reverse)).bind (LR.el (λ(w:(List Val)×(List Bound))=>((yK n w.1).bind (PZ.el (λ(y:Val)=>some (.ok (y,w.2))) (λ(A:Int) _=>some (.er A w.2))))) (λr=>some r))) b.reverse ((eY (a.map λt=>aF g t b)).thn pG):=by
 have B:∀x:Tm,∃z,x∈a->∀e,aF g x b=.er e->Ev (λn=>aI n cs ds sz m b.reverse x) (.er e (b.reverse++z)):=λx=>by
  by_cases j:x∈a;·have c:=h x j;unfold lX at c;cases q:aF g x b with|ok v=>exact⟨[],λ_ e C=>by cases C⟩|er e=>rw[q]at c;obtain⟨_,z,B⟩:=c;exact⟨z,λ_ G C=>by cases C;exact B⟩
  simp_all
 obtain⟨H,D⟩:=qCz B;have c:=OO (Tm.mk 28 nm k u a).kids (awL cs ds sz m (.mk 28 nm k u a)) (λi s=>(s,i,b.reverse)) (λx acc=>match aF g x b with| .ok v=>LR.nx (acc++[v])| .er e=>.rt (PZ.er e (b.reverse++H x))) (λacc=>(acc,b.reverse)) (λsuf acc=>acc.length+suf.length<=1000000) (λn o s=>by unfold awL nD;rw[at_end];rfl) (λpre x suf s e K=>by
  have j:x∈a:=by have e:a=_:=e;simp[e]
  have E:=h x j;unfold lX at E;simp only[qAo]at K;cases q:aF g x b with|er G=>obtain⟨N,f⟩:=D x j G q;refine⟨⟨N,λn F o=>?_⟩,λs' d=>by cases d⟩;have f:aI n cs ds sz m b.reverse x=_:=f n F;unfold awL nD;rw[(dW e).1];simp only[cond_true,(dW e).2,qAa,f,PZ.el]|ok v=>rw[q]at E;obtain⟨N,f⟩:=E;refine⟨⟨N,λn F o=>?_⟩,λs' d=>by cases d;simp;omega⟩;have f:aI n cs ds sz m b.reverse x=_:=f n F;unfold awL nD;rw[(dW e).1];simp only[cond_true,(dW e).2,qAa,f,PZ.el,vb];rw[iJ (by simp;omega)];rfl) (s0:=[]) (qAu (qBk (qAK _)) I)
 obtain⟨z,p⟩:=aq2 (σ:=Val×List Bound) (λt=>aF g t b) b.reverse H a [];have c:=Ev.eq c p;cases d:eY (a.map λt=>aF g t b)with|er e=>rw[d]at c;exact⟨ayt _ a (λx j=>(h x j).er) e d,z,Ev.bind c (Ev.ret _)⟩|ok l=>rw[d]at c;have M:=akp _ _ _ d;refine dF.mono (λv O=>Ev.bind c O) ?_;exact dF.pure (ao9 (by simp only[qAs];omega)) (Er.bnd _)
end
end
section
open Go
section
variable {cs:List Carrier}{ds:List Decl}{sz:List Int}{m:List (Str×Val)}{g:Str→Val}
abbrev LSt:Type:=Int×Int×Int×Str×List Val×Int×Int×Str×List Val×List Bound
def Js cs ds sz m t n:=fE n (bA n) (bq n) (bB n) (bR n) (bZ n) (aI n) (bU n) cs ds sz m t
def Ja cs ds sz m t n k:=aH (Js cs ds sz m t n) k
theorem PD t n k (s:LSt):Ja cs ds sz m t n (k+1) s=Js cs ds sz m t n (Ja cs ds sz m t n k) s:=rfl
abbrev aqI(op:Int)(n:Nat):LR (Int×Int×Str×List Val×Int×Int×Str×List Val×List Bound) (PZ (Val×(List Bound)) (List Bound))->Option (PZ (Val×(List Bound)) (List Bound)):=LR.el (λ(s)=>(nE n op (Val.mk s.1 s.2.1 s.2.2.1 s.2.2.2.1) (Val.mk s.2.2.2.2.1 s.2.2.2.2.2.1 s.2.2.2.2.2.2.1 s.2.2.2.2.2.2.2.1)).bind (PZ.el (λ(x:Val)=>some (.ok (x,s.2.2.2.2.2.2.2.2))) (λ(e:Int) _=>some (.er e s.2.2.2.2.2.2.2.2)))) λr=>some r
theorem akw v:Val.mk v.kind v.n v.name v.kids=v:=by cases v;rfl
theorem aFo{op}{nm}{k}{u}{x}{b}(o:(op==28)=false)(h:lX cs ds sz m g x b)(c:∀a,aF g x b=.ok a->Ev (λn=>nE n op a v0) (pz (Ea op a v0))):
  dF (vb b.reverse) (λn=>(Ja cs ds sz m (.mk op nm k u [x]) n n (0,0,0,([]:Str),([]:List Val),0,0,([]:Str),([]:List Val),b.reverse)).bind (aqI op n)) b.reverse ((eY [aF g x b]).thn (gW op)):=by
 unfold lX at h;cases r:aF g x b with|er e=>rw[r]at h;obtain⟨q,z,N,d⟩:=h;refine⟨q,z,N+2,λn t=>?_⟩;have d:aI n cs ds sz m b.reverse x=_:=d n (by omega);obtain⟨j,rfl⟩:∃j,n=j+2:=⟨n - 2,by omega⟩;dsimp only;rw[PD];unfold Js fE;simp only[Tm.kids,show idx [x] 0=some x from rfl,qAa,d]<;>rfl|ok a=>
  rw[r]at h;obtain⟨N,i⟩:=h;have c:=c a r;have e:(eY [(.ok a:VR)]).thn (gW op)=Ea op a v0:=by unfold gW;rw[o];rfl
  rw[e];refine dF.mono (f:=λn=>(nE n op a v0).bind (PZ.el (λ(l:Val)=>some (.ok (l,b.reverse))) (λ(p:Int) _=>some (.er p b.reverse)))) (λv w=>?_) (dF.pure c (Er.apply op a v0));obtain⟨M,y⟩:=w;refine⟨N+M+2,λn t=>?_⟩;rw[<-y n (by omega)];have i:aI n cs ds sz m b.reverse x=_:=i n (by omega);have A:n=(n - 2)+1+1:=by omega
  have B:Ja cs ds sz m (.mk op nm k u [x]) n n (0,0,0,([]:Str),([]:List Val),0,0,([]:Str),([]:List Val),b.reverse)=some (.nx (a.kind,a.n,a.name,a.kids,0,0,[],[],b.reverse)):=by
   conv=>lhs;arg 7;rw[A]
   rw[PD];unfold Js fE;simp only[Tm.kids,cond_true,show idx [x] 0=some x from rfl,qAa,i,PZ.el,LR.el,show((0:Int)==0)=true from rfl];rw[show ∀s,Ja cs ds sz m (.mk op nm k u [x]) n (n - 2+1) s=Js cs ds sz m (.mk op nm k u [x]) n (Ja cs ds sz m (.mk op nm k u [x]) n (n - 2)) s from λs=>PD _ _ _ s];rfl
  simp only[B,qAa,aqI,LR.el,akw];rfl
theorem aEw{op}{nm}{k}{u}{x y}{c}(o:(op==28)=false)(i:lX cs ds sz m g x c)(l:lX cs ds sz m g y c)(p:∀a b,aF g x c=.ok a->aF g y c=.ok b->Ev (λn=>nE n op a b) (pz (Ea op a b))):
  dF (vb c.reverse) (λn=>(Ja cs ds sz m (.mk op nm k u [x,y]) n n (0,0,0,([]:Str),([]:List Val),0,0,([]:Str),([]:List Val),c.reverse)).bind (aqI op n)) c.reverse ((eY [aF g x c,aF g y c]).thn (gW op)):=by
 unfold lX at i l;have q:decide ((0:Int)<([x,y].length:Int))=true:=rfl;have F:decide ((0:Int)+1<([x,y].length:Int))=true:=rfl;have K:decide ((0:Int)+1+1<([x,y].length:Int))=false:=rfl;cases r:aF g x c with
 |er e=>rw[r]at i;obtain⟨t,z,N,h⟩:=i;show dF _ _ _ (RR.er e);refine⟨t,z,N+2,λn G=>?_⟩;have h:aI n cs ds sz m c.reverse x=_:=h n (by omega);obtain⟨j,rfl⟩:∃j,n=j+2:=⟨n - 2,by omega⟩;dsimp only;rw[PD];unfold Js fE;simp only[Tm.kids,q,cond_true,show idx [x,y] 0=some x from rfl,qAa,h,PZ.el,LR.el]<;>rfl
 |ok a=>
  rw[r]at i;obtain⟨N,d⟩:=i;cases w:aF g y c with
  |er e=>
   rw[w]at l;obtain⟨t,z,M,h⟩:=l;show dF _ _ _ (RR.er e);refine⟨t,z,N+M+3,λn G=>?_⟩;have d:aI n cs ds sz m c.reverse x=_:=d n (by omega);have h:aI n cs ds sz m c.reverse y=_:=h n (by omega);have A:n=(n - 2)+1+1:=by omega
   dsimp only;rw[show Ja cs ds sz m (.mk op nm k u [x,y]) n n (0,0,0,([]:Str),([]:List Val),0,0,([]:Str),([]:List Val),c.reverse)=some (.rt (.er e (c.reverse++z))) by
    conv=>lhs;arg 7;rw[A]
    rw[PD];unfold Js fE;simp only[Tm.kids,q,cond_true,show idx [x,y] 0=some x from rfl,qAa,d,PZ.el,LR.el,vb,show((0:Int)==0)=true from rfl];rw[show ∀s,Ja cs ds sz m (.mk op nm k u [x,y]) n (n - 2+1) s=Js cs ds sz m (.mk op nm k u [x,y]) n (Ja cs ds sz m (.mk op nm k u [x,y]) n (n - 2)) s from λs=>PD _ _ _ s];unfold Js fE;simp only[Tm.kids,F,cond_true,show idx [x,y] (0+1)=some y from rfl,qAa,h,PZ.el,LR.el];rfl]
   rfl
  |ok b=>
   rw[w]at l;obtain⟨M,B⟩:=l;have p:=p a b r w;have e:(eY [(.ok a:VR),.ok b]).thn (gW op)=Ea op a b:=by show gW op [a,b]=_;unfold gW;rw[o];rfl
   rw[e];refine dF.mono (f:=λn=>(nE n op a b).bind (PZ.el (λ(C:Val)=>some (.ok (C,c.reverse))) (λ(D:Int) _=>some (.er D c.reverse)))) (λv H=>?_) (dF.pure p (Er.apply op a b));obtain⟨L,I⟩:=H;refine⟨N+M+L+3,λn G=>?_⟩;rw[<-I n (by omega)];have d:aI n cs ds sz m c.reverse x=_:=d n (by omega);have B:aI n cs ds sz m c.reverse y=_:=B n (by omega);have A:n=(n - 3)+1+1+1:=by omega
   have E:∀j s,Ja cs ds sz m (.mk op nm k u [x,y]) n (j+1) s=Js cs ds sz m (.mk op nm k u [x,y]) n (Ja cs ds sz m (.mk op nm k u [x,y]) n j) s:=λj s=>PD _ _ _ s;have J:Ja cs ds sz m (.mk op nm k u [x,y]) n n (0,0,0,([]:Str),([]:List Val),0,0,([]:Str),([]:List Val),c.reverse)=some (.nx (a.kind,a.n,a.name,a.kids,b.kind,b.n,b.name,b.kids,c.reverse)):=by
    conv=>lhs;arg 7;rw[A]
    rw[E];unfold Js fE;simp only[Tm.kids,q,cond_true,show idx [x,y] 0=some x from rfl,qAa,d,PZ.el,LR.el,vb,show((0:Int)==0)=true from rfl];rw[E];unfold Js fE;simp only[Tm.kids,F,cond_true,cond_false,show idx [x,y] (0+1)=some y from rfl,qAa,B,PZ.el,LR.el,vb,show((0:Int)+1==0)=false from rfl,show((0:Int)+1==1)=true from rfl];rw[E];unfold Js fE;rfl
   simp only[J,qAa,aqI,LR.el,akw]
theorem VB n op:wT n op=some (Aa op):=by
 unfold wT Aa
 grind
theorem atG p (l:List Val):((l.filter p).length==(l.length:Int))=l.all p:=by rw[qBY,beq_iff_eq,qAJ,Int.natCast_inj,List.length_filter_eq_length_iff]
theorem aGt{y}{b}(hs:Aa y.op=false)(h:lX cs ds sz m g y b):dF (λl:List Val=>((l.headD v0).kids,b.reverse)) (λn=>bB n cs ds sz m b.reverse y) b.reverse (eY [aF g y b]):=by
 refine dF.succ ?_;show dF _ (λn=>pJ n _ _ _ _ _ (aI n) _ _ _ _ _ _ _) _ _;unfold pJ;simp only[VB,hs,qAa];unfold lX at h;cases r:aF g y b with|er e=>rw[r]at h;obtain⟨a,z,c⟩:=h;exact⟨a,z,Ev.bind c (Ev.ret _)⟩|ok v=>rw[r]at h;exact Ev.bind h (Ev.ret _)
theorem aHm{nm}{k}{u}{z}{b}(h:lX cs ds sz m g z b):dF (λl:List Val=>((l.headD v0).kids,b.reverse)) (λn=>bq n cs ds sz m b.reverse (.mk 46 nm k u [z])) b.reverse (eY [aF g z b]):=by
 refine dF.succ ?_;show dF _ (λn=>pE n _ _ _ _ _ (aI n) _ _ _ _ _ _ _) _ _;unfold pE;simp only[VB,qAa];unfold lX at h;cases r:aF g z b with|er e=>rw[r]at h;obtain⟨a,w,c⟩:=h;exact⟨a,w,Ev.bind c (Ev.ret _)⟩|ok v=>rw[r]at h;exact Ev.bind h (Ev.ret _)
theorem aGH{op nm k u z w s}(o:op=41∨op=42∨op=43∨op=44∨op=45)(c:lX cs ds sz m g z s)(d:lX cs ds sz m g w s):
  dF (λl:List Val=>(op,nm,k,u.kind,u.name,u.kids,[z,w],(l.headD v0).kids,((l.drop 1).headD v0).kids,s.reverse)) (λn=>bA n cs ds sz m s.reverse (.mk op nm k u [z,w])) s.reverse (eY [aF g z s,aF g w s]):=by
 refine dF.succ ?_;show dF _ (λn=>pR n _ _ _ _ _ (aI n) _ _ _ _ _ _ _) _ _;unfold pR;have h:Aa op=true/\(op==46)=false:=by rcases o with rfl|rfl|rfl|rfl|rfl<;>exact⟨rfl,rfl⟩
 simp only[VB,Tm.op,h.1,h.2];have e:eY [aF g z s,aF g w s]=(aF g z s).thn λa=>(aF g w s).thn λb=>RR.ok [a,b]:=by cases aF g z s<;>cases aF g w s<;>rfl
 rw[e];exact dF.bind c λa _=>dF.bind d λb _=>Ev.ret _
theorem aFl{env}(hg:GOk env sz g){op}{sc}{t}{y}{bs:List Bound}(ho:op=16∨op=17∨op=18)(hs:Scp env sz sc bs)(hy:HT env sc y (aj t))(hE:lX cs ds sz m g y bs)(hK:∀z∈y.kids,Aa y.op=true->lX cs ds sz m g z bs)(a:Val)
  (ha:hasB env sz (cond (op==18) (aj t) t) a=true) (la:a.kids.length<=256):
  dF (vb bs.reverse) (λn=>cond (op==18)
    ((cond (decide (y.op<41) ||decide (46<y.op)) ((bB n cs ds sz m bs.reverse y).bind (PZ.el (λ(x21:(List Val)×(List Bound))=>((Es n a.kids x21.1).bind λ(x22:List Val)=>((bD n ((x22.length:Int)==(a.kids.length:Int))).bind λ(x23:Val)=>some (.ok (x23,x21.2))))) (λ(e9:Int) z9=>some (.er e9 z9)))) (cond (y.op==46) ((bq n cs ds sz m bs.reverse y).bind (PZ.el (λ(x24:(List Val)×(List Bound))=>((Et n a.kids x24.1).bind λ(x25:List Val)=>((bD n ((x25.length:Int)==(a.kids.length:Int))).bind λ(x26:Val)=>some (.ok (x26,x24.2))))) (λ(e10:Int) z10=>some (.er e10 z10)))) ((bA n cs ds sz m bs.reverse y).bind (PZ.el (λ(x27:Int×Str×Int×Int×Str×(List Ty)×(List Tm)×(List Val)×(List Val)×(List Bound))=>((EC n a.kids x27.1 x27.2.1 x27.2.2.1 x27.2.2.2.1 x27.2.2.2.2.1 x27.2.2.2.2.2.1 x27.2.2.2.2.2.2.1 x27.2.2.2.2.2.2.2.1 x27.2.2.2.2.2.2.2.2.1).bind λ(x28:List Val)=>((bD n ((x28.length:Int)==(a.kids.length:Int))).bind λ(x29:Val)=>some (.ok (x29,x27.2.2.2.2.2.2.2.2.2))))) (λ(e11:Int) z11=>some (.er e11 z11)))))))
    ((cond (decide (y.op<41) ||decide (46<y.op)) ((bB n cs ds sz m bs.reverse y).bind (PZ.el (λ(x9:(List Val)×(List Bound))=>((iV n a x9.1).bind λ(x10:Bool)=>((bD n (x10==(op==16))).bind λ(x11:Val)=>some (.ok (x11,x9.2))))) (λ(e5:Int) z5=>some (.er e5 z5)))) (cond (y.op==46) ((bq n cs ds sz m bs.reverse y).bind (PZ.el (λ(x12:(List Val)×(List Bound))=>((iQ n a x12.1).bind λ(x13:Bool)=>((bD n (x13==(op==16))).bind λ(x14:Val)=>some (.ok (x14,x12.2))))) (λ(e6:Int) z6=>some (.er e6 z6)))) ((bA n cs ds sz m bs.reverse y).bind (PZ.el (λ(x15:Int×Str×Int×Int×Str×(List Ty)×(List Tm)×(List Val)×(List Val)×(List Bound))=>((j4 n a x15.1 x15.2.1 x15.2.2.1 x15.2.2.2.1 x15.2.2.2.2.1 x15.2.2.2.2.2.1 x15.2.2.2.2.2.2.1 x15.2.2.2.2.2.2.2.1 x15.2.2.2.2.2.2.2.2.1).bind λ(x16:Bool)=>((bD n (x16==(op==16))).bind λ(x17:Val)=>some (.ok (x17,x15.2.2.2.2.2.2.2.2.2))))) (λ(e7:Int) z7=>some (.er e7 z7))))))))
   bs.reverse (W9 op (uH g y) bs a):=by
 -- what a test makes of one value, or of a set
 have fin:∀{α:Type} {J:List Val->α} {f:Nat->Option (PZ α (List Bound))} {r:UM} {F:Nat->α->List Val->Option (List Val)} {D:Nat->Val->α->Option Bool} {B:α->List Bound},
   dF J f bs.reverse r->(∀l,B (J l)=bs.reverse)->(∀l,r=.ok l->∀x,hasB env sz t x=true->Ev (λn=>D n x (J l)) (qy y.op l x))->(∀l,r=.ok l->op=18->Ev (λn=>F n (J l) a.kids) (a.kids.filter (qy y.op l)))->
   dF (vb bs.reverse) (λn=>cond (op==18) ((f n).bind (PZ.el (λx=>((F n x a.kids).bind λ(q:List Val)=>((bD n ((q.length:Int)==(a.kids.length:Int))).bind λ(v:Val)=>some (.ok (v,B x))))) (λe z=>some (.er e z))))
    ((f n).bind (PZ.el (λx=>((D n a x).bind λ(q:Bool)=>((bD n (q==(op==16))).bind λ(v:Val)=>some (.ok (v,B x))))) (λe z=>some (.er e z))))) bs.reverse
    (r.thn λl=>.ok (bO (cond (op==18) (a.kids.all (qy y.op l)) (qy y.op l a==(op==16))))):=by
  intro α J f r F D B hf hB hD hF;cases h18:(op==18)with
  |true=>refine dF.bind hf λl hl=>?_;have h1:=hF l hl (eq_of_beq h18);show Ev _ _;rw[cond_true,<-atG,show vb bs.reverse _=(bO (((a.kids.filter (qy y.op l)).length:Int)==(a.kids.length:Int)),B (J l)) by rw[hB]];exact Ev.bind h1 (Ev.bind (Bv _) (Ev.ret _))
  |false=>rw[h18]at ha;refine dF.bind hf λl hl=>?_;have h1:=hD l hl a ha;show Ev _ _;rw[cond_false,show vb bs.reverse _=(bO (qy y.op l a==(op==16)),B (J l)) by rw[hB]];exact Ev.bind h1 (Ev.bind (Bv _) (Ev.ret _))
 have hkids:op=18->∀x∈a.kids,hasB env sz t x=true:=λh=>by subst h;obtain⟨l,rfl,_,h2⟩:=l9.1 ha;exact h2
 have S:∀{e:Ty} {w:Val},hasB env sz (aj e) w=true->iX w.kids/\∀x∈w.kids,hasB env sz e x=true:=λhw=>by obtain⟨l,rfl,h1,h2⟩:=l9.1 hw;exact⟨h1,h2⟩
 have la':a.kids.length<=1000000:=by omega
 have hsym:(decide (y.op<41) ||decide (46<y.op))=!(Aa y.op):=by
  unfold Aa
  grind
 rw[hsym];unfold W9 Ec;show dF _ _ _ ((cond (Aa y.op) (eY ((y.kids.map (aF g)).map λg=>g bs)) (eY [aF g y bs])).thn _);by_cases hsy:Aa y.op=true;·rw[hsy];cases hy with
  |fam q hq hz hw=>
   rename_i nm k u z w c d;have iz:=hK z (by simp[Tm.kids]) hsy;have iw:=hK w (by simp[Tm.kids]) hsy;have h46:(q==46)=false:=by rcases hq with rfl|rfl|rfl|rfl|rfl<;>rfl
   simp only[Tm.op,h46,cond_true,cond_false,qAr];have hT:∀l,eY [aF g z bs,aF g w bs]=.ok l->∃p r,l=[p,r]/\iX p.kids/\iX r.kids:=λl hl=>by obtain⟨p,r,h1,h2,h3⟩:=seq2 (f:=λl=>(RR.ok (mkSet l):VR)) (v:=mkSet l) (by rw[hl];rfl);cases h3;exact⟨p,r,rfl,(S (sound hg z sc _ bs p hz hs h1)).1,(S (sound hg w sc _ bs r hw hs h2)).1⟩
   have hD:∀l,eY [aF g z bs,aF g w bs]=.ok l->∀x,hasB env sz (aj (aL c d)) x=true->Ev (λn=>uP n q (l.headD v0).kids ((l.drop 1).headD v0).kids x.kids) (qy q l x):=λl hl x hx=>by
    obtain⟨p,r,rfl,h1,h2⟩:=hT l hl;obtain⟨h3,h4⟩:=S hx;unfold qy;rw[show Aa q=true from hsy,h46];exact adg q h1.1 h2.1 (y8 h1) (y8 h2) (λv hv=>by obtain⟨s,t,rfl,_,_⟩:=Jw.1 (h4 v hv);exact⟨s,t,rfl⟩) (y8 h3)
   have h:=fin (α:=Int×Str×Int×Int×Str×(List Ty)×(List Tm)×(List Val)×(List Val)×(List Bound)) (F:=λn x l=>EC n l x.1 x.2.1 x.2.2.1 x.2.2.2.1 x.2.2.2.2.1 x.2.2.2.2.2.1 x.2.2.2.2.2.2.1 x.2.2.2.2.2.2.2.1 x.2.2.2.2.2.2.2.2.1) (D:=λn v x=>j4 n v x.1 x.2.1 x.2.2.1 x.2.2.2.1 x.2.2.2.2.1 x.2.2.2.2.2.1 x.2.2.2.2.2.2.1 x.2.2.2.2.2.2.2.1 x.2.2.2.2.2.2.2.2.1) (B:=λx=>x.2.2.2.2.2.2.2.2.2) (aGH (nm:=nm) (k:=k) (u:=u) hq iz iw) (λl=>rfl)
    (λl hl x hx=>Ev.same (hD l hl x hx))
    (λl hl h18=>CQ a.kids (λn x=>j4 n x q nm k u.kind u.name u.kids [z,w] (l.headD v0).kids ((l.drop 1).headD v0).kids) _ (λx hx=>Ev.same (hD l hl x (hkids h18 x hx))) la')
   exact h
  |pow hz=>
   rename_i nm k u z c;have iz:=hK z (by simp[Tm.kids]) hsy;simp only[Tm.op,show((46:Int)==46)=true from rfl,cond_true,cond_false,qAr];have hD:∀l,eY [aF g z bs]=.ok l->∀x,hasB env sz (aj c) x=true->Ev (λn=>iQ n x (l.headD v0).kids) (qy 46 l x):=λl hl x hx=>by obtain⟨p,h1,h3⟩:=seq1 (f:=λl=>(RR.ok (mkSet l):VR)) (v:=mkSet l) (by rw[hl];rfl);cases h3;have hp:=(S (sound hg z sc _ bs p hz hs h1)).1;have hx:=(S hx).1;show Ev _ (x.kids.all (bf p.kids));rw[<-atG];exact Ev.bind (CQ x.kids (λn v=>uF n v p.kids) (bf p.kids) (λv _=>hp.has v) (y8 hx)) (Ev.ret _)
   have h:=fin (α:=List Val×List Bound) (F:=λn x l=>Et n l x.1) (D:=λn v x=>iQ n v x.1) (B:=λx=>x.2) (aHm (nm:=nm) (k:=k) (u:=u) iz) (λl=>rfl) hD
    (λl hl h18=>CQ a.kids (λn x=>iQ n x (l.headD v0).kids) _ (λx hx=>hD l hl x (hkids h18 x hx)) la')
   exact h
  |bin q hq=>rcases hq with rfl|rfl|rfl<;>cases hsy
  |dres q hq=>rcases hq with rfl|rfl<;>cases hsy
  |rres q hq=>rcases hq with rfl|rfl<;>cases hsy
  |_=>cases hsy
 rw[qCI]at hsy;rw[hsy];simp only[cond_true,cond_false,qBd];have hD:∀l,eY [aF g y bs]=.ok l->∀x:Val,Ev (λn=>iV n x (l.headD v0).kids) (qy y.op l x):=λl hl x=>by obtain⟨p,h1,h3⟩:=seq1 (f:=λl=>(RR.ok (mkSet l):VR)) (v:=mkSet l) (by rw[hl];rfl);cases h3;have hp:=(S (sound hg y sc _ bs p hy hs h1)).1;unfold qy;rw[hsy];exact hp.has x
 have h:=fin (α:=List Val×List Bound) (F:=λn x l=>Es n l x.1) (D:=λn v x=>iV n v x.1) (B:=λx=>x.2) (aGt hsy hE) (λl=>rfl) (λl hl x _=>hD l hl x)
  (λl hl h18=>CQ a.kids (λn x=>iV n x (l.headD v0).kids) _ (λx hx=>hD l hl x) la')
 exact h
end
end
section
open Go
section
variable {cs:List Carrier}{ds:List Decl}{sz:List Int}{m:List (Str×Val)}{g:Str→Val}
theorem aAv{e}{c}{a}(h:Scp e sz c a) s (f:a.find? (λb=>b.name==s)=none):c.find? λd=>d.name==s=none:=by
 induction h with|nil=>rfl|cons h k i=>grind
def LkE(env)cs(ds)sz(m)(g:Str->Val):=∀s t,look env s=some t->∀b,Ev (λn=>acd n cs ds sz m b s) (.ok (g s))
theorem ayG{e}(k:LkE e cs ds sz m g){d}{a}(h:Scp e sz d a){s}{t}(c:rT e d s=some t):Ev (λn=>mq n cs ds sz m a.reverse s) (pz (.ok (agJ g a s))):=by
 unfold mq agJ;rw[List.reverse_reverse];cases f:a.find? (λb=>b.name==s)with|some b=>exact Ev.ret _|none=>unfold rT at c;rw[aAv h s f]at c;exact k s t c _
theorem kJ{t b}(h:dF (vb b.reverse) (λn=>qh n (bA n) (bq n) (bB n) (bR n) (bZ n) (aI n) (bU n) cs ds sz m b.reverse t) b.reverse (aF g t b)):lX cs ds sz m g t b:=dF.succ h
def Fj(op:Int):=op==3 ||(op==7 ||(decide (10<=op)&&decide (op<=15) ||(decide (21<=op)&&decide (op<=27) ||decide (30<=op)&&decide (op<=54))))
theorem aqh n {r1 r r3 a d f g op nm k u s b}(h:Fj op=true):
  qh n r1 r r3 a d f g cs ds sz m b (.mk op nm k u s)=(Io n r1 r r3 a d f g cs ds sz m (.mk op nm k u s) n (0,0,0,[],[],0,0,[],[],b)).bind (aqI op n):=by
 unfold Fj at h;simp at h;have e:∀c:Int,(c=1∨c=2∨c=19∨c=20∨c=29∨c=4∨c=5∨c=6∨c=8∨c=9∨c=55∨c=56∨c=16∨c=17∨c=18∨c=28)->(op==c)=false:=λc i=>by rw[beq_eq_false_iff_ne];omega
 unfold qh;simp only[Tm.op,e 1 (by omega),e 2 (by omega),e 19 (by omega),e 20 (by omega),e 29 (by omega),e 4 (by omega),e 5 (by omega),e 6 (by omega),e 8 (by omega),e 9 (by omega),e 55 (by omega),e 56 (by omega),e 16 (by omega),e 17 (by omega),e 18 (by omega),e 28 (by omega),cond_false,qAa]
theorem auf{op nm k s b}(h:Fj op=true):Z0 g op nm k s b=(eY (s.map λk=>k.f b)).thn (gW op):=by
 unfold Fj at h;simp at h;have e:∀c:Int,(c=1∨c=2∨c=19∨c=20∨c=29∨c=4∨c=5∨c=6∨c=8∨c=9∨c=55∨c=56∨c=16∨c=17∨c=18∨c=28)->(op==c)=false:=λc a=>by rw[beq_eq_false_iff_ne];omega
 unfold Z0 cO
 grind
theorem app1{op nm k u x b}(h:Fj op=true)(d:lX cs ds sz m g x b)(e:∀a,aF g x b=.ok a->Ev (λn=>nE n op a v0) (pz (Ea op a v0))):lX cs ds sz m g (.mk op nm k u [x]) b:=by
 have c:(op==28)=false:=by
  unfold Fj at h
  grind
 refine kJ ?_;rw[l8,auf h];simp only[aqh _ h];exact aFo c d e
theorem DN{op nm k u x y s}(h:Fj op=true)(d:lX cs ds sz m g x s)(e:lX cs ds sz m g y s)(f:∀a b,aF g x s=.ok a->aF g y s=.ok b->Ev (λn=>nE n op a b) (pz (Ea op a b))):lX cs ds sz m g (.mk op nm k u [x,y]) s:=by
 have c:(op==28)=false:=by
  unfold Fj at h
  grind
 refine kJ ?_;rw[l8,auf h];simp only[aqh _ h];exact aEw c d e f
theorem aqk{c}(l:GOk c sz g){op}{nm}{k}{u}{s}{t}{x y}{b}(o:op=16∨op=17∨op=18)(hs:Scp c sz s b)(r:HT c s x (cond (op==18) (aj t) t))(w:HT c s y (aj t))(j:lX cs ds sz m g x b)(A:lX cs ds sz m g y b)
  (B:∀z∈y.kids,Aa y.op=true->lX cs ds sz m g z b) (C:∀v,aF g x b=.ok v->v.kids.length<=256):lX cs ds sz m g (.mk op nm k u [x,y]) b:=by
 refine kJ ?_;have e:aF g (.mk op nm k u [x,y]) b=(aF g x b).thn (W9 op (uH g y) b):=by rw[l8];rcases o with rfl|rfl|rfl<;>rfl
 rw[e];have i:=λa (p:aF g x b=.ok a)=>aFl (cs:=cs) (ds:=ds) (m:=m) l o hs w A B a (sound l x s _ b a r hs p) (C a p);rcases o with rfl|rfl|rfl
 ·exact dF.mono (f:=λn=>(aI n cs ds sz m b.reverse x).bind (PZ.el (λx7=>_) (λe8 d=>some (.er e8 d)))) (λv h=>h) (dF.bind (K:=vb b.reverse) j i)
 ·exact dF.mono (f:=λn=>(aI n cs ds sz m b.reverse x).bind (PZ.el (λx7=>_) (λe8 d=>some (.er e8 d)))) (λv h=>h) (dF.bind (K:=vb b.reverse) j i)
 exact dF.mono (f:=λn=>(aI n cs ds sz m b.reverse x).bind (PZ.el (λx7=>_) (λe8 d=>some (.er e8 d)))) (λv h=>h) (dF.bind (K:=vb b.reverse) j i)
end
theorem atQ{e sz t v}(h:hasB e sz t v=true):v.kids.length<=256:=by
 obtain⟨k,n,s⟩:=t;rw[hasB]at h;unfold aaN aas SX at h
 grind
theorem aC1{j}{cs}{ds}{sz}{m:List (Str×Val)}{g:Str->Val}(hg:GOk j sz g)(hk:LkE j cs ds sz m g)(t:Tm):
  (∀d sc ty B,Wf d t->HT j sc t ty->Scp j sz sc B->(B.length:Int)<d->lX cs ds sz m g t B)/\∀z∈t.kids,∀d sc ty B,Wf d z->HT j sc z ty->Scp j sz sc B->(B.length:Int)<d->lX cs ds sz m g z B:=by
 induction t using Tm.ind with|h o nm k u ks ih=>
 refine⟨?_,λz hz=>(ih z hz).1⟩;intro d sc ty B hw ht hs s;obtain⟨hnode,hd,hkl,hkw⟩:=hw.node;have hbl:B.length<=1000:=by omega
 have S:∀{e:Ty} {w:Val},hasB j sz (aj e) w=true->iX w.kids/\∀x∈w.kids,hasB j sz e x=true:=λhw=>by obtain⟨l,rfl,h1,h2⟩:=l9.1 hw;exact⟨h1,h2⟩
 have R:∀{a b:Ty} {w:Val},hasB j sz (aj (aL a b)) w=true->mY w.kids:=λhw p hp=>by obtain⟨x,y,rfl,_,_⟩:=Jw.1 ((S hw).2 p hp);exact⟨x,y,rfl⟩
 have I:∀{w:Val},hasB j sz bY w=true->Rt w.n:=λhw=>by obtain⟨n,rfl,h⟩:=NP.1 hw;exact h
 have D:=λx (c:x∈ks) ty (h:HT j sc x ty)=>(ih x c).1 (d+1) sc ty B (hkw x c) h hs (by omega);have V:∀{x:Tm} {ty:Ty} {v:Val},HT j sc x ty->aF g x B=.ok v->hasB j sz ty v=true:=λh e=>sound hg _ sc _ B _ h hs e;have z0:iX v0.kids:=⟨.nil,by simp[v0,Val.kids]⟩;have sA:∀{o:Int} {a b:Val},31<=o->iX a.kids->iX b.kids->((35<=o/\o<=36∨39<=o/\o<=40∨50<=o/\o<=54)->mY a.kids)->(35<=o/\o<=38->mY b.kids)->SetsOk o a b:=λh31 h1 h2 h3 h4=>⟨λh=>by omega,λ_=>⟨h1,h2⟩,h3,h4⟩;have bn:∀{o:Int} {x y:Tm} {e t:Ty},cO o=true->ks=[x,y]->HT j sc x (aj e)->HT j (⟨nm,e⟩::sc) y t->dF (vb B.reverse) (λn=>bZ n cs ds sz m B.reverse (.mk o nm k u [x,y])) B.reverse (aF g (.mk o nm k u [x,y]) B):=λhbd hks c f=>by subst hks;refine axO hbd (D _ (by simp) _ c) hbl (λv hv=>(S (V c hv)).1.2) λv hv a i=>?_;exact(ih _ (by simp)).1 (d+1) _ _ _ (hkw _ (by simp)) f (.cons ((S (V c hv)).2 a i) hs) (by simp;omega)
 have K:∀{y:Tm} {t:Ty},y∈ks->HT j sc y (aj t)->∀z∈y.kids,Aa y.op=true->lX cs ds sz m g z B:=λ{y t} hym f z hz hsy=>by
  have hwy:=(hkw y hym);have hi:=λhT=>(ih y hym).2 z hz (d+1+1) sc hT B;cases f with
  |fam q hq hz1 hw1=>
   have hz:z∈[_,_]:=hz;have hwz:=hwy.node.2.2.2 z hz;rcases qAh.1 hz with rfl|hz'
   ·exact hi _ hwz hz1 hs (by omega)
   have hz':=qBa.1 hz';subst hz';exact hi _ hwz hw1 hs (by omega)
  |pow hz1=>have hz:z∈[_]:=hz;have hwz:=hwy.node.2.2.2 z hz;have hz':=qBa.1 hz;subst hz';exact hi _ hwz hz1 hs (by omega)
  |bin q hq=>rcases hq with rfl|rfl|rfl<;>cases hsy
  |dres q hq=>rcases hq with rfl|rfl<;>cases hsy
  |rres q hq=>rcases hq with rfl|rfl<;>cases hsy
  |_=>cases hsy
 cases ht with
 |lit o A=>
  refine kJ ?_;rcases A with rfl|rfl
  ·exact Ev.of λ_=>rfl
  exact Ev.of λ_=>rfl
 |int h=>refine kJ ?_;exact dF.pure (r:=xL k) (KT k) (Er.int k)
 |name hl=>refine kJ ?_;exact dF.pure (ayG hk hs hl) (Er.ok _)
 |empty h=>refine kJ ?_;exact Ev.of λ_=>rfl
 |not c=>exact app1 rfl (D _ (by simp) _ c) λa i=>fQ (by omega) (by omega) (by omega) (by omega) (by omega) (by omega) (by omega)|log o A c f=>
  rename_i x y;rcases A with rfl|rfl|rfl|rfl
  ·exact kJ (dF.same (afe (by omega) (D _ (by simp) _ c) (D _ (by simp) _ f)))
  ·exact kJ (dF.same (afe (by omega) (D _ (by simp) _ c) (D _ (by simp) _ f)))
  ·exact kJ (dF.same (afe (by omega) (D _ (by simp) _ c) (D _ (by simp) _ f)))
  exact DN rfl (D _ (by simp) _ c) (D _ (by simp) _ f) λa b i s=>fQ (by omega) (by omega) (by omega) (by omega) (by omega) (by omega) (by omega)
 |qu o A c f=>
  rename_i x y e;rcases A with rfl|rfl
  ·exact kJ (dF.same (bn rfl rfl c f))
  exact kJ (dF.same (bn rfl rfl c f))
 |compr c f=>exact kJ (dF.same (bn rfl rfl c f))|fn hgt c f=>exact kJ (dF.same (bn rfl rfl c f))|eq o A hgt c f=>
  rcases A with rfl|rfl
  ·exact DN rfl (D _ (by simp) _ c) (D _ (by simp) _ f) λa b i s=>fQ (by omega) (by omega) (by omega) (by omega) (by omega) (by omega) (by omega)
  exact DN rfl (D _ (by simp) _ c) (D _ (by simp) _ f) λa b i s=>fQ (by omega) (by omega) (by omega) (by omega) (by omega) (by omega) (by omega)
 |ord o A c f=>
  have h1:Fj o=true:=by rcases A with rfl|rfl|rfl|rfl<;>rfl
  exact DN h1 (D _ (by simp) _ c) (D _ (by simp) _ f) λa b i s=>fQ (by omega) (by omega) (by omega) (by omega) (by omega) (by omega) (by omega)
 |inn o A c f=>
  rename_i x y t;have h18:(o==18)=false:=by rcases A with rfl|rfl<;>rfl
  exact aqk hg (by omega) hs (by rw[h18];exact c) f (D _ (by simp) _ c) (D _ (by simp) _ f) (K (by simp) f) λv hv=>atQ (V c hv)
 |sub c f=>exact aqk hg (.inr (.inr rfl)) hs c f (D _ (by simp) _ c) (D _ (by simp) _ f) (K (by simp) f) λv hv=>atQ (V c hv)|neg c=>exact app1 rfl (D _ (by simp) _ c) λa i=>fQ (by omega) (λ_=>⟨I (V c i),by constructor<;>simp[v0,Val.n]⟩) (by omega) (by omega) (by omega) (by omega) (by omega)|num o A c f=>
  have h1:Fj o=true:=by rcases A with rfl|rfl|rfl|rfl|rfl<;>rfl
  exact DN h1 (D _ (by simp) _ c) (D _ (by simp) _ f) λa b i s=>fQ (by omega) (λ_=>⟨I (V c i),I (V f s)⟩) (by omega) (by omega) (by omega) (by omega) (by omega)
 |pair h1 h2 c f=>exact DN rfl (D _ (by simp) _ c) (D _ (by simp) _ f) λa b i s=>fQ (by omega) (by omega) (by omega) (by omega) (by omega) (by omega) (by omega)|set hgt hn c=>
  refine kJ ?_;have e:aF g (.mk 28 nm k u ks) B=(eY (ks.map λt=>aF g t B)).thn pG:=by rw[l8];show(eY ((ks.map (uH g)).map λk=>k.f B)).thn pG=_;rw[qBl];rfl
  rw[e];exact ayw (λx hx'=>D x hx' _ (c x hx')) (by omega)
 |range c f=>exact DN rfl (D _ (by simp) _ c) (D _ (by simp) _ f) λa b i s=>fQ (by omega) (by omega) (by omega) (by omega) (by omega) (by omega) λ_=>⟨λ_=>⟨I (V c i),I (V f s)⟩,λh=>absurd rfl h,by omega,by omega⟩|bin o A c f=>
  have h1:Fj o=true:=by rcases A with rfl|rfl|rfl<;>rfl
  exact DN h1 (D _ (by simp) _ c) (D _ (by simp) _ f) λa b i s=>fQ (by omega) (by omega) (by omega) (by omega) (by omega) (by omega) λ_=>sA (by omega) (S (V c i)).1 (S (V f s)).1 (by omega) (by omega)
 |prod c f=>exact DN rfl (D _ (by simp) _ c) (D _ (by simp) _ f) λa b i s=>fQ (by omega) (by omega) (by omega) (by omega) (by omega) (by omega) λ_=>sA (by omega) (S (V c i)).1 (S (V f s)).1 (by omega) (by omega)|over c f=>exact DN rfl (D _ (by simp) _ c) (D _ (by simp) _ f) λa b i s=>fQ (by omega) (by omega) (by omega) (by omega) (by omega) (by omega) λ_=>sA (by omega) (S (V c i)).1 (S (V f s)).1 (λ_=>R (V c i)) (λ_=>R (V f s))|comp c f=>exact DN rfl (D _ (by simp) _ c) (D _ (by simp) _ f) λa b i s=>fQ (by omega) (by omega) (by omega) (by omega) (by omega) (by omega) λ_=>sA (by omega) (S (V c i)).1 (S (V f s)).1 (λ_=>R (V c i)) (λ_=>R (V f s))|dres o A c f=>
  have h1:Fj o=true:=by rcases A with rfl|rfl<;>rfl
  exact DN h1 (D _ (by simp) _ c) (D _ (by simp) _ f) λa b i s=>fQ (by omega) (by omega) (by omega) (by omega) (by omega) (by omega) λ_=>sA (by omega) (S (V c i)).1 (S (V f s)).1 (by omega) (λ_=>R (V f s))
 |rres o A c f=>
  have h1:Fj o=true:=by rcases A with rfl|rfl<;>rfl
  exact DN h1 (D _ (by simp) _ c) (D _ (by simp) _ f) λa b i s=>fQ (by omega) (by omega) (by omega) (by omega) (by omega) (by omega) λ_=>sA (by omega) (S (V c i)).1 (S (V f s)).1 (λ_=>R (V c i)) (by omega)
 |fam o A c f=>
  have h1:Fj o=true:=by rcases A with rfl|rfl|rfl|rfl|rfl<;>rfl
  exact DN h1 (D _ (by simp) _ c) (D _ (by simp) _ f) λa b i s=>fQ (by omega) (by omega) (by omega) (by omega) (by omega) (by omega) λ_=>sA (by omega) (S (V c i)).1 (S (V f s)).1 (by omega) (by omega)
 |pow c=>exact app1 rfl (D _ (by simp) _ c) λa i=>fQ (by omega) (by omega) (by omega) (by omega) (by omega) (by omega) λ_=>sA (by omega) (S (V c i)).1 z0 (by omega) (by omega)|card c=>exact app1 rfl (D _ (by simp) _ c) λa i=>fQ (by omega) (by omega) (λ_=>(S (V c i)).1) (by omega) (by omega) (by omega) (by omega)|ext o A c=>
  have h1:Fj o=true:=by rcases A with rfl|rfl<;>rfl
  exact app1 h1 (D _ (by simp) _ c) λa i=>fQ (by omega) (by omega) (λ_=>(S (V c i)).1) (by omega) (by omega) (by omega) (by omega)
 |dom c=>exact app1 rfl (D _ (by simp) _ c) λa i=>fQ (by omega) (by omega) (by omega) (by omega) (by omega) (by omega) λ_=>sA (by omega) (S (V c i)).1 z0 (λ_=>R (V c i)) (by omega)|ran c=>exact app1 rfl (D _ (by simp) _ c) λa i=>fQ (by omega) (by omega) (by omega) (by omega) (by omega) (by omega) λ_=>sA (by omega) (S (V c i)).1 z0 (λ_=>R (V c i)) (by omega)|inv c=>exact app1 rfl (D _ (by simp) _ c) λa i=>fQ (by omega) (by omega) (by omega) (by omega) (by omega) (by omega) λ_=>sA (by omega) (S (V c i)).1 z0 (λ_=>R (V c i)) (by omega)|image c f=>exact DN rfl (D _ (by simp) _ c) (D _ (by simp) _ f) λa b i s=>fQ (by omega) (by omega) (by omega) (by omega) (by omega) (by omega) λ_=>sA (by omega) (S (V c i)).1 (S (V f s)).1 (λ_=>R (V c i)) (by omega)|app c f=>exact DN rfl (D _ (by simp) _ c) (D _ (by simp) _ f) λa b i s=>fQ (by omega) (by omega) (λ_=>(S (V c i)).1) (λ_=>R (V c i)) (by omega) (by omega) (by omega)
end
section
open Go
def CP env:=fB (vI env) []
def zn(e:Env):=fB (e.carriers.map λc=>(c.name,true)) []
theorem arE{e}(h:aW e=true) s:dO (CP e) s=look e s:=by
 unfold CP;rw[Oo _ _ _ (BP h),KJ];unfold look;rw[<-ahC (aiB e) (BP h)]
 grind
theorem asb{e}(h:aW e=true) s:dO (zn e) s=cond (dx e s) (some true) none:=by
 unfold zn;have n:((e.carriers.map λc=>(c.name,true)).map (·.1)).Nodup:=by
  have:=(iG h).2.2.2.2;unfold names2 at this
  grind
 rw[Oo _ _ _ n,KJ,R3 (λc:Carrier=>c.name) (λ_=>true)];unfold dx;cases f:e.carriers.find? (λc=>c.name==s)with|none=>grind|some c=>grind
theorem anQ{v}(h:aW v=true):Ev (λn=>Du n v) (CP v,zn v):=by
 obtain⟨d,_⟩:=iG h;refine Ev.bind (aAC h) ?_;have b:=qO (ρ:=(List (Str×Ty))×(List (Str×Bool))) v.carriers (λn k i s=>Hy n v k (i,s)) (λn x s=>wY s x.name true) (λx s=>ko s x.name true) (λs=>s) (λsuf s=>s.length+suf.length<=1000)
  (λn k i s=>rfl)
  (λx suf s l f=>by
   simp at f;refine⟨?_,?_⟩;·rw[J3 (by omega)];exact Ev.ret _
   have:=BR s x.name true;omega) (s0:=[]) (by simp;omega)
 have g:∀(a:List Carrier) (m:List (Str×Bool)),a.foldl (λs x=>ko s x.name true) m=fB (a.map λc=>(c.name,true)) m:=by
  intro a
  induction a with|nil=>intro m;rfl|cons e o j=>intro m;rw[qBg,j];rfl
 rw[g]at b;exact Ev.bind b (Ev.ret _)
theorem az2{e}(h:aW e=true){t}(b:dI t=true) M path:Ev (λn=>rX n M (zn e) path t) (knows e t):=by
 refine Ev.bind (BN b) ?_;generalize c:((fB ((dK t).map λs=>(s,true)) []).map (·.1)).mergeSort leS=l;have m:∀s,s∈l↔s∈dK t:=λs=>by rw[<-c];exact Oy t s
 have f:=tC l (λn k i=>wD n l M (zn e) path k i) (λn x=>oZ n x M (zn e) path) (λs=>!(dx e s)) (λn k i=>rfl) (λx _=>by
  unfold oZ;rw[asb h];cases dx e x;·exact Ev.ret _
  exact Ev.ret _)
 refine Ev.bind (a:=l.any λs=>!(dx e s)) (Ev.bind f ?_) ?_;·rw[qE _ _ _ (qBJ _)];exact Ev.ret _
 rw[qd,qCq];have:l.all (dx e)=(dK t).all (dx e):=by grind
 rw[this];exact Ev.ret _
theorem ad8 n op:zK n op=some (cO op):=by
 unfold zK cO
 grind
theorem aiM t:Ev (λn=>sK n t) (cond (dI t) (t,0) (aR,5)):=by
 refine Ev.bind (rD t) ?_;cases dI t;·exact Ev.ret _
 exact Ev.ret _
def scP(o:Option Decl):=match o with|some d=>(d.ty,true)|none=>(aR,false)
theorem agG c s:Ev (λn=>tZ n c s) (scP (c.find? λd=>d.name==s)):=by
 have e:∀(c:List Decl) (n k:Nat),c.length+1<=k->oV n s k c=some (match c.find? (λd=>d.name==s)with|some d=>.rt (d.ty,true)|none=>.nx ()):=by
  intro c
  induction c with
  |nil=>
   intro n k h;cases k with
   |zero=>simp at h|succ k=>rfl
  |cons d c i=>
   intro n k h;cases k with|zero=>simp at h|succ k=>
    show cond (d.name==s) (some (.rt (d.ty,true))) (oV n s k c)=_
    grind
 have a:Ev (λn=>oV n s n c) (match c.find? (λd=>d.name==s)with|some d=>.rt (d.ty,true)|none=>.nx ()):=⟨c.length+1,λn b=>e c n n b⟩;refine Ev.bind a ?_;cases c.find? λd=>d.name==s
 ·exact Ev.ret _
 exact Ev.ret _
def R9 path(r:TR):=match r with| .ok t=>(t,0,path)| .er e p=>(aR,e,path++p)
abbrev CS:=List Decl×List Ty×List Int
def aG0(e:Env)(n:Nat)(t:Tm)(i:Int)(s:CS):Option (LR CS (Ty×Int×List Int)):=(jk n (CP e) (zn e) s.2.2 t i s.1).bind λ(x:Ty×Int×(List Int))=>cond (x.2.1 !=0) (some (.rt ((Ty.mk 0 ([]:Str) ([])),x.2.1,x.2.2))) ((app 48 s.2.1 ([x.1])).bind λ(a:List Ty)=>(((cond (i==0) ((zK n t.op).bind λ(c:Bool)=>some c) (some false)):Option Bool).bind λ(d:Bool)=>(cond d ((bQ n x.1).bind λ(b:Ty×Bool)=>(cond (!b.2) (some (.rt ((Ty.mk 0 ([]:Str) ([])),7,x.2.2))) (some (.nx (((Decl.mk t.name b.1)::s.1),a,x.2.2))))) (some (.nx (s.1,a,x.2.2))))))
def stC(n:Env)(op:Int)(nm:Str)(i:Int)(x:Tm)(s:CS):LR CS (Ty×Int×List Int):=match dN n s.1 x with| .er e p=>.rt (aR,e,s.2.2++i::p)| .ok t=>match oU (i==0&&cO op) nm t s.1 with|none=>.rt (aR,7,s.2.2)|some c=>.nx (c,s.2.1++[t],s.2.2)
theorem aut env op nm:∀d i b a path,0<=i->match dA env b (i==0&&cO op) nm i d with| .er e p=>jZ (stC env op nm) (λs=>s) i d (b,a,path)=.rt (aR,e,path++p)| .ok l=>∃c,jZ (stC env op nm) (λs=>s) i d (b,a,path)=.nx (c,a++l,path)
 |[],i,b,a,path,_=>by simp only[dA,jZ,qAt];exact⟨b,rfl⟩|t::d,i,b,a,path,j=>by
  simp only[dA,jZ,stC];cases k:dN env b t with|er e p=>rfl|ok y=>
   simp only;cases m:oU (i==0&&cO op) nm y b with|none=>simp|some c=>
    simp only;have z:(i+1==0)=false:=by simp only[beq_eq_false_iff_ne];omega
    have:=aut env op nm d (i+1) c (a++[y]) path (by omega);rw[z,qBn]at this;cases h:dA env c false nm (i+1) d with|er e p=>rw[h]at this;exact this|ok l=>rw[h]at this;obtain⟨f,g⟩:=this;exact⟨f,by rw[g];simp⟩
def ayA env t:=∀d s p,Wf d t->GoodS s->p.length<d->Ev (λn=>kV n (CP env) (zn env) p t s) (R9 p (dN env s t))
theorem ay7 path (i:Int)(h:path.length<=1000):((Dw (path++[i]).length (((path++[i]).length:Int) - 1)).bind λc=>bif Nat.ble c (path++[i]).length then some (List.take c (path++[i]))else none)=some path:=by
 have e:((path++[i]).length:Int) - 1=(path.length:Int):=by simp
 have a:Nat.ble path.length (path++[i]).length=true:=qCN (by simp);rw[e,Dw,if_pos ⟨by omega,by simp;omega⟩]
 grind
theorem aAa{v}{t x}{i}(h:idx t.kids i=some x)(c:ayA v x){d}{s}{path}(w:Wf (d+1) x)(hs:GoodS s)(g:(path.length:Int)<d)(j:d<=64):
  Ev (λn=>jk n (CP v) (zn v) path t i s) (match dN v s x with| .ok y=>(y,0,path)| .er e p=>(aR,e,path++i::p)):=by
 refine Ev.succ ?_;show Ev (λn=>rY n _ _ (CP v) (zn v) path t i s) _;unfold rY;rw[rA (by simp;omega) (by omega),h];simp;refine Ev.bind (c (d+1) s (path++[i]) w hs (by simp;omega)) ?_;cases a:dN v s x with|ok y=>simp only[R9];rw[ay7 path i (by omega)];exact Ev.ret _|er e p=>
  have b:=IQ x s e p a;have f:(e==0)=false:=by simpa using b
  simp only[R9,f,qAm];exact Ev.ret _
theorem aBn n (r1:(List (Str×Ty))->(List (Str×Bool))->(List Int)->Tm->(List Decl)->Option (Ty×Int×(List Int)))(c:(List (Str×Ty))->(List (Str×Bool))->(List Int)->Tm->Int->(List Decl)->Option (Ty×Int×(List Int))) p0 p1 p2 p3 p4:
  vN n r1 c p0 p1 p2 p3 p4=(yU n r1 c p0 p1 p3 n (p4,([]),0,p2)).bind (LR.el (λ(s:(List Decl)×(List Ty)×(List Int))=>(cond (p3.op==20) ((tZ n s.1 p3.name).bind λ(d:Ty×Bool)=>(cond d.2 (some (d.1,0,s.2.2)) (((mel (dO p0 p3.name) (some (false,0,([]:Str),([]:List Ty))) (λ(x:Ty)=>some (true,x.kind,x.name,x.kids))):Option (Bool×Int×Str×(List Ty))).bind λ(a:Bool×Int×Str×(List Ty))=>(cond (!a.1) (some ((Ty.mk 0 ([]:Str) ([])),6,s.2.2)) (some ((Ty.mk a.2.1 a.2.2.1 a.2.2.2),0,s.2.2)))))) (cond (p3.op==29) ((rX n p0 p1 s.2.2 p3.ty).bind λ(g:Bool)=>(cond (!g) (some ((Ty.mk 0 ([]:Str) ([])),6,s.2.2)) ((sK n (Ty.mk 5 ([]:Str) ([p3.ty]))).bind λ(e:Ty×Int)=>some (e.1,e.2,s.2.2)))) ((ay9 n p3.op s.2.1).bind λ(b:Bool×Int×Str×(List Ty))=>(cond (!b.1) (some ((Ty.mk 0 ([]:Str) ([])),7,s.2.2)) ((sK n (Ty.mk b.2.1 b.2.2.1 b.2.2.2)).bind λ(f:Ty×Int)=>some (f.1,f.2,s.2.2))))))) λr=>some r):=rfl
theorem aEq{v}(G:aW v=true):∀t:Tm,ayA v t:=Tm.ind λop q m B w Z d C j hw W hp=>by
 obtain⟨D,hd,hks,P⟩:=hw.node;obtain⟨H,I,J,K,Q⟩:=abv D;refine Ev.succ ?_;show Ev (λn=>vN n (kV n) (jk n) (CP v) (zn v) j (.mk op q m B w) C) _;simp only[aBn];have h:=aCc w (λn k i (s:CS)=>yU n (kV n) (jk n) (CP v) (zn v) (.mk op q m B w) k (s.1,s.2.1,i,s.2.2))
  (λn i _ s=>aG0 v n (.mk op q m B w) i s) (stC v op q) (λs=>s) (λ_ L s=>GoodS s.1/\s.2.1.length+L.length<=2000/\s.2.2=j)
  (λn k s=>by show cond (decide ((w.length:Int)<(w.length:Int))) _ _=_;rw[decide_eq_false (by omega)];rfl)
  (λn k i x s R hi=>by show cond (decide (i<(w.length:Int))) _ _=_;rw[hi];rfl)
  (λi x L s R hI M=>by
   obtain⟨O,h2,X⟩:=hI;simp only[qAo]at h2;have S:=aAa (t:=.mk op q m B w) (i:=i) M (Z x R) (P x R) O (path:=s.2.2) (by rw[X];exact hp) hd;refine⟨?_,λs' g=>?_⟩;·refine Ev.bind S ?_;unfold stC;cases F:dN v s.1 x with
    |er e p=>
     have he:=IQ x s.1 e p F;have e0:(e !=0)=true:=by simpa using he
     simp only[e0,cond_true];exact Ev.ret _
    |ok u=>
     have N:=qU G O F;simp only[show((0:Int)!=0)=false from rfl,cond_false];rw[rA (by simp;omega) (by omega)];simp only[qAa,ad8,Tm.op,Tm.name];refine Ev.bind (a:=(i==0&&cO op)) ?_ ?_
     ·cases i==0
      ·exact Ev.ret _
      exact Ev.ret _
     unfold oU;cases(i==0&&cO op)with|false=>exact Ev.ret _|true=>
      simp only[cond_true,iA _ N,qAa];cases aN u with|none=>exact Ev.ret _|some e=>exact Ev.ret _
   unfold stC at g;cases F:dN v s.1 x with|er e p=>rw[F]at g;cases g|ok u=>
    rw[F]at g;simp only at g;cases hb:oU (i==0&&cO op) q u s.1 with|none=>rw[hb]at g;cases g|some T=>rw[hb]at g;cases g;refine⟨MZ (qU G O F) O hb,?_,X⟩;simp only[qAf,qAL];omega) (s0:=(C,[],j)) ⟨W,by simp;omega,rfl⟩
 have f:=aut v op q w 0 C [] j (qBJ _);simp only[show((0:Int)==0)=true from rfl,qAw,qAs]at f;simp only[dN];cases z:(op==20)with
 |true=>
  have e:op=20:=by simpa using z
  have E:=I e;subst E;refine Ev.bind h ?_;simp only[jZ,LR.el,Tm.op,Tm.name,z,cond_true];refine Ev.bind (agG C q) ?_;unfold rT;cases C.find? (λd=>d.name==q)with
  |some d=>exact Ev.ret _|none=>
   simp only[scP,cond_false,cond_true,Tm.name,arE G];cases hl:look v q with
   |none=>simp only[R9,qAt];exact Ev.ret _|some t=>obtain⟨a,b,c⟩:=t;exact Ev.ret _
 |false=>
  simp only[cond_false];cases A:(op==29)with
  |true=>
   have e:op=29:=by simpa using A
   obtain⟨E,U,_⟩:=J e;subst E;refine Ev.bind h ?_;simp only[Tm.op,z,A,cond_false,cond_true,Tm.ty];refine Ev.bind (az2 G U _ _) ?_;cases knows v B with|false=>simp only[qBd,qBE,cond_true,R9,qAt];exact Ev.ret _|true=>
    simp only[qAr,qBO,cond_false,dA,Ai];refine Ev.bind (aiM (aj B)) ?_;cases dI (aj B)with|false=>simp only[cond_false,R9,qAt];exact Ev.ret _|true=>exact Ev.ret _
  |false=>
   simp only[qBn,cond_false];cases E:dA v C (cO op) q 0 w with
   |er e p=>rw[E]at f;simp only at f;rw[f]at h;exact Ev.bind h (Ev.ret _)
   |ok l=>
    rw[E]at f;obtain⟨T,f⟩:=f;rw[f]at h;refine Ev.bind h ?_;simp only[LR.el,Tm.op,z,A,cond_false];obtain⟨k1,k2,k3⟩:=akr G w C (cO op) q 0 l W E;obtain⟨r,V,o⟩:=axT H.1 H.2 (by simpa using z) (by simpa using A) k2 (K l k1) (λhb=>k3 hb (by obtain⟨x,y,e⟩:=Q hb;rw[e];simp));refine Ev.bind V ?_;cases Y:gH op l with
    |none=>rw[Y]at o;simp only at o;simp only[o,qBd,cond_true,Ai,R9,qAt];exact Ev.ret _
    |some t=>
     rw[Y]at o;simp only at o;subst o;simp only[qAr,cond_false,mJ,Ai];refine Ev.bind (aiM t) ?_;cases dI t with|false=>simp only[cond_false,R9,qAt];exact Ev.ret _|true=>exact Ev.ret _
end
section
open Go
theorem avN env c s (a:(c.length:Int)<=100):Ev (λn=>Gi n env c.reverse s) (match rT env c s with|some t=>(t,true)|none=>(aR,false)):=by
 have y:∀(c p:List Decl) (n k:Nat),c.length+1<=k->(c.length:Int)<=100->zF n (c.reverse++p) s k ((c.length:Int) - 1)=some (match c.find? (λd=>d.name==s)with|some d=>.rt (d.ty,true)|none=>.nx ()):=by
  intro c
  induction c with
  |nil=>
   intro p n k h _;cases k with
   |zero=>simp at h|succ k=>rfl
  |cons d c i=>
   intro p n k h l;cases k with|zero=>simp at h|succ k=>
    have e:(((d::c).length:Int) - 1)=(c.reverse.length:Int):=by simp
    have b:(d::c).reverse++p=c.reverse++d::p:=by simp
    rw[e,b];show JX n (c.reverse++d::p) s (zF n (c.reverse++d::p) s k) (c.reverse.length:Int)=_;unfold JX;rw[decide_eq_true (by omega),gV];simp only[cond_true,qAa,qCj];cases j:d.name==s with|true=>rfl|false=>simp only[cond_false];have:=i (d::p) n k (by simp at h;omega) (by simp at l;omega);rw[qDa,wrap64 (by omega) (by simp at l;omega)];exact this
 unfold Gi;have f:Ev (λn=>zF n c.reverse s n ((c.reverse.length:Int) - 1)) (match c.find? (λd=>d.name==s)with|some d=>.rt (d.ty,true)|none=>.nx ()):=⟨c.length+1,λn g=>by have:=y c [] n n g a;rw[qAt]at this;rw[qDa];exact this⟩
 refine Ev.bind f ?_;unfold rT;cases c.find? (λd=>d.name==s)with|some d=>exact Ev.ret _|none=>exact U7 env s
def aem(r:TR):=match r with| .ok t=>(t,[],0)| .er e p=>(aR,p,e)
def aHg env t:=∀d s,Wf d t->GoodS s->s.length<d->Ev (λn=>AZ n env s.reverse t) (aem (dN env s t))
def scR(op)nm(sc)(i:Int)(l:List Ty):=oU (cO op&&i==1) nm (l.headD aR) sc
def stR(n:Env)(op:Int)(nm:Str)(c:List Decl)(i:Int)(x:Tm)(l:List Ty):LR (List Ty) (Ty×List Int×Int):=match scR op nm c i l with|none=>.rt (aR,[],7)|some s=>match dN n s x with| .er e p=>.rt (aR,i::p,e)| .ok t=>.nx (l++[t])
def akh(a:List Ty)(r:KR):LR (List Ty) (Ty×List Int×Int):=match r with| .ok l=>.nx (a++l)| .er e p=>.rt (aR,p,e)
theorem aoQ env op (h:cO op=false) nm sc:∀b i a,jZ (stR env op nm sc) (λs=>s) i b a=akh a (dA env sc false nm i b)
 |[],i,a=>by simp[jZ,dA,akh]|t::b,i,a=>by
  simp only[jZ,stR,scR,h,qBn,dA];simp only[oU,cond_false];cases dN env sc t with
  |er e p=>rfl|ok y=>
   simp only;rw[aoQ env op h nm sc b (i+1) (a++[y])];cases dA env sc false nm (i+1) b with|er e p=>rfl|ok l=>simp[akh]
theorem azZ env op (h:cO op=true) nm sc x y:jZ (stR env op nm sc) (λs=>s) 0 [x,y] []=akh [] (dA env sc true nm 0 [x,y]):=by
 simp only[jZ,stR,scR,h,qAw,dA];simp only[show((0:Int)==1)=false from rfl,show((0:Int)+1==1)=true from rfl];simp only[oU,cond_false,cond_true];cases dN env sc x with|er e p=>rfl|ok t=>
  simp only[qAs,List.headD_cons];cases(aN t).map λe=>(⟨nm,e⟩::sc:List Decl)with|none=>rfl|some c=>
   simp only;cases dN env c y with|er e p=>rfl|ok u=>rfl
theorem aGv{v}(hv:aW v=true):∀t:Tm,aHg v t:=Tm.ind λop g m z q ih d f hw L hp=>by
 obtain⟨B,hd,hks,M⟩:=hw.node;obtain⟨N,h20k,O,P,X⟩:=abv B;refine Ev.succ ?_;show Ev (λn=>JY n (AZ n) v f.reverse (.mk op g m z q)) _;unfold JY;simp only[Tm.op,Tm.name,Tm.ty,dN];cases Y:(op==20)with
 |true=>
  simp only[cond_true];refine Ev.bind (avN v f g (by omega)) ?_;cases rT v f g with|none=>exact Ev.ret _|some t=>exact Ev.ret _
 |false=>
  simp only[cond_false];refine Ev.bind (a:=(op==29&&!(knows v z))) ?_ ?_;·cases A:(op==29)with
   |true=>obtain⟨_,Z,_⟩:=O (by simpa using A);exact Ev.bind (ae9 v Z) (Ev.ret _)
   |false=>exact Ev.ret _
  cases(op==29&&!(knows v z))with|true=>exact Ev.ret _|false=>
   simp only[cond_false];have w:=aCc q (λn k i (s:List Ty)=>aaC n (AZ n) v f.reverse (.mk op g m z q) k (s,i))
    (λn i x s=>(((((yu n op).bind λ(C:Bool)=>(cond C (some (i==1)) (some false))):Option Bool).bind λ(s5:Bool)=>(cond s5 ((idx s 0).bind λ(x8:Ty)=>((fF n x8).bind λ(x9:Bool)=>(cond (!x9) (some (.rt ((Ty.mk 0 ([]:Str) ([])),([]:List Int),7))) ((app 64 ([]:List Decl) f.reverse).bind λ(D:List Decl)=>((idx s 0).bind λ(E:Ty)=>((idx E.kids 0).bind λ(F:Ty)=>((app 64 D ([(Decl.mk g F)])).bind λ(G:List Decl)=>some (.nx G)))))))) (some (.nx f.reverse)))):Option (LR (List Decl) (Ty×(List Int)×Int))).bind (LR.el (λ(s4:List Decl)=>((AZ n v s4 x).bind λ(H:Ty×(List Int)×Int)=>(cond (H.2.2 !=0) ((app 8 ([i]) H.2.1).bind λ(x6:List Int)=>some (.rt ((Ty.mk 0 ([]:Str) ([])),x6,H.2.2))) ((app 48 s ([H.1])).bind λ(x7:List Ty)=>some (.nx x7))))) (λr=>some (.rt r))))
    (stR v op g f) (λs=>s) (λi Q s=>(∀t∈s,Top t)/\s.length+Q.length<=2000/\(s.length:Int)=i)
    (λn k s=>by show cond (decide ((q.length:Int)<(q.length:Int))) _ _=_;rw[decide_eq_false (by omega)];rfl)
    (λn k i x s R hi=>by
     show cond (decide (i<(q.length:Int))) _ _=_;rw[hi];simp only[cond_true,Tm.op,Tm.name,Tm.kids,R,qAa]
     conv=>rhs;rw[qAZ]
     congr 1;funext r;cases r with
     |rt r=>rfl|nx s4=>
      simp only[LR.el]
      conv=>rhs;rw[qAZ]
      congr 1;funext H;cases H.2.2 !=0 with
      |true=>simp only[cond_true,qAZ];rfl
      |false=>simp only[cond_false,qAZ];rfl)
    (λi x Q s R hI hidx=>by
     obtain⟨V,h2,I⟩:=hI;simp only[qAo]at h2;refine⟨?_,λs' j=>?_⟩
     ·have hsc:Ev (λn=>((((yu n op).bind λ(C:Bool)=>(cond C (some (i==1)) (some false))):Option Bool).bind λ(s5:Bool)=>(cond s5 ((idx s 0).bind λ(x8:Ty)=>((fF n x8).bind λ(x9:Bool)=>(cond (!x9) (some (.rt ((Ty.mk 0 ([]:Str) ([])),([]:List Int),7))) ((app 64 ([]:List Decl) f.reverse).bind λ(D:List Decl)=>((idx s 0).bind λ(E:Ty)=>((idx E.kids 0).bind λ(F:Ty)=>((app 64 D ([(Decl.mk g F)])).bind λ(G:List Decl)=>some (.nx G)))))))) (some (.nx f.reverse)))))
        ((match scR op g f i s with|none=>.rt (aR,[],7)|some c=>.nx c.reverse:LR (List Decl) (Ty×(List Int)×Int))):=by
       simp only[abq,qAa];refine Ev.bind (a:=cO op&&i==1) ?_ ?_
       ·cases cO op
        ·exact Ev.ret _
        exact Ev.ret _
       unfold scR oU;cases hbi:(cO op&&i==1)with|false=>exact Ev.ret _|true=>
        simp only[qAb,beq_iff_eq]at hbi;obtain⟨a,l,rfl⟩:=Jv s (by rintro rfl;rw[hbi.2]at I;simp at I);have ha:=V a (by simp);simp only[cond_true,gK,qAa,qK _ ha,List.headD_cons];cases J:aN a with|none=>exact Ev.ret _|some e=>obtain⟨_,rfl⟩:=eO ha J;have hr:f.reverse.length=f.length:=qDa;simp only[qBj,qAr,cond_false];rw[rA (by simp;omega) (by omega)];simp only[qAa,qAs];show Ev (λn=>(app 64 f.reverse [Decl.mk g e]).bind _) _;rw[rA (by simp;omega) (by omega)];simp only[qAa,qAx,qDr];exact Ev.ret _
      refine Ev.bind hsc ?_;unfold stR;cases b:scR op g f i s with|none=>exact Ev.ret _|some c=>
       simp only[LR.el];have W:GoodS c/\(c.length:Int)<d+1:=by
        unfold scR at b;have S:cO op&&i==1->Top (s.headD aR):=λhbi=>by simp only[qAb,beq_iff_eq]at hbi;obtain⟨a,l,rfl⟩:=Jv s (by rintro rfl;rw[hbi.2]at I;simp at I);exact V a (by simp)
        cases hbi:(cO op&&i==1)with
        |false=>rw[hbi]at b;cases b;exact⟨L,by omega⟩|true=>
         rw[hbi]at b;refine⟨MZ (S hbi) L b,?_⟩;unfold oU at b;simp only[cond_true]at b;cases J:aN (s.headD aR)with
         |none=>rw[J]at b;cases b|some e=>rw[J]at b;cases b;simp;omega
       refine Ev.bind (ih x R (d+1) c (M x R) W.1 W.2) ?_;cases K:dN v c x with
       |er e p=>
        have J:=IQ x c e p K;have e0:(e !=0)=true:=by simpa using J
        have hpl:=ZV (M x R) c e p K;simp only[aem,e0,cond_true];rw[rA (by simp;omega) (by omega)];exact Ev.ret _
       |ok u=>simp only[aem,show((0:Int)!=0)=false from rfl,cond_false];rw[rA (by simp;omega) (by omega)];exact Ev.ret _
     unfold stR at j;cases b:scR op g f i s with
     |none=>rw[b]at j;cases j|some c=>
      rw[b]at j;simp only at j;have W:GoodS c:=by
       unfold scR at b;cases hbi:(cO op&&i==1)with
       |false=>rw[hbi]at b;cases b;exact L|true=>rw[hbi]at b;simp only[qAb,beq_iff_eq]at hbi;obtain⟨a,l,rfl⟩:=Jv s (by rintro rfl;rw[hbi.2]at I;simp at I);exact MZ (V a (by simp)) L b
      cases K:dN v c x with
      |er e p=>rw[K]at j;cases j
      |ok u=>
       rw[K]at j;cases j;refine⟨λt h=>?_,?_,?_⟩
       ·rcases qAn.1 h with h|h
        ·exact V t h
        rw[qBa.1 h];exact qU hv W K
       ·simp only[qAf,qAL];omega
       simp only[qAf,qAL,qCW,qCX];omega) (s0:=[]) ⟨λt h=>(by cases h),by simp;omega,rfl⟩
   have T:jZ (stR v op g f) (λs=>s) 0 q []=akh [] (dA v f (cO op) g 0 q):=by
    cases hb:cO op with
    |false=>exact aoQ v op hb g f q 0 []
    |true=>
     obtain⟨x,y,rfl⟩:=X hb;exact azZ v op hb g f x y
   rw[T]at w;refine Ev.bind w ?_;cases hk:dA v f (cO op) g 0 q with
   |er e p=>exact Ev.ret _
   |ok l=>
    simp only[akh,LR.el,qAs];obtain⟨k1,k2,k3⟩:=akr hv q f (cO op) g 0 l L hk;have U:Row (λn=>fP n (.mk op g m z q) l) (cond (op==29) (some (aj z)) (gH op l)):=by
     cases A:(op==29)with
     |true=>
      have e:op=29:=by simpa using A
      subst e;exact Row.yes (aj z) (Ev.ret _) rfl
     |false=>exact axq N.1 N.2 (by simpa using Y) (by simpa using A) k2 (P l k1) g m z q
    obtain⟨r,hr1,o⟩:=U;refine Ev.bind hr1 ?_;unfold aB0 at o;cases ho:(cond (op==29) (some (aj z)) (gH op l))with
    |none=>
     rw[ho]at o;simp only at o;simp only[o,qBd,cond_true,Ai];exact Ev.ret _
    |some t=>
     rw[ho]at o;simp only at o;subst o;simp only[qAr,cond_false,Ai];refine Ev.bind (AJ t) ?_;cases dI t with
     |false=>exact Ev.ret _
     |true=>exact Ev.ret _
end
section
open Go
def gq env t:=cond (aW env&&dH t) (aem (dN env [] t)) (aR,[],1)
theorem Bb:GoodS []:=λ_ h=>by cases h
abbrev G6(e:Env):=∀d∈e.names,d.name.length<=9223372036854775807
theorem Qe env t (hs:G6 env)(b:mh t):Ev (λn=>zI n env t) (gq env t):=by
 unfold zI gq;refine Ev.bind (a:=!(aW env&&dH t)) ?_ ?_;·refine Ev.bind (Bl env hs) ?_;cases aW env with|false=>exact Ev.ret _|true=>exact Ev.bind (Mh t b) (Ev.ret _)
 cases h:(aW env&&dH t)with|false=>exact Ev.ret _|true=>
  simp only[qAb]at h;simp only[qAr,cond_false,cond_true];refine Ev.bind (anQ h.1) ?_;refine Ev.bind (aEq h.1 t 1 [] [] (Br h.2) Bb (by simp)) ?_;cases r:dN env [] t with
  |er e p=>
   have c:=IQ t [] e p r;have d:(e !=0)=true:=by simpa using c
   have f:=ZV (Br h.2) [] e p r;simp only[R9,aem,d,cond_true,slices_Clone_int,qAs];rw[rA (by simp;omega) (by omega)];exact Ev.ret _
  |ok u=>simp only[R9,aem,show((0:Int)!=0)=false from rfl,cond_false];exact Ev.bind (asa u (ayW (qU h.1 Bb r))) (Ev.ret _)
theorem ZQ env t:Ev (λn=>Bc n env t) (gq env t):=by
 unfold Bc gq;refine Ev.bind (a:=!(aW env&&dH t)) ?_ ?_;·refine Ev.bind (IU env) ?_;cases aW env with|false=>exact Ev.ret _|true=>exact Ev.bind (J5 t) (Ev.ret _)
 cases h:(aW env&&dH t)with|false=>exact Ev.ret _|true=>
  simp only[qAb]at h;simp only[qAr,cond_false,cond_true];refine Ev.bind (aGv h.1 t 1 [] (Br h.2) Bb (by simp)) ?_;cases r:dN env [] t with|er e p=>exact Ev.bind (adY aR rfl) (Ev.ret _)|ok u=>exact Ev.bind (adY u (ayW (qU h.1 Bb r))) (Ev.ret _)
end
section
open Go
theorem Kh(n:Nat)(qbu:Env→(List Int)→Val→Ty→Option Bool)(p0:Env)(p1:List Int)(p2:Val)(p3:Ty)(k:Nat)(s:Int):Bt n qbu p0 p1 p2 p3 (k+1) s=Co n qbu p0 p1 p2 p3 (Bt n qbu p0 p1 p2 p3 k) s:=rfl
def aoT(f:Val→Bool):Val→List Val→Bool
 |_,[]=>true
 |x,y::s=>f y&&(!(decide (0≤bK x y))&&aoT f y s)
theorem aui(f:Val→Bool):∀(s:List Val) (x:Val),aoT f x s=(s.all f&&DR (x::s))
 |[],_=>rfl
 |y::s,x=>by
  simp only[aoT,qBK,DR];rw[aui f s y];cases f y<;>cases decide (0≤bK x y)<;>cases s.all f<;>cases DR (y::s)<;>rfl
theorem aAE(env:Env)(sz:List Int)(ty t:Ty)(v:Val)(pre:List Val)(x y:Val)(suf:List Val)(hk:v.kids=pre++[x]++y::suf)(ht:ty.kids=[t])(hvl:v.kids.length≤9223372036854775807)(hx:lI x)(H:Ev (fun n=>vw n env sz y t) (hasB env sz t y)):Ev (fun n=>(((idx v.kids ((pre++[x]).length:Int)).bind fun(x9:Val)=>((idx ty.kids 0).bind fun(x10:Ty)=>((vw n env sz x9 x10).bind fun(x11:Bool)=>(cond (!x11) (some true) (cond (decide (0<((pre++[x]).length:Int))) ((idx v.kids (IntKind.wrap .i64 (((pre++[x]).length:Int) - 1))).bind fun(x12:Val)=>((idx v.kids ((pre++[x]).length:Int)).bind fun(x13:Val)=>((lT n x12 x13).bind fun(x14:Int)=>some (decide (0≤x14))))) (some false)))))):Option Bool)) (!(hasB env sz t y&&!(decide (0≤bK x y)))):=by
 have ew:IntKind.wrap .i64 (((pre++[x]).length:Int) - 1)=(pre.length:Int):=by
  have hl:pre.length≤v.kids.length:=by rw[hk];simp<;>omega
  rw[qAf,qAL,show(((pre.length+1:Nat):Int) - 1)=(pre.length:Int) by omega,wrap64 (by omega) (by omega)]
 have i1:idx v.kids (pre.length:Int)=some x:=by rw[hk,qAm,qCK];exact gV _ _ _
 have i2:idx v.kids ((pre++[x]).length:Int)=some y:=by rw[hk];exact gV _ _ _
 rw[ew,i1,i2,ht,decide_eq_true (show 0<(((pre++[x]).length:Nat):Int) by rw[qAf,qAL];omega)];simp only[qAa,cond_true,show idx [t] 0=some t from rfl];refine Ev.bind H ?_;cases hasB env sz t y with
 |false=>exact Ev.ret _
 |true=>
  simp only[qAr,cond_false,qAw,qCq];exact Ev.bind (adr x y hx) (Ev.ret _)
theorem alN(env:Env)(sz:List Int)(ty t:Ty)(v:Val)(hvl:v.kids.length≤9223372036854775807)(ht:ty.kids=[t])(H:∀u,lI u→Ev (fun n=>vw n env sz u t) (hasB env sz t u))(hv:∀u∈v.kids,lI u):∀(suf pre:List Val) (x:Val),v.kids=pre++[x]++suf→∃N,∀n,N≤n→∀k,suf.length+1≤k→Bt n (vw n) env sz v ty k ((pre++[x]).length:Int)=some (cond (aoT (hasB env sz t) x suf) (.nx ()) (.rt false))
 |[],pre,x,e=>by
  refine⟨0,fun n _ k hk=>?_⟩;obtain⟨j,rfl⟩:∃j,k=j+1:=⟨k - 1,by simp at hk;omega⟩;rw[Kh];unfold Co;rw[decide_eq_false (by rw[e];simp)];rfl
 |y::suf,pre,x,e=>by
  obtain⟨N1,h1⟩:=aAE env sz ty t v pre x y suf e ht hvl (hv x (by rw[e];simp)) (H y (hv y (by rw[e];simp)));obtain⟨N2,h2⟩:=alN env sz ty t v hvl ht H hv suf (pre++[x]) y (by rw[e];simp);refine⟨N1+N2,fun n hn k hk=>?_⟩;obtain⟨j,rfl⟩:∃j,k=j+1:=⟨k - 1,by simp at hk;omega⟩;have h1:=h1 n (by omega);have h2:=h2 n (by omega) j (by simp at hk;omega);rw[Kh];unfold Co;rw[decide_eq_true (by rw[e];simp;omega)];simp only[cond_true];simp only at h1;rw[h1];simp only[qAa,aoT];cases hasB env sz t y with
  |false=>rfl
  |true=>
   cases decide (0≤bK x y)with
   |true=>rfl
   |false=>
    simp only[cond_false,qBd,qAw,qAr];rw[show((pre++[x]).length:Int)+1=((pre++[x]++[y]).length:Int) by simp only[qAf,qAL];omega];exact h2
theorem aDK(env:Env)(sz:List Int)(ty t:Ty)(v:Val)(hvl:v.kids.length≤9223372036854775807)(ht:ty.kids=[t])(H:∀u,lI u→Ev (fun n=>vw n env sz u t) (hasB env sz t u))(hv:∀u∈v.kids,lI u):Ev (fun n=>Bt n (vw n) env sz v ty n 0) (cond ((v.kids.all fun u=>hasB env sz t u)&&DR v.kids) (.nx ()) (.rt false)):=by
 cases hks:v.kids with
 |nil=>
  refine⟨1,fun n hn=>?_⟩;obtain⟨j,rfl⟩:∃j,n=j+1:=⟨n - 1,by omega⟩;show Bt (j+1) _ env sz v ty (j+1) 0=_;rw[Kh];unfold Co;rw[decide_eq_false (by rw[hks];simp)];rfl
 |cons x xs=>
  obtain⟨N1,h1⟩:=H x (hv x (by rw[hks];simp));obtain⟨N2,h2⟩:=alN env sz ty t v hvl ht H hv xs [] x (by rw[hks];rfl);refine⟨N1+N2+xs.length+3,fun n hn=>?_⟩;obtain⟨j,rfl⟩:∃j,n=j+1:=⟨n - 1,by omega⟩;have h1:vw (j+1) env sz x t=_:=h1 (j+1) (by omega);have h2:=h2 (j+1) (by omega) j (by omega);show Bt (j+1) _ env sz v ty (j+1) 0=_;rw[Kh];unfold Co;rw[decide_eq_true (by rw[hks,qAo];omega),ht,hks];simp only[cond_true,show idx (x::xs) 0=some x from rfl,show idx [t] 0=some t from rfl,qAa,show decide ((0:Int)<0)=false from rfl,cond_false];rw[h1];simp only[qAa,qBK];have er:=aui (hasB env sz t) xs x;cases hasB env sz t x with
  |false=>rfl
  |true=>
   simp only[qAr,cond_false,qAa,qAw];rw[←er];exact h2
theorem auL(env:Env)(sz:List Int)(hl:sz.length=env.carriers.length):∀{t:Ty},Shp t→(dK t).all (dx env)=true→∀v,lI v→Ev (fun n=>vw n env sz v t) (hasB env sz t v):=by
 intro t h
 induction h with
 |int=>
  intro _ v _;refine Ev.succ ?_;show Ev (fun n=>lS n _ env sz v (.mk 1 [] [])) _;unfold lS;refine Ev.pos rfl ?_;refine Ev.bind (a:=aaN v) ?_ (Ev.ret _);unfold aaN;cases v.kind==1<;>cases decide ((-1000000000)≤v.n)<;>cases decide (v.n≤1000000000)<;>cases v.name==[]<;>cases(v.kids.length:Int)==0<;>exact Ev.ret _
 |bool=>
  intro _ v _;refine Ev.succ ?_;show Ev (fun n=>lS n _ env sz v (.mk 2 [] [])) _;unfold lS;refine Ev.neg rfl ?_;refine Ev.pos rfl ?_;refine Ev.bind (a:=aas v) ?_ (Ev.ret _);unfold aas;cases v.kind==2<;>cases v.n==0<;>cases v.n==1<;>cases v.name==[]<;>cases(v.kids.length:Int)==0<;>exact Ev.ret _
 |car nm=>
  intro hc v _;have hc:dx env nm=true:=by simpa[dK]using hc
  obtain⟨g1,g2⟩:=atW hl hc;refine Ev.succ ?_;show Ev (fun n=>lS n _ env sz v (.mk 3 nm [])) _;unfold lS;refine Ev.neg rfl ?_;refine Ev.neg rfl ?_;refine Ev.pos rfl ?_;refine Ev.bind (a:=SX env sz nm v) ?_ (Ev.ret _);simp only[Ty.name];unfold SX;cases v.kind==3 with
  |false=>exact Ev.ret _
  |true=>
   cases v.name==nm with
   |false=>exact Ev.ret _
   |true=>
    cases(v.kids.length:Int)==0 with
    |false=>exact Ev.ret _
    |true=>
     cases decide (0≤v.n)with
     |false=>exact Ev.ret _
     |true=>
      simp only[cond_true,qAw];refine Ev.bind (JL env nm) ?_;rw[g2];exact Ev.ret _
 |@pair a b ha hb iha ihb=>
  intro hc v hv;simp only[dK,iL,qAt,show((4:Int)==3)=false from rfl,cond_false,qEf,qAb]at hc;refine Ev.succ ?_;show Ev (fun n=>lS n _ env sz v (.mk 4 [] [a,b])) _;unfold lS;refine Ev.neg rfl ?_;refine Ev.neg rfl ?_;refine Ev.neg rfl ?_;refine Ev.pos rfl ?_;refine Ev.bind (a:=hasB env sz (.mk 4 [] [a,b]) v) ?_ (Ev.ret _);simp only[hasB,show((4:Int)==1)=false from rfl,show((4:Int)==2)=false from rfl,show((4:Int)==3)=false from rfl,show((4:Int)==4)=true from rfl,cond_false,cond_true,Ty.kids];cases v.kind==4 with
  |false=>exact Ev.ret _
  |true=>
   cases v.n==0 with
   |false=>exact Ev.ret _
   |true=>
    cases v.name==[]with
    |false=>exact Ev.ret _
    |true=>
     cases h2:(v.kids.length:Int)==2 with
     |false=>exact Ev.ret _
     |true=>
      simp only[cond_true,qAw];have hv:=hv.kids.2;obtain⟨k,n,s,ks⟩:=v;simp only[Val.kids,beq_iff_eq]at h2 hv
      match ks,h2,hv with
      |[x,y],_,hv=>
       simp only[Val.kids,show idx [x,y] 0=some x from rfl,show idx [x,y] 1=some y from rfl,show idx [a,b] 0=some a from rfl,show idx [a,b] 1=some b from rfl,qAa,VA];refine Ev.bind (iha hc.1 x (hv x (by simp))) ?_;cases hasB env sz a x with
       |false=>exact Ev.ret _
       |true=>
        simp only[cond_true,qAw,qBE];exact Ev.bind (ihb hc.2 y (hv y (by simp))) (Ev.ret _)
 |@set a ha iha=>
  intro hc v hv;simp only[dK,iL,qAt,show((5:Int)==3)=false from rfl,cond_false]at hc;have H:=iha hc;refine Ev.succ ?_;show Ev (fun n=>lS n _ env sz v (.mk 5 [] [a])) _;unfold lS;refine Ev.neg rfl ?_;refine Ev.neg rfl ?_;refine Ev.neg rfl ?_;refine Ev.neg rfl ?_;simp only[hasB,show((5:Int)==1)=false from rfl,show((5:Int)==2)=false from rfl,show((5:Int)==3)=false from rfl,show((5:Int)==4)=false from rfl,cond_false];have e1:(v.kind !=5)=!(v.kind==5):=rfl;have e2:(v.n !=0)=!(v.n==0):=rfl;rw[e1,e2];cases v.kind==5 with
  |false=>refine Ev.bind (a:=true) (Ev.ret _) ?_;exact Ev.ret _
  |true=>
   cases v.n==0 with
   |false=>refine Ev.bind (a:=true) (Ev.ret _) ?_;exact Ev.ret _
   |true=>
    cases v.name==[]with
    |false=>refine Ev.bind (a:=true) (Ev.ret _) ?_;exact Ev.ret _
    |true=>
     cases decide (256<(v.kids.length:Int))with
     |true=>refine Ev.bind (a:=true) (Ev.ret _) ?_;exact Ev.ret _
     |false=>
      refine Ev.bind (a:=false) (Ev.ret _) ?_;simp only[qBd,cond_false,qAw,avb];refine Ev.bind (aDK env sz (.mk 5 [] [a]) a v hv.kids.1 rfl H hv.kids.2) ?_;cases((v.kids.all fun u=>hasB env sz a u)&&DR v.kids)<;>exact Ev.ret _
theorem adL{e}(h:aW e=true):∀d∈e.names,dI d.ty=true/\(dK d.ty).all (dx e)=true:=by intro d a;simp only[aW,qAb]at h;have:=qAJ.1 h.2.2.1 d a;simp only[Cc,qAb]at this;exact⟨this.2.1.1,this.2.2⟩
def j3(w:S_api_World):=aW w.env&&(rP w.env w.sizes&&!((w.values.length:Int)!=(w.env.names.length:Int)))&&!(w.env.names.zip w.values).any λq=>!hasB w.env w.sizes q.1.ty q.2
theorem XV w (hs:∀d∈w.env.names,d.name.length<=9223372036854775807):Ev (λn=>uW n w) (j3 w):=by
 unfold uW j3;refine Ev.bind (a:=!(aW w.env&&(rP w.env w.sizes&&!((w.values.length:Int)!=(w.env.names.length:Int))))) ?_ ?_;·refine Ev.bind (Bl w.env hs) ?_;cases aW w.env with|false=>exact Ev.ret _|true=>
   refine Ev.bind (adA w.env w.sizes) ?_;cases rP w.env w.sizes with|false=>exact Ev.ret _|true=>simp only[qAr,cond_false,qAw,qCq];exact Ev.ret _
 cases h:(aW w.env&&(rP w.env w.sizes&&!((w.values.length:Int)!=(w.env.names.length:Int))))with|false=>exact Ev.ret _|true=>
  simp only[qAb,qAS,bne_eq_false_iff_eq]at h;obtain⟨e,f,g⟩:=h;simp only[qAr,cond_false,qAw];have c:=adL e;refine Ev.bind (Zr w.env.names w.values (by omega) (λn k i=>Lg n w k i) (λn d v=>(jL n w.env w.sizes v d.ty).bind λb=>some (!b)) (λd v=>!(hasB w.env w.sizes d.ty v)) false (λn k i=>by show cond _ _ _=_;simp only[qAZ,qAa];rfl) (λd m v=>Ev.bind (awY w.env w.sizes (F9 f) (Nb (c d m).1) (c d m).2 v) (Ev.ret _))) ?_
  cases((w.env.names.zip w.values).any λq=>!(hasB w.env w.sizes q.1.ty q.2))<;>exact Ev.ret _
end
end Abs
end Go.Proofs.YtneeginmfjageaaGreat
