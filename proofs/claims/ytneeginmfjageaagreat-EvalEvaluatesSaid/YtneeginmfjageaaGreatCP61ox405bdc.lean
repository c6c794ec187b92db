/- Copies, sets, equality. Conditions: none. -/
import Derived.Test.YtneeginmfjageaaGreatCP6oxb6e52e
set_option linter.all false
namespace Go.Proofs.YtneeginmfjageaaGreat
namespace Abs
open Go
theorem Xc(n:Nat)(q:Val->Cf)(b:Af->Option Af)(p:Af)(k:Nat)(s:(Af×Int)):JY n q b p (k+1) s=Gs n q b p (JY n q b p k) s:=rfl
theorem NT(n:Nat)(q:Af->Af->Ax)(b:Val->Val->Ax)(p:Af)(a:Af)(k:Nat)(s:Int):zQ n q b p a (k+1) s=yB n q b p a (zQ n q b p a k) s:=rfl
theorem vZ(n:Nat)(k:Nat)(s:(Af×Af×Af)):FK n (k+1) s=rC n (FK n k) s:=rfl
theorem RB(n:Nat)(q:Val->Cf)(x:Af)(k:Nat)(s:(Int×Af)):Ep n q x (k+1) s=Cg n q x (Ep n q x k) s:=rfl
mutual
def pY:Val→Prop
 | .mk _ _ _ ks=>ks.length*56≤140737488355328∧F5 ks
def F5:Af→Prop
 |[]=>True
 |v::vs=>pY v∧F5 vs
end
def ahM:∀{vs:Af},F5 vs->∀v∈vs,pY v
 |[],_,_,h=>by cases h
 |v::vs,h,u,hu=>by
  simp only[F5]at h;rcases qAh.1 hu with rfl|hu
  ·exact h.1
  exact ahM h.2 u hu
def pY.kids{v:Val}(h:pY v):v.kids.length*56<=140737488355328/\∀u∈v.kids,pY u:=by cases v;exact⟨h.1,ahM h.2⟩
def dQ{l ys:Af}(h:(l.length+ys.length)*56<=140737488355328):app 56 l ys=some (l++ys):=by
 unfold app
 grind
def Xd{α:Type}(x:α)(l:List α):kQ (x::l) 1 ((x::l).length:Int)=some l:=by
 unfold kQ
 grind
def NV{α:Type}(x:α)(l:List α):idx (x::l) 0=some x:=by simp[idx]
def afJ:∀(s:Af),(∀a∈s,Ev (λn=>BJ n a) a)->∀(p:Af),(p.length+s.length)*56<=140737488355328->∃N,∀n,N<=n->∀k,s.length+1<=k->JY n (BJ n) (H8 n) (p++s) k (p,(p.length:Int))=some (.nx (p++s))|[],_,p,_=>by refine⟨0,λn _ k h=>?_⟩;obtain⟨j,rfl⟩:∃j,k=j+1:=⟨k - 1,by simp at h;omega⟩;rw[Xc];unfold Gs;rw[d_0 cn];simp|a::s,H,p,d=>by let⟨e,b⟩:=H a cn;let⟨f,c⟩:=afJ s (λx g=>H x (by simp[g])) (p++[a]) (by simp at d|-;omega);refine⟨e+f,λn i k h=>?_⟩;obtain⟨j,rfl⟩:∃j,k=j+1:=⟨k - 1,by simp at h;omega⟩;have b:BJ n a=_:=b n Cl;have c:=c n Cl j (by simp at h;omega);rw[Xc];unfold Gs;rw[d_1 (by simp<;>omega),gJ];simp only[c_1,qAb];rw[b];simp only[qAb];rw[dQ (by simp at d|-;omega)];simp only[qAb];rw[show(p.length:Int)+1=((p++[a]).length:Int) by simp];simpa using c
def ajk(l:Af)(H:∀a∈l,Ev (λn=>BJ n a) a)(b:l.length*56<=140737488355328):Ev (λn=>H8 n l) l:=by
 let⟨N,h⟩:=afJ l H [] (by simpa using b);refine Ev.succ ⟨N+l.length+1,λn c=>?_⟩;show KF n _ _ l=_;unfold KF
 grind
def auP(v:Val)(d:pY v):Ev (λn=>BJ n v) v:=by induction v using Val.ind with|h k n s b i=>let⟨e,f⟩:=d.kids;refine Ev.succ ?_;show Ev (λm=>aco m _ _ (.mk k n s b)) _;exact e_0 (ajk b (λa c=>i a c (f a c)) e) Cu
def ayw{α:Type}:∀(r:List α) (x:α) (s:List α),(r++x::s).set r.length x=r++x::s|[],_,_=>rfl|p::r,x,s=>by simp
def afB(l:Af):∀(s p:Af),l=p++s->(∀a∈s,Ev (λn=>uE n a) a)->∃N,∀n,N<=n->∀k,s.length+1<=k->Ep n (uE n) l k ((p.length:Int),p++s)=some (.nx (p++s))
 |[],p,h,_=>by
  refine⟨0,λn _ k b=>?_⟩;obtain⟨j,rfl⟩:∃j,k=j+1:=⟨k - 1,by simp at b;omega⟩;rw[RB];unfold Cg;rw[d_0 (by rw[h];simp)];rfl
 |a::s,p,h,H=>by
  let⟨f,c⟩:=H a cn;let⟨g,d⟩:=afB l s (p++[a]) (by simp[h]) (λx i=>H x (by simp[i]));refine⟨f+g,λn m k b=>?_⟩;obtain⟨j,rfl⟩:∃j,k=j+1:=⟨k - 1,by simp at b;omega⟩;have c:uE n a=_:=c n Cl;have d:=d n Cl j (by simp at b;omega);rw[RB];unfold Cg;rw[d_1 (by rw[h];simp;omega)];simp only[c_1,gJ,qAb];rw[c];simp only[qAb];have e:upd (p++a::s) (p.length:Int) a=p++a::s:=by
   unfold upd;rw[qBM,ayw]
  rw[e,show(p.length:Int)+1=((p++[a]).length:Int) by simp];simpa using d
def adp(v:Val)(f:pY v):Ev (λn=>uE n v) v:=by induction v using Val.ind with|h k n s b i=>let⟨c,d⟩:=f.kids;simp only[Val.kids]at c d;let⟨N,h⟩:=afB b b [] rfl (λa e=>i a e (d a e));refine Ev.succ ⟨N+b.length+1,λm g=>?_⟩;have:=h m Cl m Cl;show Hl m _ (.mk k n s b)=_;unfold Hl Df yA;simp only[Val.kids];rw[dQ (by simpa using c)];simp only[qAb,qAo,qAA]at this|-;rw[show((0:Nat):Int)=0 from rfl]at this;rw[this];rfl
def Eb:∀(m:Nat) (xs ys a:Af),xs.length+ys.length<=m->xs.Pairwise iA->ys.Pairwise iA->(∀x∈xs,gU x)->(a.length+xs.length+ys.length)*56<=140737488355328->
  ∃s,s.Pairwise iA/\(∀x,x∈s↔x∈xs∨x∈ys)/\∃N,∀n,N<=n->∀k,m+1<=k->FK n k (xs,ys,a)=some (.nx (a++s))
 |m,[],[],a,_,_,_,_,_=>by
  refine⟨[],.nil,by simp,0,λn _ k q=>?_⟩;obtain⟨j,rfl⟩:∃j,k=j+1:=⟨k - 1,by omega⟩;rw[vZ];unfold rC;simp
 |0,[],y::ys,a,h,_,_,_,_=>by simp at h
 |0,x::xs,ys,a,h,_,_,_,_=>by simp at h
 |m+1,[],y::ys,a,h,r,t,i,c=>by
  have p:=qBn.1 t;let⟨s,d,b,N,e⟩:=Eb m [] ys (a++[y]) (by simp at h|-;omega) .nil p.2 cn (by simp at c|-;omega);refine⟨y::s,qBn.2 ⟨λz hz=>p.1 z (by simpa using(b z).1 hz),d⟩,λx=>by simp[b x],N,λn o k q=>?_⟩;obtain⟨j,rfl⟩:∃j,k=j+1:=⟨k - 1,by omega⟩;have:=e n o j Cl;rw[vZ];unfold rC;rw[d_0 cn,d_1 (by simp<;>omega)];simp only[c_0,c_1,qAb,show((([]:Af).length:Int)==0)=true from rfl,show decide ((1:Int)<=0)=false from rfl,show decide ((0:Int)<1)=true from rfl,show decide ((0:Int)<=1)=true from rfl,NV,Xd];rw[dQ (by simp at c|-;omega)];simp only[qAb];rw[this];simp
 |m+1,x::xs,[],a,h,r,t,i,c=>by
  have g:=qBn.1 r;let⟨s,d,b,N,e⟩:=Eb m xs [] (a++[x]) (by simp at h|-;omega) g.2 .nil (λv w=>i v (by simp[w])) (by simp at c|-;omega);refine⟨x::s,qBn.2 ⟨λz hz=>g.1 z (by simpa using(b z).1 hz),d⟩,λx=>by simp[b x],N,λn o k q=>?_⟩;obtain⟨j,rfl⟩:∃j,k=j+1:=⟨k - 1,by omega⟩;have:=e n o j Cl;rw[vZ];unfold rC;have A:(((x::xs).length:Int)==0)=false:=by simp<;>omega
  rw[d_1 (by simp<;>omega)];simp only[c_1,qAb,A,c_0,show decide ((0:Int)<(([]:Af).length:Int))=false from rfl,show decide ((-1:Int)<=0)=true from rfl,show decide ((0:Int)< -1)=false from rfl,show decide ((0:Int)<= -1)=false from rfl,NV,Xd];rw[dQ (by simp at c|-;omega)];simp only[qAb];rw[this];simp
 |m+1,x::xs,y::ys,a,h,r,t,i,c=>by
  have g:=qBn.1 r;have p:=qBn.1 t;let⟨C,f⟩:=afE x y (i x cn);have A:(((x::xs).length:Int)==0)=false:=by simp<;>omega
  have D:decide ((0:Int)<((x::xs).length:Int))=true:=d_1 (by simp<;>omega);have E:decide ((0:Int)<((y::ys).length:Int))=true:=d_1 (by simp<;>omega);rcases Int.lt_trichotomy (bQ x y) 0 with l|heq|hgt
  ·let⟨s,d,b,N,e⟩:=Eb m xs (y::ys) (a++[x]) (by simp at h|-;omega) g.2 t (λv w=>i v (by simp[w])) (by simp at c|-;omega);refine⟨x::s,qBn.2 ⟨λz hz=>?_,d⟩,λu=>by simp only[qAh,b u,or_assoc],N+C,λn o k q=>?_⟩
   ·rcases(b z).1 hz with hz|hz
    ·exact g.1 z hz
    rcases qAh.1 hz with rfl|hz
    ·exact l
    exact BF x y z l (p.1 z hz)
   obtain⟨j,rfl⟩:∃j,k=j+1:=⟨k - 1,by omega⟩;have:=e n Cl j Cl;have f:nI n x y=_:=f n Cl;rw[vZ];unfold rC;simp only[c_1,c_0,qAb,A,D,E,NV,f];rw[d_1 (qDk l),d_0 Cl,d_0 Cl];simp only[c_1,c_0,qAb,Xd];rw[dQ (by simp at c|-;omega)];simp only[qAb];rw[this];simp
  ·have F:=(gF x y).1 heq;subst F;let⟨s,d,b,N,e⟩:=Eb m xs ys (a++[x]) (by simp at h|-;omega) g.2 p.2 (λv w=>i v (by simp[w])) (by simp at c|-;omega);refine⟨x::s,qBn.2 ⟨λz hz=>?_,d⟩,λu=>?_,N+C,λn o k q=>?_⟩
   ·rcases(b z).1 hz with hz|hz
    ·exact g.1 z hz
    exact p.1 z hz
   ·simp only[qAh,b u];constructor
    ·rintro(h|h|h)
     ·exact .inl (.inl h)
     ·exact .inl (.inr h)
     exact .inr (.inr h)
    rintro((h|h)|(h|h))
    ·exact .inl h
    ·exact .inr (.inl h)
    ·exact .inl h
    exact .inr (.inr h)
   obtain⟨j,rfl⟩:∃j,k=j+1:=⟨k - 1,by omega⟩;have:=e n Cl j Cl;have f:nI n x x=_:=f n Cl;rw[vZ];unfold rC;simp only[c_1,c_0,qAb,A,D,E,NV,f,heq,show decide ((0:Int)<=0)=true from rfl,show decide ((0:Int)<0)=false from rfl,Xd];rw[dQ (by simp at c|-;omega)];simp only[qAb];rw[this];simp
  let⟨s,d,b,N,e⟩:=Eb m (x::xs) ys (a++[y]) (by simp at h|-;omega) r p.2 i (by simp at c|-;omega);have B:bQ y x<0:=by rw[rO x y];omega
  refine⟨y::s,qBn.2 ⟨λz hz=>?_,d⟩,λu=>?_,N+C,λn o k q=>?_⟩
  ·rcases(b z).1 hz with hz|hz
   ·rcases qAh.1 hz with rfl|hz
    ·exact B
    exact BF y x z B (g.1 z hz)
   exact p.1 z hz
  ·simp only[qAh,b u];constructor
   ·rintro(h|h|h)
    ·exact .inr (.inl h)
    ·exact .inl h
    exact .inr (.inr h)
   rintro(h|(h|h))
   ·exact .inr (.inl h)
   ·exact .inl h
   exact .inr (.inr h)
  obtain⟨j,rfl⟩:∃j,k=j+1:=⟨k - 1,by omega⟩;have:=e n Cl j Cl;have f:nI n x y=_:=f n Cl;rw[vZ];unfold rC;simp only[c_1,c_0,qAb,A,D,E,NV,f];rw[d_0 Cl,d_1 hgt,d_1 (qDk hgt)];simp only[c_1,c_0,qAb,Xd,NV];rw[dQ (by simp at c|-;omega)];simp only[qAb];rw[this];simp
def azZ(xs ys:Af)(h:xs.Pairwise iA)(h2:ys.Pairwise iA)(s:∀x∈xs,gU x)(b:(xs.length+ys.length)*56<=140737488355328):
  ∃z,z.Pairwise iA/\(∀x,x∈z↔x∈xs∨x∈ys)/\Ev (λn=>agh n xs ys) z:=by
 let⟨z,a,c,N,d⟩:=Eb (xs.length+ys.length) xs ys [] (qAd _) h h2 s (by simpa using b);refine⟨z,a,c,N+xs.length+ys.length+1,λn e=>?_⟩;show((FK n n (xs,ys,([]:Af))).bind _)=_
 grind
def X6:∀(m:Nat) (l:Af),l.length<=m->(∀x∈l,gU x)->l.length*56<=140737488355328->Ev (λn=>Nc n l) (sortV l)
 |m,[],_,_,_=>by
  refine Ev.succ ?_;show Ev (λn=>qD n _ []) _;unfold qD;exact Cu
 |m,[a],_,_,_=>by
  refine Ev.succ ?_;show Ev (λn=>qD n _ [a]) _;unfold qD;exact Cu
 |0,a::b::l,h,_,_=>by simp at h
 |m+1,a::b::l,h,s,g=>by
  generalize i:a::b::l=L at h s g|-;have d:2<=L.length:=by rw[<-i];simp
  refine Ev.succ ?_;show Ev (λn=>qD n (Nc n) L) _;unfold qD;rw[d_0 Cl];have w:IntKind.wrap .i64 (Int.tdiv (L.length:Int) 2)=((L.length/2:Nat):Int):=by
   have:Int.tdiv (L.length:Int) 2=((L.length/2:Nat):Int):=rfl;rw[this,wrap64 Cl Cl]
  have j:kQ L 0 ((L.length/2:Nat):Int)=some (L.take (L.length/2)):=by
   unfold kQ;rw[if_pos ⟨qBD _,by omega,by omega⟩];simp only[Int.toNat_zero,qAY,qBM,Nat.sub_zero]
  have k:kQ L ((L.length/2:Nat):Int) (L.length:Int)=some (L.drop (L.length/2)):=by
   unfold kQ;rw[if_pos ⟨by omega,by omega,qBD _⟩];simp only[qBM];rw[qCg cn]
  rw[w,j,k];simp only[c_0,qAb];have f:∀x∈L.take (L.length/2),gU x:=λx c=>s x (qDC c);have o:∀x∈L.drop (L.length/2),gU x:=λx c=>s x (qEc c);refine e_0 (X6 m _ (by simp<;>omega) f (by simp<;>omega)) ?_;refine e_0 (X6 m _ (by simp<;>omega) o (by simp<;>omega)) ?_;have p:=eP (L.take (L.length/2));have q:=eP (L.drop (L.length/2));simp only[qAz,qCC]at p q;let⟨r,t,u,z⟩:=azZ _ _ (cZ (L.take (L.length/2))) (cZ (L.drop (L.length/2))) (λx c=>f x ((aV _ x).1 c)) Cl;have e:r=sortV L:=by
   refine vw t λx=>?_;rw[u x,aV,aV]
   conv=>rhs;rw[<-qDw (L.length/2) L]
   rw[qAr]
  rw[e]at z;exact e_0 z Cu
def aFw(l:Af)(h:∀x∈l,gU x)(a:l.length*56<=140737488355328):Ev (λn=>iZ n l) (.mk 5 0 [] (sortV l)):=by exact e_0 (X6 _ l (qAd _) h a) Cu
def adH(x y:Int):(lex x y==0)=((x==0)&&(y==0)):=by rw[qCe];simp[RO]
def anM:∀(s:Af),(∀a∈s,∀b,Ev (λn=>dB n a b) (bQ a b==0))->∀(d p c:Af),p.length=c.length->s.length=d.length->∃N,∀n,N<=n->∀k,s.length+1<=k->zQ n (vY n) (dB n) (p++s) (c++d) k (p.length:Int)=some (cond (eZ s d==0) (.nx ()) (.rt false))
 |[],_,d,p,c,h,l=>by
  have:d=[]:=qAD.1 (by simpa using l.symm);subst this;refine⟨0,λn _ k e=>?_⟩;obtain⟨j,rfl⟩:∃j,k=j+1:=⟨k - 1,by simp at e;omega⟩;rw[NT];unfold yB;rw[d_0 cn];rfl
 |a::s,H,[],p,c,h,l=>by simp at l
 |a::s,H,b::d,p,c,h,l=>by
  let⟨i,f⟩:=H a cn b;let⟨m,g⟩:=anM s (λx o=>H x (by simp[o])) d (p++[a]) (c++[b]) (by simp[h]) (by simpa using l);refine⟨i+m,λn q k e=>?_⟩;obtain⟨j,rfl⟩:∃j,k=j+1:=⟨k - 1,by simp at e;omega⟩;have f:dB n a b=_:=f n Cl;have g:=g n Cl j (by simp at e;omega);rw[NT];unfold yB;rw[d_1 (by simp<;>omega),gJ];simp only[c_1,qAb];rw[show(p.length:Int)=(c.length:Int) by rw[h],gJ];simp only[qAb];rw[f];simp only[qAb,uo,adH];cases bQ a b==0 with
  |false=>rfl
  |true=>
   simp only[qAv,c_0,qAu];rw[show(c.length:Int)+1=((p++[a]).length:Int) by simp[h]];simpa using g
def Xz(l m:Af)(H:∀a∈l,∀b,Ev (λn=>dB n a b) (bQ a b==0)):Ev (λn=>vY n l m) (eZ l m==0):=by
 refine Ev.succ ?_;show Ev (λn=>Dc n _ _ l m) _;unfold Dc;by_cases c:l.length=m.length
 ·let⟨N,h⟩:=anM l H m [] [] rfl c;refine⟨N+l.length+1,λn f=>?_⟩
  grind
 have e:((l.length:Int)!=(m.length:Int))=true:=by simp<;>omega
 have d:(eZ l m==0)=false:=by
  cases h:eZ l m==0 with
  |false=>rfl
  |true=>exact absurd (congrArg List.length ((YZ l m).1 (by simpa using h))) c
 rw[e,d];exact Cu
def acB(a b:Val):Ev (λn=>dB n a b) (bQ a b==0):=by
 revert b
 induction a using Val.ind with|h k n s g i=>
  intro b;let⟨d,e,f,c⟩:=b;refine Ev.succ ?_;show Ev (λm=>Fe m _ _ (.mk k n s g) (.mk d e f c)) _;unfold Fe;simp only[Val.kind,Val.n,Val.name];have j:(kP k d==0)=(k==d):=by rw[qCe];simp[pF]
  have l:(kP n e==0)=(n==e):=by rw[qCe];simp[pF]
  have o:(Lib.compareBytes s f==0)=(s==f):=by rw[qCe];simp[Qp]
  rw[zw,adH,adH,adH,j,l,o];cases k==d with|false=>exact e_0 Cu Cu|true=>
   cases n==e with|false=>exact e_0 Cu Cu|true=>cases s==f with|false=>exact e_0 Cu Cu|true=>exact e_0 (e_0 (Xz g c i) Cu) Cu
def aHt{α β:Type}(l:List α)(f:Nat->α->Option β)(g:α->β)(h:∀x∈l,Ev (λn=>f n x) (g x)):∃N,∀n,N<=n->∀x∈l,f n x=some (g x):=by
 induction l with|nil=>exact⟨0,λ_ _ x hx=>by cases hx⟩|cons a l i=>
  let⟨N,b⟩:=h a cn;let⟨M,c⟩:=i λx hx=>h x (by simp[hx]);refine⟨N+M,λn d x hx=>?_⟩;rcases qAh.1 hx with rfl|hx
  ·exact b n Cl
  exact c n Cl x hx
def wI{α σ S τ ρ:Type}(l:List α)(B:Nat->(S->Option (LR τ ρ))->S->Option (LR τ ρ))(b:Int->σ->S)(t:α->σ->LR σ ρ)(f:σ->τ)(I:List α->σ->Prop)
  (o:∀n e s,B n e (b (l.length:Int) s)=some (.nx (f s)))
  (hs:∀p x u s,l=p++x::u->I (x::u) s->(∃N,∀n,N<=n->∀e,B n e (b (p.length:Int) s)=match t x s with| .nx s'=>e (b ((p.length:Int)+1) s')| .rt r=>some (.rt r))/\∀s',t x s=.nx s'->I u s')
  {s0:σ} (h0:I l s0):Ev (λn=>aL (B n) n (b 0 s0)) (fG t f l s0):=by
 have y:∀(u p:List α) (s:σ),l=p++u->I u s->∃N,∀n,N<=n->∀k,u.length+1<=k->aL (B n) k (b (p.length:Int) s)=some (fG t f u s):=by
  intro u
  induction u with|nil=>intro p s d _;refine⟨0,λn _ k a=>?_⟩;obtain⟨j,rfl⟩:∃j,k=j+1:=⟨k - 1,by simp at a;omega⟩;rw[show(p.length:Int)=(l.length:Int) by rw[d];simp];exact o n _ s|cons x u q=>intro p s d v;let⟨⟨N,i⟩,w⟩:=hs p x u s d v;cases c:t x s with|rt r=>refine⟨N,λn g k a=>?_⟩;obtain⟨j,rfl⟩:∃j,k=j+1:=⟨k - 1,by simp at a;omega⟩;have:=i n g (aL (B n) j);rw[c]at this;show B n (aL (B n) j) _=_;rw[this];simp only[fG,c]|nx s'=>let⟨M,z⟩:=q (p++[x]) s' (by simp[d]) (w s' c);refine⟨N+M,λn g k a=>?_⟩;obtain⟨j,rfl⟩:∃j,k=j+1:=⟨k - 1,by simp at a;omega⟩;have:=i n Cl (aL (B n) j);rw[c]at this;show B n (aL (B n) j) _=_;rw[this];have m:=z n Cl j (by simp at a;omega);rw[show((p++[x]).length:Int)=(p.length:Int)+1 by simp]at m;simp only[fG,c];exact m
 let⟨N,h⟩:=y l [] s0 rfl h0;exact⟨N+l.length+1,λn g=>h n Cl n Cl⟩
def agl{α β τ ρ:Type}(g:α->List β)(f:List β->τ):∀(l:List α) (s:List β),fG (ρ:=ρ) (λx s=>.nx (s++g x)) f l s=.nx (f (s++l.flatMap g))|[],s=>by simp[fG]|x::l,s=>by simp only[fG];rw[agl g f l];simp
def ajV{α β S τ ρ:Type}(l:List α)(B:Nat->(S->Option (LR τ ρ))->S->Option (LR τ ρ))(k:Int->List β->S)(f:List β->τ)(g:α->List β)(M:Nat)
  (h:∀n r s,B n r (k (l.length:Int) s)=some (.nx (f s)))
  (hs:∀p x u s,l=p++x::u->s.length+(g x).length<=M->∃N,∀n,N<=n->∀r,B n r (k (p.length:Int) s)=r (k ((p.length:Int)+1) (s++g x)))
  {s0:List β} (h0:s0.length+(l.flatMap g).length<=M):Ev (λn=>aL (B n) n (k 0 s0)) (LR.nx (f (s0++l.flatMap g))):=by rw[<-agl (ρ:=ρ) g f l s0];refine wI l B k _ f (λu s=>s.length+(u.flatMap g).length<=M) h (λp x u s a i=>?_) h0;simp only[qBf,qAe]at i;refine⟨hs p x u s a Cl,λb e=>?_⟩;cases e;simp only[qAe];omega
def mG{α S ρ:Type}(l:List α)(B:Nat->(S->Option (LR Af ρ))->S->Option (LR Af ρ))(k:Int->Af->S)(g:α->Af)(M:Nat)(m:M*56<=140737488355328)
  (e:∀n r s,B n r (k (l.length:Int) s)=some (.nx s))
  (hs:∀p x u s,l=p++x::u->(s.length+(g x).length)*56<=140737488355328->∃N,∀n,N<=n->∀r,B n r (k (p.length:Int) s)=r (k ((p.length:Int)+1) (s++g x)))
  {s0:Af} (h0:s0.length+(l.flatMap g).length<=M):Ev (λn=>aL (B n) n (k 0 s0)) (LR.nx (s0++l.flatMap g)):=
 ajV l B k (λs=>s) g M e (λp x u s a h=>hs p x u s a Cl) h0
def axI(l:Af)(P:Nat->Val->Ax)(n:Nat)(r:(Af×Int)->Option (LR Af Af))(s:Af×Int):Option (LR Af Af):=
 cond (decide (s.2<(l.length:Int))) ((((idx l s.2).bind λ(x:Val)=>(P n x).bind λ(a:Bool)=>cond a ((app 56 s.1 ([x])).bind λ(b:Af)=>some b) (some s.1)):Option Af).bind λ(c:Af)=>r (c,(s.2+1))) (some (.nx s.1))
def zn{α:Type}(p:α->Bool)(l:List α):l.flatMap (λx=>cond (p x) [x] [])=l.filter p:=by induction l with|nil=>rfl|cons x l i=>rw[qBf,i,qDY];cases p x<;>rfl
def flatMap_one{α β:Type}(f:α->β)(l:List α):l.flatMap (λx=>[f x])=l.map f:=by induction l with|nil=>rfl|cons x l i=>rw[qBf,i];rfl
def at_end{α:Type}(l:List α):decide ((l.length:Int)<(l.length:Int))=false:=d_0 (qEd _)
def bg{α:Type}{l p s:List α}{x:α}(h:l=p++x::s):decide ((p.length:Int)<(l.length:Int))=true/\idx l (p.length:Int)=some x:=by subst h;exact⟨d_1 Cp,gJ _ _ _⟩
def D5(l:Af)(P:Nat->Val->Ax)(p:Val->Bool)(a:∀x∈l,Ev (λn=>P n x) (p x))(k:l.length<=1000000):
  Ev (λn=>(aL (axI l P n) n (([]:Af),(0:Int))).bind (LR.el (λd=>some d) (λr=>some r))) (l.filter p):=by
 have h:=mG l (axI l P) (λi s=>(s,i)) (λx=>cond (p x) [x] []) 1000000 Cl (λn c s=>by unfold axI;rw[at_end];rfl) (λf x u s e b=>by
  let⟨N,h⟩:=a x (by simp[e]);refine⟨N,λn g c=>?_⟩;have h:P n x=_:=h n g;unfold axI;rw[(bg e).1];simp only[c_1,(bg e).2,qAb,h];cases j:p x;·simp
  rw[j]at b;simp only[c_1,qAp,qAA]at b|-;rw[dQ (by simpa using b)];rfl) (s0:=[]) (by rw[zn];have:=qCJ p l;simp only[qAA];omega)
 rw[zn,qAo]at h;exact e_0 h Cu
def dN(l:Af)(x:Val):aF l x=true↔x∈l:=by
 unfold aF eD;rw[qCB];constructor;·rintro⟨y,a,h⟩;rw[beq_iff_eq,gF]at h;exact h▸a
 exact λh=>⟨x,h,by rw[beq_iff_eq,gF]⟩
def akO{l:Af}(h:l.Pairwise iA){i j:Nat}(a:i<j)(b:j<l.length):iA (l[i]' Cl) l[j]:=List.pairwise_iff_getElem.1 h i j Cl b a
def aBt(l:Af)(x:Val)(hs:l.Pairwise iA)(F:l.length<=1000000)(n:Nat)(C:∀y∈l,dY n y x=some (bQ y x)):∀(d lo hi:Nat),lo<=hi->hi<=l.length->hi - lo<=d->
  (∀i (h:i<l.length),i<lo->bQ l[i] x<0)->(∀i (h:i<l.length),hi<=i->¬bQ l[i] x<0)->
  ∃r:Nat,r<=l.length/\(∀i (h:i<l.length),i<r->bQ l[i] x<0)/\(∀i (h:i<l.length),r<=i->¬bQ l[i] x<0)/\∀k,d+1<=k->uL n l x k ((lo:Int),(hi:Int))=some (.nx (r:Int)):=by
 intro d
 induction d with
 |zero=>
  intro lo hi w o D p q;have:lo=hi:=by omega
  subst this;refine⟨lo,o,p,q,λk s=>?_⟩;obtain⟨j,rfl⟩:∃j,k=j+1:=⟨k - 1,by omega⟩;show dZ n l x _ _=_;unfold dZ;rw[d_0 cn];rfl
 |succ d u=>
  intro lo hi w o D p q;by_cases t:lo<hi
  ·have v:(lo+hi)/2<l.length:=by omega
   have z:=C l[(lo+hi)/2] (qAO v);have a:idx l (((lo+hi)/2:Nat):Int)=some l[(lo+hi)/2]:=by
    unfold idx;rw[if_pos Cl,qBM,qAc v]
   have A:IntKind.wrap .u64 (IntKind.wrap .i64 ((lo:Int)+(hi:Int)))=((lo+hi:Nat):Int):=by
    rw[wrap64 Cl Cl];simp only[IntKind.wrap]
    first
     |omega
     |(rw[Int.emod_eq_of_lt Cl Cp];omega)
     |(simp[IntKind.bits];omega)
   have B:as1 .u64 (((lo+hi:Nat)):Int) 1=some (((lo+hi)/2:Nat):Int):=by
    unfold as1;rw[if_pos ⟨by omega,by decide⟩];congr 1;rw[qDa _ (by decide)];rfl
   by_cases c:bQ l[(lo+hi)/2] x<0
   ·let⟨r,b,e,f,g⟩:=u ((lo+hi)/2+1) hi Cl o Cl (λi h E=>by
     rcases qDq i ((lo+hi)/2)with h'|h'
     ·exact BF _ _ _ (akO hs h' v) c
     have:i=(lo+hi)/2:=by omega
     subst this;exact c) q
    refine⟨r,b,e,f,λk s=>?_⟩;obtain⟨j,rfl⟩:∃j,k=j+1:=⟨k - 1,by omega⟩;show dZ n l x _ _=_;unfold dZ;rw[d_1 (by simpa using t)];simp only[c_1,A,B,qAb];rw[wrap64 Cl Cl];simp only[a,qAb,z];rw[d_1 c,c_1,wrap64 Cl Cl];exact g j Cl
   let⟨r,b,e,f,g⟩:=u lo ((lo+hi)/2) Cl Cl Cl p (λi h E m=>by
    rcases qDq ((lo+hi)/2) i with h'|h'
    ·exact c (BF _ _ _ (akO hs h' h) m)
    have:i=(lo+hi)/2:=by omega
    subst this;exact c m)
   refine⟨r,b,e,f,λk s=>?_⟩;obtain⟨j,rfl⟩:∃j,k=j+1:=⟨k - 1,by omega⟩;show dZ n l x _ _=_;unfold dZ;rw[d_1 (by simpa using t)];simp only[c_1,A,B,qAb];rw[wrap64 Cl Cl];simp only[a,qAb,z];rw[d_0 c,c_0];exact g j Cl
  let⟨r,b,e,f,g⟩:=u lo hi w o Cl p q;exact⟨r,b,e,f,λk s=>g k Cl⟩
def JI{l:Af}(hs:l.Pairwise iA)(g:l.length<=1000000)(x:Val):Ev (λn=>gL n l x) (aF l x):=by
 let⟨N,d⟩:=aHt l (λn y=>dY n y x) (λy=>bQ y x) λy _=>Eu y x;refine⟨N+l.length+1,λn p=>?_⟩;let⟨r,q,e,k,o⟩:=aBt l x hs g n (d n Cl) l.length 0 l.length Cl Cl Cl (λi _ h=>absurd h Cl) (λi h s=>absurd h Cl);have f:=o n Cl;show gL n l x=_;unfold gL pX;rw[show((0:Nat):Int)=0 from rfl]at f;rw[f];simp only[qAb,LR.el];by_cases a:r<l.length
 ·have c:idx l (r:Int)=some l[r]:=by
   unfold idx;rw[if_pos Cl,qBM,qAc a]
  rw[d_1 Cl];simp only[c_1,c,qAb,d n Cl l[r] (qAO a)];congr 1;rw[qCe,dN,beq_iff_eq,gF];constructor
  ·rintro rfl;exact qAO a
  intro m;obtain⟨j,b,rfl⟩:=qBy m;rcases Nat.lt_trichotomy j r with h|h|h
  ·exact absurd (e j b h) (by have:=(gF l[j] l[j]).2 rfl;omega)
  ·subst h;rfl
  exact absurd (akO hs h b) (k r a (qAd _))
 rw[d_0 Cl];simp only[c_0,qAb];congr 1;symm;rw[qDi];intro m;rw[dN]at m;obtain⟨j,b,rfl⟩:=qBy m;exact absurd (e j b Cl) (by have:=(gF l[j] l[j]).2 rfl;omega)
def dO(l:Af):Prop:=l.Pairwise iA/\l.length<=256
def fI(l:Af):Prop:=∀p∈l,∃a b,p.kids=[a,b]
def dO.has{l:Af}(h:dO l)(x:Val):Ev (λn=>(gL n l x).bind λ(a:Bool)=>some a) (aF l x):=e_0 (JI h.1 (by have:=h.2;omega) x) Cu
def fI.fst{l:Af}(h:fI l){p:Val}(c:p∈l):idx p.kids 0=some (aJ p):=by let⟨a,b,e⟩:=h p c;unfold aJ;rw[e];rfl
def fI.snd{l:Af}(h:fI l){p:Val}(c:p∈l):idx p.kids 1=some (aQ p):=by let⟨a,b,e⟩:=h p c;unfold aQ;rw[e];rfl
def Ap{l:Af}(h:dO l):l.length<=1000000:=by have:=h.2;omega
def acu{l:Af}(h:fI l)(b:l.length<=1000000):Ev (λn=>BH n l) (d9 l):=by
 have a:=mG l (λn=>Cb n l) (λi s=>(s,i)) (λx=>[aJ x]) 1000000 Cl (λn r s=>by unfold Cb;rw[at_end];rfl) (λp x u s e c=>⟨0,λn d r=>by unfold Cb;rw[(bg e).1];simp only[c_1,(bg e).2,qAb,h.fst (show x∈l by simp[e])];rw[dQ (by simpa using c)];rfl⟩) (s0:=[]) (by rw[flatMap_one];simpa using b)
 rw[flatMap_one,qAo]at a;unfold BH mkS;rw[if_pos ⟨by omega,by omega,by omega⟩];simp only[qAb];refine e_0 a ⟨0,λn _=>?_⟩;simp only[LR.el,kH];rw[dQ Cp];rfl
def PV{l:Af}(h:fI l)(b:l.length<=1000000):Ev (λn=>rz n l) (bC l):=by
 have a:=mG l (λn=>Ai n l) (λi s=>(s,i)) (λx=>[aQ x]) 1000000 Cl (λn r s=>by unfold Ai;rw[at_end];rfl) (λp x u s e c=>⟨0,λn d r=>by unfold Ai;rw[(bg e).1];simp only[c_1,(bg e).2,qAb,h.snd (show x∈l by simp[e])];rw[dQ (by simpa using c)];rfl⟩) (s0:=[]) (by rw[flatMap_one];simpa using b)
 rw[flatMap_one,qAo]at a;unfold rz mkS;rw[if_pos ⟨by omega,by omega,by omega⟩];simp only[qAb];refine e_0 a ⟨0,λn _=>?_⟩;simp only[LR.el,kH];rw[dQ Cp];rfl
def ae6(op:Int){a b l:Af}(g:a.Pairwise iA)(j:b.Pairwise iA)(k:a.length<=1000000)(lb:b.length<=1000000)(h:fI l)(f:l.length<=1000000):Ev (λn=>wu n op a b l) (lC op a b l):=by
 have c:=wI l (λn=>yj n a b l) (λi _=>i) (λx (_:Unit)=>cond (!(aF a (aJ x)&&aF b (aQ x))) (.rt false) (.nx ())) (λ_=>()) (λ_ _=>True) (λn r s=>by unfold yj;rw[at_end];rfl) (λm x u s e _=>⟨by let⟨N,c⟩:=JI g k (aJ x);let⟨M,d⟩:=JI j lb (aQ x);refine⟨N+M,λn o r=>?_⟩;have c:gL n a (aJ x)=_:=c n Cl;have d:gL n b (aQ x)=_:=d n Cl;unfold yj;rw[(bg e).1];simp only[c_1,(bg e).2,qAb,h.fst (show x∈l by simp[e]),h.snd (show x∈l by simp[e]),c,d];cases aF a (aJ x)<;>cases aF b (aQ x)<;>rfl,λ_ _=>trivial⟩) (s0:=()) trivial
 rw[Tg]at c;have e:l.all (λp=>aF a (aJ p)&&aF b (aQ p))=!(l.any λx=>!(aF a (aJ x)&&aF b (aQ x))):=by rw[<-List.not_all_eq_any_not,qCk]
 unfold wu lC;rw[e];refine e_0 c ?_;cases l.any λx=>!(aF a (aJ x)&&aF b (aQ x))with|true=>exact Cu|false=>
  refine e_0 (acu h f) (e_0 (PV h f) ⟨0,λn _=>?_⟩);unfold fU;simp only[qBb,qAu];cases op==41<;>cases op==42<;>cases op==43<;>cases op==44<;>simp only[c_1,c_0]<;>
   cases((d9 l).length:Int)==(l.length:Int)<;>cases((d9 l).length:Int)==(a.length:Int)<;>cases((bC l).length:Int)==(l.length:Int)<;>rfl
def Jg{α σ τ ρ:Type}(f:σ->α->σ)(i:σ->τ):∀(l:List α) (s:σ),fG (ρ:=ρ) (λx s=>.nx (f s x)) i l s=.nx (i (l.foldl f s))|[],s=>rfl|x::l,s=>by simp only[fG];rw[Jg f i l];rfl
def aiJ{l ys:List Af}(h:(l.length+ys.length)*24<=140737488355328):app 24 l ys=some (l++ys):=by
 unfold app
 grind
def aio{l:Af}(d:l.length<=8):Ev (λn=>Jh n l) (jr l):=by
 have f:=wI l (λn=>zY n l) (λi s=>(s,i)) (λx o=>.nx (o++o.map λr=>r++[x])) (λs=>s) (λu o=>o.length*2^u.length<=256/\∀r∈o,r.length+u.length<=8) (λn c s=>by unfold zY;rw[at_end];rfl) (λk x u o e a=>by
  simp at a;have m:1<=2^u.length:=qCZ;have t:o.length*2<=256:=by
   have:o.length*2*1<=o.length*2*2^u.length:=qDO _ m
   grind
  refine⟨?_,λy v=>?_⟩
  ·let⟨N,h⟩:=ajV (ρ:=List Af) o (λn=>zX n x o) (λi s=>(s,i)) (λs=>s) (λr=>[r++[x]]) 600 (λn c s=>by unfold zX;rw[at_end];rfl) (λp r g s b z=>⟨0,λn j c=>by
    have hr:=a.2 r (by simp[b]);unfold zX jZ;rw[(bg b).1];simp only[(bg b).2,qAb];rw[dQ Cp];simp;rw[dQ Cp];simp;rw[aiJ Cp];rfl⟩) (s0:=o) (by rw[flatMap_one];simp;omega)
   rw[flatMap_one]at h;refine⟨N,λn j c=>?_⟩;have h:Un n x o n (o,0)=_:=h n j;unfold zY zq;rw[(bg e).1];simp only[(bg e).2];rw[aiJ Cp]
   grind
  cases v;constructor
  ·simp
   grind
  ·intro r hr;rcases qAr.1 hr with hr|hr
   ·grind
   obtain⟨q,w,rfl⟩:=qAJ.1 hr;have:=a.2 q w;simp;omega) (s0:=[[]]) ⟨by
  have:2^l.length<=2^8:=qCS Cl d;simpa using this,by simpa using d⟩
 rw[Jg (ρ:=List Af) (λ(o:List Af) x=>o++o.map λr=>r++[x])]at f;exact e_0 f Cu
def Zb:∀(l:Af) (out:List Af),(l.foldl (λout x=>out++out.map λr=>r++[x]) out).length=out.length*2^l.length
 |[],out=>by simp
 |x::l,out=>by
  rw[qBg,Zb l]
  grind
def alU(n:Nat)(op x y:Int):Nf n op x y=some (kX op x y):=by
 unfold Nf kX
 grind
def alP{n:Nat}(h:n<=8):1<=2^n/\2^n<=256:=⟨qCZ,qCS (n:=2) Cl h⟩
def aAE(f:Nat){op:Int}(t:op=41∨op=42∨op=43∨op=44∨op=45){m n:Nat}(F:n<=256)(G:m<=256)(d:44<=op->m<=n):∀(k i c:Nat),i+k=m->1<=c->c<=256->∀j,k+1<=j->
  ∃r,Js f op m n j ((c:Int),(i:Int))=some r/\(match r with| .nx _=>false| .rt b=>b)=je op n k i c:=by
 intro k
 induction k with
 |zero=>
  intro i c w _ _ j x;obtain⟨j,rfl⟩:∃q,j=q+1:=⟨j - 1,by omega⟩;refine⟨.nx (),?_,rfl⟩;show uR f op m n _ _=_;unfold uR
  grind
 |succ k y=>
  intro i c w z A j x;obtain⟨j,rfl⟩:∃q,j=q+1:=⟨j - 1,by omega⟩;show ∃r,uR f op m n (Js f op m n j) _=some r/\_;unfold uR;rw[d_1 Cp];simp only[c_1];by_cases h:(op==41&&decide (8<(n:Int)))=true
  ·refine⟨.rt true,?_,?_⟩
   ·simp only[qAa,beq_iff_eq,decide_eq_true_eq]at h;rw[h.1,d_1 h.2];rfl
   unfold je;rw[h];rfl
  rw[qDp]at h;obtain⟨a,g,l,o⟩:∃a:Nat,yQ op n i=(a:Int)/\a<=257/\((cond (op==41) (cond (decide (8<(n:Int))) (some (.rt true)) ((adw 1 n).bind λ(B:Int)=>some (.nx B))) (cond (op==42) (some (.nx (IntKind.wrap .i64 ((n:Int)+1)))) (((cond (op==44) (some (op==44)) (some (op==45))):Ax).bind λ(C:Bool)=>cond C (some (.nx (IntKind.wrap .i64 ((n:Int) - (i:Int))))) (some (.nx (n:Int)))))):Option (LR Int Bool))=some (.nx (a:Int)):=by
   rcases t with rfl|rfl|rfl|rfl|rfl
   ·have u:decide (8<(n:Int))=false:=h;have p:n<=8:=by have:=of_decide_eq_false u;omega
    have H:=alP p;have e:adw 1 (n:Int)=some ((2^n:Nat):Int):=by
     unfold adw;rw[if_pos ⟨by omega,by omega⟩,qBM,Int.one_mul,wrap64]
     ·congr 1
     ·have:((2^n:Nat):Int)=(2:Int)^n:=by norm_cast
      omega
     have:((2^n:Nat):Int)=(2:Int)^n:=by norm_cast
     omega
    refine⟨2^n,?_,by omega,?_⟩
    ·show(2:Int)^(n:Int).toNat=_;rw[qBM];norm_cast
    rw[u,e];rfl
   ·exact⟨n+1,by show(n:Int)+1=_;omega,by omega,by
     show some (LR.nx (IntKind.wrap .i64 ((n:Int)+1)))=_;rw[wrap64 Cl Cl];rfl⟩
   ·exact⟨n,rfl,by omega,rfl⟩
   ·have:=d Cl;exact⟨n - i,by show(n:Int) - i=_;omega,by omega,by
     show some (LR.nx (IntKind.wrap .i64 ((n:Int) - i)))=_;rw[wrap64 Cl Cl];congr 2;omega⟩
   have:=d Cl;exact⟨n - i,by show(n:Int) - i=_;omega,by omega,by
    show some (LR.nx (IntKind.wrap .i64 ((n:Int) - i)))=_;rw[wrap64 Cl Cl];congr 2;omega⟩
  rw[o];unfold je;rw[h,g];simp only[qAb,c_0,LR.el];by_cases v:a=0
  ·subst v;exact⟨.rt false,rfl,rfl⟩
  rw[show((a:Int)==0)=false by simpa using v];have D:(c:Int)*(a:Int)=((c*a:Nat):Int):=by norm_cast
  have E:c*a<=256*257:=qCV A l;have s:1<=c*a:=qDS z Cl;rw[D,wrap64 Cl Cl];simp only[c_0];by_cases I:256<c*a
  ·rw[d_1 Cl];refine⟨.rt true,?_,rfl⟩;rcases t with rfl|rfl|rfl|rfl|rfl
   ·rfl
   ·rfl
   ·have:(a:Int)=n:=g.symm;simp only[c_1];rw[d_1 Cl];rfl
   ·rfl
   rfl
  rw[d_0 Cl];simp only[c_0,qAb];exact y (i+1) (c*a) Cl s Cl j Cl
def ayj{op:Int}(o:op=41∨op=42∨op=43∨op=44∨op=45){m n:Nat}(b:n<=256)(c:m<=256):Ev (λf=>Di f op m n) (!kX op m n&&je op n m 0 1):=by
 refine⟨m+1,λf d=>?_⟩;show Di f op m n=_;unfold Di;rw[alU];cases a:kX op m n with|true=>rfl|false=>
  let⟨r,e,g⟩:=aAE f o b c (λh=>by unfold kX at a;cases q:(op==45&&(m:Int)!=n)with|true=>rw[q]at a;cases a|false=>rw[q,d_1 h]at a;have:=of_decide_eq_false (show decide ((n:Int)<m)=false by simpa using a);omega) m 0 1 Cl Cl Cl f d
  grind
def iF{α β:Type}(g:α->List β)(m:Nat):∀(l:List α),(∀x∈l,(g x).length<=m)->(l.flatMap g).length<=l.length*m|[],_=>by simp|x::l,h=>by have b:=h x cn;have c:=iF g m l λy a=>h y (by simp[a]);rw[qBf,qAe,qAp,Nat.succ_mul];omega
def lq(op:Int)(n:Nat):Nat:=cond (op==41) (2^n) (cond (op==42) (n+1) n)
def ahw(op:Int)(a b:Af):∀(xs l:Af),(iM op a b xs l).length<=lq op b.length^xs.length
 |[],l=>by
  unfold iM;cases lC op a b l<;>simp
 |x::xs,l=>by
  have i:=ahw op a b xs;unfold iM;rw[qAp,qEe,qBK];by_cases h:op=41
  ·subst h;have:(jr b).length=2^b.length:=by unfold jr;rw[Zb];simp
   show((jr b).flatMap _).length<=2^b.length*_;rw[<-this];exact iF _ _ _ λm _=>i _
  rw[show(op==41)=false by simpa using h,c_0,qAe];have d:=iF (λv=>cond (decide (44<=op)&&aF (bC l) v) [] (iM op a b xs (l++[aG x v]))) (lq op b.length^xs.length) b λv _=>by
   grind
  by_cases c:op=42
  ·subst c;have f:=i l;have e:lq 42 b.length=b.length+1:=rfl;rw[e]at d f|-
   grind
  have e:lq op b.length=b.length:=by unfold lq;rw[show(op==41)=false by simpa using h,show(op==42)=false by simpa using c];rfl
  grind
def YN{op:Int}(o:op=41∨op=42∨op=43){n:Nat}:∀(k:Nat) (i:Int) (c:Nat),lq op n≠0->c<=256->je op n k i c=false->c*lq op n^k<=256
 |0,i,c,_,a,_=>by simpa using a
 |k+1,i,c,d,a,h=>by
  have f:yQ op n i=(lq op n:Int):=by
   rcases o with rfl|rfl|rfl
   ·show(2:Int)^(n:Int).toNat=((2^n:Nat):Int)
    grind
   ·rfl
   rfl
  unfold je at h;rw[f,show((lq op n:Int)==0)=false by simpa using d]at h;cases e:(op==41&&decide (8<(n:Int)))with
  |true=>rw[e]at h;cases h
  |false=>
   rw[e]at h;rw[show(c:Int)*(lq op n:Int)=((c*lq op n:Nat):Int) by norm_cast]at h;cases b:decide (256<((c*lq op n:Nat):Int))with
   |true=>rw[b]at h;cases h
   |false=>
    rw[b]at h;have:=of_decide_eq_false b;have:=YN o k (i+1) (c*lq op n) d Cl h
    grind
def fct:Nat->Nat|0=>1|k+1=>(k+1)*fct k
def ap5{op:Int}(o:op=44∨op=45){n:Nat}:∀(k i c:Nat),i+k<=n->c<=256->je op n k i c=false->c*fct k<=256
 |0,i,c,_,a,_=>by simpa[fct]using a
 |k+1,i,c,g,a,h=>by
  have f:yQ op n i=((n - i:Nat):Int):=by
   rcases o with rfl|rfl
   ·show(n:Int) - i=_;omega
   show(n:Int) - i=_;omega
  unfold je at h;rw[f,show(((n - i:Nat):Int)==0)=false by simp;omega]at h;have e:(op==41&&decide (8<(n:Int)))=false:=by rcases o with rfl|rfl<;>rfl
  rw[e]at h;rw[show(c:Int)*((n - i:Nat):Int)=((c*(n - i):Nat):Int) by norm_cast]at h;cases b:decide (256<((c*(n - i):Nat):Int))with
  |true=>rw[b]at h;cases h
  |false=>
   rw[b]at h;have:=of_decide_eq_false b;have d:=ap5 o k (i+1) (c*(n - i)) Cl Cl h;have:c*((k+1)*fct k)<=c*((n - i)*fct k):=qDO _ (qAQ _ Cl);rw[Nat.mul_assoc]at d;exact qAs this d
def av3:∀k,6<=k->720<=fct k
 |0,h=>by omega
 |k+1,h=>by
  unfold fct;by_cases a:6<=k
  ·have:=av3 k a
   grind
  have:k=5:=by omega
  subst this
  decide
def agm{op:Int}(o:op=41∨op=42∨op=43∨op=44∨op=45){a b:Af}(i:a.length<=256)(d:b.length<=256)(n:kX op a.length b.length=false)(m:je op b.length a.length 0 1=false):lq op b.length^a.length<=2199023255552:=by
 by_cases l:op=41∨op=42∨op=43
 ·by_cases c:lq op b.length=0
  ·rw[c];cases a.length with
   |zero=>decide
   |succ k=>rw[Nat.zero_pow Cl];omega
  have:=YN l a.length 0 1 c Cl m;omega
 have o:op=44∨op=45:=by omega
 have f:a.length<=b.length:=by
  unfold kX at n
  grind
 have j:=ap5 o a.length 0 1 Cl Cl m;have g:a.length<=5:=by
  rcases qDq a.length 6 with h|h
  ·omega
  have:=av3 _ h;omega
 have e:lq op b.length=b.length:=by rcases o with rfl|rfl<;>rfl
 rw[e]
 calc b.length^a.length<=256^a.length:=Nat.pow_le_pow_left d _
  _<=256^5:=qCS Cl g
  _<=_:=by decide
def aE9{op:Int}(ho:op=41∨op=42∨op=43∨op=44∨op=45){a b:Af}(G:dO a)(U:dO b)(Z:op=41->a≠[]->b.length<=8):∀(xs c l out:Af),a=c++xs->fI l->l.length+8*xs.length<=100000->(out.length+(iM op a b xs l).length)*56<=140737488355328->
  Ev (λn=>iP n c.length l a op b out) (out++iM op a b xs l):=by
 intro xs
 induction xs with
 |nil=>
  intro c l out hp hr H d;refine Ev.succ ?_;show Ev (λn=>nS n _ (c.length:Int) l a op b out) _;unfold nS;rw[show((c.length:Int)==(a.length:Int))=true by rw[hp];simp];simp only[c_1];simp only[qAA]at H;unfold iM at d|-;refine e_0 (a:=out++cond (lC op a b l) [gH l] []) ?_ Cu;refine e_0 (ae6 op G.1 U.1 (Ap G) (Ap U) hr Cl) ?_;cases hB:lC op a b l with
  |false=>simp only[c_0,qAt];exact Cu
  |true=>
   rw[hB]at d;simp only[c_1,qAp,qAA]at d|-;refine⟨0,λn _=>?_⟩;unfold kH;rw[dQ Cp,dQ (by simpa using d)];simp only[qAb,qAo,gJ];congr 1;unfold upd;rw[qBM,List.set_append_right _ _ (qAd _),Nat.sub_self];rfl
 |cons x xs I=>
  intro c l out hp hr H d;have V:idx a (c.length:Int)=some x:=(bg hp).2;have J:((c.length:Int)==(a.length:Int))=false:=by rw[hp];simp;omega
  have hpl:c.length<=256:=by have:=G.2;rw[hp]at this;simp at this;omega
  have K:IntKind.wrap .i64 ((c.length:Int)+1)=((c++[x]).length:Int):=by rw[wrap64 Cl Cl];simp
  have w:a=(c++[x])++xs:=by simp[hp]
  simp only[qAp]at H;have o:∀(m:Af) (W:Af),fI m->fI (m++W.map (aG x)):=by
   intro m W hm p hp;rcases qAr.1 hp with hp|hp
   ·exact hm p hp
   obtain⟨v,_,rfl⟩:=qAJ.1 hp;exact⟨x,v,rfl⟩
  refine Ev.succ ?_;show Ev (λn=>nS n (iP n) (c.length:Int) l a op b out) _;unfold nS;rw[J];simp only[c_0];unfold iM at d|-;by_cases B:op=41
  ·subst B;have L:=Z rfl (by rw[hp];simp);simp only[show((41:Int)==41)=true from rfl,c_1]at d|-;refine e_0 (aio L) ?_;have C:∀j∈jr b,j.length<=8:=by
    have M:∀(q:Af) (A:List Af) (k:Nat),(∀r∈A,r.length<=k)->∀r∈q.foldl (λout x=>out++out.map λr=>r++[x]) A,r.length<=k+q.length:=by
     intro q
     induction q with
     |nil=>intro A k h r hr;simpa using h r hr
     |cons y q O=>
      intro A k h r hr;rw[qBg]at hr;have:=O (A++A.map λr=>r++[y]) (k+1) (λr hr=>by
       rcases qAr.1 hr with hr|hr
       ·have:=h r hr;omega
       obtain⟨z,hz,rfl⟩:=qAJ.1 hr;have:=h z hz;simp;omega) r hr
      simp only[qAp];omega
    intro j D;have:=M b [[]] 0 cn j D;omega
   have t:=mG (ρ:=Af) (jr b) (λn=>tZ n (iP n) (c.length:Int) l a 41 b (jr b)) (λi s=>(i,s)) (λj=>iM 41 a b xs (l++j.map (aG x))) _ d (λn f s=>by unfold tZ;rw[at_end];rfl) (λp2 j s2 s e g=>by
    have D:=C j (by simp[e]);let⟨N,t⟩:=I (c++[x]) (l++j.map (aG x)) s w (o l j hr) Cp g;let⟨N2,E⟩:=mG (ρ:=Af) j (λn=>uh n (iP n) (c.length:Int) a j) (λi s=>(s,i)) (λv=>[aG x v]) 200000 Cl (λn f s=>by unfold uh;rw[at_end];rfl) (λp3 v s3 s X g=>⟨0,λn F f=>by
     unfold uh;rw[(bg X).1];simp only[c_1,(bg X).2,qAb,V];rw[dQ (by simpa using g)];rfl⟩) (s0:=l) (by rw[flatMap_one];simp;omega)
    rw[flatMap_one]at E;refine⟨N+N2,λn F f=>?_⟩;have E:KD n (iP n) (c.length:Int) a j n (l,0)=_:=E n Cl;have t:iP n _ _ _ _ _ _=_:=t n Cl;unfold tZ jZ;rw[(bg e).1];simp only[c_1,(bg e).2,qAb];rw[dQ Cp];simp only[qAb,qAo,E,LR.el];rw[K,t];rfl) (s0:=out) (qAd _)
   exact e_0 t Cu
  rw[show(op==41)=false by simpa using B]at d|-;simp only[c_0]at d|-;refine e_0 (a:=out++cond (op==42) (iM op a b xs l) []) ?_ ?_
  ·cases P:(op==42)with
   |false=>simp only[c_0,qAt];exact Cu
   |true=>
    rw[P]at d;simp only[c_1,qAe]at d|-;rw[K];exact e_0 (I (c++[x]) l out w hr Cl Cl) Cu
  rw[<-qAm];have Q:((out++cond (op==42) (iM op a b xs l) []).length+(b.flatMap λv=>cond (decide (44<=op)&&aF (bC l) v) [] (iM op a b xs (l++[aG x v]))).length)*56<=140737488355328:=by
   simp only[qAe]at d|-;omega
  have t:=mG (ρ:=Af) b (λn=>oN n (iP n) (c.length:Int) l a op b) (λi s=>(i,s)) (λv=>cond (decide (44<=op)&&aF (bC l) v) [] (iM op a b xs (l++[aG x v]))) _ Q (λn f s=>by unfold oN;rw[at_end];rfl) (λp2 v s2 s e g=>by
   obtain⟨Y,u⟩:Ev (λn=>((cond (decide (44<=op)) ((rz n l).bind λ(R:Af)=>(gL n R v).bind λ(S:Bool)=>some S) (some false)):Ax)) (decide (44<=op)&&aF (bC l) v):=by
    cases decide (44<=op)with
    |false=>exact Cu
    |true=>
     simp only[c_1,qAu];refine e_0 (PV hr Cl) (e_0 (JI (cZ _) ?_ v) Cu);have:=eP (l.map aQ);simp only[qAi]at this;show(sortV _).length<=_;omega
   cases T:(decide (44<=op)&&aF (bC l) v)with
   |true=>
    refine⟨Y,λn F f=>?_⟩;have u:=u n F;simp only[T]at u;unfold oN;rw[(bg e).1];simp only[c_1,(bg e).2,qAb,u,qAt]
   |false=>
    rw[T]at g;let⟨N,t⟩:=I (c++[x]) (l++[aG x v]) s w (o l [v] hr) Cp g;refine⟨N+Y,λn F f=>?_⟩;have u:=u n Cl;simp only[T]at u;have t:iP n _ _ _ _ _ _=_:=t n Cl;unfold oN jZ;rw[(bg e).1];simp only[c_1,c_0,(bg e).2,qAb,u];rw[dQ Cp];simp only[qAb,qAo,V];rw[dQ Cp];simp only[qAb];rw[K,show(Val.mk 4 0 [] [x,v])=aG x v from rfl,t];rfl) (s0:=out++cond (op==42) (iM op a b xs l) []) (qAd _)
  exact e_0 t Cu
def pzl(r:xU):PZ Af Unit:=match r with| .ok l=>.ok l| .er e=>.er e ()
def arU{op:Int}(o:op=41∨op=42∨op=43∨op=44∨op=45){a b:Af}(h:dO a)(c:dO b):Ev (λn=>D9 n op a b) (pzl (l8 op a b)):=by
 unfold D9 l8;refine e_0 (ayj o c.2 h.2) ?_;cases d:kX op a.length b.length with|true=>refine⟨0,λn _=>?_⟩;simp only[alU,d];rfl|false=>
  cases m:je op b.length a.length 0 1 with|true=>exact Cu|false=>
   have k:=agm o h.2 c.2 d m;have l:=ahw op a b a [];have i:=aE9 o h c (λe f=>by
    subst e;cases a with|nil=>exact absurd rfl f|cons x a=>unfold je at m;cases g:decide (8<(b.length:Int))with|true=>rw[g]at m;cases m|false=>have:=of_decide_eq_false g;omega) a [] [] [] rfl (λp j=>by cases j) (by have:=h.2;simp;omega) Cp
   simp only[alU,d,qAb];exact e_0 i Cu
def pz(r:VR):PZ Val Unit:=match r with| .ok v=>.ok v| .er e=>.er e ()
def Ev.pz{f:Nat->Option (PZ Val Unit)}{r:VR}(h:Ev f (pz r)):Ev (λn=>(f n).bind (PZ.el (λx=>some (.ok x)) (λe _=>some (.er e ())))) (Abs.pz r):=by refine e_0 h ?_;cases r<;>exact Cu
def Ev.cnd{α β:Type}(P:β->α){b:Bool}{f g:Nat->Option α}{x y:β}(h:b=true->Ev f (P x))(h2:b=false->Ev g (P y)):Ev (λn=>cond b (f n) (g n)) (P (cond b x y)):=by
 cases b;·grind
 grind
def int_eq(n:Nat)(x:Int):jK n x=some (pz (gM x)):=by unfold jK gM ab1;cases decide (1000000000<x)<;>cases decide (x< -1000000000)<;>rfl
def M5(x:Int):Ev (λn=>jK n x) (pz (gM x)):=Ev.of λn=>int_eq n x
def CQ(b:Bool):Ev (λn=>bN n b) (aO b):=by cases b<;>exact Cu
def EU(x:Int):Prop:= -1000000000<=x/\x<=1000000000
def aGO{a b:Int}(h:EU a)(c:EU b): -1000000000000000000<=a*b/\a*b<=1000000000000000000:=by
 have d:a.natAbs<=1000000000:=by have:=h.1;have:=h.2;omega
 have e:b.natAbs<=1000000000:=by have:=c.1;have:=c.2;omega
 have f:(a*b).natAbs<=1000000000*1000000000:=by rw[Int.natAbs_mul];exact qCV d e
 omega
def aBM{op a b:Int}(c:EU a)(d:EU b):Ev (λn=>JX n op a b) (pz (ai1 op a b)):=by
 have e:=c.1;have f:=c.2;have g:=d.1;have i:=d.2;refine Ev.cnd pz (λ_=>?_) λ_=>Ev.cnd pz (λ_=>?_) λ_=>Ev.cnd pz (λ_=>?_) λ_=>Ev.cnd pz (λ_=>?_) λ_=>Ev.cnd pz (λ_=>Ev.cnd pz (λ_=>Ev.ret _) λh=>?_) λ_=>?_
 ·rw[Int.zero_sub,wrap64 Cl Cl];exact Ev.pz (M5 _)
 ·rw[wrap64 Cl Cl];exact Ev.pz (M5 _)
 ·rw[wrap64 Cl Cl];exact Ev.pz (M5 _)
 ·have:=aGO c d;rw[wrap64 Cl Cl];exact Ev.pz (M5 _)
 ·have z:¬b=0:=by simpa using h
  have j:(Int.tdiv a b).natAbs<=1000000000:=by rw[Int.natAbs_tdiv];exact qAs (Nat.div_le_self a.natAbs b.natAbs) Cl
  refine e_0 (a:=Int.tdiv a b) (Ev.of λ_=>?_) (Ev.pz (M5 _));unfold abO;rw[if_neg z,wrap64 Cl Cl]
 refine e_0 (a:=decide (a<0) ||decide (b<1)) ?_ (Ev.cnd pz (λ_=>Ev.ret _) λh=>?_);·cases decide (a<0)<;>exact Cu
 have z:¬b=0:=by rw[qBL]at h;have:=of_decide_eq_false h.2;omega
 refine e_0 (a:=Int.tmod a b) (Ev.of λ_=>?_) (Ev.pz (M5 _));unfold Vr
 grind
def aqR{l:Af}(h:l.length*56<=140737488355328):Ev (λn=>Ab n l) (pz (bF l)):=by unfold Ab kH bF;rw[dQ (by simpa using h)];exact Ev.cnd pz (λ_=>Ev.ret _) λ_=>Ev.ret _
def apn(n:Nat):LR Af (PZ Val Unit)->Option (PZ Val Unit):=LR.el (λs=>(Ab n s).bind (PZ.el (λx=>some (.ok x)) (λe _=>some (.er e ())))) (λr=>some r)
def EvS(f:Nat->Option (LR Af (PZ Val Unit)))(r:xU):Prop:=Ev (λn=>(f n).bind (apn n)) (pz (r.thn bF))
def EvS.cnd{b:Bool}{f g:Nat->Option (LR Af (PZ Val Unit))}{x y:xU}(h:b=true->EvS f x)(h2:b=false->EvS g y):EvS (λn=>cond b (f n) (g n)) (cond b x y):=by
 cases b;·grind
 grind
def EvS.er:EvS (λ_=>some (.rt (.er 11 ()))) (.er 11):=Ev.ret _
def EvS.of{F:Nat->Option (LR Af (PZ Val Unit))}{l:Af}(h:Ev F (.nx l))(a:l.length*56<=140737488355328):EvS F (.ok l):=by have k:Ev (λn=>apn n (.nx l)) (pz (bF l)):=Ev.pz (aqR a);exact e_0 (g:=λx n=>apn n x) h k
def EvS.lp{f:Nat->Option (LR Af (PZ Val Unit))}{l:Af}(h:Ev f (.nx l))(a:l.length<=1000000):EvS (λn=>(f n).bind (LR.el (λs=>some (.nx s)) (λr=>some (.rt r)))) (.ok l):=EvS.of (e_0 h Cu) Cl
def EvS.ok{f:Nat->Option Af}{l:Af}(h:Ev f l)(a:l.length<=1000000):EvS (λn=>(f n).bind λx=>some (.nx x)) (.ok l):=EvS.of (e_0 h Cu) Cl
def anS(a b:Af)(h:a.length+b.length<=1000000):Ev (λn=>qg n [a,b]) (a++b):=by
 refine⟨4,λn c=>?_⟩;obtain⟨j,rfl⟩:∃j,n=j+3:=⟨n - 3,by omega⟩;have d:xJ (j+3) [a,b] (j+3) (0,0)=some (.nx ((a.length:Int)+b.length)):=by
  show mH (j+3) [a,b] (mH (j+3) [a,b] (mH (j+3) [a,b] (xJ (j+3) [a,b] j))) (0,0)=_;unfold mH;simp only[qAp,qAA,show decide ((0:Int)<((0+1+1:Nat):Int))=true from rfl,show idx [a,b] 0=some a from rfl,show idx [a,b] (0+1)=some b from rfl,qAb];rw[wrap64 Cl Cl,d_0 Cl];simp;rw[wrap64 Cl Cl,d_0 Cl]
  grind
 have e:xL (j+3) [a,b] (j+3) ([],0)=some (.nx (a++b)):=by show mF (j+3) [a,b] (mF (j+3) [a,b] (mF (j+3) [a,b] (xL (j+3) [a,b] j))) ([],0)=_;unfold mF;simp only[show idx [a,b] 0=some a from rfl,show idx [a,b] (0+1)=some b from rfl,qAb];rw[dQ Cp];simp;rw[dQ Cl];rfl
 unfold qg Fw
 grind
def anq(f:Nat)(b:Val)(c:EU b.n):∀(k:Nat) (x:Int) (a:Af),EU x->x+k=b.n+1->(a.length+k)<=1000000->∀j,k+1<=j->Rh f b j (a,x)=some (.nx (a++ints x k))
 |0,x,a,_,h,_,j,e=>by
  obtain⟨j,rfl⟩:∃q,j=q+1:=⟨j - 1,by omega⟩;show nH f b _ _=_;unfold nH;rw[d_0 Cp];simp[ints]
 |k+1,x,a,d,h,l,j,e=>by
  obtain⟨j,rfl⟩:∃q,j=q+1:=⟨j - 1,by omega⟩;have m:=d.1;have n:=d.2;have o:=c.2;show nH f b (Rh f b j) _=_;unfold nH;rw[d_1 Cp];have g:gM x=.ok (iY x):=by
   unfold gM ab1
   grind
  simp only[int_eq,g,qAb,pz,PZ.el];rw[dQ Cp];simp;rw[wrap64 Cl Cl];cases k with
  |zero=>
   obtain⟨i,rfl⟩:∃q,j=q+1:=⟨j - 1,by omega⟩;show nH f b _ _=_;unfold nH;rw[d_0 Cp];rfl
  |succ k=>
   rw[anq f b c (k+1) (x+1) (a++[iY x]) ⟨by omega,by omega⟩ Cl Cp j Cl];simp[ints]
def ag1:∀(k:Nat) (x:Int),(ints x k).length=k|0,_=>rfl|k+1,x=>by rw[ints,qAp,ag1 k]
def EA(p:Val->Bool){l:Af}(h:dO l):(l.filter p).length<=256:=qAs (qCJ p l) h.2
def fI.F8{l:Af}(h:fI l)(p:Val->Bool):fI (l.filter p):=λx a=>h x (qBa.1 a).1
def Y0{β:Type}{a b:Af}(g:Val->List β)(h:dO a)(c:∀x∈a,(g x).length<=256):(a.flatMap g).length<=65536:=by have:=iF g 256 a c;have d:=qAQ 256 h.2;omega
def Ev.aw2{f:Nat->Ax}{b:Bool}(h:Ev f b):Ev (λn=>(f n).bind λ(x:Bool)=>some (!x)) (!b):=e_0 h Cu
def Ev.same{f:Nat->Ax}{b:Bool}(h:Ev f b):Ev (λn=>(f n).bind λ(x:Bool)=>some x) b:=e_0 h Cu
def aEJ(a b:Val)(g:dO a.kids)(j:dO b.kids):Ev (λn=>abg n a b n (([]:Af),0)) (.nx (a.kids.flatMap λx=>b.kids.map (aG x))):=by
 have:=Y0 (b:=b.kids) (λx=>b.kids.map (aG x)) g (λx _=>by simpa using j.2);refine mG (ρ:=PZ Val Unit) a.kids (λn=>Gz n a b) (λi s=>(s,i)) _ 1000000 Cl (λn r s=>by unfold Gz;rw[at_end];rfl) (λp x u s e d=>?_) (s0:=[]) (by simp only[qAA];omega);let⟨N,h⟩:=mG (ρ:=PZ Val Unit) b.kids (λn=>Gt n b x) (λi s=>(s,i)) (λy=>[aG x y]) _ d (λn r s=>by unfold Gt;rw[at_end];rfl) (λk y l s c d=>⟨0,λn f r=>by unfold Gt;rw[(bg c).1];simp only[(bg c).2,qAb];rw[dQ (by simpa using d)];rfl⟩) (s0:=s) (by rw[flatMap_one];exact qAd _)
 rw[flatMap_one]at h;refine⟨N,λn f r=>?_⟩;have h:ab4 n b x n (s,0)=_:=h n f;unfold Gz;rw[(bg e).1];simp only[c_1,(bg e).2,qAb,h]
def aEs(a b:Val)(m:dO a.kids)(o:dO b.kids)(g:fI a.kids)(j:fI b.kids):Ev (λn=>acY n a b n (([]:Af),0)) (.nx (a.kids.flatMap λp=>b.kids.flatMap λq=>cond (eD (aQ p) (aJ q)) [aG (aJ p) (aQ q)] [])):=by
 have t:∀p,(b.kids.flatMap λq=>cond (eD (aQ p) (aJ q)) [aG (aJ p) (aQ q)] []).length<=256:=λp=>by have:=iF (λq=>cond (eD (aQ p) (aJ q)) [aG (aJ p) (aQ q)] []) 1 b.kids (λq _=>by cases eD (aQ p) (aJ q)<;>simp);have:=o.2;omega
 have:=Y0 (b:=b.kids) (λp=>b.kids.flatMap λq=>cond (eD (aQ p) (aJ q)) [aG (aJ p) (aQ q)] []) m (λx _=>t x);refine mG (ρ:=PZ Val Unit) a.kids (λn=>GI n a b) (λi s=>(s,i)) _ 1000000 Cl (λn r s=>by unfold GI;rw[at_end];rfl) (λu x v s e d=>?_) (s0:=[]) (by simp only[qAA];omega);have k:x∈a.kids:=by simp[e]
 let⟨N,h⟩:=mG (ρ:=PZ Val Unit) b.kids (λn=>Gv n b x) (λi s=>(s,i)) (λq=>cond (eD (aQ x) (aJ q)) [aG (aJ x) (aQ q)] []) _ d (λn r s=>by unfold Gv;rw[at_end];rfl) (λz y A s c d=>by
  have l:y∈b.kids:=by simp[c]
  let⟨N,h⟩:=Eu (aQ x) (aJ y);refine⟨N,λn f r=>?_⟩;have h:dY n (aQ x) (aJ y)=_:=h n f;unfold Gv;rw[(bg c).1];simp only[(bg c).2,qAb,g.fst k,g.snd k,j.fst l,j.snd l,h];unfold eD at d|-;cases w:(bQ (aQ x) (aJ y)==0)with|false=>simp|true=>rw[w]at d;rw[dQ (by simpa using d)];rfl) (s0:=s) (qAd _)
 refine⟨N,λn f r=>?_⟩;have h:abP n b x n (s,0)=_:=h n f;unfold GI;rw[(bg e).1];simp only[c_1,(bg e).2,qAb,h]
def aFp(x:List Af)(a:x.length<=1000000):Ev (λn=>adq n x n (([]:Af),0)) (.nx (x.map mkSet)):=by
 have h:=mG (ρ:=PZ Val Unit) x (λn=>Gj n x) (λi s=>(s,i)) (λy=>[mkSet y]) 1000000 Cl (λn r s=>by unfold Gj;rw[at_end];rfl) (λp y c s e b=>⟨0,λn d r=>by unfold Gj;rw[(bg e).1];simp only[(bg e).2,qAb];rw[dQ (by simpa using b)];rfl⟩) (s0:=[]) (by rw[flatMap_one];simpa using a)
 rwa[flatMap_one]at h
def aHO(a:Val)(d:dO a.kids)(c:fI a.kids):Ev (λn=>adB n a n (([]:Af),0)) (.nx (a.kids.map λp=>aG (aQ p) (aJ p))):=by
 have h:=mG (ρ:=PZ Val Unit) a.kids (λn=>GA n a) (λi s=>(s,i)) (λp=>[aG (aQ p) (aJ p)]) 1000000 Cl (λn r s=>by unfold GA;rw[at_end];rfl) (λf y g s e b=>⟨0,λn j r=>by unfold GA;rw[(bg e).1];simp only[(bg e).2,qAb,c.fst (show y∈a.kids by simp[e]),c.snd (show y∈a.kids by simp[e])];rw[dQ (by simpa using b)];rfl⟩) (s0:=[]) (by rw[flatMap_one];have:=d.2;simp;omega)
 rwa[flatMap_one]at h
structure SetsOk(op:Int)(a b:Val):Prop where
 n:op=30→EU a.n∧EU b.n
 s:op≠30→dO a.kids∧dO b.kids
 a:(35≤op∧op≤36∨39≤op∧op≤40∨50≤op∧op≤54)→fI a.kids
 b:35≤op∧op≤38→fI b.kids
def aEq{op:Int}{a b:Val}(R:30<=op/\op<=53/\¬(47<=op/\op<=49))(h:SetsOk op a b):Ev (λn=>Tw n op a b) (pz ((sF op a b).thn bF)):=by
 unfold Tw;show EvS (λn=>_) (sF op a b);unfold sF;refine EvS.cnd (λe=>?_) λi=>?_
 ·let⟨c,d⟩:=h.n (eq_of_beq e);have S:=c.1;have T:=c.2;have U:=d.1;have V:=d.2;rw[wrap64 Cl Cl];refine EvS.cnd (λ_=>EvS.er) λs=>?_;have s:=of_decide_eq_false s;refine EvS.lp ?_ (by rw[ag1];omega);by_cases o:a.n<=b.n
  ·exact⟨(b.n+1 - a.n).toNat+1,λn t=>anq n b d (b.n+1 - a.n).toNat a.n [] c Cl Cp n t⟩
  refine⟨1,λn t=>?_⟩;obtain⟨j,rfl⟩:∃q,n=q+1:=⟨n - 1,by omega⟩;show nH (j+1) b _ _=_;unfold nH;rw[d_0 o,show(b.n+1 - a.n).toNat=0 by omega];rfl
 have i:op≠30:=by simpa using i
 let⟨c,d⟩:=h.s i;have u:=c.2;have v:=d.2;refine EvS.cnd (λe=>EvS.ok (anS _ _ Cl) Cp) λA=>?_;refine EvS.cnd (λe=>EvS.ok (D5 a.kids (λn x=>xH n x b.kids) (aF b.kids) (λx _=>d.has x) (Ap c)) (by have:=EA (aF b.kids) c;omega)) λB=>?_;refine EvS.cnd (λe=>EvS.ok (D5 a.kids (λn x=>Ve n x b.kids) _ (λx _=>Ev.aw2 (d.has x)) (Ap c)) (qAs (EA _ c) Cl)) λC=>?_;refine EvS.cnd (λe=>?_) λD=>?_
 ·have W:a.kids.length*b.kids.length<=256*256:=qCV u v;rw[show(a.kids.length:Int)*(b.kids.length:Int)=((a.kids.length*b.kids.length:Nat):Int) by norm_cast,wrap64 Cl Cl];exact EvS.cnd (λ_=>EvS.er) λ_=>EvS.lp (aEJ a b c d) (qAs (Y0 (b:=b.kids) _ c (λx _=>by simpa using d.2)) Cl)
 refine EvS.cnd (λe=>?_) λh35=>?_
 ·have e:=eq_of_beq e;have m:=h.a Cl;have w:dO (d9 b.kids):=⟨cZ _,by have:=eP (b.kids.map aJ);unfold d9;simp at this;omega⟩;refine EvS.of (e_0 (acu (h.b Cl) (Ap d)) (e_0 (D5 a.kids (λn x=>Md n x (d9 b.kids)) (λx=>!aF (d9 b.kids) (aJ x)) (λx f=>?_) (Ap c)) (e_0 (anS _ _ ?_) Cu))) ?_
  ·unfold Md;rw[m.fst f];exact Ev.aw2 (JI w.1 (Ap w) _)
  ·have:=EA (λx=>!aF (d9 b.kids) (aJ x)) c;omega
  have:=EA (λx=>!aF (d9 b.kids) (aJ x)) c;rw[qAe];omega
 refine EvS.cnd (λe=>?_) λE=>?_
 ·have e:=eq_of_beq e;refine EvS.lp (aEs a b c d (h.a Cl) (h.b Cl)) (qAs (Y0 (b:=b.kids) _ c (λp _=>?_)) Cl);have:=iF (λq=>cond (eD (aQ p) (aJ q)) [aG (aJ p) (aQ q)] []) 1 b.kids (λq _=>by cases eD (aQ p) (aJ q)<;>simp);omega
 refine EvS.cnd (λe=>EvS.ok (D5 b.kids (λn x=>MI n x a.kids) _ (λx f=>?_) (Ap d)) (qAs (EA _ d) Cl)) λF=>?_
 ·unfold MI;rw[(h.b (by have:=eq_of_beq e;omega)).fst f];exact Ev.same (c.has _)
 refine EvS.cnd (λe=>EvS.ok (D5 b.kids (λn x=>MG n x a.kids) _ (λx f=>?_) (Ap d)) (qAs (EA _ d) Cl)) λG=>?_
 ·unfold MG;rw[(h.b (by have:=eq_of_beq e;omega)).fst f];exact Ev.aw2 (c.has _)
 refine EvS.cnd (λe=>EvS.ok (D5 a.kids (λn x=>Mv n x b.kids) _ (λx f=>?_) (Ap c)) (qAs (EA _ c) Cl)) λH=>?_
 ·unfold Mv;rw[(h.a (by have:=eq_of_beq e;omega)).snd f];exact Ev.same (d.has _)
 refine EvS.cnd (λe=>EvS.ok (D5 a.kids (λn x=>Mg n x b.kids) _ (λx f=>?_) (Ap c)) (qAs (EA _ c) Cl)) λI=>?_
 ·unfold Mg;rw[(h.a (by have:=eq_of_beq e;omega)).snd f];exact Ev.aw2 (d.has _)
 refine EvS.cnd (λe=>EvS.cnd (λ_=>EvS.er) λy=>?_) λJ=>?_
 ·have y:=of_decide_eq_false y;have K:(jr a.kids).length<=256:=by unfold jr;rw[Zb];have:=(alP (show a.kids.length<=8 by omega)).2;simpa using this
  exact EvS.of (e_0 (aio Cl) (e_0 (aFp _ Cl) Cu)) (by simp only[qAi];omega)
 refine EvS.cnd (λe=>EvS.ok (acu (h.a (by have:=eq_of_beq e;omega)) (Ap c)) ?_) λL=>?_
 ·have:=eP (a.kids.map aJ);unfold d9;simp at this;omega
 refine EvS.cnd (λe=>EvS.ok (PV (h.a (by have:=eq_of_beq e;omega)) (Ap c)) ?_) λM=>?_
 ·have:=eP (a.kids.map aQ);unfold bC;simp at this;omega
 refine EvS.cnd (λe=>EvS.lp (aHO a c (h.a (by have:=eq_of_beq e;omega))) Cp) λN=>?_;refine EvS.cnd (λe=>?_) λO=>?_
 ·have m:=h.a (by have:=eq_of_beq e;omega);have X:=EA (λp=>aF b.kids (aJ p)) c;refine EvS.of (e_0 (D5 a.kids (λn x=>Mj n x b.kids) (λp=>aF b.kids (aJ p)) (λx f=>?_) (Ap c)) (e_0 (PV (m.F8 _) Cl) Cu)) ?_
  ·unfold Mj;rw[m.fst f];exact Ev.same (d.has _)
  have:=eP ((a.kids.filter (λp=>aF b.kids (aJ p))).map aQ);unfold bC;simp only[qAi]at this;omega
 have z:op=41∨op=42∨op=43∨op=44∨op=45:=by simp only[beq_eq_false_iff_ne,ne_eq]at *;omega
 have r:=arU z c d;have k:(l8 op a.kids b.kids)=.er 11∨∃l,l8 op a.kids b.kids=.ok l/\l.length<=2199023255552:=by
  unfold l8;cases P:kX op a.kids.length b.kids.length with|true=>exact .inr ⟨[],rfl,by simp⟩|false=>cases Q:je op b.kids.length a.kids.length 0 1 with|true=>exact .inl rfl|false=>exact .inr ⟨_,rfl,qAs (ahw op a.kids b.kids a.kids []) (agm z u v P Q)⟩
 rcases k with e|⟨l,e,K⟩
 ·rw[e]at r|-;exact e_0 (g:=λx n=>apn n x) (e_0 r Cu) Cu
 rw[e]at r|-;exact EvS.of (e_0 r Cu) Cl
def iE{op:Int}{a b:Val}(R:op<=54/\op≠28/\op≠29)(o:21<=op/\op<=26->EU a.n/\EU b.n)(hs:47<=op/\op<=49∨op=54->dO a.kids)(s:op=54->fI a.kids)(S:op<=20->op<=15)(h0:op<=20->op=3∨op=7∨10<=op)
  (h:30<=op/\op<=53/\¬(47<=op/\op<=49)->SetsOk op a b):Ev (λn=>oz n op a b) (pz (CG op a b)):=by
 have T:∀c:Bool,Ev (λn=>(bN n c).bind λ(t:Val)=>some (PZ.ok (ζ:=Unit) t)) (pz (.ok (aO c))):=λc=>e_0 (CQ c) Cu;have C:∀d:Int->Bool,Ev (λn=>(dY n a b).bind λ(u:Int)=>(bN n (d u)).bind λ(v:Val)=>some (PZ.ok (ζ:=Unit) v)) (pz (.ok (aO (d (bQ a b))))):=λd=>e_0 (Eu a b) (T _);unfold oz CG;refine Ev.cnd pz (λ_=>T _) λU=>Ev.cnd pz (λ_=>T _) λV=>Ev.cnd pz (λ_=>C (λx=>x==0)) λw=>Ev.cnd pz (λ_=>C (λx=>x !=0)) λz=>Ev.cnd pz (λ_=>T _) λA=>Ev.cnd pz (λ_=>T _) λB=>Ev.cnd pz (λ_=>T _) λD=>Ev.cnd pz (λ_=>T _) λE=>Ev.cnd pz (λ_=>Ev.ret _) λF=>Ev.cnd pz (λe=>?_) λG=>Ev.cnd pz (λe=>?_) λf=>Ev.cnd pz (λ_=>Ev.pz (M5 _)) λH=>?_
 ·have e:=eq_of_beq e;have I:=hs (.inr e);have j:=s e;have J:=D5 a.kids (λn x=>Jj n x b.kind b.n b.name b.kids) (λp=>eD (aJ p) b) (λx K=>by
   unfold Jj;rw[j.fst K];have L:Val.mk b.kind b.n b.name b.kids=b:=by cases b;rfl
   rw[L];simp only[qAb];exact e_0 (Eu _ _) Cu) (Ap I)
  refine e_0 J ?_;unfold LV;have g:fI (a.kids.filter λp=>eD (aJ p) b):=j.F8 _
  match a.kids.filter (λp=>eD (aJ p) b),g with
  |[],_=>exact Cu
  |[p],g=>
   refine Ev.of λn=>?_;simp only[show(([p].length:Int)!=1)=false from rfl,c_0,NV,qAb,g.snd (qBB ..)];rfl
  |p::q::r,_=>
   refine Ev.of λn=>?_;simp only[show(((p::q::r).length:Int)!=1)=true by simp;omega,c_1];rfl
 ·have i:=of_decide_eq_true e;simp only[beq_eq_false_iff_ne,ne_eq]at *;let⟨M,N⟩:=o Cl;exact Ev.pz (aBM M N)
 by_cases m:op=48∨op=49
 ·refine Ev.of λn=>?_;cases W:a.kids with
  |nil=>rcases m with rfl|rfl<;>rfl
  |cons x l=>
   have e:(((x::l).length:Int)==0)=false:=by simp;omega
   have O:idx (x::l) (((x::l).length:Int) - 1)=(x::l).getLast?:=by
    unfold idx;rw[if_pos cn,List.getLast?_eq_getElem?];congr 1;omega
   rcases m with rfl|rfl
   ·simp only[show((48:Int)==48)=true from rfl,e,c_1,c_0,qAb,NV];rfl
   rw[O];cases k:(x::l).getLast? with
   |none=>rw[List.getLast?_eq_none_iff]at k;cases k
   |some y=>simp only[show((49:Int)==48)=false from rfl,show((49:Int)==49)=true from rfl,e,c_1,c_0,qAb];rfl
 have i:=of_decide_eq_false f;simp only[beq_eq_false_iff_ne,ne_eq]at *;have P:(op==48)=false:=by simpa using λe=>m (.inl e)
 have Q:(op==49)=false:=by simpa using λe=>m (.inr e)
 simp only[P,Q,c_0,qAb];exact Ev.pz (aEq Cl (h Cl))
end Abs
end Go.Proofs.YtneeginmfjageaaGreat
