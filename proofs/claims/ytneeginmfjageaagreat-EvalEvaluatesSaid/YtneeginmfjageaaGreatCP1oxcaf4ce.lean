/- Functions with fuel. Conditions: none. -/
import Derived.Test.YtneeginmfjageaaGreatCAbs24oxb88401
set_option linter.all false
namespace Go.Proofs.YtneeginmfjageaaGreat
namespace Abs
open Go
def Ev{α:Type}(f:Nat->Option α)(v:α):Prop:=∃N,∀n,N<=n->f n=some v
def Ev.ret{α:Type}(v:α):Ev (λ_=>some v) v:=⟨0,λ_ _=>rfl⟩
def Cu{α:Type}{a:α}:Ev (λ_=>some a) a:=Ev.ret _
def Ev.of{α:Type}{f:Nat->Option α}{v:α}(h:∀n,f n=some v):Ev f v:=⟨0,λn _=>h n⟩
def Ev.bind{α β:Type}{f:Nat->Option α}{g:α->Nat->Option β}{a:α}{b:β}(h:Ev f a)(h2:Ev (g a) b):Ev (λn=>(f n).bind λx=>g x n) b:=by let⟨N,c⟩:=h;let⟨M,m⟩:=h2;refine⟨max N M,λn d=>?_⟩;show(f n).bind (λx=>g x n)=some b;rw[c n Cl];exact m n Cl
def Ev.succ{α:Type}{f:Nat->Option α}{v:α}(h:Ev (λn=>f (n+1)) v):Ev f v:=by let⟨N,a⟩:=h;refine⟨N+1,λn b=>?_⟩;cases n with|zero=>omega|succ n=>exact a n Cl
def Ev.eq{α:Type}{f:Nat->Option α}{v w:α}(h:Ev f v)(e:v=w):Ev f w:=e▸h
def Ev.pos{α:Type}{b:Bool}{f g:Nat->Option α}{v:α}(h:b=true)(a:Ev f v):Ev (λn=>cond b (f n) (g n)) v:=by subst h;exact a
def Ev.neg{α:Type}{b:Bool}{f g:Nat->Option α}{v:α}(h:b=false)(a:Ev g v):Ev (λn=>cond b (f n) (g n)) v:=by subst h;exact a
def fG{α σ τ ρ:Type}(t:α->σ->LR σ ρ)(f:σ->τ):List α->σ->LR τ ρ|[],s=>.nx (f s)|x::a,s=>match t x s with| .nx b=>fG t f a b| .rt r=>.rt r
def gJ{α:Type}(p:List α)(x:α)(s:List α):idx (p++x::s) (p.length:Int)=some x:=by unfold idx;rw[if_pos Cl];simp
def aqQ{α σ τ ρ:Type}(l:List α)(L:Nat->Nat->Int->σ->Option (LR τ ρ))(t:Nat->α->σ->Option (LR σ ρ))(a:α->σ->LR σ ρ)(f:σ->τ)(I:List α->σ->Prop)
  (e:∀n k i s,L n (k+1) i s=cond (decide (i<(l.length:Int))) ((idx l i).bind λx=>(t n x s).bind (LR.el (λs'=>L n k (i+1) s') (λr=>some (.rt r)))) (some (.nx (f s))))
  (v:∀x u s,x∈l->I (x::u) s->Ev (λn=>t n x s) (a x s)/\∀s',a x s=.nx s'->I u s') (p u:List α) (h:l=p++u) {s0:σ} (h0:I u s0):Ev (λn=>L n n (p.length:Int) s0) (fG a f u s0):=by
 have y:∀(u p:List α) (s:σ),l=p++u->I u s->∃N,∀n,N<=n->∀k,u.length+1<=k->L n k (p.length:Int) s=some (fG a f u s):=by
  intro u
  induction u with
  |nil=>
   intro p s h _;refine⟨0,λn _ k b=>?_⟩;cases k with
   |zero=>simp at b
   |succ k=>
    rw[e,decide_eq_false (by rw[h];simp)];rfl
  |cons x u w=>
   intro p s h g;let⟨⟨j,d⟩,z⟩:=v x u s (by rw[h];simp) g;replace d:∀n,j<=n->t n x s=some (a x s):=d;have o:decide ((p.length:Int)<(l.length:Int))=true:=decide_eq_true (by rw[h];simp;omega);have q:idx l (p.length:Int)=some x:=by rw[h];exact gJ p x u
   cases c:a x s with
   |rt r=>
    refine⟨j,λn m k b=>?_⟩;cases k with
    |zero=>simp at b
    |succ k=>
     rw[e,o,q];simp only[cond_true,qAb];rw[d n m,c];simp[fG,c]
   |nx s'=>
    let⟨A,B⟩:=w (p++[x]) s' (by rw[h];simp) (z s' c);refine⟨max j A,λn m k b=>?_⟩;cases k with
    |zero=>simp at b
    |succ k=>
     rw[e,o,q];simp only[cond_true,qAb];rw[d n Cl,c];simp only[qAb,LR.el];have:=B n Cl k (by simp at b;omega);simp only[qAe,qAI,qCP,qCQ]at this;rw[this];simp[fG,c]
 let⟨N,C⟩:=y u p s0 h h0;exact⟨max N (u.length+1),λn m=>C n Cl n Cl⟩
def V3{α σ τ ρ:Type}(l:List α)(L:Nat->Nat->Int->σ->Option (LR τ ρ))(t:Nat->α->σ->Option (LR σ ρ))(a:α->σ->LR σ ρ)(f:σ->τ)(I:List α->σ->Prop)
  (h:∀n k i s,L n (k+1) i s=cond (decide (i<(l.length:Int))) ((idx l i).bind λx=>(t n x s).bind (LR.el (λs'=>L n k (i+1) s') (λr=>some (.rt r)))) (some (.nx (f s))))
  (b:∀x u s,x∈l->I (x::u) s->Ev (λn=>t n x s) (a x s)/\∀s',a x s=.nx s'->I u s') {s0:σ} (h0:I l s0):Ev (λn=>L n n 0 s0) (fG a f l s0):=
 aqQ l L t a f I h b [] l rfl h0
def Tg{α ρ:Type}(p:α->Bool)(r:ρ):∀(l:List α) (u:Unit),fG (τ:=Unit) (λx _=>cond (p x) (.rt r) (.nx ())) (λ_=>()) l u=cond (l.any p) (.rt r) (.nx ())
 |[],_=>rfl
 |x::s,u=>by
  simp only[fG,qCA];cases p x
  ·exact Tg p r s ()
  rfl
def akz{α ρ:Type}(l:List α)(L:Nat->Nat->Int->Option (LR Unit ρ))(t:Nat->α->Ax)(p:α->Bool)(r:ρ)
  (h:∀n k i,L n (k+1) i=cond (decide (i<(l.length:Int))) ((idx l i).bind λx=>(t n x).bind λb=>cond b (some (.rt r)) (L n k (i+1))) (some (.nx ())))
  (a:∀x∈l,Ev (λn=>t n x) (p x)) (e u:List α) (c:l=e++u):Ev (λn=>L n n (e.length:Int)) (cond (u.any p) (.rt r) (.nx ())):=by
 have:=aqQ l (λn k i (_:Unit)=>L n k i) (λn x _=>(t n x).bind λb=>cond b (some (.rt r)) (some (.nx ()))) (λx _=>cond (p x) (.rt r) (.nx ())) (λ_=>()) (λ_ _=>True)
  (λn k i s=>by rw[h];congr 1;congr 1;funext x;cases t n x with|none=>rfl|some b=>cases b<;>rfl)
  (λx u s d _=>⟨by
   refine Ev.bind (a x d) ?_;cases p x;·exact Cu
   exact Cu,λ_ _=>trivial⟩) e u c (s0:=()) trivial
 rw[Tg]at this;exact this
def sN{α ρ:Type}(l:List α)(L:Nat->Nat->Int->Option (LR Unit ρ))(s:Nat->α->Ax)(p:α->Bool)(r:ρ)
  (h:∀n k i,L n (k+1) i=cond (decide (i<(l.length:Int))) ((idx l i).bind λx=>(s n x).bind λb=>cond b (some (.rt r)) (L n k (i+1))) (some (.nx ())))
  (a:∀x∈l,Ev (λn=>s n x) (p x)):Ev (λn=>L n n 0) (cond (l.any p) (.rt r) (.nx ())):=akz l L s p r h a [] l rfl
def lu{α σ τ ρ:Type}(t:Int->α->σ->LR σ ρ)(f:σ->τ):Int->List α->σ->LR τ ρ|_,[],s=>.nx (f s)|i,x::a,s=>match t i x s with| .nx b=>lu t f (i+1) a b| .rt r=>.rt r
def Qk{α σ τ ρ:Type}(l:List α)(L:Nat->Nat->Int->σ->Option (LR τ ρ))(t:Nat->Int->α->σ->Option (LR σ ρ))(a:Int->α->σ->LR σ ρ)(f:σ->τ)(I:Int->List α->σ->Prop)
  (g:∀n k i s,L n (k+1) i s=cond (decide (i<(l.length:Int))) ((idx l i).bind λx=>(t n i x s).bind (LR.el (λs'=>L n k (i+1) s') (λr=>some (.rt r)))) (some (.nx (f s))))
  (w:∀i x u s,x∈l->I i (x::u) s->Ev (λn=>t n i x s) (a i x s)/\∀s',a i x s=.nx s'->I (i+1) u s') {s0:σ} (h0:I 0 l s0):Ev (λn=>L n n 0 s0) (lu a f 0 l s0):=by
 have y:∀(u p:List α) (s:σ),l=p++u->I (p.length:Int) u s->∃N,∀n,N<=n->∀k,u.length+1<=k->L n k (p.length:Int) s=some (lu a f (p.length:Int) u s):=by
  intro u
  induction u with
  |nil=>
   intro p s h _;refine⟨0,λn _ k b=>?_⟩;cases k with
   |zero=>simp at b
   |succ k=>
    rw[g,decide_eq_false (by rw[h];simp)];rfl
  |cons x u z=>
   intro p s h j;let⟨⟨m,d⟩,A⟩:=w _ x u s (by rw[h];simp) j;replace d:∀n,m<=n->t n (p.length:Int) x s=some (a (p.length:Int) x s):=d;have q:decide ((p.length:Int)<(l.length:Int))=true:=decide_eq_true (by rw[h];simp;omega);have v:idx l (p.length:Int)=some x:=by rw[h];exact gJ p x u
   cases c:a (p.length:Int) x s with
   |rt r=>
    refine⟨m,λn o k b=>?_⟩;cases k with
    |zero=>simp at b
    |succ k=>
     rw[g,q,v];simp only[cond_true,qAb];rw[d n o,c];simp[lu,c]
   |nx s'=>
    have B:=A s' c;have e:((p++[x]).length:Int)=(p.length:Int)+1:=by simp
    let⟨C,D⟩:=z (p++[x]) s' (by rw[h];simp) (by rw[e];exact B);refine⟨max m C,λn o k b=>?_⟩;cases k with
    |zero=>simp at b
    |succ k=>
     rw[g,q,v];simp only[cond_true,qAb];rw[d n Cl,c];simp only[qAb,LR.el];have:=D n Cl k (by simp at b;omega);rw[e]at this;rw[this];simp[lu,c]
 let⟨N,E⟩:=y l [] s0 rfl h0;exact⟨max N (l.length+1),λn o=>E n Cl n Cl⟩
def dR{α:Type}(p:α->Bool):Int->List α->Int|_,[]=> -1|i,x::s=>cond (p x) i (dR p (i+1) s)
def anF{α:Type}(p:α->Bool):∀(l:List α) (i:Int),(match lu (τ:=Unit) (λi x _=>cond (p x) (.rt i) (.nx ())) (λ_=>()) i l ()with| .nx _=>(-1:Int)| .rt r=>r)=dR p i l
 |[],_=>rfl
 |x::s,i=>by
  simp only[lu,dR];cases p x
  ·exact anF p s (i+1)
  rfl
def vo{α:Type}(l:List α)(L:Nat->Nat->Int->Option (LR Unit Int))(t:Nat->α->Ax)(p:α->Bool)
  (h:∀n k i,L n (k+1) i=cond (decide (i<(l.length:Int))) ((idx l i).bind λx=>(t n x).bind λb=>cond b (some (.rt i)) (L n k (i+1))) (some (.nx ())))
  (a:∀x∈l,Ev (λn=>t n x) (p x)):Ev (λn=>(L n n 0).bind (LR.el (λ_=>some (-1)) (λr=>some r))) (dR p 0 l):=by
 have:=Qk l (λn k i (_:Unit)=>L n k i) (λn i x _=>(t n x).bind λb=>cond b (some (.rt i)) (some (.nx ()))) (λi x _=>cond (p x) (.rt i) (.nx ())) (λ_=>()) (λ_ _ _=>True)
  (λn k i s=>by rw[h];congr 1;congr 1;funext x;cases t n x with|none=>rfl|some b=>cases b<;>rfl)
  (λi x u s c _=>⟨by
   refine Ev.bind (a x c) ?_;cases p x;·exact Cu
   exact Cu,λ_ _=>trivial⟩) (s0:=()) trivial
 refine Ev.bind this ?_;rw[<-anF];generalize lu (τ:=Unit) (λi x _=>cond (p x) (.rt i) (.nx ())) (λ_=>()) 0 l ()=R;cases R;·exact Cu
 exact Cu
def mO{α:Type}(p:α->Bool):∀(l:List α) (i:Int),0<=i->decide (0<=dR p i l)=l.any p
 |[],_,_=>rfl
 |x::s,i,h=>by
  have b:=mO p s (i+1) Cl;by_cases a:p x=true
  ·simp[dR,a,h]
  simp only[qDp]at a;simpa[dR,a]using b
def Dw{α:Type}(p:α->Bool):∀(l r:List α),(∃x,l.find? p=some x/\p x=true/\0<=dR p (r.length:Int) l/\idx (r++l) (dR p (r.length:Int) l)=some x)∨(l.find? p=none/\dR p (r.length:Int) l= -1)
 |[],_=>.inr ⟨rfl,rfl⟩
 |x::s,r=>by
  simp only[dR,qCd];cases h:p x with
  |true=>exact .inl ⟨x,rfl,h,by simp,gJ r x s⟩
  |false=>
   have:=Dw p s (r++[x]);simp only[qAe,qAI,qCP,qCQ,qAm,qCF]at this;exact this
def QJ(s:By)(i:Int):oL s i=(idx s i).map λc=>(c.toNat:Int):=by
 unfold oL idx;by_cases h:0<=i
 ·rw[if_pos h];by_cases b:i<s.length
  ·rw[if_pos ⟨h,b⟩];have:i.toNat<s.length:=by omega
   simp[List.getD,qAc this]
  rw[if_neg (λa=>b a.2),qAC Cl];rfl
 rw[if_neg (λa=>h a.1),if_neg h];rfl
def wrap64{n:Int}(h: -9223372036854775808<=n)(h2:n<=9223372036854775807):IntKind.wrap .i64 n=n:=(ayI h h2).symm
end Abs
end Go.Proofs.YtneeginmfjageaaGreat
