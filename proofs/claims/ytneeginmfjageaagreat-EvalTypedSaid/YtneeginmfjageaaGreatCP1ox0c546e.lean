/-
  Plain functions with fuel: what they come to ('Ev'); loops over a list. Conditions: none; lemmas without a program.
-/
import Derived.Test.YtneeginmfjageaaGreatCAbs36ox807479
set_option linter.all false
namespace Go.Proofs.YtneeginmfjageaaGreat
namespace Abs
open Go
def Ev{α:Type}(f:Nat->Option α)v:=∃N,∀n,N<=n->f n=some v
theorem Ev.ret{α}(v:α):Ev (λ_=>some v) v:=⟨0,λ_ _=>rfl⟩
theorem Ev.of{α f}{v:α}(h:∀n,f n=some v):Ev f v:=⟨0,λn _=>h n⟩
theorem Ev.bind{α β f}{g:α->Nat->Option β}{a b}(h:Ev f a)(h2:Ev (g a) b):Ev (λn=>(f n).bind λx=>g x n) b:=by obtain⟨N,c⟩:=h;obtain⟨M,m⟩:=h2;refine⟨max N M,λn d=>?_⟩;show(f n).bind (λx=>g x n)=some b;rw[c n (by omega)];exact m n (by omega)
theorem Ev.succ{α}{f}{v:α}(h:Ev (λn=>f (n+1)) v):Ev f v:=by
 obtain⟨N,a⟩:=h;refine⟨N+1,λn b=>?_⟩;cases n with|zero=>omega|succ n=>exact a n (by omega)
theorem Ev.eq{α f}{v w:α}(h:Ev f v)(e:v=w):Ev f w:=e▸h
theorem Ev.pos{α b}{f g:Nat->Option α}{v}(h:b=true)(a:Ev f v):Ev (λn=>cond b (f n) (g n)) v:=by subst h;exact a
theorem Ev.neg{α b}{f g:Nat->Option α}{v}(h:b=false)(a:Ev g v):Ev (λn=>cond b (f n) (g n)) v:=by subst h;exact a
def gD{α σ τ ρ:Type}(t:α->σ->LR σ ρ)(f:σ->τ):List α->σ->LR τ ρ|[],s=>.nx (f s)|x::a,s=>match t x s with| .nx b=>gD t f a b| .rt r=>.rt r
theorem gV{α} pre x (s:List α):idx (pre++x::s) pre.length=some x:=by unfold idx;rw[if_pos (by omega)];simp
theorem arw{α σ τ ρ} l (L:Nat->Nat->Int->σ->Option (LR τ ρ))(t:Nat->α->σ->Option (LR σ ρ)) st fin (I:List α->σ->Prop)
  (d:∀n k i s,L n (k+1) i s=cond (decide (i<(l.length:Int))) ((idx l i).bind λx=>(t n x s).bind (LR.el (λs'=>L n k (i+1) s') (λr=>some (.rt r)))) (some (.nx (fin s))))
  (q:∀x u s,x∈l->I (x::u) s->Ev (λn=>t n x s) (st x s)/\∀s',st x s=.nx s'->I u s') p u (h:l=p++u) {s0} (h0:I u s0):Ev (λn=>L n n (p.length) s0) (gD st fin u s0):=by
 have e:∀(u p:List α) (s:σ),l=p++u->I u s->∃N,∀n,N<=n->∀k,u.length+1<=k->L n k (p.length:Int) s=some (gD st fin u s):=by
  intro u
  induction u with
  |nil=>
   intro p s h _;refine⟨0,λn _ k a=>?_⟩;cases k with
   |zero=>simp at a|succ k=>rw[d,decide_eq_false (by rw[h];simp)];rfl
  |cons x u v=>
   intro p s h f;obtain⟨⟨g,c⟩,w⟩:=q x u s (by rw[h];simp) f;replace c:∀n,g<=n->t n x s=some (st x s):=c;have m:decide ((p.length:Int)<(l.length:Int))=true:=decide_eq_true (by rw[h];simp;omega);have o:idx l (p.length:Int)=some x:=by rw[h];exact gV p x u
   cases b:st x s with
   |rt r=>
    refine⟨g,λn j k a=>?_⟩;cases k with|zero=>simp at a|succ k=>rw[d,m,o];simp only[cond_true,qAa];rw[c n j,b];simp[gD,b]
   |nx s'=>
    obtain⟨y,z⟩:=v (p++[x]) s' (by rw[h];simp) (w s' b);refine⟨max g y,λn j k a=>?_⟩;cases k with|zero=>simp at a|succ k=>rw[d,m,o];simp only[cond_true,qAa];rw[c n (by omega),b];simp only[qAa,LR.el];have:=z n (by omega) k (by simp at a;omega);simp only[qAf,qAL,qCW,qCX]at this;rw[this];simp[gD,b]
 obtain⟨N,A⟩:=e u p s0 h h0;exact⟨max N (u.length+1),λn j=>A n (by omega) n (by omega)⟩
theorem UD{α σ τ ρ} l (L:Nat->Nat->Int->σ->Option (LR τ ρ))(t:Nat->α->σ->Option (LR σ ρ)) st fin (I:List α->σ->Prop)
  (h:∀n k i s,L n (k+1) i s=cond (decide (i<(l.length:Int))) ((idx l i).bind λx=>(t n x s).bind (LR.el (λs'=>L n k (i+1) s') (λr=>some (.rt r)))) (some (.nx (fin s))))
  (a:∀x u s,x∈l->I (x::u) s->Ev (λn=>t n x s) (st x s)/\∀s',st x s=.nx s'->I u s') {s0} (h0:I l s0):Ev (λn=>L n n 0 s0) (gD st fin l s0):=
 arw l L t st fin I h a [] l rfl h0
theorem R4{α ρ} p (r:ρ):∀(l:List α) u,gD (τ:=Unit) (λx _=>cond (p x) (.rt r) (.nx ())) (λ_=>()) l u=cond (l.any p) (.rt r) (.nx ())
 |[],_=>rfl|x::s,u=>by
  simp only[gD,qCE];cases p x;·exact R4 p r s ()
  rfl
theorem af3{α ρ} l (L:Nat->Nat->Int->Option (LR Unit ρ))(t:Nat->α->Option Bool) p r
  (h:∀n k i,L n (k+1) i=cond (decide (i<(l.length:Int))) ((idx l i).bind λx=>(t n x).bind λb=>cond b (some (.rt r)) (L n k (i+1))) (some (.nx ())))
  (a:∀x∈l,Ev (λn=>t n x) (p x)) pre u (c:l=pre++u):Ev (λn=>L n n (pre.length:Int)) (cond (u.any p) (.rt r) (.nx ())):=by
 have:=arw l (λn k i (_:Unit)=>L n k i) (λn x _=>(t n x).bind λb=>cond b (some (.rt r)) (some (.nx ()))) (λx _=>cond (p x) (.rt r) (.nx ())) (λ_=>()) (λ_ _=>True)
  (λn k i s=>by
   rw[h];congr 1;congr 1;funext x;cases t n x with|none=>rfl|some b=>cases b<;>rfl)
  (λx u s d _=>⟨by
   refine Ev.bind (a x d) ?_;cases p x;·exact Ev.ret _
   exact Ev.ret _,λ_ _=>trivial⟩) pre u c (s0:=()) trivial
 rw[R4]at this;exact this
theorem qM{α ρ} l (L:Nat->Nat->Int->Option (LR Unit ρ))(s:Nat->α->Option Bool) p r
  (h:∀n k i,L n (k+1) i=cond (decide (i<(l.length:Int))) ((idx l i).bind λx=>(s n x).bind λb=>cond b (some (.rt r)) (L n k (i+1))) (some (.nx ())))
  (a:∀x∈l,Ev (λn=>s n x) (p x)):Ev (λn=>L n n 0) (cond (l.any p) (.rt r) (.nx ())):=af3 l L s p r h a [] l rfl
def jZ{α σ τ ρ:Type}(t:Int->α->σ->LR σ ρ)(f:σ->τ):Int->List α->σ->LR τ ρ|_,[],s=>.nx (f s)|i,x::a,s=>match t i x s with| .nx b=>jZ t f (i+1) a b| .rt r=>.rt r
theorem NS{α σ τ ρ} l (L:Nat->Nat->Int->σ->Option (LR τ ρ))(t:Nat->Int->α->σ->Option (LR σ ρ)) st fin (I:Int->List α->σ->Prop)
  (d:∀n k i s,L n (k+1) i s=cond (decide (i<(l.length:Int))) ((idx l i).bind λx=>(t n i x s).bind (LR.el (λs'=>L n k (i+1) s') (λr=>some (.rt r)))) (some (.nx (fin s))))
  (q:∀i x u s,x∈l->I i (x::u) s->Ev (λn=>t n i x s) (st i x s)/\∀s',st i x s=.nx s'->I (i+1) u s') {s0} (h0:I 0 l s0):Ev (λn=>L n n 0 s0) (jZ st fin 0 l s0):=by
 have y:∀(u p:List α) (s:σ),l=p++u->I (p.length:Int) u s->∃N,∀n,N<=n->∀k,u.length+1<=k->L n k (p.length:Int) s=some (jZ st fin (p.length:Int) u s):=by
  intro u
  induction u with
  |nil=>
   intro p s h _;refine⟨0,λn _ k a=>?_⟩;cases k with
   |zero=>simp at a|succ k=>rw[d,decide_eq_false (by rw[h];simp)];rfl
  |cons x u v=>
   intro p s h f;obtain⟨⟨g,c⟩,w⟩:=q _ x u s (by rw[h];simp) f;replace c:∀n,g<=n->t n (p.length:Int) x s=some (st (p.length:Int) x s):=c;have m:decide ((p.length:Int)<(l.length:Int))=true:=decide_eq_true (by rw[h];simp;omega);have o:idx l (p.length:Int)=some x:=by rw[h];exact gV p x u
   cases b:st (p.length:Int) x s with
   |rt r=>
    refine⟨g,λn j k a=>?_⟩;cases k with|zero=>simp at a|succ k=>rw[d,m,o];simp only[cond_true,qAa];rw[c n j,b];simp[jZ,b]
   |nx s'=>
    have z:=w s' b;have e:((p++[x]).length:Int)=(p.length:Int)+1:=by simp
    obtain⟨A,B⟩:=v (p++[x]) s' (by rw[h];simp) (by rw[e];exact z);refine⟨max g A,λn j k a=>?_⟩;cases k with|zero=>simp at a|succ k=>rw[d,m,o];simp only[cond_true,qAa];rw[c n (by omega),b];simp only[qAa,LR.el];have:=B n (by omega) k (by simp at a;omega);rw[e]at this;rw[this];simp[jZ,b]
 obtain⟨N,C⟩:=y l [] s0 rfl h0;exact⟨max N (l.length+1),λn j=>C n (by omega) n (by omega)⟩
def gX{α:Type}(p:α->Bool):Int->List α->Int|_,[]=> -1|i,x::s=>cond (p x) i (gX p (i+1) s)
theorem ak7{α} p:∀(l:List α) i,(match jZ (τ:=Unit) (λi x _=>cond (p x) (.rt i) (.nx ())) (λ_=>()) i l ()with| .nx _=>(-1)| .rt r=>r)=gX p i l
 |[],_=>rfl|x::s,i=>by
  simp only[jZ,gX];cases p x;·exact ak7 p s (i+1)
  rfl
theorem tC{α} l (L:Nat->Nat->Int->Option (LR Unit Int))(t:Nat->α->Option Bool) p
  (h:∀n k i,L n (k+1) i=cond (decide (i<(l.length:Int))) ((idx l i).bind λx=>(t n x).bind λb=>cond b (some (.rt i)) (L n k (i+1))) (some (.nx ())))
  (a:∀x∈l,Ev (λn=>t n x) (p x)):Ev (λn=>(L n n 0).bind (LR.el (λ_=>some (-1)) (λr=>some r))) (gX p 0 l):=by
 have:=NS l (λn k i (_:Unit)=>L n k i) (λn i x _=>(t n x).bind λb=>cond b (some (.rt i)) (some (.nx ()))) (λi x _=>cond (p x) (.rt i) (.nx ())) (λ_=>()) (λ_ _ _=>True)
  (λn k i s=>by
   rw[h];congr 1;congr 1;funext x;cases t n x with|none=>rfl|some b=>cases b<;>rfl)
  (λi x u s c _=>⟨by
   refine Ev.bind (a x c) ?_;cases p x;·exact Ev.ret _
   exact Ev.ret _,λ_ _=>trivial⟩) (s0:=()) trivial
 refine Ev.bind this ?_;rw[<-ak7];generalize jZ (τ:=Unit) (λi x _=>cond (p x) (.rt i) (.nx ())) (λ_=>()) 0 l ()=R;cases R;·exact Ev.ret _
 exact Ev.ret _
theorem qE{α} p:∀(l:List α) i,0<=i->decide (0<=gX p i l)=l.any p
 |[],_,_=>rfl|x::s,i,h=>by
  have b:=qE p s (i+1) (by omega);by_cases a:p x=true;·simp[gX,a,h]
  simp only[qCI]at a;simpa[gX,a]using b
theorem Fv{α} p:∀(l r:List α),(∃x,l.find? p=some x/\p x=true/\0<=gX p (r.length:Int) l/\idx (r++l) (gX p (r.length:Int) l)=some x)∨l.find? p=none/\gX p r.length l= -1
 |[],_=>.inr ⟨rfl,rfl⟩|x::s,r=>by
  simp only[gX,qCj];cases h:p x with|true=>exact .inl ⟨x,rfl,h,by simp,gV r x s⟩|false=>have:=Fv p s (r++[x]);simp only[qAf,qAL,qCW,qCX,qAm,qCK]at this;exact this
theorem O7 s i:nC s i=(idx s i).map λc=>(c.toNat:Int):=by
 unfold nC idx;by_cases h:0<=i
 ·rw[if_pos h];by_cases a:i<s.length
  ·rw[if_pos ⟨h,a⟩];have:i.toNat<s.length:=by omega
   simp[List.getD,qAc this]
  rw[if_neg (λhh=>a hh.2),qAE (by omega)];rfl
 rw[if_neg (λhh=>h hh.1),if_neg h];rfl
theorem wrap64{n}(h: -9223372036854775808<=n)(h2:n<=9223372036854775807):IntKind.wrap .i64 n=n:=(axa h h2).symm
end Abs
end Go.Proofs.YtneeginmfjageaaGreat
