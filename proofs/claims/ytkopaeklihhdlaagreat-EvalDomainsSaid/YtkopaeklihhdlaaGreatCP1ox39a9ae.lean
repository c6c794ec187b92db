/-
  Plain functions with fuel: what they come to ('Ev'); loops over a list. Conditions: none; lemmas without a program.
-/
import Derived.Test.YtkopaeklihhdlaaGreatCAbs38ox79bf07
set_option linter.all false
namespace Go.Proofs.YtkopaeklihhdlaaGreat
namespace Abs
open Go
def Ev{α:Type}(f:Nat→Option α)(v:α):Prop:=∃N,∀n,N≤n→f n=some v
theorem Ev.ret{α:Type}(v:α):Ev (fun _=>some v) v:=⟨0,fun _ _=>rfl⟩
theorem Ev.of{α:Type}{f:Nat→Option α}{v:α}(h:∀n,f n=some v):Ev f v:=⟨0,fun n _=>h n⟩
theorem Ev.bind{α β:Type}{f:Nat→Option α}{g:α→Nat→Option β}{a:α}{b:β}(h1:Ev f a)(h2:Ev (g a) b):Ev (fun n=>(f n).bind fun x=>g x n) b:=by
 obtain⟨N,hN⟩:=h1;obtain⟨M,hM⟩:=h2;refine⟨max N M,fun n hn=>?_⟩;show(f n).bind (fun x=>g x n)=some b;rw[hN n (by omega)];exact hM n (by omega)
theorem Ev.succ{α:Type}{f:Nat→Option α}{v:α}(h:Ev (fun n=>f (n+1)) v):Ev f v:=by
 obtain⟨N,hN⟩:=h;refine⟨N+1,fun n hn=>?_⟩;cases n with
 |zero=>omega
 |succ n=>exact hN n (by omega)
theorem Ev.pos{α:Type}{b:Bool}{f g:Nat→Option α}{v:α}(hb:b=true)(h1:Ev f v):Ev (fun n=>cond b (f n) (g n)) v:=by subst hb;exact h1
theorem Ev.neg{α:Type}{b:Bool}{f g:Nat→Option α}{v:α}(hb:b=false)(h1:Ev g v):Ev (fun n=>cond b (f n) (g n)) v:=by subst hb;exact h1
def kF{α σ τ ρ:Type}(st:α→σ→LR σ ρ)(fin:σ→τ):List α→σ→LR τ ρ
 |[],s=>.nx (fin s)
 |x::xs,s=>match st x s with
  | .nx s'=>kF st fin xs s'
  | .rt r=>.rt r
theorem kJ{α:Type}(pre:List α)(x:α)(suf:List α):idx (pre++x::suf) (pre.length:Int)=some x:=by
 unfold idx;rw[if_pos (by omega)];simp
theorem acV{α σ τ ρ:Type}(l:List α)(L:Nat→Nat→Int→σ→Option (LR τ ρ))(step:Nat→α→σ→Option (LR σ ρ))(st:α→σ→LR σ ρ)(fin:σ→τ)(I:List α→σ→Prop)
  (hL:∀n k i s,L n (k+1) i s=cond (decide (i<(l.length:Int))) ((idx l i).bind fun x=>(step n x s).bind (LR.el (fun s'=>L n k (i+1) s') (fun r=>some (.rt r)))) (some (.nx (fin s))))
  (hI:∀x suf s,x∈l→I (x::suf) s→Ev (fun n=>step n x s) (st x s)∧∀s',st x s=.nx s'→I suf s') (pre suf:List α) (hl:l=pre++suf) {s0:σ} (h0:I suf s0):Ev (fun n=>L n n (pre.length:Int) s0) (kF st fin suf s0):=by
 have key:∀(suf pre:List α) (s:σ),l=pre++suf→I suf s→∃N,∀n,N≤n→∀k,suf.length+1≤k→L n k (pre.length:Int) s=some (kF st fin suf s):=by
  intro suf
  induction suf with
  |nil=>
   intro pre s hl _;refine⟨0,fun n _ k hk=>?_⟩;cases k with
   |zero=>simp at hk
   |succ k=>
    rw[hL,decide_eq_false (by rw[hl];simp)];rfl
  |cons x suf ih=>
   intro pre s hl hIs;obtain⟨⟨N1,h1⟩,h2⟩:=hI x suf s (by rw[hl];simp) hIs;replace h1:∀n,N1≤n→step n x s=some (st x s):=h1;have hi:decide ((pre.length:Int)<(l.length:Int))=true:=decide_eq_true (by rw[hl];simp;omega);have hx:idx l (pre.length:Int)=some x:=by rw[hl];exact kJ pre x suf
   cases hs:st x s with
   |rt r=>
    refine⟨N1,fun n hn k hk=>?_⟩;cases k with
    |zero=>simp at hk
    |succ k=>
     rw[hL,hi,hx];simp only[cond_true,qAb];rw[h1 n hn,hs];simp[kF,hs]
   |nx s'=>
    obtain⟨N2,h3⟩:=ih (pre++[x]) s' (by rw[hl];simp) (h2 s' hs);refine⟨max N1 N2,fun n hn k hk=>?_⟩;cases k with
    |zero=>simp at hk
    |succ k=>
     rw[hL,hi,hx];simp only[cond_true,qAb];rw[h1 n (by omega),hs];simp only[qAb,LR.el];have:=h3 n (by omega) k (by simp at hk;omega);simp only[qAl,qAy,qCO,qCP]at this;rw[this];simp[kF,hs]
 obtain⟨N,hN⟩:=key suf pre s0 hl h0;exact⟨max N (suf.length+1),fun n hn=>hN n (by omega) n (by omega)⟩
theorem Cy{α σ τ ρ:Type}(l:List α)(L:Nat→Nat→Int→σ→Option (LR τ ρ))(step:Nat→α→σ→Option (LR σ ρ))(st:α→σ→LR σ ρ)(fin:σ→τ)(I:List α→σ→Prop)
  (hL:∀n k i s,L n (k+1) i s=cond (decide (i<(l.length:Int))) ((idx l i).bind fun x=>(step n x s).bind (LR.el (fun s'=>L n k (i+1) s') (fun r=>some (.rt r)))) (some (.nx (fin s))))
  (hI:∀x suf s,x∈l→I (x::suf) s→Ev (fun n=>step n x s) (st x s)∧∀s',st x s=.nx s'→I suf s') {s0:σ} (h0:I l s0):Ev (fun n=>L n n 0 s0) (kF st fin l s0):=
 acV l L step st fin I hL hI [] l rfl h0
theorem Pk{α ρ:Type}(p:α→Bool)(r:ρ):∀(l:List α) (u:Unit),kF (τ:=Unit) (fun x _=>cond (p x) (.rt r) (.nx ())) (fun _=>()) l u=cond (l.any p) (.rt r) (.nx ())
 |[],_=>rfl
 |x::xs,u=>by
  simp only[kF,qDa];cases p x
  ·exact Pk p r xs ()
  ·rfl
theorem VR{α ρ:Type}(l:List α)(L:Nat→Nat→Int→Option (LR Unit ρ))(step:Nat→α→Option Bool)(p:α→Bool)(r:ρ)
  (hL:∀n k i,L n (k+1) i=cond (decide (i<(l.length:Int))) ((idx l i).bind fun x=>(step n x).bind fun b=>cond b (some (.rt r)) (L n k (i+1))) (some (.nx ())))
  (hp:∀x∈l,Ev (fun n=>step n x) (p x)) (pre suf:List α) (hl:l=pre++suf):Ev (fun n=>L n n (pre.length:Int)) (cond (suf.any p) (.rt r) (.nx ())):=by
 have:=acV l (fun n k i (_:Unit)=>L n k i) (fun n x _=>(step n x).bind fun b=>cond b (some (.rt r)) (some (.nx ()))) (fun x _=>cond (p x) (.rt r) (.nx ())) (fun _=>()) (fun _ _=>True)
  (fun n k i s=>by
   rw[hL];congr 1;congr 1;funext x;cases step n x with
   |none=>rfl
   |some b=>cases b<;>rfl)
  (fun x suf s hx _=>⟨by
   refine Ev.bind (hp x hx) ?_;cases p x
   ·exact Ev.ret _
   ·exact Ev.ret _,fun _ _=>trivial⟩) pre suf hl (s0:=()) trivial
 rw[Pk]at this;exact this
theorem kV{α ρ:Type}(l:List α)(L:Nat→Nat→Int→Option (LR Unit ρ))(step:Nat→α→Option Bool)(p:α→Bool)(r:ρ)
  (hL:∀n k i,L n (k+1) i=cond (decide (i<(l.length:Int))) ((idx l i).bind fun x=>(step n x).bind fun b=>cond b (some (.rt r)) (L n k (i+1))) (some (.nx ())))
  (hp:∀x∈l,Ev (fun n=>step n x) (p x)):Ev (fun n=>L n n 0) (cond (l.any p) (.rt r) (.nx ())):=VR l L step p r hL hp [] l rfl
def vE{α σ τ ρ:Type}(st:Int→α→σ→LR σ ρ)(fin:σ→τ):Int→List α→σ→LR τ ρ
 |_,[],s=>.nx (fin s)
 |i,x::xs,s=>match st i x s with
  | .nx s'=>vE st fin (i+1) xs s'
  | .rt r=>.rt r
theorem G5{α σ τ ρ:Type}(l:List α)(L:Nat→Nat→Int→σ→Option (LR τ ρ))(step:Nat→Int→α→σ→Option (LR σ ρ))(st:Int→α→σ→LR σ ρ)(fin:σ→τ)(I:Int→List α→σ→Prop)
  (hL:∀n k i s,L n (k+1) i s=cond (decide (i<(l.length:Int))) ((idx l i).bind fun x=>(step n i x s).bind (LR.el (fun s'=>L n k (i+1) s') (fun r=>some (.rt r)))) (some (.nx (fin s))))
  (hI:∀i x suf s,x∈l→I i (x::suf) s→Ev (fun n=>step n i x s) (st i x s)∧∀s',st i x s=.nx s'→I (i+1) suf s') {s0:σ} (h0:I 0 l s0):Ev (fun n=>L n n 0 s0) (vE st fin 0 l s0):=by
 have key:∀(suf pre:List α) (s:σ),l=pre++suf→I (pre.length:Int) suf s→∃N,∀n,N≤n→∀k,suf.length+1≤k→L n k (pre.length:Int) s=some (vE st fin (pre.length:Int) suf s):=by
  intro suf
  induction suf with
  |nil=>
   intro pre s hl _;refine⟨0,fun n _ k hk=>?_⟩;cases k with
   |zero=>simp at hk
   |succ k=>
    rw[hL,decide_eq_false (by rw[hl];simp)];rfl
  |cons x suf ih=>
   intro pre s hl hIs;obtain⟨⟨N1,h1⟩,h2⟩:=hI _ x suf s (by rw[hl];simp) hIs;replace h1:∀n,N1≤n→step n (pre.length:Int) x s=some (st (pre.length:Int) x s):=h1;have hi:decide ((pre.length:Int)<(l.length:Int))=true:=decide_eq_true (by rw[hl];simp;omega);have hx:idx l (pre.length:Int)=some x:=by rw[hl];exact kJ pre x suf
   cases hs:st (pre.length:Int) x s with
   |rt r=>
    refine⟨N1,fun n hn k hk=>?_⟩;cases k with
    |zero=>simp at hk
    |succ k=>
     rw[hL,hi,hx];simp only[cond_true,qAb];rw[h1 n hn,hs];simp[vE,hs]
   |nx s'=>
    have h3:=h2 s' hs;have e:((pre++[x]).length:Int)=(pre.length:Int)+1:=by simp
    obtain⟨N2,h4⟩:=ih (pre++[x]) s' (by rw[hl];simp) (by rw[e];exact h3);refine⟨max N1 N2,fun n hn k hk=>?_⟩;cases k with
    |zero=>simp at hk
    |succ k=>
     rw[hL,hi,hx];simp only[cond_true,qAb];rw[h1 n (by omega),hs];simp only[qAb,LR.el];have:=h4 n (by omega) k (by simp at hk;omega);rw[e]at this;rw[this];simp[vE,hs]
 obtain⟨N,hN⟩:=key l [] s0 rfl h0;exact⟨max N (l.length+1),fun n hn=>hN n (by omega) n (by omega)⟩
def jW{α:Type}(p:α→Bool):Int→List α→Int
 |_,[]=> -1
 |i,x::xs=>cond (p x) i (jW p (i+1) xs)
theorem Zj{α:Type}(p:α→Bool):∀(l:List α) (i:Int),(match vE (τ:=Unit) (fun i x _=>cond (p x) (.rt i) (.nx ())) (fun _=>()) i l ()with| .nx _=>(-1:Int)| .rt r=>r)=jW p i l
 |[],_=>rfl
 |x::xs,i=>by
  simp only[vE,jW];cases p x
  ·exact Zj p xs (i+1)
  ·rfl
theorem su{α:Type}(l:List α)(L:Nat→Nat→Int→Option (LR Unit Int))(step:Nat→α→Option Bool)(p:α→Bool)
  (hL:∀n k i,L n (k+1) i=cond (decide (i<(l.length:Int))) ((idx l i).bind fun x=>(step n x).bind fun b=>cond b (some (.rt i)) (L n k (i+1))) (some (.nx ())))
  (hp:∀x∈l,Ev (fun n=>step n x) (p x)):Ev (fun n=>(L n n 0).bind (LR.el (fun _=>some (-1)) (fun r=>some r))) (jW p 0 l):=by
 have:=G5 l (fun n k i (_:Unit)=>L n k i) (fun n i x _=>(step n x).bind fun b=>cond b (some (.rt i)) (some (.nx ()))) (fun i x _=>cond (p x) (.rt i) (.nx ())) (fun _=>()) (fun _ _ _=>True)
  (fun n k i s=>by
   rw[hL];congr 1;congr 1;funext x;cases step n x with
   |none=>rfl
   |some b=>cases b<;>rfl)
  (fun i x suf s hx _=>⟨by
   refine Ev.bind (hp x hx) ?_;cases p x
   ·exact Ev.ret _
   ·exact Ev.ret _,fun _ _=>trivial⟩) (s0:=()) trivial
 refine Ev.bind this ?_;rw[←Zj];generalize vE (τ:=Unit) (fun i x _=>cond (p x) (.rt i) (.nx ())) (fun _=>()) 0 l ()=R;cases R
 ·exact Ev.ret _
 ·exact Ev.ret _
theorem xA{α:Type}(p:α→Bool):∀(l:List α) (i:Int),0≤i→decide (0≤jW p i l)=l.any p
 |[],_,_=>rfl
 |x::xs,i,h=>by
  have ih:=xA p xs (i+1) (by omega);by_cases hx:p x=true
  ·simp[jW,hx,h]
  ·simp only[Bool.not_eq_true]at hx;simpa[jW,hx]using ih
theorem rR{α:Type}(p:α→Bool):∀(l pre:List α),(∃x,l.find? p=some x∧p x=true∧0≤jW p (pre.length:Int) l∧idx (pre++l) (jW p (pre.length:Int) l)=some x)∨(l.find? p=none∧jW p (pre.length:Int) l= -1)
 |[],_=>.inr ⟨rfl,rfl⟩
 |x::xs,pre=>by
  simp only[jW,qCq];cases h:p x with
  |true=>exact .inl ⟨x,rfl,h,by simp,kJ pre x xs⟩
  |false=>
   have:=rR p xs (pre++[x]);simp only[qAl,qAy,qCO,qCP,qAN,qCj]at this;exact this
theorem II(s:List UInt8)(i:Int):jS s i=(idx s i).map fun c=>(c.toNat:Int):=by
 unfold jS idx;by_cases h:0≤i
 ·rw[if_pos h];by_cases h2:i<s.length
  ·rw[if_pos ⟨h,h2⟩];have:i.toNat<s.length:=by omega
   simp[List.getD,qAe this]
  ·rw[if_neg (fun hh=>h2 hh.2),qAn (by omega)];rfl
 ·rw[if_neg (fun hh=>h hh.1),if_neg h];rfl
theorem wrap64{n:Int}(h1: -9223372036854775808≤n)(h2:n≤9223372036854775807):IntKind.wrap .i64 n=n:=(bT h1 h2).symm
end Abs
end Go.Proofs.YtkopaeklihhdlaaGreat
