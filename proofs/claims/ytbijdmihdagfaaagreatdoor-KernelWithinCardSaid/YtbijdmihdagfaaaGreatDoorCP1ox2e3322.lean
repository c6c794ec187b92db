/-
  Plain functions with fuel: what they come to ('Ev'); loops over a list. Conditions: none; lemmas without a program.
-/
import Derived.Test.YtbijdmihdagfaaaGreatDoorCDfoxcbc372
set_option linter.all false
namespace Go.Proofs.YtbijdmihdagfaaaGreatDoor
namespace Abs
open Go
def Ev{α:Type}(f:Nat→Option α)(v:α):Prop:=∃N,∀n,N≤n→f n=some v
theorem Ev.ret{α:Type}(v:α):Ev (fun _=>some v) v:=⟨0,fun _ _=>rfl⟩
theorem Ev.of{α:Type}{f:Nat→Option α}{v:α}(h:∀n,f n=some v):Ev f v:=⟨0,fun n _=>h n⟩
theorem Ev.bind{α β:Type}{f:Nat→Option α}{g:α→Nat→Option β}{a:α}{b:β}(h1:Ev f a)(h2:Ev (g a) b):Ev (fun n=>(f n).bind fun x=>g x n) b:=by
 obtain⟨N,hN⟩:=h1;obtain⟨M,hM⟩:=h2;refine⟨max N M,fun n hn=>?_⟩;show(f n).bind (fun x=>g x n)=some b;rw[hN n (by omega)];exact hM n (by omega)
theorem Ev.succ{α:Type}{f:Nat→Option α}{v:α}(h:Ev (fun n=>f (n+1)) v):Ev f v:=by
 obtain⟨N,hN⟩:=h;refine⟨N+1,fun n hn=>?_⟩;cases n with
 |zero=>omega
 |succ n=>exact hN n (by omega)
theorem Ev.eq{α:Type}{f:Nat→Option α}{v w:α}(h:Ev f v)(e:v=w):Ev f w:=e▸h
def ji{α σ τ ρ:Type}(st:α→σ→LR σ ρ)(fin:σ→τ):List α→σ→LR τ ρ
 |[],s=>.nx (fin s)
 |x::xs,s=>match st x s with
  | .nx s'=>ji st fin xs s'
  | .rt r=>.rt r
theorem xR{α:Type}(pre:List α)(x:α)(suf:List α):idx (pre++x::suf) (pre.length:Int)=some x:=by
 unfold idx;rw[if_pos (by omega)];simp
theorem adl{α σ τ ρ:Type}(l:List α)(L:Nat→Nat→Int→σ→Option (LR τ ρ))(step:Nat→α→σ→Option (LR σ ρ))(st:α→σ→LR σ ρ)(fin:σ→τ)(I:List α→σ→Prop)
  (hL:∀n k i s,L n (k+1) i s=cond (decide (i<(l.length:Int))) ((idx l i).bind fun x=>(step n x s).bind (LR.el (fun s'=>L n k (i+1) s') (fun r=>some (.rt r)))) (some (.nx (fin s))))
  (hI:∀x suf s,x∈l→I (x::suf) s→Ev (fun n=>step n x s) (st x s)∧∀s',st x s=.nx s'→I suf s') (pre suf:List α) (hl:l=pre++suf) {s0:σ} (h0:I suf s0):Ev (fun n=>L n n (pre.length:Int) s0) (ji st fin suf s0):=by
 have key:∀(suf pre:List α) (s:σ),l=pre++suf→I suf s→∃N,∀n,N≤n→∀k,suf.length+1≤k→L n k (pre.length:Int) s=some (ji st fin suf s):=by
  intro suf
  induction suf with
  |nil=>
   intro pre s hl _;refine⟨0,fun n _ k hk=>?_⟩;cases k with
   |zero=>simp at hk
   |succ k=>
    rw[hL,decide_eq_false (by rw[hl];simp)];rfl
  |cons x suf ih=>
   intro pre s hl hIs;obtain⟨⟨N1,h1⟩,h2⟩:=hI x suf s (by rw[hl];simp) hIs;replace h1:∀n,N1≤n→step n x s=some (st x s):=h1;have hi:decide ((pre.length:Int)<(l.length:Int))=true:=decide_eq_true (by rw[hl];simp;omega);have hx:idx l (pre.length:Int)=some x:=by rw[hl];exact xR pre x suf
   cases hs:st x s with
   |rt r=>
    refine⟨N1,fun n hn k hk=>?_⟩;cases k with
    |zero=>simp at hk
    |succ k=>
     rw[hL,hi,hx];simp only[cond_true,qAb];rw[h1 n hn,hs];simp[ji,hs]
   |nx s'=>
    obtain⟨N2,h3⟩:=ih (pre++[x]) s' (by rw[hl];simp) (h2 s' hs);refine⟨max N1 N2,fun n hn k hk=>?_⟩;cases k with
    |zero=>simp at hk
    |succ k=>
     rw[hL,hi,hx];simp only[cond_true,qAb];rw[h1 n (by omega),hs];simp only[qAb,LR.el];have:=h3 n (by omega) k (by simp at hk;omega);simp only[qAg,qAM,qCL,qCM]at this;rw[this];simp[ji,hs]
 obtain⟨N,hN⟩:=key suf pre s0 hl h0;exact⟨max N (suf.length+1),fun n hn=>hN n (by omega) n (by omega)⟩
theorem LC{α σ τ ρ:Type}(l:List α)(L:Nat→Nat→Int→σ→Option (LR τ ρ))(step:Nat→α→σ→Option (LR σ ρ))(st:α→σ→LR σ ρ)(fin:σ→τ)(I:List α→σ→Prop)
  (hL:∀n k i s,L n (k+1) i s=cond (decide (i<(l.length:Int))) ((idx l i).bind fun x=>(step n x s).bind (LR.el (fun s'=>L n k (i+1) s') (fun r=>some (.rt r)))) (some (.nx (fin s))))
  (hI:∀x suf s,x∈l→I (x::suf) s→Ev (fun n=>step n x s) (st x s)∧∀s',st x s=.nx s'→I suf s') {s0:σ} (h0:I l s0):Ev (fun n=>L n n 0 s0) (ji st fin l s0):=
 adl l L step st fin I hL hI [] l rfl h0
theorem Qj{α ρ:Type}(p:α→Bool)(r:ρ):∀(l:List α) (u:Unit),ji (τ:=Unit) (fun x _=>cond (p x) (.rt r) (.nx ())) (fun _=>()) l u=cond (l.any p) (.rt r) (.nx ())
 |[],_=>rfl
 |x::xs,u=>by
  simp only[ji,qCz];cases p x
  ·exact Qj p r xs ()
  ·rfl
theorem Wp{α ρ:Type}(l:List α)(L:Nat→Nat→Int→Option (LR Unit ρ))(step:Nat→α→Option Bool)(p:α→Bool)(r:ρ)
  (hL:∀n k i,L n (k+1) i=cond (decide (i<(l.length:Int))) ((idx l i).bind fun x=>(step n x).bind fun b=>cond b (some (.rt r)) (L n k (i+1))) (some (.nx ())))
  (hp:∀x∈l,Ev (fun n=>step n x) (p x)) (pre suf:List α) (hl:l=pre++suf):Ev (fun n=>L n n (pre.length:Int)) (cond (suf.any p) (.rt r) (.nx ())):=by
 have:=adl l (fun n k i (_:Unit)=>L n k i) (fun n x _=>(step n x).bind fun b=>cond b (some (.rt r)) (some (.nx ()))) (fun x _=>cond (p x) (.rt r) (.nx ())) (fun _=>()) (fun _ _=>True)
  (fun n k i s=>by
   rw[hL];congr 1;congr 1;funext x;cases step n x with
   |none=>rfl
   |some b=>cases b<;>rfl)
  (fun x suf s hx _=>⟨by
   refine Ev.bind (hp x hx) ?_;cases p x
   ·exact Ev.ret _
   ·exact Ev.ret _,fun _ _=>trivial⟩) pre suf hl (s0:=()) trivial
 rw[Qj]at this;exact this
theorem kM{α ρ:Type}(l:List α)(L:Nat→Nat→Int→Option (LR Unit ρ))(step:Nat→α→Option Bool)(p:α→Bool)(r:ρ)
  (hL:∀n k i,L n (k+1) i=cond (decide (i<(l.length:Int))) ((idx l i).bind fun x=>(step n x).bind fun b=>cond b (some (.rt r)) (L n k (i+1))) (some (.nx ())))
  (hp:∀x∈l,Ev (fun n=>step n x) (p x)):Ev (fun n=>L n n 0) (cond (l.any p) (.rt r) (.nx ())):=Wp l L step p r hL hp [] l rfl
def gL{α σ τ ρ:Type}(st:Int→α→σ→LR σ ρ)(fin:σ→τ):Int→List α→σ→LR τ ρ
 |_,[],s=>.nx (fin s)
 |i,x::xs,s=>match st i x s with
  | .nx s'=>gL st fin (i+1) xs s'
  | .rt r=>.rt r
theorem BJ{α σ τ ρ:Type}(l:List α)(L:Nat→Nat→Int→σ→Option (LR τ ρ))(step:Nat→Int→α→σ→Option (LR σ ρ))(st:Int→α→σ→LR σ ρ)(fin:σ→τ)(I:Int→List α→σ→Prop)
  (hL:∀n k i s,L n (k+1) i s=cond (decide (i<(l.length:Int))) ((idx l i).bind fun x=>(step n i x s).bind (LR.el (fun s'=>L n k (i+1) s') (fun r=>some (.rt r)))) (some (.nx (fin s))))
  (hI:∀i x suf s,x∈l→I i (x::suf) s→Ev (fun n=>step n i x s) (st i x s)∧∀s',st i x s=.nx s'→I (i+1) suf s') {s0:σ} (h0:I 0 l s0):Ev (fun n=>L n n 0 s0) (gL st fin 0 l s0):=by
 have key:∀(suf pre:List α) (s:σ),l=pre++suf→I (pre.length:Int) suf s→∃N,∀n,N≤n→∀k,suf.length+1≤k→L n k (pre.length:Int) s=some (gL st fin (pre.length:Int) suf s):=by
  intro suf
  induction suf with
  |nil=>
   intro pre s hl _;refine⟨0,fun n _ k hk=>?_⟩;cases k with
   |zero=>simp at hk
   |succ k=>
    rw[hL,decide_eq_false (by rw[hl];simp)];rfl
  |cons x suf ih=>
   intro pre s hl hIs;obtain⟨⟨N1,h1⟩,h2⟩:=hI _ x suf s (by rw[hl];simp) hIs;replace h1:∀n,N1≤n→step n (pre.length:Int) x s=some (st (pre.length:Int) x s):=h1;have hi:decide ((pre.length:Int)<(l.length:Int))=true:=decide_eq_true (by rw[hl];simp;omega);have hx:idx l (pre.length:Int)=some x:=by rw[hl];exact xR pre x suf
   cases hs:st (pre.length:Int) x s with
   |rt r=>
    refine⟨N1,fun n hn k hk=>?_⟩;cases k with
    |zero=>simp at hk
    |succ k=>
     rw[hL,hi,hx];simp only[cond_true,qAb];rw[h1 n hn,hs];simp[gL,hs]
   |nx s'=>
    have h3:=h2 s' hs;have e:((pre++[x]).length:Int)=(pre.length:Int)+1:=by simp
    obtain⟨N2,h4⟩:=ih (pre++[x]) s' (by rw[hl];simp) (by rw[e];exact h3);refine⟨max N1 N2,fun n hn k hk=>?_⟩;cases k with
    |zero=>simp at hk
    |succ k=>
     rw[hL,hi,hx];simp only[cond_true,qAb];rw[h1 n (by omega),hs];simp only[qAb,LR.el];have:=h4 n (by omega) k (by simp at hk;omega);rw[e]at this;rw[this];simp[gL,hs]
 obtain⟨N,hN⟩:=key l [] s0 rfl h0;exact⟨max N (l.length+1),fun n hn=>hN n (by omega) n (by omega)⟩
def jU{α:Type}(p:α→Bool):Int→List α→Int
 |_,[]=> -1
 |i,x::xs=>cond (p x) i (jU p (i+1) xs)
theorem aaU{α:Type}(p:α→Bool):∀(l:List α) (i:Int),(match gL (τ:=Unit) (fun i x _=>cond (p x) (.rt i) (.nx ())) (fun _=>()) i l ()with| .nx _=>(-1:Int)| .rt r=>r)=jU p i l
 |[],_=>rfl
 |x::xs,i=>by
  simp only[gL,jU];cases p x
  ·exact aaU p xs (i+1)
  ·rfl
theorem rP{α:Type}(l:List α)(L:Nat→Nat→Int→Option (LR Unit Int))(step:Nat→α→Option Bool)(p:α→Bool)
  (hL:∀n k i,L n (k+1) i=cond (decide (i<(l.length:Int))) ((idx l i).bind fun x=>(step n x).bind fun b=>cond b (some (.rt i)) (L n k (i+1))) (some (.nx ())))
  (hp:∀x∈l,Ev (fun n=>step n x) (p x)):Ev (fun n=>(L n n 0).bind (LR.el (fun _=>some (-1)) (fun r=>some r))) (jU p 0 l):=by
 have:=BJ l (fun n k i (_:Unit)=>L n k i) (fun n i x _=>(step n x).bind fun b=>cond b (some (.rt i)) (some (.nx ()))) (fun i x _=>cond (p x) (.rt i) (.nx ())) (fun _=>()) (fun _ _ _=>True)
  (fun n k i s=>by
   rw[hL];congr 1;congr 1;funext x;cases step n x with
   |none=>rfl
   |some b=>cases b<;>rfl)
  (fun i x suf s hx _=>⟨by
   refine Ev.bind (hp x hx) ?_;cases p x
   ·exact Ev.ret _
   ·exact Ev.ret _,fun _ _=>trivial⟩) (s0:=()) trivial
 refine Ev.bind this ?_;rw[←aaU];generalize gL (τ:=Unit) (fun i x _=>cond (p x) (.rt i) (.nx ())) (fun _=>()) 0 l ()=R;cases R
 ·exact Ev.ret _
 ·exact Ev.ret _
theorem rQ{α:Type}(p:α→Bool):∀(l:List α) (i:Int),0≤i→decide (0≤jU p i l)=l.any p
 |[],_,_=>rfl
 |x::xs,i,h=>by
  have ih:=rQ p xs (i+1) (by omega);by_cases hx:p x=true
  ·simp[jU,hx,h]
  ·simp only[Bool.not_eq_true]at hx;simpa[jU,hx]using ih
theorem zl{α:Type}(p:α→Bool):∀(l pre:List α),(∃x,l.find? p=some x∧p x=true∧0≤jU p (pre.length:Int) l∧idx (pre++l) (jU p (pre.length:Int) l)=some x)∨(l.find? p=none∧jU p (pre.length:Int) l= -1)
 |[],_=>.inr ⟨rfl,rfl⟩
 |x::xs,pre=>by
  simp only[jU,qCf];cases h:p x with
  |true=>exact .inl ⟨x,rfl,h,by simp,xR pre x xs⟩
  |false=>
   have:=zl p xs (pre++[x]);simp only[qAg,qAM,qCL,qCM,qAo,qDk]at this;exact this
theorem Gu(s:List UInt8)(i:Int):xB s i=(idx s i).map fun c=>(c.toNat:Int):=by
 unfold xB idx;by_cases h:0≤i
 ·rw[if_pos h];by_cases h2:i<s.length
  ·rw[if_pos ⟨h,h2⟩];have:i.toNat<s.length:=by omega
   simp[List.getD,qAd this]
  ·rw[if_neg (fun hh=>h2 hh.2),qAn (by omega)];rfl
 ·rw[if_neg (fun hh=>h hh.1),if_neg h];rfl
theorem wrap64{n:Int}(h1: -9223372036854775808≤n)(h2:n≤9223372036854775807):IntKind.wrap .i64 n=n:=(akg h1 h2).symm
def Gr(c:Int):Bool:=(decide (97≤c)&&decide (c≤122)) ||(decide (65≤c)&&decide (c≤90))
def QY(c:Int):Bool:=decide (48≤c)&&decide (c≤57)
def uJ(c:Int):Bool:=Gr c ||(QY c ||c==95)
theorem LH(n:Nat)(c:Int):xP n c=some (Gr c):=by
 unfold xP Gr;cases decide (97≤c)<;>cases decide (c≤122)<;>cases decide (65≤c)<;>rfl
theorem Qh(n:Nat)(c:Int):Di n c=some (Gr c):=by
 unfold Di Gr;cases decide (97≤c)<;>cases decide (c≤122)<;>cases decide (65≤c)<;>rfl
theorem abo(n:Nat)(c:Int):Fx n c=some (QY c):=by
 unfold Fx QY;cases decide (48≤c)<;>rfl
theorem ae9(n:Nat)(c:Int):Ny n c=some (QY c):=by
 unfold Ny QY;cases decide (48≤c)<;>rfl
theorem Zi(n:Nat)(c:Int):Ck n c=some (uJ c):=by
 unfold Ck uJ;rw[LH,abo];cases Gr c<;>cases QY c<;>rfl
theorem acS(p0:Str)(l:List Str):Ev (fun n=>M4 n p0 l) (l.any fun x=>x==p0):=by
 unfold M4;have h:=kM l (fun n k i=>ac3 n p0 l k i) (fun _ x=>some (x==p0)) (fun x=>x==p0) true (fun n k i=>rfl) (fun x _=>Ev.ret _);refine Ev.bind h ?_;cases l.any fun x=>x==p0
 ·exact Ev.ret _
 ·exact Ev.ret _
def kws:List Str:=[[116,114,117,101],[102,97,108,115,101],[110,111,116],[111,114],[102,111,114,97,108,108],[101,120,105,115,116,115],[105,110],[110,111,116,105,110],[115,117,98],[109,111,100],[102,117,110],[99,97,114,100],[109,105,110],[109,97,120],[100,111,109],[114,97,110],[80,79,87],[105,110,116],[98,111,111,108],[115,101,116],[112,97,105,114]]
def kwB(s:Str):Bool:=kws.any fun x=>x==s
theorem abC(s:Str):Ev (fun n=>FP n s) (kwB s):=by
 unfold FP;exact Ev.bind (acS s _) (Ev.ret _)
theorem chainB(a b:Bool):cond a (some a) (some b)=some (a ||b):=by cases a<;>rfl
theorem Yo(n:Nat)(s:Str):zV n s=some (kwB s):=by
 unfold zV;simp only[chainB,qAb];have h:∀b:Bool,cond b (some true) (some false)=some b:=fun b=>by cases b<;>rfl
 rw[h];simp only[kwB,kws,qCz,List.any_nil,qCA];simp only[BEq.comm (a:=s)]
def ident(s:Str):Bool:=match s with
 |[]=>false
 |c::cs=>decide (cs.length<16)&&(Gr (c.toNat:Int)&&(!(kwB (c::cs))&&cs.all fun c=>uJ (c.toNat:Int)))
theorem mQ{α:Type}(p:α→Bool)(l:List α):l.any (fun x=>!(p x))=!(l.all p):=by
 induction l with
 |nil=>rfl
 |cons x l ih=>simp[ih]
theorem lg(s:Str):Ev (fun n=>dO n s) (ident s):=by
 unfold dO;cases s with
 |nil=>exact Ev.of fun n=>rfl
 |cons c cs=>
  have hloop:Ev (fun n=>vw n (c::cs) n 0) (cond ((c::cs).any fun c=>!(uJ (c.toNat:Int))) (.rt false) (.nx ())):=by
   refine kM (c::cs) (fun n k i=>vw n (c::cs) k i) (fun _ x=>some (!(uJ (x.toNat:Int)))) (fun x=>!(uJ (x.toNat:Int))) false (fun n k i=>?_) (fun x _=>Ev.ret _);show cond _ _ _=_;congr 1;rw[Gu];cases idx (c::cs) i with
   |none=>rfl
   |some x=>
    simp only[qAw,qAb,Zi];rfl
  have hs0:xB (c::cs) 0=some (c.toNat:Int):=by rw[Gu];rfl
  have hne:((c::cs)==([]:Str))=false:=by simp
  simp only[hne,cond_false,hs0,qAb,LH,Yo];by_cases hl:cs.length<16
  ·have h1:decide (16<((c::cs).length:Int))=false:=decide_eq_false (by simp;omega);simp only[h1,cond_false,ident,decide_eq_true hl,qAy];cases hlet:Gr (c.toNat:Int)with
   |false=>exact Ev.ret _
   |true=>
    cases hk:kwB (c::cs)with
    |true=>exact Ev.ret _
    |false=>
     simp only[qAt,cond_false,qAb,qAy,qBc];refine Ev.bind hloop ?_;rw[mQ];simp only[qBy,uJ,hlet,qBT,qAy];cases cs.all fun c=>Gr (c.toNat:Int) ||(QY (c.toNat:Int) ||(c.toNat:Int)==95)
     ·exact Ev.ret _
     ·exact Ev.ret _
  ·have h1:decide (16<((c::cs).length:Int))=true:=decide_eq_true (by simp;omega);simp only[h1,cond_true,qAb,ident,decide_eq_false hl,qBh];exact Ev.ret _
theorem kL(s:Str):Ev (fun n=>eX n s) (ident s):=by
 unfold eX;cases s with
 |nil=>exact Ev.of fun n=>rfl
 |cons c cs=>
  have hloop:Ev (fun n=>xY n (c::cs) n 1) (cond (cs.any fun c=>!(uJ (c.toNat:Int))) (.rt false) (.nx ())):=by
   refine Wp (c::cs) (fun n k i=>xY n (c::cs) k i) (fun _ x=>some (!(uJ (x.toNat:Int)))) (fun x=>!(uJ (x.toNat:Int))) false (fun n k i=>?_) (fun x _=>Ev.ret _) [c] cs rfl;show cond _ _ _=_;congr 1;rw[Gu];cases idx (c::cs) i with
   |none=>rfl
   |some x=>
    simp only[qAw,qAb,Qh,ae9,uJ];cases Gr (x.toNat:Int)<;>cases QY (x.toNat:Int)<;>rfl
  have hs0:xB (c::cs) 0=some (c.toNat:Int):=by rw[Gu];rfl
  have hne:decide (((c::cs).length:Int)<1)=false:=decide_eq_false (by simp;omega);simp only[hne,cond_false,hs0,qAb,Qh];by_cases hl:cs.length<16
  ·have h1:decide (16<((c::cs).length:Int))=false:=decide_eq_false (by simp;omega);simp only[h1,cond_false,ident,decide_eq_true hl,qAy];cases hlet:Gr (c.toNat:Int)with
   |false=>exact Ev.ret _
   |true=>
    simp only[qAt,cond_false,qAy];refine Ev.bind (a:=kwB (c::cs)) (Ev.bind (abC _) (Ev.ret _)) ?_;cases hk:kwB (c::cs)with
    |true=>exact Ev.ret _
    |false=>
     simp only[cond_false,qAy,qBc];refine Ev.bind hloop ?_;rw[mQ];cases cs.all fun c=>uJ (c.toNat:Int)
     ·exact Ev.ret _
     ·exact Ev.ret _
  ·have h1:decide (16<((c::cs).length:Int))=true:=decide_eq_true (by simp;omega);simp only[h1,cond_true,qAb,ident,decide_eq_false hl,qBh];exact Ev.ret _
def R5(s:Str):Str:=if s.getLast? =some 39 then s.dropLast else s
theorem UH{α:Type}(s:List α)(k:Nat)(h:k≤s.length):nR s 0 (k:Int)=some (s.take k):=by
 unfold nR;rw[if_pos (by omega)];simp
theorem abn(n:Nat)(s:Str)(hs:s.length≤9223372036854775807):strings_TrimSuffix n s [39]=some (R5 s):=by
 unfold strings_TrimSuffix jB jV;rcases qDo s with rfl|⟨t,c,rfl⟩
 ·rfl
 ·have hl:((t++[c]).length:Int) - (([39]:Str).length:Int)=(t.length:Int):=by simp
  have hd:decide ((([39]:Str).length:Int)≤((t++[c]).length:Int))=true:=decide_eq_true (by simp;omega);simp only[qDp]at hs⊢;rw[hl,hd,wrap64 (by omega) (by simp at hs;omega)];have h1:nR (t++[c]) (t.length:Int) ((t++[c]).length:Int)=some [c]:=by
   unfold nR;rw[if_pos (by simp;omega)];simp
  have h2:nR (t++[c]) 0 (t.length:Int)=some t:=by rw[UH _ _ (by simp)];simp
  simp only[cond_true,h1,h2,qAb];unfold R5;rw[qDA,qDB];by_cases hc:c=39
  ·subst hc;simp
  ·have:(([c]:Str)==[39])=false:=by simp[hc]
   rw[this,if_neg (by simpa using hc)];rfl
def named(s:Str):Bool:=ident (R5 s)
theorem TM(s:Str)(hs:s.length≤9223372036854775807):Ev (fun n=>oz n s) (named s):=by
 unfold oz;simp only[abn _ s hs,qAb];exact Ev.bind (lg _) (Ev.ret _)
theorem ahN{s:Str}(h:ident s=true):∀c∈s,uJ (c.toNat:Int)=true:=by
 cases s with
 |nil=>cases h
 |cons c cs=>
  simp only[ident,qAa,decide_eq_true_eq,qAC]at h;intro x hx;rcases qAh.1 hx with rfl|hx
  ·simp[uJ,h.2.1]
  ·exact h.2.2.2 x hx
theorem TH(s:Str):Ev (fun n=>Bn n s) (named s):=by
 unfold Bn;have hp:Ev (fun n=>I7 n s) (decide (s.getLast? =some 39)&&ident s.dropLast):=by
  unfold I7;rcases qDo s with rfl|⟨t,c,rfl⟩
  ·exact Ev.ret _
  ·simp only[qDp,qDA,qDB];cases t with
   |nil=>
    have h1:decide (1<(([]++[c]:Str).length:Int))=false:=rfl;simp only[h1,cond_false,qAb];have:ident ([]:Str)=false:=rfl;rw[this,qBD];exact Ev.ret _
   |cons d t=>
    have h1:decide (1<((d::t++[c]:Str).length:Int))=true:=decide_eq_true (by simp;omega);have hlen:(((d::t++[c]:Str).length:Int) - 1)=((d::t).length:Int):=by simp
    have h2:xB (d::t++[c]) (((d::t++[c]:Str).length:Int) - 1)=some (c.toNat:Int):=by
     rw[hlen,Gu,show(d::t++[c]:Str)=(d::t)++c::[]from rfl,xR];rfl
    have h3:nR (d::t++[c]) 0 (((d::t++[c]:Str).length:Int) - 1)=some (d::t):=by rw[hlen,UH _ _ (by simp)];simp
    simp only[h1,cond_true,h2,h3,qAb];by_cases hc:c=39
    ·subst hc;simp only[show((((39:UInt8).toNat:Nat):Int)==39)=true from rfl,cond_true,decide_true,qAy];exact Ev.bind (Ev.bind (kL _) (Ev.ret _)) (Ev.ret _)
    ·have e:(((c.toNat:Nat):Int)==39)=false:=by
      apply beq_false_of_ne;intro h;apply hc;have:c.toNat=39:=by omega
      exact UInt8.toNat_inj.1 this
     rw[e];have e2:decide (some c=some (39:UInt8))=false:=decide_eq_false (by simpa using hc);simp only[cond_false,qAb,e2,qBh];exact Ev.ret _
 refine Ev.bind (a:=named s) ?_ (Ev.ret _);refine Ev.bind (kL s) ?_;unfold named R5;by_cases hq:s.getLast? =some 39
 ·have hi:ident s=false:=by
   cases h:ident s with
   |false=>rfl
   |true=>
    have:=ahN h 39 (List.mem_of_getLast? hq);cases this
  rw[hi,if_pos hq];rw[decide_eq_true hq,qAy]at hp;exact Ev.bind hp (Ev.ret _)
 ·rw[if_neg hq];rw[decide_eq_false hq,qBh]at hp;cases ident s
  ·exact Ev.bind hp (Ev.ret _)
  ·exact Ev.ret _
theorem Ty.ind{P:Ty→Prop}(h:∀k n ks,(∀t∈ks,P t)→P (.mk k n ks))(t:Ty):P t:=by
 match t with
 | .mk k n ks=>exact h k n ks fun u _=>Ty.ind h u
decreasing_by
 rename_i hu;have:=qDq hu
 grind
def iw(k:Int)(nm:Str)(len:Nat)(d:Int):Bool:=
 !(k==2&&decide (1<d))&&((((k==1 ||(k==2 ||k==3))&&len==0) ||((k==4&&len==2) ||(k==5&&len==1)))&&cond (k==3) (ident nm) (nm==[]))
mutual
def pf:Ty→Int→Int→Bool×Int
 | .mk k nm ks,d,c=>cond ((decide (c+1≤16)&&decide (d≤6))&&iw k nm ks.length d) (kS ks (d+1) (c+1)) (false,c+1)
def kS:List Ty→Int→Int→Bool×Int
 |[],_,c=>(true,c)
 |t::ts,d,c=>cond (pf t d c).1 (kS ts d (pf t d c).2) (false,(pf t d c).2)
end
mutual
theorem Sj:∀(t:Ty) (d c:Int),(pf t d c).1=true→c<(pf t d c).2∧(pf t d c).2≤16
 | .mk k nm ks,d,c,h=>by
  simp only[pf]at h⊢;cases hb:((decide (c+1≤16)&&decide (d≤6))&&iw k nm ks.length d)with
  |false=>rw[hb]at h;cases h
  |true=>
   rw[hb]at h;simp only[cond_true]at h⊢;simp only[qAa,decide_eq_true_eq]at hb;have:=aeB ks (d+1) (c+1) h;omega
theorem aeB:∀(ts:List Ty) (d c:Int),(kS ts d c).1=true→c≤(kS ts d c).2∧(c≤16→(kS ts d c).2≤16)
 |[],_,c,_=>by simp[kS]
 |t::ts,d,c,h=>by
  simp only[kS]at h⊢;cases hb:(pf t d c).1 with
  |false=>rw[hb]at h;cases h
  |true=>
   rw[hb]at h;simp only[cond_true]at h⊢;have h1:=Sj t d c hb;have h2:=aeB ts d _ h;exact⟨by omega,fun _=>h2.2 h1.2⟩
end
theorem alB(n:Nat)(c d:Int)(h0:0≤c)(h1:c≤16):iI n c 16 6 d=some (decide (c+1≤16)&&decide (d≤6),c+1):=by
 unfold iI;rw[wrap64 (by omega) (by omega)]
 grind
def aoc(t:Ty):Prop:=∀d c:Int,1≤d→d≤7→0≤c→c≤16→Ev (fun n=>eG n c 16 6 t d (decide (1<d))) (pf t d c)
theorem agJ(d:Int):∀(ts:List Ty) (i c:Int),0≤i→(∃j,0≤j∧(kS ts d c).1=false∧gL (τ:=Int) (fun i x s=>cond (!(pf x d s).1) (.rt (i,(pf x d s).2)) (.nx (pf x d s).2)) (fun s=>s) i ts c=.rt (j,(kS ts d c).2))∨((kS ts d c).1=true∧gL (ρ:=Int×Int) (fun i x s=>cond (!(pf x d s).1) (.rt (i,(pf x d s).2)) (.nx (pf x d s).2)) (fun s=>s) i ts c=.nx (kS ts d c).2)
 |[],i,c,_=>.inr ⟨rfl,rfl⟩
 |t::ts,i,c,hi=>by
  simp only[kS,gL];cases hb:(pf t d c).1 with
  |false=>exact .inl ⟨i,hi,rfl,rfl⟩
  |true=>exact agJ d ts (i+1) _ (by omega)
theorem aiG(ts:List Ty)(h:∀t∈ts,aoc t)(d c:Int)(hd:1≤d)(hd6:d≤6)(h0:0≤c)(h1:c≤16):Ev (fun n=>cO n ts c 16 6 d) (!(kS ts (d+1) c).1,(kS ts (d+1) c).2):=by
 refine Ev.succ ?_;show Ev (fun n=>kC n _ _ _ _ ts c 16 6 d) _;unfold kC;have hloop:=BJ ts (fun n k i s=>uO n (iy n) (cO n) (eG n) (dB n) ts 16 6 d k (i,s))
  (fun n i x s=>(dB n x s 16 6 d).bind fun x2=>cond x2.1 (some (.rt (i,x2.2))) (some (.nx x2.2))) (fun i x s=>cond (!(pf x (d+1) s).1) (.rt (i,(pf x (d+1) s).2)) (.nx (pf x (d+1) s).2)) (fun s=>s) (fun _ _ s=>0≤s∧s≤16)
  (fun n k i s=>by
   show cond _ _ _=_;congr 1;congr 1;funext x;dsimp only;cases dB n x s 16 6 d with
   |none=>rfl
   |some b=>obtain⟨b,e⟩:=b;cases b<;>rfl)
  (fun i x suf s hx hs=>⟨by
   have hfit:Ev (fun n=>dB n x s 16 6 d) (!(pf x (d+1) s).1,(pf x (d+1) s).2):=by
    refine Ev.succ ?_;show Ev (fun n=>kF n _ _ _ _ x s 16 6 d) _;unfold kF;have:=h x hx (d+1) s (by omega) (by omega) hs.1 hs.2;rw[decide_eq_true (show 1<d+1 by omega)]at this;rw[wrap64 (by omega) (by omega)];exact Ev.bind this (Ev.ret _)
   refine Ev.bind hfit ?_;cases(pf x (d+1) s).1
   ·exact Ev.ret _
   ·exact Ev.ret _,fun s' he=>by
    cases hb:(pf x (d+1) s).1 with
    |false=>rw[hb]at he;cases he
    |true=>
     rw[hb]at he;simp only[qAt,cond_false,LR.nx.injEq]at he;have:=Sj x (d+1) s hb;omega⟩) (s0:=c) ⟨h0,h1⟩
 rcases agJ (d+1) ts 0 c (qBB _)with⟨j,hj,hf,hr⟩|⟨ht,hr⟩
 ·rw[hr]at hloop;refine Ev.bind (a:=(j,(kS ts (d+1) c).2)) (Ev.succ ?_) ?_
  ·show Ev (fun n=>gJ n _ _ _ _ ts c 16 6 d) _;unfold gJ;exact Ev.bind hloop (Ev.ret _)
  ·rw[hf];simp only[decide_eq_true hj];exact Ev.ret _
 ·rw[hr]at hloop;refine Ev.bind (a:=(-1,(kS ts (d+1) c).2)) (Ev.succ ?_) ?_
  ·show Ev (fun n=>gJ n _ _ _ _ ts c 16 6 d) _;unfold gJ;exact Ev.bind hloop (Ev.ret _)
  ·rw[ht];exact Ev.ret _
theorem ado(len:Nat)(m:Nat):(((len:Int)!=(m:Int)))=!(len==m):=by grind
theorem fits:∀t:Ty,aoc t:=Ty.ind fun k nm ks ih d c hd hd7 h0 h1=>by
 refine Ev.succ ?_;show Ev (fun n=>lU n _ _ _ _ c 16 6 (.mk k nm ks) d (decide (1<d))) _;unfold lU;simp only[alB _ c d h0 h1,qAb,pf,Ty.kind,Ty.name,Ty.kids];cases hb:(decide (c+1≤16)&&decide (d≤6))with
 |false=>exact Ev.ret _
 |true=>
  simp only[qAa,decide_eq_true_eq]at hb;have hk:=aiG ks ih d (c+1) hd hb.2 (by omega) hb.1;simp only[qAt,cond_false,qAy]
  -- the end: the number of kids, the name, the kids
  have hend:∀m:Nat,Ev (fun n=>(((cond ((ks.length:Int)!=(m:Int)) (some true) (cond (k !=3) (some (!(nm==([]:Str)))) (some false))):Option Bool).bind fun(s2:Bool)=>(cond s2 (some (false,c+1)) ((cO n ks (c+1) 16 6 d).bind fun(x2:Bool×Int)=>some ((!x2.1),x2.2)))))
    (cond ((ks.length==m)&&cond (k==3) true (nm==[])) (kS ks (d+1) (c+1)) (false,c+1)):=fun m=>by
   rw[ado];cases ks.length==m with
   |false=>exact Ev.ret _
   |true=>
    simp only[qAt,cond_false,qAy,bne];have hkids:Ev (fun n=>(cO n ks (c+1) 16 6 d).bind fun(x2:Bool×Int)=>some ((!x2.1),x2.2)) (kS ks (d+1) (c+1)):=by
     refine Ev.bind hk ?_;simp only[qCt];exact Ev.ret _
    cases k==3 with
    |true=>exact hkids
    |false=>
     simp only[qBc,cond_true,qAb,cond_false];cases nm==([]:Str)with
     |false=>exact Ev.ret _
     |true=>exact hkids
  by_cases e1:k=1
  ·subst e1;have:=hend 0;simpa[iw]using this
  by_cases e2:k=2
  ·subst e2;cases hf:decide (1<d)with
   |true=>
    have:iw 2 nm ks.length d=false:=by simp[iw,hf]
    simp only[this,cond_false];exact Ev.of fun n=>by simp
   |false=>
    have:=hend 0;simpa[iw,hf]using this
  by_cases e3:k=3
  ·subst e3;simp only[show((3:Int)==1)=false from rfl,show((3:Int)==2)=false from rfl,show((3:Int)==3)=true from rfl,cond_false,cond_true];refine Ev.bind (a:=cond (ident nm) (.nx 0) (.rt (false,c+1))) (Ev.bind (lg nm) ?_) ?_
   ·cases ident nm
    ·exact Ev.ret _
    ·exact Ev.ret _
   ·cases hi:ident nm with
    |false=>
     have:iw 3 nm ks.length d=false:=by simp[iw,hi]
     rw[this];exact Ev.ret _
    |true=>
     have:=hend 0;simpa[iw,hi]using this
  by_cases e4:k=4
  ·subst e4;have:=hend 2;simpa[iw]using this
  by_cases e5:k=5
  ·subst e5;have:=hend 1;simpa[iw]using this
  ·have:iw k nm ks.length d=false:=by simp[iw,e1,e2,e3,e4,e5]
   rw[this];refine Ev.of fun n=>?_;have b1:=beq_false_of_ne e1;have b2:=beq_false_of_ne e2;have b3:=beq_false_of_ne e3;have b4:=beq_false_of_ne e4;have b5:=beq_false_of_ne e5;simp only[b1,b2,b3,b4,b5,cond_false,qAb,LR.el]
def dL(t:Ty):Bool:=(pf t 1 0).1
theorem j3(t:Ty):Ev (fun n=>jw n t) (dL t):=by
 have:=fits t 1 0 (by omega) (by omega) (by omega) (by omega);exact Ev.bind this (Ev.ret _)
def pt(t:Ty)(d c:Int):Int:=cond (pf t d c).1 (pf t d c).2 (-1)
def apG(t:Ty):Prop:=∀d c:Int,1≤d→d≤7→0≤c→c≤16→Ev (fun n=>rE n t d c) (pt t d c)
theorem agm(d:Int):∀(ts:List Ty) (c:Int),0≤c→ji (τ:=Int) (fun x s=>cond (decide (pt x d s<0)) (.rt (-1)) (.nx (pt x d s))) (fun s=>s) ts c=cond (kS ts d c).1 (.nx (kS ts d c).2) (.rt (-1))
 |[],c,_=>rfl
 |t::ts,c,h0=>by
  simp only[kS,ji];by_cases hb:(pf t d c).1=true
  ·have h1:=Sj t d c hb;have h2:pt t d c=(pf t d c).2:=by simp only[pt,hb,cond_true]
   have h3:decide ((pf t d c).2<0)=false:=decide_eq_false (by omega);simp only[h2,h3,hb,cond_true,cond_false];exact agm d ts (pf t d c).2 (by omega)
  ·have hb':(pf t d c).1=false:=by simpa using hb
   have h2:pt t d c= -1:=by simp only[pt,hb',cond_false]
   have h3:decide (pt t d c<0)=true:=decide_eq_true (by omega);simp only[h3,hb',cond_true,cond_false]
theorem typed:∀t:Ty,apG t:=Ty.ind fun k nm ks ih d c hd hd7 h0 h1=>by
 refine Ev.succ ?_;show Ev (fun n=>DV n _ (.mk k nm ks) d c) _;unfold DV;simp only[pt,pf,Ty.kind,Ty.name,Ty.kids];rw[wrap64 (by omega) (by omega)];by_cases hd6:d≤6
 case neg=>
  rw[decide_eq_true (show 6<d by omega),decide_eq_false hd6];simp only[qBD,qBh,cond_false];exact Ev.ret _
 by_cases hc:c+1≤16
 case neg=>
  rw[decide_eq_false (show ¬6<d by omega),decide_eq_true (show 16<c+1 by omega),decide_eq_false hc];simp only[qBh,cond_false,cond_true];exact Ev.ret _
 rw[decide_eq_false (show ¬6<d by omega),decide_eq_false (show ¬16<c+1 by omega),decide_eq_true hd6,decide_eq_true hc];simp only[cond_false,qAy];have hloop:=LC ks (fun n k' i s=>Ce n (rE n) (.mk k nm ks) d k' (s,i)) (fun n x s=>(rE n x (IntKind.wrap .i64 (d+1)) s).bind fun x2=>cond (decide (x2<0)) (some (.rt (-1))) (some (.nx x2)))
  (fun x s=>cond (decide (pt x (d+1) s<0)) (.rt (-1)) (.nx (pt x (d+1) s))) (fun s=>s) (fun _ s=>0≤s∧s≤16)
  (fun n k' i s=>by
   show cond _ _ _=_;congr 1;show(idx ks i).bind _=_;congr 1;funext x;dsimp only;cases rE n x (IntKind.wrap .i64 (d+1)) s with
   |none=>rfl
   |some b=>simp only[qAb];cases decide (b<0)<;>rfl)
  (fun x suf s hx hs=>⟨by
   rw[wrap64 (by omega) (by omega)];refine Ev.bind (ih x hx (d+1) s (by omega) (by omega) hs.1 hs.2) ?_;cases decide (pt x (d+1) s<0)
   ·exact Ev.ret _
   ·exact Ev.ret _,fun s' he=>by
    cases hb:decide (pt x (d+1) s<0)with
    |true=>rw[hb]at he;cases he
    |false=>
     rw[hb]at he;simp only[cond_false,LR.nx.injEq]at he;have hneg:¬pt x (d+1) s<0:=of_decide_eq_false hb;subst he;unfold pt at hneg⊢;cases hb2:(pf x (d+1) s).1 with
     |false=>rw[hb2]at hneg;simp at hneg
     |true=>have:=Sj x (d+1) s hb2;simp only[cond_true];omega⟩) (s0:=c+1) ⟨by omega,hc⟩
 rw[agm _ _ _ (by omega)]at hloop;have hkids:Ev (fun n=>(Ce n (rE n) (.mk k nm ks) d n (c+1,0)).bind (LR.el (fun(s5:Int)=>some s5) (fun r=>some r))) (cond (kS ks (d+1) (c+1)).1 (kS ks (d+1) (c+1)).2 (-1)):=by
  refine Ev.bind hloop ?_;cases(kS ks (d+1) (c+1)).1
  ·exact Ev.ret _
  ·exact Ev.ret _
 have hend:∀m:Nat,Ev (fun n=>(((cond ((ks.length:Int)!=(m:Int)) (some true) (cond (k==3) ((eX n nm).bind fun(x3:Bool)=>(cond (!x3) (some true) (cond (k !=3) (some (!(nm==([]:Str)))) (some false)))) (cond (k !=3) (some (!(nm==([]:Str)))) (some false)))):Option Bool).bind fun(s3:Bool)=>(cond s3 (some (-1)) ((Ce n (rE n) (.mk k nm ks) d n (c+1,0)).bind (LR.el (fun(s5:Int)=>some s5) (fun r=>some r))))))
   (cond ((ks.length==m)&&cond (k==3) (ident nm) (nm==[])) (cond (kS ks (d+1) (c+1)).1 (kS ks (d+1) (c+1)).2 (-1)) (-1)):=fun m=>by
  rw[ado];cases ks.length==m with
  |false=>exact Ev.ret _
  |true=>
   simp only[qAt,cond_false,qAy,bne];cases k==3 with
   |true=>
    simp only[cond_true,qAt,cond_false];refine Ev.bind (a:=!(ident nm)) (Ev.bind (kL nm) ?_) ?_
    ·cases ident nm
     ·exact Ev.ret _
     ·exact Ev.ret _
    ·cases ident nm
     ·exact Ev.ret _
     ·exact hkids
   |false=>
    simp only[cond_false,qBc,cond_true,qAb];cases nm==([]:Str)with
    |false=>exact Ev.ret _
    |true=>exact hkids
 have hpair:∀b:Bool,(cond (cond b (kS ks (d+1) (c+1)) (false,c+1)).1 (cond b (kS ks (d+1) (c+1)) (false,c+1)).2 (-1):Int)=cond b (cond (kS ks (d+1) (c+1)).1 (kS ks (d+1) (c+1)).2 (-1)) (-1):=fun b=>by cases b<;>rfl
 rw[hpair];by_cases e1:k=1
 ·subst e1;have:=hend 0;simpa[iw]using this
 by_cases e2:k=2
 ·subst e2;cases hf:decide (1<d)with
  |true=>
   have:iw 2 nm ks.length d=false:=by simp[iw,hf]
   rw[this];exact Ev.of fun n=>by simp
  |false=>
   have:=hend 0;simpa[iw,hf]using this
 by_cases e3:k=3
 ·subst e3;have:=hend 0;simpa[iw]using this
 by_cases e4:k=4
 ·subst e4;have:=hend 2;simpa[iw]using this
 by_cases e5:k=5
 ·subst e5;have:=hend 1;simpa[iw]using this
 ·have:iw k nm ks.length d=false:=by simp[iw,e1,e2,e3,e4,e5]
  rw[this];refine Ev.of fun n=>?_;have b1:=beq_false_of_ne e1;have b2:=beq_false_of_ne e2;have b3:=beq_false_of_ne e3;have b4:=beq_false_of_ne e4;have b5:=beq_false_of_ne e5;simp only[b1,b2,b3,b4,b5,cond_false,qAb,LR.el]
theorem zP(t:Ty):Ev (fun n=>qy n t) (dL t):=by
 refine Ev.bind (typed t 1 0 (by omega) (by omega) (by omega) (by omega)) ?_;unfold pt dL;cases hb:(pf t 1 0).1 with
 |false=>exact Ev.ret _
 |true=>
  have:=Sj t 1 0 hb;simp only[cond_true];rw[decide_eq_true (by omega)];exact Ev.ret _
theorem Qa{α σ τ ρ:Type}(f:α→σ→σ)(fin:σ→τ):∀(l:List α) (s:σ),ji (ρ:=ρ) (fun x s=>.nx (f x s)) fin l s=.nx (fin (l.foldl (fun s x=>f x s) s))
 |[],_=>rfl
 |x::xs,s=>Qa f fin xs (f x s)
theorem lX{α σ τ ρ:Type}(l:List α)(L:Nat→Nat→Int→σ→Option (LR τ ρ))(step:Nat→α→σ→Option σ)(f:α→σ→σ)(fin:σ→τ)(I:List α→σ→Prop)
  (hL:∀n k i s,L n (k+1) i s=cond (decide (i<(l.length:Int))) ((idx l i).bind fun x=>(step n x s).bind fun s'=>L n k (i+1) s') (some (.nx (fin s))))
  (hI:∀x suf s,x∈l→I (x::suf) s→Ev (fun n=>step n x s) (f x s)∧I suf (f x s)) {s0:σ} (h0:I l s0):Ev (fun n=>L n n 0 s0) (.nx (fin (l.foldl (fun s x=>f x s) s0))):=by
 rw[←Qa f fin];refine LC l L (fun n x s=>(step n x s).bind fun s'=>some (.nx s')) (fun x s=>.nx (f x s)) fin I (fun n k i s=>?_) (fun x suf s hx hs=>?_) h0
 ·rw[hL];congr 1;congr 1;funext x
  grind
 ·obtain⟨h1,h2⟩:=hI x suf s hx hs;exact⟨Ev.bind h1 (Ev.ret _),fun s' h=>by cases h;exact h2⟩
theorem aaQ{α ρ:Type}(l:List α)(L:Nat→Nat→Int→Option (LR Unit ρ))(step:Nat→α→Option (LR Unit ρ))(p:α→Bool)(r:ρ)
  (hL:∀n k i,L n (k+1) i=cond (decide (i<(l.length:Int))) ((idx l i).bind fun x=>(step n x).bind (LR.el (fun _=>L n k (i+1)) (fun r=>some (.rt r)))) (some (.nx ())))
  (hp:∀x∈l,Ev (fun n=>step n x) (cond (p x) (.rt r) (.nx ()))):Ev (fun n=>L n n 0) (cond (l.any p) (.rt r) (.nx ())):=by
 have:=LC l (fun n k i (_:Unit)=>L n k i) (fun n x _=>step n x) (fun x _=>cond (p x) (.rt r) (.nx ())) (fun _=>()) (fun _ _=>True)
  (fun n k i s=>by rw[hL]) (fun x suf s hx _=>⟨hp x hx,fun _ _=>trivial⟩) (s0:=()) trivial
 rw[Qj]at this;exact this
theorem iZ{α:Type}{b:Nat}{l ys:List α}(h:l.length+ys.length≤1000000)(hb:b≤1000):app b l ys=some (l++ys):=by
 unfold app;have:=Nat.mul_le_mul h hb
 grind
theorem NA{α:Type}:∀(l s:List α),l.foldl (fun s x=>s++[x]) s=s++l
 |[],s=>by simp
 |x::l,s=>by simp[NA l]
theorem JM{α:Type}(k:Str):dI ([]:List (Str×α)) k=none:=rfl
theorem jS{α:Type}(p:Str×α)(m:List (Str×α))(k:Str):dI (p::m) k=if p.1==k then some p.2 else dI m k:=by
 unfold dI
 grind
theorem PE{α:Type}(m:List (Str×α))(k:Str)(v:α)(k':Str):dI (jd m k v) k'=if k==k' then some v else dI m k':=by
 induction m with
 |nil=>rw[jd,jS]
 |cons p m ih=>
  simp only[jd];by_cases h:(p.1==k)=true
  ·have e:p.1=k:=by simpa using h
   rw[if_pos h,jS,jS,e]
   grind
  ·rw[if_neg h,jS,ih,jS]
   grind
theorem yu{α:Type}(m:List (Str×α))(k:Str)(v:α):(jd m k v).length≤m.length+1:=by
 induction m with
 |nil=>simp[jd]
 |cons p m ih=>
  simp only[jd]
  grind
theorem F3{α:Type}{m:List (Str×α)}(h:m.length≤1000000)(k:Str)(v:α):qZ m k v=some (jd m k v):=by
 unfold qZ
 grind
theorem mem_keys{α:Type}(m:List (Str×α))(k:Str):k∈m.map (·.1)↔∃v,dI m k=some v:=by
 induction m with
 |nil=>simp[JM]
 |cons p m ih=>
  rw[jS];by_cases h:(p.1==k)=true
  ·simp_all
  grind
def dU{α:Type}(l:List (Str×α))(m:List (Str×α)):List (Str×α):=l.foldl (fun m p=>jd m p.1 p.2) m
theorem FK{α:Type}(l m:List (Str×α)):(dU l m).length≤m.length+l.length:=by
 induction l generalizing m with
 |nil=>simp[dU]
 |cons p l ih=>
  have h1:=ih (jd m p.1 p.2);have h2:=yu m p.1 p.2;simp only[dU,qBg,qAu]at h1⊢;omega
theorem Nk{α:Type}(l l' m:List (Str×α)):dU (l++l') m=dU l' (dU l m):=by simp[dU]
theorem ah6{α:Type}(l m:List (Str×α))(k:Str):k∈(dU l m).map (·.1)↔k∈m.map (·.1)∨k∈l.map (·.1):=by
 induction l generalizing m with
 |nil=>simp[dU]
 |cons p l ih=>
  have h1:=ih (jd m p.1 p.2);have h2:k∈(jd m p.1 p.2).map (·.1)↔k∈m.map (·.1)∨k=p.1:=by
   rw[mem_keys,mem_keys,PE];by_cases h:(p.1==k)=true
   ·rw[if_pos h];have e:p.1=k:=by simpa using h
    exact⟨fun _=>.inr e.symm,fun _=>⟨_,rfl⟩⟩
   ·rw[if_neg h];have e:k≠p.1:=fun e=>h (by simp[e]);simp[e]
  rw[h2]at h1;simp only[dU,qBg,qAF,qAh]at h1⊢
  grind
theorem Rj{α:Type}(l m:List (Str×α))(k:Str)(hn:(l.map (·.1)).Nodup):dI (dU l m) k=(match dI l k with|some v=>some v|none=>dI m k):=by
 induction l generalizing m with
 |nil=>rfl
 |cons p l ih=>
  rw[qAF,qBP]at hn;have h1:=ih (jd m p.1 p.2) hn.2;simp only[dU,qBg]at h1⊢;rw[h1,PE,jS];by_cases h:(p.1==k)=true
  ·rw[if_pos h,if_pos h];have e:p.1=k:=by simpa using h
   have h3:dI l k=none:=by
    cases hm:dI l k with
    |none=>rfl
    |some v=>exact absurd ((mem_keys l k).2 ⟨v,hm⟩) (e▸hn.1)
   rw[h3]
  grind
theorem yK{α:Type}(l:List (Str×α))(k:Str)(v:α)(hn:(l.map (·.1)).Nodup):dI l k=some v↔(k,v)∈l:=by
 induction l with
 |nil=>simp[JM]
 |cons p l ih=>
  rw[jS,qAh]
  grind
theorem Xy{α:Type}{l l':List (Str×α)}(hp:l.Perm l')(hn:(l.map (·.1)).Nodup)(k:Str):dI l k=dI l' k:=by
 have hn':(l'.map (·.1)).Nodup:=(hp.map _).nodup_iff.1 hn;cases h:dI l k with
 |some v=>
  rw[yK _ _ _ hn]at h;exact((yK _ _ _ hn').2 (hp.mem_iff.1 h)).symm
 |none=>
  cases h':dI l' k with
  |none=>rfl
  |some v=>
   rw[yK _ _ _ hn']at h';rw[(yK _ _ _ hn).2 (hp.mem_iff.2 h')]at h;cases h
mutual
def rA(q:Int):Ty→Bool
 | .mk k _ ks=>k==q ||abU q ks
def abU(q:Int):List Ty→Bool
 |[]=>false
 |t::ts=>rA q t ||abU q ts
end
theorem PX(q:Int):∀ts,abU q ts=ts.any (rA q)
 |[]=>rfl
 |t::ts=>by simp[abU,PX q ts]
theorem afu(q:Int):∀t:Ty,Ev (fun n=>jK n t q) (rA q t):=Ty.ind fun k nm ks ih=>by
 refine Ev.succ ?_;show Ev (fun n=>rO n _ _ _ _ (.mk k nm ks) q) _;unfold rO;simp only[Ty.kind,Ty.kids,rA,PX];have hk:Ev (fun n=>eU n ks q) (ks.any (rA q)):=by
  refine Ev.succ ?_;show Ev (fun n=>jC n _ _ _ _ ks q) _;unfold jC;refine Ev.bind (a:=jU (rA q) 0 ks) (Ev.succ ?_) ?_
  ·show Ev (fun n=>kG n _ _ _ _ ks q) _;unfold kG;refine rP ks (fun n k i=>sD n _ _ _ (iT n) ks q k i) (fun n x=>iT n x q) (rA q) (fun n k i=>rfl) (fun x hx=>?_);refine Ev.succ ?_;show Ev (fun n=>oV n _ _ _ _ x q) _;unfold oV;exact Ev.bind (ih x hx) (Ev.ret _)
  ·rw[rQ _ _ _ (qBB _)];exact Ev.ret _
 cases hq:(k==q)
 ·exact Ev.bind (Ev.bind hk (Ev.ret _)) (Ev.ret _)
 ·exact Ev.bind (Ev.ret _) (Ev.ret _)
theorem aeO:∀t:Ty,Ev (fun n=>nk n t) (rA 2 t):=Ty.ind fun k nm ks ih=>by
 refine Ev.succ ?_;show Ev (fun n=>w9 n _ (.mk k nm ks)) _;unfold w9;simp only[Ty.kind,rA,PX];cases hq:(k==2)
 ·have h:=kM ks (fun n k' i=>JV n (nk n) (.mk k nm ks) k' i) (fun n x=>nk n x) (rA 2) true (fun n k i=>rfl) ih;simp only[cond_false,qCS];refine Ev.bind h ?_;cases ks.any (rA 2)
  ·exact Ev.ret _
  ·exact Ev.ret _
 ·exact Ev.ret _
mutual
def fq:Ty→List Str
 | .mk k nm ks=>cond (k==3) [nm] (jN ks)
def jN:List Ty→List Str
 |[]=>[]
 |t::ts=>fq t++jN ts
end
mutual
def AB:Ty→Bool
 | .mk k _ ks=>(decide (ks.length≤2)&&(k !=3 ||ks.length==0))&&MJ ks
def MJ:List Ty→Bool
 |[]=>true
 |t::ts=>AB t&&MJ ts
end
theorem G8:∀{ts:List Ty},MJ ts=true→∀t∈ts,AB t=true
 |[],_,t,h=>by cases h
 |u::ts,h,t,ht=>by
  simp only[MJ,qAa]at h;rcases qAh.1 ht with rfl|ht
  ·exact h.1
  ·exact G8 h.2 t ht
theorem Yt:∀{ts:List Ty} {t:Ty},t∈ts→(fq t).length≤(jN ts).length
 |[],t,h=>by cases h
 |u::ts,t,ht=>by
  simp only[jN,qAg];rcases qAh.1 ht with rfl|ht
  ·omega
  ·have:=Yt ht;omega
theorem anT{k:Int}{nm:Str}{len:Nat}{d:Int}(h:iw k nm len d=true):len≤2∧(k=3→len=0):=by
 unfold iw at h
 grind
mutual
theorem amh:∀(t:Ty) (d c:Int),(pf t d c).1=true→AB t=true∧((fq t).length:Int)≤(pf t d c).2 - c
 | .mk k nm ks,d,c,h=>by
  simp only[pf]at h⊢;cases hb:((decide (c+1≤16)&&decide (d≤6))&&iw k nm ks.length d)with
  |false=>rw[hb]at h;cases h
  |true=>
   rw[hb]at h;simp only[cond_true]at h⊢;simp only[qAa]at hb;have hh:=anT hb.2;have h1:=aiB ks (d+1) (c+1) h;have h2:=aeB ks (d+1) (c+1) h;constructor
   ·simp only[AB,h1.1,qBq,qAa,decide_eq_true_eq,qBb,bne_iff_ne,beq_iff_eq];refine⟨hh.1,?_⟩;by_cases e:k=3
    ·exact .inr (hh.2 e)
    ·exact .inl e
   ·simp only[fq];cases k==3 with
    |true=>simp only[cond_true,qAM];omega
    |false=>simp only[cond_false];omega
theorem aiB:∀(ts:List Ty) (d c:Int),(kS ts d c).1=true→MJ ts=true∧((jN ts).length:Int)≤(kS ts d c).2 - c
 |[],_,c,_=>by simp[kS,MJ,jN]
 |t::ts,d,c,h=>by
  simp only[kS]at h⊢;cases hb:(pf t d c).1 with
  |false=>rw[hb]at h;cases h
  |true=>
   rw[hb]at h;simp only[cond_true]at h⊢;have h1:=amh t d c hb;have h2:=aiB ts d _ h;simp only[MJ,h1.1,h2.1,qBq,jN,qAg];refine⟨trivial,?_⟩;omega
end
theorem UM{t:Ty}(h:dL t=true):AB t=true∧(fq t).length≤16:=by
 have h1:=amh t 1 0 h;have h2:=Sj t 1 0 h
 grind
theorem YL:∀t:Ty,AB t=true→(fq t).length≤16→Ev (fun n=>tO n t) (fq t):=Ty.ind fun k nm ks ih hok hlen=>by
 refine Ev.succ ?_;show Ev (fun n=>yw n _ (.mk k nm ks)) _;unfold yw;simp only[Ty.kind,fq]at hlen⊢;simp only[AB,qAa]at hok;cases hq:(k==3)with
 |true=>exact Ev.ret _
 |false=>
  rw[hq]at hlen;have h:=lX ks (fun n k' i s=>Mr n (tO n) (.mk k nm ks) k' (s,i)) (fun n x s=>(tO n x).bind fun x2=>app 16 s x2) (fun x s=>s++fq x) (fun s=>s) (fun suf s=>s.length+(jN suf).length≤16)
   (fun n k' i s=>by
    show cond _ _ _=_;congr 1;congr 1;simp only[qAU];rfl)
   (fun x suf s hx hs=>by
    simp only[jN,qAg]at hs;refine⟨Ev.bind (ih x hx (G8 hok.2 x hx) (by have:=Yt hx;omega)) ?_,?_⟩
    ·rw[iZ (by omega) (by omega)];exact Ev.ret _
    ·simp;omega) (s0:=([]:List Str)) (by simpa using hlen)
  have hf:∀(ts:List Ty) (s:List Str),ts.foldl (fun s x=>s++fq x) s=s++jN ts:=by
   intro ts
   induction ts with
   |nil=>intro s;simp[jN]
   |cons t ts iht=>intro s;simp[jN,iht]
  rw[hf]at h;exact Ev.bind h (Ev.ret _)
theorem ahf:∀t:Ty,AB t=true→∀m:List (Str×Bool),m.length+(fq t).length≤1000→Ev (fun n=>kH n t m) (dU ((fq t).map fun s=>(s,true)) m):=Ty.ind fun k nm ks ih hok m hlen=>by
 refine Ev.succ ?_;show Ev (fun n=>uf n _ (.mk k nm ks) m) _;unfold uf;simp only[Ty.kind,Ty.name,fq]at hlen⊢;simp only[AB,qAa,decide_eq_true_eq,qBb,beq_iff_eq,bne_iff_ne]at hok;have hloop:∀(m:List (Str×Bool)),m.length+(jN ks).length≤1000→Ev (fun n=>xw n (kH n) (.mk k nm ks) n (0,m)) (.nx (dU ((jN ks).map fun s=>(s,true)) m)):=fun m hm=>by
  have h:=lX ks (fun n k' i s=>xw n (kH n) (.mk k nm ks) k' (i,s)) (fun n x s=>kH n x s) (fun x s=>dU ((fq x).map fun s=>(s,true)) s) (fun s=>s) (fun suf s=>s.length+(jN suf).length≤1000)
   (fun n k' i s=>rfl)
   (fun x suf s hx hs=>by
    simp only[jN,qAg]at hs;refine⟨ih x hx (G8 hok.2 x hx) s (by omega),?_⟩;have:=FK ((fq x).map fun s=>(s,true)) s;simp only[qAj]at this;omega) (s0:=m) hm
  have hf:∀(ts:List Ty) (s:List (Str×Bool)),ts.foldl (fun s x=>dU ((fq x).map fun s=>(s,true)) s) s=dU ((jN ts).map fun s=>(s,true)) s:=by
   intro ts
   induction ts with
   |nil=>intro s;rfl
   |cons t ts iht=>intro s;simp only[qBg,jN,qBa,Nk,iht]
  grind
 cases hq:(k==3)with
 |true=>
  have hk:k=3:=by simpa using hq
  have hks:ks=[]:=by
   rcases hok.1.2 with h|h
   ·exact absurd hk h
   ·exact qAO.1 h
  rw[hq]at hlen;simp only[cond_true,qAM]at hlen⊢;rw[F3 (by omega)];have hl:=yu m nm true;have:=hloop (jd m nm true) (by rw[hks];simp only[jN,qAE];omega);rw[hks]at this⊢;simp only[qAb];exact Ev.bind this (Ev.ret _)
 |false=>
  rw[hq]at hlen;simp only[cond_false,qAb]at hlen⊢;exact Ev.bind (hloop m hlen) (Ev.ret _)
theorem DU{t:Ty}(h:dL t=true):Ev (fun n=>uL n t) (((dU ((fq t).map fun s=>(s,true)) []).map (·.1)).mergeSort QU):=by
 refine Ev.bind (j3 t) ?_;rw[h];obtain⟨h1,h2⟩:=UM h;refine Ev.bind (ahf t h1 [] (by simp;omega)) ?_;have:=FK ((fq t).map fun s=>(s,true)) [];simp at this;unfold jY;rw[if_pos (by omega)];exact Ev.ret _
theorem Rb(t:Ty)(s:Str):s∈((dU ((fq t).map fun s=>(s,true)) []).map (·.1)).mergeSort QU↔s∈fq t:=by
 rw[List.mem_mergeSort,ah6];simp
theorem afw:∀t:Ty,AB t=true→Ev (fun n=>lF n t) t:=Ty.ind fun k nm ks ih hok=>by
 refine Ev.succ ?_;show Ev (fun n=>qX n _ (.mk k nm ks)) _;unfold qX;simp only[AB,qAa]at hok;have h:=lX ks (fun n k' i s=>Dt n (lF n) (.mk k nm ks) k' (i,s)) (fun n x s=>(lF n x).bind fun x2=>app 48 s [x2]) (fun x s=>s++[x]) (fun s=>s) (fun suf s=>s.length+suf.length≤2)
  (fun n k' i s=>by
   show cond _ _ _=_;congr 1;congr 1;simp only[qAU];rfl)
  (fun x suf s hx hs=>by
   simp at hs;refine⟨Ev.bind (ih x hx (G8 hok.2 x hx)) ?_,?_⟩
   ·rw[iZ (by simp;omega) (by omega)];exact Ev.ret _
   ·simp;omega) (s0:=([]:List Ty)) (by simpa using hok.1.1)
 rw[NA]at h;exact Ev.bind h (Ev.ret _)
theorem Ud:∀t:Ty,AB t=true→Ev (fun n=>tL n t) t:=Ty.ind fun k nm ks ih hok=>by
 refine Ev.succ ?_;show Ev (fun n=>yg n _ (.mk k nm ks)) _;unfold yg;simp only[AB,qAa]at hok;have h:=lX ks (fun n k' i s=>Lg n (tL n) (.mk k nm ks) k' (i,s)) (fun n x s=>(tL n x).bind fun x2=>app 48 s [x2]) (fun x s=>s++[x]) (fun s=>s) (fun suf s=>s.length+suf.length≤2)
  (fun n k' i s=>by
   show cond _ _ _=_;congr 1;congr 1;simp only[qAU];rfl)
  (fun x suf s hx hs=>by
   simp at hs;refine⟨Ev.bind (ih x hx (G8 hok.2 x hx)) ?_,?_⟩
   ·rw[iZ (by simp;omega) (by omega)];exact Ev.ret _
   ·simp;omega) (s0:=([]:List Ty)) (by simpa using hok.1.1)
 rw[NA]at h;exact Ev.bind h (Ev.ret _)
def dZ(env:Env)(s:Str):Bool:=env.carriers.any fun c=>c.name==s
def D9(c:Carrier):Bool:=ident c.name&&(!(decide (8<(c.elems.length:Int)))&&c.elems.all ident)
def vX(env:Env)(d:Decl):Bool:=named d.name&&((dL d.ty&&!(rA 2 d.ty))&&(fq d.ty).all (dZ env))
def zR(env:Env):List Str:=(env.carriers.flatMap fun c=>c.name::c.elems)++env.names.map (·.name)
def names2(env:Env):List Str:=env.carriers.map (·.name)++(env.carriers.flatMap (·.elems)++env.names.map (·.name))
def kT:List Str→List Str→Bool
 |_,[]=>true
 |pre,x::xs=>!(pre.any (·==x))&&kT (pre++[x]) xs
theorem aaX:∀(l pre:List Str),kT pre l=true↔l.Nodup∧∀x∈l,x∉pre
 |[],pre=>by simp[kT]
 |x::l,pre=>by
  simp only[kT,qAa,aaX l,qAY,qBP,qAh,qCV,beq_iff_eq,qAA,List.not_mem_nil,or_false];constructor
  ·rintro⟨h1,h2,h3⟩;refine⟨⟨fun hx=>(h3 x hx) (.inr rfl),h2⟩,?_⟩;rintro y (rfl|hy)
   ·exact fun hp=>h1 _ hp rfl
   ·exact fun hp=>h3 y hy (.inl hp)
  ·rintro⟨⟨h1,h2⟩,h3⟩;refine⟨fun y hy e=>h3 x (.inl rfl) (e▸hy),h2,fun y hy hp=>?_⟩;rcases hp with hp|rfl
   ·exact h3 y (.inr hy) hp
   ·exact h1 hy
theorem V8(l:List Str):kT [] l=true↔l.Nodup:=by rw[aaX];simp
theorem aiS(cs:List Carrier):(cs.flatMap fun c=>c.name::c.elems).Perm (cs.map (·.name)++cs.flatMap (·.elems)):=by
 induction cs with
 |nil=>simp
 |cons c cs ih=>
  grind
theorem FE(env:Env):(zR env).Perm (names2 env):=by
 unfold zR names2;rw[←qAo];exact qCy _ (aiS _)
theorem aom(env:Env):kT [] (zR env)=kT [] (names2 env):=by
 have h:(kT [] (zR env)=true)↔(kT [] (names2 env)=true):=by rw[V8,V8];exact(FE env).nodup_iff
 grind
def aU(env:Env):Bool:=!(decide (8<(env.carriers.length:Int)) ||decide (64<(env.names.length:Int)))&&(env.carriers.all D9&&(env.names.all (vX env)&&kT [] (names2 env)))
theorem abp(env:Env)(s:Str):Ev (fun n=>wZ n env s) (dZ env s):=by
 refine Ev.bind (a:=dZ env s) ?_ (Ev.ret _);refine Ev.bind (rP env.carriers (fun n k i=>qK n env.carriers s k i) (fun _ x=>some (x.name==s)) (fun c=>c.name==s) (fun n k i=>rfl) (fun x _=>Ev.ret _)) ?_;rw[rQ _ _ _ (qBB _)];exact Ev.ret _
theorem afI(env:Env){t:Ty}(h:dL t=true):Ev (fun n=>uw n env t) ((fq t).all (dZ env)):=by
 refine Ev.bind (DU h) ?_;generalize hl:((dU ((fq t).map fun s=>(s,true)) []).map (·.1)).mergeSort QU=l;have hm:∀s,s∈l↔s∈fq t:=fun s=>by rw[←hl];exact Rb t s
 have hf:=rP l (fun n k i=>sQ n l env.carriers env.names k i) (fun n x=>wY n x env.carriers env.names) (fun s=>!(dZ env s)) (fun n k i=>rfl) (fun x _=>by
  exact Ev.bind (abp env x) (Ev.ret _))
 refine Ev.bind (a:=l.any fun s=>!(dZ env s)) (Ev.bind hf ?_) ?_
 ·rw[rQ _ _ _ (qBB _)];exact Ev.ret _
 ·rw[mQ,qCt];have:l.all (dZ env)=(fq t).all (dZ env):=by
   grind
  rw[this];exact Ev.ret _
theorem Bj(env:Env)(s:Str):Ev (fun n=>iM n env s) (jU (fun c=>c.name==s) 0 env.carriers):=by
 exact rP env.carriers (fun n k i=>EA n env s k i) (fun _ x=>some (x.name==s)) (fun c=>c.name==s) (fun n k i=>rfl) (fun x _=>Ev.ret _)
theorem aiU(a:Int):decide (a<0)=!(decide (0≤a)):=by grind
theorem adO(env:Env){t:Ty}(h:dL t=true):Ev (fun n=>Ik n env t) ((fq t).all (dZ env)):=by
 obtain⟨h1,h2⟩:=UM h;refine Ev.bind (YL t h1 h2) ?_;have hs:=kM (fq t) (fun n k i=>Ub n env (fq t) k i) (fun n x=>(iM n env x).bind fun x3=>some (decide (x3<0))) (fun s=>!(dZ env s)) false
  (fun n k i=>by
   show cond _ _ _=_;congr 1;congr 1;simp only[qAU];rfl)
  (fun x _=>by
   refine Ev.bind (Bj env x) ?_;rw[aiU,rQ _ _ _ (qBB _)];exact Ev.ret _)
 rw[mQ]at hs;refine Ev.bind hs ?_;cases(fq t).all (dZ env)
 ·exact Ev.ret _
 ·exact Ev.ret _
theorem afb(env:Env)(h:(zR env).length≤1000000):Ev (fun n=>uj n env) (zR env):=by
 unfold uj;simp only[zR,qAg,qAj]at h;have h1:=lX env.carriers (fun n k i s=>Dn n env k (s,i)) (fun n x s=>(app 16 s [x.name]).bind fun x4=>app 16 x4 x.elems) (fun x s=>s++(x.name::x.elems)) (fun s=>s) (fun suf s=>s.length+(suf.flatMap fun c=>c.name::c.elems).length≤1000000)
  (fun n k i s=>by
   show cond _ _ _=_;congr 1;show(idx env.carriers i).bind _=_;congr 1;funext x;simp only[qAU];rfl)
  (fun x suf s hx hs=>by
   simp only[qBE,qAg,qAu]at hs;refine⟨?_,?_⟩
   ·rw[iZ (by simp only[qAM];omega) (by omega),qAb,iZ (by simp only[qAg,qAM];omega) (by omega)];rw[qAo];exact Ev.ret _
   ·simp only[qAg,qAu];omega) (s0:=([]:List Str)) (by simp only[qAE];omega)
 have hf1:∀(cs:List Carrier) (s:List Str),cs.foldl (fun s x=>s++(x.name::x.elems)) s=s++cs.flatMap fun c=>c.name::c.elems:=by
  intro cs
  induction cs with
  |nil=>intro s;simp
  |cons c cs ih=>intro s;rw[qBg,ih];simp
 rw[hf1,qAz]at h1;have h2:=lX env.names (fun n k i s=>CJ n env k (s,i)) (fun n x s=>app 16 s [x.name]) (fun x s=>s++[x.name]) (fun s=>s) (fun suf s=>s.length+suf.length≤1000000)
  (fun n k i s=>rfl)
  (fun x suf s hx hs=>by
   simp only[qAu]at hs;refine⟨?_,?_⟩
   ·rw[iZ (by simp only[qAM];omega) (by omega)];exact Ev.ret _
   ·simp only[qAg,qAM];omega) (s0:=env.carriers.flatMap fun c=>c.name::c.elems) (by omega)
 have hf2:∀(cs:List Decl) (s:List Str),cs.foldl (fun s x=>s++[x.name]) s=s++cs.map (·.name):=by
  intro cs
  induction cs with
  |nil=>intro s;simp
  |cons c cs ih=>intro s;rw[qBg,ih];simp
 rw[hf2]at h2;exact Ev.bind h1 (Ev.bind h2 (Ev.ret _))
theorem afi(env:Env)(h:(names2 env).length≤1000000):Ev (fun n=>Co n env) (names2 env):=by
 unfold Co;simp only[names2,qAg,qAj]at h;have h0:=lX env.carriers (fun n k i s=>KJ n env k (s,i)) (fun n x s=>app 16 s [x.name]) (fun x s=>s++[x.name]) (fun s=>s) (fun suf s=>s.length+suf.length≤1000000)
  (fun n k i s=>rfl)
  (fun x suf s hx hs=>by
   simp only[qAu]at hs;refine⟨?_,?_⟩
   ·rw[iZ (by simp only[qAM];omega) (by omega)];exact Ev.ret _
   ·simp only[qAg,qAM];omega) (s0:=([]:List Str)) (by simp only[qAE];omega)
 have hf0:∀(cs:List Carrier) (s:List Str),cs.foldl (fun s x=>s++[x.name]) s=s++cs.map (·.name):=by
  intro cs
  induction cs with
  |nil=>intro s;simp
  |cons c cs ih=>intro s;rw[qBg,ih];simp
 rw[hf0,qAz]at h0;have h1:=lX env.carriers (fun n k i s=>Md n env k (s,i)) (fun n x s=>app 16 s x.elems) (fun x s=>s++x.elems) (fun s=>s) (fun suf s=>s.length+(suf.flatMap (·.elems)).length≤1000000)
  (fun n k i s=>rfl)
  (fun x suf s hx hs=>by
   simp only[qBE,qAg]at hs;refine⟨?_,?_⟩
   ·rw[iZ (by omega) (by omega)];exact Ev.ret _
   ·simp only[qAg];omega) (s0:=env.carriers.map (·.name)) (by simp only[qAj];omega)
 have hf1:∀(cs:List Carrier) (s:List Str),cs.foldl (fun s x=>s++x.elems) s=s++cs.flatMap (·.elems):=by
  intro cs
  induction cs with
  |nil=>intro s;simp
  |cons c cs ih=>intro s;rw[qBg,ih];simp
 rw[hf1]at h1;have h2:=lX env.names (fun n k i s=>KE n env k (s,i)) (fun n x s=>app 16 s [x.name]) (fun x s=>s++[x.name]) (fun s=>s) (fun suf s=>s.length+suf.length≤1000000)
  (fun n k i s=>rfl)
  (fun x suf s hx hs=>by
   simp only[qAu]at hs;refine⟨?_,?_⟩
   ·rw[iZ (by simp only[qAM];omega) (by omega)];exact Ev.ret _
   ·simp only[qAg,qAM];omega) (s0:=env.carriers.map (·.name)++env.carriers.flatMap (·.elems)) (by simp only[qAg,qAj];omega)
 have hf2:∀(cs:List Decl) (s:List Str),cs.foldl (fun s x=>s++[x.name]) s=s++cs.map (·.name):=by
  intro cs
  induction cs with
  |nil=>intro s;simp
  |cons c cs ih=>intro s;rw[qBg,ih];simp
 rw[hf2,qAo]at h2;exact Ev.bind h0 (Ev.bind h1 (Ev.bind h2 (Ev.ret _)))
theorem afm(l:List Str)(hl:l.length≤1000000):Ev (fun n=>uo n l) (kT [] l):=by
 unfold uo;have h:=LC l (fun n k i s=>Da n l k (i,s)) (fun n x s=>(Ux (dI s x) (some false) (fun x3=>some x3):Option Bool).bind fun s3=>cond s3 (some (.rt false)) ((qZ s x true).bind fun x2=>some (.nx x2))) (fun x s=>cond ((dI s x).getD false) (.rt false) (.nx (jd s x true))) (fun _=>())
  (fun suf s=>s.length+suf.length≤1000000)
  (fun n k i s=>by
   show cond _ _ _=_;congr 1;show(idx l i).bind _=_;congr 1;funext x;cases dI s x with
   |none=>simp only[Ux,qAb,cond_false,qAU];rfl
   |some b=>cases b<;>simp only[Ux,qAb,cond_false,cond_true,qAU];rfl)
  (fun x suf s hx hs=>by
   simp only[qAu]at hs;refine⟨?_,fun s' he=>?_⟩
   ·rw[F3 (by omega)];cases dI s x with
    |none=>exact Ev.ret _
    |some b=>cases b<;>exact Ev.ret _
   ·cases hb:(dI s x).getD false with
    |true=>rw[hb]at he;cases he
    |false=>
     rw[hb]at he;cases he;have:=yu s x true;omega) (s0:=([]:List (Str×Bool))) (by simpa using hl)
 have key:∀(suf pre:List Str) (s:List (Str×Bool)),(∀x,dI s x=if pre.any (·==x)then some true else none)→ji (τ:=Unit) (fun x s=>cond ((dI s x).getD false) (.rt false) (.nx (jd s x true))) (fun _=>()) suf s=cond (kT pre suf) (.nx ()) (.rt false):=by
  intro suf
  induction suf with
  |nil=>intro pre s _;rfl
  |cons x suf ih=>
   intro pre s hs;simp only[ji,kT];rw[hs x];cases hb:pre.any (·==x)with
   |true=>rfl
   |false=>
    simp only[qAI,if_false,qBS,cond_false,qBc,qAy];refine ih (pre++[x]) _ (fun y=>?_);rw[PE,hs y];simp only[List.any_append,qCz,List.any_nil,qCA];cases hy:(x==y)with
    |true=>simp
    |false=>simp
 rw[key l [] [] (fun x=>rfl)]at h;refine Ev.bind h ?_;cases kT [] l
 ·exact Ev.ret _
 ·exact Ev.ret _
theorem ahK(l:List Str):Ev (fun n=>Bw n l n 0) (cond (kT [] l) (.nx ()) (.rt false)):=by
 have h:=BJ l (fun n k i (_:Unit)=>Bw n l k i) (fun n i x _=>(nR l 0 i).bind fun x3=>(M4 n x x3).bind fun x4=>cond x4 (some (.rt false)) (some (.nx ()))) (fun i x _=>cond ((l.take i.toNat).any (·==x)) (.rt false) (.nx ())) (fun _=>())
  (fun i suf _=>∃pre,l=pre++suf∧i=(pre.length:Int))
  (fun n k i s=>by
   show cond _ _ _=_;congr 1;congr 1;funext x;cases nR l 0 i with
   |none=>rfl
   |some y=>
    simp;cases M4 n x y with
    |none=>rfl
    |some b=>cases b<;>rfl)
  (fun i x suf s hx hs=>by
   obtain⟨pre,hp,rfl⟩:=hs;refine⟨?_,fun _ _=>⟨pre++[x],by rw[hp];simp,by simp⟩⟩;rw[UH l pre.length (by rw[hp];simp)];simp;refine Ev.bind (acS _ _) ?_;cases(l.take pre.length).any (·==x)
   ·exact Ev.ret _
   ·exact Ev.ret _) (s0:=()) ⟨[],rfl,rfl⟩
 have key:∀(suf pre:List Str),l=pre++suf→gL (τ:=Unit) (fun i x _=>cond ((l.take i.toNat).any (·==x)) (.rt false) (.nx ())) (fun _=>()) (pre.length:Int) suf ()=cond (kT pre suf) (.nx ()) (.rt false):=by
  intro suf
  induction suf with
  |nil=>intro pre _;rfl
  |cons x suf ih=>
   intro pre hp;have ht:l.take pre.length=pre:=by rw[hp];simp
   simp only[gL,kT]
   grind
 grind
theorem TS{env:Env}(h1:¬8<(env.carriers.length:Int))(h2:¬64<(env.names.length:Int))(h3:env.carriers.all D9=true):(names2 env).length≤1000:=by
 have key:∀cs:List Carrier,cs.all D9=true→(cs.flatMap (·.elems)).length≤8*cs.length:=by
  intro cs
  induction cs with
  |nil=>intro _;simp
  |cons c cs ih=>
   intro h;simp only[qBy,D9]at h
   grind
 have:=key _ h3;simp only[names2,qAg,qAj];omega
theorem Dl(env:Env)(hs:∀d∈env.names,d.name.length≤9223372036854775807):Ev (fun n=>oH n env) (aU env):=by
 unfold oH;by_cases h1:8<(env.carriers.length:Int)
 ·have:aU env=false:=by simp only[aU,decide_eq_true h1,qBT,qAt,qBh]
  rw[this,decide_eq_true h1];exact Ev.ret _
 by_cases h2:64<(env.names.length:Int)
 ·have:aU env=false:=by simp only[aU,decide_eq_true h2,qDd,qAt,qBh]
  rw[this,decide_eq_true h2,decide_eq_false h1];exact Ev.ret _
 simp only[aU,decide_eq_false h1,decide_eq_false h2,qCA,qBc,qAy,cond_false,qAb];have hcar:=aaQ env.carriers (fun n k i=>CX n env k i) (fun n x=>((dO n x.name).bind fun x10=>cond (!x10) (some true) (some (decide (8<(x.elems.length:Int))))).bind fun s7=>cond s7 (some (.rt false)) ((ow n x n 0).bind (LR.el (fun _=>some (.nx ())) (fun r=>some (.rt r))))) (fun c=>!(D9 c)) false
  (fun n k i=>by
   show cond _ _ _=_;congr 1;congr 1;funext x;cases((dO n x.name).bind fun x10=>cond (!x10) (some true) (some (decide (8<(x.elems.length:Int)))))with
   |none=>rfl
   |some b=>
    cases b with
    |true=>rfl
    |false=>
     simp only[qAb,cond_false];cases ow n x n 0 with
     |none=>rfl
     |some r=>cases r<;>rfl)
  (fun c hc=>by
   refine Ev.bind (a:=!(ident c.name) ||decide (8<(c.elems.length:Int))) (Ev.bind (lg c.name) ?_) ?_
   ·cases ident c.name
    ·exact Ev.ret _
    ·exact Ev.ret _
   ·unfold D9;cases ident c.name with
    |false=>exact Ev.ret _
    |true=>
     cases decide (8<(c.elems.length:Int))with
     |true=>exact Ev.ret _
     |false=>
      simp only[qAt,qCS,cond_false,qAy,qBc];have h:=kM c.elems (fun n k i=>ow n c k i) (fun n x=>(dO n x).bind fun x9=>some (!x9)) (fun s=>!(ident s)) false
       (fun n k i=>by
        show cond _ _ _=_;congr 1;congr 1;funext x;simp only[qAU,qAb];rfl)
       (fun x _=>Ev.bind (lg x) (Ev.ret _))
      rw[mQ]at h;refine Ev.bind h ?_;cases c.elems.all ident
      ·exact Ev.ret _
      ·exact Ev.ret _)
 rw[mQ]at hcar;refine Ev.bind hcar ?_;cases hc:env.carriers.all D9 with
 |false=>exact Ev.ret _
 |true=>
  simp only[qAt,cond_false,qAy];have hdecl:=kM env.names (fun n k i=>Dx n env k i) (fun n x=>(oz n x.name).bind fun x4=>cond (!x4) (some true) ((pV n x.ty).bind fun x5=>cond (!x5) (some true) ((uw n env x.ty).bind fun x6=>some (!x6)))) (fun d=>!(vX env d)) false
   (fun n k i=>rfl)
   (fun d hd=>by
    refine Ev.bind (TM d.name (hs d hd)) ?_;unfold vX;cases named d.name with
    |false=>exact Ev.ret _
    |true=>
     simp only[qAt,cond_false,qAy];refine Ev.bind (a:=dL d.ty&&!(rA 2 d.ty)) ?_ ?_
     ·unfold pV;refine Ev.bind (a:=dL d.ty&&!(rA 2 d.ty)) (Ev.bind (j3 d.ty) ?_) (Ev.ret _);cases dL d.ty with
      |false=>exact Ev.ret _
      |true=>exact Ev.bind (afu 2 d.ty) (Ev.ret _)
     ·cases hv:dL d.ty with
      |false=>exact Ev.ret _
      |true=>
       cases rA 2 d.ty with
       |true=>exact Ev.ret _
       |false=>exact Ev.bind (afI env hv) (Ev.ret _))
  rw[mQ]at hdecl;refine Ev.bind hdecl ?_;cases hd:env.names.all (vX env)with
  |false=>exact Ev.ret _
  |true=>
   simp only[qAt,cond_false,qAy];have hlen:=TS h1 h2 hc;have hlen1:(zR env).length≤1000:=by rw[(FE env).length_eq];exact hlen
   refine Ev.bind (afb env (by omega)) ?_;rw[←aom];exact Ev.bind (afm _ (by omega)) (Ev.ret _)
theorem LM(env:Env):Ev (fun n=>xL n env) (aU env):=by
 unfold xL;by_cases h1:8<(env.carriers.length:Int)
 ·have:aU env=false:=by simp only[aU,decide_eq_true h1,qBT,qAt,qBh]
  rw[this,decide_eq_true h1];exact Ev.ret _
 by_cases h2:64<(env.names.length:Int)
 ·have:aU env=false:=by simp only[aU,decide_eq_true h2,qDd,qAt,qBh]
  rw[this,decide_eq_true h2,decide_eq_false h1];exact Ev.ret _
 simp only[aU,decide_eq_false h1,decide_eq_false h2,qCA,qBc,qAy,cond_false,qAb];have hcar:=aaQ env.carriers (fun n k i=>KC n env k i) (fun n x=>((eX n x.name).bind fun x10=>cond (!x10) (some true) (some (decide (8<(x.elems.length:Int))))).bind fun s7=>cond s7 (some (.rt false)) ((vV n x n 0).bind (LR.el (fun _=>some (.nx ())) (fun r=>some (.rt r))))) (fun c=>!(D9 c)) false
  (fun n k i=>by
   show cond _ _ _=_;congr 1;congr 1;funext x;cases((eX n x.name).bind fun x10=>cond (!x10) (some true) (some (decide (8<(x.elems.length:Int)))))with
   |none=>rfl
   |some b=>
    cases b with
    |true=>rfl
    |false=>
     simp only[qAb,cond_false];cases vV n x n 0 with
     |none=>rfl
     |some r=>cases r<;>rfl)
  (fun c hc=>by
   refine Ev.bind (a:=!(ident c.name) ||decide (8<(c.elems.length:Int))) (Ev.bind (kL c.name) ?_) ?_
   ·cases ident c.name
    ·exact Ev.ret _
    ·exact Ev.ret _
   ·unfold D9;cases ident c.name with
    |false=>exact Ev.ret _
    |true=>
     cases decide (8<(c.elems.length:Int))with
     |true=>exact Ev.ret _
     |false=>
      simp only[qAt,qCS,cond_false,qAy,qBc];have h:=kM c.elems (fun n k i=>vV n c k i) (fun n x=>(eX n x).bind fun x9=>some (!x9)) (fun s=>!(ident s)) false
       (fun n k i=>by
        show cond _ _ _=_;congr 1;congr 1;funext x;simp only[qAU,qAb];rfl)
       (fun x _=>Ev.bind (kL x) (Ev.ret _))
      rw[mQ]at h;refine Ev.bind h ?_;cases c.elems.all ident
      ·exact Ev.ret _
      ·exact Ev.ret _)
 rw[mQ]at hcar;refine Ev.bind hcar ?_;cases hc:env.carriers.all D9 with
 |false=>exact Ev.ret _
 |true=>
  simp only[qAt,cond_false,qAy];have hdecl:=kM env.names (fun n k i=>KH n env k i) (fun n x=>(Bn n x.name).bind fun x6=>cond (!x6) (some true) ((qy n x.ty).bind fun x7=>cond (!x7) (some true) ((nk n x.ty).bind fun x8=>cond x8 (some true) ((Ik n env x.ty).bind fun x9=>some (!x9))))) (fun d=>!(vX env d)) false
   (fun n k i=>rfl)
   (fun d hd=>by
    refine Ev.bind (TH d.name) ?_;unfold vX;cases named d.name with
    |false=>exact Ev.ret _
    |true=>
     simp only[qAt,cond_false,qAy];refine Ev.bind (zP d.ty) ?_;cases hv:dL d.ty with
     |false=>exact Ev.ret _
     |true=>
      refine Ev.bind (aeO d.ty) ?_;cases rA 2 d.ty with
      |true=>exact Ev.ret _
      |false=>exact Ev.bind (adO env hv) (Ev.ret _))
  rw[mQ]at hdecl;refine Ev.bind hdecl ?_;cases hd:env.names.all (vX env)with
  |false=>exact Ev.ret _
  |true=>
   simp only[qAt,cond_false,qAy];have hlen:=TS h1 h2 hc;refine Ev.bind (afi env (by omega)) ?_;refine Ev.bind (ahK _) ?_;cases kT [] (names2 env)
   ·exact Ev.ret _
   ·exact Ev.ret _
theorem fu{env:Env}(h:aU env=true):env.carriers.length≤8∧env.names.length≤64∧env.carriers.all D9=true∧env.names.all (vX env)=true∧(names2 env).Nodup:=by
 simp only[aU,qAa,V8]at h
 grind
theorem WS{env:Env}(h:aU env=true){d:Decl}(hd:d∈env.names):named d.name=true∧dL d.ty=true∧rA 2 d.ty=false∧(fq d.ty).all (dZ env)=true:=by
 have:=qAC.1 (fu h).2.2.2.1 d hd;simp only[vX]at this
 grind
theorem Ja{env:Env}(h:aU env=true){c:Carrier}(hc:c∈env.carriers):ident c.name=true∧c.elems.length≤8∧c.elems.all ident=true:=by
 have:=qAC.1 (fu h).2.2.1 c hc;simp only[D9]at this
 grind
def xI(s:Str):Ty:=.mk 3 s []
def bP(t:Ty):Ty:=.mk 5 [] [t]
def kJ(c:Carrier):List (Str×Ty):=(c.name,bP (xI c.name))::c.elems.map fun e=>(e,xI c.name)
def xG(env:Env):List (Str×Ty):=env.carriers.flatMap kJ++env.names.map fun d=>(d.name,d.ty)
def ab8(env:Env):List (Str×Ty):=(env.names.map fun d=>(d.name,d.ty))++((env.carriers.map fun c=>(c.name,bP (xI c.name)))++env.carriers.flatMap fun c=>c.elems.map fun e=>(e,xI c.name))
def look(env:Env)(s:Str):Option Ty:=dI (ab8 env) s
theorem XM(env:Env):(xG env).Perm (ab8 env):=by
 refine List.Perm.trans ?_ qDr;refine qCy _ ?_;generalize env.carriers=cs
 induction cs with
 |nil=>simp
 |cons c cs ih=>
  simp;refine List.Perm.cons _ ?_;refine(List.Perm.append_left _ ih).trans ?_;rw[←qAo,←qAo];exact qCy _ qDr
theorem Ur(env:Env):(xG env).map (·.1)=zR env:=by
 simp only[xG,qBa,qBt,List.map_flatMap,kJ];congr 1
 ·congr 1;simp[qCx]
theorem vG{env:Env}(h:aU env=true):((xG env).map (·.1)).Nodup:=by
 rw[Ur,(FE env).nodup_iff];exact(fu h).2.2.2.2
theorem G7{env:Env}(h:aU env=true){s:Str}{t:Ty}:look env s=some t↔(s,t)∈xG env:=by
 unfold look;rw[←Xy (XM env) (vG h),yK _ _ _ (vG h)]
theorem akp{env:Env}(h:aU env=true):Ev (fun n=>zK n env) (dU (xG env) []):=by
 obtain⟨hc8,hn64,_,_,_⟩:=fu h;unfold zK;have hin:∀(c:Carrier) (m:List (Str×Ty)),c.elems.length≤8→m.length≤10000→Ev (fun n=>oq n c n (0,m)) (.nx (dU (c.elems.map fun e=>(e,xI c.name)) m)):=fun c m hce hm=>by
  have h1:=lX (ρ:=List (Str×Ty)) c.elems (fun n k i s=>oq n c k (i,s)) (fun n x s=>qZ s x (xI c.name)) (fun x s=>jd s x (xI c.name)) (fun s=>s) (fun suf s=>s.length+suf.length≤10008)
   (fun n k i s=>rfl)
   (fun x suf s hx hs=>by
    simp only[qAu]at hs;refine⟨?_,?_⟩
    ·rw[F3 (by omega)];exact Ev.ret _
    ·have:=yu s x (xI c.name);omega) (s0:=m) (by omega)
  have hf:∀(es:List Str) (m:List (Str×Ty)),es.foldl (fun s x=>jd s x (xI c.name)) m=dU (es.map fun e=>(e,xI c.name)) m:=by
   intro es
   induction es with
   |nil=>intro m;rfl
   |cons e es ih=>intro m;rw[qBg,ih];rfl
  rw[hf]at h1;exact h1
 have h1:=LC env.carriers (fun n k i s=>JD n env k (i,s)) (fun n x s=>(qZ s x.name (bP (xI x.name))).bind fun x4=>(oq n x n (0,x4)).bind (LR.el (fun s6=>some (.nx s6)) (fun r=>some (.rt r)))) (fun x s=>.nx (dU (kJ x) s)) (fun s=>s)
  (fun suf s=>s.length+9*suf.length≤100)
  (fun n k i s=>by
   show cond _ _ _=_;congr 1;show(idx env.carriers i).bind _=_;congr 1;funext x;show(qZ s x.name (bP (xI x.name))).bind _=_;cases qZ s x.name (bP (xI x.name))with
   |none=>rfl
   |some y=>
    simp only[qAb];cases oq n x n (0,y)with
    |none=>rfl
    |some r=>cases r<;>rfl)
  (fun x suf s hx hs=>by
   simp only[qAu]at hs;have hx8:=(Ja h hx).2.1;refine⟨?_,fun s' he=>?_⟩
   ·rw[F3 (by omega)];simp only[qAb];have:=yu s x.name (bP (xI x.name));exact Ev.bind (hin x _ hx8 (by omega)) (Ev.ret _)
   ·cases he;have:=FK (kJ x) s;simp only[kJ,qAu,qAj]at this⊢;omega) (s0:=([]:List (Str×Ty))) (by simp only[qAE];omega)
 rw[Qa]at h1;have hf1:∀(cs:List Carrier) (m:List (Str×Ty)),cs.foldl (fun s x=>dU (kJ x) s) m=dU (cs.flatMap kJ) m:=by
  intro cs
  induction cs with
  |nil=>intro m;rfl
  |cons c cs ih=>intro m;rw[qBg,ih,qBE,Nk]
 rw[hf1]at h1;have hl1:(dU (env.carriers.flatMap kJ) []).length≤100:=by
  have key:∀cs:List Carrier,(∀c∈cs,c.elems.length≤8)→(cs.flatMap kJ).length≤9*cs.length:=by
   intro cs
   induction cs with
   |nil=>intro _;simp
   |cons c cs ih=>
    intro hh;have a:=hh c (qBv ..);have b:=ih fun c hc=>hh c (qAk _ hc);simp only[qBE,qAg,kJ,qAu,qAj]at b⊢;omega
  have a:=key env.carriers fun c hc=>(Ja h hc).2.1;have b:=FK (env.carriers.flatMap kJ) [];simp only[qAE]at b;omega
 have h2:=lX (ρ:=List (Str×Ty)) env.names (fun n k i s=>JJ n env k (i,s)) (fun n x s=>qZ s x.name x.ty) (fun x s=>jd s x.name x.ty) (fun s=>s) (fun suf s=>s.length+suf.length≤1000)
  (fun n k i s=>rfl)
  (fun x suf s hx hs=>by
   simp only[qAu]at hs;refine⟨?_,?_⟩
   ·rw[F3 (by omega)];exact Ev.ret _
   ·have:=yu s x.name x.ty;omega) (s0:=dU (env.carriers.flatMap kJ) []) (by omega)
 have hf2:∀(ds:List Decl) (m:List (Str×Ty)),ds.foldl (fun s x=>jd s x.name x.ty) m=dU (ds.map fun d=>(d.name,d.ty)) m:=by
  intro ds
  induction ds with
  |nil=>intro m;rfl
  |cons e es ih=>intro m;rw[qBg,ih];rfl
 rw[hf2,←Nk]at h2;exact Ev.bind h1 (Ev.bind h2 (Ev.ret _))
def eO:Ty:=.mk 0 [] []
def aii(env:Env)(s:Str):Ty×Bool:=match look env s with|some t=>(t,true)|none=>(eO,false)
theorem Hq{α:Type}(a b:List (Str×α))(k:Str):dI (a++b) k=(match dI a k with|some v=>some v|none=>dI b k):=by
 induction a with
 |nil=>rfl
 |cons p a ih=>
  rw[qAH,jS,jS]
  grind
theorem JY{α β:Type}(f:α→Str)(g:α→β)(l:List α)(k:Str):dI (l.map fun x=>(f x,g x)) k=(l.find? fun x=>f x==k).map g:=by
 induction l with
 |nil=>rfl
 |cons x l ih=>
  rw[qAF,jS,qCf,ih]
  grind
theorem aio(cs:List Carrier)(k:Str):dI (cs.flatMap fun c=>c.elems.map fun e=>(e,xI c.name)) k=(cs.find? fun c=>c.elems.any (·==k)).map fun c=>xI c.name:=by
 induction cs with
 |nil=>rfl
 |cons c cs ih=>
  rw[qBE,Hq,qCf,ih];rw[JY (fun e=>e) (fun _=>xI c.name)];cases hf:c.elems.find? (fun e=>e==k)with
  |none=>
   grind
  |some e=>
   grind
def Sc(s:Str):Int→List Carrier→Int×Int
 |_,[]=>(-1, -1)
 |i,c::cs=>cond (c.elems.any (·==s)) (i,jU (·==s) 0 c.elems) (Sc s (i+1) cs)
theorem abb(s:Str):∀(cs:List Carrier) (i:Int),(Sc s i cs).1=jU (fun c=>c.elems.any (·==s)) i cs
 |[],_=>rfl
 |c::cs,i=>by
  simp only[Sc,jU];cases c.elems.any (·==s)
  ·exact abb s cs (i+1)
  ·rfl
theorem ZK(env:Env)(s:Str):Ev (fun n=>qm n env s) (Sc s 0 env.carriers):=by
 unfold qm;have hin:∀(i:Int) (c:Carrier),idx env.carriers i=some c→Ev (fun n=>lZ n env s i n 0) (cond (c.elems.any (·==s)) (.rt (i,jU (·==s) 0 c.elems)) (.nx ())):=fun i c hi=>by
  have h1:=BJ c.elems (fun n k j (_:Unit)=>lZ n env s i k j) (fun _ j x _=>some (cond (x==s) (.rt (i,j)) (.nx ()))) (fun j x _=>cond (x==s) (.rt (i,j)) (.nx ())) (fun _=>()) (fun _ _ _=>True)
   (fun n k j _=>by
    show(idx env.carriers i).bind _=_;rw[hi,qAb];congr 1;rw[qAb];congr 1;funext x;cases x==s<;>rfl)
   (fun j x suf _ hx _=>⟨Ev.ret _,fun _ _=>trivial⟩) (s0:=()) trivial
  have key:∀(l:List Str) (j:Int),gL (τ:=Unit) (fun j x _=>cond (x==s) (.rt (i,j)) (.nx ())) (fun _=>()) j l ()=cond (l.any (·==s)) (.rt (i,jU (·==s) j l)) (.nx ()):=by
   intro l
   induction l with
   |nil=>intro j;rfl
   |cons x l ih=>
    intro j;simp only[gL,qCz,jU];cases x==s with
    |true=>rfl
    |false=>exact ih (j+1)
  grind
 have h2:=BJ env.carriers (fun n k i (_:Unit)=>Eu n env s k i) (fun n i _ _=>lZ n env s i n 0) (fun i c _=>cond (c.elems.any (·==s)) (.rt (i,jU (·==s) 0 c.elems)) (.nx ())) (fun _=>()) (fun i suf _=>∃pre,env.carriers=pre++suf∧i=(pre.length:Int))
  (fun n k i _=>by
   show cond _ _ _=_;congr 1;cases hi:idx env.carriers i with
   |none=>
    have:lZ n env s i n 0=none:=by
     cases n with
     |zero=>rfl
     |succ m=>
      show(idx env.carriers i).bind _=none;rw[hi];rfl
    simp_all
   |some x=>rfl)
  (fun i x suf _ hx hs=>by
   obtain⟨pre,hp,rfl⟩:=hs;exact⟨hin _ x (by rw[hp];exact xR pre x suf),fun _ _=>⟨pre++[x],by rw[hp];simp,by simp⟩⟩) (s0:=()) ⟨[],rfl,rfl⟩
 refine Ev.bind h2 ?_;have key:∀(l:List Carrier) (i:Int),(match gL (τ:=Unit) (fun i (c:Carrier) _=>cond (c.elems.any (·==s)) (.rt (i,jU (·==s) 0 c.elems)) (.nx ())) (fun _=>()) i l ()with| .nx _=>((-1, -1):Int×Int)| .rt r=>r)=Sc s i l:=by
  intro l
  induction l with
  |nil=>intro i;rfl
  |cons c l ih=>
   intro i;simp only[gL,Sc];cases c.elems.any (·==s)with
   |true=>rfl
   |false=>exact ih (i+1)
 rw[←key env.carriers 0];generalize gL (τ:=Unit) (fun i (c:Carrier) _=>cond (c.elems.any (·==s)) (.rt (i,jU (·==s) 0 c.elems)) (.nx ())) (fun _=>()) 0 env.carriers ()=R;cases R
 ·exact Ev.ret _
 ·exact Ev.ret _
theorem Uv(env:Env)(s:Str):Ev (fun n=>o8 n env s) (jU (fun d=>d.name==s) 0 env.names):=by
 exact rP env.names (fun n k i=>LP n env s k i) (fun _ x=>some (x.name==s)) (fun c=>c.name==s) (fun n k i=>rfl) (fun x _=>Ev.ret _)
theorem L8(env:Env)(s:Str):Ev (fun n=>(o8 n env s).bind fun(x1:Int)=>(cond (decide (0≤x1)) ((idx env.names x1).bind fun(x2:Decl)=>some (x2.ty,true)) ((iM n env s).bind fun(x3:Int)=>(cond (decide (0≤x3)) (some ((Ty.mk 5 ([]:Str) ([(Ty.mk 3 s ([]))])),true)) ((qm n env s).bind fun(x4:Int×Int)=>(cond (decide (0≤x4.1)) ((idx env.carriers x4.1).bind fun(x5:Carrier)=>some ((Ty.mk 3 x5.name ([])),true)) (some ((Ty.mk 0 ([]:Str) ([])),false)))))))) (aii env s):=by
 refine Ev.bind (Uv env s) ?_;unfold aii look ab8;rw[Hq,Hq,JY (fun d:Decl=>d.name) (fun d=>d.ty),JY (fun c:Carrier=>c.name) (fun c=>bP (xI c.name)),aio];rcases zl (fun d:Decl=>d.name==s) env.names []with⟨x,h1,h2,h3,h4⟩|⟨h1,h2⟩
 ·simp only[qAE,qBx,qAz]at h3 h4;rw[h1,decide_eq_true h3,h4];exact Ev.ret _
 ·simp only[qAE,qBx]at h2;rw[h1,h2];simp only[show decide ((0:Int)≤ -1)=false from rfl,cond_false,qBV];refine Ev.bind (Bj env s) ?_;rcases zl (fun c:Carrier=>c.name==s) env.carriers []with⟨x,h1,h2,h3,h4⟩|⟨h1,h2⟩
  ·simp only[qAE,qBx,qAz]at h3 h4;rw[h1,decide_eq_true h3];have e:x.name=s:=by simpa using h2
   subst e;exact Ev.ret _
  ·simp only[qAE,qBx]at h2;rw[h1,h2];simp only[show decide ((0:Int)≤ -1)=false from rfl,cond_false,qBV];refine Ev.bind (ZK env s) ?_;rw[abb];rcases zl (fun c:Carrier=>c.elems.any (·==s)) env.carriers []with⟨x,h1,h2,h3,h4⟩|⟨h1,h2⟩
   ·simp only[qAE,qBx,qAz]at h3 h4;rw[h1,decide_eq_true h3,h4];exact Ev.ret _
   ·simp only[qAE,qBx]at h2;rw[h1,h2];exact Ev.ret _
end Abs
end Go.Proofs.YtbijdmihdagfaaaGreatDoor
