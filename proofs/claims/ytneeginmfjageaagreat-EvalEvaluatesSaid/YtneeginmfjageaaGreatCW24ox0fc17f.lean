/- Sets of subsets. Conditions: none. -/
import Derived.Test.YtneeginmfjageaaGreatCP53oxc7d04f
set_option linter.all false
namespace Go.Proofs.YtneeginmfjageaaGreat
namespace Abs
section
open Go
def aCY{l:Af}(h:(sortV l).length<=256):dh (bF l)=(gH l,0):=by rw[abJ h];rfl
def afk{l:Af}(k:l.length<=8):Ev (λn=>Eo n l) (jr l):=by
 have m:=wI l (λn=>Ef n l) (λi s=>(s,i)) (λx o=>.nx (o++o.map λr=>r++[x])) (λs=>s) (λu o=>o.length*2^u.length<=256/\∀r∈o,r.length+u.length<=8) (λn c s=>by unfold Ef;rw[at_end];rfl) (λa x u o e b=>by
  simp at b;have w:1<=2^u.length:=qCZ;have y:o.length*2<=256:=by
   have:o.length*2*1<=o.length*2*2^u.length:=qDO _ w
   grind
  refine⟨?_,λz d=>?_⟩
  ·let⟨N,h⟩:=wI (ρ:=List Af) o (λn=>Ea n l (o,(a.length:Int))) (λi s=>(s,i)) (λr s=>.nx (s++[r++[x]])) (λs=>s) (λf s=>(∃t,s=o++t)/\s.length+f.length<=600) (λn c s=>by unfold Ea;show cond (decide ((o.length:Int)<(o.length:Int))) _ _=_;rw[at_end];rfl) (λp r f s g j=>by
    obtain⟨⟨t,rfl⟩,A⟩:=j;have hr:=b.2 r (by simp[g]);simp only[qAp,qAe]at A;refine⟨⟨0,λn v c=>?_⟩,λz d=>?_⟩
    ·unfold Ea;show cond (decide ((p.length:Int)<(o.length:Int))) _ _=_;have B:idx (o++t) (p.length:Int)=some r:=by rw[g,qAm,qAM];exact gJ _ _ _
     rw[(bg g).1];simp only[c_1,B,(bg e).2,qAb];rw[dQ Cp];simp only[qAb,qAo];rw[dQ Cp];simp only[qAb];rw[aiJ (by simp only[qAe,qAp,qAA];omega)];rfl
    cases d;exact⟨⟨t++[r++[x]],by simp⟩,by simp only[qAe,qAp,qAA];omega⟩) (s0:=o) ⟨⟨[],by simp⟩,by omega⟩
   rw[agl (ρ:=List Af) (λr:Af=>[r++[x]]) (λs=>s),flatMap_one]at h;refine⟨N,λn v c=>?_⟩;have h:aaw n l (o,(a.length:Int)) n (o,0)=_:=h n v;unfold Ef;rw[(bg e).1];simp only[c_1,h,qAb,LR.el]
  cases d;constructor
  ·simp
   grind
  ·intro r hr;rcases qAr.1 hr with hr|hr
   ·grind
   obtain⟨q,C,rfl⟩:=qAJ.1 hr;have:=b.2 q C;simp;omega) (s0:=[[]]) ⟨by
  have:2^l.length<=2^8:=qCS Cl k;simpa using this,by simpa using k⟩
 rw[Jg (ρ:=List Af) (λ(o:List Af) x=>o++o.map λr=>r++[x])]at m;exact e_0 m Cu
def aAY{L:List Af}(l:L.length<=1000000)(h:∀r∈L,VS r/\r.length<=1000000):Ev (λn=>yE n L n (([]:Af),0)) (.nx (L.map gH)):=by
 have b:=ajV (ρ:=Val×Int) L (λn=>Gm n L) (λi s=>(s,i)) (λs=>s) (λr=>[gH r]) 1000000 (λn c s=>by unfold Gm;rw[at_end];rfl) (λp r u s e f=>by have d:=h r (by simp[e]);let⟨N,a⟩:=KI d.1 d.2;refine⟨N,λn g c=>?_⟩;have a:iZ n r=_:=a n g;unfold Gm;rw[(bg e).1];simp only[c_1,(bg e).2,qAb,a];rw[dQ (by simp only[qAp,qAA]at f|-;omega)];rfl) (s0:=[]) (by rw[flatMap_one];simpa using l)
 rw[flatMap_one,qAo]at b;exact b
def axd(f n:Nat)(v:n<=256):∀(k i c:Nat),i+k=n->1<=c->c<=512->∀j,k+1<=j->∃a:Nat,CX f n j ((c:Int),(i:Int))=some (.nx (a:Int))/\a<=512/\(256<a↔256<c*2^k)/\(a<=256->a=c*2^k):=by
 intro k
 induction k with|zero=>intro i c e g b j l;obtain⟨j,rfl⟩:∃q,j=q+1:=⟨j - 1,by omega⟩;refine⟨c,?_,b,by simp,by simp⟩;show A9 f n _ _=_;unfold A9;rw[d_0 Cp];rfl|succ k m=>
  intro i c e g b j l;obtain⟨j,rfl⟩:∃q,j=q+1:=⟨j - 1,by omega⟩;show ∃a:Nat,A9 f n (CX f n j) _=_/\_;unfold A9;rw[d_1 Cp];have p:1<=2^k:=qCZ;have d:c*2^(k+1)=c*2*2^k:=by rw[qEe];ac_rfl
  by_cases o:c<=256;·let⟨a,r,s,t,u⟩:=m (i+1) (c*2) Cl Cl Cl j Cl;refine⟨a,?_,s,by rw[t,d],by rw[d];exact u⟩;show Option.bind (some (decide ((c:Int)<=256))) _=_;rw[d_1 Cl,wrap64 Cl Cl,wrap64 Cp Cp];exact r
  refine⟨c,?_,b,⟨λ_=>?_,λ_=>by omega⟩,λh=>absurd h o⟩;·show Option.bind (some (decide ((c:Int)<=256))) _=_;rw[d_0 Cl];rfl
  rw[d];have:c*2*1<=c*2*2^k:=qDO _ p;omega
def ayD(f m:Nat)(c:m<=256):∀(k i:Nat),i+k=m->∀j,k+1<=j->rT f 43 m 0 j ((0:Int),(i:Int))=some (.nx 0):=by
 intro k
 induction k with|zero=>intro i h j a;obtain⟨j,rfl⟩:∃q,j=q+1:=⟨j - 1,by omega⟩;show kE f 43 m 0 _ _=_;unfold kE;rw[d_0 Cp];rfl|succ k b=>intro i h j a;obtain⟨j,rfl⟩:∃q,j=q+1:=⟨j - 1,by omega⟩;show kE f 43 m 0 (rT f 43 m 0 j) _=_;unfold kE;rw[d_1 Cp];exact b (i+1) Cl j Cl
theorem aus(f:Nat){op:Int}(ho:op=41∨op=42∨op=43∨op=44∨op=45){m n:Nat}(hn:n≤256)(hm:m≤256)(hf:257≤f)(hmn:44≤op→m≤n):∀(k i c:Nat),i+k=m→1≤c→c≤256→∀j,k+1≤j→
  ∃r,rT f op m n j ((c:Int),(i:Int))=some r∧(match r with| .rt v=>v=257∧je op n k i c=true| .nx v=>je op n k i c=false∧0≤v∧v≤256∧(v=0↔op=43∧n=0∧0<k)):=by
 intro k
 induction k with
 |zero=>
  intro i c hi h1 h2 j hj;obtain⟨j,rfl⟩:∃q,j=q+1:=⟨j - 1,by omega⟩;refine⟨.nx c,?_,rfl,by omega,by omega,⟨by omega,by omega⟩⟩;show kE f op m n _ _=_;unfold kE;rw[decide_eq_false Cp];rfl
 |succ k ih=>
  intro i c hi h1 h2 j hj;obtain⟨j,rfl⟩:∃q,j=q+1:=⟨j - 1,by omega⟩;by_cases hz:op=43∧n=0
  ·obtain⟨rfl,rfl⟩:=hz;refine⟨.nx 0,?_,?_,by omega,by omega,⟨fun _=>⟨rfl,rfl,by omega⟩,fun _=>rfl⟩⟩
   ·show kE f 43 m 0 (rT f 43 m 0 j) _=_;unfold kE;rw[decide_eq_true Cp];have hw:IntKind.wrap .i64 ((c:Int)*0)=0:=by rw[Int.mul_zero];rfl
    show Option.bind (some (IntKind.wrap .i64 ((c:Int)*0))) (fun s4:Int=>cond (decide (256<s4)) (some (.rt 257)) (rT f 43 m 0 j (s4,(i:Int)+1)))=_;rw[hw];exact ayD f m hm k (i+1) Cl j Cl
   unfold je;rfl
  -- the count behind this element
  obtain⟨c',q1,q2,q3⟩:∃c':Nat,((cond (op==41) ((CX f n f ((c:Int),0)).bind (LR.el (fun(s6:Int)=>some s6) (fun r=>none))) (cond (op==42) (some (IntKind.wrap .i64 ((c:Int)*(IntKind.wrap .i64 ((n:Int)+1))))) (cond (op==43) (some (IntKind.wrap .i64 ((c:Int)*n))) (some (IntKind.wrap .i64 ((c:Int)*(IntKind.wrap .i64 ((n:Int) - i)))))))):B0)=some (c':Int)∧1≤c'∧(je op n (k+1) i c=cond (decide (256<c')) true (je op n k ((i+1:Nat):Int) c')):=by
   rcases ho with rfl|rfl|rfl|rfl|rfl
   ·let⟨c',q1,q2,q3,q4⟩:=axd f n hn n 0 c Cl h1 Cl f Cl;have hp1:1≤2^n:=qCZ;have hcp:1≤c*2^n:=qDS h1 hp1;refine⟨c',?_,?_,?_⟩
    ·show(CX f n f ((c:Int),0)).bind _=_;rw[show((c:Int),(0:Int))=((c:Int),((0:Nat):Int))from rfl,q1];rfl
    ·by_cases h:c'≤256
     ·rw[q4 h];exact hcp
     omega
    have e:yQ 41 n i=((2^n:Nat):Int):=by
     show(2:Int)^(n:Int).toNat=_;rw[qBM];norm_cast
    rw[je,e];have e0:(((2^n:Nat):Int)==0)=false:=beq_eq_false_iff_ne.2 fun h=>by have:=Int.natCast_eq_zero.1 h;omega
    have ec:((c:Int)*((2^n:Nat):Int))=((c*2^n:Nat):Int):=by norm_cast
    rw[e0,ec,cond_false];by_cases h8:8<(n:Int)
    ·rw[decide_eq_true h8];have:2^9≤2^n:=qCS Cl Cl;have:1*2^n≤c*2^n:=qAQ _ h1;rw[decide_eq_true (q3.2 Cl)];rfl
    rw[decide_eq_false h8];show cond (decide (256<((c*2^n:Nat):Int))) true _=_;by_cases hb:256<c*2^n
    ·rw[decide_eq_true Cl,decide_eq_true (q3.2 hb)];rfl
    have hc':¬256<c':=fun h=>hb (q3.1 h);rw[decide_eq_false Cl,decide_eq_false hc',q4 Cl];rfl
   ·refine⟨c*(n+1),?_,qDS h1 Cl,?_⟩
    ·have hcm:c*(n+1)≤256*257:=qCV h2 Cl;have e:((c:Int)*((n:Int)+1))=((c*(n+1):Nat):Int):=by norm_cast
     show some (IntKind.wrap .i64 ((c:Int)*(IntKind.wrap .i64 ((n:Int)+1))))=_;have w1:IntKind.wrap .i64 ((n:Int)+1)=(n:Int)+1:=wrap64 Cl Cl;rw[w1,e,wrap64 Cl Cl]
    rw[je];have e:((c:Int)*((n:Int)+1))=((c*(n+1):Nat):Int):=by norm_cast
    show cond ((n:Int)+1==0) false (cond (decide (256<(c:Int)*((n:Int)+1))) true (je 42 n k ((i:Int)+1) ((c:Int)*((n:Int)+1))))=_;rw[e,show((n:Int)+1==0)=false by simpa using(by omega:(n:Int)+1≠0)];by_cases hb:256<c*(n+1)
    ·rw[decide_eq_true Cl,decide_eq_true hb];rfl
    rw[decide_eq_false Cl,decide_eq_false hb];rfl
   ·have hn0:n≠0:=fun h=>hz ⟨rfl,h⟩;refine⟨c*n,?_,qDS h1 Cl,?_⟩
    ·have hcm:c*n≤256*257:=qCV h2 Cl;have e:((c:Int)*(n:Int))=((c*n:Nat):Int):=by norm_cast
     show some (IntKind.wrap .i64 ((c:Int)*(n:Int)))=_;rw[e,wrap64 Cl Cl]
    rw[je];have e:((c:Int)*(n:Int))=((c*n:Nat):Int):=by norm_cast
    show cond ((n:Int)==0) false (cond (decide (256<(c:Int)*(n:Int))) true (je 43 n k ((i:Int)+1) ((c:Int)*(n:Int))))=_;rw[e,show((n:Int)==0)=false by simpa using hn0];by_cases hb:256<c*n
    ·rw[decide_eq_true Cl,decide_eq_true hb];rfl
    rw[decide_eq_false Cl,decide_eq_false hb];rfl
   all_goals
    have hle:=hmn Cl;have hcm:c*(n - i)≤256*257:=qCV h2 Cl;have es:(n:Int) - i=((n - i:Nat):Int):=by omega
    have e:((c:Int)*((n - i:Nat):Int))=((c*(n - i):Nat):Int):=by norm_cast
    refine⟨c*(n - i),?_,qDS h1 Cl,?_⟩
    ·show some (IntKind.wrap .i64 ((c:Int)*(IntKind.wrap .i64 ((n:Int) - i))))=_;have w1:IntKind.wrap .i64 ((n - i:Nat):Int)=((n - i:Nat):Int):=wrap64 Cl Cl;rw[es,w1,e,wrap64 Cl Cl]
    rw[je];show cond ((n:Int) - i==0) false (cond (decide (256<(c:Int)*((n:Int) - i))) true (je _ n k ((i:Int)+1) ((c:Int)*((n:Int) - i))))=_;rw[es,e,show(((n - i:Nat):Int)==0)=false by simpa using(by omega:(n - i:Nat)≠0)];by_cases hb:256<c*(n - i)
    ·rw[decide_eq_true Cl,decide_eq_true hb];rfl
    rw[decide_eq_false Cl,decide_eq_false hb];rfl
  show ∃r,kE f op m n (rT f op m n j) _=some r∧_;unfold kE;rw[decide_eq_true Cp];simp only[cond_true];rw[q1,q3];simp only[qAb];by_cases hb:256<c'
  ·rw[decide_eq_true hb,decide_eq_true Cl];exact⟨.rt 257,rfl,rfl,rfl⟩
  rw[decide_eq_false hb,decide_eq_false Cl];simp only[cond_false];let⟨r,u1,u2⟩:=ih (i+1) c' Cl q2 Cl j Cl;refine⟨r,u1,?_⟩;cases r with
  |rt v=>exact u2
  |nx v=>exact⟨u2.1,u2.2.1,u2.2.2.1,⟨fun h=>by have:=u2.2.2.2.1 h;exact⟨this.1,this.2.1,by omega⟩,fun h=>absurd ⟨h.1,h.2.1⟩ hz⟩⟩
def aBG{op:Int}(m n:Nat):(cond (op==45) (cond ((m:Int)!=n) (some true) (cond (op==44) (some (decide ((n:Int)<m))) (some false))) (cond (op==44) (some (decide ((n:Int)<m))) (some false)):Ax)=some ((op==45&&(m:Int)!=n) ||(op==44&&decide ((n:Int)<m))):=by cases op==45<;>cases op==44<;>cases(m:Int)!=n<;>rfl
def aBJ{op:Int}(o:op=41∨op=42∨op=43∨op=44∨op=45)(m n:Nat):((op==45&&(m:Int)!=n) ||(op==44&&decide ((n:Int)<m)))=kX op m n:=by
 unfold kX;rcases o with rfl|rfl|rfl|rfl|rfl
 ·rfl
 ·rfl
 ·rfl
 ·show decide ((n:Int)<m)=(decide (44<=(44:Int))&&decide ((n:Int)<m));simp
 show((m:Int)!=n ||false)=cond ((m:Int)!=n) true (decide (44<=(45:Int))&&decide ((n:Int)<m))
 cases h:((m:Int)!=n)with|true=>rfl|false=>
  have:(m:Int)=n:=by simpa using h
  rw[d_0 (show ¬(n:Int)<m by omega)];rfl
def U1{op:Int}(o:op=41∨op=42∨op=43∨op=44∨op=45){m n:Nat}(j:n<=256)(k:m<=256)(f:Nat)(l:257<=f):∃v,IK f op m n=some v/\((v=0/\(kX op m n=true∨kX op m n=false/\op=43/\n=0/\0<m))∨(v=257/\kX op m n=false/\je op n m 0 1=true)∨(1<=v/\v<=256/\kX op m n=false/\je op n m 0 1=false/\¬(op=43/\n=0/\0<m))):=by
 unfold IK;rw[aBG,aBJ o];cases a:kX op m n with|true=>exact⟨0,rfl,.inl ⟨rfl,.inl rfl⟩⟩|false=>
  have b:44<=op->m<=n:=λh=>by unfold kX at a;cases q:(op==45&&(m:Int)!=n)with|true=>rw[q]at a;cases a|false=>rw[q,d_1 h]at a;have:=of_decide_eq_false (show decide ((n:Int)<m)=false by simpa using a);omega
  let⟨r,c,g⟩:=aus f o j k l b m 0 1 Cl Cl Cl f Cl;simp only[qAb,c_0];have c:rT f op m n f (1,0)=some r:=c;rw[c];cases r with|rt v=>obtain⟨rfl,d⟩:=g;exact⟨257,rfl,.inr (.inl ⟨rfl,trivial,d⟩)⟩|nx v=>
   let⟨d,w,p,i⟩:=g;refine⟨v,rfl,?_⟩;by_cases e:v=0;·let⟨s,t,u⟩:=i.1 e;exact .inl ⟨e,.inr ⟨trivial,s,t,u⟩⟩
   exact .inr (.inr ⟨by omega,p,trivial,d,λh=>e (i.2 h)⟩)
def aBO{op:Int}(T:op=42∨op=43∨op=44∨op=45){a b:Af}(U:a.length<=256)(hb:b.length<=256)(V:VS a)(K:VS b)(W:lq op b.length^a.length<=2199023255552):Ev (λn=>XE n op a b) (yw op b a [[]]):=by
 have m:∀x r,(rD op b x r).length<=lq op b.length:=λx r=>by
  unfold rD;rw[qAe,aof];have l:=qCJ (λv=>decide (op<44) ||fU (bC (r++[aG x v])) (r++[aG x v])) b
  rcases T with rfl|rfl|rfl|rfl
  ·show[r].length+_<=b.length+1;simp only[qAp,qAA];omega
  all_goals
   show([]:List Af).length+_<=b.length;simp only[qAA];omega
 have L:=wI (ρ:=List Af) a (λn=>Mq n a op b) (λi s=>(s,i)) (λx o=>.nx (o.flatMap (rD op b x))) (λs=>s)
  (λu o=>o.length*lq op b.length^u.length<=2199023255552/\o.length<=2199023255552/\(∀x∈u,gU x)/\∀r∈o,fI r/\VS r/\r.length+u.length<=256)
  (λn d s=>by unfold Mq;rw[at_end];rfl)
  (λg x u o e X=>by
   let⟨Y,g2,M,O⟩:=X;have P:=M x cn;have t:(o.flatMap (rD op b x)).length<=o.length*lq op b.length:=iF _ _ o λr _=>m x r;rw[qAp,qEe]at Y;have l:(o.flatMap (rD op b x)).length<=2199023255552:=by
    by_cases Z:lq op b.length=0
    ·rw[Z]at t;omega
    have hp:1<=lq op b.length^u.length:=Nat.one_le_pow _ _ Cl;have:o.length*lq op b.length*1<=o.length*lq op b.length*lq op b.length^u.length:=qDO _ hp;have k:o.length*(lq op b.length^u.length*lq op b.length)=o.length*lq op b.length*lq op b.length^u.length:=by ac_rfl
    omega
   refine⟨?_,λs' es=>?_⟩
   ·let⟨N,h⟩:=ajV (ρ:=List Af) o (λn=>MF n op (o,(g.length:Int)) a b) (λi s=>(s,i)) (λs=>s) (rD op b x) 2199023255552 (λn d s=>by unfold MF;rw[at_end];rfl) (λf r Q s k w=>by
     let⟨B,C,D⟩:=O r (by simp[k])
     -- the first part: the row as it is
     have F:(op==42)=true->s.length+1<=2199023255552:=λc=>by
      unfold rD at w;rw[c]at w;simp only[c_1,qAe,qAp,qAA]at w;omega
     have hA:(cond (op==42) ((idx o (f.length:Int)).bind λ(x8:Af)=>(app 24 s ([x8])).bind λ(x9:List Af)=>some x9) (some s):Option (List Af))=some (s++cond (op==42) [r] []):=by
      rw[(bg k).2];cases c:(op==42)with
      |false=>simp
      |true=>
       have:=F c;have G:app 24 s [r]=some (s++[r]):=aiJ Cp;simp only[c_1,qAb,G]
     have hB:=ajV (ρ:=List Af) b (λn=>MK n op a b (o,(g.length:Int)) (s,(f.length:Int))) (λi s=>(s,i)) (λs=>s) (λv=>cond (decide (op<44) ||fU (bC (r++[aG x v])) (r++[aG x v])) [r++[aG x v]] []) 2199023255552 (λn d s=>by unfold MK;rw[at_end];rfl) (λR v S s3 H z=>by
      have I:=K v (by simp[H]);have q1:fI (r++[aG x v]):=λp hp=>by
       rcases qAr.1 hp with hp|hp
       ·exact B p hp
       rw[qAK.1 hp];exact⟨x,v,rfl⟩
      have q2:VS (r++[aG x v]):=VS.app C λp hp=>by rw[qAK.1 hp];exact VS.pr P I
      have hl:(r++[aG x v]).length<=1000000:=by simp only[qAe,qAp,qAA]at D|-;omega
      let⟨N,j⟩:=Zf (.inr rfl) (Val.mk 0 0 [] (r++[aG x v])) q1 q2 hl;refine⟨N,λn A d=>?_⟩;have j:nW n (Val.mk 0 0 [] (r++[aG x v])) 1=some (fU (bC (r++[aG x v])) (r++[aG x v])):=j n A;unfold MK;rw[(bg H).1];simp only[c_1,(bg e).2,(bg k).2,(bg H).2,qAb];simp only[qAp]at D;rw[show app 56 ([]:Af) r=some ([]++r)from dQ Cp];simp only[qAb,qAo];rw[show app 56 r [Val.mk 4 0 [] [x,v]]=some (r++[aG x v])from dQ Cp];simp only[qAb];have hC:(cond (decide (op<44)) (some true) ((nW n (Val.mk 0 0 [] (r++[aG x v])) 1).bind λ(x7:Bool)=>some x7):Ax)=some (decide (op<44) ||fU (bC (r++[aG x v])) (r++[aG x v])):=by
       rw[j];cases decide (op<44)<;>rfl
      rw[hC];simp only[qAb];cases E:(decide (op<44) ||fU (bC (r++[aG x v])) (r++[aG x v]))with
      |false=>simp
      |true=>
       rw[E]at z;simp only[c_1,qAp,qAA]at z|-;rw[aiJ Cp];rfl) (s0:=s++cond (op==42) [r] []) (by
        unfold rD at w;simp only[qAe]at w|-;omega)
     let⟨N,j⟩:=hB;refine⟨N,λn A d=>?_⟩;have j:akN n op a b (o,(g.length:Int)) (s,(f.length:Int)) n (s++cond (op==42) [r] [],0)=_:=j n A;unfold MF;rw[(bg k).1];simp only[c_1];rw[hA];simp only[qAb,j,LR.el];unfold rD;rw[qAm]) (s0:=[]) (by simpa using l)
    rw[qAo]at h;refine⟨N,λn A d=>?_⟩;have h:ajN n op (o,(g.length:Int)) a b n (([]:List Af),0)=_:=h n A;unfold Mq;rw[(bg e).1];simp only[c_1,h,qAb,LR.el]
   cases es;refine⟨?_,l,λy hy=>M y (by simp[hy]),λq hq=>?_⟩
   ·have k:o.length*(lq op b.length^u.length*lq op b.length)=o.length*lq op b.length*lq op b.length^u.length:=by ac_rfl
    have:=qAQ (lq op b.length^u.length) t;omega
   let⟨r,J,hq⟩:=qBx.1 hq;let⟨B,C,D⟩:=O r J;simp only[qAp]at D;rcases qAr.1 hq with hq|hq
   ·have:q=r:=by
     cases c:(op==42)with
     |false=>rw[c]at hq;cases hq
     |true=>rw[c]at hq;exact qAK.1 hq
    subst this;exact⟨B,C,by omega⟩
   let⟨v,I,hq⟩:=qBx.1 hq;have:q=r++[aG x v]:=by
    cases E:(decide (op<44) ||fU (bC (r++[aG x v])) (r++[aG x v]))with
    |false=>rw[E]at hq;cases hq
    |true=>rw[E]at hq;exact qAK.1 hq
   subst this;refine⟨λp hp=>?_,VS.app C λp hp=>by rw[qAK.1 hp];exact VS.pr P (K v I),by simp only[qAe,qAp,qAA];omega⟩;rcases qAr.1 hp with hp|hp
   ·exact B p hp
   rw[qAK.1 hp];exact⟨x,v,rfl⟩)
  (s0:=[[]]) ⟨by simpa using W,by simp,V,λr J=>by
   rw[qAK.1 J];exact⟨λp hp=>(by cases hp),λp hp=>(by cases hp),by simpa using U⟩⟩
 rw[Jg (ρ:=List Af) (λ(o:List Af) x=>o.flatMap (rD op b x))]at L;exact e_0 L Cu
def alA{L:List Af}(l:L.length<=1000000)(h:∀r∈L,VS r/\r.length<=1000000):Ev (λn=>(yE n L n (([]:Af),0)).bind (LR.el (λ(s:Af)=>(iZ n s).bind λ(b:Val)=>some (b,(0:Int))) (λr=>some r))) (gH (L.map gH),0):=by refine e_0 (a:=(LR.nx (L.map gH):LR Af (Val×Int))) (aAY l h) (UR (λx c=>?_) (by simpa using l));obtain⟨r,d,rfl⟩:=qAJ.1 c;have:=h r d;exact VS.set this.1.sort (qAs (eP r) this.2)
def av8{l:Af}(s:VS l)(h:l.length<=8):(jr l).length<=256/\∀r∈jr l,VS r/\r.length<=1000000:=by
 constructor
 ·have:(jr l).length=2^l.length:=by unfold jr;rw[Zb];simp
  rw[this];exact(alP h).2
 intro r a;have b:=Hz a
 grind
def aEM{a:Val}(c:dO a.kids)(s:VS a.kids)(l:Af):Ev (λn=>(pK n 46 (a::l)).bind λ(x:Val×Int)=>some (x.1,x.2)) (dh (bB 46 [a])):=by
 refine e_0 (a:=dh (bB 46 [a])) ?_ Cu;have e:bB 46 [a]=(cond (decide (8<(a.kids.length:Int))) (.er 11) (.ok ((jr a.kids).map mkSet)):xU).thn bF:=rfl;rw[e];show Ev (λn=>Option.bind (Option.bind (Option.bind (some (decide (8<(a.kids.length:Int)))) _) _) _) _;cases h:decide (8<(a.kids.length:Int))with|true=>exact Cu|false=>
  have h:=of_decide_eq_false h;have b:a.kids.length<=8:=by omega
  let⟨d,f⟩:=av8 s b;have m:(jr a.kids).map mkSet=(jr a.kids).map gH:=qBu λr g=>by show mkSet r=mkSet (sortV r);rw[jY (c.1.sublist (Hz g))]
  show Ev _ (dh (bF ((jr a.kids).map mkSet)));rw[m,zA (by simpa using d)];refine e_0 (a:=(LR.nx (jr a.kids):LR (List Af) (Val×Int))) (e_0 (a:=false) Cu (e_0 (afk b) Cu)) (alA Cl f)
def alI{op:Int}{a b:Af}(h:kX op a.length b.length=false)(m:je op b.length a.length 0 1=false):l8 op a b=.ok (iM op a b a []):=by
 unfold l8
 grind
def aFA{op:Int}{a b:Af}(f:a.Pairwise iA)(l:a.length<=256)(s:VS a)(g:VS b):∀r∈yw op b a [[]],VS r/\r.length<=1000000:=by
 have n:a.Nodup:=f.imp λ{x y} h e=>by subst e;exact oG _ h
 intro r d;have i:=agw (op:=op) (b:=b) a [] [[]] (by simpa using n) (λr d=>by rw[qAK.1 d];exact⟨(λp c=>by cases c),List.Pairwise.nil,λ_=>rfl,λ_=>List.Pairwise.nil⟩) r d
 constructor;·intro p c;have:=i.pr p c;rw[this.1];exact VS.pr (s _ this.2.1) (g _ this.2.2)
 have k:(r.map aJ).Sublist a∨(r.map aJ).length<=a.length:=.inr (i.nd.length_le_of_subset λx j=>by obtain⟨p,c,rfl⟩:=qAJ.1 j;exact(i.pr p c).2.1)
 grind
def aEw{op:Int}(w:op=41∨op=42∨op=43∨op=44∨op=45){a b:Val}(f:dO a.kids)(j:dO b.kids)(U:VS a.kids)(V:VS b.kids):Ev (λn=>(pK n op [a,b]).bind λ(J:Val×Int)=>some (J.1,J.2)) (dh (bB op [a,b])):=by
 refine e_0 (a:=dh (bB op [a,b])) ?_ Cu;have e:bB op [a,b]=(l8 op a.kids b.kids).thn bF:=by rcases w with rfl|rfl|rfl|rfl|rfl<;>rfl
 rw[e];have hp0:dO b.kids:=j;have W:(op==46)=false:=by rcases w with rfl|rfl|rfl|rfl|rfl<;>rfl
 -- when there are some
 have X:kX op a.kids.length b.kids.length=false->je op b.kids.length a.kids.length 0 1=false->Ev (λn=>((cond (op==41) ((idx [a,b] 1).bind λ(A:Val)=>(Am n a.kids A.kids).bind λ(B:Af)=>(Eo n B).bind λ(C:List Af)=>some (.nx C)) ((idx [a,b] 1).bind λ(D:Val)=>(XE n op a.kids D.kids).bind λ(E:List Af)=>some (.nx E))):Option (LR (List Af) (Val×Int))).bind (LR.el (λ(K:List Af)=>(yE n K n (([]:Af),0)).bind (LR.el (λ(L:Af)=>(iZ n L).bind λ(M:Val)=>some (M,(0:Int))) (λr=>some r))) (λr=>some r))) (dh ((l8 op a.kids b.kids).thn bF)):=λc m=>by
  rw[alI c m];show Ev _ (dh (bF (iM op a.kids b.kids a.kids [])));by_cases O:op=41
  ·subst O;have hpw:b.kids.length*a.kids.length<=8:=by
    have g:=YN (op:=41) (.inl rfl) (n:=b.kids.length) a.kids.length 0 1 (by show 2^b.kids.length≠0;have:=qCZ (n:=b.kids.length);omega) Cl m;have o:(2^b.kids.length)^a.kids.length<=256:=by
     have e0:lq 41 b.kids.length=2^b.kids.length:=rfl;rw[e0]at g;omega
    rw[<-Nat.pow_mul]at o;apply qAn;intro h;have:2^9<=2^(b.kids.length*a.kids.length):=qCS Cl Cl;omega
   have hP:(a.kids.flatMap λx=>b.kids.map (aG x)).length<=8:=by
    have:=iF (λx=>b.kids.map (aG x)) b.kids.length a.kids λx _=>by simp
    rw[qBK]at this;omega
   have vP:VS (a.kids.flatMap λx=>b.kids.map (aG x)):=VS.flat λx Y y hy=>by
    obtain⟨z,R,rfl⟩:=qAJ.1 hy;exact VS.pr (U x Y) (V z R)
   let⟨i,g⟩:=av8 vP hP;have hs:=azj f j (alI c m) λG=>by
    have i:1<=a.kids.length:=by
     match Z:a.kids,G with
     |[],G=>exact absurd rfl G
     |_::_,_=>simp
    have:=qDO b.kids.length i;omega
   have l:(sortV (iM 41 a.kids b.kids a.kids [])).length<=256:=by
    rw[hs];exact qAs (eP _) (by simpa using i)
   rw[aCY l];have ev:gH (iM 41 a.kids b.kids a.kids [])=gH ((jr (a.kids.flatMap λx=>b.kids.map (aG x))).map gH):=by unfold gH;rw[hs];rfl
   rw[ev];refine e_0 (a:=(LR.nx (jr (a.kids.flatMap λx=>b.kids.map (aG x))):LR (List Af) (Val×Int))) ?_ (alA Cl g);exact e_0 (afj a.kids b.kids f.2 j.2) (e_0 (afk hP) Cu)
  have H:op=42∨op=43∨op=44∨op=45:=by omega
  have q:a.kids.Nodup:=f.1.imp λ{x y} h e=>by subst e;exact oG _ h
  have l:=arJ H j.1 a.kids [] [[]] 1 (by simpa using q) (λr hr=>by
   rw[qAK.1 hr];exact⟨(λp hp=>by cases hp),List.Pairwise.nil,λ_=>rfl,λ_=>List.Pairwise.nil⟩) cn Cl (by simpa using m)
  rw[aC0 H f.1 c,zA (by simpa using l)];have P:(op==41)=false:=by simpa using O
  rw[P];refine e_0 (a:=(LR.nx (yw op b.kids a.kids [[]]):LR (List Af) (Val×Int))) ?_ (alA Cl (aFA f.1 f.2 U V));exact e_0 (aBO H f.2 j.2 U V (agm w f.2 j.2 c m)) Cu
 have t:Ev (λn=>((iZ n ([]:Af)).bind λ(I:Val)=>some (LR.rt (σ:=List Af) (I,(0:Int)))).bind (LR.el (λ(K:List Af)=>(yE n K n (([]:Af),0)).bind (LR.el (λ(L:Af)=>(iZ n L).bind λ(M:Val)=>some (M,(0:Int))) (λr=>some r))) (λr=>some r))) (gH [],0):=e_0 (e_0 (KI (λx Y=>by cases Y) cn) Cu) Cu;have s:dh (bF [])=(gH [],0):=zA cn
 -- by what the count is
 have d:∀(F:Nat->Option (Val×Int)),(∀n,257<=n->∀v,IK n op a.kids.length b.kids.length=some v->pK n op [a,b]=(cond (decide (256<v)) (some (.rt ((Val.mk 0 0 ([]:Str) ([])),(11:Int)))) (cond (v==0) ((iZ n ([]:Af)).bind λ(I:Val)=>some (.rt (I,0))) (cond (op==41) ((idx [a,b] 1).bind λ(A:Val)=>(Am n a.kids A.kids).bind λ(B:Af)=>(Eo n B).bind λ(C:List Af)=>some (.nx C)) ((idx [a,b] 1).bind λ(D:Val)=>(XE n op a.kids D.kids).bind λ(E:List Af)=>some (.nx E)))):Option (LR (List Af) (Val×Int))).bind (LR.el (λ(K:List Af)=>(yE n K n (([]:Af),0)).bind (LR.el (λ(L:Af)=>(iZ n L).bind λ(M:Val)=>some (M,(0:Int))) (λr=>some r))) (λr=>some r))):=λF n q v u=>by
  have hi0:idx [a,b] 0=some a:=rfl;have hi1:idx [a,b] 1=some b:=rfl;unfold pK;rw[W,hi0,hi1];simp only[qAb,c_0,u]
 have d:=d λ_=>none;cases c:kX op a.kids.length b.kids.length with
 |true=>
  have er:l8 op a.kids b.kids=.ok []:=by unfold l8;rw[c];rfl
  rw[er];show Ev _ (dh (bF []));rw[s];let⟨N,Q⟩:=t;refine⟨N+257,λn q=>?_⟩;let⟨v,i,g⟩:=U1 w j.2 f.2 n Cl;have u:v=0:=by
   rcases g with h|h|h
   ·exact h.1
   ·rw[c]at h;cases h.2.1
   rw[c]at h;cases h.2.2.1
  show pK n op [a,b]=_;rw[d n Cl v i,u];exact Q n Cl
 |false=>
  cases m:je op b.kids.length a.kids.length 0 1 with
  |true=>
   have er:l8 op a.kids b.kids=.er 11:=by unfold l8;rw[c,m];rfl
   rw[er];refine⟨257,λn q=>?_⟩;let⟨v,i,g⟩:=U1 w j.2 f.2 n q;have u:v=257:=by
    rcases g with h|h|h
    ·rcases h.2 with o|⟨_,rfl,S,T⟩
     ·rw[c]at o;cases o
     exfalso;rw[S]at m
     match Z:a.kids.length,T with
     |k+1,_=>
      rw[Z]at m;unfold je at m;cases m
    ·exact h.1
    rw[m]at h;cases h.2.2.2.1
   show pK n op [a,b]=_;rw[d n q v i,u];rfl
  |false=>
   by_cases R:op=43/\b.kids.length=0/\0<a.kids.length
   ·obtain⟨rfl,S,T⟩:=R;have hbn:b.kids=[]:=qDQ S;have er:l8 43 a.kids b.kids=.ok []:=by
     rw[alI c m,hbn]
     match Z:a.kids,T with
     |x::xs,_=>
      unfold iM;rfl
    rw[er];show Ev _ (dh (bF []));rw[s];let⟨N,Q⟩:=t;refine⟨N+257,λn q=>?_⟩;let⟨v,i,g⟩:=U1 w j.2 f.2 n Cl;have u:v=0:=by
     rcases g with h|h|h
     ·exact h.1
     ·rw[m]at h;cases h.2.2
     exact absurd ⟨rfl,S,T⟩ h.2.2.2.2
    show pK n 43 [a,b]=_;rw[d n Cl v i,u];exact Q n Cl
   let⟨N,Q⟩:=X c m;refine⟨N+257,λn q=>?_⟩;let⟨v,i,g⟩:=U1 w j.2 f.2 n Cl;have u:1<=v/\v<=256:=by
    rcases g with h|h|h
    ·rcases h.2 with o|⟨_,o⟩
     ·rw[c]at o;cases o
     exact absurd o R
    ·rw[m]at h;cases h.2.2
    exact⟨h.1,h.2.1⟩
   show pK n op [a,b]=_;rw[d n Cl v i,d_0 Cl,show(v==0)=false by simpa using(by omega:v≠0)];exact Q n Cl
def Vt{α:Type}(p:α->Bool):∀(q:List α) (c:α) (r:List α) (i:Int),(∀d∈q,p d=false)->p c=true->dR p i (q++c::r)=i+q.length|[],c,r,i,_,a=>by simp[dR,a]|d::q,c,r,i,h,a=>by rw[qAM,dR,h d cn,c_0,Vt p q c r (i+1) (λe b=>h e (by simp[b])) a];simp only[qAp];omega
def af7(s:Str):∀(q:A7) (c:Carrier) (r:A7) (i:Int),(∀d∈q,s∉d.elems)->s∈c.elems->Qd s i (q++c::r)=(i+q.length,dR (·==s) 0 c.elems)
 |[],c,r,i,_,a=>by
  have:c.elems.any (·==s)=true:=qCB.2 ⟨s,a,by simp⟩;simp[Qd,this]
 |d::q,c,r,i,h,a=>by
  have:d.elems.any (·==s)=false:=by
   rw[qDP];intro e b f;have:e=s:=by simpa using f
   exact h d cn (this▸b)
  rw[qAM,Qd,this,c_0,af7 s q c r (i+1) (λe b=>h e (by simp[b])) a];simp only[qAp,Prod.mk.injEq,and_true];omega
def afc{α:Type}(p:α->Bool):∀l:List α,l.any p=true->∃q c r,l=q++c::r/\(∀d∈q,p d=false)/\p c=true
 |[],h=>by cases h
 |x::l,h=>by
  cases a:p x with
  |true=>exact⟨[],x,l,rfl,λd hd=>(by cases hd),a⟩
  |false=>
   rw[qCA,a,qDd]at h;let⟨q,c,r,e,b,f⟩:=afc p l h;refine⟨x::q,c,r,by rw[e];rfl,λd hd=>?_,f⟩;rcases qAh.1 hd with rfl|hd
   ·exact a
   exact b d hd
def aiv(s:Str):∀(cs:A7) (a:A2) (v:Val),yM cs a s=some v->∃q c r p z g,cs=q++c::r/\a=p++z::g/\q.length=p.length/\(∀d∈q,(d.name==s)=false/\s∉d.elems)/\(((c.name==s)=true/\v=mkSet (elems c.name z.toNat))∨((c.name==s)=false/\s∈c.elems/\v=.mk 3 (dR (λe=>s==e) 0 c.elems) c.name []))
 |[],a,v,h=>by cases a<;>cases h
 |c::cs,[],v,h=>by cases h
 |c::cs,z::a,v,h=>by
  unfold yM at h;cases b:(c.name==s)with
  |true=>
   rw[b]at h;cases h;exact⟨[],c,cs,[],z,a,rfl,rfl,rfl,λd hd=>(by cases hd),.inl ⟨b,rfl⟩⟩
  |false=>
   rw[b,c_0,mO _ _ _ (qBD _)]at h;cases f:c.elems.any (λe=>s==e)with
   |true=>
    rw[f]at h;cases h;let⟨e,i,j⟩:=qCB.1 f;have:s=e:=by simpa using j
    exact⟨[],c,cs,[],z,a,rfl,rfl,rfl,λd hd=>(by cases hd),.inr ⟨b,this▸i,rfl⟩⟩
   |false=>
    rw[f,c_0]at h;let⟨q,k,r,p,l,g,m,n,o,t,u⟩:=aiv s cs a v h;refine⟨c::q,k,r,z::p,l,g,by rw[m];rfl,by rw[n];rfl,by simp[o],λd hd=>?_,u⟩;rcases qAh.1 hd with rfl|hd
    ·refine⟨b,λw=>?_⟩;have:=qDP.1 f s w;simp at this
    exact t d hd
def aAk(nm:Str):∀(k:Nat),(elems nm k).Pairwise iA/\(elems nm k).length=k:=λk=>by
 constructor
 ·unfold elems;rw[qDR];refine qDv.imp λ{a b} h=>?_;show bQ _ _<0;rw[zw];simp only[zy];unfold kP
  grind
 unfold elems;simp
def aAR(w:S_api_World)(nm:Str){i z:Int}(hi:idx w.sizes i=some z)(h0:0<=z)(d:z<=8):Ev (λn=>aks n w nm i n (([]:Af),0)) (.nx (elems nm z.toNat)):=by
 have a:(((List.range z.toNat).length:Nat):Int)=z:=by rw[qDV];omega
 have h:=mG (ρ:=Val) (List.range z.toNat) (λn=>ML n w nm i) (λi s=>(s,i)) (λi=>[Val.mk 3 (i:Int) nm []]) 1000 Cl (λn r s=>by
  unfold ML;rw[hi];simp only[qAb];rw[a,d_0 (qEd _)];rfl) (λp x u s e b=>⟨0,λn f r=>by
  have c:x=p.length:=by
   have g:=congrArg (λl=>l[p.length]?) e
   grind
  have j:p.length<z.toNat:=by grind
  unfold ML;rw[hi];simp;rw[d_1 Cl];rw[dQ (by simpa using b),c];rfl⟩) (s0:=[]) (by rw[flatMap_one];simp;omega)
 rw[flatMap_one,qAo]at h;exact h
def aB0{w:S_api_World}(G:gW w=true){O:A4}{a:At}(hs:Scp w.env w.sizes O a){s:Str}{t:Ty}(H:nJ w.env O s=some t)(X:a.length<=1000):Ev (λn=>ad4 n w a.reverse s) (Ml (aI w) a s):=by
 have I:∀(a o:At) (n k:Nat),a.length+1<=k->a.length<=1000->P7 n (a.reverse++o) s k ((a.length:Int) - 1)=some (match a.find? (λb=>b.name==s)with|some b=>.rt b.v|none=>.nx ()):=by
  intro a
  induction a with
  |nil=>
   intro o n k B _;cases k with
   |zero=>simp at B
   |succ k=>rfl
  |cons d a Y=>
   intro o n k B C;cases k with
   |zero=>simp at B
   |succ k=>
    have e:(((d::a).length:Int) - 1)=(a.reverse.length:Int):=by simp
    have g:(d::a).reverse++o=a.reverse++d::o:=by simp
    rw[e,g];show Vq n (a.reverse++d::o) s (P7 n (a.reverse++d::o) s k) (a.reverse.length:Int)=_;unfold Vq;rw[d_1 Cl,gJ];simp only[c_1,qAb,qCd];cases j:d.name==s with
    |true=>rfl
    |false=>
     simp only[c_0];have:=Y (d::o) n k (by simp at B;omega) (by simp at C;omega);rw[qCT,wrap64 Cl (by simp at C;omega)];exact this
 unfold ad4;have Z:Ev (λn=>P7 n a.reverse s n ((a.reverse.length:Int) - 1)) (match a.find? (λb=>b.name==s)with|some b=>.rt b.v|none=>.nx ()):=⟨a.length+1,λn D=>by
  have:=I a [] n n D X;rw[qAt]at this;rw[qCT];exact this⟩
 refine e_0 Z ?_;unfold Ml;cases hf:a.find? (λb=>b.name==s)with
 |some b=>exact Cu
 |none=>
  have C:look w.env s=some t:=by
   unfold nJ at H;rw[ar0 hs s hf]at H;exact H
  let⟨q1,q2,q3,q4⟩:=mR G;let⟨m,D⟩:=J8 G s;refine e_0 (afg w.env s) ?_;rw[mO _ _ _ (qBD _)];cases P:w.env.names.any (λd=>d.name==s)with
  |true=>
   let⟨q,d,r,e,h2,Q⟩:=afc _ _ P;rw[e,Vt _ q d r 0 h2 Q,qDZ];obtain⟨u,v,R,g,E⟩:∃u v R,w.values=u++v::R/\u.length=q.length:=by
    have hlt:q.length<w.values.length:=by rw[q3,e];simp
    exact⟨w.values.take q.length,w.values[q.length],w.values.drop (q.length+1),by rw[qEb,qDw],by simp;omega⟩
   have hg:aI w s=v:=by
    have J:(d,v)∈w.env.names.zip w.values:=by
     rw[e,g,List.zip_append E.symm];simp
    have hz:dn (vG w) s=some v:=by
     rw[m,qY _ _ _ D];refine qAJ.2 ⟨(d,v),J,?_⟩;have:d.name=s:=by simpa using Q
     rw[<-this]
    unfold aI;rw[hz]
   rw[hg];refine Ev.of λn=>?_;have K:idx w.values (q.length:Int)=some v:=by rw[g,<-E];exact gJ _ _ _
   simp only[c_1,K,qAb]
  |false=>
   have J:dn (vG w) s=none:=by
    cases h:dn (vG w) s with
    |none=>rfl
    |some v=>
     rw[m,qY _ _ _ D]at h;let⟨p,hp,h4⟩:=qAJ.1 h;have h5:=(qCR (show(p.1,p.2)∈w.env.names.zip w.values from hp)).1;cases h4;have:=qDP.1 P p.1 h5;simp at this
   rcases PS G s t C with⟨v,S,_⟩|⟨v,_,g,E,_⟩
   ·rw[J]at S;cases S
   rw[E];let⟨q,c,r,u,z,zr,F,T,U,V,y⟩:=aiv s _ _ v g;have f:=awM q2;rw[F,T]at f;let⟨z1,z2,_⟩:=adi (aea q u c r z zr U f);refine e_0 (DX w.env s) ?_;rcases y with⟨y,rfl⟩|⟨y,W,rfl⟩
   ·rw[F,Vt _ q c r 0 (λd j=>(V d j).1) y,qDZ,d_1 Cl];have L:c.name=s:=by simpa using y
    have K:idx w.sizes (q.length:Int)=some z:=by rw[T,U];exact gJ _ _ _
    let⟨a1,a2⟩:=aAk s z.toNat;refine e_0 (aAR w s K Cl z2) ?_;refine(awo (l:=elems s z.toNat) (λx hx=>?_) (by rw[a2];omega)).eq ?_
    ·obtain⟨i,_,rfl⟩:=qAJ.1 hx;exact⟨by simp,trivial⟩
    show mkSet (sortV (elems s z.toNat))=mkSet (elems c.name z.toNat);rw[jY a1,L]
   have M:w.env.carriers.any (λd=>d.name==s)=false:=by
    rw[qDP];intro d j h;have N:d.name=s:=by simpa using h
    have A:=(iJ q1).2.2.2.2;unfold names2 at A;exact(qDe.1 A).2.2 s (qAJ.2 ⟨d,j,N⟩) s (qAr.2 (.inl (qBx.2 ⟨c,by rw[F];simp,W⟩))) rfl
   rw[mO _ _ _ (qBD _),M];refine e_0 (VE w.env s) ?_;rw[F,af7 s q c r 0 (λd j=>(V d j).2) W,qDZ];refine Ev.of λn=>?_;rw[gJ];simp only[qAb];rw[show(λx=>x==s)=λe=>s==e by funext e;exact Bool.beq_comm]
def atj{n:Env}(v:aW n=true){d:A4}{t:Tm}{ty:Ty}(h:HT n d t ty):GoodS d->Top ty:=by
 have S:∀{e:Ty},Top (au e)->Good e:=λh=>by
  rcases h with h|h
  ·cases h
  cases h;assumption
 have P:∀{a b:Ty},Good (aR a b)->Good a/\Good b:=λh=>by cases h;exact⟨by assumption,by assumption⟩
 induction h with|lit _ _=>exact λ_=>.inl rfl|int _=>exact λ_=>.inr .int|name l=>exact λs=>.inr (Yx v s l)|empty h=>exact λ_=>.inr (.set h)|not _ _=>exact λ_=>.inl rfl|log _ _ _ _ _ _=>exact λ_=>.inl rfl|qu _ _ _ _ _ _=>exact λ_=>.inl rfl|compr _ _ i _=>exact i|fn g _ _ i _=>exact λs=>.inr (.set (.pair (S (i s)) g))|eq _ _ _ _ _ _ _=>exact λ_=>.inl rfl|ord _ _ _ _ _ _=>exact λ_=>.inl rfl|inn _ _ _ _ _ _=>exact λ_=>.inl rfl|sub _ _ _ _=>exact λ_=>.inl rfl|neg _ _=>exact λ_=>.inr .int|num _ _ _ _ _ _=>exact λ_=>.inr .int|pair c f _ _ _ _=>exact λ_=>.inr (.pair c f)|set c _ _ _=>exact λ_=>.inr (.set c)|range _ _ _ _=>exact λ_=>.inr (.set .int)|bin _ _ _ _ i _=>exact i|prod _ _ i j=>exact λs=>.inr (.set (.pair (S (i s)) (S (j s))))|over _ _ i _=>exact i|comp _ _ i j=>exact λs=>.inr (.set (.pair (P (S (i s))).1 (P (S (j s))).2))|dres _ _ _ _ _ j=>exact j|rres _ _ _ _ i _=>exact i|fam _ _ _ _ i j=>exact λs=>.inr (.set (.set (.pair (S (i s)) (S (j s)))))|pow _ i=>exact λs=>.inr (.set (.set (S (i s))))|card _ _=>exact λ_=>.inr .int|ext _ _ _ _=>exact λ_=>.inr .int|dom _ i=>exact λs=>.inr (.set (P (S (i s))).1)|ran _ i=>exact λs=>.inr (.set (P (S (i s))).2)|inv _ i=>exact λs=>.inr (.set (.pair (P (S (i s))).2 (P (S (i s))).1))|image _ _ i _=>exact λs=>.inr (.set (P (S (i s))).2)|app _ _ i _=>exact λs=>.inr (P (S (i s))).2
def FV(w:S_api_World)(t:Tm)(b:At):Prop:=Ev (λn=>jO n w b.reverse t) (dh (aj (aI w) t b))
def aLm(r:xU):Af×Int:=match r with| .ok l=>(l,0)| .er e=>([],e)
def Er.ne{β:Type}{r:RR β}(h:Er r){e:Int}(a:r=.er e):(e !=0)=true:=by rcases h e a with rfl|rfl<;>rfl
def afs(f:Tm->VR):∀(k:Bi) (a:Af),fG (τ:=Af) (λx a=>match f x with| .ok v=>LR.nx (a++[v])| .er e=>.rt (([]:Af),e)) (λa=>a) k a=match aN (k.map f)with| .ok l=>.nx (a++l)| .er e=>.rt ([],e)
 |[],a=>by simp[fG,aN]
 |x::k,a=>by
  rw[qAy];cases h:f x with
  |er e=>simp only[fG,h,aN]
  |ok v=>
   simp only[fG,h,aN];rw[afs f k];cases aN (k.map f)with
   |er e=>rfl
   |ok l=>simp
def ajP{w:S_api_World}{b:At}{k:Bi}(h:∀t∈k,FV w t b)(m:∀t∈k,Er (aj (aI w) t b))(o:k.length<=1000000):Ev (λn=>kJ n w b.reverse k) (aLm (aN (k.map λt=>aj (aI w) t b))):=by
 refine Ev.succ ?_;show Ev (λn=>Wv n (kJ n) (gZ n) (eF n) (jO n) (iG n) w b.reverse k) _;have g:=wI k (λn=>Gi n (kJ n) (gZ n) (eF n) (jO n) (iG n) w b.reverse k) (λi s=>(s,i)) (λx a=>match aj (aI w) x b with| .ok v=>LR.nx (a++[v])| .er e=>.rt (([]:Af),e)) (λa=>a) (λu s=>s.length+u.length<=1000000)
  (λn d s=>by unfold Gi;rw[at_end];rfl)
  (λp x u s e y=>by
   have j:x∈k:=by simp[e]
   simp only[qAp]at y;obtain⟨N,f⟩:=h x j;refine⟨⟨N,λn z d=>?_⟩,λA c=>?_⟩;·have f:jO n w b.reverse x=_:=f n z;unfold Gi;rw[(bg e).1];simp only[cond_true,(bg e).2,qAb,f];cases r:aj (aI w) x b with|er q=>simp only[dh];rw[(m x j).ne r];rfl|ok v=>simp only[dh];rw[show((0:Int)!=0)=false from rfl,cond_false,dQ (by simp only[qAp,qAA];omega)];rfl
   cases r:aj (aI w) x b with|er q=>rw[r]at c;cases c|ok v=>rw[r]at c;cases c;simp only[qAe,qAp,qAA];omega)
  (s0:=[]) (by simpa using o)
 rw[afs λt=>aj (aI w) t b]at g;refine Ev.bind g ?_;cases aN (k.map λt=>aj (aI w) t b)with|er e=>exact Cu|ok l=>exact Ev.of λn=>rfl
def yC(n:Nat)(op:Int)(l:Af):Option (Val×Int):=((cond (op==7) (some (op==7)) (some (op==10))):Ax).bind λ(t:Bool)=>cond t ((idx l 0).bind λ(u:Val)=>(idx l 1).bind λ(v:Val)=>(dB n u v).bind λ(e:Bool)=>(iQ n e).bind λ(f:Val)=>some (f,0)) (cond (op==11) ((idx l 0).bind λ(g:Val)=>(idx l 1).bind λ(h:Val)=>(dB n g h).bind λ(i:Bool)=>(iQ n (!i)).bind λ(j:Val)=>some (j,0)) (cond (op==27) ((idx l 0).bind λ(k:Val)=>(idx l 1).bind λ(m:Val)=>some ((Val.mk 4 0 ([]:Str) ([k,m])),0)) (cond (op==28) ((qM n l).bind λ(x:Val×Int)=>some (x.1,x.2)) (((cond (op==46) (some (op==46)) (cond (op==41) (some (op==41)) (cond (op==42) (some (op==42)) (cond (op==43) (some (op==43)) (cond (op==44) (some (op==44)) (some (op==45))))))):Ax).bind λ(w:Bool)=>cond w ((pK n op l).bind λ(a:Val×Int)=>some (a.1,a.2)) (cond ((l.length:Int)==1) ((idx l 0).bind λ(o:Val)=>(Rq n op o).bind λ(b:Val×Int)=>some (b.1,b.2)) (((cond (decide (op<27)) (some true) (some (op==30))):Ax).bind λ(y:Bool)=>cond y ((idx l 0).bind λ(p:Val)=>(idx l 1).bind λ(q:Val)=>(JF n op p.n q.n).bind λ(c:Val×Int)=>some (c.1,c.2)) ((idx l 0).bind λ(r:Val)=>(idx l 1).bind λ(s:Val)=>(Dn n op r s).bind λ(d:Val×Int)=>some (d.1,d.2))))))))
def awS{w:S_api_World}{op:Int}{nm:Str}{k:Int}{u:Ty}{s:Bi}{a:At}(d:∀n r1 r r3 f g b,oC n r1 r r3 f g w b (.mk op nm k u s)=(r1 w b s).bind λx=>cond (x.2 !=0) (some (v0,x.2)) (yC n op x.1))(hs:aj (aI w) (.mk op nm k u s) a=(aN (s.map λt=>aj (aI w) t a)).thn (bB op))
  (i:∀t∈s,FV w t a) (c:∀t∈s,Er (aj (aI w) t a)) (j:s.length<=1000000) (m:∀l,aN (s.map λt=>aj (aI w) t a)=.ok l->Ev (λn=>yC n op l) (dh (bB op l))):FV w (.mk op nm k u s) a:=by refine Ev.succ ?_;show Ev (λn=>oC n (kJ n) (gZ n) (eF n) (jO n) (iG n) w a.reverse (.mk op nm k u s)) _;rw[hs,show(λn=>oC n (kJ n) (gZ n) (eF n) (jO n) (iG n) w a.reverse (.mk op nm k u s))=_ from funext λn=>d n _ _ _ _ _ _];refine e_0 (ajP i c j) ?_;cases q:aN (s.map λt=>aj (aI w) t a)with|er e=>have h:=(ajc (λt=>aj (aI w) t a) s c).ne q;show Ev (λn=>cond (e !=0) _ _) (v0,e);rw[h];exact Cu|ok l=>exact m l q
def aDA{w:S_api_World}{op:Int}{nm:Str}{k:Int}{u:Ty}{x:Tm}{s:At}(g:∀n r1 r r3 i j b,oC n r1 r r3 i j w b (.mk op nm k u [x])=(r1 w b [x]).bind λc=>cond (c.2 !=0) (some (v0,c.2)) (yC n op c.1))(hs:xw op=true)
  (m:FV w x s) (o:Er (aj (aI w) x s)) (p:∀a,aj (aI w) x s=.ok a->Ev (λn=>yC n op [a]) (dh (bB op [a]))):FV w (.mk op nm k u [x]) s:=by refine awS g (by rw[bG,adW hs];rfl) (λt d=>by rw[qAK.1 d];exact m) (λt d=>by rw[qAK.1 d];exact o) cn λl h=>?_;rw[qAy,qCM]at h;cases f:aj (aI w) x s with|er e=>rw[f]at h;cases h|ok a=>rw[f]at h;cases h;exact p a f
def XR{w:S_api_World}{op:Int}{nm:Str}{k:Int}{u:Ty}{x y:Tm}{s:At}(j:∀n r1 r r3 m p b,oC n r1 r r3 m p w b (.mk op nm k u [x,y])=(r1 w b [x,y]).bind λd=>cond (d.2 !=0) (some (v0,d.2)) (yC n op d.1))(hs:xw op=true)
  (q:FV w x s) (f:FV w y s) (v:Er (aj (aI w) x s)) (g:Er (aj (aI w) y s)) (z:∀a b,aj (aI w) x s=.ok a->aj (aI w) y s=.ok b->Ev (λn=>yC n op [a,b]) (dh (bB op [a,b]))):FV w (.mk op nm k u [x,y]) s:=by
 have o:∀{P:Tm->Prop},P x->P y->∀t∈[x,y],P t:=λA B t ht=>by
  rcases qAh.1 ht with rfl|ht
  ·exact A
  rw[qAK.1 ht];exact B
 refine awS j (by rw[bG,adW hs];rfl) (o q f) (o v g) cn λl h=>?_;rw[qAy,qAy,qCM]at h;cases c:aj (aI w) x s with|er e=>rw[c]at h;cases h|ok a=>cases i:aj (aI w) y s with|er e=>rw[c,i]at h;cases h|ok b=>rw[c,i]at h;cases h;exact z a b c i
variable {w:S_api_World}{bs:At}
def xC{op:Int}{nm:Str}{k:Int}{u:Ty}{s:Bi}{F:Nat->S_api_World->At->Tm->Option (Val×Int)}(b:∀n,jO (n+1) w bs.reverse (.mk op nm k u s)=(F n w bs.reverse (.mk op nm k u s)).bind λx=>some (x.1,x.2))(h:Ev (λn=>F n w bs.reverse (.mk op nm k u s)) (dh (aj (aI w) (.mk op nm k u s) bs))):FV w (.mk op nm k u s) bs:=by refine Ev.succ ?_;rw[show(λn=>jO (n+1) w bs.reverse (.mk op nm k u s))=_ from funext b];exact e_0 h Cu
def ahp{op:Int}{nm:Str}{k:Int}{u:Ty}{x y:Tm}(h:op=4∨op=5∨op=6)(d:FV w x bs)(f:FV w y bs)(g:Er (aj (aI w) x bs))(i:∀v,aj (aI w) x bs=.ok v->∃b,v=aO b):Ev (λn=>eF n w bs.reverse (.mk op nm k u [x,y])) (dh (aj (aI w) (.mk op nm k u [x,y]) bs)):=by
 refine Ev.succ ?_;show Ev (λn=>Nj n (kJ n) (gZ n) (eF n) (jO n) (iG n) w bs.reverse (.mk op nm k u [x,y])) _;have e:aj (aI w) (.mk op nm k u [x,y]) bs=(aj (aI w) x bs).thn λp=>cond (op==4&&!(p.n==1)) (.ok (aO false)) (cond ((op==5&&p.n==1) ||(op==6&&!(p.n==1))) (.ok (aO true)) (aj (aI w) y bs)):=by rw[bG];rcases h with rfl|rfl|rfl<;>rfl
 rw[e];refine e_0 (a:=x) Cu (e_0 d ?_);cases r:aj (aI w) x bs with|er q=>show Ev (λn=>cond (q !=0) _ _) (v0,q);rw[g.ne r];exact Cu|ok v=>
  obtain⟨b,rfl⟩:=i v r;have l:Ev (λn=>(idx [x,y] 1).bind λ(j:Tm)=>(jO n w bs.reverse j).bind λ(c:Val×Int)=>some (c.1,c.2)) (dh (aj (aI w) y bs)):=e_0 (a:=y) Cu (e_0 f Cu);rcases h with rfl|rfl|rfl
  ·cases b
   ·exact Cu
   exact l
  ·cases b
   ·exact l
   exact Cu
  cases b;·exact Cu
  exact l
def aDy(n:Nat)(op:Int):FY n op=some (iO op):=by
 unfold FY iO;by_cases h:op=46
 ·grind
 rw[show(op==46)=false by simpa using h];by_cases a:41<=op
 ·rw[d_1 a];by_cases b:op<=45
  ·grind
  rw[d_0 b,d_0 Cl];rfl
 grind
def au5{α ρ:Type}(p:α->Bool):∀(l:List α) (b:Bool),fG (ρ:=ρ) (λy b=>.nx (b&&p y)) (λb=>b) l b=.nx (b&&l.all p)|[],b=>by simp[fG]|y::l,b=>by simp only[fG];rw[au5 p l];simp[Bool.and_assoc]
def amo{op:Int}{nm:Str}{k:Int}{u:Ty}{x y:Tm}(o:op=16∨op=17∨op=18)(C:FV w x bs)(D:Er (aj (aI w) x bs))(p:∀z∈cond (iO y.op) y.kids [y],FV w z bs/\Er (aj (aI w) z bs))(E:(cond (iO y.op) y.kids [y]).length<=1000000)
  (F:∀v,aj (aI w) x bs=.ok v->∀l,aN ((cond (iO y.op) y.kids [y]).map λt=>aj (aI w) t bs)=.ok l->∀i∈cond (op==18) v.kids [v],Ev (λn=>cond (iO y.op) (Es n y.op i l) ((idx l 0).bind λ(d:Val)=>ru n i d)) (iB y.op l i)):Ev (λn=>gZ n w bs.reverse (.mk op nm k u [x,y])) (dh (aj (aI w) (.mk op nm k u [x,y]) bs)):=by
 refine Ev.succ ?_;show Ev (λn=>I7 n (kJ n) (gZ n) (eF n) (jO n) (iG n) w bs.reverse (.mk op nm k u [x,y])) _;have e:aj (aI w) (.mk op nm k u [x,y]) bs=(aj (aI w) x bs).thn (X9 op (nu (aI w) y) bs):=by
  rw[bG];rcases o with rfl|rfl|rfl<;>rfl
 have G:vv (nu (aI w) y) bs=aN ((cond (iO y.op) y.kids [y]).map λt=>aj (aI w) t bs):=by
  unfold vv nu;simp only;cases iO y.op with
  |true=>simp only[c_1,qBh];rfl
  |false=>rfl
 rw[e];unfold I7;refine e_0 (a:=x) Cu (e_0 C ?_);cases g:aj (aI w) x bs with
 |er q=>
  show Ev (λn=>cond (q !=0) _ _) (v0,q);rw[D.ne g];exact Cu
 |ok v=>
  refine e_0 (a:=cond (op==18) v.kids [v]) (by rcases o with rfl|rfl|rfl<;>exact Cu) (e_0 (a:=y) Cu (e_0 (a:=cond (iO y.op) y.kids [y]) (Ev.of λn=>?_) (e_0 (ajP (λt c=>(p t c).1) (λt c=>(p t c).2) E) ?_)))
  ·rw[aDy]
   grind
  show Ev _ (dh (X9 op (nu (aI w) y) bs v));unfold X9;rw[G];cases j:aN ((cond (iO y.op) y.kids [y]).map λt=>aj (aI w) t bs)with
  |er q=>
   have f:=(ajc (λt=>aj (aI w) t bs) _ λt c=>(p t c).2).ne j;show Ev (λn=>cond (q !=0) _ _) (v0,q);rw[f];exact Cu
  |ok l=>
   have m:=wI (cond (op==18) v.kids [v]) (λn=>EI n (kJ n) (gZ n) (eF n) (jO n) (iG n) (cond (op==18) v.kids [v]) y (l,0)) (λi s=>(s,i)) (λi b=>LR.nx (ρ:=Val×Int) (b&&iB y.op l i)) (λb=>b) (λ_ _=>True)
    (λn r s=>by unfold EI;rw[at_end];rfl)
    (λH i I s e _=>by
     let⟨N,h⟩:=F v g l j i (by rw[e];simp);refine⟨⟨N,λn J r=>?_⟩,λ_ _=>trivial⟩;have h:=h n J;unfold EI;rw[(bg e).1,aDy];simp only[c_1,(bg e).2,qAb];cases s with
     |false=>cases iO y.op<;>rfl
     |true=>
      cases A:iO y.op with
      |true=>
       rw[A]at h;simp only[c_1]at h|-;rw[h];rfl
      |false=>
       rw[A]at h;simp only[c_0,c_1]at h|-;cases B:idx l 0 with
       |none=>rw[B]at h;cases h
       |some z=>
        rw[B]at h;simp only[qAb]at h|-;rw[h];rfl)
    (s0:=true) trivial
   rw[au5,qAu]at m;refine e_0 m ?_;show Ev (λn=>(iQ n ((cond (op==18) v.kids [v]).all (iB y.op l)==(op !=17))).bind λ(K:Val)=>some (K,(0:Int))) (dh (.ok (aO (cond (op==18) (v.kids.all (iB y.op l)) (iB y.op l v==(op==16))))));refine(rG _).eq ?_;rcases o with rfl|rfl|rfl
   ·show dh (.ok (aO (([v].all (iB y.op l))==true)))=dh (.ok (aO (iB y.op l v==true)));simp
   ·show dh (.ok (aO (([v].all (iB y.op l))==false)))=dh (.ok (aO (iB y.op l v==false)));simp
   show dh (.ok (aO ((v.kids.all (iB y.op l))==true)))=dh (.ok (aO (v.kids.all (iB y.op l))));rw[beq_true]
def amG(op:Int)(x v:Val)(s:Bool×Bool×Af):Bool×Bool×Af:=(s.1&&v.n==1,s.2.1 ||v.n==1,s.2.2++(cond (op==55&&v.n==1) [x] []++cond (op==56) [aG x v] []))
def aib(op:Int)(f:Val->VR):∀(xs:Af) (s:Bool×Bool×Af),fG (λx s=>match f x with| .ok v=>LR.nx (amG op x v s)| .er e=>.rt (v0,e)) (λs=>s) xs s=match aN (xs.map f)with| .er e=>.rt (v0,e)| .ok ys=>.nx (s.1&&ys.all (λy=>y.n==1),s.2.1 ||ys.any (λy=>y.n==1),s.2.2++(xs.zip ys).flatMap λp=>cond (op==55&&p.2.n==1) [p.1] []++cond (op==56) [aG p.1 p.2] [])
 |[],s=>by simp[fG,aN]|x::xs,s=>by
  rw[qAy];cases h:f x with|er e=>simp only[fG,h,aN]|ok v=>
   simp only[fG,h,aN];rw[aib op f xs];cases aN (xs.map f)with|er e=>rfl|ok ys=>simp[amG,Bool.and_assoc,Bool.or_assoc]
def aDk{l ys:At}(h:l.length+ys.length<=1000000):app 72 l ys=some (l++ys):=qh h Cl
def aF7{op:Int}(o:op=8∨op=9∨op=55∨op=56)(a z:Val)(s1 c:Bool)(s:Af)(h:s.length<=1000):(((cond s1 (cond c (some ((z.n==1),true)) (some ((z.n==1),(z.n==1)))) (cond c (some (false,true)) (some (false,(z.n==1))))):Option (Bool×Bool)).bind λ(b:Bool×Bool)=>((((cond (op==55) (some (z.n==1)) (some false)):Ax).bind λ(f:Bool)=>cond f ((app 56 s ([a])).bind λ(x:Af)=>some x) (some s)):Option Af).bind λ(e:Af)=>cond (op==56) ((app 56 e ([(Val.mk 4 0 ([]:Str) ([a,z]))])).bind λ(d:Af)=>some (LR.nx (ρ:=Val×Int) (b.1,b.2,d))) (some (.nx (b.1,b.2,e))))=some (.nx (amG op a z (s1,c,s))):=by
 have g:app 56 s [a]=some (s++[a]):=dQ Cp;have i:app 56 s [Val.mk 4 0 [] [a,z]]=some (s++[aG a z]):=dQ Cp;unfold amG
 grind
def aum{op:Int}(o:op=8∨op=9∨op=55∨op=56){xs ys:Af}(b:∀p∈xs.zip ys,gU p.1/\gU p.2)(l:(xs.zip ys).length<=256):Ev (λn=>cond (op==8) ((iQ n (true&&ys.all λy=>y.n==1)).bind λ(x:Val)=>some (x,(0:Int))) (cond (op==9) ((iQ n (false ||ys.any λy=>y.n==1)).bind λ(d:Val)=>some (d,(0:Int))) ((iZ n (([]:Af)++(xs.zip ys).flatMap λp=>cond (op==55&&p.2.n==1) [p.1] []++cond (op==56) [aG p.1 p.2] [])).bind λ(f:Val)=>some (f,(0:Int))))) (dh (nZ op xs ys)):=by
 rw[qAu,qDd,qAo];rcases o with rfl|rfl|rfl|rfl
 ·exact rG _
 ·exact rG _
 ·have e:((xs.zip ys).flatMap λp=>cond ((55:Int)==55&&p.2.n==1) [p.1] []++cond ((55:Int)==56) [aG p.1 p.2] [])=(xs.zip ys).flatMap λp=>cond (p.2.n==1) [p.1] []:=by grind
  have g:=iF (λp:Val×Val=>cond (p.2.n==1) [p.1] []) 1 (xs.zip ys) λp _=>by cases p.2.n==1<;>simp
  have a:dh (nZ 55 xs ys)=(gH ((xs.zip ys).flatMap λp=>cond (p.2.n==1) [p.1] []),0):=by unfold nZ;simp only[show((55:Int)==8)=false from rfl,show((55:Int)==9)=false from rfl,show((55:Int)==56)=false from rfl,c_0];exact zA Cl
  rw[e,a];refine UR (λz h=>?_) Cl
  grind
 have e:((xs.zip ys).flatMap λp=>cond ((56:Int)==55&&p.2.n==1) [p.1] []++cond ((56:Int)==56) [aG p.1 p.2] [])=(xs.zip ys).flatMap λp=>[aG p.1 p.2]:=rfl;have g:=iF (λp:Val×Val=>[aG p.1 p.2]) 1 (xs.zip ys) λp _=>by simp
 have a:dh (nZ 56 xs ys)=(gH ((xs.zip ys).flatMap λp=>[aG p.1 p.2]),0):=by unfold nZ;simp only[show((56:Int)==8)=false from rfl,show((56:Int)==9)=false from rfl,show((56:Int)==56)=true from rfl,c_0,c_1];exact zA Cl
 rw[e,a];refine UR (λz h=>?_) Cl;let⟨p,c,m⟩:=qBx.1 h;rw[qAK.1 m];exact VS.pr (b p c).1 (b p c).2
def axA{op:Int}{nm:Str}{k:Int}{u:Ty}{x y:Tm}(j:op=8∨op=9∨op=55∨op=56)(G:FV w x bs)(H:Er (aj (aI w) x bs))(I:bs.length<=1000)(J:∀v,aj (aI w) x bs=.ok v->v.kids.length<=256/\VS v.kids)
  (E:∀v,aj (aI w) x bs=.ok v->∀a∈v.kids,FV w y (⟨nm,a⟩::bs)/\Er (aj (aI w) y (⟨nm,a⟩::bs))/\∀z,aj (aI w) y (⟨nm,a⟩::bs)=.ok z->gU z):Ev (λn=>iG n w bs.reverse (.mk op nm k u [x,y])) (dh (aj (aI w) (.mk op nm k u [x,y]) bs)):=by
 refine Ev.succ ?_;show Ev (λn=>KQ n (kJ n) (gZ n) (eF n) (jO n) (iG n) w bs.reverse (.mk op nm k u [x,y])) _;have e:aj (aI w) (.mk op nm k u [x,y]) bs=(aj (aI w) x bs).thn λs=>(fH (aj (aI w) y) nm bs s.kids).thn λc=>nZ op s.kids c:=by rw[bG];rcases j with rfl|rfl|rfl|rfl<;>rfl
 rw[e];unfold KQ;refine e_0 (a:=x) Cu (e_0 G ?_);cases l:aj (aI w) x bs with|er q=>show Ev (λn=>cond (q !=0) _ _) (v0,q);rw[H.ne l];exact Cu|ok v=>
  obtain⟨K,L⟩:=J v l;have F:=wI v.kids (λn=>Gp n (kJ n) (gZ n) (eF n) (jO n) (iG n) w bs.reverse (.mk op nm k u [x,y]) (v,0)) (λi s=>(s.1,s.2.1,s.2.2,i)) (λa s=>match aj (aI w) y (⟨nm,a⟩::bs)with| .ok z=>LR.nx (amG op a z s)| .er e=>.rt (v0,e)) (λs=>s) (λf s=>s.2.2.length+f.length<=256)
   (λn d s=>by unfold Gp;rw[at_end];rfl)
   (λg a f s A B=>by
    obtain⟨M,O,_⟩:=E v l a (by rw[A];simp);simp only[qAp]at B;obtain⟨N,m⟩:=M;refine⟨⟨N,λn P d=>?_⟩,λV t=>?_⟩;·have m:jO n w (⟨nm,a⟩::bs).reverse y=_:=m n P;rw[qDh]at m;unfold Gp;show cond (decide ((g.length:Int)<(v.kids.length:Int))) _ _=_;rw[(bg A).1];simp only[c_1,(bg A).2,qAb];rw[show app 72 ([]:At) bs.reverse=some ([]++bs.reverse)from aDk Cp];simp only[qAb,qAo,Tm.name];rw[show app 72 bs.reverse [⟨nm,a⟩]=some (bs.reverse++[⟨nm,a⟩])from aDk Cp];simp only[qAb,Tm.kids,arZ,m];cases h:aj (aI w) y (⟨nm,a⟩::bs)with|er q=>simp only[dh];rw[O.ne h];rfl|ok z=>simp only[dh];obtain⟨Q,R,b⟩:=s;have S:=aF7 j a z Q R b (by show b.length<=1000;have B:b.length+(f.length+1)<=256:=B;omega);rw[show((0:Int)!=0)=false from rfl,c_0];exact(congrArg (λo=>Option.bind o (LR.el (λ(b:Bool×Bool×Af)=>d (b.1,b.2.1,b.2.2,(g.length:Int)+1)) λr=>some (.rt r))) S)
    cases h:aj (aI w) y (⟨nm,a⟩::bs)with|er q=>rw[h]at t;cases t|ok z=>
     rw[h]at t;cases t;unfold amG;simp only[qAe];have:(cond (op==55&&z.n==1) [a] []).length+(cond (op==56) [aG a z] []).length<=1:=by rcases j with rfl|rfl|rfl|rfl<;>cases z.n==1<;>simp
     omega)
   (s0:=(true,false,[])) (by simpa using K)
  rw[aib op λa=>aj (aI w) y (⟨nm,a⟩::bs)]at F;refine e_0 F ?_;show Ev _ (dh ((fH (aj (aI w) y) nm bs v.kids).thn λc=>nZ op v.kids c));unfold fH;cases T:aN (v.kids.map λa=>aj (aI w) y (⟨nm,a⟩::bs))with|er q=>exact Cu|ok c=>
   obtain⟨W,U⟩:=seq_ok _ _ _ T;have h:∀p∈v.kids.zip c,gU p.1/\gU p.2:=λp C=>⟨L _ (qCR C).1,(E v l p.1 (qCR C).1).2.2 _ (U p C)⟩;have D:(v.kids.zip c).length<=256:=by rw[qDt];omega
   exact aum j h D
end
def aE1(n:Nat){op:Int}(h:op=3∨op=21∨op=47∨op=48∨op=49∨op=50∨op=51∨op=52)(a:Val):yC n op [a]=(Rq n op a).bind λx=>some (x.1,x.2):=by rcases h with rfl|rfl|rfl|rfl|rfl|rfl|rfl|rfl<;>rfl
def aBk(n:Nat){op:Int}(h:op=12∨op=13∨op=14∨op=15∨op=22∨op=23∨op=24∨op=25∨op=26∨op=30)(a b:Val):yC n op [a,b]=(JF n op a.n b.n).bind λx=>some (x.1,x.2):=by rcases h with rfl|rfl|rfl|rfl|rfl|rfl|rfl|rfl|rfl|rfl<;>rfl
def aBU(n:Nat){op:Int}(h:op=31∨op=32∨op=33∨op=34∨op=35∨op=36∨op=37∨op=38∨op=39∨op=40∨op=53∨op=54)(a b:Val):yC n op [a,b]=(Dn n op a b).bind λx=>some (x.1,x.2):=by rcases h with rfl|rfl|rfl|rfl|rfl|rfl|rfl|rfl|rfl|rfl|rfl|rfl<;>rfl
def aB3(n:Nat){op:Int}(h:op=41∨op=42∨op=43∨op=44∨op=45)(l:Af):yC n op l=(pK n op l).bind λx=>some (x.1,x.2):=by rcases h with rfl|rfl|rfl|rfl|rfl<;>rfl
theorem aEn(n:Nat)(a b:Val):yC n 10 [a,b]=(dB n a b).bind λx=>(iQ n x).bind λy=>some (y,(0:Int)):=rfl
theorem aA1(n:Nat)(a b:Val):yC n 7 [a,b]=(dB n a b).bind λx=>(iQ n x).bind λy=>some (y,(0:Int)):=rfl
theorem aFg(n:Nat)(a b:Val):yC n 11 [a,b]=(dB n a b).bind λx=>(iQ n (!x)).bind λy=>some (y,(0:Int)):=rfl
def Ev.to{α:Type}{f g:Nat->Option α}{v:α}(h:Ev g v)(e:∀n,f n=g n):Ev f v:=by rw[funext e];exact h
theorem arp{w:S_api_World}(hw:gW w=true)(t:Tm):
  (∀d sc ty bs,Wf d t→HT w.env sc t ty→Scp w.env w.sizes sc bs→GoodS sc→(bs.length:Int)<d→FV w t bs)∧∀z∈t.kids,∀d sc ty bs,Wf d z→HT w.env sc z ty→Scp w.env w.sizes sc bs→GoodS sc→(bs.length:Int)<d→FV w z bs:=by
 have hg:=DZ hw;have hve:=(mR hw).1
 induction t using Tm.ind with
 |h op nm k u ks ih=>
 refine⟨?_,fun z hz=>(ih z hz).1⟩;intro d sc ty bs hwf ht hs hG hb;let⟨hnode,hd,hkl,hkw⟩:=hwf.node;have hbl:bs.length≤1000:=by omega
 have S:∀{e:Ty} {v:Val},hasB w.env w.sizes (au e) v=true→dO v.kids∧∀x∈v.kids,hasB w.env w.sizes e x=true:=fun hv=>by
  obtain⟨l,rfl,h1,h2⟩:=iV.1 hv;exact⟨h1,h2⟩
 have P:∀{a b:Ty} {v:Val},hasB w.env w.sizes (au (aR a b)) v=true→∀p∈v.kids,p=aG (aJ p) (aQ p):=fun hv p hp=>by
  obtain⟨x,y,rfl,_,_⟩:=qJ.1 ((S hv).2 p hp);rfl
 have R:∀{a b:Ty} {v:Val},hasB w.env w.sizes (au (aR a b)) v=true→fI v.kids:=fun hv p hp=>by
  obtain⟨x,y,rfl,_,_⟩:=qJ.1 ((S hv).2 p hp);exact⟨x,y,rfl⟩
 have I:∀{v:Val},hasB w.env w.sizes fE v=true→EU v.n:=fun hv=>by
  obtain⟨n,rfl,h⟩:=sG.1 hv;exact h
 have D:=fun x (hx:x∈ks) ty (h:HT w.env sc x ty)=>(ih x hx).1 (d+1) sc ty bs (hkw x hx) h hs hG Cl;have E:=fun x (hx:x∈ks) ty (h:HT w.env sc x ty)=>((aek hg (aej hw) x).1 (d+1) sc ty bs (hkw x hx) h hs Cl).er;have V:∀{x:Tm} {ty:Ty} {v:Val},HT w.env sc x ty→aj (aI w) x bs=.ok v→hasB w.env w.sizes ty v=true:=fun h e=>sound hg _ sc _ bs _ h hs e;have L:∀{x:Tm} {ty:Ty} {v:Val},HT w.env sc x ty→aj (aI w) x bs=.ok v→gU v:=fun h e=>adf _ (Sb (atj hve h hG) _ (V h e));have K:∀{v:Val},gU v→VS v.kids:=fun{v} h x hx=>by
  let⟨q,n,s,l⟩:=v;exact abF h.2 x hx
 have u1:∀{op:Int} {x:Tm} {t:Ty},ks=[x]→HT w.env sc x t→xw op=true→(op=3∨op=21∨op=47∨op=48∨op=49∨op=50∨op=51∨op=52)→(∀n r1 r2 r3 r4 r5 b,oC n r1 r2 r3 r4 r5 w b (.mk op nm k u [x])=(r1 w b [x]).bind fun x7=>cond (x7.2 !=0) (some (v0,x7.2)) (yC n op x7.1))→(∀a,aj (aI w) x bs=.ok a→(op=21→EU a.n)∧(47≤op→a.kids.length≤256∧VS a.kids)∧(50≤op→fI a.kids))→FV w (.mk op nm k u [x]) bs:=fun hk hx h1 ho hbd hA=>by
  subst hk;exact aDA hbd h1 (D _ cn _ hx) (E _ cn _ hx) fun a ha=>(aAz ho (hA a ha).1 (hA a ha).2.1 (hA a ha).2.2).to fun n=>aE1 n ho a
 have n2:∀{op:Int} {x y:Tm},ks=[x,y]→HT w.env sc x fE→HT w.env sc y fE→xw op=true→(op=12∨op=13∨op=14∨op=15∨op=22∨op=23∨op=24∨op=25∨op=26∨op=30)→(∀n r1 r2 r3 r4 r5 b,oC n r1 r2 r3 r4 r5 w b (.mk op nm k u [x,y])=(r1 w b [x,y]).bind fun x7=>cond (x7.2 !=0) (some (v0,x7.2)) (yC n op x7.1))→FV w (.mk op nm k u [x,y]) bs:=fun hk hx hy h1 ho hbd=>by
  subst hk;exact XR hbd h1 (D _ cn _ hx) (D _ cn _ hy) (E _ cn _ hx) (E _ cn _ hy) fun a b ha hb=>(auy ho (I (V hx ha)) (I (V hy hb))).to fun n=>aBk n ho a b
 have r2:∀{op:Int} {x y:Tm} {s t:Ty},ks=[x,y]→HT w.env sc x (au s)→HT w.env sc y t→xw op=true→(op=31∨op=32∨op=33∨op=34∨op=35∨op=36∨op=37∨op=38∨op=39∨op=40∨op=53∨op=54)→(∀n r1 r2 r3 r4 r5 b,oC n r1 r2 r3 r4 r5 w b (.mk op nm k u [x,y])=(r1 w b [x,y]).bind fun x7=>cond (x7.2 !=0) (some (v0,x7.2)) (yC n op x7.1))→(op≠54→∃e,t=au e)→(op=35∨op=36∨op=39∨op=40∨op=53∨op=54→∃a b,s=aR a b)→(op=35∨op=36∨op=37∨op=38→∃a b,t=au (aR a b))→FV w (.mk op nm k u [x,y]) bs:=fun hk hx hy h1 ho hbd q1 q2 q3=>by
  subst hk;refine XR hbd h1 (D _ cn _ hx) (D _ cn _ hy) (E _ cn _ hx) (E _ cn _ hy) fun a b ha hb=>(ao4 ho (S (V hx ha)).1 (fun h=>?_) (K (L hx ha)) (K (L hy hb)) (L hy hb) (fun h=>?_) (fun h=>?_) fun h=>?_).to fun n=>aBU n ho a b
  ·obtain⟨e,rfl⟩:=q1 h;exact(S (V hy hb)).1
  ·obtain⟨c,d,rfl⟩:=q2 h;exact R (V hx ha)
  ·obtain⟨c,d,rfl⟩:=q3 h;exact R (V hy hb)
  obtain⟨c,d,rfl⟩:=q2 Cl;exact P (V hx ha)
 have b2:∀{op:Int} {x y:Tm} {e t:Ty},ks=[x,y]→(op=8∨op=9∨op=55∨op=56)→HT w.env sc x (au e)→HT w.env (⟨nm,e⟩::sc) y t→Ev (fun n=>iG n w bs.reverse (.mk op nm k u [x,y])) (dh (aj (aI w) (.mk op nm k u [x,y]) bs)):=fun{op x y e t} hk ho hx hy=>by
  subst hk;have hge:Good e:=by
   rcases atj hve hx hG with h|h
   ·cases h
   cases h;assumption
  have hG':GoodS (⟨nm,e⟩::sc):=fun q hq=>by
   rcases qAh.1 hq with rfl|hq
   ·exact hge
   exact hG q hq
  refine axA ho (D _ cn _ hx) (E _ cn _ hx) hbl (fun v hv=>⟨(S (V hx hv)).1.2,K (L hx hv)⟩) fun v hv a ha=>?_;have hsc:Scp w.env w.sizes (⟨nm,e⟩::sc) (⟨nm,a⟩::bs):=.cons ((S (V hx hv)).2 a ha) hs;refine⟨(ih y cn).1 (d+1) _ _ _ (hkw y cn) hy hsc hG' Cp,((aek hg (aej hw) y).1 (d+1) _ _ _ (hkw y cn) hy hsc Cp).er,fun z hz=>?_⟩;exact adf _ (Sb (atj hve hy hG') _ (sound hg _ _ _ _ _ hy hsc hz))
 have m2:∀{op:Int} {x y:Tm} {s t:Ty},ks=[x,y]→(op=16∨op=17∨op=18)→HT w.env sc x s→HT w.env sc y (au t)→(∀v,hasB w.env w.sizes s v=true→∀i∈cond (op==18) v.kids [v],hasB w.env w.sizes t i=true)→Ev (fun n=>gZ n w bs.reverse (.mk op nm k u [x,y])) (dh (aj (aI w) (.mk op nm k u [x,y]) bs)):=fun{op x y s t} hk ho hx hy hst=>by
  subst hk;have hwy:=hkw y cn;have hzz:∀z∈y.kids,∀T,HT w.env sc z T→FV w z bs∧Er (aj (aI w) z bs):=fun z hz T hT=>by
   have hwz:=(show Wf (d+1) y from hwy);have hz':Wf (d+1+1) z:=by
    let⟨op',nm',k',u',ks'⟩:=y;exact hwz.node.2.2.2 z hz
   exact⟨(ih y cn).2 z hz (d+1+1) sc T bs hz' hT hs hG Cl,((aek hg (aej hw) z).1 (d+1+1) sc T bs hz' hT hs Cl).er⟩
  have hty:∀v,aj (aI w) x bs=.ok v→∀i∈cond (op==18) v.kids [v],hasB w.env w.sizes t i=true∧gU i:=fun v hv i hi=>by
   have h1:=hst v (V hx hv) i hi;refine⟨h1,?_⟩;have h2:=L hx hv;rcases ho with rfl|rfl|rfl
   ·rw[qAK.1 (show i∈[v]from hi)];exact h2
   ·rw[qAK.1 (show i∈[v]from hi)];exact h2
   exact K h2 i hi
  by_cases hsy:iO y.op=true
  ·-- decided without computing it
   have hcases:(∃q nm' k' u' z a,y=.mk q nm' k' u' [z]∧q=46∧HT w.env sc z (au a))∨(∃q nm' k' u' z z' a b,y=.mk q nm' k' u' [z,z']∧(q=41∨q=42∨q=43∨q=44∨q=45)∧HT w.env sc z (au a)∧HT w.env sc z' (au b)∧t=au (aR a b)):=by
    cases hy with
    |fam q hq hz hw1=>exact .inr ⟨_,_,_,_,_,_,_,_,rfl,hq,hz,hw1,rfl⟩
    |pow hz=>exact .inl ⟨_,_,_,_,_,_,rfl,rfl,hz⟩
    |bin q hq=>rcases hq with rfl|rfl|rfl<;>cases hsy
    |dres q hq=>rcases hq with rfl|rfl<;>cases hsy
    |rres q hq=>rcases hq with rfl|rfl<;>cases hsy
    |_=>cases hsy
   rcases hcases with⟨q,nm',k',u',z,a,rfl,rfl,hz⟩|⟨q,nm',k',u',z,z',a,b,rfl,hq,hz,hz',rfl⟩
   ·refine amo ho (D _ cn _ hx) (E _ cn _ hx) (fun t ht=>?_) (by show[z].length≤_;simp) fun v hv l hl i hi=>?_
    ·have ht:t∈[z]:=ht;rw[qAK.1 ht];exact hzz z (by simp[Tm.kids]) _ hz
    have hl:aN [aj (aI w) z bs]=.ok l:=hl;cases hp:aj (aI w) z bs with
    |er e=>rw[hp]at hl;cases hl
    |ok p=>
     rw[hp]at hl;cases hl;show Ev (fun n=>(idx [p] 0).bind fun(x1:Val)=>(kW n i x1).bind fun(x2:Bool)=>some x2) (i.kids.all (aF p.kids));exact Ev.bind (a:=p) Cu (Ev.bind (WA i p) Cu)
   have hsq:iO q=true:=hsy;refine amo ho (D _ cn _ hx) (E _ cn _ hx) (fun t ht=>?_) (by show(cond (iO q) [z,z'] [_]).length≤_;rw[hsq];simp) fun v hv l hl i hi=>?_
   ·have ht:t∈cond (iO q) [z,z'] [.mk q nm' k' u' [z,z']]:=ht;rw[hsq]at ht;rcases qAh.1 ht with rfl|ht
    ·exact hzz _ (by simp[Tm.kids]) _ hz
    rw[qAK.1 ht];exact hzz _ (by simp[Tm.kids]) _ hz'
   have hl:aN ((cond (iO q) [z,z'] [.mk q nm' k' u' [z,z']]).map fun t=>aj (aI w) t bs)=.ok l:=hl;rw[hsq]at hl;have hl:aN [aj (aI w) z bs,aj (aI w) z' bs]=.ok l:=hl;cases hp:aj (aI w) z bs with
   |er e=>rw[hp]at hl;cases hl
   |ok p=>
    cases hp':aj (aI w) z' bs with
    |er e=>rw[hp,hp']at hl;cases hl
    |ok r=>
     rw[hp,hp']at hl;cases hl;let⟨h1,h2⟩:=hty v hv i hi;have:=at6 hq (S (V hz hp)).1.1 (S (V hz' hp')).1.1 (R h1) (K h2) (by have:=(S h1).1.2;omega);show Ev (fun n=>cond (iO q) (Es n q i [p,r]) _) (iB q [p,r] i);have h46:(q==46)=false:=by rcases hq with rfl|rfl|rfl|rfl|rfl<;>rfl
     unfold iB;rw[hsq,h46];exact this
  rw[qDp]at hsy;refine amo ho (D _ cn _ hx) (E _ cn _ hx) (fun t ht=>?_) (by rw[hsy];simp) fun v hv l hl i hi=>?_
  ·rw[hsy]at ht;rw[qAK.1 ht];exact⟨D _ cn _ hy,E _ cn _ hy⟩
  rw[hsy]at hl;have hl:aN [aj (aI w) y bs]=.ok l:=hl;cases hp:aj (aI w) y bs with
  |er e=>rw[hp]at hl;cases hl
  |ok p=>
   rw[hp]at hl;cases hl;unfold iB;rw[hsy];show Ev (fun n=>(idx [p] 0).bind fun(x10:Val)=>ru n i x10) (aF p.kids i);exact Ev.bind (a:=p) Cu (Pw i p)
 cases ht with
 |lit op ho=>exact Ev.succ (by rcases ho with rfl|rfl<;>exact Cu)
 |int h=>
  refine Ev.succ ?_;have e:aj (aI w) (.mk 19 nm k u []) bs=.ok (iY k):=by
   rw[bG];show gM k=_;unfold gM ab1;rw[decide_eq_false Cl,decide_eq_false Cl];rfl
  rw[e];exact Cu
 |name hl=>
  refine Ev.succ ?_;exact Ev.bind (aB0 hw hs hl hbl) Cu
 |empty h=>
  refine Ev.succ ?_;exact Ev.bind (KI (l:=[]) (fun x hx=>by cases hx) cn) Cu
 |not hx=>exact u1 rfl hx rfl (.inl rfl) (fun _ _ _ _ _ _ _=>rfl) fun a _=>⟨by omega,by omega,by omega⟩
 |log op ho hx hy=>
  have bo:∀v,aj (aI w) _ bs=.ok v→∃b,v=aO b:=fun v hv=>Aa.1 (V hx hv);rcases ho with rfl|rfl|rfl|rfl
  ·exact xC (F:=eF) (fun n=>rfl) (ahp Cl (D _ cn _ hx) (D _ cn _ hy) (E _ cn _ hx) bo)
  ·exact xC (F:=eF) (fun n=>rfl) (ahp Cl (D _ cn _ hx) (D _ cn _ hy) (E _ cn _ hx) bo)
  ·exact xC (F:=eF) (fun n=>rfl) (ahp Cl (D _ cn _ hx) (D _ cn _ hy) (E _ cn _ hx) bo)
  refine XR (fun _ _ _ _ _ _ _=>rfl) rfl (D _ cn _ hx) (D _ cn _ hy) (E _ cn _ hx) (E _ cn _ hy) fun a b ha hb=>?_;obtain⟨p,rfl⟩:=Aa.1 (V hx ha);obtain⟨q,rfl⟩:=Aa.1 (V hy hb);refine Ev.to ?_ fun n=>aA1 n _ _;refine Ev.bind (Iu _ _) ((rG _).eq ?_);show dh (.ok (aO (eD (aO p) (aO q))))=dh (.ok (aO ((aO p).n==(aO q).n)));cases p<;>cases q<;>rfl
 |qu op ho hx hy=>
  rcases ho with rfl|rfl
  ·exact xC (F:=iG) (fun n=>rfl) (b2 rfl (.inl rfl) hx hy)
  exact xC (F:=iG) (fun n=>rfl) (b2 rfl (.inr (.inl rfl)) hx hy)
 |compr hx hy=>exact xC (F:=iG) (fun n=>rfl) (b2 rfl (.inr (.inr (.inl rfl))) hx hy)
 |fn hgt hx hy=>exact xC (F:=iG) (fun n=>rfl) (b2 rfl (.inr (.inr (.inr rfl))) hx hy)
 |eq op ho hgt hx hy=>
  rcases ho with rfl|rfl
  ·exact XR (fun _ _ _ _ _ _ _=>rfl) rfl (D _ cn _ hx) (D _ cn _ hy) (E _ cn _ hx) (E _ cn _ hy) fun a b ha hb=>(Ev.bind (Iu a b) (rG _)).to fun n=>aEn n a b
  exact XR (fun _ _ _ _ _ _ _=>rfl) rfl (D _ cn _ hx) (D _ cn _ hy) (E _ cn _ hx) (E _ cn _ hy) fun a b ha hb=>(Ev.bind (Iu a b) (rG _)).to fun n=>aFg n a b
 |ord op ho hx hy=>
  rcases ho with rfl|rfl|rfl|rfl
  ·exact n2 rfl hx hy rfl Cl fun _ _ _ _ _ _ _=>rfl
  ·exact n2 rfl hx hy rfl Cl fun _ _ _ _ _ _ _=>rfl
  ·exact n2 rfl hx hy rfl Cl fun _ _ _ _ _ _ _=>rfl
  exact n2 rfl hx hy rfl Cl fun _ _ _ _ _ _ _=>rfl
 |inn op ho hx hy=>
  rcases ho with rfl|rfl
  ·exact xC (F:=gZ) (fun n=>rfl) (m2 rfl (.inl rfl) hx hy fun v hv i hi=>by rw[qAK.1 (show i∈[v]from hi)];exact hv)
  exact xC (F:=gZ) (fun n=>rfl) (m2 rfl (.inr (.inl rfl)) hx hy fun v hv i hi=>by rw[qAK.1 (show i∈[v]from hi)];exact hv)
 |sub hx hy=>exact xC (F:=gZ) (fun n=>rfl) (m2 rfl (.inr (.inr rfl)) hx hy fun v hv i hi=>(S hv).2 i hi)
 |neg hx=>exact u1 rfl hx rfl Cl (fun _ _ _ _ _ _ _=>rfl) fun a ha=>⟨fun _=>I (V hx ha),by omega,by omega⟩
 |num op ho hx hy=>
  rcases ho with rfl|rfl|rfl|rfl|rfl
  ·exact n2 rfl hx hy rfl Cl fun _ _ _ _ _ _ _=>rfl
  ·exact n2 rfl hx hy rfl Cl fun _ _ _ _ _ _ _=>rfl
  ·exact n2 rfl hx hy rfl Cl fun _ _ _ _ _ _ _=>rfl
  ·exact n2 rfl hx hy rfl Cl fun _ _ _ _ _ _ _=>rfl
  exact n2 rfl hx hy rfl Cl fun _ _ _ _ _ _ _=>rfl
 |pair h1 h2 hx hy=>exact XR (fun _ _ _ _ _ _ _=>rfl) rfl (D _ cn _ hx) (D _ cn _ hy) (E _ cn _ hx) (E _ cn _ hy) fun a b ha hb=>Ev.of fun n=>rfl
 |set hgt hn hx=>
  have e:aj (aI w) (.mk 28 nm k u ks) bs=(aN (ks.map fun t=>aj (aI w) t bs)).thn (bB 28):=by
   rw[bG];show(aN ((ks.map (nu (aI w))).map fun k=>k.f bs)).thn (bB 28)=_;rw[qBh];rfl
  refine awS (fun _ _ _ _ _ _ _=>rfl) e (fun t ht=>D t ht _ (hx t ht)) (fun t ht=>E t ht _ (hx t ht)) Cl fun l hl=>?_;let⟨k1,k2⟩:=seq_ok _ _ _ hl;refine apB (fun v hv=>?_) Cl;obtain⟨i,hi,rfl⟩:=qBy hv;have hz:(ks[i]' Cl,l[i])∈ks.zip l:=by
   rw[qBF];exact⟨i,by simp;omega,by simp⟩
  exact L (hx _ (qAO _)) (k2 _ hz)
 |range hx hy=>exact n2 rfl hx hy rfl Cl fun _ _ _ _ _ _ _=>rfl
 |bin op ho hx hy=>
  rcases ho with rfl|rfl|rfl
  ·exact r2 rfl hx hy rfl Cl (fun _ _ _ _ _ _ _=>rfl) (fun _=>⟨_,rfl⟩) Cl Cl
  ·exact r2 rfl hx hy rfl Cl (fun _ _ _ _ _ _ _=>rfl) (fun _=>⟨_,rfl⟩) Cl Cl
  exact r2 rfl hx hy rfl Cl (fun _ _ _ _ _ _ _=>rfl) (fun _=>⟨_,rfl⟩) Cl Cl
 |prod hx hy=>exact r2 rfl hx hy rfl Cl (fun _ _ _ _ _ _ _=>rfl) (fun _=>⟨_,rfl⟩) Cl Cl
 |over hx hy=>exact r2 rfl hx hy rfl Cl (fun _ _ _ _ _ _ _=>rfl) (fun _=>⟨_,rfl⟩) (fun _=>⟨_,_,rfl⟩) (fun _=>⟨_,_,rfl⟩)
 |comp hx hy=>exact r2 rfl hx hy rfl Cl (fun _ _ _ _ _ _ _=>rfl) (fun _=>⟨_,rfl⟩) (fun _=>⟨_,_,rfl⟩) (fun _=>⟨_,_,rfl⟩)
 |dres op ho hx hy=>
  rcases ho with rfl|rfl
  ·exact r2 rfl hx hy rfl Cl (fun _ _ _ _ _ _ _=>rfl) (fun _=>⟨_,rfl⟩) Cl (fun _=>⟨_,_,rfl⟩)
  exact r2 rfl hx hy rfl Cl (fun _ _ _ _ _ _ _=>rfl) (fun _=>⟨_,rfl⟩) Cl (fun _=>⟨_,_,rfl⟩)
 |rres op ho hx hy=>
  rcases ho with rfl|rfl
  ·exact r2 rfl hx hy rfl Cl (fun _ _ _ _ _ _ _=>rfl) (fun _=>⟨_,rfl⟩) (fun _=>⟨_,_,rfl⟩) Cl
  exact r2 rfl hx hy rfl Cl (fun _ _ _ _ _ _ _=>rfl) (fun _=>⟨_,rfl⟩) (fun _=>⟨_,_,rfl⟩) Cl
 |fam op ho hx hy=>
  have h1:xw op=true:=by rcases ho with rfl|rfl|rfl|rfl|rfl<;>rfl
  refine XR (fun _ _ _ _ _ _ _=>by rcases ho with rfl|rfl|rfl|rfl|rfl<;>rfl) h1 (D _ cn _ hx) (D _ cn _ hy) (E _ cn _ hx) (E _ cn _ hy) fun a b ha hb=>?_
  exact(aEw ho (S (V hx ha)).1 (S (V hy hb)).1 (K (L hx ha)) (K (L hy hb))).to fun n=>aB3 n ho _
 |pow hx=>
  refine aDA (fun _ _ _ _ _ _ _=>rfl) rfl (D _ cn _ hx) (E _ cn _ hx) fun a ha=>?_;exact(aEM (S (V hx ha)).1 (K (L hx ha)) []).to fun n=>rfl
 |card hx=>exact u1 rfl hx rfl Cl (fun _ _ _ _ _ _ _=>rfl) fun a ha=>⟨by omega,fun _=>⟨(S (V hx ha)).1.2,K (L hx ha)⟩,by omega⟩
 |ext op ho hx=>
  rcases ho with rfl|rfl
  ·exact u1 rfl hx rfl Cl (fun _ _ _ _ _ _ _=>rfl) fun a ha=>⟨by omega,fun _=>⟨(S (V hx ha)).1.2,K (L hx ha)⟩,by omega⟩
  exact u1 rfl hx rfl Cl (fun _ _ _ _ _ _ _=>rfl) fun a ha=>⟨by omega,fun _=>⟨(S (V hx ha)).1.2,K (L hx ha)⟩,by omega⟩
 |dom hx=>exact u1 rfl hx rfl Cl (fun _ _ _ _ _ _ _=>rfl) fun a ha=>⟨by omega,fun _=>⟨(S (V hx ha)).1.2,K (L hx ha)⟩,fun _=>R (V hx ha)⟩
 |ran hx=>exact u1 rfl hx rfl Cl (fun _ _ _ _ _ _ _=>rfl) fun a ha=>⟨by omega,fun _=>⟨(S (V hx ha)).1.2,K (L hx ha)⟩,fun _=>R (V hx ha)⟩
 |inv hx=>exact u1 rfl hx rfl Cl (fun _ _ _ _ _ _ _=>rfl) fun a ha=>⟨by omega,fun _=>⟨(S (V hx ha)).1.2,K (L hx ha)⟩,fun _=>R (V hx ha)⟩
 |image hx hy=>exact r2 rfl hx hy rfl Cl (fun _ _ _ _ _ _ _=>rfl) (fun _=>⟨_,rfl⟩) (fun _=>⟨_,_,rfl⟩) Cl
 |app hx hy=>exact r2 rfl hx hy rfl Cl (fun _ _ _ _ _ _ _=>rfl) (fun h=>absurd rfl h) (fun _=>⟨_,_,rfl⟩) Cl
def aqP{v:Val}(h:pY v):Ev (λn=>BJ n v) v:=auP v h
def aFB:pY v0:=by simp[v0,pY,F5]
def awi(w:S_api_World)(t:Tm)(c:∀v∈w.values,gU v):Ev (λn=>aei n w t) (ig w t):=by
 unfold aei ig;refine e_0 (a:=!(gW w&&cO t)) ?_ ?_;·refine e_0 (XL w c) ?_;cases gW w with|false=>exact Cu|true=>exact e_0 (xS t) Cu
 cases h:(gW w&&cO t)with|false=>exact Cu|true=>
  rw[qAa]at h;refine e_0 (J5 w.env t) ?_;cases d:((bT w.env t).2.2 !=0)with|true=>exact Cu|false=>let⟨y,i,f,b,_⟩:=Dt h.1 h.2 (by simpa using d);have r:=(arp h.1 t).1 1 [] y [] (sP h.2) b .nil wR cn;refine e_0 r ?_;unfold l9;cases g:aj (aI w) t []with|ok v=>exact e_0 (aqP (Sb f v (Qt h.1 b g))) Cu|er e=>exact e_0 (aqP aFB) Cu
def at1(w:S_api_World)(t:Tm)(b:∀v∈w.values,gU v):Ev (λn=>Zg n w t) (fZ w t):=by
 unfold Zg fZ;refine e_0 (a:=!(gW w&&cO t)) ?_ ?_;·refine e_0 (XL w b) ?_;cases gW w with|false=>exact Cu|true=>exact e_0 (xS t) Cu
 cases h:(gW w&&cO t)with|false=>exact Cu|true=>
  rw[qAa]at h;refine e_0 (JU w.env t) ?_;cases c:(l6 w.env t !=0)with|true=>exact Cu|false=>
   obtain⟨_,d⟩:=axe h.1 (by simpa using c);have r:=(arp h.1 t).1 1 [] _ [] (sP h.2) d .nil wR cn;refine e_0 r ?_;have e:dh (aj (aI w) t [])=l9 w t:=by unfold l9 dh;cases aj (aI w) t []<;>rfl
   rw[e];cases(l9 w t).2==0<;>exact Cu
def aAW(w:S_api_World)(t:Tm)(hs:FQ w.env)(d:∀v∈w.values,gU v)(e:iN t):Ev (λn=>R6 n w t) true:=by
 let⟨b,h⟩:=Q7 w.env;let⟨f,c⟩:=Dq t;refine e_0 (a:=!(b&&f)) ?_ ?_;·refine e_0 h ?_;cases b with|false=>exact Cu|true=>exact e_0 c Cu
 cases(b&&f)with|false=>exact nL|true=>refine e_0 (H7 w t hs e) (e_0 (awi w t d) (e_0 (G8 w t hs e) (e_0 (at1 w t d) (e_0 (a:=true) ?_ Cu))));rw[beq_self_eq_true];refine e_0 (Iu _ _) ?_;rw[(zo _ _).2 rfl,beq_self_eq_true,beq_self_eq_true];exact nL
end Abs
end Go.Proofs.YtneeginmfjageaaGreat
