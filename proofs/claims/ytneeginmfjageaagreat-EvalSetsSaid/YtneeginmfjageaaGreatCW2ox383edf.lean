/-
  Loops that gather values; membership by halving; filters, columns and relations of the evaluator. Conditions: sets are ascending and have at most 256 elements; lemmas without a program.
-/
import Derived.Test.YtneeginmfjageaaGreatCP8oxf1c168
set_option linter.unusedSimpArgs false
set_option linter.unusedVariables false
namespace Go.Proofs.YtneeginmfjageaaGreat
namespace Abs
open Go
theorem aDT{α β:Type}(l:List α)(f:Nat→α→Option β)(g:α→β)(h:∀x∈l,Ev (fun n=>f n x) (g x)):∃N,∀n,N≤n→∀x∈l,f n x=some (g x):=by
 induction l with
 | nil=>exact⟨0,fun _ _ x hx=>by cases hx⟩
 | cons a l ih=>
  obtain⟨N,h1⟩:=h a (by simp);obtain⟨M,h2⟩:=ih fun x hx=>h x (by simp[hx]);refine⟨N+M,fun n hn x hx=>?_⟩;rcases qAg.1 hx with rfl | hx
  ·exact h1 n (by omega)
  ·exact h2 n (by omega) x hx
theorem Zk{α σ S τ ρ:Type}(l:List α)(B:Nat→(S→Option (LR τ ρ))→S→Option (LR τ ρ))(pk:Int→σ→S)(st:α→σ→LR σ ρ)(fin:σ→τ)(I:List α→σ→Prop)
  (he:∀n rec s,B n rec (pk (l.length:Int) s)=some (.nx (fin s)))
  (hs:∀pre x suf s,l=pre++x::suf→I (x::suf) s→(∃N,∀n,N≤n→∀rec,B n rec (pk (pre.length:Int) s)=match st x s with | .nx s'=>rec (pk ((pre.length:Int)+1) s') | .rt r=>some (.rt r))∧∀s',st x s=.nx s'→I suf s')
  {s0:σ} (h0:I l s0):Ev (fun n=>aG (B n) n (pk 0 s0)) (gQ st fin l s0):=by
 have key:∀(suf pre:List α) (s:σ),l=pre++suf→I suf s→∃N,∀n,N≤n→∀k,suf.length+1≤k→aG (B n) k (pk (pre.length:Int) s)=some (gQ st fin suf s):=by
  intro suf
  induction suf with
  | nil=>
   intro pre s hl _;refine⟨0,fun n _ k hk=>?_⟩;obtain⟨j,rfl⟩:∃j,k=j+1:=⟨k - 1,by simp at hk;omega⟩;rw[show(pre.length:Int)=(l.length:Int) by rw[hl];simp];exact he n _ s
  | cons x suf ih=>
   intro pre s hl hI;obtain⟨⟨N,h1⟩,h2⟩:=hs pre x suf s hl hI;cases hx:st x s with
   | rt r=>
    refine⟨N,fun n hn k hk=>?_⟩;obtain⟨j,rfl⟩:∃j,k=j+1:=⟨k - 1,by simp at hk;omega⟩;have:=h1 n hn (aG (B n) j);rw[hx] at this;show B n (aG (B n) j) _=_;rw[this];simp only[gQ,hx]
   | nx s'=>
    obtain⟨M,h3⟩:=ih (pre++[x]) s' (by simp[hl]) (h2 s' hx);refine⟨N+M,fun n hn k hk=>?_⟩;obtain⟨j,rfl⟩:∃j,k=j+1:=⟨k - 1,by simp at hk;omega⟩;have:=h1 n (by omega) (aG (B n) j);rw[hx] at this;show B n (aG (B n) j) _=_;rw[this];have h4:=h3 n (by omega) j (by simp at hk;omega);rw[show((pre++[x]).length:Int)=(pre.length:Int)+1 by simp] at h4;simp only[gQ,hx];exact h4
 obtain⟨N,h⟩:=key l [] s0 rfl h0;exact⟨N+l.length+1,fun n hn=>h n (by omega) n (by omega)⟩
theorem aoa{α β τ ρ:Type}(g:α→List β)(fin:List β→τ):∀(l:List α) (s:List β),gQ (ρ:=ρ) (fun x s=>.nx (s++g x)) fin l s=.nx (fin (s++l.flatMap g))
 | [],s=>by simp[gQ]
 | x::l,s=>by simp only[gQ];rw[aoa g fin l];simp
theorem azY{α β S τ ρ:Type}(l:List α)(B:Nat→(S→Option (LR τ ρ))→S→Option (LR τ ρ))(pk:Int→List β→S)(fin:List β→τ)(g:α→List β)(M:Nat)
  (he:∀n rec s,B n rec (pk (l.length:Int) s)=some (.nx (fin s)))
  (hs:∀pre x suf s,l=pre++x::suf→s.length+(g x).length≤M→∃N,∀n,N≤n→∀rec,B n rec (pk (pre.length:Int) s)=rec (pk ((pre.length:Int)+1) (s++g x)))
  {s0:List β} (h0:s0.length+(l.flatMap g).length≤M):Ev (fun n=>aG (B n) n (pk 0 s0)) (LR.nx (fin (s0++l.flatMap g))):=by
 rw[←aoa (ρ:=ρ) g fin l s0];refine Zk l B pk _ fin (fun suf s=>s.length+(suf.flatMap g).length≤M) he (fun pre x suf s hl hI=>?_) h0;simp only[qBb,qAf] at hI;refine⟨hs pre x suf s hl (by omega),fun s' e=>?_⟩;cases e;simp only[qAf];omega
theorem xJ{α S ρ:Type}(l:List α)(B:Nat→(S→Option (LR (List Val) ρ))→S→Option (LR (List Val) ρ))(pk:Int→List Val→S)(g:α→List Val)(M:Nat)(hM:M*56≤140737488355328)
  (he:∀n rec s,B n rec (pk (l.length:Int) s)=some (.nx s))
  (hs:∀pre x suf s,l=pre++x::suf→(s.length+(g x).length)*56≤140737488355328→∃N,∀n,N≤n→∀rec,B n rec (pk (pre.length:Int) s)=rec (pk ((pre.length:Int)+1) (s++g x)))
  {s0:List Val} (h0:s0.length+(l.flatMap g).length≤M):Ev (fun n=>aG (B n) n (pk 0 s0)) (LR.nx (s0++l.flatMap g)):=
 azY l B pk (fun s=>s) g M he (fun pre x suf s hl h=>hs pre x suf s hl (by omega)) h0
def auw(l:List Val)(P:Nat→Val→Option Bool)(n:Nat)(rec:(List Val×Int)→Option (LR (List Val) (List Val)))(s:List Val×Int):Option (LR (List Val) (List Val)):=
 cond (decide (s.2<(l.length:Int))) ((((idx l s.2).bind fun(x1:Val)=>((P n x1).bind fun(x2:Bool)=>(cond x2 ((app 56 s.1 ([x1])).bind fun(x3:List Val)=>some x3) (some s.1)))):Option (List Val)).bind fun(s3:List Val)=>rec (s3,(s.2+1))) (some (.nx s.1))
theorem ZX{α:Type}(p:α→Bool)(l:List α):l.flatMap (fun x=>cond (p x) [x] [])=l.filter p:=by
 induction l with
 | nil=>rfl
 | cons x l ih=>rw[qBb,ih,List.filter_cons];cases p x<;>rfl
theorem flatMap_one{α β:Type}(f:α→β)(l:List α):l.flatMap (fun x=>[f x])=l.map f:=by
 induction l with
 | nil=>rfl
 | cons x l ih=>rw[qBb,ih];rfl
theorem at_end{α:Type}(l:List α):decide ((l.length:Int)<(l.length:Int))=false:=decide_eq_false (Int.lt_irrefl _)
theorem eD{α:Type}{l pre suf:List α}{x:α}(h:l=pre++x::suf):decide ((pre.length:Int)<(l.length:Int))=true∧idx l (pre.length:Int)=some x:=by
 subst h;exact⟨decide_eq_true (by simp;omega),gF _ _ _⟩
theorem BU(l:List Val)(P:Nat→Val→Option Bool)(p:Val→Bool)(hp:∀x∈l,Ev (fun n=>P n x) (p x))(hl:l.length≤1000000):
  Ev (fun n=>(aG (auw l P n) n (([]:List Val),(0:Int))).bind (LR.el (fun s2=>some s2) (fun r=>some r))) (l.filter p):=by
 have h:=xJ l (auw l P) (fun i s=>(s,i)) (fun x=>cond (p x) [x] []) 1000000 (by omega) (fun n rec s=>by unfold auw;rw[at_end];rfl) (fun pre x suf s e hb=>by
  obtain⟨N,h⟩:=hp x (by simp[e]);refine⟨N,fun n hn rec=>?_⟩;have h:P n x=_:=h n hn;unfold auw;rw[(eD e).1];simp only[cond_true,(eD e).2,qAb,h];cases hx:p x
  ·simp
  ·rw[hx] at hb;simp only[cond_true,qAm,qAK] at hb⊢;rw[iB (by simpa using hb)];rfl) (s0:=[]) (by rw[ZX];have:=qCQ p l;simp only[qAK];omega)
 rw[ZX,qAt] at h;exact Ev.bind h (Ev.ret _)
theorem j3(l:List Val)(x:Val):bG l x=true↔x∈l:=by
 unfold bG qp;rw[qCI];constructor
 ·rintro⟨y,hy,h⟩;rw[beq_iff_eq,fK] at h;exact h▸hy
 ·exact fun h=>⟨x,h,by rw[beq_iff_eq,fK]⟩
theorem ahZ{l:List Val}(h:l.Pairwise kJ){i j:Nat}(hij:i<j)(hj:j<l.length):kJ (l[i]'(by omega)) l[j]:=List.pairwise_iff_getElem.1 h i j (by omega) hj hij
theorem ayT(l:List Val)(x:Val)(hs:l.Pairwise kJ)(hl:l.length≤1000000)(n:Nat)(hc:∀y∈l,dF n y x=some (bH y x)):∀(d lo hi:Nat),lo≤hi→hi≤l.length→hi - lo≤d→
  (∀i (h:i<l.length),i<lo→bH l[i] x<0)→(∀i (h:i<l.length),hi≤i→¬bH l[i] x<0)→
  ∃r:Nat,r≤l.length∧(∀i (h:i<l.length),i<r→bH l[i] x<0)∧(∀i (h:i<l.length),r≤i→¬bH l[i] x<0)∧∀k,d+1≤k→sN n l x k ((lo:Int),(hi:Int))=some (.nx (r:Int)):=by
 intro d
 induction d with
 | zero=>
  intro lo hi h1 h2 h3 ha hb;have:lo=hi:=by omega
  subst this;refine⟨lo,h2,ha,hb,fun k hk=>?_⟩;obtain⟨j,rfl⟩:∃j,k=j+1:=⟨k - 1,by omega⟩;show dD n l x _ _=_;unfold dD;rw[decide_eq_false (by simp)];rfl
 | succ d ih=>
  intro lo hi h1 h2 h3 ha hb;by_cases hlt:lo<hi
  ·have hm:(lo+hi)/2<l.length:=by omega
   have hx:=hc l[(lo+hi)/2] (qAO hm);have hi':idx l (((lo+hi)/2:Nat):Int)=some l[(lo+hi)/2]:=by
    unfold idx;rw[if_pos (by omega),qBm,qAc hm]
   have e1:IntKind.wrap .u64 (IntKind.wrap .i64 ((lo:Int)+(hi:Int)))=((lo+hi:Nat):Int):=by
    rw[wrap64 (by omega) (by omega)];simp only[IntKind.wrap]
    first
     | omega
     | (rw[Int.emod_eq_of_lt (by omega) (by simp;omega)];omega)
     | (simp[IntKind.bits];omega)
   have e2:apl .u64 (((lo+hi:Nat)):Int) 1=some (((lo+hi)/2:Nat):Int):=by
    unfold apl;rw[if_pos ⟨by omega,by decide⟩];congr 1;rw[qDj _ (by decide)];rfl
   by_cases hcm:bH l[(lo+hi)/2] x<0
   ·obtain⟨r,r1,r2,r3,r4⟩:=ih ((lo+hi)/2+1) hi (by omega) h2 (by omega) (fun i h hq=>by
     rcases qDx i ((lo+hi)/2) with h' | h'
     ·exact zN _ _ _ (ahZ hs h' hm) hcm
     ·have:i=(lo+hi)/2:=by omega
      subst this;exact hcm) hb
    refine⟨r,r1,r2,r3,fun k hk=>?_⟩;obtain⟨j,rfl⟩:∃j,k=j+1:=⟨k - 1,by omega⟩;show dD n l x _ _=_;unfold dD;rw[decide_eq_true (by simpa using hlt)];simp only[cond_true,e1,e2,qAb];rw[wrap64 (by omega) (by omega)];simp only[hi',qAb,hx];rw[decide_eq_true hcm,cond_true,wrap64 (by omega) (by omega)];exact r4 j (by omega)
   ·obtain⟨r,r1,r2,r3,r4⟩:=ih lo ((lo+hi)/2) (by omega) (by omega) (by omega) ha (fun i h hq hcn=>by
     rcases qDx ((lo+hi)/2) i with h' | h'
     ·exact hcm (zN _ _ _ (ahZ hs h' h) hcn)
     ·have:i=(lo+hi)/2:=by omega
      subst this;exact hcm hcn)
    refine⟨r,r1,r2,r3,fun k hk=>?_⟩;obtain⟨j,rfl⟩:∃j,k=j+1:=⟨k - 1,by omega⟩;show dD n l x _ _=_;unfold dD;rw[decide_eq_true (by simpa using hlt)];simp only[cond_true,e1,e2,qAb];rw[wrap64 (by omega) (by omega)];simp only[hi',qAb,hx];rw[decide_eq_false hcm,cond_false];exact r4 j (by omega)
  ·obtain⟨r,r1,r2,r3,r4⟩:=ih lo hi h1 h2 (by omega) ha hb;exact⟨r,r1,r2,r3,fun k hk=>r4 k (by omega)⟩
theorem Gr{l:List Val}(hs:l.Pairwise kJ)(hl:l.length≤1000000)(x:Val):Ev (fun n=>eU n l x) (bG l x):=by
 obtain⟨N,hc⟩:=aDT l (fun n y=>dF n y x) (fun y=>bH y x) fun y _=>Co y x;refine⟨N+l.length+1,fun n hn=>?_⟩;obtain⟨r,r1,r2,r3,r4⟩:=ayT l x hs hl n (hc n (by omega)) l.length 0 l.length (by omega) (by omega) (by omega) (fun i _ h=>absurd h (by omega)) (fun i h h'=>absurd h (by omega));have h4:=r4 n (by omega);show eU n l x=_;unfold eU nZ;rw[show((0:Nat):Int)=0 from rfl] at h4;rw[h4];simp only[qAb,LR.el];by_cases hr:r<l.length
 ·have hi':idx l (r:Int)=some l[r]:=by
   unfold idx;rw[if_pos (by omega),qBm,qAc hr]
  rw[decide_eq_true (by omega)];simp only[cond_true,hi',qAb,hc n (by omega) l[r] (qAO hr)];congr 1;rw[qBw,j3,beq_iff_eq,fK];constructor
  ·rintro rfl;exact qAO hr
  ·intro hm;obtain⟨j,hj,rfl⟩:=qBB hm;rcases Nat.lt_trichotomy j r with h | h | h
   ·exact absurd (r2 j hj h) (by have:=(fK l[j] l[j]).2 rfl;omega)
   ·subst h;rfl
   ·exact absurd (ahZ hs h hj) (r3 r hr (qAd _))
 ·rw[decide_eq_false (by omega)];simp only[cond_false,qAb];congr 1;symm;rw[qBZ];intro hm;rw[j3] at hm;obtain⟨j,hj,rfl⟩:=qBB hm;exact absurd (r2 j hj (by omega)) (by have:=(fK l[j] l[j]).2 rfl;omega)
def iT(l:List Val):Prop:=l.Pairwise kJ∧l.length≤256
def nC(l:List Val):Prop:=∀p∈l,∃a b,p.kids=[a,b]
theorem iT.has{l:List Val}(h:iT l)(x:Val):Ev (fun n=>(eU n l x).bind fun(x1:Bool)=>some x1) (bG l x):=Ev.bind (Gr h.1 (by have:=h.2;omega) x) (Ev.ret _)
theorem nC.fst{l:List Val}(h:nC l){p:Val}(hp:p∈l):idx p.kids 0=some (bK p):=by
 obtain⟨a,b,e⟩:=h p hp;unfold bK;rw[e];rfl
theorem nC.snd{l:List Val}(h:nC l){p:Val}(hp:p∈l):idx p.kids 1=some (dH p):=by
 obtain⟨a,b,e⟩:=h p hp;unfold dH;rw[e];rfl
theorem yO{l:List Val}(h:iT l):l.length≤1000000:=by have:=h.2;omega
theorem Ya{l:List Val}(h:nC l)(hl:l.length≤1000000):Ev (fun n=>zS n l) (nE l):=by
 have h1:=xJ l (fun n=>Aw n l) (fun i s=>(s,i)) (fun x=>[bK x]) 1000000 (by omega) (fun n rec s=>by unfold Aw;rw[at_end];rfl) (fun pre x suf s e hb=>⟨0,fun n hn rec=>by
  unfold Aw;rw[(eD e).1];simp only[cond_true,(eD e).2,qAb,h.fst (show x∈l by simp[e])];rw[iB (by simpa using hb)];rfl⟩) (s0:=[]) (by rw[flatMap_one];simpa using hl)
 rw[flatMap_one,qAt] at h1;unfold zS mkS;rw[if_pos ⟨by omega,by omega,by omega⟩];simp only[qAb];refine Ev.bind h1 ⟨0,fun n _=>?_⟩;simp only[LR.el,jw];rw[iB (by simp;omega)];rfl
theorem Ng{l:List Val}(h:nC l)(hl:l.length≤1000000):Ev (fun n=>o8 n l) (qF l):=by
 have h1:=xJ l (fun n=>yK n l) (fun i s=>(s,i)) (fun x=>[dH x]) 1000000 (by omega) (fun n rec s=>by unfold yK;rw[at_end];rfl) (fun pre x suf s e hb=>⟨0,fun n hn rec=>by
  unfold yK;rw[(eD e).1];simp only[cond_true,(eD e).2,qAb,h.snd (show x∈l by simp[e])];rw[iB (by simpa using hb)];rfl⟩) (s0:=[]) (by rw[flatMap_one];simpa using hl)
 rw[flatMap_one,qAt] at h1;unfold o8 mkS;rw[if_pos ⟨by omega,by omega,by omega⟩];simp only[qAb];refine Ev.bind h1 ⟨0,fun n _=>?_⟩;simp only[LR.el,jw];rw[iB (by simp;omega)];rfl
theorem ab3(op:Int){a b l:List Val}(ha:a.Pairwise kJ)(hb:b.Pairwise kJ)(la:a.length≤1000000)(lb:b.length≤1000000)(h:nC l)(hl:l.length≤1000000):Ev (fun n=>uF n op a b l) (zX op a b l):=by
 have h1:=Zk l (fun n=>wC n a b l) (fun i _=>i) (fun x (_:Unit)=>cond (!(bG a (bK x)&&bG b (dH x))) (.rt false) (.nx ())) (fun _=>()) (fun _ _=>True) (fun n rec s=>by unfold wC;rw[at_end];rfl) (fun pre x suf s e _=>⟨by
  obtain⟨N,h1⟩:=Gr ha la (bK x);obtain⟨M,h2⟩:=Gr hb lb (dH x);refine⟨N+M,fun n hn rec=>?_⟩;have h1:eU n a (bK x)=_:=h1 n (by omega);have h2:eU n b (dH x)=_:=h2 n (by omega);unfold wC;rw[(eD e).1];simp only[cond_true,(eD e).2,qAb,h.fst (show x∈l by simp[e]),h.snd (show x∈l by simp[e]),h1,h2];cases bG a (bK x)<;>cases bG b (dH x)<;>rfl,fun _ _=>trivial⟩) (s0:=()) trivial
 rw[QG] at h1;have e:l.all (fun p=>bG a (bK p)&&bG b (dH p))=!(l.any fun x=>!(bG a (bK x)&&bG b (dH x))):=by rw[←List.not_all_eq_any_not,qCr]
 unfold uF zX;rw[e];refine Ev.bind h1 ?_;cases l.any fun x=>!(bG a (bK x)&&bG b (dH x)) with
 | true=>exact Ev.ret _
 | false=>
  refine Ev.bind (Ya h hl) (Ev.bind (Ng h hl) ⟨0,fun n _=>?_⟩);unfold uX;simp only[qBe,qAz];cases op==41<;>cases op==42<;>cases op==43<;>cases op==44<;>simp only[cond_true,cond_false]<;>
   cases((nE l).length:Int)==(l.length:Int)<;>cases((nE l).length:Int)==(a.length:Int)<;>cases((qF l).length:Int)==(l.length:Int)<;>rfl
theorem UQ{α σ τ ρ:Type}(f:σ→α→σ)(fin:σ→τ):∀(l:List α) (s:σ),gQ (ρ:=ρ) (fun x s=>.nx (f s x)) fin l s=.nx (fin (l.foldl f s))
 | [],s=>rfl
 | x::l,s=>by simp only[gQ];rw[UQ f fin l];rfl
theorem az3{l ys:List (List Val)}(h:(l.length+ys.length)*24≤140737488355328):app 24 l ys=some (l++ys):=by
 unfold app
 grind
theorem afZ{l:List Val}(hl:l.length≤8):Ev (fun n=>He n l) (uW l):=by
 have h1:=Zk l (fun n=>yG n l) (fun i s=>(s,i)) (fun x out=>.nx (out++out.map fun r=>r++[x])) (fun s=>s) (fun suf out=>out.length*2^suf.length≤256∧∀r∈out,r.length+suf.length≤8) (fun n rec s=>by unfold yG;rw[at_end];rfl) (fun pre x suf out e hI=>by
  simp at hI;have hp:1≤2^suf.length:=qDi;have hle:out.length*2≤256:=by
   have:out.length*2*1≤out.length*2*2^suf.length:=Nat.mul_le_mul_left _ hp
   grind
  refine⟨?_,fun s' es=>?_⟩
  ·obtain⟨N,h⟩:=azY (ρ:=List (List Val)) out (fun n=>yC n x out) (fun i s=>(s,i)) (fun s=>s) (fun r=>[r++[x]]) 600 (fun n rec s=>by unfold yC;rw[at_end];rfl) (fun pre2 r suf2 s e2 hb=>⟨0,fun n hn rec=>by
    have hr:=hI.2 r (by simp[e2]);unfold yC jf;rw[(eD e2).1];simp only[(eD e2).2,qAb];rw[iB (by simp;omega)];simp;rw[iB (by simp;omega)];simp;rw[az3 (by simp;omega)];rfl⟩) (s0:=out) (by rw[flatMap_one];simp;omega)
   rw[flatMap_one] at h;refine⟨N,fun n hn rec=>?_⟩;have h:Rb n x out n (out,0)=_:=h n hn;unfold yG wN;rw[(eD e).1];simp only[(eD e).2];rw[az3 (by simp;omega)]
   grind
  ·cases es;constructor
   ·simp
    grind
   ·intro r hr;rcases qAn.1 hr with hr | hr
    ·grind
    ·obtain⟨q,hq,rfl⟩:=qAA.1 hr;have:=hI.2 q hq;simp;omega) (s0:=[[]]) ⟨by
   have:2^l.length≤2^8:=qDa (by omega) hl;simpa using this,by simpa using hl⟩
 rw[UQ (ρ:=List (List Val)) (fun(out:List (List Val)) x=>out++out.map fun r=>r++[x])] at h1;exact Ev.bind h1 (Ev.ret _)
theorem adn:∀(l:List Val) (out:List (List Val)),(l.foldl (fun out x=>out++out.map fun r=>r++[x]) out).length=out.length*2^l.length
 | [],out=>by simp
 | x::l,out=>by
  rw[qBl,adn l]
  grind
theorem ahm(n:Nat)(op x y:Int):Ke n op x y=some (yF op x y):=by
 unfold Ke yF
 grind
theorem asM{n:Nat}(h:n≤8):1≤2^n∧2^n≤256:=⟨qDi,qDa (n:=2) (by omega) h⟩
theorem au4(f:Nat){op:Int}(ho:op=41∨op=42∨op=43∨op=44∨op=45){m n:Nat}(hn:n≤256)(hm:m≤256)(hmn:44≤op→m≤n):∀(k i c:Nat),i+k=m→1≤c→c≤256→∀j,k+1≤j→
  ∃r,Gi f op m n j ((c:Int),(i:Int))=some r∧(match r with | .nx _=>false | .rt b=>b)=wB op n k i c:=by
 intro k
 induction k with
 | zero=>
  intro i c hi _ _ j hj;obtain⟨j,rfl⟩:∃q,j=q+1:=⟨j - 1,by omega⟩;refine⟨.nx (),?_,rfl⟩;show tF f op m n _ _=_;unfold tF
  grind
 | succ k ih=>
  intro i c hi h1 h2 j hj;obtain⟨j,rfl⟩:∃q,j=q+1:=⟨j - 1,by omega⟩;show ∃r,tF f op m n (Gi f op m n j) _=some r∧_;unfold tF;rw[decide_eq_true (by simp;omega)];simp only[cond_true];by_cases h8:(op==41&&decide (8<(n:Int)))=true
  ·refine⟨.rt true,?_,?_⟩
   ·simp only[qAa,beq_iff_eq,decide_eq_true_eq] at h8;rw[h8.1,decide_eq_true h8.2];rfl
   ·unfold wB;rw[h8];rfl
  ·rw[qCu] at h8;obtain⟨f0,hf1,hf2,hf3⟩:∃f0:Nat,aij op n i=(f0:Int)∧f0≤257∧((cond (op==41) (cond (decide (8<(n:Int))) (some (.rt true)) ((YK 1 n).bind fun(x2:Int)=>some (.nx x2))) (cond (op==42) (some (.nx (IntKind.wrap .i64 ((n:Int)+1)))) (((cond (op==44) (some (op==44)) (some (op==45))):Option Bool).bind fun(s5:Bool)=>(cond s5 (some (.nx (IntKind.wrap .i64 ((n:Int) - (i:Int))))) (some (.nx (n:Int))))))):Option (LR Int Bool))=some (.nx (f0:Int)):=by
    rcases ho with rfl | rfl | rfl | rfl | rfl
    ·have h9:decide (8<(n:Int))=false:=h8;have h9':n≤8:=by have:=of_decide_eq_false h9;omega
     have hp:=asM h9';have e:YK 1 (n:Int)=some ((2^n:Nat):Int):=by
      unfold YK;rw[if_pos ⟨by omega,by omega⟩,qBm,Int.one_mul,wrap64]
      ·congr 1
      ·have:((2^n:Nat):Int)=(2:Int)^n:=by norm_cast
       omega
      ·have:((2^n:Nat):Int)=(2:Int)^n:=by norm_cast
       omega
     refine⟨2^n,?_,by omega,?_⟩
     ·show(2:Int)^(n:Int).toNat=_;rw[qBm];norm_cast
     ·rw[h9,e];rfl
    ·exact⟨n+1,by show(n:Int)+1=_;omega,by omega,by
      show some (LR.nx (IntKind.wrap .i64 ((n:Int)+1)))=_;rw[wrap64 (by omega) (by omega)];rfl⟩
    ·exact⟨n,rfl,by omega,rfl⟩
    ·have:=hmn (by omega);exact⟨n - i,by show(n:Int) - i=_;omega,by omega,by
      show some (LR.nx (IntKind.wrap .i64 ((n:Int) - i)))=_;rw[wrap64 (by omega) (by omega)];congr 2;omega⟩
    ·have:=hmn (by omega);exact⟨n - i,by show(n:Int) - i=_;omega,by omega,by
      show some (LR.nx (IntKind.wrap .i64 ((n:Int) - i)))=_;rw[wrap64 (by omega) (by omega)];congr 2;omega⟩
   rw[hf3];unfold wB;rw[h8,hf1];simp only[qAb,cond_false,LR.el];by_cases h0:f0=0
   ·subst h0;exact⟨.rt false,rfl,rfl⟩
   ·rw[show((f0:Int)==0)=false by simpa using h0];have hc:(c:Int)*(f0:Int)=((c*f0:Nat):Int):=by norm_cast
    have hcb:c*f0≤256*257:=qDc h2 hf2;have hc1:1≤c*f0:=Nat.mul_pos h1 (by omega);rw[hc,wrap64 (by omega) (by omega)];simp only[cond_false];by_cases hb:256<c*f0
    ·rw[decide_eq_true (by omega)];refine⟨.rt true,?_,rfl⟩;rcases ho with rfl | rfl | rfl | rfl | rfl
     ·rfl
     ·rfl
     ·have:(f0:Int)=n:=hf1.symm;simp only[cond_true];rw[decide_eq_true (by omega)];rfl
     ·rfl
     ·rfl
    ·rw[decide_eq_false (by omega)];simp only[cond_false,qAb];exact ih (i+1) (c*f0) (by omega) hc1 (by omega) j (by omega)
theorem atr{op:Int}(ho:op=41∨op=42∨op=43∨op=44∨op=45){m n:Nat}(hn:n≤256)(hm:m≤256):Ev (fun f=>Bh f op m n) (!yF op m n&&wB op n m 0 1):=by
 refine⟨m+1,fun f hf=>?_⟩;show Bh f op m n=_;unfold Bh;rw[ahm];cases hN:yF op m n with
 | true=>rfl
 | false=>
  obtain⟨r,h1,h2⟩:=au4 f ho hn hm (fun h=>by
   unfold yF at hN;cases hq:(op==45&&(m:Int)!=n) with
   | true=>rw[hq] at hN;cases hN
   | false=>
    rw[hq,decide_eq_true h] at hN;have:=of_decide_eq_false (show decide ((n:Int)<m)=false by simpa using hN);omega) m 0 1 (by omega) (by omega) (by omega) f hf
  grind
theorem vK{α β:Type}(g:α→List β)(m:Nat):∀(l:List α),(∀x∈l,(g x).length≤m)→(l.flatMap g).length≤l.length*m
 | [],_=>by simp
 | x::l,h=>by
  have h1:=h x (by simp);have h2:=vK g m l fun y hy=>h y (by simp[hy]);rw[qBb,qAf,qAm,Nat.succ_mul];omega
def Ba(op:Int)(n:Nat):Nat:=cond (op==41) (2^n) (cond (op==42) (n+1) n)
theorem aeo(op:Int)(a b:List Val):∀(xs l:List Val),(lN op a b xs l).length≤Ba op b.length^xs.length
 | [],l=>by
  unfold lN;cases zX op a b l<;>simp
 | x::xs,l=>by
  have ih:=aeo op a b xs;unfold lN;rw[qAm,Nat.pow_succ,qBD];by_cases h1:op=41
  ·subst h1;have:(uW b).length=2^b.length:=by unfold uW;rw[adn];simp
   show((uW b).flatMap _).length≤2^b.length*_;rw[←this];exact vK _ _ _ fun im _=>ih _
  ·rw[show(op==41)=false by simpa using h1,cond_false,qAf];have h2:=vK (fun v=>cond (decide (44≤op)&&bG (qF l) v) [] (lN op a b xs (l++[dh x v]))) (Ba op b.length^xs.length) b fun v _=>by
    grind
   by_cases h3:op=42
   ·subst h3;have h4:=ih l;have e:Ba 42 b.length=b.length+1:=rfl;rw[e] at h2 h4⊢
    grind
   ·have e:Ba op b.length=b.length:=by unfold Ba;rw[show(op==41)=false by simpa using h1,show(op==42)=false by simpa using h3];rfl
    grind
theorem ad6{op:Int}(ho:op=41∨op=42∨op=43){n:Nat}:∀(k:Nat) (i:Int) (c:Nat),Ba op n≠0→c≤256→wB op n k i c=false→c*Ba op n^k≤256
 | 0,i,c,_,hc,_=>by simpa using hc
 | k+1,i,c,h0,hc,h=>by
  have hf:aij op n i=(Ba op n:Int):=by
   rcases ho with rfl | rfl | rfl
   ·show(2:Int)^(n:Int).toNat=((2^n:Nat):Int)
    grind
   ·rfl
   ·rfl
  unfold wB at h;rw[hf,show((Ba op n:Int)==0)=false by simpa using h0] at h;cases h8:(op==41&&decide (8<(n:Int))) with
  | true=>rw[h8] at h;cases h
  | false=>
   rw[h8] at h;rw[show(c:Int)*(Ba op n:Int)=((c*Ba op n:Nat):Int) by norm_cast] at h;cases hb:decide (256<((c*Ba op n:Nat):Int)) with
   | true=>rw[hb] at h;cases h
   | false=>
    rw[hb] at h;have:=of_decide_eq_false hb;have:=ad6 ho k (i+1) (c*Ba op n) h0 (by omega) h
    grind
def fct:Nat→Nat
 | 0=>1
 | k+1=>(k+1)*fct k
theorem ape{op:Int}(ho:op=44∨op=45){n:Nat}:∀(k i c:Nat),i+k≤n→c≤256→wB op n k i c=false→c*fct k≤256
 | 0,i,c,_,hc,_=>by simpa[fct] using hc
 | k+1,i,c,hi,hc,h=>by
  have hf:aij op n i=((n - i:Nat):Int):=by
   rcases ho with rfl | rfl
   ·show(n:Int) - i=_;omega
   ·show(n:Int) - i=_;omega
  unfold wB at h;rw[hf,show(((n - i:Nat):Int)==0)=false by simp;omega] at h;have h8:(op==41&&decide (8<(n:Int)))=false:=by rcases ho with rfl | rfl<;>rfl
  rw[h8] at h;rw[show(c:Int)*((n - i:Nat):Int)=((c*(n - i):Nat):Int) by norm_cast] at h;cases hb:decide (256<((c*(n - i):Nat):Int)) with
  | true=>rw[hb] at h;cases h
  | false=>
   rw[hb] at h;have:=of_decide_eq_false hb;have h3:=ape ho k (i+1) (c*(n - i)) (by omega) (by omega) h;have:c*((k+1)*fct k)≤c*((n - i)*fct k):=Nat.mul_le_mul_left _ (qAR _ (by omega));rw[Nat.mul_assoc] at h3;exact qAs this h3
theorem ar9:∀k,6≤k→720≤fct k
 | 0,h=>by omega
 | k+1,h=>by
  unfold fct;by_cases hk:6≤k
  ·have:=ar9 k hk
   grind
  ·have:k=5:=by omega
   subst this
   decide
theorem amW{op:Int}(ho:op=41∨op=42∨op=43∨op=44∨op=45){a b:List Val}(ha:a.length≤256)(hb:b.length≤256)(hN:yF op a.length b.length=false)(hM:wB op b.length a.length 0 1=false):Ba op b.length^a.length≤2199023255552:=by
 by_cases hlo:op=41∨op=42∨op=43
 ·by_cases h0:Ba op b.length=0
  ·rw[h0];cases a.length with
   | zero=>decide
   | succ k=>rw[Nat.zero_pow (by omega)];omega
  ·have:=ad6 hlo a.length 0 1 h0 (by omega) hM;omega
 ·have ho:op=44∨op=45:=by omega
  have hmn:a.length≤b.length:=by
   unfold yF at hN
   grind
  have h1:=ape ho a.length 0 1 (by omega) (by omega) hM;have h5:a.length≤5:=by
   rcases qDx a.length 6 with h | h
   ·omega
   ·have:=ar9 _ h;omega
  have e:Ba op b.length=b.length:=by rcases ho with rfl | rfl<;>rfl
  rw[e]
  calc b.length^a.length≤256^a.length:=Nat.pow_le_pow_left hb _
   _≤256^5:=qDa (by omega) h5
   _≤_:=by decide
theorem aAV{op:Int}(ho:op=41∨op=42∨op=43∨op=44∨op=45){a b:List Val}(ha:iT a)(hb:iT b)(h8:op=41→a≠[]→b.length≤8):∀(xs pre l out:List Val),a=pre++xs→nC l→l.length+8*xs.length≤100000→(out.length+(lN op a b xs l).length)*56≤140737488355328→
  Ev (fun n=>fT n pre.length l a op b out) (out++lN op a b xs l):=by
 intro xs
 induction xs with
 | nil=>
  intro pre l out hp hr hl hM;refine Ev.succ ?_;show Ev (fun n=>mq n _ (pre.length:Int) l a op b out) _;unfold mq;rw[show((pre.length:Int)==(a.length:Int))=true by rw[hp];simp];simp only[cond_true];simp only[qAK] at hl;unfold lN at hM⊢;refine Ev.bind (a:=out++cond (zX op a b l) [NZ l] []) ?_ (Ev.ret _);refine Ev.bind (ab3 op ha.1 hb.1 (yO ha) (yO hb) hr (by omega)) ?_;cases hB:zX op a b l with
  | false=>simp only[cond_false,qAr];exact Ev.ret _
  | true=>
   rw[hB] at hM;simp only[cond_true,qAm,qAK] at hM⊢;refine⟨0,fun n _=>?_⟩;unfold jw;rw[iB (by simp;omega),iB (by simpa using hM)];simp only[qAb,qAt,gF];congr 1;unfold upd;rw[qBm,qCR _ _ (qAd _),qCX];rfl
 | cons x xs ih=>
  intro pre l out hp hr hl hM;have hx:idx a (pre.length:Int)=some x:=(eD hp).2;have hlt:((pre.length:Int)==(a.length:Int))=false:=by rw[hp];simp;omega
  have hpl:pre.length≤256:=by have:=ha.2;rw[hp] at this;simp at this;omega
  have hw:IntKind.wrap .i64 ((pre.length:Int)+1)=((pre++[x]).length:Int):=by rw[wrap64 (by omega) (by omega)];simp
  have hp':a=(pre++[x])++xs:=by simp[hp]
  simp only[qAm] at hl;have hpair:∀(m:List Val) (vs:List Val),nC m→nC (m++vs.map (dh x)):=by
   intro m vs hm p hp;rcases qAn.1 hp with hp | hp
   ·exact hm p hp
   ·obtain⟨v,_,rfl⟩:=qAA.1 hp;exact⟨x,v,rfl⟩
  refine Ev.succ ?_;show Ev (fun n=>mq n (fun p0 p1 p2 p3 p4 p5=>fT n p0 p1 p2 p3 p4 p5) (pre.length:Int) l a op b out) _;unfold mq;rw[hlt];simp only[cond_false];unfold lN at hM⊢;by_cases h41:op=41
  ·subst h41;have hb8:=h8 rfl (by rw[hp];simp);simp only[show((41:Int)==41)=true from rfl,cond_true] at hM⊢;refine Ev.bind (afZ hb8) ?_;have hlen:∀im∈uW b,im.length≤8:=by
    have key:∀(q:List Val) (os:List (List Val)) (k:Nat),(∀r∈os,r.length≤k)→∀r∈q.foldl (fun out x=>out++out.map fun r=>r++[x]) os,r.length≤k+q.length:=by
     intro q
     induction q with
     | nil=>intro os k h r hr;simpa using h r hr
     | cons y q ihq=>
      intro os k h r hr;rw[qBl] at hr;have:=ihq (os++os.map fun r=>r++[y]) (k+1) (fun r hr=>by
       rcases qAn.1 hr with hr | hr
       ·have:=h r hr;omega
       ·obtain⟨z,hz,rfl⟩:=qAA.1 hr;have:=h z hz;simp;omega) r hr
      simp only[qAm];omega
    intro im him;have:=key b [[]] 0 (by simp) im him;omega
   have h1:=xJ (ρ:=List Val) (uW b) (fun n=>rF n (fun p0 p1 p2 p3 p4 p5=>fT n p0 p1 p2 p3 p4 p5) (pre.length:Int) l a 41 b (uW b)) (fun i s=>(i,s)) (fun im=>lN 41 a b xs (l++im.map (dh x))) _ hM (fun n rec s=>by unfold rF;rw[at_end];rfl) (fun p2 im s2 s e hbd=>by
    have him:=hlen im (by simp[e]);obtain⟨N,h1⟩:=ih (pre++[x]) (l++im.map (dh x)) s hp' (hpair l im hr) (by simp;omega) hbd;obtain⟨N2,h2⟩:=xJ (ρ:=List Val) im (fun n=>rG n (fun p0 p1 p2 p3 p4 p5=>fT n p0 p1 p2 p3 p4 p5) (pre.length:Int) a im) (fun i s=>(s,i)) (fun v=>[dh x v]) 200000 (by omega) (fun n rec s=>by unfold rG;rw[at_end];rfl) (fun p3 v s3 s e3 hbd=>⟨0,fun n hn rec=>by
     unfold rG;rw[(eD e3).1];simp only[cond_true,(eD e3).2,qAb,hx];rw[iB (by simpa using hbd)];rfl⟩) (s0:=l) (by rw[flatMap_one];simp;omega)
    rw[flatMap_one] at h2;refine⟨N+N2,fun n hn rec=>?_⟩;have h2:HV n (fun p0 p1 p2 p3 p4 p5=>fT n p0 p1 p2 p3 p4 p5) (pre.length:Int) a im n (l,0)=_:=h2 n (by omega);have h1:fT n _ _ _ _ _ _=_:=h1 n (by omega);unfold rF jf;rw[(eD e).1];simp only[cond_true,(eD e).2,qAb];rw[iB (by simp;omega)];simp only[qAb,qAt,h2,LR.el];rw[hw,h1];rfl) (s0:=out) (qAd _)
   exact Ev.bind h1 (Ev.ret _)
  ·rw[show(op==41)=false by simpa using h41] at hM⊢;simp only[cond_false] at hM⊢;refine Ev.bind (a:=out++cond (op==42) (lN op a b xs l) []) ?_ ?_
   ·cases h42:(op==42) with
    | false=>simp only[cond_false,qAr];exact Ev.ret _
    | true=>
     rw[h42] at hM;simp only[cond_true,qAf] at hM⊢;rw[hw];exact Ev.bind (ih (pre++[x]) l out hp' hr (by omega) (by omega)) (Ev.ret _)
   ·rw[←qAo];have hM':((out++cond (op==42) (lN op a b xs l) []).length+(b.flatMap fun v=>cond (decide (44≤op)&&bG (qF l) v) [] (lN op a b xs (l++[dh x v]))).length)*56≤140737488355328:=by
     simp only[qAf] at hM⊢;omega
    have h1:=xJ (ρ:=List Val) b (fun n=>nD n (fun p0 p1 p2 p3 p4 p5=>fT n p0 p1 p2 p3 p4 p5) (pre.length:Int) l a op b) (fun i s=>(i,s)) (fun v=>cond (decide (44≤op)&&bG (qF l) v) [] (lN op a b xs (l++[dh x v]))) _ hM' (fun n rec s=>by unfold nD;rw[at_end];rfl) (fun p2 v s2 s e hbd=>by
     obtain⟨N3,h3⟩:Ev (fun n=>(((cond (decide (44≤op)) ((o8 n l).bind fun(x18:List Val)=>((eU n x18 v).bind fun(x19:Bool)=>some x19)) (some false)):Option Bool))) (decide (44≤op)&&bG (qF l) v):=by
      cases decide (44≤op) with
      | false=>exact Ev.ret _
      | true=>
       simp only[cond_true,qAz];refine Ev.bind (Ng hr (by omega)) (Ev.bind (Gr (iN _) ?_ v) (Ev.ret _));have:=lD (l.map dH);simp only[qAh] at this;show(sortV _).length≤_;omega
     cases hq:(decide (44≤op)&&bG (qF l) v) with
     | true=>
      refine⟨N3,fun n hn rec=>?_⟩;have h3:=h3 n hn;simp only[hq] at h3;unfold nD;rw[(eD e).1];simp only[cond_true,(eD e).2,qAb,h3,qAr]
     | false=>
      rw[hq] at hbd;obtain⟨N,h1⟩:=ih (pre++[x]) (l++[dh x v]) s hp' (hpair l [v] hr) (by simp;omega) hbd;refine⟨N+N3,fun n hn rec=>?_⟩;have h3:=h3 n (by omega);simp only[hq] at h3;have h1:fT n _ _ _ _ _ _=_:=h1 n (by omega);unfold nD jf;rw[(eD e).1];simp only[cond_true,cond_false,(eD e).2,qAb,h3];rw[iB (by simp;omega)];simp only[qAb,qAt,hx];rw[iB (by simp;omega)];simp only[qAb];rw[hw,show(Val.mk 4 0 [] [x,v])=dh x v from rfl,h1];rfl) (s0:=out++cond (op==42) (lN op a b xs l) []) (qAd _)
    exact Ev.bind h1 (Ev.ret _)
def pzl(r:Uk):PZ (List Val) Unit:=match r with | .ok l=>.ok l | .er e=>.er e ()
theorem amG{op:Int}(ho:op=41∨op=42∨op=43∨op=44∨op=45){a b:List Val}(ha:iT a)(hb:iT b):Ev (fun n=>BL n op a b) (pzl (I5 op a b)):=by
 unfold BL I5;refine Ev.bind (atr ho hb.2 ha.2) ?_;cases hN:yF op a.length b.length with
 | true=>
  refine⟨0,fun n _=>?_⟩;simp only[ahm,hN];rfl
 | false=>
  cases hM:wB op b.length a.length 0 1 with
  | true=>exact Ev.ret _
  | false=>
   have h1:=amW ho ha.2 hb.2 hN hM;have h2:=aeo op a b a [];have h3:=aAV ho ha hb (fun e hne=>by
    subst e;cases a with
    | nil=>exact absurd rfl hne
    | cons x a=>
     unfold wB at hM;cases h8:decide (8<(b.length:Int)) with
     | true=>rw[h8] at hM;cases hM
     | false=>have:=of_decide_eq_false h8;omega) a [] [] [] rfl (fun p hp=>by cases hp) (by have:=ha.2;simp;omega) (by simp;omega)
   simp only[ahm,hN,qAb];exact Ev.bind h3 (Ev.ret _)
def pz(r:VR):PZ Val Unit:=match r with | .ok v=>.ok v | .er e=>.er e ()
theorem Ev.pz{f:Nat→Option (PZ Val Unit)}{r:VR}(h:Ev f (pz r)):Ev (fun n=>(f n).bind (PZ.el (fun x=>some (.ok x)) (fun e _=>some (.er e ())))) (Abs.pz r):=by
 refine Ev.bind h ?_;cases r<;>exact Ev.ret _
theorem Ev.cnd{α β:Type}(P:β→α){b:Bool}{f g:Nat→Option α}{x y:β}(h1:b=true→Ev f (P x))(h2:b=false→Ev g (P y)):Ev (fun n=>cond b (f n) (g n)) (P (cond b x y)):=by
 cases b
 ·grind
 grind
theorem int_eq(n:Nat)(x:Int):iF n x=some (pz (wP x)):=by
 unfold iF wP atZ;cases decide (1000000000<x)<;>cases decide (x< -1000000000)<;>rfl
theorem KV(x:Int):Ev (fun n=>iF n x) (pz (wP x)):=Ev.of fun n=>int_eq n x
theorem Bn(b:Bool):Ev (fun n=>bB n b) (gH b):=by cases b<;>exact Ev.ret _
def QB(x:Int):Prop:= -1000000000≤x∧x≤1000000000
theorem aG2{a b:Int}(ha:QB a)(hb:QB b): -1000000000000000000≤a*b∧a*b≤1000000000000000000:=by
 have h1:a.natAbs≤1000000000:=by have:=ha.1;have:=ha.2;omega
 have h2:b.natAbs≤1000000000:=by have:=hb.1;have:=hb.2;omega
 have h3:(a*b).natAbs≤1000000000*1000000000:=by rw[Int.natAbs_mul];exact qDc h1 h2
 omega
theorem azp{op a b:Int}(ha:QB a)(hb:QB b):Ev (fun n=>F4 n op a b) (pz (aoe op a b)):=by
 have a1:=ha.1;have a2:=ha.2;have b1:=hb.1;have b2:=hb.2;refine Ev.cnd pz (fun _=>?_) fun _=>Ev.cnd pz (fun _=>?_) fun _=>Ev.cnd pz (fun _=>?_) fun _=>Ev.cnd pz (fun _=>?_) fun _=>Ev.cnd pz (fun _=>Ev.cnd pz (fun _=>Ev.ret _) fun h=>?_) fun _=>?_
 ·rw[Int.zero_sub,wrap64 (by omega) (by omega)];exact Ev.pz (KV _)
 ·rw[wrap64 (by omega) (by omega)];exact Ev.pz (KV _)
 ·rw[wrap64 (by omega) (by omega)];exact Ev.pz (KV _)
 ·have:=aG2 ha hb;rw[wrap64 (by omega) (by omega)];exact Ev.pz (KV _)
 ·have hz:¬b=0:=by simpa using h
  have hd:(Int.tdiv a b).natAbs≤1000000000:=by
   rw[Int.natAbs_tdiv];exact qAs (Nat.div_le_self a.natAbs b.natAbs) (by omega)
  refine Ev.bind (a:=Int.tdiv a b) (Ev.of fun _=>?_) (Ev.pz (KV _));unfold amO;rw[if_neg hz,wrap64 (by omega) (by omega)]
 ·refine Ev.bind (a:=decide (a<0) ||decide (b<1)) ?_ (Ev.cnd pz (fun _=>Ev.ret _) fun h=>?_)
  ·cases decide (a<0)<;>exact Ev.ret _
  ·have hz:¬b=0:=by rw[qBv] at h;have:=of_decide_eq_false h.2;omega
   refine Ev.bind (a:=Int.tmod a b) (Ev.of fun _=>?_) (Ev.pz (KV _));unfold adK
   grind
theorem aoJ{l:List Val}(hl:l.length*56≤140737488355328):Ev (fun n=>yN n l) (pz (pX l)):=by
 unfold yN jw pX;rw[iB (by simpa using hl)];exact Ev.cnd pz (fun _=>Ev.ret _) fun _=>Ev.ret _
def amb(n:Nat):LR (List Val) (PZ Val Unit)→Option (PZ Val Unit):=LR.el (fun s1=>((yN n s1).bind (PZ.el (fun x1=>some (.ok x1)) (fun e1 _=>some (.er e1 ()))))) (fun r=>some r)
def EvS(f:Nat→Option (LR (List Val) (PZ Val Unit)))(r:Uk):Prop:=Ev (fun n=>(f n).bind (amb n)) (pz (r.thn pX))
theorem EvS.cnd{b:Bool}{f g:Nat→Option (LR (List Val) (PZ Val Unit))}{x y:Uk}(h1:b=true→EvS f x)(h2:b=false→EvS g y):EvS (fun n=>cond b (f n) (g n)) (cond b x y):=by
 cases b
 ·grind
 grind
theorem EvS.er:EvS (fun _=>some (.rt (.er 11 ()))) (.er 11):=Ev.ret _
theorem EvS.of{F:Nat→Option (LR (List Val) (PZ Val Unit))}{l:List Val}(h:Ev F (.nx l))(hl:l.length*56≤140737488355328):EvS F (.ok l):=by
 have hk:Ev (fun n=>amb n (.nx l)) (pz (pX l)):=Ev.pz (aoJ hl);exact Ev.bind (g:=fun x n=>amb n x) h hk
theorem EvS.lp{f:Nat→Option (LR (List Val) (PZ Val Unit))}{l:List Val}(h:Ev f (.nx l))(hl:l.length≤1000000):EvS (fun n=>(f n).bind (LR.el (fun s=>some (.nx s)) (fun r=>some (.rt r)))) (.ok l):=EvS.of (Ev.bind h (Ev.ret _)) (by omega)
theorem EvS.ok{f:Nat→Option (List Val)}{l:List Val}(h:Ev f l)(hl:l.length≤1000000):EvS (fun n=>(f n).bind fun x=>some (.nx x)) (.ok l):=EvS.of (Ev.bind h (Ev.ret _)) (by omega)
theorem akL(a b:List Val)(h:a.length+b.length≤1000000):Ev (fun n=>oh n [a,b]) (a++b):=by
 refine⟨4,fun n hn=>?_⟩;obtain⟨j,rfl⟩:∃j,n=j+3:=⟨n - 3,by omega⟩;have h1:vM (j+3) [a,b] (j+3) (0,0)=some (.nx ((a.length:Int)+b.length)):=by
  show kN (j+3) [a,b] (kN (j+3) [a,b] (kN (j+3) [a,b] (vM (j+3) [a,b] j))) (0,0)=_;unfold kN;simp only[qAm,qAK,show decide ((0:Int)<((0+1+1:Nat):Int))=true from rfl,show idx [a,b] 0=some a from rfl,show idx [a,b] (0+1)=some b from rfl,qAb];rw[wrap64 (by omega) (by omega),decide_eq_false (by omega)];simp;rw[wrap64 (by omega) (by omega),decide_eq_false (by omega)]
  grind
 have h2:vF (j+3) [a,b] (j+3) ([],0)=some (.nx (a++b)):=by
  show kI (j+3) [a,b] (kI (j+3) [a,b] (kI (j+3) [a,b] (vF (j+3) [a,b] j))) ([],0)=_;unfold kI;simp only[show idx [a,b] 0=some a from rfl,show idx [a,b] (0+1)=some b from rfl,qAb];rw[iB (by simp;omega)];simp;rw[iB (by omega)];rfl
 unfold oh Dn
 grind
theorem ajZ(f:Nat)(b:Val)(hb:QB b.n):∀(k:Nat) (x:Int) (acc:List Val),QB x→x+k=b.n+1→(acc.length+k)≤1000000→∀j,k+1≤j→Pn f b j (acc,x)=some (.nx (acc++ints x k))
 | 0,x,acc,_,h,_,j,hj=>by
  obtain⟨j,rfl⟩:∃q,j=q+1:=⟨j - 1,by omega⟩;show lM f b _ _=_;unfold lM;rw[decide_eq_false (by simp;omega)];simp[ints]
 | k+1,x,acc,hx,h,hl,j,hj=>by
  obtain⟨j,rfl⟩:∃q,j=q+1:=⟨j - 1,by omega⟩;have x1:=hx.1;have x2:=hx.2;have b2:=hb.2;show lM f b (Pn f b j) _=_;unfold lM;rw[decide_eq_true (by simp;omega)];have hi:wP x=.ok (R9 x):=by
   unfold wP atZ
   grind
  simp only[int_eq,hi,qAb,pz,PZ.el];rw[iB (by simp;omega)];simp;rw[wrap64 (by omega) (by omega)];cases k with
  | zero=>
   obtain⟨i,rfl⟩:∃q,j=q+1:=⟨j - 1,by omega⟩;show lM f b _ _=_;unfold lM;rw[decide_eq_false (by simp;omega)];rfl
  | succ k=>
   rw[ajZ f b hb (k+1) (x+1) (acc++[R9 x]) ⟨by omega,by omega⟩ (by omega) (by simp;omega) j (by omega)];simp[ints]
theorem an1:∀(k:Nat) (x:Int),(ints x k).length=k
 | 0,_=>rfl
 | k+1,x=>by rw[ints,qAm,an1 k]
theorem Cc(p:Val→Bool){l:List Val}(h:iT l):(l.filter p).length≤256:=qAs (qCQ p l) h.2
theorem nC.fil{l:List Val}(h:nC l)(p:Val→Bool):nC (l.filter p):=fun x hx=>h x (qAQ.1 hx).1
theorem VA{β:Type}{a b:List Val}(g:Val→List β)(ha:iT a)(hg:∀x∈a,(g x).length≤256):(a.flatMap g).length≤65536:=by
 have:=vK g 256 a hg;have h2:=qAR 256 ha.2;omega
theorem Ev.atq{f:Nat→Option Bool}{b:Bool}(h:Ev f b):Ev (fun n=>(f n).bind fun(x2:Bool)=>some (!x2)) (!b):=Ev.bind h (Ev.ret _)
theorem Ev.same{f:Nat→Option Bool}{b:Bool}(h:Ev f b):Ev (fun n=>(f n).bind fun(x2:Bool)=>some x2) b:=Ev.bind h (Ev.ret _)
theorem aBM(a b:Val)(ha:iT a.kids)(hb:iT b.kids):Ev (fun n=>aam n a b n (([]:List Val),0)) (.nx (a.kids.flatMap fun x=>b.kids.map (dh x))):=by
 have:=VA (b:=b.kids) (fun x=>b.kids.map (dh x)) ha (fun x _=>by simpa using hb.2);refine xJ (ρ:=PZ Val Unit) a.kids (fun n=>D7 n a b) (fun i s=>(s,i)) _ 1000000 (by omega) (fun n rec s=>by unfold D7;rw[at_end];rfl) (fun pre x suf s e hbd=>?_) (s0:=[]) (by simp only[qAK];omega);obtain⟨N,h⟩:=xJ (ρ:=PZ Val Unit) b.kids (fun n=>Ep n b x) (fun i s=>(s,i)) (fun y=>[dh x y]) _ hbd (fun n rec s=>by unfold Ep;rw[at_end];rfl) (fun p2 y s2 s e2 hbd=>⟨0,fun n hn rec=>by
  unfold Ep;rw[(eD e2).1];simp only[(eD e2).2,qAb];rw[iB (by simpa using hbd)];rfl⟩) (s0:=s) (by rw[flatMap_one];exact qAd _)
 rw[flatMap_one] at h;refine⟨N,fun n hn rec=>?_⟩;have h:Z7 n b x n (s,0)=_:=h n hn;unfold D7;rw[(eD e).1];simp only[cond_true,(eD e).2,qAb,h]
theorem aA7(a b:Val)(ha:iT a.kids)(hb:iT b.kids)(ra:nC a.kids)(rb:nC b.kids):Ev (fun n=>YE n a b n (([]:List Val),0)) (.nx (a.kids.flatMap fun p=>b.kids.flatMap fun q=>cond (qp (dH p) (bK q)) [dh (bK p) (dH q)] [])):=by
 have h1:∀p,(b.kids.flatMap fun q=>cond (qp (dH p) (bK q)) [dh (bK p) (dH q)] []).length≤256:=fun p=>by
  have:=vK (fun q=>cond (qp (dH p) (bK q)) [dh (bK p) (dH q)] []) 1 b.kids (fun q _=>by cases qp (dH p) (bK q)<;>simp);have:=hb.2;omega
 have:=VA (b:=b.kids) (fun p=>b.kids.flatMap fun q=>cond (qp (dH p) (bK q)) [dh (bK p) (dH q)] []) ha (fun x _=>h1 x);refine xJ (ρ:=PZ Val Unit) a.kids (fun n=>Ee n a b) (fun i s=>(s,i)) _ 1000000 (by omega) (fun n rec s=>by unfold Ee;rw[at_end];rfl) (fun pre x suf s e hbd=>?_) (s0:=[]) (by simp only[qAK];omega);have hx:x∈a.kids:=by simp[e]
 obtain⟨N,h⟩:=xJ (ρ:=PZ Val Unit) b.kids (fun n=>Eo n b x) (fun i s=>(s,i)) (fun q=>cond (qp (dH x) (bK q)) [dh (bK x) (dH q)] []) _ hbd (fun n rec s=>by unfold Eo;rw[at_end];rfl) (fun p2 y s2 s e2 hbd=>by
  have hy:y∈b.kids:=by simp[e2]
  obtain⟨N,h⟩:=Co (dH x) (bK y);refine⟨N,fun n hn rec=>?_⟩;have h:dF n (dH x) (bK y)=_:=h n hn;unfold Eo;rw[(eD e2).1];simp only[(eD e2).2,qAb,ra.fst hx,ra.snd hx,rb.fst hy,rb.snd hy,h];unfold qp at hbd⊢;cases hq:(bH (dH x) (bK y)==0) with
  | false=>simp
  | true=>
   rw[hq] at hbd;rw[iB (by simpa using hbd)];rfl) (s0:=s) (qAd _)
 refine⟨N,fun n hn rec=>?_⟩;have h:Yv n b x n (s,0)=_:=h n hn;unfold Ee;rw[(eD e).1];simp only[cond_true,(eD e).2,qAb,h]
theorem aBX(x:List (List Val))(hx:x.length≤1000000):Ev (fun n=>YQ n x n (([]:List Val),0)) (.nx (x.map mkSet)):=by
 have h:=xJ (ρ:=PZ Val Unit) x (fun n=>Eh n x) (fun i s=>(s,i)) (fun y=>[mkSet y]) 1000000 (by omega) (fun n rec s=>by unfold Eh;rw[at_end];rfl) (fun p2 y s2 s e2 hbd=>⟨0,fun n hn rec=>by
  unfold Eh;rw[(eD e2).1];simp only[(eD e2).2,qAb];rw[iB (by simpa using hbd)];rfl⟩) (s0:=[]) (by rw[flatMap_one];simpa using hx)
 rwa[flatMap_one] at h
theorem aDp(a:Val)(ha:iT a.kids)(ra:nC a.kids):Ev (fun n=>Y1 n a n (([]:List Val),0)) (.nx (a.kids.map fun p=>dh (dH p) (bK p))):=by
 have h:=xJ (ρ:=PZ Val Unit) a.kids (fun n=>Em n a) (fun i s=>(s,i)) (fun p=>[dh (dH p) (bK p)]) 1000000 (by omega) (fun n rec s=>by unfold Em;rw[at_end];rfl) (fun p2 y s2 s e2 hbd=>⟨0,fun n hn rec=>by
  unfold Em;rw[(eD e2).1];simp only[(eD e2).2,qAb,ra.fst (show y∈a.kids by simp[e2]),ra.snd (show y∈a.kids by simp[e2])];rw[iB (by simpa using hbd)];rfl⟩) (s0:=[]) (by rw[flatMap_one];have:=ha.2;simp;omega)
 rwa[flatMap_one] at h
structure SetsOk(op:Int)(a b:Val):Prop where
 n:op=30→QB a.n∧QB b.n
 s:op≠30→iT a.kids∧iT b.kids
 a:(35≤op∧op≤36∨39≤op∧op≤40∨50≤op∧op≤54)→nC a.kids
 b:35≤op∧op≤38→nC b.kids
theorem aBq{op:Int}{a b:Val}(ho:30≤op∧op≤53∧¬(47≤op∧op≤49))(h:SetsOk op a b):Ev (fun n=>PV n op a b) (pz ((Gl op a b).thn pX)):=by
 unfold PV;show EvS (fun n=>_) (Gl op a b);unfold Gl;refine EvS.cnd (fun e=>?_) fun h30=>?_
 ·obtain⟨ha,hb⟩:=h.n (eq_of_beq e);have a1:=ha.1;have a2:=ha.2;have b1:=hb.1;have b2:=hb.2;rw[wrap64 (by omega) (by omega)];refine EvS.cnd (fun _=>EvS.er) fun hd=>?_;have hd:=of_decide_eq_false hd;refine EvS.lp ?_ (by rw[an1];omega);by_cases hle:a.n≤b.n
  ·exact⟨(b.n+1 - a.n).toNat+1,fun n hn=>ajZ n b hb (b.n+1 - a.n).toNat a.n [] ha (by omega) (by simp;omega) n hn⟩
  ·refine⟨1,fun n hn=>?_⟩;obtain⟨j,rfl⟩:∃q,n=q+1:=⟨n - 1,by omega⟩;show lM (j+1) b _ _=_;unfold lM;rw[decide_eq_false hle,show(b.n+1 - a.n).toNat=0 by omega];rfl
 have h30:op≠30:=by simpa using h30
 obtain⟨ha,hb⟩:=h.s h30;have la:=ha.2;have lb:=hb.2;refine EvS.cnd (fun e=>EvS.ok (akL _ _ (by omega)) (by simp;omega)) fun h31=>?_;refine EvS.cnd (fun e=>EvS.ok (BU a.kids (fun n x=>vN n x b.kids) (bG b.kids) (fun x _=>hb.has x) (yO ha)) (by have:=Cc (bG b.kids) ha;omega)) fun h32=>?_;refine EvS.cnd (fun e=>EvS.ok (BU a.kids (fun n x=>RP n x b.kids) _ (fun x _=>Ev.atq (hb.has x)) (yO ha)) (qAs (Cc _ ha) (by omega))) fun h33=>?_;refine EvS.cnd (fun e=>?_) fun h34=>?_
 ·have hm:a.kids.length*b.kids.length≤256*256:=qDc la lb;rw[show(a.kids.length:Int)*(b.kids.length:Int)=((a.kids.length*b.kids.length:Nat):Int) by norm_cast,wrap64 (by omega) (by omega)];exact EvS.cnd (fun _=>EvS.er) fun _=>EvS.lp (aBM a b ha hb) (qAs (VA (b:=b.kids) _ ha (fun x _=>by simpa using hb.2)) (by omega))
 refine EvS.cnd (fun e=>?_) fun Xc=>?_
 ·have e:=eq_of_beq e;have ra:=h.a (by omega);have hf:iT (nE b.kids):=⟨iN _,by have:=lD (b.kids.map bK);unfold nE;simp at this;omega⟩;refine EvS.of (Ev.bind (Ya (h.b (by omega)) (yO hb)) (Ev.bind (BU a.kids (fun n x=>JF n x (nE b.kids)) (fun x=>!bG (nE b.kids) (bK x)) (fun x hx=>?_) (yO ha)) (Ev.bind (akL _ _ ?_) (Ev.ret _)))) ?_
  ·unfold JF;rw[ra.fst hx];exact Ev.atq (Gr hf.1 (yO hf) _)
  ·have:=Cc (fun x=>!bG (nE b.kids) (bK x)) ha;omega
  ·have:=Cc (fun x=>!bG (nE b.kids) (bK x)) ha;rw[qAf];omega
 refine EvS.cnd (fun e=>?_) fun h36=>?_
 ·have e:=eq_of_beq e;refine EvS.lp (aA7 a b ha hb (h.a (by omega)) (h.b (by omega))) (qAs (VA (b:=b.kids) _ ha (fun p _=>?_)) (by omega));have:=vK (fun q=>cond (qp (dH p) (bK q)) [dh (bK p) (dH q)] []) 1 b.kids (fun q _=>by cases qp (dH p) (bK q)<;>simp);omega
 refine EvS.cnd (fun e=>EvS.ok (BU b.kids (fun n x=>JD n x a.kids) _ (fun x hx=>?_) (yO hb)) (qAs (Cc _ hb) (by omega))) fun h37=>?_
 ·unfold JD;rw[(h.b (by have:=eq_of_beq e;omega)).fst hx];exact Ev.same (ha.has _)
 refine EvS.cnd (fun e=>EvS.ok (BU b.kids (fun n x=>JI n x a.kids) _ (fun x hx=>?_) (yO hb)) (qAs (Cc _ hb) (by omega))) fun h38=>?_
 ·unfold JI;rw[(h.b (by have:=eq_of_beq e;omega)).fst hx];exact Ev.atq (ha.has _)
 refine EvS.cnd (fun e=>EvS.ok (BU a.kids (fun n x=>JE n x b.kids) _ (fun x hx=>?_) (yO ha)) (qAs (Cc _ ha) (by omega))) fun h39=>?_
 ·unfold JE;rw[(h.a (by have:=eq_of_beq e;omega)).snd hx];exact Ev.same (hb.has _)
 refine EvS.cnd (fun e=>EvS.ok (BU a.kids (fun n x=>JY n x b.kids) _ (fun x hx=>?_) (yO ha)) (qAs (Cc _ ha) (by omega))) fun h40=>?_
 ·unfold JY;rw[(h.a (by have:=eq_of_beq e;omega)).snd hx];exact Ev.atq (hb.has _)
 refine EvS.cnd (fun e=>EvS.cnd (fun _=>EvS.er) fun h8=>?_) fun h46=>?_
 ·have h8:=of_decide_eq_false h8;have hl:(uW a.kids).length≤256:=by
   unfold uW;rw[adn];have:=(asM (show a.kids.length≤8 by omega)).2;simpa using this
  exact EvS.of (Ev.bind (afZ (by omega)) (Ev.bind (aBX _ (by omega)) (Ev.ret _))) (by simp only[qAh];omega)
 refine EvS.cnd (fun e=>EvS.ok (Ya (h.a (by have:=eq_of_beq e;omega)) (yO ha)) ?_) fun h50=>?_
 ·have:=lD (a.kids.map bK);unfold nE;simp at this;omega
 refine EvS.cnd (fun e=>EvS.ok (Ng (h.a (by have:=eq_of_beq e;omega)) (yO ha)) ?_) fun h51=>?_
 ·have:=lD (a.kids.map dH);unfold qF;simp at this;omega
 refine EvS.cnd (fun e=>EvS.lp (aDp a ha (h.a (by have:=eq_of_beq e;omega))) (by simp;omega)) fun h52=>?_;refine EvS.cnd (fun e=>?_) fun h53=>?_
 ·have ra:=h.a (by have:=eq_of_beq e;omega);have hq:=Cc (fun p=>bG b.kids (bK p)) ha;refine EvS.of (Ev.bind (BU a.kids (fun n x=>J9 n x b.kids) (fun p=>bG b.kids (bK p)) (fun x hx=>?_) (yO ha)) (Ev.bind (Ng (ra.fil _) (by omega)) (Ev.ret _))) ?_
  ·unfold J9;rw[ra.fst hx];exact Ev.same (hb.has _)
  ·have:=lD ((a.kids.filter (fun p=>bG b.kids (bK p))).map dH);unfold qF;simp only[qAh] at this;omega
 have hr:op=41∨op=42∨op=43∨op=44∨op=45:=by
  simp only[beq_eq_false_iff_ne,ne_eq] at *;omega
 have hr1:=amG hr ha hb;have hlen:(I5 op a.kids b.kids)=.er 11∨∃l,I5 op a.kids b.kids=.ok l∧l.length≤2199023255552:=by
  unfold I5;cases hN:yF op a.kids.length b.kids.length with
  | true=>exact .inr ⟨[],rfl,by simp⟩
  | false=>
   cases hM:wB op b.kids.length a.kids.length 0 1 with
   | true=>exact .inl rfl
   | false=>exact .inr ⟨_,rfl,qAs (aeo op a.kids b.kids a.kids []) (amW hr la lb hN hM)⟩
 rcases hlen with e | ⟨l,e,hl⟩
 ·rw[e] at hr1⊢;exact Ev.bind (g:=fun x n=>amb n x) (Ev.bind hr1 (Ev.ret _)) (Ev.ret _)
 ·rw[e] at hr1⊢;exact EvS.of (Ev.bind hr1 (Ev.ret _)) (by omega)
theorem fI{op:Int}{a b:Val}(ho:op≤54∧op≠28∧op≠29)(hn:21≤op∧op≤26→QB a.n∧QB b.n)(hs:47≤op∧op≤49∨op=54→iT a.kids)(hr:op=54→nC a.kids)(hl:op≤20→op≤15)(h0:op≤20→op=3∨op=7∨10≤op)
  (h:30≤op∧op≤53∧¬(47≤op∧op≤49)→SetsOk op a b):Ev (fun n=>nK n op a b) (pz (DY op a b)):=by
 have T:∀c:Bool,Ev (fun n=>(bB n c).bind fun(x1:Val)=>some (PZ.ok (ζ:=Unit) x1)) (pz (.ok (gH c))):=fun c=>Ev.bind (Bn c) (Ev.ret _);have C:∀d:Int→Bool,Ev (fun n=>(dF n a b).bind fun(x3:Int)=>((bB n (d x3)).bind fun(x4:Val)=>some (PZ.ok (ζ:=Unit) x4))) (pz (.ok (gH (d (bH a b))))):=fun d=>Ev.bind (Co a b) (T _);unfold nK DY;refine Ev.cnd pz (fun _=>T _) fun e3=>Ev.cnd pz (fun _=>T _) fun e7=>Ev.cnd pz (fun _=>C (fun x=>x==0)) fun e10=>Ev.cnd pz (fun _=>C (fun x=>x !=0)) fun e11=>Ev.cnd pz (fun _=>T _) fun e12=>Ev.cnd pz (fun _=>T _) fun e13=>Ev.cnd pz (fun _=>T _) fun e14=>Ev.cnd pz (fun _=>T _) fun e15=>Ev.cnd pz (fun _=>Ev.ret _) fun e27=>Ev.cnd pz (fun e=>?_) fun e54=>Ev.cnd pz (fun e=>?_) fun e26=>Ev.cnd pz (fun _=>Ev.pz (KV _)) fun e47=>?_
 ·have e:=eq_of_beq e;have sa:=hs (.inr e);have ra:=hr e;have hf:=BU a.kids (fun n x=>FX n x b.kind b.n b.name b.kids) (fun p=>qp (bK p) b) (fun x hx=>by
   unfold FX;rw[ra.fst hx];have eb:Val.mk b.kind b.n b.name b.kids=b:=by cases b;rfl
   rw[eb];simp only[qAb];exact Ev.bind (Co _ _) (Ev.ret _)) (yO sa)
  refine Ev.bind hf ?_;unfold aiB;have rm:nC (a.kids.filter fun p=>qp (bK p) b):=ra.fil _
  match a.kids.filter (fun p=>qp (bK p) b),rm with
  | [],_=>exact Ev.ret _
  | [p],rm=>
   refine Ev.of fun n=>?_;simp only[show(([p].length:Int)!=1)=false from rfl,cond_false,KG,qAb,rm.snd (qBF ..)];rfl
  | p::q::r,_=>
   refine Ev.of fun n=>?_;simp only[show(((p::q::r).length:Int)!=1)=true by simp;omega,cond_true];rfl
 ·have h26:=of_decide_eq_true e;simp only[beq_eq_false_iff_ne,ne_eq] at *;obtain⟨ha,hb⟩:=hn (by omega);exact Ev.pz (azp ha hb)
 ·by_cases hm:op=48∨op=49
  ·refine Ev.of fun n=>?_;cases hk:a.kids with
   | nil=>rcases hm with rfl | rfl<;>rfl
   | cons x l=>
    have e:(((x::l).length:Int)==0)=false:=by simp;omega
    have hg:idx (x::l) (((x::l).length:Int) - 1)=(x::l).getLast?:=by
     unfold idx;rw[if_pos (by simp),List.getLast?_eq_getElem?];congr 1;omega
    rcases hm with rfl | rfl
    ·simp only[show((48:Int)==48)=true from rfl,e,cond_true,cond_false,qAb,KG];rfl
    ·rw[hg];cases hq:(x::l).getLast? with
     | none=>rw[List.getLast?_eq_none_iff] at hq;cases hq
     | some y=>simp only[show((49:Int)==48)=false from rfl,show((49:Int)==49)=true from rfl,e,cond_true,cond_false,qAb];rfl
  ·have h26:=of_decide_eq_false e26;simp only[beq_eq_false_iff_ne,ne_eq] at *;have h1:(op==48)=false:=by simpa using fun e=>hm (.inl e)
   have h2:(op==49)=false:=by simpa using fun e=>hm (.inr e)
   simp only[h1,h2,cond_false,qAb];exact Ev.pz (aBq (by omega) (h (by omega)))
inductive HT(env:Env):List Decl→Tm→Ty→Prop where
 | lit {sc nm m u} (op:Int) (h:op=1∨op=2):HT env sc (.mk op nm m u []) aV
 | int {sc nm m u} (h:0≤m∧m≤1000000000):HT env sc (.mk 19 nm m u []) bY
 | name {sc nm m u t} (h:wK env sc nm=some t):HT env sc (.mk 20 nm m u []) t
 | empty {sc nm m u} (h:Good u):HT env sc (.mk 29 nm m u []) (ak u)
 | not {sc nm m u x} (h:HT env sc x aV):HT env sc (.mk 3 nm m u [x]) aV
 | log {sc nm m u x y} (op:Int) (ho:op=4∨op=5∨op=6∨op=7) (h:HT env sc x aV) (k:HT env sc y aV):HT env sc (.mk op nm m u [x,y]) aV
 | qu {sc nm m u x y e} (op:Int) (ho:op=8∨op=9) (h:HT env sc x (ak e)) (k:HT env (⟨nm,e⟩::sc) y aV):HT env sc (.mk op nm m u [x,y]) aV
 | compr {sc nm m u x y e} (h:HT env sc x (ak e)) (k:HT env (⟨nm,e⟩::sc) y aV):HT env sc (.mk 55 nm m u [x,y]) (ak e)
 | fn {sc nm m u x y e t} (hg:Good t) (h:HT env sc x (ak e)) (k:HT env (⟨nm,e⟩::sc) y t):HT env sc (.mk 56 nm m u [x,y]) (ak (aK e t))
 | eq {sc nm m u x y t} (op:Int) (ho:op=10∨op=11) (hg:Good t) (h:HT env sc x t) (k:HT env sc y t):HT env sc (.mk op nm m u [x,y]) aV
 | ord {sc nm m u x y} (op:Int) (ho:op=12∨op=13∨op=14∨op=15) (h:HT env sc x bY) (k:HT env sc y bY):HT env sc (.mk op nm m u [x,y]) aV
 | inn {sc nm m u x y t} (op:Int) (ho:op=16∨op=17) (h:HT env sc x t) (k:HT env sc y (ak t)):HT env sc (.mk op nm m u [x,y]) aV
 | sub {sc nm m u x y t} (h:HT env sc x (ak t)) (k:HT env sc y (ak t)):HT env sc (.mk 18 nm m u [x,y]) aV
 | neg {sc nm m u x} (h:HT env sc x bY):HT env sc (.mk 21 nm m u [x]) bY
 | num {sc nm m u x y} (op:Int) (ho:op=22∨op=23∨op=24∨op=25∨op=26) (h:HT env sc x bY) (k:HT env sc y bY):HT env sc (.mk op nm m u [x,y]) bY
 | pair {sc nm m u x y a b} (ha:Good a) (hb:Good b) (h:HT env sc x a) (k:HT env sc y b):HT env sc (.mk 27 nm m u [x,y]) (aK a b)
 | set {sc nm m u ks a} (ha:Good a) (hn:ks≠[]) (h:∀t∈ks,HT env sc t a):HT env sc (.mk 28 nm m u ks) (ak a)
 | range {sc nm m u x y} (h:HT env sc x bY) (k:HT env sc y bY):HT env sc (.mk 30 nm m u [x,y]) (ak bY)
 | bin {sc nm m u x y e} (op:Int) (ho:op=31∨op=32∨op=33) (h:HT env sc x (ak e)) (k:HT env sc y (ak e)):HT env sc (.mk op nm m u [x,y]) (ak e)
 | prod {sc nm m u x y a b} (h:HT env sc x (ak a)) (k:HT env sc y (ak b)):HT env sc (.mk 34 nm m u [x,y]) (ak (aK a b))
 | over {sc nm m u x y a b} (h:HT env sc x (ak (aK a b))) (k:HT env sc y (ak (aK a b))):HT env sc (.mk 35 nm m u [x,y]) (ak (aK a b))
 | comp {sc nm m u x y a b c} (h:HT env sc x (ak (aK a b))) (k:HT env sc y (ak (aK b c))):HT env sc (.mk 36 nm m u [x,y]) (ak (aK a c))
 | dres {sc nm m u x y a b} (op:Int) (ho:op=37∨op=38) (h:HT env sc x (ak a)) (k:HT env sc y (ak (aK a b))):HT env sc (.mk op nm m u [x,y]) (ak (aK a b))
 | rres {sc nm m u x y a b} (op:Int) (ho:op=39∨op=40) (h:HT env sc x (ak (aK a b))) (k:HT env sc y (ak b)):HT env sc (.mk op nm m u [x,y]) (ak (aK a b))
 | fam {sc nm m u x y a b} (op:Int) (ho:op=41∨op=42∨op=43∨op=44∨op=45) (h:HT env sc x (ak a)) (k:HT env sc y (ak b)):HT env sc (.mk op nm m u [x,y]) (ak (ak (aK a b)))
 | pow {sc nm m u x a} (h:HT env sc x (ak a)):HT env sc (.mk 46 nm m u [x]) (ak (ak a))
 | card {sc nm m u x a} (h:HT env sc x (ak a)):HT env sc (.mk 47 nm m u [x]) bY
 | ext {sc nm m u x} (op:Int) (ho:op=48∨op=49) (h:HT env sc x (ak bY)):HT env sc (.mk op nm m u [x]) bY
 | dom {sc nm m u x a b} (h:HT env sc x (ak (aK a b))):HT env sc (.mk 50 nm m u [x]) (ak a)
 | ran {sc nm m u x a b} (h:HT env sc x (ak (aK a b))):HT env sc (.mk 51 nm m u [x]) (ak b)
 | inv {sc nm m u x a b} (h:HT env sc x (ak (aK a b))):HT env sc (.mk 52 nm m u [x]) (ak (aK b a))
 | image {sc nm m u x y a b} (h:HT env sc x (ak (aK a b))) (k:HT env sc y (ak a)):HT env sc (.mk 53 nm m u [x,y]) (ak b)
 | app {sc nm m u x y a b} (h:HT env sc x (ak (aK a b))) (k:HT env sc y a):HT env sc (.mk 54 nm m u [x,y]) b
theorem dJ{b:Bool}{t u:Ty}(h:aP b t=some u):b=true∧u=t:=by
 cases b
 ·cases h
 ·exact⟨rfl,(Option.some.inj h).symm⟩
theorem jK{α β:Type}{o:Option α}{f:α→Option β}{b:β}(h:o.bind f=some b):∃a,o=some a∧f a=some b:=by
 cases o with
 | none=>cases h
 | some a=>exact⟨a,rfl,h⟩
theorem NW{t:Ty}(h:Top t)(hk:(t.kind==2)=true):t=aV:=by
 rcases h with rfl | h
 ·rfl
 ·rw[ajx h] at hk;cases hk
theorem Jz{t:Ty}(h:Top t)(hk:(t.kind !=2)=true):Good t:=by
 rcases h with rfl | h
 ·cases hk
 ·exact h
theorem FC{t:Ty}(h:Top t)(hk:(t.kind==1)=true):t=bY:=by
 rcases h with rfl | h
 ·cases hk
 ·cases h<;>first | rfl | cases hk
theorem anz{t:Ty}(h:Top t)(hk:(aO t).isSome=true):∃e,t=ak e:=by
 rcases AL h with⟨e,rfl,_⟩ | ⟨_,h,_⟩
 ·grind
 grind
theorem ayd{t:Ty}(h:Top t)(hk:(dn t).isSome=true):∃a b,t=ak (aK a b):=by
 rcases akg h with⟨a,b,rfl,_⟩ | h
 ·grind
 grind
theorem abg{p:Ty→Bool}{a b:Ty}(h:[a,b].all p=true):p a=true∧p b=true:=by
 grind
theorem VY{env:Env}:∀(ts:List Tm) (sc:List Decl) (nm:Str) (i:Int) (l:List Ty),gZ env sc false nm i ts=.ok l→l.length=ts.length∧∀(k:Nat) t ty,ts[k]? =some t→l[k]? =some ty→gJ env sc t=.ok ty
 | [],sc,nm,i,l,h=>by
  simp only[gZ] at h
  grind
 | x::ts,sc,nm,i,l,h=>by
  simp only[gZ] at h;cases ht:gJ env sc x with
  | er e p=>rw[ht] at h;cases h
  | ok t0=>
   rw[ht] at h;simp only[tK,cond_false] at h;cases hr:gZ env sc false nm (i+1) ts with
   | er e p=>rw[hr] at h;cases h
   | ok l'=>
    rw[hr] at h;obtain⟨h1,h2⟩:=VY ts sc nm (i+1) l' hr
    grind
theorem ax1{env:Env}{sc:List Decl}{nm:Str}{x:Tm}{l:List Ty}(h:gZ env sc false nm 0 [x]=.ok l):∃a,l=[a]∧gJ env sc x=.ok a:=by
 obtain⟨h1,h2⟩:=VY _ _ _ _ _ h
 match l,h1 with
 | [a],_=>exact⟨a,rfl,h2 0 x a rfl rfl⟩
theorem azh{env:Env}{sc:List Decl}{nm:Str}{x y:Tm}{l:List Ty}(h:gZ env sc false nm 0 [x,y]=.ok l):∃a b,l=[a,b]∧gJ env sc x=.ok a∧gJ env sc y=.ok b:=by
 obtain⟨h1,h2⟩:=VY _ _ _ _ _ h
 match l,h1 with
 | [a,b],_=>exact⟨a,b,rfl,h2 0 x a rfl rfl,h2 1 y b rfl rfl⟩
theorem awO{env:Env}{sc:List Decl}{nm:Str}{x y:Tm}{l:List Ty}(h:gZ env sc true nm 0 [x,y]=.ok l):∃a b e,l=[a,b]∧gJ env sc x=.ok a∧aO a=some e∧gJ env (⟨nm,e⟩::sc) y=.ok b:=by
 simp only[gZ] at h;cases ht:gJ env sc x with
 | er e p=>rw[ht] at h;cases h
 | ok a=>
  rw[ht] at h;simp only[tK] at h;cases he:aO a with
  | none=>rw[he] at h;cases h
  | some e=>
   grind
set_option maxRecDepth 100000 in
theorem aEZ{env:Env}(hv:aZ env=true):∀(t:Tm) (d:Int) (sc:List Decl) (ty:Ty),Wf d t→GoodS sc→gJ env sc t=.ok ty→HT env sc t ty:=fun t=>Tm.ind (P:=fun t=>∀(d:Int) (sc:List Decl) (ty:Ty),Wf d t→GoodS sc→gJ env sc t=.ok ty→HT env sc t ty) (fun op nm m u ks ih d sc ty hw hs ht=>by
 obtain⟨hn,_,_,hks⟩:=hw.node;obtain⟨⟨h1,h2⟩,hk20,hk29,hlen,hb⟩:=YL hn;have hnum:op=19→0≤m∧m≤1000000000:=fun e=>by
  subst e;simp only[rJ,qAa] at hn;have:=hn.2.2.1;have h3:(decide (0≤m)&&decide (m≤1000000000))=true:=this;rw[qAa] at h3;exact⟨of_decide_eq_true h3.1,of_decide_eq_true h3.2⟩
 have hnil:fG op=0→ks=[]:=fun e=>by
  simp only[rJ,qAa,Ah,Tm.op,Tm.kids] at hn;have:=hn.1.2;rw[e] at this;exact qAw.1 (by simpa using this)
 have ih':∀x∈ks,∀sc ty,GoodS sc→gJ env sc x=.ok ty→HT env sc x ty∧Top ty:=fun x hx sc ty hs ht=>⟨ih x hx (d+1) sc ty (hks x hx) hs ht,yV hv hs ht⟩;have k1:fG op=1→∃x,ks=[x]:=fun e=>uT ks (by
  simp only[rJ,qAa,Ah,Tm.op,Tm.kids] at hn;have:=hn.1.2;rw[e] at this;simpa using this)
 have k2:fG op=2→∃x y,ks=[x,y]:=fun e=>cO ks (by
  simp only[rJ,qAa,Ah,Tm.op,Tm.kids] at hn;have:=hn.1.2;rw[e] at this;simpa using this)
 have kx:fG op= -1→ks≠[]:=fun e=>by
  rintro rfl;simp only[rJ,qAa,Ah,Tm.op,Tm.kids] at hn;have:=hn.1.2;rw[e] at this;cases this
 -- the row
 have row:(op==20)=false→(op==29)=false→∃l,gZ env sc (dx op) nm 0 ks=.ok l∧iY op l=some ty:=fun e20 e29=>by
  simp only[gJ,e20,e29,qBs,cond_false] at ht;cases hk:gZ env sc (dx op) nm 0 ks with
  | er e p=>rw[hk] at ht;cases ht
  | ok l=>rw[hk] at ht;exact⟨l,rfl,(ahN ht).1⟩
 have one:fG op=1→(op==20)=false→(op==29)=false→dx op=false→∃x a,ks=[x]∧HT env sc x a∧Top a∧iY op [a]=some ty:=fun e e20 e29 eb=>by
  obtain⟨x,rfl⟩:=k1 e;obtain⟨l,hl,hr⟩:=row e20 e29;rw[eb] at hl;obtain⟨a,rfl,ha⟩:=ax1 hl;have:=ih' x (by simp) sc a hs ha;exact⟨x,a,rfl,this.1,this.2,hr⟩
 have two:fG op=2→(op==20)=false→(op==29)=false→dx op=false→∃x y a b,ks=[x,y]∧HT env sc x a∧Top a∧HT env sc y b∧Top b∧iY op [a,b]=some ty:=fun e e20 e29 eb=>by
  obtain⟨x,y,rfl⟩:=k2 e;obtain⟨l,hl,hr⟩:=row e20 e29;rw[eb] at hl;obtain⟨a,b,rfl,ha,hb⟩:=azh hl;have:=ih' x (by simp) sc a hs ha;have h3:=ih' y (by simp) sc b hs hb;exact⟨x,y,a,b,rfl,this.1,this.2,h3.1,h3.2,hr⟩
 have bnd:dx op=true→(op==20)=false→(op==29)=false→∃x y e b,ks=[x,y]∧HT env sc x (ak e)∧HT env (⟨nm,e⟩::sc) y b∧Top b∧iY op [ak e,b]=some ty:=fun eb e20 e29=>by
  obtain⟨x,y,rfl⟩:=hb eb;obtain⟨l,hl,hr⟩:=row e20 e29;rw[eb] at hl;obtain⟨a,b,e,rfl,ha,he,hb⟩:=awO hl;have h3:=ih' x (by simp) sc a hs ha;obtain⟨hge,rfl⟩:=eT h3.2 he;have h4:=ih' y (by simp) (⟨nm,e⟩::sc) b (fun q hq=>by
   rcases qAg.1 hq with rfl | hq
   ·exact hge
   ·exact hs q hq) hb
  exact⟨x,y,e,b,rfl,h3.1,h4.1,h4.2,hr⟩
 have lit:(op=1∨op=2)→HT env sc (.mk op nm m u ks) ty:=fun e=>by
  have e0:ks=[]:=hnil (by rcases e with rfl | rfl<;>rfl);subst e0;obtain⟨l,hl,hr⟩:=row (by rcases e with rfl | rfl<;>rfl) (by rcases e with rfl | rfl<;>rfl);have:ty=aV:=by rcases e with rfl | rfl<;>exact(Option.some.inj hr).symm
  subst this;exact .lit op e
 have log:(op=4∨op=5∨op=6∨op=7)→HT env sc (.mk op nm m u ks) ty:=fun e=>by
  obtain⟨x,y,a,b,rfl,ha,ta,hb,tb,hr⟩:=two (by rcases e with rfl | rfl | rfl | rfl<;>rfl) (by rcases e with rfl | rfl | rfl | rfl<;>rfl) (by rcases e with rfl | rfl | rfl | rfl<;>rfl) (by rcases e with rfl | rfl | rfl | rfl<;>rfl);have hr':aP (wU 2 [a,b]) aV=some ty:=by rcases e with rfl | rfl | rfl | rfl<;>exact hr
  obtain⟨h3,rfl⟩:=dJ hr';obtain⟨h4,h5⟩:=abg h3;rw[NW ta h4] at ha;rw[NW tb h5] at hb;exact .log op e ha hb
 have qu:(op=8∨op=9)→HT env sc (.mk op nm m u ks) ty:=fun e=>by
  obtain⟨x,y,a,b,rfl,ha,hb,tb,hr⟩:=bnd (by rcases e with rfl | rfl<;>rfl) (by rcases e with rfl | rfl<;>rfl) (by rcases e with rfl | rfl<;>rfl);have hr':aP ((aO (ak a)).isSome&&b.kind==2) aV=some ty:=by rcases e with rfl | rfl<;>exact hr
  obtain⟨h3,rfl⟩:=dJ hr';simp only[qAa] at h3;rw[NW tb h3.2] at hb;exact .qu op e ha hb
 have eqc:(op=10∨op=11)→HT env sc (.mk op nm m u ks) ty:=fun e=>by
  obtain⟨x,y,a,b,rfl,ha,ta,hb,tb,hr⟩:=two (by rcases e with rfl | rfl<;>rfl) (by rcases e with rfl | rfl<;>rfl) (by rcases e with rfl | rfl<;>rfl) (by rcases e with rfl | rfl<;>rfl);have hr':aP (a.kind !=2&&aQ a b) aV=some ty:=by rcases e with rfl | rfl<;>exact hr
  obtain⟨h3,rfl⟩:=dJ hr';simp only[qAa] at h3;have:=mh _ _ h3.2;subst this;exact .eq op e (Jz ta h3.1) ha hb
 have ordc:(op=12∨op=13∨op=14∨op=15)→HT env sc (.mk op nm m u ks) ty:=fun e=>by
  obtain⟨x,y,a,b,rfl,ha,ta,hb,tb,hr⟩:=two (by rcases e with rfl | rfl | rfl | rfl<;>rfl) (by rcases e with rfl | rfl | rfl | rfl<;>rfl) (by rcases e with rfl | rfl | rfl | rfl<;>rfl) (by rcases e with rfl | rfl | rfl | rfl<;>rfl);have hr':aP (wU 1 [a,b]) aV=some ty:=by rcases e with rfl | rfl | rfl | rfl<;>exact hr
  obtain⟨h3,rfl⟩:=dJ hr';obtain⟨h4,h5⟩:=abg h3;rw[FC ta h4] at ha;rw[FC tb h5] at hb;exact .ord op e ha hb
 have innc:(op=16∨op=17)→HT env sc (.mk op nm m u ks) ty:=fun e=>by
  obtain⟨x,y,a,b,rfl,ha,ta,hb,tb,hr⟩:=two (by rcases e with rfl | rfl<;>rfl) (by rcases e with rfl | rfl<;>rfl) (by rcases e with rfl | rfl<;>rfl) (by rcases e with rfl | rfl<;>rfl);have hr':(aO b).bind (fun e=>aP (aQ a e) aV)=some ty:=by rcases e with rfl | rfl<;>exact hr
  obtain⟨s,hs',h3⟩:=jK hr';obtain⟨h4,rfl⟩:=dJ h3;have:=mh _ _ h4;subst this;obtain⟨_,rfl⟩:=eT tb hs';exact .inn op e ha hb
 have numc:(op=22∨op=23∨op=24∨op=25∨op=26)→HT env sc (.mk op nm m u ks) ty:=fun e=>by
  obtain⟨x,y,a,b,rfl,ha,ta,hb,tb,hr⟩:=two (by rcases e with rfl | rfl | rfl | rfl | rfl<;>rfl) (by rcases e with rfl | rfl | rfl | rfl | rfl<;>rfl) (by rcases e with rfl | rfl | rfl | rfl | rfl<;>rfl) (by rcases e with rfl | rfl | rfl | rfl | rfl<;>rfl);have hr':aP (wU 1 [a,b]) bY=some ty:=by rcases e with rfl | rfl | rfl | rfl | rfl<;>exact hr
  obtain⟨h3,rfl⟩:=dJ hr';obtain⟨h4,h5⟩:=abg h3;rw[FC ta h4] at ha;rw[FC tb h5] at hb;exact .num op e ha hb
 have binc:(op=31∨op=32∨op=33)→HT env sc (.mk op nm m u ks) ty:=fun e=>by
  obtain⟨x,y,a,b,rfl,ha,ta,hb,tb,hr⟩:=two (by rcases e with rfl | rfl | rfl<;>rfl) (by rcases e with rfl | rfl | rfl<;>rfl) (by rcases e with rfl | rfl | rfl<;>rfl) (by rcases e with rfl | rfl | rfl<;>rfl);have hr':aP ((aO a).isSome&&aQ a b) a=some ty:=by rcases e with rfl | rfl | rfl<;>exact hr
  obtain⟨h3,rfl⟩:=dJ hr';simp only[qAa] at h3;have:=mh _ _ h3.2;subst this;obtain⟨s,rfl⟩:=anz ta h3.1;exact .bin op e ha hb
 have dresc:(op=37∨op=38)→HT env sc (.mk op nm m u ks) ty:=fun e=>by
  obtain⟨x,y,a,b,rfl,ha,ta,hb,tb,hr⟩:=two (by rcases e with rfl | rfl<;>rfl) (by rcases e with rfl | rfl<;>rfl) (by rcases e with rfl | rfl<;>rfl) (by rcases e with rfl | rfl<;>rfl);have hr':(aO a).bind (fun x=>(dn b).bind fun y=>aP (aQ x y.1) b)=some ty:=by rcases e with rfl | rfl<;>exact hr
  obtain⟨s,hs',h3⟩:=jK hr';obtain⟨⟨p,q⟩,hq,h4⟩:=jK h3;obtain⟨h5,rfl⟩:=dJ h4;have:=mh _ _ h5;subst this;obtain⟨_,rfl⟩:=eT ta hs';obtain⟨_,_,rfl⟩:=gq tb hq;exact .dres op e ha hb
 have rresc:(op=39∨op=40)→HT env sc (.mk op nm m u ks) ty:=fun e=>by
  obtain⟨x,y,a,b,rfl,ha,ta,hb,tb,hr⟩:=two (by rcases e with rfl | rfl<;>rfl) (by rcases e with rfl | rfl<;>rfl) (by rcases e with rfl | rfl<;>rfl) (by rcases e with rfl | rfl<;>rfl);have hr':(dn a).bind (fun x=>(aO b).bind fun y=>aP (aQ y x.2) a)=some ty:=by rcases e with rfl | rfl<;>exact hr
  obtain⟨⟨p,q⟩,hq,h3⟩:=jK hr';obtain⟨s,hs',h4⟩:=jK h3;obtain⟨h5,rfl⟩:=dJ h4;have:=mh _ _ h5;subst this;obtain⟨_,rfl⟩:=eT tb hs';obtain⟨_,_,rfl⟩:=gq ta hq;exact .rres op e ha hb
 have famc:(op=41∨op=42∨op=43∨op=44∨op=45)→HT env sc (.mk op nm m u ks) ty:=fun e=>by
  obtain⟨x,y,a,b,rfl,ha,ta,hb,tb,hr⟩:=two (by rcases e with rfl | rfl | rfl | rfl | rfl<;>rfl) (by rcases e with rfl | rfl | rfl | rfl | rfl<;>rfl) (by rcases e with rfl | rfl | rfl | rfl | rfl<;>rfl) (by rcases e with rfl | rfl | rfl | rfl | rfl<;>rfl);have hr':(aO a).bind (fun x=>(aO b).map fun y=>ak (ak (aK x y)))=some ty:=by rcases e with rfl | rfl | rfl | rfl | rfl<;>exact hr
  obtain⟨s,hs',h3⟩:=jK hr';obtain⟨s2,hs2,rfl⟩:=qBx.1 h3;obtain⟨_,rfl⟩:=eT ta hs';obtain⟨_,rfl⟩:=eT tb hs2;exact .fam op e ha hb
 have extc:(op=48∨op=49)→HT env sc (.mk op nm m u ks) ty:=fun e=>by
  obtain⟨x,a,rfl,ha,ta,hr⟩:=one (by rcases e with rfl | rfl<;>rfl) (by rcases e with rfl | rfl<;>rfl) (by rcases e with rfl | rfl<;>rfl) (by rcases e with rfl | rfl<;>rfl);have hr':(aO a).bind (fun x=>aP (x.kind==1) bY)=some ty:=by rcases e with rfl | rfl<;>exact hr
  obtain⟨s,hs',h3⟩:=jK hr';obtain⟨h4,rfl⟩:=dJ h3;obtain⟨hg,rfl⟩:=eT ta hs';have:=FC (.inr hg) h4;subst this;exact .ext op e ha
 rcases ahL h1 h2 with rfl | rfl | rfl | rfl | rfl | rfl | rfl | rfl | rfl | rfl | rfl | rfl | rfl | rfl | rfl | rfl | rfl | rfl | rfl | rfl | rfl | rfl | rfl | rfl | rfl | rfl | rfl | rfl | rfl | rfl | rfl | rfl | rfl | rfl | rfl | rfl | rfl | rfl | rfl | rfl | rfl | rfl | rfl | rfl | rfl | rfl | rfl | rfl | rfl | rfl | rfl | rfl | rfl | rfl | rfl | rfl
 ·exact lit (.inl rfl)
 ·exact lit (.inr rfl)
 ·obtain⟨x,a,rfl,ha,ta,hr⟩:=one rfl rfl rfl rfl;obtain⟨h3,rfl⟩:=dJ (b:=wU 2 [a]) (t:=aV) hr;rw[NW ta (by simpa[wU] using h3)] at ha;exact .not ha
 ·exact log (by simp)
 ·exact log (by simp)
 ·exact log (by simp)
 ·exact log (by simp)
 ·exact qu (by simp)
 ·exact qu (by simp)
 ·exact eqc (by simp)
 ·exact eqc (by simp)
 ·exact ordc (by simp)
 ·exact ordc (by simp)
 ·exact ordc (by simp)
 ·exact ordc (by simp)
 ·exact innc (by simp)
 ·exact innc (by simp)
 ·obtain⟨x,y,a,b,rfl,ha,ta,hb,tb,hr⟩:=two rfl rfl rfl rfl;obtain⟨h3,rfl⟩:=dJ (b:=(aO a).isSome&&aQ a b) (t:=aV) hr;simp only[qAa] at h3;have:=mh _ _ h3.2;subst this;obtain⟨s,rfl⟩:=anz ta h3.1;exact .sub ha hb
 ·have:=hnil rfl;subst this;obtain⟨l,hl,hr⟩:=row rfl rfl;have:ty=bY:=(Option.some.inj hr).symm;subst this;exact .int (hnum rfl)
 ·have:=hnil rfl;subst this;simp only[gJ] at ht;cases hl:wK env sc nm with
  | none=>rw[hl] at ht;cases ht
  | some t=>rw[hl] at ht;cases ht;exact .name hl
 ·obtain⟨x,a,rfl,ha,ta,hr⟩:=one rfl rfl rfl rfl;obtain⟨h3,rfl⟩:=dJ (b:=wU 1 [a]) (t:=bY) hr;rw[FC ta (by simpa[wU] using h3)] at ha;exact .neg ha
 ·exact numc (by simp)
 ·exact numc (by simp)
 ·exact numc (by simp)
 ·exact numc (by simp)
 ·exact numc (by simp)
 ·obtain⟨x,y,a,b,rfl,ha,ta,hb,tb,hr⟩:=two rfl rfl rfl rfl;obtain⟨h3,rfl⟩:=dJ (b:=a.kind !=2&&b.kind !=2) (t:=aK a b) hr;simp only[qAa] at h3;exact .pair (Jz ta h3.1) (Jz tb h3.2) ha hb
 ·obtain⟨l,hl,hr⟩:=row rfl rfl;obtain⟨h3,h4⟩:=VY _ _ _ _ _ hl;obtain⟨h5,rfl⟩:=dJ (b:=(l.headD aW).kind !=2&&l.all fun x=>aQ x (l.headD aW)) (t:=ak (l.headD aW)) hr;simp only[qAa] at h5;have hne:=kx rfl;obtain⟨x,ks',rfl⟩:=Jm ks hne;obtain⟨a,l',rfl⟩:=Jm l (by rintro rfl;cases h3);have hall:∀b∈a::l',b=a:=fun b hb=>mh _ _ (qAE.1 h5.2 b hb);refine .set (Jz (yV hv hs (h4 0 x a rfl rfl)) h5.1) hne fun t ht'=>?_;obtain⟨k,hk,rfl⟩:=qBB ht';have hk':k<(a::l').length:=by rw[h3];exact hk
  have h6:=h4 k _ _ (qAc hk) (qAc hk');rw[hall _ (qAO hk')] at h6;exact(ih' _ (qAO hk) sc a hs h6).1
 ·have:=hnil rfl;subst this;obtain⟨_,hv1,hv2⟩:=hk29 rfl;simp only[gJ] at ht;have ht':cond (true&&!(knows env u)) (TR.er 6 []) (match gZ env sc (dx 29) nm 0 [] with
     | .er e p=>.er e p
     | .ok l=>LQ (some (ak u)))=.ok ty:=ht
  cases hkn:knows env u with
  | false=>rw[hkn] at ht';cases ht'
  | true=>
   rw[hkn] at ht';simp only[gZ] at ht';have ht':LQ (some (ak u))=.ok ty:=ht';have:=(ahN ht').1;cases this;exact .empty (Jz (aau hv1) (by rw[bne,hv2];rfl))
 ·obtain⟨x,y,a,b,rfl,ha,ta,hb,tb,hr⟩:=two rfl rfl rfl rfl;obtain⟨h3,rfl⟩:=dJ (b:=wU 1 [a,b]) (t:=ak bY) hr;obtain⟨h4,h5⟩:=abg h3;rw[FC ta h4] at ha;rw[FC tb h5] at hb;exact .range ha hb
 ·exact binc (by simp)
 ·exact binc (by simp)
 ·exact binc (by simp)
 ·obtain⟨x,y,a,b,rfl,ha,ta,hb,tb,hr⟩:=two rfl rfl rfl rfl;obtain⟨s,hs',h3⟩:=jK (o:=aO a) (f:=fun x=>(aO b).map fun y=>ak (aK x y)) hr;obtain⟨s2,hs2,rfl⟩:=qBx.1 h3;obtain⟨_,rfl⟩:=eT ta hs';obtain⟨_,rfl⟩:=eT tb hs2;exact .prod ha hb
 ·obtain⟨x,y,a,b,rfl,ha,ta,hb,tb,hr⟩:=two rfl rfl rfl rfl;obtain⟨h3,rfl⟩:=dJ (b:=(dn a).isSome&&aQ a b) (t:=a) hr;simp only[qAa] at h3;have:=mh _ _ h3.2;subst this;obtain⟨p,q,rfl⟩:=ayd ta h3.1;exact .over ha hb
 ·obtain⟨x,y,a,b,rfl,ha,ta,hb,tb,hr⟩:=two rfl rfl rfl rfl;obtain⟨⟨p,q⟩,hq,h3⟩:=jK (o:=dn a) (f:=fun x=>(dn b).bind fun y=>aP (aQ x.2 y.1) (ak (aK x.1 y.2))) hr;obtain⟨⟨p',q'⟩,hq',h4⟩:=jK h3;obtain⟨h5,rfl⟩:=dJ h4;have:=mh _ _ h5;obtain⟨_,_,rfl⟩:=gq ta hq;obtain⟨_,_,rfl⟩:=gq tb hq';simp only at this;subst this;exact .comp ha hb
 ·exact dresc (by simp)
 ·exact dresc (by simp)
 ·exact rresc (by simp)
 ·exact rresc (by simp)
 ·exact famc (by simp)
 ·exact famc (by simp)
 ·exact famc (by simp)
 ·exact famc (by simp)
 ·exact famc (by simp)
 ·obtain⟨x,a,rfl,ha,ta,hr⟩:=one rfl rfl rfl rfl;obtain⟨s,hs',rfl⟩:=qBx.1 (show(aO a).map (fun x=>ak (ak x))=some ty from hr);obtain⟨_,rfl⟩:=eT ta hs';exact .pow ha
 ·obtain⟨x,a,rfl,ha,ta,hr⟩:=one rfl rfl rfl rfl;obtain⟨s,hs',rfl⟩:=qBx.1 (show(aO a).map (fun _=>bY)=some ty from hr);obtain⟨_,rfl⟩:=eT ta hs';exact .card ha
 ·exact extc (by simp)
 ·exact extc (by simp)
 ·obtain⟨x,a,rfl,ha,ta,hr⟩:=one rfl rfl rfl rfl;obtain⟨⟨p,q⟩,hq,rfl⟩:=qBx.1 (show(dn a).map (fun x=>ak x.1)=some ty from hr);obtain⟨_,_,rfl⟩:=gq ta hq;exact .dom ha
 ·obtain⟨x,a,rfl,ha,ta,hr⟩:=one rfl rfl rfl rfl;obtain⟨⟨p,q⟩,hq,rfl⟩:=qBx.1 (show(dn a).map (fun x=>ak x.2)=some ty from hr);obtain⟨_,_,rfl⟩:=gq ta hq;exact .ran ha
 ·obtain⟨x,a,rfl,ha,ta,hr⟩:=one rfl rfl rfl rfl;obtain⟨⟨p,q⟩,hq,rfl⟩:=qBx.1 (show(dn a).map (fun x=>ak (aK x.2 x.1))=some ty from hr);obtain⟨_,_,rfl⟩:=gq ta hq;exact .inv ha
 ·obtain⟨x,y,a,b,rfl,ha,ta,hb,tb,hr⟩:=two rfl rfl rfl rfl;obtain⟨⟨p,q⟩,hq,h3⟩:=jK (o:=dn a) (f:=fun x=>(aO b).bind fun y=>aP (aQ y x.1) (ak x.2)) hr;obtain⟨s,hs',h4⟩:=jK h3;obtain⟨h5,rfl⟩:=dJ h4;have:=mh _ _ h5;obtain⟨_,_,rfl⟩:=gq ta hq;obtain⟨_,rfl⟩:=eT tb hs';simp only at this;subst this;exact .image ha hb
 ·obtain⟨x,y,a,b,rfl,ha,ta,hb,tb,hr⟩:=two rfl rfl rfl rfl;obtain⟨⟨p,q⟩,hq,h3⟩:=jK (o:=dn a) (f:=fun x=>aP (aQ b x.1) x.2) hr;obtain⟨h5,rfl⟩:=dJ h3;have:=mh _ _ h5;obtain⟨_,_,rfl⟩:=gq ta hq;simp only at this;subst this;exact .app ha hb
 ·obtain⟨x,y,a,b,rfl,ha,hb,tb,hr⟩:=bnd rfl rfl rfl;obtain⟨h3,rfl⟩:=dJ (b:=(aO (ak a)).isSome&&b.kind==2) (t:=ak a) hr;simp only[qAa] at h3;rw[NW tb h3.2] at hb;exact .compr ha hb
 ·obtain⟨x,y,a,b,rfl,ha,hb,tb,hr⟩:=bnd rfl rfl rfl;obtain⟨s,hs',h3⟩:=jK (o:=aO (ak a)) (f:=fun x=>aP (b.kind !=2) (ak (aK x b))) hr;obtain⟨h5,rfl⟩:=dJ h3;cases hs';exact .fn (Jz tb h5) ha hb) t
end Abs
end Go.Proofs.YtneeginmfjageaaGreat
