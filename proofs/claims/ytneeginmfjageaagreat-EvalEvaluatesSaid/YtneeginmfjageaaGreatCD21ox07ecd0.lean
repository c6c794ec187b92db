/- Calls by entries. Conditions: none. -/
import Derived.IntWalk
import Derived.Test.YtneeginmfjageaaGreatCD17ox884ab2
set_option linter.all false
namespace Go.Proofs.YtneeginmfjageaaGreat
namespace Abs
mutual
theorem agU{A B:Nat→Bool}(h:∀l,A l=true→B l=true):∀v,Kt A v=true→Kt B v=true
 | .ptr l _,k=>h l k
 | .mapr l,k=>h l k
 | .own l,k=>h l k
 | .psl l _ _,k=>h l k
 | .ap l _ _ _,k=>h l k
 | .eptr cs,k=>Nw h cs k
 | .agg cs,k=>Nw h cs k
 | .tup cs,k=>Nw h cs k
 | .func _ cs,k=>Nw h cs k
 | .unk,_=>rfl| .nilp,_=>rfl| .nilF,_=>rfl| .nils,_=>rfl| .lf _ _,_=>rfl| .nat _,_=>rfl
theorem Nw{A B:Nat→Bool}(h:∀l,A l=true→B l=true):∀vs,oF A vs=true→oF B vs=true
 |[],_=>rfl
 |v::vs,k=>by
  simp only[oF,qAa]at k⊢;exact⟨agU h v k.1,Nw h vs k.2⟩
end
def auO(g:Nat->Nat)(n:Nat):(dM n).map (gy g)=dM n:=by unfold dM;rw[qCs];rfl
def adU(n k:Nat):nth .unk (dM n) k=.unk:=by unfold dM;rw[jF,List.getD,qCa];split<;>rfl
def aCu(g:Nat->Nat)(r:As):res1 (r.map (gy g))=gy g (res1 r):=by match r with|[]=>rfl|[v]=>rfl|v::w::r=>simp only[qAy,res1,gy,IC]
def aFk{A:Nat->Bool}{r:As}(h:∀v∈r,Kt A v=true):Kt A (res1 r)=true:=by match r with|[]=>rfl|[v]=>exact h v cn|v::w::r=>exact ara.2 h
section
variable {γ:Type}{b:γ}{P:Program}
def aDF{H:A0}{k:Nat}{vs:As}{ps:Be}{na:Nat}(m:Be)(nr:Nat)(z:jI (bM m)){x:jI (bM ps)}{us:Bm}{L0:Nat->Bx}{ρ:A5}{Q:B3->TV->Option γ}
  (edps:fO 0 [] [] ps=true) (T:fO (aD ps) [] [] m=true) (X:R8 (aD ps) m 0 ps=true) (rsok:BP (aD ps+aD m) (killed m) (kinds ps) m=true) (hna:vs.length=na) (hρl:ρ.length=aD ps) (hnd:ρ.Nodup)
  (hres:∀l∈rng k (aD m),mh (nth .dead H l)=true) (hsome:∀j,j<aD ps->L0 j=ρ[j]?) (L0ge:∀j,aD ps<=j->L0 j=none) (hx:fF (bM ps) x=us) {T1:As} {E:A0} (q1:dW bS ps us (dM na) []=(T1,E)) (la:LaidD H L0 1 0 vs 0 ps (dM na) [] T1 E)
  (hus:(Qw (lX (ρ++rng k (aD m))) ps us (dM na) [] λ_ h=>Qw (lX (ρ++rng k (aD m))) m (fF (bM m) z) (dM nr) h λr h'=>Kv ρ h' k (aD ps) m λws=>Q ws (res1 r))=some b):
  ∃r I ws v,dW bS m (fF (bM m) z) (dM nr) E=(r,I)/\(∀tm,Passes ⟨tm,aB H⟩ ρ (rng k (aD m)) (aB E))/\(aB I).length=(ρ++rng k (aD m)).length/\
   SWs (aU H vs) ((aU E T1).map (ren (nm (ρ++rng k (aD m)) (aB H).length)))/\Q ws v=some b/\(∀w∈ws,∃p,tgt w=some p/\p∈ρ++rng k (aD m))/\
   ∀s s',s.h=H->Ws s ws s'->aB s'.h=oV (aB H) (ρ++rng k (aD m)) ((aB I).map (eU (nm (ρ++rng k (aD m)) (aB H).length)))/\av s'.h v=ren (nm (ρ++rng k (aD m)) (aB H).length) (av I (res1 r)):=by
 rw[Ry]at hus;have ren1:=QF (lX (ρ++rng k (aD m))) ps us (dM na) [];rw[auO,qCM,q1]at ren1;rw[ren1]at hus;simp only at hus;rw[Ry]at hus;generalize hq2:dW bS m (fF (bM m) z) (dM nr) E=q2 at *;let⟨r,I⟩:=q2;have ren2:=QF (lX (ρ++rng k (aD m))) m (fF (bM m) z) (dM nr) E;rw[auO,hq2]at ren2;rw[ren2]at hus;simp only at hus;have h1l:E.length=aD ps:=by rw[la.hl,qAL]
 have bs:=uz m (fF (bM m) z) (aD ps) [] [] (dM nr) E [] (by rw[KV,qAt]) T (qAd _) h1l;rw[hq2]at bs;simp only at bs
 let L:=ρ++rng k (aD m)
 let g:=lX L
 let G:=nm L (aB H).length
 have Lold:∀j,j<aD ps->∃l,ρ[j]? =some l/\L[j]? =some l/\L0 j=some l:=λj u=>by
  have P:ρ[j]? =some (ρ[j]' Cl):=qAc _;exact⟨_,P,by simp only[L];rw[qAg Cl];exact P,by rw[hsome j u];exact P⟩
 have Lnew:∀i,i<aD m->L[aD ps+i]? =some (k+i):=λi hi=>by
  simp only[L];rw[qAl Cl,hρl,Nat.add_sub_cancel_left];exact auY _ _ _ hi
 have Llen:L.length=aD ps+aD m:=by simp only[L,qAe,hρl,au3]
 -- what the objects that are handed in are
 have inO:∀j,j<aD ps->∃l f,ρ[j]? =some l/\Ed.w f∈ps/\nth .dead (kinds ps) j=f/\FO H L0 0 f .dead (nth .dead E j) (nth .dead H l):=λj u=>by
  rcases la.new j u with⟨l,f,F,⟨C,e2'⟩,N⟩|⟨_,hm,_⟩
  ·rw[qAL]at F N;exact⟨l,f,by rw[<-hsome j u];exact F,C,e2',N⟩
  omega
 have alive:∀l∈ρ,nth .dead H l≠ .dead/\nth .dead H l≠ .res:=λl P=>by
  let⟨j,u⟩:=qAR P;have hjl:=(qAH.1 u).1;let⟨l',f,F,C,_,N⟩:=inO j Cl;rw[u]at F;cases F;let⟨p1,p2,_⟩:=Ob X f C;cases f with
  |dead=>exact(p1 rfl).elim
  |bx B=>exact(p2 B rfl).elim
  |box Y=>let⟨ws,vs,_,J,_⟩:=N;rw[J];exact⟨λh=>(by cases h),λh=>(by cases h)⟩
  |own e=>let⟨_,_,_,J⟩:=N;rw[J];exact⟨λh=>(by cases h),λh=>(by cases h)⟩
  |mp e=>let⟨_,_,_,J⟩:=N;rw[J];exact⟨λh=>(by cases h),λh=>(by cases h)⟩
  |arr e=>let⟨_,_,_,J⟩:=N;rw[J];exact⟨λh=>(by cases h),λh=>(by cases h)⟩
 have inlt:∀l∈ρ,l<H.length:=λl P=>adx (alive l P).1;have reslt:∀l∈rng k (aD m),l<H.length:=λl P=>G9 (hres l P);have hG0:∀j l,L0 j=some l->G j=l:=λj l u=>by
  have R:j<aD ps:=by
   apply qAn;intro hn;rw[L0ge j Cl]at u;cases u
  let⟨l',F,C,N⟩:=Lold j R;rw[u]at N;cases N;exact ayv C
 have look0:∀j l,L0 j=some l->gD l (nth .dead H l)=ren G (gD j (nth .dead E j))/\∀z,eY l z (nth .dead H l)=ren G (eY j z (nth .dead E j)):=λj l u=>by
  have R:j<aD ps:=by
   apply qAn;intro hn;rw[L0ge j Cl]at u;cases u
  let⟨l',f,F,C,_,N⟩:=inO j R;rw[<-hsome j R,u]at F;cases F;have hg:=hG0 j l u;cases f with
  |dead=>exact((Ob X _ C).1 rfl).elim
  |bx B=>exact((Ob X _ C).2.1 B rfl).elim
  |box Y=>let⟨ws,vs,J,Z,_⟩:=N;rw[J,Z];exact⟨rfl,λ_=>rfl⟩
  |own e=>let⟨_,_,J,Z⟩:=N;rw[J,Z];exact⟨by simp only[gD,ren,xu,nV,hg],λ_=>rfl⟩
  |mp e=>let⟨_,_,J,Z⟩:=N;rw[J,Z];exact⟨rfl,λ_=>rfl⟩
  |arr e=>let⟨_,_,J,Z⟩:=N;rw[J,Z];exact⟨rfl,λ_=>by simp only[eY,ren,hg]⟩
 have hW:=aFv (H:=H) (Hk:=E) hG0 look0;have objEq:∀j l,ρ[j]? =some l->gV H (nth .dead H l)=eU G (gV E (nth .dead E j)):=λj l u=>by
  have R:j<aD ps:=by have:=(qAH.1 u).1;omega
  let⟨l',f,F,C,_,N⟩:=inO j R;rw[u]at F;cases F;cases f with
  |dead=>exact((Ob X _ C).1 rfl).elim
  |bx B=>exact((Ob X _ C).2.1 B rfl).elim
  |box Y=>let⟨ws,vs,J,Z,e6⟩:=N;rw[J,Z];simp only[gV,eU,rs0 (e6 E _ hW)]
  |own e=>let⟨_,_,J,Z⟩:=N;rw[J,Z];rfl
  |mp e=>let⟨_,_,J,Z⟩:=N;rw[J,Z];simp only[gV,eU,Qo]
  |arr e=>let⟨_,_,J,Z⟩:=N;rw[J,Z];simp only[gV,eU,nV]
 have disj:∀l∈ρ,l∉rng k (aD m):=λl P hm=>by
  have:=hres l hm;have I:=(alive l P).2;unfold mh at this;split at this
  ·rename_i q;exact I q
  cases this
 have Lnd:L.Nodup:=qDe.2 ⟨hnd,anC _ _,λa ha c O e=>by subst e;exact disj a ha O⟩;let⟨ws,hws,htg,hwro⟩:=aip hnd hρl m k (aD ps) [] [] _ T (λp hp=>by
  have:=disj p hp;rw[Io]at this;omega) hus
 have ixL:∀l,l<aD ps->lX ρ l=g l:=λl P=>by
  let⟨p,F,C,_⟩:=Lold l P;rw[zm F];exact(zm C).symm
 have tgL:∀w∈ws,∃p,tgt w=some p/\p∈L:=λw hw=>by
  let⟨p,F,C⟩:=htg w hw;refine⟨p,F,?_⟩;rcases C with⟨l,f,q1,q2⟩|⟨q1,q2⟩
  ·let⟨p',N,_,_⟩:=Lold l (pE T q1);rw[zm N]at q2;subst q2;exact qBw _ (qAF N)
  exact qBz _ (Io.2 ⟨q1,q2⟩)
 refine⟨r,I,ws,_,rfl,λtm=>⟨Lnd,by simp[aB,h1l,hρl],λl P=>by simp only[aB,qAi];exact inlt l P,λl P=>xM (hres l P),λi l hi=>by rw[kV,kV];exact objEq i l hi⟩,by simp only[aB,qAi,bs.hl];exact Llen.symm,?_,hws,tgL,?_⟩
 ·-- the arguments
  have hlen:vs.length=T1.length:=by rw[la.tl,hna];simp[dM]
  have key:∀n,SW (av H (nth .unk vs n)) (ren G (av E (nth .unk T1 n))):=λn=>by
   by_cases hn:n∈j3 ps
   ·let⟨s,hs⟩:=Rb hn;by_cases R:n<(dM na).length
    ·exact la.slot n s hs R E _ hW
    rw[mq (show T1.length<=n by rw[la.tl];omega)];exact .unk _
   rw[la.keep n hn,adU];exact .unk _
  have all:∀(a c:As),a.length=c.length->(∀n,SW (av H (nth .unk a n)) (ren G (av E (nth .unk c n))))->SWs (aU H a) ((aU E c).map (ren G)):=λa=>by
   induction a with
   |nil=>intro c P _;cases c with
    |nil=>exact .nil
    |cons _ _=>cases P
   |cons x a ih=>intro c P hk;cases c with
    |nil=>cases P
    |cons y c=>exact .cons (hk 0) (ih c (by simpa using P) λn=>hk (n+1))
  exact all vs T1 hlen key
 -- the state behind the call
 intro s s' hsH hWs;subst hsH;have W:=hwro s s' inlt hWs
 let A:Nat->Bool:=λl=>Nat.blt l (aD ps+aD m)&&!(mem (killed m) l)
 have hA:∀l,(Nat.blt l (aD ps+aD m)&&!(mem (killed m) l))=true->A l=true:=λl h=>h;have hA1:∀l,(Nat.blt l (aD ps)&&!(mem (killed m) l))=true->A l=true:=λl h=>by
  simp only[qAa,A]at h|-;refine⟨qCI ?_,h.2⟩;have:l<aD ps:=qAf h.1;omega
 have Alt:∀j,A j=true->j<aD ps+aD m/\Ed.o j .dead∉m:=λj h=>by
  simp only[qAa,qAV,AU,A]at h;exact⟨qAf h.1,λhm=>h.2 (Qf hm)⟩
 -- objects of the callee name only what is alive
 let A1:Nat->Bool:=λl=>Nat.blt l (aD ps)&&!(mem (killed m) l)
 have bs1:=uz ps us 0 [] [] (dM na) [] [] (by rw[<-hx,KV,qAt]) edps (qAd _) rfl;rw[q1]at bs1;have rfU:∀j,(∀f,Ed.o j f∉m)->rfO A1 (nth .dead E j):=λj U=>by
  by_cases u:j<aD ps
  ·let⟨D,rest,F,C⟩:=bs1.newK j u;have hp:=ahJ X j u;rw[qAL]at C hp;intro Y O;generalize hkd:nth .dead (kinds ps) j=f at *;obtain⟨ss,rfl,rfl⟩:=abx (alW hp).2.1 (C.symm.trans O);simp only[alb,qAa]at hp;have hn:Fy j m=none:=by
    cases hq:Fy j m with
    |none=>rfl
    |some f=>exact(U f (X0 hq)).elim
   rw[hn]at hp;exact Wp (Dm (A:=A1) (λl h=>h) ss D hp.2)
  rw[mq Cl];intro Y O;cases O
 have rfB':∀j B,Ed.o j (.bx B)∈m->∀Y,nth .dead E j=.box Y->∀q v,(aK Y)[q]? =some v->rU B q=false->Kt A1 v=true:=λj B hm Y O q v hv hq=>by
  have u:=pE T hm;let⟨D,rest,F,C⟩:=bs1.newK j u;have hp:=ahJ X j u;rw[qAL]at C hp;generalize hkd:nth .dead (kinds ps) j=f at *;obtain⟨ss,rfl,rfl⟩:=abx (alW hp).2.1 (C.symm.trans O);simp only[alb,qAa]at hp;rw[adG T hm]at hp;exact anl (A:=A1) (λl h=>h) B ss D rest 0 F hp.2 q v hv (by rw[qAL];exact hq)
 have rf2:∀j,rfO A (nth .dead I j):=λj=>by
  by_cases u:j<aD ps
  ·by_cases t:∃f,Ed.o j f∈m
   ·let⟨f,t⟩:=t;let⟨D,rest,et,C⟩:=bs.obj j f t;rw[C];rcases WX rsok j f t with rfl|⟨h3,_⟩
    ·intro Y O;cases O
    by_cases hb:∃B,f=.bx B
    ·obtain⟨B,rfl⟩:=hb;intro Y O;cases ho:nth .dead E j with
     |box K=>
      rw[ho]at O;simp only[bR]at O;cases hq:(kD bS B (some K) D).1 with
      |none=>rw[hq]at O;cases O
      |some cs1=>
       rw[hq]at O;cases O;exact anb hA B _ D rest et h3 (λcs2 I q v hv hq=>by cases I;exact agU hA1 v (rfB' j B t K ho q v hv hq)) Y hq
     |_=>rw[ho]at O;cases O
    have:bR bS (nth .dead E j) f D=bR bS .dead f D:=by
     cases f with
     |bx B=>exact(hb ⟨B,rfl⟩).elim
     |_=>rfl
    rw[this];exact aqY hA _ f D h3 λY O=>by cases O
   rw[bs.keepO j u λf h=>t ⟨f,h⟩];intro Y O v hv;exact agU hA1 v (rfU j (λf h=>t ⟨f,h⟩) Y O v hv)
  by_cases hj2:j<aD ps+aD m
  ·let⟨f,D,F,C⟩:=bs.new (j - aD ps) Cl;rw[show aD ps+(j - aD ps)=j from by omega]at C;rw[C];exact aqY hA _ f D (ajb rsok f F) λY O=>by cases O
  rw[mq (by rw[bs.hl];omega)];intro Y O;cases O
 have gG:∀j,j<aD ps+aD m->G j=g j:=λj u=>by
  have:L[j]? =some (L[j]' Cl):=qAc _;rw[show G j=_ from ayv this,show g j=_ from zm this]
 -- where the callee's objects stand now
 have newAt:∀i,i<aD m->nth .dead s'.h (g (aD ps+i))=kF g (nth .dead I (aD ps+i)):=λi hi=>by
  rw[show g (aD ps+i)=k+i from zm (Lnew i hi),W.new i hi];exact Xn (d:=.dead) (d':=.dead) (kF g) rfl I _
 have Fy:∀j f,Ed.o j f∈m->f≠ .dead->(∀B,f≠ .bx B)->plainO (nth .dead I j)=true/\nth .dead s'.h (g j)=kF g (nth .dead I j):=λj f hm E h2'=>by
  have u:=pE T hm;have M:nth .dead (I.map (kF g)) j=kF g (nth .dead I j):=Xn (d:=.dead) (d':=.dead) (kF g) rfl I _;have pl:∀o,plainO (kF g o)=true->plainO o=true:=λo h=>by cases o<;>first|rfl|cases h
  have:=W.obj j f hm;rw[<-ixL j u];cases f with
  |dead=>exact(E rfl).elim
  |bx B=>exact(h2' B rfl).elim
  |box Y=>let⟨V,a2,a3⟩:=this;exact⟨pl _ (by rw[<-M];exact V),by rw[<-M];exact a3⟩
  |own e=>let⟨V,a2,a3⟩:=this;exact⟨pl _ (by rw[<-M];exact V),by rw[<-M];exact a3⟩
  |mp e=>let⟨V,a2,a3⟩:=this;exact⟨pl _ (by rw[<-M];exact V),by rw[<-M];exact a3⟩
  |arr e=>let⟨V,a2,a3⟩:=this;exact⟨pl _ (by rw[<-M];exact V),by rw[<-M];exact a3⟩
 have unAt:∀j l,ρ[j]? =some l->(∀f,Ed.o j f∉m)->nth .dead s'.h l=nth .dead s.h l/\gV s'.h (nth .dead s.h l)=gV s.h (nth .dead s.h l):=λj l u U=>by
  have R:j<aD ps:=by have:=(qAH.1 u).1;omega
  refine XB hWs l λw hw F=>?_;let⟨p,C,N⟩:=htg w hw;rw[F]at C;cases C;rcases N with⟨l',f,V,a2⟩|⟨V,a2⟩
  ·have hl':=pE T V;let⟨p',a3,_,_⟩:=Lold l' hl';rw[zm a3]at a2;subst a2;have:l'=j:=(qCw Cl hnd).1 (a3.trans u.symm);subst this;exact U f V
  exact disj l (qAF u) (Io.2 ⟨V,a2⟩)
 have boxAt:∀j B,Ed.o j (.bx B)∈m->∃l K cs1 S cf,ρ[j]? =some l/\nth .dead s.h l=.box K/\nth .dead s'.h l=.box cs1/\nth .dead E j=.box S/\nth .dead I j=.box cf/\(aK cs1).length=(aK K).length/\(aK cf).length=(aK S).length/\bq s.h K=eT G (bq E S)/\
   ∀q,(rU B q=true->q<(aK K).length->(aK cs1)[q]? =((aK cf).map (gy g))[q]?)/\(rU B q=false->((aK cs1)[q]? =(aK K)[q]?/\∀v,(aK K)[q]? =some v->av s'.h v=av s.h v)/\(aK cf)[q]? =(aK S)[q]?):=λj B hm=>by
  have u:=pE T hm;let⟨l,hd0,F,C,e2',N⟩:=inO j u;rcases WX rsok j _ hm with hh|⟨_,_,_,_,hpl⟩
  ·cases hh
  rw[e2']at hpl;have hpl:=hpl B rfl;let⟨D,rest,e4t,J⟩:=bs.obj j _ hm;have M:nth .dead (I.map (kF g)) j=kF g (nth .dead I j):=Xn (d:=.dead) (d':=.dead) (kF g) rfl I _;have wj:=W.obj j _ hm;simp only[zm F]at wj;cases hd0 with
  |box Y=>
   let⟨S,K,Z,e6,e7⟩:=N;let⟨cs1,cf',V,a2,a3,a4⟩:=wj K e6;replace a2:kF g (nth .dead I j)=.box cf':=M.symm.trans a2;rw[Z]at J;simp only[bR]at J;cases hq:(kD bS B (some S) D).1 with
   |none=>rw[hq]at J;rw[J]at a2;cases a2
   |some cf=>
    rw[hq]at J;rw[J]at a2;simp only[kF,TObj.box.injEq]at a2;subst a2;have fs:=(P5 B (some S) D rest e4t).2 S cf rfl hq;refine⟨l,K,cs1,S,cf,F,e6,V,Z,J,a3,fs.1,rs0 (e7 E _ hW),λq=>⟨λE I=>?_,λh=>⟨(a4 q).2 h,fs.2 q h⟩⟩⟩;rw[(a4 q).1 E I,Yu]
  |_=>cases hpl
 have lks:Lks g G A s'.h I:=by
  have key:∀j,A j=true->gD (g j) (nth .dead s'.h (g j))=ren G (gD j (nth .dead I j))/\∀z,eY (g j) z (nth .dead s'.h (g j))=ren G (eY j z (nth .dead I j)):=λj u=>by
   let⟨R,hdd⟩:=Alt j u;by_cases hj1:j<aD ps
   ·let⟨l,F,C,N⟩:=Lold j hj1;have hgj:g j=l:=zm C;by_cases t:∃f,Ed.o j f∈m
    ·let⟨f,t⟩:=t;by_cases hb:∃B,f=.bx B
     ·obtain⟨B,rfl⟩:=hb;let⟨l',K,cs1,S,cf,b1,b2,b3,b4,b5,_⟩:=boxAt j B t;rw[F]at b1;cases b1;rw[hgj,b3,b5];exact⟨rfl,λ_=>rfl⟩
     let⟨b1,b2⟩:=Fy j f t (λe=>by subst e;exact hdd t) λB e=>hb ⟨B,e⟩;rw[b2];exact aAV _ (gG j R)
    have U:∀f,Ed.o j f∉m:=λf h=>t ⟨f,h⟩;rw[hgj,(unAt j l F U).1,bs.keepO j hj1 U];exact look0 j l N
   have:=newAt (j - aD ps) Cl;rw[show aD ps+(j - aD ps)=j from by omega]at this;rw[this];exact aAV _ (gG j R)
  exact⟨λj u=>gG j (Alt j u).1,λj u=>(key j u).1,λj z u=>(key j u).2 z⟩
 have lk12:∀j,A j=true->j<aD ps->Lk E I j:=λj u hj1=>by
  by_cases t:∃f,Ed.o j f∈m
  ·let⟨f,t⟩:=t;rcases WX rsok j f t with rfl|⟨_,hpl,ho1,ho2,_⟩
   ·exact((Alt j u).2 t).elim
   let⟨D,_,_,C⟩:=bs.obj j f t;refine asH ?_ (by rw[C];exact atL _ f D (by cases f<;>first|rfl|exact(ho1 _ rfl).elim|exact(ho2 _ rfl).elim));let⟨l,hd0,_,_,J,Z⟩:=inO j hj1;rw[J]at hpl;cases hd0 with
   |box Y=>let⟨_,_,e6,_⟩:=Z;rw[e6];rfl
   |mp e=>let⟨_,_,e6,_⟩:=Z;rw[e6];rfl
   |_=>cases hpl
  unfold Lk;rw[bs.keepO j hj1 λf h=>t ⟨f,h⟩];exact⟨rfl,λ_=>rfl⟩
 have low:∀v,Kt A1 v=true->av I v=av E v:=λv hv=>(Wn v λl P=>(by
  have hl1:=akV v P hv;have R:l<aD ps:=by
   simp only[qAa,A1]at hl1;exact qAf hl1.1
  exact lk12 l (hA1 l hl1) R)).symm
 have avLow:∀j,(∀f,Ed.o j f∉m)->gV I (nth .dead E j)=gV E (nth .dead E j):=λj U=>by
  cases ho:nth .dead E j with
  |box Y=>
   simp only[gV];rw[wX,wX];exact congrArg _ (qBu λv hv=>low v (rfU j U Y ho v hv))
  |_=>rfl
 refine⟨?_,?_⟩
 ·apply qBU;intro l;have hlen:s'.h.length=s.h.length:=(XI hWs).2;have lget:∀(Hx:A0) (l:Nat),l<Hx.length->(aB Hx)[l]? =some (gV Hx (nth .dead Hx l)):=λHx l P=>by
   unfold aB;rw[qAE,jF,List.getD,qAc P];rfl
  by_cases P:l<s.h.length
  ·rw[lget s'.h l Cl];by_cases hin:l∈L
   ·let⟨j,u⟩:=qAR hin;have hjl:=(qAH.1 u).1;have hjn:j<aD ps+aD m:=by omega
    rw[Mf L _ (aB s.h) j l Lnd u (by rw[qAi];simp only[aB,qAi,bs.hl];exact hjn) (by simp only[aB,qAi];exact P)];rw[qAE,lget I j (by rw[bs.hl];exact hjn)];simp only[qAx,Option.some.injEq];have hgj:g j=l:=zm u;by_cases hj1:j<aD ps
    ·have hρj:ρ[j]? =some l:=by
      let⟨l',V,a2,_⟩:=Lold j hj1;rw[u]at a2;cases a2;exact V
     by_cases t:∃f,Ed.o j f∈m
     ·let⟨f,t⟩:=t;by_cases hdd:f=.dead
      ·subst hdd;let⟨D,_,_,V⟩:=bs.obj j _ t;have V:nth .dead I j=.dead:=V;have:=W.obj j _ t;rw[ixL j hj1,hgj]at this;rw[V];rcases this with⟨_,_,_,a2⟩|⟨_,_,_,a2⟩|a2<;>(rw[a2];rfl)
      by_cases hb:∃B,f=.bx B
      ·obtain⟨B,rfl⟩:=hb;let⟨l',K,cs1,S,cf,b1,b2,b3,b4,b5,b6,b7,b8,b9⟩:=boxAt j B t;rw[hρj]at b1;cases b1;rw[b3,b5];simp only[gV,eU,AObj.box.injEq];have hl8:(aK K).length=(aK S).length:=by
        have:=congrArg List.length b8;rw[jC,l7,l7,<-pO,<-pO]at this;exact this
       rw[wX,wX,vE,qBh];apply qBU;intro q;rw[qAE,qAE];by_cases hq:q<(aK K).length
       ·cases O:rU B q with
        |true=>
         rw[(b9 q).1 O hq,qAE];cases hv:(aK cf)[q]? with
         |none=>rfl
         |some v=>
          simp only[qAx,Option.some.injEq,Function.comp];exact RX lks v (rf2 j cf b5 v (qAF hv))
        |false=>
         let⟨⟨c1,c2⟩,c3⟩:=(b9 q).2 O;rw[c1,c3];have hq2:q<(aK S).length:=by omega
         rw[qAc hq,qAc hq2];simp only[qAx,Option.some.injEq,Function.comp];rw[c2 _ (qAc hq),low _ (rfB' j B t S b4 q _ (qAc hq2) O)];have e8:=congrArg (λx=>x[q]?) b8;simp only[wX,vE,qAE,qAc hq,qAc hq2,qAx,Option.some.injEq]at e8;exact e8
       rw[qAC Cl,qAC Cl];rfl
      let⟨_,a2⟩:=Fy j f t hdd λB e=>hb ⟨B,e⟩;rw[<-hgj,a2];exact auN lks (rf2 j)
     have U:∀f,Ed.o j f∉m:=λf h=>t ⟨f,h⟩;let⟨V,a2⟩:=unAt j l hρj U;rw[V,a2,objEq j l hρj,bs.keepO j hj1 U,avLow j U]
    have:=newAt (j - aD ps) Cl;rw[show aD ps+(j - aD ps)=j from by omega]at this;rw[<-hgj,this];exact auN lks (rf2 j)
   rw[Da L _ _ l hin,lget s.h l P];let⟨V,a2⟩:=XB hWs l λw hw F=>by
    let⟨p,C,N⟩:=tgL w hw;rw[F]at C;cases C;exact hin N
   rw[V,a2]
  rw[qAC (by simp only[aB,qAi];omega),qAC (by rw[Om];simp only[aB,qAi];omega)]
 rw[aCu];refine RX lks _ (aFk λv hv=>?_);let⟨i,hi⟩:=qAR hv;have hvi:nth .unk r i=v:=by rw[jF,List.getD,hi];rfl
 rcases bs.slot i with F|⟨sk,D,F,C⟩
 ·rw[<-hvi,F,adU];rfl
 rw[<-hvi,C];exact XM hA sk D (ajm rsok i sk F)
def aFK{te:Nat}{H:A0}{k:Nat}{vs:As}{e:Ent}{K:Nat->A5->B3->TV->Option γ}{X:Nat->A5->B3->Int->Option γ}(he:ah P te e)(h:apZ H k vs e K X=some b):
  (∃(d:A5) (a:An) (G:A6) (I:AV) (E:A6) (ws:B3) (v:TV),eH P e.f a G I E/\(∀U,Passes ⟨U,aB H⟩ d (rng k (aD e.rs)) G)/\E.length=(d++rng k (aD e.rs)).length/\
   SWs (aU H vs) (a.map (ren (nm (d++rng k (aD e.rs)) (aB H).length)))/\K (aD e.rs) (d++rng k (aD e.rs)) ws v=some b/\(∀w∈ws,∃p,tgt w=some p/\p∈d++rng k (aD e.rs))/\
   ∀s s',s.h=H->Ws s ws s'->aB s'.h=oV (aB H) (d++rng k (aD e.rs)) (E.map (eU (nm (d++rng k (aD e.rs)) (aB H).length)))/\av s'.h v=ren (nm (d++rng k (aD e.rs)) (aB H).length) I)∨
  ∃(B:Nat) (d:A5) (a:An) (G E:A6) (ws:B3) (c:Int),Ej P e.f a G (Cz te c) E/\(∀U,Passes ⟨U,aB H⟩ d (rng k B) G)/\E.length=(d++rng k B).length/\
   SWs (aU H vs) (a.map (ren (nm (d++rng k B) (aB H).length)))/\X B (d++rng k B) ws c=some b/\(∀w∈ws,∃p,tgt w=some p/\p∈d++rng k B)/\
   ∀s s',s.h=H->Ws s ws s'->aB s'.h=oV (aB H) (d++rng k B) (E.map (eU (nm (d++rng k B) (aB H).length))):=by
 let⟨hokf,i,J⟩:=he;unfold JC at i;rw[qAa,qAa]at i;let⟨⟨_,i⟩,F⟩:=i;simp only[qAa]at i;let⟨m,L,M,N⟩:=i;unfold apZ at h;simp only at h;let⟨hc,h⟩:=(bD h).resolve_right λh=>by cases h.2
 simp only[qAa]at hc;let⟨q,l,C,n⟩:=hc;have q:=qAj q;have l:=qAj l;have t:=amM C;clear C;have n:=alL _ _ n;generalize V:LJ 0 (aD e.ps) (Py vs H 0 e.ps [])=S at h l t;generalize O:MB S 0 (aD e.ps)=d at h l t;have o:∀j,j<aD e.ps->S j=d[j]?:=λj W=>by have:=ang (f:=S) (aD e.ps) 0 (by rw[O];exact l) j W;rw[qAL,O]at this;exact this
 have D:∀j,aD e.ps<=j->S j=none:=λj W=>by rw[<-V];exact aDI (qAZ _) W
 let⟨us,u,hB⟩:=KG e.ps 0 _ [] [] m (qAd _) h;let⟨x,Y,u⟩:=Q8 u;let⟨y,hF,u⟩:=ob u;let⟨T1,Z,T,la⟩:=hB (dM e.na) [] [] rfl;rw[qAt]at T;rcases RT.aIH u (J x y hF T1 Z (by rw[Y];exact T))with⟨y,u,g⟩|⟨A,c,z,hpe,u,g⟩
 ·left;let⟨r,R,ws,v,g1,g2,g3,g4,g5,g6,g7⟩:=aDF e.rs e.nr (e.out y) (Q:=λws v=>K (aD e.rs) (d++rng k (aD e.rs)) ws v) m L M N q l t n o D Y T la u;exact⟨d,_,_,_,_,ws,v,g r R g1,g2,g3,g4,g5,g6,g7⟩
 right;rw[hpe]at F;simp only[qAa]at F;let⟨_,edr,pso,rso⟩:=F;let⟨hr,u⟩:=(bD u).resolve_right λh=>by cases h.2
 let⟨r,R,ws,v,g1,g2,g3,g4,g5,g6,g7⟩:=aDF A 0 z (Q:=λws _=>X (aD A) (d++rng k (aD A)) ws c) m edr pso rso q l t (alL _ _ hr) o D Y T la u;exact⟨aD A,d,_,_,_,ws,c,g r R g1,g2,g3,g4,g5,g6,λs s' Z R=>(g7 s s' Z R).1⟩
end
def Kcp(t:As)(c:List (Nat×Nat)):Prop:=∀d x,(d,x)∈c->nth .unk t d=nth .unk t x
structure Inv(s:DS):Prop where
 up:Kup s.t s.up
 rl:Krl s.t s.rl
 cp:Kcp s.t s.cp
structure Fr(s s':DS):Prop where
 tl:s'.t.length=s.t.length
 hl:s.h.length≤s'.h.length
 d:∀k,k∉s'.d→k∉s.d∧nth .unk s'.t k=nth .unk s.t k
 om:∀p,p∈s.o→p∈s'.o
 oo:s'.oo=s.oo
 o:∀l,l<s.h.length→(l,0)∉s'.o→Kw (nth .dead s.h l) (nth .dead s'.h l) fun q=>decide ((l,q+1)∈s'.o)
def Kw.trans{a b c:TObj}{f g:Nat->Bool}(h:Kw a b f)(k:Kw b c g)(i:∀q,g q=false->f q=false):Kw a c g:=by
 rcases h with rfl|⟨x,y,rfl,rfl,j,l⟩
 ·exact k
 rcases k with rfl|⟨o,z,e,rfl,m,n⟩
 ·exact .inr ⟨x,y,rfl,rfl,j,λq d=>l q (i q d)⟩
 cases e;exact .inr ⟨x,z,rfl,rfl,m.trans j,λq d=>(n q d).trans (l q (i q d))⟩
def Fr.refl(s:DS):Fr s s:=⟨rfl,qAd _,λ_ h=>⟨h,rfl⟩,λ_ h=>h,rfl,λ_ _ _=>.inl rfl⟩
def Fr.trans{a b c:DS}(h:Fr a b)(k:Fr b c):Fr a c:=by
 refine⟨k.tl.trans h.tl,qAs h.hl k.hl,λn f=>?_,λp g=>k.om p (h.om p g),k.oo.trans h.oo,λl d o=>?_⟩
 ·let⟨i,j⟩:=k.d n f;let⟨r,s⟩:=h.d n i
  grind
 refine Kw.trans (h.o l d λm=>o (k.om _ m)) (k.o l (qAB d h.hl) o) λq e=>?_;simp at e|-;exact λm=>e (k.om _ m)
def mem_filter{l:A5}{f:Nat->Bool}{i:Nat}(h:mem (l.filter f) i=true):mem l i=true/\f i=true:=by rw[mem_iff,qBa]at h;exact⟨mem_iff.2 h.1,h.2⟩
def aHm{a b:Nat}(h:(!(Nat.beq a b))=true):a≠b:=by
 intro e;subst e
 simp_all
def aE2{s:DS}(hi:Inv s)(n:Nat)(v:TV):
  Inv ⟨s.t.set n v,s.h,n::s.d,s.o,s.up.filter λi=>!(Nat.beq i n),s.rl.filter λp=>!(Nat.beq p.1 n ||(Nat.beq p.2.1 n ||Nat.beq p.2.2 n)),s.cp.filter λp=>!(Nat.beq p.1 n ||Nat.beq p.2 n),s.oo⟩:=by
 refine⟨λi k a b f=>?_,λd i j b k a f=>?_,λd x b=>?_⟩;·let⟨l,g⟩:=mem_filter b;have m:=aHm g;simp only[aX m.symm]at f;exact hi.up i k a l f
 ·rw[qBa]at b;let⟨l,g⟩:=b;simp at g;have c:∀a,Nat.beq a n=false->n≠a:=λa h e=>by subst e;rw[o9]at h;cases h
  simp only[aX (c _ g.2.1)]at f;simp only[aX (c _ g.1),aX (c _ g.2.2)];exact hi.rl d i j l k a f
 rw[qBa]at b;let⟨l,g⟩:=b;simp at g;have c:∀a,Nat.beq a n=false->n≠a:=λa h e=>by subst e;rw[o9]at h;cases h
 simp only[aX (c _ g.1),aX (c _ g.2)];exact hi.cp d x l
def aGn{s s':DS}{w:TWr}(hi:Inv s)(h:W1 s w s'):Inv s':=by
 cases w with
 |sl n v=>obtain⟨_,rfl⟩:=h;exact aE2 hi n v
 |ob l o=>obtain⟨_,_,rfl⟩:=h;exact⟨hi.up,hi.rl,hi.cp⟩
 |st l f a=>obtain⟨_,_,_,_,rfl⟩:=h;exact⟨hi.up,hi.rl,hi.cp⟩
 |kill l=>rcases h with⟨_,_,_,rfl⟩|⟨_,_,_,rfl⟩|⟨_,rfl⟩<;>exact⟨hi.up,hi.rl,hi.cp⟩
 |nw l o=>obtain⟨_,_,rfl⟩:=h;exact⟨hi.up,hi.rl,hi.cp⟩
 |up l i e y=>obtain⟨_,_,rfl⟩:=h;exact⟨hi.up,hi.rl,hi.cp⟩
def akc{s s':DS}{ws:B3}(h:Ws s ws s')(hi:Inv s):Inv s':=by induction h with|nil s=>exact hi|cons h _ i=>exact i (aGn hi h)
def akL{s:DS}{l:Nat}{o:TObj}:Fr s {s with h:=s.h.set l o,o:=(l,0)::s.o}:=
 ⟨rfl,by simp,λ_ h=>⟨h,rfl⟩,λp a=>qAk _ a,rfl,λb c n=>.inl (aX λe=>n (by subst e;simp))⟩
def aJL{s s':DS}{w:TWr}(h:W1 s w s'):Fr s s':=by
 cases w with
 |sl n v=>
  obtain⟨_,rfl⟩:=h;refine⟨by simp,qAd _,λk a=>?_,λ_ h=>h,rfl,λ_ _ _=>.inl rfl⟩;simp at a;exact⟨a.2,aX (qBo a.1)⟩
 |ob l o=>obtain⟨_,_,rfl⟩:=h;exact akL
 |st l f d=>
  obtain⟨g,c,j,m,rfl⟩:=h;refine⟨rfl,by simp,λ_ h=>⟨h,rfl⟩,λp r=>qBz _ r,rfl,λt x z=>?_⟩;by_cases e:l=t
  ·subst e;simp only[cK x,j];let⟨A,C⟩:=KP m;refine .inr ⟨g,c,rfl,rfl,by rw[A];simp;omega,λq b=>?_⟩;simp only[decide_eq_false_iff_not,qAr,qAJ,not_or]at b;have u:¬(f<=q/\q<f+(aK d).length):=λB=>b.1 ⟨q+1,Io.2 (by rw[pO]at B;omega),rfl⟩
   grind
  exact .inl (aX e)
 |kill l=>rcases h with⟨_,_,_,rfl⟩|⟨_,_,_,rfl⟩|⟨_,rfl⟩<;>exact akL
 |nw l o=>obtain⟨_,_,rfl⟩:=h;exact akL
 |up l i e y=>obtain⟨_,_,rfl⟩:=h;exact akL
def apG{s s':DS}{ws:B3}(h:Ws s ws s'):Fr s s':=by induction h with|nil s=>exact Fr.refl s|cons h _ i=>exact(aJL h).trans i
section
variable {P:Program}{γ:Type}{b:γ}
def aCf{H:A0}{t:As}{θ:Nat->B8}{up:A5}{k:Nat}{o:Oper}{K:A5->B3->Option γ}(q:Kup t up)(h:dS (TI.of P) θ up k o.dst t H o.op K=some b):rX P H t k o K b:=by
 let⟨d,p,E,F,u,G⟩:=o;cases p with
 |move x=>exact aFQ h
 |assign x=>exact az8 h
 |pick c x y=>exact aEN h
 |nilCheck x=>exact auu h
 |binOp p t x y I=>exact aBE q h
 |unOp p t x=>exact aD5 h
 |fieldAddr s x f=>exact arA h
 |field s x f=>exact aBL h
 |indexAddr t x i=>exact arj h
 |index t x i=>exact aBV h
 |extract x i=>exact axU h
 |slice t x J L v=>
  cases v with
  |none=>exact aA7 h
  |some m=>cases h
 |build t parts=>exact aBh h
 |makeFunc w first z=>
  cases w with
  |func f=>exact auq h
  |_=>cases h
 |load t x=>exact aEm h
 |convert s t x=>exact axo h
 |store t x y=>exact aBZ h
 |alloc t=>exact aCO h
 |box t x=>
  refine aIa h λA _ g=>(Dl A λl _=>QO ?_ l).symm;have e:nth .dead H k=.res:=by unfold mh at g;split at g;assumption;cases g
  rw[e];exact⟨rfl,λ_=>rfl⟩
 |makeMap t r=>
  cases r with
  |none=>exact axX h
  |some x=>cases h
 |buildSlice t B parts=>exact aoW h
 |makeSlice t x y=>exact aq5 h
 |call c=>
  let⟨a,n,C⟩:=c;cases a with
  |builtin D=>
   cases D<;>first|exact aGl h|exact az6 h|exact aHd h|cases h
  |_=>cases h
 |lookup t m j ok=>exact azh h
 |mapUpdate t m j x=>exact ap6 h
 |_=>cases h
structure Sm(e f:Eff):Prop where
 rs:e.rs=f.rs
 ro:e.ro=f.ro
 ws:jA e.ws=jA f.ws
 wo:jS e.ws=jS f.ws
inductive Sms:B4→B4→Prop where
 |nil:Sms [] []
 |cons {e f:Eff} {es fs:B4}:Sm e f→Sms es fs→Sms (e::es) (f::fs)
def GR:∀(ws:B3) (H:A0),jA (erase ws)=jA (Cj H ws)/\jS (erase ws)=jS (Cj H ws)|[],_=>⟨rfl,rfl⟩|w::ws,H=>by let⟨h,a⟩:=GR ws (wrH H w);cases w<;>simp only[erase,Cj,GU,jA,jS,qBG]at *<;>exact⟨by rw[h],by rw[a]⟩
def akM(a c:B5):jA (a++c)=jA a++jA c:=by simp[jA]
def an5(a c:B5):jS (a++c)=jS a++jS c:=by simp[jS]
def afA:∀(l:A5) (os:A6),jA (mD l os)=[]|[],_=>rfl|_::_,[]=>rfl|l::s,o::os=>by simp only[mD];exact afA s os
def ajS:∀(l:A5) (os:A6),os.length=l.length->jS (mD l os)=l|[],[],_=>rfl|[],_::_,h=>by cases h|_::_,[],h=>by cases h|l::s,o::os,h=>by have:=ajS s os (by simpa using h);simp only[mD,jS,qBG]at this|-;rw[this]
def afQ:∀(l:A5),jA (l.map λl=>Wr.obj l .dead)=[]|[]=>rfl|_::s=>by simp;exact afQ s
def ah8:∀(l:A5),jS (l.map λl=>Wr.obj l .dead)=l|[]=>rfl|l::s=>by have:=ah8 s;simp only[qAy,jS,qBG]at this|-;rw[this]
def aCS{e f b c:Eff}(h:Sm e f)(a:Sm b c):gP e b=gP f c:=by unfold gP;rw[h.rs,h.ro,h.ws,h.wo,a.rs,a.ro,a.ws,a.wo]
def auX{es fs:B4}(h:Sms es fs):∀i,Sm (es.getD i wT) (fs.getD i wT):=by induction h with|nil=>intro i;exact⟨rfl,rfl,rfl,rfl⟩|cons h _ a=>intro i;cases i with|zero=>exact h|succ i=>exact a i
def axR{l:List Oper}{es fs:B4}(h:Sms es fs):ng l es=ng l fs:=by unfold ng;congr 1;funext j;congr 2;funext i;rw[aCS (auX h i) (auX h j)]
def aE8{ops:Array Oper}{o:Oper}{s:DS}{k:Nat}{rd:A5}{ws:B3}{b:B5}(f:eG ops (iX s).tmps o=some true)(h:aP P k o (bL (aU s.h s.t)) (obj? (aB s.h))=some (rd,b))
  (g:(∀x∈o.op.operands,VF (bL (aU s.h s.t) x))->b=Cj s.h ws):Jq P ops o (iX s) ⟨bE ops o,rd,Cj s.h ws⟩:=by
 intro t c;refine .inl ⟨by rw[wh c.rs];exact f,?_⟩;intro C i a w d next Q n
 have v:=Nz c.rs;have e:=g λx j=>by have l:bL (aU s.h s.t) x=bL t.tmps x:=(v x j).symm;rw[l];exact(d.ev x).vf
 subst e;exact akF (k:=k) (rd:=rd) (abh h v c.ro) C i a w d next Q n
def aH7{ops:List Oper}{o:Oper}{s:DS}{A B:DS->Option γ}(h:gdK ops o s A B=some b):(eG ops.toArray (iX s).tmps o=some true/\A s=some b)∨(eG ops.toArray (iX s).tmps o=some false/\B s=some b):=by
 unfold gdK at h;unfold eG;cases g:o.guard with
 |none=>rw[g]at h;exact .inl ⟨rfl,h⟩
 |some p=>
  let⟨j,w⟩:=p;rw[g]at h;simp only at h|-;rw[List.getElem?_toArray];cases f:(ops[j]?).bind (·.dst)with
  |none=>rw[f]at h;cases h
  |some d=>
   rw[f]at h;simp only at h|-;have t:(iX s).tmps.getD d .unk=av s.h (nth .unk s.t d):=Ez s.h s.t d;rw[t];have l:∀v,nth .unk s.t d=v->s.t.set d v=s.t:=λv k=>by
    apply qBU;intro n;by_cases e:d=n
    ·subst e;by_cases c:d<s.t.length
     ·rw[qCx c,qAc c];rw[jF,List.getD,qAc c]at k
      grind
     grind
    grind
   split at h
   ·rename_i q a;simp only[a,av,kr];rw[ni,ni,ni,ni]at h;cases q
    ·have i:=l _ a;cases w
     ·simp_all
     simp_all
    have i:=l _ a;cases w
    ·simp only[cond_false,cond_true,i]at h;exact .inr ⟨rfl,h⟩
    simp_all
   ·rename_i a;rw[a];exact .inr ⟨rfl,h⟩
   cases h
def aBu(o:Oper)(s:DS):(J9 o s).t=s.t/\(J9 o s).h=s.h/\(J9 o s).d=s.d/\(J9 o s).o=s.o/\(J9 o s).oo=s.oo:=by
 unfold J9
 grind
def ayH{o:Oper}{s s1:DS}{ws:B3}(hi:Inv s1)(hs:Ws s ws s1)(h0:Inv s)(z:aqo s.t o ws)(A:∀x d,o.op=.move x->o.dst=some d->ws=[.sl d (gq s.t x)]):Inv (J9 o s1):=by
 unfold J9;split;·rename_i B i j g d r t;cases m:Nat.beq d i ||Nat.beq d j with|true=>exact hi|false=>
   rw[cond_false];simp at m;have p:∀a,Nat.beq d a=false->d≠a:=λa h e=>by subst e;rw[o9]at h;cases h
   obtain⟨v,rfl,C⟩:=z d i j B g r t;cases hs with|cons n q=>
    cases q;obtain⟨l,rfl⟩:=n;refine⟨hi.up,λu D E hmem k a f=>?_,hi.cp⟩;rcases qAh.1 hmem with e|hmem
    ·cases e;simp only[aX (p i m.1)]at f;let⟨c,n,q⟩:=C k a f;refine⟨c,by simp only[aX (p j m.2)];exact n,λb w=>?_⟩;simp only[cK l]at w
     grind
    exact hi.rl u D E hmem k a f
 ·rename_i x d r t;cases m:Nat.beq d x with|true=>exact hi|false=>
   rw[cond_false];have p:d≠x:=λe=>by subst e;rw[o9]at m;cases m
   have F:=A _ d r t;subst F;cases hs with|cons n q=>
    cases q;obtain⟨l,rfl⟩:=n;have I:nth .unk (s.t.set d (gq s.t (.tmp x))) x=nth .unk s.t x:=aX p;have G:nth .unk (s.t.set d (gq s.t (.tmp x))) d=nth .unk s.t x:=cK l;refine⟨λi k a hmem f=>?_,hi.rl,λu H hmem=>?_⟩;·simp only at hmem f;cases y:mem (s.up.filter λi=>!(Nat.beq i d)) x with|false=>simp only[y]at hmem;exact hi.up i k a hmem f|true=>
      simp only[y,cond_true]at hmem;rw[mem_iff,qAh]at hmem;rcases hmem with rfl|hmem
      ·rw[G]at f;exact h0.up x k a (mem_filter y).1 f
      exact hi.up i k a (mem_iff.2 hmem) f
    rcases qAh.1 hmem with e|hmem
    ·grind
    exact hi.cp u H hmem
 exact hi
end
section
variable {P:Program}{γ:Type}{b:γ}{θ:Nat→B8}{E:B6}
def aGi{te:Nat}{H:A0}{vs:As}{e:Ent}{A B:Option γ}(a:ah P te e)(h:gdE H vs e A B=some b):A=some b∨B=some b:=by
 unfold gdE at h;split at h;·grind
 rename_i g _;let⟨_,w,_⟩:=a;unfold JC at w;rw[qAa,qAa]at w;let⟨⟨_,w⟩,_⟩:=w;simp at w;let⟨s,u,_⟩:=KG e.ps 0 _ [] [] w.1 (qAd _) h;let⟨x,_,c⟩:=Q8 u
 grind
def aq6{te:Nat}{H:A0}{k f:Nat}{vs:As}{K:Nat->A5->B3->TV->Option γ}{X:Nat->A5->B3->Int->Option γ}:∀{E:B6},(∀e∈E,ah P te e)->awW H k f vs E K X=some b->∃e∈E,e.f=f/\apZ H k vs e K X=some b
 |[],_,h=>by cases h
 |e::E,c,h=>by
  have t:awW H k f vs E K X=some b->∃a∈e::E,a.f=f/\apZ H k vs a K X=some b:=λg=>by
   let⟨a,j,l,m⟩:=aq6 (λe d=>c e (qAk _ d)) g
   grind
  rcases bD h with⟨i,g⟩|⟨_,g⟩
  ·simp at i;rcases aGi (c e cn) g with g|g
   ·simp_all
   exact t g
  exact t g
def azR{H:A0}{t:As}{up:A5}{k:Nat}{o:Oper}{K:A5->B3->Option γ}(a:Kup t up)(h:dS (TI.of P) θ up k o.dst t H o.op K=some b):
  ∃r s w,aP P k o (bL (aU H t)) (obj? (aB H))=some (r,w)/\((∀x∈o.op.operands,VF (bL (aU H t) x))->w=Cj H s)/\aqo t o s/\(∀x d,o.op=.move x->o.dst=some d->s=[.sl d (gq t x)])/\K r s=some b:=by
 by_cases m:∃x,o.op=.move x;·let⟨x,c⟩:=m;let⟨d,p,i,j,f,l⟩:=o;subst c;refine⟨[],fP d (gq t x),aA d (av H (gq t x)),by simp only[aP,aC,bZ],λ_=>(jW H d _).symm,amr rfl _,λy n e g=>?_,h⟩;cases e;subst g;rfl
 let⟨r,s,w,q,u,v,z⟩:=aCf (P:=P) a h
 grind
def auA{s s1:DS}{d:Option Tmp}{v:TV}(h:Ws s (fP d v) s1):iX s1=(iX s).wr (aA d (av s.h v)):=by rw[aDY h,jW]
def aHZ(P:Program)(te:Nat)(b:γ)(p:Int->DS->Option γ)(ops:List Oper)(l:List Oper)(es:B4)(s:DS)(K:B4->DS->Option γ):Prop:=
 (∃e r a,ATr P ops.toArray l e (iX s) (iX a)/\K (es.reverse++r) a=some b/\Sms r e/\Fr s a/\Inv a/\a.h.length=s.h.length)∨
 ∃f o g d a c,l=f++o::g/\ASteps P ops.toArray f (iX s) d/\eG ops.toArray d.tmps o=some true/\OpX P o (Cz te c) d (iX a)/\p c a=some b/\Fr s a/\Inv a/\a.h.length=s.h.length
def ale{te:Nat}(H:∀e∈E,ah P te e){z:Int->DS->Option γ}{ops:List Oper}:∀(l:List Oper) (k:Nat) (es:B4) (s:DS) (K:B4->DS->Option γ),Inv s->XQ (TI.of P) θ E z ops l k es s K=some b->aHZ P te b z ops l es s K
 |[],k,es,s,K,u,h=>.inl ⟨[],[],s,.nil _,by rw[qAt];exact h,.nil,Fr.refl s,u,rfl⟩
 |o::l,k,es,s,K,u,h=>by
  have h:(gdK ops o s (opK (TI.of P) θ E z ops o (λk es s=>XQ (TI.of P) θ E z ops l k es s K) k es) λs=>F4 (fP o.dst (.tup [])) s λs=>XQ (TI.of P) θ E z ops l k (⟨bE ops.toArray o,[],erase (fP o.dst (.tup []))⟩::es) s K)=some b:=h;have A:∀(e f:Eff) (Q:Nat) (g:DS),Jq P ops.toArray o (iX s) f->iX g=(iX s).wr f.ws->Sm e f->Fr s g->Inv g->g.h.length=s.h.length->XQ (TI.of P) θ E z ops l Q (e::es) g K=some b->aHZ P te b z ops (o::l) es s K:=λe f Q g h1 h2 R F h5 h6 h7=>by
   rcases ale H l Q (e::es) g K h5 h7 with⟨S,I,T,N,U,V,W,X,Y⟩|⟨l1,op,l2,sx,T,c,g0,N,U,V,W,X,Y,g7⟩
   ·rw[h2]at N;exact .inl ⟨f::S,e::I,T,.cons h1 N,by simpa using U,.cons R V,F.trans W,X,Y.trans h6⟩
   have st:=(ATr.cons (l:=[]) h1 (.nil _)).steps;rw[<-h2]at st;refine .inr ⟨o::l1,op,l2,sx,T,c,by rw[g0];rfl,?_,U,V,W,F.trans X,Y,g7.trans h6⟩;cases st with
   |cons a b=>cases b;exact .cons a N
  rcases aH7 h with⟨q,h⟩|⟨q,h⟩
  ·unfold opK at h;split at h
   ·rename_i f y j;split at h
    ·rename_i Z m hf;let⟨e,B,he2,R⟩:=aq6 H h;clear h;have n:y.toList.map (bL (iX s).tmps)++aU s.h m=aU s.h (y.toList.map (gq s.t)++m):=by
      rw[uM,uM,qBj,qBh];congr 1;exact qBu λx _=>bZ _ _ _
     have J:(iX s).heap.length=(aB s.h).length:=rfl;have L:bL (iX s).tmps f=.func Z (aU s.h m):=by rw[show bL (iX s).tmps f=av s.h (gq s.t f)from bZ _ _ _,hf];rfl
     let⟨t,ho⟩:=xG j;subst he2;rcases aFK (H e B) R with⟨C,D,Hi,I,Ho,G,v,c1,c2,O,c4,c5,c6,c7⟩|⟨nn,C,D,Hi,Ho,G,c,c1,c2,O,c4,c5,c6,c7⟩
     ·let⟨g,i,F⟩:=yT _ _ _ c5;let⟨sm,wa,wb⟩:=ayF i;let⟨a1,a2⟩:=c7 s sm rfl wa;have M:=GQ (P:=P) (ops:=ops.toArray) (o:=o) (s:=iX s) q ho L (H e B).1 (c2 _) O (by
       rw[J,n];exact c4) c1
      refine A ⟨bE ops.toArray o,C++rng k (aD e.rs),(C++rng k (aD e.rs)).map (λl=>.obj l .dead)++erase (fP o.dst v)⟩ _ _ g M ?_ ⟨rfl,rfl,?_,?_⟩ (apG i) (akc i u) (XI i).2 F
      ·rw[auA wb,a2];have e2:iX sm=(iX s).wr (mD (C++rng k (aD e.rs)) (Ho.map (eU (nm (C++rng k (aD e.rs)) (iX s).heap.length)))):=by
        rw[M7];unfold iX;rw[a1,(atl wa λw q=>by let⟨p,e,_⟩:=c6 w q;rw[e];simp).2]
       rw[e2,<-IZ];rfl
      ·rw[akM,akM,afQ,afA,qAo,qAo,(GR (fP o.dst v) sm.h).1,jW,a2];rfl
      rw[an5,an5,ah8,ajS _ _ (by rw[qAi];exact O),(GR (fP o.dst v) sm.h).2,jW,a2];rfl
     let⟨g,i,F⟩:=yT _ _ _ c5;have a1:=c7 s g rfl i;have hX:=ap9 (P:=P) (o:=o) (s:=iX s) ho L (H e B).1 (c2 _) O (by rw[J,n];exact c4) c1;have e2:iX g=(iX s).wr (mD (C++rng k nn) (Ho.map (eU (nm (C++rng k nn) (iX s).heap.length)))):=by
      rw[M7];unfold iX;rw[a1,(atl i λw q=>by let⟨p,e,_⟩:=c6 w q;rw[e];simp).2]
     rw[<-e2]at hX;exact .inr ⟨[],o,l,_,g,c,rfl,.nil _,q,hX,F,apG i,akc i u,(XI i).2⟩
    cases h
   rename_i j;let⟨rd,G,ws',r1,r2,r3,r5,r4⟩:=azR (P:=P) u.up h;let⟨g,i,h⟩:=yT _ _ _ r4;have d:=aBu o g;have es1:iX (J9 o g)=iX g:=by unfold iX;rw[d.1,d.2.1]
   have r:=apG i;refine A ⟨bE ops.toArray o,rd,erase G⟩ ⟨bE ops.toArray o,rd,Cj s.h G⟩ _ (J9 o g) (aE8 q r1 r2) ?_ ⟨rfl,rfl,(GR G s.h).1,(GR G s.h).2⟩ ⟨?_,?_,?_,?_,?_,?_⟩ (ayH (akc i u) i u r3 r5) (by rw[d.2.1];exact(XI i).2) h
   ·rw[es1];exact aDY i
   ·rw[d.1];exact r.tl
   ·rw[d.2.1];exact r.hl
   ·rw[d.2.2.1,d.1];exact r.d
   ·rw[d.2.2.2.1];exact r.om
   ·rw[d.2.2.2.2];exact r.oo
   rw[d.2.2.2.1,d.2.1];exact r.o
  let⟨g,i,h⟩:=yT _ _ _ h;have d:iX g=(iX s).wr (aA o.dst (.tup [])):=auA i;exact A ⟨bE ops.toArray o,[],erase (fP o.dst (.tup []))⟩ _ _ g (Hu q) d ⟨rfl,rfl,by rw[(GR (fP o.dst (.tup [])) s.h).1,jW];rfl,by rw[(GR (fP o.dst (.tup [])) s.h).2,jW];rfl⟩ (apG i) (akc i u) (XI i).2 h
end
def akt{n:Nat}{l q:Nat}:∀{es:Be} {s o:A5},fO n s o es=true->cov es l q=true->∃d,Ed.o l d∈es/\∀i,d=.bx i->q∈i.flatMap λp=>rng (p.1+1) (yg p.2)
 |[],_,_,_,h=>by cases h
 | .r _ _::es,s,o,w,h=>by
  simp only[fO,qAa]at w;let⟨d,a,b⟩:=akt (es:=es) w.2 h
  grind
 | .w _::es,s,o,w,h=>by
  let⟨d,a,b⟩:=akt (es:=es) (by simpa only[fO]using w) h
  grind
 | .o f d::es,s,o,w,h=>by
  simp only[fO,qAa]at w;simp only[cov,qBe,qAa]at h;rcases h with⟨a,b⟩|h
  ·have e:=qAj a;subst e;refine⟨d,by simp,λi e=>?_⟩;subst e;exact mem_iff.1 b
  let⟨c,a,b⟩:=akt w.2.2 h
  grind
def TK{n l:Nat}{b d:HO}:∀{es:Be} {s o:A5},fO n s o es=true->Ed.o l b∈es->Ed.o l d∈es->b=d
 |[],_,_,_,h,_=>by cases h
 | .r _ _::es,s,o,w,h,a=>by
  simp only[fO,qAa]at w;exact TK w.2 (by simpa using h) (by simpa using a)
 | .w _::es,s,o,w,h,a=>TK (es:=es) (by simpa only[fO]using w) (by simpa using h) (by simpa using a)
 | .o c f::es,s,o,w,h,a=>by
  simp only[fO,qAa]at w;rcases qAh.1 h with e|g
  ·injection e with e1 e2;subst e1;subst e2;rcases qAh.1 a with e|g'
   ·grind
   exact(JL w.2.2 (qBB ..) g').elim
  rcases qAh.1 a with e|g'
  ·injection e with e1 e2;subst e1;exact(JL w.2.2 (qBB ..) g).elim
  exact TK w.2.2 g g'
def auC:∀{a l:A5},awX a l=true->∀x∈a,x∈l
 |[],_,_,x,h=>by cases h
 |y::a,l,h,x,hx=>by
  simp only[awX,qAa]at h;rcases qAh.1 hx with rfl|hx
  ·exact mem_iff.1 h.1
  exact auC h.2 x hx
def avo{n:Nat}{o:List (Nat×Nat)}{es:Be}(h:asi n o es=true){l q:Nat}(a:l<n)(m:(l,q)∈o):cov es l q=true:=by
 have:=qAP.1 h _ m;simp only[qBe]at this;rcases this with h|h
 ·have:n<=l:=qAf h;omega
 exact h
def Kw.mono{a c:TObj}{f g:Nat->Bool}(h:Kw a c f)(b:∀q,g q=false->f q=false):Kw a c g:=by
 rcases h with e|⟨x,y,d,i,j,k⟩
 ·exact .inl e
 exact .inr ⟨x,y,d,i,j,λq l=>k q (b q l)⟩
def alS{n:Nat}{h0 b:A0}{o:List (Nat×Nat)}{eds:Be}(w:fO n [] [] eds=true)(hs:asi n o eds=true)
  (f:∀l,l<n->(l,0)∉o->Kw (nth .dead h0 l) (nth .dead b l) λq=>decide ((l,q+1)∈o)):
  ∀l,l<n->((∀d,Ed.o l d∉eds)->Kw (nth .dead h0 l) (nth .dead b l) λ_=>false)/\∀i,Ed.o l (.bx i)∈eds->Kw (nth .dead h0 l) (nth .dead b l) (rU i):=by
 intro l c;refine⟨λj=>?_,λi m=>?_⟩
 ·have s:∀q,(l,q)∉o:=λq a=>by
   let⟨d,g,_⟩:=akt w (avo hs c a)
   grind
  grind
 have v:∀q,(l,q)∈o->q∈i.flatMap λp=>rng (p.1+1) (yg p.2):=λq a=>by
  let⟨d,g,k⟩:=akt w (avo hs c a);exact k i (TK w g m)
 have e:(l,0)∉o:=λh=>by
  have:=v 0 h;rw[qBx]at this;let⟨p,_,r⟩:=this;rw[Io]at r;omega
 refine(f l c e).mono λq a=>decide_eq_false λh=>?_;unfold rU at a;rw[AU]at a
 grind
noncomputable def JV:A5->As->As|[],t=>t|n::l,t=>JV l (t.set n .unk)
theorem avh{a:Type}:∀(l:A5) (t:As) (K:As->Option a),awV l t K=K (JV l t)|[],_,_=>rfl|n::l,t,K=>by have h:awV (n::l) t K=Ar t n .unk λt=>awV l t K:=rfl;rw[h,ni];exact avh l _ K
def ahq:∀(l:A5) (t:As),(JV l t).length=t.length|[],_=>rfl|n::l,t=>by rw[JV,ahq l,qAT]
def agd:∀(l:A5) (t:As) (k:Nat),nth .unk (JV l t) k=if k∈l then .unk else nth .unk t k
 |[],_,_=>by simp[JV]
 |n::l,t,k=>by
  rw[JV,agd l];by_cases a:k∈l
  ·grind
  rw[if_neg a];by_cases h:n=k
  ·subst h;rw[if_pos (qBB ..)];by_cases b:n<t.length
   ·exact cK b
   exact mq (by rw[qAT];omega)
  rw[aX h,if_neg (by simp;exact⟨λe=>h e.symm,a⟩)]
def avA{n:Nat}:∀(l:A5) (t:As),jw n t=true->jw n (JV l t)=true
 |[],_,h=>h
 |k::l,t,h=>by
  refine avA l _ ?_
  induction t generalizing k with
  |nil=>exact h
  |cons v t i=>
   simp only[jw,qAa]at h;cases k with
   |zero=>simp;exact h.2
   |succ k=>simp only[List.set_cons_succ,jw,qAa];exact⟨h.1,i k h.2⟩
noncomputable def qO(a:A5)(eds:Be)(s:DS)(u:Bm):DS:=
 ⟨(dW bS eds u (JV (a++j3 eds) s.t) s.h).1,(dW bS eds u (JV (a++j3 eds) s.t) s.h).2,(a++j3 eds)++s.d,aci (dW bS eds u (JV (a++j3 eds) s.t) s.h).2 eds++s.o,s.up.filter λi=>!(mem (a++j3 eds) i),[],[],s.oo⟩
def adJ{b:Type}(a:A5)(eds:Be)(s:DS)(u:Bm)(K:DS->Option b):Li a eds s u K=K (qO a eds s u):=by unfold Li qO;simp only[avh,Ry]
structure St(m:Nat)(h0:A0)(s:DS):Prop where
 inv:Inv s
 len:m≤s.h.length
 ent:∀l,l<m→(l,0)∉s.o++s.oo→Kw (nth .dead h0 l) (nth .dead s.h l) fun q=>decide ((l,q+1)∈s.o++s.oo)
def St.step{m:Nat}{h0:A0}{s s':DS}(h:St m h0 s)(f:Fr s s')(hi:Inv s'):St m h0 s':=by
 refine⟨hi,qAs h.len f.hl,λl c n=>?_⟩;rw[f.oo]at n|-;simp at n;refine Kw.trans (h.ent l c ?_) ((f.o l (qAB c h.len) n.1).mono (g:=λq=>decide ((l,q+1)∈s'.o++s.oo)) λq a=>?_) λq a=>?_
 ·simp;exact⟨λb=>n.1 (f.om _ b),n.2⟩
 ·grind
 simp at a|-;exact⟨λb=>a.1 (f.om _ b),a.2⟩
def avr(es:Be)(x:jI (bM es)):(fF (bM es) x).map U.t=bM es++[]:=by rw[KV,qAt]
def xO{H:A0}{l q:Nat}:∀{es:Be} {d:HO},Ed.o l d∈es->(match d with
  | .bx i=>match nth .dead H l with
   | .box _=>q∈i.flatMap λp=>rng (p.1+1) (yg p.2)
   |_=>q=0
  |_=>q=0)->(l,q)∈aci H es
 |[],_,h,_=>by cases h
 | .r _ _::es,d,h,k=>xO (es:=es) (by simpa using h) k
 | .w _::es,d,h,k=>xO (es:=es) (by simpa using h) k
 | .o a b::es,d,h,k=>by
  simp only[aci,qAr];rcases qAh.1 h with e|h
  ·grind
  exact .inr (xO h k)
def ad3{k:Nat}{s:Sk}:∀{es:Be},Ed.r k s∈es->k∈j3 es
 |[],h=>by cases h
 | .r a b::es,h=>by
  simp only[j3,qAh];rcases qAh.1 h with e|h
  ·grind
  exact .inr (ad3 h)
 | .w _::es,h=>ad3 (es:=es) (by simpa using h)
 | .o _ _::es,h=>ad3 (es:=es) (by simpa using h)
section
variable {s:DS}{a:A5}{eds:Be}{m:Nat}{h0:A0}
def ana(w:fO s.h.length [] [] eds=true)(x:jI (bM eds)){k:Nat}(h:k∉a++j3 eds):nth .unk (qO a eds s (fF _ x)).t k=nth .unk s.t k:=by
 have B:=uz eds (fF _ x) s.h.length [] [] (JV (a++j3 eds) s.t) s.h [] (avr eds x) w (qAd _) rfl;rcases B.slot k with e|⟨c,u,b,_⟩
 ·rw[qO,e,agd,if_neg h]
 exact(h (qBz _ (ad3 b))).elim
def Qn(w:fO s.h.length [] [] eds=true)(x:jI (bM eds)):Fr s (qO a eds s (fF _ x)):=by
 have B:=uz eds (fF _ x) s.h.length [] [] (JV (a++j3 eds) s.t) s.h [] (avr eds x) w (qAd _) rfl;refine⟨by rw[qO,B.tl,ahq],by rw[qO,B.hl];omega,λk z=>?_,λp A=>qBz _ A,rfl,λl C o=>?_⟩
 ·have g:k∉(a++j3 eds)++s.d:=z;rw[qAr,not_or]at g;exact⟨g.2,ana w x g.1⟩
 let J:=qO a eds s (fF _ x)
 have n:(l,0)∉aci J.h eds++s.o:=o;rw[qAr,not_or]at n;by_cases d:∃i,Ed.o l i∈eds
 ·let⟨i,d⟩:=d;let⟨u,r,D,b⟩:=B.obj l i d;have b:nth .dead J.h l=(bR bS (nth .dead s.h l) i u).1:=b;cases i with
  |bx t=>
   cases j:nth .dead J.h l with
   |box v=>
    rw[j]at b;cases y:nth .dead s.h l with
    |box c=>
     rw[y]at b;simp only[bR]at b;cases f:(kD bS t (some c) u).1 with
     |none=>rw[f]at b;cases b
     |some E=>
      rw[f]at b;cases b;let⟨F,G⟩:=(P5 t (some c) u r D).2 c v rfl f;refine .inr ⟨c,v,rfl,rfl,F,λq f=>G q ?_⟩;rw[decide_eq_false_iff_not]at f;have f:(l,q+1)∉aci J.h eds++s.o:=f;rw[qAr,not_or]at f;unfold rU;rw[AU];exact λm=>f.1 (xO d (by simp only[j];exact m))
    |_=>rw[y]at b;simp only[bR]at b;cases b
   |_=>exact(n.1 (xO d (by simp only[j]))).elim
  |dead=>exact(n.1 (xO d rfl)).elim
  |box H=>exact(n.1 (xO d rfl)).elim
  |own e=>exact(n.1 (xO d rfl)).elim
  |mp e=>exact(n.1 (xO d rfl)).elim
  |arr e=>exact(n.1 (xO d rfl)).elim
 exact .inl (B.keepO l C λi h=>d ⟨i,h⟩)
def af8(w:fO s.h.length [] [] eds=true)(x:jI (bM eds))(hi:Inv s):Inv (qO a eds s (fF _ x)):=by refine⟨λi k c h b=>?_,λd i j h=>(by cases h),λd x h=>(by cases h)⟩;let⟨g,e⟩:=mem_filter h;have n:i∉a++j3 eds:=AU.1 (by simpa using e);rw[ana w x n]at b;exact hi.up i k c g b
def VX{e:Type}{b:e}{s':DS}{K:jI (bM eds)->Option e}(g:m<=s.h.length)(t:jw s.h.length s.t=true)(i:Ji s.h.length s.h=true)(w:fO s.h.length [] [] eds=true)(f:Fr (fresh s) s')
  (h:Jv a eds s s' (λu=>AJ (bM eds) u K)=some b):∃x,K x=some b/\Le m (aU s'.h s'.t) (aB s'.h) (aU (qO a eds s (fF _ x)).h (qO a eds s (fF _ x)).t) (aB (qO a eds s (fF _ x)).h):=by
 unfold Jv at h;rw[Yj]at h;let⟨d,h⟩:=(bD h).resolve_right λh=>by cases h.2
 simp at d;let⟨u,j,l⟩:=ab8 (m:=m) (T0:=JV (a++j3 eds) s.t) rfl g (avA _ _ t) i w (by rw[ahq];exact f.tl.symm) f.hl (λk p=>by
  rw[agd];by_cases c:k∈a++j3 eds;·grind
  rw[if_neg c];exact .inr (f.d k λn=>c (auC d.1 k n)).2.symm) (alS w d.2 f.o) h
 obtain⟨x,rfl,o⟩:=Q8 j;exact⟨x,o,(l _ _ rfl).2.2⟩
def Tz{a:Type}{b:a}{K:Option a}(h:F6 eds s K=some b):(jw s.h.length s.t=true/\Ji s.h.length s.h=true/\fO s.h.length [] [] eds=true)/\K=some b:=by
 unfold F6 at h;rw[Yj]at h
 grind
end
def AW.vf{P:Program}{m:Nat}{c:Code}{Q:QT}{s:DS}(h:(∀n,VF (av s.h (nth .unk s.t n)))->AW P m c Q (aU s.h s.t) (aB s.h)):AW P m c Q (aU s.h s.t) (aB s.h):=λC d a w k b=>h (λn=>by have:=(b.ev (.tmp n)).vf;rw[show bL (ASt.mk (aU s.h s.t) (aB s.h)).tmps (.tmp n)=av s.h (nth .unk s.t n)from bZ _ _ _]at this;exact this) C d a w k b
def aEd{k:IntKind}{n:Int}(h:k.min<=n)(h2:n<=k.max):k.wrap n=n:=by
 cases k;·exact IntWalk.i8_in n ⟨h,h2⟩
 ·exact IntWalk.i16_in n ⟨h,h2⟩
 ·exact IntWalk.i32_in n ⟨h,h2⟩
 ·exact IntWalk.i64_in n ⟨h,h2⟩
 ·exact IntWalk.u8_in n ⟨h,h2⟩
 ·exact IntWalk.u16_in n ⟨h,h2⟩
 ·exact IntWalk.u32_in n ⟨h,h2⟩
 exact IntWalk.u64_in n ⟨h,h2⟩
def XD{α:Type}{f:α->Bool}{g:α->Nat}{n:Nat}:∀{l:List α},n∈sel f g l->∃x∈l,f x=true/\g x=n
 |[],h=>by cases h
 |x::l,h=>by
  simp only[sel]at h;cases c:f x with
  |true=>
   rw[c,cond_true]at h;rcases qAh.1 h with e|h
   ·grind
   let⟨y,a,b⟩:=XD h;exact⟨y,qAk _ a,b⟩
  |false=>
   rw[c,cond_false]at h;let⟨y,a,b⟩:=XD h;exact⟨y,qAk _ a,b⟩
def amP(x:Operand)(s:DS):(OC x s).t=s.t/\(OC x s).h=s.h/\(OC x s).d=s.d/\(OC x s).o=s.o/\(OC x s).oo=s.oo/\(OC x s).rl=s.rl/\(OC x s).cp=s.cp:=by cases x<;>exact⟨rfl,rfl,rfl,rfl,rfl,rfl,rfl⟩
def aA0{x:Operand}{s:DS}(hi:Inv s)(r:gq s.t x=.lf .b true)(v:∀n,VF (av s.h (nth .unk s.t n))):Inv (OC x s):=by
 let⟨l,_,_,_,_,w,y⟩:=amP x s;refine⟨?_,by rw[l,w];exact hi.rl,by rw[l,y];exact hi.cp⟩;cases x with
 |tmp d=>
  have z:nth .unk s.t d=.lf .b true:=r
  let o:Nat->Prop:=λi=>∀k a,oQ (nth .unk s.t i)=some (k,a)->k.wrap (a+1)=a+1
  have A:∀i∈sel (λp:Nat×Nat×Nat=>Nat.beq p.1 d) (λp=>p.2.1) s.rl,o i:=λi hm k a b=>by
   let⟨⟨e,m,j⟩,h1,h,f⟩:=XD hm;have h:e=d:=qAj h;subst h;subst f;let⟨c,B,C⟩:=hi.rl e m j h1 k a b;have D:=C true z;have E:a<c:=of_decide_eq_true D.symm;have F:sj k a:=by have:=v m;rw[aAA b]at this;exact this
   have G:sj k c:=by have:=v j;rw[aAA B]at this;exact this
   exact aEd (by have:=F.1;omega) (by have:=G.2;omega)
  have t:∀u:A5,(∀i∈u,o i)->(∀i∈sel (λp:Nat×Nat=>mem u p.1) (λp=>p.2) s.cp++u,o i)/\∀i∈sel (λp:Nat×Nat=>mem u p.2) (λp=>p.1) s.cp++u,o i:=λu q=>by
   refine⟨λi hm=>?_,λi hm=>?_⟩
   ·rcases qAr.1 hm with hm|hm
    ·let⟨⟨e,g⟩,h1,h,f⟩:=XD hm;subst f;intro k a b;rw[<-hi.cp e g h1]at b;exact q e (mem_iff.1 h) k a b
    grind
   rcases qAr.1 hm with hm|hm
   ·let⟨⟨e,g⟩,h1,h,f⟩:=XD hm;subst f;intro k a b;rw[hi.cp e g h1]at b;exact q g (mem_iff.1 h) k a b
   grind
  intro i k a h1 h;simp only[OC]at h1;rw[mem_iff,qAr]at h1;rcases h1 with h1|h1
  ·exact(t _ (t _ A).1).2 i h1 k a h
  exact hi.up i k a (mem_iff.2 h1) h
 |_=>exact hi.up
def aD9{s s1 s':DS}(h:Fr s1 s')(e:s1.t=s.t)(a:s1.h=s.h)(b:s1.d=s.d)(c:s1.o=s.o)(d:s1.oo=s.oo):Fr s s':=
 ⟨by rw[<-e];exact h.tl,by rw[<-a];exact h.hl,by rw[<-b,<-e];exact h.d,by rw[<-c];exact h.om,by rw[<-d];exact h.oo,by rw[<-a];exact h.o⟩
def ag0{d:Type}{b:d}:∀(l:A0) (n:Nat) (K:A0->Option d),ai7 l n K=some b->∃h c,l=h++y8 c/\(n<=l.length->n<=h.length)/\K h=some b
 |[],n,K,h=>⟨[],0,rfl,id,h⟩
 |o::l,0,K,h=>by
  have h:(ai7 l 0 λr=>match r with
   |[]=>bif mh o then K []else K [o]
   |x::s=>K (o::x::s))=some b:=h
  let⟨f,c,a,_,g⟩:=ag0 l 0 _ h;cases f with
  |nil=>
   rcases bD g with⟨e,g⟩|⟨_,g⟩
   ·have e:o=.res:=by unfold mh at e;split at e;rfl;cases e
    exact⟨[],c+1,by rw[e,a];rfl,λ_=>qAZ _,g⟩
   grind
  |cons x s=>exact⟨o::x::s,c,by rw[a];rfl,λ_=>qAZ _,g⟩
 |o::l,n+1,K,h=>by
  let⟨f,c,a,i,g⟩:=ag0 l n _ h
  grind
def Yo:∀c,y8 c=List.replicate c .res|0=>rfl|c+1=>by simp only[y8,Yo c,qCo]
def azF(H:A0)(c l:Nat):Lk H (H++y8 c) l:=by
 unfold Lk;by_cases h:l<H.length;·rw[rA h];exact⟨rfl,λ_=>rfl⟩
 rw[mq (by omega:H.length<=l)];have:nth .dead (H++y8 c) l=.dead∨nth .dead (H++y8 c) l=.res:=by
  rw[jF,List.getD,qAl Cl,Yo,qCa]
  grind
 rcases this with e|e<;>rw[e]<;>exact⟨rfl,λ_=>rfl⟩
def ali(H:A0)(c:Nat)(t:As):aU (H++y8 c) t=aU H t:=(YP t λl _=>azF H c l).symm
def agL(H:A0)(c:Nat):aB (H++y8 c)=aB H++List.replicate c .res:=by unfold aB;rw[qBj,Yo,qCs];congr 1;refine qBu λo _=>?_;rw[<-Yo];exact(aBy o λs _ l _=>azF H c l).symm
def auK{m:Nat}(t:An)(H:A6)(c:Nat):Le m t (H++List.replicate c .res) t H:=by
 intro C g a w _ s;have k:g.length=(H++List.replicate c AObj.res).length:=s.klen;have h:∀l,at? (g.take H.length) l=at? g l:=λl=>by
  unfold at?;by_cases j:l<H.length
  ·grind
  rw[qBq,if_neg j];by_cases i:l<g.length
  ·have r:obj? (H++List.replicate c AObj.res) l=.res:=by
    simp only[qAe,qBv]at k;unfold obj?
    grind
   have:=s.resv l r;unfold at? at this
   grind
  grind
 have f:∀l b,at? g l=some b->obj? H l=obj? (H++List.replicate c AObj.res) l:=λl b e=>by
  unfold obj?;by_cases j:l<H.length
  ·grind
  exfalso;rw[<-h l]at e;unfold at? at e
  grind
 refine⟨g.take H.length,s.step (H':=H) (Evo.refl _ _) (λl b e=>by rw[h];exact e) (by rw[qAz,k];simp only[qAe];omega) ?_ ?_ ?_ ?_ ?_ (λ_ _=>rfl) rfl rfl rfl⟩
 ·rintro b o (e|⟨l,d,i⟩) _
  ·exact .inl e
  rw[h]at d;rw[f l b d]at i;exact .inr ⟨l,d,i⟩
 ·grind
 ·intro l n b d i p q;rw[h]at d i;rw[f l b d]at p;rw[f n b i]at q;exact s.apart l n b d i p q
 ·intro l b d;rw[h]at d;exact s.bound l b d
 intro l d;cases e:at? (g.take H.length) l with
 |none=>rfl
 |some b=>
  rw[h]at e;rw[f l b e]at d;have:=s.resv l d;rw[e]at this;cases this
def Ko(l N:Nat):List Bx:=(List.range N).map λi=>if i=l then none else some i
def adV{l N i:Nat}(h:i<N):(Ko l N)[i]? =some (if i=l then none else some i):=by simp[Ko,h]
def ar3{l N i:Nat}(h:N<=i):(Ko l N)[i]? =none:=by simp[Ko,h]
def aFh(l N:Nat):(Ko l N).length=N:=by simp[Ko]
def QS{l N i j:Nat}(h:(Ko l N)[i]? =some (some j)):i<N/\i≠l/\j=i:=by
 by_cases a:i<N
 ·rw[adV a]at h
  grind
 rw[ar3 Cl]at h;cases h
def aqV(l N:Nat):some l∉Ko l N:=by
 intro h;let⟨i,a⟩:=qAR h;let⟨_,b,c⟩:=QS a
 grind
def aHI{l N i b:Nat}(h:i<N)(n:i≠l):ou (Ko l N) b i=i:=by unfold ou;rw[adV h,if_neg n];rfl
mutual
theorem alx:∀v,gy bS v=v
 | .ptr _ _=>rfl| .mapr _=>rfl| .own _=>rfl| .psl _ _ _=>rfl| .ap _ _ _ _=>rfl
 | .eptr cs=>by simp only[gy,LA cs]
 | .agg cs=>by simp only[gy,LA cs]
 | .tup cs=>by simp only[gy,LA cs]
 | .func _ cs=>by simp only[gy,LA cs]
 | .unk=>rfl| .nilp=>rfl| .nilF=>rfl| .nils=>rfl| .lf _ _=>rfl| .nat _=>rfl
theorem LA:∀vs,D7 bS vs=vs
 |[]=>rfl
 |v::vs=>by simp only[D7,alx v,LA vs]
end
def agv(H:A0)(l:Nat):∀(os:A0) (j:Nat),(xk H l j os).length=os.length|[],_=>rfl|o::os,j=>by simp only[xk,qAp,agv H l os]
def R3(H:A0)(l:Nat):∀(os:A0) (j i:Nat),nth .dead (xk H l j os) i=if j+i=l then .dead else acG H l (nth .dead os i)
 |[],j,i=>by
  simp only[xk];split<;>rfl
 |o::os,j,0=>by
  show(bif Nat.beq j l then TObj.dead else acG H l o)=_;by_cases e:j=l
  ·simp_all
  have h:Nat.beq j l=false:=by
   cases h:Nat.beq j l with
   |false=>rfl
   |true=>exact(e (qAj h)).elim
  rw[h,if_neg (by simpa using e)];rfl
 |o::os,j,i+1=>by
  show nth .dead (xk H l (j+1) os) i=if j+(i+1)=l then .dead else acG H l (nth .dead os i);rw[R3 H l os (j+1) i,show j+1+i=j+(i+1)from by omega]
def Ui(H:A0)(l:Nat):∀vs,og H l vs=vs.map (iK H l)|[]=>rfl|v::vs=>by simp only[og,qAy,Ui H l vs]
def zO(H:A0)(l:Nat)(vs:As)(k:Nat):nth .unk (og H l vs) k=iK H l (nth .unk vs k):=by rw[Ui];exact Xn (d:=.unk) (d':=.unk) (iK H l) rfl vs k
def Mr{a b:Nat}(h:a≠b):Nat.beq a b=false:=by cases c:Nat.beq a b with|false=>rfl|true=>exact(h (qAj c)).elim
def YK{a b:Nat}(h:(!(Nat.beq a b))=true):a≠b:=λe=>by subst e;rw[o9]at h;cases h
mutual
theorem Ll(H:A0)(l:Nat):∀v,wJ l v=true→iK H l v=v
 | .ptr l' o,h=>by simp only[iK,Mr (YK h),cond_false]
 | .mapr l',h=>by simp only[iK,Mr (YK h),cond_false]
 | .own l',h=>by simp only[iK,Mr (YK h),cond_false]
 | .psl l' _ _,h=>by simp only[iK,Mr (YK h),cond_false]
 | .ap l' _ _ _,h=>by simp only[iK,Mr (YK h),cond_false]
 | .eptr cs,h=>by simp only[iK,L6 H l cs h]
 | .agg cs,h=>by simp only[iK,L6 H l cs h]
 | .tup cs,h=>by simp only[iK,L6 H l cs h]
 | .func _ cs,h=>by simp only[iK,L6 H l cs h]
 | .unk,_=>rfl| .nilp,_=>rfl| .nilF,_=>rfl| .nils,_=>rfl| .lf _ _,_=>rfl| .nat _,_=>rfl
theorem L6(H:A0)(l:Nat):∀vs,qZ l vs=true→og H l vs=vs
 |[],_=>rfl
 |v::vs,h=>by
  simp only[qZ,qAa]at h;simp only[og,Ll H l v h.1,L6 H l vs h.2]
end
def Oz(l N i:Nat):Bool:=Nat.blt i N&&!(Nat.beq i l)
mutual
theorem Yn(l N:Nat):∀v,rfB N v=true→wJ l v=true→Kt (Oz l N) v=true
 | .ptr l' o,h,k=>qBE.2 ⟨h,k⟩
 | .mapr l',h,k=>qBE.2 ⟨h,k⟩
 | .own l',h,k=>qBE.2 ⟨h,k⟩
 | .psl l' _ _,h,k=>qBE.2 ⟨h,k⟩
 | .ap l' _ _ _,h,k=>qBE.2 ⟨h,k⟩
 | .eptr cs,h,k=>Xy l N cs h k
 | .agg cs,h,k=>Xy l N cs h k
 | .tup cs,h,k=>Xy l N cs h k
 | .func _ cs,h,k=>Xy l N cs h k
 | .unk,_,_=>rfl| .nilp,_,_=>rfl| .nilF,_,_=>rfl| .nils,_,_=>rfl| .lf _ _,_,_=>rfl| .nat _,_,_=>rfl
theorem Xy(l N:Nat):∀vs,jw N vs=true→qZ l vs=true→oF (Oz l N) vs=true
 |[],_,_=>rfl
 |v::vs,h,k=>by
  simp only[jw,qAa]at h;simp only[qZ,qAa]at k;simp only[oF,qAa];exact⟨Yn l N v h.1 k.1,Xy l N vs h.2 k.2⟩
end
section
variable {H:A0}{l:Nat}
def asT{j:Nat}(h:j≠l):gD j (nth .dead (xk H l 0 H) j)=gD j (nth .dead H j)/\∀z,eY j z (nth .dead (xk H l 0 H) j)=eY j z (nth .dead H j):=by rw[R3,if_neg (by simpa using h)];cases nth .dead H j<;>exact⟨rfl,λ_=>rfl⟩
def avq:Lks bS (ou (Ko l H.length) (aB H).length) (Oz l H.length) H (xk H l 0 H):=by
 have ok:∀j,Oz l H.length j=true->j<H.length/\j≠l:=λj h=>by unfold Oz at h;simp only[qAa]at h;exact⟨qAf h.1,YK h.2⟩
 have nm:∀j,Oz l H.length j=true->ou (Ko l H.length) (aB H).length j=j:=λj h=>aHI (ok j h).1 (ok j h).2;refine⟨nm,λj h=>?_,λj z h=>?_⟩;·rw[(asT (ok j h).2).1];show gD j (nth .dead H j)=_;cases nth .dead H j<;>simp only[gD,ren,xu,nV,nm j h]
 rw[(asT (ok j h).2).2 z];show eY j z (nth .dead H j)=_;cases nth .dead H j<;>simp only[eY,ren,nm j h]
def WS{v:TV}(h:Kt (Oz l H.length) v=true):VW (aB H) (Ko l H.length) (av (xk H l 0 H) v) (av H v):=by have:=RX avq v h;rw[alx]at this;exact .same this.symm
def aC6{vs:As}(h:oF (Oz l H.length) vs=true):bq H vs=eT (ou (Ko l H.length) (aB H).length) (bq (xk H l 0 H) vs):=by have:=ad6 avq vs h;rwa[LA]at this
def ays{H:A0}{cs:As}{p:Decl×A4}(h:aAP H cs=some p):∃v,bq H cs=ET.enc .dec p.1++[v]/\(v=.flist (p.2.map (ET.enc .dec))∨v=.nilp/\p.2=[]):=by
 let⟨u,r,s,a,d,b⟩:=Xx _ _ _ _ h;have b:=aqW b;split at a;·rename_i y;obtain⟨x,rfl,c⟩:=kS a;cases c;exact⟨_,by rw[d,<-b];rfl,.inl rfl⟩
 ·obtain⟨x,rfl,c⟩:=kS a;cases c;exact⟨_,by rw[d,<-b];rfl,.inr ⟨rfl,rfl⟩⟩
 cases a
def aCZ{v:TV}(h:one v):one (iK H l v):=by
 refine Zn λe x q=>?_;cases v with
 |ptr a o=>
  simp only[iK]at q;cases b:Nat.beq a l with
  |false=>rw[b]at q;cases q
  |true=>
   unfold adC at q
   grind
 |mapr a=>
  simp only[iK]at q
  grind
 |ap a i z o=>
  simp only[iK]at q
  grind
 |own a=>
  simp only[iK]at q;cases b:Nat.beq a l with
  |false=>rw[b]at q;cases q
  |true=>
   unfold axb at q
   grind
 |psl a z c=>
  simp only[iK]at q;cases b:Nat.beq a l with
  |false=>rw[b]at q;cases q
  |true=>
   unfold axM at q
   grind
 |lf t y=>
  obtain⟨rfl,_⟩:=q;have:=wG h;cases e<;>cases this
 |_=>simp only[iK]at q;cases q
def anY(G:Nat->Nat)(xs:An)(j:Nat):ren G (xs.getD j .unk)=(eT G xs).getD j .unk:=by rw[vE];simp;cases xs[j]?<;>rfl
mutual
theorem amC(hH:∀cs,nth .dead H l=.box cs→jw H.length cs=true):∀v,rfB H.length v=true→VW (aB H) (Ko l H.length) (av (xk H l 0 H) (iK H l v)) (av H v)
 | .ptr l' o,h=>by
  by_cases e:l'=l
  ·subst e;simp only[iK,o9,cond_true];cases o with
   |succ o=>exact .unk _
   |zero=>
    simp only[adC];split
    ·rename_i cs hc;cases hn:qZ l' cs with
     |false=>exact .unk _
     |true=>
      simp only[cond_true];split
      ·rename_i p hp;obtain⟨v,h1,h2⟩:=ays hp;refine VW.frzF (cs':=ET.enc .dec p.1) (v:=v) (by rw[kV,hc];simp only[gV,h1]) (aqV _ _) rfl (fun j _=>?_) ?_
       ·refine .same ?_;have:=ac2 .dec (ou (Ko l' H.length) (aB H).length) p.1;rw[anY,this]
       ·rcases h2 with rfl|⟨rfl,h2⟩
        ·exact .same (congrArg AV.flist (nV .dec _ p.2))
        ·rw[h2];exact .nilF
      simp only[av];have hs:=aC6 (Xy l' H.length cs (hH cs hc) hn);refine VW.frz (cs':=bq H cs) (by rw[kV,hc];rfl) (aqV _ _) ?_ fun j=>?_
      ·rw[hs,jC];omega
      ·rw[qAL,hs];exact .same (anY _ _ _)
    ·exact .unk _
  ·have hn:wJ l (.ptr l' o)=true:=by simp only[wJ,Mr e];rfl
   rw[Ll _ _ _ hn];exact WS (Yn _ _ _ h hn)
 | .mapr l',h=>by
  by_cases e:l'=l
  ·subst e;simp only[iK,o9,cond_true];exact .unk _
  ·have hn:wJ l (.mapr l')=true:=by simp only[wJ,Mr e];rfl
   rw[Ll _ _ _ hn];exact WS (Yn _ _ _ h hn)
 | .ap l' i z o,h=>by
  by_cases e:l'=l
  ·subst e;simp only[iK,o9,cond_true];exact .unk _
  ·have hn:wJ l (.ap l' i z o)=true:=by simp only[wJ,Mr e];rfl
   rw[Ll _ _ _ hn];exact WS (Yn _ _ _ h hn)
 | .own l',h=>by
  by_cases e:l'=l
  ·subst e;simp only[iK,o9,cond_true,axb];split
   ·rename_i e xs hc;simp only[av,kr,hc,gD];exact .share (nV _ _ _)
   ·exact .unk _
  ·have hn:wJ l (.own l')=true:=by simp only[wJ,Mr e];rfl
   rw[Ll _ _ _ hn];exact WS (Yn _ _ _ h hn)
 | .psl l' z c,h=>by
  by_cases e:l'=l
  ·subst e;simp only[iK,o9,cond_true];cases c with
   |some k=>exact .unk _
   |none=>
    simp only[axM];split
    ·rename_i e xs hc;cases hs:acC e z with
     |false=>exact .unk _
     |true=>
      have hs:=Qm hs;subst hs;simp only[cond_true,av,kr,hc,eY];refine VW.adC (es0:=xs.map e.enc) (by rw[kV,hc];rfl) (aqV _ _) cn ?_;rw[nV,qCg cn]
    ·exact .unk _
  ·have hn:wJ l (.psl l' z c)=true:=by simp only[wJ,Mr e];rfl
   rw[Ll _ _ _ hn];exact WS (Yn _ _ _ h hn)
 | .eptr cs,h=>by simp only[iK,av];exact .eptr (jU (K9 hH cs h)).1 (jU (K9 hH cs h)).2
 | .agg cs,h=>by simp only[iK,av];exact .agg (jU (K9 hH cs h)).1 (jU (K9 hH cs h)).2
 | .tup cs,h=>by simp only[iK,av];exact .tup (jU (Sq hH cs h)).1 (jU (Sq hH cs h)).2
 | .func f cs,h=>by simp only[iK,av];exact .func (jU (Sq hH cs h)).1 (jU (Sq hH cs h)).2
 | .unk,_=>.same rfl| .nilp,_=>.same rfl| .nilF,_=>.same rfl| .nils,_=>.same rfl| .lf t x,_=>.same (Lb _ t x)| .nat _,_=>.same rfl
theorem K9(hH:∀cs,nth .dead H l=.box cs→jw H.length cs=true):∀vs,jw H.length vs=true→Rs (VW (aB H) (Ko l H.length)) (bq (xk H l 0 H) (og H l vs)) (bq H vs)
 |[],_=>.nil
 |v::vs,h=>by
  simp only[jw,qAa]at h;have h1:=amC hH v h.1;have h2:=K9 hH vs h.2;simp only[og,bq];refine Rs.app ?_ h2;rcases tC v with ho|⟨e,x,rfl⟩
  ·rw[ho,aCZ ho];exact .cons h1 .nil
  ·simp only[iK,AB];have:=(adL e x);generalize e.enc x=l at this;clear h1
   induction l with
   |nil=>exact .nil
   |cons a l ih=>exact .cons (.same (this a cn _)) (ih fun b hb=>this b (by simp[hb]))
theorem Sq(hH:∀cs,nth .dead H l=.box cs→jw H.length cs=true):∀vs,jw H.length vs=true→Rs (VW (aB H) (Ko l H.length)) (aU (xk H l 0 H) (og H l vs)) (aU H vs)
 |[],_=>.nil
 |v::vs,h=>by
  simp only[jw,qAa]at h;simp only[og,aU];exact .cons (amC hH v h.1) (Sq hH vs h.2)
end
end
def aER{m l:Nat}{s:DS}(v:m<=l)(t:jw s.h.length s.t=true)(f:Ji s.h.length s.h=true)(p:m<=s.h.length):Le m (aU s.h s.t) (aB s.h) (aU (Oy l s).h (Oy l s).t) (aB (Oy l s).h):=by
 have g:∀c,nth .dead s.h l=.box c->jw s.h.length c=true:=λc q=>(yY f).2 c q;refine Le.of (Ko l s.h.length) ⟨?_,?_,λi a=>?_,?_,?_,λn=>?_,?_,?_⟩;·simp only[Oy,Em,Ui,qAi]
 ·simp only[Oy,aFh,aB,qAi,agv]
 ·rw[adV Cl,if_neg Cl]
 ·intro i j k h b _ _;let⟨_,_,d⟩:=QS h;let⟨_,_,w⟩:=QS b;omega
 ·intro i k h;let⟨b,_,d⟩:=QS h;simp only[aB,qAi];omega
 ·rw[Ez,Ez];show VW _ _ (av (xk s.h l 0 s.h) (nth .unk (og s.h l s.t) n)) _;rw[zO];refine amC g _ ?_;by_cases o:n<s.t.length
  ·refine akE t _ ?_;rw[jF,List.getD,qAc o];exact qAO o
  rw[mq Cl];rfl
 ·intro i k h;let⟨b,r,d⟩:=QS h;subst d;rw[kV,kV];show OW _ _ (gV (xk s.h l 0 s.h) (nth .dead (xk s.h l 0 s.h) k)) _;rw[R3,if_neg (by simpa using r)];cases u:nth .dead s.h k with|box c=>have:=K9 g c ((yY f).2 c u);exact .box (jU this).1 (jU this).2|own e x=>exact .tip _|gone e x=>exact .dead _|mp e x=>exact .same rfl (by simp only[acG,gV,eU,Qo])|arr e x=>exact .same rfl (by simp only[acG,gV,eU,nV])|gon n=>exact .dead _|dead=>exact .dead _|res=>exact .dead _
 intro i h;have a:i<s.h.length:=by apply qAn;intro a;rw[ar3 Cl]at h;cases h
 rw[adV a]at h;have e:i=l:=by grind
 subst e;rw[kV];show dG (gV (xk s.h i 0 s.h) (nth .dead (xk s.h i 0 s.h) i))=false;rw[R3,if_pos Cl];rfl
def ad8{l k:Nat}:∀{vs:As} {j:Nat},(j+k)∉acL l j vs->wJ l (nth .unk vs k)=true
 |[],j,_=>by rw[mq (qAZ _)];rfl
 |v::vs,j,h=>by
  simp only[acL]at h;cases a:wJ l v with
  |true=>
   rw[a,cond_true]at h;cases k with
   |zero=>exact a
   |succ k=>exact ad8 (vs:=vs) (j:=j+1) (by rwa[show j+1+k=j+(k+1)from by omega])
  |false=>
   rw[a,cond_false,qAh,not_or]at h;cases k with
   |zero=>exact(h.1 (qAS _)).elim
   |succ k=>exact ad8 (vs:=vs) (j:=j+1) (by rw[show j+1+k=j+(k+1)from by omega];exact h.2)
def alz{l k:Nat}:∀{os:A0} {j:Nat},(j+k,0)∉Rm l j os->∀cs,nth .dead os k=.box cs->qZ l cs=true
 |[],j,_,cs,c=>by rw[mq (qAZ _)]at c;cases c
 |o::os,j,h,cs,c=>by
  have t:∀a,k=a+1->(j+1+a,0)∉Rm l (j+1) os->qZ l cs=true:=λa e n=>by
   subst e;exact alz (os:=os) n cs c
  cases k with
  |zero=>
   subst c;simp only[Rm]at h
   grind
  |succ k=>
   refine t k rfl ?_;rw[show j+1+k=j+(k+1)from by omega];cases o with
   |box s=>
    simp only[Rm]at h
    grind
   |_=>simpa only[Rm]using h
def aEa(l:Nat)(s:DS)(b:Ji s.h.length s.h=true):Fr s (Oy l s):=by
 refine⟨by simp only[Oy,Ui,qAi],by simp only[Oy,agv];exact qAd _,λk a=>?_,λp c=>?_,rfl,λi g h=>?_⟩;·have a:k∉acL l 0 s.t++s.d:=a;rw[qAr,not_or]at a;refine⟨a.2,?_⟩;show nth .unk (og s.h l s.t) k=_;rw[zO,Ll _ _ _ (ad8 (j:=0) (by rw[qAL];exact a.1))]
 ·exact qAk _ (qBz _ c)
 have h:(i,0)∉(l,0)::(Rm l 0 s.h++s.o):=h;rw[qAh,qAr,not_or,not_or]at h;have n:i≠l:=λe=>h.1 (by rw[e]);have d:nth .dead (Oy l s).h i=acG s.h l (nth .dead s.h i):=by show nth .dead (xk s.h l 0 s.h) i=_;rw[R3,if_neg (by simpa using n)]
 rw[d];cases o:nth .dead s.h i with|box f=>left;simp only[acG];rw[L6 _ _ _ (alz (j:=0) (by rw[qAL];exact h.2.1) f o)]|res=>exact((yY b).1 o).elim|_=>exact .inl rfl
def ail(H:A0)(l:Nat)(v:TV):iK H l v=v∨((∃e x,iK H l v=.lf (.l e) x)∨∃e x,iK H l v=.lf (.f e) x)∨(∃s,iK H l v=.eptr s)∨(∃s,iK H l v=.agg s)∨(∃s,iK H l v=.tup s)∨(∃f s,iK H l v=.func f s)∨iK H l v=.unk:=by
 cases v with
 |ptr a o=>
  simp only[iK];cases Nat.beq a l with
  |false=>exact .inl rfl
  |true=>
   unfold adC
   grind
 |mapr a=>
  simp only[iK]
  grind
 |ap a i z o=>
  simp only[iK]
  grind
 |own a=>
  simp only[iK];cases Nat.beq a l with
  |false=>exact .inl rfl
  |true=>
   unfold axb
   grind
 |psl a z c=>
  simp only[iK];cases Nat.beq a l with
  |false=>exact .inl rfl
  |true=>
   unfold axM
   grind
 |eptr s=>exact .inr (.inr (.inl ⟨_,rfl⟩))
 |agg s=>exact .inr (.inr (.inr (.inl ⟨_,rfl⟩)))
 |tup s=>exact .inr (.inr (.inr (.inr (.inl ⟨_,rfl⟩))))
 |func f s=>exact .inr (.inr (.inr (.inr (.inr (.inl ⟨_,_,rfl⟩)))))
 |_=>exact .inl rfl
def asM(H:A0)(l:Nat)(v:TV){k:IntKind}{a:Int}(h:oQ (iK H l v)=some (k,a)):oQ v=some (k,a):=by rcases ail H l v with e|(⟨_,_,e⟩|⟨_,_,e⟩)|⟨_,e⟩|⟨_,e⟩|⟨_,e⟩|⟨_,_,e⟩|e<;>rw[e]at h<;>first|exact h|cases h
def aAr(H:A0)(l:Nat)(v:TV){k:IntKind}{a:Int}(h:oQ v=some (k,a)):oQ (iK H l v)=some (k,a):=by cases v<;>first|exact h|cases h
def aAJ(H:A0)(l:Nat)(v:TV){b:Bool}(h:iK H l v=.lf .b b):v=.lf .b b:=by rcases ail H l v with e|(⟨_,_,e⟩|⟨_,_,e⟩)|⟨_,e⟩|⟨_,e⟩|⟨_,e⟩|⟨_,_,e⟩|e<;>rw[e]at h<;>first|exact h|cases h
def aC9(l:Nat){s:DS}(hi:Inv s):Inv (Oy l s):=by
 refine⟨λi k a e h=>?_,λd i j e k a h=>?_,λd x e=>?_⟩;·have h:oQ (nth .unk (og s.h l s.t) i)=some (k,a):=h;rw[zO]at h;exact hi.up i k a e (asM _ _ _ h)
 ·have h:oQ (nth .unk (og s.h l s.t) i)=some (k,a):=h;rw[zO]at h;let⟨c,g,m⟩:=hi.rl d i j e k a (asM _ _ _ h);refine⟨c,?_,λb f=>m b ?_⟩
  ·show oQ (nth .unk (og s.h l s.t) j)=_;rw[zO];exact aAr _ _ _ g
  have f:nth .unk (og s.h l s.t) d=.lf .b b:=f;rw[zO]at f;exact aAJ _ _ _ f
 show nth .unk (og s.h l s.t) d=nth .unk (og s.h l s.t) x;rw[zO,zO,hi.cp d x e]
def alO{e:Type}{b:e}{m:Nat}:∀(d:A5) (s:DS) (K:DS->Option e),m<=s.h.length->Inv s->apX m d s K=some b->∃a,K a=some b/\Fr s a/\Inv a/\Le m (aU s.h s.t) (aB s.h) (aU a.h a.t) (aB a.h)
 |[],s,K,_,i,h=>⟨s,h,Fr.refl s,i,λ_ j _ _ _ k=>⟨j,k⟩⟩
 |l::d,s,K,f,i,h=>by
  simp only[apX]at h;rw[Yj]at h;let⟨c,h⟩:=(bD h).resolve_right λh=>by cases h.2
  simp only[qAa]at c;have g:=aEa l s c.2.2.2;let⟨a,n,o,p,q⟩:=alO d (Oy l s) K (qAs f g.hl) (aC9 l i) h;exact⟨a,n,g.trans o,p,(aER (qAf c.1) c.2.2.1 c.2.2.2 f).trans q⟩
end Abs
end Go.Proofs.YtneeginmfjageaaGreat
