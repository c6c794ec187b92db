/-
  A call by an entry does what the entry says. Conditions: the entry's contract.
-/
import Derived.IntWalk
import Derived.Test.YthgdaonechbgmaaGreatCD17oxf5c82d
set_option linter.all false
namespace Go.Proofs.YthgdaonechbgmaaGreat
namespace Abs
section
open Go
mutual
theorem agU{A B:Nat→Bool}(h:∀l,A l=true→B l=true):∀v,Kt A v=true→Kt B v=true
 | .ptr l _,k=>h l k
 | .mapr l,k=>h l k
 | .own l,k=>h l k
 | .psl l _ _,k=>h l k
 | .ap l _ _ _,k=>h l k
 | .eptr cs,k=>Nw h cs k
 | .agg cs,k=>Nw h cs k
 | .tup cs,k=>Nw h cs k
 | .func _ cs,k=>Nw h cs k
 | .unk,_=>rfl| .nilp,_=>rfl| .nilF,_=>rfl| .nils,_=>rfl| .lf _ _,_=>rfl| .nat _,_=>rfl
theorem Nw{A B:Nat→Bool}(h:∀l,A l=true→B l=true):∀vs,oF A vs=true→oF B vs=true
 |[],_=>rfl
 |v::vs,k=>by
  simp only[oF,qAa]at k⊢;exact⟨agU h v k.1,Nw h vs k.2⟩
end
theorem auO(g:Nat→Nat)(n:Nat):(dM n).map (gy g)=dM n:=by unfold dM;rw[qCs];rfl
theorem adU(n k:Nat):nth .unk (dM n) k=.unk:=by
 unfold dM;rw[jF,List.getD,qCa];split<;>rfl
theorem aCu(g:Nat→Nat)(r:List TV):res1 (r.map (gy g))=gy g (res1 r):=by
 match r with
 |[]=>rfl
 |[v]=>rfl
 |v::w::r=>simp only[qAy,res1,gy,IC]
theorem aFk{A:Nat→Bool}{r:List TV}(h:∀v∈r,Kt A v=true):Kt A (res1 r)=true:=by
 match r with
 |[]=>rfl
 |[v]=>exact h v (by simp)
 |v::w::r=>exact ara.2 h
section
variable {γ:Type}{b:γ}{P:Program}
theorem aDF{H:List TObj}{k:Nat}{vs:List TV}{ps:List Ed}{na:Nat}(rs:List Ed)(nr:Nat)(z:jI (bM rs)){x:jI (bM ps)}{us:List U}{L0:Nat→Option Nat}{ρ:List Nat}{Q:List TWr→TV→Option γ}
  (edps:fO 0 [] [] ps=true) (edrs:fO (aD ps) [] [] rs=true) (psok:R8 (aD ps) rs 0 ps=true) (rsok:BP (aD ps+aD rs) (killed rs) (kinds ps) rs=true) (hna:vs.length=na) (hρl:ρ.length=aD ps) (hnd:ρ.Nodup)
  (hres:∀l∈rng k (aD rs),mh (nth .dead H l)=true) (hsome:∀j,j<aD ps→L0 j=ρ[j]?) (L0ge:∀j,aD ps≤j→L0 j=none) (hx:fF (bM ps) x=us) {T1:List TV} {h1:List TObj} (q1:dW bS ps us (dM na) []=(T1,h1)) (la:LaidD H L0 1 0 vs 0 ps (dM na) [] T1 h1)
  (hus:(Qw (lX (ρ++rng k (aD rs))) ps us (dM na) [] fun _ h=>Qw (lX (ρ++rng k (aD rs))) rs (fF (bM rs) z) (dM nr) h fun r h'=>Kv ρ h' k (aD ps) rs fun ws=>Q ws (res1 r))=some b):
  ∃r h2 ws v,dW bS rs (fF (bM rs) z) (dM nr) h1=(r,h2)∧(∀tm,Passes ⟨tm,aB H⟩ ρ (rng k (aD rs)) (aB h1))∧(aB h2).length=(ρ++rng k (aD rs)).length∧
   SWs (aU H vs) ((aU h1 T1).map (ren (nm (ρ++rng k (aD rs)) (aB H).length)))∧Q ws v=some b∧(∀w∈ws,∃p,tgt w=some p∧p∈ρ++rng k (aD rs))∧
   ∀s s',s.h=H→Ws s ws s'→aB s'.h=oV (aB H) (ρ++rng k (aD rs)) ((aB h2).map (eU (nm (ρ++rng k (aD rs)) (aB H).length)))∧av s'.h v=ren (nm (ρ++rng k (aD rs)) (aB H).length) (av h2 (res1 r)):=by
 rw[Ry]at hus;have ren1:=QF (lX (ρ++rng k (aD rs))) ps us (dM na) [];rw[auO,qCM,q1]at ren1;rw[ren1]at hus;simp only at hus;rw[Ry]at hus;generalize hq2:dW bS rs (fF (bM rs) z) (dM nr) h1=q2 at *;obtain⟨r,h2⟩:=q2;have ren2:=QF (lX (ρ++rng k (aD rs))) rs (fF (bM rs) z) (dM nr) h1;rw[auO,hq2]at ren2;rw[ren2]at hus;simp only at hus;have h1l:h1.length=aD ps:=by rw[la.hl,qAL]
 have bs:=uz rs (fF (bM rs) z) (aD ps) [] [] (dM nr) h1 [] (by rw[KV,qAt]) edrs (qAd _) h1l;rw[hq2]at bs;simp only at bs
 let L:=ρ++rng k (aD rs)
 let g:=lX L
 let G:=nm L (aB H).length
 have Lold:∀j,j<aD ps→∃l,ρ[j]? =some l∧L[j]? =some l∧L0 j=some l:=fun j hj=>by
  have hl:ρ[j]? =some (ρ[j]'(by omega)):=qAc _;exact⟨_,hl,by simp only[L];rw[qAg (by omega)];exact hl,by rw[hsome j hj];exact hl⟩
 have Lnew:∀i,i<aD rs→L[aD ps+i]? =some (k+i):=fun i hi=>by
  simp only[L];rw[qAl (by omega),hρl,Nat.add_sub_cancel_left];exact auY _ _ _ hi
 have Llen:L.length=aD ps+aD rs:=by simp only[L,qAe,hρl,au3]
 -- what the objects that are handed in are
 have inO:∀j,j<aD ps→∃l hd,ρ[j]? =some l∧Ed.w hd∈ps∧nth .dead (kinds ps) j=hd∧FO H L0 0 hd .dead (nth .dead h1 j) (nth .dead H l):=fun j hj=>by
  rcases la.new j hj with⟨l,hd,e1,⟨e2,e2'⟩,e3⟩|⟨_,hm,_⟩
  ·rw[qAL]at e1 e3;exact⟨l,hd,by rw[←hsome j hj];exact e1,e2,e2',e3⟩
  ·omega
 have alive:∀l∈ρ,nth .dead H l≠ .dead∧nth .dead H l≠ .res:=fun l hl=>by
  obtain⟨j,hj⟩:=qAR hl;have hjl:=(qAH.1 hj).1;obtain⟨l',hd,e1,e2,_,e3⟩:=inO j (by omega);rw[hj]at e1;cases e1;obtain⟨p1,p2,_⟩:=Ob psok hd e2;cases hd with
  |dead=>exact(p1 rfl).elim
  |bx is=>exact(p2 is rfl).elim
  |box cs=>obtain⟨ws,vs,_,e4,_⟩:=e3;rw[e4];exact⟨fun h=>(by cases h),fun h=>(by cases h)⟩
  |own e=>obtain⟨_,_,_,e4⟩:=e3;rw[e4];exact⟨fun h=>(by cases h),fun h=>(by cases h)⟩
  |mp e=>obtain⟨_,_,_,e4⟩:=e3;rw[e4];exact⟨fun h=>(by cases h),fun h=>(by cases h)⟩
  |arr e=>obtain⟨_,_,_,e4⟩:=e3;rw[e4];exact⟨fun h=>(by cases h),fun h=>(by cases h)⟩
 have inlt:∀l∈ρ,l<H.length:=fun l hl=>adx (alive l hl).1;have reslt:∀l∈rng k (aD rs),l<H.length:=fun l hl=>G9 (hres l hl);have hG0:∀j l,L0 j=some l→G j=l:=fun j l hj=>by
  have hlt:j<aD ps:=by
   apply qAn;intro hn;rw[L0ge j (by omega)]at hj;cases hj
  obtain⟨l',e1,e2,e3⟩:=Lold j hlt;rw[hj]at e3;cases e3;exact ayv e2
 have look0:∀j l,L0 j=some l→gD l (nth .dead H l)=ren G (gD j (nth .dead h1 j))∧∀z,eY l z (nth .dead H l)=ren G (eY j z (nth .dead h1 j)):=fun j l hj=>by
  have hlt:j<aD ps:=by
   apply qAn;intro hn;rw[L0ge j (by omega)]at hj;cases hj
  obtain⟨l',hd,e1,e2,_,e3⟩:=inO j hlt;rw[←hsome j hlt,hj]at e1;cases e1;have hg:=hG0 j l hj;cases hd with
  |dead=>exact((Ob psok _ e2).1 rfl).elim
  |bx is=>exact((Ob psok _ e2).2.1 is rfl).elim
  |box cs=>obtain⟨ws,vs,e4,e5,_⟩:=e3;rw[e4,e5];exact⟨rfl,fun _=>rfl⟩
  |own e=>obtain⟨_,_,e4,e5⟩:=e3;rw[e4,e5];exact⟨by simp only[gD,ren,xu,nV,hg],fun _=>rfl⟩
  |mp e=>obtain⟨_,_,e4,e5⟩:=e3;rw[e4,e5];exact⟨rfl,fun _=>rfl⟩
  |arr e=>obtain⟨_,_,e4,e5⟩:=e3;rw[e4,e5];exact⟨rfl,fun _=>by simp only[eY,ren,hg]⟩
 have hW:=aFv (H:=H) (Hk:=h1) hG0 look0;have objEq:∀j l,ρ[j]? =some l→gV H (nth .dead H l)=eU G (gV h1 (nth .dead h1 j)):=fun j l hj=>by
  have hlt:j<aD ps:=by have:=(qAH.1 hj).1;omega
  obtain⟨l',hd,e1,e2,_,e3⟩:=inO j hlt;rw[hj]at e1;cases e1;cases hd with
  |dead=>exact((Ob psok _ e2).1 rfl).elim
  |bx is=>exact((Ob psok _ e2).2.1 is rfl).elim
  |box cs=>obtain⟨ws,vs,e4,e5,e6⟩:=e3;rw[e4,e5];simp only[gV,eU,rs0 (e6 h1 _ hW)]
  |own e=>obtain⟨_,_,e4,e5⟩:=e3;rw[e4,e5];rfl
  |mp e=>obtain⟨_,_,e4,e5⟩:=e3;rw[e4,e5];simp only[gV,eU,Qo]
  |arr e=>obtain⟨_,_,e4,e5⟩:=e3;rw[e4,e5];simp only[gV,eU,nV]
 have disj:∀l∈ρ,l∉rng k (aD rs):=fun l hl hm=>by
  have:=hres l hm;have h2:=(alive l hl).2;unfold mh at this;split at this
  ·rename_i q;exact h2 q
  ·cases this
 have Lnd:L.Nodup:=qDe.2 ⟨hnd,anC _ _,fun a ha c hc e=>by subst e;exact disj a ha hc⟩;obtain⟨ws,hws,htg,hwro⟩:=aip hnd hρl rs k (aD ps) [] [] _ edrs (fun p hp=>by
  have:=disj p hp;rw[Io]at this;omega) hus
 have ixL:∀l,l<aD ps→lX ρ l=g l:=fun l hl=>by
  obtain⟨p,e1,e2,_⟩:=Lold l hl;rw[zm e1];exact(zm e2).symm
 have tgL:∀w∈ws,∃p,tgt w=some p∧p∈L:=fun w hw=>by
  obtain⟨p,e1,e2⟩:=htg w hw;refine⟨p,e1,?_⟩;rcases e2 with⟨l,hd,q1,q2⟩|⟨q1,q2⟩
  ·obtain⟨p',e3,_,_⟩:=Lold l (pE edrs q1);rw[zm e3]at q2;subst q2;exact qBw _ (qAF e3)
  ·exact qBz _ (Io.2 ⟨q1,q2⟩)
 refine⟨r,h2,ws,_,rfl,fun tm=>⟨Lnd,by simp[aB,h1l,hρl],fun l hl=>by simp only[aB,qAi];exact inlt l hl,fun l hl=>xM (hres l hl),fun i l hi=>by rw[kV,kV];exact objEq i l hi⟩,by simp only[aB,qAi,bs.hl];exact Llen.symm,?_,hws,tgL,?_⟩
 ·-- the arguments
  have hlen:vs.length=T1.length:=by rw[la.tl,hna];simp[dM]
  have key:∀n,SW (av H (nth .unk vs n)) (ren G (av h1 (nth .unk T1 n))):=fun n=>by
   by_cases hn:n∈j3 ps
   ·obtain⟨s,hs⟩:=Rb hn;by_cases hlt:n<(dM na).length
    ·exact la.slot n s hs hlt h1 _ hW
    ·rw[mq (show T1.length≤n by rw[la.tl];omega)];exact .unk _
   ·rw[la.keep n hn,adU];exact .unk _
  have all:∀(a c:List TV),a.length=c.length→(∀n,SW (av H (nth .unk a n)) (ren G (av h1 (nth .unk c n))))→SWs (aU H a) ((aU h1 c).map (ren G)):=fun a=>by
   induction a with
   |nil=>intro c hl _;cases c with
    |nil=>exact .nil
    |cons _ _=>cases hl
   |cons x a ih=>intro c hl hk;cases c with
    |nil=>cases hl
    |cons y c=>exact .cons (hk 0) (ih c (by simpa using hl) fun n=>hk (n+1))
  exact all vs T1 hlen key
 ·-- the state behind the call
  intro s s' hsH hWs;subst hsH;have W:=hwro s s' inlt hWs
  let A:Nat→Bool:=fun l=>Nat.blt l (aD ps+aD rs)&&!(mem (killed rs) l)
  have hA:∀l,(Nat.blt l (aD ps+aD rs)&&!(mem (killed rs) l))=true→A l=true:=fun l h=>h;have hA1:∀l,(Nat.blt l (aD ps)&&!(mem (killed rs) l))=true→A l=true:=fun l h=>by
   simp only[qAa,A]at h⊢;refine⟨qCI ?_,h.2⟩;have:l<aD ps:=qAf h.1;omega
  have Alt:∀j,A j=true→j<aD ps+aD rs∧Ed.o j .dead∉rs:=fun j h=>by
   simp only[qAa,qAV,AU,A]at h;exact⟨qAf h.1,fun hm=>h.2 (Qf hm)⟩
  -- objects of the callee name only what is alive
  let A1:Nat→Bool:=fun l=>Nat.blt l (aD ps)&&!(mem (killed rs) l)
  have bs1:=uz ps us 0 [] [] (dM na) [] [] (by rw[←hx,KV,qAt]) edps (qAd _) rfl;rw[q1]at bs1;have rfU:∀j,(∀hd,Ed.o j hd∉rs)→rfO A1 (nth .dead h1 j):=fun j hno=>by
   by_cases hj:j<aD ps
   ·obtain⟨us',rest,e1,e2⟩:=bs1.newK j hj;have hp:=ahJ psok j hj;rw[qAL]at e2 hp;intro cs hc;generalize hkd:nth .dead (kinds ps) j=hd at *;obtain⟨ss,rfl,rfl⟩:=abx (alW hp).2.1 (e2.symm.trans hc);simp only[alb,qAa]at hp;have hn:Fy j rs=none:=by
     cases hq:Fy j rs with
     |none=>rfl
     |some hd=>exact(hno hd (X0 hq)).elim
    rw[hn]at hp;exact Wp (Dm (A:=A1) (fun l h=>h) ss us' hp.2)
   ·rw[mq (by omega)];intro cs hc;cases hc
  have rfB':∀j is,Ed.o j (.bx is)∈rs→∀cs,nth .dead h1 j=.box cs→∀q v,(aK cs)[q]? =some v→rU is q=false→Kt A1 v=true:=fun j is hm cs hc q v hv hq=>by
   have hj:=pE edrs hm;obtain⟨us',rest,e1,e2⟩:=bs1.newK j hj;have hp:=ahJ psok j hj;rw[qAL]at e2 hp;generalize hkd:nth .dead (kinds ps) j=hd at *;obtain⟨ss,rfl,rfl⟩:=abx (alW hp).2.1 (e2.symm.trans hc);simp only[alb,qAa]at hp;rw[adG edrs hm]at hp;exact anl (A:=A1) (fun l h=>h) is ss us' rest 0 e1 hp.2 q v hv (by rw[qAL];exact hq)
  have rf2:∀j,rfO A (nth .dead h2 j):=fun j=>by
   by_cases hj:j<aD ps
   ·by_cases hed:∃hd,Ed.o j hd∈rs
    ·obtain⟨hd,hed⟩:=hed;obtain⟨us',rest,et,e2⟩:=bs.obj j hd hed;rw[e2];rcases WX rsok j hd hed with rfl|⟨h3,_⟩
     ·intro cs hc;cases hc
     ·by_cases hb:∃is,hd=.bx is
      ·obtain⟨is,rfl⟩:=hb;intro cs hc;cases ho:nth .dead h1 j with
       |box cs0=>
        rw[ho]at hc;simp only[bR]at hc;cases hq:(kD bS is (some cs0) us').1 with
        |none=>rw[hq]at hc;cases hc
        |some cs1=>
         rw[hq]at hc;cases hc;exact anb hA is _ us' rest et h3 (fun cs2 h2 q v hv hq=>by cases h2;exact agU hA1 v (rfB' j is hed cs0 ho q v hv hq)) cs hq
       |_=>rw[ho]at hc;cases hc
      ·have:bR bS (nth .dead h1 j) hd us'=bR bS .dead hd us':=by
        cases hd with
        |bx is=>exact(hb ⟨is,rfl⟩).elim
        |_=>rfl
       rw[this];exact aqY hA _ hd us' h3 fun cs hc=>by cases hc
    ·rw[bs.keepO j hj fun hd h=>hed ⟨hd,h⟩];intro cs hc v hv;exact agU hA1 v (rfU j (fun hd h=>hed ⟨hd,h⟩) cs hc v hv)
   ·by_cases hj2:j<aD ps+aD rs
    ·obtain⟨hd,us',e1,e2⟩:=bs.new (j - aD ps) (by omega);rw[show aD ps+(j - aD ps)=j from by omega]at e2;rw[e2];exact aqY hA _ hd us' (ajb rsok hd e1) fun cs hc=>by cases hc
    ·rw[mq (by rw[bs.hl];omega)];intro cs hc;cases hc
  have gG:∀j,j<aD ps+aD rs→G j=g j:=fun j hj=>by
   have:L[j]? =some (L[j]'(by omega)):=qAc _;rw[show G j=_ from ayv this,show g j=_ from zm this]
  -- where the callee's objects stand now
  have newAt:∀i,i<aD rs→nth .dead s'.h (g (aD ps+i))=kF g (nth .dead h2 (aD ps+i)):=fun i hi=>by
   rw[show g (aD ps+i)=k+i from zm (Lnew i hi),W.new i hi];exact Xn (d:=.dead) (d':=.dead) (kF g) rfl h2 _
  have Fy:∀j hd,Ed.o j hd∈rs→hd≠ .dead→(∀is,hd≠ .bx is)→plainO (nth .dead h2 j)=true∧nth .dead s'.h (g j)=kF g (nth .dead h2 j):=fun j hd hm h1 h2'=>by
   have hj:=pE edrs hm;have hmap:nth .dead (h2.map (kF g)) j=kF g (nth .dead h2 j):=Xn (d:=.dead) (d':=.dead) (kF g) rfl h2 _;have pl:∀o,plainO (kF g o)=true→plainO o=true:=fun o h=>by cases o<;>first|rfl|cases h
   have:=W.obj j hd hm;rw[←ixL j hj];cases hd with
   |dead=>exact(h1 rfl).elim
   |bx is=>exact(h2' is rfl).elim
   |box cs=>obtain⟨a1,a2,a3⟩:=this;exact⟨pl _ (by rw[←hmap];exact a1),by rw[←hmap];exact a3⟩
   |own e=>obtain⟨a1,a2,a3⟩:=this;exact⟨pl _ (by rw[←hmap];exact a1),by rw[←hmap];exact a3⟩
   |mp e=>obtain⟨a1,a2,a3⟩:=this;exact⟨pl _ (by rw[←hmap];exact a1),by rw[←hmap];exact a3⟩
   |arr e=>obtain⟨a1,a2,a3⟩:=this;exact⟨pl _ (by rw[←hmap];exact a1),by rw[←hmap];exact a3⟩
  have unAt:∀j l,ρ[j]? =some l→(∀hd,Ed.o j hd∉rs)→nth .dead s'.h l=nth .dead s.h l∧gV s'.h (nth .dead s.h l)=gV s.h (nth .dead s.h l):=fun j l hj hno=>by
   have hlt:j<aD ps:=by have:=(qAH.1 hj).1;omega
   refine XB hWs l fun w hw e1=>?_;obtain⟨p,e2,e3⟩:=htg w hw;rw[e1]at e2;cases e2;rcases e3 with⟨l',hd,a1,a2⟩|⟨a1,a2⟩
   ·have hl':=pE edrs a1;obtain⟨p',a3,_,_⟩:=Lold l' hl';rw[zm a3]at a2;subst a2;have:l'=j:=(qCw (by omega) hnd).1 (a3.trans hj.symm);subst this;exact hno hd a1
   ·exact disj l (qAF hj) (Io.2 ⟨a1,a2⟩)
  have boxAt:∀j is,Ed.o j (.bx is)∈rs→∃l cs0 cs1 vs0 cf,ρ[j]? =some l∧nth .dead s.h l=.box cs0∧nth .dead s'.h l=.box cs1∧nth .dead h1 j=.box vs0∧nth .dead h2 j=.box cf∧(aK cs1).length=(aK cs0).length∧(aK cf).length=(aK vs0).length∧bq s.h cs0=eT G (bq h1 vs0)∧
    ∀q,(rU is q=true→q<(aK cs0).length→(aK cs1)[q]? =((aK cf).map (gy g))[q]?)∧(rU is q=false→((aK cs1)[q]? =(aK cs0)[q]?∧∀v,(aK cs0)[q]? =some v→av s'.h v=av s.h v)∧(aK cf)[q]? =(aK vs0)[q]?):=fun j is hm=>by
   have hj:=pE edrs hm;obtain⟨l,hd0,e1,e2,e2',e3⟩:=inO j hj;rcases WX rsok j _ hm with hh|⟨_,_,_,_,hpl⟩
   ·cases hh
   ·rw[e2']at hpl;have hpl:=hpl is rfl;obtain⟨us',rest,e4t,e4⟩:=bs.obj j _ hm;have hmap:nth .dead (h2.map (kF g)) j=kF g (nth .dead h2 j):=Xn (d:=.dead) (d':=.dead) (kF g) rfl h2 _;have wj:=W.obj j _ hm;simp only[zm e1]at wj;cases hd0 with
    |box cs=>
     obtain⟨vs0,cs0,e5,e6,e7⟩:=e3;obtain⟨cs1,cf',a1,a2,a3,a4⟩:=wj cs0 e6;replace a2:kF g (nth .dead h2 j)=.box cf':=hmap.symm.trans a2;rw[e5]at e4;simp only[bR]at e4;cases hq:(kD bS is (some vs0) us').1 with
     |none=>rw[hq]at e4;rw[e4]at a2;cases a2
     |some cf=>
      rw[hq]at e4;rw[e4]at a2;simp only[kF,TObj.box.injEq]at a2;subst a2;have fs:=(P5 is (some vs0) us' rest e4t).2 vs0 cf rfl hq;refine⟨l,cs0,cs1,vs0,cf,e1,e6,a1,e5,e4,a3,fs.1,rs0 (e7 h1 _ hW),fun q=>⟨fun h1 h2=>?_,fun h=>⟨(a4 q).2 h,fs.2 q h⟩⟩⟩;rw[(a4 q).1 h1 h2,Yu]
    |_=>cases hpl
  have lks:Lks g G A s'.h h2:=by
   have key:∀j,A j=true→gD (g j) (nth .dead s'.h (g j))=ren G (gD j (nth .dead h2 j))∧∀z,eY (g j) z (nth .dead s'.h (g j))=ren G (eY j z (nth .dead h2 j)):=fun j hj=>by
    obtain⟨hlt,hdd⟩:=Alt j hj;by_cases hj1:j<aD ps
    ·obtain⟨l,e1,e2,e3⟩:=Lold j hj1;have hgj:g j=l:=zm e2;by_cases hed:∃hd,Ed.o j hd∈rs
     ·obtain⟨hd,hed⟩:=hed;by_cases hb:∃is,hd=.bx is
      ·obtain⟨is,rfl⟩:=hb;obtain⟨l',cs0,cs1,vs0,cf,b1,b2,b3,b4,b5,_⟩:=boxAt j is hed;rw[e1]at b1;cases b1;rw[hgj,b3,b5];exact⟨rfl,fun _=>rfl⟩
      ·obtain⟨b1,b2⟩:=Fy j hd hed (fun e=>by subst e;exact hdd hed) fun is e=>hb ⟨is,e⟩;rw[b2];exact aAV _ (gG j hlt)
     ·have hno:∀hd,Ed.o j hd∉rs:=fun hd h=>hed ⟨hd,h⟩;rw[hgj,(unAt j l e1 hno).1,bs.keepO j hj1 hno];exact look0 j l e3
    ·have:=newAt (j - aD ps) (by omega);rw[show aD ps+(j - aD ps)=j from by omega]at this;rw[this];exact aAV _ (gG j hlt)
   exact⟨fun j hj=>gG j (Alt j hj).1,fun j hj=>(key j hj).1,fun j z hj=>(key j hj).2 z⟩
  have lk12:∀j,A j=true→j<aD ps→Lk h1 h2 j:=fun j hj hj1=>by
   by_cases hed:∃hd,Ed.o j hd∈rs
   ·obtain⟨hd,hed⟩:=hed;rcases WX rsok j hd hed with rfl|⟨_,hpl,ho1,ho2,_⟩
    ·exact((Alt j hj).2 hed).elim
    ·obtain⟨us',_,_,e2⟩:=bs.obj j hd hed;refine asH ?_ (by rw[e2];exact atL _ hd us' (by cases hd<;>first|rfl|exact(ho1 _ rfl).elim|exact(ho2 _ rfl).elim));obtain⟨l,hd0,_,_,e4,e5⟩:=inO j hj1;rw[e4]at hpl;cases hd0 with
     |box cs=>obtain⟨_,_,e6,_⟩:=e5;rw[e6];rfl
     |mp e=>obtain⟨_,_,e6,_⟩:=e5;rw[e6];rfl
     |_=>cases hpl
   ·unfold Lk;rw[bs.keepO j hj1 fun hd h=>hed ⟨hd,h⟩];exact⟨rfl,fun _=>rfl⟩
  have low:∀v,Kt A1 v=true→av h2 v=av h1 v:=fun v hv=>(Wn v fun l hl=>(by
   have hl1:=akV v hl hv;have hlt:l<aD ps:=by
    simp only[qAa,A1]at hl1;exact qAf hl1.1
   exact lk12 l (hA1 l hl1) hlt)).symm
  have avLow:∀j,(∀hd,Ed.o j hd∉rs)→gV h2 (nth .dead h1 j)=gV h1 (nth .dead h1 j):=fun j hno=>by
   cases ho:nth .dead h1 j with
   |box cs=>
    simp only[gV];rw[wX,wX];exact congrArg _ (qBu fun v hv=>low v (rfU j hno cs ho v hv))
   |_=>rfl
  refine⟨?_,?_⟩
  ·apply qBU;intro l;have hlen:s'.h.length=s.h.length:=(XI hWs).2;have lget:∀(Hx:List TObj) (l:Nat),l<Hx.length→(aB Hx)[l]? =some (gV Hx (nth .dead Hx l)):=fun Hx l hl=>by
    unfold aB;rw[qAE,jF,List.getD,qAc hl];rfl
   by_cases hl:l<s.h.length
   ·rw[lget s'.h l (by omega)];by_cases hin:l∈L
    ·obtain⟨j,hj⟩:=qAR hin;have hjl:=(qAH.1 hj).1;have hjn:j<aD ps+aD rs:=by omega
     rw[Mf L _ (aB s.h) j l Lnd hj (by rw[qAi];simp only[aB,qAi,bs.hl];exact hjn) (by simp only[aB,qAi];exact hl)];rw[qAE,lget h2 j (by rw[bs.hl];exact hjn)];simp only[qAx,Option.some.injEq];have hgj:g j=l:=zm hj;by_cases hj1:j<aD ps
     ·have hρj:ρ[j]? =some l:=by
       obtain⟨l',a1,a2,_⟩:=Lold j hj1;rw[hj]at a2;cases a2;exact a1
      by_cases hed:∃hd,Ed.o j hd∈rs
      ·obtain⟨hd,hed⟩:=hed;by_cases hdd:hd=.dead
       ·subst hdd;obtain⟨us',_,_,a1⟩:=bs.obj j _ hed;have a1:nth .dead h2 j=.dead:=a1;have:=W.obj j _ hed;rw[ixL j hj1,hgj]at this;rw[a1];rcases this with⟨_,_,_,a2⟩|⟨_,_,_,a2⟩|a2<;>(rw[a2];rfl)
       ·by_cases hb:∃is,hd=.bx is
        ·obtain⟨is,rfl⟩:=hb;obtain⟨l',cs0,cs1,vs0,cf,b1,b2,b3,b4,b5,b6,b7,b8,b9⟩:=boxAt j is hed;rw[hρj]at b1;cases b1;rw[b3,b5];simp only[gV,eU,AObj.box.injEq];have hl8:(aK cs0).length=(aK vs0).length:=by
          have:=congrArg List.length b8;rw[jC,l7,l7,←pO,←pO]at this;exact this
         rw[wX,wX,vE,qBh];apply qBU;intro q;rw[qAE,qAE];by_cases hq:q<(aK cs0).length
         ·cases hc:rU is q with
          |true=>
           rw[(b9 q).1 hc hq,qAE];cases hv:(aK cf)[q]? with
           |none=>rfl
           |some v=>
            simp only[qAx,Option.some.injEq,Function.comp];exact RX lks v (rf2 j cf b5 v (qAF hv))
          |false=>
           obtain⟨⟨c1,c2⟩,c3⟩:=(b9 q).2 hc;rw[c1,c3];have hq2:q<(aK vs0).length:=by omega
           rw[qAc hq,qAc hq2];simp only[qAx,Option.some.injEq,Function.comp];rw[c2 _ (qAc hq),low _ (rfB' j is hed vs0 b4 q _ (qAc hq2) hc)];have e8:=congrArg (fun x=>x[q]?) b8;simp only[wX,vE,qAE,qAc hq,qAc hq2,qAx,Option.some.injEq]at e8;exact e8
         ·rw[qAC (by omega),qAC (by omega)];rfl
        ·obtain⟨_,a2⟩:=Fy j hd hed hdd fun is e=>hb ⟨is,e⟩;rw[←hgj,a2];exact auN lks (rf2 j)
      ·have hno:∀hd,Ed.o j hd∉rs:=fun hd h=>hed ⟨hd,h⟩;obtain⟨a1,a2⟩:=unAt j l hρj hno;rw[a1,a2,objEq j l hρj,bs.keepO j hj1 hno,avLow j hno]
     ·have:=newAt (j - aD ps) (by omega);rw[show aD ps+(j - aD ps)=j from by omega]at this;rw[←hgj,this];exact auN lks (rf2 j)
    ·rw[Da L _ _ l hin,lget s.h l hl];obtain⟨a1,a2⟩:=XB hWs l fun w hw e1=>by
      obtain⟨p,e2,e3⟩:=tgL w hw;rw[e1]at e2;cases e2;exact hin e3
     rw[a1,a2]
   ·rw[qAC (by simp only[aB,qAi];omega),qAC (by rw[Om];simp only[aB,qAi];omega)]
  ·rw[aCu];refine RX lks _ (aFk fun v hv=>?_);obtain⟨i,hi⟩:=qAR hv;have hvi:nth .unk r i=v:=by rw[jF,List.getD,hi];rfl
   rcases bs.slot i with e1|⟨sk,us',e1,e2⟩
   ·rw[←hvi,e1,adU];rfl
   ·rw[←hvi,e2];exact XM hA sk us' (ajm rsok i sk e1)
theorem aFK{te:Nat}{H:List TObj}{k:Nat}{vs:List TV}{e:Ent}{K:Nat→List Nat→List TWr→TV→Option γ}{X:Nat→List Nat→List TWr→Int→Option γ}(he:ah P te e)(h:apZ H k vs e K X=some b):
  (∃(ρ:List Nat) (aargs:List AV) (Hi:List AObj) (res:AV) (Ho:List AObj) (ws:List TWr) (v:TV),eH P e.f aargs Hi res Ho∧(∀tm,Passes ⟨tm,aB H⟩ ρ (rng k (aD e.rs)) Hi)∧Ho.length=(ρ++rng k (aD e.rs)).length∧
   SWs (aU H vs) (aargs.map (ren (nm (ρ++rng k (aD e.rs)) (aB H).length)))∧K (aD e.rs) (ρ++rng k (aD e.rs)) ws v=some b∧(∀w∈ws,∃p,tgt w=some p∧p∈ρ++rng k (aD e.rs))∧
   ∀s s',s.h=H→Ws s ws s'→aB s'.h=oV (aB H) (ρ++rng k (aD e.rs)) (Ho.map (eU (nm (ρ++rng k (aD e.rs)) (aB H).length)))∧av s'.h v=ren (nm (ρ++rng k (aD e.rs)) (aB H).length) res)∨
  ∃(nn:Nat) (ρ:List Nat) (aargs:List AV) (Hi Ho:List AObj) (ws:List TWr) (c:Int),Ej P e.f aargs Hi (Cz te c) Ho∧(∀tm,Passes ⟨tm,aB H⟩ ρ (rng k nn) Hi)∧Ho.length=(ρ++rng k nn).length∧
   SWs (aU H vs) (aargs.map (ren (nm (ρ++rng k nn) (aB H).length)))∧X nn (ρ++rng k nn) ws c=some b∧(∀w∈ws,∃p,tgt w=some p∧p∈ρ++rng k nn)∧
   ∀s s',s.h=H→Ws s ws s'→aB s'.h=oV (aB H) (ρ++rng k nn) (Ho.map (eU (nm (ρ++rng k nn) (aB H).length))):=by
 obtain⟨hokf,hwf,hcon⟩:=he;unfold JC at hwf;rw[qAa,qAa]at hwf;obtain⟨⟨_,hwf⟩,hwp⟩:=hwf;simp only[qAa]at hwf;obtain⟨edps,edrs,psok,rsok⟩:=hwf;unfold apZ at h;simp only at h;obtain⟨hc,h⟩:=(bD h).resolve_right fun h=>by cases h.2
 simp only[qAa]at hc;obtain⟨hna,hρl,hρn,hres⟩:=hc;have hna:=qAj hna;have hρl:=qAj hρl;have hnd:=amM hρn;clear hρn;have hres:=alL _ _ hres;generalize hL0:LJ 0 (aD e.ps) (Py vs H 0 e.ps [])=L0 at h hρl hnd;generalize hρ:MB L0 0 (aD e.ps)=ρ at h hρl hnd;have hsome:∀j,j<aD e.ps→L0 j=ρ[j]?:=fun j hj=>by
  have:=ang (f:=L0) (aD e.ps) 0 (by rw[hρ];exact hρl) j hj;rw[qAL,hρ]at this;exact this
 have L0ge:∀j,aD e.ps≤j→L0 j=none:=fun j hj=>by rw[←hL0];exact aDI (qAZ _) hj
 obtain⟨us,hus,hB⟩:=KG e.ps 0 _ [] [] edps (qAd _) h;obtain⟨x,hx,hus⟩:=Q8 hus;obtain⟨y,hF,hus⟩:=ob hus;obtain⟨T1,h1,q1,la⟩:=hB (dM e.na) [] [] rfl;rw[qAt]at q1;rcases RT.aIH hus (hcon x y hF T1 h1 (by rw[hx];exact q1))with⟨y,hus,hcalls⟩|⟨eds,c,z,hpe,hus,hcalls⟩
 ·left;obtain⟨r,h2,ws,v,g1,g2,g3,g4,g5,g6,g7⟩:=aDF e.rs e.nr (e.out y) (Q:=fun ws v=>K (aD e.rs) (ρ++rng k (aD e.rs)) ws v) edps edrs psok rsok hna hρl hnd hres hsome L0ge hx q1 la hus;exact⟨ρ,_,_,_,_,ws,v,hcalls r h2 g1,g2,g3,g4,g5,g6,g7⟩
 ·right;rw[hpe]at hwp;simp only[qAa]at hwp;obtain⟨_,edr,pso,rso⟩:=hwp;obtain⟨hr,hus⟩:=(bD hus).resolve_right fun h=>by cases h.2
  obtain⟨r,h2,ws,v,g1,g2,g3,g4,g5,g6,g7⟩:=aDF eds 0 z (Q:=fun ws _=>X (aD eds) (ρ++rng k (aD eds)) ws c) edps edr pso rso hna hρl hnd (alL _ _ hr) hsome L0ge hx q1 la hus;exact⟨aD eds,ρ,_,_,_,ws,c,hcalls r h2 g1,g2,g3,g4,g5,g6,fun s s' h1 h2=>(g7 s s' h1 h2).1⟩
end
end
section
open Go
def Kcp(t:List TV)(cp:List (Nat×Nat)):Prop:=∀d x,(d,x)∈cp→nth .unk t d=nth .unk t x
structure Inv(s:DS):Prop where
 up:Kup s.t s.up
 rl:Krl s.t s.rl
 cp:Kcp s.t s.cp
structure Fr(s s':DS):Prop where
 tl:s'.t.length=s.t.length
 hl:s.h.length≤s'.h.length
 d:∀k,k∉s'.d→k∉s.d∧nth .unk s'.t k=nth .unk s.t k
 om:∀p,p∈s.o→p∈s'.o
 oo:s'.oo=s.oo
 o:∀l,l<s.h.length→(l,0)∉s'.o→Kw (nth .dead s.h l) (nth .dead s'.h l) fun q=>decide ((l,q+1)∈s'.o)
theorem Kw.trans{a b c:TObj}{f g:Nat→Bool}(h:Kw a b f)(k:Kw b c g)(hf:∀q,g q=false→f q=false):Kw a c g:=by
 rcases h with rfl|⟨x,y,rfl,rfl,h1,h2⟩
 ·exact k
 ·rcases k with rfl|⟨y',z,e,rfl,k1,k2⟩
  ·exact .inr ⟨x,y,rfl,rfl,h1,fun q hq=>h2 q (hf q hq)⟩
  ·cases e;exact .inr ⟨x,z,rfl,rfl,k1.trans h1,fun q hq=>(k2 q hq).trans (h2 q (hf q hq))⟩
theorem Fr.refl(s:DS):Fr s s:=⟨rfl,qAd _,fun _ h=>⟨h,rfl⟩,fun _ h=>h,rfl,fun _ _ _=>.inl rfl⟩
theorem Fr.trans{a b c:DS}(h:Fr a b)(k:Fr b c):Fr a c:=by
 refine⟨k.tl.trans h.tl,qAs h.hl k.hl,fun n hn=>?_,fun p hp=>k.om p (h.om p hp),k.oo.trans h.oo,fun l hl hno=>?_⟩
 ·obtain⟨k1,k2⟩:=k.d n hn;obtain⟨h1,h2⟩:=h.d n k1
  grind
 ·refine Kw.trans (h.o l hl fun hm=>hno (k.om _ hm)) (k.o l (qAB hl h.hl) hno) fun q hq=>?_;simp at hq⊢;exact fun hm=>hq (k.om _ hm)
theorem mem_filter{l:List Nat}{f:Nat→Bool}{i:Nat}(h:mem (l.filter f) i=true):mem l i=true∧f i=true:=by
 rw[mem_iff,qBa]at h;exact⟨mem_iff.2 h.1,h.2⟩
theorem aHm{a b:Nat}(h:(!(Nat.beq a b))=true):a≠b:=by
 intro e;subst e
 simp_all
theorem aE2{s:DS}(hi:Inv s)(n:Nat)(v:TV):
  Inv ⟨s.t.set n v,s.h,n::s.d,s.o,s.up.filter fun i=>!(Nat.beq i n),s.rl.filter fun p=>!(Nat.beq p.1 n ||(Nat.beq p.2.1 n ||Nat.beq p.2.2 n)),s.cp.filter fun p=>!(Nat.beq p.1 n ||Nat.beq p.2 n),s.oo⟩:=by
 refine⟨fun i k a h1 h2=>?_,fun d i j h1 k a h2=>?_,fun d x h1=>?_⟩
 ·obtain⟨g1,g2⟩:=mem_filter h1;have hne:=aHm g2;simp only[aX hne.symm]at h2;exact hi.up i k a g1 h2
 ·rw[qBa]at h1;obtain⟨g1,g2⟩:=h1;simp at g2;have ne:∀a,Nat.beq a n=false→n≠a:=fun a h e=>by subst e;rw[o9]at h;cases h
  simp only[aX (ne _ g2.2.1)]at h2;simp only[aX (ne _ g2.1),aX (ne _ g2.2.2)];exact hi.rl d i j g1 k a h2
 ·rw[qBa]at h1;obtain⟨g1,g2⟩:=h1;simp at g2;have ne:∀a,Nat.beq a n=false→n≠a:=fun a h e=>by subst e;rw[o9]at h;cases h
  simp only[aX (ne _ g2.1),aX (ne _ g2.2)];exact hi.cp d x g1
theorem aGn{s s':DS}{w:TWr}(hi:Inv s)(h:W1 s w s'):Inv s':=by
 cases w with
 |sl n v=>obtain⟨_,rfl⟩:=h;exact aE2 hi n v
 |ob l o=>obtain⟨_,_,rfl⟩:=h;exact⟨hi.up,hi.rl,hi.cp⟩
 |st l off vs=>obtain⟨_,_,_,_,rfl⟩:=h;exact⟨hi.up,hi.rl,hi.cp⟩
 |kill l=>rcases h with⟨_,_,_,rfl⟩|⟨_,_,_,rfl⟩|⟨_,rfl⟩<;>exact⟨hi.up,hi.rl,hi.cp⟩
 |nw l o=>obtain⟨_,_,rfl⟩:=h;exact⟨hi.up,hi.rl,hi.cp⟩
 |up l i e y=>obtain⟨_,_,rfl⟩:=h;exact⟨hi.up,hi.rl,hi.cp⟩
theorem akc{s s':DS}{ws:List TWr}(h:Ws s ws s')(hi:Inv s):Inv s':=by
 induction h with
 |nil s=>exact hi
 |cons h _ ih=>exact ih (aGn hi h)
theorem akL{s:DS}{l:Nat}{o:TObj}:Fr s {s with h:=s.h.set l o,o:=(l,0)::s.o}:=
 ⟨rfl,by simp,fun _ h=>⟨h,rfl⟩,fun p hp=>qAk _ hp,rfl,fun l' hl hno=>.inl (aX fun e=>hno (by subst e;simp))⟩
theorem aJL{s s':DS}{w:TWr}(h:W1 s w s'):Fr s s':=by
 cases w with
 |sl n v=>
  obtain⟨_,rfl⟩:=h;refine⟨by simp,qAd _,fun k hk=>?_,fun _ h=>h,rfl,fun _ _ _=>.inl rfl⟩;simp at hk;exact⟨hk.2,aX (qBo hk.1)⟩
 |ob l o=>obtain⟨_,_,rfl⟩:=h;exact akL
 |st l off vs=>
  obtain⟨cs,cs',h1,h2,rfl⟩:=h;refine⟨rfl,by simp,fun _ h=>⟨h,rfl⟩,fun p hp=>qBz _ hp,rfl,fun l' hl hno=>?_⟩;by_cases e:l=l'
  ·subst e;simp only[cK hl,h1];obtain⟨q1,q2⟩:=KP h2;refine .inr ⟨cs,cs',rfl,rfl,by rw[q1];simp;omega,fun q hq=>?_⟩;simp only[decide_eq_false_iff_not,qAr,qAJ,not_or]at hq;have hout:¬(off≤q∧q<off+(aK vs).length):=fun hh=>hq.1 ⟨q+1,Io.2 (by rw[pO]at hh;omega),rfl⟩
   grind
  ·exact .inl (aX e)
 |kill l=>rcases h with⟨_,_,_,rfl⟩|⟨_,_,_,rfl⟩|⟨_,rfl⟩<;>exact akL
 |nw l o=>obtain⟨_,_,rfl⟩:=h;exact akL
 |up l i e y=>obtain⟨_,_,rfl⟩:=h;exact akL
theorem apG{s s':DS}{ws:List TWr}(h:Ws s ws s'):Fr s s':=by
 induction h with
 |nil s=>exact Fr.refl s
 |cons h _ ih=>exact(aJL h).trans ih
section
variable {P:Program}{γ:Type}{b:γ}
theorem aCf{H:List TObj}{t:List TV}{θ:Nat→Option ET}{up:List Nat}{k:Nat}{o:Oper}{K:List Nat→List TWr→Option γ}(hk:Kup t up)(h:dS (TI.of P) θ up k o.dst t H o.op K=some b):rX P H t k o K b:=by
 obtain⟨d,op,ty,ps,aft,gd⟩:=o;cases op with
 |move x=>exact aFQ h
 |assign x=>exact az8 h
 |pick c x y=>exact aEN h
 |nilCheck x=>exact auu h
 |binOp op t x y t2=>exact aBE hk h
 |unOp op t x=>exact aD5 h
 |fieldAddr s x f=>exact arA h
 |field s x f=>exact aBL h
 |indexAddr t x i=>exact arj h
 |index t x i=>exact aBV h
 |extract x i=>exact axU h
 |slice t x lo hi mx=>
  cases mx with
  |none=>exact aA7 h
  |some m=>cases h
 |build t parts=>exact aBh h
 |makeFunc fn first cap=>
  cases fn with
  |func f=>exact auq h
  |_=>cases h
 |load t x=>exact aEm h
 |convert s t x=>exact axo h
 |store t x y=>exact aBZ h
 |alloc t=>exact aCO h
 |box t x=>
  refine aIa h fun cs _ hr=>(Dl cs fun l _=>QO ?_ l).symm;have e:nth .dead H k=.res:=by unfold mh at hr;split at hr;assumption;cases hr
  rw[e];exact⟨rfl,fun _=>rfl⟩
 |makeMap t r=>
  cases r with
  |none=>exact axX h
  |some x=>cases h
 |buildSlice t len parts=>exact aoW h
 |makeSlice t x y=>exact aq5 h
 |call c=>
  obtain⟨callee,args,ats⟩:=c;cases callee with
  |builtin bi=>
   cases bi<;>first|exact aGl h|exact az6 h|exact aHd h|cases h
  |_=>cases h
 |lookup t m key ok=>exact azh h
 |mapUpdate t m key x=>exact ap6 h
 |_=>cases h
structure Sm(e f:Eff):Prop where
 rs:e.rs=f.rs
 ro:e.ro=f.ro
 ws:jA e.ws=jA f.ws
 wo:jS e.ws=jS f.ws
inductive Sms:List Eff→List Eff→Prop where
 |nil:Sms [] []
 |cons {e f:Eff} {es fs:List Eff}:Sm e f→Sms es fs→Sms (e::es) (f::fs)
theorem GR:∀(ws:List TWr) (H:List TObj),jA (erase ws)=jA (Cj H ws)∧jS (erase ws)=jS (Cj H ws)
 |[],_=>⟨rfl,rfl⟩
 |w::ws,H=>by
  obtain⟨h1,h2⟩:=GR ws (wrH H w);cases w<;>simp only[erase,Cj,GU,jA,jS,qBG]at *<;>exact⟨by rw[h1],by rw[h2]⟩
theorem akM(a c:List Wr):jA (a++c)=jA a++jA c:=by simp[jA]
theorem an5(a c:List Wr):jS (a++c)=jS a++jS c:=by simp[jS]
theorem afA:∀(l:List Nat) (os:List AObj),jA (mD l os)=[]
 |[],_=>rfl
 |_::_,[]=>rfl
 |l::ls,o::os=>by simp only[mD];exact afA ls os
theorem ajS:∀(l:List Nat) (os:List AObj),os.length=l.length→jS (mD l os)=l
 |[],[],_=>rfl
 |[],_::_,h=>by cases h
 |_::_,[],h=>by cases h
 |l::ls,o::os,h=>by
  have:=ajS ls os (by simpa using h);simp only[mD,jS,qBG]at this⊢;rw[this]
theorem afQ:∀(l:List Nat),jA (l.map fun l=>Wr.obj l .dead)=[]
 |[]=>rfl
 |_::ls=>by simp;exact afQ ls
theorem ah8:∀(l:List Nat),jS (l.map fun l=>Wr.obj l .dead)=l
 |[]=>rfl
 |l::ls=>by have:=ah8 ls;simp only[qAy,jS,qBG]at this⊢;rw[this]
theorem aCS{e f e' f':Eff}(h:Sm e f)(h':Sm e' f'):gP e e'=gP f f':=by
 unfold gP;rw[h.rs,h.ro,h.ws,h.wo,h'.rs,h'.ro,h'.ws,h'.wo]
theorem auX{es fs:List Eff}(h:Sms es fs):∀i,Sm (es.getD i wT) (fs.getD i wT):=by
 induction h with
 |nil=>intro i;exact⟨rfl,rfl,rfl,rfl⟩
 |cons h _ ih=>intro i;cases i with
  |zero=>exact h
  |succ i=>exact ih i
theorem axR{l:List Oper}{es fs:List Eff}(h:Sms es fs):ng l es=ng l fs:=by
 unfold ng;congr 1;funext j;congr 2;funext i;rw[aCS (auX h i) (auX h j)]
theorem aE8{ops:Array Oper}{o:Oper}{s:DS}{k:Nat}{rd:List Nat}{ws:List TWr}{ws':List Wr}(hw:eG ops (iX s).tmps o=some true)(h:aP P k o (bL (aU s.h s.t)) (obj? (aB s.h))=some (rd,ws'))
  (hv:(∀x∈o.op.operands,VF (bL (aU s.h s.t) x))→ws'=Cj s.h ws):Jq P ops o (iX s) ⟨bE ops o,rd,Cj s.h ws⟩:=by
 intro t ht;refine .inl ⟨by rw[wh ht.rs];exact hw,?_⟩;intro C κ a w hs next Q hn
 have hev:=Nz ht.rs;have e:=hv fun x hx=>by
  have e1:bL (aU s.h s.t) x=bL t.tmps x:=(hev x hx).symm;rw[e1];exact(hs.ev x).vf
 subst e;exact akF (k:=k) (rd:=rd) (abh h hev ht.ro) C κ a w hs next Q hn
theorem aH7{ops:List Oper}{o:Oper}{s:DS}{A B:DS→Option γ}(h:gdK ops o s A B=some b):(eG ops.toArray (iX s).tmps o=some true∧A s=some b)∨(eG ops.toArray (iX s).tmps o=some false∧B s=some b):=by
 unfold gdK at h;unfold eG;cases hg:o.guard with
 |none=>rw[hg]at h;exact .inl ⟨rfl,h⟩
 |some p=>
  obtain⟨j,want⟩:=p;rw[hg]at h;simp only at h⊢;rw[List.getElem?_toArray];cases hd:(ops[j]?).bind (·.dst)with
  |none=>rw[hd]at h;cases h
  |some d=>
   rw[hd]at h;simp only at h⊢;have htm:(iX s).tmps.getD d .unk=av s.h (nth .unk s.t d):=Ez s.h s.t d;rw[htm];have self:∀v,nth .unk s.t d=v→s.t.set d v=s.t:=fun v hv=>by
    apply qBU;intro n;by_cases e:d=n
    ·subst e;by_cases hl:d<s.t.length
     ·rw[qCx hl,qAc hl];rw[jF,List.getD,qAc hl]at hv
      grind
     grind
    grind
   split at h
   ·rename_i q hq;simp only[hq,av,kr];rw[ni,ni,ni,ni]at h;cases q
    ·have e1:=self _ hq;cases want
     ·simp_all
     simp_all
    ·have e1:=self _ hq;cases want
     ·simp only[cond_false,cond_true,e1]at h;exact .inr ⟨rfl,h⟩
     simp_all
   ·rename_i hq;rw[hq];exact .inr ⟨rfl,h⟩
   ·cases h
theorem aBu(o:Oper)(s:DS):(J9 o s).t=s.t∧(J9 o s).h=s.h∧(J9 o s).d=s.d∧(J9 o s).o=s.o∧(J9 o s).oo=s.oo:=by
 unfold J9
 grind
theorem ayH{o:Oper}{s s1:DS}{ws:List TWr}(hi:Inv s1)(hs:Ws s ws s1)(h0:Inv s)(hr:aqo s.t o ws)(hm:∀x d,o.op=.move x→o.dst=some d→ws=[.sl d (gq s.t x)]):Inv (J9 o s1):=by
 unfold J9;split
 ·rename_i tt i j g d e1 e2;cases hb:Nat.beq d i ||Nat.beq d j with
  |true=>exact hi
  |false=>
   rw[cond_false];simp at hb;have ne:∀a,Nat.beq d a=false→d≠a:=fun a h e=>by subst e;rw[o9]at h;cases h
   obtain⟨v,rfl,hv⟩:=hr d i j tt g e1 e2;cases hs with
   |cons g1 g2=>
    cases g2;obtain⟨hlt,rfl⟩:=g1;refine⟨hi.up,fun d' i' j' hmem k a hk=>?_,hi.cp⟩;rcases qAh.1 hmem with e|hmem
    ·cases e;simp only[aX (ne i hb.1)]at hk;obtain⟨c,g1,g2⟩:=hv k a hk;refine⟨c,by simp only[aX (ne j hb.2)];exact g1,fun b hbv=>?_⟩;simp only[cK hlt]at hbv
     grind
    ·exact hi.rl d' i' j' hmem k a hk
 ·rename_i x d e1 e2;cases hb:Nat.beq d x with
  |true=>exact hi
  |false=>
   rw[cond_false];have ne:d≠x:=fun e=>by subst e;rw[o9]at hb;cases hb
   have hw:=hm _ d e1 e2;subst hw;cases hs with
   |cons g1 g2=>
    cases g2;obtain⟨hlt,rfl⟩:=g1;have hx:nth .unk (s.t.set d (gq s.t (.tmp x))) x=nth .unk s.t x:=aX ne;have hd:nth .unk (s.t.set d (gq s.t (.tmp x))) d=nth .unk s.t x:=cK hlt;refine⟨fun i k a hmem hk=>?_,hi.rl,fun d' x' hmem=>?_⟩
    ·simp only at hmem hk;cases hu:mem (s.up.filter fun i=>!(Nat.beq i d)) x with
     |false=>simp only[hu]at hmem;exact hi.up i k a hmem hk
     |true=>
      simp only[hu,cond_true]at hmem;rw[mem_iff,qAh]at hmem;rcases hmem with rfl|hmem
      ·rw[hd]at hk;exact h0.up x k a (mem_filter hu).1 hk
      ·exact hi.up i k a (mem_iff.2 hmem) hk
    ·rcases qAh.1 hmem with e|hmem
     ·grind
     ·exact hi.cp d' x' hmem
 ·exact hi
end
end
section
open Go
theorem confl_symm(f e:Eff):gP f e=true↔gP e f=true:=by
  simp only[gP,qBe,qCB,qEh];constructor
  ·rintro(((⟨n,a1,a2|a2⟩|⟨n,a1,a2⟩)|⟨n,a1,a2|a2⟩)|⟨n,a1,a2⟩)
   ·exact .inl (.inl (.inr ⟨n,a1,a2⟩))
   ·exact .inl (.inl (.inl ⟨n,a2,.inr a1⟩))
   ·exact .inl (.inl (.inl ⟨n,a1,.inl a2⟩))
   ·exact .inr ⟨n,a1,a2⟩
   ·exact .inl (.inr ⟨n,a2,.inr a1⟩)
   ·exact .inl (.inr ⟨n,a1,.inl a2⟩)
  ·rintro(((⟨n,a1,a2|a2⟩|⟨n,a1,a2⟩)|⟨n,a1,a2|a2⟩)|⟨n,a1,a2⟩)
   ·exact .inl (.inl (.inr ⟨n,a1,a2⟩))
   ·exact .inl (.inl (.inl ⟨n,a2,.inr a1⟩))
   ·exact .inl (.inl (.inl ⟨n,a1,.inl a2⟩))
   ·exact .inr ⟨n,a1,a2⟩
   ·exact .inl (.inr ⟨n,a2,.inr a1⟩)
   ·exact .inl (.inr ⟨n,a1,.inl a2⟩)
theorem wpAny_thr2{P:Program}{l:List Oper}{q0:Nat}{op:Oper}{es:List Eff}{ep:Eff}{s:ASt}{v:Value}{C:Ctx}{Q:Exit→Act→World→Prop}(hlen:es.length=l.length)(hlp:l[q0]? =some op)(hep:es[q0]? =some ep)
  (heff:∀i o e,i≠q0→q0∉(FD l []).getD i []→l[i]? =some o→es[i]? =some e→Jq P l.toArray o (s.wr (bP (fun j=>decide (j<i)&&!(j==q0)) 0 es)) e)
  (hx:aik P l.toArray op v (s.wr (bP (fun j=>decide (j<q0)) 0 es)) ep) (hok:ng l es=true)
  (hq:∀(D:Nat→Bool) κ' a' w',(∀i,i∈(FD l []).getD q0 []→D i=true∨i=q0)→D q0=false→Sim C κ' ((s.wr (bP D 0 es)).wr ep.ws) a' w'→Q (.panic [{v,recovered:=false}]) a' w'):
  ∀(fuel:Nat) (listed:Array Bool) (κ:aS) (a:Act) (w:World),listed.size=l.length→(listed.toList.filter (!·)).length=fuel→listed.getD q0 true=false→
   (∀j o,l[j]? =some o→listed.getD j false=true→∀p∈qG o,listed.getD p false=true)→
   Sim C κ (s.wr (bP (fun i=>listed.getD i false) 0 es)) a w→wpAny P .any l.toArray Q fuel listed a w:=by
 have hpl:q0<l.length:=(qAH.1 hlp).1;have hord:∀j,j<l.length→(∀p∈qG (l.getD j default),p<j)∧∀i,i<j→gP (es.getD i wT) (es.getD j wT)=true→i∈(FD l []).getD j []:=fun j hj=>by
  have:=qAP.1 hok j (qBW.2 hj);simp only[qAa,qAP,decide_eq_true_eq,qBW,qBe,qAV,qEh]at this;refine⟨this.1,fun i hi hc=>?_⟩;rcases this.2 i hi with h|h
  ·rw[hc]at h;cases h
  ·exact h
 have hall:∀(listed:Array Bool),listed.size=l.length→Region.ready .any l.toArray listed=[]→∀i,i<l.length→listed.getD i false=true:=by
  intro listed hsz hr i
  induction i using Nat.strongRecOn with
  |_ i ih=>
   intro hi;cases hb:listed.getD i false with
   |true=>rfl
   |false=>
    exfalso;have hlt:i<listed.size:=by omega
    have:i∈Region.ready .any l.toArray listed:=by
     refine mem_ready.2 ⟨?_,l[i],by simp[hi],fun e he hbd=>?_⟩
     ·simpa[Array.getD,hlt]using hb
     ·have hp:=(hord i hi).1 e.on (by
       simp only[qG,List.getD,qAc hi,qAw];exact qAJ.2 ⟨e,qBa.2 ⟨by simpa using he,hbd⟩,rfl⟩)
      exact ih e.on hp (by omega)
    rw[hr]at this;cases this
 have hne:∀(listed:Array Bool),listed.size=l.length→listed.getD q0 true=false→Region.ready .any l.toArray listed≠[]:=fun listed hsz hp hr=>by
  have h1:=hall listed hsz hr q0 hpl;have h2:q0<listed.size:=by omega
  simp[Array.getD,h2]at h1 hp;rw[h1]at hp;cases hp
 have hgp:es.getD q0 wT=ep:=by rw[List.getD,hep];rfl
 have hg1:∀j f,es[j]? =some f→es.getD j wT=f:=fun j f hj=>by
  rw[List.getD,hj];rfl
 intro fuel
 induction fuel with
 |zero=>
  intro listed κ a w hsz hcnt hpf _ hsim;exfalso;have hlt:q0<listed.size:=by omega
  have:=adP hlt hpf;omega
 |succ fuel ih=>
  intro listed κ a w hsz hcnt hpf hdown hsim;refine⟨fun hr=>(hne listed hsz hpf hr).elim,fun i hi=>?_⟩;obtain⟨h1,o,h2,h3⟩:=mem_ready.1 hi;have hil:i<l.length:=by have:=(qBi.1 h2).1;simpa using this
  have hlo:l[i]? =some o:=by simpa using h2
  have hlt:i<listed.size:=by omega
  have hi0:listed.getD i false=false:=by simpa[Array.getD,hlt]using h1
  have hbd:∀j i',listed.getD j false=true→i'∈(FD l []).getD j []→listed.getD i' false=true:=
   Ny (D:=fun j=>listed.getD j false=true) l [] (fun j i' _ hi'=>by simp at hi') (fun j o' hj hD p hp=>hdown j o' hj (by simpa using hD) p hp)
  have hbi:∀j,j∈(FD l []).getD i []→listed.getD j false=true∨j=i:=
   fun j hb=>Ny (D:=fun j=>listed.getD j false=true∨j=i) l [] (fun j i' _ hi'=>by simp at hi') (fun j' o' hj' hD p hp=>by
    simp only[qAA,qAL]at hD;rcases hD with hD|rfl
    ·exact .inl (hdown j' o' hj' hD p hp)
    ·rw[hlo]at hj';cases hj';simp only[qG,qAJ,qBa]at hp;obtain⟨ed,⟨he1,he2⟩,rfl⟩:=hp;exact .inl (h3 ed (by simpa using he1) he2)) i j (.inr rfl) hb
  have hpf0:listed.getD q0 false=false:=by
   have:q0<listed.size:=by omega
   simpa[Array.getD,this]using hpf
  by_cases hiq:i=q0
  ·subst hiq;rw[hlp]at hlo;obtain rfl:=Option.some.inj hlo;have hagree:Agree (s.wr (bP (fun j=>listed.getD j false) 0 es)) (s.wr (bP (fun j=>decide (j<i)) 0 es)) ep:=by
    have hD:∀j f,es[j]? =some f→gP f ep=true→listed.getD j false=decide (j<i):=fun j f hj hc=>by
     rcases Nat.lt_trichotomy j i with hji|rfl|hji
     ·have hb:=(hord i hpl).2 j hji (by rw[hg1 j f hj,hgp];exact hc);rcases hbi j hb with h|h
      ·rw[h];simp[hji]
      ·omega
     ·rw[hpf0];simp
     ·have hjl:j<l.length:=by have:=(qAH.1 hj).1;omega
      have hb:=(hord j hjl).2 i hji (by rw[hg1 j f hj,hgp];exact(confl_symm f ep).1 hc);cases hlj:listed.getD j false with
      |false=>simp;omega
      |true=>have:=hbd j i hlj hb;rw[hpf0]at this;cases this
    refine⟨by rw[(dA _ s).1,(dA _ s).1],by rw[(dA _ s).2,(dA _ s).2],fun n hn=>?_,fun n hn=>?_⟩
    ·by_cases hnl:n<s.tmps.length
     ·rw[vW _ n s hnl,vW _ n s hnl];congr 1;refine Lr es 0 fun j f hj hw=>?_;rw[qAL];refine hD j f hj ?_;cases hc:gP f ep with
      |true=>rfl
      |false=>exact((WI hc hw).1 hn).elim
     ·have e1:(s.wr (bP (fun j=>listed.getD j false) 0 es)).tmps.getD n .unk=.unk:=by rw[List.getD,qAC (by rw[(dA _ s).1];omega)];rfl
      have e2:(s.wr (bP (fun j=>decide (j<i)) 0 es)).tmps.getD n .unk=.unk:=by rw[List.getD,qAC (by rw[(dA _ s).1];omega)];rfl
      rw[e1,e2]
    ·by_cases hnl:n<s.heap.length
     ·rw[tq _ n s hnl,tq _ n s hnl];congr 1;refine Ic es 0 fun j f hj hw=>?_;rw[qAL];refine hD j f hj ?_;cases hc:gP f ep with
      |true=>rfl
      |false=>exact((WR hc hw).1 hn).elim
     ·have e1:obj? (s.wr (bP (fun j=>listed.getD j false) 0 es)).heap n=.dead:=by rw[obj?,qAC (by rw[(dA _ s).2];omega)];rfl
      have e2:obj? (s.wr (bP (fun j=>decide (j<i)) 0 es)).heap n=.dead:=by rw[obj?,qAC (by rw[(dA _ s).2];omega)];rfl
      rw[e1,e2]
   obtain⟨hwd,hX⟩:=hx _ hagree;unfold wpOp;rw[h2];dsimp only;rw[nG hsim hwd];simp only[if_true];refine .inl (hX C κ a w hsim _ _ fun κ' w' hs2=>hq _ κ' a w' hbi hpf0 hs2)
  have hfree:q0∉(FD l []).getD i []:=fun hb=>by
   rcases hbi _ hb with h|h
   ·rw[hpf0]at h;cases h
   ·exact hiq h.symm
  obtain⟨e,hei⟩:∃e,es[i]? =some e:=⟨_,qAc (by rw[hlen];exact hil)⟩;have hgi:es.getD i wT=e:=hg1 i e hei
  -- where something conflicts with i
  have hearly:∀j f,es[j]? =some f→j<i→gP f e=true→listed.getD j false=true:=fun j f hj hji hc=>by
   have hgj:es.getD j wT=f:=hg1 j f hj;have hb:=(hord i hil).2 j hji (by rw[hgj,hgi];exact hc);have hD:∀j' i',(listed.getD j' false=true∨j'=i)→i'∈(FD l []).getD j' []→(listed.getD i' false=true∨i'=i):=
    Ny (D:=fun j=>listed.getD j false=true∨j=i) l [] (fun j i' _ hi'=>by simp at hi') (fun j' o' hj' hD p hp=>by
     simp only[qAA,qAL]at hD;rcases hD with hD|rfl
     ·exact .inl (hdown j' o' hj' hD p hp)
     ·rw[hlo]at hj';cases hj';simp only[qG,qAJ,qBa]at hp;obtain⟨ed,⟨he1,he2⟩,rfl⟩:=hp;exact .inl (h3 ed (by simpa using he1) he2))
   rcases hD i j (.inr rfl) hb with h|h
   ·exact h
   ·omega
  have hlate:∀j f,es[j]? =some f→i<j→gP e f=true→listed.getD j false=false:=fun j f hj hji hc=>by
   have hjl:j<l.length:=by have:=(qAH.1 hj).1;omega
   have hgj:es.getD j wT=f:=hg1 j f hj;have hb:=(hord j hjl).2 i hji (by rw[hgj,hgi];exact hc);cases hlj:listed.getD j false with
   |false=>rfl
   |true=>have:=hbd j i hlj hb;rw[hi0]at this;cases this
  have hcommon:∀j f,es[j]? =some f→(gP f e=true∨gP e f=true→j≠i→listed.getD j false=decide (j<i)):=fun j f hj=>by
   have hsym:=confl_symm f e;intro hc hne;rcases qEi hne with hlt'|hgt
   ·rw[hearly j f hj hlt' (hc.elim id hsym.2)];simp[hlt']
   ·rw[hlate j f hj hgt (hc.elim hsym.1 id)];simp;omega
  let D:Nat→Bool:=fun j=>listed.getD j false
  have hagree:Agree (s.wr (bP D 0 es)) (s.wr (bP (fun j=>decide (j<i)&&!(j==q0)) 0 es)) e:=by
   refine⟨by rw[(dA _ s).1,(dA _ s).1],by rw[(dA _ s).2,(dA _ s).2],fun n hn=>?_,fun n hn=>?_⟩
   ·by_cases hnl:n<s.tmps.length
    ·rw[vW _ n s hnl,vW _ n s hnl];congr 1;refine Lr es 0 fun j f hj hw=>?_;rw[qAL];by_cases hji:j=i
     ·subst hji;show listed.getD j false=_;rw[hi0];simp
     ·by_cases hjq:j=q0
      ·subst hjq;show listed.getD j false=_;rw[hpf0];simp
      rw[show(j==q0)=false by simpa using hjq,qBb,qBH];refine hcommon j f hj (.inl ?_) hji;cases hc:gP f e with
      |true=>rfl
      |false=>exact((WI hc hw).1 hn).elim
    ·have e1:(s.wr (bP D 0 es)).tmps.getD n .unk=.unk:=by rw[List.getD,qAC (by rw[(dA _ s).1];omega)];rfl
     have e2:(s.wr (bP (fun j=>decide (j<i)&&!(j==q0)) 0 es)).tmps.getD n .unk=.unk:=by rw[List.getD,qAC (by rw[(dA _ s).1];omega)];rfl
     rw[e1,e2]
   ·by_cases hnl:n<s.heap.length
    ·rw[tq _ n s hnl,tq _ n s hnl];congr 1;refine Ic es 0 fun j f hj hw=>?_;rw[qAL];by_cases hji:j=i
     ·subst hji;show listed.getD j false=_;rw[hi0];simp
     ·by_cases hjq:j=q0
      ·subst hjq;show listed.getD j false=_;rw[hpf0];simp
      rw[show(j==q0)=false by simpa using hjq,qBb,qBH];refine hcommon j f hj (.inl ?_) hji;cases hc:gP f e with
      |true=>rfl
      |false=>exact((WR hc hw).1 hn).elim
    ·have e1:obj? (s.wr (bP D 0 es)).heap n=.dead:=by rw[obj?,qAC (by rw[(dA _ s).2];omega)];rfl
     have e2:obj? (s.wr (bP (fun j=>decide (j<i)&&!(j==q0)) 0 es)).heap n=.dead:=by rw[obj?,qAC (by rw[(dA _ s).2];omega)];rfl
     rw[e1,e2]
  have hstep:=heff i o e hiq hfree hlo hei _ hagree;have hDi:∀j,(listed.setIfInBounds i true).getD j false=(D j ||decide (j=i)):=fun j=>by
   by_cases hji:i=j
   ·subst hji;simp[Array.getD,hlt]
   ·simp only[qAq,qCK hji,D];simp[qBo hji]
  have hstate:(s.wr (bP D 0 es)).wr e.ws=s.wr (bP (fun j=>(listed.setIfInBounds i true).getD j false) 0 es):=by
   rw[←IZ];refine ASt.ext' (by rw[(dA _ s).1,(dA _ s).1]) (by rw[(dA _ s).2,(dA _ s).2]) (fun n hn=>?_) (fun n hn=>?_)
   ·rw[(dA _ s).1]at hn;rw[vW _ n s hn,vW _ n s hn,JQ];congr 1;by_cases hw:n∈jA e.ws
    ·rw[aqK (D:=fun j=>(listed.setIfInBounds i true).getD j false) es 0 i e hei (by rw[qAL,hDi];simp) hw (fun j f hj hij hD' hwf=>by
      rw[qAL,hDi]at hD';have hji:j≠i:=by omega
      have hDj:listed.getD j false=true:=by simpa[hji,D]using hD'
      have hc:gP f e=true:=by
       cases hc:gP f e with
       |true=>rfl
       |false=>exact((WI hc hwf).2 hw).elim
      have:=hcommon j f hj (.inl hc) hji;rw[hDj]at this;have hlt':j<i:=by simpa using this.symm
      omega)]
     obtain⟨v,hv⟩:=Yv hw;rw[hv];rfl
    ·rw[XZ hw,qCt];refine Lr es 0 fun j f hj hwf=>?_;rw[qAL,hDi];have hji:j≠i:=fun e'=>by subst e';rw[hei]at hj;cases hj;exact hw hwf
     simp[hji,D]
   ·rw[(dA _ s).2]at hn;rw[tq _ n s hn,tq _ n s hn,Jw];congr 1;by_cases hw:n∈jS e.ws
    ·rw[asZ (D:=fun j=>(listed.setIfInBounds i true).getD j false) es 0 i e hei (by rw[qAL,hDi];simp) hw (fun j f hj hij hD' hwf=>by
      rw[qAL,hDi]at hD';have hji:j≠i:=by omega
      have hDj:listed.getD j false=true:=by simpa[hji,D]using hD'
      have hc:gP f e=true:=by
       cases hc:gP f e with
       |true=>rfl
       |false=>exact((WR hc hwf).2 hw).elim
      have:=hcommon j f hj (.inl hc) hji;rw[hDj]at this;have hlt':j<i:=by simpa using this.symm
      omega)]
     obtain⟨v,hv⟩:=YJ hw;rw[hv];rfl
    ·rw[Y3 hw,qCt];refine Ic es 0 fun j f hj hwf=>?_;rw[qAL,hDi];have hji:j≠i:=fun e'=>by subst e';rw[hei]at hj;cases hj;exact hw hwf
     simp[hji,D]
  have hnext:∀κ' a' w',Sim C κ' ((s.wr (bP D 0 es)).wr e.ws) a' w'→wpAny P .any l.toArray Q fuel (listed.setIfInBounds i true) a' w':=fun κ' a' w' hs2=>by
   rw[hstate]at hs2;refine ih (listed.setIfInBounds i true) κ' a' w' (by simpa using hsz) (by have:=adP hlt h1;omega) (by rw[qAq,qCK (by omega),←qAq];exact hpf) ?_ hs2;intro j o' hj hlj p hp;rw[hDi]at hlj⊢;by_cases hji:j=i
   ·subst hji;rw[hlo]at hj;cases hj;simp only[qG,qAJ,qBa]at hp;obtain⟨ed,⟨he1,he2⟩,rfl⟩:=hp;have:=h3 ed (by simpa using he1) he2;simp only[D,this,qCj]
   ·have hlj':listed.getD j false=true:=by simpa[hji,D]using hlj
    have:=hdown j o' hj hlj' p hp;simp only[D,this,qCj]
  unfold wpOp;rw[h2];dsimp only;rcases hstep with⟨hwd,ht⟩|⟨hwd,he⟩
  ·rw[nG hsim hwd];simp only[if_true];exact .inl (ht C κ a w hsim _ _ hnext)
  ·rw[nG hsim hwd];simp only[qBR,if_false];refine hnext κ _ w ?_;rw[he];exact hsim.aA _ lK
end
section
open Go
section
variable {P:Program}{γ:Type}{b:γ}{θ:Nat→Option ET}{E:List Ent}
theorem aGi{te:Nat}{H:List TObj}{vs:List TV}{e:Ent}{A B:Option γ}(he:ah P te e)(h:gdE H vs e A B=some b):A=some b∨B=some b:=by
 unfold gdE at h;split at h
 ·grind
 ·rename_i g _;obtain⟨_,hwf,_⟩:=he;unfold JC at hwf;rw[qAa,qAa]at hwf;obtain⟨⟨_,hwf⟩,_⟩:=hwf;simp at hwf;obtain⟨us,hus,_⟩:=KG e.ps 0 _ [] [] hwf.1 (qAd _) h;obtain⟨x,_,hx⟩:=Q8 hus
  grind
theorem aq6{te:Nat}{H:List TObj}{k fid:Nat}{vs:List TV}{K:Nat→List Nat→List TWr→TV→Option γ}{X:Nat→List Nat→List TWr→Int→Option γ}:∀{E:List Ent},(∀e∈E,ah P te e)→awW H k fid vs E K X=some b→∃e∈E,e.f=fid∧apZ H k vs e K X=some b
 |[],_,h=>by cases h
 |e::E,hE,h=>by
  have tl:awW H k fid vs E K X=some b→∃e'∈e::E,e'.f=fid∧apZ H k vs e' K X=some b:=fun g=>by
   obtain⟨e',h1,h2,h3⟩:=aq6 (fun e he=>hE e (qAk _ he)) g
   grind
  rcases bD h with⟨hc,g⟩|⟨_,g⟩
  ·simp at hc;rcases aGi (hE e (by simp)) g with g|g
   ·simp_all
   ·exact tl g
  ·exact tl g
theorem azR{H:List TObj}{t:List TV}{up:List Nat}{k:Nat}{o:Oper}{K:List Nat→List TWr→Option γ}(hk:Kup t up)(h:dS (TI.of P) θ up k o.dst t H o.op K=some b):
  ∃rd ws ws',aP P k o (bL (aU H t)) (obj? (aB H))=some (rd,ws')∧((∀x∈o.op.operands,VF (bL (aU H t) x))→ws'=Cj H ws)∧aqo t o ws∧(∀x d,o.op=.move x→o.dst=some d→ws=[.sl d (gq t x)])∧K rd ws=some b:=by
 by_cases hm:∃x,o.op=.move x
 ·obtain⟨x,hx⟩:=hm;obtain⟨d,op,ty,ps,aft,gd⟩:=o;subst hx;refine⟨[],fP d (gq t x),aA d (av H (gq t x)),by simp only[aP,aC,bZ],fun _=>(jW H d _).symm,amr rfl _,fun y d' e1 e2=>?_,h⟩;cases e1;subst e2;rfl
 ·obtain⟨rd,ws,ws',h1,h2,h3,h4⟩:=aCf (P:=P) hk h
  grind
theorem auA{s s1:DS}{d:Option Tmp}{v:TV}(h:Ws s (fP d v) s1):iX s1=(iX s).wr (aA d (av s.h v)):=by
 rw[aDY h,jW]
def aHZ(P:Program)(te:Nat)(b:γ)(px:List Eff→Nat→Eff→DS→Int→DS→Option γ)(ops:List Oper)(l:List Oper)(es:List Eff)(s:DS)(K:List Eff→DS→Option γ):Prop:=
 (∃es' res s',ATr P ops.toArray l es' (iX s) (iX s')∧K (es.reverse++res) s'=some b∧Sms res es'∧Fr s s'∧Inv s'∧s'.h.length=s.h.length)∨
 ∃l1 op l2 es1 res1 ep ep' k' s1 s' c,l=l1++op::l2∧ATr P ops.toArray l1 es1 (iX s) (iX s1)∧Sms res1 es1∧aik P ops.toArray op (Cz te c) (iX s1) ep∧Sm ep' ep∧iX s'=(iX s1).wr ep.ws∧px (res1.reverse++es) k' ep' s1 c s'=some b∧Fr s s'∧Inv s1∧Inv s'∧s'.h.length=s.h.length∧s1.h.length=s.h.length
theorem ale{te:Nat}(hE:∀e∈E,ah P te e){px:List Eff→Nat→Eff→DS→Int→DS→Option γ}{ops:List Oper}:∀(l:List Oper) (k:Nat) (es:List Eff) (s:DS) (K:List Eff→DS→Option γ),Inv s→XQ (TI.of P) θ E px ops l k es s K=some b→aHZ P te b px ops l es s K
 |[],k,es,s,K,hi,h=>.inl ⟨[],[],s,.nil _,by rw[qAt];exact h,.nil,Fr.refl s,hi,rfl⟩
 |o::l,k,es,s,K,hi,h=>by
  have h:(gdK ops o s (opK (TI.of P) θ E px ops o (fun k es s=>XQ (TI.of P) θ E px ops l k es s K) k es) fun s=>F4 (fP o.dst (.tup [])) s fun s=>XQ (TI.of P) θ E px ops l k (⟨bE ops.toArray o,[],erase (fP o.dst (.tup []))⟩::es) s K)=some b:=h;have fin:∀(e f:Eff) (k':Nat) (s1:DS),Jq P ops.toArray o (iX s) f→iX s1=(iX s).wr f.ws→Sm e f→Fr s s1→Inv s1→s1.h.length=s.h.length→XQ (TI.of P) θ E px ops l k' (e::es) s1 K=some b→aHZ P te b px ops (o::l) es s K:=fun e f k' s1 h1 h2 h3 h4 h5 h6 h7=>by
   rcases ale hE l k' (e::es) s1 K h5 h7 with⟨es',res,s',g1,g2,g3,g4,g5,g6⟩|⟨l1,op,l2,es1,res1,ep,ep',kx,sx,s',c,g0,g1,g2,g3,ga,gb,g4,g5,gc,g6,g7,gd⟩
   ·rw[h2]at g1;exact .inl ⟨f::es',e::res,s',.cons h1 g1,by simpa using g2,.cons h3 g3,h4.trans g4,g5,g6.trans h6⟩
   ·rw[h2]at g1;exact .inr ⟨o::l1,op,l2,f::es1,e::res1,ep,ep',kx,sx,s',c,by rw[g0];rfl,.cons h1 g1,.cons h3 g2,g3,ga,gb,by simpa using g4,h4.trans g5,gc,g6,g7.trans h6,gd.trans h6⟩
  rcases aH7 h with⟨hw,h⟩|⟨hw,h⟩
  ·unfold opK at h;split at h
   ·rename_i f args hcall;split at h
    ·rename_i fid caps hf;obtain⟨e,he1,he2,h3⟩:=aq6 hE h;clear h;have argsE:args.toList.map (bL (iX s).tmps)++aU s.h caps=aU s.h (args.toList.map (gq s.t)++caps):=by
      rw[uM,uM,qBj,qBh];congr 1;exact qBu fun x _=>bZ _ _ _
     have hlH:(iX s).heap.length=(aB s.h).length:=rfl;have hfa:bL (iX s).tmps f=.func fid (aU s.h caps):=by rw[show bL (iX s).tmps f=av s.h (gq s.t f)from bZ _ _ _,hf];rfl
     obtain⟨t,ho⟩:=xG hcall;subst he2;rcases aFK (hE e he1) h3 with⟨ρ,aargs,Hi,res,Ho,ws,v,c1,c2,c3,c4,c5,c6,c7⟩|⟨nn,ρ,aargs,Hi,Ho,ws,c,c1,c2,c3,c4,c5,c6,c7⟩
     ·obtain⟨s1,w1,h4⟩:=yT _ _ _ c5;obtain⟨sm,wa,wb⟩:=ayF w1;obtain⟨a1,a2⟩:=c7 s sm rfl wa;have heff:=GQ (P:=P) (ops:=ops.toArray) (o:=o) (s:=iX s) hw ho hfa (hE e he1).1 (c2 _) c3 (by
       rw[hlH,argsE];exact c4) c1
      refine fin ⟨bE ops.toArray o,ρ++rng k (aD e.rs),(ρ++rng k (aD e.rs)).map (fun l=>.obj l .dead)++erase (fP o.dst v)⟩ _ _ s1 heff ?_ ⟨rfl,rfl,?_,?_⟩ (apG w1) (akc w1 hi) (XI w1).2 h4
      ·rw[auA wb,a2];have e2:iX sm=(iX s).wr (mD (ρ++rng k (aD e.rs)) (Ho.map (eU (nm (ρ++rng k (aD e.rs)) (iX s).heap.length)))):=by
        rw[M7];unfold iX;rw[a1,(atl wa fun w hw=>by obtain⟨p,e,_⟩:=c6 w hw;rw[e];simp).2]
       rw[e2,←IZ];rfl
      ·rw[akM,akM,afQ,afA,qAo,qAo,(GR (fP o.dst v) sm.h).1,jW,a2];rfl
      ·rw[an5,an5,ah8,ajS _ _ (by rw[qAi];exact c3),(GR (fP o.dst v) sm.h).2,jW,a2];rfl
     ·obtain⟨s1,w1,h4⟩:=yT _ _ _ c5;have a1:=c7 s s1 rfl w1;have hX:=awY (P:=P) (ops:=ops.toArray) (o:=o) (s:=iX s) hw ho hfa (hE e he1).1 (c2 _) c3 (by rw[hlH,argsE];exact c4) c1;have e2:iX s1=(iX s).wr (mD (ρ++rng k nn) (Ho.map (eU (nm (ρ++rng k nn) (iX s).heap.length)))):=by
       rw[M7];unfold iX;rw[a1,(atl w1 fun w hw=>by obtain⟨p,e,_⟩:=c6 w hw;rw[e];simp).2]
      exact .inr ⟨[],o,l,[],[],_,⟨bE ops.toArray o,ρ++rng k nn,(ρ++rng k nn).map fun l=>.obj l .dead⟩,_,s,s1,c,rfl,.nil _,.nil,hX,⟨rfl,rfl,by show jA _=jA (mD _ _);rw[afQ,afA],by show jS _=jS (mD _ _);rw[ah8,ajS _ _ (by rw[qAi];exact c3)]⟩,e2,h4,apG w1,hi,akc w1 hi,(XI w1).2,rfl⟩
    ·cases h
   ·rename_i hcall;obtain⟨rd,ws,ws',r1,r2,r3,r5,r4⟩:=azR (P:=P) hi.up h;obtain⟨s1,w1,h⟩:=yT _ _ _ r4;have hav:=aBu o s1;have es1:iX (J9 o s1)=iX s1:=by unfold iX;rw[hav.1,hav.2.1]
    have hfr:=apG w1;refine fin ⟨bE ops.toArray o,rd,erase ws⟩ ⟨bE ops.toArray o,rd,Cj s.h ws⟩ _ (J9 o s1) (aE8 hw r1 r2) ?_ ⟨rfl,rfl,(GR ws s.h).1,(GR ws s.h).2⟩ ⟨?_,?_,?_,?_,?_,?_⟩ (ayH (akc w1 hi) w1 hi r3 r5) (by rw[hav.2.1];exact(XI w1).2) h
    ·rw[es1];exact aDY w1
    ·rw[hav.1];exact hfr.tl
    ·rw[hav.2.1];exact hfr.hl
    ·rw[hav.2.2.1,hav.1];exact hfr.d
    ·rw[hav.2.2.2.1];exact hfr.om
    ·rw[hav.2.2.2.2];exact hfr.oo
    ·rw[hav.2.2.2.1,hav.2.1];exact hfr.o
  ·obtain⟨s1,w1,h⟩:=yT _ _ _ h;have hav:iX s1=(iX s).wr (aA o.dst (.tup [])):=auA w1;exact fin ⟨bE ops.toArray o,[],erase (fP o.dst (.tup []))⟩ _ _ s1 (Hu hw) hav ⟨rfl,rfl,by rw[(GR (fP o.dst (.tup [])) s.h).1,jW];rfl,by rw[(GR (fP o.dst (.tup [])) s.h).2,jW];rfl⟩ (apG w1) (akc w1 hi) (XI w1).2 h
theorem flatD_congr{D D':Nat→Bool}:∀(es:List Eff) (k k':Nat),(∀i,i<es.length→D (k+i)=D' (k'+i))→bP D k es=bP D' k' es
 |[],_,_,_=>rfl
 |e::es,k,k',h=>by
  have h0:=h 0 (by simp);simp only[bP];rw[show D k=D' k' from h0,flatD_congr es (k+1) (k'+1) fun i hi=>by have:=h (i+1) (by simpa using hi);rwa[show k+(i+1)=k+1+i by omega,show k'+(i+1)=k'+1+i by omega]at this]
theorem flatD_app(D:Nat→Bool):∀(a b:List Eff) (k:Nat),bP D k (a++b)=bP D k a++bP D (k+a.length) b
 |[],b,k=>rfl
 |e::a,b,k=>by
  simp only[qAM,bP,flatD_app D a b (k+1),qAm,qAp];rw[show k+1+a.length=k+(a.length+1) by omega]
theorem flatD_no{D:Nat→Bool}:∀(es:List Eff) (k:Nat),(∀i,i<es.length→D (k+i)=false)→bP D k es=[]
 |[],_,_=>rfl
 |e::es,k,h=>by
  simp only[bP];rw[show D k=false from h 0 (by simp),flatD_no es (k+1) fun i hi=>by have:=h (i+1) (by simpa using hi);rwa[show k+(i+1)=k+1+i by omega]at this];rfl
theorem runT_ok{ops:List Oper}{bl:Nat→Bool}:∀(l:List Oper) (q k:Nat) (es:List Eff) (s:DS) (K:List Eff→Option γ),Inv s→runT (TI.of P) θ ops bl l q k es s K=some b→
  ∃late res,K (es.reverse++res)=some b∧Sms res late∧late.length=l.length∧∀i o e,l[i]? =some o→late[i]? =some e→bl (q+i)=false→Jq P ops.toArray o ((iX s).wr (bP (fun j=>decide (j<i)) 0 late)) e
 |[],q,k,es,s,K,_,h=>⟨[],[],by rw[qAt];exact h,.nil,rfl,fun i o e h=>by simp at h⟩
 |o::l,q,k,es,s,K,hi,h=>by
  have h:(bif bl q then runT (TI.of P) θ ops bl l (q+1) k (wT::es) s K else match o.guard,nE o.op with
   |none,none=>dS (TI.of P) θ s.up k o.dst s.t s.h o.op fun rd ws=>F4 ws s fun s1=>runT (TI.of P) θ ops bl l (q+1) (k+jX o.op) (⟨bE ops.toArray o,rd,erase ws⟩::es) (J9 o s1) K
   |_,_=>none)=some b:=h
  have shift:∀(f:Eff) (late:List Eff) (s0:ASt) (i:Nat),(s0.wr f.ws).wr (bP (fun j=>decide (j<i)) 0 late)=s0.wr (bP (fun j=>decide (j<i+1)) 0 (f::late)):=fun f late s0 i=>by
   rw[←IZ];congr 1;simp only[bP,Nat.zero_lt_succ,decide_true,if_true];congr 1;exact flatD_congr late 0 1 fun j _=>by simp;omega
  rcases bD h with⟨hb,h⟩|⟨hb,h⟩
  ·obtain⟨late,res,h1,h2,h3,h4⟩:=runT_ok l (q+1) k (wT::es) s K hi h;refine⟨wT::late,wT::res,by simpa using h1,.cons ⟨rfl,rfl,rfl,rfl⟩ h2,by simp[h3],fun i o' e g1 g2 g3=>?_⟩;cases i with
   |zero=>rw[qAS,hb]at g3;cases g3
   |succ i=>
    have:=h4 i o' e (by simpa using g1) (by simpa using g2) (by rw[←g3];congr 1;omega);rw[←shift];exact this
  ·split at h
   ·rename_i hg hcall;obtain⟨rd,ws,ws',r1,r2,r3,r5,r4⟩:=azR (P:=P) hi.up h;obtain⟨s1,w1,h⟩:=yT _ _ _ r4;have hav:=aBu o s1;have es1:iX (J9 o s1)=iX s1:=by unfold iX;rw[hav.1,hav.2.1]
    have hw:eG ops.toArray (iX s).tmps o=some true:=by unfold eG;rw[hg]
    obtain⟨late,res,h1,h2,h3,h4⟩:=runT_ok l (q+1) _ _ (J9 o s1) K (ayH (akc w1 hi) w1 hi r3 r5) h;refine⟨⟨bE ops.toArray o,rd,Cj s.h ws⟩::late,⟨bE ops.toArray o,rd,erase ws⟩::res,by simpa using h1,.cons ⟨rfl,rfl,(GR ws s.h).1,(GR ws s.h).2⟩ h2,by simp[h3],fun i o' e g1 g2 g3=>?_⟩;cases i with
    |zero=>
     simp only[qAG,Option.some.injEq]at g1 g2;subst g1 g2;rw[flatD_no _ _ (by simp)];exact aE8 hw r1 r2
    |succ i=>
     have:=h4 i o' e (by simpa using g1) (by simpa using g2) (by rw[←g3];congr 1;omega);rw[es1,aDY w1]at this;rw[←shift];exact this
   ·cases h
end
end
section
open Go
theorem akt{n:Nat}{l q:Nat}:∀{es:List Ed} {ss os:List Nat},fO n ss os es=true→cov es l q=true→∃hd,Ed.o l hd∈es∧∀is,hd=.bx is→q∈is.flatMap fun p=>rng (p.1+1) (yg p.2)
 |[],_,_,_,h=>by cases h
 | .r _ _::es,ss,os,hw,h=>by
  simp only[fO,qAa]at hw;obtain⟨hd,h1,h2⟩:=akt (es:=es) hw.2 h
  grind
 | .w _::es,ss,os,hw,h=>by
  obtain⟨hd,h1,h2⟩:=akt (es:=es) (by simpa only[fO]using hw) h
  grind
 | .o l' hd::es,ss,os,hw,h=>by
  simp only[fO,qAa]at hw;simp only[cov,qBe,qAa]at h;rcases h with⟨h1,h2⟩|h
  ·have e:=qAj h1;subst e;refine⟨hd,by simp,fun is e=>?_⟩;subst e;exact mem_iff.1 h2
  ·obtain⟨hd',h1,h2⟩:=akt hw.2.2 h
   grind
theorem TK{n l:Nat}{hd hd':HO}:∀{es:List Ed} {ss os:List Nat},fO n ss os es=true→Ed.o l hd∈es→Ed.o l hd'∈es→hd=hd'
 |[],_,_,_,h,_=>by cases h
 | .r _ _::es,ss,os,hw,h,h'=>by
  simp only[fO,qAa]at hw;exact TK hw.2 (by simpa using h) (by simpa using h')
 | .w _::es,ss,os,hw,h,h'=>TK (es:=es) (by simpa only[fO]using hw) (by simpa using h) (by simpa using h')
 | .o l0 h0::es,ss,os,hw,h,h'=>by
  simp only[fO,qAa]at hw;rcases qAh.1 h with e|g
  ·injection e with e1 e2;subst e1;subst e2;rcases qAh.1 h' with e|g'
   ·grind
   ·exact(JL hw.2.2 (qBB ..) g').elim
  ·rcases qAh.1 h' with e|g'
   ·injection e with e1 e2;subst e1;exact(JL hw.2.2 (qBB ..) g).elim
   ·exact TK hw.2.2 g g'
theorem auC:∀{a l:List Nat},awX a l=true→∀x∈a,x∈l
 |[],_,_,x,h=>by cases h
 |y::a,l,h,x,hx=>by
  simp only[awX,qAa]at h;rcases qAh.1 hx with rfl|hx
  ·exact mem_iff.1 h.1
  ·exact auC h.2 x hx
theorem avo{n:Nat}{o:List (Nat×Nat)}{es:List Ed}(h:asi n o es=true){l q:Nat}(hl:l<n)(hm:(l,q)∈o):cov es l q=true:=by
 have:=qAP.1 h _ hm;simp only[qBe]at this;rcases this with h|h
 ·have:n≤l:=qAf h;omega
 ·exact h
theorem Kw.mono{a c:TObj}{f g:Nat→Bool}(h:Kw a c f)(hf:∀q,g q=false→f q=false):Kw a c g:=by
 rcases h with e|⟨x,y,e1,e2,h1,h2⟩
 ·exact .inl e
 ·exact .inr ⟨x,y,e1,e2,h1,fun q hq=>h2 q (hf q hq)⟩
theorem alS{n:Nat}{h0 h':List TObj}{o:List (Nat×Nat)}{eds:List Ed}(hw:fO n [] [] eds=true)(hs:asi n o eds=true)
  (hfr:∀l,l<n→(l,0)∉o→Kw (nth .dead h0 l) (nth .dead h' l) fun q=>decide ((l,q+1)∈o)):
  ∀l,l<n→((∀hd,Ed.o l hd∉eds)→Kw (nth .dead h0 l) (nth .dead h' l) fun _=>false)∧∀is,Ed.o l (.bx is)∈eds→Kw (nth .dead h0 l) (nth .dead h' l) (rU is):=by
 intro l hl;refine⟨fun hno=>?_,fun is hm=>?_⟩
 ·have no:∀q,(l,q)∉o:=fun q hq=>by
   obtain⟨hd,h1,_⟩:=akt hw (avo hs hl hq)
   grind
  grind
 ·have cvq:∀q,(l,q)∈o→q∈is.flatMap fun p=>rng (p.1+1) (yg p.2):=fun q hq=>by
   obtain⟨hd,h1,h2⟩:=akt hw (avo hs hl hq);exact h2 is (TK hw h1 hm)
  have no0:(l,0)∉o:=fun h=>by
   have:=cvq 0 h;rw[qBx]at this;obtain⟨p,_,hp⟩:=this;rw[Io]at hp;omega
  refine(hfr l hl no0).mono fun q hq=>decide_eq_false fun h=>?_;unfold rU at hq;rw[AU]at hq
  grind
noncomputable def JV:List Nat→List TV→List TV
 |[],t=>t
 |n::l,t=>JV l (t.set n .unk)
theorem avh{γ:Type}:∀(l:List Nat) (t:List TV) (K:List TV→Option γ),awV l t K=K (JV l t)
 |[],_,_=>rfl
 |n::l,t,K=>by
  have h:awV (n::l) t K=Ar t n .unk fun t=>awV l t K:=rfl;rw[h,ni];exact avh l _ K
theorem ahq:∀(l:List Nat) (t:List TV),(JV l t).length=t.length
 |[],_=>rfl
 |n::l,t=>by rw[JV,ahq l,qAT]
theorem agd:∀(l:List Nat) (t:List TV) (k:Nat),nth .unk (JV l t) k=if k∈l then .unk else nth .unk t k
 |[],_,_=>by simp[JV]
 |n::l,t,k=>by
  rw[JV,agd l];by_cases h1:k∈l
  ·grind
  ·rw[if_neg h1];by_cases h2:n=k
   ·subst h2;rw[if_pos (qBB ..)];by_cases hl:n<t.length
    ·exact cK hl
    ·exact mq (by rw[qAT];omega)
   ·rw[aX h2,if_neg (by simp;exact⟨fun e=>h2 e.symm,h1⟩)]
theorem avA{n:Nat}:∀(l:List Nat) (t:List TV),jw n t=true→jw n (JV l t)=true
 |[],_,h=>h
 |k::l,t,h=>by
  refine avA l _ ?_
  induction t generalizing k with
  |nil=>exact h
  |cons v t ih=>
   simp only[jw,qAa]at h;cases k with
   |zero=>simp;exact h.2
   |succ k=>simp only[List.set_cons_succ,jw,qAa];exact⟨h.1,ih k h.2⟩
noncomputable def qO(a:List Nat)(eds:List Ed)(s:DS)(us:List U):DS:=
 ⟨(dW bS eds us (JV (a++j3 eds) s.t) s.h).1,(dW bS eds us (JV (a++j3 eds) s.t) s.h).2,(a++j3 eds)++s.d,aci (dW bS eds us (JV (a++j3 eds) s.t) s.h).2 eds++s.o,s.up.filter fun i=>!(mem (a++j3 eds) i),[],[],s.oo⟩
theorem adJ{γ:Type}(a:List Nat)(eds:List Ed)(s:DS)(us:List U)(K:DS→Option γ):Li a eds s us K=K (qO a eds s us):=by
 unfold Li qO;simp only[avh,Ry]
structure St(m:Nat)(h0:List TObj)(s:DS):Prop where
 inv:Inv s
 len:m≤s.h.length
 ent:∀l,l<m→(l,0)∉s.o++s.oo→Kw (nth .dead h0 l) (nth .dead s.h l) fun q=>decide ((l,q+1)∈s.o++s.oo)
theorem St.step{m:Nat}{h0:List TObj}{s s':DS}(h:St m h0 s)(hf:Fr s s')(hi:Inv s'):St m h0 s':=by
 refine⟨hi,qAs h.len hf.hl,fun l hl hno=>?_⟩;rw[hf.oo]at hno⊢;simp at hno;refine Kw.trans (h.ent l hl ?_) ((hf.o l (qAB hl h.len) hno.1).mono (g:=fun q=>decide ((l,q+1)∈s'.o++s.oo)) fun q hq=>?_) fun q hq=>?_
 ·simp;exact⟨fun hm=>hno.1 (hf.om _ hm),hno.2⟩
 ·grind
 ·simp at hq⊢;exact⟨fun hm=>hq.1 (hf.om _ hm),hq.2⟩
end
section
open Go
theorem avr(es:List Ed)(x:jI (bM es)):(fF (bM es) x).map U.t=bM es++[]:=by rw[KV,qAt]
theorem xO{H:List TObj}{l q:Nat}:∀{es:List Ed} {hd:HO},Ed.o l hd∈es→(match hd with
  | .bx is=>match nth .dead H l with
   | .box _=>q∈is.flatMap fun p=>rng (p.1+1) (yg p.2)
   |_=>q=0
  |_=>q=0)→(l,q)∈aci H es
 |[],_,h,_=>by cases h
 | .r _ _::es,hd,h,k=>xO (es:=es) (by simpa using h) k
 | .w _::es,hd,h,k=>xO (es:=es) (by simpa using h) k
 | .o l' h'::es,hd,h,k=>by
  simp only[aci,qAr];rcases qAh.1 h with e|h
  ·grind
  ·exact .inr (xO h k)
theorem ad3{k:Nat}{sk:Sk}:∀{es:List Ed},Ed.r k sk∈es→k∈j3 es
 |[],h=>by cases h
 | .r k' s'::es,h=>by
  simp only[j3,qAh];rcases qAh.1 h with e|h
  ·grind
  ·exact .inr (ad3 h)
 | .w _::es,h=>ad3 (es:=es) (by simpa using h)
 | .o _ _::es,h=>ad3 (es:=es) (by simpa using h)
section
variable {s:DS}{a:List Nat}{eds:List Ed}{m:Nat}{h0:List TObj}
theorem ana(hw:fO s.h.length [] [] eds=true)(x:jI (bM eds)){k:Nat}(hk:k∉a++j3 eds):nth .unk (qO a eds s (fF _ x)).t k=nth .unk s.t k:=by
 have B:=uz eds (fF _ x) s.h.length [] [] (JV (a++j3 eds) s.t) s.h [] (avr eds x) hw (qAd _) rfl;rcases B.slot k with e|⟨sk,us',e1,_⟩
 ·rw[qO,e,agd,if_neg hk]
 ·exact(hk (qBz _ (ad3 e1))).elim
theorem Qn(hw:fO s.h.length [] [] eds=true)(x:jI (bM eds)):Fr s (qO a eds s (fF _ x)):=by
 have B:=uz eds (fF _ x) s.h.length [] [] (JV (a++j3 eds) s.t) s.h [] (avr eds x) hw (qAd _) rfl;refine⟨by rw[qO,B.tl,ahq],by rw[qO,B.hl];omega,fun k hk=>?_,fun p hp=>qBz _ hp,rfl,fun l hl hno=>?_⟩
 ·have hk':k∉(a++j3 eds)++s.d:=hk;rw[qAr,not_or]at hk';exact⟨hk'.2,ana hw x hk'.1⟩
 ·let J:=qO a eds s (fF _ x)
  have hno':(l,0)∉aci J.h eds++s.o:=hno;rw[qAr,not_or]at hno';by_cases hed:∃hd,Ed.o l hd∈eds
  ·obtain⟨hd,hed⟩:=hed;obtain⟨us',rest,ht,he⟩:=B.obj l hd hed;have he:nth .dead J.h l=(bR bS (nth .dead s.h l) hd us').1:=he;cases hd with
   |bx is=>
    cases hJ:nth .dead J.h l with
    |box cf=>
     rw[hJ]at he;cases hs:nth .dead s.h l with
     |box cs0=>
      rw[hs]at he;simp only[bR]at he;cases hq:(kD bS is (some cs0) us').1 with
      |none=>rw[hq]at he;cases he
      |some cf'=>
       rw[hq]at he;cases he;obtain⟨g1,g2⟩:=(P5 is (some cs0) us' rest ht).2 cs0 cf rfl hq;refine .inr ⟨cs0,cf,rfl,rfl,g1,fun q hq=>g2 q ?_⟩;rw[decide_eq_false_iff_not]at hq;have hq:(l,q+1)∉aci J.h eds++s.o:=hq;rw[qAr,not_or]at hq;unfold rU;rw[AU];exact fun hin=>hq.1 (xO hed (by simp only[hJ];exact hin))
     |_=>rw[hs]at he;simp only[bR]at he;cases he
    |_=>exact(hno'.1 (xO hed (by simp only[hJ]))).elim
   |dead=>exact(hno'.1 (xO hed rfl)).elim
   |box cs=>exact(hno'.1 (xO hed rfl)).elim
   |own e=>exact(hno'.1 (xO hed rfl)).elim
   |mp e=>exact(hno'.1 (xO hed rfl)).elim
   |arr e=>exact(hno'.1 (xO hed rfl)).elim
  ·exact .inl (B.keepO l hl fun hd h=>hed ⟨hd,h⟩)
theorem af8(hw:fO s.h.length [] [] eds=true)(x:jI (bM eds))(hi:Inv s):Inv (qO a eds s (fF _ x)):=by
 refine⟨fun i k c h1 h2=>?_,fun d i j h1=>(by cases h1),fun d x h1=>(by cases h1)⟩;obtain⟨g1,g2⟩:=mem_filter h1;have hn:i∉a++j3 eds:=AU.1 (by simpa using g2);rw[ana hw x hn]at h2;exact hi.up i k c g1 h2
theorem VX{γ:Type}{b:γ}{s':DS}{K:jI (bM eds)→Option γ}(hm:m≤s.h.length)(hT:jw s.h.length s.t=true)(hH:Ji s.h.length s.h=true)(hw:fO s.h.length [] [] eds=true)(hfr:Fr (fresh s) s')
  (h:Jv a eds s s' (fun us=>AJ (bM eds) us K)=some b):∃x,K x=some b∧Le m (aU s'.h s'.t) (aB s'.h) (aU (qO a eds s (fF _ x)).h (qO a eds s (fF _ x)).t) (aB (qO a eds s (fF _ x)).h):=by
 unfold Jv at h;rw[Yj]at h;obtain⟨hc,h⟩:=(bD h).resolve_right fun h=>by cases h.2
 simp at hc;obtain⟨us,h1,h2⟩:=ab8 (m:=m) (T0:=JV (a++j3 eds) s.t) rfl hm (avA _ _ hT) hH hw (by rw[ahq];exact hfr.tl.symm) hfr.hl (fun k hk=>by
  rw[agd];by_cases hk2:k∈a++j3 eds
  ·grind
  ·rw[if_neg hk2];exact .inr (hfr.d k fun hd=>hk2 (auC hc.1 k hd)).2.symm) (alS hw hc.2 hfr.o) h
 obtain⟨x,rfl,h3⟩:=Q8 h1;exact⟨x,h3,(h2 _ _ rfl).2.2⟩
theorem Tz{γ:Type}{b:γ}{K:Option γ}(h:F6 eds s K=some b):(jw s.h.length s.t=true∧Ji s.h.length s.h=true∧fO s.h.length [] [] eds=true)∧K=some b:=by
 unfold F6 at h;rw[Yj]at h
 grind
end
theorem AW.vf{P:Program}{m:Nat}{c:Code}{Q:QT}{s:DS}(h:(∀n,VF (av s.h (nth .unk s.t n)))→AW P m c Q (aU s.h s.t) (aB s.h)):AW P m c Q (aU s.h s.t) (aB s.h):=fun C κ a w hk hs=>
 h (fun n=>by
  have:=(hs.ev (.tmp n)).vf;rw[show bL (ASt.mk (aU s.h s.t) (aB s.h)).tmps (.tmp n)=av s.h (nth .unk s.t n)from bZ _ _ _]at this;exact this) C κ a w hk hs
theorem aEd{k:IntKind}{n:Int}(h1:k.min≤n)(h2:n≤k.max):k.wrap n=n:=by
 cases k
 ·exact IntWalk.i8_in n ⟨h1,h2⟩
 ·exact IntWalk.i16_in n ⟨h1,h2⟩
 ·exact IntWalk.i32_in n ⟨h1,h2⟩
 ·exact IntWalk.i64_in n ⟨h1,h2⟩
 ·exact IntWalk.u8_in n ⟨h1,h2⟩
 ·exact IntWalk.u16_in n ⟨h1,h2⟩
 ·exact IntWalk.u32_in n ⟨h1,h2⟩
 ·exact IntWalk.u64_in n ⟨h1,h2⟩
theorem XD{α:Type}{f:α→Bool}{g:α→Nat}{n:Nat}:∀{l:List α},n∈sel f g l→∃x∈l,f x=true∧g x=n
 |[],h=>by cases h
 |x::l,h=>by
  simp only[sel]at h;cases hf:f x with
  |true=>
   rw[hf,cond_true]at h;rcases qAh.1 h with e|h
   ·grind
   ·obtain⟨y,h1,h2⟩:=XD h;exact⟨y,qAk _ h1,h2⟩
  |false=>
   rw[hf,cond_false]at h;obtain⟨y,h1,h2⟩:=XD h;exact⟨y,qAk _ h1,h2⟩
theorem amP(x:Operand)(s:DS):(OC x s).t=s.t∧(OC x s).h=s.h∧(OC x s).d=s.d∧(OC x s).o=s.o∧(OC x s).oo=s.oo∧(OC x s).rl=s.rl∧(OC x s).cp=s.cp:=by cases x<;>exact⟨rfl,rfl,rfl,rfl,rfl,rfl,rfl⟩
theorem aA0{x:Operand}{s:DS}(hi:Inv s)(hx:gq s.t x=.lf .b true)(hv:∀n,VF (av s.h (nth .unk s.t n))):Inv (OC x s):=by
 obtain⟨e1,_,_,_,_,e2,e3⟩:=amP x s;refine⟨?_,by rw[e1,e2];exact hi.rl,by rw[e1,e3];exact hi.cp⟩;cases x with
 |tmp d=>
  have hd:nth .unk s.t d=.lf .b true:=hx
  let Ok:Nat→Prop:=fun i=>∀k a,oQ (nth .unk s.t i)=some (k,a)→k.wrap (a+1)=a+1
  have g1:∀i∈sel (fun p:Nat×Nat×Nat=>Nat.beq p.1 d) (fun p=>p.2.1) s.rl,Ok i:=fun i hm k a hk=>by
   obtain⟨⟨d',i',j⟩,h1,h2,h3⟩:=XD hm;have h2:d'=d:=qAj h2;subst h2;subst h3;obtain⟨c,h4,h5⟩:=hi.rl d' i' j h1 k a hk;have h6:=h5 true hd;have hlt:a<c:=of_decide_eq_true h6.symm;have v1:sj k a:=by have:=hv i';rw[aAA hk]at this;exact this
   have v2:sj k c:=by have:=hv j;rw[aAA h4]at this;exact this
   exact aEd (by have:=v1.1;omega) (by have:=v2.2;omega)
  have step:∀u:List Nat,(∀i∈u,Ok i)→(∀i∈sel (fun p:Nat×Nat=>mem u p.1) (fun p=>p.2) s.cp++u,Ok i)∧∀i∈sel (fun p:Nat×Nat=>mem u p.2) (fun p=>p.1) s.cp++u,Ok i:=fun u hu=>by
   refine⟨fun i hm=>?_,fun i hm=>?_⟩
   ·rcases qAr.1 hm with hm|hm
    ·obtain⟨⟨d',x'⟩,h1,h2,h3⟩:=XD hm;subst h3;intro k a hk;rw[←hi.cp d' x' h1]at hk;exact hu d' (mem_iff.1 h2) k a hk
    grind
   ·rcases qAr.1 hm with hm|hm
    ·obtain⟨⟨d',x'⟩,h1,h2,h3⟩:=XD hm;subst h3;intro k a hk;rw[hi.cp d' x' h1]at hk;exact hu x' (mem_iff.1 h2) k a hk
    grind
  intro i k a h1 h2;simp only[OC]at h1;rw[mem_iff,qAr]at h1;rcases h1 with h1|h1
  ·exact(step _ (step _ g1).1).2 i h1 k a h2
  ·exact hi.up i k a (mem_iff.2 h1) h2
 |_=>exact hi.up
theorem aD9{s s1 s':DS}(h:Fr s1 s')(e1:s1.t=s.t)(e2:s1.h=s.h)(e3:s1.d=s.d)(e4:s1.o=s.o)(e5:s1.oo=s.oo):Fr s s':=
 ⟨by rw[←e1];exact h.tl,by rw[←e2];exact h.hl,by rw[←e3,←e1];exact h.d,by rw[←e4];exact h.om,by rw[←e5];exact h.oo,by rw[←e2];exact h.o⟩
theorem ag0{γ:Type}{b:γ}:∀(l:List TObj) (n:Nat) (K:List TObj→Option γ),ai7 l n K=some b→∃h c,l=h++y8 c∧(n≤l.length→n≤h.length)∧K h=some b
 |[],n,K,h=>⟨[],0,rfl,id,h⟩
 |o::l,0,K,h=>by
  have h:(ai7 l 0 fun r=>match r with
   |[]=>bif mh o then K []else K [o]
   |x::xs=>K (o::x::xs))=some b:=h
  obtain⟨h1,c,g1,_,g3⟩:=ag0 l 0 _ h;cases h1 with
  |nil=>
   rcases bD g3 with⟨e,g3⟩|⟨_,g3⟩
   ·have e:o=.res:=by unfold mh at e;split at e;rfl;cases e
    exact⟨[],c+1,by rw[e,g1];rfl,fun _=>qAZ _,g3⟩
   grind
  |cons x xs=>exact⟨o::x::xs,c,by rw[g1];rfl,fun _=>qAZ _,g3⟩
 |o::l,n+1,K,h=>by
  obtain⟨h1,c,g1,g2,g3⟩:=ag0 l n _ h
  grind
theorem Yo:∀c,y8 c=List.replicate c .res
 |0=>rfl
 |c+1=>by simp only[y8,Yo c,qCo]
theorem azF(H:List TObj)(c l:Nat):Lk H (H++y8 c) l:=by
 unfold Lk;by_cases hl:l<H.length
 ·rw[rA hl];exact⟨rfl,fun _=>rfl⟩
 ·rw[mq (by omega:H.length≤l)];have:nth .dead (H++y8 c) l=.dead∨nth .dead (H++y8 c) l=.res:=by
   rw[jF,List.getD,qAl (by omega),Yo,qCa]
   grind
  rcases this with e|e<;>rw[e]<;>exact⟨rfl,fun _=>rfl⟩
theorem ali(H:List TObj)(c:Nat)(t:List TV):aU (H++y8 c) t=aU H t:=(YP t fun l _=>azF H c l).symm
theorem agL(H:List TObj)(c:Nat):aB (H++y8 c)=aB H++List.replicate c .res:=by
 unfold aB;rw[qBj,Yo,qCs];congr 1;refine qBu fun o _=>?_;rw[←Yo];exact(aBy o fun cs _ l _=>azF H c l).symm
theorem auK{m:Nat}(t:List AV)(H:List AObj)(c:Nat):Le m t (H++List.replicate c .res) t H:=by
 intro C κ a w _ hs;have hkl:κ.length=(H++List.replicate c AObj.res).length:=hs.klen;have hat:∀l,at? (κ.take H.length) l=at? κ l:=fun l=>by
  unfold at?;by_cases hl:l<H.length
  ·grind
  ·rw[qBq,if_neg hl];by_cases h2:l<κ.length
   ·have hr:obj? (H++List.replicate c AObj.res) l=.res:=by
     simp only[qAe,qBv]at hkl;unfold obj?
     grind
    have:=hs.resv l hr;unfold at? at this
    grind
   grind
 have hob:∀l b,at? κ l=some b→obj? H l=obj? (H++List.replicate c AObj.res) l:=fun l b hb=>by
  unfold obj?;by_cases hl:l<H.length
  ·grind
  ·exfalso;rw[←hat l]at hb;unfold at? at hb
   grind
 refine⟨κ.take H.length,hs.step (H':=H) (Evo.refl _ _) (fun l b hb=>by rw[hat];exact hb) (by rw[qAz,hkl];simp only[qAe];omega) ?_ ?_ ?_ ?_ ?_ (fun _ _=>rfl) rfl rfl rfl⟩
 ·rintro b o (hb|⟨l,h1,h2⟩) _
  ·exact .inl hb
  ·rw[hat]at h1;rw[hob l b h1]at h2;exact .inr ⟨l,h1,h2⟩
 ·grind
 ·intro l l' b h1 h2 h3 h4;rw[hat]at h1 h2;rw[hob l b h1]at h3;rw[hob l' b h2]at h4;exact hs.apart l l' b h1 h2 h3 h4
 ·intro l b h1;rw[hat]at h1;exact hs.bound l b h1
 ·intro l h1;cases hb:at? (κ.take H.length) l with
  |none=>rfl
  |some b=>
   rw[hat]at hb;rw[hob l b hb]at h1;have:=hs.resv l h1;rw[hb]at this;cases this
end
end Abs
end Go.Proofs.YthgdaonechbgmaaGreat
