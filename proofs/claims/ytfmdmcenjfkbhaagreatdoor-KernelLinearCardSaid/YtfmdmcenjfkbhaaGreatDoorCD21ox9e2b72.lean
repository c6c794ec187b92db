/-
  A call by an entry does what the entry says. Conditions: the entry's contract.
-/
import Derived.IntWalk
import Derived.Test.YtfmdmcenjfkbhaaGreatDoorCD16ox21c2f5
set_option linter.all false
namespace Go.Proofs.YtfmdmcenjfkbhaaGreatDoor
namespace Abs
section
open Go
mutual
theorem Jh{A B:Nat→Bool}(h:∀l,A l=true→B l=true):∀v,uG A v=true→uG B v=true
 | .ptr l _,k=>h l k
 | .mapr l,k=>h l k
 | .own l,k=>h l k
 | .psl l _ _,k=>h l k
 | .ap l _ _ _,k=>h l k
 | .eptr cs,k=>wT h cs k
 | .agg cs,k=>wT h cs k
 | .tup cs,k=>wT h cs k
 | .func _ cs,k=>wT h cs k
 | .unk,_=>rfl| .nilp,_=>rfl| .nilF,_=>rfl| .nils,_=>rfl| .lf _ _,_=>rfl| .nat _,_=>rfl
theorem wT{A B:Nat→Bool}(h:∀l,A l=true→B l=true):∀vs,iV A vs=true→iV B vs=true
 |[],_=>rfl
 |v::vs,k=>by
  simp only[iV,qAa]at k⊢;exact⟨Jh h v k.1,wT h vs k.2⟩
end
theorem Vd(g:Nat→Nat)(n:Nat):(bA n).map (bU g)=bA n:=by unfold bA;rw[qCa];rfl
theorem Gz(n k:Nat):nth .unk (bA n) k=.unk:=by
 unfold bA;rw[dF,List.getD,qBi];split<;>rfl
theorem ZK(g:Nat→Nat)(r:List TV):res1 (r.map (bU g))=bU g (res1 r):=by
 match r with
 |[]=>rfl
 |[v]=>rfl
 |v::w::r=>simp only[qAz,res1,bU,sF]
theorem ac2{A:Nat→Bool}{r:List TV}(h:∀v∈r,uG A v=true):uG A (res1 r)=true:=by
 match r with
 |[]=>rfl
 |[v]=>exact h v (by simp)
 |v::w::r=>exact Qe.2 h
section
variable {γ:Type}{b:γ}{P:Program}
theorem abD{H:List TObj}{k:Nat}{vs:List TV}{ps:List Ed}{na:Nat}(rs:List Ed)(nr:Nat)(z:eG (aR rs)){x:eG (aR ps)}{us:List U}{L0:Nat→Option Nat}{ρ:List Nat}{Q:List TWr→TV→Option γ}
  (edps:bQ 0 [] [] ps=true) (edrs:bQ (aA ps) [] [] rs=true) (psok:yS (aA ps) rs 0 ps=true) (rsok:oI (aA ps+aA rs) (killed rs) (kinds ps) rs=true) (hna:vs.length=na) (hρl:ρ.length=aA ps) (hnd:ρ.Nodup)
  (hres:∀l∈rng k (aA rs),fA (nth .dead H l)=true) (hsome:∀j,j<aA ps→L0 j=ρ[j]?) (L0ge:∀j,aA ps≤j→L0 j=none) (hx:bR (aR ps) x=us) {T1:List TV} {h1:List TObj} (q1:bE aT ps us (bA na) []=(T1,h1)) (la:LaidD H L0 1 0 vs 0 ps (bA na) [] T1 h1)
  (hus:(zS (gL (ρ++rng k (aA rs))) ps us (bA na) [] fun _ h=>zS (gL (ρ++rng k (aA rs))) rs (bR (aR rs) z) (bA nr) h fun r h'=>uD ρ h' k (aA ps) rs fun ws=>Q ws (res1 r))=some b):
  ∃r h2 ws v,bE aT rs (bR (aR rs) z) (bA nr) h1=(r,h2)∧(∀tm,Passes ⟨tm,au H⟩ ρ (rng k (aA rs)) (au h1))∧(au h2).length=(ρ++rng k (aA rs)).length∧
   SWs (aI H vs) ((aI h1 T1).map (ren (nm (ρ++rng k (aA rs)) (au H).length)))∧Q ws v=some b∧(∀w∈ws,∃p,tgt w=some p∧p∈ρ++rng k (aA rs))∧
   ∀s s',s.h=H→Ws s ws s'→au s'.h=jd (au H) (ρ++rng k (aA rs)) ((au h2).map (bD (nm (ρ++rng k (aA rs)) (au H).length)))∧av s'.h v=ren (nm (ρ++rng k (aA rs)) (au H).length) (av h2 (res1 r)):=by
 rw[zK]at hus;have ren1:=zI (gL (ρ++rng k (aA rs))) ps us (bA na) [];rw[Vd,qBM,q1]at ren1;rw[ren1]at hus;simp only at hus;rw[zK]at hus;generalize hq2:bE aT rs (bR (aR rs) z) (bA nr) h1=q2 at *;obtain⟨r,h2⟩:=q2;have ren2:=zI (gL (ρ++rng k (aA rs))) rs (bR (aR rs) z) (bA nr) h1;rw[Vd,hq2]at ren2;rw[ren2]at hus;simp only at hus;have h1l:h1.length=aA ps:=by rw[la.hl,qAu]
 have bs:=kE rs (bR (aR rs) z) (aA ps) [] [] (bA nr) h1 [] (by rw[vw,qAt]) edrs (qAq _) h1l;rw[hq2]at bs;simp only at bs
 let L:=ρ++rng k (aA rs)
 let g:=gL L
 let G:=nm L (au H).length
 have Lold:∀j,j<aA ps→∃l,ρ[j]? =some l∧L[j]? =some l∧L0 j=some l:=fun j hj=>by
  have hl:ρ[j]? =some (ρ[j]'(by omega)):=qAd _;exact⟨_,hl,by simp only[L];rw[qAe (by omega)];exact hl,by rw[hsome j hj];exact hl⟩
 have Lnew:∀i,i<aA rs→L[aA ps+i]? =some (k+i):=fun i hi=>by
  simp only[L];rw[qAg (by omega),hρl,Nat.add_sub_cancel_left];exact Vg _ _ _ hi
 have Llen:L.length=aA ps+aA rs:=by simp only[L,qAj,hρl,U1]
 -- what the objects that are handed in are
 have inO:∀j,j<aA ps→∃l hd,ρ[j]? =some l∧Ed.w hd∈ps∧nth .dead (kinds ps) j=hd∧FO H L0 0 hd .dead (nth .dead h1 j) (nth .dead H l):=fun j hj=>by
  rcases la.new j hj with⟨l,hd,e1,⟨e2,e2'⟩,e3⟩|⟨_,hm,_⟩
  ·rw[qAu]at e1 e3;exact⟨l,hd,by rw[←hsome j hj];exact e1,e2,e2',e3⟩
  ·omega
 have alive:∀l∈ρ,nth .dead H l≠ .dead∧nth .dead H l≠ .res:=fun l hl=>by
  obtain⟨j,hj⟩:=qAK hl;have hjl:=(qAp.1 hj).1;obtain⟨l',hd,e1,e2,_,e3⟩:=inO j (by omega);rw[hj]at e1;cases e1;obtain⟨p1,p2,_⟩:=wN psok hd e2;cases hd with
  |dead=>exact(p1 rfl).elim
  |bx is=>exact(p2 is rfl).elim
  |box cs=>obtain⟨ws,vs,_,e4,_⟩:=e3;rw[e4];exact⟨fun h=>(by cases h),fun h=>(by cases h)⟩
  |own e=>obtain⟨_,_,_,e4⟩:=e3;rw[e4];exact⟨fun h=>(by cases h),fun h=>(by cases h)⟩
  |mp e=>obtain⟨_,_,_,e4⟩:=e3;rw[e4];exact⟨fun h=>(by cases h),fun h=>(by cases h)⟩
  |arr e=>obtain⟨_,_,_,e4⟩:=e3;rw[e4];exact⟨fun h=>(by cases h),fun h=>(by cases h)⟩
 have inlt:∀l∈ρ,l<H.length:=fun l hl=>FL (alive l hl).1;have reslt:∀l∈rng k (aA rs),l<H.length:=fun l hl=>qj (hres l hl);have hG0:∀j l,L0 j=some l→G j=l:=fun j l hj=>by
  have hlt:j<aA ps:=by
   apply qAm;intro hn;rw[L0ge j (by omega)]at hj;cases hj
  obtain⟨l',e1,e2,e3⟩:=Lold j hlt;rw[hj]at e3;cases e3;exact YM e2
 have look0:∀j l,L0 j=some l→bV l (nth .dead H l)=ren G (bV j (nth .dead h1 j))∧∀z,bI l z (nth .dead H l)=ren G (bI j z (nth .dead h1 j)):=fun j l hj=>by
  have hlt:j<aA ps:=by
   apply qAm;intro hn;rw[L0ge j (by omega)]at hj;cases hj
  obtain⟨l',hd,e1,e2,_,e3⟩:=inO j hlt;rw[←hsome j hlt,hj]at e1;cases e1;have hg:=hG0 j l hj;cases hd with
  |dead=>exact((wN psok _ e2).1 rfl).elim
  |bx is=>exact((wN psok _ e2).2.1 is rfl).elim
  |box cs=>obtain⟨ws,vs,e4,e5,_⟩:=e3;rw[e4,e5];exact⟨rfl,fun _=>rfl⟩
  |own e=>obtain⟨_,_,e4,e5⟩:=e3;rw[e4,e5];exact⟨by simp only[bV,ren,mg,iq,hg],fun _=>rfl⟩
  |mp e=>obtain⟨_,_,e4,e5⟩:=e3;rw[e4,e5];exact⟨rfl,fun _=>rfl⟩
  |arr e=>obtain⟨_,_,e4,e5⟩:=e3;rw[e4,e5];exact⟨rfl,fun _=>by simp only[bI,ren,hg]⟩
 have hW:=acC (H:=H) (Hk:=h1) hG0 look0;have objEq:∀j l,ρ[j]? =some l→bY H (nth .dead H l)=bD G (bY h1 (nth .dead h1 j)):=fun j l hj=>by
  have hlt:j<aA ps:=by have:=(qAp.1 hj).1;omega
  obtain⟨l',hd,e1,e2,_,e3⟩:=inO j hlt;rw[hj]at e1;cases e1;cases hd with
  |dead=>exact((wN psok _ e2).1 rfl).elim
  |bx is=>exact((wN psok _ e2).2.1 is rfl).elim
  |box cs=>obtain⟨ws,vs,e4,e5,e6⟩:=e3;rw[e4,e5];simp only[bY,bD,U8 (e6 h1 _ hW)]
  |own e=>obtain⟨_,_,e4,e5⟩:=e3;rw[e4,e5];rfl
  |mp e=>obtain⟨_,_,e4,e5⟩:=e3;rw[e4,e5];simp only[bY,bD,yP]
  |arr e=>obtain⟨_,_,e4,e5⟩:=e3;rw[e4,e5];simp only[bY,bD,iq]
 have disj:∀l∈ρ,l∉rng k (aA rs):=fun l hl hm=>by
  have:=hres l hm;have h2:=(alive l hl).2;unfold fA at this;split at this
  ·rename_i q;exact h2 q
  ·cases this
 have Lnd:L.Nodup:=List.nodup_append.2 ⟨hnd,Nv _ _,fun a ha c hc e=>by subst e;exact disj a ha hc⟩;obtain⟨ws,hws,htg,hwro⟩:=Lh hnd hρl rs k (aA ps) [] [] _ edrs (fun p hp=>by
  have:=disj p hp;rw[rX]at this;omega) hus
 have ixL:∀l,l<aA ps→gL ρ l=g l:=fun l hl=>by
  obtain⟨p,e1,e2,_⟩:=Lold l hl;rw[mK e1];exact(mK e2).symm
 have tgL:∀w∈ws,∃p,tgt w=some p∧p∈L:=fun w hw=>by
  obtain⟨p,e1,e2⟩:=htg w hw;refine⟨p,e1,?_⟩;rcases e2 with⟨l,hd,q1,q2⟩|⟨q1,q2⟩
  ·obtain⟨p',e3,_,_⟩:=Lold l (jg edrs q1);rw[mK e3]at q2;subst q2;exact qBk _ (qAA e3)
  ·exact qBo _ (rX.2 ⟨q1,q2⟩)
 refine⟨r,h2,ws,_,rfl,fun tm=>⟨Lnd,by simp[au,h1l,hρl],fun l hl=>by simp only[au,qAi];exact inlt l hl,fun l hl=>jY (hres l hl),fun i l hi=>by rw[fC,fC];exact objEq i l hi⟩,by simp only[au,qAi,bs.hl];exact Llen.symm,?_,hws,tgL,?_⟩
 ·-- the arguments
  have hlen:vs.length=T1.length:=by rw[la.tl,hna];simp[bA]
  have key:∀n,SW (av H (nth .unk vs n)) (ren G (av h1 (nth .unk T1 n))):=fun n=>by
   by_cases hn:n∈fq ps
   ·obtain⟨s,hs⟩:=yT hn;by_cases hlt:n<(bA na).length
    ·exact la.slot n s hs hlt h1 _ hW
    ·rw[gD (show T1.length≤n by rw[la.tl];omega)];exact .unk _
   ·rw[la.keep n hn,Gz];exact .unk _
  have all:∀(a c:List TV),a.length=c.length→(∀n,SW (av H (nth .unk a n)) (ren G (av h1 (nth .unk c n))))→SWs (aI H a) ((aI h1 c).map (ren G)):=fun a=>by
   induction a with
   |nil=>intro c hl _;cases c with
    |nil=>exact .nil
    |cons _ _=>cases hl
   |cons x a ih=>intro c hl hk;cases c with
    |nil=>cases hl
    |cons y c=>exact .cons (hk 0) (ih c (by simpa using hl) fun n=>hk (n+1))
  exact all vs T1 hlen key
 ·-- the state behind the call
  intro s s' hsH hWs;subst hsH;have W:=hwro s s' inlt hWs
  let A:Nat→Bool:=fun l=>Nat.blt l (aA ps+aA rs)&&!(mem (killed rs) l)
  have hA:∀l,(Nat.blt l (aA ps+aA rs)&&!(mem (killed rs) l))=true→A l=true:=fun l h=>h;have hA1:∀l,(Nat.blt l (aA ps)&&!(mem (killed rs) l))=true→A l=true:=fun l h=>by
   simp only[qAa,A]at h⊢;refine⟨qDc ?_,h.2⟩;have:l<aA ps:=qAf h.1;omega
  have Alt:∀j,A j=true→j<aA ps+aA rs∧Ed.o j .dead∉rs:=fun j h=>by
   simp only[qAa,qBb,og,A]at h;exact⟨qAf h.1,fun hm=>h.2 (xR hm)⟩
  -- objects of the callee name only what is alive
  let A1:Nat→Bool:=fun l=>Nat.blt l (aA ps)&&!(mem (killed rs) l)
  have bs1:=kE ps us 0 [] [] (bA na) [] [] (by rw[←hx,vw,qAt]) edps (qAq _) rfl;rw[q1]at bs1;have rfU:∀j,(∀hd,Ed.o j hd∉rs)→Yy A1 (nth .dead h1 j):=fun j hno=>by
   by_cases hj:j<aA ps
   ·obtain⟨us',rest,e1,e2⟩:=bs1.newK j hj;have hp:=Lr psok j hj;rw[qAu]at e2 hp;intro cs hc;generalize hkd:nth .dead (kinds ps) j=hd at *;obtain⟨ss,rfl,rfl⟩:=FB (Ma hp).2.1 (e2.symm.trans hc);simp only[Np,qAa]at hp;have hn:qW j rs=none:=by
     cases hq:qW j rs with
     |none=>rfl
     |some hd=>exact(hno hd (D5 hq)).elim
    rw[hn]at hp;exact BL (p9 (A:=A1) (fun l h=>h) ss us' hp.2)
   ·rw[gD (by omega)];intro cs hc;cases hc
  have rfB':∀j is,Ed.o j (.bx is)∈rs→∀cs,nth .dead h1 j=.box cs→∀q v,(aB cs)[q]? =some v→jN is q=false→uG A1 v=true:=fun j is hm cs hc q v hv hq=>by
   have hj:=jg edrs hm;obtain⟨us',rest,e1,e2⟩:=bs1.newK j hj;have hp:=Lr psok j hj;rw[qAu]at e2 hp;generalize hkd:nth .dead (kinds ps) j=hd at *;obtain⟨ss,rfl,rfl⟩:=FB (Ma hp).2.1 (e2.symm.trans hc);simp only[Np,qAa]at hp;rw[Gv edrs hm]at hp;exact NJ (A:=A1) (fun l h=>h) is ss us' rest 0 e1 hp.2 q v hv (by rw[qAu];exact hq)
  have rf2:∀j,Yy A (nth .dead h2 j):=fun j=>by
   by_cases hj:j<aA ps
   ·by_cases hed:∃hd,Ed.o j hd∈rs
    ·obtain⟨hd,hed⟩:=hed;obtain⟨us',rest,et,e2⟩:=bs.obj j hd hed;rw[e2];rcases BQ rsok j hd hed with rfl|⟨h3,_⟩
     ·intro cs hc;cases hc
     ·by_cases hb:∃is,hd=.bx is
      ·obtain⟨is,rfl⟩:=hb;intro cs hc;cases ho:nth .dead h1 j with
       |box cs0=>
        rw[ho]at hc;simp only[aS]at hc;cases hq:(fE aT is (some cs0) us').1 with
        |none=>rw[hq]at hc;cases hc
        |some cs1=>
         rw[hq]at hc;cases hc;exact Nz hA is _ us' rest et h3 (fun cs2 h2 q v hv hq=>by cases h2;exact Jh hA1 v (rfB' j is hed cs0 ho q v hv hq)) cs hq
       |_=>rw[ho]at hc;cases hc
      ·have:aS aT (nth .dead h1 j) hd us'=aS aT .dead hd us':=by
        cases hd with
        |bx is=>exact(hb ⟨is,rfl⟩).elim
        |_=>rfl
       rw[this];exact PY hA _ hd us' h3 fun cs hc=>by cases hc
    ·rw[bs.keepO j hj fun hd h=>hed ⟨hd,h⟩];intro cs hc v hv;exact Jh hA1 v (rfU j (fun hd h=>hed ⟨hd,h⟩) cs hc v hv)
   ·by_cases hj2:j<aA ps+aA rs
    ·obtain⟨hd,us',e1,e2⟩:=bs.new (j - aA ps) (by omega);rw[show aA ps+(j - aA ps)=j from by omega]at e2;rw[e2];exact PY hA _ hd us' (KY rsok hd e1) fun cs hc=>by cases hc
    ·rw[gD (by rw[bs.hl];omega)];intro cs hc;cases hc
  have gG:∀j,j<aA ps+aA rs→G j=g j:=fun j hj=>by
   have:L[j]? =some (L[j]'(by omega)):=qAd _;rw[show G j=_ from YM this,show g j=_ from mK this]
  -- where the callee's objects stand now
  have newAt:∀i,i<aA rs→nth .dead s'.h (g (aA ps+i))=fH g (nth .dead h2 (aA ps+i)):=fun i hi=>by
   rw[show g (aA ps+i)=k+i from mK (Lnew i hi),W.new i hi];exact Cb (d:=.dead) (d':=.dead) (fH g) rfl h2 _
  have qW:∀j hd,Ed.o j hd∈rs→hd≠ .dead→(∀is,hd≠ .bx is)→plainO (nth .dead h2 j)=true∧nth .dead s'.h (g j)=fH g (nth .dead h2 j):=fun j hd hm h1 h2'=>by
   have hj:=jg edrs hm;have hmap:nth .dead (h2.map (fH g)) j=fH g (nth .dead h2 j):=Cb (d:=.dead) (d':=.dead) (fH g) rfl h2 _;have pl:∀o,plainO (fH g o)=true→plainO o=true:=fun o h=>by cases o<;>first|rfl|cases h
   have:=W.obj j hd hm;rw[←ixL j hj];cases hd with
   |dead=>exact(h1 rfl).elim
   |bx is=>exact(h2' is rfl).elim
   |box cs=>obtain⟨a1,a2,a3⟩:=this;exact⟨pl _ (by rw[←hmap];exact a1),by rw[←hmap];exact a3⟩
   |own e=>obtain⟨a1,a2,a3⟩:=this;exact⟨pl _ (by rw[←hmap];exact a1),by rw[←hmap];exact a3⟩
   |mp e=>obtain⟨a1,a2,a3⟩:=this;exact⟨pl _ (by rw[←hmap];exact a1),by rw[←hmap];exact a3⟩
   |arr e=>obtain⟨a1,a2,a3⟩:=this;exact⟨pl _ (by rw[←hmap];exact a1),by rw[←hmap];exact a3⟩
  have unAt:∀j l,ρ[j]? =some l→(∀hd,Ed.o j hd∉rs)→nth .dead s'.h l=nth .dead s.h l∧bY s'.h (nth .dead s.h l)=bY s.h (nth .dead s.h l):=fun j l hj hno=>by
   have hlt:j<aA ps:=by have:=(qAp.1 hj).1;omega
   refine BF hWs l fun w hw e1=>?_;obtain⟨p,e2,e3⟩:=htg w hw;rw[e1]at e2;cases e2;rcases e3 with⟨l',hd,a1,a2⟩|⟨a1,a2⟩
   ·have hl':=jg edrs a1;obtain⟨p',a3,_,_⟩:=Lold l' hl';rw[mK a3]at a2;subst a2;have:l'=j:=(qBS (by omega) hnd).1 (a3.trans hj.symm);subst this;exact hno hd a1
   ·exact disj l (qAA hj) (rX.2 ⟨a1,a2⟩)
  have boxAt:∀j is,Ed.o j (.bx is)∈rs→∃l cs0 cs1 vs0 cf,ρ[j]? =some l∧nth .dead s.h l=.box cs0∧nth .dead s'.h l=.box cs1∧nth .dead h1 j=.box vs0∧nth .dead h2 j=.box cf∧(aB cs1).length=(aB cs0).length∧(aB cf).length=(aB vs0).length∧aO s.h cs0=bF G (aO h1 vs0)∧
    ∀q,(jN is q=true→q<(aB cs0).length→(aB cs1)[q]? =((aB cf).map (bU g))[q]?)∧(jN is q=false→((aB cs1)[q]? =(aB cs0)[q]?∧∀v,(aB cs0)[q]? =some v→av s'.h v=av s.h v)∧(aB cf)[q]? =(aB vs0)[q]?):=fun j is hm=>by
   have hj:=jg edrs hm;obtain⟨l,hd0,e1,e2,e2',e3⟩:=inO j hj;rcases BQ rsok j _ hm with hh|⟨_,_,_,_,hpl⟩
   ·cases hh
   ·rw[e2']at hpl;have hpl:=hpl is rfl;obtain⟨us',rest,e4t,e4⟩:=bs.obj j _ hm;have hmap:nth .dead (h2.map (fH g)) j=fH g (nth .dead h2 j):=Cb (d:=.dead) (d':=.dead) (fH g) rfl h2 _;have wj:=W.obj j _ hm;simp only[mK e1]at wj;cases hd0 with
    |box cs=>
     obtain⟨vs0,cs0,e5,e6,e7⟩:=e3;obtain⟨cs1,cf',a1,a2,a3,a4⟩:=wj cs0 e6;replace a2:fH g (nth .dead h2 j)=.box cf':=hmap.symm.trans a2;rw[e5]at e4;simp only[aS]at e4;cases hq:(fE aT is (some vs0) us').1 with
     |none=>rw[hq]at e4;rw[e4]at a2;cases a2
     |some cf=>
      rw[hq]at e4;rw[e4]at a2;simp only[fH,TObj.box.injEq]at a2;subst a2;have fs:=(yB is (some vs0) us' rest e4t).2 vs0 cf rfl hq;refine⟨l,cs0,cs1,vs0,cf,e1,e6,a1,e5,e4,a3,fs.1,U8 (e7 h1 _ hW),fun q=>⟨fun h1 h2=>?_,fun h=>⟨(a4 q).2 h,fs.2 q h⟩⟩⟩;rw[(a4 q).1 h1 h2,DU]
    |_=>cases hpl
  have lks:Lks g G A s'.h h2:=by
   have key:∀j,A j=true→bV (g j) (nth .dead s'.h (g j))=ren G (bV j (nth .dead h2 j))∧∀z,bI (g j) z (nth .dead s'.h (g j))=ren G (bI j z (nth .dead h2 j)):=fun j hj=>by
    obtain⟨hlt,hdd⟩:=Alt j hj;by_cases hj1:j<aA ps
    ·obtain⟨l,e1,e2,e3⟩:=Lold j hj1;have hgj:g j=l:=mK e2;by_cases hed:∃hd,Ed.o j hd∈rs
     ·obtain⟨hd,hed⟩:=hed;by_cases hb:∃is,hd=.bx is
      ·obtain⟨is,rfl⟩:=hb;obtain⟨l',cs0,cs1,vs0,cf,b1,b2,b3,b4,b5,_⟩:=boxAt j is hed;rw[e1]at b1;cases b1;rw[hgj,b3,b5];exact⟨rfl,fun _=>rfl⟩
      ·obtain⟨b1,b2⟩:=qW j hd hed (fun e=>by subst e;exact hdd hed) fun is e=>hb ⟨is,e⟩;rw[b2];exact Yl _ (gG j hlt)
     ·have hno:∀hd,Ed.o j hd∉rs:=fun hd h=>hed ⟨hd,h⟩;rw[hgj,(unAt j l e1 hno).1,bs.keepO j hj1 hno];exact look0 j l e3
    ·have:=newAt (j - aA ps) (by omega);rw[show aA ps+(j - aA ps)=j from by omega]at this;rw[this];exact Yl _ (gG j hlt)
   exact⟨fun j hj=>gG j (Alt j hj).1,fun j hj=>(key j hj).1,fun j z hj=>(key j hj).2 z⟩
  have lk12:∀j,A j=true→j<aA ps→Lk h1 h2 j:=fun j hj hj1=>by
   by_cases hed:∃hd,Ed.o j hd∈rs
   ·obtain⟨hd,hed⟩:=hed;rcases BQ rsok j hd hed with rfl|⟨_,hpl,ho1,ho2,_⟩
    ·exact((Alt j hj).2 hed).elim
    ·obtain⟨us',_,_,e2⟩:=bs.obj j hd hed;refine R9 ?_ (by rw[e2];exact Ue _ hd us' (by cases hd<;>first|rfl|exact(ho1 _ rfl).elim|exact(ho2 _ rfl).elim));obtain⟨l,hd0,_,_,e4,e5⟩:=inO j hj1;rw[e4]at hpl;cases hd0 with
     |box cs=>obtain⟨_,_,e6,_⟩:=e5;rw[e6];rfl
     |mp e=>obtain⟨_,_,e6,_⟩:=e5;rw[e6];rfl
     |_=>cases hpl
   ·unfold Lk;rw[bs.keepO j hj1 fun hd h=>hed ⟨hd,h⟩];exact⟨rfl,fun _=>rfl⟩
  have low:∀v,uG A1 v=true→av h2 v=av h1 v:=fun v hv=>(BJ v fun l hl=>(by
   have hl1:=Nq v hl hv;have hlt:l<aA ps:=by
    simp only[qAa,A1]at hl1;exact qAf hl1.1
   exact lk12 l (hA1 l hl1) hlt)).symm
  have avLow:∀j,(∀hd,Ed.o j hd∉rs)→bY h2 (nth .dead h1 j)=bY h1 (nth .dead h1 j):=fun j hno=>by
   cases ho:nth .dead h1 j with
   |box cs=>
    simp only[bY];rw[lM,lM];exact congrArg _ (qAZ fun v hv=>low v (rfU j hno cs ho v hv))
   |_=>rfl
  refine⟨?_,?_⟩
  ·apply qBI;intro l;have hlen:s'.h.length=s.h.length:=(BD hWs).2;have lget:∀(Hx:List TObj) (l:Nat),l<Hx.length→(au Hx)[l]? =some (bY Hx (nth .dead Hx l)):=fun Hx l hl=>by
    unfold au;rw[qAB,dF,List.getD,qAd hl];rfl
   by_cases hl:l<s.h.length
   ·rw[lget s'.h l (by omega)];by_cases hin:l∈L
    ·obtain⟨j,hj⟩:=qAK hin;have hjl:=(qAp.1 hj).1;have hjn:j<aA ps+aA rs:=by omega
     rw[vI L _ (au s.h) j l Lnd hj (by rw[qAi];simp only[au,qAi,bs.hl];exact hjn) (by simp only[au,qAi];exact hl)];rw[qAB,lget h2 j (by rw[bs.hl];exact hjn)];simp only[qAv,Option.some.injEq];have hgj:g j=l:=mK hj;by_cases hj1:j<aA ps
     ·have hρj:ρ[j]? =some l:=by
       obtain⟨l',a1,a2,_⟩:=Lold j hj1;rw[hj]at a2;cases a2;exact a1
      by_cases hed:∃hd,Ed.o j hd∈rs
      ·obtain⟨hd,hed⟩:=hed;by_cases hdd:hd=.dead
       ·subst hdd;obtain⟨us',_,_,a1⟩:=bs.obj j _ hed;have a1:nth .dead h2 j=.dead:=a1;have:=W.obj j _ hed;rw[ixL j hj1,hgj]at this;rw[a1];rcases this with⟨_,_,_,a2⟩|⟨_,_,_,a2⟩|a2<;>(rw[a2];rfl)
       ·by_cases hb:∃is,hd=.bx is
        ·obtain⟨is,rfl⟩:=hb;obtain⟨l',cs0,cs1,vs0,cf,b1,b2,b3,b4,b5,b6,b7,b8,b9⟩:=boxAt j is hed;rw[hρj]at b1;cases b1;rw[b3,b5];simp only[bY,bD,AObj.box.injEq];have hl8:(aB cs0).length=(aB vs0).length:=by
          have:=congrArg List.length b8;rw[dP,gN,gN,←ji,←ji]at this;exact this
         rw[lM,lM,kV,qBr];apply qBI;intro q;rw[qAB,qAB];by_cases hq:q<(aB cs0).length
         ·cases hc:jN is q with
          |true=>
           rw[(b9 q).1 hc hq,qAB];cases hv:(aB cf)[q]? with
           |none=>rfl
           |some v=>
            simp only[qAv,Option.some.injEq,Function.comp];exact zl lks v (rf2 j cf b5 v (qAA hv))
          |false=>
           obtain⟨⟨c1,c2⟩,c3⟩:=(b9 q).2 hc;rw[c1,c3];have hq2:q<(aB vs0).length:=by omega
           rw[qAd hq,qAd hq2];simp only[qAv,Option.some.injEq,Function.comp];rw[c2 _ (qAd hq),low _ (rfB' j is hed vs0 b4 q _ (qAd hq2) hc)];have e8:=congrArg (fun x=>x[q]?) b8;simp only[lM,kV,qAB,qAd hq,qAd hq2,qAv,Option.some.injEq]at e8;exact e8
         ·rw[qAo (by omega),qAo (by omega)];rfl
        ·obtain⟨_,a2⟩:=qW j hd hed hdd fun is e=>hb ⟨is,e⟩;rw[←hgj,a2];exact Va lks (rf2 j)
      ·have hno:∀hd,Ed.o j hd∉rs:=fun hd h=>hed ⟨hd,h⟩;obtain⟨a1,a2⟩:=unAt j l hρj hno;rw[a1,a2,objEq j l hρj,bs.keepO j hj1 hno,avLow j hno]
     ·have:=newAt (j - aA ps) (by omega);rw[show aA ps+(j - aA ps)=j from by omega]at this;rw[←hgj,this];exact Va lks (rf2 j)
    ·rw[pG L _ _ l hin,lget s.h l hl];obtain⟨a1,a2⟩:=BF hWs l fun w hw e1=>by
      obtain⟨p,e2,e3⟩:=tgL w hw;rw[e1]at e2;cases e2;exact hin e3
     rw[a1,a2]
   ·rw[qAo (by simp only[au,qAi];omega),qAo (by rw[xw];simp only[au,qAi];omega)]
  ·rw[ZK];refine zl lks _ (ac2 fun v hv=>?_);obtain⟨i,hi⟩:=qAK hv;have hvi:nth .unk r i=v:=by rw[dF,List.getD,hi];rfl
   rcases bs.slot i with e1|⟨sk,us',e1,e2⟩
   ·rw[←hvi,e1,Gz];rfl
   ·rw[←hvi,e2];exact Ct hA sk us' (LM rsok i sk e1)
theorem acS{te:Nat}{H:List TObj}{k:Nat}{vs:List TV}{e:Ent}{K:Nat→List Nat→List TWr→TV→Option γ}{X:Nat→List Nat→List TWr→Int→Option γ}(he:aF P te e)(h:P5 H k vs e K X=some b):
  (∃(ρ:List Nat) (aargs:List AV) (Hi:List AObj) (res:AV) (Ho:List AObj) (ws:List TWr) (v:TV),aP P e.f aargs Hi res Ho∧(∀tm,Passes ⟨tm,au H⟩ ρ (rng k (aA e.rs)) Hi)∧Ho.length=(ρ++rng k (aA e.rs)).length∧
   SWs (aI H vs) (aargs.map (ren (nm (ρ++rng k (aA e.rs)) (au H).length)))∧K (aA e.rs) (ρ++rng k (aA e.rs)) ws v=some b∧(∀w∈ws,∃p,tgt w=some p∧p∈ρ++rng k (aA e.rs))∧
   ∀s s',s.h=H→Ws s ws s'→au s'.h=jd (au H) (ρ++rng k (aA e.rs)) (Ho.map (bD (nm (ρ++rng k (aA e.rs)) (au H).length)))∧av s'.h v=ren (nm (ρ++rng k (aA e.rs)) (au H).length) res)∨
  ∃(nn:Nat) (ρ:List Nat) (aargs:List AV) (Hi Ho:List AObj) (ws:List TWr) (c:Int),sD P e.f aargs Hi (tQ te c) Ho∧(∀tm,Passes ⟨tm,au H⟩ ρ (rng k nn) Hi)∧Ho.length=(ρ++rng k nn).length∧
   SWs (aI H vs) (aargs.map (ren (nm (ρ++rng k nn) (au H).length)))∧X nn (ρ++rng k nn) ws c=some b∧(∀w∈ws,∃p,tgt w=some p∧p∈ρ++rng k nn)∧
   ∀s s',s.h=H→Ws s ws s'→au s'.h=jd (au H) (ρ++rng k nn) (Ho.map (bD (nm (ρ++rng k nn) (au H).length))):=by
 obtain⟨hokf,hwf,hcon⟩:=he;unfold sP at hwf;rw[qAa,qAa]at hwf;obtain⟨⟨_,hwf⟩,hwp⟩:=hwf;simp only[qAa]at hwf;obtain⟨edps,edrs,psok,rsok⟩:=hwf;unfold P5 at h;simp only at h;obtain⟨hc,h⟩:=(aM h).resolve_right fun h=>by cases h.2
 simp only[qAa]at hc;obtain⟨hna,hρl,hρn,hres⟩:=hc;have hna:=qAc hna;have hρl:=qAc hρl;have hnd:=N7 hρn;clear hρn;have hres:=Nh _ _ hres;generalize hL0:LJ 0 (aA e.ps) (xX vs H 0 e.ps [])=L0 at h hρl hnd;generalize hρ:vL L0 0 (aA e.ps)=ρ at h hρl hnd;have hsome:∀j,j<aA e.ps→L0 j=ρ[j]?:=fun j hj=>by
  have:=Oq (f:=L0) (aA e.ps) 0 (by rw[hρ];exact hρl) j hj;rw[qAu,hρ]at this;exact this
 have L0ge:∀j,aA e.ps≤j→L0 j=none:=fun j hj=>by rw[←hL0];exact ab6 (qAN _) hj
 obtain⟨us,hus,hB⟩:=vv e.ps 0 _ [] [] edps (qAq _) h;obtain⟨x,hx,hus⟩:=yU hus;obtain⟨y,hF,hus⟩:=ob hus;obtain⟨T1,h1,q1,la⟩:=hB (bA e.na) [] [] rfl;rw[qAt]at q1;rcases RT.agh hus (hcon x y hF T1 h1 (by rw[hx];exact q1))with⟨y,hus,hcalls⟩|⟨eds,c,z,hpe,hus,hcalls⟩
 ·left;obtain⟨r,h2,ws,v,g1,g2,g3,g4,g5,g6,g7⟩:=abD e.rs e.nr (e.out y) (Q:=fun ws v=>K (aA e.rs) (ρ++rng k (aA e.rs)) ws v) edps edrs psok rsok hna hρl hnd hres hsome L0ge hx q1 la hus;exact⟨ρ,_,_,_,_,ws,v,hcalls r h2 g1,g2,g3,g4,g5,g6,g7⟩
 ·right;rw[hpe]at hwp;simp only[qAa]at hwp;obtain⟨_,edr,pso,rso⟩:=hwp;obtain⟨hr,hus⟩:=(aM hus).resolve_right fun h=>by cases h.2
  obtain⟨r,h2,ws,v,g1,g2,g3,g4,g5,g6,g7⟩:=abD eds 0 z (Q:=fun ws _=>X (aA eds) (ρ++rng k (aA eds)) ws c) edps edr pso rso hna hρl hnd (Nh _ _ hr) hsome L0ge hx q1 la hus;exact⟨aA eds,ρ,_,_,_,ws,c,hcalls r h2 g1,g2,g3,g4,g5,g6,fun s s' h1 h2=>(g7 s s' h1 h2).1⟩
end
end
section
open Go
def Kcp(t:List TV)(cp:List (Nat×Nat)):Prop:=∀d x,(d,x)∈cp→nth .unk t d=nth .unk t x
structure Inv(s:DS):Prop where
 up:Kup s.t s.up
 rl:Krl s.t s.rl
 cp:Kcp s.t s.cp
structure Fr(s s':DS):Prop where
 tl:s'.t.length=s.t.length
 hl:s.h.length≤s'.h.length
 d:∀k,k∉s'.d→k∉s.d∧nth .unk s'.t k=nth .unk s.t k
 om:∀p,p∈s.o→p∈s'.o
 oo:s'.oo=s.oo
 o:∀l,l<s.h.length→(l,0)∉s'.o→uF (nth .dead s.h l) (nth .dead s'.h l) fun q=>decide ((l,q+1)∈s'.o)
theorem uF.trans{a b c:TObj}{f g:Nat→Bool}(h:uF a b f)(k:uF b c g)(hf:∀q,g q=false→f q=false):uF a c g:=by
 rcases h with rfl|⟨x,y,rfl,rfl,h1,h2⟩
 ·exact k
 ·rcases k with rfl|⟨y',z,e,rfl,k1,k2⟩
  ·exact .inr ⟨x,y,rfl,rfl,h1,fun q hq=>h2 q (hf q hq)⟩
  ·cases e;exact .inr ⟨x,z,rfl,rfl,k1.trans h1,fun q hq=>(k2 q hq).trans (h2 q (hf q hq))⟩
theorem Fr.refl(s:DS):Fr s s:=⟨rfl,qAq _,fun _ h=>⟨h,rfl⟩,fun _ h=>h,rfl,fun _ _ _=>.inl rfl⟩
theorem Fr.trans{a b c:DS}(h:Fr a b)(k:Fr b c):Fr a c:=by
 refine⟨k.tl.trans h.tl,qAW h.hl k.hl,fun n hn=>?_,fun p hp=>k.om p (h.om p hp),k.oo.trans h.oo,fun l hl hno=>?_⟩
 ·obtain⟨k1,k2⟩:=k.d n hn;obtain⟨h1,h2⟩:=h.d n k1
  grind
 ·refine uF.trans (h.o l hl fun hm=>hno (k.om _ hm)) (k.o l (qAF hl h.hl) hno) fun q hq=>?_;simp at hq⊢;exact fun hm=>hq (k.om _ hm)
theorem mem_filter{l:List Nat}{f:Nat→Bool}{i:Nat}(h:mem (l.filter f) i=true):mem l i=true∧f i=true:=by
 rw[mem_iff,qBu]at h;exact⟨mem_iff.2 h.1,h.2⟩
theorem aes{a b:Nat}(h:(!(Nat.beq a b))=true):a≠b:=by
 intro e;subst e
 simp_all
theorem acA{s:DS}(hi:Inv s)(n:Nat)(v:TV):
  Inv ⟨s.t.set n v,s.h,n::s.d,s.o,s.up.filter fun i=>!(Nat.beq i n),s.rl.filter fun p=>!(Nat.beq p.1 n ||(Nat.beq p.2.1 n ||Nat.beq p.2.2 n)),s.cp.filter fun p=>!(Nat.beq p.1 n ||Nat.beq p.2 n),s.oo⟩:=by
 refine⟨fun i k a h1 h2=>?_,fun d i j h1 k a h2=>?_,fun d x h1=>?_⟩
 ·obtain⟨g1,g2⟩:=mem_filter h1;have hne:=aes g2;simp only[aL hne.symm]at h2;exact hi.up i k a g1 h2
 ·rw[qBu]at h1;obtain⟨g1,g2⟩:=h1;simp at g2;have ne:∀a,Nat.beq a n=false→n≠a:=fun a h e=>by subst e;rw[je]at h;cases h
  simp only[aL (ne _ g2.2.1)]at h2;simp only[aL (ne _ g2.1),aL (ne _ g2.2.2)];exact hi.rl d i j g1 k a h2
 ·rw[qBu]at h1;obtain⟨g1,g2⟩:=h1;simp at g2;have ne:∀a,Nat.beq a n=false→n≠a:=fun a h e=>by subst e;rw[je]at h;cases h
  simp only[aL (ne _ g2.1),aL (ne _ g2.2)];exact hi.cp d x g1
theorem aec{s s':DS}{w:TWr}(hi:Inv s)(h:W1 s w s'):Inv s':=by
 cases w with
 |sl n v=>obtain⟨_,rfl⟩:=h;exact acA hi n v
 |ob l o=>obtain⟨_,_,rfl⟩:=h;exact⟨hi.up,hi.rl,hi.cp⟩
 |st l off vs=>obtain⟨_,_,_,_,rfl⟩:=h;exact⟨hi.up,hi.rl,hi.cp⟩
 |kill l=>rcases h with⟨_,_,_,rfl⟩|⟨_,_,_,rfl⟩|⟨_,rfl⟩<;>exact⟨hi.up,hi.rl,hi.cp⟩
 |nw l o=>obtain⟨_,_,rfl⟩:=h;exact⟨hi.up,hi.rl,hi.cp⟩
 |up l i e y=>obtain⟨_,_,rfl⟩:=h;exact⟨hi.up,hi.rl,hi.cp⟩
theorem FZ{s s':DS}{ws:List TWr}(h:Ws s ws s')(hi:Inv s):Inv s':=by
 induction h with
 |nil s=>exact hi
 |cons h _ ih=>exact ih (aec hi h)
theorem K7{s:DS}{l:Nat}{o:TObj}:Fr s {s with h:=s.h.set l o,o:=(l,0)::s.o}:=
 ⟨rfl,by simp,fun _ h=>⟨h,rfl⟩,fun p hp=>qAk _ hp,rfl,fun l' hl hno=>.inl (aL fun e=>hno (by subst e;simp))⟩
theorem agp{s s':DS}{w:TWr}(h:W1 s w s'):Fr s s':=by
 cases w with
 |sl n v=>
  obtain⟨_,rfl⟩:=h;refine⟨by simp,qAq _,fun k hk=>?_,fun _ h=>h,rfl,fun _ _ _=>.inl rfl⟩;simp at hk;exact⟨hk.2,aL (qBd hk.1)⟩
 |ob l o=>obtain⟨_,_,rfl⟩:=h;exact K7
 |st l off vs=>
  obtain⟨cs,cs',h1,h2,rfl⟩:=h;refine⟨rfl,by simp,fun _ h=>⟨h,rfl⟩,fun p hp=>qBo _ hp,rfl,fun l' hl hno=>?_⟩;by_cases e:l=l'
  ·subst e;simp only[aW hl,h1];obtain⟨q1,q2⟩:=uS h2;refine .inr ⟨cs,cs',rfl,rfl,by rw[q1];simp;omega,fun q hq=>?_⟩;simp only[decide_eq_false_iff_not,qAy,qBc,not_or]at hq;have hout:¬(off≤q∧q<off+(aB vs).length):=fun hh=>hq.1 ⟨q+1,rX.2 (by rw[ji]at hh;omega),rfl⟩
   grind
  ·exact .inl (aL e)
 |kill l=>rcases h with⟨_,_,_,rfl⟩|⟨_,_,_,rfl⟩|⟨_,rfl⟩<;>exact K7
 |nw l o=>obtain⟨_,_,rfl⟩:=h;exact K7
 |up l i e y=>obtain⟨_,_,rfl⟩:=h;exact K7
theorem PL{s s':DS}{ws:List TWr}(h:Ws s ws s'):Fr s s':=by
 induction h with
 |nil s=>exact Fr.refl s
 |cons h _ ih=>exact(agp h).trans ih
section
variable {P:Program}{γ:Type}{b:γ}
theorem aaY{H:List TObj}{t:List TV}{θ:Nat→Option ET}{up:List Nat}{k:Nat}{o:Oper}{K:List Nat→List TWr→Option γ}(hk:Kup t up)(h:bg (TI.of P) θ up k o.dst t H o.op K=some b):jP P H t k o K b:=by
 obtain⟨d,op,ty,ps,aft,gd⟩:=o;cases op with
 |move x=>exact acE h
 |assign x=>exact Zw h
 |pick c x y=>exact acn h
 |nilCheck x=>exact TH h
 |binOp op t x y t2=>exact ZE hk h
 |unOp op t x=>exact acM h
 |fieldAddr s x f=>exact QK h
 |field s x f=>exact ZR h
 |indexAddr t x i=>exact QI h
 |index t x i=>exact aaI h
 |extract x i=>exact WX h
 |slice t x lo hi mx=>
  cases mx with
  |none=>exact aat h
  |some m=>cases h
 |build t parts=>exact aai h
 |makeFunc fn first cap=>
  cases fn with
  |func f=>exact Tt h
  |_=>cases h
 |load t x=>exact adt h
 |convert s t x=>exact V4 h
 |store t x y=>exact aal h
 |alloc t=>exact aao h
 |box t x=>
  refine afc h fun cs _ hr=>(qm cs fun l _=>zn ?_ l).symm;have e:nth .dead H k=.res:=by unfold fA at hr;split at hr;assumption;cases hr
  rw[e];exact⟨rfl,fun _=>rfl⟩
 |makeMap t r=>
  cases r with
  |none=>exact WZ h
  |some x=>cases h
 |buildSlice t len parts=>exact OX h
 |makeSlice t x y=>exact Rw h
 |call c=>
  obtain⟨callee,args,ats⟩:=c;cases callee with
  |builtin bi=>
   cases bi<;>first|exact aeX h|exact Yn h|exact adY h|cases h
  |_=>cases h
 |lookup t m key ok=>exact Ye h
 |mapUpdate t m key x=>exact Sv h
 |_=>cases h
structure Sm(e f:Eff):Prop where
 rs:e.rs=f.rs
 ro:e.ro=f.ro
 ws:dw e.ws=dw f.ws
 wo:cZ e.ws=cZ f.ws
inductive Sms:List Eff→List Eff→Prop where
 |nil:Sms [] []
 |cons {e f:Eff} {es fs:List Eff}:Sm e f→Sms es fs→Sms (e::es) (f::fs)
theorem nK:∀(ws:List TWr) (H:List TObj),dw (erase ws)=dw (mM H ws)∧cZ (erase ws)=cZ (mM H ws)
 |[],_=>⟨rfl,rfl⟩
 |w::ws,H=>by
  obtain⟨h1,h2⟩:=nK ws (AU H w);cases w<;>simp only[erase,mM,qR,dw,cZ,qBz]at *<;>exact⟨by rw[h1],by rw[h2]⟩
theorem Ku(a c:List Wr):dw (a++c)=dw a++dw c:=by simp[dw]
theorem OI(a c:List Wr):cZ (a++c)=cZ a++cZ c:=by simp[cZ]
theorem Bu:∀(l:List Nat) (os:List AObj),dw (fD l os)=[]
 |[],_=>rfl
 |_::_,[]=>rfl
 |l::ls,o::os=>by simp only[fD];exact Bu ls os
theorem Dj:∀(l:List Nat) (os:List AObj),os.length=l.length→cZ (fD l os)=l
 |[],[],_=>rfl
 |[],_::_,h=>by cases h
 |_::_,[],h=>by cases h
 |l::ls,o::os,h=>by
  have:=Dj ls os (by simpa using h);simp only[fD,cZ,qBz]at this⊢;rw[this]
theorem Bn:∀(l:List Nat),dw (l.map fun l=>Wr.obj l .dead)=[]
 |[]=>rfl
 |_::ls=>by simp;exact Bn ls
theorem DV:∀(l:List Nat),cZ (l.map fun l=>Wr.obj l .dead)=l
 |[]=>rfl
 |l::ls=>by have:=DV ls;simp only[qAz,cZ,qBz]at this⊢;rw[this]
theorem abj{e f e' f':Eff}(h:Sm e f)(h':Sm e' f'):aY e e'=aY f f':=by
 unfold aY;rw[h.rs,h.ro,h.ws,h.wo,h'.rs,h'.ro,h'.ws,h'.wo]
theorem Vo{es fs:List Eff}(h:Sms es fs):∀i,Sm (es.getD i dX) (fs.getD i dX):=by
 induction h with
 |nil=>intro i;exact⟨rfl,rfl,rfl,rfl⟩
 |cons h _ ih=>intro i;cases i with
  |zero=>exact h
  |succ i=>exact ih i
theorem Kg{l:List Oper}{es fs:List Eff}(h:Sms es fs):eX l es=eX l fs:=by
 unfold eX;congr 1;funext j;congr 2;funext i;rw[abj (Vo h i) (Vo h j)]
theorem Uh{ops:Array Oper}{o:Oper}{s:DS}{k:Nat}{rd:List Nat}{ws:List TWr}{ws':List Wr}(hw:bq ops (bX s).tmps o=some true)(h:aD P k o (aN (aI s.h s.t)) (obj? (au s.h))=some (rd,ws'))
  (hv:(∀x∈o.op.operands,VF (aN (aI s.h s.t) x))→ws'=mM s.h ws):qd P ops o (bX s) ⟨aJ ops o,rd,mM s.h ws⟩:=by
 intro t ht;refine .inl ⟨by rw[lF ht.rs];exact hw,?_⟩;intro C κ a w hs next Q hn
 have hev:=wF ht.rs;have e:=hv fun x hx=>by
  have e1:aN (aI s.h s.t) x=aN t.tmps x:=(hev x hx).symm;rw[e1];exact(hs.ev x).vf
 subst e;exact KV (k:=k) (rd:=rd) (EN h hev ht.ro) C κ a w hs next Q hn
theorem afp{ops:List Oper}{o:Oper}{s:DS}{A B:DS→Option γ}(h:gdK ops o s A B=some b):(bq ops.toArray (bX s).tmps o=some true∧A s=some b)∨(bq ops.toArray (bX s).tmps o=some false∧B s=some b):=by
 unfold gdK at h;unfold bq;cases hg:o.guard with
 |none=>rw[hg]at h;exact .inl ⟨rfl,h⟩
 |some p=>
  obtain⟨j,want⟩:=p;rw[hg]at h;simp only at h⊢;rw[List.getElem?_toArray];cases hd:(ops[j]?).bind (·.dst)with
  |none=>rw[hd]at h;cases h
  |some d=>
   rw[hd]at h;simp only at h⊢;have htm:(bX s).tmps.getD d .unk=av s.h (nth .unk s.t d):=qy s.h s.t d;rw[htm];have self:∀v,nth .unk s.t d=v→s.t.set d v=s.t:=fun v hv=>by
    apply qBI;intro n;by_cases e:d=n
    ·subst e;by_cases hl:d<s.t.length
     ·rw[qCb hl,qAd hl];rw[dF,List.getD,qAd hl]at hv
      grind
     grind
    grind
   split at h
   ·rename_i q hq;simp only[hq,av,eP];rw[iy,iy,iy,iy]at h;cases q
    ·have e1:=self _ hq;cases want
     ·simp_all
     simp_all
    ·have e1:=self _ hq;cases want
     ·simp only[cond_false,cond_true,e1]at h;exact .inr ⟨rfl,h⟩
     simp_all
   ·rename_i hq;rw[hq];exact .inr ⟨rfl,h⟩
   ·cases h
theorem Rt(o:Oper)(s:DS):(nS o s).t=s.t∧(nS o s).h=s.h∧(nS o s).d=s.d∧(nS o s).o=s.o∧(nS o s).oo=s.oo:=by
 unfold nS
 grind
theorem N8{o:Oper}{s s1:DS}{ws:List TWr}(hi:Inv s1)(hs:Ws s ws s1)(h0:Inv s)(hr:QS s.t o ws)(hm:∀x d,o.op=.move x→o.dst=some d→ws=[.sl d (bT s.t x)]):Inv (nS o s1):=by
 unfold nS;split
 ·rename_i tt i j g d e1 e2;cases hb:Nat.beq d i ||Nat.beq d j with
  |true=>exact hi
  |false=>
   rw[cond_false];simp at hb;have ne:∀a,Nat.beq d a=false→d≠a:=fun a h e=>by subst e;rw[je]at h;cases h
   obtain⟨v,rfl,hv⟩:=hr d i j tt g e1 e2;cases hs with
   |cons g1 g2=>
    cases g2;obtain⟨hlt,rfl⟩:=g1;refine⟨hi.up,fun d' i' j' hmem k a hk=>?_,hi.cp⟩;rcases qAh.1 hmem with e|hmem
    ·cases e;simp only[aL (ne i hb.1)]at hk;obtain⟨c,g1,g2⟩:=hv k a hk;refine⟨c,by simp only[aL (ne j hb.2)];exact g1,fun b hbv=>?_⟩;simp only[aW hlt]at hbv
     grind
    ·exact hi.rl d' i' j' hmem k a hk
 ·rename_i x d e1 e2;cases hb:Nat.beq d x with
  |true=>exact hi
  |false=>
   rw[cond_false];have ne:d≠x:=fun e=>by subst e;rw[je]at hb;cases hb
   have hw:=hm _ d e1 e2;subst hw;cases hs with
   |cons g1 g2=>
    cases g2;obtain⟨hlt,rfl⟩:=g1;have hx:nth .unk (s.t.set d (bT s.t (.tmp x))) x=nth .unk s.t x:=aL ne;have hd:nth .unk (s.t.set d (bT s.t (.tmp x))) d=nth .unk s.t x:=aW hlt;refine⟨fun i k a hmem hk=>?_,hi.rl,fun d' x' hmem=>?_⟩
    ·simp only at hmem hk;cases hu:mem (s.up.filter fun i=>!(Nat.beq i d)) x with
     |false=>simp only[hu]at hmem;exact hi.up i k a hmem hk
     |true=>
      simp only[hu,cond_true]at hmem;rw[mem_iff,qAh]at hmem;rcases hmem with rfl|hmem
      ·rw[hd]at hk;exact h0.up x k a (mem_filter hu).1 hk
      ·exact hi.up i k a (mem_iff.2 hmem) hk
    ·rcases qAh.1 hmem with e|hmem
     ·grind
     ·exact hi.cp d' x' hmem
 ·exact hi
end
end
section
open Go
theorem Lp(f e:Eff):aY f e=true↔aY e f=true:=by
  simp only[aY,qBg,qCw,qCe];constructor
  ·rintro(((⟨n,a1,a2|a2⟩|⟨n,a1,a2⟩)|⟨n,a1,a2|a2⟩)|⟨n,a1,a2⟩)
   ·exact .inl (.inl (.inr ⟨n,a1,a2⟩))
   ·exact .inl (.inl (.inl ⟨n,a2,.inr a1⟩))
   ·exact .inl (.inl (.inl ⟨n,a1,.inl a2⟩))
   ·exact .inr ⟨n,a1,a2⟩
   ·exact .inl (.inr ⟨n,a2,.inr a1⟩)
   ·exact .inl (.inr ⟨n,a1,.inl a2⟩)
  ·rintro(((⟨n,a1,a2|a2⟩|⟨n,a1,a2⟩)|⟨n,a1,a2|a2⟩)|⟨n,a1,a2⟩)
   ·exact .inl (.inl (.inr ⟨n,a1,a2⟩))
   ·exact .inl (.inl (.inl ⟨n,a2,.inr a1⟩))
   ·exact .inl (.inl (.inl ⟨n,a1,.inl a2⟩))
   ·exact .inr ⟨n,a1,a2⟩
   ·exact .inl (.inr ⟨n,a2,.inr a1⟩)
   ·exact .inl (.inr ⟨n,a1,.inl a2⟩)
theorem WY{P:Program}{l:List Oper}{q0:Nat}{op:Oper}{es:List Eff}{ep:Eff}{s:ASt}{v:Value}{C:Ctx}{Q:Exit→Act→World→Prop}(hlen:es.length=l.length)(hlp:l[q0]? =some op)(hep:es[q0]? =some ep)
  (heff:∀i o e,i≠q0→q0∉(jq l []).getD i []→l[i]? =some o→es[i]? =some e→qd P l.toArray o (s.wr (aG (fun j=>decide (j<i)&&!(j==q0)) 0 es)) e)
  (hx:xU P l.toArray op v (s.wr (aG (fun j=>decide (j<q0)) 0 es)) ep) (hok:eX l es=true)
  (hq:∀(D:Nat→Bool) κ' a' w',(∀i,i∈(jq l []).getD q0 []→D i=true∨i=q0)→D q0=false→Sim C κ' ((s.wr (aG D 0 es)).wr ep.ws) a' w'→Q (.panic [{v,recovered:=false}]) a' w'):
  ∀(fuel:Nat) (listed:Array Bool) (κ:aH) (a:Act) (w:World),listed.size=l.length→(listed.toList.filter (!·)).length=fuel→listed.getD q0 true=false→
   (∀j o,l[j]? =some o→listed.getD j false=true→∀p∈fK o,listed.getD p false=true)→
   Sim C κ (s.wr (aG (fun i=>listed.getD i false) 0 es)) a w→wpAny P .any l.toArray Q fuel listed a w:=by
 have hpl:q0<l.length:=(qAp.1 hlp).1;have hord:∀j,j<l.length→(∀p∈fK (l.getD j default),p<j)∧∀i,i<j→aY (es.getD i dX) (es.getD j dX)=true→i∈(jq l []).getD j []:=fun j hj=>by
  have:=qAG.1 hok j (qBT.2 hj);simp only[qAa,qAG,decide_eq_true_eq,qBT,qBg,qBb,qCe]at this;refine⟨this.1,fun i hi hc=>?_⟩;rcases this.2 i hi with h|h
  ·rw[hc]at h;cases h
  ·exact h
 have hall:∀(listed:Array Bool),listed.size=l.length→Region.ready .any l.toArray listed=[]→∀i,i<l.length→listed.getD i false=true:=by
  intro listed hsz hr i
  induction i using Nat.strongRecOn with
  |_ i ih=>
   intro hi;cases hb:listed.getD i false with
   |true=>rfl
   |false=>
    exfalso;have hlt:i<listed.size:=by omega
    have:i∈Region.ready .any l.toArray listed:=by
     refine mem_ready.2 ⟨?_,l[i],by simp[hi],fun e he hbd=>?_⟩
     ·simpa[Array.getD,hlt]using hb
     ·have hp:=(hord i hi).1 e.on (by
       simp only[fK,List.getD,qAd hi,qAs];exact qBc.2 ⟨e,qBu.2 ⟨by simpa using he,hbd⟩,rfl⟩)
      exact ih e.on hp (by omega)
    rw[hr]at this;cases this
 have hne:∀(listed:Array Bool),listed.size=l.length→listed.getD q0 true=false→Region.ready .any l.toArray listed≠[]:=fun listed hsz hp hr=>by
  have h1:=hall listed hsz hr q0 hpl;have h2:q0<listed.size:=by omega
  simp[Array.getD,h2]at h1 hp;rw[h1]at hp;cases hp
 have hgp:es.getD q0 dX=ep:=by rw[List.getD,hep];rfl
 have hg1:∀j f,es[j]? =some f→es.getD j dX=f:=fun j f hj=>by
  rw[List.getD,hj];rfl
 intro fuel
 induction fuel with
 |zero=>
  intro listed κ a w hsz hcnt hpf _ hsim;exfalso;have hlt:q0<listed.size:=by omega
  have:=yO hlt hpf;omega
 |succ fuel ih=>
  intro listed κ a w hsz hcnt hpf hdown hsim;refine⟨fun hr=>(hne listed hsz hpf hr).elim,fun i hi=>?_⟩;obtain⟨h1,o,h2,h3⟩:=mem_ready.1 hi;have hil:i<l.length:=by have:=(qBs.1 h2).1;simpa using this
  have hlo:l[i]? =some o:=by simpa using h2
  have hlt:i<listed.size:=by omega
  have hi0:listed.getD i false=false:=by simpa[Array.getD,hlt]using h1
  have hbd:∀j i',listed.getD j false=true→i'∈(jq l []).getD j []→listed.getD i' false=true:=
   nC (D:=fun j=>listed.getD j false=true) l [] (fun j i' _ hi'=>by simp at hi') (fun j o' hj hD p hp=>hdown j o' hj (by simpa using hD) p hp)
  have hbi:∀j,j∈(jq l []).getD i []→listed.getD j false=true∨j=i:=
   fun j hb=>nC (D:=fun j=>listed.getD j false=true∨j=i) l [] (fun j i' _ hi'=>by simp at hi') (fun j' o' hj' hD p hp=>by
    simp only[qAx,qAu]at hD;rcases hD with hD|rfl
    ·exact .inl (hdown j' o' hj' hD p hp)
    ·rw[hlo]at hj';cases hj';simp only[fK,qBc,qBu]at hp;obtain⟨ed,⟨he1,he2⟩,rfl⟩:=hp;exact .inl (h3 ed (by simpa using he1) he2)) i j (.inr rfl) hb
  have hpf0:listed.getD q0 false=false:=by
   have:q0<listed.size:=by omega
   simpa[Array.getD,this]using hpf
  by_cases hiq:i=q0
  ·subst hiq;rw[hlp]at hlo;obtain rfl:=Option.some.inj hlo;have hagree:Agree (s.wr (aG (fun j=>listed.getD j false) 0 es)) (s.wr (aG (fun j=>decide (j<i)) 0 es)) ep:=by
    have hD:∀j f,es[j]? =some f→aY f ep=true→listed.getD j false=decide (j<i):=fun j f hj hc=>by
     rcases Nat.lt_trichotomy j i with hji|rfl|hji
     ·have hb:=(hord i hpl).2 j hji (by rw[hg1 j f hj,hgp];exact hc);rcases hbi j hb with h|h
      ·rw[h];simp[hji]
      ·omega
     ·rw[hpf0];simp
     ·have hjl:j<l.length:=by have:=(qAp.1 hj).1;omega
      have hb:=(hord j hjl).2 i hji (by rw[hg1 j f hj,hgp];exact(Lp f ep).1 hc);cases hlj:listed.getD j false with
      |false=>simp;omega
      |true=>have:=hbd j i hlj hb;rw[hpf0]at this;cases this
    refine⟨by rw[(aK _ s).1,(aK _ s).1],by rw[(aK _ s).2,(aK _ s).2],fun n hn=>?_,fun n hn=>?_⟩
    ·by_cases hnl:n<s.tmps.length
     ·rw[ig _ n s hnl,ig _ n s hnl];congr 1;refine oD es 0 fun j f hj hw=>?_;rw[qAu];refine hD j f hj ?_;cases hc:aY f ep with
      |true=>rfl
      |false=>exact((sw hc hw).1 hn).elim
     ·have e1:(s.wr (aG (fun j=>listed.getD j false) 0 es)).tmps.getD n .unk=.unk:=by rw[List.getD,qAo (by rw[(aK _ s).1];omega)];rfl
      have e2:(s.wr (aG (fun j=>decide (j<i)) 0 es)).tmps.getD n .unk=.unk:=by rw[List.getD,qAo (by rw[(aK _ s).1];omega)];rfl
      rw[e1,e2]
    ·by_cases hnl:n<s.heap.length
     ·rw[eT _ n s hnl,eT _ n s hnl];congr 1;refine lG es 0 fun j f hj hw=>?_;rw[qAu];refine hD j f hj ?_;cases hc:aY f ep with
      |true=>rfl
      |false=>exact((rY hc hw).1 hn).elim
     ·have e1:obj? (s.wr (aG (fun j=>listed.getD j false) 0 es)).heap n=.dead:=by rw[obj?,qAo (by rw[(aK _ s).2];omega)];rfl
      have e2:obj? (s.wr (aG (fun j=>decide (j<i)) 0 es)).heap n=.dead:=by rw[obj?,qAo (by rw[(aK _ s).2];omega)];rfl
      rw[e1,e2]
   obtain⟨hwd,hX⟩:=hx _ hagree;unfold wpOp;rw[h2];dsimp only;rw[eD hsim hwd];simp only[if_true];refine .inl (hX C κ a w hsim _ _ fun κ' w' hs2=>hq _ κ' a w' hbi hpf0 hs2)
  have hfree:q0∉(jq l []).getD i []:=fun hb=>by
   rcases hbi _ hb with h|h
   ·rw[hpf0]at h;cases h
   ·exact hiq h.symm
  obtain⟨e,hei⟩:∃e,es[i]? =some e:=⟨_,qAd (by rw[hlen];exact hil)⟩;have hgi:es.getD i dX=e:=hg1 i e hei
  -- where something conflicts with i
  have hearly:∀j f,es[j]? =some f→j<i→aY f e=true→listed.getD j false=true:=fun j f hj hji hc=>by
   have hgj:es.getD j dX=f:=hg1 j f hj;have hb:=(hord i hil).2 j hji (by rw[hgj,hgi];exact hc);have hD:∀j' i',(listed.getD j' false=true∨j'=i)→i'∈(jq l []).getD j' []→(listed.getD i' false=true∨i'=i):=
    nC (D:=fun j=>listed.getD j false=true∨j=i) l [] (fun j i' _ hi'=>by simp at hi') (fun j' o' hj' hD p hp=>by
     simp only[qAx,qAu]at hD;rcases hD with hD|rfl
     ·exact .inl (hdown j' o' hj' hD p hp)
     ·rw[hlo]at hj';cases hj';simp only[fK,qBc,qBu]at hp;obtain⟨ed,⟨he1,he2⟩,rfl⟩:=hp;exact .inl (h3 ed (by simpa using he1) he2))
   rcases hD i j (.inr rfl) hb with h|h
   ·exact h
   ·omega
  have hlate:∀j f,es[j]? =some f→i<j→aY e f=true→listed.getD j false=false:=fun j f hj hji hc=>by
   have hjl:j<l.length:=by have:=(qAp.1 hj).1;omega
   have hgj:es.getD j dX=f:=hg1 j f hj;have hb:=(hord j hjl).2 i hji (by rw[hgj,hgi];exact hc);cases hlj:listed.getD j false with
   |false=>rfl
   |true=>have:=hbd j i hlj hb;rw[hi0]at this;cases this
  have hcommon:∀j f,es[j]? =some f→(aY f e=true∨aY e f=true→j≠i→listed.getD j false=decide (j<i)):=fun j f hj=>by
   have hsym:=Lp f e;intro hc hne;rcases qCo hne with hlt'|hgt
   ·rw[hearly j f hj hlt' (hc.elim id hsym.2)];simp[hlt']
   ·rw[hlate j f hj hgt (hc.elim hsym.1 id)];simp;omega
  let D:Nat→Bool:=fun j=>listed.getD j false
  have hagree:Agree (s.wr (aG D 0 es)) (s.wr (aG (fun j=>decide (j<i)&&!(j==q0)) 0 es)) e:=by
   refine⟨by rw[(aK _ s).1,(aK _ s).1],by rw[(aK _ s).2,(aK _ s).2],fun n hn=>?_,fun n hn=>?_⟩
   ·by_cases hnl:n<s.tmps.length
    ·rw[ig _ n s hnl,ig _ n s hnl];congr 1;refine oD es 0 fun j f hj hw=>?_;rw[qAu];by_cases hji:j=i
     ·subst hji;show listed.getD j false=_;rw[hi0];simp
     ·by_cases hjq:j=q0
      ·subst hjq;show listed.getD j false=_;rw[hpf0];simp
      rw[show(j==q0)=false by simpa using hjq,qBK,qBv];refine hcommon j f hj (.inl ?_) hji;cases hc:aY f e with
      |true=>rfl
      |false=>exact((sw hc hw).1 hn).elim
    ·have e1:(s.wr (aG D 0 es)).tmps.getD n .unk=.unk:=by rw[List.getD,qAo (by rw[(aK _ s).1];omega)];rfl
     have e2:(s.wr (aG (fun j=>decide (j<i)&&!(j==q0)) 0 es)).tmps.getD n .unk=.unk:=by rw[List.getD,qAo (by rw[(aK _ s).1];omega)];rfl
     rw[e1,e2]
   ·by_cases hnl:n<s.heap.length
    ·rw[eT _ n s hnl,eT _ n s hnl];congr 1;refine lG es 0 fun j f hj hw=>?_;rw[qAu];by_cases hji:j=i
     ·subst hji;show listed.getD j false=_;rw[hi0];simp
     ·by_cases hjq:j=q0
      ·subst hjq;show listed.getD j false=_;rw[hpf0];simp
      rw[show(j==q0)=false by simpa using hjq,qBK,qBv];refine hcommon j f hj (.inl ?_) hji;cases hc:aY f e with
      |true=>rfl
      |false=>exact((rY hc hw).1 hn).elim
    ·have e1:obj? (s.wr (aG D 0 es)).heap n=.dead:=by rw[obj?,qAo (by rw[(aK _ s).2];omega)];rfl
     have e2:obj? (s.wr (aG (fun j=>decide (j<i)&&!(j==q0)) 0 es)).heap n=.dead:=by rw[obj?,qAo (by rw[(aK _ s).2];omega)];rfl
     rw[e1,e2]
  have hstep:=heff i o e hiq hfree hlo hei _ hagree;have hDi:∀j,(listed.setIfInBounds i true).getD j false=(D j ||decide (j=i)):=fun j=>by
   by_cases hji:i=j
   ·subst hji;simp[Array.getD,hlt]
   ·simp only[qAn,qBE hji,D];simp[qBd hji]
  have hstate:(s.wr (aG D 0 es)).wr e.ws=s.wr (aG (fun j=>(listed.setIfInBounds i true).getD j false) 0 es):=by
   rw[←lK];refine ASt.ext' (by rw[(aK _ s).1,(aK _ s).1]) (by rw[(aK _ s).2,(aK _ s).2]) (fun n hn=>?_) (fun n hn=>?_)
   ·rw[(aK _ s).1]at hn;rw[ig _ n s hn,ig _ n s hn,p8];congr 1;by_cases hw:n∈dw e.ws
    ·rw[Jz (D:=fun j=>(listed.setIfInBounds i true).getD j false) es 0 i e hei (by rw[qAu,hDi];simp) hw (fun j f hj hij hD' hwf=>by
      rw[qAu,hDi]at hD';have hji:j≠i:=by omega
      have hDj:listed.getD j false=true:=by simpa[hji,D]using hD'
      have hc:aY f e=true:=by
       cases hc:aY f e with
       |true=>rfl
       |false=>exact((sw hc hwf).2 hw).elim
      have:=hcommon j f hj (.inl hc) hji;rw[hDj]at this;have hlt':j<i:=by simpa using this.symm
      omega)]
     obtain⟨v,hv⟩:=xY hw;rw[hv];rfl
    ·rw[yJ hw,qCd];refine oD es 0 fun j f hj hwf=>?_;rw[qAu,hDi];have hji:j≠i:=fun e'=>by subst e';rw[hei]at hj;cases hj;exact hw hwf
     simp[hji,D]
   ·rw[(aK _ s).2]at hn;rw[eT _ n s hn,eT _ n s hn,o7];congr 1;by_cases hw:n∈cZ e.ws
    ·rw[Jb (D:=fun j=>(listed.setIfInBounds i true).getD j false) es 0 i e hei (by rw[qAu,hDi];simp) hw (fun j f hj hij hD' hwf=>by
      rw[qAu,hDi]at hD';have hji:j≠i:=by omega
      have hDj:listed.getD j false=true:=by simpa[hji,D]using hD'
      have hc:aY f e=true:=by
       cases hc:aY f e with
       |true=>rfl
       |false=>exact((rY hc hwf).2 hw).elim
      have:=hcommon j f hj (.inl hc) hji;rw[hDj]at this;have hlt':j<i:=by simpa using this.symm
      omega)]
     obtain⟨v,hv⟩:=xZ hw;rw[hv];rfl
    ·rw[xW hw,qCd];refine lG es 0 fun j f hj hwf=>?_;rw[qAu,hDi];have hji:j≠i:=fun e'=>by subst e';rw[hei]at hj;cases hj;exact hw hwf
     simp[hji,D]
  have hnext:∀κ' a' w',Sim C κ' ((s.wr (aG D 0 es)).wr e.ws) a' w'→wpAny P .any l.toArray Q fuel (listed.setIfInBounds i true) a' w':=fun κ' a' w' hs2=>by
   rw[hstate]at hs2;refine ih (listed.setIfInBounds i true) κ' a' w' (by simpa using hsz) (by have:=yO hlt h1;omega) (by rw[qAn,qBE (by omega),←qAn];exact hpf) ?_ hs2;intro j o' hj hlj p hp;rw[hDi]at hlj⊢;by_cases hji:j=i
   ·subst hji;rw[hlo]at hj;cases hj;simp only[fK,qBc,qBu]at hp;obtain⟨ed,⟨he1,he2⟩,rfl⟩:=hp;have:=h3 ed (by simpa using he1) he2;simp only[D,this,qCf]
   ·have hlj':listed.getD j false=true:=by simpa[hji,D]using hlj
    have:=hdown j o' hj hlj' p hp;simp only[D,this,qCf]
  unfold wpOp;rw[h2];dsimp only;rcases hstep with⟨hwd,ht⟩|⟨hwd,he⟩
  ·rw[eD hsim hwd];simp only[if_true];exact .inl (ht C κ a w hsim _ _ hnext)
  ·rw[eD hsim hwd];simp only[qAI,if_false];refine hnext κ _ w ?_;rw[he];exact hsim.ah _ fM
end
section
open Go
section
variable {P:Program}{γ:Type}{b:γ}{θ:Nat→Option ET}{E:List Ent}
theorem aek{te:Nat}{H:List TObj}{vs:List TV}{e:Ent}{A B:Option γ}(he:aF P te e)(h:gdE H vs e A B=some b):A=some b∨B=some b:=by
 unfold gdE at h;split at h
 ·grind
 ·rename_i g _;obtain⟨_,hwf,_⟩:=he;unfold sP at hwf;rw[qAa,qAa]at hwf;obtain⟨⟨_,hwf⟩,_⟩:=hwf;simp at hwf;obtain⟨us,hus,_⟩:=vv e.ps 0 _ [] [] hwf.1 (qAq _) h;obtain⟨x,_,hx⟩:=yU hus
  grind
theorem Qv{te:Nat}{H:List TObj}{k fid:Nat}{vs:List TV}{K:Nat→List Nat→List TWr→TV→Option γ}{X:Nat→List Nat→List TWr→Int→Option γ}:∀{E:List Ent},(∀e∈E,aF P te e)→WO H k fid vs E K X=some b→∃e∈E,e.f=fid∧P5 H k vs e K X=some b
 |[],_,h=>by cases h
 |e::E,hE,h=>by
  have tl:WO H k fid vs E K X=some b→∃e'∈e::E,e'.f=fid∧P5 H k vs e' K X=some b:=fun g=>by
   obtain⟨e',h1,h2,h3⟩:=Qv (fun e he=>hE e (qAk _ he)) g
   grind
  rcases aM h with⟨hc,g⟩|⟨_,g⟩
  ·simp at hc;rcases aek (hE e (by simp)) g with g|g
   ·simp_all
   ·exact tl g
  ·exact tl g
theorem Ov{H:List TObj}{t:List TV}{up:List Nat}{k:Nat}{o:Oper}{K:List Nat→List TWr→Option γ}(hk:Kup t up)(h:bg (TI.of P) θ up k o.dst t H o.op K=some b):
  ∃rd ws ws',aD P k o (aN (aI H t)) (obj? (au H))=some (rd,ws')∧((∀x∈o.op.operands,VF (aN (aI H t) x))→ws'=mM H ws)∧QS t o ws∧(∀x d,o.op=.move x→o.dst=some d→ws=[.sl d (bT t x)])∧K rd ws=some b:=by
 by_cases hm:∃x,o.op=.move x
 ·obtain⟨x,hx⟩:=hm;obtain⟨d,op,ty,ps,aft,gd⟩:=o;subst hx;refine⟨[],bM d (bT t x),ah d (av H (bT t x)),by simp only[aD,aj,aU],fun _=>(dS H d _).symm,Mj rfl _,fun y d' e1 e2=>?_,h⟩;cases e1;subst e2;rfl
 ·obtain⟨rd,ws,ws',h1,h2,h3,h4⟩:=aaY (P:=P) hk h
  grind
theorem UC{s s1:DS}{d:Option Tmp}{v:TV}(h:Ws s (bM d v) s1):bX s1=(bX s).wr (ah d (av s.h v)):=by
 rw[Wi h,dS]
def aef(P:Program)(te:Nat)(b:γ)(px:List Eff→Nat→Eff→DS→Int→DS→Option γ)(ops:List Oper)(l:List Oper)(es:List Eff)(s:DS)(K:List Eff→DS→Option γ):Prop:=
 (∃es' res s',ATr P ops.toArray l es' (bX s) (bX s')∧K (es.reverse++res) s'=some b∧Sms res es'∧Fr s s'∧Inv s'∧s'.h.length=s.h.length)∨
 ∃l1 op l2 es1 res1 ep ep' k' s1 s' c,l=l1++op::l2∧ATr P ops.toArray l1 es1 (bX s) (bX s1)∧Sms res1 es1∧xU P ops.toArray op (tQ te c) (bX s1) ep∧Sm ep' ep∧bX s'=(bX s1).wr ep.ws∧px (res1.reverse++es) k' ep' s1 c s'=some b∧Fr s s'∧Inv s1∧Inv s'∧s'.h.length=s.h.length∧s1.h.length=s.h.length
theorem MQ{te:Nat}(hE:∀e∈E,aF P te e){px:List Eff→Nat→Eff→DS→Int→DS→Option γ}{ops:List Oper}:∀(l:List Oper) (k:Nat) (es:List Eff) (s:DS) (K:List Eff→DS→Option γ),Inv s→zO (TI.of P) θ E px ops l k es s K=some b→aef P te b px ops l es s K
 |[],k,es,s,K,hi,h=>.inl ⟨[],[],s,.nil _,by rw[qAt];exact h,.nil,Fr.refl s,hi,rfl⟩
 |o::l,k,es,s,K,hi,h=>by
  have h:(gdK ops o s (opK (TI.of P) θ E px ops o (fun k es s=>zO (TI.of P) θ E px ops l k es s K) k es) fun s=>pI (bM o.dst (.tup [])) s fun s=>zO (TI.of P) θ E px ops l k (⟨aJ ops.toArray o,[],erase (bM o.dst (.tup []))⟩::es) s K)=some b:=h;have fin:∀(e f:Eff) (k':Nat) (s1:DS),qd P ops.toArray o (bX s) f→bX s1=(bX s).wr f.ws→Sm e f→Fr s s1→Inv s1→s1.h.length=s.h.length→zO (TI.of P) θ E px ops l k' (e::es) s1 K=some b→aef P te b px ops (o::l) es s K:=fun e f k' s1 h1 h2 h3 h4 h5 h6 h7=>by
   rcases MQ hE l k' (e::es) s1 K h5 h7 with⟨es',res,s',g1,g2,g3,g4,g5,g6⟩|⟨l1,op,l2,es1,res1,ep,ep',kx,sx,s',c,g0,g1,g2,g3,ga,gb,g4,g5,gc,g6,g7,gd⟩
   ·rw[h2]at g1;exact .inl ⟨f::es',e::res,s',.cons h1 g1,by simpa using g2,.cons h3 g3,h4.trans g4,g5,g6.trans h6⟩
   ·rw[h2]at g1;exact .inr ⟨o::l1,op,l2,f::es1,e::res1,ep,ep',kx,sx,s',c,by rw[g0];rfl,.cons h1 g1,.cons h3 g2,g3,ga,gb,by simpa using g4,h4.trans g5,gc,g6,g7.trans h6,gd.trans h6⟩
  rcases afp h with⟨hw,h⟩|⟨hw,h⟩
  ·unfold opK at h;split at h
   ·rename_i f args hcall;split at h
    ·rename_i fid caps hf;obtain⟨e,he1,he2,h3⟩:=Qv hE h;clear h;have argsE:args.toList.map (aN (bX s).tmps)++aI s.h caps=aI s.h (args.toList.map (bT s.t)++caps):=by
      rw[kL,kL,qAY,qBr];congr 1;exact qAZ fun x _=>aU _ _ _
     have hlH:(bX s).heap.length=(au s.h).length:=rfl;have hfa:aN (bX s).tmps f=.func fid (aI s.h caps):=by rw[show aN (bX s).tmps f=av s.h (bT s.t f)from aU _ _ _,hf];rfl
     obtain⟨t,ho⟩:=lX hcall;subst he2;rcases acS (hE e he1) h3 with⟨ρ,aargs,Hi,res,Ho,ws,v,c1,c2,c3,c4,c5,c6,c7⟩|⟨nn,ρ,aargs,Hi,Ho,ws,c,c1,c2,c3,c4,c5,c6,c7⟩
     ·obtain⟨s1,w1,h4⟩:=lJ _ _ _ c5;obtain⟨sm,wa,wb⟩:=YW w1;obtain⟨a1,a2⟩:=c7 s sm rfl wa;have heff:=rW (P:=P) (ops:=ops.toArray) (o:=o) (s:=bX s) hw ho hfa (hE e he1).1 (c2 _) c3 (by
       rw[hlH,argsE];exact c4) c1
      refine fin ⟨aJ ops.toArray o,ρ++rng k (aA e.rs),(ρ++rng k (aA e.rs)).map (fun l=>.obj l .dead)++erase (bM o.dst v)⟩ _ _ s1 heff ?_ ⟨rfl,rfl,?_,?_⟩ (PL w1) (FZ w1 hi) (BD w1).2 h4
      ·rw[UC wb,a2];have e2:bX sm=(bX s).wr (fD (ρ++rng k (aA e.rs)) (Ho.map (bD (nm (ρ++rng k (aA e.rs)) (bX s).heap.length)))):=by
        rw[wI];unfold bX;rw[a1,(RS wa fun w hw=>by obtain⟨p,e,_⟩:=c6 w hw;rw[e];simp).2]
       rw[e2,←lK];rfl
      ·rw[Ku,Ku,Bn,Bu,qAC,qAC,(nK (bM o.dst v) sm.h).1,dS,a2];rfl
      ·rw[OI,OI,DV,Dj _ _ (by rw[qAi];exact c3),(nK (bM o.dst v) sm.h).2,dS,a2];rfl
     ·obtain⟨s1,w1,h4⟩:=lJ _ _ _ c5;have a1:=c7 s s1 rfl w1;have hX:=KT (P:=P) (ops:=ops.toArray) (o:=o) (s:=bX s) hw ho hfa (hE e he1).1 (c2 _) c3 (by rw[hlH,argsE];exact c4) c1;have e2:bX s1=(bX s).wr (fD (ρ++rng k nn) (Ho.map (bD (nm (ρ++rng k nn) (bX s).heap.length)))):=by
       rw[wI];unfold bX;rw[a1,(RS w1 fun w hw=>by obtain⟨p,e,_⟩:=c6 w hw;rw[e];simp).2]
      exact .inr ⟨[],o,l,[],[],_,⟨aJ ops.toArray o,ρ++rng k nn,(ρ++rng k nn).map fun l=>.obj l .dead⟩,_,s,s1,c,rfl,.nil _,.nil,hX,⟨rfl,rfl,by show dw _=dw (fD _ _);rw[Bn,Bu],by show cZ _=cZ (fD _ _);rw[DV,Dj _ _ (by rw[qAi];exact c3)]⟩,e2,h4,PL w1,hi,FZ w1 hi,(BD w1).2,rfl⟩
    ·cases h
   ·rename_i hcall;obtain⟨rd,ws,ws',r1,r2,r3,r5,r4⟩:=Ov (P:=P) hi.up h;obtain⟨s1,w1,h⟩:=lJ _ _ _ r4;have hav:=Rt o s1;have es1:bX (nS o s1)=bX s1:=by unfold bX;rw[hav.1,hav.2.1]
    have hfr:=PL w1;refine fin ⟨aJ ops.toArray o,rd,erase ws⟩ ⟨aJ ops.toArray o,rd,mM s.h ws⟩ _ (nS o s1) (Uh hw r1 r2) ?_ ⟨rfl,rfl,(nK ws s.h).1,(nK ws s.h).2⟩ ⟨?_,?_,?_,?_,?_,?_⟩ (N8 (FZ w1 hi) w1 hi r3 r5) (by rw[hav.2.1];exact(BD w1).2) h
    ·rw[es1];exact Wi w1
    ·rw[hav.1];exact hfr.tl
    ·rw[hav.2.1];exact hfr.hl
    ·rw[hav.2.2.1,hav.1];exact hfr.d
    ·rw[hav.2.2.2.1];exact hfr.om
    ·rw[hav.2.2.2.2];exact hfr.oo
    ·rw[hav.2.2.2.1,hav.2.1];exact hfr.o
  ·obtain⟨s1,w1,h⟩:=lJ _ _ _ h;have hav:bX s1=(bX s).wr (ah o.dst (.tup [])):=UC w1;exact fin ⟨aJ ops.toArray o,[],erase (bM o.dst (.tup []))⟩ _ _ s1 (rT hw) hav ⟨rfl,rfl,by rw[(nK (bM o.dst (.tup [])) s.h).1,dS];rfl,by rw[(nK (bM o.dst (.tup [])) s.h).2,dS];rfl⟩ (PL w1) (FZ w1 hi) (BD w1).2 h
theorem oF{D D':Nat→Bool}:∀(es:List Eff) (k k':Nat),(∀i,i<es.length→D (k+i)=D' (k'+i))→aG D k es=aG D' k' es
 |[],_,_,_=>rfl
 |e::es,k,k',h=>by
  have h0:=h 0 (by simp);simp only[aG];rw[show D k=D' k' from h0,oF es (k+1) (k'+1) fun i hi=>by have:=h (i+1) (by simpa using hi);rwa[show k+(i+1)=k+1+i by omega,show k'+(i+1)=k'+1+i by omega]at this]
theorem AP(D:Nat→Bool):∀(a b:List Eff) (k:Nat),aG D k (a++b)=aG D k a++aG D (k+a.length) b
 |[],b,k=>rfl
 |e::a,b,k=>by
  simp only[qAH,aG,AP D a b (k+1),qAr,qAl];rw[show k+1+a.length=k+(a.length+1) by omega]
theorem yV{D:Nat→Bool}:∀(es:List Eff) (k:Nat),(∀i,i<es.length→D (k+i)=false)→aG D k es=[]
 |[],_,_=>rfl
 |e::es,k,h=>by
  simp only[aG];rw[show D k=false from h 0 (by simp),yV es (k+1) fun i hi=>by have:=h (i+1) (by simpa using hi);rwa[show k+(i+1)=k+1+i by omega]at this];rfl
theorem Db{ops:List Oper}{bl:Nat→Bool}:∀(l:List Oper) (q k:Nat) (es:List Eff) (s:DS) (K:List Eff→Option γ),Inv s→Ch (TI.of P) θ ops bl l q k es s K=some b→
  ∃late res,K (es.reverse++res)=some b∧Sms res late∧late.length=l.length∧∀i o e,l[i]? =some o→late[i]? =some e→bl (q+i)=false→qd P ops.toArray o ((bX s).wr (aG (fun j=>decide (j<i)) 0 late)) e
 |[],q,k,es,s,K,_,h=>⟨[],[],by rw[qAt];exact h,.nil,rfl,fun i o e h=>by simp at h⟩
 |o::l,q,k,es,s,K,hi,h=>by
  have h:(bif bl q then Ch (TI.of P) θ ops bl l (q+1) k (dX::es) s K else match o.guard,fT o.op with
   |none,none=>bg (TI.of P) θ s.up k o.dst s.t s.h o.op fun rd ws=>pI ws s fun s1=>Ch (TI.of P) θ ops bl l (q+1) (k+dJ o.op) (⟨aJ ops.toArray o,rd,erase ws⟩::es) (nS o s1) K
   |_,_=>none)=some b:=h
  have shift:∀(f:Eff) (late:List Eff) (s0:ASt) (i:Nat),(s0.wr f.ws).wr (aG (fun j=>decide (j<i)) 0 late)=s0.wr (aG (fun j=>decide (j<i+1)) 0 (f::late)):=fun f late s0 i=>by
   rw[←lK];congr 1;simp only[aG,Nat.zero_lt_succ,decide_true,if_true];congr 1;exact oF late 0 1 fun j _=>by simp;omega
  rcases aM h with⟨hb,h⟩|⟨hb,h⟩
  ·obtain⟨late,res,h1,h2,h3,h4⟩:=Db l (q+1) k (dX::es) s K hi h;refine⟨dX::late,dX::res,by simpa using h1,.cons ⟨rfl,rfl,rfl,rfl⟩ h2,by simp[h3],fun i o' e g1 g2 g3=>?_⟩;cases i with
   |zero=>rw[qAJ,hb]at g3;cases g3
   |succ i=>
    have:=h4 i o' e (by simpa using g1) (by simpa using g2) (by rw[←g3];congr 1;omega);rw[←shift];exact this
  ·split at h
   ·rename_i hg hcall;obtain⟨rd,ws,ws',r1,r2,r3,r5,r4⟩:=Ov (P:=P) hi.up h;obtain⟨s1,w1,h⟩:=lJ _ _ _ r4;have hav:=Rt o s1;have es1:bX (nS o s1)=bX s1:=by unfold bX;rw[hav.1,hav.2.1]
    have hw:bq ops.toArray (bX s).tmps o=some true:=by unfold bq;rw[hg]
    obtain⟨late,res,h1,h2,h3,h4⟩:=Db l (q+1) _ _ (nS o s1) K (N8 (FZ w1 hi) w1 hi r3 r5) h;refine⟨⟨aJ ops.toArray o,rd,mM s.h ws⟩::late,⟨aJ ops.toArray o,rd,erase ws⟩::res,by simpa using h1,.cons ⟨rfl,rfl,(nK ws s.h).1,(nK ws s.h).2⟩ h2,by simp[h3],fun i o' e g1 g2 g3=>?_⟩;cases i with
    |zero=>
     simp only[qAE,Option.some.injEq]at g1 g2;subst g1 g2;rw[yV _ _ (by simp)];exact Uh hw r1 r2
    |succ i=>
     have:=h4 i o' e (by simpa using g1) (by simpa using g2) (by rw[←g3];congr 1;omega);rw[es1,Wi w1]at this;rw[←shift];exact this
   ·cases h
end
end
section
open Go
theorem J9{n:Nat}{l q:Nat}:∀{es:List Ed} {ss os:List Nat},bQ n ss os es=true→U3 es l q=true→∃hd,Ed.o l hd∈es∧∀is,hd=.bx is→q∈is.flatMap fun p=>rng (p.1+1) (mh p.2)
 |[],_,_,_,h=>by cases h
 | .r _ _::es,ss,os,hw,h=>by
  simp only[bQ,qAa]at hw;obtain⟨hd,h1,h2⟩:=J9 (es:=es) hw.2 h
  grind
 | .w _::es,ss,os,hw,h=>by
  obtain⟨hd,h1,h2⟩:=J9 (es:=es) (by simpa only[bQ]using hw) h
  grind
 | .o l' hd::es,ss,os,hw,h=>by
  simp only[bQ,qAa]at hw;simp only[U3,qBg,qAa]at h;rcases h with⟨h1,h2⟩|h
  ·have e:=qAc h1;subst e;refine⟨hd,by simp,fun is e=>?_⟩;subst e;exact mem_iff.1 h2
  ·obtain⟨hd',h1,h2⟩:=J9 hw.2.2 h
   grind
theorem Aq{n l:Nat}{hd hd':HO}:∀{es:List Ed} {ss os:List Nat},bQ n ss os es=true→Ed.o l hd∈es→Ed.o l hd'∈es→hd=hd'
 |[],_,_,_,h,_=>by cases h
 | .r _ _::es,ss,os,hw,h,h'=>by
  simp only[bQ,qAa]at hw;exact Aq hw.2 (by simpa using h) (by simpa using h')
 | .w _::es,ss,os,hw,h,h'=>Aq (es:=es) (by simpa only[bQ]using hw) (by simpa using h) (by simpa using h')
 | .o l0 h0::es,ss,os,hw,h,h'=>by
  simp only[bQ,qAa]at hw;rcases qAh.1 h with e|g
  ·injection e with e1 e2;subst e1;subst e2;rcases qAh.1 h' with e|g'
   ·grind
   ·exact(tC hw.2.2 (qBp ..) g').elim
  ·rcases qAh.1 h' with e|g'
   ·injection e with e1 e2;subst e1;exact(tC hw.2.2 (qBp ..) g).elim
   ·exact Aq hw.2.2 g g'
theorem UD:∀{a l:List Nat},Xc a l=true→∀x∈a,x∈l
 |[],_,_,x,h=>by cases h
 |y::a,l,h,x,hx=>by
  simp only[Xc,qAa]at h;rcases qAh.1 hx with rfl|hx
  ·exact mem_iff.1 h.1
  ·exact UD h.2 x hx
theorem Um{n:Nat}{o:List (Nat×Nat)}{es:List Ed}(h:RH n o es=true){l q:Nat}(hl:l<n)(hm:(l,q)∈o):U3 es l q=true:=by
 have:=qAG.1 h _ hm;simp only[qBg]at this;rcases this with h|h
 ·have:n≤l:=qAf h;omega
 ·exact h
theorem uF.mono{a c:TObj}{f g:Nat→Bool}(h:uF a c f)(hf:∀q,g q=false→f q=false):uF a c g:=by
 rcases h with e|⟨x,y,e1,e2,h1,h2⟩
 ·exact .inl e
 ·exact .inr ⟨x,y,e1,e2,h1,fun q hq=>h2 q (hf q hq)⟩
theorem Nj{n:Nat}{h0 h':List TObj}{o:List (Nat×Nat)}{eds:List Ed}(hw:bQ n [] [] eds=true)(hs:RH n o eds=true)
  (hfr:∀l,l<n→(l,0)∉o→uF (nth .dead h0 l) (nth .dead h' l) fun q=>decide ((l,q+1)∈o)):
  ∀l,l<n→((∀hd,Ed.o l hd∉eds)→uF (nth .dead h0 l) (nth .dead h' l) fun _=>false)∧∀is,Ed.o l (.bx is)∈eds→uF (nth .dead h0 l) (nth .dead h' l) (jN is):=by
 intro l hl;refine⟨fun hno=>?_,fun is hm=>?_⟩
 ·have no:∀q,(l,q)∉o:=fun q hq=>by
   obtain⟨hd,h1,_⟩:=J9 hw (Um hs hl hq)
   grind
  grind
 ·have cvq:∀q,(l,q)∈o→q∈is.flatMap fun p=>rng (p.1+1) (mh p.2):=fun q hq=>by
   obtain⟨hd,h1,h2⟩:=J9 hw (Um hs hl hq);exact h2 is (Aq hw h1 hm)
  have no0:(l,0)∉o:=fun h=>by
   have:=cvq 0 h;rw[qCR]at this;obtain⟨p,_,hp⟩:=this;rw[rX]at hp;omega
  refine(hfr l hl no0).mono fun q hq=>decide_eq_false fun h=>?_;unfold jN at hq;rw[og]at hq
  grind
noncomputable def sZ:List Nat→List TV→List TV
 |[],t=>t
 |n::l,t=>sZ l (t.set n .unk)
theorem UW{γ:Type}:∀(l:List Nat) (t:List TV) (K:List TV→Option γ),Xg l t K=K (sZ l t)
 |[],_,_=>rfl
 |n::l,t,K=>by
  have h:Xg (n::l) t K=nU t n .unk fun t=>Xg l t K:=rfl;rw[h,iy];exact UW l _ K
theorem IQ:∀(l:List Nat) (t:List TV),(sZ l t).length=t.length
 |[],_=>rfl
 |n::l,t=>by rw[sZ,IQ l,qAD]
theorem Jm:∀(l:List Nat) (t:List TV) (k:Nat),nth .unk (sZ l t) k=if k∈l then .unk else nth .unk t k
 |[],_,_=>by simp[sZ]
 |n::l,t,k=>by
  rw[sZ,Jm l];by_cases h1:k∈l
  ·grind
  ·rw[if_neg h1];by_cases h2:n=k
   ·subst h2;rw[if_pos (qBp ..)];by_cases hl:n<t.length
    ·exact aW hl
    ·exact gD (by rw[qAD];omega)
   ·rw[aL h2,if_neg (by simp;exact⟨fun e=>h2 e.symm,h1⟩)]
theorem Ut{n:Nat}:∀(l:List Nat) (t:List TV),dM n t=true→dM n (sZ l t)=true
 |[],_,h=>h
 |k::l,t,h=>by
  refine Ut l _ ?_
  induction t generalizing k with
  |nil=>exact h
  |cons v t ih=>
   simp only[dM,qAa]at h;cases k with
   |zero=>simp;exact h.2
   |succ k=>simp only[List.set_cons_succ,dM,qAa];exact⟨h.1,ih k h.2⟩
noncomputable def jF(a:List Nat)(eds:List Ed)(s:DS)(us:List U):DS:=
 ⟨(bE aT eds us (sZ (a++fq eds) s.t) s.h).1,(bE aT eds us (sZ (a++fq eds) s.t) s.h).2,(a++fq eds)++s.d,Fe (bE aT eds us (sZ (a++fq eds) s.t) s.h).2 eds++s.o,s.up.filter fun i=>!(mem (a++fq eds) i),[],[],s.oo⟩
theorem G6{γ:Type}(a:List Nat)(eds:List Ed)(s:DS)(us:List U)(K:DS→Option γ):uQ a eds s us K=K (jF a eds s us):=by
 unfold uQ jF;simp only[UW,zK]
structure St(m:Nat)(h0:List TObj)(s:DS):Prop where
 inv:Inv s
 len:m≤s.h.length
 ent:∀l,l<m→(l,0)∉s.o++s.oo→uF (nth .dead h0 l) (nth .dead s.h l) fun q=>decide ((l,q+1)∈s.o++s.oo)
theorem St.step{m:Nat}{h0:List TObj}{s s':DS}(h:St m h0 s)(hf:Fr s s')(hi:Inv s'):St m h0 s':=by
 refine⟨hi,qAW h.len hf.hl,fun l hl hno=>?_⟩;rw[hf.oo]at hno⊢;simp at hno;refine uF.trans (h.ent l hl ?_) ((hf.o l (qAF hl h.len) hno.1).mono (g:=fun q=>decide ((l,q+1)∈s'.o++s.oo)) fun q hq=>?_) fun q hq=>?_
 ·simp;exact⟨fun hm=>hno.1 (hf.om _ hm),hno.2⟩
 ·grind
 ·simp at hq⊢;exact⟨fun hm=>hq.1 (hf.om _ hm),hq.2⟩
end
section
open Go
theorem UK(es:List Ed)(x:eG (aR es)):(bR (aR es) x).map U.t=aR es++[]:=by rw[vw,qAt]
theorem l7{H:List TObj}{l q:Nat}:∀{es:List Ed} {hd:HO},Ed.o l hd∈es→(match hd with
  | .bx is=>match nth .dead H l with
   | .box _=>q∈is.flatMap fun p=>rng (p.1+1) (mh p.2)
   |_=>q=0
  |_=>q=0)→(l,q)∈Fe H es
 |[],_,h,_=>by cases h
 | .r _ _::es,hd,h,k=>l7 (es:=es) (by simpa using h) k
 | .w _::es,hd,h,k=>l7 (es:=es) (by simpa using h) k
 | .o l' h'::es,hd,h,k=>by
  simp only[Fe,qAy];rcases qAh.1 h with e|h
  ·grind
  ·exact .inr (l7 h k)
theorem GA{k:Nat}{sk:Sk}:∀{es:List Ed},Ed.r k sk∈es→k∈fq es
 |[],h=>by cases h
 | .r k' s'::es,h=>by
  simp only[fq,qAh];rcases qAh.1 h with e|h
  ·grind
  ·exact .inr (GA h)
 | .w _::es,h=>GA (es:=es) (by simpa using h)
 | .o _ _::es,h=>GA (es:=es) (by simpa using h)
section
variable {s:DS}{a:List Nat}{eds:List Ed}{m:Nat}{h0:List TObj}
theorem Oe(hw:bQ s.h.length [] [] eds=true)(x:eG (aR eds)){k:Nat}(hk:k∉a++fq eds):nth .unk (jF a eds s (bR _ x)).t k=nth .unk s.t k:=by
 have B:=kE eds (bR _ x) s.h.length [] [] (sZ (a++fq eds) s.t) s.h [] (UK eds x) hw (qAq _) rfl;rcases B.slot k with e|⟨sk,us',e1,_⟩
 ·rw[jF,e,Jm,if_neg hk]
 ·exact(hk (qBo _ (GA e1))).elim
theorem yR(hw:bQ s.h.length [] [] eds=true)(x:eG (aR eds)):Fr s (jF a eds s (bR _ x)):=by
 have B:=kE eds (bR _ x) s.h.length [] [] (sZ (a++fq eds) s.t) s.h [] (UK eds x) hw (qAq _) rfl;refine⟨by rw[jF,B.tl,IQ],by rw[jF,B.hl];omega,fun k hk=>?_,fun p hp=>qBo _ hp,rfl,fun l hl hno=>?_⟩
 ·have hk':k∉(a++fq eds)++s.d:=hk;rw[qAy,not_or]at hk';exact⟨hk'.2,Oe hw x hk'.1⟩
 ·let J:=jF a eds s (bR _ x)
  have hno':(l,0)∉Fe J.h eds++s.o:=hno;rw[qAy,not_or]at hno';by_cases hed:∃hd,Ed.o l hd∈eds
  ·obtain⟨hd,hed⟩:=hed;obtain⟨us',rest,ht,he⟩:=B.obj l hd hed;have he:nth .dead J.h l=(aS aT (nth .dead s.h l) hd us').1:=he;cases hd with
   |bx is=>
    cases hJ:nth .dead J.h l with
    |box cf=>
     rw[hJ]at he;cases hs:nth .dead s.h l with
     |box cs0=>
      rw[hs]at he;simp only[aS]at he;cases hq:(fE aT is (some cs0) us').1 with
      |none=>rw[hq]at he;cases he
      |some cf'=>
       rw[hq]at he;cases he;obtain⟨g1,g2⟩:=(yB is (some cs0) us' rest ht).2 cs0 cf rfl hq;refine .inr ⟨cs0,cf,rfl,rfl,g1,fun q hq=>g2 q ?_⟩;rw[decide_eq_false_iff_not]at hq;have hq:(l,q+1)∉Fe J.h eds++s.o:=hq;rw[qAy,not_or]at hq;unfold jN;rw[og];exact fun hin=>hq.1 (l7 hed (by simp only[hJ];exact hin))
     |_=>rw[hs]at he;simp only[aS]at he;cases he
    |_=>exact(hno'.1 (l7 hed (by simp only[hJ]))).elim
   |dead=>exact(hno'.1 (l7 hed rfl)).elim
   |box cs=>exact(hno'.1 (l7 hed rfl)).elim
   |own e=>exact(hno'.1 (l7 hed rfl)).elim
   |mp e=>exact(hno'.1 (l7 hed rfl)).elim
   |arr e=>exact(hno'.1 (l7 hed rfl)).elim
  ·exact .inl (B.keepO l hl fun hd h=>hed ⟨hd,h⟩)
theorem I8(hw:bQ s.h.length [] [] eds=true)(x:eG (aR eds))(hi:Inv s):Inv (jF a eds s (bR _ x)):=by
 refine⟨fun i k c h1 h2=>?_,fun d i j h1=>(by cases h1),fun d x h1=>(by cases h1)⟩;obtain⟨g1,g2⟩:=mem_filter h1;have hn:i∉a++fq eds:=og.1 (by simpa using g2);rw[Oe hw x hn]at h2;exact hi.up i k c g1 h2
theorem BA{γ:Type}{b:γ}{s':DS}{K:eG (aR eds)→Option γ}(hm:m≤s.h.length)(hT:dM s.h.length s.t=true)(hH:tY s.h.length s.h=true)(hw:bQ s.h.length [] [] eds=true)(hfr:Fr (fresh s) s')
  (h:um a eds s s' (fun us=>ou (aR eds) us K)=some b):∃x,K x=some b∧Le m (aI s'.h s'.t) (au s'.h) (aI (jF a eds s (bR _ x)).h (jF a eds s (bR _ x)).t) (au (jF a eds s (bR _ x)).h):=by
 unfold um at h;rw[DK]at h;obtain⟨hc,h⟩:=(aM h).resolve_right fun h=>by cases h.2
 simp at hc;obtain⟨us,h1,h2⟩:=E9 (m:=m) (T0:=sZ (a++fq eds) s.t) rfl hm (Ut _ _ hT) hH hw (by rw[IQ];exact hfr.tl.symm) hfr.hl (fun k hk=>by
  rw[Jm];by_cases hk2:k∈a++fq eds
  ·grind
  ·rw[if_neg hk2];exact .inr (hfr.d k fun hd=>hk2 (UD hc.1 k hd)).2.symm) (Nj hw hc.2 hfr.o) h
 obtain⟨x,rfl,h3⟩:=yU h1;exact⟨x,h3,(h2 _ _ rfl).2.2⟩
theorem AJ{γ:Type}{b:γ}{K:Option γ}(h:ru eds s K=some b):(dM s.h.length s.t=true∧tY s.h.length s.h=true∧bQ s.h.length [] [] eds=true)∧K=some b:=by
 unfold ru at h;rw[DK]at h
 grind
end
theorem AW.vf{P:Program}{m:Nat}{c:Code}{Q:QT}{s:DS}(h:(∀n,VF (av s.h (nth .unk s.t n)))→AW P m c Q (aI s.h s.t) (au s.h)):AW P m c Q (aI s.h s.t) (au s.h):=fun C κ a w hk hs=>
 h (fun n=>by
  have:=(hs.ev (.tmp n)).vf;rw[show aN (ASt.mk (aI s.h s.t) (au s.h)).tmps (.tmp n)=av s.h (nth .unk s.t n)from aU _ _ _]at this;exact this) C κ a w hk hs
theorem aci{k:IntKind}{n:Int}(h1:k.min≤n)(h2:n≤k.max):k.wrap n=n:=by
 cases k
 ·exact IntWalk.i8_in n ⟨h1,h2⟩
 ·exact IntWalk.i16_in n ⟨h1,h2⟩
 ·exact IntWalk.i32_in n ⟨h1,h2⟩
 ·exact IntWalk.i64_in n ⟨h1,h2⟩
 ·exact IntWalk.u8_in n ⟨h1,h2⟩
 ·exact IntWalk.u16_in n ⟨h1,h2⟩
 ·exact IntWalk.u32_in n ⟨h1,h2⟩
 ·exact IntWalk.u64_in n ⟨h1,h2⟩
theorem Cc{α:Type}{f:α→Bool}{g:α→Nat}{n:Nat}:∀{l:List α},n∈sel f g l→∃x∈l,f x=true∧g x=n
 |[],h=>by cases h
 |x::l,h=>by
  simp only[sel]at h;cases hf:f x with
  |true=>
   rw[hf,cond_true]at h;rcases qAh.1 h with e|h
   ·grind
   ·obtain⟨y,h1,h2⟩:=Cc h;exact⟨y,qAk _ h1,h2⟩
  |false=>
   rw[hf,cond_false]at h;obtain⟨y,h1,h2⟩:=Cc h;exact⟨y,qAk _ h1,h2⟩
theorem OC(x:Operand)(s:DS):(wY x s).t=s.t∧(wY x s).h=s.h∧(wY x s).d=s.d∧(wY x s).o=s.o∧(wY x s).oo=s.oo∧(wY x s).rl=s.rl∧(wY x s).cp=s.cp:=by cases x<;>exact⟨rfl,rfl,rfl,rfl,rfl,rfl,rfl⟩
theorem Z6{x:Operand}{s:DS}(hi:Inv s)(hx:bT s.t x=.lf .b true)(hv:∀n,VF (av s.h (nth .unk s.t n))):Inv (wY x s):=by
 obtain⟨e1,_,_,_,_,e2,e3⟩:=OC x s;refine⟨?_,by rw[e1,e2];exact hi.rl,by rw[e1,e3];exact hi.cp⟩;cases x with
 |tmp d=>
  have hd:nth .unk s.t d=.lf .b true:=hx
  let Ok:Nat→Prop:=fun i=>∀k a,iT (nth .unk s.t i)=some (k,a)→k.wrap (a+1)=a+1
  have g1:∀i∈sel (fun p:Nat×Nat×Nat=>Nat.beq p.1 d) (fun p=>p.2.1) s.rl,Ok i:=fun i hm k a hk=>by
   obtain⟨⟨d',i',j⟩,h1,h2,h3⟩:=Cc hm;have h2:d'=d:=qAc h2;subst h2;subst h3;obtain⟨c,h4,h5⟩:=hi.rl d' i' j h1 k a hk;have h6:=h5 true hd;have hlt:a<c:=of_decide_eq_true h6.symm;have v1:jW k a:=by have:=hv i';rw[YX hk]at this;exact this
   have v2:jW k c:=by have:=hv j;rw[YX h4]at this;exact this
   exact aci (by have:=v1.1;omega) (by have:=v2.2;omega)
  have step:∀u:List Nat,(∀i∈u,Ok i)→(∀i∈sel (fun p:Nat×Nat=>mem u p.1) (fun p=>p.2) s.cp++u,Ok i)∧∀i∈sel (fun p:Nat×Nat=>mem u p.2) (fun p=>p.1) s.cp++u,Ok i:=fun u hu=>by
   refine⟨fun i hm=>?_,fun i hm=>?_⟩
   ·rcases qAy.1 hm with hm|hm
    ·obtain⟨⟨d',x'⟩,h1,h2,h3⟩:=Cc hm;subst h3;intro k a hk;rw[←hi.cp d' x' h1]at hk;exact hu d' (mem_iff.1 h2) k a hk
    grind
   ·rcases qAy.1 hm with hm|hm
    ·obtain⟨⟨d',x'⟩,h1,h2,h3⟩:=Cc hm;subst h3;intro k a hk;rw[hi.cp d' x' h1]at hk;exact hu x' (mem_iff.1 h2) k a hk
    grind
  intro i k a h1 h2;simp only[wY]at h1;rw[mem_iff,qAy]at h1;rcases h1 with h1|h1
  ·exact(step _ (step _ g1).1).2 i h1 k a h2
  ·exact hi.up i k a (mem_iff.2 h1) h2
 |_=>exact hi.up
theorem acP{s s1 s':DS}(h:Fr s1 s')(e1:s1.t=s.t)(e2:s1.h=s.h)(e3:s1.d=s.d)(e4:s1.o=s.o)(e5:s1.oo=s.oo):Fr s s':=
 ⟨by rw[←e1];exact h.tl,by rw[←e2];exact h.hl,by rw[←e3,←e1];exact h.d,by rw[←e4];exact h.om,by rw[←e5];exact h.oo,by rw[←e2];exact h.o⟩
theorem J2{γ:Type}{b:γ}:∀(l:List TObj) (n:Nat) (K:List TObj→Option γ),KQ l n K=some b→∃h c,l=h++l9 c∧(n≤l.length→n≤h.length)∧K h=some b
 |[],n,K,h=>⟨[],0,rfl,id,h⟩
 |o::l,0,K,h=>by
  have h:(KQ l 0 fun r=>match r with
   |[]=>bif fA o then K []else K [o]
   |x::xs=>K (o::x::xs))=some b:=h
  obtain⟨h1,c,g1,_,g3⟩:=J2 l 0 _ h;cases h1 with
  |nil=>
   rcases aM g3 with⟨e,g3⟩|⟨_,g3⟩
   ·have e:o=.res:=by unfold fA at e;split at e;rfl;cases e
    exact⟨[],c+1,by rw[e,g1];rfl,fun _=>qAN _,g3⟩
   grind
  |cons x xs=>exact⟨o::x::xs,c,by rw[g1];rfl,fun _=>qAN _,g3⟩
 |o::l,n+1,K,h=>by
  obtain⟨h1,c,g1,g2,g3⟩:=J2 l n _ h
  grind
theorem yY:∀c,l9 c=List.replicate c .res
 |0=>rfl
 |c+1=>by simp only[l9,yY c,qCH]
theorem Y9(H:List TObj)(c l:Nat):Lk H (H++l9 c) l:=by
 unfold Lk;by_cases hl:l<H.length
 ·rw[gF hl];exact⟨rfl,fun _=>rfl⟩
 ·rw[gD (by omega:H.length≤l)];have:nth .dead (H++l9 c) l=.dead∨nth .dead (H++l9 c) l=.res:=by
   rw[dF,List.getD,qAg (by omega),yY,qBi]
   grind
  rcases this with e|e<;>rw[e]<;>exact⟨rfl,fun _=>rfl⟩
theorem Gw(H:List TObj)(c:Nat)(t:List TV):aI (H++l9 c) t=aI H t:=(Cy t fun l _=>Y9 H c l).symm
theorem zU(H:List TObj)(c:Nat):au (H++l9 c)=au H++List.replicate c .res:=by
 unfold au;rw[qAY,yY,qCa];congr 1;refine qAZ fun o _=>?_;rw[←yY];exact(Q7 o fun cs _ l _=>Y9 H c l).symm
theorem U4{m:Nat}(t:List AV)(H:List AObj)(c:Nat):Le m t (H++List.replicate c .res) t H:=by
 intro C κ a w _ hs;have hkl:κ.length=(H++List.replicate c AObj.res).length:=hs.klen;have hat:∀l,at? (κ.take H.length) l=at? κ l:=fun l=>by
  unfold at?;by_cases hl:l<H.length
  ·grind
  ·rw[qBf,if_neg hl];by_cases h2:l<κ.length
   ·have hr:obj? (H++List.replicate c AObj.res) l=.res:=by
     simp only[qAj,qAS]at hkl;unfold obj?
     grind
    have:=hs.resv l hr;unfold at? at this
    grind
   grind
 have hob:∀l b,at? κ l=some b→obj? H l=obj? (H++List.replicate c AObj.res) l:=fun l b hb=>by
  unfold obj?;by_cases hl:l<H.length
  ·grind
  ·exfalso;rw[←hat l]at hb;unfold at? at hb
   grind
 refine⟨κ.take H.length,hs.step (H':=H) (Evo.refl _ _) (fun l b hb=>by rw[hat];exact hb) (by rw[qAw,hkl];simp only[qAj];omega) ?_ ?_ ?_ ?_ ?_ (fun _ _=>rfl) rfl rfl rfl⟩
 ·rintro b o (hb|⟨l,h1,h2⟩) _
  ·exact .inl hb
  ·rw[hat]at h1;rw[hob l b h1]at h2;exact .inr ⟨l,h1,h2⟩
 ·grind
 ·intro l l' b h1 h2 h3 h4;rw[hat]at h1 h2;rw[hob l b h1]at h3;rw[hob l' b h2]at h4;exact hs.apart l l' b h1 h2 h3 h4
 ·intro l b h1;rw[hat]at h1;exact hs.bound l b h1
 ·intro l h1;cases hb:at? (κ.take H.length) l with
  |none=>rfl
  |some b=>
   rw[hat]at hb;rw[hob l b hb]at h1;have:=hs.resv l h1;rw[hb]at this;cases this
end
end Abs
end Go.Proofs.YtfmdmcenjfkbhaaGreatDoor
