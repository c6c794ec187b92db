/-
  A call by an entry does what the entry says. Conditions: the entry's contract.
-/
import Derived.IntWalk
import Derived.Test.YtneeginmfjageaaGreatCD17ox323ea3
set_option linter.all false
namespace Go.Proofs.YtneeginmfjageaaGreat
namespace Abs
section
open Go
mutual
theorem afF{A B:Nat→Bool}(h:∀l,A l=true→B l=true):∀v,Iq A v=true→Iq B v=true
 | .ptr l _,k=>h l k
 | .mapr l,k=>h l k
 | .own l,k=>h l k
 | .psl l _ _,k=>h l k
 | .ap l _ _ _,k=>h l k
 | .eptr cs,k=>KN h cs k
 | .agg cs,k=>KN h cs k
 | .tup cs,k=>KN h cs k
 | .func _ cs,k=>KN h cs k
 | .unk,_=>rfl| .nilp,_=>rfl| .nilF,_=>rfl| .nils,_=>rfl| .lf _ _,_=>rfl| .nat _,_=>rfl
theorem KN{A B:Nat→Bool}(h:∀l,A l=true→B l=true):∀vs,nP A vs=true→nP B vs=true
 |[],_=>rfl
 |v::vs,k=>by
  simp only[nP,qAb]at k⊢;exact⟨afF h v k.1,KN h vs k.2⟩
end
theorem auu g n:(dn n).map (fu g)=dn n:=by unfold dn;rw[qDg];rfl
theorem abY n k:nth .unk (dn n) k=.unk:=by unfold dn;rw[iK,List.getD,qBU];split<;>rfl
theorem aA9 g r:res1 (r.map (fu g))=fu g (res1 r):=by
 match r with|[]=>rfl|[v]=>rfl|v::w::r=>simp only[qAz,res1,fu,F8]
theorem aDz{A r}(h:∀v∈r,Iq A v=true):Iq A (res1 r)=true:=by
 match r with|[]=>rfl|[v]=>exact h v (by simp)|v::w::r=>exact aqO.2 h
section
variable {γ:Type}{b:γ}{P:Program}
theorem aBV{H}{k}{vs}{ps}{na} rs nr z {x}{us}{L0}{ρ}{Q:List TWr->TV->Option γ}
  (edps:eT 0 [] [] ps=true) (edrs:eT (aC ps) [] [] rs=true) (psok:Pq (aC ps) rs 0 ps=true) (rsok:Ad (aC ps+aC rs) (killed rs) (kinds ps) rs=true) (hna:vs.length=na) (hρl:ρ.length=aC ps) (hnd:ρ.Nodup)
  (hres:∀l∈rng k (aC rs),lM (nth .dead H l)=true) (hsome:∀j,j<aC ps->L0 j=ρ[j]?) (L0ge:∀j,aC ps<=j->L0 j=none) (hx:eD (bF ps) x=us) {T1:List TV} {h1:List TObj} (q1:dJ bI ps us (dn na) []=(T1,h1)) (la:LaidD H L0 1 0 vs 0 ps (dn na) [] T1 h1)
  (hus:(PW (kL (ρ++rng k (aC rs))) ps us (dn na) [] λ_ h=>PW (kL (ρ++rng k (aC rs))) rs (eD (bF rs) z) (dn nr) h λr h'=>IK ρ h' k (aC ps) rs λws=>Q ws (res1 r))=some b):
  ∃r h2 ws v,dJ bI rs (eD (bF rs) z) (dn nr) h1=(r,h2)/\(∀tm,Passes ⟨tm,aA H⟩ ρ (rng k (aC rs)) (aA h1))/\(aA h2).length=(ρ++rng k (aC rs)).length/\
   SWs (aT H vs) ((aT h1 T1).map (ren (nm (ρ++rng k (aC rs)) (aA H).length)))/\Q ws v=some b/\(∀w∈ws,∃p,tgt w=some p/\p∈ρ++rng k (aC rs))/\
   ∀s s',s.h=H->Ws s ws s'->aA s'.h=nK (aA H) (ρ++rng k (aC rs)) ((aA h2).map (dR (nm (ρ++rng k (aC rs)) (aA H).length)))/\av s'.h v=ren (nm (ρ++rng k (aC rs)) (aA H).length) (av h2 (res1 r)):=by
 rw[PK]at hus;have ren1:=PG (kL (ρ++rng k (aC rs))) ps us (dn na) [];rw[auu,qCT,q1]at ren1;rw[ren1]at hus;simp only at hus;rw[PK]at hus;generalize hq2:dJ bI rs (eD (bF rs) z) (dn nr) h1=q2 at *;obtain⟨r,h2⟩:=q2;have ren2:=PG (kL (ρ++rng k (aC rs))) rs (eD (bF rs) z) (dn nr) h1;rw[auu,hq2]at ren2;rw[ren2]at hus;simp only at hus;have h1l:h1.length=aC ps:=by rw[la.hl,qAK]
 have bs:=sD rs (eD (bF rs) z) (aC ps) [] [] (dn nr) h1 [] (by rw[JR,qAt]) edrs (qAd _) h1l;rw[hq2]at bs;simp only at bs
 let L:=ρ++rng k (aC rs)
 let g:=kL L
 let G:=nm L (aA H).length
 have Lold:∀j,j<aC ps->∃l,ρ[j]? =some l/\L[j]? =some l/\L0 j=some l:=λj m=>by have hl:ρ[j]? =some (ρ[j]'(by omega)):=qAc _;exact⟨_,hl,by simp only[L];rw[qAi (by omega)];exact hl,by rw[hsome j m];exact hl⟩
 have Lnew:∀i,i<aC rs->L[aC ps+i]? =some (k+i):=λi hi=>by simp only[L];rw[qAk (by omega),hρl,Nat.add_sub_cancel_left];exact auy _ _ _ hi
 have Llen:L.length=aC ps+aC rs:=by simp only[L,qAf,hρl,ati]
 -- what the objects that are handed in are
 have inO:∀j,j<aC ps->∃l hd,ρ[j]? =some l/\Ed.w hd∈ps/\nth .dead (kinds ps) j=hd/\FO H L0 0 hd .dead (nth .dead h1 j) (nth .dead H l):=λj m=>by
  rcases la.new j m with⟨l,hd,e1,⟨t,e2'⟩,e3⟩|⟨_,hm,_⟩
  ·rw[qAK]at e1 e3;exact⟨l,hd,by rw[<-hsome j m];exact e1,t,e2',e3⟩
  omega
 have alive:∀l∈ρ,nth .dead H l≠ .dead/\nth .dead H l≠ .res:=λl hl=>by
  obtain⟨j,m⟩:=qAR hl;have hjl:=(qAy.1 m).1;obtain⟨l',hd,e1,t,_,e3⟩:=inO j (by omega);rw[m]at e1;cases e1;obtain⟨p1,p2,_⟩:=LH psok hd t;cases hd with|dead=>exact(p1 rfl).elim|bx is=>exact(p2 is rfl).elim|box cs=>obtain⟨ws,vs,_,e4,_⟩:=e3;rw[e4];exact⟨λh=>(by cases h),λh=>(by cases h)⟩|own e=>obtain⟨_,_,_,e4⟩:=e3;rw[e4];exact⟨λh=>(by cases h),λh=>(by cases h)⟩|mp e=>obtain⟨_,_,_,e4⟩:=e3;rw[e4];exact⟨λh=>(by cases h),λh=>(by cases h)⟩|arr e=>obtain⟨_,_,_,e4⟩:=e3;rw[e4];exact⟨λh=>(by cases h),λh=>(by cases h)⟩
 have inlt:∀l∈ρ,l<H.length:=λl hl=>aaU (alive l hl).1;have reslt:∀l∈rng k (aC rs),l<H.length:=λl hl=>I9 (hres l hl);have hG0:∀j l,L0 j=some l->G j=l:=λj l m=>by
  have hlt:j<aC ps:=by apply qAp;intro hn;rw[L0ge j (by omega)]at m;cases m
  obtain⟨l',e1,t,e3⟩:=Lold j hlt;rw[m]at e3;cases e3;exact axN t
 have look0:∀j l,L0 j=some l->fA l (nth .dead H l)=ren G (fA j (nth .dead h1 j))/\∀z,dU l z (nth .dead H l)=ren G (dU j z (nth .dead h1 j)):=λj l m=>by
  have hlt:j<aC ps:=by apply qAp;intro hn;rw[L0ge j (by omega)]at m;cases m
  obtain⟨l',hd,e1,t,_,e3⟩:=inO j hlt;rw[<-hsome j hlt,m]at e1;cases e1;have hg:=hG0 j l m;cases hd with
  |dead=>exact((LH psok _ t).1 rfl).elim|bx is=>exact((LH psok _ t).2.1 is rfl).elim|box cs=>obtain⟨ws,vs,e4,e5,_⟩:=e3;rw[e4,e5];exact⟨rfl,λ_=>rfl⟩|own e=>obtain⟨_,_,e4,e5⟩:=e3;rw[e4,e5];exact⟨by simp only[fA,ren,pK,mg,hg],λ_=>rfl⟩|mp e=>obtain⟨_,_,e4,e5⟩:=e3;rw[e4,e5];exact⟨rfl,λ_=>rfl⟩|arr e=>obtain⟨_,_,e4,e5⟩:=e3;rw[e4,e5];exact⟨rfl,λ_=>by simp only[dU,ren,hg]⟩
 have hW:=aDe (H:=H) (Hk:=h1) hG0 look0;have objEq:∀j l,ρ[j]? =some l->fJ H (nth .dead H l)=dR G (fJ h1 (nth .dead h1 j)):=λj l m=>by
  have hlt:j<aC ps:=by have:=(qAy.1 m).1;omega
  obtain⟨l',hd,e1,t,_,e3⟩:=inO j hlt;rw[m]at e1;cases e1;cases hd with
  |dead=>exact((LH psok _ t).1 rfl).elim
  |bx is=>exact((LH psok _ t).2.1 is rfl).elim
  |box cs=>obtain⟨ws,vs,e4,e5,e6⟩:=e3;rw[e4,e5];simp only[fJ,dR,rs0 (e6 h1 _ hW)]
  |own e=>obtain⟨_,_,e4,e5⟩:=e3;rw[e4,e5];rfl
  |mp e=>obtain⟨_,_,e4,e5⟩:=e3;rw[e4,e5];simp only[fJ,dR,NW]
  |arr e=>obtain⟨_,_,e4,e5⟩:=e3;rw[e4,e5];simp only[fJ,dR,mg]
 have disj:∀l∈ρ,l∉rng k (aC rs):=λl hl hm=>by
  have:=hres l hm;have h2:=(alive l hl).2;unfold lM at this;split at this
  ·rename_i q;exact h2 q
  cases this
 have Lnd:L.Nodup:=qBZ.2 ⟨hnd,amv _ _,λa ha c hc e=>by subst e;exact disj a ha hc⟩;obtain⟨ws,hws,htg,hwro⟩:=ahV hnd hρl rs k (aC ps) [] [] _ edrs (λp hp=>by
  have:=disj p hp;rw[FU]at this;omega) hus
 have ixL:∀l,l<aC ps->kL ρ l=g l:=λl hl=>by
  obtain⟨p,e1,t,_⟩:=Lold l hl;rw[xu e1];exact(xu t).symm
 have tgL:∀w∈ws,∃p,tgt w=some p/\p∈L:=λw hw=>by
  obtain⟨p,e1,t⟩:=htg w hw;refine⟨p,e1,?_⟩;rcases t with⟨l,hd,q1,q2⟩|⟨q1,q2⟩
  ·obtain⟨p',e3,_,_⟩:=Lold l (nR edrs q1);rw[xu e3]at q2;subst q2;exact qBy _ (qAG e3)
  exact qBA _ (FU.2 ⟨q1,q2⟩)
 refine⟨r,h2,ws,_,rfl,λtm=>⟨Lnd,by simp[aA,h1l,hρl],λl hl=>by simp only[aA,qAg];exact inlt l hl,λl hl=>yC (hres l hl),λi l hi=>by rw[jT,jT];exact objEq i l hi⟩,by simp only[aA,qAg,bs.hl];exact Llen.symm,?_,hws,tgL,?_⟩
 ·-- the arguments
  have hlen:vs.length=T1.length:=by rw[la.tl,hna];simp[dn]
  have key:∀n,SW (av H (nth .unk vs n)) (ren G (av h1 (nth .unk T1 n))):=λn=>by
   by_cases hn:n∈jl ps
   ·obtain⟨s,hs⟩:=Pj hn;by_cases hlt:n<(dn na).length
    ·exact la.slot n s hs hlt h1 _ hW
    rw[kQ (show T1.length<=n by rw[la.tl];omega)];exact .unk _
   rw[la.keep n hn,abY];exact .unk _
  have all:∀(a c:List TV),a.length=c.length->(∀n,SW (av H (nth .unk a n)) (ren G (av h1 (nth .unk c n))))->SWs (aT H a) ((aT h1 c).map (ren G)):=λa=>by
   induction a with
   |nil=>intro c hl _;cases c with
    |nil=>exact .nil
    |cons _ _=>cases hl
   |cons x a ih=>intro c hl hk;cases c with
    |nil=>cases hl
    |cons y c=>exact .cons (hk 0) (ih c (by simpa using hl) λn=>hk (n+1))
  exact all vs T1 hlen key
 -- the state behind the call
 intro s s' hsH hWs;subst hsH;have W:=hwro s s' inlt hWs
 let A:Nat->Bool:=λl=>Nat.blt l (aC ps+aC rs)&&!(mem (killed rs) l)
 have hA:∀l,(Nat.blt l (aC ps+aC rs)&&!(mem (killed rs) l))=true->A l=true:=λl h=>h;have hA1:∀l,(Nat.blt l (aC ps)&&!(mem (killed rs) l))=true->A l=true:=λl h=>by
  simp only[qAb,A]at h|-;refine⟨qCN ?_,h.2⟩;have:l<aC ps:=qAe h.1;omega
 have Alt:∀j,A j=true->j<aC ps+aC rs/\Ed.o j .dead∉rs:=λj h=>by
  simp only[qAb,qAS,zw,A]at h;exact⟨qAe h.1,λhm=>h.2 (ND hm)⟩
 -- objects of the callee name only what is alive
 let A1:Nat->Bool:=λl=>Nat.blt l (aC ps)&&!(mem (killed rs) l)
 have bs1:=sD ps us 0 [] [] (dn na) [] [] (by rw[<-hx,JR,qAt]) edps (qAd _) rfl;rw[q1]at bs1;have rfU:∀j,(∀hd,Ed.o j hd∉rs)->rfO A1 (nth .dead h1 j):=λj hno=>by
  by_cases m:j<aC ps
  ·obtain⟨u,rest,e1,t⟩:=bs1.newK j m;have hp:=agD psok j m;rw[qAK]at t hp;intro cs hc;generalize hkd:nth .dead (kinds ps) j=hd at *;obtain⟨ss,rfl,rfl⟩:=abh (akM hp).2.1 (t.symm.trans hc);simp only[akg,qAb]at hp;have hn:DJ j rs=none:=by
    cases hq:DJ j rs with
    |none=>rfl
    |some hd=>exact(hno hd (VK hq)).elim
   rw[hn]at hp;exact UA (Bn (A:=A1) (λl h=>h) ss u hp.2)
  rw[kQ (by omega)];intro cs hc;cases hc
 have rfB':∀j is,Ed.o j (.bx is)∈rs->∀cs,nth .dead h1 j=.box cs->∀q v,(aG cs)[q]? =some v->pU is q=false->Iq A1 v=true:=λj is hm cs hc q v hv hq=>by
  have m:=nR edrs hm;obtain⟨u,rest,e1,t⟩:=bs1.newK j m;have hp:=agD psok j m;rw[qAK]at t hp;generalize hkd:nth .dead (kinds ps) j=hd at *;obtain⟨ss,rfl,rfl⟩:=abh (akM hp).2.1 (t.symm.trans hc);simp only[akg,qAb]at hp;rw[ab4 edrs hm]at hp;exact ak0 (A:=A1) (λl h=>h) is ss u rest 0 e1 hp.2 q v hv (by rw[qAK];exact hq)
 have rf2:∀j,rfO A (nth .dead h2 j):=λj=>by
  by_cases m:j<aC ps
  ·by_cases f:∃hd,Ed.o j hd∈rs
   ·obtain⟨hd,f⟩:=f;obtain⟨u,rest,et,t⟩:=bs.obj j hd f;rw[t];rcases Tq rsok j hd f with rfl|⟨h3,_⟩
    ·intro cs hc;cases hc
    by_cases hb:∃is,hd=.bx is
    ·obtain⟨is,rfl⟩:=hb;intro cs hc;cases ho:nth .dead h1 j with
     |box cs0=>
      rw[ho]at hc;simp only[bH]at hc;cases hq:(jv bI is (some cs0) u).1 with
      |none=>rw[hq]at hc;cases hc
      |some cs1=>
       rw[hq]at hc;cases hc;exact alu hA is _ u rest et h3 (λcs2 h2 q v hv hq=>by cases h2;exact afF hA1 v (rfB' j is f cs0 ho q v hv hq)) cs hq
     |_=>rw[ho]at hc;cases hc
    have:bH bI (nth .dead h1 j) hd u=bH bI .dead hd u:=by
     cases hd with
     |bx is=>exact(hb ⟨is,rfl⟩).elim
     |_=>rfl
    rw[this];exact ark hA _ hd u h3 λcs hc=>by cases hc
   rw[bs.keepO j m λhd h=>f ⟨hd,h⟩];intro cs hc v hv;exact afF hA1 v (rfU j (λhd h=>f ⟨hd,h⟩) cs hc v hv)
  by_cases hj2:j<aC ps+aC rs
  ·obtain⟨hd,u,e1,t⟩:=bs.new (j - aC ps) (by omega);rw[show aC ps+(j - aC ps)=j from by omega]at t;rw[t];exact ark hA _ hd u (agM rsok hd e1) λcs hc=>by cases hc
  rw[kQ (by rw[bs.hl];omega)];intro cs hc;cases hc
 have gG:∀j,j<aC ps+aC rs->G j=g j:=λj m=>by
  have:L[j]? =some (L[j]'(by omega)):=qAc _;rw[show G j=_ from axN this,show g j=_ from xu this]
 -- where the callee's objects stand now
 have newAt:∀i,i<aC rs->nth .dead s'.h (g (aC ps+i))=jE g (nth .dead h2 (aC ps+i)):=λi hi=>by
  rw[show g (aC ps+i)=k+i from xu (Lnew i hi),W.new i hi];exact Ug (d:=.dead) (d':=.dead) (jE g) rfl h2 _
 have DJ:∀j hd,Ed.o j hd∈rs->hd≠ .dead->(∀is,hd≠ .bx is)->plainO (nth .dead h2 j)=true/\nth .dead s'.h (g j)=jE g (nth .dead h2 j):=λj hd hm h1 h2'=>by
  have m:=nR edrs hm;have hmap:nth .dead (h2.map (jE g)) j=jE g (nth .dead h2 j):=Ug (d:=.dead) (d':=.dead) (jE g) rfl h2 _;have pl:∀o,plainO (jE g o)=true->plainO o=true:=λo h=>by cases o<;>first|rfl|cases h
  have:=W.obj j hd hm;rw[<-ixL j m];cases hd with
  |dead=>exact(h1 rfl).elim
  |bx is=>exact(h2' is rfl).elim
  |box cs=>obtain⟨a1,a2,a3⟩:=this;exact⟨pl _ (by rw[<-hmap];exact a1),by rw[<-hmap];exact a3⟩
  |own e=>obtain⟨a1,a2,a3⟩:=this;exact⟨pl _ (by rw[<-hmap];exact a1),by rw[<-hmap];exact a3⟩
  |mp e=>obtain⟨a1,a2,a3⟩:=this;exact⟨pl _ (by rw[<-hmap];exact a1),by rw[<-hmap];exact a3⟩
  |arr e=>obtain⟨a1,a2,a3⟩:=this;exact⟨pl _ (by rw[<-hmap];exact a1),by rw[<-hmap];exact a3⟩
 have unAt:∀j l,ρ[j]? =some l->(∀hd,Ed.o j hd∉rs)->nth .dead s'.h l=nth .dead s.h l/\fJ s'.h (nth .dead s.h l)=fJ s.h (nth .dead s.h l):=λj l m hno=>by
  have hlt:j<aC ps:=by have:=(qAy.1 m).1;omega
  refine Uq hWs l λw hw e1=>?_;obtain⟨p,t,e3⟩:=htg w hw;rw[e1]at t;cases t;rcases e3 with⟨l',hd,a1,a2⟩|⟨a1,a2⟩
  ·have hl':=nR edrs a1;obtain⟨p',a3,_,_⟩:=Lold l' hl';rw[xu a3]at a2;subst a2;have:l'=j:=(qCo (by omega) hnd).1 (a3.trans m.symm);subst this;exact hno hd a1
  exact disj l (qAG m) (FU.2 ⟨a1,a2⟩)
 have boxAt:∀j is,Ed.o j (.bx is)∈rs->∃l cs0 cs1 vs0 cf,ρ[j]? =some l/\nth .dead s.h l=.box cs0/\nth .dead s'.h l=.box cs1/\nth .dead h1 j=.box vs0/\nth .dead h2 j=.box cf/\(aG cs1).length=(aG cs0).length/\(aG cf).length=(aG vs0).length/\aX s.h cs0=dL G (aX h1 vs0)/\
   ∀q,(pU is q=true->q<(aG cs0).length->(aG cs1)[q]? =((aG cf).map (fu g))[q]?)/\(pU is q=false->((aG cs1)[q]? =(aG cs0)[q]?/\∀v,(aG cs0)[q]? =some v->av s'.h v=av s.h v)/\(aG cf)[q]? =(aG vs0)[q]?):=λj is hm=>by
  have m:=nR edrs hm;obtain⟨l,hd0,e1,t,e2',e3⟩:=inO j m;rcases Tq rsok j _ hm with hh|⟨_,_,_,_,hpl⟩
  ·cases hh
  rw[e2']at hpl;have hpl:=hpl is rfl;obtain⟨u,rest,e4t,e4⟩:=bs.obj j _ hm;have hmap:nth .dead (h2.map (jE g)) j=jE g (nth .dead h2 j):=Ug (d:=.dead) (d':=.dead) (jE g) rfl h2 _;have wj:=W.obj j _ hm;simp only[xu e1]at wj;cases hd0 with
  |box cs=>
   obtain⟨vs0,cs0,e5,e6,e7⟩:=e3;obtain⟨cs1,cf',a1,a2,a3,a4⟩:=wj cs0 e6;replace a2:jE g (nth .dead h2 j)=.box cf':=hmap.symm.trans a2;rw[e5]at e4;simp only[bH]at e4;cases hq:(jv bI is (some vs0) u).1 with
   |none=>rw[hq]at e4;rw[e4]at a2;cases a2
   |some cf=>
    rw[hq]at e4;rw[e4]at a2;simp only[jE,TObj.box.injEq]at a2;subst a2;have fs:=(NC is (some vs0) u rest e4t).2 vs0 cf rfl hq;refine⟨l,cs0,cs1,vs0,cf,e1,e6,a1,e5,e4,a3,fs.1,rs0 (e7 h1 _ hW),λq=>⟨λh1 h2=>?_,λh=>⟨(a4 q).2 h,fs.2 q h⟩⟩⟩;rw[(a4 q).1 h1 h2,Wz]
  |_=>cases hpl
 have lks:Lks g G A s'.h h2:=by
  have key:∀j,A j=true->fA (g j) (nth .dead s'.h (g j))=ren G (fA j (nth .dead h2 j))/\∀z,dU (g j) z (nth .dead s'.h (g j))=ren G (dU j z (nth .dead h2 j)):=λj m=>by
   obtain⟨hlt,hdd⟩:=Alt j m;by_cases hj1:j<aC ps
   ·obtain⟨l,e1,t,e3⟩:=Lold j hj1;have hgj:g j=l:=xu t;by_cases f:∃hd,Ed.o j hd∈rs
    ·obtain⟨hd,f⟩:=f;by_cases hb:∃is,hd=.bx is
     ·obtain⟨is,rfl⟩:=hb;obtain⟨l',cs0,cs1,vs0,cf,b1,b2,b3,b4,b5,_⟩:=boxAt j is f;rw[e1]at b1;cases b1;rw[hgj,b3,b5];exact⟨rfl,λ_=>rfl⟩
     obtain⟨b1,b2⟩:=DJ j hd f (λe=>by subst e;exact hdd f) λis e=>hb ⟨is,e⟩;rw[b2];exact azr _ (gG j hlt)
    have hno:∀hd,Ed.o j hd∉rs:=λhd h=>f ⟨hd,h⟩;rw[hgj,(unAt j l e1 hno).1,bs.keepO j hj1 hno];exact look0 j l e3
   have:=newAt (j - aC ps) (by omega);rw[show aC ps+(j - aC ps)=j from by omega]at this;rw[this];exact azr _ (gG j hlt)
  exact⟨λj m=>gG j (Alt j m).1,λj m=>(key j m).1,λj z m=>(key j m).2 z⟩
 have lk12:∀j,A j=true->j<aC ps->Lk h1 h2 j:=λj m hj1=>by
  by_cases f:∃hd,Ed.o j hd∈rs
  ·obtain⟨hd,f⟩:=f;rcases Tq rsok j hd f with rfl|⟨_,hpl,ho1,ho2,_⟩
   ·exact((Alt j m).2 f).elim
   obtain⟨u,_,_,t⟩:=bs.obj j hd f;refine apl ?_ (by rw[t];exact asv _ hd u (by cases hd<;>first|rfl|exact(ho1 _ rfl).elim|exact(ho2 _ rfl).elim));obtain⟨l,hd0,_,_,e4,e5⟩:=inO j hj1;rw[e4]at hpl;cases hd0 with
   |box cs=>obtain⟨_,_,e6,_⟩:=e5;rw[e6];rfl
   |mp e=>obtain⟨_,_,e6,_⟩:=e5;rw[e6];rfl
   |_=>cases hpl
  unfold Lk;rw[bs.keepO j hj1 λhd h=>f ⟨hd,h⟩];exact⟨rfl,λ_=>rfl⟩
 have low:∀v,Iq A1 v=true->av h2 v=av h1 v:=λv hv=>(UJ v λl hl=>(by
  have hl1:=ai7 v hl hv;have hlt:l<aC ps:=by
   simp only[qAb,A1]at hl1;exact qAe hl1.1
  exact lk12 l (hA1 l hl1) hlt)).symm
 have avLow:∀j,(∀hd,Ed.o j hd∉rs)->fJ h2 (nth .dead h1 j)=fJ h1 (nth .dead h1 j):=λj hno=>by
  cases ho:nth .dead h1 j with
  |box cs=>
   simp only[fJ];rw[vL,vL];exact congrArg _ (qBq λv hv=>low v (rfU j hno cs ho v hv))
  |_=>rfl
 refine⟨?_,?_⟩
 ·apply qBR;intro l;have hlen:s'.h.length=s.h.length:=(Tn hWs).2;have lget:∀(Hx:List TObj) (l:Nat),l<Hx.length->(aA Hx)[l]? =some (fJ Hx (nth .dead Hx l)):=λHx l hl=>by
   unfold aA;rw[qAH,iK,List.getD,qAc hl];rfl
  by_cases hl:l<s.h.length
  ·rw[lget s'.h l (by omega)];by_cases hin:l∈L
   ·obtain⟨j,m⟩:=qAR hin;have hjl:=(qAy.1 m).1;have hjn:j<aC ps+aC rs:=by omega
    rw[J4 L _ (aA s.h) j l Lnd m (by rw[qAg];simp only[aA,qAg,bs.hl];exact hjn) (by simp only[aA,qAg];exact hl)];rw[qAH,lget h2 j (by rw[bs.hl];exact hjn)];simp only[qAx,Option.some.injEq];have hgj:g j=l:=xu m;by_cases hj1:j<aC ps
    ·have hρj:ρ[j]? =some l:=by
      obtain⟨l',a1,a2,_⟩:=Lold j hj1;rw[m]at a2;cases a2;exact a1
     by_cases f:∃hd,Ed.o j hd∈rs
     ·obtain⟨hd,f⟩:=f;by_cases hdd:hd=.dead
      ·subst hdd;obtain⟨u,_,_,a1⟩:=bs.obj j _ f;have a1:nth .dead h2 j=.dead:=a1;have:=W.obj j _ f;rw[ixL j hj1,hgj]at this;rw[a1];rcases this with⟨_,_,_,a2⟩|⟨_,_,_,a2⟩|a2<;>(rw[a2];rfl)
      by_cases hb:∃is,hd=.bx is
      ·obtain⟨is,rfl⟩:=hb;obtain⟨l',cs0,cs1,vs0,cf,b1,b2,b3,b4,b5,b6,b7,b8,b9⟩:=boxAt j is f;rw[hρj]at b1;cases b1;rw[b3,b5];simp only[fJ,dR,AObj.box.injEq];have hl8:(aG cs0).length=(aG vs0).length:=by
        have:=congrArg List.length b8;rw[iI,kM,kM,<-nS,<-nS]at this;exact this
       rw[vL,vL,sU,qBl];apply qBR;intro q;rw[qAH,qAH];by_cases hq:q<(aG cs0).length
       ·cases hc:pU is q with
        |true=>
         rw[(b9 q).1 hc hq,qAH];cases hv:(aG cf)[q]? with
         |none=>rfl
         |some v=>
          simp only[qAx,Option.some.injEq,Function.comp];exact Ph lks v (rf2 j cf b5 v (qAG hv))
        |false=>
         obtain⟨⟨c1,c2⟩,c3⟩:=(b9 q).2 hc;rw[c1,c3];have hq2:q<(aG vs0).length:=by omega
         rw[qAc hq,qAc hq2];simp only[qAx,Option.some.injEq,Function.comp];rw[c2 _ (qAc hq),low _ (rfB' j is f vs0 b4 q _ (qAc hq2) hc)];have e8:=congrArg (λx=>x[q]?) b8;simp only[vL,sU,qAH,qAc hq,qAc hq2,qAx,Option.some.injEq]at e8;exact e8
       rw[qAE (by omega),qAE (by omega)];rfl
      obtain⟨_,a2⟩:=DJ j hd f hdd λis e=>hb ⟨is,e⟩;rw[<-hgj,a2];exact atq lks (rf2 j)
     have hno:∀hd,Ed.o j hd∉rs:=λhd h=>f ⟨hd,h⟩;obtain⟨a1,a2⟩:=unAt j l hρj hno;rw[a1,a2,objEq j l hρj,bs.keepO j hj1 hno,avLow j hno]
    have:=newAt (j - aC ps) (by omega);rw[show aC ps+(j - aC ps)=j from by omega]at this;rw[<-hgj,this];exact atq lks (rf2 j)
   rw[BU L _ _ l hin,lget s.h l hl];obtain⟨a1,a2⟩:=Uq hWs l λw hw e1=>by
    obtain⟨p,t,e3⟩:=tgL w hw;rw[e1]at t;cases t;exact hin e3
   rw[a1,a2]
  rw[qAE (by simp only[aA,qAg];omega),qAE (by rw[LZ];simp only[aA,qAg];omega)]
 rw[aA9];refine Ph lks _ (aDz λv hv=>?_);obtain⟨i,hi⟩:=qAR hv;have hvi:nth .unk r i=v:=by rw[iK,List.getD,hi];rfl
 rcases bs.slot i with e1|⟨sk,u,e1,t⟩
 ·rw[<-hvi,e1,abY];rfl
 rw[<-hvi,t];exact U4 hA sk u (ahH rsok i sk e1)
theorem aCE{te H k vs e K X}(he:ah P te e)(h:arL H k vs e K X=some b):
  (∃(d:List Nat) (a:List AV) (G:List AObj) (I:AV) (E:List AObj) (ws:List TWr) (v:TV),cK P e.f a G I E/\(∀U,Passes ⟨U,aA H⟩ d (rng k (aC e.rs)) G)/\E.length=(d++rng k (aC e.rs)).length/\
   SWs (aT H vs) (a.map (ren (nm (d++rng k (aC e.rs)) (aA H).length)))/\K (aC e.rs) (d++rng k (aC e.rs)) ws v=some b/\(∀w∈ws,∃p,tgt w=some p/\p∈d++rng k (aC e.rs))/\
   ∀s s',s.h=H->Ws s ws s'->aA s'.h=nK (aA H) (d++rng k (aC e.rs)) (E.map (dR (nm (d++rng k (aC e.rs)) (aA H).length)))/\av s'.h v=ren (nm (d++rng k (aC e.rs)) (aA H).length) I)∨
  ∃(B:Nat) (d:List Nat) (a:List AV) (G E:List AObj) (ws:List TWr) (c:Int),Cy P e.f a G (BA te c) E/\(∀U,Passes ⟨U,aA H⟩ d (rng k B) G)/\E.length=(d++rng k B).length/\
   SWs (aT H vs) (a.map (ren (nm (d++rng k B) (aA H).length)))/\X B (d++rng k B) ws c=some b/\(∀w∈ws,∃p,tgt w=some p/\p∈d++rng k B)/\
   ∀s s',s.h=H->Ws s ws s'->aA s'.h=nK (aA H) (d++rng k B) (E.map (dR (nm (d++rng k B) (aA H).length))):=by
 obtain⟨hokf,i,J⟩:=he;unfold M7 at i;rw[qAb,qAb]at i;obtain⟨⟨_,i⟩,F⟩:=i;simp only[qAb]at i;obtain⟨m,L,M,N⟩:=i;unfold arL at h;simp only at h;obtain⟨hc,h⟩:=(aZ h).resolve_right λh=>by cases h.2
 simp only[qAb]at hc;obtain⟨q,l,C,n⟩:=hc;have q:=qAj q;have l:=qAj l;have t:=alj C;clear C;have n:=akt _ _ n;generalize V:LJ 0 (aC e.ps) (Nv vs H 0 e.ps [])=S at h l t;generalize O:Ko S 0 (aC e.ps)=d at h l t;have o:∀j,j<aC e.ps->S j=d[j]?:=λj W=>by have:=al0 (f:=S) (aC e.ps) 0 (by rw[O];exact l) j W;rw[qAK,O]at this;exact this
 have D:∀j,aC e.ps<=j->S j=none:=λj W=>by rw[<-V];exact aCg (qBf _) W
 obtain⟨us,u,hB⟩:=Jj e.ps 0 _ [] [] m (qAd _) h;obtain⟨x,Y,u⟩:=Pw u;obtain⟨y,hF,u⟩:=ob u;obtain⟨T1,Z,T,la⟩:=hB (dn e.na) [] [] rfl;rw[qAt]at T;rcases RT.aGR u (J x y hF T1 Z (by rw[Y];exact T))with⟨y,u,g⟩|⟨A,c,z,hpe,u,g⟩
 ·left;obtain⟨r,R,ws,v,g1,g2,g3,g4,g5,g6,g7⟩:=aBV e.rs e.nr (e.out y) (Q:=λws v=>K (aC e.rs) (d++rng k (aC e.rs)) ws v) m L M N q l t n o D Y T la u;exact⟨d,_,_,_,_,ws,v,g r R g1,g2,g3,g4,g5,g6,g7⟩
 right;rw[hpe]at F;simp only[qAb]at F;obtain⟨_,edr,pso,rso⟩:=F;obtain⟨hr,u⟩:=(aZ u).resolve_right λh=>by cases h.2
 obtain⟨r,R,ws,v,g1,g2,g3,g4,g5,g6,g7⟩:=aBV A 0 z (Q:=λws _=>X (aC A) (d++rng k (aC A)) ws c) m edr pso rso q l t (akt _ _ hr) o D Y T la u;exact⟨aC A,d,_,_,_,ws,c,g r R g1,g2,g3,g4,g5,g6,λs s' Z R=>(g7 s s' Z R).1⟩
end
end
section
open Go
def Kcp(t:List TV)(c:List (Nat×Nat)):=∀d x,(d,x)∈c->nth .unk t d=nth .unk t x
structure Inv(s:DS):Prop where
 up:Kup s.t s.up
 rl:Krl s.t s.rl
 cp:Kcp s.t s.cp
structure Fr(s s':DS):Prop where
 tl:s'.t.length=s.t.length
 hl:s.h.length≤s'.h.length
 d:∀k,k∉s'.d→k∉s.d∧nth .unk s'.t k=nth .unk s.t k
 om:∀p,p∈s.o→p∈s'.o
 oo:s'.oo=s.oo
 o:∀l,l<s.h.length→(l,0)∉s'.o→II (nth .dead s.h l) (nth .dead s'.h l) fun q=>decide ((l,q+1)∈s'.o)
theorem II.trans{a b c f g}(h:II a b f)(k:II b c g)(i:∀q,g q=false->f q=false):II a c g:=by
 rcases h with rfl|⟨x,y,rfl,rfl,j,l⟩
 ·exact k
 rcases k with rfl|⟨o,z,e,rfl,m,n⟩
 ·exact .inr ⟨x,y,rfl,rfl,j,λq d=>l q (i q d)⟩
 cases e;exact .inr ⟨x,z,rfl,rfl,m.trans j,λq d=>(n q d).trans (l q (i q d))⟩
theorem Fr.refl s:Fr s s:=⟨rfl,qAd _,λ_ h=>⟨h,rfl⟩,λ_ h=>h,rfl,λ_ _ _=>.inl rfl⟩
theorem Fr.trans{a b c}(h:Fr a b)(k:Fr b c):Fr a c:=by
 refine⟨k.tl.trans h.tl,qAu h.hl k.hl,λn f=>?_,λp g=>k.om p (h.om p g),k.oo.trans h.oo,λl d o=>?_⟩
 ·obtain⟨i,j⟩:=k.d n f;obtain⟨m,r⟩:=h.d n i
  grind
 refine II.trans (h.o l d λhm=>o (k.om _ hm)) (k.o l (qAD d h.hl) o) λq e=>?_;simp at e|-;exact λhm=>e (k.om _ hm)
theorem mem_filter{l f i}(h:mem (l.filter f) i=true):mem l i=true/\f i=true:=by rw[mem_iff,qAY]at h;exact⟨mem_iff.2 h.1,h.2⟩
theorem aFz{a b:Nat}(h:(!(Nat.beq a b))=true):a≠b:=by
 intro e;subst e
 simp_all
theorem aCC{s}(hi:Inv s) n v:
  Inv ⟨s.t.set n v,s.h,n::s.d,s.o,s.up.filter λi=>!Nat.beq i n,s.rl.filter λp=>!(Nat.beq p.1 n ||(Nat.beq p.2.1 n ||Nat.beq p.2.2 n)),s.cp.filter λp=>!(Nat.beq p.1 n ||Nat.beq p.2 n),s.oo⟩:=by
 refine⟨λi k a b f=>?_,λd i j b k a f=>?_,λd x b=>?_⟩;·obtain⟨l,g⟩:=mem_filter b;have m:=aFz g;simp only[aU m.symm]at f;exact hi.up i k a l f
 ·rw[qAY]at b;obtain⟨l,g⟩:=b;simp at g;have c:∀a,Nat.beq a n=false->n≠a:=λa h e=>by subst e;rw[nJ]at h;cases h
  simp only[aU (c _ g.2.1)]at f;simp only[aU (c _ g.1),aU (c _ g.2.2)];exact hi.rl d i j l k a f
 rw[qAY]at b;obtain⟨l,g⟩:=b;simp at g;have c:∀a,Nat.beq a n=false->n≠a:=λa h e=>by subst e;rw[nJ]at h;cases h
 simp only[aU (c _ g.1),aU (c _ g.2)];exact hi.cp d x l
theorem aEj{s s'}{w}(hi:Inv s)(h:W1 s w s'):Inv s':=by
 cases w with
 |sl n v=>obtain⟨_,rfl⟩:=h;exact aCC hi n v|ob l o=>obtain⟨_,_,rfl⟩:=h;exact⟨hi.up,hi.rl,hi.cp⟩|st l f a=>obtain⟨_,_,_,_,rfl⟩:=h;exact⟨hi.up,hi.rl,hi.cp⟩|kill l=>rcases h with⟨_,_,_,rfl⟩|⟨_,_,_,rfl⟩|⟨_,rfl⟩<;>exact⟨hi.up,hi.rl,hi.cp⟩
 |nw l o=>obtain⟨_,_,rfl⟩:=h;exact⟨hi.up,hi.rl,hi.cp⟩|up l i e y=>obtain⟨_,_,rfl⟩:=h;exact⟨hi.up,hi.rl,hi.cp⟩
theorem afJ{s s'}{ws}(h:Ws s ws s')(hi:Inv s):Inv s':=by
 induction h with|nil s=>exact hi|cons h _ i=>exact i (aEj hi h)
theorem agZ{s l o}:Fr s {s with h:=s.h.set l o,o:=(l,0)::s.o}:=
 ⟨rfl,by simp,λ_ h=>⟨h,rfl⟩,λp a=>qAl _ a,rfl,λl' c n=>.inl (aU λe=>n (by subst e;simp))⟩
theorem aGL{s s'}{w}(h:W1 s w s'):Fr s s':=by
 cases w with
 |sl n v=>obtain⟨_,rfl⟩:=h;refine⟨by simp,qAd _,λk a=>?_,λ_ h=>h,rfl,λ_ _ _=>.inl rfl⟩;simp at a;exact⟨a.2,aU (qBr a.1)⟩
 |ob l o=>obtain⟨_,_,rfl⟩:=h;exact agZ|st l f d=>
  obtain⟨g,c,j,m,rfl⟩:=h;refine⟨rfl,by simp,λ_ h=>⟨h,rfl⟩,λp r=>qBA _ r,rfl,λl' t x=>?_⟩;by_cases e:l=l'
  ·subst e;simp only[bM t,j];obtain⟨z,A⟩:=Jo m;refine .inr ⟨g,c,rfl,rfl,by rw[z];simp;omega,λq b=>?_⟩;simp only[decide_eq_false_iff_not,qAn,qAA,not_or]at b;have u:¬(f<=q/\q<f+(aG d).length):=λhh=>b.1 ⟨q+1,FU.2 (by rw[nS]at hh;omega),rfl⟩
   grind
  exact .inl (aU e)
 |kill l=>rcases h with⟨_,_,_,rfl⟩|⟨_,_,_,rfl⟩|⟨_,rfl⟩<;>exact agZ
 |nw l o=>obtain⟨_,_,rfl⟩:=h;exact agZ|up l i e y=>obtain⟨_,_,rfl⟩:=h;exact agZ
theorem aof{s s'}{ws}(h:Ws s ws s'):Fr s s':=by
 induction h with|nil s=>exact Fr.refl s|cons h _ i=>exact(aGL h).trans i
section
variable {P:Program}{γ:Type}{b:γ}
theorem aBl{H}{t}{θ}{up}{k}{o}{K:List Nat->List TWr->Option γ}(hk:Kup t up)(h:dG (TI.of P) θ up k o.dst t H o.op K=some b):qj P H t k o K b:=by
 obtain⟨d,op,ty,ps,aft,gd⟩:=o;cases op with
 |move x=>exact aDj h|assign x=>exact ayc h|pick c x y=>exact aDO h|nilCheck x=>exact asK h|binOp op t x y t2=>exact aAb hk h|unOp op t x=>exact aDb h|fieldAddr s x f=>exact aoU h|field s x f=>exact aAY h|indexAddr t x i=>exact aqN h|index t x i=>exact aAf h|extract x i=>exact av3 h|slice t x lo hi mx=>
  cases mx with|none=>exact aBD h|some m=>cases h
 |build t p=>exact aA3 h|makeFunc fn first cap=>
  cases fn with|func f=>exact asE h|_=>cases h
 |load t x=>exact aDy h|convert s t x=>exact auV h|store t x y=>exact aAd h|alloc t=>exact aAG h|box t x=>
  refine aFc h λcs _ hr=>(Bj cs λl _=>Pz ?_ l).symm;have e:nth .dead H k=.res:=by unfold lM at hr;split at hr;assumption;cases hr
  rw[e];exact⟨rfl,λ_=>rfl⟩
 |makeMap t r=>
  cases r with|none=>exact awq h|some x=>cases h
 |buildSlice t len p=>exact am3 h|makeSlice t x y=>exact apP h|call c=>
  obtain⟨a,args,ats⟩:=c;cases a with
  |builtin bi=>cases bi<;>first|exact aE5 h|exact axc h|exact aEu h|cases h
  |_=>cases h
 |lookup t m key ok=>exact azv h|mapUpdate t m key x=>exact arF h|_=>cases h
structure Sm(e f:Eff):Prop where
 rs:e.rs=f.rs
 ro:e.ro=f.ro
 ws:iD e.ws=iD f.ws
 wo:je e.ws=je f.ws
inductive Sms:List Eff→List Eff→Prop where
 |nil:Sms [] []
 |cons {e f:Eff} {es fs:List Eff}:Sm e f→Sms es fs→Sms (e::es) (f::fs)
theorem Fg:∀ws H,iD (erase ws)=iD (BF H ws)/\je (erase ws)=je (BF H ws)|[],_=>⟨rfl,rfl⟩|w::ws,H=>by obtain⟨h,a⟩:=Fg ws (ZN H w);cases w<;>simp only[erase,BF,Hg,iD,je,qBI]at *<;>exact⟨by rw[h],by rw[a]⟩
theorem agi a c:iD (a++c)=iD a++iD c:=by simp[iD]
theorem alD a c:je (a++c)=je a++je c:=by simp[je]
theorem adp:∀l os,iD (kU l os)=[]|[],_=>rfl|_::_,[]=>rfl|l::s,o::os=>by simp only[kU];exact adp s os
theorem aiE:∀l os,os.length=l.length->je (kU l os)=l|[],[],_=>rfl|[],_::_,h=>by cases h|_::_,[],h=>by cases h|l::s,o::os,h=>by have:=aiE s os (by simpa using h);simp only[kU,je,qBI]at this|-;rw[this]
theorem adl:∀(l:List Nat),iD (l.map λl=>Wr.obj l .dead)=[]|[]=>rfl|_::s=>by simp;exact adl s
theorem ahD:∀l,je (l.map λl=>Wr.obj l .dead)=l|[]=>rfl|l::s=>by have:=ahD s;simp only[qAz,je,qBI]at this|-;rw[this]
theorem aAM{e f b c}(h:Sm e f)(a:Sm b c):fD e b=fD f c:=by unfold fD;rw[h.rs,h.ro,h.ws,h.wo,a.rs,a.ro,a.ws,a.wo]
theorem atZ{es fs}(h:Sms es fs):∀i,Sm (es.getD i u7) (fs.getD i u7):=by
 induction h with|nil=>intro i;exact⟨rfl,rfl,rfl,rfl⟩|cons h _ a=>intro i;cases i with|zero=>exact h|succ i=>exact a i
theorem avj{l es fs}(h:Sms es fs):lF l es=lF l fs:=by unfold lF;congr 1;funext j;congr 2;funext i;rw[aAM (atZ h i) (atZ h j)]
theorem aC5{ops o s k rd ws b}(f:dY ops (gT s).tmps o=some true)(h:aJ P k o (bC (aT s.h s.t)) (obj? (aA s.h))=some (rd,b))
  (g:(∀x∈o.op.operands,VF (bC (aT s.h s.t) x))->b=BF s.h ws):Gr P ops o (gT s) ⟨aY ops o,rd,BF s.h ws⟩:=by
 intro t c;refine .inl ⟨by rw[uM c.rs];exact f,?_⟩;intro C i a w d next Q n
 have v:=LC c.rs;have e:=g λx j=>by have l:bC (aT s.h s.t) x=bC t.tmps x:=(v x j).symm;rw[l];exact(d.ev x).vf
 subst e;exact afX (k:=k) (rd:=rd) (Zl h v c.ro) C i a w d next Q n
theorem aFR{ops}{o}{s}{A B}(h:gdK ops o s A B=some b):dY ops.toArray (gT s).tmps o=some true/\A s=some b∨dY ops.toArray (gT s).tmps o=some false/\B s=some b:=by
 unfold gdK at h;unfold dY;cases g:o.guard with
 |none=>rw[g]at h;exact .inl ⟨rfl,h⟩|some p=>
  obtain⟨j,w⟩:=p;rw[g]at h;simp only at h|-;rw[List.getElem?_toArray];cases f:(ops[j]?).bind (·.dst)with
  |none=>rw[f]at h;cases h|some d=>
   rw[f]at h;simp only at h|-;have t:(gT s).tmps.getD d .unk=av s.h (nth .unk s.t d):=Cb s.h s.t d;rw[t];have l:∀v,nth .unk s.t d=v->s.t.set d v=s.t:=λv k=>by
    apply qBR;intro n;by_cases e:d=n
    ·subst e;by_cases c:d<s.t.length
     ·rw[qCC c,qAc c];rw[iK,List.getD,qAc c]at k
      grind
     grind
    grind
   split at h
   ·rename_i q a;simp only[a,av,jw];rw[lC,lC,lC,lC]at h;cases q
    ·have i:=l _ a;cases w
     ·simp_all
     simp_all
    have i:=l _ a;cases w;·simp only[cond_false,cond_true,i]at h;exact .inr ⟨rfl,h⟩
    simp_all
   ·rename_i a;rw[a];exact .inr ⟨rfl,h⟩
   cases h
theorem azX o s:(Ig o s).t=s.t/\(Ig o s).h=s.h/\(Ig o s).d=s.d/\(Ig o s).o=s.o/\(Ig o s).oo=s.oo:=by
 unfold Ig
 grind
theorem axG{o}{s s1}{ws}(hi:Inv s1)(hs:Ws s ws s1)(h0:Inv s)(z:aqr s.t o ws)(A:∀x d,o.op=.move x->o.dst=some d->ws=[.sl d (fq s.t x)]):Inv (Ig o s1):=by
 unfold Ig;split;·rename_i B i j g d t u;cases n:Nat.beq d i ||Nat.beq d j with|true=>exact hi|false=>
   rw[cond_false];simp at n;have q:∀a,Nat.beq d a=false->d≠a:=λa h e=>by subst e;rw[nJ]at h;cases h
   obtain⟨v,rfl,C⟩:=z d i j B g t u;cases hs with|cons p r=>
    cases r;obtain⟨l,rfl⟩:=p;refine⟨hi.up,λd' D E m k a f=>?_,hi.cp⟩;rcases qAh.1 m with e|m
    ·cases e;simp only[aU (q i n.1)]at f;obtain⟨c,p,r⟩:=C k a f;refine⟨c,by simp only[aU (q j n.2)];exact p,λb w=>?_⟩;simp only[bM l]at w
     grind
    exact hi.rl d' D E m k a f
 ·rename_i x d t u;cases n:Nat.beq d x with|true=>exact hi|false=>
   rw[cond_false];have q:d≠x:=λe=>by subst e;rw[nJ]at n;cases n
   have F:=A _ d t u;subst F;cases hs with|cons p r=>
    cases r;obtain⟨l,rfl⟩:=p;have I:nth .unk (s.t.set d (fq s.t (.tmp x))) x=nth .unk s.t x:=aU q;have G:nth .unk (s.t.set d (fq s.t (.tmp x))) d=nth .unk s.t x:=bM l;refine⟨λi k a m f=>?_,hi.rl,λd' H m=>?_⟩;·simp only at m f;cases y:mem (s.up.filter λi=>!(Nat.beq i d)) x with|false=>simp only[y]at m;exact hi.up i k a m f|true=>
      simp only[y,cond_true]at m;rw[mem_iff,qAh]at m;rcases m with rfl|m
      ·rw[G]at f;exact h0.up x k a (mem_filter y).1 f
      exact hi.up i k a (mem_iff.2 m) f
    rcases qAh.1 m with e|m
    ·grind
    exact hi.cp d' H m
 exact hi
end
end
section
open Go
section
variable {P:Program}{γ:Type}{b:γ}{θ:Nat→Option ET}{E:List Ent}
theorem aEE{te H vs e A B}(a:ah P te e)(h:gdE H vs e A B=some b):A=some b∨B=some b:=by
 unfold gdE at h;split at h;·grind
 rename_i g _;obtain⟨_,w,_⟩:=a;unfold M7 at w;rw[qAb,qAb]at w;obtain⟨⟨_,w⟩,_⟩:=w;simp at w;obtain⟨s,u,_⟩:=Jj e.ps 0 _ [] [] w.1 (qAd _) h;obtain⟨x,_,c⟩:=Pw u
 grind
theorem aoW{te H k f vs K X}:∀{E:List Ent},(∀e∈E,ah P te e)->avG H k f vs E K X=some b->∃e∈E,e.f=f/\arL H k vs e K X=some b
 |[],_,h=>by cases h|e::E,c,h=>by
  have t:avG H k f vs E K X=some b->∃a∈e::E,a.f=f/\arL H k vs a K X=some b:=λg=>by
   obtain⟨a,j,l,m⟩:=aoW (λe d=>c e (qAl _ d)) g
   grind
  rcases aZ h with⟨i,g⟩|⟨_,g⟩
  ·simp at i;rcases aEE (c e (by simp)) g with g|g
   ·simp_all
   exact t g
  exact t g
theorem aym{H t up k o K}(a:Kup t up)(h:dG (TI.of P) θ up k o.dst t H o.op K=some b):
  ∃r s w,aJ P k o (bC (aT H t)) (obj? (aA H))=some (r,w)/\((∀x∈o.op.operands,VF (bC (aT H t) x))->w=BF H s)/\aqr t o s/\(∀x d,o.op=.move x->o.dst=some d->s=[.sl d (fq t x)])/\K r s=some b:=by
 by_cases m:∃x,o.op=.move x;·obtain⟨x,c⟩:=m;obtain⟨d,p,i,j,f,l⟩:=o;subst c;refine⟨[],eZ d (fq t x),au d (av H (fq t x)),by simp only[aJ,aB,bN],λ_=>(jH H d _).symm,ajZ rfl _,λy n e g=>?_,h⟩;cases e;subst g;rfl
 obtain⟨r,s,w,q,u,v,z⟩:=aBl (P:=P) a h
 grind
theorem atL{s s1 d v}(h:Ws s (eZ d v) s1):gT s1=(gT s).wr (au d (av s.h v)):=by rw[aB8 h,jH]
def aE7(P)te(b)(p:Int->DS->Option γ)(ops:List Oper)l(es:List Eff)s(K:List Eff->DS->Option γ):=
 (∃e r a,ATr P ops.toArray l e (gT s) (gT a)/\K (es.reverse++r) a=some b/\Sms r e/\Fr s a/\Inv a/\a.h.length=s.h.length)∨
 ∃f o g d a c,l=f++o::g/\ASteps P ops.toArray f (gT s) d/\dY ops.toArray d.tmps o=some true/\OpX P o (BA te c) d (gT a)/\p c a=some b/\Fr s a/\Inv a/\a.h.length=s.h.length
theorem ajF{te}(H:∀e∈E,ah P te e){z ops}:∀l k es s K,Inv s->VG (TI.of P) θ E z ops l k es s K=some b->aE7 P te b z ops l es s K
 |[],k,es,s,K,u,h=>.inl ⟨[],[],s,.nil _,by rw[qAt];exact h,.nil,Fr.refl s,u,rfl⟩|o::l,k,es,s,K,u,h=>by
  have h:(gdK ops o s (opK (TI.of P) θ E z ops o (λk es s=>VG (TI.of P) θ E z ops l k es s K) k es) λs=>En (eZ o.dst (.tup [])) s λs=>VG (TI.of P) θ E z ops l k (⟨aY ops.toArray o,[],erase (eZ o.dst (.tup []))⟩::es) s K)=some b:=h;have A:∀(e f:Eff) (R:Nat) (g:DS),Gr P ops.toArray o (gT s) f->gT g=(gT s).wr f.ws->Sm e f->Fr s g->Inv g->g.h.length=s.h.length->VG (TI.of P) θ E z ops l R (e::es) g K=some b->aE7 P te b z ops (o::l) es s K:=λe f R g h1 h2 S F h5 h6 h7=>by
   rcases ajF H l R (e::es) g K h5 h7 with⟨T,I,U,N,V,W,X,Y,Z⟩|⟨l1,op,l2,sx,U,c,g0,N,V,W,X,Y,Z,g7⟩
   ·rw[h2]at N;exact .inl ⟨f::T,e::I,U,.cons h1 N,by simpa using V,.cons S W,F.trans X,Y,Z.trans h6⟩
   have st:=(ATr.cons (l:=[]) h1 (.nil _)).steps;rw[<-h2]at st;refine .inr ⟨o::l1,op,l2,sx,U,c,by rw[g0];rfl,?_,V,W,X,F.trans Y,Z,g7.trans h6⟩;cases st with|cons a b=>cases b;exact .cons a N
  rcases aFR h with⟨q,h⟩|⟨q,h⟩
  ·unfold opK at h;split at h
   ·rename_i f y j;split at h
    ·rename_i fid m hf;obtain⟨e,B,he2,S⟩:=aoW H h;clear h;have n:y.toList.map (bC (gT s).tmps)++aT s.h m=aT s.h (y.toList.map (fq s.t)++m):=by rw[sS,sS,qAX,qBl];congr 1;exact qBq λx _=>bN _ _ _
     have J:(gT s).heap.length=(aA s.h).length:=rfl;have L:bC (gT s).tmps f=.func fid (aT s.h m):=by rw[show bC (gT s).tmps f=av s.h (fq s.t f)from bN _ _ _,hf];rfl
     obtain⟨t,ho⟩:=vP j;subst he2;rcases aCE (H e B) S with⟨C,D,Hi,I,Ho,G,v,c1,c2,O,c4,c5,c6,c7⟩|⟨nn,C,D,Hi,Ho,G,c,c1,c2,O,c4,c5,c6,c7⟩
     ·obtain⟨g,i,F⟩:=xK _ _ _ c5;obtain⟨Q,wa,wb⟩:=aza i;obtain⟨a1,a2⟩:=c7 s Q rfl wa;have M:=EP (P:=P) (ops:=ops.toArray) (o:=o) (s:=gT s) q ho L (H e B).1 (c2 _) O (by rw[J,n];exact c4) c1
      refine A ⟨aY ops.toArray o,C++rng k (aC e.rs),(C++rng k (aC e.rs)).map (λl=>.obj l .dead)++erase (eZ o.dst v)⟩ _ _ g M ?_ ⟨rfl,rfl,?_,?_⟩ (aof i) (afJ i u) (Tn i).2 F
      ·rw[atL wb,a2];have e2:gT Q=(gT s).wr (kU (C++rng k (aC e.rs)) (Ho.map (dR (nm (C++rng k (aC e.rs)) (gT s).heap.length)))):=by rw[Li];unfold gT;rw[a1,(apR wa λw q=>by obtain⟨p,e,_⟩:=c6 w q;rw[e];simp).2]
       rw[e2,<-Fw];rfl
      ·rw[agi,agi,adl,adp,qAs,qAs,(Fg (eZ o.dst v) Q.h).1,jH,a2];rfl
      rw[alD,alD,ahD,aiE _ _ (by rw[qAg];exact O),(Fg (eZ o.dst v) Q.h).2,jH,a2];rfl
     obtain⟨g,i,F⟩:=xK _ _ _ c5;have a1:=c7 s g rfl i;have hX:=arh (P:=P) (o:=o) (s:=gT s) ho L (H e B).1 (c2 _) O (by rw[J,n];exact c4) c1;have e2:gT g=(gT s).wr (kU (C++rng k nn) (Ho.map (dR (nm (C++rng k nn) (gT s).heap.length)))):=by rw[Li];unfold gT;rw[a1,(apR i λw q=>by obtain⟨p,e,_⟩:=c6 w q;rw[e];simp).2]
     rw[<-e2]at hX;exact .inr ⟨[],o,l,_,g,c,rfl,.nil _,q,hX,F,aof i,afJ i u,(Tn i).2⟩
    cases h
   rename_i j;obtain⟨rd,G,ws',r1,r2,r3,r5,r4⟩:=aym (P:=P) u.up h;obtain⟨g,i,h⟩:=xK _ _ _ r4;have d:=azX o g;have es1:gT (Ig o g)=gT g:=by unfold gT;rw[d.1,d.2.1]
   have r:=aof i;refine A ⟨aY ops.toArray o,rd,erase G⟩ ⟨aY ops.toArray o,rd,BF s.h G⟩ _ (Ig o g) (aC5 q r1 r2) ?_ ⟨rfl,rfl,(Fg G s.h).1,(Fg G s.h).2⟩ ⟨?_,?_,?_,?_,?_,?_⟩ (axG (afJ i u) i u r3 r5) (by rw[d.2.1];exact(Tn i).2) h;·rw[es1];exact aB8 i
   ·rw[d.1];exact r.tl
   ·rw[d.2.1];exact r.hl
   ·rw[d.2.2.1,d.1];exact r.d
   ·rw[d.2.2.2.1];exact r.om
   ·rw[d.2.2.2.2];exact r.oo
   rw[d.2.2.2.1,d.2.1];exact r.o
  obtain⟨g,i,h⟩:=xK _ _ _ h;have d:gT g=(gT s).wr (au o.dst (.tup [])):=atL i;exact A ⟨aY ops.toArray o,[],erase (eZ o.dst (.tup []))⟩ _ _ g (Fh q) d ⟨rfl,rfl,by rw[(Fg (eZ o.dst (.tup [])) s.h).1,jH];rfl,by rw[(Fg (eZ o.dst (.tup [])) s.h).2,jH];rfl⟩ (aof i) (afJ i u) (Tn i).2 h
end
end
section
open Go
theorem agT{n l q}:∀{es:List Ed} {s o:List Nat},eT n s o es=true->cov es l q=true->∃d,Ed.o l d∈es/\∀i,d=.bx i->q∈i.flatMap λp=>rng (p.1+1) (wE p.2)
 |[],_,_,_,h=>by cases h| .r _ _::es,s,o,w,h=>by
  simp only[eT,qAb]at w;obtain⟨d,a,b⟩:=agT (es:=es) w.2 h
  grind
 | .w _::es,s,o,w,h=>by
  obtain⟨d,a,b⟩:=agT (es:=es) (by simpa only[eT]using w) h
  grind
 | .o f d::es,s,o,w,h=>by
  simp only[eT,qAb]at w;simp only[cov,qBm,qAb]at h;rcases h with⟨a,b⟩|h
  ·have e:=qAj a;subst e;refine⟨d,by simp,λis e=>?_⟩;subst e;exact mem_iff.1 b
  obtain⟨c,a,b⟩:=agT w.2.2 h
  grind
theorem Rx{n l c d}:∀{es:List Ed} {s o:List Nat},eT n s o es=true->Ed.o l c∈es->Ed.o l d∈es->c=d
 |[],_,_,_,h,_=>by cases h| .r _ _::es,s,o,w,h,a=>by simp only[eT,qAb]at w;exact Rx w.2 (by simpa using h) (by simpa using a)
 | .w _::es,s,o,w,h,a=>Rx (es:=es) (by simpa only[eT]using w) (by simpa using h) (by simpa using a)| .o f i::es,s,o,w,h,a=>by
  simp only[eT,qAb]at w;rcases qAh.1 h with e|g
  ·injection e with e1 e2;subst e1;subst e2;rcases qAh.1 a with e|b
   ·grind
   exact(GH w.2.2 (qBD ..) b).elim
  rcases qAh.1 a with e|b
  ·injection e with e1 e2;subst e1;exact(GH w.2.2 (qBD ..) g).elim
  exact Rx w.2.2 g b
theorem atD:∀{a l:List Nat},avg a l=true->∀x∈a,x∈l
 |[],_,_,x,h=>by cases h|y::a,l,h,x,b=>by
  simp only[avg,qAb]at h;rcases qAh.1 b with rfl|b
  ·exact mem_iff.1 h.1
  exact atD h.2 x b
theorem auE{n o es}(h:arA n o es=true){l q}(a:l<n)(m:(l,q)∈o):cov es l q=true:=by
 have:=qAJ.1 h _ m;simp only[qBm]at this;rcases this with h|h
 ·have:n<=l:=qAe h;omega
 exact h
theorem II.mono{a c f g}(h:II a c f)(b:∀q,g q=false->f q=false):II a c g:=by
 rcases h with e|⟨x,y,d,i,j,k⟩
 ·exact .inl e
 exact .inr ⟨x,y,d,i,j,λq l=>k q (b q l)⟩
theorem akT{n}{h0 b}{o}{eds}(w:eT n [] [] eds=true)(hs:arA n o eds=true)
  (f:∀l,l<n->(l,0)∉o->II (nth .dead h0 l) (nth .dead b l) λq=>decide ((l,q+1)∈o)):
  ∀l,l<n->((∀d,Ed.o l d∉eds)->II (nth .dead h0 l) (nth .dead b l) λ_=>false)/\∀is,Ed.o l (.bx is)∈eds->II (nth .dead h0 l) (nth .dead b l) (pU is):=by
 intro l c;refine⟨λhno=>?_,λis m=>?_⟩
 ·have r:∀q,(l,q)∉o:=λq a=>by
   obtain⟨d,g,_⟩:=agT w (auE hs c a)
   grind
  grind
 have v:∀q,(l,q)∈o->q∈is.flatMap λp=>rng (p.1+1) (wE p.2):=λq a=>by obtain⟨d,g,j⟩:=agT w (auE hs c a);exact j is (Rx w g m)
 have e:(l,0)∉o:=λh=>by have:=v 0 h;rw[qBp]at this;obtain⟨p,_,k⟩:=this;rw[FU]at k;omega
 refine(f l c e).mono λq a=>decide_eq_false λh=>?_;unfold pU at a;rw[zw]at a
 grind
noncomputable def GN:List Nat->List TV->List TV|[],t=>t|n::l,t=>GN l (t.set n .unk)
theorem atw{a}:∀l t (K:List TV->Option a),avR l t K=K (GN l t)|[],_,_=>rfl|n::l,t,K=>by have h:avR (n::l) t K=yF t n .unk λt=>avR l t K:=rfl;rw[h,lC];exact atw l _ K
theorem afh:∀l t,(GN l t).length=t.length|[],_=>rfl|n::l,t=>by rw[GN,afh l,qAU]
theorem aeA:∀l t k,nth .unk (GN l t) k=if k∈l then .unk else nth .unk t k
 |[],_,_=>by simp[GN]|n::l,t,k=>by
  rw[GN,aeA l];by_cases a:k∈l;·grind
  rw[if_neg a];by_cases h:n=k
  ·subst h;rw[if_pos (qBD ..)];by_cases b:n<t.length
   ·exact bM b
   exact kQ (by rw[qAU];omega)
  rw[aU h,if_neg (by simp;exact⟨λe=>h e.symm,a⟩)]
theorem atr{n}:∀l t,iB n t=true->iB n (GN l t)=true
 |[],_,h=>h|k::l,t,h=>by
  refine atr l _ ?_
  induction t generalizing k with
  |nil=>exact h|cons v t i=>
   simp only[iB,qAb]at h;cases k with|zero=>simp;exact h.2|succ k=>simp only[List.set_cons_succ,iB,qAb];exact⟨h.1,i k h.2⟩
noncomputable def oQ(a:List Nat)(eds:List Ed)(s:DS)(u:List U):DS:=
 ⟨(dJ bI eds u (GN (a++jl eds) s.t) s.h).1,(dJ bI eds u (GN (a++jl eds) s.t) s.h).2,a++jl eds++s.d,aaP (dJ bI eds u (GN (a++jl eds) s.t) s.h).2 eds++s.o,s.up.filter λi=>!mem (a++jl eds) i,[],[],s.oo⟩
theorem aco{b} a eds s us (K:DS->Option b):JH a eds s us K=K (oQ a eds s us):=by unfold JH oQ;simp only[atw,PK]
structure St(m:Nat)(h0:List TObj)(s:DS):Prop where
 inv:Inv s
 len:m≤s.h.length
 ent:∀l,l<m→(l,0)∉s.o++s.oo→II (nth .dead h0 l) (nth .dead s.h l) fun q=>decide ((l,q+1)∈s.o++s.oo)
theorem St.step{m}{h0}{s s'}(h:St m h0 s)(f:Fr s s')(hi:Inv s'):St m h0 s':=by
 refine⟨hi,qAu h.len f.hl,λl b n=>?_⟩;rw[f.oo]at n|-;simp at n;refine II.trans (h.ent l b ?_) ((f.o l (qAD b h.len) n.1).mono (g:=λq=>decide ((l,q+1)∈s'.o++s.oo)) λq a=>?_) λq a=>?_
 ·simp;exact⟨λhm=>n.1 (f.om _ hm),n.2⟩
 ·grind
 simp at a|-;exact⟨λhm=>a.1 (f.om _ hm),a.2⟩
end
section
open Go
theorem atS es x:(eD (bF es) x).map U.t=bF es++[]:=by rw[JR,qAt]
theorem vW{H:List TObj}{l q}:∀{es:List Ed} {d:HO},Ed.o l d∈es->(match d with
  | .bx i=>match nth .dead H l with| .box _=>q∈i.flatMap λp=>rng (p.1+1) (wE p.2)|_=>q=0
  |_=>q=0)->(l,q)∈aaP H es
 |[],_,h,_=>by cases h| .r _ _::es,d,h,k=>vW (es:=es) (by simpa using h) k| .w _::es,d,h,k=>vW (es:=es) (by simpa using h) k| .o a b::es,d,h,k=>by
  simp only[aaP,qAn];rcases qAh.1 h with e|h
  ·grind
  exact .inr (vW h k)
theorem acj{k s}:∀{es:List Ed},Ed.r k s∈es->k∈jl es
 |[],h=>by cases h| .r a b::es,h=>by
  simp only[jl,qAh];rcases qAh.1 h with e|h
  ·grind
  exact .inr (acj h)
 | .w _::es,h=>acj (es:=es) (by simpa using h)| .o _ _::es,h=>acj (es:=es) (by simpa using h)
section
variable {s:DS}{a:List Nat}{eds:List Ed}{m:Nat}{h0:List TObj}
theorem alB(w:eT s.h.length [] [] eds=true)(x:jr (bF eds)){k}(h:k∉a++jl eds):nth .unk (oQ a eds s (eD _ x)).t k=nth .unk s.t k:=by
 have B:=sD eds (eD _ x) s.h.length [] [] (GN (a++jl eds) s.t) s.h [] (atS eds x) w (qAd _) rfl;rcases B.slot k with e|⟨c,u,b,_⟩
 ·rw[oQ,e,aeA,if_neg h]
 exact(h (qBA _ (acj b))).elim
theorem NZ(w:eT s.h.length [] [] eds=true)(x:jr (bF eds)):Fr s (oQ a eds s (eD _ x)):=by
 have B:=sD eds (eD _ x) s.h.length [] [] (GN (a++jl eds) s.t) s.h [] (atS eds x) w (qAd _) rfl;refine⟨by rw[oQ,B.tl,afh],by rw[oQ,B.hl];omega,λk v=>?_,λp y=>qBA _ y,rfl,λl z o=>?_⟩;·have g:k∉(a++jl eds)++s.d:=v;rw[qAn,not_or]at g;exact⟨g.2,alB w x g.1⟩
 let J:=oQ a eds s (eD _ x)
 have n:(l,0)∉aaP J.h eds++s.o:=o;rw[qAn,not_or]at n;by_cases d:∃hd,Ed.o l hd∈eds;·obtain⟨hd,d⟩:=d;obtain⟨u,r,A,b⟩:=B.obj l hd d;have b:nth .dead J.h l=(bH bI (nth .dead s.h l) hd u).1:=b;cases hd with
  |bx i=>
   cases j:nth .dead J.h l with
   |box m=>
    rw[j]at b;cases t:nth .dead s.h l with
    |box c=>
     rw[t]at b;simp only[bH]at b;cases f:(jv bI i (some c) u).1 with
     |none=>rw[f]at b;cases b|some C=>rw[f]at b;cases b;obtain⟨D,E⟩:=(NC i (some c) u r A).2 c m rfl f;refine .inr ⟨c,m,rfl,rfl,D,λq f=>E q ?_⟩;rw[decide_eq_false_iff_not]at f;have f:(l,q+1)∉aaP J.h eds++s.o:=f;rw[qAn,not_or]at f;unfold pU;rw[zw];exact λhin=>f.1 (vW d (by simp only[j];exact hin))
    |_=>rw[t]at b;simp only[bH]at b;cases b
   |_=>exact(n.1 (vW d (by simp only[j]))).elim
  |dead=>exact(n.1 (vW d rfl)).elim|box F=>exact(n.1 (vW d rfl)).elim|own e=>exact(n.1 (vW d rfl)).elim|mp e=>exact(n.1 (vW d rfl)).elim|arr e=>exact(n.1 (vW d rfl)).elim
 exact .inl (B.keepO l z λhd h=>d ⟨hd,h⟩)
theorem aeH(w:eT s.h.length [] [] eds=true)(x:jr (bF eds))(hi:Inv s):Inv (oQ a eds s (eD _ x)):=by refine⟨λi k c h b=>?_,λd i j h=>(by cases h),λd x h=>(by cases h)⟩;obtain⟨g,e⟩:=mem_filter h;have n:i∉a++jl eds:=zw.1 (by simpa using e);rw[alB w x n]at b;exact hi.up i k c g b
theorem UC{e}{b}{s'}{K:jr (bF eds)->Option e}(g:m<=s.h.length)(t:iB s.h.length s.t=true)(i:Gn s.h.length s.h=true)(w:eT s.h.length [] [] eds=true)(f:Fr (fresh s) s')
  (h:Gl a eds s s' (λus=>zD (bF eds) us K)=some b):∃x,K x=some b/\Le m (aT s'.h s'.t) (aA s'.h) (aT (oQ a eds s (eD _ x)).h (oQ a eds s (eD _ x)).t) (aA (oQ a eds s (eD _ x)).h):=by
 unfold Gl at h;rw[WU]at h;obtain⟨d,h⟩:=(aZ h).resolve_right λh=>by cases h.2
 simp at d;obtain⟨us,j,l⟩:=aaK (m:=m) (T0:=GN (a++jl eds) s.t) rfl g (atr _ _ t) i w (by rw[afh];exact f.tl.symm) f.hl (λk o=>by
  rw[aeA];by_cases c:k∈a++jl eds;·grind
  rw[if_neg c];exact .inr (f.d k λhd=>c (atD d.1 k hd)).2.symm) (akT w d.2 f.o) h
 obtain⟨x,rfl,n⟩:=Pw j;exact⟨x,n,(l _ _ rfl).2.2⟩
theorem QY{a b}{K:Option a}(h:DZ eds s K=some b):(iB s.h.length s.t=true/\Gn s.h.length s.h=true/\eT s.h.length [] [] eds=true)/\K=some b:=by
 unfold DZ at h;rw[WU]at h
 grind
end
theorem AW.vf{P m c Q}{s:DS}(h:(∀n,VF (av s.h (nth .unk s.t n)))->AW P m c Q (aT s.h s.t) (aA s.h)):AW P m c Q (aT s.h s.t) (aA s.h):=λC d a w k b=>
 h (λn=>by have:=(b.ev (.tmp n)).vf;rw[show bC (ASt.mk (aT s.h s.t) (aA s.h)).tmps (.tmp n)=av s.h (nth .unk s.t n)from bN _ _ _]at this;exact this) C d a w k b
theorem aC6{k:IntKind}{n}(h:k.min<=n)(h2:n<=k.max):k.wrap n=n:=by
 cases k;·exact IntWalk.i8_in n ⟨h,h2⟩
 ·exact IntWalk.i16_in n ⟨h,h2⟩
 ·exact IntWalk.i32_in n ⟨h,h2⟩
 ·exact IntWalk.i64_in n ⟨h,h2⟩
 ·exact IntWalk.u8_in n ⟨h,h2⟩
 ·exact IntWalk.u16_in n ⟨h,h2⟩
 ·exact IntWalk.u32_in n ⟨h,h2⟩
 exact IntWalk.u64_in n ⟨h,h2⟩
theorem TG{α f g n}:∀{l:List α},n∈sel f g l->∃x∈l,f x=true/\g x=n
 |[],h=>by cases h|x::l,h=>by
  simp only[sel]at h;cases c:f x with
  |true=>
   rw[c,cond_true]at h;rcases qAh.1 h with e|h
   ·grind
   obtain⟨y,a,b⟩:=TG h;exact⟨y,qAl _ a,b⟩
  |false=>rw[c,cond_false]at h;obtain⟨y,a,b⟩:=TG h;exact⟨y,qAl _ a,b⟩
theorem alH x s:(LX x s).t=s.t/\(LX x s).h=s.h/\(LX x s).d=s.d/\(LX x s).o=s.o/\(LX x s).oo=s.oo/\(LX x s).rl=s.rl/\(LX x s).cp=s.cp:=by cases x<;>exact⟨rfl,rfl,rfl,rfl,rfl,rfl,rfl⟩
theorem azN{x}{s}(hi:Inv s)(y:fq s.t x=.lf .b true)(v:∀n,VF (av s.h (nth .unk s.t n))):Inv (LX x s):=by
 obtain⟨q,_,_,_,_,z,A⟩:=alH x s;refine⟨?_,by rw[q,z];exact hi.rl,by rw[q,A];exact hi.cp⟩;cases x with
 |tmp d=>
  have B:nth .unk s.t d=.lf .b true:=y
  let o:Nat->Prop:=λi=>∀k a,nA (nth .unk s.t i)=some (k,a)->k.wrap (a+1)=a+1
  have C:∀i∈sel (λp:Nat×Nat×Nat=>Nat.beq p.1 d) (λp=>p.2.1) s.rl,o i:=λi m k a e=>by
   obtain⟨⟨f,r,j⟩,h,b,g⟩:=TG m;have b:f=d:=qAj b;subst b;subst g;obtain⟨c,D,E⟩:=hi.rl f r j h k a e;have F:=E true B;have G:a<c:=of_decide_eq_true F.symm;have H:qc k a:=by have:=v r;rw[axH e]at this;exact this
   have I:qc k c:=by have:=v j;rw[axH D]at this;exact this
   exact aC6 (by have:=H.1;omega) (by have:=I.2;omega)
  have t:∀u:List Nat,(∀i∈u,o i)->(∀i∈sel (λp:Nat×Nat=>mem u p.1) (λp=>p.2) s.cp++u,o i)/\∀i∈sel (λp:Nat×Nat=>mem u p.2) (λp=>p.1) s.cp++u,o i:=λu w=>by
   refine⟨λi m=>?_,λi m=>?_⟩
   ·rcases qAn.1 m with m|m
    ·obtain⟨⟨f,l⟩,h,b,g⟩:=TG m;subst g;intro k a e;rw[<-hi.cp f l h]at e;exact w f (mem_iff.1 b) k a e
    grind
   rcases qAn.1 m with m|m
   ·obtain⟨⟨f,l⟩,h,b,g⟩:=TG m;subst g;intro k a e;rw[hi.cp f l h]at e;exact w l (mem_iff.1 b) k a e
   grind
  intro i k a h b;simp only[LX]at h;rw[mem_iff,qAn]at h;rcases h with h|h
  ·exact(t _ (t _ C).1).2 i h k a b
  exact hi.up i k a (mem_iff.2 h) b
 |_=>exact hi.up
theorem aCK{s s1 s'}(h:Fr s1 s')(e:s1.t=s.t)(a:s1.h=s.h)(b:s1.d=s.d)(c:s1.o=s.o)(d:s1.oo=s.oo):Fr s s':=
 ⟨by rw[<-e];exact h.tl,by rw[<-a];exact h.hl,by rw[<-b,<-e];exact h.d,by rw[<-c];exact h.om,by rw[<-d];exact h.oo,by rw[<-a];exact h.o⟩
theorem afu{f}{b}:∀l n (K:List TObj->Option f),ahI l n K=some b->∃h c,l=h++xM c/\(n<=l.length->n<=h.length)/\K h=some b
 |[],n,K,h=>⟨[],0,rfl,id,h⟩|o::l,0,K,h=>by
  have h:(ahI l 0 λr=>match r with
   |[]=>bif lM o then K []else K [o]|x::s=>K (o::x::s))=some b:=h
  obtain⟨d,c,a,_,g⟩:=afu l 0 _ h;cases d with
  |nil=>
   rcases aZ g with⟨e,g⟩|⟨_,g⟩
   ·have e:o=.res:=by unfold lM at e;split at e;rfl;cases e
    exact⟨[],c+1,by rw[e,a];rfl,λ_=>qBf _,g⟩
   grind
  |cons x s=>exact⟨o::x::s,c,by rw[a];rfl,λ_=>qBf _,g⟩
 |o::l,n+1,K,h=>by
  obtain⟨d,c,a,i,g⟩:=afu l n _ h
  grind
theorem V5:∀c,xM c=List.replicate c .res|0=>rfl|c+1=>by simp only[xM,V5 c,qCu]
theorem ayF H c l:Lk H (H++xM c) l:=by
 unfold Lk;by_cases h:l<H.length;·rw[pY h];exact⟨rfl,λ_=>rfl⟩
 rw[kQ (by omega:H.length<=l)];have:nth .dead (H++xM c) l=.dead∨nth .dead (H++xM c) l=.res:=by
  rw[iK,List.getD,qAk (by omega),V5,qBU]
  grind
 rcases this with e|e<;>rw[e]<;>exact⟨rfl,λ_=>rfl⟩
theorem aj5 H c t:aT (H++xM c) t=aT H t:=(Vv t λl _=>ayF H c l).symm
theorem ae5 H c:aA (H++xM c)=aA H++List.replicate c .res:=by unfold aA;rw[qAX,V5,qDg];congr 1;refine qBq λo _=>?_;rw[<-V5];exact(aAP o λcs _ l _=>ayF H c l).symm
theorem atc{m} t H c:Le m t (H++List.replicate c .res) t H:=by
 intro C g a w _ s;have k:g.length=(H++List.replicate c AObj.res).length:=s.klen;have h:∀l,at? (g.take H.length) l=at? g l:=λl=>by
  unfold at?;by_cases j:l<H.length;·grind
  rw[qBt,if_neg j];by_cases i:l<g.length
  ·have r:obj? (H++List.replicate c AObj.res) l=.res:=by
    simp only[qAf,qBx]at k;unfold obj?
    grind
   have:=s.resv l r;unfold at? at this
   grind
  grind
 have f:∀l b,at? g l=some b->obj? H l=obj? (H++List.replicate c AObj.res) l:=λl b e=>by
  unfold obj?;by_cases j:l<H.length;·grind
  exfalso;rw[<-h l]at e;unfold at? at e
  grind
 refine⟨g.take H.length,s.step (H':=H) (Evo.refl _ _) (λl b e=>by rw[h];exact e) (by rw[qAB,k];simp only[qAf];omega) ?_ ?_ ?_ ?_ ?_ (λ_ _=>rfl) rfl rfl rfl⟩
 ·rintro b o (e|⟨l,d,i⟩) _
  ·exact .inl e
  rw[h]at d;rw[f l b d]at i;exact .inr ⟨l,d,i⟩
 ·grind
 ·intro l n b d i p q;rw[h]at d i;rw[f l b d]at p;rw[f n b i]at q;exact s.apart l n b d i p q
 ·intro l b d;rw[h]at d;exact s.bound l b d
 intro l d;cases e:at? (g.take H.length) l with
 |none=>rfl|some b=>rw[h]at e;rw[f l b e]at d;have:=s.resv l d;rw[e]at this;cases this
end
section
open Go
def Ir l N:=(List.range N).map λi=>if i=l then none else some i
theorem ab9{l N i}(h:i<N):(Ir l N)[i]? =some (if i=l then none else some i):=by simp[Ir,h]
theorem aqD{l N i}(h:N<=i):(Ir l N)[i]? =none:=by simp[Ir,h]
theorem aCs l N:(Ir l N).length=N:=by simp[Ir]
theorem Pf{l N i j}(h:(Ir l N)[i]? =some (some j)):i<N/\i≠l/\j=i:=by
 by_cases a:i<N
 ·rw[ab9 a]at h
  grind
 rw[aqD (by omega)]at h;cases h
theorem apO l N:some l∉Ir l N:=by
 intro h;obtain⟨i,a⟩:=qAR h;obtain⟨_,b,c⟩:=Pf a
 grind
theorem aFf{l N i b}(h:i<N)(n:i≠l):iY (Ir l N) b i=i:=by unfold iY;rw[ab9 h,if_neg n];rfl
mutual
theorem akq:∀v,fu bI v=v
 | .ptr _ _=>rfl| .mapr _=>rfl| .own _=>rfl| .psl _ _ _=>rfl| .ap _ _ _ _=>rfl
 | .eptr cs=>by simp only[fu,Jc cs]
 | .agg cs=>by simp only[fu,Jc cs]
 | .tup cs=>by simp only[fu,Jc cs]
 | .func _ cs=>by simp only[fu,Jc cs]
 | .unk=>rfl| .nilp=>rfl| .nilF=>rfl| .nils=>rfl| .lf _ _=>rfl| .nat _=>rfl
theorem Jc:∀vs,Cg bI vs=vs
 |[]=>rfl
 |v::vs=>by simp only[Cg,akq v,Jc vs]
end
theorem aeR H l:∀os j,(wC H l j os).length=os.length|[],_=>rfl|o::os,j=>by simp only[wC,qAo,aeR H l os]
theorem PL H l:∀os j i,nth .dead (wC H l j os) i=if j+i=l then .dead else Zc H l (nth .dead os i)
 |[],j,i=>by simp only[wC];split<;>rfl
 |o::os,j,0=>by
  show(bif Nat.beq j l then TObj.dead else Zc H l o)=_;by_cases e:j=l;·simp_all
  have h:Nat.beq j l=false:=by
   cases h:Nat.beq j l with|false=>rfl|true=>exact(e (qAj h)).elim
  rw[h,if_neg (by simpa using e)];rfl
 |o::os,j,i+1=>by show nth .dead (wC H l (j+1) os) i=if j+(i+1)=l then .dead else Zc H l (nth .dead os i);rw[PL H l os (j+1) i,show j+1+i=j+(i+1)from by omega]
theorem Rv H l:∀vs,mU H l vs=vs.map (gB H l)|[]=>rfl|v::vs=>by simp only[mU,qAz,Rv H l vs]
theorem yx H l vs k:nth .unk (mU H l vs) k=gB H l (nth .unk vs k):=by rw[Rv];exact Ug (d:=.unk) (d':=.unk) (gB H l) rfl vs k
theorem Kg{a b:Nat}(h:a≠b):Nat.beq a b=false:=by
 cases c:Nat.beq a b with|false=>rfl|true=>exact(h (qAj c)).elim
theorem WC{a b:Nat}(h:(!(Nat.beq a b))=true):a≠b:=λe=>by subst e;rw[nJ]at h;cases h
mutual
theorem Jk(H:List TObj)(l:Nat):∀v,uZ l v=true→gB H l v=v
 | .ptr l' o,h=>by simp only[gB,Kg (WC h),cond_false]
 | .mapr l',h=>by simp only[gB,Kg (WC h),cond_false]
 | .own l',h=>by simp only[gB,Kg (WC h),cond_false]
 | .psl l' _ _,h=>by simp only[gB,Kg (WC h),cond_false]
 | .ap l' _ _ _,h=>by simp only[gB,Kg (WC h),cond_false]
 | .eptr cs,h=>by simp only[gB,JZ H l cs h]
 | .agg cs,h=>by simp only[gB,JZ H l cs h]
 | .tup cs,h=>by simp only[gB,JZ H l cs h]
 | .func _ cs,h=>by simp only[gB,JZ H l cs h]
 | .unk,_=>rfl| .nilp,_=>rfl| .nilF,_=>rfl| .nils,_=>rfl| .lf _ _,_=>rfl| .nat _,_=>rfl
theorem JZ(H:List TObj)(l:Nat):∀vs,pV l vs=true→mU H l vs=vs
 |[],_=>rfl
 |v::vs,h=>by
  simp only[pV,qAb]at h;simp only[mU,Jk H l v h.1,JZ H l vs h.2]
end
def L8(l N i:Nat):=Nat.blt i N&&!Nat.beq i l
mutual
theorem Wq(l N:Nat):∀v,rfB N v=true→uZ l v=true→Iq (L8 l N) v=true
 | .ptr l' o,h,k=>qBF.2 ⟨h,k⟩
 | .mapr l',h,k=>qBF.2 ⟨h,k⟩
 | .own l',h,k=>qBF.2 ⟨h,k⟩
 | .psl l' _ _,h,k=>qBF.2 ⟨h,k⟩
 | .ap l' _ _ _,h,k=>qBF.2 ⟨h,k⟩
 | .eptr cs,h,k=>TL l N cs h k
 | .agg cs,h,k=>TL l N cs h k
 | .tup cs,h,k=>TL l N cs h k
 | .func _ cs,h,k=>TL l N cs h k
 | .unk,_,_=>rfl| .nilp,_,_=>rfl| .nilF,_,_=>rfl| .nils,_,_=>rfl| .lf _ _,_,_=>rfl| .nat _,_,_=>rfl
theorem TL(l N:Nat):∀vs,iB N vs=true→pV l vs=true→nP (L8 l N) vs=true
 |[],_,_=>rfl
 |v::vs,h,k=>by
  simp only[iB,qAb]at h;simp only[pV,qAb]at k;simp only[nP,qAb];exact⟨Wq l N v h.1 k.1,TL l N vs h.2 k.2⟩
end
section
variable {H:List TObj}{l:Nat}
theorem ap4{j}(h:j≠l):fA j (nth .dead (wC H l 0 H) j)=fA j (nth .dead H j)/\∀z,dU j z (nth .dead (wC H l 0 H) j)=dU j z (nth .dead H j):=by rw[PL,if_neg (by simpa using h)];cases nth .dead H j<;>exact⟨rfl,λ_=>rfl⟩
theorem atP:Lks bI (iY (Ir l H.length) (aA H).length) (L8 l H.length) H (wC H l 0 H):=by
 have o:∀j,L8 l H.length j=true->j<H.length/\j≠l:=λj h=>by unfold L8 at h;simp only[qAb]at h;exact⟨qAe h.1,WC h.2⟩
 have n:∀j,L8 l H.length j=true->iY (Ir l H.length) (aA H).length j=j:=λj h=>aFf (o j h).1 (o j h).2;refine⟨n,λj h=>?_,λj z h=>?_⟩;·rw[(ap4 (o j h).2).1];show fA j (nth .dead H j)=_;cases nth .dead H j<;>simp only[fA,ren,pK,mg,n j h]
 rw[(ap4 (o j h).2).2 z];show dU j z (nth .dead H j)=_;cases nth .dead H j<;>simp only[dU,ren,n j h]
theorem TT{v}(h:Iq (L8 l H.length) v=true):VW (aA H) (Ir l H.length) (av (wC H l 0 H) v) (av H v):=by have:=Ph atP v h;rw[akq]at this;exact .same this.symm
theorem az9{vs}(h:nP (L8 l H.length) vs=true):aX H vs=dL (iY (Ir l H.length) (aA H).length) (aX (wC H l 0 H) vs):=by have:=abM atP vs h;rwa[Jc]at this
theorem aya{H cs p}(h:azD H cs=some p):∃v,aX H cs=ET.enc .dec p.1++[v]/\(v=.flist (p.2.map (ET.enc .dec))∨v=.nilp/\p.2=[]):=by
 obtain⟨u,r,s,a,d,b⟩:=Ud _ _ _ _ h;have b:=ap1 b;split at a;·rename_i y;obtain⟨x,rfl,c⟩:=jN a;cases c;exact⟨_,by rw[d,<-b];rfl,.inl rfl⟩
 ·obtain⟨x,rfl,c⟩:=jN a;cases c;exact⟨_,by rw[d,<-b];rfl,.inr ⟨rfl,rfl⟩⟩
 cases a
theorem aAH{v}(h:one v):one (gB H l v):=by
 refine WE λe x q=>?_;cases v with
 |ptr a o=>
  simp only[gB]at q;cases b:Nat.beq a l with
  |false=>rw[b]at q;cases q|true=>
   unfold aaQ at q
   grind
 |mapr a=>
  simp only[gB]at q
  grind
 |ap a i z o=>
  simp only[gB]at q
  grind
 |own a=>
  simp only[gB]at q;cases b:Nat.beq a l with
  |false=>rw[b]at q;cases q|true=>
   unfold auU at q
   grind
 |psl a z c=>
  simp only[gB]at q;cases b:Nat.beq a l with|false=>rw[b]at q;cases q|true=>
   unfold auW at q
   grind
 |lf t y=>obtain⟨rfl,_⟩:=q;have:=vv h;cases e<;>cases this
 |_=>simp only[gB]at q;cases q
theorem al6 G xs j:ren G (xs.getD j .unk)=(dL G xs).getD j .unk:=by rw[sU];simp;cases xs[j]?<;>rfl
mutual
theorem ajy(hH:∀cs,nth .dead H l=.box cs→iB H.length cs=true):∀v,rfB H.length v=true→VW (aA H) (Ir l H.length) (av (wC H l 0 H) (gB H l v)) (av H v)
 | .ptr l' o,h=>by
  by_cases e:l'=l
  ·subst e;simp only[gB,nJ,cond_true];cases o with
   |succ o=>exact .unk _
   |zero=>
    simp only[aaQ];split
    ·rename_i cs hc;cases hn:pV l' cs with
     |false=>exact .unk _
     |true=>
      simp only[cond_true];split
      ·rename_i p hp;obtain⟨v,h1,h2⟩:=aya hp;refine VW.frzF (cs':=ET.enc .dec p.1) (v:=v) (by rw[jT,hc];simp only[fJ,h1]) (apO _ _) rfl (fun j _=>?_) ?_
       ·refine .same ?_;have:=ZA .dec (iY (Ir l' H.length) (aA H).length) p.1;rw[al6,this]
       ·rcases h2 with rfl|⟨rfl,h2⟩
        ·exact .same (congrArg AV.flist (mg .dec _ p.2))
        ·rw[h2];exact .nilF
      simp only[av];have hs:=az9 (TL l' H.length cs (hH cs hc) hn);refine VW.frz (cs':=aX H cs) (by rw[jT,hc];rfl) (apO _ _) ?_ fun j=>?_
      ·rw[hs,iI];omega
      ·rw[qAK,hs];exact .same (al6 _ _ _)
    ·exact .unk _
  ·have hn:uZ l (.ptr l' o)=true:=by simp only[uZ,Kg e];rfl
   rw[Jk _ _ _ hn];exact TT (Wq _ _ _ h hn)
 | .mapr l',h=>by
  by_cases e:l'=l
  ·subst e;simp only[gB,nJ,cond_true];exact .unk _
  ·have hn:uZ l (.mapr l')=true:=by simp only[uZ,Kg e];rfl
   rw[Jk _ _ _ hn];exact TT (Wq _ _ _ h hn)
 | .ap l' i z o,h=>by
  by_cases e:l'=l
  ·subst e;simp only[gB,nJ,cond_true];exact .unk _
  ·have hn:uZ l (.ap l' i z o)=true:=by simp only[uZ,Kg e];rfl
   rw[Jk _ _ _ hn];exact TT (Wq _ _ _ h hn)
 | .own l',h=>by
  by_cases e:l'=l
  ·subst e;simp only[gB,nJ,cond_true,auU];split
   ·rename_i e xs hc;simp only[av,jw,hc,fA];exact .share (mg _ _ _)
   ·exact .unk _
  ·have hn:uZ l (.own l')=true:=by simp only[uZ,Kg e];rfl
   rw[Jk _ _ _ hn];exact TT (Wq _ _ _ h hn)
 | .psl l' z c,h=>by
  by_cases e:l'=l
  ·subst e;simp only[gB,nJ,cond_true];cases c with
   |some k=>exact .unk _
   |none=>
    simp only[auW];split
    ·rename_i e xs hc;cases hs:aaI e z with
     |false=>exact .unk _
     |true=>
      have hs:=NU hs;subst hs;simp only[cond_true,av,jw,hc,dU];refine VW.aaQ (es0:=xs.map e.enc) (by rw[jT,hc];rfl) (apO _ _) (by simp) ?_;rw[mg,qCl (by simp)]
    ·exact .unk _
  ·have hn:uZ l (.psl l' z c)=true:=by simp only[uZ,Kg e];rfl
   rw[Jk _ _ _ hn];exact TT (Wq _ _ _ h hn)
 | .eptr cs,h=>by simp only[gB,av];exact .eptr (jf (Jg hH cs h)).1 (jf (Jg hH cs h)).2
 | .agg cs,h=>by simp only[gB,av];exact .agg (jf (Jg hH cs h)).1 (jf (Jg hH cs h)).2
 | .tup cs,h=>by simp only[gB,av];exact .tup (jf (PV hH cs h)).1 (jf (PV hH cs h)).2
 | .func f cs,h=>by simp only[gB,av];exact .func (jf (PV hH cs h)).1 (jf (PV hH cs h)).2
 | .unk,_=>.same rfl| .nilp,_=>.same rfl| .nilF,_=>.same rfl| .nils,_=>.same rfl| .lf t x,_=>.same (Jt _ t x)| .nat _,_=>.same rfl
theorem Jg(hH:∀cs,nth .dead H l=.box cs→iB H.length cs=true):∀vs,iB H.length vs=true→Rs (VW (aA H) (Ir l H.length)) (aX (wC H l 0 H) (mU H l vs)) (aX H vs)
 |[],_=>.nil
 |v::vs,h=>by
  simp only[iB,qAb]at h;have h1:=ajy hH v h.1;have h2:=Jg hH vs h.2;simp only[mU,aX];refine Rs.app ?_ h2;rcases qY v with ho|⟨e,x,rfl⟩
  ·rw[ho,aAH ho];exact .cons h1 .nil
  ·simp only[gB,zM];have:=(abU e x);generalize e.enc x=l at this;clear h1
   induction l with
   |nil=>exact .nil
   |cons a l ih=>exact .cons (.same (this a (by simp) _)) (ih fun b hb=>this b (by simp[hb]))
theorem PV(hH:∀cs,nth .dead H l=.box cs→iB H.length cs=true):∀vs,iB H.length vs=true→Rs (VW (aA H) (Ir l H.length)) (aT (wC H l 0 H) (mU H l vs)) (aT H vs)
 |[],_=>.nil
 |v::vs,h=>by
  simp only[iB,qAb]at h;simp only[mU,aT];exact .cons (ajy hH v h.1) (PV hH vs h.2)
end
end
theorem aDU{m l}{s}(u:m<=l)(t:iB s.h.length s.t=true)(d:Gn s.h.length s.h=true)(o:m<=s.h.length):Le m (aT s.h s.t) (aA s.h) (aT (Mc l s).h (Mc l s).t) (aA (Mc l s).h):=by
 have f:∀cs,nth .dead s.h l=.box cs->iB s.h.length cs=true:=λcs p=>(wV d).2 cs p;refine Le.of (Ir l s.h.length) ⟨?_,?_,λi a=>?_,?_,?_,λn=>?_,?_,?_⟩;·simp only[Mc,Cz,Rv,qAg]
 ·simp only[Mc,aCs,aA,qAg,aeR]
 ·rw[ab9 (by omega),if_neg (by omega)]
 ·intro i j k h b _ _;obtain⟨_,_,c⟩:=Pf h;obtain⟨_,_,v⟩:=Pf b;omega
 ·intro i k h;obtain⟨b,_,c⟩:=Pf h;simp only[aA,qAg];omega
 ·rw[Cb,Cb];show VW _ _ (av (wC s.h l 0 s.h) (nth .unk (mU s.h l s.t) n)) _;rw[yx];refine ajy f _ ?_;by_cases g:n<s.t.length
  ·refine aiP t _ ?_;rw[iK,List.getD,qAc g];exact qAN g
  rw[kQ (by omega)];rfl
 ·intro i k h;obtain⟨b,q,c⟩:=Pf h;subst c;rw[jT,jT];show OW _ _ (fJ (wC s.h l 0 s.h) (nth .dead (wC s.h l 0 s.h) k)) _;rw[PL,if_neg (by simpa using q)];cases r:nth .dead s.h k with|box cs=>have:=Jg f cs ((wV d).2 cs r);exact .box (jf this).1 (jf this).2|own e x=>exact .tip _|gone e x=>exact .dead _|mp e x=>exact .same rfl (by simp only[Zc,fJ,dR,NW])|arr e x=>exact .same rfl (by simp only[Zc,fJ,dR,mg])|gon n=>exact .dead _|dead=>exact .dead _|res=>exact .dead _
 intro i h;have a:i<s.h.length:=by apply qAp;intro a;rw[aqD (by omega)]at h;cases h
 rw[ab9 a]at h;have e:i=l:=by grind
 subst e;rw[jT];show bS (fJ (wC s.h i 0 s.h) (nth .dead (wC s.h i 0 s.h) i))=false;rw[PL,if_pos (by omega)];rfl
theorem abW{l k}:∀{vs:List TV} {j:Nat},j+k∉aaw l j vs->uZ l (nth .unk vs k)=true
 |[],j,_=>by rw[kQ (qBf _)];rfl|v::vs,j,h=>by
  simp only[aaw]at h;cases a:uZ l v with
  |true=>
   rw[a,cond_true]at h;cases k with|zero=>exact a|succ k=>exact abW (vs:=vs) (j:=j+1) (by rwa[show j+1+k=j+(k+1)from by omega])
  |false=>
   rw[a,cond_false,qAh,not_or]at h;cases k with|zero=>exact(h.1 (qAP _)).elim|succ k=>exact abW (vs:=vs) (j:=j+1) (by rw[show j+1+k=j+(k+1)from by omega];exact h.2)
theorem ajS{l k}:∀{os:List TObj} {j:Nat},(j+k,0)∉OE l j os->∀cs,nth .dead os k=.box cs->pV l cs=true
 |[],j,_,cs,c=>by rw[kQ (qBf _)]at c;cases c|o::os,j,h,cs,c=>by
  have t:∀a,k=a+1->(j+1+a,0)∉OE l (j+1) os->pV l cs=true:=λk' e n=>by subst e;exact ajS (os:=os) n cs c
  cases k with
  |zero=>
   subst c;simp only[OE]at h
   grind
  |succ k=>
   refine t k rfl ?_;rw[show j+1+k=j+(k+1)from by omega];cases o with
   |box s=>
    simp only[OE]at h
    grind
   |_=>simpa only[OE]using h
theorem aCp l s (b:Gn s.h.length s.h=true):Fr s (Mc l s):=by
 refine⟨by simp only[Mc,Rv,qAg],by simp only[Mc,aeR];exact qAd _,λk a=>?_,λp c=>?_,rfl,λi g h=>?_⟩;·have a:k∉aaw l 0 s.t++s.d:=a;rw[qAn,not_or]at a;refine⟨a.2,?_⟩;show nth .unk (mU s.h l s.t) k=_;rw[yx,Jk _ _ _ (abW (j:=0) (by rw[qAK];exact a.1))]
 ·exact qAl _ (qBA _ c)
 have h:(i,0)∉(l,0)::(OE l 0 s.h++s.o):=h;rw[qAh,qAn,not_or,not_or]at h;have n:i≠l:=λe=>h.1 (by rw[e]);have d:nth .dead (Mc l s).h i=Zc s.h l (nth .dead s.h i):=by show nth .dead (wC s.h l 0 s.h) i=_;rw[PL,if_neg (by simpa using n)]
 rw[d];cases o:nth .dead s.h i with|box f=>left;simp only[Zc];rw[JZ _ _ _ (ajS (j:=0) (by rw[qAK];exact h.2.1) f o)]|res=>exact((wV b).1 o).elim|_=>exact .inl rfl
theorem ag3 H l v:gB H l v=v∨((∃e x,gB H l v=.lf (.l e) x)∨∃e x,gB H l v=.lf (.f e) x)∨(∃s,gB H l v=.eptr s)∨(∃s,gB H l v=.agg s)∨(∃s,gB H l v=.tup s)∨(∃f s,gB H l v=.func f s)∨gB H l v=.unk:=by
 cases v with
 |ptr a o=>
  simp only[gB];cases Nat.beq a l with
  |false=>exact .inl rfl|true=>
   unfold aaQ
   grind
 |mapr a=>
  simp only[gB]
  grind
 |ap a i z o=>
  simp only[gB]
  grind
 |own a=>
  simp only[gB];cases Nat.beq a l with|false=>exact .inl rfl|true=>
   unfold auU
   grind
 |psl a z c=>
  simp only[gB];cases Nat.beq a l with|false=>exact .inl rfl|true=>
   unfold auW
   grind
 |eptr s=>exact .inr (.inr (.inl ⟨_,rfl⟩))|agg s=>exact .inr (.inr (.inr (.inl ⟨_,rfl⟩)))|tup s=>exact .inr (.inr (.inr (.inr (.inl ⟨_,rfl⟩))))|func f s=>exact .inr (.inr (.inr (.inr (.inr (.inl ⟨_,_,rfl⟩)))))|_=>exact .inl rfl
theorem apf H l v {k a}(h:nA (gB H l v)=some (k,a)):nA v=some (k,a):=by rcases ag3 H l v with e|(⟨_,_,e⟩|⟨_,_,e⟩)|⟨_,e⟩|⟨_,e⟩|⟨_,e⟩|⟨_,_,e⟩|e<;>rw[e]at h<;>first|exact h|cases h
theorem ayH H l v {k a}(h:nA v=some (k,a)):nA (gB H l v)=some (k,a):=by cases v<;>first|exact h|cases h
theorem ayJ H l v {b:Bool}(h:gB H l v=.lf .b b):v=.lf .b b:=by rcases ag3 H l v with e|(⟨_,_,e⟩|⟨_,_,e⟩)|⟨_,e⟩|⟨_,e⟩|⟨_,e⟩|⟨_,_,e⟩|e<;>rw[e]at h<;>first|exact h|cases h
theorem azT l {s}(hi:Inv s):Inv (Mc l s):=by
 refine⟨λi k a e h=>?_,λd i j e k a h=>?_,λd x e=>?_⟩;·have h:nA (nth .unk (mU s.h l s.t) i)=some (k,a):=h;rw[yx]at h;exact hi.up i k a e (apf _ _ _ h)
 ·have h:nA (nth .unk (mU s.h l s.t) i)=some (k,a):=h;rw[yx]at h;obtain⟨c,g,m⟩:=hi.rl d i j e k a (apf _ _ _ h);refine⟨c,?_,λb f=>m b ?_⟩
  ·show nA (nth .unk (mU s.h l s.t) j)=_;rw[yx];exact ayH _ _ _ g
  have f:nth .unk (mU s.h l s.t) d=.lf .b b:=f;rw[yx]at f;exact ayJ _ _ _ f
 show nth .unk (mU s.h l s.t) d=nth .unk (mU s.h l s.t) x;rw[yx,yx,hi.cp d x e]
theorem akk{g b m}:∀d s (K:DS->Option g),m<=s.h.length->Inv s->aoV m d s K=some b->∃a,K a=some b/\Fr s a/\Inv a/\Le m (aT s.h s.t) (aA s.h) (aT a.h a.t) (aA a.h)
 |[],s,K,_,i,h=>⟨s,h,Fr.refl s,i,λ_ j _ _ _ k=>⟨j,k⟩⟩|l::d,s,K,e,i,h=>by
  simp only[aoV]at h;rw[WU]at h;obtain⟨c,h⟩:=(aZ h).resolve_right λh=>by cases h.2
  simp only[qAb]at c;have f:=aCp l s c.2.2.2;obtain⟨a,n,o,p,q⟩:=akk d (Mc l s) K (qAu e f.hl) (azT l i) h;exact⟨a,n,f.trans o,p,(aDU (qAe c.1) c.2.2.1 c.2.2.2 e).trans q⟩
end
end Abs
end Go.Proofs.YtneeginmfjageaaGreat
