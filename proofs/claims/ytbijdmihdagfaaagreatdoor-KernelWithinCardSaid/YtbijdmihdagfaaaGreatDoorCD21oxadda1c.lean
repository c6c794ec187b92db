/-
  A call by an entry does what the entry says. Conditions: the entry's contract.
-/
import Derived.IntWalk
import Derived.Test.YtbijdmihdagfaaaGreatDoorCD17ox0ed077
set_option linter.all false
namespace Go.Proofs.YtbijdmihdagfaaaGreatDoor
namespace Abs
section
open Go
mutual
theorem UR{A B:Nat→Bool}(h:∀l,A l=true→B l=true):∀v,AA A v=true→AA B v=true
 | .ptr l _,k=>h l k
 | .mapr l,k=>h l k
 | .own l,k=>h l k
 | .psl l _ _,k=>h l k
 | .ap l _ _ _,k=>h l k
 | .eptr cs,k=>DI h cs k
 | .agg cs,k=>DI h cs k
 | .tup cs,k=>DI h cs k
 | .func _ cs,k=>DI h cs k
 | .unk,_=>rfl| .nilp,_=>rfl| .nilF,_=>rfl| .nils,_=>rfl| .lf _ _,_=>rfl| .nat _,_=>rfl
theorem DI{A B:Nat→Bool}(h:∀l,A l=true→B l=true):∀vs,jW A vs=true→jW B vs=true
 |[],_=>rfl
 |v::vs,k=>by
  simp only[jW,qAa]at k⊢;exact⟨UR h v k.1,DI h vs k.2⟩
end
theorem agH(g:Nat→Nat)(n:Nat):(bQ n).map (dD g)=bQ n:=by unfold bQ;rw[qCg];rfl
theorem Sg(n k:Nat):nth .unk (bQ n) k=.unk:=by
 unfold bQ;rw[eH,List.getD,qBp];split<;>rfl
theorem ak5(g:Nat→Nat)(r:List TV):res1 (r.map (dD g))=dD g (res1 r):=by
 match r with
 |[]=>rfl
 |[v]=>rfl
 |v::w::r=>simp only[qAF,res1,dD,yR]
theorem anv{A:Nat→Bool}{r:List TV}(h:∀v∈r,AA A v=true):AA A (res1 r)=true:=by
 match r with
 |[]=>rfl
 |[v]=>exact h v (by simp)
 |v::w::r=>exact acG.2 h
section
variable {γ:Type}{b:γ}{P:Program}
theorem amd{H:List TObj}{k:Nat}{vs:List TV}{ps:List Ed}{na:Nat}(rs:List Ed)(nr:Nat)(z:fU (aY rs)){x:fU (aY ps)}{us:List U}{L0:Nat→Option Nat}{ρ:List Nat}{Q:List TWr→TV→Option γ}
  (edps:dz 0 [] [] ps=true) (edrs:dz (aC ps) [] [] rs=true) (psok:Hw (aC ps) rs 0 ps=true) (rsok:tZ (aC ps+aC rs) (killed rs) (kinds ps) rs=true) (hna:vs.length=na) (hρl:ρ.length=aC ps) (hnd:ρ.Nodup)
  (hres:∀l∈rng k (aC rs),iq (nth .dead H l)=true) (hsome:∀j,j<aC ps→L0 j=ρ[j]?) (L0ge:∀j,aC ps≤j→L0 j=none) (hx:dG (aY ps) x=us) {T1:List TV} {h1:List TObj} (q1:bV bg ps us (bQ na) []=(T1,h1)) (la:LaidD H L0 1 0 vs 0 ps (bQ na) [] T1 h1)
  (hus:(GI (iK (ρ++rng k (aC rs))) ps us (bQ na) [] fun _ h=>GI (iK (ρ++rng k (aC rs))) rs (dG (aY rs) z) (bQ nr) h fun r h'=>Am ρ h' k (aC ps) rs fun ws=>Q ws (res1 r))=some b):
  ∃r h2 ws v,bV bg rs (dG (aY rs) z) (bQ nr) h1=(r,h2)∧(∀tm,Passes ⟨tm,aD H⟩ ρ (rng k (aC rs)) (aD h1))∧(aD h2).length=(ρ++rng k (aC rs)).length∧
   SWs (aQ H vs) ((aQ h1 T1).map (ren (nm (ρ++rng k (aC rs)) (aD H).length)))∧Q ws v=some b∧(∀w∈ws,∃p,tgt w=some p∧p∈ρ++rng k (aC rs))∧
   ∀s s',s.h=H→Ws s ws s'→aD s'.h=jX (aD H) (ρ++rng k (aC rs)) ((aD h2).map (bO (nm (ρ++rng k (aC rs)) (aD H).length)))∧av s'.h v=ren (nm (ρ++rng k (aC rs)) (aD H).length) (av h2 (res1 r)):=by
 rw[GQ]at hus;have ren1:=H6 (iK (ρ++rng k (aC rs))) ps us (bQ na) [];rw[agH,qCZ,q1]at ren1;rw[ren1]at hus;simp only at hus;rw[GQ]at hus;generalize hq2:bV bg rs (dG (aY rs) z) (bQ nr) h1=q2 at *;obtain⟨r,h2⟩:=q2;have ren2:=H6 (iK (ρ++rng k (aC rs))) rs (dG (aY rs) z) (bQ nr) h1;rw[agH,hq2]at ren2;rw[ren2]at hus;simp only at hus;have h1l:h1.length=aC ps:=by rw[la.hl,qAv]
 have bs:=mM rs (dG (aY rs) z) (aC ps) [] [] (bQ nr) h1 [] (by rw[BF,qAs]) edrs (qAr _) h1l;rw[hq2]at bs;simp only at bs
 let L:=ρ++rng k (aC rs)
 let g:=iK L
 let G:=nm L (aD H).length
 have Lold:∀j,j<aC ps→∃l,ρ[j]? =some l∧L[j]? =some l∧L0 j=some l:=fun j hj=>by
  have hl:ρ[j]? =some (ρ[j]'(by omega)):=qAd _;exact⟨_,hl,by simp only[L];rw[qAe (by omega)];exact hl,by rw[hsome j hj];exact hl⟩
 have Lnew:∀i,i<aC rs→L[aC ps+i]? =some (k+i):=fun i hi=>by
  simp only[L];rw[qAi (by omega),hρl,Nat.add_sub_cancel_left];exact agv _ _ _ hi
 have Llen:L.length=aC ps+aC rs:=by simp only[L,qAg,hρl,agE]
 -- what the objects that are handed in are
 have inO:∀j,j<aC ps→∃l hd,ρ[j]? =some l∧Ed.w hd∈ps∧nth .dead (kinds ps) j=hd∧FO H L0 0 hd .dead (nth .dead h1 j) (nth .dead H l):=fun j hj=>by
  rcases la.new j hj with⟨l,hd,e1,⟨e2,e2'⟩,e3⟩|⟨_,hm,_⟩
  ·rw[qAv]at e1 e3;exact⟨l,hd,by rw[←hsome j hj];exact e1,e2,e2',e3⟩
  ·omega
 have alive:∀l∈ρ,nth .dead H l≠ .dead∧nth .dead H l≠ .res:=fun l hl=>by
  obtain⟨j,hj⟩:=qAL hl;have hjl:=(qAp.1 hj).1;obtain⟨l',hd,e1,e2,_,e3⟩:=inO j (by omega);rw[hj]at e1;cases e1;obtain⟨p1,p2,_⟩:=Dy psok hd e2;cases hd with
  |dead=>exact(p1 rfl).elim
  |bx is=>exact(p2 is rfl).elim
  |box cs=>obtain⟨ws,vs,_,e4,_⟩:=e3;rw[e4];exact⟨fun h=>(by cases h),fun h=>(by cases h)⟩
  |own e=>obtain⟨_,_,_,e4⟩:=e3;rw[e4];exact⟨fun h=>(by cases h),fun h=>(by cases h)⟩
  |mp e=>obtain⟨_,_,_,e4⟩:=e3;rw[e4];exact⟨fun h=>(by cases h),fun h=>(by cases h)⟩
  |arr e=>obtain⟨_,_,_,e4⟩:=e3;rw[e4];exact⟨fun h=>(by cases h),fun h=>(by cases h)⟩
 have inlt:∀l∈ρ,l<H.length:=fun l hl=>Rv (alive l hl).1;have reslt:∀l∈rng k (aC rs),l<H.length:=fun l hl=>yC (hres l hl);have hG0:∀j l,L0 j=some l→G j=l:=fun j l hj=>by
  have hlt:j<aC ps:=by
   apply qAl;intro hn;rw[L0ge j (by omega)]at hj;cases hj
  obtain⟨l',e1,e2,e3⟩:=Lold j hlt;rw[hj]at e3;cases e3;exact aiY e2
 have look0:∀j l,L0 j=some l→dH l (nth .dead H l)=ren G (dH j (nth .dead h1 j))∧∀z,bZ l z (nth .dead H l)=ren G (bZ j z (nth .dead h1 j)):=fun j l hj=>by
  have hlt:j<aC ps:=by
   apply qAl;intro hn;rw[L0ge j (by omega)]at hj;cases hj
  obtain⟨l',hd,e1,e2,_,e3⟩:=inO j hlt;rw[←hsome j hlt,hj]at e1;cases e1;have hg:=hG0 j l hj;cases hd with
  |dead=>exact((Dy psok _ e2).1 rfl).elim
  |bx is=>exact((Dy psok _ e2).2.1 is rfl).elim
  |box cs=>obtain⟨ws,vs,e4,e5,_⟩:=e3;rw[e4,e5];exact⟨rfl,fun _=>rfl⟩
  |own e=>obtain⟨_,_,e4,e5⟩:=e3;rw[e4,e5];exact⟨by simp only[dH,ren,nP,jy,hg],fun _=>rfl⟩
  |mp e=>obtain⟨_,_,e4,e5⟩:=e3;rw[e4,e5];exact⟨rfl,fun _=>rfl⟩
  |arr e=>obtain⟨_,_,e4,e5⟩:=e3;rw[e4,e5];exact⟨rfl,fun _=>by simp only[bZ,ren,hg]⟩
 have hW:=anb (H:=H) (Hk:=h1) hG0 look0;have objEq:∀j l,ρ[j]? =some l→dM H (nth .dead H l)=bO G (dM h1 (nth .dead h1 j)):=fun j l hj=>by
  have hlt:j<aC ps:=by have:=(qAp.1 hj).1;omega
  obtain⟨l',hd,e1,e2,_,e3⟩:=inO j hlt;rw[hj]at e1;cases e1;cases hd with
  |dead=>exact((Dy psok _ e2).1 rfl).elim
  |bx is=>exact((Dy psok _ e2).2.1 is rfl).elim
  |box cs=>obtain⟨ws,vs,e4,e5,e6⟩:=e3;rw[e4,e5];simp only[dM,bO,rs0 (e6 h1 _ hW)]
  |own e=>obtain⟨_,_,e4,e5⟩:=e3;rw[e4,e5];rfl
  |mp e=>obtain⟨_,_,e4,e5⟩:=e3;rw[e4,e5];simp only[dM,bO,F4]
  |arr e=>obtain⟨_,_,e4,e5⟩:=e3;rw[e4,e5];simp only[dM,bO,jy]
 have disj:∀l∈ρ,l∉rng k (aC rs):=fun l hl hm=>by
  have:=hres l hm;have h2:=(alive l hl).2;unfold iq at this;split at this
  ·rename_i q;exact h2 q
  ·cases this
 have Lnd:L.Nodup:=List.nodup_append.2 ⟨hnd,aav _ _,fun a ha c hc e=>by subst e;exact disj a ha hc⟩;obtain⟨ws,hws,htg,hwro⟩:=Ym hnd hρl rs k (aC ps) [] [] _ edrs (fun p hp=>by
  have:=disj p hp;rw[zh]at this;omega) hus
 have ixL:∀l,l<aC ps→iK ρ l=g l:=fun l hl=>by
  obtain⟨p,e1,e2,_⟩:=Lold l hl;rw[qc e1];exact(qc e2).symm
 have tgL:∀w∈ws,∃p,tgt w=some p∧p∈L:=fun w hw=>by
  obtain⟨p,e1,e2⟩:=htg w hw;refine⟨p,e1,?_⟩;rcases e2 with⟨l,hd,q1,q2⟩|⟨q1,q2⟩
  ·obtain⟨p',e3,_,_⟩:=Lold l (j4 edrs q1);rw[qc e3]at q2;subst q2;exact qBr _ (qAB e3)
  ·exact qBu _ (zh.2 ⟨q1,q2⟩)
 refine⟨r,h2,ws,_,rfl,fun tm=>⟨Lnd,by simp[aD,h1l,hρl],fun l hl=>by simp only[aD,qAj];exact inlt l hl,fun l hl=>oQ (hres l hl),fun i l hi=>by rw[gK,gK];exact objEq i l hi⟩,by simp only[aD,qAj,bs.hl];exact Llen.symm,?_,hws,tgL,?_⟩
 ·-- the arguments
  have hlen:vs.length=T1.length:=by rw[la.tl,hna];simp[bQ]
  have key:∀n,SW (av H (nth .unk vs n)) (ren G (av h1 (nth .unk T1 n))):=fun n=>by
   by_cases hn:n∈gF ps
   ·obtain⟨s,hs⟩:=Ga hn;by_cases hlt:n<(bQ na).length
    ·exact la.slot n s hs hlt h1 _ hW
    ·rw[iH (show T1.length≤n by rw[la.tl];omega)];exact .unk _
   ·rw[la.keep n hn,Sg];exact .unk _
  have all:∀(a c:List TV),a.length=c.length→(∀n,SW (av H (nth .unk a n)) (ren G (av h1 (nth .unk c n))))→SWs (aQ H a) ((aQ h1 c).map (ren G)):=fun a=>by
   induction a with
   |nil=>intro c hl _;cases c with
    |nil=>exact .nil
    |cons _ _=>cases hl
   |cons x a ih=>intro c hl hk;cases c with
    |nil=>cases hl
    |cons y c=>exact .cons (hk 0) (ih c (by simpa using hl) fun n=>hk (n+1))
  exact all vs T1 hlen key
 ·-- the state behind the call
  intro s s' hsH hWs;subst hsH;have W:=hwro s s' inlt hWs
  let A:Nat→Bool:=fun l=>Nat.blt l (aC ps+aC rs)&&!(mem (killed rs) l)
  have hA:∀l,(Nat.blt l (aC ps+aC rs)&&!(mem (killed rs) l))=true→A l=true:=fun l h=>h;have hA1:∀l,(Nat.blt l (aC ps)&&!(mem (killed rs) l))=true→A l=true:=fun l h=>by
   simp only[qAa,A]at h⊢;refine⟨qCH ?_,h.2⟩;have:l<aC ps:=qAf h.1;omega
  have Alt:∀j,A j=true→j<aC ps+aC rs∧Ed.o j .dead∉rs:=fun j h=>by
   simp only[qAa,qAY,sJ,A]at h;exact⟨qAf h.1,fun hm=>h.2 (FM hm)⟩
  -- objects of the callee name only what is alive
  let A1:Nat→Bool:=fun l=>Nat.blt l (aC ps)&&!(mem (killed rs) l)
  have bs1:=mM ps us 0 [] [] (bQ na) [] [] (by rw[←hx,BF,qAs]) edps (qAr _) rfl;rw[q1]at bs1;have rfU:∀j,(∀hd,Ed.o j hd∉rs)→rfO A1 (nth .dead h1 j):=fun j hno=>by
   by_cases hj:j<aC ps
   ·obtain⟨us',rest,e1,e2⟩:=bs1.newK j hj;have hp:=Wu psok j hj;rw[qAv]at e2 hp;intro cs hc;generalize hkd:nth .dead (kinds ps) j=hd at *;obtain⟨ss,rfl,rfl⟩:=PY (YO hp).2.1 (e2.symm.trans hc);simp only[Z9,qAa]at hp;have hn:wW j rs=none:=by
     cases hq:wW j rs with
     |none=>rfl
     |some hd=>exact(hno hd (Ng hq)).elim
    rw[hn]at hp;exact LG (vC (A:=A1) (fun l h=>h) ss us' hp.2)
   ·rw[iH (by omega)];intro cs hc;cases hc
  have rfB':∀j is,Ed.o j (.bx is)∈rs→∀cs,nth .dead h1 j=.box cs→∀q v,(aF cs)[q]? =some v→kZ is q=false→AA A1 v=true:=fun j is hm cs hc q v hv hq=>by
   have hj:=j4 edrs hm;obtain⟨us',rest,e1,e2⟩:=bs1.newK j hj;have hp:=Wu psok j hj;rw[qAv]at e2 hp;generalize hkd:nth .dead (kinds ps) j=hd at *;obtain⟨ss,rfl,rfl⟩:=PY (YO hp).2.1 (e2.symm.trans hc);simp only[Z9,qAa]at hp;rw[R9 edrs hm]at hp;exact aaV (A:=A1) (fun l h=>h) is ss us' rest 0 e1 hp.2 q v hv (by rw[qAv];exact hq)
  have rf2:∀j,rfO A (nth .dead h2 j):=fun j=>by
   by_cases hj:j<aC ps
   ·by_cases hed:∃hd,Ed.o j hd∈rs
    ·obtain⟨hd,hed⟩:=hed;obtain⟨us',rest,et,e2⟩:=bs.obj j hd hed;rw[e2];rcases KU rsok j hd hed with rfl|⟨h3,_⟩
     ·intro cs hc;cases hc
     ·by_cases hb:∃is,hd=.bx is
      ·obtain⟨is,rfl⟩:=hb;intro cs hc;cases ho:nth .dead h1 j with
       |box cs0=>
        rw[ho]at hc;simp only[aZ]at hc;cases hq:(gN bg is (some cs0) us').1 with
        |none=>rw[hq]at hc;cases hc
        |some cs1=>
         rw[hq]at hc;cases hc;exact aat hA is _ us' rest et h3 (fun cs2 h2 q v hv hq=>by cases h2;exact UR hA1 v (rfB' j is hed cs0 ho q v hv hq)) cs hq
       |_=>rw[ho]at hc;cases hc
      ·have:aZ bg (nth .dead h1 j) hd us'=aZ bg .dead hd us':=by
        cases hd with
        |bx is=>exact(hb ⟨is,rfl⟩).elim
        |_=>rfl
       rw[this];exact acZ hA _ hd us' h3 fun cs hc=>by cases hc
    ·rw[bs.keepO j hj fun hd h=>hed ⟨hd,h⟩];intro cs hc v hv;exact UR hA1 v (rfU j (fun hd h=>hed ⟨hd,h⟩) cs hc v hv)
   ·by_cases hj2:j<aC ps+aC rs
    ·obtain⟨hd,us',e1,e2⟩:=bs.new (j - aC ps) (by omega);rw[show aC ps+(j - aC ps)=j from by omega]at e2;rw[e2];exact acZ hA _ hd us' (X7 rsok hd e1) fun cs hc=>by cases hc
    ·rw[iH (by rw[bs.hl];omega)];intro cs hc;cases hc
  have gG:∀j,j<aC ps+aC rs→G j=g j:=fun j hj=>by
   have:L[j]? =some (L[j]'(by omega)):=qAd _;rw[show G j=_ from aiY this,show g j=_ from qc this]
  -- where the callee's objects stand now
  have newAt:∀i,i<aC rs→nth .dead s'.h (g (aC ps+i))=gP g (nth .dead h2 (aC ps+i)):=fun i hi=>by
   rw[show g (aC ps+i)=k+i from qc (Lnew i hi),W.new i hi];exact LB (d:=.dead) (d':=.dead) (gP g) rfl h2 _
  have wW:∀j hd,Ed.o j hd∈rs→hd≠ .dead→(∀is,hd≠ .bx is)→plainO (nth .dead h2 j)=true∧nth .dead s'.h (g j)=gP g (nth .dead h2 j):=fun j hd hm h1 h2'=>by
   have hj:=j4 edrs hm;have hmap:nth .dead (h2.map (gP g)) j=gP g (nth .dead h2 j):=LB (d:=.dead) (d':=.dead) (gP g) rfl h2 _;have pl:∀o,plainO (gP g o)=true→plainO o=true:=fun o h=>by cases o<;>first|rfl|cases h
   have:=W.obj j hd hm;rw[←ixL j hj];cases hd with
   |dead=>exact(h1 rfl).elim
   |bx is=>exact(h2' is rfl).elim
   |box cs=>obtain⟨a1,a2,a3⟩:=this;exact⟨pl _ (by rw[←hmap];exact a1),by rw[←hmap];exact a3⟩
   |own e=>obtain⟨a1,a2,a3⟩:=this;exact⟨pl _ (by rw[←hmap];exact a1),by rw[←hmap];exact a3⟩
   |mp e=>obtain⟨a1,a2,a3⟩:=this;exact⟨pl _ (by rw[←hmap];exact a1),by rw[←hmap];exact a3⟩
   |arr e=>obtain⟨a1,a2,a3⟩:=this;exact⟨pl _ (by rw[←hmap];exact a1),by rw[←hmap];exact a3⟩
  have unAt:∀j l,ρ[j]? =some l→(∀hd,Ed.o j hd∉rs)→nth .dead s'.h l=nth .dead s.h l∧dM s'.h (nth .dead s.h l)=dM s.h (nth .dead s.h l):=fun j l hj hno=>by
   have hlt:j<aC ps:=by have:=(qAp.1 hj).1;omega
   refine Mj hWs l fun w hw e1=>?_;obtain⟨p,e2,e3⟩:=htg w hw;rw[e1]at e2;cases e2;rcases e3 with⟨l',hd,a1,a2⟩|⟨a1,a2⟩
   ·have hl':=j4 edrs a1;obtain⟨p',a3,_,_⟩:=Lold l' hl';rw[qc a3]at a2;subst a2;have:l'=j:=(qBY (by omega) hnd).1 (a3.trans hj.symm);subst this;exact hno hd a1
   ·exact disj l (qAB hj) (zh.2 ⟨a1,a2⟩)
  have boxAt:∀j is,Ed.o j (.bx is)∈rs→∃l cs0 cs1 vs0 cf,ρ[j]? =some l∧nth .dead s.h l=.box cs0∧nth .dead s'.h l=.box cs1∧nth .dead h1 j=.box vs0∧nth .dead h2 j=.box cf∧(aF cs1).length=(aF cs0).length∧(aF cf).length=(aF vs0).length∧aT s.h cs0=bS G (aT h1 vs0)∧
    ∀q,(kZ is q=true→q<(aF cs0).length→(aF cs1)[q]? =((aF cf).map (dD g))[q]?)∧(kZ is q=false→((aF cs1)[q]? =(aF cs0)[q]?∧∀v,(aF cs0)[q]? =some v→av s'.h v=av s.h v)∧(aF cf)[q]? =(aF vs0)[q]?):=fun j is hm=>by
   have hj:=j4 edrs hm;obtain⟨l,hd0,e1,e2,e2',e3⟩:=inO j hj;rcases KU rsok j _ hm with hh|⟨_,_,_,_,hpl⟩
   ·cases hh
   ·rw[e2']at hpl;have hpl:=hpl is rfl;obtain⟨us',rest,e4t,e4⟩:=bs.obj j _ hm;have hmap:nth .dead (h2.map (gP g)) j=gP g (nth .dead h2 j):=LB (d:=.dead) (d':=.dead) (gP g) rfl h2 _;have wj:=W.obj j _ hm;simp only[qc e1]at wj;cases hd0 with
    |box cs=>
     obtain⟨vs0,cs0,e5,e6,e7⟩:=e3;obtain⟨cs1,cf',a1,a2,a3,a4⟩:=wj cs0 e6;replace a2:gP g (nth .dead h2 j)=.box cf':=hmap.symm.trans a2;rw[e5]at e4;simp only[aZ]at e4;cases hq:(gN bg is (some vs0) us').1 with
     |none=>rw[hq]at e4;rw[e4]at a2;cases a2
     |some cf=>
      rw[hq]at e4;rw[e4]at a2;simp only[gP,TObj.box.injEq]at a2;subst a2;have fs:=(Fa is (some vs0) us' rest e4t).2 vs0 cf rfl hq;refine⟨l,cs0,cs1,vs0,cf,e1,e6,a1,e5,e4,a3,fs.1,rs0 (e7 h1 _ hW),fun q=>⟨fun h1 h2=>?_,fun h=>⟨(a4 q).2 h,fs.2 q h⟩⟩⟩;rw[(a4 q).1 h1 h2,Ni]
    |_=>cases hpl
  have lks:Lks g G A s'.h h2:=by
   have key:∀j,A j=true→dH (g j) (nth .dead s'.h (g j))=ren G (dH j (nth .dead h2 j))∧∀z,bZ (g j) z (nth .dead s'.h (g j))=ren G (bZ j z (nth .dead h2 j)):=fun j hj=>by
    obtain⟨hlt,hdd⟩:=Alt j hj;by_cases hj1:j<aC ps
    ·obtain⟨l,e1,e2,e3⟩:=Lold j hj1;have hgj:g j=l:=qc e2;by_cases hed:∃hd,Ed.o j hd∈rs
     ·obtain⟨hd,hed⟩:=hed;by_cases hb:∃is,hd=.bx is
      ·obtain⟨is,rfl⟩:=hb;obtain⟨l',cs0,cs1,vs0,cf,b1,b2,b3,b4,b5,_⟩:=boxAt j is hed;rw[e1]at b1;cases b1;rw[hgj,b3,b5];exact⟨rfl,fun _=>rfl⟩
      ·obtain⟨b1,b2⟩:=wW j hd hed (fun e=>by subst e;exact hdd hed) fun is e=>hb ⟨is,e⟩;rw[b2];exact ai3 _ (gG j hlt)
     ·have hno:∀hd,Ed.o j hd∉rs:=fun hd h=>hed ⟨hd,h⟩;rw[hgj,(unAt j l e1 hno).1,bs.keepO j hj1 hno];exact look0 j l e3
    ·have:=newAt (j - aC ps) (by omega);rw[show aC ps+(j - aC ps)=j from by omega]at this;rw[this];exact ai3 _ (gG j hlt)
   exact⟨fun j hj=>gG j (Alt j hj).1,fun j hj=>(key j hj).1,fun j z hj=>(key j hj).2 z⟩
  have lk12:∀j,A j=true→j<aC ps→Lk h1 h2 j:=fun j hj hj1=>by
   by_cases hed:∃hd,Ed.o j hd∈rs
   ·obtain⟨hd,hed⟩:=hed;rcases KU rsok j hd hed with rfl|⟨_,hpl,ho1,ho2,_⟩
    ·exact((Alt j hj).2 hed).elim
    ·obtain⟨us',_,_,e2⟩:=bs.obj j hd hed;refine ad5 ?_ (by rw[e2];exact afs _ hd us' (by cases hd<;>first|rfl|exact(ho1 _ rfl).elim|exact(ho2 _ rfl).elim));obtain⟨l,hd0,_,_,e4,e5⟩:=inO j hj1;rw[e4]at hpl;cases hd0 with
     |box cs=>obtain⟨_,_,e6,_⟩:=e5;rw[e6];rfl
     |mp e=>obtain⟨_,_,e6,_⟩:=e5;rw[e6];rfl
     |_=>cases hpl
   ·unfold Lk;rw[bs.keepO j hj1 fun hd h=>hed ⟨hd,h⟩];exact⟨rfl,fun _=>rfl⟩
  have low:∀v,AA A1 v=true→av h2 v=av h1 v:=fun v hv=>(Lu v fun l hl=>(by
   have hl1:=Z7 v hl hv;have hlt:l<aC ps:=by
    simp only[qAa,A1]at hl1;exact qAf hl1.1
   exact lk12 l (hA1 l hl1) hlt)).symm
  have avLow:∀j,(∀hd,Ed.o j hd∉rs)→dM h2 (nth .dead h1 j)=dM h1 (nth .dead h1 j):=fun j hno=>by
   cases ho:nth .dead h1 j with
   |box cs=>
    simp only[dM];rw[oO,oO];exact congrArg _ (qBi fun v hv=>low v (rfU j hno cs ho v hv))
   |_=>rfl
  refine⟨?_,?_⟩
  ·apply qBQ;intro l;have hlen:s'.h.length=s.h.length:=(Ma hWs).2;have lget:∀(Hx:List TObj) (l:Nat),l<Hx.length→(aD Hx)[l]? =some (dM Hx (nth .dead Hx l)):=fun Hx l hl=>by
    unfold aD;rw[qAD,eH,List.getD,qAd hl];rfl
   by_cases hl:l<s.h.length
   ·rw[lget s'.h l (by omega)];by_cases hin:l∈L
    ·obtain⟨j,hj⟩:=qAL hin;have hjl:=(qAp.1 hj).1;have hjn:j<aC ps+aC rs:=by omega
     rw[Cb L _ (aD s.h) j l Lnd hj (by rw[qAj];simp only[aD,qAj,bs.hl];exact hjn) (by simp only[aD,qAj];exact hl)];rw[qAD,lget h2 j (by rw[bs.hl];exact hjn)];simp only[qAw,Option.some.injEq];have hgj:g j=l:=qc hj;by_cases hj1:j<aC ps
     ·have hρj:ρ[j]? =some l:=by
       obtain⟨l',a1,a2,_⟩:=Lold j hj1;rw[hj]at a2;cases a2;exact a1
      by_cases hed:∃hd,Ed.o j hd∈rs
      ·obtain⟨hd,hed⟩:=hed;by_cases hdd:hd=.dead
       ·subst hdd;obtain⟨us',_,_,a1⟩:=bs.obj j _ hed;have a1:nth .dead h2 j=.dead:=a1;have:=W.obj j _ hed;rw[ixL j hj1,hgj]at this;rw[a1];rcases this with⟨_,_,_,a2⟩|⟨_,_,_,a2⟩|a2<;>(rw[a2];rfl)
       ·by_cases hb:∃is,hd=.bx is
        ·obtain⟨is,rfl⟩:=hb;obtain⟨l',cs0,cs1,vs0,cf,b1,b2,b3,b4,b5,b6,b7,b8,b9⟩:=boxAt j is hed;rw[hρj]at b1;cases b1;rw[b3,b5];simp only[dM,bO,AObj.box.injEq];have hl8:(aF cs0).length=(aF vs0).length:=by
          have:=congrArg List.length b8;rw[fB,iN,iN,←j5,←j5]at this;exact this
         rw[oO,oO,jG,qBt];apply qBQ;intro q;rw[qAD,qAD];by_cases hq:q<(aF cs0).length
         ·cases hc:kZ is q with
          |true=>
           rw[(b9 q).1 hc hq,qAD];cases hv:(aF cf)[q]? with
           |none=>rfl
           |some v=>
            simp only[qAw,Option.some.injEq,Function.comp];exact Gn lks v (rf2 j cf b5 v (qAB hv))
          |false=>
           obtain⟨⟨c1,c2⟩,c3⟩:=(b9 q).2 hc;rw[c1,c3];have hq2:q<(aF vs0).length:=by omega
           rw[qAd hq,qAd hq2];simp only[qAw,Option.some.injEq,Function.comp];rw[c2 _ (qAd hq),low _ (rfB' j is hed vs0 b4 q _ (qAd hq2) hc)];have e8:=congrArg (fun x=>x[q]?) b8;simp only[oO,jG,qAD,qAd hq,qAd hq2,qAw,Option.some.injEq]at e8;exact e8
         ·rw[qAn (by omega),qAn (by omega)];rfl
        ·obtain⟨_,a2⟩:=wW j hd hed hdd fun is e=>hb ⟨is,e⟩;rw[←hgj,a2];exact aga lks (rf2 j)
      ·have hno:∀hd,Ed.o j hd∉rs:=fun hd h=>hed ⟨hd,h⟩;obtain⟨a1,a2⟩:=unAt j l hρj hno;rw[a1,a2,objEq j l hρj,bs.keepO j hj1 hno,avLow j hno]
     ·have:=newAt (j - aC ps) (by omega);rw[show aC ps+(j - aC ps)=j from by omega]at this;rw[←hgj,this];exact aga lks (rf2 j)
    ·rw[vO L _ _ l hin,lget s.h l hl];obtain⟨a1,a2⟩:=Mj hWs l fun w hw e1=>by
      obtain⟨p,e2,e3⟩:=tgL w hw;rw[e1]at e2;cases e2;exact hin e3
     rw[a1,a2]
   ·rw[qAn (by simp only[aD,qAj];omega),qAn (by rw[Ee];simp only[aD,qAj];omega)]
  ·rw[ak5];refine Gn lks _ (anv fun v hv=>?_);obtain⟨i,hi⟩:=qAL hv;have hvi:nth .unk r i=v:=by rw[eH,List.getD,hi];rfl
   rcases bs.slot i with e1|⟨sk,us',e1,e2⟩
   ·rw[←hvi,e1,Sg];rfl
   ·rw[←hvi,e2];exact L9 hA sk us' (X4 rsok i sk e1)
theorem anB{te:Nat}{H:List TObj}{k:Nat}{vs:List TV}{e:Ent}{K:Nat→List Nat→List TWr→TV→Option γ}{X:Nat→List Nat→List TWr→Int→Option γ}(he:aj P te e)(h:acj H k vs e K X=some b):
  (∃(ρ:List Nat) (aargs:List AV) (Hi:List AObj) (res:AV) (Ho:List AObj) (ws:List TWr) (v:TV),aR P e.f aargs Hi res Ho∧(∀tm,Passes ⟨tm,aD H⟩ ρ (rng k (aC e.rs)) Hi)∧Ho.length=(ρ++rng k (aC e.rs)).length∧
   SWs (aQ H vs) (aargs.map (ren (nm (ρ++rng k (aC e.rs)) (aD H).length)))∧K (aC e.rs) (ρ++rng k (aC e.rs)) ws v=some b∧(∀w∈ws,∃p,tgt w=some p∧p∈ρ++rng k (aC e.rs))∧
   ∀s s',s.h=H→Ws s ws s'→aD s'.h=jX (aD H) (ρ++rng k (aC e.rs)) (Ho.map (bO (nm (ρ++rng k (aC e.rs)) (aD H).length)))∧av s'.h v=ren (nm (ρ++rng k (aC e.rs)) (aD H).length) res)∨
  ∃(nn:Nat) (ρ:List Nat) (aargs:List AV) (Hi Ho:List AObj) (ws:List TWr) (c:Int),zf P e.f aargs Hi (Ko te c) Ho∧(∀tm,Passes ⟨tm,aD H⟩ ρ (rng k nn) Hi)∧Ho.length=(ρ++rng k nn).length∧
   SWs (aQ H vs) (aargs.map (ren (nm (ρ++rng k nn) (aD H).length)))∧X nn (ρ++rng k nn) ws c=some b∧(∀w∈ws,∃p,tgt w=some p∧p∈ρ++rng k nn)∧
   ∀s s',s.h=H→Ws s ws s'→aD s'.h=jX (aD H) (ρ++rng k nn) (Ho.map (bO (nm (ρ++rng k nn) (aD H).length))):=by
 obtain⟨hokf,hwf,hcon⟩:=he;unfold Aj at hwf;rw[qAa,qAa]at hwf;obtain⟨⟨_,hwf⟩,hwp⟩:=hwf;simp only[qAa]at hwf;obtain⟨edps,edrs,psok,rsok⟩:=hwf;unfold acj at h;simp only at h;obtain⟨hc,h⟩:=(aX h).resolve_right fun h=>by cases h.2
 simp only[qAa]at hc;obtain⟨hna,hρl,hρn,hres⟩:=hc;have hna:=qAc hna;have hρl:=qAc hρl;have hnd:=aaR hρn;clear hρn;have hres:=aac _ _ hres;generalize hL0:LJ 0 (aC e.ps) (Fj vs H 0 e.ps [])=L0 at h hρl hnd;generalize hρ:Ch L0 0 (aC e.ps)=ρ at h hρl hnd;have hsome:∀j,j<aC e.ps→L0 j=ρ[j]?:=fun j hj=>by
  have:=aa8 (f:=L0) (aC e.ps) 0 (by rw[hρ];exact hρl) j hj;rw[qAv,hρ]at this;exact this
 have L0ge:∀j,aC e.ps≤j→L0 j=none:=fun j hj=>by rw[←hL0];exact amt (qBe _) hj
 obtain⟨us,hus,hB⟩:=AP e.ps 0 _ [] [] edps (qAr _) h;obtain⟨x,hx,hus⟩:=HY hus;obtain⟨y,hF,hus⟩:=ob hus;obtain⟨T1,h1,q1,la⟩:=hB (bQ e.na) [] [] rfl;rw[qAs]at q1;rcases RT.aqM hus (hcon x y hF T1 h1 (by rw[hx];exact q1))with⟨y,hus,hcalls⟩|⟨eds,c,z,hpe,hus,hcalls⟩
 ·left;obtain⟨r,h2,ws,v,g1,g2,g3,g4,g5,g6,g7⟩:=amd e.rs e.nr (e.out y) (Q:=fun ws v=>K (aC e.rs) (ρ++rng k (aC e.rs)) ws v) edps edrs psok rsok hna hρl hnd hres hsome L0ge hx q1 la hus;exact⟨ρ,_,_,_,_,ws,v,hcalls r h2 g1,g2,g3,g4,g5,g6,g7⟩
 ·right;rw[hpe]at hwp;simp only[qAa]at hwp;obtain⟨_,edr,pso,rso⟩:=hwp;obtain⟨hr,hus⟩:=(aX hus).resolve_right fun h=>by cases h.2
  obtain⟨r,h2,ws,v,g1,g2,g3,g4,g5,g6,g7⟩:=amd eds 0 z (Q:=fun ws _=>X (aC eds) (ρ++rng k (aC eds)) ws c) edps edr pso rso hna hρl hnd (aac _ _ hr) hsome L0ge hx q1 la hus;exact⟨aC eds,ρ,_,_,_,ws,c,hcalls r h2 g1,g2,g3,g4,g5,g6,fun s s' h1 h2=>(g7 s s' h1 h2).1⟩
end
end
section
open Go
def Kcp(t:List TV)(cp:List (Nat×Nat)):Prop:=∀d x,(d,x)∈cp→nth .unk t d=nth .unk t x
structure Inv(s:DS):Prop where
 up:Kup s.t s.up
 rl:Krl s.t s.rl
 cp:Kcp s.t s.cp
structure Fr(s s':DS):Prop where
 tl:s'.t.length=s.t.length
 hl:s.h.length≤s'.h.length
 d:∀k,k∉s'.d→k∉s.d∧nth .unk s'.t k=nth .unk s.t k
 om:∀p,p∈s.o→p∈s'.o
 oo:s'.oo=s.oo
 o:∀l,l<s.h.length→(l,0)∉s'.o→AO (nth .dead s.h l) (nth .dead s'.h l) fun q=>decide ((l,q+1)∈s'.o)
theorem AO.trans{a b c:TObj}{f g:Nat→Bool}(h:AO a b f)(k:AO b c g)(hf:∀q,g q=false→f q=false):AO a c g:=by
 rcases h with rfl|⟨x,y,rfl,rfl,h1,h2⟩
 ·exact k
 ·rcases k with rfl|⟨y',z,e,rfl,k1,k2⟩
  ·exact .inr ⟨x,y,rfl,rfl,h1,fun q hq=>h2 q (hf q hq)⟩
  ·cases e;exact .inr ⟨x,z,rfl,rfl,k1.trans h1,fun q hq=>(k2 q hq).trans (h2 q (hf q hq))⟩
theorem Fr.refl(s:DS):Fr s s:=⟨rfl,qAr _,fun _ h=>⟨h,rfl⟩,fun _ h=>h,rfl,fun _ _ _=>.inl rfl⟩
theorem Fr.trans{a b c:DS}(h:Fr a b)(k:Fr b c):Fr a c:=by
 refine⟨k.tl.trans h.tl,qBn h.hl k.hl,fun n hn=>?_,fun p hp=>k.om p (h.om p hp),k.oo.trans h.oo,fun l hl hno=>?_⟩
 ·obtain⟨k1,k2⟩:=k.d n hn;obtain⟨h1,h2⟩:=h.d n k1
  grind
 ·refine AO.trans (h.o l hl fun hm=>hno (k.om _ hm)) (k.o l (qAR hl h.hl) hno) fun q hq=>?_;simp at hq⊢;exact fun hm=>hq (k.om _ hm)
theorem mem_filter{l:List Nat}{f:Nat→Bool}{i:Nat}(h:mem (l.filter f) i=true):mem l i=true∧f i=true:=by
 rw[mem_iff,qBA]at h;exact⟨mem_iff.2 h.1,h.2⟩
theorem aoV{a b:Nat}(h:(!(Nat.beq a b))=true):a≠b:=by
 intro e;subst e
 simp_all
theorem anQ{s:DS}(hi:Inv s)(n:Nat)(v:TV):
  Inv ⟨s.t.set n v,s.h,n::s.d,s.o,s.up.filter fun i=>!(Nat.beq i n),s.rl.filter fun p=>!(Nat.beq p.1 n ||(Nat.beq p.2.1 n ||Nat.beq p.2.2 n)),s.cp.filter fun p=>!(Nat.beq p.1 n ||Nat.beq p.2 n),s.oo⟩:=by
 refine⟨fun i k a h1 h2=>?_,fun d i j h1 k a h2=>?_,fun d x h1=>?_⟩
 ·obtain⟨g1,g2⟩:=mem_filter h1;have hne:=aoV g2;simp only[aN hne.symm]at h2;exact hi.up i k a g1 h2
 ·rw[qBA]at h1;obtain⟨g1,g2⟩:=h1;simp at g2;have ne:∀a,Nat.beq a n=false→n≠a:=fun a h e=>by subst e;rw[jO]at h;cases h
  simp only[aN (ne _ g2.2.1)]at h2;simp only[aN (ne _ g2.1),aN (ne _ g2.2.2)];exact hi.rl d i j g1 k a h2
 ·rw[qBA]at h1;obtain⟨g1,g2⟩:=h1;simp at g2;have ne:∀a,Nat.beq a n=false→n≠a:=fun a h e=>by subst e;rw[jO]at h;cases h
  simp only[aN (ne _ g2.1),aN (ne _ g2.2)];exact hi.cp d x g1
theorem apV{s s':DS}{w:TWr}(hi:Inv s)(h:W1 s w s'):Inv s':=by
 cases w with
 |sl n v=>obtain⟨_,rfl⟩:=h;exact anQ hi n v
 |ob l o=>obtain⟨_,_,rfl⟩:=h;exact⟨hi.up,hi.rl,hi.cp⟩
 |st l off vs=>obtain⟨_,_,_,_,rfl⟩:=h;exact⟨hi.up,hi.rl,hi.cp⟩
 |kill l=>rcases h with⟨_,_,_,rfl⟩|⟨_,_,_,rfl⟩|⟨_,rfl⟩<;>exact⟨hi.up,hi.rl,hi.cp⟩
 |nw l o=>obtain⟨_,_,rfl⟩:=h;exact⟨hi.up,hi.rl,hi.cp⟩
 |up l i e y=>obtain⟨_,_,rfl⟩:=h;exact⟨hi.up,hi.rl,hi.cp⟩
theorem RO{s s':DS}{ws:List TWr}(h:Ws s ws s')(hi:Inv s):Inv s':=by
 induction h with
 |nil s=>exact hi
 |cons h _ ih=>exact ih (apV hi h)
theorem XG{s:DS}{l:Nat}{o:TObj}:Fr s {s with h:=s.h.set l o,o:=(l,0)::s.o}:=
 ⟨rfl,by simp,fun _ h=>⟨h,rfl⟩,fun p hp=>qAk _ hp,rfl,fun l' hl hno=>.inl (aN fun e=>hno (by subst e;simp))⟩
theorem arI{s s':DS}{w:TWr}(h:W1 s w s'):Fr s s':=by
 cases w with
 |sl n v=>
  obtain⟨_,rfl⟩:=h;refine⟨by simp,qAr _,fun k hk=>?_,fun _ h=>h,rfl,fun _ _ _=>.inl rfl⟩;simp at hk;exact⟨hk.2,aN (qBl hk.1)⟩
 |ob l o=>obtain⟨_,_,rfl⟩:=h;exact XG
 |st l off vs=>
  obtain⟨cs,cs',h1,h2,rfl⟩:=h;refine⟨rfl,by simp,fun _ h=>⟨h,rfl⟩,fun p hp=>qBu _ hp,rfl,fun l' hl hno=>?_⟩;by_cases e:l=l'
  ·subst e;simp only[bB hl,h1];obtain⟨q1,q2⟩:=Bc h2;refine .inr ⟨cs,cs',rfl,rfl,by rw[q1];simp;omega,fun q hq=>?_⟩;simp only[decide_eq_false_iff_not,qAA,qBk,not_or]at hq;have hout:¬(off≤q∧q<off+(aF vs).length):=fun hh=>hq.1 ⟨q+1,zh.2 (by rw[j5]at hh;omega),rfl⟩
   grind
  ·exact .inl (aN e)
 |kill l=>rcases h with⟨_,_,_,rfl⟩|⟨_,_,_,rfl⟩|⟨_,rfl⟩<;>exact XG
 |nw l o=>obtain⟨_,_,rfl⟩:=h;exact XG
 |up l i e y=>obtain⟨_,_,rfl⟩:=h;exact XG
theorem ab2{s s':DS}{ws:List TWr}(h:Ws s ws s'):Fr s s':=by
 induction h with
 |nil s=>exact Fr.refl s
 |cons h _ ih=>exact(arI h).trans ih
section
variable {P:Program}{γ:Type}{b:γ}
theorem ale{H:List TObj}{t:List TV}{θ:Nat→Option ET}{up:List Nat}{k:Nat}{o:Oper}{K:List Nat→List TWr→Option γ}(hk:Kup t up)(h:bL (TI.of P) θ up k o.dst t H o.op K=some b):lI P H t k o K b:=by
 obtain⟨d,op,ty,ps,aft,gd⟩:=o;cases op with
 |move x=>exact anY h
 |assign x=>exact ajf h
 |pick c x y=>exact amV h
 |nilCheck x=>exact afq h
 |binOp op t x y t2=>exact alG hk h
 |unOp op t x=>exact anU h
 |fieldAddr s x f=>exact ac1 h
 |field s x f=>exact ak7 h
 |indexAddr t x i=>exact aez h
 |index t x i=>exact al0 h
 |extract x i=>exact agS h
 |slice t x lo hi mx=>
  cases mx with
  |none=>exact ak8 h
  |some m=>cases h
 |build t parts=>exact al2 h
 |makeFunc fn first cap=>
  cases fn with
  |func f=>exact afE h
  |_=>cases h
 |load t x=>exact am0 h
 |convert s t x=>exact aif h
 |store t x y=>exact akN h
 |alloc t=>exact alx h
 |box t x=>
  refine apy h fun cs _ hr=>(vv cs fun l _=>Gw ?_ l).symm;have e:nth .dead H k=.res:=by unfold iq at hr;split at hr;assumption;cases hr
  rw[e];exact⟨rfl,fun _=>rfl⟩
 |makeMap t r=>
  cases r with
  |none=>exact agP h
  |some x=>cases h
 |buildSlice t len parts=>exact abJ h
 |makeSlice t x y=>exact acO h
 |call c=>
  obtain⟨callee,args,ats⟩:=c;cases callee with
  |builtin bi=>
   cases bi<;>first|exact an4 h|exact aiZ h|exact apQ h|cases h
  |_=>cases h
 |lookup t m key ok=>exact aiM h
 |mapUpdate t m key x=>exact adZ h
 |_=>cases h
structure Sm(e f:Eff):Prop where
 rs:e.rs=f.rs
 ro:e.ro=f.ro
 ws:dX e.ws=dX f.ws
 wo:dV e.ws=dV f.ws
inductive Sms:List Eff→List Eff→Prop where
 |nil:Sms [] []
 |cons {e f:Eff} {es fs:List Eff}:Sm e f→Sms es fs→Sms (e::es) (f::fs)
theorem rM:∀(ws:List TWr) (H:List TObj),dX (erase ws)=dX (sw H ws)∧dV (erase ws)=dV (sw H ws)
 |[],_=>⟨rfl,rfl⟩
 |w::ws,H=>by
  obtain⟨h1,h2⟩:=rM ws (Oe H w);cases w<;>simp only[erase,sw,yc,dX,dV,qBG]at *<;>exact⟨by rw[h1],by rw[h2]⟩
theorem XP(a c:List Wr):dX (a++c)=dX a++dX c:=by simp[dX]
theorem aao(a c:List Wr):dV (a++c)=dV a++dV c:=by simp[dV]
theorem Ki:∀(l:List Nat) (os:List AObj),dX (fI l os)=[]
 |[],_=>rfl
 |_::_,[]=>rfl
 |l::ls,o::os=>by simp only[fI];exact Ki ls os
theorem NS:∀(l:List Nat) (os:List AObj),os.length=l.length→dV (fI l os)=l
 |[],[],_=>rfl
 |[],_::_,h=>by cases h
 |_::_,[],h=>by cases h
 |l::ls,o::os,h=>by
  have:=NS ls os (by simpa using h);simp only[fI,dV,qBG]at this⊢;rw[this]
theorem Kc:∀(l:List Nat),dX (l.map fun l=>Wr.obj l .dead)=[]
 |[]=>rfl
 |_::ls=>by simp;exact Kc ls
theorem Mw:∀(l:List Nat),dV (l.map fun l=>Wr.obj l .dead)=l
 |[]=>rfl
 |l::ls=>by have:=Mw ls;simp only[qAF,dV,qBG]at this⊢;rw[this]
theorem alV{e f e' f':Eff}(h:Sm e f)(h':Sm e' f'):bG e e'=bG f f':=by
 unfold bG;rw[h.rs,h.ro,h.ws,h.wo,h'.rs,h'.ro,h'.ws,h'.wo]
theorem agj{es fs:List Eff}(h:Sms es fs):∀i,Sm (es.getD i fG) (fs.getD i fG):=by
 induction h with
 |nil=>intro i;exact⟨rfl,rfl,rfl,rfl⟩
 |cons h _ ih=>intro i;cases i with
  |zero=>exact h
  |succ i=>exact ih i
theorem XV{l:List Oper}{es fs:List Eff}(h:Sms es fs):fC l es=fC l fs:=by
 unfold fC;congr 1;funext j;congr 2;funext i;rw[alV (agj h i) (agj h j)]
theorem agB{ops:Array Oper}{o:Oper}{s:DS}{k:Nat}{rd:List Nat}{ws:List TWr}{ws':List Wr}(hw:bN ops (dJ s).tmps o=some true)(h:aH P k o (aS (aQ s.h s.t)) (obj? (aD s.h))=some (rd,ws'))
  (hv:(∀x∈o.op.operands,VF (aS (aQ s.h s.t) x))→ws'=sw s.h ws):tX P ops o (dJ s) ⟨aJ ops o,rd,sw s.h ws⟩:=by
 intro t ht;refine .inl ⟨by rw[nX ht.rs];exact hw,?_⟩;intro C κ a w hs next Q hn
 have hev:=Cz ht.rs;have e:=hv fun x hx=>by
  have e1:aS (aQ s.h s.t) x=aS t.tmps x:=(hev x hx).symm;rw[e1];exact(hs.ev x).vf
 subst e;exact W9 (k:=k) (rd:=rd) (Qi h hev ht.ro) C κ a w hs next Q hn
theorem ap5{ops:List Oper}{o:Oper}{s:DS}{A B:DS→Option γ}(h:gdK ops o s A B=some b):(bN ops.toArray (dJ s).tmps o=some true∧A s=some b)∨(bN ops.toArray (dJ s).tmps o=some false∧B s=some b):=by
 unfold gdK at h;unfold bN;cases hg:o.guard with
 |none=>rw[hg]at h;exact .inl ⟨rfl,h⟩
 |some p=>
  obtain⟨j,want⟩:=p;rw[hg]at h;simp only at h⊢;rw[List.getElem?_toArray];cases hd:(ops[j]?).bind (·.dst)with
  |none=>rw[hd]at h;cases h
  |some d=>
   rw[hd]at h;simp only at h⊢;have htm:(dJ s).tmps.getD d .unk=av s.h (nth .unk s.t d):=vY s.h s.t d;rw[htm];have self:∀v,nth .unk s.t d=v→s.t.set d v=s.t:=fun v hv=>by
    apply qBQ;intro n;by_cases e:d=n
    ·subst e;by_cases hl:d<s.t.length
     ·rw[qCh hl,qAd hl];rw[eH,List.getD,qAd hl]at hv
      grind
     grind
    grind
   split at h
   ·rename_i q hq;simp only[hq,av,gM];rw[iX,iX,iX,iX]at h;cases q
    ·have e1:=self _ hq;cases want
     ·simp_all
     simp_all
    ·have e1:=self _ hq;cases want
     ·simp only[cond_false,cond_true,e1]at h;exact .inr ⟨rfl,h⟩
     simp_all
   ·rename_i hq;rw[hq];exact .inr ⟨rfl,h⟩
   ·cases h
theorem adP(o:Oper)(s:DS):(ru o s).t=s.t∧(ru o s).h=s.h∧(ru o s).d=s.d∧(ru o s).o=s.o∧(ru o s).oo=s.oo:=by
 unfold ru
 grind
theorem aaM{o:Oper}{s s1:DS}{ws:List TWr}(hi:Inv s1)(hs:Ws s ws s1)(h0:Inv s)(hr:ace s.t o ws)(hm:∀x d,o.op=.move x→o.dst=some d→ws=[.sl d (dF s.t x)]):Inv (ru o s1):=by
 unfold ru;split
 ·rename_i tt i j g d e1 e2;cases hb:Nat.beq d i ||Nat.beq d j with
  |true=>exact hi
  |false=>
   rw[cond_false];simp at hb;have ne:∀a,Nat.beq d a=false→d≠a:=fun a h e=>by subst e;rw[jO]at h;cases h
   obtain⟨v,rfl,hv⟩:=hr d i j tt g e1 e2;cases hs with
   |cons g1 g2=>
    cases g2;obtain⟨hlt,rfl⟩:=g1;refine⟨hi.up,fun d' i' j' hmem k a hk=>?_,hi.cp⟩;rcases qAh.1 hmem with e|hmem
    ·cases e;simp only[aN (ne i hb.1)]at hk;obtain⟨c,g1,g2⟩:=hv k a hk;refine⟨c,by simp only[aN (ne j hb.2)];exact g1,fun b hbv=>?_⟩;simp only[bB hlt]at hbv
     grind
    ·exact hi.rl d' i' j' hmem k a hk
 ·rename_i x d e1 e2;cases hb:Nat.beq d x with
  |true=>exact hi
  |false=>
   rw[cond_false];have ne:d≠x:=fun e=>by subst e;rw[jO]at hb;cases hb
   have hw:=hm _ d e1 e2;subst hw;cases hs with
   |cons g1 g2=>
    cases g2;obtain⟨hlt,rfl⟩:=g1;have hx:nth .unk (s.t.set d (dF s.t (.tmp x))) x=nth .unk s.t x:=aN ne;have hd:nth .unk (s.t.set d (dF s.t (.tmp x))) d=nth .unk s.t x:=bB hlt;refine⟨fun i k a hmem hk=>?_,hi.rl,fun d' x' hmem=>?_⟩
    ·simp only at hmem hk;cases hu:mem (s.up.filter fun i=>!(Nat.beq i d)) x with
     |false=>simp only[hu]at hmem;exact hi.up i k a hmem hk
     |true=>
      simp only[hu,cond_true]at hmem;rw[mem_iff,qAh]at hmem;rcases hmem with rfl|hmem
      ·rw[hd]at hk;exact h0.up x k a (mem_filter hu).1 hk
      ·exact hi.up i k a (mem_iff.2 hmem) hk
    ·rcases qAh.1 hmem with e|hmem
     ·grind
     ·exact hi.cp d' x' hmem
 ·exact hi
end
end
section
open Go
theorem Wz(f e:Eff):bG f e=true↔bG e f=true:=by
  simp only[bG,qBb,qDa,qCl];constructor
  ·rintro(((⟨n,a1,a2|a2⟩|⟨n,a1,a2⟩)|⟨n,a1,a2|a2⟩)|⟨n,a1,a2⟩)
   ·exact .inl (.inl (.inr ⟨n,a1,a2⟩))
   ·exact .inl (.inl (.inl ⟨n,a2,.inr a1⟩))
   ·exact .inl (.inl (.inl ⟨n,a1,.inl a2⟩))
   ·exact .inr ⟨n,a1,a2⟩
   ·exact .inl (.inr ⟨n,a2,.inr a1⟩)
   ·exact .inl (.inr ⟨n,a1,.inl a2⟩)
  ·rintro(((⟨n,a1,a2|a2⟩|⟨n,a1,a2⟩)|⟨n,a1,a2|a2⟩)|⟨n,a1,a2⟩)
   ·exact .inl (.inl (.inr ⟨n,a1,a2⟩))
   ·exact .inl (.inl (.inl ⟨n,a2,.inr a1⟩))
   ·exact .inl (.inl (.inl ⟨n,a1,.inl a2⟩))
   ·exact .inr ⟨n,a1,a2⟩
   ·exact .inl (.inr ⟨n,a2,.inr a1⟩)
   ·exact .inl (.inr ⟨n,a1,.inl a2⟩)
theorem ahM{P:Program}{l:List Oper}{q0:Nat}{op:Oper}{es:List Eff}{ep:Eff}{s:ASt}{v:Value}{C:Ctx}{Q:Exit→Act→World→Prop}(hlen:es.length=l.length)(hlp:l[q0]? =some op)(hep:es[q0]? =some ep)
  (heff:∀i o e,i≠q0→q0∉(ku l []).getD i []→l[i]? =some o→es[i]? =some e→tX P l.toArray o (s.wr (aI (fun j=>decide (j<i)&&!(j==q0)) 0 es)) e)
  (hx:zD P l.toArray op v (s.wr (aI (fun j=>decide (j<q0)) 0 es)) ep) (hok:fC l es=true)
  (hq:∀(D:Nat→Bool) κ' a' w',(∀i,i∈(ku l []).getD q0 []→D i=true∨i=q0)→D q0=false→Sim C κ' ((s.wr (aI D 0 es)).wr ep.ws) a' w'→Q (.panic [{v,recovered:=false}]) a' w'):
  ∀(fuel:Nat) (listed:Array Bool) (κ:aK) (a:Act) (w:World),listed.size=l.length→(listed.toList.filter (!·)).length=fuel→listed.getD q0 true=false→
   (∀j o,l[j]? =some o→listed.getD j false=true→∀p∈gT o,listed.getD p false=true)→
   Sim C κ (s.wr (aI (fun i=>listed.getD i false) 0 es)) a w→wpAny P .any l.toArray Q fuel listed a w:=by
 have hpl:q0<l.length:=(qAp.1 hlp).1;have hord:∀j,j<l.length→(∀p∈gT (l.getD j default),p<j)∧∀i,i<j→bG (es.getD i fG) (es.getD j fG)=true→i∈(ku l []).getD j []:=fun j hj=>by
  have:=qAC.1 hok j (qBZ.2 hj);simp only[qAa,qAC,decide_eq_true_eq,qBZ,qBb,qAY,qCl]at this;refine⟨this.1,fun i hi hc=>?_⟩;rcases this.2 i hi with h|h
  ·rw[hc]at h;cases h
  ·exact h
 have hall:∀(listed:Array Bool),listed.size=l.length→Region.ready .any l.toArray listed=[]→∀i,i<l.length→listed.getD i false=true:=by
  intro listed hsz hr i
  induction i using Nat.strongRecOn with
  |_ i ih=>
   intro hi;cases hb:listed.getD i false with
   |true=>rfl
   |false=>
    exfalso;have hlt:i<listed.size:=by omega
    have:i∈Region.ready .any l.toArray listed:=by
     refine mem_ready.2 ⟨?_,l[i],by simp[hi],fun e he hbd=>?_⟩
     ·simpa[Array.getD,hlt]using hb
     ·have hp:=(hord i hi).1 e.on (by
       simp only[gT,List.getD,qAd hi,qAq];exact qBk.2 ⟨e,qBA.2 ⟨by simpa using he,hbd⟩,rfl⟩)
      exact ih e.on hp (by omega)
    rw[hr]at this;cases this
 have hne:∀(listed:Array Bool),listed.size=l.length→listed.getD q0 true=false→Region.ready .any l.toArray listed≠[]:=fun listed hsz hp hr=>by
  have h1:=hall listed hsz hr q0 hpl;have h2:q0<listed.size:=by omega
  simp[Array.getD,h2]at h1 hp;rw[h1]at hp;cases hp
 have hgp:es.getD q0 fG=ep:=by rw[List.getD,hep];rfl
 have hg1:∀j f,es[j]? =some f→es.getD j fG=f:=fun j f hj=>by
  rw[List.getD,hj];rfl
 intro fuel
 induction fuel with
 |zero=>
  intro listed κ a w hsz hcnt hpf _ hsim;exfalso;have hlt:q0<listed.size:=by omega
  have:=FY hlt hpf;omega
 |succ fuel ih=>
  intro listed κ a w hsz hcnt hpf hdown hsim;refine⟨fun hr=>(hne listed hsz hpf hr).elim,fun i hi=>?_⟩;obtain⟨h1,o,h2,h3⟩:=mem_ready.1 hi;have hil:i<l.length:=by have:=(qBz.1 h2).1;simpa using this
  have hlo:l[i]? =some o:=by simpa using h2
  have hlt:i<listed.size:=by omega
  have hi0:listed.getD i false=false:=by simpa[Array.getD,hlt]using h1
  have hbd:∀j i',listed.getD j false=true→i'∈(ku l []).getD j []→listed.getD i' false=true:=
   qI (D:=fun j=>listed.getD j false=true) l [] (fun j i' _ hi'=>by simp at hi') (fun j o' hj hD p hp=>hdown j o' hj (by simpa using hD) p hp)
  have hbi:∀j,j∈(ku l []).getD i []→listed.getD j false=true∨j=i:=
   fun j hb=>qI (D:=fun j=>listed.getD j false=true∨j=i) l [] (fun j i' _ hi'=>by simp at hi') (fun j' o' hj' hD p hp=>by
    simp only[qAE,qAv]at hD;rcases hD with hD|rfl
    ·exact .inl (hdown j' o' hj' hD p hp)
    ·rw[hlo]at hj';cases hj';simp only[gT,qBk,qBA]at hp;obtain⟨ed,⟨he1,he2⟩,rfl⟩:=hp;exact .inl (h3 ed (by simpa using he1) he2)) i j (.inr rfl) hb
  have hpf0:listed.getD q0 false=false:=by
   have:q0<listed.size:=by omega
   simpa[Array.getD,this]using hpf
  by_cases hiq:i=q0
  ·subst hiq;rw[hlp]at hlo;obtain rfl:=Option.some.inj hlo;have hagree:Agree (s.wr (aI (fun j=>listed.getD j false) 0 es)) (s.wr (aI (fun j=>decide (j<i)) 0 es)) ep:=by
    have hD:∀j f,es[j]? =some f→bG f ep=true→listed.getD j false=decide (j<i):=fun j f hj hc=>by
     rcases Nat.lt_trichotomy j i with hji|rfl|hji
     ·have hb:=(hord i hpl).2 j hji (by rw[hg1 j f hj,hgp];exact hc);rcases hbi j hb with h|h
      ·rw[h];simp[hji]
      ·omega
     ·rw[hpf0];simp
     ·have hjl:j<l.length:=by have:=(qAp.1 hj).1;omega
      have hb:=(hord j hjl).2 i hji (by rw[hg1 j f hj,hgp];exact(Wz f ep).1 hc);cases hlj:listed.getD j false with
      |false=>simp;omega
      |true=>have:=hbd j i hlj hb;rw[hpf0]at this;cases this
    refine⟨by rw[(aM _ s).1,(aM _ s).1],by rw[(aM _ s).2,(aM _ s).2],fun n hn=>?_,fun n hn=>?_⟩
    ·by_cases hnl:n<s.tmps.length
     ·rw[iY _ n s hnl,iY _ n s hnl];congr 1;refine tN es 0 fun j f hj hw=>?_;rw[qAv];refine hD j f hj ?_;cases hc:bG f ep with
      |true=>rfl
      |false=>exact((yY hc hw).1 hn).elim
     ·have e1:(s.wr (aI (fun j=>listed.getD j false) 0 es)).tmps.getD n .unk=.unk:=by rw[List.getD,qAn (by rw[(aM _ s).1];omega)];rfl
      have e2:(s.wr (aI (fun j=>decide (j<i)) 0 es)).tmps.getD n .unk=.unk:=by rw[List.getD,qAn (by rw[(aM _ s).1];omega)];rfl
      rw[e1,e2]
    ·by_cases hnl:n<s.heap.length
     ·rw[gy _ n s hnl,gy _ n s hnl];congr 1;refine nW es 0 fun j f hj hw=>?_;rw[qAv];refine hD j f hj ?_;cases hc:bG f ep with
      |true=>rfl
      |false=>exact((yU hc hw).1 hn).elim
     ·have e1:obj? (s.wr (aI (fun j=>listed.getD j false) 0 es)).heap n=.dead:=by rw[obj?,qAn (by rw[(aM _ s).2];omega)];rfl
      have e2:obj? (s.wr (aI (fun j=>decide (j<i)) 0 es)).heap n=.dead:=by rw[obj?,qAn (by rw[(aM _ s).2];omega)];rfl
      rw[e1,e2]
   obtain⟨hwd,hX⟩:=hx _ hagree;unfold wpOp;rw[h2];dsimp only;rw[fJ hsim hwd];simp only[if_true];refine .inl (hX C κ a w hsim _ _ fun κ' w' hs2=>hq _ κ' a w' hbi hpf0 hs2)
  have hfree:q0∉(ku l []).getD i []:=fun hb=>by
   rcases hbi _ hb with h|h
   ·rw[hpf0]at h;cases h
   ·exact hiq h.symm
  obtain⟨e,hei⟩:∃e,es[i]? =some e:=⟨_,qAd (by rw[hlen];exact hil)⟩;have hgi:es.getD i fG=e:=hg1 i e hei
  -- where something conflicts with i
  have hearly:∀j f,es[j]? =some f→j<i→bG f e=true→listed.getD j false=true:=fun j f hj hji hc=>by
   have hgj:es.getD j fG=f:=hg1 j f hj;have hb:=(hord i hil).2 j hji (by rw[hgj,hgi];exact hc);have hD:∀j' i',(listed.getD j' false=true∨j'=i)→i'∈(ku l []).getD j' []→(listed.getD i' false=true∨i'=i):=
    qI (D:=fun j=>listed.getD j false=true∨j=i) l [] (fun j i' _ hi'=>by simp at hi') (fun j' o' hj' hD p hp=>by
     simp only[qAE,qAv]at hD;rcases hD with hD|rfl
     ·exact .inl (hdown j' o' hj' hD p hp)
     ·rw[hlo]at hj';cases hj';simp only[gT,qBk,qBA]at hp;obtain⟨ed,⟨he1,he2⟩,rfl⟩:=hp;exact .inl (h3 ed (by simpa using he1) he2))
   rcases hD i j (.inr rfl) hb with h|h
   ·exact h
   ·omega
  have hlate:∀j f,es[j]? =some f→i<j→bG e f=true→listed.getD j false=false:=fun j f hj hji hc=>by
   have hjl:j<l.length:=by have:=(qAp.1 hj).1;omega
   have hgj:es.getD j fG=f:=hg1 j f hj;have hb:=(hord j hjl).2 i hji (by rw[hgj,hgi];exact hc);cases hlj:listed.getD j false with
   |false=>rfl
   |true=>have:=hbd j i hlj hb;rw[hi0]at this;cases this
  have hcommon:∀j f,es[j]? =some f→(bG f e=true∨bG e f=true→j≠i→listed.getD j false=decide (j<i)):=fun j f hj=>by
   have hsym:=Wz f e;intro hc hne;rcases qCr hne with hlt'|hgt
   ·rw[hearly j f hj hlt' (hc.elim id hsym.2)];simp[hlt']
   ·rw[hlate j f hj hgt (hc.elim hsym.1 id)];simp;omega
  let D:Nat→Bool:=fun j=>listed.getD j false
  have hagree:Agree (s.wr (aI D 0 es)) (s.wr (aI (fun j=>decide (j<i)&&!(j==q0)) 0 es)) e:=by
   refine⟨by rw[(aM _ s).1,(aM _ s).1],by rw[(aM _ s).2,(aM _ s).2],fun n hn=>?_,fun n hn=>?_⟩
   ·by_cases hnl:n<s.tmps.length
    ·rw[iY _ n s hnl,iY _ n s hnl];congr 1;refine tN es 0 fun j f hj hw=>?_;rw[qAv];by_cases hji:j=i
     ·subst hji;show listed.getD j false=_;rw[hi0];simp
     ·by_cases hjq:j=q0
      ·subst hjq;show listed.getD j false=_;rw[hpf0];simp
      rw[show(j==q0)=false by simpa using hjq,qBc,qBq];refine hcommon j f hj (.inl ?_) hji;cases hc:bG f e with
      |true=>rfl
      |false=>exact((yY hc hw).1 hn).elim
    ·have e1:(s.wr (aI D 0 es)).tmps.getD n .unk=.unk:=by rw[List.getD,qAn (by rw[(aM _ s).1];omega)];rfl
     have e2:(s.wr (aI (fun j=>decide (j<i)&&!(j==q0)) 0 es)).tmps.getD n .unk=.unk:=by rw[List.getD,qAn (by rw[(aM _ s).1];omega)];rfl
     rw[e1,e2]
   ·by_cases hnl:n<s.heap.length
    ·rw[gy _ n s hnl,gy _ n s hnl];congr 1;refine nW es 0 fun j f hj hw=>?_;rw[qAv];by_cases hji:j=i
     ·subst hji;show listed.getD j false=_;rw[hi0];simp
     ·by_cases hjq:j=q0
      ·subst hjq;show listed.getD j false=_;rw[hpf0];simp
      rw[show(j==q0)=false by simpa using hjq,qBc,qBq];refine hcommon j f hj (.inl ?_) hji;cases hc:bG f e with
      |true=>rfl
      |false=>exact((yU hc hw).1 hn).elim
    ·have e1:obj? (s.wr (aI D 0 es)).heap n=.dead:=by rw[obj?,qAn (by rw[(aM _ s).2];omega)];rfl
     have e2:obj? (s.wr (aI (fun j=>decide (j<i)&&!(j==q0)) 0 es)).heap n=.dead:=by rw[obj?,qAn (by rw[(aM _ s).2];omega)];rfl
     rw[e1,e2]
  have hstep:=heff i o e hiq hfree hlo hei _ hagree;have hDi:∀j,(listed.setIfInBounds i true).getD j false=(D j ||decide (j=i)):=fun j=>by
   by_cases hji:i=j
   ·subst hji;simp[Array.getD,hlt]
   ·simp only[qAm,qBL hji,D];simp[qBl hji]
  have hstate:(s.wr (aI D 0 es)).wr e.ws=s.wr (aI (fun j=>(listed.setIfInBounds i true).getD j false) 0 es):=by
   rw[←oC];refine ASt.ext' (by rw[(aM _ s).1,(aM _ s).1]) (by rw[(aM _ s).2,(aM _ s).2]) (fun n hn=>?_) (fun n hn=>?_)
   ·rw[(aM _ s).1]at hn;rw[iY _ n s hn,iY _ n s hn,u6];congr 1;by_cases hw:n∈dX e.ws
    ·rw[Vl (D:=fun j=>(listed.setIfInBounds i true).getD j false) es 0 i e hei (by rw[qAv,hDi];simp) hw (fun j f hj hij hD' hwf=>by
      rw[qAv,hDi]at hD';have hji:j≠i:=by omega
      have hDj:listed.getD j false=true:=by simpa[hji,D]using hD'
      have hc:bG f e=true:=by
       cases hc:bG f e with
       |true=>rfl
       |false=>exact((yY hc hwf).2 hw).elim
      have:=hcommon j f hj (.inl hc) hji;rw[hDj]at this;have hlt':j<i:=by simpa using this.symm
      omega)]
     obtain⟨v,hv⟩:=FN hw;rw[hv];rfl
    ·rw[FC hw,qCk];refine tN es 0 fun j f hj hwf=>?_;rw[qAv,hDi];have hji:j≠i:=fun e'=>by subst e';rw[hei]at hj;cases hj;exact hw hwf
     simp[hji,D]
   ·rw[(aM _ s).2]at hn;rw[gy _ n s hn,gy _ n s hn,uS];congr 1;by_cases hw:n∈dV e.ws
    ·rw[UG (D:=fun j=>(listed.setIfInBounds i true).getD j false) es 0 i e hei (by rw[qAv,hDi];simp) hw (fun j f hj hij hD' hwf=>by
      rw[qAv,hDi]at hD';have hji:j≠i:=by omega
      have hDj:listed.getD j false=true:=by simpa[hji,D]using hD'
      have hc:bG f e=true:=by
       cases hc:bG f e with
       |true=>rfl
       |false=>exact((yU hc hwf).2 hw).elim
      have:=hcommon j f hj (.inl hc) hji;rw[hDj]at this;have hlt':j<i:=by simpa using this.symm
      omega)]
     obtain⟨v,hv⟩:=FJ hw;rw[hv];rfl
    ·rw[E8 hw,qCk];refine nW es 0 fun j f hj hwf=>?_;rw[qAv,hDi];have hji:j≠i:=fun e'=>by subst e';rw[hei]at hj;cases hj;exact hw hwf
     simp[hji,D]
  have hnext:∀κ' a' w',Sim C κ' ((s.wr (aI D 0 es)).wr e.ws) a' w'→wpAny P .any l.toArray Q fuel (listed.setIfInBounds i true) a' w':=fun κ' a' w' hs2=>by
   rw[hstate]at hs2;refine ih (listed.setIfInBounds i true) κ' a' w' (by simpa using hsz) (by have:=FY hlt h1;omega) (by rw[qAm,qBL (by omega),←qAm];exact hpf) ?_ hs2;intro j o' hj hlj p hp;rw[hDi]at hlj⊢;by_cases hji:j=i
   ·subst hji;rw[hlo]at hj;cases hj;simp only[gT,qBk,qBA]at hp;obtain⟨ed,⟨he1,he2⟩,rfl⟩:=hp;have:=h3 ed (by simpa using he1) he2;simp only[D,this,qBT]
   ·have hlj':listed.getD j false=true:=by simpa[hji,D]using hlj
    have:=hdown j o' hj hlj' p hp;simp only[D,this,qBT]
  unfold wpOp;rw[h2];dsimp only;rcases hstep with⟨hwd,ht⟩|⟨hwd,he⟩
  ·rw[fJ hsim hwd];simp only[if_true];exact .inl (ht C κ a w hsim _ _ hnext)
  ·rw[fJ hsim hwd];simp only[qAI,if_false];refine hnext κ _ w ?_;rw[he];exact hsim.aA _ gY
end
section
open Go
section
variable {P:Program}{γ:Type}{b:γ}{θ:Nat→Option ET}{E:List Ent}
theorem an8{te:Nat}{H:List TObj}{vs:List TV}{e:Ent}{A B:Option γ}(he:aj P te e)(h:gdE H vs e A B=some b):A=some b∨B=some b:=by
 unfold gdE at h;split at h
 ·grind
 ·rename_i g _;obtain⟨_,hwf,_⟩:=he;unfold Aj at hwf;rw[qAa,qAa]at hwf;obtain⟨⟨_,hwf⟩,_⟩:=hwf;simp at hwf;obtain⟨us,hus,_⟩:=AP e.ps 0 _ [] [] hwf.1 (qAr _) h;obtain⟨x,_,hx⟩:=HY hus
  grind
theorem ade{te:Nat}{H:List TObj}{k fid:Nat}{vs:List TV}{K:Nat→List Nat→List TWr→TV→Option γ}{X:Nat→List Nat→List TWr→Int→Option γ}:∀{E:List Ent},(∀e∈E,aj P te e)→ahz H k fid vs E K X=some b→∃e∈E,e.f=fid∧acj H k vs e K X=some b
 |[],_,h=>by cases h
 |e::E,hE,h=>by
  have tl:ahz H k fid vs E K X=some b→∃e'∈e::E,e'.f=fid∧acj H k vs e' K X=some b:=fun g=>by
   obtain⟨e',h1,h2,h3⟩:=ade (fun e he=>hE e (qAk _ he)) g
   grind
  rcases aX h with⟨hc,g⟩|⟨_,g⟩
  ·simp at hc;rcases an8 (hE e (by simp)) g with g|g
   ·simp_all
   ·exact tl g
  ·exact tl g
theorem aaK{H:List TObj}{t:List TV}{up:List Nat}{k:Nat}{o:Oper}{K:List Nat→List TWr→Option γ}(hk:Kup t up)(h:bL (TI.of P) θ up k o.dst t H o.op K=some b):
  ∃rd ws ws',aH P k o (aS (aQ H t)) (obj? (aD H))=some (rd,ws')∧((∀x∈o.op.operands,VF (aS (aQ H t) x))→ws'=sw H ws)∧ace t o ws∧(∀x d,o.op=.move x→o.dst=some d→ws=[.sl d (dF t x)])∧K rd ws=some b:=by
 by_cases hm:∃x,o.op=.move x
 ·obtain⟨x,hx⟩:=hm;obtain⟨d,op,ty,ps,aft,gd⟩:=o;subst hx;refine⟨[],dA d (dF t x),aA d (av H (dF t x)),by simp only[aH,au,bA],fun _=>(gD H d _).symm,Zr rfl _,fun y d' e1 e2=>?_,h⟩;cases e1;subst e2;rfl
 ·obtain⟨rd,ws,ws',h1,h2,h3,h4⟩:=ale (P:=P) hk h
  grind
theorem afO{s s1:DS}{d:Option Tmp}{v:TV}(h:Ws s (dA d v) s1):dJ s1=(dJ s).wr (aA d (av s.h v)):=by
 rw[aho h,gD]
def apx(P:Program)(te:Nat)(b:γ)(px:List Eff→Nat→Eff→DS→Int→DS→Option γ)(ops:List Oper)(l:List Oper)(es:List Eff)(s:DS)(K:List Eff→DS→Option γ):Prop:=
 (∃es' res s',ATr P ops.toArray l es' (dJ s) (dJ s')∧K (es.reverse++res) s'=some b∧Sms res es'∧Fr s s'∧Inv s'∧s'.h.length=s.h.length)∨
 ∃l1 op l2 es1 res1 ep ep' k' s1 s' c,l=l1++op::l2∧ATr P ops.toArray l1 es1 (dJ s) (dJ s1)∧Sms res1 es1∧zD P ops.toArray op (Ko te c) (dJ s1) ep∧Sm ep' ep∧dJ s'=(dJ s1).wr ep.ws∧px (res1.reverse++es) k' ep' s1 c s'=some b∧Fr s s'∧Inv s1∧Inv s'∧s'.h.length=s.h.length∧s1.h.length=s.h.length
theorem ZQ{te:Nat}(hE:∀e∈E,aj P te e){px:List Eff→Nat→Eff→DS→Int→DS→Option γ}{ops:List Oper}:∀(l:List Oper) (k:Nat) (es:List Eff) (s:DS) (K:List Eff→DS→Option γ),Inv s→Kh (TI.of P) θ E px ops l k es s K=some b→apx P te b px ops l es s K
 |[],k,es,s,K,hi,h=>.inl ⟨[],[],s,.nil _,by rw[qAs];exact h,.nil,Fr.refl s,hi,rfl⟩
 |o::l,k,es,s,K,hi,h=>by
  have h:(gdK ops o s (opK (TI.of P) θ E px ops o (fun k es s=>Kh (TI.of P) θ E px ops l k es s K) k es) fun s=>vP (dA o.dst (.tup [])) s fun s=>Kh (TI.of P) θ E px ops l k (⟨aJ ops.toArray o,[],erase (dA o.dst (.tup []))⟩::es) s K)=some b:=h;have fin:∀(e f:Eff) (k':Nat) (s1:DS),tX P ops.toArray o (dJ s) f→dJ s1=(dJ s).wr f.ws→Sm e f→Fr s s1→Inv s1→s1.h.length=s.h.length→Kh (TI.of P) θ E px ops l k' (e::es) s1 K=some b→apx P te b px ops (o::l) es s K:=fun e f k' s1 h1 h2 h3 h4 h5 h6 h7=>by
   rcases ZQ hE l k' (e::es) s1 K h5 h7 with⟨es',res,s',g1,g2,g3,g4,g5,g6⟩|⟨l1,op,l2,es1,res1,ep,ep',kx,sx,s',c,g0,g1,g2,g3,ga,gb,g4,g5,gc,g6,g7,gd⟩
   ·rw[h2]at g1;exact .inl ⟨f::es',e::res,s',.cons h1 g1,by simpa using g2,.cons h3 g3,h4.trans g4,g5,g6.trans h6⟩
   ·rw[h2]at g1;exact .inr ⟨o::l1,op,l2,f::es1,e::res1,ep,ep',kx,sx,s',c,by rw[g0];rfl,.cons h1 g1,.cons h3 g2,g3,ga,gb,by simpa using g4,h4.trans g5,gc,g6,g7.trans h6,gd.trans h6⟩
  rcases ap5 h with⟨hw,h⟩|⟨hw,h⟩
  ·unfold opK at h;split at h
   ·rename_i f args hcall;split at h
    ·rename_i fid caps hf;obtain⟨e,he1,he2,h3⟩:=ade hE h;clear h;have argsE:args.toList.map (aS (dJ s).tmps)++aQ s.h caps=aQ s.h (args.toList.map (dF s.t)++caps):=by
      rw[mY,mY,qBa,qBt];congr 1;exact qBi fun x _=>bA _ _ _
     have hlH:(dJ s).heap.length=(aD s.h).length:=rfl;have hfa:aS (dJ s).tmps f=.func fid (aQ s.h caps):=by rw[show aS (dJ s).tmps f=av s.h (dF s.t f)from bA _ _ _,hf];rfl
     obtain⟨t,ho⟩:=mP hcall;subst he2;rcases anB (hE e he1) h3 with⟨ρ,aargs,Hi,res,Ho,ws,v,c1,c2,c3,c4,c5,c6,c7⟩|⟨nn,ρ,aargs,Hi,Ho,ws,c,c1,c2,c3,c4,c5,c6,c7⟩
     ·obtain⟨s1,w1,h4⟩:=oP _ _ _ c5;obtain⟨sm,wa,wb⟩:=aiE w1;obtain⟨a1,a2⟩:=c7 s sm rfl wa;have heff:=vL (P:=P) (ops:=ops.toArray) (o:=o) (s:=dJ s) hw ho hfa (hE e he1).1 (c2 _) c3 (by
       rw[hlH,argsE];exact c4) c1
      refine fin ⟨aJ ops.toArray o,ρ++rng k (aC e.rs),(ρ++rng k (aC e.rs)).map (fun l=>.obj l .dead)++erase (dA o.dst v)⟩ _ _ s1 heff ?_ ⟨rfl,rfl,?_,?_⟩ (ab2 w1) (RO w1 hi) (Ma w1).2 h4
      ·rw[afO wb,a2];have e2:dJ sm=(dJ s).wr (fI (ρ++rng k (aC e.rs)) (Ho.map (bO (nm (ρ++rng k (aC e.rs)) (dJ s).heap.length)))):=by
        rw[CF];unfold dJ;rw[a1,(ab9 wa fun w hw=>by obtain⟨p,e,_⟩:=c6 w hw;rw[e];simp).2]
       rw[e2,←oC];rfl
      ·rw[XP,XP,Kc,Ki,qAz,qAz,(rM (dA o.dst v) sm.h).1,gD,a2];rfl
      ·rw[aao,aao,Mw,NS _ _ (by rw[qAj];exact c3),(rM (dA o.dst v) sm.h).2,gD,a2];rfl
     ·obtain⟨s1,w1,h4⟩:=oP _ _ _ c5;have a1:=c7 s s1 rfl w1;have hX:=NQ (P:=P) (ops:=ops.toArray) (o:=o) (s:=dJ s) hw ho hfa (hE e he1).1 (c2 _) c3 (by rw[hlH,argsE];exact c4) c1;have e2:dJ s1=(dJ s).wr (fI (ρ++rng k nn) (Ho.map (bO (nm (ρ++rng k nn) (dJ s).heap.length)))):=by
       rw[CF];unfold dJ;rw[a1,(ab9 w1 fun w hw=>by obtain⟨p,e,_⟩:=c6 w hw;rw[e];simp).2]
      exact .inr ⟨[],o,l,[],[],_,⟨aJ ops.toArray o,ρ++rng k nn,(ρ++rng k nn).map fun l=>.obj l .dead⟩,_,s,s1,c,rfl,.nil _,.nil,hX,⟨rfl,rfl,by show dX _=dX (fI _ _);rw[Kc,Ki],by show dV _=dV (fI _ _);rw[Mw,NS _ _ (by rw[qAj];exact c3)]⟩,e2,h4,ab2 w1,hi,RO w1 hi,(Ma w1).2,rfl⟩
    ·cases h
   ·rename_i hcall;obtain⟨rd,ws,ws',r1,r2,r3,r5,r4⟩:=aaK (P:=P) hi.up h;obtain⟨s1,w1,h⟩:=oP _ _ _ r4;have hav:=adP o s1;have es1:dJ (ru o s1)=dJ s1:=by unfold dJ;rw[hav.1,hav.2.1]
    have hfr:=ab2 w1;refine fin ⟨aJ ops.toArray o,rd,erase ws⟩ ⟨aJ ops.toArray o,rd,sw s.h ws⟩ _ (ru o s1) (agB hw r1 r2) ?_ ⟨rfl,rfl,(rM ws s.h).1,(rM ws s.h).2⟩ ⟨?_,?_,?_,?_,?_,?_⟩ (aaM (RO w1 hi) w1 hi r3 r5) (by rw[hav.2.1];exact(Ma w1).2) h
    ·rw[es1];exact aho w1
    ·rw[hav.1];exact hfr.tl
    ·rw[hav.2.1];exact hfr.hl
    ·rw[hav.2.2.1,hav.1];exact hfr.d
    ·rw[hav.2.2.2.1];exact hfr.om
    ·rw[hav.2.2.2.2];exact hfr.oo
    ·rw[hav.2.2.2.1,hav.2.1];exact hfr.o
  ·obtain⟨s1,w1,h⟩:=oP _ _ _ h;have hav:dJ s1=(dJ s).wr (aA o.dst (.tup [])):=afO w1;exact fin ⟨aJ ops.toArray o,[],erase (dA o.dst (.tup []))⟩ _ _ s1 (u7 hw) hav ⟨rfl,rfl,by rw[(rM (dA o.dst (.tup [])) s.h).1,gD];rfl,by rw[(rM (dA o.dst (.tup [])) s.h).2,gD];rfl⟩ (ab2 w1) (RO w1 hi) (Ma w1).2 h
theorem tV{D D':Nat→Bool}:∀(es:List Eff) (k k':Nat),(∀i,i<es.length→D (k+i)=D' (k'+i))→aI D k es=aI D' k' es
 |[],_,_,_=>rfl
 |e::es,k,k',h=>by
  have h0:=h 0 (by simp);simp only[aI];rw[show D k=D' k' from h0,tV es (k+1) (k'+1) fun i hi=>by have:=h (i+1) (by simpa using hi);rwa[show k+(i+1)=k+1+i by omega,show k'+(i+1)=k'+1+i by omega]at this]
theorem I8(D:Nat→Bool):∀(a b:List Eff) (k:Nat),aI D k (a++b)=aI D k a++aI D (k+a.length) b
 |[],b,k=>rfl
 |e::a,b,k=>by
  simp only[qAH,aI,I8 D a b (k+1),qAo,qAu];rw[show k+1+a.length=k+(a.length+1) by omega]
theorem GR{D:Nat→Bool}:∀(es:List Eff) (k:Nat),(∀i,i<es.length→D (k+i)=false)→aI D k es=[]
 |[],_,_=>rfl
 |e::es,k,h=>by
  simp only[aI];rw[show D k=false from h 0 (by simp),GR es (k+1) fun i hi=>by have:=h (i+1) (by simpa using hi);rwa[show k+(i+1)=k+1+i by omega]at this];rfl
theorem Nl{ops:List Oper}{bl:Nat→Bool}:∀(l:List Oper) (q k:Nat) (es:List Eff) (s:DS) (K:List Eff→Option γ),Inv s→Lr (TI.of P) θ ops bl l q k es s K=some b→
  ∃late res,K (es.reverse++res)=some b∧Sms res late∧late.length=l.length∧∀i o e,l[i]? =some o→late[i]? =some e→bl (q+i)=false→tX P ops.toArray o ((dJ s).wr (aI (fun j=>decide (j<i)) 0 late)) e
 |[],q,k,es,s,K,_,h=>⟨[],[],by rw[qAs];exact h,.nil,rfl,fun i o e h=>by simp at h⟩
 |o::l,q,k,es,s,K,hi,h=>by
  have h:(bif bl q then Lr (TI.of P) θ ops bl l (q+1) k (fG::es) s K else match o.guard,gu o.op with
   |none,none=>bL (TI.of P) θ s.up k o.dst s.t s.h o.op fun rd ws=>vP ws s fun s1=>Lr (TI.of P) θ ops bl l (q+1) (k+eu o.op) (⟨aJ ops.toArray o,rd,erase ws⟩::es) (ru o s1) K
   |_,_=>none)=some b:=h
  have shift:∀(f:Eff) (late:List Eff) (s0:ASt) (i:Nat),(s0.wr f.ws).wr (aI (fun j=>decide (j<i)) 0 late)=s0.wr (aI (fun j=>decide (j<i+1)) 0 (f::late)):=fun f late s0 i=>by
   rw[←oC];congr 1;simp only[aI,Nat.zero_lt_succ,decide_true,if_true];congr 1;exact tV late 0 1 fun j _=>by simp;omega
  rcases aX h with⟨hb,h⟩|⟨hb,h⟩
  ·obtain⟨late,res,h1,h2,h3,h4⟩:=Nl l (q+1) k (fG::es) s K hi h;refine⟨fG::late,fG::res,by simpa using h1,.cons ⟨rfl,rfl,rfl,rfl⟩ h2,by simp[h3],fun i o' e g1 g2 g3=>?_⟩;cases i with
   |zero=>rw[qAJ,hb]at g3;cases g3
   |succ i=>
    have:=h4 i o' e (by simpa using g1) (by simpa using g2) (by rw[←g3];congr 1;omega);rw[←shift];exact this
  ·split at h
   ·rename_i hg hcall;obtain⟨rd,ws,ws',r1,r2,r3,r5,r4⟩:=aaK (P:=P) hi.up h;obtain⟨s1,w1,h⟩:=oP _ _ _ r4;have hav:=adP o s1;have es1:dJ (ru o s1)=dJ s1:=by unfold dJ;rw[hav.1,hav.2.1]
    have hw:bN ops.toArray (dJ s).tmps o=some true:=by unfold bN;rw[hg]
    obtain⟨late,res,h1,h2,h3,h4⟩:=Nl l (q+1) _ _ (ru o s1) K (aaM (RO w1 hi) w1 hi r3 r5) h;refine⟨⟨aJ ops.toArray o,rd,sw s.h ws⟩::late,⟨aJ ops.toArray o,rd,erase ws⟩::res,by simpa using h1,.cons ⟨rfl,rfl,(rM ws s.h).1,(rM ws s.h).2⟩ h2,by simp[h3],fun i o' e g1 g2 g3=>?_⟩;cases i with
    |zero=>
     simp only[qAG,Option.some.injEq]at g1 g2;subst g1 g2;rw[GR _ _ (by simp)];exact agB hw r1 r2
    |succ i=>
     have:=h4 i o' e (by simpa using g1) (by simpa using g2) (by rw[←g3];congr 1;omega);rw[es1,aho w1]at this;rw[←shift];exact this
   ·cases h
end
end
section
open Go
theorem Xh{n:Nat}{l q:Nat}:∀{es:List Ed} {ss os:List Nat},dz n ss os es=true→cov es l q=true→∃hd,Ed.o l hd∈es∧∀is,hd=.bx is→q∈is.flatMap fun p=>rng (p.1+1) (pO p.2)
 |[],_,_,_,h=>by cases h
 | .r _ _::es,ss,os,hw,h=>by
  simp only[dz,qAa]at hw;obtain⟨hd,h1,h2⟩:=Xh (es:=es) hw.2 h
  grind
 | .w _::es,ss,os,hw,h=>by
  obtain⟨hd,h1,h2⟩:=Xh (es:=es) (by simpa only[dz]using hw) h
  grind
 | .o l' hd::es,ss,os,hw,h=>by
  simp only[dz,qAa]at hw;simp only[cov,qBb,qAa]at h;rcases h with⟨h1,h2⟩|h
  ·have e:=qAc h1;subst e;refine⟨hd,by simp,fun is e=>?_⟩;subst e;exact mem_iff.1 h2
  ·obtain⟨hd',h1,h2⟩:=Xh hw.2.2 h
   grind
theorem Jp{n l:Nat}{hd hd':HO}:∀{es:List Ed} {ss os:List Nat},dz n ss os es=true→Ed.o l hd∈es→Ed.o l hd'∈es→hd=hd'
 |[],_,_,_,h,_=>by cases h
 | .r _ _::es,ss,os,hw,h,h'=>by
  simp only[dz,qAa]at hw;exact Jp hw.2 (by simpa using h) (by simpa using h')
 | .w _::es,ss,os,hw,h,h'=>Jp (es:=es) (by simpa only[dz]using hw) (by simpa using h) (by simpa using h')
 | .o l0 h0::es,ss,os,hw,h,h'=>by
  simp only[dz,qAa]at hw;rcases qAh.1 h with e|g
  ·injection e with e1 e2;subst e1;subst e2;rcases qAh.1 h' with e|g'
   ·grind
   ·exact(zy hw.2.2 (qBv ..) g').elim
  ·rcases qAh.1 h' with e|g'
   ·injection e with e1 e2;subst e1;exact(zy hw.2.2 (qBv ..) g).elim
   ·exact Jp hw.2.2 g g'
theorem af9:∀{a l:List Nat},ahW a l=true→∀x∈a,x∈l
 |[],_,_,x,h=>by cases h
 |y::a,l,h,x,hx=>by
  simp only[ahW,qAa]at h;rcases qAh.1 hx with rfl|hx
  ·exact mem_iff.1 h.1
  ·exact af9 h.2 x hx
theorem agr{n:Nat}{o:List (Nat×Nat)}{es:List Ed}(h:acn n o es=true){l q:Nat}(hl:l<n)(hm:(l,q)∈o):cov es l q=true:=by
 have:=qAC.1 h _ hm;simp only[qBb]at this;rcases this with h|h
 ·have:n≤l:=qAf h;omega
 ·exact h
theorem AO.mono{a c:TObj}{f g:Nat→Bool}(h:AO a c f)(hf:∀q,g q=false→f q=false):AO a c g:=by
 rcases h with e|⟨x,y,e1,e2,h1,h2⟩
 ·exact .inl e
 ·exact .inr ⟨x,y,e1,e2,h1,fun q hq=>h2 q (hf q hq)⟩
theorem YP{n:Nat}{h0 h':List TObj}{o:List (Nat×Nat)}{eds:List Ed}(hw:dz n [] [] eds=true)(hs:acn n o eds=true)
  (hfr:∀l,l<n→(l,0)∉o→AO (nth .dead h0 l) (nth .dead h' l) fun q=>decide ((l,q+1)∈o)):
  ∀l,l<n→((∀hd,Ed.o l hd∉eds)→AO (nth .dead h0 l) (nth .dead h' l) fun _=>false)∧∀is,Ed.o l (.bx is)∈eds→AO (nth .dead h0 l) (nth .dead h' l) (kZ is):=by
 intro l hl;refine⟨fun hno=>?_,fun is hm=>?_⟩
 ·have no:∀q,(l,q)∉o:=fun q hq=>by
   obtain⟨hd,h1,_⟩:=Xh hw (agr hs hl hq)
   grind
  grind
 ·have cvq:∀q,(l,q)∈o→q∈is.flatMap fun p=>rng (p.1+1) (pO p.2):=fun q hq=>by
   obtain⟨hd,h1,h2⟩:=Xh hw (agr hs hl hq);exact h2 is (Jp hw h1 hm)
  have no0:(l,0)∉o:=fun h=>by
   have:=cvq 0 h;rw[qCC]at this;obtain⟨p,_,hp⟩:=this;rw[zh]at hp;omega
  refine(hfr l hl no0).mono fun q hq=>decide_eq_false fun h=>?_;unfold kZ at hq;rw[sJ]at hq
  grind
noncomputable def zC:List Nat→List TV→List TV
 |[],t=>t
 |n::l,t=>zC l (t.set n .unk)
theorem af3{γ:Type}:∀(l:List Nat) (t:List TV) (K:List TV→Option γ),ahI l t K=K (zC l t)
 |[],_,_=>rfl
 |n::l,t,K=>by
  have h:ahI (n::l) t K=qW t n .unk fun t=>ahI l t K:=rfl;rw[h,iX];exact af3 l _ K
theorem U9:∀(l:List Nat) (t:List TV),(zC l t).length=t.length
 |[],_=>rfl
 |n::l,t=>by rw[zC,U9 l,qAK]
theorem Vi:∀(l:List Nat) (t:List TV) (k:Nat),nth .unk (zC l t) k=if k∈l then .unk else nth .unk t k
 |[],_,_=>by simp[zC]
 |n::l,t,k=>by
  rw[zC,Vi l];by_cases h1:k∈l
  ·grind
  ·rw[if_neg h1];by_cases h2:n=k
   ·subst h2;rw[if_pos (qBv ..)];by_cases hl:n<t.length
    ·exact bB hl
    ·exact iH (by rw[qAK];omega)
   ·rw[aN h2,if_neg (by simp;exact⟨fun e=>h2 e.symm,h1⟩)]
theorem af8{n:Nat}:∀(l:List Nat) (t:List TV),eY n t=true→eY n (zC l t)=true
 |[],_,h=>h
 |k::l,t,h=>by
  refine af8 l _ ?_
  induction t generalizing k with
  |nil=>exact h
  |cons v t ih=>
   simp only[eY,qAa]at h;cases k with
   |zero=>simp;exact h.2
   |succ k=>simp only[List.set_cons_succ,eY,qAa];exact⟨h.1,ih k h.2⟩
noncomputable def kW(a:List Nat)(eds:List Ed)(s:DS)(us:List U):DS:=
 ⟨(bV bg eds us (zC (a++gF eds) s.t) s.h).1,(bV bg eds us (zC (a++gF eds) s.t) s.h).2,(a++gF eds)++s.d,QA (bV bg eds us (zC (a++gF eds) s.t) s.h).2 eds++s.o,s.up.filter fun i=>!(mem (a++gF eds) i),[],[],s.oo⟩
theorem RZ{γ:Type}(a:List Nat)(eds:List Ed)(s:DS)(us:List U)(K:DS→Option γ):BM a eds s us K=K (kW a eds s us):=by
 unfold BM kW;simp only[af3,GQ]
structure St(m:Nat)(h0:List TObj)(s:DS):Prop where
 inv:Inv s
 len:m≤s.h.length
 ent:∀l,l<m→(l,0)∉s.o++s.oo→AO (nth .dead h0 l) (nth .dead s.h l) fun q=>decide ((l,q+1)∈s.o++s.oo)
theorem St.step{m:Nat}{h0:List TObj}{s s':DS}(h:St m h0 s)(hf:Fr s s')(hi:Inv s'):St m h0 s':=by
 refine⟨hi,qBn h.len hf.hl,fun l hl hno=>?_⟩;rw[hf.oo]at hno⊢;simp at hno;refine AO.trans (h.ent l hl ?_) ((hf.o l (qAR hl h.len) hno.1).mono (g:=fun q=>decide ((l,q+1)∈s'.o++s.oo)) fun q hq=>?_) fun q hq=>?_
 ·simp;exact⟨fun hm=>hno.1 (hf.om _ hm),hno.2⟩
 ·grind
 ·simp at hq⊢;exact⟨fun hm=>hq.1 (hf.om _ hm),hq.2⟩
end
section
open Go
theorem agc(es:List Ed)(x:fU (aY es)):(dG (aY es) x).map U.t=aY es++[]:=by rw[BF,qAs]
theorem o9{H:List TObj}{l q:Nat}:∀{es:List Ed} {hd:HO},Ed.o l hd∈es→(match hd with
  | .bx is=>match nth .dead H l with
   | .box _=>q∈is.flatMap fun p=>rng (p.1+1) (pO p.2)
   |_=>q=0
  |_=>q=0)→(l,q)∈QA H es
 |[],_,h,_=>by cases h
 | .r _ _::es,hd,h,k=>o9 (es:=es) (by simpa using h) k
 | .w _::es,hd,h,k=>o9 (es:=es) (by simpa using h) k
 | .o l' h'::es,hd,h,k=>by
  simp only[QA,qAA];rcases qAh.1 h with e|h
  ·grind
  ·exact .inr (o9 h k)
theorem R3{k:Nat}{sk:Sk}:∀{es:List Ed},Ed.r k sk∈es→k∈gF es
 |[],h=>by cases h
 | .r k' s'::es,h=>by
  simp only[gF,qAh];rcases qAh.1 h with e|h
  ·grind
  ·exact .inr (R3 h)
 | .w _::es,h=>R3 (es:=es) (by simpa using h)
 | .o _ _::es,h=>R3 (es:=es) (by simpa using h)
section
variable {s:DS}{a:List Nat}{eds:List Ed}{m:Nat}{h0:List TObj}
theorem aaO(hw:dz s.h.length [] [] eds=true)(x:fU (aY eds)){k:Nat}(hk:k∉a++gF eds):nth .unk (kW a eds s (dG _ x)).t k=nth .unk s.t k:=by
 have B:=mM eds (dG _ x) s.h.length [] [] (zC (a++gF eds) s.t) s.h [] (agc eds x) hw (qAr _) rfl;rcases B.slot k with e|⟨sk,us',e1,_⟩
 ·rw[kW,e,Vi,if_neg hk]
 ·exact(hk (qBu _ (R3 e1))).elim
theorem FU(hw:dz s.h.length [] [] eds=true)(x:fU (aY eds)):Fr s (kW a eds s (dG _ x)):=by
 have B:=mM eds (dG _ x) s.h.length [] [] (zC (a++gF eds) s.t) s.h [] (agc eds x) hw (qAr _) rfl;refine⟨by rw[kW,B.tl,U9],by rw[kW,B.hl];omega,fun k hk=>?_,fun p hp=>qBu _ hp,rfl,fun l hl hno=>?_⟩
 ·have hk':k∉(a++gF eds)++s.d:=hk;rw[qAA,not_or]at hk';exact⟨hk'.2,aaO hw x hk'.1⟩
 ·let J:=kW a eds s (dG _ x)
  have hno':(l,0)∉QA J.h eds++s.o:=hno;rw[qAA,not_or]at hno';by_cases hed:∃hd,Ed.o l hd∈eds
  ·obtain⟨hd,hed⟩:=hed;obtain⟨us',rest,ht,he⟩:=B.obj l hd hed;have he:nth .dead J.h l=(aZ bg (nth .dead s.h l) hd us').1:=he;cases hd with
   |bx is=>
    cases hJ:nth .dead J.h l with
    |box cf=>
     rw[hJ]at he;cases hs:nth .dead s.h l with
     |box cs0=>
      rw[hs]at he;simp only[aZ]at he;cases hq:(gN bg is (some cs0) us').1 with
      |none=>rw[hq]at he;cases he
      |some cf'=>
       rw[hq]at he;cases he;obtain⟨g1,g2⟩:=(Fa is (some cs0) us' rest ht).2 cs0 cf rfl hq;refine .inr ⟨cs0,cf,rfl,rfl,g1,fun q hq=>g2 q ?_⟩;rw[decide_eq_false_iff_not]at hq;have hq:(l,q+1)∉QA J.h eds++s.o:=hq;rw[qAA,not_or]at hq;unfold kZ;rw[sJ];exact fun hin=>hq.1 (o9 hed (by simp only[hJ];exact hin))
     |_=>rw[hs]at he;simp only[aZ]at he;cases he
    |_=>exact(hno'.1 (o9 hed (by simp only[hJ]))).elim
   |dead=>exact(hno'.1 (o9 hed rfl)).elim
   |box cs=>exact(hno'.1 (o9 hed rfl)).elim
   |own e=>exact(hno'.1 (o9 hed rfl)).elim
   |mp e=>exact(hno'.1 (o9 hed rfl)).elim
   |arr e=>exact(hno'.1 (o9 hed rfl)).elim
  ·exact .inl (B.keepO l hl fun hd h=>hed ⟨hd,h⟩)
theorem U5(hw:dz s.h.length [] [] eds=true)(x:fU (aY eds))(hi:Inv s):Inv (kW a eds s (dG _ x)):=by
 refine⟨fun i k c h1 h2=>?_,fun d i j h1=>(by cases h1),fun d x h1=>(by cases h1)⟩;obtain⟨g1,g2⟩:=mem_filter h1;have hn:i∉a++gF eds:=sJ.1 (by simpa using g2);rw[aaO hw x hn]at h2;exact hi.up i k c g1 h2
theorem K5{γ:Type}{b:γ}{s':DS}{K:fU (aY eds)→Option γ}(hm:m≤s.h.length)(hT:eY s.h.length s.t=true)(hH:zU s.h.length s.h=true)(hw:dz s.h.length [] [] eds=true)(hfr:Fr (fresh s) s')
  (h:zY a eds s s' (fun us=>tq (aY eds) us K)=some b):∃x,K x=some b∧Le m (aQ s'.h s'.t) (aD s'.h) (aQ (kW a eds s (dG _ x)).h (kW a eds s (dG _ x)).t) (aD (kW a eds s (dG _ x)).h):=by
 unfold zY at h;rw[MO]at h;obtain⟨hc,h⟩:=(aX h).resolve_right fun h=>by cases h.2
 simp at hc;obtain⟨us,h1,h2⟩:=PO (m:=m) (T0:=zC (a++gF eds) s.t) rfl hm (af8 _ _ hT) hH hw (by rw[U9];exact hfr.tl.symm) hfr.hl (fun k hk=>by
  rw[Vi];by_cases hk2:k∈a++gF eds
  ·grind
  ·rw[if_neg hk2];exact .inr (hfr.d k fun hd=>hk2 (af9 hc.1 k hd)).2.symm) (YP hw hc.2 hfr.o) h
 obtain⟨x,rfl,h3⟩:=HY h1;exact⟨x,h3,(h2 _ _ rfl).2.2⟩
theorem JE{γ:Type}{b:γ}{K:Option γ}(h:xH eds s K=some b):(eY s.h.length s.t=true∧zU s.h.length s.h=true∧dz s.h.length [] [] eds=true)∧K=some b:=by
 unfold xH at h;rw[MO]at h
 grind
end
theorem AW.vf{P:Program}{m:Nat}{c:Code}{Q:QT}{s:DS}(h:(∀n,VF (av s.h (nth .unk s.t n)))→AW P m c Q (aQ s.h s.t) (aD s.h)):AW P m c Q (aQ s.h s.t) (aD s.h):=fun C κ a w hk hs=>
 h (fun n=>by
  have:=(hs.ev (.tmp n)).vf;rw[show aS (ASt.mk (aQ s.h s.t) (aD s.h)).tmps (.tmp n)=av s.h (nth .unk s.t n)from bA _ _ _]at this;exact this) C κ a w hk hs
theorem am5{k:IntKind}{n:Int}(h1:k.min≤n)(h2:n≤k.max):k.wrap n=n:=by
 cases k
 ·exact IntWalk.i8_in n ⟨h1,h2⟩
 ·exact IntWalk.i16_in n ⟨h1,h2⟩
 ·exact IntWalk.i32_in n ⟨h1,h2⟩
 ·exact IntWalk.i64_in n ⟨h1,h2⟩
 ·exact IntWalk.u8_in n ⟨h1,h2⟩
 ·exact IntWalk.u16_in n ⟨h1,h2⟩
 ·exact IntWalk.u32_in n ⟨h1,h2⟩
 ·exact IntWalk.u64_in n ⟨h1,h2⟩
theorem KQ{α:Type}{f:α→Bool}{g:α→Nat}{n:Nat}:∀{l:List α},n∈sel f g l→∃x∈l,f x=true∧g x=n
 |[],h=>by cases h
 |x::l,h=>by
  simp only[sel]at h;cases hf:f x with
  |true=>
   rw[hf,cond_true]at h;rcases qAh.1 h with e|h
   ·grind
   ·obtain⟨y,h1,h2⟩:=KQ h;exact⟨y,qAk _ h1,h2⟩
  |false=>
   rw[hf,cond_false]at h;obtain⟨y,h1,h2⟩:=KQ h;exact⟨y,qAk _ h1,h2⟩
theorem abd(x:Operand)(s:DS):(D8 x s).t=s.t∧(D8 x s).h=s.h∧(D8 x s).d=s.d∧(D8 x s).o=s.o∧(D8 x s).oo=s.oo∧(D8 x s).rl=s.rl∧(D8 x s).cp=s.cp:=by cases x<;>exact⟨rfl,rfl,rfl,rfl,rfl,rfl,rfl⟩
theorem alj{x:Operand}{s:DS}(hi:Inv s)(hx:dF s.t x=.lf .b true)(hv:∀n,VF (av s.h (nth .unk s.t n))):Inv (D8 x s):=by
 obtain⟨e1,_,_,_,_,e2,e3⟩:=abd x s;refine⟨?_,by rw[e1,e2];exact hi.rl,by rw[e1,e3];exact hi.cp⟩;cases x with
 |tmp d=>
  have hd:nth .unk s.t d=.lf .b true:=hx
  let Ok:Nat→Prop:=fun i=>∀k a,jR (nth .unk s.t i)=some (k,a)→k.wrap (a+1)=a+1
  have g1:∀i∈sel (fun p:Nat×Nat×Nat=>Nat.beq p.1 d) (fun p=>p.2.1) s.rl,Ok i:=fun i hm k a hk=>by
   obtain⟨⟨d',i',j⟩,h1,h2,h3⟩:=KQ hm;have h2:d'=d:=qAc h2;subst h2;subst h3;obtain⟨c,h4,h5⟩:=hi.rl d' i' j h1 k a hk;have h6:=h5 true hd;have hlt:a<c:=of_decide_eq_true h6.symm;have v1:mE k a:=by have:=hv i';rw[akm hk]at this;exact this
   have v2:mE k c:=by have:=hv j;rw[akm h4]at this;exact this
   exact am5 (by have:=v1.1;omega) (by have:=v2.2;omega)
  have step:∀u:List Nat,(∀i∈u,Ok i)→(∀i∈sel (fun p:Nat×Nat=>mem u p.1) (fun p=>p.2) s.cp++u,Ok i)∧∀i∈sel (fun p:Nat×Nat=>mem u p.2) (fun p=>p.1) s.cp++u,Ok i:=fun u hu=>by
   refine⟨fun i hm=>?_,fun i hm=>?_⟩
   ·rcases qAA.1 hm with hm|hm
    ·obtain⟨⟨d',x'⟩,h1,h2,h3⟩:=KQ hm;subst h3;intro k a hk;rw[←hi.cp d' x' h1]at hk;exact hu d' (mem_iff.1 h2) k a hk
    grind
   ·rcases qAA.1 hm with hm|hm
    ·obtain⟨⟨d',x'⟩,h1,h2,h3⟩:=KQ hm;subst h3;intro k a hk;rw[hi.cp d' x' h1]at hk;exact hu x' (mem_iff.1 h2) k a hk
    grind
  intro i k a h1 h2;simp only[D8]at h1;rw[mem_iff,qAA]at h1;rcases h1 with h1|h1
  ·exact(step _ (step _ g1).1).2 i h1 k a h2
  ·exact hi.up i k a (mem_iff.2 h1) h2
 |_=>exact hi.up
theorem anj{s s1 s':DS}(h:Fr s1 s')(e1:s1.t=s.t)(e2:s1.h=s.h)(e3:s1.d=s.d)(e4:s1.o=s.o)(e5:s1.oo=s.oo):Fr s s':=
 ⟨by rw[←e1];exact h.tl,by rw[←e2];exact h.hl,by rw[←e3,←e1];exact h.d,by rw[←e4];exact h.om,by rw[←e5];exact h.oo,by rw[←e2];exact h.o⟩
theorem U1{γ:Type}{b:γ}:∀(l:List TObj) (n:Nat) (K:List TObj→Option γ),Yi l n K=some b→∃h c,l=h++qV c∧(n≤l.length→n≤h.length)∧K h=some b
 |[],n,K,h=>⟨[],0,rfl,id,h⟩
 |o::l,0,K,h=>by
  have h:(Yi l 0 fun r=>match r with
   |[]=>bif iq o then K []else K [o]
   |x::xs=>K (o::x::xs))=some b:=h
  obtain⟨h1,c,g1,_,g3⟩:=U1 l 0 _ h;cases h1 with
  |nil=>
   rcases aX g3 with⟨e,g3⟩|⟨_,g3⟩
   ·have e:o=.res:=by unfold iq at e;split at e;rfl;cases e
    exact⟨[],c+1,by rw[e,g1];rfl,fun _=>qBe _,g3⟩
   grind
  |cons x xs=>exact⟨o::x::xs,c,by rw[g1];rfl,fun _=>qBe _,g3⟩
 |o::l,n+1,K,h=>by
  obtain⟨h1,c,g1,g2,g3⟩:=U1 l n _ h
  grind
theorem F7:∀c,qV c=List.replicate c .res
 |0=>rfl
 |c+1=>by simp only[qV,F7 c,qCO]
theorem ajC(H:List TObj)(c l:Nat):Lk H (H++qV c) l:=by
 unfold Lk;by_cases hl:l<H.length
 ·rw[iC hl];exact⟨rfl,fun _=>rfl⟩
 ·rw[iH (by omega:H.length≤l)];have:nth .dead (H++qV c) l=.dead∨nth .dead (H++qV c) l=.res:=by
   rw[eH,List.getD,qAi (by omega),F7,qBp]
   grind
  rcases this with e|e<;>rw[e]<;>exact⟨rfl,fun _=>rfl⟩
theorem YQ(H:List TObj)(c:Nat)(t:List TV):aQ (H++qV c) t=aQ H t:=(Nc t fun l _=>ajC H c l).symm
theorem MR(H:List TObj)(c:Nat):aD (H++qV c)=aD H++List.replicate c .res:=by
 unfold aD;rw[qBa,F7,qCg];congr 1;refine qBi fun o _=>?_;rw[←F7];exact(acF o fun cs _ l _=>ajC H c l).symm
theorem anO{m:Nat}(t:List AV)(H:List AObj)(c:Nat):Le m t (H++List.replicate c .res) t H:=by
 intro C κ a w _ hs;have hkl:κ.length=(H++List.replicate c AObj.res).length:=hs.klen;have hat:∀l,at? (κ.take H.length) l=at? κ l:=fun l=>by
  unfold at?;by_cases hl:l<H.length
  ·grind
  ·rw[qBm,if_neg hl];by_cases h2:l<κ.length
   ·have hr:obj? (H++List.replicate c AObj.res) l=.res:=by
     simp only[qAg,qAV]at hkl;unfold obj?
     grind
    have:=hs.resv l hr;unfold at? at this
    grind
   grind
 have hob:∀l b,at? κ l=some b→obj? H l=obj? (H++List.replicate c AObj.res) l:=fun l b hb=>by
  unfold obj?;by_cases hl:l<H.length
  ·grind
  ·exfalso;rw[←hat l]at hb;unfold at? at hb
   grind
 refine⟨κ.take H.length,hs.step (H':=H) (Evo.refl _ _) (fun l b hb=>by rw[hat];exact hb) (by rw[qAx,hkl];simp only[qAg];omega) ?_ ?_ ?_ ?_ ?_ (fun _ _=>rfl) rfl rfl rfl⟩
 ·rintro b o (hb|⟨l,h1,h2⟩) _
  ·exact .inl hb
  ·rw[hat]at h1;rw[hob l b h1]at h2;exact .inr ⟨l,h1,h2⟩
 ·grind
 ·intro l l' b h1 h2 h3 h4;rw[hat]at h1 h2;rw[hob l b h1]at h3;rw[hob l' b h2]at h4;exact hs.apart l l' b h1 h2 h3 h4
 ·intro l b h1;rw[hat]at h1;exact hs.bound l b h1
 ·intro l h1;cases hb:at? (κ.take H.length) l with
  |none=>rfl
  |some b=>
   rw[hat]at hb;rw[hob l b hb]at h1;have:=hs.resv l h1;rw[hb]at this;cases this
end
end Abs
end Go.Proofs.YtbijdmihdagfaaaGreatDoor
