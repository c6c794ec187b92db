/-
  A call by an entry does what the entry says. Conditions: the entry's contract.
-/
import Derived.IntWalk
import Derived.Test.YtneeginmfjageaaGreatCD17oxd04a21
set_option linter.unusedSimpArgs false
set_option linter.unusedVariables false
namespace Go.Proofs.YtneeginmfjageaaGreat
namespace Abs
section
open Go
mutual
theorem aeb{A B:Nat→Bool}(h:∀l,A l=true→B l=true):∀v,Ic A v=true→Ic B v=true
 | .ptr l _,k=>h l k
 | .mapr l,k=>h l k
 | .own l,k=>h l k
 | .psl l _ _,k=>h l k
 | .ap l _ _ _,k=>h l k
 | .eptr cs,k=>KW h cs k
 | .agg cs,k=>KW h cs k
 | .tup cs,k=>KW h cs k
 | .func _ cs,k=>KW h cs k
 | .unk,_=>rfl | .nilp,_=>rfl | .nilF,_=>rfl | .nils,_=>rfl | .lf _ _,_=>rfl | .nat _,_=>rfl
theorem KW{A B:Nat→Bool}(h:∀l,A l=true→B l=true):∀vs,mR A vs=true→mR B vs=true
 | [],_=>rfl
 | v::vs,k=>by
  simp only[mR,qAa] at k⊢;exact⟨aeb h v k.1,KW h vs k.2⟩
end
theorem asS g n:(bZ n).map (eO g)=bZ n:=by unfold bZ;rw[qDf];rfl
theorem aaT n k:nth .unk (bZ n) k=.unk:=by
 unfold bZ;rw[iD,List.getD,qBV];split<;>rfl
theorem azP g r:res1 (r.map (eO g))=eO g (res1 r):=by
 match r with
 | []=>rfl
 | [v]=>rfl
 | v::w::r=>simp only[qAu,res1,eO,EY]
theorem aBa{A}{r}(h:∀v∈r,Ic A v=true):Ic A (res1 r)=true:=by
 match r with
 | []=>rfl
 | [v]=>exact h v (by simp)
 | v::w::r=>exact aoH.2 h
section
variable {γ:Type}{b:γ}{P:Program}
theorem aAz{H}{k}{vs}{ps}{na} rs nr z {x}{us}{L0}{ρ}{Q:List TWr→TV→Option γ}
  (edps:dZ 0 [] [] ps=true) (edrs:dZ (aC ps) [] [] rs=true) (psok:OP (aC ps) rs 0 ps=true) (rsok:zW (aC ps+aC rs) (killed rs) (kinds ps) rs=true) (hna:vs.length=na) (hρl:ρ.length=aC ps) (hnd:ρ.Nodup)
  (hres:∀l∈rng k (aC rs),lI (nth .dead H l)=true) (hsome:∀j,j<aC ps→L0 j=ρ[j]?) (L0ge:∀j,aC ps≤j→L0 j=none) (hx:dU (bD ps) x=us) {T1:List TV} {h1:List TObj} (q1:dB bI ps us (bZ na) []=(T1,h1)) (la:LaidD H L0 1 0 vs 0 ps (bZ na) [] T1 h1)
  (hus:(N9 (kD (ρ++rng k (aC rs))) ps us (bZ na) [] fun _ h=>N9 (kD (ρ++rng k (aC rs))) rs (dU (bD rs) z) (bZ nr) h fun r h'=>Hu ρ h' k (aC ps) rs fun ws=>Q ws (res1 r))=some b):
  ∃r h2 ws v,dB bI rs (dU (bD rs) z) (bZ nr) h1=(r,h2)∧(∀tm,Passes ⟨tm,aA H⟩ ρ (rng k (aC rs)) (aA h1))∧(aA h2).length=(ρ++rng k (aC rs)).length∧
   SWs (aR H vs) ((aR h1 T1).map (ren (nm (ρ++rng k (aC rs)) (aA H).length)))∧Q ws v=some b∧(∀w∈ws,∃p,tgt w=some p∧p∈ρ++rng k (aC rs))∧
   ∀s s',s.h=H→Ws s ws s'→aA s'.h=nI (aA H) (ρ++rng k (aC rs)) ((aA h2).map (dK (nm (ρ++rng k (aC rs)) (aA H).length)))∧av s'.h v=ren (nm (ρ++rng k (aC rs)) (aA H).length) (av h2 (res1 r)):=by
 rw[O6] at hus;have ren1:=OD (kD (ρ++rng k (aC rs))) ps us (bZ na) [];rw[asS,qCV,q1] at ren1;rw[ren1] at hus;simp only at hus;rw[O6] at hus;generalize hq2:dB bI rs (dU (bD rs) z) (bZ nr) h1=q2 at *;obtain⟨r,h2⟩:=q2;have ren2:=OD (kD (ρ++rng k (aC rs))) rs (dU (bD rs) z) (bZ nr) h1;rw[asS,hq2] at ren2;rw[ren2] at hus;simp only at hus;have h1l:h1.length=aC ps:=by rw[la.hl,qAL]
 have bs:=rW rs (dU (bD rs) z) (aC ps) [] [] (bZ nr) h1 [] (by rw[IC,qAr]) edrs (qAd _) h1l;rw[hq2] at bs;simp only at bs
 let L:=ρ++rng k (aC rs)
 let g:=kD L
 let G:=nm L (aA H).length
 have Lold:∀j,j<aC ps→∃l,ρ[j]? =some l∧L[j]? =some l∧L0 j=some l:=fun j hj=>by
  have hl:ρ[j]? =some (ρ[j]'(by omega)):=qAc _;exact⟨_,hl,by simp only[L];rw[qAi (by omega)];exact hl,by rw[hsome j hj];exact hl⟩
 have Lnew:∀i,i<aC rs→L[aC ps+i]? =some (k+i):=fun i hi=>by
  simp only[L];rw[qAk (by omega),hρl,Nat.add_sub_cancel_left];exact arv _ _ _ hi
 have Llen:L.length=aC ps+aC rs:=by simp only[L,qAf,hρl,arP]
 -- what the objects that are handed in are
 have inO:∀j,j<aC ps→∃l hd,ρ[j]? =some l∧Ed.w hd∈ps∧nth .dead (kinds ps) j=hd∧FO H L0 0 hd .dead (nth .dead h1 j) (nth .dead H l):=fun j hj=>by
  rcases la.new j hj with⟨l,hd,e1,⟨e2,e2'⟩,e3⟩ | ⟨_,hm,_⟩
  ·rw[qAL] at e1 e3;exact⟨l,hd,by rw[←hsome j hj];exact e1,e2,e2',e3⟩
  ·omega
 have alive:∀l∈ρ,nth .dead H l≠ .dead∧nth .dead H l≠ .res:=fun l hl=>by
  obtain⟨j,hj⟩:=qAS hl;have hjl:=(qAx.1 hj).1;obtain⟨l',hd,e1,e2,_,e3⟩:=inO j (by omega);rw[hj] at e1;cases e1;obtain⟨p1,p2,_⟩:=Kg psok hd e2;cases hd with
  | dead=>exact(p1 rfl).elim
  | bx is=>exact(p2 is rfl).elim
  | box cs=>obtain⟨ws,vs,_,e4,_⟩:=e3;rw[e4];exact⟨fun h=>(by cases h),fun h=>(by cases h)⟩
  | own e=>obtain⟨_,_,_,e4⟩:=e3;rw[e4];exact⟨fun h=>(by cases h),fun h=>(by cases h)⟩
  | mp e=>obtain⟨_,_,_,e4⟩:=e3;rw[e4];exact⟨fun h=>(by cases h),fun h=>(by cases h)⟩
  | arr e=>obtain⟨_,_,_,e4⟩:=e3;rw[e4];exact⟨fun h=>(by cases h),fun h=>(by cases h)⟩
 have inlt:∀l∈ρ,l<H.length:=fun l hl=>aaw (alive l hl).1;have reslt:∀l∈rng k (aC rs),l<H.length:=fun l hl=>IL (hres l hl);have hG0:∀j l,L0 j=some l→G j=l:=fun j l hj=>by
  have hlt:j<aC ps:=by
   apply qAp;intro hn;rw[L0ge j (by omega)] at hj;cases hj
  obtain⟨l',e1,e2,e3⟩:=Lold j hlt;rw[hj] at e3;cases e3;exact avC e2
 have look0:∀j l,L0 j=some l→eP l (nth .dead H l)=ren G (eP j (nth .dead h1 j))∧∀z,dO l z (nth .dead H l)=ren G (dO j z (nth .dead h1 j)):=fun j l hj=>by
  have hlt:j<aC ps:=by
   apply qAp;intro hn;rw[L0ge j (by omega)] at hj;cases hj
  obtain⟨l',hd,e1,e2,_,e3⟩:=inO j hlt;rw[←hsome j hlt,hj] at e1;cases e1;have hg:=hG0 j l hj;cases hd with
  | dead=>exact((Kg psok _ e2).1 rfl).elim
  | bx is=>exact((Kg psok _ e2).2.1 is rfl).elim
  | box cs=>obtain⟨ws,vs,e4,e5,_⟩:=e3;rw[e4,e5];exact⟨rfl,fun _=>rfl⟩
  | own e=>obtain⟨_,_,e4,e5⟩:=e3;rw[e4,e5];exact⟨by simp only[eP,ren,pG,l9,hg],fun _=>rfl⟩
  | mp e=>obtain⟨_,_,e4,e5⟩:=e3;rw[e4,e5];exact⟨rfl,fun _=>rfl⟩
  | arr e=>obtain⟨_,_,e4,e5⟩:=e3;rw[e4,e5];exact⟨rfl,fun _=>by simp only[dO,ren,hg]⟩
 have hW:=aBs (H:=H) (Hk:=h1) hG0 look0;have objEq:∀j l,ρ[j]? =some l→fC H (nth .dead H l)=dK G (fC h1 (nth .dead h1 j)):=fun j l hj=>by
  have hlt:j<aC ps:=by have:=(qAx.1 hj).1;omega
  obtain⟨l',hd,e1,e2,_,e3⟩:=inO j hlt;rw[hj] at e1;cases e1;cases hd with
  | dead=>exact((Kg psok _ e2).1 rfl).elim
  | bx is=>exact((Kg psok _ e2).2.1 is rfl).elim
  | box cs=>obtain⟨ws,vs,e4,e5,e6⟩:=e3;rw[e4,e5];simp only[fC,dK,rs0 (e6 h1 _ hW)]
  | own e=>obtain⟨_,_,e4,e5⟩:=e3;rw[e4,e5];rfl
  | mp e=>obtain⟨_,_,e4,e5⟩:=e3;rw[e4,e5];simp only[fC,dK,Nk]
  | arr e=>obtain⟨_,_,e4,e5⟩:=e3;rw[e4,e5];simp only[fC,dK,l9]
 have disj:∀l∈ρ,l∉rng k (aC rs):=fun l hl hm=>by
  have:=hres l hm;have h2:=(alive l hl).2;unfold lI at this;split at this
  ·rename_i q;exact h2 q
  ·cases this
 have Lnd:L.Nodup:=qBq.2 ⟨hnd,akb _ _,fun a ha c hc e=>by subst e;exact disj a ha hc⟩;obtain⟨ws,hws,htg,hwro⟩:=afL hnd hρl rs k (aC ps) [] [] _ edrs (fun p hp=>by
  have:=disj p hp;rw[FL] at this;omega) hus
 have ixL:∀l,l<aC ps→kD ρ l=g l:=fun l hl=>by
  obtain⟨p,e1,e2,_⟩:=Lold l hl;rw[xu e1];exact(xu e2).symm
 have tgL:∀w∈ws,∃p,tgt w=some p∧p∈L:=fun w hw=>by
  obtain⟨p,e1,e2⟩:=htg w hw;refine⟨p,e1,?_⟩;rcases e2 with⟨l,hd,q1,q2⟩ | ⟨q1,q2⟩
  ·obtain⟨p',e3,_,_⟩:=Lold l (nM edrs q1);rw[xu e3] at q2;subst q2;exact qBA _ (qAI e3)
  ·exact qBC _ (FL.2 ⟨q1,q2⟩)
 refine⟨r,h2,ws,_,rfl,fun tm=>⟨Lnd,by simp[aA,h1l,hρl],fun l hl=>by simp only[aA,qAh];exact inlt l hl,fun l hl=>yX (hres l hl),fun i l hi=>by rw[jI,jI];exact objEq i l hi⟩,by simp only[aA,qAh,bs.hl];exact Llen.symm,?_,hws,tgL,?_⟩
 ·-- the arguments
  have hlen:vs.length=T1.length:=by rw[la.tl,hna];simp[bZ]
  have key:∀n,SW (av H (nth .unk vs n)) (ren G (av h1 (nth .unk T1 n))):=fun n=>by
   by_cases hn:n∈je ps
   ·obtain⟨s,hs⟩:=NR hn;by_cases hlt:n<(bZ na).length
    ·exact la.slot n s hs hlt h1 _ hW
    ·rw[kL (show T1.length≤n by rw[la.tl];omega)];exact .unk _
   ·rw[la.keep n hn,aaT];exact .unk _
  have all:∀(a c:List TV),a.length=c.length→(∀n,SW (av H (nth .unk a n)) (ren G (av h1 (nth .unk c n))))→SWs (aR H a) ((aR h1 c).map (ren G)):=fun a=>by
   induction a with
   | nil=>intro c hl _;cases c with
    | nil=>exact .nil
    | cons _ _=>cases hl
   | cons x a ih=>intro c hl hk;cases c with
    | nil=>cases hl
    | cons y c=>exact .cons (hk 0) (ih c (by simpa using hl) fun n=>hk (n+1))
  exact all vs T1 hlen key
 ·-- the state behind the call
  intro s s' hsH hWs;subst hsH;have W:=hwro s s' inlt hWs
  let A:Nat→Bool:=fun l=>Nat.blt l (aC ps+aC rs)&&!(mem (killed rs) l)
  have hA:∀l,(Nat.blt l (aC ps+aC rs)&&!(mem (killed rs) l))=true→A l=true:=fun l h=>h;have hA1:∀l,(Nat.blt l (aC ps)&&!(mem (killed rs) l))=true→A l=true:=fun l h=>by
   simp only[qAa,A] at h⊢;refine⟨qCO ?_,h.2⟩;have:l<aC ps:=qAe h.1;omega
  have Alt:∀j,A j=true→j<aC ps+aC rs∧Ed.o j .dead∉rs:=fun j h=>by
   simp only[qAa,qAF,zo,A] at h;exact⟨qAe h.1,fun hm=>h.2 (M7 hm)⟩
  -- objects of the callee name only what is alive
  let A1:Nat→Bool:=fun l=>Nat.blt l (aC ps)&&!(mem (killed rs) l)
  have bs1:=rW ps us 0 [] [] (bZ na) [] [] (by rw[←hx,IC,qAr]) edps (qAd _) rfl;rw[q1] at bs1;have rfU:∀j,(∀hd,Ed.o j hd∉rs)→rfO A1 (nth .dead h1 j):=fun j hno=>by
   by_cases hj:j<aC ps
   ·obtain⟨us',rest,e1,e2⟩:=bs1.newK j hj;have hp:=af8 psok j hj;rw[qAL] at e2 hp;intro cs hc;generalize hkd:nth .dead (kinds ps) j=hd at *;obtain⟨ss,rfl,rfl⟩:=Y0 (ajf hp).2.1 (e2.symm.trans hc);simp only[ah5,qAa] at hp;have hn:Dt j rs=none:=by
     cases hq:Dt j rs with
     | none=>rfl
     | some hd=>exact(hno hd (U2 hq)).elim
    rw[hn] at hp;exact SX (AY (A:=A1) (fun l h=>h) ss us' hp.2)
   ·rw[kL (by omega)];intro cs hc;cases hc
  have rfB':∀j is,Ed.o j (.bx is)∈rs→∀cs,nth .dead h1 j=.box cs→∀q v,(aF cs)[q]? =some v→pQ is q=false→Ic A1 v=true:=fun j is hm cs hc q v hv hq=>by
   have hj:=nM edrs hm;obtain⟨us',rest,e1,e2⟩:=bs1.newK j hj;have hp:=af8 psok j hj;rw[qAL] at e2 hp;generalize hkd:nth .dead (kinds ps) j=hd at *;obtain⟨ss,rfl,rfl⟩:=Y0 (ajf hp).2.1 (e2.symm.trans hc);simp only[ah5,qAa] at hp;rw[aa9 edrs hm] at hp;exact ajX (A:=A1) (fun l h=>h) is ss us' rest 0 e1 hp.2 q v hv (by rw[qAL];exact hq)
  have rf2:∀j,rfO A (nth .dead h2 j):=fun j=>by
   by_cases hj:j<aC ps
   ·by_cases hed:∃hd,Ed.o j hd∈rs
    ·obtain⟨hd,hed⟩:=hed;obtain⟨us',rest,et,e2⟩:=bs.obj j hd hed;rw[e2];rcases Sn rsok j hd hed with rfl | ⟨h3,_⟩
     ·intro cs hc;cases hc
     ·by_cases hb:∃is,hd=.bx is
      ·obtain⟨is,rfl⟩:=hb;intro cs hc;cases ho:nth .dead h1 j with
       | box cs0=>
        rw[ho] at hc;simp only[bF] at hc;cases hq:(jl bI is (some cs0) us').1 with
        | none=>rw[hq] at hc;cases hc
        | some cs1=>
         rw[hq] at hc;cases hc;exact aj4 hA is _ us' rest et h3 (fun cs2 h2 q v hv hq=>by cases h2;exact aeb hA1 v (rfB' j is hed cs0 ho q v hv hq)) cs hq
       | _=>rw[ho] at hc;cases hc
      ·have:bF bI (nth .dead h1 j) hd us'=bF bI .dead hd us':=by
        cases hd with
        | bx is=>exact(hb ⟨is,rfl⟩).elim
        | _=>rfl
       rw[this];exact apQ hA _ hd us' h3 fun cs hc=>by cases hc
    ·rw[bs.keepO j hj fun hd h=>hed ⟨hd,h⟩];intro cs hc v hv;exact aeb hA1 v (rfU j (fun hd h=>hed ⟨hd,h⟩) cs hc v hv)
   ·by_cases hj2:j<aC ps+aC rs
    ·obtain⟨hd,us',e1,e2⟩:=bs.new (j - aC ps) (by omega);rw[show aC ps+(j - aC ps)=j from by omega] at e2;rw[e2];exact apQ hA _ hd us' (afd rsok hd e1) fun cs hc=>by cases hc
    ·rw[kL (by rw[bs.hl];omega)];intro cs hc;cases hc
  have gG:∀j,j<aC ps+aC rs→G j=g j:=fun j hj=>by
   have:L[j]? =some (L[j]'(by omega)):=qAc _;rw[show G j=_ from avC this,show g j=_ from xu this]
  -- where the callee's objects stand now
  have newAt:∀i,i<aC rs→nth .dead s'.h (g (aC ps+i))=jv g (nth .dead h2 (aC ps+i)):=fun i hi=>by
   rw[show g (aC ps+i)=k+i from xu (Lnew i hi),W.new i hi];exact Uv (d:=.dead) (d':=.dead) (jv g) rfl h2 _
  have Dt:∀j hd,Ed.o j hd∈rs→hd≠ .dead→(∀is,hd≠ .bx is)→plainO (nth .dead h2 j)=true∧nth .dead s'.h (g j)=jv g (nth .dead h2 j):=fun j hd hm h1 h2'=>by
   have hj:=nM edrs hm;have hmap:nth .dead (h2.map (jv g)) j=jv g (nth .dead h2 j):=Uv (d:=.dead) (d':=.dead) (jv g) rfl h2 _;have pl:∀o,plainO (jv g o)=true→plainO o=true:=fun o h=>by cases o<;>first | rfl | cases h
   have:=W.obj j hd hm;rw[←ixL j hj];cases hd with
   | dead=>exact(h1 rfl).elim
   | bx is=>exact(h2' is rfl).elim
   | box cs=>obtain⟨a1,a2,a3⟩:=this;exact⟨pl _ (by rw[←hmap];exact a1),by rw[←hmap];exact a3⟩
   | own e=>obtain⟨a1,a2,a3⟩:=this;exact⟨pl _ (by rw[←hmap];exact a1),by rw[←hmap];exact a3⟩
   | mp e=>obtain⟨a1,a2,a3⟩:=this;exact⟨pl _ (by rw[←hmap];exact a1),by rw[←hmap];exact a3⟩
   | arr e=>obtain⟨a1,a2,a3⟩:=this;exact⟨pl _ (by rw[←hmap];exact a1),by rw[←hmap];exact a3⟩
  have unAt:∀j l,ρ[j]? =some l→(∀hd,Ed.o j hd∉rs)→nth .dead s'.h l=nth .dead s.h l∧fC s'.h (nth .dead s.h l)=fC s.h (nth .dead s.h l):=fun j l hj hno=>by
   have hlt:j<aC ps:=by have:=(qAx.1 hj).1;omega
   refine Tc hWs l fun w hw e1=>?_;obtain⟨p,e2,e3⟩:=htg w hw;rw[e1] at e2;cases e2;rcases e3 with⟨l',hd,a1,a2⟩ | ⟨a1,a2⟩
   ·have hl':=nM edrs a1;obtain⟨p',a3,_,_⟩:=Lold l' hl';rw[xu a3] at a2;subst a2;have:l'=j:=(qCo (by omega) hnd).1 (a3.trans hj.symm);subst this;exact hno hd a1
   ·exact disj l (qAI hj) (FL.2 ⟨a1,a2⟩)
  have boxAt:∀j is,Ed.o j (.bx is)∈rs→∃l cs0 cs1 vs0 cf,ρ[j]? =some l∧nth .dead s.h l=.box cs0∧nth .dead s'.h l=.box cs1∧nth .dead h1 j=.box vs0∧nth .dead h2 j=.box cf∧(aF cs1).length=(aF cs0).length∧(aF cf).length=(aF vs0).length∧aU s.h cs0=dG G (aU h1 vs0)∧
    ∀q,(pQ is q=true→q<(aF cs0).length→(aF cs1)[q]? =((aF cf).map (eO g))[q]?)∧(pQ is q=false→((aF cs1)[q]? =(aF cs0)[q]?∧∀v,(aF cs0)[q]? =some v→av s'.h v=av s.h v)∧(aF cf)[q]? =(aF vs0)[q]?):=fun j is hm=>by
   have hj:=nM edrs hm;obtain⟨l,hd0,e1,e2,e2',e3⟩:=inO j hj;rcases Sn rsok j _ hm with hh | ⟨_,_,_,_,hpl⟩
   ·cases hh
   ·rw[e2'] at hpl;have hpl:=hpl is rfl;obtain⟨us',rest,e4t,e4⟩:=bs.obj j _ hm;have hmap:nth .dead (h2.map (jv g)) j=jv g (nth .dead h2 j):=Uv (d:=.dead) (d':=.dead) (jv g) rfl h2 _;have wj:=W.obj j _ hm;simp only[xu e1] at wj;cases hd0 with
    | box cs=>
     obtain⟨vs0,cs0,e5,e6,e7⟩:=e3;obtain⟨cs1,cf',a1,a2,a3,a4⟩:=wj cs0 e6;replace a2:jv g (nth .dead h2 j)=.box cf':=hmap.symm.trans a2;rw[e5] at e4;simp only[bF] at e4;cases hq:(jl bI is (some vs0) us').1 with
     | none=>rw[hq] at e4;rw[e4] at a2;cases a2
     | some cf=>
      rw[hq] at e4;rw[e4] at a2;simp only[jv,TObj.box.injEq] at a2;subst a2;have fs:=(MI is (some vs0) us' rest e4t).2 vs0 cf rfl hq;refine⟨l,cs0,cs1,vs0,cf,e1,e6,a1,e5,e4,a3,fs.1,rs0 (e7 h1 _ hW),fun q=>⟨fun h1 h2=>?_,fun h=>⟨(a4 q).2 h,fs.2 q h⟩⟩⟩;rw[(a4 q).1 h1 h2,Wm]
    | _=>cases hpl
  have lks:Lks g G A s'.h h2:=by
   have key:∀j,A j=true→eP (g j) (nth .dead s'.h (g j))=ren G (eP j (nth .dead h2 j))∧∀z,dO (g j) z (nth .dead s'.h (g j))=ren G (dO j z (nth .dead h2 j)):=fun j hj=>by
    obtain⟨hlt,hdd⟩:=Alt j hj;by_cases hj1:j<aC ps
    ·obtain⟨l,e1,e2,e3⟩:=Lold j hj1;have hgj:g j=l:=xu e2;by_cases hed:∃hd,Ed.o j hd∈rs
     ·obtain⟨hd,hed⟩:=hed;by_cases hb:∃is,hd=.bx is
      ·obtain⟨is,rfl⟩:=hb;obtain⟨l',cs0,cs1,vs0,cf,b1,b2,b3,b4,b5,_⟩:=boxAt j is hed;rw[e1] at b1;cases b1;rw[hgj,b3,b5];exact⟨rfl,fun _=>rfl⟩
      ·obtain⟨b1,b2⟩:=Dt j hd hed (fun e=>by subst e;exact hdd hed) fun is e=>hb ⟨is,e⟩;rw[b2];exact avd _ (gG j hlt)
     ·have hno:∀hd,Ed.o j hd∉rs:=fun hd h=>hed ⟨hd,h⟩;rw[hgj,(unAt j l e1 hno).1,bs.keepO j hj1 hno];exact look0 j l e3
    ·have:=newAt (j - aC ps) (by omega);rw[show aC ps+(j - aC ps)=j from by omega] at this;rw[this];exact avd _ (gG j hlt)
   exact⟨fun j hj=>gG j (Alt j hj).1,fun j hj=>(key j hj).1,fun j z hj=>(key j hj).2 z⟩
  have lk12:∀j,A j=true→j<aC ps→Lk h1 h2 j:=fun j hj hj1=>by
   by_cases hed:∃hd,Ed.o j hd∈rs
   ·obtain⟨hd,hed⟩:=hed;rcases Sn rsok j hd hed with rfl | ⟨_,hpl,ho1,ho2,_⟩
    ·exact((Alt j hj).2 hed).elim
    ·obtain⟨us',_,_,e2⟩:=bs.obj j hd hed;refine anR ?_ (by rw[e2];exact aqR _ hd us' (by cases hd<;>first | rfl | exact(ho1 _ rfl).elim | exact(ho2 _ rfl).elim));obtain⟨l,hd0,_,_,e4,e5⟩:=inO j hj1;rw[e4] at hpl;cases hd0 with
     | box cs=>obtain⟨_,_,e6,_⟩:=e5;rw[e6];rfl
     | mp e=>obtain⟨_,_,e6,_⟩:=e5;rw[e6];rfl
     | _=>cases hpl
   ·unfold Lk;rw[bs.keepO j hj1 fun hd h=>hed ⟨hd,h⟩];exact⟨rfl,fun _=>rfl⟩
  have low:∀v,Ic A1 v=true→av h2 v=av h1 v:=fun v hv=>(Tp v fun l hl=>(by
   have hl1:=aja v hl hv;have hlt:l<aC ps:=by
    simp only[qAa,A1] at hl1;exact qAe hl1.1
   exact lk12 l (hA1 l hl1) hlt)).symm
  have avLow:∀j,(∀hd,Ed.o j hd∉rs)→fC h2 (nth .dead h1 j)=fC h1 (nth .dead h1 j):=fun j hno=>by
   cases ho:nth .dead h1 j with
   | box cs=>
    simp only[fC];rw[uO,uO];exact congrArg _ (qBo fun v hv=>low v (rfU j hno cs ho v hv))
   | _=>rfl
  refine⟨?_,?_⟩
  ·apply qBS;intro l;have hlen:s'.h.length=s.h.length:=(Tg hWs).2;have lget:∀(Hx:List TObj) (l:Nat),l<Hx.length→(aA Hx)[l]? =some (fC Hx (nth .dead Hx l)):=fun Hx l hl=>by
    unfold aA;rw[qAJ,iD,List.getD,qAc hl];rfl
   by_cases hl:l<s.h.length
   ·rw[lget s'.h l (by omega)];by_cases hin:l∈L
    ·obtain⟨j,hj⟩:=qAS hin;have hjl:=(qAx.1 hj).1;have hjn:j<aC ps+aC rs:=by omega
     rw[JM L _ (aA s.h) j l Lnd hj (by rw[qAh];simp only[aA,qAh,bs.hl];exact hjn) (by simp only[aA,qAh];exact hl)];rw[qAJ,lget h2 j (by rw[bs.hl];exact hjn)];simp only[qAy,Option.some.injEq];have hgj:g j=l:=xu hj;by_cases hj1:j<aC ps
     ·have hρj:ρ[j]? =some l:=by
       obtain⟨l',a1,a2,_⟩:=Lold j hj1;rw[hj] at a2;cases a2;exact a1
      by_cases hed:∃hd,Ed.o j hd∈rs
      ·obtain⟨hd,hed⟩:=hed;by_cases hdd:hd=.dead
       ·subst hdd;obtain⟨us',_,_,a1⟩:=bs.obj j _ hed;have a1:nth .dead h2 j=.dead:=a1;have:=W.obj j _ hed;rw[ixL j hj1,hgj] at this;rw[a1];rcases this with⟨_,_,_,a2⟩ | ⟨_,_,_,a2⟩ | a2<;>(rw[a2];rfl)
       ·by_cases hb:∃is,hd=.bx is
        ·obtain⟨is,rfl⟩:=hb;obtain⟨l',cs0,cs1,vs0,cf,b1,b2,b3,b4,b5,b6,b7,b8,b9⟩:=boxAt j is hed;rw[hρj] at b1;cases b1;rw[b3,b5];simp only[fC,dK,AObj.box.injEq];have hl8:(aF cs0).length=(aF vs0).length:=by
          have:=congrArg List.length b8;rw[iq,kF,kF,←nN,←nN] at this;exact this
         rw[uO,uO,sU,qBh];apply qBS;intro q;rw[qAJ,qAJ];by_cases hq:q<(aF cs0).length
         ·cases hc:pQ is q with
          | true=>
           rw[(b9 q).1 hc hq,qAJ];cases hv:(aF cf)[q]? with
           | none=>rfl
           | some v=>
            simp only[qAy,Option.some.injEq,Function.comp];exact Nv lks v (rf2 j cf b5 v (qAI hv))
          | false=>
           obtain⟨⟨c1,c2⟩,c3⟩:=(b9 q).2 hc;rw[c1,c3];have hq2:q<(aF vs0).length:=by omega
           rw[qAc hq,qAc hq2];simp only[qAy,Option.some.injEq,Function.comp];rw[c2 _ (qAc hq),low _ (rfB' j is hed vs0 b4 q _ (qAc hq2) hc)];have e8:=congrArg (fun x=>x[q]?) b8;simp only[uO,sU,qAJ,qAc hq,qAc hq2,qAy,Option.some.injEq] at e8;exact e8
         ·rw[qAH (by omega),qAH (by omega)];rfl
        ·obtain⟨_,a2⟩:=Dt j hd hed hdd fun is e=>hb ⟨is,e⟩;rw[←hgj,a2];exact asI lks (rf2 j)
      ·have hno:∀hd,Ed.o j hd∉rs:=fun hd h=>hed ⟨hd,h⟩;obtain⟨a1,a2⟩:=unAt j l hρj hno;rw[a1,a2,objEq j l hρj,bs.keepO j hj1 hno,avLow j hno]
     ·have:=newAt (j - aC ps) (by omega);rw[show aC ps+(j - aC ps)=j from by omega] at this;rw[←hgj,this];exact asI lks (rf2 j)
    ·rw[AJ L _ _ l hin,lget s.h l hl];obtain⟨a1,a2⟩:=Tc hWs l fun w hw e1=>by
      obtain⟨p,e2,e3⟩:=tgL w hw;rw[e1] at e2;cases e2;exact hin e3
     rw[a1,a2]
   ·rw[qAH (by simp only[aA,qAh];omega),qAH (by rw[LM];simp only[aA,qAh];omega)]
  ·rw[azP];refine Nv lks _ (aBa fun v hv=>?_);obtain⟨i,hi⟩:=qAS hv;have hvi:nth .unk r i=v:=by rw[iD,List.getD,hi];rfl
   rcases bs.slot i with e1 | ⟨sk,us',e1,e2⟩
   ·rw[←hvi,e1,aaT];rfl
   ·rw[←hvi,e2];exact TJ hA sk us' (af4 rsok i sk e1)
theorem aBE{te}{H}{k}{vs}{e}{K}{X}(he:ah P te e)(h:amR H k vs e K X=some b):
  (∃(ρ:List Nat) (aargs:List AV) (Hi:List AObj) (res:AV) (Ho:List AObj) (ws:List TWr) (v:TV),cZ P e.f aargs Hi res Ho∧(∀tm,Passes ⟨tm,aA H⟩ ρ (rng k (aC e.rs)) Hi)∧Ho.length=(ρ++rng k (aC e.rs)).length∧
   SWs (aR H vs) (aargs.map (ren (nm (ρ++rng k (aC e.rs)) (aA H).length)))∧K (aC e.rs) (ρ++rng k (aC e.rs)) ws v=some b∧(∀w∈ws,∃p,tgt w=some p∧p∈ρ++rng k (aC e.rs))∧
   ∀s s',s.h=H→Ws s ws s'→aA s'.h=nI (aA H) (ρ++rng k (aC e.rs)) (Ho.map (dK (nm (ρ++rng k (aC e.rs)) (aA H).length)))∧av s'.h v=ren (nm (ρ++rng k (aC e.rs)) (aA H).length) res)∨
  ∃(nn:Nat) (ρ:List Nat) (aargs:List AV) (Hi Ho:List AObj) (ws:List TWr) (c:Int),Cj P e.f aargs Hi (Bu te c) Ho∧(∀tm,Passes ⟨tm,aA H⟩ ρ (rng k nn) Hi)∧Ho.length=(ρ++rng k nn).length∧
   SWs (aR H vs) (aargs.map (ren (nm (ρ++rng k nn) (aA H).length)))∧X nn (ρ++rng k nn) ws c=some b∧(∀w∈ws,∃p,tgt w=some p∧p∈ρ++rng k nn)∧
   ∀s s',s.h=H→Ws s ws s'→aA s'.h=nI (aA H) (ρ++rng k nn) (Ho.map (dK (nm (ρ++rng k nn) (aA H).length))):=by
 obtain⟨hokf,hwf,hcon⟩:=he;unfold M5 at hwf;rw[qAa,qAa] at hwf;obtain⟨⟨_,hwf⟩,hwp⟩:=hwf;simp only[qAa] at hwf;obtain⟨edps,edrs,psok,rsok⟩:=hwf;unfold amR at h;simp only at h;obtain⟨hc,h⟩:=(aY h).resolve_right fun h=>by cases h.2
 simp only[qAa] at hc;obtain⟨hna,hρl,hρn,hres⟩:=hc;have hna:=qAj hna;have hρl:=qAj hρl;have hnd:=akK hρn;clear hρn;have hres:=air _ _ hres;generalize hL0:LJ 0 (aC e.ps) (M6 vs H 0 e.ps [])=L0 at h hρl hnd;generalize hρ:J5 L0 0 (aC e.ps)=ρ at h hρl hnd;have hsome:∀j,j<aC e.ps→L0 j=ρ[j]?:=fun j hj=>by
  have:=akF (f:=L0) (aC e.ps) 0 (by rw[hρ];exact hρl) j hj;rw[qAL,hρ] at this;exact this
 have L0ge:∀j,aC e.ps≤j→L0 j=none:=fun j hj=>by rw[←hL0];exact aAl (qBg _) hj
 obtain⟨us,hus,hB⟩:=JB e.ps 0 _ [] [] edps (qAd _) h;obtain⟨x,hx,hus⟩:=NU hus;obtain⟨y,hF,hus⟩:=ob hus;obtain⟨T1,h1,q1,la⟩:=hB (bZ e.na) [] [] rfl;rw[qAr] at q1;rcases RT.aEp hus (hcon x y hF T1 h1 (by rw[hx];exact q1)) with⟨y,hus,hcalls⟩ | ⟨eds,c,z,hpe,hus,hcalls⟩
 ·left;obtain⟨r,h2,ws,v,g1,g2,g3,g4,g5,g6,g7⟩:=aAz e.rs e.nr (e.out y) (Q:=fun ws v=>K (aC e.rs) (ρ++rng k (aC e.rs)) ws v) edps edrs psok rsok hna hρl hnd hres hsome L0ge hx q1 la hus;exact⟨ρ,_,_,_,_,ws,v,hcalls r h2 g1,g2,g3,g4,g5,g6,g7⟩
 ·right;rw[hpe] at hwp;simp only[qAa] at hwp;obtain⟨_,edr,pso,rso⟩:=hwp;obtain⟨hr,hus⟩:=(aY hus).resolve_right fun h=>by cases h.2
  obtain⟨r,h2,ws,v,g1,g2,g3,g4,g5,g6,g7⟩:=aAz eds 0 z (Q:=fun ws _=>X (aC eds) (ρ++rng k (aC eds)) ws c) edps edr pso rso hna hρl hnd (air _ _ hr) hsome L0ge hx q1 la hus;exact⟨aC eds,ρ,_,_,_,ws,c,hcalls r h2 g1,g2,g3,g4,g5,g6,fun s s' h1 h2=>(g7 s s' h1 h2).1⟩
end
end
section
open Go
def Kcp(t:List TV)(cp:List (Nat×Nat)):=∀d x,(d,x)∈cp→nth .unk t d=nth .unk t x
structure Inv(s:DS):Prop where
 up:Kup s.t s.up
 rl:Krl s.t s.rl
 cp:Kcp s.t s.cp
structure Fr(s s':DS):Prop where
 tl:s'.t.length=s.t.length
 hl:s.h.length≤s'.h.length
 d:∀k,k∉s'.d→k∉s.d∧nth .unk s'.t k=nth .unk s.t k
 om:∀p,p∈s.o→p∈s'.o
 oo:s'.oo=s.oo
 o:∀l,l<s.h.length→(l,0)∉s'.o→H9 (nth .dead s.h l) (nth .dead s'.h l) fun q=>decide ((l,q+1)∈s'.o)
theorem H9.trans{a b c}{f g}(h:H9 a b f)(k:H9 b c g)(hf:∀q,g q=false→f q=false):H9 a c g:=by
 rcases h with rfl | ⟨x,y,rfl,rfl,h1,h2⟩
 ·exact k
 ·rcases k with rfl | ⟨y',z,e,rfl,k1,k2⟩
  ·exact .inr ⟨x,y,rfl,rfl,h1,fun q hq=>h2 q (hf q hq)⟩
  ·cases e;exact .inr ⟨x,z,rfl,rfl,k1.trans h1,fun q hq=>(k2 q hq).trans (h2 q (hf q hq))⟩
theorem Fr.refl s:Fr s s:=⟨rfl,qAd _,fun _ h=>⟨h,rfl⟩,fun _ h=>h,rfl,fun _ _ _=>.inl rfl⟩
theorem Fr.trans{a b c}(h:Fr a b)(k:Fr b c):Fr a c:=by
 refine⟨k.tl.trans h.tl,qAs h.hl k.hl,fun n hn=>?_,fun p hp=>k.om p (h.om p hp),k.oo.trans h.oo,fun l hl hno=>?_⟩
 ·obtain⟨k1,k2⟩:=k.d n hn;obtain⟨h1,h2⟩:=h.d n k1
  grind
 ·refine H9.trans (h.o l hl fun hm=>hno (k.om _ hm)) (k.o l (qAG hl h.hl) hno) fun q hq=>?_;simp at hq⊢;exact fun hm=>hq (k.om _ hm)
theorem mem_filter{l}{f}{i}(h:mem (l.filter f) i=true):mem l i=true∧f i=true:=by
 rw[mem_iff,qAQ] at h;exact⟨mem_iff.2 h.1,h.2⟩
theorem aCh{a b:Nat}(h:(!(Nat.beq a b))=true):a≠b:=by
 intro e;subst e
 simp_all
theorem aAW{s}(hi:Inv s) n v:
  Inv ⟨s.t.set n v,s.h,n::s.d,s.o,s.up.filter fun i=>!Nat.beq i n,s.rl.filter fun p=>!(Nat.beq p.1 n ||(Nat.beq p.2.1 n ||Nat.beq p.2.2 n)),s.cp.filter fun p=>!(Nat.beq p.1 n ||Nat.beq p.2 n),s.oo⟩:=by
 refine⟨fun i k a h1 h2=>?_,fun d i j h1 k a h2=>?_,fun d x h1=>?_⟩
 ·obtain⟨g1,g2⟩:=mem_filter h1;have hne:=aCh g2;simp only[aS hne.symm] at h2;exact hi.up i k a g1 h2
 ·rw[qAQ] at h1;obtain⟨g1,g2⟩:=h1;simp at g2;have ne:∀a,Nat.beq a n=false→n≠a:=fun a h e=>by subst e;rw[mK] at h;cases h
  simp only[aS (ne _ g2.2.1)] at h2;simp only[aS (ne _ g2.1),aS (ne _ g2.2.2)];exact hi.rl d i j g1 k a h2
 ·rw[qAQ] at h1;obtain⟨g1,g2⟩:=h1;simp at g2;have ne:∀a,Nat.beq a n=false→n≠a:=fun a h e=>by subst e;rw[mK] at h;cases h
  simp only[aS (ne _ g2.1),aS (ne _ g2.2)];exact hi.cp d x g1
theorem aD0{s s'}{w}(hi:Inv s)(h:W1 s w s'):Inv s':=by
 cases w with
 | sl n v=>obtain⟨_,rfl⟩:=h;exact aAW hi n v
 | ob l o=>obtain⟨_,_,rfl⟩:=h;exact⟨hi.up,hi.rl,hi.cp⟩
 | st l off vs=>obtain⟨_,_,_,_,rfl⟩:=h;exact⟨hi.up,hi.rl,hi.cp⟩
 | kill l=>rcases h with⟨_,_,_,rfl⟩ | ⟨_,_,_,rfl⟩ | ⟨_,rfl⟩<;>exact⟨hi.up,hi.rl,hi.cp⟩
 | nw l o=>obtain⟨_,_,rfl⟩:=h;exact⟨hi.up,hi.rl,hi.cp⟩
 | up l i e y=>obtain⟨_,_,rfl⟩:=h;exact⟨hi.up,hi.rl,hi.cp⟩
theorem agb{s s'}{ws}(h:Ws s ws s')(hi:Inv s):Inv s':=by
 induction h with
 | nil s=>exact hi
 | cons h _ ih=>exact ih (aD0 hi h)
theorem agU{s}{l}{o}:Fr s {s with h:=s.h.set l o,o:=(l,0)::s.o}:=
 ⟨rfl,by simp,fun _ h=>⟨h,rfl⟩,fun p hp=>qAl _ hp,rfl,fun l' hl hno=>.inl (aS fun e=>hno (by subst e;simp))⟩
theorem aFc{s s'}{w}(h:W1 s w s'):Fr s s':=by
 cases w with
 | sl n v=>
  obtain⟨_,rfl⟩:=h;refine⟨by simp,qAd _,fun k hk=>?_,fun _ h=>h,rfl,fun _ _ _=>.inl rfl⟩;simp at hk;exact⟨hk.2,aS (qBp hk.1)⟩
 | ob l o=>obtain⟨_,_,rfl⟩:=h;exact agU
 | st l off vs=>
  obtain⟨cs,cs',h1,h2,rfl⟩:=h;refine⟨rfl,by simp,fun _ h=>⟨h,rfl⟩,fun p hp=>qBC _ hp,rfl,fun l' hl hno=>?_⟩;by_cases e:l=l'
  ·subst e;simp only[bL hl,h1];obtain⟨q1,q2⟩:=Jb h2;refine .inr ⟨cs,cs',rfl,rfl,by rw[q1];simp;omega,fun q hq=>?_⟩;simp only[decide_eq_false_iff_not,qAn,qAA,not_or] at hq;have hout:¬(off≤q∧q<off+(aF vs).length):=fun hh=>hq.1 ⟨q+1,FL.2 (by rw[nN] at hh;omega),rfl⟩
   grind
  ·exact .inl (aS e)
 | kill l=>rcases h with⟨_,_,_,rfl⟩ | ⟨_,_,_,rfl⟩ | ⟨_,rfl⟩<;>exact agU
 | nw l o=>obtain⟨_,_,rfl⟩:=h;exact agU
 | up l i e y=>obtain⟨_,_,rfl⟩:=h;exact agU
theorem al9{s s'}{ws}(h:Ws s ws s'):Fr s s':=by
 induction h with
 | nil s=>exact Fr.refl s
 | cons h _ ih=>exact(aFc h).trans ih
section
variable {P:Program}{γ:Type}{b:γ}
theorem axW{H}{t}{θ}{up}{k}{o}{K:List Nat→List TWr→Option γ}(hk:Kup t up)(h:dA (TI.of P) θ up k o.dst t H o.op K=some b):qC P H t k o K b:=by
 obtain⟨d,op,ty,ps,aft,gd⟩:=o;cases op with
 | move x=>exact aB6 h
 | assign x=>exact axC h
 | pick c x y=>exact aBi h
 | nilCheck x=>exact aqL h
 | binOp op t x y t2=>exact ayA hk h
 | unOp op t x=>exact aBR h
 | fieldAddr s x f=>exact anE h
 | field s x f=>exact ax0 h
 | indexAddr t x i=>exact apC h
 | index t x i=>exact azU h
 | extract x i=>exact auA h
 | slice t x lo hi mx=>
  cases mx with
  | none=>exact azs h
  | some m=>cases h
 | build t parts=>exact azC h
 | makeFunc fn first cap=>
  cases fn with
  | func f=>exact ari h
  | _=>cases h
 | load t x=>exact aA1 h
 | convert s t x=>exact aun h
 | store t x y=>exact azq h
 | alloc t=>exact ay5 h
 | box t x=>
  refine aCs h fun cs _ hr=>(AZ cs fun l _=>NK ?_ l).symm;have e:nth .dead H k=.res:=by unfold lI at hr;split at hr;assumption;cases hr
  rw[e];exact⟨rfl,fun _=>rfl⟩
 | makeMap t r=>
  cases r with
  | none=>exact auN h
  | some x=>cases h
 | buildSlice t len parts=>exact alx h
 | makeSlice t x y=>exact amo h
 | call c=>
  obtain⟨callee,args,ats⟩:=c;cases callee with
  | builtin bi=>
   cases bi<;>first | exact aCB h | exact av4 h | exact aDZ h | cases h
  | _=>cases h
 | lookup t m key ok=>exact axq h
 | mapUpdate t m key x=>exact aoV h
 | _=>cases h
structure Sm(e f:Eff):Prop where
 rs:e.rs=f.rs
 ro:e.ro=f.ro
 ws:gT e.ws=gT f.ws
 wo:iQ e.ws=iQ f.ws
inductive Sms:List Eff→List Eff→Prop where
 | nil:Sms [] []
 | cons {e f:Eff} {es fs:List Eff}:Sm e f→Sms es fs→Sms (e::es) (f::fs)
theorem Ew:∀ws H,gT (erase ws)=gT (BD H ws)∧iQ (erase ws)=iQ (BD H ws)
 | [],_=>⟨rfl,rfl⟩
 | w::ws,H=>by
  obtain⟨h1,h2⟩:=Ew ws (Zw H w);cases w<;>simp only[erase,BD,G5,gT,iQ,qBJ] at *<;>exact⟨by rw[h1],by rw[h2]⟩
theorem agw a c:gT (a++c)=gT a++gT c:=by simp[gT]
theorem ajg a c:iQ (a++c)=iQ a++iQ c:=by simp[iQ]
theorem ab2:∀l os,gT (kK l os)=[]
 | [],_=>rfl
 | _::_,[]=>rfl
 | l::ls,o::os=>by simp only[kK];exact ab2 ls os
theorem af5:∀l os,os.length=l.length→iQ (kK l os)=l
 | [],[],_=>rfl
 | [],_::_,h=>by cases h
 | _::_,[],h=>by cases h
 | l::ls,o::os,h=>by
  have:=af5 ls os (by simpa using h);simp only[kK,iQ,qBJ] at this⊢;rw[this]
theorem acP:∀(l:List Nat),gT (l.map fun l=>Wr.obj l .dead)=[]
 | []=>rfl
 | _::ls=>by simp;exact acP ls
theorem afT:∀l,iQ (l.map fun l=>Wr.obj l .dead)=l
 | []=>rfl
 | l::ls=>by have:=afT ls;simp only[qAu,iQ,qBJ] at this⊢;rw[this]
theorem ayZ{e f e' f'}(h:Sm e f)(h':Sm e' f'):eX e e'=eX f f':=by
 unfold eX;rw[h.rs,h.ro,h.ws,h.wo,h'.rs,h'.ro,h'.ws,h'.wo]
theorem asq{es fs}(h:Sms es fs):∀i,Sm (es.getD i uQ) (fs.getD i uQ):=by
 induction h with
 | nil=>intro i;exact⟨rfl,rfl,rfl,rfl⟩
 | cons h _ ih=>intro i;cases i with
  | zero=>exact h
  | succ i=>exact ih i
theorem att{l}{es fs}(h:Sms es fs):kY l es=kY l fs:=by
 unfold kY;congr 1;funext j;congr 2;funext i;rw[ayZ (asq h i) (asq h j)]
theorem aBV{ops}{o}{s}{k}{rd}{ws}{ws'}(hw:dQ ops (gy s).tmps o=some true)(h:aJ P k o (bA (aR s.h s.t)) (obj? (aA s.h))=some (rd,ws'))
  (hv:(∀x∈o.op.operands,VF (bA (aR s.h s.t) x))→ws'=BD s.h ws):Gs P ops o (gy s) ⟨aX ops o,rd,BD s.h ws⟩:=by
 intro t ht;refine .inl ⟨by rw[uH ht.rs];exact hw,?_⟩;intro C κ a w hs next Q hn
 have hev:=KE ht.rs;have e:=hv fun x hx=>by
  have e1:bA (aR s.h s.t) x=bA t.tmps x:=(hev x hx).symm;rw[e1];exact(hs.ev x).vf
 subst e;exact afF (k:=k) (rd:=rd) (Zu h hev ht.ro) C κ a w hs next Q hn
theorem aDi{ops}{o}{s}{A B}(h:gdK ops o s A B=some b):dQ ops.toArray (gy s).tmps o=some true∧A s=some b∨dQ ops.toArray (gy s).tmps o=some false∧B s=some b:=by
 unfold gdK at h;unfold dQ;cases hg:o.guard with
 | none=>rw[hg] at h;exact .inl ⟨rfl,h⟩
 | some p=>
  obtain⟨j,want⟩:=p;rw[hg] at h;simp only at h⊢;rw[List.getElem?_toArray];cases hd:(ops[j]?).bind (·.dst) with
  | none=>rw[hd] at h;cases h
  | some d=>
   rw[hd] at h;simp only at h⊢;have htm:(gy s).tmps.getD d .unk=av s.h (nth .unk s.t d):=Cq s.h s.t d;rw[htm];have self:∀v,nth .unk s.t d=v→s.t.set d v=s.t:=fun v hv=>by
    apply qBS;intro n;by_cases e:d=n
    ·subst e;by_cases hl:d<s.t.length
     ·rw[qCH hl,qAc hl];rw[iD,List.getD,qAc hl] at hv
      grind
     grind
    grind
   split at h
   ·rename_i q hq;simp only[hq,av,ji];rw[kZ,kZ,kZ,kZ] at h;cases q
    ·have e1:=self _ hq;cases want
     ·simp_all
     simp_all
    ·have e1:=self _ hq;cases want
     ·simp only[cond_false,cond_true,e1] at h;exact .inr ⟨rfl,h⟩
     simp_all
   ·rename_i hq;rw[hq];exact .inr ⟨rfl,h⟩
   ·cases h
theorem ayK o s:(GD o s).t=s.t∧(GD o s).h=s.h∧(GD o s).d=s.d∧(GD o s).o=s.o∧(GD o s).oo=s.oo:=by
 unfold GD
 grind
theorem axE{o}{s s1}{ws}(hi:Inv s1)(hs:Ws s ws s1)(h0:Inv s)(hr:apL s.t o ws)(hm:∀x d,o.op=.move x→o.dst=some d→ws=[.sl d (eF s.t x)]):Inv (GD o s1):=by
 unfold GD;split
 ·rename_i tt i j g d e1 e2;cases hb:Nat.beq d i ||Nat.beq d j with
  | true=>exact hi
  | false=>
   rw[cond_false];simp at hb;have ne:∀a,Nat.beq d a=false→d≠a:=fun a h e=>by subst e;rw[mK] at h;cases h
   obtain⟨v,rfl,hv⟩:=hr d i j tt g e1 e2;cases hs with
   | cons g1 g2=>
    cases g2;obtain⟨hlt,rfl⟩:=g1;refine⟨hi.up,fun d' i' j' hmem k a hk=>?_,hi.cp⟩;rcases qAg.1 hmem with e | hmem
    ·cases e;simp only[aS (ne i hb.1)] at hk;obtain⟨c,g1,g2⟩:=hv k a hk;refine⟨c,by simp only[aS (ne j hb.2)];exact g1,fun b hbv=>?_⟩;simp only[bL hlt] at hbv
     grind
    ·exact hi.rl d' i' j' hmem k a hk
 ·rename_i x d e1 e2;cases hb:Nat.beq d x with
  | true=>exact hi
  | false=>
   rw[cond_false];have ne:d≠x:=fun e=>by subst e;rw[mK] at hb;cases hb
   have hw:=hm _ d e1 e2;subst hw;cases hs with
   | cons g1 g2=>
    cases g2;obtain⟨hlt,rfl⟩:=g1;have hx:nth .unk (s.t.set d (eF s.t (.tmp x))) x=nth .unk s.t x:=aS ne;have hd:nth .unk (s.t.set d (eF s.t (.tmp x))) d=nth .unk s.t x:=bL hlt;refine⟨fun i k a hmem hk=>?_,hi.rl,fun d' x' hmem=>?_⟩
    ·simp only at hmem hk;cases hu:mem (s.up.filter fun i=>!(Nat.beq i d)) x with
     | false=>simp only[hu] at hmem;exact hi.up i k a hmem hk
     | true=>
      simp only[hu,cond_true] at hmem;rw[mem_iff,qAg] at hmem;rcases hmem with rfl | hmem
      ·rw[hd] at hk;exact h0.up x k a (mem_filter hu).1 hk
      ·exact hi.up i k a (mem_iff.2 hmem) hk
    ·rcases qAg.1 hmem with e | hmem
     ·grind
     ·exact hi.cp d' x' hmem
 ·exact hi
end
end
section
open Go
section
variable {P:Program}{γ:Type}{b:γ}{θ:Nat→Option ET}{E:List Ent}
theorem aDJ{te}{H}{vs}{e}{A B}(he:ah P te e)(h:gdE H vs e A B=some b):A=some b∨B=some b:=by
 unfold gdE at h;split at h
 ·grind
 ·rename_i g _;obtain⟨_,hwf,_⟩:=he;unfold M5 at hwf;rw[qAa,qAa] at hwf;obtain⟨⟨_,hwf⟩,_⟩:=hwf;simp at hwf;obtain⟨us,hus,_⟩:=JB e.ps 0 _ [] [] hwf.1 (qAd _) h;obtain⟨x,_,hx⟩:=NU hus
  grind
theorem ap1{te}{H}{k fid}{vs}{K}{X}:∀{E:List Ent},(∀e∈E,ah P te e)→aua H k fid vs E K X=some b→∃e∈E,e.f=fid∧amR H k vs e K X=some b
 | [],_,h=>by cases h
 | e::E,hE,h=>by
  have tl:aua H k fid vs E K X=some b→∃e'∈e::E,e'.f=fid∧amR H k vs e' K X=some b:=fun g=>by
   obtain⟨e',h1,h2,h3⟩:=ap1 (fun e he=>hE e (qAl _ he)) g
   grind
  rcases aY h with⟨hc,g⟩ | ⟨_,g⟩
  ·simp at hc;rcases aDJ (hE e (by simp)) g with g | g
   ·simp_all
   ·exact tl g
  ·exact tl g
theorem awr{H}{t}{up}{k}{o}{K}(hk:Kup t up)(h:dA (TI.of P) θ up k o.dst t H o.op K=some b):
  ∃rd ws ws',aJ P k o (bA (aR H t)) (obj? (aA H))=some (rd,ws')∧((∀x∈o.op.operands,VF (bA (aR H t) x))→ws'=BD H ws)∧apL t o ws∧(∀x d,o.op=.move x→o.dst=some d→ws=[.sl d (eF t x)])∧K rd ws=some b:=by
 by_cases hm:∃x,o.op=.move x
 ·obtain⟨x,hx⟩:=hm;obtain⟨d,op,ty,ps,aft,gd⟩:=o;subst hx;refine⟨[],eH d (eF t x),au d (av H (eF t x)),by simp only[aJ,aB,bM],fun _=>(jy H d _).symm,aiJ rfl _,fun y d' e1 e2=>?_,h⟩;cases e1;subst e2;rfl
 ·obtain⟨rd,ws,ws',h1,h2,h3,h4⟩:=axW (P:=P) hk h
  grind
theorem arX{s s1}{d}{v}(h:Ws s (eH d v) s1):gy s1=(gy s).wr (au d (av s.h v)):=by
 rw[aAd h,jy]
def aCk(P)te(b)(px:Int→DS→Option γ)(ops:List Oper)l(es:List Eff)s(K:List Eff→DS→Option γ):=
 (∃es' res s',ATr P ops.toArray l es' (gy s) (gy s')∧K (es.reverse++res) s'=some b∧Sms res es'∧Fr s s'∧Inv s'∧s'.h.length=s.h.length)∨
 ∃l1 op l2 s1 s' c,l=l1++op::l2∧ASteps P ops.toArray l1 (gy s) s1∧dQ ops.toArray s1.tmps op=some true∧OpX P op (Bu te c) s1 (gy s')∧px c s'=some b∧Fr s s'∧Inv s'∧s'.h.length=s.h.length
theorem ahF{te}(hE:∀e∈E,ah P te e){px}{ops}:∀l k es s K,Inv s→Vb (TI.of P) θ E px ops l k es s K=some b→aCk P te b px ops l es s K
 | [],k,es,s,K,hi,h=>.inl ⟨[],[],s,.nil _,by rw[qAr];exact h,.nil,Fr.refl s,hi,rfl⟩
 | o::l,k,es,s,K,hi,h=>by
  have h:(gdK ops o s (opK (TI.of P) θ E px ops o (fun k es s=>Vb (TI.of P) θ E px ops l k es s K) k es) fun s=>DC (eH o.dst (.tup [])) s fun s=>Vb (TI.of P) θ E px ops l k (⟨aX ops.toArray o,[],erase (eH o.dst (.tup []))⟩::es) s K)=some b:=h;have fin:∀(e f:Eff) (k':Nat) (s1:DS),Gs P ops.toArray o (gy s) f→gy s1=(gy s).wr f.ws→Sm e f→Fr s s1→Inv s1→s1.h.length=s.h.length→Vb (TI.of P) θ E px ops l k' (e::es) s1 K=some b→aCk P te b px ops (o::l) es s K:=fun e f k' s1 h1 h2 h3 h4 h5 h6 h7=>by
   rcases ahF hE l k' (e::es) s1 K h5 h7 with⟨es',res,s',g1,g2,g3,g4,g5,g6⟩ | ⟨l1,op,l2,sx,s',c,g0,g1,g2,g3,g4,g5,g6,g7⟩
   ·rw[h2] at g1;exact .inl ⟨f::es',e::res,s',.cons h1 g1,by simpa using g2,.cons h3 g3,h4.trans g4,g5,g6.trans h6⟩
   ·have st:=(ATr.cons (l:=[]) h1 (.nil _)).steps;rw[←h2] at st;refine .inr ⟨o::l1,op,l2,sx,s',c,by rw[g0];rfl,?_,g2,g3,g4,h4.trans g5,g6,g7.trans h6⟩;cases st with
    | cons a b=>cases b;exact .cons a g1
  rcases aDi h with⟨hw,h⟩ | ⟨hw,h⟩
  ·unfold opK at h;split at h
   ·rename_i f args hcall;split at h
    ·rename_i fid caps hf;obtain⟨e,he1,he2,h3⟩:=ap1 hE h;clear h;have argsE:args.toList.map (bA (gy s).tmps)++aR s.h caps=aR s.h (args.toList.map (eF s.t)++caps):=by
      rw[sZ,sZ,qAY,qBh];congr 1;exact qBo fun x _=>bM _ _ _
     have hlH:(gy s).heap.length=(aA s.h).length:=rfl;have hfa:bA (gy s).tmps f=.func fid (aR s.h caps):=by rw[show bA (gy s).tmps f=av s.h (eF s.t f) from bM _ _ _,hf];rfl
     obtain⟨t,ho⟩:=vJ hcall;subst he2;rcases aBE (hE e he1) h3 with⟨ρ,aargs,Hi,res,Ho,ws,v,c1,c2,c3,c4,c5,c6,c7⟩ | ⟨nn,ρ,aargs,Hi,Ho,ws,c,c1,c2,c3,c4,c5,c6,c7⟩
     ·obtain⟨s1,w1,h4⟩:=xB _ _ _ c5;obtain⟨sm,wa,wb⟩:=av5 w1;obtain⟨a1,a2⟩:=c7 s sm rfl wa;have heff:=ED (P:=P) (ops:=ops.toArray) (o:=o) (s:=gy s) hw ho hfa (hE e he1).1 (c2 _) c3 (by
       rw[hlH,argsE];exact c4) c1
      refine fin ⟨aX ops.toArray o,ρ++rng k (aC e.rs),(ρ++rng k (aC e.rs)).map (fun l=>.obj l .dead)++erase (eH o.dst v)⟩ _ _ s1 heff ?_ ⟨rfl,rfl,?_,?_⟩ (al9 w1) (agb w1 hi) (Tg w1).2 h4
      ·rw[arX wb,a2];have e2:gy sm=(gy s).wr (kK (ρ++rng k (aC e.rs)) (Ho.map (dK (nm (ρ++rng k (aC e.rs)) (gy s).heap.length)))):=by
        rw[KN];unfold gy;rw[a1,(aok wa fun w hw=>by obtain⟨p,e,_⟩:=c6 w hw;rw[e];simp).2]
       rw[e2,←Fp];rfl
      ·rw[agw,agw,acP,ab2,qAt,qAt,(Ew (eH o.dst v) sm.h).1,jy,a2];rfl
      ·rw[ajg,ajg,afT,af5 _ _ (by rw[qAh];exact c3),(Ew (eH o.dst v) sm.h).2,jy,a2];rfl
     ·obtain⟨s1,w1,h4⟩:=xB _ _ _ c5;have a1:=c7 s s1 rfl w1;have hX:=anr (P:=P) (o:=o) (s:=gy s) ho hfa (hE e he1).1 (c2 _) c3 (by rw[hlH,argsE];exact c4) c1;have e2:gy s1=(gy s).wr (kK (ρ++rng k nn) (Ho.map (dK (nm (ρ++rng k nn) (gy s).heap.length)))):=by
       rw[KN];unfold gy;rw[a1,(aok w1 fun w hw=>by obtain⟨p,e,_⟩:=c6 w hw;rw[e];simp).2]
      rw[←e2] at hX;exact .inr ⟨[],o,l,_,s1,c,rfl,.nil _,hw,hX,h4,al9 w1,agb w1 hi,(Tg w1).2⟩
    ·cases h
   ·rename_i hcall;obtain⟨rd,ws,ws',r1,r2,r3,r5,r4⟩:=awr (P:=P) hi.up h;obtain⟨s1,w1,h⟩:=xB _ _ _ r4;have hav:=ayK o s1;have es1:gy (GD o s1)=gy s1:=by unfold gy;rw[hav.1,hav.2.1]
    have hfr:=al9 w1;refine fin ⟨aX ops.toArray o,rd,erase ws⟩ ⟨aX ops.toArray o,rd,BD s.h ws⟩ _ (GD o s1) (aBV hw r1 r2) ?_ ⟨rfl,rfl,(Ew ws s.h).1,(Ew ws s.h).2⟩ ⟨?_,?_,?_,?_,?_,?_⟩ (axE (agb w1 hi) w1 hi r3 r5) (by rw[hav.2.1];exact(Tg w1).2) h
    ·rw[es1];exact aAd w1
    ·rw[hav.1];exact hfr.tl
    ·rw[hav.2.1];exact hfr.hl
    ·rw[hav.2.2.1,hav.1];exact hfr.d
    ·rw[hav.2.2.2.1];exact hfr.om
    ·rw[hav.2.2.2.2];exact hfr.oo
    ·rw[hav.2.2.2.1,hav.2.1];exact hfr.o
  ·obtain⟨s1,w1,h⟩:=xB _ _ _ h;have hav:gy s1=(gy s).wr (au o.dst (.tup [])):=arX w1;exact fin ⟨aX ops.toArray o,[],erase (eH o.dst (.tup []))⟩ _ _ s1 (Ey hw) hav ⟨rfl,rfl,by rw[(Ew (eH o.dst (.tup [])) s.h).1,jy];rfl,by rw[(Ew (eH o.dst (.tup [])) s.h).2,jy];rfl⟩ (al9 w1) (agb w1 hi) (Tg w1).2 h
end
end
section
open Go
theorem afx{n}{l q}:∀{es:List Ed} {ss os:List Nat},dZ n ss os es=true→cov es l q=true→∃hd,Ed.o l hd∈es∧∀is,hd=.bx is→q∈is.flatMap fun p=>rng (p.1+1) (wu p.2)
 | [],_,_,_,h=>by cases h
 | .r _ _::es,ss,os,hw,h=>by
  simp only[dZ,qAa] at hw;obtain⟨hd,h1,h2⟩:=afx (es:=es) hw.2 h
  grind
 | .w _::es,ss,os,hw,h=>by
  obtain⟨hd,h1,h2⟩:=afx (es:=es) (by simpa only[dZ] using hw) h
  grind
 | .o l' hd::es,ss,os,hw,h=>by
  simp only[dZ,qAa] at hw;simp only[cov,qAZ,qAa] at h;rcases h with⟨h1,h2⟩ | h
  ·have e:=qAj h1;subst e;refine⟨hd,by simp,fun is e=>?_⟩;subst e;exact mem_iff.1 h2
  ·obtain⟨hd',h1,h2⟩:=afx hw.2.2 h
   grind
theorem Qi{n l}{hd hd'}:∀{es:List Ed} {ss os:List Nat},dZ n ss os es=true→Ed.o l hd∈es→Ed.o l hd'∈es→hd=hd'
 | [],_,_,_,h,_=>by cases h
 | .r _ _::es,ss,os,hw,h,h'=>by
  simp only[dZ,qAa] at hw;exact Qi hw.2 (by simpa using h) (by simpa using h')
 | .w _::es,ss,os,hw,h,h'=>Qi (es:=es) (by simpa only[dZ] using hw) (by simpa using h) (by simpa using h')
 | .o l0 h0::es,ss,os,hw,h,h'=>by
  simp only[dZ,qAa] at hw;rcases qAg.1 h with e | g
  ·injection e with e1 e2;subst e1;subst e2;rcases qAg.1 h' with e | g'
   ·grind
   ·exact(F5 hw.2.2 (qBF ..) g').elim
  ·rcases qAg.1 h' with e | g'
   ·injection e with e1 e2;subst e1;exact(F5 hw.2.2 (qBF ..) g).elim
   ·exact Qi hw.2.2 g g'
theorem arH:∀{a l:List Nat},auG a l=true→∀x∈a,x∈l
 | [],_,_,x,h=>by cases h
 | y::a,l,h,x,hx=>by
  simp only[auG,qAa] at h;rcases qAg.1 hx with rfl | hx
  ·exact mem_iff.1 h.1
  ·exact arH h.2 x hx
theorem asR{n}{o}{es}(h:ap2 n o es=true){l q}(hl:l<n)(hm:(l,q)∈o):cov es l q=true:=by
 have:=qAE.1 h _ hm;simp only[qAZ] at this;rcases this with h | h
 ·have:n≤l:=qAe h;omega
 ·exact h
theorem H9.mono{a c}{f g}(h:H9 a c f)(hf:∀q,g q=false→f q=false):H9 a c g:=by
 rcases h with e | ⟨x,y,e1,e2,h1,h2⟩
 ·exact .inl e
 ·exact .inr ⟨x,y,e1,e2,h1,fun q hq=>h2 q (hf q hq)⟩
theorem ahR{n}{h0 h'}{o}{eds}(hw:dZ n [] [] eds=true)(hs:ap2 n o eds=true)
  (hfr:∀l,l<n→(l,0)∉o→H9 (nth .dead h0 l) (nth .dead h' l) fun q=>decide ((l,q+1)∈o)):
  ∀l,l<n→((∀hd,Ed.o l hd∉eds)→H9 (nth .dead h0 l) (nth .dead h' l) fun _=>false)∧∀is,Ed.o l (.bx is)∈eds→H9 (nth .dead h0 l) (nth .dead h' l) (pQ is):=by
 intro l hl;refine⟨fun hno=>?_,fun is hm=>?_⟩
 ·have no:∀q,(l,q)∉o:=fun q hq=>by
   obtain⟨hd,h1,_⟩:=afx hw (asR hs hl hq)
   grind
  grind
 ·have cvq:∀q,(l,q)∈o→q∈is.flatMap fun p=>rng (p.1+1) (wu p.2):=fun q hq=>by
   obtain⟨hd,h1,h2⟩:=afx hw (asR hs hl hq);exact h2 is (Qi hw h1 hm)
  have no0:(l,0)∉o:=fun h=>by
   have:=cvq 0 h;rw[qBn] at this;obtain⟨p,_,hp⟩:=this;rw[FL] at hp;omega
  refine(hfr l hl no0).mono fun q hq=>decide_eq_false fun h=>?_;unfold pQ at hq;rw[zo] at hq
  grind
noncomputable def Gy:List Nat→List TV→List TV
 | [],t=>t
 | n::l,t=>Gy l (t.set n .unk)
theorem arY{γ}:∀l t (K:List TV→Option γ),auz l t K=K (Gy l t)
 | [],_,_=>rfl
 | n::l,t,K=>by
  have h:auz (n::l) t K=yT t n .unk fun t=>auz l t K:=rfl;rw[h,kZ];exact arY l _ K
theorem adl:∀l t,(Gy l t).length=t.length
 | [],_=>rfl
 | n::l,t=>by rw[Gy,adl l,qAU]
theorem adD:∀l t k,nth .unk (Gy l t) k=if k∈l then .unk else nth .unk t k
 | [],_,_=>by simp[Gy]
 | n::l,t,k=>by
  rw[Gy,adD l];by_cases h1:k∈l
  ·grind
  ·rw[if_neg h1];by_cases h2:n=k
   ·subst h2;rw[if_pos (qBF ..)];by_cases hl:n<t.length
    ·exact bL hl
    ·exact kL (by rw[qAU];omega)
   ·rw[aS h2,if_neg (by simp;exact⟨fun e=>h2 e.symm,h1⟩)]
theorem ar6{n}:∀l t,gU n t=true→gU n (Gy l t)=true
 | [],_,h=>h
 | k::l,t,h=>by
  refine ar6 l _ ?_
  induction t generalizing k with
  | nil=>exact h
  | cons v t ih=>
   simp only[gU,qAa] at h;cases k with
   | zero=>simp;exact h.2
   | succ k=>simp only[List.set_cons_succ,gU,qAa];exact⟨h.1,ih k h.2⟩
noncomputable def oV(a:List Nat)(eds:List Ed)(s:DS)(us:List U):DS:=
 ⟨(dB bI eds us (Gy (a++je eds) s.t) s.h).1,(dB bI eds us (Gy (a++je eds) s.t) s.h).2,a++je eds++s.d,Yt (dB bI eds us (Gy (a++je eds) s.t) s.h).2 eds++s.o,s.up.filter fun i=>!mem (a++je eds) i,[],[],s.oo⟩
theorem aaW{γ} a eds s us (K:DS→Option γ):Jj a eds s us K=K (oV a eds s us):=by
 unfold Jj oV;simp only[arY,O6]
structure St(m:Nat)(h0:List TObj)(s:DS):Prop where
 inv:Inv s
 len:m≤s.h.length
 ent:∀l,l<m→(l,0)∉s.o++s.oo→H9 (nth .dead h0 l) (nth .dead s.h l) fun q=>decide ((l,q+1)∈s.o++s.oo)
theorem St.step{m}{h0}{s s'}(h:St m h0 s)(hf:Fr s s')(hi:Inv s'):St m h0 s':=by
 refine⟨hi,qAs h.len hf.hl,fun l hl hno=>?_⟩;rw[hf.oo] at hno⊢;simp at hno;refine H9.trans (h.ent l hl ?_) ((hf.o l (qAG hl h.len) hno.1).mono (g:=fun q=>decide ((l,q+1)∈s'.o++s.oo)) fun q hq=>?_) fun q hq=>?_
 ·simp;exact⟨fun hm=>hno.1 (hf.om _ hm),hno.2⟩
 ·grind
 ·simp at hq⊢;exact⟨fun hm=>hq.1 (hf.om _ hm),hq.2⟩
end
section
open Go
theorem arw es x:(dU (bD es) x).map U.t=bD es++[]:=by rw[IC,qAr]
theorem vO{H:List TObj}{l q}:∀{es:List Ed} {hd:HO},Ed.o l hd∈es→(match hd with
  | .bx is=>match nth .dead H l with
   | .box _=>q∈is.flatMap fun p=>rng (p.1+1) (wu p.2)
   | _=>q=0
  | _=>q=0)→(l,q)∈Yt H es
 | [],_,h,_=>by cases h
 | .r _ _::es,hd,h,k=>vO (es:=es) (by simpa using h) k
 | .w _::es,hd,h,k=>vO (es:=es) (by simpa using h) k
 | .o l' h'::es,hd,h,k=>by
  simp only[Yt,qAn];rcases qAg.1 h with e | h
  ·grind
  ·exact .inr (vO h k)
theorem aaX{k}{sk}:∀{es:List Ed},Ed.r k sk∈es→k∈je es
 | [],h=>by cases h
 | .r k' s'::es,h=>by
  simp only[je,qAg];rcases qAg.1 h with e | h
  ·grind
  ·exact .inr (aaX h)
 | .w _::es,h=>aaX (es:=es) (by simpa using h)
 | .o _ _::es,h=>aaX (es:=es) (by simpa using h)
section
variable {s:DS}{a:List Nat}{eds:List Ed}{m:Nat}{h0:List TObj}
theorem ajL(hw:dZ s.h.length [] [] eds=true)(x:jg (bD eds)){k}(hk:k∉a++je eds):nth .unk (oV a eds s (dU _ x)).t k=nth .unk s.t k:=by
 have B:=rW eds (dU _ x) s.h.length [] [] (Gy (a++je eds) s.t) s.h [] (arw eds x) hw (qAd _) rfl;rcases B.slot k with e | ⟨sk,us',e1,_⟩
 ·rw[oV,e,adD,if_neg hk]
 ·exact(hk (qBC _ (aaX e1))).elim
theorem Nn(hw:dZ s.h.length [] [] eds=true)(x:jg (bD eds)):Fr s (oV a eds s (dU _ x)):=by
 have B:=rW eds (dU _ x) s.h.length [] [] (Gy (a++je eds) s.t) s.h [] (arw eds x) hw (qAd _) rfl;refine⟨by rw[oV,B.tl,adl],by rw[oV,B.hl];omega,fun k hk=>?_,fun p hp=>qBC _ hp,rfl,fun l hl hno=>?_⟩
 ·have hk':k∉(a++je eds)++s.d:=hk;rw[qAn,not_or] at hk';exact⟨hk'.2,ajL hw x hk'.1⟩
 ·let J:=oV a eds s (dU _ x)
  have hno':(l,0)∉Yt J.h eds++s.o:=hno;rw[qAn,not_or] at hno';by_cases hed:∃hd,Ed.o l hd∈eds
  ·obtain⟨hd,hed⟩:=hed;obtain⟨us',rest,ht,he⟩:=B.obj l hd hed;have he:nth .dead J.h l=(bF bI (nth .dead s.h l) hd us').1:=he;cases hd with
   | bx is=>
    cases hJ:nth .dead J.h l with
    | box cf=>
     rw[hJ] at he;cases hs:nth .dead s.h l with
     | box cs0=>
      rw[hs] at he;simp only[bF] at he;cases hq:(jl bI is (some cs0) us').1 with
      | none=>rw[hq] at he;cases he
      | some cf'=>
       rw[hq] at he;cases he;obtain⟨g1,g2⟩:=(MI is (some cs0) us' rest ht).2 cs0 cf rfl hq;refine .inr ⟨cs0,cf,rfl,rfl,g1,fun q hq=>g2 q ?_⟩;rw[decide_eq_false_iff_not] at hq;have hq:(l,q+1)∉Yt J.h eds++s.o:=hq;rw[qAn,not_or] at hq;unfold pQ;rw[zo];exact fun hin=>hq.1 (vO hed (by simp only[hJ];exact hin))
     | _=>rw[hs] at he;simp only[bF] at he;cases he
    | _=>exact(hno'.1 (vO hed (by simp only[hJ]))).elim
   | dead=>exact(hno'.1 (vO hed rfl)).elim
   | box cs=>exact(hno'.1 (vO hed rfl)).elim
   | own e=>exact(hno'.1 (vO hed rfl)).elim
   | mp e=>exact(hno'.1 (vO hed rfl)).elim
   | arr e=>exact(hno'.1 (vO hed rfl)).elim
  ·exact .inl (B.keepO l hl fun hd h=>hed ⟨hd,h⟩)
theorem adG(hw:dZ s.h.length [] [] eds=true)(x:jg (bD eds))(hi:Inv s):Inv (oV a eds s (dU _ x)):=by
 refine⟨fun i k c h1 h2=>?_,fun d i j h1=>(by cases h1),fun d x h1=>(by cases h1)⟩;obtain⟨g1,g2⟩:=mem_filter h1;have hn:i∉a++je eds:=zo.1 (by simpa using g2);rw[ajL hw x hn] at h2;exact hi.up i k c g1 h2
theorem Us{γ}{b}{s'}{K:jg (bD eds)→Option γ}(hm:m≤s.h.length)(hT:gU s.h.length s.t=true)(hH:F6 s.h.length s.h=true)(hw:dZ s.h.length [] [] eds=true)(hfr:Fr (fresh s) s')
  (h:F8 a eds s s' (fun us=>zD (bD eds) us K)=some b):∃x,K x=some b∧Le m (aR s'.h s'.t) (aA s'.h) (aR (oV a eds s (dU _ x)).h (oV a eds s (dU _ x)).t) (aA (oV a eds s (dU _ x)).h):=by
 unfold F8 at h;rw[Wi] at h;obtain⟨hc,h⟩:=(aY h).resolve_right fun h=>by cases h.2
 simp at hc;obtain⟨us,h1,h2⟩:=ZN (m:=m) (T0:=Gy (a++je eds) s.t) rfl hm (ar6 _ _ hT) hH hw (by rw[adl];exact hfr.tl.symm) hfr.hl (fun k hk=>by
  rw[adD];by_cases hk2:k∈a++je eds
  ·grind
  ·rw[if_neg hk2];exact .inr (hfr.d k fun hd=>hk2 (arH hc.1 k hd)).2.symm) (ahR hw hc.2 hfr.o) h
 obtain⟨x,rfl,h3⟩:=NU h1;exact⟨x,h3,(h2 _ _ rfl).2.2⟩
theorem PW{γ}{b}{K:Option γ}(h:DK eds s K=some b):(gU s.h.length s.t=true∧F6 s.h.length s.h=true∧dZ s.h.length [] [] eds=true)∧K=some b:=by
 unfold DK at h;rw[Wi] at h
 grind
end
theorem AW.vf{P}{m}{c}{Q}{s:DS}(h:(∀n,VF (av s.h (nth .unk s.t n)))→AW P m c Q (aR s.h s.t) (aA s.h)):AW P m c Q (aR s.h s.t) (aA s.h):=fun C κ a w hk hs=>
 h (fun n=>by
  have:=(hs.ev (.tmp n)).vf;rw[show bA (ASt.mk (aR s.h s.t) (aA s.h)).tmps (.tmp n)=av s.h (nth .unk s.t n) from bM _ _ _] at this;exact this) C κ a w hk hs
theorem aA4{k:IntKind}{n}(h1:k.min≤n)(h2:n≤k.max):k.wrap n=n:=by
 cases k
 ·exact IntWalk.i8_in n ⟨h1,h2⟩
 ·exact IntWalk.i16_in n ⟨h1,h2⟩
 ·exact IntWalk.i32_in n ⟨h1,h2⟩
 ·exact IntWalk.i64_in n ⟨h1,h2⟩
 ·exact IntWalk.u8_in n ⟨h1,h2⟩
 ·exact IntWalk.u16_in n ⟨h1,h2⟩
 ·exact IntWalk.u32_in n ⟨h1,h2⟩
 ·exact IntWalk.u64_in n ⟨h1,h2⟩
theorem UH{α}{f}{g}{n}:∀{l:List α},n∈sel f g l→∃x∈l,f x=true∧g x=n
 | [],h=>by cases h
 | x::l,h=>by
  simp only[sel] at h;cases hf:f x with
  | true=>
   rw[hf,cond_true] at h;rcases qAg.1 h with e | h
   ·grind
   ·obtain⟨y,h1,h2⟩:=UH h;exact⟨y,qAl _ h1,h2⟩
  | false=>
   rw[hf,cond_false] at h;obtain⟨y,h1,h2⟩:=UH h;exact⟨y,qAl _ h1,h2⟩
theorem ajY x s:(Lv x s).t=s.t∧(Lv x s).h=s.h∧(Lv x s).d=s.d∧(Lv x s).o=s.o∧(Lv x s).oo=s.oo∧(Lv x s).rl=s.rl∧(Lv x s).cp=s.cp:=by cases x<;>exact⟨rfl,rfl,rfl,rfl,rfl,rfl,rfl⟩
theorem azu{x}{s}(hi:Inv s)(hx:eF s.t x=.lf .b true)(hv:∀n,VF (av s.h (nth .unk s.t n))):Inv (Lv x s):=by
 obtain⟨e1,_,_,_,_,e2,e3⟩:=ajY x s;refine⟨?_,by rw[e1,e2];exact hi.rl,by rw[e1,e3];exact hi.cp⟩;cases x with
 | tmp d=>
  have hd:nth .unk s.t d=.lf .b true:=hx
  let Ok:Nat→Prop:=fun i=>∀k a,mO (nth .unk s.t i)=some (k,a)→k.wrap (a+1)=a+1
  have g1:∀i∈sel (fun p:Nat×Nat×Nat=>Nat.beq p.1 d) (fun p=>p.2.1) s.rl,Ok i:=fun i hm k a hk=>by
   obtain⟨⟨d',i',j⟩,h1,h2,h3⟩:=UH hm;have h2:d'=d:=qAj h2;subst h2;subst h3;obtain⟨c,h4,h5⟩:=hi.rl d' i' j h1 k a hk;have h6:=h5 true hd;have hlt:a<c:=of_decide_eq_true h6.symm;have v1:qy k a:=by have:=hv i';rw[avE hk] at this;exact this
   have v2:qy k c:=by have:=hv j;rw[avE h4] at this;exact this
   exact aA4 (by have:=v1.1;omega) (by have:=v2.2;omega)
  have step:∀u:List Nat,(∀i∈u,Ok i)→(∀i∈sel (fun p:Nat×Nat=>mem u p.1) (fun p=>p.2) s.cp++u,Ok i)∧∀i∈sel (fun p:Nat×Nat=>mem u p.2) (fun p=>p.1) s.cp++u,Ok i:=fun u hu=>by
   refine⟨fun i hm=>?_,fun i hm=>?_⟩
   ·rcases qAn.1 hm with hm | hm
    ·obtain⟨⟨d',x'⟩,h1,h2,h3⟩:=UH hm;subst h3;intro k a hk;rw[←hi.cp d' x' h1] at hk;exact hu d' (mem_iff.1 h2) k a hk
    grind
   ·rcases qAn.1 hm with hm | hm
    ·obtain⟨⟨d',x'⟩,h1,h2,h3⟩:=UH hm;subst h3;intro k a hk;rw[hi.cp d' x' h1] at hk;exact hu x' (mem_iff.1 h2) k a hk
    grind
  intro i k a h1 h2;simp only[Lv] at h1;rw[mem_iff,qAn] at h1;rcases h1 with h1 | h1
  ·exact(step _ (step _ g1).1).2 i h1 k a h2
  ·exact hi.up i k a (mem_iff.2 h1) h2
 | _=>exact hi.up
theorem aAH{s s1 s'}(h:Fr s1 s')(e1:s1.t=s.t)(e2:s1.h=s.h)(e3:s1.d=s.d)(e4:s1.o=s.o)(e5:s1.oo=s.oo):Fr s s':=
 ⟨by rw[←e1];exact h.tl,by rw[←e2];exact h.hl,by rw[←e3,←e1];exact h.d,by rw[←e4];exact h.om,by rw[←e5];exact h.oo,by rw[←e2];exact h.o⟩
theorem adJ{γ}{b}:∀l n (K:List TObj→Option γ),ag2 l n K=some b→∃h c,l=h++xC c∧(n≤l.length→n≤h.length)∧K h=some b
 | [],n,K,h=>⟨[],0,rfl,id,h⟩
 | o::l,0,K,h=>by
  have h:(ag2 l 0 fun r=>match r with
   | []=>bif lI o then K [] else K [o]
   | x::xs=>K (o::x::xs))=some b:=h
  obtain⟨h1,c,g1,_,g3⟩:=adJ l 0 _ h;cases h1 with
  | nil=>
   rcases aY g3 with⟨e,g3⟩ | ⟨_,g3⟩
   ·have e:o=.res:=by unfold lI at e;split at e;rfl;cases e
    exact⟨[],c+1,by rw[e,g1];rfl,fun _=>qBg _,g3⟩
   grind
  | cons x xs=>exact⟨o::x::xs,c,by rw[g1];rfl,fun _=>qBg _,g3⟩
 | o::l,n+1,K,h=>by
  obtain⟨h1,c,g1,g2,g3⟩:=adJ l n _ h
  grind
theorem Vg:∀c,xC c=List.replicate c .res
 | 0=>rfl
 | c+1=>by simp only[xC,Vg c,qCw]
theorem avT H c l:Lk H (H++xC c) l:=by
 unfold Lk;by_cases hl:l<H.length
 ·rw[pJ hl];exact⟨rfl,fun _=>rfl⟩
 ·rw[kL (by omega:H.length≤l)];have:nth .dead (H++xC c) l=.dead∨nth .dead (H++xC c) l=.res:=by
   rw[iD,List.getD,qAk (by omega),Vg,qBV]
   grind
  rcases this with e | e<;>rw[e]<;>exact⟨rfl,fun _=>rfl⟩
theorem aie H c t:aR (H++xC c) t=aR H t:=(VT t fun l _=>avT H c l).symm
theorem adL H c:aA (H++xC c)=aA H++List.replicate c .res:=by
 unfold aA;rw[qAY,Vg,qDf];congr 1;refine qBo fun o _=>?_;rw[←Vg];exact(ayj o fun cs _ l _=>avT H c l).symm
theorem ar8{m} t H c:Le m t (H++List.replicate c .res) t H:=by
 intro C κ a w _ hs;have hkl:κ.length=(H++List.replicate c AObj.res).length:=hs.klen;have hat:∀l,at? (κ.take H.length) l=at? κ l:=fun l=>by
  unfold at?;by_cases hl:l<H.length
  ·grind
  ·rw[qBt,if_neg hl];by_cases h2:l<κ.length
   ·have hr:obj? (H++List.replicate c AObj.res) l=.res:=by
     simp only[qAf,qBz] at hkl;unfold obj?
     grind
    have:=hs.resv l hr;unfold at? at this
    grind
   grind
 have hob:∀l b,at? κ l=some b→obj? H l=obj? (H++List.replicate c AObj.res) l:=fun l b hb=>by
  unfold obj?;by_cases hl:l<H.length
  ·grind
  ·exfalso;rw[←hat l] at hb;unfold at? at hb
   grind
 refine⟨κ.take H.length,hs.step (H':=H) (Evo.refl _ _) (fun l b hb=>by rw[hat];exact hb) (by rw[qAB,hkl];simp only[qAf];omega) ?_ ?_ ?_ ?_ ?_ (fun _ _=>rfl) rfl rfl rfl⟩
 ·rintro b o (hb | ⟨l,h1,h2⟩) _
  ·exact .inl hb
  ·rw[hat] at h1;rw[hob l b h1] at h2;exact .inr ⟨l,h1,h2⟩
 ·grind
 ·intro l l' b h1 h2 h3 h4;rw[hat] at h1 h2;rw[hob l b h1] at h3;rw[hob l' b h2] at h4;exact hs.apart l l' b h1 h2 h3 h4
 ·intro l b h1;rw[hat] at h1;exact hs.bound l b h1
 ·intro l h1;cases hb:at? (κ.take H.length) l with
  | none=>rfl
  | some b=>
   rw[hat] at hb;rw[hob l b hb] at h1;have:=hs.resv l h1;rw[hb] at this;cases this
end
section
open Go
def H8 l N:=(List.range N).map fun i=>if i=l then none else some i
theorem aa5{l N i}(h:i<N):(H8 l N)[i]? =some (if i=l then none else some i):=by simp[H8,h]
theorem apq{l N i}(h:N≤i):(H8 l N)[i]? =none:=by simp[H8,h]
theorem aA5 l N:(H8 l N).length=N:=by simp[H8]
theorem Pe{l N i j}(h:(H8 l N)[i]? =some (some j)):i<N∧i≠l∧j=i:=by
 by_cases hi:i<N
 ·rw[aa5 hi] at h
  grind
 ·rw[apq (by omega)] at h;cases h
theorem anh l N:some l∉H8 l N:=by
 intro h;obtain⟨i,hi⟩:=qAS h;obtain⟨_,h2,h3⟩:=Pe hi
 grind
theorem aCE{l N i big}(h:i<N)(hne:i≠l):iP (H8 l N) big i=i:=by unfold iP;rw[aa5 h,if_neg hne];rfl
mutual
theorem aiw:∀v,eO bI v=v
 | .ptr _ _=>rfl | .mapr _=>rfl | .own _=>rfl | .psl _ _ _=>rfl | .ap _ _ _ _=>rfl
 | .eptr cs=>by simp only[eO,Ik cs]
 | .agg cs=>by simp only[eO,Ik cs]
 | .tup cs=>by simp only[eO,Ik cs]
 | .func _ cs=>by simp only[eO,Ik cs]
 | .unk=>rfl | .nilp=>rfl | .nilF=>rfl | .nils=>rfl | .lf _ _=>rfl | .nat _=>rfl
theorem Ik:∀vs,Ch bI vs=vs
 | []=>rfl
 | v::vs=>by simp only[Ch,aiw v,Ik vs]
end
theorem aea H l:∀os j,(vS H l j os).length=os.length
 | [],_=>rfl
 | o::os,j=>by simp only[vS,qAm,aea H l os]
theorem Oc H l:∀os j i,nth .dead (vS H l j os) i=if j+i=l then .dead else Zy H l (nth .dead os i)
 | [],j,i=>by
  simp only[vS];split<;>rfl
 | o::os,j,0=>by
  show(bif Nat.beq j l then TObj.dead else Zy H l o)=_;by_cases e:j=l
  ·simp_all
  ·have hb:Nat.beq j l=false:=by
    cases hb:Nat.beq j l with
    | false=>rfl
    | true=>exact(e (qAj hb)).elim
   rw[hb,if_neg (by simpa using e)];rfl
 | o::os,j,i+1=>by
  show nth .dead (vS H l (j+1) os) i=if j+(i+1)=l then .dead else Zy H l (nth .dead os i);rw[Oc H l os (j+1) i,show j+1+i=j+(i+1) from by omega]
theorem Q6 H l:∀vs,mG H l vs=vs.map (fP H l)
 | []=>rfl
 | v::vs=>by simp only[mG,qAu,Q6 H l vs]
theorem xQ H l vs k:nth .unk (mG H l vs) k=fP H l (nth .unk vs k):=by
 rw[Q6];exact Uv (d:=.unk) (d':=.unk) (fP H l) rfl vs k
theorem JL{a b:Nat}(h:a≠b):Nat.beq a b=false:=by
 cases hb:Nat.beq a b with
 | false=>rfl
 | true=>exact(h (qAj hb)).elim
theorem U6{a b:Nat}(h:(!(Nat.beq a b))=true):a≠b:=fun e=>by subst e;rw[mK] at h;cases h
mutual
theorem I7(H)l:∀v,uZ l v=true→fP H l v=v
 | .ptr l' o,h=>by simp only[fP,JL (U6 h),cond_false]
 | .mapr l',h=>by simp only[fP,JL (U6 h),cond_false]
 | .own l',h=>by simp only[fP,JL (U6 h),cond_false]
 | .psl l' _ _,h=>by simp only[fP,JL (U6 h),cond_false]
 | .ap l' _ _ _,h=>by simp only[fP,JL (U6 h),cond_false]
 | .eptr cs,h=>by simp only[fP,Je H l cs h]
 | .agg cs,h=>by simp only[fP,Je H l cs h]
 | .tup cs,h=>by simp only[fP,Je H l cs h]
 | .func _ cs,h=>by simp only[fP,Je H l cs h]
 | .unk,_=>rfl | .nilp,_=>rfl | .nilF,_=>rfl | .nils,_=>rfl | .lf _ _,_=>rfl | .nat _,_=>rfl
theorem Je(H:List TObj)(l:Nat):∀vs,pF l vs=true→mG H l vs=vs
 | [],_=>rfl
 | v::vs,h=>by
  simp only[pF,qAa] at h;simp only[mG,I7 H l v h.1,Je H l vs h.2]
end
def Lu(l N i:Nat):=Nat.blt i N&&!Nat.beq i l
mutual
theorem UL l N:∀v,rfB N v=true→uZ l v=true→Ic (Lu l N) v=true
 | .ptr l' o,h,k=>qBG.2 ⟨h,k⟩
 | .mapr l',h,k=>qBG.2 ⟨h,k⟩
 | .own l',h,k=>qBG.2 ⟨h,k⟩
 | .psl l' _ _,h,k=>qBG.2 ⟨h,k⟩
 | .ap l' _ _ _,h,k=>qBG.2 ⟨h,k⟩
 | .eptr cs,h,k=>Ue l N cs h k
 | .agg cs,h,k=>Ue l N cs h k
 | .tup cs,h,k=>Ue l N cs h k
 | .func _ cs,h,k=>Ue l N cs h k
 | .unk,_,_=>rfl | .nilp,_,_=>rfl | .nilF,_,_=>rfl | .nils,_,_=>rfl | .lf _ _,_,_=>rfl | .nat _,_,_=>rfl
theorem Ue(l N:Nat):∀vs,gU N vs=true→pF l vs=true→mR (Lu l N) vs=true
 | [],_,_=>rfl
 | v::vs,h,k=>by
  simp only[gU,qAa] at h;simp only[pF,qAa] at k;simp only[mR,qAa];exact⟨UL l N v h.1 k.1,Ue l N vs h.2 k.2⟩
end
section
variable {H:List TObj}{l:Nat}
theorem apu{j}(hj:j≠l):eP j (nth .dead (vS H l 0 H) j)=eP j (nth .dead H j)∧∀z,dO j z (nth .dead (vS H l 0 H) j)=dO j z (nth .dead H j):=by
 rw[Oc,if_neg (by simpa using hj)];cases nth .dead H j<;>exact⟨rfl,fun _=>rfl⟩
theorem asK:Lks bI (iP (H8 l H.length) (aA H).length) (Lu l H.length) H (vS H l 0 H):=by
 have ok:∀j,Lu l H.length j=true→j<H.length∧j≠l:=fun j h=>by
  unfold Lu at h;simp only[qAa] at h;exact⟨qAe h.1,U6 h.2⟩
 have nm:∀j,Lu l H.length j=true→iP (H8 l H.length) (aA H).length j=j:=fun j h=>aCE (ok j h).1 (ok j h).2;refine⟨nm,fun j h=>?_,fun j z h=>?_⟩
 ·rw[(apu (ok j h).2).1];show eP j (nth .dead H j)=_;cases nth .dead H j<;>simp only[eP,ren,pG,l9,nm j h]
 ·rw[(apu (ok j h).2).2 z];show dO j z (nth .dead H j)=_;cases nth .dead H j<;>simp only[dO,ren,nm j h]
theorem UC{v}(h:Ic (Lu l H.length) v=true):VW (aA H) (H8 l H.length) (av (vS H l 0 H) v) (av H v):=by
 have:=Nv asK v h;rw[aiw] at this;exact .same this.symm
theorem ax7{vs}(h:mR (Lu l H.length) vs=true):aU H vs=dG (iP (H8 l H.length) (aA H).length) (aU (vS H l 0 H) vs):=by
 have:=abb asK vs h;rwa[Ik] at this
theorem avf{H}{cs}{p}(h:avv H cs=some p):∃v,aU H cs=ET.enc .dec p.1++[v]∧(v=.flist (p.2.map (ET.enc .dec))∨v=.nilp∧p.2=[]):=by
 obtain⟨u,r,xs,h1,h2,h3⟩:=TM _ _ _ _ h;have h3:=apx h3;split at h1
 ·rename_i ys;obtain⟨x,rfl,h4⟩:=jG h1;cases h4;exact⟨_,by rw[h2,←h3];rfl,.inl rfl⟩
 ·obtain⟨x,rfl,h4⟩:=jG h1;cases h4;exact⟨_,by rw[h2,←h3];rfl,.inr ⟨rfl,rfl⟩⟩
 ·cases h1
theorem ayD{v}(h:one v):one (fP H l v):=by
 refine VE fun e x q=>?_;cases v with
 | ptr l' o=>
  simp only[fP] at q;cases hb:Nat.beq l' l with
  | false=>rw[hb] at q;cases q
  | true=>
   unfold aai at q
   grind
 | mapr l'=>
  simp only[fP] at q
  grind
 | ap l' i z o=>
  simp only[fP] at q
  grind
 | own l'=>
  simp only[fP] at q;cases hb:Nat.beq l' l with
  | false=>rw[hb] at q;cases q
  | true=>
   unfold atO at q
   grind
 | psl l' z c=>
  simp only[fP] at q;cases hb:Nat.beq l' l with
  | false=>rw[hb] at q;cases q
  | true=>
   unfold auB at q
   grind
 | lf t y=>
  obtain⟨rfl,_⟩:=q;have:=uJ h;cases e<;>cases this
 | _=>simp only[fP] at q;cases q
theorem akk G xs j:ren G (xs.getD j .unk)=(dG G xs).getD j .unk:=by
 rw[sU];simp;cases xs[j]?<;>rfl
mutual
theorem ahe(hH:∀cs,nth .dead H l=.box cs→gU H.length cs=true):∀v,rfB H.length v=true→VW (aA H) (H8 l H.length) (av (vS H l 0 H) (fP H l v)) (av H v)
 | .ptr l' o,h=>by
  by_cases e:l'=l
  ·subst e;simp only[fP,mK,cond_true];cases o with
   | succ o=>exact .unk _
   | zero=>
    simp only[aai];split
    ·rename_i cs hc;cases hn:pF l' cs with
     | false=>exact .unk _
     | true=>
      simp only[cond_true];split
      ·rename_i p hp;obtain⟨v,h1,h2⟩:=avf hp;refine VW.frzF (cs':=ET.enc .dec p.1) (v:=v) (by rw[jI,hc];simp only[fC,h1]) (anh _ _) rfl (fun j _=>?_) ?_
       ·refine .same ?_;have:=aaC .dec (iP (H8 l' H.length) (aA H).length) p.1;rw[akk,this]
       ·rcases h2 with rfl | ⟨rfl,h2⟩
        ·exact .same (congrArg AV.flist (l9 .dec _ p.2))
        ·rw[h2];exact .nilF
      simp only[av];have hs:=ax7 (Ue l' H.length cs (hH cs hc) hn);refine VW.frz (cs':=aU H cs) (by rw[jI,hc];rfl) (anh _ _) ?_ fun j=>?_
      ·rw[hs,iq];omega
      ·rw[qAL,hs];exact .same (akk _ _ _)
    ·exact .unk _
  ·have hn:uZ l (.ptr l' o)=true:=by simp only[uZ,JL e];rfl
   rw[I7 _ _ _ hn];exact UC (UL _ _ _ h hn)
 | .mapr l',h=>by
  by_cases e:l'=l
  ·subst e;simp only[fP,mK,cond_true];exact .unk _
  ·have hn:uZ l (.mapr l')=true:=by simp only[uZ,JL e];rfl
   rw[I7 _ _ _ hn];exact UC (UL _ _ _ h hn)
 | .ap l' i z o,h=>by
  by_cases e:l'=l
  ·subst e;simp only[fP,mK,cond_true];exact .unk _
  ·have hn:uZ l (.ap l' i z o)=true:=by simp only[uZ,JL e];rfl
   rw[I7 _ _ _ hn];exact UC (UL _ _ _ h hn)
 | .own l',h=>by
  by_cases e:l'=l
  ·subst e;simp only[fP,mK,cond_true,atO];split
   ·rename_i e xs hc;simp only[av,ji,hc,eP];exact .share (l9 _ _ _)
   ·exact .unk _
  ·have hn:uZ l (.own l')=true:=by simp only[uZ,JL e];rfl
   rw[I7 _ _ _ hn];exact UC (UL _ _ _ h hn)
 | .psl l' z c,h=>by
  by_cases e:l'=l
  ·subst e;simp only[fP,mK,cond_true];cases c with
   | some k=>exact .unk _
   | none=>
    simp only[auB];split
    ·rename_i e xs hc;cases hs:YD e z with
     | false=>exact .unk _
     | true=>
      have hs:=Ns hs;subst hs;simp only[cond_true,av,ji,hc,dO];refine VW.aai (es0:=xs.map e.enc) (by rw[jI,hc];rfl) (anh _ _) (by simp) ?_;rw[l9,qCk (by simp)]
    ·exact .unk _
  ·have hn:uZ l (.psl l' z c)=true:=by simp only[uZ,JL e];rfl
   rw[I7 _ _ _ hn];exact UC (UL _ _ _ h hn)
 | .eptr cs,h=>by simp only[fP,av];exact .eptr (iV (Iw hH cs h)).1 (iV (Iw hH cs h)).2
 | .agg cs,h=>by simp only[fP,av];exact .agg (iV (Iw hH cs h)).1 (iV (Iw hH cs h)).2
 | .tup cs,h=>by simp only[fP,av];exact .tup (iV (Om hH cs h)).1 (iV (Om hH cs h)).2
 | .func f cs,h=>by simp only[fP,av];exact .func (iV (Om hH cs h)).1 (iV (Om hH cs h)).2
 | .unk,_=>.same rfl | .nilp,_=>.same rfl | .nilF,_=>.same rfl | .nils,_=>.same rfl | .lf t x,_=>.same (Jf _ t x) | .nat _,_=>.same rfl
theorem Iw(hH:∀cs,nth .dead H l=.box cs→gU H.length cs=true):∀vs,gU H.length vs=true→Rs (VW (aA H) (H8 l H.length)) (aU (vS H l 0 H) (mG H l vs)) (aU H vs)
 | [],_=>.nil
 | v::vs,h=>by
  simp only[gU,qAa] at h;have h1:=ahe hH v h.1;have h2:=Iw hH vs h.2;simp only[mG,aU];refine Rs.app ?_ h2;rcases qZ v with ho | ⟨e,x,rfl⟩
  ·rw[ho,ayD ho];exact .cons h1 .nil
  ·simp only[fP,zm];have:=(aaZ e x);generalize e.enc x=l at this;clear h1
   induction l with
   | nil=>exact .nil
   | cons a l ih=>exact .cons (.same (this a (by simp) _)) (ih fun b hb=>this b (by simp[hb]))
theorem Om(hH:∀cs,nth .dead H l=.box cs→gU H.length cs=true):∀vs,gU H.length vs=true→Rs (VW (aA H) (H8 l H.length)) (aR (vS H l 0 H) (mG H l vs)) (aR H vs)
 | [],_=>.nil
 | v::vs,h=>by
  simp only[gU,qAa] at h;simp only[mG,aR];exact .cons (ahe hH v h.1) (Om hH vs h.2)
end
end
theorem aBS{m l}{s}(hm:m≤l)(ht:gU s.h.length s.t=true)(hh:F6 s.h.length s.h=true)(hmN:m≤s.h.length):Le m (aR s.h s.t) (aA s.h) (aR (Lx l s).h (Lx l s).t) (aA (Lx l s).h):=by
 have hH:∀cs,nth .dead s.h l=.box cs→gU s.h.length cs=true:=fun cs hc=>(wX hh).2 cs hc;refine Le.of (H8 l s.h.length) ⟨?_,?_,fun i hi=>?_,?_,?_,fun n=>?_,?_,?_⟩
 ·simp only[Lx,Ca,Q6,qAh]
 ·simp only[Lx,aA5,aA,qAh,aea]
 ·rw[aa5 (by omega),if_neg (by omega)]
 ·intro i j k h1 h2 _ _;obtain⟨_,_,e1⟩:=Pe h1;obtain⟨_,_,e2⟩:=Pe h2;omega
 ·intro i k h1;obtain⟨h2,_,e1⟩:=Pe h1;simp only[aA,qAh];omega
 ·rw[Cq,Cq];show VW _ _ (av (vS s.h l 0 s.h) (nth .unk (mG s.h l s.t) n)) _;rw[xQ];refine ahe hH _ ?_;by_cases hn:n<s.t.length
  ·refine aeZ ht _ ?_;rw[iD,List.getD,qAc hn];exact qAO hn
  ·rw[kL (by omega)];rfl
 ·intro i k h1;obtain⟨h2,h3,e1⟩:=Pe h1;subst e1;rw[jI,jI];show OW _ _ (fC (vS s.h l 0 s.h) (nth .dead (vS s.h l 0 s.h) k)) _;rw[Oc,if_neg (by simpa using h3)];cases ho:nth .dead s.h k with
  | box cs=>
   have:=Iw hH cs ((wX hh).2 cs ho);exact .box (iV this).1 (iV this).2
  | own e xs=>exact .tip _
  | gone e xs=>exact .dead _
  | mp e xs=>exact .same rfl (by simp only[Zy,fC,dK,Nk])
  | arr e xs=>exact .same rfl (by simp only[Zy,fC,dK,l9])
  | gon n=>exact .dead _
  | dead=>exact .dead _
  | res=>exact .dead _
 ·intro i h1;have hi:i<s.h.length:=by
   apply qAp;intro hi;rw[apq (by omega)] at h1;cases h1
  rw[aa5 hi] at h1;have e:i=l:=by
   grind
  subst e;rw[jI];show bS (fC (vS s.h i 0 s.h) (nth .dead (vS s.h i 0 s.h) i))=false;rw[Oc,if_pos (by omega)];rfl
theorem aaS{l k}:∀{vs:List TV} {j:Nat},j+k∉aax l j vs→uZ l (nth .unk vs k)=true
 | [],j,_=>by rw[kL (qBg _)];rfl
 | v::vs,j,h=>by
  simp only[aax] at h;cases hv:uZ l v with
  | true=>
   rw[hv,cond_true] at h;cases k with
   | zero=>exact hv
   | succ k=>exact aaS (vs:=vs) (j:=j+1) (by rwa[show j+1+k=j+(k+1) from by omega])
  | false=>
   rw[hv,cond_false,qAg,not_or] at h;cases k with
   | zero=>exact(h.1 (qAP _)).elim
   | succ k=>exact aaS (vs:=vs) (j:=j+1) (by rw[show j+1+k=j+(k+1) from by omega];exact h.2)
theorem aic{l k}:∀{os:List TObj} {j:Nat},(j+k,0)∉Pp l j os→∀cs,nth .dead os k=.box cs→pF l cs=true
 | [],j,_,cs,hc=>by rw[kL (qBg _)] at hc;cases hc
 | o::os,j,h,cs,hc=>by
  have tl:∀k',k=k'+1→(j+1+k',0)∉Pp l (j+1) os→pF l cs=true:=fun k' e hn=>by
   subst e;exact aic (os:=os) hn cs hc
  cases k with
  | zero=>
   subst hc;simp only[Pp] at h
   grind
  | succ k=>
   refine tl k rfl ?_;rw[show j+1+k=j+(k+1) from by omega];cases o with
   | box cs'=>
    simp only[Pp] at h
    grind
   | _=>simpa only[Pp] using h
theorem aA8 l s (hh:F6 s.h.length s.h=true):Fr s (Lx l s):=by
 refine⟨by simp only[Lx,Q6,qAh],by simp only[Lx,aea];exact qAd _,fun k hk=>?_,fun p hp=>?_,rfl,fun i hi hno=>?_⟩
 ·have hk:k∉aax l 0 s.t++s.d:=hk;rw[qAn,not_or] at hk;refine⟨hk.2,?_⟩;show nth .unk (mG s.h l s.t) k=_;rw[xQ,I7 _ _ _ (aaS (j:=0) (by rw[qAL];exact hk.1))]
 ·exact qAl _ (qBC _ hp)
 ·have hno:(i,0)∉(l,0)::(Pp l 0 s.h++s.o):=hno;rw[qAg,qAn,not_or,not_or] at hno;have hne:i≠l:=fun e=>hno.1 (by rw[e]);have e1:nth .dead (Lx l s).h i=Zy s.h l (nth .dead s.h i):=by
   show nth .dead (vS s.h l 0 s.h) i=_;rw[Oc,if_neg (by simpa using hne)]
  rw[e1];cases ho:nth .dead s.h i with
  | box cs=>
   left;simp only[Zy];rw[Je _ _ _ (aic (j:=0) (by rw[qAL];exact hno.2.1) cs ho)]
  | res=>exact((wX hh).1 ho).elim
  | _=>exact .inl rfl
theorem afG H l v:fP H l v=v∨((∃e xs,fP H l v=.lf (.l e) xs)∨∃e xs,fP H l v=.lf (.f e) xs)∨(∃cs,fP H l v=.eptr cs)∨(∃cs,fP H l v=.agg cs)∨(∃cs,fP H l v=.tup cs)∨(∃f cs,fP H l v=.func f cs)∨fP H l v=.unk:=by
 cases v with
 | ptr l' o=>
  simp only[fP];cases Nat.beq l' l with
  | false=>exact .inl rfl
  | true=>
   unfold aai
   grind
 | mapr l'=>
  simp only[fP]
  grind
 | ap l' i z o=>
  simp only[fP]
  grind
 | own l'=>
  simp only[fP];cases Nat.beq l' l with
  | false=>exact .inl rfl
  | true=>
   unfold atO
   grind
 | psl l' z c=>
  simp only[fP];cases Nat.beq l' l with
  | false=>exact .inl rfl
  | true=>
   unfold auB
   grind
 | eptr cs=>exact .inr (.inr (.inl ⟨_,rfl⟩))
 | agg cs=>exact .inr (.inr (.inr (.inl ⟨_,rfl⟩)))
 | tup cs=>exact .inr (.inr (.inr (.inr (.inl ⟨_,rfl⟩))))
 | func f cs=>exact .inr (.inr (.inr (.inr (.inr (.inl ⟨_,_,rfl⟩)))))
 | _=>exact .inl rfl
theorem apE H l v {k}{a}(h:mO (fP H l v)=some (k,a)):mO v=some (k,a):=by
 rcases afG H l v with e | (⟨_,_,e⟩ | ⟨_,_,e⟩) | ⟨_,e⟩ | ⟨_,e⟩ | ⟨_,e⟩ | ⟨_,_,e⟩ | e<;>rw[e] at h<;>first | exact h | cases h
theorem aw5 H l v {k}{a}(h:mO v=some (k,a)):mO (fP H l v)=some (k,a):=by
 cases v<;>first | exact h | cases h
theorem awR H l v {b:Bool}(h:fP H l v=.lf .b b):v=.lf .b b:=by
 rcases afG H l v with e | (⟨_,_,e⟩ | ⟨_,_,e⟩) | ⟨_,e⟩ | ⟨_,e⟩ | ⟨_,e⟩ | ⟨_,_,e⟩ | e<;>rw[e] at h<;>first | exact h | cases h
theorem azg l {s}(hi:Inv s):Inv (Lx l s):=by
 refine⟨fun i k a h1 h2=>?_,fun d i j h1 k a h2=>?_,fun d x h1=>?_⟩
 ·have h2:mO (nth .unk (mG s.h l s.t) i)=some (k,a):=h2;rw[xQ] at h2;exact hi.up i k a h1 (apE _ _ _ h2)
 ·have h2:mO (nth .unk (mG s.h l s.t) i)=some (k,a):=h2;rw[xQ] at h2;obtain⟨c,g1,g2⟩:=hi.rl d i j h1 k a (apE _ _ _ h2);refine⟨c,?_,fun b hb=>g2 b ?_⟩
  ·show mO (nth .unk (mG s.h l s.t) j)=_;rw[xQ];exact aw5 _ _ _ g1
  ·have hb:nth .unk (mG s.h l s.t) d=.lf .b b:=hb;rw[xQ] at hb;exact awR _ _ _ hb
 ·show nth .unk (mG s.h l s.t) d=nth .unk (mG s.h l s.t) x;rw[xQ,xQ,hi.cp d x h1]
theorem ahH{γ}{b}{m}:∀ls s (K:DS→Option γ),m≤s.h.length→Inv s→anw m ls s K=some b→∃s',K s'=some b∧Fr s s'∧Inv s'∧Le m (aR s.h s.t) (aA s.h) (aR s'.h s'.t) (aA s'.h)
 | [],s,K,_,hi,h=>⟨s,h,Fr.refl s,hi,fun _ κ _ _ _ hs=>⟨κ,hs⟩⟩
 | l::ls,s,K,hm,hi,h=>by
  simp only[anw] at h;rw[Wi] at h;obtain⟨hc,h⟩:=(aY h).resolve_right fun h=>by cases h.2
  simp only[qAa] at hc;have f1:=aA8 l s hc.2.2.2;obtain⟨s',g1,g2,g3,g4⟩:=ahH ls (Lx l s) K (qAs hm f1.hl) (azg l hi) h;exact⟨s',g1,f1.trans g2,g3,(aBS (qAe hc.1) hc.2.2.1 hc.2.2.2 hm).trans g4⟩
end
end Abs
end Go.Proofs.YtneeginmfjageaaGreat
