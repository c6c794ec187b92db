/-
  Freezing objects of typed states. Conditions: none; lemmas.
-/
import Derived.Test.YtfmdmcenjfkbhaaGreatDoorCD21ox9e2b72
set_option linter.all false
namespace Go.Proofs.YtfmdmcenjfkbhaaGreatDoor
namespace Abs
section
open Go
def uz(l N:Nat):List (Option Nat):=(List.range N).map fun i=>if i=l then none else some i
theorem GY{l N i:Nat}(h:i<N):(uz l N)[i]? =some (if i=l then none else some i):=by simp[uz,h]
theorem Qc{l N i:Nat}(h:N≤i):(uz l N)[i]? =none:=by simp[uz,h]
theorem acu(l N:Nat):(uz l N).length=N:=by simp[uz]
theorem zH{l N i j:Nat}(h:(uz l N)[i]? =some (some j)):i<N∧i≠l∧j=i:=by
 by_cases hi:i<N
 ·rw[GY hi]at h
  grind
 ·rw[Qc (by omega)]at h;cases h
theorem RF(l N:Nat):some l∉uz l N:=by
 intro h;obtain⟨i,hi⟩:=qAK h;obtain⟨_,h2,h3⟩:=zH hi
 grind
theorem aeD{l N i big:Nat}(h:i<N)(hne:i≠l):eF (uz l N) big i=i:=by unfold eF;rw[GY h,if_neg hne];rfl
mutual
theorem M5:∀v,bU aT v=v
 | .ptr _ _=>rfl| .mapr _=>rfl| .own _=>rfl| .psl _ _ _=>rfl| .ap _ _ _ _=>rfl
 | .eptr cs=>by simp only[bU,vF cs]
 | .agg cs=>by simp only[bU,vF cs]
 | .tup cs=>by simp only[bU,vF cs]
 | .func _ cs=>by simp only[bU,vF cs]
 | .unk=>rfl| .nilp=>rfl| .nilF=>rfl| .nils=>rfl| .lf _ _=>rfl| .nat _=>rfl
theorem vF:∀vs,qK aT vs=vs
 |[]=>rfl
 |v::vs=>by simp only[qK,M5 v,vF vs]
end
theorem Jq(H:List TObj)(l:Nat):∀(os:List TObj) (j:Nat),(l8 H l j os).length=os.length
 |[],_=>rfl
 |o::os,j=>by simp only[l8,qAl,Jq H l os]
theorem zk(H:List TObj)(l:Nat):∀(os:List TObj) (j i:Nat),nth .dead (l8 H l j os) i=if j+i=l then .dead else Gc H l (nth .dead os i)
 |[],j,i=>by
  simp only[l8];split<;>rfl
 |o::os,j,0=>by
  show(bif Nat.beq j l then TObj.dead else Gc H l o)=_;by_cases e:j=l
  ·simp_all
  ·have hb:Nat.beq j l=false:=by
    cases hb:Nat.beq j l with
    |false=>rfl
    |true=>exact(e (qAc hb)).elim
   rw[hb,if_neg (by simpa using e)];rfl
 |o::os,j,i+1=>by
  show nth .dead (l8 H l (j+1) os) i=if j+(i+1)=l then .dead else Gc H l (nth .dead os i);rw[zk H l os (j+1) i,show j+1+i=j+(i+1)from by omega]
theorem AL(H:List TObj)(l:Nat):∀vs,iL H l vs=vs.map (dx H l)
 |[]=>rfl
 |v::vs=>by simp only[iL,qAz,AL H l vs]
theorem ni(H:List TObj)(l:Nat)(vs:List TV)(k:Nat):nth .unk (iL H l vs) k=dx H l (nth .unk vs k):=by
 rw[AL];exact Cb (d:=.unk) (d':=.unk) (dx H l) rfl vs k
theorem vV{a b:Nat}(h:a≠b):Nat.beq a b=false:=by
 cases hb:Nat.beq a b with
 |false=>rfl
 |true=>exact(h (qAc hb)).elim
theorem CJ{a b:Nat}(h:(!(Nat.beq a b))=true):a≠b:=fun e=>by subst e;rw[je]at h;cases h
mutual
theorem uR(H:List TObj)(l:Nat):∀v,lN l v=true→dx H l v=v
 | .ptr l' o,h=>by simp only[dx,vV (CJ h),cond_false]
 | .mapr l',h=>by simp only[dx,vV (CJ h),cond_false]
 | .own l',h=>by simp only[dx,vV (CJ h),cond_false]
 | .psl l' _ _,h=>by simp only[dx,vV (CJ h),cond_false]
 | .ap l' _ _ _,h=>by simp only[dx,vV (CJ h),cond_false]
 | .eptr cs,h=>by simp only[dx,uM H l cs h]
 | .agg cs,h=>by simp only[dx,uM H l cs h]
 | .tup cs,h=>by simp only[dx,uM H l cs h]
 | .func _ cs,h=>by simp only[dx,uM H l cs h]
 | .unk,_=>rfl| .nilp,_=>rfl| .nilF,_=>rfl| .nils,_=>rfl| .lf _ _,_=>rfl| .nat _,_=>rfl
theorem uM(H:List TObj)(l:Nat):∀vs,jJ l vs=true→iL H l vs=vs
 |[],_=>rfl
 |v::vs,h=>by
  simp only[jJ,qAa]at h;simp only[iL,uR H l v h.1,uM H l vs h.2]
end
def xD(l N i:Nat):Bool:=Nat.blt i N&&!(Nat.beq i l)
mutual
theorem D7(l N:Nat):∀v,F8 N v=true→lN l v=true→uG (xD l N) v=true
 | .ptr l' o,h,k=>qBw.2 ⟨h,k⟩
 | .mapr l',h,k=>qBw.2 ⟨h,k⟩
 | .own l',h,k=>qBw.2 ⟨h,k⟩
 | .psl l' _ _,h,k=>qBw.2 ⟨h,k⟩
 | .ap l' _ _ _,h,k=>qBw.2 ⟨h,k⟩
 | .eptr cs,h,k=>BH l N cs h k
 | .agg cs,h,k=>BH l N cs h k
 | .tup cs,h,k=>BH l N cs h k
 | .func _ cs,h,k=>BH l N cs h k
 | .unk,_,_=>rfl| .nilp,_,_=>rfl| .nilF,_,_=>rfl| .nils,_,_=>rfl| .lf _ _,_,_=>rfl| .nat _,_,_=>rfl
theorem BH(l N:Nat):∀vs,dM N vs=true→jJ l vs=true→iV (xD l N) vs=true
 |[],_,_=>rfl
 |v::vs,h,k=>by
  simp only[dM,qAa]at h;simp only[jJ,qAa]at k;simp only[iV,qAa];exact⟨D7 l N v h.1 k.1,BH l N vs h.2 k.2⟩
end
section
variable {H:List TObj}{l:Nat}
theorem SL{j:Nat}(hj:j≠l):bV j (nth .dead (l8 H l 0 H) j)=bV j (nth .dead H j)∧∀z,bI j z (nth .dead (l8 H l 0 H) j)=bI j z (nth .dead H j):=by
 rw[zk,if_neg (by simpa using hj)];cases nth .dead H j<;>exact⟨rfl,fun _=>rfl⟩
theorem UY:Lks aT (eF (uz l H.length) (au H).length) (xD l H.length) H (l8 H l 0 H):=by
 have ok:∀j,xD l H.length j=true→j<H.length∧j≠l:=fun j h=>by
  unfold xD at h;simp only[qAa]at h;exact⟨qAf h.1,CJ h.2⟩
 have nm:∀j,xD l H.length j=true→eF (uz l H.length) (au H).length j=j:=fun j h=>aeD (ok j h).1 (ok j h).2;refine⟨nm,fun j h=>?_,fun j z h=>?_⟩
 ·rw[(SL (ok j h).2).1];show bV j (nth .dead H j)=_;cases nth .dead H j<;>simp only[bV,ren,mg,iq,nm j h]
 ·rw[(SL (ok j h).2).2 z];show bI j z (nth .dead H j)=_;cases nth .dead H j<;>simp only[bI,ren,nm j h]
theorem BK{v:TV}(h:uG (xD l H.length) v=true):VW (au H) (uz l H.length) (av (l8 H l 0 H) v) (av H v):=by
 have:=zl UY v h;rw[M5]at this;exact .same this.symm
theorem aaX{vs:List TV}(h:iV (xD l H.length) vs=true):aO H vs=bF (eF (uz l H.length) (au H).length) (aO (l8 H l 0 H) vs):=by
 have:=GD UY vs h;rwa[vF]at this
theorem YT{H:List TObj}{cs:List TV}{p:Decl×List Decl}(h:Yj H cs=some p):∃v,aO H cs=ET.enc .dec p.1++[v]∧(v=.flist (p.2.map (ET.enc .dec))∨v=.nilp∧p.2=[]):=by
 obtain⟨u,r,xs,h1,h2,h3⟩:=Cr _ _ _ _ h;have h3:=Qj h3;split at h1
 ·rename_i ys;obtain⟨x,rfl,h4⟩:=eY h1;cases h4;exact⟨_,by rw[h2,←h3];rfl,.inl rfl⟩
 ·obtain⟨x,rfl,h4⟩:=eY h1;cases h4;exact⟨_,by rw[h2,←h3];rfl,.inr ⟨rfl,rfl⟩⟩
 ·cases h1
theorem abp{v:TV}(h:one v):one (dx H l v):=by
 refine DY fun e x q=>?_;cases v with
 |ptr l' o=>
  simp only[dx]at q;cases hb:Nat.beq l' l with
  |false=>rw[hb]at q;cases q
  |true=>
   unfold Gf at q
   grind
 |mapr l'=>
  simp only[dx]at q
  grind
 |ap l' i z o=>
  simp only[dx]at q
  grind
 |own l'=>
  simp only[dx]at q;cases hb:Nat.beq l' l with
  |false=>rw[hb]at q;cases q
  |true=>
   unfold Wv at q
   grind
 |psl l' z c=>
  simp only[dx]at q;cases hb:Nat.beq l' l with
  |false=>rw[hb]at q;cases q
  |true=>
   unfold VN at q
   grind
 |lf t y=>
  obtain⟨rfl,_⟩:=q;have:=lU h;cases e<;>cases this
 |_=>simp only[dx]at q;cases q
theorem Om(G:Nat→Nat)(xs:List AV)(j:Nat):ren G (xs.getD j .unk)=(bF G xs).getD j .unk:=by
 rw[kV];simp;cases xs[j]?<;>rfl
mutual
theorem MR(hH:∀cs,nth .dead H l=.box cs→dM H.length cs=true):∀v,F8 H.length v=true→VW (au H) (uz l H.length) (av (l8 H l 0 H) (dx H l v)) (av H v)
 | .ptr l' o,h=>by
  by_cases e:l'=l
  ·subst e;simp only[dx,je,cond_true];cases o with
   |succ o=>exact .unk _
   |zero=>
    simp only[Gf];split
    ·rename_i cs hc;cases hn:jJ l' cs with
     |false=>exact .unk _
     |true=>
      simp only[cond_true];split
      ·rename_i p hp;obtain⟨v,h1,h2⟩:=YT hp;refine VW.frzF (cs':=ET.enc .dec p.1) (v:=v) (by rw[fC,hc];simp only[bY,h1]) (RF _ _) rfl (fun j _=>?_) ?_
       ·refine .same ?_;have:=EI .dec (eF (uz l' H.length) (au H).length) p.1;rw[Om,this]
       ·rcases h2 with rfl|⟨rfl,h2⟩
        ·exact .same (congrArg AV.flist (iq .dec _ p.2))
        ·rw[h2];exact .nilF
      simp only[av];have hs:=aaX (BH l' H.length cs (hH cs hc) hn);refine VW.frz (cs':=aO H cs) (by rw[fC,hc];rfl) (RF _ _) ?_ fun j=>?_
      ·rw[hs,dP];omega
      ·rw[qAu,hs];exact .same (Om _ _ _)
    ·exact .unk _
  ·have hn:lN l (.ptr l' o)=true:=by simp only[lN,vV e];rfl
   rw[uR _ _ _ hn];exact BK (D7 _ _ _ h hn)
 | .mapr l',h=>by
  by_cases e:l'=l
  ·subst e;simp only[dx,je,cond_true];exact .unk _
  ·have hn:lN l (.mapr l')=true:=by simp only[lN,vV e];rfl
   rw[uR _ _ _ hn];exact BK (D7 _ _ _ h hn)
 | .ap l' i z o,h=>by
  by_cases e:l'=l
  ·subst e;simp only[dx,je,cond_true];exact .unk _
  ·have hn:lN l (.ap l' i z o)=true:=by simp only[lN,vV e];rfl
   rw[uR _ _ _ hn];exact BK (D7 _ _ _ h hn)
 | .own l',h=>by
  by_cases e:l'=l
  ·subst e;simp only[dx,je,cond_true,Wv];split
   ·rename_i e xs hc;simp only[av,eP,hc,bV];exact .share (iq _ _ _)
   ·exact .unk _
  ·have hn:lN l (.own l')=true:=by simp only[lN,vV e];rfl
   rw[uR _ _ _ hn];exact BK (D7 _ _ _ h hn)
 | .psl l' z c,h=>by
  by_cases e:l'=l
  ·subst e;simp only[dx,je,cond_true];cases c with
   |some k=>exact .unk _
   |none=>
    simp only[VN];split
    ·rename_i e xs hc;cases hs:Dv e z with
     |false=>exact .unk _
     |true=>
      have hs:=uX hs;subst hs;simp only[cond_true,av,eP,hc,bI];refine VW.Gf (es0:=xs.map e.enc) (by rw[fC,hc];rfl) (RF _ _) (by simp) ?_;rw[iq,qCc (by simp)]
    ·exact .unk _
  ·have hn:lN l (.psl l' z c)=true:=by simp only[lN,vV e];rfl
   rw[uR _ _ _ hn];exact BK (D7 _ _ _ h hn)
 | .eptr cs,h=>by simp only[dx,av];exact .eptr (eO (uT hH cs h)).1 (eO (uT hH cs h)).2
 | .agg cs,h=>by simp only[dx,av];exact .agg (eO (uT hH cs h)).1 (eO (uT hH cs h)).2
 | .tup cs,h=>by simp only[dx,av];exact .tup (eO (zG hH cs h)).1 (eO (zG hH cs h)).2
 | .func f cs,h=>by simp only[dx,av];exact .func (eO (zG hH cs h)).1 (eO (zG hH cs h)).2
 | .unk,_=>.same rfl| .nilp,_=>.same rfl| .nilF,_=>.same rfl| .nils,_=>.same rfl| .lf t x,_=>.same (uV _ t x)| .nat _,_=>.same rfl
theorem uT(hH:∀cs,nth .dead H l=.box cs→dM H.length cs=true):∀vs,dM H.length vs=true→Rs (VW (au H) (uz l H.length)) (aO (l8 H l 0 H) (iL H l vs)) (aO H vs)
 |[],_=>.nil
 |v::vs,h=>by
  simp only[dM,qAa]at h;have h1:=MR hH v h.1;have h2:=uT hH vs h.2;simp only[iL,aO];refine Rs.app ?_ h2;rcases j6 v with ho|⟨e,x,rfl⟩
  ·rw[ho,abp ho];exact .cons h1 .nil
  ·simp only[dx,nX];have:=(GU e x);generalize e.enc x=l at this;clear h1
   induction l with
   |nil=>exact .nil
   |cons a l ih=>exact .cons (.same (this a (by simp) _)) (ih fun b hb=>this b (by simp[hb]))
theorem zG(hH:∀cs,nth .dead H l=.box cs→dM H.length cs=true):∀vs,dM H.length vs=true→Rs (VW (au H) (uz l H.length)) (aI (l8 H l 0 H) (iL H l vs)) (aI H vs)
 |[],_=>.nil
 |v::vs,h=>by
  simp only[dM,qAa]at h;simp only[iL,aI];exact .cons (MR hH v h.1) (zG hH vs h.2)
end
end
theorem adv{m l:Nat}{s:DS}(hm:m≤l)(ht:dM s.h.length s.t=true)(hh:tY s.h.length s.h=true)(hmN:m≤s.h.length):Le m (aI s.h s.t) (au s.h) (aI (xq l s).h (xq l s).t) (au (xq l s).h):=by
 have hH:∀cs,nth .dead s.h l=.box cs→dM s.h.length cs=true:=fun cs hc=>(mV hh).2 cs hc;refine Le.of (uz l s.h.length) ⟨?_,?_,fun i hi=>?_,?_,?_,fun n=>?_,?_,?_⟩
 ·simp only[xq,qw,AL,qAi]
 ·simp only[xq,acu,au,qAi,Jq]
 ·rw[GY (by omega),if_neg (by omega)]
 ·intro i j k h1 h2 _ _;obtain⟨_,_,e1⟩:=zH h1;obtain⟨_,_,e2⟩:=zH h2;omega
 ·intro i k h1;obtain⟨h2,_,e1⟩:=zH h1;simp only[au,qAi];omega
 ·rw[qy,qy];show VW _ _ (av (l8 s.h l 0 s.h) (nth .unk (iL s.h l s.t) n)) _;rw[ni];refine MR hH _ ?_;by_cases hn:n<s.t.length
  ·refine Lf ht _ ?_;rw[dF,List.getD,qAd hn];exact qAV hn
  ·rw[gD (by omega)];rfl
 ·intro i k h1;obtain⟨h2,h3,e1⟩:=zH h1;subst e1;rw[fC,fC];show OW _ _ (bY (l8 s.h l 0 s.h) (nth .dead (l8 s.h l 0 s.h) k)) _;rw[zk,if_neg (by simpa using h3)];cases ho:nth .dead s.h k with
  |box cs=>
   have:=uT hH cs ((mV hh).2 cs ho);exact .box (eO this).1 (eO this).2
  |own e xs=>exact .tip _
  |gone e xs=>exact .dead _
  |mp e xs=>exact .same rfl (by simp only[Gc,bY,bD,yP])
  |arr e xs=>exact .same rfl (by simp only[Gc,bY,bD,iq])
  |gon n=>exact .dead _
  |dead=>exact .dead _
  |res=>exact .dead _
 ·intro i h1;have hi:i<s.h.length:=by
   apply qAm;intro hi;rw[Qc (by omega)]at h1;cases h1
  rw[GY hi]at h1;have e:i=l:=by
   grind
  subst e;rw[fC];show aX (bY (l8 s.h i 0 s.h) (nth .dead (l8 s.h i 0 s.h) i))=false;rw[zk,if_pos (by omega)];rfl
theorem GX{l k:Nat}:∀{vs:List TV} {j:Nat},(j+k)∉EM l j vs→lN l (nth .unk vs k)=true
 |[],j,_=>by rw[gD (qAN _)];rfl
 |v::vs,j,h=>by
  simp only[EM]at h;cases hv:lN l v with
  |true=>
   rw[hv,cond_true]at h;cases k with
   |zero=>exact hv
   |succ k=>exact GX (vs:=vs) (j:=j+1) (by rwa[show j+1+k=j+(k+1)from by omega])
  |false=>
   rw[hv,cond_false,qAh,not_or]at h;cases k with
   |zero=>exact(h.1 (qAJ _)).elim
   |succ k=>exact GX (vs:=vs) (j:=j+1) (by rw[show j+1+k=j+(k+1)from by omega];exact h.2)
theorem MX{l k:Nat}:∀{os:List TObj} {j:Nat},(j+k,0)∉yX l j os→∀cs,nth .dead os k=.box cs→jJ l cs=true
 |[],j,_,cs,hc=>by rw[gD (qAN _)]at hc;cases hc
 |o::os,j,h,cs,hc=>by
  have tl:∀k',k=k'+1→(j+1+k',0)∉yX l (j+1) os→jJ l cs=true:=fun k' e hn=>by
   subst e;exact MX (os:=os) hn cs hc
  cases k with
  |zero=>
   subst hc;simp only[yX]at h
   grind
  |succ k=>
   refine tl k rfl ?_;rw[show j+1+k=j+(k+1)from by omega];cases o with
   |box cs'=>
    simp only[yX]at h
    grind
   |_=>simpa only[yX]using h
theorem acR(l:Nat)(s:DS)(hh:tY s.h.length s.h=true):Fr s (xq l s):=by
 refine⟨by simp only[xq,AL,qAi],by simp only[xq,Jq];exact qAq _,fun k hk=>?_,fun p hp=>?_,rfl,fun i hi hno=>?_⟩
 ·have hk:k∉EM l 0 s.t++s.d:=hk;rw[qAy,not_or]at hk;refine⟨hk.2,?_⟩;show nth .unk (iL s.h l s.t) k=_;rw[ni,uR _ _ _ (GX (j:=0) (by rw[qAu];exact hk.1))]
 ·exact qAk _ (qBo _ hp)
 ·have hno:(i,0)∉(l,0)::(yX l 0 s.h++s.o):=hno;rw[qAh,qAy,not_or,not_or]at hno;have hne:i≠l:=fun e=>hno.1 (by rw[e]);have e1:nth .dead (xq l s).h i=Gc s.h l (nth .dead s.h i):=by
   show nth .dead (l8 s.h l 0 s.h) i=_;rw[zk,if_neg (by simpa using hne)]
  rw[e1];cases ho:nth .dead s.h i with
  |box cs=>
   left;simp only[Gc];rw[uM _ _ _ (MX (j:=0) (by rw[qAu];exact hno.2.1) cs ho)]
  |res=>exact((mV hh).1 ho).elim
  |_=>exact .inl rfl
theorem J5(H:List TObj)(l:Nat)(v:TV):dx H l v=v∨((∃e xs,dx H l v=.lf (.l e) xs)∨∃e xs,dx H l v=.lf (.f e) xs)∨(∃cs,dx H l v=.eptr cs)∨(∃cs,dx H l v=.agg cs)∨(∃cs,dx H l v=.tup cs)∨(∃f cs,dx H l v=.func f cs)∨dx H l v=.unk:=by
 cases v with
 |ptr l' o=>
  simp only[dx];cases Nat.beq l' l with
  |false=>exact .inl rfl
  |true=>
   unfold Gf
   grind
 |mapr l'=>
  simp only[dx]
  grind
 |ap l' i z o=>
  simp only[dx]
  grind
 |own l'=>
  simp only[dx];cases Nat.beq l' l with
  |false=>exact .inl rfl
  |true=>
   unfold Wv
   grind
 |psl l' z c=>
  simp only[dx];cases Nat.beq l' l with
  |false=>exact .inl rfl
  |true=>
   unfold VN
   grind
 |eptr cs=>exact .inr (.inr (.inl ⟨_,rfl⟩))
 |agg cs=>exact .inr (.inr (.inr (.inl ⟨_,rfl⟩)))
 |tup cs=>exact .inr (.inr (.inr (.inr (.inl ⟨_,rfl⟩))))
 |func f cs=>exact .inr (.inr (.inr (.inr (.inr (.inl ⟨_,_,rfl⟩)))))
 |_=>exact .inl rfl
theorem SK(H:List TObj)(l:Nat)(v:TV){k:IntKind}{a:Int}(h:iT (dx H l v)=some (k,a)):iT v=some (k,a):=by
 rcases J5 H l v with e|(⟨_,_,e⟩|⟨_,_,e⟩)|⟨_,e⟩|⟨_,e⟩|⟨_,e⟩|⟨_,_,e⟩|e<;>rw[e]at h<;>first|exact h|cases h
theorem Yv(H:List TObj)(l:Nat)(v:TV){k:IntKind}{a:Int}(h:iT v=some (k,a)):iT (dx H l v)=some (k,a):=by
 cases v<;>first|exact h|cases h
theorem Xv(H:List TObj)(l:Nat)(v:TV){b:Bool}(h:dx H l v=.lf .b b):v=.lf .b b:=by
 rcases J5 H l v with e|(⟨_,_,e⟩|⟨_,_,e⟩)|⟨_,e⟩|⟨_,e⟩|⟨_,e⟩|⟨_,_,e⟩|e<;>rw[e]at h<;>first|exact h|cases h
theorem Z0(l:Nat){s:DS}(hi:Inv s):Inv (xq l s):=by
 refine⟨fun i k a h1 h2=>?_,fun d i j h1 k a h2=>?_,fun d x h1=>?_⟩
 ·have h2:iT (nth .unk (iL s.h l s.t) i)=some (k,a):=h2;rw[ni]at h2;exact hi.up i k a h1 (SK _ _ _ h2)
 ·have h2:iT (nth .unk (iL s.h l s.t) i)=some (k,a):=h2;rw[ni]at h2;obtain⟨c,g1,g2⟩:=hi.rl d i j h1 k a (SK _ _ _ h2);refine⟨c,?_,fun b hb=>g2 b ?_⟩
  ·show iT (nth .unk (iL s.h l s.t) j)=_;rw[ni];exact Yv _ _ _ g1
  ·have hb:nth .unk (iL s.h l s.t) d=.lf .b b:=hb;rw[ni]at hb;exact Xv _ _ _ hb
 ·show nth .unk (iL s.h l s.t) d=nth .unk (iL s.h l s.t) x;rw[ni,ni,hi.cp d x h1]
theorem Nf{γ:Type}{b:γ}{m:Nat}:∀(ls:List Nat) (s:DS) (K:DS→Option γ),m≤s.h.length→Inv s→QL m ls s K=some b→∃s',K s'=some b∧Fr s s'∧Inv s'∧Le m (aI s.h s.t) (au s.h) (aI s'.h s'.t) (au s'.h)
 |[],s,K,_,hi,h=>⟨s,h,Fr.refl s,hi,fun _ κ _ _ _ hs=>⟨κ,hs⟩⟩
 |l::ls,s,K,hm,hi,h=>by
  simp only[QL]at h;rw[DK]at h;obtain⟨hc,h⟩:=(aM h).resolve_right fun h=>by cases h.2
  simp only[qAa]at hc;have f1:=acR l s hc.2.2.2;obtain⟨s',g1,g2,g3,g4⟩:=Nf ls (xq l s) K (qAW hm f1.hl) (Z0 l hi) h;exact⟨s',g1,f1.trans g2,g3,(adv (qAf hc.1) hc.2.2.1 hc.2.2.2 hm).trans g4⟩
end
section
open Go
def Bz(N:Nat):List (Option Nat):=(List.range N).map some
theorem MS{N i:Nat}(h:i<N):(Bz N)[i]? =some (some i):=by simp[Bz,h]
theorem aa4{N i:Nat}(h:N≤i):(Bz N)[i]? =none:=by simp[Bz,h]
theorem zx{N i:Nat}{o:Option Nat}(h:(Bz N)[i]? =some o):i<N∧o=some i:=by
 by_cases hi:i<N
 ·rw[MS hi]at h;exact⟨hi,(Option.some.inj h).symm⟩
 ·rw[aa4 (by omega)]at h;cases h
theorem Yu{N i big:Nat}(h:i<N):eF (Bz N) big i=i:=by unfold eF;rw[MS h];rfl
theorem qz(l:Nat):∀(vs:List TV) (k:Nat),nth .unk (Ec l vs) k=bif lN l (nth .unk vs k)then nth .unk vs k else .unk
 |[],k=>by show nth (TV.unk) [] k=bif lN l (nth TV.unk [] k)then nth TV.unk [] k else TV.unk;rw[gD (qAN _)];rfl
 |v::vs,0=>rfl
 |v::vs,k+1=>qz l vs k
theorem Mw(l:Nat):∀vs:List TV,(Ec l vs).length=vs.length
 |[]=>rfl
 |v::vs=>congrArg (·+1) (Mw l vs)
theorem aaU{l:Nat}(e:ET)(x:e.D):∀v∈vT e x,lN l v=true:=by
 intro v hv;cases e<;>simp only[vT,qAh]at hv<;>(repeat' (rcases hv with rfl|hv))<;>first|rfl|(subst hv;rfl)
theorem DN{l:Nat}:∀{vs:List TV},jJ l vs=true→∀v∈aB vs,lN l v=true
 |[],_,v,h=>by cases h
 |x::vs,h,v,hv=>by
  simp only[jJ,qAa]at h;simp only[aB,qAy]at hv;rcases hv with hv|hv
  ·rcases j6 x with ho|⟨e,y,rfl⟩
   ·rw[lU ho,qAL]at hv;subst hv;exact h.1
   ·exact aaU e y v hv
  ·exact DN h.2 v hv
def LkO(H H':List TObj)(l:Nat):Prop:=∀j,j≠l→bV j (nth .dead H' j)=bV j (nth .dead H j)∧∀z,bI j z (nth .dead H' j)=bI j z (nth .dead H j)
section
variable {H H':List TObj}{l:Nat}
theorem aea(hk:LkO H H' l):Lks aT (eF (Bz H.length) (au H).length) (xD l H.length) H H':=by
 have ok:∀j,xD l H.length j=true→j<H.length∧j≠l:=fun j h=>by
  unfold xD at h;simp only[qAa]at h;exact⟨qAf h.1,CJ h.2⟩
 have nm:∀j,xD l H.length j=true→eF (Bz H.length) (au H).length j=j:=fun j h=>Yu (ok j h).1;refine⟨nm,fun j h=>?_,fun j z h=>?_⟩
 ·rw[(hk j (ok j h).2).1];show bV j (nth .dead H j)=_;cases nth .dead H j<;>simp only[bV,ren,mg,iq,nm j h]
 ·rw[(hk j (ok j h).2).2 z];show bI j z (nth .dead H j)=_;cases nth .dead H j<;>simp only[bI,ren,nm j h]
theorem GJ(hk:LkO H H' l){v:TV}(h1:F8 H.length v=true)(h2:lN l v=true):VW (au H) (Bz H.length) (av H' v) (av H v):=by
 have:=zl (aea hk) v (D7 l H.length v h1 h2);rw[M5]at this;exact .same this.symm
theorem adL(hk:LkO H H' l){v:TV}(h1:F8 H.length v=true):VW (au H) (Bz H.length) (av H' (bif lN l v then v else .unk)) (av H v):=by
 cases h:lN l v with
 |true=>exact GJ hk h1 h
 |false=>exact .unk _
end
theorem XL{γ:Type}{b:γ}{m l bx off:Nat}{s:DS}{K:DS→Option γ}(hm:m≤s.h.length)(hi:Inv s)(h:ctK l bx off s K=some b):∃s',K s'=some b∧Fr s s'∧Inv s'∧Le m (aI s.h s.t) (au s.h) (aI s'.h s'.t) (au s'.h):=by
 unfold ctK at h;split at h
 ·rename_i e xs cs hl hb;obtain⟨a,r,hf1,hf2,h⟩:=qo _ _ _ _ h;split at h
  ·rename_i l' z c r;rw[DK]at h;obtain⟨hc,h⟩:=(aM h).resolve_right fun h=>by cases h.2
   obtain⟨hc2,h⟩:=(aM h).resolve_right fun h=>by cases h.2
   rw[iy,iy]at h;simp only[qAa]at hc;obtain⟨⟨q1,q2,q3⟩,q4,q5,q6⟩:=hc;have q1:l'=l:=qAc q1;subst q1;have hcx:c≤xs.length:=qAf hc2;have hne:l'≠bx:=fun e=>by subst e;rw[hl]at hb;cases hb
   have hll:l'<s.h.length:=by
    apply qAm;intro hn;rw[gD (by omega)]at hl;cases hl
   have hbl:bx<s.h.length:=by
    apply qAm;intro hn;rw[gD (by omega)]at hb;cases hb
   refine⟨_,h,?_,?_,?_⟩
   ·refine⟨Mw _ _,by simp,fun k hk=>?_,fun p hp=>?_,rfl,fun i hi hno=>?_⟩
    ·have hk:k∉EM l' 0 s.t++s.d:=hk;rw[qAy,not_or]at hk;refine⟨hk.2,?_⟩;show nth .unk (Ec l' s.t) k=_;rw[qz,GX (j:=0) (by rw[qAu];exact hk.1)];rfl
    ·exact qAk _ (qAk _ hp)
    ·have hno:(i,0)∉(l',0)::(bx,off+1)::s.o:=hno;rw[qAh,not_or]at hno;have hil:l'≠i:=fun e=>hno.1 (by rw[e]);by_cases hib:bx=i
     ·subst hib;refine .inr ⟨cs,a++ .psl l' z none::r,hb,by rw[aW (by rw[qAD];exact hbl)],?_,fun q hq=>?_⟩
      ·rw[hf1,nG];simp only[aB,qAj];rfl
      ·have hq:decide ((bx,q+1)∈(l',0)::(bx,off+1)::s.o)=false:=hq;have hqo:q≠off:=fun e=>by subst e;simp at hq
       rw[hf1,nG];by_cases hlt:q<off
       ·rw[qAe (by omega),qAe (by omega)]
       ·rw[qAg (by omega),qAg (by omega)];simp only[aB,AA,qAH,qAC];obtain⟨k,hk⟩:∃k,q - (aB a).length=k+1:=⟨q - (aB a).length - 1,by omega⟩;rw[hk];rfl
     ·refine .inl ?_;show nth .dead ((s.h.set l' _).set bx _) i=_;rw[aL hib,aL hil]
   ·refine⟨fun i k a h1 h2=>?_,fun d i j h1 k a h2=>?_,fun d x h1=>?_⟩
    ·have h2:iT (nth .unk (Ec l' s.t) i)=some (k,a):=h2;rw[qz]at h2;refine hi.up i k a h1 ?_;cases hn:lN l' (nth .unk s.t i)<;>rw[hn]at h2<;>first|exact h2|cases h2
    ·have h2:iT (nth .unk (Ec l' s.t) i)=some (k,a):=h2;rw[qz]at h2;have h3:iT (nth .unk s.t i)=some (k,a):=by
      cases hn:lN l' (nth .unk s.t i)<;>rw[hn]at h2<;>first|exact h2|cases h2
     obtain⟨c,g1,g2⟩:=hi.rl d i j h1 k a h3;refine⟨c,?_,fun b hb=>g2 b ?_⟩
     ·show iT (nth .unk (Ec l' s.t) j)=_;have:lN l' (nth .unk s.t j)=true:=by
       revert g1;generalize nth .unk s.t j=v;intro g1
       cases v<;>first|rfl|cases g1
      rw[qz,this];exact g1
     ·have hb:nth .unk (Ec l' s.t) d=.lf .b b:=hb;rw[qz]at hb;cases hn:lN l' (nth .unk s.t d)<;>rw[hn]at hb<;>first|exact hb|cases hb
    ·show nth .unk (Ec l' s.t) d=nth .unk (Ec l' s.t) x;rw[qz,qz,hi.cp d x h1]
   ·have hk:LkO s.h ((s.h.set l' (.arr e (xs.take c))).set bx (.box (a++ .psl l' z none::r))) l':=fun j hj=>by
     by_cases e2:bx=j
     ·subst e2;rw[aW (by rw[qAD];exact hbl),hb];exact⟨rfl,fun _=>rfl⟩
     ·rw[aL e2,aL (qBd hj)];exact⟨rfl,fun _=>rfl⟩
    refine Le.of (Bz s.h.length) ⟨?_,?_,fun i hi=>MS (by omega),?_,?_,fun n=>?_,?_,?_⟩
    ·simp only[qw,Mw]
    ·simp[Bz,au]
    ·intro i j k h1 h2 _ _;have:=(zx h1).2;have:=(zx h2).2
     simp_all
    ·intro i k h1;obtain⟨h2,h3⟩:=zx h1;cases h3;simpa[au]using h2
    ·rw[qy,qy];show VW _ _ (av _ (nth .unk (Ec l' s.t) n)) _;rw[qz];refine adL hk ?_;by_cases hn:n<s.t.length
     ·refine Lf q5 _ ?_;rw[dF,List.getD,qAd hn];exact qAV hn
     ·rw[gD (by omega)];rfl
    ·intro i k h1;obtain⟨h2,h3⟩:=zx h1;cases h3;rw[fC,fC];show OW _ _ (bY _ (nth .dead ((s.h.set l' (.arr e (xs.take c))).set bx (.box (a++ .psl l' z none::r))) i)) _;by_cases e2:bx=i
     ·subst e2;rw[aW (by rw[qAD];exact hbl),hb];have hrf:=ze ((mV q6).2 cs hb);rw[hf1]at hrf;refine CX (by rw[nG,hf1];simp only[aB,qAj];rfl) fun q hq=>?_;rw[hf1,nG];have cell:∀v,v∈aB a∨v∈aB r→VW (au s.h) (Bz s.h.length) (av ((s.h.set l' (.arr e (xs.take c))).set bx (.box (a++ .psl l' z none::r))) v) (av s.h v):=fun v hv=>by
       rcases hv with hv|hv
       ·exact GJ hk (hrf v (qBk _ hv)) (DN q2 v hv)
       ·exact GJ hk (hrf v (qBo _ (by simp only[aB,qAy];exact .inr hv))) (DN q3 v hv)
      simp only[List.getD];by_cases hlt:q<(aB a).length
      ·rw[qAe hlt,qAe hlt,qAd hlt];exact cell _ (.inl (qAV hlt))
      ·rw[qAg (by omega),qAg (by omega)];simp only[aB,AA,qAH,qAC];generalize q - (aB a).length=k;cases k with
       |zero=>
        simp only[qAE,qAs];refine .same ?_;simp only[av,aL (qBd hne),aW hll,bI,ren,Yu hll,qAw,Nat.min_eq_left hcx]
       |succ k=>
        simp only[qBh];cases hg:(aB r)[k]? with
        |none=>exact .unk _
        |some v=>exact cell v (.inr (qAA hg))
     ·rw[aL e2];by_cases e3:l'=i
      ·subst e3;rw[aW hll,hl];refine OW.arr (n:=c) ?_;rw[iq,List.map_take]
      ·rw[aL e3];cases ho:nth .dead s.h i with
       |box cs2=>
        have hna:jJ l' cs2=true:=MX (j:=0) (k:=i) (by
         intro hm;rw[qAu]at hm;have:=qAG.1 q4 _ hm;exact e2 (qAc this).symm) cs2 ho
        have hrf:=ze ((mV q6).2 cs2 ho);refine CX rfl fun q hq=>?_;rw[List.getD,qAd hq];exact GJ hk (hrf _ (qAV hq)) (DN hna _ (qAV hq))
       |own e xs=>exact .tip _
       |gone e xs=>exact .dead _
       |mp e xs=>exact .same rfl (by simp only[bY,bD,yP])
       |arr e xs=>exact .same rfl (by simp only[bY,bD,iq])
       |gon n=>exact .dead _
       |dead=>exact .dead _
       |res=>exact((mV q6).1 ho).elim
    ·intro i h1;cases(zx h1).2
  ·cases h
 ·cases h
theorem YB{γ:Type}{b:γ}{m:Nat}{hn:Option Hn}{s:DS}{K:DS→Option γ}(hm:m≤s.h.length)(hi:Inv s)(h:XI m hn s K=some b):∃s',K s'=some b∧Fr s s'∧Inv s'∧Le m (aI s.h s.t) (au s.h) (aI s'.h s'.t) (au s'.h):=by
 unfold XI at h;split at h
 ·exact Nf _ _ _ hm hi h
 ·exact XL hm hi h
 ·exact⟨s,h,Fr.refl s,hi,fun _ κ _ _ _ hs=>⟨κ,hs⟩⟩
theorem ae9{γ:Type}{b:γ}{m:Nat}{hn:Option Hn}{s:DS}{K:DS→Option γ}(hm:m≤s.h.length)(hi:Inv s)(h:YD m hn s K=some b):∃s',K s'=some b∧Fr s s'∧Inv s'∧Le m (aI s.h s.t) (au s.h) (aI s'.h s'.t) (au s'.h):=by
 unfold YD at h;split at h
 ·exact XL hm hi h
 ·exact Nf _ _ _ hm hi h
 ·exact⟨s,h,Fr.refl s,hi,fun _ κ _ _ _ hs=>⟨κ,hs⟩⟩
end
section
open Go
def ku(P:Program)(te:Nat):Bool:=match P.underlying te with
 |some (.int _)=>true
 |_=>false
theorem acN{P:Program}{o:Oper}{s:ASt}{te:Nat}{e:Int}(hte:ku P te=true)(ho:o.op=.makeInterface te (.const (.int .i64 e))):kD P o s (s.wr (ah o.dst (.ifc te (.int .i64 e)))):=
 gB fun C κ a w hs=>by
  refine⟨.iface te (.int .i64 e),κ,w,?_,hs.ah o.dst (.ifc _ _)⟩;unfold ku at hte;split at hte
  ·rename_i k hk;simp[execOp,ho,Instr.makeInterface,underlying,hk,Act.eval]
  ·cases hte
theorem XO{P:Program}{o:Oper}{s:ASt}{x:Operand}{t:Nat}{v:Value}(ho:o.op=.panic x)(hx:aN s.tmps x=.ifc t v):OpX P o (.iface t v) s s:=by
 intro C κ a w hs next Q hn
 have hr:=hs.ev x;rw[hx]at hr;have he:a.eval x=.iface t v:=by
  generalize a.eval x=u at hr;cases hr;rfl
 unfold Oper.wp;have hrun:(execOp a.eval o).run P w=.halt (.panic (.iface t v)) w:=by
  simp[execOp,ho,he,Instr.panic]
 rw[hrun];exact hn κ w hs
theorem ads{te:Nat}{T:List TV}{l:List Oper}{e:Int}(h:Na te T l=some e):∃o1 o2 d,d<T.length∧l=[o1,o2]∧o1.op=.makeInterface te (.const (.int .i64 e))∧o1.dst=some d∧o1.guard=none∧o2.op=.panic (.tmp d)∧o2.dst=none∧o2.guard=none:=by
 unfold Na at h;split at h
 ·rename_i o1 o2;split at h
  ·rename_i t e' d h1 h2 h3;split at h
   ·rename_i d' h4 h5 h6;rcases aM h with⟨hc,h⟩|⟨_,h⟩
    ·cases h;simp only[qAa]at hc;have e1:=qAc hc.1;have e2:=qAc hc.2.1;subst e1;subst e2;exact⟨o1,o2,d,qAf hc.2.2,rfl,h1,h2,h3,h4,h5,h6⟩
    ·cases h
   ·cases h
  ·cases h
 ·cases h
theorem aaZ{P:Program}{te m id:Nat}{l:List Oper}{e:Int}{Q:QT}{t:List AV}{h:List AObj}(hte:ku P te=true){T:List TV}(hp:Na te T l=some e)(hd:t.length=T.length)(hq:∀t',Q (jk (tQ te e)) t' h):AW P m (.region id l.toArray false) Q t h:=by
 obtain⟨o1,o2,d,hdT,hl,g1,g2,g3,g4,g5,g6⟩:=ads hp;subst hl;intro C κ a w hk hs;have hw1:bq [o1,o2].toArray t o1=some true:=by unfold bq;rw[g3]
 have hw2:bq [o1,o2].toArray (t.set d (.ifc te (.int .i64 e))) o2=some true:=by unfold bq;rw[g6]
 have st1:kD P o1 ⟨t,h⟩ ⟨t.set d (.ifc te (.int .i64 e)),h⟩:=by
  have:=acN (P:=P) (o:=o1) (s:=⟨t,h⟩) hte g1;rw[g2]at this;exact this
 have hx:aN (t.set d (.ifc te (.int .i64 e))) (.tmp d)=.ifc te (.int .i64 e):=by
  show(t.set d _).getD d .unk=_
  grind
 refine wp_region_lit (xV (l1:=[o1]) (op:=o2) (l2:=[]) (.cons (.inl ⟨hw1,st1⟩) (.nil _)) hw2 (XO g4 hx) C κ a w hs fun κ' a' w' hs'=>⟨⟨t.set d (.ifc te (.int .i64 e)),h⟩,κ',hq _,hs'⟩)
end
section
open Go
theorem adn(H:List TObj)(c l:Nat):Lk H (H++List.replicate c .dead) l:=by
 unfold Lk;by_cases hl:l<H.length
 ·rw[gF hl];exact⟨rfl,fun _=>rfl⟩
 ·rw[gD (by omega:H.length≤l)];have:nth .dead (H++List.replicate c .dead) l=.dead:=by
   rw[dF,List.getD,qAg (by omega),qBi]
   grind
  rw[this];exact⟨rfl,fun _=>rfl⟩
theorem YH(H:List TObj)(c:Nat):au (H++List.replicate c .dead)=au H++List.replicate c .dead:=by
 unfold au;rw[qAY,qCa];congr 1;exact qAZ fun o _=>(Q7 o fun cs _ l _=>adn H c l).symm
theorem ada{a b c d:List Eff}(h:Sms a b)(k:Sms c d):Sms (a++c) (b++d):=by
 induction h with
 |nil=>exact k
 |cons h _ ih=>exact .cons h ih
theorem Vb{a b:List Eff}(h:Sms a b):a.length=b.length:=by
 induction h with
 |nil=>rfl
 |cons _ _ ih=>simp[ih]
theorem aeV{a b:List Eff}(h:Sms a b):∀i,cZ (a.getD i dX).ws=cZ (b.getD i dX).ws:=by
 induction h with
 |nil=>intro i;rfl
 |cons h _ ih=>
  intro i;cases i with
  |zero=>exact h.wo
  |succ i=>simpa using ih i
theorem VK{P:Program}{id m n0 N:Nat}{l1 l2:List Oper}{op:Oper}{es1 late:List Eff}{ep:Eff}{v:Value}{Q:QT}{s0 s1:ASt}{h':List AObj}(hm:P.follows .mixedOrders=true)
  (g1:ATr P (l1++op::l2).toArray l1 es1 (s0.reserve N) s1) (g3:xU P (l1++op::l2).toArray op v s1 ep) (hlate:late.length=l2.length)
  (k4:∀i o e,l2[i]? =some o→late[i]? =some e→l1.length∉(jq (l1++op::l2) []).getD (l1.length+1+i) []→qd P (l1++op::l2).toArray o (s1.wr (aG (fun j=>decide (j<i)) 0 late)) e)
  (hok:eX (l1++op::l2) (es1++ep::late)=true)
  (hw:∀i,i<(es1++ep::late).length→i≠l1.length→∀n∈cZ ((es1++ep::late).getD i dX).ws,n0≤n∨(i<l1.length∧i∈(jq (l1++op::l2) []).getD l1.length []))
  (hl:h'.length=s1.heap.length) (ho:∀n,(n<n0∧obj? h' n=obj? (s1.wr ep.ws).heap n)∨obj? h' n=.dead)
  (hq:Q (.panic [{v,recovered:=false}]) (List.replicate s1.tmps.length .unk) h'):AW P m (.region id (l1++op::l2).toArray true) Q s0.tmps s0.heap:=by
 intro C κ a w _ hs;refine wp_region_any hm ?_;have hr:=(Sim.reserve (s:=s0) hs N).sameHeap (w':={w with drawn:=w.drawn+1}) rfl rfl rfl rfl;obtain⟨hlen,hs',heff⟩:=g1.spec;have e0:∀D:Nat→Bool,(∀j,j<l1.length→D j=true)→D l1.length=false→(∀j,l1.length<j→D j=false)→aG D 0 (es1++ep::late)=aG (fun _=>true) 0 es1:=fun D h1 h2 h3=>by
  rw[AP,qAu,yV (ep::late) es1.length (fun i _=>by
   rw[←hlen];cases i with
   |zero=>exact h2
   |succ i=>exact h3 _ (by omega)),qAt]
  exact oF es1 0 0 fun i hi=>by rw[qAu];exact h1 i (by omega)
 have hfl:aG (fun i=>(Array.replicate (l1++op::l2).length false).getD i false) 0 (es1++ep::late)=[]:=yV _ _ fun i _=>by simp[Array.getD]
 have hx:xU P (l1++op::l2).toArray op v ((s0.reserve N).wr (aG (fun j=>decide (j<l1.length)) 0 (es1++ep::late))) ep:=by
  rw[e0 _ (fun j h=>by simp[h]) (by simp) (fun j h=>by simp;omega),←hs'];exact g3
 have:=WY (q0:=l1.length) (es:=es1++ep::late) (C:=C) (Q:=fun e a' w'=>∃s'' κ',UO Q e s''∧Sim C κ' s'' a' w') (by simp[hlen,hlate]) (by simp) (by rw[hlen];simp)
  (fun i o e hne hfree hio hie=>by
   rcases qCo hne with h|h
   ·rw[qAe h]at hio;rw[qAe (by omega)]at hie;have:=heff i o e hio hie;rw[AP,yV (ep::late) _ (fun j _=>by simp;omega),qAt,oF es1 (D':=fun j=>decide (j<i)) 0 0 (fun j hj=>by simp;omega)];exact this
   ·obtain⟨j,rfl⟩:∃j,i=l1.length+1+j:=⟨i - l1.length - 1,by omega⟩;rw[qAg (by omega),show l1.length+1+j - l1.length=j+1 by omega,qBh]at hio;rw[qAg (by omega),show l1.length+1+j - es1.length=j+1 by omega,qBh]at hie;have:=k4 j o e hio hie hfree;have e1:aG (fun x=>decide (x<l1.length+1+j)&&!(x==l1.length)) 0 (es1++ep::late)=aG (fun _=>true) 0 es1++aG (fun x=>decide (x<j)) 0 late:=by
     rw[AP,oF es1 (D':=fun _=>true) 0 0 (fun x hx=>by simp;omega)];congr 1;simp only[aG,qAu,←hlen,beq_self_eq_true,qAT,qBU,qAI,if_false,qAC];exact oF late _ _ fun x hx=>by simp;omega
    rw[e1,lK,←hs'];exact this)
  hx hok (fun D κ' a' w' hD hD0 hs2=>⟨⟨List.replicate s1.tmps.length .unk,h'⟩,κ',hq,hs2.drop (by simp only[qAS,(aK _ _).1,hs']) (by rw[hl];simp only[(aK _ _).2,hs']) (fun n=>by grind) fun n=>by
   rcases ho n with⟨hn,e⟩|e
   ·left;show obj? h' n=_;rw[e,hs'];by_cases hnl:n<(s0.reserve N).heap.length
    ·have hb:∀x,n<((s0.reserve N).wr x).heap.length:=fun x=>by rw[(aK _ _).2];exact hnl
     rw[eT ep.ws n _ (hb _),eT ep.ws n _ (hb _),eT _ n _ hnl,eT _ n _ hnl];congr 2;rw[←e0 (fun j=>decide (j<l1.length)) (fun j h=>by simp[h]) (by simp) (fun j h=>by simp;omega)];refine lG _ 0 fun i f hi hwi=>?_;rw[qAu];by_cases hiq:i=l1.length
     ·subst hiq;rw[hD0];simp
     ·have hil:=(qAp.1 hi).1;rcases hw i hil hiq n (by rw[List.getD,hi];exact hwi)with h|⟨h1,h2⟩
      ·omega
      ·rcases hD i h2 with h|h
       ·rw[h];simp[h1]
       ·omega
    ·rw[obj?,obj?,qAo (by rw[(aK _ _).2,(aK _ _).2];omega),qAo (by rw[(aK _ _).2,(aK _ _).2];omega)]
   ·exact .inr e⟩)
  (l1++op::l2).length (Array.replicate (l1++op::l2).length false) _ a {w with drawn:=w.drawn+1} (by simp) (by simp) (by simp[Array.getD]) (fun j o _ hl=>by simp[Array.getD]at hl) (by rw[hfl];exact hr)
 grind
end
section
open Go
inductive Out{R γ:Type}(m:Nat)(h0:List TObj)(te:Nat)(pn:Int→DS→Option R)(ret:DS→Option R)(s:DS)(inj:R→Option γ)(k:Exit→DS→Option γ)(b:γ):QT
 |ret {s':DS} {r:R} {t:List AV} {h:List AObj}:Le m t h (aI s'.h s'.t) (au s'.h)→St m h0 s'→ret s'=some r→inj r=some b→Out m h0 te pn ret s inj k b .ret t h
 |jk {s':DS} {r:R} {v:Int} {t T:List AV} {h:List AObj}:Le m t h T (au s'.h)→St m h0 s'→pn v s'=some r→inj r=some b→Out m h0 te pn ret s inj k b (jk (tQ te v)) t h
 |go {e:Exit} {s':DS} {t:List AV} {h:List AObj}:Le m t h (aI s'.h s'.t) (au s'.h)→St m h0 s'→Fr s s'→k e s'=some b→Out m h0 te pn ret s inj k b e t h
theorem Le.refl(m:Nat)(t:List AV)(h:List AObj):Le m t h t h:=fun _ κ _ _ _ hs=>⟨κ,hs⟩
section
variable {P:Program}{E:List Ent}{θ:Nat→Option ET}{n:Nat}{R:Type}{hs:List (Nat×Hn)}{ret:DS→Option R}{m:Nat}{h0:List TObj}{te:Nat}{pn:Int→DS→Option R}
def SQ(P:Program)(E:List Ent)(θ:Nat→Option ET)(n:Nat)(R:Type)(hs:List (Nat×Hn))(te:Nat)(pn:Int→DS→Option R)(ret:DS→Option R)(m:Nat)(h0:List TObj)(code:Code):Prop:=
 ∀(γ:Type) (p:Nat) (s:DS) (inj:R→Option γ) (k:Exit→DS→Option γ) (b:γ),St m h0 s→exe ⟨TI.of P,θ,n,R,hs,m,te,pn⟩ E ret code γ p s inj k=some b→AW P m code (Out m h0 te pn ret s inj k b) (aI s.h s.t) (au s.h)
theorem JW{γ:Type}{s s1:DS}{inj:R→Option γ}{k:Exit→DS→Option γ}{b:γ}(hf:Fr s s1)(e:Exit)(t:List AV)(h:List AObj)(ho:Out m h0 te pn ret s1 inj k b e t h):Out m h0 te pn ret s inj k b e t h:=by
 cases ho with
 |ret h1 h2 h3 h4=>exact .ret h1 h2 h3 h4
 |jk h1 h2 h3 h4=>exact .jk h1 h2 h3 h4
 |go h1 h2 h3 h4=>exact .go h1 h2 (hf.trans h3) h4
theorem Wm(hE:∀e∈E,aF P te e)(hte:ku P te=true)(hmix:P.follows .mixedOrders=true)(id:Nat)(ops:Array Oper)(draw:Bool):SQ P E θ n R hs te pn ret m h0 (.region id ops draw):=by
 intro γ p s inj k b hst h;have h:(XI m (hint hs p) s fun s=>match Na te s.t ops.toList with
   |some e=>bif draw then none else(pn e s).bind inj
   |none=>tJ s.h 0 fun n'=>zO (TI.of P) θ E (pxD (TI.of P) θ draw ops.toList n' fun v s=>(pn v s).bind inj) ops.toList ops.toList n' [] {s with h:=s.h++l9 (mG ops.toList)} fun es s=>bif !draw ||eX ops.toList es then KQ s.h n' fun h=>YD m (hint hs p) {s with h:=h} fun s=>k .normal s else none)=some b:=h
 obtain⟨sz,h,fz1,fz2,fz3⟩:=YB hst.len hst.inv h;refine AW.le fz3 ((?_:AW P m (.region id ops draw) (Out m h0 te pn ret sz inj k b) (aI sz.h sz.t) (au sz.h)).mono (JW fz1));replace hst:=hst.step fz1 fz2;clear fz1 fz2 fz3
 revert h hst
 generalize sz=s;intro h hst;obtain⟨l⟩:=ops;cases hpr:Na te s.t l with
 |some e=>
  have h:(bif draw then none else(pn e s).bind inj)=some b:=by simpa only[hpr]using h
  cases draw with
  |true=>cases h
  |false=>
   obtain⟨r,h1,h2⟩:=ob h;refine aaZ hte hpr (qw _ _) fun t'=>?_;exact .jk (Le.refl _ _ _) hst h1 h2
 |none=>
  have h:(tJ s.h 0 fun n'=>zO (TI.of P) θ E (pxD (TI.of P) θ draw l n' fun v s=>(pn v s).bind inj) l l n' [] {s with h:=s.h++l9 (mG l)} fun es s=>bif !draw ||eX l es then KQ s.h n' fun h=>YD m (hint hs p) {s with h:=h} fun s=>k .normal s else none)=some b:=by simpa only[hpr]using h
  rw[DK]at h;have hres:bX {s with h:=s.h++l9 (mG l)}=(bX s).reserve (mG l):=by
   unfold bX ASt.reserve;simp only[Gw,zU]
  rcases MQ hE l _ _ _ _ (show Inv {s with h:=s.h++l9 (mG l)}from⟨hst.inv.up,hst.inv.rl,hst.inv.cp⟩) h with⟨es',res,s',g1,g2,g3,g4,g5,g6⟩|⟨l1,op,l2,es1,res1,ep,ep',kx,s1,s',c,g0,g1,g2,g3,ga,gb,g4,g5,gc,g6,g7,gd⟩
  ·simp only[List.reverse_nil,qAC]at g2;obtain⟨hok,g2⟩:=(aM g2).resolve_right fun h=>by cases h.2
   obtain⟨hh,c,t1,t2,t3⟩:=J2 _ _ _ g2;have hlen:s'.h.length=s.h.length+(l9 (mG l)).length:=by rw[g6];simp only[qAj]
   have hle:s.h.length≤hh.length:=t2 (by omega);have hfr:Fr s {s' with h:=hh}:=by
    refine⟨g4.tl,hle,g4.d,g4.om,g4.oo,fun l' hl hno=>?_⟩;have:=g4.o l' (by simp only[qAj];omega) hno;rw[gF hl]at this;rw[t1,gF (by omega)]at this;exact this
   have hq:Out m h0 te pn ret s inj k b .normal (bX s').tmps (bX s').heap:=by
    have hst2:=hst.step hfr ⟨g5.up,g5.rl,g5.cp⟩;obtain⟨sz,z1,z2,z3,z4⟩:=ae9 hst2.len hst2.inv t3;refine .go (s':=sz) ?_ (hst2.step z2 z3) (hfr.trans z2) z1;refine Le.trans ?_ z4;simp only[bX,t1,Gw,zU];exact U4 _ _ c
   rw[hres]at g1;refine AW.of ?_;cases draw with
   |false=>exact bf.region (l:=l) (s:=bX s) _ g1.steps hq
   |true=>exact bf.drawn (l:=l) (s:=bX s) _ hmix g1 (by rw[←Kg g3];simpa using hok) hq
  ·rw[hres]at g1;have hsl:s.h.length≤s'.h.length:=by rw[g7];simp only[qAj];omega
   have hst':St m h0 s':=by
    refine⟨g6,qAW hst.len hsl,fun l' hl hno=>?_⟩;rw[g5.oo]at hno⊢;have hno:(l',0)∉s'.o++s.oo:=hno;simp only[qAy,not_or]at hno;have hl2:l'<s.h.length:=qAF hl hst.len;have e1:=g5.o l' (by simp only[qAj];omega) hno.1;rw[gF hl2]at e1;refine uF.trans (h:=hst.ent l' hl ?_) (e1.mono (g:=fun q=>decide ((l',q+1)∈s'.o++s.oo)) fun q hq=>?_) fun q hq=>?_
    ·simp only[qAy,not_or];exact⟨fun hm=>hno.1 (g5.om _ hm),hno.2⟩
    ·simp only[decide_eq_false_iff_not,qAy,not_or]at hq⊢;exact hq.1
    ·simp only[decide_eq_false_iff_not,qAy,not_or]at hq⊢;exact⟨fun hm=>hq.1 (g5.om _ hm),hq.2⟩
   subst g0;cases draw with
   |false=>
    have g4:(pn c s').bind inj=some b:=g4;obtain⟨r,k1,k2⟩:=ob g4;have hX:=g3 _ ⟨rfl,rfl,fun _ _=>rfl,fun _ _=>rfl⟩;rw[←gb]at hX;intro C κ a w hk hs;exact wp_region_lit (xV g1.steps hX.1 hX.2 C _ a w (hs.reserve (mG (l1++op::l2))) fun κ' a' w' hs'=>⟨bX s',κ',.jk (Le.refl _ _ _) hst' k1 k2,hs'⟩)
   |true=>
    have hl1:res1.length=l1.length:=(Vb g2).trans g1.spec.1.symm;rw[qAt]at g4;have g4:Ch (TI.of P) θ (l1++op::l2) (fun q=>((jq (l1++op::l2) []).getD q []).contains res1.reverse.length) ((l1++op::l2).drop (res1.reverse.length+1)) (res1.reverse.length+1) kx [] s1 (fun late=>bif abb (l1++op::l2) s.h.length res1.reverse.length (res1.reverse.reverse++ep'::late) s'.h then(pn c (y8 s.h.length s')).bind inj else none)=some b:=g4;rw[qDj,qCk,hl1]at g4;have hdr:(l1++op::l2).drop (l1.length+1)=l2:=by rw[←qDa,qCr];rfl
    rw[hdr]at g4;obtain⟨late,res,k1,k2,k3,k4⟩:=Db _ _ _ _ _ _ gc g4;obtain⟨ht,k1⟩:=(aM k1).resolve_right fun h=>by cases h.2
    obtain⟨r,k1,k5⟩:=ob k1;rw[List.reverse_nil,qAC]at ht;simp only[abb,qAa]at ht;obtain⟨t1,t2,t3⟩:=ht;have hsm:Sms (res1++ep'::res) (es1++ep::late):=ada g2 (.cons ga k2);obtain⟨c2,hc2⟩:∃c2,s'.h=s'.h.take s.h.length++l9 c2:=⟨s'.h.length - s.h.length,by
     conv=>lhs;rw[←qCA s.h.length s'.h]
     congr 1;rw[yY];refine List.eq_replicate_iff.2 ⟨by simp,fun o ho=>?_⟩;have:=qAG.1 t2 o ho;unfold fA at this;split at this
     ·rfl
     ·cases this⟩
    have htl:(s'.h.take s.h.length).length=s.h.length:=by rw[qAw];omega
    have hO:∀n,n<s.h.length→obj? (au (y8 s.h.length s').h) n=obj? (au s'.h) n:=fun n hn=>by
     unfold y8;rw[hc2];simp only[List.take_append,htl,List.take_take,qDv,qDu,qBj,qAt,YH,zU];unfold obj?;rw[qAe (by simp only[au,qAi,htl];exact hn),qAe (by simp only[au,qAi,htl];exact hn)]
    refine VK (n0:=s.h.length) (N:=mG (l1++op::l2)) (s0:=bX s) (s1:=bX s1) (late:=late) (h':=au (y8 s.h.length s').h) hmix g1 g3 k3 (fun i o e h1 h2 h3=>k4 i o e h1 h2 (by simpa using h3)) (by rw[←Kg hsm];exact t1) (fun i hi hne n hn=>?_) ?_ (fun n=>?_) (.jk (Le.refl _ _ _) ?_ k1 k5)
    ·have h1:=qAG.1 t3 i (qBT.2 (by rw[Vb hsm];exact hi));rw[qBg]at h1;have h1:=h1.resolve_left fun h=>hne (qAc h);rw[aeV hsm]at h1;have h2:=qAG.1 h1 n hn;simp only[qBg,qAa,qCe,Nat.ble_eq,Nat.blt_eq]at h2;exact h2
    ·have:(y8 s.h.length s').h.length=s1.h.length:=by
      rw[gd,←g7];unfold y8;simp only[qAj,qAw,qAS];omega
     simp only[bX,au,qAi,this]
    ·by_cases hn:n<s.h.length
     ·left;refine⟨hn,?_⟩;rw[hO n hn,←gb];rfl
     ·right;rw[fC,dF,List.getD];unfold y8;rw[qAg (by rw[htl];omega),qBi];split<;>rfl
    ·refine⟨⟨fun i k c h1=>(by cases h1),fun d i j h1=>(by cases h1),fun d x h1=>(by cases h1)⟩,?_,fun l' hl hno=>?_⟩
     ·unfold y8;simp only[qAj,qAw,qAS];have:=hst.len;omega
     ·have e1:nth .dead (y8 s.h.length s').h l'=nth .dead s'.h l':=by
       have:=hst.len;unfold y8;rw[hc2];simp only[List.take_append,htl,List.take_take,qDv,qDu,qBj,qAt];rw[gF (by rw[htl];omega),gF (by rw[htl];omega)]
      rw[e1];exact hst'.ent l' hl hno
theorem acF{x y:Code}(hx:SQ P E θ n R hs te pn ret m h0 x)(hy:SQ P E θ n R hs te pn ret m h0 y):SQ P E θ n R hs te pn ret m h0 (.seq x y):=by
 intro γ p s inj k b hst h;have stJ:∀{eds:List Ed} (hw:bQ s.h.length [] [] eds=true) (z:eG (aR eds)),St m h0 (jF (jl x) eds s (bR _ z)):=fun hw z=>hst.step (yR hw z) (I8 hw z hst.inv);have stF:St m h0 (fresh s):=⟨⟨hst.inv.up,hst.inv.rl,hst.inv.cp⟩,hst.len,by
  intro l hl hno;exact hst.ent l hl (by simpa[fresh]using hno) |>.mono fun q hq=>by simpa[fresh]using hq⟩
 have plain:(exe ⟨TI.of P,θ,n,R,hs,m,te,pn⟩ E ret x γ (2*p) s inj fun e s=>match e with
    | .normal=>exe ⟨TI.of P,θ,n,R,hs,m,te,pn⟩ E ret y γ (2*p+1) s inj k
    |e=>k e s)=some b→AW P m (.seq x y) (Out m h0 te pn ret s inj k b) (aI s.h s.t) (au s.h):=fun h=>by
  refine AW.seq ((hx γ _ s inj _ b hst h).mono fun e t hh ho=>?_);cases ho with
  |ret h1 h2 h3 h4=>exact .ret h1 h2 h3 h4
  |jk h1 h2 h3 h4=>exact .jk h1 h2 h3 h4
  |@go _ s' _ _ h1 h2 h3 h4=>
   cases e with
   |normal=>exact AW.le h1 ((hy γ _ s' inj k b h2 h4).mono (JW h3))
   |exit id=>exact .go h1 h2 h3 h4
   |goto l=>exact .go h1 h2 h3 h4
   |ret=>exact .go h1 h2 h3 h4
   |panic c=>exact .go h1 h2 h3 h4
   |outgrown=>exact .go h1 h2 h3 h4
 have behind:∀{eds:List Ed} (hw:bQ s.h.length [] [] eds=true) (z:eG (aR eds)),exe ⟨TI.of P,θ,n,R,hs,m,te,pn⟩ E ret y γ (2*p+1) (jF (jl x) eds s (bR _ z)) inj k=some b→∀t hh,Le m t hh (aI (jF (jl x) eds s (bR _ z)).h (jF (jl x) eds s (bR _ z)).t) (au (jF (jl x) eds s (bR _ z)).h)→AW P m y (Out m h0 te pn ret s inj k b) t hh:=
  fun hw z h4 t hh hle=>AW.le hle ((hy γ _ _ inj k b (stJ hw z) h4).mono (JW (yR hw z)))
 have h:(match hint hs p with
   |some (.jn eds true)=>ru eds s <| Option.bind (exe ⟨TI.of P,θ,n,R,hs,m,te,pn⟩ E ret x (LR (eG (aR eds)) R) (2*p) (fresh s) (fun r=>some (.rt r)) fun e s'=>match e with
     | .normal=>um (jl x) eds s s' fun us=>ou (aR eds) us fun x=>some (.nx x)
     |_=>none) (LR.el (fun z=>uQ (jl x) eds s (bR (aR eds) z) fun s=>exe ⟨TI.of P,θ,n,R,hs,m,te,pn⟩ E ret y γ (2*p+1) s inj k) (fun r=>inj r))
   |some (.jn eds false)=>ru eds s <| Option.bind (exe ⟨TI.of P,θ,n,R,hs,m,te,pn⟩ E ret x (eG (aR eds)) (2*p) (fresh s) (fun _=>none) fun e s'=>match e with
     | .normal=>um (jl x) eds s s' fun us=>ou (aR eds) us fun x=>some x
     |_=>none) fun z=>uQ (jl x) eds s (bR (aR eds) z) fun s=>exe ⟨TI.of P,θ,n,R,hs,m,te,pn⟩ E ret y γ (2*p+1) s inj k
   |_=>exe ⟨TI.of P,θ,n,R,hs,m,te,pn⟩ E ret x γ (2*p) s inj fun e s=>match e with
    | .normal=>exe ⟨TI.of P,θ,n,R,hs,m,te,pn⟩ E ret y γ (2*p+1) s inj k
    |e=>k e s)=some b:=h
 split at h
 ·rename_i eds _;obtain⟨⟨w1,w2,w3⟩,h⟩:=AJ h;obtain⟨res,h1,h2⟩:=ob h;refine AW.seq ((hx _ _ (fresh s) _ _ res stF h1).mono fun e t hh ho=>?_);cases ho with
  |ret g1 g2 g3 g4=>cases g4;exact .ret g1 g2 g3 h2
  |jk g1 g2 g3 g4=>cases g4;exact .jk g1 g2 g3 h2
  |@go _ s' _ _ g1 g2 g3 g4=>
   cases e with
   |normal=>
    obtain⟨z,z1,z2⟩:=BA hst.len w1 w2 w3 g3 g4;cases z1;have h2:(uQ (jl x) eds s (bR (aR eds) z) fun s=>exe ⟨TI.of P,θ,n,R,hs,m,te,pn⟩ E ret y γ (2*p+1) s inj k)=some b:=h2;rw[G6]at h2;exact behind w3 z h2 t hh (g1.trans z2)
   |exit id=>cases g4
   |goto l=>cases g4
   |ret=>cases g4
   |panic c=>cases g4
   |outgrown=>cases g4
 ·rename_i eds _;obtain⟨⟨w1,w2,w3⟩,h⟩:=AJ h;obtain⟨res,h1,h2⟩:=ob h;refine AW.seq ((hx _ _ (fresh s) _ _ res stF h1).mono fun e t hh ho=>?_);cases ho with
  |ret g1 g2 g3 g4=>cases g4
  |jk g1 g2 g3 g4=>cases g4
  |@go _ s' _ _ g1 g2 g3 g4=>
   cases e with
   |normal=>
    obtain⟨z,z1,z2⟩:=BA hst.len w1 w2 w3 g3 g4;have e1:res=z:=(Option.some.inj z1).symm;rw[e1,G6]at h2;exact behind w3 z h2 t hh (g1.trans z2)
   |exit id=>cases g4
   |goto l=>cases g4
   |ret=>cases g4
   |panic c=>cases g4
   |outgrown=>cases g4
 grind
theorem Z8{x:Code}(hx:SQ P E θ n R hs te pn ret m h0 x):SQ P E θ n R hs te pn ret m h0 (.loop x):=by
 intro γ p s inj k b hst h;have h:(match hint hs p with
   |some (.lp hd e ex)=>ru hd s <| ru ex s <| um (jl x) hd s (fresh s) fun us=>ou (aR hd) us fun x0=>
     Option.bind (dz (δ:=LR (eG (aR ex)) R) (fun rec z=>uQ (jl x) hd (fresh s) (bR (aR hd) z) fun s1=>exe ⟨TI.of P,θ,n,R,hs,m,te,pn⟩ E ret x (LR (eG (aR ex)) R) (2*p) s1 (fun r=>some (.rt r)) fun e' s'=>match e' with
      | .normal=>um (jl x) hd s s' fun us=>ou (aR hd) us rec
      | .exit id=>bif Nat.beq id e then um (jl x) ex s s' fun us=>ou (aR ex) us fun y=>some (.nx y)else none
      |_=>none) n x0) (LR.el (fun y=>uQ (jl x) ex s (bR (aR ex) y) fun s=>k (.exit e) s) (fun r=>inj r))
   |_=>none)=some b:=h
 split at h
 case h_2=>cases h
 rename_i hd e ex _;obtain⟨⟨w1,w2,w3⟩,h⟩:=AJ h;obtain⟨⟨_,_,w4⟩,h⟩:=AJ h;have stF:St m h0 (fresh s):=⟨⟨hst.inv.up,hst.inv.rl,hst.inv.cp⟩,hst.len,by
  intro l hl hno;exact hst.ent l hl (by simpa[fresh]using hno) |>.mono fun q hq=>by simpa[fresh]using hq⟩
 obtain⟨x0,h1,hle0⟩:=BA hst.len w1 w2 w3 (Fr.refl (fresh s)) h;obtain⟨res,h2,h3⟩:=ob h1;generalize hbody:(fun(rec:eG (aR hd)→Option (LR (eG (aR ex)) R)) (z:eG (aR hd))=>uQ (jl x) hd (fresh s) (bR (aR hd) z) fun s1=>exe ⟨TI.of P,θ,n,R,hs,m,te,pn⟩ E ret x (LR (eG (aR ex)) R) (2*p) s1 (fun r=>some (.rt r)) fun e' s'=>match e' with
      | .normal=>um (jl x) hd s s' fun us=>ou (aR hd) us rec
      | .exit id=>bif Nat.beq id e then um (jl x) ex s s' fun us=>ou (aR ex) us fun y=>some (.nx y)else none
      |_=>none)=body at h2
 let J:eG (aR hd)→DS:=fun z=>jF (jl x) hd (fresh s) (bR _ z)
 have Jav:∀z,aI (J z).h (J z).t=aI (jF (jl x) hd s (bR _ z)).h (jF (jl x) hd s (bR _ z)).t∧au (J z).h=au (jF (jl x) hd s (bR _ z)).h:=fun z=>⟨rfl,rfl⟩;refine AW.loop (fun c t hh=>∃z,dz body c z=some res∧Le m t hh (aI (J z).h (J z).t) (au (J z).h)) (n:=n) ⟨x0,h2,hle0⟩ ?_;rintro c t hh ⟨z,hz,hle⟩;cases c with
 |zero=>cases hz
 |succ c=>
  have hz:body (dz body c) z=some res:=hz;rw[←hbody]at hz;simp only at hz;rw[hbody,G6]at hz;have stJ:St m h0 (J z):=stF.step (yR (s:=fresh s) w3 z) (I8 (s:=fresh s) w3 z stF.inv);refine AW.le hle ((hx _ _ (J z) _ _ res stJ hz).mono fun e' t' hh' ho=>?_);cases ho with
  |ret g1 g2 g3 g4=>cases g4;exact .ret g1 g2 g3 h3
  |jk g1 g2 g3 g4=>cases g4;exact .jk g1 g2 g3 h3
  |@go _ s' _ _ g1 g2 g3 g4=>
   have g3':Fr (fresh s) s':=(yR (s:=fresh s) w3 z).trans g3;cases e' with
   |normal=>
    obtain⟨z',z1,z2⟩:=BA hst.len w1 w2 w3 g3' g4;exact⟨c,qCy c,z',z1,g1.trans z2⟩
   |exit id=>
    simp only at g4;obtain⟨hid,g5⟩:=(aM g4).resolve_right fun h=>by cases h.2
    have hid:=qAc hid;clear g4;subst hid;obtain⟨y,z1,z2⟩:=BA hst.len w1 w2 w4 g3' g5;cases z1;have h3:(uQ (jl x) ex s (bR (aR ex) y) fun s=>k (.exit id) s)=some b:=h3;rw[G6]at h3;exact .go (g1.trans z2) (hst.step (yR w4 y) (I8 w4 y hst.inv)) (yR w4 y) h3
   |goto l=>cases g4
   |ret=>cases g4
   |panic c=>cases g4
   |outgrown=>cases g4
theorem BM(hE:∀e∈E,aF P te e)(hte:ku P te=true)(hmix:P.follows .mixedOrders=true)(code:Code):SQ P E θ n R hs te pn ret m h0 code:=by
 induction code with
 |skip=>intro γ p s inj k b hst h;exact AW.skip (.go (Le.refl _ _ _) hst (Fr.refl s) h)
 |region id ops draw=>exact Wm hE hte hmix id ops draw
 |seq x y hx hy=>exact acF hx hy
 |cond c x y hx hy=>
  intro γ p s inj k b hst h;have h:(match bT s.t c with
   | .lf .b b=>_root_.cond b (exe ⟨TI.of P,θ,n,R,hs,m,te,pn⟩ E ret x γ (2*p) (wY c s) inj k) (exe ⟨TI.of P,θ,n,R,hs,m,te,pn⟩ E ret y γ (2*p+1) s inj k)
   |_=>none)=some b:=h
  split at h
  ·rename_i q hq;refine AW.vf fun hv=>AW.cond (b:=q) (by rw[aU,hq];rfl) (fun e=>?_) fun e=>?_
   ·subst e;obtain⟨e1,e2,e3,e4,e5,_⟩:=OC c s;have hi:=Z6 hst.inv hq hv;have:=hx γ _ (wY c s) inj k b ⟨hi,by rw[e2];exact hst.len,by rw[e4,e5,e2];exact hst.ent⟩ h;rw[e1,e2]at this;exact this.mono fun e t hh ho=>by
     cases ho with
     |ret h1 h2 h3 h4=>exact .ret h1 h2 h3 h4
     |jk h1 h2 h3 h4=>exact .jk h1 h2 h3 h4
     |go h1 h2 h3 h4=>exact .go h1 h2 (acP h3 e1 e2 e3 e4 e5) h4
   ·subst e;exact hy γ _ s inj k b hst h
  ·cases h
 |block id x hx=>
  intro γ p s inj k b hst h;refine AW.block ((hx γ (2*p) s inj _ b hst h).mono fun e t hh ho=>?_);cases ho with
  |ret h1 h2 h3 h4=>exact .ret h1 h2 h3 h4
  |jk h1 h2 h3 h4=>exact .jk h1 h2 h3 h4
  |@go _ s' _ _ h1 h2 h3 h4=>
   cases e with
   |exit id'=>
    have h4:(bif Nat.beq id' id then k .normal s' else k (.exit id') s')=some b:=h4;refine Zl (fun he=>?_) fun he=>?_
    ·have he:id'=id:=by simpa using he
     subst he;rw[je,cond_true]at h4;exact .go h1 h2 h3 h4
    ·have he:id'≠id:=by simpa using he
     have hb:Nat.beq id' id=false:=by
      cases hb:Nat.beq id' id with
      |false=>rfl
      |true=>exact(he (qAc hb)).elim
     rw[hb,cond_false]at h4;exact .go h1 h2 h3 h4
   |normal=>exact .go h1 h2 h3 h4
   |goto l=>exact .go h1 h2 h3 h4
   |ret=>exact .go h1 h2 h3 h4
   |panic c=>exact .go h1 h2 h3 h4
   |outgrown=>exact .go h1 h2 h3 h4
 |loop x hx=>exact Z8 hx
 |exit id=>intro γ p s inj k b hst h;exact AW.exit (.go (Le.refl _ _ _) hst (Fr.refl s) h)
 |ret=>
  intro γ p s inj k b hst h;obtain⟨sz,h,fz1,fz2,fz3⟩:=YB hst.len hst.inv h;obtain⟨r,h1,h2⟩:=ob h;exact AW.le fz3 (AW.ret (.ret (Le.refl _ _ _) (hst.step fz1 fz2) h1 h2))
 |_=>intro γ p s inj k b hst h;cases h
end
end
section
open Go
def oH(P:Program)(rs:List ResultVar)(m:Nat)(T:List TV)(hJ:List TObj)(t:List AV)(h:List AObj):Prop:=
 ∃t1 h1 xs,Le m t h t1 h1∧mQ P ⟨t1,h1⟩ rs=some xs∧Le m xs h1 (aI hJ T) (au hJ)
def SF(P:Program)(rs:List ResultVar)(m:Nat)(T:List TV)(hJ:List TObj):QT
 | .normal,t,h=>oH P rs m T hJ t h
 | .ret,t,h=>oH P rs m T hJ t h
 |_,_,_=>False
theorem Jd{P:Program}{f:Nat}{fn:Func}{c:Code}{args:List AV}{H:List AObj}{T:List TV}{hJ:List TObj}(hf:P.funcs[f]? =some fn)(hb:fn.body=some c)(hlen:args.length≤fn.ntmps)(hJl:H.length≤hJ.length)
  (h:AW P H.length c (SF P fn.results.toList H.length T hJ) (args++List.replicate (fn.ntmps - args.length) (.tup [])) H):aP P f args H (av hJ (res1 T)) (au hJ):=by
 intro κ ak w vs hen hvl hr
 let C:Ctx:={ak:=ak,old:=fun b=>b<w.heap.size∧∀l,at? κ l=some b→¬live (obj? H l),w0:=w,k0:=κ,pvE:=aC ak κ H}
 refine calls_of_wp hf hb ?_;have hsim:Sim C κ ⟨args++List.replicate (fn.ntmps - args.length) (.tup []),H⟩ {tmps:=vs.toArray++Array.replicate (fn.ntmps - vs.toArray.size) undef,defers:=[]} w:=by
  refine⟨rfl,by simp[hvl],?_,hen.klen,bB.refl _,hen.resv,hen.obj,hen.apart,fun l b h1 h2 ho=>ho.2 l h1 h2,hen.bound,fun b o h=>⟨hen.pvlt b o h,fun l hl=>hen.pvdis b o l h hl⟩,fun b hb=>hb.1,fun _ _=>rfl,rfl,rfl,rfl,qAq _,fun _ _ h _=>h,Evo.refl _ _⟩;intro n hn;simp only[qAj,qAS]at hn;by_cases hlt:n<args.length
  ·have e1:(args++List.replicate (fn.ntmps - args.length) (AV.tup [])).getD n .unk=args.getD n .unk:=by simp[List.getD,qAe hlt]
   have e2:(vs.toArray++Array.replicate (fn.ntmps - vs.toArray.size) undef).getD n undef=vs.getD n undef:=by
    simp_all
   grind
  ·have e1:(args++List.replicate (fn.ntmps - args.length) (AV.tup [])).getD n .unk=.tup []:=by
    grind
   have e2:(vs.toArray++Array.replicate (fn.ntmps - vs.toArray.size) undef).getD n undef=undef:=by
    rw[qAn,qBy (by simp;omega),qCp];split<;>rfl
   rw[e1,e2];exact fM
 have hkl:C.k0.length≤H.length:=qBn hen.klen;refine wp_mono (h C κ _ w hkl hsim) ?_;rintro e a w' ⟨s,κf,hq,hs⟩;have fin:oH P fn.results.toList H.length T hJ s.tmps s.heap→a.defers=[]∧∃v,(results fn a.tmps).run P w'=.ok v w'∧∃v' κ',Ending.returned v=.returned v'∧Leave κ κ' ak H (au hJ) w w'∧Rel w' κ' (aC ak κ' (au hJ)) (av hJ (res1 T)) v':=by
  rintro⟨t1,h1,xs,q1,q2,q3⟩;obtain⟨κ1,hs1⟩:=q1 C κf a w' hkl hs;obtain⟨us,u1,u2,u3⟩:=vW hs1 _ _ q2;have hsX:Sim C κ1 ⟨xs,h1⟩ {tmps:=us.toArray,defers:=a.defers} w':={hs1 with
   len:=by simp[u1]
   slot:=fun n hn=>by have:=u2 n hn;simpa[qAn,List.getD]using this}
  obtain⟨κ',hs2⟩:=q3 C κ1 _ w' hkl hsX;have hleave:Leave κ κ' ak H (au hJ) w w':=by
   refine⟨hs2.klen,by simp only[au,qAi];exact hJl,hs2.kext,hs2.resv,hs2.obj,?_,hs2.apart,hs2.bound,fun b hb hnl=>hs2.old b ⟨hb,hnl⟩,hs2.evo,hs2.pvsub,hs2.os,hs2.tape,hs2.output⟩;intro l b h1 h2;have hno:=hs2.own l b h1 h2;by_cases hlt:b<w.heap.size
   ·right;apply qAm;intro hne;exact hno ⟨hlt,fun l0 h0 hlv=>hne ⟨l0,h0,hlv⟩⟩
   ·left;omega
  have hT:us.length=(aI hJ T).length:=by have:=hs2.len;simpa using this
  have hslot:∀n,n<(aI hJ T).length→Rel w' κ' (aC ak κ' (au hJ)) ((aI hJ T).getD n .unk) (us.getD n undef):=fun n hn=>by
   have:=hs2.slot n hn;simpa[qAn,List.getD]using this
  refine⟨hs1.defers,?_⟩;have hm:(fn.results.mapM (Bo a.tmps)).run P w'=.ok us.toArray w':=by
   rw[qBD];simp only[Sem.run_map,u3,Result.andThen_ok]
  rw[yx];simp only[Sem.run_bind,hm,Result.andThen_ok,Sem.run_pure];by_cases h1:us.length=1
  ·match us,h1 with
   |[u],_=>
    match T,hT with
    |[x],_=>
     refine⟨u,by simp,u,κ',rfl,hleave,?_⟩;have:=hslot 0 (by simp[aI]);simpa[aI,res1]using this
  ·refine⟨.tuple us.toArray,by simp[h1],_,κ',rfl,hleave,?_⟩;have hx:av hJ (res1 T)=.tup (aI hJ T):=by
    match T,hT with
    |[],_=>rfl
    |[x],h=>exact(h1 (by simpa[aI]using h)).elim
    |_::_::_,_=>rfl
   rw[hx];exact .tup hT hslot
 cases e with
 |normal=>exact fin hq
 |ret=>exact fin hq
 |exit id=>exact hq.elim
 |goto l=>exact hq.elim
 |panic c=>exact hq.elim
 |outgrown=>exact hq.elim
def abl(v:Value)(m:Nat)(H':List AObj):QT:=fun e t h=>e=jk v∧∃t1 h1,Le m t h t1 h1∧Le m [] h1 [] H'
theorem XH{P:Program}{f:Nat}{fn:Func}{c:Code}{args:List AV}{H H':List AObj}{v:Value}(hf:P.funcs[f]? =some fn)(hb:fn.body=some c)(hlen:args.length≤fn.ntmps)(hJl:H.length≤H'.length)
  (h:AW P H.length c (abl v H.length H') (args++List.replicate (fn.ntmps - args.length) (.tup [])) H):sD P f args H v H':=by
 intro κ ak w vs hen hvl hr
 let C:Ctx:={ak:=ak,old:=fun b=>b<w.heap.size∧∀l,at? κ l=some b→¬live (obj? H l),w0:=w,k0:=κ,pvE:=aC ak κ H}
 refine calls_of_wp hf hb ?_;have hsim:Sim C κ ⟨args++List.replicate (fn.ntmps - args.length) (.tup []),H⟩ {tmps:=vs.toArray++Array.replicate (fn.ntmps - vs.toArray.size) undef,defers:=[]} w:=by
  refine⟨rfl,by simp[hvl],?_,hen.klen,bB.refl _,hen.resv,hen.obj,hen.apart,fun l b h1 h2 ho=>ho.2 l h1 h2,hen.bound,fun b o h=>⟨hen.pvlt b o h,fun l hl=>hen.pvdis b o l h hl⟩,fun b hb=>hb.1,fun _ _=>rfl,rfl,rfl,rfl,qAq _,fun _ _ h _=>h,Evo.refl _ _⟩;intro n hn;simp only[qAj,qAS]at hn;by_cases hlt:n<args.length
  ·have e1:(args++List.replicate (fn.ntmps - args.length) (AV.tup [])).getD n .unk=args.getD n .unk:=by simp[List.getD,qAe hlt]
   have e2:(vs.toArray++Array.replicate (fn.ntmps - vs.toArray.size) undef).getD n undef=vs.getD n undef:=by
    simp_all
   grind
  ·have e1:(args++List.replicate (fn.ntmps - args.length) (AV.tup [])).getD n .unk=.tup []:=by
    grind
   have e2:(vs.toArray++Array.replicate (fn.ntmps - vs.toArray.size) undef).getD n undef=undef:=by
    rw[qAn,qBy (by simp;omega),qCp];split<;>rfl
   rw[e1,e2];exact fM
 have hkl:C.k0.length≤H.length:=qBn hen.klen;refine wp_mono (h C κ _ w hkl hsim) ?_;rintro e a w' ⟨s,κf,⟨he,t1,h1,q1,q2⟩,hs⟩;obtain⟨κ1,hs1⟩:=q1 C κf a w' hkl hs;have hsX:Sim C κ1 ⟨[],h1⟩ {tmps:=#[],defers:=a.defers} w':={hs1 with
  len:=rfl
  slot:=fun n hn=>by cases hn}
 obtain⟨κ',hs2⟩:=q2 C κ1 _ w' hkl hsX;subst he;refine⟨hs1.defers,κ',rfl,?_⟩;refine⟨hs2.klen,hJl,hs2.kext,hs2.resv,hs2.obj,?_,hs2.apart,hs2.bound,fun b hb hnl=>hs2.old b ⟨hb,hnl⟩,hs2.evo,hs2.pvsub,hs2.os,hs2.tape,hs2.output⟩;intro l b h1 h2;have hno:=hs2.own l b h1 h2
 grind
theorem Jj{P:Program}{γ:Type}{b:γ}{s:DS}:∀(rs:List ResultVar) (K:List TV→Option γ),Kj (TI.of P) s rs K=some b→∃vs,mQ P (bX s) rs=some (aI s.h vs)∧vs.length=rs.length∧K vs=some b
 |[],K,h=>⟨[],rfl,rfl,h⟩
 | .tmp t::r,K,h=>by
  obtain⟨vs,h1,h2,h3⟩:=Jj r _ h;exact⟨nth .unk s.t t::vs,by
   show(mQ P (bX s) r).map _=_;rw[h1,qAv];show some ((bX s).tmps.getD t .unk::aI s.h vs)=some (av s.h (nth .unk s.t t)::aI s.h vs);rw[show(bX s).tmps.getD t .unk=av s.h (nth .unk s.t t)from qy _ _ _],by simp[h2],h3⟩
 | .cell a t::r,K,h=>by
  simp only[Kj]at h;split at h
  ·rename_i l off ha;split at h
   ·rename_i cs hl;obtain⟨v,g1,g2⟩:=EL (H:=s.h) h;obtain⟨vs,h1,h2,h3⟩:=Jj r _ g2;refine⟨v::vs,?_,by simp[h2],h3⟩;have e1:(bX s).tmps.getD a .unk=.ptr l off:=by rw[show(bX s).tmps.getD a .unk=av s.h (nth .unk s.t a)from qy _ _ _,ha];rfl
    have e2:obj? (bX s).heap l=.box (aO s.h cs):=by rw[show obj? (bX s).heap l=bY s.h (nth .dead s.h l)from fC _ _,hl];rfl
    simp only[mQ,e1,e2,g1,h1,qAv,aI]
   ·cases h
  ·cases h
theorem Uo{l:List Nat}:∀{n:Nat},Xf l n=true→∀k,k<n→k∈l
 |0,_,k,h=>by omega
 |n+1,h,k,hk=>by
  simp only[Xf,qAa]at h;by_cases e:k=n
  ·subst e;exact mem_iff.1 h.1
  ·exact Uo h.2 k (by omega)
mutual
theorem af4(n:Nat):∀v,uG (fun l=>Nat.blt l n) v=F8 n v
 | .ptr _ _=>rfl| .mapr _=>rfl| .own _=>rfl| .psl _ _ _=>rfl| .ap _ _ _ _=>rfl
 | .eptr cs=>BN n cs
 | .agg cs=>BN n cs
 | .tup cs=>BN n cs
 | .func _ cs=>BN n cs
 | .unk=>rfl| .nilp=>rfl| .nilF=>rfl| .nils=>rfl| .lf _ _=>rfl| .nat _=>rfl
theorem BN(n:Nat):∀vs,iV (fun l=>Nat.blt l n) vs=dM n vs
 |[]=>rfl
 |v::vs=>by simp only[iV,dM,af4 n v,BN n vs]
end
theorem XP{n:Nat}:∀{h:List TObj},(∀l,nth .dead h l≠ .res∧∀cs,nth .dead h l=.box cs→dM n cs=true)→tY n h=true
 |[],_=>rfl
 |o::h,k=>by
  simp only[tY,qAa];refine⟨?_,XP fun l=>k (l+1)⟩;have:=k 0;change o≠ .res∧∀cs,o=.box cs→dM n cs=true at this
  grind
theorem DL:∀(es:List Ed) (us:List U) (T T':List TV) (hh:List TObj),T.length=T'.length→(∀k,k∉fq es→nth .unk T k=nth .unk T' k)→bE aT es us T hh=bE aT es us T' hh
 |[],us,T,T',hh,hl,h=>by
  have:T=T':=by
   apply qCv hl;intro i h1 h2;have:=h i (by simp[fq]);rw[dF,dF,List.getD,List.getD,qAd h1,qAd h2]at this;exact this
  rw[this]
 | .r k s::es,us,T,T',hh,hl,h=>by
  refine DL es _ _ _ _ (by simp[hl]) fun j hj=>?_;by_cases e:k=j
  ·subst e;by_cases hk:k<T.length
   ·rw[aW hk,aW (hl▸hk)]
   ·rw[gD (by rw[qAD];omega),gD (by rw[qAD];omega)]
  ·rw[aL e,aL e];exact h j (by simp only[fq,qAh,not_or];exact⟨fun x=>e x.symm,hj⟩)
 | .o l s::es,us,T,T',hh,hl,h=>DL es _ T T' _ hl h
 | .w s::es,us,T,T',hh,hl,h=>DL es _ T T' _ hl h
theorem CB:∀(es:List Ed) (us:List U) (T S:List TV) (hh:List TObj),(∀k∈fq es,k<T.length)→bE aT es us (T++S) hh=((bE aT es us T hh).1++S,(bE aT es us T hh).2)
 |[],us,T,S,hh,h=>rfl
 | .r k s::es,us,T,S,hh,h=>by
  simp only[bE];rw[List.set_append_left _ _ (h k (by simp[fq]))];exact CB es _ _ S hh fun j hj=>by rw[qAD];exact h j (by simp[fq,hj])
 | .o l s::es,us,T,S,hh,h=>CB es _ T S _ h
 | .w s::es,us,T,S,hh,h=>CB es _ T S _ h
theorem Rv(n k:Nat):dM n (bA k)=true:=by
 unfold bA
 induction k with
 |zero=>rfl
 |succ k ih=>simp only[qCH,dM,F8,ih,qCi]
theorem acw(H:List TObj)(c:Nat):aI H (List.replicate c (.tup []))=List.replicate c (.tup []):=by
 rw[kL,qCa];rfl
theorem Wz(o:TObj)(hd:HO)(us:List U)(h:∀is,hd≠ .bx is):(aS aT o hd us).1≠ .res:=by
 cases hd with
 |dead=>intro h;cases h
 |box cs=>intro h;cases h
 |bx is=>exact(h is rfl).elim
 |own e=>simp only[aS];split<;>simp
 |mp e=>simp only[aS];split<;>simp
 |arr e=>simp only[aS];split<;>simp
theorem GI{P:Program}{R:Type}{e:Ent}{rvs:List ResultVar}{inn:eG (aR e.rs)→Option R}{h r:List TV}{h0 h2:List TObj}{s:DS}{y:R}{out:R→eG (aR e.rs)}(hinn:∀z y,inn z=some y→out y=z)(edrs:bQ (aA e.ps) [] [] e.rs=true)
  (hn:h0.length=aA e.ps) (hH:tY (aA e.ps) h0=true) (hnr:e.nr=rvs.length) (hst:St (aA e.ps) h0 s) (hK:lW (TI.of P) (aA e.ps) rvs e.rs inn s=some y) (hb:bE aT e.rs (bR _ (out y)) (bA e.nr) h0=(r,h2)):
  oH P rvs (aA e.ps) r h2 (aI s.h s.t) (au s.h):=by
 obtain⟨vs,g1,g2,g3⟩:=Jj rvs _ hK;obtain⟨g4,g5⟩:=(aM g3).resolve_right fun h=>by cases h.2
 obtain⟨us,q1,q2⟩:=E9 (n:=aA e.ps) (m:=aA e.ps) (T0:=bA e.nr) hn (qAq _) (Rv _ _) hH edrs (by unfold bA;rw[qAS,g2,hnr]) hst.len
  (fun k _=>.inl (Gz _ _)) (Nj edrs g4 hst.ent) g5
 obtain⟨z,rfl,q3⟩:=yU q1;rw[hinn _ _ q3]at hb;exact⟨_,_,_,Le.refl _ _ _,g1,(q2 _ _ hb).2.2⟩
theorem Gt{R:Type}{ps eds:List Ed}{h0 h2:List TObj}{r:List TV}{s:DS}{v:Int}{y:RT (some eds) R}(edw:bQ (aA ps) [] [] eds=true)(hn:h0.length=aA ps)(hH:tY (aA ps) h0=true)(hst:St (aA ps) h0 s)
  (hK:CQ (R:=R) (aA ps) (some eds) v s=some y):∃z,y=PZ.er v z∧∀r h2,bE aT eds (bR _ z) (bA 0) h0=(r,h2)→Le (aA ps) [] (au s.h) [] (au h2):=by
 obtain⟨g4,g5⟩:=(aM hK).resolve_right fun h=>by cases h.2
 obtain⟨us,q1,q2⟩:=E9 (n:=aA ps) (m:=aA ps) (T0:=bA 0) (t':=[]) hn (qAq _) (Rv _ _) hH edw rfl hst.len (fun k _=>.inl (Gz _ _)) (Nj edw g4 hst.ent) g5;obtain⟨z,rfl,q3⟩:=yU q1;refine⟨z,(Option.some.inj q3).symm,fun r h2 hb=>?_⟩;obtain⟨e1,_,e3⟩:=q2 r h2 hb;have:r=[]:=qAR.1 e1;subst this;exact e3
theorem aak{P:Program}{te:Nat}{θ:Nat→Option ET}{n:Nat}{hs:List (Nat×Hn)}{E:List Ent}{fn:Func}{e:Ent}(inn:eG (aR e.rs)→Option e.R)(hte:ku P te=true)(hmix:P.follows .mixedOrders=true)(hwf:sP e=true)
  (hna:Nat.ble e.na fn.ntmps=true) (hE:∀e'∈E,aF P te e') (q:∀x,RB (TI.of P) θ n hs E te fn e inn x=e.F x) {x:eG (aR e.ps)} {y:RT e.pe e.R} (hF:e.F x=some y) {t:List TV} {h:List TObj} (hb1:bE aT e.ps (bR _ x) (bA e.na) []=(t,h)):
  h.length=aA e.ps∧t.length=e.na∧e.na≤fn.ntmps∧tY (aA e.ps) h=true∧∃c s0,fn.body=some c∧AW P (aA e.ps) c (Out (aA e.ps) h te (CQ (aA e.ps) e.pe) (fun s=>RT.ok e.pe (lW (TI.of P) (aA e.ps) fn.results.toList e.rs inn s)) s0 some (fun x s=>match x with
   | .normal=>RT.ok e.pe (lW (TI.of P) (aA e.ps) fn.results.toList e.rs inn s)
   |_=>none) y) (aI h t++List.replicate (fn.ntmps - e.na) (.tup [])) (au h):=by
 unfold sP at hwf;rw[qAa,qAa]at hwf;obtain⟨⟨hra,hwf⟩,hwp⟩:=hwf;rw[qAa]at hra;obtain⟨har,hal⟩:=hra;simp only[qAa]at hwf;obtain⟨edps,edrs,psok,rsok⟩:=hwf;have hal:∀k∈fq e.ps,k<e.na:=fun k hk=>qAf (qAG.1 hal k hk);have har:=Uo har;have hna:=qAf hna;rw[←q x]at hF;unfold RB at hF;cases hbody:fn.body with
 |none=>rw[hbody]at hF;cases hF
 |some c=>
  rw[hbody]at hF;simp only at hF;rw[zK]at hF;have typ:(bR (aR e.ps) x).map U.t=aR e.ps++[]:=by rw[vw,qAt]
  have B1:=kE e.ps (bR _ x) 0 [] [] (bA e.na) [] [] typ edps (qAq _) rfl;rw[hb1]at B1;simp only at B1;have hul:(bA e.na).length=e.na:=by unfold bA;rw[qAS]
  have htl:t.length=e.na:=by rw[B1.tl,hul]
  have hhl:h.length=aA e.ps:=by rw[B1.hl,qAu]
  -- the slots of the whole frame
  have two:bE aT e.ps (bR _ x) (List.replicate fn.ntmps (.tup [])) []=(t++List.replicate (fn.ntmps - e.na) (.tup []),h):=by
   rw[DL e.ps (bR _ x) (List.replicate fn.ntmps (.tup [])) (bA e.na++List.replicate (fn.ntmps - e.na) (.tup [])) [] (by rw[qAj,hul,qAS,qAS];omega) (fun k hk=>?_),
    CB e.ps (bR _ x) (bA e.na) _ [] (fun k hk=>by rw[hul];exact hal k hk),hb1]
   have hge:e.na≤k:=by
    apply qAm;intro hlt;exact hk (har k (by omega))
   rw[dF,dF,List.getD,List.getD,qAg (by rw[hul];exact hge),hul,qBi,qBi];by_cases hk2:k<fn.ntmps
   ·rw[if_pos hk2,if_pos (by omega)]
   ·rw[if_neg hk2,if_neg (by omega)]
  rw[two]at hF;simp only at hF;have hH:tY (aA e.ps) h=true:=XP fun l=>by
   by_cases hl:l<aA e.ps
   ·obtain⟨hd,us',e1,e2⟩:=B1.new l hl;rw[qAu]at e2;obtain⟨_,p2,p3⟩:=wN psok hd e1;rw[e2];refine⟨Wz _ hd us' p2,fun cs hc=>?_⟩;obtain⟨ss,rfl,rfl⟩:=FB p2 hc;rw[←BN];exact p9 (n:=aA e.ps) (ds:=[]) (fun l hl=>by simp only[qAa]at hl;exact hl.1) ss us' (p3 ss rfl)
   ·rw[gD (by omega)];exact⟨fun h=>(by cases h),fun cs h=>(by cases h)⟩
  have st0:St (aA e.ps) h ⟨t++List.replicate (fn.ntmps - e.na) (.tup []),h,[],[],[],[],[],[]⟩:=
   ⟨⟨fun i k c h1=>(by cases h1),fun d i j h1=>(by cases h1),fun d x h1=>(by cases h1)⟩,qBn hhl.symm,fun l _ _=>.inl rfl⟩
  have main:=BM (n:=n) (hs:=hs) (te:=te) (pn:=CQ (aA e.ps) e.pe) (ret:=fun s=>RT.ok e.pe (lW (TI.of P) (aA e.ps) fn.results.toList e.rs inn s)) (m:=aA e.ps) (h0:=h) hE hte hmix c _ 1 _ some _ y st0 hF;have ea:aI h (t++List.replicate (fn.ntmps - e.na) (.tup []))=aI h t++List.replicate (fn.ntmps - e.na) (.tup []):=by rw[kL,qAY,←kL,←kL,acw]
  simp only at main;rw[ea]at main;exact⟨hhl,htl,hna,hH,c,_,rfl,main⟩
theorem afn{P:Program}{te:Nat}{θ:Nat→Option ET}{n:Nat}{hs:List (Nat×Hn)}{E:List Ent}{fn:Func}{e:Ent}(inn:eG (aR e.rs)→Option e.R)(hte:ku P te=true)(hmix:P.follows .mixedOrders=true)(hf:P.funcs[e.f]? =some fn)(hok:gT P e.f=true)(hwf:sP e=true)
  (hna:Nat.ble e.na fn.ntmps=true) (hnr:e.nr=fn.results.toList.length) (hinn:∀z y,inn z=some y→e.out y=z) (hE:∀e'∈E,aF P te e') (q:∀x,RB (TI.of P) θ n hs E te fn e inn x=e.F x):aF P te e:=by
 refine⟨hok,hwf,fun x y hF t h hb1=>?_⟩;have hw0:=hwf;unfold sP at hwf;rw[qAa,qAa]at hwf;obtain⟨⟨_,hwf⟩,hwp⟩:=hwf;simp only[qAa]at hwf;obtain⟨edps,edrs,psok,rsok⟩:=hwf;obtain⟨hhl,htl,hnb,hH,c,s0,hbody,main⟩:=aak inn hte hmix hw0 hna hE q hF hb1;have hlH:(au h).length=aA e.ps:=by rw[au,qAi,hhl]
 -- a plain end
 have plain:∀(y0:e.R),(∀ex t' h',Out (aA e.ps) h te (CQ (aA e.ps) e.pe) (fun s=>RT.ok e.pe (lW (TI.of P) (aA e.ps) fn.results.toList e.rs inn s)) s0 some (fun x s=>match x with
   | .normal=>RT.ok e.pe (lW (TI.of P) (aA e.ps) fn.results.toList e.rs inn s)
   |_=>none) y ex t' h'→(ex=.normal∨ex=.ret)∧∃s',Le (aA e.ps) t' h' (aI s'.h s'.t) (au s'.h)∧St (aA e.ps) h s'∧lW (TI.of P) (aA e.ps) fn.results.toList e.rs inn s'=some y0)→
   ∀r h2,bE aT e.rs (bR _ (e.out y0)) (bA e.nr) h=(r,h2)→aP P e.f (aI h t) (au h) (av h2 (res1 r)) (au h2):=fun y0 hout r h2 hb2=>by
  refine Jd hf hbody (by rw[qw];omega) ?_ ?_
  ·have B2:=kE e.rs (bR _ (e.out y0)) (aA e.ps) [] [] (bA e.nr) h [] (by rw[vw,qAt]) edrs (qAq _) hhl;rw[hb2]at B2;rw[au,qAi,B2.hl];omega
  ·rw[hlH,qw,htl];refine main.mono fun ex t' hh' ho=>?_;obtain⟨hx,s',g1,g2,g3⟩:=hout ex t' hh' ho;obtain⟨t1,h1,xs,k1,k2,k3⟩:=GI (h:=t) hinn edrs hhl hH hnr g2 g3 hb2;rcases hx with rfl|rfl
   ·exact⟨t1,h1,xs,g1.trans k1,k2,k3⟩
   ·exact⟨t1,h1,xs,g1.trans k1,k2,k3⟩
 obtain⟨f,na,ps,nr,rs,R,pe,F,out⟩:=e;simp only at *;cases pe with
 |none=>
  refine plain y fun ex t' h' ho=>?_;cases ho with
  |ret g1 g2 g3 g4=>cases g4;exact⟨.inr rfl,_,g1,g2,g3⟩
  |jk g1 g2 g3 g4=>cases g3
  |go g1 g2 g3 g4=>
   cases ex with
   |normal=>exact⟨.inl rfl,_,g1,g2,g4⟩
   |exit id=>cases g4
   |goto l=>cases g4
   |ret=>cases g4
   |panic c=>cases g4
   |outgrown=>cases g4
 |some eds=>
  simp only[qAa]at hwp;obtain⟨_,edw,_,_⟩:=hwp;have mapok:∀{o:Option R} {r:RT (some eds) R},RT.ok (some eds) o=some r→∃y0,o=some y0∧r=PZ.ok y0:=fun{o r} h=>by
   cases o with
   |none=>cases h
   |some y0=>exact⟨y0,rfl,(Option.some.inj h).symm⟩
  match y,main,plain with
  |PZ.ok y0,main,plain=>
   refine plain y0 fun ex t' h' ho=>?_;cases ho with
   |ret g1 g2 g3 g4=>
    cases g4;obtain⟨y1,e1,e2⟩:=mapok g3;cases e2;exact⟨.inr rfl,_,g1,g2,e1⟩
   |jk g1 g2 g3 g4=>
    cases g4;obtain⟨z,e1,_⟩:=Gt (r:=[]) (h2:=[]) edw hhl hH g2 g3;cases e1
   |go g1 g2 g3 g4=>
    cases ex with
    |normal=>
     obtain⟨y1,e1,e2⟩:=mapok g4;cases e2;exact⟨.inl rfl,_,g1,g2,e1⟩
    |exit id=>cases g4
    |goto l=>cases g4
    |ret=>cases g4
    |panic c=>cases g4
    |outgrown=>cases g4
  |PZ.er v z,main,_=>
   show ∀r h',bE aT eds (bR _ z) (bA 0) h=(r,h')→sD P f (aI h t) (au h) (tQ te v) (au h');intro r h2 hb2;have B2:=kE eds (bR _ z) (aA ps) [] [] (bA 0) h [] (by rw[vw,qAt]) edw (qAq _) hhl;rw[hb2]at B2;refine XH hf hbody (by rw[qw];omega) (by rw[hlH,au,qAi,B2.hl];omega) ?_;rw[hlH,qw,htl];refine main.mono fun ex t' hh' ho=>?_;cases ho with
   |ret g1 g2 g3 g4=>
    cases g4;obtain⟨y1,e1,e2⟩:=mapok g3;cases e2
   |jk g1 g2 g3 g4=>
    cases g4;obtain⟨z',e1,e2⟩:=Gt (r:=[]) (h2:=[]) edw hhl hH g2 g3;cases e1;exact⟨rfl,_,_,g1,e2 r h2 hb2⟩
   |go g1 g2 g3 g4=>
    cases ex with
    |normal=>
     obtain⟨y1,e1,e2⟩:=mapok g4;cases e2
    |exit id=>cases g4
    |goto l=>cases g4
    |ret=>cases g4
    |panic c=>cases g4
    |outgrown=>cases g4
end
section
open Go
inductive EOs(P:Program)(te:Nat):List Ent→Prop
 |n:EOs P te []
 |c {e:Ent} {l:List Ent}:aF P te e→EOs P te l→EOs P te (e::l)
theorem EOs.all{P:Program}{te:Nat}{l:List Ent}(h:EOs P te l):∀e∈l,aF P te e:=by
 induction h with
 |n=>intro e he;cases he
 |c h _ ih=>intro e he;rcases qAh.1 he with rfl|he;exact h;exact ih e he
noncomputable def PX(P:Program)(fn:Func)(e:Ent):Bool:=gT P e.f&&(sP e&&(Nat.ble e.na fn.ntmps&&Nat.beq e.nr fn.results.toList.length))
theorem mkE{P:Program}{te:Nat}{τ:Nat→TI}{θ:Nat→Option ET}(hτ:τ=TI.of P)(hte:ku P te=true)(hmix:P.follows .mixedOrders=true){n:Nat}{hs:List (Nat×Hn)}{E:List Ent}{fn:Func}{e:Ent}{inn:eG (aR e.rs)→Option e.R}(hE:EOs P te E)(hf:P.funcs[e.f]? =some fn)(hc:PX P fn e=true)
  (hinn:∀z y,inn z=some y→e.out y=z) (q:∀x,RB τ θ n hs E te fn e inn x=e.F x):aF P te e:=by
 unfold PX at hc;simp only[qAa]at hc;subst hτ;exact afn inn hte hmix hf hc.1 hc.2.1 hc.2.2.1 (qAc hc.2.2.2) hinn hE.all q
theorem oQ{P:Program}{te:Nat}{fn:Func}{e:Ent}(hc:PX P fn e=true)(h:∀x,e.F x=none):aF P te e:=by
 unfold PX at hc;simp at hc;exact⟨hc.1,hc.2.1,fun x y hF=>by rw[h x]at hF;cases hF⟩
theorem sm{α:Type}:∀z y:α,some z=some y→y=z:=by grind
end
end Abs
end Go.Proofs.YtfmdmcenjfkbhaaGreatDoor
