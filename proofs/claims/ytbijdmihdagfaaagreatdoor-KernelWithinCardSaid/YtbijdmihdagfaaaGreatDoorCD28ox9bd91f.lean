/-
  Freezing objects of typed states. Conditions: none; lemmas.
-/
import Derived.Test.YtbijdmihdagfaaaGreatDoorCD21oxadda1c
set_option linter.all false
namespace Go.Proofs.YtbijdmihdagfaaaGreatDoor
namespace Abs
section
open Go
def Av(l N:Nat):List (Option Nat):=(List.range N).map fun i=>if i=l then none else some i
theorem SB{l N i:Nat}(h:i<N):(Av l N)[i]? =some (if i=l then none else some i):=by simp[Av,h]
theorem acQ{l N i:Nat}(h:N≤i):(Av l N)[i]? =none:=by simp[Av,h]
theorem anu(l N:Nat):(Av l N).length=N:=by simp[Av]
theorem GU{l N i j:Nat}(h:(Av l N)[i]? =some (some j)):i<N∧i≠l∧j=i:=by
 by_cases hi:i<N
 ·rw[SB hi]at h
  grind
 ·rw[acQ (by omega)]at h;cases h
theorem adj(l N:Nat):some l∉Av l N:=by
 intro h;obtain⟨i,hi⟩:=qAL h;obtain⟨_,h2,h3⟩:=GU hi
 grind
theorem ap2{l N i big:Nat}(h:i<N)(hne:i≠l):fT (Av l N) big i=i:=by unfold fT;rw[SB h,if_neg hne];rfl
mutual
theorem YX:∀v,dD bg v=v
 | .ptr _ _=>rfl| .mapr _=>rfl| .own _=>rfl| .psl _ _ _=>rfl| .ap _ _ _ _=>rfl
 | .eptr cs=>by simp only[dD,AZ cs]
 | .agg cs=>by simp only[dD,AZ cs]
 | .tup cs=>by simp only[dD,AZ cs]
 | .func _ cs=>by simp only[dD,AZ cs]
 | .unk=>rfl| .nilp=>rfl| .nilF=>rfl| .nils=>rfl| .lf _ _=>rfl| .nat _=>rfl
theorem AZ:∀vs,wz bg vs=vs
 |[]=>rfl
 |v::vs=>by simp only[wz,YX v,AZ vs]
end
theorem Ve(H:List TObj)(l:Nat):∀(os:List TObj) (j:Nat),(oZ H l j os).length=os.length
 |[],_=>rfl
 |o::os,j=>by simp only[oZ,qAu,Ve H l os]
theorem G5(H:List TObj)(l:Nat):∀(os:List TObj) (j i:Nat),nth .dead (oZ H l j os) i=if j+i=l then .dead else QN H l (nth .dead os i)
 |[],j,i=>by
  simp only[oZ];split<;>rfl
 |o::os,j,0=>by
  show(bif Nat.beq j l then TObj.dead else QN H l o)=_;by_cases e:j=l
  ·simp_all
  ·have hb:Nat.beq j l=false:=by
    cases hb:Nat.beq j l with
    |false=>rfl
    |true=>exact(e (qAc hb)).elim
   rw[hb,if_neg (by simpa using e)];rfl
 |o::os,j,i+1=>by
  show nth .dead (oZ H l (j+1) os) i=if j+(i+1)=l then .dead else QN H l (nth .dead os i);rw[G5 H l os (j+1) i,show j+1+i=j+(i+1)from by omega]
theorem JO(H:List TObj)(l:Nat):∀vs,jA H l vs=vs.map (eB H l)
 |[]=>rfl
 |v::vs=>by simp only[jA,qAF,JO H l vs]
theorem qQ(H:List TObj)(l:Nat)(vs:List TV)(k:Nat):nth .unk (jA H l vs) k=eB H l (nth .unk vs k):=by
 rw[JO];exact LB (d:=.unk) (d':=.unk) (eB H l) rfl vs k
theorem Ca{a b:Nat}(h:a≠b):Nat.beq a b=false:=by
 cases hb:Nat.beq a b with
 |false=>rfl
 |true=>exact(h (qAc hb)).elim
theorem Nb{a b:Nat}(h:(!(Nat.beq a b))=true):a≠b:=fun e=>by subst e;rw[jO]at h;cases h
mutual
theorem AY(H:List TObj)(l:Nat):∀v,oK l v=true→eB H l v=v
 | .ptr l' o,h=>by simp only[eB,Ca (Nb h),cond_false]
 | .mapr l',h=>by simp only[eB,Ca (Nb h),cond_false]
 | .own l',h=>by simp only[eB,Ca (Nb h),cond_false]
 | .psl l' _ _,h=>by simp only[eB,Ca (Nb h),cond_false]
 | .ap l' _ _ _,h=>by simp only[eB,Ca (Nb h),cond_false]
 | .eptr cs,h=>by simp only[eB,Bf H l cs h]
 | .agg cs,h=>by simp only[eB,Bf H l cs h]
 | .tup cs,h=>by simp only[eB,Bf H l cs h]
 | .func _ cs,h=>by simp only[eB,Bf H l cs h]
 | .unk,_=>rfl| .nilp,_=>rfl| .nilF,_=>rfl| .nils,_=>rfl| .lf _ _,_=>rfl| .nat _,_=>rfl
theorem Bf(H:List TObj)(l:Nat):∀vs,lD l vs=true→jA H l vs=vs
 |[],_=>rfl
 |v::vs,h=>by
  simp only[lD,qAa]at h;simp only[jA,AY H l v h.1,Bf H l vs h.2]
end
def DW(l N i:Nat):Bool:=Nat.blt i N&&!(Nat.beq i l)
mutual
theorem Mv(l N:Nat):∀v,Ry N v=true→oK l v=true→AA (DW l N) v=true
 | .ptr l' o,h,k=>qBC.2 ⟨h,k⟩
 | .mapr l',h,k=>qBC.2 ⟨h,k⟩
 | .own l',h,k=>qBC.2 ⟨h,k⟩
 | .psl l' _ _,h,k=>qBC.2 ⟨h,k⟩
 | .ap l' _ _ _,h,k=>qBC.2 ⟨h,k⟩
 | .eptr cs,h,k=>KM l N cs h k
 | .agg cs,h,k=>KM l N cs h k
 | .tup cs,h,k=>KM l N cs h k
 | .func _ cs,h,k=>KM l N cs h k
 | .unk,_,_=>rfl| .nilp,_,_=>rfl| .nilF,_,_=>rfl| .nils,_,_=>rfl| .lf _ _,_,_=>rfl| .nat _,_,_=>rfl
theorem KM(l N:Nat):∀vs,eY N vs=true→lD l vs=true→jW (DW l N) vs=true
 |[],_,_=>rfl
 |v::vs,h,k=>by
  simp only[eY,qAa]at h;simp only[lD,qAa]at k;simp only[jW,qAa];exact⟨Mv l N v h.1 k.1,KM l N vs h.2 k.2⟩
end
section
variable {H:List TObj}{l:Nat}
theorem adY{j:Nat}(hj:j≠l):dH j (nth .dead (oZ H l 0 H) j)=dH j (nth .dead H j)∧∀z,bZ j z (nth .dead (oZ H l 0 H) j)=bZ j z (nth .dead H j):=by
 rw[G5,if_neg (by simpa using hj)];cases nth .dead H j<;>exact⟨rfl,fun _=>rfl⟩
theorem agn:Lks bg (fT (Av l H.length) (aD H).length) (DW l H.length) H (oZ H l 0 H):=by
 have ok:∀j,DW l H.length j=true→j<H.length∧j≠l:=fun j h=>by
  unfold DW at h;simp only[qAa]at h;exact⟨qAf h.1,Nb h.2⟩
 have nm:∀j,DW l H.length j=true→fT (Av l H.length) (aD H).length j=j:=fun j h=>ap2 (ok j h).1 (ok j h).2;refine⟨nm,fun j h=>?_,fun j z h=>?_⟩
 ·rw[(adY (ok j h).2).1];show dH j (nth .dead H j)=_;cases nth .dead H j<;>simp only[dH,ren,nP,jy,nm j h]
 ·rw[(adY (ok j h).2).2 z];show bZ j z (nth .dead H j)=_;cases nth .dead H j<;>simp only[bZ,ren,nm j h]
theorem KL{v:TV}(h:AA (DW l H.length) v=true):VW (aD H) (Av l H.length) (av (oZ H l 0 H) v) (av H v):=by
 have:=Gn agn v h;rw[YX]at this;exact .same this.symm
theorem alg{vs:List TV}(h:jW (DW l H.length) vs=true):aT H vs=bS (fT (Av l H.length) (aD H).length) (aT (oZ H l 0 H) vs):=by
 have:=Sq agn vs h;rwa[AZ]at this
theorem aj5{H:List TObj}{cs:List TV}{p:Decl×List Decl}(h:aja H cs=some p):∃v,aT H cs=ET.enc .dec p.1++[v]∧(v=.flist (p.2.map (ET.enc .dec))∨v=.nilp∧p.2=[]):=by
 obtain⟨u,r,xs,h1,h2,h3⟩:=LU _ _ _ _ h;have h3:=adQ h3;split at h1
 ·rename_i ys;obtain⟨x,rfl,h4⟩:=gZ h1;cases h4;exact⟨_,by rw[h2,←h3];rfl,.inl rfl⟩
 ·obtain⟨x,rfl,h4⟩:=gZ h1;cases h4;exact⟨_,by rw[h2,←h3];rfl,.inr ⟨rfl,rfl⟩⟩
 ·cases h1
theorem alJ{v:TV}(h:one v):one (eB H l v):=by
 refine MQ fun e x q=>?_;cases v with
 |ptr l' o=>
  simp only[eB]at q;cases hb:Nat.beq l' l with
  |false=>rw[hb]at q;cases q
  |true=>
   unfold Q7 at q
   grind
 |mapr l'=>
  simp only[eB]at q
  grind
 |ap l' i z o=>
  simp only[eB]at q
  grind
 |own l'=>
  simp only[eB]at q;cases hb:Nat.beq l' l with
  |false=>rw[hb]at q;cases q
  |true=>
   unfold ah5 at q
   grind
 |psl l' z c=>
  simp only[eB]at q;cases hb:Nat.beq l' l with
  |false=>rw[hb]at q;cases q
  |true=>
   unfold ah0 at q
   grind
 |lf t y=>
  obtain⟨rfl,_⟩:=q;have:=ou h;cases e<;>cases this
 |_=>simp only[eB]at q;cases q
theorem aan(G:Nat→Nat)(xs:List AV)(j:Nat):ren G (xs.getD j .unk)=(bS G xs).getD j .unk:=by
 rw[jG];simp;cases xs[j]?<;>rfl
mutual
theorem ZE(hH:∀cs,nth .dead H l=.box cs→eY H.length cs=true):∀v,Ry H.length v=true→VW (aD H) (Av l H.length) (av (oZ H l 0 H) (eB H l v)) (av H v)
 | .ptr l' o,h=>by
  by_cases e:l'=l
  ·subst e;simp only[eB,jO,cond_true];cases o with
   |succ o=>exact .unk _
   |zero=>
    simp only[Q7];split
    ·rename_i cs hc;cases hn:lD l' cs with
     |false=>exact .unk _
     |true=>
      simp only[cond_true];split
      ·rename_i p hp;obtain⟨v,h1,h2⟩:=aj5 hp;refine VW.frzF (cs':=ET.enc .dec p.1) (v:=v) (by rw[gK,hc];simp only[dM,h1]) (adj _ _) rfl (fun j _=>?_) ?_
       ·refine .same ?_;have:=PW .dec (fT (Av l' H.length) (aD H).length) p.1;rw[aan,this]
       ·rcases h2 with rfl|⟨rfl,h2⟩
        ·exact .same (congrArg AV.flist (jy .dec _ p.2))
        ·rw[h2];exact .nilF
      simp only[av];have hs:=alg (KM l' H.length cs (hH cs hc) hn);refine VW.frz (cs':=aT H cs) (by rw[gK,hc];rfl) (adj _ _) ?_ fun j=>?_
      ·rw[hs,fB];omega
      ·rw[qAv,hs];exact .same (aan _ _ _)
    ·exact .unk _
  ·have hn:oK l (.ptr l' o)=true:=by simp only[oK,Ca e];rfl
   rw[AY _ _ _ hn];exact KL (Mv _ _ _ h hn)
 | .mapr l',h=>by
  by_cases e:l'=l
  ·subst e;simp only[eB,jO,cond_true];exact .unk _
  ·have hn:oK l (.mapr l')=true:=by simp only[oK,Ca e];rfl
   rw[AY _ _ _ hn];exact KL (Mv _ _ _ h hn)
 | .ap l' i z o,h=>by
  by_cases e:l'=l
  ·subst e;simp only[eB,jO,cond_true];exact .unk _
  ·have hn:oK l (.ap l' i z o)=true:=by simp only[oK,Ca e];rfl
   rw[AY _ _ _ hn];exact KL (Mv _ _ _ h hn)
 | .own l',h=>by
  by_cases e:l'=l
  ·subst e;simp only[eB,jO,cond_true,ah5];split
   ·rename_i e xs hc;simp only[av,gM,hc,dH];exact .share (jy _ _ _)
   ·exact .unk _
  ·have hn:oK l (.own l')=true:=by simp only[oK,Ca e];rfl
   rw[AY _ _ _ hn];exact KL (Mv _ _ _ h hn)
 | .psl l' z c,h=>by
  by_cases e:l'=l
  ·subst e;simp only[eB,jO,cond_true];cases c with
   |some k=>exact .unk _
   |none=>
    simp only[ah0];split
    ·rename_i e xs hc;cases hs:Qg e z with
     |false=>exact .unk _
     |true=>
      have hs:=FR hs;subst hs;simp only[cond_true,av,gM,hc,bZ];refine VW.Q7 (es0:=xs.map e.enc) (by rw[gK,hc];rfl) (adj _ _) (by simp) ?_;rw[jy,qCi (by simp)]
    ·exact .unk _
  ·have hn:oK l (.psl l' z c)=true:=by simp only[oK,Ca e];rfl
   rw[AY _ _ _ hn];exact KL (Mv _ _ _ h hn)
 | .eptr cs,h=>by simp only[eB,av];exact .eptr (fZ (Ba hH cs h)).1 (fZ (Ba hH cs h)).2
 | .agg cs,h=>by simp only[eB,av];exact .agg (fZ (Ba hH cs h)).1 (fZ (Ba hH cs h)).2
 | .tup cs,h=>by simp only[eB,av];exact .tup (fZ (He hH cs h)).1 (fZ (He hH cs h)).2
 | .func f cs,h=>by simp only[eB,av];exact .func (fZ (He hH cs h)).1 (fZ (He hH cs h)).2
 | .unk,_=>.same rfl| .nilp,_=>.same rfl| .nilF,_=>.same rfl| .nils,_=>.same rfl| .lf t x,_=>.same (Bu _ t x)| .nat _,_=>.same rfl
theorem Ba(hH:∀cs,nth .dead H l=.box cs→eY H.length cs=true):∀vs,eY H.length vs=true→Rs (VW (aD H) (Av l H.length)) (aT (oZ H l 0 H) (jA H l vs)) (aT H vs)
 |[],_=>.nil
 |v::vs,h=>by
  simp only[eY,qAa]at h;have h1:=ZE hH v h.1;have h2:=Ba hH vs h.2;simp only[jA,aT];refine Rs.app ?_ h2;rcases l8 v with ho|⟨e,x,rfl⟩
  ·rw[ho,alJ ho];exact .cons h1 .nil
  ·simp only[eB,rW];have:=(Sv e x);generalize e.enc x=l at this;clear h1
   induction l with
   |nil=>exact .nil
   |cons a l ih=>exact .cons (.same (this a (by simp) _)) (ih fun b hb=>this b (by simp[hb]))
theorem He(hH:∀cs,nth .dead H l=.box cs→eY H.length cs=true):∀vs,eY H.length vs=true→Rs (VW (aD H) (Av l H.length)) (aQ (oZ H l 0 H) (jA H l vs)) (aQ H vs)
 |[],_=>.nil
 |v::vs,h=>by
  simp only[eY,qAa]at h;simp only[jA,aQ];exact .cons (ZE hH v h.1) (He hH vs h.2)
end
end
theorem ane{m l:Nat}{s:DS}(hm:m≤l)(ht:eY s.h.length s.t=true)(hh:zU s.h.length s.h=true)(hmN:m≤s.h.length):Le m (aQ s.h s.t) (aD s.h) (aQ (D5 l s).h (D5 l s).t) (aD (D5 l s).h):=by
 have hH:∀cs,nth .dead s.h l=.box cs→eY s.h.length cs=true:=fun cs hc=>(qo hh).2 cs hc;refine Le.of (Av l s.h.length) ⟨?_,?_,fun i hi=>?_,?_,?_,fun n=>?_,?_,?_⟩
 ·simp only[D5,vR,JO,qAj]
 ·simp only[D5,anu,aD,qAj,Ve]
 ·rw[SB (by omega),if_neg (by omega)]
 ·intro i j k h1 h2 _ _;obtain⟨_,_,e1⟩:=GU h1;obtain⟨_,_,e2⟩:=GU h2;omega
 ·intro i k h1;obtain⟨h2,_,e1⟩:=GU h1;simp only[aD,qAj];omega
 ·rw[vY,vY];show VW _ _ (av (oZ s.h l 0 s.h) (nth .unk (jA s.h l s.t) n)) _;rw[qQ];refine ZE hH _ ?_;by_cases hn:n<s.t.length
  ·refine Wj ht _ ?_;rw[eH,List.getD,qAd hn];exact qAX hn
  ·rw[iH (by omega)];rfl
 ·intro i k h1;obtain⟨h2,h3,e1⟩:=GU h1;subst e1;rw[gK,gK];show OW _ _ (dM (oZ s.h l 0 s.h) (nth .dead (oZ s.h l 0 s.h) k)) _;rw[G5,if_neg (by simpa using h3)];cases ho:nth .dead s.h k with
  |box cs=>
   have:=Ba hH cs ((qo hh).2 cs ho);exact .box (fZ this).1 (fZ this).2
  |own e xs=>exact .tip _
  |gone e xs=>exact .dead _
  |mp e xs=>exact .same rfl (by simp only[QN,dM,bO,F4])
  |arr e xs=>exact .same rfl (by simp only[QN,dM,bO,jy])
  |gon n=>exact .dead _
  |dead=>exact .dead _
  |res=>exact .dead _
 ·intro i h1;have hi:i<s.h.length:=by
   apply qAl;intro hi;rw[acQ (by omega)]at h1;cases h1
  rw[SB hi]at h1;have e:i=l:=by
   grind
  subst e;rw[gK];show bD (dM (oZ s.h i 0 s.h) (nth .dead (oZ s.h i 0 s.h) i))=false;rw[G5,if_pos (by omega)];rfl
theorem Sb{l k:Nat}:∀{vs:List TV} {j:Nat},(j+k)∉Rx l j vs→oK l (nth .unk vs k)=true
 |[],j,_=>by rw[iH (qBe _)];rfl
 |v::vs,j,h=>by
  simp only[Rx]at h;cases hv:oK l v with
  |true=>
   rw[hv,cond_true]at h;cases k with
   |zero=>exact hv
   |succ k=>exact Sb (vs:=vs) (j:=j+1) (by rwa[show j+1+k=j+(k+1)from by omega])
  |false=>
   rw[hv,cond_false,qAh,not_or]at h;cases k with
   |zero=>exact(h.1 (qAJ _)).elim
   |succ k=>exact Sb (vs:=vs) (j:=j+1) (by rw[show j+1+k=j+(k+1)from by omega];exact h.2)
theorem ZH{l k:Nat}:∀{os:List TObj} {j:Nat},(j+k,0)∉Gy l j os→∀cs,nth .dead os k=.box cs→lD l cs=true
 |[],j,_,cs,hc=>by rw[iH (qBe _)]at hc;cases hc
 |o::os,j,h,cs,hc=>by
  have tl:∀k',k=k'+1→(j+1+k',0)∉Gy l (j+1) os→lD l cs=true:=fun k' e hn=>by
   subst e;exact ZH (os:=os) hn cs hc
  cases k with
  |zero=>
   subst hc;simp only[Gy]at h
   grind
  |succ k=>
   refine tl k rfl ?_;rw[show j+1+k=j+(k+1)from by omega];cases o with
   |box cs'=>
    simp only[Gy]at h
    grind
   |_=>simpa only[Gy]using h
theorem am6(l:Nat)(s:DS)(hh:zU s.h.length s.h=true):Fr s (D5 l s):=by
 refine⟨by simp only[D5,JO,qAj],by simp only[D5,Ve];exact qAr _,fun k hk=>?_,fun p hp=>?_,rfl,fun i hi hno=>?_⟩
 ·have hk:k∉Rx l 0 s.t++s.d:=hk;rw[qAA,not_or]at hk;refine⟨hk.2,?_⟩;show nth .unk (jA s.h l s.t) k=_;rw[qQ,AY _ _ _ (Sb (j:=0) (by rw[qAv];exact hk.1))]
 ·exact qAk _ (qBu _ hp)
 ·have hno:(i,0)∉(l,0)::(Gy l 0 s.h++s.o):=hno;rw[qAh,qAA,not_or,not_or]at hno;have hne:i≠l:=fun e=>hno.1 (by rw[e]);have e1:nth .dead (D5 l s).h i=QN s.h l (nth .dead s.h i):=by
   show nth .dead (oZ s.h l 0 s.h) i=_;rw[G5,if_neg (by simpa using hne)]
  rw[e1];cases ho:nth .dead s.h i with
  |box cs=>
   left;simp only[QN];rw[Bf _ _ _ (ZH (j:=0) (by rw[qAv];exact hno.2.1) cs ho)]
  |res=>exact((qo hh).1 ho).elim
  |_=>exact .inl rfl
theorem XT(H:List TObj)(l:Nat)(v:TV):eB H l v=v∨((∃e xs,eB H l v=.lf (.l e) xs)∨∃e xs,eB H l v=.lf (.f e) xs)∨(∃cs,eB H l v=.eptr cs)∨(∃cs,eB H l v=.agg cs)∨(∃cs,eB H l v=.tup cs)∨(∃f cs,eB H l v=.func f cs)∨eB H l v=.unk:=by
 cases v with
 |ptr l' o=>
  simp only[eB];cases Nat.beq l' l with
  |false=>exact .inl rfl
  |true=>
   unfold Q7
   grind
 |mapr l'=>
  simp only[eB]
  grind
 |ap l' i z o=>
  simp only[eB]
  grind
 |own l'=>
  simp only[eB];cases Nat.beq l' l with
  |false=>exact .inl rfl
  |true=>
   unfold ah5
   grind
 |psl l' z c=>
  simp only[eB];cases Nat.beq l' l with
  |false=>exact .inl rfl
  |true=>
   unfold ah0
   grind
 |eptr cs=>exact .inr (.inr (.inl ⟨_,rfl⟩))
 |agg cs=>exact .inr (.inr (.inr (.inl ⟨_,rfl⟩)))
 |tup cs=>exact .inr (.inr (.inr (.inr (.inl ⟨_,rfl⟩))))
 |func f cs=>exact .inr (.inr (.inr (.inr (.inr (.inl ⟨_,_,rfl⟩)))))
 |_=>exact .inl rfl
theorem adb(H:List TObj)(l:Nat)(v:TV){k:IntKind}{a:Int}(h:jR (eB H l v)=some (k,a)):jR v=some (k,a):=by
 rcases XT H l v with e|(⟨_,_,e⟩|⟨_,_,e⟩)|⟨_,e⟩|⟨_,e⟩|⟨_,e⟩|⟨_,_,e⟩|e<;>rw[e]at h<;>first|exact h|cases h
theorem aiW(H:List TObj)(l:Nat)(v:TV){k:IntKind}{a:Int}(h:jR v=some (k,a)):jR (eB H l v)=some (k,a):=by
 cases v<;>first|exact h|cases h
theorem ajY(H:List TObj)(l:Nat)(v:TV){b:Bool}(h:eB H l v=.lf .b b):v=.lf .b b:=by
 rcases XT H l v with e|(⟨_,_,e⟩|⟨_,_,e⟩)|⟨_,e⟩|⟨_,e⟩|⟨_,e⟩|⟨_,_,e⟩|e<;>rw[e]at h<;>first|exact h|cases h
theorem alm(l:Nat){s:DS}(hi:Inv s):Inv (D5 l s):=by
 refine⟨fun i k a h1 h2=>?_,fun d i j h1 k a h2=>?_,fun d x h1=>?_⟩
 ·have h2:jR (nth .unk (jA s.h l s.t) i)=some (k,a):=h2;rw[qQ]at h2;exact hi.up i k a h1 (adb _ _ _ h2)
 ·have h2:jR (nth .unk (jA s.h l s.t) i)=some (k,a):=h2;rw[qQ]at h2;obtain⟨c,g1,g2⟩:=hi.rl d i j h1 k a (adb _ _ _ h2);refine⟨c,?_,fun b hb=>g2 b ?_⟩
  ·show jR (nth .unk (jA s.h l s.t) j)=_;rw[qQ];exact aiW _ _ _ g1
  ·have hb:nth .unk (jA s.h l s.t) d=.lf .b b:=hb;rw[qQ]at hb;exact ajY _ _ _ hb
 ·show nth .unk (jA s.h l s.t) d=nth .unk (jA s.h l s.t) x;rw[qQ,qQ,hi.cp d x h1]
theorem ZX{γ:Type}{b:γ}{m:Nat}:∀(ls:List Nat) (s:DS) (K:DS→Option γ),m≤s.h.length→Inv s→aek m ls s K=some b→∃s',K s'=some b∧Fr s s'∧Inv s'∧Le m (aQ s.h s.t) (aD s.h) (aQ s'.h s'.t) (aD s'.h)
 |[],s,K,_,hi,h=>⟨s,h,Fr.refl s,hi,fun _ κ _ _ _ hs=>⟨κ,hs⟩⟩
 |l::ls,s,K,hm,hi,h=>by
  simp only[aek]at h;rw[MO]at h;obtain⟨hc,h⟩:=(aX h).resolve_right fun h=>by cases h.2
  simp only[qAa]at hc;have f1:=am6 l s hc.2.2.2;obtain⟨s',g1,g2,g3,g4⟩:=ZX ls (D5 l s) K (qBn hm f1.hl) (alm l hi) h;exact⟨s',g1,f1.trans g2,g3,(ane (qAf hc.1) hc.2.2.1 hc.2.2.2 hm).trans g4⟩
end
section
open Go
def KW(N:Nat):List (Option Nat):=(List.range N).map some
theorem YM{N i:Nat}(h:i<N):(KW N)[i]? =some (some i):=by simp[KW,h]
theorem akz{N i:Nat}(h:N≤i):(KW N)[i]? =none:=by simp[KW,h]
theorem GK{N i:Nat}{o:Option Nat}(h:(KW N)[i]? =some o):i<N∧o=some i:=by
 by_cases hi:i<N
 ·rw[YM hi]at h;exact⟨hi,(Option.some.inj h).symm⟩
 ·rw[akz (by omega)]at h;cases h
theorem aiK{N i big:Nat}(h:i<N):fT (KW N) big i=i:=by unfold fT;rw[YM h];rfl
theorem vZ(l:Nat):∀(vs:List TV) (k:Nat),nth .unk (Oa l vs) k=bif oK l (nth .unk vs k)then nth .unk vs k else .unk
 |[],k=>by show nth (TV.unk) [] k=bif oK l (nth TV.unk [] k)then nth TV.unk [] k else TV.unk;rw[iH (qBe _)];rfl
 |v::vs,0=>rfl
 |v::vs,k+1=>vZ l vs k
theorem Zj(l:Nat):∀vs:List TV,(Oa l vs).length=vs.length
 |[]=>rfl
 |v::vs=>congrArg (·+1) (Zj l vs)
theorem akG{l:Nat}(e:ET)(x:e.D):∀v∈Cq e x,oK l v=true:=by
 intro v hv;cases e<;>simp only[Cq,qAh]at hv<;>(repeat' (rcases hv with rfl|hv))<;>first|rfl|(subst hv;rfl)
theorem M9{l:Nat}:∀{vs:List TV},lD l vs=true→∀v∈aF vs,oK l v=true
 |[],_,v,h=>by cases h
 |x::vs,h,v,hv=>by
  simp only[lD,qAa]at h;simp only[aF,qAA]at hv;rcases hv with hv|hv
  ·rcases l8 x with ho|⟨e,y,rfl⟩
   ·rw[ou ho,qBd]at hv;subst hv;exact h.1
   ·exact akG e y v hv
  ·exact M9 h.2 v hv
def LkO(H H':List TObj)(l:Nat):Prop:=∀j,j≠l→dH j (nth .dead H' j)=dH j (nth .dead H j)∧∀z,bZ j z (nth .dead H' j)=bZ j z (nth .dead H j)
section
variable {H H':List TObj}{l:Nat}
theorem aoZ(hk:LkO H H' l):Lks bg (fT (KW H.length) (aD H).length) (DW l H.length) H H':=by
 have ok:∀j,DW l H.length j=true→j<H.length∧j≠l:=fun j h=>by
  unfold DW at h;simp only[qAa]at h;exact⟨qAf h.1,Nb h.2⟩
 have nm:∀j,DW l H.length j=true→fT (KW H.length) (aD H).length j=j:=fun j h=>aiK (ok j h).1;refine⟨nm,fun j h=>?_,fun j z h=>?_⟩
 ·rw[(hk j (ok j h).2).1];show dH j (nth .dead H j)=_;cases nth .dead H j<;>simp only[dH,ren,nP,jy,nm j h]
 ·rw[(hk j (ok j h).2).2 z];show bZ j z (nth .dead H j)=_;cases nth .dead H j<;>simp only[bZ,ren,nm j h]
theorem R4(hk:LkO H H' l){v:TV}(h1:Ry H.length v=true)(h2:oK l v=true):VW (aD H) (KW H.length) (av H' v) (av H v):=by
 have:=Gn (aoZ hk) v (Mv l H.length v h1 h2);rw[YX]at this;exact .same this.symm
theorem apd(hk:LkO H H' l){v:TV}(h1:Ry H.length v=true):VW (aD H) (KW H.length) (av H' (bif oK l v then v else .unk)) (av H v):=by
 cases h:oK l v with
 |true=>exact R4 hk h1 h
 |false=>exact .unk _
end
theorem akj{γ:Type}{b:γ}{m l bx off:Nat}{s:DS}{K:DS→Option γ}(hm:m≤s.h.length)(hi:Inv s)(h:ctK l bx off s K=some b):∃s',K s'=some b∧Fr s s'∧Inv s'∧Le m (aQ s.h s.t) (aD s.h) (aQ s'.h s'.t) (aD s'.h):=by
 unfold ctK at h;split at h
 ·rename_i e xs cs hl hb;obtain⟨a,r,hf1,hf2,h⟩:=uU _ _ _ _ h;split at h
  ·rename_i l' z c r;rw[MO]at h;obtain⟨hc,h⟩:=(aX h).resolve_right fun h=>by cases h.2
   obtain⟨hc2,h⟩:=(aX h).resolve_right fun h=>by cases h.2
   rw[iX,iX]at h;simp only[qAa]at hc;obtain⟨⟨q1,q2,q3⟩,q4,q5,q6⟩:=hc;have q1:l'=l:=qAc q1;subst q1;have hcx:c≤xs.length:=qAf hc2;have hne:l'≠bx:=fun e=>by subst e;rw[hl]at hb;cases hb
   have hll:l'<s.h.length:=by
    apply qAl;intro hn;rw[iH (by omega)]at hl;cases hl
   have hbl:bx<s.h.length:=by
    apply qAl;intro hn;rw[iH (by omega)]at hb;cases hb
   refine⟨_,h,?_,?_,?_⟩
   ·refine⟨Zj _ _,by simp,fun k hk=>?_,fun p hp=>?_,rfl,fun i hi hno=>?_⟩
    ·have hk:k∉Rx l' 0 s.t++s.d:=hk;rw[qAA,not_or]at hk;refine⟨hk.2,?_⟩;show nth .unk (Oa l' s.t) k=_;rw[vZ,Sb (j:=0) (by rw[qAv];exact hk.1)];rfl
    ·exact qAk _ (qAk _ hp)
    ·have hno:(i,0)∉(l',0)::(bx,off+1)::s.o:=hno;rw[qAh,not_or]at hno;have hil:l'≠i:=fun e=>hno.1 (by rw[e]);by_cases hib:bx=i
     ·subst hib;refine .inr ⟨cs,a++ .psl l' z none::r,hb,by rw[bB (by rw[qAK];exact hbl)],?_,fun q hq=>?_⟩
      ·rw[hf1,qL];simp only[aF,qAg];rfl
      ·have hq:decide ((bx,q+1)∈(l',0)::(bx,off+1)::s.o)=false:=hq;have hqo:q≠off:=fun e=>by subst e;simp at hq
       rw[hf1,qL];by_cases hlt:q<off
       ·rw[qAe (by omega),qAe (by omega)]
       ·rw[qAi (by omega),qAi (by omega)];simp only[aF,JU,qAH,qAz];obtain⟨k,hk⟩:∃k,q - (aF a).length=k+1:=⟨q - (aF a).length - 1,by omega⟩;rw[hk];rfl
     ·refine .inl ?_;show nth .dead ((s.h.set l' _).set bx _) i=_;rw[aN hib,aN hil]
   ·refine⟨fun i k a h1 h2=>?_,fun d i j h1 k a h2=>?_,fun d x h1=>?_⟩
    ·have h2:jR (nth .unk (Oa l' s.t) i)=some (k,a):=h2;rw[vZ]at h2;refine hi.up i k a h1 ?_;cases hn:oK l' (nth .unk s.t i)<;>rw[hn]at h2<;>first|exact h2|cases h2
    ·have h2:jR (nth .unk (Oa l' s.t) i)=some (k,a):=h2;rw[vZ]at h2;have h3:jR (nth .unk s.t i)=some (k,a):=by
      cases hn:oK l' (nth .unk s.t i)<;>rw[hn]at h2<;>first|exact h2|cases h2
     obtain⟨c,g1,g2⟩:=hi.rl d i j h1 k a h3;refine⟨c,?_,fun b hb=>g2 b ?_⟩
     ·show jR (nth .unk (Oa l' s.t) j)=_;have:oK l' (nth .unk s.t j)=true:=by
       revert g1;generalize nth .unk s.t j=v;intro g1
       cases v<;>first|rfl|cases g1
      rw[vZ,this];exact g1
     ·have hb:nth .unk (Oa l' s.t) d=.lf .b b:=hb;rw[vZ]at hb;cases hn:oK l' (nth .unk s.t d)<;>rw[hn]at hb<;>first|exact hb|cases hb
    ·show nth .unk (Oa l' s.t) d=nth .unk (Oa l' s.t) x;rw[vZ,vZ,hi.cp d x h1]
   ·have hk:LkO s.h ((s.h.set l' (.arr e (xs.take c))).set bx (.box (a++ .psl l' z none::r))) l':=fun j hj=>by
     by_cases e2:bx=j
     ·subst e2;rw[bB (by rw[qAK];exact hbl),hb];exact⟨rfl,fun _=>rfl⟩
     ·rw[aN e2,aN (qBl hj)];exact⟨rfl,fun _=>rfl⟩
    refine Le.of (KW s.h.length) ⟨?_,?_,fun i hi=>YM (by omega),?_,?_,fun n=>?_,?_,?_⟩
    ·simp only[vR,Zj]
    ·simp[KW,aD]
    ·intro i j k h1 h2 _ _;have:=(GK h1).2;have:=(GK h2).2
     simp_all
    ·intro i k h1;obtain⟨h2,h3⟩:=GK h1;cases h3;simpa[aD]using h2
    ·rw[vY,vY];show VW _ _ (av _ (nth .unk (Oa l' s.t) n)) _;rw[vZ];refine apd hk ?_;by_cases hn:n<s.t.length
     ·refine Wj q5 _ ?_;rw[eH,List.getD,qAd hn];exact qAX hn
     ·rw[iH (by omega)];rfl
    ·intro i k h1;obtain⟨h2,h3⟩:=GK h1;cases h3;rw[gK,gK];show OW _ _ (dM _ (nth .dead ((s.h.set l' (.arr e (xs.take c))).set bx (.box (a++ .psl l' z none::r))) i)) _;by_cases e2:bx=i
     ·subst e2;rw[bB (by rw[qAK];exact hbl),hb];have hrf:=Gf ((qo q6).2 cs hb);rw[hf1]at hrf;refine Nz (by rw[qL,hf1];simp only[aF,qAg];rfl) fun q hq=>?_;rw[hf1,qL];have cell:∀v,v∈aF a∨v∈aF r→VW (aD s.h) (KW s.h.length) (av ((s.h.set l' (.arr e (xs.take c))).set bx (.box (a++ .psl l' z none::r))) v) (av s.h v):=fun v hv=>by
       rcases hv with hv|hv
       ·exact R4 hk (hrf v (qBr _ hv)) (M9 q2 v hv)
       ·exact R4 hk (hrf v (qBu _ (by simp only[aF,qAA];exact .inr hv))) (M9 q3 v hv)
      simp only[List.getD];by_cases hlt:q<(aF a).length
      ·rw[qAe hlt,qAe hlt,qAd hlt];exact cell _ (.inl (qAX hlt))
      ·rw[qAi (by omega),qAi (by omega)];simp only[aF,JU,qAH,qAz];generalize q - (aF a).length=k;cases k with
       |zero=>
        simp only[qAG,qAq];refine .same ?_;simp only[av,aN (qBl hne),bB hll,bZ,ren,aiK hll,qAx,Nat.min_eq_left hcx]
       |succ k=>
        simp only[qBo];cases hg:(aF r)[k]? with
        |none=>exact .unk _
        |some v=>exact cell v (.inr (qAB hg))
     ·rw[aN e2];by_cases e3:l'=i
      ·subst e3;rw[bB hll,hl];refine OW.arr (n:=c) ?_;rw[jy,List.map_take]
      ·rw[aN e3];cases ho:nth .dead s.h i with
       |box cs2=>
        have hna:lD l' cs2=true:=ZH (j:=0) (k:=i) (by
         intro hm;rw[qAv]at hm;have:=qAC.1 q4 _ hm;exact e2 (qAc this).symm) cs2 ho
        have hrf:=Gf ((qo q6).2 cs2 ho);refine Nz rfl fun q hq=>?_;rw[List.getD,qAd hq];exact R4 hk (hrf _ (qAX hq)) (M9 hna _ (qAX hq))
       |own e xs=>exact .tip _
       |gone e xs=>exact .dead _
       |mp e xs=>exact .same rfl (by simp only[dM,bO,F4])
       |arr e xs=>exact .same rfl (by simp only[dM,bO,jy])
       |gon n=>exact .dead _
       |dead=>exact .dead _
       |res=>exact((qo q6).1 ho).elim
    ·intro i h1;cases(GK h1).2
  ·cases h
 ·cases h
theorem ajN{γ:Type}{b:γ}{m:Nat}{hn:Option Hn}{s:DS}{K:DS→Option γ}(hm:m≤s.h.length)(hi:Inv s)(h:fzH m hn s K=some b):∃s',K s'=some b∧Fr s s'∧Inv s'∧Le m (aQ s.h s.t) (aD s.h) (aQ s'.h s'.t) (aD s'.h):=by
 unfold fzH at h;split at h
 ·exact ZX _ _ _ hm hi h
 ·exact akj hm hi h
 ·exact⟨s,h,Fr.refl s,hi,fun _ κ _ _ _ hs=>⟨κ,hs⟩⟩
theorem aof{γ:Type}{b:γ}{m:Nat}{hn:Option Hn}{s:DS}{K:DS→Option γ}(hm:m≤s.h.length)(hi:Inv s)(h:fzA m hn s K=some b):∃s',K s'=some b∧Fr s s'∧Inv s'∧Le m (aQ s.h s.t) (aD s.h) (aQ s'.h s'.t) (aD s'.h):=by
 unfold fzA at h;split at h
 ·exact akj hm hi h
 ·exact ZX _ _ _ hm hi h
 ·exact⟨s,h,Fr.refl s,hi,fun _ κ _ _ _ hs=>⟨κ,hs⟩⟩
end
section
open Go
def nI(P:Program)(te:Nat):Bool:=match P.underlying te with
 |some (.int _)=>true
 |_=>false
theorem amX{P:Program}{o:Oper}{s:ASt}{te:Nat}{e:Int}(hte:nI P te=true)(ho:o.op=.makeInterface te (.const (.int .i64 e))):og P o s (s.wr (aA o.dst (.ifc te (.int .i64 e)))):=
 iB fun C κ a w hs=>by
  refine⟨.iface te (.int .i64 e),κ,w,?_,hs.aA o.dst (.ifc _ _)⟩;unfold nI at hte;split at hte
  ·rename_i k hk;simp[execOp,ho,Instr.makeInterface,underlying,hk,Act.eval]
  ·cases hte
theorem ajE{P:Program}{o:Oper}{s:ASt}{x:Operand}{t:Nat}{v:Value}(ho:o.op=.panic x)(hx:aS s.tmps x=.ifc t v):OpX P o (.iface t v) s s:=by
 intro C κ a w hs next Q hn
 have hr:=hs.ev x;rw[hx]at hr;have he:a.eval x=.iface t v:=by
  generalize a.eval x=u at hr;cases hr;rfl
 unfold Oper.wp;have hrun:(execOp a.eval o).run P w=.halt (.panic (.iface t v)) w:=by
  simp[execOp,ho,he,Instr.panic]
 rw[hrun];exact hn κ w hs
theorem anp{te:Nat}{T:List TV}{l:List Oper}{e:Int}(h:Zh te T l=some e):∃o1 o2 d,d<T.length∧l=[o1,o2]∧o1.op=.makeInterface te (.const (.int .i64 e))∧o1.dst=some d∧o1.guard=none∧o2.op=.panic (.tmp d)∧o2.dst=none∧o2.guard=none:=by
 unfold Zh at h;split at h
 ·rename_i o1 o2;split at h
  ·rename_i t e' d h1 h2 h3;split at h
   ·rename_i d' h4 h5 h6;rcases aX h with⟨hc,h⟩|⟨_,h⟩
    ·cases h;simp only[qAa]at hc;have e1:=qAc hc.1;have e2:=qAc hc.2.1;subst e1;subst e2;exact⟨o1,o2,d,qAf hc.2.2,rfl,h1,h2,h3,h4,h5,h6⟩
    ·cases h
   ·cases h
  ·cases h
 ·cases h
theorem akK{P:Program}{te m id:Nat}{l:List Oper}{e:Int}{Q:QT}{t:List AV}{h:List AObj}(hte:nI P te=true){T:List TV}(hp:Zh te T l=some e)(hd:t.length=T.length)(hq:∀t',Q (jE (Ko te e)) t' h):AW P m (.region id l.toArray false) Q t h:=by
 obtain⟨o1,o2,d,hdT,hl,g1,g2,g3,g4,g5,g6⟩:=anp hp;subst hl;intro C κ a w hk hs;have hw1:bN [o1,o2].toArray t o1=some true:=by unfold bN;rw[g3]
 have hw2:bN [o1,o2].toArray (t.set d (.ifc te (.int .i64 e))) o2=some true:=by unfold bN;rw[g6]
 have st1:og P o1 ⟨t,h⟩ ⟨t.set d (.ifc te (.int .i64 e)),h⟩:=by
  have:=amX (P:=P) (o:=o1) (s:=⟨t,h⟩) hte g1;rw[g2]at this;exact this
 have hx:aS (t.set d (.ifc te (.int .i64 e))) (.tmp d)=.ifc te (.int .i64 e):=by
  show(t.set d _).getD d .unk=_
  grind
 refine wp_region_lit (zL (l1:=[o1]) (op:=o2) (l2:=[]) (.cons (.inl ⟨hw1,st1⟩) (.nil _)) hw2 (ajE g4 hx) C κ a w hs fun κ' a' w' hs'=>⟨⟨t.set d (.ifc te (.int .i64 e)),h⟩,κ',hq _,hs'⟩)
end
section
open Go
theorem anC(H:List TObj)(c l:Nat):Lk H (H++List.replicate c .dead) l:=by
 unfold Lk;by_cases hl:l<H.length
 ·rw[iC hl];exact⟨rfl,fun _=>rfl⟩
 ·rw[iH (by omega:H.length≤l)];have:nth .dead (H++List.replicate c .dead) l=.dead:=by
   rw[eH,List.getD,qAi (by omega),qBp]
   grind
  rw[this];exact⟨rfl,fun _=>rfl⟩
theorem aj8(H:List TObj)(c:Nat):aD (H++List.replicate c .dead)=aD H++List.replicate c .dead:=by
 unfold aD;rw[qBa,qCg];congr 1;exact qBi fun o _=>(acF o fun cs _ l _=>anC H c l).symm
theorem amT{a b c d:List Eff}(h:Sms a b)(k:Sms c d):Sms (a++c) (b++d):=by
 induction h with
 |nil=>exact k
 |cons h _ ih=>exact .cons h ih
theorem af6{a b:List Eff}(h:Sms a b):a.length=b.length:=by
 induction h with
 |nil=>rfl
 |cons _ _ ih=>simp[ih]
theorem ao6{a b:List Eff}(h:Sms a b):∀i,dV (a.getD i fG).ws=dV (b.getD i fG).ws:=by
 induction h with
 |nil=>intro i;rfl
 |cons h _ ih=>
  intro i;cases i with
  |zero=>exact h.wo
  |succ i=>simpa using ih i
theorem ahq{P:Program}{id m n0 N:Nat}{l1 l2:List Oper}{op:Oper}{es1 late:List Eff}{ep:Eff}{v:Value}{Q:QT}{s0 s1:ASt}{h':List AObj}(hm:P.follows .mixedOrders=true)
  (g1:ATr P (l1++op::l2).toArray l1 es1 (s0.reserve N) s1) (g3:zD P (l1++op::l2).toArray op v s1 ep) (hlate:late.length=l2.length)
  (k4:∀i o e,l2[i]? =some o→late[i]? =some e→l1.length∉(ku (l1++op::l2) []).getD (l1.length+1+i) []→tX P (l1++op::l2).toArray o (s1.wr (aI (fun j=>decide (j<i)) 0 late)) e)
  (hok:fC (l1++op::l2) (es1++ep::late)=true)
  (hw:∀i,i<(es1++ep::late).length→i≠l1.length→∀n∈dV ((es1++ep::late).getD i fG).ws,n0≤n∨(i<l1.length∧i∈(ku (l1++op::l2) []).getD l1.length []))
  (hl:h'.length=s1.heap.length) (ho:∀n,(n<n0∧obj? h' n=obj? (s1.wr ep.ws).heap n)∨obj? h' n=.dead)
  (hq:Q (.panic [{v,recovered:=false}]) (List.replicate s1.tmps.length .unk) h'):AW P m (.region id (l1++op::l2).toArray true) Q s0.tmps s0.heap:=by
 intro C κ a w _ hs;refine wp_region_any hm ?_;have hr:=(Sim.reserve (s:=s0) hs N).sameHeap (w':={w with drawn:=w.drawn+1}) rfl rfl rfl rfl;obtain⟨hlen,hs',heff⟩:=g1.spec;have e0:∀D:Nat→Bool,(∀j,j<l1.length→D j=true)→D l1.length=false→(∀j,l1.length<j→D j=false)→aI D 0 (es1++ep::late)=aI (fun _=>true) 0 es1:=fun D h1 h2 h3=>by
  rw[I8,qAv,GR (ep::late) es1.length (fun i _=>by
   rw[←hlen];cases i with
   |zero=>exact h2
   |succ i=>exact h3 _ (by omega)),qAs]
  exact tV es1 0 0 fun i hi=>by rw[qAv];exact h1 i (by omega)
 have hfl:aI (fun i=>(Array.replicate (l1++op::l2).length false).getD i false) 0 (es1++ep::late)=[]:=GR _ _ fun i _=>by simp[Array.getD]
 have hx:zD P (l1++op::l2).toArray op v ((s0.reserve N).wr (aI (fun j=>decide (j<l1.length)) 0 (es1++ep::late))) ep:=by
  rw[e0 _ (fun j h=>by simp[h]) (by simp) (fun j h=>by simp;omega),←hs'];exact g3
 have:=ahM (q0:=l1.length) (es:=es1++ep::late) (C:=C) (Q:=fun e a' w'=>∃s'' κ',onS Q e s''∧Sim C κ' s'' a' w') (by simp[hlen,hlate]) (by simp) (by rw[hlen];simp)
  (fun i o e hne hfree hio hie=>by
   rcases qCr hne with h|h
   ·rw[qAe h]at hio;rw[qAe (by omega)]at hie;have:=heff i o e hio hie;rw[I8,GR (ep::late) _ (fun j _=>by simp;omega),qAs,tV es1 (D':=fun j=>decide (j<i)) 0 0 (fun j hj=>by simp;omega)];exact this
   ·obtain⟨j,rfl⟩:∃j,i=l1.length+1+j:=⟨i - l1.length - 1,by omega⟩;rw[qAi (by omega),show l1.length+1+j - l1.length=j+1 by omega,qBo]at hio;rw[qAi (by omega),show l1.length+1+j - es1.length=j+1 by omega,qBo]at hie;have:=k4 j o e hio hie hfree;have e1:aI (fun x=>decide (x<l1.length+1+j)&&!(x==l1.length)) 0 (es1++ep::late)=aI (fun _=>true) 0 es1++aI (fun x=>decide (x<j)) 0 late:=by
     rw[I8,tV es1 (D':=fun _=>true) 0 0 (fun x hx=>by simp;omega)];congr 1;simp only[aI,qAv,←hlen,beq_self_eq_true,qAt,qBD,qAI,if_false,qAz];exact tV late _ _ fun x hx=>by simp;omega
    rw[e1,oC,←hs'];exact this)
  hx hok (fun D κ' a' w' hD hD0 hs2=>⟨⟨List.replicate s1.tmps.length .unk,h'⟩,κ',hq,hs2.drop (by simp only[qAV,(aM _ _).1,hs']) (by rw[hl];simp only[(aM _ _).2,hs']) (fun n=>by grind) fun n=>by
   rcases ho n with⟨hn,e⟩|e
   ·left;show obj? h' n=_;rw[e,hs'];by_cases hnl:n<(s0.reserve N).heap.length
    ·have hb:∀x,n<((s0.reserve N).wr x).heap.length:=fun x=>by rw[(aM _ _).2];exact hnl
     rw[gy ep.ws n _ (hb _),gy ep.ws n _ (hb _),gy _ n _ hnl,gy _ n _ hnl];congr 2;rw[←e0 (fun j=>decide (j<l1.length)) (fun j h=>by simp[h]) (by simp) (fun j h=>by simp;omega)];refine nW _ 0 fun i f hi hwi=>?_;rw[qAv];by_cases hiq:i=l1.length
     ·subst hiq;rw[hD0];simp
     ·have hil:=(qAp.1 hi).1;rcases hw i hil hiq n (by rw[List.getD,hi];exact hwi)with h|⟨h1,h2⟩
      ·omega
      ·rcases hD i h2 with h|h
       ·rw[h];simp[h1]
       ·omega
    ·rw[obj?,obj?,qAn (by rw[(aM _ _).2,(aM _ _).2];omega),qAn (by rw[(aM _ _).2,(aM _ _).2];omega)]
   ·exact .inr e⟩)
  (l1++op::l2).length (Array.replicate (l1++op::l2).length false) _ a {w with drawn:=w.drawn+1} (by simp) (by simp) (by simp[Array.getD]) (fun j o _ hl=>by simp[Array.getD]at hl) (by rw[hfl];exact hr)
 grind
end
section
open Go
inductive Out{R γ:Type}(m:Nat)(h0:List TObj)(te:Nat)(pn:Int→DS→Option R)(ret:DS→Option R)(s:DS)(inj:R→Option γ)(k:Exit→DS→Option γ)(b:γ):QT
 |ret {s':DS} {r:R} {t:List AV} {h:List AObj}:Le m t h (aQ s'.h s'.t) (aD s'.h)→St m h0 s'→ret s'=some r→inj r=some b→Out m h0 te pn ret s inj k b .ret t h
 |jE {s':DS} {r:R} {v:Int} {t T:List AV} {h:List AObj}:Le m t h T (aD s'.h)→St m h0 s'→pn v s'=some r→inj r=some b→Out m h0 te pn ret s inj k b (jE (Ko te v)) t h
 |go {e:Exit} {s':DS} {t:List AV} {h:List AObj}:Le m t h (aQ s'.h s'.t) (aD s'.h)→St m h0 s'→Fr s s'→k e s'=some b→Out m h0 te pn ret s inj k b e t h
theorem Le.refl(m:Nat)(t:List AV)(h:List AObj):Le m t h t h:=fun _ κ _ _ _ hs=>⟨κ,hs⟩
section
variable {P:Program}{E:List Ent}{θ:Nat→Option ET}{n:Nat}{R:Type}{hs:List (Nat×Hn)}{ret:DS→Option R}{m:Nat}{h0:List TObj}{te:Nat}{pn:Int→DS→Option R}
def Snd(P:Program)(E:List Ent)(θ:Nat→Option ET)(n:Nat)(R:Type)(hs:List (Nat×Hn))(te:Nat)(pn:Int→DS→Option R)(ret:DS→Option R)(m:Nat)(h0:List TObj)(code:Code):Prop:=
 ∀(γ:Type) (p:Nat) (s:DS) (inj:R→Option γ) (k:Exit→DS→Option γ) (b:γ),St m h0 s→exe ⟨TI.of P,θ,n,R,hs,m,te,pn⟩ E ret code γ p s inj k=some b→AW P m code (Out m h0 te pn ret s inj k b) (aQ s.h s.t) (aD s.h)
theorem VD{γ:Type}{s s1:DS}{inj:R→Option γ}{k:Exit→DS→Option γ}{b:γ}(hf:Fr s s1)(e:Exit)(t:List AV)(h:List AObj)(ho:Out m h0 te pn ret s1 inj k b e t h):Out m h0 te pn ret s inj k b e t h:=by
 cases ho with
 |ret h1 h2 h3 h4=>exact .ret h1 h2 h3 h4
 |jE h1 h2 h3 h4=>exact .jE h1 h2 h3 h4
 |go h1 h2 h3 h4=>exact .go h1 h2 (hf.trans h3) h4
theorem ahG(hE:∀e∈E,aj P te e)(hte:nI P te=true)(hmix:P.follows .mixedOrders=true)(id:Nat)(ops:Array Oper)(draw:Bool):Snd P E θ n R hs te pn ret m h0 (.region id ops draw):=by
 intro γ p s inj k b hst h;have h:(fzH m (hint hs p) s fun s=>match Zh te s.t ops.toList with
   |some e=>bif draw then none else(pn e s).bind inj
   |none=>BK s.h 0 fun n'=>Kh (TI.of P) θ E (pxD (TI.of P) θ draw ops.toList n' fun v s=>(pn v s).bind inj) ops.toList ops.toList n' [] {s with h:=s.h++qV (rR ops.toList)} fun es s=>bif !draw ||fC ops.toList es then Yi s.h n' fun h=>fzA m (hint hs p) {s with h:=h} fun s=>k .normal s else none)=some b:=h
 obtain⟨sz,h,fz1,fz2,fz3⟩:=ajN hst.len hst.inv h;refine AW.le fz3 ((?_:AW P m (.region id ops draw) (Out m h0 te pn ret sz inj k b) (aQ sz.h sz.t) (aD sz.h)).mono (VD fz1));replace hst:=hst.step fz1 fz2;clear fz1 fz2 fz3
 revert h hst
 generalize sz=s;intro h hst;obtain⟨l⟩:=ops;cases hpr:Zh te s.t l with
 |some e=>
  have h:(bif draw then none else(pn e s).bind inj)=some b:=by simpa only[hpr]using h
  cases draw with
  |true=>cases h
  |false=>
   obtain⟨r,h1,h2⟩:=ob h;refine akK hte hpr (vR _ _) fun t'=>?_;exact .jE (Le.refl _ _ _) hst h1 h2
 |none=>
  have h:(BK s.h 0 fun n'=>Kh (TI.of P) θ E (pxD (TI.of P) θ draw l n' fun v s=>(pn v s).bind inj) l l n' [] {s with h:=s.h++qV (rR l)} fun es s=>bif !draw ||fC l es then Yi s.h n' fun h=>fzA m (hint hs p) {s with h:=h} fun s=>k .normal s else none)=some b:=by simpa only[hpr]using h
  rw[MO]at h;have hres:dJ {s with h:=s.h++qV (rR l)}=(dJ s).reserve (rR l):=by
   unfold dJ ASt.reserve;simp only[YQ,MR]
  rcases ZQ hE l _ _ _ _ (show Inv {s with h:=s.h++qV (rR l)}from⟨hst.inv.up,hst.inv.rl,hst.inv.cp⟩) h with⟨es',res,s',g1,g2,g3,g4,g5,g6⟩|⟨l1,op,l2,es1,res1,ep,ep',kx,s1,s',c,g0,g1,g2,g3,ga,gb,g4,g5,gc,g6,g7,gd⟩
  ·simp only[List.reverse_nil,qAz]at g2;obtain⟨hok,g2⟩:=(aX g2).resolve_right fun h=>by cases h.2
   obtain⟨hh,c,t1,t2,t3⟩:=U1 _ _ _ g2;have hlen:s'.h.length=s.h.length+(qV (rR l)).length:=by rw[g6];simp only[qAg]
   have hle:s.h.length≤hh.length:=t2 (by omega);have hfr:Fr s {s' with h:=hh}:=by
    refine⟨g4.tl,hle,g4.d,g4.om,g4.oo,fun l' hl hno=>?_⟩;have:=g4.o l' (by simp only[qAg];omega) hno;rw[iC hl]at this;rw[t1,iC (by omega)]at this;exact this
   have hq:Out m h0 te pn ret s inj k b .normal (dJ s').tmps (dJ s').heap:=by
    have hst2:=hst.step hfr ⟨g5.up,g5.rl,g5.cp⟩;obtain⟨sz,z1,z2,z3,z4⟩:=aof hst2.len hst2.inv t3;refine .go (s':=sz) ?_ (hst2.step z2 z3) (hfr.trans z2) z1;refine Le.trans ?_ z4;simp only[dJ,t1,YQ,MR];exact anO _ _ c
   rw[hres]at g1;refine AW.of ?_;cases draw with
   |false=>exact bF.region (l:=l) (s:=dJ s) _ g1.steps hq
   |true=>exact bF.drawn (l:=l) (s:=dJ s) _ hmix g1 (by rw[←XV g3];simpa using hok) hq
  ·rw[hres]at g1;have hsl:s.h.length≤s'.h.length:=by rw[g7];simp only[qAg];omega
   have hst':St m h0 s':=by
    refine⟨g6,qBn hst.len hsl,fun l' hl hno=>?_⟩;rw[g5.oo]at hno⊢;have hno:(l',0)∉s'.o++s.oo:=hno;simp only[qAA,not_or]at hno;have hl2:l'<s.h.length:=qAR hl hst.len;have e1:=g5.o l' (by simp only[qAg];omega) hno.1;rw[iC hl2]at e1;refine AO.trans (h:=hst.ent l' hl ?_) (e1.mono (g:=fun q=>decide ((l',q+1)∈s'.o++s.oo)) fun q hq=>?_) fun q hq=>?_
    ·simp only[qAA,not_or];exact⟨fun hm=>hno.1 (g5.om _ hm),hno.2⟩
    ·simp only[decide_eq_false_iff_not,qAA,not_or]at hq⊢;exact hq.1
    ·simp only[decide_eq_false_iff_not,qAA,not_or]at hq⊢;exact⟨fun hm=>hq.1 (g5.om _ hm),hq.2⟩
   subst g0;cases draw with
   |false=>
    have g4:(pn c s').bind inj=some b:=g4;obtain⟨r,k1,k2⟩:=ob g4;have hX:=g3 _ ⟨rfl,rfl,fun _ _=>rfl,fun _ _=>rfl⟩;rw[←gb]at hX;intro C κ a w hk hs;exact wp_region_lit (zL g1.steps hX.1 hX.2 C _ a w (hs.reserve (rR (l1++op::l2))) fun κ' a' w' hs'=>⟨dJ s',κ',.jE (Le.refl _ _ _) hst' k1 k2,hs'⟩)
   |true=>
    have hl1:res1.length=l1.length:=(af6 g2).trans g1.spec.1.symm;rw[qAs]at g4;have g4:Lr (TI.of P) θ (l1++op::l2) (fun q=>((ku (l1++op::l2) []).getD q []).contains res1.reverse.length) ((l1++op::l2).drop (res1.reverse.length+1)) (res1.reverse.length+1) kx [] s1 (fun late=>bif akF (l1++op::l2) s.h.length res1.reverse.length (res1.reverse.reverse++ep'::late) s'.h then(pn c (G6 s.h.length s')).bind inj else none)=some b:=g4;rw[List.reverse_reverse,qBH,hl1]at g4;have hdr:(l1++op::l2).drop (l1.length+1)=l2:=by rw[←qDl,qCu];rfl
    rw[hdr]at g4;obtain⟨late,res,k1,k2,k3,k4⟩:=Nl _ _ _ _ _ _ gc g4;obtain⟨ht,k1⟩:=(aX k1).resolve_right fun h=>by cases h.2
    obtain⟨r,k1,k5⟩:=ob k1;rw[List.reverse_nil,qAz]at ht;simp only[akF,qAa]at ht;obtain⟨t1,t2,t3⟩:=ht;have hsm:Sms (res1++ep'::res) (es1++ep::late):=amT g2 (.cons ga k2);obtain⟨c2,hc2⟩:∃c2,s'.h=s'.h.take s.h.length++qV c2:=⟨s'.h.length - s.h.length,by
     conv=>lhs;rw[←qCF s.h.length s'.h]
     congr 1;rw[F7];refine List.eq_replicate_iff.2 ⟨by simp,fun o ho=>?_⟩;have:=qAC.1 t2 o ho;unfold iq at this;split at this
     ·rfl
     ·cases this⟩
    have htl:(s'.h.take s.h.length).length=s.h.length:=by rw[qAx];omega
    have hO:∀n,n<s.h.length→obj? (aD (G6 s.h.length s').h) n=obj? (aD s'.h) n:=fun n hn=>by
     unfold G6;rw[hc2];simp only[List.take_append,htl,List.take_take,qDe,qDG,qAQ,qAs,aj8,MR];unfold obj?;rw[qAe (by simp only[aD,qAj,htl];exact hn),qAe (by simp only[aD,qAj,htl];exact hn)]
    refine ahq (n0:=s.h.length) (N:=rR (l1++op::l2)) (s0:=dJ s) (s1:=dJ s1) (late:=late) (h':=aD (G6 s.h.length s').h) hmix g1 g3 k3 (fun i o e h1 h2 h3=>k4 i o e h1 h2 (by simpa using h3)) (by rw[←XV hsm];exact t1) (fun i hi hne n hn=>?_) ?_ (fun n=>?_) (.jE (Le.refl _ _ _) ?_ k1 k5)
    ·have h1:=qAC.1 t3 i (qBZ.2 (by rw[af6 hsm];exact hi));rw[qBb]at h1;have h1:=h1.resolve_left fun h=>hne (qAc h);rw[ao6 hsm]at h1;have h2:=qAC.1 h1 n hn;simp only[qBb,qAa,qCl,Nat.ble_eq,Nat.blt_eq]at h2;exact h2
    ·have:(G6 s.h.length s').h.length=s1.h.length:=by
      rw[gd,←g7];unfold G6;simp only[qAg,qAx,qAV];omega
     simp only[dJ,aD,qAj,this]
    ·by_cases hn:n<s.h.length
     ·left;refine⟨hn,?_⟩;rw[hO n hn,←gb];rfl
     ·right;rw[gK,eH,List.getD];unfold G6;rw[qAi (by rw[htl];omega),qBp];split<;>rfl
    ·refine⟨⟨fun i k c h1=>(by cases h1),fun d i j h1=>(by cases h1),fun d x h1=>(by cases h1)⟩,?_,fun l' hl hno=>?_⟩
     ·unfold G6;simp only[qAg,qAx,qAV];have:=hst.len;omega
     ·have e1:nth .dead (G6 s.h.length s').h l'=nth .dead s'.h l':=by
       have:=hst.len;unfold G6;rw[hc2];simp only[List.take_append,htl,List.take_take,qDe,qDG,qAQ,qAs];rw[iC (by rw[htl];omega),iC (by rw[htl];omega)]
      rw[e1];exact hst'.ent l' hl hno
theorem amN{x y:Code}(hx:Snd P E θ n R hs te pn ret m h0 x)(hy:Snd P E θ n R hs te pn ret m h0 y):Snd P E θ n R hs te pn ret m h0 (.seq x y):=by
 intro γ p s inj k b hst h;have stJ:∀{eds:List Ed} (hw:dz s.h.length [] [] eds=true) (z:fU (aY eds)),St m h0 (kW (kg x) eds s (dG _ z)):=fun hw z=>hst.step (FU hw z) (U5 hw z hst.inv);have stF:St m h0 (fresh s):=⟨⟨hst.inv.up,hst.inv.rl,hst.inv.cp⟩,hst.len,by
  intro l hl hno;exact hst.ent l hl (by simpa[fresh]using hno) |>.mono fun q hq=>by simpa[fresh]using hq⟩
 have plain:(exe ⟨TI.of P,θ,n,R,hs,m,te,pn⟩ E ret x γ (2*p) s inj fun e s=>match e with
    | .normal=>exe ⟨TI.of P,θ,n,R,hs,m,te,pn⟩ E ret y γ (2*p+1) s inj k
    |e=>k e s)=some b→AW P m (.seq x y) (Out m h0 te pn ret s inj k b) (aQ s.h s.t) (aD s.h):=fun h=>by
  refine AW.seq ((hx γ _ s inj _ b hst h).mono fun e t hh ho=>?_);cases ho with
  |ret h1 h2 h3 h4=>exact .ret h1 h2 h3 h4
  |jE h1 h2 h3 h4=>exact .jE h1 h2 h3 h4
  |@go _ s' _ _ h1 h2 h3 h4=>
   cases e with
   |normal=>exact AW.le h1 ((hy γ _ s' inj k b h2 h4).mono (VD h3))
   |exit id=>exact .go h1 h2 h3 h4
   |goto l=>exact .go h1 h2 h3 h4
   |ret=>exact .go h1 h2 h3 h4
   |panic c=>exact .go h1 h2 h3 h4
   |outgrown=>exact .go h1 h2 h3 h4
 have behind:∀{eds:List Ed} (hw:dz s.h.length [] [] eds=true) (z:fU (aY eds)),exe ⟨TI.of P,θ,n,R,hs,m,te,pn⟩ E ret y γ (2*p+1) (kW (kg x) eds s (dG _ z)) inj k=some b→∀t hh,Le m t hh (aQ (kW (kg x) eds s (dG _ z)).h (kW (kg x) eds s (dG _ z)).t) (aD (kW (kg x) eds s (dG _ z)).h)→AW P m y (Out m h0 te pn ret s inj k b) t hh:=
  fun hw z h4 t hh hle=>AW.le hle ((hy γ _ _ inj k b (stJ hw z) h4).mono (VD (FU hw z)))
 have h:(match hint hs p with
   |some (.jn eds true)=>xH eds s <| Option.bind (exe ⟨TI.of P,θ,n,R,hs,m,te,pn⟩ E ret x (LR (fU (aY eds)) R) (2*p) (fresh s) (fun r=>some (.rt r)) fun e s'=>match e with
     | .normal=>zY (kg x) eds s s' fun us=>tq (aY eds) us fun x=>some (.nx x)
     |_=>none) (LR.el (fun z=>BM (kg x) eds s (dG (aY eds) z) fun s=>exe ⟨TI.of P,θ,n,R,hs,m,te,pn⟩ E ret y γ (2*p+1) s inj k) (fun r=>inj r))
   |some (.jn eds false)=>xH eds s <| Option.bind (exe ⟨TI.of P,θ,n,R,hs,m,te,pn⟩ E ret x (fU (aY eds)) (2*p) (fresh s) (fun _=>none) fun e s'=>match e with
     | .normal=>zY (kg x) eds s s' fun us=>tq (aY eds) us fun x=>some x
     |_=>none) fun z=>BM (kg x) eds s (dG (aY eds) z) fun s=>exe ⟨TI.of P,θ,n,R,hs,m,te,pn⟩ E ret y γ (2*p+1) s inj k
   |_=>exe ⟨TI.of P,θ,n,R,hs,m,te,pn⟩ E ret x γ (2*p) s inj fun e s=>match e with
    | .normal=>exe ⟨TI.of P,θ,n,R,hs,m,te,pn⟩ E ret y γ (2*p+1) s inj k
    |e=>k e s)=some b:=h
 split at h
 ·rename_i eds _;obtain⟨⟨w1,w2,w3⟩,h⟩:=JE h;obtain⟨res,h1,h2⟩:=ob h;refine AW.seq ((hx _ _ (fresh s) _ _ res stF h1).mono fun e t hh ho=>?_);cases ho with
  |ret g1 g2 g3 g4=>cases g4;exact .ret g1 g2 g3 h2
  |jE g1 g2 g3 g4=>cases g4;exact .jE g1 g2 g3 h2
  |@go _ s' _ _ g1 g2 g3 g4=>
   cases e with
   |normal=>
    obtain⟨z,z1,z2⟩:=K5 hst.len w1 w2 w3 g3 g4;cases z1;have h2:(BM (kg x) eds s (dG (aY eds) z) fun s=>exe ⟨TI.of P,θ,n,R,hs,m,te,pn⟩ E ret y γ (2*p+1) s inj k)=some b:=h2;rw[RZ]at h2;exact behind w3 z h2 t hh (g1.trans z2)
   |exit id=>cases g4
   |goto l=>cases g4
   |ret=>cases g4
   |panic c=>cases g4
   |outgrown=>cases g4
 ·rename_i eds _;obtain⟨⟨w1,w2,w3⟩,h⟩:=JE h;obtain⟨res,h1,h2⟩:=ob h;refine AW.seq ((hx _ _ (fresh s) _ _ res stF h1).mono fun e t hh ho=>?_);cases ho with
  |ret g1 g2 g3 g4=>cases g4
  |jE g1 g2 g3 g4=>cases g4
  |@go _ s' _ _ g1 g2 g3 g4=>
   cases e with
   |normal=>
    obtain⟨z,z1,z2⟩:=K5 hst.len w1 w2 w3 g3 g4;have e1:res=z:=(Option.some.inj z1).symm;rw[e1,RZ]at h2;exact behind w3 z h2 t hh (g1.trans z2)
   |exit id=>cases g4
   |goto l=>cases g4
   |ret=>cases g4
   |panic c=>cases g4
   |outgrown=>cases g4
 grind
theorem akS{x:Code}(hx:Snd P E θ n R hs te pn ret m h0 x):Snd P E θ n R hs te pn ret m h0 (.loop x):=by
 intro γ p s inj k b hst h;have h:(match hint hs p with
   |some (.lp hd e ex)=>xH hd s <| xH ex s <| zY (kg x) hd s (fresh s) fun us=>tq (aY hd) us fun x0=>
     Option.bind (aV (δ:=LR (fU (aY ex)) R) (fun rec z=>BM (kg x) hd (fresh s) (dG (aY hd) z) fun s1=>exe ⟨TI.of P,θ,n,R,hs,m,te,pn⟩ E ret x (LR (fU (aY ex)) R) (2*p) s1 (fun r=>some (.rt r)) fun e' s'=>match e' with
      | .normal=>zY (kg x) hd s s' fun us=>tq (aY hd) us rec
      | .exit id=>bif Nat.beq id e then zY (kg x) ex s s' fun us=>tq (aY ex) us fun y=>some (.nx y)else none
      |_=>none) n x0) (LR.el (fun y=>BM (kg x) ex s (dG (aY ex) y) fun s=>k (.exit e) s) (fun r=>inj r))
   |_=>none)=some b:=h
 split at h
 case h_2=>cases h
 rename_i hd e ex _;obtain⟨⟨w1,w2,w3⟩,h⟩:=JE h;obtain⟨⟨_,_,w4⟩,h⟩:=JE h;have stF:St m h0 (fresh s):=⟨⟨hst.inv.up,hst.inv.rl,hst.inv.cp⟩,hst.len,by
  intro l hl hno;exact hst.ent l hl (by simpa[fresh]using hno) |>.mono fun q hq=>by simpa[fresh]using hq⟩
 obtain⟨x0,h1,hle0⟩:=K5 hst.len w1 w2 w3 (Fr.refl (fresh s)) h;obtain⟨res,h2,h3⟩:=ob h1;generalize hbody:(fun(rec:fU (aY hd)→Option (LR (fU (aY ex)) R)) (z:fU (aY hd))=>BM (kg x) hd (fresh s) (dG (aY hd) z) fun s1=>exe ⟨TI.of P,θ,n,R,hs,m,te,pn⟩ E ret x (LR (fU (aY ex)) R) (2*p) s1 (fun r=>some (.rt r)) fun e' s'=>match e' with
      | .normal=>zY (kg x) hd s s' fun us=>tq (aY hd) us rec
      | .exit id=>bif Nat.beq id e then zY (kg x) ex s s' fun us=>tq (aY ex) us fun y=>some (.nx y)else none
      |_=>none)=body at h2
 let J:fU (aY hd)→DS:=fun z=>kW (kg x) hd (fresh s) (dG _ z)
 have Jav:∀z,aQ (J z).h (J z).t=aQ (kW (kg x) hd s (dG _ z)).h (kW (kg x) hd s (dG _ z)).t∧aD (J z).h=aD (kW (kg x) hd s (dG _ z)).h:=fun z=>⟨rfl,rfl⟩;refine AW.loop (fun c t hh=>∃z,aV body c z=some res∧Le m t hh (aQ (J z).h (J z).t) (aD (J z).h)) (n:=n) ⟨x0,h2,hle0⟩ ?_;rintro c t hh ⟨z,hz,hle⟩;cases c with
 |zero=>cases hz
 |succ c=>
  have hz:body (aV body c) z=some res:=hz;rw[←hbody]at hz;simp only at hz;rw[hbody,RZ]at hz;have stJ:St m h0 (J z):=stF.step (FU (s:=fresh s) w3 z) (U5 (s:=fresh s) w3 z stF.inv);refine AW.le hle ((hx _ _ (J z) _ _ res stJ hz).mono fun e' t' hh' ho=>?_);cases ho with
  |ret g1 g2 g3 g4=>cases g4;exact .ret g1 g2 g3 h3
  |jE g1 g2 g3 g4=>cases g4;exact .jE g1 g2 g3 h3
  |@go _ s' _ _ g1 g2 g3 g4=>
   have g3':Fr (fresh s) s':=(FU (s:=fresh s) w3 z).trans g3;cases e' with
   |normal=>
    obtain⟨z',z1,z2⟩:=K5 hst.len w1 w2 w3 g3' g4;exact⟨c,qCD c,z',z1,g1.trans z2⟩
   |exit id=>
    simp only at g4;obtain⟨hid,g5⟩:=(aX g4).resolve_right fun h=>by cases h.2
    have hid:=qAc hid;clear g4;subst hid;obtain⟨y,z1,z2⟩:=K5 hst.len w1 w2 w4 g3' g5;cases z1;have h3:(BM (kg x) ex s (dG (aY ex) y) fun s=>k (.exit id) s)=some b:=h3;rw[RZ]at h3;exact .go (g1.trans z2) (hst.step (FU w4 y) (U5 w4 y hst.inv)) (FU w4 y) h3
   |goto l=>cases g4
   |ret=>cases g4
   |panic c=>cases g4
   |outgrown=>cases g4
theorem KP(hE:∀e∈E,aj P te e)(hte:nI P te=true)(hmix:P.follows .mixedOrders=true)(code:Code):Snd P E θ n R hs te pn ret m h0 code:=by
 induction code with
 |skip=>intro γ p s inj k b hst h;exact AW.skip (.go (Le.refl _ _ _) hst (Fr.refl s) h)
 |region id ops draw=>exact ahG hE hte hmix id ops draw
 |seq x y hx hy=>exact amN hx hy
 |cond c x y hx hy=>
  intro γ p s inj k b hst h;have h:(match dF s.t c with
   | .lf .b b=>_root_.cond b (exe ⟨TI.of P,θ,n,R,hs,m,te,pn⟩ E ret x γ (2*p) (D8 c s) inj k) (exe ⟨TI.of P,θ,n,R,hs,m,te,pn⟩ E ret y γ (2*p+1) s inj k)
   |_=>none)=some b:=h
  split at h
  ·rename_i q hq;refine AW.vf fun hv=>AW.cond (b:=q) (by rw[bA,hq];rfl) (fun e=>?_) fun e=>?_
   ·subst e;obtain⟨e1,e2,e3,e4,e5,_⟩:=abd c s;have hi:=alj hst.inv hq hv;have:=hx γ _ (D8 c s) inj k b ⟨hi,by rw[e2];exact hst.len,by rw[e4,e5,e2];exact hst.ent⟩ h;rw[e1,e2]at this;exact this.mono fun e t hh ho=>by
     cases ho with
     |ret h1 h2 h3 h4=>exact .ret h1 h2 h3 h4
     |jE h1 h2 h3 h4=>exact .jE h1 h2 h3 h4
     |go h1 h2 h3 h4=>exact .go h1 h2 (anj h3 e1 e2 e3 e4 e5) h4
   ·subst e;exact hy γ _ s inj k b hst h
  ·cases h
 |block id x hx=>
  intro γ p s inj k b hst h;refine AW.block ((hx γ (2*p) s inj _ b hst h).mono fun e t hh ho=>?_);cases ho with
  |ret h1 h2 h3 h4=>exact .ret h1 h2 h3 h4
  |jE h1 h2 h3 h4=>exact .jE h1 h2 h3 h4
  |@go _ s' _ _ h1 h2 h3 h4=>
   cases e with
   |exit id'=>
    have h4:(bif Nat.beq id' id then k .normal s' else k (.exit id') s')=some b:=h4;refine ai7 (fun he=>?_) fun he=>?_
    ·have he:id'=id:=by simpa using he
     subst he;rw[jO,cond_true]at h4;exact .go h1 h2 h3 h4
    ·have he:id'≠id:=by simpa using he
     have hb:Nat.beq id' id=false:=by
      cases hb:Nat.beq id' id with
      |false=>rfl
      |true=>exact(he (qAc hb)).elim
     rw[hb,cond_false]at h4;exact .go h1 h2 h3 h4
   |normal=>exact .go h1 h2 h3 h4
   |goto l=>exact .go h1 h2 h3 h4
   |ret=>exact .go h1 h2 h3 h4
   |panic c=>exact .go h1 h2 h3 h4
   |outgrown=>exact .go h1 h2 h3 h4
 |loop x hx=>exact akS hx
 |exit id=>intro γ p s inj k b hst h;exact AW.exit (.go (Le.refl _ _ _) hst (Fr.refl s) h)
 |ret=>
  intro γ p s inj k b hst h;obtain⟨sz,h,fz1,fz2,fz3⟩:=ajN hst.len hst.inv h;obtain⟨r,h1,h2⟩:=ob h;exact AW.le fz3 (AW.ret (.ret (Le.refl _ _ _) (hst.step fz1 fz2) h1 h2))
 |_=>intro γ p s inj k b hst h;cases h
end
end
section
open Go
def uX(P:Program)(rs:List ResultVar)(m:Nat)(T:List TV)(hJ:List TObj)(t:List AV)(h:List AObj):Prop:=
 ∃t1 h1 xs,Le m t h t1 h1∧pX P ⟨t1,h1⟩ rs=some xs∧Le m xs h1 (aQ hJ T) (aD hJ)
def aeN(P:Program)(rs:List ResultVar)(m:Nat)(T:List TV)(hJ:List TObj):QT
 | .normal,t,h=>uX P rs m T hJ t h
 | .ret,t,h=>uX P rs m T hJ t h
 |_,_,_=>False
theorem aen{P:Program}{f:Nat}{fn:Func}{c:Code}{args:List AV}{H:List AObj}{T:List TV}{hJ:List TObj}(hf:P.funcs[f]? =some fn)(hb:fn.body=some c)(hlen:args.length≤fn.ntmps)(hJl:H.length≤hJ.length)
  (h:AW P H.length c (aeN P fn.results.toList H.length T hJ) (args++List.replicate (fn.ntmps - args.length) (.tup [])) H):aR P f args H (av hJ (res1 T)) (aD hJ):=by
 intro κ aB w vs hen hvl hr
 let C:Ctx:={aB:=aB,old:=fun b=>b<w.heap.size∧∀l,at? κ l=some b→¬live (obj? H l),w0:=w,k0:=κ,pvE:=aG aB κ H}
 refine calls_of_wp hf hb ?_;have hsim:Sim C κ ⟨args++List.replicate (fn.ntmps - args.length) (.tup []),H⟩ {tmps:=vs.toArray++Array.replicate (fn.ntmps - vs.toArray.size) undef,defers:=[]} w:=by
  refine⟨rfl,by simp[hvl],?_,hen.klen,bT.refl _,hen.resv,hen.obj,hen.apart,fun l b h1 h2 ho=>ho.2 l h1 h2,hen.bound,fun b o h=>⟨hen.pvlt b o h,fun l hl=>hen.pvdis b o l h hl⟩,fun b hb=>hb.1,fun _ _=>rfl,rfl,rfl,rfl,qAr _,fun _ _ h _=>h,Evo.refl _ _⟩;intro n hn;simp only[qAg,qAV]at hn;by_cases hlt:n<args.length
  ·have e1:(args++List.replicate (fn.ntmps - args.length) (AV.tup [])).getD n .unk=args.getD n .unk:=by simp[List.getD,qAe hlt]
   have e2:(vs.toArray++Array.replicate (fn.ntmps - vs.toArray.size) undef).getD n undef=vs.getD n undef:=by
    simp_all
   grind
  ·have e1:(args++List.replicate (fn.ntmps - args.length) (AV.tup [])).getD n .unk=.tup []:=by
    grind
   have e2:(vs.toArray++Array.replicate (fn.ntmps - vs.toArray.size) undef).getD n undef=undef:=by
    rw[qAm,qBF (by simp;omega),qCs];split<;>rfl
   rw[e1,e2];exact gY
 have hkl:C.k0.length≤H.length:=qBO hen.klen;refine wp_mono (h C κ _ w hkl hsim) ?_;rintro e a w' ⟨s,κf,hq,hs⟩;have fin:uX P fn.results.toList H.length T hJ s.tmps s.heap→a.defers=[]∧∃v,(results fn a.tmps).run P w'=.ok v w'∧∃v' κ',Ending.returned v=.returned v'∧Leave κ κ' aB H (aD hJ) w w'∧Rel w' κ' (aG aB κ' (aD hJ)) (av hJ (res1 T)) v':=by
  rintro⟨t1,h1,xs,q1,q2,q3⟩;obtain⟨κ1,hs1⟩:=q1 C κf a w' hkl hs;obtain⟨us,u1,u2,u3⟩:=Ci hs1 _ _ q2;have hsX:Sim C κ1 ⟨xs,h1⟩ {tmps:=us.toArray,defers:=a.defers} w':={hs1 with
   len:=by simp[u1]
   slot:=fun n hn=>by have:=u2 n hn;simpa[qAm,List.getD]using this}
  obtain⟨κ',hs2⟩:=q3 C κ1 _ w' hkl hsX;have hleave:Leave κ κ' aB H (aD hJ) w w':=by
   refine⟨hs2.klen,by simp only[aD,qAj];exact hJl,hs2.kext,hs2.resv,hs2.obj,?_,hs2.apart,hs2.bound,fun b hb hnl=>hs2.old b ⟨hb,hnl⟩,hs2.evo,hs2.pvsub,hs2.os,hs2.tape,hs2.output⟩;intro l b h1 h2;have hno:=hs2.own l b h1 h2;by_cases hlt:b<w.heap.size
   ·right;apply qAl;intro hne;exact hno ⟨hlt,fun l0 h0 hlv=>hne ⟨l0,h0,hlv⟩⟩
   ·left;omega
  have hT:us.length=(aQ hJ T).length:=by have:=hs2.len;simpa using this
  have hslot:∀n,n<(aQ hJ T).length→Rel w' κ' (aG aB κ' (aD hJ)) ((aQ hJ T).getD n .unk) (us.getD n undef):=fun n hn=>by
   have:=hs2.slot n hn;simpa[qAm,List.getD]using this
  refine⟨hs1.defers,?_⟩;have hm:(fn.results.mapM (Kw a.tmps)).run P w'=.ok us.toArray w':=by
   rw[qBK];simp only[Sem.run_map,u3,Result.andThen_ok]
  rw[Fu];simp only[Sem.run_bind,hm,Result.andThen_ok,Sem.run_pure];by_cases h1:us.length=1
  ·match us,h1 with
   |[u],_=>
    match T,hT with
    |[x],_=>
     refine⟨u,by simp,u,κ',rfl,hleave,?_⟩;have:=hslot 0 (by simp[aQ]);simpa[aQ,res1]using this
  ·refine⟨.tuple us.toArray,by simp[h1],_,κ',rfl,hleave,?_⟩;have hx:av hJ (res1 T)=.tup (aQ hJ T):=by
    match T,hT with
    |[],_=>rfl
    |[x],h=>exact(h1 (by simpa[aQ]using h)).elim
    |_::_::_,_=>rfl
   rw[hx];exact .tup hT hslot
 cases e with
 |normal=>exact fin hq
 |ret=>exact fin hq
 |exit id=>exact hq.elim
 |goto l=>exact hq.elim
 |panic c=>exact hq.elim
 |outgrown=>exact hq.elim
def alO(v:Value)(m:Nat)(H':List AObj):QT:=fun e t h=>e=jE v∧∃t1 h1,Le m t h t1 h1∧Le m [] h1 [] H'
theorem ajb{P:Program}{f:Nat}{fn:Func}{c:Code}{args:List AV}{H H':List AObj}{v:Value}(hf:P.funcs[f]? =some fn)(hb:fn.body=some c)(hlen:args.length≤fn.ntmps)(hJl:H.length≤H'.length)
  (h:AW P H.length c (alO v H.length H') (args++List.replicate (fn.ntmps - args.length) (.tup [])) H):zf P f args H v H':=by
 intro κ aB w vs hen hvl hr
 let C:Ctx:={aB:=aB,old:=fun b=>b<w.heap.size∧∀l,at? κ l=some b→¬live (obj? H l),w0:=w,k0:=κ,pvE:=aG aB κ H}
 refine calls_of_wp hf hb ?_;have hsim:Sim C κ ⟨args++List.replicate (fn.ntmps - args.length) (.tup []),H⟩ {tmps:=vs.toArray++Array.replicate (fn.ntmps - vs.toArray.size) undef,defers:=[]} w:=by
  refine⟨rfl,by simp[hvl],?_,hen.klen,bT.refl _,hen.resv,hen.obj,hen.apart,fun l b h1 h2 ho=>ho.2 l h1 h2,hen.bound,fun b o h=>⟨hen.pvlt b o h,fun l hl=>hen.pvdis b o l h hl⟩,fun b hb=>hb.1,fun _ _=>rfl,rfl,rfl,rfl,qAr _,fun _ _ h _=>h,Evo.refl _ _⟩;intro n hn;simp only[qAg,qAV]at hn;by_cases hlt:n<args.length
  ·have e1:(args++List.replicate (fn.ntmps - args.length) (AV.tup [])).getD n .unk=args.getD n .unk:=by simp[List.getD,qAe hlt]
   have e2:(vs.toArray++Array.replicate (fn.ntmps - vs.toArray.size) undef).getD n undef=vs.getD n undef:=by
    simp_all
   grind
  ·have e1:(args++List.replicate (fn.ntmps - args.length) (AV.tup [])).getD n .unk=.tup []:=by
    grind
   have e2:(vs.toArray++Array.replicate (fn.ntmps - vs.toArray.size) undef).getD n undef=undef:=by
    rw[qAm,qBF (by simp;omega),qCs];split<;>rfl
   rw[e1,e2];exact gY
 have hkl:C.k0.length≤H.length:=qBO hen.klen;refine wp_mono (h C κ _ w hkl hsim) ?_;rintro e a w' ⟨s,κf,⟨he,t1,h1,q1,q2⟩,hs⟩;obtain⟨κ1,hs1⟩:=q1 C κf a w' hkl hs;have hsX:Sim C κ1 ⟨[],h1⟩ {tmps:=#[],defers:=a.defers} w':={hs1 with
  len:=rfl
  slot:=fun n hn=>by cases hn}
 obtain⟨κ',hs2⟩:=q2 C κ1 _ w' hkl hsX;subst he;refine⟨hs1.defers,κ',rfl,?_⟩;refine⟨hs2.klen,hJl,hs2.kext,hs2.resv,hs2.obj,?_,hs2.apart,hs2.bound,fun b hb hnl=>hs2.old b ⟨hb,hnl⟩,hs2.evo,hs2.pvsub,hs2.os,hs2.tape,hs2.output⟩;intro l b h1 h2;have hno:=hs2.own l b h1 h2
 grind
theorem U2{P:Program}{γ:Type}{b:γ}{s:DS}:∀(rs:List ResultVar) (K:List TV→Option γ),Yg (TI.of P) s rs K=some b→∃vs,pX P (dJ s) rs=some (aQ s.h vs)∧vs.length=rs.length∧K vs=some b
 |[],K,h=>⟨[],rfl,rfl,h⟩
 | .tmp t::r,K,h=>by
  obtain⟨vs,h1,h2,h3⟩:=U2 r _ h;exact⟨nth .unk s.t t::vs,by
   show(pX P (dJ s) r).map _=_;rw[h1,qAw];show some ((dJ s).tmps.getD t .unk::aQ s.h vs)=some (av s.h (nth .unk s.t t)::aQ s.h vs);rw[show(dJ s).tmps.getD t .unk=av s.h (nth .unk s.t t)from vY _ _ _],by simp[h2],h3⟩
 | .cell a t::r,K,h=>by
  simp only[Yg]at h;split at h
  ·rename_i l off ha;split at h
   ·rename_i cs hl;obtain⟨v,g1,g2⟩:=RV (H:=s.h) h;obtain⟨vs,h1,h2,h3⟩:=U2 r _ g2;refine⟨v::vs,?_,by simp[h2],h3⟩;have e1:(dJ s).tmps.getD a .unk=.ptr l off:=by rw[show(dJ s).tmps.getD a .unk=av s.h (nth .unk s.t a)from vY _ _ _,ha];rfl
    have e2:obj? (dJ s).heap l=.box (aT s.h cs):=by rw[show obj? (dJ s).heap l=dM s.h (nth .dead s.h l)from gK _ _,hl];rfl
    simp only[pX,e1,e2,g1,h1,qAw,aQ]
   ·cases h
  ·cases h
theorem afM{l:List Nat}:∀{n:Nat},ahm l n=true→∀k,k<n→k∈l
 |0,_,k,h=>by omega
 |n+1,h,k,hk=>by
  simp only[ahm,qAa]at h;by_cases e:k=n
  ·subst e;exact mem_iff.1 h.1
  ·exact afM h.2 k (by omega)
mutual
theorem arX(n:Nat):∀v,AA (fun l=>Nat.blt l n) v=Ry n v
 | .ptr _ _=>rfl| .mapr _=>rfl| .own _=>rfl| .psl _ _ _=>rfl| .ap _ _ _ _=>rfl
 | .eptr cs=>Ml n cs
 | .agg cs=>Ml n cs
 | .tup cs=>Ml n cs
 | .func _ cs=>Ml n cs
 | .unk=>rfl| .nilp=>rfl| .nilF=>rfl| .nils=>rfl| .lf _ _=>rfl| .nat _=>rfl
theorem Ml(n:Nat):∀vs,jW (fun l=>Nat.blt l n) vs=eY n vs
 |[]=>rfl
 |v::vs=>by simp only[jW,eY,arX n v,Ml n vs]
end
theorem aiD{n:Nat}:∀{h:List TObj},(∀l,nth .dead h l≠ .res∧∀cs,nth .dead h l=.box cs→eY n cs=true)→zU n h=true
 |[],_=>rfl
 |o::h,k=>by
  simp only[zU,qAa];refine⟨?_,aiD fun l=>k (l+1)⟩;have:=k 0;change o≠ .res∧∀cs,o=.box cs→eY n cs=true at this
  grind
theorem Nt:∀(es:List Ed) (us:List U) (T T':List TV) (hh:List TObj),T.length=T'.length→(∀k,k∉gF es→nth .unk T k=nth .unk T' k)→bV bg es us T hh=bV bg es us T' hh
 |[],us,T,T',hh,hl,h=>by
  have:T=T':=by
   apply qCB hl;intro i h1 h2;have:=h i (by simp[gF]);rw[eH,eH,List.getD,List.getD,qAd h1,qAd h2]at this;exact this
  rw[this]
 | .r k s::es,us,T,T',hh,hl,h=>by
  refine Nt es _ _ _ _ (by simp[hl]) fun j hj=>?_;by_cases e:k=j
  ·subst e;by_cases hk:k<T.length
   ·rw[bB hk,bB (hl▸hk)]
   ·rw[iH (by rw[qAK];omega),iH (by rw[qAK];omega)]
  ·rw[aN e,aN e];exact h j (by simp only[gF,qAh,not_or];exact⟨fun x=>e x.symm,hj⟩)
 | .o l s::es,us,T,T',hh,hl,h=>Nt es _ T T' _ hl h
 | .w s::es,us,T,T',hh,hl,h=>Nt es _ T T' _ hl h
theorem M5:∀(es:List Ed) (us:List U) (T S:List TV) (hh:List TObj),(∀k∈gF es,k<T.length)→bV bg es us (T++S) hh=((bV bg es us T hh).1++S,(bV bg es us T hh).2)
 |[],us,T,S,hh,h=>rfl
 | .r k s::es,us,T,S,hh,h=>by
  simp only[bV];rw[List.set_append_left _ _ (h k (by simp[gF]))];exact M5 es _ _ S hh fun j hj=>by rw[qAK];exact h j (by simp[gF,hj])
 | .o l s::es,us,T,S,hh,h=>M5 es _ T S _ h
 | .w s::es,us,T,S,hh,h=>M5 es _ T S _ h
theorem adN(n k:Nat):eY n (bQ k)=true:=by
 unfold bQ
 induction k with
 |zero=>rfl
 |succ k ih=>simp only[qCO,eY,Ry,ih,qBR]
theorem anM(H:List TObj)(c:Nat):aQ H (List.replicate c (.tup []))=List.replicate c (.tup []):=by
 rw[mY,qCg];rfl
theorem ain(o:TObj)(hd:HO)(us:List U)(h:∀is,hd≠ .bx is):(aZ bg o hd us).1≠ .res:=by
 cases hd with
 |dead=>intro h;cases h
 |box cs=>intro h;cases h
 |bx is=>exact(h is rfl).elim
 |own e=>simp only[aZ];split<;>simp
 |mp e=>simp only[aZ];split<;>simp
 |arr e=>simp only[aZ];split<;>simp
theorem Z6{P:Program}{R:Type}{e:Ent}{rvs:List ResultVar}{inn:fU (aY e.rs)→Option R}{h r:List TV}{h0 h2:List TObj}{s:DS}{y:R}{out:R→fU (aY e.rs)}(hinn:∀z y,inn z=some y→out y=z)(edrs:dz (aC e.ps) [] [] e.rs=true)
  (hn:h0.length=aC e.ps) (hH:zU (aC e.ps) h0=true) (hnr:e.nr=rvs.length) (hst:St (aC e.ps) h0 s) (hK:yB (TI.of P) (aC e.ps) rvs e.rs inn s=some y) (hb:bV bg e.rs (dG _ (out y)) (bQ e.nr) h0=(r,h2)):
  uX P rvs (aC e.ps) r h2 (aQ s.h s.t) (aD s.h):=by
 obtain⟨vs,g1,g2,g3⟩:=U2 rvs _ hK;obtain⟨g4,g5⟩:=(aX g3).resolve_right fun h=>by cases h.2
 obtain⟨us,q1,q2⟩:=PO (n:=aC e.ps) (m:=aC e.ps) (T0:=bQ e.nr) hn (qAr _) (adN _ _) hH edrs (by unfold bQ;rw[qAV,g2,hnr]) hst.len
  (fun k _=>.inl (Sg _ _)) (YP edrs g4 hst.ent) g5
 obtain⟨z,rfl,q3⟩:=HY q1;rw[hinn _ _ q3]at hb;exact⟨_,_,_,Le.refl _ _ _,g1,(q2 _ _ hb).2.2⟩
theorem Sz{R:Type}{ps eds:List Ed}{h0 h2:List TObj}{r:List TV}{s:DS}{v:Int}{y:RT (some eds) R}(edw:dz (aC ps) [] [] eds=true)(hn:h0.length=aC ps)(hH:zU (aC ps) h0=true)(hst:St (aC ps) h0 s)
  (hK:Ns (R:=R) (aC ps) (some eds) v s=some y):∃z,y=PZ.er v z∧∀r h2,bV bg eds (dG _ z) (bQ 0) h0=(r,h2)→Le (aC ps) [] (aD s.h) [] (aD h2):=by
 obtain⟨g4,g5⟩:=(aX hK).resolve_right fun h=>by cases h.2
 obtain⟨us,q1,q2⟩:=PO (n:=aC ps) (m:=aC ps) (T0:=bQ 0) (t':=[]) hn (qAr _) (adN _ _) hH edw rfl hst.len (fun k _=>.inl (Sg _ _)) (YP edw g4 hst.ent) g5;obtain⟨z,rfl,q3⟩:=HY q1;refine⟨z,(Option.some.inj q3).symm,fun r h2 hb=>?_⟩;obtain⟨e1,_,e3⟩:=q2 r h2 hb;have:r=[]:=qAO.1 e1;subst this;exact e3
theorem alv{P:Program}{te:Nat}{θ:Nat→Option ET}{n:Nat}{hs:List (Nat×Hn)}{E:List Ent}{fn:Func}{e:Ent}(inn:fU (aY e.rs)→Option e.R)(hte:nI P te=true)(hmix:P.follows .mixedOrders=true)(hwf:Aj e=true)
  (hna:Nat.ble e.na fn.ntmps=true) (hE:∀e'∈E,aj P te e') (q:∀x,adg (TI.of P) θ n hs E te fn e inn x=e.F x) {x:fU (aY e.ps)} {y:RT e.pe e.R} (hF:e.F x=some y) {t:List TV} {h:List TObj} (hb1:bV bg e.ps (dG _ x) (bQ e.na) []=(t,h)):
  h.length=aC e.ps∧t.length=e.na∧e.na≤fn.ntmps∧zU (aC e.ps) h=true∧∃c s0,fn.body=some c∧AW P (aC e.ps) c (Out (aC e.ps) h te (Ns (aC e.ps) e.pe) (fun s=>RT.ok e.pe (yB (TI.of P) (aC e.ps) fn.results.toList e.rs inn s)) s0 some (fun x s=>match x with
   | .normal=>RT.ok e.pe (yB (TI.of P) (aC e.ps) fn.results.toList e.rs inn s)
   |_=>none) y) (aQ h t++List.replicate (fn.ntmps - e.na) (.tup [])) (aD h):=by
 unfold Aj at hwf;rw[qAa,qAa]at hwf;obtain⟨⟨hra,hwf⟩,hwp⟩:=hwf;rw[qAa]at hra;obtain⟨har,hal⟩:=hra;simp only[qAa]at hwf;obtain⟨edps,edrs,psok,rsok⟩:=hwf;have hal:∀k∈gF e.ps,k<e.na:=fun k hk=>qAf (qAC.1 hal k hk);have har:=afM har;have hna:=qAf hna;rw[←q x]at hF;unfold adg at hF;cases hbody:fn.body with
 |none=>rw[hbody]at hF;cases hF
 |some c=>
  rw[hbody]at hF;simp only at hF;rw[GQ]at hF;have typ:(dG (aY e.ps) x).map U.t=aY e.ps++[]:=by rw[BF,qAs]
  have B1:=mM e.ps (dG _ x) 0 [] [] (bQ e.na) [] [] typ edps (qAr _) rfl;rw[hb1]at B1;simp only at B1;have hul:(bQ e.na).length=e.na:=by unfold bQ;rw[qAV]
  have htl:t.length=e.na:=by rw[B1.tl,hul]
  have hhl:h.length=aC e.ps:=by rw[B1.hl,qAv]
  -- the slots of the whole frame
  have two:bV bg e.ps (dG _ x) (List.replicate fn.ntmps (.tup [])) []=(t++List.replicate (fn.ntmps - e.na) (.tup []),h):=by
   rw[Nt e.ps (dG _ x) (List.replicate fn.ntmps (.tup [])) (bQ e.na++List.replicate (fn.ntmps - e.na) (.tup [])) [] (by rw[qAg,hul,qAV,qAV];omega) (fun k hk=>?_),
    M5 e.ps (dG _ x) (bQ e.na) _ [] (fun k hk=>by rw[hul];exact hal k hk),hb1]
   have hge:e.na≤k:=by
    apply qAl;intro hlt;exact hk (har k (by omega))
   rw[eH,eH,List.getD,List.getD,qAi (by rw[hul];exact hge),hul,qBp,qBp];by_cases hk2:k<fn.ntmps
   ·rw[if_pos hk2,if_pos (by omega)]
   ·rw[if_neg hk2,if_neg (by omega)]
  rw[two]at hF;simp only at hF;have hH:zU (aC e.ps) h=true:=aiD fun l=>by
   by_cases hl:l<aC e.ps
   ·obtain⟨hd,us',e1,e2⟩:=B1.new l hl;rw[qAv]at e2;obtain⟨_,p2,p3⟩:=Dy psok hd e1;rw[e2];refine⟨ain _ hd us' p2,fun cs hc=>?_⟩;obtain⟨ss,rfl,rfl⟩:=PY p2 hc;rw[←Ml];exact vC (n:=aC e.ps) (ds:=[]) (fun l hl=>by simp only[qAa]at hl;exact hl.1) ss us' (p3 ss rfl)
   ·rw[iH (by omega)];exact⟨fun h=>(by cases h),fun cs h=>(by cases h)⟩
  have st0:St (aC e.ps) h ⟨t++List.replicate (fn.ntmps - e.na) (.tup []),h,[],[],[],[],[],[]⟩:=
   ⟨⟨fun i k c h1=>(by cases h1),fun d i j h1=>(by cases h1),fun d x h1=>(by cases h1)⟩,qBO hhl.symm,fun l _ _=>.inl rfl⟩
  have main:=KP (n:=n) (hs:=hs) (te:=te) (pn:=Ns (aC e.ps) e.pe) (ret:=fun s=>RT.ok e.pe (yB (TI.of P) (aC e.ps) fn.results.toList e.rs inn s)) (m:=aC e.ps) (h0:=h) hE hte hmix c _ 1 _ some _ y st0 hF;have ea:aQ h (t++List.replicate (fn.ntmps - e.na) (.tup []))=aQ h t++List.replicate (fn.ntmps - e.na) (.tup []):=by rw[mY,qBa,←mY,←mY,anM]
  simp only at main;rw[ea]at main;exact⟨hhl,htl,hna,hH,c,_,rfl,main⟩
theorem aod{P:Program}{te:Nat}{θ:Nat→Option ET}{n:Nat}{hs:List (Nat×Hn)}{E:List Ent}{fn:Func}{e:Ent}(inn:fU (aY e.rs)→Option e.R)(hte:nI P te=true)(hmix:P.follows .mixedOrders=true)(hf:P.funcs[e.f]? =some fn)(hok:ah P e.f=true)(hwf:Aj e=true)
  (hna:Nat.ble e.na fn.ntmps=true) (hnr:e.nr=fn.results.toList.length) (hinn:∀z y,inn z=some y→e.out y=z) (hE:∀e'∈E,aj P te e') (q:∀x,adg (TI.of P) θ n hs E te fn e inn x=e.F x):aj P te e:=by
 refine⟨hok,hwf,fun x y hF t h hb1=>?_⟩;have hw0:=hwf;unfold Aj at hwf;rw[qAa,qAa]at hwf;obtain⟨⟨_,hwf⟩,hwp⟩:=hwf;simp only[qAa]at hwf;obtain⟨edps,edrs,psok,rsok⟩:=hwf;obtain⟨hhl,htl,hnb,hH,c,s0,hbody,main⟩:=alv inn hte hmix hw0 hna hE q hF hb1;have hlH:(aD h).length=aC e.ps:=by rw[aD,qAj,hhl]
 -- a plain end
 have plain:∀(y0:e.R),(∀ex t' h',Out (aC e.ps) h te (Ns (aC e.ps) e.pe) (fun s=>RT.ok e.pe (yB (TI.of P) (aC e.ps) fn.results.toList e.rs inn s)) s0 some (fun x s=>match x with
   | .normal=>RT.ok e.pe (yB (TI.of P) (aC e.ps) fn.results.toList e.rs inn s)
   |_=>none) y ex t' h'→(ex=.normal∨ex=.ret)∧∃s',Le (aC e.ps) t' h' (aQ s'.h s'.t) (aD s'.h)∧St (aC e.ps) h s'∧yB (TI.of P) (aC e.ps) fn.results.toList e.rs inn s'=some y0)→
   ∀r h2,bV bg e.rs (dG _ (e.out y0)) (bQ e.nr) h=(r,h2)→aR P e.f (aQ h t) (aD h) (av h2 (res1 r)) (aD h2):=fun y0 hout r h2 hb2=>by
  refine aen hf hbody (by rw[vR];omega) ?_ ?_
  ·have B2:=mM e.rs (dG _ (e.out y0)) (aC e.ps) [] [] (bQ e.nr) h [] (by rw[BF,qAs]) edrs (qAr _) hhl;rw[hb2]at B2;rw[aD,qAj,B2.hl];omega
  ·rw[hlH,vR,htl];refine main.mono fun ex t' hh' ho=>?_;obtain⟨hx,s',g1,g2,g3⟩:=hout ex t' hh' ho;obtain⟨t1,h1,xs,k1,k2,k3⟩:=Z6 (h:=t) hinn edrs hhl hH hnr g2 g3 hb2;rcases hx with rfl|rfl
   ·exact⟨t1,h1,xs,g1.trans k1,k2,k3⟩
   ·exact⟨t1,h1,xs,g1.trans k1,k2,k3⟩
 obtain⟨f,na,ps,nr,rs,R,pe,F,out⟩:=e;simp only at *;cases pe with
 |none=>
  refine plain y fun ex t' h' ho=>?_;cases ho with
  |ret g1 g2 g3 g4=>cases g4;exact⟨.inr rfl,_,g1,g2,g3⟩
  |jE g1 g2 g3 g4=>cases g3
  |go g1 g2 g3 g4=>
   cases ex with
   |normal=>exact⟨.inl rfl,_,g1,g2,g4⟩
   |exit id=>cases g4
   |goto l=>cases g4
   |ret=>cases g4
   |panic c=>cases g4
   |outgrown=>cases g4
 |some eds=>
  simp only[qAa]at hwp;obtain⟨_,edw,_,_⟩:=hwp;have mapok:∀{o:Option R} {r:RT (some eds) R},RT.ok (some eds) o=some r→∃y0,o=some y0∧r=PZ.ok y0:=fun{o r} h=>by
   cases o with
   |none=>cases h
   |some y0=>exact⟨y0,rfl,(Option.some.inj h).symm⟩
  match y,main,plain with
  |PZ.ok y0,main,plain=>
   refine plain y0 fun ex t' h' ho=>?_;cases ho with
   |ret g1 g2 g3 g4=>
    cases g4;obtain⟨y1,e1,e2⟩:=mapok g3;cases e2;exact⟨.inr rfl,_,g1,g2,e1⟩
   |jE g1 g2 g3 g4=>
    cases g4;obtain⟨z,e1,_⟩:=Sz (r:=[]) (h2:=[]) edw hhl hH g2 g3;cases e1
   |go g1 g2 g3 g4=>
    cases ex with
    |normal=>
     obtain⟨y1,e1,e2⟩:=mapok g4;cases e2;exact⟨.inl rfl,_,g1,g2,e1⟩
    |exit id=>cases g4
    |goto l=>cases g4
    |ret=>cases g4
    |panic c=>cases g4
    |outgrown=>cases g4
  |PZ.er v z,main,_=>
   show ∀r h',bV bg eds (dG _ z) (bQ 0) h=(r,h')→zf P f (aQ h t) (aD h) (Ko te v) (aD h');intro r h2 hb2;have B2:=mM eds (dG _ z) (aC ps) [] [] (bQ 0) h [] (by rw[BF,qAs]) edw (qAr _) hhl;rw[hb2]at B2;refine ajb hf hbody (by rw[vR];omega) (by rw[hlH,aD,qAj,B2.hl];omega) ?_;rw[hlH,vR,htl];refine main.mono fun ex t' hh' ho=>?_;cases ho with
   |ret g1 g2 g3 g4=>
    cases g4;obtain⟨y1,e1,e2⟩:=mapok g3;cases e2
   |jE g1 g2 g3 g4=>
    cases g4;obtain⟨z',e1,e2⟩:=Sz (r:=[]) (h2:=[]) edw hhl hH g2 g3;cases e1;exact⟨rfl,_,_,g1,e2 r h2 hb2⟩
   |go g1 g2 g3 g4=>
    cases ex with
    |normal=>
     obtain⟨y1,e1,e2⟩:=mapok g4;cases e2
    |exit id=>cases g4
    |goto l=>cases g4
    |ret=>cases g4
    |panic c=>cases g4
    |outgrown=>cases g4
end
section
open Go
inductive EOs(P:Program)(te:Nat):List Ent→Prop
 |n:EOs P te []
 |c {e:Ent} {l:List Ent}:aj P te e→EOs P te l→EOs P te (e::l)
theorem EOs.all{P:Program}{te:Nat}{l:List Ent}(h:EOs P te l):∀e∈l,aj P te e:=by
 induction h with
 |n=>intro e he;cases he
 |c h _ ih=>intro e he;rcases qAh.1 he with rfl|he;exact h;exact ih e he
noncomputable def acK(P:Program)(fn:Func)(e:Ent):Bool:=ah P e.f&&(Aj e&&(Nat.ble e.na fn.ntmps&&Nat.beq e.nr fn.results.toList.length))
theorem mkE{P:Program}{te:Nat}{τ:Nat→TI}{θ:Nat→Option ET}(hτ:τ=TI.of P)(hte:nI P te=true)(hmix:P.follows .mixedOrders=true){n:Nat}{hs:List (Nat×Hn)}{E:List Ent}{fn:Func}{e:Ent}{inn:fU (aY e.rs)→Option e.R}(hE:EOs P te E)(hf:P.funcs[e.f]? =some fn)(hc:acK P fn e=true)
  (hinn:∀z y,inn z=some y→e.out y=z) (q:∀x,adg τ θ n hs E te fn e inn x=e.F x):aj P te e:=by
 unfold acK at hc;simp only[qAa]at hc;subst hτ;exact aod inn hte hmix hf hc.1 hc.2.1 hc.2.2.1 (qAc hc.2.2.2) hinn hE.all q
theorem oF{P:Program}{te:Nat}{fn:Func}{e:Ent}(hc:acK P fn e=true)(h:∀x,e.F x=none):aj P te e:=by
 unfold acK at hc;simp at hc;exact⟨hc.1,hc.2.1,fun x y hF=>by rw[h x]at hF;cases hF⟩
theorem sm{α:Type}:∀z y:α,some z=some y→y=z:=by grind
end
end Abs
end Go.Proofs.YtbijdmihdagfaaaGreatDoor
