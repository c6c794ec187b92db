/-
  Freezing objects of typed states. Conditions: none; lemmas.
-/
import Derived.Test.YthgdaonechbgmaaGreatCD21ox887227
set_option linter.all false
namespace Go.Proofs.YthgdaonechbgmaaGreat
namespace Abs
section
open Go
def Ko(l N:Nat):List (Option Nat):=(List.range N).map fun i=>if i=l then none else some i
theorem adV{l N i:Nat}(h:i<N):(Ko l N)[i]? =some (if i=l then none else some i):=by simp[Ko,h]
theorem ar3{l N i:Nat}(h:N≤i):(Ko l N)[i]? =none:=by simp[Ko,h]
theorem aFh(l N:Nat):(Ko l N).length=N:=by simp[Ko]
theorem QS{l N i j:Nat}(h:(Ko l N)[i]? =some (some j)):i<N∧i≠l∧j=i:=by
 by_cases hi:i<N
 ·rw[adV hi]at h
  grind
 ·rw[ar3 (by omega)]at h;cases h
theorem aqV(l N:Nat):some l∉Ko l N:=by
 intro h;obtain⟨i,hi⟩:=qAR h;obtain⟨_,h2,h3⟩:=QS hi
 grind
theorem aHI{l N i big:Nat}(h:i<N)(hne:i≠l):ou (Ko l N) big i=i:=by unfold ou;rw[adV h,if_neg hne];rfl
mutual
theorem alx:∀v,gy bS v=v
 | .ptr _ _=>rfl| .mapr _=>rfl| .own _=>rfl| .psl _ _ _=>rfl| .ap _ _ _ _=>rfl
 | .eptr cs=>by simp only[gy,LA cs]
 | .agg cs=>by simp only[gy,LA cs]
 | .tup cs=>by simp only[gy,LA cs]
 | .func _ cs=>by simp only[gy,LA cs]
 | .unk=>rfl| .nilp=>rfl| .nilF=>rfl| .nils=>rfl| .lf _ _=>rfl| .nat _=>rfl
theorem LA:∀vs,D7 bS vs=vs
 |[]=>rfl
 |v::vs=>by simp only[D7,alx v,LA vs]
end
theorem agv(H:List TObj)(l:Nat):∀(os:List TObj) (j:Nat),(xk H l j os).length=os.length
 |[],_=>rfl
 |o::os,j=>by simp only[xk,qAp,agv H l os]
theorem R3(H:List TObj)(l:Nat):∀(os:List TObj) (j i:Nat),nth .dead (xk H l j os) i=if j+i=l then .dead else acG H l (nth .dead os i)
 |[],j,i=>by
  simp only[xk];split<;>rfl
 |o::os,j,0=>by
  show(bif Nat.beq j l then TObj.dead else acG H l o)=_;by_cases e:j=l
  ·simp_all
  ·have hb:Nat.beq j l=false:=by
    cases hb:Nat.beq j l with
    |false=>rfl
    |true=>exact(e (qAj hb)).elim
   rw[hb,if_neg (by simpa using e)];rfl
 |o::os,j,i+1=>by
  show nth .dead (xk H l (j+1) os) i=if j+(i+1)=l then .dead else acG H l (nth .dead os i);rw[R3 H l os (j+1) i,show j+1+i=j+(i+1)from by omega]
theorem Ui(H:List TObj)(l:Nat):∀vs,og H l vs=vs.map (iK H l)
 |[]=>rfl
 |v::vs=>by simp only[og,qAy,Ui H l vs]
theorem zO(H:List TObj)(l:Nat)(vs:List TV)(k:Nat):nth .unk (og H l vs) k=iK H l (nth .unk vs k):=by
 rw[Ui];exact Xn (d:=.unk) (d':=.unk) (iK H l) rfl vs k
theorem Mr{a b:Nat}(h:a≠b):Nat.beq a b=false:=by
 cases hb:Nat.beq a b with
 |false=>rfl
 |true=>exact(h (qAj hb)).elim
theorem YK{a b:Nat}(h:(!(Nat.beq a b))=true):a≠b:=fun e=>by subst e;rw[o9]at h;cases h
mutual
theorem Ll(H:List TObj)(l:Nat):∀v,wJ l v=true→iK H l v=v
 | .ptr l' o,h=>by simp only[iK,Mr (YK h),cond_false]
 | .mapr l',h=>by simp only[iK,Mr (YK h),cond_false]
 | .own l',h=>by simp only[iK,Mr (YK h),cond_false]
 | .psl l' _ _,h=>by simp only[iK,Mr (YK h),cond_false]
 | .ap l' _ _ _,h=>by simp only[iK,Mr (YK h),cond_false]
 | .eptr cs,h=>by simp only[iK,L6 H l cs h]
 | .agg cs,h=>by simp only[iK,L6 H l cs h]
 | .tup cs,h=>by simp only[iK,L6 H l cs h]
 | .func _ cs,h=>by simp only[iK,L6 H l cs h]
 | .unk,_=>rfl| .nilp,_=>rfl| .nilF,_=>rfl| .nils,_=>rfl| .lf _ _,_=>rfl| .nat _,_=>rfl
theorem L6(H:List TObj)(l:Nat):∀vs,qZ l vs=true→og H l vs=vs
 |[],_=>rfl
 |v::vs,h=>by
  simp only[qZ,qAa]at h;simp only[og,Ll H l v h.1,L6 H l vs h.2]
end
def Oz(l N i:Nat):Bool:=Nat.blt i N&&!(Nat.beq i l)
mutual
theorem Yn(l N:Nat):∀v,rfB N v=true→wJ l v=true→Kt (Oz l N) v=true
 | .ptr l' o,h,k=>qBE.2 ⟨h,k⟩
 | .mapr l',h,k=>qBE.2 ⟨h,k⟩
 | .own l',h,k=>qBE.2 ⟨h,k⟩
 | .psl l' _ _,h,k=>qBE.2 ⟨h,k⟩
 | .ap l' _ _ _,h,k=>qBE.2 ⟨h,k⟩
 | .eptr cs,h,k=>Xy l N cs h k
 | .agg cs,h,k=>Xy l N cs h k
 | .tup cs,h,k=>Xy l N cs h k
 | .func _ cs,h,k=>Xy l N cs h k
 | .unk,_,_=>rfl| .nilp,_,_=>rfl| .nilF,_,_=>rfl| .nils,_,_=>rfl| .lf _ _,_,_=>rfl| .nat _,_,_=>rfl
theorem Xy(l N:Nat):∀vs,jw N vs=true→qZ l vs=true→oF (Oz l N) vs=true
 |[],_,_=>rfl
 |v::vs,h,k=>by
  simp only[jw,qAa]at h;simp only[qZ,qAa]at k;simp only[oF,qAa];exact⟨Yn l N v h.1 k.1,Xy l N vs h.2 k.2⟩
end
section
variable {H:List TObj}{l:Nat}
theorem asT{j:Nat}(hj:j≠l):gD j (nth .dead (xk H l 0 H) j)=gD j (nth .dead H j)∧∀z,eY j z (nth .dead (xk H l 0 H) j)=eY j z (nth .dead H j):=by
 rw[R3,if_neg (by simpa using hj)];cases nth .dead H j<;>exact⟨rfl,fun _=>rfl⟩
theorem avq:Lks bS (ou (Ko l H.length) (aB H).length) (Oz l H.length) H (xk H l 0 H):=by
 have ok:∀j,Oz l H.length j=true→j<H.length∧j≠l:=fun j h=>by
  unfold Oz at h;simp only[qAa]at h;exact⟨qAf h.1,YK h.2⟩
 have nm:∀j,Oz l H.length j=true→ou (Ko l H.length) (aB H).length j=j:=fun j h=>aHI (ok j h).1 (ok j h).2;refine⟨nm,fun j h=>?_,fun j z h=>?_⟩
 ·rw[(asT (ok j h).2).1];show gD j (nth .dead H j)=_;cases nth .dead H j<;>simp only[gD,ren,xu,nV,nm j h]
 ·rw[(asT (ok j h).2).2 z];show eY j z (nth .dead H j)=_;cases nth .dead H j<;>simp only[eY,ren,nm j h]
theorem WS{v:TV}(h:Kt (Oz l H.length) v=true):VW (aB H) (Ko l H.length) (av (xk H l 0 H) v) (av H v):=by
 have:=RX avq v h;rw[alx]at this;exact .same this.symm
theorem aC6{vs:List TV}(h:oF (Oz l H.length) vs=true):bq H vs=eT (ou (Ko l H.length) (aB H).length) (bq (xk H l 0 H) vs):=by
 have:=ad6 avq vs h;rwa[LA]at this
theorem ays{H:List TObj}{cs:List TV}{p:Decl×List Decl}(h:aAP H cs=some p):∃v,bq H cs=ET.enc .dec p.1++[v]∧(v=.flist (p.2.map (ET.enc .dec))∨v=.nilp∧p.2=[]):=by
 obtain⟨u,r,xs,h1,h2,h3⟩:=Xx _ _ _ _ h;have h3:=aqW h3;split at h1
 ·rename_i ys;obtain⟨x,rfl,h4⟩:=kS h1;cases h4;exact⟨_,by rw[h2,←h3];rfl,.inl rfl⟩
 ·obtain⟨x,rfl,h4⟩:=kS h1;cases h4;exact⟨_,by rw[h2,←h3];rfl,.inr ⟨rfl,rfl⟩⟩
 ·cases h1
theorem aCZ{v:TV}(h:one v):one (iK H l v):=by
 refine Zn fun e x q=>?_;cases v with
 |ptr l' o=>
  simp only[iK]at q;cases hb:Nat.beq l' l with
  |false=>rw[hb]at q;cases q
  |true=>
   unfold adC at q
   grind
 |mapr l'=>
  simp only[iK]at q
  grind
 |ap l' i z o=>
  simp only[iK]at q
  grind
 |own l'=>
  simp only[iK]at q;cases hb:Nat.beq l' l with
  |false=>rw[hb]at q;cases q
  |true=>
   unfold axb at q
   grind
 |psl l' z c=>
  simp only[iK]at q;cases hb:Nat.beq l' l with
  |false=>rw[hb]at q;cases q
  |true=>
   unfold axM at q
   grind
 |lf t y=>
  obtain⟨rfl,_⟩:=q;have:=wG h;cases e<;>cases this
 |_=>simp only[iK]at q;cases q
theorem anY(G:Nat→Nat)(xs:List AV)(j:Nat):ren G (xs.getD j .unk)=(eT G xs).getD j .unk:=by
 rw[vE];simp;cases xs[j]?<;>rfl
mutual
theorem amC(hH:∀cs,nth .dead H l=.box cs→jw H.length cs=true):∀v,rfB H.length v=true→VW (aB H) (Ko l H.length) (av (xk H l 0 H) (iK H l v)) (av H v)
 | .ptr l' o,h=>by
  by_cases e:l'=l
  ·subst e;simp only[iK,o9,cond_true];cases o with
   |succ o=>exact .unk _
   |zero=>
    simp only[adC];split
    ·rename_i cs hc;cases hn:qZ l' cs with
     |false=>exact .unk _
     |true=>
      simp only[cond_true];split
      ·rename_i p hp;obtain⟨v,h1,h2⟩:=ays hp;refine VW.frzF (cs':=ET.enc .dec p.1) (v:=v) (by rw[kV,hc];simp only[gV,h1]) (aqV _ _) rfl (fun j _=>?_) ?_
       ·refine .same ?_;have:=ac2 .dec (ou (Ko l' H.length) (aB H).length) p.1;rw[anY,this]
       ·rcases h2 with rfl|⟨rfl,h2⟩
        ·exact .same (congrArg AV.flist (nV .dec _ p.2))
        ·rw[h2];exact .nilF
      simp only[av];have hs:=aC6 (Xy l' H.length cs (hH cs hc) hn);refine VW.frz (cs':=bq H cs) (by rw[kV,hc];rfl) (aqV _ _) ?_ fun j=>?_
      ·rw[hs,jC];omega
      ·rw[qAL,hs];exact .same (anY _ _ _)
    ·exact .unk _
  ·have hn:wJ l (.ptr l' o)=true:=by simp only[wJ,Mr e];rfl
   rw[Ll _ _ _ hn];exact WS (Yn _ _ _ h hn)
 | .mapr l',h=>by
  by_cases e:l'=l
  ·subst e;simp only[iK,o9,cond_true];exact .unk _
  ·have hn:wJ l (.mapr l')=true:=by simp only[wJ,Mr e];rfl
   rw[Ll _ _ _ hn];exact WS (Yn _ _ _ h hn)
 | .ap l' i z o,h=>by
  by_cases e:l'=l
  ·subst e;simp only[iK,o9,cond_true];exact .unk _
  ·have hn:wJ l (.ap l' i z o)=true:=by simp only[wJ,Mr e];rfl
   rw[Ll _ _ _ hn];exact WS (Yn _ _ _ h hn)
 | .own l',h=>by
  by_cases e:l'=l
  ·subst e;simp only[iK,o9,cond_true,axb];split
   ·rename_i e xs hc;simp only[av,kr,hc,gD];exact .share (nV _ _ _)
   ·exact .unk _
  ·have hn:wJ l (.own l')=true:=by simp only[wJ,Mr e];rfl
   rw[Ll _ _ _ hn];exact WS (Yn _ _ _ h hn)
 | .psl l' z c,h=>by
  by_cases e:l'=l
  ·subst e;simp only[iK,o9,cond_true];cases c with
   |some k=>exact .unk _
   |none=>
    simp only[axM];split
    ·rename_i e xs hc;cases hs:acC e z with
     |false=>exact .unk _
     |true=>
      have hs:=Qm hs;subst hs;simp only[cond_true,av,kr,hc,eY];refine VW.adC (es0:=xs.map e.enc) (by rw[kV,hc];rfl) (aqV _ _) (by simp) ?_;rw[nV,qCg (by simp)]
    ·exact .unk _
  ·have hn:wJ l (.psl l' z c)=true:=by simp only[wJ,Mr e];rfl
   rw[Ll _ _ _ hn];exact WS (Yn _ _ _ h hn)
 | .eptr cs,h=>by simp only[iK,av];exact .eptr (jU (K9 hH cs h)).1 (jU (K9 hH cs h)).2
 | .agg cs,h=>by simp only[iK,av];exact .agg (jU (K9 hH cs h)).1 (jU (K9 hH cs h)).2
 | .tup cs,h=>by simp only[iK,av];exact .tup (jU (Sq hH cs h)).1 (jU (Sq hH cs h)).2
 | .func f cs,h=>by simp only[iK,av];exact .func (jU (Sq hH cs h)).1 (jU (Sq hH cs h)).2
 | .unk,_=>.same rfl| .nilp,_=>.same rfl| .nilF,_=>.same rfl| .nils,_=>.same rfl| .lf t x,_=>.same (Lb _ t x)| .nat _,_=>.same rfl
theorem K9(hH:∀cs,nth .dead H l=.box cs→jw H.length cs=true):∀vs,jw H.length vs=true→Rs (VW (aB H) (Ko l H.length)) (bq (xk H l 0 H) (og H l vs)) (bq H vs)
 |[],_=>.nil
 |v::vs,h=>by
  simp only[jw,qAa]at h;have h1:=amC hH v h.1;have h2:=K9 hH vs h.2;simp only[og,bq];refine Rs.app ?_ h2;rcases tC v with ho|⟨e,x,rfl⟩
  ·rw[ho,aCZ ho];exact .cons h1 .nil
  ·simp only[iK,AB];have:=(adL e x);generalize e.enc x=l at this;clear h1
   induction l with
   |nil=>exact .nil
   |cons a l ih=>exact .cons (.same (this a (by simp) _)) (ih fun b hb=>this b (by simp[hb]))
theorem Sq(hH:∀cs,nth .dead H l=.box cs→jw H.length cs=true):∀vs,jw H.length vs=true→Rs (VW (aB H) (Ko l H.length)) (aU (xk H l 0 H) (og H l vs)) (aU H vs)
 |[],_=>.nil
 |v::vs,h=>by
  simp only[jw,qAa]at h;simp only[og,aU];exact .cons (amC hH v h.1) (Sq hH vs h.2)
end
end
theorem aER{m l:Nat}{s:DS}(hm:m≤l)(ht:jw s.h.length s.t=true)(hh:Ji s.h.length s.h=true)(hmN:m≤s.h.length):Le m (aU s.h s.t) (aB s.h) (aU (Oy l s).h (Oy l s).t) (aB (Oy l s).h):=by
 have hH:∀cs,nth .dead s.h l=.box cs→jw s.h.length cs=true:=fun cs hc=>(yY hh).2 cs hc;refine Le.of (Ko l s.h.length) ⟨?_,?_,fun i hi=>?_,?_,?_,fun n=>?_,?_,?_⟩
 ·simp only[Oy,Em,Ui,qAi]
 ·simp only[Oy,aFh,aB,qAi,agv]
 ·rw[adV (by omega),if_neg (by omega)]
 ·intro i j k h1 h2 _ _;obtain⟨_,_,e1⟩:=QS h1;obtain⟨_,_,e2⟩:=QS h2;omega
 ·intro i k h1;obtain⟨h2,_,e1⟩:=QS h1;simp only[aB,qAi];omega
 ·rw[Ez,Ez];show VW _ _ (av (xk s.h l 0 s.h) (nth .unk (og s.h l s.t) n)) _;rw[zO];refine amC hH _ ?_;by_cases hn:n<s.t.length
  ·refine akE ht _ ?_;rw[jF,List.getD,qAc hn];exact qAO hn
  ·rw[mq (by omega)];rfl
 ·intro i k h1;obtain⟨h2,h3,e1⟩:=QS h1;subst e1;rw[kV,kV];show OW _ _ (gV (xk s.h l 0 s.h) (nth .dead (xk s.h l 0 s.h) k)) _;rw[R3,if_neg (by simpa using h3)];cases ho:nth .dead s.h k with
  |box cs=>
   have:=K9 hH cs ((yY hh).2 cs ho);exact .box (jU this).1 (jU this).2
  |own e xs=>exact .tip _
  |gone e xs=>exact .dead _
  |mp e xs=>exact .same rfl (by simp only[acG,gV,eU,Qo])
  |arr e xs=>exact .same rfl (by simp only[acG,gV,eU,nV])
  |gon n=>exact .dead _
  |dead=>exact .dead _
  |res=>exact .dead _
 ·intro i h1;have hi:i<s.h.length:=by
   apply qAn;intro hi;rw[ar3 (by omega)]at h1;cases h1
  rw[adV hi]at h1;have e:i=l:=by
   grind
  subst e;rw[kV];show dG (gV (xk s.h i 0 s.h) (nth .dead (xk s.h i 0 s.h) i))=false;rw[R3,if_pos (by omega)];rfl
theorem ad8{l k:Nat}:∀{vs:List TV} {j:Nat},(j+k)∉acL l j vs→wJ l (nth .unk vs k)=true
 |[],j,_=>by rw[mq (qAZ _)];rfl
 |v::vs,j,h=>by
  simp only[acL]at h;cases hv:wJ l v with
  |true=>
   rw[hv,cond_true]at h;cases k with
   |zero=>exact hv
   |succ k=>exact ad8 (vs:=vs) (j:=j+1) (by rwa[show j+1+k=j+(k+1)from by omega])
  |false=>
   rw[hv,cond_false,qAh,not_or]at h;cases k with
   |zero=>exact(h.1 (qAS _)).elim
   |succ k=>exact ad8 (vs:=vs) (j:=j+1) (by rw[show j+1+k=j+(k+1)from by omega];exact h.2)
theorem alz{l k:Nat}:∀{os:List TObj} {j:Nat},(j+k,0)∉Rm l j os→∀cs,nth .dead os k=.box cs→qZ l cs=true
 |[],j,_,cs,hc=>by rw[mq (qAZ _)]at hc;cases hc
 |o::os,j,h,cs,hc=>by
  have tl:∀k',k=k'+1→(j+1+k',0)∉Rm l (j+1) os→qZ l cs=true:=fun k' e hn=>by
   subst e;exact alz (os:=os) hn cs hc
  cases k with
  |zero=>
   subst hc;simp only[Rm]at h
   grind
  |succ k=>
   refine tl k rfl ?_;rw[show j+1+k=j+(k+1)from by omega];cases o with
   |box cs'=>
    simp only[Rm]at h
    grind
   |_=>simpa only[Rm]using h
theorem aEa(l:Nat)(s:DS)(hh:Ji s.h.length s.h=true):Fr s (Oy l s):=by
 refine⟨by simp only[Oy,Ui,qAi],by simp only[Oy,agv];exact qAd _,fun k hk=>?_,fun p hp=>?_,rfl,fun i hi hno=>?_⟩
 ·have hk:k∉acL l 0 s.t++s.d:=hk;rw[qAr,not_or]at hk;refine⟨hk.2,?_⟩;show nth .unk (og s.h l s.t) k=_;rw[zO,Ll _ _ _ (ad8 (j:=0) (by rw[qAL];exact hk.1))]
 ·exact qAk _ (qBz _ hp)
 ·have hno:(i,0)∉(l,0)::(Rm l 0 s.h++s.o):=hno;rw[qAh,qAr,not_or,not_or]at hno;have hne:i≠l:=fun e=>hno.1 (by rw[e]);have e1:nth .dead (Oy l s).h i=acG s.h l (nth .dead s.h i):=by
   show nth .dead (xk s.h l 0 s.h) i=_;rw[R3,if_neg (by simpa using hne)]
  rw[e1];cases ho:nth .dead s.h i with
  |box cs=>
   left;simp only[acG];rw[L6 _ _ _ (alz (j:=0) (by rw[qAL];exact hno.2.1) cs ho)]
  |res=>exact((yY hh).1 ho).elim
  |_=>exact .inl rfl
theorem ail(H:List TObj)(l:Nat)(v:TV):iK H l v=v∨((∃e xs,iK H l v=.lf (.l e) xs)∨∃e xs,iK H l v=.lf (.f e) xs)∨(∃cs,iK H l v=.eptr cs)∨(∃cs,iK H l v=.agg cs)∨(∃cs,iK H l v=.tup cs)∨(∃f cs,iK H l v=.func f cs)∨iK H l v=.unk:=by
 cases v with
 |ptr l' o=>
  simp only[iK];cases Nat.beq l' l with
  |false=>exact .inl rfl
  |true=>
   unfold adC
   grind
 |mapr l'=>
  simp only[iK]
  grind
 |ap l' i z o=>
  simp only[iK]
  grind
 |own l'=>
  simp only[iK];cases Nat.beq l' l with
  |false=>exact .inl rfl
  |true=>
   unfold axb
   grind
 |psl l' z c=>
  simp only[iK];cases Nat.beq l' l with
  |false=>exact .inl rfl
  |true=>
   unfold axM
   grind
 |eptr cs=>exact .inr (.inr (.inl ⟨_,rfl⟩))
 |agg cs=>exact .inr (.inr (.inr (.inl ⟨_,rfl⟩)))
 |tup cs=>exact .inr (.inr (.inr (.inr (.inl ⟨_,rfl⟩))))
 |func f cs=>exact .inr (.inr (.inr (.inr (.inr (.inl ⟨_,_,rfl⟩)))))
 |_=>exact .inl rfl
theorem asM(H:List TObj)(l:Nat)(v:TV){k:IntKind}{a:Int}(h:oQ (iK H l v)=some (k,a)):oQ v=some (k,a):=by
 rcases ail H l v with e|(⟨_,_,e⟩|⟨_,_,e⟩)|⟨_,e⟩|⟨_,e⟩|⟨_,e⟩|⟨_,_,e⟩|e<;>rw[e]at h<;>first|exact h|cases h
theorem aAr(H:List TObj)(l:Nat)(v:TV){k:IntKind}{a:Int}(h:oQ v=some (k,a)):oQ (iK H l v)=some (k,a):=by
 cases v<;>first|exact h|cases h
theorem aAJ(H:List TObj)(l:Nat)(v:TV){b:Bool}(h:iK H l v=.lf .b b):v=.lf .b b:=by
 rcases ail H l v with e|(⟨_,_,e⟩|⟨_,_,e⟩)|⟨_,e⟩|⟨_,e⟩|⟨_,e⟩|⟨_,_,e⟩|e<;>rw[e]at h<;>first|exact h|cases h
theorem aC9(l:Nat){s:DS}(hi:Inv s):Inv (Oy l s):=by
 refine⟨fun i k a h1 h2=>?_,fun d i j h1 k a h2=>?_,fun d x h1=>?_⟩
 ·have h2:oQ (nth .unk (og s.h l s.t) i)=some (k,a):=h2;rw[zO]at h2;exact hi.up i k a h1 (asM _ _ _ h2)
 ·have h2:oQ (nth .unk (og s.h l s.t) i)=some (k,a):=h2;rw[zO]at h2;obtain⟨c,g1,g2⟩:=hi.rl d i j h1 k a (asM _ _ _ h2);refine⟨c,?_,fun b hb=>g2 b ?_⟩
  ·show oQ (nth .unk (og s.h l s.t) j)=_;rw[zO];exact aAr _ _ _ g1
  ·have hb:nth .unk (og s.h l s.t) d=.lf .b b:=hb;rw[zO]at hb;exact aAJ _ _ _ hb
 ·show nth .unk (og s.h l s.t) d=nth .unk (og s.h l s.t) x;rw[zO,zO,hi.cp d x h1]
theorem alO{γ:Type}{b:γ}{m:Nat}:∀(ls:List Nat) (s:DS) (K:DS→Option γ),m≤s.h.length→Inv s→apX m ls s K=some b→∃s',K s'=some b∧Fr s s'∧Inv s'∧Le m (aU s.h s.t) (aB s.h) (aU s'.h s'.t) (aB s'.h)
 |[],s,K,_,hi,h=>⟨s,h,Fr.refl s,hi,fun _ κ _ _ _ hs=>⟨κ,hs⟩⟩
 |l::ls,s,K,hm,hi,h=>by
  simp only[apX]at h;rw[Yj]at h;obtain⟨hc,h⟩:=(bD h).resolve_right fun h=>by cases h.2
  simp only[qAa]at hc;have f1:=aEa l s hc.2.2.2;obtain⟨s',g1,g2,g3,g4⟩:=alO ls (Oy l s) K (qAs hm f1.hl) (aC9 l hi) h;exact⟨s',g1,f1.trans g2,g3,(aER (qAf hc.1) hc.2.2.1 hc.2.2.2 hm).trans g4⟩
end
section
open Go
def Xo(N:Nat):List (Option Nat):=(List.range N).map some
theorem alK{N i:Nat}(h:i<N):(Xo N)[i]? =some (some i):=by simp[Xo,h]
theorem aBx{N i:Nat}(h:N≤i):(Xo N)[i]? =none:=by simp[Xo,h]
theorem RI{N i:Nat}{o:Option Nat}(h:(Xo N)[i]? =some o):i<N∧o=some i:=by
 by_cases hi:i<N
 ·rw[alK hi]at h;exact⟨hi,(Option.some.inj h).symm⟩
 ·rw[aBx (by omega)]at h;cases h
theorem azb{N i big:Nat}(h:i<N):ou (Xo N) big i=i:=by unfold ou;rw[alK h];rfl
theorem EG(l:Nat):∀(vs:List TV) (k:Nat),nth .unk (ctT l vs) k=bif wJ l (nth .unk vs k)then nth .unk vs k else .unk
 |[],k=>by show nth (TV.unk) [] k=bif wJ l (nth TV.unk [] k)then nth TV.unk [] k else TV.unk;rw[mq (qAZ _)];rfl
 |v::vs,0=>rfl
 |v::vs,k+1=>EG l vs k
theorem amu(l:Nat):∀vs:List TV,(ctT l vs).length=vs.length
 |[]=>rfl
 |v::vs=>congrArg (·+1) (amu l vs)
theorem aCi{l:Nat}(e:ET)(x:e.D):∀v∈Mx e x,wJ l v=true:=by
 intro v hv;cases e<;>simp only[Mx,qAh]at hv<;>(repeat' (rcases hv with rfl|hv))<;>first|rfl|(subst hv;rfl)
theorem Y9{l:Nat}:∀{vs:List TV},qZ l vs=true→∀v∈aK vs,wJ l v=true
 |[],_,v,h=>by cases h
 |x::vs,h,v,hv=>by
  simp only[qZ,qAa]at h;simp only[aK,qAr]at hv;rcases hv with hv|hv
  ·rcases tC x with ho|⟨e,y,rfl⟩
   ·rw[wG ho,qAK]at hv;subst hv;exact h.1
   ·exact aCi e y v hv
  ·exact Y9 h.2 v hv
def LkO(H H':List TObj)(l:Nat):Prop:=∀j,j≠l→gD j (nth .dead H' j)=gD j (nth .dead H j)∧∀z,eY j z (nth .dead H' j)=eY j z (nth .dead H j)
section
variable {H H':List TObj}{l:Nat}
theorem aHF(hk:LkO H H' l):Lks bS (ou (Xo H.length) (aB H).length) (Oz l H.length) H H':=by
 have ok:∀j,Oz l H.length j=true→j<H.length∧j≠l:=fun j h=>by
  unfold Oz at h;simp only[qAa]at h;exact⟨qAf h.1,YK h.2⟩
 have nm:∀j,Oz l H.length j=true→ou (Xo H.length) (aB H).length j=j:=fun j h=>azb (ok j h).1;refine⟨nm,fun j h=>?_,fun j z h=>?_⟩
 ·rw[(hk j (ok j h).2).1];show gD j (nth .dead H j)=_;cases nth .dead H j<;>simp only[gD,ren,xu,nV,nm j h]
 ·rw[(hk j (ok j h).2).2 z];show eY j z (nth .dead H j)=_;cases nth .dead H j<;>simp only[eY,ren,nm j h]
theorem aeb(hk:LkO H H' l){v:TV}(h1:rfB H.length v=true)(h2:wJ l v=true):VW (aB H) (Xo H.length) (av H' v) (av H v):=by
 have:=RX (aHF hk) v (Yn l H.length v h1 h2);rw[alx]at this;exact .same this.symm
theorem aHJ(hk:LkO H H' l){v:TV}(h1:rfB H.length v=true):VW (aB H) (Xo H.length) (av H' (bif wJ l v then v else .unk)) (av H v):=by
 cases h:wJ l v with
 |true=>exact aeb hk h1 h
 |false=>exact .unk _
end
theorem ayV{γ:Type}{b:γ}{m l bx off:Nat}{s:DS}{K:DS→Option γ}(hm:m≤s.h.length)(hi:Inv s)(h:ctK l bx off s K=some b):∃s',K s'=some b∧Fr s s'∧Inv s'∧Le m (aU s.h s.t) (aB s.h) (aU s'.h s'.t) (aB s'.h):=by
 unfold ctK at h;split at h
 ·rename_i e xs cs hl hb;obtain⟨a,r,hf1,hf2,h⟩:=CZ _ _ _ _ h;split at h
  ·rename_i l' z c r;rw[Yj]at h;obtain⟨hc,h⟩:=(bD h).resolve_right fun h=>by cases h.2
   obtain⟨hc2,h⟩:=(bD h).resolve_right fun h=>by cases h.2
   rw[ni,ni]at h;simp only[qAa]at hc;obtain⟨⟨q1,q2,q3⟩,q4,q5,q6⟩:=hc;have q1:l'=l:=qAj q1;subst q1;have hcx:c≤xs.length:=qAf hc2;have hne:l'≠bx:=fun e=>by subst e;rw[hl]at hb;cases hb
   have hll:l'<s.h.length:=by
    apply qAn;intro hn;rw[mq (by omega)]at hl;cases hl
   have hbl:bx<s.h.length:=by
    apply qAn;intro hn;rw[mq (by omega)]at hb;cases hb
   refine⟨_,h,?_,?_,?_⟩
   ·refine⟨amu _ _,by simp,fun k hk=>?_,fun p hp=>?_,rfl,fun i hi hno=>?_⟩
    ·have hk:k∉acL l' 0 s.t++s.d:=hk;rw[qAr,not_or]at hk;refine⟨hk.2,?_⟩;show nth .unk (ctT l' s.t) k=_;rw[EG,ad8 (j:=0) (by rw[qAL];exact hk.1)];rfl
    ·exact qAk _ (qAk _ hp)
    ·have hno:(i,0)∉(l',0)::(bx,off+1)::s.o:=hno;rw[qAh,not_or]at hno;have hil:l'≠i:=fun e=>hno.1 (by rw[e]);by_cases hib:bx=i
     ·subst hib;refine .inr ⟨cs,a++ .psl l' z none::r,hb,by rw[cK (by rw[qAT];exact hbl)],?_,fun q hq=>?_⟩
      ·rw[hf1,zI];simp only[aK,qAe];rfl
      ·have hq:decide ((bx,q+1)∈(l',0)::(bx,off+1)::s.o)=false:=hq;have hqo:q≠off:=fun e=>by subst e;simp at hq
       rw[hf1,zI];by_cases hlt:q<off
       ·rw[qAg (by omega),qAg (by omega)]
       ·rw[qAl (by omega),qAl (by omega)];simp only[aK,Uv,qAM,qAo];obtain⟨k,hk⟩:∃k,q - (aK a).length=k+1:=⟨q - (aK a).length - 1,by omega⟩;rw[hk];rfl
     ·refine .inl ?_;show nth .dead ((s.h.set l' _).set bx _) i=_;rw[aX hib,aX hil]
   ·refine⟨fun i k a h1 h2=>?_,fun d i j h1 k a h2=>?_,fun d x h1=>?_⟩
    ·have h2:oQ (nth .unk (ctT l' s.t) i)=some (k,a):=h2;rw[EG]at h2;refine hi.up i k a h1 ?_;cases hn:wJ l' (nth .unk s.t i)<;>rw[hn]at h2<;>first|exact h2|cases h2
    ·have h2:oQ (nth .unk (ctT l' s.t) i)=some (k,a):=h2;rw[EG]at h2;have h3:oQ (nth .unk s.t i)=some (k,a):=by
      cases hn:wJ l' (nth .unk s.t i)<;>rw[hn]at h2<;>first|exact h2|cases h2
     obtain⟨c,g1,g2⟩:=hi.rl d i j h1 k a h3;refine⟨c,?_,fun b hb=>g2 b ?_⟩
     ·show oQ (nth .unk (ctT l' s.t) j)=_;have:wJ l' (nth .unk s.t j)=true:=by
       revert g1;generalize nth .unk s.t j=v;intro g1
       cases v<;>first|rfl|cases g1
      rw[EG,this];exact g1
     ·have hb:nth .unk (ctT l' s.t) d=.lf .b b:=hb;rw[EG]at hb;cases hn:wJ l' (nth .unk s.t d)<;>rw[hn]at hb<;>first|exact hb|cases hb
    ·show nth .unk (ctT l' s.t) d=nth .unk (ctT l' s.t) x;rw[EG,EG,hi.cp d x h1]
   ·have hk:LkO s.h ((s.h.set l' (.arr e (xs.take c))).set bx (.box (a++ .psl l' z none::r))) l':=fun j hj=>by
     by_cases e2:bx=j
     ·subst e2;rw[cK (by rw[qAT];exact hbl),hb];exact⟨rfl,fun _=>rfl⟩
     ·rw[aX e2,aX (qBo hj)];exact⟨rfl,fun _=>rfl⟩
    refine Le.of (Xo s.h.length) ⟨?_,?_,fun i hi=>alK (by omega),?_,?_,fun n=>?_,?_,?_⟩
    ·simp only[Em,amu]
    ·simp[Xo,aB]
    ·intro i j k h1 h2 _ _;have:=(RI h1).2;have:=(RI h2).2
     simp_all
    ·intro i k h1;obtain⟨h2,h3⟩:=RI h1;cases h3;simpa[aB]using h2
    ·rw[Ez,Ez];show VW _ _ (av _ (nth .unk (ctT l' s.t) n)) _;rw[EG];refine aHJ hk ?_;by_cases hn:n<s.t.length
     ·refine akE q5 _ ?_;rw[jF,List.getD,qAc hn];exact qAO hn
     ·rw[mq (by omega)];rfl
    ·intro i k h1;obtain⟨h2,h3⟩:=RI h1;cases h3;rw[kV,kV];show OW _ _ (gV _ (nth .dead ((s.h.set l' (.arr e (xs.take c))).set bx (.box (a++ .psl l' z none::r))) i)) _;by_cases e2:bx=i
     ·subst e2;rw[cK (by rw[qAT];exact hbl),hb];have hrf:=Q5 ((yY q6).2 cs hb);rw[hf1]at hrf;refine YF (by rw[zI,hf1];simp only[aK,qAe];rfl) fun q hq=>?_;rw[hf1,zI];have cell:∀v,v∈aK a∨v∈aK r→VW (aB s.h) (Xo s.h.length) (av ((s.h.set l' (.arr e (xs.take c))).set bx (.box (a++ .psl l' z none::r))) v) (av s.h v):=fun v hv=>by
       rcases hv with hv|hv
       ·exact aeb hk (hrf v (qBw _ hv)) (Y9 q2 v hv)
       ·exact aeb hk (hrf v (qBz _ (by simp only[aK,qAr];exact .inr hv))) (Y9 q3 v hv)
      simp only[List.getD];by_cases hlt:q<(aK a).length
      ·rw[qAg hlt,qAg hlt,qAc hlt];exact cell _ (.inl (qAO hlt))
      ·rw[qAl (by omega),qAl (by omega)];simp only[aK,Uv,qAM,qAo];generalize q - (aK a).length=k;cases k with
       |zero=>
        simp only[qAG,qAw];refine .same ?_;simp only[av,aX (qBo hne),cK hll,eY,ren,azb hll,qAz,Nat.min_eq_left hcx]
       |succ k=>
        simp only[qBp];cases hg:(aK r)[k]? with
        |none=>exact .unk _
        |some v=>exact cell v (.inr (qAF hg))
     ·rw[aX e2];by_cases e3:l'=i
      ·subst e3;rw[cK hll,hl];refine OW.arr (n:=c) ?_;rw[nV,List.map_take]
      ·rw[aX e3];cases ho:nth .dead s.h i with
       |box cs2=>
        have hna:qZ l' cs2=true:=alz (j:=0) (k:=i) (by
         intro hm;rw[qAL]at hm;have:=qAP.1 q4 _ hm;exact e2 (qAj this).symm) cs2 ho
        have hrf:=Q5 ((yY q6).2 cs2 ho);refine YF rfl fun q hq=>?_;rw[List.getD,qAc hq];exact aeb hk (hrf _ (qAO hq)) (Y9 hna _ (qAO hq))
       |own e xs=>exact .tip _
       |gone e xs=>exact .dead _
       |mp e xs=>exact .same rfl (by simp only[gV,eU,Qo])
       |arr e xs=>exact .same rfl (by simp only[gV,eU,nV])
       |gon n=>exact .dead _
       |dead=>exact .dead _
       |res=>exact((yY q6).1 ho).elim
    ·intro i h1;cases(RI h1).2
  ·cases h
 ·cases h
theorem aAQ{γ:Type}{b:γ}{m:Nat}{hn:Option Hn}{s:DS}{K:DS→Option γ}(hm:m≤s.h.length)(hi:Inv s)(h:fzH m hn s K=some b):∃s',K s'=some b∧Fr s s'∧Inv s'∧Le m (aU s.h s.t) (aB s.h) (aU s'.h s'.t) (aB s'.h):=by
 unfold fzH at h;split at h
 ·exact alO _ _ _ hm hi h
 ·exact ayV hm hi h
 ·exact⟨s,h,Fr.refl s,hi,fun _ κ _ _ _ hs=>⟨κ,hs⟩⟩
theorem aHl{γ:Type}{b:γ}{m:Nat}{hn:Option Hn}{s:DS}{K:DS→Option γ}(hm:m≤s.h.length)(hi:Inv s)(h:fzA m hn s K=some b):∃s',K s'=some b∧Fr s s'∧Inv s'∧Le m (aU s.h s.t) (aB s.h) (aU s'.h s'.t) (aB s'.h):=by
 unfold fzA at h;split at h
 ·exact ayV hm hi h
 ·exact alO _ _ _ hm hi h
 ·exact⟨s,h,Fr.refl s,hi,fun _ κ _ _ _ hs=>⟨κ,hs⟩⟩
end
section
open Go
def uf(P:Program)(te:Nat):Bool:=match P.underlying te with
 |some (.int _)=>true
 |_=>false
theorem aD6{P:Program}{o:Oper}{s:ASt}{te:Nat}{e:Int}(hte:uf P te=true)(ho:o.op=.makeInterface te (.const (.int .i64 e))):zD P o s (s.wr (aA o.dst (.ifc te (.int .i64 e)))):=
 pI fun C κ a w hs=>by
  refine⟨.iface te (.int .i64 e),κ,w,?_,hs.aA o.dst (.ifc _ _)⟩;unfold uf at hte;split at hte
  ·rename_i k hk;simp[execOp,ho,Instr.makeInterface,underlying,hk,Act.eval]
  ·cases hte
theorem ayq{P:Program}{o:Oper}{s:ASt}{x:Operand}{t:Nat}{v:Value}(ho:o.op=.panic x)(hx:bL s.tmps x=.ifc t v):OpX P o (.iface t v) s s:=by
 intro C κ a w hs next Q hn
 have hr:=hs.ev x;rw[hx]at hr;have he:a.eval x=.iface t v:=by
  generalize a.eval x=u at hr;cases hr;rfl
 unfold Oper.wp;have hrun:(execOp a.eval o).run P w=.halt (.panic (.iface t v)) w:=by
  simp[execOp,ho,he,Instr.panic]
 rw[hrun];exact hn κ w hs
theorem aEu{te:Nat}{T:List TV}{l:List Oper}{e:Int}(h:akZ te T l=some e):∃o1 o2 d,d<T.length∧l=[o1,o2]∧o1.op=.makeInterface te (.const (.int .i64 e))∧o1.dst=some d∧o1.guard=none∧o2.op=.panic (.tmp d)∧o2.dst=none∧o2.guard=none:=by
 unfold akZ at h;split at h
 ·rename_i o1 o2;split at h
  ·rename_i t e' d h1 h2 h3;split at h
   ·rename_i d' h4 h5 h6;rcases bD h with⟨hc,h⟩|⟨_,h⟩
    ·cases h;simp only[qAa]at hc;have e1:=qAj hc.1;have e2:=qAj hc.2.1;subst e1;subst e2;exact⟨o1,o2,d,qAf hc.2.2,rfl,h1,h2,h3,h4,h5,h6⟩
    ·cases h
   ·cases h
  ·cases h
 ·cases h
theorem aCF{P:Program}{te m id:Nat}{l:List Oper}{e:Int}{Q:QT}{t:List AV}{h:List AObj}(hte:uf P te=true){T:List TV}(hp:akZ te T l=some e)(hd:t.length=T.length)(hq:∀t',Q (qd (Cz te e)) t' h):AW P m (.region id l.toArray false) Q t h:=by
 obtain⟨o1,o2,d,hdT,hl,g1,g2,g3,g4,g5,g6⟩:=aEu hp;subst hl;intro C κ a w hk hs;have hw1:eG [o1,o2].toArray t o1=some true:=by unfold eG;rw[g3]
 have hw2:eG [o1,o2].toArray (t.set d (.ifc te (.int .i64 e))) o2=some true:=by unfold eG;rw[g6]
 have st1:zD P o1 ⟨t,h⟩ ⟨t.set d (.ifc te (.int .i64 e)),h⟩:=by
  have:=aD6 (P:=P) (o:=o1) (s:=⟨t,h⟩) hte g1;rw[g2]at this;exact this
 have hx:bL (t.set d (.ifc te (.int .i64 e))) (.tmp d)=.ifc te (.int .i64 e):=by
  show(t.set d _).getD d .unk=_
  grind
 refine wp_region_lit (Qg (l1:=[o1]) (op:=o2) (l2:=[]) (.cons (.inl ⟨hw1,st1⟩) (.nil _)) hw2 (ayq g4 hx) C κ a w hs fun κ' a' w' hs'=>⟨⟨t.set d (.ifc te (.int .i64 e)),h⟩,κ',hq _,hs'⟩)
end
section
open Go
theorem lk_dead(H:List TObj)(c l:Nat):Lk H (H++List.replicate c .dead) l:=by
 unfold Lk;by_cases hl:l<H.length
 ·rw[rA hl];exact⟨rfl,fun _=>rfl⟩
 ·rw[mq (by omega:H.length≤l)];have:nth .dead (H++List.replicate c .dead) l=.dead:=by
   rw[jF,List.getD,qAl (by omega),qCa]
   grind
  rw[this];exact⟨rfl,fun _=>rfl⟩
theorem avOs_dead(H:List TObj)(c:Nat):aB (H++List.replicate c .dead)=aB H++List.replicate c .dead:=by
 unfold aB;rw[qBj,qCs];congr 1;exact qBu fun o _=>(aBy o fun cs _ l _=>lk_dead H c l).symm
theorem sms_app{a b c d:List Eff}(h:Sms a b)(k:Sms c d):Sms (a++c) (b++d):=by
 induction h with
 |nil=>exact k
 |cons h _ ih=>exact .cons h ih
theorem sms_len{a b:List Eff}(h:Sms a b):a.length=b.length:=by
 induction h with
 |nil=>rfl
 |cons _ _ ih=>simp[ih]
theorem sms_at{a b:List Eff}(h:Sms a b):∀i,jS (a.getD i wT).ws=jS (b.getD i wT).ws:=by
 induction h with
 |nil=>intro i;rfl
 |cons h _ ih=>
  intro i;cases i with
  |zero=>exact h.wo
  |succ i=>simpa using ih i
theorem region_thr{P:Program}{id m n0 N:Nat}{l1 l2:List Oper}{op:Oper}{es1 late:List Eff}{ep:Eff}{v:Value}{Q:QT}{s0 s1:ASt}{h':List AObj}(hm:P.follows .mixedOrders=true)
  (g1:ATr P (l1++op::l2).toArray l1 es1 (s0.reserve N) s1) (g3:aik P (l1++op::l2).toArray op v s1 ep) (hlate:late.length=l2.length)
  (k4:∀i o e,l2[i]? =some o→late[i]? =some e→l1.length∉(FD (l1++op::l2) []).getD (l1.length+1+i) []→Jq P (l1++op::l2).toArray o (s1.wr (bP (fun j=>decide (j<i)) 0 late)) e)
  (hok:ng (l1++op::l2) (es1++ep::late)=true)
  (hw:∀i,i<(es1++ep::late).length→i≠l1.length→∀n∈jS ((es1++ep::late).getD i wT).ws,n0≤n∨(i<l1.length∧i∈(FD (l1++op::l2) []).getD l1.length []))
  (hl:h'.length=s1.heap.length) (ho:∀n,(n<n0∧obj? h' n=obj? (s1.wr ep.ws).heap n)∨obj? h' n=.dead)
  (hq:Q (.panic [{v,recovered:=false}]) (List.replicate s1.tmps.length .unk) h'):AW P m (.region id (l1++op::l2).toArray true) Q s0.tmps s0.heap:=by
 intro C κ a w _ hs;refine wp_region_any hm ?_;have hr:=(Sim.reserve (s:=s0) hs N).sameHeap (w':={w with drawn:=w.drawn+1}) rfl rfl rfl rfl;obtain⟨hlen,hs',heff⟩:=g1.spec;have e0:∀D:Nat→Bool,(∀j,j<l1.length→D j=true)→D l1.length=false→(∀j,l1.length<j→D j=false)→bP D 0 (es1++ep::late)=bP (fun _=>true) 0 es1:=fun D h1 h2 h3=>by
  rw[flatD_app,qAL,flatD_no (ep::late) es1.length (fun i _=>by
   rw[←hlen];cases i with
   |zero=>exact h2
   |succ i=>exact h3 _ (by omega)),qAt]
  exact flatD_congr es1 0 0 fun i hi=>by rw[qAL];exact h1 i (by omega)
 have hfl:bP (fun i=>(Array.replicate (l1++op::l2).length false).getD i false) 0 (es1++ep::late)=[]:=flatD_no _ _ fun i _=>by simp[Array.getD]
 have hx:aik P (l1++op::l2).toArray op v ((s0.reserve N).wr (bP (fun j=>decide (j<l1.length)) 0 (es1++ep::late))) ep:=by
  rw[e0 _ (fun j h=>by simp[h]) (by simp) (fun j h=>by simp;omega),←hs'];exact g3
 have:=wpAny_thr2 (q0:=l1.length) (es:=es1++ep::late) (C:=C) (Q:=fun e a' w'=>∃s'' κ',onS Q e s''∧Sim C κ' s'' a' w') (by simp[hlen,hlate]) (by simp) (by rw[hlen];simp)
  (fun i o e hne hfree hio hie=>by
   rcases qEi hne with h|h
   ·rw[qAg h]at hio;rw[qAg (by omega)]at hie;have:=heff i o e hio hie;rw[flatD_app,flatD_no (ep::late) _ (fun j _=>by simp;omega),qAt,flatD_congr es1 (D':=fun j=>decide (j<i)) 0 0 (fun j hj=>by simp;omega)];exact this
   ·obtain⟨j,rfl⟩:∃j,i=l1.length+1+j:=⟨i - l1.length - 1,by omega⟩;rw[qAl (by omega),show l1.length+1+j - l1.length=j+1 by omega,qBp]at hio;rw[qAl (by omega),show l1.length+1+j - es1.length=j+1 by omega,qBp]at hie;have:=k4 j o e hio hie hfree;have e1:bP (fun x=>decide (x<l1.length+1+j)&&!(x==l1.length)) 0 (es1++ep::late)=bP (fun _=>true) 0 es1++bP (fun x=>decide (x<j)) 0 late:=by
     rw[flatD_app,flatD_congr es1 (D':=fun _=>true) 0 0 (fun x hx=>by simp;omega)];congr 1;simp only[bP,qAL,←hlen,beq_self_eq_true,qAv,qBP,qBR,if_false,qAo];exact flatD_congr late _ _ fun x hx=>by simp;omega
    rw[e1,IZ,←hs'];exact this)
  hx hok (fun D κ' a' w' hD hD0 hs2=>⟨⟨List.replicate s1.tmps.length .unk,h'⟩,κ',hq,hs2.drop (by simp only[qBv,(dA _ _).1,hs']) (by rw[hl];simp only[(dA _ _).2,hs']) (fun n=>by grind) fun n=>by
   rcases ho n with⟨hn,e⟩|e
   ·left;show obj? h' n=_;rw[e,hs'];by_cases hnl:n<(s0.reserve N).heap.length
    ·have hb:∀x,n<((s0.reserve N).wr x).heap.length:=fun x=>by rw[(dA _ _).2];exact hnl
     rw[tq ep.ws n _ (hb _),tq ep.ws n _ (hb _),tq _ n _ hnl,tq _ n _ hnl];congr 2;rw[←e0 (fun j=>decide (j<l1.length)) (fun j h=>by simp[h]) (by simp) (fun j h=>by simp;omega)];refine Ic _ 0 fun i f hi hwi=>?_;rw[qAL];by_cases hiq:i=l1.length
     ·subst hiq;rw[hD0];simp
     ·have hil:=(qAH.1 hi).1;rcases hw i hil hiq n (by rw[List.getD,hi];exact hwi)with h|⟨h1,h2⟩
      ·omega
      ·rcases hD i h2 with h|h
       ·rw[h];simp[h1]
       ·omega
    ·rw[obj?,obj?,qAC (by rw[(dA _ _).2,(dA _ _).2];omega),qAC (by rw[(dA _ _).2,(dA _ _).2];omega)]
   ·exact .inr e⟩)
  (l1++op::l2).length (Array.replicate (l1++op::l2).length false) _ a {w with drawn:=w.drawn+1} (by simp) (by simp) (by simp[Array.getD]) (fun j o _ hl=>by simp[Array.getD]at hl) (by rw[hfl];exact hr)
 grind
end
section
open Go
inductive Out{R γ:Type}(m:Nat)(h0:List TObj)(te:Nat)(pn:Int→DS→Option R)(ret:DS→Option R)(s:DS)(inj:R→Option γ)(k:Exit→DS→Option γ)(b:γ):QT
 |ret {s':DS} {r:R} {t:List AV} {h:List AObj}:Le m t h (aU s'.h s'.t) (aB s'.h)→St m h0 s'→ret s'=some r→inj r=some b→Out m h0 te pn ret s inj k b .ret t h
 |qd {s':DS} {r:R} {v:Int} {t T:List AV} {h:List AObj}:Le m t h T (aB s'.h)→St m h0 s'→pn v s'=some r→inj r=some b→Out m h0 te pn ret s inj k b (qd (Cz te v)) t h
 |go {e:Exit} {s':DS} {t:List AV} {h:List AObj}:Le m t h (aU s'.h s'.t) (aB s'.h)→St m h0 s'→Fr s s'→k e s'=some b→Out m h0 te pn ret s inj k b e t h
theorem Le.refl(m:Nat)(t:List AV)(h:List AObj):Le m t h t h:=fun _ κ _ _ _ hs=>⟨κ,hs⟩
section
variable {P:Program}{E:List Ent}{θ:Nat→Option ET}{n:Nat}{R:Type}{hs:List (Nat×Hn)}{ret:DS→Option R}{m:Nat}{h0:List TObj}{te:Nat}{pn:Int→DS→Option R}
def Snd(P:Program)(E:List Ent)(θ:Nat→Option ET)(n:Nat)(R:Type)(hs:List (Nat×Hn))(te:Nat)(pn:Int→DS→Option R)(ret:DS→Option R)(m:Nat)(h0:List TObj)(code:Code):Prop:=
 ∀(γ:Type) (p:Nat) (s:DS) (inj:R→Option γ) (k:Exit→DS→Option γ) (b:γ),St m h0 s→exe ⟨TI.of P,θ,n,R,hs,m,te,pn⟩ E ret code γ p s inj k=some b→AW P m code (Out m h0 te pn ret s inj k b) (aU s.h s.t) (aB s.h)
theorem agR{γ:Type}{s s1:DS}{inj:R→Option γ}{k:Exit→DS→Option γ}{b:γ}(hf:Fr s s1)(e:Exit)(t:List AV)(h:List AObj)(ho:Out m h0 te pn ret s1 inj k b e t h):Out m h0 te pn ret s inj k b e t h:=by
 cases ho with
 |ret h1 h2 h3 h4=>exact .ret h1 h2 h3 h4
 |qd h1 h2 h3 h4=>exact .qd h1 h2 h3 h4
 |go h1 h2 h3 h4=>exact .go h1 h2 (hf.trans h3) h4
theorem axJ(hE:∀e∈E,ah P te e)(hte:uf P te=true)(hmix:P.follows .mixedOrders=true)(id:Nat)(ops:Array Oper)(draw:Bool):Snd P E θ n R hs te pn ret m h0 (.region id ops draw):=by
 intro γ p s inj k b hst h;have h:(fzH m (hint hs p) s fun s=>match akZ te s.t ops.toList with
   |some e=>bif draw then none else(pn e s).bind inj
   |none=>Jk s.h 0 fun n'=>XQ (TI.of P) θ E (pxD (TI.of P) θ draw ops.toList n' fun v s=>(pn v s).bind inj) ops.toList ops.toList n' [] {s with h:=s.h++y8 (zT ops.toList)} fun es s=>bif !draw ||ng ops.toList es then ai7 s.h n' fun h=>fzA m (hint hs p) {s with h:=h} fun s=>k .normal s else none)=some b:=h
 obtain⟨sz,h,fz1,fz2,fz3⟩:=aAQ hst.len hst.inv h;refine AW.le fz3 ((?_:AW P m (.region id ops draw) (Out m h0 te pn ret sz inj k b) (aU sz.h sz.t) (aB sz.h)).mono (agR fz1));replace hst:=hst.step fz1 fz2;clear fz1 fz2 fz3
 revert h hst
 generalize sz=s;intro h hst;obtain⟨l⟩:=ops;cases hpr:akZ te s.t l with
 |some e=>
  have h:(bif draw then none else(pn e s).bind inj)=some b:=by simpa only[hpr]using h
  cases draw with
  |true=>cases h
  |false=>
   obtain⟨r,h1,h2⟩:=ob h;refine aCF hte hpr (Em _ _) fun t'=>?_;exact .qd (Le.refl _ _ _) hst h1 h2
 |none=>
  have h:(Jk s.h 0 fun n'=>XQ (TI.of P) θ E (pxD (TI.of P) θ draw l n' fun v s=>(pn v s).bind inj) l l n' [] {s with h:=s.h++y8 (zT l)} fun es s=>bif !draw ||ng l es then ai7 s.h n' fun h=>fzA m (hint hs p) {s with h:=h} fun s=>k .normal s else none)=some b:=by simpa only[hpr]using h
  rw[Yj]at h;have hres:iX {s with h:=s.h++y8 (zT l)}=(iX s).reserve (zT l):=by
   unfold iX ASt.reserve;simp only[ali,agL]
  rcases ale hE l _ _ _ _ (show Inv {s with h:=s.h++y8 (zT l)}from⟨hst.inv.up,hst.inv.rl,hst.inv.cp⟩) h with⟨es',res,s',g1,g2,g3,g4,g5,g6⟩|⟨l1,op,l2,es1,res1,ep,ep',kx,s1,s',c,g0,g1,g2,g3,ga,gb,g4,g5,gc,g6,g7,gd⟩
  ·simp only[List.reverse_nil,qAo]at g2;obtain⟨hok,g2⟩:=(bD g2).resolve_right fun h=>by cases h.2
   obtain⟨hh,c,t1,t2,t3⟩:=ag0 _ _ _ g2;have hlen:s'.h.length=s.h.length+(y8 (zT l)).length:=by rw[g6];simp only[qAe]
   have hle:s.h.length≤hh.length:=t2 (by omega);have hfr:Fr s {s' with h:=hh}:=by
    refine⟨g4.tl,hle,g4.d,g4.om,g4.oo,fun l' hl hno=>?_⟩;have:=g4.o l' (by simp only[qAe];omega) hno;rw[rA hl]at this;rw[t1,rA (by omega)]at this;exact this
   have hq:Out m h0 te pn ret s inj k b .normal (iX s').tmps (iX s').heap:=by
    have hst2:=hst.step hfr ⟨g5.up,g5.rl,g5.cp⟩;obtain⟨sz,z1,z2,z3,z4⟩:=aHl hst2.len hst2.inv t3;refine .go (s':=sz) ?_ (hst2.step z2 z3) (hfr.trans z2) z1;refine Le.trans ?_ z4;simp only[iX,t1,ali,agL];exact auK _ _ c
   rw[hres]at g1;refine AW.of ?_;cases draw with
   |false=>exact dK.region (l:=l) (s:=iX s) _ g1.steps hq
   |true=>exact dK.drawn (l:=l) (s:=iX s) _ hmix g1 (by rw[←axR g3];simpa using hok) hq
  ·rw[hres]at g1;have hsl:s.h.length≤s'.h.length:=by rw[g7];simp only[qAe];omega
   have hst':St m h0 s':=by
    refine⟨g6,qAs hst.len hsl,fun l' hl hno=>?_⟩;rw[g5.oo]at hno⊢;have hno:(l',0)∉s'.o++s.oo:=hno;simp only[qAr,not_or]at hno;have hl2:l'<s.h.length:=qAB hl hst.len;have e1:=g5.o l' (by simp only[qAe];omega) hno.1;rw[rA hl2]at e1;refine Kw.trans (h:=hst.ent l' hl ?_) (e1.mono (g:=fun q=>decide ((l',q+1)∈s'.o++s.oo)) fun q hq=>?_) fun q hq=>?_
    ·simp only[qAr,not_or];exact⟨fun hm=>hno.1 (g5.om _ hm),hno.2⟩
    ·simp only[decide_eq_false_iff_not,qAr,not_or]at hq⊢;exact hq.1
    ·simp only[decide_eq_false_iff_not,qAr,not_or]at hq⊢;exact⟨fun hm=>hq.1 (g5.om _ hm),hq.2⟩
   subst g0;cases draw with
   |false=>
    have g4:(pn c s').bind inj=some b:=g4;obtain⟨r,k1,k2⟩:=ob g4;have hX:=g3 _ ⟨rfl,rfl,fun _ _=>rfl,fun _ _=>rfl⟩;rw[←gb]at hX;intro C κ a w hk hs;exact wp_region_lit (Qg g1.steps hX.1 hX.2 C _ a w (hs.reserve (zT (l1++op::l2))) fun κ' a' w' hs'=>⟨iX s',κ',.qd (Le.refl _ _ _) hst' k1 k2,hs'⟩)
   |true=>
    have hl1:res1.length=l1.length:=(sms_len g2).trans g1.spec.1.symm;rw[qAt]at g4;have g4:runT (TI.of P) θ (l1++op::l2) (fun q=>((FD (l1++op::l2) []).getD q []).contains res1.reverse.length) ((l1++op::l2).drop (res1.reverse.length+1)) (res1.reverse.length+1) kx [] s1 (fun late=>bif thrB (l1++op::l2) s.h.length res1.reverse.length (res1.reverse.reverse++ep'::late) s'.h then(pn c (thrD s.h.length s')).bind inj else none)=some b:=g4;rw[qEl,List.length_reverse,hl1]at g4;have hdr:(l1++op::l2).drop (l1.length+1)=l2:=by rw[←qEk,qCU];rfl
    rw[hdr]at g4;obtain⟨late,res,k1,k2,k3,k4⟩:=runT_ok _ _ _ _ _ _ gc g4;obtain⟨ht,k1⟩:=(bD k1).resolve_right fun h=>by cases h.2
    obtain⟨r,k1,k5⟩:=ob k1;rw[List.reverse_nil,qAo]at ht;simp only[thrB,qAa]at ht;obtain⟨t1,t2,t3⟩:=ht;have hsm:Sms (res1++ep'::res) (es1++ep::late):=sms_app g2 (.cons ga k2);obtain⟨c2,hc2⟩:∃c2,s'.h=s'.h.take s.h.length++y8 c2:=⟨s'.h.length - s.h.length,by
     conv=>lhs;rw[←qDw s.h.length s'.h]
     congr 1;rw[Yo];refine List.eq_replicate_iff.2 ⟨by simp,fun o ho=>?_⟩;have:=qAP.1 t2 o ho;unfold mh at this;split at this
     ·rfl
     ·cases this⟩
    have htl:(s'.h.take s.h.length).length=s.h.length:=by rw[qAz];omega
    have hO:∀n,n<s.h.length→obj? (aB (thrD s.h.length s').h) n=obj? (aB s'.h) n:=fun n hn=>by
     unfold thrD;rw[hc2];simp only[List.take_append,htl,List.take_take,qEm,qEj,qAX,qAt,avOs_dead,agL];unfold obj?;rw[qAg (by simp only[aB,qAi,htl];exact hn),qAg (by simp only[aB,qAi,htl];exact hn)]
    refine region_thr (n0:=s.h.length) (N:=zT (l1++op::l2)) (s0:=iX s) (s1:=iX s1) (late:=late) (h':=aB (thrD s.h.length s').h) hmix g1 g3 k3 (fun i o e h1 h2 h3=>k4 i o e h1 h2 (by simpa using h3)) (by rw[←axR hsm];exact t1) (fun i hi hne n hn=>?_) ?_ (fun n=>?_) (.qd (Le.refl _ _ _) ?_ k1 k5)
    ·have h1:=qAP.1 t3 i (qBW.2 (by rw[sms_len hsm];exact hi));rw[qBe]at h1;have h1:=h1.resolve_left fun h=>hne (qAj h);rw[sms_at hsm]at h1;have h2:=qAP.1 h1 n hn;simp only[qBe,qAa,qEh,Nat.ble_eq,Nat.blt_eq]at h2;exact h2
    ·have:(thrD s.h.length s').h.length=s1.h.length:=by
      rw[gd,←g7];unfold thrD;simp only[qAe,qAz,qBv];omega
     simp only[iX,aB,qAi,this]
    ·by_cases hn:n<s.h.length
     ·left;refine⟨hn,?_⟩;rw[hO n hn,←gb];rfl
     ·right;rw[kV,jF,List.getD];unfold thrD;rw[qAl (by rw[htl];omega),qCa];split<;>rfl
    ·refine⟨⟨fun i k c h1=>(by cases h1),fun d i j h1=>(by cases h1),fun d x h1=>(by cases h1)⟩,?_,fun l' hl hno=>?_⟩
     ·unfold thrD;simp only[qAe,qAz,qBv];have:=hst.len;omega
     ·have e1:nth .dead (thrD s.h.length s').h l'=nth .dead s'.h l':=by
       have:=hst.len;unfold thrD;rw[hc2];simp only[List.take_append,htl,List.take_take,qEm,qEj,qAX,qAt];rw[rA (by rw[htl];omega),rA (by rw[htl];omega)]
      rw[e1];exact hst'.ent l' hl hno
theorem aEB{x y:Code}(hx:Snd P E θ n R hs te pn ret m h0 x)(hy:Snd P E θ n R hs te pn ret m h0 y):Snd P E θ n R hs te pn ret m h0 (.seq x y):=by
 intro γ p s inj k b hst h;have stJ:∀{eds:List Ed} (hw:fO s.h.length [] [] eds=true) (z:jI (bM eds)),St m h0 (qO (pG x) eds s (fF _ z)):=fun hw z=>hst.step (Qn hw z) (af8 hw z hst.inv);have stF:St m h0 (fresh s):=⟨⟨hst.inv.up,hst.inv.rl,hst.inv.cp⟩,hst.len,by
  intro l hl hno;exact hst.ent l hl (by simpa[fresh]using hno) |>.mono fun q hq=>by simpa[fresh]using hq⟩
 have plain:(exe ⟨TI.of P,θ,n,R,hs,m,te,pn⟩ E ret x γ (2*p) s inj fun e s=>match e with
    | .normal=>exe ⟨TI.of P,θ,n,R,hs,m,te,pn⟩ E ret y γ (2*p+1) s inj k
    |e=>k e s)=some b→AW P m (.seq x y) (Out m h0 te pn ret s inj k b) (aU s.h s.t) (aB s.h):=fun h=>by
  refine AW.seq ((hx γ _ s inj _ b hst h).mono fun e t hh ho=>?_);cases ho with
  |ret h1 h2 h3 h4=>exact .ret h1 h2 h3 h4
  |qd h1 h2 h3 h4=>exact .qd h1 h2 h3 h4
  |@go _ s' _ _ h1 h2 h3 h4=>
   cases e with
   |normal=>exact AW.le h1 ((hy γ _ s' inj k b h2 h4).mono (agR h3))
   |exit id=>exact .go h1 h2 h3 h4
   |goto l=>exact .go h1 h2 h3 h4
   |ret=>exact .go h1 h2 h3 h4
   |panic c=>exact .go h1 h2 h3 h4
   |outgrown=>exact .go h1 h2 h3 h4
 have behind:∀{eds:List Ed} (hw:fO s.h.length [] [] eds=true) (z:jI (bM eds)),exe ⟨TI.of P,θ,n,R,hs,m,te,pn⟩ E ret y γ (2*p+1) (qO (pG x) eds s (fF _ z)) inj k=some b→∀t hh,Le m t hh (aU (qO (pG x) eds s (fF _ z)).h (qO (pG x) eds s (fF _ z)).t) (aB (qO (pG x) eds s (fF _ z)).h)→AW P m y (Out m h0 te pn ret s inj k b) t hh:=
  fun hw z h4 t hh hle=>AW.le hle ((hy γ _ _ inj k b (stJ hw z) h4).mono (agR (Qn hw z)))
 have h:(match hint hs p with
   |some (.jn eds true)=>F6 eds s <| Option.bind (exe ⟨TI.of P,θ,n,R,hs,m,te,pn⟩ E ret x (LR (jI (bM eds)) R) (2*p) (fresh s) (fun r=>some (.rt r)) fun e s'=>match e with
     | .normal=>Jv (pG x) eds s s' fun us=>AJ (bM eds) us fun x=>some (.nx x)
     |_=>none) (LR.el (fun z=>Li (pG x) eds s (fF (bM eds) z) fun s=>exe ⟨TI.of P,θ,n,R,hs,m,te,pn⟩ E ret y γ (2*p+1) s inj k) (fun r=>inj r))
   |some (.jn eds false)=>F6 eds s <| Option.bind (exe ⟨TI.of P,θ,n,R,hs,m,te,pn⟩ E ret x (jI (bM eds)) (2*p) (fresh s) (fun _=>none) fun e s'=>match e with
     | .normal=>Jv (pG x) eds s s' fun us=>AJ (bM eds) us fun x=>some x
     |_=>none) fun z=>Li (pG x) eds s (fF (bM eds) z) fun s=>exe ⟨TI.of P,θ,n,R,hs,m,te,pn⟩ E ret y γ (2*p+1) s inj k
   |_=>exe ⟨TI.of P,θ,n,R,hs,m,te,pn⟩ E ret x γ (2*p) s inj fun e s=>match e with
    | .normal=>exe ⟨TI.of P,θ,n,R,hs,m,te,pn⟩ E ret y γ (2*p+1) s inj k
    |e=>k e s)=some b:=h
 split at h
 ·rename_i eds _;obtain⟨⟨w1,w2,w3⟩,h⟩:=Tz h;obtain⟨res,h1,h2⟩:=ob h;refine AW.seq ((hx _ _ (fresh s) _ _ res stF h1).mono fun e t hh ho=>?_);cases ho with
  |ret g1 g2 g3 g4=>cases g4;exact .ret g1 g2 g3 h2
  |qd g1 g2 g3 g4=>cases g4;exact .qd g1 g2 g3 h2
  |@go _ s' _ _ g1 g2 g3 g4=>
   cases e with
   |normal=>
    obtain⟨z,z1,z2⟩:=VX hst.len w1 w2 w3 g3 g4;cases z1;have h2:(Li (pG x) eds s (fF (bM eds) z) fun s=>exe ⟨TI.of P,θ,n,R,hs,m,te,pn⟩ E ret y γ (2*p+1) s inj k)=some b:=h2;rw[adJ]at h2;exact behind w3 z h2 t hh (g1.trans z2)
   |exit id=>cases g4
   |goto l=>cases g4
   |ret=>cases g4
   |panic c=>cases g4
   |outgrown=>cases g4
 ·rename_i eds _;obtain⟨⟨w1,w2,w3⟩,h⟩:=Tz h;obtain⟨res,h1,h2⟩:=ob h;refine AW.seq ((hx _ _ (fresh s) _ _ res stF h1).mono fun e t hh ho=>?_);cases ho with
  |ret g1 g2 g3 g4=>cases g4
  |qd g1 g2 g3 g4=>cases g4
  |@go _ s' _ _ g1 g2 g3 g4=>
   cases e with
   |normal=>
    obtain⟨z,z1,z2⟩:=VX hst.len w1 w2 w3 g3 g4;have e1:res=z:=(Option.some.inj z1).symm;rw[e1,adJ]at h2;exact behind w3 z h2 t hh (g1.trans z2)
   |exit id=>cases g4
   |goto l=>cases g4
   |ret=>cases g4
   |panic c=>cases g4
   |outgrown=>cases g4
 grind
theorem aBH{x:Code}(hx:Snd P E θ n R hs te pn ret m h0 x):Snd P E θ n R hs te pn ret m h0 (.loop x):=by
 intro γ p s inj k b hst h;have h:(match hint hs p with
   |some (.lp hd e ex)=>F6 hd s <| F6 ex s <| Jv (pG x) hd s (fresh s) fun us=>AJ (bM hd) us fun x0=>
     Option.bind (aL (δ:=LR (jI (bM ex)) R) (fun rec z=>Li (pG x) hd (fresh s) (fF (bM hd) z) fun s1=>exe ⟨TI.of P,θ,n,R,hs,m,te,pn⟩ E ret x (LR (jI (bM ex)) R) (2*p) s1 (fun r=>some (.rt r)) fun e' s'=>match e' with
      | .normal=>Jv (pG x) hd s s' fun us=>AJ (bM hd) us rec
      | .exit id=>bif Nat.beq id e then Jv (pG x) ex s s' fun us=>AJ (bM ex) us fun y=>some (.nx y)else none
      |_=>none) n x0) (LR.el (fun y=>Li (pG x) ex s (fF (bM ex) y) fun s=>k (.exit e) s) (fun r=>inj r))
   |_=>none)=some b:=h
 split at h
 case h_2=>cases h
 rename_i hd e ex _;obtain⟨⟨w1,w2,w3⟩,h⟩:=Tz h;obtain⟨⟨_,_,w4⟩,h⟩:=Tz h;have stF:St m h0 (fresh s):=⟨⟨hst.inv.up,hst.inv.rl,hst.inv.cp⟩,hst.len,by
  intro l hl hno;exact hst.ent l hl (by simpa[fresh]using hno) |>.mono fun q hq=>by simpa[fresh]using hq⟩
 obtain⟨x0,h1,hle0⟩:=VX hst.len w1 w2 w3 (Fr.refl (fresh s)) h;obtain⟨res,h2,h3⟩:=ob h1;generalize hbody:(fun(rec:jI (bM hd)→Option (LR (jI (bM ex)) R)) (z:jI (bM hd))=>Li (pG x) hd (fresh s) (fF (bM hd) z) fun s1=>exe ⟨TI.of P,θ,n,R,hs,m,te,pn⟩ E ret x (LR (jI (bM ex)) R) (2*p) s1 (fun r=>some (.rt r)) fun e' s'=>match e' with
      | .normal=>Jv (pG x) hd s s' fun us=>AJ (bM hd) us rec
      | .exit id=>bif Nat.beq id e then Jv (pG x) ex s s' fun us=>AJ (bM ex) us fun y=>some (.nx y)else none
      |_=>none)=body at h2
 let J:jI (bM hd)→DS:=fun z=>qO (pG x) hd (fresh s) (fF _ z)
 have Jav:∀z,aU (J z).h (J z).t=aU (qO (pG x) hd s (fF _ z)).h (qO (pG x) hd s (fF _ z)).t∧aB (J z).h=aB (qO (pG x) hd s (fF _ z)).h:=fun z=>⟨rfl,rfl⟩;refine AW.loop (fun c t hh=>∃z,aL body c z=some res∧Le m t hh (aU (J z).h (J z).t) (aB (J z).h)) (n:=n) ⟨x0,h2,hle0⟩ ?_;rintro c t hh ⟨z,hz,hle⟩;cases c with
 |zero=>cases hz
 |succ c=>
  have hz:body (aL body c) z=some res:=hz;rw[←hbody]at hz;simp only at hz;rw[hbody,adJ]at hz;have stJ:St m h0 (J z):=stF.step (Qn (s:=fresh s) w3 z) (af8 (s:=fresh s) w3 z stF.inv);refine AW.le hle ((hx _ _ (J z) _ _ res stJ hz).mono fun e' t' hh' ho=>?_);cases ho with
  |ret g1 g2 g3 g4=>cases g4;exact .ret g1 g2 g3 h3
  |qd g1 g2 g3 g4=>cases g4;exact .qd g1 g2 g3 h3
  |@go _ s' _ _ g1 g2 g3 g4=>
   have g3':Fr (fresh s) s':=(Qn (s:=fresh s) w3 z).trans g3;cases e' with
   |normal=>
    obtain⟨z',z1,z2⟩:=VX hst.len w1 w2 w3 g3' g4;exact⟨c,Nat.lt_succ_self c,z',z1,g1.trans z2⟩
   |exit id=>
    simp only at g4;obtain⟨hid,g5⟩:=(bD g4).resolve_right fun h=>by cases h.2
    have hid:=qAj hid;clear g4;subst hid;obtain⟨y,z1,z2⟩:=VX hst.len w1 w2 w4 g3' g5;cases z1;have h3:(Li (pG x) ex s (fF (bM ex) y) fun s=>k (.exit id) s)=some b:=h3;rw[adJ]at h3;exact .go (g1.trans z2) (hst.step (Qn w4 y) (af8 w4 y hst.inv)) (Qn w4 y) h3
   |goto l=>cases g4
   |ret=>cases g4
   |panic c=>cases g4
   |outgrown=>cases g4
theorem WL(hE:∀e∈E,ah P te e)(hte:uf P te=true)(hmix:P.follows .mixedOrders=true)(code:Code):Snd P E θ n R hs te pn ret m h0 code:=by
 induction code with
 |skip=>intro γ p s inj k b hst h;exact AW.skip (.go (Le.refl _ _ _) hst (Fr.refl s) h)
 |region id ops draw=>exact axJ hE hte hmix id ops draw
 |seq x y hx hy=>exact aEB hx hy
 |cond c x y hx hy=>
  intro γ p s inj k b hst h;have h:(match gq s.t c with
   | .lf .b b=>_root_.cond b (exe ⟨TI.of P,θ,n,R,hs,m,te,pn⟩ E ret x γ (2*p) (OC c s) inj k) (exe ⟨TI.of P,θ,n,R,hs,m,te,pn⟩ E ret y γ (2*p+1) s inj k)
   |_=>none)=some b:=h
  split at h
  ·rename_i q hq;refine AW.vf fun hv=>AW.cond (b:=q) (by rw[bZ,hq];rfl) (fun e=>?_) fun e=>?_
   ·subst e;obtain⟨e1,e2,e3,e4,e5,_⟩:=amP c s;have hi:=aA0 hst.inv hq hv;have:=hx γ _ (OC c s) inj k b ⟨hi,by rw[e2];exact hst.len,by rw[e4,e5,e2];exact hst.ent⟩ h;rw[e1,e2]at this;exact this.mono fun e t hh ho=>by
     cases ho with
     |ret h1 h2 h3 h4=>exact .ret h1 h2 h3 h4
     |qd h1 h2 h3 h4=>exact .qd h1 h2 h3 h4
     |go h1 h2 h3 h4=>exact .go h1 h2 (aD9 h3 e1 e2 e3 e4 e5) h4
   ·subst e;exact hy γ _ s inj k b hst h
  ·cases h
 |block id x hx=>
  intro γ p s inj k b hst h;refine AW.block ((hx γ (2*p) s inj _ b hst h).mono fun e t hh ho=>?_);cases ho with
  |ret h1 h2 h3 h4=>exact .ret h1 h2 h3 h4
  |qd h1 h2 h3 h4=>exact .qd h1 h2 h3 h4
  |@go _ s' _ _ h1 h2 h3 h4=>
   cases e with
   |exit id'=>
    have h4:(bif Nat.beq id' id then k .normal s' else k (.exit id') s')=some b:=h4;refine aAB (fun he=>?_) fun he=>?_
    ·have he:id'=id:=by simpa using he
     subst he;rw[o9,cond_true]at h4;exact .go h1 h2 h3 h4
    ·have he:id'≠id:=by simpa using he
     have hb:Nat.beq id' id=false:=by
      cases hb:Nat.beq id' id with
      |false=>rfl
      |true=>exact(he (qAj hb)).elim
     rw[hb,cond_false]at h4;exact .go h1 h2 h3 h4
   |normal=>exact .go h1 h2 h3 h4
   |goto l=>exact .go h1 h2 h3 h4
   |ret=>exact .go h1 h2 h3 h4
   |panic c=>exact .go h1 h2 h3 h4
   |outgrown=>exact .go h1 h2 h3 h4
 |loop x hx=>exact aBH hx
 |exit id=>intro γ p s inj k b hst h;exact AW.exit (.go (Le.refl _ _ _) hst (Fr.refl s) h)
 |ret=>
  intro γ p s inj k b hst h;obtain⟨sz,h,fz1,fz2,fz3⟩:=aAQ hst.len hst.inv h;obtain⟨r,h1,h2⟩:=ob h;exact AW.le fz3 (AW.ret (.ret (Le.refl _ _ _) (hst.step fz1 fz2) h1 h2))
 |_=>intro γ p s inj k b hst h;cases h
end
end
section
open Go
def BQ(P:Program)(rs:List ResultVar)(m:Nat)(T:List TV)(hJ:List TObj)(t:List AV)(h:List AObj):Prop:=
 ∃t1 h1 xs,Le m t h t1 h1∧yZ P ⟨t1,h1⟩ rs=some xs∧Le m xs h1 (aU hJ T) (aB hJ)
def asq(P:Program)(rs:List ResultVar)(m:Nat)(T:List TV)(hJ:List TObj):QT
 | .normal,t,h=>BQ P rs m T hJ t h
 | .ret,t,h=>BQ P rs m T hJ t h
 |_,_,_=>False
theorem apS{P:Program}{f:Nat}{fn:Func}{c:Code}{args:List AV}{H:List AObj}{T:List TV}{hJ:List TObj}(hf:P.funcs[f]? =some fn)(hb:fn.body=some c)(hlen:args.length≤fn.ntmps)(hJl:H.length≤hJ.length)
  (h:AW P H.length c (asq P fn.results.toList H.length T hJ) (args++List.replicate (fn.ntmps - args.length) (.tup [])) H):eH P f args H (av hJ (res1 T)) (aB hJ):=by
 intro κ ak w vs hen hvl hr
 let C:Ctx:={ak:=ak,old:=fun b=>b<w.heap.size∧∀l,at? κ l=some b→¬live (obj? H l),w0:=w,k0:=κ,pvE:=aH ak κ H}
 refine calls_of_wp hf hb ?_;have hsim:Sim C κ ⟨args++List.replicate (fn.ntmps - args.length) (.tup []),H⟩ {tmps:=vs.toArray++Array.replicate (fn.ntmps - vs.toArray.size) undef,defers:=[]} w:=by
  refine⟨rfl,by simp[hvl],?_,hen.klen,dL.refl _,hen.resv,hen.obj,hen.apart,fun l b h1 h2 ho=>ho.2 l h1 h2,hen.bound,fun b o h=>⟨hen.pvlt b o h,fun l hl=>hen.pvdis b o l h hl⟩,fun b hb=>hb.1,fun _ _=>rfl,rfl,rfl,rfl,qAd _,fun _ _ h _=>h,Evo.refl _ _⟩;intro n hn;simp only[qAe,qBv]at hn;by_cases hlt:n<args.length
  ·have e1:(args++List.replicate (fn.ntmps - args.length) (AV.tup [])).getD n .unk=args.getD n .unk:=by simp[List.getD,qAg hlt]
   have e2:(vs.toArray++Array.replicate (fn.ntmps - vs.toArray.size) undef).getD n undef=vs.getD n undef:=by
    simp_all
   grind
  ·have e1:(args++List.replicate (fn.ntmps - args.length) (AV.tup [])).getD n .unk=.tup []:=by
    grind
   have e2:(vs.toArray++Array.replicate (fn.ntmps - vs.toArray.size) undef).getD n undef=undef:=by
    rw[qAq,qBQ (by simp;omega),qDn];split<;>rfl
   rw[e1,e2];exact lK
 have hkl:C.k0.length≤H.length:=qBm hen.klen;refine wp_mono (h C κ _ w hkl hsim) ?_;rintro e a w' ⟨s,κf,hq,hs⟩;have fin:BQ P fn.results.toList H.length T hJ s.tmps s.heap→a.defers=[]∧∃v,(results fn a.tmps).run P w'=.ok v w'∧∃v' κ',Ending.returned v=.returned v'∧Leave κ κ' ak H (aB hJ) w w'∧Rel w' κ' (aH ak κ' (aB hJ)) (av hJ (res1 T)) v':=by
  rintro⟨t1,h1,xs,q1,q2,q3⟩;obtain⟨κ1,hs1⟩:=q1 C κf a w' hkl hs;obtain⟨us,u1,u2,u3⟩:=MS hs1 _ _ q2;have hsX:Sim C κ1 ⟨xs,h1⟩ {tmps:=us.toArray,defers:=a.defers} w':={hs1 with
   len:=by simp[u1]
   slot:=fun n hn=>by have:=u2 n hn;simpa[qAq,List.getD]using this}
  obtain⟨κ',hs2⟩:=q3 C κ1 _ w' hkl hsX;have hleave:Leave κ κ' ak H (aB hJ) w w':=by
   refine⟨hs2.klen,by simp only[aB,qAi];exact hJl,hs2.kext,hs2.resv,hs2.obj,?_,hs2.apart,hs2.bound,fun b hb hnl=>hs2.old b ⟨hb,hnl⟩,hs2.ny,hs2.pvsub,hs2.os,hs2.tape,hs2.output⟩;intro l b h1 h2;have hno:=hs2.own l b h1 h2;by_cases hlt:b<w.heap.size
   ·right;apply qAn;intro hne;exact hno ⟨hlt,fun l0 h0 hlv=>hne ⟨l0,h0,hlv⟩⟩
   ·left;omega
  have hT:us.length=(aU hJ T).length:=by have:=hs2.len;simpa using this
  have hslot:∀n,n<(aU hJ T).length→Rel w' κ' (aH ak κ' (aB hJ)) ((aU hJ T).getD n .unk) (us.getD n undef):=fun n hn=>by
   have:=hs2.slot n hn;simpa[qAq,List.getD]using this
  refine⟨hs1.defers,?_⟩;have hm:(fn.results.mapM (Vf a.tmps)).run P w'=.ok us.toArray w':=by
   rw[qCp];simp only[Sem.run_map,u3,Result.andThen_ok]
  rw[PI];simp only[Sem.run_bind,hm,Result.andThen_ok,Sem.run_pure];by_cases h1:us.length=1
  ·match us,h1 with
   |[u],_=>
    match T,hT with
    |[x],_=>
     refine⟨u,by simp,u,κ',rfl,hleave,?_⟩;have:=hslot 0 (by simp[aU]);simpa[aU,res1]using this
  ·refine⟨.tuple us.toArray,by simp[h1],_,κ',rfl,hleave,?_⟩;have hx:av hJ (res1 T)=.tup (aU hJ T):=by
    match T,hT with
    |[],_=>rfl
    |[x],h=>exact(h1 (by simpa[aU]using h)).elim
    |_::_::_,_=>rfl
   rw[hx];exact .tup hT hslot
 cases e with
 |normal=>exact fin hq
 |ret=>exact fin hq
 |exit id=>exact hq.elim
 |goto l=>exact hq.elim
 |panic c=>exact hq.elim
 |outgrown=>exact hq.elim
def aC2(v:Value)(m:Nat)(H':List AObj):QT:=fun e t h=>e=qd v∧∃t1 h1,Le m t h t1 h1∧Le m [] h1 [] H'
theorem azr{P:Program}{f:Nat}{fn:Func}{c:Code}{args:List AV}{H H':List AObj}{v:Value}(hf:P.funcs[f]? =some fn)(hb:fn.body=some c)(hlen:args.length≤fn.ntmps)(hJl:H.length≤H'.length)
  (h:AW P H.length c (aC2 v H.length H') (args++List.replicate (fn.ntmps - args.length) (.tup [])) H):Ej P f args H v H':=by
 intro κ ak w vs hen hvl hr
 let C:Ctx:={ak:=ak,old:=fun b=>b<w.heap.size∧∀l,at? κ l=some b→¬live (obj? H l),w0:=w,k0:=κ,pvE:=aH ak κ H}
 refine calls_of_wp hf hb ?_;have hsim:Sim C κ ⟨args++List.replicate (fn.ntmps - args.length) (.tup []),H⟩ {tmps:=vs.toArray++Array.replicate (fn.ntmps - vs.toArray.size) undef,defers:=[]} w:=by
  refine⟨rfl,by simp[hvl],?_,hen.klen,dL.refl _,hen.resv,hen.obj,hen.apart,fun l b h1 h2 ho=>ho.2 l h1 h2,hen.bound,fun b o h=>⟨hen.pvlt b o h,fun l hl=>hen.pvdis b o l h hl⟩,fun b hb=>hb.1,fun _ _=>rfl,rfl,rfl,rfl,qAd _,fun _ _ h _=>h,Evo.refl _ _⟩;intro n hn;simp only[qAe,qBv]at hn;by_cases hlt:n<args.length
  ·have e1:(args++List.replicate (fn.ntmps - args.length) (AV.tup [])).getD n .unk=args.getD n .unk:=by simp[List.getD,qAg hlt]
   have e2:(vs.toArray++Array.replicate (fn.ntmps - vs.toArray.size) undef).getD n undef=vs.getD n undef:=by
    simp_all
   grind
  ·have e1:(args++List.replicate (fn.ntmps - args.length) (AV.tup [])).getD n .unk=.tup []:=by
    grind
   have e2:(vs.toArray++Array.replicate (fn.ntmps - vs.toArray.size) undef).getD n undef=undef:=by
    rw[qAq,qBQ (by simp;omega),qDn];split<;>rfl
   rw[e1,e2];exact lK
 have hkl:C.k0.length≤H.length:=qBm hen.klen;refine wp_mono (h C κ _ w hkl hsim) ?_;rintro e a w' ⟨s,κf,⟨he,t1,h1,q1,q2⟩,hs⟩;obtain⟨κ1,hs1⟩:=q1 C κf a w' hkl hs;have hsX:Sim C κ1 ⟨[],h1⟩ {tmps:=#[],defers:=a.defers} w':={hs1 with
  len:=rfl
  slot:=fun n hn=>by cases hn}
 obtain⟨κ',hs2⟩:=q2 C κ1 _ w' hkl hsX;subst he;refine⟨hs1.defers,κ',rfl,?_⟩;refine⟨hs2.klen,hJl,hs2.kext,hs2.resv,hs2.obj,?_,hs2.apart,hs2.bound,fun b hb hnl=>hs2.old b ⟨hb,hnl⟩,hs2.ny,hs2.pvsub,hs2.os,hs2.tape,hs2.output⟩;intro l b h1 h2;have hno:=hs2.own l b h1 h2
 grind
theorem agx{P:Program}{γ:Type}{b:γ}{s:DS}:∀(rs:List ResultVar) (K:List TV→Option γ),ajD (TI.of P) s rs K=some b→∃vs,yZ P (iX s) rs=some (aU s.h vs)∧vs.length=rs.length∧K vs=some b
 |[],K,h=>⟨[],rfl,rfl,h⟩
 | .tmp t::r,K,h=>by
  obtain⟨vs,h1,h2,h3⟩:=agx r _ h;exact⟨nth .unk s.t t::vs,by
   show(yZ P (iX s) r).map _=_;rw[h1,qAx];show some ((iX s).tmps.getD t .unk::aU s.h vs)=some (av s.h (nth .unk s.t t)::aU s.h vs);rw[show(iX s).tmps.getD t .unk=av s.h (nth .unk s.t t)from Ez _ _ _],by simp[h2],h3⟩
 | .cell a t::r,K,h=>by
  simp only[ajD]at h;split at h
  ·rename_i l off ha;split at h
   ·rename_i cs hl;obtain⟨v,g1,g2⟩:=abC (H:=s.h) h;obtain⟨vs,h1,h2,h3⟩:=agx r _ g2;refine⟨v::vs,?_,by simp[h2],h3⟩;have e1:(iX s).tmps.getD a .unk=.ptr l off:=by rw[show(iX s).tmps.getD a .unk=av s.h (nth .unk s.t a)from Ez _ _ _,ha];rfl
    have e2:obj? (iX s).heap l=.box (bq s.h cs):=by rw[show obj? (iX s).heap l=gV s.h (nth .dead s.h l)from kV _ _,hl];rfl
    simp only[yZ,e1,e2,g1,h1,qAx,aU]
   ·cases h
  ·cases h
theorem au0{l:List Nat}:∀{n:Nat},axC l n=true→∀k,k<n→k∈l
 |0,_,k,h=>by omega
 |n+1,h,k,hk=>by
  simp only[axC,qAa]at h;by_cases e:k=n
  ·subst e;exact mem_iff.1 h.1
  ·exact au0 h.2 k (by omega)
mutual
theorem aJF(n:Nat):∀v,Kt (fun l=>Nat.blt l n) v=rfB n v
 | .ptr _ _=>rfl| .mapr _=>rfl| .own _=>rfl| .psl _ _ _=>rfl| .ap _ _ _ _=>rfl
 | .eptr cs=>Xu n cs
 | .agg cs=>Xu n cs
 | .tup cs=>Xu n cs
 | .func _ cs=>Xu n cs
 | .unk=>rfl| .nilp=>rfl| .nilF=>rfl| .nils=>rfl| .lf _ _=>rfl| .nat _=>rfl
theorem Xu(n:Nat):∀vs,oF (fun l=>Nat.blt l n) vs=jw n vs
 |[]=>rfl
 |v::vs=>by simp only[oF,jw,aJF n v,Xu n vs]
end
theorem aAI{n:Nat}:∀{h:List TObj},(∀l,nth .dead h l≠ .res∧∀cs,nth .dead h l=.box cs→jw n cs=true)→Ji n h=true
 |[],_=>rfl
 |o::h,k=>by
  simp only[Ji,qAa];refine⟨?_,aAI fun l=>k (l+1)⟩;have:=k 0;change o≠ .res∧∀cs,o=.box cs→jw n cs=true at this
  grind
theorem XY:∀(es:List Ed) (us:List U) (T T':List TV) (hh:List TObj),T.length=T'.length→(∀k,k∉j3 es→nth .unk T k=nth .unk T' k)→dW bS es us T hh=dW bS es us T' hh
 |[],us,T,T',hh,hl,h=>by
  have:T=T':=by
   apply qBO hl;intro i h1 h2;have:=h i (by simp[j3]);rw[jF,jF,List.getD,List.getD,qAc h1,qAc h2]at this;exact this
  rw[this]
 | .r k s::es,us,T,T',hh,hl,h=>by
  refine XY es _ _ _ _ (by simp[hl]) fun j hj=>?_;by_cases e:k=j
  ·subst e;by_cases hk:k<T.length
   ·rw[cK hk,cK (hl▸hk)]
   ·rw[mq (by rw[qAT];omega),mq (by rw[qAT];omega)]
  ·rw[aX e,aX e];exact h j (by simp only[j3,qAh,not_or];exact⟨fun x=>e x.symm,hj⟩)
 | .o l s::es,us,T,T',hh,hl,h=>XY es _ T T' _ hl h
 | .w s::es,us,T,T',hh,hl,h=>XY es _ T T' _ hl h
theorem Ya:∀(es:List Ed) (us:List U) (T S:List TV) (hh:List TObj),(∀k∈j3 es,k<T.length)→dW bS es us (T++S) hh=((dW bS es us T hh).1++S,(dW bS es us T hh).2)
 |[],us,T,S,hh,h=>rfl
 | .r k s::es,us,T,S,hh,h=>by
  simp only[dW];rw[List.set_append_left _ _ (h k (by simp[j3]))];exact Ya es _ _ S hh fun j hj=>by rw[qAT];exact h j (by simp[j3,hj])
 | .o l s::es,us,T,S,hh,h=>Ya es _ T S _ h
 | .w s::es,us,T,S,hh,h=>Ya es _ T S _ h
theorem arf(n k:Nat):jw n (dM k)=true:=by
 unfold dM
 induction k with
 |zero=>rfl
 |succ k ih=>simp only[qCo,jw,rfB,ih,qCz]
theorem aEQ(H:List TObj)(c:Nat):aU H (List.replicate c (.tup []))=List.replicate c (.tup []):=by
 rw[uM,qCs];rfl
theorem axf(o:TObj)(hd:HO)(us:List U)(h:∀is,hd≠ .bx is):(bR bS o hd us).1≠ .res:=by
 cases hd with
 |dead=>intro h;cases h
 |box cs=>intro h;cases h
 |bx is=>exact(h is rfl).elim
 |own e=>simp only[bR];split<;>simp
 |mp e=>simp only[bR];split<;>simp
 |arr e=>simp only[bR];split<;>simp
theorem ad9{P:Program}{R:Type}{e:Ent}{rvs:List ResultVar}{inn:jI (bM e.rs)→Option R}{h r:List TV}{h0 h2:List TObj}{s:DS}{y:R}{out:R→jI (bM e.rs)}(hinn:∀z y,inn z=some y→out y=z)(edrs:fO (aD e.ps) [] [] e.rs=true)
  (hn:h0.length=aD e.ps) (hH:Ji (aD e.ps) h0=true) (hnr:e.nr=rvs.length) (hst:St (aD e.ps) h0 s) (hK:yK (TI.of P) (aD e.ps) rvs e.rs inn s=some y) (hb:dW bS e.rs (fF _ (out y)) (dM e.nr) h0=(r,h2)):
  BQ P rvs (aD e.ps) r h2 (aU s.h s.t) (aB s.h):=by
 obtain⟨vs,g1,g2,g3⟩:=agx rvs _ hK;obtain⟨g4,g5⟩:=(bD g3).resolve_right fun h=>by cases h.2
 obtain⟨us,q1,q2⟩:=ab8 (n:=aD e.ps) (m:=aD e.ps) (T0:=dM e.nr) hn (qAd _) (arf _ _) hH edrs (by unfold dM;rw[qBv,g2,hnr]) hst.len
  (fun k _=>.inl (adU _ _)) (alS edrs g4 hst.ent) g5
 obtain⟨z,rfl,q3⟩:=Q8 q1;rw[hinn _ _ q3]at hb;exact⟨_,_,_,Le.refl _ _ _,g1,(q2 _ _ hb).2.2⟩
theorem aem{R:Type}{ps eds:List Ed}{h0 h2:List TObj}{r:List TV}{s:DS}{v:Int}{y:RT (some eds) R}(edw:fO (aD ps) [] [] eds=true)(hn:h0.length=aD ps)(hH:Ji (aD ps) h0=true)(hst:St (aD ps) h0 s)
  (hK:U7 (R:=R) (aD ps) (some eds) v s=some y):∃z,y=PZ.er v z∧∀r h2,dW bS eds (fF _ z) (dM 0) h0=(r,h2)→Le (aD ps) [] (aB s.h) [] (aB h2):=by
 obtain⟨g4,g5⟩:=(bD hK).resolve_right fun h=>by cases h.2
 obtain⟨us,q1,q2⟩:=ab8 (n:=aD ps) (m:=aD ps) (T0:=dM 0) (t':=[]) hn (qAd _) (arf _ _) hH edw rfl hst.len (fun k _=>.inl (adU _ _)) (alS edw g4 hst.ent) g5;obtain⟨z,rfl,q3⟩:=Q8 q1;refine⟨z,(Option.some.inj q3).symm,fun r h2 hb=>?_⟩;obtain⟨e1,_,e3⟩:=q2 r h2 hb;have:r=[]:=qAD.1 e1;subst this;exact e3
theorem aBF{P:Program}{te:Nat}{θ:Nat→Option ET}{n:Nat}{hs:List (Nat×Hn)}{E:List Ent}{fn:Func}{e:Ent}(inn:jI (bM e.rs)→Option e.R)(hte:uf P te=true)(hmix:P.follows .mixedOrders=true)(hwf:JC e=true)
  (hna:Nat.ble e.na fn.ntmps=true) (hE:∀e'∈E,ah P te e') (q:∀x,amq (TI.of P) θ n hs E te fn e inn x=e.F x) {x:jI (bM e.ps)} {y:RT e.pe e.R} (hF:e.F x=some y) {t:List TV} {h:List TObj} (hb1:dW bS e.ps (fF _ x) (dM e.na) []=(t,h)):
  h.length=aD e.ps∧t.length=e.na∧e.na≤fn.ntmps∧Ji (aD e.ps) h=true∧∃c s0,fn.body=some c∧AW P (aD e.ps) c (Out (aD e.ps) h te (U7 (aD e.ps) e.pe) (fun s=>RT.ok e.pe (yK (TI.of P) (aD e.ps) fn.results.toList e.rs inn s)) s0 some (fun x s=>match x with
   | .normal=>RT.ok e.pe (yK (TI.of P) (aD e.ps) fn.results.toList e.rs inn s)
   |_=>none) y) (aU h t++List.replicate (fn.ntmps - e.na) (.tup [])) (aB h):=by
 unfold JC at hwf;rw[qAa,qAa]at hwf;obtain⟨⟨hra,hwf⟩,hwp⟩:=hwf;rw[qAa]at hra;obtain⟨har,hal⟩:=hra;simp only[qAa]at hwf;obtain⟨edps,edrs,psok,rsok⟩:=hwf;have hal:∀k∈j3 e.ps,k<e.na:=fun k hk=>qAf (qAP.1 hal k hk);have har:=au0 har;have hna:=qAf hna;rw[←q x]at hF;unfold amq at hF;cases hbody:fn.body with
 |none=>rw[hbody]at hF;cases hF
 |some c=>
  rw[hbody]at hF;simp only at hF;rw[Ry]at hF;have typ:(fF (bM e.ps) x).map U.t=bM e.ps++[]:=by rw[KV,qAt]
  have B1:=uz e.ps (fF _ x) 0 [] [] (dM e.na) [] [] typ edps (qAd _) rfl;rw[hb1]at B1;simp only at B1;have hul:(dM e.na).length=e.na:=by unfold dM;rw[qBv]
  have htl:t.length=e.na:=by rw[B1.tl,hul]
  have hhl:h.length=aD e.ps:=by rw[B1.hl,qAL]
  -- the slots of the whole frame
  have two:dW bS e.ps (fF _ x) (List.replicate fn.ntmps (.tup [])) []=(t++List.replicate (fn.ntmps - e.na) (.tup []),h):=by
   rw[XY e.ps (fF _ x) (List.replicate fn.ntmps (.tup [])) (dM e.na++List.replicate (fn.ntmps - e.na) (.tup [])) [] (by rw[qAe,hul,qBv,qBv];omega) (fun k hk=>?_),
    Ya e.ps (fF _ x) (dM e.na) _ [] (fun k hk=>by rw[hul];exact hal k hk),hb1]
   have hge:e.na≤k:=by
    apply qAn;intro hlt;exact hk (har k (by omega))
   rw[jF,jF,List.getD,List.getD,qAl (by rw[hul];exact hge),hul,qCa,qCa];by_cases hk2:k<fn.ntmps
   ·rw[if_pos hk2,if_pos (by omega)]
   ·rw[if_neg hk2,if_neg (by omega)]
  rw[two]at hF;simp only at hF;have hH:Ji (aD e.ps) h=true:=aAI fun l=>by
   by_cases hl:l<aD e.ps
   ·obtain⟨hd,us',e1,e2⟩:=B1.new l hl;rw[qAL]at e2;obtain⟨_,p2,p3⟩:=Ob psok hd e1;rw[e2];refine⟨axf _ hd us' p2,fun cs hc=>?_⟩;obtain⟨ss,rfl,rfl⟩:=abx p2 hc;rw[←Xu];exact Dm (n:=aD e.ps) (ds:=[]) (fun l hl=>by simp only[qAa]at hl;exact hl.1) ss us' (p3 ss rfl)
   ·rw[mq (by omega)];exact⟨fun h=>(by cases h),fun cs h=>(by cases h)⟩
  have st0:St (aD e.ps) h ⟨t++List.replicate (fn.ntmps - e.na) (.tup []),h,[],[],[],[],[],[]⟩:=
   ⟨⟨fun i k c h1=>(by cases h1),fun d i j h1=>(by cases h1),fun d x h1=>(by cases h1)⟩,qBm hhl.symm,fun l _ _=>.inl rfl⟩
  have main:=WL (n:=n) (hs:=hs) (te:=te) (pn:=U7 (aD e.ps) e.pe) (ret:=fun s=>RT.ok e.pe (yK (TI.of P) (aD e.ps) fn.results.toList e.rs inn s)) (m:=aD e.ps) (h0:=h) hE hte hmix c _ 1 _ some _ y st0 hF;have ea:aU h (t++List.replicate (fn.ntmps - e.na) (.tup []))=aU h t++List.replicate (fn.ntmps - e.na) (.tup []):=by rw[uM,qBj,←uM,←uM,aEQ]
  simp only at main;rw[ea]at main;exact⟨hhl,htl,hna,hH,c,_,rfl,main⟩
theorem aHw{P:Program}{te:Nat}{θ:Nat→Option ET}{n:Nat}{hs:List (Nat×Hn)}{E:List Ent}{fn:Func}{e:Ent}(inn:jI (bM e.rs)→Option e.R)(hte:uf P te=true)(hmix:P.follows .mixedOrders=true)(hf:P.funcs[e.f]? =some fn)(hok:mQ P e.f=true)(hwf:JC e=true)
  (hna:Nat.ble e.na fn.ntmps=true) (hnr:e.nr=fn.results.toList.length) (hinn:∀z y,inn z=some y→e.out y=z) (hE:∀e'∈E,ah P te e') (q:∀x,amq (TI.of P) θ n hs E te fn e inn x=e.F x):ah P te e:=by
 refine⟨hok,hwf,fun x y hF t h hb1=>?_⟩;have hw0:=hwf;unfold JC at hwf;rw[qAa,qAa]at hwf;obtain⟨⟨_,hwf⟩,hwp⟩:=hwf;simp only[qAa]at hwf;obtain⟨edps,edrs,psok,rsok⟩:=hwf;obtain⟨hhl,htl,hnb,hH,c,s0,hbody,main⟩:=aBF inn hte hmix hw0 hna hE q hF hb1;have hlH:(aB h).length=aD e.ps:=by rw[aB,qAi,hhl]
 -- a plain end
 have plain:∀(y0:e.R),(∀ex t' h',Out (aD e.ps) h te (U7 (aD e.ps) e.pe) (fun s=>RT.ok e.pe (yK (TI.of P) (aD e.ps) fn.results.toList e.rs inn s)) s0 some (fun x s=>match x with
   | .normal=>RT.ok e.pe (yK (TI.of P) (aD e.ps) fn.results.toList e.rs inn s)
   |_=>none) y ex t' h'→(ex=.normal∨ex=.ret)∧∃s',Le (aD e.ps) t' h' (aU s'.h s'.t) (aB s'.h)∧St (aD e.ps) h s'∧yK (TI.of P) (aD e.ps) fn.results.toList e.rs inn s'=some y0)→
   ∀r h2,dW bS e.rs (fF _ (e.out y0)) (dM e.nr) h=(r,h2)→eH P e.f (aU h t) (aB h) (av h2 (res1 r)) (aB h2):=fun y0 hout r h2 hb2=>by
  refine apS hf hbody (by rw[Em];omega) ?_ ?_
  ·have B2:=uz e.rs (fF _ (e.out y0)) (aD e.ps) [] [] (dM e.nr) h [] (by rw[KV,qAt]) edrs (qAd _) hhl;rw[hb2]at B2;rw[aB,qAi,B2.hl];omega
  ·rw[hlH,Em,htl];refine main.mono fun ex t' hh' ho=>?_;obtain⟨hx,s',g1,g2,g3⟩:=hout ex t' hh' ho;obtain⟨t1,h1,xs,k1,k2,k3⟩:=ad9 (h:=t) hinn edrs hhl hH hnr g2 g3 hb2;rcases hx with rfl|rfl
   ·exact⟨t1,h1,xs,g1.trans k1,k2,k3⟩
   ·exact⟨t1,h1,xs,g1.trans k1,k2,k3⟩
 obtain⟨f,na,ps,nr,rs,R,pe,F,out⟩:=e;simp only at *;cases pe with
 |none=>
  refine plain y fun ex t' h' ho=>?_;cases ho with
  |ret g1 g2 g3 g4=>cases g4;exact⟨.inr rfl,_,g1,g2,g3⟩
  |qd g1 g2 g3 g4=>cases g3
  |go g1 g2 g3 g4=>
   cases ex with
   |normal=>exact⟨.inl rfl,_,g1,g2,g4⟩
   |exit id=>cases g4
   |goto l=>cases g4
   |ret=>cases g4
   |panic c=>cases g4
   |outgrown=>cases g4
 |some eds=>
  simp only[qAa]at hwp;obtain⟨_,edw,_,_⟩:=hwp;have mapok:∀{o:Option R} {r:RT (some eds) R},RT.ok (some eds) o=some r→∃y0,o=some y0∧r=PZ.ok y0:=fun{o r} h=>by
   cases o with
   |none=>cases h
   |some y0=>exact⟨y0,rfl,(Option.some.inj h).symm⟩
  match y,main,plain with
  |PZ.ok y0,main,plain=>
   refine plain y0 fun ex t' h' ho=>?_;cases ho with
   |ret g1 g2 g3 g4=>
    cases g4;obtain⟨y1,e1,e2⟩:=mapok g3;cases e2;exact⟨.inr rfl,_,g1,g2,e1⟩
   |qd g1 g2 g3 g4=>
    cases g4;obtain⟨z,e1,_⟩:=aem (r:=[]) (h2:=[]) edw hhl hH g2 g3;cases e1
   |go g1 g2 g3 g4=>
    cases ex with
    |normal=>
     obtain⟨y1,e1,e2⟩:=mapok g4;cases e2;exact⟨.inl rfl,_,g1,g2,e1⟩
    |exit id=>cases g4
    |goto l=>cases g4
    |ret=>cases g4
    |panic c=>cases g4
    |outgrown=>cases g4
  |PZ.er v z,main,_=>
   show ∀r h',dW bS eds (fF _ z) (dM 0) h=(r,h')→Ej P f (aU h t) (aB h) (Cz te v) (aB h');intro r h2 hb2;have B2:=uz eds (fF _ z) (aD ps) [] [] (dM 0) h [] (by rw[KV,qAt]) edw (qAd _) hhl;rw[hb2]at B2;refine azr hf hbody (by rw[Em];omega) (by rw[hlH,aB,qAi,B2.hl];omega) ?_;rw[hlH,Em,htl];refine main.mono fun ex t' hh' ho=>?_;cases ho with
   |ret g1 g2 g3 g4=>
    cases g4;obtain⟨y1,e1,e2⟩:=mapok g3;cases e2
   |qd g1 g2 g3 g4=>
    cases g4;obtain⟨z',e1,e2⟩:=aem (r:=[]) (h2:=[]) edw hhl hH g2 g3;cases e1;exact⟨rfl,_,_,g1,e2 r h2 hb2⟩
   |go g1 g2 g3 g4=>
    cases ex with
    |normal=>
     obtain⟨y1,e1,e2⟩:=mapok g4;cases e2
    |exit id=>cases g4
    |goto l=>cases g4
    |ret=>cases g4
    |panic c=>cases g4
    |outgrown=>cases g4
end
section
open Go
inductive EOs(P:Program)(te:Nat):List Ent→Prop
 |n:EOs P te []
 |c {e:Ent} {l:List Ent}:ah P te e→EOs P te l→EOs P te (e::l)
theorem EOs.all{P:Program}{te:Nat}{l:List Ent}(h:EOs P te l):∀e∈l,ah P te e:=by
 induction h with
 |n=>intro e he;cases he
 |c h _ ih=>intro e he;rcases qAh.1 he with rfl|he;exact h;exact ih e he
noncomputable def amg(P:Program)(fn:Func)(e:Ent):Bool:=mQ P e.f&&(JC e&&(Nat.ble e.na fn.ntmps&&Nat.beq e.nr fn.results.toList.length))
theorem mkE{P:Program}{te:Nat}{τ:Nat→TI}{θ:Nat→Option ET}(hτ:τ=TI.of P)(hte:uf P te=true)(hmix:P.follows .mixedOrders=true){n:Nat}{hs:List (Nat×Hn)}{E:List Ent}{fn:Func}{e:Ent}{inn:jI (bM e.rs)→Option e.R}(hE:EOs P te E)(hf:P.funcs[e.f]? =some fn)(hc:amg P fn e=true)
  (hinn:∀z y,inn z=some y→e.out y=z) (q:∀x,amq τ θ n hs E te fn e inn x=e.F x):ah P te e:=by
 unfold amg at hc;simp only[qAa]at hc;subst hτ;exact aHw inn hte hmix hf hc.1 hc.2.1 hc.2.2.1 (qAj hc.2.2.2) hinn hE.all q
theorem jR{P:Program}{te:Nat}{fn:Func}{e:Ent}(hc:amg P fn e=true)(h:∀x,e.F x=none):ah P te e:=by
 unfold amg at hc;simp at hc;exact⟨hc.1,hc.2.1,fun x y hF=>by rw[h x]at hF;cases hF⟩
theorem sm{α:Type}:∀z y:α,some z=some y→y=z:=by grind
end
end Abs
end Go.Proofs.YthgdaonechbgmaaGreat
