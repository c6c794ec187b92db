/-
  Where ways meet: the theorem. Conditions: none; lemmas.
-/
import Derived.Test.YtfmdmcenjfkbhaaGreatDoorCD10ox8b857c
set_option linter.all false
namespace Go.Proofs.YtfmdmcenjfkbhaaGreatDoor
namespace Abs
section
open Go
section
variable {γ:Type}{b:γ}
theorem Uy{α:Type}:∀(l:List α) (n:Nat) (K:Nat→Option γ),tJ l n K=K (n+l.length)
 |[],_,_=>rfl
 |_::l,n,K=>by simp only[tJ,Uy l,qAl];congr 1;omega
theorem DK{α:Type}(l:List α)(K:Nat→Option γ):tJ l 0 K=K l.length:=by rw[Uy,qAu]
theorem ahd{n N:Nat}{m:List (Nat×Nat)}{j:Nat}(h:j<n):LJ n N m j=some j:=by
 unfold LJ;rw[show Nat.blt j n=true from qDc h];rfl
theorem ab6{n N:Nat}{m:List (Nat×Nat)}{j:Nat}(h1:n≤N)(h:N≤j):LJ n N m j=none:=by
 have key:∀k,k≤j→Nat.blt j k=false:=fun k hk=>by
  cases hb:Nat.blt j k with
  |false=>rfl
  |true=>have:j<k:=qAf hb;omega
 unfold LJ;rw[key n (by omega),key N h];rfl
theorem E9{n m:Nat}{T0 t':List TV}{h0 h':List TObj}{eds:List Ed}{K:List U→Option γ}
  (hn:h0.length=n) (hm:m≤n) (wfT:dM n T0=true) (wfH:tY n h0=true) (edw:bQ n [] [] eds=true) (tl:T0.length=t'.length) (hl:n≤h'.length)
  (slots:∀k,k∉fq eds→nth .unk T0 k=.unk∨nth .unk T0 k=nth .unk t' k)
  (objs:∀l,l<n→((∀hd,Ed.o l hd∉eds)→uF (nth .dead h0 l) (nth .dead h' l) fun _=>false)∧∀is,Ed.o l (.bx is)∈eds→uF (nth .dead h0 l) (nth .dead h' l) (jN is))
  (hK:QC n eds t' h' K=some b):
  ∃us,K us=some b∧∀T hJ,bE aT eds us T0 h0=(T,hJ)→T.length=T0.length∧n≤hJ.length∧Le m (aI h' t') (au h') (aI hJ T) (au hJ):=by
 unfold QC at hK;rw[DK]at hK;simp only at hK;obtain⟨hinj,hE⟩:=(aM hK).resolve_right fun h=>by cases h.2
 clear hK;generalize hLd:LJ n (n+aA eds) (xX t' h' n eds [])=L at hinj hE;have Llt:∀j,j<n→L j=some j:=fun j hj=>by rw[←hLd];exact ahd hj
 have Lge:∀j,n+aA eds≤j→L j=none:=fun j hj=>by rw[←hLd];exact ab6 (Nat.le_add_right _ _) hj
 have inj:=ME (aA eds) n [] hinj;obtain⟨us,hus,hB⟩:=vv eds n K [] [] edw (qAq _) hE;refine⟨us,hus,fun T hJ hbl=>?_⟩;obtain⟨T1,h1,q1,la⟩:=hB T0 h0 [] hn;rw[qAt,hbl]at q1;cases q1;refine⟨la.tl,by rw[la.hl];omega,?_⟩
 let N:=n+aA eds
 let Lw:List (Option Nat):=(List.range N).map L
 have Lw_get:∀i,i<N→Lw[i]? =some (L i):=fun i hi=>by simp[Lw,hi]
 have Lw_none:∀i,N≤i→Lw[i]? =none:=fun i hi=>by simp[Lw];omega
 have hLn:∀j l,L j=some l→eF Lw (au h').length j=l:=fun j l h=>by
  have hj:j<N:=by
   apply qAm;intro hj;rw[Lge j (by omega)]at h;cases h
  unfold eF;rw[Lw_get j hj,h];rfl
 have newAt:∀j,n≤j→j<N→(∃l hd,L j=some l∧Ed.w hd∈eds∧FO h' L 2 hd .dead (nth .dead hJ j) (nth .dead h' l))∨(L j=none∧2≤2∧∃e,nth .dead hJ j=.own e []∨nth .dead hJ j=.arr e []):=fun j h1 h2=>by
  have:=la.new (j - n) (by omega);rw[show n+(j - n)=j from by omega]at this;exact this.imp (fun⟨l,hd,e1,e2,e3⟩=>⟨l,hd,e1,e2.1,e3⟩) id
 have look:∀j l,L j=some l→VW (au h') Lw (bV j (nth .dead hJ j)) (bV l (nth .dead h' l))∧∀z,VW (au h') Lw (bI j z (nth .dead hJ j)) (bI l z (nth .dead h' l)):=fun j l hj=>by
  by_cases hlt:j<n
  ·have e:=Llt j hlt;rw[hj]at e;cases e;by_cases hed:∃hd,Ed.o j hd∈eds
   ·obtain⟨hd,hed⟩:=hed;exact Zq (la.obj j hd hed) (hLn j j hj)
   ·have hno:∀hd,Ed.o j hd∉eds:=fun hd h=>hed ⟨hd,h⟩;rw[la.keepO j hlt hno];rcases(objs j hlt).1 hno with e|⟨cs,cs',e1,e2,_⟩
    ·rw[e];exact I6 _ (hLn j j hj)
    ·rw[e1,e2];exact⟨.unk _,fun z=>.unk _⟩
  ·have hN:j<N:=by
    apply qAm;intro hN;rw[Lge j (by omega)]at hj;cases hj
   rcases newAt j (by omega) hN with⟨l',hd,e1,_,e3⟩|⟨e1,_⟩
   ·rw[hj]at e1;cases e1;exact Zq e3 (hLn j l hj)
   ·rw[hj]at e1;cases e1
 have non:∀j,L j=none→VW (au h') Lw (bV j (nth .dead hJ j)) (.slice [] .nils)∧∀z,VW (au h') Lw (bI j z (nth .dead hJ j)) (.slice [] .nils):=fun j hj=>by
  by_cases hN:j<N
  ·have hge:n≤j:=by
    apply qAm;intro hlt;rw[Llt j (by omega)]at hj;cases hj
   rcases newAt j hge hN with⟨l',hd,e1,_⟩|⟨_,_,e,e1|e1⟩
   ·rw[hj]at e1;cases e1
   ·rw[e1];exact⟨.nils _ _,fun z=>.unk _⟩
   ·rw[e1];exact⟨.unk _,fun z=>.nilP _ _⟩
  ·rw[gD (by rw[la.hl];omega)];exact⟨.unk _,fun z=>.unk _⟩
 have hW:=ahh hLn look non;have hslot:∀k,VW (au h') Lw (av hJ (nth .unk T k)) (av h' (nth .unk t' k)):=fun k=>by
  by_cases hk:k∈fq eds
  ·obtain⟨s,hs⟩:=yT hk;by_cases hlt:k<T0.length
   ·exact la.slot k s hs hlt hJ _ hW
   ·rw[gD (by rw[la.tl];omega)];exact .unk _
  ·rw[la.keep k hk];rcases slots k hk with e|e
   ·rw[e];exact .unk _
   ·rw[←e];refine L9 hW hLn Llt _ ?_;by_cases hlt:k<T0.length
    ·refine Lf wfT _ ?_;rw[dF,List.getD,qAd hlt];exact qAV hlt
    ·rw[gD (by omega)];rfl
 have hobj:∀i l,L i=some l→OW (au h') Lw (bY hJ (nth .dead hJ i)) (bY h' (nth .dead h' l)):=fun i l hi=>by
  by_cases hlt:i<n
  ·have e:=Llt i hlt;rw[hi]at e;cases e;by_cases hed:∃hd,Ed.o i hd∈eds
   ·obtain⟨hd,hed⟩:=hed;exact ab0 hW hLn Llt (la.obj i hd hed) fun is cs e e2=>⟨(mV wfH).2 cs e2,by subst e;exact(objs i hlt).2 is hed⟩
   ·have hno:∀hd,Ed.o i hd∉eds:=fun hd h=>hed ⟨hd,h⟩;rw[la.keepO i hlt hno];rcases(objs i hlt).1 hno with e|⟨cs,cs',e1,e2,e3,e4⟩
    ·rw[e];exact ahl hW hLn Llt _ (mV wfH).1 (mV wfH).2
    ·have hb:=(mV wfH).2 cs e1;rw[e1,e2];refine CX e3.symm fun q hq=>?_;have hm:(aB cs).getD q .unk∈aB cs:=by rw[List.getD,qAd hq];exact qAV hq
     have:=L9 hW hLn Llt _ (ze hb _ hm);simp only[List.getD]at this⊢;rw[e4 q rfl];exact this
  ·have hN:i<N:=by
    apply qAm;intro hN;rw[Lge i (by omega)]at hi;cases hi
   rcases newAt i (by omega) hN with⟨l',hd,e1,_,e3⟩|⟨e1,_⟩
   ·rw[hi]at e1;cases e1;exact ab0 hW hLn Llt e3 fun is cs e e2=>by cases e2
   ·rw[hi]at e1;cases e1
 refine Le.of Lw ⟨by rw[qw,qw,la.tl,tl],by simp[Lw,au,la.hl,N],fun i hi=>by rw[Lw_get i (by omega),Llt i (by omega)],?_,?_,fun k=>by rw[qy,qy];exact hslot k,?_,?_⟩
 ·intro i j l hi hj li lj;have hiN:i<N:=by
   apply qAm;intro hN;rw[Lw_none i (by omega)]at hi;cases hi
  have hjN:j<N:=by
   apply qAm;intro hN;rw[Lw_none j (by omega)]at hj;cases hj
  rw[Lw_get i hiN]at hi;rw[Lw_get j hjN]at hj;have hi:=Option.some.inj hi;have hj:=Option.some.inj hj;have mix:∀i j,i<n→n≤j→j<N→L i=some l→L j=some l→live (obj? (au hJ) i)→False:=fun i j h1 h2 h3 hi hj li=>by
   have ei:i=l:=Option.some.inj ((Llt i h1).symm.trans hi);obtain⟨_,_,g3,_⟩:=inj (j - n) (by omega) l (by rw[show n+(j - n)=j from by omega];exact hj);rcases g3 with g3|g3
   ·omega
   ·have e:nth .dead hJ l=.dead:=la.obj l .dead (Al g3);rw[←ei]at e;rw[fC,e]at li;exact li
  by_cases h1:i<n
  ·by_cases h2:j<n
   ·rw[Llt i h1]at hi;rw[Llt j h2]at hj;cases hi;cases hj;rfl
   ·exact(mix i j h1 (by omega) hjN hi hj li).elim
  ·by_cases h2:j<n
   ·exact(mix j i h2 (by omega) hiN hj hi lj).elim
   ·obtain⟨_,_,_,g4⟩:=inj (j - n) (by omega) l (by rw[show n+(j - n)=j from by omega];exact hj);have:=g4 (i - n) (by omega) (by rw[show n+(i - n)=i from by omega];exact hi);omega
 ·intro i l hi;have hiN:i<N:=by
   apply qAm;intro hN;rw[Lw_none i (by omega)]at hi;cases hi
  rw[Lw_get i hiN]at hi;have hi:=Option.some.inj hi;have hll:(au h').length=h'.length:=by simp[au]
  rw[hll];by_cases h1:i<n
  ·rw[Llt i h1]at hi;cases hi;omega
  ·exact(inj (i - n) (by omega) l (by rw[show n+(i - n)=i from by omega];exact hi)).1
 ·intro i l hi;have hiN:i<N:=by
   apply qAm;intro hN;rw[Lw_none i (by omega)]at hi;cases hi
  rw[Lw_get i hiN]at hi;have hi:=Option.some.inj hi;rw[fC,fC];exact hobj i l hi
 ·intro i hi;have hiN:i<N:=by
   apply qAm;intro hN;rw[Lw_none i (by omega)]at hi;cases hi
  rw[Lw_get i hiN]at hi;have hi:=Option.some.inj hi;have hge:n≤i:=by
   apply qAm;intro hlt;rw[Llt i (by omega)]at hi;cases hi
  rw[fC];rcases newAt i hge hiN with⟨l',hd,e1,_⟩|⟨_,_,e,e1|e1⟩
  ·rw[hi]at e1;cases e1
  ·rw[e1];rfl
  ·rw[e1];rfl
end
end
section
open Go
noncomputable section
mutual
def bU(g:Nat→Nat):TV→TV
 | .ptr l o=>.ptr (g l) o
 | .mapr l=>.mapr (g l)
 | .ap l i z o=>.ap (g l) i z o
 | .own l=>.own (g l)
 | .psl l z c=>.psl (g l) z c
 | .eptr cs=>.eptr (qK g cs)
 | .agg cs=>.agg (qK g cs)
 | .tup cs=>.tup (qK g cs)
 | .func f cs=>.func f (qK g cs)
 | .unk=>.unk| .nilp=>.nilp| .nilF=>.nilF| .nils=>.nils| .lf t x=>.lf t x| .nat n=>.nat n
def qK(g:Nat→Nat):List TV→List TV
 |[]=>[]
 |v::vs=>bU g v::qK g vs
end
theorem sF(g:Nat→Nat):∀vs,qK g vs=vs.map (bU g)
 |[]=>rfl
 |v::vs=>by simp only[qK,qAz,sF g vs]
def fH(g:Nat→Nat):TObj→TObj
 | .box cs=>.box (cs.map (bU g))
 |o=>o
theorem KW(g:Nat→Nat)(v:TV):width (bU g v)=width v:=by cases v<;>rfl
theorem Us{g:Nat→Nat}{v:TV}{e:ET}{x:e.D}(h:bU g v=.lf (.t e) x):v=.lf (.t e) x:=by cases v<;>first|exact h|cases h
theorem acY(g:Nat→Nat){l:List U}:(l.map fun u=>TV.lf u.t u.x).map (bU g)=l.map fun u=>TV.lf u.t u.x:=by rw[qBr];rfl
theorem Wp(g:Nat→Nat)(e:ET)(x:e.D):(comps e x).map (bU g)=comps e x:=acY g
theorem Wq(g:Nat→Nat)(v:TV):AA (bU g v)=(AA v).map (bU g):=by
 rcases j6 v with h|⟨e,x,rfl⟩
 ·have h':one (bU g v):=DY fun e x q=>by
   rw[Us q]at h;have:=lU h;cases e<;>cases this
  rw[lU h,lU h'];rfl
 ·cases e<;>rfl
theorem DU(g:Nat→Nat):∀vs:List TV,aB (vs.map (bU g))=(aB vs).map (bU g)
 |[]=>rfl
 |v::vs=>by simp only[qAz,aB,Wq,DU g vs,qAY]
section
variable {γ:Type}
theorem yF(g:Nat→Nat):∀(f:Nat) (cs:List TV) (n:Nat) (K:List TV→List TV→Option γ),splitK f (cs.map (bU g)) n K=splitK f cs n fun a r=>K (a.map (bU g)) (r.map (bU g))
 |0,_,_,_=>rfl
 |f+1,cs,n,K=>by
  cases n with
  |zero=>rfl
  |succ m=>
   cases cs with
   |nil=>rfl
   |cons c r=>
    have e1:=yF g f r (m+1 - width c) fun a b=>K (bU g c::a) b;simp only[qAz,splitK,KW];rw[e1];cases Nat.ble (width c) (m+1)with
    |true=>rfl
    |false=>
     cases c with
     |lf t x=>
      cases t with
      |t e=>
       have:=yF g f (comps e x++r) (m+1) K;rw[qAY,Wp]at this;exact this
      |_=>rfl
     |_=>rfl
theorem Z9(g:Nat→Nat)(cs vs:List TV)(off:Nat):lC (cs.map (bU g)) off (vs.map (bU g)) some=(lC cs off vs some).map (List.map (bU g)):=by
 have hw:widths (vs.map (bU g))=widths vs:=by
  induction vs with
  |nil=>rfl
  |cons v vs ih=>simp only[qAz,widths,KW,ih]
 have mp:∀(f:Nat) (cs:List TV) (n:Nat) (K:List TV→List TV→Option (List TV)),(splitK f cs n K).map (List.map (bU g))=splitK f cs n fun a b=>(K a b).map (List.map (bU g)):=fun f=>by
  induction f with
  |zero=>intro cs n K;rfl
  |succ f ih=>
   intro cs n K;cases n with
   |zero=>rfl
   |succ m=>
    cases cs with
    |nil=>rfl
    |cons c r=>
     simp only[splitK];cases Nat.ble (width c) (m+1)with
     |true=>simp only[cond_true];exact ih _ _ _
     |false=>
      split
      ·grind
      ·rfl
 unfold lC;rw[yF,mp,hw];congr 1;funext a b;rw[yF,mp]
 grind
end
mutual
theorem Gd(g:Nat→Nat):∀(s:Sk) (us:List U),bK g s us=(bU g (bK aT s us).1,(bK aT s us).2)
 | .unk,_=>rfl
 | .nilp,_=>rfl
 | .nilF,_=>rfl
 | .k _,_=>rfl
 | .nils,_=>rfl
 | .lf _,us=>by cases us<;>rfl
 | .ptr _ _,_=>rfl
 | .eptr cs,us=>by simp only[bK,qI g cs us,bU,sF]
 | .agg cs,us=>by simp only[bK,qI g cs us,bU,sF]
 | .tup cs,us=>by simp only[bK,qI g cs us,bU,sF]
 | .func _ cs,us=>by simp only[bK,qI g cs us,bU,sF]
 | .mapr _,_=>rfl
 | .own _,_=>rfl
 | .psl _ _,_=>rfl
theorem qI(g:Nat→Nat):∀(ss:List Sk) (us:List U),dh g ss us=((dh aT ss us).1.map (bU g),(dh aT ss us).2)
 |[],_=>rfl
 |s::ss,us=>by simp only[dh,Gd g s us,qI g ss,qAz]
end
theorem CW(g:Nat→Nat):∀(ps:List (Nat×Sk)) (c:Option (List TV)) (us:List U),fE g ps (c.map (List.map (bU g))) us=((fE aT ps c us).1.map (List.map (bU g)),(fE aT ps c us).2)
 |[],_,_=>rfl
 |p::ps,c,us=>by
  have key:(c.map (List.map (bU g))).bind (fun cs=>lC cs p.1 [bU g (bK aT p.2 us).1] some)=(c.bind fun cs=>lC cs p.1 [(bK aT p.2 us).1] some).map (List.map (bU g)):=by
   cases c with
   |none=>rfl
   |some cs=>
    have:=Z9 g cs [(bK aT p.2 us).1] p.1
    grind
  have ih:=CW g ps (c.bind fun cs=>lC cs p.1 [(bK aT p.2 us).1] some) (bK aT p.2 us).2;unfold fE;rw[Gd g p.2 us]
  grind
theorem KM(g:Nat→Nat)(o:TObj)(h:HO)(us:List U):aS g (fH g o) h us=(fH g (aS aT o h us).1,(aS aT o h us).2):=by
 cases h with
 |dead=>rfl
 |box cs=>simp only[aS,qI g cs us,fH]
 |bx l=>
  have none':=CW g l none us;simp at none';cases o with
  |box cs=>
   have:=CW g l (some cs) us;simp only[fH,aS]
   grind
  |_=>simp only[fH,aS,none']
 |own e=>
  cases us with
  |nil=>rfl
  |cons u us=>obtain⟨t,x⟩:=u;cases t<;>rfl
 |mp e=>
  cases us with
  |nil=>rfl
  |cons u us=>obtain⟨t,x⟩:=u;cases t<;>rfl
 |arr e=>
  cases us with
  |nil=>rfl
  |cons u us=>obtain⟨t,x⟩:=u;cases t<;>rfl
theorem Cb{α β:Type}{d:α}{d':β}(f:α→β)(hd:f d=d')(l:List α)(n:Nat):nth d' (l.map f) n=f (nth d l n):=by
 rw[dF,dF];simp;cases l[n]?<;>simp[hd]
theorem zI(g:Nat→Nat):∀(es:List Ed) (us:List U) (t:List TV) (h:List TObj),bE g es us (t.map (bU g)) (h.map (fH g))=((bE aT es us t h).1.map (bU g),(bE aT es us t h).2.map (fH g))
 |[],_,_,_=>rfl
 | .r n s::es,us,t,h=>by simp only[bE,Gd g s us,←qCE,zI g es]
 | .o l s::es,us,t,h=>by
  have ih:=zI g es (aS aT (nth .dead h l) s us).2 t (h.set l (aS aT (nth .dead h l) s us).1);have e1:nth .dead (h.map (fH g)) l=fH g (nth .dead h l):=Cb (d:=.dead) (d':=.dead) (fH g) rfl h l;unfold bE;rw[e1,KM g]
  simp_all
 | .w s::es,us,t,h=>by
  have ih:=zI g es (aS aT .dead s us).2 t (h++[(aS aT .dead s us).1]);have e1:aS g .dead s us=(fH g (aS aT .dead s us).1,(aS aT .dead s us).2):=KM g .dead s us;unfold bE
  grind
mutual
def uG(A:Nat→Bool):TV→Bool
 | .ptr l _=>A l
 | .mapr l=>A l
 | .ap l _ _ _=>A l
 | .own l=>A l
 | .psl l _ _=>A l
 | .eptr cs=>iV A cs
 | .agg cs=>iV A cs
 | .tup cs=>iV A cs
 | .func _ cs=>iV A cs
 | .unk=>true| .nilp=>true| .nilF=>true| .nils=>true| .lf _ _=>true| .nat _=>true
def iV(A:Nat→Bool):List TV→Bool
 |[]=>true
 |v::vs=>uG A v&&iV A vs
end
theorem Qe{A:Nat→Bool}:∀{vs:List TV},iV A vs=true↔∀v∈vs,uG A v=true
 |[]=>by simp[iV]
 |v::vs=>by simp only[iV,qAa,Qe,qAh,forall_eq_or_imp]
theorem Yh(A:Nat→Bool)(e:ET)(x:e.D):∀v∈vT e x,uG A v=true:=by
 intro v hv;cases e<;>simp only[vT,qAh]at hv<;>(repeat' (rcases hv with rfl|hv))<;>first|rfl|(subst hv;rfl)
def Qo(A:Nat→Bool)(cs:List TV):Prop:=∀v∈aB cs,uG A v=true
theorem BL{A:Nat→Bool}:∀{cs:List TV},iV A cs=true→Qo A cs
 |[],_=>fun v h=>by cases h
 |c::cs,h=>by
  simp only[iV,qAa]at h;intro v hv;simp only[aB,qAy]at hv;rcases hv with hv|hv
  ·rcases j6 c with ho|⟨e,y,rfl⟩
   ·rw[lU ho,qAL]at hv;subst hv;exact h.1
   ·exact Yh A e y v hv
  ·exact BL h.2 v hv
def Yy(A:Nat→Bool)(o:TObj):Prop:=∀cs,o=.box cs→Qo A cs
mutual
theorem Ct{n:Nat}{ds:List Nat}{A:Nat→Bool}(hA:∀l,(Nat.blt l n&&!(mem ds l))=true→A l=true):∀(s:Sk) (us:List U),Dt n ds s=true→uG A (bK aT s us).1=true
 | .unk,_,_=>rfl
 | .nilp,_,_=>rfl
 | .nilF,_,_=>rfl
 | .k _,_,_=>rfl
 | .nils,_,_=>rfl
 | .lf _,us,_=>by cases us<;>rfl
 | .ptr l _,_,h=>hA l h
 | .eptr cs,us,h=>p9 hA cs us h
 | .agg cs,us,h=>p9 hA cs us h
 | .tup cs,us,h=>p9 hA cs us h
 | .func _ cs,us,h=>p9 hA cs us h
 | .mapr l,_,h=>hA l h
 | .own l,_,h=>hA l h
 | .psl l _,_,h=>hA l h
theorem p9{n:Nat}{ds:List Nat}{A:Nat→Bool}(hA:∀l,(Nat.blt l n&&!(mem ds l))=true→A l=true):∀(ss:List Sk) (us:List U),nV n ds ss=true→iV A (dh aT ss us).1=true
 |[],_,_=>rfl
 |s::ss,us,h=>by
  simp only[nV,qAa]at h;simp only[dh,iV,qAa];exact⟨Ct hA s us h.1,p9 hA ss _ h.2⟩
end
theorem Sr{n:Nat}{ds:List Nat}{A:Nat→Bool}(hA:∀l,(Nat.blt l n&&!(mem ds l))=true→A l=true):∀(is:List (Nat×Sk)) (c:Option (List TV)) (us:List U),(is.all fun p=>Dt n ds p.2)=true→(∀cs,c=some cs→Qo A cs)→∀cs,(fE aT is c us).1=some cs→Qo A cs
 |[],c,us,_,hc,cs,h=>hc cs h
 |p::ps,c,us,hs,hc,cs,h=>by
  simp only[qBQ,qAa]at hs;refine Sr hA ps _ _ hs.2 (fun cs1 h1=>?_) cs h;cases c with
  |none=>cases h1
  |some cs0=>
   obtain⟨q1,_⟩:=uS h1;intro v hv;rw[q1]at hv;simp only[qAy]at hv;rcases hv with(hv|hv)|hv
   ·exact hc cs0 rfl v (qDi hv)
   ·exact BL (cs:=[(bK aT p.2 us).1]) (by simp only[iV,qBv];exact Ct hA p.2 us hs.1) v hv
   ·exact hc cs0 rfl v (List.mem_of_mem_drop hv)
theorem PY{n:Nat}{ds:List Nat}{A:Nat→Bool}(hA:∀l,(Nat.blt l n&&!(mem ds l))=true→A l=true)(o:TObj)(hd:HO)(us:List U)(h:MJ n ds hd=true)(ho:Yy A o):Yy A (aS aT o hd us).1:=by
 intro cs hc;cases hd with
 |dead=>cases hc
 |box ss=>cases hc;exact BL (p9 hA ss us h)
 |bx is=>
  cases o with
  |box cs0=>
   simp only[aS]at hc;cases hq:(fE aT is (some cs0) us).1 with
   |none=>rw[hq]at hc;cases hc
   |some cs1=>
    rw[hq]at hc;cases hc;exact Sr hA is _ us h (fun cs2 h2=>by cases h2;exact ho cs0 rfl) cs hq
  |_=>cases hc
 |own e=>
  cases us with
  |nil=>cases hc
  |cons u us=>obtain⟨t,x⟩:=u;cases t<;>cases hc
 |mp e=>
  cases us with
  |nil=>cases hc
  |cons u us=>obtain⟨t,x⟩:=u;cases t<;>cases hc
 |arr e=>
  cases us with
  |nil=>cases hc
  |cons u us=>obtain⟨t,x⟩:=u;cases t<;>cases hc
theorem Ue(o:TObj)(hd:HO)(us:List U)(h:(match hd with| .own _=>false| .arr _=>false|_=>true)=true):plainO (aS aT o hd us).1=true:=by
 cases hd with
 |dead=>rfl
 |box ss=>rfl
 |bx is=>
  cases o with
  |box cs0=>simp only[aS];cases(fE aT is (some cs0) us).1<;>rfl
  |_=>rfl
 |own e=>cases h
 |mp e=>
  cases us with
  |nil=>rfl
  |cons u us=>obtain⟨t,x⟩:=u;cases t<;>rfl
 |arr e=>cases h
theorem vw:∀(ts:List LT) (x:eG ts),(bR ts x).map U.t=ts
 |[],_=>rfl
 |[t],_=>rfl
 |t::u::ts,x=>by simp only[bR,qAz];rw[vw (u::ts) x.2]
mutual
theorem wz:∀(s:Sk) (us:List U) (rest:List LT),us.map U.t=s.xG++rest→(bK aT s us).2.map U.t=rest∧width (bK aT s us).1=mh s
 | .unk,us,rest,h=>⟨h,rfl⟩
 | .nilp,us,rest,h=>⟨h,rfl⟩
 | .nilF,us,rest,h=>⟨h,rfl⟩
 | .k c,us,rest,h=>⟨h,CU.width c⟩
 | .nils,us,rest,h=>⟨h,rfl⟩
 | .lf t,us,rest,h=>by
  cases us with
  |nil=>cases h
  |cons u us=>
   simp only[Sk.xG,qAz,qAH,qAC,List.cons.injEq]at h;obtain⟨t',x⟩:=u;obtain⟨h1,h2⟩:=h;simp only at h1;subst h1;exact⟨h2,by cases t'<;>rfl⟩
 | .ptr _ _,us,rest,h=>⟨h,rfl⟩
 | .eptr cs,us,rest,h=>⟨qC cs us rest h,rfl⟩
 | .agg cs,us,rest,h=>⟨qC cs us rest h,rfl⟩
 | .tup cs,us,rest,h=>⟨qC cs us rest h,rfl⟩
 | .func _ cs,us,rest,h=>⟨qC cs us rest h,rfl⟩
 | .mapr _,us,rest,h=>⟨h,rfl⟩
 | .own _,us,rest,h=>⟨h,rfl⟩
 | .psl _ _,us,rest,h=>⟨h,rfl⟩
theorem qC:∀(ss:List Sk) (us:List U) (rest:List LT),us.map U.t=Sk.Bj ss++rest→(dh aT ss us).2.map U.t=rest
 |[],us,rest,h=>h
 |s::ss,us,rest,h=>by
  simp only[Sk.Bj,qAr]at h;exact qC ss _ rest (wz s us _ h).1
end
theorem yB:∀(is:List (Nat×Sk)) (c:Option (List TV)) (us:List U) (rest:List LT),us.map U.t=(is.flatMap fun p=>p.2.xG)++rest→(fE aT is c us).2.map U.t=rest∧
  ∀cs cf,c=some cs→(fE aT is c us).1=some cf→(aB cf).length=(aB cs).length∧∀q,jN is q=false→(aB cf)[q]? =(aB cs)[q]?
 |[],c,us,rest,h=>⟨h,fun cs cf h1 h2=>by
  rw[h1]at h2;cases h2;exact⟨rfl,fun _ _=>rfl⟩⟩
 |p::ps,c,us,rest,h=>by
  simp only[qCN,qAr]at h;obtain⟨h1,h2⟩:=wz p.2 us _ h;have ih:=yB ps (c.bind fun cs=>lC cs p.1 [(bK aT p.2 us).1] some) _ rest h1;refine⟨ih.1,fun cs cf hc hf=>?_⟩;subst hc;simp only[qAb]at ih;simp only[fE,qAb]at hf;cases hq:lC cs p.1 [(bK aT p.2 us).1] some with
  |none=>
   rw[hq]at hf;have nn:∀(l:List (Nat×Sk)) (us:List U),(fE aT l none us).1=none:=fun l=>by
    induction l with
    |nil=>intro us;rfl
    |cons p l ih=>intro us;simp only[fE,Option.bind_none];exact ih _
   grind
  |some cs1=>
   rw[hq]at ih hf;obtain⟨g1,g2⟩:=ih.2 cs1 cf rfl hf;obtain⟨q1,q2⟩:=uS hq;have hw:(aB [(bK aT p.2 us).1]).length=mh p.2:=by rw[ji];simp only[widths,h2,qAJ]
   refine⟨by rw[g1,q1];simp only[qAj,qAw,qCh];omega,fun q hq=>?_⟩;have hps:jN ps q=false:=by
    cases hps:jN ps q with
    |false=>rfl
    |true=>rw[nL.2 (.inr hps)]at hq;cases hq
   have hout:¬(p.1≤q∧q<p.1+mh p.2):=fun hh=>by rw[nL.2 (.inl hh)]at hq;cases hq
   rw[g2 q hps,q1];by_cases hlt:q<p.1
   ·rw[qAr,qAe (by simp only[qAw];omega),qBf,if_pos hlt]
   grind
theorem KN(o:TObj)(hd:HO)(us:List U)(rest:List LT)(h:us.map U.t=hd.xG++rest):(aS aT o hd us).2.map U.t=rest:=by
 cases hd with
 |dead=>exact h
 |box cs=>exact qC cs us rest h
 |bx is=>cases o<;>exact(yB is _ us rest h).1
 |own e=>
  cases us with
  |nil=>cases h
  |cons u us=>
   simp only[HO.xG,qAz,qAH,List.cons.injEq]at h;obtain⟨t',x⟩:=u;obtain⟨h1,h2⟩:=h;subst h1;exact h2
 |mp e=>
  cases us with
  |nil=>cases h
  |cons u us=>
   simp only[HO.xG,qAz,qAH,List.cons.injEq]at h;obtain⟨t',x⟩:=u;obtain⟨h1,h2⟩:=h;subst h1;exact h2
 |arr e=>
  cases us with
  |nil=>cases h
  |cons u us=>
   simp only[HO.xG,qAz,qAH,List.cons.injEq]at h;obtain⟨t',x⟩:=u;obtain⟨h1,h2⟩:=h;subst h1;exact h2
structure Bld(es:List Ed)(j:Nat)(T:List TV)(h:List TObj)(T1:List TV)(h1:List TObj):Prop where
 tl:T1.length=T.length
 hl:h1.length=j+aA es
 slot:∀k,nth .unk T1 k=nth .unk T k∨∃s us,Ed.r k s∈es∧nth .unk T1 k=(bK aT s us).1
 keepO:∀l,l<j→(∀hd,Ed.o l hd∉es)→nth .dead h1 l=nth .dead h l
 obj:∀l hd,Ed.o l hd∈es→∃us rest,us.map U.t=hd.xG++rest∧nth .dead h1 l=(aS aT (nth .dead h l) hd us).1
 new:∀i,i<aA es→∃hd us,Ed.w hd∈es∧nth .dead h1 (j+i)=(aS aT .dead hd us).1
 newK:∀i,i<aA es→∃us rest,us.map U.t=(nth .dead (kinds es) i).xG++rest∧nth .dead h1 (j+i)=(aS aT .dead (nth .dead (kinds es) i) us).1
theorem kE{n:Nat}:∀(es:List Ed) (us:List U) (j:Nat) (ss os:List Nat) (T:List TV) (h:List TObj) (rest:List LT),us.map U.t=aR es++rest→bQ n ss os es=true→n≤j→h.length=j→Bld es j T h (bE aT es us T h).1 (bE aT es us T h).2
 |[],us,j,ss,os,T,h,rest,hu,hw,hn,hl=>⟨rfl,hl,fun _=>.inl rfl,fun _ _ _=>rfl,fun l hd hm=>(by cases hm),fun i hi=>by simp[aA]at hi,fun i hi=>by simp[aA]at hi⟩
 | .r k s::es,us,j,ss,os,T,h,rest,hu,hw,hn,hl=>by
  simp only[aR,qAr]at hu;simp only[bQ,qAa]at hw;have g:=kE es (bK aT s us).2 j _ _ (T.set k (bK aT s us).1) h rest (wz s us _ hu).1 hw.2 hn hl;refine⟨by rw[bE,g.tl,qAD],g.hl,fun k'=>?_,fun l hlt hno=>g.keepO l hlt fun hd hm=>hno hd (qAk _ hm),fun l hd hm=>g.obj l hd (by simpa using hm),fun i hi=>?_,fun i hi=>g.newK i hi⟩
  ·rcases g.slot k' with e|⟨s',us',e1,e2⟩
   ·by_cases hk:k=k'
    ·subst hk;by_cases hlt:k<T.length
     ·exact .inr ⟨s,us,by simp,by rw[bE,e,aW hlt]⟩
     ·exact .inl (by rw[bE,e,qBG (by omega)])
    ·exact .inl (by rw[bE,e,aL hk])
   ·exact .inr ⟨s',us',qAk _ e1,e2⟩
  ·obtain⟨hd,us',e1,e2⟩:=g.new i hi;exact⟨hd,us',qAk _ e1,e2⟩
 | .o l hd::es,us,j,ss,os,T,h,rest,hu,hw,hn,hl=>by
  simp only[aR,qAr]at hu;simp only[bQ,qAa,qBb,og]at hw;have hln:l<n:=qAf hw.1;have hno:∀hd',Ed.o l hd'∉es:=fun hd'=>tC hw.2.2 (by simp);have g:=kE es (aS aT (nth .dead h l) hd us).2 j _ _ T (h.set l (aS aT (nth .dead h l) hd us).1) rest (KN _ hd us _ hu) hw.2.2 hn (by rw[qAD];exact hl);refine⟨g.tl,g.hl,fun k'=>?_,fun l' hlt hn'=>?_,fun l' hd' hm=>?_,fun i hi=>?_,fun i hi=>g.newK i hi⟩
  ·rcases g.slot k' with e|⟨s',us',e1,e2⟩
   ·exact .inl e
   ·exact .inr ⟨s',us',qAk _ e1,e2⟩
  ·have hne:l≠l':=fun e=>hn' hd (by subst e;simp);rw[bE,g.keepO l' hlt fun hd' hm=>hn' hd' (qAk _ hm),aL hne]
  ·rcases qAh.1 hm with e|hm
   ·cases e;exact⟨us,_,hu,by rw[bE,g.keepO l (by omega) hno,aW (by omega)]⟩
   ·have hne:l≠l':=fun e=>by subst e;exact hno hd' hm
    have:=g.obj l' hd' hm;rw[aL hne]at this;exact this
  ·obtain⟨hd,us',e1,e2⟩:=g.new i hi;exact⟨hd,us',qAk _ e1,e2⟩
 | .w hd::es,us,j,ss,os,T,h,rest,hu,hw,hn,hl=>by
  simp only[aR,qAr]at hu;simp only[bQ]at hw;have g:=kE es (aS aT .dead hd us).2 (j+1) _ _ T (h++[(aS aT .dead hd us).1]) rest (KN _ hd us _ hu) hw (by omega) (by simp[hl]);refine⟨g.tl,by rw[bE,g.hl];simp only[aA];omega,fun k'=>?_,fun l' hlt hn'=>?_,fun l' hd' hm=>?_,fun i hi=>?_,fun i hi=>?_⟩
  ·rcases g.slot k' with e|⟨s',us',e1,e2⟩
   ·exact .inl e
   ·exact .inr ⟨s',us',qAk _ e1,e2⟩
  ·rw[bE,g.keepO l' (by omega) fun hd' hm=>hn' hd' (qAk _ hm),gF (by omega)]
  ·have hm:Ed.o l' hd'∈es:=by simpa using hm
   have hlt:=jg hw hm;have:=g.obj l' hd' hm;rw[gF (by omega)]at this;exact this
  ·cases i with
   |zero=>
    refine⟨hd,us,by simp,?_⟩;rw[bE,qAJ,g.keepO j (by omega) fun hd' hm=>(by have:=jg hw hm;omega),CK hl]
   |succ i=>
    obtain⟨hd',us',e1,e2⟩:=g.new i (by simp only[aA]at hi;omega);rw[show j+1+i=j+(i+1)from by omega]at e2;exact⟨hd',us',qAk _ e1,e2⟩
  ·cases i with
   |zero=>
    refine⟨us,_,hu,?_⟩;rw[bE,qAJ,g.keepO j (by omega) fun hd' hm=>(by have:=jg hw hm;omega),CK hl];rfl
   |succ i=>
    obtain⟨us',rest',e1,e2⟩:=g.newK i (by simp only[aA]at hi;omega);rw[show j+1+i=j+(i+1)from by omega]at e2;exact⟨us',rest',e1,e2⟩
end
end
section
open Go
structure Lks(g G:Nat→Nat)(A:Nat→Bool)(Hc Hk:List TObj):Prop where
 eq:∀j,A j=true→G j=g j
 own:∀j,A j=true→bV (g j) (nth .dead Hc (g j))=ren G (bV j (nth .dead Hk j))
 psl:∀j z,A j=true→bI (g j) z (nth .dead Hc (g j))=ren G (bI j z (nth .dead Hk j))
section
variable {g G:Nat→Nat}{A:Nat→Bool}{Hc Hk:List TObj}
mutual
theorem zl(hl:Lks g G A Hc Hk):∀v,uG A v=true→av Hc (bU g v)=ren G (av Hk v)
 | .unk,_=>rfl
 | .nilp,_=>rfl
 | .nilF,_=>rfl
 | .nils,_=>rfl
 | .lf t x,_=>(uV G t x).symm
 | .nat _,_=>rfl
 | .ptr l o,h=>by simp only[bU,av,ren,hl.eq l h]
 | .mapr l,h=>by simp only[bU,av,ren,hl.eq l h]
 | .ap l _ _ _,h=>by simp only[bU,av,ren,hl.eq l h]
 | .own l,h=>hl.own l h
 | .psl l z c,h=>by
  cases c with
  |none=>exact hl.psl l z h
  |some k=>simp only[bU,av,ren,hl.eq l h]
 | .eptr cs,h=>by simp only[bU,av,ren,GD hl cs h]
 | .agg cs,h=>by simp only[bU,av,ren,GD hl cs h]
 | .tup cs,h=>by simp only[bU,av,ren,Ni hl cs h]
 | .func f cs,h=>by simp only[bU,av,ren,Ni hl cs h]
theorem GD(hl:Lks g G A Hc Hk):∀vs,iV A vs=true→aO Hc (qK g vs)=bF G (aO Hk vs)
 |[],_=>rfl
 |v::vs,h=>by
  simp only[iV,qAa]at h;have h1:=zl hl v h.1;simp only[qK,aO,abv,GD hl vs h.2];congr 1;rcases j6 v with ho|⟨e,x,rfl⟩
  ·have ho':one (bU g v):=DY fun e x q=>by
    rw[Us q]at ho;have:=lU ho;simp only[AA]at this;cases e<;>cases this
   rw[ho,ho',h1];rfl
  ·exact(EI e G x).symm
theorem Ni(hl:Lks g G A Hc Hk):∀vs,iV A vs=true→aI Hc (qK g vs)=bF G (aI Hk vs)
 |[],_=>rfl
 |v::vs,h=>by
  simp only[iV,qAa]at h;simp only[qK,aI,bF,zl hl v h.1,Ni hl vs h.2]
end
theorem lM{H:List TObj}{vs:List TV}:aO H vs=(aB vs).map (av H):=(JG H vs).symm
theorem ade(hl:Lks g G A Hc Hk){cs:List TV}(h:Qo A cs):aO Hc (cs.map (bU g))=bF G (aO Hk cs):=by
 rw[lM,lM,DU,qBr,kV,qBr];exact qAZ fun v hv=>zl hl v (h v hv)
theorem Va(hl:Lks g G A Hc Hk){o:TObj}(h:Yy A o):bY Hc (fH g o)=bD G (bY Hk o):=by
 cases o with
 |box cs=>simp only[fH,bY,bD,ade hl (h cs rfl)]
 |mp e xs=>simp only[fH,bY,bD,yP]
 |arr e xs=>simp only[fH,bY,bD,iq]
 |_=>rfl
theorem Yl{g G:Nat→Nat}{j:Nat}(o:TObj)(h:G j=g j):bV (g j) (fH g o)=ren G (bV j o)∧∀z,bI (g j) z (fH g o)=ren G (bI j z o):=by
 cases o<;>refine⟨?_,fun z=>?_⟩<;>simp only[fH,bV,bI,ren,mg,iq,h]
end
def tgt:TWr→Option Nat
 | .sl _ _=>none
 | .ob l _=>some l
 | .st l _ _=>some l
 | .kill l=>some l
 | .nw l _=>some l
 | .up l _ _ _=>some l
theorem Cn{s s':DS}{w:TWr}(h:W1 s w s')(hs:tgt w≠none):s'.t=s.t∧s'.h.length=s.h.length:=by
 cases w with
 |sl n v=>exact(hs rfl).elim
 |ob l o=>obtain⟨_,_,rfl⟩:=h;exact⟨rfl,by simp⟩
 |st l off vs=>obtain⟨cs,cs',_,_,rfl⟩:=h;exact⟨rfl,by simp⟩
 |kill l=>rcases h with⟨e,xs,_,rfl⟩|⟨e,xs,_,rfl⟩|⟨_,rfl⟩<;>exact⟨rfl,by simp⟩
 |nw l o=>obtain⟨_,_,rfl⟩:=h;exact⟨rfl,by simp⟩
 |up l i e y=>obtain⟨_,_,rfl⟩:=h;exact⟨rfl,by simp⟩
theorem Q6{s s':DS}{w:TWr}(h:W1 s w s'):s'.t.length=s.t.length∧s'.h.length=s.h.length:=by
 cases w with
 |sl n v=>obtain⟨_,e⟩:=h;subst e;exact⟨by simp,rfl⟩
 |ob l o=>have:=Cn h (by simp[tgt]);exact⟨by rw[this.1],this.2⟩
 |st l off vs=>have:=Cn h (by simp[tgt]);exact⟨by rw[this.1],this.2⟩
 |kill l=>have:=Cn h (by simp[tgt]);exact⟨by rw[this.1],this.2⟩
 |nw l o=>have:=Cn h (by simp[tgt]);exact⟨by rw[this.1],this.2⟩
 |up l i e y=>have:=Cn h (by simp[tgt]);exact⟨by rw[this.1],this.2⟩
theorem BD{s s':DS}{ws:List TWr}(h:Ws s ws s'):s'.t.length=s.t.length∧s'.h.length=s.h.length:=by
 induction h with
 |nil s=>exact⟨rfl,rfl⟩
 |cons h _ ih=>exact⟨ih.1.trans (Q6 h).1,ih.2.trans (Q6 h).2⟩
theorem YW{s s2:DS}{a c:List TWr}(h:Ws s (a++c) s2):∃s1,Ws s a s1∧Ws s1 c s2:=by
 induction a generalizing s with
 |nil=>exact⟨s,.nil s,h⟩
 |cons w a ih=>
  cases h with
  |cons h1 h2=>
   obtain⟨s1,g1,g2⟩:=ih h2;exact⟨s1,.cons h1 g1,g2⟩
theorem Sz{s s':DS}{w:TWr}(h:W1 s w s'){l:Nat}(hl:tgt w≠some l):nth .dead s'.h l=nth .dead s.h l:=by
 cases w with
 |sl n v=>obtain⟨_,e⟩:=h;subst e;rfl
 |ob m o=>obtain⟨_,_,rfl⟩:=h;exact aL fun e=>hl (congrArg some e)
 |st m off vs=>obtain⟨cs,cs',_,_,rfl⟩:=h;exact aL fun e=>hl (congrArg some e)
 |kill m=>rcases h with⟨e,xs,_,rfl⟩|⟨e,xs,_,rfl⟩|⟨_,rfl⟩<;>exact aL fun e=>hl (congrArg some e)
 |nw m o=>obtain⟨_,_,rfl⟩:=h;exact aL fun e=>hl (congrArg some e)
 |up m i e y=>obtain⟨_,_,rfl⟩:=h;exact aL fun e=>hl (congrArg some e)
theorem Cw{H H':List TObj}{t:List TV}(hs:CP H H' t){l:Nat}{cs:List TV}(hl:nth .dead H l=.box cs):∀v∈aB cs,av H v=av H' v:=by
 have:=hs.2 l cs hl;rw[lM,lM]at this
 simp_all
theorem aac{H H':List TObj}{t:List TV}(hs:CP H H' t)(l:Nat):bY H (nth .dead H l)=bY H' (nth .dead H l):=by
 cases ho:nth .dead H l with
 |box cs=>simp only[bY];rw[hs.2 l cs ho]
 |_=>rfl
theorem Z4{H H':List TObj}{t:List TV}(hs:CP H H' t):aI H t=aI H' t:=R5 hs.1
theorem BF{s s':DS}{ws:List TWr}(h:Ws s ws s'):∀l,(∀w∈ws,tgt w≠some l)→nth .dead s'.h l=nth .dead s.h l∧bY s'.h (nth .dead s.h l)=bY s.h (nth .dead s.h l):=by
 induction h with
 |nil s=>intro l _;exact⟨rfl,rfl⟩
 |cons h _ ih=>
  intro l hl;have h1:=Sz h (hl _ (by simp));obtain⟨g1,g2⟩:=ih l fun w hw=>hl w (by simp[hw]);rw[h1]at g1 g2;exact⟨g1,g2.trans (aac (vB h).1 l).symm⟩
theorem RS{s s':DS}{ws:List TWr}(h:Ws s ws s'):(∀w∈ws,tgt w≠none)→s'.t=s.t∧aI s'.h s'.t=aI s.h s.t:=by
 induction h with
 |nil s=>intro _;exact⟨rfl,rfl⟩
 |cons h _ ih=>
  intro hw;obtain⟨g1,g2⟩:=ih fun w hm=>hw w (by simp[hm]);have:=Cn h (hw _ (by simp));refine⟨g1.trans this.1,g2.trans ?_⟩;rw[this.1,Z4 (vB h).1]
def hits(l q:Nat):TWr→Prop
 | .st l' off vs=>l'=l∧off≤q∧q<off+widths vs
 | .ob l' _=>l'=l
 | .kill l'=>l'=l
 |_=>False
theorem acV{s s':DS}{w:TWr}(h:W1 s w s'){l q:Nat}{cs:List TV}{v:TV}(hb:nth .dead s.h l=.box cs)(hv:(aB cs)[q]? =some v)(hh:¬hits l q w):
  ∃cs',nth .dead s'.h l=.box cs'∧(aB cs').length=(aB cs).length∧(aB cs')[q]? =some v∧av s'.h v=av s.h v:=by
 have hav:av s'.h v=av s.h v:=(Cw (vB h).1 hb v (qAA hv)).symm;by_cases hl:tgt w=some l
 ·cases w with
  |sl n x=>cases hl
  |ob m o=>cases hl;exact(hh rfl).elim
  |st m off vs=>
   cases hl;obtain⟨cs0,cs',h1,h2,rfl⟩:=h;rw[hb]at h1;cases h1;obtain⟨q1,q2⟩:=uS h2;have hlt:l<s.h.length:=by
    apply qAm;intro hn;rw[gD (by omega)]at hb;cases hb
   refine⟨cs',aW hlt,by rw[q1];simp;omega,?_,hav⟩;have hout:¬(off≤q∧q<off+(aB vs).length):=fun hc=>hh ⟨rfl,by rw[←ji];exact hc⟩
   grind
  |kill m=>cases hl;exact(hh rfl).elim
  |nw m o=>
   cases hl;obtain⟨h1,_⟩:=h;rw[hb]at h1;cases h1
  |up m i e y=>cases hl;obtain⟨_,h1,_⟩:=h;rw[hb]at h1;cases h1
 ·exact⟨cs,by rw[Sz h hl];exact hb,rfl,hv,hav⟩
theorem UF{s s':DS}{ws:List TWr}(h:Ws s ws s'):∀{l q:Nat} {cs:List TV} {v:TV},nth .dead s.h l=.box cs→(aB cs)[q]? =some v→(∀w∈ws,¬hits l q w)→
  ∃cs',nth .dead s'.h l=.box cs'∧(aB cs').length=(aB cs).length∧(aB cs')[q]? =some v∧av s'.h v=av s.h v:=by
 induction h with
 |nil s=>intro l q cs v hb hv _;exact⟨cs,hb,rfl,hv,rfl⟩
 |cons h _ ih=>
  intro l q cs v hb hv hh;obtain⟨cs1,g1,g2,g3,g4⟩:=acV h hb hv (hh _ (by simp))
  grind
section
variable {γ:Type}{b:γ}
theorem Y2{l:Nat}{cf:List TV}:∀(is:List (Nat×Sk)) (K:List TWr→Option γ),wrB l cf is K=some b→∃ws,K ws=some b∧(∀w∈ws,∃p c,p∈is∧w=.st l p.1 c)∧
  ∀s s' cs0,Ws s ws s'→nth .dead s.h l=.box cs0→∃cs1,nth .dead s'.h l=.box cs1∧(aB cs1).length=(aB cs0).length∧∀q,(jN is q=true→q<(aB cs0).length→(aB cs1)[q]? =(aB cf)[q]?)∧(jN is q=false→(aB cs1)[q]? =(aB cs0)[q]?∧∀v,(aB cs0)[q]? =some v→av s'.h v=av s.h v)
 |[],K,h=>⟨[],h,fun w hw=>(by cases hw),fun s s' cs0 hw hb=>by
  cases hw;exact⟨cs0,hb,rfl,fun q=>⟨fun h=>(by cases h),fun _=>⟨rfl,fun _ _=>rfl⟩⟩⟩⟩
 |p::ps,K,h=>by
  simp only[wrB]at h;obtain⟨a,r,h1,h2,h⟩:=qo _ _ _ _ h;obtain⟨c,r1,h3,h4,h⟩:=qo _ _ _ _ h;obtain⟨ws,h5,h6,h7⟩:=Y2 ps _ h;refine⟨_,h5,fun w hw=>?_,fun s s' cs0 hw hb=>?_⟩
  ·rcases qAh.1 hw with rfl|hw
   ·grind
   simp_all
  ·cases hw with
   |@cons _ s1 _ _ _ g1 g2=>
    have g1':=g1;obtain⟨cs0',cs1,k1,k2,e⟩:=g1;rw[hb]at k1;cases k1;obtain⟨q1,q2⟩:=uS k2;have hlt:l<s.h.length:=by
     apply qAm;intro hn;rw[gD (by omega)]at hb;cases hb
    have hb1:nth .dead s1.h l=.box cs1:=by rw[e];exact aW hlt
    have hl1:(aB cs1).length=(aB cs0).length:=by rw[q1];simp only[qAj,qAw,qCh];omega
    obtain⟨cs2,m1,m2,m3⟩:=h7 s1 s' cs1 g2 hb1;refine⟨cs2,m1,m2.trans hl1,fun q=>⟨fun hq hql=>?_,fun hq=>?_⟩⟩
    ·cases hps:jN ps q with
     |true=>exact(m3 q).1 hps (by omega)
     |false=>
      have hin:=(nL.1 hq).resolve_right (by rw[hps];simp);rw[((m3 q).2 hps).1,q1,h1,h3];rw[qAr,qAg (by simp only[qAw];omega),qAe (by simp only[qAw];omega)];rw[qAg (by omega),qAe (by omega)];congr 1;simp only[qAw];omega
    ·have hps:jN ps q=false:=by
      cases hps:jN ps q with
      |false=>rfl
      |true=>rw[nL.2 (.inr hps)]at hq;cases hq
     have hout:¬(p.1≤q∧q<p.1+mh p.2):=fun hh=>by rw[nL.2 (.inl hh)]at hq;cases hq
     have e1:(aB cs1)[q]? =(aB cs0)[q]?:=by
      rw[q1];by_cases hlt:q<p.1
      ·rw[qAr,qAe (by simp only[qAw];omega),qBf,if_pos hlt]
      ·rw[qAg (by simp only[qAj,qAw];omega),qBY];congr 1;simp only[qAj,qAw];omega
     refine⟨((m3 q).2 hps).1.trans e1,fun v hv=>?_⟩;rw[((m3 q).2 hps).2 v (by rw[e1];exact hv)];exact(Cw (vB g1').1 hb v (qAA hv)).symm
end
end
section
open Go
theorem FP{f:Nat→Option Nat}:∀(n i:Nat),(vL f i n).length≤n
 |0,_=>by simp[vL]
 |n+1,i=>by
  simp only[vL];split
  ·simp;have:=FP (f:=f) n (i+1);omega
  ·have:=FP (f:=f) n (i+1);omega
theorem Oq{f:Nat→Option Nat}:∀(n i:Nat),(vL f i n).length=n→∀j,j<n→f (i+j)=(vL f i n)[j]?
 |0,_,_,j,hj=>by omega
 |n+1,i,h,j,hj=>by
  simp only[vL]at h⊢;split at h
  ·rename_i l hl;cases j with
   |zero=>simpa using hl
   |succ j=>
    simp at h;have:=Oq (f:=f) n (i+1) (by omega) j (by omega)
    grind
  ·rename_i hl;have:=FP (f:=f) n (i+1);omega
theorem U1:∀(c k:Nat),(rng k c).length=c
 |0,_=>rfl
 |c+1,k=>by simp only[rng,qAl,U1 c]
theorem Vg:∀(c k i:Nat),i<c→(rng k c)[i]? =some (k+i)
 |0,_,_,h=>by omega
 |c+1,k,0,_=>rfl
 |c+1,k,i+1,h=>by
  simp only[rng,qBh];rw[Vg c (k+1) i (by omega)];congr 1;omega
theorem Nv:∀(c k:Nat),(rng k c).Nodup
 |0,_=>by simp[rng]
 |c+1,k=>by
  simp only[rng,qCm,rX];exact⟨by omega,Nv c (k+1)⟩
theorem N7:∀{l:List Nat},nodupB l=true→l.Nodup
 |[],_=>by simp
 |x::xs,h=>by
  simp only[nodupB]at h;rw[qCm];cases hm:mem xs x with
  |true=>rw[hm]at h;cases h
  |false=>rw[hm]at h;exact⟨og.1 hm,N7 h⟩
theorem Nh{H:List TObj}:∀(n k:Nat),Qd H k n=true→∀l∈rng k n,fA (nth .dead H l)=true
 |0,_,_,l,hl=>by cases hl
 |n+1,k,h,l,hl=>by
  simp only[Qd,qAa]at h;simp only[rng,qAh]at hl;rcases hl with rfl|hl
  ·exact h.1
  ·exact Nh n (k+1) h.2 l hl
theorem mK{L:List Nat}{i l:Nat}(h:L[i]? =some l):gL L i=l:=by unfold gL;rw[dF,List.getD,h];rfl
theorem YM{L:List Nat}{i l big:Nat}(h:L[i]? =some l):nm L big i=l:=by unfold nm;rw[h];rfl
structure Wro(ρ:List Nat)(h:List TObj)(k j:Nat)(es:List Ed)(s s':DS):Prop where
 obj:∀l hd,Ed.o l hd∈es→match hd with
  | .dead=>(∃e xs,nth .dead s.h (gL ρ l)=.own e xs∧nth .dead s'.h (gL ρ l)=.gone e xs)∨(∃e xs,nth .dead s.h (gL ρ l)=.arr e xs∧nth .dead s'.h (gL ρ l)=.gon xs.length)∨nth .dead s'.h (gL ρ l)=.dead
  | .bx is=>∀cs0,nth .dead s.h (gL ρ l)=.box cs0→∃cs1 cf,nth .dead s'.h (gL ρ l)=.box cs1∧nth .dead h l=.box cf∧(aB cs1).length=(aB cs0).length∧
    ∀q,(jN is q=true→q<(aB cs0).length→(aB cs1)[q]? =(aB cf)[q]?)∧(jN is q=false→(aB cs1)[q]? =(aB cs0)[q]?∧∀v,(aB cs0)[q]? =some v→av s'.h v=av s.h v)
  |_=>plainO (nth .dead h l)=true∧plainO (nth .dead s.h (gL ρ l))=true∧nth .dead s'.h (gL ρ l)=nth .dead h l
 new:∀i,i<aA es→nth .dead s'.h (k+i)=nth .dead h (j+i)
section
variable {γ:Type}{b:γ}
theorem FL{l:Nat}{H:List TObj}(h:nth .dead H l≠ .dead):l<H.length:=by
 apply qAm;intro hn;exact h (gD (by omega))
theorem Lh{ρ:List Nat}{h:List TObj}{n:Nat}(hnd:ρ.Nodup)(hlen:ρ.length=n):∀(es:List Ed) (k j:Nat) (ss os:List Nat) (K:List TWr→Option γ),bQ n ss os es=true→(∀p∈ρ,p<k∨k+aA es≤p)→uD ρ h k j es K=some b→
  ∃ws,K ws=some b∧(∀w∈ws,∃p,tgt w=some p∧((∃l hd,Ed.o l hd∈es∧p=gL ρ l)∨(k≤p∧p<k+aA es)))∧∀s s',(∀p∈ρ,p<s.h.length)→Ws s ws s'→Wro ρ h k j es s s'
 |[],k,j,ss,os,K,hw,hd,hh=>⟨[],hh,fun w hw=>(by cases hw),fun s s' _ _=>⟨fun l hd hm=>(by cases hm),fun i hi=>by simp[aA]at hi⟩⟩
 | .r c sk::es,k,j,ss,os,K,hw,hd,hh=>by
  simp only[bQ,qAa]at hw;simp only[uD]at hh;obtain⟨ws,h1,h2,h3⟩:=Lh hnd hlen es k j _ _ K hw.2 hd hh;refine⟨ws,h1,fun w hm=>?_,fun s s' hin hws=>⟨fun l hd hm=>(h3 s s' hin hws).obj l hd (by simpa using hm),(h3 s s' hin hws).new⟩⟩;obtain⟨p,e1,e2⟩:=h2 w hm;exact⟨p,e1,e2.imp (fun⟨l,hd,q1,q2⟩=>⟨l,hd,qAk _ q1,q2⟩) id⟩
 | .w hd0::es,k,j,ss,os,K,hw,hd,hh=>by
  simp only[bQ]at hw;simp only[uD]at hh;obtain⟨ws,h1,h2,h3⟩:=Lh hnd hlen es (k+1) (j+1) _ _ _ hw (fun p hp=>by have:=hd p hp;simp only[aA]at this;omega) hh;have hno:∀w∈ws,tgt w≠some k:=fun w hm e=>by
   obtain⟨p,e1,e2⟩:=h2 w hm;rw[e]at e1;cases e1;rcases e2 with⟨l,hd',q1,q2⟩|⟨q1,q2⟩
   ·have hl:=jg hw q1;have:ρ[l]? =some (ρ[l]'(by omega)):=qAd _;rw[mK this]at q2;have:=hd _ (qAV (by omega:l<ρ.length));simp only[aA]at this;omega
   ·omega
  refine⟨_,h1,fun w hm=>?_,fun s s' hin hws=>?_⟩
  ·rcases qAh.1 hm with rfl|hm
   ·exact⟨k,rfl,.inr ⟨qAq _,by simp only[aA];omega⟩⟩
   ·obtain⟨p,e1,e2⟩:=h2 w hm;exact⟨p,e1,e2.imp (fun⟨l,hd,q1,q2⟩=>⟨l,hd,qAk _ q1,q2⟩) fun⟨q1,q2⟩=>by simp only[aA];omega⟩
  ·cases hws with
   |@cons _ s1 _ _ _ g1 g2=>
    have w3:=h3 s1 s' (fun p hp=>by rw[(Q6 g1).2];exact hin p hp) g2;have g1':=g1;obtain⟨r1,r2,r3⟩:=g1;have hk1:nth .dead s1.h k=nth .dead h j:=by
     rw[r3];refine aW ?_;apply qAm;intro hn;rw[gD (by omega)]at r1;cases r1
    have oth:∀l hd',Ed.o l hd'∈es→gL ρ l≠k:=fun l hd' hm e=>by
     have hl:=jg hw hm;have:ρ[l]? =some (ρ[l]'(by omega)):=qAd _;rw[mK this]at e;have:=hd _ (qAV (by omega:l<ρ.length));simp only[aA]at this;omega
    refine⟨fun l hd' hm=>?_,fun i hi=>?_⟩
    ·have hm:Ed.o l hd'∈es:=by simpa using hm
     have hne:=oth l hd' hm;have e1:nth .dead s1.h (gL ρ l)=nth .dead s.h (gL ρ l):=Sz g1' (by simp only[tgt];exact fun e=>hne (Option.some.inj e).symm);have:=w3.obj l hd' hm;cases hd' with
     |bx is=>
      intro cs0 m1;obtain⟨cs1,cf,m2,m3,m4,m5⟩:=this cs0 (by rw[e1];exact m1);refine⟨cs1,cf,m2,m3,m4,fun q=>⟨(m5 q).1,fun hq=>⟨((m5 q).2 hq).1,fun v hv=>(((m5 q).2 hq).2 v hv).trans ?_⟩⟩⟩;exact(Cw (vB g1').1 m1 v (qAA hv)).symm
     |dead=>simp only[e1]at this;exact this
     |box cs=>simp only[e1]at this;exact this
     |own e=>simp only[e1]at this;exact this
     |mp e=>simp only[e1]at this;exact this
     |arr e=>simp only[e1]at this;exact this
    ·cases i with
     |zero=>rw[qAJ,qAJ,(BF g2 k hno).1];exact hk1
     |succ i=>
      have:=w3.new i (by simp only[aA]at hi;omega);rwa[show k+1+i=k+(i+1)from by omega,show j+1+i=j+(i+1)from by omega]at this
 | .o l0 hd0::es,k,j,ss,os,K,hw,hd,hh=>by
  simp only[bQ,qAa,qBb,og]at hw;have hl0:l0<n:=qAf hw.1;have get0:ρ[l0]? =some (gL ρ l0):=by
   have:ρ[l0]? =some (ρ[l0]'(by omega)):=qAd _;rw[mK this];exact this
  have apart:∀l hd',Ed.o l hd'∈es→gL ρ l≠gL ρ l0:=fun l hd' hm e=>by
   have hl:=jg hw.2.2 hm;have qV:ρ[l]? =some (gL ρ l):=by
    have:ρ[l]? =some (ρ[l]'(by omega)):=qAd _;rw[mK this];exact this
   have:l=l0:=(qBS (by omega) hnd).1 (qV.trans (by rw[e];exact get0.symm));subst this;exact tC hw.2.2 (by simp) hm
  -- the first writes, then the rest
  have main:∀(w0:List TWr) (K':List TWr→Option γ),(∀ws,K' ws=K (w0++ws))→uD ρ h k j es K'=some b→(∀w∈w0,tgt w=some (gL ρ l0))→
    (∀s s1,(∀p∈ρ,p<s.h.length)→Ws s w0 s1→Wro ρ h k j [.o l0 hd0] s s1)→∃ws,K ws=some b∧(∀w∈ws,∃p,tgt w=some p∧((∃l hd,Ed.o l hd∈(.o l0 hd0::es)∧p=gL ρ l)∨(k≤p∧p<k+aA (.o l0 hd0::es))))∧∀s s',(∀p∈ρ,p<s.h.length)→Ws s ws s'→Wro ρ h k j (.o l0 hd0::es) s s':=fun w0 K' hK hh ht hw0=>by
   obtain⟨ws,h1,h2,h3⟩:=Lh hnd hlen es k j _ _ K' hw.2.2 hd hh;refine⟨w0++ws,by rw[←hK];exact h1,fun w hm=>?_,fun s s' hin hws=>?_⟩
   ·rcases qAy.1 hm with hm|hm
    ·exact⟨_,ht w hm,.inl ⟨l0,hd0,by simp,rfl⟩⟩
    ·obtain⟨p,e1,e2⟩:=h2 w hm;exact⟨p,e1,e2.imp (fun⟨l,hd,q1,q2⟩=>⟨l,hd,qAk _ q1,q2⟩) id⟩
   ·obtain⟨s1,g1,g2⟩:=YW hws;have w3:=h3 s1 s' (fun p hp=>by rw[(BD g1).2];exact hin p hp) g2;have wf:=hw0 s s1 hin g1;have hno:∀w∈ws,tgt w≠some (gL ρ l0):=fun w hm e=>by
     obtain⟨p,e1,e2⟩:=h2 w hm;rw[e]at e1;cases e1;rcases e2 with⟨l,hd',q1,q2⟩|⟨q1,q2⟩
     ·exact apart l hd' q1 q2.symm
     ·have:=hd _ (qAA get0);simp only[aA]at this;omega
    have stay:=(BF g2 (gL ρ l0) hno).1;refine⟨fun l hd' hm=>?_,fun i hi=>w3.new i hi⟩;rcases qAh.1 hm with e|hm
    ·injection e with e1 e2;subst e1;subst e2;have:=wf.obj l hd' (by simp);cases hd' with
     |bx is=>
      intro cs0 m1;obtain⟨cs1,cf,m2,m3,m4,m5⟩:=this cs0 m1;refine⟨cs1,cf,by rw[stay];exact m2,m3,m4,fun q=>⟨(m5 q).1,fun hq=>⟨((m5 q).2 hq).1,fun v hv=>?_⟩⟩⟩;obtain⟨_,_,_,_,r4⟩:=UF g2 m2 (((m5 q).2 hq).1.trans hv) fun w hm hh=>by
       have:=hno w hm;cases w with
       |st l' off vs=>exact this (congrArg some hh.1)
       |ob l' o=>exact this (congrArg some hh)
       |kill l'=>exact this (congrArg some hh)
       |_=>exact hh
      exact r4.trans (((m5 q).2 hq).2 v hv)
     |dead=>simp only[stay]at this⊢;exact this
     |box cs=>simp only[stay]at this⊢;exact this
     |own e=>simp only[stay]at this⊢;exact this
     |mp e=>simp only[stay]at this⊢;exact this
     |arr e=>simp only[stay]at this⊢;exact this
    ·have hne:=apart l hd' hm;have e1:nth .dead s1.h (gL ρ l)=nth .dead s.h (gL ρ l):=(BF g1 (gL ρ l) fun w hm e=>hne (by rw[ht w hm]at e;exact(Option.some.inj e).symm)).1;have:=w3.obj l hd' hm;cases hd' with
     |bx is=>
      intro cs0 m1;obtain⟨cs1,cf,m2,m3,m4,m5⟩:=this cs0 (by rw[e1];exact m1);refine⟨cs1,cf,m2,m3,m4,fun q=>⟨(m5 q).1,fun hq=>⟨((m5 q).2 hq).1,fun v hv=>(((m5 q).2 hq).2 v hv).trans ?_⟩⟩⟩;obtain⟨_,_,_,_,r4⟩:=UF g1 m1 hv fun w hm hh=>by
       have hw:=ht w hm;cases w with
       |st l' off vs=>exact hne (by rw[←hh.1];exact Option.some.inj hw)
       |ob l' o=>exact hne (by rw[←(show l'=gL ρ l from hh)];exact Option.some.inj hw)
       |kill l'=>exact hne (by rw[←(show l'=gL ρ l from hh)];exact Option.some.inj hw)
       |_=>exact hh
      exact r4
     |dead=>simp only[e1]at this;exact this
     |box cs=>simp only[e1]at this;exact this
     |own e=>simp only[e1]at this;exact this
     |mp e=>simp only[e1]at this;exact this
     |arr e=>simp only[e1]at this;exact this
  have ob1:(∀is,hd0≠ .bx is)→hd0≠ .dead→∀s s1,(∀p∈ρ,p<s.h.length)→Ws s [.ob (gL ρ l0) (nth .dead h l0)] s1→Wro ρ h k j [.o l0 hd0] s s1:=fun nb nd s s1 hin hws=>by
   cases hws with
   |cons g1 g2=>
    cases g2;obtain⟨r1,r2,r3⟩:=g1;refine⟨fun l hd' hm=>?_,fun i hi=>by simp[aA]at hi⟩;have e:=qAL.1 hm;injection e with e1 e2;subst e1;subst e2;have key:nth .dead s1.h (gL ρ l)=nth .dead h l:=by
     rw[r3];exact aW (hin _ (qAA get0))
    cases hd' with
    |bx is=>exact(nb is rfl).elim
    |dead=>exact(nd rfl).elim
    |box cs=>exact⟨r1,r2,key⟩
    |own e=>exact⟨r1,r2,key⟩
    |mp e=>exact⟨r1,r2,key⟩
    |arr e=>exact⟨r1,r2,key⟩
  have tg1:∀w:TWr,tgt w=some (gL ρ l0)→∀w'∈[w],tgt w'=some (gL ρ l0):=fun w hw w' hm=>by rw[qAL]at hm;subst hm;exact hw
  cases hd0 with
  |dead=>
   simp only[uD]at hh;refine main [.kill (gL ρ l0)] _ (fun _=>rfl) hh (tg1 _ rfl) fun s s1 hin hws=>⟨fun l hd' hm=>?_,fun i hi=>by simp[aA]at hi⟩;have e:=qAL.1 hm;injection e with e1 e2;subst e1;subst e2;cases hws with
   |cons g1 g2=>
    cases g2;rcases g1 with⟨e,xs,r1,rfl⟩|⟨e,xs,r1,rfl⟩|⟨⟨cs,r1⟩|⟨e,xs,r1⟩,rfl⟩
    ·exact .inl ⟨e,xs,r1,aW (FL (by rw[r1];exact fun h=>by cases h))⟩
    ·exact .inr (.inl ⟨e,xs,r1,aW (FL (by rw[r1];exact fun h=>by cases h))⟩)
    ·exact .inr (.inr (aW (FL (by rw[r1];exact fun h=>by cases h))))
    ·exact .inr (.inr (aW (FL (by rw[r1];exact fun h=>by cases h))))
  |bx is=>
   simp only[uD]at hh;split at hh
   ·rename_i cf hcf;obtain⟨w0,h1,h2,h3⟩:=Y2 is _ hh;refine main w0 _ (fun _=>rfl) h1 (fun w hm=>?_) fun s s1 hin hws=>⟨fun l hd' hm=>?_,fun i hi=>by simp[aA]at hi⟩
    ·obtain⟨p,c,_,rfl⟩:=h2 w hm;rfl
    ·have e:=qAL.1 hm;injection e with e1 e2;subst e1;subst e2;intro cs0 m1;obtain⟨cs1,m2,m3,m4⟩:=h3 s s1 cs0 hws m1;exact⟨cs1,cf,m2,hcf,m3,m4⟩
   ·cases hh
  |box cs=>simp only[uD]at hh;exact main _ _ (fun _=>rfl) hh (tg1 (.ob _ _) rfl) (ob1 (fun is e=>by cases e) (fun e=>by cases e))
  |own e=>simp only[uD]at hh;exact main _ _ (fun _=>rfl) hh (tg1 (.ob _ _) rfl) (ob1 (fun is e=>by cases e) (fun e=>by cases e))
  |mp e=>simp only[uD]at hh;exact main _ _ (fun _=>rfl) hh (tg1 (.ob _ _) rfl) (ob1 (fun is e=>by cases e) (fun e=>by cases e))
  |arr e=>simp only[uD]at hh;exact main _ _ (fun _=>rfl) hh (tg1 (.ob _ _) rfl) (ob1 (fun is e=>by cases e) (fun e=>by cases e))
end
end
section
open Go
def OpX(P:Program)(o:Oper)(v:Value)(s s':ASt):Prop:=
 ∀(C:Ctx) (κ:aH) (a:Act) (w:World),Sim C κ s a w→∀(next:Act→World→Prop) (Q:Exit→Act→World→Prop),(∀κ' w',Sim C κ' s' a w'→Q (.panic [{v,recovered:=false}]) a w')→o.wp P a w next Q
def xU(P:Program)(ops:Array Oper)(o:Oper)(v:Value)(s:ASt)(e:Eff):Prop:=∀t,Agree t s e→bq ops t.tmps o=some true∧OpX P o v t (t.wr e.ws)
def sD(P:Program)(f:Nat)(args:List AV)(H:List AObj)(v:Value)(H':List AObj):Prop:=
 ∀(κ:aH) (ak:bN) (w:World) (vs:List Value),Entry κ ak H w→vs.length=args.length→(∀j,j<args.length→Rel w κ (aC ak κ H) (args.getD j .unk) (vs.getD j undef))→
  Calls P f vs.toArray w fun e w'=>∃κ',e=.panicked [{v,recovered:=false}]∧Leave κ κ' ak H H' w w'
theorem ZT{P:Program}{o:Oper}{s:ASt}{fo:Operand}{args:Array Operand}{argTypes:Array TypeId}{f:Nat}{caps aargs:List AV}{ρ ks:List Nat}{H H':List AObj}{v:Value}
  (ho:o.op=.call {callee:=.value fo,args,argTypes}) (hf:aN s.tmps fo=.func f caps) (hok:gT P f=true) (hp:Passes s ρ ks H) (hH:H'.length=(ρ++ks).length)
  (hargs:SWs (args.toList.map (aN s.tmps)++caps) (aargs.map (ren (nm (ρ++ks) s.heap.length)))) (hc:sD P f aargs H v H'):
  OpX P o v s (s.wr (fD (ρ++ks) (H'.map (bD (nm (ρ++ks) s.heap.length))))):=by
 intro C κ a w hs next Q hn
 have hrf:=hs.ev fo;rw[hf]at hrf;obtain⟨cv,e1,e2,e3⟩:=hrf.vk
 let vs:List Value:=args.toList.map a.eval++cv
 have hlen:vs.length=aargs.length:=by
  have:=hargs.len
  grind
 have hrun:(execOp a.eval o).run P w=.ok (.enter f vs.toArray) w:=by
  have e4:args.map a.eval++cv.toArray=vs.toArray:=by
   grind
  simp[execOp,ho,resolve,e1,Deferred.ofValue,invoke,pE hok,e4]
 have hrel:∀j,j<aargs.length→Rel w (ρ.map (at? κ)) (aC (wG C.ak κ s.heap ρ) (ρ.map (at? κ)) H) (aargs.getD j .unk) (vs.getD j undef):=fun j hj=>by
  rw[A9 hp];have hg:(aargs.map (ren (nm (ρ++ks) s.heap.length))).getD j .unk=ren (nm (ρ++ks) s.heap.length) (aargs.getD j .unk):=by
   grind
  have:Rel w κ (aC C.ak κ s.heap) ((args.toList.map (aN s.tmps)++caps).getD j .unk) (vs.getD j undef):=by
   by_cases hlt:j<args.toList.length
   ·have x1:(args.toList.map (aN s.tmps)++caps).getD j .unk=aN s.tmps args.toList[j]:=by
     grind
    have x2:vs.getD j undef=a.eval args.toList[j]:=by
     simp only[vs];rw[List.getD,qAe (by simpa using hlt),qAB,qAd hlt];rfl
    rw[x1,x2];exact hs.ev _
   grind
  replace this:=(hargs.get j).rel this;rw[hg]at this;exact this.qF (MB hs hp) _ rfl
 unfold Oper.wp;rw[hrun];refine(hc _ _ _ vs (Q9 hs hp) hlen hrel).mono ?_;rintro e w' ⟨κ',rfl,hlv⟩;obtain⟨κc,h1,_⟩:=hs.back hp hlv hH (res:=.unk) (v:=undef) (.unk _)
 grind
theorem KT{P:Program}{ops:Array Oper}{o:Oper}{s:ASt}{fo:Operand}{args:Array Operand}{argTypes:Array TypeId}{f:Nat}{caps aargs:List AV}{ρ ks:List Nat}{H H':List AObj}{v:Value}(hw:bq ops s.tmps o=some true)
  (ho:o.op=.call {callee:=.value fo,args,argTypes}) (hf:aN s.tmps fo=.func f caps) (hok:gT P f=true) (hp:Passes s ρ ks H) (hH:H'.length=(ρ++ks).length)
  (hargs:SWs (args.toList.map (aN s.tmps)++caps) (aargs.map (ren (nm (ρ++ks) s.heap.length)))) (hc:sD P f aargs H v H'):
  xU P ops o v s ⟨aJ ops o,ρ++ks,fD (ρ++ks) (H'.map (bD (nm (ρ++ks) s.heap.length)))⟩:=by
 intro t ht;have hop:=wF ht.rs;have hfo:fo∈o.op.operands:=by rw[ho];simp[Op.operands,Call.operands]
 have hp':Passes t ρ ks H:=by
  refine⟨hp.nodup,hp.hlen,fun l hl=>by rw[ht.hl];exact hp.lt l hl,fun l hl=>by rw[ht.ro l (qBo _ hl)];exact hp.res l hl,fun i l hi=>?_⟩;rw[ht.ro l (qBk _ (qAA hi)),ht.hl];exact hp.obj i l hi
 have hmap:args.toList.map (aN t.tmps)=args.toList.map (aN s.tmps):=lD _ (fun x hx=>hop x (by rw[ho];simp only[Op.operands];exact qBq.2 (.inr (qAX.1 hx))));have:=ZT (P:=P) (o:=o) (s:=t) ho (by rw[hop fo hfo];exact hf) hok hp' hH (by rw[hmap,ht.hl];exact hargs) hc;rw[ht.hl]at this;exact⟨by rw[lF ht.rs];exact hw,this⟩
theorem Sim.drop{C:Ctx}{κ:aH}{s:ASt}{a:Act}{w:World}(hs:Sim C κ s a w){t':List AV}{h':List AObj}(ht:t'.length=s.tmps.length)(hl:h'.length=s.heap.length)(hu:∀n,t'.getD n .unk=.unk)(ho:∀n,obj? h' n=obj? s.heap n∨obj? h' n=.dead):Sim C κ ⟨t',h'⟩ a w:=by
 have hpv:∀b o,aC C.ak κ h' b o→aC C.ak κ s.heap b o:=fun b o hp=>by
  rcases hp with hp|⟨l,h1,h2⟩
  ·exact .inl hp
  ·rcases ho l with e|e
   ·rw[e]at h2;exact .inr ⟨l,h1,h2⟩
   ·rw[e]at h2;exact h2.elim
 have hlv:∀l,live (obj? h' l)→obj? h' l=obj? s.heap l∧live (obj? s.heap l):=fun l h=>by
  rcases ho l with e|e
  ·grind
  ·rw[e]at h;exact h.elim
 refine⟨hs.defers,hs.len.trans ht.symm,fun n _=>by rw[hu n];exact .unk _,hs.klen.trans hl.symm,hs.kext,fun l h=>?_,fun l b h1 h2=>?_,fun l l' b g1 g2 g3 g4=>hs.apart l l' b g1 g2 (hlv l g3).2 (hlv l' g4).2,fun l b g1 g2=>hs.own l b g1 (hlv l g2).2,hs.bound,hs.pvold,hs.oldlt,hs.old,hs.os,hs.tape,hs.output,hs.size,fun b o hp hlt=>hs.pvsub b o (hpv b o hp) hlt,hs.evo⟩
 ·rcases ho l with e|e
  ·rw[e]at h;exact hs.resv l h
  grind
 ·obtain⟨e,h3⟩:=hlv l h2;rw[e];exact(hs.obj l b h1 h3).mono rfl (Evo.refl _ _) (bB.refl _) fun b o hp _=>hpv b o hp
end
section
open Go
def jk(v:Value):Exit:=.panic [{v,recovered:=false}]
theorem xV{P:Program}{ops:Array Oper}{Q:Exit→Act→World→Prop}{l1 l2:List Oper}{op:Oper}{s s1 s':ASt}{v:Value}(h:ASteps P ops l1 s s1)(hw:bq ops s1.tmps op=some true)(hx:OpX P op v s1 s'):
  ∀(C:Ctx) (κ:aH) (a:Act) (w:World),Sim C κ s a w→(∀κ' a' w',Sim C κ' s' a' w'→Q (jk v) a' w')→wpList P ops Q (l1++op::l2) a w:=by
 induction h with
 |nil s=>
  intro C κ a w hs hq;simp only[qAC,wpList];rw[eD hs hw];exact .inl (hx C κ a w hs _ _ fun κ' w' hs'=>hq κ' a w' hs')
 |cons h1 _ ih=>
  intro C κ a w hs hq;simp only[qAH,wpList];rcases h1 with⟨hw1,ht⟩|⟨hw1,rfl⟩
  ·rw[eD hs hw1];exact .inl (ht C κ a w hs _ _ fun κ' a' w' hs'=>ih hw hx C κ' a' w' hs' hq)
  ·rw[eD hs hw1];exact ih hw hx C κ _ w (hs.ah _ fM) hq
end
section
open Go
def tQ(te:Nat)(e:Int):Value:=.iface te (.int .i64 e)
def PZ.pr{α ζ:Type}(f:α→Prop)(g:Int→ζ→Prop):PZ α ζ→Prop
 | .ok x=>f x
 | .er e z=>g e z
def RC{R:Type}:(pe:Option (List Ed))→(R→Prop)→((eds:List Ed)→Int→eG (aR eds)→Prop)→RT pe R→Prop
 |none,f,_=>f
 |some eds,f,g=>PZ.pr f (g eds)
def aF(P:Program)(te:Nat)(e:Ent):Prop:=gT P e.f=true∧sP e=true∧∀x y,e.F x=some y→∀t h,bE aT e.ps (bR _ x) (bA e.na) []=(t,h)→
 RC e.pe (fun y=>∀r h',bE aT e.rs (bR _ (e.out y)) (bA e.nr) h=(r,h')→aP P e.f (aI h t) (au h) (av h' (res1 r)) (au h'))
  (fun eds v z=>∀r h',bE aT eds (bR _ z) (bA 0) h=(r,h')→sD P e.f (aI h t) (au h) (tQ te v) (au h')) y
theorem RT.agh{pe:Option (List Ed)}{R δ:Type}{f:R→Option δ}{g:(eds:List Ed)→Int→eG (aR eds)→Option δ}{r:RT pe R}{b:δ}{C1:R→Prop}{C2:(eds:List Ed)→Int→eG (aR eds)→Prop}(h:RT.el pe f g r=some b)(hc:RC pe C1 C2 r):
  (∃y,f y=some b∧C1 y)∨∃eds v z,pe=some eds∧g eds v z=some b∧C2 eds v z:=by
 cases pe with
 |none=>exact .inl ⟨r,h,hc⟩
 |some eds=>
  match r,h,hc with
  |PZ.ok y,h,hc=>exact .inl ⟨y,h,hc⟩
  |PZ.er v z,h,hc=>exact .inr ⟨eds,v,z,rfl,h,hc⟩
def Pt(G:Nat→Nat):Nat→AV→AV→Prop
 |0,a,a'=>a'=ren G a
 |1,a,a'=>SW a' (ren G a)
 |_,_,_=>True
theorem U8{G:Nat→Nat}{cs cs':List AV}(h:Rs (Pt G 0) cs cs'):cs'=bF G cs:=by
 induction h with
 |nil=>rfl
 |cons h _ ih=>simp only[bF];rw[ih];exact congrArg (·::_) h
theorem rs1{G:Nat→Nat}{cs cs':List AV}(h:Rs (Pt G 1) cs cs'):SWs cs' (bF G cs):=by
 induction h with
 |nil=>exact .nil
 |cons h _ ih=>simp only[bF];exact .cons h ih
theorem acC{H Hk:List TObj}{L:Nat→Option Nat}{G:Nat→Nat}(hG:∀j l,L j=some l→G j=l)
  (look:∀j l,L j=some l→bV l (nth .dead H l)=ren G (bV j (nth .dead Hk j))∧∀z,bI l z (nth .dead H l)=ren G (bI j z (nth .dead Hk j))):Wk H Hk L (Pt G):=by
 have e0:∀m a a',a'=ren G a→Pt G m a a':=fun m a a' h=>by
  match m with
  |0=>exact h
  |1=>rw[h];exact .same _
  |_+2=>trivial
 refine⟨rfl,fun m a=>?_,fun m a a' hf hc=>?_,fun m j l o h=>e0 _ _ _ (by simp only[ren,hG j l h]),fun m j l h=>e0 _ _ _ (by simp only[ren,hG j l h]),fun m j l h=>e0 _ _ _ (look j l h).1,fun m j h=>trivial,fun m j l z h=>e0 _ _ _ ((look j l h).2 z),fun m j z h=>trivial,
  fun m cs cs' h=>e0 _ _ _ (by rw[U8 h];rfl),fun m cs cs' h=>?_,fun m cs cs' h=>trivial,fun m cs cs' h=>e0 _ _ _ (by rw[U8 h];rfl),fun m f cs cs' h=>trivial,fun m f cs cs' h=>e0 _ _ _ (by rw[U8 h];rfl)⟩
 ·match m with
  |0=>exact .unk _
  |_+1=>trivial
 ·generalize hq:Nat.ble 1 m=q at hc;cases hc with
  |same=>exact e0 _ _ _ (hf G).symm
  |share es t=>
   match m with
   |0=>cases hq
   |1=>show SW _ _;rw[hf G];exact .share es t
   |_+2=>trivial
  |nilF=>
   match m with
   |0=>cases hq
   |1=>exact .nilF
   |_+2=>trivial
 ·match m with
  |0=>exact congrArg AV.agg (U8 h)
  |1=>exact SW.agg' (rs1 h)
  |_+2=>trivial
theorem FB{o:TObj}{hd:HO}{us:List U}{cs:List TV}(h:∀is,hd≠ .bx is)(e:(aS aT o hd us).1=.box cs):∃ss,hd=.box ss∧cs=(dh aT ss us).1:=by
 cases hd with
 |dead=>cases e
 |box ss=>exact⟨ss,rfl,(TObj.box.inj e).symm⟩
 |bx is=>exact(h is rfl).elim
 |own e'=>simp only[aS]at e;split at e<;>cases e
 |mp e'=>simp only[aS]at e;split at e<;>cases e
 |arr e'=>simp only[aS]at e;split at e<;>cases e
theorem Ma{np:Nat}{rs:List Ed}{j:Nat}{hd:HO}(h:Np np rs j hd=true):hd≠ .dead∧(∀is,hd≠ .bx is)∧∀cs,hd=.box cs→nV np [] cs=true:=by
 cases hd with
 |dead=>cases h
 |bx is=>cases h
 |box cs=>
  simp only[Np]at h
  grind
 |own e=>exact⟨fun e=>(by cases e),fun is e=>(by cases e),fun cs e=>by cases e⟩
 |mp e=>exact⟨fun e=>(by cases e),fun is e=>(by cases e),fun cs e=>by cases e⟩
 |arr e=>exact⟨fun e=>(by cases e),fun is e=>(by cases e),fun cs e=>by cases e⟩
theorem Lr{np:Nat}{rs:List Ed}:∀{es:List Ed} {j:Nat},yS np rs j es=true→∀i,i<aA es→Np np rs (j+i) (nth .dead (kinds es) i)=true
 |[],_,_,i,hi=>by simp[aA]at hi
 | .r k s::es,j,h,i,hi=>by
  simp only[yS,qAa]at h;exact Lr h.2 i hi
 | .o _ _::es,_,h,_,_=>by cases h
 | .w h0::es,j,h,i,hi=>by
  simp only[yS,qAa]at h;cases i with
  |zero=>exact h.1
  |succ i=>
   have:=Lr h.2 i (by simp only[aA]at hi;omega);rw[show j+1+i=j+(i+1)from by omega]at this;exact this
theorem wN{np:Nat}{rs:List Ed}:∀{es:List Ed} {j:Nat},yS np rs j es=true→∀hd,Ed.w hd∈es→hd≠ .dead∧(∀is,hd≠ .bx is)∧∀cs,hd=.box cs→nV np [] cs=true
 |[],_,_,hd,h=>by cases h
 | .r k s::es,j,h,hd,hm=>by
  simp only[yS,qAa]at h;exact wN h.2 hd (by simpa using hm)
 | .o _ _::es,_,h,hd,hm=>by cases h
 | .w h0::es,j,h,hd,hm=>by
  simp only[yS,qAa]at h;rcases qAh.1 hm with e|hm
  ·injection e with e;subst e;exact Ma h.1
  ·exact wN h.2 hd hm
theorem D5{j:Nat}{hd:HO}:∀{es:List Ed},qW j es=some hd→Ed.o j hd∈es
 |[],h=>by cases h
 | .r _ _::es,h=>qAk _ (D5 (es:=es) h)
 | .w _::es,h=>qAk _ (D5 (es:=es) h)
 | .o l h0::es,h=>by
  simp only[qW]at h;cases hb:Nat.beq l j with
  |true=>
   simp_all
  |false=>rw[hb]at h;exact qAk _ (D5 h)
theorem Gv{n j:Nat}{hd:HO}:∀{es:List Ed} {ss os:List Nat},bQ n ss os es=true→Ed.o j hd∈es→qW j es=some hd
 |[],_,_,_,h=>by cases h
 | .r _ _::es,ss,os,hw,hm=>by
  simp only[bQ,qAa]at hw;exact Gv (es:=es) hw.2 (by simpa using hm)
 | .w _::es,ss,os,hw,hm=>by
  exact Gv (es:=es) hw (by simpa using hm)
 | .o l h0::es,ss,os,hw,hm=>by
  simp only[bQ,qAa]at hw;rcases qAh.1 hm with e|hm
  ·cases e;simp only[qW,je,cond_true]
  ·have hne:Nat.beq l j=false:=by
    cases hb:Nat.beq l j with
    |false=>rfl
    |true=>
     have:=qAc hb;subst this;exact(tC hw.2.2 (by simp) hm).elim
   simp only[qW,hne];exact Gv hw.2.2 hm
theorem NJ{n:Nat}{ds:List Nat}{A:Nat→Bool}(hA:∀l,(Nat.blt l n&&!(mem ds l))=true→A l=true)(is:List (Nat×Sk)):∀(ss:List Sk) (us:List U) (rest:List LT) (off:Nat),us.map U.t=Sk.Bj ss++rest→nV n ds (VQ is off ss)=true→
  ∀q v,(aB (dh aT ss us).1)[q]? =some v→jN is (off+q)=false→uG A v=true
 |[],us,rest,off,_,_,q,v,hv,_=>by cases q<;>cases hv
 |s::ss,us,rest,off,hu,h,q,v,hv,hq=>by
  simp only[Sk.Bj,qAr]at hu;obtain⟨h1,h2⟩:=wz s us _ hu;simp only[VQ,nV,qAa]at h;simp only[dh,aB]at hv;by_cases hlt:q<mh s
  ·rw[qAe (by rw[sJ,h2];exact hlt)]at hv;have hs:Dt n ds s=true:=by
    cases hb:(Nat.beq (mh s) 1&&mem (is.flatMap fun p=>rng (p.1+1) (mh p.2)) (off+1))with
    |false=>rw[hb]at h;exact h.1
    |true=>
     simp only[qAa]at hb;have h1:=qAc hb.1;have:q=0:=by omega
     have:jN is off=true:=hb.2
     grind
   exact BL (cs:=[(bK aT s us).1]) (by simp only[iV,qBv];exact Ct hA s us hs) v (by simp only[aB,qAt];exact qAA hv)
  ·rw[qAg (by rw[sJ,h2];omega),sJ,h2]at hv;exact NJ hA is ss _ rest (off+mh s) h1 h.2 _ v hv (by rw[show off+mh s+(q - mh s)=off+q from by omega];exact hq)
theorem Nz{n:Nat}{ds:List Nat}{A:Nat→Bool}(hA:∀l,(Nat.blt l n&&!(mem ds l))=true→A l=true):∀(is:List (Nat×Sk)) (c:Option (List TV)) (us:List U) (rest:List LT),us.map U.t=(is.flatMap fun p=>p.2.xG)++rest→(is.all fun p=>Dt n ds p.2)=true→
  (∀cs,c=some cs→∀q v,(aB cs)[q]? =some v→jN is q=false→uG A v=true)→∀cs,(fE aT is c us).1=some cs→Qo A cs
 |[],c,us,rest,_,_,hc,cs,h=>fun v hv=>by
  obtain⟨q,hq⟩:=qAK hv;exact hc cs h q v hq rfl
 |p::ps,c,us,rest,hu,hs,hc,cs,h=>by
  simp only[qBQ,qAa]at hs;simp only[qCN,qAr]at hu;obtain⟨h1,h2⟩:=wz p.2 us _ hu;refine Nz hA ps _ _ rest h1 hs.2 (fun cs1 h3 q v hv hq=>?_) cs h;cases c with
  |none=>cases h3
  |some cs0=>
   simp only[qAb]at h3;obtain⟨q1,q2⟩:=uS h3;have hfl:(aB [(bK aT p.2 us).1]).length=mh p.2:=by simp only[aB,qAt,sJ,h2]
   rw[hfl]at q1 q2;by_cases hin:p.1≤q∧q<p.1+mh p.2
   ·rw[q1,qAr,qAg (by simp only[qAw];omega),qAe (by simp only[qAw];omega)]at hv;exact BL (cs:=[(bK aT p.2 us).1]) (by simp only[iV,qBv];exact Ct hA p.2 us hs.1) v (qAA hv)
   ·refine hc cs0 rfl q v ?_ ?_
    ·rw[q1]at hv;by_cases hlt:q<p.1
     ·rw[qAr,qAe (by simp only[qAw];omega),qBf,if_pos hlt]at hv;exact hv
     ·rw[qAg (by simp only[qAj,qAw];omega),qBY]at hv;rw[←hv];congr 1;simp only[qAj,qAw];omega
    ·cases hb:jN (p::ps) q with
     |false=>rfl
     |true=>
      rcases nL.1 hb with hb|hb
      ·exact(hin hb).elim
      ·rw[hq]at hb;cases hb
theorem LM{n:Nat}{ds:List Nat}{ks:List HO}:∀{es:List Ed},oI n ds ks es=true→∀k s,Ed.r k s∈es→Dt n ds s=true
 |[],_,k,s,h=>by cases h
 | .r k' s'::es,h,k,s,hm=>by
  simp only[oI,qAa]at h;rcases qAh.1 hm with e|hm
  ·grind
  ·exact LM h.2 k s hm
 | .o _ _::es,h,k,s,hm=>by
  simp only[oI,qAa]at h;exact LM h.2 k s (by simpa using hm)
 | .w h0::es,h,k,s,hm=>by
  simp only[oI,qAa]at h;exact LM h.2 k s (by simpa using hm)
theorem KY{n:Nat}{ds:List Nat}{ks:List HO}:∀{es:List Ed},oI n ds ks es=true→∀hd,Ed.w hd∈es→MJ n ds hd=true
 |[],_,hd,h=>by cases h
 | .r k' s'::es,h,hd,hm=>by
  simp only[oI,qAa]at h;exact KY h.2 hd (by simpa using hm)
 | .o _ _::es,h,hd,hm=>by
  simp only[oI,qAa]at h;exact KY h.2 hd (by simpa using hm)
 | .w h0::es,h,hd,hm=>by
  simp only[oI,qAa]at h;rcases qAh.1 hm with e|hm
  ·grind
  ·exact KY h.2 hd hm
theorem BQ{n:Nat}{ds:List Nat}{ks:List HO}:∀{es:List Ed},oI n ds ks es=true→∀l hd,Ed.o l hd∈es→hd=.dead∨(MJ n ds hd=true∧Zk (nth .dead ks l)=true∧(∀e,hd≠ .own e)∧(∀e,hd≠ .arr e)∧∀is,hd=.bx is→aej (nth .dead ks l)=true)
 |[],_,l,hd,h=>by cases h
 | .r k' s'::es,h,l,hd,hm=>by
  simp only[oI,qAa]at h;exact BQ h.2 l hd (by simpa using hm)
 | .w h0::es,h,l,hd,hm=>by
  simp only[oI,qAa]at h;exact BQ h.2 l hd (by simpa using hm)
 | .o l0 h0::es,h,l,hd,hm=>by
  simp only[oI,qAa]at h;rcases qAh.1 hm with e|hm
  ·injection e with e1 e2;subst e1;subst e2;cases hd with
   |dead=>exact .inl rfl
   |own e=>cases h.1
   |arr e=>cases h.1
   |box cs=>have:=h.1;simp at this;exact .inr ⟨this.1,this.2,fun e q=>(by cases q),fun e q=>(by cases q),fun is q=>(by cases q)⟩
   |bx is=>
    have:=h.1;simp at this;exact .inr ⟨this.1,(by have h2:=this.2;cases hk:nth HO.dead ks l<;>rw[hk]at h2<;>first|rfl|cases h2),fun e q=>(by cases q),fun e q=>(by cases q),fun is q=>this.2⟩
   |mp e=>have:=h.1;simp at this;exact .inr ⟨this.1,this.2,fun e q=>(by cases q),fun e q=>(by cases q),fun is q=>(by cases q)⟩
  ·exact BQ h.2 l hd hm
theorem xR{l:Nat}:∀{es:List Ed},Ed.o l .dead∈es→l∈killed es
 |[],h=>by cases h
 | .r k' s'::es,h=>xR (es:=es) (by simpa using h)
 | .w h0::es,h=>xR (es:=es) (by simpa using h)
 | .o l0 h0::es,h=>by
  simp only[killed,qAy];rcases qAh.1 h with e|h
  ·grind
  ·exact .inr (xR h)
mutual
theorem Nq{A:Nat→Bool}{l:Nat}:∀v:TV,Py l v=true→uG A v=true→A l=true
 | .own l',h,k=>by have:=qAc h;subst this;exact k
 | .psl l' _ _,h,k=>by have:=qAc h;subst this;exact k
 | .eptr cs,h,k=>zq cs h k
 | .agg cs,h,k=>zq cs h k
 | .tup cs,h,k=>zq cs h k
 | .func _ cs,h,k=>zq cs h k
 | .unk,h,_=>by cases h
 | .nilp,h,_=>by cases h
 | .nilF,h,_=>by cases h
 | .nils,h,_=>by cases h
 | .lf _ _,h,_=>by cases h
 | .nat _,h,_=>by cases h
 | .ptr _ _,h,_=>by cases h
 | .mapr _,h,_=>by cases h
theorem zq{A:Nat→Bool}{l:Nat}:∀vs:List TV,gH l vs=true→iV A vs=true→A l=true
 |[],h,_=>by cases h
 |v::vs,h,k=>by
  simp only[gH,qBg]at h;simp only[iV,qAa]at k;exact h.elim (fun h=>Nq v h k.1) fun h=>zq vs h k.2
end
end
end Abs
end Go.Proofs.YtfmdmcenjfkbhaaGreatDoor
