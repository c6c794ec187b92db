/-
  Renaming of typed values; what shapes are filled in as under other names. Conditions: none; lemmas.
-/
import Derived.Test.YtbijdmihdagfaaaGreatDoorCD10ox13439d
set_option linter.all false
namespace Go.Proofs.YtbijdmihdagfaaaGreatDoor
namespace Abs
section
open Go
noncomputable section
mutual
def dD(g:Nat→Nat):TV→TV
 | .ptr l o=>.ptr (g l) o
 | .mapr l=>.mapr (g l)
 | .ap l i z o=>.ap (g l) i z o
 | .own l=>.own (g l)
 | .psl l z c=>.psl (g l) z c
 | .eptr cs=>.eptr (wz g cs)
 | .agg cs=>.agg (wz g cs)
 | .tup cs=>.tup (wz g cs)
 | .func f cs=>.func f (wz g cs)
 | .unk=>.unk| .nilp=>.nilp| .nilF=>.nilF| .nils=>.nils| .lf t x=>.lf t x| .nat n=>.nat n
def wz(g:Nat→Nat):List TV→List TV
 |[]=>[]
 |v::vs=>dD g v::wz g vs
end
theorem yR(g:Nat→Nat):∀vs,wz g vs=vs.map (dD g)
 |[]=>rfl
 |v::vs=>by simp only[wz,qAF,yR g vs]
def gP(g:Nat→Nat):TObj→TObj
 | .box cs=>.box (cs.map (dD g))
 |o=>o
theorem Xn(g:Nat→Nat)(v:TV):width (dD g v)=width v:=by cases v<;>rfl
theorem agu{g:Nat→Nat}{v:TV}{e:ET}{x:e.D}(h:dD g v=.lf (.t e) x):v=.lf (.t e) x:=by cases v<;>first|exact h|cases h
theorem ang(g:Nat→Nat){l:List U}:(l.map fun u=>TV.lf u.t u.x).map (dD g)=l.map fun u=>TV.lf u.t u.x:=by rw[qBt];rfl
theorem ahv(g:Nat→Nat)(e:ET)(x:e.D):(comps e x).map (dD g)=comps e x:=ang g
theorem ahy(g:Nat→Nat)(v:TV):JU (dD g v)=(JU v).map (dD g):=by
 rcases l8 v with h|⟨e,x,rfl⟩
 ·have h':one (dD g v):=MQ fun e x q=>by
   rw[agu q]at h;have:=ou h;cases e<;>cases this
  rw[ou h,ou h'];rfl
 ·cases e<;>rfl
theorem Ni(g:Nat→Nat):∀vs:List TV,aF (vs.map (dD g))=(aF vs).map (dD g)
 |[]=>rfl
 |v::vs=>by simp only[qAF,aF,ahy,Ni g vs,qBa]
section
variable {γ:Type}
theorem Fy(g:Nat→Nat):∀(f:Nat) (cs:List TV) (n:Nat) (K:List TV→List TV→Option γ),splitK f (cs.map (dD g)) n K=splitK f cs n fun a r=>K (a.map (dD g)) (r.map (dD g))
 |0,_,_,_=>rfl
 |f+1,cs,n,K=>by
  cases n with
  |zero=>rfl
  |succ m=>
   cases cs with
   |nil=>rfl
   |cons c r=>
    have e1:=Fy g f r (m+1 - width c) fun a b=>K (dD g c::a) b;simp only[qAF,splitK,Xn];rw[e1];cases Nat.ble (width c) (m+1)with
    |true=>rfl
    |false=>
     cases c with
     |lf t x=>
      cases t with
      |t e=>
       have:=Fy g f (comps e x++r) (m+1) K;rw[qBa,ahv]at this;exact this
      |_=>rfl
     |_=>rfl
theorem ak9(g:Nat→Nat)(cs vs:List TV)(off:Nat):nT (cs.map (dD g)) off (vs.map (dD g)) some=(nT cs off vs some).map (List.map (dD g)):=by
 have hw:widths (vs.map (dD g))=widths vs:=by
  induction vs with
  |nil=>rfl
  |cons v vs ih=>simp only[qAF,widths,Xn,ih]
 have mp:∀(f:Nat) (cs:List TV) (n:Nat) (K:List TV→List TV→Option (List TV)),(splitK f cs n K).map (List.map (dD g))=splitK f cs n fun a b=>(K a b).map (List.map (dD g)):=fun f=>by
  induction f with
  |zero=>intro cs n K;rfl
  |succ f ih=>
   intro cs n K;cases n with
   |zero=>rfl
   |succ m=>
    cases cs with
    |nil=>rfl
    |cons c r=>
     simp only[splitK];cases Nat.ble (width c) (m+1)with
     |true=>simp only[cond_true];exact ih _ _ _
     |false=>
      split
      ·grind
      ·rfl
 unfold nT;rw[Fy,mp,hw];congr 1;funext a b;rw[Fy,mp]
 grind
end
mutual
theorem RN(g:Nat→Nat):∀(s:Sk) (us:List U),cB g s us=(dD g (cB bg s us).1,(cB bg s us).2)
 | .unk,_=>rfl
 | .nilp,_=>rfl
 | .nilF,_=>rfl
 | .k _,_=>rfl
 | .nils,_=>rfl
 | .lf _,us=>by cases us<;>rfl
 | .ptr _ _,_=>rfl
 | .eptr cs,us=>by simp only[cB,wB g cs us,dD,yR]
 | .agg cs,us=>by simp only[cB,wB g cs us,dD,yR]
 | .tup cs,us=>by simp only[cB,wB g cs us,dD,yR]
 | .func _ cs,us=>by simp only[cB,wB g cs us,dD,yR]
 | .mapr _,_=>rfl
 | .own _,_=>rfl
 | .psl _ _,_=>rfl
theorem wB(g:Nat→Nat):∀(ss:List Sk) (us:List U),dY g ss us=((dY bg ss us).1.map (dD g),(dY bg ss us).2)
 |[],_=>rfl
 |s::ss,us=>by simp only[dY,RN g s us,wB g ss,qAF]
end
theorem NI(g:Nat→Nat):∀(ps:List (Nat×Sk)) (c:Option (List TV)) (us:List U),gN g ps (c.map (List.map (dD g))) us=((gN bg ps c us).1.map (List.map (dD g)),(gN bg ps c us).2)
 |[],_,_=>rfl
 |p::ps,c,us=>by
  have key:(c.map (List.map (dD g))).bind (fun cs=>nT cs p.1 [dD g (cB bg p.2 us).1] some)=(c.bind fun cs=>nT cs p.1 [(cB bg p.2 us).1] some).map (List.map (dD g)):=by
   cases c with
   |none=>rfl
   |some cs=>
    have:=ak9 g cs [(cB bg p.2 us).1] p.1
    grind
  have ih:=NI g ps (c.bind fun cs=>nT cs p.1 [(cB bg p.2 us).1] some) (cB bg p.2 us).2;unfold gN;rw[RN g p.2 us]
  grind
theorem XC(g:Nat→Nat)(o:TObj)(h:HO)(us:List U):aZ g (gP g o) h us=(gP g (aZ bg o h us).1,(aZ bg o h us).2):=by
 cases h with
 |dead=>rfl
 |box cs=>simp only[aZ,wB g cs us,gP]
 |bx l=>
  have none':=NI g l none us;simp at none';cases o with
  |box cs=>
   have:=NI g l (some cs) us;simp only[gP,aZ]
   grind
  |_=>simp only[gP,aZ,none']
 |own e=>
  cases us with
  |nil=>rfl
  |cons u us=>obtain⟨t,x⟩:=u;cases t<;>rfl
 |mp e=>
  cases us with
  |nil=>rfl
  |cons u us=>obtain⟨t,x⟩:=u;cases t<;>rfl
 |arr e=>
  cases us with
  |nil=>rfl
  |cons u us=>obtain⟨t,x⟩:=u;cases t<;>rfl
theorem LB{α β:Type}{d:α}{d':β}(f:α→β)(hd:f d=d')(l:List α)(n:Nat):nth d' (l.map f) n=f (nth d l n):=by
 rw[eH,eH];simp;cases l[n]?<;>simp[hd]
theorem H6(g:Nat→Nat):∀(es:List Ed) (us:List U) (t:List TV) (h:List TObj),bV g es us (t.map (dD g)) (h.map (gP g))=((bV bg es us t h).1.map (dD g),(bV bg es us t h).2.map (gP g))
 |[],_,_,_=>rfl
 | .r n s::es,us,t,h=>by simp only[bV,RN g s us,←qCK,H6 g es]
 | .o l s::es,us,t,h=>by
  have ih:=H6 g es (aZ bg (nth .dead h l) s us).2 t (h.set l (aZ bg (nth .dead h l) s us).1);have e1:nth .dead (h.map (gP g)) l=gP g (nth .dead h l):=LB (d:=.dead) (d':=.dead) (gP g) rfl h l;unfold bV;rw[e1,XC g]
  simp_all
 | .w s::es,us,t,h=>by
  have ih:=H6 g es (aZ bg .dead s us).2 t (h++[(aZ bg .dead s us).1]);have e1:aZ g .dead s us=(gP g (aZ bg .dead s us).1,(aZ bg .dead s us).2):=XC g .dead s us;unfold bV
  grind
mutual
def AA(A:Nat→Bool):TV→Bool
 | .ptr l _=>A l
 | .mapr l=>A l
 | .ap l _ _ _=>A l
 | .own l=>A l
 | .psl l _ _=>A l
 | .eptr cs=>jW A cs
 | .agg cs=>jW A cs
 | .tup cs=>jW A cs
 | .func _ cs=>jW A cs
 | .unk=>true| .nilp=>true| .nilF=>true| .nils=>true| .lf _ _=>true| .nat _=>true
def jW(A:Nat→Bool):List TV→Bool
 |[]=>true
 |v::vs=>AA A v&&jW A vs
end
theorem acG{A:Nat→Bool}:∀{vs:List TV},jW A vs=true↔∀v∈vs,AA A v=true
 |[]=>by simp[jW]
 |v::vs=>by simp only[jW,qAa,acG,qAh,forall_eq_or_imp]
theorem ai9(A:Nat→Bool)(e:ET)(x:e.D):∀v∈Cq e x,AA A v=true:=by
 intro v hv;cases e<;>simp only[Cq,qAh]at hv<;>(repeat' (rcases hv with rfl|hv))<;>first|rfl|(subst hv;rfl)
def rfC(A:Nat→Bool)(cs:List TV):Prop:=∀v∈aF cs,AA A v=true
theorem LG{A:Nat→Bool}:∀{cs:List TV},jW A cs=true→rfC A cs
 |[],_=>fun v h=>by cases h
 |c::cs,h=>by
  simp only[jW,qAa]at h;intro v hv;simp only[aF,qAA]at hv;rcases hv with hv|hv
  ·rcases l8 c with ho|⟨e,y,rfl⟩
   ·rw[ou ho,qBd]at hv;subst hv;exact h.1
   ·exact ai9 A e y v hv
  ·exact LG h.2 v hv
def rfO(A:Nat→Bool)(o:TObj):Prop:=∀cs,o=.box cs→rfC A cs
mutual
theorem L9{n:Nat}{ds:List Nat}{A:Nat→Bool}(hA:∀l,(Nat.blt l n&&!(mem ds l))=true→A l=true):∀(s:Sk) (us:List U),MG n ds s=true→AA A (cB bg s us).1=true
 | .unk,_,_=>rfl
 | .nilp,_,_=>rfl
 | .nilF,_,_=>rfl
 | .k _,_,_=>rfl
 | .nils,_,_=>rfl
 | .lf _,us,_=>by cases us<;>rfl
 | .ptr l _,_,h=>hA l h
 | .eptr cs,us,h=>vC hA cs us h
 | .agg cs,us,h=>vC hA cs us h
 | .tup cs,us,h=>vC hA cs us h
 | .func _ cs,us,h=>vC hA cs us h
 | .mapr l,_,h=>hA l h
 | .own l,_,h=>hA l h
 | .psl l _,_,h=>hA l h
theorem vC{n:Nat}{ds:List Nat}{A:Nat→Bool}(hA:∀l,(Nat.blt l n&&!(mem ds l))=true→A l=true):∀(ss:List Sk) (us:List U),rJ n ds ss=true→jW A (dY bg ss us).1=true
 |[],_,_=>rfl
 |s::ss,us,h=>by
  simp only[rJ,qAa]at h;simp only[dY,jW,qAa];exact⟨L9 hA s us h.1,vC hA ss _ h.2⟩
end
theorem aeh{n:Nat}{ds:List Nat}{A:Nat→Bool}(hA:∀l,(Nat.blt l n&&!(mem ds l))=true→A l=true):∀(is:List (Nat×Sk)) (c:Option (List TV)) (us:List U),(is.all fun p=>MG n ds p.2)=true→(∀cs,c=some cs→rfC A cs)→∀cs,(gN bg is c us).1=some cs→rfC A cs
 |[],c,us,_,hc,cs,h=>hc cs h
 |p::ps,c,us,hs,hc,cs,h=>by
  simp only[qBy,qAa]at hs;refine aeh hA ps _ _ hs.2 (fun cs1 h1=>?_) cs h;cases c with
  |none=>cases h1
  |some cs0=>
   obtain⟨q1,_⟩:=Bc h1;intro v hv;rw[q1]at hv;simp only[qAA]at hv;rcases hv with(hv|hv)|hv
   ·exact hc cs0 rfl v (qDv hv)
   ·exact LG (cs:=[(cB bg p.2 us).1]) (by simp only[jW,qBq];exact L9 hA p.2 us hs.1) v hv
   ·exact hc cs0 rfl v (List.mem_of_mem_drop hv)
theorem acZ{n:Nat}{ds:List Nat}{A:Nat→Bool}(hA:∀l,(Nat.blt l n&&!(mem ds l))=true→A l=true)(o:TObj)(hd:HO)(us:List U)(h:ZF n ds hd=true)(ho:rfO A o):rfO A (aZ bg o hd us).1:=by
 intro cs hc;cases hd with
 |dead=>cases hc
 |box ss=>cases hc;exact LG (vC hA ss us h)
 |bx is=>
  cases o with
  |box cs0=>
   simp only[aZ]at hc;cases hq:(gN bg is (some cs0) us).1 with
   |none=>rw[hq]at hc;cases hc
   |some cs1=>
    rw[hq]at hc;cases hc;exact aeh hA is _ us h (fun cs2 h2=>by cases h2;exact ho cs0 rfl) cs hq
  |_=>cases hc
 |own e=>
  cases us with
  |nil=>cases hc
  |cons u us=>obtain⟨t,x⟩:=u;cases t<;>cases hc
 |mp e=>
  cases us with
  |nil=>cases hc
  |cons u us=>obtain⟨t,x⟩:=u;cases t<;>cases hc
 |arr e=>
  cases us with
  |nil=>cases hc
  |cons u us=>obtain⟨t,x⟩:=u;cases t<;>cases hc
theorem afs(o:TObj)(hd:HO)(us:List U)(h:(match hd with| .own _=>false| .arr _=>false|_=>true)=true):plainO (aZ bg o hd us).1=true:=by
 cases hd with
 |dead=>rfl
 |box ss=>rfl
 |bx is=>
  cases o with
  |box cs0=>simp only[aZ];cases(gN bg is (some cs0) us).1<;>rfl
  |_=>rfl
 |own e=>cases h
 |mp e=>
  cases us with
  |nil=>rfl
  |cons u us=>obtain⟨t,x⟩:=u;cases t<;>rfl
 |arr e=>cases h
theorem BF:∀(ts:List LT) (x:fU ts),(dG ts x).map U.t=ts
 |[],_=>rfl
 |[t],_=>rfl
 |t::u::ts,x=>by simp only[dG,qAF];rw[BF (u::ts) x.2]
mutual
theorem CO:∀(s:Sk) (us:List U) (rest:List LT),us.map U.t=s.Ep++rest→(cB bg s us).2.map U.t=rest∧width (cB bg s us).1=pO s
 | .unk,us,rest,h=>⟨h,rfl⟩
 | .nilp,us,rest,h=>⟨h,rfl⟩
 | .nilF,us,rest,h=>⟨h,rfl⟩
 | .k c,us,rest,h=>⟨h,CU.width c⟩
 | .nils,us,rest,h=>⟨h,rfl⟩
 | .lf t,us,rest,h=>by
  cases us with
  |nil=>cases h
  |cons u us=>
   simp only[Sk.Ep,qAF,qAH,qAz,List.cons.injEq]at h;obtain⟨t',x⟩:=u;obtain⟨h1,h2⟩:=h;simp only at h1;subst h1;exact⟨h2,by cases t'<;>rfl⟩
 | .ptr _ _,us,rest,h=>⟨h,rfl⟩
 | .eptr cs,us,rest,h=>⟨wm cs us rest h,rfl⟩
 | .agg cs,us,rest,h=>⟨wm cs us rest h,rfl⟩
 | .tup cs,us,rest,h=>⟨wm cs us rest h,rfl⟩
 | .func _ cs,us,rest,h=>⟨wm cs us rest h,rfl⟩
 | .mapr _,us,rest,h=>⟨h,rfl⟩
 | .own _,us,rest,h=>⟨h,rfl⟩
 | .psl _ _,us,rest,h=>⟨h,rfl⟩
theorem wm:∀(ss:List Sk) (us:List U) (rest:List LT),us.map U.t=Sk.Kr ss++rest→(dY bg ss us).2.map U.t=rest
 |[],us,rest,h=>h
 |s::ss,us,rest,h=>by
  simp only[Sk.Kr,qAo]at h;exact wm ss _ rest (CO s us _ h).1
end
theorem Fa:∀(is:List (Nat×Sk)) (c:Option (List TV)) (us:List U) (rest:List LT),us.map U.t=(is.flatMap fun p=>p.2.Ep)++rest→(gN bg is c us).2.map U.t=rest∧
  ∀cs cf,c=some cs→(gN bg is c us).1=some cf→(aF cf).length=(aF cs).length∧∀q,kZ is q=false→(aF cf)[q]? =(aF cs)[q]?
 |[],c,us,rest,h=>⟨h,fun cs cf h1 h2=>by
  rw[h1]at h2;cases h2;exact⟨rfl,fun _ _=>rfl⟩⟩
 |p::ps,c,us,rest,h=>by
  simp only[qBE,qAo]at h;obtain⟨h1,h2⟩:=CO p.2 us _ h;have ih:=Fa ps (c.bind fun cs=>nT cs p.1 [(cB bg p.2 us).1] some) _ rest h1;refine⟨ih.1,fun cs cf hc hf=>?_⟩;subst hc;simp only[qAb]at ih;simp only[gN,qAb]at hf;cases hq:nT cs p.1 [(cB bg p.2 us).1] some with
  |none=>
   rw[hq]at hf;have nn:∀(l:List (Nat×Sk)) (us:List U),(gN bg l none us).1=none:=fun l=>by
    induction l with
    |nil=>intro us;rfl
    |cons p l ih=>intro us;simp only[gN,Option.bind_none];exact ih _
   grind
  |some cs1=>
   rw[hq]at ih hf;obtain⟨g1,g2⟩:=ih.2 cs1 cf rfl hf;obtain⟨q1,q2⟩:=Bc hq;have hw:(aF [(cB bg p.2 us).1]).length=pO p.2:=by rw[j5];simp only[widths,h2,qAJ]
   refine⟨by rw[g1,q1];simp only[qAg,qAx,qCn];omega,fun q hq=>?_⟩;have hps:kZ ps q=false:=by
    cases hps:kZ ps q with
    |false=>rfl
    |true=>rw[q9.2 (.inr hps)]at hq;cases hq
   have hout:¬(p.1≤q∧q<p.1+pO p.2):=fun hh=>by rw[q9.2 (.inl hh)]at hq;cases hq
   rw[g2 q hps,q1];by_cases hlt:q<p.1
   ·rw[qAo,qAe (by simp only[qAx];omega),qBm,if_pos hlt]
   grind
theorem Yy(o:TObj)(hd:HO)(us:List U)(rest:List LT)(h:us.map U.t=hd.Ep++rest):(aZ bg o hd us).2.map U.t=rest:=by
 cases hd with
 |dead=>exact h
 |box cs=>exact wm cs us rest h
 |bx is=>cases o<;>exact(Fa is _ us rest h).1
 |own e=>
  cases us with
  |nil=>cases h
  |cons u us=>
   simp only[HO.Ep,qAF,qAH,List.cons.injEq]at h;obtain⟨t',x⟩:=u;obtain⟨h1,h2⟩:=h;subst h1;exact h2
 |mp e=>
  cases us with
  |nil=>cases h
  |cons u us=>
   simp only[HO.Ep,qAF,qAH,List.cons.injEq]at h;obtain⟨t',x⟩:=u;obtain⟨h1,h2⟩:=h;subst h1;exact h2
 |arr e=>
  cases us with
  |nil=>cases h
  |cons u us=>
   simp only[HO.Ep,qAF,qAH,List.cons.injEq]at h;obtain⟨t',x⟩:=u;obtain⟨h1,h2⟩:=h;subst h1;exact h2
structure Bld(es:List Ed)(j:Nat)(T:List TV)(h:List TObj)(T1:List TV)(h1:List TObj):Prop where
 tl:T1.length=T.length
 hl:h1.length=j+aC es
 slot:∀k,nth .unk T1 k=nth .unk T k∨∃s us,Ed.r k s∈es∧nth .unk T1 k=(cB bg s us).1
 keepO:∀l,l<j→(∀hd,Ed.o l hd∉es)→nth .dead h1 l=nth .dead h l
 obj:∀l hd,Ed.o l hd∈es→∃us rest,us.map U.t=hd.Ep++rest∧nth .dead h1 l=(aZ bg (nth .dead h l) hd us).1
 new:∀i,i<aC es→∃hd us,Ed.w hd∈es∧nth .dead h1 (j+i)=(aZ bg .dead hd us).1
 newK:∀i,i<aC es→∃us rest,us.map U.t=(nth .dead (kinds es) i).Ep++rest∧nth .dead h1 (j+i)=(aZ bg .dead (nth .dead (kinds es) i) us).1
theorem mM{n:Nat}:∀(es:List Ed) (us:List U) (j:Nat) (ss os:List Nat) (T:List TV) (h:List TObj) (rest:List LT),us.map U.t=aY es++rest→dz n ss os es=true→n≤j→h.length=j→Bld es j T h (bV bg es us T h).1 (bV bg es us T h).2
 |[],us,j,ss,os,T,h,rest,hu,hw,hn,hl=>⟨rfl,hl,fun _=>.inl rfl,fun _ _ _=>rfl,fun l hd hm=>(by cases hm),fun i hi=>by simp[aC]at hi,fun i hi=>by simp[aC]at hi⟩
 | .r k s::es,us,j,ss,os,T,h,rest,hu,hw,hn,hl=>by
  simp only[aY,qAo]at hu;simp only[dz,qAa]at hw;have g:=mM es (cB bg s us).2 j _ _ (T.set k (cB bg s us).1) h rest (CO s us _ hu).1 hw.2 hn hl;refine⟨by rw[bV,g.tl,qAK],g.hl,fun k'=>?_,fun l hlt hno=>g.keepO l hlt fun hd hm=>hno hd (qAk _ hm),fun l hd hm=>g.obj l hd (by simpa using hm),fun i hi=>?_,fun i hi=>g.newK i hi⟩
  ·rcases g.slot k' with e|⟨s',us',e1,e2⟩
   ·by_cases hk:k=k'
    ·subst hk;by_cases hlt:k<T.length
     ·exact .inr ⟨s,us,by simp,by rw[bV,e,bB hlt]⟩
     ·exact .inl (by rw[bV,e,qBN (by omega)])
    ·exact .inl (by rw[bV,e,aN hk])
   ·exact .inr ⟨s',us',qAk _ e1,e2⟩
  ·obtain⟨hd,us',e1,e2⟩:=g.new i hi;exact⟨hd,us',qAk _ e1,e2⟩
 | .o l hd::es,us,j,ss,os,T,h,rest,hu,hw,hn,hl=>by
  simp only[aY,qAo]at hu;simp only[dz,qAa,qAY,sJ]at hw;have hln:l<n:=qAf hw.1;have hno:∀hd',Ed.o l hd'∉es:=fun hd'=>zy hw.2.2 (by simp);have g:=mM es (aZ bg (nth .dead h l) hd us).2 j _ _ T (h.set l (aZ bg (nth .dead h l) hd us).1) rest (Yy _ hd us _ hu) hw.2.2 hn (by rw[qAK];exact hl);refine⟨g.tl,g.hl,fun k'=>?_,fun l' hlt hn'=>?_,fun l' hd' hm=>?_,fun i hi=>?_,fun i hi=>g.newK i hi⟩
  ·rcases g.slot k' with e|⟨s',us',e1,e2⟩
   ·exact .inl e
   ·exact .inr ⟨s',us',qAk _ e1,e2⟩
  ·have hne:l≠l':=fun e=>hn' hd (by subst e;simp);rw[bV,g.keepO l' hlt fun hd' hm=>hn' hd' (qAk _ hm),aN hne]
  ·rcases qAh.1 hm with e|hm
   ·cases e;exact⟨us,_,hu,by rw[bV,g.keepO l (by omega) hno,bB (by omega)]⟩
   ·have hne:l≠l':=fun e=>by subst e;exact hno hd' hm
    have:=g.obj l' hd' hm;rw[aN hne]at this;exact this
  ·obtain⟨hd,us',e1,e2⟩:=g.new i hi;exact⟨hd,us',qAk _ e1,e2⟩
 | .w hd::es,us,j,ss,os,T,h,rest,hu,hw,hn,hl=>by
  simp only[aY,qAo]at hu;simp only[dz]at hw;have g:=mM es (aZ bg .dead hd us).2 (j+1) _ _ T (h++[(aZ bg .dead hd us).1]) rest (Yy _ hd us _ hu) hw (by omega) (by simp[hl]);refine⟨g.tl,by rw[bV,g.hl];simp only[aC];omega,fun k'=>?_,fun l' hlt hn'=>?_,fun l' hd' hm=>?_,fun i hi=>?_,fun i hi=>?_⟩
  ·rcases g.slot k' with e|⟨s',us',e1,e2⟩
   ·exact .inl e
   ·exact .inr ⟨s',us',qAk _ e1,e2⟩
  ·rw[bV,g.keepO l' (by omega) fun hd' hm=>hn' hd' (qAk _ hm),iC (by omega)]
  ·have hm:Ed.o l' hd'∈es:=by simpa using hm
   have hlt:=j4 hw hm;have:=g.obj l' hd' hm;rw[iC (by omega)]at this;exact this
  ·cases i with
   |zero=>
    refine⟨hd,us,by simp,?_⟩;rw[bV,qAJ,g.keepO j (by omega) fun hd' hm=>(by have:=j4 hw hm;omega),Np hl]
   |succ i=>
    obtain⟨hd',us',e1,e2⟩:=g.new i (by simp only[aC]at hi;omega);rw[show j+1+i=j+(i+1)from by omega]at e2;exact⟨hd',us',qAk _ e1,e2⟩
  ·cases i with
   |zero=>
    refine⟨us,_,hu,?_⟩;rw[bV,qAJ,g.keepO j (by omega) fun hd' hm=>(by have:=j4 hw hm;omega),Np hl];rfl
   |succ i=>
    obtain⟨us',rest',e1,e2⟩:=g.newK i (by simp only[aC]at hi;omega);rw[show j+1+i=j+(i+1)from by omega]at e2;exact⟨us',rest',e1,e2⟩
end
end
section
open Go
structure Lks(g G:Nat→Nat)(A:Nat→Bool)(Hc Hk:List TObj):Prop where
 eq:∀j,A j=true→G j=g j
 own:∀j,A j=true→dH (g j) (nth .dead Hc (g j))=ren G (dH j (nth .dead Hk j))
 psl:∀j z,A j=true→bZ (g j) z (nth .dead Hc (g j))=ren G (bZ j z (nth .dead Hk j))
section
variable {g G:Nat→Nat}{A:Nat→Bool}{Hc Hk:List TObj}
mutual
theorem Gn(hl:Lks g G A Hc Hk):∀v,AA A v=true→av Hc (dD g v)=ren G (av Hk v)
 | .unk,_=>rfl
 | .nilp,_=>rfl
 | .nilF,_=>rfl
 | .nils,_=>rfl
 | .lf t x,_=>(Bu G t x).symm
 | .nat _,_=>rfl
 | .ptr l o,h=>by simp only[dD,av,ren,hl.eq l h]
 | .mapr l,h=>by simp only[dD,av,ren,hl.eq l h]
 | .ap l _ _ _,h=>by simp only[dD,av,ren,hl.eq l h]
 | .own l,h=>hl.own l h
 | .psl l z c,h=>by
  cases c with
  |none=>exact hl.psl l z h
  |some k=>simp only[dD,av,ren,hl.eq l h]
 | .eptr cs,h=>by simp only[dD,av,ren,Sq hl cs h]
 | .agg cs,h=>by simp only[dD,av,ren,Sq hl cs h]
 | .tup cs,h=>by simp only[dD,av,ren,Zf hl cs h]
 | .func f cs,h=>by simp only[dD,av,ren,Zf hl cs h]
theorem Sq(hl:Lks g G A Hc Hk):∀vs,jW A vs=true→aT Hc (wz g vs)=bS G (aT Hk vs)
 |[],_=>rfl
 |v::vs,h=>by
  simp only[jW,qAa]at h;have h1:=Gn hl v h.1;simp only[wz,aT,als,Sq hl vs h.2];congr 1;rcases l8 v with ho|⟨e,x,rfl⟩
  ·have ho':one (dD g v):=MQ fun e x q=>by
    rw[agu q]at ho;have:=ou ho;simp only[JU]at this;cases e<;>cases this
   rw[ho,ho',h1];rfl
  ·exact(PW e G x).symm
theorem Zf(hl:Lks g G A Hc Hk):∀vs,jW A vs=true→aQ Hc (wz g vs)=bS G (aQ Hk vs)
 |[],_=>rfl
 |v::vs,h=>by
  simp only[jW,qAa]at h;simp only[wz,aQ,bS,Gn hl v h.1,Zf hl vs h.2]
end
theorem oO{H:List TObj}{vs:List TV}:aT H vs=(aF vs).map (av H):=(Vm H vs).symm
theorem anz(hl:Lks g G A Hc Hk){cs:List TV}(h:rfC A cs):aT Hc (cs.map (dD g))=bS G (aT Hk cs):=by
 rw[oO,oO,Ni,qBt,jG,qBt];exact qBi fun v hv=>Gn hl v (h v hv)
theorem aga(hl:Lks g G A Hc Hk){o:TObj}(h:rfO A o):dM Hc (gP g o)=bO G (dM Hk o):=by
 cases o with
 |box cs=>simp only[gP,dM,bO,anz hl (h cs rfl)]
 |mp e xs=>simp only[gP,dM,bO,F4]
 |arr e xs=>simp only[gP,dM,bO,jy]
 |_=>rfl
theorem ai3{g G:Nat→Nat}{j:Nat}(o:TObj)(h:G j=g j):dH (g j) (gP g o)=ren G (dH j o)∧∀z,bZ (g j) z (gP g o)=ren G (bZ j z o):=by
 cases o<;>refine⟨?_,fun z=>?_⟩<;>simp only[gP,dH,bZ,ren,nP,jy,h]
end
def tgt:TWr→Option Nat
 | .sl _ _=>none
 | .ob l _=>some l
 | .st l _ _=>some l
 | .kill l=>some l
 | .nw l _=>some l
 | .up l _ _ _=>some l
theorem LD{s s':DS}{w:TWr}(h:W1 s w s')(hs:tgt w≠none):s'.t=s.t∧s'.h.length=s.h.length:=by
 cases w with
 |sl n v=>exact(hs rfl).elim
 |ob l o=>obtain⟨_,_,rfl⟩:=h;exact⟨rfl,by simp⟩
 |st l off vs=>obtain⟨cs,cs',_,_,rfl⟩:=h;exact⟨rfl,by simp⟩
 |kill l=>rcases h with⟨e,xs,_,rfl⟩|⟨e,xs,_,rfl⟩|⟨_,rfl⟩<;>exact⟨rfl,by simp⟩
 |nw l o=>obtain⟨_,_,rfl⟩:=h;exact⟨rfl,by simp⟩
 |up l i e y=>obtain⟨_,_,rfl⟩:=h;exact⟨rfl,by simp⟩
theorem adp{s s':DS}{w:TWr}(h:W1 s w s'):s'.t.length=s.t.length∧s'.h.length=s.h.length:=by
 cases w with
 |sl n v=>obtain⟨_,e⟩:=h;subst e;exact⟨by simp,rfl⟩
 |ob l o=>have:=LD h (by simp[tgt]);exact⟨by rw[this.1],this.2⟩
 |st l off vs=>have:=LD h (by simp[tgt]);exact⟨by rw[this.1],this.2⟩
 |kill l=>have:=LD h (by simp[tgt]);exact⟨by rw[this.1],this.2⟩
 |nw l o=>have:=LD h (by simp[tgt]);exact⟨by rw[this.1],this.2⟩
 |up l i e y=>have:=LD h (by simp[tgt]);exact⟨by rw[this.1],this.2⟩
theorem Ma{s s':DS}{ws:List TWr}(h:Ws s ws s'):s'.t.length=s.t.length∧s'.h.length=s.h.length:=by
 induction h with
 |nil s=>exact⟨rfl,rfl⟩
 |cons h _ ih=>exact⟨ih.1.trans (adp h).1,ih.2.trans (adp h).2⟩
theorem aiE{s s2:DS}{a c:List TWr}(h:Ws s (a++c) s2):∃s1,Ws s a s1∧Ws s1 c s2:=by
 induction a generalizing s with
 |nil=>exact⟨s,.nil s,h⟩
 |cons w a ih=>
  cases h with
  |cons h1 h2=>
   obtain⟨s1,g1,g2⟩:=ih h2;exact⟨s1,.cons h1 g1,g2⟩
theorem ad4{s s':DS}{w:TWr}(h:W1 s w s'){l:Nat}(hl:tgt w≠some l):nth .dead s'.h l=nth .dead s.h l:=by
 cases w with
 |sl n v=>obtain⟨_,e⟩:=h;subst e;rfl
 |ob m o=>obtain⟨_,_,rfl⟩:=h;exact aN fun e=>hl (congrArg some e)
 |st m off vs=>obtain⟨cs,cs',_,_,rfl⟩:=h;exact aN fun e=>hl (congrArg some e)
 |kill m=>rcases h with⟨e,xs,_,rfl⟩|⟨e,xs,_,rfl⟩|⟨_,rfl⟩<;>exact aN fun e=>hl (congrArg some e)
 |nw m o=>obtain⟨_,_,rfl⟩:=h;exact aN fun e=>hl (congrArg some e)
 |up m i e y=>obtain⟨_,_,rfl⟩:=h;exact aN fun e=>hl (congrArg some e)
theorem M8{H H':List TObj}{t:List TV}(hs:Nq H H' t){l:Nat}{cs:List TV}(hl:nth .dead H l=.box cs):∀v∈aF cs,av H v=av H' v:=by
 have:=hs.2 l cs hl;rw[oO,oO]at this
 simp_all
theorem akJ{H H':List TObj}{t:List TV}(hs:Nq H H' t)(l:Nat):dM H (nth .dead H l)=dM H' (nth .dead H l):=by
 cases ho:nth .dead H l with
 |box cs=>simp only[dM];rw[hs.2 l cs ho]
 |_=>rfl
theorem ak0{H H':List TObj}{t:List TV}(hs:Nq H H' t):aQ H t=aQ H' t:=aeP hs.1
theorem Mj{s s':DS}{ws:List TWr}(h:Ws s ws s'):∀l,(∀w∈ws,tgt w≠some l)→nth .dead s'.h l=nth .dead s.h l∧dM s'.h (nth .dead s.h l)=dM s.h (nth .dead s.h l):=by
 induction h with
 |nil s=>intro l _;exact⟨rfl,rfl⟩
 |cons h _ ih=>
  intro l hl;have h1:=ad4 h (hl _ (by simp));obtain⟨g1,g2⟩:=ih l fun w hw=>hl w (by simp[hw]);rw[h1]at g1 g2;exact⟨g1,g2.trans (akJ (Bb h).1 l).symm⟩
theorem ab9{s s':DS}{ws:List TWr}(h:Ws s ws s'):(∀w∈ws,tgt w≠none)→s'.t=s.t∧aQ s'.h s'.t=aQ s.h s.t:=by
 induction h with
 |nil s=>intro _;exact⟨rfl,rfl⟩
 |cons h _ ih=>
  intro hw;obtain⟨g1,g2⟩:=ih fun w hm=>hw w (by simp[hm]);have:=LD h (hw _ (by simp));refine⟨g1.trans this.1,g2.trans ?_⟩;rw[this.1,ak0 (Bb h).1]
def hits(l q:Nat):TWr→Prop
 | .st l' off vs=>l'=l∧off≤q∧q<off+widths vs
 | .ob l' _=>l'=l
 | .kill l'=>l'=l
 |_=>False
theorem anJ{s s':DS}{w:TWr}(h:W1 s w s'){l q:Nat}{cs:List TV}{v:TV}(hb:nth .dead s.h l=.box cs)(hv:(aF cs)[q]? =some v)(hh:¬hits l q w):
  ∃cs',nth .dead s'.h l=.box cs'∧(aF cs').length=(aF cs).length∧(aF cs')[q]? =some v∧av s'.h v=av s.h v:=by
 have hav:av s'.h v=av s.h v:=(M8 (Bb h).1 hb v (qAB hv)).symm;by_cases hl:tgt w=some l
 ·cases w with
  |sl n x=>cases hl
  |ob m o=>cases hl;exact(hh rfl).elim
  |st m off vs=>
   cases hl;obtain⟨cs0,cs',h1,h2,rfl⟩:=h;rw[hb]at h1;cases h1;obtain⟨q1,q2⟩:=Bc h2;have hlt:l<s.h.length:=by
    apply qAl;intro hn;rw[iH (by omega)]at hb;cases hb
   refine⟨cs',bB hlt,by rw[q1];simp;omega,?_,hav⟩;have hout:¬(off≤q∧q<off+(aF vs).length):=fun hc=>hh ⟨rfl,by rw[←j5];exact hc⟩
   grind
  |kill m=>cases hl;exact(hh rfl).elim
  |nw m o=>
   cases hl;obtain⟨h1,_⟩:=h;rw[hb]at h1;cases h1
  |up m i e y=>cases hl;obtain⟨_,h1,_⟩:=h;rw[hb]at h1;cases h1
 ·exact⟨cs,by rw[ad4 h hl];exact hb,rfl,hv,hav⟩
theorem afY{s s':DS}{ws:List TWr}(h:Ws s ws s'):∀{l q:Nat} {cs:List TV} {v:TV},nth .dead s.h l=.box cs→(aF cs)[q]? =some v→(∀w∈ws,¬hits l q w)→
  ∃cs',nth .dead s'.h l=.box cs'∧(aF cs').length=(aF cs).length∧(aF cs')[q]? =some v∧av s'.h v=av s.h v:=by
 induction h with
 |nil s=>intro l q cs v hb hv _;exact⟨cs,hb,rfl,hv,rfl⟩
 |cons h _ ih=>
  intro l q cs v hb hv hh;obtain⟨cs1,g1,g2,g3,g4⟩:=anJ h hb hv (hh _ (by simp))
  grind
section
variable {γ:Type}{b:γ}
theorem ai6{l:Nat}{cf:List TV}:∀(is:List (Nat×Sk)) (K:List TWr→Option γ),wrB l cf is K=some b→∃ws,K ws=some b∧(∀w∈ws,∃p c,p∈is∧w=.st l p.1 c)∧
  ∀s s' cs0,Ws s ws s'→nth .dead s.h l=.box cs0→∃cs1,nth .dead s'.h l=.box cs1∧(aF cs1).length=(aF cs0).length∧∀q,(kZ is q=true→q<(aF cs0).length→(aF cs1)[q]? =(aF cf)[q]?)∧(kZ is q=false→(aF cs1)[q]? =(aF cs0)[q]?∧∀v,(aF cs0)[q]? =some v→av s'.h v=av s.h v)
 |[],K,h=>⟨[],h,fun w hw=>(by cases hw),fun s s' cs0 hw hb=>by
  cases hw;exact⟨cs0,hb,rfl,fun q=>⟨fun h=>(by cases h),fun _=>⟨rfl,fun _ _=>rfl⟩⟩⟩⟩
 |p::ps,K,h=>by
  simp only[wrB]at h;obtain⟨a,r,h1,h2,h⟩:=uU _ _ _ _ h;obtain⟨c,r1,h3,h4,h⟩:=uU _ _ _ _ h;obtain⟨ws,h5,h6,h7⟩:=ai6 ps _ h;refine⟨_,h5,fun w hw=>?_,fun s s' cs0 hw hb=>?_⟩
  ·rcases qAh.1 hw with rfl|hw
   ·grind
   simp_all
  ·cases hw with
   |@cons _ s1 _ _ _ g1 g2=>
    have g1':=g1;obtain⟨cs0',cs1,k1,k2,e⟩:=g1;rw[hb]at k1;cases k1;obtain⟨q1,q2⟩:=Bc k2;have hlt:l<s.h.length:=by
     apply qAl;intro hn;rw[iH (by omega)]at hb;cases hb
    have hb1:nth .dead s1.h l=.box cs1:=by rw[e];exact bB hlt
    have hl1:(aF cs1).length=(aF cs0).length:=by rw[q1];simp only[qAg,qAx,qCn];omega
    obtain⟨cs2,m1,m2,m3⟩:=h7 s1 s' cs1 g2 hb1;refine⟨cs2,m1,m2.trans hl1,fun q=>⟨fun hq hql=>?_,fun hq=>?_⟩⟩
    ·cases hps:kZ ps q with
     |true=>exact(m3 q).1 hps (by omega)
     |false=>
      have hin:=(q9.1 hq).resolve_right (by rw[hps];simp);rw[((m3 q).2 hps).1,q1,h1,h3];rw[qAo,qAi (by simp only[qAx];omega),qAe (by simp only[qAx];omega)];rw[qAi (by omega),qAe (by omega)];congr 1;simp only[qAx];omega
    ·have hps:kZ ps q=false:=by
      cases hps:kZ ps q with
      |false=>rfl
      |true=>rw[q9.2 (.inr hps)]at hq;cases hq
     have hout:¬(p.1≤q∧q<p.1+pO p.2):=fun hh=>by rw[q9.2 (.inl hh)]at hq;cases hq
     have e1:(aF cs1)[q]? =(aF cs0)[q]?:=by
      rw[q1];by_cases hlt:q<p.1
      ·rw[qAo,qAe (by simp only[qAx];omega),qBm,if_pos hlt]
      ·rw[qAi (by simp only[qAg,qAx];omega),qCd];congr 1;simp only[qAg,qAx];omega
     refine⟨((m3 q).2 hps).1.trans e1,fun v hv=>?_⟩;rw[((m3 q).2 hps).2 v (by rw[e1];exact hv)];exact(M8 (Bb g1').1 hb v (qAB hv)).symm
end
end
section
open Go
theorem RB{f:Nat→Option Nat}:∀(n i:Nat),(Ch f i n).length≤n
 |0,_=>by simp[Ch]
 |n+1,i=>by
  simp only[Ch];split
  ·simp;have:=RB (f:=f) n (i+1);omega
  ·have:=RB (f:=f) n (i+1);omega
theorem aa8{f:Nat→Option Nat}:∀(n i:Nat),(Ch f i n).length=n→∀j,j<n→f (i+j)=(Ch f i n)[j]?
 |0,_,_,j,hj=>by omega
 |n+1,i,h,j,hj=>by
  simp only[Ch]at h⊢;split at h
  ·rename_i l hl;cases j with
   |zero=>simpa using hl
   |succ j=>
    simp at h;have:=aa8 (f:=f) n (i+1) (by omega) j (by omega)
    grind
  ·rename_i hl;have:=RB (f:=f) n (i+1);omega
theorem agE:∀(c k:Nat),(rng k c).length=c
 |0,_=>rfl
 |c+1,k=>by simp only[rng,qAu,agE c]
theorem agv:∀(c k i:Nat),i<c→(rng k c)[i]? =some (k+i)
 |0,_,_,h=>by omega
 |c+1,k,0,_=>rfl
 |c+1,k,i+1,h=>by
  simp only[rng,qBo];rw[agv c (k+1) i (by omega)];congr 1;omega
theorem aav:∀(c k:Nat),(rng k c).Nodup
 |0,_=>by simp[rng]
 |c+1,k=>by
  simp only[rng,qBP,zh];exact⟨by omega,aav c (k+1)⟩
theorem aaR:∀{l:List Nat},nodupB l=true→l.Nodup
 |[],_=>by simp
 |x::xs,h=>by
  simp only[nodupB]at h;rw[qBP];cases hm:mem xs x with
  |true=>rw[hm]at h;cases h
  |false=>rw[hm]at h;exact⟨sJ.1 hm,aaR h⟩
theorem aac{H:List TObj}:∀(n k:Nat),aex H k n=true→∀l∈rng k n,iq (nth .dead H l)=true
 |0,_,_,l,hl=>by cases hl
 |n+1,k,h,l,hl=>by
  simp only[aex,qAa]at h;simp only[rng,qAh]at hl;rcases hl with rfl|hl
  ·exact h.1
  ·exact aac n (k+1) h.2 l hl
theorem qc{L:List Nat}{i l:Nat}(h:L[i]? =some l):iK L i=l:=by unfold iK;rw[eH,List.getD,h];rfl
theorem aiY{L:List Nat}{i l big:Nat}(h:L[i]? =some l):nm L big i=l:=by unfold nm;rw[h];rfl
structure Wro(ρ:List Nat)(h:List TObj)(k j:Nat)(es:List Ed)(s s':DS):Prop where
 obj:∀l hd,Ed.o l hd∈es→match hd with
  | .dead=>(∃e xs,nth .dead s.h (iK ρ l)=.own e xs∧nth .dead s'.h (iK ρ l)=.gone e xs)∨(∃e xs,nth .dead s.h (iK ρ l)=.arr e xs∧nth .dead s'.h (iK ρ l)=.gon xs.length)∨nth .dead s'.h (iK ρ l)=.dead
  | .bx is=>∀cs0,nth .dead s.h (iK ρ l)=.box cs0→∃cs1 cf,nth .dead s'.h (iK ρ l)=.box cs1∧nth .dead h l=.box cf∧(aF cs1).length=(aF cs0).length∧
    ∀q,(kZ is q=true→q<(aF cs0).length→(aF cs1)[q]? =(aF cf)[q]?)∧(kZ is q=false→(aF cs1)[q]? =(aF cs0)[q]?∧∀v,(aF cs0)[q]? =some v→av s'.h v=av s.h v)
  |_=>plainO (nth .dead h l)=true∧plainO (nth .dead s.h (iK ρ l))=true∧nth .dead s'.h (iK ρ l)=nth .dead h l
 new:∀i,i<aC es→nth .dead s'.h (k+i)=nth .dead h (j+i)
section
variable {γ:Type}{b:γ}
theorem Rv{l:Nat}{H:List TObj}(h:nth .dead H l≠ .dead):l<H.length:=by
 apply qAl;intro hn;exact h (iH (by omega))
theorem Ym{ρ:List Nat}{h:List TObj}{n:Nat}(hnd:ρ.Nodup)(hlen:ρ.length=n):∀(es:List Ed) (k j:Nat) (ss os:List Nat) (K:List TWr→Option γ),dz n ss os es=true→(∀p∈ρ,p<k∨k+aC es≤p)→Am ρ h k j es K=some b→
  ∃ws,K ws=some b∧(∀w∈ws,∃p,tgt w=some p∧((∃l hd,Ed.o l hd∈es∧p=iK ρ l)∨(k≤p∧p<k+aC es)))∧∀s s',(∀p∈ρ,p<s.h.length)→Ws s ws s'→Wro ρ h k j es s s'
 |[],k,j,ss,os,K,hw,hd,hh=>⟨[],hh,fun w hw=>(by cases hw),fun s s' _ _=>⟨fun l hd hm=>(by cases hm),fun i hi=>by simp[aC]at hi⟩⟩
 | .r c sk::es,k,j,ss,os,K,hw,hd,hh=>by
  simp only[dz,qAa]at hw;simp only[Am]at hh;obtain⟨ws,h1,h2,h3⟩:=Ym hnd hlen es k j _ _ K hw.2 hd hh;refine⟨ws,h1,fun w hm=>?_,fun s s' hin hws=>⟨fun l hd hm=>(h3 s s' hin hws).obj l hd (by simpa using hm),(h3 s s' hin hws).new⟩⟩;obtain⟨p,e1,e2⟩:=h2 w hm;exact⟨p,e1,e2.imp (fun⟨l,hd,q1,q2⟩=>⟨l,hd,qAk _ q1,q2⟩) id⟩
 | .w hd0::es,k,j,ss,os,K,hw,hd,hh=>by
  simp only[dz]at hw;simp only[Am]at hh;obtain⟨ws,h1,h2,h3⟩:=Ym hnd hlen es (k+1) (j+1) _ _ _ hw (fun p hp=>by have:=hd p hp;simp only[aC]at this;omega) hh;have hno:∀w∈ws,tgt w≠some k:=fun w hm e=>by
   obtain⟨p,e1,e2⟩:=h2 w hm;rw[e]at e1;cases e1;rcases e2 with⟨l,hd',q1,q2⟩|⟨q1,q2⟩
   ·have hl:=j4 hw q1;have:ρ[l]? =some (ρ[l]'(by omega)):=qAd _;rw[qc this]at q2;have:=hd _ (qAX (by omega:l<ρ.length));simp only[aC]at this;omega
   ·omega
  refine⟨_,h1,fun w hm=>?_,fun s s' hin hws=>?_⟩
  ·rcases qAh.1 hm with rfl|hm
   ·exact⟨k,rfl,.inr ⟨qAr _,by simp only[aC];omega⟩⟩
   ·obtain⟨p,e1,e2⟩:=h2 w hm;exact⟨p,e1,e2.imp (fun⟨l,hd,q1,q2⟩=>⟨l,hd,qAk _ q1,q2⟩) fun⟨q1,q2⟩=>by simp only[aC];omega⟩
  ·cases hws with
   |@cons _ s1 _ _ _ g1 g2=>
    have w3:=h3 s1 s' (fun p hp=>by rw[(adp g1).2];exact hin p hp) g2;have g1':=g1;obtain⟨r1,r2,r3⟩:=g1;have hk1:nth .dead s1.h k=nth .dead h j:=by
     rw[r3];refine bB ?_;apply qAl;intro hn;rw[iH (by omega)]at r1;cases r1
    have oth:∀l hd',Ed.o l hd'∈es→iK ρ l≠k:=fun l hd' hm e=>by
     have hl:=j4 hw hm;have:ρ[l]? =some (ρ[l]'(by omega)):=qAd _;rw[qc this]at e;have:=hd _ (qAX (by omega:l<ρ.length));simp only[aC]at this;omega
    refine⟨fun l hd' hm=>?_,fun i hi=>?_⟩
    ·have hm:Ed.o l hd'∈es:=by simpa using hm
     have hne:=oth l hd' hm;have e1:nth .dead s1.h (iK ρ l)=nth .dead s.h (iK ρ l):=ad4 g1' (by simp only[tgt];exact fun e=>hne (Option.some.inj e).symm);have:=w3.obj l hd' hm;cases hd' with
     |bx is=>
      intro cs0 m1;obtain⟨cs1,cf,m2,m3,m4,m5⟩:=this cs0 (by rw[e1];exact m1);refine⟨cs1,cf,m2,m3,m4,fun q=>⟨(m5 q).1,fun hq=>⟨((m5 q).2 hq).1,fun v hv=>(((m5 q).2 hq).2 v hv).trans ?_⟩⟩⟩;exact(M8 (Bb g1').1 m1 v (qAB hv)).symm
     |dead=>simp only[e1]at this;exact this
     |box cs=>simp only[e1]at this;exact this
     |own e=>simp only[e1]at this;exact this
     |mp e=>simp only[e1]at this;exact this
     |arr e=>simp only[e1]at this;exact this
    ·cases i with
     |zero=>rw[qAJ,qAJ,(Mj g2 k hno).1];exact hk1
     |succ i=>
      have:=w3.new i (by simp only[aC]at hi;omega);rwa[show k+1+i=k+(i+1)from by omega,show j+1+i=j+(i+1)from by omega]at this
 | .o l0 hd0::es,k,j,ss,os,K,hw,hd,hh=>by
  simp only[dz,qAa,qAY,sJ]at hw;have hl0:l0<n:=qAf hw.1;have get0:ρ[l0]? =some (iK ρ l0):=by
   have:ρ[l0]? =some (ρ[l0]'(by omega)):=qAd _;rw[qc this];exact this
  have apart:∀l hd',Ed.o l hd'∈es→iK ρ l≠iK ρ l0:=fun l hd' hm e=>by
   have hl:=j4 hw.2.2 hm;have qU:ρ[l]? =some (iK ρ l):=by
    have:ρ[l]? =some (ρ[l]'(by omega)):=qAd _;rw[qc this];exact this
   have:l=l0:=(qBY (by omega) hnd).1 (qU.trans (by rw[e];exact get0.symm));subst this;exact zy hw.2.2 (by simp) hm
  -- the first writes, then the rest
  have main:∀(w0:List TWr) (K':List TWr→Option γ),(∀ws,K' ws=K (w0++ws))→Am ρ h k j es K'=some b→(∀w∈w0,tgt w=some (iK ρ l0))→
    (∀s s1,(∀p∈ρ,p<s.h.length)→Ws s w0 s1→Wro ρ h k j [.o l0 hd0] s s1)→∃ws,K ws=some b∧(∀w∈ws,∃p,tgt w=some p∧((∃l hd,Ed.o l hd∈(.o l0 hd0::es)∧p=iK ρ l)∨(k≤p∧p<k+aC (.o l0 hd0::es))))∧∀s s',(∀p∈ρ,p<s.h.length)→Ws s ws s'→Wro ρ h k j (.o l0 hd0::es) s s':=fun w0 K' hK hh ht hw0=>by
   obtain⟨ws,h1,h2,h3⟩:=Ym hnd hlen es k j _ _ K' hw.2.2 hd hh;refine⟨w0++ws,by rw[←hK];exact h1,fun w hm=>?_,fun s s' hin hws=>?_⟩
   ·rcases qAA.1 hm with hm|hm
    ·exact⟨_,ht w hm,.inl ⟨l0,hd0,by simp,rfl⟩⟩
    ·obtain⟨p,e1,e2⟩:=h2 w hm;exact⟨p,e1,e2.imp (fun⟨l,hd,q1,q2⟩=>⟨l,hd,qAk _ q1,q2⟩) id⟩
   ·obtain⟨s1,g1,g2⟩:=aiE hws;have w3:=h3 s1 s' (fun p hp=>by rw[(Ma g1).2];exact hin p hp) g2;have wf:=hw0 s s1 hin g1;have hno:∀w∈ws,tgt w≠some (iK ρ l0):=fun w hm e=>by
     obtain⟨p,e1,e2⟩:=h2 w hm;rw[e]at e1;cases e1;rcases e2 with⟨l,hd',q1,q2⟩|⟨q1,q2⟩
     ·exact apart l hd' q1 q2.symm
     ·have:=hd _ (qAB get0);simp only[aC]at this;omega
    have stay:=(Mj g2 (iK ρ l0) hno).1;refine⟨fun l hd' hm=>?_,fun i hi=>w3.new i hi⟩;rcases qAh.1 hm with e|hm
    ·injection e with e1 e2;subst e1;subst e2;have:=wf.obj l hd' (by simp);cases hd' with
     |bx is=>
      intro cs0 m1;obtain⟨cs1,cf,m2,m3,m4,m5⟩:=this cs0 m1;refine⟨cs1,cf,by rw[stay];exact m2,m3,m4,fun q=>⟨(m5 q).1,fun hq=>⟨((m5 q).2 hq).1,fun v hv=>?_⟩⟩⟩;obtain⟨_,_,_,_,r4⟩:=afY g2 m2 (((m5 q).2 hq).1.trans hv) fun w hm hh=>by
       have:=hno w hm;cases w with
       |st l' off vs=>exact this (congrArg some hh.1)
       |ob l' o=>exact this (congrArg some hh)
       |kill l'=>exact this (congrArg some hh)
       |_=>exact hh
      exact r4.trans (((m5 q).2 hq).2 v hv)
     |dead=>simp only[stay]at this⊢;exact this
     |box cs=>simp only[stay]at this⊢;exact this
     |own e=>simp only[stay]at this⊢;exact this
     |mp e=>simp only[stay]at this⊢;exact this
     |arr e=>simp only[stay]at this⊢;exact this
    ·have hne:=apart l hd' hm;have e1:nth .dead s1.h (iK ρ l)=nth .dead s.h (iK ρ l):=(Mj g1 (iK ρ l) fun w hm e=>hne (by rw[ht w hm]at e;exact(Option.some.inj e).symm)).1;have:=w3.obj l hd' hm;cases hd' with
     |bx is=>
      intro cs0 m1;obtain⟨cs1,cf,m2,m3,m4,m5⟩:=this cs0 (by rw[e1];exact m1);refine⟨cs1,cf,m2,m3,m4,fun q=>⟨(m5 q).1,fun hq=>⟨((m5 q).2 hq).1,fun v hv=>(((m5 q).2 hq).2 v hv).trans ?_⟩⟩⟩;obtain⟨_,_,_,_,r4⟩:=afY g1 m1 hv fun w hm hh=>by
       have hw:=ht w hm;cases w with
       |st l' off vs=>exact hne (by rw[←hh.1];exact Option.some.inj hw)
       |ob l' o=>exact hne (by rw[←(show l'=iK ρ l from hh)];exact Option.some.inj hw)
       |kill l'=>exact hne (by rw[←(show l'=iK ρ l from hh)];exact Option.some.inj hw)
       |_=>exact hh
      exact r4
     |dead=>simp only[e1]at this;exact this
     |box cs=>simp only[e1]at this;exact this
     |own e=>simp only[e1]at this;exact this
     |mp e=>simp only[e1]at this;exact this
     |arr e=>simp only[e1]at this;exact this
  have ob1:(∀is,hd0≠ .bx is)→hd0≠ .dead→∀s s1,(∀p∈ρ,p<s.h.length)→Ws s [.ob (iK ρ l0) (nth .dead h l0)] s1→Wro ρ h k j [.o l0 hd0] s s1:=fun nb nd s s1 hin hws=>by
   cases hws with
   |cons g1 g2=>
    cases g2;obtain⟨r1,r2,r3⟩:=g1;refine⟨fun l hd' hm=>?_,fun i hi=>by simp[aC]at hi⟩;have e:=qBd.1 hm;injection e with e1 e2;subst e1;subst e2;have key:nth .dead s1.h (iK ρ l)=nth .dead h l:=by
     rw[r3];exact bB (hin _ (qAB get0))
    cases hd' with
    |bx is=>exact(nb is rfl).elim
    |dead=>exact(nd rfl).elim
    |box cs=>exact⟨r1,r2,key⟩
    |own e=>exact⟨r1,r2,key⟩
    |mp e=>exact⟨r1,r2,key⟩
    |arr e=>exact⟨r1,r2,key⟩
  have tg1:∀w:TWr,tgt w=some (iK ρ l0)→∀w'∈[w],tgt w'=some (iK ρ l0):=fun w hw w' hm=>by rw[qBd]at hm;subst hm;exact hw
  cases hd0 with
  |dead=>
   simp only[Am]at hh;refine main [.kill (iK ρ l0)] _ (fun _=>rfl) hh (tg1 _ rfl) fun s s1 hin hws=>⟨fun l hd' hm=>?_,fun i hi=>by simp[aC]at hi⟩;have e:=qBd.1 hm;injection e with e1 e2;subst e1;subst e2;cases hws with
   |cons g1 g2=>
    cases g2;rcases g1 with⟨e,xs,r1,rfl⟩|⟨e,xs,r1,rfl⟩|⟨⟨cs,r1⟩|⟨e,xs,r1⟩,rfl⟩
    ·exact .inl ⟨e,xs,r1,bB (Rv (by rw[r1];exact fun h=>by cases h))⟩
    ·exact .inr (.inl ⟨e,xs,r1,bB (Rv (by rw[r1];exact fun h=>by cases h))⟩)
    ·exact .inr (.inr (bB (Rv (by rw[r1];exact fun h=>by cases h))))
    ·exact .inr (.inr (bB (Rv (by rw[r1];exact fun h=>by cases h))))
  |bx is=>
   simp only[Am]at hh;split at hh
   ·rename_i cf hcf;obtain⟨w0,h1,h2,h3⟩:=ai6 is _ hh;refine main w0 _ (fun _=>rfl) h1 (fun w hm=>?_) fun s s1 hin hws=>⟨fun l hd' hm=>?_,fun i hi=>by simp[aC]at hi⟩
    ·obtain⟨p,c,_,rfl⟩:=h2 w hm;rfl
    ·have e:=qBd.1 hm;injection e with e1 e2;subst e1;subst e2;intro cs0 m1;obtain⟨cs1,m2,m3,m4⟩:=h3 s s1 cs0 hws m1;exact⟨cs1,cf,m2,hcf,m3,m4⟩
   ·cases hh
  |box cs=>simp only[Am]at hh;exact main _ _ (fun _=>rfl) hh (tg1 (.ob _ _) rfl) (ob1 (fun is e=>by cases e) (fun e=>by cases e))
  |own e=>simp only[Am]at hh;exact main _ _ (fun _=>rfl) hh (tg1 (.ob _ _) rfl) (ob1 (fun is e=>by cases e) (fun e=>by cases e))
  |mp e=>simp only[Am]at hh;exact main _ _ (fun _=>rfl) hh (tg1 (.ob _ _) rfl) (ob1 (fun is e=>by cases e) (fun e=>by cases e))
  |arr e=>simp only[Am]at hh;exact main _ _ (fun _=>rfl) hh (tg1 (.ob _ _) rfl) (ob1 (fun is e=>by cases e) (fun e=>by cases e))
end
end
section
open Go
def OpX(P:Program)(o:Oper)(v:Value)(s s':ASt):Prop:=
 ∀(C:Ctx) (κ:aK) (a:Act) (w:World),Sim C κ s a w→∀(next:Act→World→Prop) (Q:Exit→Act→World→Prop),(∀κ' w',Sim C κ' s' a w'→Q (.panic [{v,recovered:=false}]) a w')→o.wp P a w next Q
def zD(P:Program)(ops:Array Oper)(o:Oper)(v:Value)(s:ASt)(e:Eff):Prop:=∀t,Agree t s e→bN ops t.tmps o=some true∧OpX P o v t (t.wr e.ws)
def zf(P:Program)(f:Nat)(args:List AV)(H:List AObj)(v:Value)(H':List AObj):Prop:=
 ∀(κ:aK) (aB:cZ) (w:World) (vs:List Value),Entry κ aB H w→vs.length=args.length→(∀j,j<args.length→Rel w κ (aG aB κ H) (args.getD j .unk) (vs.getD j undef))→
  Calls P f vs.toArray w fun e w'=>∃κ',e=.panicked [{v,recovered:=false}]∧Leave κ κ' aB H H' w w'
theorem akt{P:Program}{o:Oper}{s:ASt}{fo:Operand}{args:Array Operand}{argTypes:Array TypeId}{f:Nat}{caps aargs:List AV}{ρ ks:List Nat}{H H':List AObj}{v:Value}
  (ho:o.op=.call {callee:=.value fo,args,argTypes}) (hf:aS s.tmps fo=.func f caps) (hok:ah P f=true) (hp:Passes s ρ ks H) (hH:H'.length=(ρ++ks).length)
  (hargs:SWs (args.toList.map (aS s.tmps)++caps) (aargs.map (ren (nm (ρ++ks) s.heap.length)))) (hc:zf P f aargs H v H'):
  OpX P o v s (s.wr (fI (ρ++ks) (H'.map (bO (nm (ρ++ks) s.heap.length))))):=by
 intro C κ a w hs next Q hn
 have hrf:=hs.ev fo;rw[hf]at hrf;obtain⟨cv,e1,e2,e3⟩:=hrf.BD
 let vs:List Value:=args.toList.map a.eval++cv
 have hlen:vs.length=aargs.length:=by
  have:=hargs.len
  grind
 have hrun:(execOp a.eval o).run P w=.ok (.enter f vs.toArray) w:=by
  have e4:args.map a.eval++cv.toArray=vs.toArray:=by
   grind
  simp[execOp,ho,resolve,e1,Deferred.ofValue,invoke,vg hok,e4]
 have hrel:∀j,j<aargs.length→Rel w (ρ.map (at? κ)) (aG (Dj C.aB κ s.heap ρ) (ρ.map (at? κ)) H) (aargs.getD j .unk) (vs.getD j undef):=fun j hj=>by
  rw[JK hp];have hg:(aargs.map (ren (nm (ρ++ks) s.heap.length))).getD j .unk=ren (nm (ρ++ks) s.heap.length) (aargs.getD j .unk):=by
   grind
  have:Rel w κ (aG C.aB κ s.heap) ((args.toList.map (aS s.tmps)++caps).getD j .unk) (vs.getD j undef):=by
   by_cases hlt:j<args.toList.length
   ·have x1:(args.toList.map (aS s.tmps)++caps).getD j .unk=aS s.tmps args.toList[j]:=by
     grind
    have x2:vs.getD j undef=a.eval args.toList[j]:=by
     simp only[vs];rw[List.getD,qAe (by simpa using hlt),qAD,qAd hlt];rfl
    rw[x1,x2];exact hs.ev _
   grind
  replace this:=(hargs.get j).rel this;rw[hg]at this;exact this.wh (Y0 hs hp) _ rfl
 unfold Oper.wp;rw[hrun];refine(hc _ _ _ vs (adU hs hp) hlen hrel).mono ?_;rintro e w' ⟨κ',rfl,hlv⟩;obtain⟨κc,h1,_⟩:=hs.back hp hlv hH (res:=.unk) (v:=undef) (.unk _)
 grind
theorem NQ{P:Program}{ops:Array Oper}{o:Oper}{s:ASt}{fo:Operand}{args:Array Operand}{argTypes:Array TypeId}{f:Nat}{caps aargs:List AV}{ρ ks:List Nat}{H H':List AObj}{v:Value}(hw:bN ops s.tmps o=some true)
  (ho:o.op=.call {callee:=.value fo,args,argTypes}) (hf:aS s.tmps fo=.func f caps) (hok:ah P f=true) (hp:Passes s ρ ks H) (hH:H'.length=(ρ++ks).length)
  (hargs:SWs (args.toList.map (aS s.tmps)++caps) (aargs.map (ren (nm (ρ++ks) s.heap.length)))) (hc:zf P f aargs H v H'):
  zD P ops o v s ⟨aJ ops o,ρ++ks,fI (ρ++ks) (H'.map (bO (nm (ρ++ks) s.heap.length)))⟩:=by
 intro t ht;have hop:=Cz ht.rs;have hfo:fo∈o.op.operands:=by rw[ho];simp[Op.operands,Call.operands]
 have hp':Passes t ρ ks H:=by
  refine⟨hp.nodup,hp.hlen,fun l hl=>by rw[ht.hl];exact hp.lt l hl,fun l hl=>by rw[ht.ro l (qBu _ hl)];exact hp.res l hl,fun i l hi=>?_⟩;rw[ht.ro l (qBr _ (qAB hi)),ht.hl];exact hp.obj i l hi
 have hmap:args.toList.map (aS t.tmps)=args.toList.map (aS s.tmps):=nY _ (fun x hx=>hop x (by rw[ho];simp only[Op.operands];exact qBw.2 (.inr (qBf.1 hx))));have:=akt (P:=P) (o:=o) (s:=t) ho (by rw[hop fo hfo];exact hf) hok hp' hH (by rw[hmap,ht.hl];exact hargs) hc;rw[ht.hl]at this;exact⟨by rw[nX ht.rs];exact hw,this⟩
theorem Sim.drop{C:Ctx}{κ:aK}{s:ASt}{a:Act}{w:World}(hs:Sim C κ s a w){t':List AV}{h':List AObj}(ht:t'.length=s.tmps.length)(hl:h'.length=s.heap.length)(hu:∀n,t'.getD n .unk=.unk)(ho:∀n,obj? h' n=obj? s.heap n∨obj? h' n=.dead):Sim C κ ⟨t',h'⟩ a w:=by
 have hpv:∀b o,aG C.aB κ h' b o→aG C.aB κ s.heap b o:=fun b o hp=>by
  rcases hp with hp|⟨l,h1,h2⟩
  ·exact .inl hp
  ·rcases ho l with e|e
   ·rw[e]at h2;exact .inr ⟨l,h1,h2⟩
   ·rw[e]at h2;exact h2.elim
 have hlv:∀l,live (obj? h' l)→obj? h' l=obj? s.heap l∧live (obj? s.heap l):=fun l h=>by
  rcases ho l with e|e
  ·grind
  ·rw[e]at h;exact h.elim
 refine⟨hs.defers,hs.len.trans ht.symm,fun n _=>by rw[hu n];exact .unk _,hs.klen.trans hl.symm,hs.kext,fun l h=>?_,fun l b h1 h2=>?_,fun l l' b g1 g2 g3 g4=>hs.apart l l' b g1 g2 (hlv l g3).2 (hlv l' g4).2,fun l b g1 g2=>hs.own l b g1 (hlv l g2).2,hs.bound,hs.pvold,hs.oldlt,hs.old,hs.os,hs.tape,hs.output,hs.size,fun b o hp hlt=>hs.pvsub b o (hpv b o hp) hlt,hs.evo⟩
 ·rcases ho l with e|e
  ·rw[e]at h;exact hs.resv l h
  grind
 ·obtain⟨e,h3⟩:=hlv l h2;rw[e];exact(hs.obj l b h1 h3).mono rfl (Evo.refl _ _) (bT.refl _) fun b o hp _=>hpv b o hp
end
section
open Go
def jE(v:Value):Exit:=.panic [{v,recovered:=false}]
theorem zL{P:Program}{ops:Array Oper}{Q:Exit→Act→World→Prop}{l1 l2:List Oper}{op:Oper}{s s1 s':ASt}{v:Value}(h:ASteps P ops l1 s s1)(hw:bN ops s1.tmps op=some true)(hx:OpX P op v s1 s'):
  ∀(C:Ctx) (κ:aK) (a:Act) (w:World),Sim C κ s a w→(∀κ' a' w',Sim C κ' s' a' w'→Q (jE v) a' w')→wpList P ops Q (l1++op::l2) a w:=by
 induction h with
 |nil s=>
  intro C κ a w hs hq;simp only[qAz,wpList];rw[fJ hs hw];exact .inl (hx C κ a w hs _ _ fun κ' w' hs'=>hq κ' a w' hs')
 |cons h1 _ ih=>
  intro C κ a w hs hq;simp only[qAH,wpList];rcases h1 with⟨hw1,ht⟩|⟨hw1,rfl⟩
  ·rw[fJ hs hw1];exact .inl (ht C κ a w hs _ _ fun κ' a' w' hs'=>ih hw hx C κ' a' w' hs' hq)
  ·rw[fJ hs hw1];exact ih hw hx C κ _ w (hs.aA _ gY) hq
end
section
open Go
def Ko(te:Nat)(e:Int):Value:=.iface te (.int .i64 e)
def PZ.pr{α ζ:Type}(f:α→Prop)(g:Int→ζ→Prop):PZ α ζ→Prop
 | .ok x=>f x
 | .er e z=>g e z
def RC{R:Type}:(pe:Option (List Ed))→(R→Prop)→((eds:List Ed)→Int→fU (aY eds)→Prop)→RT pe R→Prop
 |none,f,_=>f
 |some eds,f,g=>PZ.pr f (g eds)
def aj(P:Program)(te:Nat)(e:Ent):Prop:=ah P e.f=true∧Aj e=true∧∀x y,e.F x=some y→∀t h,bV bg e.ps (dG _ x) (bQ e.na) []=(t,h)→
 RC e.pe (fun y=>∀r h',bV bg e.rs (dG _ (e.out y)) (bQ e.nr) h=(r,h')→aR P e.f (aQ h t) (aD h) (av h' (res1 r)) (aD h'))
  (fun eds v z=>∀r h',bV bg eds (dG _ z) (bQ 0) h=(r,h')→zf P e.f (aQ h t) (aD h) (Ko te v) (aD h')) y
theorem RT.aqM{pe:Option (List Ed)}{R δ:Type}{f:R→Option δ}{g:(eds:List Ed)→Int→fU (aY eds)→Option δ}{r:RT pe R}{b:δ}{C1:R→Prop}{C2:(eds:List Ed)→Int→fU (aY eds)→Prop}(h:RT.el pe f g r=some b)(hc:RC pe C1 C2 r):
  (∃y,f y=some b∧C1 y)∨∃eds v z,pe=some eds∧g eds v z=some b∧C2 eds v z:=by
 cases pe with
 |none=>exact .inl ⟨r,h,hc⟩
 |some eds=>
  match r,h,hc with
  |PZ.ok y,h,hc=>exact .inl ⟨y,h,hc⟩
  |PZ.er v z,h,hc=>exact .inr ⟨eds,v,z,rfl,h,hc⟩
def ab3(G:Nat→Nat):Nat→AV→AV→Prop
 |0,a,a'=>a'=ren G a
 |1,a,a'=>SW a' (ren G a)
 |_,_,_=>True
theorem rs0{G:Nat→Nat}{cs cs':List AV}(h:Rs (ab3 G 0) cs cs'):cs'=bS G cs:=by
 induction h with
 |nil=>rfl
 |cons h _ ih=>simp only[bS];rw[ih];exact congrArg (·::_) h
theorem rs1{G:Nat→Nat}{cs cs':List AV}(h:Rs (ab3 G 1) cs cs'):SWs cs' (bS G cs):=by
 induction h with
 |nil=>exact .nil
 |cons h _ ih=>simp only[bS];exact .cons h ih
theorem anb{H Hk:List TObj}{L:Nat→Option Nat}{G:Nat→Nat}(hG:∀j l,L j=some l→G j=l)
  (look:∀j l,L j=some l→dH l (nth .dead H l)=ren G (dH j (nth .dead Hk j))∧∀z,bZ l z (nth .dead H l)=ren G (bZ j z (nth .dead Hk j))):Wk H Hk L (ab3 G):=by
 have e0:∀m a a',a'=ren G a→ab3 G m a a':=fun m a a' h=>by
  match m with
  |0=>exact h
  |1=>rw[h];exact .same _
  |_+2=>trivial
 refine⟨rfl,fun m a=>?_,fun m a a' hf hc=>?_,fun m j l o h=>e0 _ _ _ (by simp only[ren,hG j l h]),fun m j l h=>e0 _ _ _ (by simp only[ren,hG j l h]),fun m j l h=>e0 _ _ _ (look j l h).1,fun m j h=>trivial,fun m j l z h=>e0 _ _ _ ((look j l h).2 z),fun m j z h=>trivial,
  fun m cs cs' h=>e0 _ _ _ (by rw[rs0 h];rfl),fun m cs cs' h=>?_,fun m cs cs' h=>trivial,fun m cs cs' h=>e0 _ _ _ (by rw[rs0 h];rfl),fun m f cs cs' h=>trivial,fun m f cs cs' h=>e0 _ _ _ (by rw[rs0 h];rfl)⟩
 ·match m with
  |0=>exact .unk _
  |_+1=>trivial
 ·generalize hq:Nat.ble 1 m=q at hc;cases hc with
  |same=>exact e0 _ _ _ (hf G).symm
  |share es t=>
   match m with
   |0=>cases hq
   |1=>show SW _ _;rw[hf G];exact .share es t
   |_+2=>trivial
  |nilF=>
   match m with
   |0=>cases hq
   |1=>exact .nilF
   |_+2=>trivial
 ·match m with
  |0=>exact congrArg AV.agg (rs0 h)
  |1=>exact SW.agg' (rs1 h)
  |_+2=>trivial
theorem PY{o:TObj}{hd:HO}{us:List U}{cs:List TV}(h:∀is,hd≠ .bx is)(e:(aZ bg o hd us).1=.box cs):∃ss,hd=.box ss∧cs=(dY bg ss us).1:=by
 cases hd with
 |dead=>cases e
 |box ss=>exact⟨ss,rfl,(TObj.box.inj e).symm⟩
 |bx is=>exact(h is rfl).elim
 |own e'=>simp only[aZ]at e;split at e<;>cases e
 |mp e'=>simp only[aZ]at e;split at e<;>cases e
 |arr e'=>simp only[aZ]at e;split at e<;>cases e
theorem YO{np:Nat}{rs:List Ed}{j:Nat}{hd:HO}(h:Z9 np rs j hd=true):hd≠ .dead∧(∀is,hd≠ .bx is)∧∀cs,hd=.box cs→rJ np [] cs=true:=by
 cases hd with
 |dead=>cases h
 |bx is=>cases h
 |box cs=>
  simp only[Z9]at h
  grind
 |own e=>exact⟨fun e=>(by cases e),fun is e=>(by cases e),fun cs e=>by cases e⟩
 |mp e=>exact⟨fun e=>(by cases e),fun is e=>(by cases e),fun cs e=>by cases e⟩
 |arr e=>exact⟨fun e=>(by cases e),fun is e=>(by cases e),fun cs e=>by cases e⟩
theorem Wu{np:Nat}{rs:List Ed}:∀{es:List Ed} {j:Nat},Hw np rs j es=true→∀i,i<aC es→Z9 np rs (j+i) (nth .dead (kinds es) i)=true
 |[],_,_,i,hi=>by simp[aC]at hi
 | .r k s::es,j,h,i,hi=>by
  simp only[Hw,qAa]at h;exact Wu h.2 i hi
 | .o _ _::es,_,h,_,_=>by cases h
 | .w h0::es,j,h,i,hi=>by
  simp only[Hw,qAa]at h;cases i with
  |zero=>exact h.1
  |succ i=>
   have:=Wu h.2 i (by simp only[aC]at hi;omega);rw[show j+1+i=j+(i+1)from by omega]at this;exact this
theorem Dy{np:Nat}{rs:List Ed}:∀{es:List Ed} {j:Nat},Hw np rs j es=true→∀hd,Ed.w hd∈es→hd≠ .dead∧(∀is,hd≠ .bx is)∧∀cs,hd=.box cs→rJ np [] cs=true
 |[],_,_,hd,h=>by cases h
 | .r k s::es,j,h,hd,hm=>by
  simp only[Hw,qAa]at h;exact Dy h.2 hd (by simpa using hm)
 | .o _ _::es,_,h,hd,hm=>by cases h
 | .w h0::es,j,h,hd,hm=>by
  simp only[Hw,qAa]at h;rcases qAh.1 hm with e|hm
  ·injection e with e;subst e;exact YO h.1
  ·exact Dy h.2 hd hm
theorem Ng{j:Nat}{hd:HO}:∀{es:List Ed},wW j es=some hd→Ed.o j hd∈es
 |[],h=>by cases h
 | .r _ _::es,h=>qAk _ (Ng (es:=es) h)
 | .w _::es,h=>qAk _ (Ng (es:=es) h)
 | .o l h0::es,h=>by
  simp only[wW]at h;cases hb:Nat.beq l j with
  |true=>
   simp_all
  |false=>rw[hb]at h;exact qAk _ (Ng h)
theorem R9{n j:Nat}{hd:HO}:∀{es:List Ed} {ss os:List Nat},dz n ss os es=true→Ed.o j hd∈es→wW j es=some hd
 |[],_,_,_,h=>by cases h
 | .r _ _::es,ss,os,hw,hm=>by
  simp only[dz,qAa]at hw;exact R9 (es:=es) hw.2 (by simpa using hm)
 | .w _::es,ss,os,hw,hm=>by
  exact R9 (es:=es) hw (by simpa using hm)
 | .o l h0::es,ss,os,hw,hm=>by
  simp only[dz,qAa]at hw;rcases qAh.1 hm with e|hm
  ·cases e;simp only[wW,jO,cond_true]
  ·have hne:Nat.beq l j=false:=by
    cases hb:Nat.beq l j with
    |false=>rfl
    |true=>
     have:=qAc hb;subst this;exact(zy hw.2.2 (by simp) hm).elim
   simp only[wW,hne];exact R9 hw.2.2 hm
theorem aaV{n:Nat}{ds:List Nat}{A:Nat→Bool}(hA:∀l,(Nat.blt l n&&!(mem ds l))=true→A l=true)(is:List (Nat×Sk)):∀(ss:List Sk) (us:List U) (rest:List LT) (off:Nat),us.map U.t=Sk.Kr ss++rest→rJ n ds (aix is off ss)=true→
  ∀q v,(aF (dY bg ss us).1)[q]? =some v→kZ is (off+q)=false→AA A v=true
 |[],us,rest,off,_,_,q,v,hv,_=>by cases q<;>cases hv
 |s::ss,us,rest,off,hu,h,q,v,hv,hq=>by
  simp only[Sk.Kr,qAo]at hu;obtain⟨h1,h2⟩:=CO s us _ hu;simp only[aix,rJ,qAa]at h;simp only[dY,aF]at hv;by_cases hlt:q<pO s
  ·rw[qAe (by rw[yX,h2];exact hlt)]at hv;have hs:MG n ds s=true:=by
    cases hb:(Nat.beq (pO s) 1&&mem (is.flatMap fun p=>rng (p.1+1) (pO p.2)) (off+1))with
    |false=>rw[hb]at h;exact h.1
    |true=>
     simp only[qAa]at hb;have h1:=qAc hb.1;have:q=0:=by omega
     have:kZ is off=true:=hb.2
     grind
   exact LG (cs:=[(cB bg s us).1]) (by simp only[jW,qBq];exact L9 hA s us hs) v (by simp only[aF,qAs];exact qAB hv)
  ·rw[qAi (by rw[yX,h2];omega),yX,h2]at hv;exact aaV hA is ss _ rest (off+pO s) h1 h.2 _ v hv (by rw[show off+pO s+(q - pO s)=off+q from by omega];exact hq)
theorem aat{n:Nat}{ds:List Nat}{A:Nat→Bool}(hA:∀l,(Nat.blt l n&&!(mem ds l))=true→A l=true):∀(is:List (Nat×Sk)) (c:Option (List TV)) (us:List U) (rest:List LT),us.map U.t=(is.flatMap fun p=>p.2.Ep)++rest→(is.all fun p=>MG n ds p.2)=true→
  (∀cs,c=some cs→∀q v,(aF cs)[q]? =some v→kZ is q=false→AA A v=true)→∀cs,(gN bg is c us).1=some cs→rfC A cs
 |[],c,us,rest,_,_,hc,cs,h=>fun v hv=>by
  obtain⟨q,hq⟩:=qAL hv;exact hc cs h q v hq rfl
 |p::ps,c,us,rest,hu,hs,hc,cs,h=>by
  simp only[qBy,qAa]at hs;simp only[qBE,qAo]at hu;obtain⟨h1,h2⟩:=CO p.2 us _ hu;refine aat hA ps _ _ rest h1 hs.2 (fun cs1 h3 q v hv hq=>?_) cs h;cases c with
  |none=>cases h3
  |some cs0=>
   simp only[qAb]at h3;obtain⟨q1,q2⟩:=Bc h3;have hfl:(aF [(cB bg p.2 us).1]).length=pO p.2:=by simp only[aF,qAs,yX,h2]
   rw[hfl]at q1 q2;by_cases hin:p.1≤q∧q<p.1+pO p.2
   ·rw[q1,qAo,qAi (by simp only[qAx];omega),qAe (by simp only[qAx];omega)]at hv;exact LG (cs:=[(cB bg p.2 us).1]) (by simp only[jW,qBq];exact L9 hA p.2 us hs.1) v (qAB hv)
   ·refine hc cs0 rfl q v ?_ ?_
    ·rw[q1]at hv;by_cases hlt:q<p.1
     ·rw[qAo,qAe (by simp only[qAx];omega),qBm,if_pos hlt]at hv;exact hv
     ·rw[qAi (by simp only[qAg,qAx];omega),qCd]at hv;rw[←hv];congr 1;simp only[qAg,qAx];omega
    ·cases hb:kZ (p::ps) q with
     |false=>rfl
     |true=>
      rcases q9.1 hb with hb|hb
      ·exact(hin hb).elim
      ·rw[hq]at hb;cases hb
theorem X4{n:Nat}{ds:List Nat}{ks:List HO}:∀{es:List Ed},tZ n ds ks es=true→∀k s,Ed.r k s∈es→MG n ds s=true
 |[],_,k,s,h=>by cases h
 | .r k' s'::es,h,k,s,hm=>by
  simp only[tZ,qAa]at h;rcases qAh.1 hm with e|hm
  ·grind
  ·exact X4 h.2 k s hm
 | .o _ _::es,h,k,s,hm=>by
  simp only[tZ,qAa]at h;exact X4 h.2 k s (by simpa using hm)
 | .w h0::es,h,k,s,hm=>by
  simp only[tZ,qAa]at h;exact X4 h.2 k s (by simpa using hm)
theorem X7{n:Nat}{ds:List Nat}{ks:List HO}:∀{es:List Ed},tZ n ds ks es=true→∀hd,Ed.w hd∈es→ZF n ds hd=true
 |[],_,hd,h=>by cases h
 | .r k' s'::es,h,hd,hm=>by
  simp only[tZ,qAa]at h;exact X7 h.2 hd (by simpa using hm)
 | .o _ _::es,h,hd,hm=>by
  simp only[tZ,qAa]at h;exact X7 h.2 hd (by simpa using hm)
 | .w h0::es,h,hd,hm=>by
  simp only[tZ,qAa]at h;rcases qAh.1 hm with e|hm
  ·grind
  ·exact X7 h.2 hd hm
theorem KU{n:Nat}{ds:List Nat}{ks:List HO}:∀{es:List Ed},tZ n ds ks es=true→∀l hd,Ed.o l hd∈es→hd=.dead∨(ZF n ds hd=true∧aiP (nth .dead ks l)=true∧(∀e,hd≠ .own e)∧(∀e,hd≠ .arr e)∧∀is,hd=.bx is→ape (nth .dead ks l)=true)
 |[],_,l,hd,h=>by cases h
 | .r k' s'::es,h,l,hd,hm=>by
  simp only[tZ,qAa]at h;exact KU h.2 l hd (by simpa using hm)
 | .w h0::es,h,l,hd,hm=>by
  simp only[tZ,qAa]at h;exact KU h.2 l hd (by simpa using hm)
 | .o l0 h0::es,h,l,hd,hm=>by
  simp only[tZ,qAa]at h;rcases qAh.1 hm with e|hm
  ·injection e with e1 e2;subst e1;subst e2;cases hd with
   |dead=>exact .inl rfl
   |own e=>cases h.1
   |arr e=>cases h.1
   |box cs=>have:=h.1;simp at this;exact .inr ⟨this.1,this.2,fun e q=>(by cases q),fun e q=>(by cases q),fun is q=>(by cases q)⟩
   |bx is=>
    have:=h.1;simp at this;exact .inr ⟨this.1,(by have h2:=this.2;cases hk:nth HO.dead ks l<;>rw[hk]at h2<;>first|rfl|cases h2),fun e q=>(by cases q),fun e q=>(by cases q),fun is q=>this.2⟩
   |mp e=>have:=h.1;simp at this;exact .inr ⟨this.1,this.2,fun e q=>(by cases q),fun e q=>(by cases q),fun is q=>(by cases q)⟩
  ·exact KU h.2 l hd hm
theorem FM{l:Nat}:∀{es:List Ed},Ed.o l .dead∈es→l∈killed es
 |[],h=>by cases h
 | .r k' s'::es,h=>FM (es:=es) (by simpa using h)
 | .w h0::es,h=>FM (es:=es) (by simpa using h)
 | .o l0 h0::es,h=>by
  simp only[killed,qAA];rcases qAh.1 h with e|h
  ·grind
  ·exact .inr (FM h)
mutual
theorem Z7{A:Nat→Bool}{l:Nat}:∀v:TV,ab1 l v=true→AA A v=true→A l=true
 | .own l',h,k=>by have:=qAc h;subst this;exact k
 | .psl l' _ _,h,k=>by have:=qAc h;subst this;exact k
 | .eptr cs,h,k=>GV cs h k
 | .agg cs,h,k=>GV cs h k
 | .tup cs,h,k=>GV cs h k
 | .func _ cs,h,k=>GV cs h k
 | .unk,h,_=>by cases h
 | .nilp,h,_=>by cases h
 | .nilF,h,_=>by cases h
 | .nils,h,_=>by cases h
 | .lf _ _,h,_=>by cases h
 | .nat _,h,_=>by cases h
 | .ptr _ _,h,_=>by cases h
 | .mapr _,h,_=>by cases h
theorem GV{A:Nat→Bool}{l:Nat}:∀vs:List TV,iD l vs=true→jW A vs=true→A l=true
 |[],h,_=>by cases h
 |v::vs,h,k=>by
  simp only[iD,qBb]at h;simp only[jW,qAa]at k;exact h.elim (fun h=>Z7 v h k.1) fun h=>GV vs h k.2
end
end
end Abs
end Go.Proofs.YtbijdmihdagfaaaGreatDoor
