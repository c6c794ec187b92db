/-
  Renaming of typed values; what shapes are filled in as under other names. Conditions: none; lemmas.
-/
import Derived.Test.YtneeginmfjageaaGreatCD11oxe70298
set_option linter.unusedSimpArgs false
set_option linter.unusedVariables false
namespace Go.Proofs.YtneeginmfjageaaGreat
namespace Abs
section
open Go
noncomputable section
mutual
def eO(g:Nat→Nat):TV→TV
 | .ptr l o=>.ptr (g l) o
 | .mapr l=>.mapr (g l)
 | .ap l i z o=>.ap (g l) i z o
 | .own l=>.own (g l)
 | .psl l z c=>.psl (g l) z c
 | .eptr cs=>.eptr (Ch g cs)
 | .agg cs=>.agg (Ch g cs)
 | .tup cs=>.tup (Ch g cs)
 | .func f cs=>.func f (Ch g cs)
 | .unk=>.unk | .nilp=>.nilp | .nilF=>.nilF | .nils=>.nils | .lf t x=>.lf t x | .nat n=>.nat n
def Ch(g:Nat→Nat):List TV→List TV
 | []=>[]
 | v::vs=>eO g v::Ch g vs
end
theorem EY g:∀vs,Ch g vs=vs.map (eO g)
 | []=>rfl
 | v::vs=>by simp only[Ch,qAu,EY g vs]
def jv(g:Nat→Nat):TObj→TObj
 | .box cs=>.box (cs.map (eO g))
 | o=>o
theorem agt g v:width (eO g v)=width v:=by cases v<;>rfl
theorem asw{g}{v}{e}{x:e.D}(h:eO g v=.lf (.t e) x):v=.lf (.t e) x:=by cases v<;>first | exact h | cases h
theorem aBQ g {l:List U}:(l.map fun u=>TV.lf u.t u.x).map (eO g)=l.map fun u=>TV.lf u.t u.x:=by rw[qBh];rfl
theorem at7 g e x:(comps e x).map (eO g)=comps e x:=aBQ g
theorem atx g v:Qh (eO g v)=(Qh v).map (eO g):=by
 rcases qZ v with h | ⟨e,x,rfl⟩
 ·have h':one (eO g v):=VE fun e x q=>by
   rw[asw q] at h;have:=uJ h;cases e<;>cases this
  rw[uJ h,uJ h'];rfl
 ·cases e<;>rfl
theorem Wm g:∀vs:List TV,aF (vs.map (eO g))=(aF vs).map (eO g)
 | []=>rfl
 | v::vs=>by simp only[qAu,aF,atx,Wm g vs,qAY]
section
variable {γ:Type}
theorem Nb g:∀f cs n (K:List TV→List TV→Option γ),splitK f (cs.map (eO g)) n K=splitK f cs n fun a r=>K (a.map (eO g)) (r.map (eO g))
 | 0,_,_,_=>rfl
 | f+1,cs,n,K=>by
  cases n with
  | zero=>rfl
  | succ m=>
   cases cs with
   | nil=>rfl
   | cons c r=>
    have e1:=Nb g f r (m+1 - width c) fun a b=>K (eO g c::a) b;simp only[qAu,splitK,agt];rw[e1];cases Nat.ble (width c) (m+1) with
    | true=>rfl
    | false=>
     cases c with
     | lf t x=>
      cases t with
      | t e=>
       have:=Nb g f (comps e x++r) (m+1) K;rw[qAY,at7] at this;exact this
      | _=>rfl
     | _=>rfl
theorem ayO g cs vs off:tX (cs.map (eO g)) off (vs.map (eO g)) some=(tX cs off vs some).map (List.map (eO g)):=by
 have hw:widths (vs.map (eO g))=widths vs:=by
  induction vs with
  | nil=>rfl
  | cons v vs ih=>simp only[qAu,widths,agt,ih]
 have mp:∀(f:Nat) (cs:List TV) (n:Nat) (K:List TV→List TV→Option (List TV)),(splitK f cs n K).map (List.map (eO g))=splitK f cs n fun a b=>(K a b).map (List.map (eO g)):=fun f=>by
  induction f with
  | zero=>intro cs n K;rfl
  | succ f ih=>
   intro cs n K;cases n with
   | zero=>rfl
   | succ m=>
    cases cs with
    | nil=>rfl
    | cons c r=>
     simp only[splitK];cases Nat.ble (width c) (m+1) with
     | true=>simp only[cond_true];exact ih _ _ _
     | false=>
      split
      ·grind
      ·rfl
 unfold tX;rw[Nb,mp,hw];congr 1;funext a b;rw[Nb,mp]
 grind
end
mutual
theorem Ze(g):∀s us,dP g s us=(eO g (dP bI s us).1,(dP bI s us).2)
 | .unk,_=>rfl
 | .nilp,_=>rfl
 | .nilF,_=>rfl
 | .k _,_=>rfl
 | .nils,_=>rfl
 | .lf _,us=>by cases us<;>rfl
 | .ptr _ _,_=>rfl
 | .eptr cs,us=>by simp only[dP,BR g cs us,eO,EY]
 | .agg cs,us=>by simp only[dP,BR g cs us,eO,EY]
 | .tup cs,us=>by simp only[dP,BR g cs us,eO,EY]
 | .func _ cs,us=>by simp only[dP,BR g cs us,eO,EY]
 | .mapr _,_=>rfl
 | .own _,_=>rfl
 | .psl _ _,_=>rfl
theorem BR(g:Nat→Nat):∀(ss:List Sk) (us:List U),fJ g ss us=((fJ bI ss us).1.map (eO g),(fJ bI ss us).2)
 | [],_=>rfl
 | s::ss,us=>by simp only[fJ,Ze g s us,BR g ss,qAu]
end
theorem VU g:∀ps c us,jl g ps (c.map (List.map (eO g))) us=((jl bI ps c us).1.map (List.map (eO g)),(jl bI ps c us).2)
 | [],_,_=>rfl
 | p::ps,c,us=>by
  have key:(c.map (List.map (eO g))).bind (fun cs=>tX cs p.1 [eO g (dP bI p.2 us).1] some)=(c.bind fun cs=>tX cs p.1 [(dP bI p.2 us).1] some).map (List.map (eO g)):=by
   cases c with
   | none=>rfl
   | some cs=>
    have:=ayO g cs [(dP bI p.2 us).1] p.1
    grind
  have ih:=VU g ps (c.bind fun cs=>tX cs p.1 [(dP bI p.2 us).1] some) (dP bI p.2 us).2;unfold jl;rw[Ze g p.2 us]
  grind
theorem ae3 g o h us:bF g (jv g o) h us=(jv g (bF bI o h us).1,(bF bI o h us).2):=by
 cases h with
 | dead=>rfl
 | box cs=>simp only[bF,BR g cs us,jv]
 | bx l=>
  have none':=VU g l none us;simp at none';cases o with
  | box cs=>
   have:=VU g l (some cs) us;simp only[jv,bF]
   grind
  | _=>simp only[jv,bF,none']
 | own e=>
  cases us with
  | nil=>rfl
  | cons u us=>obtain⟨t,x⟩:=u;cases t<;>rfl
 | mp e=>
  cases us with
  | nil=>rfl
  | cons u us=>obtain⟨t,x⟩:=u;cases t<;>rfl
 | arr e=>
  cases us with
  | nil=>rfl
  | cons u us=>obtain⟨t,x⟩:=u;cases t<;>rfl
theorem Uv{α β}{d}{d'}(f:α→β)(hd:f d=d') l n:nth d' (l.map f) n=f (nth d l n):=by
 rw[iD,iD];simp;cases l[n]?<;>simp[hd]
theorem OD g:∀es us t h,dB g es us (t.map (eO g)) (h.map (jv g))=((dB bI es us t h).1.map (eO g),(dB bI es us t h).2.map (jv g))
 | [],_,_,_=>rfl
 | .r n s::es,us,t,h=>by simp only[dB,Ze g s us,←qCW,OD g es]
 | .o l s::es,us,t,h=>by
  have ih:=OD g es (bF bI (nth .dead h l) s us).2 t (h.set l (bF bI (nth .dead h l) s us).1);have e1:nth .dead (h.map (jv g)) l=jv g (nth .dead h l):=Uv (d:=.dead) (d':=.dead) (jv g) rfl h l;unfold dB;rw[e1,ae3 g]
  simp_all
 | .w s::es,us,t,h=>by
  have ih:=OD g es (bF bI .dead s us).2 t (h++[(bF bI .dead s us).1]);have e1:bF g .dead s us=(jv g (bF bI .dead s us).1,(bF bI .dead s us).2):=ae3 g .dead s us;unfold dB
  grind
mutual
def Ic(A:Nat→Bool):TV→Bool
 | .ptr l _=>A l
 | .mapr l=>A l
 | .ap l _ _ _=>A l
 | .own l=>A l
 | .psl l _ _=>A l
 | .eptr cs=>mR A cs
 | .agg cs=>mR A cs
 | .tup cs=>mR A cs
 | .func _ cs=>mR A cs
 | .unk=>true | .nilp=>true | .nilF=>true | .nils=>true | .lf _ _=>true | .nat _=>true
def mR(A:Nat→Bool):List TV→Bool
 | []=>true
 | v::vs=>Ic A v&&mR A vs
end
theorem aoH{A}:∀{vs:List TV},mR A vs=true↔∀v∈vs,Ic A v=true
 | []=>by simp[mR]
 | v::vs=>by simp only[mR,qAa,aoH,qAg,forall_eq_or_imp]
theorem axS A e x:∀v∈J8 e x,Ic A v=true:=by
 intro v hv;cases e<;>simp only[J8,qAg] at hv<;>(repeat' (rcases hv with rfl | hv))<;>first | rfl | (subst hv;rfl)
def rfC A cs:=∀v∈aF cs,Ic A v=true
theorem SX{A}:∀{cs:List TV},mR A cs=true→rfC A cs
 | [],_=>fun v h=>by cases h
 | c::cs,h=>by
  simp only[mR,qAa] at h;intro v hv;simp only[aF,qAn] at hv;rcases hv with hv | hv
  ·rcases qZ c with ho | ⟨e,y,rfl⟩
   ·rw[uJ ho,qBc] at hv;subst hv;exact h.1
   ·exact axS A e y v hv
  ·exact SX h.2 v hv
def rfO A(o:TObj):=∀cs,o=.box cs→rfC A cs
mutual
theorem TJ{n:Nat}{ds:List Nat}{A:Nat→Bool}(hA:∀l,(Nat.blt l n&&!(mem ds l))=true→A l=true):∀s us,VG n ds s=true→Ic A (dP bI s us).1=true
 | .unk,_,_=>rfl
 | .nilp,_,_=>rfl
 | .nilF,_,_=>rfl
 | .k _,_,_=>rfl
 | .nils,_,_=>rfl
 | .lf _,us,_=>by cases us<;>rfl
 | .ptr l _,_,h=>hA l h
 | .eptr cs,us,h=>AY hA cs us h
 | .agg cs,us,h=>AY hA cs us h
 | .tup cs,us,h=>AY hA cs us h
 | .func _ cs,us,h=>AY hA cs us h
 | .mapr l,_,h=>hA l h
 | .own l,_,h=>hA l h
 | .psl l _,_,h=>hA l h
theorem AY{n:Nat}{ds:List Nat}{A:Nat→Bool}(hA:∀l,(Nat.blt l n&&!(mem ds l))=true→A l=true):∀(ss:List Sk) (us:List U),yw n ds ss=true→mR A (fJ bI ss us).1=true
 | [],_,_=>rfl
 | s::ss,us,h=>by
  simp only[yw,qAa] at h;simp only[fJ,mR,qAa];exact⟨TJ hA s us h.1,AY hA ss _ h.2⟩
end
theorem amY{n}{ds}{A}(hA:∀l,(Nat.blt l n&&!(mem ds l))=true→A l=true):∀is c us,(is.all fun p=>VG n ds p.2)=true→(∀cs,c=some cs→rfC A cs)→∀cs,(jl bI is c us).1=some cs→rfC A cs
 | [],c,us,_,hc,cs,h=>hc cs h
 | p::ps,c,us,hs,hc,cs,h=>by
  simp only[qBK,qAa] at hs;refine amY hA ps _ _ hs.2 (fun cs1 h1=>?_) cs h;cases c with
  | none=>cases h1
  | some cs0=>
   obtain⟨q1,_⟩:=Jb h1;intro v hv;rw[q1] at hv;simp only[qAn] at hv;rcases hv with(hv | hv) | hv
   ·exact hc cs0 rfl v (qDM hv)
   ·exact SX (cs:=[(dP bI p.2 us).1]) (by simp only[mR,qBM];exact TJ hA p.2 us hs.1) v hv
   ·exact hc cs0 rfl v (List.mem_of_mem_drop hv)
theorem apQ{n}{ds}{A}(hA:∀l,(Nat.blt l n&&!(mem ds l))=true→A l=true) o hd us (h:ah8 n ds hd=true)(ho:rfO A o):rfO A (bF bI o hd us).1:=by
 intro cs hc;cases hd with
 | dead=>cases hc
 | box ss=>cases hc;exact SX (AY hA ss us h)
 | bx is=>
  cases o with
  | box cs0=>
   simp only[bF] at hc;cases hq:(jl bI is (some cs0) us).1 with
   | none=>rw[hq] at hc;cases hc
   | some cs1=>
    rw[hq] at hc;cases hc;exact amY hA is _ us h (fun cs2 h2=>by cases h2;exact ho cs0 rfl) cs hq
  | _=>cases hc
 | own e=>
  cases us with
  | nil=>cases hc
  | cons u us=>obtain⟨t,x⟩:=u;cases t<;>cases hc
 | mp e=>
  cases us with
  | nil=>cases hc
  | cons u us=>obtain⟨t,x⟩:=u;cases t<;>cases hc
 | arr e=>
  cases us with
  | nil=>cases hc
  | cons u us=>obtain⟨t,x⟩:=u;cases t<;>cases hc
theorem aqR o hd us (h:(match hd with | .own _=>false | .arr _=>false | _=>true)=true):plainO (bF bI o hd us).1=true:=by
 cases hd with
 | dead=>rfl
 | box ss=>rfl
 | bx is=>
  cases o with
  | box cs0=>simp only[bF];cases(jl bI is (some cs0) us).1<;>rfl
  | _=>rfl
 | own e=>cases h
 | mp e=>
  cases us with
  | nil=>rfl
  | cons u us=>obtain⟨t,x⟩:=u;cases t<;>rfl
 | arr e=>cases h
theorem IC:∀ts x,(dU ts x).map U.t=ts
 | [],_=>rfl
 | [t],_=>rfl
 | t::u::ts,x=>by simp only[dU,qAu];rw[IC (u::ts) x.2]
mutual
theorem KU:∀s us rest,us.map U.t=s.Mr++rest→(dP bI s us).2.map U.t=rest∧width (dP bI s us).1=wu s
 | .unk,us,rest,h=>⟨h,rfl⟩
 | .nilp,us,rest,h=>⟨h,rfl⟩
 | .nilF,us,rest,h=>⟨h,rfl⟩
 | .k c,us,rest,h=>⟨h,CU.width c⟩
 | .nils,us,rest,h=>⟨h,rfl⟩
 | .lf t,us,rest,h=>by
  cases us with
  | nil=>cases h
  | cons u us=>
   simp only[Sk.Mr,qAu,qAM,qAt,List.cons.injEq] at h;obtain⟨t',x⟩:=u;obtain⟨h1,h2⟩:=h;simp only at h1;subst h1;exact⟨h2,by cases t'<;>rfl⟩
 | .ptr _ _,us,rest,h=>⟨h,rfl⟩
 | .eptr cs,us,rest,h=>⟨Cm cs us rest h,rfl⟩
 | .agg cs,us,rest,h=>⟨Cm cs us rest h,rfl⟩
 | .tup cs,us,rest,h=>⟨Cm cs us rest h,rfl⟩
 | .func _ cs,us,rest,h=>⟨Cm cs us rest h,rfl⟩
 | .mapr _,us,rest,h=>⟨h,rfl⟩
 | .own _,us,rest,h=>⟨h,rfl⟩
 | .psl _ _,us,rest,h=>⟨h,rfl⟩
theorem Cm:∀(ss:List Sk) (us:List U) (rest:List LT),us.map U.t=Sk.Rt ss++rest→(fJ bI ss us).2.map U.t=rest
 | [],us,rest,h=>h
 | s::ss,us,rest,h=>by
  simp only[Sk.Rt,qAo] at h;exact Cm ss _ rest (KU s us _ h).1
end
theorem MI:∀is c us rest,us.map U.t=(is.flatMap fun p=>p.2.Mr)++rest→(jl bI is c us).2.map U.t=rest∧
  ∀cs cf,c=some cs→(jl bI is c us).1=some cf→(aF cf).length=(aF cs).length∧∀q,pQ is q=false→(aF cf)[q]? =(aF cs)[q]?
 | [],c,us,rest,h=>⟨h,fun cs cf h1 h2=>by
  rw[h1] at h2;cases h2;exact⟨rfl,fun _ _=>rfl⟩⟩
 | p::ps,c,us,rest,h=>by
  simp only[qBb,qAo] at h;obtain⟨h1,h2⟩:=KU p.2 us _ h;have ih:=MI ps (c.bind fun cs=>tX cs p.1 [(dP bI p.2 us).1] some) _ rest h1;refine⟨ih.1,fun cs cf hc hf=>?_⟩;subst hc;simp only[qAb] at ih;simp only[jl,qAb] at hf;cases hq:tX cs p.1 [(dP bI p.2 us).1] some with
  | none=>
   rw[hq] at hf;have nn:∀(l:List (Nat×Sk)) (us:List U),(jl bI l none us).1=none:=fun l=>by
    induction l with
    | nil=>intro us;rfl
    | cons p l ih=>intro us;simp only[jl,Option.bind_none];exact ih _
   grind
  | some cs1=>
   rw[hq] at ih hf;obtain⟨g1,g2⟩:=ih.2 cs1 cf rfl hf;obtain⟨q1,q2⟩:=Jb hq;have hw:(aF [(dP bI p.2 us).1]).length=wu p.2:=by rw[nN];simp only[widths,h2,qAP]
   refine⟨by rw[g1,q1];simp only[qAf,qAB,qCJ];omega,fun q hq=>?_⟩;have hps:pQ ps q=false:=by
    cases hps:pQ ps q with
    | false=>rfl
    | true=>rw[yS.2 (.inr hps)] at hq;cases hq
   have hout:¬(p.1≤q∧q<p.1+wu p.2):=fun hh=>by rw[yS.2 (.inl hh)] at hq;cases hq
   rw[g2 q hps,q1];by_cases hlt:q<p.1
   ·rw[qAo,qAi (by simp only[qAB];omega),qBt,if_pos hlt]
   grind
theorem afN o hd us rest (h:us.map U.t=hd.Mr++rest):(bF bI o hd us).2.map U.t=rest:=by
 cases hd with
 | dead=>exact h
 | box cs=>exact Cm cs us rest h
 | bx is=>cases o<;>exact(MI is _ us rest h).1
 | own e=>
  cases us with
  | nil=>cases h
  | cons u us=>
   simp only[HO.Mr,qAu,qAM,List.cons.injEq] at h;obtain⟨t',x⟩:=u;obtain⟨h1,h2⟩:=h;subst h1;exact h2
 | mp e=>
  cases us with
  | nil=>cases h
  | cons u us=>
   simp only[HO.Mr,qAu,qAM,List.cons.injEq] at h;obtain⟨t',x⟩:=u;obtain⟨h1,h2⟩:=h;subst h1;exact h2
 | arr e=>
  cases us with
  | nil=>cases h
  | cons u us=>
   simp only[HO.Mr,qAu,qAM,List.cons.injEq] at h;obtain⟨t',x⟩:=u;obtain⟨h1,h2⟩:=h;subst h1;exact h2
structure Bld(es:List Ed)(j:Nat)(T:List TV)(h:List TObj)(T1:List TV)(h1:List TObj):Prop where
 tl:T1.length=T.length
 hl:h1.length=j+aC es
 slot:∀k,nth .unk T1 k=nth .unk T k∨∃s us,Ed.r k s∈es∧nth .unk T1 k=(dP bI s us).1
 keepO:∀l,l<j→(∀hd,Ed.o l hd∉es)→nth .dead h1 l=nth .dead h l
 obj:∀l hd,Ed.o l hd∈es→∃us rest,us.map U.t=hd.Mr++rest∧nth .dead h1 l=(bF bI (nth .dead h l) hd us).1
 new:∀i,i<aC es→∃hd us,Ed.w hd∈es∧nth .dead h1 (j+i)=(bF bI .dead hd us).1
 newK:∀i,i<aC es→∃us rest,us.map U.t=(nth .dead (kinds es) i).Mr++rest∧nth .dead h1 (j+i)=(bF bI .dead (nth .dead (kinds es) i) us).1
theorem rW{n}:∀es us j ss os T h rest,us.map U.t=bD es++rest→dZ n ss os es=true→n≤j→h.length=j→Bld es j T h (dB bI es us T h).1 (dB bI es us T h).2
 | [],us,j,ss,os,T,h,rest,hu,hw,hn,hl=>⟨rfl,hl,fun _=>.inl rfl,fun _ _ _=>rfl,fun l hd hm=>(by cases hm),fun i hi=>by simp[aC] at hi,fun i hi=>by simp[aC] at hi⟩
 | .r k s::es,us,j,ss,os,T,h,rest,hu,hw,hn,hl=>by
  simp only[bD,qAo] at hu;simp only[dZ,qAa] at hw;have g:=rW es (dP bI s us).2 j _ _ (T.set k (dP bI s us).1) h rest (KU s us _ hu).1 hw.2 hn hl;refine⟨by rw[dB,g.tl,qAU],g.hl,fun k'=>?_,fun l hlt hno=>g.keepO l hlt fun hd hm=>hno hd (qAl _ hm),fun l hd hm=>g.obj l hd (by simpa using hm),fun i hi=>?_,fun i hi=>g.newK i hi⟩
  ·rcases g.slot k' with e | ⟨s',us',e1,e2⟩
   ·by_cases hk:k=k'
    ·subst hk;by_cases hlt:k<T.length
     ·exact .inr ⟨s,us,by simp,by rw[dB,e,bL hlt]⟩
     ·exact .inl (by rw[dB,e,qBQ (by omega)])
    ·exact .inl (by rw[dB,e,aS hk])
   ·exact .inr ⟨s',us',qAl _ e1,e2⟩
  ·obtain⟨hd,us',e1,e2⟩:=g.new i hi;exact⟨hd,us',qAl _ e1,e2⟩
 | .o l hd::es,us,j,ss,os,T,h,rest,hu,hw,hn,hl=>by
  simp only[bD,qAo] at hu;simp only[dZ,qAa,qAF,zo] at hw;have hln:l<n:=qAe hw.1;have hno:∀hd',Ed.o l hd'∉es:=fun hd'=>F5 hw.2.2 (by simp);have g:=rW es (bF bI (nth .dead h l) hd us).2 j _ _ T (h.set l (bF bI (nth .dead h l) hd us).1) rest (afN _ hd us _ hu) hw.2.2 hn (by rw[qAU];exact hl);refine⟨g.tl,g.hl,fun k'=>?_,fun l' hlt hn'=>?_,fun l' hd' hm=>?_,fun i hi=>?_,fun i hi=>g.newK i hi⟩
  ·rcases g.slot k' with e | ⟨s',us',e1,e2⟩
   ·exact .inl e
   ·exact .inr ⟨s',us',qAl _ e1,e2⟩
  ·have hne:l≠l':=fun e=>hn' hd (by subst e;simp);rw[dB,g.keepO l' hlt fun hd' hm=>hn' hd' (qAl _ hm),aS hne]
  ·rcases qAg.1 hm with e | hm
   ·cases e;exact⟨us,_,hu,by rw[dB,g.keepO l (by omega) hno,bL (by omega)]⟩
   ·have hne:l≠l':=fun e=>by subst e;exact hno hd' hm
    have:=g.obj l' hd' hm;rw[aS hne] at this;exact this
  ·obtain⟨hd,us',e1,e2⟩:=g.new i hi;exact⟨hd,us',qAl _ e1,e2⟩
 | .w hd::es,us,j,ss,os,T,h,rest,hu,hw,hn,hl=>by
  simp only[bD,qAo] at hu;simp only[dZ] at hw;have g:=rW es (bF bI .dead hd us).2 (j+1) _ _ T (h++[(bF bI .dead hd us).1]) rest (afN _ hd us _ hu) hw (by omega) (by simp[hl]);refine⟨g.tl,by rw[dB,g.hl];simp only[aC];omega,fun k'=>?_,fun l' hlt hn'=>?_,fun l' hd' hm=>?_,fun i hi=>?_,fun i hi=>?_⟩
  ·rcases g.slot k' with e | ⟨s',us',e1,e2⟩
   ·exact .inl e
   ·exact .inr ⟨s',us',qAl _ e1,e2⟩
  ·rw[dB,g.keepO l' (by omega) fun hd' hm=>hn' hd' (qAl _ hm),pJ (by omega)]
  ·have hm:Ed.o l' hd'∈es:=by simpa using hm
   have hlt:=nM hw hm;have:=g.obj l' hd' hm;rw[pJ (by omega)] at this;exact this
  ·cases i with
   | zero=>
    refine⟨hd,us,by simp,?_⟩;rw[dB,qAP,g.keepO j (by omega) fun hd' hm=>(by have:=nM hw hm;omega),U3 hl]
   | succ i=>
    obtain⟨hd',us',e1,e2⟩:=g.new i (by simp only[aC] at hi;omega);rw[show j+1+i=j+(i+1) from by omega] at e2;exact⟨hd',us',qAl _ e1,e2⟩
  ·cases i with
   | zero=>
    refine⟨us,_,hu,?_⟩;rw[dB,qAP,g.keepO j (by omega) fun hd' hm=>(by have:=nM hw hm;omega),U3 hl];rfl
   | succ i=>
    obtain⟨us',rest',e1,e2⟩:=g.newK i (by simp only[aC] at hi;omega);rw[show j+1+i=j+(i+1) from by omega] at e2;exact⟨us',rest',e1,e2⟩
end
end
section
open Go
structure Lks(g G:Nat→Nat)(A:Nat→Bool)(Hc Hk:List TObj):Prop where
 eq:∀j,A j=true→G j=g j
 own:∀j,A j=true→eP (g j) (nth .dead Hc (g j))=ren G (eP j (nth .dead Hk j))
 psl:∀j z,A j=true→dO (g j) z (nth .dead Hc (g j))=ren G (dO j z (nth .dead Hk j))
section
variable {g G:Nat→Nat}{A:Nat→Bool}{Hc Hk:List TObj}
mutual
theorem Nv(hl:Lks g G A Hc Hk):∀v,Ic A v=true→av Hc (eO g v)=ren G (av Hk v)
 | .unk,_=>rfl
 | .nilp,_=>rfl
 | .nilF,_=>rfl
 | .nils,_=>rfl
 | .lf t x,_=>(Jf G t x).symm
 | .nat _,_=>rfl
 | .ptr l o,h=>by simp only[eO,av,ren,hl.eq l h]
 | .mapr l,h=>by simp only[eO,av,ren,hl.eq l h]
 | .ap l _ _ _,h=>by simp only[eO,av,ren,hl.eq l h]
 | .own l,h=>hl.own l h
 | .psl l z c,h=>by
  cases c with
  | none=>exact hl.psl l z h
  | some k=>simp only[eO,av,ren,hl.eq l h]
 | .eptr cs,h=>by simp only[eO,av,ren,abb hl cs h]
 | .agg cs,h=>by simp only[eO,av,ren,abb hl cs h]
 | .tup cs,h=>by simp only[eO,av,ren,aht hl cs h]
 | .func f cs,h=>by simp only[eO,av,ren,aht hl cs h]
theorem abb(hl:Lks g G A Hc Hk):∀vs,mR A vs=true→aU Hc (Ch g vs)=dG G (aU Hk vs)
 | [],_=>rfl
 | v::vs,h=>by
  simp only[mR,qAa] at h;have h1:=Nv hl v h.1;simp only[Ch,aU,ay8,abb hl vs h.2];congr 1;rcases qZ v with ho | ⟨e,x,rfl⟩
  ·have ho':one (eO g v):=VE fun e x q=>by
    rw[asw q] at ho;have:=uJ ho;simp only[Qh] at this;cases e<;>cases this
   rw[ho,ho',h1];rfl
  ·exact(aaC e G x).symm
theorem aht(hl:Lks g G A Hc Hk):∀vs,mR A vs=true→aR Hc (Ch g vs)=dG G (aR Hk vs)
 | [],_=>rfl
 | v::vs,h=>by
  simp only[mR,qAa] at h;simp only[Ch,aR,dG,Nv hl v h.1,aht hl vs h.2]
end
theorem uO{H}{vs}:aU H vs=(aF vs).map (av H):=(aep H vs).symm
theorem aCd(hl:Lks g G A Hc Hk){cs}(h:rfC A cs):aU Hc (cs.map (eO g))=dG G (aU Hk cs):=by
 rw[uO,uO,Wm,qBh,sU,qBh];exact qBo fun v hv=>Nv hl v (h v hv)
theorem asI(hl:Lks g G A Hc Hk){o}(h:rfO A o):fC Hc (jv g o)=dK G (fC Hk o):=by
 cases o with
 | box cs=>simp only[jv,fC,dK,aCd hl (h cs rfl)]
 | mp e xs=>simp only[jv,fC,dK,Nk]
 | arr e xs=>simp only[jv,fC,dK,l9]
 | _=>rfl
theorem avd{g G}{j} o (h:G j=g j):eP (g j) (jv g o)=ren G (eP j o)∧∀z,dO (g j) z (jv g o)=ren G (dO j z o):=by
 cases o<;>refine⟨?_,fun z=>?_⟩<;>simp only[jv,eP,dO,ren,pG,l9,h]
end
def tgt:TWr→Option Nat
 | .sl _ _=>none
 | .ob l _=>some l
 | .st l _ _=>some l
 | .kill l=>some l
 | .nw l _=>some l
 | .up l _ _ _=>some l
theorem TW{s s'}{w}(h:W1 s w s')(hs:tgt w≠none):s'.t=s.t∧s'.h.length=s.h.length:=by
 cases w with
 | sl n v=>exact(hs rfl).elim
 | ob l o=>obtain⟨_,_,rfl⟩:=h;exact⟨rfl,by simp⟩
 | st l off vs=>obtain⟨cs,cs',_,_,rfl⟩:=h;exact⟨rfl,by simp⟩
 | kill l=>rcases h with⟨e,xs,_,rfl⟩ | ⟨e,xs,_,rfl⟩ | ⟨_,rfl⟩<;>exact⟨rfl,by simp⟩
 | nw l o=>obtain⟨_,_,rfl⟩:=h;exact⟨rfl,by simp⟩
 | up l i e y=>obtain⟨_,_,rfl⟩:=h;exact⟨rfl,by simp⟩
theorem aoR{s s'}{w}(h:W1 s w s'):s'.t.length=s.t.length∧s'.h.length=s.h.length:=by
 cases w with
 | sl n v=>obtain⟨_,e⟩:=h;subst e;exact⟨by simp,rfl⟩
 | ob l o=>have:=TW h (by simp[tgt]);exact⟨by rw[this.1],this.2⟩
 | st l off vs=>have:=TW h (by simp[tgt]);exact⟨by rw[this.1],this.2⟩
 | kill l=>have:=TW h (by simp[tgt]);exact⟨by rw[this.1],this.2⟩
 | nw l o=>have:=TW h (by simp[tgt]);exact⟨by rw[this.1],this.2⟩
 | up l i e y=>have:=TW h (by simp[tgt]);exact⟨by rw[this.1],this.2⟩
theorem Tg{s s'}{ws}(h:Ws s ws s'):s'.t.length=s.t.length∧s'.h.length=s.h.length:=by
 induction h with
 | nil s=>exact⟨rfl,rfl⟩
 | cons h _ ih=>exact⟨ih.1.trans (aoR h).1,ih.2.trans (aoR h).2⟩
theorem av5{s s2}{a c}(h:Ws s (a++c) s2):∃s1,Ws s a s1∧Ws s1 c s2:=by
 induction a generalizing s with
 | nil=>exact⟨s,.nil s,h⟩
 | cons w a ih=>
  cases h with
  | cons h1 h2=>
   obtain⟨s1,g1,g2⟩:=ih h2;exact⟨s1,.cons h1 g1,g2⟩
theorem aqa{s s'}{w}(h:W1 s w s'){l}(hl:tgt w≠some l):nth .dead s'.h l=nth .dead s.h l:=by
 cases w with
 | sl n v=>obtain⟨_,e⟩:=h;subst e;rfl
 | ob m o=>obtain⟨_,_,rfl⟩:=h;exact aS fun e=>hl (congrArg some e)
 | st m off vs=>obtain⟨cs,cs',_,_,rfl⟩:=h;exact aS fun e=>hl (congrArg some e)
 | kill m=>rcases h with⟨e,xs,_,rfl⟩ | ⟨e,xs,_,rfl⟩ | ⟨_,rfl⟩<;>exact aS fun e=>hl (congrArg some e)
 | nw m o=>obtain⟨_,_,rfl⟩:=h;exact aS fun e=>hl (congrArg some e)
 | up m i e y=>obtain⟨_,_,rfl⟩:=h;exact aS fun e=>hl (congrArg some e)
theorem Wj{H H'}{t}(hs:U4 H H' t){l}{cs}(hl:nth .dead H l=.box cs):∀v∈aF cs,av H v=av H' v:=by
 have:=hs.2 l cs hl;rw[uO,uO] at this
 simp_all
theorem ax8{H H'}{t}(hs:U4 H H' t) l:fC H (nth .dead H l)=fC H' (nth .dead H l):=by
 cases ho:nth .dead H l with
 | box cs=>simp only[fC];rw[hs.2 l cs ho]
 | _=>rfl
theorem ayX{H H'}{t}(hs:U4 H H' t):aR H t=aR H' t:=apI hs.1
theorem Tc{s s'}{ws}(h:Ws s ws s'):∀l,(∀w∈ws,tgt w≠some l)→nth .dead s'.h l=nth .dead s.h l∧fC s'.h (nth .dead s.h l)=fC s.h (nth .dead s.h l):=by
 induction h with
 | nil s=>intro l _;exact⟨rfl,rfl⟩
 | cons h _ ih=>
  intro l hl;have h1:=aqa h (hl _ (by simp));obtain⟨g1,g2⟩:=ih l fun w hw=>hl w (by simp[hw]);rw[h1] at g1 g2;exact⟨g1,g2.trans (ax8 (Jd h).1 l).symm⟩
theorem aok{s s'}{ws}(h:Ws s ws s'):(∀w∈ws,tgt w≠none)→s'.t=s.t∧aR s'.h s'.t=aR s.h s.t:=by
 induction h with
 | nil s=>intro _;exact⟨rfl,rfl⟩
 | cons h _ ih=>
  intro hw;obtain⟨g1,g2⟩:=ih fun w hm=>hw w (by simp[hm]);have:=TW h (hw _ (by simp));refine⟨g1.trans this.1,g2.trans ?_⟩;rw[this.1,ayX (Jd h).1]
def hits(l q:Nat):TWr→Prop
 | .st l' off vs=>l'=l∧off≤q∧q<off+widths vs
 | .ob l' _=>l'=l
 | .kill l'=>l'=l
 | _=>False
theorem aBK{s s'}{w}(h:W1 s w s'){l q:Nat}{cs:List TV}{v:TV}(hb:nth .dead s.h l=.box cs)(hv:(aF cs)[q]? =some v)(hh:¬hits l q w):
  ∃cs',nth .dead s'.h l=.box cs'∧(aF cs').length=(aF cs).length∧(aF cs')[q]? =some v∧av s'.h v=av s.h v:=by
 have hav:av s'.h v=av s.h v:=(Wj (Jd h).1 hb v (qAI hv)).symm;by_cases hl:tgt w=some l
 ·cases w with
  | sl n x=>cases hl
  | ob m o=>cases hl;exact(hh rfl).elim
  | st m off vs=>
   cases hl;obtain⟨cs0,cs',h1,h2,rfl⟩:=h;rw[hb] at h1;cases h1;obtain⟨q1,q2⟩:=Jb h2;have hlt:l<s.h.length:=by
    apply qAp;intro hn;rw[kL (by omega)] at hb;cases hb
   refine⟨cs',bL hlt,by rw[q1];simp;omega,?_,hav⟩;have hout:¬(off≤q∧q<off+(aF vs).length):=fun hc=>hh ⟨rfl,by rw[←nN];exact hc⟩
   grind
  | kill m=>cases hl;exact(hh rfl).elim
  | nw m o=>
   cases hl;obtain⟨h1,_⟩:=h;rw[hb] at h1;cases h1
  | up m i e y=>cases hl;obtain⟨_,h1,_⟩:=h;rw[hb] at h1;cases h1
 ·exact⟨cs,by rw[aqa h hl];exact hb,rfl,hv,hav⟩
theorem ar3{s s'}{ws}(h:Ws s ws s'):∀{l q:Nat} {cs:List TV} {v:TV},nth .dead s.h l=.box cs→(aF cs)[q]? =some v→(∀w∈ws,¬hits l q w)→
  ∃cs',nth .dead s'.h l=.box cs'∧(aF cs').length=(aF cs).length∧(aF cs')[q]? =some v∧av s'.h v=av s.h v:=by
 induction h with
 | nil s=>intro l q cs v hb hv _;exact⟨cs,hb,rfl,hv,rfl⟩
 | cons h _ ih=>
  intro l q cs v hb hv hh;obtain⟨cs1,g1,g2,g3,g4⟩:=aBK h hb hv (hh _ (by simp))
  grind
section
variable {γ:Type}{b:γ}
theorem au2{l}{cf}:∀is K,wrB l cf is K=some b→∃ws,K ws=some b∧(∀w∈ws,∃p c,p∈is∧w=.st l p.1 c)∧
  ∀s s' cs0,Ws s ws s'→nth .dead s.h l=.box cs0→∃cs1,nth .dead s'.h l=.box cs1∧(aF cs1).length=(aF cs0).length∧∀q,(pQ is q=true→q<(aF cs0).length→(aF cs1)[q]? =(aF cf)[q]?)∧(pQ is q=false→(aF cs1)[q]? =(aF cs0)[q]?∧∀v,(aF cs0)[q]? =some v→av s'.h v=av s.h v)
 | [],K,h=>⟨[],h,fun w hw=>(by cases hw),fun s s' cs0 hw hb=>by
  cases hw;exact⟨cs0,hb,rfl,fun q=>⟨fun h=>(by cases h),fun _=>⟨rfl,fun _ _=>rfl⟩⟩⟩⟩
 | p::ps,K,h=>by
  simp only[wrB] at h;obtain⟨a,r,h1,h2,h⟩:=Bg _ _ _ _ h;obtain⟨c,r1,h3,h4,h⟩:=Bg _ _ _ _ h;obtain⟨ws,h5,h6,h7⟩:=au2 ps _ h;refine⟨_,h5,fun w hw=>?_,fun s s' cs0 hw hb=>?_⟩
  ·rcases qAg.1 hw with rfl | hw
   ·grind
   simp_all
  ·cases hw with
   | @cons _ s1 _ _ _ g1 g2=>
    have g1':=g1;obtain⟨cs0',cs1,k1,k2,e⟩:=g1;rw[hb] at k1;cases k1;obtain⟨q1,q2⟩:=Jb k2;have hlt:l<s.h.length:=by
     apply qAp;intro hn;rw[kL (by omega)] at hb;cases hb
    have hb1:nth .dead s1.h l=.box cs1:=by rw[e];exact bL hlt
    have hl1:(aF cs1).length=(aF cs0).length:=by rw[q1];simp only[qAf,qAB,qCJ];omega
    obtain⟨cs2,m1,m2,m3⟩:=h7 s1 s' cs1 g2 hb1;refine⟨cs2,m1,m2.trans hl1,fun q=>⟨fun hq hql=>?_,fun hq=>?_⟩⟩
    ·cases hps:pQ ps q with
     | true=>exact(m3 q).1 hps (by omega)
     | false=>
      have hin:=(yS.1 hq).resolve_right (by rw[hps];simp);rw[((m3 q).2 hps).1,q1,h1,h3];rw[qAo,qAk (by simp only[qAB];omega),qAi (by simp only[qAB];omega)];rw[qAk (by omega),qAi (by omega)];congr 1;simp only[qAB];omega
    ·have hps:pQ ps q=false:=by
      cases hps:pQ ps q with
      | false=>rfl
      | true=>rw[yS.2 (.inr hps)] at hq;cases hq
     have hout:¬(p.1≤q∧q<p.1+wu p.2):=fun hh=>by rw[yS.2 (.inl hh)] at hq;cases hq
     have e1:(aF cs1)[q]? =(aF cs0)[q]?:=by
      rw[q1];by_cases hlt:q<p.1
      ·rw[qAo,qAi (by simp only[qAB];omega),qBt,if_pos hlt]
      ·rw[qAk (by simp only[qAf,qAB];omega),qCh];congr 1;simp only[qAf,qAB];omega
     refine⟨((m3 q).2 hps).1.trans e1,fun v hv=>?_⟩;rw[((m3 q).2 hps).2 v (by rw[e1];exact hv)];exact(Wj (Jd g1').1 hb v (qAI hv)).symm
end
end
section
open Go
theorem Y3{f}:∀n i,(J5 f i n).length≤n
 | 0,_=>by simp[J5]
 | n+1,i=>by
  simp only[J5];split
  ·simp;have:=Y3 (f:=f) n (i+1);omega
  ·have:=Y3 (f:=f) n (i+1);omega
theorem akF{f}:∀n i,(J5 f i n).length=n→∀j,j<n→f (i+j)=(J5 f i n)[j]?
 | 0,_,_,j,hj=>by omega
 | n+1,i,h,j,hj=>by
  simp only[J5] at h⊢;split at h
  ·rename_i l hl;cases j with
   | zero=>simpa using hl
   | succ j=>
    simp at h;have:=akF (f:=f) n (i+1) (by omega) j (by omega)
    grind
  ·rename_i hl;have:=Y3 (f:=f) n (i+1);omega
theorem arP:∀c k,(rng k c).length=c
 | 0,_=>rfl
 | c+1,k=>by simp only[rng,qAm,arP c]
theorem arv:∀c k i,i<c→(rng k c)[i]? =some (k+i)
 | 0,_,_,h=>by omega
 | c+1,k,0,_=>rfl
 | c+1,k,i+1,h=>by
  simp only[rng,qBr];rw[arv c (k+1) i (by omega)];congr 1;omega
theorem akb:∀c k,(rng k c).Nodup
 | 0,_=>by simp[rng]
 | c+1,k=>by
  simp only[rng,qBR,FL];exact⟨by omega,akb c (k+1)⟩
theorem akK:∀{l:List Nat},nodupB l=true→l.Nodup
 | [],_=>by simp
 | x::xs,h=>by
  simp only[nodupB] at h;rw[qBR];cases hm:mem xs x with
  | true=>rw[hm] at h;cases h
  | false=>rw[hm] at h;exact⟨zo.1 hm,akK h⟩
theorem air{H}:∀n k,anT H k n=true→∀l∈rng k n,lI (nth .dead H l)=true
 | 0,_,_,l,hl=>by cases hl
 | n+1,k,h,l,hl=>by
  simp only[anT,qAa] at h;simp only[rng,qAg] at hl;rcases hl with rfl | hl
  ·exact h.1
  ·exact air n (k+1) h.2 l hl
theorem xu{L}{i l}(h:L[i]? =some l):kD L i=l:=by unfold kD;rw[iD,List.getD,h];rfl
theorem avC{L}{i l big}(h:L[i]? =some l):nm L big i=l:=by unfold nm;rw[h];rfl
structure Wro(ρ:List Nat)(h:List TObj)(k j:Nat)(es:List Ed)(s s':DS):Prop where
 obj:∀l hd,Ed.o l hd∈es→match hd with
  | .dead=>(∃e xs,nth .dead s.h (kD ρ l)=.own e xs∧nth .dead s'.h (kD ρ l)=.gone e xs)∨(∃e xs,nth .dead s.h (kD ρ l)=.arr e xs∧nth .dead s'.h (kD ρ l)=.gon xs.length)∨nth .dead s'.h (kD ρ l)=.dead
  | .bx is=>∀cs0,nth .dead s.h (kD ρ l)=.box cs0→∃cs1 cf,nth .dead s'.h (kD ρ l)=.box cs1∧nth .dead h l=.box cf∧(aF cs1).length=(aF cs0).length∧
    ∀q,(pQ is q=true→q<(aF cs0).length→(aF cs1)[q]? =(aF cf)[q]?)∧(pQ is q=false→(aF cs1)[q]? =(aF cs0)[q]?∧∀v,(aF cs0)[q]? =some v→av s'.h v=av s.h v)
  | _=>plainO (nth .dead h l)=true∧plainO (nth .dead s.h (kD ρ l))=true∧nth .dead s'.h (kD ρ l)=nth .dead h l
 new:∀i,i<aC es→nth .dead s'.h (k+i)=nth .dead h (j+i)
section
variable {γ:Type}{b:γ}
theorem aaw{l}{H:List TObj}(h:nth .dead H l≠ .dead):l<H.length:=by
 apply qAp;intro hn;exact h (kL (by omega))
theorem afL{ρ}{h}{n}(hnd:ρ.Nodup)(hlen:ρ.length=n):∀(es:List Ed) (k j:Nat) (ss os:List Nat) (K:List TWr→Option γ),dZ n ss os es=true→(∀p∈ρ,p<k∨k+aC es≤p)→Hu ρ h k j es K=some b→
  ∃ws,K ws=some b∧(∀w∈ws,∃p,tgt w=some p∧((∃l hd,Ed.o l hd∈es∧p=kD ρ l)∨(k≤p∧p<k+aC es)))∧∀s s',(∀p∈ρ,p<s.h.length)→Ws s ws s'→Wro ρ h k j es s s'
 | [],k,j,ss,os,K,hw,hd,hh=>⟨[],hh,fun w hw=>(by cases hw),fun s s' _ _=>⟨fun l hd hm=>(by cases hm),fun i hi=>by simp[aC] at hi⟩⟩
 | .r c sk::es,k,j,ss,os,K,hw,hd,hh=>by
  simp only[dZ,qAa] at hw;simp only[Hu] at hh;obtain⟨ws,h1,h2,h3⟩:=afL hnd hlen es k j _ _ K hw.2 hd hh;refine⟨ws,h1,fun w hm=>?_,fun s s' hin hws=>⟨fun l hd hm=>(h3 s s' hin hws).obj l hd (by simpa using hm),(h3 s s' hin hws).new⟩⟩;obtain⟨p,e1,e2⟩:=h2 w hm;exact⟨p,e1,e2.imp (fun⟨l,hd,q1,q2⟩=>⟨l,hd,qAl _ q1,q2⟩) id⟩
 | .w hd0::es,k,j,ss,os,K,hw,hd,hh=>by
  simp only[dZ] at hw;simp only[Hu] at hh;obtain⟨ws,h1,h2,h3⟩:=afL hnd hlen es (k+1) (j+1) _ _ _ hw (fun p hp=>by have:=hd p hp;simp only[aC] at this;omega) hh;have hno:∀w∈ws,tgt w≠some k:=fun w hm e=>by
   obtain⟨p,e1,e2⟩:=h2 w hm;rw[e] at e1;cases e1;rcases e2 with⟨l,hd',q1,q2⟩ | ⟨q1,q2⟩
   ·have hl:=nM hw q1;have:ρ[l]? =some (ρ[l]'(by omega)):=qAc _;rw[xu this] at q2;have:=hd _ (qAO (by omega:l<ρ.length));simp only[aC] at this;omega
   ·omega
  refine⟨_,h1,fun w hm=>?_,fun s s' hin hws=>?_⟩
  ·rcases qAg.1 hm with rfl | hm
   ·exact⟨k,rfl,.inr ⟨qAd _,by simp only[aC];omega⟩⟩
   ·obtain⟨p,e1,e2⟩:=h2 w hm;exact⟨p,e1,e2.imp (fun⟨l,hd,q1,q2⟩=>⟨l,hd,qAl _ q1,q2⟩) fun⟨q1,q2⟩=>by simp only[aC];omega⟩
  ·cases hws with
   | @cons _ s1 _ _ _ g1 g2=>
    have w3:=h3 s1 s' (fun p hp=>by rw[(aoR g1).2];exact hin p hp) g2;have g1':=g1;obtain⟨r1,r2,r3⟩:=g1;have hk1:nth .dead s1.h k=nth .dead h j:=by
     rw[r3];refine bL ?_;apply qAp;intro hn;rw[kL (by omega)] at r1;cases r1
    have oth:∀l hd',Ed.o l hd'∈es→kD ρ l≠k:=fun l hd' hm e=>by
     have hl:=nM hw hm;have:ρ[l]? =some (ρ[l]'(by omega)):=qAc _;rw[xu this] at e;have:=hd _ (qAO (by omega:l<ρ.length));simp only[aC] at this;omega
    refine⟨fun l hd' hm=>?_,fun i hi=>?_⟩
    ·have hm:Ed.o l hd'∈es:=by simpa using hm
     have hne:=oth l hd' hm;have e1:nth .dead s1.h (kD ρ l)=nth .dead s.h (kD ρ l):=aqa g1' (by simp only[tgt];exact fun e=>hne (Option.some.inj e).symm);have:=w3.obj l hd' hm;cases hd' with
     | bx is=>
      intro cs0 m1;obtain⟨cs1,cf,m2,m3,m4,m5⟩:=this cs0 (by rw[e1];exact m1);refine⟨cs1,cf,m2,m3,m4,fun q=>⟨(m5 q).1,fun hq=>⟨((m5 q).2 hq).1,fun v hv=>(((m5 q).2 hq).2 v hv).trans ?_⟩⟩⟩;exact(Wj (Jd g1').1 m1 v (qAI hv)).symm
     | dead=>simp only[e1] at this;exact this
     | box cs=>simp only[e1] at this;exact this
     | own e=>simp only[e1] at this;exact this
     | mp e=>simp only[e1] at this;exact this
     | arr e=>simp only[e1] at this;exact this
    ·cases i with
     | zero=>rw[qAP,qAP,(Tc g2 k hno).1];exact hk1
     | succ i=>
      have:=w3.new i (by simp only[aC] at hi;omega);rwa[show k+1+i=k+(i+1) from by omega,show j+1+i=j+(i+1) from by omega] at this
 | .o l0 hd0::es,k,j,ss,os,K,hw,hd,hh=>by
  simp only[dZ,qAa,qAF,zo] at hw;have hl0:l0<n:=qAe hw.1;have get0:ρ[l0]? =some (kD ρ l0):=by
   have:ρ[l0]? =some (ρ[l0]'(by omega)):=qAc _;rw[xu this];exact this
  have apart:∀l hd',Ed.o l hd'∈es→kD ρ l≠kD ρ l0:=fun l hd' hm e=>by
   have hl:=nM hw.2.2 hm;have sV:ρ[l]? =some (kD ρ l):=by
    have:ρ[l]? =some (ρ[l]'(by omega)):=qAc _;rw[xu this];exact this
   have:l=l0:=(qCo (by omega) hnd).1 (sV.trans (by rw[e];exact get0.symm));subst this;exact F5 hw.2.2 (by simp) hm
  -- the first writes, then the rest
  have main:∀(w0:List TWr) (K':List TWr→Option γ),(∀ws,K' ws=K (w0++ws))→Hu ρ h k j es K'=some b→(∀w∈w0,tgt w=some (kD ρ l0))→
    (∀s s1,(∀p∈ρ,p<s.h.length)→Ws s w0 s1→Wro ρ h k j [.o l0 hd0] s s1)→∃ws,K ws=some b∧(∀w∈ws,∃p,tgt w=some p∧((∃l hd,Ed.o l hd∈(.o l0 hd0::es)∧p=kD ρ l)∨(k≤p∧p<k+aC (.o l0 hd0::es))))∧∀s s',(∀p∈ρ,p<s.h.length)→Ws s ws s'→Wro ρ h k j (.o l0 hd0::es) s s':=fun w0 K' hK hh ht hw0=>by
   obtain⟨ws,h1,h2,h3⟩:=afL hnd hlen es k j _ _ K' hw.2.2 hd hh;refine⟨w0++ws,by rw[←hK];exact h1,fun w hm=>?_,fun s s' hin hws=>?_⟩
   ·rcases qAn.1 hm with hm | hm
    ·exact⟨_,ht w hm,.inl ⟨l0,hd0,by simp,rfl⟩⟩
    ·obtain⟨p,e1,e2⟩:=h2 w hm;exact⟨p,e1,e2.imp (fun⟨l,hd,q1,q2⟩=>⟨l,hd,qAl _ q1,q2⟩) id⟩
   ·obtain⟨s1,g1,g2⟩:=av5 hws;have w3:=h3 s1 s' (fun p hp=>by rw[(Tg g1).2];exact hin p hp) g2;have wf:=hw0 s s1 hin g1;have hno:∀w∈ws,tgt w≠some (kD ρ l0):=fun w hm e=>by
     obtain⟨p,e1,e2⟩:=h2 w hm;rw[e] at e1;cases e1;rcases e2 with⟨l,hd',q1,q2⟩ | ⟨q1,q2⟩
     ·exact apart l hd' q1 q2.symm
     ·have:=hd _ (qAI get0);simp only[aC] at this;omega
    have stay:=(Tc g2 (kD ρ l0) hno).1;refine⟨fun l hd' hm=>?_,fun i hi=>w3.new i hi⟩;rcases qAg.1 hm with e | hm
    ·injection e with e1 e2;subst e1;subst e2;have:=wf.obj l hd' (by simp);cases hd' with
     | bx is=>
      intro cs0 m1;obtain⟨cs1,cf,m2,m3,m4,m5⟩:=this cs0 m1;refine⟨cs1,cf,by rw[stay];exact m2,m3,m4,fun q=>⟨(m5 q).1,fun hq=>⟨((m5 q).2 hq).1,fun v hv=>?_⟩⟩⟩;obtain⟨_,_,_,_,r4⟩:=ar3 g2 m2 (((m5 q).2 hq).1.trans hv) fun w hm hh=>by
       have:=hno w hm;cases w with
       | st l' off vs=>exact this (congrArg some hh.1)
       | ob l' o=>exact this (congrArg some hh)
       | kill l'=>exact this (congrArg some hh)
       | _=>exact hh
      exact r4.trans (((m5 q).2 hq).2 v hv)
     | dead=>simp only[stay] at this⊢;exact this
     | box cs=>simp only[stay] at this⊢;exact this
     | own e=>simp only[stay] at this⊢;exact this
     | mp e=>simp only[stay] at this⊢;exact this
     | arr e=>simp only[stay] at this⊢;exact this
    ·have hne:=apart l hd' hm;have e1:nth .dead s1.h (kD ρ l)=nth .dead s.h (kD ρ l):=(Tc g1 (kD ρ l) fun w hm e=>hne (by rw[ht w hm] at e;exact(Option.some.inj e).symm)).1;have:=w3.obj l hd' hm;cases hd' with
     | bx is=>
      intro cs0 m1;obtain⟨cs1,cf,m2,m3,m4,m5⟩:=this cs0 (by rw[e1];exact m1);refine⟨cs1,cf,m2,m3,m4,fun q=>⟨(m5 q).1,fun hq=>⟨((m5 q).2 hq).1,fun v hv=>(((m5 q).2 hq).2 v hv).trans ?_⟩⟩⟩;obtain⟨_,_,_,_,r4⟩:=ar3 g1 m1 hv fun w hm hh=>by
       have hw:=ht w hm;cases w with
       | st l' off vs=>exact hne (by rw[←hh.1];exact Option.some.inj hw)
       | ob l' o=>exact hne (by rw[←(show l'=kD ρ l from hh)];exact Option.some.inj hw)
       | kill l'=>exact hne (by rw[←(show l'=kD ρ l from hh)];exact Option.some.inj hw)
       | _=>exact hh
      exact r4
     | dead=>simp only[e1] at this;exact this
     | box cs=>simp only[e1] at this;exact this
     | own e=>simp only[e1] at this;exact this
     | mp e=>simp only[e1] at this;exact this
     | arr e=>simp only[e1] at this;exact this
  have ob1:(∀is,hd0≠ .bx is)→hd0≠ .dead→∀s s1,(∀p∈ρ,p<s.h.length)→Ws s [.ob (kD ρ l0) (nth .dead h l0)] s1→Wro ρ h k j [.o l0 hd0] s s1:=fun nb nd s s1 hin hws=>by
   cases hws with
   | cons g1 g2=>
    cases g2;obtain⟨r1,r2,r3⟩:=g1;refine⟨fun l hd' hm=>?_,fun i hi=>by simp[aC] at hi⟩;have e:=qBc.1 hm;injection e with e1 e2;subst e1;subst e2;have key:nth .dead s1.h (kD ρ l)=nth .dead h l:=by
     rw[r3];exact bL (hin _ (qAI get0))
    cases hd' with
    | bx is=>exact(nb is rfl).elim
    | dead=>exact(nd rfl).elim
    | box cs=>exact⟨r1,r2,key⟩
    | own e=>exact⟨r1,r2,key⟩
    | mp e=>exact⟨r1,r2,key⟩
    | arr e=>exact⟨r1,r2,key⟩
  have tg1:∀w:TWr,tgt w=some (kD ρ l0)→∀w'∈[w],tgt w'=some (kD ρ l0):=fun w hw w' hm=>by rw[qBc] at hm;subst hm;exact hw
  cases hd0 with
  | dead=>
   simp only[Hu] at hh;refine main [.kill (kD ρ l0)] _ (fun _=>rfl) hh (tg1 _ rfl) fun s s1 hin hws=>⟨fun l hd' hm=>?_,fun i hi=>by simp[aC] at hi⟩;have e:=qBc.1 hm;injection e with e1 e2;subst e1;subst e2;cases hws with
   | cons g1 g2=>
    cases g2;rcases g1 with⟨e,xs,r1,rfl⟩ | ⟨e,xs,r1,rfl⟩ | ⟨⟨cs,r1⟩ | ⟨e,xs,r1⟩,rfl⟩
    ·exact .inl ⟨e,xs,r1,bL (aaw (by rw[r1];exact fun h=>by cases h))⟩
    ·exact .inr (.inl ⟨e,xs,r1,bL (aaw (by rw[r1];exact fun h=>by cases h))⟩)
    ·exact .inr (.inr (bL (aaw (by rw[r1];exact fun h=>by cases h))))
    ·exact .inr (.inr (bL (aaw (by rw[r1];exact fun h=>by cases h))))
  | bx is=>
   simp only[Hu] at hh;split at hh
   ·rename_i cf hcf;obtain⟨w0,h1,h2,h3⟩:=au2 is _ hh;refine main w0 _ (fun _=>rfl) h1 (fun w hm=>?_) fun s s1 hin hws=>⟨fun l hd' hm=>?_,fun i hi=>by simp[aC] at hi⟩
    ·obtain⟨p,c,_,rfl⟩:=h2 w hm;rfl
    ·have e:=qBc.1 hm;injection e with e1 e2;subst e1;subst e2;intro cs0 m1;obtain⟨cs1,m2,m3,m4⟩:=h3 s s1 cs0 hws m1;exact⟨cs1,cf,m2,hcf,m3,m4⟩
   ·cases hh
  | box cs=>simp only[Hu] at hh;exact main _ _ (fun _=>rfl) hh (tg1 (.ob _ _) rfl) (ob1 (fun is e=>by cases e) (fun e=>by cases e))
  | own e=>simp only[Hu] at hh;exact main _ _ (fun _=>rfl) hh (tg1 (.ob _ _) rfl) (ob1 (fun is e=>by cases e) (fun e=>by cases e))
  | mp e=>simp only[Hu] at hh;exact main _ _ (fun _=>rfl) hh (tg1 (.ob _ _) rfl) (ob1 (fun is e=>by cases e) (fun e=>by cases e))
  | arr e=>simp only[Hu] at hh;exact main _ _ (fun _=>rfl) hh (tg1 (.ob _ _) rfl) (ob1 (fun is e=>by cases e) (fun e=>by cases e))
end
end
section
open Go
def OpX(P:Program)(o:Oper)v s s':=
 ∀C κ a w,Sim C κ s a w→∀next Q,(∀κ' w',Sim C κ' s' a w'→Q (.panic [{v,recovered:=false}]) a w')→o.wp P a w next Q
def Cj(P:Program)(f:Nat)(args:List AV)H(v:Value)H':=
 ∀κ aj w (vs:List Value),Entry κ aj H w→vs.length=args.length→(∀j,j<args.length→Rel w κ (aD aj κ H) (args.getD j .unk) (vs.getD j undef))→
  Calls P f vs.toArray w fun e w'=>∃κ',e=.panicked [{v,recovered:=false}]∧Leave κ κ' aj H H' w w'
theorem anr{P}{o}{s}{fo}{args}{argTypes}{f}{caps aargs:List AV}{ρ ks:List Nat}{H H':List AObj}{v:Value}
  (ho:o.op=.call {callee:=.value fo,args,argTypes}) (hf:bA s.tmps fo=.func f caps) (hok:j4 P f=true) (hp:Passes s ρ ks H) (hH:H'.length=(ρ++ks).length)
  (hargs:SWs (args.toList.map (bA s.tmps)++caps) (aargs.map (ren (nm (ρ++ks) s.heap.length)))) (hc:Cj P f aargs H v H'):
  OpX P o v s (s.wr (kK (ρ++ks) (H'.map (dK (nm (ρ++ks) s.heap.length))))):=by
 intro C κ a w hs next Q hn
 have hrf:=hs.ev fo;rw[hf] at hrf;obtain⟨cv,e1,e2,e3⟩:=hrf.IK
 let vs:List Value:=args.toList.map a.eval++cv
 have hlen:vs.length=aargs.length:=by
  have:=hargs.len
  grind
 have hrun:(execOp a.eval o).run P w=.ok (.enter f vs.toArray) w:=by
  have e4:args.map a.eval++cv.toArray=vs.toArray:=by
   grind
  simp[execOp,ho,resolve,e1,Deferred.ofValue,invoke,AQ hok,e4]
 have hrel:∀j,j<aargs.length→Rel w (ρ.map (at? κ)) (aD (K6 C.aj κ s.heap ρ) (ρ.map (at? κ)) H) (aargs.getD j .unk) (vs.getD j undef):=fun j hj=>by
  rw[Qu hp];have hg:(aargs.map (ren (nm (ρ++ks) s.heap.length))).getD j .unk=ren (nm (ρ++ks) s.heap.length) (aargs.getD j .unk):=by
   grind
  have:Rel w κ (aD C.aj κ s.heap) ((args.toList.map (bA s.tmps)++caps).getD j .unk) (vs.getD j undef):=by
   by_cases hlt:j<args.toList.length
   ·have x1:(args.toList.map (bA s.tmps)++caps).getD j .unk=bA s.tmps args.toList[j]:=by
     grind
    have x2:vs.getD j undef=a.eval args.toList[j]:=by
     simp only[vs];rw[List.getD,qAi (by simpa using hlt),qAJ,qAc hlt];rfl
    rw[x1,x2];exact hs.ev _
   grind
  replace this:=(hargs.get j).rel this;rw[hg] at this;exact this.Ae (ahY hs hp) _ rfl
 unfold Oper.wp;rw[hrun];refine(hc _ _ _ vs (apr hs hp) hlen hrel).mono ?_;rintro e w' ⟨κ',rfl,hlv⟩;obtain⟨κc,h1,_⟩:=hs.back hp hlv hH (res:=.unk) (v:=undef) (.unk _)
 grind
end
section
open Go
def oO(v:Value):Exit:=.panic [{v,recovered:=false}]
theorem M8{P}{ops}{Q}{l1 l2}{op}{s s1 s'}{v}(h:ASteps P ops l1 s s1)(hw:dQ ops s1.tmps op=some true)(hx:OpX P op v s1 s'):
  ∀C κ a w,Sim C κ s a w→(∀κ' a' w',Sim C κ' s' a' w'→Q (oO v) a' w')→wpList P ops Q (l1++op::l2) a w:=by
 induction h with
 | nil s=>
  intro C κ a w hs hq;simp only[qAt,wpList];rw[lg hs hw];exact .inl (hx C κ a w hs _ _ fun κ' w' hs'=>hq κ' a w' hs')
 | cons h1 _ ih=>
  intro C κ a w hs hq;simp only[qAM,wpList];rcases h1 with⟨hw1,ht⟩ | ⟨hw1,rfl⟩
  ·rw[lg hs hw1];exact .inl (ht C κ a w hs _ _ fun κ' a' w' hs'=>ih hw hx C κ' a' w' hs' hq)
  ·rw[lg hs hw1];exact ih hw hx C κ _ w (hs.au _ j6) hq
end
section
open Go
def Bu(te:Nat)(e:Int):Value:=.iface te (.int .i64 e)
def PZ.pr{α ζ:Type}(f:α→Prop)(g:Int→ζ→Prop):PZ α ζ→Prop
 | .ok x=>f x
 | .er e z=>g e z
def RC{R:Type}:(pe:Option (List Ed))→(R→Prop)→((eds:List Ed)→Int→jg (bD eds)→Prop)→RT pe R→Prop
 | none,f,_=>f
 | some eds,f,g=>PZ.pr f (g eds)
def ah P te e:=j4 P e.f=true∧M5 e=true∧∀x y,e.F x=some y→∀t h,dB bI e.ps (dU _ x) (bZ e.na) []=(t,h)→
 RC e.pe (fun y=>∀r h',dB bI e.rs (dU _ (e.out y)) (bZ e.nr) h=(r,h')→cZ P e.f (aR h t) (aA h) (av h' (res1 r)) (aA h'))
  (fun eds v z=>∀r h',dB bI eds (dU _ z) (bZ 0) h=(r,h')→Cj P e.f (aR h t) (aA h) (Bu te v) (aA h')) y
theorem RT.aEp{pe}{R δ}{f}{g}{r}{b:δ}{C1:R→Prop}{C2}(h:RT.el pe f g r=some b)(hc:RC pe C1 C2 r):
  (∃y,f y=some b∧C1 y)∨∃eds v z,pe=some eds∧g eds v z=some b∧C2 eds v z:=by
 cases pe with
 | none=>exact .inl ⟨r,h,hc⟩
 | some eds=>
  match r,h,hc with
  | PZ.ok y,h,hc=>exact .inl ⟨y,h,hc⟩
  | PZ.er v z,h,hc=>exact .inr ⟨eds,v,z,rfl,h,hc⟩
def amh(G:Nat→Nat):Nat→AV→AV→Prop
 | 0,a,a'=>a'=ren G a
 | 1,a,a'=>SW a' (ren G a)
 | _,_,_=>True
theorem rs0{G}{cs cs'}(h:Rs (amh G 0) cs cs'):cs'=dG G cs:=by
 induction h with
 | nil=>rfl
 | cons h _ ih=>simp only[dG];rw[ih];exact congrArg (·::_) h
theorem rs1{G}{cs cs'}(h:Rs (amh G 1) cs cs'):SWs cs' (dG G cs):=by
 induction h with
 | nil=>exact .nil
 | cons h _ ih=>simp only[dG];exact .cons h ih
theorem aBs{H Hk}{L}{G}(hG:∀j l,L j=some l→G j=l)
  (look:∀j l,L j=some l→eP l (nth .dead H l)=ren G (eP j (nth .dead Hk j))∧∀z,dO l z (nth .dead H l)=ren G (dO j z (nth .dead Hk j))):Wk H Hk L (amh G):=by
 have e0:∀m a a',a'=ren G a→amh G m a a':=fun m a a' h=>by
  match m with
  | 0=>exact h
  | 1=>rw[h];exact .same _
  | _+2=>trivial
 refine⟨rfl,fun m a=>?_,fun m a a' hf hc=>?_,fun m j l o h=>e0 _ _ _ (by simp only[ren,hG j l h]),fun m j l h=>e0 _ _ _ (by simp only[ren,hG j l h]),fun m j l h=>e0 _ _ _ (look j l h).1,fun m j h=>trivial,fun m j l z h=>e0 _ _ _ ((look j l h).2 z),fun m j z h=>trivial,
  fun m cs cs' h=>e0 _ _ _ (by rw[rs0 h];rfl),fun m cs cs' h=>?_,fun m cs cs' h=>trivial,fun m cs cs' h=>e0 _ _ _ (by rw[rs0 h];rfl),fun m f cs cs' h=>trivial,fun m f cs cs' h=>e0 _ _ _ (by rw[rs0 h];rfl)⟩
 ·match m with
  | 0=>exact .unk _
  | _+1=>trivial
 ·generalize hq:Nat.ble 1 m=q at hc;cases hc with
  | same=>exact e0 _ _ _ (hf G).symm
  | share es t=>
   match m with
   | 0=>cases hq
   | 1=>show SW _ _;rw[hf G];exact .share es t
   | _+2=>trivial
  | nilF=>
   match m with
   | 0=>cases hq
   | 1=>exact .nilF
   | _+2=>trivial
 ·match m with
  | 0=>exact congrArg AV.agg (rs0 h)
  | 1=>exact SW.agg' (rs1 h)
  | _+2=>trivial
theorem Y0{o}{hd}{us}{cs}(h:∀is,hd≠ .bx is)(e:(bF bI o hd us).1=.box cs):∃ss,hd=.box ss∧cs=(fJ bI ss us).1:=by
 cases hd with
 | dead=>cases e
 | box ss=>exact⟨ss,rfl,(TObj.box.inj e).symm⟩
 | bx is=>exact(h is rfl).elim
 | own e'=>simp only[bF] at e;split at e<;>cases e
 | mp e'=>simp only[bF] at e;split at e<;>cases e
 | arr e'=>simp only[bF] at e;split at e<;>cases e
theorem ajf{np}{rs}{j}{hd}(h:ah5 np rs j hd=true):hd≠ .dead∧(∀is,hd≠ .bx is)∧∀cs,hd=.box cs→yw np [] cs=true:=by
 cases hd with
 | dead=>cases h
 | bx is=>cases h
 | box cs=>
  simp only[ah5] at h
  grind
 | own e=>exact⟨fun e=>(by cases e),fun is e=>(by cases e),fun cs e=>by cases e⟩
 | mp e=>exact⟨fun e=>(by cases e),fun is e=>(by cases e),fun cs e=>by cases e⟩
 | arr e=>exact⟨fun e=>(by cases e),fun is e=>(by cases e),fun cs e=>by cases e⟩
theorem af8{np}{rs}:∀{es:List Ed} {j:Nat},OP np rs j es=true→∀i,i<aC es→ah5 np rs (j+i) (nth .dead (kinds es) i)=true
 | [],_,_,i,hi=>by simp[aC] at hi
 | .r k s::es,j,h,i,hi=>by
  simp only[OP,qAa] at h;exact af8 h.2 i hi
 | .o _ _::es,_,h,_,_=>by cases h
 | .w h0::es,j,h,i,hi=>by
  simp only[OP,qAa] at h;cases i with
  | zero=>exact h.1
  | succ i=>
   have:=af8 h.2 i (by simp only[aC] at hi;omega);rw[show j+1+i=j+(i+1) from by omega] at this;exact this
theorem Kg{np}{rs}:∀{es:List Ed} {j:Nat},OP np rs j es=true→∀hd,Ed.w hd∈es→hd≠ .dead∧(∀is,hd≠ .bx is)∧∀cs,hd=.box cs→yw np [] cs=true
 | [],_,_,hd,h=>by cases h
 | .r k s::es,j,h,hd,hm=>by
  simp only[OP,qAa] at h;exact Kg h.2 hd (by simpa using hm)
 | .o _ _::es,_,h,hd,hm=>by cases h
 | .w h0::es,j,h,hd,hm=>by
  simp only[OP,qAa] at h;rcases qAg.1 hm with e | hm
  ·injection e with e;subst e;exact ajf h.1
  ·exact Kg h.2 hd hm
theorem U2{j}{hd}:∀{es:List Ed},Dt j es=some hd→Ed.o j hd∈es
 | [],h=>by cases h
 | .r _ _::es,h=>qAl _ (U2 (es:=es) h)
 | .w _::es,h=>qAl _ (U2 (es:=es) h)
 | .o l h0::es,h=>by
  simp only[Dt] at h;cases hb:Nat.beq l j with
  | true=>
   simp_all
  | false=>rw[hb] at h;exact qAl _ (U2 h)
theorem aa9{n j}{hd}:∀{es:List Ed} {ss os:List Nat},dZ n ss os es=true→Ed.o j hd∈es→Dt j es=some hd
 | [],_,_,_,h=>by cases h
 | .r _ _::es,ss,os,hw,hm=>by
  simp only[dZ,qAa] at hw;exact aa9 (es:=es) hw.2 (by simpa using hm)
 | .w _::es,ss,os,hw,hm=>by
  exact aa9 (es:=es) hw (by simpa using hm)
 | .o l h0::es,ss,os,hw,hm=>by
  simp only[dZ,qAa] at hw;rcases qAg.1 hm with e | hm
  ·cases e;simp only[Dt,mK,cond_true]
  ·have hne:Nat.beq l j=false:=by
    cases hb:Nat.beq l j with
    | false=>rfl
    | true=>
     have:=qAj hb;subst this;exact(F5 hw.2.2 (by simp) hm).elim
   simp only[Dt,hne];exact aa9 hw.2.2 hm
theorem ajX{n}{ds}{A}(hA:∀l,(Nat.blt l n&&!(mem ds l))=true→A l=true) is:∀ss us rest off,us.map U.t=Sk.Rt ss++rest→yw n ds (aug is off ss)=true→
  ∀q v,(aF (fJ bI ss us).1)[q]? =some v→pQ is (off+q)=false→Ic A v=true
 | [],us,rest,off,_,_,q,v,hv,_=>by cases q<;>cases hv
 | s::ss,us,rest,off,hu,h,q,v,hv,hq=>by
  simp only[Sk.Rt,qAo] at hu;obtain⟨h1,h2⟩:=KU s us _ hu;simp only[aug,yw,qAa] at h;simp only[fJ,aF] at hv;by_cases hlt:q<wu s
  ·rw[qAi (by rw[Fx,h2];exact hlt)] at hv;have hs:VG n ds s=true:=by
    cases hb:(Nat.beq (wu s) 1&&mem (is.flatMap fun p=>rng (p.1+1) (wu p.2)) (off+1)) with
    | false=>rw[hb] at h;exact h.1
    | true=>
     simp only[qAa] at hb;have h1:=qAj hb.1;have:q=0:=by omega
     have:pQ is off=true:=hb.2
     grind
   exact SX (cs:=[(dP bI s us).1]) (by simp only[mR,qBM];exact TJ hA s us hs) v (by simp only[aF,qAr];exact qAI hv)
  ·rw[qAk (by rw[Fx,h2];omega),Fx,h2] at hv;exact ajX hA is ss _ rest (off+wu s) h1 h.2 _ v hv (by rw[show off+wu s+(q - wu s)=off+q from by omega];exact hq)
theorem aj4{n}{ds}{A}(hA:∀l,(Nat.blt l n&&!(mem ds l))=true→A l=true):∀is c us rest,us.map U.t=(is.flatMap fun p=>p.2.Mr)++rest→(is.all fun p=>VG n ds p.2)=true→
  (∀cs,c=some cs→∀q v,(aF cs)[q]? =some v→pQ is q=false→Ic A v=true)→∀cs,(jl bI is c us).1=some cs→rfC A cs
 | [],c,us,rest,_,_,hc,cs,h=>fun v hv=>by
  obtain⟨q,hq⟩:=qAS hv;exact hc cs h q v hq rfl
 | p::ps,c,us,rest,hu,hs,hc,cs,h=>by
  simp only[qBK,qAa] at hs;simp only[qBb,qAo] at hu;obtain⟨h1,h2⟩:=KU p.2 us _ hu;refine aj4 hA ps _ _ rest h1 hs.2 (fun cs1 h3 q v hv hq=>?_) cs h;cases c with
  | none=>cases h3
  | some cs0=>
   simp only[qAb] at h3;obtain⟨q1,q2⟩:=Jb h3;have hfl:(aF [(dP bI p.2 us).1]).length=wu p.2:=by simp only[aF,qAr,Fx,h2]
   rw[hfl] at q1 q2;by_cases hin:p.1≤q∧q<p.1+wu p.2
   ·rw[q1,qAo,qAk (by simp only[qAB];omega),qAi (by simp only[qAB];omega)] at hv;exact SX (cs:=[(dP bI p.2 us).1]) (by simp only[mR,qBM];exact TJ hA p.2 us hs.1) v (qAI hv)
   ·refine hc cs0 rfl q v ?_ ?_
    ·rw[q1] at hv;by_cases hlt:q<p.1
     ·rw[qAo,qAi (by simp only[qAB];omega),qBt,if_pos hlt] at hv;exact hv
     ·rw[qAk (by simp only[qAf,qAB];omega),qCh] at hv;rw[←hv];congr 1;simp only[qAf,qAB];omega
    ·cases hb:pQ (p::ps) q with
     | false=>rfl
     | true=>
      rcases yS.1 hb with hb | hb
      ·exact(hin hb).elim
      ·rw[hq] at hb;cases hb
theorem af4{n}{ds}{ks}:∀{es:List Ed},zW n ds ks es=true→∀k s,Ed.r k s∈es→VG n ds s=true
 | [],_,k,s,h=>by cases h
 | .r k' s'::es,h,k,s,hm=>by
  simp only[zW,qAa] at h;rcases qAg.1 hm with e | hm
  ·grind
  ·exact af4 h.2 k s hm
 | .o _ _::es,h,k,s,hm=>by
  simp only[zW,qAa] at h;exact af4 h.2 k s (by simpa using hm)
 | .w h0::es,h,k,s,hm=>by
  simp only[zW,qAa] at h;exact af4 h.2 k s (by simpa using hm)
theorem afd{n}{ds}{ks}:∀{es:List Ed},zW n ds ks es=true→∀hd,Ed.w hd∈es→ah8 n ds hd=true
 | [],_,hd,h=>by cases h
 | .r k' s'::es,h,hd,hm=>by
  simp only[zW,qAa] at h;exact afd h.2 hd (by simpa using hm)
 | .o _ _::es,h,hd,hm=>by
  simp only[zW,qAa] at h;exact afd h.2 hd (by simpa using hm)
 | .w h0::es,h,hd,hm=>by
  simp only[zW,qAa] at h;rcases qAg.1 hm with e | hm
  ·grind
  ·exact afd h.2 hd hm
theorem Sn{n}{ds}{ks}:∀{es:List Ed},zW n ds ks es=true→∀l hd,Ed.o l hd∈es→hd=.dead∨ah8 n ds hd=true∧av3 (nth .dead ks l)=true∧(∀e,hd≠ .own e)∧(∀e,hd≠ .arr e)∧∀is,hd=.bx is→aDv (nth .dead ks l)=true
 | [],_,l,hd,h=>by cases h
 | .r k' s'::es,h,l,hd,hm=>by
  simp only[zW,qAa] at h;exact Sn h.2 l hd (by simpa using hm)
 | .w h0::es,h,l,hd,hm=>by
  simp only[zW,qAa] at h;exact Sn h.2 l hd (by simpa using hm)
 | .o l0 h0::es,h,l,hd,hm=>by
  simp only[zW,qAa] at h;rcases qAg.1 hm with e | hm
  ·injection e with e1 e2;subst e1;subst e2;cases hd with
   | dead=>exact .inl rfl
   | own e=>cases h.1
   | arr e=>cases h.1
   | box cs=>have:=h.1;simp at this;exact .inr ⟨this.1,this.2,fun e q=>(by cases q),fun e q=>(by cases q),fun is q=>(by cases q)⟩
   | bx is=>
    have:=h.1;simp at this;exact .inr ⟨this.1,(by have h2:=this.2;cases hk:nth HO.dead ks l<;>rw[hk] at h2<;>first | rfl | cases h2),fun e q=>(by cases q),fun e q=>(by cases q),fun is q=>this.2⟩
   | mp e=>have:=h.1;simp at this;exact .inr ⟨this.1,this.2,fun e q=>(by cases q),fun e q=>(by cases q),fun is q=>(by cases q)⟩
  ·exact Sn h.2 l hd hm
theorem M7{l}:∀{es:List Ed},Ed.o l .dead∈es→l∈killed es
 | [],h=>by cases h
 | .r k' s'::es,h=>M7 (es:=es) (by simpa using h)
 | .w h0::es,h=>M7 (es:=es) (by simpa using h)
 | .o l0 h0::es,h=>by
  simp only[killed,qAn];rcases qAg.1 h with e | h
  ·grind
  ·exact .inr (M7 h)
mutual
theorem aja{A:Nat→Bool}{l:Nat}:∀v:TV,ami l v=true→Ic A v=true→A l=true
 | .own l',h,k=>by have:=qAj h;subst this;exact k
 | .psl l' _ _,h,k=>by have:=qAj h;subst this;exact k
 | .eptr cs,h,k=>OG cs h k
 | .agg cs,h,k=>OG cs h k
 | .tup cs,h,k=>OG cs h k
 | .func _ cs,h,k=>OG cs h k
 | .unk,h,_=>by cases h
 | .nilp,h,_=>by cases h
 | .nilF,h,_=>by cases h
 | .nils,h,_=>by cases h
 | .lf _ _,h,_=>by cases h
 | .nat _,h,_=>by cases h
 | .ptr _ _,h,_=>by cases h
 | .mapr _,h,_=>by cases h
theorem OG{A:Nat→Bool}{l:Nat}:∀vs:List TV,ko l vs=true→mR A vs=true→A l=true
 | [],h,_=>by cases h
 | v::vs,h,k=>by
  simp only[ko,qAZ] at h;simp only[mR,qAa] at k;exact h.elim (fun h=>aja v h k.1) fun h=>OG vs h k.2
end
end
end Abs
end Go.Proofs.YtneeginmfjageaaGreat
