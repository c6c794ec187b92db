/-
  From what the claim's form reads of an argument to the abstract values: a datum of the program's types that can be read stands for a plain tree. Conditions: none; lemmas over any program, then at the program's types.
-/
import Derived.Test.YtneeginmfjageaaGreatRows
import Derived.Deep.Slices
import Derived.Deep.Strs
import Derived.ProofKit
import Derived.Below
import Derived.Carry
import Derived.Test.YtneeginmfjageaaGreatCP8oxf1c168
set_option linter.unusedSimpArgs false
set_option linter.unusedVariables false
namespace Go.Proofs.YtneeginmfjageaaGreat
namespace Abs
section
open Go Go.Proofs Go.Deep
def kR(w)κ(pv)(xs:List AV)(cs:List Value):=cs.length=xs.length∧∀j,j<xs.length→Rel w κ pv (xs.getD j .unk) (cs.getD j undef)
theorem kR.one{w}{κ}{pv}{x}{v}(h:Rel w κ pv x v):kR w κ pv [x] [v]:=⟨rfl,fun j hj=>by
 have:j=0:=by simp at hj;omega
 subst this;exact h⟩
theorem kR.app{w}{κ}{pv}{xs ys}{cs ds}(h:kR w κ pv xs cs)(k:kR w κ pv ys ds):kR w κ pv (xs++ys) (cs++ds):=by
 refine⟨by simp[h.1,k.1],fun j hj=>?_⟩;by_cases hx:j<xs.length
 ·have e1:(xs++ys).getD j .unk=xs.getD j .unk:=by simp[List.getD,qAi hx]
  have e2:(cs++ds).getD j undef=cs.getD j undef:=by simp[List.getD,qAi (show j<cs.length by rw[h.1];exact hx)]
  rw[e1,e2];exact h.2 j hx
 ·have e1:(xs++ys).getD j .unk=ys.getD (j - xs.length) .unk:=by simp[List.getD,qAk (qBa hx)]
  have e2:(cs++ds).getD j undef=ds.getD (j - xs.length) undef:=by simp[List.getD,qAk (show cs.length≤j by rw[h.1];omega),h.1]
  rw[e1,e2];exact k.2 _ (by simp at hj;omega)
section
variable {H:Type}{enc:TypeId×Value→H}{P:Program}{w:World}{base:Nat}{spare:Nat→Bool}{held:Bool}{κ:aL}{pv:bJ}
def Reads(enc:TypeId×Value→H)P(w)base(spare)held(κ)pv{α:Type}t(f:α→List AV)fuel:=
 ∀cs x,DataW.trod enc P w base spare held fuel t cs=some x→∃a:α,kR w κ pv (f a) cs
theorem E5{t}(ht:P.underlying t=some (.int .i64)) fuel:Reads enc P w base spare held κ pv t encI fuel:=fun cs x h=>by
 obtain⟨n,rfl,_,hw⟩:=DataW.trod_int ht h;refine⟨n,kR.one (.int ?_)⟩;simpa[Lit.wf,qy] using hw
theorem EZ{t}(ht:P.underlying t=some .string) fuel:Reads enc P w base spare held κ pv t encS fuel:=fun cs x h=>by
 obtain⟨s,rfl,_,hw⟩:=DataW.trod_string ht h;refine⟨s.data.toList,kR.one ?_⟩;have:=Rel.str (w:=w) (κ:=κ) (pv:=pv) (s:=s.data.toList) (by
  have:s.data.size≤maxLen:=hw;simpa[maxLen] using this)
 simpa using this
theorem rR{α}[Inhabited α]{t e}{f}{sz}(ht:P.underlying t=some (.slice e))(hc:P.cellsOf e=sz)(hsz:0<sz)(hf:∀a,(f a).length=sz)(hpv:∀b o,¬pv b o){fuel}
  (he:∀n,n<fuel→Reads enc P w base spare held κ pv e f n):Reads enc P w base spare held κ pv t (fun l:List α=>[.slice (l.map f) .shared]) fuel:=fun cs x h=>by
 rcases DataW.trod_slice ht h with⟨rfl,_⟩ | ⟨a,len,cap,elems,rest,m,rfl,rfl,_,_,hcap,hmax,hel,hget0,_,_⟩
 ·refine⟨[],kR.one ?_⟩;exact .slice (es:=[]) (tag:=.shared) (a:=none) (cap:=0) 0 0 sz (fun _ _=>undef) (fun i h=>by cases h) (fun h=>(h rfl).elim) (qBg _) (by simp) (fun i j h=>by cases h) (fun i j h=>by cases h) (fun i j h=>by cases h) trivial
 ·have hget:∀i,i<len→∃v:List Value×α,w.cells? base (a.add (i*sz)) sz=some v.1∧kR w κ pv (f v.2) v.1:=fun i hi=>by
   have h1:=hget0 i hi;rw[qAc (by omega),hc] at h1;obtain⟨cs',h2,h3⟩:=Option.bind_eq_some_iff.1 h1;obtain⟨y,hy⟩:=he m (Nat.lt_succ_self m) cs' _ h3;exact⟨(cs',y),h2,hy⟩
  obtain⟨V,hV⟩:=choose_lt hget;refine⟨(List.range len).map fun i=>(V i).2,kR.one ?_⟩;have hlen:(((List.range len).map fun i=>(V i).2).map f).length=len:=by simp
  have hgetD:∀i,i<len→(((List.range len).map fun i=>(V i).2).map f).getD i []=f (V i).2:=fun i hi=>by
   simp[List.getD,qAJ,List.getElem?_range hi]
  have hcell:∀i j,i<len→j<sz→w.cell? ((a.add (i*sz)).add j)=some ((V i).1.getD j undef):=fun i j hi hj=>by
   obtain⟨_,h2,h3⟩:=World.cells?_some (hV i hi).1;rw[h3 j hj,List.getD,qAc (by omega)];rfl
  have hspot:0<len→a.spot=none:=fun h0=>by
   have:=World.cell?_spot (hcell 0 0 h0 hsz);simpa[Addr.add] using this
  have hadd:∀i j:Nat,a.spot=none→(a.add i).add j=⟨a.block,a.off+(i+j),none⟩:=fun i j hs=>by
   obtain⟨b,o,s⟩:=a;simp only at hs;subst hs;unfold Addr.add;by_cases hi:i=0
   ·subst hi;by_cases hj:j=0
    ·subst hj;simp
    ·simp[hj]
   ·by_cases hj:j=0
    ·subst hj;simp[hi]
    ·simp[hi,hj];omega
  have key:=Rel.slice (w:=w) (κ:=κ) (pv:=pv) (es:=((List.range len).map fun i=>(V i).2).map f) (tag:=.shared) (a:=some a) (cap:=cap) a.block a.off sz (fun i j=>(V i).1.getD j undef)
   (fun i hi=>by rw[hlen] at hi;rw[hgetD i hi,hf]) (fun hne=>by
    have h0:0<len:=by
     apply qCi;intro h0;apply hne;rw[h0];rfl
    rw[←hspot h0]) (by rw[hlen];exact hcap) (by rw[hlen];simp only[maxLen] at hmax;omega)
   (fun i j _ _=>hpv _ _) (fun i j hi hj=>by
    rw[hlen] at hi;have h1:=hcell i j hi hj;rw[hadd _ _ (hspot (by omega))] at h1;exact h1)
   (fun i j hi hj=>by
    rw[hlen] at hi;rw[hgetD i hi];exact(hV i hi).2.2 j (by rw[hf];exact hj)) trivial
  rw[hlen] at key;exact key
end
instance:Inhabited Ty:=⟨.mk 0 [] []⟩
instance:Inhabited Carrier:=⟨⟨[],[]⟩⟩
instance:Inhabited Decl:=⟨⟨[],.mk 0 [] []⟩⟩
theorem laidOut:laidOutB Tryz.prog=true:=by kernel_rfl
theorem cl9:Tryz.prog.cellsOf 9=1:=by kernel_rfl
theorem asW:Tryz.prog.cellsOf 32=3:=by kernel_rfl
theorem aDU:Tryz.prog.cellsOf 63=2:=by kernel_rfl
theorem aDK:Tryz.prog.cellsOf 66=4:=by kernel_rfl
theorem aDz:Tryz.prog.cellsOf 25=2:=by kernel_rfl
theorem cl3:Tryz.prog.cellsOf 3=1:=by kernel_rfl
theorem aGX:Tryz.prog.cellsOf 30=1:=by kernel_rfl
theorem aGk:Tryz.prog.cellsOf 61=1:=by kernel_rfl
theorem aGu:Tryz.prog.cellsOf 22=1:=by kernel_rfl
theorem aGc:Tryz.prog.cellsOf 23=1:=by kernel_rfl
end
section
open Go Go.Proofs Go.Deep Go.WideShapes
section
variable {H:Type}{enc:TypeId×Value→H}{w:World}{base:Nat}{spare:Nat→Bool}{held:Bool}{κ:aL}{pv:bJ}
theorem sV{α:Type}{xs:List α}{i n}(h:xs.length=n)(hi:i<n):∃y,xs[i]? =some y:=⟨xs[i]'(by omega),qAc (by omega)⟩
theorem av9 t:(mX t).length=3:=by rw[ku];rfl
set_option maxRecDepth 100000 in
theorem apP(hpv:∀b o,¬pv b o) fuel:Reads enc Tryz.prog w base spare held κ pv 32 mX fuel:=by
 induction fuel using Nat.strongRecOn with
 | _ fuel ih=>
  intro cs x h;obtain⟨xs,n,rfl,_,hl,hlen,hf⟩:=DataW.trod_struct Tryz.underlying32 h;rw[asW] at hl
  match cs,hl with
  | [c0,c1,c2],_=>
   obtain⟨y0,e0⟩:=sV (i:=0) hlen (by decide);obtain⟨y1,e1⟩:=sV (i:=1) hlen (by decide);obtain⟨y2,e2⟩:=sV (i:=2) hlen (by decide);have h0:=hf 0 _ rfl;have h1:=hf 1 _ rfl;have h2:=hf 2 _ rfl;simp only[e0,cl3,qAX,qAN,qAT] at h0;simp only[e1,cl9,qBf,qAX,qAN,qAT] at h1;simp only[e2,aGX,qBf,qAX,qAN,qAT] at h2;obtain⟨k,hk⟩:=E5 (κ:=κ) (pv:=pv) Tryz.underlying3 n _ _ h0;obtain⟨nm,hn⟩:=EZ (κ:=κ) (pv:=pv) Tryz.underlying9 n _ _ h1;obtain⟨ks,hks⟩:=rR (f:=mX) Tryz.underlying30 asW (by decide) av9 hpv (fun m hm=>ih m (by omega)) _ _ h2;refine⟨.mk k nm ks,?_⟩;have:=hk.app (hn.app hks);rw[ku];exact this
set_option maxRecDepth 100000 in
theorem atL(hpv:∀b o,¬pv b o) fuel:Reads enc Tryz.prog w base spare held κ pv 61 (fun l:List Str=>[.slice (l.map encS) .shared]) fuel:=
 rR (f:=encS) Tryz.underlying61 cl9 (by decide) (fun _=>rfl) hpv (fun m _=>EZ Tryz.underlying9 m)
set_option maxRecDepth 100000 in
theorem ak3(hpv:∀b o,¬pv b o) fuel:Reads enc Tryz.prog w base spare held κ pv 63 jH fuel:=by
 intro cs x h;obtain⟨xs,n,rfl,_,hl,hlen,hf⟩:=DataW.trod_struct Tryz.underlying63 h;rw[aDU] at hl
 match cs,hl with
 | [c0,c1],_=>
  obtain⟨y0,e0⟩:=sV (i:=0) hlen (by decide);obtain⟨y1,e1⟩:=sV (i:=1) hlen (by decide);have h0:=hf 0 _ rfl;have h1:=hf 1 _ rfl;simp only[e0,cl9,qAX,qAN,qAT] at h0;simp only[e1,aGk,qBf,qAX,qAN,qAT] at h1;obtain⟨nm,hn⟩:=EZ (κ:=κ) (pv:=pv) Tryz.underlying9 n _ _ h0;obtain⟨es,hes⟩:=atL hpv n _ _ h1;exact⟨⟨nm,es⟩,hn.app hes⟩
set_option maxRecDepth 100000 in
theorem atV(hpv:∀b o,¬pv b o) fuel:Reads enc Tryz.prog w base spare held κ pv 66 gM fuel:=by
 intro cs x h;obtain⟨xs,n,rfl,_,hl,hlen,hf⟩:=DataW.trod_struct Tryz.underlying66 h;rw[aDK] at hl
 match cs,hl with
 | [c0,c1,c2,c3],_=>
  obtain⟨y0,e0⟩:=sV (i:=0) hlen (by decide);obtain⟨y1,e1⟩:=sV (i:=1) hlen (by decide);have h0:=hf 0 _ rfl;have h1:=hf 1 _ rfl;simp only[e0,cl9,qAX,qAN,qAT] at h0;simp only[e1,asW,qBf,qAX,qAN,qAT] at h1;obtain⟨nm,hn⟩:=EZ (κ:=κ) (pv:=pv) Tryz.underlying9 n _ _ h0;obtain⟨t,ht⟩:=apP hpv n _ _ h1;refine⟨⟨nm,t⟩,?_⟩;have:=hn.app ht;rw[ku] at this;exact this
def afi(e:Env):List AV:=[.slice (e.carriers.map jH) .shared,.slice (e.names.map gM) .shared]
set_option maxRecDepth 100000 in
theorem au9(hpv:∀b o,¬pv b o) fuel:Reads enc Tryz.prog w base spare held κ pv 25 afi fuel:=by
 intro cs x h;obtain⟨xs,n,rfl,_,hl,hlen,hf⟩:=DataW.trod_struct Tryz.underlying25 h;rw[aDz] at hl
 match cs,hl with
 | [c0,c1],_=>
  obtain⟨y0,e0⟩:=sV (i:=0) hlen (by decide);obtain⟨y1,e1⟩:=sV (i:=1) hlen (by decide);have h0:=hf 0 _ rfl;have h1:=hf 1 _ rfl;simp only[e0,aGu,qAX,qAN,qAT] at h0;simp only[e1,aGc,qBf,qAX,qAN,qAT] at h1;obtain⟨cs,hcs⟩:=rR (f:=jH) Tryz.underlying22 aDU (by decide) (fun _=>rfl) hpv (fun m _=>ak3 hpv m) _ _ h0;obtain⟨ds,hds⟩:=rR (f:=gM) Tryz.underlying23 aDK (by decide) (fun _=>rfl) hpv (fun m _=>atV hpv m) _ _ h1;exact⟨⟨cs,ds⟩,hcs.app hds⟩
set_option maxRecDepth 100000 in
theorem ZI{α}{r}{b0}{t}{fs}{f}{v}{d}{p}(hs:Tryz.prog.underlying t=some (.struct fs))(hv:Value.okWide Tryz.prog w r b0 t v)
  (h:DataW.Trod enc Tryz.prog w base spare held t v d p) (hr:∀fuel,Reads enc Tryz.prog w base spare held κ pv t f fuel):∃a:α,Rel w κ pv (.agg (f a)) v:=by
 obtain⟨cs,rfl,hsz⟩:=okWide_struct hs hv;obtain⟨fuel,hf⟩:=h;obtain⟨a,h1,h2⟩:=hr fuel _ _ hf;simp only[Value.cells] at h1 h2;refine⟨a,?_⟩;have:=Rel.agg (w:=w) (κ:=κ) (pv:=pv) h1 h2;simpa using this
end
set_option maxRecDepth 100000 in
theorem aDe w:Entry [] (fun _ _=>False) [] w:=
 ⟨rfl,fun l _=>rfl,fun l b h=>by simp[at?] at h,fun l l' b h=>by simp[at?] at h,fun l b h=>by simp[at?] at h,fun _ _ h=>h.elim,fun _ _ _ h=>h.elim⟩
set_option maxRecDepth 100000 in
theorem aj:∀b o,¬aD (fun _ _=>False) [] [] b o:=fun b o h=>by
 rcases h with h | ⟨l,h,_⟩
 ·exact h
 ·simp[at?] at h
set_option maxRecDepth 100000 in
theorem azO{f}{args}{vs:List Value}{w}(h:cZ Tryz.prog f args [] (.bool true) [])(hl:vs.length=args.length)
  (hr:∀j,j<args.length→Rel w [] (aD (fun _ _=>False) [] []) (args.getD j .unk) (vs.getD j undef)):
  Calls Tryz.prog f vs.toArray w fun e w'=>e=.returned (.bool true)∧Go.RowKit.Below w.heap.size w w':=by
 refine(h [] (fun _ _=>False) w vs (aDe w) hl hr).mono fun e w' ⟨v,κ',he,hL,hv⟩=>?_;cases hv;exact⟨he,hL.os,hL.tape,hL.output,hL.kH.size,fun k hk=>hL.kept k hk fun l h=>by simp[at?] at h⟩
end
section
open Go Go.Proofs Go.Deep Go.WideShapes
instance:Inhabited Val:=⟨.mk 0 0 [] []⟩
def wY(x:S_api_World):List AV:=[.slice (List.map jH x.env.carriers) .shared,.slice (List.map gM x.env.names) .shared,.slice (List.map encI x.sizes) .shared,.slice (List.map aN x.values) .shared]
theorem azR:Tryz.prog.cellsOf 40=4:=by kernel_rfl
theorem aD2:Tryz.prog.cellsOf 27=1:=by kernel_rfl
theorem aGs:Tryz.prog.cellsOf 26=1:=by kernel_rfl
theorem aGM:Tryz.prog.cellsOf 29=4:=by kernel_rfl
theorem M4 t:(aN t).length=4:=by rw[fF];rfl
section
variable {H:Type}{enc:TypeId×Value→H}{w:World}{base:Nat}{spare:Nat→Bool}{held:Bool}{κ:aL}{pv:bJ}
set_option maxRecDepth 100000 in
theorem avA(hpv:∀b o,¬pv b o) fuel:Reads enc Tryz.prog w base spare held κ pv 40 aN fuel:=by
 induction fuel using Nat.strongRecOn with
 | _ fuel ih=>
  intro cs x h;obtain⟨xs,n,rfl,_,hl,hlen,hf⟩:=DataW.trod_struct Tryz.underlying40 h;rw[azR] at hl
  match cs,hl with
  | [c0,c1,c2,c3],_=>
   obtain⟨y0,e0⟩:=sV (i:=0) hlen (by decide);obtain⟨y1,e1⟩:=sV (i:=1) hlen (by decide);obtain⟨y2,e2⟩:=sV (i:=2) hlen (by decide);obtain⟨y3,e3⟩:=sV (i:=3) hlen (by decide);have h0:=hf 0 _ rfl;have h1:=hf 1 _ rfl;have h2:=hf 2 _ rfl;have h3:=hf 3 _ rfl;simp only[e0,cl3,qAX,qAN,qAT] at h0;simp only[e1,cl3,qBf,qAX,qAN,qAT] at h1;simp only[e2,cl9,qBf,qAX,qAN,qAT] at h2;simp only[e3,aD2,qBf,qAX,qAN,qAT] at h3;obtain⟨k,hk⟩:=E5 (κ:=κ) (pv:=pv) Tryz.underlying3 n _ _ h0;obtain⟨m,hm⟩:=E5 (κ:=κ) (pv:=pv) Tryz.underlying3 n _ _ h1;obtain⟨nm,hn⟩:=EZ (κ:=κ) (pv:=pv) Tryz.underlying9 n _ _ h2;obtain⟨ks,hks⟩:=rR (f:=aN) Tryz.underlying27 azR (by decide) M4 hpv (fun m hm=>ih m (by omega)) _ _ h3;refine⟨.mk k m nm ks,?_⟩;have:=hk.app (hm.app (hn.app hks));rw[fF];exact this
set_option maxRecDepth 100000 in
theorem aqy(hpv:∀b o,¬pv b o) fuel:Reads enc Tryz.prog w base spare held κ pv 27 (fun l:List Val=>[.slice (l.map aN) .shared]) fuel:=
 rR (f:=aN) Tryz.underlying27 azR (by decide) M4 hpv (fun m _=>avA hpv m)
set_option maxRecDepth 100000 in
theorem aqS(hpv:∀b o,¬pv b o) fuel:Reads enc Tryz.prog w base spare held κ pv 26 (fun l:List Int=>[.slice (l.map encI) .shared]) fuel:=
 rR (f:=encI) Tryz.underlying26 cl3 (by decide) (fun _=>rfl) hpv (fun m _=>E5 Tryz.underlying3 m)
set_option maxRecDepth 100000 in
theorem aqY(hpv:∀b o,¬pv b o) fuel:Reads enc Tryz.prog w base spare held κ pv 29 wY fuel:=by
 intro cs x h;obtain⟨xs,n,rfl,_,hl,hlen,hf⟩:=DataW.trod_struct Tryz.underlying29 h;rw[aGM] at hl
 match cs,hl with
 | [c0,c1,c2,c3],_=>
  obtain⟨y0,e0⟩:=sV (i:=0) hlen (by decide);obtain⟨y1,e1⟩:=sV (i:=1) hlen (by decide);obtain⟨y2,e2⟩:=sV (i:=2) hlen (by decide);have h0:=hf 0 _ rfl;have h1:=hf 1 _ rfl;have h2:=hf 2 _ rfl;simp only[e0,aDz,qAX,qAN,qAT] at h0;simp only[e1,aGs,qBf,qAX,qAN,qAT] at h1;simp only[e2,aD2,qBf,qAX,qAN,qAT] at h2;obtain⟨env,henv⟩:=au9 (κ:=κ) hpv n _ _ h0;obtain⟨sz,hsz⟩:=aqS (κ:=κ) hpv n _ _ h1;obtain⟨vs,hvs⟩:=aqy (κ:=κ) hpv n _ _ h2;exact⟨⟨env,sz,vs⟩,henv.app (hsz.app hvs)⟩
end
theorem ani:∀{ts:List Val},(∀t∈ts,mP t)→aaP ts
 | [],_=>trivial
 | t::ts,h=>by
  simp only[aaP];exact⟨h t (qBF ..),ani fun u hu=>h u (qAl _ hu)⟩
theorem afl{w}{κ}{pv}{ts:List Val}{u}(ih:∀t∈ts,∀f:Nat→Value,(∀j,j<4→Rel w κ pv ((aN t).getD j .unk) (f j))→mP t)(h:Rel w κ pv (.slice (ts.map aN) .shared) u):ts.length≤9223372036854775807∧∀t∈ts,mP t:=by
 cases h with
 | slice b off sz f h1 h2 h3 h3' h4 h5 h6 _=>
  refine⟨by simpa using h3',fun t ht=>?_⟩;obtain⟨i,hi,rfl⟩:=qBH.1 ht;have hi':i<(ts.map aN).length:=by simpa using hi
  have eg:(ts.map aN).getD i []=aN ts[i]:=by simp[List.getD,qAJ,qAc hi]
  have hsz:=h1 i hi';rw[eg,M4] at hsz;refine ih _ (qAO hi) (f i) fun j hj=>?_;have:=h6 i j hi' (by omega);rw[eg] at this;exact this
theorem ajV{w}{κ}{pv}:∀t:Val,∀f:Nat→Value,(∀j,j<4→Rel w κ pv ((aN t).getD j .unk) (f j))→mP t:=Val.ind fun k n s ks ih f h=>by
 have h3:=h 3 (by decide);rw[fF] at h3;have:=afl ih h3;simp only[mP];exact⟨this.1,ani this.2⟩
theorem aqi{ts:List Val}{w}{κ}{pv}{v}(h:Rel w κ pv (.slice (ts.map aN) .shared) v):ts.length≤9223372036854775807∧∀t∈ts,mP t:=afl (fun t _ f hf=>ajV t f hf) h
theorem aqG{env:Env}{w}{κ}{pv}{u}(h1:Rel w κ pv (.slice (env.names.map gM) .shared) u):∀d∈env.names,d.name.length≤9223372036854775807:=by
 intro d hd;obtain⟨i,hi,rfl⟩:=qBH.1 hd;cases h1 with
 | slice b off sz f h1 h2 h3 h3' h4 h5 h6 _=>
  have hi':i<(env.names.map gM).length:=by simpa using hi
  have eg:(env.names.map gM).getD i []=gM env.names[i]:=by simp[List.getD,qAJ,qAc hi]
  have hsz:=h1 i hi';rw[eg] at hsz;have hz:sz=4:=hsz.symm;have:=h6 i 0 hi' (by omega);rw[eg] at this;have e2:(gM env.names[i]).getD 0 .unk=.str env.names[i].name:=rfl;rw[e2] at this;generalize f i 0=g at this;cases this
  assumption
theorem ars{x}{w}{κ}{pv}{v}(h:Rel w κ pv (.agg (wY x)) v):(∀d∈x.env.names,d.name.length≤9223372036854775807)∧∀v∈x.values,mP v:=by
 cases h with
 | @agg _ vs hl hj=>exact⟨aqG (hj 1 (by simp[wY])),(aqi (hj 3 (by simp[wY]))).2⟩
end
section
open Go Go.Proofs Go.Deep Go.WideShapes
instance:Inhabited Tm:=⟨.mk 0 [] 0 (.mk 0 [] []) []⟩
theorem aDc:Tryz.prog.cellsOf 35=7:=by kernel_rfl
theorem aGa:Tryz.prog.cellsOf 33=1:=by kernel_rfl
theorem Y9 t:(jU t).length=7:=by rw[sQ];rfl
section
variable {H:Type}{enc:TypeId×Value→H}{w:World}{base:Nat}{spare:Nat→Bool}{held:Bool}{κ:aL}{pv:bJ}
set_option maxRecDepth 100000 in
theorem apA(hpv:∀b o,¬pv b o) fuel:Reads enc Tryz.prog w base spare held κ pv 35 jU fuel:=by
 induction fuel using Nat.strongRecOn with
 | _ fuel ih=>
  intro cs x h;obtain⟨xs,n,rfl,_,hl,hlen,hf⟩:=DataW.trod_struct Tryz.underlying35 h;rw[aDc] at hl
  match cs,hl with
  | [c0,c1,c2,c3,c4,c5,c6],_=>
   obtain⟨y0,e0⟩:=sV (i:=0) hlen (by decide);obtain⟨y1,e1⟩:=sV (i:=1) hlen (by decide);obtain⟨y2,e2⟩:=sV (i:=2) hlen (by decide);obtain⟨y3,e3⟩:=sV (i:=3) hlen (by decide);obtain⟨y4,e4⟩:=sV (i:=4) hlen (by decide);have h0:=hf 0 _ rfl;have h1:=hf 1 _ rfl;have h2:=hf 2 _ rfl;have h3:=hf 3 _ rfl;have h4:=hf 4 _ rfl;simp only[e0,cl3,qAX,qAN,qAT] at h0;simp only[e1,cl9,qBf,qAX,qAN,qAT] at h1;simp only[e2,cl3,qBf,qAX,qAN,qAT] at h2;simp only[e3,asW,qBf,qAX,qAN,qAT] at h3;simp only[e4,aGa,qBf,qAX,qAN,qAT] at h4;obtain⟨k,hk⟩:=E5 (κ:=κ) (pv:=pv) Tryz.underlying3 n _ _ h0;obtain⟨nm,hn⟩:=EZ (κ:=κ) (pv:=pv) Tryz.underlying9 n _ _ h1;obtain⟨m,hm⟩:=E5 (κ:=κ) (pv:=pv) Tryz.underlying3 n _ _ h2;obtain⟨t,ht⟩:=apP hpv n _ _ h3;obtain⟨ks,hks⟩:=rR (f:=jU) Tryz.underlying33 aDc (by decide) Y9 hpv (fun m hm=>ih m (by omega)) _ _ h4;refine⟨.mk k nm m t ks,?_⟩;have:=hk.app (hn.app (hm.app (ht.app hks)));rw[ku] at this;rw[sQ];exact this
end
theorem arI:∀{ts:List Tm},(∀t∈ts,CW t)→ads ts
 | [],_=>trivial
 | t::ts,h=>by
  simp only[ads];exact⟨h t (qBF ..),arI fun u hu=>h u (qAl _ hu)⟩
theorem avu{w}{κ}{pv}{ts:List Tm}{u}(ih:∀t∈ts,∀f:Nat→Value,(∀j,j<7→Rel w κ pv ((jU t).getD j .unk) (f j))→CW t)(h:Rel w κ pv (.slice (ts.map jU) .shared) u):∀t∈ts,CW t:=by
 intro t ht;obtain⟨i,hi,rfl⟩:=qBH.1 ht;cases h with
 | slice b off sz f h1 h2 h3 h3' h4 h5 h6 _=>
  have hi':i<(ts.map jU).length:=by simpa using hi
  have eg:(ts.map jU).getD i []=jU ts[i]:=by simp[List.getD,qAJ,qAc hi]
  have hsz:=h1 i hi';rw[eg,Y9] at hsz;refine ih _ (qAO hi) (f i) fun j hj=>?_;have:=h6 i j hi' (by omega);rw[eg] at this;exact this
theorem ayc{w}{κ}{pv}:∀t:Tm,∀f:Nat→Value,(∀j,j<7→Rel w κ pv ((jU t).getD j .unk) (f j))→CW t:=Tm.ind fun op nm m ty ks ih f h=>by
 have h1:=h 1 (by decide);have h6:=h 6 (by decide);rw[sQ] at h1 h6;simp only[CW];refine⟨?_,arI (avu ih h6)⟩;have h1':Rel w κ pv (.str nm) (f 1):=h1;generalize f 1=g at h1';cases h1'
 assumption
theorem aoI{t}{w}{κ}{pv}{v}(h:Rel w κ pv (.agg (jU t)) v):CW t:=by
 cases h with
 | @agg _ vs hl hj=>exact ayc t (fun j=>vs.getD j undef) fun j h=>hj j (by rw[Y9];exact h)
end
end Abs
end Go.Proofs.YtneeginmfjageaaGreat
