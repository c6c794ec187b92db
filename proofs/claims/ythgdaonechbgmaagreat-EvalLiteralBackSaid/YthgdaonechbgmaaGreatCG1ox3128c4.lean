/-
  From what the claim's form reads of an argument to the abstract values: a datum of the program's types that can be read stands for a plain tree. Conditions: none; lemmas over any program, then at the program's types.
-/
import Derived.Test.YthgdaonechbgmaaGreatRows
import Derived.Deep.Slices
import Derived.Deep.Strs
import Derived.ProofKit
import Derived.Below
import Derived.Carry
import Derived.Test.YthgdaonechbgmaaGreatCP2ox7ac579
set_option linter.all false
namespace Go.Proofs.YthgdaonechbgmaaGreat
namespace Abs
section
open Go Go.Proofs Go.Deep
def mM(w:World)(κ:aS)(pv:bU)(xs:List AV)(cs:List Value):Prop:=cs.length=xs.length∧∀j,j<xs.length→Rel w κ pv (xs.getD j .unk) (cs.getD j undef)
theorem mM.one{w:World}{κ:aS}{pv:bU}{x:AV}{v:Value}(h:Rel w κ pv x v):mM w κ pv [x] [v]:=⟨rfl,fun j hj=>by
 have:j=0:=by simp at hj;omega
 subst this;exact h⟩
theorem mM.app{w:World}{κ:aS}{pv:bU}{xs ys:List AV}{cs ds:List Value}(h:mM w κ pv xs cs)(k:mM w κ pv ys ds):mM w κ pv (xs++ys) (cs++ds):=by
 refine⟨by simp[h.1,k.1],fun j hj=>?_⟩;by_cases hx:j<xs.length
 ·have e1:(xs++ys).getD j .unk=xs.getD j .unk:=by simp[List.getD,qAg hx]
  have e2:(cs++ds).getD j undef=cs.getD j undef:=by simp[List.getD,qAg (show j<cs.length by rw[h.1];exact hx)]
  rw[e1,e2];exact h.2 j hx
 ·have e1:(xs++ys).getD j .unk=ys.getD (j - xs.length) .unk:=by simp[List.getD,qAl (qBd hx)]
  have e2:(cs++ds).getD j undef=ds.getD (j - xs.length) undef:=by simp[List.getD,qAl (show cs.length≤j by rw[h.1];omega),h.1]
  rw[e1,e2];exact k.2 _ (by simp at hj;omega)
section
variable {H:Type}{enc:TypeId×Value→H}{P:Program}{w:World}{base:Nat}{spare:Nat→Bool}{held:Bool}{κ:aS}{pv:bU}
def Reads(enc:TypeId×Value→H)(P:Program)(w:World)(base:Nat)(spare:Nat→Bool)(held:Bool)(κ:aS)(pv:bU){α:Type}(t:TypeId)(f:α→List AV)(fuel:Nat):Prop:=
 ∀cs x,DataW.trod enc P w base spare held fuel t cs=some x→∃a:α,mM w κ pv (f a) cs
theorem IY{t:TypeId}(ht:P.underlying t=some (.int .i64))(fuel:Nat):Reads enc P w base spare held κ pv t encI fuel:=fun cs x h=>by
 obtain⟨n,rfl,_,hw⟩:=DataW.trod_int ht h;refine⟨n,mM.one (.int ?_)⟩;simpa[Lit.wf,sj]using hw
theorem Ig{t:TypeId}(ht:P.underlying t=some .string)(fuel:Nat):Reads enc P w base spare held κ pv t encS fuel:=fun cs x h=>by
 obtain⟨s,rfl,_,hw⟩:=DataW.trod_string ht h;refine⟨s.data.toList,mM.one ?_⟩;have:=Rel.str (w:=w) (κ:=κ) (pv:=pv) (s:=s.data.toList) (by
  have:s.data.size≤maxLen:=hw;simpa[maxLen]using this)
 simpa using this
theorem uw{α:Type}[Inhabited α]{t e:TypeId}{f:α→List AV}{sz:Nat}(ht:P.underlying t=some (.slice e))(hc:P.cellsOf e=sz)(hsz:0<sz)(hf:∀a,(f a).length=sz)(hpv:∀b o,¬pv b o){fuel:Nat}
  (he:∀n,n<fuel→Reads enc P w base spare held κ pv e f n):Reads enc P w base spare held κ pv t (fun l:List α=>[.slice (l.map f) .shared]) fuel:=fun cs x h=>by
 rcases DataW.trod_slice ht h with⟨rfl,_⟩|⟨a,len,cap,elems,rest,m,rfl,rfl,_,_,hcap,hmax,hel,hget0,_,_⟩
 ·refine⟨[],mM.one ?_⟩;exact .slice (es:=[]) (tag:=.shared) (a:=none) (cap:=0) 0 0 sz (fun _ _=>undef) (fun i h=>by cases h) (fun h=>(h rfl).elim) (qAZ _) (by simp) (fun i j h=>by cases h) (fun i j h=>by cases h) (fun i j h=>by cases h) trivial
 ·have hget:∀i,i<len→∃v:List Value×α,w.cells? base (a.add (i*sz)) sz=some v.1∧mM w κ pv (f v.2) v.1:=fun i hi=>by
   have h1:=hget0 i hi;rw[qAc (by omega),hc]at h1;obtain⟨cs',h2,h3⟩:=Option.bind_eq_some_iff.1 h1;obtain⟨y,hy⟩:=he m (Nat.lt_succ_self m) cs' _ h3;exact⟨(cs',y),h2,hy⟩
  obtain⟨V,hV⟩:=choose_lt hget;refine⟨(List.range len).map fun i=>(V i).2,mM.one ?_⟩;have hlen:(((List.range len).map fun i=>(V i).2).map f).length=len:=by simp
  have hgetD:∀i,i<len→(((List.range len).map fun i=>(V i).2).map f).getD i []=f (V i).2:=fun i hi=>by
   simp[List.getD,qAE,List.getElem?_range hi]
  have hcell:∀i j,i<len→j<sz→w.cell? ((a.add (i*sz)).add j)=some ((V i).1.getD j undef):=fun i j hi hj=>by
   obtain⟨_,h2,h3⟩:=World.cells?_some (hV i hi).1;rw[h3 j hj,List.getD,qAc (by omega)];rfl
  have hspot:0<len→a.spot=none:=fun h0=>by
   have:=World.cell?_spot (hcell 0 0 h0 hsz);simpa[Addr.add]using this
  have hadd:∀i j:Nat,a.spot=none→(a.add i).add j=⟨a.block,a.off+(i+j),none⟩:=fun i j hs=>by
   obtain⟨b,o,s⟩:=a;simp only at hs;subst hs;unfold Addr.add;by_cases hi:i=0
   ·subst hi;by_cases hj:j=0
    ·subst hj;simp
    ·simp[hj]
   ·by_cases hj:j=0
    ·subst hj;simp[hi]
    ·simp[hi,hj];omega
  have key:=Rel.slice (w:=w) (κ:=κ) (pv:=pv) (es:=((List.range len).map fun i=>(V i).2).map f) (tag:=.shared) (a:=some a) (cap:=cap) a.block a.off sz (fun i j=>(V i).1.getD j undef)
   (fun i hi=>by rw[hlen]at hi;rw[hgetD i hi,hf]) (fun hne=>by
    have h0:0<len:=by
     apply qCc;intro h0;apply hne;rw[h0];rfl
    rw[←hspot h0]) (by rw[hlen];exact hcap) (by rw[hlen];simp only[maxLen]at hmax;omega)
   (fun i j _ _=>hpv _ _) (fun i j hi hj=>by
    rw[hlen]at hi;have h1:=hcell i j hi hj;rw[hadd _ _ (hspot (by omega))]at h1;exact h1)
   (fun i j hi hj=>by
    rw[hlen]at hi;rw[hgetD i hi];exact(hV i hi).2.2 j (by rw[hf];exact hj)) trivial
  rw[hlen]at key;exact key
end
instance:Inhabited Ty:=⟨.mk 0 [] []⟩
instance:Inhabited Carrier:=⟨⟨[],[]⟩⟩
instance:Inhabited Decl:=⟨⟨[],.mk 0 [] []⟩⟩
theorem laidOut:laidOutB Tryz.prog=true:=by kernel_rfl
theorem cl9:Tryz.prog.cellsOf 9=1:=by kernel_rfl
theorem axO:Tryz.prog.cellsOf 32=3:=by kernel_rfl
theorem aGs:Tryz.prog.cellsOf 64=2:=by kernel_rfl
theorem aGN:Tryz.prog.cellsOf 67=4:=by kernel_rfl
theorem aGA:Tryz.prog.cellsOf 25=2:=by kernel_rfl
theorem cl3:Tryz.prog.cellsOf 3=1:=by kernel_rfl
theorem aKz:Tryz.prog.cellsOf 30=1:=by kernel_rfl
theorem aLb:Tryz.prog.cellsOf 62=1:=by kernel_rfl
theorem aKQ:Tryz.prog.cellsOf 22=1:=by kernel_rfl
theorem aKv:Tryz.prog.cellsOf 23=1:=by kernel_rfl
end
section
open Go Go.Proofs Go.Deep Go.WideShapes
section
variable {H:Type}{enc:TypeId×Value→H}{w:World}{base:Nat}{spare:Nat→Bool}{held:Bool}{κ:aS}{pv:bU}
theorem uW{α:Type}{xs:List α}{i n:Nat}(h:xs.length=n)(hi:i<n):∃y,xs[i]? =some y:=⟨xs[i]'(by omega),qAc (by omega)⟩
theorem azz(t:Ty):(oK t).length=3:=by rw[lU];rfl
set_option maxRecDepth 100000 in
theorem arX(hpv:∀b o,¬pv b o)(fuel:Nat):Reads enc Tryz.prog w base spare held κ pv 32 oK fuel:=by
 induction fuel using Nat.strongRecOn with
 |_ fuel ih=>
  intro cs x h;obtain⟨xs,n,rfl,_,hl,hlen,hf⟩:=DataW.trod_struct Tryz.underlying32 h;rw[axO]at hl
  match cs,hl with
  |[c0,c1,c2],_=>
   obtain⟨y0,e0⟩:=uW (i:=0) hlen (by decide);obtain⟨y1,e1⟩:=uW (i:=1) hlen (by decide);obtain⟨y2,e2⟩:=uW (i:=2) hlen (by decide);have h0:=hf 0 _ rfl;have h1:=hf 1 _ rfl;have h2:=hf 2 _ rfl;simp only[e0,cl3,qAY,qAN,qAX]at h0;simp only[e1,cl9,qBc,qAY,qAN,qAX]at h1;simp only[e2,aKz,qBc,qAY,qAN,qAX]at h2;obtain⟨k,hk⟩:=IY (κ:=κ) (pv:=pv) Tryz.underlying3 n _ _ h0;obtain⟨nm,hn⟩:=Ig (κ:=κ) (pv:=pv) Tryz.underlying9 n _ _ h1;obtain⟨ks,hks⟩:=uw (f:=oK) Tryz.underlying30 axO (by decide) azz hpv (fun m hm=>ih m (by omega)) _ _ h2;refine⟨.mk k nm ks,?_⟩;have:=hk.app (hn.app hks);rw[lU];exact this
set_option maxRecDepth 100000 in
theorem ayd(hpv:∀b o,¬pv b o)(fuel:Nat):Reads enc Tryz.prog w base spare held κ pv 62 (fun l:List Str=>[.slice (l.map encS) .shared]) fuel:=
 uw (f:=encS) Tryz.underlying62 cl9 (by decide) (fun _=>rfl) hpv (fun m _=>Ig Tryz.underlying9 m)
set_option maxRecDepth 100000 in
theorem ao9(hpv:∀b o,¬pv b o)(fuel:Nat):Reads enc Tryz.prog w base spare held κ pv 64 kU fuel:=by
 intro cs x h;obtain⟨xs,n,rfl,_,hl,hlen,hf⟩:=DataW.trod_struct Tryz.underlying64 h;rw[aGs]at hl
 match cs,hl with
 |[c0,c1],_=>
  obtain⟨y0,e0⟩:=uW (i:=0) hlen (by decide);obtain⟨y1,e1⟩:=uW (i:=1) hlen (by decide);have h0:=hf 0 _ rfl;have h1:=hf 1 _ rfl;simp only[e0,cl9,qAY,qAN,qAX]at h0;simp only[e1,aLb,qBc,qAY,qAN,qAX]at h1;obtain⟨nm,hn⟩:=Ig (κ:=κ) (pv:=pv) Tryz.underlying9 n _ _ h0;obtain⟨es,hes⟩:=ayd hpv n _ _ h1;exact⟨⟨nm,es⟩,hn.app hes⟩
set_option maxRecDepth 100000 in
theorem awH(hpv:∀b o,¬pv b o)(fuel:Nat):Reads enc Tryz.prog w base spare held κ pv 67 ji fuel:=by
 intro cs x h;obtain⟨xs,n,rfl,_,hl,hlen,hf⟩:=DataW.trod_struct Tryz.underlying67 h;rw[aGN]at hl
 match cs,hl with
 |[c0,c1,c2,c3],_=>
  obtain⟨y0,e0⟩:=uW (i:=0) hlen (by decide);obtain⟨y1,e1⟩:=uW (i:=1) hlen (by decide);have h0:=hf 0 _ rfl;have h1:=hf 1 _ rfl;simp only[e0,cl9,qAY,qAN,qAX]at h0;simp only[e1,axO,qBc,qAY,qAN,qAX]at h1;obtain⟨nm,hn⟩:=Ig (κ:=κ) (pv:=pv) Tryz.underlying9 n _ _ h0;obtain⟨t,ht⟩:=arX hpv n _ _ h1;refine⟨⟨nm,t⟩,?_⟩;have:=hn.app ht;rw[lU]at this;exact this
def aj5(e:Env):List AV:=[.slice (e.carriers.map kU) .shared,.slice (e.names.map ji) .shared]
set_option maxRecDepth 100000 in
theorem ayP(hpv:∀b o,¬pv b o)(fuel:Nat):Reads enc Tryz.prog w base spare held κ pv 25 aj5 fuel:=by
 intro cs x h;obtain⟨xs,n,rfl,_,hl,hlen,hf⟩:=DataW.trod_struct Tryz.underlying25 h;rw[aGA]at hl
 match cs,hl with
 |[c0,c1],_=>
  obtain⟨y0,e0⟩:=uW (i:=0) hlen (by decide);obtain⟨y1,e1⟩:=uW (i:=1) hlen (by decide);have h0:=hf 0 _ rfl;have h1:=hf 1 _ rfl;simp only[e0,aKQ,qAY,qAN,qAX]at h0;simp only[e1,aKv,qBc,qAY,qAN,qAX]at h1;obtain⟨cs,hcs⟩:=uw (f:=kU) Tryz.underlying22 aGs (by decide) (fun _=>rfl) hpv (fun m _=>ao9 hpv m) _ _ h0;obtain⟨ds,hds⟩:=uw (f:=ji) Tryz.underlying23 aGN (by decide) (fun _=>rfl) hpv (fun m _=>awH hpv m) _ _ h1;exact⟨⟨cs,ds⟩,hcs.app hds⟩
set_option maxRecDepth 100000 in
theorem amT{α:Type}{r:Reach}{b0:Nat}{t:TypeId}{fs:Array Field}{f:α→List AV}{v:Value}{d:DataW H}{p:List MemPlace}(hs:Tryz.prog.underlying t=some (.struct fs))(hv:Value.okWide Tryz.prog w r b0 t v)
  (h:DataW.Trod enc Tryz.prog w base spare held t v d p) (hr:∀fuel,Reads enc Tryz.prog w base spare held κ pv t f fuel):∃a:α,Rel w κ pv (.agg (f a)) v:=by
 obtain⟨cs,rfl,hsz⟩:=okWide_struct hs hv;obtain⟨fuel,hf⟩:=h;obtain⟨a,h1,h2⟩:=hr fuel _ _ hf;simp only[Value.cells]at h1 h2;refine⟨a,?_⟩;have:=Rel.agg (w:=w) (κ:=κ) (pv:=pv) h1 h2;simpa using this
end
set_option maxRecDepth 100000 in
theorem aHn(w:World):Entry [] (fun _ _=>False) [] w:=
 ⟨rfl,fun l _=>rfl,fun l b h=>by simp[at?]at h,fun l l' b h=>by simp[at?]at h,fun l b h=>by simp[at?]at h,fun _ _ h=>h.elim,fun _ _ _ h=>h.elim⟩
set_option maxRecDepth 100000 in
theorem ak:∀b o,¬aH (fun _ _=>False) [] [] b o:=fun b o h=>by
 rcases h with h|⟨l,h,_⟩
 ·exact h
 ·simp[at?]at h
set_option maxRecDepth 100000 in
theorem aDc{f:Nat}{args:List AV}{vs:List Value}{w:World}(h:eH Tryz.prog f args [] (.bool true) [])(hl:vs.length=args.length)
  (hr:∀j,j<args.length→Rel w [] (aH (fun _ _=>False) [] []) (args.getD j .unk) (vs.getD j undef)):
  Calls Tryz.prog f vs.toArray w fun e w'=>e=.returned (.bool true)∧Go.RowKit.Below w.heap.size w w':=by
 refine(h [] (fun _ _=>False) w vs (aHn w) hl hr).mono fun e w' ⟨v,κ',he,hL,hv⟩=>?_;cases hv;exact⟨he,hL.os,hL.tape,hL.output,hL.ny.size,fun k hk=>hL.kept k hk fun l h=>by simp[at?]at h⟩
end
section
open Go Go.Proofs Go.Deep Go.WideShapes
instance:Inhabited Val:=⟨.mk 0 0 [] []⟩
def zi(x:S_api_World):List AV:=[.slice (List.map kU x.env.carriers) .shared,.slice (List.map ji x.env.names) .shared,.slice (List.map encI x.sizes) .shared,.slice (List.map bf x.values) .shared]
theorem aC4:Tryz.prog.cellsOf 40=4:=by kernel_rfl
theorem aFW:Tryz.prog.cellsOf 27=1:=by kernel_rfl
theorem aKt:Tryz.prog.cellsOf 26=1:=by kernel_rfl
theorem aKL:Tryz.prog.cellsOf 29=4:=by kernel_rfl
theorem Pv(t:Val):(bf t).length=4:=by rw[iC];rfl
section
variable {H:Type}{enc:TypeId×Value→H}{w:World}{base:Nat}{spare:Nat→Bool}{held:Bool}{κ:aS}{pv:bU}
set_option maxRecDepth 100000 in
theorem aAS(hpv:∀b o,¬pv b o)(fuel:Nat):Reads enc Tryz.prog w base spare held κ pv 40 bf fuel:=by
 induction fuel using Nat.strongRecOn with
 |_ fuel ih=>
  intro cs x h;obtain⟨xs,n,rfl,_,hl,hlen,hf⟩:=DataW.trod_struct Tryz.underlying40 h;rw[aC4]at hl
  match cs,hl with
  |[c0,c1,c2,c3],_=>
   obtain⟨y0,e0⟩:=uW (i:=0) hlen (by decide);obtain⟨y1,e1⟩:=uW (i:=1) hlen (by decide);obtain⟨y2,e2⟩:=uW (i:=2) hlen (by decide);obtain⟨y3,e3⟩:=uW (i:=3) hlen (by decide);have h0:=hf 0 _ rfl;have h1:=hf 1 _ rfl;have h2:=hf 2 _ rfl;have h3:=hf 3 _ rfl;simp only[e0,cl3,qAY,qAN,qAX]at h0;simp only[e1,cl3,qBc,qAY,qAN,qAX]at h1;simp only[e2,cl9,qBc,qAY,qAN,qAX]at h2;simp only[e3,aFW,qBc,qAY,qAN,qAX]at h3;obtain⟨k,hk⟩:=IY (κ:=κ) (pv:=pv) Tryz.underlying3 n _ _ h0;obtain⟨m,hm⟩:=IY (κ:=κ) (pv:=pv) Tryz.underlying3 n _ _ h1;obtain⟨nm,hn⟩:=Ig (κ:=κ) (pv:=pv) Tryz.underlying9 n _ _ h2;obtain⟨ks,hks⟩:=uw (f:=bf) Tryz.underlying27 aC4 (by decide) Pv hpv (fun m hm=>ih m (by omega)) _ _ h3;refine⟨.mk k m nm ks,?_⟩;have:=hk.app (hm.app (hn.app hks));rw[iC];exact this
set_option maxRecDepth 100000 in
theorem auv(hpv:∀b o,¬pv b o)(fuel:Nat):Reads enc Tryz.prog w base spare held κ pv 27 (fun l:List Val=>[.slice (l.map bf) .shared]) fuel:=
 uw (f:=bf) Tryz.underlying27 aC4 (by decide) Pv hpv (fun m _=>aAS hpv m)
set_option maxRecDepth 100000 in
theorem atV(hpv:∀b o,¬pv b o)(fuel:Nat):Reads enc Tryz.prog w base spare held κ pv 26 (fun l:List Int=>[.slice (l.map encI) .shared]) fuel:=
 uw (f:=encI) Tryz.underlying26 cl3 (by decide) (fun _=>rfl) hpv (fun m _=>IY Tryz.underlying3 m)
set_option maxRecDepth 100000 in
theorem aul(hpv:∀b o,¬pv b o)(fuel:Nat):Reads enc Tryz.prog w base spare held κ pv 29 zi fuel:=by
 intro cs x h;obtain⟨xs,n,rfl,_,hl,hlen,hf⟩:=DataW.trod_struct Tryz.underlying29 h;rw[aKL]at hl
 match cs,hl with
 |[c0,c1,c2,c3],_=>
  obtain⟨y0,e0⟩:=uW (i:=0) hlen (by decide);obtain⟨y1,e1⟩:=uW (i:=1) hlen (by decide);obtain⟨y2,e2⟩:=uW (i:=2) hlen (by decide);have h0:=hf 0 _ rfl;have h1:=hf 1 _ rfl;have h2:=hf 2 _ rfl;simp only[e0,aGA,qAY,qAN,qAX]at h0;simp only[e1,aKt,qBc,qAY,qAN,qAX]at h1;simp only[e2,aFW,qBc,qAY,qAN,qAX]at h2;obtain⟨env,henv⟩:=ayP (κ:=κ) hpv n _ _ h0;obtain⟨sz,hsz⟩:=atV (κ:=κ) hpv n _ _ h1;obtain⟨vs,hvs⟩:=auv (κ:=κ) hpv n _ _ h2;exact⟨⟨env,sz,vs⟩,henv.app (hsz.app hvs)⟩
end
theorem asj:∀{ts:List Val},(∀t∈ts,gU t)→UF ts
 |[],_=>trivial
 |t::ts,h=>by
  simp only[UF];exact⟨h t (qBB ..),asj fun u hu=>h u (qAk _ hu)⟩
theorem ah5{w:World}{κ:aS}{pv:bU}{ts:List Val}{u:Value}(ih:∀t∈ts,∀f:Nat→Value,(∀j,j<4→Rel w κ pv ((bf t).getD j .unk) (f j))→gU t)(h:Rel w κ pv (.slice (ts.map bf) .shared) u):ts.length≤9223372036854775807∧∀t∈ts,gU t:=by
 cases h with
 |slice b off sz f h1 h2 h3 h3' h4 h5 h6 _=>
  refine⟨by simpa using h3',fun t ht=>?_⟩;obtain⟨i,hi,rfl⟩:=qBF.1 ht;have hi':i<(ts.map bf).length:=by simpa using hi
  have eg:(ts.map bf).getD i []=bf ts[i]:=by simp[qAc hi]
  have hsz:=h1 i hi';rw[eg,Pv]at hsz;refine ih _ (qAO hi) (f i) fun j hj=>?_
  grind
theorem amU{w:World}{κ:aS}{pv:bU}:∀t:Val,∀f:Nat→Value,(∀j,j<4→Rel w κ pv ((bf t).getD j .unk) (f j))→gU t:=Val.ind fun k n s ks ih f h=>by
 have h3:=h 3 (by decide);rw[iC]at h3;have:=ah5 ih h3;exact⟨this.1,asj this.2⟩
theorem aKh{t:Val}{w:World}{κ:aS}{pv:bU}{v:Value}(h:Rel w κ pv (.agg (bf t)) v):gU t:=by
 cases h with
 |@agg _ vs hl hj=>exact amU t (fun j=>vs.getD j undef) fun j h=>hj j (by rw[Pv];exact h)
theorem at5{ts:List Val}{w:World}{κ:aS}{pv:bU}{v:Value}(h:Rel w κ pv (.slice (ts.map bf) .shared) v):ts.length≤9223372036854775807∧∀t∈ts,gU t:=ah5 (fun t _ f hf=>amU t f hf) h
theorem at0{env:Env}{w:World}{κ:aS}{pv:bU}{u:Value}(h1:Rel w κ pv (.slice (env.names.map ji) .shared) u):∀d∈env.names,d.name.length≤9223372036854775807:=by
 intro d hd;obtain⟨i,hi,rfl⟩:=qBF.1 hd;cases h1 with
 |slice b off sz f h1 h2 h3 h3' h4 h5 h6 _=>
  have hi':i<(env.names.map ji).length:=by simpa using hi
  have eg:(env.names.map ji).getD i []=ji env.names[i]:=by simp[List.getD,qAE,qAc hi]
  have hsz:=h1 i hi';rw[eg]at hsz;have hz:sz=4:=hsz.symm;have:=h6 i 0 hi' (by omega);rw[eg]at this;have e2:(ji env.names[i]).getD 0 .unk=.str env.names[i].name:=rfl;rw[e2]at this;generalize f i 0=g at this;cases this
  assumption
theorem auw{x:S_api_World}{w:World}{κ:aS}{pv:bU}{v:Value}(h:Rel w κ pv (.agg (zi x)) v):(∀d∈x.env.names,d.name.length≤9223372036854775807)∧∀v∈x.values,gU v:=by
 cases h with
 |@agg _ vs hl hj=>exact⟨at0 (hj 1 (by simp[zi])),(at5 (hj 3 (by simp[zi]))).2⟩
end
end Abs
end Go.Proofs.YthgdaonechbgmaaGreat
