/-
  From what the claim's form reads of an argument to the abstract values: a datum of the program's types that can be read stands for a plain tree. Conditions: none; lemmas over any program, then at the program's types.
-/
import Derived.Test.YtbijdmihdagfaaaGreatDoorRows
import Derived.Deep.Slices
import Derived.Deep.Strs
import Derived.ProofKit
import Derived.Below
import Derived.Carry
import Derived.Test.YtbijdmihdagfaaaGreatDoorCP70ox7513c7
set_option linter.all false
namespace Go.Proofs.YtbijdmihdagfaaaGreatDoor
namespace Abs
section
open Go Go.Proofs Go.Deep
def iU(w:World)(κ:aK)(pv:cZ)(xs:List AV)(cs:List Value):Prop:=cs.length=xs.length∧∀j,j<xs.length→Rel w κ pv (xs.getD j .unk) (cs.getD j undef)
theorem iU.one{w:World}{κ:aK}{pv:cZ}{x:AV}{v:Value}(h:Rel w κ pv x v):iU w κ pv [x] [v]:=⟨rfl,fun j hj=>by
 have:j=0:=by simp at hj;omega
 subst this;exact h⟩
theorem iU.app{w:World}{κ:aK}{pv:cZ}{xs ys:List AV}{cs ds:List Value}(h:iU w κ pv xs cs)(k:iU w κ pv ys ds):iU w κ pv (xs++ys) (cs++ds):=by
 refine⟨by simp[h.1,k.1],fun j hj=>?_⟩;by_cases hx:j<xs.length
 ·have e1:(xs++ys).getD j .unk=xs.getD j .unk:=by simp[List.getD,qAe hx]
  have e2:(cs++ds).getD j undef=cs.getD j undef:=by simp[List.getD,qAe (show j<cs.length by rw[h.1];exact hx)]
  rw[e1,e2];exact h.2 j hx
 ·have e1:(xs++ys).getD j .unk=ys.getD (j - xs.length) .unk:=by simp[List.getD,qAi (qAP hx)]
  have e2:(cs++ds).getD j undef=ds.getD (j - xs.length) undef:=by simp[List.getD,qAi (show cs.length≤j by rw[h.1];omega),h.1]
  rw[e1,e2];exact k.2 _ (by simp at hj;omega)
section
variable {H:Type}{enc:TypeId×Value→H}{P:Program}{w:World}{base:Nat}{spare:Nat→Bool}{held:Bool}{κ:aK}{pv:cZ}
def Reads(enc:TypeId×Value→H)(P:Program)(w:World)(base:Nat)(spare:Nat→Bool)(held:Bool)(κ:aK)(pv:cZ){α:Type}(t:TypeId)(f:α→List AV)(fuel:Nat):Prop:=
 ∀cs x,DataW.trod enc P w base spare held fuel t cs=some x→∃a:α,iU w κ pv (f a) cs
theorem Pz{t:TypeId}(ht:P.underlying t=some (.int .i64))(fuel:Nat):Reads enc P w base spare held κ pv t encI fuel:=fun cs x h=>by
 obtain⟨n,rfl,_,hw⟩:=DataW.trod_int ht h;refine⟨n,iU.one (.int ?_)⟩;simpa[Lit.wf,mE]using hw
theorem CP{t:TypeId}(ht:P.underlying t=some .string)(fuel:Nat):Reads enc P w base spare held κ pv t encS fuel:=fun cs x h=>by
 obtain⟨s,rfl,_,hw⟩:=DataW.trod_string ht h;refine⟨s.data.toList,iU.one ?_⟩;have:=Rel.str (w:=w) (κ:=κ) (pv:=pv) (s:=s.data.toList) (by
  have:s.data.size≤maxLen:=hw;simpa[maxLen]using this)
 simpa using this
theorem tK{α:Type}[Inhabited α]{t e:TypeId}{f:α→List AV}{sz:Nat}(ht:P.underlying t=some (.slice e))(hc:P.cellsOf e=sz)(hsz:0<sz)(hf:∀a,(f a).length=sz)(hpv:∀b o,¬pv b o){fuel:Nat}
  (he:∀n,n<fuel→Reads enc P w base spare held κ pv e f n):Reads enc P w base spare held κ pv t (fun l:List α=>[.slice (l.map f) .shared]) fuel:=fun cs x h=>by
 rcases DataW.trod_slice ht h with⟨rfl,_⟩|⟨a,len,cap,elems,rest,m,rfl,rfl,_,_,hcap,hmax,hel,hget0,_,_⟩
 ·refine⟨[],iU.one ?_⟩;exact .slice (es:=[]) (tag:=.shared) (a:=none) (cap:=0) 0 0 sz (fun _ _=>undef) (fun i h=>by cases h) (fun h=>(h rfl).elim) (qBe _) (by simp) (fun i j h=>by cases h) (fun i j h=>by cases h) (fun i j h=>by cases h) trivial
 ·have hget:∀i,i<len→∃v:List Value×α,w.cells? base (a.add (i*sz)) sz=some v.1∧iU w κ pv (f v.2) v.1:=fun i hi=>by
   have h1:=hget0 i hi;rw[qAd (by omega),hc]at h1;obtain⟨cs',h2,h3⟩:=Option.bind_eq_some_iff.1 h1;obtain⟨y,hy⟩:=he m (qCD m) cs' _ h3;exact⟨(cs',y),h2,hy⟩
  obtain⟨V,hV⟩:=choose_lt hget;refine⟨(List.range len).map fun i=>(V i).2,iU.one ?_⟩;have hlen:(((List.range len).map fun i=>(V i).2).map f).length=len:=by simp
  have hgetD:∀i,i<len→(((List.range len).map fun i=>(V i).2).map f).getD i []=f (V i).2:=fun i hi=>by
   simp[List.getD,qAD,List.getElem?_range hi]
  have hcell:∀i j,i<len→j<sz→w.cell? ((a.add (i*sz)).add j)=some ((V i).1.getD j undef):=fun i j hi hj=>by
   obtain⟨_,h2,h3⟩:=World.cells?_some (hV i hi).1;rw[h3 j hj,List.getD,qAd (by omega)];rfl
  have hspot:0<len→a.spot=none:=fun h0=>by
   have:=World.cell?_spot (hcell 0 0 h0 hsz);simpa[Addr.add]using this
  have hadd:∀i j:Nat,a.spot=none→(a.add i).add j=⟨a.block,a.off+(i+j),none⟩:=fun i j hs=>by
   obtain⟨b,o,s⟩:=a;simp only at hs;subst hs;unfold Addr.add;by_cases hi:i=0
   ·subst hi;by_cases hj:j=0
    ·subst hj;simp
    ·simp[hj]
   ·by_cases hj:j=0
    ·subst hj;simp[hi]
    ·simp[hi,hj];omega
  have key:=Rel.slice (w:=w) (κ:=κ) (pv:=pv) (es:=((List.range len).map fun i=>(V i).2).map f) (tag:=.shared) (a:=some a) (cap:=cap) a.block a.off sz (fun i j=>(V i).1.getD j undef)
   (fun i hi=>by rw[hlen]at hi;rw[hgetD i hi,hf]) (fun hne=>by
    have h0:0<len:=by
     apply qCe;intro h0;apply hne;rw[h0];rfl
    rw[←hspot h0]) (by rw[hlen];exact hcap) (by rw[hlen];simp only[maxLen]at hmax;omega)
   (fun i j _ _=>hpv _ _) (fun i j hi hj=>by
    rw[hlen]at hi;have h1:=hcell i j hi hj;rw[hadd _ _ (hspot (by omega))]at h1;exact h1)
   (fun i j hi hj=>by
    rw[hlen]at hi;rw[hgetD i hi];exact(hV i hi).2.2 j (by rw[hf];exact hj)) trivial
  rw[hlen]at key;exact key
end
instance:Inhabited Ty:=⟨.mk 0 [] []⟩
instance:Inhabited Carrier:=⟨⟨[],[]⟩⟩
instance:Inhabited Decl:=⟨⟨[],.mk 0 [] []⟩⟩
theorem laidOut:laidOutB Tryz.prog=true:=by kernel_rfl
theorem cl9:Tryz.prog.cellsOf 9=1:=by kernel_rfl
theorem ahA:Tryz.prog.cellsOf 29=3:=by kernel_rfl
theorem apX:Tryz.prog.cellsOf 61=2:=by kernel_rfl
theorem apj:Tryz.prog.cellsOf 42=4:=by kernel_rfl
theorem aoO:Tryz.prog.cellsOf 25=2:=by kernel_rfl
theorem cl3:Tryz.prog.cellsOf 3=1:=by kernel_rfl
theorem atE:Tryz.prog.cellsOf 27=1:=by kernel_rfl
theorem atP:Tryz.prog.cellsOf 59=1:=by kernel_rfl
theorem atH:Tryz.prog.cellsOf 22=1:=by kernel_rfl
theorem aug:Tryz.prog.cellsOf 23=1:=by kernel_rfl
end
section
open Go Go.Proofs Go.Deep Go.WideShapes
section
variable {H:Type}{enc:TypeId×Value→H}{w:World}{base:Nat}{spare:Nat→Bool}{held:Bool}{κ:aK}{pv:cZ}
theorem qU{α:Type}{xs:List α}{i n:Nat}(h:xs.length=n)(hi:i<n):∃y,xs[i]? =some y:=⟨xs[i]'(by omega),qAd (by omega)⟩
theorem ai5(t:Ty):(iL t).length=3:=by rw[iE];rfl
set_option maxRecDepth 100000 in
theorem adX(hpv:∀b o,¬pv b o)(fuel:Nat):Reads enc Tryz.prog w base spare held κ pv 29 iL fuel:=by
 induction fuel using Nat.strongRecOn with
 |_ fuel ih=>
  intro cs x h;obtain⟨xs,n,rfl,_,hl,hlen,hf⟩:=DataW.trod_struct Tryz.underlying29 h;rw[ahA]at hl
  match cs,hl with
  |[c0,c1,c2],_=>
   obtain⟨y0,e0⟩:=qU (i:=0) hlen (by decide);obtain⟨y1,e1⟩:=qU (i:=1) hlen (by decide);obtain⟨y2,e2⟩:=qU (i:=2) hlen (by decide);have h0:=hf 0 _ rfl;have h1:=hf 1 _ rfl;have h2:=hf 2 _ rfl;simp only[e0,cl3,qAZ,qAN,qAQ]at h0;simp only[e1,cl9,qBj,qAZ,qAN,qAQ]at h1;simp only[e2,atE,qBj,qAZ,qAN,qAQ]at h2;obtain⟨k,hk⟩:=Pz (κ:=κ) (pv:=pv) Tryz.underlying3 n _ _ h0;obtain⟨nm,hn⟩:=CP (κ:=κ) (pv:=pv) Tryz.underlying9 n _ _ h1;obtain⟨ks,hks⟩:=tK (f:=iL) Tryz.underlying27 ahA (by decide) ai5 hpv (fun m hm=>ih m (by omega)) _ _ h2;refine⟨.mk k nm ks,?_⟩;have:=hk.app (hn.app hks);rw[iE];exact this
set_option maxRecDepth 100000 in
theorem ahl(hpv:∀b o,¬pv b o)(fuel:Nat):Reads enc Tryz.prog w base spare held κ pv 59 (fun l:List Str=>[.slice (l.map encS) .shared]) fuel:=
 tK (f:=encS) Tryz.underlying59 cl9 (by decide) (fun _=>rfl) hpv (fun m _=>CP Tryz.underlying9 m)
set_option maxRecDepth 100000 in
theorem abu(hpv:∀b o,¬pv b o)(fuel:Nat):Reads enc Tryz.prog w base spare held κ pv 61 fF fuel:=by
 intro cs x h;obtain⟨xs,n,rfl,_,hl,hlen,hf⟩:=DataW.trod_struct Tryz.underlying61 h;rw[apX]at hl
 match cs,hl with
 |[c0,c1],_=>
  obtain⟨y0,e0⟩:=qU (i:=0) hlen (by decide);obtain⟨y1,e1⟩:=qU (i:=1) hlen (by decide);have h0:=hf 0 _ rfl;have h1:=hf 1 _ rfl;simp only[e0,cl9,qAZ,qAN,qAQ]at h0;simp only[e1,atP,qBj,qAZ,qAN,qAQ]at h1;obtain⟨nm,hn⟩:=CP (κ:=κ) (pv:=pv) Tryz.underlying9 n _ _ h0;obtain⟨es,hes⟩:=ahl hpv n _ _ h1;exact⟨⟨nm,es⟩,hn.app hes⟩
set_option maxRecDepth 100000 in
theorem air(hpv:∀b o,¬pv b o)(fuel:Nat):Reads enc Tryz.prog w base spare held κ pv 42 d9 fuel:=by
 intro cs x h;obtain⟨xs,n,rfl,_,hl,hlen,hf⟩:=DataW.trod_struct Tryz.underlying42 h;rw[apj]at hl
 match cs,hl with
 |[c0,c1,c2,c3],_=>
  obtain⟨y0,e0⟩:=qU (i:=0) hlen (by decide);obtain⟨y1,e1⟩:=qU (i:=1) hlen (by decide);have h0:=hf 0 _ rfl;have h1:=hf 1 _ rfl;simp only[e0,cl9,qAZ,qAN,qAQ]at h0;simp only[e1,ahA,qBj,qAZ,qAN,qAQ]at h1;obtain⟨nm,hn⟩:=CP (κ:=κ) (pv:=pv) Tryz.underlying9 n _ _ h0;obtain⟨t,ht⟩:=adX hpv n _ _ h1;refine⟨⟨nm,t⟩,?_⟩;have:=hn.app ht;rw[iE]at this;exact this
def WO(e:Env):List AV:=[.slice (e.carriers.map fF) .shared,.slice (e.names.map d9) .shared]
set_option maxRecDepth 100000 in
theorem ajg(hpv:∀b o,¬pv b o)(fuel:Nat):Reads enc Tryz.prog w base spare held κ pv 25 WO fuel:=by
 intro cs x h;obtain⟨xs,n,rfl,_,hl,hlen,hf⟩:=DataW.trod_struct Tryz.underlying25 h;rw[aoO]at hl
 match cs,hl with
 |[c0,c1],_=>
  obtain⟨y0,e0⟩:=qU (i:=0) hlen (by decide);obtain⟨y1,e1⟩:=qU (i:=1) hlen (by decide);have h0:=hf 0 _ rfl;have h1:=hf 1 _ rfl;simp only[e0,atH,qAZ,qAN,qAQ]at h0;simp only[e1,aug,qBj,qAZ,qAN,qAQ]at h1;obtain⟨cs,hcs⟩:=tK (f:=fF) Tryz.underlying22 apX (by decide) (fun _=>rfl) hpv (fun m _=>abu hpv m) _ _ h0;obtain⟨ds,hds⟩:=tK (f:=d9) Tryz.underlying23 apj (by decide) (fun _=>rfl) hpv (fun m _=>air hpv m) _ _ h1;exact⟨⟨cs,ds⟩,hcs.app hds⟩
set_option maxRecDepth 100000 in
theorem Dz{α:Type}{r:Reach}{b0:Nat}{t:TypeId}{fs:Array Field}{f:α→List AV}{v:Value}{d:DataW H}{p:List MemPlace}(hs:Tryz.prog.underlying t=some (.struct fs))(hv:Value.okWide Tryz.prog w r b0 t v)
  (h:DataW.Trod enc Tryz.prog w base spare held t v d p) (hr:∀fuel,Reads enc Tryz.prog w base spare held κ pv t f fuel):∃a:α,Rel w κ pv (.agg (f a)) v:=by
 obtain⟨cs,rfl,hsz⟩:=okWide_struct hs hv;obtain⟨fuel,hf⟩:=h;obtain⟨a,h1,h2⟩:=hr fuel _ _ hf;simp only[Value.cells]at h1 h2;refine⟨a,?_⟩;have:=Rel.agg (w:=w) (κ:=κ) (pv:=pv) h1 h2;simpa using this
end
set_option maxRecDepth 100000 in
theorem aob(w:World):Entry [] (fun _ _=>False) [] w:=
 ⟨rfl,fun l _=>rfl,fun l b h=>by simp[at?]at h,fun l l' b h=>by simp[at?]at h,fun l b h=>by simp[at?]at h,fun _ _ h=>h.elim,fun _ _ _ h=>h.elim⟩
set_option maxRecDepth 100000 in
theorem aB:∀b o,¬aG (fun _ _=>False) [] [] b o:=fun b o h=>by
 rcases h with h|⟨l,h,_⟩
 ·exact h
 ·simp[at?]at h
set_option maxRecDepth 100000 in
theorem aeE{f:Nat}{args:List AV}{vs:List Value}{w:World}(h:aR Tryz.prog f args [] (.bool true) [])(hl:vs.length=args.length)
  (hr:∀j,j<args.length→Rel w [] (aG (fun _ _=>False) [] []) (args.getD j .unk) (vs.getD j undef)):
  Calls Tryz.prog f vs.toArray w fun e w'=>e=.returned (.bool true)∧Go.RowKit.Below w.heap.size w w':=by
 refine(h [] (fun _ _=>False) w vs (aob w) hl hr).mono fun e w' ⟨v,κ',he,hL,hv⟩=>?_;cases hv;exact⟨he,hL.os,hL.tape,hL.output,hL.evo.size,fun k hk=>hL.kept k hk fun l h=>by simp[at?]at h⟩
end
section
open Go Go.Proofs Go.Deep Go.WideShapes
instance:Inhabited Tm:=⟨.mk 0 [] 0 (.mk 0 [] []) []⟩
theorem ahn:Tryz.prog.cellsOf 31=7:=by kernel_rfl
theorem aos:Tryz.prog.cellsOf 26=1:=by kernel_rfl
theorem CG(t:Tm):(dR t).length=7:=by rw[jM];rfl
section
variable {H:Type}{enc:TypeId×Value→H}{w:World}{base:Nat}{spare:Nat→Bool}{held:Bool}{κ:aK}{pv:cZ}
set_option maxRecDepth 100000 in
theorem acD(hpv:∀b o,¬pv b o)(fuel:Nat):Reads enc Tryz.prog w base spare held κ pv 31 dR fuel:=by
 induction fuel using Nat.strongRecOn with
 |_ fuel ih=>
  intro cs x h;obtain⟨xs,n,rfl,_,hl,hlen,hf⟩:=DataW.trod_struct Tryz.underlying31 h;rw[ahn]at hl
  match cs,hl with
  |[c0,c1,c2,c3,c4,c5,c6],_=>
   obtain⟨y0,e0⟩:=qU (i:=0) hlen (by decide);obtain⟨y1,e1⟩:=qU (i:=1) hlen (by decide);obtain⟨y2,e2⟩:=qU (i:=2) hlen (by decide);obtain⟨y3,e3⟩:=qU (i:=3) hlen (by decide);obtain⟨y4,e4⟩:=qU (i:=4) hlen (by decide);have h0:=hf 0 _ rfl;have h1:=hf 1 _ rfl;have h2:=hf 2 _ rfl;have h3:=hf 3 _ rfl;have h4:=hf 4 _ rfl;simp only[e0,cl3,qAZ,qAN,qAQ]at h0;simp only[e1,cl9,qBj,qAZ,qAN,qAQ]at h1;simp only[e2,cl3,qBj,qAZ,qAN,qAQ]at h2;simp only[e3,ahA,qBj,qAZ,qAN,qAQ]at h3;simp only[e4,aos,qBj,qAZ,qAN,qAQ]at h4;obtain⟨k,hk⟩:=Pz (κ:=κ) (pv:=pv) Tryz.underlying3 n _ _ h0;obtain⟨nm,hn⟩:=CP (κ:=κ) (pv:=pv) Tryz.underlying9 n _ _ h1;obtain⟨m,hm⟩:=Pz (κ:=κ) (pv:=pv) Tryz.underlying3 n _ _ h2;obtain⟨t,ht⟩:=adX hpv n _ _ h3;obtain⟨ks,hks⟩:=tK (f:=dR) Tryz.underlying26 ahn (by decide) CG hpv (fun m hm=>ih m (by omega)) _ _ h4;refine⟨.mk k nm m t ks,?_⟩;have:=hk.app (hn.app (hm.app (ht.app hks)));rw[iE]at this;rw[jM];exact this
end
theorem af0:∀{ts:List Tm},(∀t∈ts,zk t)→Vq ts
 |[],_=>trivial
 |t::ts,h=>by
  simp only[Vq];exact⟨h t (qBv ..),af0 fun u hu=>h u (qAk _ hu)⟩
theorem aaW{w:World}{κ:aK}{pv:cZ}{ts:List Tm}{u:Value}(ih:∀t∈ts,∀f:Nat→Value,(∀j,j<7→Rel w κ pv ((dR t).getD j .unk) (f j))→zk t)(h:Rel w κ pv (.slice (ts.map dR) .shared) u):∀t∈ts,zk t:=by
 intro t ht;obtain⟨i,hi,rfl⟩:=qCp.1 ht;cases h with
 |slice b off sz f h1 h2 h3 h3' h4 h5 h6 _=>
  have hi':i<(ts.map dR).length:=by simpa using hi
  have eg:(ts.map dR).getD i []=dR ts[i]:=by simp[List.getD,qAD,qAd hi]
  have hsz:=h1 i hi';rw[eg,CG]at hsz;refine ih _ (qAX hi) (f i) fun j hj=>?_;have:=h6 i j hi' (by omega);rw[eg]at this;exact this
theorem V3{w:World}{κ:aK}{pv:cZ}:∀t:Tm,∀f:Nat→Value,(∀j,j<7→Rel w κ pv ((dR t).getD j .unk) (f j))→zk t:=Tm.ind fun op nm m ty ks ih f h=>by
 have h1:=h 1 (by decide);have h6:=h 6 (by decide);rw[jM]at h1 h6;simp only[zk];refine⟨?_,af0 (aaW ih h6)⟩;have h1':Rel w κ pv (.str nm) (f 1):=h1;generalize f 1=g at h1';cases h1'
 assumption
end
section
open Go Go.Proofs Go.Deep Go.WideShapes
def cK(x:S_api_Sequent):List AV:=[.slice (List.map fF x.env.carriers) .shared,.slice (List.map d9 x.env.names) .shared,.slice (List.map dR x.hyps) .shared]++dR x.goal
theorem clS:Tryz.prog.cellsOf 33=10:=by kernel_rfl
section
variable {H:Type}{enc:TypeId×Value→H}{w:World}{base:Nat}{spare:Nat→Bool}{held:Bool}{κ:aK}{pv:cZ}
set_option maxRecDepth 100000 in
theorem ahD(hpv:∀b o,¬pv b o)(fuel:Nat):Reads enc Tryz.prog w base spare held κ pv 26 (fun l:List Tm=>[.slice (l.map dR) .shared]) fuel:=
 tK (f:=dR) Tryz.underlying26 ahn (by decide) CG hpv (fun m _=>acD hpv m)
set_option maxRecDepth 100000 in
theorem Du(hpv:∀b o,¬pv b o)(fuel:Nat):Reads enc Tryz.prog w base spare held κ pv 33 cK fuel:=by
 intro cs x h;obtain⟨xs,n,rfl,_,hl,hlen,hf⟩:=DataW.trod_struct Tryz.underlying33 h;rw[clS]at hl
 match cs,hl with
 |[c0,c1,c2,c3,c4,c5,c6,c7,c8,c9],_=>
  obtain⟨y0,e0⟩:=qU (i:=0) hlen (by decide);obtain⟨y1,e1⟩:=qU (i:=1) hlen (by decide);obtain⟨y2,e2⟩:=qU (i:=2) hlen (by decide);have h0:=hf 0 _ rfl;have h1:=hf 1 _ rfl;have h2:=hf 2 _ rfl;simp only[e0,aoO,qAZ,qAN,qAQ]at h0;simp only[e1,aos,qBj,qAZ,qAN,qAQ]at h1;simp only[e2,ahn,qBj,qAZ,qAN,qAQ]at h2;obtain⟨env,henv⟩:=ajg (κ:=κ) hpv n _ _ h0;obtain⟨hs,hhs⟩:=ahD (κ:=κ) hpv n _ _ h1;obtain⟨g,hg⟩:=acD (κ:=κ) hpv n _ _ h2;exact⟨⟨env,hs,g⟩,henv.app (hhs.app hg)⟩
end
theorem afk{env:Env}{w:World}{κ:aK}{pv:cZ}{u:Value}(h1:Rel w κ pv (.slice (env.names.map d9) .shared) u):∀d∈env.names,d.name.length≤9223372036854775807:=by
 intro d hd;obtain⟨i,hi,rfl⟩:=qCp.1 hd;cases h1 with
 |slice b off sz f h1 h2 h3 h3' h4 h5 h6 _=>
  have hi':i<(env.names.map d9).length:=by simpa using hi
  have eg:(env.names.map d9).getD i []=d9 env.names[i]:=by simp[List.getD,qAD,qAd hi]
  have hsz:=h1 i hi';rw[eg]at hsz;have hz:sz=4:=hsz.symm;have:=h6 i 0 hi' (by omega);rw[eg]at this;have e2:(d9 env.names[i]).getD 0 .unk=.str env.names[i].name:=rfl;rw[e2]at this;generalize f i 0=g at this;cases this
  assumption
theorem Dg{x:S_api_Sequent}{w:World}{κ:aK}{pv:cZ}{v:Value}(h:Rel w κ pv (.agg (cK x)) v):QS x:=by
 cases h with
 |@agg _ vs hl hj=>
  refine⟨afk (hj 1 (by simp[cK])),aaW (fun t _ f hf=>V3 t f hf) (hj 2 (by simp[cK])),?_⟩;refine V3 (w:=w) (κ:=κ) (pv:=pv) x.goal (fun j=>vs.getD (3+j) undef) fun j h=>?_;have:=hj (3+j) (by rw[cK,qAg,CG];simp;omega);have e:(cK x).getD (3+j) .unk=(dR x.goal).getD j .unk:=by
   simp only[cK,List.getD];rw[qAi (by simp)];simp
  rw[e]at this;exact this
end
end Abs
end Go.Proofs.YtbijdmihdagfaaaGreatDoor
