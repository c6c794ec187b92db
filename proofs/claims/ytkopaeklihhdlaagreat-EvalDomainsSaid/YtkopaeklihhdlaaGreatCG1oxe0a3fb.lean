/-
  From what the claim's form reads of an argument to the abstract values: a datum of the program's types that can be read stands for a plain tree. Conditions: none; lemmas over any program, then at the program's types.
-/
import Derived.Test.YtkopaeklihhdlaaGreatRows
import Derived.Deep.Slices
import Derived.Deep.Strs
import Derived.ProofKit
import Derived.Below
import Derived.Carry
import Derived.Test.YtkopaeklihhdlaaGreatCDzoxad2fc4
set_option linter.all false
namespace Go.Proofs.YtkopaeklihhdlaaGreat
namespace Abs
section
open Go Go.Proofs Go.Deep
def l5(w:World)(κ:bg)(pv:bB)(xs:List AV)(cs:List Value):Prop:=cs.length=xs.length∧∀j,j<xs.length→Rel w κ pv (xs.getD j .unk) (cs.getD j undef)
theorem l5.one{w:World}{κ:bg}{pv:bB}{x:AV}{v:Value}(h:Rel w κ pv x v):l5 w κ pv [x] [v]:=⟨rfl,fun j hj=>by
 have:j=0:=by simp at hj;omega
 subst this;exact h⟩
theorem l5.app{w:World}{κ:bg}{pv:bB}{xs ys:List AV}{cs ds:List Value}(h:l5 w κ pv xs cs)(k:l5 w κ pv ys ds):l5 w κ pv (xs++ys) (cs++ds):=by
 refine⟨by simp[h.1,k.1],fun j hj=>?_⟩;by_cases hx:j<xs.length
 ·have e1:(xs++ys).getD j .unk=xs.getD j .unk:=by simp[List.getD,qAf hx]
  have e2:(cs++ds).getD j undef=cs.getD j undef:=by simp[List.getD,qAf (show j<cs.length by rw[h.1];exact hx)]
  rw[e1,e2];exact h.2 j hx
 ·have e1:(xs++ys).getD j .unk=ys.getD (j - xs.length) .unk:=by simp[List.getD,qAm (qAu hx)]
  have e2:(cs++ds).getD j undef=ds.getD (j - xs.length) undef:=by simp[List.getD,qAm (show cs.length≤j by rw[h.1];omega),h.1]
  rw[e1,e2];exact k.2 _ (by simp at hj;omega)
section
variable {H:Type}{enc:TypeId×Value→H}{P:Program}{w:World}{base:Nat}{spare:Nat→Bool}{held:Bool}{κ:bg}{pv:bB}
def Reads(enc:TypeId×Value→H)(P:Program)(w:World)(base:Nat)(spare:Nat→Bool)(held:Bool)(κ:bg)(pv:bB){α:Type}(t:TypeId)(f:α→List AV)(fuel:Nat):Prop:=
 ∀cs x,DataW.trod enc P w base spare held fuel t cs=some x→∃a:α,l5 w κ pv (f a) cs
theorem Bu{t:TypeId}(ht:P.underlying t=some (.int .i64))(fuel:Nat):Reads enc P w base spare held κ pv t encI fuel:=fun cs x h=>by
 obtain⟨n,rfl,_,hw⟩:=DataW.trod_int ht h;refine⟨n,l5.one (.int ?_)⟩;simpa[Lit.wf,rD]using hw
theorem EZ{t:TypeId}(ht:P.underlying t=some .string)(fuel:Nat):Reads enc P w base spare held κ pv t encS fuel:=fun cs x h=>by
 obtain⟨s,rfl,_,hw⟩:=DataW.trod_string ht h;refine⟨s.data.toList,l5.one ?_⟩;have:=Rel.str (w:=w) (κ:=κ) (pv:=pv) (s:=s.data.toList) (by
  have:s.data.size≤maxLen:=hw;simpa[maxLen]using this)
 simpa using this
theorem uT{α:Type}[Inhabited α]{t e:TypeId}{f:α→List AV}{sz:Nat}(ht:P.underlying t=some (.slice e))(hc:P.cellsOf e=sz)(hsz:0<sz)(hf:∀a,(f a).length=sz)(hpv:∀b o,¬pv b o){fuel:Nat}
  (he:∀n,n<fuel→Reads enc P w base spare held κ pv e f n):Reads enc P w base spare held κ pv t (fun l:List α=>[.slice (l.map f) .shared]) fuel:=fun cs x h=>by
 rcases DataW.trod_slice ht h with⟨rfl,_⟩|⟨a,len,cap,elems,rest,m,rfl,rfl,_,_,hcap,hmax,hel,hget0,_,_⟩
 ·refine⟨[],l5.one ?_⟩;exact .slice (es:=[]) (tag:=.shared) (a:=none) (cap:=0) 0 0 sz (fun _ _=>undef) (fun i h=>by cases h) (fun h=>(h rfl).elim) (qAV _) (by simp) (fun i j h=>by cases h) (fun i j h=>by cases h) (fun i j h=>by cases h) trivial
 ·have hget:∀i,i<len→∃v:List Value×α,w.cells? base (a.add (i*sz)) sz=some v.1∧l5 w κ pv (f v.2) v.1:=fun i hi=>by
   have h1:=hget0 i hi;rw[qAe (by omega),hc]at h1;obtain⟨cs',h2,h3⟩:=Option.bind_eq_some_iff.1 h1;obtain⟨y,hy⟩:=he m (qCL m) cs' _ h3;exact⟨(cs',y),h2,hy⟩
  obtain⟨V,hV⟩:=choose_lt hget;refine⟨(List.range len).map fun i=>(V i).2,l5.one ?_⟩;have hlen:(((List.range len).map fun i=>(V i).2).map f).length=len:=by simp
  have hgetD:∀i,i<len→(((List.range len).map fun i=>(V i).2).map f).getD i []=f (V i).2:=fun i hi=>by
   simp[List.getD,qAF,List.getElem?_range hi]
  have hcell:∀i j,i<len→j<sz→w.cell? ((a.add (i*sz)).add j)=some ((V i).1.getD j undef):=fun i j hi hj=>by
   obtain⟨_,h2,h3⟩:=World.cells?_some (hV i hi).1;rw[h3 j hj,List.getD,qAe (by omega)];rfl
  have hspot:0<len→a.spot=none:=fun h0=>by
   have:=World.cell?_spot (hcell 0 0 h0 hsz);simpa[Addr.add]using this
  have hadd:∀i j:Nat,a.spot=none→(a.add i).add j=⟨a.block,a.off+(i+j),none⟩:=fun i j hs=>by
   obtain⟨b,o,s⟩:=a;simp only at hs;subst hs;unfold Addr.add;by_cases hi:i=0
   ·subst hi;by_cases hj:j=0
    ·subst hj;simp
    ·simp[hj]
   ·by_cases hj:j=0
    ·subst hj;simp[hi]
    ·simp[hi,hj];omega
  have key:=Rel.slice (w:=w) (κ:=κ) (pv:=pv) (es:=((List.range len).map fun i=>(V i).2).map f) (tag:=.shared) (a:=some a) (cap:=cap) a.block a.off sz (fun i j=>(V i).1.getD j undef)
   (fun i hi=>by rw[hlen]at hi;rw[hgetD i hi,hf]) (fun hne=>by
    have h0:0<len:=by
     apply qBN;intro h0;apply hne;rw[h0];rfl
    rw[←hspot h0]) (by rw[hlen];exact hcap) (by rw[hlen];simp only[maxLen]at hmax;omega)
   (fun i j _ _=>hpv _ _) (fun i j hi hj=>by
    rw[hlen]at hi;have h1:=hcell i j hi hj;rw[hadd _ _ (hspot (by omega))]at h1;exact h1)
   (fun i j hi hj=>by
    rw[hlen]at hi;rw[hgetD i hi];exact(hV i hi).2.2 j (by rw[hf];exact hj)) trivial
  rw[hlen]at key;exact key
end
instance:Inhabited Ty:=⟨.mk 0 [] []⟩
instance:Inhabited Carrier:=⟨⟨[],[]⟩⟩
instance:Inhabited Decl:=⟨⟨[],.mk 0 [] []⟩⟩
theorem laidOut:laidOutB Tryz.prog=true:=by kernel_rfl
theorem cl9:Tryz.prog.cellsOf 9=1:=by kernel_rfl
theorem aha:Tryz.prog.cellsOf 34=3:=by kernel_rfl
theorem ap7:Tryz.prog.cellsOf 71=2:=by kernel_rfl
theorem apV:Tryz.prog.cellsOf 74=4:=by kernel_rfl
theorem apb:Tryz.prog.cellsOf 25=2:=by kernel_rfl
theorem cl3:Tryz.prog.cellsOf 3=1:=by kernel_rfl
theorem atw:Tryz.prog.cellsOf 32=1:=by kernel_rfl
theorem atN:Tryz.prog.cellsOf 69=1:=by kernel_rfl
theorem at5:Tryz.prog.cellsOf 22=1:=by kernel_rfl
theorem at6:Tryz.prog.cellsOf 23=1:=by kernel_rfl
end
section
open Go Go.Proofs Go.Deep Go.WideShapes
section
variable {H:Type}{enc:TypeId×Value→H}{w:World}{base:Nat}{spare:Nat→Bool}{held:Bool}{κ:bg}{pv:bB}
theorem qY{α:Type}{xs:List α}{i n:Nat}(h:xs.length=n)(hi:i<n):∃y,xs[i]? =some y:=⟨xs[i]'(by omega),qAe (by omega)⟩
theorem aj3(t:Ty):(aC t).length=3:=by rw[bZ];rfl
set_option maxRecDepth 100000 in
theorem Ta(hpv:∀b o,¬pv b o)(fuel:Nat):Reads enc Tryz.prog w base spare held κ pv 34 aC fuel:=by
 induction fuel using Nat.strongRecOn with
 |_ fuel ih=>
  intro cs x h;obtain⟨xs,n,rfl,_,hl,hlen,hf⟩:=DataW.trod_struct Tryz.underlying34 h;rw[aha]at hl
  match cs,hl with
  |[c0,c1,c2],_=>
   obtain⟨y0,e0⟩:=qY (i:=0) hlen (by decide);obtain⟨y1,e1⟩:=qY (i:=1) hlen (by decide);obtain⟨y2,e2⟩:=qY (i:=2) hlen (by decide);have h0:=hf 0 _ rfl;have h1:=hf 1 _ rfl;have h2:=hf 2 _ rfl;simp only[e0,cl3,qAX,qAO,qBa]at h0;simp only[e1,cl9,qBo,qAX,qAO,qBa]at h1;simp only[e2,atw,qBo,qAX,qAO,qBa]at h2;obtain⟨k,hk⟩:=Bu (κ:=κ) (pv:=pv) Tryz.underlying3 n _ _ h0;obtain⟨nm,hn⟩:=EZ (κ:=κ) (pv:=pv) Tryz.underlying9 n _ _ h1;obtain⟨ks,hks⟩:=uT (f:=aC) Tryz.underlying32 aha (by decide) aj3 hpv (fun m hm=>ih m (by omega)) _ _ h2;refine⟨.mk k nm ks,?_⟩;have:=hk.app (hn.app hks);rw[bZ];exact this
set_option maxRecDepth 100000 in
theorem ahx(hpv:∀b o,¬pv b o)(fuel:Nat):Reads enc Tryz.prog w base spare held κ pv 69 (fun l:List Str=>[.slice (l.map encS) .shared]) fuel:=
 uT (f:=encS) Tryz.underlying69 cl9 (by decide) (fun _=>rfl) hpv (fun m _=>EZ Tryz.underlying9 m)
set_option maxRecDepth 100000 in
theorem aa3(hpv:∀b o,¬pv b o)(fuel:Nat):Reads enc Tryz.prog w base spare held κ pv 71 aj fuel:=by
 intro cs x h;obtain⟨xs,n,rfl,_,hl,hlen,hf⟩:=DataW.trod_struct Tryz.underlying71 h;rw[ap7]at hl
 match cs,hl with
 |[c0,c1],_=>
  obtain⟨y0,e0⟩:=qY (i:=0) hlen (by decide);obtain⟨y1,e1⟩:=qY (i:=1) hlen (by decide);have h0:=hf 0 _ rfl;have h1:=hf 1 _ rfl;simp only[e0,cl9,qAX,qAO,qBa]at h0;simp only[e1,atN,qBo,qAX,qAO,qBa]at h1;obtain⟨nm,hn⟩:=EZ (κ:=κ) (pv:=pv) Tryz.underlying9 n _ _ h0;obtain⟨es,hes⟩:=ahx hpv n _ _ h1;exact⟨⟨nm,es⟩,hn.app hes⟩
set_option maxRecDepth 100000 in
theorem ahA(hpv:∀b o,¬pv b o)(fuel:Nat):Reads enc Tryz.prog w base spare held κ pv 74 aB fuel:=by
 intro cs x h;obtain⟨xs,n,rfl,_,hl,hlen,hf⟩:=DataW.trod_struct Tryz.underlying74 h;rw[apV]at hl
 match cs,hl with
 |[c0,c1,c2,c3],_=>
  obtain⟨y0,e0⟩:=qY (i:=0) hlen (by decide);obtain⟨y1,e1⟩:=qY (i:=1) hlen (by decide);have h0:=hf 0 _ rfl;have h1:=hf 1 _ rfl;simp only[e0,cl9,qAX,qAO,qBa]at h0;simp only[e1,aha,qBo,qAX,qAO,qBa]at h1;obtain⟨nm,hn⟩:=EZ (κ:=κ) (pv:=pv) Tryz.underlying9 n _ _ h0;obtain⟨t,ht⟩:=Ta hpv n _ _ h1;refine⟨⟨nm,t⟩,?_⟩;have:=hn.app ht;rw[bZ]at this;exact this
def OL(e:Env):List AV:=[.slice (e.carriers.map aj) .shared,.slice (e.names.map aB) .shared]
set_option maxRecDepth 100000 in
theorem aac(hpv:∀b o,¬pv b o)(fuel:Nat):Reads enc Tryz.prog w base spare held κ pv 25 OL fuel:=by
 intro cs x h;obtain⟨xs,n,rfl,_,hl,hlen,hf⟩:=DataW.trod_struct Tryz.underlying25 h;rw[apb]at hl
 match cs,hl with
 |[c0,c1],_=>
  obtain⟨y0,e0⟩:=qY (i:=0) hlen (by decide);obtain⟨y1,e1⟩:=qY (i:=1) hlen (by decide);have h0:=hf 0 _ rfl;have h1:=hf 1 _ rfl;simp only[e0,at5,qAX,qAO,qBa]at h0;simp only[e1,at6,qBo,qAX,qAO,qBa]at h1;obtain⟨cs,hcs⟩:=uT (f:=aj) Tryz.underlying22 ap7 (by decide) (fun _=>rfl) hpv (fun m _=>aa3 hpv m) _ _ h0;obtain⟨ds,hds⟩:=uT (f:=aB) Tryz.underlying23 apV (by decide) (fun _=>rfl) hpv (fun m _=>ahA hpv m) _ _ h1;exact⟨⟨cs,ds⟩,hcs.app hds⟩
set_option maxRecDepth 100000 in
theorem PO{α:Type}{r:Reach}{b0:Nat}{t:TypeId}{fs:Array Field}{f:α→List AV}{v:Value}{d:DataW H}{p:List MemPlace}(hs:Tryz.prog.underlying t=some (.struct fs))(hv:Value.okWide Tryz.prog w r b0 t v)
  (h:DataW.Trod enc Tryz.prog w base spare held t v d p) (hr:∀fuel,Reads enc Tryz.prog w base spare held κ pv t f fuel):∃a:α,Rel w κ pv (.agg (f a)) v:=by
 obtain⟨cs,rfl,hsz⟩:=okWide_struct hs hv;obtain⟨fuel,hf⟩:=h;obtain⟨a,h1,h2⟩:=hr fuel _ _ hf;simp only[Value.cells]at h1 h2;refine⟨a,?_⟩;have:=Rel.agg (w:=w) (κ:=κ) (pv:=pv) h1 h2;simpa using this
end
set_option maxRecDepth 100000 in
theorem apB(w:World):Entry [] (fun _ _=>False) [] w:=
 ⟨rfl,fun l _=>rfl,fun l b h=>by simp[at?]at h,fun l l' b h=>by simp[at?]at h,fun l b h=>by simp[at?]at h,fun _ _ h=>h.elim,fun _ _ _ h=>h.elim⟩
set_option maxRecDepth 100000 in
theorem aN:∀b o,¬aO (fun _ _=>False) [] [] b o:=fun b o h=>by
 rcases h with h|⟨l,h,_⟩
 ·exact h
 ·simp[at?]at h
set_option maxRecDepth 100000 in
theorem akI{f:Nat}{args:List AV}{vs:List Value}{w:World}(h:ak Tryz.prog f args [] (.bool true) [])(hl:vs.length=args.length)
  (hr:∀j,j<args.length→Rel w [] (aO (fun _ _=>False) [] []) (args.getD j .unk) (vs.getD j undef)):
  Calls Tryz.prog f vs.toArray w fun e w'=>e=.returned (.bool true)∧Go.RowKit.Below w.heap.size w w':=by
 refine(h [] (fun _ _=>False) w vs (apB w) hl hr).mono fun e w' ⟨v,κ',he,hL,hv⟩=>?_;cases hv;exact⟨he,hL.os,hL.tape,hL.output,hL.iH.size,fun k hk=>hL.kept k hk fun l h=>by simp[at?]at h⟩
theorem afu{env:Env}{w:World}{κ:bg}{pv:bB}{v:Value}(h:Rel w κ pv (.agg (OL env)) v):∀d∈env.names,d.name.length≤9223372036854775807:=by
 cases h with
 |@agg _ vs hl hj=>
  have h1:=hj 1 (by simp[OL]);intro d hd;obtain⟨i,hi,rfl⟩:=List.mem_iff_getElem.1 hd;have e:(OL env).getD 1 .unk=.slice (env.names.map aB) .shared:=rfl;rw[e]at h1;generalize vs.getD 1 undef=u at h1;cases h1 with
  |slice b off sz f h1 h2 h3 h3' h4 h5 h6 _=>
   have hi':i<(env.names.map aB).length:=by simpa using hi
   have eg:(env.names.map aB).getD i []=aB env.names[i]:=by simp[List.getD,qAF,qAe hi]
   have hsz:=h1 i hi';rw[eg]at hsz;have hz:sz=4:=hsz.symm;have:=h6 i 0 hi' (by omega);rw[eg]at this;have e2:(aB env.names[i]).getD 0 .unk=.str env.names[i].name:=rfl;rw[e2]at this;generalize f i 0=g at this;cases this
   assumption
end
section
open Go Go.Proofs Go.Deep Go.WideShapes
instance:Inhabited Val:=⟨.mk 0 0 [] []⟩
theorem akZ:Tryz.prog.cellsOf 26=1:=by kernel_rfl
theorem atS:Tryz.prog.cellsOf 38=3:=by kernel_rfl
section
variable {H:Type}{enc:TypeId×Value→H}{w:World}{base:Nat}{spare:Nat→Bool}{held:Bool}{κ:bg}{pv:bB}
set_option maxRecDepth 100000 in
theorem JL(hpv:∀b o,¬pv b o)(fuel:Nat):Reads enc Tryz.prog w base spare held κ pv 26 (fun l:List Int=>[.slice (l.map encI) .shared]) fuel:=
 uT (f:=encI) Tryz.underlying26 cl3 (by decide) (fun _=>rfl) hpv (fun m _=>Bu Tryz.underlying3 m)
set_option maxRecDepth 100000 in
theorem afr(hpv:∀b o,¬pv b o)(fuel:Nat):Reads enc Tryz.prog w base spare held κ pv 38 rW fuel:=by
 intro cs x h;obtain⟨xs,n,rfl,_,hl,hlen,hf⟩:=DataW.trod_struct Tryz.underlying38 h;rw[atS]at hl
 match cs,hl with
 |[c0,c1,c2],_=>
  obtain⟨y0,e0⟩:=qY (i:=0) hlen (by decide);obtain⟨y1,e1⟩:=qY (i:=1) hlen (by decide);obtain⟨y2,e2⟩:=qY (i:=2) hlen (by decide);have h0:=hf 0 _ rfl;have h1:=hf 1 _ rfl;have h2:=hf 2 _ rfl;simp only[e0,akZ,qAX,qAO,qBa]at h0;simp only[e1,cl3,qBo,qAX,qAO,qBa]at h1;simp only[e2,cl3,qBo,qAX,qAO,qBa]at h2;obtain⟨sz,hsz⟩:=JL (κ:=κ) hpv n _ _ h0;obtain⟨lo,hlo⟩:=Bu (κ:=κ) (pv:=pv) Tryz.underlying3 n _ _ h1;obtain⟨hi,hhi⟩:=Bu (κ:=κ) (pv:=pv) Tryz.underlying3 n _ _ h2;exact⟨⟨sz,lo,hi⟩,hsz.app (hlo.app hhi)⟩
end
end
end Abs
end Go.Proofs.YtkopaeklihhdlaaGreat
