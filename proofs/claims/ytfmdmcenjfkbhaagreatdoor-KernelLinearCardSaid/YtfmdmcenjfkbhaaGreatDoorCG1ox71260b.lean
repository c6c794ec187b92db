/-
  From what the claim's form reads of an argument to the abstract values: a datum of the program's types that can be read stands for a plain tree. Conditions: none; lemmas over any program, then at the program's types.
-/
import Derived.Test.YtfmdmcenjfkbhaaGreatDoorRows
import Derived.Deep.Slices
import Derived.Deep.Strs
import Derived.ProofKit
import Derived.Below
import Derived.Carry
import Derived.Test.YtfmdmcenjfkbhaaGreatDoorCP8oxbb2f97
set_option linter.all false
namespace Go.Proofs.YtfmdmcenjfkbhaaGreatDoor
namespace Abs
section
open Go Go.Proofs Go.Deep
def gW(w:World)(κ:aH)(pv:bN)(xs:List AV)(cs:List Value):Prop:=cs.length=xs.length∧∀j,j<xs.length→Rel w κ pv (xs.getD j .unk) (cs.getD j undef)
theorem gW.one{w:World}{κ:aH}{pv:bN}{x:AV}{v:Value}(h:Rel w κ pv x v):gW w κ pv [x] [v]:=⟨rfl,fun j hj=>by
 have:j=0:=by simp at hj;omega
 subst this;exact h⟩
theorem gW.app{w:World}{κ:aH}{pv:bN}{xs ys:List AV}{cs ds:List Value}(h:gW w κ pv xs cs)(k:gW w κ pv ys ds):gW w κ pv (xs++ys) (cs++ds):=by
 refine⟨by simp[h.1,k.1],fun j hj=>?_⟩;by_cases hx:j<xs.length
 ·have e1:(xs++ys).getD j .unk=xs.getD j .unk:=by simp[List.getD,qAe hx]
  have e2:(cs++ds).getD j undef=cs.getD j undef:=by simp[List.getD,qAe (show j<cs.length by rw[h.1];exact hx)]
  rw[e1,e2];exact h.2 j hx
 ·have e1:(xs++ys).getD j .unk=ys.getD (j - xs.length) .unk:=by simp[List.getD,qAg (qAM hx)]
  have e2:(cs++ds).getD j undef=ds.getD (j - xs.length) undef:=by simp[List.getD,qAg (show cs.length≤j by rw[h.1];omega),h.1]
  rw[e1,e2];exact k.2 _ (by simp at hj;omega)
section
variable {H:Type}{enc:TypeId×Value→H}{P:Program}{w:World}{base:Nat}{spare:Nat→Bool}{held:Bool}{κ:aH}{pv:bN}
def Reads(enc:TypeId×Value→H)(P:Program)(w:World)(base:Nat)(spare:Nat→Bool)(held:Bool)(κ:aH)(pv:bN){α:Type}(t:TypeId)(f:α→List AV)(fuel:Nat):Prop:=
 ∀cs x,DataW.trod enc P w base spare held fuel t cs=some x→∃a:α,gW w κ pv (f a) cs
theorem FE{t:TypeId}(ht:P.underlying t=some (.int .i64))(fuel:Nat):Reads enc P w base spare held κ pv t encI fuel:=fun cs x h=>by
 obtain⟨n,rfl,_,hw⟩:=DataW.trod_int ht h;refine⟨n,gW.one (.int ?_)⟩;simpa[Lit.wf,jW]using hw
theorem wS{t:TypeId}(ht:P.underlying t=some .string)(fuel:Nat):Reads enc P w base spare held κ pv t encS fuel:=fun cs x h=>by
 obtain⟨s,rfl,_,hw⟩:=DataW.trod_string ht h;refine⟨s.data.toList,gW.one ?_⟩;have:=Rel.str (w:=w) (κ:=κ) (pv:=pv) (s:=s.data.toList) (by
  have:s.data.size≤maxLen:=hw;simpa[maxLen]using this)
 simpa using this
theorem rA{α:Type}[Inhabited α]{t e:TypeId}{f:α→List AV}{sz:Nat}(ht:P.underlying t=some (.slice e))(hc:P.cellsOf e=sz)(hsz:0<sz)(hf:∀a,(f a).length=sz)(hpv:∀b o,¬pv b o){fuel:Nat}
  (he:∀n,n<fuel→Reads enc P w base spare held κ pv e f n):Reads enc P w base spare held κ pv t (fun l:List α=>[.slice (l.map f) .shared]) fuel:=fun cs x h=>by
 rcases DataW.trod_slice ht h with⟨rfl,_⟩|⟨a,len,cap,elems,rest,m,rfl,rfl,_,_,hcap,hmax,hel,hget0,_,_⟩
 ·refine⟨[],gW.one ?_⟩;exact .slice (es:=[]) (tag:=.shared) (a:=none) (cap:=0) 0 0 sz (fun _ _=>undef) (fun i h=>by cases h) (fun h=>(h rfl).elim) (qAN _) (by simp) (fun i j h=>by cases h) (fun i j h=>by cases h) (fun i j h=>by cases h) trivial
 ·have hget:∀i,i<len→∃v:List Value×α,w.cells? base (a.add (i*sz)) sz=some v.1∧gW w κ pv (f v.2) v.1:=fun i hi=>by
   have h1:=hget0 i hi;rw[qAd (by omega),hc]at h1;obtain⟨cs',h2,h3⟩:=Option.bind_eq_some_iff.1 h1;obtain⟨y,hy⟩:=he m (qCy m) cs' _ h3;exact⟨(cs',y),h2,hy⟩
  obtain⟨V,hV⟩:=choose_lt hget;refine⟨(List.range len).map fun i=>(V i).2,gW.one ?_⟩;have hlen:(((List.range len).map fun i=>(V i).2).map f).length=len:=by simp
  have hgetD:∀i,i<len→(((List.range len).map fun i=>(V i).2).map f).getD i []=f (V i).2:=fun i hi=>by
   simp[List.getD,qAB,List.getElem?_range hi]
  have hcell:∀i j,i<len→j<sz→w.cell? ((a.add (i*sz)).add j)=some ((V i).1.getD j undef):=fun i j hi hj=>by
   obtain⟨_,h2,h3⟩:=World.cells?_some (hV i hi).1;rw[h3 j hj,List.getD,qAd (by omega)];rfl
  have hspot:0<len→a.spot=none:=fun h0=>by
   have:=World.cell?_spot (hcell 0 0 h0 hsz);simpa[Addr.add]using this
  have hadd:∀i j:Nat,a.spot=none→(a.add i).add j=⟨a.block,a.off+(i+j),none⟩:=fun i j hs=>by
   obtain⟨b,o,s⟩:=a;simp only at hs;subst hs;unfold Addr.add;by_cases hi:i=0
   ·subst hi;by_cases hj:j=0
    ·subst hj;simp
    ·simp[hj]
   ·by_cases hj:j=0
    ·subst hj;simp[hi]
    ·simp[hi,hj];omega
  have key:=Rel.slice (w:=w) (κ:=κ) (pv:=pv) (es:=((List.range len).map fun i=>(V i).2).map f) (tag:=.shared) (a:=some a) (cap:=cap) a.block a.off sz (fun i j=>(V i).1.getD j undef)
   (fun i hi=>by rw[hlen]at hi;rw[hgetD i hi,hf]) (fun hne=>by
    have h0:0<len:=by
     apply qBZ;intro h0;apply hne;rw[h0];rfl
    rw[←hspot h0]) (by rw[hlen];exact hcap) (by rw[hlen];simp only[maxLen]at hmax;omega)
   (fun i j _ _=>hpv _ _) (fun i j hi hj=>by
    rw[hlen]at hi;have h1:=hcell i j hi hj;rw[hadd _ _ (hspot (by omega))]at h1;exact h1)
   (fun i j hi hj=>by
    rw[hlen]at hi;rw[hgetD i hi];exact(hV i hi).2.2 j (by rw[hf];exact hj)) trivial
  rw[hlen]at key;exact key
end
instance:Inhabited Ty:=⟨.mk 0 [] []⟩
instance:Inhabited Carrier:=⟨⟨[],[]⟩⟩
instance:Inhabited Decl:=⟨⟨[],.mk 0 [] []⟩⟩
theorem laidOut:laidOutB Tryz.prog=true:=by kernel_rfl
theorem X5:Tryz.prog.cellsOf 9=1:=by kernel_rfl
theorem Wh:Tryz.prog.cellsOf 24=3:=by kernel_rfl
theorem cl3:Tryz.prog.cellsOf 3=1:=by kernel_rfl
theorem aiP:Tryz.prog.cellsOf 22=1:=by kernel_rfl
end
section
open Go Go.Proofs Go.Deep Go.WideShapes
section
variable {H:Type}{enc:TypeId×Value→H}{w:World}{base:Nat}{spare:Nat→Bool}{held:Bool}{κ:aH}{pv:bN}
theorem qV{α:Type}{xs:List α}{i n:Nat}(h:xs.length=n)(hi:i<n):∃y,xs[i]? =some y:=⟨xs[i]'(by omega),qAd (by omega)⟩
theorem Zh(t:Ty):(iW t).length=3:=by rw[gI];rfl
set_option maxRecDepth 100000 in
theorem Qu(hpv:∀b o,¬pv b o)(fuel:Nat):Reads enc Tryz.prog w base spare held κ pv 24 iW fuel:=by
 induction fuel using Nat.strongRecOn with
 |_ fuel ih=>
  intro cs x h;obtain⟨xs,n,rfl,_,hl,hlen,hf⟩:=DataW.trod_struct Tryz.underlying24 h;rw[Wh]at hl
  match cs,hl with
  |[c0,c1,c2],_=>
   obtain⟨y0,e0⟩:=qV (i:=0) hlen (by decide);obtain⟨y1,e1⟩:=qV (i:=1) hlen (by decide);obtain⟨y2,e2⟩:=qV (i:=2) hlen (by decide);have h0:=hf 0 _ rfl;have h1:=hf 1 _ rfl;have h2:=hf 2 _ rfl;simp only[e0,cl3,qBC,qBt,qBj]at h0;simp only[e1,X5,qBJ,qBC,qBt,qBj]at h1;simp only[e2,aiP,qBJ,qBC,qBt,qBj]at h2;obtain⟨k,hk⟩:=FE (κ:=κ) (pv:=pv) Tryz.underlying3 n _ _ h0;obtain⟨nm,hn⟩:=wS (κ:=κ) (pv:=pv) Tryz.underlying9 n _ _ h1;obtain⟨ks,hks⟩:=rA (f:=iW) Tryz.underlying22 Wh (by decide) Zh hpv (fun m hm=>ih m (by omega)) _ _ h2;refine⟨.mk k nm ks,?_⟩;have:=hk.app (hn.app hks);rw[gI];exact this
set_option maxRecDepth 100000 in
theorem Zy{α:Type}{r:Reach}{b0:Nat}{t:TypeId}{fs:Array Field}{f:α→List AV}{v:Value}{d:DataW H}{p:List MemPlace}(hs:Tryz.prog.underlying t=some (.struct fs))(hv:Value.okWide Tryz.prog w r b0 t v)
  (h:DataW.Trod enc Tryz.prog w base spare held t v d p) (hr:∀fuel,Reads enc Tryz.prog w base spare held κ pv t f fuel):∃a:α,Rel w κ pv (.agg (f a)) v:=by
 obtain⟨cs,rfl,hsz⟩:=okWide_struct hs hv;obtain⟨fuel,hf⟩:=h;obtain⟨a,h1,h2⟩:=hr fuel _ _ hf;simp only[Value.cells]at h1 h2;refine⟨a,?_⟩;have:=Rel.agg (w:=w) (κ:=κ) (pv:=pv) h1 h2;simpa using this
end
set_option maxRecDepth 100000 in
theorem afy(w:World):Entry [] (fun _ _=>False) [] w:=
 ⟨rfl,fun l _=>rfl,fun l b h=>by simp[at?]at h,fun l l' b h=>by simp[at?]at h,fun l b h=>by simp[at?]at h,fun _ _ h=>h.elim,fun _ _ _ h=>h.elim⟩
set_option maxRecDepth 100000 in
theorem ak:∀b o,¬aC (fun _ _=>False) [] [] b o:=fun b o h=>by
 rcases h with h|⟨l,h,_⟩
 ·exact h
 ·simp[at?]at h
set_option maxRecDepth 100000 in
theorem aaQ{f:Nat}{args:List AV}{vs:List Value}{w:World}(h:aP Tryz.prog f args [] (.bool true) [])(hl:vs.length=args.length)
  (hr:∀j,j<args.length→Rel w [] (aC (fun _ _=>False) [] []) (args.getD j .unk) (vs.getD j undef)):
  Calls Tryz.prog f vs.toArray w fun e w'=>e=.returned (.bool true)∧Go.RowKit.Below w.heap.size w w':=by
 refine(h [] (fun _ _=>False) w vs (afy w) hl hr).mono fun e w' ⟨v,κ',he,hL,hv⟩=>?_;cases hv;exact⟨he,hL.os,hL.tape,hL.output,hL.evo.size,fun k hk=>hL.kept k hk fun l h=>by simp[at?]at h⟩
end
section
open Go Go.Proofs Go.Deep Go.WideShapes
instance:Inhabited Tm:=⟨.mk 0 [] 0 (.mk 0 [] []) []⟩
theorem afi:Tryz.prog.cellsOf 27=7:=by kernel_rfl
theorem ajc:Tryz.prog.cellsOf 25=1:=by kernel_rfl
theorem ER(t:Tm):(gV t).length=7:=by rw[kJ];rfl
section
variable {H:Type}{enc:TypeId×Value→H}{w:World}{base:Nat}{spare:Nat→Bool}{held:Bool}{κ:aH}{pv:bN}
set_option maxRecDepth 100000 in
theorem aa2(hpv:∀b o,¬pv b o)(fuel:Nat):Reads enc Tryz.prog w base spare held κ pv 27 gV fuel:=by
 induction fuel using Nat.strongRecOn with
 |_ fuel ih=>
  intro cs x h;obtain⟨xs,n,rfl,_,hl,hlen,hf⟩:=DataW.trod_struct Tryz.underlying27 h;rw[afi]at hl
  match cs,hl with
  |[c0,c1,c2,c3,c4,c5,c6],_=>
   obtain⟨y0,e0⟩:=qV (i:=0) hlen (by decide);obtain⟨y1,e1⟩:=qV (i:=1) hlen (by decide);obtain⟨y2,e2⟩:=qV (i:=2) hlen (by decide);obtain⟨y3,e3⟩:=qV (i:=3) hlen (by decide);obtain⟨y4,e4⟩:=qV (i:=4) hlen (by decide);have h0:=hf 0 _ rfl;have h1:=hf 1 _ rfl;have h2:=hf 2 _ rfl;have h3:=hf 3 _ rfl;have h4:=hf 4 _ rfl;simp only[e0,cl3,qBC,qBt,qBj]at h0;simp only[e1,X5,qBJ,qBC,qBt,qBj]at h1;simp only[e2,cl3,qBJ,qBC,qBt,qBj]at h2;simp only[e3,Wh,qBJ,qBC,qBt,qBj]at h3;simp only[e4,ajc,qBJ,qBC,qBt,qBj]at h4;obtain⟨k,hk⟩:=FE (κ:=κ) (pv:=pv) Tryz.underlying3 n _ _ h0;obtain⟨nm,hn⟩:=wS (κ:=κ) (pv:=pv) Tryz.underlying9 n _ _ h1;obtain⟨m,hm⟩:=FE (κ:=κ) (pv:=pv) Tryz.underlying3 n _ _ h2;obtain⟨t,ht⟩:=Qu hpv n _ _ h3;obtain⟨ks,hks⟩:=rA (f:=gV) Tryz.underlying25 afi (by decide) ER hpv (fun m hm=>ih m (by omega)) _ _ h4;refine⟨.mk k nm m t ks,?_⟩;have:=hk.app (hn.app (hm.app (ht.app hks)));rw[gI]at this;rw[kJ];exact this
end
theorem Uw:∀{ts:List Tm},(∀t∈ts,mq t)→DI ts
 |[],_=>trivial
 |t::ts,h=>by
  simp only[DI];exact⟨h t (qBp ..),Uw fun u hu=>h u (qAk _ hu)⟩
theorem XT{w:World}{κ:aH}{pv:bN}{ts:List Tm}{u:Value}(ih:∀t∈ts,∀f:Nat→Value,(∀j,j<7→Rel w κ pv ((gV t).getD j .unk) (f j))→mq t)(h:Rel w κ pv (.slice (ts.map gV) .shared) u):∀t∈ts,mq t:=by
 intro t ht;obtain⟨i,hi,rfl⟩:=qCF.1 ht;cases h with
 |slice b off sz f h1 h2 h3 h3' h4 h5 h6 _=>
  have hi':i<(ts.map gV).length:=by simpa using hi
  have eg:(ts.map gV).getD i []=gV ts[i]:=by simp[List.getD,qAB,qAd hi]
  have hsz:=h1 i hi';rw[eg,ER]at hsz;refine ih _ (qAV hi) (f i) fun j hj=>?_;have:=h6 i j hi' (by omega);rw[eg]at this;exact this
theorem aaS{w:World}{κ:aH}{pv:bN}:∀t:Tm,∀f:Nat→Value,(∀j,j<7→Rel w κ pv ((gV t).getD j .unk) (f j))→mq t:=Tm.ind fun op nm m ty ks ih f h=>by
 have h1:=h 1 (by decide);have h6:=h 6 (by decide);rw[kJ]at h1 h6;simp only[mq];refine⟨?_,Uw (XT ih h6)⟩;have h1':Rel w κ pv (.str nm) (f 1):=h1;generalize f 1=g at h1';cases h1'
 assumption
theorem aaq{t:Tm}{w:World}{κ:aH}{pv:bN}{v:Value}(h:Rel w κ pv (.agg (gV t)) v):mq t:=by
 cases h with
 |@agg _ vs hl hj=>exact aaS t (fun j=>vs.getD j undef) fun j h=>hj j (by rw[ER];exact h)
end
end Abs
end Go.Proofs.YtfmdmcenjfkbhaaGreatDoor
