/-
  From what the claim's form reads of an argument to the abstract values: a datum of the program's types that can be read stands for a plain tree. Conditions: none; lemmas over any program, then at the program's types.
-/
import Derived.Test.YtneeginmfjageaaGreatRows
import Derived.Deep.Slices
import Derived.Deep.Strs
import Derived.ProofKit
import Derived.Below
import Derived.Carry
import Derived.Test.YtneeginmfjageaaGreatCP7oxae2560
set_option linter.all false
namespace Go.Proofs.YtneeginmfjageaaGreat
namespace Abs
section
open Go Go.Proofs Go.Deep
def kY(w)κ(pv)(xs:List AV)(cs:List Value):=cs.length=xs.length/\∀j,j<xs.length->Rel w κ pv (xs.getD j .unk) (cs.getD j undef)
theorem kY.one{w κ pv x v}(h:Rel w κ pv x v):kY w κ pv [x] [v]:=⟨rfl,λj a=>by
 have:j=0:=by simp at a;omega
 subst this;exact h⟩
theorem kY.app{w κ pv xs ys cs ds}(h:kY w κ pv xs cs)(k:kY w κ pv ys ds):kY w κ pv (xs++ys) (cs++ds):=by
 refine⟨by simp[h.1,k.1],λj b=>?_⟩;by_cases x:j<xs.length
 ·have e:(xs++ys).getD j .unk=xs.getD j .unk:=by simp[List.getD,qAi x]
  have a:(cs++ds).getD j undef=cs.getD j undef:=by simp[List.getD,qAi (show j<cs.length by rw[h.1];exact x)]
  rw[e,a];exact h.2 j x
 have e:(xs++ys).getD j .unk=ys.getD (j - xs.length) .unk:=by simp[List.getD,qAk (qBb x)]
 have a:(cs++ds).getD j undef=ds.getD (j - xs.length) undef:=by simp[List.getD,qAk (show cs.length<=j by rw[h.1];omega),h.1]
 rw[e,a];exact k.2 _ (by simp at b;omega)
section
variable {H:Type}{enc:TypeId×Value→H}{P:Program}{w:World}{base:Nat}{spare:Nat→Bool}{held:Bool}{κ:aM}{pv:bJ}
def Reads(enc:TypeId×Value->H)P(w)base(spare)held(κ)pv{α:Type}t(f:α->List AV)fuel:=
 ∀c x,DataW.trod enc P w base spare held fuel t c=some x->∃a:α,kY w κ pv (f a) c
theorem F7{t}(a:P.underlying t=some (.int .i64)) fuel:Reads enc P w base spare held κ pv t encI fuel:=λcs x h=>by obtain⟨n,rfl,_,b⟩:=DataW.trod_int a h;refine⟨n,kY.one (.int ?_)⟩;simpa[Lit.wf,qc]using b
theorem Gc{t}(a:P.underlying t=some .string) fuel:Reads enc P w base spare held κ pv t encS fuel:=λcs x h=>by
 obtain⟨s,rfl,_,b⟩:=DataW.trod_string a h;refine⟨s.data.toList,kY.one ?_⟩;have:=Rel.str (w:=w) (κ:=κ) (pv:=pv) (s:=s.data.toList) (by have:s.data.size<=maxLen:=b;simpa[maxLen]using this)
 simpa using this
theorem sw{α:Type}[Inhabited α]{t e:TypeId}{f:α→List AV}{sz:Nat}(ht:P.underlying t=some (.slice e))(hc:P.cellsOf e=sz)(hsz:0<sz)(hf:∀a,(f a).length=sz)(hpv:∀b o,¬pv b o){fuel:Nat}
  (he:∀n,n<fuel→Reads enc P w base spare held κ pv e f n):Reads enc P w base spare held κ pv t (fun l:List α=>[.slice (l.map f) .shared]) fuel:=fun cs x h=>by
 rcases DataW.trod_slice ht h with⟨rfl,_⟩|⟨a,len,cap,elems,rest,m,rfl,rfl,_,_,hcap,hmax,hel,hget0,_,_⟩
 ·refine⟨[],kY.one ?_⟩;exact .slice (es:=[]) (tag:=.shared) (a:=none) (cap:=0) 0 0 sz (fun _ _=>undef) (fun i h=>by cases h) (fun h=>(h rfl).elim) (qBf _) (by simp) (fun i j h=>by cases h) (fun i j h=>by cases h) (fun i j h=>by cases h) trivial
 ·have hget:∀i,i<len→∃v:List Value×α,w.cells? base (a.add (i*sz)) sz=some v.1∧kY w κ pv (f v.2) v.1:=fun i hi=>by
   have h1:=hget0 i hi;rw[qAc (by omega),hc]at h1;obtain⟨cs',h2,h3⟩:=qEk.1 h1;obtain⟨y,hy⟩:=he m (Nat.lt_succ_self m) cs' _ h3;exact⟨(cs',y),h2,hy⟩
  obtain⟨V,hV⟩:=choose_lt hget;refine⟨(List.range len).map fun i=>(V i).2,kY.one ?_⟩;have hlen:(((List.range len).map fun i=>(V i).2).map f).length=len:=by simp
  have hgetD:∀i,i<len→(((List.range len).map fun i=>(V i).2).map f).getD i []=f (V i).2:=fun i hi=>by
   simp[List.getD,qAH,List.getElem?_range hi]
  have hcell:∀i j,i<len→j<sz→w.cell? ((a.add (i*sz)).add j)=some ((V i).1.getD j undef):=fun i j hi hj=>by
   obtain⟨_,h2,h3⟩:=World.cells?_some (hV i hi).1;rw[h3 j hj,List.getD,qAc (by omega)];rfl
  have hspot:0<len→a.spot=none:=fun h0=>by
   have:=World.cell?_spot (hcell 0 0 h0 hsz);simpa[Addr.add]using this
  have hadd:∀i j:Nat,a.spot=none→(a.add i).add j=⟨a.block,a.off+(i+j),none⟩:=fun i j hs=>by
   obtain⟨b,o,s⟩:=a;simp only at hs;subst hs;unfold Addr.add;by_cases hi:i=0
   ·subst hi;by_cases hj:j=0
    ·subst hj;simp
    ·simp[hj]
   ·by_cases hj:j=0
    ·subst hj;simp[hi]
    ·simp[hi,hj];omega
  have key:=Rel.slice (w:=w) (κ:=κ) (pv:=pv) (es:=((List.range len).map fun i=>(V i).2).map f) (tag:=.shared) (a:=some a) (cap:=cap) a.block a.off sz (fun i j=>(V i).1.getD j undef)
   (fun i hi=>by rw[hlen]at hi;rw[hgetD i hi,hf]) (fun hne=>by
    have h0:0<len:=by
     apply qCi;intro h0;apply hne;rw[h0];rfl
    rw[←hspot h0]) (by rw[hlen];exact hcap) (by rw[hlen];simp only[maxLen]at hmax;omega)
   (fun i j _ _=>hpv _ _) (fun i j hi hj=>by
    rw[hlen]at hi;have h1:=hcell i j hi hj;rw[hadd _ _ (hspot (by omega))]at h1;exact h1)
   (fun i j hi hj=>by
    rw[hlen]at hi;rw[hgetD i hi];exact(hV i hi).2.2 j (by rw[hf];exact hj)) trivial
  rw[hlen]at key;exact key
end
instance:Inhabited Ty:=⟨.mk 0 [] []⟩
instance:Inhabited Carrier:=⟨⟨[],[]⟩⟩
instance:Inhabited Decl:=⟨⟨[],.mk 0 [] []⟩⟩
theorem laidOut:laidOutB Tryz.prog=true:=by kernel_rfl
theorem cl9:Tryz.prog.cellsOf 9=1:=by kernel_rfl
theorem avy:Tryz.prog.cellsOf 32=3:=by kernel_rfl
theorem aEf:Tryz.prog.cellsOf 63=2:=by kernel_rfl
theorem aFi:Tryz.prog.cellsOf 66=4:=by kernel_rfl
theorem aFu:Tryz.prog.cellsOf 25=2:=by kernel_rfl
theorem cl3:Tryz.prog.cellsOf 3=1:=by kernel_rfl
theorem aI0:Tryz.prog.cellsOf 30=1:=by kernel_rfl
theorem aIZ:Tryz.prog.cellsOf 61=1:=by kernel_rfl
theorem aHO:Tryz.prog.cellsOf 22=1:=by kernel_rfl
theorem aH6:Tryz.prog.cellsOf 23=1:=by kernel_rfl
end
section
open Go Go.Proofs Go.Deep Go.WideShapes
section
variable {H:Type}{enc:TypeId×Value→H}{w:World}{base:Nat}{spare:Nat→Bool}{held:Bool}{κ:aM}{pv:bJ}
theorem tY{α:Type}{xs:List α}{i n}(h:xs.length=n)(hi:i<n):∃y,xs[i]? =some y:=⟨xs[i]'(by omega),qAc (by omega)⟩
theorem ay4 t:(ng t).length=3:=by rw[kD];rfl
set_option maxRecDepth 100000 in
theorem aox(p:∀b o,¬pv b o) u:Reads enc Tryz.prog w base spare held κ pv 32 ng u:=by
 induction u using Nat.strongRecOn with|_ u j=>
  intro q x h;obtain⟨C,n,rfl,_,c,l,a⟩:=DataW.trod_struct Tryz.underlying32 h;rw[avy]at c
  match q,c with|[D,E,F],_=>obtain⟨G,r⟩:=tY (i:=0) l (by decide);obtain⟨H,t⟩:=tY (i:=1) l (by decide);obtain⟨I,v⟩:=tY (i:=2) l (by decide);have d:=a 0 _ rfl;have e:=a 1 _ rfl;have g:=a 2 _ rfl;simp only[r,cl3,qAW,qAM,qAT]at d;simp only[t,cl9,qBe,qAW,qAM,qAT]at e;simp only[v,aI0,qBe,qAW,qAM,qAT]at g;obtain⟨k,y⟩:=F7 (κ:=κ) (pv:=pv) Tryz.underlying3 n _ _ d;obtain⟨z,A⟩:=Gc (κ:=κ) (pv:=pv) Tryz.underlying9 n _ _ e;obtain⟨B,s⟩:=sw (f:=ng) Tryz.underlying30 avy (by decide) ay4 p (λm J=>j m (by omega)) _ _ g;refine⟨.mk k z B,?_⟩;have:=y.app (A.app s);rw[kD];exact this
set_option maxRecDepth 100000 in
theorem awG(h:∀b o,¬pv b o) fuel:Reads enc Tryz.prog w base spare held κ pv 61 (λl:List Str=>[.slice (l.map encS) .shared]) fuel:=
 sw (f:=encS) Tryz.underlying61 cl9 (by decide) (λ_=>rfl) h (λm _=>Gc Tryz.underlying9 m)
set_option maxRecDepth 100000 in
theorem ane(p:∀b o,¬pv b o) fuel:Reads enc Tryz.prog w base spare held κ pv 63 jQ fuel:=by
 intro s x h;obtain⟨r,n,rfl,_,a,l,f⟩:=DataW.trod_struct Tryz.underlying63 h;rw[aEf]at a
 match s,a with|[t,u],_=>obtain⟨y,g⟩:=tY (i:=0) l (by decide);obtain⟨v,j⟩:=tY (i:=1) l (by decide);have c:=f 0 _ rfl;have d:=f 1 _ rfl;simp only[g,cl9,qAW,qAM,qAT]at c;simp only[j,aIZ,qBe,qAW,qAM,qAT]at d;obtain⟨m,k⟩:=Gc (κ:=κ) (pv:=pv) Tryz.underlying9 n _ _ c;obtain⟨q,e⟩:=awG p n _ _ d;exact⟨⟨m,q⟩,k.app e⟩
set_option maxRecDepth 100000 in
theorem av7(p:∀b o,¬pv b o) fuel:Reads enc Tryz.prog w base spare held κ pv 66 ig fuel:=by
 intro s x h;obtain⟨q,n,rfl,_,a,l,f⟩:=DataW.trod_struct Tryz.underlying66 h;rw[aFi]at a
 match s,a with|[r,u,v,y],_=>obtain⟨z,e⟩:=tY (i:=0) l (by decide);obtain⟨A,g⟩:=tY (i:=1) l (by decide);have c:=f 0 _ rfl;have d:=f 1 _ rfl;simp only[e,cl9,qAW,qAM,qAT]at c;simp only[g,avy,qBe,qAW,qAM,qAT]at d;obtain⟨m,j⟩:=Gc (κ:=κ) (pv:=pv) Tryz.underlying9 n _ _ c;obtain⟨t,k⟩:=aox p n _ _ d;refine⟨⟨m,t⟩,?_⟩;have:=j.app k;rw[kD]at this;exact this
def aga(e:Env):List AV:=[.slice (e.carriers.map jQ) .shared,.slice (e.names.map ig) .shared]
set_option maxRecDepth 100000 in
theorem ayx(p:∀b o,¬pv b o) fuel:Reads enc Tryz.prog w base spare held κ pv 25 aga fuel:=by
 intro c x h;obtain⟨t,n,rfl,_,a,l,e⟩:=DataW.trod_struct Tryz.underlying25 h;rw[aFu]at a
 match c,a with|[u,v],_=>obtain⟨y,k⟩:=tY (i:=0) l (by decide);obtain⟨z,q⟩:=tY (i:=1) l (by decide);have g:=e 0 _ rfl;have j:=e 1 _ rfl;simp only[k,aHO,qAW,qAM,qAT]at g;simp only[q,aH6,qBe,qAW,qAM,qAT]at j;obtain⟨c,s⟩:=sw (f:=jQ) Tryz.underlying22 aEf (by decide) (λ_=>rfl) p (λm _=>ane p m) _ _ g;obtain⟨r,d⟩:=sw (f:=ig) Tryz.underlying23 aFi (by decide) (λ_=>rfl) p (λm _=>av7 p m) _ _ j;exact⟨⟨c,r⟩,s.app d⟩
set_option maxRecDepth 100000 in
theorem yg{α r e t fs f v d p}(hs:Tryz.prog.underlying t=some (.struct fs))(g:Value.okWide Tryz.prog w r e t v)
  (h:DataW.Trod enc Tryz.prog w base spare held t v d p) (i:∀u,Reads enc Tryz.prog w base spare held κ pv t f u):∃a:α,Rel w κ pv (.agg (f a)) v:=by obtain⟨k,rfl,s⟩:=okWide_struct hs g;obtain⟨u,j⟩:=h;obtain⟨a,b,c⟩:=i u _ _ j;simp only[Value.cells]at b c;refine⟨a,?_⟩;have:=Rel.agg (w:=w) (κ:=κ) (pv:=pv) b c;simpa using this
end
set_option maxRecDepth 100000 in
theorem aEm w:Entry [] (λ_ _=>False) [] w:=
 ⟨rfl,λl _=>rfl,λl b h=>by simp[at?]at h,λl a b h=>by simp[at?]at h,λl b h=>by simp[at?]at h,λ_ _ h=>h.elim,λ_ _ _ h=>h.elim⟩
set_option maxRecDepth 100000 in
theorem ak:∀b o,¬aD (λ_ _=>False) [] [] b o:=λb o h=>by
 rcases h with h|⟨l,h,_⟩
 ·exact h
 simp[at?]at h
set_option maxRecDepth 100000 in
theorem aeS{f args}{vs:List Value}{w}(h:cK Tryz.prog f args [] (.bool true) [])(c:vs.length=args.length)
  (r:∀j,j<args.length->Rel w [] (aD (λ_ _=>False) [] []) (args.getD j .unk) (vs.getD j undef)):
  Calls Tryz.prog f vs.toArray w λe b=>e=.returned (.bool true)/\Go.RowKit.Below w.heap.size w b:=by refine(h [] (λ_ _=>False) w vs (aEm w) c r).mono λe b ⟨v,d,g,a,i⟩=>?_;cases i;exact⟨g,a.os,a.tape,a.output,a.kS.size,λk m=>a.kept k m λl h=>by simp[at?]at h⟩
end
section
open Go Go.Proofs Go.Deep Go.WideShapes
instance:Inhabited Val:=⟨.mk 0 0 [] []⟩
def oL(x:S_api_World):List AV:=[.slice (List.map jQ x.env.carriers) .shared,.slice (List.map ig x.env.names) .shared,.slice (List.map encI x.sizes) .shared,.slice (List.map aQ x.values) .shared]
theorem aBF:Tryz.prog.cellsOf 40=4:=by kernel_rfl
theorem aEA:Tryz.prog.cellsOf 27=1:=by kernel_rfl
theorem aIP:Tryz.prog.cellsOf 26=1:=by kernel_rfl
theorem aIJ:Tryz.prog.cellsOf 29=4:=by kernel_rfl
theorem Na t:(aQ t).length=4:=by rw[fO];rfl
section
variable {H:Type}{enc:TypeId×Value→H}{w:World}{base:Nat}{spare:Nat→Bool}{held:Bool}{κ:aM}{pv:bJ}
set_option maxRecDepth 100000 in
theorem aye(p:∀b o,¬pv b o) u:Reads enc Tryz.prog w base spare held κ pv 40 aQ u:=by
 induction u using Nat.strongRecOn with|_ u r=>
  intro t x h;obtain⟨F,n,rfl,_,c,l,a⟩:=DataW.trod_struct Tryz.underlying40 h;rw[aBF]at c
  match t,c with|[G,H,I,J],_=>obtain⟨K,v⟩:=tY (i:=0) l (by decide);obtain⟨L,y⟩:=tY (i:=1) l (by decide);obtain⟨M,z⟩:=tY (i:=2) l (by decide);obtain⟨N,A⟩:=tY (i:=3) l (by decide);have d:=a 0 _ rfl;have e:=a 1 _ rfl;have g:=a 2 _ rfl;have j:=a 3 _ rfl;simp only[v,cl3,qAW,qAM,qAT]at d;simp only[y,cl3,qBe,qAW,qAM,qAT]at e;simp only[z,cl9,qBe,qAW,qAM,qAT]at g;simp only[A,aEA,qBe,qAW,qAM,qAT]at j;obtain⟨k,B⟩:=F7 (κ:=κ) (pv:=pv) Tryz.underlying3 n _ _ d;obtain⟨m,q⟩:=F7 (κ:=κ) (pv:=pv) Tryz.underlying3 n _ _ e;obtain⟨C,D⟩:=Gc (κ:=κ) (pv:=pv) Tryz.underlying9 n _ _ g;obtain⟨E,s⟩:=sw (f:=aQ) Tryz.underlying27 aBF (by decide) Na p (λm q=>r m (by omega)) _ _ j;refine⟨.mk k m C E,?_⟩;have:=B.app (q.app (D.app s));rw[fO];exact this
set_option maxRecDepth 100000 in
theorem ar8(h:∀b o,¬pv b o) fuel:Reads enc Tryz.prog w base spare held κ pv 27 (λl:List Val=>[.slice (l.map aQ) .shared]) fuel:=
 sw (f:=aQ) Tryz.underlying27 aBF (by decide) Na h (λm _=>aye h m)
set_option maxRecDepth 100000 in
theorem asT(h:∀b o,¬pv b o) fuel:Reads enc Tryz.prog w base spare held κ pv 26 (λl:List Int=>[.slice (l.map encI) .shared]) fuel:=
 sw (f:=encI) Tryz.underlying26 cl3 (by decide) (λ_=>rfl) h (λm _=>F7 Tryz.underlying3 m)
set_option maxRecDepth 100000 in
theorem SV(p:∀b o,¬pv b o) fuel:Reads enc Tryz.prog w base spare held κ pv 29 oL fuel:=by
 intro k x h;obtain⟨u,n,rfl,_,c,l,f⟩:=DataW.trod_struct Tryz.underlying29 h;rw[aIJ]at c
 match k,c with|[y,A,B,C],_=>obtain⟨D,m⟩:=tY (i:=0) l (by decide);obtain⟨E,q⟩:=tY (i:=1) l (by decide);obtain⟨F,r⟩:=tY (i:=2) l (by decide);have d:=f 0 _ rfl;have g:=f 1 _ rfl;have j:=f 2 _ rfl;simp only[m,aFu,qAW,qAM,qAT]at d;simp only[q,aIP,qBe,qAW,qAM,qAT]at g;simp only[r,aEA,qBe,qAW,qAM,qAT]at j;obtain⟨v,e⟩:=ayx (κ:=κ) p n _ _ d;obtain⟨z,s⟩:=asT (κ:=κ) p n _ _ g;obtain⟨t,a⟩:=ar8 (κ:=κ) p n _ _ j;exact⟨⟨v,z,t⟩,e.app (s.app a)⟩
end
theorem arP:∀{s:List Val},(∀t∈s,lI t)->VN s|[],_=>trivial|t::s,h=>by simp only[VN];exact⟨h t (qBD ..),arP λu a=>h u (qAl _ a)⟩
theorem ahG{w}{κ}{pv}{s:List Val}{u}(e:∀t∈s,∀f:Nat->Value,(∀j,j<4->Rel w κ pv ((aQ t).getD j .unk) (f j))->lI t)(h:Rel w κ pv (.slice (s.map aQ) .shared) u):s.length<=9223372036854775807/\∀t∈s,lI t:=by
 cases h with|slice b o m f g n p a q r v _=>
  refine⟨by simpa using a,λt k=>?_⟩;obtain⟨i,c,rfl⟩:=qBG.1 k;have d:i<(s.map aQ).length:=by simpa using c
  have l:(s.map aQ).getD i []=aQ s[i]:=by simp[qAc c]
  have z:=g i d;rw[l,Na]at z;refine e _ (qAN c) (f i) λj x=>?_
  grind
theorem alS{w κ pv}:∀t:Val,∀f:Nat->Value,(∀j,j<4->Rel w κ pv ((aQ t).getD j .unk) (f j))->lI t:=Val.ind λk n s b i f h=>by have a:=h 3 (by decide);rw[fO]at a;have:=ahG i a;exact⟨this.1,arP this.2⟩
theorem ar2{s:List Val}{w κ pv v}(h:Rel w κ pv (.slice (s.map aQ) .shared) v):s.length<=9223372036854775807/\∀t∈s,lI t:=ahG (λt _ f a=>alS t f a) h
theorem as0{e:Env}{w}{κ}{pv}{u}(a:Rel w κ pv (.slice (e.names.map ig) .shared) u):∀d∈e.names,d.name.length<=9223372036854775807:=by
 intro d k;obtain⟨i,c,rfl⟩:=qBG.1 k;cases a with|slice b o z f a p q l r t m _=>
  have h:i<(e.names.map ig).length:=by simpa using c
  have j:(e.names.map ig).getD i []=ig e.names[i]:=by simp[List.getD,qAH,qAc c]
  have s:=a i h;rw[j]at s;have v:z=4:=s.symm;have:=m i 0 h (by omega);rw[j]at this;have n:(ig e.names[i]).getD 0 .unk=.str e.names[i].name:=rfl;rw[n]at this;generalize f i 0=g at this;cases this
  assumption
theorem R8{x}{w}{κ}{pv}{v}(h:Rel w κ pv (.agg (oL x)) v):(∀d∈x.env.names,d.name.length<=9223372036854775807)/\∀v∈x.values,lI v:=by
 cases h with|@agg _ s l j=>exact⟨as0 (j 1 (by simp[oL])),(ar2 (j 3 (by simp[oL]))).2⟩
end
section
open Go Go.Proofs Go.Deep Go.WideShapes
instance:Inhabited Tm:=⟨.mk 0 [] 0 (.mk 0 [] []) []⟩
theorem aFU:Tryz.prog.cellsOf 35=7:=by kernel_rfl
theorem aIr:Tryz.prog.cellsOf 33=1:=by kernel_rfl
theorem aal t:(jh t).length=7:=by rw[tO];rfl
section
variable {H:Type}{enc:TypeId×Value→H}{w:World}{base:Nat}{spare:Nat→Bool}{held:Bool}{κ:aM}{pv:bJ}
set_option maxRecDepth 100000 in
theorem OY(p:∀b o,¬pv b o) u:Reads enc Tryz.prog w base spare held κ pv 35 jh u:=by
 induction u using Nat.strongRecOn with|_ u v=>
  intro y x h;obtain⟨J,n,rfl,_,c,l,a⟩:=DataW.trod_struct Tryz.underlying35 h;rw[aFU]at c
  match y,c with|[K,L,M,N,O,P,Q],_=>obtain⟨R,z⟩:=tY (i:=0) l (by decide);obtain⟨S,A⟩:=tY (i:=1) l (by decide);obtain⟨T,B⟩:=tY (i:=2) l (by decide);obtain⟨U,C⟩:=tY (i:=3) l (by decide);obtain⟨V,D⟩:=tY (i:=4) l (by decide);have d:=a 0 _ rfl;have e:=a 1 _ rfl;have g:=a 2 _ rfl;have j:=a 3 _ rfl;have q:=a 4 _ rfl;simp only[z,cl3,qAW,qAM,qAT]at d;simp only[A,cl9,qBe,qAW,qAM,qAT]at e;simp only[B,cl3,qBe,qAW,qAM,qAT]at g;simp only[C,avy,qBe,qAW,qAM,qAT]at j;simp only[D,aIr,qBe,qAW,qAM,qAT]at q;obtain⟨k,E⟩:=F7 (κ:=κ) (pv:=pv) Tryz.underlying3 n _ _ d;obtain⟨F,G⟩:=Gc (κ:=κ) (pv:=pv) Tryz.underlying9 n _ _ e;obtain⟨m,r⟩:=F7 (κ:=κ) (pv:=pv) Tryz.underlying3 n _ _ g;obtain⟨t,H⟩:=aox p n _ _ j;obtain⟨I,s⟩:=sw (f:=jh) Tryz.underlying33 aFU (by decide) aal p (λm r=>v m (by omega)) _ _ q;refine⟨.mk k F m t I,?_⟩;have:=E.app (G.app (r.app (H.app s)));rw[kD]at this;rw[tO];exact this
end
theorem aug:∀{s:List Tm},(∀t∈s,mh t)->aef s|[],_=>trivial|t::s,h=>by simp only[aef];exact⟨h t (qBD ..),aug λu a=>h u (qAl _ a)⟩
theorem axz{w}{κ}{pv}{s:List Tm}{u}(d:∀t∈s,∀f:Nat->Value,(∀j,j<7->Rel w κ pv ((jh t).getD j .unk) (f j))->mh t)(h:Rel w κ pv (.slice (s.map jh) .shared) u):∀t∈s,mh t:=by
 intro t g;obtain⟨i,c,rfl⟩:=qBG.1 g;cases h with|slice b o n f k p q l r v m _=>
  have a:i<(s.map jh).length:=by simpa using c
  have e:(s.map jh).getD i []=jh s[i]:=by simp[List.getD,qAH,qAc c]
  have z:=k i a;rw[e,aal]at z;refine d _ (qAN c) (f i) λj x=>?_;have:=m i j a (by omega);rw[e]at this;exact this
theorem azI{w κ pv}:∀t:Tm,∀f:Nat->Value,(∀j,j<7->Rel w κ pv ((jh t).getD j .unk) (f j))->mh t:=Tm.ind λop n m y k i f h=>by
 have b:=h 1 (by decide);have c:=h 6 (by decide);rw[tO]at b c;simp only[mh];refine⟨?_,aug (axz i c)⟩;have a:Rel w κ pv (.str n) (f 1):=b;generalize f 1=g at a;cases a
 assumption
theorem Ot{t}{w}{κ}{pv}{v}(h:Rel w κ pv (.agg (jh t)) v):mh t:=by
 cases h with|@agg _ s l a=>exact azI t (λj=>s.getD j undef) λj h=>a j (by rw[aal];exact h)
end
end Abs
end Go.Proofs.YtneeginmfjageaaGreat
