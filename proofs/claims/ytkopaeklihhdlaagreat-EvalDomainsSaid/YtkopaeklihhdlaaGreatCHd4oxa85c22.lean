/-
  The statement 'range over a function' in walks: in frames that own nothing ('GM.rfN'), and in frames whose objects live on from round to round ('GM.rfB'); contracts of functions that hold such a statement ('acalls_GW'). Conditions: none; lemmas over any program.
-/
import Derived.KernelRfl
import Derived.Test.YtkopaeklihhdlaaGreatCHd1oxffc5e2
import Derived.Test.YtkopaeklihhdlaaGreatCR1ox23c07f
import Derived.Test.YtkopaeklihhdlaaGreatCH1oxfc0e7d
set_option linter.all false
namespace Go.Proofs.YtkopaeklihhdlaaGreat
namespace Abs
section
open Go
theorem Sim.fresh{pv:bB}{w:World}{ds:List Deferred}{t:List AV}{a:Act}(hd:a.defers=ds)(hlen:a.tmps.size=t.length)(hsl:∀n,n<t.length→Rel w [] pv (t.getD n .unk) (a.tmps.getD n undef))(hlt:∀b o,pv b o→b<w.heap.size):Sim (ko pv w ds) [] ⟨t,[]⟩ a w:=by
 have hnl:PI ([]:List AObj):=fun l=>by simp[obj?,live]
 refine⟨hd,hlen,fun n hn=>?_,rfl,bV.refl _,fun l h=>by simp[obj?]at h,fun l b h=>by simp[at?]at h,fun l l' b h=>by simp[at?]at h,fun l b h=>by simp[at?]at h,fun l b h=>by simp[at?]at h,hlt,fun _ hb=>hb,fun _ _=>rfl,rfl,rfl,rfl,qAc _,fun b o h _=>by rw[show(ko pv w ds).aN=pv from rfl,mJ hnl]at h;exact h,Evo.refl _ _⟩;rw[show(ko pv w ds).aN=pv from rfl,mJ hnl];exact hsl n hn
theorem Sim.akl{pv:bB}{w W:World}{ds:List Deferred}{κ:bg}{t:List AV}{a:Act}(h:Sim (ko pv w ds) κ ⟨t,[]⟩ a W):κ=[]∧∀n,n<t.length→Rel W [] pv (t.getD n .unk) (a.tmps.getD n undef):=by
 have hk:κ=[]:=by have:=h.klen;simpa using this
 subst hk;refine⟨rfl,fun n hn=>?_⟩;have:=h.slot n hn;rw[show(ko pv w ds).aN=pv from rfl,mJ (fun l=>by simp[obj?,live])]at this;exact this
section
variable {P:Program}{ro:Option Nat}{g:Operand}{ps:Array Tmp}{p0:Tmp}{assign body:Code}{Q:GT}{t:List AV}{gf:Nat}{caps:List AV}{xs:List AV}{res:Bool→AV}
theorem GM.rfN{ι:Type}{K:ι→bB→World→Prop}{stepO:ι→AV→Option (Bool×ι)}{lo n0:Nat}{i0 i':ι}{jm:Option Code}{ds:List Deferred}(step:ι→AV→Option (Option Code×ι))(t1:AV→List AV)(E:ι→ι→Prop)
  (hps:ps=#[p0]) (hg:bC t g=.func gf caps) (hok:aZ P gf=true) (hc:uH P gf (fun l=>.yv l::caps) xs res) (hE:∀i j pv w,E i j→K i pv w→K j pv w)
  (hK:KOk n0 K) (hY:Bg P lo n0 K stepO) (hin:∀l0,ro=some l0→∀i pv w,K i pv w→∃r,w.heap[l0]? =some (.loop r)) (hf:Gq step xs i0=some (jm,i'))
  (hA:∀l i x jm i' C,step i x=some (jm,i')→C.k0=[]→GM P (some l) assign (fun e t' h' C'=>e=.normal∧C'=C∧Le 0 t' h' (t1 x) []) (t.set p0 x) [] C)
  (hB:∀(K':ι→bB→World→Prop) (l n1:Nat) (i:ι) (x:AV) (jm:Option Code) (i':ι),KOk n1 K'→Bg P lo n1 K' stepO→(∀i pv w,K' i pv w→∃r,w.heap[l]? =some (.loop r))→(∀i j pv w,E i j→K' i pv w→K' j pv w)→step i x=some (jm,i')→
   ∀C,At K' n1 i [] C→GM P (some l) body (fun e _ _ C'=>jx e=some jm∧∃ds',At K' n1 i' ds' C') (t1 x) [] C)
  (hq:∀pv w D,K i' pv w→n0≤w.heap.size→(ro=none→n0≤D∧w.heap[D]? =some (.deferred (some [])))→match jm with
   |none=>Q .normal t [] (ko pv w (qo ro D++ds))
   |some c=>GM P ro c Q t [] (ko pv w (qo ro D++ds))):
  ∀C,At K n0 i0 ds C→GM P ro (.rangeFunc g ps assign body) Q t [] C:=by
 rintro C ⟨pv,w,rfl,hKi,hn⟩ κ a W hs;obtain⟨rfl,hsl⟩:=hs.akl;have hq0:=hs.qt0;have hnW:n0≤W.heap.size:=qAj hn hq0.size;have hgr:=hs.ev g;rw[show bC (ASt.mk t []).tmps g=.func gf caps from hg,show(ko pv w ds).aN=pv from rfl,mJ (fun l=>by simp[obj?,live])]at hgr;obtain⟨lb,g1,g2,g3⟩:=hgr.xI
 let J:ι→bB→World→Prop:=fun i pv' W'=>K i pv' W'∧(∀n,n<t.length→Rel W' [] pv' (t.getD n .unk) (a.tmps.getD n undef))∧W.heap.size≤W'.heap.size
 have hJ:KOk W.heap.size J:=⟨fun i pv' A B h hqt=>⟨hK.stab _ _ _ _ h.1 hqt,fun n hn=>(h.2.1 n hn).mono (hqt.iH pv') (bV.refl _) (fun _ _ h _=>h),qAj h.2.2 hqt.size⟩,
  fun i pv' A b o o' h hb ho hr hr'=>⟨hK.recs _ _ _ _ _ _ h.1 (qAj hnW hb) ho hr hr',fun n hn=>(h.2.1 n hn).mono (Evo.putObj ho hr) (bV.refl _) (fun _ _ h _=>h),by simpa[World.putObj]using h.2.2⟩,fun i pv' A b o h hp=>hK.lt _ _ _ _ _ h.1 hp⟩
 have h0:J i0 pv W:=⟨hK.stab _ _ _ _ hKi hq0,hsl,qAc _⟩;have hds:a.defers=ds:=hs.defers;refine rf (ι:=ι) (pv:=pv) (lb:=lb) (caps:=caps) g1 hok hps (fun l0 e=>hin l0 e i0 pv W h0.1) g2 g3 hc J hJ h0 step hf ?_ ?_
 ·intro l i pv1 W1 x u jm i2 Lr hl hrec ⟨hK1,hsl1,hsz1⟩ hx hst;have hlt1:∀b o,pv1 b o→b<W1.heap.size:=fun b o h=>hK.lt _ _ _ _ _ hK1 h;have hs1:Sim (ko pv1 W1 []) [] ⟨t.set p0 x,[]⟩ {tmps:=a.tmps.setIfInBounds p0 u,defers:=[]} W1:=by
   refine Sim.fresh rfl (by simp;exact hs.len) (fun n hn=>?_) hlt1;simp only[qBc]at hn;by_cases e:p0=n
   ·subst e;rw[iw hn,lY (by rw[hs.len];exact hn)];exact hx
   ·rw[j5 e,jK e];exact hsl1 n hn
  refine wpIn_mono (hA l i x jm i2 (ko pv1 W1 []) hst rfl [] _ W1 hs1) ?_;rintro e a1 W2 ⟨C',s',κ',⟨rfl,rfl,hle⟩,hs2⟩;obtain⟨κ2,hs3⟩:=hle _ κ' a1 W2 (qAc _) hs2;obtain⟨rfl,hsl3⟩:=hs3.akl;have hq12:=hs3.qt0;have hrec2:W2.heap[l]? =some (.loop Lr):=(hq12.same l (lt_of_heap hrec)).trans hrec;refine⟨hrec2,fun Lb=>?_⟩;obtain⟨W3,hW3⟩:∃W3,W2.putObj l (.loop Lb)=W3:=⟨_,rfl⟩;rw[hW3];have hev23:Evo pv1 W2 W3:=by rw[←hW3];exact Evo.putObj hrec2 rfl
  have hsz3:W3.heap.size=W2.heap.size:=by rw[←hW3];simp[World.putObj]
  have hrec3:W3.heap[l]? =some (.loop Lb):=by rw[←hW3];exact World.putObj_heap_same (lt_of_heap hrec2)
  have hn0l:n0≤l:=qAj hnW hl;have hK3:K i pv1 W3:=by rw[←hW3];exact hK.recs _ _ _ _ _ _ (hK.stab _ _ _ _ hK1 hq12) hn0l hrec2 rfl rfl
  have hlt3:∀b o,pv1 b o→b<W3.heap.size:=fun b o h=>hK.lt _ _ _ _ _ hK3 h;have hs4:Sim (ko pv1 W3 []) [] ⟨t1 x,[]⟩ a1 W3:=Sim.fresh hs3.defers hs3.len (fun n hn=>(hsl3 n hn).mono hev23 (bV.refl _) (fun _ _ h _=>h)) hlt3;have hn3:n0≤W3.heap.size:=by rw[hsz3];exact qAj (qAj hnW hsz1) hq12.size
  let K':ι→bB→World→Prop:=fun i pv w=>K i pv w∧YF n0 pv1 pv W3 w
  have hK':KOk W3.heap.size K':=hK.yf pv1 W3 hn3;have hY':Bg P lo W3.heap.size K' stepO:=(hY.and (fun pv' w'=>YF n0 pv1 pv' W3 w') fun _ _ _ _ h1 h2=>h1.trans h2).mono hn3;refine wpIn_mono (hB K' l W3.heap.size i x jm i2 hK' hY' (fun i pv w h=>⟨Lb,h.2.recs l _ hn0l hrec3 rfl⟩) (fun i j pv w he h=>⟨hE i j pv w he h.1,h.2⟩) hst (ko pv1 W3 []) ⟨pv1,W3,rfl,⟨hK3,YF.refl _ _ _⟩,qAc _⟩ [] a1 W3 hs4) ?_;rintro e a2 W4 ⟨C',s',κ',⟨hj,ds',pv4,w4,rfl,⟨hK4,hy4⟩,hsz4⟩,hs5⟩;have hq4:=hs5.qt0;have hyW:YF n0 pv1 pv4 W3 W4:=hy4.trans (hq4.yf n0 pv4);have hyA:YF (l+1) pv1 pv4 W1 W4:=by
   have hA1:YF (l+1) pv1 pv1 W1 W3:=by rw[←hW3];exact(hq12.yf (l+1) pv1).put hrec2 rfl (.inr (by omega))
   exact hA1.trans (hyW.mono (by omega))
  refine⟨hj,hyW.recs l _ hn0l hrec3 rfl,fun b o hb hne ho hr=>?_,pv4,⟨hK.stab _ _ _ _ hK4 hq4,fun n hn=>(hsl1 n hn).mono hyA.iH (bV.refl _) hyA.pvs,?_⟩,hyA⟩
  ·have h2:W2.heap[b]? =some o:=(hq12.same b (lt_of_heap ho)).trans ho;refine hyW.recs b o (qAj hnW hb) ?_ hr;rw[←hW3,World.putObj_heap_other hne];exact h2
  ·exact qAj hsz1 hyA.iH.size
 ·intro D pv' W' ⟨hK',hsl',hsz'⟩ hD;have hD':ro=none→n0≤D∧W'.heap[D]? =some (.deferred (some [])):=fun e=>⟨qAj hnW (hD e).1,(hD e).2⟩;have hs':Sim (ko pv' W' (qo ro D++ds)) [] ⟨t,[]⟩ {a with defers:=qo ro D++a.defers} W':=Sim.fresh (by rw[hds]) hs.len hsl' (fun b o h=>hK.lt _ _ _ _ _ hK' h);have hqq:=hq pv' W' D hK' (qAj hnW hsz') hD';cases jm with
  |none=>exact⟨_,⟨t,[]⟩,[],hqq,hs'⟩
  |some c=>exact hqq [] _ W' hs'
end
def Jq{ι α:Type}(step:ι→AV→Option (Bool×ι)):ι×α→AV→Option (Bool×(ι×α)):=fun p x=>(step p.1 x).map fun q=>(q.1,(q.2,p.2))
theorem Bg.lift{P:Program}{ι α:Type}{l n0:Nat}{K:ι→bB→World→Prop}{step:ι→AV→Option (Bool×ι)}(h:Bg P l n0 K step):Bg P l n0 (fun p:ι×α=>K p.1) (Jq step):=by
 rintro⟨i,y⟩ pv w x v r ⟨i',y'⟩ hs hk hr hst;simp only[Jq]at hst;cases hq:step i x with
 |none=>rw[hq]at hst;cases hst
 |some q=>
  rw[hq]at hst;simp only[qAt,Option.some.injEq,Prod.mk.injEq]at hst;obtain⟨rfl,rfl,rfl⟩:=hst;exact h i pv w x v q.1 q.2 hs hk hr hq
theorem KOk.lift{ι α:Type}{n0:Nat}{K:ι→bB→World→Prop}(h:KOk n0 K):KOk n0 (fun p:ι×α=>K p.1):=⟨fun i=>h.stab i.1,fun i=>h.recs i.1,fun i=>h.lt i.1⟩
open Classical in
noncomputable def Om{ι X:Type}(enc:X→AV)(f:ι→X→Option (Option Code×ι)):ι×List X→AV→Option (Option Code×(ι×List X)):=fun s x=>match s.2 with
 |[]=>none
 |v::r=>if x=enc v then(f s.1 v).map fun q=>(q.1,(q.2,r))else none
theorem wL{ι X:Type}{enc:X→AV}{f:ι→X→Option (Option Code×ι)}{s s':ι×List X}{x:AV}{jm:Option Code}(h:Om enc f s x=some (jm,s')):∃v,x=enc v∧s.2=v::s'.2∧f s.1 v=some (jm,s'.1):=by
 obtain⟨i,l⟩:=s;cases l with
 |nil=>cases h
 |cons v r=>
  simp only[Om]at h;split at h
  ·rename_i e;cases hf:f i v with
   |none=>rw[hf]at h;cases h
   |some q=>
    rw[hf]at h;simp only[qAt,Option.some.injEq,Prod.mk.injEq]at h;obtain⟨rfl,rfl⟩:=h;exact⟨v,e,rfl,hf⟩
  ·cases h
def zF{ι X:Type}(f:ι→X→Option (Option Code×ι)):List X→ι→Option (Option Code×(ι×List X))
 |[],i=>some (none,(i,[]))
 |x::xs,i=>match f i x with
  |some (none,i')=>zF f xs i'
  |some (some c,i')=>some (some c,(i',xs))
  |none=>none
theorem MU{ι X:Type}{enc:X→AV}{f:ι→X→Option (Option Code×ι)}:∀(xs:List X) (i:ι),Gq (Om enc f) (xs.map enc) (i,xs)=zF f xs i:=by
 intro xs
 induction xs with
 |nil=>intro i;rfl
 |cons x xs ih=>
  intro i;simp only[qAA,Gq,Om,if_true,zF];cases f i x with
  |none=>rfl
  |some q=>
   obtain⟨j,i'⟩:=q;cases j with
   |none=>exact ih i'
   |some c=>rfl
theorem Sim.qt{C:Ctx}{κ:bg}{s:ASt}{a:Act}{w W:World}(h:Sim C κ s a w)(hq:Qt w W):Sim C κ s a W where
 defers:=h.defers
 len:=h.len
 slot:=fun n hn=>(h.slot n hn).mono (hq.iH _) (bV.refl _) (fun _ _ hp _=>hp)
 klen:=h.klen
 kext:=h.kext
 resv:=h.resv
 obj:=fun l b h1 h2=>(h.obj l b h1 h2).mono (hq.same b (h.bound l b h1)) (hq.iH _) (bV.refl _) (fun _ _ hp _=>hp)
 apart:=h.apart
 own:=h.own
 bound:=fun l b h1=>qAq (h.bound l b h1) hq.size
 pvold:=h.pvold
 oldlt:=h.oldlt
 old:=fun b hb'=>(hq.same b (qAq (h.oldlt b hb') h.size)).trans (h.old b hb')
 os:=hq.os.trans h.os
 tape:=hq.tape.trans h.tape
 output:=hq.output.trans h.output
 size:=qAj h.size hq.size
 pvsub:=h.pvsub
 iH:=h.iH.trans (hq.iH C.pvE) fun _ _ hp _=>hp
theorem Cm{C:Ctx}{κ:bg}{s:ASt}{a:Act}{w:World}(h:Sim C κ s a w){b:Nat}{o:Obj}(ho:w.heap[b]? =some o)(hr:isRec o=true):∀l,at? κ l=some b→¬live (obj? s.heap l):=fun l hl hlv=>by
 have:=h.obj l b hl hlv;generalize obj? s.heap l=x at this hlv;cases o with
 |cells c e z=>cases hr
 |map ms c=>cases hr
 |loop r=>cases x<;>simp[nE,live,ho]at this hlv
 |deferred r=>cases x<;>simp[nE,live,ho]at this hlv
 |_=>cases hr
theorem Sim.ajI{C:Ctx}{κ:bg}{s:ASt}{a:Act}{w:World}(h:Sim C κ s a w){b:Nat}{o o':Obj}(ho:w.heap[b]? =some o)(hr:isRec o=true)(hn:¬C.old b):Sim C κ s a (w.putObj b o'):=by
 have hlv:=Cm h ho hr;exact{h with
  slot:=fun n hn=>(h.slot n hn).mono (Evo.putObj ho hr) (bV.refl _) (fun _ _ hp _=>hp)
  obj:=fun l x h1 h2=>(h.obj l x h1 h2).mono (World.putObj_heap_other (fun e=>hlv l (by rw[h1,e]) h2)) (Evo.putObj ho hr) (bV.refl _) (fun _ _ hp _=>hp)
  bound:=fun l x h1=>by simpa[World.putObj]using h.bound l x h1
  old:=fun x hx=>(World.putObj_heap_other (fun e=>hn (by rw[←e];exact hx))).trans (h.old x hx)
  size:=by simpa[World.putObj]using h.size
  iH:=h.iH.trans (Evo.putObj (pv:=C.pvE) ho hr) fun _ _ hp _=>hp}
theorem Sim.ani{C:Ctx}{κ:bg}{s:ASt}{a:Act}{w:World}(h:Sim C κ s a w){b:Nat}{o o':Obj}(ho:w.heap[b]? =some o)(ho0:C.w0.heap[b]? =some o)(hr:isRec o=true)(hr':isRec o'=true):Sim {C with w0:=C.w0.putObj b o'} κ s a (w.putObj b o'):=by
 have hlv:=Cm h ho hr;have hb:=lt_of_heap ho;have hb0:=lt_of_heap ho0;exact{h with
  slot:=fun n hn=>(h.slot n hn).mono (Evo.putObj ho hr) (bV.refl _) (fun _ _ hp _=>hp)
  obj:=fun l x h1 h2=>(h.obj l x h1 h2).mono (World.putObj_heap_other (fun e=>hlv l (by rw[h1,e]) h2)) (Evo.putObj ho hr) (bV.refl _) (fun _ _ hp _=>hp)
  bound:=fun l x h1=>by simpa[World.putObj]using h.bound l x h1
  oldlt:=fun x hx=>by simpa[World.putObj]using h.oldlt x hx
  old:=fun x hx=>by
   by_cases e:x=b
   ·subst e;rw[World.putObj_heap_same hb,World.putObj_heap_same hb0]
   ·rw[World.putObj_heap_other e,World.putObj_heap_other e];exact h.old x hx
  size:=by simpa[World.putObj]using h.size
  pvsub:=fun x y hp hlt=>h.pvsub x y hp (by simpa[World.putObj]using hlt)
  iH:=by
   refine⟨by simpa[World.putObj]using h.size,fun x off u hp hc=>?_,fun x c e z hx=>?_⟩
   ·by_cases e:x=b
    ·subst e;simp only[World.cell?,World.putObj_heap_same hb0]at hc;cases o'<;>simp_all [isRec]
    ·simp only[World.cell?,World.putObj_heap_other e]at hc⊢;exact h.iH.cell x off u hp hc
   ·by_cases e':x=b
    ·subst e';rw[World.putObj_heap_same hb0]at hx;cases hx;cases hr'
    ·rw[World.putObj_heap_other e']at hx⊢;exact h.iH.shape x c e z hx}
def O8(P:Program)(C0 C:Ctx):Prop:=∀κ s a W,Sim C κ s a W→∃W',(C.ds=C0.ds∧W'=W∨∃D,C.ds=qo none D++C0.ds∧(Instr.takeDeferred D).run P W=.ok [] W')∧Sim {C0 with ds:=C.ds} κ s a W'
theorem O8.refl{P:Program}(C:Ctx):O8 P C C:=fun _ _ _ W h=>⟨W,.inl ⟨rfl,rfl⟩,h⟩
section
variable {P:Program}{g:Operand}{ps:Array Tmp}{p0:Tmp}{assign body:Code}{Q:GT}{t:List AV}{gf:Nat}{caps:List AV}{xs:List AV}{res:Bool→AV}
theorem GM.rfB{σ:Type}{s0 s1:σ}{jm:Option Code}{m:Nat}(hS:σ→List AObj)(step:σ→AV→Option (Option Code×σ))(t1:AV→List AV)(hS1:σ→AV→List AObj)
  (hps:ps=#[p0]) (hg:bC t g=.func gf caps) (hok:aZ P gf=true) (hcl:∀f,∀x∈caps,ren f x=x) (hc:uH P gf (fun l=>.yv l::caps) xs res) (hf:Gq step xs s0=some (jm,s1)) (htm:∀n f,(∀i,i<m→f i=i)→ren f (t.getD n .unk)=t.getD n .unk)
  (hA:∀l s x jm s' C,step s x=some (jm,s')→C.k0.length≤m→GM P (some l) assign (fun e t' h' C'=>e=.normal∧C'=C∧Le m t' h' (t1 x) (hS1 s x)) (t.set p0 x) (hS s) C)
  (hB:∀l s x jm s' C,C.k0.length≤m→step s x=some (jm,s')→GM P (some l) body (fun e t' h' C'=>jx e=some jm∧C'=C∧∃t'',Le m t' h' t'' (hS s')) (t1 x) (hS1 s x) C)
  {C:Ctx} (hkm:C.k0.length≤m) (hds:C.ds=[])
  (hq:∀C2,C2.k0=C.k0→O8 P C C2→match jm with
   |none=>Q .normal t (hS s1) C2
   |some c=>GM P none c Q t (hS s1) C2):GM P none (.rangeFunc g ps assign body) Q t (hS s0) C:=by
 intro κ a W hs;have hda:a.defers=[]:=hs.defers.trans hds;have hgr:=hs.ev g;rw[show bC (ASt.mk t (hS s0)).tmps g=.func gf caps from hg]at hgr;obtain⟨lb,g1,g2,g3⟩:=hgr.xI;have hclosed:∀j,j<caps.length→Rel W [] (aO C.aN κ (hS s0)) (caps.getD j .unk) (lb.getD j undef):=fun j hj=>by
  refine(g3 j hj).vw (κe:=[]) (g:=fun _=>κ.length) (fun i=>?_) _ ?_
  ·rw[at?_none_of_le (qAc _)];simp[at?]
  ·rw[hcl _ _ (by rw[List.getD,qAe hj];exact qBp hj)]
 let J:σ→bB→World→Prop:=fun s pv' W'=>∃κ',Sim C κ' ⟨t,hS s⟩ a W'∧pv'=aO C.aN κ' (hS s)
 have hJ:KOk W.heap.size J:=⟨fun s pv' A B ⟨κ',h1,h2⟩ hqt=>⟨κ',h1.qt hqt,h2⟩,
  fun s pv' A b o o' ⟨κ',h1,h2⟩ hb ho hr hr'=>⟨κ',h1.ajI ho hr (fun hold=>by have:=h1.oldlt b hold;have:=hs.size;omega),h2⟩,
  fun s pv' A b o ⟨κ',h1,h2⟩ hp=>by
   rw[h2]at hp;rcases hp with hp|⟨l,q1,_⟩
   ·exact qAq (h1.oldlt _ (h1.pvold _ _ hp)) h1.size
   ·exact h1.bound l b q1⟩
 have h0:J s0 (aO C.aN κ (hS s0)) W:=⟨κ,hs,rfl⟩;refine rf (ι:=σ) (pv:=aO C.aN κ (hS s0)) (lb:=lb) (caps:=caps) g1 hok hps (fun l0 e=>by cases e) g2 hclosed hc J hJ h0 step hf ?_ ?_
 ·rintro l s _ W1 x u jm s' Lr hl hrec ⟨κ1,hs1,rfl⟩ hx hst;have hsz1:=hs1.size;have hszW:=hs.size
  let κm:bg:=κ1.take m
  have hkm1:bV κm κ1:=fun l b hb=>by
   simp only[κm,at?,qAW]at hb;split at hb
   ·exact hb
   ·simp at hb
  let Cr:Ctx:={bodyC κ1 C.aN (hS s) W1 []with k0:=κm}
  have hsr:Sim Cr κ1 ⟨t.set p0 x,hS s⟩ {tmps:=a.tmps.setIfInBounds p0 u,defers:=[]} W1:=by
   refine⟨rfl,by simp;exact hs1.len,fun n hn=>?_,hs1.klen,hkm1,hs1.resv,hs1.obj,hs1.apart,fun l b h1 h2 h3=>h3.2 l h1 h2,hs1.bound,fun b o h=>⟨qAq (hs1.oldlt _ (hs1.pvold _ _ h)) hs1.size,fun l h1 h2=>hs1.own l b h1 h2 (hs1.pvold _ _ h)⟩,fun b hb=>hb.1,fun _ _=>rfl,rfl,rfl,rfl,qAc _,fun _ _ h _=>h,Evo.refl _ _⟩;simp only[qBc]at hn;by_cases e:p0=n
   ·subst e;rw[iw hn,lY (by rw[hs1.len];exact hn)];exact hx.mono (Evo.refl (aO C.aN κ1 (hS s)) _) Lp (fun _ _ h _=>h)
   ·rw[j5 e,jK e];exact hs1.slot n hn
  have hkl:Cr.k0.length≤m:=by
   show(κ1.take m).length≤m;simp;omega
  refine wpIn_mono (hA l s x jm s' Cr hst hkl κ1 _ W1 hsr) ?_;rintro e a1 W2 ⟨C',s2,κ2,⟨rfl,rfl,hle⟩,hs2⟩;obtain⟨κ3,hs3⟩:=hle _ κ2 a1 W2 hkl hs2;have holdr:∀b o,W1.heap[b]? =some o→isRec o=true→Cr.old b:=fun b o ho hr=>⟨lt_of_heap ho,Cm hs1 ho hr⟩;have hrec2:W2.heap[l]? =some (.loop Lr):=(hs3.old l (holdr l _ hrec rfl)).trans hrec;refine⟨hrec2,fun Lb=>?_⟩;have hs4:=hs3.ani (o':=.loop Lb) hrec2 hrec rfl rfl;refine wpIn_mono (hB l s x jm s' {Cr with w0:=Cr.w0.putObj l (.loop Lb)} hkl hst κ3 a1 _ hs4) ?_;rintro e a2 W4 ⟨C',s5,κ5,⟨hj,rfl,t6,hle6⟩,hs5⟩;obtain⟨κ6,hs6⟩:=hle6 {Cr with w0:=Cr.w0.putObj l (.loop Lb)} κ5 a2 W4 hkl hs5;have hkeep:∀b o,b≠l→W1.heap[b]? =some o→isRec o=true→W4.heap[b]? =some o:=fun b o hne ho hr=>by
   refine(hs6.old b (holdr b o ho hr)).trans ?_;exact(World.putObj_heap_other hne).trans ho
  have hev14:Evo (aO C.aN κ1 (hS s)) W1 W4:=(Evo.putObj hrec rfl).trans hs6.iH fun _ _ h _=>h;have hsz4:W1.heap.size≤W4.heap.size:=hev14.size;have hpvs:∀b o,aO C.aN κ6 (hS s') b o→b<W1.heap.size→aO C.aN κ1 (hS s) b o:=fun b o h hlt=>hs6.pvsub b o h (by show b<(W1.putObj l (.loop Lb)).heap.size;simpa[World.putObj]using hlt);refine⟨hj,(hs6.old l (holdr l _ hrec rfl)).trans (World.putObj_heap_same (lt_of_heap hrec)),fun b o _ hne ho hr=>hkeep b o hne ho hr,aO C.aN κ6 (hS s'),⟨κ6,?_,rfl⟩,⟨hev14,hpvs,fun b o hb ho hr=>hkeep b o (by omega) ho hr,hs6.os,hs6.tape,hs6.output⟩⟩;have hkc:bV C.k0 κ6:=fun l b hb=>by
   have hlt:=lt_of_at? hb;refine hs6.kext l b ?_;have:=hs1.kext l b hb;show at? (κ1.take m) l=some b;simp only[at?,qAW]at this⊢;rw[if_pos (by omega)];exact this
  have hslot:∀n,n<t.length→Rel W4 κ6 (aO C.aN κ6 (hS s')) (t.getD n .unk) (a.tmps.getD n undef):=fun n hn=>by
   have h1:Rel W1 κm (aO C.aN κ1 (hS s)) (t.getD n .unk) (a.tmps.getD n undef):=by
    refine(hs1.slot n hn).vw (κe:=κm) (g:=fun i=>if i<m then i else κ1.length) (fun i=>?_) _ (htm n _ fun i hi=>if_pos hi).symm;by_cases hi:i<m
    ·rw[if_pos hi];simp only[κm,at?,qAW,if_pos hi]
    ·rw[if_neg hi,at?_none_of_le (qAc _)];simp only[κm,at?,qAW,if_neg hi];rfl
   exact h1.mono hev14 hs6.kext hpvs
  refine⟨hs1.defers,hs1.len,hslot,hs6.klen,hkc,hs6.resv,hs6.obj,hs6.apart,fun l' b h1 h2 h3=>?_,hs6.bound,hs1.pvold,hs1.oldlt,fun b hb=>?_,hs6.os.trans hs1.os,hs6.tape.trans hs1.tape,hs6.output.trans hs1.output,qAj hs1.size hsz4,fun b o h hlt=>hs1.pvsub b o (hpvs b o h (qAq hlt hs1.size)) hlt,hs1.iH.trans hev14 hs1.pvsub⟩
  ·refine hs6.own l' b h1 h2 ⟨qAq (hs1.oldlt b h3) hs1.size,fun l'' q1 q2=>hs1.own l'' b q1 q2 h3⟩
  ·have hlt:=hs1.oldlt b hb;have ho:Cr.old b:=⟨qAq hlt hs1.size,fun l'' q1 q2=>hs1.own l'' b q1 q2 hb⟩;exact((hs6.old b ho).trans (World.putObj_heap_other (by omega))).trans (hs1.old b hb)
 ·rintro D _ W' ⟨κ',hs',rfl⟩ hD;obtain⟨hD1,hD2⟩:=hD rfl;have hnl:=Cm hs' hD2 rfl;have hDo:¬C.old D:=fun h=>by have:=hs.oldlt D h;have:=hs.size;omega
  let C2:Ctx:={C with old:=fun b=>C.old b∨b=D,w0:=W',pvE:=aO C.aN κ' (hS s1),ds:=qo none D++C.ds}
  have hs2:Sim C2 κ' ⟨t,hS s1⟩ {a with defers:=qo none D++a.defers} W':=by
   refine⟨by rw[hs'.defers],hs'.len,hs'.slot,hs'.klen,hs'.kext,hs'.resv,hs'.obj,hs'.apart,fun l b h1 h2 h3=>?_,hs'.bound,fun b o h=>.inl (hs'.pvold b o h),fun b hb=>?_,fun _ _=>rfl,rfl,rfl,rfl,qAc _,fun _ _ h _=>h,Evo.refl _ _⟩
   ·rcases h3 with h3|h3
    ·exact hs'.own l b h1 h2 h3
    ·exact hnl l (by rw[h1,h3]) h2
   ·rcases hb with hb|hb
    ·exact qAq (hs'.oldlt b hb) hs'.size
    ·rw[hb];exact lt_of_heap hD2
  have hroot:O8 P C C2:=by
   intro κx s ax Wx hx;have hDx:Wx.heap[D]? =some (.deferred (some [])):=(hx.old D (.inr rfl)).trans hD2;refine⟨Wx.putObj D (.deferred none),.inr ⟨D,rfl,run_takeDeferred hDx⟩,?_⟩;have hback:Sim {C with ds:=C2.ds} κx s ax Wx:=⟨hx.defers,hx.len,hx.slot,hx.klen,hx.kext,hx.resv,hx.obj,hx.apart,fun l b h1 h2 ho=>hx.own l b h1 h2 (.inl ho),hx.bound,hs'.pvold,hs'.oldlt,fun b hb=>(hx.old b (.inl hb)).trans (hs'.old b hb),hx.os.trans hs'.os,hx.tape.trans hs'.tape,hx.output.trans hs'.output,qAj hs'.size hx.size,fun b o hp hlt=>hs'.pvsub b o (hx.pvsub b o hp (qAq hlt hs'.size)) hlt,hs'.iH.trans hx.iH fun x o hp hlt=>hs'.pvsub x o hp hlt⟩;exact hback.ajI hDx rfl hDo
  have hqq:=hq C2 rfl hroot;cases jm with
  |none=>exact⟨C2,⟨t,hS s1⟩,κ',hqq,hs2⟩
  |some c=>exact hqq κ' _ W' hs2
end
theorem Jr{P:Program}{f:Nat}{fn:Func}{c:Code}{args:List AV}{H H':List AObj}{res:AV}(wk:Bool)(hf:P.funcs[f]? =some fn)(hb:fn.body=some c)(hlen:args.length≤fn.ntmps)
  (h:∀C:Ctx,C.ds=[]→C.k0.length≤H.length→GM P none c (fun e t h C'=>(e=.normal∨e=.ret)∧O8 P C C'∧XH P fn.results.toList wk H res H' t h) (args++List.replicate (fn.ntmps - args.length) (.tup [])) H C):ak P f args H res H':=by
 intro κ aN w vs hen hvl hr
 let C:Ctx:=bodyC κ aN H w []
 have hsim:Sim C κ ⟨args++List.replicate (fn.ntmps - args.length) (.tup []),H⟩ {tmps:=vs.toArray++Array.replicate (fn.ntmps - vs.toArray.size) undef,defers:=[]} w:=by
  refine⟨rfl,by simp[hvl],?_,hen.klen,bV.refl _,hen.resv,hen.obj,hen.apart,fun l b h1 h2 ho=>ho.2 l h1 h2,hen.bound,fun b o h=>⟨hen.pvlt b o h,fun l hl=>hen.pvdis b o l h hl⟩,fun b hb=>hb.1,fun _ _=>rfl,rfl,rfl,rfl,qAc _,fun _ _ h _=>h,Evo.refl _ _⟩;intro n hn;simp only[qAl,qBC]at hn;by_cases hlt:n<args.length
  ·have e1:(args++List.replicate (fn.ntmps - args.length) (AV.tup [])).getD n .unk=args.getD n .unk:=by simp[List.getD,qAf hlt]
   have e2:(vs.toArray++Array.replicate (fn.ntmps - vs.toArray.size) undef).getD n undef=vs.getD n undef:=by
    rw[qAh,qAS (by simp;omega)];simp[List.getD]
   rw[e1,e2];exact hr n hlt
  ·have e1:(args++List.replicate (fn.ntmps - args.length) (AV.tup [])).getD n .unk=.tup []:=by
    rw[List.getD,qAm (qAu hlt),qBy,if_pos (by omega)];rfl
   have e2:(vs.toArray++Array.replicate (fn.ntmps - vs.toArray.size) undef).getD n undef=undef:=by
    rw[qAh,qBg (by simp;omega),qBJ];split<;>rfl
   rw[e1,e2];exact jr
 have hk0:C.k0.length≤H.length:=qCa hen.klen;refine Aj.1 (callsIn_of_wp_marks (F:=zR none) (n:=0) hf hb trivial (wpIn_mono (h C rfl hk0 κ _ w hsim) ?_) rfl);rintro e a W ⟨C',s,κf,⟨he,hroot,hret⟩,hs⟩;have hfin:LeavesInM (zR none) 0 P fn a.tmps (fun e w'=>∃v κ',e=.returned v∧Leave κ κ' aN H H' w w'∧Rel w' κ' (aO aN κ' H') res v) a.defers .returning W:=by
  obtain⟨W',hm,hs'⟩:=hroot κf s a W hs;have hend:∃v,(results fn a.tmps).run P W'=.ok v W'∧∃v' κ',Ending.returned v=.returned v'∧Leave κ κ' aN H H' w W'∧Rel W' κ' (aO aN κ' H') res v':=by
   rcases hret with⟨L,hq⟩|⟨t',h',hle,L,hq⟩
   ·exact He hen C'.ds s κf a W' hq hs'
   ·obtain⟨κ2,hs2⟩:=hle {C with ds:=C'.ds} κf a W' hk0 hs';exact He hen C'.ds ⟨t',h'⟩ κ2 a W' hq hs2
  obtain⟨v,hv1,v',κ',hv2⟩:=hend;rw[hs.defers];rcases hm with⟨hds,rfl⟩|⟨D,hds,htake⟩
  ·rw[hds];exact⟨v,hv1,v',κ',hv2⟩
  ·rw[hds];exact⟨by simp,.inl ⟨D,W',rfl,htake,v,hv1,v',κ',hv2⟩⟩
 cases e with
 |normal=>exact hfin
 |ret=>exact hfin
 |exit id=>simp at he
 |goto l=>simp at he
 |panic c=>simp at he
 |outgrown=>simp at he
end
section
open Go Go.Proofs
theorem lV{ro:Option Nat}{id:Nat}{l:Array Oper}{dr:Bool}{Q:GT}{t:List AV}{h:List AObj}{C:Ctx}(r:Nat)(hd:l.toList.all SB=true)
  (hr:rep r h fun h2=>Iq h 0 fun k=>Ci Tryz.prog τ l.toList l.toList k [] t h2 fun es t h=>iI dr (iG l.toList es=true∧Q .normal t h C) (Q .normal t h C)):GM Tryz.prog ro (.region id l dr) Q t h C:=GM.rg aL jF hd r hr
theorem rgP{ro:Option Nat}{id:Nat}{l:Array Oper}{dr:Bool}{Q:GT}{t:List AV}{h:List AObj}{C:Ctx}(r:Nat)(G:Ctx→Prop)(hG:G C)(hr:rep r h fun h'=>SpR Tryz.prog ro l.toList dr Q 0 [] t h' G []):GM Tryz.prog ro (.region id l dr) Q t h C:=GM.rgS jF r G hG hr
section
variable {ro:Option Nat}{ops:List Oper}{dr:Bool}{Q:GT}{i:Nat}{es:List Eff}{t:List AV}{h:List AObj}{G:Ctx→Prop}{ps:List Nat}
theorem wT(j k:Nat)(hj:Nat.ble (i+j) ops.length=true)(hd:((ops.drop i).take j).all SB=true)(hr:Ci Tryz.prog τ ops ((ops.drop i).take j) k [] t h fun es1 t1 h1=>SpR Tryz.prog ro ops dr Q (i+j) (es++es1) t1 h1 G ps):SpR Tryz.prog ro ops dr Q i es t h G ps:=by
 rw[aL]at hr;exact SpR.seg j k (qAa hj) hd hr
variable {ι:Type}{K:ι→bB→World→Prop}{n0:Nat}{step:ι→AV→Option (Bool×ι)}{ds:List Deferred}{j j':ι}{r:Bool}
theorem Hg{P:Program}{o:Oper}{fo x:Operand}{argTypes:Array TypeId}{l:Nat}{ax:AV}(hop:ops[i]? =some o)(ho:o.op=.call {callee:=.value fo,args:=#[x],argTypes})(hw:d9 ops.toArray t o=some true)(hf:bC t fo=.yv l)(hK:KOk n0 K)(hY:Bg P l n0 K step)(hst:step j ax=some (r,j'))(hx:VW h [] ax (bC t x))
  (hn:uE (Sq ops.toArray o h.length (.bool r)).ws t h fun t' h'=>SpR P ro ops dr Q (i+1) (es++[Sq ops.toArray o h.length (.bool r)]) t' h' (At K n0 j' ds) (ps++[i])):SpR P ro ops dr Q i es t h (At K n0 j ds) ps:=
 SpR.sp hop (ah9 hw ho hf hx hK hY hst) hn
theorem aiQ{P:Program}{o:Oper}{fo:Operand}{args:Array Operand}{argTypes:Array TypeId}{l f:Nat}{caps:List AV}{A:Nat→List AV}{xs:List AV}{res:Bool→AV}(hop:ops[i]? =some o)(ho:o.op=.call {callee:=.value fo,args,argTypes})(hw:d9 ops.toArray t o=some true)(hf:bC t fo=.func f caps)(hok:aZ P f=true)(hc:uH P f A xs res)(hK:KOk n0 K)(hY:Bg P l n0 K step)(hst:jZ step xs j=some (r,j'))(hx:VWs h [] (A l) (args.toList.map (bC t)++caps))
  (hn:uE (Sq ops.toArray o h.length (res r)).ws t h fun t' h'=>SpR P ro ops dr Q (i+1) (es++[Sq ops.toArray o h.length (res r)]) t' h' (At K n0 j' ds) (ps++[i])):SpR P ro ops dr Q i es t h (At K n0 j ds) ps:=
 SpR.sp hop (aic hw ho hf hok hx hc hK hY hst) hn
end
theorem GM.xw{ro:Option Nat}{P:Program}{c:Operand}{x y:Code}{Q:GT}{t:List AV}{h:List AObj}{C:Ctx}{b:Bool}(hc:bC t c=.bool b)(hw:GM P ro (bif b then x else y) Q t h C):GM P ro (.cond c x y) Q t h C:=by
 refine GM.cond hc (fun e=>?_) (fun e=>?_)
 ·subst e;exact hw
 ·subst e;exact hw
end
section
open Go Go.Proofs
set_option maxRecDepth 100000
set_option maxHeartbeats 4000000
abbrev sV(l:List Val):AV:=.slice (l.map ah) .shared
theorem agk:aZ Tryz.prog 107=true:=by kernel_rfl
theorem apu:aZ Tryz.prog 70=true:=by kernel_rfl
theorem agd:aZ Tryz.prog 126=true:=by kernel_rfl
attribute [local simp] ren bD bA dK aH
theorem xg{ι:Type}{step:ι→AV→Option (Bool×ι)}{x:AV}{xs:List AV}{i i':ι}{r:Bool}(h:jZ step (x::xs) i=some (r,i')):∃b i1,step i x=some (b,i1)∧((b=true∧jZ step xs i1=some (r,i'))∨(b=false∧r=false∧i'=i1)):=by
 simp only[jZ]at h;cases hs:step i x with
 |none=>rw[hs]at h;cases h
 |some p=>
  obtain⟨b,i1⟩:=p;rw[hs]at h;cases b with
  |true=>exact⟨true,i1,rfl,.inl ⟨rfl,h⟩⟩
  |false=>cases h;exact⟨false,_,rfl,.inr ⟨rfl,rfl,rfl⟩⟩
theorem aae{ι:Type}{step:ι→AV→Option (Bool×ι)}:∀{xs ys:List AV} {i i':ι} {r:Bool},jZ step (xs++ys) i=some (r,i')→∃b i1,jZ step xs i=some (b,i1)∧((b=true∧jZ step ys i1=some (r,i'))∨(b=false∧r=false∧i'=i1)):=by
 intro xs
 induction xs with
 |nil=>intro ys i i' r h;exact⟨true,i,rfl,.inl ⟨rfl,h⟩⟩
 |cons x xs ih=>
  intro ys i i' r h;obtain⟨b,i1,h1,h2⟩:=xg h;rcases h2 with⟨rfl,h2⟩|⟨rfl,rfl,rfl⟩
  ·obtain⟨b,i2,h3,h4⟩:=ih h2;exact⟨b,i2,by simp only[jZ,h1];exact h3,h4⟩
  ·exact⟨false,_,by simp only[jZ,h1],.inr ⟨rfl,rfl,rfl⟩⟩
def chT(later fs0:List Val)(l j:Nat):List AV:=sV later::sV fs0:: .yv l:: .unk:: .unk:: .unk:: .bool false::(u8 (.unk::(sV later:: .int .i64 (later.length:Int):: .int .i64 (j:Int)::(u16 (.unk::[])))))
theorem At.k0{ι:Type}{K:ι→bB→World→Prop}{n0:Nat}{i:ι}{ds:List Deferred}{C:Ctx}(h:At K n0 i ds C):C.k0.length≤0:=by
 obtain⟨pv,w,rfl,_⟩:=h;exact qAc _
theorem wK{ι:Type}{P:Program}{rs:List ResultVar}{K:ι→bB→World→Prop}{n0:Nat}{i':ι}{res:AV}{e:Exit}{t:List AV}{h:List AObj}{C:Ctx}{ys:List AV}(he:e=.normal∨e=.ret)(hy:vQ P ⟨t,h⟩ rs=some ys)(hv:VW h [] res (wh false ys))(hC:At K n0 i' [] C):akS P rs K n0 i' res e t h C:=by
 obtain⟨pv,w,rfl,h1,h2⟩:=hC;exact⟨he,⟨ys,hy,hv⟩,pv,w,[],rfl,h1,h2,.inl rfl⟩
theorem afz(hcln:∀p0:List Val,p0.length≤100000→ak Tryz.prog 107 [.slice (List.map ah p0) .shared] [] (.psl 0 4 (List.length p0)) [.arr 4 (List.map ah p0)])(hclp:∀p0:List Val,ak Tryz.prog 70 [.psl 0 4 (List.length p0)] [.arr 4 (List.map ah p0)] (.psl 0 4 (List.length p0)) [.arr 4 (List.map ah p0)])
  (later fs0:List Val) (hlen:fs0.length+later.length≤100000) (ih:∀later' fs0':List Val,later'.length<later.length→fs0'.length+later'.length≤100000→uH Tryz.prog 126 (fun l=>[sV later',sV fs0',.yv l]) ((bh fs0' later').map fun v=>.agg (ah v)) (fun r=>.bool r)):uH Tryz.prog 126 (fun l=>[sV later,sV fs0,.yv l]) ((bh fs0 later).map fun v=>.agg (ah v)) (fun r=>.bool r):=by
 refine aas Tryz.func126 rfl (fun l=>by rw[Tryz.ntmps126];exact qAa rfl) ?_;intro ι K step l n0 i r i' hK hY hst C hC;obtain⟨b,i1,hs1,hst⟩:=xg hst;rw[Tryz.ntmps126];refine .q fun K1 k1=>?_;refine lV 0 (by kernel_rfl) ?_
 conv=>whnf
 refine k1 _ _ _ ?_;refine .q fun K2 k2=>?_;refine .q fun K3 k3=>?_;refine rgP 1 (At K n0 i []) hC ?_
 conv=>whnf
 refine wT 5 0 (by kernel_rfl) (by kernel_rfl) ?_
 conv=>whnf
 refine dP [] [0] [sV fs0] [sV fs0] (hcln fs0 (by omega)) agk rfl .nil (by simp;try decide) (.cons (.same _) .nil) (rn:=.psl 0 4 (List.length fs0)) (by simp;try decide) (Hn:=[.arr 4 (List.map ah fs0)]) ((fC (congrArg (AObj.arr _) (aH _ _)) rfl)) ?_
 conv=>whnf
 refine dP [0] [] [.psl 0 4 (List.length fs0)] [.psl 0 4 (List.length fs0)] (hclp fs0) apu rfl (.cons (congrArg (AObj.arr _) (aH _ _)) .nil) (by simp;try decide) (.cons (.same _) .nil) (rn:=.psl 0 4 (List.length fs0)) (by simp;try decide) (Hn:=[.arr 4 (List.map ah fs0)]) ((fC (congrArg (AObj.arr _) (aH _ _)) rfl)) ?_
 conv=>whnf
 refine Hg rfl rfl rfl rfl hK hY hs1 (by
  show VW _ _ (.agg (ah (Val.mk 5 0 [] fs0))) _;rw[aS];exact VW.agg' (.cons (.same rfl) (.cons (.same rfl) (.cons (.same rfl) (.cons (.LZ aH (gK _) rfl rfl) .nil))))) ?_
 conv=>whnf
 refine wT 1 0 (by kernel_rfl) (by kernel_rfl) ?_
 conv=>whnf
 refine SpR.nil rfl (fun h=>by cases h) fun C hC=>?_;refine k3 _ _ _ ?_;refine .xw rfl ?_;rcases hst with⟨rfl,hst⟩|⟨rfl,rfl,rfl⟩
 rotate_left
 ·refine .q fun K4 k4=>?_;refine lV 0 (by kernel_rfl) ?_
  conv=>whnf
  refine k4 _ _ _ ?_;refine .ret ?_;exact wK (.inr rfl) rfl (.same rfl) hC
 refine .skip ?_;refine k2 _ _ _ ?_;refine .q fun K4 k4=>?_;refine .q fun K5 k5=>?_;refine lV 0 (by kernel_rfl) ?_
 conv=>whnf
 refine aY (l:=later) (f:=ah) ?_
 conv=>whnf
 refine k5 _ _ _ ?_;refine .block ?_;refine .loop (fun n t h C=>∃j i,n=later.length - j∧j≤later.length∧Le 0 t h (chT later fs0 l j) []∧At K n0 i [] C∧jZ step ((Fv fs0 (later.drop j)).map fun v=>.agg (ah v)) i=some (r,i')) (n:=later.length) ⟨0,i1,rfl,qAV _,wk [] (.e aH (.e aH (.c rfl (.u (.u (.u (.c rfl (.u8 (.u (.e aH (.c rfl (.c rfl (.u16 (.u .nil)))))))))))))) .nil rfl,hC,hst⟩ ?_;rintro n t1 h1 C ⟨j,i,rfl,hj,hle,hC,hst⟩;refine .le hle hC.k0 ?_;refine .q fun K6 k6=>?_;refine lV 0 (by kernel_rfl) ?_
 conv=>whnf
 refine k6 _ _ _ ?_;refine .q fun K7 k7=>?_;refine .xw rfl ?_;by_cases hlt:j<later.length
 rotate_left
 ·have e1:decide ((j:Int)<(later.length:Int))=false:=by simpa using qAu hlt
  rw[e1];refine .exit ?_;refine k4 _ _ _ ?_;have hdr:later.drop j=[]:=qBO (qAu hlt);rw[hdr]at hst;simp only[Fv,qAM,jZ,Option.some.injEq,Prod.mk.injEq]at hst;obtain⟨rfl,rfl⟩:=hst;refine .q fun K8 k8=>?_;refine lV 0 (by kernel_rfl) ?_
  conv=>whnf
  refine k8 _ _ _ ?_;refine .ret ?_;exact wK (.inr rfl) rfl (.same rfl) hC
 have e1:decide ((j:Int)<(later.length:Int))=true:=by simpa using hlt
 rw[e1];refine .skip ?_;refine k7 _ _ _ ?_;obtain⟨v,hv⟩:∃v,v=later[j]:=⟨_,rfl⟩;have hdr:later.drop j=v::later.drop (j+1):=by rw[hv];exact qBr hlt
 rw[hdr]at hst;simp only[Fv,qBs]at hst;obtain⟨b,i2,hs2,hst⟩:=aae hst;have hx:idx later (j:Int)=some v:=by simp[idx,hv,hlt]
 refine .q fun K8 k8=>?_;refine .block ?_;refine .q fun K9 k9=>?_;refine lV 1 (by kernel_rfl) ?_
 conv=>whnf
 refine bf (l:=later) (f:=ah) (cs:=[.int .i64 ((v).kind),.int .i64 ((v).n),.str ((v).name),.slice (List.map ah ((v).kids)) .shared]) hx (aS v) rfl ?_
 conv=>whnf
 refine k9 _ _ _ ?_;refine .q fun K10 k10=>?_;refine rgP 3 (At K n0 i []) hC ?_
 conv=>whnf
 refine wT 10 1 (by kernel_rfl) (by kernel_rfl) ?_
 conv=>whnf
 refine⟨((j:Int)+1),bT (by omega) (by omega),?_⟩
 conv=>whnf
 refine M9 (l:=later) (x:=later.drop (j+1)) (f:=ah) (b:=later.length) (by
  unfold gQ;rw[if_pos (by omega)];congr 1;rw[show(((j:Int)+1).toNat)=j+1 from by omega];exact qCe (by simp)) (.int _ _ _) (.none _) kH ?_
 conv=>whnf
 refine dP [] [1] [sV fs0] [sV fs0] (hcln fs0 (by omega)) agk rfl .nil (by simp;try decide) (.cons (.same _) .nil) (rn:=.psl 1 4 (List.length fs0)) (by simp;try decide) (Hn:=[.arr 4 (List.map ah fs0)]) ((fC (congrArg (AObj.arr _) (aH _ _)) rfl)) ?_
 conv=>whnf
 refine⟨List.map ah ([v]),by simp only[qAA,qAM,aS];try rfl,?_⟩
 conv=>whnf
 refine Kt (l:=fs0) (l':=fs0) (ys:=([v])) (r:=fs0++[v]) (b:=56) (f:=ah) (by
  unfold app;rw[if_pos (by simp;omega)]) (gK _) kH ?_
 conv=>whnf
 refine aiQ (A:=fun l=>[sV (later.drop (j+1)),sV (fs0++[v]),.yv l]) (l:=l) rfl rfl rfl rfl agd (ih (later.drop (j+1)) (fs0++[v]) (by simp;omega) (by simp;omega)) hK hY hs2 (.cons (.share (aH _ _)) (.cons (.LZ aH (gK _) rfl rfl) (.cons (.same rfl) .nil))) ?_
 conv=>whnf
 refine wT 1 0 (by kernel_rfl) (by kernel_rfl) ?_
 conv=>whnf
 refine SpR.nil rfl (fun _=>⟨by kernel_rfl,by kernel_rfl⟩) fun C hC=>?_;refine k10 _ _ _ ?_;refine .xw rfl ?_;rcases hst with⟨rfl,hst⟩|⟨rfl,rfl,rfl⟩
 rotate_left
 ·refine .q fun K11 k11=>?_;refine lV 0 (by kernel_rfl) ?_
  conv=>whnf
  refine k11 _ _ _ ?_;refine .ret ?_;exact wK (.inr rfl) rfl (.same rfl) hC
 refine .skip ?_;refine k8 _ _ _ ?_;refine lV 0 (by kernel_rfl) ?_
 conv=>whnf
 refine⟨((j+1:Nat):Int),by have:=bT (n:=(j:Int)+1) (by omega) (by omega);simpa using this,?_⟩
 conv=>whnf
 exact⟨later.length - (j+1),by omega,j+1,i2,rfl,hlt,wk [] (.e aH (.e aH (.c rfl (.u (.u (.u (.c rfl (.u8 (.u (.e aH (.c rfl (.c rfl (.u16 (.u .nil)))))))))))))) .nil rfl,hC,hst⟩
theorem alx(hcln:∀p0:List Val,p0.length≤100000→ak Tryz.prog 107 [.slice (List.map ah p0) .shared] [] (.psl 0 4 (List.length p0)) [.arr 4 (List.map ah p0)])(hclp:∀p0:List Val,ak Tryz.prog 70 [.psl 0 4 (List.length p0)] [.arr 4 (List.map ah p0)] (.psl 0 4 (List.length p0)) [.arr 4 (List.map ah p0)]):
  ∀(n:Nat) (later fs0:List Val),later.length<n→fs0.length+later.length≤100000→uH Tryz.prog 126 (fun l=>[sV later,sV fs0,.yv l]) ((bh fs0 later).map fun v=>.agg (ah v)) (fun r=>.bool r):=by
 intro n
 induction n with
 |zero=>intro later fs0 h;omega
 |succ n ih=>intro later fs0 h hlen;exact afz hcln hclp later fs0 hlen fun l' f' h1 h2=>ih l' f' (by omega) h2
end
section
open Go Go.Proofs
set_option maxRecDepth 100000
set_option maxHeartbeats 4000000
attribute [local simp] ren bD bA dK aH bP bK aJ aQ
theorem an3:aZ Tryz.prog 175=true:=by kernel_rfl
def cellsOf:AV→List AV
 | .agg cs=>cs
 |_=>[]
abbrev qw(ty:Ty)(sz:List Int)(lo hi:Int)(cs:List Carrier)(ns:List Decl):List AV:=[.eptr [.int .i64 ty.kind,.str ty.name,.slice (ty.kids.map aC) .shared],.eptr [.slice (sz.map encI) .shared,.int .i64 lo,.int .i64 hi],.eptr [.slice (cs.map aj) .shared,.slice (ns.map aB) .shared]]
theorem aaA(ty:Ty)(sz:List Int)(lo hi:Int)(cs:List Carrier)(ns:List Decl):∀f,∀x∈qw ty sz lo hi cs ns,ren f x=x:=by
 intro f x hx;simp only[qAs,qCg,or_false]at hx;rcases hx with rfl|rfl|rfl<;>simp
def asT(gf:Nat)(caps:List AV):List AV:=.unk:: .func gf caps:: .ptr 0 0:: .unk:: .unk:: .unk:: .func gf caps::(u8 [])
def ati(gf:Nat)(caps:List AV)(x:AV):List AV:=.unk:: .func gf caps:: .ptr 0 0:: .unk:: .unk:: .eptr (cellsOf x):: .func gf caps::(u8 [])
def asH(s:List Val):List AObj:=[.box [.psl 1 4 s.length],.arr 4 (s.map ah)]
theorem ab6(l:List Val)(gf:Nat)(ty:Ty)(sz:List Int)(lo hi:Int)(cs:List Carrier)(ns:List Decl)(caps:List AV)(hcp:caps=qw ty sz lo hi cs ns)(res:Bool→AV)(hok:aZ Tryz.prog gf=true)(hc:uH Tryz.prog gf (fun l=>.yv l::caps) (l.map aVal) res)(hl:l.length≤100000):ak Tryz.prog 175 [.slice [] .nils,.func gf caps] [] (.slice (l.map ah) .shared) []:=by
 subst hcp;refine Jr true Tryz.func175 rfl (by rw[Tryz.ntmps175];exact qAa rfl) ?_;intro C hds hk0;rw[Tryz.ntmps175];refine .q fun K1 k1=>?_;refine lV 1 (by kernel_rfl) ?_
 conv=>whnf
 refine k1 _ _ _ ?_;refine .q fun K2 k2=>?_;refine .q fun K3 k3=>?_;refine lV 0 (by kernel_rfl) ?_
 conv=>whnf
 refine k3 _ _ _ ?_;refine .block ?_;refine .le (m:=0) (t':=asT gf (qw ty sz lo hi cs ns)) (h':=asH []) (wk [some 0,none] (.u (.c (by simp) (.c rfl (.u (.u (.u (.c (by simp) (.u8 .nil)))))))) (.old (OW.TH (.cons (.nilP 1 4) .nil)) (.new rfl .nil)) rfl) hk0 ?_;refine .rfB (σ:=List Val×List Val) (m:=1) (fun s=>asH s.1) (Om aVal fun s v=>bif Nat.blt s.length 100000 then some (none,s++[v])else none) (ati gf (qw ty sz lo hi cs ns)) (fun s x=>asH s.1) rfl rfl hok (aaA ty sz lo hi cs ns) hc (s0:=([],l)) (s1:=(l,[])) (jm:=none) ?_ ?_ ?_ ?_ (qAj hk0 (qAV 1)) hds ?_
 ·have hfold:∀(l d:List Val),d.length+l.length≤100000→zF (fun(s:List Val) v=>bif Nat.blt s.length 100000 then some ((none:Option Code),s++[v])else none) l d=some (none,(d++l,[])):=by
   intro l
   induction l with
   |nil=>intro d _;simp[zF]
   |cons v l ih=>
    intro d h;simp only[qAv]at h;have hb:Nat.blt d.length 100000=true:=by simp;omega
    simp only[zF,hb,cond_true];rw[ih (d++[v]) (by simp;omega)];simp
  rw[MU,hfold l [] (by simpa using hl)];rfl
 ·intro n f hf;have h0:=hf 0 (by omega)
  match n with
  |0|3|4|5|7|8|9|10|11|12|13|14=>rfl
  |1|6=>simp[asT]
  |2=>simp[asT,h0]
  |n+15=>rfl
 ·intro lp s x jm s' C hst hk;obtain⟨v,rfl,h2,h3⟩:=wL hst;refine lV 1 (by kernel_rfl) ?_
  conv=>whnf
  exact⟨rfl,rfl,wk [some 0,some 1] (.u (.c (by simp) (.c rfl (.u (.u (.cons (.J7 rfl rfl (.c rfl (.c rfl (.c rfl (.e aH .nil))))) (.c (by simp) (.u8 .nil)))))))) (.old (OW.TH (.c rfl .nil)) (.old (.arr' aH (gK _)) .nil)) rfl⟩
 ·intro lp s x jm s' C hk hst;obtain⟨v,rfl,h2,h3⟩:=wL hst;have hlt:Nat.blt s.1.length 100000=true:=by
   cases hb:Nat.blt s.1.length 100000 with
   |true=>rfl
   |false=>rw[hb]at h3;cases h3
  rw[hlt]at h3;simp only[cond_true,Option.some.injEq,Prod.mk.injEq]at h3;obtain⟨rfl,h3⟩:=h3;have hlt2:s.1.length<100000:=by simpa using hlt
  refine .block ?_;refine lV 2 (by kernel_rfl) ?_
  conv=>whnf
  refine⟨List.map ah ([Val.mk 0 0 [] []]),rfl,?_⟩
  conv=>whnf
  refine Kt (l:=s.1) (l':=s.1) (ys:=([Val.mk 0 0 [] []])) (r:=s.1++[Val.mk 0 0 [] []]) (b:=56) (f:=ah) (by
   unfold app;rw[if_pos (by simp;omega)]) (gK _) kH ?_
  conv=>whnf
  refine ixp (l:=s.1++[Val.mk 0 0 [] []]) (l0:=s.1++[Val.mk 0 0 [] []]) (x:=Val.mk 0 0 [] []) (by simp[idx]) rfl ?_
  conv=>whnf
  refine stp (l:=s.1++[Val.mk 0 0 [] []]) (f:=ah) (x:=Val.mk 0 0 [] []) (v:=v) (by simp[idx]) ((aS _).symm) (by decide) ?_
  conv=>whnf
  refine⟨by kernel_rfl,?_⟩
  conv=>whnf
  refine⟨rfl,rfl,asT gf (qw ty sz lo hi cs ns),?_⟩;rw[←h3];have hu:upd (s.1++[Val.mk 0 0 [] []]) (s.1.length:Int) v=s.1++[v]:=by simp[upd]
  rw[hu];exact wk [some 0,some 3] (.u (.c (by simp) (.c rfl (.u (.u (.u (.c (by simp) (.u8 .nil)))))))) (.old (OW.TH (.cons (.same (ahP (by simp) rfl)) .nil)) (.old (.arr' aH (gK _)) .nil)) rfl
 ·intro C2 hk2 hroot;have hk20:C2.k0.length≤0:=by rw[hk2];exact hk0
  refine k2 _ _ _ ?_;refine .q fun K4 k4=>?_;refine lV 0 (by kernel_rfl) ?_
  conv=>whnf
  refine k4 _ _ _ ?_;refine .ret ?_;refine⟨.inr rfl,hroot,jf (.unk:: .unk:: .unk:: .unk::sV l:: .unk:: .unk::(u8 [])) [] (wk [] (.u (.u (.u (.u (.cons (.LZ aH (gK _) rfl rfl) (.u (.u (.u8 .nil)))))))) .nil rfl) (dI aL [] rfl .nil ?_)⟩
  conv=>whnf
  first|rfl|(simp;done)|(simp;rfl)|(simp;and_intros<;>rfl)
end
section
open Go Go.Proofs
set_option maxRecDepth 100000
set_option maxHeartbeats 4000000
attribute [local simp] ren bD bA dK aH bP bK aJ aQ
theorem Rh:aZ Tryz.prog 122=true:=by kernel_rfl
theorem anU:aZ Tryz.prog 127=true:=by kernel_rfl
theorem Vs:aZ Tryz.prog 74=true:=by kernel_rfl
theorem ahu(l:List Val)(gf:Nat)(ty:Ty)(sz:List Int)(lo hi:Int)(cs:List Carrier)(ns:List Decl)(res:Bool→AV)(hok:aZ Tryz.prog gf=true)(hc:uH Tryz.prog gf (fun l=>.yv l::qw ty sz lo hi cs ns) (l.map aVal) res)(hl:l.length≤100000):ak Tryz.prog 127 [.func gf (qw ty sz lo hi cs ns)] [] (.slice (l.map ah) .shared) []:=by
 refine Jr true Tryz.func127 rfl (by rw[Tryz.ntmps127];exact qAa rfl) ?_;intro C hds hk0;rw[Tryz.ntmps127];refine .q fun K1 k1=>?_;refine lV 0 (by kernel_rfl) ?_
 conv=>whnf
 refine k1 _ _ _ ?_;refine .q fun K2 k2=>?_;refine lV 0 (by kernel_rfl) ?_
 conv=>whnf
 refine au (ab6 l gf ty sz lo hi cs ns _ rfl res hok hc hl) an3 (.cons (.same _) (.cons (.same _) .nil)) (fun g=>by simp) (fun g=>by simp) ?_
 conv=>whnf
 refine k2 _ _ _ ?_;refine .ret ?_;refine⟨.inr rfl,.refl C,aF aL (fun g=>by simp) ?_⟩
 conv=>whnf
theorem I8(ty:Ty)(sz:List Int)(lo hi:Int)(cs:List Carrier)(ns:List Decl):ak Tryz.prog 74 [.agg [.slice (cs.map aj) .shared,.slice (ns.map aB) .shared],.agg [.slice (sz.map encI) .shared,.int .i64 lo,.int .i64 hi],.agg [.int .i64 ty.kind,.str ty.name,.slice (ty.kids.map aC) .shared]] [] (.func 122 (qw ty sz lo hi cs ns)) []:=by
 refine Jr true Tryz.func74 rfl (by rw[Tryz.ntmps74];exact qAa rfl) ?_;intro C hds hk0;rw[Tryz.ntmps74];refine .q fun K1 k1=>?_;refine lV 3 (by kernel_rfl) ?_
 conv=>whnf
 refine k1 _ _ _ ?_;refine .q fun K2 k2=>?_;refine lV 0 (by kernel_rfl) ?_
 conv=>whnf
 refine k2 _ _ _ ?_;refine .ret ?_;refine⟨.inr rfl,.refl C,jf (.unk:: .unk:: .unk:: .unk:: .unk:: .unk:: .func 122 (qw ty sz lo hi cs ns):: .unk::[]) [] (wk [] (.u (.u (.u (.u (.u (.u (.cons (VW.func' (.cons (.J7 rfl rfl (.c rfl (.c rfl (.e bK .nil)))) (.cons (.J7 rfl rfl (.e bP (.c rfl (.c rfl .nil)))) (.cons (.J7 rfl rfl (.e aJ (.e aQ .nil))) .nil)))) (.u .nil)))))))) .nil rfl) (dI aL [] rfl .nil ?_)⟩
 conv=>whnf
 first|rfl|simp
end
section
open Go Go.Proofs
set_option maxRecDepth 100000
set_option maxHeartbeats 4000000
attribute [local simp] ren bD bA dK aH bP bK aJ aQ cellsOf
structure DX(ix:List Carrier→List Decl→Str→Option Int)(el:Str→Int→Option (List Val)):Prop where
 cln:∀p0:List Val,p0.length≤100000→ak Tryz.prog 107 [.slice (List.map ah p0) .shared] [] (.psl 0 4 (List.length p0)) [.arr 4 (List.map ah p0)]
 clp:∀p0:List Val,ak Tryz.prog 70 [.psl 0 4 (List.length p0)] [.arr 4 (List.map ah p0)] (.psl 0 4 (List.length p0)) [.arr 4 (List.map ah p0)]
 tru:∀b,ak Tryz.prog 123 [.bool b] [] (aVal (tV b)) []
 par:∀a b,ak Tryz.prog 125 [aVal a,aVal b] [] (aVal (pV a b)) []
 idx:∀cs ns nm r,ix cs ns nm=some r→ak Tryz.prog 67 [.agg [.slice (cs.map aj) .shared,.slice (ns.map aB) .shared],.str nm] [] (.int .i64 r) []
 els:∀nm k r,el nm k=some r→ak Tryz.prog 124 [.str nm,.int .i64 k] [] (sV r) []
theorem apf:aZ Tryz.prog 67=true:=by kernel_rfl
theorem agG:aZ Tryz.prog 123=true:=by kernel_rfl
theorem anI:aZ Tryz.prog 124=true:=by kernel_rfl
theorem aof:aZ Tryz.prog 125=true:=by kernel_rfl
def dG(l:Nat)(ty:Ty)(sz:List Int)(lo hi:Int)(cs:List Carrier)(ns:List Decl)(a5 a8 a9 a49 a50 a51 a68 a76:AV):List AV:=
 .unk:: .eptr [.int .i64 ty.kind,.str ty.name,.slice (ty.kids.map aC) .shared]:: .eptr [.slice (sz.map encI) .shared,.int .i64 lo,.int .i64 hi]:: .eptr [.slice (cs.map aj) .shared,.slice (ns.map aB) .shared]:: .eptr [.yv l]::
 a5:: .unk:: .unk::a8::a9::(u32 (u4 (u2 (.unk::a49::a50::a51::(u16 (a68:: .unk::(u4 (u2 (a76:: .unk::(u16 (u2 [])))))))))))
theorem Rb{h:List AObj}{L:List (Option Nat)}(v:Val):VW h L (aVal v) (aVal v):=.same (by simp)
theorem ajp{ι:Type}{P:Program}{rs:List ResultVar}{K:ι→bB→World→Prop}{n0 D:Nat}{i':ι}{res:AV}{e:Exit}{t:List AV}{h:List AObj}{pv:bB}{w:World}{ys:List AV}(he:e=.normal∨e=.ret)(hy:vQ P ⟨t,h⟩ rs=some ys)(hv:VW h [] res (wh false ys))(hK:K i' pv w)(hn:n0≤w.heap.size)(hD:n0≤D∧w.heap[D]? =some (.deferred (some []))):akS P rs K n0 i' res e t h (ko pv w (qo none D++[])):=
 ⟨he,⟨ys,hy,hv⟩,pv,w,qo none D,rfl,hK,hn,.inr ⟨D,rfl,hD.1,hD.2⟩⟩
def Wp{ι:Type}(step:ι→AV→Option (Bool×ι))(lb:List Val)(i:ι)(a:Val):Option (Option Code×ι):=(jZ step ((lb.map (pV a)).map aVal) i).map fun q=>(bif q.1 then none else some .ret,q.2)
theorem ag2{ι:Type}{step:ι→AV→Option (Bool×ι)}{lb:List Val}:∀(la:List Val) {i i':ι} {r:Bool},jZ step ((la.flatMap fun a=>lb.map fun b=>pV a b).map aVal) i=some (r,i')→∃rest,zF (Wp step lb) la i=some (bif r then none else some .ret,(i',rest)):=by
 intro la
 induction la with
 |nil=>
  intro i i' r h;simp only[List.flatMap_nil,qAM,jZ,Option.some.injEq,Prod.mk.injEq]at h;obtain⟨rfl,rfl⟩:=h;exact⟨[],rfl⟩
 |cons a la ih=>
  intro i i' r h;simp only[qBw,qBs]at h;obtain⟨b,i1,h1,h2⟩:=aae h;have e:Wp step lb i a=some (bif b then none else some .ret,i1):=by
   unfold Wp;rw[show lb.map (pV a)=lb.map fun b=>pV a b from rfl,h1];rfl
  simp only[zF,e];rcases h2 with⟨rfl,h2⟩|⟨rfl,rfl,rfl⟩
  ·exact ih h2
  ·exact⟨la,rfl⟩
def Wo{ι:Type}(step:ι→AV→Option (Bool×ι))(a:Val)(p:ι×List Val)(b:Val):Option (Option Code×(ι×List Val)):=(step p.1 (aVal (pV a b))).map fun q=>(bif q.1 then none else some .ret,(q.2,p.2))
theorem ahQ{ι:Type}{step:ι→AV→Option (Bool×ι)}{a:Val}{y:List Val}:∀(lb:List Val) {i i':ι} {r:Bool},jZ step ((lb.map (pV a)).map aVal) i=some (r,i')→∃rest,zF (Wo step a) lb (i,y)=some (bif r then none else some .ret,((i',y),rest)):=by
 intro lb
 induction lb with
 |nil=>
  intro i i' r h;simp only[qAM,jZ,Option.some.injEq,Prod.mk.injEq]at h;obtain⟨rfl,rfl⟩:=h;exact⟨[],rfl⟩
 |cons b lb ih=>
  intro i i' r h;simp only[qAA]at h;obtain⟨b',i1,h1,h2⟩:=xg h;have e:Wo step a (i,y) b=some (bif b' then none else some .ret,(i1,y)):=by
   simp only[Wo,h1];rfl
  simp only[zF,e];rcases h2 with⟨rfl,h2⟩|⟨rfl,rfl,rfl⟩
  ·exact ih h2
  ·exact⟨lb,rfl⟩
theorem aiH{ix:List Carrier→List Decl→Str→Option Int}{el:Str→Int→Option (List Val)}(X:DX ix el)(cs:List Carrier)(ns:List Decl)(sz:List Int)(lo hi:Int)(n:Nat)(ty:Ty)(out:List Val)(h:BQ ix el cs ns sz lo hi (n+1) ty=some out)
  (ih:∀ty out,BQ ix el cs ns sz lo hi n ty=some out→uH Tryz.prog 122 (fun l=>.yv l::qw ty sz lo hi cs ns) (out.map aVal) (fun _=>.tup [])):
  uH Tryz.prog 122 (fun l=>.yv l::qw ty sz lo hi cs ns) (out.map aVal) (fun _=>.tup []):=by
 refine aas Tryz.func122 rfl (fun l=>by rw[Tryz.ntmps122];exact qAa rfl) ?_;intro ι K step l n0 i r i' hK hY hst C hC;rw[Tryz.ntmps122];simp only[BQ]at h;refine .q fun K1 k1=>?_;refine lV 1 (by kernel_rfl) ?_
 conv=>whnf
 refine k1 _ _ _ ?_;refine .le (m:=0) (t':=dG l ty sz lo hi cs ns .unk .unk .unk .unk .unk .unk .unk .unk) (h':=[]) (by(refine wk [] ?_ .nil rfl;unfold dG;repeat(first|exact VWs.nil|refine VWs.u ?_|refine VWs.c rfl ?_|refine VWs.e aH ?_|refine VWs.cons (.J7 rfl rfl (.c rfl .nil)) ?_|refine VWs.cons (.J7 rfl rfl (.c rfl (.c rfl (.c rfl (.e aH .nil))))) ?_|refine VWs.c (by simp) ?_))) hC.k0 ?_
 refine .q fun K2 k2=>?_;refine lV 0 (by kernel_rfl) ?_
 conv=>whnf
 refine k2 _ _ _ ?_;refine .block ?_;refine .q fun K3 k3=>?_;refine lV 0 (by kernel_rfl) ?_
 conv=>whnf
 refine k3 _ _ _ ?_;refine .xw rfl ?_;cases hk1:(ty.kind==1)with
 |true=>
  rw[hk1]at h;simp only[cond_true]at h;cases hb:(decide (-1000000000≤lo)&&decide (hi≤1000000000))with
  |false=>rw[hb]at h;cases h
  |true=>
  rw[hb]at h;simp only[cond_true,Option.some.injEq]at h;simp only[qAd,decide_eq_true_eq]at hb;obtain⟨hb1,hb2⟩:=hb;subst h;obtain⟨N,hN⟩:∃N,N=(hi - lo+1).toNat:=⟨_,rfl⟩;rw[←hN]at hst;refine .q fun K4 k4=>?_;refine lV 0 (by kernel_rfl) ?_
  conv=>whnf
  refine k4 _ _ _ ?_;refine .block ?_;refine .loop (fun m t h C=>∃(j:Nat) (i:ι),m=N - j∧j≤N∧Le 0 t h (dG l ty sz lo hi cs ns (.int .i64 (lo+(j:Int))) .unk .unk .unk .unk .unk .unk .unk) []∧At K n0 i [] C∧jZ step ((((List.range N).map fun(k:Nat)=>Val.mk 1 (lo+(k:Int)) [] []).drop j).map aVal) i=some (r,i')) (n:=N) ⟨0,i,rfl,qAV _,?_,hC,hst⟩ ?_
  ·have e0:lo+((0:Nat):Int)=lo:=by simp
   rw[e0]
   (refine wk [] ?_ .nil rfl;unfold dG;repeat(first|exact VWs.nil|refine VWs.u ?_|refine VWs.c rfl ?_|refine VWs.e aH ?_|refine VWs.cons (.J7 rfl rfl (.c rfl .nil)) ?_|refine VWs.cons (.J7 rfl rfl (.c rfl (.c rfl (.c rfl (.e aH .nil))))) ?_|refine VWs.c (by simp) ?_))
  rintro m t1 h1 C ⟨j,i,rfl,hj,hle,hC,hst⟩;refine .le hle hC.k0 ?_;refine .q fun K5 k5=>?_;refine .q fun K6 k6=>?_;refine lV 0 (by kernel_rfl) ?_
  conv=>whnf
  refine k6 _ _ _ ?_;refine .xw rfl ?_;by_cases hlt:j<N
  rotate_left
  ·have e1:decide (lo+(j:Int)≤hi)=false:=by rw[decide_eq_false_iff_not];omega
   rw[e1];refine .exit ?_;have hdr:((List.range N).map fun(k:Nat)=>Val.mk 1 (lo+(k:Int)) [] []).drop j=[]:=qBO (by simp;omega);rw[hdr]at hst;simp only[qAM,jZ,Option.some.injEq,Prod.mk.injEq]at hst;obtain⟨rfl,rfl⟩:=hst;exact wK (ys:=[]) (.inl rfl) rfl (.same rfl) hC
  have e1:decide (lo+(j:Int)≤hi)=true:=by rw[decide_eq_true_iff];omega
  rw[e1];refine .skip ?_;refine k5 _ _ _ ?_;have hdr:((List.range N).map fun(k:Nat)=>Val.mk 1 (lo+(k:Int)) [] []).drop j=Val.mk 1 (lo+(j:Int)) [] []::((List.range N).map fun(k:Nat)=>Val.mk 1 (lo+(k:Int)) [] []).drop (j+1):=by
   rw[qBr (by simpa using hlt)];simp
  rw[hdr,qAA]at hst;obtain⟨b,i2,hs2,hst⟩:=xg hst;refine .q fun K7 k7=>?_;refine .block ?_;refine .q fun K8 k8=>?_;refine rgP 0 (At K n0 i []) hC ?_
  conv=>whnf
  refine wT 3 0 (by kernel_rfl) (by kernel_rfl) ?_
  conv=>whnf
  refine Hg rfl rfl rfl rfl hK hY hs2 (VW.agg' (.cons (.same rfl) (.cons (.same rfl) (.cons (.same rfl) (.cons (.share rfl) .nil))))) ?_
  conv=>whnf
  refine wT 1 0 (by kernel_rfl) (by kernel_rfl) ?_
  conv=>whnf
  refine SpR.nil rfl (fun h=>by cases h) fun C hC=>?_;refine k8 _ _ _ ?_;refine .xw rfl ?_;rcases hst with⟨rfl,hst⟩|⟨rfl,rfl,rfl⟩
  rotate_left
  ·refine .ret ?_;exact wK (ys:=[]) (.inr rfl) rfl (.same rfl) hC
  refine .skip ?_;refine k7 _ _ _ ?_;refine lV 0 (by kernel_rfl) ?_
  conv=>whnf
  refine⟨lo+((j+1:Nat):Int),by have:=bT (n:=lo+(j:Int)+1) (by omega) (by omega);rw[←this];omega,?_⟩
  conv=>whnf
  exact⟨N - (j+1),by omega,j+1,i2,rfl,hlt,by(refine wk [] ?_ .nil rfl;unfold dG;repeat(first|exact VWs.nil|refine VWs.u ?_|refine VWs.c rfl ?_|refine VWs.e aH ?_|refine VWs.cons (.J7 rfl rfl (.c rfl .nil)) ?_|refine VWs.cons (.J7 rfl rfl (.c rfl (.c rfl (.c rfl (.e aH .nil))))) ?_|refine VWs.c (by simp) ?_)),hC,hst⟩
 |false=>
 rw[hk1]at h;simp only[cond_false]at h;refine .q fun K4 k4=>?_;refine lV 0 (by kernel_rfl) ?_
 conv=>whnf
 refine k4 _ _ _ ?_;refine .xw rfl ?_;cases hk2:(ty.kind==2)with
 |true=>
  rw[hk2]at h;simp only[cond_true,Option.some.injEq]at h;subst h;obtain⟨b,i1,hs1,hst⟩:=xg hst;refine rgP 0 (At K n0 i []) hC ?_
  conv=>whnf
  refine wT 2 0 (by kernel_rfl) (by kernel_rfl) ?_
  conv=>whnf
  refine au (X.tru false) agG (.cons (.same _) .nil) (fun g=>by simp) (fun g=>by simp) ?_
  conv=>whnf
  refine Hg rfl rfl rfl rfl hK hY hs1 (Rb _) ?_
  conv=>whnf
  rcases hst with⟨rfl,hst⟩|⟨rfl,rfl,rfl⟩
  ·obtain⟨b,i2,hs2,hst⟩:=xg hst;refine wT 3 0 (by kernel_rfl) (by kernel_rfl) ?_
   conv=>whnf
   refine au (X.tru true) agG (.cons (.same _) .nil) (fun g=>by simp) (fun g=>by simp) ?_
   conv=>whnf
   refine Hg rfl rfl rfl rfl hK hY hs2 (Rb _) ?_
   conv=>whnf
   refine wT 1 0 (by kernel_rfl) (by kernel_rfl) ?_
   conv=>whnf
   refine SpR.nil rfl (fun _=>⟨by kernel_rfl,by kernel_rfl⟩) fun C hC=>?_;have e:r=b∧i'=i2:=by
    rcases hst with⟨rfl,hst⟩|⟨rfl,rfl,rfl⟩
    ·simp only[qAM,jZ,Option.some.injEq,Prod.mk.injEq]at hst;exact⟨hst.1.symm,hst.2.symm⟩
    ·exact⟨rfl,rfl⟩
   rw[e.2];exact wK (ys:=[]) (.inl rfl) rfl (.same rfl) hC
  ·refine wT 5 0 (by kernel_rfl) (by kernel_rfl) ?_
   conv=>whnf
   refine SpR.nil rfl (fun _=>⟨by kernel_rfl,by kernel_rfl⟩) fun C hC=>?_;exact wK (ys:=[]) (.inl rfl) rfl (.same rfl) hC
 |false=>
 rw[hk2]at h;simp only[cond_false]at h;refine .q fun K5 k5=>?_;refine lV 0 (by kernel_rfl) ?_
 conv=>whnf
 refine k5 _ _ _ ?_;refine .xw rfl ?_;cases hk3:(ty.kind==3)with
 |true=>
  rw[hk3]at h;simp only[cond_true]at h;obtain⟨x1,hx1,h⟩:=ob h;obtain⟨x2,hx2,h⟩:=ob h;obtain⟨x3,hx3,h⟩:=ob h;cases hb:Nat.ble x3.length 100000 with
  |false=>rw[hb]at h;cases h
  |true=>
  rw[hb]at h;simp only[cond_true,Option.some.injEq]at h;subst h;have hlen:x3.length≤100000:=qAa hb;refine .q fun K6 k6=>?_;refine lV 0 (by kernel_rfl) ?_
  conv=>whnf
  refine au (X.idx _ _ _ _ hx1) apf (.cons (.same _) (.cons (.same _) .nil)) (fun g=>by simp) (fun g=>rfl) ?_
  conv=>whnf
  refine bf (l:=sz) (f:=encI) (cs:=[.int .i64 x2]) hx2 rfl rfl ?_
  conv=>whnf
  refine au (X.els _ _ _ hx3) anI (.cons (.same _) (.cons (.same _) .nil)) (fun g=>by simp) (fun g=>by simp) ?_
  conv=>whnf
  refine aY (l:=x3) (f:=ah) ?_
  conv=>whnf
  refine⟨by kernel_rfl,?_⟩
  conv=>whnf
  refine k6 _ _ _ ?_;refine .block ?_;refine .loop (fun m t h C=>∃(j:Nat) (i:ι),m=x3.length - j∧j≤x3.length∧Le 0 t h (dG l ty sz lo hi cs ns .unk .unk .unk (sV x3) (.int .i64 (x3.length:Int)) (.int .i64 (j:Int)) .unk .unk) []∧At K n0 i [] C∧jZ step ((x3.drop j).map aVal) i=some (r,i')) (n:=x3.length) ⟨0,i,rfl,qAV _,by(refine wk [] ?_ .nil rfl;unfold dG;repeat(first|exact VWs.nil|refine VWs.u ?_|refine VWs.c rfl ?_|refine VWs.e aH ?_|refine VWs.cons (.J7 rfl rfl (.c rfl .nil)) ?_|refine VWs.cons (.J7 rfl rfl (.c rfl (.c rfl (.c rfl (.e aH .nil))))) ?_|refine VWs.c (by simp) ?_)),hC,hst⟩ ?_
  rintro m t1 h1 C ⟨j,i,rfl,hj,hle,hC,hst⟩;refine .le hle hC.k0 ?_;refine .q fun K7 k7=>?_;refine lV 0 (by kernel_rfl) ?_
  conv=>whnf
  refine k7 _ _ _ ?_;refine .q fun K8 k8=>?_;refine .xw rfl ?_;by_cases hlt:j<x3.length
  rotate_left
  ·have e1:decide ((j:Int)<(x3.length:Int))=false:=by simpa using qAu hlt
   rw[e1];refine .exit ?_;have hdr:x3.drop j=[]:=qBO (qAu hlt);rw[hdr]at hst;simp only[qAM,jZ,Option.some.injEq,Prod.mk.injEq]at hst;obtain⟨rfl,rfl⟩:=hst;exact wK (ys:=[]) (.inl rfl) rfl (.same rfl) hC
  have e1:decide ((j:Int)<(x3.length:Int))=true:=by simpa using hlt
  rw[e1];refine .skip ?_;refine k8 _ _ _ ?_;obtain⟨v,hv⟩:∃v,v=x3[j]:=⟨_,rfl⟩;have hdr:x3.drop j=v::x3.drop (j+1):=by rw[hv];exact qBr hlt
  rw[hdr,qAA]at hst;obtain⟨b,i2,hs2,hst⟩:=xg hst;have hx:idx x3 (j:Int)=some v:=by simp[Abs.idx,hv,hlt]
  refine .q fun K9 k9=>?_;refine .block ?_;refine .q fun K10 k10=>?_;refine lV 1 (by kernel_rfl) ?_
  conv=>whnf
  refine bf (l:=x3) (f:=ah) (cs:=[.int .i64 ((v).kind),.int .i64 ((v).n),.str ((v).name),.slice (List.map ah ((v).kids)) .shared]) hx (aS v) rfl ?_
  conv=>whnf
  refine k10 _ _ _ ?_;refine .q fun K11 k11=>?_;refine rgP 0 (At K n0 i []) hC ?_
  conv=>whnf
  refine wT 2 0 (by kernel_rfl) (by kernel_rfl) ?_
  conv=>whnf
  refine Hg rfl rfl rfl rfl hK hY hs2 (Rb _) ?_
  conv=>whnf
  refine wT 1 0 (by kernel_rfl) (by kernel_rfl) ?_
  conv=>whnf
  refine SpR.nil rfl (fun h=>by cases h) fun C hC=>?_;refine k11 _ _ _ ?_;refine .xw rfl ?_;rcases hst with⟨rfl,hst⟩|⟨rfl,rfl,rfl⟩
  rotate_left
  ·refine .ret ?_;exact wK (ys:=[]) (.inr rfl) rfl (.same rfl) hC
  refine .skip ?_;refine k9 _ _ _ ?_;refine lV 0 (by kernel_rfl) ?_
  conv=>whnf
  refine⟨((j+1:Nat):Int),by have:=bT (n:=(j:Int)+1) (by omega) (by omega);simpa using this,?_⟩
  conv=>whnf
  exact⟨x3.length - (j+1),by omega,j+1,i2,rfl,hlt,by(refine wk [] ?_ .nil rfl;unfold dG;repeat(first|exact VWs.nil|refine VWs.u ?_|refine VWs.c rfl ?_|refine VWs.e aH ?_|refine VWs.cons (.J7 rfl rfl (.c rfl .nil)) ?_|refine VWs.cons (.J7 rfl rfl (.c rfl (.c rfl (.c rfl (.e aH .nil))))) ?_|refine VWs.c (by simp) ?_)),hC,hst⟩
 |false=>
 rw[hk3]at h;simp only[cond_false]at h;refine .q fun K6 k6=>?_;refine lV 0 (by kernel_rfl) ?_
 conv=>whnf
 refine k6 _ _ _ ?_;refine .xw rfl ?_;cases hk4:(ty.kind==4)with
 |true=>
  rw[hk4]at h;simp only[cond_true]at h;obtain⟨t0,ht0,h⟩:=ob h;obtain⟨la,hla,h⟩:=ob h;obtain⟨t1,ht1,h⟩:=ob h;obtain⟨lb,hlb,h⟩:=ob h;simp only[Option.some.injEq]at h;subst h;refine .q fun K7 k7=>?_;refine lV 0 (by kernel_rfl) ?_
  conv=>whnf
  refine bf (l:=ty.kids) (f:=aC) (cs:=[.int .i64 t0.kind,.str t0.name,.slice (t0.kids.map aC) .shared]) ht0 (bZ t0) rfl ?_
  conv=>whnf
  refine au (I8 t0 sz lo hi cs ns) Vs (.cons (.same _) (.cons (.same _) (.cons (.same _) .nil))) (fun g=>by simp) (fun g=>by simp) ?_
  conv=>whnf
  refine⟨by kernel_rfl,?_⟩
  conv=>whnf
  refine k7 _ _ _ ?_;refine .block ?_;refine .le (m:=0) (t':=dG l ty sz lo hi cs ns .unk .unk .unk .unk .unk .unk (.func 122 (qw t0 sz lo hi cs ns)) .unk) (h':=[]) (by(refine wk [] ?_ .nil rfl;unfold dG;repeat(first|exact VWs.nil|refine VWs.u ?_|refine VWs.c rfl ?_|refine VWs.e aH ?_|refine VWs.cons (.J7 rfl rfl (.c rfl .nil)) ?_|refine VWs.cons (.J7 rfl rfl (.c rfl (.c rfl (.c rfl (.e aH .nil))))) ?_|refine VWs.c (by simp) ?_))) hC.k0 ?_
  obtain⟨rest,hfx⟩:=ag2 la hst;refine GM.rfN (K:=fun p:ι×List Val=>K p.1) (stepO:=Jq step) (lo:=l) (n0:=n0) (i0:=(i,la)) (i':=(i',rest)) (ds:=[]) (Om aVal (Wp step lb)) (fun x=>dG l ty sz lo hi cs ns .unk (.eptr (cellsOf x)) .unk .unk .unk .unk .unk .unk) (fun p q=>p.1=q.1) rfl rfl Rh (ih t0 la hla) (fun p q pv w e h=>by rw[←e];exact h) hK.lift hY.lift (fun l0 e=>by cases e) (by rw[MU];exact hfx) ?_ ?_ ?_ C (by obtain⟨pv,w,q1,q2,q3⟩:=hC;exact⟨pv,w,q1,q2,q3⟩)
  ·intro lp p x jm p' C hst hk;obtain⟨a,rfl,h2,h3⟩:=wL hst;refine lV 1 (by kernel_rfl) ?_
   conv=>whnf
   exact⟨rfl,rfl,by(refine wk [] ?_ .nil rfl;unfold dG;repeat(first|exact VWs.nil|refine VWs.u ?_|refine VWs.c rfl ?_|refine VWs.e aH ?_|refine VWs.cons (.J7 rfl rfl (.c rfl .nil)) ?_|refine VWs.cons (.J7 rfl rfl (.c rfl (.c rfl (.c rfl (.e aH .nil))))) ?_|refine VWs.c (by simp) ?_))⟩
  ·rintro K' lp n1 ⟨i,la'⟩ x jm ⟨i1,la1⟩ hK' hY' hrec hE hst C hC;obtain⟨a,rfl,h2,h3⟩:=wL hst;simp only at h2 h3;obtain⟨b,hb1,rfl⟩:∃b,jZ step ((lb.map (pV a)).map aVal) i=some (b,i1)∧jm=bif b then none else some .ret:=by
    unfold Wp at h3;cases hq:jZ step ((lb.map (pV a)).map aVal) i with
    |none=>rw[hq]at h3;cases h3
    |some q=>
     rw[hq]at h3;simp only[qAt,Option.some.injEq,Prod.mk.injEq]at h3;obtain⟨rfl,rfl⟩:=h3;exact⟨q.1,rfl,rfl⟩
   obtain⟨rest2,hfy⟩:=ahQ (y:=la') lb hb1;refine .block ?_;refine .q fun K8 k8=>?_;refine lV 0 (by kernel_rfl) ?_
   conv=>whnf
   refine bf (l:=ty.kids) (f:=aC) (cs:=[.int .i64 t1.kind,.str t1.name,.slice (t1.kids.map aC) .shared]) ht1 (bZ t1) rfl ?_
   conv=>whnf
   refine au (I8 t1 sz lo hi cs ns) Vs (.cons (.same _) (.cons (.same _) (.cons (.same _) .nil))) (fun g=>by simp) (fun g=>by simp) ?_
   conv=>whnf
   refine⟨by kernel_rfl,?_⟩
   conv=>whnf
   refine k8 _ _ _ ?_;refine .block ?_;refine .le (m:=0) (t':=dG l ty sz lo hi cs ns .unk (.eptr (cellsOf (aVal a))) .unk .unk .unk .unk .unk (.func 122 (qw t1 sz lo hi cs ns))) (h':=[]) (by(refine wk [] ?_ .nil rfl;unfold dG;repeat(first|exact VWs.nil|refine VWs.u ?_|refine VWs.c rfl ?_|refine VWs.e aH ?_|refine VWs.cons (.J7 rfl rfl (.c rfl .nil)) ?_|refine VWs.cons (.J7 rfl rfl (.c rfl (.c rfl (.c rfl (.e aH .nil))))) ?_|refine VWs.c (by simp) ?_))) hC.k0 ?_
   refine GM.rfN (K:=fun q:(ι×List Val)×List Val=>K' q.1) (stepO:=Jq (Jq step)) (lo:=l) (n0:=n1) (i0:=((i,la'),lb)) (i':=((i1,la'),rest2)) (ds:=[]) (Om aVal (Wo step a)) (fun x=>dG l ty sz lo hi cs ns .unk (.eptr (cellsOf (aVal a))) (.eptr (cellsOf x)) .unk .unk .unk .unk .unk) (fun p q=>p.1=q.1) rfl rfl Rh (ih t1 lb hlb) (fun p q pv w e h=>by rw[←e];exact h) hK'.lift hY'.lift (fun l0 e i pv w h=>by cases e;exact hrec _ _ _ h) (by rw[MU];exact hfy) ?_ ?_ ?_ C (by obtain⟨pv,w,q1,q2,q3⟩:=hC;exact⟨pv,w,q1,q2,q3⟩)
   ·intro lq p x jm p' C hst hk;obtain⟨bv,rfl,h2,h3⟩:=wL hst;refine lV 1 (by kernel_rfl) ?_
    conv=>whnf
    exact⟨rfl,rfl,by(refine wk [] ?_ .nil rfl;unfold dG;repeat(first|exact VWs.nil|refine VWs.u ?_|refine VWs.c rfl ?_|refine VWs.e aH ?_|refine VWs.cons (.J7 rfl rfl (.c rfl .nil)) ?_|refine VWs.cons (.J7 rfl rfl (.c rfl (.c rfl (.c rfl (.e aH .nil))))) ?_|refine VWs.c (by simp) ?_))⟩
   ·rintro K2 lq n2 ⟨⟨i,y⟩,l2⟩ x jm ⟨⟨i1,y1⟩,l3⟩ hK2 hY2 hrec2 hE2 hst C hC;obtain⟨bv,rfl,h2,h3⟩:=wL hst;simp only at h2 h3;obtain⟨b,hb1,rfl,rfl⟩:∃b,step i (aVal (pV a bv))=some (b,i1)∧y1=y∧jm=bif b then none else some .ret:=by
     unfold Wo at h3;cases hq:step i (aVal (pV a bv))with
     |none=>rw[hq]at h3;cases h3
     |some q=>
      rw[hq]at h3;simp only[qAt,Option.some.injEq,Prod.mk.injEq]at h3;obtain⟨rfl,rfl,rfl⟩:=h3;exact⟨q.1,rfl,rfl,rfl⟩
    have hst2:Jq (Jq step) ((i,y1),l2) (aVal (pV a bv))=some (b,((i1,y1),l2)):=by simp only[Jq,hb1];rfl
    refine .block ?_;refine .q fun K9 k9=>?_;refine rgP 0 (At K2 n2 ((i,y1),l2) []) hC ?_
    conv=>whnf
    refine wT 4 0 (by kernel_rfl) (by kernel_rfl) ?_
    conv=>whnf
    refine au (X.par a bv) aof (.cons (.same _) (.cons (.same _) .nil)) (fun g=>by simp) (fun g=>by simp) ?_
    conv=>whnf
    refine Hg rfl rfl rfl rfl hK2 hY2 hst2 (Rb _) ?_
    conv=>whnf
    refine wT 1 0 (by kernel_rfl) (by kernel_rfl) ?_
    conv=>whnf
    refine SpR.nil rfl (fun _=>⟨by kernel_rfl,by kernel_rfl⟩) fun C hC=>?_;refine k9 _ _ _ ?_;refine .xw rfl ?_;have hfin:At K2 n2 ((i1,y1),l3) [] C:=by
     obtain⟨pv,w,q1,q2,q3⟩:=hC;exact⟨pv,w,q1,hE2 ((i1,y1),l2) ((i1,y1),l3) _ _ rfl q2,q3⟩
    cases b with
    |true=>
     refine .skip ?_;exact⟨rfl,[],hfin⟩
    |false=>
     refine .ret ?_;exact⟨rfl,[],hfin⟩
   ·intro pv w D hKq hnq hDq;have hfin:At K' n1 (i1,la1) [] (ko pv w (qo (some lp) D++[])):=⟨pv,w,rfl,hE (i1,la') (i1,la1) _ _ rfl hKq,hnq⟩;cases b with
    |true=>exact⟨rfl,[],hfin⟩
    |false=>
     refine .ret ?_;exact⟨rfl,[],hfin⟩
  ·intro pv w D hKq hnq hDq;have hD:=hDq rfl;cases r with
   |true=>exact ajp (ys:=[]) (.inl rfl) rfl (.same rfl) hKq hnq hD
   |false=>
    refine .ret ?_;exact ajp (ys:=[]) (.inr rfl) rfl (.same rfl) hKq hnq hD
 |false=>
 rw[hk4]at h;simp only[cond_false]at h;refine .q fun K7 k7=>?_;refine lV 0 (by kernel_rfl) ?_
 conv=>whnf
 refine k7 _ _ _ ?_;refine .xw rfl ?_;cases hk5:(ty.kind==5)with
 |false=>
  rw[hk5]at h;simp only[cond_false,Option.some.injEq]at h;subst h;simp only[qAM,jZ,Option.some.injEq,Prod.mk.injEq]at hst;obtain⟨rfl,rfl⟩:=hst;refine .skip ?_;exact wK (ys:=[]) (.inl rfl) rfl (.same rfl) hC
 |true=>
 rw[hk5]at h;simp only[cond_true]at h;obtain⟨t0,ht0,h⟩:=ob h;obtain⟨x3,hx3,h⟩:=ob h;cases hb:Nat.ble x3.length 100000 with
 |false=>rw[hb]at h;cases h
 |true=>
 rw[hb]at h;simp only[cond_true,Option.some.injEq]at h;subst h;have hlen:x3.length≤100000:=qAa hb;refine rgP 0 (At K n0 i []) hC ?_
 conv=>whnf
 refine wT 9 0 (by kernel_rfl) (by kernel_rfl) ?_
 conv=>whnf
 refine bf (l:=ty.kids) (f:=aC) (cs:=[.int .i64 t0.kind,.str t0.name,.slice (t0.kids.map aC) .shared]) ht0 (bZ t0) rfl ?_
 conv=>whnf
 refine au (I8 t0 sz lo hi cs ns) Vs (.cons (.same _) (.cons (.same _) (.cons (.same _) .nil))) (fun g=>by simp) (fun g=>by simp) ?_
 conv=>whnf
 refine au (ahu x3 122 t0 sz lo hi cs ns _ Rh (ih t0 x3 hx3) hlen) anU (.cons (.same _) .nil) (fun g=>by simp) (fun g=>by simp) ?_
 conv=>whnf
 have e:(fun v=>AV.agg (ah v))=aVal:=funext fun v=>by rw[aS]
 refine aiQ (A:=fun l=>[sV x3,sV [],.yv l]) (l:=l) rfl rfl rfl rfl agd (alx X.cln X.clp (x3.length+1) x3 [] (by omega) (by simpa using hlen)) hK hY (by rw[e];exact hst) (.cons (.share (aH _ _)) (.cons (.share rfl) (.cons (.same rfl) .nil))) ?_
 conv=>whnf
 refine SpR.nil rfl (fun _=>⟨by kernel_rfl,by kernel_rfl⟩) fun C hC=>?_;exact wK (ys:=[]) (.inl rfl) rfl (.same rfl) hC
theorem apt{ix:List Carrier→List Decl→Str→Option Int}{el:Str→Int→Option (List Val)}(X:DX ix el)(cs:List Carrier)(ns:List Decl)(sz:List Int)(lo hi:Int):∀(n:Nat) (ty:Ty) (out:List Val),BQ ix el cs ns sz lo hi n ty=some out→
  uH Tryz.prog 122 (fun l=>.yv l::qw ty sz lo hi cs ns) (out.map aVal) (fun _=>.tup []):=by
 intro n
 induction n with
 |zero=>intro ty out h;cases h
 |succ n ih=>intro ty out h;exact aiH X cs ns sz lo hi n ty out h ih
end
section
open Go Go.Proofs
set_option maxRecDepth 100000
set_option maxHeartbeats 4000000
attribute [local simp] cellsOf
theorem aq5(n:Nat):DX (fun cs ns nm=>lU n (Env.mk cs ns) nm) (jV n) where
 cln:=fun p0 h=>BF n p0 p0 (by
  unfold tX app;rw[if_pos (by simp;omega)];rfl)
 clp:=fun p0=>wX n p0 p0 rfl
 tru:=fun b=>aaV n b (tV b) (by unfold L8;cases b<;>rfl)
 par:=fun a b=>abI n a b (pV a b) rfl
 idx:=fun cs ns nm r h=>Ar n (Env.mk cs ns) nm r h
 els:=fun nm k r h=>Tg n nm k r h
def eT(p0:Env)(p1:S_api_Scope)(p2:Ty)(a8 a9 a19 a28:AV):List AV:=
 .unk:: .unk:: .unk:: .eptr [.slice (p0.carriers.map aj) .shared,.slice (p0.names.map aB) .shared]:: .eptr [.slice (p1.sizes.map encI) .shared,.int .i64 p1.lo,.int .i64 p1.hi]:: .eptr [.int .i64 p2.kind,.str p2.name,.slice (p2.kids.map aC) .shared]:: .unk:: .unk::a8::a9::
 (u8 (.unk::a19::(u8 (a28::(u8 (u2 []))))))
theorem Xr(n:Nat)(p0:Env)(p1:S_api_Scope)(p2:Ty)(r:(List Val)×Int)(h:pX n p0 p1 p2=some r):ak Tryz.prog 34 [.agg [.slice (List.map aj p0.carriers) .shared,.slice (List.map aB p0.names) .shared],.agg [.slice (List.map encI p1.sizes) .shared,.int .i64 p1.lo,.int .i64 p1.hi],.agg [.int .i64 p2.kind,.str p2.name,.slice (List.map aC p2.kids) .shared]] [] (.tup [.slice (List.map ah r.1) .shared,.int .i64 r.2]) []:=by
 unfold pX at h;refine Jr true Tryz.func34 rfl (by rw[Tryz.ntmps34];exact qAa rfl) ?_;intro C hds hk0;rw[Tryz.ntmps34];refine .q fun K1 k1=>?_;refine lV 3 (by kernel_rfl) ?_
 conv=>whnf
 refine k1 _ _ _ ?_;refine .le (m:=0) (t':=eT p0 p1 p2 .unk .unk .unk .unk) (h':=[]) (by(refine wk [] ?_ .nil rfl;unfold eT;repeat(first|exact VWs.nil|refine VWs.u ?_|refine VWs.c rfl ?_|refine VWs.e aH ?_|refine VWs.cons (.J7 rfl rfl (.e aJ (.e aQ .nil))) ?_|refine VWs.cons (.J7 rfl rfl (.e bP (.c rfl (.c rfl .nil)))) ?_|refine VWs.cons (.J7 rfl rfl (.c rfl (.c rfl (.e bK .nil)))) ?_|refine VWs.c (by simp) ?_))) hk0 ?_
 refine .q fun K2 k2=>?_;refine .q fun K3 k3=>?_;obtain⟨s1,hj1,h⟩:=ob h;have hR1:∀t9 h9,Le 0 t9 h9 (eT p0 p1 p2 .unk .unk (.bool s1) .unk) []→K3 t9 h9 C:=by
  intro t9 h9 hw;refine k3 _ _ _ (.le hw hk0 ?_);clear hw;refine .xw rfl ?_;cases s1 with
  |true=>
   refine .q fun K4 k4=>?_;refine lV 0 (by kernel_rfl) ?_
   conv=>whnf
   refine k4 _ _ _ ?_;refine .ret ?_;have e9:=sj h;subst e9;refine⟨.inr rfl,.refl C,aF aL (fun g=>by simp) ?_⟩
   conv=>whnf
   rfl
  |false=>
   replace h:((qZ n p0 p1 p2).bind fun(x1:Int)=>(cond (decide (x1<0)) (some (([]:List Val),42)) ((BQ (fun cs ns nm=>lU n (Env.mk cs ns) nm) (jV n) p0.carriers p0.names p1.sizes p1.lo p1.hi n p2).bind fun(l:List Val)=>bif Nat.ble l.length 100000 then(Zz (dV n) l).bind fun(l':List Val)=>some (l',0)else none)))=some r:=h;refine .skip ?_;refine k2 _ _ _ ?_;obtain⟨x1,hx1,h⟩:=ob h;refine .q fun K4 k4=>?_;refine .q fun K5 k5=>?_;refine lV 0 (by kernel_rfl) ?_
   conv=>whnf
   refine au (Nq _ _ _ _ _ hx1) Qk (.cons (.same _) (.cons (.same _) (.cons (.same _) .nil))) (fun g=>by simp) (fun g=>rfl) ?_
   conv=>whnf
   refine k5 _ _ _ ?_;refine .xw rfl ?_;cases hc:decide (x1<0)with
   |true=>
    rw[hc]at h;refine .q fun K6 k6=>?_;refine lV 0 (by kernel_rfl) ?_
    conv=>whnf
    refine k6 _ _ _ ?_;refine .ret ?_;have e9:=sj h;subst e9;refine⟨.inr rfl,.refl C,aF aL (fun g=>by simp) ?_⟩
    conv=>whnf
    rfl
   |false=>
    rw[hc]at h;simp only[cond_false]at h;obtain⟨l,hl,h⟩:=ob h;cases hb:Nat.ble l.length 100000 with
    |false=>rw[hb]at h;cases h
    |true=>
    rw[hb]at h;simp only[cond_true]at h;obtain⟨l',hl',h⟩:=ob h;have e9:=sj h;subst e9;have hlen:l.length≤100000:=qAa hb;refine .skip ?_;refine k4 _ _ _ ?_;refine .q fun K6 k6=>?_;refine lV 1 (by kernel_rfl) ?_
    conv=>whnf
    refine k6 _ _ _ ?_;refine .q fun K7 k7=>?_;refine .q fun K8 k8=>?_;refine lV 0 (by kernel_rfl) ?_
    conv=>whnf
    refine au (I8 p2 p1.sizes p1.lo p1.hi p0.carriers p0.names) Vs (.cons (.same _) (.cons (.same _) (.cons (.same _) .nil))) (fun g=>by simp) (fun g=>by simp) ?_
    conv=>whnf
    refine k8 _ _ _ ?_;refine .block ?_;refine .le (m:=0) (t':=eT p0 p1 p2 (.ptr 0 0) .unk .unk (.func 122 (qw p2 p1.sizes p1.lo p1.hi p0.carriers p0.names))) (h':=asH []) (by
     refine wk [some 0,none] ?_ (.old (OW.TH (.cons (.nilP 1 4) .nil)) (.new rfl .nil)) rfl;unfold eT
     repeat(first|exact VWs.nil|refine VWs.u ?_|refine VWs.c rfl ?_|refine VWs.c (by simp) ?_)) hk0 ?_
    refine .rfB (σ:=List Val×List Val) (m:=1) (fun s=>asH s.1) (Om aVal fun s v=>bif Nat.blt s.length 100000 then(dV n v).map fun v'=>((none:Option Code),s++[v'])else none) (fun x=>eT p0 p1 p2 (.ptr 0 0) (.eptr (cellsOf x)) .unk (.func 122 (qw p2 p1.sizes p1.lo p1.hi p0.carriers p0.names))) (fun s x=>asH s.1) rfl rfl Rh (aaA p2 p1.sizes p1.lo p1.hi p0.carriers p0.names) (apt (aq5 n) p0.carriers p0.names p1.sizes p1.lo p1.hi n p2 l hl) (s0:=([],l)) (s1:=(l',[])) (jm:=none) ?_ ?_ ?_ ?_ (qAj hk0 (qAV 1)) hds ?_
    ·have hfold:∀(l d l':List Val),Zz (dV n) l=some l'→d.length+l.length≤100000→zF (fun(s:List Val) v=>bif Nat.blt s.length 100000 then(dV n v).map fun v'=>((none:Option Code),s++[v'])else none) l d=some (none,(d++l',[])):=by
      intro l
      induction l with
      |nil=>intro d l' h _;simp only[Zz,Option.some.injEq]at h;subst h;simp[zF]
      |cons v l ih=>
       intro d l' h hd;simp only[Zz]at h;obtain⟨v',hv',h⟩:=ob h;obtain⟨l1,hl1,h⟩:=ob h;have e:=sj h;subst e;simp only[qAv]at hd;have hb:Nat.blt d.length 100000=true:=by simp;omega
       simp only[zF,hb,cond_true,hv',qAt];rw[ih (d++[v']) l1 hl1 (by simp;omega)];simp
     rw[MU,hfold l [] l' hl' (by simpa using hlen)];rfl
    ·intro j f hf;have h0:=hf 0 (by omega);have hall:(eT p0 p1 p2 (.ptr 0 0) .unk .unk (.func 122 (qw p2 p1.sizes p1.lo p1.hi p0.carriers p0.names))).map (ren f)=eT p0 p1 p2 (.ptr 0 0) .unk .unk (.func 122 (qw p2 p1.sizes p1.lo p1.hi p0.carriers p0.names)):=by simp[eT,h0]
     by_cases hj:j<(eT p0 p1 p2 (.ptr 0 0) .unk .unk (.func 122 (qw p2 p1.sizes p1.lo p1.hi p0.carriers p0.names))).length
     ·rw[List.getD,qAe hj,qAi];have e:=List.getElem_of_eq hall (i:=j) (by simpa using hj);rw[qCh]at e;exact e
     ·rw[List.getD,qAn (by omega)];rfl
    ·intro lp s x jm s' C hst hk;obtain⟨v,rfl,h2,h3⟩:=wL hst;refine lV 1 (by kernel_rfl) ?_
     conv=>whnf
     exact⟨rfl,rfl,by
      refine wk [some 0,some 1] ?_ (.old (OW.TH (.c rfl .nil)) (.old (.arr' aH (gK _)) .nil)) rfl;unfold eT
      repeat(first|exact VWs.nil|refine VWs.u ?_|refine VWs.c rfl ?_|refine VWs.cons (.J7 rfl rfl (.c rfl (.c rfl (.c rfl (.e aH .nil))))) ?_|refine VWs.c (by simp) ?_)⟩
    ·intro lp s x jm s' C hk hst;obtain⟨v,rfl,h2,h3⟩:=wL hst;have hlt:Nat.blt s.1.length 100000=true:=by
      cases hb:Nat.blt s.1.length 100000 with
      |true=>rfl
      |false=>rw[hb]at h3;cases h3
     rw[hlt]at h3;simp only[cond_true]at h3;obtain⟨v',hv',rfl,h4⟩:∃v',dV n v=some v'∧jm=none∧s.1++[v']=s'.1:=by
      cases hv:dV n v with
      |none=>rw[hv]at h3;cases h3
      |some v'=>
       rw[hv]at h3;simp only[qAt,Option.some.injEq,Prod.mk.injEq]at h3;exact⟨v',rfl,h3.1.symm,h3.2⟩
     have hlt2:s.1.length<100000:=by simpa using hlt
     refine .block ?_;refine lV 2 (by kernel_rfl) ?_
     conv=>whnf
     refine au (KA _ _ _ hv') acB (.cons (.same _) .nil) (fun g=>by simp) (fun g=>by simp) ?_
     conv=>whnf
     refine⟨List.map ah ([Val.mk 0 0 [] []]),rfl,?_⟩
     conv=>whnf
     refine Kt (l:=s.1) (l':=s.1) (ys:=([Val.mk 0 0 [] []])) (r:=s.1++[Val.mk 0 0 [] []]) (b:=56) (f:=ah) (by
      unfold app;rw[if_pos (by simp;omega)]) (gK _) kH ?_
     conv=>whnf
     refine ixp (l:=s.1++[Val.mk 0 0 [] []]) (l0:=s.1++[Val.mk 0 0 [] []]) (x:=Val.mk 0 0 [] []) (by simp[Abs.idx]) rfl ?_
     conv=>whnf
     refine stp (l:=s.1++[Val.mk 0 0 [] []]) (f:=ah) (x:=Val.mk 0 0 [] []) (v:=v') (by simp[Abs.idx]) ((aS _).symm) (by decide) ?_
     conv=>whnf
     refine⟨by kernel_rfl,?_⟩
     conv=>whnf
     refine⟨rfl,rfl,eT p0 p1 p2 (.ptr 0 0) .unk .unk (.func 122 (qw p2 p1.sizes p1.lo p1.hi p0.carriers p0.names)),?_⟩;rw[←h4];have hu:upd (s.1++[Val.mk 0 0 [] []]) (s.1.length:Int) v'=s.1++[v']:=by simp[upd]
     rw[hu];refine wk [some 0,some 3] ?_ (.old (OW.TH (.cons (.same (ahP (by simp) rfl)) .nil)) (.old (.arr' aH (gK _)) .nil)) rfl;unfold eT
     repeat(first|exact VWs.nil|refine VWs.u ?_|refine VWs.c rfl ?_|refine VWs.c (by simp) ?_)
    ·intro C2 hk2 hroot;have hk20:C2.k0.length≤0:=by rw[hk2];exact hk0
     refine k7 _ _ _ ?_;refine .q fun K9 k9=>?_;refine lV 0 (by kernel_rfl) ?_
     conv=>whnf
     refine dP [1] [] [.psl 0 4 (List.length l')] [.psl 1 4 (List.length l')] (wX n l' l' rfl) aiM rfl (.cons (congrArg (AObj.arr _) (aH _ _)) .nil) (by simp;try decide) (.cons (.same _) .nil) (rn:=.psl 1 4 (List.length l')) (by simp;try decide) (Hn:=[.arr 4 (List.map ah l')]) ((fC (congrArg (AObj.arr _) (aH _ _)) rfl)) ?_
     conv=>whnf
     refine k9 _ _ _ ?_;refine .ret ?_;refine⟨.inr rfl,hroot,jf (u4 (u2 (sV l':: .int .i64 0::(u16 (u8 (u4 (u2 (.unk::[])))))))) [] (wk [] (.u4 (.u2 (.cons (.LZ aH (gK _) rfl rfl) (.c rfl (.u16 (.u8 (.u4 (.u2 (.u .nil))))))))) .nil rfl) (dI aL [] rfl .nil ?_)⟩
     conv=>whnf
     first|rfl|(simp;done)|(simp;and_intros<;>rfl)
 refine lV 0 (by kernel_rfl) ?_
 conv=>whnf
 obtain⟨x2,hx2,hj1⟩:=ob hj1;refine au (Fh _ _ _ _ hx2) ajh (.cons (.same _) (.cons (.same _) .nil)) (fun g=>by simp) (fun g=>rfl) ?_
 conv=>whnf
 refine aD hj1 (fun hc2 hj1=>?_) (fun hc2 hj1=>?_)
 ·conv=>whnf
  cases hj1;exact hR1 _ _ (by(refine wk [] ?_ .nil rfl;unfold eT;repeat(first|exact VWs.nil|refine VWs.u ?_|refine VWs.c rfl ?_|refine VWs.e aH ?_|refine VWs.cons (.J7 rfl rfl (.e aJ (.e aQ .nil))) ?_|refine VWs.cons (.J7 rfl rfl (.e bP (.c rfl (.c rfl .nil)))) ?_|refine VWs.cons (.J7 rfl rfl (.c rfl (.c rfl (.e bK .nil)))) ?_|refine VWs.c (by simp) ?_)))
 ·conv=>whnf
  obtain⟨x3,hx3,hj1⟩:=ob hj1;refine au (F6 _ _ _ _ hx3) ad8 (.cons (.same _) (.cons (.same _) .nil)) (fun g=>by simp) (fun g=>rfl) ?_
  conv=>whnf
  cases hj1;exact hR1 _ _ (by(refine wk [] ?_ .nil rfl;unfold eT;repeat(first|exact VWs.nil|refine VWs.u ?_|refine VWs.c rfl ?_|refine VWs.e aH ?_|refine VWs.cons (.J7 rfl rfl (.e aJ (.e aQ .nil))) ?_|refine VWs.cons (.J7 rfl rfl (.e bP (.c rfl (.c rfl .nil)))) ?_|refine VWs.cons (.J7 rfl rfl (.c rfl (.c rfl (.e bK .nil)))) ?_|refine VWs.c (by simp) ?_)))
end
end Abs
end Go.Proofs.YtkopaeklihhdlaaGreat
