/-
  Maps with string keys, as 'heapOp' says, and all operations on private memory together ('heap_sound'). Conditions: none; lemmas over any program and world.
-/
import Derived.Deep.LoopGhost
import Derived.Test.YthgdaonechbgmaaGreatCAbs12ox6681f7
set_option linter.all false
namespace Go.Proofs.YthgdaonechbgmaaGreat
namespace Abs
section
open Go
theorem Rel.uN{w:World}{κ:aS}{pv:bU}{x:AV}{v:Value}(h:Rel w κ pv x v):Rel w κ pv (uN x) v:=by
 unfold Abs.uN;split
 ·rename_i cs;obtain⟨vs,e,h1,h2⟩:=h.avH;rw[e];refine .agg (by simpa using h1) fun j hj=>?_;rw[qAi]at hj;rw[ac5];exact(h2 j hj).shr
 ·exact h.shr
theorem abq(s t:List UInt8):((⟨s.toArray⟩:ByteArray)==⟨t.toArray⟩)=(s==t):=by
 show((ByteArray.mk s.toArray).data==(ByteArray.mk t.toArray).data)=(s==t);simp
section
variable {P:Program}{w:World}{κ:aS}{pv:bU}
theorem findNow_spec(s:List UInt8):∀(l:List MapEntry) (es:List (List UInt8×AV)) (i:Nat),l.length=es.length→
  (∀j,j<es.length→(l.getD j default).key=.string ⟨((es.getD j ([],.unk)).1).toArray⟩∧Rel w κ pv (es.getD j ([],.unk)).2 (l.getD j default).val)→
  (match tN es s with
   |some v=>∃n x,Instr.findNow .string (.string ⟨s.toArray⟩) l i=some (some (i+n,x))∧Rel w κ pv v x∧n<l.length∧(l.getD n default).key=.string ⟨s.toArray⟩∧(∀y,I9 es s y=es.set n (s,y))
   |none=>Instr.findNow .string (.string ⟨s.toArray⟩) l i=some none∧∀y,I9 es s y=es++[(s,y)]):=by
 intro l
 induction l with
 |nil=>
  intro es i hl _;cases es with
  |nil=>exact⟨rfl,fun y=>rfl⟩
  |cons=>simp at hl
 |cons m l ih=>
  intro es i hl h;cases es with
  |nil=>simp at hl
  |cons p es=>
   obtain⟨k,v⟩:=p;have h0:=h 0 (by simp);simp only[List.getD,qAG,qAw]at h0;obtain⟨h01,h02⟩:=h0;by_cases hk:k=s
   ·subst hk;have e:tN ((k,v)::es) k=some v:=by simp[tN]
    rw[e];refine⟨0,m.val,?_,h02,by simp,by simpa using h01,fun y=>by simp[I9]⟩;have hb:((⟨k.toArray⟩:ByteArray)==⟨k.toArray⟩)=true:=by rw[abq];simp
    simp only[Instr.findNow,h01,Instr.sameNow,hb,qAS]
   ·have e:tN ((k,v)::es) s=tN es s:=by simp[tN,qCd,hk]
    have hb:((⟨s.toArray⟩:ByteArray)==⟨k.toArray⟩)=false:=by rw[abq];simpa using fun e=>hk e.symm
    have ef:Instr.findNow .string (.string ⟨s.toArray⟩) (m::l) i=Instr.findNow .string (.string ⟨s.toArray⟩) l (i+1):=by
     simp only[Instr.findNow,h01,Instr.sameNow,hb]
    have:=ih es (i+1) (by simpa using hl) (fun j hj=>by have:=h (j+1) (by simpa using hj);simpa[List.getD]using this);rw[e,ef];cases hf:tN es s with
    |none=>
     rw[hf]at this;refine⟨this.1,fun y=>?_⟩;simp[I9,hk,this.2 y]
    |some v'=>
     rw[hf]at this;obtain⟨n,x,g1,g2,g3,g4,g5⟩:=this;refine⟨n+1,x,by rw[g1];simp;omega,g2,by simpa using g3,by simpa[List.getD]using g4,fun y=>?_⟩;simp[I9,hk,g5 y]
theorem abe{t e:Nat}(h:uK P t=some e):∃k,P.underlying t=some (.map k e)∧P.underlying k=some .string:=by
 unfold uK at h
 grind
theorem run_checkKey{k:Nat}{b:Bool}{s:ByteArray}(hk:P.underlying k=some .string):(Instr.checkKey b 10000 k (.string s)).run P w=.ok () w:=by
 have h:∀n,(Instr.checkKey b (n+1) k (.string s)).run P w=.ok () w:=fun n=>by simp[Instr.checkKey,run_underlying hk]
 exact h 9999
theorem awN(v:Value):Rel w κ pv (apI v) v:=by
 unfold apI;split
 ·rename_i cs;have e:cs=cs.toList.toArray:=by simp
  refine .agg (by simp) fun j hj=>?_;have:(List.map ofConst cs.toList.toArray.toList).getD j .unk=ofConst (cs.toList.getD j undef):=by
   grind
  rw[this];exact xB _
 ·exact xB _
theorem aup{t:Nat}{z:AV}(h:NP P t=some z):∃zv:Value,(∀w:World,(zeroValue t).run P w=.ok zv w)∧∀(w:World) (κ:aS) (pv:bU),Rel w κ pv z zv:=by
 unfold NP at h;cases hi:P.info? t with
 |none=>rw[hi]at h;cases h
 |some i=>
  rw[hi]at h;simp only[qAb]at h;cases hz:i.zero with
  |none=>rw[hz]at h;cases h
  |some zv=>
   rw[hz]at h;simp at h;subst h;exact⟨zv,fun w=>by simp[zeroValue,typeInfo,hi,hz],fun w κ pv=>awN zv⟩
end
theorem Sim.map{C:Ctx}{κ:aS}{s:ASt}{a:Act}{w:World}(h:Sim C κ s a w){l b:Nat}{es:List (List UInt8×AV)}(hl:at? κ l=some b)(ho:obj? s.heap l=.mp es):
  ∃ms clock,w.heap[b]? =some (Obj.map ms clock)∧ms.size=es.length∧aw3 ms clock (es.map (·.1))∧
   ∀j,j<es.length→(ms.toList.getD j default).key=.string ⟨((es.getD j ([],.unk)).1).toArray⟩∧Rel w κ (aH C.ak κ s.heap) (es.getD j ([],.unk)).2 (ms.toList.getD j default).val:=by
 have hr:=h.obj l b hl (by rw[ho];trivial);rw[ho]at hr;obtain⟨ms,cl,h1,h2,h3,h4⟩:=hr;refine⟨ms,cl,h1,h2,h3,fun j hj=>?_⟩
 simp_all
theorem ax5{P:Program}{C:Ctx}{κ:aS}{s:ASt}{a:Act}{w:World}(h:Sim C κ s a w){t e l b:Nat}{es:List (List UInt8×AV)}{k:List UInt8}{z:AV}{ok:Bool}(ht:uK P t=some e)(hl:at? κ l=some b)(ho:obj? s.heap l=.mp es)
  (hz:NP P e=some z):∃u,(Instr.lookup t (.map (some b)) (.string ⟨k.toArray⟩) ok).run P w=.ok u w∧Rel w κ (aH C.ak κ s.heap) (ED (tN es k) ok z) u:=by
 obtain⟨ms,cl,h1,h2,h3,h4⟩:=h.map hl ho;obtain⟨kt,hu,hk⟩:=abe ht;obtain⟨zv,z1,z2⟩:=aup hz;have hg:(getObj b).run P w=.ok (.map ms cl) w:=by simp[getObj,Sem.run,h1]
 have hf:=findNow_spec (w:=w) (κ:=κ) (pv:=aH C.ak κ s.heap) k ms.toList es 0 (by simpa using h2) h4;have htup:∀v x b',Rel w κ (aH C.ak κ s.heap) v x→Rel w κ (aH C.ak κ s.heap) (.tup [v,.bool b']) (.tuple #[x,.bool b']):=fun v x b' hv=>by
  have:=Rel.tup (w:=w) (κ:=κ) (pv:=aH C.ak κ s.heap) (cs:=[v,.bool b']) (vs:=[x,.bool b']) rfl (fun j hj=>by
   match j,hj with
   |0,_=>simpa[List.getD]using hv
   |1,_=>simpa[List.getD]using Rel.bool b')
  grind
 cases hfa:tN es k with
 |none=>
  rw[hfa]at hf;cases ok
  ·exact⟨zv,by simp[Instr.lookup,run_underlying hu,hg,run_checkKey hk,Instr.findKey,run_underlying hk,hf.1,z1],z2 _ _ _⟩
  ·exact⟨.tuple #[zv,.bool false],by simp[Instr.lookup,run_underlying hu,hg,run_checkKey hk,Instr.findKey,run_underlying hk,hf.1,z1],htup _ _ _ (z2 _ _ _)⟩
 |some v=>
  rw[hfa]at hf;obtain⟨n,x,g1,g2,_⟩:=hf;cases ok
  ·exact⟨x,by simp[Instr.lookup,run_underlying hu,hg,run_checkKey hk,Instr.findKey,run_underlying hk,g1],g2⟩
  ·exact⟨.tuple #[x,.bool true],by simp[Instr.lookup,run_underlying hu,hg,run_checkKey hk,Instr.findKey,run_underlying hk,g1],htup _ _ _ g2⟩
theorem Sim.azC{C:Ctx}{κ:aS}{s:ASt}{a:Act}{w:World}(h:Sim C κ s a w){l b:Nat}{es es':List (List UInt8×AV)}{ms ms':Array MapEntry}{cl cl':Nat}(hl:at? κ l=some b)(ho:obj? s.heap l=.mp es)(hm:w.heap[b]? =some (Obj.map ms cl))
  (h2:ms'.size=es'.length) (h3:aw3 ms' cl' (es'.map (·.1)))
  (h4:∀j,j<es'.length→(ms'.getD j default).key=.string ⟨((es'.getD j ([],.unk)).1).toArray⟩∧Rel w κ (aH C.ak κ s.heap) (es'.getD j ([],.unk)).2 (ms'.getD j default).val):
  Sim C κ (s.setObj l (.mp es')) a {w with heap:=w.heap.setIfInBounds b (.map ms' cl')}:=by
 have hll:l<s.heap.length:=by rw[←h.klen];exact lt_of_at? hl
 have hbs:=h.bound l b hl;have hne:∀x:Nat,x≠b→(w.heap.setIfInBounds b (Obj.map ms' cl'))[x]? =w.heap[x]?:=fun x hx=>qCK (qBo hx);have hevo:Evo (aH C.ak κ s.heap) w {w with heap:=w.heap.setIfInBounds b (.map ms' cl')}:=by
  refine⟨by simp,fun x o y _ hc=>?_,fun x c e z hx=>?_⟩
  ·have hxb:x≠b:=fun e=>by subst e;simp[World.cell?,hm]at hc
   simp only[World.cell?]at hc⊢
   grind
  grind
 have hp:∀x o,aH C.ak κ (s.heap.set l (.mp es')) x o→x<w.heap.size→aH C.ak κ s.heap x o:=by
  rintro x o (hx|⟨l',h1',h2'⟩) _
  ·exact .inl hx
  ·by_cases e:l=l'
   ·subst e;exact .inr ⟨l,h1',by rw[ho];trivial⟩
   ·rw[obj?_set_other e]at h2';exact .inr ⟨l',h1',h2'⟩
 refine h.step (H':=s.heap.set l (.mp es')) hevo (dL.refl _) (by simp[h.klen]) hp ?_ ?_ ?_ ?_ ?_ rfl rfl rfl
 ·intro l' b' h1' h2';by_cases e:l=l'
  ·subst e;rw[hl]at h1';cases h1';refine .inr ⟨by simpa using hbs,h.own l b hl (by rw[ho];trivial),?_⟩;rw[obj?_set_same hll];exact⟨ms',cl',by simp[hbs],h2,h3,fun j hj=>⟨(h4 j hj).1,(h4 j hj).2.mono hevo (dL.refl _) hp⟩⟩
  ·rw[obj?_set_other e]at h2'⊢;refine .inl ⟨h1',rfl,hne b' fun eb=>?_⟩;subst eb;exact e (h.apart l l' b' hl h1' (by rw[ho];trivial) h2')
 ·intro l1 l2 b' h1' h2' h3' h4';refine h.apart l1 l2 b' h1' h2' ?_ ?_
  ·by_cases e:l=l1
   ·subst e;rw[ho];trivial
   ·rwa[obj?_set_other e]at h3'
  ·by_cases e:l=l2
   ·subst e;rw[ho];trivial
   ·rwa[obj?_set_other e]at h4'
 ·intro l' b' hb';simpa using h.bound l' b' hb'
 ·intro l' hl';by_cases e:l=l'
  ·subst e;rw[obj?_set_same hll]at hl';cases hl'
  ·rw[obj?_set_other e]at hl';exact h.resv l' hl'
 ·intro b' hb';refine hne b' fun eb=>?_;subst eb;exact h.own l b' hl (by rw[ho];trivial) hb'
theorem ao6{P:Program}{C:Ctx}{κ:aS}{s:ASt}{a:Act}{w:World}(h:Sim C κ s a w){t e l b:Nat}{es:List (List UInt8×AV)}{k:List UInt8}{v:AV}{u:Value}(ht:uK P t=some e)(hl:at? κ l=some b)(ho:obj? s.heap l=.mp es)
  (hv:Rel w κ (aH C.ak κ s.heap) v u) (hlim:es.length<140737488355328) (hkl:k.length≤9223372036854775807):∃w',(Instr.mapUpdate t (.map (some b)) (.string ⟨k.toArray⟩) u).run P w=.ok () w'∧Sim C κ (s.setObj l (.mp (I9 es k v))) a w':=by
 obtain⟨ms,cl,h1,h2,h3,h4⟩:=h.map hl ho;obtain⟨kt,hu,hk⟩:=abe ht;have hg:(getObj b).run P w=.ok (.map ms cl) w:=by simp[getObj,Sem.run,h1]
 have hset:∀o,(setObj b o).run P w=.ok () {w with heap:=w.heap.setIfInBounds b o}:=fun o=>by simp[setObj,Sem.run,h1]
 have hf:=findNow_spec (w:=w) (κ:=κ) (pv:=aH C.ak κ s.heap) k ms.toList es 0 (by simpa using h2) h4;cases hfa:tN es k with
 |none=>
  rw[hfa]at hf;refine⟨{w with heap:=w.heap.setIfInBounds b (.map (ms.push {key:=.string ⟨k.toArray⟩,val:=u,born:=cl}) (cl+1))},?_,?_⟩
  ·simp[Instr.mapUpdate,run_underlying hu,hg,run_checkKey hk,Instr.findKey,run_underlying hk,hf.1,hset]
  ·rw[hf.2 v];have hnk:∀p∈es,p.1≠k:=fun p hp e=>by
    have:=qCW.1 (Option.map_eq_none_iff.1 hfa) p hp;simp[e]at this
   refine h.azC hl ho h1 (by simp[h2]) ⟨by simp;omega,MapKept.stamped_push h3.2.1 fun x hx e=>?_,fun y hy=>?_⟩ fun j hj=>?_
   ·obtain⟨j,hj⟩:=qAR hx;have hjl:j<es.length:=by have:=(qAH.1 hj).1;simp at this;omega
    have h5:=(h4 j hjl).1;rw[List.getD,hj,qAw,e]at h5;have h6:es.getD j ([],.unk)∈es:=by rw[List.getD,qAc hjl];exact qAO _
    refine hnk _ h6 ?_;have h7:=congrArg (fun v=>match v with|Value.string s=>s.data.toList|_=>[]) h5
    simpa using h7.symm
   ·simp only[qBj,qAy,qCM,qAr,qAK]at hy;rcases hy with hy|rfl
    ·exact h3.2.2 y hy
    ·exact hkl
   simp only[qAe,qAI]at hj;by_cases hlt:j<es.length
   ·have e1:(es++[(k,v)]).getD j ([],.unk)=es.getD j ([],.unk):=by simp[List.getD,qAg hlt]
    have e2:(ms.push {key:=.string ⟨k.toArray⟩,val:=u,born:=cl}).getD j default=ms.toList.getD j default:=by
     simp[qAq,List.getD,Array.getElem?_push,show j≠ms.size by omega]
    rw[e1,e2];exact h4 j hlt
   ·obtain rfl:j=es.length:=by omega
    have e1:(es++[(k,v)]).getD es.length ([],.unk)=(k,v):=by simp[List.getD]
    have e2:(ms.push {key:=.string ⟨k.toArray⟩,val:=u,born:=cl}).getD es.length default={key:=.string ⟨k.toArray⟩,val:=u,born:=cl}:=by
     simp[qAq,←h2]
    rw[e1,e2];exact⟨rfl,hv⟩
 |some v0=>
  rw[hfa]at hf;obtain⟨n,x,g1,_,g3,g4,g5⟩:=hf;simp only[qBZ]at g3;simp only[qAL]at g1;have hkey:((ms[n]?).map (·.key)).getD (.string ⟨k.toArray⟩)=.string ⟨k.toArray⟩:=by
   rw[qBt g3];simp only[List.getD,qCE,qBt g3,qAw]at g4;simpa using g4
  have hstay:(Instr.keyThatStays (.string ⟨k.toArray⟩) (.string ⟨k.toArray⟩)).run P w=.ok (.string ⟨k.toArray⟩) w:=by
   have hb:((⟨k.toArray⟩:ByteArray)==⟨k.toArray⟩)=true:=by rw[abq];simp
   simp[Instr.keyThatStays,Instr.sameBits,hb]
  refine⟨{w with heap:=w.heap.setIfInBounds b (.map (ms.modify n fun e=>{e with key:=.string ⟨k.toArray⟩,val:=u}) cl)},?_,?_⟩
  ·simp[Instr.mapUpdate,run_underlying hu,hg,run_checkKey hk,Instr.findKey,run_underlying hk,g1,hkey,hstay,hset]
  ·rw[g5 v];refine h.azC hl ho h1 (by simp[h2]) ⟨by simp;omega,MapKept.stamped_modify h3.2.1 n _ (fun _ _=>rfl) (fun x _ hx=>?_),fun y hy=>?_⟩ fun j hj=>?_
   ·rw[qBt g3,Option.some.injEq]at hx;simp only[List.getD,qCE,qBt g3,qAw,hx]at g4;exact g4.symm
   ·rw[qCN]at hy;rcases List.mem_or_eq_of_mem_set hy with hy|rfl
    ·exact h3.2.2 y hy
    ·exact hkl
   simp only[qAT]at hj;by_cases hjn:n=j
   ·subst hjn;have e1:(es.set n (k,v)).getD n ([],.unk)=(k,v):=lW hj;have e2:(ms.modify n fun e=>{e with key:=.string ⟨k.toArray⟩,val:=u}).getD n default={(ms[n])with key:=.string ⟨k.toArray⟩,val:=u}:=by
     rw[qAq,qBI,if_pos rfl,qBt g3];rfl
    rw[e1,e2];exact⟨rfl,hv⟩
   ·have e1:(es.set n (k,v)).getD j ([],.unk)=es.getD j ([],.unk):=qy hjn;have e2:(ms.modify n fun e=>{e with key:=.string ⟨k.toArray⟩,val:=u}).getD j default=ms.toList.getD j default:=by
     simp[qAq,qBI,hjn,List.getD]
    rw[e1,e2];exact h4 j hj
end
section
open Go
theorem aEo{z i i' j j':Nat}(h:i≠i')(hj:j<z)(hj':j'<z):i*z+j≠i'*z+j':=by
 rcases qEi h with hl|hl
 ·have:=qAQ z (show i+1≤i' by omega)
  grind
 ·have:=qAQ z (show i'+1≤i by omega)
  grind
theorem avV{z i j n:Nat}(hi:i<n)(hj:j<z):i*z+j<n*z:=by
 have:=qAQ z (show i+1≤n by omega)
 grind
theorem Sim.arr{C:Ctx}{κ:aS}{s:ASt}{a:Act}{w:World}(h:Sim C κ s a w){l b z:Nat}{es:List (List AV)}(hl:at? κ l=some b)(ho:obj? s.heap l=.arr z es):
  ∃c e,w.heap[b]? =some (Obj.cells c e (0,0))∧es.length*z≤c.size∧(∀i,i<es.length→(es.getD i []).length=z)∧(∀i j,i<es.length→j<z→w.cell? ⟨b,i*z+j,none⟩=some (c.getD (i*z+j) undef))∧
   ∀i j,i<es.length→j<z→Rel w κ (aH C.ak κ s.heap) ((es.getD i []).getD j .unk) (c.getD (i*z+j) undef):=by
 have hr:=h.obj l b hl (by rw[ho];trivial);rw[ho]at hr;obtain⟨c,e,h1,h2,h3,h4⟩:=hr;refine⟨c,e,h1,h2,h3,fun i j hi hj=>?_,h4⟩;have:=avV hi hj;simp[World.cell?,h1,show i*z+j<c.size by omega]
theorem Sim.aAt{C:Ctx}{κ:aS}{s:ASt}{a:Act}{w:World}(h:Sim C κ s a w){l b z i j:Nat}{es:List (List AV)}{v:AV}{u:Value}(hl:at? κ l=some b)(ho:obj? s.heap l=.arr z es)
  (hi:i<es.length) (hj:j<z) (hv:Rel w κ (aH C.ak κ s.heap) v u):Sim C κ (s.setObj l (.arr z (es.set i ((es.getD i []).set j v)))) a (w.setCell ⟨b,i*z+j,none⟩ u):=by
 obtain⟨c,e,h1,h2,h3,_,h4⟩:=h.arr hl ho;have hll:l<s.heap.length:=by rw[←h.klen];exact lt_of_at? hl
 have hlt:=avV hi hj;have hpv:aH C.ak κ s.heap b (i*z+j):=.inr ⟨l,hl,by rw[ho];trivial⟩;have hevo:Evo (aH C.ak κ s.heap) w (w.setCell ⟨b,i*z+j,none⟩ u):=Evo.setCell hpv;have hp:∀x o,aH C.ak κ (s.heap.set l (.arr z (es.set i ((es.getD i []).set j v)))) x o→x<w.heap.size→aH C.ak κ s.heap x o:=by
  rintro x o (hx|⟨l',h1',h2'⟩) _
  ·exact .inl hx
  ·by_cases e:l=l'
   ·subst e;exact .inr ⟨l,h1',by rw[ho];trivial⟩
   ·rw[obj?_set_other e]at h2';exact .inr ⟨l',h1',h2'⟩
 refine h.step (H':=s.heap.set l (.arr z (es.set i ((es.getD i []).set j v)))) hevo (dL.refl _) (by simp[h.klen]) hp ?_ ?_ ?_ ?_ ?_ rfl rfl rfl
 ·intro l' b' h1' h2';by_cases e:l=l'
  ·subst e;rw[hl]at h1';cases h1';refine .inr ⟨by simpa using h.bound l b hl,h.own l b hl (by rw[ho];trivial),?_⟩;rw[obj?_set_same hll];refine⟨_,_,BZ h1,by simpa using h2,fun i' hi'=>?_,fun i' j' hi' hj'=>?_⟩
   ·grind
   ·simp only[qAT]at hi';by_cases ei:i=i'
    ·subst ei;rw[lW hi];by_cases ej:j=j'
     ·subst ej;rw[lW (by rw[h3 i hi];exact hj),sW (by omega)];exact hv.mono hevo (dL.refl _) hp
     ·rw[qy ej,nQ (by omega)];exact(h4 i j' hi hj').mono hevo (dL.refl _) hp
    ·rw[qy ei,nQ (aEo ei hj hj')];exact(h4 i' j' hi' hj').mono hevo (dL.refl _) hp
  ·rw[obj?_set_other e]at h2'⊢;refine .inl ⟨h1',rfl,sH fun eb=>?_⟩;subst eb;exact e (h.apart l l' b' hl h1' (by rw[ho];trivial) h2')
 ·intro l1 l2 b' h1' h2' h3' h4';refine h.apart l1 l2 b' h1' h2' ?_ ?_
  ·by_cases e:l=l1
   ·subst e;rw[ho];trivial
   ·rwa[obj?_set_other e]at h3'
  ·by_cases e:l=l2
   ·subst e;rw[ho];trivial
   ·rwa[obj?_set_other e]at h4'
 ·intro l' b' hb';simpa using h.bound l' b' hb'
 ·intro l' hl';by_cases e:l=l'
  ·subst e;rw[obj?_set_same hll]at hl';cases hl'
  ·rw[obj?_set_other e]at hl';exact h.resv l' hl'
 ·intro b' hb';refine sH fun eb=>?_;subst eb;exact h.own l b' hl (by rw[ho];trivial) hb'
theorem afC{s:ASt}{l:Nat}{o:AObj}(hll:l<s.heap.length)(ho:obj? s.heap l=o):s.setObj l o=s:=by
 obtain⟨tm,H⟩:=s;simp only[ASt.setObj,ASt.mk.injEq,true_and];apply qBU;intro n;by_cases en:l=n
 ·subst en;simp only[obj?]at ho
  grind
 grind
theorem aru{α:Type}{l:List α}{i:Nat}{d:α}(h:i<l.length):l.set i (l.getD i d)=l:=by simp_all
theorem Sim.aFe{P:Program}{C:Ctx}{κ:aS}{a:Act}{l b z i:Nat}(hl:at? κ l=some b):∀(vs:List AV) (us:List Value) (j:Nat) (s:ASt) (w:World) (es:List (List AV)),Sim C κ s a w→obj? s.heap l=.arr z es→
  i<es.length→j+vs.length=z→us.length=vs.length→(∀k,k<vs.length→Rel w κ (aH C.ak κ s.heap) (vs.getD k .unk) (us.getD k undef))→vs.all isScalar=true→
  ∃w',(storeCells ⟨b,i*z,none⟩ us j).run P w=.ok () w'∧Sim C κ (s.setObj l (.arr z (es.set i ((es.getD i []).take j++vs)))) a w':=by
 intro vs
 induction vs with
 |nil=>
  intro us j s w es hs ho hi hjz hul _ _;cases us with
  |nil=>
   refine⟨w,by simp[storeCells],?_⟩;have hll:l<s.heap.length:=by rw[←hs.klen];exact lt_of_at? hl
   obtain⟨c,e,_,_,h3,_,_⟩:=hs.arr hl ho;have e1:(es.getD i []).take j++[]=es.getD i []:=by
    rw[qAt,qCg]
    grind
   rw[e1,aru hi,afC hll ho];exact hs
  |cons=>simp at hul
 |cons v vs ih=>
  intro us j s w es hs ho hi hjz hul hr hsc;cases us with
  |nil=>simp at hul
  |cons u us=>
   simp only[qAp]at hjz hul;simp only[qBC,qAa]at hsc;have hv:=hr 0 (by simp);simp only[List.getD,qAG,qAw]at hv;obtain⟨c,el,h1,h2,h3,h3',h4⟩:=hs.arr hl ho;have hll:l<s.heap.length:=by rw[←hs.klen];exact lt_of_at? hl
   have hst:=hs.aAt hl ho (i:=i) (j:=j) hi (by omega) hv;have hrun:(Go.store ⟨b,i*z+j,none⟩ u).run P w=.ok () (w.setCell ⟨b,i*z+j,none⟩ u):=Yw hv hsc.1 (h3' i j hi (by omega)) (by simp[World.frozen?,h1]);have hpv:∀x o,aH C.ak κ (s.setObj l (.arr z (es.set i ((es.getD i []).set j v)))).heap x o→aH C.ak κ s.heap x o:=by
    rintro x o (hx|⟨l',g1,g2⟩)
    ·exact .inl hx
    ·by_cases e:l=l'
     ·subst e;exact .inr ⟨l,g1,by rw[ho];trivial⟩
     ·simp only[ASt.setObj]at g2;rw[obj?_set_other e]at g2;exact .inr ⟨l',g1,g2⟩
   obtain⟨w',h5,h6⟩:=ih us (j+1) _ _ (es.set i ((es.getD i []).set j v)) hst (by simp only[ASt.setObj];exact obj?_set_same hll) (by simpa using hi) (by omega) (by omega)
    (fun k hk=>by
     have:=hr (k+1) (by simpa using hk);simp only[List.getD,qBp]at this;exact this.mono (Evo.setCell (.inr ⟨l,hl,by rw[ho];trivial⟩)) (dL.refl _) (fun x o hx _=>hpv x o hx)) hsc.2
   refine⟨w',by simp[storeCells,Dr,hrun,h5],?_⟩;have e:(s.setObj l (.arr z (es.set i ((es.getD i []).set j v)))).setObj l (.arr z ((es.set i ((es.getD i []).set j v)).set i (((es.set i ((es.getD i []).set j v)).getD i []).take (j+1)++vs)))=
     s.setObj l (.arr z (es.set i ((es.getD i []).take j++(v::vs)))):=by
    simp only[ASt.setObj,qDL];congr 2;rw[lW hi];have e1:((es.getD i []).set j v).take (j+1)=(es.getD i []).take j++[v]:=by
     rw[qBX (by rw[qAT,h3 i hi];omega),qDJ,qBJ (by simp;omega)];simp
    rw[e1];simp
   rw[e]at h6;exact h6
theorem Sim.aEH{P:Program}{C:Ctx}{κ:aS}{a:Act}{l b z i j0:Nat}(hl:at? κ l=some b):∀(vs:List AV) (us:List Value) (j:Nat) (s:ASt) (w:World) (es:List (List AV)),Sim C κ s a w→obj? s.heap l=.arr z es→
  i<es.length→j0+j+vs.length≤z→us.length=vs.length→(∀k,k<vs.length→Rel w κ (aH C.ak κ s.heap) (vs.getD k .unk) (us.getD k undef))→vs.all isScalar=true→
  ∃w',(storeCells ⟨b,i*z+j0,none⟩ us j).run P w=.ok () w'∧Sim C κ (s.setObj l (.arr z (es.set i ((es.getD i []).take (j0+j)++vs++(es.getD i []).drop (j0+j+vs.length))))) a w':=by
 intro vs
 induction vs with
 |nil=>
  intro us j s w es hs ho hi hjz hul _ _;cases us with
  |nil=>
   refine⟨w,by simp[storeCells],?_⟩;have hll:l<s.heap.length:=by rw[←hs.klen];exact lt_of_at? hl
   have e1:(es.getD i []).take (j0+j)++[]++(es.getD i []).drop (j0+j+([]:List AV).length)=es.getD i []:=by simp
   rw[e1,aru hi,afC hll ho];exact hs
  |cons=>simp at hul
 |cons v vs ih=>
  intro us j s w es hs ho hi hjz hul hr hsc;cases us with
  |nil=>simp at hul
  |cons u us=>
   simp only[qAp]at hjz hul;simp only[qBC,qAa]at hsc;have hv:=hr 0 (by simp);simp only[List.getD,qAG,qAw]at hv;obtain⟨c,el,h1,h2,h3,h3',h4⟩:=hs.arr hl ho;have hll:l<s.heap.length:=by rw[←hs.klen];exact lt_of_at? hl
   have hst:=hs.aAt hl ho (i:=i) (j:=j0+j) hi (by omega) hv;have hrun:(Go.store ⟨b,i*z+j0+j,none⟩ u).run P w=.ok () (w.setCell ⟨b,i*z+(j0+j),none⟩ u):=by
    rw[qBN];exact Yw hv hsc.1 (h3' i (j0+j) hi (by omega)) (by simp[World.frozen?,h1])
   have hpv:∀x o,aH C.ak κ (s.setObj l (.arr z (es.set i ((es.getD i []).set (j0+j) v)))).heap x o→aH C.ak κ s.heap x o:=by
    rintro x o (hx|⟨l',g1,g2⟩)
    ·exact .inl hx
    ·by_cases e:l=l'
     ·subst e;exact .inr ⟨l,g1,by rw[ho];trivial⟩
     ·simp only[ASt.setObj]at g2;rw[obj?_set_other e]at g2;exact .inr ⟨l',g1,g2⟩
   obtain⟨w',h5,h6⟩:=ih us (j+1) _ _ (es.set i ((es.getD i []).set (j0+j) v)) hst (by simp only[ASt.setObj];exact obj?_set_same hll) (by simpa using hi) (by omega) (by omega)
    (fun k hk=>by
     have:=hr (k+1) (by simpa using hk);simp only[List.getD,qBp]at this;exact this.mono (Evo.setCell (.inr ⟨l,hl,by rw[ho];trivial⟩)) (dL.refl _) (fun x o hx _=>hpv x o hx)) hsc.2
   refine⟨w',by simp[storeCells,Dr,hrun,h5],?_⟩;have e:(s.setObj l (.arr z (es.set i ((es.getD i []).set (j0+j) v)))).setObj l (.arr z ((es.set i ((es.getD i []).set (j0+j) v)).set i (((es.set i ((es.getD i []).set (j0+j) v)).getD i []).take (j0+(j+1))++vs++((es.set i ((es.getD i []).set (j0+j) v)).getD i []).drop (j0+(j+1)+vs.length))))=
     s.setObj l (.arr z (es.set i ((es.getD i []).take (j0+j)++(v::vs)++(es.getD i []).drop (j0+j+(v::vs).length)))):=by
    simp only[ASt.setObj,qDL];congr 2;rw[lW hi];have e1:((es.getD i []).set (j0+j) v).take (j0+(j+1))=(es.getD i []).take (j0+j)++[v]:=by
     rw[←qBN,qBX (by rw[qAT,h3 i hi];omega),qDJ,qBJ (by simp;omega)];simp
    have e2:((es.getD i []).set (j0+j) v).drop (j0+(j+1)+vs.length)=(es.getD i []).drop (j0+j+(v::vs).length):=by
     rw[List.drop_set_of_lt (by omega)];congr 1;simp only[qAp];omega
    rw[e1,e2];simp
   rw[e]at h6;exact h6
theorem azc{P:Program}{o:Oper}{s:ASt}{t:TypeId}{x:Operand}{l off z i:Nat}{es:List (List AV)}{v:AV}(ho:o.op=.load t x)(hx:bL s.tmps x=.ptr l off)(hl:obj? s.heap l=.arr z es)(hoff:off=i*z)(hi:i<es.length)(h:kC P t (es.getD i [])=some v):
  zD P o s (s.wr (aA o.dst v)):=
 pI fun C κ a w hs=>by
  have hr:=hs.ev x;rw[hx]at hr;obtain⟨b,e,hb⟩:=hr.sD;obtain⟨c,el,h1,h2,h3,h3',h4⟩:=hs.arr hb hl;have hlen:=h3 i hi;obtain⟨y,h5,h6⟩:=Jm (P:=P) (w:=w) (κ:=κ) (pv:=aH C.ak κ s.heap) (b:=b) (off:=off) (cs:=es.getD i []) (fun j=>c.getD (off+j) undef)
   (fun j hj=>by rw[hoff];exact h3' i j hi (by omega)) (fun j hj=>by rw[hoff];exact h4 i j hi (by omega)) h
  exact⟨y,κ,w,by simp[execOp,ho,Instr.loadAt,e,Instr.sureAddr,h5],hs.aA o.dst h6⟩
theorem awK{P:Program}{o:Oper}{s:ASt}{t:TypeId}{x y:Operand}{l off z i:Nat}{es:List (List AV)}{vs:List AV}(ho:o.op=.store t x y)(hx:bL s.tmps x=.ptr l off)(hy:eO (bL s.tmps y)=some vs)(hl:obj? s.heap l=.arr z es)
  (ht:sizeT P t=some vs.length) (hz:vs.length=z) (hoff:off=i*z) (hi:i<es.length) (hsc:vs.all isScalar=true):
  zD P o s (s.wr (.obj l (.arr z (es.set i vs))::aA o.dst (.tup []))):=
 YW fun C κ a w hs=>by
  have hr:=hs.ev x;rw[hx]at hr;obtain⟨b,e,hb⟩:=hr.sD;obtain⟨h1,h2⟩:=M6 (hs.ev y) hy;subst hoff;obtain⟨w',h3,h4⟩:=Sim.aFe (P:=P) (i:=i) hb vs (a.eval y).cells.toList 0 s w es hs hl hi (by omega) (by simpa using h1)
   (fun j hj=>by have:=h2 j hj;simpa[qAq,List.getD]using this) hsc
  refine⟨κ,w',?_,?_⟩
  ·simp[execOp,ho,Instr.storeAt,e,Instr.sureAddr,storeVar,pJ ht,h1,h3]
  ·simp at h4;exact h4.aA o.dst lK
theorem axG{P:Program}{o:Oper}{s:ASt}{t:TypeId}{x y:Operand}{l off z i j:Nat}{es:List (List AV)}{vs:List AV}(ho:o.op=.store t x y)(hx:bL s.tmps x=.ptr l off)(hy:eO (bL s.tmps y)=some vs)(hl:obj? s.heap l=.arr z es)
  (ht:sizeT P t=some vs.length) (hoff:off=i*z+j) (hi:i<es.length) (hj:j+vs.length≤z) (hsc:vs.all isScalar=true):
  zD P o s (s.wr (.obj l (.arr z (es.set i ((es.getD i []).take j++vs++(es.getD i []).drop (j+vs.length))))::aA o.dst (.tup []))):=
 YW fun C κ a w hs=>by
  have hr:=hs.ev x;rw[hx]at hr;obtain⟨b,e,hb⟩:=hr.sD;obtain⟨h1,h2⟩:=M6 (hs.ev y) hy;subst hoff;obtain⟨w',h3,h4⟩:=Sim.aEH (P:=P) (i:=i) (j0:=j) hb vs (a.eval y).cells.toList 0 s w es hs hl hi (by omega) (by simpa using h1)
   (fun j hj=>by have:=h2 j hj;simpa[qAq,List.getD]using this) hsc
  refine⟨κ,w',?_,?_⟩
  ·simp[execOp,ho,Instr.storeAt,e,Instr.sureAddr,storeVar,pJ ht,h1,h3]
  ·simp only[qAS]at h4;exact h4.aA o.dst lK
end
section
open Go
theorem ax0{P:Program}{o:Oper}{s:ASt}{t e l:Nat}{m key:Operand}{ok:Bool}{es:List (List UInt8×AV)}{k:List UInt8}{z:AV}(ho:o.op=.lookup t m key ok)(ht:uK P t=some e)(hm:bL s.tmps m=.mapr l)(hk:bL s.tmps key=.str k)
  (hl:obj? s.heap l=.mp es) (hz:NP P e=some z):zD P o s (s.wr (aA o.dst (ED (tN es k) ok z))):=
 pI fun C κ a w hs=>by
  have h1:=hs.ev m;rw[hm]at h1;have h2:=hs.ev key;rw[hk]at h2;obtain⟨b,e1,hb⟩:∃b,a.eval m=.map (some b)∧at? κ l=some b:=by
   generalize a.eval m=u at h1;cases h1;exact⟨_,rfl,‹_›⟩
  obtain⟨u,h3,h4⟩:=ax5 (ok:=ok) (k:=k) hs ht hb hl hz;exact⟨u,κ,w,by simp[execOp,ho,e1,h2.BK.1,h3],hs.aA o.dst h4⟩
theorem aov{P:Program}{o:Oper}{s:ASt}{t e l:Nat}{m key x:Operand}{es:List (List UInt8×AV)}{k:List UInt8}(ho:o.op=.mapUpdate t m key x)(ht:uK P t=some e)(hm:bL s.tmps m=.mapr l)(hk:bL s.tmps key=.str k)
  (hl:obj? s.heap l=.mp es) (hlim:es.length<140737488355328):zD P o s (s.wr (.obj l (.mp (I9 es k (uN (bL s.tmps x))))::aA o.dst (.tup []))):=
 YW fun C κ a w hs=>by
  have h1:=hs.ev m;rw[hm]at h1;have h2:=hs.ev key;rw[hk]at h2;obtain⟨b,e1,hb⟩:∃b,a.eval m=.map (some b)∧at? κ l=some b:=by
   generalize a.eval m=u at h1;cases h1;exact⟨_,rfl,‹_›⟩
  obtain⟨w',h3,h4⟩:=ao6 (k:=k) hs ht hb hl (hs.ev x).uN hlim h2.BK.2;exact⟨κ,w',by simp[execOp,ho,e1,h2.BK.1,h3],h4.aA o.dst lK⟩
theorem akF{P:Program}{k:Nat}{o:Oper}{s:ASt}{rd:List Nat}{ws:List Wr}(h:aP P k o (bL s.tmps) (obj? s.heap)=some (rd,ws)):zD P o s (s.wr ws):=by
 unfold aP at h;split at h
 ·rename_i v hv;simp only[Option.some.injEq,Prod.mk.injEq]at h;obtain⟨_,rfl⟩:=h;exact Zh hv
 ·split at h
  ·rename_i t x ho;split at h
   ·rename_i l off hx;split at h
    ·rename_i cs hl;cases hv:kC P t (cs.drop off)with
     |none=>rw[hv]at h;cases h
     |some v=>
      rw[hv]at h;simp only[qAx,Option.some.injEq,Prod.mk.injEq]at h;obtain⟨_,rfl⟩:=h;exact aBj ho hx hl hv
    ·rename_i z es hl;split at h
     ·rename_i hc;cases hv:kC P t (es.getD (off/z) [])with
      |none=>rw[hv]at h;cases h
      |some v=>
       rw[hv]at h;simp only[qAx,Option.some.injEq,Prod.mk.injEq]at h;obtain⟨_,rfl⟩:=h;exact azc ho hx hl hc.1 hc.2 hv
     ·cases h
    ·cases h
   ·cases h
  ·rename_i t x y ho;split at h
   ·rename_i l off vs hx hy;split at h
    ·rename_i cs hl;split at h
     ·rename_i hc;simp only[Option.some.injEq,Prod.mk.injEq]at h;obtain⟨_,rfl⟩:=h;exact azM ho hx hy hl hc.1 hc.2.1 hc.2.2
     ·cases h
    ·rename_i z es hl;split at h
     ·rename_i hc;simp only[Option.some.injEq,Prod.mk.injEq]at h;obtain⟨_,rfl⟩:=h;exact awK ho hx hy hl hc.1 hc.2.1 hc.2.2.1 hc.2.2.2.1 hc.2.2.2.2
     ·split at h
      ·rename_i hc;simp only[Option.some.injEq,Prod.mk.injEq]at h;obtain⟨_,rfl⟩:=h;exact axG ho hx hy hl hc.1 (by rw[qBK];exact(qCL off z).symm) hc.2.2.1 hc.2.2.2.1 hc.2.2.2.2
      ·cases h
    ·cases h
   ·cases h
  ·rename_i t ho;split at h
   ·rename_i hk;cases hz:lI P t with
    |none=>rw[hz]at h;cases h
    |some z=>
     rw[hz]at h;simp only[qAx,Option.some.injEq,Prod.mk.injEq]at h;obtain⟨_,rfl⟩:=h;exact ayN ho hk hz
   ·cases h
  ·rename_i t x ho;split at h
   ·rename_i hk;cases hx:eO (bL s.tmps x)with
    |none=>rw[hx]at h;cases h
    |some cs=>
     rw[hx]at h;simp only[qAx,Option.some.injEq,Prod.mk.injEq]at h;obtain⟨_,rfl⟩:=h;exact aFt ho hk hx
   ·cases h
  ·rename_i t ho;split at h
   ·rename_i hk;simp only[Option.some.injEq,Prod.mk.injEq]at h;obtain⟨_,rfl⟩:=h;exact aui ho hk
   ·cases h
  ·rename_i t len parts ho;split at h
   ·rename_i e sz by_ he;split at h
    ·rename_i z hz;split at h
     ·rename_i hc;cases hf:lH (fun i=>some (i*sz,sz)) ((List.replicate len z).flatten) (parts.toList.map fun p=>(p.1,bL s.tmps p.2))with
      |none=>rw[hf]at h;cases h
      |some cs=>
       rw[hf]at h;simp only[qAx,Option.some.injEq,Prod.mk.injEq]at h;obtain⟨_,rfl⟩:=h;exact ak6 ho he hz hc.1 hc.2.1 hc.2.2.1 hc.2.2.2 hf
     ·cases h
    ·cases h
   ·cases h
  ·rename_i args argTypes ho;split at h
   ·rename_i x y t t2 ha ht;split at h
    ·rename_i e sz by_ es ys tag he h2 hx hy;split at h
     ·rename_i hc;simp only[Option.some.injEq,Prod.mk.injEq]at h;obtain⟨_,rfl⟩:=h;obtain⟨c1,c2,c3,c4,c5⟩:=hc;subst c2;exact aml ho ha ht he h2 hx hy c1 c3 c4 c5
     ·cases h
    ·rename_i e sz by_ es l z ys tag he h2 hx hy;split at h
     ·rename_i n hl;split at h
      ·rename_i hc;simp only[Option.some.injEq,Prod.mk.injEq]at h;obtain⟨_,rfl⟩:=h;obtain⟨c1,c2,c3,c4,c5,c6,c7⟩:=hc;subst c2 c3;exact akP ho ha ht he h2 hx hy hl c1 c4 c5 c6 c7
      ·cases h
     ·cases h
    ·rename_i e sz by_ l z n ys tag he h2 hx hy;split at h
     ·rename_i z' es0 hl;split at h
      ·rename_i hc;simp only[Option.some.injEq,Prod.mk.injEq]at h;obtain⟨_,rfl⟩:=h;obtain⟨c1,c2,c3,c4,c5,c6,c7,c8⟩:=hc;subst c2 c3;have hlen:(es0.take n).length=n:=by simp only[qAz];omega
       have hall:(es0.take n).all (dH z')=true:=by
        rw[qAP]at c7⊢;exact fun x hx=>c7 x (qDC hx)
       exact VJ (es:=es0.take n) ho ha ht he h2 (by rw[hlen];exact hx) hy hl (by rw[hlen]) c1 (by rw[hlen];exact c5) (by rw[hlen];exact c6) hall c8
      ·cases h
     ·cases h
    ·cases h
   ·cases h
  ·rename_i t x y ho;split at h
   ·rename_i e sz by_ kl l kc c he hx hy;split at h
    ·rename_i z hz;split at h
     ·rename_i hc;simp only[Option.some.injEq,Prod.mk.injEq]at h;obtain⟨_,rfl⟩:=h;exact aoo ho he hz hx hy hc.1 hc.2.1 hc.2.2.1 hc.2.2.2.1 hc.2.2.2.2.1 hc.2.2.2.2.2
     ·cases h
    ·cases h
   ·cases h
  ·rename_i t m key ok ho;split at h
   ·rename_i e l k' ht hm hk;split at h
    ·rename_i es z hl hz;simp only[Option.some.injEq,Prod.mk.injEq]at h;obtain⟨_,rfl⟩:=h;exact ax0 ho ht hm hk hl hz
    ·cases h
   ·cases h
  ·rename_i t m key x ho;split at h
   ·rename_i e l k' ht hm hk;split at h
    ·rename_i es hl;split at h
     ·rename_i hlim;simp only[Option.some.injEq,Prod.mk.injEq]at h;obtain⟨_,rfl⟩:=h;exact aov ho ht hm hk hl hlim
     ·cases h
    ·cases h
   ·cases h
  ·cases h
end
section
open Go
def xu(g:Nat→Nat):Tag→Tag
 | .tip l z=>.tip (g l) z
 | .shared=>.shared
 | .nils=>.nils
mutual
def ren(g:Nat→Nat):AV→AV
 | .ptr l o=>.ptr (g l) o
 | .mapr l=>.mapr (g l)
 | .eptr cs=>.eptr (eT g cs)
 | .slice es t=>.slice (gY g es) (xu g t)
 | .agg cs=>.agg (eT g cs)
 | .tup cs=>.tup (eT g cs)
 | .func f cs=>.func f (eT g cs)
 | .unk=>.unk
 | .int k n=>.int k n
 | .bool b=>.bool b
 | .str s=>.str s
 | .nilp=>.nilp
 | .ifc t v=>.ifc t v
 | .nilFunc=>.nilFunc
 | .psl l z n=>.psl (g l) z n
 | .flist ns=>.flist (gY g ns)
def eT(g:Nat→Nat):List AV→List AV
 |[]=>[]
 |c::cs=>ren g c::eT g cs
def gY(g:Nat→Nat):List (List AV)→List (List AV)
 |[]=>[]
 |c::cs=>eT g c::gY g cs
end
theorem vE(g:Nat→Nat):∀cs,eT g cs=cs.map (ren g)
 |[]=>rfl
 |c::cs=>by simp[eT,vE g cs]
theorem Us(g:Nat→Nat):∀es,gY g es=es.map (eT g)
 |[]=>rfl
 |c::cs=>by simp[gY,Us g cs]
theorem jC(g:Nat→Nat)(cs:List AV):(eT g cs).length=cs.length:=by simp[vE]
theorem kL(g:Nat→Nat)(es:List (List AV)):(gY g es).length=es.length:=by simp[Us]
theorem jv(g:Nat→Nat)(cs:List AV)(j:Nat):(eT g cs).getD j .unk=ren g (cs.getD j .unk):=by
 rw[vE];simp;cases cs[j]?<;>rfl
theorem qW(g:Nat→Nat)(es:List (List AV))(j:Nat):(gY g es).getD j []=eT g (es.getD j []):=by
 rw[Us];simp;cases es[j]?<;>rfl
def eU(g:Nat→Nat):AObj→AObj
 | .box cs=>.box (eT g cs)
 | .mp es=>.mp (es.map fun p=>(p.1,ren g p.2))
 | .tip n=>.tip n
 | .dead=>.dead
 | .res=>.res
 | .arr z es=>.arr z (gY g es)
theorem Im(g:Nat→Nat)(o:AObj)(n:Nat):Aw (eU g o) n=Aw o n:=by cases o<;>rfl
theorem jD(g:Nat→Nat)(o:AObj):live (eU g o)=live o:=by cases o<;>rfl
theorem Rel.Ce{w:World}{κ κe:aS}{pv:bU}{g:Nat→Nat}(hg:∀i,at? κe i=at? κ (g i)):∀{y:AV} {v:Value},Rel w κ pv y v→∀x,y=ren g x→Rel w κe pv x v:=by
 intro y v h
 induction h with
 |unk v=>intro x hx;cases x<;>simp[ren]at hx;exact .unk _
 |int h=>intro x hx;cases x<;>simp[ren]at hx;obtain⟨rfl,rfl⟩:=hx;exact .int h
 |bool b=>intro x hx;cases x<;>simp[ren]at hx;subst hx;exact .bool _
 |str h=>intro x hx;cases x<;>simp[ren]at hx;subst hx;exact .str h
 |nilp=>intro x hx;cases x<;>simp[ren]at hx;exact .nilp
 |ifc t v=>intro x hx;cases x<;>simp[ren]at hx;obtain⟨rfl,rfl⟩:=hx;exact .ifc _ _
 |ptr h=>intro x hx;cases x<;>simp[ren]at hx;obtain⟨rfl,rfl⟩:=hx;exact .ptr (by rw[hg];exact h)
 |eptr u h1 h2 _ ih=>
  intro x hx;cases x<;>simp[ren]at hx;subst hx;rw[jC]at h1 h2 ih;exact .eptr u h1 h2 (fun j hj=>ih j hj _ (jv _ _ _))
 |slice b off sz u h1 h2 h3 h3' h4 h5 _ ht ih=>
  intro x hx;cases x<;>simp[ren]at hx;obtain⟨rfl,rfl⟩:=hx;rename_i es t _;rw[kL]at h1 h3 h3' h4 h5 ih⊢;refine .slice b off sz u (fun i hi=>by have:=h1 i hi;rwa[qW,jC]at this) (fun hne=>h2 (fun e=>hne ?_)) h3 h3' h4 h5 (fun i j hi hj=>ih i j hi hj _ (by rw[qW,jv])) ?_
  ·have:=congrArg List.length e;rw[kL]at this;exact qAD.1 (by simpa using this)
  ·cases t with
   |shared=>trivial
   |nils=>exact ht
   |tip l z=>
    obtain⟨e1,ht⟩:=ht;refine⟨e1,ht.imp id ?_⟩
    grind
 |agg h1 _ ih=>
  intro x hx;cases x<;>simp[ren]at hx;subst hx;rw[jC]at h1 ih;exact .agg h1 (fun j hj=>ih j hj _ (jv _ _ _))
 |tup h1 _ ih=>
  intro x hx;cases x<;>simp[ren]at hx;subst hx;rw[jC]at h1 ih;exact .tup h1 (fun j hj=>ih j hj _ (jv _ _ _))
 |func h1 _ ih=>
  intro x hx;cases x<;>simp[ren]at hx;obtain⟨rfl,rfl⟩:=hx;rw[jC]at h1 ih;exact .func h1 (fun j hj=>ih j hj _ (jv _ _ _))
 |mapr h=>intro x hx;cases x<;>simp[ren]at hx;subst hx;exact .mapr (by rw[hg];exact h)
 |nilFunc=>intro x hx;cases x<;>simp[ren]at hx;exact .nilFunc
 |psl h1 h2 h3=>
  intro x hx;cases x<;>simp[ren]at hx;obtain⟨rfl,rfl,rfl⟩:=hx;refine .psl h1 h2 ?_;obtain⟨e1,ht⟩:=h3;refine⟨e1,ht.imp id ?_⟩;rintro⟨b,c,e,q1,q2⟩;exact⟨b,c,e,by rw[hg];exact q1,q2⟩
 |flnil=>
  intro x hx;cases x<;>simp[ren]at hx;rename_i ns;have:ns=[]:=qAD.1 (by rw[←kL g ns,hx];rfl);subst this;exact .flnil
 |flcons u y h1 h2 h3 _ _ ih1 ih2=>
  intro x hx;cases x<;>simp[ren]at hx;rename_i ns;cases ns with
  |nil=>simp[gY]at hx
  |cons c r=>
   simp only[gY,List.cons.injEq]at hx;obtain⟨rfl,rfl⟩:=hx;rw[jC]at h1 h2 h3 ih1;exact .flcons u y h1 h2 h3 (fun j hj=>ih1 j hj _ (jv _ _ _)) (ih2 _ rfl)
theorem Rel.ren{w:World}{κ κe:aS}{pv:bU}{g:Nat→Nat}(hg:∀i b,at? κe i=some b→at? κ (g i)=some b):∀{x:AV} {v:Value},Rel w κe pv x v→Rel w κ pv (Abs.ren g x) v:=by
 intro x v h
 induction h with
 |unk v=>exact .unk _
 |int h=>exact .int h
 |bool b=>exact .bool _
 |str h=>exact .str h
 |nilp=>exact .nilp
 |ifc t v=>exact .ifc _ _
 |ptr h=>exact .ptr (hg _ _ h)
 |eptr u h1 h2 _ ih=>
  refine .eptr u ?_ ?_ ?_<;>rw[jC]
  ·exact h1
  ·exact h2
  ·intro j hj;rw[jv];exact ih j hj
 |@slice es t a cap b off sz u h1 h2 h3 h3' h4 h5 _ ht ih=>
  have key:=Rel.slice (w:=w) (κ:=κ) (pv:=pv) (es:=gY g es) (tag:=xu g t) (a:=a) (cap:=cap) b off sz u
   (fun i hi=>by rw[kL]at hi;rw[qW,jC];exact h1 i hi)
   (fun hne=>h2 (fun e=>hne (by subst e;rfl))) (by rw[kL];exact h3) (by rw[kL];exact h3')
   (fun i j hi hj=>by rw[kL]at hi;exact h4 i j hi hj) (fun i j hi hj=>by rw[kL]at hi;exact h5 i j hi hj)
   (fun i j hi hj=>by rw[kL]at hi;rw[qW,jv];exact ih i j hi hj)
   (by
    cases t with
    |shared=>trivial
    |nils=>exact ht
    |tip l z=>
     obtain⟨e1,ht⟩:=ht;refine⟨e1,ht.imp id ?_⟩;rintro⟨b,c,e,q1,q2⟩;exact⟨b,c,e,hg _ _ q1,q2⟩)
  rw[kL]at key;exact key
 |agg h1 _ ih=>
  refine .agg ?_ ?_<;>rw[jC]
  ·exact h1
  ·intro j hj;rw[jv];exact ih j hj
 |tup h1 _ ih=>
  refine .tup ?_ ?_<;>rw[jC]
  ·exact h1
  ·intro j hj;rw[jv];exact ih j hj
 |func h1 _ ih=>
  refine .func ?_ ?_<;>rw[jC]
  ·exact h1
  ·intro j hj;rw[jv];exact ih j hj
 |mapr h=>exact .mapr (hg _ _ h)
 |nilFunc=>exact .nilFunc
 |psl h1 h2 h3=>
  refine .psl h1 h2 ?_;obtain⟨e1,ht⟩:=h3;refine⟨e1,ht.imp id ?_⟩
  grind
 |flnil=>exact .flnil
 |flcons u y h1 h2 h3 _ _ ih1 ih2=>
  refine .flcons u y ?_ ?_ ?_ ?_ ih2<;>rw[jC]
  ·exact h1
  ·exact h2
  ·exact h3
  ·intro j hj;rw[jv];exact ih1 j hj
theorem qX.Ce{w:World}{κ κe:aS}{pv:bU}{g:Nat→Nat}(hg:∀i,at? κe i=at? κ (g i)){b:Nat}{o:AObj}(h:qX w κ pv b (eU g o)):qX w κe pv b o:=by
 cases o with
 |box cs=>
  obtain⟨c,e,h1,h2,h3⟩:=h;rw[jC]at h2 h3;exact⟨c,e,h1,h2,fun j hj=>(h3 j hj).Ce hg _ (jv _ _ _)⟩
 |tip n=>exact h
 |mp es=>
  obtain⟨ms,cl,h1,h2,h3,h4⟩:=h;rw[qAi]at h2 h4;refine⟨ms,cl,h1,h2,by simpa[qBh,qCv]using h3,fun j hj=>?_⟩;have:=h4 j hj;simp only[List.getD,qAE,qAc hj]at this⊢;exact⟨this.1,this.2.Ce hg _ rfl⟩
 |dead=>trivial
 |res=>trivial
 |arr z es=>
  obtain⟨c,e,h1,h2,h3,h4⟩:=h;rw[kL]at h2 h3 h4;refine⟨c,e,h1,h2,fun i hi=>by have:=h3 i hi;rwa[qW,jC]at this,fun i j hi hj=>?_⟩;exact(h4 i j hi hj).Ce hg _ (by rw[qW,jv])
theorem qX.ren{w:World}{κ κe:aS}{pv:bU}{g:Nat→Nat}(hg:∀i b,at? κe i=some b→at? κ (g i)=some b){b:Nat}{o:AObj}(h:qX w κe pv b o):qX w κ pv b (eU g o):=by
 cases o with
 |box cs=>
  obtain⟨c,e,h1,h2,h3⟩:=h;refine⟨c,e,h1,by rw[jC];exact h2,fun j hj=>?_⟩;rw[jC]at hj;rw[jv];exact(h3 j hj).ren hg
 |tip n=>exact h
 |mp es=>
  obtain⟨ms,cl,h1,h2,h3,h4⟩:=h;refine⟨ms,cl,h1,by rw[qAi];exact h2,by simpa[qBh,qCv]using h3,fun j hj=>?_⟩;rw[qAi]at hj;have:=h4 j hj;simp only[List.getD,qAE,qAc hj]at this⊢;exact⟨this.1,this.2.ren hg⟩
 |dead=>trivial
 |res=>trivial
 |arr z es=>
  obtain⟨c,e,h1,h2,h3,h4⟩:=h;refine⟨c,e,h1,by rw[kL];exact h2,fun i hi=>?_,fun i j hi hj=>?_⟩
  ·rw[kL]at hi;rw[qW,jC];exact h3 i hi
  ·rw[kL]at hi;rw[qW,jv];exact(h4 i j hi hj).ren hg
structure Entry(κ:aS)(ak:bU)(H:List AObj)(w:World):Prop where
 klen:κ.length=H.length
 resv:∀l,obj? H l=.res→at? κ l=none
 obj:∀l b,at? κ l=some b→live (obj? H l)→qX w κ (aH ak κ H) b (obj? H l)
 apart:∀l l' b,at? κ l=some b→at? κ l'=some b→live (obj? H l)→live (obj? H l')→l=l'
 bound:∀l b,at? κ l=some b→b<w.heap.size
 pvlt:∀b o,ak b o→b<w.heap.size
 pvdis:∀b o l,ak b o→at? κ l=some b→¬live (obj? H l)
structure Leave(κ κ':aS)(ak:bU)(H H':List AObj)(w w':World):Prop where
 klen:κ'.length=H'.length
 hlen:H.length≤H'.length
 kext:dL κ κ'
 resv:∀l,obj? H' l=.res→at? κ' l=none
 obj:∀l b,at? κ' l=some b→live (obj? H' l)→qX w' κ' (aH ak κ' H') b (obj? H' l)
 stay:∀l b,at? κ' l=some b→live (obj? H' l)→w.heap.size≤b∨∃l0,at? κ l0=some b∧live (obj? H l0)
 apart:∀l l' b,at? κ' l=some b→at? κ' l'=some b→live (obj? H' l)→live (obj? H' l')→l=l'
 bound:∀l b,at? κ' l=some b→b<w'.heap.size
 kept:∀b:Nat,b<w.heap.size→(∀l,at? κ l=some b→¬live (obj? H l))→w'.heap[b]? =w.heap[b]?
 ny:Evo (aH ak κ H) w w'
 pvsub:∀b o,aH ak κ' H' b o→b<w.heap.size→aH ak κ H b o
 os:w'.os=w.os
 tape:w'.tape=w.tape
 output:w'.output=w.output
def eH(P:Program)(f:Nat)(args:List AV)(H:List AObj)(res:AV)(H':List AObj):Prop:=
 ∀(κ:aS) (ak:bU) (w:World) (vs:List Value),Entry κ ak H w→vs.length=args.length→(∀j,j<args.length→Rel w κ (aH ak κ H) (args.getD j .unk) (vs.getD j undef))→
  Calls P f vs.toArray w fun e w'=>∃v κ',e=.returned v∧Leave κ κ' ak H H' w w'∧Rel w' κ' (aH ak κ' H') res v
inductive SW:AV→AV→Prop where
 |same (x:AV):SW x x
 |share (es:List (List AV)) (t:Tag):SW (.slice es t) (.slice es .shared)
 |nilF:SW .nilp (.flist [])
 |unk (x:AV):SW x .unk
 |agg {cs cs':List AV}:cs.length=cs'.length→(∀j,SW (cs.getD j .unk) (cs'.getD j .unk))→SW (.agg cs) (.agg cs')
theorem SW.rel{x y:AV}(hs:SW x y):∀{w:World} {κ:aS} {pv:bU} {v:Value},Rel w κ pv x v→Rel w κ pv y v:=by
 induction hs with
 |same x=>intro w κ pv v h;exact h
 |share es t=>intro w κ pv v h;exact h.share
 |nilF=>intro w κ pv v h;cases h;exact .flnil
 |unk x=>intro w κ pv v _;exact .unk v
 |agg hl _ ih=>
  intro w κ pv v h;cases h with
  |agg g1 g2=>exact .agg (g1.trans hl) fun j hj=>ih j (g2 j (by omega))
inductive SWs:List AV→List AV→Prop where
 |nil:SWs [] []
 |cons {x y:AV} {xs ys:List AV}:SW x y→SWs xs ys→SWs (x::xs) (y::ys)
theorem SWs.len{xs ys:List AV}(hv:SWs xs ys):xs.length=ys.length:=by
 induction hv with
 |nil=>rfl
 |cons _ _ ih=>simp[ih]
theorem SWs.get{xs ys:List AV}(hv:SWs xs ys):∀j,SW (xs.getD j .unk) (ys.getD j .unk):=by
 induction hv with
 |nil=>intro j;exact .same _
 |cons h1 _ ih=>intro j;cases j with
  |zero=>exact h1
  |succ j=>exact ih j
theorem SW.agg'{xs ys:List AV}(hv:SWs xs ys):SW (.agg xs) (.agg ys):=.agg hv.len hv.get
end
section
open Go
def oV{α:Type}(xs:List α):List Nat→List α→List α
 |l::ls,v::vs=>oV (xs.set l v) ls vs
 |_,_=>xs
theorem Om{α:Type}:∀(ls:List Nat) (vs xs:List α),(oV xs ls vs).length=xs.length
 |[],_,_=>by simp[oV]
 |_::_,[],_=>by simp[oV]
 |l::ls,v::vs,xs=>by simp[oV,Om ls vs]
theorem Da{α:Type}:∀(ls:List Nat) (vs xs:List α) (n:Nat),n∉ls→(oV xs ls vs)[n]? =xs[n]?
 |[],_,_,_,_=>by simp[oV]
 |_::_,[],_,_,_=>by simp[oV]
 |l::ls,v::vs,xs,n,h=>by
  simp at h;simp only[oV];rw[Da ls vs _ n h.2,qBV (qBo h.1)]
theorem Mf{α:Type}:∀(ls:List Nat) (vs xs:List α) (i n:Nat),ls.Nodup→ls[i]? =some n→i<vs.length→n<xs.length→(oV xs ls vs)[n]? =vs[i]?
 |[],_,_,_,_,_,h,_,_=>by simp at h
 |_::_,[],_,_,_,_,_,h,_=>by simp at h
 |l::ls,v::vs,xs,i,n,hnd,hi,hlt,hn=>by
  simp only[oV];rw[qCq]at hnd;cases i with
  |zero=>
   simp at hi;subst hi;rw[Da ls vs _ l hnd.1,qCx hn];rfl
  |succ i=>
   exact Mf ls vs _ i n hnd.2 hi (by simpa using hlt) (by simpa using hn)
def mD:List Nat→List AObj→List Wr
 |l::ls,o::os=>.obj l o::mD ls os
 |_,_=>[]
theorem IZ(s:ASt)(a b:List Wr):s.wr (a++b)=(s.wr a).wr b:=by simp[ASt.wr]
theorem M7:∀(ls:List Nat) (os:List AObj) (s:ASt),s.wr (mD ls os)={s with heap:=oV s.heap ls os}
 |[],_,s=>by simp[mD,oV,ASt.wr]
 |_::_,[],s=>by simp[mD,oV,ASt.wr]
 |l::ls,o::os,s=>by
  have:=M7 ls os (s.setObj l o);exact this
def nm(L:List Nat)(big:Nat)(i:Nat):Nat:=(L[i]?).getD big
theorem at?_none_of_le{κ:aS}{l:Nat}(h:κ.length≤l):at? κ l=none:=by
 unfold at?;rw[qAC h];rfl
section
variable {C:Ctx}{κ:aS}{s:ASt}{a:Act}{w:World}{ρ ks:List Nat}{H H':List AObj}
def Nv(ak:bU)(κ:aS)(S:List AObj)(ρ:List Nat):bU:=fun b o=>ak b o∨∃l,l∉ρ∧at? κ l=some b∧Aw (obj? S l) o
theorem at?_map{i:Nat}:at? (ρ.map (at? κ)) i=match ρ[i]? with|some l=>at? κ l|none=>none:=by
 simp only[at?,qAE];cases ρ[i]?<;>rfl
structure Passes(s:ASt)(ρ ks:List Nat)(H:List AObj):Prop where
 nodup:(ρ++ks).Nodup
 hlen:H.length=ρ.length
 lt:∀l∈ρ,l<s.heap.length
 res:∀l∈ks,dG (obj? s.heap l)=true
 obj:∀i l,ρ[i]? =some l→obj? s.heap l=eU (nm (ρ++ks) s.heap.length) (obj? H i)
theorem Uq(hp:Passes s ρ ks H):aH (Nv C.ak κ s.heap ρ) (ρ.map (at? κ)) H=aH C.ak κ s.heap:=by
 funext b o;apply propext;constructor
 ·rintro((h|⟨l,_,h1,h2⟩)|⟨i,h1,h2⟩)
  ·exact .inl h
  ·exact .inr ⟨l,h1,h2⟩
  ·rw[at?_map]at h1;cases hi:ρ[i]? with
   |none=>rw[hi]at h1;cases h1
   |some l=>rw[hi]at h1;exact .inr ⟨l,h1,by rw[hp.obj i l hi,Im];exact h2⟩
 ·rintro(h|⟨l,h1,h2⟩)
  ·exact .inl (.inl h)
  ·by_cases hl:l∈ρ
   ·obtain⟨i,hi⟩:=qAR hl;refine .inr ⟨i,by rw[at?_map,hi];exact h1,?_⟩;rw[hp.obj i l hi,Im]at h2;exact h2
   ·exact .inl (.inr ⟨l,hl,h1,h2⟩)
theorem PW{o:AObj}{n:Nat}(h:Aw o n):live o:=by cases o<;>simp[Aw,live]at *
theorem aln(hs:Sim C κ s a w)(hp:Passes s ρ ks H)(i:Nat):at? (ρ.map (at? κ)) i=at? κ (nm (ρ++ks) s.heap.length i):=by
 rw[at?_map];unfold nm;cases hi:ρ[i]? with
 |some l=>rw[qAg (qAH.1 hi).1,hi];rfl
 |none=>
  have hle:ρ.length≤i:=List.getElem?_eq_none_iff.1 hi;rw[qAl hle];cases hk:ks[i - ρ.length]? with
  |none=>simp;rw[at?_none_of_le (by rw[hs.klen];exact qAd _)]
  |some k=>
   simp;have:=hp.res k (qAF hk);rw[hs.resv k (yF this).1]
theorem aqc(hs:Sim C κ s a w)(hp:Passes s ρ ks H):Entry (ρ.map (at? κ)) (Nv C.ak κ s.heap ρ) H w:=by
 have hat:∀i b,at? (ρ.map (at? κ)) i=some b→∃l,ρ[i]? =some l∧at? κ l=some b:=fun i b h=>by
  rw[at?_map]at h
  grind
 refine⟨by simp[hp.hlen],?_,?_,?_,?_,?_,?_⟩
 ·intro i hi;rw[at?_map];cases h:ρ[i]? with
  |none=>rfl
  |some l=>simp only;exact hs.resv l (by rw[hp.obj i l h,hi];rfl)
 ·intro i b h1 h2;obtain⟨l,hl,hb⟩:=hat i b h1;have hobj:=hp.obj i l hl;have:=hs.obj l b hb (by rw[hobj,jD];exact h2);rw[Uq hp];rw[hobj]at this;exact this.Ce (aln hs hp)
 ·intro i j b h1 h2 h3 h4;obtain⟨l,hl,hb⟩:=hat i b h1;obtain⟨l',hl',hb'⟩:=hat j b h2;have e:=hs.apart l l' b hb hb' (by rw[hp.obj i l hl,jD];exact h3) (by rw[hp.obj j l' hl',jD];exact h4);subst e;have hnd:=(qDe.1 hp.nodup).1;have hi:=(qAH.1 hl).1;exact(qCw hi hnd).1 (hl.trans hl'.symm)
 ·intro i b h1;obtain⟨l,_,hb⟩:=hat i b h1;exact hs.bound l b hb
 ·rintro b o (h|⟨l,_,h1,_⟩)
  ·exact qAB (hs.oldlt _ (hs.pvold _ _ h)) hs.size
  ·exact hs.bound l b h1
 ·rintro b o i h h1 hlv;obtain⟨l,hl,hb⟩:=hat i b h1;have hlive:live (obj? s.heap l):=by rw[hp.obj i l hl,jD];exact hlv
  rcases h with h|⟨l',hn,h2,h3⟩
  ·exact hs.own l b hb hlive (hs.pvold _ _ h)
  ·have e:=hs.apart l l' b hb h2 hlive (PW h3)
   grind
theorem Sim.back(hs:Sim C κ s a w)(hp:Passes s ρ ks H){κ':aS}{w':World}(hlv:Leave (ρ.map (at? κ)) κ' (Nv C.ak κ s.heap ρ) H H' w w')(hH:H'.length=(ρ++ks).length){res:AV}{v:Value}
  (hr:Rel w' κ' (aH (Nv C.ak κ s.heap ρ) κ' H') res v):
  ∃κc,Sim C κc (s.wr (mD (ρ++ks) (H'.map (eU (nm (ρ++ks) s.heap.length))))) a w'∧
   Rel w' κc (aH C.ak κc (s.wr (mD (ρ++ks) (H'.map (eU (nm (ρ++ks) s.heap.length))))).heap) (ren (nm (ρ++ks) s.heap.length) res) v:=by
 let L:=ρ++ks
 let g:=nm L s.heap.length
 let Hc:=oV s.heap L (H'.map (eU g))
 let κc:aS:=oV κ L κ'
 have hLlt:∀l∈L,l<s.heap.length:=fun l hl=>by
  rcases qAr.1 hl with h|h
  ·exact hp.lt l h
  ·exact(yF (hp.res l h)).2
 have hkl:κ'.length=L.length:=by rw[hlv.klen];exact hH
 have hHL:H'.length=L.length:=hH;have oIn:∀i l,L[i]? =some l→obj? Hc l=eU g (obj? H' i):=fun i l hl=>by
  have hi:=(qAH.1 hl).1;have:=Mf L (H'.map (eU g)) s.heap i l hp.nodup hl (by rw[qAi];omega) (hLlt l (qAF hl));simp only[obj?,Hc,this,qAE]
  grind
 have oOut:∀l,l∉L→obj? Hc l=obj? s.heap l:=fun l hl=>by simp only[obj?,Hc,Da L _ _ l hl]
 have kIn:∀i l,L[i]? =some l→at? κc l=at? κ' i:=fun i l hl=>by
  have hi:=(qAH.1 hl).1;have:=Mf L κ' κ i l hp.nodup hl (by omega) (by rw[hs.klen];exact hLlt l (qAF hl));simp only[at?,κc,this]
 have kOut:∀l,l∉L→at? κc l=at? κ l:=fun l hl=>by simp only[at?,κc,Da L _ _ l hl]
 have hgup:∀i b,at? κ' i=some b→at? κc (g i)=some b:=fun i b hb=>by
  have hi:i<L.length:=by rw[←hkl];exact lt_of_at? hb
  have:g i=L[i]:=by simp only[g,nm,qAc hi];rfl
  grind
 have hpve:=Uq (C:=C) (κ:=κ) hp;have hpL:∀l∈L,l∉ρ→at? κ l=none:=fun l hl hn=>by
  rcases qAr.1 hl with h|h
  ·exact(hn h).elim
  ·exact hs.resv l (yF (hp.res l h)).1
 have hpsub:∀x o,aH C.ak κc Hc x o→aH (Nv C.ak κ s.heap ρ) κ' H' x o:=by
  rintro x o (h|⟨l,h1,h2⟩)
  ·exact .inl (.inl h)
  ·by_cases hl:l∈L
   ·obtain⟨i,hi⟩:=qAR hl;rw[kIn i l hi]at h1;rw[oIn i l hi,Im]at h2;exact .inr ⟨i,h1,h2⟩
   ·rw[kOut l hl]at h1;rw[oOut l hl]at h2;exact .inl (.inr ⟨l,fun h=>hl (qBw _ h),h1,h2⟩)
 have hbelow:∀i l b,L[i]? =some l→at? κ' i=some b→live (obj? H' i)→w.heap.size≤b∨∃l0 i0,ρ[i0]? =some l0∧at? κ l0=some b∧live (obj? s.heap l0):=fun i l b hi hb hl=>by
  rcases hlv.stay i b hb hl with h|⟨i0,h1,h2⟩
  ·exact .inl h
  ·rw[at?_map]at h1;cases h0:ρ[i0]? with
   |none=>rw[h0]at h1;cases h1
   |some l0=>rw[h0]at h1;exact .inr ⟨l0,i0,h0,h1,by rw[hp.obj i0 l0 h0,jD];exact h2⟩
 have hmono:∀{x:AV} {u:Value},Rel w' κ' (aH (Nv C.ak κ s.heap ρ) κ' H') x u→Rel w' κc (aH C.ak κc Hc) (ren g x) u:=fun hx=>(hx.ren hgup).mono (Evo.refl _ _) (dL.refl _) (fun x o h _=>hpsub x o h);have hsim:Sim C κc {s with heap:=Hc} a w':=by
  refine hs.step (H':=Hc) (by rw[←hpve];exact hlv.ny) ?_ (by simp only[κc,Hc,Om];exact hs.klen) ?_ ?_ ?_ ?_ ?_ ?_ hlv.os hlv.tape hlv.output
  ·intro l b hb;by_cases hl:l∈L
   ·obtain⟨i,hi⟩:=qAR hl;rw[kIn i l hi];apply hlv.kext;rw[at?_map];by_cases hr:l∈ρ
    ·have hlt:i<ρ.length:=by
      obtain⟨j,hj⟩:=qAR hr;have hj':L[j]? =some l:=by rw[qAg (qAH.1 hj).1];exact hj
      have:i=j:=(qCw (qAH.1 hi).1 hp.nodup).1 (hi.trans hj'.symm);rw[this];exact(qAH.1 hj).1
     rw[qAg hlt]at hi;rw[hi];exact hb
    ·rw[hpL l hl hr]at hb;cases hb
   ·rw[kOut l hl];exact hb
  ·intro x o h hlt;rw[←hpve];exact hlv.pvsub x o (hpsub x o h) hlt
  ·intro l b h1 h2;by_cases hl:l∈L
   ·obtain⟨i,hi⟩:=qAR hl;rw[kIn i l hi]at h1;rw[oIn i l hi,jD]at h2;refine .inr ⟨hlv.bound i b h1,fun ho=>?_,?_⟩
    ·rcases hbelow i l b hi h1 h2 with h|⟨l0,i0,_,h3,h4⟩
     ·have:=hs.oldlt b ho;have:=hs.size;omega
     ·exact hs.own l0 b h3 h4 ho
    ·rw[oIn i l hi];have:=(hlv.obj i b h1 h2).ren hgup;exact this.mono rfl (Evo.refl _ _) (dL.refl _) (fun x o h _=>hpsub x o h)
   ·rw[kOut l hl]at h1;rw[oOut l hl]at h2⊢;refine .inl ⟨h1,rfl,hlv.kept b (hs.bound l b h1) fun i hi hlive=>?_⟩;rw[at?_map]at hi;cases h0:ρ[i]? with
    |none=>rw[h0]at hi;cases hi
    |some l0=>
     rw[h0]at hi;have e:=hs.apart l l0 b h1 hi h2 (by rw[hp.obj i l0 h0,jD];exact hlive);subst e;exact hl (qBw _ (qAF h0))
  ·intro l1 l2 b g1 g2 g3 g4;by_cases e1:l1∈L<;>by_cases e2:l2∈L
   ·obtain⟨i,hi⟩:=qAR e1;obtain⟨j,hj⟩:=qAR e2;rw[kIn i l1 hi]at g1;rw[kIn j l2 hj]at g2;rw[oIn i l1 hi,jD]at g3;rw[oIn j l2 hj,jD]at g4;have:=hlv.apart i j b g1 g2 g3 g4;subst this;exact Option.some.inj (hi.symm.trans hj)
   ·obtain⟨i,hi⟩:=qAR e1;rw[kIn i l1 hi]at g1;rw[oIn i l1 hi,jD]at g3;rw[kOut l2 e2]at g2;rw[oOut l2 e2]at g4;rcases hbelow i l1 b hi g1 g3 with h|⟨l0,i0,h0,h3,h4⟩
    ·have:=hs.bound l2 b g2;omega
    ·have e:=hs.apart l2 l0 b g2 h3 g4 h4;subst e;exact(e2 (qBw _ (qAF h0))).elim
   ·obtain⟨i,hi⟩:=qAR e2;rw[kIn i l2 hi]at g2;rw[oIn i l2 hi,jD]at g4;rw[kOut l1 e1]at g1;rw[oOut l1 e1]at g3;rcases hbelow i l2 b hi g2 g4 with h|⟨l0,i0,h0,h3,h4⟩
    ·have:=hs.bound l1 b g1;omega
    ·have e:=hs.apart l1 l0 b g1 h3 g3 h4;subst e;exact(e1 (qBw _ (qAF h0))).elim
   ·rw[kOut l1 e1]at g1;rw[kOut l2 e2]at g2;rw[oOut l1 e1]at g3;rw[oOut l2 e2]at g4;exact hs.apart l1 l2 b g1 g2 g3 g4
  ·intro l b h1;by_cases hl:l∈L
   ·obtain⟨i,hi⟩:=qAR hl;rw[kIn i l hi]at h1;exact hlv.bound i b h1
   ·rw[kOut l hl]at h1;exact qAB (hs.bound l b h1) hlv.ny.size
  ·intro l h1;by_cases hl:l∈L
   ·obtain⟨i,hi⟩:=qAR hl;rw[oIn i l hi]at h1;rw[kIn i l hi];apply hlv.resv
    revert h1
    cases obj? H' i<;>simp[eU]
   ·rw[oOut l hl]at h1;rw[kOut l hl];exact hs.resv l h1
  ·intro b hb;refine hlv.kept b (qAB (hs.oldlt b hb) hs.size) fun i hi hlive=>?_;rw[at?_map]at hi;cases h0:ρ[i]? with
   |none=>rw[h0]at hi;cases hi
   |some l0=>
    rw[h0]at hi;exact hs.own l0 b hi (by rw[hp.obj i l0 h0,jD];exact hlive) hb
 refine⟨κc,?_,?_⟩
 ·rw[M7];exact hsim
 ·rw[M7];exact hmono hr
end
end
section
open Go
def mQ(P:Program)(f:Nat):Bool:=
 match P.funcs[f]? with
 |some fn=>!(fn.name== "runtime.NumGoroutine")&&fn.body.isSome
 |none=>false
theorem Dj{P:Program}{f:Nat}{args:Array Value}{w:World}(h:mQ P f=true):(callFunc f args).run P w=.ok (.enter f args) w:=by
 unfold mQ at h;split at h
 ·rename_i fn hf;simp only[qAa,qAV]at h;obtain⟨h1,h2⟩:=h;have h3:fn.body.isNone=false:=by cases hb:fn.body<;>simp[hb]at h2⊢
  simp only[callFunc,Sem.run_bind,run_program,Result.andThen_ok,hf,h1,h3];rfl
 ·cases h
theorem aCd{P:Program}{o:Oper}{s:ASt}{fo:Operand}{args:Array Operand}{argTypes:Array TypeId}{f:Nat}{caps aargs:List AV}{ρ ks:List Nat}{H H':List AObj}{res:AV}
  (ho:o.op=.call {callee:=.value fo,args,argTypes}) (hf:bL s.tmps fo=.func f caps) (hok:mQ P f=true) (hp:Passes s ρ ks H) (hH:H'.length=(ρ++ks).length)
  (hargs:SWs (args.toList.map (bL s.tmps)++caps) (aargs.map (ren (nm (ρ++ks) s.heap.length)))) (hc:eH P f aargs H res H'):
  zD P o s (s.wr (mD (ρ++ks) (H'.map (eU (nm (ρ++ks) s.heap.length)))++aA o.dst (ren (nm (ρ++ks) s.heap.length) res))):=by
 intro C κ a w hs next Q hn
 have hrf:=hs.ev fo;rw[hf]at hrf;obtain⟨cv,e1,e2,e3⟩:=hrf.LD
 let vs:List Value:=args.toList.map a.eval++cv
 have hlen:vs.length=aargs.length:=by
  have:=hargs.len
  grind
 have hrun:(execOp a.eval o).run P w=.ok (.enter f vs.toArray) w:=by
  have e4:args.map a.eval++cv.toArray=vs.toArray:=by
   grind
  simp[execOp,ho,resolve,e1,Deferred.ofValue,invoke,Dj hok,e4]
 have hrel:∀j,j<aargs.length→Rel w (ρ.map (at? κ)) (aH (Nv C.ak κ s.heap ρ) (ρ.map (at? κ)) H) (aargs.getD j .unk) (vs.getD j undef):=fun j hj=>by
  rw[Uq hp];have hg:(aargs.map (ren (nm (ρ++ks) s.heap.length))).getD j .unk=ren (nm (ρ++ks) s.heap.length) (aargs.getD j .unk):=by
   grind
  have:Rel w κ (aH C.ak κ s.heap) ((args.toList.map (bL s.tmps)++caps).getD j .unk) (vs.getD j undef):=by
   by_cases hlt:j<args.toList.length
   ·have x1:(args.toList.map (bL s.tmps)++caps).getD j .unk=bL s.tmps args.toList[j]:=by
     grind
    have x2:vs.getD j undef=a.eval args.toList[j]:=by
     simp only[vs];rw[List.getD,qAg (by simpa using hlt),qAE,qAc hlt];rfl
    rw[x1,x2];exact hs.ev _
   grind
  replace this:=(hargs.get j).rel this;rw[hg]at this;exact this.Ce (aln hs hp) _ rfl
 unfold Oper.wp;rw[hrun];refine(hc _ _ _ vs (aqc hs hp) hlen hrel).mono ?_;rintro e w' ⟨v,κ',rfl,hlv,hr⟩;obtain⟨κc,h1,h2⟩:=hs.back hp hlv hH hr;refine hn κc _ _ ?_;rw[IZ];exact h1.aA o.dst h2
def dK(P:Program)(c:Code)(Q:Exit→ASt→Prop)(s:ASt):Prop:=
 ∀(C:Ctx) (κ:aS) (a:Act) (w:World),Sim C κ s a w→c.wp P (fun e a' w'=>∃s' κ',Q e s'∧Sim C κ' s' a' w') a w
theorem dK.skip{P:Program}{Q:Exit→ASt→Prop}{s:ASt}(h:Q .normal s):dK P .skip Q s:=fun _ κ _ _ hs=>wp_skip ⟨s,κ,h,hs⟩
theorem dK.ret{P:Program}{Q:Exit→ASt→Prop}{s:ASt}(h:Q .ret s):dK P .ret Q s:=fun _ κ _ _ hs=>wp_ret ⟨s,κ,h,hs⟩
theorem dK.exit{P:Program}{Q:Exit→ASt→Prop}{s:ASt}{id:Nat}(h:Q (.exit id) s):dK P (.exit id) Q s:=fun _ κ _ _ hs=>wp_exit ⟨s,κ,h,hs⟩
def eG(ops:Array Oper)(tmps:List AV)(o:Oper):Option Bool:=
 match o.guard with
 |none=>some true
 |some (j,want)=>match(ops[j]?).bind (·.dst)with
  |none=>none
  |some d=>match tmps.getD d .unk with
   | .bool b=>some (b==want)
   | .tup []=>some false
   |_=>none
theorem nG{C:Ctx}{κ:aS}{s:ASt}{a:Act}{w:World}(hs:Sim C κ s a w){ops:Array Oper}{o:Oper}{b:Bool}(h:eG ops s.tmps o=some b):Region.wanted o (yielded ops a.tmps)=b:=by
 unfold eG at h;unfold Region.wanted;cases hg:o.guard with
 |none=>rw[hg]at h;simpa using h
 |some p=>
  obtain⟨j,want⟩:=p;rw[hg]at h;simp only at h⊢;unfold yielded;cases hd:(ops[j]?).bind (·.dst)with
  |none=>rw[hd]at h;cases h
  |some d=>
   rw[hd]at h;simp only at h;have hr:=hs.ev (.tmp d);simp only[bL,Act.eval]at hr;split at h
   ·rename_i x hx;rw[hx]at hr;have e:=hr.Ra;have hlt:d<a.tmps.size:=by
     apply qAn;intro hn;rw[qAq,Array.getElem?_eq_none (qBd hn)]at e;cases e
    simp_all
   ·rename_i hx;rw[hx]at hr;obtain⟨vs,e,h1,_⟩:=hr.alB;have:vs=[]:=qAD.1 h1;by_cases hlt:d<a.tmps.size
    ·simp_all
    grind
   ·cases h
def aDR(P:Program)(ops:Array Oper)(o:Oper)(s s':ASt):Prop:=
 (eG ops s.tmps o=some true∧zD P o s s')∨(eG ops s.tmps o=some false∧s'=s.wr (aA o.dst (.tup [])))
inductive ASteps(P:Program)(ops:Array Oper):List Oper→ASt→ASt→Prop where
 |nil (s:ASt):ASteps P ops [] s s
 |cons {o:Oper} {l:List Oper} {s s1 s2:ASt}:aDR P ops o s s1→ASteps P ops l s1 s2→ASteps P ops (o::l) s s2
theorem aji{P:Program}{ops:Array Oper}{Q:Exit→Act→World→Prop}{l:List Oper}{s s':ASt}(h:ASteps P ops l s s'):∀(C:Ctx) (κ:aS) (a:Act) (w:World),Sim C κ s a w→(∀κ' a' w',Sim C κ' s' a' w'→Q .normal a' w')→wpList P ops Q l a w:=by
 induction h with
 |nil s=>intro C κ a w hs hq;exact hq κ a w hs
 |cons h1 _ ih=>
  intro C κ a w hs hq;simp only[wpList];rcases h1 with⟨hw,ht⟩|⟨hw,rfl⟩
  ·rw[nG hs hw];exact .inl (ht C κ a w hs _ _ fun κ' a' w' hs'=>ih C κ' a' w' hs' hq)
  ·rw[nG hs hw];exact ih C κ _ w (hs.aA _ lK) hq
theorem Sim.reserve{C:Ctx}{κ:aS}{s:ASt}{a:Act}{w:World}(h:Sim C κ s a w)(n:Nat):Sim C (κ++List.replicate n none) {s with heap:=s.heap++List.replicate n .res} a w:=by
 have hat:∀l,at? (κ++List.replicate n none) l=at? κ l:=fun l=>by
  unfold at?
  grind
 have hob:∀l,l<s.heap.length→obj? (s.heap++List.replicate n .res) l=obj? s.heap l:=fun l hl=>by
  unfold obj?;rw[qAg hl]
 have hlt:∀l b,at? κ l=some b→l<s.heap.length:=fun l b hb=>by rw[←h.klen];exact lt_of_at? hb
 refine h.step (κ':=κ++List.replicate n none) (H':=s.heap++List.replicate n .res) (Evo.refl _ _) (fun l b hb=>by rw[hat];exact hb) (by simp[h.klen]) ?_ ?_ ?_ ?_ ?_ (fun _ _=>rfl) rfl rfl rfl
 ·rintro b o (hb|⟨l,h1,h2⟩) _
  ·exact .inl hb
  ·rw[hat]at h1;rw[hob l (hlt l b h1)]at h2;exact .inr ⟨l,h1,h2⟩
 ·grind
 ·intro l l' b h1 h2 h3 h4;rw[hat]at h1 h2;rw[hob l (hlt l b h1)]at h3;rw[hob l' (hlt l' b h2)]at h4;exact h.apart l l' b h1 h2 h3 h4
 ·intro l b h1;rw[hat]at h1;exact h.bound l b h1
 ·intro l h1;rw[hat];by_cases hl:l<s.heap.length
  ·rw[hob l hl]at h1;exact h.resv l h1
  ·exact at?_none_of_le (by rw[h.klen];exact qBd hl)
def ASt.reserve(s:ASt)(n:Nat):ASt:={s with heap:=s.heap++List.replicate n .res}
theorem dK.region{P:Program}{id:Nat}{l:List Oper}{Q:Exit→ASt→Prop}{s s':ASt}(n:Nat)(h:ASteps P l.toArray l (s.reserve n) s')(hq:Q .normal s'):dK P (.region id l.toArray false) Q s:=by
 intro C κ a w hs;exact wp_region_lit (aji h C _ a w (hs.reserve n) fun κ' a' w' hs'=>⟨s',κ',hq,hs'⟩)
end
section
open Go
theorem wm{α β:Type}{f g:α→β}:∀(l:List α),(∀x∈l,f x=g x)→l.map f=l.map g
 |[],_=>rfl
 |x::l,h=>by simp only[qAy];rw[h x (by simp),wm l (fun y hy=>h y (by simp[hy]))]
theorem acX{ρ ρ':Operand→AV}(o:Option Operand)(h:∀x,o=some x→ρ' x=ρ x):o.map ρ'=o.map ρ:=by
 cases o with
 |none=>rfl
 |some x=>simp;rw[h x rfl]
theorem apV{P:Program}{op:Op}{ρ ρ':Operand→AV}(h:∀x∈op.operands,ρ' x=ρ x):aC P op ρ'=aC P op ρ:=by
 cases op with
 |move x=>simp only[aC];rw[h x (by simp[Op.operands])]
 |assign x=>simp only[aC];rw[h x (by simp[Op.operands])]
 |pick c x y=>simp only[aC];rw[h c (by simp[Op.operands]),h x (by simp[Op.operands]),h y (by simp[Op.operands])]
 |nilCheck x=>simp only[aC];rw[h x (by simp[Op.operands])]
 |binOp op t x y t2=>simp only[aC];rw[h x (by simp[Op.operands]),h y (by simp[Op.operands])]
 |unOp op t x=>simp only[aC];rw[h x (by simp[Op.operands])]
 |fieldAddr s x f=>simp only[aC];rw[h x (by simp[Op.operands])]
 |field s x f=>simp only[aC];rw[h x (by simp[Op.operands])]
 |indexAddr t x i=>simp only[aC];rw[h x (by simp[Op.operands]),h i (by simp[Op.operands])]
 |index t x i=>simp only[aC];rw[h x (by simp[Op.operands]),h i (by simp[Op.operands])]
 |extract x i=>simp only[aC];rw[h x (by simp[Op.operands])]
 |slice t x lo hi mx=>
  cases mx with
  |some m=>rfl
  |none=>
   simp only[aC];rw[h x (by simp[Op.operands]),acX lo (fun y hy=>h y (by subst hy;simp[Op.operands])),acX hi (fun y hy=>h y (by subst hy;simp[Op.operands]))]
 |build t parts=>
  simp only[aC];rw[wm (f:=fun p=>(p.1,ρ' p.2)) (g:=fun p=>(p.1,ρ p.2)) parts.toList (fun p hp=>by
   rw[h p.2 (by simp only[Op.operands];exact List.mem_toArray.2 (qAJ.2 ⟨p,hp,rfl⟩))])]
 |makeFunc fn first captured=>
  cases fn with
  |func f=>
   simp only[aC];rw[wm (f:=ρ') (g:=ρ) captured.toList (fun x hx=>h x (by simp only[Op.operands];exact qBA.2 (.inr (qBr.1 hx))))]
  |_=>rfl
 |load t x=>simp only[aC];rw[h x (by simp[Op.operands])]
 |convert s t x=>simp only[aC];rw[h x (by simp[Op.operands])]
 |call c=>
  obtain⟨callee,args,argTypes⟩:=c;cases callee with
  |builtin b=>
   cases b<;>try rfl
   case len=>
    simp only[aC];split
    ·rename_i x t ha ht;rw[h x (by simp only[Op.operands,Call.operands];exact qBA.2 (.inr (qBr.1 (by rw[ha];simp))))]
    ·rfl
   case max=>
    simp only[aC];split
    ·rename_i x y ha;rw[h x (by simp only[Op.operands,Call.operands];exact qBA.2 (.inr (qBr.1 (by rw[ha];simp)))),
      h y (by simp only[Op.operands,Call.operands];exact qBA.2 (.inr (qBr.1 (by rw[ha];simp))))]
    ·rfl
   case min=>
    simp only[aC];split
    ·rename_i x y ha;rw[h x (by simp only[Op.operands,Call.operands];exact qBA.2 (.inr (qBr.1 (by rw[ha];simp)))),
      h y (by simp only[Op.operands,Call.operands];exact qBA.2 (.inr (qBr.1 (by rw[ha];simp))))]
    ·rfl
  |_=>rfl
 |_=>rfl
theorem abh{P:Program}{k:Nat}{o:Oper}{ρ ρ':Operand→AV}{σ σ':Nat→AObj}{rd:List Nat}{ws:List Wr}(h:aP P k o ρ σ=some (rd,ws))(hρ:∀x∈o.op.operands,ρ' x=ρ x)(hσ:∀l∈rd,σ' l=σ l):
  aP P k o ρ' σ'=some (rd,ws):=by
 obtain⟨dst,op,ty,pos,after,guard⟩:=o;unfold aP at h⊢;rw[apV hρ];cases hp:aC P op ρ with
 |some v=>simp only[hp]at h⊢;exact h
 |none=>
  simp only[hp]at h⊢;simp only at hρ;cases op<;>(try simp only[reduceCtorEq]at h⊢)
  case load t x=>
   rw[hρ x (by simp[Op.operands])];split at h
   ·rename_i l off hx;split at h
    ·rename_i cs hl;have hrd:rd=[l]:=by
      cases hv:kC P t (cs.drop off)with
      |none=>rw[hv]at h;cases h
      |some v=>rw[hv]at h;simp at h;exact h.1.symm
     rw[hσ l (by rw[hrd];simp),hl];exact h
    ·rename_i z es hl;split at h
     ·rename_i hc;have hrd:rd=[l]:=by
       cases hv:kC P t (es.getD (off/z) [])with
       |none=>rw[hv]at h;cases h
       |some v=>rw[hv]at h;simp at h;exact h.1.symm
      rw[hσ l (by rw[hrd];simp),hl];simp only;rw[if_pos hc];exact h
     ·cases h
    ·cases h
   ·cases h
  case store t x y=>
   rw[hρ x (by simp[Op.operands]),hρ y (by simp[Op.operands])];split at h
   ·rename_i l off vs hx hy;split at h
    ·rename_i cs hl;split at h
     ·rename_i hc;have hrd:rd=[l]:=by simp at h;exact h.1.symm
      rw[hσ l (by rw[hrd];simp),hl];simp only;rw[if_pos hc];exact h
     ·cases h
    ·rename_i z es hl;split at h
     ·rename_i hc;have hrd:rd=[l]:=by simp at h;exact h.1.symm
      rw[hσ l (by rw[hrd];simp),hl];simp only;rw[if_pos hc];exact h
     ·rename_i hn;split at h
      ·rename_i hc;have hrd:rd=[l]:=by simp at h;exact h.1.symm
       rw[hσ l (by rw[hrd];simp),hl];simp only;rw[if_neg hn,if_pos hc];exact h
      ·cases h
    ·cases h
   ·cases h
  case alloc t=>
   split at h
   ·rename_i hk;have hrd:rd=[k]:=by
     cases hz:lI P t with
     |none=>rw[hz]at h;cases h
     |some z=>rw[hz]at h;simp at h;exact h.1.symm
    rw[hσ k (by rw[hrd];simp),if_pos hk];exact h
   ·cases h
  case box t x=>
   rw[hρ x (by simp[Op.operands])];split at h
   ·rename_i hk;have hrd:rd=[k]:=by
     cases hz:eO (ρ x)with
     |none=>rw[hz]at h;cases h
     |some z=>rw[hz]at h;simp at h;exact h.1.symm
    rw[hσ k (by rw[hrd];simp),if_pos hk];exact h
   ·cases h
  case makeMap t r=>
   cases r with
   |none=>
    simp only at h⊢;split at h
    ·rename_i hk;have hrd:rd=[k]:=by simp at h;exact h.1.symm
     rw[hσ k (by rw[hrd];simp),if_pos hk];exact h
    ·cases h
   |some x=>cases h
  case makeSlice t x y=>
   rw[hρ x (by simp[Op.operands]),hρ y (by simp[Op.operands])];split at h
   ·rename_i e sz by_ kl l kc c he hx hy;split at h
    ·rename_i z hz;split at h
     ·rename_i hc;have hrd:rd=[k]:=by simp at h;exact h.1.symm
      rw[hσ k (by rw[hrd];simp)];rw[if_pos hc];exact h
     ·cases h
    ·cases h
   ·cases h
  case buildSlice t len parts=>
   have he:(parts.toList.map fun p=>(p.1,ρ' p.2))=parts.toList.map fun p=>(p.1,ρ p.2):=wm _ (fun p hp=>by
    rw[hρ p.2 (by simp only[Op.operands];exact List.mem_toArray.2 (qAJ.2 ⟨p,hp,rfl⟩))])
   rw[he];split at h
   ·rename_i e sz by_ hel;split at h
    ·rename_i z hz;split at h
     ·rename_i hc;have hrd:rd=[k]:=by
       cases hf:lH (fun i=>some (i*sz,sz)) ((List.replicate len z).flatten) (parts.toList.map fun p=>(p.1,ρ p.2))with
       |none=>rw[hf]at h;cases h
       |some cs=>rw[hf]at h;simp at h;exact h.1.symm
      rw[hσ k (by rw[hrd];simp),if_pos hc];exact h
     ·cases h
    ·cases h
   ·cases h
  case call c=>
   obtain⟨callee,args,argTypes⟩:=c;cases callee with
   |builtin b=>
    cases b<;>(try simp only[reduceCtorEq]at h⊢);split at h
    ·rename_i x y t t2 ha ht;have hx:=hρ x (by simp only[Op.operands,Call.operands];exact qBA.2 (.inr (qBr.1 (by rw[ha];simp))));have hy:=hρ y (by simp only[Op.operands,Call.operands];exact qBA.2 (.inr (qBr.1 (by rw[ha];simp))));rw[hx,hy];split at h
     ·rename_i e sz by_ es ys tag hel h2 hxx hyy
      try simp only[hel,h2,hxx,hyy]
      split at h
      ·rename_i hc;have hrd:rd=[k]:=by simp at h;exact h.1.symm
       rw[hσ k (by rw[hrd];simp),if_pos hc];exact h
      ·cases h
     ·rename_i e sz by_ es l z ys tag hel h2 hxx hyy
      try simp only[hel,h2,hxx,hyy]
      split at h
      ·rename_i n hl;split at h
       ·rename_i hc;have hrd:rd=[l,k]:=by simp at h;exact h.1.symm
        rw[hσ k (by rw[hrd];simp),hσ l (by rw[hrd];simp),hl];simp only;rw[if_pos hc];exact h
       ·cases h
      ·cases h
     ·rename_i e sz by_ l z n ys tag hel h2 hxx hyy
      try simp only[hel,h2,hxx,hyy]
      split at h
      ·rename_i z' es hl;split at h
       ·rename_i hc;have hrd:rd=[l,k]:=by simp at h;exact h.1.symm
        rw[hσ k (by rw[hrd];simp),hσ l (by rw[hrd];simp),hl];simp only;rw[if_pos hc];exact h
       ·cases h
      ·cases h
     ·cases h
    ·cases h
   |_=>cases h
  case lookup t m key ok=>
   rw[hρ m (by simp[Op.operands]),hρ key (by simp[Op.operands])];split at h
   ·rename_i e l k' ht hm hk
    try simp only[ht,hm,hk]
    split at h
    ·rename_i es z hl hz;have hrd:rd=[l]:=by simp at h;exact h.1.symm
     rw[hσ l (by rw[hrd];simp),hl,hz];exact h
    ·cases h
   ·cases h
  case mapUpdate t m key x=>
   rw[hρ m (by simp[Op.operands]),hρ key (by simp[Op.operands]),hρ x (by simp[Op.operands])];split at h
   ·rename_i e l k' ht hm hk
    try simp only[ht,hm,hk]
    split at h
    ·rename_i es hl;split at h
     ·rename_i hc;have hrd:rd=[l]:=by simp at h;exact h.1.symm
      rw[hσ l (by rw[hrd];simp),hl];simp only;rw[if_pos hc];exact h
     ·cases h
    ·cases h
   ·cases h
end
section
open Go
structure Eff where
 rs:List Nat
 ro:List Nat
 ws:List Wr
def jA(ws:List Wr):List Nat:=ws.filterMap fun| .slot n _=>some n|_=>none
def jS(ws:List Wr):List Nat:=ws.filterMap fun| .obj n _=>some n|_=>none
def oM:List Wr→Nat→Option AV
 |[],_=>none
 | .slot m v::ws,n=>(oM ws n).or (if m=n then some v else none)
 | .obj _ _::ws,n=>oM ws n
def oU:List Wr→Nat→Option AObj
 |[],_=>none
 | .obj m v::ws,n=>(oU ws n).or (if m=n then some v else none)
 | .slot _ _::ws,n=>oU ws n
theorem dA(ws:List Wr):∀s:ASt,(s.wr ws).tmps.length=s.tmps.length∧(s.wr ws).heap.length=s.heap.length:=by
 induction ws with
 |nil=>intro s;exact⟨rfl,rfl⟩
 |cons w ws ih=>
  intro s;have:=ih (s.wr1 w);refine⟨this.1.trans ?_,this.2.trans ?_⟩<;>cases w<;>simp[ASt.wr1,ASt.setSlot,ASt.setObj]
theorem vW(ws:List Wr)(n:Nat):∀s:ASt,n<s.tmps.length→(s.wr ws).tmps.getD n .unk=(oM ws n).getD (s.tmps.getD n .unk):=by
 induction ws with
 |nil=>intro s _;rfl
 |cons w ws ih=>
  intro s hn;have h1:=ih (s.wr1 w) (by cases w<;>simpa[ASt.wr1,ASt.setSlot,ASt.setObj]using hn);refine h1.trans ?_;cases w with
  |slot m v=>
   simp only[oM];cases oM ws n with
   |some x=>rfl
   |none=>
    by_cases e:m=n
    ·subst e;rw[if_pos rfl];exact lW hn
    ·rw[if_neg e];exact qy e
  |obj m v=>rfl
theorem tq(ws:List Wr)(n:Nat):∀s:ASt,n<s.heap.length→obj? (s.wr ws).heap n=(oU ws n).getD (obj? s.heap n):=by
 induction ws with
 |nil=>intro s _;rfl
 |cons w ws ih=>
  intro s hn;have h1:=ih (s.wr1 w) (by cases w<;>simpa[ASt.wr1,ASt.setSlot,ASt.setObj]using hn);refine h1.trans ?_;cases w with
  |obj m v=>
   simp only[oU];cases oU ws n with
   |some x=>rfl
   |none=>
    by_cases e:m=n
    ·subst e;rw[if_pos rfl];exact obj?_set_same hn
    ·rw[if_neg e];exact obj?_set_other e
  |slot m v=>rfl
theorem JQ(a b:List Wr)(n:Nat):oM (a++b) n=(oM b n).or (oM a n):=by
 induction a with
 |nil=>simp[oM]
 |cons w a ih=>cases w<;>simp[oM,ih,Option.or_assoc]
theorem Jw(a b:List Wr)(n:Nat):oU (a++b) n=(oU b n).or (oU a n):=by
 induction a with
 |nil=>simp[oU]
 |cons w a ih=>cases w<;>simp[oU,ih,Option.or_assoc]
theorem XZ{ws:List Wr}{n:Nat}(h:n∉jA ws):oM ws n=none:=by
 induction ws with
 |nil=>rfl
 |cons w ws ih=>
  cases w with
  |slot m v=>
   simp only[jA,qBG,qAh,not_or]at h;simp only[oM,ih h.2,qCt,if_neg (qBo h.1)]
  |obj m v=>simp only[jA]at h;exact ih h
theorem Y3{ws:List Wr}{n:Nat}(h:n∉jS ws):oU ws n=none:=by
 induction ws with
 |nil=>rfl
 |cons w ws ih=>
  cases w with
  |obj m v=>
   simp only[jS,qBG,qAh,not_or]at h;simp only[oU,ih h.2,qCt,if_neg (qBo h.1)]
  |slot m v=>simp only[jS]at h;exact ih h
theorem ASt.ext'{s t:ASt}(h1:s.tmps.length=t.tmps.length)(h2:s.heap.length=t.heap.length)(h3:∀n,n<s.tmps.length→s.tmps.getD n .unk=t.tmps.getD n .unk)(h4:∀n,n<s.heap.length→obj? s.heap n=obj? t.heap n):s=t:=by
 obtain⟨a,b⟩:=s;congr 1
 ·apply qBO h1
  grind
 ·apply qBO h2;intro n g1 g2;have:=h4 n g1;simpa[obj?,g1,g2]using this
def bP(D:Nat→Bool):Nat→List Eff→List Wr
 |_,[]=>[]
 |k,e::es=>(if D k then e.ws else[])++bP D (k+1) es
theorem Lr{D D':Nat→Bool}{n:Nat}:∀(es:List Eff) (k:Nat),(∀i e,es[i]? =some e→n∈jA e.ws→D (k+i)=D' (k+i))→oM (bP D k es) n=oM (bP D' k es) n:=by
 intro es
 induction es with
 |nil=>intro k _;rfl
 |cons e es ih=>
  intro k h;simp only[bP,JQ];rw[ih (k+1) (fun i f hf hn=>by have:=h (i+1) f (by simpa using hf) hn;rwa[show k+(i+1)=k+1+i from by omega]at this)];by_cases hn:n∈jA e.ws
  ·have:=h 0 e (by simp) hn;rw[qAS]at this;rw[this]
  ·have:=XZ hn;cases D k<;>cases D' k<;>simp[this,oM]
theorem Ic{D D':Nat→Bool}{n:Nat}:∀(es:List Eff) (k:Nat),(∀i e,es[i]? =some e→n∈jS e.ws→D (k+i)=D' (k+i))→oU (bP D k es) n=oU (bP D' k es) n:=by
 intro es
 induction es with
 |nil=>intro k _;rfl
 |cons e es ih=>
  intro k h;simp only[bP,Jw];rw[ih (k+1) (fun i f hf hn=>by have:=h (i+1) f (by simpa using hf) hn;rwa[show k+(i+1)=k+1+i from by omega]at this)];by_cases hn:n∈jS e.ws
  ·have:=h 0 e (by simp) hn;rw[qAS]at this;rw[this]
  ·have:=Y3 hn;cases D k<;>cases D' k<;>simp[this,oU]
theorem Yv{ws:List Wr}{n:Nat}(h:n∈jA ws):∃v,oM ws n=some v:=by
 induction ws with
 |nil=>cases h
 |cons w ws ih=>
  cases w with
  |slot m v=>
   simp only[jA,qBG,qAh]at h;simp only[oM];cases hl:oM ws n with
   |some x=>exact⟨x,rfl⟩
   |none=>
    rcases h with h|h
    ·simp_all
    ·obtain⟨x,hx⟩:=ih h;rw[hl]at hx;cases hx
  |obj m v=>simp only[jA]at h;exact ih h
theorem aqK{D:Nat→Bool}{n:Nat}:∀(es:List Eff) (k i:Nat) (e:Eff),es[i]? =some e→D (k+i)=true→n∈jA e.ws→(∀j f,es[j]? =some f→i<j→D (k+j)=true→n∉jA f.ws)→oM (bP D k es) n=oM e.ws n:=by
 intro es
 induction es with
 |nil=>intro k i e h;simp at h
 |cons f es ih=>
  intro k i e hi hD hw hother;simp only[bP,JQ];cases i with
  |zero=>
   simp at hi;subst hi;rw[qAS]at hD;have hrest:oM (bP D (k+1) es) n=oM (bP (fun _=>false) (k+1) es) n:=Lr es (k+1) (fun i g hg hn=>by
    cases hDg:D (k+1+i)with
    |false=>rfl
    |true=>exact(hother (i+1) g (by simpa using hg) (by omega) (by rw[show k+(i+1)=k+1+i from by omega];exact hDg) hn).elim)
   have hz:∀(es:List Eff) (k:Nat),bP (fun _=>false) k es=[]:=fun es=>by
    induction es with
    |nil=>intro k;rfl
    |cons e es ih=>intro k;simp[bP,ih]
   rw[hrest,hz,hD];simp[oM]
  |succ i=>
   have:=ih (k+1) i e (by simpa using hi) (by rw[show k+1+i=k+(i+1)from by omega];exact hD) hw (fun j g hg hlt hDg=>hother (j+1) g (by simpa using hg) (by omega) (by rw[show k+(j+1)=k+1+j from by omega];exact hDg));rw[this];obtain⟨v,hv⟩:=Yv hw;rw[hv];rfl
theorem YJ{ws:List Wr}{n:Nat}(h:n∈jS ws):∃v,oU ws n=some v:=by
 induction ws with
 |nil=>cases h
 |cons w ws ih=>
  cases w with
  |obj m v=>
   simp only[jS,qBG,qAh]at h;simp only[oU];cases hl:oU ws n with
   |some x=>exact⟨x,rfl⟩
   |none=>
    rcases h with h|h
    ·simp_all
    ·obtain⟨x,hx⟩:=ih h;rw[hl]at hx;cases hx
  |slot m v=>simp only[jS]at h;exact ih h
theorem asZ{D:Nat→Bool}{n:Nat}:∀(es:List Eff) (k i:Nat) (e:Eff),es[i]? =some e→D (k+i)=true→n∈jS e.ws→(∀j f,es[j]? =some f→i<j→D (k+j)=true→n∉jS f.ws)→oU (bP D k es) n=oU e.ws n:=by
 intro es
 induction es with
 |nil=>intro k i e h;simp at h
 |cons f es ih=>
  intro k i e hi hD hw hother;simp only[bP,Jw];cases i with
  |zero=>
   simp at hi;subst hi;rw[qAS]at hD;have hrest:oU (bP D (k+1) es) n=oU (bP (fun _=>false) (k+1) es) n:=Ic es (k+1) (fun i g hg hn=>by
    cases hDg:D (k+1+i)with
    |false=>rfl
    |true=>exact(hother (i+1) g (by simpa using hg) (by omega) (by rw[show k+(i+1)=k+1+i from by omega];exact hDg) hn).elim)
   have hz:∀(es:List Eff) (k:Nat),bP (fun _=>false) k es=[]:=fun es=>by
    induction es with
    |nil=>intro k;rfl
    |cons e es ih=>intro k;simp[bP,ih]
   rw[hrest,hz,hD];simp[oU]
  |succ i=>
   have:=ih (k+1) i e (by simpa using hi) (by rw[show k+1+i=k+(i+1)from by omega];exact hD) hw (fun j g hg hlt hDg=>hother (j+1) g (by simpa using hg) (by omega) (by rw[show k+(j+1)=k+1+j from by omega];exact hDg));rw[this];obtain⟨v,hv⟩:=YJ hw;rw[hv];rfl
end
end Abs
end Go.Proofs.YthgdaonechbgmaaGreat
