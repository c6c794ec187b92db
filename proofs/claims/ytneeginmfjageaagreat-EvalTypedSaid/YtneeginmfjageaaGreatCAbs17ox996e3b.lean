/-
  Maps with string keys, as 'heapOp' says, and all operations on private memory together ('heap_sound'). Conditions: none; lemmas over any program and world.
-/
import Derived.Deep.LoopGhost
import Derived.Test.YtneeginmfjageaaGreatCAbs12ox7f7cd8
set_option linter.all false
namespace Go.Proofs.YtneeginmfjageaaGreat
namespace Abs
section
open Go
theorem Rel.sN{w κ pv x v}(h:Rel w κ pv x v):Rel w κ pv (sN x) v:=by
 unfold Abs.sN;split;·rename_i s;obtain⟨d,e,b,c⟩:=h.auI;rw[e];refine .agg (by simpa using b) λj a=>?_;rw[qAg]at a;rw[abg];exact(c j a).shr
 exact h.shr
theorem Zy(s t:List UInt8):((⟨s.toArray⟩:ByteArray)==⟨t.toArray⟩)=(s==t):=by show((ByteArray.mk s.toArray).data==(ByteArray.mk t.toArray).data)=(s==t);simp
section
variable {P:Program}{w:World}{κ:aM}{pv:bJ}
theorem findNow_spec s:∀l es i,l.length=es.length->
  (∀j,j<es.length->(l.getD j default).key=.string ⟨((es.getD j ([],.unk)).1).toArray⟩/\Rel w κ pv (es.getD j ([],.unk)).2 (l.getD j default).val)->
  match rE es s with
   |some v=>∃n x,Instr.findNow .string (.string ⟨s.toArray⟩) l i=some (some (i+n,x))/\Rel w κ pv v x/\n<l.length/\(l.getD n default).key=.string ⟨s.toArray⟩/\∀y,G5 es s y=es.set n (s,y)|none=>Instr.findNow .string (.string ⟨s.toArray⟩) l i=some none/\∀y,G5 es s y=es++[(s,y)]:=by
 intro l
 induction l with
 |nil=>
  intro es i c _;cases es with
  |nil=>exact⟨rfl,λy=>rfl⟩|cons=>simp at c
 |cons m l q=>
  intro es i c h;cases es with
  |nil=>simp at c|cons p es=>
   obtain⟨k,v⟩:=p;have g:=h 0 (by simp);simp only[List.getD,qAF,qAv]at g;obtain⟨a,d⟩:=g;by_cases b:k=s
   ·subst b;have e:rE ((k,v)::es) k=some v:=by simp[rE]
    rw[e];refine⟨0,m.val,?_,d,by simp,by simpa using a,λy=>by simp[G5]⟩;have f:((⟨k.toArray⟩:ByteArray)==⟨k.toArray⟩)=true:=by rw[Zy];simp
    simp only[Instr.findNow,a,Instr.sameNow,f,qAP]
   have e:rE ((k,v)::es) s=rE es s:=by simp[rE,qCj,b]
   have f:((⟨s.toArray⟩:ByteArray)==⟨k.toArray⟩)=false:=by rw[Zy];simpa using λe=>b e.symm
   have r:Instr.findNow .string (.string ⟨s.toArray⟩) (m::l) i=Instr.findNow .string (.string ⟨s.toArray⟩) l (i+1):=by simp only[Instr.findNow,a,Instr.sameNow,f]
   have:=q es (i+1) (by simpa using c) (λj t=>by have:=h (j+1) (by simpa using t);simpa[List.getD]using this);rw[e,r];cases o:rE es s with
   |none=>rw[o]at this;refine⟨this.1,λy=>?_⟩;simp[G5,b,this.2 y]
   |some D=>rw[o]at this;obtain⟨n,x,u,z,A,B,C⟩:=this;refine⟨n+1,x,by rw[u];simp;omega,z,by simpa using A,by simpa[List.getD]using B,λy=>?_⟩;simp[G5,b,C y]
theorem aag{t e:Nat}(h:sG P t=some e):∃k,P.underlying t=some (.map k e)/\P.underlying k=some .string:=by
 unfold sG at h
 grind
theorem run_checkKey{k:Nat}{b s}(a:P.underlying k=some .string):(Instr.checkKey b 10000 k (.string s)).run P w=.ok () w:=by
 have h:∀n,(Instr.checkKey b (n+1) k (.string s)).run P w=.ok () w:=λn=>by simp[Instr.checkKey,run_underlying a]
 exact h 9999
theorem awf v:Rel w κ pv (aq9 v) v:=by
 unfold aq9;split
 ·rename_i c;have e:c=c.toList.toArray:=by simp
  refine .agg (by simp) λj h=>?_;have:(List.map ofConst c.toList.toArray.toList).getD j .unk=ofConst (c.toList.getD j undef):=by grind
  rw[this];exact wz _
 exact wz _
theorem ar1{t:Nat}{z}(h:KQ P t=some z):∃v:Value,(∀w:World,(zeroValue t).run P w=.ok v w)/\∀w κ pv,Rel w κ pv z v:=by
 unfold KQ at h;cases a:P.info? t with|none=>rw[a]at h;cases h|some i=>
  rw[a]at h;simp only[qAa]at h;cases b:i.zero with|none=>rw[b]at h;cases h|some v=>rw[b]at h;simp at h;subst h;exact⟨v,λw=>by simp[zeroValue,typeInfo,a,b],λw κ pv=>awf v⟩
end
theorem Sim.map{C κ s a w}(h:Sim C κ s a w){l b es}(d:at? κ l=some b)(o:obj? s.heap l=.mp es):
  ∃m c,w.heap[b]? =some (Obj.map m c)/\m.size=es.length/\avl m c (es.map (·.1))/\
   ∀j,j<es.length->(m.toList.getD j default).key=.string ⟨((es.getD j ([],.unk)).1).toArray⟩/\Rel w κ (aD C.ak κ s.heap) (es.getD j ([],.unk)).2 (m.toList.getD j default).val:=by
 have r:=h.obj l b d (by rw[o];trivial);rw[o]at r;obtain⟨m,e,f,g,i,k⟩:=r;refine⟨m,e,f,g,i,λj n=>?_⟩
 simp_all
theorem avw{P}{C}{κ}{s}{a}{w}(h:Sim C κ s a w){t e l b:Nat}{es}{k}{z}{ok}(D:sG P t=some e)(E:at? κ l=some b)(F:obj? s.heap l=.mp es)
  (G:KQ P e=some z):∃u,(Instr.lookup t (.map (some b)) (.string ⟨k.toArray⟩) ok).run P w=.ok u w/\Rel w κ (aD C.ak κ s.heap) (Cj (rE es k) ok z) u:=by
 obtain⟨o,H,I,J,N,K⟩:=h.map E F;obtain⟨O,i,c⟩:=aag D;obtain⟨q,r,y⟩:=ar1 G;have m:(getObj b).run P w=.ok (.map o H) w:=by simp[getObj,Sem.run,I]
 have f:=findNow_spec (w:=w) (κ:=κ) (pv:=aD C.ak κ s.heap) k o.toList es 0 (by simpa using J) K;have p:∀v x d,Rel w κ (aD C.ak κ s.heap) v x->Rel w κ (aD C.ak κ s.heap) (.tup [v,.bool d]) (.tuple #[x,.bool d]):=λv x d L=>by
  have:=Rel.tup (w:=w) (κ:=κ) (pv:=aD C.ak κ s.heap) (cs:=[v,.bool d]) (vs:=[x,.bool d]) rfl (λj M=>by
   match j,M with|0,_=>simpa[List.getD]using L|1,_=>simpa[List.getD]using Rel.bool d)
  grind
 cases g:rE es k with
 |none=>
  rw[g]at f;cases ok;·exact⟨q,by simp[Instr.lookup,run_underlying i,m,run_checkKey c,Instr.findKey,run_underlying c,f.1,r],y _ _ _⟩
  exact⟨.tuple #[q,.bool false],by simp[Instr.lookup,run_underlying i,m,run_checkKey c,Instr.findKey,run_underlying c,f.1,r],p _ _ _ (y _ _ _)⟩
 |some v=>
  rw[g]at f;obtain⟨n,x,A,B,_⟩:=f;cases ok;·exact⟨x,by simp[Instr.lookup,run_underlying i,m,run_checkKey c,Instr.findKey,run_underlying c,A],B⟩
  exact⟨.tuple #[x,.bool true],by simp[Instr.lookup,run_underlying i,m,run_checkKey c,Instr.findKey,run_underlying c,A],p _ _ _ B⟩
theorem Sim.azt{C}{κ}{s}{a}{w}(h:Sim C κ s a w){l b}{es f}{M m:Array MapEntry}{N i:Nat}(r:at? κ l=some b)(t:obj? s.heap l=.mp es)(O:w.heap[b]? =some (Obj.map M N))
  (h2:m.size=f.length) (P:avl m i (f.map (·.1)))
  (G:∀j,j<f.length->(m.getD j default).key=.string ⟨((f.getD j ([],.unk)).1).toArray⟩/\Rel w κ (aD C.ak κ s.heap) (f.getD j ([],.unk)).2 (m.getD j default).val):
  Sim C κ (s.setObj l (.mp f)) a {w with heap:=w.heap.setIfInBounds b (.map m i)}:=by
 have u:l<s.heap.length:=by rw[<-h.klen];exact lt_of_at? r
 have A:=h.bound l b r;have B:∀x:Nat,x≠b->(w.heap.setIfInBounds b (Obj.map m i))[x]? =w.heap[x]?:=λx D=>qCQ (qBr D);have v:Evo (aD C.ak κ s.heap) w {w with heap:=w.heap.setIfInBounds b (.map m i)}:=by
  refine⟨by simp,λx o y _ H=>?_,λx c e z D=>?_⟩
  ·have Q:x≠b:=λe=>by subst e;simp[World.cell?,O]at H
   simp only[World.cell?]at H|-
   grind
  grind
 have I:∀x o,aD C.ak κ (s.heap.set l (.mp f)) x o->x<w.heap.size->aD C.ak κ s.heap x o:=by
  rintro x o (D|⟨k,d,g⟩) _;·exact .inl D
  by_cases e:l=k;·subst e;exact .inr ⟨l,d,by rw[t];trivial⟩
  rw[obj?_set_other e]at g;exact .inr ⟨k,d,g⟩
 refine h.step (H':=s.heap.set l (.mp f)) v (dw.refl _) (by simp[h.klen]) I ?_ ?_ ?_ ?_ ?_ rfl rfl rfl
 ·intro k n d g;by_cases e:l=k
  ·subst e;rw[r]at d;cases d;refine .inr ⟨by simpa using A,h.own l b r (by rw[t];trivial),?_⟩;rw[obj?_set_same u];exact⟨m,i,by simp[A],h2,P,λj J=>⟨(G j J).1,(G j J).2.mono v (dw.refl _) I⟩⟩
  rw[obj?_set_other e]at g|-;refine .inl ⟨d,rfl,B n λeb=>?_⟩;subst eb;exact e (h.apart l k n r d (by rw[t];trivial) g)
 ·intro K L n d g E F;refine h.apart K L n d g ?_ ?_
  ·by_cases e:l=K
   ·subst e;rw[t];trivial
   rwa[obj?_set_other e]at E
  by_cases e:l=L;·subst e;rw[t];trivial
  rwa[obj?_set_other e]at F
 ·intro k n q;simpa using h.bound k n q
 ·intro k p;by_cases e:l=k
  ·subst e;rw[obj?_set_same u]at p;cases p
  rw[obj?_set_other e]at p;exact h.resv k p
 intro n q;refine B n λeb=>?_;subst eb;exact h.own l n r (by rw[t];trivial) q
theorem anB{P}{C}{κ}{s}{a}{w}(h:Sim C κ s a w){t e l b:Nat}{es}{k}{v}{u:Value}(ht:sG P t=some e)(Q:at? κ l=some b)(R:obj? s.heap l=.mp es)
  (T:Rel w κ (aD C.ak κ s.heap) v u) (U:es.length<140737488355328) (D:k.length<=9223372036854775807):∃V,(Instr.mapUpdate t (.map (some b)) (.string ⟨k.toArray⟩) u).run P w=.ok () V/\Sim C κ (s.setObj l (.mp (G5 es k v))) a V:=by
 obtain⟨m,g,I,J,K,L⟩:=h.map Q R;obtain⟨kt,W,M⟩:=aag ht;have X:(getObj b).run P w=.ok (.map m g) w:=by simp[getObj,Sem.run,I]
 have d:∀o,(setObj b o).run P w=.ok () {w with heap:=w.heap.setIfInBounds b o}:=λo=>by simp[setObj,Sem.run,I]
 have E:=findNow_spec (w:=w) (κ:=κ) (pv:=aD C.ak κ s.heap) k m.toList es 0 (by simpa using J) L;cases i:rE es k with
 |none=>
  rw[i]at E;refine⟨{w with heap:=w.heap.setIfInBounds b (.map (m.push {key:=.string ⟨k.toArray⟩,val:=u,born:=g}) (g+1))},?_,?_⟩;·simp[Instr.mapUpdate,run_underlying W,X,run_checkKey M,Instr.findKey,run_underlying M,E.1,d]
  rw[E.2 v];have S:∀p∈es,p.1≠k:=λp hp e=>by have:=qDd.1 (Option.map_eq_none_iff.1 i) p hp;simp[e]at this
  refine h.azt Q R I (by simp[J]) ⟨by simp;omega,MapKept.stamped_push K.2.1 λx N e=>?_,λy c=>?_⟩ λj f=>?_
  ·obtain⟨j,f⟩:=qAR N;have F:j<es.length:=by have:=(qAy.1 f).1;simp at this;omega
   have Y:=(L j F).1;rw[List.getD,f,qAv,e]at Y;have h6:es.getD j ([],.unk)∈es:=by rw[List.getD,qAc F];exact qAN _
   refine S _ h6 ?_;have h7:=congrArg (λv=>match v with|Value.string s=>s.data.toList|_=>[]) Y
   simpa using h7.symm
  ·simp only[qAX,qAz,qCT,qAn,qBa]at c;rcases c with c|rfl
   ·exact K.2.2 y c
   exact D
  simp only[qAf,qAL]at f;by_cases G:j<es.length
  ·have q:(es++[(k,v)]).getD j ([],.unk)=es.getD j ([],.unk):=by simp[List.getD,qAi G]
   have r:(m.push {key:=.string ⟨k.toArray⟩,val:=u,born:=g}).getD j default=m.toList.getD j default:=by simp[qAq,List.getD,Array.getElem?_push,show j≠m.size by omega]
   rw[q,r];exact L j G
  obtain rfl:j=es.length:=by omega
  have q:(es++[(k,v)]).getD es.length ([],.unk)=(k,v):=by simp[List.getD]
  have r:(m.push {key:=.string ⟨k.toArray⟩,val:=u,born:=g}).getD es.length default={key:=.string ⟨k.toArray⟩,val:=u,born:=g}:=by simp[qAq,<-J]
  rw[q,r];exact⟨rfl,T⟩
 |some v0=>
  rw[i]at E;obtain⟨n,x,Z,_,B,O,g5⟩:=E;simp only[qCg]at B;simp only[qAK]at Z;have H:((m[n]?).map (·.key)).getD (.string ⟨k.toArray⟩)=.string ⟨k.toArray⟩:=by rw[qBw B];simp only[List.getD,qCJ,qBw B,qAv]at O;simpa using O
  have z:(Instr.keyThatStays (.string ⟨k.toArray⟩) (.string ⟨k.toArray⟩)).run P w=.ok (.string ⟨k.toArray⟩) w:=by
   have hb:((⟨k.toArray⟩:ByteArray)==⟨k.toArray⟩)=true:=by rw[Zy];simp
   simp[Instr.keyThatStays,Instr.sameBits,hb]
  refine⟨{w with heap:=w.heap.setIfInBounds b (.map (m.modify n λe=>{e with key:=.string ⟨k.toArray⟩,val:=u}) g)},?_,?_⟩;·simp[Instr.mapUpdate,run_underlying W,X,run_checkKey M,Instr.findKey,run_underlying M,Z,H,z,d]
  rw[g5 v];refine h.azt Q R I (by simp[J]) ⟨by simp;omega,MapKept.stamped_modify K.2.1 n _ (λ_ _=>rfl) (λx _ N=>?_),λy c=>?_⟩ λj f=>?_
  ·rw[qBw B,Option.some.injEq]at N;simp only[List.getD,qCJ,qBw B,qAv,N]at O;exact O.symm
  ·rw[qCU]at c;rcases List.mem_or_eq_of_mem_set c with c|rfl
   ·exact K.2.2 y c
   exact D
  simp only[qAU]at f;by_cases A:n=j
  ·subst A;have q:(es.set n (k,v)).getD n ([],.unk)=(k,v):=kK f;have r:(m.modify n λe=>{e with key:=.string ⟨k.toArray⟩,val:=u}).getD n default={(m[n])with key:=.string ⟨k.toArray⟩,val:=u}:=by rw[qAq,qBM,if_pos rfl,qBw B];rfl
   rw[q,r];exact⟨rfl,T⟩
  have q:(es.set n (k,v)).getD j ([],.unk)=es.getD j ([],.unk):=ou A;have r:(m.modify n λe=>{e with key:=.string ⟨k.toArray⟩,val:=u}).getD j default=m.toList.getD j default:=by simp[qAq,qBM,A,List.getD]
  rw[q,r];exact L j f
end
section
open Go
theorem aCW{z i a j b:Nat}(h:i≠a)(d:j<z)(c:b<z):i*z+j≠a*z+b:=by
 rcases Nat.lt_or_gt_of_ne h with l|l
 ·have:=qAQ z (show i+1<=a by omega)
  grind
 have:=qAQ z (show a+1<=i by omega)
 grind
theorem aul{z i j n:Nat}(hi:i<n)(h:j<z):i*z+j<n*z:=by
 have:=qAQ z (show i+1<=n by omega)
 grind
theorem Sim.arr{C κ s a w}(h:Sim C κ s a w){l b z es}(f:at? κ l=some b)(o:obj? s.heap l=.arr z es):
  ∃c e,w.heap[b]? =some (Obj.cells c e (0,0))/\es.length*z<=c.size/\(∀i,i<es.length->(es.getD i []).length=z)/\(∀i j,i<es.length->j<z->w.cell? ⟨b,i*z+j,none⟩=some (c.getD (i*z+j) undef))/\
   ∀i j,i<es.length->j<z->Rel w κ (aD C.ak κ s.heap) ((es.getD i []).getD j .unk) (c.getD (i*z+j) undef):=by have r:=h.obj l b f (by rw[o];trivial);rw[o]at r;obtain⟨c,e,d,g,k,m⟩:=r;refine⟨c,e,d,g,k,λi j n p=>?_,m⟩;have:=aul n p;simp[World.cell?,d,show i*z+j<c.size by omega]
theorem Sim.awS{C}{κ}{s}{a}{w}(h:Sim C κ s a w){l b z i j}{es}{v}{u}(n:at? κ l=some b)(p:obj? s.heap l=.arr z es)
  (hi:i<es.length) (D:j<z) (N:Rel w κ (aD C.ak κ s.heap) v u):Sim C κ (s.setObj l (.arr z (es.set i ((es.getD i []).set j v)))) a (w.setCell ⟨b,i*z+j,none⟩ u):=by
 obtain⟨c,e,O,P,Q,_,J⟩:=h.arr n p;have A:l<s.heap.length:=by rw[<-h.klen];exact lt_of_at? n
 have R:=aul hi D;have E:aD C.ak κ s.heap b (i*z+j):=.inr ⟨l,n,by rw[p];trivial⟩;have g:Evo (aD C.ak κ s.heap) w (w.setCell ⟨b,i*z+j,none⟩ u):=Evo.setCell E;have B:∀x o,aD C.ak κ (s.heap.set l (.arr z (es.set i ((es.getD i []).set j v)))) x o->x<w.heap.size->aD C.ak κ s.heap x o:=by
  rintro x o (S|⟨k,d,f⟩) _;·exact .inl S
  by_cases e:l=k;·subst e;exact .inr ⟨l,d,by rw[p];trivial⟩
  rw[obj?_set_other e]at f;exact .inr ⟨k,d,f⟩
 refine h.step (H':=s.heap.set l (.arr z (es.set i ((es.getD i []).set j v)))) g (dw.refl _) (by simp[h.klen]) B ?_ ?_ ?_ ?_ ?_ rfl rfl rfl
 ·intro k q d f;by_cases e:l=k
  ·subst e;rw[n]at d;cases d;refine .inr ⟨by simpa using h.bound l b n,h.own l b n (by rw[p];trivial),?_⟩;rw[obj?_set_same A];refine⟨_,_,AQ O,by simpa using P,λi' r=>?_,λi' F r t=>?_⟩
   ·grind
   simp only[qAU]at r;by_cases G:i=i'
   ·subst G;rw[kK hi];by_cases K:j=F
    ·subst K;rw[kK (by rw[Q i hi];exact D),rC (by omega)];exact N.mono g (dw.refl _) B
    rw[ou K,mM (by omega)];exact(J i F hi t).mono g (dw.refl _) B
   rw[ou G,mM (aCW G D t)];exact(J i' F r t).mono g (dw.refl _) B
  rw[obj?_set_other e]at f|-;refine .inl ⟨d,rfl,qw λeb=>?_⟩;subst eb;exact e (h.apart l k q n d (by rw[p];trivial) f)
 ·intro L M q d f H I;refine h.apart L M q d f ?_ ?_
  ·by_cases e:l=L
   ·subst e;rw[p];trivial
   rwa[obj?_set_other e]at H
  by_cases e:l=M;·subst e;rw[p];trivial
  rwa[obj?_set_other e]at I
 ·intro k q y;simpa using h.bound k q y
 ·intro k m;by_cases e:l=k
  ·subst e;rw[obj?_set_same A]at m;cases m
  rw[obj?_set_other e]at m;exact h.resv k m
 intro q y;refine qw λeb=>?_;subst eb;exact h.own l q n (by rw[p];trivial) y
theorem adS{s:ASt}{l o}(h:l<s.heap.length)(a:obj? s.heap l=o):s.setObj l o=s:=by
 obtain⟨t,H⟩:=s;simp only[ASt.setObj,ASt.mk.injEq,true_and];apply qBR;intro n;by_cases e:l=n
 ·subst e;simp only[obj?]at a
  grind
 grind
theorem aoP{α:Type}{l:List α}{i d}(h:i<l.length):l.set i (l.getD i d)=l:=by simp_all
theorem Sim.aDh{P}{C}{κ}{a}{l b z i}(q:at? κ l=some b):∀vs d j s w es,Sim C κ s a w->obj? s.heap l=.arr z es->
  i<es.length->j+vs.length=z->d.length=vs.length->(∀k,k<vs.length->Rel w κ (aD C.ak κ s.heap) (vs.getD k .unk) (d.getD k undef))->vs.all isScalar=true->
  ∃y,(storeCells ⟨b,i*z,none⟩ d j).run P w=.ok () y/\Sim C κ (s.setObj l (.arr z (es.set i ((es.getD i []).take j++vs)))) a y:=by
 intro vs
 induction vs with
 |nil=>
  intro d j s w es f g m r h _ _;cases d with
  |nil=>
   refine⟨w,by simp[storeCells],?_⟩;have n:l<s.heap.length:=by rw[<-f.klen];exact lt_of_at? q
   obtain⟨c,e,_,_,I,_,_⟩:=f.arr q g;have A:(es.getD i []).take j++[]=es.getD i []:=by
    rw[qAt,qCl]
    grind
   rw[A,aoP m,adS n g];exact f
  |cons=>simp at h
 |cons v vs N=>
  intro d j s w es f g m r h J p;cases d with|nil=>simp at h|cons u d=>
   simp only[qAo]at r h;simp only[qBK,qAb]at p;have B:=J 0 (by simp);simp only[List.getD,qAF,qAv]at B;obtain⟨c,S,O,T,I,D,U⟩:=f.arr q g;have n:l<s.heap.length:=by rw[<-f.klen];exact lt_of_at? q
   have E:=f.awS q g (i:=i) (j:=j) m (by omega) B;have t:(Go.store ⟨b,i*z+j,none⟩ u).run P w=.ok () (w.setCell ⟨b,i*z+j,none⟩ u):=Wy B p.1 (D i j m (by omega)) (by simp[World.frozen?,O]);have F:∀x o,aD C.ak κ (s.setObj l (.arr z (es.set i ((es.getD i []).set j v)))).heap x o->aD C.ak κ s.heap x o:=by
    rintro x o (G|⟨K,L,H⟩);·exact .inl G
    by_cases e:l=K;·subst e;exact .inr ⟨l,L,by rw[g];trivial⟩
    simp only[ASt.setObj]at H;rw[obj?_set_other e]at H;exact .inr ⟨K,L,H⟩
   obtain⟨y,Q,M⟩:=N d (j+1) _ _ (es.set i ((es.getD i []).set j v)) E (by simp only[ASt.setObj];exact obj?_set_same n) (by simpa using m) (by omega) (by omega)
    (λk R=>by have:=J (k+1) (by simpa using R);simp only[List.getD,qBs]at this;exact this.mono (Evo.setCell (.inr ⟨l,q,by rw[g];trivial⟩)) (dw.refl _) (λx o G _=>F x o G)) p.2
   refine⟨y,by simp[storeCells,A9,t,Q],?_⟩;have e:(s.setObj l (.arr z (es.set i ((es.getD i []).set j v)))).setObj l (.arr z ((es.set i ((es.getD i []).set j v)).set i (((es.set i ((es.getD i []).set j v)).getD i []).take (j+1)++vs)))=
     s.setObj l (.arr z (es.set i ((es.getD i []).take j++(v::vs)))):=by
    simp only[ASt.setObj,qDT];congr 2;rw[kK m];have A:((es.getD i []).set j v).take (j+1)=(es.getD i []).take j++[v]:=by rw[qCd (by rw[qAU,I i m];omega),qDR,qBP (by simp;omega)];simp
    rw[A];simp
   rw[e]at M;exact M
theorem Sim.aDw{P}{C}{κ}{a}{l b z i j0}(q:at? κ l=some b):∀vs d j s w es,Sim C κ s a w->obj? s.heap l=.arr z es->
  i<es.length->j0+j+vs.length<=z->d.length=vs.length->(∀k,k<vs.length->Rel w κ (aD C.ak κ s.heap) (vs.getD k .unk) (d.getD k undef))->vs.all isScalar=true->
  ∃y,(storeCells ⟨b,i*z+j0,none⟩ d j).run P w=.ok () y/\Sim C κ (s.setObj l (.arr z (es.set i ((es.getD i []).take (j0+j)++vs++(es.getD i []).drop (j0+j+vs.length))))) a y:=by
 intro vs
 induction vs with
 |nil=>
  intro d j s w es n p f r h _ _;cases d with
  |nil=>
   refine⟨w,by simp[storeCells],?_⟩;have g:l<s.heap.length:=by rw[<-n.klen];exact lt_of_at? q
   have A:(es.getD i []).take (j0+j)++[]++(es.getD i []).drop (j0+j+([]:List AV).length)=es.getD i []:=by simp
   rw[A,aoP f,adS g p];exact n
  |cons=>simp at h
 |cons v vs M=>
  intro d j s w es n p f r h I m;cases d with|nil=>simp at h|cons u d=>
   simp only[qAo]at r h;simp only[qBK,qAb]at m;have B:=I 0 (by simp);simp only[List.getD,qAF,qAv]at B;obtain⟨c,T,N,U,O,D,V⟩:=n.arr q p;have g:l<s.heap.length:=by rw[<-n.klen];exact lt_of_at? q
   have E:=n.awS q p (i:=i) (j:=j0+j) f (by omega) B;have t:(Go.store ⟨b,i*z+j0+j,none⟩ u).run P w=.ok () (w.setCell ⟨b,i*z+(j0+j),none⟩ u):=by rw[qBT];exact Wy B m.1 (D i (j0+j) f (by omega)) (by simp[World.frozen?,N])
   have F:∀x o,aD C.ak κ (s.setObj l (.arr z (es.set i ((es.getD i []).set (j0+j) v)))).heap x o->aD C.ak κ s.heap x o:=by
    rintro x o (G|⟨J,K,H⟩);·exact .inl G
    by_cases e:l=J;·subst e;exact .inr ⟨l,K,by rw[p];trivial⟩
    simp only[ASt.setObj]at H;rw[obj?_set_other e]at H;exact .inr ⟨J,K,H⟩
   obtain⟨y,Q,L⟩:=M d (j+1) _ _ (es.set i ((es.getD i []).set (j0+j) v)) E (by simp only[ASt.setObj];exact obj?_set_same g) (by simpa using f) (by omega) (by omega)
    (λk R=>by have:=I (k+1) (by simpa using R);simp only[List.getD,qBs]at this;exact this.mono (Evo.setCell (.inr ⟨l,q,by rw[p];trivial⟩)) (dw.refl _) (λx o G _=>F x o G)) m.2
   refine⟨y,by simp[storeCells,A9,t,Q],?_⟩;have e:(s.setObj l (.arr z (es.set i ((es.getD i []).set (j0+j) v)))).setObj l (.arr z ((es.set i ((es.getD i []).set (j0+j) v)).set i (((es.set i ((es.getD i []).set (j0+j) v)).getD i []).take (j0+(j+1))++vs++((es.set i ((es.getD i []).set (j0+j) v)).getD i []).drop (j0+(j+1)+vs.length))))=
     s.setObj l (.arr z (es.set i ((es.getD i []).take (j0+j)++(v::vs)++(es.getD i []).drop (j0+j+(v::vs).length)))):=by
    simp only[ASt.setObj,qDT];congr 2;rw[kK f];have A:((es.getD i []).set (j0+j) v).take (j0+(j+1))=(es.getD i []).take (j0+j)++[v]:=by rw[<-qBT,qCd (by rw[qAU,O i f];omega),qDR,qBP (by simp;omega)];simp
    have S:((es.getD i []).set (j0+j) v).drop (j0+(j+1)+vs.length)=(es.getD i []).drop (j0+j+(v::vs).length):=by rw[List.drop_set_of_lt (by omega)];congr 1;simp only[qAo];omega
    rw[A,S];simp
   rw[e]at L;exact L
theorem axW{P o s t x l off z i es v}(m:o.op=.load t x)(p:bC s.tmps x=.ptr l off)(q:obj? s.heap l=.arr z es)(f:off=i*z)(hi:i<es.length)(h:jB P t (es.getD i [])=some v):
  xX P o s (s.wr (au o.dst v)):=
 nT λC d a w g=>by
  have r:=g.ev x;rw[p]at r;obtain⟨b,e,u⟩:=r.qm;obtain⟨c,G,H,I,A,k,B⟩:=g.arr u q;have n:=A i hi;obtain⟨y,D,E⟩:=Hw (P:=P) (w:=w) (κ:=d) (pv:=aD C.ak d s.heap) (b:=b) (off:=off) (cs:=es.getD i []) (λj=>c.getD (off+j) undef)
   (λj F=>by rw[f];exact k i j hi (by omega)) (λj F=>by rw[f];exact B i j hi (by omega)) h
  exact⟨y,d,w,by simp[execOp,m,Instr.loadAt,e,Instr.sureAddr,D],g.au o.dst E⟩
theorem awJ{P o s t x y l off z i es vs}(k:o.op=.store t x y)(m:bC s.tmps x=.ptr l off)(n:dS (bC s.tmps y)=some vs)(p:obj? s.heap l=.arr z es)
  (q:sizeT P t=some vs.length) (F:vs.length=z) (h:off=i*z) (hi:i<es.length) (c:vs.all isScalar=true):
  xX P o s (s.wr (.obj l (.arr z (es.set i vs))::au o.dst (.tup []))):=
 Xd λC u a w d=>by
  have r:=d.ev x;rw[m]at r;obtain⟨b,e,v⟩:=r.qm;obtain⟨f,A⟩:=K8 (d.ev y) n;subst h;obtain⟨B,D,g⟩:=Sim.aDh (P:=P) (i:=i) v vs (a.eval y).cells.toList 0 s w es d p hi (by omega) (by simpa using f)
   (λj E=>by have:=A j E;simpa[qAq,List.getD]using this) c
  refine⟨u,B,?_,?_⟩;·simp[execOp,k,Instr.storeAt,e,Instr.sureAddr,storeVar,nU q,f,D]
  simp at g;exact g.au o.dst kC
theorem avn{P o s t x y l off z i j es vs}(m:o.op=.store t x y)(n:bC s.tmps x=.ptr l off)(p:dS (bC s.tmps y)=some vs)(q:obj? s.heap l=.arr z es)
  (u:sizeT P t=some vs.length) (h:off=i*z+j) (hi:i<es.length) (f:j+vs.length<=z) (c:vs.all isScalar=true):
  xX P o s (s.wr (.obj l (.arr z (es.set i ((es.getD i []).take j++vs++(es.getD i []).drop (j+vs.length))))::au o.dst (.tup []))):=
 Xd λC v a w d=>by
  have r:=d.ev x;rw[n]at r;obtain⟨b,e,A⟩:=r.qm;obtain⟨g,B⟩:=K8 (d.ev y) p;subst h;obtain⟨D,E,k⟩:=Sim.aDw (P:=P) (i:=i) (j0:=j) A vs (a.eval y).cells.toList 0 s w es d q hi (by omega) (by simpa using g)
   (λj f=>by have:=B j f;simpa[qAq,List.getD]using this) c
  refine⟨v,D,?_,?_⟩;·simp[execOp,m,Instr.storeAt,e,Instr.sureAddr,storeVar,nU u,g,E]
  simp only[qAP]at k;exact k.au o.dst kC
end
section
open Go
theorem awM{P}{o}{s}{t e l:Nat}{m key}{ok}{es}{k}{z}(g:o.op=.lookup t m key ok)(i:sG P t=some e)(j:bC s.tmps m=.mapr l)(n:bC s.tmps key=.str k)
  (p:obj? s.heap l=.mp es) (q:KQ P e=some z):xX P o s (s.wr (au o.dst (Cj (rE es k) ok z))):=
 nT λC d a w h=>by
  have c:=h.ev m;rw[j]at c;have f:=h.ev key;rw[n]at f;obtain⟨b,r,v⟩:∃b,a.eval m=.map (some b)/\at? d l=some b:=by generalize a.eval m=u at c;cases c;exact⟨_,rfl,‹_›⟩
  obtain⟨u,x,y⟩:=avw (ok:=ok) (k:=k) h i v p q;exact⟨u,d,w,by simp[execOp,g,r,f.zZ.1,x],h.au o.dst y⟩
theorem anx{P}{o}{s}{t e l:Nat}{m key x}{es}{k}(i:o.op=.mapUpdate t m key x)(j:sG P t=some e)(n:bC s.tmps m=.mapr l)(p:bC s.tmps key=.str k)
  (q:obj? s.heap l=.mp es) (h:es.length<140737488355328):xX P o s (s.wr (.obj l (.mp (G5 es k (sN (bC s.tmps x))))::au o.dst (.tup []))):=
 Xd λC g a w c=>by
  have d:=c.ev m;rw[n]at d;have f:=c.ev key;rw[p]at f;obtain⟨b,r,v⟩:∃b,a.eval m=.map (some b)/\at? g l=some b:=by generalize a.eval m=u at d;cases d;exact⟨_,rfl,‹_›⟩
  obtain⟨y,z,A⟩:=anB (k:=k) c j v q (c.ev x).sN h f.zZ.2;exact⟨g,y,by simp[execOp,i,r,f.zZ.1,z],A.au o.dst kC⟩
theorem afX{P}{k}{o}{s}{rd}{ws}(h:aJ P k o (bC s.tmps) (obj? s.heap)=some (rd,ws)):xX P o s (s.wr ws):=by
 unfold aJ at h;split at h;·rename_i v q;simp only[Option.some.injEq,Prod.mk.injEq]at h;obtain⟨_,rfl⟩:=h;exact apw q
 split at h
 ·rename_i t x b;split at h
  ·rename_i l r d;split at h
   ·rename_i R f;cases q:jB P t (R.drop r)with|none=>rw[q]at h;cases h|some v=>rw[q]at h;simp only[qAx,Option.some.injEq,Prod.mk.injEq]at h;obtain⟨_,rfl⟩:=h;exact azG b d f q
   ·rename_i z C f;split at h
    ·rename_i a;cases q:jB P t (C.getD (r/z) [])with|none=>rw[q]at h;cases h|some v=>rw[q]at h;simp only[qAx,Option.some.injEq,Prod.mk.injEq]at h;obtain⟨_,rfl⟩:=h;exact axW b d f a.1 a.2 q
    cases h
   cases h
  cases h
 ·rename_i t x y b;split at h
  ·rename_i l r vs d j;split at h
   ·rename_i R f;split at h
    ·rename_i a;simp only[Option.some.injEq,Prod.mk.injEq]at h;obtain⟨_,rfl⟩:=h;exact ayR b d j f a.1 a.2.1 a.2.2
    cases h
   ·rename_i z C f;split at h
    ·rename_i a;simp only[Option.some.injEq,Prod.mk.injEq]at h;obtain⟨_,rfl⟩:=h;exact awJ b d j f a.1 a.2.1 a.2.2.1 a.2.2.2.1 a.2.2.2.2
    split at h;·rename_i a;simp only[Option.some.injEq,Prod.mk.injEq]at h;obtain⟨_,rfl⟩:=h;exact avn b d j f a.1 (by rw[qBB];exact(qCR r z).symm) a.2.2.1 a.2.2.2.1 a.2.2.2.2
    cases h
   cases h
  cases h
 ·rename_i t b;split at h
  ·rename_i u;cases w:kr P t with|none=>rw[w]at h;cases h|some z=>rw[w]at h;simp only[qAx,Option.some.injEq,Prod.mk.injEq]at h;obtain⟨_,rfl⟩:=h;exact azq b u w
  cases h
 ·rename_i t x b;split at h
  ·rename_i u;cases d:dS (bC s.tmps x)with|none=>rw[d]at h;cases h|some R=>rw[d]at h;simp only[qAx,Option.some.injEq,Prod.mk.injEq]at h;obtain⟨_,rfl⟩:=h;exact aCv b u d
  cases h
 ·rename_i t b;split at h
  ·rename_i u;simp only[Option.some.injEq,Prod.mk.injEq]at h;obtain⟨_,rfl⟩:=h;exact asu b u
  cases h
 ·rename_i t U D b;split at h
  ·rename_i e G A B;split at h
   ·rename_i z w;split at h
    ·rename_i a;cases V:kg (λi=>some (i*G,G)) ((List.replicate U z).flatten) (D.toList.map λp=>(p.1,bC s.tmps p.2))with|none=>rw[V]at h;cases h|some R=>rw[V]at h;simp only[qAx,Option.some.injEq,Prod.mk.injEq]at h;obtain⟨_,rfl⟩:=h;exact ajw b B w a.1 a.2.1 a.2.2.1 a.2.2.2 V
    cases h
   cases h
  cases h
 ·rename_i args H b;split at h
  ·rename_i x y t t2 W E;split at h
   ·rename_i e G A C ys I B J d j;split at h
    ·rename_i a;simp only[Option.some.injEq,Prod.mk.injEq]at h;obtain⟨_,rfl⟩:=h;obtain⟨K,L,M,S,N⟩:=a;subst L;exact ajz b W E B J d j K M S N
    cases h
   ·rename_i e G A C l z ys I B J d j;split at h
    ·rename_i n f;split at h
     ·rename_i a;simp only[Option.some.injEq,Prod.mk.injEq]at h;obtain⟨_,rfl⟩:=h;obtain⟨K,L,M,S,N,X,T⟩:=a;subst L M;exact aki b W E B J d j f K S N X T
     cases h
    cases h
   ·rename_i e G A l z n ys I B J d j;split at h
    ·rename_i z' F f;split at h
     ·rename_i a;simp only[Option.some.injEq,Prod.mk.injEq]at h;obtain⟨_,rfl⟩:=h;obtain⟨K,L,M,S,N,X,T,c8⟩:=a;subst L M;have g:(F.take n).length=n:=by simp only[qAB];omega
      have O:(F.take n).all (bX z')=true:=by rw[qAJ]at T|-;exact λx d=>T x (qDK d)
      exact ako (es:=F.take n) b W E B J (by rw[g];exact d) j f (by rw[g]) K (by rw[g];exact N) (by rw[g];exact X) O c8
     cases h
    cases h
   cases h
  cases h
 ·rename_i t x y b;split at h
  ·rename_i e G A kl l kc c B d j;split at h
   ·rename_i z w;split at h
    ·rename_i a;simp only[Option.some.injEq,Prod.mk.injEq]at h;obtain⟨_,rfl⟩:=h;exact anT b B w d j a.1 a.2.1 a.2.2.1 a.2.2.2.1 a.2.2.2.2.1 a.2.2.2.2.2
    cases h
   cases h
  cases h
 ·rename_i t m Y ok b;split at h
  ·rename_i e l k' E Z u;split at h
   ·rename_i C z f w;simp only[Option.some.injEq,Prod.mk.injEq]at h;obtain⟨_,rfl⟩:=h;exact awM b E Z u f w
   cases h
  cases h
 ·rename_i t m Y x b;split at h
  ·rename_i e l k' E Z u;split at h
   ·rename_i C f;split at h
    ·rename_i Q;simp only[Option.some.injEq,Prod.mk.injEq]at h;obtain⟨_,rfl⟩:=h;exact anx b E Z u f Q
    cases h
   cases h
  cases h
 cases h
end
section
open Go
def pK(g:Nat->Nat):Tag->Tag| .tip l z=>.tip (g l) z| .shared=>.shared| .nils=>.nils
mutual
def ren(g:Nat→Nat):AV→AV
 | .ptr l o=>.ptr (g l) o
 | .mapr l=>.mapr (g l)
 | .eptr cs=>.eptr (dL g cs)
 | .slice es t=>.slice (eF g es) (pK g t)
 | .agg cs=>.agg (dL g cs)
 | .tup cs=>.tup (dL g cs)
 | .func f cs=>.func f (dL g cs)
 | .unk=>.unk
 | .int k n=>.int k n
 | .bool b=>.bool b
 | .str s=>.str s
 | .nilp=>.nilp
 | .ifc t v=>.ifc t v
 | .nilFunc=>.nilFunc
 | .psl l z n=>.psl (g l) z n
 | .flist ns=>.flist (eF g ns)
def dL(g:Nat→Nat):List AV→List AV
 |[]=>[]
 |c::cs=>ren g c::dL g cs
def eF(g:Nat→Nat):List (List AV)→List (List AV)
 |[]=>[]
 |c::cs=>dL g c::eF g cs
end
theorem sU g:∀cs,dL g cs=cs.map (ren g)|[]=>rfl|c::cs=>by simp[dL,sU g cs]
theorem QF g:∀es,eF g es=es.map (dL g)|[]=>rfl|c::s=>by simp[eF,QF g s]
theorem iI g cs:(dL g cs).length=cs.length:=by simp[sU]
theorem jJ g es:(eF g es).length=es.length:=by simp[QF]
theorem iF g cs j:(dL g cs).getD j .unk=ren g (cs.getD j .unk):=by rw[sU];simp;cases cs[j]?<;>rfl
theorem o8 g es j:(eF g es).getD j []=dL g (es.getD j []):=by rw[QF];simp;cases es[j]?<;>rfl
def dR(g:Nat->Nat):AObj->AObj| .box c=>.box (dL g c)| .mp e=>.mp (e.map λp=>(p.1,ren g p.2))| .tip n=>.tip n| .dead=>.dead| .res=>.res| .arr z e=>.arr z (eF g e)
theorem FC g o n:uf (dR g o) n=uf o n:=by cases o<;>rfl
theorem iH g o:live (dR g o)=live o:=by cases o<;>rfl
theorem Rel.AU{w}{κ p}{pv}{g}(B:∀i,at? p i=at? κ (g i)):∀{y:AV} {v:Value},Rel w κ pv y v->∀x,y=ren g x->Rel w p pv x v:=by
 intro y v h
 induction h with
 |unk v=>intro x a;cases x<;>simp[ren]at a;exact .unk _|int h=>intro x a;cases x<;>simp[ren]at a;obtain⟨rfl,rfl⟩:=a;exact .int h|bool b=>intro x a;cases x<;>simp[ren]at a;subst a;exact .bool _|str h=>intro x a;cases x<;>simp[ren]at a;subst a;exact .str h|nilp=>intro x a;cases x<;>simp[ren]at a;exact .nilp|ifc t v=>intro x a;cases x<;>simp[ren]at a;obtain⟨rfl,rfl⟩:=a;exact .ifc _ _|ptr h=>intro x a;cases x<;>simp[ren]at a;obtain⟨rfl,rfl⟩:=a;exact .ptr (by rw[B];exact h)|eptr u d m _ f=>intro x a;cases x<;>simp[ren]at a;subst a;rw[iI]at d m f;exact .eptr u d m (λj k=>f j k _ (iF _ _ _))
 |slice b C sz u d m n q G H _ o f=>
  intro x a;cases x<;>simp[ren]at a;obtain⟨rfl,rfl⟩:=a;rename_i es t _;rw[jJ]at d n q G H f|-;refine .slice b C sz u (λi D=>by have:=d i D;rwa[o8,iI]at this) (λhne=>m (λe=>hne ?_)) n q G H (λi j D k=>f i j D k _ (by rw[o8,iF])) ?_
  ·have:=congrArg List.length e;rw[jJ]at this;exact qAI.1 (by simpa using this)
  cases t with
  |shared=>trivial|nils=>exact o|tip l z=>
   obtain⟨E,o⟩:=o;refine⟨E,o.imp id ?_⟩
   grind
 |agg d _ f=>intro x a;cases x<;>simp[ren]at a;subst a;rw[iI]at d f;exact .agg d (λj k=>f j k _ (iF _ _ _))
 |tup d _ f=>intro x a;cases x<;>simp[ren]at a;subst a;rw[iI]at d f;exact .tup d (λj k=>f j k _ (iF _ _ _))
 |func d _ f=>intro x a;cases x<;>simp[ren]at a;obtain⟨rfl,rfl⟩:=a;rw[iI]at d f;exact .func d (λj k=>f j k _ (iF _ _ _))
 |mapr h=>intro x a;cases x<;>simp[ren]at a;subst a;exact .mapr (by rw[B];exact h)|nilFunc=>intro x a;cases x<;>simp[ren]at a;exact .nilFunc|psl d m n=>intro x a;cases x<;>simp[ren]at a;obtain⟨rfl,rfl,rfl⟩:=a;refine .psl d m ?_;obtain⟨E,o⟩:=n;refine⟨E,o.imp id ?_⟩;rintro⟨b,c,e,q1,q2⟩;exact⟨b,c,e,by rw[B];exact q1,q2⟩
 |flnil=>intro x a;cases x<;>simp[ren]at a;rename_i A;have:A=[]:=qAI.1 (by rw[<-jJ g A,a];rfl);subst this;exact .flnil
 |flcons u y d m n _ _ s F=>
  intro x a;cases x<;>simp[ren]at a;rename_i A;cases A with|nil=>simp[eF]at a|cons c r=>simp only[eF,List.cons.injEq]at a;obtain⟨rfl,rfl⟩:=a;rw[iI]at d m n s;exact .flcons u y d m n (λj k=>s j k _ (iF _ _ _)) (F _ rfl)
theorem Rel.ren{w}{κ p}{pv}{g}(A:∀i b,at? p i=some b->at? κ (g i)=some b):∀{x:AV} {v:Value},Rel w p pv x v->Rel w κ pv (Abs.ren g x) v:=by
 intro x v h
 induction h with
 |unk v=>exact .unk _|int h=>exact .int h|bool b=>exact .bool _|str h=>exact .str h|nilp=>exact .nilp|ifc t v=>exact .ifc _ _|ptr h=>exact .ptr (A _ _ h)|eptr u f n _ m=>
  refine .eptr u ?_ ?_ ?_<;>rw[iI];·exact f
  ·exact n
  intro j d;rw[iF];exact m j d
 |@slice G t a q b B H u f n r C I J _ o m=>
  have s:=Rel.slice (w:=w) (κ:=κ) (pv:=pv) (es:=eF g G) (tag:=pK g t) (a:=a) (cap:=q) b B H u
   (λi k=>by rw[jJ]at k;rw[o8,iI];exact f i k)
   (λhne=>n (λe=>hne (by subst e;rfl))) (by rw[jJ];exact r) (by rw[jJ];exact C)
   (λi j k d=>by rw[jJ]at k;exact I i j k d) (λi j k d=>by rw[jJ]at k;exact J i j k d)
   (λi j k d=>by rw[jJ]at k;rw[o8,iF];exact m i j k d)
   (by
    cases t with
    |shared=>trivial|nils=>exact o|tip l z=>obtain⟨D,o⟩:=o;refine⟨D,o.imp id ?_⟩;rintro⟨b,c,e,K,L⟩;exact⟨b,c,e,A _ _ K,L⟩)
  rw[jJ]at s;exact s
 |agg f _ m=>
  refine .agg ?_ ?_<;>rw[iI];·exact f
  intro j d;rw[iF];exact m j d
 |tup f _ m=>
  refine .tup ?_ ?_<;>rw[iI];·exact f
  intro j d;rw[iF];exact m j d
 |func f _ m=>
  refine .func ?_ ?_<;>rw[iI];·exact f
  intro j d;rw[iF];exact m j d
 |mapr h=>exact .mapr (A _ _ h)|nilFunc=>exact .nilFunc|psl f n r=>
  refine .psl f n ?_;obtain⟨D,o⟩:=r;refine⟨D,o.imp id ?_⟩
  grind
 |flnil=>exact .flnil|flcons u y f n r _ _ E F=>
  refine .flcons u y ?_ ?_ ?_ ?_ F<;>rw[iI];·exact f
  ·exact n
  ·exact r
  intro j d;rw[iF];exact E j d
theorem pQ.AU{w}{κ k}{pv}{g}(p:∀i,at? k i=at? κ (g i)){b}{o}(h:pQ w κ pv b (dR g o)):pQ w k pv b o:=by
 cases o with
 |box u=>obtain⟨c,e,l,a,d⟩:=h;rw[iI]at a d;exact⟨c,e,l,a,λj f=>(d j f).AU p _ (iF _ _ _)⟩
 |tip n=>exact h|mp s=>obtain⟨r,t,l,a,d,m⟩:=h;rw[qAg]at a m;refine⟨r,t,l,a,by simpa[qBl,qCA]using d,λj f=>?_⟩;have:=m j f;simp only[List.getD,qAH,qAc f]at this|-;exact⟨this.1,this.2.AU p _ rfl⟩
 |dead=>trivial|res=>trivial|arr z s=>obtain⟨c,e,l,a,d,m⟩:=h;rw[jJ]at a d m;refine⟨c,e,l,a,λi q=>by have:=d i q;rwa[o8,iI]at this,λi j q f=>?_⟩;exact(m i j q f).AU p _ (by rw[o8,iF])
theorem pQ.ren{w}{κ d}{pv}{g}(p:∀i b,at? d i=some b->at? κ (g i)=some b){b}{o}(h:pQ w d pv b o):pQ w κ pv b (dR g o):=by
 cases o with
 |box u=>obtain⟨c,e,f,k,l⟩:=h;refine⟨c,e,f,by rw[iI];exact k,λj a=>?_⟩;rw[iI]at a;rw[iF];exact(l j a).ren p
 |tip n=>exact h|mp s=>obtain⟨r,t,f,k,l,q⟩:=h;refine⟨r,t,f,by rw[qAg];exact k,by simpa[qBl,qCA]using l,λj a=>?_⟩;rw[qAg]at a;have:=q j a;simp only[List.getD,qAH,qAc a]at this|-;exact⟨this.1,this.2.ren p⟩
 |dead=>trivial|res=>trivial|arr z s=>
  obtain⟨c,e,f,k,l,q⟩:=h;refine⟨c,e,f,by rw[jJ];exact k,λi m=>?_,λi j m a=>?_⟩;·rw[jJ]at m;rw[o8,iI];exact l i m
  rw[jJ]at m;rw[o8,iF];exact(q i j m a).ren p
structure Entry(κ:aM)(ak:bJ)(H:List AObj)(w:World):Prop where
 klen:κ.length=H.length
 resv:∀l,obj? H l=.res→at? κ l=none
 obj:∀l b,at? κ l=some b→live (obj? H l)→pQ w κ (aD ak κ H) b (obj? H l)
 apart:∀l l' b,at? κ l=some b→at? κ l'=some b→live (obj? H l)→live (obj? H l')→l=l'
 bound:∀l b,at? κ l=some b→b<w.heap.size
 pvlt:∀b o,ak b o→b<w.heap.size
 pvdis:∀b o l,ak b o→at? κ l=some b→¬live (obj? H l)
structure Leave(κ κ':aM)(ak:bJ)(H H':List AObj)(w w':World):Prop where
 klen:κ'.length=H'.length
 hlen:H.length≤H'.length
 kext:dw κ κ'
 resv:∀l,obj? H' l=.res→at? κ' l=none
 obj:∀l b,at? κ' l=some b→live (obj? H' l)→pQ w' κ' (aD ak κ' H') b (obj? H' l)
 stay:∀l b,at? κ' l=some b→live (obj? H' l)→w.heap.size≤b∨∃l0,at? κ l0=some b∧live (obj? H l0)
 apart:∀l l' b,at? κ' l=some b→at? κ' l'=some b→live (obj? H' l)→live (obj? H' l')→l=l'
 bound:∀l b,at? κ' l=some b→b<w'.heap.size
 kept:∀b:Nat,b<w.heap.size→(∀l,at? κ l=some b→¬live (obj? H l))→w'.heap[b]? =w.heap[b]?
 kS:Evo (aD ak κ H) w w'
 pvsub:∀b o,aD ak κ' H' b o→b<w.heap.size→aD ak κ H b o
 os:w'.os=w.os
 tape:w'.tape=w.tape
 output:w'.output=w.output
def cK(P)(f:Nat)(args:List AV)H(res)H':=
 ∀b k w (s:List Value),Entry b k H w->s.length=args.length->(∀j,j<args.length->Rel w b (aD k b H) (args.getD j .unk) (s.getD j undef))->
  Calls P f s.toArray w λe c=>∃v a,e=.returned v/\Leave b a k H H' w c/\Rel c a (aD k a H') res v
inductive SW:AV→AV→Prop where
 |same (x:AV):SW x x
 |share (es:List (List AV)) (t:Tag):SW (.slice es t) (.slice es .shared)
 |nilF:SW .nilp (.flist [])
 |unk (x:AV):SW x .unk
 |agg {cs cs':List AV}:cs.length=cs'.length→(∀j,SW (cs.getD j .unk) (cs'.getD j .unk))→SW (.agg cs) (.agg cs')
theorem SW.rel{x y}(hs:SW x y):∀{w:World} {a:aM} {p:bJ} {v:Value},Rel w a p x v->Rel w a p y v:=by
 induction hs with|same x=>intro w a p v h;exact h|share e t=>intro w a p v h;exact h.share|nilF=>intro w a p v h;cases h;exact .flnil|unk x=>intro w a p v _;exact .unk v|agg l _ i=>
  intro w a p v h;cases h with|agg g b=>exact .agg (g.trans l) λj c=>i j (b j (by omega))
inductive SWs:List AV→List AV→Prop where
 |nil:SWs [] []
 |cons {x y:AV} {xs ys:List AV}:SW x y→SWs xs ys→SWs (x::xs) (y::ys)
theorem SWs.len{xs ys}(h:SWs xs ys):xs.length=ys.length:=by
 induction h with|nil=>rfl|cons _ _ i=>simp[i]
theorem SWs.get{xs ys}(h:SWs xs ys):∀j,SW (xs.getD j .unk) (ys.getD j .unk):=by
 induction h with|nil=>exact λj=>.same _|cons a _ i=>intro j;cases j with|zero=>exact a|succ j=>exact i j
theorem SW.agg'{xs ys}(h:SWs xs ys):SW (.agg xs) (.agg ys):=.agg h.len h.get
end
section
open Go
def nK{α:Type}(xs:List α):List Nat->List α->List α|l::s,v::a=>nK (xs.set l v) s a|_,_=>xs
theorem LZ{α}:∀s (vs xs:List α),(nK xs s vs).length=xs.length|[],_,_=>by simp[nK]|_::_,[],_=>by simp[nK]|l::s,v::vs,xs=>by simp[nK,LZ s vs]
theorem BU{α}:∀s (vs xs:List α) n,n∉s->(nK xs s vs)[n]? =xs[n]?|[],_,_,_,_=>by simp[nK]|_::_,[],_,_,_=>by simp[nK]|l::s,v::vs,xs,n,h=>by simp at h;simp only[nK];rw[BU s vs _ n h.2,qCa (qBr h.1)]
theorem J4{α}:∀s (vs xs:List α) i n,s.Nodup->s[i]? =some n->i<vs.length->n<xs.length->(nK xs s vs)[n]? =vs[i]?
 |[],_,_,_,_,_,h,_,_=>by simp at h|_::_,[],_,_,_,_,_,h,_=>by simp at h|l::s,v::vs,xs,i,n,d,a,t,b=>by
  simp only[nK];rw[qBX]at d;cases i with
  |zero=>simp at a;subst a;rw[BU s vs _ l d.1,qCC b];rfl
  |succ i=>exact J4 s vs _ i n d.2 a (by simpa using t) (by simpa using b)
def kU:List Nat->List AObj->List Wr|l::s,o::a=>.obj l o::kU s a|_,_=>[]
theorem Fw(s:ASt) a b:s.wr (a++b)=(s.wr a).wr b:=by simp[ASt.wr]
theorem Li:∀a os (s:ASt),s.wr (kU a os)={s with heap:=nK s.heap a os}
 |[],_,s=>by simp[kU,nK,ASt.wr]|_::_,[],s=>by simp[kU,nK,ASt.wr]|l::a,o::os,s=>by have:=Li a os (s.setObj l o);exact this
def nm(L:List Nat)big(i:Nat):=(L[i]?).getD big
theorem at?_none_of_le{κ l}(h:κ.length<=l):at? κ l=none:=by unfold at?;rw[qAE h];rfl
section
variable {C:Ctx}{κ:aM}{s:ASt}{a:Act}{w:World}{ρ ks:List Nat}{H H':List AObj}
def KZ(ak:bJ)(κ:aM)(S:List AObj)(ρ:List Nat):bJ:=λb o=>ak b o∨∃l,l∉ρ/\at? κ l=some b/\uf (obj? S l) o
theorem at?_map{i}:at? (ρ.map (at? κ)) i=match ρ[i]? with|some l=>at? κ l|none=>none:=by simp only[at?,qAH];cases ρ[i]?<;>rfl
structure Passes(s:ASt)(ρ ks:List Nat)(H:List AObj):Prop where
 nodup:(ρ++ks).Nodup
 hlen:H.length=ρ.length
 lt:∀l∈ρ,l<s.heap.length
 res:∀l∈ks,bS (obj? s.heap l)=true
 obj:∀i l,ρ[i]? =some l→obj? s.heap l=dR (nm (ρ++ks) s.heap.length) (obj? H i)
theorem Ra(p:Passes s ρ ks H):aD (KZ C.ak κ s.heap ρ) (ρ.map (at? κ)) H=aD C.ak κ s.heap:=by
 funext b o;apply propext;constructor
 ·rintro((h|⟨l,_,a,c⟩)|⟨i,a,c⟩)
  ·exact .inl h
  ·exact .inr ⟨l,a,c⟩
  rw[at?_map]at a;cases d:ρ[i]? with
  |none=>rw[d]at a;cases a|some l=>rw[d]at a;exact .inr ⟨l,a,by rw[p.obj i l d,FC];exact c⟩
 rintro(h|⟨l,a,c⟩);·exact .inl (.inl h)
 by_cases e:l∈ρ;·obtain⟨i,d⟩:=qAR e;refine .inr ⟨i,by rw[at?_map,d];exact a,?_⟩;rw[p.obj i l d,FC]at c;exact c
 exact .inl (.inr ⟨l,e,a,c⟩)
theorem Nn{o n}(h:uf o n):live o:=by cases o<;>simp[uf,live]at *
theorem akB(hs:Sim C κ s a w)(p:Passes s ρ ks H) i:at? (ρ.map (at? κ)) i=at? κ (nm (ρ++ks) s.heap.length i):=by
 rw[at?_map];unfold nm;cases h:ρ[i]? with|some l=>rw[qAi (qAy.1 h).1,h];rfl|none=>
  have e:ρ.length<=i:=List.getElem?_eq_none_iff.1 h;rw[qAk e];cases b:ks[i - ρ.length]? with|none=>simp;rw[at?_none_of_le (by rw[hs.klen];exact qAd _)]|some k=>simp;have:=p.res k (qAG b);rw[hs.resv k (xO this).1]
theorem ao6(hs:Sim C κ s a w)(p:Passes s ρ ks H):Entry (ρ.map (at? κ)) (KZ C.ak κ s.heap ρ) H w:=by
 have t:∀i b,at? (ρ.map (at? κ)) i=some b->∃l,ρ[i]? =some l/\at? κ l=some b:=λi b h=>by
  rw[at?_map]at h
  grind
 refine⟨by simp[p.hlen],?_,?_,?_,?_,?_,?_⟩;·intro i q;rw[at?_map];cases h:ρ[i]? with|none=>rfl|some l=>simp only;exact hs.resv l (by rw[p.obj i l h,q];rfl)
 ·intro i b c k;obtain⟨l,g,d⟩:=t i b c;have f:=p.obj i l g;have:=hs.obj l b d (by rw[f,iH];exact k);rw[Ra p];rw[f]at this;exact this.AU (akB hs p)
 ·intro i j b c k r z;obtain⟨l,g,d⟩:=t i b c;obtain⟨n,m,u⟩:=t j b k;have e:=hs.apart l n b d u (by rw[p.obj i l g,iH];exact r) (by rw[p.obj j n m,iH];exact z);subst e;have x:=(qBZ.1 p.nodup).1;have q:=(qAy.1 g).1;exact(qCo q x).1 (g.trans m.symm)
 ·intro i b c;obtain⟨l,_,d⟩:=t i b c;exact hs.bound l b d
 ·rintro b o (h|⟨l,_,c,_⟩)
  ·exact qAD (hs.oldlt _ (hs.pvold _ _ h)) hs.size
  exact hs.bound l b c
 rintro b o i h c y;obtain⟨l,g,d⟩:=t i b c;have v:live (obj? s.heap l):=by rw[p.obj i l g,iH];exact y
 rcases h with h|⟨n,A,k,r⟩
 ·exact hs.own l b d v (hs.pvold _ _ h)
 have e:=hs.apart l n b d k v (Nn r)
 grind
theorem Sim.back(hs:Sim C κ s a w)(I:Passes s ρ ks H){κ'}{w'}(f:Leave (ρ.map (at? κ)) κ' (KZ C.ak κ s.heap ρ) H H' w w')(hH:H'.length=(ρ++ks).length){res:AV}{v:Value}
  (hr:Rel w' κ' (aD (KZ C.ak κ s.heap ρ) κ' H') res v):
  ∃k,Sim C k (s.wr (kU (ρ++ks) (H'.map (dR (nm (ρ++ks) s.heap.length))))) a w'/\
   Rel w' k (aD C.ak k (s.wr (kU (ρ++ks) (H'.map (dR (nm (ρ++ks) s.heap.length))))).heap) (ren (nm (ρ++ks) s.heap.length) res) v:=by
 let L:=ρ++ks
 let g:=nm L s.heap.length
 let J:=nK s.heap L (H'.map (dR g))
 let k:aM:=nK κ L κ'
 have N:∀l∈L,l<s.heap.length:=λl d=>by
  rcases qAn.1 d with h|h
  ·exact I.lt l h
  exact(xO (I.res l h)).2
 have hkl:κ'.length=L.length:=by rw[f.klen];exact hH
 have hHL:H'.length=L.length:=hH;have y:∀i l,L[i]? =some l->obj? J l=dR g (obj? H' i):=λi l d=>by
  have c:=(qAy.1 d).1;have:=J4 L (H'.map (dR g)) s.heap i l I.nodup d (by rw[qAg];omega) (N l (qAG d));simp only[obj?,J,this,qAH]
  grind
 have n:∀l,l∉L->obj? J l=obj? s.heap l:=λl d=>by simp only[obj?,J,BU L _ _ l d]
 have p:∀i l,L[i]? =some l->at? k l=at? κ' i:=λi l d=>by have c:=(qAy.1 d).1;have:=J4 L κ' κ i l I.nodup d (by omega) (by rw[hs.klen];exact N l (qAG d));simp only[at?,k,this]
 have t:∀l,l∉L->at? k l=at? κ l:=λl d=>by simp only[at?,k,BU L _ _ l d]
 have O:∀i b,at? κ' i=some b->at? k (g i)=some b:=λi b G=>by
  have c:i<L.length:=by rw[<-hkl];exact lt_of_at? G
  have:g i=L[i]:=by simp only[g,nm,qAc c];rfl
  grind
 have P:=Ra (C:=C) (κ:=κ) I;have hpL:∀l∈L,l∉ρ->at? κ l=none:=λl d hn=>by
  rcases qAn.1 d with h|h
  ·exact(hn h).elim
  exact hs.resv l (xO (I.res l h)).1
 have A:∀x o,aD C.ak k J x o->aD (KZ C.ak κ s.heap ρ) κ' H' x o:=by
  rintro x o (h|⟨l,m,F⟩);·exact .inl (.inl h)
  by_cases d:l∈L;·obtain⟨i,c⟩:=qAR d;rw[p i l c]at m;rw[y i l c,FC]at F;exact .inr ⟨i,m,F⟩
  rw[t l d]at m;rw[n l d]at F;exact .inl (.inr ⟨l,λh=>d (qBy _ h),m,F⟩)
 have q:∀i l b,L[i]? =some l->at? κ' i=some b->live (obj? H' i)->w.heap.size<=b∨∃r Q,ρ[Q]? =some r/\at? κ r=some b/\live (obj? s.heap r):=λi l b c G d=>by
  rcases f.stay i b G d with h|⟨Q,m,F⟩
  ·exact .inl h
  rw[at?_map]at m;cases z:ρ[Q]? with
  |none=>rw[z]at m;cases m|some r=>rw[z]at m;exact .inr ⟨r,Q,z,m,by rw[I.obj Q r z,iH];exact F⟩
 have T:∀{x:AV} {u:Value},Rel w' κ' (aD (KZ C.ak κ s.heap ρ) κ' H') x u->Rel w' k (aD C.ak k J) (ren g x) u:=λhx=>(hx.ren O).mono (Evo.refl _ _) (dw.refl _) (λx o h _=>A x o h);have Y:Sim C k {s with heap:=J} a w':=by
  refine hs.step (H':=J) (by rw[<-P];exact f.kS) ?_ (by simp only[k,J,LZ];exact hs.klen) ?_ ?_ ?_ ?_ ?_ ?_ f.os f.tape f.output
  ·intro l b G;by_cases d:l∈L
   ·obtain⟨i,c⟩:=qAR d;rw[p i l c];apply f.kext;rw[at?_map];by_cases hr:l∈ρ
    ·have U:i<ρ.length:=by
      obtain⟨j,V⟩:=qAR hr;have hj':L[j]? =some l:=by rw[qAi (qAy.1 V).1];exact V
      have:i=j:=(qCo (qAy.1 c).1 I.nodup).1 (c.trans hj'.symm);rw[this];exact(qAy.1 V).1
     rw[qAi U]at c;rw[c];exact G
    rw[hpL l d hr]at G;cases G
   rw[t l d];exact G
  ·intro x o h U;rw[<-P];exact f.pvsub x o (A x o h) U
  ·intro l b m F;by_cases d:l∈L
   ·obtain⟨i,c⟩:=qAR d;rw[p i l c]at m;rw[y i l c,iH]at F;refine .inr ⟨f.bound i b m,λho=>?_,?_⟩
    ·rcases q i l b c m F with h|⟨r,Q,_,Z,h4⟩
     ·have:=hs.oldlt b ho;have:=hs.size;omega
     exact hs.own r b Z h4 ho
    rw[y i l c];have:=(f.obj i b m F).ren O;exact this.mono rfl (Evo.refl _ _) (dw.refl _) (λx o h _=>A x o h)
   rw[t l d]at m;rw[n l d]at F|-;refine .inl ⟨m,rfl,f.kept b (hs.bound l b m) λi c B=>?_⟩;rw[at?_map]at c;cases z:ρ[i]? with|none=>rw[z]at c;cases c|some r=>rw[z]at c;have e:=hs.apart l r b m c F (by rw[I.obj i r z,iH];exact B);subst e;exact d (qBy _ (qAG z))
  ·intro D E b K M R S;by_cases W:D∈L<;>by_cases X:E∈L
   ·obtain⟨i,c⟩:=qAR W;obtain⟨j,V⟩:=qAR X;rw[p i D c]at K;rw[p j E V]at M;rw[y i D c,iH]at R;rw[y j E V,iH]at S;have:=f.apart i j b K M R S;subst this;exact Option.some.inj (c.symm.trans V)
   ·obtain⟨i,c⟩:=qAR W;rw[p i D c]at K;rw[y i D c,iH]at R;rw[t E X]at M;rw[n E X]at S;rcases q i D b c K R with h|⟨r,Q,z,Z,h4⟩
    ·have:=hs.bound E b M;omega
    have e:=hs.apart E r b M Z S h4;subst e;exact(X (qBy _ (qAG z))).elim
   ·obtain⟨i,c⟩:=qAR X;rw[p i E c]at M;rw[y i E c,iH]at S;rw[t D W]at K;rw[n D W]at R;rcases q i E b c M S with h|⟨r,Q,z,Z,h4⟩
    ·have:=hs.bound D b K;omega
    have e:=hs.apart D r b K Z R h4;subst e;exact(W (qBy _ (qAG z))).elim
   rw[t D W]at K;rw[t E X]at M;rw[n D W]at R;rw[n E X]at S;exact hs.apart D E b K M R S
  ·intro l b m;by_cases d:l∈L
   ·obtain⟨i,c⟩:=qAR d;rw[p i l c]at m;exact f.bound i b m
   rw[t l d]at m;exact qAD (hs.bound l b m) f.kS.size
  ·intro l m;by_cases d:l∈L
   ·obtain⟨i,c⟩:=qAR d;rw[y i l c]at m;rw[p i l c];apply f.resv
    revert m
    cases obj? H' i<;>simp[dR]
   rw[n l d]at m;rw[t l d];exact hs.resv l m
  intro b G;refine f.kept b (qAD (hs.oldlt b G) hs.size) λi c B=>?_;rw[at?_map]at c;cases z:ρ[i]? with|none=>rw[z]at c;cases c|some r=>rw[z]at c;exact hs.own r b c (by rw[I.obj i r z,iH];exact B) G
 refine⟨k,?_,?_⟩;·rw[Li];exact Y
 rw[Li];exact T hr
end
end
section
open Go
def kE(P:Program)(f:Nat):Bool:=
 match P.funcs[f]? with|some n=>!n.name== "runtime.NumGoroutine"&&n.body.isSome|none=>false
theorem BM{P f args w}(h:kE P f=true):(callFunc f args).run P w=.ok (.enter f args) w:=by
 unfold kE at h;split at h
 ·rename_i n a;simp only[qAb,qAS]at h;obtain⟨b,c⟩:=h;have d:n.body.isNone=false:=by cases e:n.body<;>simp[e]at c|-
  simp only[callFunc,Sem.run_bind,run_program,Result.andThen_ok,a,b,d];rfl
 cases h
theorem aBw{P o s n args argTypes f c r ρ k H H'}{res:AV}
  (A:o.op=.call {callee:=.value n,args,argTypes}) (B:bC s.tmps n=.func f c) (q:kE P f=true) (p:Passes s ρ k H) (D:H'.length=(ρ++k).length)
  (h:SWs (args.toList.map (bC s.tmps)++c) (r.map (ren (nm (ρ++k) s.heap.length)))) (E:cK P f r H res H'):
  xX P o s (s.wr (kU (ρ++k) (H'.map (dR (nm (ρ++k) s.heap.length)))++au o.dst (ren (nm (ρ++k) s.heap.length) res))):=by
 intro C d a w g next Q F
 have i:=g.ev n;rw[B]at i;obtain⟨z,G,S,T⟩:=i.Jr
 let b:List Value:=args.toList.map a.eval++z
 have l:b.length=r.length:=by
  have:=h.len
  grind
 have u:(execOp a.eval o).run P w=.ok (.enter f b.toArray) w:=by
  have I:args.map a.eval++z.toArray=b.toArray:=by grind
  simp[execOp,A,resolve,G,Deferred.ofValue,invoke,BM q,I]
 have m:∀j,j<r.length->Rel w (ρ.map (at? d)) (aD (KZ C.ak d s.heap ρ) (ρ.map (at? d)) H) (r.getD j .unk) (b.getD j undef):=λj U=>by
  rw[Ra p];have J:(r.map (ren (nm (ρ++k) s.heap.length))).getD j .unk=ren (nm (ρ++k) s.heap.length) (r.getD j .unk):=by grind
  have:Rel w d (aD C.ak d s.heap) ((args.toList.map (bC s.tmps)++c).getD j .unk) (b.getD j undef):=by
   by_cases t:j<args.toList.length
   ·have K:(args.toList.map (bC s.tmps)++c).getD j .unk=bC s.tmps args.toList[j]:=by grind
    have L:b.getD j undef=a.eval args.toList[j]:=by simp only[b];rw[List.getD,qAi (by simpa using t),qAH,qAc t];rfl
    rw[K,L];exact g.ev _
   grind
  replace this:=(h.get j).rel this;rw[J]at this;exact this.AU (akB g p) _ rfl
 unfold Oper.wp;rw[u];refine(E _ _ _ b (ao6 g p) l m).mono ?_;rintro e V ⟨v,M,rfl,x,N⟩;obtain⟨y,O,R⟩:=g.back p x D N;refine F y _ _ ?_;rw[Fw];exact O.au o.dst R
def cZ(P)(c:Code)(Q:Exit->ASt->Prop)s:=
 ∀C f a w,Sim C f s a w->c.wp P (λe g h=>∃d b,Q e d/\Sim C b d g h) a w
theorem cZ.skip{P Q s}(h:Q .normal s):cZ P .skip Q s:=λ_ a _ _ b=>wp_skip ⟨s,a,h,b⟩
theorem cZ.ret{P Q s}(h:Q .ret s):cZ P .ret Q s:=λ_ a _ _ b=>wp_ret ⟨s,a,h,b⟩
theorem cZ.exit{P Q s id}(h:Q (.exit id) s):cZ P (.exit id) Q s:=λ_ a _ _ b=>wp_exit ⟨s,a,h,b⟩
def dY(ops:Array Oper)(tmps:List AV)(o:Oper):=
 match o.guard with|none=>some true|some (j,w)=>match(ops[j]?).bind (·.dst)with|none=>none|some d=>match tmps.getD d .unk with| .bool b=>some (b==w)| .tup []=>some false|_=>none
theorem lN{C}{κ}{s}{a}{w}(hs:Sim C κ s a w){ops}{o}{b}(h:dY ops s.tmps o=some b):Region.wanted o (yielded ops a.tmps)=b:=by
 unfold dY at h;unfold Region.wanted;cases g:o.guard with
 |none=>rw[g]at h;simpa using h|some p=>
  obtain⟨j,n⟩:=p;rw[g]at h;simp only at h|-;unfold yielded;cases f:(ops[j]?).bind (·.dst)with
  |none=>rw[f]at h;cases h|some d=>
   rw[f]at h;simp only at h;have r:=hs.ev (.tmp d);simp only[bC,Act.eval]at r;split at h
   ·rename_i x c;rw[c]at r;have e:=r.O9;have l:d<a.tmps.size:=by apply qAp;intro i;rw[qAq,Array.getElem?_eq_none (qBb i)]at e;cases e
    simp_all
   ·rename_i c;rw[c]at r;obtain⟨v,e,k,_⟩:=r.aky;have:v=[]:=qAI.1 k;by_cases l:d<a.tmps.size
    ·simp_all
    grind
   cases h
def aB2 P ops o s s':=
 dY ops s.tmps o=some true/\xX P o s s'∨dY ops s.tmps o=some false/\s'=s.wr (au o.dst (.tup []))
inductive ASteps(P:Program)(ops:Array Oper):List Oper→ASt→ASt→Prop where
 |nil (s:ASt):ASteps P ops [] s s
 |cons {o:Oper} {l:List Oper} {s s1 s2:ASt}:aB2 P ops o s s1→ASteps P ops l s1 s2→ASteps P ops (o::l) s s2
theorem agI{P}{ops}{Q}{l}{s s'}(h:ASteps P ops l s s'):∀C κ a w,Sim C κ s a w->(∀κ' c w',Sim C κ' s' c w'->Q .normal c w')->wpList P ops Q l a w:=by
 induction h with|nil s=>exact λC κ a w b q=>q κ a w b|cons f _ i=>
  intro C κ a w b q;simp only[wpList];rcases f with⟨d,t⟩|⟨d,rfl⟩
  ·rw[lN b d];exact .inl (t C κ a w b _ _ λκ' c w' e=>i C κ' c w' e q)
  rw[lN b d];exact i C κ _ w (b.au _ kC) q
theorem Sim.reserve{C κ s a w}(h:Sim C κ s a w) n:Sim C (κ++List.replicate n none) {s with heap:=s.heap++List.replicate n .res} a w:=by
 have t:∀l,at? (κ++List.replicate n none) l=at? κ l:=λl=>by
  unfold at?
  grind
 have d:∀l,l<s.heap.length->obj? (s.heap++List.replicate n .res) l=obj? s.heap l:=λl i=>by unfold obj?;rw[qAi i]
 have e:∀l b,at? κ l=some b->l<s.heap.length:=λl b g=>by rw[<-h.klen];exact lt_of_at? g
 refine h.step (κ':=κ++List.replicate n none) (H':=s.heap++List.replicate n .res) (Evo.refl _ _) (λl b g=>by rw[t];exact g) (by simp[h.klen]) ?_ ?_ ?_ ?_ ?_ (λ_ _=>rfl) rfl rfl rfl
 ·rintro b o (g|⟨l,c,f⟩) _
  ·exact .inl g
  rw[t]at c;rw[d l (e l b c)]at f;exact .inr ⟨l,c,f⟩
 ·grind
 ·intro l j b c f k m;rw[t]at c f;rw[d l (e l b c)]at k;rw[d j (e j b f)]at m;exact h.apart l j b c f k m
 ·intro l b c;rw[t]at c;exact h.bound l b c
 intro l c;rw[t];by_cases i:l<s.heap.length;·rw[d l i]at c;exact h.resv l c
 exact at?_none_of_le (by rw[h.klen];exact qBb i)
def ASt.reserve(s:ASt)(n:Nat):ASt:={s with heap:=s.heap++List.replicate n .res}
theorem cZ.region{P}{id}{l}{Q}{s s'} n (h:ASteps P l.toArray l (s.reserve n) s')(q:Q .normal s'):cZ P (.region id l.toArray false) Q s:=by exact λC d a w c=>wp_region_lit (agI h C _ a w (c.reserve n) λκ' e f b=>⟨s',κ',q,b⟩)
end
section
open Go
theorem uO{α β:Type}{f g:α->β}:∀(l:List α),(∀x∈l,f x=g x)->l.map f=l.map g|[],_=>rfl|x::l,h=>by simp only[qAz];rw[h x (by simp),uO l (λy a=>h y (by simp[a]))]
theorem ZO{ρ a:Operand->AV} o (h:∀x,o=some x->a x=ρ x):o.map a=o.map ρ:=by
 cases o with|none=>rfl|some x=>simp;rw[h x rfl]
theorem apb{P}{op}{ρ d}(h:∀x∈op.operands,d x=ρ x):aB P op d=aB P op ρ:=by
 cases op with
 |move x=>simp only[aB];rw[h x (by simp[Op.operands])]|assign x=>simp only[aB];rw[h x (by simp[Op.operands])]|pick c x y=>simp only[aB];rw[h c (by simp[Op.operands]),h x (by simp[Op.operands]),h y (by simp[Op.operands])]|nilCheck x=>simp only[aB];rw[h x (by simp[Op.operands])]|binOp op t x y t2=>simp only[aB];rw[h x (by simp[Op.operands]),h y (by simp[Op.operands])]|unOp op t x=>simp only[aB];rw[h x (by simp[Op.operands])]|fieldAddr s x f=>simp only[aB];rw[h x (by simp[Op.operands])]|field s x f=>simp only[aB];rw[h x (by simp[Op.operands])]|indexAddr t x i=>simp only[aB];rw[h x (by simp[Op.operands]),h i (by simp[Op.operands])]|index t x i=>simp only[aB];rw[h x (by simp[Op.operands]),h i (by simp[Op.operands])]|extract x i=>simp only[aB];rw[h x (by simp[Op.operands])]|slice t x lo hi mx=>
  cases mx with|some m=>rfl|none=>simp only[aB];rw[h x (by simp[Op.operands]),ZO lo (λy k=>h y (by subst k;simp[Op.operands])),ZO hi (λy k=>h y (by subst k;simp[Op.operands]))]
 |build t r=>
  simp only[aB];rw[uO (f:=λp=>(p.1,d p.2)) (g:=λp=>(p.1,ρ p.2)) r.toList (λp hp=>by rw[h p.2 (by simp only[Op.operands];exact List.mem_toArray.2 (qAA.2 ⟨p,hp,rfl⟩))])]
 |makeFunc fn first a=>
  cases fn with
  |func f=>simp only[aB];rw[uO (f:=d) (g:=ρ) a.toList (λx hx=>h x (by simp only[Op.operands];exact qBC.2 (.inr (qBu.1 hx))))]
  |_=>rfl
 |load t x=>simp only[aB];rw[h x (by simp[Op.operands])]|convert s t x=>simp only[aB];rw[h x (by simp[Op.operands])]|call c=>
  obtain⟨l,args,j⟩:=c;cases l with
  |builtin b=>
   cases b<;>try rfl
   case len=>
    simp only[aB];split;·rename_i x t e ht;rw[h x (by simp only[Op.operands,Call.operands];exact qBC.2 (.inr (qBu.1 (by rw[e];simp))))]
    rfl
   case max=>
    simp only[aB];split;·rename_i x y e;rw[h x (by simp only[Op.operands,Call.operands];exact qBC.2 (.inr (qBu.1 (by rw[e];simp)))),
      h y (by simp only[Op.operands,Call.operands];exact qBC.2 (.inr (qBu.1 (by rw[e];simp))))]
    rfl
   case min=>
    simp only[aB];split;·rename_i x y e;rw[h x (by simp only[Op.operands,Call.operands];exact qBC.2 (.inr (qBu.1 (by rw[e];simp)))),
      h y (by simp only[Op.operands,Call.operands];exact qBC.2 (.inr (qBu.1 (by rw[e];simp))))]
    rfl
  |_=>rfl
 |_=>rfl
theorem Zl{P}{k}{o}{ρ D}{σ I}{rd}{ws}(h:aJ P k o ρ σ=some (rd,ws))(f:∀x∈o.op.operands,D x=ρ x)(a:∀l∈rd,I l=σ l):
  aJ P k o D I=some (rd,ws):=by
 obtain⟨dst,V,ty,pos,Q,R⟩:=o;unfold aJ at h|-;rw[apb f];cases M:aB P V ρ with
 |some v=>simp only[M]at h|-;exact h
 |none=>
  simp only[M]at h|-;simp only at f;cases V<;>(try simp only[reduceCtorEq]at h|-)
  case load t x=>
   rw[f x (by simp[Op.operands])];split at h
   ·rename_i l E N;split at h
    ·rename_i S j;have d:rd=[l]:=by
      cases J:jB P t (S.drop E)with
      |none=>rw[J]at h;cases h|some v=>rw[J]at h;simp at h;exact h.1.symm
     rw[a l (by rw[d];simp),j];exact h
    ·rename_i z F j;split at h
     ·rename_i g;have d:rd=[l]:=by
       cases J:jB P t (F.getD (E/z) [])with
       |none=>rw[J]at h;cases h|some v=>rw[J]at h;simp at h;exact h.1.symm
      rw[a l (by rw[d];simp),j];simp only;rw[if_pos g];exact h
     cases h
    cases h
   cases h
  case store t x y=>
   rw[f x (by simp[Op.operands]),f y (by simp[Op.operands])];split at h
   ·rename_i l E vs N T;split at h
    ·rename_i S j;split at h
     ·rename_i g;have d:rd=[l]:=by simp at h;exact h.1.symm
      rw[a l (by rw[d];simp),j];simp only;rw[if_pos g];exact h
     cases h
    ·rename_i z F j;split at h
     ·rename_i g;have d:rd=[l]:=by simp at h;exact h.1.symm
      rw[a l (by rw[d];simp),j];simp only;rw[if_pos g];exact h
     rename_i hn;split at h
     ·rename_i g;have d:rd=[l]:=by simp at h;exact h.1.symm
      rw[a l (by rw[d];simp),j];simp only;rw[if_neg hn,if_pos g];exact h
     cases h
    cases h
   cases h
  case alloc t=>
   split at h
   ·rename_i w;have d:rd=[k]:=by
     cases A:kr P t with
     |none=>rw[A]at h;cases h|some z=>rw[A]at h;simp at h;exact h.1.symm
    rw[a k (by rw[d];simp),if_pos w];exact h
   cases h
  case box t x=>
   rw[f x (by simp[Op.operands])];split at h
   ·rename_i w;have d:rd=[k]:=by
     cases A:dS (ρ x)with|none=>rw[A]at h;cases h|some z=>rw[A]at h;simp at h;exact h.1.symm
    rw[a k (by rw[d];simp),if_pos w];exact h
   cases h
  case makeMap t r=>
   cases r with
   |none=>
    simp only at h|-;split at h
    ·rename_i w;have d:rd=[k]:=by simp at h;exact h.1.symm
     rw[a k (by rw[d];simp),if_pos w];exact h
    cases h
   |some x=>cases h
  case makeSlice t x y=>
   rw[f x (by simp[Op.operands]),f y (by simp[Op.operands])];split at h
   ·rename_i e G B kl l kc c W N T;split at h
    ·rename_i z A;split at h
     ·rename_i g;have d:rd=[k]:=by simp at h;exact h.1.symm
      rw[a k (by rw[d];simp)];rw[if_pos g];exact h
     cases h
    cases h
   cases h
  case buildSlice t len parts=>
   have W:(parts.toList.map λp=>(p.1,D p.2))=parts.toList.map λp=>(p.1,ρ p.2):=uO _ (λp M=>by rw[f p.2 (by simp only[Op.operands];exact List.mem_toArray.2 (qAA.2 ⟨p,M,rfl⟩))])
   rw[W];split at h
   ·rename_i e G B q;split at h
    ·rename_i z A;split at h
     ·rename_i g;have d:rd=[k]:=by
       cases X:kg (λi=>some (i*G,G)) ((List.replicate len z).flatten) (parts.toList.map λp=>(p.1,ρ p.2))with
       |none=>rw[X]at h;cases h|some S=>rw[X]at h;simp at h;exact h.1.symm
      rw[a k (by rw[d];simp),if_pos g];exact h
     cases h
    cases h
   cases h
  case call c=>
   obtain⟨C,Y,H⟩:=c;cases C with
   |builtin b=>
    cases b<;>(try simp only[reduceCtorEq]at h|-);split at h
    ·rename_i x y t t2 Z O;have N:=f x (by simp only[Op.operands,Call.operands];exact qBC.2 (.inr (qBu.1 (by rw[Z];simp))));have T:=f y (by simp only[Op.operands,Call.operands];exact qBC.2 (.inr (qBu.1 (by rw[Z];simp))));rw[N,T];split at h
     ·rename_i e G B F ys K q L s u
      try simp only[q,L,s,u]
      split at h
      ·rename_i g;have d:rd=[k]:=by simp at h;exact h.1.symm
       rw[a k (by rw[d];simp),if_pos g];exact h
      cases h
     ·rename_i e G B F l z ys K q L s u
      try simp only[q,L,s,u]
      split at h
      ·rename_i n j;split at h
       ·rename_i g;have d:rd=[l,k]:=by simp at h;exact h.1.symm
        rw[a k (by rw[d];simp),a l (by rw[d];simp),j];simp only;rw[if_pos g];exact h
       cases h
      cases h
     ·rename_i e G B l z n ys K q L s u
      try simp only[q,L,s,u]
      split at h
      ·rename_i z' F j;split at h
       ·rename_i g;have d:rd=[l,k]:=by simp at h;exact h.1.symm
        rw[a k (by rw[d];simp),a l (by rw[d];simp),j];simp only;rw[if_pos g];exact h
       cases h
      cases h
     cases h
    cases h
   |_=>cases h
  case lookup t m key ok=>
   rw[f m (by simp[Op.operands]),f key (by simp[Op.operands])];split at h
   ·rename_i e l k' O U w
    try simp only[O,U,w]
    split at h
    ·rename_i F z j A;have d:rd=[l]:=by simp at h;exact h.1.symm
     rw[a l (by rw[d];simp),j,A];exact h
    cases h
   cases h
  case mapUpdate t m key x=>
   rw[f m (by simp[Op.operands]),f key (by simp[Op.operands]),f x (by simp[Op.operands])];split at h
   ·rename_i e l k' O U w
    try simp only[O,U,w]
    split at h
    ·rename_i F j;split at h
     ·rename_i g;have d:rd=[l]:=by simp at h;exact h.1.symm
      rw[a l (by rw[d];simp),j];simp only;rw[if_pos g];exact h
     cases h
    cases h
   cases h
end
section
open Go
structure Eff where
 rs:List Nat
 ro:List Nat
 ws:List Wr
def iD(ws:List Wr):=ws.filterMap λ| .slot n _=>some n|_=>none
def je(ws:List Wr):=ws.filterMap λ| .obj n _=>some n|_=>none
def nI:List Wr->Nat->Option AV|[],_=>none| .slot m v::w,n=>(nI w n).or (if m=n then some v else none)| .obj _ _::w,n=>nI w n
def nG:List Wr->Nat->Option AObj|[],_=>none| .obj m v::w,n=>(nG w n).or (if m=n then some v else none)| .slot _ _::w,n=>nG w n
theorem bT a:∀s:ASt,(s.wr a).tmps.length=s.tmps.length/\(s.wr a).heap.length=s.heap.length:=by
 induction a with|nil=>intro s;exact⟨rfl,rfl⟩|cons w a i=>intro s;have:=i (s.wr1 w);refine⟨this.1.trans ?_,this.2.trans ?_⟩<;>cases w<;>simp[ASt.wr1,ASt.setSlot,ASt.setObj]
theorem uL a n:∀s:ASt,n<s.tmps.length->(s.wr a).tmps.getD n .unk=(nI a n).getD (s.tmps.getD n .unk):=by
 induction a with
 |nil=>intro s _;rfl|cons w a i=>
  intro s h;have b:=i (s.wr1 w) (by cases w<;>simpa[ASt.wr1,ASt.setSlot,ASt.setObj]using h);refine b.trans ?_;cases w with
  |slot m v=>
   simp only[nI];cases nI a n with|some x=>rfl|none=>
    by_cases e:m=n;·subst e;rw[if_pos rfl];exact kK h
    rw[if_neg e];exact ou e
  |obj m v=>rfl
theorem qX a n:∀s:ASt,n<s.heap.length->obj? (s.wr a).heap n=(nG a n).getD (obj? s.heap n):=by
 induction a with
 |nil=>intro s _;rfl|cons w a i=>
  intro s h;have b:=i (s.wr1 w) (by cases w<;>simpa[ASt.wr1,ASt.setSlot,ASt.setObj]using h);refine b.trans ?_;cases w with
  |obj m v=>
   simp only[nG];cases nG a n with|some x=>rfl|none=>
    by_cases e:m=n;·subst e;rw[if_pos rfl];exact obj?_set_same h
    rw[if_neg e];exact obj?_set_other e
  |slot m v=>rfl
theorem G7 a b n:nI (a++b) n=(nI b n).or (nI a n):=by
 induction a with|nil=>simp[nI]|cons w a i=>cases w<;>simp[nI,i,Option.or_assoc]
theorem H8 a b n:nG (a++b) n=(nG b n).or (nG a n):=by
 induction a with|nil=>simp[nG]|cons w a i=>cases w<;>simp[nG,i,Option.or_assoc]
theorem Vm{ws}{n}(h:n∉iD ws):nI ws n=none:=by
 induction ws with|nil=>rfl|cons w ws i=>
  cases w with|slot m v=>simp only[iD,qBI,qAh,not_or]at h;simp only[nI,i h.2,qCy,if_neg (qBr h.1)]|obj m v=>simp only[iD]at h;exact i h
theorem Vj{ws}{n}(h:n∉je ws):nG ws n=none:=by
 induction ws with|nil=>rfl|cons w ws i=>
  cases w with|obj m v=>simp only[je,qBI,qAh,not_or]at h;simp only[nG,i h.2,qCy,if_neg (qBr h.1)]|slot m v=>simp only[je]at h;exact i h
theorem ASt.ext'{s t:ASt}(h:s.tmps.length=t.tmps.length)(h2:s.heap.length=t.heap.length)(e:∀n,n<s.tmps.length->s.tmps.getD n .unk=t.tmps.getD n .unk)(c:∀n,n<s.heap.length->obj? s.heap n=obj? t.heap n):s=t:=by
 obtain⟨a,b⟩:=s;congr 1
 ·apply qBV h
  grind
 apply qBV h2;intro n g d;have:=c n g;simpa[obj?,g,d]using this
def bG(D:Nat->Bool):Nat->List Eff->List Wr|_,[]=>[]|k,e::s=>(if D k then e.ws else[])++bG D (k+1) s
theorem IL{D D'}{n}:∀es k,(∀i e,es[i]? =some e->n∈iD e.ws->D (k+i)=D' (k+i))->nI (bG D k es) n=nI (bG D' k es) n:=by
 intro es
 induction es with|nil=>intro k _;rfl|cons e es b=>
  intro k h;simp only[bG,G7];rw[b (k+1) (λi f c a=>by have:=h (i+1) f (by simpa using c) a;rwa[show k+(i+1)=k+1+i from by omega]at this)];by_cases a:n∈iD e.ws;·have:=h 0 e (by simp) a;rw[qAP]at this;rw[this]
  have:=Vm a;cases D k<;>cases D' k<;>simp[this,nI]
theorem FI{D D'}{n}:∀es k,(∀i e,es[i]? =some e->n∈je e.ws->D (k+i)=D' (k+i))->nG (bG D k es) n=nG (bG D' k es) n:=by
 intro es
 induction es with|nil=>intro k _;rfl|cons e es b=>
  intro k h;simp only[bG,H8];rw[b (k+1) (λi f c a=>by have:=h (i+1) f (by simpa using c) a;rwa[show k+(i+1)=k+1+i from by omega]at this)];by_cases a:n∈je e.ws;·have:=h 0 e (by simp) a;rw[qAP]at this;rw[this]
  have:=Vj a;cases D k<;>cases D' k<;>simp[this,nG]
theorem Wx{ws}{n}(h:n∈iD ws):∃v,nI ws n=some v:=by
 induction ws with|nil=>cases h|cons w ws i=>
  cases w with
  |slot m v=>
   simp only[iD,qBI,qAh]at h;simp only[nI];cases l:nI ws n with|some x=>exact⟨x,rfl⟩|none=>
    rcases h with h|h
    ·simp_all
    obtain⟨x,a⟩:=i h;rw[l]at a;cases a
  |obj m v=>simp only[iD]at h;exact i h
theorem apW{D}{n}:∀es k i e,es[i]? =some e->D (k+i)=true->n∈iD e.ws->(∀j f,es[j]? =some f->i<j->D (k+j)=true->n∉iD f.ws)->nI (bG D k es) n=nI e.ws n:=by
 intro es
 induction es with|nil=>intro k i e h;simp at h|cons f es a=>
  intro k i e b c w o;simp only[bG,G7];cases i with
  |zero=>
   simp at b;subst b;rw[qAP]at c;have r:nI (bG D (k+1) es) n=nI (bG (λ_=>false) (k+1) es) n:=IL es (k+1) (λi g l m=>by
    cases d:D (k+1+i)with
    |false=>rfl|true=>exact(o (i+1) g (by simpa using l) (by omega) (by rw[show k+(i+1)=k+1+i from by omega];exact d) m).elim)
   have z:∀(es:List Eff) (k:Nat),bG (λ_=>false) k es=[]:=λes=>by
    induction es with|nil=>intro k;rfl|cons e es a=>intro k;simp[bG,a]
   rw[r,z,c];simp[nI]
  |succ i=>have:=a (k+1) i e (by simpa using b) (by rw[show k+1+i=k+(i+1)from by omega];exact c) w (λj g l t d=>o (j+1) g (by simpa using l) (by omega) (by rw[show k+(j+1)=k+1+j from by omega];exact d));rw[this];obtain⟨v,p⟩:=Wx w;rw[p];rfl
theorem Xf{ws}{n}(h:n∈je ws):∃v,nG ws n=some v:=by
 induction ws with|nil=>cases h|cons w ws i=>
  cases w with
  |obj m v=>
   simp only[je,qBI,qAh]at h;simp only[nG];cases l:nG ws n with|some x=>exact⟨x,rfl⟩|none=>
    rcases h with h|h
    ·simp_all
    obtain⟨x,a⟩:=i h;rw[l]at a;cases a
  |slot m v=>simp only[je]at h;exact i h
theorem aq6{D}{n}:∀es k i e,es[i]? =some e->D (k+i)=true->n∈je e.ws->(∀j f,es[j]? =some f->i<j->D (k+j)=true->n∉je f.ws)->nG (bG D k es) n=nG e.ws n:=by
 intro es
 induction es with|nil=>intro k i e h;simp at h|cons f es a=>
  intro k i e b c w o;simp only[bG,H8];cases i with
  |zero=>
   simp at b;subst b;rw[qAP]at c;have r:nG (bG D (k+1) es) n=nG (bG (λ_=>false) (k+1) es) n:=FI es (k+1) (λi g l m=>by
    cases d:D (k+1+i)with
    |false=>rfl|true=>exact(o (i+1) g (by simpa using l) (by omega) (by rw[show k+(i+1)=k+1+i from by omega];exact d) m).elim)
   have z:∀(es:List Eff) (k:Nat),bG (λ_=>false) k es=[]:=λes=>by
    induction es with|nil=>intro k;rfl|cons e es a=>intro k;simp[bG,a]
   rw[r,z,c];simp[nG]
  |succ i=>have:=a (k+1) i e (by simpa using b) (by rw[show k+1+i=k+(i+1)from by omega];exact c) w (λj g l t d=>o (j+1) g (by simpa using l) (by omega) (by rw[show k+(j+1)=k+1+j from by omega];exact d));rw[this];obtain⟨v,p⟩:=Xf w;rw[p];rfl
end
end Abs
end Go.Proofs.YtneeginmfjageaaGreat
