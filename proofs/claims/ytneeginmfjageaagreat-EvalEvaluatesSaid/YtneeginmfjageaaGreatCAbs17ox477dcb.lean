/- Maps; private memory. Conditions: none. -/
import Derived.Deep.LoopGhost
import Derived.Test.YtneeginmfjageaaGreatCAbs12ox905869
set_option linter.all false
namespace Go.Proofs.YtneeginmfjageaaGreat
namespace Abs
def Rel.uN{w:World}{κ:aS}{pv:bU}{x:AV}{v:Value}(h:Rel w κ pv x v):Rel w κ pv (uN x) v:=by
 unfold Abs.uN;split;·rename_i s;let⟨d,e,b,c⟩:=h.avH;rw[e];refine .agg (by simpa using b) λj a=>?_;rw[qAi]at a;rw[ac5];exact(c j a).shr
 exact h.shr
def abq(s t:By):((⟨s.toArray⟩:ByteArray)==⟨t.toArray⟩)=(s==t):=by show((ByteArray.mk s.toArray).data==(ByteArray.mk t.toArray).data)=(s==t);simp
section
variable {P:Program}{w:World}{κ:aS}{pv:bU}
def findNow_spec(s:By):∀(l:List MapEntry) (es:List (By×AV)) (i:Nat),l.length=es.length->
  (∀j,j<es.length->(l.getD j default).key=.string ⟨((es.getD j ([],.unk)).1).toArray⟩/\Rel w κ pv (es.getD j ([],.unk)).2 (l.getD j default).val)->
  (match tN es s with
   |some v=>∃n x,Instr.findNow .string (.string ⟨s.toArray⟩) l i=some (some (i+n,x))/\Rel w κ pv v x/\n<l.length/\(l.getD n default).key=.string ⟨s.toArray⟩/\(∀y,I9 es s y=es.set n (s,y))
   |none=>Instr.findNow .string (.string ⟨s.toArray⟩) l i=some none/\∀y,I9 es s y=es++[(s,y)]):=by
 intro l
 induction l with
 |nil=>
  intro es i c _;cases es with
  |nil=>exact⟨rfl,λy=>rfl⟩
  |cons=>simp at c
 |cons m l q=>
  intro es i c h;cases es with
  |nil=>simp at c
  |cons p es=>
   let⟨k,v⟩:=p;have g:=h 0 cn;simp only[List.getD,qAG,qAw]at g;let⟨a,d⟩:=g;by_cases b:k=s
   ·subst b;have e:tN ((k,v)::es) k=some v:=by simp[tN]
    rw[e];refine⟨0,m.val,?_,d,by simp,by simpa using a,λy=>by simp[I9]⟩;have f:((⟨k.toArray⟩:ByteArray)==⟨k.toArray⟩)=true:=by rw[abq];simp
    simp only[Instr.findNow,a,Instr.sameNow,f,qAS]
   have e:tN ((k,v)::es) s=tN es s:=by simp[tN,qCd,b]
   have f:((⟨s.toArray⟩:ByteArray)==⟨k.toArray⟩)=false:=by rw[abq];simpa using λe=>b e.symm
   have r:Instr.findNow .string (.string ⟨s.toArray⟩) (m::l) i=Instr.findNow .string (.string ⟨s.toArray⟩) l (i+1):=by
    simp only[Instr.findNow,a,Instr.sameNow,f]
   have:=q es (i+1) (by simpa using c) (λj t=>by have:=h (j+1) (by simpa using t);simpa[List.getD]using this);rw[e,r];cases o:tN es s with
   |none=>
    rw[o]at this;refine⟨this.1,λy=>?_⟩;simp[I9,b,this.2 y]
   |some D=>
    rw[o]at this;let⟨n,x,u,z,A,B,C⟩:=this;refine⟨n+1,x,by rw[u];simp;omega,z,by simpa using A,by simpa[List.getD]using B,λy=>?_⟩;simp[I9,b,C y]
def abe{t e:Nat}(h:uK P t=some e):∃k,P.underlying t=some (.map k e)/\P.underlying k=some .string:=by
 unfold uK at h
 grind
def run_checkKey{k:Nat}{b:Bool}{s:ByteArray}(a:P.underlying k=some .string):(Instr.checkKey b 10000 k (.string s)).run P w=.ok () w:=by
 have h:∀n,(Instr.checkKey b (n+1) k (.string s)).run P w=.ok () w:=λn=>by simp[Instr.checkKey,run_underlying a]
 exact h 9999
def awN(v:Value):Rel w κ pv (apI v) v:=by
 unfold apI;split
 ·rename_i c;have e:c=c.toList.toArray:=by simp
  refine .agg cn λj h=>?_;have:(List.map ofConst c.toList.toArray.toList).getD j .unk=ofConst (c.toList.getD j undef):=by
   grind
  rw[this];exact xB _
 exact xB _
def aup{t:Nat}{z:AV}(h:NP P t=some z):∃v:Value,(∀w:World,(zeroValue t).run P w=.ok v w)/\∀(w:World) (κ:aS) (pv:bU),Rel w κ pv z v:=by
 unfold NP at h;cases a:P.info? t with|none=>rw[a]at h;cases h|some i=>rw[a]at h;simp only[qAb]at h;cases b:i.zero with|none=>rw[b]at h;cases h|some v=>rw[b]at h;simp at h;subst h;exact⟨v,λw=>by simp[zeroValue,typeInfo,a,b],λw κ pv=>awN v⟩
end
def Sim.map{C:Ctx}{κ:aS}{s:ASt}{a:Act}{w:World}(h:Sim C κ s a w){l b:Nat}{es:List (By×AV)}(d:at? κ l=some b)(o:obj? s.heap l=.mp es):
  ∃m c,w.heap[b]? =some (Obj.map m c)/\m.size=es.length/\aw3 m c (es.map (·.1))/\
   ∀j,j<es.length->(m.toList.getD j default).key=.string ⟨((es.getD j ([],.unk)).1).toArray⟩/\Rel w κ (aH C.ak κ s.heap) (es.getD j ([],.unk)).2 (m.toList.getD j default).val:=by
 have r:=h.obj l b d (by rw[o];trivial);rw[o]at r;let⟨m,e,f,g,i,k⟩:=r;refine⟨m,e,f,g,i,λj n=>?_⟩
 simp_all
def ax5{P:Program}{C:Ctx}{κ:aS}{s:ASt}{a:Act}{w:World}(h:Sim C κ s a w){t e l b:Nat}{es:List (By×AV)}{k:By}{z:AV}{ok:Bool}(D:uK P t=some e)(E:at? κ l=some b)(F:obj? s.heap l=.mp es)
  (G:NP P e=some z):∃u,(Instr.lookup t (.map (some b)) (.string ⟨k.toArray⟩) ok).run P w=.ok u w/\Rel w κ (aH C.ak κ s.heap) (ED (tN es k) ok z) u:=by
 let⟨o,H,I,J,N,K⟩:=h.map E F;let⟨O,i,c⟩:=abe D;let⟨q,r,y⟩:=aup G;have m:(getObj b).run P w=.ok (.map o H) w:=by simp[getObj,Sem.run,I]
 have f:=findNow_spec (w:=w) (κ:=κ) (pv:=aH C.ak κ s.heap) k o.toList es 0 (by simpa using J) K;have p:∀v x d,Rel w κ (aH C.ak κ s.heap) v x->Rel w κ (aH C.ak κ s.heap) (.tup [v,.bool d]) (.tuple #[x,.bool d]):=λv x d L=>by
  have:=Rel.tup (w:=w) (κ:=κ) (pv:=aH C.ak κ s.heap) (cs:=[v,.bool d]) (vs:=[x,.bool d]) rfl (λj M=>by
   match j,M with
   |0,_=>simpa[List.getD]using L
   |1,_=>simpa[List.getD]using Rel.bool d)
  grind
 cases g:tN es k with
 |none=>
  rw[g]at f;cases ok
  ·exact⟨q,by simp[Instr.lookup,run_underlying i,m,run_checkKey c,Instr.findKey,run_underlying c,f.1,r],y _ _ _⟩
  exact⟨.tuple #[q,.bool false],by simp[Instr.lookup,run_underlying i,m,run_checkKey c,Instr.findKey,run_underlying c,f.1,r],p _ _ _ (y _ _ _)⟩
 |some v=>
  rw[g]at f;let⟨n,x,A,B,_⟩:=f;cases ok
  ·exact⟨x,by simp[Instr.lookup,run_underlying i,m,run_checkKey c,Instr.findKey,run_underlying c,A],B⟩
  exact⟨.tuple #[x,.bool true],by simp[Instr.lookup,run_underlying i,m,run_checkKey c,Instr.findKey,run_underlying c,A],p _ _ _ B⟩
def Sim.azC{C:Ctx}{κ:aS}{s:ASt}{a:Act}{w:World}(h:Sim C κ s a w){l b:Nat}{es f:List (By×AV)}{N m:Array MapEntry}{O i:Nat}(r:at? κ l=some b)(t:obj? s.heap l=.mp es)(P:w.heap[b]? =some (Obj.map N O))
  (h2:m.size=f.length) (Q:aw3 m i (f.map (·.1)))
  (H:∀j,j<f.length->(m.getD j default).key=.string ⟨((f.getD j ([],.unk)).1).toArray⟩/\Rel w κ (aH C.ak κ s.heap) (f.getD j ([],.unk)).2 (m.getD j default).val):
  Sim C κ (s.setObj l (.mp f)) a {w with heap:=w.heap.setIfInBounds b (.map m i)}:=by
 have u:l<s.heap.length:=by rw[<-h.klen];exact lt_of_at? r
 have A:=h.bound l b r;have B:∀x:Nat,x≠b->(w.heap.setIfInBounds b (Obj.map m i))[x]? =w.heap[x]?:=λx D=>qCK (qBo D);have v:Evo (aH C.ak κ s.heap) w {w with heap:=w.heap.setIfInBounds b (.map m i)}:=by
  refine⟨by simp,λx o y _ I=>?_,λx c e z D=>?_⟩
  ·have R:x≠b:=λe=>by subst e;simp[World.cell?,P]at I
   simp only[World.cell?]at I|-
   grind
  grind
 have J:∀x o,aH C.ak κ (s.heap.set l (.mp f)) x o->x<w.heap.size->aH C.ak κ s.heap x o:=by
  rintro x o (D|⟨k,d,g⟩) _
  ·exact .inl D
  by_cases e:l=k
  ·subst e;exact .inr ⟨l,d,by rw[t];trivial⟩
  rw[obj?_set_other e]at g;exact .inr ⟨k,d,g⟩
 refine h.step (H':=s.heap.set l (.mp f)) v (dL.refl _) (by simp[h.klen]) J ?_ ?_ ?_ ?_ ?_ rfl rfl rfl
 ·intro k n d g;by_cases e:l=k
  ·subst e;rw[r]at d;cases d;refine .inr ⟨by simpa using A,h.own l b r (by rw[t];trivial),?_⟩;rw[obj?_set_same u];exact⟨m,i,by simp[A],h2,Q,λj K=>⟨(H j K).1,(H j K).2.mono v (dL.refl _) J⟩⟩
  rw[obj?_set_other e]at g|-;refine .inl ⟨d,rfl,B n λE=>?_⟩;subst E;exact e (h.apart l k n r d (by rw[t];trivial) g)
 ·intro L M n d g F G;refine h.apart L M n d g ?_ ?_
  ·by_cases e:l=L
   ·subst e;rw[t];trivial
   rwa[obj?_set_other e]at F
  by_cases e:l=M
  ·subst e;rw[t];trivial
  rwa[obj?_set_other e]at G
 ·intro k n q;simpa using h.bound k n q
 ·intro k p;by_cases e:l=k
  ·subst e;rw[obj?_set_same u]at p;cases p
  rw[obj?_set_other e]at p;exact h.resv k p
 intro n q;refine B n λE=>?_;subst E;exact h.own l n r (by rw[t];trivial) q
def ao6{P:Program}{C:Ctx}{κ:aS}{s:ASt}{a:Act}{w:World}(h:Sim C κ s a w){t e l b:Nat}{es:List (By×AV)}{k:By}{v:AV}{u:Value}(ht:uK P t=some e)(Q:at? κ l=some b)(R:obj? s.heap l=.mp es)
  (T:Rel w κ (aH C.ak κ s.heap) v u) (U:es.length<140737488355328) (D:k.length<=9223372036854775807):∃V,(Instr.mapUpdate t (.map (some b)) (.string ⟨k.toArray⟩) u).run P w=.ok () V/\Sim C κ (s.setObj l (.mp (I9 es k v))) a V:=by
 let⟨m,g,I,J,K,L⟩:=h.map Q R;let⟨kt,W,M⟩:=abe ht;have X:(getObj b).run P w=.ok (.map m g) w:=by simp[getObj,Sem.run,I]
 have d:∀o,(setObj b o).run P w=.ok () {w with heap:=w.heap.setIfInBounds b o}:=λo=>by simp[setObj,Sem.run,I]
 have E:=findNow_spec (w:=w) (κ:=κ) (pv:=aH C.ak κ s.heap) k m.toList es 0 (by simpa using J) L;cases i:tN es k with
 |none=>
  rw[i]at E;refine⟨{w with heap:=w.heap.setIfInBounds b (.map (m.push {key:=.string ⟨k.toArray⟩,val:=u,born:=g}) (g+1))},?_,?_⟩
  ·simp[Instr.mapUpdate,run_underlying W,X,run_checkKey M,Instr.findKey,run_underlying M,E.1,d]
  rw[E.2 v];have S:∀p∈es,p.1≠k:=λp hp e=>by
   have:=qCW.1 (Option.map_eq_none_iff.1 i) p hp;simp[e]at this
  refine h.azC Q R I (by simp[J]) ⟨by simp;omega,MapKept.stamped_push K.2.1 λx N e=>?_,λy c=>?_⟩ λj f=>?_
  ·let⟨j,f⟩:=qAR N;have F:j<es.length:=by have:=(qAH.1 f).1;simp at this;omega
   have Y:=(L j F).1;rw[List.getD,f,qAw,e]at Y;have h6:es.getD j ([],.unk)∈es:=by rw[List.getD,qAc F];exact qAO _
   refine S _ h6 ?_;have h7:=congrArg (λv=>match v with|Value.string s=>s.data.toList|_=>[]) Y
   simpa using h7.symm
  ·simp only[qBj,qAy,qCM,qAr,qAK]at c;rcases c with c|rfl
   ·exact K.2.2 y c
   exact D
  simp only[qAe,qAI]at f;by_cases G:j<es.length
  ·have q:(es++[(k,v)]).getD j ([],.unk)=es.getD j ([],.unk):=by simp[List.getD,qAg G]
   have r:(m.push {key:=.string ⟨k.toArray⟩,val:=u,born:=g}).getD j default=m.toList.getD j default:=by
    simp[qAq,List.getD,Array.getElem?_push,show j≠m.size by omega]
   rw[q,r];exact L j G
  obtain rfl:j=es.length:=by omega
  have q:(es++[(k,v)]).getD es.length ([],.unk)=(k,v):=by simp[List.getD]
  have r:(m.push {key:=.string ⟨k.toArray⟩,val:=u,born:=g}).getD es.length default={key:=.string ⟨k.toArray⟩,val:=u,born:=g}:=by
   simp[qAq,<-J]
  rw[q,r];exact⟨rfl,T⟩
 |some v0=>
  rw[i]at E;let⟨n,x,Z,_,B,O,g5⟩:=E;simp only[qBZ]at B;simp only[qAL]at Z;have H:((m[n]?).map (·.key)).getD (.string ⟨k.toArray⟩)=.string ⟨k.toArray⟩:=by
   rw[qBt B];simp only[List.getD,qCE,qBt B,qAw]at O;simpa using O
  have z:(Instr.keyThatStays (.string ⟨k.toArray⟩) (.string ⟨k.toArray⟩)).run P w=.ok (.string ⟨k.toArray⟩) w:=by
   have hb:((⟨k.toArray⟩:ByteArray)==⟨k.toArray⟩)=true:=by rw[abq];simp
   simp[Instr.keyThatStays,Instr.sameBits,hb]
  refine⟨{w with heap:=w.heap.setIfInBounds b (.map (m.modify n λe=>{e with key:=.string ⟨k.toArray⟩,val:=u}) g)},?_,?_⟩
  ·simp[Instr.mapUpdate,run_underlying W,X,run_checkKey M,Instr.findKey,run_underlying M,Z,H,z,d]
  rw[g5 v];refine h.azC Q R I (by simp[J]) ⟨by simp;omega,MapKept.stamped_modify K.2.1 n _ (λ_ _=>rfl) (λx _ N=>?_),λy c=>?_⟩ λj f=>?_
  ·rw[qBt B,Option.some.injEq]at N;simp only[List.getD,qCE,qBt B,qAw,N]at O;exact O.symm
  ·rw[qCN]at c;rcases List.mem_or_eq_of_mem_set c with c|rfl
   ·exact K.2.2 y c
   exact D
  simp only[qAT]at f;by_cases A:n=j
  ·subst A;have q:(es.set n (k,v)).getD n ([],.unk)=(k,v):=lW f;have r:(m.modify n λe=>{e with key:=.string ⟨k.toArray⟩,val:=u}).getD n default={(m[n])with key:=.string ⟨k.toArray⟩,val:=u}:=by
    rw[qAq,qBI,if_pos rfl,qBt B];rfl
   rw[q,r];exact⟨rfl,T⟩
  have q:(es.set n (k,v)).getD j ([],.unk)=es.getD j ([],.unk):=qy A;have r:(m.modify n λe=>{e with key:=.string ⟨k.toArray⟩,val:=u}).getD j default=m.toList.getD j default:=by
   simp[qAq,qBI,A,List.getD]
  rw[q,r];exact L j f
def aEo{z i a j b:Nat}(h:i≠a)(d:j<z)(c:b<z):i*z+j≠a*z+b:=by
 rcases Nat.lt_or_gt_of_ne h with hl|hl
 ·have:=qAQ z (show i+1<=a by omega)
  grind
 have:=qAQ z (show a+1<=i by omega)
 grind
def avV{z i j n:Nat}(hi:i<n)(h:j<z):i*z+j<n*z:=by
 have:=qAQ z (show i+1<=n by omega)
 grind
def Sim.arr{C:Ctx}{κ:aS}{s:ASt}{a:Act}{w:World}(h:Sim C κ s a w){l b z:Nat}{es:List An}(f:at? κ l=some b)(o:obj? s.heap l=.arr z es):
  ∃c e,w.heap[b]? =some (Obj.cells c e (0,0))/\es.length*z<=c.size/\(∀i,i<es.length->(es.getD i []).length=z)/\(∀i j,i<es.length->j<z->w.cell? ⟨b,i*z+j,none⟩=some (c.getD (i*z+j) undef))/\
   ∀i j,i<es.length->j<z->Rel w κ (aH C.ak κ s.heap) ((es.getD i []).getD j .unk) (c.getD (i*z+j) undef):=by have r:=h.obj l b f (by rw[o];trivial);rw[o]at r;let⟨c,e,d,g,k,m⟩:=r;refine⟨c,e,d,g,k,λi j n p=>?_,m⟩;have:=avV n p;simp[World.cell?,d,show i*z+j<c.size by omega]
def Sim.aAt{C:Ctx}{κ:aS}{s:ASt}{a:Act}{w:World}(h:Sim C κ s a w){l b z i j:Nat}{es:List An}{v:AV}{u:Value}(n:at? κ l=some b)(p:obj? s.heap l=.arr z es)
  (hi:i<es.length) (D:j<z) (P:Rel w κ (aH C.ak κ s.heap) v u):Sim C κ (s.setObj l (.arr z (es.set i ((es.getD i []).set j v)))) a (w.setCell ⟨b,i*z+j,none⟩ u):=by
 let⟨c,e,Q,R,S,_,L⟩:=h.arr n p;have A:l<s.heap.length:=by rw[<-h.klen];exact lt_of_at? n
 have T:=avV hi D;have E:aH C.ak κ s.heap b (i*z+j):=.inr ⟨l,n,by rw[p];trivial⟩;have g:Evo (aH C.ak κ s.heap) w (w.setCell ⟨b,i*z+j,none⟩ u):=Evo.setCell E;have B:∀x o,aH C.ak κ (s.heap.set l (.arr z (es.set i ((es.getD i []).set j v)))) x o->x<w.heap.size->aH C.ak κ s.heap x o:=by
  rintro x o (U|⟨k,d,f⟩) _
  ·exact .inl U
  by_cases e:l=k
  ·subst e;exact .inr ⟨l,d,by rw[p];trivial⟩
  rw[obj?_set_other e]at f;exact .inr ⟨k,d,f⟩
 refine h.step (H':=s.heap.set l (.arr z (es.set i ((es.getD i []).set j v)))) g (dL.refl _) (by simp[h.klen]) B ?_ ?_ ?_ ?_ ?_ rfl rfl rfl
 ·intro k q d f;by_cases e:l=k
  ·subst e;rw[n]at d;cases d;refine .inr ⟨by simpa using h.bound l b n,h.own l b n (by rw[p];trivial),?_⟩;rw[obj?_set_same A];refine⟨_,_,BZ Q,by simpa using R,λF r=>?_,λF G r t=>?_⟩
   ·grind
   simp only[qAT]at r;by_cases H:i=F
   ·subst H;rw[lW hi];by_cases M:j=G
    ·subst M;rw[lW (by rw[S i hi];exact D),sW Cl];exact P.mono g (dL.refl _) B
    rw[qy M,nQ Cl];exact(L i G hi t).mono g (dL.refl _) B
   rw[qy H,nQ (aEo H D t)];exact(L F G r t).mono g (dL.refl _) B
  rw[obj?_set_other e]at f|-;refine .inl ⟨d,rfl,sH λI=>?_⟩;subst I;exact e (h.apart l k q n d (by rw[p];trivial) f)
 ·intro N O q d f J K;refine h.apart N O q d f ?_ ?_
  ·by_cases e:l=N
   ·subst e;rw[p];trivial
   rwa[obj?_set_other e]at J
  by_cases e:l=O
  ·subst e;rw[p];trivial
  rwa[obj?_set_other e]at K
 ·intro k q y;simpa using h.bound k q y
 ·intro k m;by_cases e:l=k
  ·subst e;rw[obj?_set_same A]at m;cases m
  rw[obj?_set_other e]at m;exact h.resv k m
 intro q y;refine sH λI=>?_;subst I;exact h.own l q n (by rw[p];trivial) y
def afC{s:ASt}{l:Nat}{o:AObj}(h:l<s.heap.length)(a:obj? s.heap l=o):s.setObj l o=s:=by
 let⟨t,H⟩:=s;simp only[ASt.setObj,ASt.mk.injEq,true_and];apply qBU;intro n;by_cases e:l=n
 ·subst e;simp only[obj?]at a
  grind
 grind
def aru{α:Type}{l:List α}{i:Nat}{d:α}(h:i<l.length):l.set i (l.getD i d)=l:=by simp_all
def Sim.aFe{P:Program}{C:Ctx}{κ:aS}{a:Act}{l b z i:Nat}(q:at? κ l=some b):∀(vs:An) (d:List Value) (j:Nat) (s:ASt) (w:World) (es:List An),Sim C κ s a w->obj? s.heap l=.arr z es->
  i<es.length->j+vs.length=z->d.length=vs.length->(∀k,k<vs.length->Rel w κ (aH C.ak κ s.heap) (vs.getD k .unk) (d.getD k undef))->vs.all isScalar=true->
  ∃y,(storeCells ⟨b,i*z,none⟩ d j).run P w=.ok () y/\Sim C κ (s.setObj l (.arr z (es.set i ((es.getD i []).take j++vs)))) a y:=by
 intro vs
 induction vs with
 |nil=>
  intro d j s w es f g m r h _ _;cases d with
  |nil=>
   refine⟨w,by simp[storeCells],?_⟩;have n:l<s.heap.length:=by rw[<-f.klen];exact lt_of_at? q
   let⟨c,e,_,_,I,_,_⟩:=f.arr q g;have A:(es.getD i []).take j++[]=es.getD i []:=by
    rw[qAt,qCg]
    grind
   rw[A,aru m,afC n g];exact f
  |cons=>simp at h
 |cons v vs N=>
  intro d j s w es f g m r h J p;cases d with
  |nil=>simp at h
  |cons u d=>
   simp only[qAp]at r h;simp only[qBC,qAa]at p;have B:=J 0 cn;simp only[List.getD,qAG,qAw]at B;let⟨c,S,O,T,I,D,U⟩:=f.arr q g;have n:l<s.heap.length:=by rw[<-f.klen];exact lt_of_at? q
   have E:=f.aAt q g (i:=i) (j:=j) m Cl B;have t:(Go.store ⟨b,i*z+j,none⟩ u).run P w=.ok () (w.setCell ⟨b,i*z+j,none⟩ u):=Yw B p.1 (D i j m Cl) (by simp[World.frozen?,O]);have F:∀x o,aH C.ak κ (s.setObj l (.arr z (es.set i ((es.getD i []).set j v)))).heap x o->aH C.ak κ s.heap x o:=by
    rintro x o (G|⟨K,L,H⟩)
    ·exact .inl G
    by_cases e:l=K
    ·subst e;exact .inr ⟨l,L,by rw[g];trivial⟩
    simp only[ASt.setObj]at H;rw[obj?_set_other e]at H;exact .inr ⟨K,L,H⟩
   let⟨y,Q,M⟩:=N d (j+1) _ _ (es.set i ((es.getD i []).set j v)) E (by simp only[ASt.setObj];exact obj?_set_same n) (by simpa using m) Cl Cl
    (λk R=>by
     have:=J (k+1) (by simpa using R);simp only[List.getD,qBp]at this;exact this.mono (Evo.setCell (.inr ⟨l,q,by rw[g];trivial⟩)) (dL.refl _) (λx o G _=>F x o G)) p.2
   refine⟨y,by simp[storeCells,Dr,t,Q],?_⟩;have e:(s.setObj l (.arr z (es.set i ((es.getD i []).set j v)))).setObj l (.arr z ((es.set i ((es.getD i []).set j v)).set i (((es.set i ((es.getD i []).set j v)).getD i []).take (j+1)++vs)))=
     s.setObj l (.arr z (es.set i ((es.getD i []).take j++(v::vs)))):=by
    simp only[ASt.setObj,qDL];congr 2;rw[lW m];have A:((es.getD i []).set j v).take (j+1)=(es.getD i []).take j++[v]:=by
     rw[qBX (by rw[qAT,I i m];omega),qDJ,qBJ Cp];simp
    rw[A];simp
   rw[e]at M;exact M
def Sim.aEH{P:Program}{C:Ctx}{κ:aS}{a:Act}{l b z i j0:Nat}(q:at? κ l=some b):∀(vs:An) (d:List Value) (j:Nat) (s:ASt) (w:World) (es:List An),Sim C κ s a w->obj? s.heap l=.arr z es->
  i<es.length->j0+j+vs.length<=z->d.length=vs.length->(∀k,k<vs.length->Rel w κ (aH C.ak κ s.heap) (vs.getD k .unk) (d.getD k undef))->vs.all isScalar=true->
  ∃y,(storeCells ⟨b,i*z+j0,none⟩ d j).run P w=.ok () y/\Sim C κ (s.setObj l (.arr z (es.set i ((es.getD i []).take (j0+j)++vs++(es.getD i []).drop (j0+j+vs.length))))) a y:=by
 intro vs
 induction vs with
 |nil=>
  intro d j s w es n p f r h _ _;cases d with
  |nil=>
   refine⟨w,by simp[storeCells],?_⟩;have g:l<s.heap.length:=by rw[<-n.klen];exact lt_of_at? q
   have A:(es.getD i []).take (j0+j)++[]++(es.getD i []).drop (j0+j+([]:An).length)=es.getD i []:=by simp
   rw[A,aru f,afC g p];exact n
  |cons=>simp at h
 |cons v vs M=>
  intro d j s w es n p f r h I m;cases d with
  |nil=>simp at h
  |cons u d=>
   simp only[qAp]at r h;simp only[qBC,qAa]at m;have B:=I 0 cn;simp only[List.getD,qAG,qAw]at B;let⟨c,T,N,U,O,D,V⟩:=n.arr q p;have g:l<s.heap.length:=by rw[<-n.klen];exact lt_of_at? q
   have E:=n.aAt q p (i:=i) (j:=j0+j) f Cl B;have t:(Go.store ⟨b,i*z+j0+j,none⟩ u).run P w=.ok () (w.setCell ⟨b,i*z+(j0+j),none⟩ u):=by
    rw[qBN];exact Yw B m.1 (D i (j0+j) f Cl) (by simp[World.frozen?,N])
   have F:∀x o,aH C.ak κ (s.setObj l (.arr z (es.set i ((es.getD i []).set (j0+j) v)))).heap x o->aH C.ak κ s.heap x o:=by
    rintro x o (G|⟨J,K,H⟩)
    ·exact .inl G
    by_cases e:l=J
    ·subst e;exact .inr ⟨l,K,by rw[p];trivial⟩
    simp only[ASt.setObj]at H;rw[obj?_set_other e]at H;exact .inr ⟨J,K,H⟩
   let⟨y,Q,L⟩:=M d (j+1) _ _ (es.set i ((es.getD i []).set (j0+j) v)) E (by simp only[ASt.setObj];exact obj?_set_same g) (by simpa using f) Cl Cl
    (λk R=>by
     have:=I (k+1) (by simpa using R);simp only[List.getD,qBp]at this;exact this.mono (Evo.setCell (.inr ⟨l,q,by rw[p];trivial⟩)) (dL.refl _) (λx o G _=>F x o G)) m.2
   refine⟨y,by simp[storeCells,Dr,t,Q],?_⟩;have e:(s.setObj l (.arr z (es.set i ((es.getD i []).set (j0+j) v)))).setObj l (.arr z ((es.set i ((es.getD i []).set (j0+j) v)).set i (((es.set i ((es.getD i []).set (j0+j) v)).getD i []).take (j0+(j+1))++vs++((es.set i ((es.getD i []).set (j0+j) v)).getD i []).drop (j0+(j+1)+vs.length))))=
     s.setObj l (.arr z (es.set i ((es.getD i []).take (j0+j)++(v::vs)++(es.getD i []).drop (j0+j+(v::vs).length)))):=by
    simp only[ASt.setObj,qDL];congr 2;rw[lW f];have A:((es.getD i []).set (j0+j) v).take (j0+(j+1))=(es.getD i []).take (j0+j)++[v]:=by
     rw[<-qBN,qBX (by rw[qAT,O i f];omega),qDJ,qBJ Cp];simp
    have S:((es.getD i []).set (j0+j) v).drop (j0+(j+1)+vs.length)=(es.getD i []).drop (j0+j+(v::vs).length):=by
     rw[List.drop_set_of_lt Cl];congr 1;simp only[qAp];omega
    rw[A,S];simp
   rw[e]at L;exact L
def azc{P:Program}{o:Oper}{s:ASt}{t:TypeId}{x:Operand}{l off z i:Nat}{es:List An}{v:AV}(m:o.op=.load t x)(p:bL s.tmps x=.ptr l off)(q:obj? s.heap l=.arr z es)(f:off=i*z)(hi:i<es.length)(h:kC P t (es.getD i [])=some v):
  zD P o s (s.wr (aA o.dst v)):=
 pI λC d a w g=>by
  have r:=g.ev x;rw[p]at r;let⟨b,e,u⟩:=r.sD;let⟨c,G,H,I,A,k,B⟩:=g.arr u q;have n:=A i hi;let⟨y,D,E⟩:=Jm (P:=P) (w:=w) (κ:=d) (pv:=aH C.ak d s.heap) (b:=b) (off:=off) (cs:=es.getD i []) (λj=>c.getD (off+j) undef)
   (λj F=>by rw[f];exact k i j hi Cl) (λj F=>by rw[f];exact B i j hi Cl) h
  exact⟨y,d,w,by simp[execOp,m,Instr.loadAt,e,Instr.sureAddr,D],g.aA o.dst E⟩
def awK{P:Program}{o:Oper}{s:ASt}{t:TypeId}{x y:Operand}{l off z i:Nat}{es:List An}{vs:An}(k:o.op=.store t x y)(m:bL s.tmps x=.ptr l off)(n:eO (bL s.tmps y)=some vs)(p:obj? s.heap l=.arr z es)
  (q:sizeT P t=some vs.length) (F:vs.length=z) (h:off=i*z) (hi:i<es.length) (c:vs.all isScalar=true):
  zD P o s (s.wr (.obj l (.arr z (es.set i vs))::aA o.dst (.tup []))):=
 YW λC u a w d=>by
  have r:=d.ev x;rw[m]at r;let⟨b,e,v⟩:=r.sD;let⟨f,A⟩:=M6 (d.ev y) n;subst h;let⟨B,D,g⟩:=Sim.aFe (P:=P) (i:=i) v vs (a.eval y).cells.toList 0 s w es d p hi Cl (by simpa using f)
   (λj E=>by have:=A j E;simpa[qAq,List.getD]using this) c
  refine⟨u,B,?_,?_⟩;·simp[execOp,k,Instr.storeAt,e,Instr.sureAddr,storeVar,pJ q,f,D]
  simp at g;exact g.aA o.dst lK
def axG{P:Program}{o:Oper}{s:ASt}{t:TypeId}{x y:Operand}{l off z i j:Nat}{es:List An}{vs:An}(m:o.op=.store t x y)(n:bL s.tmps x=.ptr l off)(p:eO (bL s.tmps y)=some vs)(q:obj? s.heap l=.arr z es)
  (u:sizeT P t=some vs.length) (h:off=i*z+j) (hi:i<es.length) (f:j+vs.length<=z) (c:vs.all isScalar=true):
  zD P o s (s.wr (.obj l (.arr z (es.set i ((es.getD i []).take j++vs++(es.getD i []).drop (j+vs.length))))::aA o.dst (.tup []))):=
 YW λC v a w d=>by
  have r:=d.ev x;rw[n]at r;let⟨b,e,A⟩:=r.sD;let⟨g,B⟩:=M6 (d.ev y) p;subst h;let⟨D,E,k⟩:=Sim.aEH (P:=P) (i:=i) (j0:=j) A vs (a.eval y).cells.toList 0 s w es d q hi Cl (by simpa using g)
   (λj f=>by have:=B j f;simpa[qAq,List.getD]using this) c
  refine⟨v,D,?_,?_⟩;·simp[execOp,m,Instr.storeAt,e,Instr.sureAddr,storeVar,pJ u,g,E]
  simp only[qAS]at k;exact k.aA o.dst lK
def ax0{P:Program}{o:Oper}{s:ASt}{t e l:Nat}{m key:Operand}{ok:Bool}{es:List (By×AV)}{k:By}{z:AV}(ho:o.op=.lookup t m key ok)(ht:uK P t=some e)(hm:bL s.tmps m=.mapr l)(hk:bL s.tmps key=.str k)
  (hl:obj? s.heap l=.mp es) (hz:NP P e=some z):zD P o s (s.wr (aA o.dst (ED (tN es k) ok z))):=
 pI fun C κ a w hs=>by
  have h1:=hs.ev m;rw[hm]at h1;have h2:=hs.ev key;rw[hk]at h2;obtain⟨b,e1,hb⟩:∃b,a.eval m=.map (some b)∧at? κ l=some b:=by generalize a.eval m=u at h1;cases h1;exact⟨_,rfl,‹_›⟩
  let⟨u,h3,h4⟩:=ax5 (ok:=ok) (k:=k) hs ht hb hl hz;exact⟨u,κ,w,by simp[execOp,ho,e1,h2.BK.1,h3],hs.aA o.dst h4⟩
def aov{P:Program}{o:Oper}{s:ASt}{t e l:Nat}{m key x:Operand}{es:List (By×AV)}{k:By}(ho:o.op=.mapUpdate t m key x)(ht:uK P t=some e)(hm:bL s.tmps m=.mapr l)(hk:bL s.tmps key=.str k)
  (hl:obj? s.heap l=.mp es) (hlim:es.length<140737488355328):zD P o s (s.wr (.obj l (.mp (I9 es k (uN (bL s.tmps x))))::aA o.dst (.tup []))):=
 YW fun C κ a w hs=>by
  have h1:=hs.ev m;rw[hm]at h1;have h2:=hs.ev key;rw[hk]at h2;obtain⟨b,e1,hb⟩:∃b,a.eval m=.map (some b)∧at? κ l=some b:=by generalize a.eval m=u at h1;cases h1;exact⟨_,rfl,‹_›⟩
  let⟨w',h3,h4⟩:=ao6 (k:=k) hs ht hb hl (hs.ev x).uN hlim h2.BK.2;exact⟨κ,w',by simp[execOp,ho,e1,h2.BK.1,h3],h4.aA o.dst lK⟩
def akF{P:Program}{k:Nat}{o:Oper}{s:ASt}{rd:A5}{ws:B5}(h:aP P k o (bL s.tmps) (obj? s.heap)=some (rd,ws)):zD P o s (s.wr ws):=by
 unfold aP at h;split at h
 ·rename_i v q;simp only[Option.some.injEq,Prod.mk.injEq]at h;obtain⟨_,rfl⟩:=h;exact Zh q
 split at h
 ·rename_i t x b;split at h
  ·rename_i l r d;split at h
   ·rename_i Q f;cases q:kC P t (Q.drop r)with
    |none=>rw[q]at h;cases h
    |some v=>
     rw[q]at h;simp only[qAx,Option.some.injEq,Prod.mk.injEq]at h;obtain⟨_,rfl⟩:=h;exact aBj b d f q
   ·rename_i z C f;split at h
    ·rename_i a;cases q:kC P t (C.getD (r/z) [])with
     |none=>rw[q]at h;cases h
     |some v=>
      rw[q]at h;simp only[qAx,Option.some.injEq,Prod.mk.injEq]at h;obtain⟨_,rfl⟩:=h;exact azc b d f a.1 a.2 q
    cases h
   cases h
  cases h
 ·rename_i t x y b;split at h
  ·rename_i l r vs d j;split at h
   ·rename_i Q f;split at h
    ·rename_i a;simp only[Option.some.injEq,Prod.mk.injEq]at h;obtain⟨_,rfl⟩:=h;exact azM b d j f a.1 a.2.1 a.2.2
    cases h
   ·rename_i z C f;split at h
    ·rename_i a;simp only[Option.some.injEq,Prod.mk.injEq]at h;obtain⟨_,rfl⟩:=h;exact awK b d j f a.1 a.2.1 a.2.2.1 a.2.2.2.1 a.2.2.2.2
    split at h
    ·rename_i a;simp only[Option.some.injEq,Prod.mk.injEq]at h;obtain⟨_,rfl⟩:=h;exact axG b d j f a.1 (by rw[qBK];exact(qCL r z).symm) a.2.2.1 a.2.2.2.1 a.2.2.2.2
    cases h
   cases h
  cases h
 ·rename_i t b;split at h
  ·rename_i u;cases w:lI P t with
   |none=>rw[w]at h;cases h
   |some z=>
    rw[w]at h;simp only[qAx,Option.some.injEq,Prod.mk.injEq]at h;obtain⟨_,rfl⟩:=h;exact ayN b u w
  cases h
 ·rename_i t x b;split at h
  ·rename_i u;cases d:eO (bL s.tmps x)with
   |none=>rw[d]at h;cases h
   |some Q=>
    rw[d]at h;simp only[qAx,Option.some.injEq,Prod.mk.injEq]at h;obtain⟨_,rfl⟩:=h;exact aFt b u d
  cases h
 ·rename_i t b;split at h
  ·rename_i u;simp only[Option.some.injEq,Prod.mk.injEq]at h;obtain⟨_,rfl⟩:=h;exact aui b u
  cases h
 ·rename_i t T parts b;split at h
  ·rename_i e F A B;split at h
   ·rename_i z w;split at h
    ·rename_i a;cases U:lH (λi=>some (i*F,F)) ((List.replicate T z).flatten) (parts.toList.map λp=>(p.1,bL s.tmps p.2))with
     |none=>rw[U]at h;cases h
     |some Q=>
      rw[U]at h;simp only[qAx,Option.some.injEq,Prod.mk.injEq]at h;obtain⟨_,rfl⟩:=h;exact ak6 b B w a.1 a.2.1 a.2.2.1 a.2.2.2 U
    cases h
   cases h
  cases h
 ·rename_i Z G b;split at h
  ·rename_i x y t t2 V D;split at h
   ·rename_i e F A C ys H B I d j;split at h
    ·rename_i a;simp only[Option.some.injEq,Prod.mk.injEq]at h;obtain⟨_,rfl⟩:=h;let⟨J,K,L,R,M⟩:=a;subst K;exact aml b V D B I d j J L R M
    cases h
   ·rename_i e F A C l z ys H B I d j;split at h
    ·rename_i n f;split at h
     ·rename_i a;simp only[Option.some.injEq,Prod.mk.injEq]at h;obtain⟨_,rfl⟩:=h;let⟨J,K,L,R,M,W,S⟩:=a;subst K L;exact akP b V D B I d j f J R M W S
     cases h
    cases h
   ·rename_i e F A l z n ys H B I d j;split at h
    ·rename_i z' E f;split at h
     ·rename_i a;simp only[Option.some.injEq,Prod.mk.injEq]at h;obtain⟨_,rfl⟩:=h;let⟨J,K,L,R,M,W,S,c8⟩:=a;subst K L;have g:(E.take n).length=n:=by simp only[qAz];omega
      have N:(E.take n).all (dH z')=true:=by
       rw[qAP]at S|-;exact λx d=>S x (qDC d)
      exact VJ (es:=E.take n) b V D B I (by rw[g];exact d) j f (by rw[g]) J (by rw[g];exact M) (by rw[g];exact W) N c8
     cases h
    cases h
   cases h
  cases h
 ·rename_i t x y b;split at h
  ·rename_i e F A kl l kc c B d j;split at h
   ·rename_i z w;split at h
    ·rename_i a;simp only[Option.some.injEq,Prod.mk.injEq]at h;obtain⟨_,rfl⟩:=h;exact aoo b B w d j a.1 a.2.1 a.2.2.1 a.2.2.2.1 a.2.2.2.2.1 a.2.2.2.2.2
    cases h
   cases h
  cases h
 ·rename_i t m X ok b;split at h
  ·rename_i e l k' D Y u;split at h
   ·rename_i C z f w;simp only[Option.some.injEq,Prod.mk.injEq]at h;obtain⟨_,rfl⟩:=h;exact ax0 b D Y u f w
   cases h
  cases h
 ·rename_i t m X x b;split at h
  ·rename_i e l k' D Y u;split at h
   ·rename_i C f;split at h
    ·rename_i O;simp only[Option.some.injEq,Prod.mk.injEq]at h;obtain⟨_,rfl⟩:=h;exact aov b D Y u f O
    cases h
   cases h
  cases h
 cases h
def xu(g:Nat->Nat):Tag->Tag| .tip l z=>.tip (g l) z| .shared=>.shared| .nils=>.nils
mutual
def ren(g:Nat→Nat):AV→AV
 | .ptr l o=>.ptr (g l) o
 | .mapr l=>.mapr (g l)
 | .eptr cs=>.eptr (eT g cs)
 | .slice es t=>.slice (gY g es) (xu g t)
 | .agg cs=>.agg (eT g cs)
 | .tup cs=>.tup (eT g cs)
 | .func f cs=>.func f (eT g cs)
 | .unk=>.unk
 | .int k n=>.int k n
 | .bool b=>.bool b
 | .str s=>.str s
 | .nilp=>.nilp
 | .ifc t v=>.ifc t v
 | .nilFunc=>.nilFunc
 | .psl l z n=>.psl (g l) z n
 | .flist ns=>.flist (gY g ns)
def eT(g:Nat→Nat):An→An
 |[]=>[]
 |c::cs=>ren g c::eT g cs
def gY(g:Nat→Nat):List An→List An
 |[]=>[]
 |c::cs=>eT g c::gY g cs
end
def vE(g:Nat->Nat):∀cs,eT g cs=cs.map (ren g)|[]=>rfl|c::cs=>by simp[eT,vE g cs]
def Us(g:Nat->Nat):∀es,gY g es=es.map (eT g)|[]=>rfl|c::s=>by simp[gY,Us g s]
def jC(g:Nat->Nat)(cs:An):(eT g cs).length=cs.length:=by simp[vE]
def kL(g:Nat->Nat)(es:List An):(gY g es).length=es.length:=by simp[Us]
def jv(g:Nat->Nat)(cs:An)(j:Nat):(eT g cs).getD j .unk=ren g (cs.getD j .unk):=by rw[vE];simp;cases cs[j]?<;>rfl
def qW(g:Nat->Nat)(es:List An)(j:Nat):(gY g es).getD j []=eT g (es.getD j []):=by rw[Us];simp;cases es[j]?<;>rfl
def eU(g:Nat->Nat):AObj->AObj| .box c=>.box (eT g c)| .mp e=>.mp (e.map λp=>(p.1,ren g p.2))| .tip n=>.tip n| .dead=>.dead| .res=>.res| .arr z e=>.arr z (gY g e)
def Im(g:Nat->Nat)(o:AObj)(n:Nat):Aw (eU g o) n=Aw o n:=by cases o<;>rfl
def jD(g:Nat->Nat)(o:AObj):live (eU g o)=live o:=by cases o<;>rfl
def Rel.Ce{w:World}{κ p:aS}{pv:bU}{g:Nat->Nat}(B:∀i,at? p i=at? κ (g i)):∀{y:AV} {v:Value},Rel w κ pv y v->∀x,y=ren g x->Rel w p pv x v:=by
 intro y v h
 induction h with
 |unk v=>intro x a;cases x<;>simp[ren]at a;exact .unk _
 |int h=>intro x a;cases x<;>simp[ren]at a;obtain⟨rfl,rfl⟩:=a;exact .int h
 |bool b=>intro x a;cases x<;>simp[ren]at a;subst a;exact .bool _
 |str h=>intro x a;cases x<;>simp[ren]at a;subst a;exact .str h
 |nilp=>intro x a;cases x<;>simp[ren]at a;exact .nilp
 |ifc t v=>intro x a;cases x<;>simp[ren]at a;obtain⟨rfl,rfl⟩:=a;exact .ifc _ _
 |ptr h=>intro x a;cases x<;>simp[ren]at a;obtain⟨rfl,rfl⟩:=a;exact .ptr (by rw[B];exact h)
 |eptr u d m _ f=>
  intro x a;cases x<;>simp[ren]at a;subst a;rw[jC]at d m f;exact .eptr u d m (λj k=>f j k _ (jv _ _ _))
 |slice b C J u d m n q H I _ o f=>
  intro x a;cases x<;>simp[ren]at a;obtain⟨rfl,rfl⟩:=a;rename_i M t _;rw[kL]at d n q H I f|-;refine .slice b C J u (λi D=>by have:=d i D;rwa[qW,jC]at this) (λE=>m (λe=>E ?_)) n q H I (λi j D k=>f i j D k _ (by rw[qW,jv])) ?_
  ·have:=congrArg List.length e;rw[kL]at this;exact qAD.1 (by simpa using this)
  cases t with
  |shared=>trivial
  |nils=>exact o
  |tip l z=>
   let⟨F,o⟩:=o;refine⟨F,o.imp id ?_⟩
   grind
 |agg d _ f=>
  intro x a;cases x<;>simp[ren]at a;subst a;rw[jC]at d f;exact .agg d (λj k=>f j k _ (jv _ _ _))
 |tup d _ f=>
  intro x a;cases x<;>simp[ren]at a;subst a;rw[jC]at d f;exact .tup d (λj k=>f j k _ (jv _ _ _))
 |func d _ f=>
  intro x a;cases x<;>simp[ren]at a;obtain⟨rfl,rfl⟩:=a;rw[jC]at d f;exact .func d (λj k=>f j k _ (jv _ _ _))
 |mapr h=>intro x a;cases x<;>simp[ren]at a;subst a;exact .mapr (by rw[B];exact h)
 |nilFunc=>intro x a;cases x<;>simp[ren]at a;exact .nilFunc
 |psl d m n=>
  intro x a;cases x<;>simp[ren]at a;obtain⟨rfl,rfl,rfl⟩:=a;refine .psl d m ?_;let⟨F,o⟩:=n;refine⟨F,o.imp id ?_⟩;rintro⟨b,c,e,K,L⟩;exact⟨b,c,e,by rw[B];exact K,L⟩
 |flnil=>
  intro x a;cases x<;>simp[ren]at a;rename_i A;have:A=[]:=qAD.1 (by rw[<-kL g A,a];rfl);subst this;exact .flnil
 |flcons u y d m n _ _ s G=>
  intro x a;cases x<;>simp[ren]at a;rename_i A;cases A with
  |nil=>simp[gY]at a
  |cons c r=>
   simp only[gY,List.cons.injEq]at a;obtain⟨rfl,rfl⟩:=a;rw[jC]at d m n s;exact .flcons u y d m n (λj k=>s j k _ (jv _ _ _)) (G _ rfl)
def Rel.ren{w:World}{κ p:aS}{pv:bU}{g:Nat->Nat}(A:∀i b,at? p i=some b->at? κ (g i)=some b):∀{x:AV} {v:Value},Rel w p pv x v->Rel w κ pv (Abs.ren g x) v:=by
 intro x v h
 induction h with
 |unk v=>exact .unk _
 |int h=>exact .int h
 |bool b=>exact .bool _
 |str h=>exact .str h
 |nilp=>exact .nilp
 |ifc t v=>exact .ifc _ _
 |ptr h=>exact .ptr (A _ _ h)
 |eptr u f n _ m=>
  refine .eptr u ?_ ?_ ?_<;>rw[jC]
  ·exact f
  ·exact n
  intro j d;rw[jv];exact m j d
 |@slice H t a q b B I u f n r C J K _ o m=>
  have s:=Rel.slice (w:=w) (κ:=κ) (pv:=pv) (es:=gY g H) (tag:=xu g t) (a:=a) (cap:=q) b B I u
   (λi k=>by rw[kL]at k;rw[qW,jC];exact f i k)
   (λD=>n (λe=>D (by subst e;rfl))) (by rw[kL];exact r) (by rw[kL];exact C)
   (λi j k d=>by rw[kL]at k;exact J i j k d) (λi j k d=>by rw[kL]at k;exact K i j k d)
   (λi j k d=>by rw[kL]at k;rw[qW,jv];exact m i j k d)
   (by
    cases t with
    |shared=>trivial
    |nils=>exact o
    |tip l z=>
     let⟨E,o⟩:=o;refine⟨E,o.imp id ?_⟩;rintro⟨b,c,e,L,M⟩;exact⟨b,c,e,A _ _ L,M⟩)
  rw[kL]at s;exact s
 |agg f _ m=>
  refine .agg ?_ ?_<;>rw[jC]
  ·exact f
  intro j d;rw[jv];exact m j d
 |tup f _ m=>
  refine .tup ?_ ?_<;>rw[jC]
  ·exact f
  intro j d;rw[jv];exact m j d
 |func f _ m=>
  refine .func ?_ ?_<;>rw[jC]
  ·exact f
  intro j d;rw[jv];exact m j d
 |mapr h=>exact .mapr (A _ _ h)
 |nilFunc=>exact .nilFunc
 |psl f n r=>
  refine .psl f n ?_;let⟨E,o⟩:=r;refine⟨E,o.imp id ?_⟩
  grind
 |flnil=>exact .flnil
 |flcons u y f n r _ _ F G=>
  refine .flcons u y ?_ ?_ ?_ ?_ G<;>rw[jC]
  ·exact f
  ·exact n
  ·exact r
  intro j d;rw[jv];exact F j d
def qX.Ce{w:World}{κ k:aS}{pv:bU}{g:Nat->Nat}(p:∀i,at? k i=at? κ (g i)){b:Nat}{o:AObj}(h:qX w κ pv b (eU g o)):qX w k pv b o:=by
 cases o with
 |box u=>
  let⟨c,e,l,a,d⟩:=h;rw[jC]at a d;exact⟨c,e,l,a,λj f=>(d j f).Ce p _ (jv _ _ _)⟩
 |tip n=>exact h
 |mp s=>
  let⟨r,t,l,a,d,m⟩:=h;rw[qAi]at a m;refine⟨r,t,l,a,by simpa[qBh,qCv]using d,λj f=>?_⟩;have:=m j f;simp only[List.getD,qAE,qAc f]at this|-;exact⟨this.1,this.2.Ce p _ rfl⟩
 |dead=>trivial
 |res=>trivial
 |arr z s=>
  let⟨c,e,l,a,d,m⟩:=h;rw[kL]at a d m;refine⟨c,e,l,a,λi q=>by have:=d i q;rwa[qW,jC]at this,λi j q f=>?_⟩;exact(m i j q f).Ce p _ (by rw[qW,jv])
def qX.ren{w:World}{κ d:aS}{pv:bU}{g:Nat->Nat}(p:∀i b,at? d i=some b->at? κ (g i)=some b){b:Nat}{o:AObj}(h:qX w d pv b o):qX w κ pv b (eU g o):=by
 cases o with
 |box u=>
  let⟨c,e,f,k,l⟩:=h;refine⟨c,e,f,by rw[jC];exact k,λj a=>?_⟩;rw[jC]at a;rw[jv];exact(l j a).ren p
 |tip n=>exact h
 |mp s=>
  let⟨r,t,f,k,l,q⟩:=h;refine⟨r,t,f,by rw[qAi];exact k,by simpa[qBh,qCv]using l,λj a=>?_⟩;rw[qAi]at a;have:=q j a;simp only[List.getD,qAE,qAc a]at this|-;exact⟨this.1,this.2.ren p⟩
 |dead=>trivial
 |res=>trivial
 |arr z s=>
  let⟨c,e,f,k,l,q⟩:=h;refine⟨c,e,f,by rw[kL];exact k,λi m=>?_,λi j m a=>?_⟩
  ·rw[kL]at m;rw[qW,jC];exact l i m
  rw[kL]at m;rw[qW,jv];exact(q i j m a).ren p
structure Entry(κ:aS)(ak:bU)(H:A6)(w:World):Prop where
 klen:κ.length=H.length
 resv:∀l,obj? H l=.res→at? κ l=none
 obj:∀l b,at? κ l=some b→live (obj? H l)→qX w κ (aH ak κ H) b (obj? H l)
 apart:∀l l' b,at? κ l=some b→at? κ l'=some b→live (obj? H l)→live (obj? H l')→l=l'
 bound:∀l b,at? κ l=some b→b<w.heap.size
 pvlt:∀b o,ak b o→b<w.heap.size
 pvdis:∀b o l,ak b o→at? κ l=some b→¬live (obj? H l)
structure Leave(κ κ':aS)(ak:bU)(H H':A6)(w w':World):Prop where
 klen:κ'.length=H'.length
 hlen:H.length≤H'.length
 kext:dL κ κ'
 resv:∀l,obj? H' l=.res→at? κ' l=none
 obj:∀l b,at? κ' l=some b→live (obj? H' l)→qX w' κ' (aH ak κ' H') b (obj? H' l)
 stay:∀l b,at? κ' l=some b→live (obj? H' l)→w.heap.size≤b∨∃l0,at? κ l0=some b∧live (obj? H l0)
 apart:∀l l' b,at? κ' l=some b→at? κ' l'=some b→live (obj? H' l)→live (obj? H' l')→l=l'
 bound:∀l b,at? κ' l=some b→b<w'.heap.size
 kept:∀b:Nat,b<w.heap.size→(∀l,at? κ l=some b→¬live (obj? H l))→w'.heap[b]? =w.heap[b]?
 ny:Evo (aH ak κ H) w w'
 pvsub:∀b o,aH ak κ' H' b o→b<w.heap.size→aH ak κ H b o
 os:w'.os=w.os
 tape:w'.tape=w.tape
 output:w'.output=w.output
def eH(P:Program)(f:Nat)(args:An)(H:A6)(res:AV)(H':A6):Prop:=
 ∀(b:aS) (ak:bU) (w:World) (s:List Value),Entry b ak H w->s.length=args.length->(∀j,j<args.length->Rel w b (aH ak b H) (args.getD j .unk) (s.getD j undef))->
  Calls P f s.toArray w λe c=>∃v a,e=.returned v/\Leave b a ak H H' w c/\Rel c a (aH ak a H') res v
inductive SW:AV→AV→Prop where
 |same (x:AV):SW x x
 |share (es:List An) (t:Tag):SW (.slice es t) (.slice es .shared)
 |nilF:SW .nilp (.flist [])
 |unk (x:AV):SW x .unk
 |agg {cs cs':An}:cs.length=cs'.length→(∀j,SW (cs.getD j .unk) (cs'.getD j .unk))→SW (.agg cs) (.agg cs')
def SW.rel{x y:AV}(hs:SW x y):∀{w:World} {a:aS} {p:bU} {v:Value},Rel w a p x v->Rel w a p y v:=by
 induction hs with|same x=>intro w a p v h;exact h|share e t=>intro w a p v h;exact h.share|nilF=>intro w a p v h;cases h;exact .flnil|unk x=>intro w a p v _;exact .unk v|agg l _ i=>intro w a p v h;cases h with|agg g b=>exact .agg (g.trans l) λj c=>i j (b j Cl)
inductive SWs:An→An→Prop where
 |nil:SWs [] []
 |cons {x y:AV} {xs ys:An}:SW x y→SWs xs ys→SWs (x::xs) (y::ys)
def SWs.len{xs ys:An}(h:SWs xs ys):xs.length=ys.length:=by induction h with|nil=>rfl|cons _ _ i=>simp[i]
def SWs.get{xs ys:An}(h:SWs xs ys):∀j,SW (xs.getD j .unk) (ys.getD j .unk):=by induction h with|nil=>intro j;exact .same _|cons a _ i=>intro j;cases j with|zero=>exact a|succ j=>exact i j
def SW.agg'{xs ys:An}(h:SWs xs ys):SW (.agg xs) (.agg ys):=.agg h.len h.get
def oV{α:Type}(xs:List α):A5->List α->List α|l::s,v::a=>oV (xs.set l v) s a|_,_=>xs
def Om{α:Type}:∀(s:A5) (vs xs:List α),(oV xs s vs).length=xs.length|[],_,_=>by simp[oV]|_::_,[],_=>by simp[oV]|l::s,v::vs,xs=>by simp[oV,Om s vs]
def Da{α:Type}:∀(s:A5) (vs xs:List α) (n:Nat),n∉s->(oV xs s vs)[n]? =xs[n]?|[],_,_,_,_=>by simp[oV]|_::_,[],_,_,_=>by simp[oV]|l::s,v::vs,xs,n,h=>by simp at h;simp only[oV];rw[Da s vs _ n h.2,qBV (qBo h.1)]
def Mf{α:Type}:∀(s:A5) (vs xs:List α) (i n:Nat),s.Nodup->s[i]? =some n->i<vs.length->n<xs.length->(oV xs s vs)[n]? =vs[i]?
 |[],_,_,_,_,_,h,_,_=>by simp at h
 |_::_,[],_,_,_,_,_,h,_=>by simp at h
 |l::s,v::vs,xs,i,n,d,a,t,b=>by
  simp only[oV];rw[qCq]at d;cases i with
  |zero=>
   simp at a;subst a;rw[Da s vs _ l d.1,qCx b];rfl
  |succ i=>
   exact Mf s vs _ i n d.2 a (by simpa using t) (by simpa using b)
def mD:A5->A6->B5|l::s,o::a=>.obj l o::mD s a|_,_=>[]
def IZ(s:ASt)(a b:B5):s.wr (a++b)=(s.wr a).wr b:=by simp[ASt.wr]
def M7:∀(a:A5) (os:A6) (s:ASt),s.wr (mD a os)={s with heap:=oV s.heap a os}
 |[],_,s=>by simp[mD,oV,ASt.wr]|_::_,[],s=>by simp[mD,oV,ASt.wr]|l::a,o::os,s=>by have:=M7 a os (s.setObj l o);exact this
def nm(L:A5)(b:Nat)(i:Nat):Nat:=(L[i]?).getD b
def at?_none_of_le{κ:aS}{l:Nat}(h:κ.length<=l):at? κ l=none:=by unfold at?;rw[qAC h];rfl
section
variable {C:Ctx}{κ:aS}{s:ASt}{a:Act}{w:World}{ρ ks:A5}{H H':A6}
def Nv(ak:bU)(κ:aS)(S:A6)(ρ:A5):bU:=λb o=>ak b o∨∃l,l∉ρ/\at? κ l=some b/\Aw (obj? S l) o
def at?_map{i:Nat}:at? (ρ.map (at? κ)) i=match ρ[i]? with|some l=>at? κ l|none=>none:=by simp only[at?,qAE];cases ρ[i]?<;>rfl
structure Passes(s:ASt)(ρ ks:A5)(H:A6):Prop where
 nodup:(ρ++ks).Nodup
 hlen:H.length=ρ.length
 lt:∀l∈ρ,l<s.heap.length
 res:∀l∈ks,dG (obj? s.heap l)=true
 obj:∀i l,ρ[i]? =some l→obj? s.heap l=eU (nm (ρ++ks) s.heap.length) (obj? H i)
def Uq(p:Passes s ρ ks H):aH (Nv C.ak κ s.heap ρ) (ρ.map (at? κ)) H=aH C.ak κ s.heap:=by
 funext b o;apply propext;constructor
 ·rintro((h|⟨l,_,a,c⟩)|⟨i,a,c⟩)
  ·exact .inl h
  ·exact .inr ⟨l,a,c⟩
  rw[at?_map]at a;cases d:ρ[i]? with
  |none=>rw[d]at a;cases a
  |some l=>rw[d]at a;exact .inr ⟨l,a,by rw[p.obj i l d,Im];exact c⟩
 rintro(h|⟨l,a,c⟩)
 ·exact .inl (.inl h)
 by_cases e:l∈ρ
 ·let⟨i,d⟩:=qAR e;refine .inr ⟨i,by rw[at?_map,d];exact a,?_⟩;rw[p.obj i l d,Im]at c;exact c
 exact .inl (.inr ⟨l,e,a,c⟩)
def PW{o:AObj}{n:Nat}(h:Aw o n):live o:=by cases o<;>simp[Aw,live]at *
def aln(hs:Sim C κ s a w)(p:Passes s ρ ks H)(i:Nat):at? (ρ.map (at? κ)) i=at? κ (nm (ρ++ks) s.heap.length i):=by
 rw[at?_map];unfold nm;cases h:ρ[i]? with|some l=>rw[qAg (qAH.1 h).1,h];rfl|none=>have e:ρ.length<=i:=List.getElem?_eq_none_iff.1 h;rw[qAl e];cases b:ks[i - ρ.length]? with|none=>simp;rw[at?_none_of_le (by rw[hs.klen];exact qAd _)]|some k=>simp;have:=p.res k (qAF b);rw[hs.resv k (yF this).1]
def aqc(hs:Sim C κ s a w)(p:Passes s ρ ks H):Entry (ρ.map (at? κ)) (Nv C.ak κ s.heap ρ) H w:=by
 have t:∀i b,at? (ρ.map (at? κ)) i=some b->∃l,ρ[i]? =some l/\at? κ l=some b:=λi b h=>by
  rw[at?_map]at h
  grind
 refine⟨by simp[p.hlen],?_,?_,?_,?_,?_,?_⟩;·intro i q;rw[at?_map];cases h:ρ[i]? with|none=>rfl|some l=>simp only;exact hs.resv l (by rw[p.obj i l h,q];rfl)
 ·intro i b c k;let⟨l,g,d⟩:=t i b c;have f:=p.obj i l g;have:=hs.obj l b d (by rw[f,jD];exact k);rw[Uq p];rw[f]at this;exact this.Ce (aln hs p)
 ·intro i j b c k r z;let⟨l,g,d⟩:=t i b c;let⟨n,m,u⟩:=t j b k;have e:=hs.apart l n b d u (by rw[p.obj i l g,jD];exact r) (by rw[p.obj j n m,jD];exact z);subst e;have x:=(qDe.1 p.nodup).1;have q:=(qAH.1 g).1;exact(qCw q x).1 (g.trans m.symm)
 ·intro i b c;let⟨l,_,d⟩:=t i b c;exact hs.bound l b d
 ·rintro b o (h|⟨l,_,c,_⟩)
  ·exact qAB (hs.oldlt _ (hs.pvold _ _ h)) hs.size
  exact hs.bound l b c
 rintro b o i h c y;let⟨l,g,d⟩:=t i b c;have v:live (obj? s.heap l):=by rw[p.obj i l g,jD];exact y
 rcases h with h|⟨n,A,k,r⟩
 ·exact hs.own l b d v (hs.pvold _ _ h)
 have e:=hs.apart l n b d k v (PW r)
 grind
def Sim.back(hs:Sim C κ s a w)(I:Passes s ρ ks H){κ':aS}{w':World}(f:Leave (ρ.map (at? κ)) κ' (Nv C.ak κ s.heap ρ) H H' w w')(hH:H'.length=(ρ++ks).length){res:AV}{v:Value}
  (hr:Rel w' κ' (aH (Nv C.ak κ s.heap ρ) κ' H') res v):
  ∃k,Sim C k (s.wr (mD (ρ++ks) (H'.map (eU (nm (ρ++ks) s.heap.length))))) a w'/\
   Rel w' k (aH C.ak k (s.wr (mD (ρ++ks) (H'.map (eU (nm (ρ++ks) s.heap.length))))).heap) (ren (nm (ρ++ks) s.heap.length) res) v:=by
 let L:=ρ++ks
 let g:=nm L s.heap.length
 let J:=oV s.heap L (H'.map (eU g))
 let k:aS:=oV κ L κ'
 have N:∀l∈L,l<s.heap.length:=λl d=>by
  rcases qAr.1 d with h|h
  ·exact I.lt l h
  exact(yF (I.res l h)).2
 have hkl:κ'.length=L.length:=by rw[f.klen];exact hH
 have hHL:H'.length=L.length:=hH;have y:∀i l,L[i]? =some l->obj? J l=eU g (obj? H' i):=λi l d=>by
  have c:=(qAH.1 d).1;have:=Mf L (H'.map (eU g)) s.heap i l I.nodup d (by rw[qAi];omega) (N l (qAF d));simp only[obj?,J,this,qAE]
  grind
 have n:∀l,l∉L->obj? J l=obj? s.heap l:=λl d=>by simp only[obj?,J,Da L _ _ l d]
 have p:∀i l,L[i]? =some l->at? k l=at? κ' i:=λi l d=>by
  have c:=(qAH.1 d).1;have:=Mf L κ' κ i l I.nodup d Cl (by rw[hs.klen];exact N l (qAF d));simp only[at?,k,this]
 have t:∀l,l∉L->at? k l=at? κ l:=λl d=>by simp only[at?,k,Da L _ _ l d]
 have O:∀i b,at? κ' i=some b->at? k (g i)=some b:=λi b G=>by
  have c:i<L.length:=by rw[<-hkl];exact lt_of_at? G
  have:g i=L[i]:=by simp only[g,nm,qAc c];rfl
  grind
 have P:=Uq (C:=C) (κ:=κ) I;have hpL:∀l∈L,l∉ρ->at? κ l=none:=λl d hn=>by
  rcases qAr.1 d with h|h
  ·exact(hn h).elim
  exact hs.resv l (yF (I.res l h)).1
 have A:∀x o,aH C.ak k J x o->aH (Nv C.ak κ s.heap ρ) κ' H' x o:=by
  rintro x o (h|⟨l,m,F⟩)
  ·exact .inl (.inl h)
  by_cases d:l∈L
  ·let⟨i,c⟩:=qAR d;rw[p i l c]at m;rw[y i l c,Im]at F;exact .inr ⟨i,m,F⟩
  rw[t l d]at m;rw[n l d]at F;exact .inl (.inr ⟨l,λh=>d (qBw _ h),m,F⟩)
 have q:∀i l b,L[i]? =some l->at? κ' i=some b->live (obj? H' i)->w.heap.size<=b∨∃r Q,ρ[Q]? =some r/\at? κ r=some b/\live (obj? s.heap r):=λi l b c G d=>by
  rcases f.stay i b G d with h|⟨Q,m,F⟩
  ·exact .inl h
  rw[at?_map]at m;cases z:ρ[Q]? with
  |none=>rw[z]at m;cases m
  |some r=>rw[z]at m;exact .inr ⟨r,Q,z,m,by rw[I.obj Q r z,jD];exact F⟩
 have T:∀{x:AV} {u:Value},Rel w' κ' (aH (Nv C.ak κ s.heap ρ) κ' H') x u->Rel w' k (aH C.ak k J) (ren g x) u:=λhx=>(hx.ren O).mono (Evo.refl _ _) (dL.refl _) (λx o h _=>A x o h);have Y:Sim C k {s with heap:=J} a w':=by
  refine hs.step (H':=J) (by rw[<-P];exact f.ny) ?_ (by simp only[k,J,Om];exact hs.klen) ?_ ?_ ?_ ?_ ?_ ?_ f.os f.tape f.output
  ·intro l b G;by_cases d:l∈L
   ·let⟨i,c⟩:=qAR d;rw[p i l c];apply f.kext;rw[at?_map];by_cases hr:l∈ρ
    ·have U:i<ρ.length:=by
      let⟨j,V⟩:=qAR hr;have hj':L[j]? =some l:=by rw[qAg (qAH.1 V).1];exact V
      have:i=j:=(qCw (qAH.1 c).1 I.nodup).1 (c.trans hj'.symm);rw[this];exact(qAH.1 V).1
     rw[qAg U]at c;rw[c];exact G
    rw[hpL l d hr]at G;cases G
   rw[t l d];exact G
  ·intro x o h U;rw[<-P];exact f.pvsub x o (A x o h) U
  ·intro l b m F;by_cases d:l∈L
   ·let⟨i,c⟩:=qAR d;rw[p i l c]at m;rw[y i l c,jD]at F;refine .inr ⟨f.bound i b m,λho=>?_,?_⟩
    ·rcases q i l b c m F with h|⟨r,Q,_,Z,h4⟩
     ·have:=hs.oldlt b ho;have:=hs.size;omega
     exact hs.own r b Z h4 ho
    rw[y i l c];have:=(f.obj i b m F).ren O;exact this.mono rfl (Evo.refl _ _) (dL.refl _) (λx o h _=>A x o h)
   rw[t l d]at m;rw[n l d]at F|-;refine .inl ⟨m,rfl,f.kept b (hs.bound l b m) λi c B=>?_⟩;rw[at?_map]at c;cases z:ρ[i]? with
   |none=>rw[z]at c;cases c
   |some r=>
    rw[z]at c;have e:=hs.apart l r b m c F (by rw[I.obj i r z,jD];exact B);subst e;exact d (qBw _ (qAF z))
  ·intro D E b K M R S;by_cases W:D∈L<;>by_cases X:E∈L
   ·let⟨i,c⟩:=qAR W;let⟨j,V⟩:=qAR X;rw[p i D c]at K;rw[p j E V]at M;rw[y i D c,jD]at R;rw[y j E V,jD]at S;have:=f.apart i j b K M R S;subst this;exact Option.some.inj (c.symm.trans V)
   ·let⟨i,c⟩:=qAR W;rw[p i D c]at K;rw[y i D c,jD]at R;rw[t E X]at M;rw[n E X]at S;rcases q i D b c K R with h|⟨r,Q,z,Z,h4⟩
    ·have:=hs.bound E b M;omega
    have e:=hs.apart E r b M Z S h4;subst e;exact(X (qBw _ (qAF z))).elim
   ·let⟨i,c⟩:=qAR X;rw[p i E c]at M;rw[y i E c,jD]at S;rw[t D W]at K;rw[n D W]at R;rcases q i E b c M S with h|⟨r,Q,z,Z,h4⟩
    ·have:=hs.bound D b K;omega
    have e:=hs.apart D r b K Z R h4;subst e;exact(W (qBw _ (qAF z))).elim
   rw[t D W]at K;rw[t E X]at M;rw[n D W]at R;rw[n E X]at S;exact hs.apart D E b K M R S
  ·intro l b m;by_cases d:l∈L
   ·let⟨i,c⟩:=qAR d;rw[p i l c]at m;exact f.bound i b m
   rw[t l d]at m;exact qAB (hs.bound l b m) f.ny.size
  ·intro l m;by_cases d:l∈L
   ·let⟨i,c⟩:=qAR d;rw[y i l c]at m;rw[p i l c];apply f.resv
    revert m
    cases obj? H' i<;>simp[eU]
   rw[n l d]at m;rw[t l d];exact hs.resv l m
  intro b G;refine f.kept b (qAB (hs.oldlt b G) hs.size) λi c B=>?_;rw[at?_map]at c;cases z:ρ[i]? with
  |none=>rw[z]at c;cases c
  |some r=>
   rw[z]at c;exact hs.own r b c (by rw[I.obj i r z,jD];exact B) G
 refine⟨k,?_,?_⟩
 ·rw[M7];exact Y
 rw[M7];exact T hr
end
def mQ(P:Program)(f:Nat):Bool:=
 match P.funcs[f]? with|some n=>!(n.name== "runtime.NumGoroutine")&&n.body.isSome|none=>false
def Dj{P:Program}{f:Nat}{args:Array Value}{w:World}(h:mQ P f=true):(callFunc f args).run P w=.ok (.enter f args) w:=by
 unfold mQ at h;split at h
 ·rename_i n a;simp only[qAa,qAV]at h;let⟨b,c⟩:=h;have d:n.body.isNone=false:=by cases e:n.body<;>simp[e]at c|-
  simp only[callFunc,Sem.run_bind,run_program,Result.andThen_ok,a,b,d];rfl
 cases h
def aCd{P:Program}{o:Oper}{s:ASt}{n:Operand}{args:Array Operand}{argTypes:Array TypeId}{f:Nat}{c r:An}{ρ k:A5}{H H':A6}{res:AV}
  (A:o.op=.call {callee:=.value n,args,argTypes}) (B:bL s.tmps n=.func f c) (q:mQ P f=true) (p:Passes s ρ k H) (D:H'.length=(ρ++k).length)
  (h:SWs (args.toList.map (bL s.tmps)++c) (r.map (ren (nm (ρ++k) s.heap.length)))) (E:eH P f r H res H'):
  zD P o s (s.wr (mD (ρ++k) (H'.map (eU (nm (ρ++k) s.heap.length)))++aA o.dst (ren (nm (ρ++k) s.heap.length) res))):=by
 intro C d a w g next Q F
 have i:=g.ev n;rw[B]at i;let⟨z,G,S,T⟩:=i.LD
 let b:List Value:=args.toList.map a.eval++z
 have l:b.length=r.length:=by
  have:=h.len
  grind
 have u:(execOp a.eval o).run P w=.ok (.enter f b.toArray) w:=by
  have I:args.map a.eval++z.toArray=b.toArray:=by
   grind
  simp[execOp,A,resolve,G,Deferred.ofValue,invoke,Dj q,I]
 have m:∀j,j<r.length->Rel w (ρ.map (at? d)) (aH (Nv C.ak d s.heap ρ) (ρ.map (at? d)) H) (r.getD j .unk) (b.getD j undef):=λj U=>by
  rw[Uq p];have J:(r.map (ren (nm (ρ++k) s.heap.length))).getD j .unk=ren (nm (ρ++k) s.heap.length) (r.getD j .unk):=by
   grind
  have:Rel w d (aH C.ak d s.heap) ((args.toList.map (bL s.tmps)++c).getD j .unk) (b.getD j undef):=by
   by_cases t:j<args.toList.length
   ·have K:(args.toList.map (bL s.tmps)++c).getD j .unk=bL s.tmps args.toList[j]:=by
     grind
    have L:b.getD j undef=a.eval args.toList[j]:=by
     simp only[b];rw[List.getD,qAg (by simpa using t),qAE,qAc t];rfl
    rw[K,L];exact g.ev _
   grind
  replace this:=(h.get j).rel this;rw[J]at this;exact this.Ce (aln g p) _ rfl
 unfold Oper.wp;rw[u];refine(E _ _ _ b (aqc g p) l m).mono ?_;rintro e V ⟨v,M,rfl,x,N⟩;let⟨y,O,R⟩:=g.back p x D N;refine F y _ _ ?_;rw[IZ];exact O.aA o.dst R
def dK(P:Program)(c:Code)(Q:Exit->ASt->Prop)(s:ASt):Prop:=
 ∀(C:Ctx) (f:aS) (a:Act) (w:World),Sim C f s a w->c.wp P (λe g h=>∃d b,Q e d/\Sim C b d g h) a w
def dK.skip{P:Program}{Q:Exit->ASt->Prop}{s:ASt}(h:Q .normal s):dK P .skip Q s:=λ_ a _ _ b=>wp_skip ⟨s,a,h,b⟩
def dK.ret{P:Program}{Q:Exit->ASt->Prop}{s:ASt}(h:Q .ret s):dK P .ret Q s:=λ_ a _ _ b=>wp_ret ⟨s,a,h,b⟩
def dK.exit{P:Program}{Q:Exit->ASt->Prop}{s:ASt}{id:Nat}(h:Q (.exit id) s):dK P (.exit id) Q s:=λ_ a _ _ b=>wp_exit ⟨s,a,h,b⟩
def eG(ops:Array Oper)(tmps:An)(o:Oper):Ax:=
 match o.guard with|none=>some true|some (j,w)=>match(ops[j]?).bind (·.dst)with|none=>none|some d=>match tmps.getD d .unk with| .bool b=>some (b==w)| .tup []=>some false|_=>none
def nG{C:Ctx}{κ:aS}{s:ASt}{a:Act}{w:World}(hs:Sim C κ s a w){ops:Array Oper}{o:Oper}{b:Bool}(h:eG ops s.tmps o=some b):Region.wanted o (yielded ops a.tmps)=b:=by
 unfold eG at h;unfold Region.wanted;cases g:o.guard with
 |none=>rw[g]at h;simpa using h
 |some p=>
  let⟨j,n⟩:=p;rw[g]at h;simp only at h|-;unfold yielded;cases f:(ops[j]?).bind (·.dst)with
  |none=>rw[f]at h;cases h
  |some d=>
   rw[f]at h;simp only at h;have r:=hs.ev (.tmp d);simp only[bL,Act.eval]at r;split at h
   ·rename_i x c;rw[c]at r;have e:=r.Ra;have l:d<a.tmps.size:=by
     apply qAn;intro i;rw[qAq,Array.getElem?_eq_none (qBd i)]at e;cases e
    simp_all
   ·rename_i c;rw[c]at r;let⟨v,e,k,_⟩:=r.alB;have:v=[]:=qAD.1 k;by_cases l:d<a.tmps.size
    ·simp_all
    grind
   cases h
def aDR(P:Program)(ops:Array Oper)(o:Oper)(s s':ASt):Prop:=
 (eG ops s.tmps o=some true/\zD P o s s')∨(eG ops s.tmps o=some false/\s'=s.wr (aA o.dst (.tup [])))
inductive ASteps(P:Program)(ops:Array Oper):List Oper→ASt→ASt→Prop where
 |nil (s:ASt):ASteps P ops [] s s
 |cons {o:Oper} {l:List Oper} {s s1 s2:ASt}:aDR P ops o s s1→ASteps P ops l s1 s2→ASteps P ops (o::l) s s2
def aji{P:Program}{ops:Array Oper}{Q:Exit->Act->World->Prop}{l:List Oper}{s s':ASt}(h:ASteps P ops l s s'):∀(C:Ctx) (κ:aS) (a:Act) (w:World),Sim C κ s a w->(∀κ' c w',Sim C κ' s' c w'->Q .normal c w')->wpList P ops Q l a w:=by
 induction h with|nil s=>intro C κ a w b q;exact q κ a w b|cons f _ i=>
  intro C κ a w b q;simp only[wpList];rcases f with⟨d,t⟩|⟨d,rfl⟩
  ·rw[nG b d];exact .inl (t C κ a w b _ _ λκ' c w' e=>i C κ' c w' e q)
  rw[nG b d];exact i C κ _ w (b.aA _ lK) q
def Sim.reserve{C:Ctx}{κ:aS}{s:ASt}{a:Act}{w:World}(h:Sim C κ s a w)(n:Nat):Sim C (κ++List.replicate n none) {s with heap:=s.heap++List.replicate n .res} a w:=by
 have t:∀l,at? (κ++List.replicate n none) l=at? κ l:=λl=>by
  unfold at?
  grind
 have d:∀l,l<s.heap.length->obj? (s.heap++List.replicate n .res) l=obj? s.heap l:=λl i=>by
  unfold obj?;rw[qAg i]
 have e:∀l b,at? κ l=some b->l<s.heap.length:=λl b g=>by rw[<-h.klen];exact lt_of_at? g
 refine h.step (κ':=κ++List.replicate n none) (H':=s.heap++List.replicate n .res) (Evo.refl _ _) (λl b g=>by rw[t];exact g) (by simp[h.klen]) ?_ ?_ ?_ ?_ ?_ (λ_ _=>rfl) rfl rfl rfl
 ·rintro b o (g|⟨l,c,f⟩) _
  ·exact .inl g
  rw[t]at c;rw[d l (e l b c)]at f;exact .inr ⟨l,c,f⟩
 ·grind
 ·intro l j b c f k m;rw[t]at c f;rw[d l (e l b c)]at k;rw[d j (e j b f)]at m;exact h.apart l j b c f k m
 ·intro l b c;rw[t]at c;exact h.bound l b c
 intro l c;rw[t];by_cases i:l<s.heap.length
 ·rw[d l i]at c;exact h.resv l c
 exact at?_none_of_le (by rw[h.klen];exact qBd i)
def ASt.reserve(s:ASt)(n:Nat):ASt:={s with heap:=s.heap++List.replicate n .res}
def dK.region{P:Program}{id:Nat}{l:List Oper}{Q:Exit->ASt->Prop}{s s':ASt}(n:Nat)(h:ASteps P l.toArray l (s.reserve n) s')(q:Q .normal s'):dK P (.region id l.toArray false) Q s:=by intro C e a w d;exact wp_region_lit (aji h C _ a w (d.reserve n) λb f g c=>⟨s',b,q,c⟩)
def wm{α β:Type}{f g:α->β}:∀(l:List α),(∀x∈l,f x=g x)->l.map f=l.map g|[],_=>rfl|x::l,h=>by simp only[qAy];rw[h x cn,wm l (λy a=>h y (by simp[a]))]
def acX{ρ a:Operand->AV}(o:Option Operand)(h:∀x,o=some x->a x=ρ x):o.map a=o.map ρ:=by cases o with|none=>rfl|some x=>simp;rw[h x rfl]
def apV{P:Program}{op:Op}{ρ d:Operand->AV}(h:∀x∈op.operands,d x=ρ x):aC P op d=aC P op ρ:=by
 cases op with
 |move x=>simp only[aC];rw[h x (by simp[Op.operands])]
 |assign x=>simp only[aC];rw[h x (by simp[Op.operands])]
 |pick c x y=>simp only[aC];rw[h c (by simp[Op.operands]),h x (by simp[Op.operands]),h y (by simp[Op.operands])]
 |nilCheck x=>simp only[aC];rw[h x (by simp[Op.operands])]
 |binOp op t x y z=>simp only[aC];rw[h x (by simp[Op.operands]),h y (by simp[Op.operands])]
 |unOp op t x=>simp only[aC];rw[h x (by simp[Op.operands])]
 |fieldAddr s x f=>simp only[aC];rw[h x (by simp[Op.operands])]
 |field s x f=>simp only[aC];rw[h x (by simp[Op.operands])]
 |indexAddr t x i=>simp only[aC];rw[h x (by simp[Op.operands]),h i (by simp[Op.operands])]
 |index t x i=>simp only[aC];rw[h x (by simp[Op.operands]),h i (by simp[Op.operands])]
 |extract x i=>simp only[aC];rw[h x (by simp[Op.operands])]
 |slice t x o n q=>
  cases q with
  |some m=>rfl
  |none=>
   simp only[aC];rw[h x (by simp[Op.operands]),acX o (λy j=>h y (by subst j;simp[Op.operands])),acX n (λy j=>h y (by subst j;simp[Op.operands]))]
 |build t parts=>
  simp only[aC];rw[wm (f:=λp=>(p.1,d p.2)) (g:=λp=>(p.1,ρ p.2)) parts.toList (λp u=>by
   rw[h p.2 (by simp only[Op.operands];exact List.mem_toArray.2 (qAJ.2 ⟨p,u,rfl⟩))])]
 |makeFunc v first a=>
  cases v with
  |func f=>
   simp only[aC];rw[wm (f:=d) (g:=ρ) a.toList (λx w=>h x (by simp only[Op.operands];exact qBA.2 (.inr (qBr.1 w))))]
  |_=>rfl
 |load t x=>simp only[aC];rw[h x (by simp[Op.operands])]
 |convert s t x=>simp only[aC];rw[h x (by simp[Op.operands])]
 |call c=>
  let⟨l,k,r⟩:=c;cases l with
  |builtin b=>
   cases b<;>try rfl
   case len=>
    simp only[aC];split
    ·rename_i x t e A;rw[h x (by simp only[Op.operands,Call.operands];exact qBA.2 (.inr (qBr.1 (by rw[e];simp))))]
    rfl
   case max=>
    simp only[aC];split
    ·rename_i x y e;rw[h x (by simp only[Op.operands,Call.operands];exact qBA.2 (.inr (qBr.1 (by rw[e];simp)))),
      h y (by simp only[Op.operands,Call.operands];exact qBA.2 (.inr (qBr.1 (by rw[e];simp))))]
    rfl
   case min=>
    simp only[aC];split
    ·rename_i x y e;rw[h x (by simp only[Op.operands,Call.operands];exact qBA.2 (.inr (qBr.1 (by rw[e];simp)))),
      h y (by simp only[Op.operands,Call.operands];exact qBA.2 (.inr (qBr.1 (by rw[e];simp))))]
    rfl
  |_=>rfl
 |_=>rfl
def abh{P:Program}{k:Nat}{o:Oper}{ρ D:Operand->AV}{σ I:Nat->AObj}{rd:A5}{ws:B5}(h:aP P k o ρ σ=some (rd,ws))(f:∀x∈o.op.operands,D x=ρ x)(a:∀l∈rd,I l=σ l):
  aP P k o D I=some (rd,ws):=by
 let⟨dst,V,ty,pos,Q,R⟩:=o;unfold aP at h|-;rw[apV f];cases M:aC P V ρ with
 |some v=>simp only[M]at h|-;exact h
 |none=>
  simp only[M]at h|-;simp only at f;cases V<;>(try simp only[reduceCtorEq]at h|-)
  case load t x=>
   rw[f x (by simp[Op.operands])];split at h
   ·rename_i l E N;split at h
    ·rename_i S j;have d:rd=[l]:=by
      cases J:kC P t (S.drop E)with
      |none=>rw[J]at h;cases h
      |some v=>rw[J]at h;simp at h;exact h.1.symm
     rw[a l (by rw[d];simp),j];exact h
    ·rename_i z F j;split at h
     ·rename_i g;have d:rd=[l]:=by
       cases J:kC P t (F.getD (E/z) [])with
       |none=>rw[J]at h;cases h
       |some v=>rw[J]at h;simp at h;exact h.1.symm
      rw[a l (by rw[d];simp),j];simp only;rw[if_pos g];exact h
     cases h
    cases h
   cases h
  case store t x y=>
   rw[f x (by simp[Op.operands]),f y (by simp[Op.operands])];split at h
   ·rename_i l E vs N T;split at h
    ·rename_i S j;split at h
     ·rename_i g;have d:rd=[l]:=by simp at h;exact h.1.symm
      rw[a l (by rw[d];simp),j];simp only;rw[if_pos g];exact h
     cases h
    ·rename_i z F j;split at h
     ·rename_i g;have d:rd=[l]:=by simp at h;exact h.1.symm
      rw[a l (by rw[d];simp),j];simp only;rw[if_pos g];exact h
     rename_i hn;split at h
     ·rename_i g;have d:rd=[l]:=by simp at h;exact h.1.symm
      rw[a l (by rw[d];simp),j];simp only;rw[if_neg hn,if_pos g];exact h
     cases h
    cases h
   cases h
  case alloc t=>
   split at h
   ·rename_i w;have d:rd=[k]:=by
     cases A:lI P t with
     |none=>rw[A]at h;cases h
     |some z=>rw[A]at h;simp at h;exact h.1.symm
    rw[a k (by rw[d];simp),if_pos w];exact h
   cases h
  case box t x=>
   rw[f x (by simp[Op.operands])];split at h
   ·rename_i w;have d:rd=[k]:=by
     cases A:eO (ρ x)with
     |none=>rw[A]at h;cases h
     |some z=>rw[A]at h;simp at h;exact h.1.symm
    rw[a k (by rw[d];simp),if_pos w];exact h
   cases h
  case makeMap t r=>
   cases r with
   |none=>
    simp only at h|-;split at h
    ·rename_i w;have d:rd=[k]:=by simp at h;exact h.1.symm
     rw[a k (by rw[d];simp),if_pos w];exact h
    cases h
   |some x=>cases h
  case makeSlice t x y=>
   rw[f x (by simp[Op.operands]),f y (by simp[Op.operands])];split at h
   ·rename_i e G B kl l kc c W N T;split at h
    ·rename_i z A;split at h
     ·rename_i g;have d:rd=[k]:=by simp at h;exact h.1.symm
      rw[a k (by rw[d];simp)];rw[if_pos g];exact h
     cases h
    cases h
   cases h
  case buildSlice t len parts=>
   have W:(parts.toList.map λp=>(p.1,D p.2))=parts.toList.map λp=>(p.1,ρ p.2):=wm _ (λp M=>by
    rw[f p.2 (by simp only[Op.operands];exact List.mem_toArray.2 (qAJ.2 ⟨p,M,rfl⟩))])
   rw[W];split at h
   ·rename_i e G B q;split at h
    ·rename_i z A;split at h
     ·rename_i g;have d:rd=[k]:=by
       cases X:lH (λi=>some (i*G,G)) ((List.replicate len z).flatten) (parts.toList.map λp=>(p.1,ρ p.2))with
       |none=>rw[X]at h;cases h
       |some S=>rw[X]at h;simp at h;exact h.1.symm
      rw[a k (by rw[d];simp),if_pos g];exact h
     cases h
    cases h
   cases h
  case call c=>
   let⟨C,Y,H⟩:=c;cases C with
   |builtin b=>
    cases b<;>(try simp only[reduceCtorEq]at h|-);split at h
    ·rename_i x y t t2 Z O;have N:=f x (by simp only[Op.operands,Call.operands];exact qBA.2 (.inr (qBr.1 (by rw[Z];simp))));have T:=f y (by simp only[Op.operands,Call.operands];exact qBA.2 (.inr (qBr.1 (by rw[Z];simp))));rw[N,T];split at h
     ·rename_i e G B F ys K q L s u
      try simp only[q,L,s,u]
      split at h
      ·rename_i g;have d:rd=[k]:=by simp at h;exact h.1.symm
       rw[a k (by rw[d];simp),if_pos g];exact h
      cases h
     ·rename_i e G B F l z ys K q L s u
      try simp only[q,L,s,u]
      split at h
      ·rename_i n j;split at h
       ·rename_i g;have d:rd=[l,k]:=by simp at h;exact h.1.symm
        rw[a k (by rw[d];simp),a l (by rw[d];simp),j];simp only;rw[if_pos g];exact h
       cases h
      cases h
     ·rename_i e G B l z n ys K q L s u
      try simp only[q,L,s,u]
      split at h
      ·rename_i z' F j;split at h
       ·rename_i g;have d:rd=[l,k]:=by simp at h;exact h.1.symm
        rw[a k (by rw[d];simp),a l (by rw[d];simp),j];simp only;rw[if_pos g];exact h
       cases h
      cases h
     cases h
    cases h
   |_=>cases h
  case lookup t m key ok=>
   rw[f m (by simp[Op.operands]),f key (by simp[Op.operands])];split at h
   ·rename_i e l k' O U w
    try simp only[O,U,w]
    split at h
    ·rename_i F z j A;have d:rd=[l]:=by simp at h;exact h.1.symm
     rw[a l (by rw[d];simp),j,A];exact h
    cases h
   cases h
  case mapUpdate t m key x=>
   rw[f m (by simp[Op.operands]),f key (by simp[Op.operands]),f x (by simp[Op.operands])];split at h
   ·rename_i e l k' O U w
    try simp only[O,U,w]
    split at h
    ·rename_i F j;split at h
     ·rename_i g;have d:rd=[l]:=by simp at h;exact h.1.symm
      rw[a l (by rw[d];simp),j];simp only;rw[if_pos g];exact h
     cases h
    cases h
   cases h
structure Eff where
 rs:A5
 ro:A5
 ws:B5
abbrev B4:=List Eff
def jA(ws:B5):A5:=ws.filterMap λ| .slot n _=>some n|_=>none
def jS(ws:B5):A5:=ws.filterMap λ| .obj n _=>some n|_=>none
def oM:B5->Nat->Cd|[],_=>none| .slot m v::w,n=>(oM w n).or (if m=n then some v else none)| .obj _ _::w,n=>oM w n
def oU:B5->Nat->Option AObj|[],_=>none| .obj m v::w,n=>(oU w n).or (if m=n then some v else none)| .slot _ _::w,n=>oU w n
def dA(ws:B5):∀s:ASt,(s.wr ws).tmps.length=s.tmps.length/\(s.wr ws).heap.length=s.heap.length:=by induction ws with|nil=>intro s;exact⟨rfl,rfl⟩|cons w ws i=>intro s;have:=i (s.wr1 w);refine⟨this.1.trans ?_,this.2.trans ?_⟩<;>cases w<;>simp[ASt.wr1,ASt.setSlot,ASt.setObj]
def vW(ws:B5)(n:Nat):∀s:ASt,n<s.tmps.length->(s.wr ws).tmps.getD n .unk=(oM ws n).getD (s.tmps.getD n .unk):=by
 induction ws with
 |nil=>intro s _;rfl
 |cons w ws i=>
  intro s h;have a:=i (s.wr1 w) (by cases w<;>simpa[ASt.wr1,ASt.setSlot,ASt.setObj]using h);refine a.trans ?_;cases w with
  |slot m v=>
   simp only[oM];cases oM ws n with
   |some x=>rfl
   |none=>
    by_cases e:m=n
    ·subst e;rw[if_pos rfl];exact lW h
    rw[if_neg e];exact qy e
  |obj m v=>rfl
def tq(ws:B5)(n:Nat):∀s:ASt,n<s.heap.length->obj? (s.wr ws).heap n=(oU ws n).getD (obj? s.heap n):=by
 induction ws with
 |nil=>intro s _;rfl
 |cons w ws i=>
  intro s h;have a:=i (s.wr1 w) (by cases w<;>simpa[ASt.wr1,ASt.setSlot,ASt.setObj]using h);refine a.trans ?_;cases w with
  |obj m v=>
   simp only[oU];cases oU ws n with
   |some x=>rfl
   |none=>
    by_cases e:m=n
    ·subst e;rw[if_pos rfl];exact obj?_set_same h
    rw[if_neg e];exact obj?_set_other e
  |slot m v=>rfl
def JQ(a b:B5)(n:Nat):oM (a++b) n=(oM b n).or (oM a n):=by induction a with|nil=>simp[oM]|cons w a i=>cases w<;>simp[oM,i,Option.or_assoc]
def Jw(a b:B5)(n:Nat):oU (a++b) n=(oU b n).or (oU a n):=by induction a with|nil=>simp[oU]|cons w a i=>cases w<;>simp[oU,i,Option.or_assoc]
def XZ{ws:B5}{n:Nat}(h:n∉jA ws):oM ws n=none:=by
 induction ws with|nil=>rfl|cons w ws i=>cases w with|slot m v=>simp only[jA,qBG,qAh,not_or]at h;simp only[oM,i h.2,qCt,if_neg (qBo h.1)]|obj m v=>simp only[jA]at h;exact i h
def Y3{ws:B5}{n:Nat}(h:n∉jS ws):oU ws n=none:=by
 induction ws with|nil=>rfl|cons w ws i=>cases w with|obj m v=>simp only[jS,qBG,qAh,not_or]at h;simp only[oU,i h.2,qCt,if_neg (qBo h.1)]|slot m v=>simp only[jS]at h;exact i h
def ASt.ext'{s t:ASt}(h:s.tmps.length=t.tmps.length)(h2:s.heap.length=t.heap.length)(e:∀n,n<s.tmps.length->s.tmps.getD n .unk=t.tmps.getD n .unk)(c:∀n,n<s.heap.length->obj? s.heap n=obj? t.heap n):s=t:=by
 let⟨a,b⟩:=s;congr 1
 ·apply qBO h
  grind
 apply qBO h2;intro n g d;have:=c n g;simpa[obj?,g,d]using this
def bP(D:Nat->Bool):Nat->B4->B5|_,[]=>[]|k,e::s=>(if D k then e.ws else[])++bP D (k+1) s
def Lr{D D':Nat->Bool}{n:Nat}:∀(es:B4) (k:Nat),(∀i e,es[i]? =some e->n∈jA e.ws->D (k+i)=D' (k+i))->oM (bP D k es) n=oM (bP D' k es) n:=by
 intro es
 induction es with|nil=>intro k _;rfl|cons e es b=>
  intro k h;simp only[bP,JQ];rw[b (k+1) (λi f c a=>by have:=h (i+1) f (by simpa using c) a;rwa[show k+(i+1)=k+1+i from by omega]at this)];by_cases a:n∈jA e.ws;·have:=h 0 e cn a;rw[qAS]at this;rw[this]
  have:=XZ a;cases D k<;>cases D' k<;>simp[this,oM]
def Ic{D D':Nat->Bool}{n:Nat}:∀(es:B4) (k:Nat),(∀i e,es[i]? =some e->n∈jS e.ws->D (k+i)=D' (k+i))->oU (bP D k es) n=oU (bP D' k es) n:=by
 intro es
 induction es with|nil=>intro k _;rfl|cons e es b=>
  intro k h;simp only[bP,Jw];rw[b (k+1) (λi f c a=>by have:=h (i+1) f (by simpa using c) a;rwa[show k+(i+1)=k+1+i from by omega]at this)];by_cases a:n∈jS e.ws;·have:=h 0 e cn a;rw[qAS]at this;rw[this]
  have:=Y3 a;cases D k<;>cases D' k<;>simp[this,oU]
def Yv{ws:B5}{n:Nat}(h:n∈jA ws):∃v,oM ws n=some v:=by
 induction ws with
 |nil=>cases h
 |cons w ws i=>
  cases w with
  |slot m v=>
   simp only[jA,qBG,qAh]at h;simp only[oM];cases l:oM ws n with
   |some x=>exact⟨x,rfl⟩
   |none=>
    rcases h with h|h
    ·simp_all
    let⟨x,a⟩:=i h;rw[l]at a;cases a
  |obj m v=>simp only[jA]at h;exact i h
def aqK{D:Nat->Bool}{n:Nat}:∀(es:B4) (k i:Nat) (e:Eff),es[i]? =some e->D (k+i)=true->n∈jA e.ws->(∀j f,es[j]? =some f->i<j->D (k+j)=true->n∉jA f.ws)->oM (bP D k es) n=oM e.ws n:=by
 intro es
 induction es with
 |nil=>intro k i e h;simp at h
 |cons f es a=>
  intro k i e b c w o;simp only[bP,JQ];cases i with
  |zero=>
   simp at b;subst b;rw[qAS]at c;have r:oM (bP D (k+1) es) n=oM (bP (λ_=>false) (k+1) es) n:=Lr es (k+1) (λi g l m=>by
    cases d:D (k+1+i)with
    |false=>rfl
    |true=>exact(o (i+1) g (by simpa using l) Cl (by rw[show k+(i+1)=k+1+i from by omega];exact d) m).elim)
   have z:∀(es:B4) (k:Nat),bP (λ_=>false) k es=[]:=λes=>by
    induction es with
    |nil=>intro k;rfl
    |cons e es a=>intro k;simp[bP,a]
   rw[r,z,c];simp[oM]
  |succ i=>
   have:=a (k+1) i e (by simpa using b) (by rw[show k+1+i=k+(i+1)from by omega];exact c) w (λj g l t d=>o (j+1) g (by simpa using l) Cl (by rw[show k+(j+1)=k+1+j from by omega];exact d));rw[this];let⟨v,p⟩:=Yv w;rw[p];rfl
def YJ{ws:B5}{n:Nat}(h:n∈jS ws):∃v,oU ws n=some v:=by
 induction ws with
 |nil=>cases h
 |cons w ws i=>
  cases w with
  |obj m v=>
   simp only[jS,qBG,qAh]at h;simp only[oU];cases l:oU ws n with
   |some x=>exact⟨x,rfl⟩
   |none=>
    rcases h with h|h
    ·simp_all
    let⟨x,a⟩:=i h;rw[l]at a;cases a
  |slot m v=>simp only[jS]at h;exact i h
def asZ{D:Nat->Bool}{n:Nat}:∀(es:B4) (k i:Nat) (e:Eff),es[i]? =some e->D (k+i)=true->n∈jS e.ws->(∀j f,es[j]? =some f->i<j->D (k+j)=true->n∉jS f.ws)->oU (bP D k es) n=oU e.ws n:=by
 intro es
 induction es with
 |nil=>intro k i e h;simp at h
 |cons f es a=>
  intro k i e b c w o;simp only[bP,Jw];cases i with
  |zero=>
   simp at b;subst b;rw[qAS]at c;have r:oU (bP D (k+1) es) n=oU (bP (λ_=>false) (k+1) es) n:=Ic es (k+1) (λi g l m=>by
    cases d:D (k+1+i)with
    |false=>rfl
    |true=>exact(o (i+1) g (by simpa using l) Cl (by rw[show k+(i+1)=k+1+i from by omega];exact d) m).elim)
   have z:∀(es:B4) (k:Nat),bP (λ_=>false) k es=[]:=λes=>by
    induction es with
    |nil=>intro k;rfl
    |cons e es a=>intro k;simp[bP,a]
   rw[r,z,c];simp[oU]
  |succ i=>
   have:=a (k+1) i e (by simpa using b) (by rw[show k+1+i=k+(i+1)from by omega];exact c) w (λj g l t d=>o (j+1) g (by simpa using l) Cl (by rw[show k+(j+1)=k+1+j from by omega];exact d));rw[this];let⟨v,p⟩:=YJ w;rw[p];rfl
end Abs
end Go.Proofs.YtneeginmfjageaaGreat
