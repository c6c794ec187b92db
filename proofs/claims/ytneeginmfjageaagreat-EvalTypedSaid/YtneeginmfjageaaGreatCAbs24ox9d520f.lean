/-
  Regions that draw their order: the theorem ('AWP.drawn'). Conditions: none; lemmas over any program.
-/
import Derived.Test.YtneeginmfjageaaGreatCAbs17ox996e3b
set_option linter.all false
namespace Go.Proofs.YtneeginmfjageaaGreat
namespace Abs
section
open Go
structure Agree(t s:ASt)(e:Eff):Prop where
 tl:t.tmps.length=s.tmps.length
 hl:t.heap.length=s.heap.length
 rs:∀n∈e.rs,t.tmps.getD n .unk=s.tmps.getD n .unk
 ro:∀l∈e.ro,obj? t.heap l=obj? s.heap l
def Gr P ops o s e:=∀t,Agree t s e->aB2 P ops o t (t.wr e.ws)
inductive ATr(P:Program)(ops:Array Oper):List Oper→List Eff→ASt→ASt→Prop where
 |nil (s:ASt):ATr P ops [] [] s s
 |cons {o:Oper} {l:List Oper} {e:Eff} {es:List Eff} {s s':ASt}:Gr P ops o s e→ATr P ops l es (s.wr e.ws) s'→ATr P ops (o::l) (e::es) s s'
theorem ATr.steps{P}{ops}{l}{es}{s s'}(h:ATr P ops l es s s'):ASteps P ops l s s':=by
 induction h with|nil s=>exact .nil s|cons e _ i=>exact .cons (e _ ⟨rfl,rfl,λ_ _=>rfl,λ_ _=>rfl⟩) i
def oF(o:Oper):=(o.after.toList.filter (Region.binds .any)).map (·.on)
def DU:List Oper->List (List Nat)->List (List Nat)|[],a=>a|o::l,a=>DU l (a++[oF o++(oF o).flatMap λp=>a.getD p []])
def fD(e f:Eff):=
 (iD e.ws).any (λn=>f.rs.contains n ||(iD f.ws).contains n) ||(iD f.ws).any (λn=>e.rs.contains n) ||
 (je e.ws).any (λn=>f.ro.contains n ||(je f.ws).contains n) ||(je f.ws).any λn=>e.ro.contains n
def u7:Eff:=⟨[],[],[]⟩
def lF(l)(es:List Eff):=
 (List.range l.length).all λj=>(oF (l.getD j default)).all (λp=>decide (p<j))&&(List.range j).all λi=>!fD (es.getD i u7) (es.getD j u7) ||((DU l []).getD j []).contains i
theorem KI{D:Nat->Prop}:∀l a,(∀j i,D j->i∈a.getD j []->D i)->(∀j o,l[j]? =some o->D (a.length+j)->∀p∈oF o,D p)->∀j i,D j->i∈(DU l a).getD j []->D i:=by
 intro l
 induction l with|nil=>exact λa h _ j i c b=>h j i c b|cons o l g=>
  intro a h e j i c b;simp only[DU]at b;refine g _ ?_ ?_ j i c b
  ·intro j i c b;by_cases t:j<a.length
   ·rw[List.getD,qAi t]at b;exact h j i c b
   by_cases k:j=a.length
   ·subst k;rw[List.getD,qAk (qAd _)]at b;simp only[Nat.sub_self,qAF,qAv,qAn,qBp]at b;have f:=e 0 o (by simp) c
    grind
   grind
  intro j m d n p f;refine e (j+1) m (by simpa using d) ?_ p f
  grind
theorem ATr.spec{P}{ops}{l}{es}{s s'}(h:ATr P ops l es s s'):l.length=es.length/\s'=s.wr (bG (λ_=>true) 0 es)/\
  ∀i o e,l[i]? =some o->es[i]? =some e->Gr P ops o (s.wr (bG (λj=>decide (j<i)) 0 es)) e:=by
 have z:∀(es:List Eff) (k:Nat),bG (λ_=>false) k es=[]:=λes=>by
  induction es with|nil=>intro k;rfl|cons e es c=>intro k;simp[bG,c]
 have n:∀(D d:Nat->Bool) (es:List Eff) (k a:Nat),(∀i,D (k+i)=d (a+i))->bG D k es=bG d a es:=λD d es=>by
  induction es with|nil=>intro k a _;rfl|cons e es c=>intro k a h;simp only[bG];have g:=h 0;rw[qAP,qAP]at g;rw[g,c (k+1) (a+1) (λi=>by have:=h (i+1);rwa[show k+(i+1)=k+1+i from by omega,show a+(i+1)=a+1+i from by omega]at this)]
 induction h with|nil s=>exact⟨rfl,rfl,λi o e h=>by simp at h⟩|@cons o l e es s s' m _ c=>
  obtain⟨p,q,r⟩:=c;refine⟨by simp[p],?_,λi t u f b=>?_⟩
  ·rw[q];simp only[bG,Fw]
   grind
  cases i with
  |zero=>
   simp at f b;subst f b;have:bG (λj=>decide (j<0)) 0 (e::es)=[]:=by simp_all
   rw[this];exact m
  |succ i=>
   have:=r i t u (by simpa using f) (by simpa using b);have v:bG (λj=>decide (j<i+1)) 0 (e::es)=e.ws++bG (λj=>decide (j<i)) 0 es:=by
    simp only[bG]
    grind
   rw[v,Fw];exact this
theorem Uj{e f n}(h:fD e f=false)(a:n∈iD e.ws):n∉f.rs/\n∉iD f.ws:=by
 simp only[fD]at h
 grind
theorem Td{e f n}(h:fD e f=false)(a:n∈je e.ws):n∉f.ro/\n∉je f.ws:=by
 simp only[fD]at h
 grind
theorem abT{s:Array Bool}{i}(hi:i<s.size)(f:s.getD i true=false):((s.setIfInBounds i true).toList.filter (!·)).length+1=(s.toList.filter (!·)).length:=by
 have k:∀(l:List Bool) (i:Nat),i<l.length->l.getD i true=false->((l.set i true).filter (!·)).length+1=(l.filter (!·)).length:=by
  intro l
  induction l with|nil=>intro i hi;simp at hi|cons x l a=>
   intro i hi h;cases i with|zero=>simp[List.getD]at h;subst h;simp|succ i=>grind
 simp_all
theorem auT{P}{l}{es}{s s'}{C}{Q}(htr:ATr P l.toArray l es s s')(hok:lF l es=true)(hq:∀κ' Y w',Sim C κ' s' Y w'->Q .normal Y w'):
  ∀(u:Nat) (t:Array Bool) (κ:aM) (a:Act) (w:World),t.size=l.length->(t.toList.filter (!·)).length=u->
   (∀j o,l[j]? =some o->t.getD j false=true->∀p∈oF o,t.getD p false=true)->
   Sim C κ (s.wr (bG (λi=>t.getD i false) 0 es)) a w->wpAny P .any l.toArray Q u t a w:=by
 obtain⟨hlen,hs',heff⟩:=htr.spec;have I:∀j,j<l.length->(∀p∈oF (l.getD j default),p<j)/\∀i,i<j->fD (es.getD i u7) (es.getD j u7)=true->i∈(DU l []).getD j []:=λj c=>by
  have:=qAJ.1 hok j (qCc.2 c)
  grind
 have hall:∀(t:Array Bool),t.size=l.length->Region.ready .any l.toArray t=[]->∀i,i<l.length->t.getD i false=true:=by
  intro t z hr i
  induction i using Nat.strongRecOn with|_ i ih=>
   intro O;cases hb:t.getD i false with|true=>rfl|false=>
    exfalso;have y:i<t.size:=by omega
    have:i∈Region.ready .any l.toArray t:=by
     refine mem_ready.2 ⟨?_,l[i],by simp[O],λe he Z=>?_⟩;·simpa[Array.getD,y]using hb
     have J:=(I i O).1 e.on (by simp only[oF,List.getD,qAc O,qAv];exact qAA.2 ⟨e,qAY.2 ⟨by simpa using he,Z⟩,rfl⟩)
     exact ih e.on J (by omega)
    rw[hr]at this;cases this
 have K:∀(t:Array Bool) (κ:aM) (a:Act) (w:World),t.size=l.length->Region.ready .any l.toArray t=[]->Sim C κ (s.wr (bG (λi=>t.getD i false) 0 es)) a w->Q .normal a w:=by
  intro t κ a w z hr m;have ha:=hall t z hr;refine hq κ a w ?_;have:s.wr (bG (λi=>t.getD i false) 0 es)=s':=by
   rw[hs'];refine ASt.ext' (by rw[(bT _ s).1,(bT _ s).1]) (by rw[(bT _ s).2,(bT _ s).2]) (λn k=>?_) (λn k=>?_);·rw[(bT _ s).1]at k;rw[uL _ n s k,uL _ n s k];rw[IL (D':=λ_=>true) es 0 (λi e O _=>by rw[qAK];exact ha i (by have:=(qAy.1 O).1;omega))]
   rw[(bT _ s).2]at k;rw[qX _ n s k,qX _ n s k];rw[FI (D':=λ_=>true) es 0 (λi e O _=>by rw[qAK];exact ha i (by have:=(qAy.1 O).1;omega))]
  rw[<-this];exact m
 intro u
 induction u with
 |zero=>
  intro t κ a w z hcnt _ m;have hr:Region.ready .any l.toArray t=[]:=by
   cases hrd:Region.ready .any l.toArray t with|nil=>rfl|cons i r=>
    exfalso;have hm:i∈Region.ready .any l.toArray t:=by rw[hrd];simp
    obtain⟨h1,o,h2,_⟩:=mem_ready.1 hm;have y:i<t.size:=by have:=(qBi.1 h2).1;simp at this;omega
    have:=abT y h1;omega
  exact⟨hr,K t κ a w z hr m⟩
 |succ u ih=>
  intro t κ a w z hcnt A m;refine⟨λhr=>K t κ a w z hr m,λi O=>?_⟩;obtain⟨h1,o,h2,h3⟩:=mem_ready.1 O;have hil:i<l.length:=by have:=(qBi.1 h2).1;simpa using this
  have hlo:l[i]? =some o:=by simpa using h2
  have y:i<t.size:=by omega
  have hi0:t.getD i false=false:=by simpa[Array.getD,y]using h1
  obtain⟨e,H⟩:∃e,es[i]? =some e:=⟨_,qAc (by omega)⟩;have hgi:es.getD i u7=e:=by rw[List.getD,H];rfl
  -- where something conflicts with i
  have Z:∀j V,t.getD j false=true->V∈(DU l []).getD j []->t.getD V false=true:=
   KI (D:=λj=>t.getD j false=true) l [] (λj V _ hi'=>by simp at hi') (λj o' c W p J=>A j o' c (by simpa using W) p J)
  have R:∀j f,es[j]? =some f->j<i->fD f e=true->t.getD j false=true:=λj f c b x=>by
   have hgj:es.getD j u7=f:=by rw[List.getD,c];rfl
   have hb:=(I i hil).2 j b (by rw[hgj,hgi];exact x);have W:∀j' V,(t.getD j' false=true∨j'=i)->V∈(DU l []).getD j' []->(t.getD V false=true∨V=i):=
    KI (D:=λj=>t.getD j false=true∨j=i) l [] (λj V _ hi'=>by simp at hi') (λj' o' hj' W p J=>by
     simp only[qAC,qAK]at W;rcases W with W|rfl
     ·exact .inl (A j' o' hj' W p J)
     rw[hlo]at hj';cases hj';simp only[oF,qAA,qAY]at J;obtain⟨ed,⟨he1,he2⟩,rfl⟩:=J;exact .inl (h3 ed (by simpa using he1) he2))
   rcases W i j (.inr rfl) hb with h|h
   ·exact h
   omega
  have hlate:∀j f,es[j]? =some f->i<j->fD e f=true->t.getD j false=false:=λj f c b x=>by
   have hjl:j<l.length:=by have:=(qAy.1 c).1;omega
   have hgj:es.getD j u7=f:=by rw[List.getD,c];rfl
   have hb:=(I j hjl).2 i b (by rw[hgj,hgi];exact x);cases S:t.getD j false with|false=>rfl|true=>have:=Z j i S hb;rw[hi0]at this;cases this
  have d:∀j f,es[j]? =some f->(fD f e=true∨fD e f=true->j≠i->t.getD j false=decide (j<i)):=λj f c=>by
   have X:fD f e=true↔fD e f=true:=by
    simp only[fD,qBm,qDw,List.contains_iff_mem];constructor
    ·rintro(((⟨n,q,g|g⟩|⟨n,q,g⟩)|⟨n,q,g|g⟩)|⟨n,q,g⟩)
     ·exact .inl (.inl (.inr ⟨n,q,g⟩))
     ·exact .inl (.inl (.inl ⟨n,g,.inr q⟩))
     ·exact .inl (.inl (.inl ⟨n,q,.inl g⟩))
     ·exact .inr ⟨n,q,g⟩
     ·exact .inl (.inr ⟨n,g,.inr q⟩)
     exact .inl (.inr ⟨n,q,.inl g⟩)
    rintro(((⟨n,q,g|g⟩|⟨n,q,g⟩)|⟨n,q,g|g⟩)|⟨n,q,g⟩);·exact .inl (.inl (.inr ⟨n,q,g⟩))
    ·exact .inl (.inl (.inl ⟨n,g,.inr q⟩))
    ·exact .inl (.inl (.inl ⟨n,q,.inl g⟩))
    ·exact .inr ⟨n,q,g⟩
    ·exact .inl (.inr ⟨n,g,.inr q⟩)
    exact .inl (.inr ⟨n,q,.inl g⟩)
   intro x hne;rcases Nat.lt_or_gt_of_ne hne with G|hgt
   ·rw[R j f c G (x.elim id X.2)];simp[G]
   rw[hlate j f c hgt (x.elim X.1 id)];simp;omega
  let D:Nat->Bool:=λj=>t.getD j false
  have T:Agree (s.wr (bG D 0 es)) (s.wr (bG (λj=>decide (j<i)) 0 es)) e:=by
   refine⟨by rw[(bT _ s).1,(bT _ s).1],by rw[(bT _ s).2,(bT _ s).2],λn k=>?_,λn k=>?_⟩
   ·by_cases L:n<s.tmps.length
    ·rw[uL _ n s L,uL _ n s L];congr 1;refine IL es 0 λj f c B=>?_;rw[qAK];by_cases b:j=i
     ·subst b;show t.getD j false=_;rw[hi0];simp
     refine d j f c (.inl ?_) b;cases x:fD f e with|true=>rfl|false=>exact((Uj x B).1 k).elim
    have e1:(s.wr (bG D 0 es)).tmps.getD n .unk=.unk:=by rw[List.getD,qAE (by rw[(bT _ s).1];omega)];rfl
    have e2:(s.wr (bG (λj=>decide (j<i)) 0 es)).tmps.getD n .unk=.unk:=by rw[List.getD,qAE (by rw[(bT _ s).1];omega)];rfl
    rw[e1,e2]
   by_cases L:n<s.heap.length
   ·rw[qX _ n s L,qX _ n s L];congr 1;refine FI es 0 λj f c B=>?_;rw[qAK];by_cases b:j=i
    ·subst b;show t.getD j false=_;rw[hi0];simp
    refine d j f c (.inl ?_) b;cases x:fD f e with|true=>rfl|false=>exact((Td x B).1 k).elim
   have e1:obj? (s.wr (bG D 0 es)).heap n=.dead:=by rw[obj?,qAE (by rw[(bT _ s).2];omega)];rfl
   have e2:obj? (s.wr (bG (λj=>decide (j<i)) 0 es)).heap n=.dead:=by rw[obj?,qAE (by rw[(bT _ s).2];omega)];rfl
   rw[e1,e2]
  have hstep:=heff i o e hlo H _ T;have E:∀j,(t.setIfInBounds i true).getD j false=(D j ||decide (j=i)):=λj=>by
   by_cases b:i=j;·subst b;simp[Array.getD,y]
   simp only[qAq,qCQ b,D];simp[qBr b]
  have U:(s.wr (bG D 0 es)).wr e.ws=s.wr (bG (λj=>(t.setIfInBounds i true).getD j false) 0 es):=by
   rw[<-Fw];refine ASt.ext' (by rw[(bT _ s).1,(bT _ s).1]) (by rw[(bT _ s).2,(bT _ s).2]) (λn k=>?_) (λn k=>?_)
   ·rw[(bT _ s).1]at k;rw[uL _ n s k,uL _ n s k,G7];congr 1;by_cases B:n∈iD e.ws
    ·rw[apW (D:=λj=>(t.setIfInBounds i true).getD j false) es 0 i e H (by rw[qAK,E];simp) B (λj f c hij M F=>by
      rw[qAK,E]at M;have b:j≠i:=by omega
      have hDj:t.getD j false=true:=by simpa[b,D]using M
      have x:fD f e=true:=by
       cases x:fD f e with
       |true=>rfl|false=>exact((Uj x F).2 B).elim
      have:=d j f c (.inl x) b;rw[hDj]at this;have G:j<i:=by simpa using this.symm
      omega)]
     obtain⟨v,hv⟩:=Wx B;rw[hv];rfl
    rw[Vm B,qCy];refine IL es 0 λj f c F=>?_;rw[qAK,E];have b:j≠i:=λe'=>by subst e';rw[H]at c;cases c;exact B F
    simp[b,D]
   rw[(bT _ s).2]at k;rw[qX _ n s k,qX _ n s k,H8];congr 1;by_cases B:n∈je e.ws
   ·rw[aq6 (D:=λj=>(t.setIfInBounds i true).getD j false) es 0 i e H (by rw[qAK,E];simp) B (λj f c hij M F=>by
     rw[qAK,E]at M;have b:j≠i:=by omega
     have hDj:t.getD j false=true:=by simpa[b,D]using M
     have x:fD f e=true:=by
      cases x:fD f e with|true=>rfl|false=>exact((Td x F).2 B).elim
     have:=d j f c (.inl x) b;rw[hDj]at this;have G:j<i:=by simpa using this.symm
     omega)]
    obtain⟨v,hv⟩:=Xf B;rw[hv];rfl
   rw[Vj B,qCy];refine FI es 0 λj f c F=>?_;rw[qAK,E];have b:j≠i:=λe'=>by subst e';rw[H]at c;cases c;exact B F
   simp[b,D]
  have N:∀κ' Y w',Sim C κ' ((s.wr (bG D 0 es)).wr e.ws) Y w'->wpAny P .any l.toArray Q u (t.setIfInBounds i true) Y w':=λκ' Y w' hs2=>by
   rw[U]at hs2;refine ih (t.setIfInBounds i true) κ' Y w' (by simpa using z) (by have:=abT y h1;omega) ?_ hs2;intro j o' c S p J;rw[E]at S|-;by_cases b:j=i
   ·subst b;rw[hlo]at c;cases c;simp only[oF,qAA,qAY]at J;obtain⟨ed,⟨he1,he2⟩,rfl⟩:=J;have:=h3 ed (by simpa using he1) he2;simp only[D,this,qCp]
   have hlj':t.getD j false=true:=by simpa[b,D]using S
   have:=A j o' c hlj' p J;simp only[D,this,qCp]
  unfold wpOp;rw[h2];dsimp only;rcases hstep with⟨hwd,ht⟩|⟨hwd,he⟩
  ·rw[lN m hwd];simp only[if_true];exact .inl (ht C κ a w m _ _ N)
  rw[lN m hwd];simp only[qBN,if_false];refine N κ _ w ?_;rw[he];exact m.au _ kC
theorem cZ.drawn{P}{id}{l}{es}{Q}{s s'} n (q:P.follows .mixedOrders=true)(h:ATr P l.toArray l es (s.reserve n) s')(c:lF l es=true)(r:Q .normal s'):cZ P (.region id l.toArray true) Q s:=by
 intro C y a w t;refine wp_region_any q ?_;have u:=(t.reserve n).sameHeap (w':={w with drawn:=w.drawn+1}) rfl rfl rfl rfl;have f:bG (λi=>(Array.replicate l.length false).getD i false) 0 es=[]:=by
  have z:∀(D:Nat->Bool) (es:List Eff) (k:Nat),(∀i,D i=false)->bG D k es=[]:=λD es=>by
   induction es with|nil=>intro k _;rfl|cons e es v=>intro k m;simp[bG,v _ m,m]
  refine z _ es 0 λi=>?_;simp[Array.getD]
 have:=auT (C:=C) (Q:=λe p d=>∃b κ',Q e b/\Sim C κ' b p d) h c (λκ' p d g=>⟨s',κ',r,g⟩) l.length (Array.replicate l.length false) _ a _ (by simp) (by simp) (λj o _ x=>by simp[Array.getD]at x) (by rw[f];exact u)
 grind
def wX(P:Program)(s:ASt):List ResultVar->Option (List AV)|[]=>some []| .tmp t::r=>(wX P s r).map (s.tmps.getD t .unk::·)| .cell a t::r=>match s.tmps.getD a .unk with
  | .ptr l o=>match obj? s.heap l with
   | .box c=>match jB P t (c.drop o)with|some v=>(wX P s r).map (v::·)|none=>none
   |_=>none
  |_=>none
def H7(w:Bool):List AV->AV|[x]=>if w then sN x else x|s=>.tup (if w then s.map sN else s)
def SS(tmps:Array Value):ResultVar->Sem Value| .tmp t=>pure (tmps.getD t undef)| .cell a t=>do loadVar t (<-asAddr (tmps.getD a undef))
theorem Ni fn tmps:results fn tmps=(do let vs <-fn.results.mapM (SS tmps);pure (if h:vs.size=1 then vs[0]else .tuple vs)):=by congr 1
theorem Kv{P}{C}{κ}{s}{a}{w}(hs:Sim C κ s a w):∀(f:List ResultVar) (xs:List AV),wX P s f=some xs->
  ∃g:List Value,g.length=xs.length/\(∀j,j<xs.length->Rel w κ (aD C.ak κ s.heap) (xs.getD j .unk) (g.getD j undef))/\(f.mapM (SS a.tmps)).run P w=.ok g w:=by
 intro f
 induction f with|nil=>intro xs h;simp only[wX,Option.some.injEq]at h;subst h;exact⟨[],rfl,λj k=>(by cases k),by simp⟩|cons r f B=>
  intro xs h;have m:∀(v:AV) (u:Value) (i:List AV),wX P s f=some i->xs=v::i->Rel w κ (aD C.ak κ s.heap) v u->(SS a.tmps r).run P w=.ok u w->
    ∃g:List Value,g.length=xs.length/\(∀j,j<xs.length->Rel w κ (aD C.ak κ s.heap) (xs.getD j .unk) (g.getD j undef))/\((r::f).mapM (SS a.tmps)).run P w=.ok g w:=λv u i d n q z=>by
   obtain⟨g,D,L,M⟩:=B i d;subst n;refine⟨u::g,by simp[D],λj k=>?_,?_⟩;·grind
   simp_all
  cases r with
  |tmp t=>
   simp only[wX]at h;cases d:wX P s f with
   |none=>rw[d]at h;cases h|some i=>rw[d]at h;simp only[qAx,Option.some.injEq]at h;refine m _ (a.tmps.getD t undef) i d h.symm ?_ (by simp[SS]);exact hs.ev (.tmp t)
  |cell x t=>
   simp only[wX]at h;split at h
   ·rename_i l o E;split at h
    ·rename_i A F;split at h
     ·rename_i v q;cases d:wX P s f with|none=>rw[d]at h;cases h|some i=>
       rw[d]at h;simp only[qAx,Option.some.injEq]at h;have p:=hs.ev (.tmp x);simp only[bC,Act.eval]at p;rw[E]at p;obtain⟨b,e,G⟩:=p.qm;obtain⟨c,N,O,Q,H,I⟩:=hs.box G F;obtain⟨y,J,K⟩:=Hw (P:=P) (w:=w) (κ:=κ) (pv:=aD C.ak κ s.heap) (b:=b) (off:=o) (cs:=A.drop o) (λj=>c.getD (o+j) undef)
        (λj k=>H _ (by simp at k;omega)) (λj k=>by rw[getD_drop];exact I _ (by simp at k;omega)) q
       exact m v y i d h.symm K (by simp only[SS,e];simp[asAddr,J])
     cases h
    cases h
   cases h
def Jd(P)rs(wk)L(H:List AObj)res(H')s:=
 ∃x,wX P s rs=some x/\H7 wk x=ren (nm L s.heap.length) res/\L.Nodup/\H'.length=L.length/\H.length<=L.length/\(∀i,i<H.length->L[i]? =some i)/\(∀l∈L,l<s.heap.length)/\
  ∀i l,L[i]? =some l->obj? s.heap l=dR (nm L s.heap.length) (obj? H' i)
def bodyC(κ:aM)(ak:bJ)(H:List AObj)(w:World)(ds:List Deferred):Ctx:={ak:=ak,old:=λb=>b<w.heap.size/\∀l,at? κ l=some b->¬live (obj? H l),w0:=w,k0:=κ,pvE:=aD ak κ H,ds:=ds}
def aY(ops:Array Oper)(o:Oper):List Nat:=
 (o.op.operands.toList.filterMap λ| .tmp t=>some t|_=>none)++match o.guard with|some (g,_)=>((ops[g]?).bind (·.dst)).toList|none=>[]
theorem LC{a m}{ops}{o}(h:∀n∈aY ops o,m.getD n .unk=a.getD n .unk):∀x∈o.op.operands,bC m x=bC a x:=by
 intro x b;cases x with|tmp t=>exact h t (qBy _ (List.mem_filterMap.2 ⟨.tmp t,by simpa using b,rfl⟩))|const v=>rfl|func f=>rfl|global g=>rfl
theorem uM{m t}{ops}{o}(h:∀n∈aY ops o,t.getD n .unk=m.getD n .unk):dY ops t o=dY ops m o:=by
 unfold dY;cases g:o.guard with|none=>rfl|some p=>
  obtain⟨j,w⟩:=p;simp only;cases a:(ops[j]?).bind (·.dst)with|none=>rfl|some d=>simp only;rw[h d (by unfold aY;rw[g];simp[a])]
theorem JV{P ops o s k rd ws}(w:dY ops s.tmps o=some true)(h:aJ P k o (bC s.tmps) (obj? s.heap)=some (rd,ws)):Gr P ops o s ⟨aY ops o,rd,ws⟩:=by intro t a;refine .inl ⟨by rw[uM a.rs];exact w,afX (k:=k) (rd:=rd) ?_⟩;exact Zl h (LC a.rs) a.ro
theorem Fh{P ops o s}(h:dY ops s.tmps o=some false):Gr P ops o s ⟨aY ops o,[],au o.dst (.tup [])⟩:=by exact λt a=>.inr ⟨by rw[uM a.rs];exact h,rfl⟩
inductive Keep{α:Type}(a:α):Type where
 |mk:Keep a
def GV(P)f(args)dst(s)k(K:Nat->List Nat->List Wr->Prop)(_:Keep K):=
 kE P f=true/\∃(c b:List Nat) (a:List AV) (H:List AObj) (r:AV) (h:List AObj),Passes s c b H/\h.length=(c++b).length/\SWs args (a.map (ren (nm (c++b) s.heap.length)))/\cK P f a H r h/\
  K (k+b.length) (c++b) (kU (c++b) (h.map (dR (nm (c++b) s.heap.length)))++au dst (ren (nm (c++b) s.heap.length) r))
theorem EP{P ops o s d args argTypes f c a ρ k H H' res}(w:dY ops s.tmps o=some true)
  (g:o.op=.call {callee:=.value d,args,argTypes}) (v:bC s.tmps d=.func f c) (j:kE P f=true) (p:Passes s ρ k H) (y:H'.length=(ρ++k).length)
  (r:SWs (args.toList.map (bC s.tmps)++c) (a.map (ren (nm (ρ++k) s.heap.length)))) (z:cK P f a H res H'):
  Gr P ops o s ⟨aY ops o,ρ++k,kU (ρ++k) (H'.map (dR (nm (ρ++k) s.heap.length)))++au o.dst (ren (nm (ρ++k) s.heap.length) res)⟩:=by
 intro t h;have b:=LC h.rs;have n:d∈o.op.operands:=by rw[g];simp[Op.operands,Call.operands]
 have q:Passes t ρ k H:=by refine⟨p.nodup,p.hlen,λl e=>by rw[h.hl];exact p.lt l e,λl e=>by rw[h.ro l (qBA _ e)];exact p.res l e,λi l u=>?_⟩;rw[h.ro l (qBy _ (qAG u)),h.hl];exact p.obj i l u
 have m:args.toList.map (bC t.tmps)=args.toList.map (bC s.tmps):=uO _ (λx A=>b x (by rw[g];simp only[Op.operands];exact qBC.2 (.inr (qBu.1 A))));have:=aBw (P:=P) (o:=o) (s:=t) g (by rw[b d n];exact v) j q y (by rw[m,h.hl];exact r) z;rw[h.hl]at this;exact .inl ⟨by rw[uM h.rs];exact w,this⟩
def jg:Op->Nat| .alloc _=>1| .box _ _=>1| .makeMap _ _=>1| .buildSlice _ _ _=>1| .makeSlice _ _ _=>1| .call {callee:=.builtin .append,..}=>1|_=>0
def lJ:Op->Option (Operand×Array Operand)| .call {callee:=.value f,args,..}=>some (f,args)|_=>none
theorem vP{op f args}(h:lJ op=some (f,args)):∃t,op=.call {callee:=.value f,args,argTypes:=t}:=by
 unfold lJ at h
 grind
section
variable {P:Program}{k:Nat}{d:Option Tmp}{ty:TypeId}{ps:String}{af:Array Edge}{gd:Option (Nat×Bool)}{ρ:Operand→AV}{σ:Nat→AObj}
def mO(d:Option Tmp)(r:Option AV):Option (List Nat×List Wr):=r.map λv=>([],au d v)
def aol(P:Program)(t:TypeId)(σ:Nat->AObj)(d:Option Tmp):AV->Option (List Nat×List Wr)
 | .eptr c=>mO d (jB P t c)| .ptr l o=>match σ l with| .box c=>(jB P t (c.drop o)).map λv=>([l],au d v)| .arr z e=>if o=o/z*z/\o/z<e.length then(jB P t (e.getD (o/z) [])).map λv=>([l],au d v)else none|_=>none
 |_=>none
def aiz(P:Program)(t:TypeId)(σ:Nat->AObj)(d:Option Tmp):AV->Option (List AV)->Option (List Nat×List Wr)
 | .ptr l o,some v=>match σ l with
  | .box c=>if sizeT P t=some v.length/\o+v.length<=c.length/\v.all isScalar then some ([l],.obj l (.box (c.take o++v++c.drop (o+v.length)))::au d (.tup []))else none| .arr z e=>if sizeT P t=some v.length/\v.length=z/\o=o/z*z/\o/z<e.length/\v.all isScalar then some ([l],.obj l (.arr z (e.set (o/z) v))::au d (.tup []))
   else if sizeT P t=some v.length/\0<z/\o/z<e.length/\o%z+v.length<=z/\v.all isScalar then some ([l],.obj l (.arr z (e.set (o/z) ((e.getD (o/z) []).take (o%z)++v++(e.getD (o/z) []).drop (o%z+v.length))))::au d (.tup []))else none
  |_=>none
 |_,_=>none
def azH(x:AV):Option AV:=match x with| .ptr l o=>some (.ptr l o)| .eptr c=>some (.eptr c)| .func f c=>some (.func f c)| .flist (c::r)=>some (.eptr (c++[.flist r]))|_=>none
def unK(op:UnOp)(x:AV):Option AV:=match op,x with| .not,.bool b=>some (.bool !b)| .neg,.int k n=>some (.int k (k.wrap (0 - n)))|_,_=>none
def agd(f:Option (Nat×TypeId))(x:AV):Option AV:=match f with|some (a,_)=>(match x with| .ptr l o=>some (.ptr l (o+a))| .eptr c=>some (.eptr (c.drop a))|_=>none)|none=>none
def aAp(t:Bool)(l:Option Nat)(x:AV):Option AV:=match x with| .str s=>if t then some (.int .i64 s.length)else none| .slice e _=>if l.isSome then some (.int .i64 e.length)else none| .psl _ _ n=>if l.isSome then some (.int .i64 n)else none|_=>none
theorem aty(t:Nat) x:aJ P k ⟨d,.load t x,ty,ps,af,gd⟩ ρ σ=aol P t σ d (ρ x):=by
 unfold aJ;simp only[aB];cases ρ x<;>simp only[aol]
 case eptr cs=>cases jB P t cs<;>rfl
 grind
theorem ae1(t:Nat) x y:aJ P k ⟨d,.store t x y,ty,ps,af,gd⟩ ρ σ=aiz P t σ d (ρ x) (dS (ρ y)):=rfl
theorem azV(t:Nat):aJ P k ⟨d,.alloc t,ty,ps,af,gd⟩ ρ σ=if bS (σ k)then(kr P t).map λz=>([k],.obj k (.box z)::au d (.ptr k 0))else none:=rfl
theorem aET(t:Nat) x:aJ P k ⟨d,.box t x,ty,ps,af,gd⟩ ρ σ=if bS (σ k)then(dS (ρ x)).map λcs=>([k],.obj k (.box cs)::au d (.ptr k 0))else none:=rfl
theorem awj(t:Nat):aJ P k ⟨d,.makeMap t none,ty,ps,af,gd⟩ ρ σ=if bS (σ k)then some ([k],.obj k (.mp [])::au d (.mapr k))else none:=rfl
end
section
variable {P:Program}{ops:Array Oper}{l:List Oper}{k:Nat}{es:List Eff}{s:ASt}
end
end
section
open Go
abbrev Str:=List UInt8
inductive Ty where
 |mk (kind:Int) (name:Str) (kids:List Ty)
def Ty.kind:Ty->Int| .mk k _ _=>k
def Ty.name:Ty->Str| .mk _ n _=>n
def Ty.kids:Ty->List Ty| .mk _ _ k=>k
inductive Tm where
 |mk (op:Int) (name:Str) (n:Int) (ty:Ty) (kids:List Tm)
def Tm.op:Tm->Int| .mk k _ _ _ _=>k
def Tm.name:Tm->Str| .mk _ n _ _ _=>n
def Tm.n:Tm->Int| .mk _ _ n _ _=>n
def Tm.ty:Tm->Ty| .mk _ _ _ t _=>t
def Tm.kids:Tm->List Tm| .mk _ _ _ _ k=>k
mutual
def ng:Ty→List AV
 | .mk k n ks=>[.int .i64 k,.str n,.slice (Qf ks) .shared]
def Qf:List Ty→List (List AV)
 |[]=>[]
 |t::ts=>ng t::Qf ts
end
mutual
def jh:Tm→List AV
 | .mk k n m t ks=>[.int .i64 k,.str n,.int .i64 m]++ng t++[.slice (OA ks) .shared]
def OA:List Tm→List (List AV)
 |[]=>[]
 |t::ts=>jh t::OA ts
end
theorem V8:∀s,Qf s=s.map ng|[]=>rfl|t::s=>by simp[Qf,V8 s]
theorem VT:∀s,OA s=s.map jh|[]=>rfl|t::s=>by simp[OA,VT s]
@[go_sem] theorem kD(t:Ty):ng t=[.int .i64 t.kind,.str t.name,.slice (t.kids.map ng) .shared]:=by
 cases t;simp[ng,V8,Ty.kind,Ty.name,Ty.kids]
@[go_sem] theorem tO(t:Tm):jh t=[.int .i64 t.op,.str t.name,.int .i64 t.n,.int .i64 t.ty.kind,.str t.ty.name,.slice (t.ty.kids.map ng) .shared,.slice (t.kids.map jh) .shared]:=by
 cases t;simp[jh,VT,Tm.op,Tm.name,Tm.n,Tm.ty,Tm.kids,kD]
mutual
theorem ama(g:Nat→Nat):∀t,dL g (ng t)=ng t
 | .mk k n ks=>by simp only[ng,dL,ren,pK,Nu g ks]
theorem Nu(g:Nat→Nat):∀ts,eF g (Qf ts)=Qf ts
 |[]=>rfl
 |t::ts=>by simp only[Qf,eF,ama g t,Nu g ts]
end
mutual
theorem amh(g:Nat→Nat):∀t,dL g (jh t)=jh t
 | .mk k n m (.mk a b c) ks=>by
  simp only[jh,ng,qAO,qAs,dL,ren,pK,WW g ks,Nu g c]
theorem WW(g:Nat→Nat):∀ts,eF g (OA ts)=OA ts
 |[]=>rfl
 |t::ts=>by simp only[OA,eF,amh g t,WW g ts]
end
theorem aDr g (t:List Ty):eF g (t.map ng)=t.map ng:=by rw[<-V8];exact Nu g t
theorem aDi g (t:List Tm):eF g (t.map jh)=t.map jh:=by rw[<-VT];exact WW g t
end
section
open Go
inductive IxT where
 |sl (sz:Option Nat)
 |arr (len:Nat) (sz:Option Nat)
 |no
structure TI where
 size:Option Nat
 agg:Option Bool
 isPtr:Bool
 isBool:Bool
 isStr:Bool
 isStruct:Bool
 isSl:Bool
 int:Option IntKind
 ix:IxT
 field:List (Option (Nat×TypeId))
 place:List (Option (Nat×Nat))
 zero:Option (List AV)
 zav:Option AV
 slT:Option Nat
 elem:Option (TypeId×Nat×Nat)
 smap:Option TypeId
def intTy(P:Program)(t:TypeId):Option IntKind:=match P.underlying t with|some (.int k)=>some k|_=>none
def Pv(P:Program)(t:TypeId):IxT:=match P.underlying t with|some (.slice e)=>.sl (sizeT P e)|some (.array n e)=>.arr n (sizeT P e)|_=>.no
def aiU(P:Program)(t:TypeId):List (Option (Nat×TypeId)):=match P.underlying t with|some (.struct f)=>f.toList.map λx=>(match sizeT P x.type with|some (_+1)=>some (x.offset,x.type)|_=>none)|_=>[]
def akz(P:Program)(t:TypeId):List (Option (Nat×Nat)):=match P.underlying t with|some (.struct s)=>s.toList.map λf=>(sizeT P f.type).map λn=>(f.offset,n)|_=>[]
def TI.of(P:Program)(t:TypeId):TI:=
 {size:=sizeT P t,agg:=PU P t,isPtr:=aib P t,isBool:=acf P t,isStr:=aB.isStrT P t,isStruct:=xV P t,isSl:=aJ.isSliceT P t,int:=intTy P t,ix:=Pv P t,field:=aiU P t,place:=akz P t,zero:=kr P t,zav:=KQ P t,slT:=aB.sliceT P t,elem:=lV P t,smap:=sG P t}
def lk{α:Type}:List (Option α)->Nat->Option α|[],_=>none|x::_,0=>x|_::l,n+1=>lk l n
theorem aCa{α}:∀(l:List (Option α)) n,lk l n=(l[n]?).bind id:=by
 intro l
 induction l with|nil=>intro n;simp[lk]|cons a l i=>intro n;cases n with|zero=>simp[lk]|succ n=>simp[lk,i]
theorem QO P (s f:Nat):lk (TI.of P s).field f=zP P s f:=by
 rw[aCa];show(aiU P s)[f]?.bind id=_;unfold aiU zP
 grind
theorem amd P (s f:Nat):lk (TI.of P s).place f=D8 P s f:=by
 rw[aCa];show(akz P s)[f]?.bind id=_;unfold akz D8
 grind
def aD8(n:Nat)(cs:List AV):Option AV:=if cs.length=n then some (.agg cs)else if n<=cs.length then some (.agg (cs.take n))else none
def loadT(τ:Nat->TI)(t:TypeId)(cs:List AV):Option AV:=
 match(τ t).agg with
 |some true=>match(τ t).size with|some n=>aD8 n cs|none=>none
 |some false=>match cs with|[]=>none|c::_=>some c
 |none=>none
theorem aeI P t cs:loadT (TI.of P) t cs=jB P t cs:=rfl
def aar(τ:Nat->TI)(op:BinOp)(t:TypeId):AV->AV->Option AV
 | .int k a,.int c b=>if k=c then(match op with
  | .add=>some (.int k (k.wrap (a+b)))| .sub=>some (.int k (k.wrap (a - b)))| .mul=>some (.int k (k.wrap (a*b)))| .quo=>if b=0 then none else some (.int k (k.wrap (a.tdiv b)))| .rem=>if b=0 then none else some (.int k (a.tmod b))| .eql=>some (.bool (a==b))| .neq=>some (.bool (a !=b))| .lss=>some (.bool (decide (a<b)))| .leq=>some (.bool (decide (a<=b)))| .gtr=>some (.bool (decide (b<a)))| .geq=>some (.bool (decide (b<=a)))| .shl=>if 0<=b/\b<=k.bits then some (.int k (k.wrap (a*2^b.toNat)))else none| .shr=>if 0<=b/\b<=k.bits then some (.int k (a.fdiv (2^b.toNat)))else none|_=>none)else none
 | .str a,.str b=>match op with
  | .add=>if a.length+b.length<=9223372036854775807 then some (.str (a++b))else none| .eql=>some (.bool (a==b))| .neq=>some (.bool (!(a==b)))| .lss=>some (.bool (Op.bytesLess a b))| .leq=>some (.bool (Op.bytesLess a b ||a==b))
  | .gtr=>some (.bool (!(Op.bytesLess a b ||a==b)))
  | .geq=>some (.bool (!(Op.bytesLess a b)))|_=>none
 | .bool a,.bool b=>if(τ t).isBool then(match op with| .eql=>some (.bool (a==b))| .neq=>some (.bool (!(a==b)))|_=>none)else none
 |x,.nilp=>if(τ t).isPtr then(match op,KL x with| .eql,some b=>some (.bool b)| .neq,some b=>some (.bool (!b))|_,_=>none)else none
 |_,_=>none
end
section
open Go
def iE:Bool->Prop->Prop->Prop|true,A,_=>A|false,_,B=>B
def gY{α:Type}:Option α->(α->Prop)->Prop|some x,K=>K x|none,_=>False
theorem aw3{b A B}(h:b=true->A)(h2:b=false->B):iE b A B:=by cases b<;>simp_all [iE]
theorem bE{b A B}(h:iE b A B):b=true/\A∨b=false/\B:=by cases b<;>simp_all [iE]
theorem bP{α}{r}{K:α->Prop}(h:gY r K):∃x,r=some x/\K x:=by cases r with|none=>exact h.elim|some x=>exact⟨x,rfl,h⟩
def aIx(es:List (List AV))(n:Int)sz(K:AV->Prop):=∃c,es[n.toNat]? =some c/\0<=n/\c.length=sz/\K (.eptr c)
def aC2(s:List UInt8)(n:Int)(K:AV->Prop):=(0<=n/\n<s.length)/\K (.int .u8 (s.getD n.toNat 0).toNat)
def aIz a b(K:AV->Prop):=a.length+b.length<=9223372036854775807/\K (.str (a++b))
def aIW(s:List UInt8)lo hi(K:AV->Prop):=∃l h,dQ hi s.length s.length=some h/\dQ lo 0 h=some l/\K (.str ((s.drop l).take (h - l)))
def aIu(es:List (List AV))sz lo hi(K:AV->Prop):=∃l h,dQ hi es.length es.length=some h/\dQ lo 0 h=some l/\(l<es.length->(es.getD l []).length=sz)/\K (.slice ((es.drop l).take (h - l)) .shared)
def aFO(n:Int)(len:Nat)K:=(0<=n/\n<len)/\K
def aAZ(ys:List (List AV))sz bytes K:=(ys.length*bytes<=140737488355328/\ys.length<=140737488355328/\(ys.all (bX sz)=true))/\K
def aAO(n:Nat)(es ys:List (List AV))(sz b:Nat)(K:Prop):=(n=es.length*sz/\(es.length+ys.length)*b<=140737488355328/\es.length+ys.length<=140737488355328/\(es.all (bX sz)=true)/\(ys.all (bX sz)=true))/\K
def aIi(es:List (List UInt8×AV))K:=es.length<140737488355328/\K
def aGU(es)s(A:AV->Prop)B:=(∀v,rE es s=some v->A v)/\(rE es s=none->B)
def apT(K:AV->Prop):IxT->AV->AV->Prop| .sl (some s),.slice a _,.int _ n=>aIx a n s K| .arr e (some s),.ptr l o,.int _ n=>aFO n e (K (.ptr l (o+n.toNat*s)))| .arr e (some s),.eptr c,.int _ n=>aFO n e (K (.eptr (c.drop (n.toNat*s))))|_,_,_=>False
def cutV(isStr:Bool)(slT:Option Nat)(lo hi:Option AV)(K:AV->Prop):AV->Prop| .str s=>iE isStr (aIW s lo hi K) False| .slice e _=>gY slT λsz=>aIu e sz lo hi K|_=>False
def Sc τ(op:BinOp)(t:TypeId)(x y:AV)(K:AV->Prop):=
 match op,x,y with| .add,.str a,.str b=>aIz a b K|op,x,y=>gY (aar τ op t x y) K
def avM(σ:Nat->AObj)(k sz b:Nat)(d:Option Tmp)(K:List Nat->List Wr->Prop):AV->AV->Prop
 | .slice [] .nils,.slice y _=>iE (bS (σ k)) (aAZ y sz b (K [k] (.obj k (.tip (y.length*sz))::au d (.slice y (.tip k sz))))) False| .slice e (.tip l z),.slice y _=>match σ l with| .tip n=>iE (bS (σ k)&&z==sz) (aAO n e y sz b (K [l,k] (.obj l .dead:: .obj k (.tip ((e++y).length*sz))::au d (.slice (e++y) (.tip k sz))))) False|_=>False
 |_,_=>False
def stepT(τ:Nat->TI)(k:Nat)(d:Option Tmp)(ρ:Operand->AV)(σ:Nat->AObj)(K:List Nat->List Wr->Prop):Op->Prop
 | .move x=>K [] (au d (ρ x))| .assign x=>K [] (au d (ρ x))| .pick c x y=>match ρ c with| .bool b=>iE b (K [] (au d (ρ x))) (K [] (au d (ρ y)))|_=>False
 | .nilCheck x=>gY (azH (ρ x)) λv=>K [] (au d v)| .binOp q t x y _=>Sc τ q t (ρ x) (ρ y) λv=>K [] (au d v)| .unOp q _ x=>gY (unK q (ρ x)) λv=>K [] (au d v)| .fieldAddr s x f=>gY (agd (lk (τ s).field f) (ρ x)) λv=>K [] (au d v)| .field s x f=>gY (lk (τ s).field f) λp=>match ρ x with| .agg cs=>gY (loadT τ p.2 (cs.drop p.1)) λv=>K [] (au d v)|_=>False
 | .indexAddr t x i=>apT (λv=>K [] (au d v)) (τ t).ix (ρ x) (ρ i)| .index t x i=>match ρ x,ρ i with| .str s,.int _ n=>iE (τ t).isStr (aC2 s n λv=>K [] (au d v)) False|_,_=>False
 | .extract x i=>match ρ x with| .tup vs=>gY (vs[i]?) λv=>K [] (au d v)|_=>False
 | .slice t x B C none=>cutV (τ t).isStr (τ t).slT (B.map ρ) (C.map ρ) (λv=>K [] (au d v)) (ρ x)| .build t r=>iE (τ t).isStruct (gY (τ t).zero λz=>gY (kg (lk (τ t).place) z (r.toList.map λp=>(p.1,ρ p.2))) λcs=>K [] (au d (.agg cs))) False| .makeFunc (.func f) first u=>iE (first.toList.isEmpty) (K [] (au d (.func f (u.toList.map ρ)))) False| .load t x=>match ρ x with
  | .eptr cs=>gY (loadT τ t cs) λv=>K [] (au d v)| .ptr l o=>match σ l with
   | .box cs=>gY (loadT τ t (cs.drop o)) λv=>K [l] (au d v)|_=>False
  |_=>False
 | .store t x y=>match ρ x with
  | .ptr l o=>gY (dS (ρ y)) λvs=>match σ l with| .box cs=>iE (decide ((τ t).size=some vs.length/\o+vs.length<=cs.length)&&vs.all isScalar) (K [l] (.obj l (.box (cs.take o++vs++cs.drop (o+vs.length)))::au d (.tup []))) False|_=>False
  |_=>False
 | .alloc t=>iE (bS (σ k)) (gY (τ t).zero λz=>K [k] (.obj k (.box z)::au d (.ptr k 0))) False| .box _ x=>iE (bS (σ k)) (gY (dS (ρ x)) λcs=>K [k] (.obj k (.box cs)::au d (.ptr k 0))) False| .makeMap _ none=>iE (bS (σ k)) (K [k] (.obj k (.mp [])::au d (.mapr k))) False| .buildSlice t g r=>gY (τ t).elem λe=>gY (τ e.1).zero λz=>iE (bS (σ k)&&(decide (g*e.2.1<=16777216)&&(decide (g<=16777216)&&decide (z.length=e.2.1)))) (gY (kg (λi=>some (i*e.2.1,e.2.1)) ((List.replicate g z).flatten) (r.toList.map λp=>(p.1,ρ p.2))) λcs=>K [k] (.obj k (.tip (g*e.2.1))::au d (.slice (chunks e.2.1 g (cs.map shr)) (.tip k e.2.1)))) False| .convert s t x=>match ρ x with| .int _ n=>iE (τ s).int.isSome (gY (τ t).int λk=>K [] (au d (.int k (k.wrap n)))) False|_=>False
 | .call {callee:=.builtin .len,args,argTypes}=>match args.toList,argTypes.toList with|[x],[t]=>gY (aAp (τ t).isStr (τ t).slT (ρ x)) λv=>K [] (au d v)|_,_=>False
 | .call {callee:=.builtin .append,args,argTypes}=>match args.toList,argTypes.toList with|[x,y],[t,D]=>gY (τ t).elem λe=>iE (τ D).isSl (avM σ k e.2.1 e.2.2 d K (ρ x) (ρ y)) False|_,_=>False
 | .call {callee:=.builtin .max,args,argTypes:=_}=>match args.toList with
  |[x,y]=>match ρ x,ρ y with| .int k a,.int w b=>iE (decide (k=w)) (K [] (au d (.int k (if b>a then b else a)))) False|_,_=>False
  |_=>False
 | .call {callee:=.builtin .min,args,argTypes:=_}=>match args.toList with
  |[x,y]=>match ρ x,ρ y with| .int k a,.int w b=>iE (decide (k=w)) (K [] (au d (.int k (if b<a then b else a)))) False|_,_=>False
  |_=>False
 | .lookup t m h A=>gY (τ t).smap λe=>match ρ m,ρ h with
  | .mapr l,.str s=>match σ l with| .mp j=>gY (τ e).zav λz=>aGU j s (λv=>K [l] (au d (Cj (some v) A z))) (K [l] (au d (Cj none A z)))|_=>False
  |_,_=>False
 | .mapUpdate t m h x=>gY (τ t).smap λ_=>match ρ m,ρ h with
  | .mapr l,.str s=>match σ l with| .mp j=>aIi j (K [l] (.obj l (.mp (G5 j s (sN (ρ x))))::au d (.tup [])))|_=>False
  |_,_=>False
 |_=>False
end
section
open Go
theorem fU{P k o ρ σ v}{K:List Nat->List Wr->Prop}(h:aB P o.op ρ=some v)(a:K [] (au o.dst v)):∃r w,aJ P k o ρ σ=some (r,w)/\K r w:=
 ⟨[],au o.dst v,by unfold aJ;rw[h],a⟩
theorem auM{P op t x y K}(h:Sc (TI.of P) op t x y K):∃v,lZ P op t x y=some v/\K v:=by
 unfold Sc at h;split at h;·obtain⟨a,b⟩:=h;exact⟨_,by simp[lZ,a],b⟩
 obtain⟨v,a,b⟩:=bP h;exact⟨v,a,b⟩
theorem aao{P t x i ρ K}(h:apT K (TI.of P t).ix (ρ x) (ρ i)):∃v,aB P (.indexAddr t x i) ρ=some v/\K v:=by
 have b:(TI.of P t).ix=Pv P t:=rfl;rw[b]at h;simp only[aB];unfold Pv at h;unfold apT at h;split at h
 ·rename_i s r m k n a d f;split at a
  ·rename_i e u;simp only[IxT.sl.injEq]at a;obtain⟨p,j,g,w,y⟩:=h
   grind
  ·cases a
  cases a
 ·rename_i c s l o k n a d f;split at a
  ·cases a
  ·rename_i q e u;simp only[IxT.arr.injEq]at a;obtain⟨j,g⟩:=h
   grind
  cases a
 ·rename_i c s p k n a d f;split at a
  ·cases a
  ·rename_i q e u;simp only[IxT.arr.injEq]at a;obtain⟨j,g⟩:=h;exact⟨_,by simp_all,g⟩
  cases a
 grind
theorem abl{P t x lo hi ρ K}(h:cutV (TI.of P t).isStr (TI.of P t).slT (lo.map ρ) (hi.map ρ) K (ρ x)):∃v,aB P (.slice t x lo hi none) ρ=some v/\K v:=by
 have j:(TI.of P t).isStr=aB.isStrT P t:=rfl;have k:(TI.of P t).slT=aB.sliceT P t:=rfl;simp only[aB];unfold cutV at h;split at h
 ·rename_i s a;rcases bE h with⟨b,l,c,d,e,f⟩|⟨_,g⟩
  ·grind
  grind
 ·rename_i m i a;obtain⟨z,b,l,c,d,e,f,n⟩:=bP h
  grind
 grind
theorem adj{P}{k}{o}{ρ}{σ}{K}(h:stepT (TI.of P) k o.dst ρ σ K o.op):∃rd ws,aJ P k o ρ σ=some (rd,ws)/\K rd ws:=by
 obtain⟨d,op,ty,ps,af,gd⟩:=o;simp only at h;unfold stepT at h;split at h;·exact fU (o:=⟨d,_,ty,ps,af,gd⟩) rfl h
 ·exact fU (o:=⟨d,_,ty,ps,af,gd⟩) rfl h
 ·rename_i c x y;split at h
  ·rename_i b hb;rcases bE h with⟨rfl,g⟩|⟨rfl,g⟩
   ·exact fU (o:=⟨d,_,ty,ps,af,gd⟩) (by simp[aB,hb]) g
   exact fU (o:=⟨d,_,ty,ps,af,gd⟩) (by simp[aB,hb]) g
  exact h.elim
 ·obtain⟨v,j,q⟩:=bP h;exact fU (o:=⟨d,_,ty,ps,af,gd⟩) j q
 ·obtain⟨v,j,q⟩:=auM h;exact fU (o:=⟨d,_,ty,ps,af,gd⟩) j q
 ·obtain⟨v,j,q⟩:=bP h;exact fU (o:=⟨d,_,ty,ps,af,gd⟩) j q
 ·rw[QO]at h;obtain⟨v,j,q⟩:=bP h;exact fU (o:=⟨d,_,ty,ps,af,gd⟩) j q
 ·rw[QO]at h;obtain⟨p,j,q⟩:=bP h;split at q
  ·rename_i cs hx;obtain⟨v,r,g4⟩:=bP q;exact fU (o:=⟨d,_,ty,ps,af,gd⟩) (by simp only[aB,j,hx];exact r) g4
  exact q.elim
 ·obtain⟨v,j,q⟩:=aao h;exact fU (o:=⟨d,_,ty,ps,af,gd⟩) j q
 ·split at h
  ·rename_i s kk n hx hi;rcases bE h with⟨j,q,r⟩|⟨_,g⟩
   ·have j:aB.isStrT P _=true:=j;exact fU (o:=⟨d,_,ty,ps,af,gd⟩) (by simp only[aB,hx,hi];rw[if_pos ⟨j,q⟩]) r
   exact g.elim
  exact h.elim
 ·split at h
  ·rename_i vs hx;obtain⟨v,j,q⟩:=bP h;have hlt:=(qAy.1 j).1;exact fU (o:=⟨d,_,ty,ps,af,gd⟩) (v:=v) (by simp only[aB,hx];rw[if_pos hlt];simp[List.getD,j]) q
  exact h.elim
 ·obtain⟨v,j,q⟩:=abl h;exact fU (o:=⟨d,_,ty,ps,af,gd⟩) j q
 ·rename_i t parts;rcases bE h with⟨j,q⟩|⟨_,g⟩
  ·obtain⟨z,r,g4⟩:=bP q;obtain⟨cs,g5,g6⟩:=bP g4;have j:xV P t=true:=j;have r:kr P t=some z:=r;have:lk (TI.of P t).place=D8 P t:=funext λi=>amd P t i;rw[this]at g5;exact fU (o:=⟨d,_,ty,ps,af,gd⟩) (by simp only[aB,j,if_true,r,g5,qAx]) g6
  exact g.elim
 ·rename_i f first captured
  rcases bE h with⟨j,q⟩|⟨_,g⟩
  ·have:first.size=0:=by have:=qCr.1 j;simpa using this
   exact fU (o:=⟨d,_,ty,ps,af,gd⟩) (by simp only[aB];rw[if_pos this]) q
  exact g.elim
 ·rename_i t x;split at h
  ·rename_i cs hx;obtain⟨v,j,q⟩:=bP h;exact fU (o:=⟨d,_,ty,ps,af,gd⟩) (by simp only[aB,hx];exact j) q
  ·rename_i l off hx;split at h
   ·rename_i cs hl;obtain⟨v,j,q⟩:=bP h;rw[aeI]at j;exact⟨_,_,by rw[aty];simp only[aol,hx,hl,j];rfl,q⟩
   exact h.elim
  exact h.elim
 ·rename_i t x y;split at h
  ·rename_i l off hx;obtain⟨vs,j,q⟩:=bP h;split at q
   ·rename_i cs hl;rcases bE q with⟨r,g4⟩|⟨_,g⟩
    ·simp only[qAb,decide_eq_true_eq]at r;have g3':sizeT P t=some vs.length:=r.1.1;refine⟨_,_,?_,g4⟩;rw[ae1];simp only[aiz,hx,j,hl];rw[if_pos ⟨g3',r.1.2,r.2⟩]
    exact g.elim
   exact q.elim
  exact h.elim
 ·rcases bE h with⟨j,q⟩|⟨_,g⟩
  ·obtain⟨z,r,g4⟩:=bP q;have r:kr P _=some z:=r;exact⟨_,_,by rw[azV,j,if_pos rfl,r];rfl,g4⟩
  exact g.elim
 ·rcases bE h with⟨j,q⟩|⟨_,g⟩
  ·obtain⟨z,r,g4⟩:=bP q;exact⟨_,_,by rw[aET,j,if_pos rfl,r];rfl,g4⟩
  exact g.elim
 ·rcases bE h with⟨j,q⟩|⟨_,g⟩
  ·exact⟨_,_,by rw[awj,j,if_pos rfl],q⟩
  exact g.elim
 ·rename_i t len parts;obtain⟨⟨e,sz,by'⟩,j,q⟩:=bP h;obtain⟨z,r,g4⟩:=bP q;rcases bE g4 with⟨g5,g6⟩|⟨_,g⟩
  ·obtain⟨cs,g7,g8⟩:=bP g6;have j:lV P t=some (e,sz,by'):=j;have r:kr P e=some z:=r;simp only[qAb,decide_eq_true_eq]at g5;refine⟨_,_,?_,g8⟩;simp only[aJ,aB,j,r];rw[if_pos ⟨g5.1,g5.2.1,g5.2.2.1,g5.2.2.2⟩];simp only at g7;rw[g7];rfl
  exact g.elim
 ·rename_i s t x;split at h
  ·rename_i kk n hx;rcases bE h with⟨j,q⟩|⟨_,g⟩
   ·obtain⟨kt,r,g4⟩:=bP q;have j:(intTy P s).isSome=true:=j;have r:intTy P t=some kt:=r;refine fU (o:=⟨d,_,ty,ps,af,gd⟩) (v:=.int kt (kt.wrap n)) ?_ g4;have hc:aB.convT P s t=some kt:=by
     unfold intTy at j r;unfold aB.convT;split at j
     ·rename_i hs;split at r
      ·rename_i ht;cases r;simp[hs,ht]
      cases r
     cases j
    simp only[aB,hx,hc]
   exact g.elim
  exact h.elim
 ·rename_i args argTypes;split at h
  ·rename_i x t ha ht;obtain⟨v,j,q⟩:=bP h;exact fU (o:=⟨d,_,ty,ps,af,gd⟩) (by simp only[aB,ha,ht];exact j) q
  exact h.elim
 ·rename_i args argTypes;split at h
  ·rename_i x y t t2 ha ht;obtain⟨⟨e,sz,by'⟩,j,q⟩:=bP h;rcases bE q with⟨r,g4⟩|⟨_,g⟩
   ·have j:lV P t=some (e,sz,by'):=j;have r:aJ.isSliceT P t2=true:=r;simp only at g4;unfold avM at g4;split at g4
    ·rename_i ys tg hx hy;rcases bE g4 with⟨g5,g6,g7⟩|⟨_,g⟩
     ·refine⟨_,_,?_,g7⟩;simp only[aJ,aB,ha,ht,j,r,hx,hy];rw[if_pos ⟨g5,trivial,g6⟩]
     exact g.elim
    ·rename_i es l z ys tg hx hy;split at g4
     ·rename_i n hl;rcases bE g4 with⟨g5,g6,g7⟩|⟨_,g⟩
      ·simp only[qAb,beq_iff_eq]at g5;refine⟨_,_,?_,g7⟩;simp only[aJ,aB,ha,ht,j,r,hx,hy,hl];rw[if_pos ⟨g5.1,g6.1,g5.2,g6.2⟩]
      exact g.elim
     exact g4.elim
    exact g4.elim
   exact g.elim
  exact h.elim
 ·rename_i args argTypes;split at h
  ·rename_i x y ha;split at h
   ·rename_i k1 a k2 b hx hy;rcases bE h with⟨j,q⟩|⟨_,g⟩
    ·simp only[decide_eq_true_eq]at j;exact fU (o:=⟨d,_,ty,ps,af,gd⟩) (by simp only[aB,ha,hx,hy];rw[if_pos j]) q
    exact g.elim
   exact h.elim
  exact h.elim
 ·rename_i args argTypes;split at h
  ·rename_i x y ha;split at h
   ·rename_i k1 a k2 b hx hy;rcases bE h with⟨j,q⟩|⟨_,g⟩
    ·simp only[decide_eq_true_eq]at j;exact fU (o:=⟨d,_,ty,ps,af,gd⟩) (by simp only[aB,ha,hx,hy];rw[if_pos j]) q
    exact g.elim
   exact h.elim
  exact h.elim
 ·rename_i t m key ok;obtain⟨e,j,q⟩:=bP h;split at q
  ·rename_i l s hm hk;split at q
   ·rename_i es hl;obtain⟨z,r,g4,g5⟩:=bP q;have j:sG P t=some e:=j;have r:KQ P e=some z:=r;cases hf:rE es s with|some v=>exact⟨_,_,by simp only[aJ,aB,j,hm,hk,hl,r,hf],g4 v hf⟩|none=>exact⟨_,_,by simp only[aJ,aB,j,hm,hk,hl,r,hf],g5 hf⟩
   exact q.elim
  exact q.elim
 ·rename_i t m key x;obtain⟨e,j,q⟩:=bP h;split at q
  ·rename_i l s hm hk;split at q
   ·rename_i es hl;obtain⟨r,g4⟩:=q;have j:sG P t=some e:=j;exact⟨_,_,by simp only[aJ,aB,j,hm,hk,hl];rw[if_pos r],g4⟩
   exact q.elim
  exact q.elim
 grind
end
section
open Go
def fL{α:Type}:List α->(List α->Prop)->Prop|[],K=>K []|x::s,K=>fL s λys=>K (x::ys)
def aaH{α:Type}:List α->Nat->(Nat->Prop)->Prop|[],k,K=>K k|_::x,k,K=>aaH x (k+1) K
def SC{α:Type}:List α->Nat->α->(List α->Prop)->Prop|[],_,_,K=>K []|_::s,0,v,K=>K (v::s)|x::s,n+1,v,K=>SC s n v λys=>K (x::ys)
def fAV:AV->(AV->Prop)->Prop| .agg cs,K=>fL cs λcs=>K (.agg cs)| .eptr cs,K=>fL cs λcs=>K (.eptr cs)| .tup cs,K=>fL cs λcs=>K (.tup cs)| .func f cs,K=>fL cs λcs=>K (.func f cs)| .int k n,K=>K (.int k n)| .bool b,K=>K (.bool b)| .str b,K=>K (.str b)| .ptr l o,K=>K (.ptr l o)| .nilp,K=>K .nilp| .ifc t v,K=>K (.ifc t v)| .slice e t,K=>K (.slice e t)| .mapr l,K=>K (.mapr l)| .nilFunc,K=>K .nilFunc| .psl l z n,K=>K (.psl l z n)| .flist s,K=>K (.flist s)| .unk,K=>K .unk
def aAs:AObj->(AObj->Prop)->Prop| .box cs,K=>fL cs λcs=>K (.box cs)| .tip n,K=>K (.tip n)| .mp e,K=>K (.mp e)| .dead,K=>K .dead| .arr z e,K=>K (.arr z e)| .res,K=>K .res
def yt:List Wr->List AV->List AObj->(List AV->List AObj->Prop)->Prop|[],t,h,K=>K t h| .slot n v::w,t,h,K=>fAV v λv=>SC t n v λt=>yt w t h K| .obj n v::w,t,h,K=>aAs v λv=>SC h n v λh=>yt w t h K
def afo(t:List AV):List Operand->(List AV->Prop)->Prop|[],K=>K []|x::s,K=>fAV (bC t x) λv=>afo t s λvs=>K (v::vs)
def frN:Nat->Prop->Prop->Prop|0,A,_=>A|_+1,_,B=>B
theorem vK{α}:∀l (K:List α->Prop),fL l K=K l:=by
 intro l;induction l with|nil=>intro K;rfl|cons x l i=>intro K;simp only[fL];exact i _
theorem TU{α}:∀(l:List α) k K,aaH l k K=K (k+l.length):=by
 intro l;induction l with|nil=>intro k K;rfl|cons x l i=>intro k K;simp only[aaH];rw[i];congr 1;simp;omega
theorem JF{α}:∀l n v (K:List α->Prop),SC l n v K=K (l.set n v):=by
 intro l;induction l with|nil=>intro n v K;rfl|cons x l i=>intro n v K;cases n with|zero=>rfl|succ n=>simp only[SC];exact i _ _ _
theorem K6 v K:fAV v K=K v:=by cases v<;>simp only[fAV,vK]
theorem aDu v K:aAs v K=K v:=by cases v<;>simp only[aAs,vK]
theorem ahN:∀ws t h K,yt ws t h K=K (ASt.wr ⟨t,h⟩ ws).tmps (ASt.wr ⟨t,h⟩ ws).heap:=by
 intro ws;induction ws with|nil=>intro t h K;rfl|cons w ws i=>intro t h K;cases w with|slot n v=>simp only[yt,K6,JF];rw[i];rfl|obj n v=>simp only[yt,aDu,JF];rw[i];rfl
theorem abV t:∀l K,afo t l K=K (l.map (bC t)):=by
 intro l;induction l with|nil=>intro K;rfl|cons x l i=>intro K;simp only[afo,K6,i,qAz]
def aFQ(w:Bool)(d:Nat)(t:List AV)(A B:List AV->Prop):AV->Prop| .bool b=>iE b (SC t d (.bool true) λt=>iE w (A t) (B t)) (SC t d (.bool false) λt=>iE w (B t) (A t))| .tup []=>B t|_=>False
def grd(ops:List Oper)(t:List AV)(A B:List AV->Prop):Option (Nat×Bool)->Prop|none=>A t|some (j,w)=>gY ((ops[j]?).bind (·.dst)) λd=>aFQ w d t A B (t.getD d .unk)
theorem set_self{t:List AV}{d v}(h:t.getD d .unk=v):t.set d v=t:=by
 apply qBR
 grind
theorem RP{ops}{t}{A B}{o}(h:grd ops t A B o.guard):dY ops.toArray t o=some true/\A t∨dY ops.toArray t o=some false/\B t:=by
 unfold dY;cases c:o.guard with
 |none=>rw[c]at h;exact .inl ⟨rfl,h⟩|some p=>
  obtain⟨j,w⟩:=p;rw[c]at h;obtain⟨d,f,a⟩:=bP h;unfold aFQ at a;split at a
  ·rename_i b e;rcases bE a with⟨rfl,g⟩|⟨rfl,g⟩
   ·rw[JF,set_self e]at g;rcases bE g with⟨rfl,g⟩|⟨rfl,g⟩
    ·grind
    grind
   rw[JF,set_self e]at g;rcases bE g with⟨rfl,g⟩|⟨rfl,g⟩
   ·grind
   grind
  ·grind
  grind
def aat P f args dst t h k K:=GV P f args dst ⟨t,h⟩ k K .mk
def ZP(K:Nat->List AV->Prop):AV->Prop| .func f c=>K f c|_=>False
def run(P:Program)(τ:Nat->TI)(ops:List Oper):List Oper->Nat->List Eff->List AV->List AObj->(List Eff->List AV->List AObj->Prop)->Prop
 |[],_,e,t,h,K=>K e.reverse t h|o::l,k,e,t,h,K=>grd ops t
   λt=>match lJ o.op with|some (f,r)=>ZP (λfid c=>afo t r.toList λvs=>fL (vs++c) λvs=>aat P fid vs o.dst t h k λk' b w=>yt w t h λt' a=>run P τ ops l k' (⟨aY ops.toArray o,b,w⟩::e) t' a K) (bC t f)|none=>stepT τ k o.dst (bC t) (obj? h) (λrd w=>yt w t h λt' a=>frN (jg o.op) (run P τ ops l k (⟨aY ops.toArray o,rd,w⟩::e) t' a K) (run P τ ops l (k+1) (⟨aY ops.toArray o,rd,w⟩::e) t' a K)) o.op
   (λt=>yt (au o.dst (.tup [])) t h λt' a=>run P τ ops l k (⟨aY ops.toArray o,[],au o.dst (.tup [])⟩::e) t' a K) o.guard
def Zz(next:List AV->List AObj->Prop)(Q:Exit->List AV->List AObj->Prop):Exit->List AV->List AObj->Prop| .normal,t,h=>next t h|e,t,h=>Q e t h
def aAJ(id:Nat)(Q:Exit->List AV->List AObj->Prop):Exit->List AV->List AObj->Prop| .exit i,t,h=>iE (i==id) (Q .normal t h) (Q (.exit i) t h)|e,t,h=>Q e t h
def onS(Q:Exit->List AV->List AObj->Prop):Exit->ASt->Prop:=λe s=>Q e s.tmps s.heap
end
section
open Go
inductive Tr where
 |nil
 |node (l:Tr) (key:Nat) (x:TI) (r:Tr)
def Tr.look(d:Nat->TI)(t:Nat):Tr->TI| .nil=>d t| .node l k x r=>match Nat.ble t k with
  |true=>match Nat.beq t k with|true=>x|false=>Tr.look d t l
  |false=>Tr.look d t r
def Tr.keys:Tr->List Nat| .nil=>[]| .node l k _ r=>l.keys++k::r.keys
def Tr.vals:Tr->List TI| .nil=>[]| .node l _ x r=>l.vals++x::r.vals
theorem Tr.len:∀T:Tr,T.keys.length=T.vals.length| .nil=>rfl| .node l k x r=>by simp[keys,vals,Tr.len l,Tr.len r]
theorem Tr.look_eq d t:∀T:Tr,T.keys.map d=T.vals->T.look d t=d t
 | .nil,_=>rfl| .node l k x r,h=>by
  simp only[keys,qAX,qAz]at h;have a:=List.append_inj h (by simp[Tr.len l]);obtain⟨a,b⟩:=a;simp at b;unfold Tr.look;split
  ·split
   ·simp_all
   exact Tr.look_eq d t l a
  exact Tr.look_eq d t r b.2
theorem aEK{P}{T:Tr}(h:T.keys.map (TI.of P)=T.vals):(λt=>T.look (TI.of P) t)=TI.of P:=funext λt=>Tr.look_eq _ t T h
def resT(τ:Nat->TI)(t:List AV)(h:List AObj):List ResultVar->(List AV->Prop)->Prop|[],K=>K []| .tmp n::r,K=>fAV (t.getD n .unk) λv=>resT τ t h r λvs=>K (v::vs)| .cell a y::r,K=>match t.getD a .unk with
  | .ptr l o=>match obj? h l with| .box c=>gY (loadT τ y (c.drop o)) λv=>fAV v λv=>resT τ t h r λvs=>K (v::vs)|_=>False
  |_=>False
theorem Nj{P}{t}{h}:∀s K,resT (TI.of P) t h s K->∃x,wX P ⟨t,h⟩ s=some x/\K x:=by
 intro s
 induction s with|nil=>intro K b;exact⟨[],rfl,b⟩|cons r s i=>
  intro K b;cases r with
  |tmp n=>simp only[resT,K6]at b;obtain⟨x,c,d⟩:=i _ b;exact⟨_,by simp only[wX,c];rfl,d⟩
  |cell a y=>
   simp only[resT]at b;split at b
   ·rename_i l o p;split at b
    ·rename_i j e;obtain⟨v,c,d⟩:=bP b;rw[K6]at d;obtain⟨x,f,g⟩:=i _ d;rw[aeI]at c;exact⟨_,by simp only[wX,p,e,c,f];rfl,g⟩
    grind
   grind
def Ends(v res:AV):=v=res
def Gu(n)args(K:List AV->Prop):=fL (args++List.replicate (n - args.length) (.tup [])) K
end
section
open Go
end
section
open Go
abbrev QT:=Exit->List AV->List AObj->Prop
def AW(P)m(c:Code)(Q:QT)t(h):=
 ∀C d a w,C.k0.length<=m->Sim C d ⟨t,h⟩ a w->c.wp P (λe f g=>∃s b,onS Q e s/\Sim C b s f g) a w
theorem AW.of{P m c}{Q:QT}{t h}(b:cZ P c (onS Q) ⟨t,h⟩):AW P m c Q t h:=λC d a w _ s=>b C d a w s
theorem AW.mono{P m c Q q t h}(d:AW P m c Q t h)(f:∀e t h,Q e t h->q e t h):AW P m c q t h:=
 λC g a w k s=>wp_mono (d C g a w k s) λ_ _ _ ⟨i,b,j,l⟩=>⟨i,b,f _ _ _ j,l⟩
theorem AW.skip{P m Q t h}(q:Q .normal t h):AW P m .skip Q t h:=AW.of (cZ.skip q)
theorem AW.ret{P m Q t h}(q:Q .ret t h):AW P m .ret Q t h:=AW.of (cZ.ret q)
theorem AW.exit{P m Q t h id}(q:Q (.exit id) t h):AW P m (.exit id) Q t h:=AW.of (cZ.exit q)
theorem AW.seq{P}{m}{x y}{Q}{t}{h}(g:AW P m x (Zz (AW P m y Q) Q) t h):AW P m (.seq x y) Q t h:=by
 intro C i a w k j;refine wp_seq (wp_mono (g C i a w k j) ?_);rintro e n o ⟨s,b,d,f⟩;cases e with|normal=>exact d C b n o k f|exit p=>exact⟨s,b,d,f⟩|goto l=>exact⟨s,b,d,f⟩|ret=>exact⟨s,b,d,f⟩|panic c=>exact⟨s,b,d,f⟩|outgrown=>exact⟨s,b,d,f⟩
theorem AW.uE{P m x y Q t h}(w:∀K:List AV->List AObj->Prop,(∀t h,AW P m y Q t h->K t h)->AW P m x (Zz K Q) t h):AW P m (.seq x y) Q t h:=
 AW.seq (w _ λ_ _ h=>h)
theorem AW.cond{P}{m}{c}{x y}{Q}{t}{h}{b}(e:bC t c=.bool b)(f:b=true->AW P m x Q t h)(h2:b=false->AW P m y Q t h):AW P m (.cond c x y) Q t h:=by intro C d a w k s;have r:=s.ev c;have:bC (ASt.mk t h).tmps c=.bool b:=e;rw[this]at r;exact wp_cond_split r.O9 (λht=>f ht C d a w k s) (λht=>h2 ht C d a w k s)
theorem AW.block{P}{m id}{c}{Q:QT}{t}{h}(i:AW P m c (aAJ id Q) t h):AW P m (.block id c) Q t h:=by
 intro C j a w k n;refine wp_block (wp_mono (i C j a w k n) ?_);rintro e p q ⟨s,b,f,d⟩;cases e with
 |exit o=>
  simp only[Exit.inBlock];rcases bE f with⟨e,g⟩|⟨e,g⟩
  ·rw[if_pos (by simpa using e)];exact⟨s,b,g,d⟩
  rw[if_neg (by simpa using e)];exact⟨s,b,g,d⟩
 |normal=>exact⟨s,b,f,d⟩|goto l=>exact⟨s,b,f,d⟩|ret=>exact⟨s,b,f,d⟩|panic c=>exact⟨s,b,f,d⟩|outgrown=>exact⟨s,b,f,d⟩
theorem AW.loop{P}{m}{c}{Q:QT}{t}{h}(I:Nat->List AV->List AObj->Prop){n}(h0:I n t h)(r:∀n t h,I n t h->AW P m c (Zz (λt' u=>∃k,k<n/\I k t' u) Q) t h):AW P m (.loop c) Q t h:=by
 intro C i a w v j;refine wp_loop_ghost (Q:=λe p q=>∃d b,onS Q e d/\Sim C b d p q) (λn a w=>∃s i,I n s.tmps s.heap/\Sim C i s a w) n ⟨⟨t,h⟩,i,h0,j⟩ ?_;rintro n a w ⟨s,i,x,j⟩;refine wp_mono (r n s.tmps s.heap x C i a w v j) ?_;rintro e p q ⟨d,b,f,g⟩;cases e with|normal=>obtain⟨m,y,o⟩:=f;exact⟨m,y,d,b,o,g⟩|exit z=>exact⟨d,b,f,g⟩|goto l=>exact⟨d,b,f,g⟩|ret=>exact⟨d,b,f,g⟩|panic c=>exact⟨d,b,f,g⟩|outgrown=>exact⟨d,b,f,g⟩
def VF:AV->Prop| .int k n=>qc k n| .str s=>s.length<=9223372036854775807| .slice e _=>e.length<=9223372036854775807| .psl _ _ n=>n<=140737488355328|_=>True
theorem Rel.vf{w κ pv x v}(h:Rel w κ pv x v):VF x:=by cases h<;>first|trivial|assumption
def parts:AV->List AV| .agg c=>c| .tup c=>c| .eptr c=>c| .func _ c=>c|v=>[v]
end
section
open Go
def iY(L:List (Option Nat))(b i:Nat):=((L[i]?).getD none).getD b
inductive VW(h:List AObj)(L:List (Option Nat)):AV→AV→Prop where
 |unk (v:AV):VW h L .unk v
 |same {x y:AV}:ren (iY L h.length) x=y→VW h L x y
 |share {es es':List (List AV)} {t:Tag}:eF (iY L h.length) es=es'→VW h L (.slice es .shared) (.slice es' t)
 |nils (j z:Nat):VW h L (.slice [] (.tip j z)) (.slice [] .nils)
 |nilF:VW h L (.flist []) .nilp
 |frzF {l:Nat} {cs cs':List AV} {r:List (List AV)} {v:AV}:obj? h l=.box (cs'++[v])→some l∉L→cs.length=cs'.length→(∀j,j<cs.length→VW h L (cs.getD j .unk) (cs'.getD j .unk))→VW h L (.flist r) v→VW h L (.flist (cs::r)) (.ptr l 0)
 |nilP (j z:Nat):VW h L (.psl j z 0) (.slice [] .nils)
 |aaQ {l z n:Nat} {es es0:List (List AV)}:obj? h l=.arr z es0→some l∉L→n≤es0.length→eF (iY L h.length) es=es0.take n→VW h L (.slice es .shared) (.psl l z n)
 |agg {cs cs':List AV}:cs.length=cs'.length→(∀j,VW h L (cs.getD j .unk) (cs'.getD j .unk))→VW h L (.agg cs) (.agg cs')
 |tup {cs cs':List AV}:cs.length=cs'.length→(∀j,VW h L (cs.getD j .unk) (cs'.getD j .unk))→VW h L (.tup cs) (.tup cs')
 |eptr {cs cs':List AV}:cs.length=cs'.length→(∀j,VW h L (cs.getD j .unk) (cs'.getD j .unk))→VW h L (.eptr cs) (.eptr cs')
 |func {f:Nat} {cs cs':List AV}:cs.length=cs'.length→(∀j,VW h L (cs.getD j .unk) (cs'.getD j .unk))→VW h L (.func f cs) (.func f cs')
 |frz {l off:Nat} {cs cs':List AV}:obj? h l=.box cs'→some l∉L→cs.length+off≤cs'.length→(∀j,VW h L (cs.getD j .unk) (cs'.getD (off+j) .unk))→VW h L (.eptr cs) (.ptr l off)
inductive OW(h:List AObj)(L:List (Option Nat)):AObj→AObj→Prop where
 |dead (o:AObj):OW h L .dead o
 |box {cs cs':List AV}:cs.length=cs'.length→(∀j,VW h L (cs.getD j .unk) (cs'.getD j .unk))→OW h L (.box cs) (.box cs')
 |tip (n:Nat):OW h L (.tip n) (.tip n)
 |arr {z n:Nat} {es es0:List (List AV)}:eF (iY L h.length) es=es0.take n→OW h L (.arr z es) (.arr z es0)
 |same {o o':AObj}:bS o=false→dR (iY L h.length) o=o'→OW h L o o'
structure Weak(m:Nat)(t:List AV)(h:List AObj)(L:List (Option Nat))(t':List AV)(h':List AObj):Prop where
 tlen:t'.length=t.length
 hlen:L.length=h'.length
 idm:∀i:Nat,i<m→L[i]? =some (some i)
 inj:∀i j l:Nat,L[i]? =some (some l)→L[j]? =some (some l)→live (obj? h' i)→live (obj? h' j)→i=j
 lt:∀i l:Nat,L[i]? =some (some l)→l<h.length
 slot:∀n,VW h L (t'.getD n .unk) (t.getD n .unk)
 obj:∀i l:Nat,L[i]? =some (some l)→OW h L (obj? h' i) (obj? h l)
 new:∀i:Nat,L[i]? =some none→bS (obj? h' i)=false
section
variable {C:Ctx}{κ:aM}{t:List AV}{h:List AObj}{a:Act}{w:World}{m:Nat}{L:List (Option Nat)}{t':List AV}{h':List AObj}
def Fp(κ:aM)(L:List (Option Nat)):aM:=L.map λo=>o.bind (at? κ)
theorem at?_kapW{i}(k:κ.length=h.length):at? (Fp κ L) i=at? κ (iY L h.length i):=by
 unfold Fp iY;simp only[at?,qAH];cases a:L[i]? with|none=>simp[qAE (show κ.length<=h.length by omega)]|some o=>cases o with|none=>simp[qAE (show κ.length<=h.length by omega)]|some l=>simp[at?]
theorem vG{i b}(h:at? (Fp κ L) i=some b):∃l,L[i]? =some (some l)/\at? κ l=some b:=by
 unfold Fp at h;simp only[at?,qAH]at h;cases a:L[i]? with|none=>rw[a]at h;cases h|some o=>cases o with|none=>rw[a]at h;cases h|some l=>rw[a]at h;exact⟨l,rfl,h⟩
theorem OW.live{o a}(w:OW h L o a)(l:live o):live a:=by
 cases w with|dead _=>exact l.elim|box _ _=>trivial|tip _=>trivial|arr _=>trivial|same _ e=>rw[<-e,iH];exact l
theorem OW.pv{o a}{n}(w:OW h L o a)(p:uf o n):uf a n:=by
 cases w with|dead _=>exact p.elim|box _ _=>trivial|tip _=>exact p|arr _=>trivial|same _ e=>rw[<-e,FC];exact p
theorem Weak.pv(hs:Sim C κ ⟨t,h⟩ a w)(c:Weak m t h L t' h'){b o}(p:aD C.ak (Fp κ L) h' b o):aD C.ak κ h b o:=by
 rcases p with p|⟨i,d,e⟩
 ·exact .inl p
 obtain⟨l,f,g⟩:=vG d;exact .inr ⟨l,g,(c.obj i l f).pv e⟩
theorem Weak.val(hs:Sim C κ ⟨t,h⟩ a w)(S:Weak m t h L t' h'){x y}(hv:VW h L x y):∀{u:Value},Rel w κ (aD C.ak κ h) y u->Rel w (Fp κ L) (aD C.ak (Fp κ L) h') x u:=by
 have Y:∀i,at? (Fp κ L) i=at? κ (iY L h.length i):=λi=>at?_kapW hs.klen;have O:∀(x:AV) {u:Value},Rel w κ (aD C.ak κ h) (ren (iY L h.length) x) u->Rel w (Fp κ L) (aD C.ak (Fp κ L) h') x u:=λx u hx=>(hx.AU Y _ rfl).mono (Evo.refl _ _) (dw.refl _) λb o p _=>S.pv hs p
 induction hv with
 |unk v=>intro u _;exact .unk u|same e=>intro u f;rw[<-e]at f;exact O _ f|share e=>intro u f;rw[<-e]at f;exact O (.slice _ .shared) f.share|nils j z=>
  intro u f;cases f with|slice b F sz y s A G T U g5 g6 Z=>exact .slice (es:=[]) (tag:=.tip j z) b F z y (λi q=>by cases q) (λhne=>(hne rfl).elim) G T (λi j q=>by cases q) (λi j q=>by cases q) (λi j q=>by cases q) ⟨rfl,.inl Z⟩
 |nilF=>intro u f;cases f;exact .flnil|@frzF l cs B r v K W H _ _ ih1 ih2=>
  intro u f;obtain⟨b,e,P⟩:=f.qm;subst e;obtain⟨c,el,s,A,G,U⟩:=hs.box P K;have D:(B++[v]).length=cs.length+1:=by simp[H]
  have d:live (obj? h l):=by rw[K];trivial
  refine .flcons (λj=>c.getD j undef) (c.getD cs.length undef) (λj g p=>?_) (λj g=>by rw[qAK];exact G j (by omega)) (by rw[qAK];exact G _ (by omega)) (λj g=>ih1 j g ?_) (ih2 ?_)
  ·rcases p with p|⟨i,Q,I⟩
   ·exact hs.own l b P d (hs.pvold _ _ p)
   obtain⟨M,k,E⟩:=vG Q;have:=hs.apart l M b P E d (Nn ((S.obj i M k).pv I));subst this;exact W (qAG k)
  ·have:=U j (by omega);have e2:(B++[v]).getD j .unk=B.getD j .unk:=by simp[List.getD,qAi (show j<B.length by omega)]
   rw[e2]at this;exact this
  grind
 |nilP j z=>
  intro u f;cases f with|slice b F sz y s A G T U g5 g6 Z=>exact .psl (qBf _) (by omega) ⟨rfl,.inl Z⟩
 |@aaQ l z n V X K W hle he=>
  intro u f;cases f with|@psl _ _ _ cap ad s A G=>
   have D:V.length=n:=by have:=congrArg List.length he;rw[jJ,qAB]at this;omega
   have N:∀i,i<n->dL (iY L h.length) (V.getD i [])=X.getD i []:=λi q=>by rw[<-o8,he];simp only[List.getD,qBt,if_pos q]
   obtain⟨_,ht⟩:=G;rcases ht with⟨rfl,rfl⟩|⟨b,c,e,t1,rfl,t3,t4⟩
   ·have:V=[]:=qAI.1 (by omega);subst this;have hn0:n=0:=by simpa using D.symm
    subst hn0;exact .slice (es:=[]) 0 0 z (λ_ _=>undef) (λi h=>by cases h) (λh=>(h rfl).elim) (qBf _) (by simp) (λi j h=>by cases h) (λi j h=>by cases h) (λi j h=>by cases h) trivial
   have d:live (obj? h l):=by rw[K];trivial
   have R:=hs.obj l b t1 d;change pQ w κ (aD C.ak κ h) b (obj? h l)at R;rw[K]at R;obtain⟨c0,e0,q1,q2,q3,q4⟩:=R;rw[t3]at q1;cases q1;rw[<-D]at s A|-;refine .slice b 0 z (λi j=>c.getD (i*z+j) undef) ?_ (λ_=>rfl) s (by omega) ?_ ?_ ?_ trivial
   ·intro i q;have h5:=N i (by omega);have h6:=q3 i (by omega);rw[<-h5,iI]at h6;exact h6
   ·rintro i j q g (p|⟨i',Q,I⟩)
    ·exact hs.own l b t1 d (hs.pvold _ _ p)
    obtain⟨M,k,E⟩:=vG Q;have:=hs.apart l M b t1 E d (Nn ((S.obj i' M k).pv I));subst this;exact W (qAG k)
   ·intro i j q g;have I:i*z+j<c.size:=qAD (sO (show i<X.length by omega) g) q2;simp[World.cell?,t3,Array.getD,I]
   intro i j q g;have h5:=N i (by omega);refine O _ ?_;rw[<-iF,h5];exact q4 i j (by omega) g
 |agg H _ J=>intro u f;obtain⟨vs,e,s,A⟩:=f.auI;subst e;exact .agg (s.trans H.symm) λj g=>J j (A j (by omega))
 |tup H _ J=>intro u f;obtain⟨vs,e,s,A⟩:=f.aky;subst e;exact .tup (s.trans H.symm) λj g=>J j (A j (by omega))
 |eptr H _ J=>
  intro u f;cases f with|eptr y Q I h3=>exact .eptr y (λj g p=>Q j (by omega) (S.pv hs p)) (λj g=>I j (by omega)) λj g=>J j (h3 j (by omega))
 |func H _ J=>intro u f;obtain⟨vs,e,s,A⟩:=f.Jr;subst e;exact .func (s.trans H.symm) λj g=>J j (A j (by omega))
 |@frz l F cs B K W H _ J=>
  intro u f;obtain⟨b,e,P⟩:=f.qm;subst e;obtain⟨c,el,s,A,G,U⟩:=hs.box P K;refine .eptr (λj=>c.getD (F+j) undef) (λj g p=>?_) (λj g=>G _ (by omega)) λj g=>J j (U _ (by omega));have d:live (obj? h l):=by rw[K];trivial
  rcases p with p|⟨i,Q,I⟩
  ·exact hs.own l b P d (hs.pvold _ _ p)
  obtain⟨M,k,E⟩:=vG Q;have:=hs.apart l M b P E d (Nn ((S.obj i M k).pv I));subst this;exact W (qAG k)
theorem Weak.sim(U:C.k0.length<=m)(hs:Sim C κ ⟨t,h⟩ a w)(d:Weak m t h L t' h'):Sim C (Fp κ L) ⟨t',h'⟩ a w:=by
 have k:∀i,at? (Fp κ L) i=at? κ (iY L h.length i):=λi=>at?_kapW hs.klen;refine⟨hs.defers,hs.len.trans d.tlen.symm,?_,by simp[Fp,d.hlen],?_,?_,?_,?_,?_,?_,hs.pvold,hs.oldlt,hs.old,hs.os,hs.tape,hs.output,hs.size,λb o D u=>hs.pvsub b o (d.pv hs D) u,hs.kS⟩;·exact λn Q=>d.val hs (d.slot n) (hs.slot n (by rw[<-d.tlen];exact Q))
 ·intro l b f;have u:=lt_of_at? f;have:=d.idm l (by omega);rw[k];simp only[iY,this,qAv];exact hs.kext l b f
 ·intro i q;cases g:L[i]? with|none=>rw[k];simp only[iY,g,qCs];exact at?_none_of_le (by rw[hs.klen];exact qAd _)|some o=>cases o with|none=>rw[k];simp only[iY,g,qCs,qAv];exact at?_none_of_le (by rw[hs.klen];exact qAd _)|some l=>
    exfalso;have:=d.obj i l g;change obj? h' i=.res at q;rw[q]at this;cases this with|same r _=>cases r
 ·intro i b f E;obtain⟨l,g,s⟩:=vG f;have K:=d.obj i l g;have v:=hs.obj l b s (K.live E);change pQ w (Fp κ L) (aD C.ak (Fp κ L) h') b (obj? h' i);change live (obj? h' i)at E;generalize V:obj? h' i=o at *;generalize R:obj? h l=W at *;cases K with
  |dead _=>exact E.elim|box e S=>obtain⟨c,F,G,H,I⟩:=v;exact⟨c,F,G,H.trans e.symm,λj T=>d.val hs (S j) (I j (by omega))⟩
  |tip n=>exact v
  |@arr z n B x e=>
   obtain⟨c,F,G,H,I,X⟩:=v;have y:B.length<=x.length/\B.length<=n:=by have:=congrArg List.length e;rw[jJ,qAB]at this;omega
   have p:∀i,i<B.length->dL (iY L h.length) (B.getD i [])=x.getD i []:=λi q=>by
    rw[<-o8,e]
    grind
   refine⟨c,F,G,qAu (qAQ _ y.1) H,λi q=>?_,λi j q T=>?_⟩;·have M:=I i (by omega);rw[<-p i q,iI]at M;exact M
   refine d.val hs (.same rfl) ?_;rw[<-iF,p i q]
   grind
  |same _ e=>rw[<-e]at v;exact(v.AU k).mono rfl (Evo.refl _ _) (dw.refl _) λb o D _=>d.pv hs D
 ·intro i j b r J N O;obtain⟨l,g,f⟩:=vG r;obtain⟨P,A,s⟩:=vG J;have:=hs.apart l P b f s ((d.obj i l g).live N) ((d.obj j P A).live O);subst this;exact d.inj i j l g A N O
 ·intro i b r J;obtain⟨l,g,f⟩:=vG r;exact hs.own l b f ((d.obj i l g).live J)
 intro i b r;obtain⟨l,_,f⟩:=vG r;exact hs.bound l b f
end
def Le m t h t' h':=
 ∀C c a w,C.k0.length<=m->Sim C c ⟨t,h⟩ a w->∃b,Sim C b ⟨t',h'⟩ a w
theorem Le.of{m t t' h a} L (w:Weak m t h L t' a):Le m t h t' a:=λ_ _ _ _ k s=>⟨_,w.sim k s⟩
theorem Le.trans{m t t' b h e c}(f:Le m t h t' e)(h2:Le m t' e b c):Le m t h b c:=λC g a w k i=>by obtain⟨d,s⟩:=f C g a w k i;exact h2 C d a w k s
theorem AW.le{P m c Q t t' h d}(l:Le m t h t' d)(e:AW P m c Q t' d):AW P m c Q t h:=λC f a w k g=>by obtain⟨b,s⟩:=l C f a w k g;exact e C b a w k s
inductive VWs(h:List AObj)(L:List (Option Nat)):List AV→List AV→Prop where
 |nil:VWs h L [] []
 |cons {x y:AV} {xs ys:List AV}:VW h L x y→VWs h L xs ys→VWs h L (x::xs) (y::ys)
theorem VWs.len{h}{L}{xs ys}(v:VWs h L xs ys):xs.length=ys.length:=by
 induction v with|nil=>rfl|cons _ _ i=>simp[i]
theorem VWs.get{h}{L}{xs ys}(v:VWs h L xs ys):∀j,VW h L (xs.getD j .unk) (ys.getD j .unk):=by
 induction v with|nil=>exact λj=>.unk _|cons a _ i=>intro j;cases j with|zero=>exact a|succ j=>exact i j
inductive OWs(h:List AObj)(L:List (Option Nat)):List (Option Nat)→List AObj→Prop where
 |nil:OWs h L [] []
 |old {l:Nat} {o:AObj} {ls:List (Option Nat)} {os:List AObj}:OW h L o (obj? h l)→OWs h L ls os→OWs h L (some l::ls) (o::os)
 |new {o:AObj} {ls:List (Option Nat)} {os:List AObj}:bS o=false→OWs h L ls os→OWs h L (none::ls) (o::os)
theorem OWs.len{h}{L l}{os}(v:OWs h L l os):l.length=os.length:=by
 induction v with|nil=>rfl|old _ _ i=>simp[i]|new _ _ i=>simp[i]
theorem OWs.get{h}{L s}{os}(v:OWs h L s os):∀i l,s[i]? =some (some l)->OW h L (obj? os i) (obj? h l):=by
 induction v with
 |nil=>intro i l a;simp at a|old c _ b=>intro i l a;cases i with
  |zero=>simp at a;subst a;exact c|succ i=>exact b i l (by simpa using a)
 |new _ _ b=>intro i l a;cases i with|zero=>simp at a|succ i=>exact b i l (by simpa using a)
theorem OWs.aIa{h}{L l}{os}(v:OWs h L l os):∀i,l[i]? =some none->bS (obj? os i)=false:=by
 induction v with
 |nil=>intro i a;simp at a|old c _ b=>intro i a;cases i with
  |zero=>simp at a|succ i=>exact b i (by simpa using a)
 |new c _ b=>intro i a;cases i with|zero=>exact c|succ i=>exact b i (by simpa using a)
def aoa:AObj->Bool| .dead=>false| .res=>false|_=>true
theorem aq5{o}(h:live o):aoa o=true:=by cases o<;>simp[live,aoa]at *
def sI:List (Option Nat)->List AObj->List Nat
 |some l::L,o::s=>match aoa o with
  |true=>l::sI L s|false=>sI L s
 |none::L,_::s=>sI L s|_,_=>[]
def okL m n L h':=
 (List.range m).all (λi=>L[i]? ==some (some i))&&(L.all λo=>match o with|some l=>decide (l<n)|none=>true)&&decide (sI L h').Nodup
theorem axR:∀L hs k l,L[k]? =some (some l)->live (obj? hs k)->l∈sI L hs:=by
 intro L
 induction L with|nil=>intro hs k l h;simp at h|cons o L i=>
  intro hs k l h b;cases hs with|nil=>simp[obj?,live]at b|cons a s=>
   cases k with|zero=>simp at h;subst h;have:aoa a=true:=aq5 b;simp[sI,this]|succ k=>
    have m:=i s k l (by simpa using h) b;cases o with|none=>simpa[sI]using m|some x=>
     simp only[sI]
     grind
theorem ax1:∀L hs,(sI L hs).Nodup->∀i j l,L[i]? =some (some l)->L[j]? =some (some l)->live (obj? hs i)->live (obj? hs j)->i=j:=by
 intro L
 induction L with|nil=>intro hs _ i j l h;simp at h|cons o L g=>
  intro hs n i j l h c b d;cases hs with|nil=>simp[obj?,live]at b|cons a s=>
   have f:(sI L s).Nodup:=by
    cases o with|none=>simpa[sI]using n|some x=>
     simp only[sI]at n
     grind
   have e:∀k,o=some l->live a->L[k]? =some (some l)->live (obj? s k)->False:=λk m p q r=>by subst m;simp only[sI,aq5 p]at n;exact(qBX.1 n).1 (axR L s k l q r)
   cases i with
   |zero=>cases j with
    |zero=>rfl|succ j=>exact(e j (by simpa using h) b (by simpa using c) d).elim
   |succ i=>cases j with|zero=>exact(e i (by simpa using c) d (by simpa using h) b).elim|succ j=>exact congrArg _ (g s f i j l (by simpa using h) (by simpa using c) b d)
theorem Weak.mk'{m t t' h a L}(b:okL m h.length L a=true)(c:VWs h L t' t)(o:OWs h L L a):Weak m t h L t' a:=by
 simp only[okL,qAb,qAJ,decide_eq_true_eq]at b;obtain⟨⟨d,e⟩,f⟩:=b;refine⟨c.len,o.len,λi g=>by simpa using d i (by simpa using g),ax1 L a f,λi l j=>?_,c.get,o.get,o.aIa⟩;have:=e _ (qAG j)
 grind
end
end Abs
end Go.Proofs.YtneeginmfjageaaGreat
