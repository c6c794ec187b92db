/- Regions that draw. Conditions: none. -/
import Derived.Test.YtneeginmfjageaaGreatCAbs17ox477dcb
set_option linter.all false
namespace Go.Proofs.YtneeginmfjageaaGreat
namespace Abs
structure Agree(t s:ASt)(e:Eff):Prop where
 tl:t.tmps.length=s.tmps.length
 hl:t.heap.length=s.heap.length
 rs:∀n∈e.rs,t.tmps.getD n .unk=s.tmps.getD n .unk
 ro:∀l∈e.ro,obj? t.heap l=obj? s.heap l
def Jq(P:Program)(ops:Array Oper)(o:Oper)(s:ASt)(e:Eff):Prop:=∀t,Agree t s e->aDR P ops o t (t.wr e.ws)
inductive ATr(P:Program)(ops:Array Oper):List Oper→B4→ASt→ASt→Prop where
 |nil (s:ASt):ATr P ops [] [] s s
 |cons {o:Oper} {l:List Oper} {e:Eff} {es:B4} {s s':ASt}:Jq P ops o s e→ATr P ops l es (s.wr e.ws) s'→ATr P ops (o::l) (e::es) s s'
def ATr.steps{P:Program}{ops:Array Oper}{l:List Oper}{es:B4}{s s':ASt}(h:ATr P ops l es s s'):ASteps P ops l s s':=by induction h with|nil s=>exact .nil s|cons e _ i=>exact .cons (e _ ⟨rfl,rfl,λ_ _=>rfl,λ_ _=>rfl⟩) i
def qG(o:Oper):A5:=(o.after.toList.filter (Region.binds .any)).map (·.on)
def FD:List Oper->List A5->List A5|[],a=>a|o::l,a=>FD l (a++[qG o++(qG o).flatMap λp=>a.getD p []])
def gP(e f:Eff):Bool:=
 (jA e.ws).any (λn=>f.rs.contains n ||(jA f.ws).contains n) ||(jA f.ws).any (λn=>e.rs.contains n) ||
 (jS e.ws).any (λn=>f.ro.contains n ||(jS f.ws).contains n) ||(jS f.ws).any (λn=>e.ro.contains n)
def wT:Eff:=⟨[],[],[]⟩
def ng(l:List Oper)(es:B4):Bool:=
 (List.range l.length).all λj=>(qG (l.getD j default)).all (λp=>decide (p<j))&&(List.range j).all λi=>!(gP (es.getD i wT) (es.getD j wT)) ||((FD l []).getD j []).contains i
def Ny{D:Nat->Prop}:∀(l:List Oper) (a:List A5),(∀j i,D j->i∈a.getD j []->D i)->(∀j o,l[j]? =some o->D (a.length+j)->∀p∈qG o,D p)->∀j i,D j->i∈(FD l a).getD j []->D i:=by
 intro l
 induction l with
 |nil=>intro a h _ j i c b;exact h j i c b
 |cons o l g=>
  intro a h e j i c b;simp only[FD]at b;refine g _ ?_ ?_ j i c b
  ·intro j i c b;by_cases t:j<a.length
   ·rw[List.getD,qAg t]at b;exact h j i c b
   by_cases k:j=a.length
   ·subst k;rw[List.getD,qAl (qAd _)]at b;simp only[Nat.sub_self,qAG,qAw,qAr,qBx]at b;have f:=e 0 o cn c
    grind
   grind
  intro j m d n p f;refine e (j+1) m (by simpa using d) ?_ p f
  grind
def ATr.spec{P:Program}{ops:Array Oper}{l:List Oper}{es:B4}{s s':ASt}(h:ATr P ops l es s s'):l.length=es.length/\s'=s.wr (bP (λ_=>true) 0 es)/\
  ∀i o e,l[i]? =some o->es[i]? =some e->Jq P ops o (s.wr (bP (λj=>decide (j<i)) 0 es)) e:=by
 have z:∀(es:B4) (k:Nat),bP (λ_=>false) k es=[]:=λes=>by
  induction es with
  |nil=>intro k;rfl
  |cons e es c=>intro k;simp[bP,c]
 have n:∀(D d:Nat->Bool) (es:B4) (k a:Nat),(∀i,D (k+i)=d (a+i))->bP D k es=bP d a es:=λD d es=>by
  induction es with
  |nil=>intro k a _;rfl
  |cons e es c=>
   intro k a h;simp only[bP];have g:=h 0;rw[qAS,qAS]at g;rw[g,c (k+1) (a+1) (λi=>by have:=h (i+1);rwa[show k+(i+1)=k+1+i from by omega,show a+(i+1)=a+1+i from by omega]at this)]
 induction h with
 |nil s=>exact⟨rfl,rfl,λi o e h=>by simp at h⟩
 |@cons o l e es s s' m _ c=>
  let⟨p,q,r⟩:=c;refine⟨by simp[p],?_,λi t u f b=>?_⟩
  ·rw[q];simp only[bP,IZ]
   grind
  cases i with
  |zero=>
   simp at f b;subst f b;have:bP (λj=>decide (j<0)) 0 (e::es)=[]:=by
    simp_all
   rw[this];exact m
  |succ i=>
   have:=r i t u (by simpa using f) (by simpa using b);have v:bP (λj=>decide (j<i+1)) 0 (e::es)=e.ws++bP (λj=>decide (j<i)) 0 es:=by
    simp only[bP]
    grind
   rw[v,IZ];exact this
def WI{e f:Eff}{n:Nat}(h:gP e f=false)(a:n∈jA e.ws):n∉f.rs/\n∉jA f.ws:=by
 simp only[gP]at h
 grind
def WR{e f:Eff}{n:Nat}(h:gP e f=false)(a:n∈jS e.ws):n∉f.ro/\n∉jS f.ws:=by
 simp only[gP]at h
 grind
def adP{s:Array Bool}{i:Nat}(hi:i<s.size)(f:s.getD i true=false):((s.setIfInBounds i true).toList.filter (!·)).length+1=(s.toList.filter (!·)).length:=by
 have k:∀(l:List Bool) (i:Nat),i<l.length->l.getD i true=false->((l.set i true).filter (!·)).length+1=(l.filter (!·)).length:=by
  intro l
  induction l with|nil=>intro i hi;simp at hi|cons x l a=>intro i hi h;cases i with|zero=>simp[List.getD]at h;subst h;simp|succ i=>grind
 simp_all
def ayb{P:Program}{l:List Oper}{es:B4}{s s':ASt}{C:Ctx}{Q:Exit->Act->World->Prop}(htr:ATr P l.toArray l es s s')(hok:ng l es=true)(hq:∀κ' Y w',Sim C κ' s' Y w'->Q .normal Y w'):
  ∀(u:Nat) (t:Array Bool) (κ:aS) (a:Act) (w:World),t.size=l.length->(t.toList.filter (!·)).length=u->
   (∀j o,l[j]? =some o->t.getD j false=true->∀p∈qG o,t.getD p false=true)->
   Sim C κ (s.wr (bP (λi=>t.getD i false) 0 es)) a w->wpAny P .any l.toArray Q u t a w:=by
 let⟨hlen,hs',heff⟩:=htr.spec;have H:∀j,j<l.length->(∀p∈qG (l.getD j default),p<j)/\∀i,i<j->gP (es.getD i wT) (es.getD j wT)=true->i∈(FD l []).getD j []:=λj c=>by
  have:=qAP.1 hok j (qBW.2 c)
  grind
 have hall:∀(t:Array Bool),t.size=l.length->Region.ready .any l.toArray t=[]->∀i,i<l.length->t.getD i false=true:=by
  intro t z U i
  induction i using Nat.strongRecOn with
  |_ i ih=>
   intro N;cases hb:t.getD i false with
   |true=>rfl
   |false=>
    exfalso;have x:i<t.size:=by omega
    have:i∈Region.ready .any l.toArray t:=by
     refine mem_ready.2 ⟨?_,l[i],by simp[N],λe he Z=>?_⟩
     ·simpa[Array.getD,x]using hb
     have I:=(H i N).1 e.on (by
      simp only[qG,List.getD,qAc N,qAw];exact qAJ.2 ⟨e,qBa.2 ⟨by simpa using he,Z⟩,rfl⟩)
     exact ih e.on I Cl
    rw[U]at this;cases this
 have J:∀(t:Array Bool) (κ:aS) (a:Act) (w:World),t.size=l.length->Region.ready .any l.toArray t=[]->Sim C κ (s.wr (bP (λi=>t.getD i false) 0 es)) a w->Q .normal a w:=by
  intro t κ a w z U m;have ha:=hall t z U;refine hq κ a w ?_;have:s.wr (bP (λi=>t.getD i false) 0 es)=s':=by
   rw[hs'];refine ASt.ext' (by rw[(dA _ s).1,(dA _ s).1]) (by rw[(dA _ s).2,(dA _ s).2]) (λn g=>?_) (λn g=>?_)
   ·rw[(dA _ s).1]at g;rw[vW _ n s g,vW _ n s g];rw[Lr (D':=λ_=>true) es 0 (λi e N _=>by rw[qAL];exact ha i (by have:=(qAH.1 N).1;omega))]
   rw[(dA _ s).2]at g;rw[tq _ n s g,tq _ n s g];rw[Ic (D':=λ_=>true) es 0 (λi e N _=>by rw[qAL];exact ha i (by have:=(qAH.1 N).1;omega))]
  rw[<-this];exact m
 intro u
 induction u with
 |zero=>
  intro t κ a w z hcnt _ m;have U:Region.ready .any l.toArray t=[]:=by
   cases hrd:Region.ready .any l.toArray t with
   |nil=>rfl
   |cons i r=>
    exfalso;have hm:i∈Region.ready .any l.toArray t:=by rw[hrd];simp
    let⟨h1,o,h2,_⟩:=mem_ready.1 hm;have x:i<t.size:=by have:=(qBi.1 h2).1;simp at this;omega
    have:=adP x h1;omega
  exact⟨U,J t κ a w z U m⟩
 |succ u ih=>
  intro t κ a w z hcnt y m;refine⟨λU=>J t κ a w z U m,λi N=>?_⟩;let⟨h1,o,h2,h3⟩:=mem_ready.1 N;have hil:i<l.length:=by have:=(qBi.1 h2).1;simpa using this
  have hlo:l[i]? =some o:=by simpa using h2
  have x:i<t.size:=by omega
  have hi0:t.getD i false=false:=by simpa[Array.getD,x]using h1
  obtain⟨e,G⟩:∃e,es[i]? =some e:=⟨_,qAc Cl⟩;have hgi:es.getD i wT=e:=by rw[List.getD,G];rfl
  -- where something conflicts with i
  have Z:∀j V,t.getD j false=true->V∈(FD l []).getD j []->t.getD V false=true:=
   Ny (D:=λj=>t.getD j false=true) l [] (λj V _ hi'=>by simp at hi') (λj o' c W p I=>y j o' c (by simpa using W) p I)
  have O:∀j f,es[j]? =some f->j<i->gP f e=true->t.getD j false=true:=λj f c b q=>by
   have hgj:es.getD j wT=f:=by rw[List.getD,c];rfl
   have hb:=(H i hil).2 j b (by rw[hgj,hgi];exact q);have W:∀j' V,(t.getD j' false=true∨j'=i)->V∈(FD l []).getD j' []->(t.getD V false=true∨V=i):=
    Ny (D:=λj=>t.getD j false=true∨j=i) l [] (λj V _ hi'=>by simp at hi') (λj' o' hj' W p I=>by
     simp only[qAA,qAL]at W;rcases W with W|rfl
     ·exact .inl (y j' o' hj' W p I)
     rw[hlo]at hj';cases hj';simp only[qG,qAJ,qBa]at I;obtain⟨ed,⟨he1,he2⟩,rfl⟩:=I;exact .inl (h3 ed (by simpa using he1) he2))
   rcases W i j (.inr rfl) hb with h|h
   ·exact h
   omega
  have hlate:∀j f,es[j]? =some f->i<j->gP e f=true->t.getD j false=false:=λj f c b q=>by
   have hjl:j<l.length:=by have:=(qAH.1 c).1;omega
   have hgj:es.getD j wT=f:=by rw[List.getD,c];rfl
   have hb:=(H j hjl).2 i b (by rw[hgj,hgi];exact q);cases R:t.getD j false with
   |false=>rfl
   |true=>have:=Z j i R hb;rw[hi0]at this;cases this
  have d:∀j f,es[j]? =some f->(gP f e=true∨gP e f=true->j≠i->t.getD j false=decide (j<i)):=λj f c=>by
   have X:gP f e=true↔gP e f=true:=by
    simp only[gP,qBe,qCB,List.contains_iff_mem];constructor
    ·rintro(((⟨n,k,a2|a2⟩|⟨n,k,a2⟩)|⟨n,k,a2|a2⟩)|⟨n,k,a2⟩)
     ·exact .inl (.inl (.inr ⟨n,k,a2⟩))
     ·exact .inl (.inl (.inl ⟨n,a2,.inr k⟩))
     ·exact .inl (.inl (.inl ⟨n,k,.inl a2⟩))
     ·exact .inr ⟨n,k,a2⟩
     ·exact .inl (.inr ⟨n,a2,.inr k⟩)
     exact .inl (.inr ⟨n,k,.inl a2⟩)
    rintro(((⟨n,k,a2|a2⟩|⟨n,k,a2⟩)|⟨n,k,a2|a2⟩)|⟨n,k,a2⟩)
    ·exact .inl (.inl (.inr ⟨n,k,a2⟩))
    ·exact .inl (.inl (.inl ⟨n,a2,.inr k⟩))
    ·exact .inl (.inl (.inl ⟨n,k,.inl a2⟩))
    ·exact .inr ⟨n,k,a2⟩
    ·exact .inl (.inr ⟨n,a2,.inr k⟩)
    exact .inl (.inr ⟨n,k,.inl a2⟩)
   intro q hne;rcases Nat.lt_or_gt_of_ne hne with F|hgt
   ·rw[O j f c F (q.elim id X.2)];simp[F]
   rw[hlate j f c hgt (q.elim X.1 id)];simp;omega
  let D:Nat->Bool:=λj=>t.getD j false
  have S:Agree (s.wr (bP D 0 es)) (s.wr (bP (λj=>decide (j<i)) 0 es)) e:=by
   refine⟨by rw[(dA _ s).1,(dA _ s).1],by rw[(dA _ s).2,(dA _ s).2],λn g=>?_,λn g=>?_⟩
   ·by_cases K:n<s.tmps.length
    ·rw[vW _ n s K,vW _ n s K];congr 1;refine Lr es 0 λj f c A=>?_;rw[qAL];by_cases b:j=i
     ·subst b;show t.getD j false=_;rw[hi0];simp
     refine d j f c (.inl ?_) b;cases q:gP f e with
     |true=>rfl
     |false=>exact((WI q A).1 g).elim
    have e1:(s.wr (bP D 0 es)).tmps.getD n .unk=.unk:=by rw[List.getD,qAC (by rw[(dA _ s).1];omega)];rfl
    have e2:(s.wr (bP (λj=>decide (j<i)) 0 es)).tmps.getD n .unk=.unk:=by rw[List.getD,qAC (by rw[(dA _ s).1];omega)];rfl
    rw[e1,e2]
   by_cases K:n<s.heap.length
   ·rw[tq _ n s K,tq _ n s K];congr 1;refine Ic es 0 λj f c A=>?_;rw[qAL];by_cases b:j=i
    ·subst b;show t.getD j false=_;rw[hi0];simp
    refine d j f c (.inl ?_) b;cases q:gP f e with
    |true=>rfl
    |false=>exact((WR q A).1 g).elim
   have e1:obj? (s.wr (bP D 0 es)).heap n=.dead:=by rw[obj?,qAC (by rw[(dA _ s).2];omega)];rfl
   have e2:obj? (s.wr (bP (λj=>decide (j<i)) 0 es)).heap n=.dead:=by rw[obj?,qAC (by rw[(dA _ s).2];omega)];rfl
   rw[e1,e2]
  have hstep:=heff i o e hlo G _ S;have B:∀j,(t.setIfInBounds i true).getD j false=(D j ||decide (j=i)):=λj=>by
   by_cases b:i=j
   ·subst b;simp[Array.getD,x]
   simp only[qAq,qCK b,D];simp[qBo b]
  have T:(s.wr (bP D 0 es)).wr e.ws=s.wr (bP (λj=>(t.setIfInBounds i true).getD j false) 0 es):=by
   rw[<-IZ];refine ASt.ext' (by rw[(dA _ s).1,(dA _ s).1]) (by rw[(dA _ s).2,(dA _ s).2]) (λn g=>?_) (λn g=>?_)
   ·rw[(dA _ s).1]at g;rw[vW _ n s g,vW _ n s g,JQ];congr 1;by_cases A:n∈jA e.ws
    ·rw[aqK (D:=λj=>(t.setIfInBounds i true).getD j false) es 0 i e G (by rw[qAL,B];simp) A (λj f c hij L E=>by
      rw[qAL,B]at L;have b:j≠i:=by omega
      have hDj:t.getD j false=true:=by simpa[b,D]using L
      have q:gP f e=true:=by
       cases q:gP f e with
       |true=>rfl
       |false=>exact((WI q E).2 A).elim
      have:=d j f c (.inl q) b;rw[hDj]at this;have F:j<i:=by simpa using this.symm
      omega)]
     let⟨v,hv⟩:=Yv A;rw[hv];rfl
    rw[XZ A,qCt];refine Lr es 0 λj f c E=>?_;rw[qAL,B];have b:j≠i:=λe'=>by subst e';rw[G]at c;cases c;exact A E
    simp[b,D]
   rw[(dA _ s).2]at g;rw[tq _ n s g,tq _ n s g,Jw];congr 1;by_cases A:n∈jS e.ws
   ·rw[asZ (D:=λj=>(t.setIfInBounds i true).getD j false) es 0 i e G (by rw[qAL,B];simp) A (λj f c hij L E=>by
     rw[qAL,B]at L;have b:j≠i:=by omega
     have hDj:t.getD j false=true:=by simpa[b,D]using L
     have q:gP f e=true:=by
      cases q:gP f e with
      |true=>rfl
      |false=>exact((WR q E).2 A).elim
     have:=d j f c (.inl q) b;rw[hDj]at this;have F:j<i:=by simpa using this.symm
     omega)]
    let⟨v,hv⟩:=YJ A;rw[hv];rfl
   rw[Y3 A,qCt];refine Ic es 0 λj f c E=>?_;rw[qAL,B];have b:j≠i:=λe'=>by subst e';rw[G]at c;cases c;exact A E
   simp[b,D]
  have M:∀κ' Y w',Sim C κ' ((s.wr (bP D 0 es)).wr e.ws) Y w'->wpAny P .any l.toArray Q u (t.setIfInBounds i true) Y w':=λκ' Y w' hs2=>by
   rw[T]at hs2;refine ih (t.setIfInBounds i true) κ' Y w' (by simpa using z) (by have:=adP x h1;omega) ?_ hs2;intro j o' c R p I;rw[B]at R|-;by_cases b:j=i
   ·subst b;rw[hlo]at c;cases c;simp only[qG,qAJ,qBa]at I;obtain⟨ed,⟨he1,he2⟩,rfl⟩:=I;have:=h3 ed (by simpa using he1) he2;simp only[D,this,qCj]
   have hlj':t.getD j false=true:=by simpa[b,D]using R
   have:=y j o' c hlj' p I;simp only[D,this,qCj]
  unfold wpOp;rw[h2];dsimp only;rcases hstep with⟨hwd,ht⟩|⟨hwd,he⟩
  ·rw[nG m hwd];simp only[if_true];exact .inl (ht C κ a w m _ _ M)
  rw[nG m hwd];simp only[qBR,if_false];refine M κ _ w ?_;rw[he];exact m.aA _ lK
def dK.drawn{P:Program}{id:Nat}{l:List Oper}{es:B4}{Q:Exit->ASt->Prop}{s s':ASt}(n:Nat)(r:P.follows .mixedOrders=true)(h:ATr P l.toArray l es (s.reserve n) s')(d:ng l es=true)(t:Q .normal s'):dK P (.region id l.toArray true) Q s:=by
 intro C A a w u;refine wp_region_any r ?_;have v:=(u.reserve n).sameHeap (w':={w with drawn:=w.drawn+1}) rfl rfl rfl rfl;have g:bP (λi=>(Array.replicate l.length false).getD i false) 0 es=[]:=by
  have z:∀(D:Nat->Bool) (es:B4) (k:Nat),(∀i,D i=false)->bP D k es=[]:=λD es=>by induction es with|nil=>intro k _;rfl|cons e es x=>intro k p;simp[bP,x _ p,p]
  refine z _ es 0 λi=>?_;simp[Array.getD]
 have:=ayb (C:=C) (Q:=λe q f=>∃c b,Q e c/\Sim C b c q f) h d (λb q f m=>⟨s',b,t,m⟩) l.length (Array.replicate l.length false) _ a _ cn cn (λj o _ y=>by simp[Array.getD]at y) (by rw[g];exact v)
 grind
def yZ(P:Program)(s:ASt):List ResultVar->Option An
 |[]=>some []
 | .tmp t::r=>(yZ P s r).map (s.tmps.getD t .unk::·)
 | .cell a t::r=>match s.tmps.getD a .unk with
  | .ptr l o=>match obj? s.heap l with
   | .box c=>match kC P t (c.drop o)with
    |some v=>(yZ P s r).map (v::·)
    |none=>none
   |_=>none
  |_=>none
def Vf(tmps:Array Value):ResultVar->Sem Value| .tmp t=>pure (tmps.getD t undef)| .cell a t=>do loadVar t (<-asAddr (tmps.getD a undef))
def PI(fn:Func)(tmps:Array Value):results fn tmps=(do let vs <-fn.results.mapM (Vf tmps);pure (if h:vs.size=1 then vs[0]else .tuple vs)):=by congr 1
def MS{P:Program}{C:Ctx}{κ:aS}{s:ASt}{a:Act}{w:World}(hs:Sim C κ s a w):∀(f:List ResultVar) (xs:An),yZ P s f=some xs->
  ∃g:List Value,g.length=xs.length/\(∀j,j<xs.length->Rel w κ (aH C.ak κ s.heap) (xs.getD j .unk) (g.getD j undef))/\(f.mapM (Vf a.tmps)).run P w=.ok g w:=by
 intro f
 induction f with
 |nil=>intro xs h;simp only[yZ,Option.some.injEq]at h;subst h;exact⟨[],rfl,λj k=>(by cases k),by simp⟩
 |cons r f B=>
  intro xs h;have m:∀(v:AV) (u:Value) (i:An),yZ P s f=some i->xs=v::i->Rel w κ (aH C.ak κ s.heap) v u->(Vf a.tmps r).run P w=.ok u w->
    ∃g:List Value,g.length=xs.length/\(∀j,j<xs.length->Rel w κ (aH C.ak κ s.heap) (xs.getD j .unk) (g.getD j undef))/\((r::f).mapM (Vf a.tmps)).run P w=.ok g w:=λv u i d n q z=>by
   let⟨g,D,L,M⟩:=B i d;subst n;refine⟨u::g,by simp[D],λj k=>?_,?_⟩
   ·grind
   simp_all
  cases r with
  |tmp t=>
   simp only[yZ]at h;cases d:yZ P s f with
   |none=>rw[d]at h;cases h
   |some i=>
    rw[d]at h;simp only[qAx,Option.some.injEq]at h;refine m _ (a.tmps.getD t undef) i d h.symm ?_ (by simp[Vf]);exact hs.ev (.tmp t)
  |cell x t=>
   simp only[yZ]at h;split at h
   ·rename_i l o E;split at h
    ·rename_i A F;split at h
     ·rename_i v q;cases d:yZ P s f with
      |none=>rw[d]at h;cases h
      |some i=>
       rw[d]at h;simp only[qAx,Option.some.injEq]at h;have p:=hs.ev (.tmp x);simp only[bL,Act.eval]at p;rw[E]at p;let⟨b,e,G⟩:=p.sD;let⟨c,N,O,Q,H,I⟩:=hs.box G F;let⟨y,J,K⟩:=Jm (P:=P) (w:=w) (κ:=κ) (pv:=aH C.ak κ s.heap) (b:=b) (off:=o) (cs:=A.drop o) (λj=>c.getD (o+j) undef)
        (λj k=>H _ (by simp at k;omega)) (λj k=>by rw[getD_drop];exact I _ (by simp at k;omega)) q
       exact m v y i d h.symm K (by simp only[Vf,e];simp[asAddr,J])
     cases h
    cases h
   cases h
def bodyC(κ:aS)(ak:bU)(H:A6)(w:World)(ds:List Deferred):Ctx:={ak:=ak,old:=λb=>b<w.heap.size/\∀l,at? κ l=some b->¬live (obj? H l),w0:=w,k0:=κ,pvE:=aH ak κ H,ds:=ds}
def bE(ops:Array Oper)(o:Oper):A5:=
 (o.op.operands.toList.filterMap λ| .tmp t=>some t|_=>none)++(match o.guard with|some (g,_)=>((ops[g]?).bind (·.dst)).toList|none=>[])
def Nz{a m:An}{ops:Array Oper}{o:Oper}(h:∀n∈bE ops o,m.getD n .unk=a.getD n .unk):∀x∈o.op.operands,bL m x=bL a x:=by intro x b;cases x with|tmp t=>exact h t (qBw _ (List.mem_filterMap.2 ⟨.tmp t,by simpa using b,rfl⟩))|const v=>rfl|func f=>rfl|global g=>rfl
def wh{m t:An}{ops:Array Oper}{o:Oper}(h:∀n∈bE ops o,t.getD n .unk=m.getD n .unk):eG ops t o=eG ops m o:=by
 unfold eG;cases g:o.guard with|none=>rfl|some p=>let⟨j,w⟩:=p;simp only;cases a:(ops[j]?).bind (·.dst)with|none=>rfl|some d=>simp only;rw[h d (by unfold bE;rw[g];simp[a])]
def Hu{P:Program}{ops:Array Oper}{o:Oper}{s:ASt}(h:eG ops s.tmps o=some false):Jq P ops o s ⟨bE ops o,[],aA o.dst (.tup [])⟩:=by intro t a;exact .inr ⟨by rw[wh a.rs];exact h,rfl⟩
inductive Keep{α:Type}(a:α):Type where
 |mk:Keep a
def JB(P:Program)(f:Nat)(args:An)(dst:Option Tmp)(s:ASt)(k:Nat)(K:Nat->A5->B5->Prop)(_:Keep K):Prop:=
 mQ P f=true/\∃(c b:A5) (a:An) (H:A6) (r:AV) (h:A6),Passes s c b H/\h.length=(c++b).length/\SWs args (a.map (ren (nm (c++b) s.heap.length)))/\eH P f a H r h/\
  K (k+b.length) (c++b) (mD (c++b) (h.map (eU (nm (c++b) s.heap.length)))++aA dst (ren (nm (c++b) s.heap.length) r))
def GQ{P:Program}{ops:Array Oper}{o:Oper}{s:ASt}{d:Operand}{args:Array Operand}{argTypes:Array TypeId}{f:Nat}{c a:An}{ρ k:A5}{H H':A6}{res:AV}(w:eG ops s.tmps o=some true)
  (g:o.op=.call {callee:=.value d,args,argTypes}) (v:bL s.tmps d=.func f c) (j:mQ P f=true) (p:Passes s ρ k H) (y:H'.length=(ρ++k).length)
  (r:SWs (args.toList.map (bL s.tmps)++c) (a.map (ren (nm (ρ++k) s.heap.length)))) (z:eH P f a H res H'):
  Jq P ops o s ⟨bE ops o,ρ++k,mD (ρ++k) (H'.map (eU (nm (ρ++k) s.heap.length)))++aA o.dst (ren (nm (ρ++k) s.heap.length) res)⟩:=by
 intro t h;have b:=Nz h.rs;have n:d∈o.op.operands:=by rw[g];simp[Op.operands,Call.operands]
 have q:Passes t ρ k H:=by refine⟨p.nodup,p.hlen,λl e=>by rw[h.hl];exact p.lt l e,λl e=>by rw[h.ro l (qBz _ e)];exact p.res l e,λi l u=>?_⟩;rw[h.ro l (qBw _ (qAF u)),h.hl];exact p.obj i l u
 have m:args.toList.map (bL t.tmps)=args.toList.map (bL s.tmps):=wm _ (λx A=>b x (by rw[g];simp only[Op.operands];exact qBA.2 (.inr (qBr.1 A))));have:=aCd (P:=P) (o:=o) (s:=t) g (by rw[b d n];exact v) j q y (by rw[m,h.hl];exact r) z;rw[h.hl]at this;exact .inl ⟨by rw[wh h.rs];exact w,this⟩
def jX:Op->Nat| .alloc _=>1| .box _ _=>1| .makeMap _ _=>1| .buildSlice _ _ _=>1| .makeSlice _ _ _=>1| .call {callee:=.builtin .append,..}=>1|_=>0
def nE:Op->Option (Operand×Array Operand)| .call {callee:=.value f,args,..}=>some (f,args)|_=>none
def xG{op:Op}{f:Operand}{args:Array Operand}(h:nE op=some (f,args)):∃t,op=.call {callee:=.value f,args,argTypes:=t}:=by
 unfold nE at h
 grind
section
variable {P:Program}{k:Nat}{d:Option Tmp}{ty:TypeId}{ps:String}{af:Array Edge}{gd:Option (Nat×Bool)}{ρ:Operand→AV}{σ:Nat→AObj}
def aCH(x:AV):Cd:=match x with| .ptr l o=>some (.ptr l o)| .eptr c=>some (.eptr c)| .func f c=>some (.func f c)| .flist (c::r)=>some (.eptr (c++[.flist r]))|_=>none
def unK(op:UnOp)(x:AV):Cd:=match op,x with| .not,.bool b=>some (.bool (!b))| .neg,.int k n=>some (.int k (k.wrap (0 - n)))|_,_=>none
def aiG(f:Option (Nat×TypeId))(x:AV):Cd:=match f with|some (a,_)=>(match x with| .ptr l o=>some (.ptr l (o+a))| .eptr c=>some (.eptr (c.drop a))|_=>none)|none=>none
def aBP(t:Bool)(sl:Bx)(x:AV):Cd:=match x with| .str s=>if t then some (.int .i64 s.length)else none| .slice e _=>if sl.isSome then some (.int .i64 e.length)else none| .psl _ _ n=>if sl.isSome then some (.int .i64 n)else none|_=>none
end
section
variable {P:Program}{ops:Array Oper}{l:List Oper}{k:Nat}{es:B4}{s:ASt}
end
abbrev Str:=By
abbrev Bk:=List Str
inductive Ty where
 |mk (kind:Int) (name:Str) (kids:List Ty)
abbrev B7:=Option Ty
abbrev A3:=List Ty
def Ty.kind:Ty->Int| .mk k _ _=>k
def Ty.name:Ty->Str| .mk _ n _=>n
def Ty.kids:Ty->A3| .mk _ _ k=>k
inductive Tm where
 |mk (op:Int) (name:Str) (n:Int) (ty:Ty) (kids:List Tm)
abbrev Bi:=List Tm
def Tm.op:Tm->Int| .mk k _ _ _ _=>k
def Tm.name:Tm->Str| .mk _ n _ _ _=>n
def Tm.n:Tm->Int| .mk _ _ n _ _=>n
def Tm.ty:Tm->Ty| .mk _ _ _ t _=>t
def Tm.kids:Tm->Bi| .mk _ _ _ _ k=>k
mutual
def oK:Ty→An
 | .mk k n ks=>[.int .i64 k,.str n,.slice (Rc ks) .shared]
def Rc:A3→List An
 |[]=>[]
 |t::ts=>oK t::Rc ts
end
mutual
def lY:Tm→An
 | .mk k n m t ks=>[.int .i64 k,.str n,.int .i64 m]++oK t++[.slice (Sz ks) .shared]
def Sz:Bi→List An
 |[]=>[]
 |t::ts=>lY t::Sz ts
end
def Yz:∀s,Rc s=s.map oK|[]=>rfl|t::s=>by simp[Rc,Yz s]
def YL:∀s,Sz s=s.map lY|[]=>rfl|t::s=>by simp[Sz,YL s]
@[go_sem] theorem lU(t:Ty):oK t=[.int .i64 t.kind,.str t.name,.slice (t.kids.map oK) .shared]:=by cases t;simp[oK,Yz,Ty.kind,Ty.name,Ty.kids]
@[go_sem] theorem uU(t:Tm):lY t=[.int .i64 t.op,.str t.name,.int .i64 t.n,.int .i64 t.ty.kind,.str t.ty.name,.slice (t.ty.kids.map oK) .shared,.slice (t.kids.map lY) .shared]:=by cases t;simp[lY,YL,Tm.op,Tm.name,Tm.n,Tm.ty,Tm.kids,lU]
mutual
theorem anf(g:Nat→Nat):∀t,eT g (oK t)=oK t
 | .mk k n ks=>by simp only[oK,eT,ren,xu,Qi g ks]
theorem Qi(g:Nat→Nat):∀ts,gY g (Rc ts)=Rc ts
 |[]=>rfl
 |t::ts=>by simp only[Rc,gY,anf g t,Qi g ts]
end
mutual
theorem amQ(g:Nat→Nat):∀t,eT g (lY t)=lY t
 | .mk k n m (.mk a b c) ks=>by
  simp only[lY,oK,qAM,qAo,eT,ren,xu,Yy g ks,Qi g c]
theorem Yy(g:Nat→Nat):∀ts,gY g (Sz ts)=Sz ts
 |[]=>rfl
 |t::ts=>by simp only[Sz,gY,amQ g t,Yy g ts]
end
def aFu(g:Nat->Nat)(t:A3):gY g (t.map oK)=t.map oK:=by rw[<-Yz];exact Qi g t
def aEE(g:Nat->Nat)(t:Bi):gY g (t.map lY)=t.map lY:=by rw[<-YL];exact Yy g t
inductive IxT where
 |sl (sz:Bx)
 |arr (len:Nat) (sz:Bx)
 |no
structure TI where
 size:Bx
 agg:Ax
 isPtr:Bool
 isBool:Bool
 isStr:Bool
 isStruct:Bool
 isSl:Bool
 int:Option IntKind
 ix:IxT
 field:List (Option (Nat×TypeId))
 place:List (Option (Nat×Nat))
 zero:Option An
 zav:Cd
 slT:Bx
 elem:Option (TypeId×Nat×Nat)
 smap:Option TypeId
def intTy(P:Program)(t:TypeId):Option IntKind:=match P.underlying t with|some (.int k)=>some k|_=>none
def Qy(P:Program)(t:TypeId):IxT:=match P.underlying t with|some (.slice e)=>.sl (sizeT P e)|some (.array n e)=>.arr n (sizeT P e)|_=>.no
def ak2(P:Program)(t:TypeId):List (Option (Nat×TypeId)):=match P.underlying t with|some (.struct f)=>f.toList.map λx=>(match sizeT P x.type with|some (_+1)=>some (x.offset,x.type)|_=>none)|_=>[]
def amc(P:Program)(t:TypeId):List (Option (Nat×Nat)):=match P.underlying t with|some (.struct s)=>s.toList.map λf=>(sizeT P f.type).map λn=>(f.offset,n)|_=>[]
def TI.of(P:Program)(t:TypeId):TI:=
 {size:=sizeT P t,agg:=QN P t,isPtr:=ajq P t,isBool:=ad1 P t,isStr:=aC.isStrT P t,isStruct:=zP P t,isSl:=aP.isSliceT P t,int:=intTy P t,ix:=Qy P t,field:=ak2 P t,place:=amc P t,zero:=lI P t,zav:=NP P t,slT:=aC.sliceT P t,elem:=mX P t,smap:=uK P t}
def lk{α:Type}:List (Option α)->Nat->Option α|[],_=>none|x::_,0=>x|_::l,n+1=>lk l n
def aDK{α:Type}:∀(l:List (Option α)) (n:Nat),lk l n=(l[n]?).bind id:=by
 intro l
 induction l with|nil=>intro n;simp[lk]|cons a l i=>intro n;cases n with|zero=>simp[lk]|succ n=>simp[lk,i]
def Uu(P:Program)(s f:Nat):lk (TI.of P s).field f=Bo P s f:=by
 rw[aDK];show(ak2 P s)[f]?.bind id=_;unfold ak2 Bo
 grind
def anZ(P:Program)(s f:Nat):lk (TI.of P s).place f=FX P s f:=by
 rw[aDK];show(amc P s)[f]?.bind id=_;unfold amc FX
 grind
def aHN(n:Nat)(cs:An):Cd:=if cs.length=n then some (.agg cs)else if n<=cs.length then some (.agg (cs.take n))else none
def loadT(τ:Nat->TI)(t:TypeId)(cs:An):Cd:=
 match(τ t).agg with
 |some true=>match(τ t).size with
  |some n=>aHN n cs
  |none=>none
 |some false=>match cs with|[]=>none|c::_=>some c
 |none=>none
def abE(τ:Nat->TI)(op:BinOp)(t:TypeId):AV->AV->Cd
 | .int k a,.int c b=>if k=c then(match op with
  | .add=>some (.int k (k.wrap (a+b)))
  | .sub=>some (.int k (k.wrap (a - b)))
  | .mul=>some (.int k (k.wrap (a*b)))
  | .quo=>if b=0 then none else some (.int k (k.wrap (a.tdiv b)))
  | .rem=>if b=0 then none else some (.int k (a.tmod b))
  | .eql=>some (.bool (a==b))
  | .neq=>some (.bool (a !=b))
  | .lss=>some (.bool (decide (a<b)))
  | .leq=>some (.bool (decide (a<=b)))
  | .gtr=>some (.bool (decide (b<a)))
  | .geq=>some (.bool (decide (b<=a)))
  | .shl=>if 0<=b/\b<=k.bits then some (.int k (k.wrap (a*2^b.toNat)))else none
  | .shr=>if 0<=b/\b<=k.bits then some (.int k (a.fdiv (2^b.toNat)))else none
  |_=>none)else none
 | .str a,.str b=>match op with
  | .add=>if a.length+b.length<=9223372036854775807 then some (.str (a++b))else none
  | .eql=>some (.bool (a==b))
  | .neq=>some (.bool (!(a==b)))
  | .lss=>some (.bool (Op.bytesLess a b))
  | .leq=>some (.bool (Op.bytesLess a b ||a==b))
  | .gtr=>some (.bool (!(Op.bytesLess a b ||a==b)))
  | .geq=>some (.bool (!(Op.bytesLess a b)))
  |_=>none
 | .bool a,.bool b=>if(τ t).isBool then(match op with
  | .eql=>some (.bool (a==b))
  | .neq=>some (.bool (!(a==b)))
  |_=>none)else none
 |x,.nilp=>if(τ t).isPtr then(match op,Nn x with
  | .eql,some b=>some (.bool b)
  | .neq,some b=>some (.bool (!b))
  |_,_=>none)else none
 |_,_=>none
def jy:Bool->Prop->Prop->Prop|true,A,_=>A|false,_,B=>B
def jg{α:Type}:Option α->(α->Prop)->Prop|some x,K=>K x|none,_=>False
def aAB{b:Bool}{A B:Prop}(h:b=true->A)(h2:b=false->B):jy b A B:=by cases b<;>simp_all [jy]
def bO{b:Bool}{A B:Prop}(h:jy b A B):(b=true/\A)∨(b=false/\B):=by cases b<;>simp_all [jy]
def dz{α:Type}{r:Option α}{K:α->Prop}(h:jg r K):∃x,r=some x/\K x:=by cases r with|none=>exact h.elim|some x=>exact⟨x,rfl,h⟩
def aKR(es:List An)(n:Int)(sz:Nat)(K:AV->Prop):Prop:=∃c,es[n.toNat]? =some c/\0<=n/\c.length=sz/\K (.eptr c)
def aEp(s:By)(n:Int)(K:AV->Prop):Prop:=(0<=n/\n<s.length)/\K (.int .u8 (s.getD n.toNat 0).toNat)
def aLs(a b:By)(K:AV->Prop):Prop:=a.length+b.length<=9223372036854775807/\K (.str (a++b))
def aK4(s:By)(lo hi:Cd)(K:AV->Prop):Prop:=∃l h,eX hi s.length s.length=some h/\eX lo 0 h=some l/\K (.str ((s.drop l).take (h - l)))
def aLG(es:List An)(sz:Nat)(lo hi:Cd)(K:AV->Prop):Prop:=∃l h,eX hi es.length es.length=some h/\eX lo 0 h=some l/\(l<es.length->(es.getD l []).length=sz)/\K (.slice ((es.drop l).take (h - l)) .shared)
def aG2(n:Int)(len:Nat)(K:Prop):Prop:=(0<=n/\n<len)/\K
def aBr(ys:List An)(sz b:Nat)(K:Prop):Prop:=(ys.length*b<=140737488355328/\ys.length<=140737488355328/\(ys.all (dH sz)=true))/\K
def aBC(n:Nat)(es ys:List An)(sz b:Nat)(K:Prop):Prop:=(n=es.length*sz/\(es.length+ys.length)*b<=140737488355328/\es.length+ys.length<=140737488355328/\(es.all (dH sz)=true)/\(ys.all (dH sz)=true))/\K
def aLo(es:List (By×AV))(K:Prop):Prop:=es.length<140737488355328/\K
def aJb(es:List (By×AV))(s:By)(A:AV->Prop)(B:Prop):Prop:=(∀v,tN es s=some v->A v)/\(tN es s=none->B)
def ash(K:AV->Prop):IxT->AV->AV->Prop| .sl (some s),.slice a _,.int _ n=>aKR a n s K| .arr e (some s),.ptr l o,.int _ n=>aG2 n e (K (.ptr l (o+n.toNat*s)))| .arr e (some s),.eptr c,.int _ n=>aG2 n e (K (.eptr (c.drop (n.toNat*s))))|_,_,_=>False
def cutV(isStr:Bool)(slT:Bx)(lo hi:Cd)(K:AV->Prop):AV->Prop| .str s=>jy isStr (aK4 s lo hi K) False| .slice e _=>jg slT λz=>aLG e z lo hi K|_=>False
def Vj(τ:Nat->TI)(op:BinOp)(t:TypeId)(x y:AV)(K:AV->Prop):Prop:=
 match op,x,y with| .add,.str a,.str b=>aLs a b K|op,x,y=>jg (abE τ op t x y) K
def awj(σ:Nat->AObj)(k sz b:Nat)(d:Option Tmp)(K:A5->B5->Prop):AV->AV->Prop
 | .slice [] .nils,.slice y _=>jy (dG (σ k)) (aBr y sz b (K [k] (.obj k (.tip (y.length*sz))::aA d (.slice y (.tip k sz))))) False
 | .slice e (.tip l z),.slice y _=>match σ l with
  | .tip n=>jy (dG (σ k)&&z==sz) (aBC n e y sz b (K [l,k] (.obj l .dead:: .obj k (.tip ((e++y).length*sz))::aA d (.slice (e++y) (.tip k sz))))) False
  |_=>False
 |_,_=>False
def stepT(τ:Nat->TI)(k:Nat)(d:Option Tmp)(ρ:Operand->AV)(σ:Nat->AObj)(K:A5->B5->Prop):Op->Prop
 | .move x=>K [] (aA d (ρ x))
 | .assign x=>K [] (aA d (ρ x))
 | .pick c x y=>match ρ c with
  | .bool b=>jy b (K [] (aA d (ρ x))) (K [] (aA d (ρ y)))
  |_=>False
 | .nilCheck x=>jg (aCH (ρ x)) λv=>K [] (aA d v)
 | .binOp w t x y _=>Vj τ w t (ρ x) (ρ y) λv=>K [] (aA d v)
 | .unOp w _ x=>jg (unK w (ρ x)) λv=>K [] (aA d v)
 | .fieldAddr s x f=>jg (aiG (lk (τ s).field f) (ρ x)) λv=>K [] (aA d v)
 | .field s x f=>jg (lk (τ s).field f) λp=>match ρ x with
  | .agg g=>jg (loadT τ p.2 (g.drop p.1)) λv=>K [] (aA d v)
  |_=>False
 | .indexAddr t x i=>ash (λv=>K [] (aA d v)) (τ t).ix (ρ x) (ρ i)
 | .index t x i=>match ρ x,ρ i with
  | .str s,.int _ n=>jy (τ t).isStr (aEp s n λv=>K [] (aA d v)) False
  |_,_=>False
 | .extract x i=>match ρ x with
  | .tup j=>jg (j[i]?) λv=>K [] (aA d v)
  |_=>False
 | .slice t x B C none=>cutV (τ t).isStr (τ t).slT (B.map ρ) (C.map ρ) (λv=>K [] (aA d v)) (ρ x)
 | .build t parts=>jy (τ t).isStruct (jg (τ t).zero λz=>jg (lH (lk (τ t).place) z (parts.toList.map λp=>(p.1,ρ p.2))) λg=>K [] (aA d (.agg g))) False
 | .makeFunc (.func f) first u=>jy (first.toList.isEmpty) (K [] (aA d (.func f (u.toList.map ρ)))) False
 | .load t x=>match ρ x with
  | .eptr g=>jg (loadT τ t g) λv=>K [] (aA d v)
  | .ptr l o=>match σ l with
   | .box g=>jg (loadT τ t (g.drop o)) λv=>K [l] (aA d v)
   |_=>False
  |_=>False
 | .store t x y=>match ρ x with
  | .ptr l o=>jg (eO (ρ y)) λj=>match σ l with
   | .box g=>jy (decide ((τ t).size=some j.length/\o+j.length<=g.length)&&j.all isScalar) (K [l] (.obj l (.box (g.take o++j++g.drop (o+j.length)))::aA d (.tup []))) False
   |_=>False
  |_=>False
 | .alloc t=>jy (dG (σ k)) (jg (τ t).zero λz=>K [k] (.obj k (.box z)::aA d (.ptr k 0))) False
 | .box _ x=>jy (dG (σ k)) (jg (eO (ρ x)) λg=>K [k] (.obj k (.box g)::aA d (.ptr k 0))) False
 | .makeMap _ none=>jy (dG (σ k)) (K [k] (.obj k (.mp [])::aA d (.mapr k))) False
 | .buildSlice t h parts=>jg (τ t).elem λe=>jg (τ e.1).zero λz=>jy (dG (σ k)&&(decide (h*e.2.1<=16777216)&&(decide (h<=16777216)&&decide (z.length=e.2.1)))) (jg (lH (λi=>some (i*e.2.1,e.2.1)) ((List.replicate h z).flatten) (parts.toList.map λp=>(p.1,ρ p.2))) λg=>K [k] (.obj k (.tip (h*e.2.1))::aA d (.slice (chunks e.2.1 h (g.map shr)) (.tip k e.2.1)))) False
 | .convert s t x=>match ρ x with
  | .int _ n=>jy (τ s).int.isSome (jg (τ t).int λk=>K [] (aA d (.int k (k.wrap n)))) False
  |_=>False
 | .call {callee:=.builtin .len,args,argTypes}=>match args.toList,argTypes.toList with
  |[x],[t]=>jg (aBP (τ t).isStr (τ t).slT (ρ x)) λv=>K [] (aA d v)
  |_,_=>False
 | .call {callee:=.builtin .append,args,argTypes}=>match args.toList,argTypes.toList with
  |[x,y],[t,D]=>jg (τ t).elem λe=>jy (τ D).isSl (awj σ k e.2.1 e.2.2 d K (ρ x) (ρ y)) False
  |_,_=>False
 | .call {callee:=.builtin .max,args,argTypes:=_}=>match args.toList with
  |[x,y]=>match ρ x,ρ y with
   | .int k a,.int A b=>jy (decide (k=A)) (K [] (aA d (.int k (if b>a then b else a)))) False
   |_,_=>False
  |_=>False
 | .call {callee:=.builtin .min,args,argTypes:=_}=>match args.toList with
  |[x,y]=>match ρ x,ρ y with
   | .int k a,.int A b=>jy (decide (k=A)) (K [] (aA d (.int k (if b<a then b else a)))) False
   |_,_=>False
  |_=>False
 | .lookup t m q ok=>jg (τ t).smap λe=>match ρ m,ρ q with
  | .mapr l,.str s=>match σ l with
   | .mp r=>jg (τ e).zav λz=>aJb r s (λv=>K [l] (aA d (ED (some v) ok z))) (K [l] (aA d (ED none ok z)))
   |_=>False
  |_,_=>False
 | .mapUpdate t m q x=>jg (τ t).smap λ_=>match ρ m,ρ q with
  | .mapr l,.str s=>match σ l with
   | .mp r=>aLo r (K [l] (.obj l (.mp (I9 r s (uN (ρ x))))::aA d (.tup [])))
   |_=>False
  |_,_=>False
 |_=>False
def ac9{P:Program}{t:TypeId}{x i:Operand}{ρ:Operand->AV}{K:AV->Prop}(h:ash K (TI.of P t).ix (ρ x) (ρ i)):∃v,aC P (.indexAddr t x i) ρ=some v/\K v:=by
 have b:(TI.of P t).ix=Qy P t:=rfl;rw[b]at h;simp only[aC];unfold Qy at h;unfold ash at h;split at h
 ·rename_i s r m k n a d f;split at a
  ·rename_i e u;simp only[IxT.sl.injEq]at a;let⟨p,j,g,w,y⟩:=h
   grind
  ·cases a
  cases a
 ·rename_i c s l o k n a d f;split at a
  ·cases a
  ·rename_i q e u;simp only[IxT.arr.injEq]at a;let⟨j,g⟩:=h
   grind
  cases a
 ·rename_i c s p k n a d f;split at a
  ·cases a
  ·rename_i q e u;simp only[IxT.arr.injEq]at a;let⟨j,g⟩:=h;exact⟨_,by simp_all,g⟩
  cases a
 grind
def abU{P:Program}{t:TypeId}{x:Operand}{lo hi:Option Operand}{ρ:Operand->AV}{K:AV->Prop}(h:cutV (TI.of P t).isStr (TI.of P t).slT (lo.map ρ) (hi.map ρ) K (ρ x)):∃v,aC P (.slice t x lo hi none) ρ=some v/\K v:=by
 have j:(TI.of P t).isStr=aC.isStrT P t:=rfl;have k:(TI.of P t).slT=aC.sliceT P t:=rfl;simp only[aC];unfold cutV at h;split at h
 ·rename_i s a;rcases bO h with⟨b,l,c,d,e,f⟩|⟨_,g⟩
  ·grind
  grind
 ·rename_i m i a;let⟨z,b,l,c,d,e,f,n⟩:=dz h
  grind
 grind
def fL{α:Type}:List α->(List α->Prop)->Prop|[],K=>K []|x::s,K=>fL s λy=>K (x::y)
def Vs{α:Type}:List α->Nat->α->(List α->Prop)->Prop|[],_,_,K=>K []|_::s,0,v,K=>K (v::s)|x::s,n+1,v,K=>Vs s n v λy=>K (x::y)
def fAV:AV->(AV->Prop)->Prop| .agg c,K=>fL c λc=>K (.agg c)| .eptr c,K=>fL c λc=>K (.eptr c)| .tup c,K=>fL c λc=>K (.tup c)| .func f c,K=>fL c λc=>K (.func f c)| .int k n,K=>K (.int k n)| .bool b,K=>K (.bool b)| .str b,K=>K (.str b)| .ptr l o,K=>K (.ptr l o)| .nilp,K=>K .nilp| .ifc t v,K=>K (.ifc t v)| .slice e t,K=>K (.slice e t)| .mapr l,K=>K (.mapr l)| .nilFunc,K=>K .nilFunc| .psl l z n,K=>K (.psl l z n)| .flist s,K=>K (.flist s)| .unk,K=>K .unk
def aCU:AObj->(AObj->Prop)->Prop| .box c,K=>fL c λc=>K (.box c)| .tip n,K=>K (.tip n)| .mp e,K=>K (.mp e)| .dead,K=>K .dead| .arr z e,K=>K (.arr z e)| .res,K=>K .res
def zG:B5->An->A6->(An->A6->Prop)->Prop|[],t,h,K=>K t h| .slot n v::w,t,h,K=>fAV v λv=>Vs t n v λt=>zG w t h K| .obj n v::w,t,h,K=>aCU v λv=>Vs h n v λh=>zG w t h K
def ahD(t:An):List Operand->(An->Prop)->Prop|[],K=>K []|x::s,K=>fAV (bL t x) λv=>ahD t s λa=>K (v::a)
def frN:Nat->Prop->Prop->Prop|0,A,_=>A|_+1,_,B=>B
def aHf(w:Bool)(d:Nat)(t:An)(A B:An->Prop):AV->Prop| .bool b=>jy b (Vs t d (.bool true) λt=>jy w (A t) (B t)) (Vs t d (.bool false) λt=>jy w (B t) (A t))| .tup []=>B t|_=>False
def grd(ops:List Oper)(t:An)(A B:An->Prop):Option (Nat×Bool)->Prop|none=>A t|some (j,w)=>jg ((ops[j]?).bind (·.dst)) λd=>aHf w d t A B (t.getD d .unk)
def adg(P:Program)(f:Nat)(args:An)(dst:Option Tmp)(t:An)(h:A6)(k:Nat)(K:Nat->A5->B5->Prop):Prop:=JB P f args dst ⟨t,h⟩ k K .mk
def adA(K:Nat->An->Prop):AV->Prop| .func f c=>K f c|_=>False
def run(P:Program)(τ:Nat->TI)(ops:List Oper):List Oper->Nat->B4->An->A6->(B4->An->A6->Prop)->Prop
 |[],_,e,t,h,K=>K e.reverse t h
 |o::l,k,e,t,h,K=>grd ops t
   (λt=>match nE o.op with
    |some (f,r)=>adA (λi c=>ahD t r.toList λv=>fL (v++c) λv=>adg P i v o.dst t h k λg j w=>zG w t h λa b=>run P τ ops l g (⟨bE ops.toArray o,j,w⟩::e) a b K) (bL t f)
    |none=>stepT τ k o.dst (bL t) (obj? h) (λd w=>zG w t h λa b=>frN (jX o.op) (run P τ ops l k (⟨bE ops.toArray o,d,w⟩::e) a b K) (run P τ ops l (k+1) (⟨bE ops.toArray o,d,w⟩::e) a b K)) o.op)
   (λt=>zG (aA o.dst (.tup [])) t h λa b=>run P τ ops l k (⟨bE ops.toArray o,[],aA o.dst (.tup [])⟩::e) a b K) o.guard
def ahH(next:An->A6->Prop)(Q:Exit->An->A6->Prop):Exit->An->A6->Prop| .normal,t,h=>next t h|e,t,h=>Q e t h
def aB1(id:Nat)(Q:Exit->An->A6->Prop):Exit->An->A6->Prop| .exit i,t,h=>jy (i==id) (Q .normal t h) (Q (.exit i) t h)|e,t,h=>Q e t h
def onS(Q:Exit->An->A6->Prop):Exit->ASt->Prop:=λe s=>Q e s.tmps s.heap
inductive Tr where
 |nil
 |node (l:Tr) (key:Nat) (x:TI) (r:Tr)
def Tr.look(d:Nat->TI)(t:Nat):Tr->TI
 | .nil=>d t
 | .node l k x r=>match Nat.ble t k with
  |true=>match Nat.beq t k with
   |true=>x
   |false=>Tr.look d t l
  |false=>Tr.look d t r
def Tr.keys:Tr->A5| .nil=>[]| .node l k _ r=>l.keys++k::r.keys
def Tr.vals:Tr->List TI| .nil=>[]| .node l _ x r=>l.vals++x::r.vals
def Tr.len:∀T:Tr,T.keys.length=T.vals.length| .nil=>rfl| .node l k x r=>by simp[keys,vals,Tr.len l,Tr.len r]
def Tr.look_eq(d:Nat->TI)(t:Nat):∀T:Tr,T.keys.map d=T.vals->T.look d t=d t
 | .nil,_=>rfl
 | .node l k x r,h=>by
  simp only[keys,qBj,qAy]at h;have a:=List.append_inj h (by simp[Tr.len l]);let⟨a,b⟩:=a;simp at b;unfold Tr.look;split
  ·split
   ·simp_all
   exact Tr.look_eq d t l a
  exact Tr.look_eq d t r b.2
def aGW{P:Program}{T:Tr}(h:T.keys.map (TI.of P)=T.vals):(λt=>T.look (TI.of P) t)=TI.of P:=funext λt=>Tr.look_eq _ t T h
abbrev QT:=Exit->An->A6->Prop
def AW(P:Program)(m:Nat)(c:Code)(Q:QT)(t:An)(h:A6):Prop:=
 ∀(C:Ctx) (d:aS) (a:Act) (w:World),C.k0.length<=m->Sim C d ⟨t,h⟩ a w->c.wp P (λe f g=>∃s b,onS Q e s/\Sim C b s f g) a w
def AW.of{P:Program}{m:Nat}{c:Code}{Q:QT}{t:An}{h:A6}(b:dK P c (onS Q) ⟨t,h⟩):AW P m c Q t h:=λC d a w _ s=>b C d a w s
def AW.mono{P:Program}{m:Nat}{c:Code}{Q q:QT}{t:An}{h:A6}(d:AW P m c Q t h)(f:∀e t h,Q e t h->q e t h):AW P m c q t h:=
 λC g a w k s=>wp_mono (d C g a w k s) λ_ _ _ ⟨i,b,j,l⟩=>⟨i,b,f _ _ _ j,l⟩
def AW.skip{P:Program}{m:Nat}{Q:QT}{t:An}{h:A6}(q:Q .normal t h):AW P m .skip Q t h:=AW.of (dK.skip q)
def AW.ret{P:Program}{m:Nat}{Q:QT}{t:An}{h:A6}(q:Q .ret t h):AW P m .ret Q t h:=AW.of (dK.ret q)
def AW.exit{P:Program}{m:Nat}{Q:QT}{t:An}{h:A6}{id:Nat}(q:Q (.exit id) t h):AW P m (.exit id) Q t h:=AW.of (dK.exit q)
def AW.seq{P:Program}{m:Nat}{x y:Code}{Q:QT}{t:An}{h:A6}(g:AW P m x (ahH (AW P m y Q) Q) t h):AW P m (.seq x y) Q t h:=by intro C i a w k j;refine wp_seq (wp_mono (g C i a w k j) ?_);rintro e n o ⟨s,b,d,f⟩;cases e with|normal=>exact d C b n o k f|exit id=>exact⟨s,b,d,f⟩|goto l=>exact⟨s,b,d,f⟩|ret=>exact⟨s,b,d,f⟩|panic c=>exact⟨s,b,d,f⟩|outgrown=>exact⟨s,b,d,f⟩
def AW.cond{P:Program}{m:Nat}{c:Operand}{x y:Code}{Q:QT}{t:An}{h:A6}{b:Bool}(f:bL t c=.bool b)(g:b=true->AW P m x Q t h)(h2:b=false->AW P m y Q t h):AW P m (.cond c x y) Q t h:=by intro C e a w k s;have r:=s.ev c;have:bL (ASt.mk t h).tmps c=.bool b:=f;rw[this]at r;exact wp_cond_split r.Ra (λd=>g d C e a w k s) (λd=>h2 d C e a w k s)
def AW.block{P:Program}{m id:Nat}{c:Code}{Q:QT}{t:An}{h:A6}(i:AW P m c (aB1 id Q) t h):AW P m (.block id c) Q t h:=by
 intro C j a w k n;refine wp_block (wp_mono (i C j a w k n) ?_);rintro e p q ⟨s,b,f,d⟩;cases e with
 |exit o=>
  simp only[Exit.inBlock];rcases bO f with⟨e,g⟩|⟨e,g⟩
  ·rw[if_pos (by simpa using e)];exact⟨s,b,g,d⟩
  rw[if_neg (by simpa using e)];exact⟨s,b,g,d⟩
 |normal=>exact⟨s,b,f,d⟩
 |goto l=>exact⟨s,b,f,d⟩
 |ret=>exact⟨s,b,f,d⟩
 |panic c=>exact⟨s,b,f,d⟩
 |outgrown=>exact⟨s,b,f,d⟩
def AW.loop{P:Program}{m:Nat}{c:Code}{Q:QT}{t:An}{h:A6}(I:Nat->An->A6->Prop){n:Nat}(h0:I n t h)(r:∀n t h,I n t h->AW P m c (ahH (λu v=>∃k,k<n/\I k u v) Q) t h):AW P m (.loop c) Q t h:=by intro C i a w x j;refine wp_loop_ghost (Q:=λe p q=>∃d b,onS Q e d/\Sim C b d p q) (λn a w=>∃s i,I n s.tmps s.heap/\Sim C i s a w) n ⟨⟨t,h⟩,i,h0,j⟩ ?_;rintro n a w ⟨s,i,y,j⟩;refine wp_mono (r n s.tmps s.heap y C i a w x j) ?_;rintro e p q ⟨d,b,f,g⟩;cases e with|normal=>let⟨m,z,o⟩:=f;exact⟨m,z,d,b,o,g⟩|exit id=>exact⟨d,b,f,g⟩|goto l=>exact⟨d,b,f,g⟩|ret=>exact⟨d,b,f,g⟩|panic c=>exact⟨d,b,f,g⟩|outgrown=>exact⟨d,b,f,g⟩
def VF:AV->Prop| .int k n=>sj k n| .str s=>s.length<=9223372036854775807| .slice e _=>e.length<=9223372036854775807| .psl _ _ n=>n<=140737488355328|_=>True
def Rel.vf{w:World}{κ:aS}{pv:bU}{x:AV}{v:Value}(h:Rel w κ pv x v):VF x:=by cases h<;>first|trivial|assumption
def parts:AV->An| .agg c=>c| .tup c=>c| .eptr c=>c| .func _ c=>c|v=>[v]
def ou(L:List Bx)(b i:Nat):Nat:=((L[i]?).getD none).getD b
inductive VW(h:A6)(L:List Bx):AV→AV→Prop where
 |unk (v:AV):VW h L .unk v
 |same {x y:AV}:ren (ou L h.length) x=y→VW h L x y
 |share {es es':List An} {t:Tag}:gY (ou L h.length) es=es'→VW h L (.slice es .shared) (.slice es' t)
 |nils (j z:Nat):VW h L (.slice [] (.tip j z)) (.slice [] .nils)
 |nilF:VW h L (.flist []) .nilp
 |frzF {l:Nat} {cs cs':An} {r:List An} {v:AV}:obj? h l=.box (cs'++[v])→some l∉L→cs.length=cs'.length→(∀j,j<cs.length→VW h L (cs.getD j .unk) (cs'.getD j .unk))→VW h L (.flist r) v→VW h L (.flist (cs::r)) (.ptr l 0)
 |nilP (j z:Nat):VW h L (.psl j z 0) (.slice [] .nils)
 |adC {l z n:Nat} {es es0:List An}:obj? h l=.arr z es0→some l∉L→n≤es0.length→gY (ou L h.length) es=es0.take n→VW h L (.slice es .shared) (.psl l z n)
 |agg {cs cs':An}:cs.length=cs'.length→(∀j,VW h L (cs.getD j .unk) (cs'.getD j .unk))→VW h L (.agg cs) (.agg cs')
 |tup {cs cs':An}:cs.length=cs'.length→(∀j,VW h L (cs.getD j .unk) (cs'.getD j .unk))→VW h L (.tup cs) (.tup cs')
 |eptr {cs cs':An}:cs.length=cs'.length→(∀j,VW h L (cs.getD j .unk) (cs'.getD j .unk))→VW h L (.eptr cs) (.eptr cs')
 |func {f:Nat} {cs cs':An}:cs.length=cs'.length→(∀j,VW h L (cs.getD j .unk) (cs'.getD j .unk))→VW h L (.func f cs) (.func f cs')
 |frz {l off:Nat} {cs cs':An}:obj? h l=.box cs'→some l∉L→cs.length+off≤cs'.length→(∀j,VW h L (cs.getD j .unk) (cs'.getD (off+j) .unk))→VW h L (.eptr cs) (.ptr l off)
inductive OW(h:A6)(L:List Bx):AObj→AObj→Prop where
 |dead (o:AObj):OW h L .dead o
 |box {cs cs':An}:cs.length=cs'.length→(∀j,VW h L (cs.getD j .unk) (cs'.getD j .unk))→OW h L (.box cs) (.box cs')
 |tip (n:Nat):OW h L (.tip n) (.tip n)
 |arr {z n:Nat} {es es0:List An}:gY (ou L h.length) es=es0.take n→OW h L (.arr z es) (.arr z es0)
 |same {o o':AObj}:dG o=false→eU (ou L h.length) o=o'→OW h L o o'
structure Weak(m:Nat)(t:An)(h:A6)(L:List Bx)(t':An)(h':A6):Prop where
 tlen:t'.length=t.length
 hlen:L.length=h'.length
 idm:∀i:Nat,i<m→L[i]? =some (some i)
 inj:∀i j l:Nat,L[i]? =some (some l)→L[j]? =some (some l)→live (obj? h' i)→live (obj? h' j)→i=j
 lt:∀i l:Nat,L[i]? =some (some l)→l<h.length
 slot:∀n,VW h L (t'.getD n .unk) (t.getD n .unk)
 obj:∀i l:Nat,L[i]? =some (some l)→OW h L (obj? h' i) (obj? h l)
 new:∀i:Nat,L[i]? =some none→dG (obj? h' i)=false
section
variable {C:Ctx}{κ:aS}{t:An}{h:A6}{a:Act}{w:World}{m:Nat}{L:List Bx}{t':An}{h':A6}
def Hg(κ:aS)(L:List Bx):aS:=L.map λo=>o.bind (at? κ)
def at?_kapW{i:Nat}(k:κ.length=h.length):at? (Hg κ L) i=at? κ (ou L h.length i):=by unfold Hg ou;simp only[at?,qAE];cases a:L[i]? with|none=>simp[qAC (show κ.length<=h.length by omega)]|some o=>cases o with|none=>simp[qAC (show κ.length<=h.length by omega)]|some l=>simp[at?]
def wH{i b:Nat}(h:at? (Hg κ L) i=some b):∃l,L[i]? =some (some l)/\at? κ l=some b:=by unfold Hg at h;simp only[at?,qAE]at h;cases a:L[i]? with|none=>rw[a]at h;cases h|some o=>cases o with|none=>rw[a]at h;cases h|some l=>rw[a]at h;exact⟨l,rfl,h⟩
def OW.live{o a:AObj}(w:OW h L o a)(l:live o):live a:=by cases w with|dead _=>exact l.elim|box _ _=>trivial|tip _=>trivial|arr _=>trivial|same _ e=>rw[<-e,jD];exact l
def OW.pv{o a:AObj}{n:Nat}(w:OW h L o a)(p:Aw o n):Aw a n:=by cases w with|dead _=>exact p.elim|box _ _=>trivial|tip _=>exact p|arr _=>trivial|same _ e=>rw[<-e,Im];exact p
def Weak.pv(hs:Sim C κ ⟨t,h⟩ a w)(c:Weak m t h L t' h'){b o:Nat}(p:aH C.ak (Hg κ L) h' b o):aH C.ak κ h b o:=by
 rcases p with p|⟨i,d,e⟩
 ·exact .inl p
 let⟨l,f,g⟩:=wH d;exact .inr ⟨l,g,(c.obj i l f).pv e⟩
def Weak.val(hs:Sim C κ ⟨t,h⟩ a w)(S:Weak m t h L t' h'){x y:AV}(hv:VW h L x y):∀{u:Value},Rel w κ (aH C.ak κ h) y u->Rel w (Hg κ L) (aH C.ak (Hg κ L) h') x u:=by
 have Y:∀i,at? (Hg κ L) i=at? κ (ou L h.length i):=λi=>at?_kapW hs.klen;have O:∀(x:AV) {u:Value},Rel w κ (aH C.ak κ h) (ren (ou L h.length) x) u->Rel w (Hg κ L) (aH C.ak (Hg κ L) h') x u:=λx u hx=>
  (hx.Ce Y _ rfl).mono (Evo.refl _ _) (dL.refl _) λb o p _=>S.pv hs p
 induction hv with
 |unk v=>intro u _;exact .unk u
 |same e=>intro u f;rw[<-e]at f;exact O _ f
 |share e=>intro u f;rw[<-e]at f;exact O (.slice _ .shared) f.share
 |nils j z=>
  intro u f;cases f with
  |slice b F sz y s A G T U g5 g6 Z=>
   exact .slice (es:=[]) (tag:=.tip j z) b F z y (λi q=>by cases q) (λhne=>(hne rfl).elim) G T (λi j q=>by cases q) (λi j q=>by cases q) (λi j q=>by cases q) ⟨rfl,.inl Z⟩
 |nilF=>intro u f;cases f;exact .flnil
 |@frzF l cs B r v K W H _ _ ih1 ih2=>
  intro u f;let⟨b,e,P⟩:=f.sD;subst e;let⟨c,el,s,A,G,U⟩:=hs.box P K;have D:(B++[v]).length=cs.length+1:=by simp[H]
  have d:live (obj? h l):=by rw[K];trivial
  refine .flcons (λj=>c.getD j undef) (c.getD cs.length undef) (λj g p=>?_) (λj g=>by rw[qAL];exact G j Cl) (by rw[qAL];exact G _ Cl) (λj g=>ih1 j g ?_) (ih2 ?_)
  ·rcases p with p|⟨i,Q,I⟩
   ·exact hs.own l b P d (hs.pvold _ _ p)
   let⟨M,k,E⟩:=wH Q;have:=hs.apart l M b P E d (PW ((S.obj i M k).pv I));subst this;exact W (qAF k)
  ·have:=U j Cl;have e2:(B++[v]).getD j .unk=B.getD j .unk:=by simp[List.getD,qAg (show j<B.length by omega)]
   rw[e2]at this;exact this
  grind
 |nilP j z=>
  intro u f;cases f with
  |slice b F sz y s A G T U g5 g6 Z=>
   exact .psl (qAZ _) Cl ⟨rfl,.inl Z⟩
 |@adC l z n V X K W hle he=>
  intro u f;cases f with
  |@psl _ _ _ cap ad s A G=>
   have D:V.length=n:=by
    have:=congrArg List.length he;rw[kL,qAz]at this;omega
   have N:∀i,i<n->eT (ou L h.length) (V.getD i [])=X.getD i []:=λi q=>by
    rw[<-qW,he];simp only[List.getD,qBq,if_pos q]
   let⟨_,ht⟩:=G;rcases ht with⟨rfl,rfl⟩|⟨b,c,e,t1,rfl,t3,t4⟩
   ·have:V=[]:=qAD.1 Cl;subst this;have hn0:n=0:=by simpa using D.symm
    subst hn0;exact .slice (es:=[]) 0 0 z (λ_ _=>undef) (λi h=>by cases h) (λh=>(h rfl).elim) (qAZ _) cn (λi j h=>by cases h) (λi j h=>by cases h) (λi j h=>by cases h) trivial
   have d:live (obj? h l):=by rw[K];trivial
   have R:=hs.obj l b t1 d;change qX w κ (aH C.ak κ h) b (obj? h l)at R;rw[K]at R;let⟨c0,e0,q1,q2,q3,q4⟩:=R;rw[t3]at q1;cases q1;rw[<-D]at s A|-;refine .slice b 0 z (λi j=>c.getD (i*z+j) undef) ?_ (λ_=>rfl) s Cl ?_ ?_ ?_ trivial
   ·intro i q;have h5:=N i Cl;have h6:=q3 i Cl;rw[<-h5,jC]at h6;exact h6
   ·rintro i j q g (p|⟨i',Q,I⟩)
    ·exact hs.own l b t1 d (hs.pvold _ _ p)
    let⟨M,k,E⟩:=wH Q;have:=hs.apart l M b t1 E d (PW ((S.obj i' M k).pv I));subst this;exact W (qAF k)
   ·intro i j q g;have I:i*z+j<c.size:=qAB (uT (show i<X.length by omega) g) q2;simp[World.cell?,t3,Array.getD,I]
   intro i j q g;have h5:=N i Cl;refine O _ ?_;rw[<-jv,h5];exact q4 i j Cl g
 |agg H _ J=>
  intro u f;let⟨vs,e,s,A⟩:=f.avH;subst e;exact .agg (s.trans H.symm) λj g=>J j (A j Cl)
 |tup H _ J=>
  intro u f;let⟨vs,e,s,A⟩:=f.alB;subst e;exact .tup (s.trans H.symm) λj g=>J j (A j Cl)
 |eptr H _ J=>
  intro u f;cases f with
  |eptr y Q I h3=>exact .eptr y (λj g p=>Q j Cl (S.pv hs p)) (λj g=>I j Cl) λj g=>J j (h3 j Cl)
 |func H _ J=>
  intro u f;let⟨vs,e,s,A⟩:=f.LD;subst e;exact .func (s.trans H.symm) λj g=>J j (A j Cl)
 |@frz l F cs B K W H _ J=>
  intro u f;let⟨b,e,P⟩:=f.sD;subst e;let⟨c,el,s,A,G,U⟩:=hs.box P K;refine .eptr (λj=>c.getD (F+j) undef) (λj g p=>?_) (λj g=>G _ Cl) λj g=>J j (U _ Cl);have d:live (obj? h l):=by rw[K];trivial
  rcases p with p|⟨i,Q,I⟩
  ·exact hs.own l b P d (hs.pvold _ _ p)
  let⟨M,k,E⟩:=wH Q;have:=hs.apart l M b P E d (PW ((S.obj i M k).pv I));subst this;exact W (qAF k)
def Weak.sim(U:C.k0.length<=m)(hs:Sim C κ ⟨t,h⟩ a w)(d:Weak m t h L t' h'):Sim C (Hg κ L) ⟨t',h'⟩ a w:=by
 have k:∀i,at? (Hg κ L) i=at? κ (ou L h.length i):=λi=>at?_kapW hs.klen;refine⟨hs.defers,hs.len.trans d.tlen.symm,?_,by simp[Hg,d.hlen],?_,?_,?_,?_,?_,?_,hs.pvold,hs.oldlt,hs.old,hs.os,hs.tape,hs.output,hs.size,λb o D u=>hs.pvsub b o (d.pv hs D) u,hs.ny⟩
 ·intro n Q;exact d.val hs (d.slot n) (hs.slot n (by rw[<-d.tlen];exact Q))
 ·intro l b f;have u:=lt_of_at? f;have:=d.idm l Cl;rw[k];simp only[ou,this,qAw];exact hs.kext l b f
 ·intro i q;cases g:L[i]? with
  |none=>rw[k];simp only[ou,g,qDl];exact at?_none_of_le (by rw[hs.klen];exact qAd _)
  |some o=>cases o with
   |none=>rw[k];simp only[ou,g,qDl,qAw];exact at?_none_of_le (by rw[hs.klen];exact qAd _)
   |some l=>
    exfalso;have:=d.obj i l g;change obj? h' i=.res at q;rw[q]at this;cases this with
    |same r _=>cases r
 ·intro i b f E;let⟨l,g,s⟩:=wH f;have K:=d.obj i l g;have v:=hs.obj l b s (K.live E);change qX w (Hg κ L) (aH C.ak (Hg κ L) h') b (obj? h' i);change live (obj? h' i)at E;generalize V:obj? h' i=o at *;generalize R:obj? h l=W at *;cases K with
  |dead _=>exact E.elim
  |box e S=>
   let⟨c,F,G,H,I⟩:=v;exact⟨c,F,G,H.trans e.symm,λj T=>d.val hs (S j) (I j Cl)⟩
  |tip n=>
   exact v
  |@arr z n B x e=>
   let⟨c,F,G,H,I,X⟩:=v;have y:B.length<=x.length/\B.length<=n:=by
    have:=congrArg List.length e;rw[kL,qAz]at this;omega
   have p:∀i,i<B.length->eT (ou L h.length) (B.getD i [])=x.getD i []:=λi q=>by
    rw[<-qW,e]
    grind
   refine⟨c,F,G,qAs (qAQ _ y.1) H,λi q=>?_,λi j q T=>?_⟩
   ·have M:=I i Cl;rw[<-p i q,jC]at M;exact M
   refine d.val hs (.same rfl) ?_;rw[<-jv,p i q]
   grind
  |same _ e=>
   rw[<-e]at v;exact(v.Ce k).mono rfl (Evo.refl _ _) (dL.refl _) λb o D _=>d.pv hs D
 ·intro i j b r J N O;let⟨l,g,f⟩:=wH r;let⟨P,A,s⟩:=wH J;have:=hs.apart l P b f s ((d.obj i l g).live N) ((d.obj j P A).live O);subst this;exact d.inj i j l g A N O
 ·intro i b r J;let⟨l,g,f⟩:=wH r;exact hs.own l b f ((d.obj i l g).live J)
 intro i b r;let⟨l,_,f⟩:=wH r;exact hs.bound l b f
end
def Le(m:Nat)(t:An)(h:A6)(t':An)(c:A6):Prop:=
 ∀(C:Ctx) (d:aS) (a:Act) (w:World),C.k0.length<=m->Sim C d ⟨t,h⟩ a w->∃b,Sim C b ⟨t',c⟩ a w
def Le.of{m:Nat}{t t':An}{h a:A6}(L:List Bx)(w:Weak m t h L t' a):Le m t h t' a:=λ_ _ _ _ k s=>⟨_,w.sim k s⟩
def Le.trans{m:Nat}{t t' b:An}{h e c:A6}(f:Le m t h t' e)(h2:Le m t' e b c):Le m t h b c:=λC g a w k i=>by let⟨d,s⟩:=f C g a w k i;exact h2 C d a w k s
def AW.le{P:Program}{m:Nat}{c:Code}{Q:QT}{t t':An}{h d:A6}(l:Le m t h t' d)(e:AW P m c Q t' d):AW P m c Q t h:=λC f a w k g=>by let⟨b,s⟩:=l C f a w k g;exact e C b a w k s
def VK:Nat->List (Nat×Operand)->Bool|_,[]=>true|i,p::s=>Nat.beq p.1 i&&VK (i+1) s
def afL{sz:Nat}:∀{css:List An},(∀c∈css,c.length=sz)->css.flatten.length=css.length*sz
 |[],_=>by simp
 |c::css,h=>by
  simp only[qCi,qAe];rw[h c cn,afL (λc a=>h c (by simp[a]))]
  grind
def afe{ρ:Operand->AV}{sz:Nat}:∀(ps:List (Nat×Operand)) (i:Nat) (css:List An) (e:An),VK i ps=true->css.length=ps.length->(∀c∈css,c.length=sz)->(∀j:Nat,j<ps.length->∃p,ps[j]? =some p/\eO (ρ p.2)=css[j]?)->(i+ps.length)*sz<=e.length->
  lH (λi=>some (i*sz,sz)) e (ps.map λp=>(p.1,ρ p.2))=some (e.take (i*sz)++css.flatten++e.drop ((i+ps.length)*sz)):=by
 intro ps
 induction ps with|nil=>intro i css e _ a _ _ _;have:css=[]:=qAD.1 a;subst this;simp[lH]|cons p ps r=>
  intro i css e b a z n l;simp only[VK,qAa]at b;let⟨g,k⟩:=b;have s:p.1=i:=qAj g;cases css with|nil=>simp at a|cons c css=>
   let⟨q,d,f⟩:=n 0 cn;simp only[qAG,Option.some.injEq]at d f;subst d;have h:c.length=sz:=z c cn;simp only[qAp]at l a;have o:(i+(ps.length+1))*sz=i*sz+(ps.length*sz+sz):=by rw[qAU,qAU,qCf]
   rw[o]at l;simp only[qAy,lH,s,f];rw[if_pos ⟨h,by omega⟩];rw[r (i+1) css _ k Cl (λc b=>z c (by simp[b])) (λj t=>by let⟨q,d,f⟩:=n (j+1) (by simpa using t);exact⟨q,by simpa using d,by simpa using f⟩) (by simp only[qAe,qAz,qCC,h];rw[show(i+1+ps.length)*sz=i*sz+sz+ps.length*sz by rw[qAU,qAU,qCf]];omega)]
   congr 1;have u:(e.take (i*sz)++c++e.drop (i*sz+sz)).take ((i+1)*sz)=e.take (i*sz)++c:=by rw[List.take_append_of_le_length (by simp[h];rw[qAU];omega)];apply qCg;simp[h];rw[qAU];omega
   have v:(e.take (i*sz)++c++e.drop (i*sz+sz)).drop ((i+1+ps.length)*sz)=e.drop ((i+(ps.length+1))*sz):=by
    have m:(e.take (i*sz)++c).length=i*sz+sz:=by simp[h];omega
    rw[show(i+1+ps.length)*sz=(e.take (i*sz)++c).length+ps.length*sz by rw[m,qAU,qAU,qCf]];rw[<-List.drop_drop,qCU,List.drop_drop,o];congr 1;omega
   rw[u];simp only[qAp];rw[v];simp[qAm]
def chunks_flatten{sz:Nat}:∀{css:List An},(∀c∈css,c.length=sz)->chunks sz css.length css.flatten=css|[],_=>rfl|c::css,h=>by have a:c.length=sz:=h c cn;simp only[qAp,chunks,qCi];rw[List.take_left' a,qDs a,chunks_flatten (λc a=>h c (by simp[a]))]
def alC{P:Program}{e:Nat}{k:IntKind}(h:(TI.of P e).int=some k):P.underlying e=some (.int k):=by
 have:intTy P e=some k:=h;unfold intTy at this
 grind
def ob{α β:Type}{x:Option α}{k:α->Option β}{r:β}(h:x.bind k=some r):∃a,x=some a/\k a=some r:=by cases x with|none=>cases h|some a=>exact⟨a,rfl,h⟩
inductive LR(σ ρ:Type) where
 |nx (s:σ)
 |rt (r:ρ)
def LR.on{σ ρ:Type}(k:σ->Option ρ):LR σ ρ->Option ρ| .nx s=>k s| .rt r=>some r
@[reducible] def LR.el{σ ρ β:Type}(k:σ->β)(j:ρ->β):LR σ ρ->β| .nx s=>k s| .rt r=>j r
def idx{α:Type}(l:List α)(i:Int):Option α:=if 0<=i then l[i.toNat]? else none
def app{α:Type}(b:Nat)(l ys:List α):Option (List α):=if(l.length+ys.length)*b<=140737488355328/\l.length+ys.length<=140737488355328 then some (l++ys)else none
def oL(s:By)(i:Int):B0:=if 0<=i/\i<s.length then some ((s.getD i.toNat 0).toNat:Int)else none
def awL(a b:By):Option By:=if a.length+b.length<=9223372036854775807 then some (a++b)else none
def kQ{α:Type}(s:List α)(lo hi:Int):Option (List α):=if 0<=lo/\lo<=hi/\hi<=s.length then some ((s.drop lo.toNat).take (hi.toNat - lo.toNat))else none
def ayI{n:Int}(h: -9223372036854775808<=n)(h2:n<=9223372036854775807):n=IntKind.wrap .i64 n:=by simp only[IntKind.wrap,IntKind.signed,IntKind.bits];simp;omega
inductive Bd:Cd→Int→Int→Prop where
 |none (d:Int):Bd none d d
 |int (k:IntKind) (n d:Int):Bd (some (.int k n)) n d
def aIs{s x:By}{lo hi:Cd}{a b:Int}{B:By->Prop}(c:kQ s a b=some x)(d:Bd lo a 0)(e:Bd hi b s.length)(f:B x):∃r,(∃l h,eX hi s.length s.length=some h/\eX lo 0 h=some l/\r=(s.drop l).take (h - l))/\B r:=by
 unfold kQ at c;split at c
 ·rename_i g;cases c;refine⟨_,⟨a.toNat,b.toNat,?_,?_,rfl⟩,f⟩
  ·cases e with
   |none=>simp[eX]
   |int k n=>simp[eX];omega
  cases d with
  |none=>simp[eX]
  |int k n=>simp[eX];omega
 cases c
def aJN{α:Type}{l x:List α}{f:α->An}{sz:Nat}{lo hi:Cd}{a b:Int}{B:List An->Prop}(c:kQ l a b=some x)(d:Bd lo a 0)(e:Bd hi b l.length)(g:∀x,dH sz (f x)=true)(j:B (x.map f)):
  ∃r,(∃i h,eX hi (l.map f).length (l.map f).length=some h/\eX lo 0 h=some i/\(i<(l.map f).length->((l.map f).getD i []).length=sz)/\r=((l.map f).drop i).take (h - i))/\B r:=by
 unfold kQ at c;split at c
 ·rename_i m;cases c;refine⟨_,⟨a.toNat,b.toNat,?_,?_,?_,?_⟩,j⟩
  ·cases e with
   |none=>simp[eX]
   |int k n=>simp[eX];omega
  ·cases d with
   |none=>simp[eX]
   |int k n=>simp[eX];omega
  ·intro hi;rw[qAi]at hi;have:=g l[a.toNat];simp only[dH]at this
   grind
  simp_all
 cases c
def Qq{α:Type}{l ys r:List α}{b:Nat}(h:app b l ys=some r):(l.length+ys.length)*b<=140737488355328/\l.length+ys.length<=140737488355328/\r=l++ys:=by
 unfold app at h
 grind
def F7{α:Type}{f:α->An}{sz:Nat}(h:∀x,dH sz (f x)=true)(l:List α):(l.map f).all (dH sz)=true:=by grind
abbrev u2(l:An):An:=.unk:: .unk::l
abbrev u4(l:An):An:=u2 (u2 l)
abbrev u8(l:An):An:=u4 (u4 l)
abbrev u16(l:An):An:=u8 (u8 l)
abbrev u32(l:An):An:=u16 (u16 l)
abbrev u64(l:An):An:=u32 (u32 l)
section
variable {h:A6}{L:List Bx}{xs ys:An}
end
structure Carrier where
 name:Str
 elems:Bk
abbrev A7:=List Carrier
structure Decl where
 name:Str
 ty:Ty
abbrev A4:=List Decl
structure Env where
 carriers:A7
 names:A4
def encI(n:Int):An:=[.int .i64 n]
def encS(s:Str):An:=[.str s]
def MZ(n:Int):An:=[.int .u8 n]
def kU(x:Carrier):An:=[.str x.name,.slice (x.elems.map encS) .shared]
def ji(x:Decl):An:=[.str x.name,.int .i64 x.ty.kind,.str x.ty.name,.slice (x.ty.kids.map oK) .shared]
def Qs{α:Type}{f:α->An}(h:∀g x,eT g (f x)=f x)(g:Nat->Nat)(l:List α):gY g (l.map f)=l.map f:=by rw[Us,qBh];exact qBu λx _=>h g x
def ay0(g:Nat->Nat)(l:Bk):gY g (l.map encS)=l.map encS:=Qs (λ_ _=>rfl) g l
def avd(g:Nat->Nat)(l:A3):gY g (l.map oK)=l.map oK:=aFu g l
def aEP(g:Nat->Nat)(l:Bi):gY g (l.map lY)=l.map lY:=aEE g l
def asr(g:Nat->Nat)(l:A7):gY g (l.map kU)=l.map kU:=Qs (λg x=>by simp only[kU,eT,ren,xu,ay0]) g l
def azE(g:Nat->Nat)(l:A4):gY g (l.map ji)=l.map ji:=Qs (λg x=>by simp only[ji,eT,ren,xu,avd]) g l
def aql(g:Nat->Nat)(x:Carrier):eT g (kU x)=kU x:=by simp only[kU,eT,ren,xu,ay0]
def azP(g:Nat->Nat)(x:Decl):eT g (ji x)=ji x:=by simp only[ji,eT,ren,xu,avd]
def dn{α:Type}(m:List (Str×α))(k:Str):Option α:=(m.find? λp=>p.1==k).map (·.2)
def lJ{α:Type}(m:List (Str×α))(k:Str)(v:α):List (Str×α):=
 match m with|[]=>[(k,v)]|p::r=>if p.1==k then(k,v)::r else p::lJ r k v
def yG{α:Type}(m:List (Str×α))(k:Str)(v:α):Option (List (Str×α)):=if m.length<140737488355328 then some (lJ m k v)else none
@[reducible] def mel{α β:Type}(o:Option α)(Y:β)(X:α->β):β:=match o with|some v=>X v|none=>Y
def ahs{α:Type}(f:α->AV):∀(m:List (Str×α)) (k:Str),tN (m.map λp=>(p.1,f p.2)) k=(dn m k).map f
 |[],k=>rfl
 |p::m,k=>by
  have i:=ahs f m k;unfold tN dn at *;simp only[qAy,qCd];cases h:(p.1==k)
  ·exact i
  rfl
def alk{α:Type}(f:α->AV):∀(m:List (Str×α)) (k:Str) (v:α),I9 (m.map λp=>(p.1,f p.2)) k (f v)=(lJ m k v).map λp=>(p.1,f p.2)
 |[],k,v=>rfl
 |p::m,k,v=>by
  simp only[qAy,I9,lJ];split
  ·rfl
  rw[alk f m k v];rfl
def unc{α:Type}:List α->Option (α×List α)|[]=>none|x::r=>some (x,r)
def aDg(g:Nat->Nat)(xs ys:An):eT g (xs++ys)=eT g xs++eT g ys:=by simp only[vE,qBj]
def upd{α:Type}(l:List α)(i:Int)(v:α):List α:=l.set i.toNat v
def Nb{α:Type}{l:List α}{n:Int}{x:α}(h:idx l n=some x):0<=n/\n<(l.length:Int)/\l[n.toNat]? =some x:=by
 unfold idx at h;split at h;·rename_i a;have:=(qAH.1 h).1;exact⟨a,by omega,h⟩
 cases h
inductive Val where
 |mk (kind:Int) (n:Int) (name:Str) (kids:List Val)
abbrev Cf:=Option Val
abbrev Af:=List Val
def Val.kind:Val->Int| .mk k _ _ _=>k
def Val.n:Val->Int| .mk _ n _ _=>n
def Val.name:Val->Str| .mk _ _ s _=>s
def Val.kids:Val->Af| .mk _ _ _ k=>k
mutual
def bf:Val→An
 | .mk k n s ks=>[.int .i64 k,.int .i64 n,.str s,.slice (IL ks) .shared]
def IL:Af→List An
 |[]=>[]
 |t::ts=>bf t::IL ts
end
def Mc:∀s,IL s=s.map bf|[]=>rfl|t::s=>by simp[IL,Mc s]
def iC(t:Val):bf t=[.int .i64 t.kind,.int .i64 t.n,.str t.name,.slice (t.kids.map bf) .shared]:=by cases t;simp[bf,Mc,Val.kind,Val.n,Val.name,Val.kids]
mutual
theorem PX(g:Nat→Nat):∀t,eT g (bf t)=bf t
 | .mk k n s ks=>by simp only[bf,eT,ren,xu,Vb g ks]
theorem Vb(g:Nat→Nat):∀ts,gY g (IL ts)=IL ts
 |[]=>rfl
 |t::ts=>by simp only[IL,gY,PX g t,Vb g ts]
end
def apW(g:Nat->Nat)(t:Af):gY g (t.map bf)=t.map bf:=by rw[<-Mc];exact Vb g t
structure Bound where
 name:Str
 v:Val
abbrev At:=List Bound
inductive ET where
 |i|u|s|b|car|dec|ty|tm|env|val|bnd|vals|tms
abbrev B8:=Option ET
@[reducible] def ET.D:ET->Type| .i=>Int| .u=>Int| .s=>Str| .b=>Bool| .car=>Carrier| .dec=>Decl| .ty=>Ty| .tm=>Tm| .env=>Env| .val=>Val| .bnd=>Bound| .vals=>Af| .tms=>Bi
def ET.no:ET->Nat| .i=>0| .u=>1| .s=>2| .b=>3| .car=>4| .dec=>5| .ty=>6| .tm=>7| .env=>8| .val=>9| .bnd=>10| .vals=>11| .tms=>12
def ET.inj:∀x y:ET,x.no=y.no->x=y:=by intro x y h;cases x<;>cases y<;>first|rfl|cases h
def ET.eq?(x y:ET):Option (PLift (x=y)):=if h:x.no=y.no then some ⟨ET.inj x y h⟩else none
def ET.eq_self(a:ET):ET.eq? a a=some ⟨rfl⟩:=by unfold ET.eq?;rw[dif_pos rfl]
inductive LT where
 |n (k:IntKind)|b|s|l (e:ET)|t (e:ET)|m (e:ET)|f (e:ET)
@[reducible] def LT.D:LT->Type| .n _=>Int| .b=>Bool| .s=>Str| .l e=>List e.D| .t e=>e.D| .m e=>List (Str×e.D)| .f e=>List e.D
def IntKind.no:IntKind->Nat| .i8=>0| .i16=>1| .i32=>2| .i64=>3| .u8=>4| .u16=>5| .u32=>6| .u64=>7
def LT.no:LT->Nat| .n k=>8*IntKind.no k| .b=>1| .s=>2| .l e=>8*e.no+3| .t e=>8*e.no+4| .m e=>8*e.no+5| .f e=>8*e.no+6
def LT.inj(x y:LT)(h:x.no=y.no):x=y:=by
 cases x<;>cases y<;>simp only[LT.no]at h<;>first
  |rfl
  |(exfalso;omega)
  |(rename_i x y;have:x.no=y.no:=Cl;rw[ET.inj x y this])
  |(rename_i x y;cases x<;>cases y<;>simp only[IntKind.no]at h<;>first|rfl|omega)
  |omega
def LT.eq?(x y:LT):Option (PLift (x=y)):=if h:x.no=y.no then some ⟨LT.inj x y h⟩else none
def jI:List LT->Type|[]=>Unit|[t]=>t.D|t::u::s=>t.D×jI (u::s)
structure U where
 t:LT
 x:t.D
abbrev Bm:=List U
def fF:(s:List LT)->jI s->Bm|[],_=>[]|[t],x=>[⟨t,x⟩]|t::u::s,x=>⟨t,x.1⟩::fF (u::s) x.2
def kZ{a:Type}(t:LT)(u:U)(K:t.D->Option a):Option a:=match LT.eq? u.t t with|some ⟨h⟩=>K (h▸u.x)|none=>none
def AJ{b:Type}:(a:List LT)->Bm->(jI a->Option b)->Option b
 |[],s,K=>match s with|[]=>K ()|_=>none
 |[t],s,K=>match s with|[u]=>kZ t u K|_=>none
 |t::c::a,s,K=>match s with|u::s=>kZ t u λx=>AJ (c::a) s λy=>K (x,y)|[]=>none
def ET.cs:ET->List LT
 | .i=>[.n .i64]| .u=>[.n .u8]| .s=>[.s]| .b=>[.b]
 | .car=>[.s,.l .s]| .dec=>[.s,.t .ty]| .ty=>[.n .i64,.s,.l .ty]| .tm=>[.n .i64,.s,.n .i64,.t .ty,.l .tm]
 | .env=>[.l .car,.l .dec]| .val=>[.n .i64,.n .i64,.s,.l .val]| .bnd=>[.s,.t .val]| .vals=>[.l .val]| .tms=>[.l .tm]
def ET.un:(e:ET)->e.D->jI e.cs
 | .i,x=>x| .u,x=>x| .s,x=>x| .b,x=>x
 | .car,x=>(x.name,x.elems)| .dec,x=>(x.name,x.ty)| .ty,x=>(x.kind,x.name,x.kids)| .tm,x=>(x.op,x.name,x.n,x.ty,x.kids)
 | .env,x=>(x.carriers,x.names)| .val,x=>(x.kind,x.n,x.name,x.kids)| .bnd,x=>(x.name,x.v)| .vals,x=>x| .tms,x=>x
def ET.mk:(e:ET)->jI e.cs->e.D
 | .i,x=>x| .u,x=>x| .s,x=>x| .b,x=>x
 | .car,x=>⟨x.1,x.2⟩| .dec,x=>⟨x.1,x.2⟩| .ty,x=>.mk x.1 x.2.1 x.2.2| .tm,x=>.mk x.1 x.2.1 x.2.2.1 x.2.2.2.1 x.2.2.2.2
 | .env,x=>⟨x.1,x.2⟩| .val,x=>.mk x.1 x.2.1 x.2.2.1 x.2.2.2| .bnd,x=>⟨x.1,x.2⟩| .vals,x=>x| .tms,x=>x
def ET.sc:ET->Bool| .i=>true| .u=>true| .s=>true| .b=>true| .vals=>true| .tms=>true|_=>false
def ET.sz:ET->Nat| .i=>1| .u=>1| .s=>1| .b=>1| .car=>2| .dec=>4| .ty=>3| .tm=>7| .env=>2| .val=>4| .bnd=>5| .vals=>1| .tms=>1
def ET.enc:(e:ET)->e.D->An
 | .i=>encI| .u=>MZ| .s=>encS| .b=>λx=>[.bool x]| .car=>kU| .dec=>ji| .ty=>oK| .tm=>lY
 | .env=>λx=>[.slice (x.carriers.map kU) .shared,.slice (x.names.map ji) .shared]| .val=>bf
 | .bnd=>λx=>.str x.name::bf x.v| .vals=>λx=>[.slice (x.map bf) .shared]| .tms=>λx=>[.slice (x.map lY) .shared]
inductive TV where
 |unk|nilp|nilF|nils
 |lf (t:LT) (x:t.D)
 |nat (n:Nat)
 |ptr (l off:Nat)
 |eptr (cs:List TV)
 |agg (cs:List TV)
 |tup (cs:List TV)
 |func (f:Nat) (cs:List TV)
 |mapr (l:Nat)
 |own (l:Nat)
 |psl (l z:Nat) (c:Bx)
 |ap (l:Nat) (i:Int) (z off:Nat)
abbrev As:=List TV
inductive TObj where
 |box (cs:As)
 |own (e:ET) (xs:List e.D)
 |gone (e:ET) (xs:List e.D)
 |mp (e:ET) (xs:List (Str×e.D))
 |arr (e:ET) (xs:List e.D)
 |gon (n:Nat)
 |dead
 |res
abbrev A0:=List TObj
noncomputable def nth{α:Type}(d:α)(l:List α):Nat->α:=List.rec (motive:=λ_=>Nat->α) (λ_=>d) (λx _ i n=>Nat.rec (motive:=λ_=>α) x (λm _=>i m) n) l
def jF{α:Type}(d:α):∀(l:List α) (n:Nat),nth d l n=l.getD n d|[],_=>rfl|_::_,0=>rfl|_::x,n+1=>(jF d x n).trans (by simp[List.getD])
def kr:(t:LT)->t.D->AV| .n k,x=>.int k x| .b,x=>.bool x| .s,x=>.str x| .l e,x=>.slice (List.map e.enc x) .shared| .t e,x=>.agg (e.enc x)| .m _,_=>.unk| .f e,x=>.flist (List.map e.enc x)
def gD(l:Nat):TObj->AV| .own e x=>.slice (x.map e.enc) (.tip l e.sz)| .gone e x=>.slice (x.map e.enc) (.tip l e.sz)|_=>.unk
def eY(l z:Nat):TObj->AV| .arr _ x=>.psl l z x.length| .gon n=>.psl l z n|_=>.unk
def AB(v:TV)(a:AV):An:=match v with| .lf (.t e) x=>e.enc x|_=>[a]
mutual
noncomputable def av(H:A0):TV→AV
 | .unk=>.unk
 | .nilp=>.nilp
 | .nilF=>.nilFunc
 | .nils=>.slice [] .nils
 | .lf t x=>kr t x
 | .nat n=>.int .i64 n
 | .ptr l o=>.ptr l o
 | .eptr cs=>.eptr (bq H cs)
 | .agg cs=>.agg (bq H cs)
 | .tup cs=>.tup (aU H cs)
 | .func f cs=>.func f (aU H cs)
 | .mapr l=>.mapr l
 | .own l=>gD l (nth .dead H l)
 | .psl l z c=>match c with
  |none=>eY l z (nth .dead H l)
  |some n=>.psl l z n
 | .ap l i z off=>.ptr l (i.toNat*z+off)
noncomputable def bq(H:A0):As→An
 |[]=>[]
 |v::vs=>AB v (av H v)++bq H vs
noncomputable def aU(H:A0):As→An
 |[]=>[]
 |v::vs=>av H v::aU H vs
end
def ET.one(e:ET)(x:e.D):AV:=match e.sc,e.enc x with|true,[v]=>v|_,c=>.agg c
noncomputable def gV(H:A0):TObj->AObj| .box c=>.box (bq H c)| .own e x=>.tip (x.length*e.sz)| .gone _ _=>.dead| .mp e x=>.mp (x.map λp=>(p.1,e.one p.2))| .arr e x=>.arr e.sz (x.map e.enc)| .gon _=>.dead| .dead=>.dead| .res=>.res
def Vr(a c:Int):B0:=if c=0 then none else some (a.tmod c)
def adw(a c:Int):B0:=if 0<=c/\c<=62 then some (IntKind.wrap .i64 (a*2^c.toNat))else none
end Abs
end Go.Proofs.YtneeginmfjageaaGreat
