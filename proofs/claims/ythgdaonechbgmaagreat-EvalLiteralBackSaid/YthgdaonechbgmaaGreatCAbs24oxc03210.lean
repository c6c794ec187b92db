/-
  Regions that draw their order: the theorem ('AWP.drawn'). Conditions: none; lemmas over any program.
-/
import Derived.Test.YthgdaonechbgmaaGreatCAbs17ox862814
set_option linter.all false
namespace Go.Proofs.YthgdaonechbgmaaGreat
namespace Abs
section
open Go
structure Agree(t s:ASt)(e:Eff):Prop where
 tl:t.tmps.length=s.tmps.length
 hl:t.heap.length=s.heap.length
 rs:∀n∈e.rs,t.tmps.getD n .unk=s.tmps.getD n .unk
 ro:∀l∈e.ro,obj? t.heap l=obj? s.heap l
def Jq(P:Program)(ops:Array Oper)(o:Oper)(s:ASt)(e:Eff):Prop:=∀t,Agree t s e→aDR P ops o t (t.wr e.ws)
inductive ATr(P:Program)(ops:Array Oper):List Oper→List Eff→ASt→ASt→Prop where
 |nil (s:ASt):ATr P ops [] [] s s
 |cons {o:Oper} {l:List Oper} {e:Eff} {es:List Eff} {s s':ASt}:Jq P ops o s e→ATr P ops l es (s.wr e.ws) s'→ATr P ops (o::l) (e::es) s s'
theorem ATr.steps{P:Program}{ops:Array Oper}{l:List Oper}{es:List Eff}{s s':ASt}(h:ATr P ops l es s s'):ASteps P ops l s s':=by
 induction h with
 |nil s=>exact .nil s
 |cons he _ ih=>exact .cons (he _ ⟨rfl,rfl,fun _ _=>rfl,fun _ _=>rfl⟩) ih
def qG(o:Oper):List Nat:=(o.after.toList.filter (Region.binds .any)).map (·.on)
def FD:List Oper→List (List Nat)→List (List Nat)
 |[],acc=>acc
 |o::l,acc=>FD l (acc++[qG o++(qG o).flatMap fun p=>acc.getD p []])
def gP(e f:Eff):Bool:=
 (jA e.ws).any (fun n=>f.rs.contains n ||(jA f.ws).contains n) ||(jA f.ws).any (fun n=>e.rs.contains n) ||
 (jS e.ws).any (fun n=>f.ro.contains n ||(jS f.ws).contains n) ||(jS f.ws).any (fun n=>e.ro.contains n)
def wT:Eff:=⟨[],[],[]⟩
def ng(l:List Oper)(es:List Eff):Bool:=
 (List.range l.length).all fun j=>(qG (l.getD j default)).all (fun p=>decide (p<j))&&(List.range j).all fun i=>!(gP (es.getD i wT) (es.getD j wT)) ||((FD l []).getD j []).contains i
theorem Ny{D:Nat→Prop}:∀(l:List Oper) (acc:List (List Nat)),(∀j i,D j→i∈acc.getD j []→D i)→(∀j o,l[j]? =some o→D (acc.length+j)→∀p∈qG o,D p)→∀j i,D j→i∈(FD l acc).getD j []→D i:=by
 intro l
 induction l with
 |nil=>intro acc h _ j i hj hi;exact h j i hj hi
 |cons o l ih=>
  intro acc h hc j i hj hi;simp only[FD]at hi;refine ih _ ?_ ?_ j i hj hi
  ·intro j i hj hi;by_cases hlt:j<acc.length
   ·rw[List.getD,qAg hlt]at hi;exact h j i hj hi
   ·by_cases he:j=acc.length
    ·subst he;rw[List.getD,qAl (qAd _)]at hi;simp only[qEj,qAG,qAw,qAr,qBx]at hi;have hp:=hc 0 o (by simp) hj
     grind
    grind
  ·intro j o' hj' hD p hp;refine hc (j+1) o' (by simpa using hj') ?_ p hp
   grind
theorem ATr.spec{P:Program}{ops:Array Oper}{l:List Oper}{es:List Eff}{s s':ASt}(h:ATr P ops l es s s'):l.length=es.length∧s'=s.wr (bP (fun _=>true) 0 es)∧
  ∀i o e,l[i]? =some o→es[i]? =some e→Jq P ops o (s.wr (bP (fun j=>decide (j<i)) 0 es)) e:=by
 have hz:∀(es:List Eff) (k:Nat),bP (fun _=>false) k es=[]:=fun es=>by
  induction es with
  |nil=>intro k;rfl
  |cons e es ih=>intro k;simp[bP,ih]
 have hcongr:∀(D D':Nat→Bool) (es:List Eff) (k k':Nat),(∀i,D (k+i)=D' (k'+i))→bP D k es=bP D' k' es:=fun D D' es=>by
  induction es with
  |nil=>intro k k' _;rfl
  |cons e es ih=>
   intro k k' h;simp only[bP];have h0:=h 0;rw[qAS,qAS]at h0;rw[h0,ih (k+1) (k'+1) (fun i=>by have:=h (i+1);rwa[show k+(i+1)=k+1+i from by omega,show k'+(i+1)=k'+1+i from by omega]at this)]
 induction h with
 |nil s=>exact⟨rfl,rfl,fun i o e h=>by simp at h⟩
 |@cons o l e es s s' he _ ih=>
  obtain⟨h1,h2,h3⟩:=ih;refine⟨by simp[h1],?_,fun i o' e' hi hi'=>?_⟩
  ·rw[h2];simp only[bP,IZ]
   grind
  ·cases i with
   |zero=>
    simp at hi hi';subst hi hi';have:bP (fun j=>decide (j<0)) 0 (e::es)=[]:=by
     simp_all
    rw[this];exact he
   |succ i=>
    have:=h3 i o' e' (by simpa using hi) (by simpa using hi');have hf:bP (fun j=>decide (j<i+1)) 0 (e::es)=e.ws++bP (fun j=>decide (j<i)) 0 es:=by
     simp only[bP]
     grind
    rw[hf,IZ];exact this
theorem WI{e f:Eff}{n:Nat}(h:gP e f=false)(he:n∈jA e.ws):n∉f.rs∧n∉jA f.ws:=by
 simp only[gP]at h
 grind
theorem WR{e f:Eff}{n:Nat}(h:gP e f=false)(he:n∈jS e.ws):n∉f.ro∧n∉jS f.ws:=by
 simp only[gP]at h
 grind
theorem adP{listed:Array Bool}{i:Nat}(hi:i<listed.size)(hf:listed.getD i true=false):((listed.setIfInBounds i true).toList.filter (!·)).length+1=(listed.toList.filter (!·)).length:=by
 have key:∀(l:List Bool) (i:Nat),i<l.length→l.getD i true=false→((l.set i true).filter (!·)).length+1=(l.filter (!·)).length:=by
  intro l
  induction l with
  |nil=>intro i hi;simp at hi
  |cons x l ih=>
   intro i hi hg;cases i with
   |zero=>simp[List.getD]at hg;subst hg;simp
   |succ i=>
    grind
 simp_all
theorem ayb{P:Program}{l:List Oper}{es:List Eff}{s s':ASt}{C:Ctx}{Q:Exit→Act→World→Prop}(htr:ATr P l.toArray l es s s')(hok:ng l es=true)(hq:∀κ' a' w',Sim C κ' s' a' w'→Q .normal a' w'):
  ∀(fuel:Nat) (listed:Array Bool) (κ:aS) (a:Act) (w:World),listed.size=l.length→(listed.toList.filter (!·)).length=fuel→
   (∀j o,l[j]? =some o→listed.getD j false=true→∀p∈qG o,listed.getD p false=true)→
   Sim C κ (s.wr (bP (fun i=>listed.getD i false) 0 es)) a w→wpAny P .any l.toArray Q fuel listed a w:=by
 obtain⟨hlen,hs',heff⟩:=htr.spec;have hord:∀j,j<l.length→(∀p∈qG (l.getD j default),p<j)∧∀i,i<j→gP (es.getD i wT) (es.getD j wT)=true→i∈(FD l []).getD j []:=fun j hj=>by
  have:=qAP.1 hok j (qBW.2 hj)
  grind
 have hall:∀(listed:Array Bool),listed.size=l.length→Region.ready .any l.toArray listed=[]→∀i,i<l.length→listed.getD i false=true:=by
  intro listed hsz hr i
  induction i using Nat.strongRecOn with
  |_ i ih=>
   intro hi;cases hb:listed.getD i false with
   |true=>rfl
   |false=>
    exfalso;have hlt:i<listed.size:=by omega
    have:i∈Region.ready .any l.toArray listed:=by
     refine mem_ready.2 ⟨?_,l[i],by simp[hi],fun e he hbd=>?_⟩
     ·simpa[Array.getD,hlt]using hb
     ·have hp:=(hord i hi).1 e.on (by
       simp only[qG,List.getD,qAc hi,qAw];exact qAJ.2 ⟨e,qBa.2 ⟨by simpa using he,hbd⟩,rfl⟩)
      exact ih e.on hp (by omega)
    rw[hr]at this;cases this
 have hdone:∀(listed:Array Bool) (κ:aS) (a:Act) (w:World),listed.size=l.length→Region.ready .any l.toArray listed=[]→Sim C κ (s.wr (bP (fun i=>listed.getD i false) 0 es)) a w→Q .normal a w:=by
  intro listed κ a w hsz hr hsim;have ha:=hall listed hsz hr;refine hq κ a w ?_;have:s.wr (bP (fun i=>listed.getD i false) 0 es)=s':=by
   rw[hs'];refine ASt.ext' (by rw[(dA _ s).1,(dA _ s).1]) (by rw[(dA _ s).2,(dA _ s).2]) (fun n hn=>?_) (fun n hn=>?_)
   ·rw[(dA _ s).1]at hn;rw[vW _ n s hn,vW _ n s hn];rw[Lr (D':=fun _=>true) es 0 (fun i e hi _=>by rw[qAL];exact ha i (by have:=(qAH.1 hi).1;omega))]
   ·rw[(dA _ s).2]at hn;rw[tq _ n s hn,tq _ n s hn];rw[Ic (D':=fun _=>true) es 0 (fun i e hi _=>by rw[qAL];exact ha i (by have:=(qAH.1 hi).1;omega))]
  rw[←this];exact hsim
 intro fuel
 induction fuel with
 |zero=>
  intro listed κ a w hsz hcnt _ hsim;have hr:Region.ready .any l.toArray listed=[]:=by
   cases hrd:Region.ready .any l.toArray listed with
   |nil=>rfl
   |cons i r=>
    exfalso;have hm:i∈Region.ready .any l.toArray listed:=by rw[hrd];simp
    obtain⟨h1,o,h2,_⟩:=mem_ready.1 hm;have hlt:i<listed.size:=by have:=(qBi.1 h2).1;simp at this;omega
    have:=adP hlt h1;omega
  exact⟨hr,hdone listed κ a w hsz hr hsim⟩
 |succ fuel ih=>
  intro listed κ a w hsz hcnt hdown hsim;refine⟨fun hr=>hdone listed κ a w hsz hr hsim,fun i hi=>?_⟩;obtain⟨h1,o,h2,h3⟩:=mem_ready.1 hi;have hil:i<l.length:=by have:=(qBi.1 h2).1;simpa using this
  have hlo:l[i]? =some o:=by simpa using h2
  have hlt:i<listed.size:=by omega
  have hi0:listed.getD i false=false:=by simpa[Array.getD,hlt]using h1
  obtain⟨e,hei⟩:∃e,es[i]? =some e:=⟨_,qAc (by omega)⟩;have hgi:es.getD i wT=e:=by rw[List.getD,hei];rfl
  -- where something conflicts with i
  have hbd:∀j i',listed.getD j false=true→i'∈(FD l []).getD j []→listed.getD i' false=true:=
   Ny (D:=fun j=>listed.getD j false=true) l [] (fun j i' _ hi'=>by simp at hi') (fun j o' hj hD p hp=>hdown j o' hj (by simpa using hD) p hp)
  have hearly:∀j f,es[j]? =some f→j<i→gP f e=true→listed.getD j false=true:=fun j f hj hji hc=>by
   have hgj:es.getD j wT=f:=by rw[List.getD,hj];rfl
   have hb:=(hord i hil).2 j hji (by rw[hgj,hgi];exact hc);have hD:∀j' i',(listed.getD j' false=true∨j'=i)→i'∈(FD l []).getD j' []→(listed.getD i' false=true∨i'=i):=
    Ny (D:=fun j=>listed.getD j false=true∨j=i) l [] (fun j i' _ hi'=>by simp at hi') (fun j' o' hj' hD p hp=>by
     simp only[qAA,qAL]at hD;rcases hD with hD|rfl
     ·exact .inl (hdown j' o' hj' hD p hp)
     ·rw[hlo]at hj';cases hj';simp only[qG,qAJ,qBa]at hp;obtain⟨ed,⟨he1,he2⟩,rfl⟩:=hp;exact .inl (h3 ed (by simpa using he1) he2))
   rcases hD i j (.inr rfl) hb with h|h
   ·exact h
   ·omega
  have hlate:∀j f,es[j]? =some f→i<j→gP e f=true→listed.getD j false=false:=fun j f hj hji hc=>by
   have hjl:j<l.length:=by have:=(qAH.1 hj).1;omega
   have hgj:es.getD j wT=f:=by rw[List.getD,hj];rfl
   have hb:=(hord j hjl).2 i hji (by rw[hgj,hgi];exact hc);cases hlj:listed.getD j false with
   |false=>rfl
   |true=>have:=hbd j i hlj hb;rw[hi0]at this;cases this
  have hcommon:∀j f,es[j]? =some f→(gP f e=true∨gP e f=true→j≠i→listed.getD j false=decide (j<i)):=fun j f hj=>by
   have hsym:gP f e=true↔gP e f=true:=by
    simp only[gP,qBe,qCB,qEh];constructor
    ·rintro(((⟨n,a1,a2|a2⟩|⟨n,a1,a2⟩)|⟨n,a1,a2|a2⟩)|⟨n,a1,a2⟩)
     ·exact .inl (.inl (.inr ⟨n,a1,a2⟩))
     ·exact .inl (.inl (.inl ⟨n,a2,.inr a1⟩))
     ·exact .inl (.inl (.inl ⟨n,a1,.inl a2⟩))
     ·exact .inr ⟨n,a1,a2⟩
     ·exact .inl (.inr ⟨n,a2,.inr a1⟩)
     ·exact .inl (.inr ⟨n,a1,.inl a2⟩)
    ·rintro(((⟨n,a1,a2|a2⟩|⟨n,a1,a2⟩)|⟨n,a1,a2|a2⟩)|⟨n,a1,a2⟩)
     ·exact .inl (.inl (.inr ⟨n,a1,a2⟩))
     ·exact .inl (.inl (.inl ⟨n,a2,.inr a1⟩))
     ·exact .inl (.inl (.inl ⟨n,a1,.inl a2⟩))
     ·exact .inr ⟨n,a1,a2⟩
     ·exact .inl (.inr ⟨n,a2,.inr a1⟩)
     ·exact .inl (.inr ⟨n,a1,.inl a2⟩)
   intro hc hne;rcases qEi hne with hlt'|hgt
   ·rw[hearly j f hj hlt' (hc.elim id hsym.2)];simp[hlt']
   ·rw[hlate j f hj hgt (hc.elim hsym.1 id)];simp;omega
  let D:Nat→Bool:=fun j=>listed.getD j false
  have hagree:Agree (s.wr (bP D 0 es)) (s.wr (bP (fun j=>decide (j<i)) 0 es)) e:=by
   refine⟨by rw[(dA _ s).1,(dA _ s).1],by rw[(dA _ s).2,(dA _ s).2],fun n hn=>?_,fun n hn=>?_⟩
   ·by_cases hnl:n<s.tmps.length
    ·rw[vW _ n s hnl,vW _ n s hnl];congr 1;refine Lr es 0 fun j f hj hw=>?_;rw[qAL];by_cases hji:j=i
     ·subst hji;show listed.getD j false=_;rw[hi0];simp
     ·refine hcommon j f hj (.inl ?_) hji;cases hc:gP f e with
      |true=>rfl
      |false=>exact((WI hc hw).1 hn).elim
    ·have e1:(s.wr (bP D 0 es)).tmps.getD n .unk=.unk:=by rw[List.getD,qAC (by rw[(dA _ s).1];omega)];rfl
     have e2:(s.wr (bP (fun j=>decide (j<i)) 0 es)).tmps.getD n .unk=.unk:=by rw[List.getD,qAC (by rw[(dA _ s).1];omega)];rfl
     rw[e1,e2]
   ·by_cases hnl:n<s.heap.length
    ·rw[tq _ n s hnl,tq _ n s hnl];congr 1;refine Ic es 0 fun j f hj hw=>?_;rw[qAL];by_cases hji:j=i
     ·subst hji;show listed.getD j false=_;rw[hi0];simp
     ·refine hcommon j f hj (.inl ?_) hji;cases hc:gP f e with
      |true=>rfl
      |false=>exact((WR hc hw).1 hn).elim
    ·have e1:obj? (s.wr (bP D 0 es)).heap n=.dead:=by rw[obj?,qAC (by rw[(dA _ s).2];omega)];rfl
     have e2:obj? (s.wr (bP (fun j=>decide (j<i)) 0 es)).heap n=.dead:=by rw[obj?,qAC (by rw[(dA _ s).2];omega)];rfl
     rw[e1,e2]
  have hstep:=heff i o e hlo hei _ hagree;have hDi:∀j,(listed.setIfInBounds i true).getD j false=(D j ||decide (j=i)):=fun j=>by
   by_cases hji:i=j
   ·subst hji;simp[Array.getD,hlt]
   ·simp only[qAq,qCK hji,D];simp[qBo hji]
  have hstate:(s.wr (bP D 0 es)).wr e.ws=s.wr (bP (fun j=>(listed.setIfInBounds i true).getD j false) 0 es):=by
   rw[←IZ];refine ASt.ext' (by rw[(dA _ s).1,(dA _ s).1]) (by rw[(dA _ s).2,(dA _ s).2]) (fun n hn=>?_) (fun n hn=>?_)
   ·rw[(dA _ s).1]at hn;rw[vW _ n s hn,vW _ n s hn,JQ];congr 1;by_cases hw:n∈jA e.ws
    ·rw[aqK (D:=fun j=>(listed.setIfInBounds i true).getD j false) es 0 i e hei (by rw[qAL,hDi];simp) hw (fun j f hj hij hD' hwf=>by
      rw[qAL,hDi]at hD';have hji:j≠i:=by omega
      have hDj:listed.getD j false=true:=by simpa[hji,D]using hD'
      have hc:gP f e=true:=by
       cases hc:gP f e with
       |true=>rfl
       |false=>exact((WI hc hwf).2 hw).elim
      have:=hcommon j f hj (.inl hc) hji;rw[hDj]at this;have hlt':j<i:=by simpa using this.symm
      omega)]
     obtain⟨v,hv⟩:=Yv hw;rw[hv];rfl
    ·rw[XZ hw,qCt];refine Lr es 0 fun j f hj hwf=>?_;rw[qAL,hDi];have hji:j≠i:=fun e'=>by subst e';rw[hei]at hj;cases hj;exact hw hwf
     simp[hji,D]
   ·rw[(dA _ s).2]at hn;rw[tq _ n s hn,tq _ n s hn,Jw];congr 1;by_cases hw:n∈jS e.ws
    ·rw[asZ (D:=fun j=>(listed.setIfInBounds i true).getD j false) es 0 i e hei (by rw[qAL,hDi];simp) hw (fun j f hj hij hD' hwf=>by
      rw[qAL,hDi]at hD';have hji:j≠i:=by omega
      have hDj:listed.getD j false=true:=by simpa[hji,D]using hD'
      have hc:gP f e=true:=by
       cases hc:gP f e with
       |true=>rfl
       |false=>exact((WR hc hwf).2 hw).elim
      have:=hcommon j f hj (.inl hc) hji;rw[hDj]at this;have hlt':j<i:=by simpa using this.symm
      omega)]
     obtain⟨v,hv⟩:=YJ hw;rw[hv];rfl
    ·rw[Y3 hw,qCt];refine Ic es 0 fun j f hj hwf=>?_;rw[qAL,hDi];have hji:j≠i:=fun e'=>by subst e';rw[hei]at hj;cases hj;exact hw hwf
     simp[hji,D]
  have hnext:∀κ' a' w',Sim C κ' ((s.wr (bP D 0 es)).wr e.ws) a' w'→wpAny P .any l.toArray Q fuel (listed.setIfInBounds i true) a' w':=fun κ' a' w' hs2=>by
   rw[hstate]at hs2;refine ih (listed.setIfInBounds i true) κ' a' w' (by simpa using hsz) (by have:=adP hlt h1;omega) ?_ hs2;intro j o' hj hlj p hp;rw[hDi]at hlj⊢;by_cases hji:j=i
   ·subst hji;rw[hlo]at hj;cases hj;simp only[qG,qAJ,qBa]at hp;obtain⟨ed,⟨he1,he2⟩,rfl⟩:=hp;have:=h3 ed (by simpa using he1) he2;simp only[D,this,qCj]
   ·have hlj':listed.getD j false=true:=by simpa[hji,D]using hlj
    have:=hdown j o' hj hlj' p hp;simp only[D,this,qCj]
  unfold wpOp;rw[h2];dsimp only;rcases hstep with⟨hwd,ht⟩|⟨hwd,he⟩
  ·rw[nG hsim hwd];simp only[if_true];exact .inl (ht C κ a w hsim _ _ hnext)
  ·rw[nG hsim hwd];simp only[qBR,if_false];refine hnext κ _ w ?_;rw[he];exact hsim.aA _ lK
theorem dK.drawn{P:Program}{id:Nat}{l:List Oper}{es:List Eff}{Q:Exit→ASt→Prop}{s s':ASt}(n:Nat)(hm:P.follows .mixedOrders=true)(h:ATr P l.toArray l es (s.reserve n) s')(hok:ng l es=true)(hq:Q .normal s'):dK P (.region id l.toArray true) Q s:=by
 intro C κ a w hs;refine wp_region_any hm ?_;have hr:=(hs.reserve n).sameHeap (w':={w with drawn:=w.drawn+1}) rfl rfl rfl rfl;have hfl:bP (fun i=>(Array.replicate l.length false).getD i false) 0 es=[]:=by
  have hz:∀(D:Nat→Bool) (es:List Eff) (k:Nat),(∀i,D i=false)→bP D k es=[]:=fun D es=>by
   induction es with
   |nil=>intro k _;rfl
   |cons e es ih=>intro k hD;simp[bP,ih _ hD,hD]
  refine hz _ es 0 fun i=>?_;simp[Array.getD]
 have:=ayb (C:=C) (Q:=fun e a' w'=>∃s'' κ',Q e s''∧Sim C κ' s'' a' w') h hok (fun κ' a' w' hs'=>⟨s',κ',hq,hs'⟩) l.length (Array.replicate l.length false) _ a _ (by simp) (by simp) (fun j o _ hl=>by simp[Array.getD]at hl) (by rw[hfl];exact hr)
 grind
def yZ(P:Program)(s:ASt):List ResultVar→Option (List AV)
 |[]=>some []
 | .tmp t::r=>(yZ P s r).map (s.tmps.getD t .unk::·)
 | .cell a t::r=>match s.tmps.getD a .unk with
  | .ptr l off=>match obj? s.heap l with
   | .box cs=>match kC P t (cs.drop off)with
    |some v=>(yZ P s r).map (v::·)
    |none=>none
   |_=>none
  |_=>none
def Vf(tmps:Array Value):ResultVar→Sem Value
 | .tmp t=>pure (tmps.getD t undef)
 | .cell a t=>do loadVar t (←asAddr (tmps.getD a undef))
theorem PI(fn:Func)(tmps:Array Value):results fn tmps=(do let vs ←fn.results.mapM (Vf tmps);pure (if h:vs.size=1 then vs[0]else .tuple vs)):=by
 congr 1
theorem MS{P:Program}{C:Ctx}{κ:aS}{s:ASt}{a:Act}{w:World}(hs:Sim C κ s a w):∀(rs:List ResultVar) (xs:List AV),yZ P s rs=some xs→
  ∃vs:List Value,vs.length=xs.length∧(∀j,j<xs.length→Rel w κ (aH C.ak κ s.heap) (xs.getD j .unk) (vs.getD j undef))∧(rs.mapM (Vf a.tmps)).run P w=.ok vs w:=by
 intro rs
 induction rs with
 |nil=>intro xs h;simp only[yZ,Option.some.injEq]at h;subst h;exact⟨[],rfl,fun j hj=>(by cases hj),by simp⟩
 |cons r rs ih=>
  intro xs h;have key:∀(v:AV) (u:Value) (ys:List AV),yZ P s rs=some ys→xs=v::ys→Rel w κ (aH C.ak κ s.heap) v u→(Vf a.tmps r).run P w=.ok u w→
    ∃vs:List Value,vs.length=xs.length∧(∀j,j<xs.length→Rel w κ (aH C.ak κ s.heap) (xs.getD j .unk) (vs.getD j undef))∧((r::rs).mapM (Vf a.tmps)).run P w=.ok vs w:=fun v u ys hys hxs hv hrun=>by
   obtain⟨vs,h1,h2,h3⟩:=ih ys hys;subst hxs;refine⟨u::vs,by simp[h1],fun j hj=>?_,?_⟩
   ·grind
   ·simp_all
  cases r with
  |tmp t=>
   simp only[yZ]at h;cases hys:yZ P s rs with
   |none=>rw[hys]at h;cases h
   |some ys=>
    rw[hys]at h;simp only[qAx,Option.some.injEq]at h;refine key _ (a.tmps.getD t undef) ys hys h.symm ?_ (by simp[Vf]);exact hs.ev (.tmp t)
  |cell x t=>
   simp only[yZ]at h;split at h
   ·rename_i l off hx;split at h
    ·rename_i cs hl;split at h
     ·rename_i v hv;cases hys:yZ P s rs with
      |none=>rw[hys]at h;cases h
      |some ys=>
       rw[hys]at h;simp only[qAx,Option.some.injEq]at h;have hr:=hs.ev (.tmp x);simp only[bL,Act.eval]at hr;rw[hx]at hr;obtain⟨b,e,hb⟩:=hr.sD;obtain⟨c,el,g1,g2,g3,g4⟩:=hs.box hb hl;obtain⟨y,g5,g6⟩:=Jm (P:=P) (w:=w) (κ:=κ) (pv:=aH C.ak κ s.heap) (b:=b) (off:=off) (cs:=cs.drop off) (fun j=>c.getD (off+j) undef)
        (fun j hj=>g3 _ (by simp at hj;omega)) (fun j hj=>by rw[getD_drop];exact g4 _ (by simp at hj;omega)) hv
       exact key v y ys hys h.symm g6 (by simp only[Vf,e];simp[asAddr,g5])
     ·cases h
    ·cases h
   ·cases h
def bodyC(κ:aS)(ak:bU)(H:List AObj)(w:World)(ds:List Deferred):Ctx:={ak:=ak,old:=fun b=>b<w.heap.size∧∀l,at? κ l=some b→¬live (obj? H l),w0:=w,k0:=κ,pvE:=aH ak κ H,ds:=ds}
def bE(ops:Array Oper)(o:Oper):List Nat:=
 (o.op.operands.toList.filterMap fun| .tmp t=>some t|_=>none)++(match o.guard with|some (g,_)=>((ops[g]?).bind (·.dst)).toList|none=>[])
theorem Nz{tm tm':List AV}{ops:Array Oper}{o:Oper}(h:∀n∈bE ops o,tm'.getD n .unk=tm.getD n .unk):∀x∈o.op.operands,bL tm' x=bL tm x:=by
 intro x hx;cases x with
 |tmp t=>exact h t (qBw _ (List.mem_filterMap.2 ⟨.tmp t,by simpa using hx,rfl⟩))
 |const v=>rfl
 |func f=>rfl
 |global g=>rfl
theorem wh{tm tm':List AV}{ops:Array Oper}{o:Oper}(h:∀n∈bE ops o,tm'.getD n .unk=tm.getD n .unk):eG ops tm' o=eG ops tm o:=by
 unfold eG;cases hg:o.guard with
 |none=>rfl
 |some p=>
  obtain⟨j,want⟩:=p;simp only;cases hd:(ops[j]?).bind (·.dst)with
  |none=>rfl
  |some d=>
   simp only;rw[h d (by unfold bE;rw[hg];simp[hd])]
theorem Hu{P:Program}{ops:Array Oper}{o:Oper}{s:ASt}(hw:eG ops s.tmps o=some false):Jq P ops o s ⟨bE ops o,[],aA o.dst (.tup [])⟩:=by
 intro t ht;exact .inr ⟨by rw[wh ht.rs];exact hw,rfl⟩
inductive Keep{α:Type}(a:α):Type where
 |mk:Keep a
def JB(P:Program)(f:Nat)(args:List AV)(dst:Option Tmp)(s:ASt)(k:Nat)(K:Nat→List Nat→List Wr→Prop)(_:Keep K):Prop:=
 mQ P f=true∧∃(ρ ks:List Nat) (aargs:List AV) (H:List AObj) (res:AV) (H':List AObj),Passes s ρ ks H∧H'.length=(ρ++ks).length∧SWs args (aargs.map (ren (nm (ρ++ks) s.heap.length)))∧eH P f aargs H res H'∧
  K (k+ks.length) (ρ++ks) (mD (ρ++ks) (H'.map (eU (nm (ρ++ks) s.heap.length)))++aA dst (ren (nm (ρ++ks) s.heap.length) res))
theorem GQ{P:Program}{ops:Array Oper}{o:Oper}{s:ASt}{fo:Operand}{args:Array Operand}{argTypes:Array TypeId}{f:Nat}{caps aargs:List AV}{ρ ks:List Nat}{H H':List AObj}{res:AV}(hw:eG ops s.tmps o=some true)
  (ho:o.op=.call {callee:=.value fo,args,argTypes}) (hf:bL s.tmps fo=.func f caps) (hok:mQ P f=true) (hp:Passes s ρ ks H) (hH:H'.length=(ρ++ks).length)
  (hargs:SWs (args.toList.map (bL s.tmps)++caps) (aargs.map (ren (nm (ρ++ks) s.heap.length)))) (hc:eH P f aargs H res H'):
  Jq P ops o s ⟨bE ops o,ρ++ks,mD (ρ++ks) (H'.map (eU (nm (ρ++ks) s.heap.length)))++aA o.dst (ren (nm (ρ++ks) s.heap.length) res)⟩:=by
 intro t ht;have hop:=Nz ht.rs;have hfo:fo∈o.op.operands:=by rw[ho];simp[Op.operands,Call.operands]
 have hp':Passes t ρ ks H:=by
  refine⟨hp.nodup,hp.hlen,fun l hl=>by rw[ht.hl];exact hp.lt l hl,fun l hl=>by rw[ht.ro l (qBz _ hl)];exact hp.res l hl,fun i l hi=>?_⟩;rw[ht.ro l (qBw _ (qAF hi)),ht.hl];exact hp.obj i l hi
 have hmap:args.toList.map (bL t.tmps)=args.toList.map (bL s.tmps):=wm _ (fun x hx=>hop x (by rw[ho];simp only[Op.operands];exact qBA.2 (.inr (qBr.1 hx))));have:=aCd (P:=P) (o:=o) (s:=t) ho (by rw[hop fo hfo];exact hf) hok hp' hH (by rw[hmap,ht.hl];exact hargs) hc;rw[ht.hl]at this;exact .inl ⟨by rw[wh ht.rs];exact hw,this⟩
def jX:Op→Nat
 | .alloc _=>1
 | .box _ _=>1
 | .makeMap _ _=>1
 | .buildSlice _ _ _=>1
 | .makeSlice _ _ _=>1
 | .call {callee:=.builtin .append,..}=>1
 |_=>0
def nE:Op→Option (Operand×Array Operand)
 | .call {callee:=.value f,args,..}=>some (f,args)
 |_=>none
theorem xG{op:Op}{f:Operand}{args:Array Operand}(h:nE op=some (f,args)):∃t,op=.call {callee:=.value f,args,argTypes:=t}:=by
 unfold nE at h
 grind
section
variable {P:Program}{k:Nat}{d:Option Tmp}{ty:TypeId}{ps:String}{af:Array Edge}{gd:Option (Nat×Bool)}{ρ:Operand→AV}{σ:Nat→AObj}
def aCH(x:AV):Option AV:=match x with| .ptr l o=>some (.ptr l o)| .eptr cs=>some (.eptr cs)| .func f cs=>some (.func f cs)| .flist (cs::r)=>some (.eptr (cs++[.flist r]))|_=>none
def unK(op:UnOp)(x:AV):Option AV:=match op,x with| .not,.bool b=>some (.bool (!b))| .neg,.int k n=>some (.int k (k.wrap (0 - n)))|_,_=>none
def aiG(f:Option (Nat×TypeId))(x:AV):Option AV:=match f with|some (fo,_)=>(match x with| .ptr l o=>some (.ptr l (o+fo))| .eptr cs=>some (.eptr (cs.drop fo))|_=>none)|none=>none
def aBP(st:Bool)(sl:Option Nat)(x:AV):Option AV:=match x with| .str s=>if st then some (.int .i64 s.length)else none| .slice es _=>if sl.isSome then some (.int .i64 es.length)else none| .psl _ _ n=>if sl.isSome then some (.int .i64 n)else none|_=>none
end
section
variable {P:Program}{ops:Array Oper}{l:List Oper}{k:Nat}{es:List Eff}{s:ASt}
end
end
section
open Go
abbrev Str:=List UInt8
inductive Ty where
 |mk (kind:Int) (name:Str) (kids:List Ty)
def Ty.kind:Ty→Int| .mk k _ _=>k
def Ty.name:Ty→Str| .mk _ n _=>n
def Ty.kids:Ty→List Ty| .mk _ _ ks=>ks
inductive Tm where
 |mk (op:Int) (name:Str) (n:Int) (ty:Ty) (kids:List Tm)
def Tm.op:Tm→Int| .mk k _ _ _ _=>k
def Tm.name:Tm→Str| .mk _ n _ _ _=>n
def Tm.n:Tm→Int| .mk _ _ n _ _=>n
def Tm.ty:Tm→Ty| .mk _ _ _ t _=>t
def Tm.kids:Tm→List Tm| .mk _ _ _ _ ks=>ks
mutual
def oK:Ty→List AV
 | .mk k n ks=>[.int .i64 k,.str n,.slice (Rc ks) .shared]
def Rc:List Ty→List (List AV)
 |[]=>[]
 |t::ts=>oK t::Rc ts
end
mutual
def lY:Tm→List AV
 | .mk k n m t ks=>[.int .i64 k,.str n,.int .i64 m]++oK t++[.slice (Sz ks) .shared]
def Sz:List Tm→List (List AV)
 |[]=>[]
 |t::ts=>lY t::Sz ts
end
theorem Yz:∀ts,Rc ts=ts.map oK
 |[]=>rfl
 |t::ts=>by simp[Rc,Yz ts]
theorem YL:∀ts,Sz ts=ts.map lY
 |[]=>rfl
 |t::ts=>by simp[Sz,YL ts]
@[go_sem] theorem lU(t:Ty):oK t=[.int .i64 t.kind,.str t.name,.slice (t.kids.map oK) .shared]:=by
 cases t;simp[oK,Yz,Ty.kind,Ty.name,Ty.kids]
@[go_sem] theorem uU(t:Tm):lY t=[.int .i64 t.op,.str t.name,.int .i64 t.n,.int .i64 t.ty.kind,.str t.ty.name,.slice (t.ty.kids.map oK) .shared,.slice (t.kids.map lY) .shared]:=by
 cases t;simp[lY,YL,Tm.op,Tm.name,Tm.n,Tm.ty,Tm.kids,lU]
mutual
theorem anf(g:Nat→Nat):∀t,eT g (oK t)=oK t
 | .mk k n ks=>by simp only[oK,eT,ren,xu,Qi g ks]
theorem Qi(g:Nat→Nat):∀ts,gY g (Rc ts)=Rc ts
 |[]=>rfl
 |t::ts=>by simp only[Rc,gY,anf g t,Qi g ts]
end
mutual
theorem amQ(g:Nat→Nat):∀t,eT g (lY t)=lY t
 | .mk k n m (.mk a b c) ks=>by
  simp only[lY,oK,qAM,qAo,eT,ren,xu,Yy g ks,Qi g c]
theorem Yy(g:Nat→Nat):∀ts,gY g (Sz ts)=Sz ts
 |[]=>rfl
 |t::ts=>by simp only[Sz,gY,amQ g t,Yy g ts]
end
theorem aFu(g:Nat→Nat)(ts:List Ty):gY g (ts.map oK)=ts.map oK:=by rw[←Yz];exact Qi g ts
theorem aEE(g:Nat→Nat)(ts:List Tm):gY g (ts.map lY)=ts.map lY:=by rw[←YL];exact Yy g ts
end
section
open Go
inductive IxT where
 |sl (sz:Option Nat)
 |arr (len:Nat) (sz:Option Nat)
 |no
structure TI where
 size:Option Nat
 agg:Option Bool
 isPtr:Bool
 isBool:Bool
 isStr:Bool
 isStruct:Bool
 isSl:Bool
 int:Option IntKind
 ix:IxT
 field:List (Option (Nat×TypeId))
 place:List (Option (Nat×Nat))
 zero:Option (List AV)
 zav:Option AV
 slT:Option Nat
 elem:Option (TypeId×Nat×Nat)
 smap:Option TypeId
def intTy(P:Program)(t:TypeId):Option IntKind:=match P.underlying t with|some (.int k)=>some k|_=>none
def Qy(P:Program)(t:TypeId):IxT:=match P.underlying t with|some (.slice e)=>.sl (sizeT P e)|some (.array n e)=>.arr n (sizeT P e)|_=>.no
def ak2(P:Program)(t:TypeId):List (Option (Nat×TypeId)):=match P.underlying t with|some (.struct fs)=>fs.toList.map fun x=>(match sizeT P x.type with|some (_+1)=>some (x.offset,x.type)|_=>none)|_=>[]
def amc(P:Program)(t:TypeId):List (Option (Nat×Nat)):=match P.underlying t with|some (.struct fs)=>fs.toList.map fun f=>(sizeT P f.type).map fun n=>(f.offset,n)|_=>[]
def TI.of(P:Program)(t:TypeId):TI:=
 {size:=sizeT P t,agg:=QN P t,isPtr:=ajq P t,isBool:=ad1 P t,isStr:=aC.isStrT P t,isStruct:=zP P t,isSl:=aP.isSliceT P t,int:=intTy P t,ix:=Qy P t,field:=ak2 P t,place:=amc P t,zero:=lI P t,zav:=NP P t,slT:=aC.sliceT P t,elem:=mX P t,smap:=uK P t}
def lk{α:Type}:List (Option α)→Nat→Option α
 |[],_=>none
 |x::_,0=>x
 |_::l,n+1=>lk l n
theorem aDK{α:Type}:∀(l:List (Option α)) (n:Nat),lk l n=(l[n]?).bind id:=by
 intro l
 induction l with
 |nil=>intro n;simp[lk]
 |cons a l ih=>intro n;cases n with
  |zero=>simp[lk]
  |succ n=>simp[lk,ih]
theorem Uu(P:Program)(s f:Nat):lk (TI.of P s).field f=Bo P s f:=by
 rw[aDK];show(ak2 P s)[f]?.bind id=_;unfold ak2 Bo
 grind
theorem anZ(P:Program)(s f:Nat):lk (TI.of P s).place f=FX P s f:=by
 rw[aDK];show(amc P s)[f]?.bind id=_;unfold amc FX
 grind
def aHN(n:Nat)(cs:List AV):Option AV:=if cs.length=n then some (.agg cs)else if n≤cs.length then some (.agg (cs.take n))else none
def loadT(τ:Nat→TI)(t:TypeId)(cs:List AV):Option AV:=
 match(τ t).agg with
 |some true=>match(τ t).size with
  |some n=>aHN n cs
  |none=>none
 |some false=>match cs with|[]=>none|c::_=>some c
 |none=>none
def abE(τ:Nat→TI)(op:BinOp)(t:TypeId):AV→AV→Option AV
 | .int k a,.int k' b=>if k=k' then(match op with
  | .add=>some (.int k (k.wrap (a+b)))
  | .sub=>some (.int k (k.wrap (a - b)))
  | .mul=>some (.int k (k.wrap (a*b)))
  | .quo=>if b=0 then none else some (.int k (k.wrap (a.tdiv b)))
  | .rem=>if b=0 then none else some (.int k (a.tmod b))
  | .eql=>some (.bool (a==b))
  | .neq=>some (.bool (a !=b))
  | .lss=>some (.bool (decide (a<b)))
  | .leq=>some (.bool (decide (a≤b)))
  | .gtr=>some (.bool (decide (b<a)))
  | .geq=>some (.bool (decide (b≤a)))
  | .shl=>if 0≤b∧b≤k.bits then some (.int k (k.wrap (a*2^b.toNat)))else none
  | .shr=>if 0≤b∧b≤k.bits then some (.int k (a.fdiv (2^b.toNat)))else none
  |_=>none)else none
 | .str a,.str b=>match op with
  | .add=>if a.length+b.length≤9223372036854775807 then some (.str (a++b))else none
  | .eql=>some (.bool (a==b))
  | .neq=>some (.bool (!(a==b)))
  | .lss=>some (.bool (Op.bytesLess a b))
  | .leq=>some (.bool (Op.bytesLess a b ||a==b))
  | .gtr=>some (.bool (!(Op.bytesLess a b ||a==b)))
  | .geq=>some (.bool (!(Op.bytesLess a b)))
  |_=>none
 | .bool a,.bool b=>if(τ t).isBool then(match op with
  | .eql=>some (.bool (a==b))
  | .neq=>some (.bool (!(a==b)))
  |_=>none)else none
 |x,.nilp=>if(τ t).isPtr then(match op,Nn x with
  | .eql,some b=>some (.bool b)
  | .neq,some b=>some (.bool (!b))
  |_,_=>none)else none
 |_,_=>none
end
section
open Go
def jy:Bool→Prop→Prop→Prop
 |true,A,_=>A
 |false,_,B=>B
def jg{α:Type}:Option α→(α→Prop)→Prop
 |some x,K=>K x
 |none,_=>False
theorem aAB{b:Bool}{A B:Prop}(h1:b=true→A)(h2:b=false→B):jy b A B:=by cases b<;>simp_all [jy]
theorem bO{b:Bool}{A B:Prop}(h:jy b A B):(b=true∧A)∨(b=false∧B):=by cases b<;>simp_all [jy]
theorem dz{α:Type}{r:Option α}{K:α→Prop}(h:jg r K):∃x,r=some x∧K x:=by cases r with|none=>exact h.elim|some x=>exact⟨x,rfl,h⟩
def aKR(es:List (List AV))(n:Int)(sz:Nat)(K:AV→Prop):Prop:=∃cs,es[n.toNat]? =some cs∧0≤n∧cs.length=sz∧K (.eptr cs)
def aEp(s:List UInt8)(n:Int)(K:AV→Prop):Prop:=(0≤n∧n<s.length)∧K (.int .u8 (s.getD n.toNat 0).toNat)
def aLs(a b:List UInt8)(K:AV→Prop):Prop:=a.length+b.length≤9223372036854775807∧K (.str (a++b))
def aK4(s:List UInt8)(lo hi:Option AV)(K:AV→Prop):Prop:=∃l h,eX hi s.length s.length=some h∧eX lo 0 h=some l∧K (.str ((s.drop l).take (h - l)))
def aLG(es:List (List AV))(sz:Nat)(lo hi:Option AV)(K:AV→Prop):Prop:=∃l h,eX hi es.length es.length=some h∧eX lo 0 h=some l∧(l<es.length→(es.getD l []).length=sz)∧K (.slice ((es.drop l).take (h - l)) .shared)
def aG2(n:Int)(len:Nat)(K:Prop):Prop:=(0≤n∧n<len)∧K
def aBr(ys:List (List AV))(sz bytes:Nat)(K:Prop):Prop:=(ys.length*bytes≤140737488355328∧ys.length≤140737488355328∧(ys.all (dH sz)=true))∧K
def aBC(n:Nat)(es ys:List (List AV))(sz bytes:Nat)(K:Prop):Prop:=(n=es.length*sz∧(es.length+ys.length)*bytes≤140737488355328∧es.length+ys.length≤140737488355328∧(es.all (dH sz)=true)∧(ys.all (dH sz)=true))∧K
def aLo(es:List (List UInt8×AV))(K:Prop):Prop:=es.length<140737488355328∧K
def aJb(es:List (List UInt8×AV))(s:List UInt8)(A:AV→Prop)(B:Prop):Prop:=(∀v,tN es s=some v→A v)∧(tN es s=none→B)
def ash(K:AV→Prop):IxT→AV→AV→Prop
 | .sl (some sz),.slice es _,.int _ n=>aKR es n sz K
 | .arr len (some sz),.ptr l o,.int _ n=>aG2 n len (K (.ptr l (o+n.toNat*sz)))
 | .arr len (some sz),.eptr cs,.int _ n=>aG2 n len (K (.eptr (cs.drop (n.toNat*sz))))
 |_,_,_=>False
def cutV(isStr:Bool)(slT:Option Nat)(lo hi:Option AV)(K:AV→Prop):AV→Prop
 | .str s=>jy isStr (aK4 s lo hi K) False
 | .slice es _=>jg slT fun sz=>aLG es sz lo hi K
 |_=>False
def Vj(τ:Nat→TI)(op:BinOp)(t:TypeId)(x y:AV)(K:AV→Prop):Prop:=
 match op,x,y with
 | .add,.str a,.str b=>aLs a b K
 |op,x,y=>jg (abE τ op t x y) K
def awj(σ:Nat→AObj)(k sz bytes:Nat)(d:Option Tmp)(K:List Nat→List Wr→Prop):AV→AV→Prop
 | .slice [] .nils,.slice ys _=>jy (dG (σ k)) (aBr ys sz bytes (K [k] (.obj k (.tip (ys.length*sz))::aA d (.slice ys (.tip k sz))))) False
 | .slice es (.tip l z),.slice ys _=>match σ l with
  | .tip n=>jy (dG (σ k)&&z==sz) (aBC n es ys sz bytes (K [l,k] (.obj l .dead:: .obj k (.tip ((es++ys).length*sz))::aA d (.slice (es++ys) (.tip k sz))))) False
  |_=>False
 |_,_=>False
def stepT(τ:Nat→TI)(k:Nat)(d:Option Tmp)(ρ:Operand→AV)(σ:Nat→AObj)(K:List Nat→List Wr→Prop):Op→Prop
 | .move x=>K [] (aA d (ρ x))
 | .assign x=>K [] (aA d (ρ x))
 | .pick c x y=>match ρ c with
  | .bool b=>jy b (K [] (aA d (ρ x))) (K [] (aA d (ρ y)))
  |_=>False
 | .nilCheck x=>jg (aCH (ρ x)) fun v=>K [] (aA d v)
 | .binOp op t x y _=>Vj τ op t (ρ x) (ρ y) fun v=>K [] (aA d v)
 | .unOp op _ x=>jg (unK op (ρ x)) fun v=>K [] (aA d v)
 | .fieldAddr s x f=>jg (aiG (lk (τ s).field f) (ρ x)) fun v=>K [] (aA d v)
 | .field s x f=>jg (lk (τ s).field f) fun p=>match ρ x with
  | .agg cs=>jg (loadT τ p.2 (cs.drop p.1)) fun v=>K [] (aA d v)
  |_=>False
 | .indexAddr t x i=>ash (fun v=>K [] (aA d v)) (τ t).ix (ρ x) (ρ i)
 | .index t x i=>match ρ x,ρ i with
  | .str s,.int _ n=>jy (τ t).isStr (aEp s n fun v=>K [] (aA d v)) False
  |_,_=>False
 | .extract x i=>match ρ x with
  | .tup vs=>jg (vs[i]?) fun v=>K [] (aA d v)
  |_=>False
 | .slice t x lo hi none=>cutV (τ t).isStr (τ t).slT (lo.map ρ) (hi.map ρ) (fun v=>K [] (aA d v)) (ρ x)
 | .build t parts=>jy (τ t).isStruct (jg (τ t).zero fun z=>jg (lH (lk (τ t).place) z (parts.toList.map fun p=>(p.1,ρ p.2))) fun cs=>K [] (aA d (.agg cs))) False
 | .makeFunc (.func f) first captured=>jy (first.toList.isEmpty) (K [] (aA d (.func f (captured.toList.map ρ)))) False
 | .load t x=>match ρ x with
  | .eptr cs=>jg (loadT τ t cs) fun v=>K [] (aA d v)
  | .ptr l off=>match σ l with
   | .box cs=>jg (loadT τ t (cs.drop off)) fun v=>K [l] (aA d v)
   |_=>False
  |_=>False
 | .store t x y=>match ρ x with
  | .ptr l off=>jg (eO (ρ y)) fun vs=>match σ l with
   | .box cs=>jy (decide ((τ t).size=some vs.length∧off+vs.length≤cs.length)&&vs.all isScalar) (K [l] (.obj l (.box (cs.take off++vs++cs.drop (off+vs.length)))::aA d (.tup []))) False
   |_=>False
  |_=>False
 | .alloc t=>jy (dG (σ k)) (jg (τ t).zero fun z=>K [k] (.obj k (.box z)::aA d (.ptr k 0))) False
 | .box _ x=>jy (dG (σ k)) (jg (eO (ρ x)) fun cs=>K [k] (.obj k (.box cs)::aA d (.ptr k 0))) False
 | .makeMap _ none=>jy (dG (σ k)) (K [k] (.obj k (.mp [])::aA d (.mapr k))) False
 | .buildSlice t len parts=>jg (τ t).elem fun e=>jg (τ e.1).zero fun z=>jy (dG (σ k)&&(decide (len*e.2.1≤16777216)&&(decide (len≤16777216)&&decide (z.length=e.2.1)))) (jg (lH (fun i=>some (i*e.2.1,e.2.1)) ((List.replicate len z).flatten) (parts.toList.map fun p=>(p.1,ρ p.2))) fun cs=>K [k] (.obj k (.tip (len*e.2.1))::aA d (.slice (chunks e.2.1 len (cs.map shr)) (.tip k e.2.1)))) False
 | .convert s t x=>match ρ x with
  | .int _ n=>jy (τ s).int.isSome (jg (τ t).int fun k=>K [] (aA d (.int k (k.wrap n)))) False
  |_=>False
 | .call {callee:=.builtin .len,args,argTypes}=>match args.toList,argTypes.toList with
  |[x],[t]=>jg (aBP (τ t).isStr (τ t).slT (ρ x)) fun v=>K [] (aA d v)
  |_,_=>False
 | .call {callee:=.builtin .append,args,argTypes}=>match args.toList,argTypes.toList with
  |[x,y],[t,t2]=>jg (τ t).elem fun e=>jy (τ t2).isSl (awj σ k e.2.1 e.2.2 d K (ρ x) (ρ y)) False
  |_,_=>False
 | .call {callee:=.builtin .max,args,argTypes:=_}=>match args.toList with
  |[x,y]=>match ρ x,ρ y with
   | .int k a,.int k' b=>jy (decide (k=k')) (K [] (aA d (.int k (if b>a then b else a)))) False
   |_,_=>False
  |_=>False
 | .call {callee:=.builtin .min,args,argTypes:=_}=>match args.toList with
  |[x,y]=>match ρ x,ρ y with
   | .int k a,.int k' b=>jy (decide (k=k')) (K [] (aA d (.int k (if b<a then b else a)))) False
   |_,_=>False
  |_=>False
 | .lookup t m key ok=>jg (τ t).smap fun e=>match ρ m,ρ key with
  | .mapr l,.str s=>match σ l with
   | .mp es=>jg (τ e).zav fun z=>aJb es s (fun v=>K [l] (aA d (ED (some v) ok z))) (K [l] (aA d (ED none ok z)))
   |_=>False
  |_,_=>False
 | .mapUpdate t m key x=>jg (τ t).smap fun _=>match ρ m,ρ key with
  | .mapr l,.str s=>match σ l with
   | .mp es=>aLo es (K [l] (.obj l (.mp (I9 es s (uN (ρ x))))::aA d (.tup [])))
   |_=>False
  |_,_=>False
 |_=>False
end
section
open Go
theorem ac9{P:Program}{t:TypeId}{x i:Operand}{ρ:Operand→AV}{K:AV→Prop}(h:ash K (TI.of P t).ix (ρ x) (ρ i)):∃v,aC P (.indexAddr t x i) ρ=some v∧K v:=by
 have hix:(TI.of P t).ix=Qy P t:=rfl;rw[hix]at h;simp only[aC];unfold Qy at h;unfold ash at h;split at h
 ·rename_i sz es tag k n h1 h2 h3;split at h1
  ·rename_i e hu;simp only[IxT.sl.injEq]at h1;obtain⟨cs,g1,g2,g3,g4⟩:=h
   grind
  ·cases h1
  ·cases h1
 ·rename_i len sz l o k n h1 h2 h3;split at h1
  ·cases h1
  ·rename_i n' e hu;simp only[IxT.arr.injEq]at h1;obtain⟨g1,g2⟩:=h
   grind
  ·cases h1
 ·rename_i len sz cs k n h1 h2 h3;split at h1
  ·cases h1
  ·rename_i n' e hu;simp only[IxT.arr.injEq]at h1;obtain⟨g1,g2⟩:=h;exact⟨_,by simp_all,g2⟩
  ·cases h1
 grind
theorem abU{P:Program}{t:TypeId}{x:Operand}{lo hi:Option Operand}{ρ:Operand→AV}{K:AV→Prop}(h:cutV (TI.of P t).isStr (TI.of P t).slT (lo.map ρ) (hi.map ρ) K (ρ x)):∃v,aC P (.slice t x lo hi none) ρ=some v∧K v:=by
 have h1:(TI.of P t).isStr=aC.isStrT P t:=rfl;have h2:(TI.of P t).slT=aC.sliceT P t:=rfl;simp only[aC];unfold cutV at h;split at h
 ·rename_i s hx;rcases bO h with⟨g1,l,hh,g2,g3,g4⟩|⟨_,g⟩
  ·grind
  grind
 ·rename_i es tag hx;obtain⟨sz,g1,l,hh,g2,g3,g4,g5⟩:=dz h
  grind
 grind
end
section
open Go
def fL{α:Type}:List α→(List α→Prop)→Prop
 |[],K=>K []
 |x::xs,K=>fL xs fun ys=>K (x::ys)
def Vs{α:Type}:List α→Nat→α→(List α→Prop)→Prop
 |[],_,_,K=>K []
 |_::xs,0,v,K=>K (v::xs)
 |x::xs,n+1,v,K=>Vs xs n v fun ys=>K (x::ys)
def fAV:AV→(AV→Prop)→Prop
 | .agg cs,K=>fL cs fun cs=>K (.agg cs)
 | .eptr cs,K=>fL cs fun cs=>K (.eptr cs)
 | .tup cs,K=>fL cs fun cs=>K (.tup cs)
 | .func f cs,K=>fL cs fun cs=>K (.func f cs)
 | .int k n,K=>K (.int k n)
 | .bool b,K=>K (.bool b)
 | .str b,K=>K (.str b)
 | .ptr l o,K=>K (.ptr l o)
 | .nilp,K=>K .nilp
 | .ifc t v,K=>K (.ifc t v)
 | .slice es t,K=>K (.slice es t)
 | .mapr l,K=>K (.mapr l)
 | .nilFunc,K=>K .nilFunc
 | .psl l z n,K=>K (.psl l z n)
 | .flist ns,K=>K (.flist ns)
 | .unk,K=>K .unk
def aCU:AObj→(AObj→Prop)→Prop
 | .box cs,K=>fL cs fun cs=>K (.box cs)
 | .tip n,K=>K (.tip n)
 | .mp es,K=>K (.mp es)
 | .dead,K=>K .dead
 | .arr z es,K=>K (.arr z es)
 | .res,K=>K .res
def zG:List Wr→List AV→List AObj→(List AV→List AObj→Prop)→Prop
 |[],t,h,K=>K t h
 | .slot n v::ws,t,h,K=>fAV v fun v=>Vs t n v fun t=>zG ws t h K
 | .obj n v::ws,t,h,K=>aCU v fun v=>Vs h n v fun h=>zG ws t h K
def ahD(t:List AV):List Operand→(List AV→Prop)→Prop
 |[],K=>K []
 |x::xs,K=>fAV (bL t x) fun v=>ahD t xs fun vs=>K (v::vs)
def frN:Nat→Prop→Prop→Prop
 |0,A,_=>A
 |_+1,_,B=>B
def aHf(w:Bool)(d:Nat)(t:List AV)(A B:List AV→Prop):AV→Prop
 | .bool b=>jy b (Vs t d (.bool true) fun t=>jy w (A t) (B t)) (Vs t d (.bool false) fun t=>jy w (B t) (A t))
 | .tup []=>B t
 |_=>False
def grd(ops:List Oper)(t:List AV)(A B:List AV→Prop):Option (Nat×Bool)→Prop
 |none=>A t
 |some (j,w)=>jg ((ops[j]?).bind (·.dst)) fun d=>aHf w d t A B (t.getD d .unk)
def adg(P:Program)(f:Nat)(args:List AV)(dst:Option Tmp)(t:List AV)(h:List AObj)(k:Nat)(K:Nat→List Nat→List Wr→Prop):Prop:=JB P f args dst ⟨t,h⟩ k K .mk
def adA(K:Nat→List AV→Prop):AV→Prop
 | .func f caps=>K f caps
 |_=>False
def run(P:Program)(τ:Nat→TI)(ops:List Oper):List Oper→Nat→List Eff→List AV→List AObj→(List Eff→List AV→List AObj→Prop)→Prop
 |[],_,es,t,h,K=>K es.reverse t h
 |o::l,k,es,t,h,K=>grd ops t
   (fun t=>match nE o.op with
    |some (f,args)=>adA (fun fid caps=>ahD t args.toList fun vs=>fL (vs++caps) fun vs=>adg P fid vs o.dst t h k fun k' ro ws=>zG ws t h fun t' h'=>run P τ ops l k' (⟨bE ops.toArray o,ro,ws⟩::es) t' h' K) (bL t f)
    |none=>stepT τ k o.dst (bL t) (obj? h) (fun rd ws=>zG ws t h fun t' h'=>frN (jX o.op) (run P τ ops l k (⟨bE ops.toArray o,rd,ws⟩::es) t' h' K) (run P τ ops l (k+1) (⟨bE ops.toArray o,rd,ws⟩::es) t' h' K)) o.op)
   (fun t=>zG (aA o.dst (.tup [])) t h fun t' h'=>run P τ ops l k (⟨bE ops.toArray o,[],aA o.dst (.tup [])⟩::es) t' h' K) o.guard
def ahH(next:List AV→List AObj→Prop)(Q:Exit→List AV→List AObj→Prop):Exit→List AV→List AObj→Prop
 | .normal,t,h=>next t h
 |e,t,h=>Q e t h
def aB1(id:Nat)(Q:Exit→List AV→List AObj→Prop):Exit→List AV→List AObj→Prop
 | .exit id',t,h=>jy (id'==id) (Q .normal t h) (Q (.exit id') t h)
 |e,t,h=>Q e t h
def onS(Q:Exit→List AV→List AObj→Prop):Exit→ASt→Prop:=fun e s=>Q e s.tmps s.heap
end
section
open Go
inductive Tr where
 |nil
 |node (l:Tr) (key:Nat) (x:TI) (r:Tr)
def Tr.look(d:Nat→TI)(t:Nat):Tr→TI
 | .nil=>d t
 | .node l k x r=>match Nat.ble t k with
  |true=>match Nat.beq t k with
   |true=>x
   |false=>Tr.look d t l
  |false=>Tr.look d t r
def Tr.keys:Tr→List Nat
 | .nil=>[]
 | .node l k _ r=>l.keys++k::r.keys
def Tr.vals:Tr→List TI
 | .nil=>[]
 | .node l _ x r=>l.vals++x::r.vals
theorem Tr.len:∀T:Tr,T.keys.length=T.vals.length
 | .nil=>rfl
 | .node l k x r=>by simp[keys,vals,Tr.len l,Tr.len r]
theorem Tr.look_eq(d:Nat→TI)(t:Nat):∀T:Tr,T.keys.map d=T.vals→T.look d t=d t
 | .nil,_=>rfl
 | .node l k x r,h=>by
  simp only[keys,qBj,qAy]at h;have h1:=List.append_inj h (by simp[Tr.len l]);obtain⟨h1,h2⟩:=h1;simp at h2;unfold Tr.look;split
  ·split
   ·simp_all
   ·exact Tr.look_eq d t l h1
  ·exact Tr.look_eq d t r h2.2
theorem aGW{P:Program}{T:Tr}(h:T.keys.map (TI.of P)=T.vals):(fun t=>T.look (TI.of P) t)=TI.of P:=funext fun t=>Tr.look_eq _ t T h
end
section
open Go
end
section
open Go
abbrev QT:=Exit→List AV→List AObj→Prop
def AW(P:Program)(m:Nat)(c:Code)(Q:QT)(t:List AV)(h:List AObj):Prop:=
 ∀(C:Ctx) (κ:aS) (a:Act) (w:World),C.k0.length≤m→Sim C κ ⟨t,h⟩ a w→c.wp P (fun e a' w'=>∃s' κ',onS Q e s'∧Sim C κ' s' a' w') a w
theorem AW.of{P:Program}{m:Nat}{c:Code}{Q:QT}{t:List AV}{h:List AObj}(hw:dK P c (onS Q) ⟨t,h⟩):AW P m c Q t h:=fun C κ a w _ hs=>hw C κ a w hs
theorem AW.mono{P:Program}{m:Nat}{c:Code}{Q Q':QT}{t:List AV}{h:List AObj}(hw:AW P m c Q t h)(hq:∀e t h,Q e t h→Q' e t h):AW P m c Q' t h:=
 fun C κ a w hk hs=>wp_mono (hw C κ a w hk hs) fun _ _ _ ⟨s',κ',h1,h2⟩=>⟨s',κ',hq _ _ _ h1,h2⟩
theorem AW.skip{P:Program}{m:Nat}{Q:QT}{t:List AV}{h:List AObj}(hq:Q .normal t h):AW P m .skip Q t h:=AW.of (dK.skip hq)
theorem AW.ret{P:Program}{m:Nat}{Q:QT}{t:List AV}{h:List AObj}(hq:Q .ret t h):AW P m .ret Q t h:=AW.of (dK.ret hq)
theorem AW.exit{P:Program}{m:Nat}{Q:QT}{t:List AV}{h:List AObj}{id:Nat}(hq:Q (.exit id) t h):AW P m (.exit id) Q t h:=AW.of (dK.exit hq)
theorem AW.seq{P:Program}{m:Nat}{x y:Code}{Q:QT}{t:List AV}{h:List AObj}(hw:AW P m x (ahH (AW P m y Q) Q) t h):AW P m (.seq x y) Q t h:=by
 intro C κ a w hk hs;refine wp_seq (wp_mono (hw C κ a w hk hs) ?_);rintro e a' w' ⟨s',κ',h1,h2⟩;cases e with
 |normal=>exact h1 C κ' a' w' hk h2
 |exit id=>exact⟨s',κ',h1,h2⟩
 |goto l=>exact⟨s',κ',h1,h2⟩
 |ret=>exact⟨s',κ',h1,h2⟩
 |panic c=>exact⟨s',κ',h1,h2⟩
 |outgrown=>exact⟨s',κ',h1,h2⟩
theorem AW.cond{P:Program}{m:Nat}{c:Operand}{x y:Code}{Q:QT}{t:List AV}{h:List AObj}{b:Bool}(hc:bL t c=.bool b)(h1:b=true→AW P m x Q t h)(h2:b=false→AW P m y Q t h):AW P m (.cond c x y) Q t h:=by
 intro C κ a w hk hs;have hr:=hs.ev c;have:bL (ASt.mk t h).tmps c=.bool b:=hc;rw[this]at hr;exact wp_cond_split hr.Ra (fun ht=>h1 ht C κ a w hk hs) (fun ht=>h2 ht C κ a w hk hs)
theorem AW.block{P:Program}{m id:Nat}{c:Code}{Q:QT}{t:List AV}{h:List AObj}(hw:AW P m c (aB1 id Q) t h):AW P m (.block id c) Q t h:=by
 intro C κ a w hk hs;refine wp_block (wp_mono (hw C κ a w hk hs) ?_);rintro e a' w' ⟨s',κ',h1,h2⟩;cases e with
 |exit id'=>
  simp only[Exit.inBlock];rcases bO h1 with⟨e,g⟩|⟨e,g⟩
  ·rw[if_pos (by simpa using e)];exact⟨s',κ',g,h2⟩
  ·rw[if_neg (by simpa using e)];exact⟨s',κ',g,h2⟩
 |normal=>exact⟨s',κ',h1,h2⟩
 |goto l=>exact⟨s',κ',h1,h2⟩
 |ret=>exact⟨s',κ',h1,h2⟩
 |panic c=>exact⟨s',κ',h1,h2⟩
 |outgrown=>exact⟨s',κ',h1,h2⟩
theorem AW.loop{P:Program}{m:Nat}{c:Code}{Q:QT}{t:List AV}{h:List AObj}(I:Nat→List AV→List AObj→Prop){n:Nat}(h0:I n t h)(round:∀n t h,I n t h→AW P m c (ahH (fun t' h'=>∃k,k<n∧I k t' h') Q) t h):AW P m (.loop c) Q t h:=by
 intro C κ a w hk hs;refine wp_loop_ghost (Q:=fun e a' w'=>∃s' κ',onS Q e s'∧Sim C κ' s' a' w') (fun n a w=>∃s κ,I n s.tmps s.heap∧Sim C κ s a w) n ⟨⟨t,h⟩,κ,h0,hs⟩ ?_;rintro n a w ⟨s,κ,hI,hs⟩;refine wp_mono (round n s.tmps s.heap hI C κ a w hk hs) ?_;rintro e a' w' ⟨s',κ',h1,h2⟩;cases e with
 |normal=>
  obtain⟨m,hm,hI'⟩:=h1;exact⟨m,hm,s',κ',hI',h2⟩
 |exit id=>exact⟨s',κ',h1,h2⟩
 |goto l=>exact⟨s',κ',h1,h2⟩
 |ret=>exact⟨s',κ',h1,h2⟩
 |panic c=>exact⟨s',κ',h1,h2⟩
 |outgrown=>exact⟨s',κ',h1,h2⟩
def VF:AV→Prop
 | .int k n=>sj k n
 | .str s=>s.length≤9223372036854775807
 | .slice es _=>es.length≤9223372036854775807
 | .psl _ _ n=>n≤140737488355328
 |_=>True
theorem Rel.vf{w:World}{κ:aS}{pv:bU}{x:AV}{v:Value}(h:Rel w κ pv x v):VF x:=by
 cases h<;>first|trivial|assumption
def parts:AV→List AV
 | .agg cs=>cs
 | .tup cs=>cs
 | .eptr cs=>cs
 | .func _ cs=>cs
 |v=>[v]
end
section
open Go
def ou(L:List (Option Nat))(big i:Nat):Nat:=((L[i]?).getD none).getD big
inductive VW(h:List AObj)(L:List (Option Nat)):AV→AV→Prop where
 |unk (v:AV):VW h L .unk v
 |same {x y:AV}:ren (ou L h.length) x=y→VW h L x y
 |share {es es':List (List AV)} {t:Tag}:gY (ou L h.length) es=es'→VW h L (.slice es .shared) (.slice es' t)
 |nils (j z:Nat):VW h L (.slice [] (.tip j z)) (.slice [] .nils)
 |nilF:VW h L (.flist []) .nilp
 |frzF {l:Nat} {cs cs':List AV} {r:List (List AV)} {v:AV}:obj? h l=.box (cs'++[v])→some l∉L→cs.length=cs'.length→(∀j,j<cs.length→VW h L (cs.getD j .unk) (cs'.getD j .unk))→VW h L (.flist r) v→VW h L (.flist (cs::r)) (.ptr l 0)
 |nilP (j z:Nat):VW h L (.psl j z 0) (.slice [] .nils)
 |adC {l z n:Nat} {es es0:List (List AV)}:obj? h l=.arr z es0→some l∉L→n≤es0.length→gY (ou L h.length) es=es0.take n→VW h L (.slice es .shared) (.psl l z n)
 |agg {cs cs':List AV}:cs.length=cs'.length→(∀j,VW h L (cs.getD j .unk) (cs'.getD j .unk))→VW h L (.agg cs) (.agg cs')
 |tup {cs cs':List AV}:cs.length=cs'.length→(∀j,VW h L (cs.getD j .unk) (cs'.getD j .unk))→VW h L (.tup cs) (.tup cs')
 |eptr {cs cs':List AV}:cs.length=cs'.length→(∀j,VW h L (cs.getD j .unk) (cs'.getD j .unk))→VW h L (.eptr cs) (.eptr cs')
 |func {f:Nat} {cs cs':List AV}:cs.length=cs'.length→(∀j,VW h L (cs.getD j .unk) (cs'.getD j .unk))→VW h L (.func f cs) (.func f cs')
 |frz {l off:Nat} {cs cs':List AV}:obj? h l=.box cs'→some l∉L→cs.length+off≤cs'.length→(∀j,VW h L (cs.getD j .unk) (cs'.getD (off+j) .unk))→VW h L (.eptr cs) (.ptr l off)
inductive OW(h:List AObj)(L:List (Option Nat)):AObj→AObj→Prop where
 |dead (o:AObj):OW h L .dead o
 |box {cs cs':List AV}:cs.length=cs'.length→(∀j,VW h L (cs.getD j .unk) (cs'.getD j .unk))→OW h L (.box cs) (.box cs')
 |tip (n:Nat):OW h L (.tip n) (.tip n)
 |arr {z n:Nat} {es es0:List (List AV)}:gY (ou L h.length) es=es0.take n→OW h L (.arr z es) (.arr z es0)
 |same {o o':AObj}:dG o=false→eU (ou L h.length) o=o'→OW h L o o'
structure Weak(m:Nat)(t:List AV)(h:List AObj)(L:List (Option Nat))(t':List AV)(h':List AObj):Prop where
 tlen:t'.length=t.length
 hlen:L.length=h'.length
 idm:∀i:Nat,i<m→L[i]? =some (some i)
 inj:∀i j l:Nat,L[i]? =some (some l)→L[j]? =some (some l)→live (obj? h' i)→live (obj? h' j)→i=j
 lt:∀i l:Nat,L[i]? =some (some l)→l<h.length
 slot:∀n,VW h L (t'.getD n .unk) (t.getD n .unk)
 obj:∀i l:Nat,L[i]? =some (some l)→OW h L (obj? h' i) (obj? h l)
 new:∀i:Nat,L[i]? =some none→dG (obj? h' i)=false
section
variable {C:Ctx}{κ:aS}{t:List AV}{h:List AObj}{a:Act}{w:World}{m:Nat}{L:List (Option Nat)}{t':List AV}{h':List AObj}
def Hg(κ:aS)(L:List (Option Nat)):aS:=L.map fun o=>o.bind (at? κ)
theorem at?_kapW{i:Nat}(hk:κ.length=h.length):at? (Hg κ L) i=at? κ (ou L h.length i):=by
 unfold Hg ou;simp only[at?,qAE];cases hi:L[i]? with
 |none=>simp[qAC (show κ.length≤h.length by omega)]
 |some o=>cases o with
  |none=>simp[qAC (show κ.length≤h.length by omega)]
  |some l=>simp[at?]
theorem wH{i b:Nat}(hb:at? (Hg κ L) i=some b):∃l,L[i]? =some (some l)∧at? κ l=some b:=by
 unfold Hg at hb;simp only[at?,qAE]at hb;cases hi:L[i]? with
 |none=>rw[hi]at hb;cases hb
 |some o=>cases o with
  |none=>rw[hi]at hb;cases hb
  |some l=>rw[hi]at hb;exact⟨l,rfl,hb⟩
theorem OW.live{o o':AObj}(hw:OW h L o o')(hl:live o):live o':=by
 cases hw with
 |dead _=>exact hl.elim
 |box _ _=>trivial
 |tip _=>trivial
 |arr _=>trivial
 |same _ e=>rw[←e,jD];exact hl
theorem OW.pv{o o':AObj}{n:Nat}(hw:OW h L o o')(hp:Aw o n):Aw o' n:=by
 cases hw with
 |dead _=>exact hp.elim
 |box _ _=>trivial
 |tip _=>exact hp
 |arr _=>trivial
 |same _ e=>rw[←e,Im];exact hp
theorem Weak.pv(hs:Sim C κ ⟨t,h⟩ a w)(hw:Weak m t h L t' h'){b o:Nat}(hp:aH C.ak (Hg κ L) h' b o):aH C.ak κ h b o:=by
 rcases hp with hp|⟨i,h1,h2⟩
 ·exact .inl hp
 ·obtain⟨l,hl,hb⟩:=wH h1;exact .inr ⟨l,hb,(hw.obj i l hl).pv h2⟩
theorem Weak.val(hs:Sim C κ ⟨t,h⟩ a w)(hw:Weak m t h L t' h'){x y:AV}(hv:VW h L x y):∀{u:Value},Rel w κ (aH C.ak κ h) y u→Rel w (Hg κ L) (aH C.ak (Hg κ L) h') x u:=by
 have hat:∀i,at? (Hg κ L) i=at? κ (ou L h.length i):=fun i=>at?_kapW hs.klen;have key:∀(x:AV) {u:Value},Rel w κ (aH C.ak κ h) (ren (ou L h.length) x) u→Rel w (Hg κ L) (aH C.ak (Hg κ L) h') x u:=fun x u hx=>
  (hx.Ce hat _ rfl).mono (Evo.refl _ _) (dL.refl _) fun b o hp _=>hw.pv hs hp
 induction hv with
 |unk v=>intro u _;exact .unk u
 |same e=>intro u hu;rw[←e]at hu;exact key _ hu
 |share e=>intro u hu;rw[←e]at hu;exact key (.slice _ .shared) hu.share
 |nils j z=>
  intro u hu;cases hu with
  |slice b off sz y g1 g2 g3 g3' g4 g5 g6 gt=>
   exact .slice (es:=[]) (tag:=.tip j z) b off z y (fun i hi=>by cases hi) (fun hne=>(hne rfl).elim) g3 g3' (fun i j hi=>by cases hi) (fun i j hi=>by cases hi) (fun i j hi=>by cases hi) ⟨rfl,.inl gt⟩
 |nilF=>intro u hu;cases hu;exact .flnil
 |@frzF l cs cs' r v ho hn hl _ _ ih1 ih2=>
  intro u hu;obtain⟨b,e,hb⟩:=hu.sD;subst e;obtain⟨c,el,g1,g2,g3,g4⟩:=hs.box hb ho;have hlen:(cs'++[v]).length=cs.length+1:=by simp[hl]
  have hlive:live (obj? h l):=by rw[ho];trivial
  refine .flcons (fun j=>c.getD j undef) (c.getD cs.length undef) (fun j hj hp=>?_) (fun j hj=>by rw[qAL];exact g3 j (by omega)) (by rw[qAL];exact g3 _ (by omega)) (fun j hj=>ih1 j hj ?_) (ih2 ?_)
  ·rcases hp with hp|⟨i,h1,h2⟩
   ·exact hs.own l b hb hlive (hs.pvold _ _ hp)
   ·obtain⟨l',hl',hb'⟩:=wH h1;have:=hs.apart l l' b hb hb' hlive (PW ((hw.obj i l' hl').pv h2));subst this;exact hn (qAF hl')
  ·have:=g4 j (by omega);have e2:(cs'++[v]).getD j .unk=cs'.getD j .unk:=by simp[List.getD,qAg (show j<cs'.length by omega)]
   rw[e2]at this;exact this
  grind
 |nilP j z=>
  intro u hu;cases hu with
  |slice b off sz y g1 g2 g3 g3' g4 g5 g6 gt=>
   exact .psl (qAZ _) (by omega) ⟨rfl,.inl gt⟩
 |@adC l z n es es0 ho hn hle he=>
  intro u hu;cases hu with
  |@psl _ _ _ cap ad g1 g2 g3=>
   have hlen:es.length=n:=by
    have:=congrArg List.length he;rw[kL,qAz]at this;omega
   have hget:∀i,i<n→eT (ou L h.length) (es.getD i [])=es0.getD i []:=fun i hi=>by
    rw[←qW,he];simp only[List.getD,qBq,if_pos hi]
   obtain⟨_,ht⟩:=g3;rcases ht with⟨rfl,rfl⟩|⟨b,c,e,t1,rfl,t3,t4⟩
   ·have:es=[]:=qAD.1 (by omega);subst this;have hn0:n=0:=by simpa using hlen.symm
    subst hn0;exact .slice (es:=[]) 0 0 z (fun _ _=>undef) (fun i h=>by cases h) (fun h=>(h rfl).elim) (qAZ _) (by simp) (fun i j h=>by cases h) (fun i j h=>by cases h) (fun i j h=>by cases h) trivial
   ·have hlive:live (obj? h l):=by rw[ho];trivial
    have hob:=hs.obj l b t1 hlive;change qX w κ (aH C.ak κ h) b (obj? h l)at hob;rw[ho]at hob;obtain⟨c0,e0,q1,q2,q3,q4⟩:=hob;rw[t3]at q1;cases q1;rw[←hlen]at g1 g2⊢;refine .slice b 0 z (fun i j=>c.getD (i*z+j) undef) ?_ (fun _=>rfl) g1 (by omega) ?_ ?_ ?_ trivial
    ·intro i hi;have h5:=hget i (by omega);have h6:=q3 i (by omega);rw[←h5,jC]at h6;exact h6
    ·rintro i j hi hj (hp|⟨i',h1,h2⟩)
     ·exact hs.own l b t1 hlive (hs.pvold _ _ hp)
     ·obtain⟨l',hl',hb'⟩:=wH h1;have:=hs.apart l l' b t1 hb' hlive (PW ((hw.obj i' l' hl').pv h2));subst this;exact hn (qAF hl')
    ·intro i j hi hj;have h2:i*z+j<c.size:=qAB (uT (show i<es0.length by omega) hj) q2;simp[World.cell?,t3,Array.getD,h2]
    ·intro i j hi hj;have h5:=hget i (by omega);refine key _ ?_;rw[←jv,h5];exact q4 i j (by omega) hj
 |agg hl _ ih=>
  intro u hu;obtain⟨vs,e,g1,g2⟩:=hu.avH;subst e;exact .agg (g1.trans hl.symm) fun j hj=>ih j (g2 j (by omega))
 |tup hl _ ih=>
  intro u hu;obtain⟨vs,e,g1,g2⟩:=hu.alB;subst e;exact .tup (g1.trans hl.symm) fun j hj=>ih j (g2 j (by omega))
 |eptr hl _ ih=>
  intro u hu;cases hu with
  |eptr y h1 h2 h3=>exact .eptr y (fun j hj hp=>h1 j (by omega) (hw.pv hs hp)) (fun j hj=>h2 j (by omega)) fun j hj=>ih j (h3 j (by omega))
 |func hl _ ih=>
  intro u hu;obtain⟨vs,e,g1,g2⟩:=hu.LD;subst e;exact .func (g1.trans hl.symm) fun j hj=>ih j (g2 j (by omega))
 |@frz l off cs cs' ho hn hl _ ih=>
  intro u hu;obtain⟨b,e,hb⟩:=hu.sD;subst e;obtain⟨c,el,g1,g2,g3,g4⟩:=hs.box hb ho;refine .eptr (fun j=>c.getD (off+j) undef) (fun j hj hp=>?_) (fun j hj=>g3 _ (by omega)) fun j hj=>ih j (g4 _ (by omega));have hlive:live (obj? h l):=by rw[ho];trivial
  rcases hp with hp|⟨i,h1,h2⟩
  ·exact hs.own l b hb hlive (hs.pvold _ _ hp)
  ·obtain⟨l',hl',hb'⟩:=wH h1;have:=hs.apart l l' b hb hb' hlive (PW ((hw.obj i l' hl').pv h2));subst this;exact hn (qAF hl')
theorem Weak.sim(hk:C.k0.length≤m)(hs:Sim C κ ⟨t,h⟩ a w)(hw:Weak m t h L t' h'):Sim C (Hg κ L) ⟨t',h'⟩ a w:=by
 have hat:∀i,at? (Hg κ L) i=at? κ (ou L h.length i):=fun i=>at?_kapW hs.klen;refine⟨hs.defers,hs.len.trans hw.tlen.symm,?_,by simp[Hg,hw.hlen],?_,?_,?_,?_,?_,?_,hs.pvold,hs.oldlt,hs.old,hs.os,hs.tape,hs.output,hs.size,fun b o hp hlt=>hs.pvsub b o (hw.pv hs hp) hlt,hs.ny⟩
 ·intro n hn;exact hw.val hs (hw.slot n) (hs.slot n (by rw[←hw.tlen];exact hn))
 ·intro l b hb;have hlt:=lt_of_at? hb;have:=hw.idm l (by omega);rw[hat];simp only[ou,this,qAw];exact hs.kext l b hb
 ·intro i hi;cases hL:L[i]? with
  |none=>rw[hat];simp only[ou,hL,qDl];exact at?_none_of_le (by rw[hs.klen];exact qAd _)
  |some o=>cases o with
   |none=>rw[hat];simp only[ou,hL,qDl,qAw];exact at?_none_of_le (by rw[hs.klen];exact qAd _)
   |some l=>
    exfalso;have:=hw.obj i l hL;change obj? h' i=.res at hi;rw[hi]at this;cases this with
    |same h1 _=>cases h1
 ·intro i b hb hl;obtain⟨l,hL,hb'⟩:=wH hb;have ho:=hw.obj i l hL;have hr:=hs.obj l b hb' (ho.live hl);change qX w (Hg κ L) (aH C.ak (Hg κ L) h') b (obj? h' i);change live (obj? h' i)at hl;generalize he:obj? h' i=o at *;generalize he2:obj? h l=o2 at *;cases ho with
  |dead _=>exact hl.elim
  |box e hv=>
   obtain⟨c,e',g1,g2,g3⟩:=hr;exact⟨c,e',g1,g2.trans e.symm,fun j hj=>hw.val hs (hv j) (g3 j (by omega))⟩
  |tip n=>
   exact hr
  |@arr z n es es0 e=>
   obtain⟨c,e',g1,g2,g3,g4⟩:=hr;have hlen:es.length≤es0.length∧es.length≤n:=by
    have:=congrArg List.length e;rw[kL,qAz]at this;omega
   have hget:∀i,i<es.length→eT (ou L h.length) (es.getD i [])=es0.getD i []:=fun i hi=>by
    rw[←qW,e]
    grind
   refine⟨c,e',g1,qAs (qAQ _ hlen.1) g2,fun i hi=>?_,fun i j hi hj=>?_⟩
   ·have h6:=g3 i (by omega);rw[←hget i hi,jC]at h6;exact h6
   ·refine hw.val hs (.same rfl) ?_;rw[←jv,hget i hi]
    grind
  |same _ e=>
   rw[←e]at hr;exact(hr.Ce hat).mono rfl (Evo.refl _ _) (dL.refl _) fun b o hp _=>hw.pv hs hp
 ·intro i j b h1 h2 h3 h4;obtain⟨l,hL,hb⟩:=wH h1;obtain⟨l',hL',hb'⟩:=wH h2;have:=hs.apart l l' b hb hb' ((hw.obj i l hL).live h3) ((hw.obj j l' hL').live h4);subst this;exact hw.inj i j l hL hL' h3 h4
 ·intro i b h1 h2;obtain⟨l,hL,hb⟩:=wH h1;exact hs.own l b hb ((hw.obj i l hL).live h2)
 ·intro i b h1;obtain⟨l,_,hb⟩:=wH h1;exact hs.bound l b hb
end
def Le(m:Nat)(t:List AV)(h:List AObj)(t':List AV)(h':List AObj):Prop:=
 ∀(C:Ctx) (κ:aS) (a:Act) (w:World),C.k0.length≤m→Sim C κ ⟨t,h⟩ a w→∃κ',Sim C κ' ⟨t',h'⟩ a w
theorem Le.of{m:Nat}{t t':List AV}{h h':List AObj}(L:List (Option Nat))(hw:Weak m t h L t' h'):Le m t h t' h':=fun _ _ _ _ hk hs=>⟨_,hw.sim hk hs⟩
theorem Le.trans{m:Nat}{t t' t'':List AV}{h h' h'':List AObj}(h1:Le m t h t' h')(h2:Le m t' h' t'' h''):Le m t h t'' h'':=fun C κ a w hk hs=>by
 obtain⟨κ',hs'⟩:=h1 C κ a w hk hs;exact h2 C κ' a w hk hs'
theorem AW.le{P:Program}{m:Nat}{c:Code}{Q:QT}{t t':List AV}{h h':List AObj}(hl:Le m t h t' h')(hc:AW P m c Q t' h'):AW P m c Q t h:=fun C κ a w hk hs=>by
 obtain⟨κ',hs'⟩:=hl C κ a w hk hs;exact hc C κ' a w hk hs'
end
section
open Go
def VK:Nat→List (Nat×Operand)→Bool
 |_,[]=>true
 |i,p::ps=>Nat.beq p.1 i&&VK (i+1) ps
theorem afL{sz:Nat}:∀{css:List (List AV)},(∀c∈css,c.length=sz)→css.flatten.length=css.length*sz
 |[],_=>by simp
 |c::css,h=>by
  simp only[qCi,qAe];rw[h c (by simp),afL (fun c hc=>h c (by simp[hc]))]
  grind
theorem afe{ρ:Operand→AV}{sz:Nat}:∀(ps:List (Nat×Operand)) (i:Nat) (css:List (List AV)) (cells:List AV),VK i ps=true→css.length=ps.length→(∀c∈css,c.length=sz)→(∀j:Nat,j<ps.length→∃p,ps[j]? =some p∧eO (ρ p.2)=css[j]?)→(i+ps.length)*sz≤cells.length→
  lH (fun i=>some (i*sz,sz)) cells (ps.map fun p=>(p.1,ρ p.2))=some (cells.take (i*sz)++css.flatten++cells.drop ((i+ps.length)*sz)):=by
 intro ps
 induction ps with
 |nil=>intro i css cells _ hl _ _ _;have:css=[]:=qAD.1 hl;subst this;simp[lH]
 |cons p ps ih=>
  intro i css cells hc hl hz hp hle;simp only[VK,qAa]at hc;obtain⟨hc1,hc2⟩:=hc;have hi:p.1=i:=qAj hc1;cases css with
  |nil=>simp at hl
  |cons c css=>
   obtain⟨q,q1,q2⟩:=hp 0 (by simp);simp only[qAG,Option.some.injEq]at q1 q2;subst q1;have hcl:c.length=sz:=hz c (by simp);simp only[qAp]at hle hl;have e1:(i+(ps.length+1))*sz=i*sz+(ps.length*sz+sz):=by rw[qAU,qAU,qCf]
   rw[e1]at hle;simp only[qAy,lH,hi,q2];rw[if_pos ⟨hcl,by omega⟩];rw[ih (i+1) css _ hc2 (by omega) (fun c hc=>hz c (by simp[hc])) (fun j hj=>by
    obtain⟨q,q1,q2⟩:=hp (j+1) (by simpa using hj);exact⟨q,by simpa using q1,by simpa using q2⟩) (by
     simp only[qAe,qAz,qCC,hcl];rw[show(i+1+ps.length)*sz=i*sz+sz+ps.length*sz by rw[qAU,qAU,qCf]];omega)]
   congr 1;have t1:(cells.take (i*sz)++c++cells.drop (i*sz+sz)).take ((i+1)*sz)=cells.take (i*sz)++c:=by
    rw[List.take_append_of_le_length (by simp[hcl];rw[qAU];omega)];apply qCg;simp[hcl];rw[qAU];omega
   have t2:(cells.take (i*sz)++c++cells.drop (i*sz+sz)).drop ((i+1+ps.length)*sz)=cells.drop ((i+(ps.length+1))*sz):=by
    have hl2:(cells.take (i*sz)++c).length=i*sz+sz:=by simp[hcl];omega
    rw[show(i+1+ps.length)*sz=(cells.take (i*sz)++c).length+ps.length*sz by rw[hl2,qAU,qAU,qCf]];rw[←qEk,qCU,qEk,e1];congr 1;omega
   rw[t1];simp only[qAp];rw[t2];simp[qAm]
theorem chunks_flatten{sz:Nat}:∀{css:List (List AV)},(∀c∈css,c.length=sz)→chunks sz css.length css.flatten=css
 |[],_=>rfl
 |c::css,h=>by
  have hc:c.length=sz:=h c (by simp);simp only[qAp,chunks,qCi];rw[List.take_left' hc,qDs hc,chunks_flatten (fun c hc=>h c (by simp[hc]))]
theorem alC{P:Program}{e:Nat}{k:IntKind}(h:(TI.of P e).int=some k):P.underlying e=some (.int k):=by
 have:intTy P e=some k:=h;unfold intTy at this
 grind
end
section
open Go
end
section
open Go
theorem ob{α β:Type}{x:Option α}{k:α→Option β}{r:β}(h:x.bind k=some r):∃a,x=some a∧k a=some r:=by
 cases x with
 |none=>cases h
 |some a=>exact⟨a,rfl,h⟩
inductive LR(σ ρ:Type) where
 |nx (s:σ)
 |rt (r:ρ)
def LR.on{σ ρ:Type}(k:σ→Option ρ):LR σ ρ→Option ρ
 | .nx s=>k s
 | .rt r=>some r
@[reducible] def LR.el{σ ρ β:Type}(k:σ→β)(j:ρ→β):LR σ ρ→β
 | .nx s=>k s
 | .rt r=>j r
def idx{α:Type}(l:List α)(i:Int):Option α:=if 0≤i then l[i.toNat]? else none
def app{α:Type}(b:Nat)(l ys:List α):Option (List α):=if(l.length+ys.length)*b≤140737488355328∧l.length+ys.length≤140737488355328 then some (l++ys)else none
def oL(s:List UInt8)(i:Int):Option Int:=if 0≤i∧i<s.length then some ((s.getD i.toNat 0).toNat:Int)else none
def awL(a b:List UInt8):Option (List UInt8):=if a.length+b.length≤9223372036854775807 then some (a++b)else none
def kQ{α:Type}(s:List α)(lo hi:Int):Option (List α):=if 0≤lo∧lo≤hi∧hi≤s.length then some ((s.drop lo.toNat).take (hi.toNat - lo.toNat))else none
theorem ayI{n:Int}(h1: -9223372036854775808≤n)(h2:n≤9223372036854775807):n=IntKind.wrap .i64 n:=by
 simp only[IntKind.wrap,IntKind.signed,IntKind.bits];simp;omega
inductive Bd:Option AV→Int→Int→Prop where
 |none (d:Int):Bd none d d
 |int (k:IntKind) (n d:Int):Bd (some (.int k n)) n d
theorem aIs{s x:List UInt8}{lo hi:Option AV}{a b:Int}{B:List UInt8→Prop}(hx:kQ s a b=some x)(ha:Bd lo a 0)(hb:Bd hi b s.length)(hk:B x):∃r,(∃l h,eX hi s.length s.length=some h∧eX lo 0 h=some l∧r=(s.drop l).take (h - l))∧B r:=by
 unfold kQ at hx;split at hx
 ·rename_i h0;cases hx;refine⟨_,⟨a.toNat,b.toNat,?_,?_,rfl⟩,hk⟩
  ·cases hb with
   |none=>simp[eX]
   |int k n=>simp[eX];omega
  ·cases ha with
   |none=>simp[eX]
   |int k n=>simp[eX];omega
 ·cases hx
theorem aJN{α:Type}{l x:List α}{f:α→List AV}{sz:Nat}{lo hi:Option AV}{a b:Int}{B:List (List AV)→Prop}(hx:kQ l a b=some x)(ha:Bd lo a 0)(hb:Bd hi b l.length)(hf:∀x,dH sz (f x)=true)(hk:B (x.map f)):
  ∃r,(∃i h,eX hi (l.map f).length (l.map f).length=some h∧eX lo 0 h=some i∧(i<(l.map f).length→((l.map f).getD i []).length=sz)∧r=((l.map f).drop i).take (h - i))∧B r:=by
 unfold kQ at hx;split at hx
 ·rename_i h0;cases hx;refine⟨_,⟨a.toNat,b.toNat,?_,?_,?_,?_⟩,hk⟩
  ·cases hb with
   |none=>simp[eX]
   |int k n=>simp[eX];omega
  ·cases ha with
   |none=>simp[eX]
   |int k n=>simp[eX];omega
  ·intro hi;rw[qAi]at hi;have:=hf l[a.toNat];simp only[dH]at this
   grind
  simp_all
 ·cases hx
theorem Qq{α:Type}{l ys r:List α}{b:Nat}(h:app b l ys=some r):(l.length+ys.length)*b≤140737488355328∧l.length+ys.length≤140737488355328∧r=l++ys:=by
 unfold app at h
 grind
theorem F7{α:Type}{f:α→List AV}{sz:Nat}(hf:∀x,dH sz (f x)=true)(l:List α):(l.map f).all (dH sz)=true:=by grind
abbrev u2(l:List AV):List AV:=.unk:: .unk::l
abbrev u4(l:List AV):List AV:=u2 (u2 l)
abbrev u8(l:List AV):List AV:=u4 (u4 l)
abbrev u16(l:List AV):List AV:=u8 (u8 l)
abbrev u32(l:List AV):List AV:=u16 (u16 l)
abbrev u64(l:List AV):List AV:=u32 (u32 l)
section
variable {h:List AObj}{L:List (Option Nat)}{xs ys:List AV}
end
end
section
open Go
structure Carrier where
 name:Str
 elems:List Str
structure Decl where
 name:Str
 ty:Ty
structure Env where
 carriers:List Carrier
 names:List Decl
def encI(n:Int):List AV:=[.int .i64 n]
def encS(s:Str):List AV:=[.str s]
def MZ(n:Int):List AV:=[.int .u8 n]
def kU(x:Carrier):List AV:=[.str x.name,.slice (x.elems.map encS) .shared]
def ji(x:Decl):List AV:=[.str x.name,.int .i64 x.ty.kind,.str x.ty.name,.slice (x.ty.kids.map oK) .shared]
theorem Qs{α:Type}{f:α→List AV}(hf:∀g x,eT g (f x)=f x)(g:Nat→Nat)(l:List α):gY g (l.map f)=l.map f:=by
 rw[Us,qBh];exact qBu fun x _=>hf g x
theorem ay0(g:Nat→Nat)(l:List Str):gY g (l.map encS)=l.map encS:=Qs (fun _ _=>rfl) g l
theorem avd(g:Nat→Nat)(l:List Ty):gY g (l.map oK)=l.map oK:=aFu g l
theorem aEP(g:Nat→Nat)(l:List Tm):gY g (l.map lY)=l.map lY:=aEE g l
theorem asr(g:Nat→Nat)(l:List Carrier):gY g (l.map kU)=l.map kU:=Qs (fun g x=>by simp only[kU,eT,ren,xu,ay0]) g l
theorem azE(g:Nat→Nat)(l:List Decl):gY g (l.map ji)=l.map ji:=Qs (fun g x=>by simp only[ji,eT,ren,xu,avd]) g l
theorem aql(g:Nat→Nat)(x:Carrier):eT g (kU x)=kU x:=by simp only[kU,eT,ren,xu,ay0]
theorem azP(g:Nat→Nat)(x:Decl):eT g (ji x)=ji x:=by simp only[ji,eT,ren,xu,avd]
def dn{α:Type}(m:List (Str×α))(k:Str):Option α:=(m.find? fun p=>p.1==k).map (·.2)
def lJ{α:Type}(m:List (Str×α))(k:Str)(v:α):List (Str×α):=
 match m with
 |[]=>[(k,v)]
 |p::r=>if p.1==k then(k,v)::r else p::lJ r k v
def yG{α:Type}(m:List (Str×α))(k:Str)(v:α):Option (List (Str×α)):=if m.length<140737488355328 then some (lJ m k v)else none
@[reducible] def mel{α β:Type}(o:Option α)(Y:β)(X:α→β):β:=match o with|some v=>X v|none=>Y
theorem ahs{α:Type}(f:α→AV):∀(m:List (Str×α)) (k:Str),tN (m.map fun p=>(p.1,f p.2)) k=(dn m k).map f
 |[],k=>rfl
 |p::m,k=>by
  have ih:=ahs f m k;unfold tN dn at *;simp only[qAy,qCd];cases h:(p.1==k)
  ·exact ih
  ·rfl
theorem alk{α:Type}(f:α→AV):∀(m:List (Str×α)) (k:Str) (v:α),I9 (m.map fun p=>(p.1,f p.2)) k (f v)=(lJ m k v).map fun p=>(p.1,f p.2)
 |[],k,v=>rfl
 |p::m,k,v=>by
  simp only[qAy,I9,lJ];split
  ·rfl
  ·rw[alk f m k v];rfl
def unc{α:Type}:List α→Option (α×List α)
 |[]=>none
 |x::r=>some (x,r)
theorem aDg(g:Nat→Nat)(xs ys:List AV):eT g (xs++ys)=eT g xs++eT g ys:=by simp only[vE,qBj]
def upd{α:Type}(l:List α)(i:Int)(v:α):List α:=l.set i.toNat v
theorem Nb{α:Type}{l:List α}{n:Int}{x:α}(h:idx l n=some x):0≤n∧n<(l.length:Int)∧l[n.toNat]? =some x:=by
 unfold idx at h;split at h
 ·rename_i h0;have:=(qAH.1 h).1;exact⟨h0,by omega,h⟩
 ·cases h
end
section
open Go
inductive Val where
 |mk (kind:Int) (n:Int) (name:Str) (kids:List Val)
def Val.kind:Val→Int| .mk k _ _ _=>k
def Val.n:Val→Int| .mk _ n _ _=>n
def Val.name:Val→Str| .mk _ _ s _=>s
def Val.kids:Val→List Val| .mk _ _ _ ks=>ks
mutual
def bf:Val→List AV
 | .mk k n s ks=>[.int .i64 k,.int .i64 n,.str s,.slice (IL ks) .shared]
def IL:List Val→List (List AV)
 |[]=>[]
 |t::ts=>bf t::IL ts
end
theorem Mc:∀ts,IL ts=ts.map bf
 |[]=>rfl
 |t::ts=>by simp[IL,Mc ts]
theorem iC(t:Val):bf t=[.int .i64 t.kind,.int .i64 t.n,.str t.name,.slice (t.kids.map bf) .shared]:=by
 cases t;simp[bf,Mc,Val.kind,Val.n,Val.name,Val.kids]
mutual
theorem PX(g:Nat→Nat):∀t,eT g (bf t)=bf t
 | .mk k n s ks=>by simp only[bf,eT,ren,xu,Vb g ks]
theorem Vb(g:Nat→Nat):∀ts,gY g (IL ts)=IL ts
 |[]=>rfl
 |t::ts=>by simp only[IL,gY,PX g t,Vb g ts]
end
theorem apW(g:Nat→Nat)(ts:List Val):gY g (ts.map bf)=ts.map bf:=by rw[←Mc];exact Vb g ts
end
section
open Go
structure Bound where
 name:Str
 v:Val
inductive ET where
 |i|u|s|b|car|dec|ty|tm|env|val|bnd|vals|tms
@[reducible] def ET.D:ET→Type
 | .i=>Int| .u=>Int| .s=>Str| .b=>Bool| .car=>Carrier| .dec=>Decl| .ty=>Ty| .tm=>Tm| .env=>Env| .val=>Val| .bnd=>Bound| .vals=>List Val| .tms=>List Tm
def ET.no:ET→Nat
 | .i=>0| .u=>1| .s=>2| .b=>3| .car=>4| .dec=>5| .ty=>6| .tm=>7| .env=>8| .val=>9| .bnd=>10| .vals=>11| .tms=>12
theorem ET.inj:∀x y:ET,x.no=y.no→x=y:=by intro x y h;cases x<;>cases y<;>first|rfl|cases h
def ET.eq?(x y:ET):Option (PLift (x=y)):=if h:x.no=y.no then some ⟨ET.inj x y h⟩else none
theorem ET.eq_self(a:ET):ET.eq? a a=some ⟨rfl⟩:=by unfold ET.eq?;rw[dif_pos rfl]
inductive LT where
 |n (k:IntKind)|b|s|l (e:ET)|t (e:ET)|m (e:ET)|f (e:ET)
@[reducible] def LT.D:LT→Type
 | .n _=>Int| .b=>Bool| .s=>Str| .l e=>List e.D| .t e=>e.D| .m e=>List (Str×e.D)| .f e=>List e.D
def IntKind.no:IntKind→Nat
 | .i8=>0| .i16=>1| .i32=>2| .i64=>3| .u8=>4| .u16=>5| .u32=>6| .u64=>7
def LT.no:LT→Nat
 | .n k=>8*IntKind.no k| .b=>1| .s=>2| .l e=>8*e.no+3| .t e=>8*e.no+4| .m e=>8*e.no+5| .f e=>8*e.no+6
theorem LT.inj(x y:LT)(h:x.no=y.no):x=y:=by
 cases x<;>cases y<;>simp only[LT.no]at h<;>first
  |rfl
  |(exfalso;omega)
  |(rename_i x y;have:x.no=y.no:=(by omega);rw[ET.inj x y this])
  |(rename_i x y;cases x<;>cases y<;>simp only[IntKind.no]at h<;>first|rfl|omega)
  |omega
def LT.eq?(x y:LT):Option (PLift (x=y)):=if h:x.no=y.no then some ⟨LT.inj x y h⟩else none
def jI:List LT→Type
 |[]=>Unit
 |[t]=>t.D
 |t::u::ts=>t.D×jI (u::ts)
structure U where
 t:LT
 x:t.D
def fF:(ts:List LT)→jI ts→List U
 |[],_=>[]
 |[t],x=>[⟨t,x⟩]
 |t::u::ts,x=>⟨t,x.1⟩::fF (u::ts) x.2
def kZ{γ:Type}(t:LT)(u:U)(K:t.D→Option γ):Option γ:=match LT.eq? u.t t with
 |some ⟨h⟩=>K (h▸u.x)
 |none=>none
def AJ{γ:Type}:(ts:List LT)→List U→(jI ts→Option γ)→Option γ
 |[],us,K=>match us with|[]=>K ()|_=>none
 |[t],us,K=>match us with|[u]=>kZ t u K|_=>none
 |t::t'::ts,us,K=>match us with|u::us=>kZ t u fun x=>AJ (t'::ts) us fun y=>K (x,y)|[]=>none
def ET.cs:ET→List LT
 | .i=>[.n .i64]| .u=>[.n .u8]| .s=>[.s]| .b=>[.b]
 | .car=>[.s,.l .s]| .dec=>[.s,.t .ty]| .ty=>[.n .i64,.s,.l .ty]| .tm=>[.n .i64,.s,.n .i64,.t .ty,.l .tm]
 | .env=>[.l .car,.l .dec]| .val=>[.n .i64,.n .i64,.s,.l .val]| .bnd=>[.s,.t .val]| .vals=>[.l .val]| .tms=>[.l .tm]
def ET.un:(e:ET)→e.D→jI e.cs
 | .i,x=>x| .u,x=>x| .s,x=>x| .b,x=>x
 | .car,x=>(x.name,x.elems)| .dec,x=>(x.name,x.ty)| .ty,x=>(x.kind,x.name,x.kids)| .tm,x=>(x.op,x.name,x.n,x.ty,x.kids)
 | .env,x=>(x.carriers,x.names)| .val,x=>(x.kind,x.n,x.name,x.kids)| .bnd,x=>(x.name,x.v)| .vals,x=>x| .tms,x=>x
def ET.mk:(e:ET)→jI e.cs→e.D
 | .i,x=>x| .u,x=>x| .s,x=>x| .b,x=>x
 | .car,x=>⟨x.1,x.2⟩| .dec,x=>⟨x.1,x.2⟩| .ty,x=>.mk x.1 x.2.1 x.2.2| .tm,x=>.mk x.1 x.2.1 x.2.2.1 x.2.2.2.1 x.2.2.2.2
 | .env,x=>⟨x.1,x.2⟩| .val,x=>.mk x.1 x.2.1 x.2.2.1 x.2.2.2| .bnd,x=>⟨x.1,x.2⟩| .vals,x=>x| .tms,x=>x
def ET.sc:ET→Bool
 | .i=>true| .u=>true| .s=>true| .b=>true| .vals=>true| .tms=>true|_=>false
def ET.sz:ET→Nat
 | .i=>1| .u=>1| .s=>1| .b=>1| .car=>2| .dec=>4| .ty=>3| .tm=>7| .env=>2| .val=>4| .bnd=>5| .vals=>1| .tms=>1
def ET.enc:(e:ET)→e.D→List AV
 | .i=>encI| .u=>MZ| .s=>encS| .b=>fun x=>[.bool x]| .car=>kU| .dec=>ji| .ty=>oK| .tm=>lY
 | .env=>fun x=>[.slice (x.carriers.map kU) .shared,.slice (x.names.map ji) .shared]| .val=>bf
 | .bnd=>fun x=>.str x.name::bf x.v| .vals=>fun x=>[.slice (x.map bf) .shared]| .tms=>fun x=>[.slice (x.map lY) .shared]
inductive TV where
 |unk|nilp|nilF|nils
 |lf (t:LT) (x:t.D)
 |nat (n:Nat)
 |ptr (l off:Nat)
 |eptr (cs:List TV)
 |agg (cs:List TV)
 |tup (cs:List TV)
 |func (f:Nat) (cs:List TV)
 |mapr (l:Nat)
 |own (l:Nat)
 |psl (l z:Nat) (c:Option Nat)
 |ap (l:Nat) (i:Int) (z off:Nat)
inductive TObj where
 |box (cs:List TV)
 |own (e:ET) (xs:List e.D)
 |gone (e:ET) (xs:List e.D)
 |mp (e:ET) (xs:List (Str×e.D))
 |arr (e:ET) (xs:List e.D)
 |gon (n:Nat)
 |dead
 |res
noncomputable def nth{α:Type}(d:α)(l:List α):Nat→α:=List.rec (motive:=fun _=>Nat→α) (fun _=>d) (fun x _ ih n=>Nat.rec (motive:=fun _=>α) x (fun m _=>ih m) n) l
theorem jF{α:Type}(d:α):∀(l:List α) (n:Nat),nth d l n=l.getD n d
 |[],_=>rfl
 |_::_,0=>rfl
 |_::xs,n+1=>(jF d xs n).trans (by simp[List.getD])
def kr:(t:LT)→t.D→AV
 | .n k,x=>.int k x
 | .b,x=>.bool x
 | .s,x=>.str x
 | .l e,x=>.slice (List.map e.enc x) .shared
 | .t e,x=>.agg (e.enc x)
 | .m _,_=>.unk
 | .f e,x=>.flist (List.map e.enc x)
def gD(l:Nat):TObj→AV
 | .own e xs=>.slice (xs.map e.enc) (.tip l e.sz)
 | .gone e xs=>.slice (xs.map e.enc) (.tip l e.sz)
 |_=>.unk
def eY(l z:Nat):TObj→AV
 | .arr _ xs=>.psl l z xs.length
 | .gon n=>.psl l z n
 |_=>.unk
def AB(v:TV)(a:AV):List AV:=match v with
 | .lf (.t e) x=>e.enc x
 |_=>[a]
mutual
noncomputable def av(H:List TObj):TV→AV
 | .unk=>.unk
 | .nilp=>.nilp
 | .nilF=>.nilFunc
 | .nils=>.slice [] .nils
 | .lf t x=>kr t x
 | .nat n=>.int .i64 n
 | .ptr l o=>.ptr l o
 | .eptr cs=>.eptr (bq H cs)
 | .agg cs=>.agg (bq H cs)
 | .tup cs=>.tup (aU H cs)
 | .func f cs=>.func f (aU H cs)
 | .mapr l=>.mapr l
 | .own l=>gD l (nth .dead H l)
 | .psl l z c=>match c with
  |none=>eY l z (nth .dead H l)
  |some n=>.psl l z n
 | .ap l i z off=>.ptr l (i.toNat*z+off)
noncomputable def bq(H:List TObj):List TV→List AV
 |[]=>[]
 |v::vs=>AB v (av H v)++bq H vs
noncomputable def aU(H:List TObj):List TV→List AV
 |[]=>[]
 |v::vs=>av H v::aU H vs
end
def ET.one(e:ET)(x:e.D):AV:=match e.sc,e.enc x with
 |true,[v]=>v
 |_,cs=>.agg cs
noncomputable def gV(H:List TObj):TObj→AObj
 | .box cs=>.box (bq H cs)
 | .own e xs=>.tip (xs.length*e.sz)
 | .gone _ _=>.dead
 | .mp e xs=>.mp (xs.map fun p=>(p.1,e.one p.2))
 | .arr e xs=>.arr e.sz (xs.map e.enc)
 | .gon _=>.dead
 | .dead=>.dead
 | .res=>.res
end
section
open Go
def Vr(a c:Int):Option Int:=if c=0 then none else some (a.tmod c)
end
section
open Go
def adw(a c:Int):Option Int:=if 0≤c∧c≤62 then some (IntKind.wrap .i64 (a*2^c.toNat))else none
end
end Abs
end Go.Proofs.YthgdaonechbgmaaGreat
