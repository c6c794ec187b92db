/-
  Regions that draw their order: the theorem ('AWP.drawn'). Conditions: none; lemmas over any program.
-/
import Derived.Test.YtneeginmfjageaaGreatCAbs17ox7edbad
set_option linter.unusedSimpArgs false
set_option linter.unusedVariables false
namespace Go.Proofs.YtneeginmfjageaaGreat
namespace Abs
section
open Go
structure Agree(t s:ASt)(e:Eff):Prop where
 tl:t.tmps.length=s.tmps.length
 hl:t.heap.length=s.heap.length
 rs:∀n∈e.rs,t.tmps.getD n .unk=s.tmps.getD n .unk
 ro:∀l∈e.ro,obj? t.heap l=obj? s.heap l
def Gs P ops o s e:=∀t,Agree t s e→az2 P ops o t (t.wr e.ws)
inductive ATr(P:Program)(ops:Array Oper):List Oper→List Eff→ASt→ASt→Prop where
 | nil (s:ASt):ATr P ops [] [] s s
 | cons {o:Oper} {l:List Oper} {e:Eff} {es:List Eff} {s s':ASt}:Gs P ops o s e→ATr P ops l es (s.wr e.ws) s'→ATr P ops (o::l) (e::es) s s'
theorem ATr.steps{P}{ops}{l}{es}{s s'}(h:ATr P ops l es s s'):ASteps P ops l s s':=by
 induction h with
 | nil s=>exact .nil s
 | cons he _ ih=>exact .cons (he _ ⟨rfl,rfl,fun _ _=>rfl,fun _ _=>rfl⟩) ih
def oF(o:Oper):=(o.after.toList.filter (Region.binds .any)).map (·.on)
def Dp:List Oper→List (List Nat)→List (List Nat)
 | [],acc=>acc
 | o::l,acc=>Dp l (acc++[oF o++(oF o).flatMap fun p=>acc.getD p []])
def eX(e f:Eff):=
 (gT e.ws).any (fun n=>f.rs.contains n ||(gT f.ws).contains n) ||(gT f.ws).any (fun n=>e.rs.contains n) ||
 (iQ e.ws).any (fun n=>f.ro.contains n ||(iQ f.ws).contains n) ||(iQ f.ws).any fun n=>e.ro.contains n
def uQ:Eff:=⟨[],[],[]⟩
def kY(l)(es:List Eff):=
 (List.range l.length).all fun j=>(oF (l.getD j default)).all (fun p=>decide (p<j))&&(List.range j).all fun i=>!eX (es.getD i uQ) (es.getD j uQ) ||((Dp l []).getD j []).contains i
theorem Kq{D:Nat→Prop}:∀l acc,(∀j i,D j→i∈acc.getD j []→D i)→(∀j o,l[j]? =some o→D (acc.length+j)→∀p∈oF o,D p)→∀j i,D j→i∈(Dp l acc).getD j []→D i:=by
 intro l
 induction l with
 | nil=>intro acc h _ j i hj hi;exact h j i hj hi
 | cons o l ih=>
  intro acc h hc j i hj hi;simp only[Dp] at hi;refine ih _ ?_ ?_ j i hj hi
  ·intro j i hj hi;by_cases hlt:j<acc.length
   ·rw[List.getD,qAi hlt] at hi;exact h j i hj hi
   ·by_cases he:j=acc.length
    ·subst he;rw[List.getD,qAk (qAd _)] at hi;simp only[qCX,qAD,qAv,qAn,qBn] at hi;have hp:=hc 0 o (by simp) hj
     grind
    grind
  ·intro j o' hj' hD p hp;refine hc (j+1) o' (by simpa using hj') ?_ p hp
   grind
theorem ATr.spec{P}{ops}{l}{es}{s s'}(h:ATr P ops l es s s'):l.length=es.length∧s'=s.wr (bE (fun _=>true) 0 es)∧
  ∀i o e,l[i]? =some o→es[i]? =some e→Gs P ops o (s.wr (bE (fun j=>decide (j<i)) 0 es)) e:=by
 have hz:∀(es:List Eff) (k:Nat),bE (fun _=>false) k es=[]:=fun es=>by
  induction es with
  | nil=>intro k;rfl
  | cons e es ih=>intro k;simp[bE,ih]
 have hcongr:∀(D D':Nat→Bool) (es:List Eff) (k k':Nat),(∀i,D (k+i)=D' (k'+i))→bE D k es=bE D' k' es:=fun D D' es=>by
  induction es with
  | nil=>intro k k' _;rfl
  | cons e es ih=>
   intro k k' h;simp only[bE];have h0:=h 0;rw[qAP,qAP] at h0;rw[h0,ih (k+1) (k'+1) (fun i=>by have:=h (i+1);rwa[show k+(i+1)=k+1+i from by omega,show k'+(i+1)=k'+1+i from by omega] at this)]
 induction h with
 | nil s=>exact⟨rfl,rfl,fun i o e h=>by simp at h⟩
 | @cons o l e es s s' he _ ih=>
  obtain⟨h1,h2,h3⟩:=ih;refine⟨by simp[h1],?_,fun i o' e' hi hi'=>?_⟩
  ·rw[h2];simp only[bE,Fp]
   grind
  ·cases i with
   | zero=>
    simp at hi hi';subst hi hi';have:bE (fun j=>decide (j<0)) 0 (e::es)=[]:=by
     simp_all
    rw[this];exact he
   | succ i=>
    have:=h3 i o' e' (by simpa using hi) (by simpa using hi');have hf:bE (fun j=>decide (j<i+1)) 0 (e::es)=e.ws++bE (fun j=>decide (j<i)) 0 es:=by
     simp only[bE]
     grind
    rw[hf,Fp];exact this
theorem Sw{e f}{n}(h:eX e f=false)(he:n∈gT e.ws):n∉f.rs∧n∉gT f.ws:=by
 simp only[eX] at h
 grind
theorem Uw{e f}{n}(h:eX e f=false)(he:n∈iQ e.ws):n∉f.ro∧n∉iQ f.ws:=by
 simp only[eX] at h
 grind
theorem abe{listed:Array Bool}{i}(hi:i<listed.size)(hf:listed.getD i true=false):((listed.setIfInBounds i true).toList.filter (!·)).length+1=(listed.toList.filter (!·)).length:=by
 have key:∀(l:List Bool) (i:Nat),i<l.length→l.getD i true=false→((l.set i true).filter (!·)).length+1=(l.filter (!·)).length:=by
  intro l
  induction l with
  | nil=>intro i hi;simp at hi
  | cons x l ih=>
   intro i hi hg;cases i with
   | zero=>simp[List.getD] at hg;subst hg;simp
   | succ i=>
    grind
 simp_all
theorem atN{P}{l}{es}{s s'}{C}{Q}(htr:ATr P l.toArray l es s s')(hok:kY l es=true)(hq:∀κ' a' w',Sim C κ' s' a' w'→Q .normal a' w'):
  ∀fuel listed κ a w,listed.size=l.length→(listed.toList.filter (!·)).length=fuel→
   (∀j o,l[j]? =some o→listed.getD j false=true→∀p∈oF o,listed.getD p false=true)→
   Sim C κ (s.wr (bE (fun i=>listed.getD i false) 0 es)) a w→wpAny P .any l.toArray Q fuel listed a w:=by
 obtain⟨hlen,hs',heff⟩:=htr.spec;have hord:∀j,j<l.length→(∀p∈oF (l.getD j default),p<j)∧∀i,i<j→eX (es.getD i uQ) (es.getD j uQ)=true→i∈(Dp l []).getD j []:=fun j hj=>by
  have:=qAE.1 hok j (qCc.2 hj)
  grind
 have hall:∀(listed:Array Bool),listed.size=l.length→Region.ready .any l.toArray listed=[]→∀i,i<l.length→listed.getD i false=true:=by
  intro listed hsz hr i
  induction i using Nat.strongRecOn with
  | _ i ih=>
   intro hi;cases hb:listed.getD i false with
   | true=>rfl
   | false=>
    exfalso;have hlt:i<listed.size:=by omega
    have:i∈Region.ready .any l.toArray listed:=by
     refine mem_ready.2 ⟨?_,l[i],by simp[hi],fun e he hbd=>?_⟩
     ·simpa[Array.getD,hlt] using hb
     ·have hp:=(hord i hi).1 e.on (by
       simp only[oF,List.getD,qAc hi,qAv];exact qAA.2 ⟨e,qAQ.2 ⟨by simpa using he,hbd⟩,rfl⟩)
      exact ih e.on hp (by omega)
    rw[hr] at this;cases this
 have hdone:∀(listed:Array Bool) (κ:aL) (a:Act) (w:World),listed.size=l.length→Region.ready .any l.toArray listed=[]→Sim C κ (s.wr (bE (fun i=>listed.getD i false) 0 es)) a w→Q .normal a w:=by
  intro listed κ a w hsz hr hsim;have ha:=hall listed hsz hr;refine hq κ a w ?_;have:s.wr (bE (fun i=>listed.getD i false) 0 es)=s':=by
   rw[hs'];refine ASt.ext' (by rw[(bR _ s).1,(bR _ s).1]) (by rw[(bR _ s).2,(bR _ s).2]) (fun n hn=>?_) (fun n hn=>?_)
   ·rw[(bR _ s).1] at hn;rw[uz _ n s hn,uz _ n s hn];rw[Io (D':=fun _=>true) es 0 (fun i e hi _=>by rw[qAL];exact ha i (by have:=(qAx.1 hi).1;omega))]
   ·rw[(bR _ s).2] at hn;rw[ru _ n s hn,ru _ n s hn];rw[Fv (D':=fun _=>true) es 0 (fun i e hi _=>by rw[qAL];exact ha i (by have:=(qAx.1 hi).1;omega))]
  rw[←this];exact hsim
 intro fuel
 induction fuel with
 | zero=>
  intro listed κ a w hsz hcnt _ hsim;have hr:Region.ready .any l.toArray listed=[]:=by
   cases hrd:Region.ready .any l.toArray listed with
   | nil=>rfl
   | cons i r=>
    exfalso;have hm:i∈Region.ready .any l.toArray listed:=by rw[hrd];simp
    obtain⟨h1,o,h2,_⟩:=mem_ready.1 hm;have hlt:i<listed.size:=by have:=(qBi.1 h2).1;simp at this;omega
    have:=abe hlt h1;omega
  exact⟨hr,hdone listed κ a w hsz hr hsim⟩
 | succ fuel ih=>
  intro listed κ a w hsz hcnt hdown hsim;refine⟨fun hr=>hdone listed κ a w hsz hr hsim,fun i hi=>?_⟩;obtain⟨h1,o,h2,h3⟩:=mem_ready.1 hi;have hil:i<l.length:=by have:=(qBi.1 h2).1;simpa using this
  have hlo:l[i]? =some o:=by simpa using h2
  have hlt:i<listed.size:=by omega
  have hi0:listed.getD i false=false:=by simpa[Array.getD,hlt] using h1
  obtain⟨e,hei⟩:∃e,es[i]? =some e:=⟨_,qAc (by omega)⟩;have hgi:es.getD i uQ=e:=by rw[List.getD,hei];rfl
  -- where something conflicts with i
  have hbd:∀j i',listed.getD j false=true→i'∈(Dp l []).getD j []→listed.getD i' false=true:=
   Kq (D:=fun j=>listed.getD j false=true) l [] (fun j i' _ hi'=>by simp at hi') (fun j o' hj hD p hp=>hdown j o' hj (by simpa using hD) p hp)
  have hearly:∀j f,es[j]? =some f→j<i→eX f e=true→listed.getD j false=true:=fun j f hj hji hc=>by
   have hgj:es.getD j uQ=f:=by rw[List.getD,hj];rfl
   have hb:=(hord i hil).2 j hji (by rw[hgj,hgi];exact hc);have hD:∀j' i',(listed.getD j' false=true∨j'=i)→i'∈(Dp l []).getD j' []→(listed.getD i' false=true∨i'=i):=
    Kq (D:=fun j=>listed.getD j false=true∨j=i) l [] (fun j i' _ hi'=>by simp at hi') (fun j' o' hj' hD p hp=>by
     simp only[qAK,qAL] at hD;rcases hD with hD | rfl
     ·exact .inl (hdown j' o' hj' hD p hp)
     ·rw[hlo] at hj';cases hj';simp only[oF,qAA,qAQ] at hp;obtain⟨ed,⟨he1,he2⟩,rfl⟩:=hp;exact .inl (h3 ed (by simpa using he1) he2))
   rcases hD i j (.inr rfl) hb with h | h
   ·exact h
   ·omega
  have hlate:∀j f,es[j]? =some f→i<j→eX e f=true→listed.getD j false=false:=fun j f hj hji hc=>by
   have hjl:j<l.length:=by have:=(qAx.1 hj).1;omega
   have hgj:es.getD j uQ=f:=by rw[List.getD,hj];rfl
   have hb:=(hord j hjl).2 i hji (by rw[hgj,hgi];exact hc);cases hlj:listed.getD j false with
   | false=>rfl
   | true=>have:=hbd j i hlj hb;rw[hi0] at this;cases this
  have hcommon:∀j f,es[j]? =some f→(eX f e=true∨eX e f=true→j≠i→listed.getD j false=decide (j<i)):=fun j f hj=>by
   have hsym:eX f e=true↔eX e f=true:=by
    simp only[eX,qAZ,qCI,List.contains_iff_mem];constructor
    ·rintro(((⟨n,a1,a2 | a2⟩ | ⟨n,a1,a2⟩) | ⟨n,a1,a2 | a2⟩) | ⟨n,a1,a2⟩)
     ·exact .inl (.inl (.inr ⟨n,a1,a2⟩))
     ·exact .inl (.inl (.inl ⟨n,a2,.inr a1⟩))
     ·exact .inl (.inl (.inl ⟨n,a1,.inl a2⟩))
     ·exact .inr ⟨n,a1,a2⟩
     ·exact .inl (.inr ⟨n,a2,.inr a1⟩)
     ·exact .inl (.inr ⟨n,a1,.inl a2⟩)
    ·rintro(((⟨n,a1,a2 | a2⟩ | ⟨n,a1,a2⟩) | ⟨n,a1,a2 | a2⟩) | ⟨n,a1,a2⟩)
     ·exact .inl (.inl (.inr ⟨n,a1,a2⟩))
     ·exact .inl (.inl (.inl ⟨n,a2,.inr a1⟩))
     ·exact .inl (.inl (.inl ⟨n,a1,.inl a2⟩))
     ·exact .inr ⟨n,a1,a2⟩
     ·exact .inl (.inr ⟨n,a2,.inr a1⟩)
     ·exact .inl (.inr ⟨n,a1,.inl a2⟩)
   intro hc hne;rcases Nat.lt_or_gt_of_ne hne with hlt' | hgt
   ·rw[hearly j f hj hlt' (hc.elim id hsym.2)];simp[hlt']
   ·rw[hlate j f hj hgt (hc.elim hsym.1 id)];simp;omega
  let D:Nat→Bool:=fun j=>listed.getD j false
  have hagree:Agree (s.wr (bE D 0 es)) (s.wr (bE (fun j=>decide (j<i)) 0 es)) e:=by
   refine⟨by rw[(bR _ s).1,(bR _ s).1],by rw[(bR _ s).2,(bR _ s).2],fun n hn=>?_,fun n hn=>?_⟩
   ·by_cases hnl:n<s.tmps.length
    ·rw[uz _ n s hnl,uz _ n s hnl];congr 1;refine Io es 0 fun j f hj hw=>?_;rw[qAL];by_cases hji:j=i
     ·subst hji;show listed.getD j false=_;rw[hi0];simp
     ·refine hcommon j f hj (.inl ?_) hji;cases hc:eX f e with
      | true=>rfl
      | false=>exact((Sw hc hw).1 hn).elim
    ·have e1:(s.wr (bE D 0 es)).tmps.getD n .unk=.unk:=by rw[List.getD,qAH (by rw[(bR _ s).1];omega)];rfl
     have e2:(s.wr (bE (fun j=>decide (j<i)) 0 es)).tmps.getD n .unk=.unk:=by rw[List.getD,qAH (by rw[(bR _ s).1];omega)];rfl
     rw[e1,e2]
   ·by_cases hnl:n<s.heap.length
    ·rw[ru _ n s hnl,ru _ n s hnl];congr 1;refine Fv es 0 fun j f hj hw=>?_;rw[qAL];by_cases hji:j=i
     ·subst hji;show listed.getD j false=_;rw[hi0];simp
     ·refine hcommon j f hj (.inl ?_) hji;cases hc:eX f e with
      | true=>rfl
      | false=>exact((Uw hc hw).1 hn).elim
    ·have e1:obj? (s.wr (bE D 0 es)).heap n=.dead:=by rw[obj?,qAH (by rw[(bR _ s).2];omega)];rfl
     have e2:obj? (s.wr (bE (fun j=>decide (j<i)) 0 es)).heap n=.dead:=by rw[obj?,qAH (by rw[(bR _ s).2];omega)];rfl
     rw[e1,e2]
  have hstep:=heff i o e hlo hei _ hagree;have hDi:∀j,(listed.setIfInBounds i true).getD j false=(D j ||decide (j=i)):=fun j=>by
   by_cases hji:i=j
   ·subst hji;simp[Array.getD,hlt]
   ·simp only[qAq,qCS hji,D];simp[qBp hji]
  have hstate:(s.wr (bE D 0 es)).wr e.ws=s.wr (bE (fun j=>(listed.setIfInBounds i true).getD j false) 0 es):=by
   rw[←Fp];refine ASt.ext' (by rw[(bR _ s).1,(bR _ s).1]) (by rw[(bR _ s).2,(bR _ s).2]) (fun n hn=>?_) (fun n hn=>?_)
   ·rw[(bR _ s).1] at hn;rw[uz _ n s hn,uz _ n s hn,Gv];congr 1;by_cases hw:n∈gT e.ws
    ·rw[an6 (D:=fun j=>(listed.setIfInBounds i true).getD j false) es 0 i e hei (by rw[qAL,hDi];simp) hw (fun j f hj hij hD' hwf=>by
      rw[qAL,hDi] at hD';have hji:j≠i:=by omega
      have hDj:listed.getD j false=true:=by simpa[hji,D] using hD'
      have hc:eX f e=true:=by
       cases hc:eX f e with
       | true=>rfl
       | false=>exact((Sw hc hwf).2 hw).elim
      have:=hcommon j f hj (.inl hc) hji;rw[hDj] at this;have hlt':j<i:=by simpa using this.symm
      omega)]
     obtain⟨v,hv⟩:=Vy hw;rw[hv];rfl
    ·rw[Ve hw,qCC];refine Io es 0 fun j f hj hwf=>?_;rw[qAL,hDi];have hji:j≠i:=fun e'=>by subst e';rw[hei] at hj;cases hj;exact hw hwf
     simp[hji,D]
   ·rw[(bR _ s).2] at hn;rw[ru _ n s hn,ru _ n s hn,GN];congr 1;by_cases hw:n∈iQ e.ws
    ·rw[aml (D:=fun j=>(listed.setIfInBounds i true).getD j false) es 0 i e hei (by rw[qAL,hDi];simp) hw (fun j f hj hij hD' hwf=>by
      rw[qAL,hDi] at hD';have hji:j≠i:=by omega
      have hDj:listed.getD j false=true:=by simpa[hji,D] using hD'
      have hc:eX f e=true:=by
       cases hc:eX f e with
       | true=>rfl
       | false=>exact((Uw hc hwf).2 hw).elim
      have:=hcommon j f hj (.inl hc) hji;rw[hDj] at this;have hlt':j<i:=by simpa using this.symm
      omega)]
     obtain⟨v,hv⟩:=U8 hw;rw[hv];rfl
    ·rw[UN hw,qCC];refine Fv es 0 fun j f hj hwf=>?_;rw[qAL,hDi];have hji:j≠i:=fun e'=>by subst e';rw[hei] at hj;cases hj;exact hw hwf
     simp[hji,D]
  have hnext:∀κ' a' w',Sim C κ' ((s.wr (bE D 0 es)).wr e.ws) a' w'→wpAny P .any l.toArray Q fuel (listed.setIfInBounds i true) a' w':=fun κ' a' w' hs2=>by
   rw[hstate] at hs2;refine ih (listed.setIfInBounds i true) κ' a' w' (by simpa using hsz) (by have:=abe hlt h1;omega) ?_ hs2;intro j o' hj hlj p hp;rw[hDi] at hlj⊢;by_cases hji:j=i
   ·subst hji;rw[hlo] at hj;cases hj;simp only[oF,qAA,qAQ] at hp;obtain⟨ed,⟨he1,he2⟩,rfl⟩:=hp;have:=h3 ed (by simpa using he1) he2;simp only[D,this,qCA]
   ·have hlj':listed.getD j false=true:=by simpa[hji,D] using hlj
    have:=hdown j o' hj hlj' p hp;simp only[D,this,qCA]
  unfold wpOp;rw[h2];dsimp only;rcases hstep with⟨hwd,ht⟩ | ⟨hwd,he⟩
  ·rw[lg hsim hwd];simp only[if_true];exact .inl (ht C κ a w hsim _ _ hnext)
  ·rw[lg hsim hwd];simp only[qBO,if_false];refine hnext κ _ w ?_;rw[he];exact hsim.au _ j6
theorem bX.drawn{P}{id}{l}{es}{Q}{s s'} n (hm:P.follows .mixedOrders=true)(h:ATr P l.toArray l es (s.reserve n) s')(hok:kY l es=true)(hq:Q .normal s'):bX P (.region id l.toArray true) Q s:=by
 intro C κ a w hs;refine wp_region_any hm ?_;have hr:=(hs.reserve n).sameHeap (w':={w with drawn:=w.drawn+1}) rfl rfl rfl rfl;have hfl:bE (fun i=>(Array.replicate l.length false).getD i false) 0 es=[]:=by
  have hz:∀(D:Nat→Bool) (es:List Eff) (k:Nat),(∀i,D i=false)→bE D k es=[]:=fun D es=>by
   induction es with
   | nil=>intro k _;rfl
   | cons e es ih=>intro k hD;simp[bE,ih _ hD,hD]
  refine hz _ es 0 fun i=>?_;simp[Array.getD]
 have:=atN (C:=C) (Q:=fun e a' w'=>∃s'' κ',Q e s''∧Sim C κ' s'' a' w') h hok (fun κ' a' w' hs'=>⟨s',κ',hq,hs'⟩) l.length (Array.replicate l.length false) _ a _ (by simp) (by simp) (fun j o _ hl=>by simp[Array.getD] at hl) (by rw[hfl];exact hr)
 grind
def xD(P:Program)(s:ASt):List ResultVar→Option (List AV)
 | []=>some []
 | .tmp t::r=>(xD P s r).map (s.tmps.getD t .unk::·)
 | .cell a t::r=>match s.tmps.getD a .unk with
  | .ptr l off=>match obj? s.heap l with
   | .box cs=>match jh P t (cs.drop off) with
    | some v=>(xD P s r).map (v::·)
    | none=>none
   | _=>none
  | _=>none
def FZ(wk:Bool):List AV→AV
 | [x]=>if wk then sD x else x
 | xs=>.tup (if wk then xs.map sD else xs)
def RJ(tmps:Array Value):ResultVar→Sem Value
 | .tmp t=>pure (tmps.getD t undef)
 | .cell a t=>do loadVar t (←asAddr (tmps.getD a undef))
theorem MK fn tmps:results fn tmps=(do let vs ←fn.results.mapM (RJ tmps);pure (if h:vs.size=1 then vs[0] else .tuple vs)):=by
 congr 1
theorem JH{P}{C}{κ}{s}{a}{w}(hs:Sim C κ s a w):∀rs xs,xD P s rs=some xs→
  ∃vs:List Value,vs.length=xs.length∧(∀j,j<xs.length→Rel w κ (aD C.aj κ s.heap) (xs.getD j .unk) (vs.getD j undef))∧(rs.mapM (RJ a.tmps)).run P w=.ok vs w:=by
 intro rs
 induction rs with
 | nil=>intro xs h;simp only[xD,Option.some.injEq] at h;subst h;exact⟨[],rfl,fun j hj=>(by cases hj),by simp⟩
 | cons r rs ih=>
  intro xs h;have key:∀(v:AV) (u:Value) (ys:List AV),xD P s rs=some ys→xs=v::ys→Rel w κ (aD C.aj κ s.heap) v u→(RJ a.tmps r).run P w=.ok u w→
    ∃vs:List Value,vs.length=xs.length∧(∀j,j<xs.length→Rel w κ (aD C.aj κ s.heap) (xs.getD j .unk) (vs.getD j undef))∧((r::rs).mapM (RJ a.tmps)).run P w=.ok vs w:=fun v u ys hys hxs hv hrun=>by
   obtain⟨vs,h1,h2,h3⟩:=ih ys hys;subst hxs;refine⟨u::vs,by simp[h1],fun j hj=>?_,?_⟩
   ·grind
   ·simp_all
  cases r with
  | tmp t=>
   simp only[xD] at h;cases hys:xD P s rs with
   | none=>rw[hys] at h;cases h
   | some ys=>
    rw[hys] at h;simp only[qAy,Option.some.injEq] at h;refine key _ (a.tmps.getD t undef) ys hys h.symm ?_ (by simp[RJ]);exact hs.ev (.tmp t)
  | cell x t=>
   simp only[xD] at h;split at h
   ·rename_i l off hx;split at h
    ·rename_i cs hl;split at h
     ·rename_i v hv;cases hys:xD P s rs with
      | none=>rw[hys] at h;cases h
      | some ys=>
       rw[hys] at h;simp only[qAy,Option.some.injEq] at h;have hr:=hs.ev (.tmp x);simp only[bA,Act.eval] at hr;rw[hx] at hr;obtain⟨b,e,hb⟩:=hr.ql;obtain⟨c,el,g1,g2,g3,g4⟩:=hs.box hb hl;obtain⟨y,g5,g6⟩:=FY (P:=P) (w:=w) (κ:=κ) (pv:=aD C.aj κ s.heap) (b:=b) (off:=off) (cs:=cs.drop off) (fun j=>c.getD (off+j) undef)
        (fun j hj=>g3 _ (by simp at hj;omega)) (fun j hj=>by rw[getD_drop];exact g4 _ (by simp at hj;omega)) hv
       exact key v y ys hys h.symm g6 (by simp only[RJ,e];simp[asAddr,g5])
     ·cases h
    ·cases h
   ·cases h
def Iy(P)rs(wk)L(H:List AObj)res(H')s:=
 ∃xs,xD P s rs=some xs∧FZ wk xs=ren (nm L s.heap.length) res∧L.Nodup∧H'.length=L.length∧H.length≤L.length∧(∀i,i<H.length→L[i]? =some i)∧(∀l∈L,l<s.heap.length)∧
  ∀i l,L[i]? =some l→obj? s.heap l=dK (nm L s.heap.length) (obj? H' i)
def bodyC(κ:aL)(aj:bJ)(H:List AObj)(w:World)(ds:List Deferred):Ctx:={aj:=aj,old:=fun b=>b<w.heap.size∧∀l,at? κ l=some b→¬live (obj? H l),w0:=w,k0:=κ,pvE:=aD aj κ H,ds:=ds}
def aX(ops:Array Oper)(o:Oper):List Nat:=
 (o.op.operands.toList.filterMap fun | .tmp t=>some t | _=>none)++match o.guard with | some (g,_)=>((ops[g]?).bind (·.dst)).toList | none=>[]
theorem KE{tm tm'}{ops}{o}(h:∀n∈aX ops o,tm'.getD n .unk=tm.getD n .unk):∀x∈o.op.operands,bA tm' x=bA tm x:=by
 intro x hx;cases x with
 | tmp t=>exact h t (qBA _ (List.mem_filterMap.2 ⟨.tmp t,by simpa using hx,rfl⟩))
 | const v=>rfl
 | func f=>rfl
 | global g=>rfl
theorem uH{tm tm'}{ops}{o}(h:∀n∈aX ops o,tm'.getD n .unk=tm.getD n .unk):dQ ops tm' o=dQ ops tm o:=by
 unfold dQ;cases hg:o.guard with
 | none=>rfl
 | some p=>
  obtain⟨j,want⟩:=p;simp only;cases hd:(ops[j]?).bind (·.dst) with
  | none=>rfl
  | some d=>
   simp only;rw[h d (by unfold aX;rw[hg];simp[hd])]
theorem Jv{P}{ops}{o}{s}{k}{rd}{ws}(hw:dQ ops s.tmps o=some true)(h:aJ P k o (bA s.tmps) (obj? s.heap)=some (rd,ws)):Gs P ops o s ⟨aX ops o,rd,ws⟩:=by
 intro t ht;refine .inl ⟨by rw[uH ht.rs];exact hw,afF (k:=k) (rd:=rd) ?_⟩;exact Zu h (KE ht.rs) ht.ro
theorem Ey{P}{ops}{o}{s}(hw:dQ ops s.tmps o=some false):Gs P ops o s ⟨aX ops o,[],au o.dst (.tup [])⟩:=by
 intro t ht;exact .inr ⟨by rw[uH ht.rs];exact hw,rfl⟩
inductive Keep{α:Type}(a:α):Type where
 | mk:Keep a
def Gn(P)f(args)dst(s)k(K:Nat→List Nat→List Wr→Prop)(_:Keep K):=
 j4 P f=true∧∃(ρ ks:List Nat) (aargs:List AV) (H:List AObj) (res:AV) (H':List AObj),Passes s ρ ks H∧H'.length=(ρ++ks).length∧SWs args (aargs.map (ren (nm (ρ++ks) s.heap.length)))∧cZ P f aargs H res H'∧
  K (k+ks.length) (ρ++ks) (kK (ρ++ks) (H'.map (dK (nm (ρ++ks) s.heap.length)))++au dst (ren (nm (ρ++ks) s.heap.length) res))
theorem ED{P}{ops}{o}{s}{fo}{args}{argTypes}{f}{caps aargs}{ρ ks}{H H'}{res}(hw:dQ ops s.tmps o=some true)
  (ho:o.op=.call {callee:=.value fo,args,argTypes}) (hf:bA s.tmps fo=.func f caps) (hok:j4 P f=true) (hp:Passes s ρ ks H) (hH:H'.length=(ρ++ks).length)
  (hargs:SWs (args.toList.map (bA s.tmps)++caps) (aargs.map (ren (nm (ρ++ks) s.heap.length)))) (hc:cZ P f aargs H res H'):
  Gs P ops o s ⟨aX ops o,ρ++ks,kK (ρ++ks) (H'.map (dK (nm (ρ++ks) s.heap.length)))++au o.dst (ren (nm (ρ++ks) s.heap.length) res)⟩:=by
 intro t ht;have hop:=KE ht.rs;have hfo:fo∈o.op.operands:=by rw[ho];simp[Op.operands,Call.operands]
 have hp':Passes t ρ ks H:=by
  refine⟨hp.nodup,hp.hlen,fun l hl=>by rw[ht.hl];exact hp.lt l hl,fun l hl=>by rw[ht.ro l (qBC _ hl)];exact hp.res l hl,fun i l hi=>?_⟩;rw[ht.ro l (qBA _ (qAI hi)),ht.hl];exact hp.obj i l hi
 have hmap:args.toList.map (bA t.tmps)=args.toList.map (bA s.tmps):=uw _ (fun x hx=>hop x (by rw[ho];simp only[Op.operands];exact qBE.2 (.inr (qBu.1 hx))));have:=azV (P:=P) (o:=o) (s:=t) ho (by rw[hop fo hfo];exact hf) hok hp' hH (by rw[hmap,ht.hl];exact hargs) hc;rw[ht.hl] at this;exact .inl ⟨by rw[uH ht.rs];exact hw,this⟩
def iW:Op→Nat
 | .alloc _=>1
 | .box _ _=>1
 | .makeMap _ _=>1
 | .buildSlice _ _ _=>1
 | .makeSlice _ _ _=>1
 | .call {callee:=.builtin .append,..}=>1
 | _=>0
def lu:Op→Option (Operand×Array Operand)
 | .call {callee:=.value f,args,..}=>some (f,args)
 | _=>none
theorem vJ{op}{f}{args}(h:lu op=some (f,args)):∃t,op=.call {callee:=.value f,args,argTypes:=t}:=by
 unfold lu at h
 grind
section
variable {P:Program}{k:Nat}{d:Option Tmp}{ty:TypeId}{ps:String}{af:Array Edge}{gd:Option (Nat×Bool)}{ρ:Operand→AV}{σ:Nat→AObj}
def l6(d:Option Tmp)(r:Option AV):Option (List Nat×List Wr):=r.map fun v=>([],au d v)
def al5(P:Program)(t:TypeId)(σ:Nat→AObj)(d:Option Tmp):AV→Option (List Nat×List Wr)
 | .eptr cs=>l6 d (jh P t cs)
 | .ptr l off=>match σ l with
  | .box cs=>(jh P t (cs.drop off)).map fun v=>([l],au d v)
  | .arr z es=>if off=off/z*z∧off/z<es.length then(jh P t (es.getD (off/z) [])).map fun v=>([l],au d v) else none
  | _=>none
 | _=>none
def ag5(P:Program)(t:TypeId)(σ:Nat→AObj)(d:Option Tmp):AV→Option (List AV)→Option (List Nat×List Wr)
 | .ptr l off,some vs=>match σ l with
  | .box cs=>if sizeT P t=some vs.length∧off+vs.length≤cs.length∧vs.all isScalar then some ([l],.obj l (.box (cs.take off++vs++cs.drop (off+vs.length)))::au d (.tup [])) else none
  | .arr z es=>if sizeT P t=some vs.length∧vs.length=z∧off=off/z*z∧off/z<es.length∧vs.all isScalar then some ([l],.obj l (.arr z (es.set (off/z) vs))::au d (.tup []))
   else if sizeT P t=some vs.length∧0<z∧off/z<es.length∧off%z+vs.length≤z∧vs.all isScalar then some ([l],.obj l (.arr z (es.set (off/z) ((es.getD (off/z) []).take (off%z)++vs++(es.getD (off/z) []).drop (off%z+vs.length))))::au d (.tup [])) else none
  | _=>none
 | _,_=>none
def ayb(x:AV):Option AV:=match x with | .ptr l o=>some (.ptr l o) | .eptr cs=>some (.eptr cs) | .func f cs=>some (.func f cs) | .flist (cs::r)=>some (.eptr (cs++[.flist r])) | _=>none
def unK(op:UnOp)(x:AV):Option AV:=match op,x with | .not,.bool b=>some (.bool !b) | .neg,.int k n=>some (.int k (k.wrap (0 - n))) | _,_=>none
def ae7(f:Option (Nat×TypeId))(x:AV):Option AV:=match f with | some (fo,_)=>(match x with | .ptr l o=>some (.ptr l (o+fo)) | .eptr cs=>some (.eptr (cs.drop fo)) | _=>none) | none=>none
def azE(st:Bool)(sl:Option Nat)(x:AV):Option AV:=match x with | .str s=>if st then some (.int .i64 s.length) else none | .slice es _=>if sl.isSome then some (.int .i64 es.length) else none | .psl _ _ n=>if sl.isSome then some (.int .i64 n) else none | _=>none
theorem asP(t:Nat) x:aJ P k ⟨d,.load t x,ty,ps,af,gd⟩ ρ σ=al5 P t σ d (ρ x):=by
 unfold aJ;simp only[aB];cases ρ x<;>simp only[al5]
 case eptr cs=>cases jh P t cs<;>rfl
 grind
theorem ac6(t:Nat) x y:aJ P k ⟨d,.store t x y,ty,ps,af,gd⟩ ρ σ=ag5 P t σ d (ρ x) (dM (ρ y)):=rfl
theorem ayB(t:Nat):aJ P k ⟨d,.alloc t,ty,ps,af,gd⟩ ρ σ=if bS (σ k) then(jW P t).map fun z=>([k],.obj k (.box z)::au d (.ptr k 0)) else none:=rfl
theorem aC8(t:Nat) x:aJ P k ⟨d,.box t x,ty,ps,af,gd⟩ ρ σ=if bS (σ k) then(dM (ρ x)).map fun cs=>([k],.obj k (.box cs)::au d (.ptr k 0)) else none:=rfl
theorem atE(t:Nat):aJ P k ⟨d,.makeMap t none,ty,ps,af,gd⟩ ρ σ=if bS (σ k) then some ([k],.obj k (.mp [])::au d (.mapr k)) else none:=rfl
end
section
variable {P:Program}{ops:Array Oper}{l:List Oper}{k:Nat}{es:List Eff}{s:ASt}
end
end
section
open Go
abbrev Str:=List UInt8
inductive Ty where
 | mk (kind:Int) (name:Str) (kids:List Ty)
def Ty.kind:Ty→Int | .mk k _ _=>k
def Ty.name:Ty→Str | .mk _ n _=>n
def Ty.kids:Ty→List Ty | .mk _ _ ks=>ks
inductive Tm where
 | mk (op:Int) (name:Str) (n:Int) (ty:Ty) (kids:List Tm)
def Tm.op:Tm→Int | .mk k _ _ _ _=>k
def Tm.name:Tm→Str | .mk _ n _ _ _=>n
def Tm.n:Tm→Int | .mk _ _ n _ _=>n
def Tm.ty:Tm→Ty | .mk _ _ _ t _=>t
def Tm.kids:Tm→List Tm | .mk _ _ _ _ ks=>ks
mutual
def mX:Ty→List AV
 | .mk k n ks=>[.int .i64 k,.str n,.slice (NJ ks) .shared]
def NJ:List Ty→List (List AV)
 | []=>[]
 | t::ts=>mX t::NJ ts
end
mutual
def jU:Tm→List AV
 | .mk k n m t ks=>[.int .i64 k,.str n,.int .i64 m]++mX t++[.slice (Oj ks) .shared]
def Oj:List Tm→List (List AV)
 | []=>[]
 | t::ts=>jU t::Oj ts
end
theorem V7:∀ts,NJ ts=ts.map mX
 | []=>rfl
 | t::ts=>by simp[NJ,V7 ts]
theorem UY:∀ts,Oj ts=ts.map jU
 | []=>rfl
 | t::ts=>by simp[Oj,UY ts]
@[go_sem] theorem ku(t:Ty):mX t=[.int .i64 t.kind,.str t.name,.slice (t.kids.map mX) .shared]:=by
 cases t;simp[mX,V7,Ty.kind,Ty.name,Ty.kids]
@[go_sem] theorem sQ(t:Tm):jU t=[.int .i64 t.op,.str t.name,.int .i64 t.n,.int .i64 t.ty.kind,.str t.ty.name,.slice (t.ty.kids.map mX) .shared,.slice (t.kids.map jU) .shared]:=by
 cases t;simp[jU,UY,Tm.op,Tm.name,Tm.n,Tm.ty,Tm.kids,ku]
mutual
theorem aki g:∀t,dG g (mX t)=mX t
 | .mk k n ks=>by simp only[mX,dG,ren,pG,MB g ks]
theorem MB(g:Nat→Nat):∀ts,dV g (NJ ts)=NJ ts
 | []=>rfl
 | t::ts=>by simp only[NJ,dV,aki g t,MB g ts]
end
mutual
theorem aj3 g:∀t,dG g (jU t)=jU t
 | .mk k n m (.mk a b c) ks=>by
  simp only[jU,mX,qAM,qAt,dG,ren,pG,Wo g ks,MB g c]
theorem Wo(g:Nat→Nat):∀ts,dV g (Oj ts)=Oj ts
 | []=>rfl
 | t::ts=>by simp only[Oj,dV,aj3 g t,Wo g ts]
end
theorem aBt g (ts:List Ty):dV g (ts.map mX)=ts.map mX:=by rw[←V7];exact MB g ts
theorem aBH g (ts:List Tm):dV g (ts.map jU)=ts.map jU:=by rw[←UY];exact Wo g ts
end
section
open Go
inductive IxT where
 | sl (sz:Option Nat)
 | arr (len:Nat) (sz:Option Nat)
 | no
structure TI where
 size:Option Nat
 agg:Option Bool
 isPtr:Bool
 isBool:Bool
 isStr:Bool
 isStruct:Bool
 isSl:Bool
 int:Option IntKind
 ix:IxT
 field:List (Option (Nat×TypeId))
 place:List (Option (Nat×Nat))
 zero:Option (List AV)
 zav:Option AV
 slT:Option Nat
 elem:Option (TypeId×Nat×Nat)
 smap:Option TypeId
def intTy(P:Program)(t:TypeId):Option IntKind:=match P.underlying t with | some (.int k)=>some k | _=>none
def Ny(P:Program)(t:TypeId):IxT:=match P.underlying t with | some (.slice e)=>.sl (sizeT P e) | some (.array n e)=>.arr n (sizeT P e) | _=>.no
def aiK(P:Program)(t:TypeId):List (Option (Nat×TypeId)):=match P.underlying t with | some (.struct fs)=>fs.toList.map fun x=>(match sizeT P x.type with | some (_+1)=>some (x.offset,x.type) | _=>none) | _=>[]
def ahD(P:Program)(t:TypeId):List (Option (Nat×Nat)):=match P.underlying t with | some (.struct fs)=>fs.toList.map fun f=>(sizeT P f.type).map fun n=>(f.offset,n) | _=>[]
def TI.of(P:Program)(t:TypeId):TI:=
 {size:=sizeT P t,agg:=OH P t,isPtr:=afS P t,isBool:=aaH P t,isStr:=aB.isStrT P t,isStruct:=xR P t,isSl:=aJ.isSliceT P t,int:=intTy P t,ix:=Ny P t,field:=aiK P t,place:=ahD P t,zero:=jW P t,zav:=Lb P t,slT:=aB.sliceT P t,elem:=lK P t,smap:=rY P t}
def lk{α:Type}:List (Option α)→Nat→Option α
 | [],_=>none
 | x::_,0=>x
 | _::l,n+1=>lk l n
theorem az7{α}:∀(l:List (Option α)) n,lk l n=(l[n]?).bind id:=by
 intro l
 induction l with
 | nil=>intro n;simp[lk]
 | cons a l ih=>intro n;cases n with
  | zero=>simp[lk]
  | succ n=>simp[lk,ih]
theorem Qz P (s f:Nat):lk (TI.of P s).field f=zi P s f:=by
 rw[az7];show(aiK P s)[f]?.bind id=_;unfold aiK zi
 grind
theorem ajm P (s f:Nat):lk (TI.of P s).place f=DT P s f:=by
 rw[az7];show(ahD P s)[f]?.bind id=_;unfold ahD DT
 grind
def aDA(n:Nat)(cs:List AV):Option AV:=if cs.length=n then some (.agg cs) else if n≤cs.length then some (.agg (cs.take n)) else none
def loadT(τ:Nat→TI)(t:TypeId)(cs:List AV):Option AV:=
 match(τ t).agg with
 | some true=>match(τ t).size with
  | some n=>aDA n cs
  | none=>none
 | some false=>match cs with | []=>none | c::_=>some c
 | none=>none
theorem adC P t cs:loadT (TI.of P) t cs=jh P t cs:=rfl
def Yr(τ:Nat→TI)(op:BinOp)(t:TypeId):AV→AV→Option AV
 | .int k a,.int k' b=>if k=k' then match op with
  | .add=>some (.int k (k.wrap (a+b)))
  | .sub=>some (.int k (k.wrap (a - b)))
  | .mul=>some (.int k (k.wrap (a*b)))
  | .quo=>if b=0 then none else some (.int k (k.wrap (a.tdiv b)))
  | .rem=>if b=0 then none else some (.int k (a.tmod b))
  | .eql=>some (.bool (a==b))
  | .neq=>some (.bool (a !=b))
  | .lss=>some (.bool (decide (a<b)))
  | .leq=>some (.bool (decide (a≤b)))
  | .gtr=>some (.bool (decide (b<a)))
  | .geq=>some (.bool (decide (b≤a)))
  | .shl=>if 0≤b∧b≤k.bits then some (.int k (k.wrap (a*2^b.toNat))) else none
  | .shr=>if 0≤b∧b≤k.bits then some (.int k (a.fdiv (2^b.toNat))) else none
  | _=>none else none
 | .str a,.str b=>match op with
  | .add=>if a.length+b.length≤9223372036854775807 then some (.str (a++b)) else none
  | .eql=>some (.bool (a==b))
  | .neq=>some (.bool (!(a==b)))
  | .lss=>some (.bool (Op.bytesLess a b))
  | .leq=>some (.bool (Op.bytesLess a b ||a==b))
  | .gtr=>some (.bool (!(Op.bytesLess a b ||a==b)))
  | .geq=>some (.bool (!(Op.bytesLess a b)))
  | _=>none
 | .bool a,.bool b=>if(τ t).isBool then match op with
  | .eql=>some (.bool (a==b))
  | .neq=>some (.bool (!(a==b)))
  | _=>none else none
 | x,.nilp=>if(τ t).isPtr then match op,KT x with
  | .eql,some b=>some (.bool b)
  | .neq,some b=>some (.bool (!b))
  | _,_=>none else none
 | _,_=>none
end
section
open Go
def gP:Bool→Prop→Prop→Prop
 | true,A,_=>A
 | false,_,B=>B
def gK{α:Type}:Option α→(α→Prop)→Prop
 | some x,K=>K x
 | none,_=>False
theorem avz{b}{A B}(h1:b=true→A)(h2:b=false→B):gP b A B:=by cases b<;>simp_all [gP]
theorem bC{b}{A B}(h:gP b A B):b=true∧A∨b=false∧B:=by cases b<;>simp_all [gP]
theorem bN{α}{r}{K:α→Prop}(h:gK r K):∃x,r=some x∧K x:=by cases r with | none=>exact h.elim | some x=>exact⟨x,rfl,h⟩
def aGJ(es:List (List AV))(n:Int)sz(K:AV→Prop):=∃cs,es[n.toNat]? =some cs∧0≤n∧cs.length=sz∧K (.eptr cs)
def aCa(s:List UInt8)(n:Int)(K:AV→Prop):=(0≤n∧n<s.length)∧K (.int .u8 (s.getD n.toNat 0).toNat)
def aGH a b(K:AV→Prop):=a.length+b.length≤9223372036854775807∧K (.str (a++b))
def aGq(s:List UInt8)lo hi(K:AV→Prop):=∃l h,dL hi s.length s.length=some h∧dL lo 0 h=some l∧K (.str ((s.drop l).take (h - l)))
def aGC(es:List (List AV))sz lo hi(K:AV→Prop):=∃l h,dL hi es.length es.length=some h∧dL lo 0 h=some l∧(l<es.length→(es.getD l []).length=sz)∧K (.slice ((es.drop l).take (h - l)) .shared)
def aCq(n:Int)(len:Nat)K:=(0≤n∧n<len)∧K
def ax9(ys:List (List AV))sz bytes K:=(ys.length*bytes≤140737488355328∧ys.length≤140737488355328∧(ys.all (bU sz)=true))∧K
def ayz(n:Nat)(es ys:List (List AV))sz bytes K:=(n=es.length*sz∧(es.length+ys.length)*bytes≤140737488355328∧es.length+ys.length≤140737488355328∧(es.all (bU sz)=true)∧(ys.all (bU sz)=true))∧K
def aFZ(es:List (List UInt8×AV))K:=es.length<140737488355328∧K
def aEO(es)s(A:AV→Prop)B:=(∀v,rH es s=some v→A v)∧(rH es s=none→B)
def apc(K:AV→Prop):IxT→AV→AV→Prop
 | .sl (some sz),.slice es _,.int _ n=>aGJ es n sz K
 | .arr len (some sz),.ptr l o,.int _ n=>aCq n len (K (.ptr l (o+n.toNat*sz)))
 | .arr len (some sz),.eptr cs,.int _ n=>aCq n len (K (.eptr (cs.drop (n.toNat*sz))))
 | _,_,_=>False
def cutV(isStr:Bool)(slT:Option Nat)(lo hi:Option AV)(K:AV→Prop):AV→Prop
 | .str s=>gP isStr (aGq s lo hi K) False
 | .slice es _=>gK slT fun sz=>aGC es sz lo hi K
 | _=>False
def RU τ(op:BinOp)(t:TypeId)(x y:AV)(K:AV→Prop):=
 match op,x,y with
 | .add,.str a,.str b=>aGH a b K
 | op,x,y=>gK (Yr τ op t x y) K
def auR(σ:Nat→AObj)(k sz bytes:Nat)(d:Option Tmp)(K:List Nat→List Wr→Prop):AV→AV→Prop
 | .slice [] .nils,.slice ys _=>gP (bS (σ k)) (ax9 ys sz bytes (K [k] (.obj k (.tip (ys.length*sz))::au d (.slice ys (.tip k sz))))) False
 | .slice es (.tip l z),.slice ys _=>match σ l with
  | .tip n=>gP (bS (σ k)&&z==sz) (ayz n es ys sz bytes (K [l,k] (.obj l .dead:: .obj k (.tip ((es++ys).length*sz))::au d (.slice (es++ys) (.tip k sz))))) False
  | _=>False
 | _,_=>False
def stepT(τ:Nat→TI)(k:Nat)(d:Option Tmp)(ρ:Operand→AV)(σ:Nat→AObj)(K:List Nat→List Wr→Prop):Op→Prop
 | .move x=>K [] (au d (ρ x))
 | .assign x=>K [] (au d (ρ x))
 | .pick c x y=>match ρ c with
  | .bool b=>gP b (K [] (au d (ρ x))) (K [] (au d (ρ y)))
  | _=>False
 | .nilCheck x=>gK (ayb (ρ x)) fun v=>K [] (au d v)
 | .binOp op t x y _=>RU τ op t (ρ x) (ρ y) fun v=>K [] (au d v)
 | .unOp op _ x=>gK (unK op (ρ x)) fun v=>K [] (au d v)
 | .fieldAddr s x f=>gK (ae7 (lk (τ s).field f) (ρ x)) fun v=>K [] (au d v)
 | .field s x f=>gK (lk (τ s).field f) fun p=>match ρ x with
  | .agg cs=>gK (loadT τ p.2 (cs.drop p.1)) fun v=>K [] (au d v)
  | _=>False
 | .indexAddr t x i=>apc (fun v=>K [] (au d v)) (τ t).ix (ρ x) (ρ i)
 | .index t x i=>match ρ x,ρ i with
  | .str s,.int _ n=>gP (τ t).isStr (aCa s n fun v=>K [] (au d v)) False
  | _,_=>False
 | .extract x i=>match ρ x with
  | .tup vs=>gK (vs[i]?) fun v=>K [] (au d v)
  | _=>False
 | .slice t x lo hi none=>cutV (τ t).isStr (τ t).slT (lo.map ρ) (hi.map ρ) (fun v=>K [] (au d v)) (ρ x)
 | .build t parts=>gP (τ t).isStruct (gK (τ t).zero fun z=>gK (jV (lk (τ t).place) z (parts.toList.map fun p=>(p.1,ρ p.2))) fun cs=>K [] (au d (.agg cs))) False
 | .makeFunc (.func f) first captured=>gP (first.toList.isEmpty) (K [] (au d (.func f (captured.toList.map ρ)))) False
 | .load t x=>match ρ x with
  | .eptr cs=>gK (loadT τ t cs) fun v=>K [] (au d v)
  | .ptr l off=>match σ l with
   | .box cs=>gK (loadT τ t (cs.drop off)) fun v=>K [l] (au d v)
   | _=>False
  | _=>False
 | .store t x y=>match ρ x with
  | .ptr l off=>gK (dM (ρ y)) fun vs=>match σ l with
   | .box cs=>gP (decide ((τ t).size=some vs.length∧off+vs.length≤cs.length)&&vs.all isScalar) (K [l] (.obj l (.box (cs.take off++vs++cs.drop (off+vs.length)))::au d (.tup []))) False
   | _=>False
  | _=>False
 | .alloc t=>gP (bS (σ k)) (gK (τ t).zero fun z=>K [k] (.obj k (.box z)::au d (.ptr k 0))) False
 | .box _ x=>gP (bS (σ k)) (gK (dM (ρ x)) fun cs=>K [k] (.obj k (.box cs)::au d (.ptr k 0))) False
 | .makeMap _ none=>gP (bS (σ k)) (K [k] (.obj k (.mp [])::au d (.mapr k))) False
 | .buildSlice t len parts=>gK (τ t).elem fun e=>gK (τ e.1).zero fun z=>gP (bS (σ k)&&(decide (len*e.2.1≤16777216)&&(decide (len≤16777216)&&decide (z.length=e.2.1)))) (gK (jV (fun i=>some (i*e.2.1,e.2.1)) ((List.replicate len z).flatten) (parts.toList.map fun p=>(p.1,ρ p.2))) fun cs=>K [k] (.obj k (.tip (len*e.2.1))::au d (.slice (chunks e.2.1 len (cs.map shr)) (.tip k e.2.1)))) False
 | .convert s t x=>match ρ x with
  | .int _ n=>gP (τ s).int.isSome (gK (τ t).int fun k=>K [] (au d (.int k (k.wrap n)))) False
  | _=>False
 | .call {callee:=.builtin .len,args,argTypes}=>match args.toList,argTypes.toList with
  | [x],[t]=>gK (azE (τ t).isStr (τ t).slT (ρ x)) fun v=>K [] (au d v)
  | _,_=>False
 | .call {callee:=.builtin .append,args,argTypes}=>match args.toList,argTypes.toList with
  | [x,y],[t,t2]=>gK (τ t).elem fun e=>gP (τ t2).isSl (auR σ k e.2.1 e.2.2 d K (ρ x) (ρ y)) False
  | _,_=>False
 | .call {callee:=.builtin .max,args,argTypes:=_}=>match args.toList with
  | [x,y]=>match ρ x,ρ y with
   | .int k a,.int k' b=>gP (decide (k=k')) (K [] (au d (.int k (if b>a then b else a)))) False
   | _,_=>False
  | _=>False
 | .call {callee:=.builtin .min,args,argTypes:=_}=>match args.toList with
  | [x,y]=>match ρ x,ρ y with
   | .int k a,.int k' b=>gP (decide (k=k')) (K [] (au d (.int k (if b<a then b else a)))) False
   | _,_=>False
  | _=>False
 | .lookup t m key ok=>gK (τ t).smap fun e=>match ρ m,ρ key with
  | .mapr l,.str s=>match σ l with
   | .mp es=>gK (τ e).zav fun z=>aEO es s (fun v=>K [l] (au d (BN (some v) ok z))) (K [l] (au d (BN none ok z)))
   | _=>False
  | _,_=>False
 | .mapUpdate t m key x=>gK (τ t).smap fun _=>match ρ m,ρ key with
  | .mapr l,.str s=>match σ l with
   | .mp es=>aFZ es (K [l] (.obj l (.mp (Gg es s (sD (ρ x))))::au d (.tup [])))
   | _=>False
  | _,_=>False
 | _=>False
end
section
open Go
theorem fM{P}{k}{o}{ρ}{σ}{v}{K:List Nat→List Wr→Prop}(h:aB P o.op ρ=some v)(hK:K [] (au o.dst v)):∃rd ws,aJ P k o ρ σ=some (rd,ws)∧K rd ws:=
 ⟨[],au o.dst v,by unfold aJ;rw[h],hK⟩
theorem atc{P}{op}{t}{x y}{K}(h:RU (TI.of P) op t x y K):∃v,lT P op t x y=some v∧K v:=by
 unfold RU at h;split at h
 ·obtain⟨h1,h2⟩:=h;exact⟨_,by simp[lT,h1],h2⟩
 ·obtain⟨v,h1,h2⟩:=bN h;exact⟨v,h1,h2⟩
theorem ZV{P}{t}{x i}{ρ}{K}(h:apc K (TI.of P t).ix (ρ x) (ρ i)):∃v,aB P (.indexAddr t x i) ρ=some v∧K v:=by
 have hix:(TI.of P t).ix=Ny P t:=rfl;rw[hix] at h;simp only[aB];unfold Ny at h;unfold apc at h;split at h
 ·rename_i sz es tag k n h1 h2 h3;split at h1
  ·rename_i e hu;simp only[IxT.sl.injEq] at h1;obtain⟨cs,g1,g2,g3,g4⟩:=h
   grind
  ·cases h1
  ·cases h1
 ·rename_i len sz l o k n h1 h2 h3;split at h1
  ·cases h1
  ·rename_i n' e hu;simp only[IxT.arr.injEq] at h1;obtain⟨g1,g2⟩:=h
   grind
  ·cases h1
 ·rename_i len sz cs k n h1 h2 h3;split at h1
  ·cases h1
  ·rename_i n' e hu;simp only[IxT.arr.injEq] at h1;obtain⟨g1,g2⟩:=h;exact⟨_,by simp_all,g2⟩
  ·cases h1
 grind
theorem aaq{P}{t}{x}{lo hi}{ρ}{K}(h:cutV (TI.of P t).isStr (TI.of P t).slT (lo.map ρ) (hi.map ρ) K (ρ x)):∃v,aB P (.slice t x lo hi none) ρ=some v∧K v:=by
 have h1:(TI.of P t).isStr=aB.isStrT P t:=rfl;have h2:(TI.of P t).slT=aB.sliceT P t:=rfl;simp only[aB];unfold cutV at h;split at h
 ·rename_i s hx;rcases bC h with⟨g1,l,hh,g2,g3,g4⟩ | ⟨_,g⟩
  ·grind
  grind
 ·rename_i es tag hx;obtain⟨sz,g1,l,hh,g2,g3,g4,g5⟩:=bN h
  grind
 grind
theorem ab6{P}{k}{o}{ρ}{σ}{K}(h:stepT (TI.of P) k o.dst ρ σ K o.op):∃rd ws,aJ P k o ρ σ=some (rd,ws)∧K rd ws:=by
 obtain⟨d,op,ty,ps,af,gd⟩:=o;simp only at h;unfold stepT at h;split at h
 ·exact fM (o:=⟨d,_,ty,ps,af,gd⟩) rfl h
 ·exact fM (o:=⟨d,_,ty,ps,af,gd⟩) rfl h
 ·rename_i c x y;split at h
  ·rename_i b hb;rcases bC h with⟨rfl,g⟩ | ⟨rfl,g⟩
   ·exact fM (o:=⟨d,_,ty,ps,af,gd⟩) (by simp[aB,hb]) g
   ·exact fM (o:=⟨d,_,ty,ps,af,gd⟩) (by simp[aB,hb]) g
  ·exact h.elim
 ·obtain⟨v,g1,g2⟩:=bN h;exact fM (o:=⟨d,_,ty,ps,af,gd⟩) g1 g2
 ·obtain⟨v,g1,g2⟩:=atc h;exact fM (o:=⟨d,_,ty,ps,af,gd⟩) g1 g2
 ·obtain⟨v,g1,g2⟩:=bN h;exact fM (o:=⟨d,_,ty,ps,af,gd⟩) g1 g2
 ·rw[Qz] at h;obtain⟨v,g1,g2⟩:=bN h;exact fM (o:=⟨d,_,ty,ps,af,gd⟩) g1 g2
 ·rw[Qz] at h;obtain⟨p,g1,g2⟩:=bN h;split at g2
  ·rename_i cs hx;obtain⟨v,g3,g4⟩:=bN g2;exact fM (o:=⟨d,_,ty,ps,af,gd⟩) (by simp only[aB,g1,hx];exact g3) g4
  ·exact g2.elim
 ·obtain⟨v,g1,g2⟩:=ZV h;exact fM (o:=⟨d,_,ty,ps,af,gd⟩) g1 g2
 ·split at h
  ·rename_i s kk n hx hi;rcases bC h with⟨g1,g2,g3⟩ | ⟨_,g⟩
   ·have g1:aB.isStrT P _=true:=g1;exact fM (o:=⟨d,_,ty,ps,af,gd⟩) (by simp only[aB,hx,hi];rw[if_pos ⟨g1,g2⟩]) g3
   ·exact g.elim
  ·exact h.elim
 ·split at h
  ·rename_i vs hx;obtain⟨v,g1,g2⟩:=bN h;have hlt:=(qAx.1 g1).1;exact fM (o:=⟨d,_,ty,ps,af,gd⟩) (v:=v) (by simp only[aB,hx];rw[if_pos hlt];simp[List.getD,g1]) g2
  ·exact h.elim
 ·obtain⟨v,g1,g2⟩:=aaq h;exact fM (o:=⟨d,_,ty,ps,af,gd⟩) g1 g2
 ·rename_i t parts;rcases bC h with⟨g1,g2⟩ | ⟨_,g⟩
  ·obtain⟨z,g3,g4⟩:=bN g2;obtain⟨cs,g5,g6⟩:=bN g4;have g1:xR P t=true:=g1;have g3:jW P t=some z:=g3;have:lk (TI.of P t).place=DT P t:=funext fun i=>ajm P t i;rw[this] at g5;exact fM (o:=⟨d,_,ty,ps,af,gd⟩) (by simp only[aB,g1,if_true,g3,g5,qAy]) g6
  ·exact g.elim
 ·rename_i f first captured
  rcases bC h with⟨g1,g2⟩ | ⟨_,g⟩
  ·have:first.size=0:=by
    have:=qCs.1 g1;simpa using this
   exact fM (o:=⟨d,_,ty,ps,af,gd⟩) (by simp only[aB];rw[if_pos this]) g2
  ·exact g.elim
 ·rename_i t x;split at h
  ·rename_i cs hx;obtain⟨v,g1,g2⟩:=bN h;exact fM (o:=⟨d,_,ty,ps,af,gd⟩) (by simp only[aB,hx];exact g1) g2
  ·rename_i l off hx;split at h
   ·rename_i cs hl;obtain⟨v,g1,g2⟩:=bN h;rw[adC] at g1;exact⟨_,_,by rw[asP];simp only[al5,hx,hl,g1];rfl,g2⟩
   ·exact h.elim
  ·exact h.elim
 ·rename_i t x y;split at h
  ·rename_i l off hx;obtain⟨vs,g1,g2⟩:=bN h;split at g2
   ·rename_i cs hl;rcases bC g2 with⟨g3,g4⟩ | ⟨_,g⟩
    ·simp only[qAa,decide_eq_true_eq] at g3;have g3':sizeT P t=some vs.length:=g3.1.1;refine⟨_,_,?_,g4⟩;rw[ac6];simp only[ag5,hx,g1,hl];rw[if_pos ⟨g3',g3.1.2,g3.2⟩]
    ·exact g.elim
   ·exact g2.elim
  ·exact h.elim
 ·rcases bC h with⟨g1,g2⟩ | ⟨_,g⟩
  ·obtain⟨z,g3,g4⟩:=bN g2;have g3:jW P _=some z:=g3;exact⟨_,_,by rw[ayB,g1,if_pos rfl,g3];rfl,g4⟩
  ·exact g.elim
 ·rcases bC h with⟨g1,g2⟩ | ⟨_,g⟩
  ·obtain⟨z,g3,g4⟩:=bN g2;exact⟨_,_,by rw[aC8,g1,if_pos rfl,g3];rfl,g4⟩
  ·exact g.elim
 ·rcases bC h with⟨g1,g2⟩ | ⟨_,g⟩
  ·exact⟨_,_,by rw[atE,g1,if_pos rfl],g2⟩
  ·exact g.elim
 ·rename_i t len parts;obtain⟨⟨e,sz,by'⟩,g1,g2⟩:=bN h;obtain⟨z,g3,g4⟩:=bN g2;rcases bC g4 with⟨g5,g6⟩ | ⟨_,g⟩
  ·obtain⟨cs,g7,g8⟩:=bN g6;have g1:lK P t=some (e,sz,by'):=g1;have g3:jW P e=some z:=g3;simp only[qAa,decide_eq_true_eq] at g5;refine⟨_,_,?_,g8⟩;simp only[aJ,aB,g1,g3];rw[if_pos ⟨g5.1,g5.2.1,g5.2.2.1,g5.2.2.2⟩];simp only at g7;rw[g7];rfl
  ·exact g.elim
 ·rename_i s t x;split at h
  ·rename_i kk n hx;rcases bC h with⟨g1,g2⟩ | ⟨_,g⟩
   ·obtain⟨kt,g3,g4⟩:=bN g2;have g1:(intTy P s).isSome=true:=g1;have g3:intTy P t=some kt:=g3;refine fM (o:=⟨d,_,ty,ps,af,gd⟩) (v:=.int kt (kt.wrap n)) ?_ g4;have hc:aB.convT P s t=some kt:=by
     unfold intTy at g1 g3;unfold aB.convT;split at g1
     ·rename_i hs;split at g3
      ·rename_i ht;cases g3;simp[hs,ht]
      ·cases g3
     ·cases g1
    simp only[aB,hx,hc]
   ·exact g.elim
  ·exact h.elim
 ·rename_i args argTypes;split at h
  ·rename_i x t ha ht;obtain⟨v,g1,g2⟩:=bN h;exact fM (o:=⟨d,_,ty,ps,af,gd⟩) (by simp only[aB,ha,ht];exact g1) g2
  ·exact h.elim
 ·rename_i args argTypes;split at h
  ·rename_i x y t t2 ha ht;obtain⟨⟨e,sz,by'⟩,g1,g2⟩:=bN h;rcases bC g2 with⟨g3,g4⟩ | ⟨_,g⟩
   ·have g1:lK P t=some (e,sz,by'):=g1;have g3:aJ.isSliceT P t2=true:=g3;simp only at g4;unfold auR at g4;split at g4
    ·rename_i ys tg hx hy;rcases bC g4 with⟨g5,g6,g7⟩ | ⟨_,g⟩
     ·refine⟨_,_,?_,g7⟩;simp only[aJ,aB,ha,ht,g1,g3,hx,hy];rw[if_pos ⟨g5,trivial,g6⟩]
     ·exact g.elim
    ·rename_i es l z ys tg hx hy;split at g4
     ·rename_i n hl;rcases bC g4 with⟨g5,g6,g7⟩ | ⟨_,g⟩
      ·simp only[qAa,beq_iff_eq] at g5;refine⟨_,_,?_,g7⟩;simp only[aJ,aB,ha,ht,g1,g3,hx,hy,hl];rw[if_pos ⟨g5.1,g6.1,g5.2,g6.2⟩]
      ·exact g.elim
     ·exact g4.elim
    ·exact g4.elim
   ·exact g.elim
  ·exact h.elim
 ·rename_i args argTypes;split at h
  ·rename_i x y ha;split at h
   ·rename_i k1 a k2 b hx hy;rcases bC h with⟨g1,g2⟩ | ⟨_,g⟩
    ·simp only[decide_eq_true_eq] at g1;exact fM (o:=⟨d,_,ty,ps,af,gd⟩) (by simp only[aB,ha,hx,hy];rw[if_pos g1]) g2
    ·exact g.elim
   ·exact h.elim
  ·exact h.elim
 ·rename_i args argTypes;split at h
  ·rename_i x y ha;split at h
   ·rename_i k1 a k2 b hx hy;rcases bC h with⟨g1,g2⟩ | ⟨_,g⟩
    ·simp only[decide_eq_true_eq] at g1;exact fM (o:=⟨d,_,ty,ps,af,gd⟩) (by simp only[aB,ha,hx,hy];rw[if_pos g1]) g2
    ·exact g.elim
   ·exact h.elim
  ·exact h.elim
 ·rename_i t m key ok;obtain⟨e,g1,g2⟩:=bN h;split at g2
  ·rename_i l s hm hk;split at g2
   ·rename_i es hl;obtain⟨z,g3,g4,g5⟩:=bN g2;have g1:rY P t=some e:=g1;have g3:Lb P e=some z:=g3;cases hf:rH es s with
    | some v=>exact⟨_,_,by simp only[aJ,aB,g1,hm,hk,hl,g3,hf],g4 v hf⟩
    | none=>exact⟨_,_,by simp only[aJ,aB,g1,hm,hk,hl,g3,hf],g5 hf⟩
   ·exact g2.elim
  ·exact g2.elim
 ·rename_i t m key x;obtain⟨e,g1,g2⟩:=bN h;split at g2
  ·rename_i l s hm hk;split at g2
   ·rename_i es hl;obtain⟨g3,g4⟩:=g2;have g1:rY P t=some e:=g1;exact⟨_,_,by simp only[aJ,aB,g1,hm,hk,hl];rw[if_pos g3],g4⟩
   ·exact g2.elim
  ·exact g2.elim
 grind
end
section
open Go
def fL{α:Type}:List α→(List α→Prop)→Prop
 | [],K=>K []
 | x::xs,K=>fL xs fun ys=>K (x::ys)
def Yb{α:Type}:List α→Nat→(Nat→Prop)→Prop
 | [],k,K=>K k
 | _::xs,k,K=>Yb xs (k+1) K
def RO{α:Type}:List α→Nat→α→(List α→Prop)→Prop
 | [],_,_,K=>K []
 | _::xs,0,v,K=>K (v::xs)
 | x::xs,n+1,v,K=>RO xs n v fun ys=>K (x::ys)
def fAV:AV→(AV→Prop)→Prop
 | .agg cs,K=>fL cs fun cs=>K (.agg cs)
 | .eptr cs,K=>fL cs fun cs=>K (.eptr cs)
 | .tup cs,K=>fL cs fun cs=>K (.tup cs)
 | .func f cs,K=>fL cs fun cs=>K (.func f cs)
 | .int k n,K=>K (.int k n)
 | .bool b,K=>K (.bool b)
 | .str b,K=>K (.str b)
 | .ptr l o,K=>K (.ptr l o)
 | .nilp,K=>K .nilp
 | .ifc t v,K=>K (.ifc t v)
 | .slice es t,K=>K (.slice es t)
 | .mapr l,K=>K (.mapr l)
 | .nilFunc,K=>K .nilFunc
 | .psl l z n,K=>K (.psl l z n)
 | .flist ns,K=>K (.flist ns)
 | .unk,K=>K .unk
def azc:AObj→(AObj→Prop)→Prop
 | .box cs,K=>fL cs fun cs=>K (.box cs)
 | .tip n,K=>K (.tip n)
 | .mp es,K=>K (.mp es)
 | .dead,K=>K .dead
 | .arr z es,K=>K (.arr z es)
 | .res,K=>K .res
def xY:List Wr→List AV→List AObj→(List AV→List AObj→Prop)→Prop
 | [],t,h,K=>K t h
 | .slot n v::ws,t,h,K=>fAV v fun v=>RO t n v fun t=>xY ws t h K
 | .obj n v::ws,t,h,K=>azc v fun v=>RO h n v fun h=>xY ws t h K
def adj(t:List AV):List Operand→(List AV→Prop)→Prop
 | [],K=>K []
 | x::xs,K=>fAV (bA t x) fun v=>adj t xs fun vs=>K (v::vs)
def frN:Nat→Prop→Prop→Prop
 | 0,A,_=>A
 | _+1,_,B=>B
theorem uN{α}:∀l (K:List α→Prop),fL l K=K l:=by
 intro l;induction l with
 | nil=>intro K;rfl
 | cons x l ih=>intro K;simp only[fL];exact ih _
theorem TH{α}:∀(l:List α) k K,Yb l k K=K (k+l.length):=by
 intro l;induction l with
 | nil=>intro k K;rfl
 | cons x l ih=>intro k K;simp only[Yb];rw[ih];congr 1;simp;omega
theorem I9{α}:∀l n v (K:List α→Prop),RO l n v K=K (l.set n v):=by
 intro l;induction l with
 | nil=>intro n v K;rfl
 | cons x l ih=>intro n v K;cases n with
  | zero=>rfl
  | succ n=>simp only[RO];exact ih _ _ _
theorem Kt v K:fAV v K=K v:=by cases v<;>simp only[fAV,uN]
theorem aBh v K:azc v K=K v:=by cases v<;>simp only[azc,uN]
theorem agV:∀ws t h K,xY ws t h K=K (ASt.wr ⟨t,h⟩ ws).tmps (ASt.wr ⟨t,h⟩ ws).heap:=by
 intro ws;induction ws with
 | nil=>intro t h K;rfl
 | cons w ws ih=>intro t h K;cases w with
  | slot n v=>simp only[xY,Kt,I9];rw[ih];rfl
  | obj n v=>simp only[xY,aBh,I9];rw[ih];rfl
theorem aaR t:∀l K,adj t l K=K (l.map (bA t)):=by
 intro l;induction l with
 | nil=>intro K;rfl
 | cons x l ih=>intro K;simp only[adj,Kt,ih,qAu]
def aCy(w:Bool)(d:Nat)(t:List AV)(A B:List AV→Prop):AV→Prop
 | .bool b=>gP b (RO t d (.bool true) fun t=>gP w (A t) (B t)) (RO t d (.bool false) fun t=>gP w (B t) (A t))
 | .tup []=>B t
 | _=>False
def grd(ops:List Oper)(t:List AV)(A B:List AV→Prop):Option (Nat×Bool)→Prop
 | none=>A t
 | some (j,w)=>gK ((ops[j]?).bind (·.dst)) fun d=>aCy w d t A B (t.getD d .unk)
theorem set_self{t:List AV}{d}{v}(h:t.getD d .unk=v):t.set d v=t:=by
 apply qBS
 grind
theorem PX{ops}{t}{A B}{o}(h:grd ops t A B o.guard):dQ ops.toArray t o=some true∧A t∨dQ ops.toArray t o=some false∧B t:=by
 unfold dQ;cases hg:o.guard with
 | none=>rw[hg] at h;exact .inl ⟨rfl,h⟩
 | some p=>
  obtain⟨j,w⟩:=p;rw[hg] at h;obtain⟨d,h1,h2⟩:=bN h;unfold aCy at h2;split at h2
  ·rename_i b hb;rcases bC h2 with⟨rfl,g⟩ | ⟨rfl,g⟩
   ·rw[I9,set_self hb] at g;rcases bC g with⟨rfl,g⟩ | ⟨rfl,g⟩
    ·grind
    grind
   ·rw[I9,set_self hb] at g;rcases bC g with⟨rfl,g⟩ | ⟨rfl,g⟩
    ·grind
    grind
  ·grind
  grind
def YB P f args dst t h k K:=Gn P f args dst ⟨t,h⟩ k K .mk
def YR(K:Nat→List AV→Prop):AV→Prop
 | .func f caps=>K f caps
 | _=>False
def run(P:Program)(τ:Nat→TI)(ops:List Oper):List Oper→Nat→List Eff→List AV→List AObj→(List Eff→List AV→List AObj→Prop)→Prop
 | [],_,es,t,h,K=>K es.reverse t h
 | o::l,k,es,t,h,K=>grd ops t
   fun t=>match lu o.op with
    | some (f,args)=>YR (fun fid caps=>adj t args.toList fun vs=>fL (vs++caps) fun vs=>YB P fid vs o.dst t h k fun k' ro ws=>xY ws t h fun t' h'=>run P τ ops l k' (⟨aX ops.toArray o,ro,ws⟩::es) t' h' K) (bA t f)
    | none=>stepT τ k o.dst (bA t) (obj? h) (fun rd ws=>xY ws t h fun t' h'=>frN (iW o.op) (run P τ ops l k (⟨aX ops.toArray o,rd,ws⟩::es) t' h' K) (run P τ ops l (k+1) (⟨aX ops.toArray o,rd,ws⟩::es) t' h' K)) o.op
   (fun t=>xY (au o.dst (.tup [])) t h fun t' h'=>run P τ ops l k (⟨aX ops.toArray o,[],au o.dst (.tup [])⟩::es) t' h' K) o.guard
def aay(next:List AV→List AObj→Prop)(Q:Exit→List AV→List AObj→Prop):Exit→List AV→List AObj→Prop
 | .normal,t,h=>next t h
 | e,t,h=>Q e t h
def azj(id:Nat)(Q:Exit→List AV→List AObj→Prop):Exit→List AV→List AObj→Prop
 | .exit id',t,h=>gP (id'==id) (Q .normal t h) (Q (.exit id') t h)
 | e,t,h=>Q e t h
def onS(Q:Exit→List AV→List AObj→Prop):Exit→ASt→Prop:=fun e s=>Q e s.tmps s.heap
end
section
open Go
inductive Tr where
 | nil
 | node (l:Tr) (key:Nat) (x:TI) (r:Tr)
def Tr.look(d:Nat→TI)(t:Nat):Tr→TI
 | .nil=>d t
 | .node l k x r=>match Nat.ble t k with
  | true=>match Nat.beq t k with
   | true=>x
   | false=>Tr.look d t l
  | false=>Tr.look d t r
def Tr.keys:Tr→List Nat
 | .nil=>[]
 | .node l k _ r=>l.keys++k::r.keys
def Tr.vals:Tr→List TI
 | .nil=>[]
 | .node l _ x r=>l.vals++x::r.vals
theorem Tr.len:∀T:Tr,T.keys.length=T.vals.length
 | .nil=>rfl
 | .node l k x r=>by simp[keys,vals,Tr.len l,Tr.len r]
theorem Tr.look_eq d t:∀T:Tr,T.keys.map d=T.vals→T.look d t=d t
 | .nil,_=>rfl
 | .node l k x r,h=>by
  simp only[keys,qAY,qAu] at h;have h1:=List.append_inj h (by simp[Tr.len l]);obtain⟨h1,h2⟩:=h1;simp at h2;unfold Tr.look;split
  ·split
   ·simp_all
   ·exact Tr.look_eq d t l h1
  ·exact Tr.look_eq d t r h2.2
theorem aCW{P}{T:Tr}(h:T.keys.map (TI.of P)=T.vals):(fun t=>T.look (TI.of P) t)=TI.of P:=funext fun t=>Tr.look_eq _ t T h
def resT(τ:Nat→TI)(t:List AV)(h:List AObj):List ResultVar→(List AV→Prop)→Prop
 | [],K=>K []
 | .tmp n::r,K=>fAV (t.getD n .unk) fun v=>resT τ t h r fun vs=>K (v::vs)
 | .cell a ty::r,K=>match t.getD a .unk with
  | .ptr l off=>match obj? h l with
   | .box cs=>gK (loadT τ ty (cs.drop off)) fun v=>fAV v fun v=>resT τ t h r fun vs=>K (v::vs)
   | _=>False
  | _=>False
theorem MR{P}{t}{h}:∀rs K,resT (TI.of P) t h rs K→∃xs,xD P ⟨t,h⟩ rs=some xs∧K xs:=by
 intro rs
 induction rs with
 | nil=>intro K hr;exact⟨[],rfl,hr⟩
 | cons r rs ih=>
  intro K hr;cases r with
  | tmp n=>
   simp only[resT,Kt] at hr;obtain⟨xs,h1,h2⟩:=ih _ hr;exact⟨_,by simp only[xD,h1];rfl,h2⟩
  | cell a ty=>
   simp only[resT] at hr;split at hr
   ·rename_i l off hp;split at hr
    ·rename_i cs hb;obtain⟨v,h1,h2⟩:=bN hr;rw[Kt] at h2;obtain⟨xs,h3,h4⟩:=ih _ h2;rw[adC] at h1;exact⟨_,by simp only[xD,hp,hb,h1,h3];rfl,h4⟩
    grind
   grind
def Ends(v res:AV):=v=res
def FW(n)args(K:List AV→Prop):=fL (args++List.replicate (n - args.length) (.tup [])) K
end
section
open Go
end
section
open Go
abbrev QT:=Exit→List AV→List AObj→Prop
def AW(P)m(c:Code)(Q:QT)t(h):=
 ∀C κ a w,C.k0.length≤m→Sim C κ ⟨t,h⟩ a w→c.wp P (fun e a' w'=>∃s' κ',onS Q e s'∧Sim C κ' s' a' w') a w
theorem AW.of{P}{m}{c}{Q:QT}{t}{h}(hw:bX P c (onS Q) ⟨t,h⟩):AW P m c Q t h:=fun C κ a w _ hs=>hw C κ a w hs
theorem AW.mono{P}{m}{c}{Q Q'}{t}{h}(hw:AW P m c Q t h)(hq:∀e t h,Q e t h→Q' e t h):AW P m c Q' t h:=
 fun C κ a w hk hs=>wp_mono (hw C κ a w hk hs) fun _ _ _ ⟨s',κ',h1,h2⟩=>⟨s',κ',hq _ _ _ h1,h2⟩
theorem AW.skip{P}{m}{Q}{t}{h}(hq:Q .normal t h):AW P m .skip Q t h:=AW.of (bX.skip hq)
theorem AW.ret{P}{m}{Q}{t}{h}(hq:Q .ret t h):AW P m .ret Q t h:=AW.of (bX.ret hq)
theorem AW.exit{P}{m}{Q}{t}{h}{id}(hq:Q (.exit id) t h):AW P m (.exit id) Q t h:=AW.of (bX.exit hq)
theorem AW.seq{P}{m}{x y}{Q}{t}{h}(hw:AW P m x (aay (AW P m y Q) Q) t h):AW P m (.seq x y) Q t h:=by
 intro C κ a w hk hs;refine wp_seq (wp_mono (hw C κ a w hk hs) ?_);rintro e a' w' ⟨s',κ',h1,h2⟩;cases e with
 | normal=>exact h1 C κ' a' w' hk h2
 | exit id=>exact⟨s',κ',h1,h2⟩
 | goto l=>exact⟨s',κ',h1,h2⟩
 | ret=>exact⟨s',κ',h1,h2⟩
 | panic c=>exact⟨s',κ',h1,h2⟩
 | outgrown=>exact⟨s',κ',h1,h2⟩
theorem AW.tY{P}{m}{x y}{Q}{t}{h}(hw:∀K:List AV→List AObj→Prop,(∀t h,AW P m y Q t h→K t h)→AW P m x (aay K Q) t h):AW P m (.seq x y) Q t h:=
 AW.seq (hw _ fun _ _ h=>h)
theorem AW.cond{P}{m}{c}{x y}{Q}{t}{h}{b}(hc:bA t c=.bool b)(h1:b=true→AW P m x Q t h)(h2:b=false→AW P m y Q t h):AW P m (.cond c x y) Q t h:=by
 intro C κ a w hk hs;have hr:=hs.ev c;have:bA (ASt.mk t h).tmps c=.bool b:=hc;rw[this] at hr;exact wp_cond_split hr.Oz (fun ht=>h1 ht C κ a w hk hs) (fun ht=>h2 ht C κ a w hk hs)
theorem AW.block{P}{m id}{c}{Q:QT}{t}{h}(hw:AW P m c (azj id Q) t h):AW P m (.block id c) Q t h:=by
 intro C κ a w hk hs;refine wp_block (wp_mono (hw C κ a w hk hs) ?_);rintro e a' w' ⟨s',κ',h1,h2⟩;cases e with
 | exit id'=>
  simp only[Exit.inBlock];rcases bC h1 with⟨e,g⟩ | ⟨e,g⟩
  ·rw[if_pos (by simpa using e)];exact⟨s',κ',g,h2⟩
  ·rw[if_neg (by simpa using e)];exact⟨s',κ',g,h2⟩
 | normal=>exact⟨s',κ',h1,h2⟩
 | goto l=>exact⟨s',κ',h1,h2⟩
 | ret=>exact⟨s',κ',h1,h2⟩
 | panic c=>exact⟨s',κ',h1,h2⟩
 | outgrown=>exact⟨s',κ',h1,h2⟩
theorem AW.loop{P}{m}{c}{Q:QT}{t}{h}(I:Nat→List AV→List AObj→Prop){n}(h0:I n t h)(round:∀n t h,I n t h→AW P m c (aay (fun t' h'=>∃k,k<n∧I k t' h') Q) t h):AW P m (.loop c) Q t h:=by
 intro C κ a w hk hs;refine wp_loop_ghost (Q:=fun e a' w'=>∃s' κ',onS Q e s'∧Sim C κ' s' a' w') (fun n a w=>∃s κ,I n s.tmps s.heap∧Sim C κ s a w) n ⟨⟨t,h⟩,κ,h0,hs⟩ ?_;rintro n a w ⟨s,κ,hI,hs⟩;refine wp_mono (round n s.tmps s.heap hI C κ a w hk hs) ?_;rintro e a' w' ⟨s',κ',h1,h2⟩;cases e with
 | normal=>
  obtain⟨m,hm,hI'⟩:=h1;exact⟨m,hm,s',κ',hI',h2⟩
 | exit id=>exact⟨s',κ',h1,h2⟩
 | goto l=>exact⟨s',κ',h1,h2⟩
 | ret=>exact⟨s',κ',h1,h2⟩
 | panic c=>exact⟨s',κ',h1,h2⟩
 | outgrown=>exact⟨s',κ',h1,h2⟩
def VF:AV→Prop
 | .int k n=>qy k n
 | .str s=>s.length≤9223372036854775807
 | .slice es _=>es.length≤9223372036854775807
 | .psl _ _ n=>n≤140737488355328
 | _=>True
theorem Rel.vf{w}{κ}{pv}{x}{v}(h:Rel w κ pv x v):VF x:=by
 cases h<;>first | trivial | assumption
def parts:AV→List AV
 | .agg cs=>cs
 | .tup cs=>cs
 | .eptr cs=>cs
 | .func _ cs=>cs
 | v=>[v]
end
section
open Go
def iP(L:List (Option Nat))(big i:Nat):=((L[i]?).getD none).getD big
inductive VW(h:List AObj)(L:List (Option Nat)):AV→AV→Prop where
 | unk (v:AV):VW h L .unk v
 | same {x y:AV}:ren (iP L h.length) x=y→VW h L x y
 | share {es es':List (List AV)} {t:Tag}:dV (iP L h.length) es=es'→VW h L (.slice es .shared) (.slice es' t)
 | nils (j z:Nat):VW h L (.slice [] (.tip j z)) (.slice [] .nils)
 | nilF:VW h L (.flist []) .nilp
 | frzF {l:Nat} {cs cs':List AV} {r:List (List AV)} {v:AV}:obj? h l=.box (cs'++[v])→some l∉L→cs.length=cs'.length→(∀j,j<cs.length→VW h L (cs.getD j .unk) (cs'.getD j .unk))→VW h L (.flist r) v→VW h L (.flist (cs::r)) (.ptr l 0)
 | nilP (j z:Nat):VW h L (.psl j z 0) (.slice [] .nils)
 | aai {l z n:Nat} {es es0:List (List AV)}:obj? h l=.arr z es0→some l∉L→n≤es0.length→dV (iP L h.length) es=es0.take n→VW h L (.slice es .shared) (.psl l z n)
 | agg {cs cs':List AV}:cs.length=cs'.length→(∀j,VW h L (cs.getD j .unk) (cs'.getD j .unk))→VW h L (.agg cs) (.agg cs')
 | tup {cs cs':List AV}:cs.length=cs'.length→(∀j,VW h L (cs.getD j .unk) (cs'.getD j .unk))→VW h L (.tup cs) (.tup cs')
 | eptr {cs cs':List AV}:cs.length=cs'.length→(∀j,VW h L (cs.getD j .unk) (cs'.getD j .unk))→VW h L (.eptr cs) (.eptr cs')
 | func {f:Nat} {cs cs':List AV}:cs.length=cs'.length→(∀j,VW h L (cs.getD j .unk) (cs'.getD j .unk))→VW h L (.func f cs) (.func f cs')
 | frz {l off:Nat} {cs cs':List AV}:obj? h l=.box cs'→some l∉L→cs.length+off≤cs'.length→(∀j,VW h L (cs.getD j .unk) (cs'.getD (off+j) .unk))→VW h L (.eptr cs) (.ptr l off)
inductive OW(h:List AObj)(L:List (Option Nat)):AObj→AObj→Prop where
 | dead (o:AObj):OW h L .dead o
 | box {cs cs':List AV}:cs.length=cs'.length→(∀j,VW h L (cs.getD j .unk) (cs'.getD j .unk))→OW h L (.box cs) (.box cs')
 | tip (n:Nat):OW h L (.tip n) (.tip n)
 | arr {z n:Nat} {es es0:List (List AV)}:dV (iP L h.length) es=es0.take n→OW h L (.arr z es) (.arr z es0)
 | same {o o':AObj}:bS o=false→dK (iP L h.length) o=o'→OW h L o o'
structure Weak(m:Nat)(t:List AV)(h:List AObj)(L:List (Option Nat))(t':List AV)(h':List AObj):Prop where
 tlen:t'.length=t.length
 hlen:L.length=h'.length
 idm:∀i:Nat,i<m→L[i]? =some (some i)
 inj:∀i j l:Nat,L[i]? =some (some l)→L[j]? =some (some l)→live (obj? h' i)→live (obj? h' j)→i=j
 lt:∀i l:Nat,L[i]? =some (some l)→l<h.length
 slot:∀n,VW h L (t'.getD n .unk) (t.getD n .unk)
 obj:∀i l:Nat,L[i]? =some (some l)→OW h L (obj? h' i) (obj? h l)
 new:∀i:Nat,L[i]? =some none→bS (obj? h' i)=false
section
variable {C:Ctx}{κ:aL}{t:List AV}{h:List AObj}{a:Act}{w:World}{m:Nat}{L:List (Option Nat)}{t':List AV}{h':List AObj}
def EK(κ:aL)(L:List (Option Nat)):aL:=L.map fun o=>o.bind (at? κ)
theorem at?_kapW{i}(hk:κ.length=h.length):at? (EK κ L) i=at? κ (iP L h.length i):=by
 unfold EK iP;simp only[at?,qAJ];cases hi:L[i]? with
 | none=>simp[qAH (show κ.length≤h.length by omega)]
 | some o=>cases o with
  | none=>simp[qAH (show κ.length≤h.length by omega)]
  | some l=>simp[at?]
theorem vC{i b}(hb:at? (EK κ L) i=some b):∃l,L[i]? =some (some l)∧at? κ l=some b:=by
 unfold EK at hb;simp only[at?,qAJ] at hb;cases hi:L[i]? with
 | none=>rw[hi] at hb;cases hb
 | some o=>cases o with
  | none=>rw[hi] at hb;cases hb
  | some l=>rw[hi] at hb;exact⟨l,rfl,hb⟩
theorem OW.live{o o'}(hw:OW h L o o')(hl:live o):live o':=by
 cases hw with
 | dead _=>exact hl.elim
 | box _ _=>trivial
 | tip _=>trivial
 | arr _=>trivial
 | same _ e=>rw[←e,ig];exact hl
theorem OW.pv{o o'}{n}(hw:OW h L o o')(hp:tN o n):tN o' n:=by
 cases hw with
 | dead _=>exact hp.elim
 | box _ _=>trivial
 | tip _=>exact hp
 | arr _=>trivial
 | same _ e=>rw[←e,FD];exact hp
theorem Weak.pv(hs:Sim C κ ⟨t,h⟩ a w)(hw:Weak m t h L t' h'){b o}(hp:aD C.aj (EK κ L) h' b o):aD C.aj κ h b o:=by
 rcases hp with hp | ⟨i,h1,h2⟩
 ·exact .inl hp
 ·obtain⟨l,hl,hb⟩:=vC h1;exact .inr ⟨l,hb,(hw.obj i l hl).pv h2⟩
theorem Weak.val(hs:Sim C κ ⟨t,h⟩ a w)(hw:Weak m t h L t' h'){x y}(hv:VW h L x y):∀{u:Value},Rel w κ (aD C.aj κ h) y u→Rel w (EK κ L) (aD C.aj (EK κ L) h') x u:=by
 have hat:∀i,at? (EK κ L) i=at? κ (iP L h.length i):=fun i=>at?_kapW hs.klen;have key:∀(x:AV) {u:Value},Rel w κ (aD C.aj κ h) (ren (iP L h.length) x) u→Rel w (EK κ L) (aD C.aj (EK κ L) h') x u:=fun x u hx=>
  (hx.Ae hat _ rfl).mono (Evo.refl _ _) (cK.refl _) fun b o hp _=>hw.pv hs hp
 induction hv with
 | unk v=>intro u _;exact .unk u
 | same e=>intro u hu;rw[←e] at hu;exact key _ hu
 | share e=>intro u hu;rw[←e] at hu;exact key (.slice _ .shared) hu.share
 | nils j z=>
  intro u hu;cases hu with
  | slice b off sz y g1 g2 g3 g3' g4 g5 g6 gt=>
   exact .slice (es:=[]) (tag:=.tip j z) b off z y (fun i hi=>by cases hi) (fun hne=>(hne rfl).elim) g3 g3' (fun i j hi=>by cases hi) (fun i j hi=>by cases hi) (fun i j hi=>by cases hi) ⟨rfl,.inl gt⟩
 | nilF=>intro u hu;cases hu;exact .flnil
 | @frzF l cs cs' r v ho hn hl _ _ ih1 ih2=>
  intro u hu;obtain⟨b,e,hb⟩:=hu.ql;subst e;obtain⟨c,el,g1,g2,g3,g4⟩:=hs.box hb ho;have hlen:(cs'++[v]).length=cs.length+1:=by simp[hl]
  have hlive:live (obj? h l):=by rw[ho];trivial
  refine .flcons (fun j=>c.getD j undef) (c.getD cs.length undef) (fun j hj hp=>?_) (fun j hj=>by rw[qAL];exact g3 j (by omega)) (by rw[qAL];exact g3 _ (by omega)) (fun j hj=>ih1 j hj ?_) (ih2 ?_)
  ·rcases hp with hp | ⟨i,h1,h2⟩
   ·exact hs.own l b hb hlive (hs.pvold _ _ hp)
   ·obtain⟨l',hl',hb'⟩:=vC h1;have:=hs.apart l l' b hb hb' hlive (MC ((hw.obj i l' hl').pv h2));subst this;exact hn (qAI hl')
  ·have:=g4 j (by omega);have e2:(cs'++[v]).getD j .unk=cs'.getD j .unk:=by simp[List.getD,qAi (show j<cs'.length by omega)]
   rw[e2] at this;exact this
  grind
 | nilP j z=>
  intro u hu;cases hu with
  | slice b off sz y g1 g2 g3 g3' g4 g5 g6 gt=>
   exact .psl (qBg _) (by omega) ⟨rfl,.inl gt⟩
 | @aai l z n es es0 ho hn hle he=>
  intro u hu;cases hu with
  | @psl _ _ _ cap ad g1 g2 g3=>
   have hlen:es.length=n:=by
    have:=congrArg List.length he;rw[jC,qAB] at this;omega
   have hget:∀i,i<n→dG (iP L h.length) (es.getD i [])=es0.getD i []:=fun i hi=>by
    rw[←oU,he];simp only[List.getD,qBt,if_pos hi]
   obtain⟨_,ht⟩:=g3;rcases ht with⟨rfl,rfl⟩ | ⟨b,c,e,t1,rfl,t3,t4⟩
   ·have:es=[]:=qAw.1 (by omega);subst this;have hn0:n=0:=by simpa using hlen.symm
    subst hn0;exact .slice (es:=[]) 0 0 z (fun _ _=>undef) (fun i h=>by cases h) (fun h=>(h rfl).elim) (qBg _) (by simp) (fun i j h=>by cases h) (fun i j h=>by cases h) (fun i j h=>by cases h) trivial
   ·have hlive:live (obj? h l):=by rw[ho];trivial
    have hob:=hs.obj l b t1 hlive;change pR w κ (aD C.aj κ h) b (obj? h l) at hob;rw[ho] at hob;obtain⟨c0,e0,q1,q2,q3,q4⟩:=hob;rw[t3] at q1;cases q1;rw[←hlen] at g1 g2⊢;refine .slice b 0 z (fun i j=>c.getD (i*z+j) undef) ?_ (fun _=>rfl) g1 (by omega) ?_ ?_ ?_ trivial
    ·intro i hi;have h5:=hget i (by omega);have h6:=q3 i (by omega);rw[←h5,iq] at h6;exact h6
    ·rintro i j hi hj (hp | ⟨i',h1,h2⟩)
     ·exact hs.own l b t1 hlive (hs.pvold _ _ hp)
     ·obtain⟨l',hl',hb'⟩:=vC h1;have:=hs.apart l l' b t1 hb' hlive (MC ((hw.obj i' l' hl').pv h2));subst this;exact hn (qAI hl')
    ·intro i j hi hj;have h2:i*z+j<c.size:=qAG (sP (show i<es0.length by omega) hj) q2;simp[World.cell?,t3,Array.getD,h2]
    ·intro i j hi hj;have h5:=hget i (by omega);refine key _ ?_;rw[←gY,h5];exact q4 i j (by omega) hj
 | agg hl _ ih=>
  intro u hu;obtain⟨vs,e,g1,g2⟩:=hu.asl;subst e;exact .agg (g1.trans hl.symm) fun j hj=>ih j (g2 j (by omega))
 | tup hl _ ih=>
  intro u hu;obtain⟨vs,e,g1,g2⟩:=hu.aia;subst e;exact .tup (g1.trans hl.symm) fun j hj=>ih j (g2 j (by omega))
 | eptr hl _ ih=>
  intro u hu;cases hu with
  | eptr y h1 h2 h3=>exact .eptr y (fun j hj hp=>h1 j (by omega) (hw.pv hs hp)) (fun j hj=>h2 j (by omega)) fun j hj=>ih j (h3 j (by omega))
 | func hl _ ih=>
  intro u hu;obtain⟨vs,e,g1,g2⟩:=hu.IK;subst e;exact .func (g1.trans hl.symm) fun j hj=>ih j (g2 j (by omega))
 | @frz l off cs cs' ho hn hl _ ih=>
  intro u hu;obtain⟨b,e,hb⟩:=hu.ql;subst e;obtain⟨c,el,g1,g2,g3,g4⟩:=hs.box hb ho;refine .eptr (fun j=>c.getD (off+j) undef) (fun j hj hp=>?_) (fun j hj=>g3 _ (by omega)) fun j hj=>ih j (g4 _ (by omega));have hlive:live (obj? h l):=by rw[ho];trivial
  rcases hp with hp | ⟨i,h1,h2⟩
  ·exact hs.own l b hb hlive (hs.pvold _ _ hp)
  ·obtain⟨l',hl',hb'⟩:=vC h1;have:=hs.apart l l' b hb hb' hlive (MC ((hw.obj i l' hl').pv h2));subst this;exact hn (qAI hl')
theorem Weak.sim(hk:C.k0.length≤m)(hs:Sim C κ ⟨t,h⟩ a w)(hw:Weak m t h L t' h'):Sim C (EK κ L) ⟨t',h'⟩ a w:=by
 have hat:∀i,at? (EK κ L) i=at? κ (iP L h.length i):=fun i=>at?_kapW hs.klen;refine⟨hs.defers,hs.len.trans hw.tlen.symm,?_,by simp[EK,hw.hlen],?_,?_,?_,?_,?_,?_,hs.pvold,hs.oldlt,hs.old,hs.os,hs.tape,hs.output,hs.size,fun b o hp hlt=>hs.pvsub b o (hw.pv hs hp) hlt,hs.kH⟩
 ·intro n hn;exact hw.val hs (hw.slot n) (hs.slot n (by rw[←hw.tlen];exact hn))
 ·intro l b hb;have hlt:=lt_of_at? hb;have:=hw.idm l (by omega);rw[hat];simp only[iP,this,qAv];exact hs.kext l b hb
 ·intro i hi;cases hL:L[i]? with
  | none=>rw[hat];simp only[iP,hL,qCt];exact at?_none_of_le (by rw[hs.klen];exact qAd _)
  | some o=>cases o with
   | none=>rw[hat];simp only[iP,hL,qCt,qAv];exact at?_none_of_le (by rw[hs.klen];exact qAd _)
   | some l=>
    exfalso;have:=hw.obj i l hL;change obj? h' i=.res at hi;rw[hi] at this;cases this with
    | same h1 _=>cases h1
 ·intro i b hb hl;obtain⟨l,hL,hb'⟩:=vC hb;have ho:=hw.obj i l hL;have hr:=hs.obj l b hb' (ho.live hl);change pR w (EK κ L) (aD C.aj (EK κ L) h') b (obj? h' i);change live (obj? h' i) at hl;generalize he:obj? h' i=o at *;generalize he2:obj? h l=o2 at *;cases ho with
  | dead _=>exact hl.elim
  | box e hv=>
   obtain⟨c,e',g1,g2,g3⟩:=hr;exact⟨c,e',g1,g2.trans e.symm,fun j hj=>hw.val hs (hv j) (g3 j (by omega))⟩
  | tip n=>
   exact hr
  | @arr z n es es0 e=>
   obtain⟨c,e',g1,g2,g3,g4⟩:=hr;have hlen:es.length≤es0.length∧es.length≤n:=by
    have:=congrArg List.length e;rw[jC,qAB] at this;omega
   have hget:∀i,i<es.length→dG (iP L h.length) (es.getD i [])=es0.getD i []:=fun i hi=>by
    rw[←oU,e]
    grind
   refine⟨c,e',g1,qAs (qAR _ hlen.1) g2,fun i hi=>?_,fun i j hi hj=>?_⟩
   ·have h6:=g3 i (by omega);rw[←hget i hi,iq] at h6;exact h6
   ·refine hw.val hs (.same rfl) ?_;rw[←gY,hget i hi]
    grind
  | same _ e=>
   rw[←e] at hr;exact(hr.Ae hat).mono rfl (Evo.refl _ _) (cK.refl _) fun b o hp _=>hw.pv hs hp
 ·intro i j b h1 h2 h3 h4;obtain⟨l,hL,hb⟩:=vC h1;obtain⟨l',hL',hb'⟩:=vC h2;have:=hs.apart l l' b hb hb' ((hw.obj i l hL).live h3) ((hw.obj j l' hL').live h4);subst this;exact hw.inj i j l hL hL' h3 h4
 ·intro i b h1 h2;obtain⟨l,hL,hb⟩:=vC h1;exact hs.own l b hb ((hw.obj i l hL).live h2)
 ·intro i b h1;obtain⟨l,_,hb⟩:=vC h1;exact hs.bound l b hb
end
def Le m t h t' h':=
 ∀C κ a w,C.k0.length≤m→Sim C κ ⟨t,h⟩ a w→∃κ',Sim C κ' ⟨t',h'⟩ a w
theorem Le.of{m}{t t'}{h h'} L (hw:Weak m t h L t' h'):Le m t h t' h':=fun _ _ _ _ hk hs=>⟨_,hw.sim hk hs⟩
theorem Le.trans{m}{t t' t''}{h h' h''}(h1:Le m t h t' h')(h2:Le m t' h' t'' h''):Le m t h t'' h'':=fun C κ a w hk hs=>by
 obtain⟨κ',hs'⟩:=h1 C κ a w hk hs;exact h2 C κ' a w hk hs'
theorem AW.le{P}{m}{c}{Q}{t t'}{h h'}(hl:Le m t h t' h')(hc:AW P m c Q t' h'):AW P m c Q t h:=fun C κ a w hk hs=>by
 obtain⟨κ',hs'⟩:=hl C κ a w hk hs;exact hc C κ' a w hk hs'
inductive VWs(h:List AObj)(L:List (Option Nat)):List AV→List AV→Prop where
 | nil:VWs h L [] []
 | cons {x y:AV} {xs ys:List AV}:VW h L x y→VWs h L xs ys→VWs h L (x::xs) (y::ys)
theorem VWs.len{h}{L}{xs ys}(hv:VWs h L xs ys):xs.length=ys.length:=by
 induction hv with
 | nil=>rfl
 | cons _ _ ih=>simp[ih]
theorem VWs.get{h}{L}{xs ys}(hv:VWs h L xs ys):∀j,VW h L (xs.getD j .unk) (ys.getD j .unk):=by
 induction hv with
 | nil=>intro j;exact .unk _
 | cons h1 _ ih=>intro j;cases j with
  | zero=>exact h1
  | succ j=>exact ih j
inductive OWs(h:List AObj)(L:List (Option Nat)):List (Option Nat)→List AObj→Prop where
 | nil:OWs h L [] []
 | old {l:Nat} {o:AObj} {ls:List (Option Nat)} {os:List AObj}:OW h L o (obj? h l)→OWs h L ls os→OWs h L (some l::ls) (o::os)
 | new {o:AObj} {ls:List (Option Nat)} {os:List AObj}:bS o=false→OWs h L ls os→OWs h L (none::ls) (o::os)
theorem OWs.len{h}{L ls}{os}(hv:OWs h L ls os):ls.length=os.length:=by
 induction hv with
 | nil=>rfl
 | old _ _ ih=>simp[ih]
 | new _ _ ih=>simp[ih]
theorem OWs.get{h}{L ls}{os}(hv:OWs h L ls os):∀i l,ls[i]? =some (some l)→OW h L (obj? os i) (obj? h l):=by
 induction hv with
 | nil=>intro i l hi;simp at hi
 | old h1 _ ih=>intro i l hi;cases i with
  | zero=>simp at hi;subst hi;exact h1
  | succ i=>exact ih i l (by simpa using hi)
 | new _ _ ih=>intro i l hi;cases i with
  | zero=>simp at hi
  | succ i=>exact ih i l (by simpa using hi)
theorem OWs.aGZ{h}{L ls}{os}(hv:OWs h L ls os):∀i,ls[i]? =some none→bS (obj? os i)=false:=by
 induction hv with
 | nil=>intro i hi;simp at hi
 | old h1 _ ih=>intro i hi;cases i with
  | zero=>simp at hi
  | succ i=>exact ih i (by simpa using hi)
 | new h1 _ ih=>intro i hi;cases i with
  | zero=>exact h1
  | succ i=>exact ih i (by simpa using hi)
def amg:AObj→Bool
 | .dead=>false
 | .res=>false
 | _=>true
theorem apW{o}(h:live o):amg o=true:=by cases o<;>simp[live,amg] at *
def rZ:List (Option Nat)→List AObj→List Nat
 | some l::L,o::os=>match amg o with
  | true=>l::rZ L os
  | false=>rZ L os
 | none::L,_::os=>rZ L os
 | _,_=>[]
def okL m n L h':=
 (List.range m).all (fun i=>L[i]? ==some (some i))&&(L.all fun o=>match o with | some l=>decide (l<n) | none=>true)&&decide (rZ L h').Nodup
theorem awk:∀L hs k l,L[k]? =some (some l)→live (obj? hs k)→l∈rZ L hs:=by
 intro L
 induction L with
 | nil=>intro hs k l hk;simp at hk
 | cons o L ih=>
  intro hs k l hk hl;cases hs with
  | nil=>simp[obj?,live] at hl
  | cons a asz=>
   cases k with
   | zero=>
    simp at hk;subst hk;have:amg a=true:=apW hl;simp[rZ,this]
   | succ k=>
    have hm:=ih asz k l (by simpa using hk) hl;cases o with
    | none=>simpa[rZ] using hm
    | some x=>
     simp only[rZ]
     grind
theorem axP:∀L hs,(rZ L hs).Nodup→∀i j l,L[i]? =some (some l)→L[j]? =some (some l)→live (obj? hs i)→live (obj? hs j)→i=j:=by
 intro L
 induction L with
 | nil=>intro hs _ i j l hi;simp at hi
 | cons o L ih=>
  intro hs hn i j l hi hj li lj;cases hs with
  | nil=>simp[obj?,live] at li
  | cons a asz=>
   have hn':(rZ L asz).Nodup:=by
    cases o with
    | none=>simpa[rZ] using hn
    | some x=>
     simp only[rZ] at hn
     grind
   have key:∀k,o=some l→live a→L[k]? =some (some l)→live (obj? asz k)→False:=fun k ho ha hk lk=>by
    subst ho;simp only[rZ,apW ha] at hn;exact(qBR.1 hn).1 (awk L asz k l hk lk)
   cases i with
   | zero=>cases j with
    | zero=>rfl
    | succ j=>exact(key j (by simpa using hi) li (by simpa using hj) lj).elim
   | succ i=>cases j with
    | zero=>exact(key i (by simpa using hj) lj (by simpa using hi) li).elim
    | succ j=>exact congrArg _ (ih asz hn' i j l (by simpa using hi) (by simpa using hj) li lj)
theorem Weak.mk'{m}{t t'}{h h'}{L}(hL:okL m h.length L h'=true)(ht:VWs h L t' t)(ho:OWs h L L h'):Weak m t h L t' h':=by
 simp only[okL,qAa,qAE,decide_eq_true_eq] at hL;obtain⟨⟨h1,h2⟩,h3⟩:=hL;refine⟨ht.len,ho.len,fun i hi=>by simpa using h1 i (by simpa using hi),axP L h' h3,fun i l hl=>?_,ht.get,ho.get,ho.aGZ⟩;have:=h2 _ (qAI hl)
 grind
end
end Abs
end Go.Proofs.YtneeginmfjageaaGreat
