/-
  Walks in frames of functions and in rounds of loops over iterators, where the part of memory that is not the frame's own may change on the way: the judgement 'GM', its rules, and its regions. Conditions: none; lemmas over any program.
-/
import Derived.RangeFuncNested
import Derived.OrdersIn
import Derived.TacticsIn
import Derived.Sort.LoopGhostIn
import Derived.RangeFuncRecord
import Derived.Below
import Derived.RangeFuncLeaves
import Derived.Test.YtkopaeklihhdlaaGreatCDomoxc66816
set_option linter.all false
namespace Go.Proofs.YtkopaeklihhdlaaGreat
namespace Abs
section
open Go
def zR(ro:Option Nat):Fence:={Fence.wide with round:=ro}
theorem Aj{ro:Option Nat}{n:Nat}{P:Program}{f:FuncId}{args:Array Value}{w:World}{R:Ending→World→Prop}:CallsIn (zR ro) n P f args w R↔Calls P f args w R:=callsIn_wide
def SB(o:Oper):Bool:=match o.op with
 | .defer _=>false
 |_=>true
theorem amD{P:Program}{ro:Option Nat}{o:Oper}{a:Act}{w:World}{next:Act→World→Prop}{Q:Exit→Act→World→Prop}(hd:SB o=true)(h:o.wp P a w next Q):o.wpIn (zR ro) 0 P a w next Q:=by
 refine⟨fun _ _=>trivial,?_⟩;rw[Oper.semAt_eq _ _ _ (fun c e=>by rw[SB,e]at hd;cases hd)];unfold Oper.wp at h;generalize (execOp a.eval o).run P w=r at h⊢;have hdep:(zR ro).depth.isSome=true→1≤0:=fun h=>by simp[zR,Fence.wide]at h
 cases r with
 |ok x w'=>
  cases x with
  |value v=>exact h
  |skip=>exact h
  |defer d=>exact h
  |enter f args=>exact⟨hdep,Aj.2 h⟩
  |row r args=>exact⟨hdep,fun c cs _=>let⟨v,w',r,s⟩:=h c cs;⟨v,w',r,stepsIn_wide.2 s⟩⟩
  |_=>exact h.elim
 |halt x w'=>cases x<;>exact h
abbrev GT:=Exit→List AV→List AObj→Ctx→Prop
def GM(P:Program)(ro:Option Nat)(c:Code)(Q:GT)(t:List AV)(h:List AObj)(C:Ctx):Prop:=
 ∀(κ:bg) (a:Act) (w:World),Sim C κ ⟨t,h⟩ a w→c.wpIn (zR ro) 0 P (fun e a' w'=>∃C' s' κ',Q e s'.tmps s'.heap C'∧Sim C' κ' s' a' w') a w
section
variable {P:Program}{ro:Option Nat}{Q:GT}{t:List AV}{h:List AObj}{C:Ctx}
theorem GM.skip(hq:Q .normal t h C):GM P ro .skip Q t h C:=fun κ _ _ hs=>wpIn_skip ⟨C,⟨t,h⟩,κ,hq,hs⟩
theorem GM.ret(hq:Q .ret t h C):GM P ro .ret Q t h C:=fun κ _ _ hs=>wpIn_ret ⟨C,⟨t,h⟩,κ,hq,hs⟩
theorem GM.exit{id:Nat}(hq:Q (.exit id) t h C):GM P ro (.exit id) Q t h C:=fun κ _ _ hs=>wpIn_exit ⟨C,⟨t,h⟩,κ,hq,hs⟩
def ali(K:List AV→List AObj→Ctx→Prop)(Q:GT):GT
 | .normal,t,h,C=>K t h C
 |e,t,h,C=>Q e t h C
theorem GM.seq{x y:Code}(hw:GM P ro x (ali (GM P ro y Q) Q) t h C):GM P ro (.seq x y) Q t h C:=by
 intro κ a w hs;refine wpIn_seq (wpIn_mono (hw κ a w hs) ?_);rintro e a' w' ⟨C',s',κ',h1,h2⟩;cases e with
 |normal=>exact h1 κ' a' w' h2
 |exit id=>exact⟨C',s',κ',h1,h2⟩
 |goto l=>exact⟨C',s',κ',h1,h2⟩
 |ret=>exact⟨C',s',κ',h1,h2⟩
 |panic c=>exact⟨C',s',κ',h1,h2⟩
 |outgrown=>exact⟨C',s',κ',h1,h2⟩
theorem GM.q{x y:Code}(hw:∀K:List AV→List AObj→Ctx→Prop,(∀t h C,GM P ro y Q t h C→K t h C)→GM P ro x (ali K Q) t h C):GM P ro (.seq x y) Q t h C:=
 GM.seq (hw _ fun _ _ _ h=>h)
theorem GM.cond{c:Operand}{x y:Code}{b:Bool}(hc:bC t c=.bool b)(h1:b=true→GM P ro x Q t h C)(h2:b=false→GM P ro y Q t h C):GM P ro (.cond c x y) Q t h C:=by
 intro κ a w hs;have hr:=hs.ev c;rw[show bC (ASt.mk t h).tmps c=.bool b from hc]at hr;exact wpIn_cond_split hr.Ec (fun e=>h1 e κ a w hs) (fun e=>h2 e κ a w hs)
def aqo(id:Nat)(Q:GT):GT
 | .exit id',t,h,C=>if id'=id then Q .normal t h C else Q (.exit id') t h C
 |e,t,h,C=>Q e t h C
theorem GM.block{id:Nat}{c:Code}(hw:GM P ro c (aqo id Q) t h C):GM P ro (.block id c) Q t h C:=by
 intro κ a w hs;refine wpIn_block (wpIn_mono (hw κ a w hs) ?_);rintro e a' w' ⟨C',s',κ',h1,h2⟩;cases e with
 |exit id'=>
  simp only[Exit.inBlock];simp only[aqo]at h1;by_cases e:id'=id
  ·rw[if_pos e]at h1⊢;exact⟨C',s',κ',h1,h2⟩
  ·rw[if_neg e]at h1⊢;exact⟨C',s',κ',h1,h2⟩
 |normal=>exact⟨C',s',κ',h1,h2⟩
 |goto l=>exact⟨C',s',κ',h1,h2⟩
 |ret=>exact⟨C',s',κ',h1,h2⟩
 |panic c=>exact⟨C',s',κ',h1,h2⟩
 |outgrown=>exact⟨C',s',κ',h1,h2⟩
theorem GM.loop{c:Code}(I:Nat→List AV→List AObj→Ctx→Prop){n:Nat}(h0:I n t h C)(round:∀n t h C,I n t h C→GM P ro c (ali (fun t' h' C'=>∃k,k<n∧I k t' h' C') Q) t h C):GM P ro (.loop c) Q t h C:=by
 intro κ a w hs;refine wpIn_loop_ghost (Q:=fun e a' w'=>∃C' s' κ',Q e s'.tmps s'.heap C'∧Sim C' κ' s' a' w') (fun n a w=>∃C s κ,I n s.tmps s.heap C∧Sim C κ s a w) n ⟨C,⟨t,h⟩,κ,h0,hs⟩ ?_;rintro n a w ⟨C,s,κ,hI,hs⟩;refine wpIn_mono (round n s.tmps s.heap C hI κ a w hs) ?_;rintro e a' w' ⟨C',s',κ',h1,h2⟩;cases e with
 |normal=>
  obtain⟨m,hm,hI'⟩:=h1;exact⟨m,hm,C',s',κ',hI',h2⟩
 |exit id=>exact⟨C',s',κ',h1,h2⟩
 |goto l=>exact⟨C',s',κ',h1,h2⟩
 |ret=>exact⟨C',s',κ',h1,h2⟩
 |panic c=>exact⟨C',s',κ',h1,h2⟩
 |outgrown=>exact⟨C',s',κ',h1,h2⟩
theorem GM.le{m:Nat}{c:Code}{t':List AV}{h':List AObj}(hl:Le m t h t' h')(hk:C.k0.length≤m)(hw:GM P ro c Q t' h' C):GM P ro c Q t h C:=fun κ a w hs=>by
 obtain⟨κ',hs'⟩:=hl C κ a w hk hs;exact hw κ' a w hs'
end
def XR(P:Program)(ro:Option Nat)(ops:Array Oper)(o:Oper)(s:ASt)(e:Eff)(C:Ctx)(G:Ctx→Prop):Prop:=
 ∀t,Agree t s e→d9 ops t.tmps o=some true∧∀(κ:bg) (a:Act) (w:World),Sim C κ t a w→∀(next:Act→World→Prop) (Q:Exit→Act→World→Prop),(∀C' κ' a' w',G C'→Sim C' κ' (t.wr e.ws) a' w'→next a' w')→o.wpIn (zR ro) 0 P a w next Q
def Ba(D:Nat→Bool)(i:Nat):Nat→Bool:=fun j=>D j ||decide (j=i)
structure GTr(P:Program)(ro:Option Nat)(sp:Nat→Bool)(G:(Nat→Bool)→Ctx→Prop)(l:List Oper)(es:List Eff)(s s':ASt):Prop where
 len:l.length=es.length
 fin:s'=s.wr (aP (fun _=>true) 0 es)
 eff:∀i o e,l[i]? =some o→es[i]? =some e→sp i=false→SB o=true∧vH P l.toArray o (s.wr (aP (fun j=>decide (j<i)) 0 es)) e
 spe:∀i o e,l[i]? =some o→es[i]? =some e→sp i=true→∀D,(∀j,sp j=true→D j=decide (j<i))→∀C,G D C→XR P ro l.toArray o (s.wr (aP (fun j=>decide (j<i)) 0 es)) e C (G (Ba D i))
 gen:∀D i C,sp i=false→G D C→G (Ba D i) C
def Ug(sp:Nat→Bool)(l:List Oper):Bool:=
 (List.range l.length).all fun j=>!(sp j) ||(List.range j).all fun i=>!(sp i) ||((mH l []).getD j []).contains i
theorem aos{P:Program}{ro:Option Nat}{sp:Nat→Bool}{G:(Nat→Bool)→Ctx→Prop}{l:List Oper}{es:List Eff}{s s':ASt}{Q:Exit→Act→World→Prop}(htr:GTr P ro sp G l es s s')(hok:iG l es=true)(hsp:Ug sp l=true)(hq:∀D C κ' a' w',(∀i,i<l.length→D i=true)→G D C→Sim C κ' s' a' w'→Q .normal a' w'):
  ∀(fuel:Nat) (listed:Array Bool) (C:Ctx) (κ:bg) (a:Act) (w:World),listed.size=l.length→(listed.toList.filter (!·)).length=fuel→
   (∀j o,l[j]? =some o→listed.getD j false=true→∀p∈gZ o,listed.getD p false=true)→
   G (fun i=>listed.getD i false) C→Sim C κ (s.wr (aP (fun i=>listed.getD i false) 0 es)) a w→wpAnyIn (zR ro) 0 P .any l.toArray Q fuel listed a w:=by
 have hlen:=htr.len;have hs':=htr.fin;have hord:∀j,j<l.length→(∀p∈gZ (l.getD j default),p<j)∧∀i,i<j→bR (es.getD i iy) (es.getD j iy)=true→i∈(mH l []).getD j []:=fun j hj=>by
  have:=qAC.1 hok j (qBi.2 hj)
  grind
 have hall:∀(listed:Array Bool),listed.size=l.length→Region.ready .any l.toArray listed=[]→∀i,i<l.length→listed.getD i false=true:=by
  intro listed hsz hr i
  induction i using Nat.strongRecOn with
  |_ i ih=>
   intro hi;cases hb:listed.getD i false with
   |true=>rfl
   |false=>
    exfalso;have hlt:i<listed.size:=by omega
    have:i∈Region.ready .any l.toArray listed:=by
     refine mem_ready.2 ⟨?_,l[i],by simp[hi],fun e he hbd=>?_⟩
     ·simpa[Array.getD,hlt]using hb
     ·have hp:=(hord i hi).1 e.on (by
       simp only[gZ,List.getD,qAe hi,qAi];exact qAQ.2 ⟨e,qBf.2 ⟨by simpa using he,hbd⟩,rfl⟩)
      exact ih e.on hp (by omega)
    rw[hr]at this;cases this
 have hdone:∀(listed:Array Bool) (C:Ctx) (κ:bg) (a:Act) (w:World),listed.size=l.length→Region.ready .any l.toArray listed=[]→G (fun i=>listed.getD i false) C→Sim C κ (s.wr (aP (fun i=>listed.getD i false) 0 es)) a w→Q .normal a w:=by
  intro listed C κ a w hsz hr hG hsim;have ha:=hall listed hsz hr;refine hq _ C κ a w ha hG ?_;have:s.wr (aP (fun i=>listed.getD i false) 0 es)=s':=by
   rw[hs'];refine ASt.ext' (by rw[(aX _ s).1,(aX _ s).1]) (by rw[(aX _ s).2,(aX _ s).2]) (fun n hn=>?_) (fun n hn=>?_)
   ·rw[(aX _ s).1]at hn;rw[jl _ n s hn,jl _ n s hn];rw[rZ (D':=fun _=>true) es 0 (fun i e hi _=>by rw[qAw];exact ha i (by have:=(qAk.1 hi).1;omega))]
   ·rw[(aX _ s).2]at hn;rw[gX _ n s hn,gX _ n s hn];rw[o9 (D':=fun _=>true) es 0 (fun i e hi _=>by rw[qAw];exact ha i (by have:=(qAk.1 hi).1;omega))]
  rw[←this];exact hsim
 intro fuel
 induction fuel with
 |zero=>
  intro listed C κ a w hsz hcnt _ hG hsim;have hr:Region.ready .any l.toArray listed=[]:=by
   cases hrd:Region.ready .any l.toArray listed with
   |nil=>rfl
   |cons i r=>
    exfalso;have hm:i∈Region.ready .any l.toArray listed:=by rw[hrd];simp
    obtain⟨h1,o,h2,_⟩:=mem_ready.1 hm;have hlt:i<listed.size:=by have:=(qAI.1 h2).1;simp at this;omega
    have:=Bn hlt h1;omega
  exact⟨hr,hdone listed C κ a w hsz hr hG hsim⟩
 |succ fuel ih=>
  intro listed C κ a w hsz hcnt hdown hG hsim;refine⟨fun hr=>hdone listed C κ a w hsz hr hG hsim,fun i hi=>?_⟩;obtain⟨h1,o,h2,h3⟩:=mem_ready.1 hi;have hil:i<l.length:=by have:=(qAI.1 h2).1;simpa using this
  have hlo:l[i]? =some o:=by simpa using h2
  have hlt:i<listed.size:=by omega
  have hi0:listed.getD i false=false:=by simpa[Array.getD,hlt]using h1
  obtain⟨e,hei⟩:∃e,es[i]? =some e:=⟨_,qAe (by omega)⟩;have hgi:es.getD i iy=e:=by rw[List.getD,hei];rfl
  -- where something conflicts with i
  have hbd:∀j i',listed.getD j false=true→i'∈(mH l []).getD j []→listed.getD i' false=true:=
   qd (D:=fun j=>listed.getD j false=true) l [] (fun j i' _ hi'=>by simp at hi') (fun j o' hj hD p hp=>hdown j o' hj (by simpa using hD) p hp)
  have hearly:∀j f,es[j]? =some f→j<i→bR f e=true→listed.getD j false=true:=fun j f hj hji hc=>by
   have hgj:es.getD j iy=f:=by rw[List.getD,hj];rfl
   have hb:=(hord i hil).2 j hji (by rw[hgj,hgi];exact hc);have hD:∀j' i',(listed.getD j' false=true∨j'=i)→i'∈(mH l []).getD j' []→(listed.getD i' false=true∨i'=i):=
    qd (D:=fun j=>listed.getD j false=true∨j=i) l [] (fun j i' _ hi'=>by simp at hi') (fun j' o' hj' hD p hp=>by
     simp only[qAE,qAw]at hD;rcases hD with hD|rfl
     ·exact .inl (hdown j' o' hj' hD p hp)
     ·rw[hlo]at hj';cases hj';simp only[gZ,qAQ,qBf]at hp;obtain⟨ed,⟨he1,he2⟩,rfl⟩:=hp;exact .inl (h3 ed (by simpa using he1) he2))
   rcases hD i j (.inr rfl) hb with h|h
   ·exact h
   ·omega
  have hlate:∀j f,es[j]? =some f→i<j→bR e f=true→listed.getD j false=false:=fun j f hj hji hc=>by
   have hjl:j<l.length:=by have:=(qAk.1 hj).1;omega
   have hgj:es.getD j iy=f:=by rw[List.getD,hj];rfl
   have hb:=(hord j hjl).2 i hji (by rw[hgj,hgi];exact hc);cases hlj:listed.getD j false with
   |false=>rfl
   |true=>have:=hbd j i hlj hb;rw[hi0]at this;cases this
  have hcommon:∀j f,es[j]? =some f→(bR f e=true∨bR e f=true→j≠i→listed.getD j false=decide (j<i)):=fun j f hj=>by
   have hsym:bR f e=true↔bR e f=true:=by
    simp only[bR,qBB,List.any_eq_true,qCl];constructor
    ·rintro(((⟨n,a1,a2|a2⟩|⟨n,a1,a2⟩)|⟨n,a1,a2|a2⟩)|⟨n,a1,a2⟩)
     ·exact .inl (.inl (.inr ⟨n,a1,a2⟩))
     ·exact .inl (.inl (.inl ⟨n,a2,.inr a1⟩))
     ·exact .inl (.inl (.inl ⟨n,a1,.inl a2⟩))
     ·exact .inr ⟨n,a1,a2⟩
     ·exact .inl (.inr ⟨n,a2,.inr a1⟩)
     ·exact .inl (.inr ⟨n,a1,.inl a2⟩)
    ·rintro(((⟨n,a1,a2|a2⟩|⟨n,a1,a2⟩)|⟨n,a1,a2|a2⟩)|⟨n,a1,a2⟩)
     ·exact .inl (.inl (.inr ⟨n,a1,a2⟩))
     ·exact .inl (.inl (.inl ⟨n,a2,.inr a1⟩))
     ·exact .inl (.inl (.inl ⟨n,a1,.inl a2⟩))
     ·exact .inr ⟨n,a1,a2⟩
     ·exact .inl (.inr ⟨n,a2,.inr a1⟩)
     ·exact .inl (.inr ⟨n,a1,.inl a2⟩)
   intro hc hne;rcases qCw hne with hlt'|hgt
   ·rw[hearly j f hj hlt' (hc.elim id hsym.2)];simp[hlt']
   ·rw[hlate j f hj hgt (hc.elim hsym.1 id)];simp;omega
  let D:Nat→Bool:=fun j=>listed.getD j false
  have hagree:Agree (s.wr (aP D 0 es)) (s.wr (aP (fun j=>decide (j<i)) 0 es)) e:=by
   refine⟨by rw[(aX _ s).1,(aX _ s).1],by rw[(aX _ s).2,(aX _ s).2],fun n hn=>?_,fun n hn=>?_⟩
   ·by_cases hnl:n<s.tmps.length
    ·rw[jl _ n s hnl,jl _ n s hnl];congr 1;refine rZ es 0 fun j f hj hw=>?_;rw[qAw];by_cases hji:j=i
     ·subst hji;show listed.getD j false=_;rw[hi0];simp
     ·refine hcommon j f hj (.inl ?_) hji;cases hc:bR f e with
      |true=>rfl
      |false=>exact((xZ hc hw).1 hn).elim
    ·have e1:(s.wr (aP D 0 es)).tmps.getD n .unk=.unk:=by rw[List.getD,qAn (by rw[(aX _ s).1];omega)];rfl
     have e2:(s.wr (aP (fun j=>decide (j<i)) 0 es)).tmps.getD n .unk=.unk:=by rw[List.getD,qAn (by rw[(aX _ s).1];omega)];rfl
     rw[e1,e2]
   ·by_cases hnl:n<s.heap.length
    ·rw[gX _ n s hnl,gX _ n s hnl];congr 1;refine o9 es 0 fun j f hj hw=>?_;rw[qAw];by_cases hji:j=i
     ·subst hji;show listed.getD j false=_;rw[hi0];simp
     ·refine hcommon j f hj (.inl ?_) hji;cases hc:bR f e with
      |true=>rfl
      |false=>exact((xW hc hw).1 hn).elim
    ·have e1:obj? (s.wr (aP D 0 es)).heap n=.dead:=by rw[obj?,qAn (by rw[(aX _ s).2];omega)];rfl
     have e2:obj? (s.wr (aP (fun j=>decide (j<i)) 0 es)).heap n=.dead:=by rw[obj?,qAn (by rw[(aX _ s).2];omega)];rfl
     rw[e1,e2]
  have hDi:∀j,(listed.setIfInBounds i true).getD j false=(D j ||decide (j=i)):=fun j=>by
   by_cases hji:i=j
   ·subst hji;simp[Array.getD,hlt]
   ·simp only[qAh,qBM hji,D];simp[qAZ hji]
  have hstate:(s.wr (aP D 0 es)).wr e.ws=s.wr (aP (fun j=>(listed.setIfInBounds i true).getD j false) 0 es):=by
   rw[←kg];refine ASt.ext' (by rw[(aX _ s).1,(aX _ s).1]) (by rw[(aX _ s).2,(aX _ s).2]) (fun n hn=>?_) (fun n hn=>?_)
   ·rw[(aX _ s).1]at hn;rw[jl _ n s hn,jl _ n s hn,vN];congr 1;by_cases hw:n∈gM e.ws
    ·rw[Ms (D:=fun j=>(listed.setIfInBounds i true).getD j false) es 0 i e hei (by rw[qAw,hDi];simp) hw (fun j f hj hij hD' hwf=>by
      rw[qAw,hDi]at hD';have hji:j≠i:=by omega
      have hDj:listed.getD j false=true:=by simpa[hji,D]using hD'
      have hc:bR f e=true:=by
       cases hc:bR f e with
       |true=>rfl
       |false=>exact((xZ hc hwf).2 hw).elim
      have:=hcommon j f hj (.inl hc) hji;rw[hDj]at this;have hlt':j<i:=by simpa using this.symm
      omega)]
     obtain⟨v,hv⟩:=CB hw;rw[hv];rfl
    ·rw[Ca hw,qBR];refine rZ es 0 fun j f hj hwf=>?_;rw[qAw,hDi];have hji:j≠i:=fun e'=>by subst e';rw[hei]at hj;cases hj;exact hw hwf
     simp[hji,D]
   ·rw[(aX _ s).2]at hn;rw[gX _ n s hn,gX _ n s hn,wB];congr 1;by_cases hw:n∈gL e.ws
    ·rw[LG (D:=fun j=>(listed.setIfInBounds i true).getD j false) es 0 i e hei (by rw[qAw,hDi];simp) hw (fun j f hj hij hD' hwf=>by
      rw[qAw,hDi]at hD';have hji:j≠i:=by omega
      have hDj:listed.getD j false=true:=by simpa[hji,D]using hD'
      have hc:bR f e=true:=by
       cases hc:bR f e with
       |true=>rfl
       |false=>exact((xW hc hwf).2 hw).elim
      have:=hcommon j f hj (.inl hc) hji;rw[hDj]at this;have hlt':j<i:=by simpa using this.symm
      omega)]
     obtain⟨v,hv⟩:=CS hw;rw[hv];rfl
    ·rw[BP hw,qBR];refine o9 es 0 fun j f hj hwf=>?_;rw[qAw,hDi];have hji:j≠i:=fun e'=>by subst e';rw[hei]at hj;cases hj;exact hw hwf
     simp[hji,D]
  have hnext:∀C' κ' a' w',G (Ba D i) C'→Sim C' κ' ((s.wr (aP D 0 es)).wr e.ws) a' w'→wpAnyIn (zR ro) 0 P .any l.toArray Q fuel (listed.setIfInBounds i true) a' w':=fun C' κ' a' w' hG2 hs2=>by
   rw[hstate]at hs2;refine ih (listed.setIfInBounds i true) C' κ' a' w' (by simpa using hsz) (by have:=Bn hlt h1;omega) ?_ ?_ hs2
   rotate_left
   ·have:(fun j=>(listed.setIfInBounds i true).getD j false)=Ba D i:=by funext j;rw[hDi];rfl
    rw[this];exact hG2
   intro j o' hj hlj p hp;rw[hDi]at hlj⊢;by_cases hji:j=i
   ·subst hji;rw[hlo]at hj;cases hj;simp only[gZ,qAQ,qBf]at hp;obtain⟨ed,⟨he1,he2⟩,rfl⟩:=hp;have:=h3 ed (by simpa using he1) he2;simp only[D,this,qBI]
   ·have hlj':listed.getD j false=true:=by simpa[hji,D]using hlj
    have:=hdown j o' hj hlj' p hp;simp only[D,this,qBI]
  unfold wpOpIn;rw[h2];dsimp only;cases hspi:sp i with
  |false=>
   obtain⟨hnd,heff⟩:=htr.eff i o e hlo hei hspi;have hG2:=htr.gen D i C hspi hG;rcases heff _ hagree with⟨hwd,ht⟩|⟨hwd,he⟩
   ·rw[eU hsim hwd];simp only[if_true];exact amD hnd (ht C κ a w hsim _ _ fun κ' a' w' hs=>hnext C κ' a' w' hG2 hs)
   ·rw[eU hsim hwd];simp only[qAx,if_false];refine⟨fun _ _=>trivial,hnext C κ _ w hG2 ?_⟩;rw[he];exact hsim.aI _ jr
  |true=>
   have hDD:∀j,sp j=true→D j=decide (j<i):=fun j hj=>by
    by_cases hjl:j<l.length
    ·have hall2:=hsp;simp only[Ug,qAC,qBi,qBB,qBj,qCl]at hall2;rcases Nat.lt_trichotomy j i with hlt'|he'|hgt
     ·have hb:=((hall2 i hil).resolve_left (by rw[hspi];simp)) j hlt';have hb:=hb.resolve_left (by rw[hj];simp);have hD:∀j' i',(listed.getD j' false=true∨j'=i)→i'∈(mH l []).getD j' []→(listed.getD i' false=true∨i'=i):=
       qd (D:=fun j=>listed.getD j false=true∨j=i) l [] (fun j i' _ hi'=>by simp at hi') (fun j' o' hj' hD p hp=>by
        simp only[qAE,qAw]at hD;rcases hD with hD|rfl
        ·exact .inl (hdown j' o' hj' hD p hp)
        ·rw[hlo]at hj';cases hj';simp only[gZ,qAQ,qBf]at hp;obtain⟨ed,⟨he1,he2⟩,rfl⟩:=hp;exact .inl (h3 ed (by simpa using he1) he2))
      rcases hD i j (.inr rfl) hb with h|h
      ·show listed.getD j false=_;rw[h];simp[hlt']
      ·omega
     ·subst he';show listed.getD j false=_;rw[hi0];simp
     ·have hb:=((hall2 j hjl).resolve_left (by rw[hj];simp)) i hgt;have hb:=hb.resolve_left (by rw[hspi];simp);show listed.getD j false=_;cases hlj:listed.getD j false with
      |false=>simp;omega
      |true=>have:=hbd j i hlj hb;rw[hi0]at this;cases this
    ·show listed.getD j false=_;have:listed.getD j false=false:=by simp[Array.getD,hsz,hjl]
     rw[this];simp;omega
   obtain⟨hwd,ht⟩:=htr.spe i o e hlo hei hspi D hDD C hG _ hagree;rw[eU hsim hwd];simp only[if_true];exact ht κ a w hsim _ _ fun C' κ' a' w' hG2 hs=>hnext C' κ' a' w' hG2 hs
theorem EB:∀(es:List Eff) (k:Nat) (D:Nat→Bool),(∀i,D i=false)→aP D k es=[]:=by
 intro es
 induction es with
 |nil=>intro k D _;rfl
 |cons e es ih=>intro k D hD;simp[aP,ih _ _ hD,hD]
theorem Xc:∀(es:List Eff) (k:Nat) (D D':Nat→Bool),(∀i,i<es.length→D (k+i)=D' (k+i))→aP D k es=aP D' k es:=by
 intro es
 induction es with
 |nil=>intro k D D' _;rfl
 |cons e es ih=>
  intro k D D' h;simp only[aP];have h0:=h 0 (by simp);rw[qAP]at h0;rw[h0,ih (k+1) D D' (fun i hi=>by have:=h (i+1) (by simpa using hi);rwa[show k+(i+1)=k+1+i from by omega]at this)]
theorem GM.drawn{P:Program}{ro:Option Nat}{sp:Nat→Bool}{G:(Nat→Bool)→Ctx→Prop}{id:Nat}{l:List Oper}{es:List Eff}{Q:GT}{s s':ASt}{C:Ctx}(n:Nat)(hm:P.follows .mixedOrders=true)(h:GTr P ro sp G l es (s.reserve n) s')(hok:iG l es=true)(hsp:Ug sp l=true)
  (h0:G (fun _=>false) C) (hq:∀D C,(∀i,i<l.length→D i=true)→G D C→Q .normal s'.tmps s'.heap C):GM P ro (.region id l.toArray true) Q s.tmps s.heap C:=by
 intro κ a w hs;refine wpIn_region_any hm ?_;have hr:=(Sim.reserve hs n).sameHeap (w':={w with drawn:=w.drawn+1}) rfl rfl rfl rfl;have hz:(fun i=>(Array.replicate l.length false).getD i false)=fun _=>false:=by funext i;simp[Array.getD]
 have hfl:aP (fun i=>(Array.replicate l.length false).getD i false) 0 es=[]:=EB es 0 _ fun i=>by simp[Array.getD]
 have:=aos (Q:=fun e a' w'=>∃C' s'' κ',Q e s''.tmps s''.heap C'∧Sim C' κ' s'' a' w') h hok hsp (fun D C' κ' a' w' hD hG hs'=>⟨C',s',κ',hq D C' hD hG,hs'⟩) l.length (Array.replicate l.length false) C _ a _ (by simp) (by simp) (fun j o _ hl=>by simp[Array.getD]at hl) (by rw[hz];exact h0) (by rw[hfl];exact hr)
 grind
theorem ak7{P:Program}{ro:Option Nat}{sp:Nat→Bool}{G:(Nat→Bool)→Ctx→Prop}{l:List Oper}{es:List Eff}{s s':ASt}{Q:Exit→Act→World→Prop}(htr:GTr P ro sp G l es s s')(hq:∀D C κ' a' w',(∀i,i<l.length→D i=true)→G D C→Sim C κ' s' a' w'→Q .normal a' w'):
  ∀(k:Nat) (C:Ctx) (κ:bg) (a:Act) (w:World) (D:Nat→Bool),k≤l.length→(∀j,D j=decide (j<l.length - k))→G D C→Sim C κ (s.wr (aP (fun j=>decide (j<l.length - k)) 0 es)) a w→wpListIn (zR ro) 0 P l.toArray Q (l.drop (l.length - k)) a w:=by
 have hlen:=htr.len;intro k
 induction k with
 |zero=>
  intro C κ a w D _ hD hG hs;rw[Nat.sub_zero]at hs hD⊢;rw[List.drop_length];refine hq D C κ a w (fun i hi=>by rw[hD];simpa using hi) hG ?_;rw[htr.fin];have:aP (fun _=>true) 0 es=aP (fun j=>decide (j<l.length)) 0 es:=Xc es 0 _ _ fun i hi=>by simp;omega
  rw[this];exact hs
 |succ k ih=>
  intro C κ a w D hk hD hG hs;have hil:l.length - (k+1)<l.length:=by omega
  obtain⟨i,hi⟩:∃i,i=l.length - (k+1):=⟨_,rfl⟩;rw[←hi]at hs hil hD⊢;have hk1:l.length - k=i+1:=by omega
  rw[qBr hil];have hlo:l[i]? =some l[i]:=qAe hil;obtain⟨e,hei⟩:∃e,es[i]? =some e:=⟨_,qAe (by omega)⟩;have hfl:aP (fun j=>decide (j<i+1)) 0 es=aP (fun j=>decide (j<i)) 0 es++e.ws:=by
   have key:∀(es:List Eff) (i m:Nat),es[i]? =some e→aP (fun j=>decide (j<m+i+1)) m es=aP (fun j=>decide (j<m+i)) m es++e.ws:=by
    intro es
    induction es with
    |nil=>intro i m h;simp at h
    |cons f es ih=>
     intro i m h;cases i with
     |zero=>
      simp at h;subst h;have z:∀(es:List Eff) (m k:Nat),m≤k→aP (fun j=>decide (j<m)) k es=[]:=fun es=>by
       induction es with
       |nil=>intro m k _;rfl
       |cons f es ih=>intro m k hk;simp only[aP];rw[ih m (k+1) (by omega)];simp;omega
      simp only[aP,qAP];rw[z es (m+1) (m+1) (qAc _),z es m (m+1) (by omega)];simp
     |succ i=>
      have:=ih i (m+1) (by simpa using h);simp only[aP];rw[show m+(i+1)=m+1+i from by omega,this];simp[show m<m+1+i+1 by omega,show m<m+1+i by omega]
   simpa using key es i 0 hei
  have hnext:∀C' κ' a' w',G (Ba D i) C'→Sim C' κ' ((s.wr (aP (fun j=>decide (j<i)) 0 es)).wr e.ws) a' w'→wpListIn (zR ro) 0 P l.toArray Q (l.drop (i+1)) a' w':=fun C' κ' a' w' hG2 hs2=>by
   rw[←kg,←hfl]at hs2;rw[←hk1]at hs2⊢;exact ih C' κ' a' w' (Ba D i) (by omega) (fun j=>by rw[hk1,Ba,hD];by_cases h1:j<i<;>by_cases h2:j=i<;>simp[h1,h2]<;>omega) hG2 hs2
  have hag:Agree (s.wr (aP (fun j=>decide (j<i)) 0 es)) (s.wr (aP (fun j=>decide (j<i)) 0 es)) e:=⟨rfl,rfl,fun _ _=>rfl,fun _ _=>rfl⟩;simp only[wpListIn];cases hspi:sp i with
  |false=>
   obtain⟨hnd,heff⟩:=htr.eff i _ e hlo hei hspi;have hG2:=htr.gen D i C hspi hG;rcases heff _ hag with⟨hwd,ht⟩|⟨hwd,he⟩
   ·rw[eU hs hwd];simp only[if_true];exact amD hnd (ht C κ a w hs _ _ fun κ' a' w' hs=>hnext C κ' a' w' hG2 hs)
   ·rw[eU hs hwd];simp only[qAx,if_false];refine⟨fun _ _=>trivial,hnext C κ _ w hG2 ?_⟩;rw[he];exact hs.aI _ jr
  |true=>
   obtain⟨hwd,ht⟩:=htr.spe i _ e hlo hei hspi D (fun j _=>hD j) C hG _ hag;rw[eU hs hwd];simp only[if_true];exact ht κ a w hs _ _ fun C' κ' a' w' hG2 hs=>hnext C' κ' a' w' hG2 hs
theorem GM.listed{P:Program}{ro:Option Nat}{sp:Nat→Bool}{G:(Nat→Bool)→Ctx→Prop}{id:Nat}{l:List Oper}{es:List Eff}{Q:GT}{s s':ASt}{C:Ctx}(n:Nat)(h:GTr P ro sp G l es (s.reserve n) s')
  (h0:G (fun _=>false) C) (hq:∀D C,(∀i,i<l.length→D i=true)→G D C→Q .normal s'.tmps s'.heap C):GM P ro (.region id l.toArray false) Q s.tmps s.heap C:=by
 intro κ a w hs;refine wpIn_region_lit ?_;have hfl:aP (fun j=>decide (j<l.length - l.length)) 0 es=[]:=EB es 0 _ fun i=>by simp
 have:=ak7 (Q:=fun e a' w'=>∃C' s'' κ',Q e s''.tmps s''.heap C'∧Sim C' κ' s'' a' w') h (fun D C' κ' a' w' hD hG hs'=>⟨C',s',κ',hq D C' hD hG,hs'⟩) l.length C _ a w (fun _=>false) (qAc _) (fun j=>by simp) h0 (by rw[hfl];exact Sim.reserve hs n);rw[Nat.sub_self,qAX]at this;exact this
end
section
open Go
def isRec:Obj→Bool
 | .loop _=>true
 | .deferred _=>true
 |_=>false
structure Qt(w w':World):Prop where
 size:w.heap.size≤w'.heap.size
 same:∀b:Nat,b<w.heap.size→w'.heap[b]? =w.heap[b]?
 os:w'.os=w.os
 tape:w'.tape=w.tape
 output:w'.output=w.output
theorem Qt.trans{a b c:World}(h:Qt a b)(k:Qt b c):Qt a c:=
 ⟨qAj h.size k.size,fun x hx=>(k.same x (qAq hx h.size)).trans (h.same x hx),k.os.trans h.os,k.tape.trans h.tape,k.output.trans h.output⟩
theorem Qt.alloc(w:World)(o:Obj):Qt w (w.alloc o):=⟨by simp,fun b hb=>qCB w o b hb,rfl,rfl,rfl⟩
theorem lt_of_heap{w:World}{b:Nat}{o:Obj}(h:w.heap[b]? =some o):b<w.heap.size:=(qAI.1 h).1
theorem Qt.iH{w w':World}(h:Qt w w')(pv:bB):Evo pv w w':=
 ⟨h.size,fun b off u _ hc=>by
  have:=h.same b (lt_of_cell hc);simpa[World.cell?,this]using hc,fun b c e z hb=>⟨c,(h.same b (lt_of_heap hb)).trans hb,rfl⟩⟩
structure YF(n0:Nat)(pv pv':bB)(w w':World):Prop where
 iH:Evo pv w w'
 pvs:∀b o,pv' b o→b<w.heap.size→pv b o
 recs:∀(b:Nat) (o:Obj),n0≤b→w.heap[b]? =some o→isRec o=true→w'.heap[b]? =some o
 os:w'.os=w.os
 tape:w'.tape=w.tape
 output:w'.output=w.output
theorem YF.refl(n0:Nat)(pv:bB)(w:World):YF n0 pv pv w w:=⟨Evo.refl _ _,fun _ _ h _=>h,fun _ _ _ h _=>h,rfl,rfl,rfl⟩
theorem YF.trans{n0:Nat}{pv pv1 pv2:bB}{w w1 w2:World}(h:YF n0 pv pv1 w w1)(k:YF n0 pv1 pv2 w1 w2):YF n0 pv pv2 w w2:=
 ⟨h.iH.trans k.iH h.pvs,fun b o hb hlt=>h.pvs b o (k.pvs b o hb (qAq hlt h.iH.size)) hlt,fun b o hn hb hr=>k.recs b o hn (h.recs b o hn hb hr) hr,k.os.trans h.os,k.tape.trans h.tape,k.output.trans h.output⟩
theorem YF.mono{n0 n1:Nat}{pv pv':bB}{w w':World}(h:YF n0 pv pv' w w')(hn:n0≤n1):YF n1 pv pv' w w':={h with recs:=fun b o hb=>h.recs b o (qAj hn hb)}
theorem Qt.yf{w w':World}(h:Qt w w')(n0:Nat)(pv:bB):YF n0 pv pv w w':=⟨h.iH pv,fun _ _ h _=>h,fun b _ _ hb _=>(h.same b (lt_of_heap hb)).trans hb,h.os,h.tape,h.output⟩
theorem Evo.putObj{pv:bB}{w:World}{b:Nat}{o o':Obj}(hb:w.heap[b]? =some o)(ho:isRec o=true):Evo pv w (w.putObj b o'):=by
 refine⟨by simp,fun x off u _ hc=>?_,fun x c e z hx=>?_⟩
 ·by_cases hxb:x=b
  ·subst hxb;simp only[World.cell?,hb]at hc;cases o<;>simp_all [isRec]
  ·simpa[World.cell?,World.putObj_heap_other (o:=o') hxb]using hc
 ·by_cases hxb:x=b
  ·subst hxb;rw[hb]at hx;cases hx;cases ho
  ·exact⟨c,(World.putObj_heap_other hxb).trans hx,rfl⟩
theorem YF.put{n0:Nat}{pv pv':bB}{w w':World}{b:Nat}{o o':Obj}(h:YF n0 pv pv' w w')(hb:w'.heap[b]? =some o)(ho:isRec o=true)(hlt:w.heap.size≤b∨b<n0):YF n0 pv pv' w (w'.putObj b o'):=
 ⟨h.iH.trans (Evo.putObj hb ho) h.pvs,h.pvs,fun x p hn hx hr=>by
  have hx':=lt_of_heap hx;rw[World.putObj_heap_other (by omega)];exact h.recs x p hn hx hr,h.os,h.tape,h.output⟩
structure KOk{ι:Type}(n0:Nat)(K:ι→bB→World→Prop):Prop where
 stab:∀i pv w w',K i pv w→Qt w w'→K i pv w'
 recs:∀i pv (w:World) (b:Nat) (o o':Obj),K i pv w→n0≤b→w.heap[b]? =some o→isRec o=true→isRec o'=true→K i pv (w.putObj b o')
 lt:∀i pv w b o,K i pv w→pv b o→b<w.heap.size
def Bg(P:Program){ι:Type}(l n0:Nat)(K:ι→bB→World→Prop)(step:ι→AV→Option (Bool×ι)):Prop:=
 ∀i pv (w:World) x v r i',n0≤w.heap.size→K i pv w→Rel w [] pv x v→step i x=some (r,i')→
  ∃fn tmps assign body,(Instr.yield l #[v]).run P w=.ok (.round l fn tmps assign body) w∧
   RoundIn Fence.wide 0 P l fn tmps assign body w fun e w'=>e=.returned (.bool r)∧∃pv',K i' pv' w'∧YF n0 pv pv' w w'
def jZ{ι:Type}(step:ι→AV→Option (Bool×ι)):List AV→ι→Option (Bool×ι)
 |[],i=>some (true,i)
 |x::xs,i=>match step i x with
  |some (true,i')=>jZ step xs i'
  |r=>r
def uH(P:Program)(f:Nat)(args:Nat→List AV)(xs:List AV)(res:Bool→AV):Prop:=
 ∀(ι:Type) (K:ι→bB→World→Prop) (step:ι→AV→Option (Bool×ι)) (l n0:Nat) (i:ι) (r:Bool) (i':ι) (pv:bB) (w:World) (vs:List Value),KOk n0 K→Bg P l n0 K step→n0≤w.heap.size→K i pv w→
  vs.length=(args l).length→(∀j,j<(args l).length→Rel w [] pv ((args l).getD j .unk) (vs.getD j undef))→jZ step xs i=some (r,i')→
  Calls P f vs.toArray w fun e w'=>∃v pv',e=.returned v∧K i' pv' w'∧YF n0 pv pv' w w'∧Rel w' [] pv' (res r) v
def jx:Exit→Option (Option Code)
 | .normal=>some none
 | .ret=>some (some .ret)
 | .exit id=>some (some (.exit id))
 | .goto t=>some (some (.goto t))
 |_=>none
def Gq{ι:Type}(step:ι→AV→Option (Option Code×ι)):List AV→ι→Option (Option Code×ι)
 |[],i=>some (none,i)
 |x::xs,i=>match step i x with
  |some (none,i')=>Gq step xs i'
  |r=>r
def Xe{ι:Type}(step:ι→AV→Option (Option Code×ι)):ι×Option Code→AV→Option (Bool×(ι×Option Code))
 |(i,none),x=>(step i x).map fun p=>(p.1.isNone,(p.2,p.1))
 |_,_=>none
theorem anm{ι:Type}{step:ι→AV→Option (Option Code×ι)}:∀{xs:List AV} {i i':ι} {jm:Option Code},Gq step xs i=some (jm,i')→jZ (Xe step) xs (i,none)=some (jm.isNone,(i',jm)):=by
 intro xs
 induction xs with
 |nil=>intro i i' jm h;simp only[Gq,Option.some.injEq,Prod.mk.injEq]at h;obtain⟨rfl,rfl⟩:=h;rfl
 |cons x xs ih=>
  intro i i' jm h;simp only[Gq]at h;simp only[jZ,Xe];cases hs:step i x with
  |none=>rw[hs]at h;cases h
  |some p=>
   obtain⟨j,i1⟩:=p;rw[hs]at h;cases j with
   |none=>exact ih h
   |some c=>simp only[Option.some.injEq,Prod.mk.injEq]at h;obtain⟨rfl,rfl⟩:=h;rfl
def qo(ro:Option Nat)(D:Nat):List Deferred:=match ro with
 |none=>[{target:=.collected D,args:=#[]}]
 |some _=>[]
theorem ahI{P:Program}{ro:Option Nat}{w:World}(fn:FuncId)(tmps:Array Value)(ps:Array Tmp)(assign body:Code)(hin:∀l0,ro=some l0→∃r,w.heap[l0]? =some (.loop r)):
  ∃(l D D':Nat) (W1:World),(Instr.enterLoop fn tmps ps assign body ro).run P w=.ok (l,qo ro D) W1∧w.heap.size≤l∧W1.heap.size=l+1∧Qt w W1∧
   W1.heap[l]? =some (.loop {state:=.ready,pending:=none,fn,tmps,params:=ps,assign,body,defers:=D'})∧(ro=none→w.heap.size≤D∧D<l∧W1.heap[D]? =some (.deferred (some []))):=by
 cases ro with
 |none=>
  refine⟨w.heap.size+1,w.heap.size,w.heap.size,_,run_enterLoop_outer fn tmps ps assign body,by omega,by simp,(Qt.alloc _ _).trans (Qt.alloc _ _),?_,fun _=>⟨qAc _,by omega,?_⟩⟩
  ·have:=World.alloc_heap_new (w.alloc (.deferred (some []))) (.loop {state:=.ready,pending:=none,fn,tmps,params:=ps,assign,body,defers:=w.heap.size});rwa[World.size_alloc]at this
  ·exact(qCB _ _ _ (by simp)).trans (World.alloc_heap_new w _)
 |some l0=>
  obtain⟨r,hr⟩:=hin l0 rfl;refine⟨w.heap.size,0,r.defers,_,run_enterLoop_inner hr fn tmps ps assign body,qAc _,by simp,Qt.alloc _ _,World.alloc_heap_new w _,fun h=>by cases h⟩
theorem rf{P:Program}{ro:Option Nat}{g:Operand}{ps:Array Tmp}{p0:Tmp}{assign body:Code}{Q:Exit→Act→World→Prop}{a:Act}{w:World}{gf:Nat}{lb:List Value}{caps:List AV}{xs:List AV}{res:Bool→AV}{ι:Type}{pv:bB}
  (hg:a.eval g=.func (.func gf) #[] lb.toArray) (hok:aZ P gf=true) (hps:ps=#[p0]) (hin:∀l0,ro=some l0→∃r,w.heap[l0]? =some (.loop r))
  (hcl:lb.length=caps.length) (hcr:∀j,j<caps.length→Rel w [] pv (caps.getD j .unk) (lb.getD j undef)) (hc:uH P gf (fun l=>.yv l::caps) xs res)
  (J:ι→bB→World→Prop) (hJ:KOk w.heap.size J) {i0 i':ι} (h0:J i0 pv w) (step:ι→AV→Option (Option Code×ι)) {jm:Option Code} (hf:Gq step xs i0=some (jm,i'))
  (hbody:∀(l:Nat) (i:ι) (pv:bB) (W:World) (x:AV) (u:Value) (jm:Option Code) (i':ι) (Lr:Loop),w.heap.size≤l→W.heap[l]? =some (.loop Lr)→J i pv W→Rel W [] pv x u→step i x=some (jm,i')→
   assign.wpIn (zR (some l)) 0 P (Exit.then (fun a1 W1=>W1.heap[l]? =some (.loop Lr)∧∀Lb:Loop,body.wpIn (zR (some l)) 0 P (fun e _ W2=>jx e=some jm∧W2.heap[l]? =some (.loop Lb)∧(∀(b:Nat) (o:Obj),w.heap.size≤b→b≠l→W.heap[b]? =some o→isRec o=true→W2.heap[b]? =some o)∧∃pv',J i' pv' W2∧YF (l+1) pv pv' W W2) a1 (W1.putObj l (.loop Lb))) (fun _ _ _=>False))
    {tmps:=a.tmps.setIfInBounds p0 u,defers:=[]} W)
  (hdone:∀(D:Nat) (pv':bB) (W:World),J i' pv' W→(ro=none→w.heap.size≤D∧W.heap[D]? =some (.deferred (some [])))→match jm with
   |none=>Q .normal {a with defers:=qo ro D++a.defers} W
   |some c=>c.wpIn (zR ro) 0 P Q {a with defers:=qo ro D++a.defers} W):
  (Code.rangeFunc g ps assign body).wpIn (zR ro) 0 P Q a w:=by
 subst hps;refine wpIn_rangeFunc fun fn _=>?_;obtain⟨l,D,D',W1,he,hl,hsz,hqt,hrec,hD⟩:=ahI (P:=P) fn a.tmps #[p0] assign body hin;obtain⟨R,hR⟩:∃R:LoopState→Option Code→Loop,R=fun st pe=>{state:=st,pending:=pe,fn,tmps:=a.tmps,params:=#[p0],assign,body,defers:=D'}:=⟨_,rfl⟩;have hrec1:W1.heap[l]? =some (.loop (R .ready none)):=by rw[hR];exact hrec
 refine⟨l,qo ro D,W1,{target:=.fn (.func gf) lb.toArray,args:=#[.func (.yield l) #[] #[]]},W1,gf,#[.func (.yield l) #[] #[]]++lb.toArray,W1,he,?_,fun _ _=>trivial,?_,fun h=>by simp[zR,Fence.wide]at h,?_⟩
 ·simp only[resolve,hg];simp[go_sem]
 ·simp[invoke,BR hok]
 ·let K:ι×Option Code→bB→World→Prop:=fun ia pv W=>J ia.1 pv W∧W.heap[l]? =some (.loop (R (if ia.2.isNone then .ready else .done) ia.2))∧(ro=none→W.heap[D]? =some (.deferred (some [])))
  have hK:KOk (l+1) K:=by
   refine⟨fun i pv A B h hq=>⟨hJ.stab _ _ _ _ h.1 hq,(hq.same l (lt_of_heap h.2.1)).trans h.2.1,fun e=>(hq.same D (lt_of_heap (h.2.2 e))).trans (h.2.2 e)⟩,fun i pv A b o o' h hb ho hr hr'=>⟨hJ.recs _ _ _ _ _ _ h.1 (by omega) ho hr hr',?_,fun e=>?_⟩,fun i pv A b o h hp=>hJ.lt _ _ _ _ _ h.1 hp⟩
   ·rw[World.putObj_heap_other (by omega)];exact h.2.1
   ·have:=(hD e).2.1;rw[World.putObj_heap_other (by omega)];exact h.2.2 e
  have hY:Bg P l (l+1) K (Xe step):=by
   rintro⟨i,al⟩ pv W x v r ⟨i',al'⟩ hn ⟨h1,h2,h3⟩ hx hs;cases al with
   |some c=>cases hs
   |none=>
    simp only[Xe]at hs;cases hst:step i x with
    |none=>rw[hst]at hs;cases hs
    |some p=>
     obtain⟨jm,i1⟩:=p;rw[hst]at hs;simp only[qAt,Option.some.injEq,Prod.mk.injEq]at hs;obtain⟨rfl,rfl,rfl⟩:=hs;simp only[Option.isNone_none,if_true]at h2;have hy:=run_yield (P:=P) (args:=#[v]) h2 (by rw[hR];rfl);rw[hR]at hy;refine⟨fn,_,assign,body,hy,roundIn_of_wpIn trivial ?_⟩;have hb:=hbody l i pv W x v jm i1 _ hl h2 h1 hx hst;have hfold:(#[p0].zip #[v]).foldl (fun tmps (t,a)=>tmps.setIfInBounds t a) a.tmps=a.tmps.setIfInBounds p0 v:=by simp
     rw[hfold];refine wpIn_mono hb ?_;rintro e a1 W1' hq;cases e with
     |normal=>
      obtain⟨q1,q2⟩:=hq;refine⟨_,run_beginRound q1 (by rw[hR]),wpIn_mono (q2 _) ?_⟩;rintro e a2 W2 ⟨g1,g2,g5,pv',g3,g4⟩;have key:∀jm:Option Code,(Instr.endRound l jm).run P W2=.ok (.bool jm.isNone) (W2.putObj l (.loop (R (if jm.isNone then .ready else .done) jm))):=fun jm=>by
       have:=run_endRound (P:=P) jm g2;rw[hR]at this⊢;exact this
      have hfin:∀jm':Option Code,jm'=jm→Ending.returned (Value.bool jm'.isNone)=Ending.returned (Value.bool jm.isNone)∧∃pv',K (i1,jm) pv' (W2.putObj l (.loop (R (if jm'.isNone then .ready else .done) jm')))∧YF (l+1) pv pv' W (W2.putObj l (.loop (R (if jm'.isNone then .ready else .done) jm'))):=by
       rintro _ rfl;refine⟨rfl,pv',⟨hJ.recs _ _ _ _ _ _ g3 hl g2 rfl rfl,World.putObj_heap_same (lt_of_heap g2),fun e=>?_⟩,g4.put g2 rfl (.inr (by omega))⟩;have hd:=hD e;rw[World.putObj_heap_other (by omega)];exact g5 D _ hd.1 (by omega) (h3 e) rfl
      cases e with
      |normal=>simp only[jx,Option.some.injEq]at g1;exact⟨_,_,key none,hfin none g1⟩
      |ret=>simp only[jx,Option.some.injEq]at g1;exact⟨_,_,key _,hfin _ g1⟩
      |exit id=>simp only[jx,Option.some.injEq]at g1;exact⟨_,_,key _,hfin _ g1⟩
      |goto t=>simp only[jx,Option.some.injEq]at g1;exact⟨_,_,key _,hfin _ g1⟩
      |panic c=>cases g1
      |outgrown=>cases g1
     |exit id=>exact hq.elim
     |goto t=>exact hq.elim
     |ret=>exact hq.elim
     |panic c=>exact hq.elim
     |outgrown=>exact hq.elim
  have h01:K (i0,none) pv W1:=⟨hJ.stab _ _ _ _ h0 hqt,by simpa using hrec1,fun e=>(hD e).2.2⟩;have hcall:=hc (ι×Option Code) K (Xe step) l (l+1) (i0,none) _ _ pv W1 (.func (.yield l) #[] #[]::lb) hK hY (by omega) h01 (by simp[hcl]) (fun j hj=>by
   cases j with
   |zero=>exact .yv l
   |succ j=>exact(hcr j (by simpa using hj)).mono (hqt.iH pv) (bV.refl _) (fun _ _ h _=>h)) (anm hf)
  have e1:#[Value.func (.yield l) #[] #[]]++lb.toArray=(Value.func (.yield l) #[] #[]::lb).toArray:=by simp
  rw[e1];refine(Aj.2 hcall).mono ?_;rintro e W2 ⟨v,pv',rfl,⟨k1,k2,k3⟩,_,_⟩;have hend:=run_endLoop (P:=P) k2 (by rw[hR];cases jm<;>simp);obtain⟨W3,hW3⟩:∃W3,W2.putObj l (.loop {R (if jm.isNone then .ready else .done) jm with state:=.exhausted})=W3:=⟨_,rfl⟩;rw[hW3]at hend;have hd:=hdone D pv' W3 (by rw[←hW3];exact hJ.recs _ _ _ _ _ _ k1 hl k2 rfl rfl) (fun e=>⟨(hD e).1,by
   have:=(hD e).2.1;rw[←hW3,World.putObj_heap_other (by omega)];exact k3 e⟩)
  refine⟨jm,W3,?_,hd⟩;rw[hend,hR]
end
section
open Go
def ko(pv:bB)(w:World)(ds:List Deferred):Ctx:={aN:=pv,old:=fun b=>b<w.heap.size,w0:=w,k0:=[],pvE:=pv,ds:=ds}
def At{ι:Type}(K:ι→bB→World→Prop)(n0:Nat)(i:ι)(ds:List Deferred)(C:Ctx):Prop:=∃pv w,C=ko pv w ds∧K i pv w∧n0≤w.heap.size
theorem Sim.qt0{pv:bB}{w W:World}{ds:List Deferred}{κ:bg}{s:ASt}{a:Act}(h:Sim (ko pv w ds) κ s a W):Qt w W:=⟨h.size,fun b hb=>h.old b hb,h.os,h.tape,h.output⟩
def PI(H:List AObj):Prop:=∀l,¬live (obj? H l)
theorem mJ{pv:bB}{κ:bg}{H:List AObj}(hn:PI H):aO pv κ H=pv:=by
 funext b o;apply propext;refine⟨fun h=>?_,.inl⟩;rcases h with h|⟨l,_,h2⟩
 ·exact h
 ·exact(hn l (CF h2)).elim
theorem Lp{κ:bg}:bV [] κ:=fun l b h=>by simp[at?]at h
theorem Sim.reset{n0:Nat}{pv pv':bB}{w W W':World}{ds:List Deferred}{κ:bg}{s:ASt}{a:Act}(h:Sim (ko pv w ds) κ s a W)(hn:PI s.heap)(hy:YF n0 pv pv' W W')(hlt:∀b o,pv' b o→b<W'.heap.size):Sim (ko pv' W' ds) κ s a W' where
 defers:=h.defers
 len:=h.len
 slot:=fun n hn'=>by
  have:=h.slot n hn';rw[show(ko pv w ds).aN=pv from rfl,mJ hn]at this;rw[show(ko pv' W' ds).aN=pv' from rfl,mJ hn];exact this.mono hy.iH (bV.refl _) hy.pvs
 klen:=h.klen
 kext:=Lp
 resv:=h.resv
 obj:=fun l _ _ hl=>(hn l hl).elim
 apart:=fun l _ _ _ _ hl=>(hn l hl).elim
 own:=fun l _ _ hl=>(hn l hl).elim
 bound:=fun l b h1=>qAq (h.bound l b h1) hy.iH.size
 pvold:=hlt
 oldlt:=fun _ hb=>hb
 old:=fun _ _=>rfl
 os:=rfl
 tape:=rfl
 output:=rfl
 size:=qAc _
 pvsub:=fun b o hb _=>by rw[show(ko pv' W' ds).aN=pv' from rfl,mJ hn]at hb;exact hb
 iH:=Evo.refl _ _
def QI(n:Nat):List Wr:=(List.range n).map fun l=>.obj l .dead
theorem anX:∀(L:List Nat) (s:ASt) (n:Nat),(n∈L∨¬live (obj? s.heap n))→¬live (obj? (s.wr (L.map fun l=>Wr.obj l .dead)).heap n):=by
 intro L
 induction L with
 |nil=>intro s n h;exact h.resolve_left (by simp)
 |cons l L ih=>
  intro s n h;refine ih (s.Gi (.obj l .dead)) n ?_;by_cases e:n=l
  ·subst e;refine .inr ?_;simp only[ASt.Gi,ASt.setObj];by_cases hl:n<s.heap.length
   ·rw[obj?_set_same hl];exact fun h=>h
   ·rw[obj?,qAn (by simpa using qAu hl)];exact fun h=>h
  ·rcases h with h|h
   ·exact .inl ((qAs.1 h).resolve_left e)
   ·refine .inr ?_;simp only[ASt.Gi,ASt.setObj];rw[obj?_set_other (qAZ e)];exact h
theorem Sg(s:ASt)(n:Nat)(h:s.heap.length≤n):PI (s.wr (QI n)).heap:=fun l=>by
 refine anX _ s l ?_;by_cases hl:l<n
 ·exact .inl (qBi.2 hl)
 ·exact .inr (by rw[obj?,qAn (by omega)];exact fun h=>h)
theorem Sim.arl{C:Ctx}{κ:bg}{a:Act}{w:World}:∀(L:List Nat) {s:ASt},Sim C κ s a w→Sim C κ (s.wr (L.map fun l=>Wr.obj l .dead)) a w:=by
 intro L
 induction L with
 |nil=>intro s h;exact h
 |cons l L ih=>intro s h;exact ih (h.kill l)
theorem Bg.mono{P:Program}{ι:Type}{l n0 n1:Nat}{K:ι→bB→World→Prop}{step:ι→AV→Option (Bool×ι)}(h:Bg P l n0 K step)(hn:n0≤n1):Bg P l n1 K step:=fun i pv w x v r i' hs hk hr hst=>by
 obtain⟨fn,tmps,assign,body,h1,h2⟩:=h i pv w x v r i' (qAj hn hs) hk hr hst;exact⟨fn,tmps,assign,body,h1,h2.mono fun e w' ⟨q1,pv',q2,q3⟩=>⟨q1,pv',q2,q3.mono hn⟩⟩
theorem Bg.and{P:Program}{ι:Type}{l n0:Nat}{K:ι→bB→World→Prop}{step:ι→AV→Option (Bool×ι)}(h:Bg P l n0 K step)(F:bB→World→Prop)(hF:∀pv pv' w w',F pv w→YF n0 pv pv' w w'→F pv' w'):Bg P l n0 (fun i pv w=>K i pv w∧F pv w) step:=fun i pv w x v r i' hs ⟨hk,hf⟩ hr hst=>by
 obtain⟨fn,tmps,assign,body,h1,h2⟩:=h i pv w x v r i' hs hk hr hst;exact⟨fn,tmps,assign,body,h1,h2.mono fun e w' ⟨q1,pv',q2,q3⟩=>⟨q1,pv',⟨q2,hF _ _ _ _ hf q3⟩,q3⟩⟩
theorem KOk.yf{ι:Type}{n0:Nat}{K:ι→bB→World→Prop}(h:KOk n0 K)(aN:bB)(w0:World)(hn:n0≤w0.heap.size):KOk w0.heap.size (fun i pv w=>K i pv w∧YF n0 aN pv w0 w):=
 ⟨fun i pv w w' ⟨h1,h2⟩ hq=>⟨h.stab _ _ _ _ h1 hq,h2.trans (hq.yf n0 pv)⟩,fun i pv w b o o' ⟨h1,h2⟩ hb ho hr hr'=>⟨h.recs _ _ _ _ _ _ h1 (qAj hn hb) ho hr hr',h2.put ho hr (.inl hb)⟩,fun i pv w b o h1 hp=>h.lt _ _ _ _ _ h1.1 hp⟩
def Sq(ops:Array Oper)(o:Oper)(n:Nat)(v:AV):Eff:=⟨bF ops o,List.range n,QI n++Abs.aI o.dst v⟩
theorem VW.out{pv:bB}{w W:World}{ds:List Deferred}{κ:bg}{t:List AV}{h:List AObj}{a:Act}(hs:Sim (ko pv w ds) κ ⟨t,h⟩ a W){x y:AV}(hv:VW h [] x y){u:Value}(hr:Rel W κ (aO pv κ h) y u):Rel W [] pv x u:=by
 have hw:Weak 0 t h [] (t.map fun _=>.unk) []:=by
  refine⟨by simp,rfl,fun i hi=>by omega,fun i j l hi=>by simp at hi,fun i l hi=>by simp at hi,fun n=>?_,fun i l hi=>by simp at hi,fun i hi=>by simp at hi⟩;have:(t.map fun _=>AV.unk).getD n .unk=.unk:=by
   simp only[List.getD,qAF];cases t[n]?<;>rfl
  rw[this];exact .unk _
 have:=hw.val hs hv hr;rw[show(ko pv w ds).aN=pv from rfl,show Ae κ []=[]from rfl,mJ (fun l=>by simp[obj?,live])]at this;exact this
theorem Vl{t s:ASt}{n:Nat}{e:Eff}(h:Agree t s e)(hro:e.ro=List.range n)(hn:s.heap.length≤n):t.heap=s.heap:=by
 have e:ASt.mk [] t.heap=ASt.mk [] s.heap:=ASt.ext' rfl h.hl (fun n hn=>by cases hn) fun l hl=>h.ro l (by
  rw[hro];have:=h.hl;simp only at hl;exact qBi.2 (by omega))
 injection e
theorem arD{s:ASt}{n:Nat}{d:Option Tmp}{v:AV}:s.wr (QI n++Abs.aI d v)=(s.wr (QI n)).wr (Abs.aI d v):=kg s _ _
theorem Sim.after{pv pv':bB}{n0:Nat}{w W W':World}{ds:List Deferred}{κ:bg}{s:ASt}{a:Act}(h:Sim (ko pv w ds) κ s a W){n:Nat}(hn:s.heap.length≤n)(hy:YF n0 pv pv' W W')(hlt:∀b o,pv' b o→b<W'.heap.size)(d:Option Tmp){v:AV}{u:Value}(hv:Rel W' [] pv' v u):
  Sim (ko pv' W' ds) κ (s.wr (QI n++Abs.aI d v)) (a.put d u) W':=by
 rw[arD];have h1:Sim (ko pv w ds) κ (s.wr (QI n)) a W:=Sim.arl _ h;have h2:=h1.reset (Sg s n hn) hy hlt;refine h2.aI d ?_;rw[show(ko pv' W' ds).aN=pv' from rfl,mJ (Sg s n hn)];exact hv.mono (Evo.refl pv' _) Lp (fun _ _ h _=>h)
section
variable {P:Program}{ro:Option Nat}{ι:Type}{K:ι→bB→World→Prop}{n0:Nat}{step:ι→AV→Option (Bool×ι)}{ds:List Deferred}
theorem ah9{ops:Array Oper}{o:Oper}{t:List AV}{h:List AObj}{fo x:Operand}{argTypes:Array TypeId}{l:Nat}{ax:AV}{i i':ι}{r:Bool}(hw:d9 ops t o=some true)(ho:o.op=.call {callee:=.value fo,args:=#[x],argTypes})(hf:bC t fo=.yv l)(hx:VW h [] ax (bC t x))
  (hK:KOk n0 K) (hY:Bg P l n0 K step) (hst:step i ax=some (r,i')):∀C,At K n0 i ds C→XR P ro ops o ⟨t,h⟩ (Sq ops o h.length (.bool r)) C (At K n0 i' ds):=by
 rintro C ⟨pv,w,rfl,hKi,hn⟩ t' hag;refine⟨by rw[oI hag.rs];exact hw,fun κ a W hs next Q hnext=>?_⟩;have hop:=zm hag.rs;have hh:t'.heap=h:=Vl hag rfl (qAc _);have e1:=hs.ev fo;rw[hop fo (by rw[ho];simp[Op.operands,Call.operands]),show bC (ASt.mk t h).tmps fo=.yv l from hf]at e1;have e2:a.eval fo=.func (.yield l) #[] #[]:=by
  generalize a.eval fo=v at e1;cases e1;rfl
 have hx1:=hs.ev x;rw[hop x (by rw[ho];simp[Op.operands,Call.operands])]at hx1;have hs':Sim (ko pv w ds) κ ⟨t'.tmps,h⟩ a W:=by rw[←hh];exact hs
 have hx2:Rel W [] pv ax (a.eval x):=VW.out hs' hx (by rw[←hh];exact hx1);have hKW:K i pv W:=hK.stab _ _ _ _ hKi hs.qt0;have hnW:n0≤W.heap.size:=qAj hn hs.size;obtain⟨fn,tmps,assign,body,hrun,hrd⟩:=hY i pv W ax (a.eval x) r i' hnW hKW hx2 hst;refine⟨fun _ _=>trivial,?_⟩;rw[Oper.semAt_eq _ _ _ (fun c e=>by rw[ho]at e;cases e)];have hrun':(execOp a.eval o).run P W=.ok (.round l fn tmps assign body) W:=by
  simp only[execOp,ho,resolve,e2];simp[Deferred.ofValue,invoke,hrun]
 rw[hrun',Oper.uponIn_round];refine⟨fun h=>by simp[zR,Fence.wide]at h,?_⟩;have hrd':RoundIn (zR ro) (0 - 1) P l fn tmps assign body W fun e w'=>e=.returned (.bool r)∧∃pv',K i' pv' w'∧YF n0 pv pv' W w':=hrd;refine hrd'.mono ?_;rintro e W' ⟨rfl,pv',hK',hy⟩;have hsz:n0≤W'.heap.size:=qAj hnW hy.iH.size;refine hnext (ko pv' W' ds) κ _ W' ⟨pv',W',rfl,hK',hsz⟩ ?_;exact hs.after (by rw[hh];exact qAc _) hy (fun b o hb=>hK.lt _ _ _ _ _ hK' hb) o.dst (.bool r)
theorem aic{ops:Array Oper}{o:Oper}{t:List AV}{h:List AObj}{fo:Operand}{args:Array Operand}{argTypes:Array TypeId}{l f:Nat}{caps:List AV}{A:Nat→List AV}{xs:List AV}{res:Bool→AV}{i i':ι}{r:Bool}(hw:d9 ops t o=some true)(ho:o.op=.call {callee:=.value fo,args,argTypes})(hf:bC t fo=.func f caps)(hok:aZ P f=true)
  (hx:VWs h [] (A l) (args.toList.map (bC t)++caps)) (hc:uH P f A xs res)
  (hK:KOk n0 K) (hY:Bg P l n0 K step) (hst:jZ step xs i=some (r,i')):∀C,At K n0 i ds C→XR P ro ops o ⟨t,h⟩ (Sq ops o h.length (res r)) C (At K n0 i' ds):=by
 rintro C ⟨pv,w,rfl,hKi,hn⟩ t' hag;refine⟨by rw[oI hag.rs];exact hw,fun κ a W hs next Q hnext=>?_⟩;have hop:=zm hag.rs;have hh:t'.heap=h:=Vl hag rfl (qAc _);have e1:=hs.ev fo;rw[hop fo (by rw[ho];simp[Op.operands,Call.operands]),show bC (ASt.mk t h).tmps fo=.func f caps from hf]at e1;obtain⟨cv,g1,g2,g3⟩:=e1.xI;have hs':Sim (ko pv w ds) κ ⟨t'.tmps,h⟩ a W:=by rw[←hh];exact hs
 let vs:List Value:=args.toList.map a.eval++cv
 have hlen:vs.length=(A l).length:=by
  rw[hx.len];simp[vs,g2]
 have hrel:∀j,j<(A l).length→Rel W [] pv ((A l).getD j .unk) (vs.getD j undef):=fun j hj=>by
  refine VW.out hs' (hx.get j) ?_;by_cases hlt:j<args.toList.length
  ·have x1:(args.toList.map (bC t)++caps).getD j .unk=bC t args.toList[j]:=by grind
   have x2:vs.getD j undef=a.eval args.toList[j]:=by
    simp only[vs];rw[List.getD,qAf (by simpa using hlt),qAF,qAe hlt];rfl
   rw[x1,x2];have:=hs.ev args.toList[j];rw[hop _ (by rw[ho];simp only[Op.operands];exact qBh.2 (.inr (qAU.1 (qBp hlt)))),hh]at this;exact this
  ·have hj2:j - args.toList.length<caps.length:=by
    have:=hx.len;simp only[qAl,qAo]at this;omega
   have x1:(args.toList.map (bC t)++caps).getD j .unk=caps.getD (j - args.toList.length) .unk:=by
    rw[List.getD,qAm (by simpa using qAu hlt)];simp[List.getD]
   have x2:vs.getD j undef=cv.getD (j - args.toList.length) undef:=by
    simp only[vs];rw[List.getD,qAm (by simpa using qAu hlt)];simp[List.getD]
   rw[x1,x2];have:=g3 _ hj2;rw[hh]at this;exact this
 have hKW:K i pv W:=hK.stab _ _ _ _ hKi hs.qt0;have hnW:n0≤W.heap.size:=qAj hn hs.size;refine⟨fun _ _=>trivial,?_⟩;rw[Oper.semAt_eq _ _ _ (fun c e=>by rw[ho]at e;cases e)];have hrun:(execOp a.eval o).run P W=.ok (.enter f vs.toArray) W:=by
  have e4:args.map a.eval++cv.toArray=vs.toArray:=by grind
  simp[execOp,ho,resolve,g1,Deferred.ofValue,invoke,BR hok,e4]
 rw[hrun,Oper.uponIn_enter];refine⟨fun h=>by simp[zR,Fence.wide]at h,?_⟩;refine(Aj.2 (hc ι K step l n0 i r i' pv W vs hK hY hnW hKW hlen hrel hst)).mono ?_;rintro e W' ⟨v,pv',rfl,hK',hy,hres⟩;have hsz:n0≤W'.heap.size:=qAj hnW hy.iH.size;refine hnext (ko pv' W' ds) κ _ W' ⟨pv',W',rfl,hK',hsz⟩ ?_;exact hs.after (by rw[hh];exact qAc _) hy (fun b o hb=>hK.lt _ _ _ _ _ hK' hb) o.dst hres
end
def qy(G:Ctx→Prop):List (Nat×(Ctx→Prop))→(Nat→Bool)→Ctx→Prop
 |[],_=>G
 |(p,g)::r,D=>if D p then qy g r D else G
def ahF(G:Ctx→Prop):List (Nat×(Ctx→Prop))→Ctx→Prop
 |[]=>G
 |(_,g)::r=>ahF g r
inductive BT(P:Program)(ro:Option Nat)(ops:Array Oper):Nat→List (Nat×(Ctx→Prop))→List Oper→List Eff→ASt→ASt→(Ctx→Prop)→Prop where
 |nil (i:Nat) (s:ASt) (G:Ctx→Prop):BT P ro ops i [] [] [] s s G
 |cons {i:Nat} {sps:List (Nat×(Ctx→Prop))} {o:Oper} {l:List Oper} {e:Eff} {es:List Eff} {s s':ASt} {G:Ctx→Prop}:SB o=true→vH P ops o s e→BT P ro ops (i+1) sps l es (s.wr e.ws) s' G→BT P ro ops i sps (o::l) (e::es) s s' G
 |sp {i:Nat} {sps:List (Nat×(Ctx→Prop))} {o:Oper} {l:List Oper} {e:Eff} {es:List Eff} {s s':ASt} {G G1:Ctx→Prop}:(∀C,G C→XR P ro ops o s e C G1)→BT P ro ops (i+1) sps l es (s.wr e.ws) s' G1→BT P ro ops i ((i,G1)::sps) (o::l) (e::es) s s' G
theorem BT.seg{P:Program}{ro:Option Nat}{ops:Array Oper}{l1 l2:List Oper}{es1 es2:List Eff}{s s1 s':ASt}{G:Ctx→Prop}(h1:ATr P ops l1 es1 s s1):∀{i:Nat} {sps:List (Nat×(Ctx→Prop))},(l1.all SB=true)→BT P ro ops (i+l1.length) sps l2 es2 s1 s' G→BT P ro ops i sps (l1++l2) (es1++es2) s s' G:=by
 induction h1 with
 |nil s=>intro i sps _ h2;exact h2
 |@cons o l e es s s1 he _ ih=>
  intro i sps hn h2;simp only[qBD,qAd]at hn;exact .cons hn.1 he (ih hn.2 (by rw[show i+1+l.length=i+(o::l).length from by simp;omega];exact h2))
def isSp(sps:List (Nat×(Ctx→Prop)))(j:Nat):Bool:=(sps.map (·.1)).contains j
theorem BT.ge{P:Program}{ro:Option Nat}{ops:Array Oper}{l:List Oper}{es:List Eff}{s s':ASt}{G:Ctx→Prop}{i:Nat}{sps:List (Nat×(Ctx→Prop))}(h:BT P ro ops i sps l es s s' G):∀p∈sps,i≤p.1:=by
 induction h with
 |nil=>intro p hp;cases hp
 |cons _ _ _ ih=>intro p hp;have:=ih p hp;omega
 |sp _ _ ih=>
  intro p hp;rcases qAs.1 hp with rfl|hp
  ·exact qAc _
  ·have:=ih p hp;omega
theorem Ti{sps:List (Nat×(Ctx→Prop))}{j:Nat}:isSp sps j=true↔∃g,(j,g)∈sps:=by
 simp[isSp]
theorem aff:∀(sps:List (Nat×(Ctx→Prop))) (G:Ctx→Prop) (D D':Nat→Bool),(∀p∈sps,D p.1=D' p.1)→qy G sps D=qy G sps D':=by
 intro sps
 induction sps with
 |nil=>intro G D D' _;rfl
 |cons p r ih=>
  intro G D D' h;obtain⟨n,g⟩:=p;simp only[qy];rw[h (n,g) (by simp),ih g D D' (fun q hq=>h q (by simp[hq]))]
theorem Vn:∀(sps:List (Nat×(Ctx→Prop))) (G:Ctx→Prop) (D:Nat→Bool),(∀p∈sps,D p.1=false)→qy G sps D=G:=by
 intro sps G D h;cases sps with
 |nil=>rfl
 |cons p r=>obtain⟨n,g⟩:=p;simp only[qy];rw[h (n,g) (by simp)];rfl
theorem ajL:∀(sps:List (Nat×(Ctx→Prop))) (G:Ctx→Prop) (D:Nat→Bool),(∀p∈sps,D p.1=true)→qy G sps D=ahF G sps:=by
 intro sps
 induction sps with
 |nil=>intro G D _;rfl
 |cons p r ih=>intro G D h;obtain⟨n,g⟩:=p;simp only[qy,ahF];rw[h (n,g) (by simp),if_pos rfl,ih g D fun q hq=>h q (by simp[hq])]
theorem R5(D:Nat→Bool):∀(es:List Eff) (k:Nat),aP (fun j=>D (j - 1)) (k+1) es=aP D k es:=by
 intro es
 induction es with
 |nil=>intro k;rfl
 |cons e es ih=>intro k;simp only[aP];rw[ih (k+1)];rfl
theorem Vf(e:Eff)(es:List Eff)(i:Nat):aP (fun j=>decide (j<i+1)) 0 (e::es)=e.ws++aP (fun j=>decide (j<i)) 0 es:=by
 simp only[aP];have h:aP (fun j=>decide (j<i+1)) (0+1) es=aP (fun j=>decide (j<i)) 0 es:=by
  refine(Xc es _ _ _ fun j _=>?_).trans (R5 (fun j=>decide (j<i)) es 0);simp only[decide_eq_decide];omega
 rw[h];simp
theorem Wi(e:Eff)(es:List Eff):aP (fun _=>true) 0 (e::es)=e.ws++aP (fun _=>true) 0 es:=by
 simp only[aP,if_true];rw[R5 (fun _=>true) es 0]
theorem BT.spec{P:Program}{ro:Option Nat}{ops:Array Oper}{l:List Oper}{es:List Eff}{s s':ASt}{G:Ctx→Prop}{i:Nat}{sps:List (Nat×(Ctx→Prop))}(h:BT P ro ops i sps l es s s' G):l.length=es.length∧s'=s.wr (aP (fun _=>true) 0 es)∧
  (∀j o e,l[j]? =some o→es[j]? =some e→(isSp sps (i+j)=false→SB o=true∧vH P ops o (s.wr (aP (fun k=>decide (k<j)) 0 es)) e)∧
   (isSp sps (i+j)=true→∀D,(∀k,isSp sps k=true→D k=decide (k<i+j))→∀C,qy G sps D C→XR P ro ops o (s.wr (aP (fun k=>decide (k<j)) 0 es)) e C (qy G sps (Ba D (i+j))))):=by
 induction h with
 |nil=>exact⟨rfl,rfl,fun j o e h=>by simp at h⟩
 |@cons i sps o l e es s s' G hnd he hb ih=>
  obtain⟨h1,h2,h3⟩:=ih;have hge:=hb.ge;refine⟨by simp[h1],by rw[h2,Wi,kg],fun j o' e' hj hj'=>?_⟩;cases j with
  |zero=>
   simp at hj hj';subst hj hj';rw[show aP (fun k=>decide (k<0)) 0 (e::es)=[]from EB _ _ _ fun i=>by simp];refine⟨fun _=>⟨hnd,he⟩,fun hsp=>?_⟩;obtain⟨g,hg⟩:=Ti.1 hsp;have:=hge _ hg;simp at this;omega
  |succ j=>
   have:=h3 j o' e' (by simpa using hj) (by simpa using hj');rw[Vf,kg];rw[show i+1+j=i+(j+1)from by omega]at this;exact this
 |@sp i sps o l e es s s' G G1 he hb ih=>
  obtain⟨h1,h2,h3⟩:=ih;have hge:=hb.ge;refine⟨by simp[h1],by rw[h2,Wi,kg],fun j o' e' hj hj'=>?_⟩;cases j with
  |zero=>
   simp at hj hj';subst hj hj';rw[show aP (fun k=>decide (k<0)) 0 (e::es)=[]from EB _ _ _ fun i=>by simp];refine⟨fun hsp=>by simp[isSp]at hsp,fun _ D hD C hG=>?_⟩;have hDi:D i=false:=by rw[hD i (by simp[isSp])];simp
   simp only[qy,hDi,qAx,if_false]at hG;have e1:qy G ((i,G1)::sps) (Ba D (i+0))=G1:=by
    simp only[qy,Ba,qAP,decide_true,qDe,if_true];refine Vn _ _ _ fun p hp=>?_;have:=hge p hp;have hp2:D p.1=decide (p.1<i+0):=hD p.1 (Ti.2 ⟨p.2,by simp[hp]⟩);show(D p.1 ||decide (p.1=i))=false
    rw[hp2];simp;omega
   rw[e1];exact he C hG
  |succ j=>
   have:=h3 j o' e' (by simpa using hj) (by simpa using hj');rw[Vf,kg];rw[show i+1+j=i+(j+1)from by omega]at this;have hne:isSp ((i,G1)::sps) (i+(j+1))=isSp sps (i+(j+1)):=by
    simp[isSp]
   rw[hne];refine⟨this.1,fun hsp D hD C hG=>?_⟩;have hDi:D i=true:=by rw[hD i (by simp[isSp])];simp
   simp only[qy,hDi,if_true]at hG;have e1:qy G ((i,G1)::sps) (Ba D (i+(j+1)))=qy G1 sps (Ba D (i+(j+1))):=by
    simp only[qy,Ba,hDi,qBI,if_true]
   rw[e1];exact this.2 hsp D (fun k hk=>hD k (by simp only[isSp,qAA,List.contains_cons]at hk⊢;rw[hk];simp)) C hG
theorem BT.gtr{P:Program}{ro:Option Nat}{l:List Oper}{es:List Eff}{s s':ASt}{G:Ctx→Prop}{sps:List (Nat×(Ctx→Prop))}(h:BT P ro l.toArray 0 sps l es s s' G):GTr P ro (isSp sps) (qy G sps) l es s s':=by
 obtain⟨h1,h2,h3⟩:=h.spec;refine⟨h1,h2,fun i o e hi hi' hs=>?_,fun i o e hi hi' hs D hD C hG=>?_,fun D i C hs hG=>?_⟩
 ·exact(h3 i o e hi hi').1 (by rw[qAw];exact hs)
 ·have:=(h3 i o e hi hi').2 (by rw[qAw];exact hs) D (fun k hk=>by rw[qAw];exact hD k hk) C hG;rw[qAw]at this;exact this
 ·rw[aff sps G (Ba D i) D fun p hp=>?_]
  ·exact hG
  ·have:p.1≠i:=fun e=>by
    have hh:isSp sps p.1=true:=Ti.2 ⟨p.2,hp⟩;rw[e,hs]at hh;cases hh
   simp[Ba,this]
theorem BT.lt{P:Program}{ro:Option Nat}{ops:Array Oper}{l:List Oper}{es:List Eff}{s s':ASt}{G:Ctx→Prop}{i:Nat}{sps:List (Nat×(Ctx→Prop))}(h:BT P ro ops i sps l es s s' G):∀p∈sps,p.1<i+l.length:=by
 induction h with
 |nil=>intro p hp;cases hp
 |cons _ _ _ ih=>intro p hp;have:=ih p hp;simp;omega
 |sp _ _ ih=>
  intro p hp;rcases qAs.1 hp with rfl|hp
  ·simp
  ·have:=ih p hp;simp;omega
structure SpR(P:Program)(ro:Option Nat)(ops:List Oper)(dr:Bool)(Q:GT)(i:Nat)(es:List Eff)(t:List AV)(h:List AObj)(G:Ctx→Prop)(ps:List Nat):Prop where
 out:∃sps es' s',BT P ro ops.toArray i sps (ops.drop i) es' ⟨t,h⟩ s' G∧(dr=true→iG ops (es++es')=true∧Ug (fun j=>(ps++sps.map (·.1)).contains j) ops=true)∧∀C,ahF G sps C→Q .normal s'.tmps s'.heap C
section
variable {P:Program}{ro:Option Nat}{ops:List Oper}{dr:Bool}{Q:GT}{i:Nat}{es:List Eff}{t:List AV}{h:List AObj}{G:Ctx→Prop}{ps:List Nat}
theorem SpR.nil(hi:ops.drop i=[])(ho:dr=true→iG ops es=true∧Ug (fun j=>ps.contains j) ops=true)(hq:∀C,G C→Q .normal t h C):SpR P ro ops dr Q i es t h G ps:=
 ⟨[],[],⟨t,h⟩,by rw[hi];exact .nil _ _ _,by simpa using ho,hq⟩
theorem SpR.seg(j k:Nat)(hj:i+j≤ops.length)(hd:((ops.drop i).take j).all SB=true)(hr:Ci P (TI.of P) ops ((ops.drop i).take j) k [] t h fun es1 t1 h1=>SpR P ro ops dr Q (i+j) (es++es1) t1 h1 G ps):SpR P ro ops dr Q i es t h G ps:=by
 obtain⟨es1,s1,h1,h2⟩:=Mr _ _ _ _ _ _ hr;obtain⟨sps,es',s',g1,g2,g3⟩:=h2.out;refine⟨sps,es1++es',s',?_,fun e=>?_,g3⟩
 ·have hl:((ops.drop i).take j).length=j:=by simp;omega
  have hspl:ops.drop i=(ops.drop i).take j++ops.drop (i+j):=by
   rw[←qCS];exact(qCR j (ops.drop i)).symm
  rw[hspl];refine BT.seg h1 hd ?_;rw[hl];exact g1
 ·have:=g2 e;simpa[qAN]using this
theorem SpR.sp{o:Oper}{v:AV}{G1:Ctx→Prop}(hop:ops[i]? =some o)(he:∀C,G C→XR P ro ops.toArray o ⟨t,h⟩ (Sq ops.toArray o h.length v) C G1)(hn:uE (Sq ops.toArray o h.length v).ws t h fun t' h'=>SpR P ro ops dr Q (i+1) (es++[Sq ops.toArray o h.length v]) t' h' G1 (ps++[i])):SpR P ro ops dr Q i es t h G ps:=by
 rw[QC]at hn;obtain⟨sps,es',s',g1,g2,g3⟩:=hn.out;have hlt:i<ops.length:=(qAk.1 hop).1;refine⟨(i,G1)::sps,Sq ops.toArray o h.length v::es',s',?_,fun e=>?_,g3⟩
 ·rw[qBr hlt,show ops[i]=o from(qAk.1 hop).2];exact .sp he g1
 ·have:=g2 e;simpa[qAN]using this
theorem GM.rgS{l:Array Oper}{id:Nat}{C:Ctx}(hm:P.follows .mixedOrders=true)(r:Nat)(G:Ctx→Prop)(hG:G C)(hr:rep r h fun h'=>SpR P ro l.toList dr Q 0 [] t h' G []):GM P ro (.region id l dr) Q t h C:=by
 unfold rep at hr;simp only[rC]at hr;obtain⟨sps,es,s',h1,h2,h3⟩:=hr.out;have hl:l=l.toList.toArray:=by simp
 rw[qAX]at h1;have hsp:(fun j=>(([]:List Nat)++sps.map (·.1)).contains j)=isSp sps:=by funext j;simp[isSp]
 have hgt:=h1.gtr;have h0:qy G sps (fun _=>false) C:=by rw[Vn _ _ _ fun _ _=>rfl];exact hG
 have hlt:=h1.lt;have hfin:∀D C,(∀i,i<l.toList.length→D i=true)→qy G sps D C→Q .normal s'.tmps s'.heap C:=fun D C hD hG=>by
  rw[ajL _ _ _ fun p hp=>hD p.1 (by have:=hlt p hp;omega)]at hG;exact h3 C hG
 cases dr with
 |true=>
  obtain⟨g1,g2⟩:=h2 rfl;rw[hsp]at g2;rw[hl];exact GM.drawn (s:=⟨t,h⟩) r hm hgt g1 g2 h0 hfin
 |false=>rw[hl];exact GM.listed (s:=⟨t,h⟩) r hgt h0 hfin
end
theorem GM.rg{P:Program}{ro:Option Nat}{τ:Nat→TI}{id:Nat}{l:Array Oper}{dr:Bool}{Q:GT}{t:List AV}{h:List AObj}{C:Ctx}(hτ:τ=TI.of P)(hm:P.follows .mixedOrders=true)(hd:l.toList.all SB=true)(r:Nat)
  (hr:rep r h fun h'=>Iq h 0 fun k=>Ci P τ l.toList l.toList k [] t h' fun es t h=>iI dr (iG l.toList es=true∧Q .normal t h C) (Q .normal t h C)):GM P ro (.region id l dr) Q t h C:=by
 subst hτ;unfold rep at hr;simp only[rC,G6]at hr;obtain⟨es,s',h1,h2⟩:=Mr _ _ _ _ _ _ hr;have hl:l=l.toList.toArray:=by simp
 have hb:BT P ro l.toList.toArray 0 [] (l.toList++[]) (es++[]) (ASt.reserve ⟨t,h⟩ r) s' (fun C'=>C'=C):=BT.seg (i:=0) h1 hd (.nil _ _ _);rw[qAK]at hb;have hgt:=hb.gtr;have hsp:Ug (isSp []) l.toList=true:=by simp[Ug,isSp]
 rcases bQ h2 with⟨rfl,g1,g2⟩|⟨rfl,g⟩
 ·rw[hl];exact GM.drawn (s:=⟨t,h⟩) r hm hgt (by simpa using g1) hsp rfl fun D C' _ hG=>by cases hG;exact g2
 ·rw[hl];exact GM.listed (s:=⟨t,h⟩) r hgt rfl fun D C' _ hG=>by cases hG;exact g
def akS{ι:Type}(P:Program)(rs:List ResultVar)(K:ι→bB→World→Prop)(n0:Nat)(i':ι)(res:AV):GT:=fun e t h C=>
 (e=.normal∨e=.ret)∧(∃ys,vQ P ⟨t,h⟩ rs=some ys∧VW h [] res (wh false ys))∧∃pv w ds,C=ko pv w ds∧K i' pv w∧n0≤w.heap.size∧(ds=[]∨∃D,ds=qo none D∧n0≤D∧w.heap[D]? =some (.deferred (some [])))
theorem R3{P:Program}{fn:Func}{C:Ctx}{κ:bg}{s:ASt}{a:Act}{w:World}(hs:Sim C κ s a w){ys:List AV}(hy:vQ P s fn.results.toList=some ys):∃v,(results fn a.tmps).run P w=.ok v w∧Rel w κ (aO C.aN κ s.heap) (wh false ys) v:=by
 obtain⟨us,u1,u2,u3⟩:=JN hs _ _ hy;have hm:(fn.results.mapM (Mj a.tmps)).run P w=.ok us.toArray w:=by
  rw[qBF];simp only[Sem.run_map,u3,Result.andThen_ok]
 rw[MF];simp only[Sem.run_bind,hm,Result.andThen_ok,Sem.run_pure];by_cases h1:us.length=1
 ·match us,h1 with
  |[u],_=>
   match ys,u1 with
   |[x],_=>
    refine⟨u,by simp,?_⟩;have:=u2 0 (by simp);simpa[List.getD,wh]using this
 ·refine⟨.tuple us.toArray,by simp[h1],?_⟩;have hx:wh false ys=.tup ys:=by
   match ys,u1 with
   |[],_=>rfl
   |[x],h=>exact(h1 (by simpa using h)).elim
   |_::_::_,_=>rfl
  rw[hx];exact .tup u1 u2
theorem aas{P:Program}{f:Nat}{fn:Func}{c:Code}{A:Nat→List AV}{xs:List AV}{res:Bool→AV}(hf:P.funcs[f]? =some fn)(hb:fn.body=some c)(hlen:∀l,(A l).length≤fn.ntmps)
  (h:∀(ι:Type) (K:ι→bB→World→Prop) (step:ι→AV→Option (Bool×ι)) (l n0:Nat) (i:ι) (r:Bool) (i':ι),KOk n0 K→Bg P l n0 K step→jZ step xs i=some (r,i')→
   ∀C,At K n0 i [] C→GM P none c (akS P fn.results.toList K n0 i' (res r)) (A l++List.replicate (fn.ntmps - (A l).length) (.tup [])) [] C):uH P f A xs res:=by
 intro ι K step l n0 i r i' pv w vs hK hY hn hKi hvl hrel hst
 let K':ι→bB→World→Prop:=fun i pv' w'=>K i pv' w'∧YF n0 pv pv' w w'
 have hK':KOk w.heap.size K':=hK.yf pv w hn;have hY':Bg P l w.heap.size K' step:=(hY.and (fun pv' w'=>YF n0 pv pv' w w') fun _ _ _ _ h1 h2=>h1.trans h2).mono hn;have hg:=h ι K' step l w.heap.size i r i' hK' hY' hst (ko pv w []) ⟨pv,w,rfl,⟨hKi,YF.refl _ _ _⟩,qAc _⟩;have hsim:Sim (ko pv w []) [] ⟨A l++List.replicate (fn.ntmps - (A l).length) (.tup []),[]⟩ {tmps:=vs.toArray++Array.replicate (fn.ntmps - vs.toArray.size) undef,defers:=[]} w:=by
  have hnl:PI ([]:List AObj):=fun l=>by simp[obj?,live]
  refine⟨rfl,by simp[hvl],?_,rfl,bV.refl _,fun l h=>by simp[obj?]at h,fun l b h=>by simp[at?]at h,fun l l' b h=>by simp[at?]at h,fun l b h=>by simp[at?]at h,fun l b h=>by simp[at?]at h,fun b o h=>hK.lt _ _ _ _ _ hKi h,fun _ hb=>hb,fun _ _=>rfl,rfl,rfl,rfl,qAc _,fun b o h _=>by rw[show(ko pv w []).aN=pv from rfl,mJ hnl]at h;exact h,Evo.refl _ _⟩;intro n hn;rw[show(ko pv w []).aN=pv from rfl,mJ hnl];simp only[qAl,qBC]at hn;by_cases hlt:n<(A l).length
  ·have e1:(A l++List.replicate (fn.ntmps - (A l).length) (AV.tup [])).getD n .unk=(A l).getD n .unk:=by simp[List.getD,qAf hlt]
   have e2:(vs.toArray++Array.replicate (fn.ntmps - vs.toArray.size) undef).getD n undef=vs.getD n undef:=by
    rw[qAh,qAS (by simp;omega)];simp[List.getD]
   rw[e1,e2];exact hrel n hlt
  ·have e1:(A l++List.replicate (fn.ntmps - (A l).length) (AV.tup [])).getD n .unk=.tup []:=by
    rw[List.getD,qAm (qAu hlt),qBy,if_pos (by omega)];rfl
   have e2:(vs.toArray++Array.replicate (fn.ntmps - vs.toArray.size) undef).getD n undef=undef:=by
    rw[qAh,qBg (by simp;omega),qBJ];split<;>rfl
   rw[e1,e2];exact jr
 have hwp:=hg [] _ w hsim;refine Aj.1 (callsIn_of_wp_marks (F:=zR none) (n:=0) hf hb trivial (wpIn_mono hwp ?_) rfl);rintro e a W ⟨C',s',κ',⟨he,⟨ys,hy1,hy2⟩,pv',w',ds,rfl,⟨hK2,hyf⟩,hsz,hds⟩,hs⟩;obtain⟨v,hv1,hv2⟩:=R3 (fn:=fn) hs hy1;have hv3:Rel W [] pv' (res r) v:=VW.out (t:=s'.tmps) (h:=s'.heap) hs hy2 hv2;have hq:=hs.qt0;have hKW:K i' pv' W:=hK.stab _ _ _ _ hK2 hq;have hyW:YF n0 pv pv' w W:=hyf.trans (hq.yf n0 pv');have hfin:LeavesInM (zR none) 0 P fn a.tmps (fun e w'=>∃v pv',e=.returned v∧K i' pv' w'∧YF n0 pv pv' w w'∧Rel w' [] pv' (res r) v) a.defers .returning W:=by
  rw[hs.defers];rcases hds with rfl|⟨D,rfl,hD,hDW⟩
  ·exact⟨v,hv1,v,pv',rfl,hKW,hyW,hv3⟩
  ·have hDW2:W.heap[D]? =some (.deferred (some [])):=(hq.same D (lt_of_heap hDW)).trans hDW;refine⟨by simp,.inl ⟨D,_,rfl,run_takeDeferred hDW2,?_⟩⟩;have hev:Evo pv' W (W.putObj D (.deferred none)):=Evo.putObj hDW2 rfl;have hs2:Sim (ko pv' w' (qo none D)) κ' s' a (W.putObj D (.deferred none))→True:=fun _=>trivial;obtain⟨us,hv5⟩:∃v',(results fn a.tmps).run P (W.putObj D (.deferred none))=.ok v' (W.putObj D (.deferred none))∧Rel (W.putObj D (.deferred none)) [] pv' (res r) v':=by
    have hlv:∀l,at? κ' l=some D→¬live (obj? s'.heap l):=fun l hl hlv=>by
     have:=hs.obj l D hl hlv;generalize obj? s'.heap l=o at this hlv;cases o<;>simp[nE,live,hDW2]at this hlv
    have hs3:Sim (ko pv' (w'.putObj D (.deferred none)) (qo none D)) κ' s' a (W.putObj D (.deferred none)):=by
     have hDw:D<w'.heap.size:=lt_of_heap hDW;have evp:Evo (aO pv' κ' s'.heap) W (W.putObj D (.deferred none)):=Evo.putObj hDW2 rfl;refine⟨hs.defers,hs.len,fun n hn=>(hs.slot n hn).mono evp (bV.refl _) (fun _ _ h _=>h),hs.klen,Lp,hs.resv,fun l b h1 h2=>(hs.obj l b h1 h2).mono (World.putObj_heap_other (fun e=>hlv l (by rw[h1,e]) h2)) evp (bV.refl _) (fun _ _ h _=>h),hs.apart,fun l b h1 h2 h3=>hs.own l b h1 h2 (by simpa[ko,World.putObj]using h3),fun l b h1=>by simpa[World.putObj]using hs.bound l b h1,fun b o h=>by simpa[ko,World.putObj]using hs.pvold b o h,fun b h=>by simpa[ko,World.putObj]using h,fun b hb=>?_,hs.os,hs.tape,hs.output,by simpa[ko,World.putObj]using hs.size,fun b o h hlt=>hs.pvsub b o h (by simpa[ko,World.putObj]using hlt),?_⟩
     ·have hb':b<w'.heap.size:=by simpa[ko,World.putObj]using hb
      by_cases e:b=D
      ·subst e;show(W.putObj b (.deferred none)).heap[b]? =(w'.putObj b (.deferred none)).heap[b]?;rw[World.putObj_heap_same (lt_of_heap hDW2),World.putObj_heap_same hDw]
      ·rw[World.putObj_heap_other e];exact(hs.old b hb').trans (World.putObj_heap_other e).symm
     ·refine⟨by simpa[ko,World.putObj]using hs.size,fun b off u hp hc=>?_,fun b c e z hb=>?_⟩
      ·by_cases e:b=D
       ·subst e;simp only[ko,World.cell?,World.putObj_heap_same hDw]at hc;cases hc
       ·simp only[ko,World.cell?,World.putObj_heap_other e]at hc⊢;exact hs.iH.cell b off u hp hc
      ·by_cases e':b=D
       ·subst e';simp only[ko,World.putObj_heap_same hDw]at hb;cases hb
       ·simp only[ko,World.putObj_heap_other e']at hb⊢;exact hs.iH.shape b c e z hb
    obtain⟨v',q1,q2⟩:=R3 (fn:=fn) hs3 hy1;exact⟨v',q1,VW.out (t:=s'.tmps) (h:=s'.heap) hs3 hy2 q2⟩
   exact⟨us,hv5.1,us,pv',rfl,hK.recs _ _ _ _ _ _ hKW (by omega) hDW2 rfl rfl,hyW.put hDW2 rfl (.inl hD),hv5.2⟩
 cases e with
 |normal=>exact hfin
 |ret=>exact hfin
 |exit id=>simp at he
 |goto l=>simp at he
 |panic c=>simp at he
 |outgrown=>simp at he
end
end Abs
end Go.Proofs.YtkopaeklihhdlaaGreat
