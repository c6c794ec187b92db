/-
  A term has a value just where its well-definedness condition is true. Conditions: names have values of their types; lemmas without a program.
-/
import Derived.Test.YtneeginmfjageaaGreatCW6ox910151
set_option linter.all false
namespace Go.Proofs.YtneeginmfjageaaGreat
namespace Abs
section
open Go
inductive DefR{β:Type}:VR→RR β→Prop
 |big {t:RR β}:DefR (.er 11) t
 |tbig {b:Bool}:DefR (.ok (aO b)) (.er 11)
 |yes {v:β}:DefR (.ok (aO true)) (.ok v)
 |no:DefR (.ok (aO false)) (.er 10)
def Dg(r:VR):Prop:=r=.er 11∨∃b,r=.ok (aO b)
def Big{β:Type}(r:RR β):Prop:=r=.er 11∨∃v,r=.ok v
theorem DefR.bo{β:Type}{d:VR}{t:RR β}(h:DefR d t):Dg d:=by
 cases h
 ·exact .inl rfl
 ·exact .inr ⟨_,rfl⟩
 ·exact .inr ⟨_,rfl⟩
 ·exact .inr ⟨_,rfl⟩
theorem Big.dr{β:Type}{t:RR β}(h:Big t):DefR (.ok (aO true)) t:=by
 rcases h with rfl|⟨v,rfl⟩
 ·exact .tbig
 ·exact .yes
theorem DefR.aGM{β:Type}{d:VR}{t:RR β}(h:DefR d t)(e:d=.ok (aO true)):Big t:=by
 cases h with
 |big=>cases e
 |tbig=>exact .inl rfl
 |yes=>exact .inr ⟨_,rfl⟩
 |no=>cases e
theorem DefR.aKK{β γ:Type}{d e:VR}{r:RR β}{f:β→RR γ}(h:DefR d r)(k:d=.ok (aO true)→r=.er 11→Dg e)(q:∀v,r=.ok v→DefR e (f v)):DefR (U4 4 d e) (r.thn f):=by
 cases h with
 |big=>exact .big
 |@tbig b=>
  cases b with
  |false=>exact .tbig
  |true=>rcases k rfl rfl with rfl|⟨c,rfl⟩;exact .big;exact .tbig
 |yes=>exact q _ rfl
 |no=>exact .no
theorem DefR.map{β γ:Type}{d:VR}{r:RR β}{f:β→RR γ}(h:DefR d r)(q:∀v,r=.ok v→Big (f v)):DefR d (r.thn f):=by
 cases h with
 |big=>exact .big
 |tbig=>exact .tbig
 |yes=>exact(q _ rfl).dr
 |no=>exact .no
section
variable {g:Str→Val}{bs:List Bound}
theorem J3{p:Tm}(h:(p.op==1)=true):aj g p bs=.ok (aO true):=by
 obtain⟨op,nm,m,u,ks⟩:=p;have h:op=1:=eq_of_beq h;subst h;rw[bG];rfl
theorem aqO{p q:Tm}(h:Dg (aj g p bs)):aj g (jE p q) bs=U4 4 (aj g p bs) (aj g q bs):=by
 unfold jE;cases hp:p.op==1 with
 |true=>rw[J3 hp];rfl
 |false=>
  cases hq:q.op==1 with
  |true=>
   rw[J3 hq];rcases h with h|⟨b,h⟩
   ·show aj g p bs=_;rw[h];rfl
   ·show aj g p bs=_;rw[h];cases b<;>rfl
  |false=>exact RF g (.inl rfl) p q bs
theorem asL{op:Int}(ho:op=5∨op=6){p q:Tm}{v:Val}(h:aj g p bs=.ok v):aj g (Ou op p q) bs=U4 op (.ok v) (aj g q bs):=by
 unfold Ou;cases hq:q.op==1 with
 |true=>
  show aj g q bs=_;rw[J3 hq];show _=cond _ _ (cond _ _ _);rcases ho with rfl|rfl<;>cases v.n==1<;>rfl
 |false=>
  rw[←h];exact RF g (ho.elim (fun e=>.inr (.inl e)) fun e=>.inr (.inr e)) p q bs
theorem aqX{op:Int}(ho:op=5∨op=6){p q:Tm}(h:aj g p bs=.er 11):Dg (aj g (Ou op p q) bs):=by
 unfold Ou;cases hq:q.op==1 with
 |true=>exact .inr ⟨true,J3 hq⟩
 |false=>
  refine .inl ?_;show aj g (jB op p q) bs=_;rw[RF g (ho.elim (fun e=>.inr (.inl e)) fun e=>.inr (.inr e)),h];rfl
theorem DefR.and{β γ:Type}{p q:Tm}{r:RR β}{f:β→RR γ}(h:DefR (aj g p bs) r)(k:aj g p bs=.ok (aO true)→r=.er 11→Dg (aj g q bs))(z:∀v,r=.ok v→DefR (aj g q bs) (f v)):DefR (aj g (jE p q) bs) (r.thn f):=by
 rw[aqO h.bo];exact h.aKK k z
theorem Zm(r:VR)(l:List VR):aN (r::l)=r.thn fun v=>(aN l).thn fun vs=>.ok (v::vs):=by
 cases r with
 |er e=>rfl
 |ok v=>
  show(match aN l with| .er e=>RR.er e| .ok l=>.ok (v::l))=(aN l).thn _
  cases aN l<;>rfl
theorem aCs(l:List VR)(r:VR):aN (l++[r])=(aN l).thn fun vs=>r.thn fun v=>.ok (vs++[v]):=by
 induction l with
 |nil=>cases r<;>rfl
 |cons a l ih=>
  cases a with
  |er e=>rfl
  |ok v=>
   rw[qAM,aN,ih,aN];cases aN l with
   |er e=>rfl
   |ok vs=>cases r<;>rfl
theorem avI:∀(suf:List Tm) (pre:List VR) (s:Tm),DefR (aj g s bs) (aN pre)→(∀t∈suf,DefR (aj g (fM t) bs) (aj g t bs))→(aj g s bs=.ok (aO true)→∀r∈pre,Big r)→
  DefR (aj g ((suf.map fM).foldl jE s) bs) (aN (pre++suf.map fun t=>aj g t bs))∧(aj g ((suf.map fM).foldl jE s) bs=.ok (aO true)→∀r∈pre++suf.map fun t=>aj g t bs,Big r)
 |[],pre,s,h,_,hb=>by simpa using⟨h,hb⟩
 |t::suf,pre,s,h,hk,hb=>by
  have ht:=hk t (by simp);have:=avI suf (pre++[aj g t bs]) (jE s (fM t)) (by
   rw[aCs];exact h.and (fun _ _=>ht.bo) fun vs _=>ht.map fun v _=>.inr ⟨_,rfl⟩) (fun u hu=>hk u (by simp[hu])) (fun e r hr=>by
   rw[aqO h.bo]at e;rcases h.bo with e1|⟨b,e1⟩
   ·rw[e1]at e;cases e
   ·rw[e1]at e;cases b with
    |false=>cases e
    |true=>
     rcases qAr.1 hr with hr|hr
     ·exact hb e1 r hr
     ·rw[qAK.1 hr];exact ht.aGM e)
  rw[qAm]at this;exact this
theorem strict{ks:List Tm}(h:∀t∈ks,DefR (aj g (fM t) bs) (aj g t bs)):DefR (aj g ((ks.map fM).foldl jE KW) bs) (aN (ks.map fun t=>aj g t bs))∧(aj g ((ks.map fM).foldl jE KW) bs=.ok (aO true)→∀r∈ks.map fun t=>aj g t bs,Big r):=by
 have:=avI ks [] KW (by rw[J3 rfl];exact .yes) h fun _ r hr=>by cases hr
 exact this
theorem auS{q y:Tm}{nm:Str}:∀xs:List Val,(∀a∈xs,DefR (aj g q (⟨nm,a⟩::bs)) (aj g y (⟨nm,a⟩::bs)))→DefR ((fH (aj g q) nm bs xs).thn fun ys=>.ok (aO (ys.all fun y=>y.n==1))) (fH (aj g y) nm bs xs)
 |[],_=>.yes
 |a::xs,h=>by
  have h1:=h a (by simp);have h2:=auS xs fun b hb=>h b (by simp[hb]);unfold fH at h2⊢;rw[qAy,qAy];generalize aj g q (⟨nm,a⟩::bs)=d at h1⊢;generalize aj g y (⟨nm,a⟩::bs)=r at h1⊢;have bo:=h2.bo;rw[Zm,Zm];generalize aN (xs.map fun x=>aj g q (⟨nm,x⟩::bs))=ds at h2 bo⊢;generalize aN (xs.map fun x=>aj g y (⟨nm,x⟩::bs))=rs at h2⊢;cases ds with
  |er e=>
   rcases bo with e1|⟨_,e1⟩
   ·cases e1;cases h1<;>exact .big
   ·cases e1
  |ok ys=>
   have hb:∀b:Bool,((aO b).n==1)=b:=fun b=>by cases b<;>rfl
   cases h1 with
   |big=>exact .big
   |@tbig b=>exact .tbig
   |no=>exact .no
   |yes=>
    simp only[RR.thn,qBC,hb,qAu]at h2⊢;generalize (ys.all fun y=>y.n==1)=c at h2⊢;generalize (RR.ok (aO c):VR)=z at h2⊢;cases h2
    ·exact .big
    ·exact .tbig
    ·exact .yes
    ·exact .no
theorem asa{q:Tm}(h:(q.op==1)=true){nm:Str}:∀xs:List Val,((fH (aj g q) nm bs xs).thn fun ys=>.ok (aO (ys.all fun y=>y.n==1)))=.ok (aO true)
 |[]=>rfl
 |a::xs=>by
  have h2:=asa h (nm:=nm) xs;unfold fH at h2⊢;rw[qAy,J3 h];rw[Zm];generalize aN (xs.map fun x=>aj g q (⟨nm,x⟩::bs))=ds at h2⊢;cases ds with
  |er e=>cases h2
  |ok ys=>exact h2
theorem aG4{x q y:Tm}{nm:Str}{s:Val}(hx:aj g x bs=.ok s)(h:∀a∈s.kids,DefR (aj g q (⟨nm,a⟩::bs)) (aj g y (⟨nm,a⟩::bs))):DefR (aj g (allT nm x q) bs) (fH (aj g y) nm bs s.kids):=by
 have h1:=auS s.kids h;unfold allT;cases hq:q.op==1 with
 |true=>
  rw[asa hq]at h1;show DefR (aj g q bs) _;rw[J3 hq];exact h1
 |false=>
  show DefR (aj g (.mk 8 nm 0 bH [x,q]) bs) _;rw[bG];show DefR ((aj g x bs).thn fun s=>(fH (aj g q) nm bs s.kids).thn fun ys=>nZ 8 s.kids ys) _;rw[hx];exact h1
theorem aHB{x q:Tm}{nm:Str}(hx:aj g x bs=.er 11):Dg (aj g (allT nm x q) bs):=by
 unfold allT;cases hq:q.op==1 with
 |true=>exact .inr ⟨true,J3 hq⟩
 |false=>
  refine .inl ?_;show aj g (.mk 8 nm 0 bH [x,q]) bs=_;rw[bG];show(aj g x bs).thn _=_;rw[hx];rfl
end
end
section
open Go
theorem Big.cn{β:Type}{c:Bool}{a b:RR β}(h:c=true→Big a)(k:c=false→Big b):Big (cond c a b):=by
 cases c
 ·exact k rfl
 ·exact h rfl
theorem Big.ok{β:Type}{v:β}:Big (.ok v):=.inr ⟨_,rfl⟩
theorem Big.int(n:Int):Big (gM n):=Big.cn (fun _=>.inl rfl) fun _=>.ok
theorem Big.bnd(l:List Val):Big (bF l):=Big.cn (fun _=>.inl rfl) fun _=>.ok
theorem Big.thn{β γ:Type}{r:RR β}{f:β→RR γ}(h:Big r)(k:∀v,Big (f v)):Big (r.thn f):=by
 rcases h with rfl|⟨v,rfl⟩
 ·exact .inl rfl
 ·exact k v
theorem Dg.of{β:Type}{r:RR β}{f:β→VR}(h:Big r)(k:∀v,r=.ok v→Dg (f v)):Dg (r.thn f):=by
 rcases h with rfl|⟨v,rfl⟩
 ·exact .inl rfl
 ·exact k v rfl
def vJ(op:Int):Prop:=op=3∨op=7∨10≤op∧op≤15∨21≤op∧op≤24∨op=27∨op=28∨30≤op∧op≤47∨50≤op∧op≤53
theorem aA9(op:Int)(a b:Val):Big (sF op a b):=by
 unfold sF l8
 repeat' first|exact Big.ok|exact .inl rfl|refine Big.cn (fun _=>?_) fun _=>?_
theorem aH5{op:Int}(h:vJ op)(l:List Val):Big (bB op l):=by
 unfold vJ at h;unfold bB CG ai1
 repeat' first|exact Big.ok|exact Big.int _|exact Big.bnd _|exact(aA9 _ _ _).thn Big.bnd|refine Big.cn (fun e=>?_) fun e=>?_
 all_goals(exfalso;simp only[beq_iff_eq,beq_eq_false_iff_ne,decide_eq_true_eq,decide_eq_false_iff_not]at *;omega)
theorem aHh{op:Int}(h:vJ op)(g:Str→Val)(bs:List Bound)(nm:Str)(m:Int)(u:Ty)(ks:List Tm):fM (.mk op nm m u ks)=(ks.map fM).foldl jE KW∧aj g (.mk op nm m u ks) bs=(aN (ks.map fun t=>aj g t bs)).thn (bB op):=by
 have c:∀k:Int,¬vJ k→(op==k)=false:=fun k hk=>by
  cases e:op==k with
  |false=>rfl
  |true=>exact absurd (eq_of_beq e▸h) hk
 rw[fM,bG,Ul];unfold apC apy Za bY;rw[c 1,c 2,c 4,c 5,c 6,c 8,c 9,c 16,c 17,c 18,c 19,c 20,c 25,c 26,c 29,c 48,c 49,c 54,c 55,c 56]
 ·exact⟨rfl,by rw[qBh];rfl⟩
 all_goals(unfold vJ;omega)
section
variable {g:Str→Val}{bs:List Bound}
abbrev TH(g:Str→Val)(bs:List Bound)(t:Tm):Prop:=DefR (aj g (fM t) bs) (aj g t bs)∧(iO t.op=true→DefR (aj g (fM t) bs) (aN (t.kids.map fun k=>aj g k bs)))
theorem st{op:Int}{nm:Str}{m:Int}{u:Ty}{ks:List Tm}(ho:vJ op)(hk:∀t∈ks,TH g bs t):TH g bs (.mk op nm m u ks):=by
 obtain⟨e1,e2⟩:=aHh ho g bs nm m u ks;have h:=(strict fun t ht=>(hk t ht).1).1;unfold TH;rw[e1,e2];exact⟨h.map fun l _=>aH5 ho l,fun _=>h⟩
theorem lf{t:Tm}{op:Int}(e:t.op=op)(h:iO op=false)(k:DefR (aj g (fM t) bs) (aj g t bs)):TH g bs t:=⟨k,fun q=>by rw[e,h]at q;cases q⟩
theorem and_left{p q:Tm}(h:Dg (aj g p bs))(e:aj g (jE p q) bs=.ok (aO true)):aj g p bs=.ok (aO true):=by
 rw[aqO h]at e;rcases h with h|⟨b,h⟩
 ·rw[h]at e;cases e
 ·rw[h]at e⊢;cases b with
  |false=>cases e
  |true=>rfl
theorem aBX{y:Tm}(h:TH g bs y):DefR (aj g (fM y) bs) (vv (nu g y) bs):=by
 unfold vv;cases hs:iO (nu g y).op with
 |true=>
  have:=h.2 hs;unfold nu;rw[qBh];exact this
 |false=>
  show DefR _ (aN [aj g y bs]);rw[Zm];exact h.1.map fun v _=>.ok
theorem c11(y:Tm):aj g (fC 11 [y,CB 0]) bs=(aj g y bs).thn fun v=>.ok (aO !(eD v (iY 0))):=by
 rw[fC,bG];show(aN [aj g y bs,.ok (iY 0)]).thn (bB 11)=_;cases aj g y bs<;>rfl
theorem c13(x:Tm):aj g (fC 13 [CB 0,x]) bs=(aj g x bs).thn fun v=>.ok (aO (decide (0≤v.n))):=by
 rw[fC,bG];show(aN [.ok (iY 0),aj g x bs]).thn (bB 13)=_;cases aj g x bs<;>rfl
theorem c12(y:Tm):aj g (fC 12 [CB 0,y]) bs=(aj g y bs).thn fun v=>.ok (aO (decide (0<v.n))):=by
 rw[fC,bG];show(aN [.ok (iY 0),aj g y bs]).thn (bB 12)=_;cases aj g y bs<;>rfl
theorem c47(x:Tm):aj g (fC 47 [x]) bs=(aj g x bs).thn fun v=>gM v.kids.length:=by
 rw[fC,bG];show(aN [aj g x bs]).thn (bB 47)=_;cases aj g x bs<;>rfl
theorem ap3{β γ:Type}(v:β)(f:β→RR γ):(RR.ok v).thn f=f v:=rfl
theorem c54(x y:Tm):aj g (fC 10 [fC 47 [fC 53 [x,fC 28 [y]]],CB 1]) bs=(aj g x bs).thn fun a=>(aj g y bs).thn fun b=>(bF [b]).thn fun c=>(bF (bC (a.kids.filter fun p=>aF c.kids (aJ p)))).thn fun s=>(gM s.kids.length).thn fun k=>.ok (aO (eD k (iY 1))):=by
 rw[fC,bG];show(aN [aj g (fC 47 [fC 53 [x,fC 28 [y]]]) bs,.ok (iY 1)]).thn (bB 10)=_;rw[c47];rw[show aj g (fC 53 [x,fC 28 [y]]) bs=(aN [aj g x bs,aj g (fC 28 [y]) bs]).thn (bB 53) by rw[fC,bG];rfl];rw[show aj g (fC 28 [y]) bs=(aN [aj g y bs]).thn bF by rw[fC,bG];rfl];cases aj g x bs with
 |er e=>rfl
 |ok a=>
  cases aj g y bs with
  |er e=>rfl
  |ok b=>
   rw[show(aN [(RR.ok b:VR)]).thn bF=bF [b]from rfl];simp only[ap3];cases bF [b]with
   |er e=>rfl
   |ok c=>
    rw[show(aN [.ok a,.ok c]).thn (bB 53)=bF (bC (a.kids.filter fun p=>aF c.kids (aJ p)))from rfl];simp only[ap3];cases bF (bC (a.kids.filter fun p=>aF c.kids (aJ p)))with
    |er e=>rfl
    |ok s=>
     simp only[ap3];cases gM s.kids.length<;>rfl
theorem aFE{l:List Val}(h:l.length=1){a b:Val}(ha:a∈l)(hb:b∈l):a=b:=by
 match l,h with
 |[c],_=>rw[qAK.1 ha,qAK.1 hb]
theorem aHg{a b:Val}(hs:dO a.kids)(hp:∀p∈a.kids,∃x y,p=aG x y):DefR ((bF [b]).thn fun c=>(bF (bC (a.kids.filter fun p=>aF c.kids (aJ p)))).thn fun s=>(gM s.kids.length).thn fun k=>.ok (aO (eD k (iY 1)))) (LV a b):=by
 have e1:bF [b]=.ok (gH [b]):=by
  have:=eP [b];unfold bF;rw[decide_eq_false (by simp at this;omega)];rfl
 have e2:(a.kids.filter fun p=>aF (gH [b]).kids (aJ p))=a.kids.filter fun p=>eD (aJ p) b:=by
  congr 1;funext p;rw[qCe,zo];show(sortV [b]).any _=true↔_;rw[qCB];constructor
  ·rintro⟨z,h1,h2⟩;have h1:=(aV _ _).1 h1;rw[←(zo _ _).1 h2,qAK.1 h1]
  ·rintro rfl;exact⟨_,(aV _ _).2 (qAK.2 rfl),(zo _ _).2 rfl⟩
 rw[e1];show DefR ((bF (bC (a.kids.filter fun p=>aF (gH [b]).kids (aJ p)))).thn _) _;rw[e2];have hq:∀p∈a.kids.filter (fun p=>eD (aJ p) b),p=aG b (aQ p):=fun p h=>by
  obtain⟨h1,h2⟩:=qBa.1 h;obtain⟨x,y,rfl⟩:=hp p h1;rw[show x=b from(zo _ _).1 h2];rfl
 have hd:(a.kids.filter fun p=>eD (aJ p) b).Pairwise iA:=hs.1.filter _;unfold LV;generalize (a.kids.filter fun p=>eD (aJ p) b)=q at hq hd;rcases Big.bnd (bC q)with e|⟨s,e⟩
 ·rw[e];exact .big
 ·rw[e];show DefR ((gM s.kids.length).thn _) _;have hm:∀z,z∈s.kids↔∃p∈q,aQ p=z:=fun z=>by
   rw[(Br e).1];show z∈sortV (bC q)↔_;rw[aV];unfold bC;rw[aV,qAJ]
  have hl:s.kids.length≤q.length:=by
   rw[(Br e).1];have h1:=eP (bC q);have h2:=eP (q.map aQ);unfold bC at h1;show(sortV (sortV (q.map aQ))).length≤_;simp at h2;omega
  rcases Big.int s.kids.length with e2|⟨k,e2⟩
  ·rw[e2];exact .big
  ·rw[e2,(aq8 e2).1];show DefR (.ok (aO (eD (iY s.kids.length) (iY 1)))) _;have no:s.kids.length≠1→eD (iY s.kids.length) (iY 1)=false:=fun h=>by
    rw[qDi];intro h2;have:=(zo _ _).1 h2;unfold iY at this;simp at this;omega
   match q,hq,hd,hm,hl with
   |[],_,_,_,hl=>
    rw[no (by simp at hl;simp[hl])];exact .no
   |[p],_,_,hm,hl=>
    have h1:0<s.kids.length:=List.length_pos_of_mem ((hm (aQ p)).2 ⟨p,by simp,rfl⟩);have:s.kids.length=1:=by simp at hl;omega
    rw[this];exact .yes
   |p::r::t,hq,hd,hm,_=>
    rw[no]
    ·exact .no
    ·intro h1;have e3:=aFE h1 ((hm (aQ p)).2 ⟨p,by simp,rfl⟩) ((hm (aQ r)).2 ⟨r,by simp,rfl⟩);have e4:p=r:=by rw[hq p (by simp),hq r (by simp),e3]
     have:=(qBn.1 hd).1 r (by simp);subst e4;unfold iA at this;rw[(gF _ _).2 rfl]at this;omega
end
end
section
open Go
theorem auQ{r s:VR}{l:List Val}(h:aN [r,s]=.ok l):∃a b,r=.ok a∧s=.ok b∧l=[a,b]:=by
 obtain⟨a,b,h1,h2,h3⟩:=seq2 (f:=fun l=>.ok (mkSet l)) (v:=mkSet l) (by rw[h];rfl);refine⟨a,b,h1,h2,?_⟩;cases h3;rfl
theorem all2{P:Tm→Prop}{x y:Tm}(h:P x)(k:P y):∀t∈[x,y],P t:=fun t ht=>by
 rcases qAh.1 ht with rfl|ht
 ·exact h
 ·rw[qAK.1 ht];exact k
theorem dfn{env:Env}{sz:List Int}{g:Str→Val}(hg:Xp env sz g):∀t:Tm,∀(sc:List Decl) (ty:Ty) (bs:List Bound),HT env sc t ty→Scp env sz sc bs→TH g bs t:=
 Tm.ind fun op nm m u ks ih sc ty bs ht hs=>by
 have two:∀{x y:Tm} {a b:Ty},ks=[x,y]→HT env sc x a→HT env sc y b→TH g bs x∧TH g bs y:=fun e h k=>⟨ih _ (by simp[e]) sc _ bs h hs,ih _ (by simp[e]) sc _ bs k hs⟩;have S2:∀{x y:Tm} {op:Int} {a b:Ty},vJ op→ks=[x,y]→HT env sc x a→HT env sc y b→TH g bs (.mk op nm m u ks):=fun ho e h k=>by
  obtain⟨h1,h2⟩:=two e h k;exact st ho (by rw[e];exact all2 h1 h2)
 have S1:∀{x:Tm} {op:Int} {a:Ty},vJ op→ks=[x]→HT env sc x a→TH g bs (.mk op nm m u ks):=fun ho e h=>st ho (by rw[e];exact fun t ht=>qAK.1 ht▸ih _ (by simp[e]) sc _ bs h hs);have B:∀{x y:Tm} {e:Ty} {op:Int},bY op=true→iO op=false→ks=[x,y]→HT env sc x (au e)→(∀a,hasB env sz e a=true→TH g (⟨nm,a⟩::bs) y)→fM (.mk op nm m u ks)=jE (fM x) (allT nm x (fM y))→aj g (.mk op nm m u ks) bs=((aj g x bs).thn fun s=>(fH (aj g y) nm bs s.kids).thn fun ys=>nZ op s.kids ys)→TH g bs (.mk op nm m u ks):=fun hb hs' e h k d q=>by
  refine lf rfl hs' ?_;rw[d,q];refine(ih _ (by simp[e]) sc _ bs h hs).1.and (fun _ e=>aHB e) fun s e1=>?_;obtain⟨l,rfl,_,hl⟩:=iV.1 (sound hg _ sc _ bs s h hs e1);refine(aG4 e1 fun a ha=>(k a (hl a ha)).1).map fun ys _=>?_;unfold nZ;exact Big.cn (fun _=>.ok) fun _=>Big.cn (fun _=>.ok) fun _=>Big.bnd _
 have I:∀{x y:Tm} {a b:Ty} {op:Int},op=16∨op=17∨op=18→ks=[x,y]→HT env sc x a→HT env sc y b→TH g bs (.mk op nm m u ks):=fun{x y a b op} ho e h k=>by
  obtain⟨h1,h2⟩:=two e h k;subst e;have e1:fM (.mk op nm m u [x,y])=jE (fM x) (fM y):=by rcases ho with rfl|rfl|rfl<;>rfl
  have e2:aj g (.mk op nm m u [x,y]) bs=(aj g x bs).thn (X9 op (nu g y) bs):=by rw[bG];rcases ho with rfl|rfl|rfl<;>rfl
  refine lf rfl (by rcases ho with rfl|rfl|rfl<;>rfl) ?_
  rw[e1,e2];exact h1.1.and (fun _ _=>h2.1.bo) fun v _=>(aBX h2).map fun l _=>.ok
 have L:∀{op:Int},ks=[]→iO op=false→fM (.mk op nm m u ks)=KW→Big (aj g (.mk op nm m u ks) bs)→TH g bs (.mk op nm m u ks):=fun e h d b=>lf rfl h (by rw[d,J3 rfl];exact b.dr);have hd:=strict (bs:=bs) (g:=g) (ks:=ks);cases ht with
 |lit op ho=>rcases ho with rfl|rfl<;>exact L rfl rfl rfl (by rw[bG];exact .ok)
 |int _=>exact L rfl rfl rfl (by rw[bG];exact Big.int m)
 |name _=>exact L rfl rfl rfl (by rw[bG];exact .ok)
 |empty _=>exact L rfl rfl rfl (by rw[bG];exact .ok)
 |not h=>exact S1 (by unfold vJ;omega) rfl h
 |log op ho h k=>
  rename_i x y;by_cases h7:op=7
  ·exact S2 (by unfold vJ;omega) rfl h k
  obtain⟨h1,h2⟩:=two rfl h k;have ho:op=4∨op=5∨op=6:=by omega
  have e2:aj g (.mk op nm m u [x,y]) bs=U4 op (aj g x bs) (aj g y bs):=by rw[bG];rcases ho with rfl|rfl|rfl<;>rfl
  refine lf rfl (by rcases ho with rfl|rfl|rfl<;>rfl) ?_
  rw[e2];rcases ho with rfl|rfl|rfl
  ·show DefR (aj g (jE (fM x) (Ou 6 x (fM y))) bs) _;refine h1.1.and (fun _ e=>aqX (.inr rfl) e) fun v e=>?_;rw[asL (.inr rfl) e];show DefR (cond (!(v.n==1)) (.ok (aO true)) _) (cond (!(v.n==1)) (.ok (aO false)) _);cases v.n==1
   ·exact .yes
   ·exact h2.1
  ·show DefR (aj g (jE (fM x) (Ou 5 x (fM y))) bs) _;refine h1.1.and (fun _ e=>aqX (.inl rfl) e) fun v e=>?_;rw[asL (.inl rfl) e];show DefR (cond (v.n==1 ||false) (.ok (aO true)) _) (cond (v.n==1 ||false) (.ok (aO true)) _)
   cases v.n==1
   ·exact h2.1
   ·exact .yes
  ·show DefR (aj g (jE (fM x) (Ou 6 x (fM y))) bs) _;refine h1.1.and (fun _ e=>aqX (.inr rfl) e) fun v e=>?_;rw[asL (.inr rfl) e];show DefR (cond (!(v.n==1)) (.ok (aO true)) _) (cond (!(v.n==1)) (.ok (aO true)) _);cases v.n==1
   ·exact .yes
   ·exact h2.1
 |qu op ho h k=>
  rename_i x y e;exact B (by rcases ho with rfl|rfl<;>rfl) (by rcases ho with rfl|rfl<;>rfl) rfl h (fun a ha=>ih y (by simp) _ _ _ k (.cons ha hs)) (by rcases ho with rfl|rfl<;>rfl) (by rw[bG];rcases ho with rfl|rfl<;>rfl)
 |compr h k=>exact B rfl rfl rfl h (fun a ha=>ih _ (by simp) _ _ _ k (.cons ha hs)) rfl (by rw[bG];rfl)
 |fn _ h k=>exact B rfl rfl rfl h (fun a ha=>ih _ (by simp) _ _ _ k (.cons ha hs)) rfl (by rw[bG];rfl)
 |eq op ho _ h k=>exact S2 (by unfold vJ;omega) rfl h k
 |ord op ho h k=>exact S2 (by unfold vJ;omega) rfl h k
 |inn op ho h k=>exact I (by omega) rfl h k
 |sub h k=>exact I (.inr (.inr rfl)) rfl h k
 |neg h=>exact S1 (by unfold vJ;omega) rfl h
 |num op ho h k=>
  rename_i x y;by_cases h24:op≤24
  ·exact S2 (by unfold vJ;omega) rfl h k
  obtain⟨h1,h2⟩:=two rfl h k;obtain⟨d1,d2⟩:=hd (by simp[h1.1,h2.1]);have vi:∀l,aN [aj g x bs,aj g y bs]=.ok l→∃i j,aj g x bs=.ok (iY i)∧aj g y bs=.ok (iY j)∧l=[iY i,iY j]:=fun l e=>by
   obtain⟨a,b,e1,e2,e3⟩:=auQ e;obtain⟨i,rfl,_⟩:=sG.1 (sound hg _ sc _ bs a h hs e1);obtain⟨j,rfl,_⟩:=sG.1 (sound hg _ sc _ bs b k hs e2);exact⟨i,j,e1,e2,e3⟩
  have ho:op=25∨op=26:=by omega
  rcases ho with rfl|rfl
  ·refine lf rfl rfl ?_;rw[bG];show DefR (aj g (jE (([x,y].map fM).foldl jE KW) (fC 11 [y,CB 0])) bs) ((aN ([x,y].map fun t=>aj g t bs)).thn (bB 25));refine d1.and (fun e _=>by rw[c11];exact Dg.of (d2 e _ (by simp)) fun v _=>.inr ⟨_,rfl⟩) fun l e=>?_;obtain⟨i,j,_,e2,rfl⟩:=vi l e;rw[c11,e2];show DefR (.ok (aO !(eD (iY j) (iY 0)))) (cond (j==0) (.er 10) (gM (Int.tdiv i j)));cases hj:j==0 with
   |true=>
    rw[eq_of_beq hj];exact .no
   |false=>
    have:eD (iY j) (iY 0)=false:=by
     rw[qDi];intro h2;have:=(zo _ _).1 h2;unfold iY at this;simp at this;simp[this]at hj
    rw[this];exact(Big.int _).dr
  ·refine lf rfl rfl ?_;rw[bG];have f1:DefR (aj g (jE (([x,y].map fM).foldl jE KW) (fC 13 [CB 0,x])) bs) ((aN ([x,y].map fun t=>aj g t bs)).thn fun l=>cond (decide ((l.headD v0).n<0)) (.er 10) (.ok l)):=by
    refine d1.and (fun e _=>by rw[c13];exact Dg.of (d2 e _ (by simp)) fun v _=>.inr ⟨_,rfl⟩) fun l e=>?_;obtain⟨i,j,e1,_,rfl⟩:=vi l e;rw[c13,e1];show DefR (.ok (aO (decide (0≤i)))) (cond (decide (i<0)) _ _);by_cases hi:i<0
    ·rw[decide_eq_true hi,decide_eq_false (by omega)];exact .no
    ·rw[decide_eq_false hi,decide_eq_true (by omega)];exact .yes
   show DefR (aj g (jE (jE (([x,y].map fM).foldl jE KW) (fC 13 [CB 0,x])) (fC 12 [CB 0,y])) bs) ((aN ([x,y].map fun t=>aj g t bs)).thn (bB 26));have f2:(aN ([x,y].map fun t=>aj g t bs)).thn (bB 26)=((aN ([x,y].map fun t=>aj g t bs)).thn fun l=>cond (decide ((l.headD v0).n<0)) (.er 10) (.ok l)).thn fun l=>cond (decide (((l.drop 1).headD v0).n<1)) (.er 10) (gM (Int.tmod (l.headD v0).n ((l.drop 1).headD v0).n)):=by
    cases aN ([x,y].map fun t=>aj g t bs)with
    |er e=>rfl
    |ok l=>
     show cond (decide ((l.headD v0).n<0) ||decide (((l.drop 1).headD v0).n<1)) _ _=RR.thn (cond (decide ((l.headD v0).n<0)) _ _) _
     cases decide ((l.headD v0).n<0)<;>rfl
   rw[f2];refine f1.and (fun e _=>by rw[c12];exact Dg.of (d2 (and_left d1.bo e) _ (by simp)) fun v _=>.inr ⟨_,rfl⟩) fun l e=>?_;obtain⟨l',e3,e4⟩:=then_ok e;obtain⟨i,j,_,e2,rfl⟩:=vi l' e3;have e5:l=[iY i,iY j]:=by
    revert e4
    show cond (decide (i<0)) _ _=_→_;cases decide (i<0)with
    |true=>intro e;cases e
    |false=>intro e;cases e;rfl
   rw[c12,e2,e5];show DefR (.ok (aO (decide (0<j)))) (cond (decide (j<1)) _ _);by_cases hi:j<1
   ·rw[decide_eq_true hi,decide_eq_false (by omega)];exact .no
   ·rw[decide_eq_false hi,decide_eq_true (by omega)];exact(Big.int _).dr
 |pair _ _ h k=>exact S2 (by unfold vJ;omega) rfl h k
 |set _ _ h=>exact st (by unfold vJ;omega) fun t ht=>ih t ht sc _ bs (h t ht) hs
 |range h k=>exact S2 (by unfold vJ;omega) rfl h k
 |bin op ho h k=>exact S2 (by unfold vJ;omega) rfl h k
 |prod h k=>exact S2 (by unfold vJ;omega) rfl h k
 |over h k=>exact S2 (by unfold vJ;omega) rfl h k
 |comp h k=>exact S2 (by unfold vJ;omega) rfl h k
 |dres op ho h k=>exact S2 (by unfold vJ;omega) rfl h k
 |rres op ho h k=>exact S2 (by unfold vJ;omega) rfl h k
 |fam op ho h k=>exact S2 (by unfold vJ;omega) rfl h k
 |pow h=>exact S1 (by unfold vJ;omega) rfl h
 |card h=>exact S1 (by unfold vJ;omega) rfl h
 |ext op ho h=>
  rename_i x;have h1:=ih x (by simp) sc _ bs h hs;refine lf rfl (by rcases ho with rfl|rfl<;>rfl) ?_
  have e1:fM (.mk op nm m u [x])=jE (fM x) (fC 12 [CB 0,fC 47 [x]]):=by rcases ho with rfl|rfl<;>rfl
  have e2:aj g (.mk op nm m u [x]) bs=(aj g x bs).thn fun a=>bB op [a]:=by
   rw[bG];rcases ho with rfl|rfl<;>(show(aN [aj g x bs]).thn _=_;cases aj g x bs<;>rfl)
  rw[e1,e2];refine h1.1.and (fun _ e=>by rw[c12,c47,e];exact .inl rfl) fun v e=>?_;obtain⟨l,rfl,hl,_⟩:=iV.1 (sound hg _ sc _ bs v h hs e);rw[c12,c47,e];show DefR ((gM l.length).thn fun v=>.ok (aO (decide (0<v.n)))) _;rcases Big.int l.length with e2|⟨k,e2⟩
  ·rw[e2];exact .big
  ·rw[e2,(aq8 e2).1];show DefR (.ok (aO (decide (0<(l.length:Int))))) _;cases l with
   |nil=>rcases ho with rfl|rfl<;>exact .no
   |cons a l=>
    rw[decide_eq_true (by simp)];rcases ho with rfl|rfl
    ·exact .yes
    ·show DefR _ (match(a::l).getLast? with|none=>.er 10|some x=>.ok x)
     rw[List.getLast?_eq_some_getLast (by simp)];exact .yes
 |dom h=>exact S1 (by unfold vJ;omega) rfl h
 |ran h=>exact S1 (by unfold vJ;omega) rfl h
 |inv h=>exact S1 (by unfold vJ;omega) rfl h
 |image h k=>exact S2 (by unfold vJ;omega) rfl h k
 |app h k=>
  rename_i x y s;obtain⟨h1,h2⟩:=two rfl h k;obtain⟨d1,d2⟩:=hd (by simp[h1.1,h2.1]);refine lf rfl rfl ?_;rw[bG];show DefR (aj g (jE (([x,y].map fM).foldl jE KW) (fC 10 [fC 47 [fC 53 [x,fC 28 [y]]],CB 1])) bs) ((aN ([x,y].map fun t=>aj g t bs)).thn (bB 54));refine d1.and (fun e f=>?_) fun l e=>?_
  ·rw[c54];refine Dg.of (d2 e _ (by simp)) fun a e1=>Dg.of (d2 e _ (by simp)) fun b e2=>?_;exfalso
   revert f
   show aN [aj g x bs,aj g y bs]=_→_;rw[e1,e2];intro f;cases f
  ·obtain⟨a,b,e1,e2,rfl⟩:=auQ (r:=aj g x bs) (s:=aj g y bs) e;obtain⟨l,rfl,hl,hm⟩:=iV.1 (sound hg _ sc _ bs a h hs e1);rw[c54,e1,e2];exact aHg hl fun p hp=>by
    obtain⟨x,y,h,_⟩:=qJ.1 (hm p hp);exact⟨x,y,h⟩
mutual
theorem aHM{env:Env}:∀(t:Tm) (sc:List Decl) (e:Int) (p:List Int),bX env sc t=.er e p→e≠10
 | .mk op nm m u ks,sc,e,p,h=>by
  have ih:=fun e p=>aDH (env:=env) ks sc (bY op) nm 0 e p;rw[bX]at h;unfold rJ at h
  grind
theorem aDH{env:Env}:∀(ts:List Tm) (sc:List Decl) (b:Bool) (nm:Str) (i:Int) (e:Int) (p:List Int),bV env sc b nm i ts=.er e p→e≠10
 |[],sc,b,nm,i,e,p,h=>by simp only[bV]at h;cases h
 |t::ts,sc,b,nm,i,e,p,h=>by
  have h1:=fun e p=>aHM (env:=env) t sc e p;have h2:=fun sc e p=>aDH (env:=env) ts sc false nm (i+1) e p;simp only[bV]at h
  grind
end
theorem ayJ(env:Env)(t:Tm):l6 env t≠10:=by
 have:=fun e p=>aHM (env:=env) t [] e p;unfold l6 bT YQ
 grind
theorem aiM(w:S_api_World)(t:Tm)(hs:FQ w.env)(h1:iN t):Ev (fun n=>KU n w t) true:=by
 obtain⟨b1,hb1⟩:=Q7 w.env;unfold KU;refine Ev.bind hb1 ?_;cases b1 with
 |false=>exact nL
 |true=>
  refine Ev.bind (aoR w.env t) ?_;obtain⟨b2,hb2⟩:=Dq t;obtain⟨b3,hb3⟩:=Dq (Yi w.env t).1;refine Ev.bind (a:=(Yi w.env t).2 !=0 ||(!b2 ||!b3)) ?_ ?_
  ·cases(Yi w.env t).2 !=0 with
   |true=>exact Ev.ret _
   |false=>
    refine Ev.bind hb2 ?_;cases b2 with
    |false=>exact Ev.ret _
    |true=>exact Ev.bind hb3 (Ev.ret _)
  cases hq:((Yi w.env t).2 !=0 ||(!b2 ||!b3))with
  |true=>exact nL
  |false=>
   have h0:(Yi w.env t).2=0:=by
    simp only[qBL,bne_eq_false_iff_eq]at hq;exact hq.1
   have hd:((bT w.env t).2.2 !=0)=false∧cO (fM t)=true∧(Yi w.env t).1=fM t:=by
    unfold Yi at h0⊢
    grind
   obtain⟨hy,hm,e⟩:=hd;rw[e];obtain⟨_,hv,ty,hty,_⟩:=am7 hy;refine Ev.bind (H7 w t hs h1) (Ev.bind (G8 w _ hs (aFG t h1)) ?_);have key:(fZ w (fM t)).2≠10∧((ig w t).2=11∨(fZ w (fM t)).2≠0∨((ig w t).2≠0∧(ig w t).2≠10)∨(fZ w (fM t)).1=((ig w t).2==0)):=by
    unfold ig fZ;rw[hv,hm,hy];cases hw:gW w with
    |false=>simp
    |true=>
     obtain⟨_,_,_,ht,_⟩:=Dt hw hv (by simpa using hy);have d:=(dfn (DZ hw) t _ _ [] ht .nil).1;unfold l9;simp only[qCz,cond_true,cond_false];cases hpe:(l6 w.env (fM t)!=0)with
     |true=>exact⟨ayJ _ _,.inr (.inl (by simpa using hpe))⟩
     |false=>
      revert d
      generalize aj (aI w) (fM t) []=d;generalize aj (aI w) t []=r;intro d;cases d with
      |big=>simp
      |tbig=>simp
      |yes=>simp[aO,Val.n]
      |no=>simp[aO,Val.n]
   generalize ig w t=x at key⊢;generalize fZ w (fM t)=y at key⊢;obtain⟨_,k1⟩:=x;obtain⟨c,k2⟩:=y;obtain⟨q1,q2⟩:=key;show Ev (fun n=>cond (k2==10) (some false) (Option.bind (cond (k1==11) (some true) (cond (k2 !=0) (some true) (cond (k1 !=0) (some (k1 !=10)) (some false)))) _)) true;rw[show(k2==10)=false by simpa using q1];refine Ev.bind (a:=k1==11 ||(k2 !=0 ||(k1 !=0&&k1 !=10))) (Ev.of fun n=>?_) ?_
   ·cases k1==11<;>cases k2 !=0<;>cases k1 !=0<;>rfl
   cases hz:(k1==11 ||(k2 !=0 ||(k1 !=0&&k1 !=10)))with
   |true=>exact nL
   |false=>
    have:(c==(k1==0))=true:=by grind
    show Ev (fun n=>Option.bind (cond (c==(k1==0)) _ _) _) true;rw[this];exact Ev.bind nL (Ev.ret _)
end
end Abs
end Go.Proofs.YtneeginmfjageaaGreat
