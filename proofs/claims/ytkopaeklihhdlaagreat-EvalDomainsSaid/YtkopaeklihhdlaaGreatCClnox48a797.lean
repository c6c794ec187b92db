/-
  slices.Clone of values, its result a block of its own. Conditions: none.
-/
import Derived.KernelRfl
import Derived.Shelf.SlGeneric
import Derived.Shelf.SlSortCmp.WholeK
import Derived.Test.YtkopaeklihhdlaaGreatProg
import Derived.Shelf.SlSortCmp.NoneTotal
import Derived.RangeFuncIn
import Derived.RangeFuncOwn
import Derived.RangeFuncLeaves
import Derived.Defers
import Derived.Recover
import Derived.Test.YtkopaeklihhdlaaGreatCCmpox470256
import Derived.Test.YtkopaeklihhdlaaGreatCE6oxda51da
set_option linter.all false
namespace Go.Proofs.YtkopaeklihhdlaaGreat
namespace Abs
section
open Go Go.Proofs
theorem an4:aZ Tryz.prog 107=true:=by kernel_rfl
set_option maxRecDepth 100000 in
theorem AP(b8:Nat)(p0 r:List Val)(h:app b8 ([]:List Val) p0=some r)(hb8:b8=56):ak Tryz.prog 107 [.slice (List.map ah p0) .shared] [] (.psl 0 4 p0.length) [.arr 4 (List.map ah p0)]:=by
 subst hb8;refine aA true Tryz.func107 rfl (by rw[Tryz.ntmps107];exact qAa rfl) fun Q hQ t ht=>?_
 conv at ht=>whnf
 subst ht;have hr:r=p0:=by unfold app at h;split at h<;>simp at h;exact h.symm
 subst hr;refine AW.jN fun K1 hK1=>?_;refine AW.region aL jF 0 ?_
 conv=>whnf
 refine hK1 _ _ ?_;refine AW.jN fun K2 hK2=>?_;refine AW.jN fun K3 hK3=>?_;refine AW.IQ (x:=0) (y:=3) (d:=4) (T:=27) (e:=31) (es:=List.map ah r) (tag:=.shared) rfl rfl rfl rfl rfl rfl (by kernel_rfl) rfl (qAa rfl) fun b hb=>?_
 conv=>whnf
 refine hK3 _ _ ?_;refine AW.cond (b:=b) rfl (fun e1=>?_) (fun e1=>?_)
 ·have hp:r=[]:=by simpa using hb e1
  subst hp;refine AW.jN fun K4 hK4=>?_;refine AW.region aL jF 0 ?_
  conv=>whnf
  refine hK4 _ _ ?_;refine AW.ret ?_
  conv=>whnf
  refine hQ _ _ _ (jf (u2 (.psl 0 4 (List.length ([]:List Val))::(u4 (.unk::[])))) [.arr 4 (List.map ah ([]:List Val))] (wk [none] (.u2 (.cons (.nilP _ _) (.u4 (.u .nil)))) (.w rfl .nil) rfl) (dI aL [0] rfl (.cons (congrArg (AObj.arr _) (aH _ _)) .nil) ?_))
  conv=>whnf
  try rfl
 ·refine AW.skip ?_
  conv=>whnf
  refine hK2 _ _ ?_;refine AW.jN fun K4 hK4=>?_;refine AW.agW aL jF 2 ?_
  conv=>whnf
  refine Kt (l:=([]:List Val)) (l':=([]:List Val)) (ys:=r) (f:=ah) h (gK _) kH ?_
  conv=>whnf
  refine hK4 _ _ ?_;refine AW.ret ?_
  conv=>whnf
  refine hQ _ _ _ (.inl (dI aL [1] rfl (.cons (congrArg (AObj.arr _) (aH _ _)) .nil) ?_))
  conv=>whnf
  try rfl
theorem aiM:aZ Tryz.prog 70=true:=by kernel_rfl
theorem zP(ad:Option Addr)(len cap:Nat)(hc:len≤cap)(hl:len≤140737488355328)(W:World):Calls Tryz.prog 70 #[.slice ad len cap] W fun e W'=>e=.returned (.slice ad len len)∧W'=W:=by
 go_enter Tryz.func70,Tryz.ntmps70
 go_wp2
 go_ret
 exact⟨rfl,rfl⟩
end
section
open Go Go.Proofs Go.Shelf Go.RowKit Go.Lib Go.Sort
def CV(w:World)(pv:bB):Type:={x:List Value×Val//x.1.length=4∧(∀v∈x.1,v.oneCell'=true)∧∀j,j<4→Rel w [] pv ((ah x.2).getD j .unk) (x.1.getD j undef)}
theorem an2(w:World)(pv:bB):∀j,j<4→Rel w [] pv ((ah (.mk 0 0 [] [])).getD j .unk) (z31.getD j undef):=by
 intro j hj
 match j,hj with
 |0,_=>exact .int (by refine⟨?_,?_⟩<;>decide)
 |1,_=>exact .int (by refine⟨?_,?_⟩<;>decide)
 |2,_=>exact .str (s:=[]) (by simp)
 |3,_=>
  have:=Rel.slice (w:=w) (κ:=[]) (pv:=pv) (es:=[]) (tag:=.shared) (a:=none) (cap:=0) 0 0 1 (fun _ _=>undef) (fun i h=>by cases h) (fun h=>(h rfl).elim) (qAc _) (by simp) (fun i j h=>by cases h) (fun i j h=>by cases h) (fun i j h=>by cases h) trivial;simpa[ah,BG]using this
instance (w:World) (pv:bB):Inhabited (CV w pv):=⟨⟨(z31,.mk 0 0 [] []),rfl,by simp[Value.oneCell'],an2 w pv⟩⟩
def oO{w:World}{pv:bB}(x:CV w pv):List Value:=x.1.1
def ni{w:World}{pv:bB}(x:CV w pv):Val:=x.1.2
abbrev CG{w:World}{pv:bB}(x y:CV w pv):Int:=dJ (ni x) (ni y)
section
variable {w1:World}{pv1:bB}
theorem IB(x:CV w1 pv1):(oO x).length=4:=x.2.1
theorem ad4(x:CV w1 pv1):∀v∈oO x,v.oneCell'=true:=x.2.2.1
theorem ado(x:CV w1 pv1):∀j,j<4→Rel w1 [] pv1 ((ah (ni x)).getD j .unk) ((oO x).getD j undef):=x.2.2.2
theorem arT:SWO (ltOf (CG (w:=w1) (pv:=pv1))) where
 irrefl x:=decide_eq_false (by have:=(nK (ni x) (ni x)).2 rfl;simp only[CG];omega)
 trans x y z h1 h2:=by
  simp only[ltOf,decide_eq_true_eq]at *;exact D9 _ _ _ h1 h2
 ntrans x y z h1 h2:=by
  simp only[ltOf,decide_eq_false_iff_not]at *;have a:=Z8 (ni z) (ni y) (ni x) (by simp only[Jf,decide_eq_true_eq];rw[oL (ni y)];simp only[CG]at h2;omega) (by simp only[Jf,decide_eq_true_eq];rw[oL (ni x)];simp only[CG]at h1;omega);simp only[Jf,decide_eq_true_eq]at a;rw[oL (ni x)]at a;simp only[CG];omega
variable {b:Nat}{dk:Array (CV w1 pv1)}{W:World}
theorem SWK.other(h:SWK oO 4 w1 b 0 dk W){c:Nat}(hc:c≠b)(hl:c<w1.heap.size):W.heap[c]? =w1.heap[c]?:=by
 obtain⟨n,os,rfl⟩:=h;unfold sortWorldK;rw[heap_grow_old _ _ (by rw[size_putRowK];exact hl)];show(w1.heap.modify b _)[c]? =_;rw[qBq,if_neg (by omega)]
theorem SWK.iH(h:SWK oO 4 w1 b 0 dk W)(hb:∀o,pv1 b o):Evo pv1 w1 W:=by
 refine⟨h.le,fun c off u hn hc=>?_,fun c d e z hx=>?_⟩
 ·have hne:c≠b:=fun e=>hn (e▸hb off);have hl:=lt_of_cell hc;simp only[World.cell?,SWK.other h hne hl]at hc⊢;exact hc
 ·by_cases hne:c=b
  ·subst hne;obtain⟨n,os,rfl⟩:=h;have hl:c<w1.heap.size:=(qAI.1 hx).1;unfold sortWorldK;rw[heap_grow_old _ _ (by rw[size_putRowK];exact hl)];refine⟨putCells id 0 (flatK oO 4 dk) d,?_,by simp[putCells]⟩;show(w1.heap.modify c _)[c]? =_;rw[qBq,if_pos rfl,hx];rfl
  ·exact⟨d,by rw[SWK.other h hne (qAI.1 hx).1];exact hx,rfl⟩
theorem ZN(h:SWK oO 4 w1 b 0 dk W)(hb:∀o,pv1 b o)(hpv:∀c o,pv1 c o→c<w1.heap.size)(x y:CV w1 pv1):
  Calls Tryz.prog 23 #[.agg (oO x).toArray,.agg (oO y).toArray] W fun e w'=>e=.returned (.int .i64 (CG x y))∧∃q os',w'=grow (W.drewN q) os':=by
 obtain⟨N,hN⟩:=uD (ni x) (ni y);have hA:=mE N _ _ _ (hN N (qAc _));have hevo:=SWK.iH h hb;have key:∀z:CV w1 pv1,Rel W [] pv1 (.agg [.int .i64 (ni z).kind,.int .i64 (ni z).n,.str (ni z).name,.slice (List.map ah (ni z).kids) .shared]) (.agg (oO z).toArray):=fun z=>by
  refine .agg (by rw[IB];rfl) fun j hj=>?_;have:=(ado z j hj).mono hevo (bV.refl _) (fun _ _ h _=>h);rwa[aS]at this
 refine quiet_of hA W pv1 (fun c o hc=>qAq (hpv c o hc) hevo.size) [.agg (oO x).toArray,.agg (oO y).toArray] rfl (fun j hj=>?_) (.int .i64 (CG x y)) (fun w' κ pv v hv=>by cases hv;rfl)
 match j,hj with
 |0,_=>exact key x
 |1,_=>exact key y
theorem ak2(hb:∀o,pv1 b o)(hpv:∀c o,pv1 c o→c<w1.heap.size)(size:Nat):CmpLays Tryz.prog 23 #[] (oO (w:=w1) (pv:=pv1)) 4 CG b 0 size w1:=by
 intro m os dk hs x y;rw[Array.append_empty];exact ZN ⟨m,os,rfl⟩ hb hpv x y
set_option maxHeartbeats 4000000 in
theorem amh(h:SWK oO 4 w1 b 0 dk W)(hb:∀o,pv1 b o)(hpv:∀c o,pv1 c o→c<w1.heap.size)(x y:CV w1 pv1):
  Calls Tryz.prog 118 #[.agg (oO x).toArray,.agg (oO y).toArray] W fun e w'=>e=.returned (.bool (CG x y==0))∧∃q os',w'=grow (W.drewN q) os':=by
 have hcall:=fun W' (h':SWK oO 4 w1 b 0 dk W')=>ZN h' hb hpv x y;have e1:∀z:CV w1 pv1,∃a b c d:Value,oO z=[a,b,c,d]:=fun z=>by
  have:=IB z
  match oO z,this with
  |[a,b,c,d],_=>exact⟨a,b,c,d,rfl⟩
 obtain⟨xa,xb,xc,xd,hx⟩:=e1 x;obtain⟨ya,yb,yc,yd,hy⟩:=e1 y;rw[hx,hy]at hcall⊢;have hc2:∀o1 o2,Calls Tryz.prog 23 #[.agg #[xa,xb,xc,xd],.agg #[ya,yb,yc,yd]] ((W.alloc o1).alloc o2) fun e w'=>e=.returned (.int .i64 (CG x y))∧∃q os',w'=grow (((W.alloc o1).alloc o2).drewN q) os':=fun o1 o2=>hcall _ (SWK.alloc (SWK.alloc h o1) o2);have HC:Aside _:=hc2;generalize CG x y=r at HC⊢;clear hcall h hc2
 go_enter Tryz.func118,Tryz.ntmps118
 go_wp2_with (go_at_call 23;refine(HC.out _ _).mono ?_;rintro e w' ⟨rfl,q,os',rfl⟩)
 go_ret
 refine⟨rfl,q,#[Obj.cells #[xa,xb,xc,xd] 31]++#[Obj.cells #[ya,yb,yc,yd] 31]++os',?_⟩;rw[alloc_eq_grow,alloc_eq_grow,grow_grow,←grow_grow (W.drewN q)];rfl
end
end
section
open Go Go.Proofs Go.Shelf Go.RowKit Go.Lib Go.Sort
theorem ahE{a b c:Val}(h1:dJ a b≤0)(h2:dJ b c<0):dJ a c<0:=by
 rcases qCx h1 with h|h
 ·exact D9 a b c h h2
 ·rw[(nK a b).1 h];exact h2
theorem ajT(g:Nat→Val)(n:Nat)(hs:∀i j,i<j→j<n→dJ (g i) (g j)≤0):((List.range n).filter (fun j=>j==0 ||!(dJ (g j) (g (j - 1))==0))).map g=sortV ((List.range n).map g):=by
 refine BZ ?_ fun x=>?_
 ·rw[List.pairwise_map];have h1:((List.range n).filter (fun j=>j==0 ||!(dJ (g j) (g (j - 1))==0))).Pairwise (·<·):=List.Pairwise.filter _ List.pairwise_lt_range
  refine List.Pairwise.imp_of_mem ?_ h1;intro i j hi hj hij;obtain⟨hj1,hj2⟩:=qBf.1 hj;have hjn:=qBi.1 hj1;have hj0:(j==0)=false:=by simp;omega
  rw[hj0,qCA]at hj2;have hne:dJ (g j) (g (j - 1))≠0:=by simpa using hj2
  have hlt:dJ (g (j - 1)) (g j)<0:=by
   have:=hs (j - 1) j (by omega) hjn;rw[oL (g (j - 1)) (g j)]at hne;omega
  by_cases e:i=j - 1
  ·rw[e];exact hlt
  ·exact ahE (hs i (j - 1) (by omega) (by omega)) hlt
 ·constructor
  ·intro h;obtain⟨i,hi,rfl⟩:=qAQ.1 h;exact qAQ.2 ⟨i,(qBf.1 hi).1,rfl⟩
  ·intro h;obtain⟨i,hi0,rfl⟩:=qAQ.1 h;have hi:=qBi.1 hi0;clear h hi0
   induction i with
   |zero=>exact qAQ.2 ⟨0,qBf.2 ⟨qBi.2 hi,rfl⟩,rfl⟩
   |succ i ih=>
    by_cases e:dJ (g (i+1)) (g i)=0
    ·rw[(nK _ _).1 e];exact ih (by omega)
    ·exact qAQ.2 ⟨i+1,qBf.2 ⟨qBi.2 hi,by simp[e]⟩,rfl⟩
theorem aeP{l m:List Val}(h:∀x,x∈l↔x∈m):sortV l=sortV m:=BZ (vS l) fun x=>by rw[uG,h x]
section
variable {w1:World}{pv1:bB}
theorem aiy{d d':Array (CV w1 pv1)}(hp:PermIn 0 d.size d d')(hs:SortedIn (ltOf CG) 0 d.size d'):(keptUpTo (Ik (fun x y=>CG x y==0) d') d' d'.size).map ni=sortV (d.toList.map ni):=by
 obtain⟨h1,_,h3⟩:=hp;have hk:=ajT (fun j=>ni d'[j]!) d'.size (fun i j hij hj=>by
  have:=hs i j (qAV _) hij (by omega);simp only[ltOf,decide_eq_false_iff_not,CG]at this;rw[oL (ni d'[j]!)];omega)
 have e1:(keptUpTo (Ik (fun x y=>CG x y==0) d') d' d'.size).map ni=((List.range d'.size).filter (fun j=>j==0 ||!(dJ (ni d'[j]!) (ni d'[j - 1]!)==0))).map (fun j=>ni d'[j]!):=by
  unfold keptUpTo;rw[qBt];rfl
 rw[e1,hk];refine aeP fun x=>?_;have e2:(List.range d'.size).map (fun j=>ni d'[j]!)=d'.toList.map ni:=by
  have:=range_map_get d';rw[←this,qBt];rfl
 rw[e2];have e3:d'.extract 0 d.size=d':=by rw[←h1];simp
 have e4:d.extract 0 d.size=d:=by simp
 rw[e3,e4]at h3;exact(h3.map ni).mem_iff
end
structure Laid(w:World)(pv:bB)(ts:List Val)(w1:World)(b:Nat)(pv1:bB)(d:Array (CV w1 pv1)):Prop where
 below:Go.RowKit.Below w.heap.size w w1
 lo:w.heap.size≤b
 hi:b<w1.heap.size
 pvlt:∀c o,pv1 c o→c<w1.heap.size
 pvb:∀o,pv1 b o
 pvsub:∀c o,pv c o→pv1 c o
 holds:HoldsK oO 4 w1 b 0 d
 vals:d.toList.map ni=ts
theorem Laid.size{w:World}{pv:bB}{ts:List Val}{w1:World}{b:Nat}{pv1:bB}{d:Array (CV w1 pv1)}(h:Laid w pv ts w1 b pv1 d):d.size=ts.length:=by
 rw[←h.vals];simp
theorem Laid.row{w:World}{pv:bB}{ts:List Val}{w1:World}{b:Nat}{pv1:bB}{d:Array (CV w1 pv1)}(h:Laid w pv ts w1 b pv1 d):RowK oO 4 w1 b 0 d:=⟨IB,ad4,h.holds,h.hi⟩
def Xf(w:World)(pv:bB)(ts:List Val)(w1:World)(ad:Option Addr)(cap1:Nat):Prop:=∃(b:Nat) (pv1:bB) (d:Array (CV w1 pv1)),ad=some ⟨b,0,none⟩∧ts.length≤cap1∧Laid w pv ts w1 b pv1 d
def aip(w:World)(pv:bB)(ts:List Val)(w2:World)(ad:Option Addr)(cap1:Nat):Prop:=∃(w1:World) (b:Nat) (pv1:bB) (d d':Array (CV w1 pv1)),ad=some ⟨b,0,none⟩∧ts.length≤cap1∧Laid w pv ts w1 b pv1 d∧SWK oO 4 w1 b 0 d' w2∧PermIn 0 d.size d d'∧SortedIn (ltOf CG) 0 d.size d'
def abu(w:World)(pv:bB)(ts:List Val)(w3:World)(ad:Option Addr)(m:Nat):Prop:=∃(w1:World) (b:Nat) (pv1:bB) (d dk:Array (CV w1 pv1)),ad=some ⟨b,0,none⟩∧Laid w pv ts w1 b pv1 d∧SWK oO 4 w1 b 0 dk w3∧dk.size=d.size∧m≤d.size∧(List.range m).map (fun j=>ni dk[j]!)=sortV ts
theorem ahg{w:World}{κ:bg}{pv:bB}{es:List (List AV)}{t:Tag}{v:Value}(h:Rel w κ pv (.slice es t) v):Rel w κ pv (.slice es .shared) v:=by
 cases h with
 |slice b off sz u h1 h2 h3 h3' h4 h5 h6 ht=>exact .slice b off sz u h1 h2 h3 h3' h4 h5 h6 trivial
theorem Io{w:World}{κ:bg}{pv:bB}{x:AV}(hx:∀g,ren g x=x){v:Value}(h:Rel w κ pv x v):Rel w [] pv x v:=by
 refine Rel.vw (g:=fun i=>κ.length+i) (fun i=>?_) h x (hx _).symm;rw[at_nil];unfold at?;rw[qAn (by omega)];rfl
theorem ajO(ts:List Val)(g:Nat→Nat):ren g (.slice (ts.map ah) .shared)=.slice (ts.map ah) .shared:=by
 simp only[ren,dK,aH]
theorem Ra{w:World}{κ:bg}{pv:bB}{x:AV}{v:Value}(h:Rel w κ pv x v)(hs:isScalar x=true):v.oneCell'=true:=by
 cases h<;>first|rfl|(simp[isScalar]at hs;done)
theorem acr(ts:List Val)(i:Nat)(hi:i<ts.length):(ts.map ah).getD i []=ah ts[i]:=by
 simp[List.getD,hi]
theorem Er(t:Val)(j:Nat)(g:Nat→Nat):ren g ((ah t).getD j .unk)=(ah t).getD j .unk:=by
 have:=zG g t;rw[←iT,this]
theorem Ap(t:Val)(j:Nat)(hj:j<4):isScalar ((ah t).getD j .unk)=true:=by
 rw[aS]
 match j,hj with
 |0,_=>rfl
 |1,_=>rfl
 |2,_=>rfl
 |3,_=>rfl
theorem ahq{w:World}{pv:bB}(hpv:∀c o,pv c o→c<w.heap.size){ts:List Val}(hb:ts.length*56≤140737488355328)(hne:0<ts.length){a:Option Addr}{cap:Nat}(hr:Rel w [] pv (.slice (ts.map ah) .shared) (.slice a ts.length cap)):
  Calls Tryz.prog 107 #[.slice a ts.length cap] w fun e w1=>∃ad cap1,e=.returned (.slice ad ts.length cap1)∧Xf w pv ts w1 ad cap1:=by
 have happ:app 56 ([]:List Val) ts=some ts:=by
  unfold app;rw[if_pos ⟨by simpa using hb,by simp;omega⟩];rfl
 have hpve:aO pv [] []=pv:=by funext b o;exact propext (TP pv [] b o)
 refine(AP 56 ts ts happ rfl [] pv w [.slice a ts.length cap] (PY pv w hpv) rfl (fun j hj=>?_)).mono ?_
 ·have:j=0:=by simp at hj;omega
  subst this;rw[hpve];exact hr
 rintro e w1 ⟨v,κ',rfl,hL,hv⟩;cases hv with
 |@psl _ _ _ cap1 ad g1 g2 g3=>
 refine⟨ad,cap1,rfl,?_⟩;obtain⟨_,⟨ha,hc⟩|⟨b,c,el,hat,ha,hh,hs⟩⟩:=g3
 ·omega
 obtain⟨c2,e2,q1,q2,q3,q4⟩:=hL.obj 0 b hat trivial;obtain⟨pv1,hpv1⟩:∃pv1,pv1=aO pv κ' [.arr 4 (ts.map ah)]:=⟨_,rfl⟩;change ∀i j,i<(ts.map ah).length→j<4→Rel w1 κ' (aO pv κ' [.arr 4 (ts.map ah)]) (((ts.map ah).getD i []).getD j .unk) (c2.getD (i*4+j) undef)at q4;rw[←hpv1]at q4;rw[qAo]at q4 q2;have q5:∀i (hi:i<ts.length) j,j<4→Rel w1 κ' pv1 ((ah ts[i]).getD j .unk) (c2.getD (i*4+j) undef):=fun i hi j hj=>by
  have:=q4 i j hi hj;rwa[acr ts i hi]at this
 let mk:∀i:Fin ts.length,CV w1 pv1:=fun i=>⟨([c2.getD (i.1*4+0) undef,c2.getD (i.1*4+1) undef,c2.getD (i.1*4+2) undef,c2.getD (i.1*4+3) undef],ts[i.1]),rfl,(by
   intro u hu;simp only[qAs,qCg,or_false]at hu;rcases hu with rfl|rfl|rfl|rfl
   ·exact Ra (q5 i.1 i.2 0 (by omega)) (Ap _ _ (by omega))
   ·exact Ra (q5 i.1 i.2 1 (by omega)) (Ap _ _ (by omega))
   ·exact Ra (q5 i.1 i.2 2 (by omega)) (Ap _ _ (by omega))
   ·exact Ra (q5 i.1 i.2 3 (by omega)) (Ap _ _ (by omega))),(by
   intro j hj
   match j,hj with
   |0,_=>exact Io (Er _ _) (q5 i.1 i.2 0 (by omega))
   |1,_=>exact Io (Er _ _) (q5 i.1 i.2 1 (by omega))
   |2,_=>exact Io (Er _ _) (q5 i.1 i.2 2 (by omega))
   |3,_=>exact Io (Er _ _) (q5 i.1 i.2 3 (by omega)))⟩
 refine⟨b,pv1,Array.ofFn mk,ha,g1,⟨⟨hL.os,hL.tape,hL.output,hL.iH.size,fun c hc=>hL.kept c hc fun l h=>by rw[at_nil]at h;cases h⟩,?_,hL.bound 0 b hat,?_,?_,?_,?_,?_⟩⟩
 ·rcases hL.stay 0 b hat trivial with h|⟨l0,h,_⟩
  ·exact h
  ·rw[at_nil]at h;cases h
 ·intro c o hc;rw[hpv1]at hc;rcases hc with hc|⟨l,hc,_⟩
  ·exact qAq (hpv c o hc) hL.iH.size
  ·exact hL.bound l c hc
 ·intro o;rw[hpv1];exact .inr ⟨0,hat,trivial⟩
 ·intro c o hc;rw[hpv1];exact .inl hc
 ·intro j hj;have hj':j<ts.length*4:=by simpa using hj
  have hi:j/4<ts.length:=by omega
  rw[get_flatK oO 4 _ j (by simpa using hj')];have e1:(Array.ofFn mk)[j/4]! =mk ⟨j/4,hi⟩:=by
   rw[getElem!_pos (Array.ofFn mk) (j/4) (by simpa using hi)];simp
  have hlt:j<c2.size:=by omega
  have hcell:w1.cell? ⟨b,0+j,none⟩=some (c2.getD j undef):=by
   simp[World.cell?,q1,Array.getD,hlt]
  refine⟨?_,by simp[World.frozen?,q1]⟩;rw[hcell,e1];show some (c2.getD j undef)=some ([c2.getD (j/4*4+0) undef,c2.getD (j/4*4+1) undef,c2.getD (j/4*4+2) undef,c2.getD (j/4*4+3) undef][j%4]!);have hm:j%4<4:=qCH _ (by omega);have hd:j=j/4*4+j%4:=by omega
  generalize j%4=r at hm hd⊢;generalize j/4=s at hd⊢;subst hd
  match r,hm with
  |0,_=>rfl
  |1,_=>rfl
  |2,_=>rfl
  |3,_=>rfl
 ·apply qBH
  ·simp
  ·intro i h1 h2;simp only[qCh,qCX,Array.getElem_ofFn];rfl
end
end Abs
end Go.Proofs.YtkopaeklihhdlaaGreat
namespace Go.Proofs
open Go.Shelf
def Tryz.ad7:Go.Shelf.Ren:=⟨fun|6=>116|15=>174|14=>173|28=>223|29=>224|20=>215|21=>216|22=>217|23=>218|24=>219|25=>220|26=>221|27=>222|46=>291|47=>292|48=>293|49=>294|50=>295|57=>337|n=>n,fun|22=>27|24=>31|25=>53|3=>3|39=>140|0=>0|53=>224|55=>226|4=>4|46=>217|45=>216|50=>221|5=>5|9=>9|66=>258|70=>262|76=>277|77=>228|n=>n,fun|n=>n⟩
set_option maxRecDepth 100000 in
theorem Tryz.ad3:Go.Proofs.SlLaysF0.n6 Tryz.prog Tryz.ad7:={
 mixed:=by kernel_rfl
 f6:=⟨Tryz.f116.name,by decide,Tryz.func116.trans (congrArg some (by kernel_rfl))⟩
 f14:=⟨Tryz.f173.name,by decide,Tryz.func173.trans (congrArg some (by kernel_rfl))⟩
 f15:=Tryz.func174.trans (congrArg some (by kernel_rfl))
 f20:=⟨Tryz.f215.name,by decide,Tryz.func215.trans (congrArg some (by kernel_rfl))⟩
 f21:=⟨Tryz.f216.name,by decide,Tryz.func216.trans (congrArg some (by kernel_rfl))⟩
 f22:=⟨Tryz.f217.name,by decide,Tryz.func217.trans (congrArg some (by kernel_rfl))⟩
 f23:=⟨Tryz.f218.name,by decide,Tryz.func218.trans (congrArg some (by kernel_rfl))⟩
 f24:=⟨Tryz.f219.name,by decide,Tryz.func219.trans (congrArg some (by kernel_rfl))⟩
 f25:=⟨Tryz.f220.name,by decide,Tryz.func220.trans (congrArg some (by kernel_rfl))⟩
 f26:=⟨Tryz.f221.name,by decide,Tryz.func221.trans (congrArg some (by kernel_rfl))⟩
 f27:=⟨Tryz.f222.name,by decide,Tryz.func222.trans (congrArg some (by kernel_rfl))⟩
 f28:=Tryz.func223.trans (congrArg some (by kernel_rfl))
 f29:=Tryz.func224.trans (congrArg some (by kernel_rfl))
 f46:=⟨Tryz.f291.name,by decide,Tryz.func291.trans (congrArg some (by kernel_rfl))⟩
 f47:=Tryz.func292.trans (congrArg some (by kernel_rfl))
 f48:=Tryz.func293.trans (congrArg some (by kernel_rfl))
 f49:=⟨Tryz.f294.name,by decide,Tryz.func294.trans (congrArg some (by kernel_rfl))⟩
 f50:=⟨Tryz.f295.name,by decide,Tryz.func295.trans (congrArg some (by kernel_rfl))⟩
 f57:=⟨Tryz.f337.name,by decide,Tryz.func337.trans (congrArg some (by kernel_rfl))⟩
 t0:=Tryz.underlying0
 a0:=Tryz.isAgg0
 z0:=Tryz.sizeOf0
 v0:=Tryz.zeroValue0
 t3:=Tryz.underlying3
 a3:=Tryz.isAgg3
 z3:=Tryz.sizeOf3
 v3:=Tryz.zeroValue3
 t4:=Tryz.underlying4
 a4:=Tryz.isAgg4
 z4:=Tryz.sizeOf4
 v4:=Tryz.zeroValue4
 t5:=Tryz.underlying5
 a5:=Tryz.isAgg5
 z5:=Tryz.sizeOf5
 v5:=Tryz.zeroValue5
 t9:=Tryz.underlying9
 a9:=Tryz.isAgg9
 z9:=Tryz.sizeOf9
 v9:=Tryz.zeroValue9
 t22:=Tryz.underlying27
 a22:=Tryz.isAgg27
 z22:=Tryz.sizeOf27
 v22:=Tryz.zeroValue27
 t25:=Tryz.underlying53
 a25:=Tryz.isAgg53
 z25:=Tryz.sizeOf53
 v25:=Tryz.zeroValue53
 t39:=Tryz.underlying140
 a39:=Tryz.isAgg140
 z39:=Tryz.sizeOf140
 v39:=Tryz.zeroValue140
 t45:=Tryz.underlying216
 a45:=Tryz.isAgg216
 z45:=Tryz.sizeOf216
 v45:=Tryz.zeroValue216
 t46:=Tryz.underlying217
 a46:=Tryz.isAgg217
 z46:=Tryz.sizeOf217
 v46:=Tryz.zeroValue217
 t50:=Tryz.underlying221
 a50:=Tryz.isAgg221
 z50:=Tryz.sizeOf221
 v50:=Tryz.zeroValue221
 t53:=Tryz.underlying224
 a53:=Tryz.isAgg224
 z53:=Tryz.sizeOf224
 v53:=Tryz.zeroValue224
 t55:=Tryz.underlying226
 a55:=Tryz.isAgg226
 z55:=Tryz.sizeOf226
 v55:=Tryz.zeroValue226
 t66:=Tryz.underlying258
 a66:=Tryz.isAgg258
 z66:=Tryz.sizeOf258
 v66:=Tryz.zeroValue258
 t70:=Tryz.underlying262
 a70:=Tryz.isAgg262
 z70:=Tryz.sizeOf262
 v70:=Tryz.zeroValue262
 t76:=Tryz.underlying277
 a76:=Tryz.isAgg277
 z76:=Tryz.sizeOf277
 v76:=Tryz.zeroValue277
 t77:=Tryz.underlying228
 a77:=Tryz.isAgg228
 z77:=Tryz.sizeOf228
 v77:=Tryz.zeroValue228}
end Go.Proofs
namespace Go.Proofs.YtkopaeklihhdlaaGreat
namespace Abs
section
open Go Go.Proofs Go.Shelf Go.RowKit Go.Lib Go.Sort
theorem aiG{w:World}{pv:bB}{ts:List Val}{w1:World}{ad:Option Addr}{cap1:Nat}(hb:ts.length*56≤140737488355328)(h:Xf w pv ts w1 ad cap1):
  Calls Tryz.prog 116 #[.slice ad ts.length cap1,.func (.func 23) #[] #[]] w1 fun e w2=>e=.returned (.tuple #[])∧aip w pv ts w2 ad cap1:=by
 obtain⟨b,pv1,d,rfl,hc,hL⟩:=h;have h1:=AnyQ.slices_SortFunc Tryz.ad3 4 Tryz.isAgg31 Tryz.sizeOf31 (oO (w:=w1) (pv:=pv1)) IB ad4 CG arT 23 #[] b 0 cap1 d w1 (enters_of Tryz.func23 (by kernel_rfl) rfl) (ak2 hL.pvb hL.pvlt d.size) hL.holds hL.hi (by rw[hL.size];omega);change Calls Tryz.prog 116 _ _ _ at h1;rw[←hL.size];refine h1.mono ?_;rintro e w2 ⟨rfl,d',n,os,hp,hs,hw⟩;exact⟨rfl,w1,b,pv1,d,d',rfl,hc,hL,⟨n,os,hw⟩,hp,hs⟩
theorem adi{w:World}{pv:bB}{ts:List Val}{w2:World}{ad:Option Addr}{cap1:Nat}(hb:ts.length*56≤140737488355328)(h:aip w pv ts w2 ad cap1):
  Calls Tryz.prog 117 #[.slice ad ts.length cap1,.func (.func 118) #[] #[]] w2 fun e w3=>∃m,e=.returned (.slice ad m cap1)∧m≤cap1∧m≤140737488355328∧abu w pv ts w3 ad m:=by
 obtain⟨w1,b,pv1,d,d',rfl,hc,hL,hS,hp,hs⟩:=h;have hsz:d'.size=ts.length:=by rw[hp.1,hL.size]
 have h1:=aaC (oO (w:=w1) (pv:=pv1)) (fun x y=>CG x y==0) b 0 cap1 d d' w1 w2 rfl (fun W dk _ hW x y=>amh hW hL.pvb hL.pvlt x y) hL.row (by rw[hp.1]) hS (by omega) (by omega);rw[←hsz];refine h1.mono ?_;rintro e w3 ⟨dk,rfl,hW,hds,hget⟩;have hk:=aiy hp hs;have hlen:(keptUpTo (Ik (fun x y=>CG x y==0) d') d' d'.size).length≤d'.size:=by
  unfold keptUpTo;rw[qAo];exact qAj (List.length_filter_le _ _) (by simp)
 refine⟨_,rfl,by omega,by omega,w1,b,pv1,d,dk,rfl,hL,hW,by rw[hds,hp.1],by rw[←hp.1];exact hlen,?_⟩;rw[hL.vals]at hk;rw[←hk];apply qBH
 ·simp
 ·intro j h1 h2;simp only[qAo,List.length_range]at h1;have:=hget j h1;rw[qAe h1]at this;simp only[qCh,List.getElem_range];rw[Option.some.inj this]
theorem acn(p:Option Addr)(cap:Nat)(fv:Value)(w:World):Calls Tryz.prog 117 #[.slice p 0 cap,fv] w fun e w'=>e=.returned (.slice p 0 cap)∧w'=w:=by
 go_enter Tryz.func117,Tryz.ntmps117
 go_wp2
 go_ret
 exact⟨rfl,rfl⟩
theorem abu.rel{w:World}{pv:bB}{ts:List Val}{w3:World}{ad:Option Addr}{m:Nat}(h:abu w pv ts w3 ad m)(κ:bg)(hpv:∀c o,pv c o→c<w.heap.size)(hm:m≤140737488355328):Go.RowKit.Below w.heap.size w w3∧Rel w3 κ pv (.slice ((sortV ts).map ah) .shared) (.slice ad m m):=by
 obtain⟨w1,b,pv1,d,dk,rfl,hL,hW,hds,hmd,hg⟩:=h;have hevo:=SWK.iH hW hL.pvb;have hos:w3.os=w1.os∧w3.tape=w1.tape∧w3.output=w1.output:=by
  obtain⟨n,os,rfl⟩:=hW;exact⟨rfl,rfl,rfl⟩
 refine⟨⟨hos.1.trans hL.below.os,hos.2.1.trans hL.below.tape,hos.2.2.trans hL.below.output,qAj hL.below.size hevo.size,fun c hc=>(SWK.other hW (by have:=hL.lo;omega) (qAq hc hL.below.size)).trans (hL.below.block c hc)⟩,?_⟩;have hlen:(sortV ts).length=m:=by rw[←hg];simp
 have hget:∀i (hi:i<m),((sortV ts).map ah).getD i []=ah (ni dk[i]!):=fun i hi=>by
  rw[←hg];simp[List.getD,hi]
 have hH:=hW.holds hL.row.hblk hL.row.hH hds;have:=Rel.slice (w:=w3) (κ:=κ) (pv:=pv) (es:=(sortV ts).map ah) (tag:=.shared) (a:=some ⟨b,0,none⟩) (cap:=m) b 0 4 (fun i j=>(oO dk[i]!).getD j undef)
  (fun i hi=>by rw[qAo,hlen]at hi;rw[hget i hi,aS];rfl) (fun _=>rfl) (by simp[hlen]) (by simp[hlen];omega)
  (fun i j _ _ hp=>by have:=hpv _ _ hp;have:=hL.lo;omega)
  (fun i j hi hj=>by
   rw[qAo,hlen]at hi;have:=(HoldsK.cell hH (i:=i) (c:=j) (by omega) hj).1;rw[show 0+(i*4+j)=0+i*4+j by omega,this];have hl:j<(oO dk[i]!).length:=by rw[IB];exact hj
   simp[List.getD,hl])
  (fun i j hi hj=>by
   rw[qAo,hlen]at hi;rw[hget i hi];exact(ado dk[i]! j hj).mono hevo (fun l b h=>by rw[at_nil]at h;cases h) (fun c o hp _=>hL.pvsub c o hp)) trivial
 rw[qAo,hlen]at this;exact this
set_option maxHeartbeats 4000000 in
theorem Ab(H:List AObj)(ts:List Val)(tag:Tag)(hb:ts.length*56≤140737488355328):ak Tryz.prog 63 [.slice (ts.map ah) tag] H (.slice ((sortV ts).map ah) .shared) H:=by
 intro κ aN w vs hen hvl hr;have h0:=hr 0 (by simp)
 match vs,hvl with
 |[v],_=>
 simp only[List.getD,qAp,qAi]at h0;have hlt:∀c o,aO aN κ H c o→c<w.heap.size:=fun c o h=>afN hen h;have h1:=Io (ajO ts) (ahg h0);obtain⟨a,cap,rfl,_,_⟩:=h1.jL;rw[qAo]at h1⊢;by_cases hne:0<ts.length
 ·have hc:=ahq hlt hb hne h1;have hc2:=fun w1 ad cap1 (h:Xf w (aO aN κ H) ts w1 ad cap1)=>aiG hb h;have hc3:=fun w1 ad cap1 (h:aip w (aO aN κ H) ts w1 ad cap1)=>adi hb h;have fin:∀(w3:World) (ad:Option Addr) (m:Nat),m≤140737488355328→abu w (aO aN κ H) ts w3 ad m→∃v κ',Ending.returned (.slice ad m m)=Ending.returned v∧Leave κ κ' aN H H w w3∧Rel w3 κ' (aO aN κ' H) (.slice ((sortV ts).map ah) .shared) v:=fun w3 ad m hm h=>by
   obtain⟨f1,f2⟩:=h.rel κ hlt hm;exact⟨_,κ,rfl,Leave.same hen f1,f2⟩
  have FIN:Aside _:=fin;have H0:Aside (Calls Tryz.prog 107 #[.slice a ts.length cap] w fun e w1=>∃ad cap1,e=.returned (.slice ad ts.length cap1)∧Xf w (aO aN κ H) ts w1 ad cap1):=hc;have H2:Aside _:=hc2;have H3:Aside _:=hc3;clear hc hc2 hc3 fin h1 h0 hr;generalize ts.length=n at *
  go_enter Tryz.func63,Tryz.ntmps63
  go_wp2_with (first
   |(go_at_call 107;refine H0.out.mono ?_;rintro e w1 ⟨ad,cap1,rfl,P1⟩)
   |(go_at_call 116;refine(H2.out _ _ _ P1).mono ?_;rintro e w2 ⟨rfl,P2⟩)
   |(go_at_call 117;refine(H3.out _ _ _ P2).mono ?_;rintro e w3 ⟨m,rfl,hm1,hm2,P3⟩)
   |(go_at_call 70;refine(zP _ _ _ hm1 hm2 _).mono ?_;rintro e w4 ⟨rfl,rfl⟩))
  go_ret
  exact FIN.out _ _ _ hm2 P3
 ·have hts:ts=[]:=qAz.1 (by omega);subst hts;have hpve:aO (aO aN κ H) [] []=aO aN κ H:=by funext b o;exact propext (TP _ [] b o)
  have hcl:=AP 56 [] [] (by rfl) rfl [] (aO aN κ H) w [.slice a 0 cap] (PY _ w hlt) rfl (fun j hj=>by
   have:j=0:=by simp at hj;omega
   subst this;rw[hpve];exact h1)
  have hcl2:Calls Tryz.prog 107 #[.slice a 0 cap] w fun e w1=>∃ad cap1,e=.returned (.slice ad 0 cap1)∧Go.RowKit.Below w.heap.size w w1:=hcl.mono (by
   rintro e w1 ⟨v,κ',rfl,hL,hv⟩;cases hv with
   |@psl _ _ _ cap1 ad g1 g2 g3=>exact⟨ad,cap1,rfl,hL.os,hL.tape,hL.output,hL.iH.size,fun c hc=>hL.kept c hc fun l h=>by rw[at_nil]at h;cases h⟩)
  have H0:Aside (Calls Tryz.prog 107 #[.slice a 0 cap] w fun e w1=>∃ad cap1,e=.returned (.slice ad 0 cap1)∧Go.RowKit.Below w.heap.size w w1):=hcl2;have H2:∀ad cap1 w1,Calls Tryz.prog 116 #[.slice ad 0 cap1,.func (.func 23) #[] #[]] w1 fun e w2=>e=.returned (.tuple #[])∧w2=w1:=fun ad cap1 w1=>AnyF.slices_SortFunc_none Tryz.ad3 ad cap1 _ w1;have fin:∀(w3:World) (ad:Option Addr),Go.RowKit.Below w.heap.size w w3→∃v κ',Ending.returned (.slice ad 0 0)=Ending.returned v∧Leave κ κ' aN H H w w3∧Rel w3 κ' (aO aN κ' H) (.slice ((sortV []).map ah) .shared) v:=fun w3 ad h=>by
   refine⟨_,κ,rfl,Leave.same hen h,?_⟩;have:=Rel.slice (w:=w3) (κ:=κ) (pv:=aO aN κ H) (es:=[]) (tag:=.shared) (a:=ad) (cap:=0) 0 0 1 (fun _ _=>undef) (fun i h=>by cases h) (fun h=>(h rfl).elim) (qAc _) (by simp) (fun i j h=>by cases h) (fun i j h=>by cases h) (fun i j h=>by cases h) trivial;simpa[sortV]using this
  have FIN:Aside _:=fin;clear hcl hcl2 fin h1 h0 hr;show Calls Tryz.prog 63 #[.slice a 0 cap] w _
  go_enter Tryz.func63,Tryz.ntmps63
  go_wp2_with (first
   |(go_at_call 107;refine H0.out.mono ?_;rintro e w1 ⟨ad,cap1,rfl,P1⟩)
   |(go_at_call 116;refine(H2 _ _ _).mono ?_;rintro e w2 ⟨rfl,rfl⟩)
   |(go_at_call 117;refine(acn _ _ _ _).mono ?_;rintro e w3 ⟨rfl,rfl⟩)
   |(go_at_call 70;refine(zP _ 0 _ (qAV _) (qAV _) _).mono ?_;rintro e w4 ⟨rfl,rfl⟩))
  go_ret
  exact FIN.out _ _ P1
end
section
open Go
theorem Ih{H:List AObj}{l:Nat}(i:Nat):obj? (H.set l .dead) i=if i=l then .dead else obj? H i:=by
 unfold obj?;rw[List.getElem?_set];by_cases h:l=i
 ·subst h;simp only[if_true];by_cases h2:l<H.length
  ·simp[h2]
  ·simp[h2]
 ·rw[if_neg h,if_neg (fun e=>h e.symm)]
theorem ak.apC{P:Program}{f l z n:Nat}{es:List (List AV)}{res:AV}{H:List AObj}(hz:0<z)(ho:obj? H l=.arr z es)(hn:n≤es.length)(h:ak P f [.slice (es.take n) .shared] (H.set l .dead) res (H.set l .dead)):ak P f [.psl l z n] H res (H.set l .dead):=by
 intro κ aN w vs hen hvl hr;have h0:=hr 0 (by simp)
 match vs,hvl with
 |[v],_=>
 simp only[List.getD,qAp,qAi]at h0;have hlive:∀i,live (obj? (H.set l .dead) i)→live (obj? H i)∧i≠l:=fun i hi=>by
  rw[Ih]at hi;by_cases e:i=l
  ·rw[if_pos e]at hi;exact hi.elim
  ·rw[if_neg e]at hi;exact⟨hi,e⟩
 have heq:∀i,i≠l→obj? (H.set l .dead) i=obj? H i:=fun i hi=>by rw[Ih,if_neg hi]
 have hpvm:∀κ' b o,aO aN κ' (H.set l .dead) b o→aO aN κ' H b o:=by
  rintro κ' b o (h|⟨i,h1,h2⟩)
  ·exact .inl h
  ·by_cases e:i=l
   ·rw[Ih,if_pos e]at h2;exact h2.elim
   ·rw[heq i e]at h2;exact .inr ⟨i,h1,h2⟩
 have hpv:∀b o,aO aN κ (H.set l .dead) b o→aO aN κ H b o:=hpvm κ;have hobjPv:∀i o,qW (obj? H i) o→live (obj? H i):=fun i o h=>by
  cases hx:obj? H i<;>rw[hx]at h<;>first|trivial|exact h.elim
 have hen':Entry κ aN (H.set l .dead) w:=by
  refine⟨by rw[qBc];exact hen.klen,fun i hi=>?_,fun i b h1 h2=>?_,fun i j b h1 h2 h3 h4=>hen.apart i j b h1 h2 (hlive i h3).1 (hlive j h4).1,hen.bound,hen.pvlt,fun b o i h1 h2 h3=>hen.pvdis b o i h1 h2 (hlive i h3).1⟩
  ·by_cases e:i=l
   ·rw[Ih,if_pos e]at hi;cases hi
   ·rw[heq i e]at hi;exact hen.resv i hi
  ·obtain⟨h3,h4⟩:=hlive i h2;rw[heq i h4];exact(hen.obj i b h1 h3).mono rfl (Evo.refl _ _) (bV.refl _) (fun b o hp _=>hpv b o hp)
 have harg:Rel w κ (aO aN κ (H.set l .dead)) (.slice (es.take n) .shared) v:=by
  cases h0 with
  |@psl _ _ _ cap a g1 g2 g3=>
   have hlen:(es.take n).length=n:=by rw[qBd];omega
   obtain⟨_,⟨ha,hc⟩|⟨b,c,el,hb,ha,hh,hs⟩⟩:=g3
   ·have:n=0:=by omega
    subst this;have:=Rel.slice (w:=w) (κ:=κ) (pv:=aO aN κ (H.set l .dead)) (es:=[]) (tag:=.shared) (a:=a) (cap:=cap) 0 0 1 (fun _ _=>undef) (fun i h=>by cases h) (fun h=>(h rfl).elim) (qAV _) (by simp) (fun i j h=>by cases h) (fun i j h=>by cases h) (fun i j h=>by cases h) trivial;simpa using this
   ·have hobj:=hen.obj l b hb (by rw[ho];trivial);rw[ho]at hobj;obtain⟨c2,e2,q1,q2,q3,q4⟩:=hobj;have key:∀i,i<n→(es.take n).getD i []=es.getD i []:=fun i hi=>by simp[List.getD,qAW,hi]
    have:=Rel.slice (w:=w) (κ:=κ) (pv:=aO aN κ (H.set l .dead)) (es:=es.take n) (tag:=.shared) (a:=a) (cap:=cap) b 0 z (fun i j=>c2.getD (i*z+j) undef)
     (fun i hi=>by rw[hlen]at hi;rw[key i hi];exact q3 i (by omega)) (fun _=>ha) (by rw[hlen];exact g1) (by rw[hlen];omega)
     (fun i j hi hj hp=>by
      rcases hp with hp|⟨i',h1,h2⟩
      ·exact hen.pvdis b _ l hp hb (by rw[ho];trivial)
      ·by_cases e:i'=l
       ·rw[Ih,if_pos e]at h2;exact h2.elim
       ·rw[heq i' e]at h2;exact e (hen.apart i' l b h1 hb (hobjPv i' _ h2) (by rw[ho];trivial)))
     (fun i j hi hj=>by
      rw[hlen]at hi;have:i*z+j<es.length*z:=by
       have h1:(i+1)*z≤es.length*z:=qAH z (by omega);rw[qAD,qBW]at h1;omega
      have:i*z+j<c2.size:=by omega
      simp[World.cell?,q1,Array.getD,this])
     (fun i j hi hj=>by
      rw[hlen]at hi;rw[key i hi];exact(q4 i j (by omega) hj).mono (Evo.refl (aO aN κ H) _) (bV.refl _) (fun b o h _=>hpv b o h)) trivial
    rw[hlen]at this;exact this
 refine(h κ aN w [v] hen' rfl (fun j hj=>by
  have:j=0:=by simp at hj;omega
  subst this;exact harg)).mono ?_
 rintro e w' ⟨v',κ',rfl,hL,hv'⟩;refine⟨v',κ',rfl,⟨hL.klen,by simp,hL.kext,hL.resv,hL.obj,fun i b h1 h2=>?_,hL.apart,hL.bound,fun b hb hl=>hL.kept b hb fun i hi h=>hl i hi (hlive i h).1,?_,fun b o h1 h2=>hpv b o (hL.pvsub b o h1 h2),hL.os,hL.tape,hL.output⟩,hv'⟩
 ·rcases hL.stay i b h1 h2 with h|⟨l0,h3,h4⟩
  ·exact .inl h
  ·exact .inr ⟨l0,h3,(hlive l0 h4).1⟩
 ·exact⟨hL.iH.size,fun b off u hn hc=>hL.iH.cell b off u (fun hp=>hn (hpv b off hp)) hc,hL.iH.shape⟩
end
section
open Go Go.Proofs
set_option maxRecDepth 100000 in
theorem HZ(b8:Nat)(p0 r:List Val)(h:app b8 ([]:List Val) p0=some r)(hb8:b8=56):ak Tryz.prog 107 [.slice (List.map ah p0) .shared] [] (.slice (List.map ah p0) (.tip 0 4)) [.tip (p0.length*4)]:=by
 subst hb8;refine aA false Tryz.func107 rfl (by rw[Tryz.ntmps107];exact qAa rfl) fun Q hQ t ht=>?_
 conv at ht=>whnf
 subst ht;have hr:r=p0:=by unfold app at h;split at h<;>simp at h;exact h.symm
 subst hr;refine AW.jN fun K1 hK1=>?_;refine AW.region aL jF 0 ?_
 conv=>whnf
 refine hK1 _ _ ?_;refine AW.jN fun K2 hK2=>?_;refine AW.jN fun K3 hK3=>?_;refine AW.IQ (x:=0) (y:=3) (d:=4) (T:=27) (e:=31) (es:=List.map ah r) (tag:=.shared) rfl rfl rfl rfl rfl rfl (by kernel_rfl) rfl (qAa rfl) fun b hb=>?_
 conv=>whnf
 refine hK3 _ _ ?_;refine AW.cond (b:=b) rfl (fun e1=>?_) (fun e1=>?_)
 ·have hp:r=[]:=by simpa using hb e1
  subst hp;refine AW.jN fun K4 hK4=>?_;refine AW.region aL jF 0 ?_
  conv=>whnf
  refine hK4 _ _ ?_;refine AW.ret ?_
  conv=>whnf
  refine hQ _ _ _ (jf (u2 (.slice [] (.tip 0 4)::(u4 (.unk::[])))) [.tip 0] (wk [none] (.u2 (.cons (.nils _ _) (.u4 (.u .nil)))) (.w rfl .nil) rfl) (dI aL [0] rfl (.cons rfl .nil) ?_))
  conv=>whnf
  try rfl
 ·refine AW.skip ?_
  conv=>whnf
  refine hK2 _ _ ?_;refine AW.jN fun K4 hK4=>?_;refine AW.region aL jF 2 ?_
  conv=>whnf
  refine⟨List.map ah ([]:List Val),rfl,?_⟩
  conv=>whnf
  refine jA (l:=([]:List Val)) (ys:=r) (f:=ah) h kH rfl rfl rfl ?_
  conv=>whnf
  refine hK4 _ _ ?_;refine AW.ret ?_
  conv=>whnf
  refine hQ _ _ _ (.inl (dI aL [1] rfl (.cons rfl .nil) ?_))
  conv=>whnf
  simp only[ren,dK,aH]
  try rfl
set_option maxRecDepth 100000 in
theorem RH(b8:Nat)(p0 r:List Val)(h:app b8 ([]:List Val) p0=some r)(hb8:b8=56):ak Tryz.prog 107 [.slice (List.map ah p0) .nils] [] (.slice (List.map ah p0) (.tip 0 4)) [.tip (p0.length*4)]:=by
 subst hb8;refine aA false Tryz.func107 rfl (by rw[Tryz.ntmps107];exact qAa rfl) fun Q hQ t ht=>?_
 conv at ht=>whnf
 subst ht;have hr:r=p0:=by unfold app at h;split at h<;>simp at h;exact h.symm
 subst hr;refine AW.jN fun K1 hK1=>?_;refine AW.region aL jF 0 ?_
 conv=>whnf
 refine hK1 _ _ ?_;refine AW.jN fun K2 hK2=>?_;refine AW.jN fun K3 hK3=>?_;refine AW.IQ (x:=0) (y:=3) (d:=4) (T:=27) (e:=31) (es:=List.map ah r) (tag:=.nils) rfl rfl rfl rfl rfl rfl (by kernel_rfl) rfl (qAa rfl) fun b hb=>?_
 conv=>whnf
 refine hK3 _ _ ?_;refine AW.cond (b:=b) rfl (fun e1=>?_) (fun e1=>?_)
 ·have hp:r=[]:=by simpa using hb e1
  subst hp;refine AW.jN fun K4 hK4=>?_;refine AW.region aL jF 0 ?_
  conv=>whnf
  refine hK4 _ _ ?_;refine AW.ret ?_
  conv=>whnf
  refine hQ _ _ _ (jf (u2 (.slice [] (.tip 0 4)::(u4 (.unk::[])))) [.tip 0] (wk [none] (.u2 (.cons (.nils _ _) (.u4 (.u .nil)))) (.w rfl .nil) rfl) (dI aL [0] rfl (.cons rfl .nil) ?_))
  conv=>whnf
  try rfl
 ·refine AW.skip ?_
  conv=>whnf
  refine hK2 _ _ ?_;refine AW.jN fun K4 hK4=>?_;refine AW.region aL jF 2 ?_
  conv=>whnf
  refine⟨List.map ah ([]:List Val),rfl,?_⟩
  conv=>whnf
  refine jA (l:=([]:List Val)) (ys:=r) (f:=ah) h kH rfl rfl rfl ?_
  conv=>whnf
  refine hK4 _ _ ?_;refine AW.ret ?_
  conv=>whnf
  refine hQ _ _ _ (.inl (dI aL [1] rfl (.cons rfl .nil) ?_))
  conv=>whnf
  simp only[ren,dK,aH]
  try rfl
set_option maxRecDepth 100000 in
theorem Rn(m b8:Nat)(p0 r:List Val)(h:app b8 ([]:List Val) p0=some r)(hb8:b8=56):ak Tryz.prog 107 [.slice (List.map ah p0) (.tip 0 4)] [.tip m] (.slice (List.map ah p0) (.tip 1 4)) [.tip m,.tip (p0.length*4)]:=by
 subst hb8;refine aA false Tryz.func107 rfl (by rw[Tryz.ntmps107];exact qAa rfl) fun Q hQ t ht=>?_
 conv at ht=>whnf
 subst ht;have hr:r=p0:=by unfold app at h;split at h<;>simp at h;exact h.symm
 subst hr;refine AW.jN fun K1 hK1=>?_;refine AW.region aL jF 0 ?_
 conv=>whnf
 refine hK1 _ _ ?_;refine AW.jN fun K2 hK2=>?_;refine AW.jN fun K3 hK3=>?_;refine AW.IQ (x:=0) (y:=3) (d:=4) (T:=27) (e:=31) (es:=List.map ah r) (tag:=.tip 0 4) rfl rfl rfl rfl rfl rfl (by kernel_rfl) rfl (qAa rfl) fun b hb=>?_
 conv=>whnf
 refine hK3 _ _ ?_;refine AW.cond (b:=b) rfl (fun e1=>?_) (fun e1=>?_)
 ·have hp:r=[]:=by simpa using hb e1
  subst hp;refine AW.jN fun K4 hK4=>?_;refine AW.region aL jF 0 ?_
  conv=>whnf
  refine hK4 _ _ ?_;refine AW.ret ?_
  conv=>whnf
  refine hQ _ _ _ (jf (u2 (.slice [] (.tip 1 4)::(u4 (.unk::[])))) [.tip m,.tip 0] (wk [some 0,none] (.u2 (.cons (.nils _ _) (.u4 (.u .nil)))) (.t rfl (.w rfl .nil)) rfl) (dI aL [0,1] rfl (.cons rfl (.cons rfl .nil)) ?_))
  conv=>whnf
  try rfl
 ·refine AW.skip ?_
  conv=>whnf
  refine hK2 _ _ ?_;refine AW.jN fun K4 hK4=>?_;refine AW.region aL jF 2 ?_
  conv=>whnf
  refine⟨List.map ah ([]:List Val),rfl,?_⟩
  conv=>whnf
  refine jA (l:=([]:List Val)) (ys:=r) (f:=ah) h kH rfl rfl rfl ?_
  conv=>whnf
  refine hK4 _ _ ?_;refine AW.ret ?_
  conv=>whnf
  refine hQ _ _ _ (.inl (dI aL [0,2] rfl (.cons rfl (.cons rfl .nil)) ?_))
  conv=>whnf
  simp only[ren,dK,aH]
  try rfl
end
section
open Go Go.Proofs
noncomputable def amG(H:List AObj):AObj→Option (AV×List AObj)
 | .mp es=>bif Nat.ble (es.length*16) 140737488355328 then some (.slice (((es.map (·.1)).mergeSort Wu).map encS) .shared,H)else none
 |_=>none
noncomputable def amJ(H:List AObj):AObj→Option (AV×List AObj)
 | .box [.mapr m]=>amG H (Um H m)
 |_=>none
noncomputable def ah2(H:List AObj):List AV→Option (AV×List AObj)
 |[.func g [.ptr p o]]=>bif Nat.beq g 212&&Nat.beq o 0 then amJ H (Um H p)else none
 |_=>none
theorem alU:∀args H r,ah2 H args=some r→ak Tryz.prog 160 args H r.1 r.2:=by
 intro args H r h;unfold ah2 at h;split at h
 ·rename_i g p o;cases hb:(Nat.beq g 212&&Nat.beq o 0)with
  |false=>rw[hb]at h;cases h
  |true=>
   rw[hb]at h;simp only[cond_true]at h;simp only[qAd]at hb;rw[qAg hb.1,qAg hb.2];unfold amJ at h;split at h
   ·rename_i m hp;unfold amG at h;split at h
    ·rename_i es hm;cases hl:Nat.ble (es.length*16) 140737488355328 with
     |false=>rw[hl]at h;cases h
     |true=>
      rw[hl]at h;simp only[cond_true,Option.some.injEq]at h;subst h;rw[QV]at hp hm;exact Pp H p m es hp hm (qAa hl)
    ·cases h
   ·cases h
 ·cases h
def I5(f:List AV→Option Val):List (List AV)→Option (List Val)
 |[]=>some []
 |c::cs=>match f c with
  |none=>none
  |some v=>match I5 f cs with
   |none=>none
   |some vs=>some (v::vs)
def TJ:Nat→List AV→Option Val
 |0,_=>none
 |n+1,[.int .i64 k,.int .i64 m,.str s,.slice es .shared]=>match I5 (TJ n) es with
  |none=>none
  |some ks=>some (.mk k m s ks)
 |_+1,_=>none
theorem Iu{f:List AV→Option Val}(hf:∀c v,f c=some v→c=ah v):∀(es:List (List AV)) (vs:List Val),I5 f es=some vs→es=vs.map ah
 |[],vs,h=>by simp only[I5,Option.some.injEq]at h;subst h;rfl
 |c::cs,vs,h=>by
  unfold I5 at h;split at h
  ·cases h
  ·rename_i v hv;split at h
   ·cases h
   ·rename_i vs' hvs;cases h;rw[hf c v hv,Iu hf cs vs' hvs];rfl
theorem QY:∀(n:Nat) (c:List AV) (v:Val),TJ n c=some v→c=ah v
 |0,c,v,h=>by simp[TJ]at h
 |n+1,c,v,h=>by
  unfold TJ at h;split at h
  ·cases h
  ·rename_i k m s es heq;split at h
   ·cases h
   ·rename_i ks hks;cases h;rw[Iu (QY _) es ks hks,aS];cases heq;rfl
  ·cases h
def Lm(n:Nat):Bool:=Nat.ble (n*56) 140737488355328
def aku(H:List AObj):List AV→Option (AV×List AObj)
 |[.slice es _]=>match I5 (TJ 20) es with
  |some ts=>bif Lm ts.length then some (.slice ((sortV ts).map ah) .shared,H)else none
  |none=>none
 |[.psl l z n]=>match H with
  |[.arr z' es]=>bif Nat.beq l 0&&(Nat.beq z 4&&(Nat.beq z' 4&&Nat.ble n es.length))then(match I5 (TJ 20) (es.take n)with
   |some ts=>bif Lm ts.length then some (.slice ((sortV ts).map ah) .shared,[.dead])else none
   |none=>none)else none
  |_=>none
 |_=>none
theorem aoc:∀args H r,aku H args=some r→ak Tryz.prog 63 args H r.1 r.2:=by
 intro args H r h;unfold aku at h;split at h
 ·rename_i es t;split at h
  ·rename_i ts hts;cases hb:Lm ts.length with
   |false=>rw[hb]at h;cases h
   |true=>
    rw[hb]at h;simp only[cond_true,Option.some.injEq]at h;subst h;rw[Iu (QY 20) es ts hts];exact Ab H ts t (qAa hb)
  ·cases h
 ·rename_i l z n;split at h
  ·rename_i z' es;cases hb:(Nat.beq l 0&&(Nat.beq z 4&&(Nat.beq z' 4&&Nat.ble n es.length)))with
   |false=>rw[hb]at h;cases h
   |true=>
    rw[hb]at h;simp only[cond_true]at h;simp only[qAd]at hb;obtain⟨h1,h2,h3,h4⟩:=hb;have h1:=qAg h1;have h2:=qAg h2;have h3:=qAg h3;have h4:=qAa h4;subst h1 h2 h3;split at h
    ·rename_i ts hts;cases hb:Lm ts.length with
     |false=>rw[hb]at h;cases h
     |true=>
      rw[hb]at h;simp only[cond_true,Option.some.injEq]at h;subst h;refine ak.apC (es:=es) (by omega) rfl h4 ?_;rw[Iu (QY 20) _ ts hts];exact Ab _ ts .shared (qAa hb)
    ·cases h
  ·cases h
 ·cases h
theorem aln(H:List AObj)(es:List (List AV))(tag:Tag)(hl:es.length≤140737488355328):ak Tryz.prog 70 [.slice es tag] H (.slice es .shared) H:=by
 intro κ aN w vs hen hvl hr;have h0:=hr 0 (by simp)
 match vs,hvl with
 |[v],_=>
 simp only[List.getD,qAp,qAi]at h0;cases h0 with
 |@slice _ _ a cap b off sz u h1 h2 h3 h3' h4 h5 h6 ht=>
  refine(zP a es.length cap h3 hl w).mono ?_;rintro e w' ⟨rfl,rfl⟩;refine⟨_,κ,rfl,Leave.same hen (qCs _ _),?_⟩;exact .slice b off sz u h1 h2 (qAc _) h3' h4 h5 h6 trivial
def ame(H:List AObj):List AV→Option (AV×List AObj)
 |[.slice es _]=>bif Nat.ble es.length 140737488355328 then some (.slice es .shared,H)else none
 |_=>none
theorem aow:∀args H r,ame H args=some r→ak Tryz.prog 70 args H r.1 r.2:=by
 intro args H r h;unfold ame at h;split at h
 ·rename_i es t;cases hb:Nat.ble es.length 140737488355328 with
  |false=>rw[hb]at h;cases h
  |true=>
   rw[hb]at h;simp only[cond_true,Option.some.injEq]at h;subst h;exact aln H es t (qAa hb)
 ·cases h
def ala(H:List AObj):List AV→Option (AV×List AObj)
 |[.str a,.str b]=>match H with
  |[]=>some (.int .i64 (Lib.compareBytes a b),[])
  |_=>none
 |_=>none
theorem anK:∀args H r,ala H args=some r→ak Tryz.prog 61 args H r.1 r.2:=by
 intro args H r h;unfold ala at h;split at h
 ·split at h
  ·cases h;exact EU 0 _ _ _ rfl
  ·cases h
 ·cases h
def aqx(H:List AObj)(es:List (List AV)):Tag→Option (AV×List AObj)
 | .tip l z=>match H with
  |[.tip m]=>bif Nat.beq l 0&&Nat.beq z 4 then some (.slice es (.tip 1 4),[.tip m,.tip (es.length*4)])else none
  |_=>none
 |_=>match H with
  |[]=>some (.slice es (.tip 0 4),[.tip (es.length*4)])
  |_=>none
def akC(H:List AObj):List AV→Option (AV×List AObj)
 |[.slice es t]=>match I5 (TJ 20) es with
  |some ts=>bif Lm ts.length&&Nat.ble ts.length 140737488355328 then aqx H es t else none
  |none=>none
 |_=>none
theorem aoE:∀args H r,akC H args=some r→ak Tryz.prog 107 args H r.1 r.2:=by
 intro args H r h;unfold akC at h;split at h
 ·rename_i es t;split at h
  ·rename_i ts hts;cases hb:(Lm ts.length&&Nat.ble ts.length 140737488355328)with
   |false=>rw[hb]at h;cases h
   |true=>
    rw[hb]at h;simp only[cond_true]at h;simp only[qAd]at hb;have e:=Iu (QY 20) es ts hts;subst e;have happ:app 56 ([]:List Val) ts=some ts:=by
     unfold app;rw[if_pos ⟨by have:=qAa hb.1;simpa using this,by have:=qAa hb.2;simpa using this⟩];rfl
    unfold aqx at h;split at h
    ·rename_i l z;split at h
     ·rename_i m;cases hc:(Nat.beq l 0&&Nat.beq z 4)with
      |false=>rw[hc]at h;cases h
      |true=>
       rw[hc]at h;simp only[cond_true,Option.some.injEq]at h;subst h;simp only[qAd]at hc;rw[qAg hc.1,qAg hc.2,qAo];exact Rn m 56 ts ts happ rfl
     ·cases h
    ·rename_i hnt;split at h
     ·cases h;rw[qAo];cases t with
      |shared=>exact HZ 56 ts ts happ rfl
      |nils=>exact RH 56 ts ts happ rfl
      |tip l z=>exact(hnt l z rfl).elim
      |full m=>exact(HZ 56 ts ts happ rfl).args (.cons (.share _ _) .nil)
     ·cases h
  ·cases h
 ·cases h
noncomputable def alZ:jG:=fun f args H=>
 bif Nat.beq f 160 then ah2 H args else bif Nat.beq f 63 then aku H args else bif Nat.beq f 61 then ala H args else bif Nat.beq f 107 then akC H args else bif Nat.beq f 70 then ame H args else none
theorem aoa:∀f args H r,alZ f args H=some r→ak Tryz.prog f args H r.1 r.2:=by
 intro f args H r h;unfold alZ at h;cases h1:Nat.beq f 160 with
 |true=>rw[h1]at h;rw[qAg h1];exact alU args H r h
 |false=>
 rw[h1]at h;simp only[cond_false]at h;cases h2:Nat.beq f 63 with
 |true=>rw[h2]at h;rw[qAg h2];exact aoc args H r h
 |false=>
 rw[h2]at h;simp only[cond_false]at h;cases h3:Nat.beq f 61 with
 |true=>rw[h3]at h;rw[qAg h3];exact anK args H r h
 |false=>
 rw[h3]at h;simp only[cond_false]at h;cases h4:Nat.beq f 107 with
 |true=>rw[h4]at h;rw[qAg h4];exact aoE args H r h
 |false=>
 rw[h4]at h;simp only[cond_false]at h;cases h5:Nat.beq f 70 with
 |true=>rw[h5]at h;rw[qAg h5];exact aow args H r h
 |false=>rw[h5]at h;cases h
def okB(f:Nat):Bool:=Nat.blt 1 f&&(Nat.blt f 348&&!(Nat.beq f 172))
theorem aon:((List.range 348).all fun f=>!(Nat.blt 1 f&&!(Nat.beq f 172)) ||aZ Tryz.prog f)=true:=by kernel_rfl
theorem ao4:∀f,okB f=true→aZ Tryz.prog f=true:=by
 intro f h;simp only[okB,qAd]at h;have:=qAC.1 aon f (qBi.2 (qAa h.2.1));simpa[h.1,h.2.2]using this
end
section
open Go
def Ctx.re(C:Ctx)(κ:bg)(s:ASt)(w:World)(D:Nat):Ctx:={C with old:=fun b=>C.old b∨b=D,w0:=w,k0:=κ,pvE:=aO C.aN κ s.heap}
theorem Sim.apF{C:Ctx}{κ:bg}{s:ASt}{a:Act}{w:World}(h:Sim C κ s a w){D:Nat}(hD:D<w.heap.size)(hf:∀l,at? κ l≠some D):Sim (C.re κ s w D) κ s a w where
 defers:=h.defers
 len:=h.len
 slot:=h.slot
 klen:=h.klen
 kext:=bV.refl _
 resv:=h.resv
 obj:=h.obj
 apart:=h.apart
 own:=fun l b h1 h2 ho=>by
  rcases ho with ho|ho
  ·exact h.own l b h1 h2 ho
  ·exact hf l (by rw[h1,ho])
 bound:=h.bound
 pvold:=fun b o hp=>.inl (h.pvold b o hp)
 oldlt:=fun b hb=>by
  rcases hb with hb|hb
  ·exact qAq (h.oldlt b hb) h.size
  ·rw[hb];exact hD
 old:=fun _ _=>rfl
 os:=rfl
 tape:=rfl
 output:=rfl
 size:=qAc _
 pvsub:=fun _ _ hp _=>hp
 iH:=Evo.refl _ _
theorem Sim.apw{C:Ctx}{κ:bg}{s:ASt}{a:Act}{w:World}(h:Sim C κ s a w){D:Nat}{κ':bg}{s':ASt}{a':Act}{w':World}(h':Sim (C.re κ s w D) κ' s' a' w'):Sim C κ' s' a' w'∧w'.heap[D]? =w.heap[D]?:=
 ⟨{
   defers:=h'.defers
   len:=h'.len
   slot:=h'.slot
   klen:=h'.klen
   kext:=h.kext.trans h'.kext
   resv:=h'.resv
   obj:=h'.obj
   apart:=h'.apart
   own:=fun l b h1 h2 ho=>h'.own l b h1 h2 (.inl ho)
   bound:=h'.bound
   pvold:=h.pvold
   oldlt:=h.oldlt
   old:=fun b hb=>(h'.old b (.inl hb)).trans (h.old b hb)
   os:=h'.os.trans h.os
   tape:=h'.tape.trans h.tape
   output:=h'.output.trans h.output
   size:=qAj h.size h'.size
   pvsub:=fun b o hp hlt=>h.pvsub b o (h'.pvsub b o hp (qAq hlt h.size)) hlt
   iH:=h.iH.trans h'.iH fun x o hp hlt=>h.pvsub x o hp hlt},
  h'.old D (.inr rfl)⟩
open Go.RowKit in
theorem acP{P:Program}{g:Operand}{ps:Array Tmp}{assign body:Code}{Q:Exit→Act→World→Prop}{a:Act}{w:World}{gf:Nat}{lb:Array Value}
  (hg:a.eval g=.func (.func gf) #[] lb) (eg:∀args w,(callFunc gf args).run P w=.ok (.enter gf args) w)
  (hcall:∀(W:World) (y:Value),Below w.heap.size w W→Calls P gf (#[y]++lb) W fun e W'=>(∃v,e=.returned v)∧W'=W)
  (hdone:∀W:World,Below w.heap.size w W→W.heap[w.heap.size]? =some (.deferred (some []))→Q .normal {a with defers:={target:=.collected w.heap.size,args:=#[]}::a.defers} W):
  (Code.rangeFunc g ps assign body).wp P Q a w:=by
 refine(wpIn_wide (n:=1)).1 (wpIn_rangeFunc ?_);intro fn _;obtain⟨r,hr⟩:∃r:Loop,r={state:=.ready,pending:=none,fn,tmps:=a.tmps,params:=ps,assign,body,defers:=w.heap.size}:=⟨_,rfl⟩;obtain⟨W1,hW1⟩:∃W1,(w.alloc (.deferred (some []))).alloc (.loop r)=W1:=⟨_,rfl⟩;have hL1:W1.heap[w.heap.size+1]? =some (.loop r):=by
  rw[←hW1];have:=World.alloc_heap_new (w.alloc (.deferred (some []))) (.loop r);rwa[World.size_alloc]at this
 have hK1:W1.heap[w.heap.size]? =some (.deferred (some [])):=by
  rw[←hW1];exact(Below.heap_alloc _ _ _ (by simp)).trans (World.alloc_heap_new w _)
 have hb1:Below w.heap.size w W1:=by
  rw[←hW1];exact((Below.refl _ w).alloc (qAc _) _).alloc (by simp) _
 refine⟨w.heap.size+1,[{target:=.collected w.heap.size,args:=#[]}],W1,{target:=.fn (.func gf) lb,args:=#[.func (.yield (w.heap.size+1)) #[] #[]]},W1,gf,
  #[.func (.yield (w.heap.size+1)) #[] #[]]++lb,W1,?_,?_,fun _ _=>trivial,?_,(fun h=>by cases h),callsIn_wide.2 ((hcall W1 _ hb1).mono ?_)⟩
 ·rw[←hW1,hr];exact run_enterLoop_outer _ _ _ _ _
 ·simp only[resolve,hg];simp[go_sem]
 ·simp[invoke,go_sem,eg]
 ·rintro e W' ⟨⟨v,rfl⟩,rfl⟩;refine⟨none,_,by rw[run_endLoop hL1 (by rw[hr];simp),hr],?_⟩;have hlt:w.heap.size+1<W'.heap.size:=(qAI.1 hL1).1;refine hdone _ ⟨hb1.os,hb1.tape,hb1.output,by simpa[World.putObj]using hb1.size,fun b hb=>?_⟩ ((World.putObj_heap_other (by omega)).trans hK1);exact(World.putObj_heap_other (by omega)).trans (hb1.block b hb)
theorem Evo.grow{pv:bB}{w W:World}(hb:Go.RowKit.Below w.heap.size w W):Evo pv w W:=
 ⟨hb.size,fun b off u _ hc=>by
  have hlt:=lt_of_cell hc;simp only[World.cell?,hb.block b hlt]at hc⊢;exact hc,fun b c e z hx=>⟨c,by rw[hb.block b (qAI.1 hx).1];exact hx,rfl⟩⟩
theorem Sim.grow{C:Ctx}{κ:bg}{s:ASt}{a:Act}{w W:World}(h:Sim C κ s a w)(hb:Go.RowKit.Below w.heap.size w W):Sim C κ s a W where
 defers:=h.defers
 len:=h.len
 slot:=fun n hn=>(h.slot n hn).mono (Evo.grow (pv:=aO C.aN κ s.heap) hb) (bV.refl _) (fun _ _ hp _=>hp)
 klen:=h.klen
 kext:=h.kext
 resv:=h.resv
 obj:=fun l b h1 h2=>(h.obj l b h1 h2).mono (hb.block b (h.bound l b h1)) (Evo.grow hb) (bV.refl _) (fun _ _ hp _=>hp)
 apart:=h.apart
 own:=h.own
 bound:=fun l b h1=>qAq (h.bound l b h1) hb.size
 pvold:=h.pvold
 oldlt:=h.oldlt
 old:=fun b hb'=>(hb.block b (qAq (h.oldlt b hb') h.size)).trans (h.old b hb')
 os:=hb.os.trans h.os
 tape:=hb.tape.trans h.tape
 output:=hb.output.trans h.output
 size:=qAj h.size hb.size
 pvsub:=h.pvsub
 iH:=h.iH.trans (Evo.grow (pv:=C.pvE) hb) fun _ _ hp _=>hp
theorem Evo.abX{pv:bB}{w:World}{D:Nat}{x:Option (List Deferred)}(hD:w.heap[D]? =some (.deferred x)):Evo pv w (w.putObj D (.deferred none)):=by
 refine⟨by simp[World.putObj],fun b off u _ hc=>?_,fun b c e z hx=>⟨c,?_,rfl⟩⟩
 ·by_cases e:b=D
  ·subst e;simp[World.cell?,hD]at hc
  ·simp only[World.cell?,World.putObj_heap_other e]at hc⊢;exact hc
 ·by_cases e':b=D
  ·grind
  ·rw[World.putObj_heap_other e'];exact hx
theorem Sim.abX{C:Ctx}{κ:bg}{s:ASt}{a:Act}{w:World}(h:Sim C κ s a w){D:Nat}{x:Option (List Deferred)}(hD:w.heap[D]? =some (.deferred x))(ho:¬C.old D)(hl:∀l,at? κ l=some D→¬live (obj? s.heap l)):Sim C κ s a (w.putObj D (.deferred none)) where
 defers:=h.defers
 len:=h.len
 slot:=fun n hn=>(h.slot n hn).mono (Evo.abX (pv:=aO C.aN κ s.heap) hD) (bV.refl _) (fun _ _ hp _=>hp)
 klen:=h.klen
 kext:=h.kext
 resv:=h.resv
 obj:=fun l b h1 h2=>(h.obj l b h1 h2).mono (World.putObj_heap_other (fun e=>hl l (by rw[h1,e]) h2)) (Evo.abX hD) (bV.refl _) (fun _ _ hp _=>hp)
 apart:=h.apart
 own:=h.own
 bound:=fun l b h1=>by simpa[World.putObj]using h.bound l b h1
 pvold:=h.pvold
 oldlt:=h.oldlt
 old:=fun b hb'=>(World.putObj_heap_other (fun e=>ho (by rw[←e];exact hb'))).trans (h.old b hb')
 os:=h.os
 tape:=h.tape
 output:=h.output
 size:=by simpa[World.putObj]using h.size
 pvsub:=h.pvsub
 iH:=h.iH.trans (Evo.abX (pv:=C.pvE) hD) fun _ _ hp _=>hp
end
section
open Go Go.Proofs
theorem anN(x0 x1 x2 x3:Value)(w:World):CallsD Tryz.prog 148 #[x0,x1,x2,x3] .returning w fun e u' w'=>e=.returned (.tuple #[])∧u'=.returning∧w'=w:=by
 refine callsD_of_wpS Tryz.func148 rfl fun c₀ cs hu=>?_;apply wpS_seq;apply wpS_region;simp[wpOpsS,go_sem,recoverD,hu,Tryz.ntmps148,Exit.thenS];refine wpS_of_wp ?_;refine wp_block ?_;refine wp_seq ?_;apply wp_region;simp[wpOps,go_sem,Exit.then]
 first
  |refine wp_cond_true (by simp[Act.eval,go_sem]) ?_
  |refine .inl (wp_cond_true (by simp[Act.eval,go_sem]) ?_)
 apply wp_region;cases c₀
 simp_all [wpOps,go_sem,Exit.inBlock,bodyPostS,results,Tryz.results148]
theorem Sim.deferred{C:Ctx}{κ:bg}{s:ASt}{a:Act}{w:World}(h:Sim C κ s a w)(D:List Deferred):Sim {C with ds:=D} κ s {a with defers:=D} w:=
 {h with defers:=rfl}
theorem acU{fn:Func}{args:List AV}{H:List AObj}{κ:bg}{aN:bB}{w:World}{vs:List Value}(hen:Entry κ aN H w)(hvl:vs.length=args.length)(hr:∀j,j<args.length→Rel w κ (aO aN κ H) (args.getD j .unk) (vs.getD j undef)):
  Sim (bodyC κ aN H w []) κ ⟨args++List.replicate (fn.ntmps - args.length) (.tup []),H⟩ {tmps:=vs.toArray++Array.replicate (fn.ntmps - vs.toArray.size) undef,defers:=[]} w:=by
 refine⟨rfl,by simp[hvl],?_,hen.klen,bV.refl _,hen.resv,hen.obj,hen.apart,fun l b h1 h2 ho=>ho.2 l h1 h2,hen.bound,fun b o h=>⟨hen.pvlt b o h,fun l hl=>hen.pvdis b o l h hl⟩,fun b hb=>hb.1,fun _ _=>rfl,rfl,rfl,rfl,qAc _,fun _ _ h _=>h,Evo.refl _ _⟩;intro n hn;simp only[qAl,qBC]at hn;by_cases hlt:n<args.length
 ·have e1:(args++List.replicate (fn.ntmps - args.length) (AV.tup [])).getD n .unk=args.getD n .unk:=by simp[List.getD,qAf hlt]
  have e2:(vs.toArray++Array.replicate (fn.ntmps - vs.toArray.size) undef).getD n undef=vs.getD n undef:=by
   rw[qAh,qAS (by simp;omega)];simp[List.getD]
  rw[e1,e2];exact hr n hlt
 ·have e1:(args++List.replicate (fn.ntmps - args.length) (AV.tup [])).getD n .unk=.tup []:=by
   rw[List.getD,qAm (qAu hlt),qBy,if_pos (by omega)];rfl
  have e2:(vs.toArray++Array.replicate (fn.ntmps - vs.toArray.size) undef).getD n undef=undef:=by
   rw[qAh,qBg (by simp;omega),qBJ];split<;>rfl
  rw[e1,e2];exact jr
theorem akj{r0 r1 r3:Code}{id:Nat}{o1 o2:Oper}{args:List AV}{H H':List AObj}{res:AV}{sA sB:ASt}{L:List Nat}{fn:Func}{capO:Array Operand}
  (hf:Tryz.prog.funcs[84]? =some fn) (hb:fn.body=some (r0.seq (r1.seq ((Code.region id #[o1,o2] false).seq r3)))) (hlen:args.length≤fn.ntmps)
  (h1:o1.op=.makeFunc (.func 148) #[] capO) (g1:o1.guard=none) (d1:o1.dst=some 12) (h2:o2.op=.defer {callee:=.value (.tmp 12),args:=#[],argTypes:=#[]}) (g2:o2.guard=none) (d2:o2.dst=none) (hcap:∃a b c d,capO=#[a,b,c,d]) (h12:12<sB.tmps.length)
  (hr0:dM Tryz.prog r0 (fun e s=>e=.normal∧s=sA) ⟨args++List.replicate (fn.ntmps - args.length) (.tup []),H⟩)
  (hr1:dM Tryz.prog r1 (fun e s=>e=.normal∧s=sB) sA)
  (hr3:dM Tryz.prog r3 (Mx (zU Tryz.prog fn.results.toList false L H res H')) (sB.wr (aI (some 12) .unk))):ak Tryz.prog 84 args H res H':=by
 intro κ aN w vs hen hvl hr;refine calls_of_wp_defers hf hb ?_;have hsim:Sim (bodyC κ aN H w []) κ ⟨args++List.replicate (fn.ntmps - args.length) (.tup []),H⟩ {tmps:=vs.toArray++Array.replicate (fn.ntmps - vs.toArray.size) undef,defers:=[]} w:=acU hen hvl hr;refine wp_seq (wp_mono (hr0 _ κ _ w hsim) ?_);rintro e a w1 ⟨s,κ1,⟨rfl,rfl⟩,hs1⟩;refine wp_seq (wp_mono (hr1 _ κ1 _ w1 hs1) ?_);rintro e a w2 ⟨s,κ2,⟨rfl,rfl⟩,hs2⟩;refine wp_seq (wp_region ?_);obtain⟨xa,xb,xc,xd,rfl⟩:=hcap;obtain⟨_,_,ty1,ps1,af1,_⟩:=o1;obtain⟨_,_,ty2,ps2,af2,_⟩:=o2;simp only at h1 g1 d1 h2 g2 d2;subst h1 g1 d1 h2 g2 d2;have h12':12<a.tmps.size:=by rw[hs2.len];exact h12
 have hmf:∀(fn:Fn) (first cap:Array Value) (w:World),(Instr.makeFunc fn first cap).run Tryz.prog w=.ok (.func fn first cap) w:=fun _ _ _ _=>rfl;have key:∀xs:Array Value,∃u,u=Value.func (.func 148) #[] xs:=fun xs=>⟨_,rfl⟩;simp only[wpOps,Region.wanted,Array.size,List.range,List.range.loop,List.size_toArray,qAv,qAE];simp[hmf,go_sem,h12'];refine .inl ?_;have fin:∀xs:Array Value,xs.size=4→r3.wp Tryz.prog (bodyPostD Tryz.prog fn fun e w'=>∃v' κ',e=Ending.returned v'∧Leave κ κ' aN H H' w w'∧Rel w' κ' (aO aN κ' H') res v') {tmps:=a.tmps.setIfInBounds 12 (.func (.func 148) #[] xs),defers:=[{target:=.fn (.func 148) xs,args:=#[]}]} w2:=by
  intro xs hxs;obtain⟨va,vb,vc,vd,rfl⟩:∃va vb vc vd,xs=#[va,vb,vc,vd]:=by
   obtain⟨l⟩:=xs
   match l,hxs with
   |[va,vb,vc,vd],_=>exact⟨va,vb,vc,vd,rfl⟩
  have hs3:=(hs2.aI (some 12) (v:=.unk) (u:=.func (.func 148) #[] #[va,vb,vc,vd]) (.unk _)).deferred [{target:=.fn (.func 148) #[va,vb,vc,vd],args:=#[]}];refine wp_mono (hr3 _ κ2 _ w2 hs3) ?_;have fin2:∀(s':ASt) (κ':bg) (a':Act) (w':World),zU Tryz.prog fn.results.toList false L H res H' s'→Sim (bodyC κ aN H w [{target:=.fn (.func 148) #[va,vb,vc,vd],args:=#[]}]) κ' s' a' w'→Leaves Tryz.prog fn a'.tmps (fun e w'=>∃v' κ',e=Ending.returned v'∧Leave κ κ' aN H H' w w'∧Rel w' κ' (aO aN κ' H') res v') a'.defers .returning w':=by
   intro s' κ' a' w' hq hs';rw[hs'.defers];refine leaves_cons (f:=148) (args:=#[va,vb,vc,vd]) (by simp) (by simp[go_sem]) ?_;refine(anN va vb vc vd w').mono ?_;rintro e u w'' ⟨rfl,rfl,rfl⟩;obtain⟨v,hv1,v',κ'',e1,h1,h2⟩:=He hen _ s' κ' a' _ hq hs';exact⟨v,hv1,v',κ'',e1,h1,h2⟩
  rintro e a' w' ⟨s',κ',hq,hs'⟩;cases e with
  |normal=>exact fin2 s' κ' a' w' hq hs'
  |ret=>exact fin2 s' κ' a' w' hq hs'
  |exit id=>exact hq.elim
  |goto l=>exact hq.elim
  |panic c=>exact hq.elim
  |outgrown=>exact hq.elim
 have hd0:a.defers=[]:=hs2.defers;rw[hd0];have h:=fin #[a.eval xa,a.eval xb,a.eval xc,a.eval xd] rfl;simp[go_sem]at h;exact .inl h
end
section
open Go Go.Proofs
theorem ai3(y:Value)(bk:Nat)(ad:Option Addr)(cap:Nat)(W:World)(hc:W.cell? ⟨bk,0,none⟩=some (.slice ad 0 cap)):Calls Tryz.prog 312 #[y,.pointer (some ⟨bk,0,none⟩)] W fun e W'=>(∃v,e=.returned v)∧W'=W:=by
 go_enter Tryz.func312,Tryz.ntmps312
 go_wp2
 refine wp_loop_once ?_
 go_wp2
 simp[bodyPost,Exit.inBlock,results,Tryz.results312,go_sem]
theorem adI{r0 r1 rest assign body:Code}{ps:Array Tmp}{id:Nat}{args:List AV}{H H':List AObj}{res:AV}{sA sB:ASt}{L:List Nat}{fn:Func}{p:Nat}
  (hf:Tryz.prog.funcs[196]? =some fn) (hb:fn.body=some (r0.seq ((r1.seq (.block id (.rangeFunc (.tmp 16) ps assign body))).seq rest)))
  (hr0:dM Tryz.prog r0 (fun e s=>e=.normal∧s=sA) ⟨args++List.replicate (fn.ntmps - args.length) (.tup []),H⟩)
  (hr1:dM Tryz.prog r1 (fun e s=>e=.normal∧s=sB) sA)
  (h16:sB.tmps.getD 16 .unk=.func 312 [.ptr p 0]) (h16l:16<sB.tmps.length) (hp:(∃tag,obj? sB.heap p=.box [.slice [] tag])∨∃l z,obj? sB.heap p=.box [.psl l z 0])
  (hrest:dM Tryz.prog rest (Mx (zU Tryz.prog fn.results.toList false L H res H')) sB):ak Tryz.prog 196 args H res H':=by
 intro κ aN w vs hen hvl hr;refine(callsIn_wide (n:=1)).1 (callsIn_of_wp_marks hf hb trivial (wpIn_wide.2 ?_));have hsim:=acU (fn:=fn) hen hvl hr;refine wp_seq (wp_mono (hr0 _ κ _ w hsim) ?_);rintro e a w1 ⟨s,κ1,⟨rfl,rfl⟩,hs1⟩;refine wp_seq (wp_seq (wp_mono (hr1 _ κ1 _ w1 hs1) ?_));rintro e a w2 ⟨s,κ2,⟨rfl,rfl⟩,hs2⟩;have h1:=hs2.slot 16 h16l;rw[h16]at h1;obtain⟨us,e1,hul,hur⟩:=h1.xI
 match us,hul with
 |[u],_=>
 have h2:=hur 0 (by simp);simp only[List.getD,qAp,qAi]at h2;obtain⟨bk,rfl,hbk⟩:=h2.tN;have hcx:∃ad cap,w2.cell? ⟨bk,0,none⟩=some (.slice ad 0 cap):=by
  rcases hp with⟨tag,hp⟩|⟨l,z,hp⟩
  ·have ho:=hs2.obj p bk hbk (by rw[hp];trivial);rw[hp]at ho;obtain⟨c,el,q1,q2,q3⟩:=ho;have h3:=q3 0 (by simp);simp only[List.getD,qAp,qAi]at h3;have hcell:w2.cell? ⟨bk,0,none⟩=some (c.getD 0 undef):=by
    have:0<c.size:=by rw[q2];simp
    simp[World.cell?,q1,Array.getD,this]
   obtain⟨ad,cap,e3,_,_⟩:=h3.jL;rw[e3]at hcell;exact⟨ad,cap,hcell⟩
  ·have ho:=hs2.obj p bk hbk (by rw[hp];trivial);rw[hp]at ho;obtain⟨c,el,q1,q2,q3⟩:=ho;have h3:=q3 0 (by simp);simp only[List.getD,qAp,qAi]at h3;have hcell:w2.cell? ⟨bk,0,none⟩=some (c.getD 0 undef):=by
    have:0<c.size:=by rw[q2];simp
    simp[World.cell?,q1,Array.getD,this]
   generalize c.getD 0 undef=cv at h3 hcell;cases h3 with
   |psl=>exact⟨_,_,hcell⟩
 obtain⟨ad,cap,hcell⟩:=hcx;have hbl:bk<w2.heap.size:=hs2.bound p bk hbk;have hd0:a.defers=[]:=hs2.defers;refine wp_block (acP (gf:=312) (lb:=#[.pointer (some ⟨bk,0,none⟩)]) (by simpa[Act.eval]using e1) (enters_of Tryz.func312 (by kernel_rfl) rfl) ?_ ?_)
 ·intro W y hbel;refine ai3 y bk ad cap W ?_;simp only[World.cell?,hbel.block bk hbl]at hcell⊢;exact hcell
 ·intro W hbel hD;have hs3:=(hs2.grow hbel).deferred [{target:=.collected w2.heap.size,args:=#[]}];have hDlt:w2.heap.size<W.heap.size:=(qAI.1 hD).1;have hs4:=hs3.apF hDlt (fun l h=>qCy _ (hs2.bound l _ h));rw[hd0];refine wp_mono (hrest _ κ2 _ W hs4) ?_;have fin:∀(s':ASt) (κ':bg) (a':Act) (w':World),zU Tryz.prog fn.results.toList false L H res H' s'→Sim (Ctx.re {bodyC κ aN H w []with ds:=[{target:=.collected w2.heap.size,args:=#[]}]} κ2 s W w2.heap.size) κ' s' a' w'→LeavesInM Fence.wide 1 Tryz.prog fn a'.tmps (fun e w'=>∃v' κ',e=Ending.returned v'∧Leave κ κ' aN H H' w w'∧Rel w' κ' (aO aN κ' H') res v') a'.defers .returning w':=by
   intro s' κ' a' w' hq hs';obtain⟨hs5,hDk⟩:=hs3.apw hs';rw[hD]at hDk;have hs6:=hs5.abX hDk (fun h=>qCy _ (qAq h.1 hs2.size)) (fun l h1 h2=>hs'.own l _ h1 h2 (.inr rfl));rw[hs'.defers];obtain⟨v,hv1,hv2⟩:=He hen _ s' κ' a' _ hq hs6;exact⟨by simp,.inl ⟨_,_,rfl,run_takeDeferred hDk,v,hv1,hv2⟩⟩
  rintro e a' w' ⟨s',κ',hq,hs'⟩;cases e with
  |normal=>exact fin s' κ' a' w' hq hs'
  |ret=>exact fin s' κ' a' w' hq hs'
  |exit id=>exact hq.elim
  |goto l=>exact hq.elim
  |panic c=>exact hq.elim
  |outgrown=>exact hq.elim
end
section
open Go Go.Proofs
noncomputable def xc(call:jG)(c:Code)(s:ASt):Option (Exit×ASt):=Mi Tryz.prog call okB [(60,59,1),(1,0,4)] [145,187] 100000 c s
theorem QJ{call:jG}(hc:∀f args H r,call f args H=some r→ak Tryz.prog f args H r.1 r.2){c:Code}{s:ASt}{e:Exit}{s':ASt}{Q:Exit→ASt→Prop}(h:xc call c s=some (e,s'))(hQ:Q e s'):dM Tryz.prog c Q s:=
 TY jF hc ao4 _ _ _ _ _ _ h hQ
noncomputable def aex(call:jG)(fn:Func)(H:List AObj)(c:Code)(s:ASt):Option (AV×List AObj):=
 match xc call c s with
 |some (.ret,s)=>KJ Tryz.prog fn.results.toList H.length s
 |some (.normal,s)=>KJ Tryz.prog fn.results.toList H.length s
 |_=>none
theorem YS{call:jG}(hc:∀f args H r,call f args H=some r→ak Tryz.prog f args H r.1 r.2){fn:Func}{H:List AObj}{c:Code}{s:ASt}{r:AV×List AObj}(h:aex call fn H c s=some r):∃L,dM Tryz.prog c (Mx (zU Tryz.prog fn.results.toList false L H r.1 r.2)) s:=by
 unfold aex at h;split at h
 ·rename_i s' hx;obtain⟨L,hL⟩:=JA h;exact⟨L,QJ hc hx hL⟩
 ·rename_i s' hx;obtain⟨L,hL⟩:=JA h;exact⟨L,QJ hc hx hL⟩
 ·cases h
def XF:Code→Code
 | .seq a _=>a
 |c=>c
def Lv:Code→Code
 | .seq _ b=>b
 |c=>c
noncomputable def bd(fn:Func):Code:=match fn.body with
 |some c=>c
 |none=>.skip
noncomputable def l0:Code:=XF (bd Tryz.f196)
noncomputable def l1:Code:=XF (XF (Lv (bd Tryz.f196)))
noncomputable def l2:Code:=Lv (XF (Lv (bd Tryz.f196)))
noncomputable def l3:Code:=Lv (Lv (bd Tryz.f196))
theorem abQ:∃id ps assign body,Tryz.f196.body=some (l0.seq ((l1.seq (.block id (.rangeFunc (.tmp 16) ps assign body))).seq l3)):=⟨_,_,_,_,rfl⟩
def UR:AObj→Bool
 | .box [.slice [] _]=>true
 | .box [.psl _ _ 0]=>true
 |_=>false
theorem ajn{o:AObj}(h:UR o=true):(∃tag,o=.box [.slice [] tag])∨∃l z,o=.box [.psl l z 0]:=by
 unfold UR at h;split at h
 ·exact .inl ⟨_,rfl⟩
 ·exact .inr ⟨_,_,rfl⟩
 ·cases h
noncomputable def abt(call:jG)(args:List AV)(H:List AObj):Option (AV×List AObj):=
 match xc call l0 ⟨args++List.replicate (Tryz.f196.ntmps - args.length) (.tup []),H⟩with
 |some (.normal,sA)=>match xc call l1 sA with
  |some (.normal,sB)=>match sB.tmps.getD 16 .unk with
   | .func g [.ptr p o]=>bif Nat.beq g 312&&(Nat.beq o 0&&(Nat.blt 16 sB.tmps.length&&UR (Um sB.heap p)))then aex call Tryz.f196 H l3 sB else none
   |_=>none
  |_=>none
 |_=>none
theorem akK{call:jG}(hc:∀f args H r,call f args H=some r→ak Tryz.prog f args H r.1 r.2){args:List AV}{H:List AObj}{r:AV×List AObj}(h:abt call args H=some r):ak Tryz.prog 196 args H r.1 r.2:=by
 unfold abt at h;split at h
 ·rename_i sA hA;split at h
  ·rename_i sB hB;split at h
   ·rename_i g p o h16;cases hb:(Nat.beq g 312&&(Nat.beq o 0&&(Nat.blt 16 sB.tmps.length&&UR (Um sB.heap p))))with
    |false=>rw[hb]at h;cases h
    |true=>
     rw[hb]at h;simp only[cond_true]at h;simp only[qAd]at hb;obtain⟨h1,h2,h3,h4⟩:=hb;have h1:=qAg h1;have h2:=qAg h2;subst h1 h2;rw[QV]at h4;obtain⟨L,hL⟩:=YS hc h;obtain⟨id,ps,assign,body,hs⟩:=abQ;exact adI (L:=L) (p:=p) Tryz.func196 hs (QJ hc hA ⟨rfl,rfl⟩) (QJ hc hB ⟨rfl,rfl⟩) h16 (qAa h3) (ajn h4) hL
   ·cases h
  ·cases h
 ·cases h
noncomputable def e0:Code:=XF (bd Tryz.f84)
noncomputable def e1:Code:=XF (Lv (bd Tryz.f84))
noncomputable def e3:Code:=Lv (Lv (Lv (bd Tryz.f84)))
noncomputable def ah1(call:jG)(args:List AV)(H:List AObj):Option (AV×List AObj):=
 bif Nat.ble args.length Tryz.f84.ntmps then(match xc call e0 ⟨args++List.replicate (Tryz.f84.ntmps - args.length) (.tup []),H⟩with
 |some (.normal,sA)=>match xc call e1 sA with
  |some (.normal,sB)=>bif Nat.blt 12 sB.tmps.length then aex call Tryz.f84 H e3 (sB.wr (aI (some 12) .unk))else none
  |_=>none
 |_=>none)else none
theorem amV{call:jG}(hc:∀f args H r,call f args H=some r→ak Tryz.prog f args H r.1 r.2){args:List AV}{H:List AObj}{r:AV×List AObj}(h:ah1 call args H=some r):ak Tryz.prog 84 args H r.1 r.2:=by
 unfold ah1 at h;cases hl:Nat.ble args.length Tryz.f84.ntmps with
 |false=>rw[hl]at h;cases h
 |true=>
 rw[hl]at h;simp only[cond_true]at h;split at h
 ·rename_i sA hA;split at h
  ·rename_i sB hB;cases hb:Nat.blt 12 sB.tmps.length with
   |false=>rw[hb]at h;cases h
   |true=>
    rw[hb]at h;simp only[cond_true]at h;obtain⟨L,hL⟩:=YS hc h;exact akj (r0:=e0) (r1:=e1) (r3:=e3) (L:=L) Tryz.func84 rfl (qAa hl) rfl rfl rfl rfl rfl rfl ⟨_,_,_,_,rfl⟩ (qAa hb) (QJ hc hA ⟨rfl,rfl⟩) (QJ hc hB ⟨rfl,rfl⟩) hL
  ·cases h
 ·cases h
noncomputable def abA(call:jG)(f:Nat)(args:List AV)(H:List AObj):Option (AV×List AObj):=
 match Tryz.prog.funcs[f]? with
 |none=>none
 |some fn=>match fn.body with
  |none=>none
  |some c=>bif Nat.ble args.length fn.ntmps then aex call fn H c ⟨args++List.replicate (fn.ntmps - args.length) (.tup []),H⟩else none
theorem alB{call:jG}(hc:∀f args H r,call f args H=some r→ak Tryz.prog f args H r.1 r.2){f:Nat}{args:List AV}{H:List AObj}{r:AV×List AObj}(h:abA call f args H=some r):ak Tryz.prog f args H r.1 r.2:=by
 unfold abA at h;split at h
 ·cases h
 ·rename_i fn hf;split at h
  ·cases h
  ·rename_i c hb;cases hl:Nat.ble args.length fn.ntmps with
   |false=>rw[hl]at h;cases h
   |true=>
    rw[hl]at h;simp only[cond_true]at h;obtain⟨L,hL⟩:=YS hc h;exact EI false L hf hb (qAa hl) hL
noncomputable def Qu(E:jG)(n:Nat):jG:=
 Nat.rec (motive:=fun _=>jG) (fun _ _ _=>none) (fun _ ih f args H=>match E f args H with
  |some r=>some r
  |none=>bif Nat.beq f 196 then abt ih args H else bif Nat.beq f 84 then ah1 ih args H else abA ih f args H) n
theorem aiK{E:jG}(hE:∀f args H r,E f args H=some r→ak Tryz.prog f args H r.1 r.2):∀(n f:Nat) (args:List AV) (H:List AObj) (r:AV×List AObj),Qu E n f args H=some r→ak Tryz.prog f args H r.1 r.2:=by
 intro n
 induction n with
 |zero=>intro f args H r h;cases h
 |succ n ih=>
  intro f args H r h;change(match E f args H with
  |some r=>some r
  |none=>bif Nat.beq f 196 then abt (Qu E n) args H else bif Nat.beq f 84 then ah1 (Qu E n) args H else abA (Qu E n) f args H)=some r at h
  split at h
  ·rename_i r' hr;cases h;exact hE _ _ _ _ hr
  ·cases h1:Nat.beq f 196 with
   |true=>rw[h1]at h;rw[qAg h1];exact akK ih h
   |false=>
    rw[h1]at h;simp only[cond_false]at h;cases h2:Nat.beq f 84 with
    |true=>rw[h2]at h;rw[qAg h2];exact amV ih h
    |false=>rw[h2]at h;simp only[cond_false]at h;exact alB ih h
noncomputable def runK(m:List Known)(f:Nat)(args:List AV)(H:List AObj):Option (AV×List AObj):=Qu (known m alZ) 300 f args H
theorem DF{m:List Known}(hm:∀e∈m,ak Tryz.prog e.f e.args e.H e.res e.H'){f:Nat}{args:List AV}{H:List AObj}{r:AV}{H':List AObj}(h:runK m f args H=some (r,H')):ak Tryz.prog f args H r H':=by
 unfold runK at h;generalize 300=n at h;exact aiK (adu aoa m hm) n f args H (r,H') h
end
section
open Go Go.Proofs
theorem BF(n:Nat)(p0:List Val)(r:List Val)(h:tX n p0=some r):ak Tryz.prog 107 [.slice (List.map ah p0) .shared] [] (.psl 0 4 (List.length p0)) [.arr 4 (List.map ah p0)]:=AP 56 p0 r h rfl
theorem wX(n:Nat)(p0:List Val)(r:List Val)(h:qN n p0=some r):ak Tryz.prog 70 [.psl 0 4 (List.length p0)] [.arr 4 (List.map ah p0)] (.psl 0 4 (List.length p0)) [.arr 4 (List.map ah p0)]:=by
 intro κ aN w vs hen hvl hr;have h0:=hr 0 (by simp)
 match vs,hvl with
 |[v],_=>
 simp only[List.getD,qAp,qAi]at h0;cases h0 with
 |@psl _ _ _ cap a g1 g2 g3=>
  refine(zP a _ cap g1 g2 w).mono ?_;rintro e w' ⟨rfl,rfl⟩;refine⟨_,κ,rfl,Leave.same hen (qCs _ _),.psl (qAc _) g2 ?_⟩;obtain⟨_,⟨ha,hc⟩|⟨b,c,el,hb,ha,hh,hs⟩⟩:=g3
  ·exact⟨rfl,.inl ⟨ha,by omega⟩⟩
  ·exact⟨rfl,.inr ⟨b,c,el,hb,ha,hh,qAj (qAH 4 g1) hs⟩⟩
end
end Abs
end Go.Proofs.YtkopaeklihhdlaaGreat
