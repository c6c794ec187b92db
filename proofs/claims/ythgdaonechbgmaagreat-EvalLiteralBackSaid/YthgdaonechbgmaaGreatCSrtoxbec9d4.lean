/-
  eval.sorted: the values in ascending order, each once. Conditions: none.
-/
import Derived.Shelf.SlGeneric
import Derived.Shelf.SlSortCmp.WholeK
import Derived.Test.YthgdaonechbgmaaGreatProg
import Derived.Shelf.SlSortCmp.NoneTotal
import Derived.Test.YthgdaonechbgmaaGreatCCmpoxbd5af4
import Derived.Test.YthgdaonechbgmaaGreatCDrnox04fa00
import Derived.Test.YthgdaonechbgmaaGreatCP2ox7ac579
set_option linter.all false
namespace Go.Proofs.YthgdaonechbgmaaGreat
namespace Abs
section
open Go Go.Proofs Go.Shelf Go.RowKit Go.Lib Go.Sort
def CV(w:World)(pv:bU):Type:={x:List Value×Val//x.1.length=4∧(∀v∈x.1,v.oneCell'=true)∧∀j,j<4→Rel w [] pv ((bf x.2).getD j .unk) (x.1.getD j undef)}
theorem aEL(w:World)(pv:bU):∀j,j<4→Rel w [] pv ((bf (.mk 0 0 [] [])).getD j .unk) (z31.getD j undef):=by
 intro j hj
 match j,hj with
 |0,_=>exact .int (by refine⟨?_,?_⟩<;>decide)
 |1,_=>exact .int (by refine⟨?_,?_⟩<;>decide)
 |2,_=>exact .str (s:=[]) (by simp)
 |3,_=>
  have:=Rel.slice (w:=w) (κ:=[]) (pv:=pv) (es:=[]) (tag:=.shared) (a:=none) (cap:=0) 0 0 1 (fun _ _=>undef) (fun i h=>by cases h) (fun h=>(h rfl).elim) (qAd _) (by simp) (fun i j h=>by cases h) (fun i j h=>by cases h) (fun i j h=>by cases h) trivial;simpa[bf,IL]using this
instance (w:World) (pv:bU):Inhabited (CV w pv):=⟨⟨(z31,.mk 0 0 [] []),rfl,by simp[Value.oneCell'],aEL w pv⟩⟩
def pQ{w:World}{pv:bU}(x:CV w pv):List Value:=x.1.1
def lg{w:World}{pv:bU}(x:CV w pv):Val:=x.1.2
abbrev J6{w:World}{pv:bU}(x y:CV w pv):Int:=bQ (lg x) (lg y)
section
variable {w1:World}{pv1:bU}
theorem Rx(x:CV w1 pv1):(pQ x).length=4:=x.2.1
theorem apH(x:CV w1 pv1):∀v∈pQ x,v.oneCell'=true:=x.2.2.1
theorem apY(x:CV w1 pv1):∀j,j<4→Rel w1 [] pv1 ((bf (lg x)).getD j .unk) ((pQ x).getD j undef):=x.2.2.2
theorem aI0:SWO (ltOf (J6 (w:=w1) (pv:=pv1))) where
 irrefl x:=decide_eq_false (by have:=(gF (lg x) (lg x)).2 rfl;simp only[J6];omega)
 trans x y z h1 h2:=by
  simp only[ltOf,decide_eq_true_eq]at *;exact BF _ _ _ h1 h2
 ntrans x y z h1 h2:=by
  simp only[ltOf,decide_eq_false_iff_not]at *;have a:=ay1 (lg z) (lg y) (lg x) (by simp only[Wt,decide_eq_true_eq];rw[rO (lg y)];simp only[J6]at h2;omega) (by simp only[Wt,decide_eq_true_eq];rw[rO (lg x)];simp only[J6]at h1;omega);simp only[Wt,decide_eq_true_eq]at a;rw[rO (lg x)]at a;simp only[J6];omega
variable {b:Nat}{dk:Array (CV w1 pv1)}{W:World}
theorem SWK.other(h:SWK pQ 4 w1 b 0 dk W){c:Nat}(hc:c≠b)(hl:c<w1.heap.size):W.heap[c]? =w1.heap[c]?:=by
 obtain⟨n,os,rfl⟩:=h;unfold sortWorldK;rw[heap_grow_old _ _ (by rw[size_putRowK];exact hl)];show(w1.heap.modify b _)[c]? =_
 grind
theorem SWK.ny(h:SWK pQ 4 w1 b 0 dk W)(hb:∀o,pv1 b o):Evo pv1 w1 W:=by
 refine⟨h.le,fun c off u hn hc=>?_,fun c d e z hx=>?_⟩
 ·have hne:c≠b:=fun e=>hn (e▸hb off);have hl:=lt_of_cell hc;simp only[World.cell?,SWK.other h hne hl]at hc⊢;exact hc
 ·by_cases hne:c=b
  ·subst hne;obtain⟨n,os,rfl⟩:=h;have hl:c<w1.heap.size:=(qBi.1 hx).1;unfold sortWorldK;rw[heap_grow_old _ _ (by rw[size_putRowK];exact hl)];refine⟨putCells id 0 (flatK pQ 4 dk) d,?_,by simp[putCells]⟩;show(w1.heap.modify c _)[c]? =_;rw[qBI,if_pos rfl,hx];rfl
  ·exact⟨d,by rw[SWK.other h hne (qBi.1 hx).1];exact hx,rfl⟩
theorem an9(h:SWK pQ 4 w1 b 0 dk W)(hb:∀o,pv1 b o)(hpv:∀c o,pv1 c o→c<w1.heap.size)(x y:CV w1 pv1):
  Calls Tryz.prog 76 #[.agg (pQ x).toArray,.agg (pQ y).toArray] W fun e w'=>e=.returned (.int .i64 (J6 x y))∧∃q os',w'=grow (W.drewN q) os':=by
 obtain⟨N,hN⟩:=Eu (lg x) (lg y);have hA:eH Tryz.prog 76 [.agg (bf (lg x)),.agg (bf (lg y))] [] (.int .i64 (bQ (lg x) (lg y))) []:=(qx N).2.2 (lg x,lg y) _ (hN N (qAd _)) _ _ rfl _ _ rfl;rw[iC,iC]at hA;have hevo:=SWK.ny h hb;have key:∀z:CV w1 pv1,Rel W [] pv1 (.agg [.int .i64 (lg z).kind,.int .i64 (lg z).n,.str (lg z).name,.slice (List.map bf (lg z).kids) .shared]) (.agg (pQ z).toArray):=fun z=>by
  refine .agg (by rw[Rx];rfl) fun j hj=>?_;have:=(apY z j hj).mono hevo (dL.refl _) (fun _ _ h _=>h);rwa[iC]at this
 refine quiet_of hA W pv1 (fun c o hc=>qAB (hpv c o hc) hevo.size) [.agg (pQ x).toArray,.agg (pQ y).toArray] rfl (fun j hj=>?_) (.int .i64 (J6 x y)) (fun w' κ pv v hv=>by cases hv;rfl)
 match j,hj with
 |0,_=>exact key x
 |1,_=>exact key y
theorem aBn(hb:∀o,pv1 b o)(hpv:∀c o,pv1 c o→c<w1.heap.size)(size:Nat):CmpLays Tryz.prog 76 #[] (pQ (w:=w1) (pv:=pv1)) 4 J6 b 0 size w1:=by
 intro m os dk hs x y;rw[Array.append_empty];exact an9 ⟨m,os,rfl⟩ hb hpv x y
set_option maxHeartbeats 4000000 in
theorem aCA(h:SWK pQ 4 w1 b 0 dk W)(hb:∀o,pv1 b o)(hpv:∀c o,pv1 c o→c<w1.heap.size)(x y:CV w1 pv1):
  Calls Tryz.prog 78 #[.agg (pQ x).toArray,.agg (pQ y).toArray] W fun e w'=>e=.returned (.bool (J6 x y==0))∧∃q os',w'=grow (W.drewN q) os':=by
 have hcall:=fun W' (h':SWK pQ 4 w1 b 0 dk W')=>an9 h' hb hpv x y;have e1:∀z:CV w1 pv1,∃a b c d:Value,pQ z=[a,b,c,d]:=fun z=>by
  have:=Rx z
  match pQ z,this with
  |[a,b,c,d],_=>exact⟨a,b,c,d,rfl⟩
 obtain⟨xa,xb,xc,xd,hx⟩:=e1 x;obtain⟨ya,yb,yc,yd,hy⟩:=e1 y;rw[hx,hy]at hcall⊢;have hc2:∀o1 o2,Calls Tryz.prog 76 #[.agg #[xa,xb,xc,xd],.agg #[ya,yb,yc,yd]] ((W.alloc o1).alloc o2) fun e w'=>e=.returned (.int .i64 (J6 x y))∧∃q os',w'=grow (((W.alloc o1).alloc o2).drewN q) os':=fun o1 o2=>hcall _ (SWK.alloc (SWK.alloc h o1) o2);have HC:Aside _:=hc2;generalize J6 x y=r at HC⊢;clear hcall h hc2
 go_enter Tryz.func78,Tryz.ntmps78
 go_wp2_with (go_at_call 76;refine(HC.out _ _).mono ?_;rintro e w' ⟨rfl,q,os',rfl⟩)
 go_ret
 refine⟨rfl,q,#[Obj.cells #[xa,xb,xc,xd] 40]++#[Obj.cells #[ya,yb,yc,yd] 40]++os',?_⟩;rw[alloc_eq_grow,alloc_eq_grow,grow_grow,←grow_grow (W.drewN q)];rfl
end
end
section
open Go Go.Proofs Go.Shelf Go.RowKit Go.Lib Go.Sort
theorem axF{a b c:Val}(h1:bQ a b≤0)(h2:bQ b c<0):bQ a c<0:=by
 rcases qCX h1 with h|h
 ·exact BF a b c h h2
 ·rw[(gF a b).1 h];exact h2
theorem ayK(g:Nat→Val)(n:Nat)(hs:∀i j,i<j→j<n→bQ (g i) (g j)≤0):((List.range n).filter (fun j=>j==0 ||!(bQ (g j) (g (j - 1))==0))).map g=sortV ((List.range n).map g):=by
 refine vw ?_ fun x=>?_
 ·rw[List.pairwise_map];have h1:((List.range n).filter (fun j=>j==0 ||!(bQ (g j) (g (j - 1))==0))).Pairwise (·<·):=List.Pairwise.filter _ qDv
  refine List.Pairwise.imp_of_mem ?_ h1;intro i j hi hj hij;obtain⟨hj1,hj2⟩:=qBa.1 hj;have hjn:=qBW.1 hj1;have hj0:(j==0)=false:=by simp;omega
  rw[hj0,qDd]at hj2;have hne:bQ (g j) (g (j - 1))≠0:=by simpa using hj2
  have hlt:bQ (g (j - 1)) (g j)<0:=by
   have:=hs (j - 1) j (by omega) hjn;rw[rO (g (j - 1)) (g j)]at hne;omega
  by_cases e:i=j - 1
  ·rw[e];exact hlt
  ·exact axF (hs i (j - 1) (by omega) (by omega)) hlt
 ·constructor
  ·grind
  ·intro h;obtain⟨i,hi0,rfl⟩:=qAJ.1 h;have hi:=qBW.1 hi0;clear h hi0
   induction i with
   |zero=>exact qAJ.2 ⟨0,qBa.2 ⟨qBW.2 hi,rfl⟩,rfl⟩
   |succ i ih=>
    by_cases e:bQ (g (i+1)) (g i)=0
    ·rw[(gF _ _).1 e];exact ih (by omega)
    grind
theorem atx{l m:List Val}(h:∀x,x∈l↔x∈m):sortV l=sortV m:=vw (cZ l) fun x=>by rw[aV,h x]
section
variable {w1:World}{pv1:bU}
theorem aw4{d d':Array (CV w1 pv1)}(hp:PermIn 0 d.size d d')(hs:SortedIn (ltOf J6) 0 d.size d'):(keptUpTo (RJ (fun x y=>J6 x y==0) d') d' d'.size).map lg=sortV (d.toList.map lg):=by
 obtain⟨h1,_,h3⟩:=hp;have hk:=ayK (fun j=>lg d'[j]!) d'.size (fun i j hij hj=>by
  have:=hs i j (qAZ _) hij (by omega);simp only[ltOf,decide_eq_false_iff_not,J6]at this;rw[rO (lg d'[j]!)];omega)
 have e1:(keptUpTo (RJ (fun x y=>J6 x y==0) d') d' d'.size).map lg=((List.range d'.size).filter (fun j=>j==0 ||!(bQ (lg d'[j]!) (lg d'[j - 1]!)==0))).map (fun j=>lg d'[j]!):=by
  unfold keptUpTo;rw[qBh];rfl
 rw[e1,hk];refine atx fun x=>?_;have e2:(List.range d'.size).map (fun j=>lg d'[j]!)=d'.toList.map lg:=by
  have:=range_map_get d';rw[←this,qBh];rfl
 have e3:d'.extract 0 d.size=d':=by rw[←h1];simp
 have e4:d.extract 0 d.size=d:=by simp
 grind
end
structure Laid(w:World)(pv:bU)(ts:List Val)(w1:World)(b:Nat)(pv1:bU)(d:Array (CV w1 pv1)):Prop where
 below:Go.RowKit.Below w.heap.size w w1
 lo:w.heap.size≤b
 hi:b<w1.heap.size
 pvlt:∀c o,pv1 c o→c<w1.heap.size
 pvb:∀o,pv1 b o
 pvsub:∀c o,pv c o→pv1 c o
 holds:HoldsK pQ 4 w1 b 0 d
 vals:d.toList.map lg=ts
theorem Laid.size{w:World}{pv:bU}{ts:List Val}{w1:World}{b:Nat}{pv1:bU}{d:Array (CV w1 pv1)}(h:Laid w pv ts w1 b pv1 d):d.size=ts.length:=by
 rw[←h.vals];simp
theorem Laid.row{w:World}{pv:bU}{ts:List Val}{w1:World}{b:Nat}{pv1:bU}{d:Array (CV w1 pv1)}(h:Laid w pv ts w1 b pv1 d):RowK pQ 4 w1 b 0 d:=⟨Rx,apH,h.holds,h.hi⟩
def ajY(w:World)(pv:bU)(ts:List Val)(w1:World)(ad:Option Addr)(cap1:Nat):Prop:=∃(b:Nat) (pv1:bU) (d:Array (CV w1 pv1)),ad=some ⟨b,0,none⟩∧ts.length≤cap1∧Laid w pv ts w1 b pv1 d
def axW(w:World)(pv:bU)(ts:List Val)(w2:World)(ad:Option Addr)(cap1:Nat):Prop:=∃(w1:World) (b:Nat) (pv1:bU) (d d':Array (CV w1 pv1)),ad=some ⟨b,0,none⟩∧ts.length≤cap1∧Laid w pv ts w1 b pv1 d∧SWK pQ 4 w1 b 0 d' w2∧PermIn 0 d.size d d'∧SortedIn (ltOf J6) 0 d.size d'
def apA(w:World)(pv:bU)(ts:List Val)(w3:World)(ad:Option Addr)(m:Nat):Prop:=∃(w1:World) (b:Nat) (pv1:bU) (d dk:Array (CV w1 pv1)),ad=some ⟨b,0,none⟩∧Laid w pv ts w1 b pv1 d∧SWK pQ 4 w1 b 0 dk w3∧dk.size=d.size∧m≤d.size∧(List.range m).map (fun j=>lg dk[j]!)=sortV ts
theorem axD{w:World}{κ:aS}{pv:bU}{es:List (List AV)}{t:Tag}{v:Value}(h:Rel w κ pv (.slice es t) v):Rel w κ pv (.slice es .shared) v:=by
 cases h with
 |slice b off sz u h1 h2 h3 h3' h4 h5 h6 ht=>exact .slice b off sz u h1 h2 h3 h3' h4 h5 h6 trivial
theorem Sj{w:World}{κ:aS}{pv:bU}{x:AV}(hx:∀g,ren g x=x){v:Value}(h:Rel w κ pv x v):Rel w [] pv x v:=by
 refine Rel.Ce (g:=fun i=>κ.length+i) (fun i=>?_) h x (hx _).symm;unfold at?
 grind
theorem azk(ts:List Val)(g:Nat→Nat):ren g (.slice (ts.map bf) .shared)=.slice (ts.map bf) .shared:=by
 simp only[ren,xu,apW]
theorem adZ{w:World}{κ:aS}{pv:bU}{x:AV}{v:Value}(h:Rel w κ pv x v)(hs:isScalar x=true):v.oneCell'=true:=by
 cases h<;>first|rfl|(simp[isScalar]at hs;done)
theorem aqi(ts:List Val)(i:Nat)(hi:i<ts.length):(ts.map bf).getD i []=bf ts[i]:=by grind
theorem MV(t:Val)(j:Nat)(g:Nat→Nat):ren g ((bf t).getD j .unk)=(bf t).getD j .unk:=by
 have:=PX g t;rw[←jv,this]
theorem GH(t:Val)(j:Nat)(hj:j<4):isScalar ((bf t).getD j .unk)=true:=by
 rw[iC]
 match j,hj with
 |0,_=>rfl
 |1,_=>rfl
 |2,_=>rfl
 |3,_=>rfl
theorem axB{w:World}{pv:bU}(hpv:∀c o,pv c o→c<w.heap.size){ts:List Val}(hb:ts.length*56≤140737488355328)(hne:0<ts.length){a:Option Addr}{cap:Nat}(hr:Rel w [] pv (.slice (ts.map bf) .shared) (.slice a ts.length cap)):
  Calls Tryz.prog 63 #[.slice a ts.length cap] w fun e w1=>∃ad cap1,e=.returned (.slice ad ts.length cap1)∧ajY w pv ts w1 ad cap1:=by
 have happ:app 56 ([]:List Val) ts=some ts:=by
  unfold app;rw[if_pos ⟨by simpa using hb,by simp;omega⟩];rfl
 have hpve:aH pv [] []=pv:=by funext b o;exact propext (ahx pv [] b o)
 refine(RH 56 ts ts happ rfl [] pv w [.slice a ts.length cap] (ac1 pv w hpv) rfl (fun j hj=>?_)).mono ?_
 ·have:j=0:=by simp at hj;omega
  subst this;rw[hpve];exact hr
 rintro e w1 ⟨v,κ',rfl,hL,hv⟩;cases hv with
 |@psl _ _ _ cap1 ad g1 g2 g3=>
 refine⟨ad,cap1,rfl,?_⟩;obtain⟨_,⟨ha,hc⟩|⟨b,c,el,hat,ha,hh,hs⟩⟩:=g3
 ·omega
 obtain⟨c2,e2,q1,q2,q3,q4⟩:=hL.obj 0 b hat trivial;obtain⟨pv1,hpv1⟩:∃pv1,pv1=aH pv κ' [.arr 4 (ts.map bf)]:=⟨_,rfl⟩;change ∀i j,i<(ts.map bf).length→j<4→Rel w1 κ' (aH pv κ' [.arr 4 (ts.map bf)]) (((ts.map bf).getD i []).getD j .unk) (c2.getD (i*4+j) undef)at q4;rw[←hpv1]at q4;rw[qAi]at q4 q2;have q5:∀i (hi:i<ts.length) j,j<4→Rel w1 κ' pv1 ((bf ts[i]).getD j .unk) (c2.getD (i*4+j) undef):=fun i hi j hj=>by
  have:=q4 i j hi hj;rwa[aqi ts i hi]at this
 let mk:∀i:Fin ts.length,CV w1 pv1:=fun i=>⟨([c2.getD (i.1*4+0) undef,c2.getD (i.1*4+1) undef,c2.getD (i.1*4+2) undef,c2.getD (i.1*4+3) undef],ts[i.1]),rfl,(by
   intro u hu;simp only[qAh,qCm,or_false]at hu;rcases hu with rfl|rfl|rfl|rfl
   ·exact adZ (q5 i.1 i.2 0 (by omega)) (GH _ _ (by omega))
   ·exact adZ (q5 i.1 i.2 1 (by omega)) (GH _ _ (by omega))
   ·exact adZ (q5 i.1 i.2 2 (by omega)) (GH _ _ (by omega))
   ·exact adZ (q5 i.1 i.2 3 (by omega)) (GH _ _ (by omega))),(by
   intro j hj
   match j,hj with
   |0,_=>exact Sj (MV _ _) (q5 i.1 i.2 0 (by omega))
   |1,_=>exact Sj (MV _ _) (q5 i.1 i.2 1 (by omega))
   |2,_=>exact Sj (MV _ _) (q5 i.1 i.2 2 (by omega))
   |3,_=>exact Sj (MV _ _) (q5 i.1 i.2 3 (by omega)))⟩
 refine⟨b,pv1,Array.ofFn mk,ha,g1,⟨⟨hL.os,hL.tape,hL.output,hL.ny.size,fun c hc=>hL.kept c hc fun l h=>by rw[at_nil]at h;cases h⟩,?_,hL.bound 0 b hat,?_,?_,?_,?_,?_⟩⟩
 ·rcases hL.stay 0 b hat trivial with h|⟨l0,h,_⟩
  ·exact h
  ·rw[at_nil]at h;cases h
 ·intro c o hc;rw[hpv1]at hc;rcases hc with hc|⟨l,hc,_⟩
  ·exact qAB (hpv c o hc) hL.ny.size
  ·exact hL.bound l c hc
 ·intro o;rw[hpv1];exact .inr ⟨0,hat,trivial⟩
 ·intro c o hc;rw[hpv1];exact .inl hc
 ·intro j hj;have hj':j<ts.length*4:=by simpa using hj
  have hi:j/4<ts.length:=by omega
  rw[get_flatK pQ 4 _ j (by simpa using hj')];have e1:(Array.ofFn mk)[j/4]! =mk ⟨j/4,hi⟩:=by
   rw[getElem!_pos (Array.ofFn mk) (j/4) (by simpa using hi)];simp
  have hlt:j<c2.size:=by omega
  have hcell:w1.cell? ⟨b,0+j,none⟩=some (c2.getD j undef):=by
   simp[World.cell?,q1,Array.getD,hlt]
  refine⟨?_,by simp[World.frozen?,q1]⟩;rw[hcell,e1];show some (c2.getD j undef)=some ([c2.getD (j/4*4+0) undef,c2.getD (j/4*4+1) undef,c2.getD (j/4*4+2) undef,c2.getD (j/4*4+3) undef][j%4]!);have hm:j%4<4:=qDj _ (by omega);have hd:j=j/4*4+j%4:=by omega
  generalize j%4=r at hm hd⊢;generalize j/4=s at hd⊢;subst hd
  match r,hm with
  |0,_=>rfl
  |1,_=>rfl
  |2,_=>rfl
  |3,_=>rfl
 ·apply qBO
  ·simp
  ·intro i h1 h2;simp only[qDo,qDF,Array.getElem_ofFn];rfl
end
end Abs
end Go.Proofs.YthgdaonechbgmaaGreat
namespace Go.Proofs
open Go.Shelf
def Tryz.ati:Go.Shelf.Ren:=⟨fun|6=>75|15=>146|14=>145|28=>244|29=>245|20=>236|21=>237|22=>238|23=>239|24=>240|25=>241|26=>242|27=>243|46=>289|47=>290|48=>291|49=>292|50=>293|57=>310|n=>n,fun|22=>27|24=>40|25=>128|3=>3|39=>173|0=>0|53=>229|55=>231|4=>4|46=>223|45=>222|50=>194|5=>5|9=>9|66=>244|70=>248|76=>259|77=>164|n=>n,fun|n=>n⟩
set_option maxRecDepth 100000 in
theorem Tryz.ap8:Go.Proofs.SlLaysF0.n6 Tryz.prog Tryz.ati:={
 mixed:=by kernel_rfl
 f6:=⟨Tryz.f75.name,by decide,Tryz.func75.trans (congrArg some (by kernel_rfl))⟩
 f14:=⟨Tryz.f145.name,by decide,Tryz.func145.trans (congrArg some (by kernel_rfl))⟩
 f15:=Tryz.func146.trans (congrArg some (by kernel_rfl))
 f20:=⟨Tryz.f236.name,by decide,Tryz.func236.trans (congrArg some (by kernel_rfl))⟩
 f21:=⟨Tryz.f237.name,by decide,Tryz.func237.trans (congrArg some (by kernel_rfl))⟩
 f22:=⟨Tryz.f238.name,by decide,Tryz.func238.trans (congrArg some (by kernel_rfl))⟩
 f23:=⟨Tryz.f239.name,by decide,Tryz.func239.trans (congrArg some (by kernel_rfl))⟩
 f24:=⟨Tryz.f240.name,by decide,Tryz.func240.trans (congrArg some (by kernel_rfl))⟩
 f25:=⟨Tryz.f241.name,by decide,Tryz.func241.trans (congrArg some (by kernel_rfl))⟩
 f26:=⟨Tryz.f242.name,by decide,Tryz.func242.trans (congrArg some (by kernel_rfl))⟩
 f27:=⟨Tryz.f243.name,by decide,Tryz.func243.trans (congrArg some (by kernel_rfl))⟩
 f28:=Tryz.func244.trans (congrArg some (by kernel_rfl))
 f29:=Tryz.func245.trans (congrArg some (by kernel_rfl))
 f46:=⟨Tryz.f289.name,by decide,Tryz.func289.trans (congrArg some (by kernel_rfl))⟩
 f47:=Tryz.func290.trans (congrArg some (by kernel_rfl))
 f48:=Tryz.func291.trans (congrArg some (by kernel_rfl))
 f49:=⟨Tryz.f292.name,by decide,Tryz.func292.trans (congrArg some (by kernel_rfl))⟩
 f50:=⟨Tryz.f293.name,by decide,Tryz.func293.trans (congrArg some (by kernel_rfl))⟩
 f57:=⟨Tryz.f310.name,by decide,Tryz.func310.trans (congrArg some (by kernel_rfl))⟩
 t0:=Tryz.underlying0
 a0:=Tryz.isAgg0
 z0:=Tryz.sizeOf0
 v0:=Tryz.zeroValue0
 t3:=Tryz.underlying3
 a3:=Tryz.isAgg3
 z3:=Tryz.sizeOf3
 v3:=Tryz.zeroValue3
 t4:=Tryz.underlying4
 a4:=Tryz.isAgg4
 z4:=Tryz.sizeOf4
 v4:=Tryz.zeroValue4
 t5:=Tryz.underlying5
 a5:=Tryz.isAgg5
 z5:=Tryz.sizeOf5
 v5:=Tryz.zeroValue5
 t9:=Tryz.underlying9
 a9:=Tryz.isAgg9
 z9:=Tryz.sizeOf9
 v9:=Tryz.zeroValue9
 t22:=Tryz.underlying27
 a22:=Tryz.isAgg27
 z22:=Tryz.sizeOf27
 v22:=Tryz.zeroValue27
 t25:=Tryz.underlying128
 a25:=Tryz.isAgg128
 z25:=Tryz.sizeOf128
 v25:=Tryz.zeroValue128
 t39:=Tryz.underlying173
 a39:=Tryz.isAgg173
 z39:=Tryz.sizeOf173
 v39:=Tryz.zeroValue173
 t45:=Tryz.underlying222
 a45:=Tryz.isAgg222
 z45:=Tryz.sizeOf222
 v45:=Tryz.zeroValue222
 t46:=Tryz.underlying223
 a46:=Tryz.isAgg223
 z46:=Tryz.sizeOf223
 v46:=Tryz.zeroValue223
 t50:=Tryz.underlying194
 a50:=Tryz.isAgg194
 z50:=Tryz.sizeOf194
 v50:=Tryz.zeroValue194
 t53:=Tryz.underlying229
 a53:=Tryz.isAgg229
 z53:=Tryz.sizeOf229
 v53:=Tryz.zeroValue229
 t55:=Tryz.underlying231
 a55:=Tryz.isAgg231
 z55:=Tryz.sizeOf231
 v55:=Tryz.zeroValue231
 t66:=Tryz.underlying244
 a66:=Tryz.isAgg244
 z66:=Tryz.sizeOf244
 v66:=Tryz.zeroValue244
 t70:=Tryz.underlying248
 a70:=Tryz.isAgg248
 z70:=Tryz.sizeOf248
 v70:=Tryz.zeroValue248
 t76:=Tryz.underlying259
 a76:=Tryz.isAgg259
 z76:=Tryz.sizeOf259
 v76:=Tryz.zeroValue259
 t77:=Tryz.underlying164
 a77:=Tryz.isAgg164
 z77:=Tryz.sizeOf164
 v77:=Tryz.zeroValue164}
end Go.Proofs
namespace Go.Proofs.YthgdaonechbgmaaGreat
namespace Abs
open Go Go.Proofs Go.Shelf Go.RowKit Go.Lib Go.Sort
theorem azS{w:World}{pv:bU}{ts:List Val}{w1:World}{ad:Option Addr}{cap1:Nat}(hb:ts.length*56≤140737488355328)(h:ajY w pv ts w1 ad cap1):
  Calls Tryz.prog 75 #[.slice ad ts.length cap1,.func (.func 76) #[] #[]] w1 fun e w2=>e=.returned (.tuple #[])∧axW w pv ts w2 ad cap1:=by
 obtain⟨b,pv1,d,rfl,hc,hL⟩:=h;have h1:=AnyQ.slices_SortFunc Tryz.ap8 4 Tryz.isAgg40 Tryz.sizeOf40 (pQ (w:=w1) (pv:=pv1)) Rx apH J6 aI0 76 #[] b 0 cap1 d w1 (enters_of Tryz.func76 (by kernel_rfl) rfl) (aBn hL.pvb hL.pvlt d.size) hL.holds hL.hi (by rw[hL.size];omega);change Calls Tryz.prog 75 _ _ _ at h1;rw[←hL.size];refine h1.mono ?_;rintro e w2 ⟨rfl,d',n,os,hp,hs,hw⟩;exact⟨rfl,w1,b,pv1,d,d',rfl,hc,hL,⟨n,os,hw⟩,hp,hs⟩
theorem aqL{w:World}{pv:bU}{ts:List Val}{w2:World}{ad:Option Addr}{cap1:Nat}(hb:ts.length*56≤140737488355328)(h:axW w pv ts w2 ad cap1):
  Calls Tryz.prog 77 #[.slice ad ts.length cap1,.func (.func 78) #[] #[]] w2 fun e w3=>∃m,e=.returned (.slice ad m cap1)∧m≤cap1∧m≤140737488355328∧apA w pv ts w3 ad m:=by
 obtain⟨w1,b,pv1,d,d',rfl,hc,hL,hS,hp,hs⟩:=h;have hsz:d'.size=ts.length:=by rw[hp.1,hL.size]
 have h1:=aoJ (pQ (w:=w1) (pv:=pv1)) (fun x y=>J6 x y==0) b 0 cap1 d d' w1 w2 rfl (fun W dk _ hW x y=>aCA hW hL.pvb hL.pvlt x y) hL.row (by rw[hp.1]) hS (by omega) (by omega);rw[←hsz];refine h1.mono ?_;rintro e w3 ⟨dk,rfl,hW,hds,hget⟩;have hk:=aw4 hp hs;have hlen:(keptUpTo (RJ (fun x y=>J6 x y==0) d') d' d'.size).length≤d'.size:=by
  unfold keptUpTo;rw[qAi];exact qAs (qCJ _ _) (by simp)
 refine⟨_,rfl,by omega,by omega,w1,b,pv1,d,dk,rfl,hL,hW,by rw[hds,hp.1],by rw[←hp.1];exact hlen,?_⟩;rw[hL.vals]at hk;rw[←hk];apply qBO
 ·simp
 ·intro j h1 h2;simp only[qAi,List.length_range]at h1;have:=hget j h1;rw[qAc h1]at this;simp only[qDo,List.getElem_range];rw[Option.some.inj this]
theorem arw(p:Option Addr)(cap:Nat)(fv:Value)(w:World):Calls Tryz.prog 77 #[.slice p 0 cap,fv] w fun e w'=>e=.returned (.slice p 0 cap)∧w'=w:=by
 go_enter Tryz.func77,Tryz.ntmps77
 go_wp2
 go_ret
 exact⟨rfl,rfl⟩
theorem apA.rel{w:World}{pv:bU}{ts:List Val}{w3:World}{ad:Option Addr}{m:Nat}(h:apA w pv ts w3 ad m)(κ:aS)(hpv:∀c o,pv c o→c<w.heap.size)(hm:m≤140737488355328):Go.RowKit.Below w.heap.size w w3∧Rel w3 κ pv (.slice ((sortV ts).map bf) .shared) (.slice ad m m):=by
 obtain⟨w1,b,pv1,d,dk,rfl,hL,hW,hds,hmd,hg⟩:=h;have hevo:=SWK.ny hW hL.pvb;have hos:w3.os=w1.os∧w3.tape=w1.tape∧w3.output=w1.output:=by
  obtain⟨n,os,rfl⟩:=hW;exact⟨rfl,rfl,rfl⟩
 refine⟨⟨hos.1.trans hL.below.os,hos.2.1.trans hL.below.tape,hos.2.2.trans hL.below.output,qAs hL.below.size hevo.size,fun c hc=>(SWK.other hW (by have:=hL.lo;omega) (qAB hc hL.below.size)).trans (hL.below.block c hc)⟩,?_⟩;have hlen:(sortV ts).length=m:=by rw[←hg];simp
 have hget:∀i (hi:i<m),((sortV ts).map bf).getD i []=bf (lg dk[i]!):=fun i hi=>by
  grind
 have hH:=hW.holds hL.row.hblk hL.row.hH hds;have:=Rel.slice (w:=w3) (κ:=κ) (pv:=pv) (es:=(sortV ts).map bf) (tag:=.shared) (a:=some ⟨b,0,none⟩) (cap:=m) b 0 4 (fun i j=>(pQ dk[i]!).getD j undef)
  (fun i hi=>by rw[qAi,hlen]at hi;rw[hget i hi,iC];rfl) (fun _=>rfl) (by simp[hlen]) (by simp[hlen];omega)
  (fun i j _ _ hp=>by have:=hpv _ _ hp;have:=hL.lo;omega)
  (fun i j hi hj=>by
   rw[qAi,hlen]at hi;have:=(HoldsK.cell hH (i:=i) (c:=j) (by omega) hj).1;rw[show 0+(i*4+j)=0+i*4+j by omega,this];have hl:j<(pQ dk[i]!).length:=by rw[Rx];exact hj
   simp[hl])
  (fun i j hi hj=>by
   rw[qAi,hlen]at hi;rw[hget i hi];exact(apY dk[i]! j hj).mono hevo (fun l b h=>by rw[at_nil]at h;cases h) (fun c o hp _=>hL.pvsub c o hp)) trivial
 grind
set_option maxHeartbeats 4000000 in
theorem aeT(H:List AObj)(ts:List Val)(tag:Tag)(hb:ts.length*56≤140737488355328):eH Tryz.prog 36 [.slice (ts.map bf) tag] H (.slice ((sortV ts).map bf) .shared) H:=by
 intro κ ak w vs hen hvl hr;have h0:=hr 0 (by simp)
 match vs,hvl with
 |[v],_=>
 simp only[List.getD,qAG,qAw]at h0;have hlt:∀c o,aH ak κ H c o→c<w.heap.size:=fun c o h=>avp hen h;have h1:=Sj (azk ts) (axD h0);obtain⟨a,cap,rfl,_,_⟩:=h1.mY;rw[qAi]at h1⊢;by_cases hne:0<ts.length
 ·have hc:=axB hlt hb hne h1;have hc2:=fun w1 ad cap1 (h:ajY w (aH ak κ H) ts w1 ad cap1)=>azS hb h;have hc3:=fun w1 ad cap1 (h:axW w (aH ak κ H) ts w1 ad cap1)=>aqL hb h;have fin:∀(w3:World) (ad:Option Addr) (m:Nat),m≤140737488355328→apA w (aH ak κ H) ts w3 ad m→∃v κ',Ending.returned (.slice ad m m)=Ending.returned v∧Leave κ κ' ak H H w w3∧Rel w3 κ' (aH ak κ' H) (.slice ((sortV ts).map bf) .shared) v:=fun w3 ad m hm h=>by
   obtain⟨f1,f2⟩:=h.rel κ hlt hm;exact⟨_,κ,rfl,Leave.same hen f1,f2⟩
  have FIN:Aside _:=fin;have H0:Aside (Calls Tryz.prog 63 #[.slice a ts.length cap] w fun e w1=>∃ad cap1,e=.returned (.slice ad ts.length cap1)∧ajY w (aH ak κ H) ts w1 ad cap1):=hc;have H2:Aside _:=hc2;have H3:Aside _:=hc3;clear hc hc2 hc3 fin h1 h0 hr;generalize ts.length=n at *
  go_enter Tryz.func36,Tryz.ntmps36
  go_wp2_with (first
   |(go_at_call 63;refine H0.out.mono ?_;rintro e w1 ⟨ad,cap1,rfl,P1⟩)
   |(go_at_call 75;refine(H2.out _ _ _ P1).mono ?_;rintro e w2 ⟨rfl,P2⟩)
   |(go_at_call 77;refine(H3.out _ _ _ P2).mono ?_;rintro e w3 ⟨m,rfl,hm1,hm2,P3⟩)
   |(go_at_call 39;refine(Ke _ _ _ hm1 hm2 _).mono ?_;rintro e w4 ⟨rfl,rfl⟩))
  go_ret
  exact FIN.out _ _ _ hm2 P3
 ·have hts:ts=[]:=qAD.1 (by omega);subst hts;have hpve:aH (aH ak κ H) [] []=aH ak κ H:=by funext b o;exact propext (ahx _ [] b o)
  have hcl:=RH 56 [] [] (by rfl) rfl [] (aH ak κ H) w [.slice a 0 cap] (ac1 _ w hlt) rfl (fun j hj=>by
   have:j=0:=by simp at hj;omega
   subst this;rw[hpve];exact h1)
  have hcl2:Calls Tryz.prog 63 #[.slice a 0 cap] w fun e w1=>∃ad cap1,e=.returned (.slice ad 0 cap1)∧Go.RowKit.Below w.heap.size w w1:=hcl.mono (by
   rintro e w1 ⟨v,κ',rfl,hL,hv⟩;cases hv with
   |@psl _ _ _ cap1 ad g1 g2 g3=>exact⟨ad,cap1,rfl,hL.os,hL.tape,hL.output,hL.ny.size,fun c hc=>hL.kept c hc fun l h=>by rw[at_nil]at h;cases h⟩)
  have H0:Aside (Calls Tryz.prog 63 #[.slice a 0 cap] w fun e w1=>∃ad cap1,e=.returned (.slice ad 0 cap1)∧Go.RowKit.Below w.heap.size w w1):=hcl2;have H2:∀ad cap1 w1,Calls Tryz.prog 75 #[.slice ad 0 cap1,.func (.func 76) #[] #[]] w1 fun e w2=>e=.returned (.tuple #[])∧w2=w1:=fun ad cap1 w1=>AnyF.slices_SortFunc_none Tryz.ap8 ad cap1 _ w1;have fin:∀(w3:World) (ad:Option Addr),Go.RowKit.Below w.heap.size w w3→∃v κ',Ending.returned (.slice ad 0 0)=Ending.returned v∧Leave κ κ' ak H H w w3∧Rel w3 κ' (aH ak κ' H) (.slice ((sortV []).map bf) .shared) v:=fun w3 ad h=>by
   refine⟨_,κ,rfl,Leave.same hen h,?_⟩;have:=Rel.slice (w:=w3) (κ:=κ) (pv:=aH ak κ H) (es:=[]) (tag:=.shared) (a:=ad) (cap:=0) 0 0 1 (fun _ _=>undef) (fun i h=>by cases h) (fun h=>(h rfl).elim) (qAd _) (by simp) (fun i j h=>by cases h) (fun i j h=>by cases h) (fun i j h=>by cases h) trivial;simpa[sortV]using this
  have FIN:Aside _:=fin;clear hcl hcl2 fin h1 h0 hr;show Calls Tryz.prog 36 #[.slice a 0 cap] w _
  go_enter Tryz.func36,Tryz.ntmps36
  go_wp2_with (first
   |(go_at_call 63;refine H0.out.mono ?_;rintro e w1 ⟨ad,cap1,rfl,P1⟩)
   |(go_at_call 75;refine(H2 _ _ _).mono ?_;rintro e w2 ⟨rfl,rfl⟩)
   |(go_at_call 77;refine(arw _ _ _ _).mono ?_;rintro e w3 ⟨rfl,rfl⟩)
   |(go_at_call 39;refine(Ke _ 0 _ (qAZ _) (qAZ _) _).mono ?_;rintro e w4 ⟨rfl,rfl⟩))
  go_ret
  exact FIN.out _ _ P1
end Abs
end Go.Proofs.YthgdaonechbgmaaGreat
