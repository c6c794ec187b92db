/-
  eval.sorted: the values in ascending order, each once. Conditions: none.
-/
import Derived.Shelf.SlGeneric
import Derived.Shelf.SlSortCmp.WholeK
import Derived.Test.YtneeginmfjageaaGreatProg
import Derived.Shelf.SlSortCmp.NoneTotal
import Derived.Test.YtneeginmfjageaaGreatCCmpox442b2b
import Derived.Test.YtneeginmfjageaaGreatCHaxox84b769
set_option linter.all false
namespace Go.Proofs.YtneeginmfjageaaGreat
namespace Abs
section
open Go Go.Proofs Go.Shelf Go.RowKit Go.Lib Go.Sort
def CV(w:World)(pv:bU):Type:={x:List Value×Val//x.1.length=4/\(∀v∈x.1,v.oneCell'=true)/\∀j,j<4->Rel w [] pv ((bf x.2).getD j .unk) (x.1.getD j undef)}
def aEL(w:World)(pv:bU):∀j,j<4->Rel w [] pv ((bf (.mk 0 0 [] [])).getD j .unk) (z31.getD j undef):=by
 intro j b
 match j,b with|0,_=>exact .int (by refine⟨?_,?_⟩<;>decide)|1,_=>exact .int (by refine⟨?_,?_⟩<;>decide)|2,_=>exact .str (s:=[]) cn|3,_=>have:=Rel.slice (w:=w) (κ:=[]) (pv:=pv) (es:=[]) (tag:=.shared) (a:=none) (cap:=0) 0 0 1 (λ_ _=>undef) (λi h=>by cases h) (λh=>(h rfl).elim) (qAd _) cn (λi j h=>by cases h) (λi j h=>by cases h) (λi j h=>by cases h) trivial;simpa[bf,IL]using this
instance (w:World) (pv:bU):Inhabited (CV w pv):=⟨⟨(z31,.mk 0 0 [] []),rfl,by simp[Value.oneCell'],aEL w pv⟩⟩
def pQ{w:World}{pv:bU}(x:CV w pv):List Value:=x.1.1
def lg{w:World}{pv:bU}(x:CV w pv):Val:=x.1.2
abbrev J6{w:World}{pv:bU}(x y:CV w pv):Int:=bQ (lg x) (lg y)
section
variable {w1:World}{pv1:bU}
def Rx(x:CV w1 pv1):(pQ x).length=4:=x.2.1
def apH(x:CV w1 pv1):∀v∈pQ x,v.oneCell'=true:=x.2.2.1
def apY(x:CV w1 pv1):∀j,j<4->Rel w1 [] pv1 ((bf (lg x)).getD j .unk) ((pQ x).getD j undef):=x.2.2.2
def aI0:SWO (ltOf (J6 (w:=w1) (pv:=pv1))) where
 irrefl x:=d_0 (by have:=(gF (lg x) (lg x)).2 rfl;simp only[J6];omega)
 trans x y z h1 h2:=by simp only[ltOf,decide_eq_true_eq]at *;exact BF _ _ _ h1 h2
 ntrans x y z h1 h2:=by simp only[ltOf,decide_eq_false_iff_not]at *;have a:=ay1 (lg z) (lg y) (lg x) (by simp only[Wt,decide_eq_true_eq];rw[rO (lg y)];simp only[J6]at h2;omega) (by simp only[Wt,decide_eq_true_eq];rw[rO (lg x)];simp only[J6]at h1;omega);simp only[Wt,decide_eq_true_eq]at a;rw[rO (lg x)]at a;simp only[J6];omega
variable {b:Nat}{dk:Array (CV w1 pv1)}{W:World}
def SWK.other(h:SWK pQ 4 w1 b 0 dk W){c:Nat}(a:c≠b)(l:c<w1.heap.size):W.heap[c]? =w1.heap[c]?:=by
 obtain⟨n,o,rfl⟩:=h;unfold sortWorldK;rw[heap_grow_old _ _ (by rw[size_putRowK];exact l)];show(w1.heap.modify b _)[c]? =_
 grind
def SWK.ny(h:SWK pQ 4 w1 b 0 dk W)(i:∀o,pv1 b o):Evo pv1 w1 W:=by
 refine⟨h.le,λc f u j g=>?_,λc d e z x=>?_⟩;·have a:c≠b:=λe=>j (e▸i f);have l:=lt_of_cell g;simp only[World.cell?,SWK.other h a l]at g|-;exact g
 by_cases a:c=b;·subst a;obtain⟨n,s,rfl⟩:=h;have l:c<w1.heap.size:=(qBi.1 x).1;unfold sortWorldK;rw[heap_grow_old _ _ (by rw[size_putRowK];exact l)];refine⟨putCells id 0 (flatK pQ 4 dk) d,?_,by simp[putCells]⟩;show(w1.heap.modify c _)[c]? =_;rw[qBI,if_pos rfl,x];rfl
 exact⟨d,by rw[SWK.other h a (qBi.1 x).1];exact x,rfl⟩
def an9(h:SWK pQ 4 w1 b 0 dk W)(f:∀o,pv1 b o)(p:∀c o,pv1 c o->c<w1.heap.size)(x y:CV w1 pv1):
  Calls Tryz.prog 19 #[.agg (pQ x).toArray,.agg (pQ y).toArray] W λe w=>e=.returned (.int .i64 (J6 x y))/\∃q s,w=grow (W.drewN q) s:=by
 let⟨N,n⟩:=Eu (lg x) (lg y);have hA:eH Tryz.prog 19 [.agg (bf (lg x)),.agg (bf (lg y))] [] (.int .i64 (bQ (lg x) (lg y))) []:=(qx N).2.2 (lg x,lg y) _ (n N (qAd _)) _ _ rfl _ _ rfl;rw[iC,iC]at hA;have a:=SWK.ny h f;have k:∀z:CV w1 pv1,Rel W [] pv1 (.agg [.int .i64 (lg z).kind,.int .i64 (lg z).n,.str (lg z).name,.slice (List.map bf (lg z).kids) .shared]) (.agg (pQ z).toArray):=λz=>by refine .agg (by rw[Rx];rfl) λj d=>?_;have:=(apY z j d).mono a (dL.refl _) (λ_ _ h _=>h);rwa[iC]at this
 refine quiet_of hA W pv1 (λc o g=>qAB (p c o g) a.size) [.agg (pQ x).toArray,.agg (pQ y).toArray] rfl (λj d=>?_) (.int .i64 (J6 x y)) (λw l m v i=>by cases i;rfl)
 match j,d with|0,_=>exact k x|1,_=>exact k y
def aBn(a:∀o,pv1 b o)(h:∀c o,pv1 c o->c<w1.heap.size)(size:Nat):CmpLays Tryz.prog 19 #[] (pQ (w:=w1) (pv:=pv1)) 4 J6 b 0 size w1:=by intro m s d e x y;rw[Array.append_empty];exact an9 ⟨m,s,rfl⟩ a h x y
set_option maxHeartbeats 4000000 in
def aCA(h:SWK pQ 4 w1 b 0 dk W)(D:∀o,pv1 b o)(p:∀c o,pv1 c o->c<w1.heap.size)(x y:CV w1 pv1):
  Calls Tryz.prog 125 #[.agg (pQ x).toArray,.agg (pQ y).toArray] W λe w=>e=.returned (.bool (J6 x y==0))/\∃q s,w=grow (W.drewN q) s:=by
 have l:=λE (F:SWK pQ 4 w1 b 0 dk E)=>an9 F D p x y;have j:∀z:CV w1 pv1,∃a b c d:Value,pQ z=[a,b,c,d]:=λz=>by
  have:=Rx z
  match pQ z,this with|[a,b,c,d],_=>exact⟨a,b,c,d,rfl⟩
 let⟨k,m,n,t,G⟩:=j x;let⟨u,v,A,B,H⟩:=j y;rw[G,H]at l|-;have f:∀g i,Calls Tryz.prog 19 #[.agg #[k,m,n,t],.agg #[u,v,A,B]] ((W.alloc g).alloc i) λe w=>e=.returned (.int .i64 (J6 x y))/\∃q s,w=grow (((W.alloc g).alloc i).drewN q) s:=λg i=>l _ (SWK.alloc (SWK.alloc h g) i);have C:Aside _:=f;generalize J6 x y=r at C|-;clear l h f
 go_enter Tryz.func125,Tryz.ntmps125
 go_wp2_with (go_at_call 19;refine(C.out _ _).mono ?_;rintro e w ⟨rfl,q,s,rfl⟩)
 go_ret
 refine⟨rfl,q,#[Obj.cells #[k,m,n,t] 40]++#[Obj.cells #[u,v,A,B] 40]++s,?_⟩;rw[alloc_eq_grow,alloc_eq_grow,grow_grow,<-grow_grow (W.drewN q)];rfl
end
end
section
open Go Go.Proofs Go.Shelf Go.RowKit Go.Lib Go.Sort
def axF{a b c:Val}(d:bQ a b<=0)(h2:bQ b c<0):bQ a c<0:=by
 rcases qCX d with h|h
 ·exact BF a b c h h2
 rw[(gF a b).1 h];exact h2
def ayK(g:Nat->Val)(n:Nat)(hs:∀i j,i<j->j<n->bQ (g i) (g j)<=0):((List.range n).filter (λj=>j==0 ||!(bQ (g j) (g (j - 1))==0))).map g=sortV ((List.range n).map g):=by
 refine vw ?_ λx=>?_
 ·rw[qDR];have o:((List.range n).filter (λj=>j==0 ||!(bQ (g j) (g (j - 1))==0))).Pairwise (·<·):=List.Pairwise.filter _ qDv
  refine qDX ?_ o;intro i j m p q;let⟨c,a⟩:=qBa.1 p;have d:=qBW.1 c;have f:(j==0)=false:=by simp;omega
  rw[f,qDd]at a;have k:bQ (g j) (g (j - 1))≠0:=by simpa using a
  have l:bQ (g (j - 1)) (g j)<0:=by have:=hs (j - 1) j Cl d;rw[rO (g (j - 1)) (g j)]at k;omega
  by_cases e:i=j - 1;·rw[e];exact l
  exact axF (hs i (j - 1) Cl Cl) l
 constructor;·grind
 intro h;obtain⟨i,b,rfl⟩:=qAJ.1 h;have m:=qBW.1 b;clear h b
 induction i with|zero=>exact qAJ.2 ⟨0,qBa.2 ⟨qBW.2 m,rfl⟩,rfl⟩|succ i r=>
  by_cases e:bQ (g (i+1)) (g i)=0;·rw[(gF _ _).1 e];exact r Cl
  grind
def atx{l m:Af}(h:∀x,x∈l↔x∈m):sortV l=sortV m:=vw (cZ l) λx=>by rw[aV,h x]
section
variable {w1:World}{pv1:bU}
def aw4{d d':Array (CV w1 pv1)}(p:PermIn 0 d.size d d')(hs:SortedIn (ltOf J6) 0 d.size d'):(keptUpTo (RJ (λx y=>J6 x y==0) d') d' d'.size).map lg=sortV (d.toList.map lg):=by
 let⟨a,_,b⟩:=p;have k:=ayK (λj=>lg d'[j]!) d'.size (λi j h c=>by have:=hs i j (qAZ _) h Cl;simp only[ltOf,decide_eq_false_iff_not,J6]at this;rw[rO (lg d'[j]!)];omega)
 have e:(keptUpTo (RJ (λx y=>J6 x y==0) d') d' d'.size).map lg=((List.range d'.size).filter (λj=>j==0 ||!(bQ (lg d'[j]!) (lg d'[j - 1]!)==0))).map (λj=>lg d'[j]!):=by unfold keptUpTo;rw[qBh];rfl
 rw[e,k];refine atx λx=>?_;have f:(List.range d'.size).map (λj=>lg d'[j]!)=d'.toList.map lg:=by have:=range_map_get d';rw[<-this,qBh];rfl
 have g:d'.extract 0 d.size=d':=by rw[<-a];simp
 have l:d.extract 0 d.size=d:=by simp
 grind
end
structure Laid(w:World)(pv:bU)(ts:Af)(w1:World)(b:Nat)(pv1:bU)(d:Array (CV w1 pv1)):Prop where
 below:Go.RowKit.Below w.heap.size w w1
 lo:w.heap.size≤b
 hi:b<w1.heap.size
 pvlt:∀c o,pv1 c o→c<w1.heap.size
 pvb:∀o,pv1 b o
 pvsub:∀c o,pv c o→pv1 c o
 holds:HoldsK pQ 4 w1 b 0 d
 vals:d.toList.map lg=ts
def Laid.size{w:World}{pv:bU}{t:Af}{a:World}{b:Nat}{p:bU}{d:Array (CV a p)}(h:Laid w pv t a b p d):d.size=t.length:=by rw[<-h.vals];simp
def Laid.row{w:World}{pv:bU}{t:Af}{a:World}{b:Nat}{p:bU}{d:Array (CV a p)}(h:Laid w pv t a b p d):RowK pQ 4 a b 0 d:=⟨Rx,apH,h.holds,h.hi⟩
def ajY(w:World)(pv:bU)(t:Af)(a:World)(e:Option Addr)(c:Nat):Prop:=∃(b:Nat) (p:bU) (d:Array (CV a p)),e=some ⟨b,0,none⟩/\t.length<=c/\Laid w pv t a b p d
def axW(w:World)(pv:bU)(t:Af)(f:World)(g:Option Addr)(c:Nat):Prop:=∃(a:World) (b:Nat) (p:bU) (d e:Array (CV a p)),g=some ⟨b,0,none⟩/\t.length<=c/\Laid w pv t a b p d/\SWK pQ 4 a b 0 e f/\PermIn 0 d.size d e/\SortedIn (ltOf J6) 0 d.size e
def apA(w:World)(pv:bU)(t:Af)(c:World)(e:Option Addr)(m:Nat):Prop:=∃(a:World) (b:Nat) (p:bU) (d k:Array (CV a p)),e=some ⟨b,0,none⟩/\Laid w pv t a b p d/\SWK pQ 4 a b 0 k c/\k.size=d.size/\m<=d.size/\(List.range m).map (λj=>lg k[j]!)=sortV t
def axD{w:World}{κ:aS}{pv:bU}{es:List An}{t:Tag}{v:Value}(h:Rel w κ pv (.slice es t) v):Rel w κ pv (.slice es .shared) v:=by cases h with|slice b o s u c d e a f g i j=>exact .slice b o s u c d e a f g i trivial
def Sj{w:World}{κ:aS}{pv:bU}{x:AV}(a:∀g,ren g x=x){v:Value}(h:Rel w κ pv x v):Rel w [] pv x v:=by
 refine Rel.Ce (g:=λi=>κ.length+i) (λi=>?_) h x (a _).symm;unfold at?
 grind
def azk(t:Af)(g:Nat->Nat):ren g (.slice (t.map bf) .shared)=.slice (t.map bf) .shared:=by simp only[ren,xu,apW]
def adZ{w:World}{κ:aS}{pv:bU}{x:AV}{v:Value}(h:Rel w κ pv x v)(hs:isScalar x=true):v.oneCell'=true:=by cases h<;>first|rfl|(simp[isScalar]at hs;done)
def aqi(t:Af)(i:Nat)(hi:i<t.length):(t.map bf).getD i []=bf t[i]:=by grind
def MV(t:Val)(j:Nat)(g:Nat->Nat):ren g ((bf t).getD j .unk)=(bf t).getD j .unk:=by have:=PX g t;rw[<-jv,this]
def GH(t:Val)(j:Nat)(h:j<4):isScalar ((bf t).getD j .unk)=true:=by
 rw[iC]
 match j,h with|0,_=>rfl|1,_=>rfl|2,_=>rfl|3,_=>rfl
def axB{w:World}{pv:bU}(C:∀c o,pv c o->c<w.heap.size){t:Af}(O:t.length*56<=140737488355328)(P:0<t.length){a:Option Addr}{cap:Nat}(Q:Rel w [] pv (.slice (t.map bf) .shared) (.slice a t.length cap)):
  Calls Tryz.prog 75 #[.slice a t.length cap] w λe A=>∃F p,e=.returned (.slice F t.length p)/\ajY w pv t A F p:=by
 have D:app 56 ([]:Af) t=some t:=by
  unfold app;rw[if_pos ⟨by simpa using O,by simp;omega⟩];rfl
 have E:aH pv [] []=pv:=by funext b o;exact propext (ahx pv [] b o)
 refine(RH 56 t t D rfl [] pv w [.slice a t.length cap] (ac1 pv w C) rfl (λj y=>?_)).mono ?_
 ·have:j=0:=by simp at y;omega
  subst this;rw[E];exact Q
 rintro e A ⟨v,n,rfl,m,R⟩;cases R with
 |@psl _ _ _ p F S W T=>
 refine⟨F,p,rfl,?_⟩;obtain⟨_,⟨K,g⟩|⟨b,c,X,q,K,Y,Z⟩⟩:=T
 ·omega
 let⟨f,e2,L,U,q3,G⟩:=m.obj 0 b q trivial;obtain⟨k,d⟩:∃k,k=aH pv n [.arr 4 (t.map bf)]:=⟨_,rfl⟩;change ∀i j,i<(t.map bf).length->j<4->Rel A n (aH pv n [.arr 4 (t.map bf)]) (((t.map bf).getD i []).getD j .unk) (f.getD (i*4+j) undef)at G;rw[<-d]at G;rw[qAi]at G U;have x:∀i (B:i<t.length) j,j<4->Rel A n k ((bf t[i]).getD j .unk) (f.getD (i*4+j) undef):=λi B j y=>by
  have:=G i j B y;rwa[aqi t i B]at this
 let mk:∀i:Fin t.length,CV A k:=λi=>⟨([f.getD (i.1*4+0) undef,f.getD (i.1*4+1) undef,f.getD (i.1*4+2) undef,f.getD (i.1*4+3) undef],t[i.1]),rfl,(by
   intro u M;simp only[qAh,qCm,or_false]at M;rcases M with rfl|rfl|rfl|rfl
   ·exact adZ (x i.1 i.2 0 Cl) (GH _ _ Cl)
   ·exact adZ (x i.1 i.2 1 Cl) (GH _ _ Cl)
   ·exact adZ (x i.1 i.2 2 Cl) (GH _ _ Cl)
   ·exact adZ (x i.1 i.2 3 Cl) (GH _ _ Cl)),(by
   intro j y
   match j,y with
   |0,_=>exact Sj (MV _ _) (x i.1 i.2 0 Cl)
   |1,_=>exact Sj (MV _ _) (x i.1 i.2 1 Cl)
   |2,_=>exact Sj (MV _ _) (x i.1 i.2 2 Cl)
   |3,_=>exact Sj (MV _ _) (x i.1 i.2 3 Cl))⟩
 refine⟨b,k,Array.ofFn mk,K,S,⟨⟨m.os,m.tape,m.output,m.ny.size,λc g=>m.kept c g λl h=>by rw[at_nil]at h;cases h⟩,?_,m.bound 0 b q,?_,?_,?_,?_,?_⟩⟩
 ·rcases m.stay 0 b q trivial with h|⟨l0,h,_⟩
  ·exact h
  rw[at_nil]at h;cases h
 ·intro c o g;rw[d]at g;rcases g with g|⟨l,g,_⟩
  ·exact qAB (C c o g) m.ny.size
  exact m.bound l c g
 ·intro o;rw[d];exact .inr ⟨0,q,trivial⟩
 ·intro c o g;rw[d];exact .inl g
 ·intro j y;have H:j<t.length*4:=by simpa using y
  have B:j/4<t.length:=by omega
  rw[get_flatK pQ 4 _ j (by simpa using H)];have V:(Array.ofFn mk)[j/4]! =mk ⟨j/4,B⟩:=by
   rw[getElem!_pos (Array.ofFn mk) (j/4) (by simpa using B)];simp
  have I:j<f.size:=by omega
  have z:A.cell? ⟨b,0+j,none⟩=some (f.getD j undef):=by
   simp[World.cell?,L,Array.getD,I]
  refine⟨?_,by simp[World.frozen?,L]⟩;rw[z,V];show some (f.getD j undef)=some ([f.getD (j/4*4+0) undef,f.getD (j/4*4+1) undef,f.getD (j/4*4+2) undef,f.getD (j/4*4+3) undef][j%4]!);have N:j%4<4:=qDj _ Cl;have J:j=j/4*4+j%4:=by omega
  generalize j%4=r at N J|-;generalize j/4=s at J|-;subst J
  match r,N with
  |0,_=>rfl
  |1,_=>rfl
  |2,_=>rfl
  |3,_=>rfl
 apply qBO
 ·simp
 intro i h1 h2;simp only[qDo,qDF,Array.getElem_ofFn];rfl
end
end Abs
end Go.Proofs.YtneeginmfjageaaGreat
namespace Go.Proofs
open Go.Shelf
def Tryz.ati:Go.Shelf.Ren:=⟨λ|6=>123|15=>200|14=>199|28=>286|29=>287|20=>278|21=>279|22=>280|23=>281|24=>282|25=>283|26=>284|27=>285|46=>323|47=>324|48=>325|49=>326|50=>327|57=>348|n=>n,λ|22=>27|24=>40|25=>51|3=>3|39=>202|0=>0|53=>243|55=>245|4=>4|46=>237|45=>236|50=>205|5=>5|9=>9|66=>257|70=>261|76=>273|77=>171|n=>n,λ|n=>n⟩
set_option maxRecDepth 100000 in
def Tryz.ap8:Go.Proofs.SlLaysF0.n6 Tryz.prog Tryz.ati:={
 mixed:=by kernel_rfl
 f6:=⟨Tryz.f123.name,by decide,Tryz.func123.trans (congrArg some (by kernel_rfl))⟩
 f14:=⟨Tryz.f199.name,by decide,Tryz.func199.trans (congrArg some (by kernel_rfl))⟩
 f15:=Tryz.func200.trans (congrArg some (by kernel_rfl))
 f20:=⟨Tryz.f278.name,by decide,Tryz.func278.trans (congrArg some (by kernel_rfl))⟩
 f21:=⟨Tryz.f279.name,by decide,Tryz.func279.trans (congrArg some (by kernel_rfl))⟩
 f22:=⟨Tryz.f280.name,by decide,Tryz.func280.trans (congrArg some (by kernel_rfl))⟩
 f23:=⟨Tryz.f281.name,by decide,Tryz.func281.trans (congrArg some (by kernel_rfl))⟩
 f24:=⟨Tryz.f282.name,by decide,Tryz.func282.trans (congrArg some (by kernel_rfl))⟩
 f25:=⟨Tryz.f283.name,by decide,Tryz.func283.trans (congrArg some (by kernel_rfl))⟩
 f26:=⟨Tryz.f284.name,by decide,Tryz.func284.trans (congrArg some (by kernel_rfl))⟩
 f27:=⟨Tryz.f285.name,by decide,Tryz.func285.trans (congrArg some (by kernel_rfl))⟩
 f28:=Tryz.func286.trans (congrArg some (by kernel_rfl))
 f29:=Tryz.func287.trans (congrArg some (by kernel_rfl))
 f46:=⟨Tryz.f323.name,by decide,Tryz.func323.trans (congrArg some (by kernel_rfl))⟩
 f47:=Tryz.func324.trans (congrArg some (by kernel_rfl))
 f48:=Tryz.func325.trans (congrArg some (by kernel_rfl))
 f49:=⟨Tryz.f326.name,by decide,Tryz.func326.trans (congrArg some (by kernel_rfl))⟩
 f50:=⟨Tryz.f327.name,by decide,Tryz.func327.trans (congrArg some (by kernel_rfl))⟩
 f57:=⟨Tryz.f348.name,by decide,Tryz.func348.trans (congrArg some (by kernel_rfl))⟩
 t0:=Tryz.underlying0
 a0:=Tryz.isAgg0
 z0:=Tryz.sizeOf0
 v0:=Tryz.zeroValue0
 t3:=Tryz.underlying3
 a3:=Tryz.isAgg3
 z3:=Tryz.sizeOf3
 v3:=Tryz.zeroValue3
 t4:=Tryz.underlying4
 a4:=Tryz.isAgg4
 z4:=Tryz.sizeOf4
 v4:=Tryz.zeroValue4
 t5:=Tryz.underlying5
 a5:=Tryz.isAgg5
 z5:=Tryz.sizeOf5
 v5:=Tryz.zeroValue5
 t9:=Tryz.underlying9
 a9:=Tryz.isAgg9
 z9:=Tryz.sizeOf9
 v9:=Tryz.zeroValue9
 t22:=Tryz.underlying27
 a22:=Tryz.isAgg27
 z22:=Tryz.sizeOf27
 v22:=Tryz.zeroValue27
 t25:=Tryz.underlying51
 a25:=Tryz.isAgg51
 z25:=Tryz.sizeOf51
 v25:=Tryz.zeroValue51
 t39:=Tryz.underlying202
 a39:=Tryz.isAgg202
 z39:=Tryz.sizeOf202
 v39:=Tryz.zeroValue202
 t45:=Tryz.underlying236
 a45:=Tryz.isAgg236
 z45:=Tryz.sizeOf236
 v45:=Tryz.zeroValue236
 t46:=Tryz.underlying237
 a46:=Tryz.isAgg237
 z46:=Tryz.sizeOf237
 v46:=Tryz.zeroValue237
 t50:=Tryz.underlying205
 a50:=Tryz.isAgg205
 z50:=Tryz.sizeOf205
 v50:=Tryz.zeroValue205
 t53:=Tryz.underlying243
 a53:=Tryz.isAgg243
 z53:=Tryz.sizeOf243
 v53:=Tryz.zeroValue243
 t55:=Tryz.underlying245
 a55:=Tryz.isAgg245
 z55:=Tryz.sizeOf245
 v55:=Tryz.zeroValue245
 t66:=Tryz.underlying257
 a66:=Tryz.isAgg257
 z66:=Tryz.sizeOf257
 v66:=Tryz.zeroValue257
 t70:=Tryz.underlying261
 a70:=Tryz.isAgg261
 z70:=Tryz.sizeOf261
 v70:=Tryz.zeroValue261
 t76:=Tryz.underlying273
 a76:=Tryz.isAgg273
 z76:=Tryz.sizeOf273
 v76:=Tryz.zeroValue273
 t77:=Tryz.underlying171
 a77:=Tryz.isAgg171
 z77:=Tryz.sizeOf171
 v77:=Tryz.zeroValue171}
end Go.Proofs
namespace Go.Proofs.YtneeginmfjageaaGreat
namespace Abs
open Go Go.Proofs Go.Shelf Go.RowKit Go.Lib Go.Sort
def azS{w:World}{pv:bU}{t:Af}{a:World}{f:Option Addr}{c:Nat}(r:t.length*56<=140737488355328)(h:ajY w pv t a f c):
  Calls Tryz.prog 123 #[.slice f t.length c,.func (.func 19) #[] #[]] a λe g=>e=.returned (.tuple #[])/\axW w pv t g f c:=by obtain⟨b,p,d,rfl,j,l⟩:=h;have i:=AnyQ.slices_SortFunc Tryz.ap8 4 Tryz.isAgg40 Tryz.sizeOf40 (pQ (w:=a) (pv:=p)) Rx apH J6 aI0 19 #[] b 0 c d a (enters_of Tryz.func19 Cs rfl) (aBn l.pvb l.pvlt d.size) l.holds l.hi (by rw[l.size];omega);change Calls Tryz.prog 123 _ _ _ at i;rw[<-l.size];refine i.mono ?_;rintro e g ⟨rfl,k,n,o,m,s,q⟩;exact⟨rfl,a,b,p,d,k,rfl,j,l,⟨n,o,q⟩,m,s⟩
def aqL{w:World}{pv:bU}{t:Af}{o:World}{k:Option Addr}{c:Nat}(D:t.length*56<=140737488355328)(h:axW w pv t o k c):
  Calls Tryz.prog 124 #[.slice k t.length c,.func (.func 125) #[] #[]] o λe v=>∃m,e=.returned (.slice k m c)/\m<=c/\m<=140737488355328/\apA w pv t v k m:=by
 obtain⟨q,b,p,d,a,rfl,E,l,B,f,C⟩:=h;have s:a.size=t.length:=by rw[f.1,l.size]
 have g:=aoJ (pQ (w:=q) (pv:=p)) (λx y=>J6 x y==0) b 0 c d a q o rfl (λW z _ r x y=>aCA r l.pvb l.pvlt x y) l.row (by rw[f.1]) B Cl Cl;rw[<-s];refine g.mono ?_;rintro e v ⟨z,rfl,r,u,i⟩;have A:=aw4 f C;have n:(keptUpTo (RJ (λx y=>J6 x y==0) a) a a.size).length<=a.size:=by unfold keptUpTo;rw[qAi];exact qAs (qCJ _ _) cn
 refine⟨_,rfl,by omega,by omega,q,b,p,d,z,rfl,l,r,by rw[u,f.1],by rw[<-f.1];exact n,?_⟩;rw[l.vals]at A;rw[<-A];apply qBO;·simp
 intro j g F;simp only[qAi,qDV]at g;have:=i j g;rw[qAc g]at this;simp only[qDo,List.getElem_range];rw[Option.some.inj this]
def arw(p:Option Addr)(cap:Nat)(f:Value)(w:World):Calls Tryz.prog 124 #[.slice p 0 cap,f] w λe a=>e=.returned (.slice p 0 cap)/\a=w:=by
 go_enter Tryz.func124,Tryz.ntmps124
 go_wp2
 go_ret
 exact⟨rfl,rfl⟩
def apA.rel{w:World}{pv:bU}{p:Af}{k:World}{B:Option Addr}{m:Nat}(h:apA w pv p k B m)(κ:aS)(x:∀c o,pv c o->c<w.heap.size)(I:m<=140737488355328):Go.RowKit.Below w.heap.size w k/\Rel k κ pv (.slice ((sortV p).map bf) .shared) (.slice B m m):=by
 obtain⟨y,b,D,d,q,rfl,f,r,z,E,F⟩:=h;have v:=SWK.ny r f.pvb;have s:k.os=y.os/\k.tape=y.tape/\k.output=y.output:=by obtain⟨n,J,rfl⟩:=r;exact⟨rfl,rfl,rfl⟩
 refine⟨⟨s.1.trans f.below.os,s.2.1.trans f.below.tape,s.2.2.trans f.below.output,qAs f.below.size v.size,λc C=>(SWK.other r (by have:=f.lo;omega) (qAB C f.below.size)).trans (f.below.block c C)⟩,?_⟩;have e:(sortV p).length=m:=by rw[<-F];simp
 have t:∀i (g:i<m),((sortV p).map bf).getD i []=bf (lg q[i]!):=λi g=>by grind
 have G:=r.holds f.row.hblk f.row.hH z;have:=Rel.slice (w:=k) (κ:=κ) (pv:=pv) (es:=(sortV p).map bf) (tag:=.shared) (a:=some ⟨b,0,none⟩) (cap:=m) b 0 4 (λi j=>(pQ q[i]!).getD j undef)
  (λi g=>by rw[qAi,e]at g;rw[t i g,iC];rfl) (λ_=>rfl) (by simp[e]) (by simp[e];omega)
  (λi j _ _ A=>by have:=x _ _ A;have:=f.lo;omega)
  (λi j g u=>by
   rw[qAi,e]at g;have:=(HoldsK.cell G (i:=i) (c:=j) Cl u).1;rw[show 0+(i*4+j)=0+i*4+j by omega,this];have H:j<(pQ q[i]!).length:=by rw[Rx];exact u
   simp[H])
  (λi j g u=>by rw[qAi,e]at g;rw[t i g];exact(apY q[i]! j u).mono v (λl b h=>by rw[at_nil]at h;cases h) (λc o A _=>f.pvsub c o A)) trivial
 grind
set_option maxHeartbeats 4000000 in
def aeT(H:A6)(t:Af)(tag:Tag)(K:t.length*56<=140737488355328):eH Tryz.prog 61 [.slice (t.map bf) tag] H (.slice ((sortV t).map bf) .shared) H:=by
 intro k ak w T x L M;have I:=M 0 cn
 match T,L with
 |[v],_=>
 simp only[List.getD,qAG,qAw]at I;have y:∀c o,aH ak k H c o->c<w.heap.size:=λc o h=>avp x h;have A:=Sj (azk t) (axD I);obtain⟨a,q,rfl,_,_⟩:=A.mY;rw[qAi]at A|-;by_cases N:0<t.length
 ·have J:=axB y K N A;have B:=λf d p (h:ajY w (aH ak k H) t f d p)=>azS K h;have C:=λf d p (h:axW w (aH ak k H) t f d p)=>aqL K h;have s:∀(r:World) (d:Option Addr) (m:Nat),m<=140737488355328->apA w (aH ak k H) t r d m->∃v g,Ending.returned (.slice d m m)=Ending.returned v/\Leave k g ak H H w r/\Rel r g (aH ak g H) (.slice ((sortV t).map bf) .shared) v:=λr d m U h=>by
   let⟨V,W⟩:=h.rel k y U;exact⟨_,k,rfl,Leave.same x V,W⟩
  have z:Aside _:=s;have O:Aside (Calls Tryz.prog 75 #[.slice a t.length q] w λe f=>∃d p,e=.returned (.slice d t.length p)/\ajY w (aH ak k H) t f d p):=J;have P:Aside _:=B;have X:Aside _:=C;clear J B C s A I M;generalize t.length=n at *
  go_enter Tryz.func61,Tryz.ntmps61
  go_wp2_with (first
   |(go_at_call 75;refine O.out.mono ?_;rintro e f ⟨d,p,rfl,P1⟩)
   |(go_at_call 123;refine(P.out _ _ _ P1).mono ?_;rintro e Q ⟨rfl,Y⟩)
   |(go_at_call 124;refine(X.out _ _ _ Y).mono ?_;rintro e r ⟨m,rfl,R,D,Z⟩)
   |(go_at_call 74;refine(Ke _ _ _ R D _).mono ?_;rintro e w4 ⟨rfl,rfl⟩))
  go_ret
  exact z.out _ _ _ D Z
 have S:t=[]:=qAD.1 Cl;subst S;have E:aH (aH ak k H) [] []=aH ak k H:=by funext b o;exact propext (ahx _ [] b o)
 have F:=RH 56 [] [] (by rfl) rfl [] (aH ak k H) w [.slice a 0 q] (ac1 _ w y) rfl (λj hj=>by
  have:j=0:=by simp at hj;omega
  subst this;rw[E];exact A)
 have u:Calls Tryz.prog 75 #[.slice a 0 q] w λe f=>∃d p,e=.returned (.slice d 0 p)/\Go.RowKit.Below w.heap.size w f:=F.mono (by
  rintro e f ⟨v,g,rfl,G,hv⟩;cases hv with
  |@psl _ _ _ p d g1 g2 g3=>exact⟨d,p,rfl,G.os,G.tape,G.output,G.ny.size,λc J=>G.kept c J λl h=>by rw[at_nil]at h;cases h⟩)
 have O:Aside (Calls Tryz.prog 75 #[.slice a 0 q] w λe f=>∃d p,e=.returned (.slice d 0 p)/\Go.RowKit.Below w.heap.size w f):=u;have P:∀d p f,Calls Tryz.prog 123 #[.slice d 0 p,.func (.func 19) #[] #[]] f λe Q=>e=.returned (.tuple #[])/\Q=f:=λd p f=>AnyF.slices_SortFunc_none Tryz.ap8 d p _ f;have s:∀(r:World) (d:Option Addr),Go.RowKit.Below w.heap.size w r->∃v g,Ending.returned (.slice d 0 0)=Ending.returned v/\Leave k g ak H H w r/\Rel r g (aH ak g H) (.slice ((sortV []).map bf) .shared) v:=λr d h=>by
  refine⟨_,k,rfl,Leave.same x h,?_⟩;have:=Rel.slice (w:=r) (κ:=k) (pv:=aH ak k H) (es:=[]) (tag:=.shared) (a:=d) (cap:=0) 0 0 1 (λ_ _=>undef) (λi h=>by cases h) (λh=>(h rfl).elim) (qAd _) cn (λi j h=>by cases h) (λi j h=>by cases h) (λi j h=>by cases h) trivial;simpa[sortV]using this
 have z:Aside _:=s;clear F u s A I M;show Calls Tryz.prog 61 #[.slice a 0 q] w _
 go_enter Tryz.func61,Tryz.ntmps61
 go_wp2_with (first
  |(go_at_call 75;refine O.out.mono ?_;rintro e f ⟨d,p,rfl,P1⟩)
  |(go_at_call 123;refine(P _ _ _).mono ?_;rintro e Q ⟨rfl,rfl⟩)
  |(go_at_call 124;refine(arw _ _ _ _).mono ?_;rintro e r ⟨rfl,rfl⟩)
  |(go_at_call 74;refine(Ke _ 0 _ (qAZ _) (qAZ _) _).mono ?_;rintro e w4 ⟨rfl,rfl⟩))
 go_ret
 exact z.out _ _ P1
end Abs
end Go.Proofs.YtneeginmfjageaaGreat
