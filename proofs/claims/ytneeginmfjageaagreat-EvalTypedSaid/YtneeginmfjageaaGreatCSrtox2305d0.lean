/-
  eval.sorted: the values in ascending order, each once. Conditions: none.
-/
import Derived.Shelf.SlGeneric
import Derived.Shelf.SlSortCmp.WholeK
import Derived.Test.YtneeginmfjageaaGreatProg
import Derived.Shelf.SlSortCmp.NoneTotal
import Derived.Test.YtneeginmfjageaaGreatCCmpoxa257aa
import Derived.Test.YtneeginmfjageaaGreatCHaxox48a9a4
set_option linter.all false
namespace Go.Proofs.YtneeginmfjageaaGreat
namespace Abs
section
open Go Go.Proofs Go.Shelf Go.RowKit Go.Lib Go.Sort
def CV w pv:={x:List Value×Val//x.1.length=4/\(∀v∈x.1,v.oneCell'=true)/\∀j,j<4->Rel w [] pv ((aQ x.2).getD j .unk) (x.1.getD j undef)}
theorem aDk w pv:∀j,j<4->Rel w [] pv ((aQ (.mk 0 0 [] [])).getD j .unk) (z31.getD j undef):=by
 intro j b
 match j,b with|0,_=>exact .int (by refine⟨?_,?_⟩<;>decide)|1,_=>exact .int (by refine⟨?_,?_⟩<;>decide)|2,_=>exact .str (s:=[]) (by simp)|3,_=>have:=Rel.slice (w:=w) (κ:=[]) (pv:=pv) (es:=[]) (tag:=.shared) (a:=none) (cap:=0) 0 0 1 (λ_ _=>undef) (λi h=>by cases h) (λh=>(h rfl).elim) (qAd _) (by simp) (λi j h=>by cases h) (λi j h=>by cases h) (λi j h=>by cases h) trivial;simpa[aQ,FK]using this
instance (w:World) (pv:bJ):Inhabited (CV w pv):=⟨⟨(z31,.mk 0 0 [] []),rfl,by simp[Value.oneCell'],aDk w pv⟩⟩
def nX{w:World}{pv:bJ}(x:CV w pv):=x.1.1
def jY{w:World}{pv:bJ}(x:CV w pv):=x.1.2
abbrev GD{w:World}{pv:bJ}(x y:CV w pv):=bK (jY x) (jY y)
section
variable {w1:World}{pv1:bJ}
theorem OV(x:CV w1 pv1):(nX x).length=4:=x.2.1
theorem aow(x:CV w1 pv1):∀v∈nX x,v.oneCell'=true:=x.2.2.1
theorem aor(x:CV w1 pv1):∀j,j<4->Rel w1 [] pv1 ((aQ (jY x)).getD j .unk) ((nX x).getD j undef):=x.2.2.2
theorem aGp:SWO (ltOf (GD (w:=w1) (pv:=pv1))) where
 irrefl x:=decide_eq_false (by have:=(gu (jY x) (jY x)).2 rfl;simp only[GD];omega)
 trans x y z h1 h2:=by
  simp only[ltOf,decide_eq_true_eq]at *;exact zW _ _ _ h1 h2
 ntrans x y z h1 h2:=by
  simp only[ltOf,decide_eq_false_iff_not]at *;have a:=axQ (jY z) (jY y) (jY x) (by simp only[Tf,decide_eq_true_eq];rw[pI (jY y)];simp only[GD]at h2;omega) (by simp only[Tf,decide_eq_true_eq];rw[pI (jY x)];simp only[GD]at h1;omega);simp only[Tf,decide_eq_true_eq]at a;rw[pI (jY x)]at a;simp only[GD];omega
variable {b:Nat}{dk:Array (CV w1 pv1)}{W:World}
theorem SWK.other(h:SWK nX 4 w1 b 0 dk W){c}(a:c≠b)(l:c<w1.heap.size):W.heap[c]? =w1.heap[c]?:=by
 obtain⟨n,o,rfl⟩:=h;unfold sortWorldK;rw[heap_grow_old _ _ (by rw[size_putRowK];exact l)];show(w1.heap.modify b _)[c]? =_
 grind
theorem SWK.kS(h:SWK nX 4 w1 b 0 dk W)(i:∀o,pv1 b o):Evo pv1 w1 W:=by
 refine⟨h.le,λc f u j g=>?_,λc d e z x=>?_⟩;·have a:c≠b:=λe=>j (e▸i f);have l:=lt_of_cell g;simp only[World.cell?,SWK.other h a l]at g|-;exact g
 by_cases a:c=b;·subst a;obtain⟨n,s,rfl⟩:=h;have l:c<w1.heap.size:=(qBi.1 x).1;unfold sortWorldK;rw[heap_grow_old _ _ (by rw[size_putRowK];exact l)];refine⟨putCells id 0 (flatK nX 4 dk) d,?_,by simp[putCells]⟩;show(w1.heap.modify c _)[c]? =_;rw[qBM,if_pos rfl,x];rfl
 exact⟨d,by rw[SWK.other h a (qBi.1 x).1];exact x,rfl⟩
theorem amj(h:SWK nX 4 w1 b 0 dk W)(g:∀o,pv1 b o)(p:∀c o,pv1 c o->c<w1.heap.size)(x y:CV w1 pv1):
  Calls Tryz.prog 19 #[.agg (nX x).toArray,.agg (nX y).toArray] W λe w=>e=.returned (.int .i64 (GD x y))/\∃q s,w=grow (W.drewN q) s:=by
 obtain⟨N,n⟩:=yO (jY x) (jY y);have f:cK Tryz.prog 19 [.agg (aQ (jY x)),.agg (aQ (jY y))] [] (.int .i64 (bK (jY x) (jY y))) []:=(ow N).2.2 (jY x,jY y) _ (n N (qAd _)) _ _ rfl _ _ rfl;rw[fO,fO]at f;have a:=SWK.kS h g;have k:∀z:CV w1 pv1,Rel W [] pv1 (.agg [.int .i64 (jY z).kind,.int .i64 (jY z).n,.str (jY z).name,.slice (List.map aQ (jY z).kids) .shared]) (.agg (nX z).toArray):=λz=>by refine .agg (by rw[OV];rfl) λj d=>?_;have:=(aor z j d).mono a (dw.refl _) (λ_ _ h _=>h);rwa[fO]at this
 refine quiet_of f W pv1 (λc o i=>qAD (p c o i) a.size) [.agg (nX x).toArray,.agg (nX y).toArray] rfl (λj d=>?_) (.int .i64 (GD x y)) (λw' m r v l=>by cases l;rfl)
 match j,d with|0,_=>exact k x|1,_=>exact k y
theorem aA2(a:∀o,pv1 b o)(h:∀c o,pv1 c o->c<w1.heap.size) size:CmpLays Tryz.prog 19 #[] (nX (w:=w1) (pv:=pv1)) 4 GD b 0 size w1:=by intro m s d e x y;rw[Array.append_empty];exact amj ⟨m,s,rfl⟩ a h x y
set_option maxHeartbeats 4000000 in
theorem aBp(h:SWK nX 4 w1 b 0 dk W)(C:∀o,pv1 b o)(p:∀c o,pv1 c o->c<w1.heap.size)(x y:CV w1 pv1):
  Calls Tryz.prog 125 #[.agg (nX x).toArray,.agg (nX y).toArray] W λe w=>e=.returned (.bool (GD x y==0))/\∃q s,w=grow (W.drewN q) s:=by
 have l:=λW' (D:SWK nX 4 w1 b 0 dk W')=>amj D C p x y;have i:∀z:CV w1 pv1,∃a b c d:Value,nX z=[a,b,c,d]:=λz=>by
  have:=OV z
  match nX z,this with|[a,b,c,d],_=>exact⟨a,b,c,d,rfl⟩
 obtain⟨j,k,m,n,E⟩:=i x;obtain⟨t,u,v,A,F⟩:=i y;rw[E,F]at l|-;have f:∀o1 g,Calls Tryz.prog 19 #[.agg #[j,k,m,n],.agg #[t,u,v,A]] ((W.alloc o1).alloc g) λe w=>e=.returned (.int .i64 (GD x y))/\∃q s,w=grow (((W.alloc o1).alloc g).drewN q) s:=λo1 g=>l _ (SWK.alloc (SWK.alloc h o1) g);have B:Aside _:=f;generalize GD x y=r at B|-;clear l h f
 go_enter Tryz.func125,Tryz.ntmps125
 go_wp2_with (go_at_call 19;refine(B.out _ _).mono ?_;rintro e w ⟨rfl,q,s,rfl⟩)
 go_ret
 refine⟨rfl,q,#[Obj.cells #[j,k,m,n] 40]++#[Obj.cells #[t,u,v,A] 40]++s,?_⟩;rw[alloc_eq_grow,alloc_eq_grow,grow_grow,<-grow_grow (W.drewN q)];rfl
end
end
section
open Go Go.Proofs Go.Shelf Go.RowKit Go.Lib Go.Sort
theorem awH{a b c}(d:bK a b<=0)(h2:bK b c<0):bK a c<0:=by
 rcases qDf d with h|h
 ·exact zW a b c h h2
 rw[(gu a b).1 h];exact h2
theorem awX g n (hs:∀i j,i<j->j<n->bK (g i) (g j)<=0):((List.range n).filter λj=>j==0 ||!bK (g j) (g (j - 1))==0).map g=sortV ((List.range n).map g):=by
 refine Ba ?_ λx=>?_
 ·rw[List.pairwise_map];have o:((List.range n).filter (λj=>j==0 ||!(bK (g j) (g (j - 1))==0))).Pairwise (·<·):=List.Pairwise.filter _ qDE
  refine List.Pairwise.imp_of_mem ?_ o;intro i j m p q;obtain⟨c,a⟩:=qAY.1 p;have d:=qCc.1 c;have f:(j==0)=false:=by simp;omega
  rw[f,qCF]at a;have k:bK (g j) (g (j - 1))≠0:=by simpa using a
  have l:bK (g (j - 1)) (g j)<0:=by have:=hs (j - 1) j (by omega) d;rw[pI (g (j - 1)) (g j)]at k;omega
  by_cases e:i=j - 1;·rw[e];exact l
  exact awH (hs i (j - 1) (by omega) (by omega)) l
 constructor;·grind
 intro h;obtain⟨i,b,rfl⟩:=qAA.1 h;have m:=qCc.1 b;clear h b
 induction i with|zero=>exact qAA.2 ⟨0,qAY.2 ⟨qCc.2 m,rfl⟩,rfl⟩|succ i r=>
  by_cases e:bK (g (i+1)) (g i)=0;·rw[(gu _ _).1 e];exact r (by omega)
  grind
theorem asW{l m}(h:∀x,x∈l↔x∈m):sortV l=sortV m:=Ba (iR l) λx=>by rw[eG,h x]
section
variable {w1:World}{pv1:bJ}
theorem avk{d d':Array (CV w1 pv1)}(p:PermIn 0 d.size d d')(hs:SortedIn (ltOf GD) 0 d.size d'):(keptUpTo (P5 (λx y=>GD x y==0) d') d' d'.size).map jY=sortV (d.toList.map jY):=by
 obtain⟨a,_,b⟩:=p;have k:=awX (λj=>jY d'[j]!) d'.size (λi j h c=>by have:=hs i j (qBf _) h (by omega);simp only[ltOf,decide_eq_false_iff_not,GD]at this;rw[pI (jY d'[j]!)];omega)
 have e:(keptUpTo (P5 (λx y=>GD x y==0) d') d' d'.size).map jY=((List.range d'.size).filter (λj=>j==0 ||!(bK (jY d'[j]!) (jY d'[j - 1]!)==0))).map (λj=>jY d'[j]!):=by unfold keptUpTo;rw[qBl];rfl
 rw[e,k];refine asW λx=>?_;have f:(List.range d'.size).map (λj=>jY d'[j]!)=d'.toList.map jY:=by have:=range_map_get d';rw[<-this,qBl];rfl
 have g:d'.extract 0 d.size=d':=by rw[<-a];simp
 have l:d.extract 0 d.size=d:=by simp
 grind
end
structure Laid(w:World)(pv:bJ)(ts:List Val)(w1:World)(b:Nat)(pv1:bJ)(d:Array (CV w1 pv1)):Prop where
 below:Go.RowKit.Below w.heap.size w w1
 lo:w.heap.size≤b
 hi:b<w1.heap.size
 pvlt:∀c o,pv1 c o→c<w1.heap.size
 pvb:∀o,pv1 b o
 pvsub:∀c o,pv c o→pv1 c o
 holds:HoldsK nX 4 w1 b 0 d
 vals:d.toList.map jY=ts
theorem Laid.size{w pv t a b p d}(h:Laid w pv t a b p d):d.size=t.length:=by rw[<-h.vals];simp
theorem Laid.row{w pv t a b p d}(h:Laid w pv t a b p d):RowK nX 4 a b 0 d:=⟨OV,aow,h.holds,h.hi⟩
def agV(w)pv(ts)w1(a:Option Addr)cap1:=∃b p d,a=some ⟨b,0,none⟩/\ts.length<=cap1/\Laid w pv ts w1 b p d
def awc(w)pv(ts)w2(e:Option Addr)cap1:=∃(a:World) (b:Nat) (p:bJ) (d c:Array (CV a p)),e=some ⟨b,0,none⟩/\ts.length<=cap1/\Laid w pv ts a b p d/\SWK nX 4 a b 0 c w2/\PermIn 0 d.size d c/\SortedIn (ltOf GD) 0 d.size c
def aob(w)pv(ts)w3(c:Option Addr)m:=∃(a:World) (b:Nat) (p:bJ) (d k:Array (CV a p)),c=some ⟨b,0,none⟩/\Laid w pv ts a b p d/\SWK nX 4 a b 0 k w3/\k.size=d.size/\m<=d.size/\(List.range m).map (λj=>jY k[j]!)=sortV ts
theorem avY{w}{κ}{pv}{es}{t}{v}(h:Rel w κ pv (.slice es t) v):Rel w κ pv (.slice es .shared) v:=by
 cases h with|slice b o s u c d e a f g i j=>exact .slice b o s u c d e a f g i trivial
theorem Om{w κ pv x}(a:∀g,ren g x=x){v}(h:Rel w κ pv x v):Rel w [] pv x v:=by
 refine Rel.AU (g:=λi=>κ.length+i) (λi=>?_) h x (a _).symm;unfold at?
 grind
theorem azo(t:List Val) g:ren g (.slice (t.map aQ) .shared)=.slice (t.map aQ) .shared:=by simp only[ren,pK,IZ]
theorem ab8{w κ pv x v}(h:Rel w κ pv x v)(hs:isScalar x=true):v.oneCell'=true:=by cases h<;>first|rfl|(simp[isScalar]at hs;done)
theorem aoJ(t:List Val) i hi:(t.map aQ).getD i []=aQ t[i]:=by grind
theorem Km t j g:ren g ((aQ t).getD j .unk)=(aQ t).getD j .unk:=by have:=NJ g t;rw[<-iF,this]
theorem EH t j (h:j<4):isScalar ((aQ t).getD j .unk)=true:=by
 rw[fO]
 match j,h with|0,_=>rfl|1,_=>rfl|2,_=>rfl|3,_=>rfl
theorem au0{w}{pv}(C:∀c o,pv c o->c<w.heap.size){t}(P:t.length*56<=140737488355328)(Q:0<t.length){a}{cap}(R:Rel w [] pv (.slice (t.map aQ) .shared) (.slice a t.length cap)):
  Calls Tryz.prog 75 #[.slice a t.length cap] w λe A=>∃F p,e=.returned (.slice F t.length p)/\agV w pv t A F p:=by
 have D:app 56 ([]:List Val) t=some t:=by unfold app;rw[if_pos ⟨by simpa using P,by simp;omega⟩];rfl
 have E:aD pv [] []=pv:=by funext b o;exact propext (afG pv [] b o)
 refine(E8 56 t t D rfl [] pv w [.slice a t.length cap] (abB pv w C) rfl (λj y=>?_)).mono ?_
 ·have:j=0:=by simp at y;omega
  subst this;rw[E];exact R
 rintro e A ⟨v,n,rfl,m,S⟩;cases S with|@psl _ _ _ p F T X U=>
 refine⟨F,p,rfl,?_⟩;obtain⟨_,⟨L,g⟩|⟨b,c,Y,q,L,Z,hs⟩⟩:=U;·omega
 obtain⟨f,e2,M,V,q3,G⟩:=m.obj 0 b q trivial;obtain⟨k,d⟩:∃k,k=aD pv n [.arr 4 (t.map aQ)]:=⟨_,rfl⟩;change ∀i j,i<(t.map aQ).length->j<4->Rel A n (aD pv n [.arr 4 (t.map aQ)]) (((t.map aQ).getD i []).getD j .unk) (f.getD (i*4+j) undef)at G;rw[<-d]at G;rw[qAg]at G V;have x:∀i (B:i<t.length) j,j<4->Rel A n k ((aQ t[i]).getD j .unk) (f.getD (i*4+j) undef):=λi B j y=>by have:=G i j B y;rwa[aoJ t i B]at this
 let H:∀i:Fin t.length,CV A k:=λi=>⟨([f.getD (i.1*4+0) undef,f.getD (i.1*4+1) undef,f.getD (i.1*4+2) undef,f.getD (i.1*4+3) undef],t[i.1]),rfl,(by
   intro u N;simp only[qAh,qCH,or_false]at N;rcases N with rfl|rfl|rfl|rfl
   ·exact ab8 (x i.1 i.2 0 (by omega)) (EH _ _ (by omega))
   ·exact ab8 (x i.1 i.2 1 (by omega)) (EH _ _ (by omega))
   ·exact ab8 (x i.1 i.2 2 (by omega)) (EH _ _ (by omega))
   ·exact ab8 (x i.1 i.2 3 (by omega)) (EH _ _ (by omega))),(by
   intro j y
   match j,y with
   |0,_=>exact Om (Km _ _) (x i.1 i.2 0 (by omega))|1,_=>exact Om (Km _ _) (x i.1 i.2 1 (by omega))|2,_=>exact Om (Km _ _) (x i.1 i.2 2 (by omega))|3,_=>exact Om (Km _ _) (x i.1 i.2 3 (by omega)))⟩
 refine⟨b,k,Array.ofFn H,L,T,⟨⟨m.os,m.tape,m.output,m.kS.size,λc g=>m.kept c g λl h=>by rw[at_nil]at h;cases h⟩,?_,m.bound 0 b q,?_,?_,?_,?_,?_⟩⟩
 ·rcases m.stay 0 b q trivial with h|⟨l0,h,_⟩
  ·exact h
  rw[at_nil]at h;cases h
 ·intro c o g;rw[d]at g;rcases g with g|⟨l,g,_⟩
  ·exact qAD (C c o g) m.kS.size
  exact m.bound l c g
 ·intro o;rw[d];exact .inr ⟨0,q,trivial⟩
 ·intro c o g;rw[d];exact .inl g
 ·intro j y;have I:j<t.length*4:=by simpa using y
  have B:j/4<t.length:=by omega
  rw[get_flatK nX 4 _ j (by simpa using I)];have W:(Array.ofFn H)[j/4]! =H ⟨j/4,B⟩:=by rw[getElem!_pos (Array.ofFn H) (j/4) (by simpa using B)];simp
  have J:j<f.size:=by omega
  have z:A.cell? ⟨b,0+j,none⟩=some (f.getD j undef):=by simp[World.cell?,M,Array.getD,J]
  refine⟨?_,by simp[World.frozen?,M]⟩;rw[z,W];show some (f.getD j undef)=some ([f.getD (j/4*4+0) undef,f.getD (j/4*4+1) undef,f.getD (j/4*4+2) undef,f.getD (j/4*4+3) undef][j%4]!);have O:j%4<4:=qDs _ (by omega);have K:j=j/4*4+j%4:=by omega
  generalize j%4=r at O K|-;generalize j/4=s at K|-;subst K
  match r,O with|0,_=>rfl|1,_=>rfl|2,_=>rfl|3,_=>rfl
 apply qBV;·simp
 intro i h1 h2;simp only[qDy,qDN,Array.getElem_ofFn];rfl
end
end Abs
end Go.Proofs.YtneeginmfjageaaGreat
namespace Go.Proofs
open Go.Shelf
def Tryz.apx:Go.Shelf.Ren:=⟨λ|6=>123|15=>200|14=>199|28=>286|29=>287|20=>278|21=>279|22=>280|23=>281|24=>282|25=>283|26=>284|27=>285|46=>323|47=>324|48=>325|49=>326|50=>327|57=>348|n=>n,λ|22=>27|24=>40|25=>51|3=>3|39=>202|0=>0|53=>243|55=>245|4=>4|46=>237|45=>236|50=>205|5=>5|9=>9|66=>257|70=>261|76=>273|77=>171|n=>n,λ|n=>n⟩
set_option maxRecDepth 100000 in
theorem Tryz.aoF:Go.Proofs.SlLaysF0.n6 Tryz.prog Tryz.apx:={
 mixed:=by kernel_rfl
 f6:=⟨Tryz.f123.name,by decide,Tryz.func123.trans (congrArg some (by kernel_rfl))⟩
 f14:=⟨Tryz.f199.name,by decide,Tryz.func199.trans (congrArg some (by kernel_rfl))⟩
 f15:=Tryz.func200.trans (congrArg some (by kernel_rfl))
 f20:=⟨Tryz.f278.name,by decide,Tryz.func278.trans (congrArg some (by kernel_rfl))⟩
 f21:=⟨Tryz.f279.name,by decide,Tryz.func279.trans (congrArg some (by kernel_rfl))⟩
 f22:=⟨Tryz.f280.name,by decide,Tryz.func280.trans (congrArg some (by kernel_rfl))⟩
 f23:=⟨Tryz.f281.name,by decide,Tryz.func281.trans (congrArg some (by kernel_rfl))⟩
 f24:=⟨Tryz.f282.name,by decide,Tryz.func282.trans (congrArg some (by kernel_rfl))⟩
 f25:=⟨Tryz.f283.name,by decide,Tryz.func283.trans (congrArg some (by kernel_rfl))⟩
 f26:=⟨Tryz.f284.name,by decide,Tryz.func284.trans (congrArg some (by kernel_rfl))⟩
 f27:=⟨Tryz.f285.name,by decide,Tryz.func285.trans (congrArg some (by kernel_rfl))⟩
 f28:=Tryz.func286.trans (congrArg some (by kernel_rfl))
 f29:=Tryz.func287.trans (congrArg some (by kernel_rfl))
 f46:=⟨Tryz.f323.name,by decide,Tryz.func323.trans (congrArg some (by kernel_rfl))⟩
 f47:=Tryz.func324.trans (congrArg some (by kernel_rfl))
 f48:=Tryz.func325.trans (congrArg some (by kernel_rfl))
 f49:=⟨Tryz.f326.name,by decide,Tryz.func326.trans (congrArg some (by kernel_rfl))⟩
 f50:=⟨Tryz.f327.name,by decide,Tryz.func327.trans (congrArg some (by kernel_rfl))⟩
 f57:=⟨Tryz.f348.name,by decide,Tryz.func348.trans (congrArg some (by kernel_rfl))⟩
 t0:=Tryz.underlying0
 a0:=Tryz.isAgg0
 z0:=Tryz.sizeOf0
 v0:=Tryz.zeroValue0
 t3:=Tryz.underlying3
 a3:=Tryz.isAgg3
 z3:=Tryz.sizeOf3
 v3:=Tryz.zeroValue3
 t4:=Tryz.underlying4
 a4:=Tryz.isAgg4
 z4:=Tryz.sizeOf4
 v4:=Tryz.zeroValue4
 t5:=Tryz.underlying5
 a5:=Tryz.isAgg5
 z5:=Tryz.sizeOf5
 v5:=Tryz.zeroValue5
 t9:=Tryz.underlying9
 a9:=Tryz.isAgg9
 z9:=Tryz.sizeOf9
 v9:=Tryz.zeroValue9
 t22:=Tryz.underlying27
 a22:=Tryz.isAgg27
 z22:=Tryz.sizeOf27
 v22:=Tryz.zeroValue27
 t25:=Tryz.underlying51
 a25:=Tryz.isAgg51
 z25:=Tryz.sizeOf51
 v25:=Tryz.zeroValue51
 t39:=Tryz.underlying202
 a39:=Tryz.isAgg202
 z39:=Tryz.sizeOf202
 v39:=Tryz.zeroValue202
 t45:=Tryz.underlying236
 a45:=Tryz.isAgg236
 z45:=Tryz.sizeOf236
 v45:=Tryz.zeroValue236
 t46:=Tryz.underlying237
 a46:=Tryz.isAgg237
 z46:=Tryz.sizeOf237
 v46:=Tryz.zeroValue237
 t50:=Tryz.underlying205
 a50:=Tryz.isAgg205
 z50:=Tryz.sizeOf205
 v50:=Tryz.zeroValue205
 t53:=Tryz.underlying243
 a53:=Tryz.isAgg243
 z53:=Tryz.sizeOf243
 v53:=Tryz.zeroValue243
 t55:=Tryz.underlying245
 a55:=Tryz.isAgg245
 z55:=Tryz.sizeOf245
 v55:=Tryz.zeroValue245
 t66:=Tryz.underlying257
 a66:=Tryz.isAgg257
 z66:=Tryz.sizeOf257
 v66:=Tryz.zeroValue257
 t70:=Tryz.underlying261
 a70:=Tryz.isAgg261
 z70:=Tryz.sizeOf261
 v70:=Tryz.zeroValue261
 t76:=Tryz.underlying273
 a76:=Tryz.isAgg273
 z76:=Tryz.sizeOf273
 v76:=Tryz.zeroValue273
 t77:=Tryz.underlying171
 a77:=Tryz.isAgg171
 z77:=Tryz.sizeOf171
 v77:=Tryz.zeroValue171}
end Go.Proofs
namespace Go.Proofs.YtneeginmfjageaaGreat
namespace Abs
open Go Go.Proofs Go.Shelf Go.RowKit Go.Lib Go.Sort
theorem ays{w pv t a f c}(r:t.length*56<=140737488355328)(h:agV w pv t a f c):
  Calls Tryz.prog 123 #[.slice f t.length c,.func (.func 19) #[] #[]] a λe g=>e=.returned (.tuple #[])/\awc w pv t g f c:=by obtain⟨b,p,d,rfl,j,l⟩:=h;have i:=AnyQ.slices_SortFunc Tryz.aoF 4 Tryz.isAgg40 Tryz.sizeOf40 (nX (w:=a) (pv:=p)) OV aow GD aGp 19 #[] b 0 c d a (enters_of Tryz.func19 (by kernel_rfl) rfl) (aA2 l.pvb l.pvlt d.size) l.holds l.hi (by rw[l.size];omega);change Calls Tryz.prog 123 _ _ _ at i;rw[<-l.size];refine i.mono ?_;rintro e g ⟨rfl,k,n,o,m,s,q⟩;exact⟨rfl,a,b,p,d,k,rfl,j,l,⟨n,o,q⟩,m,s⟩
theorem arz{w pv t o k c}(D:t.length*56<=140737488355328)(h:awc w pv t o k c):
  Calls Tryz.prog 124 #[.slice k t.length c,.func (.func 125) #[] #[]] o λe v=>∃m,e=.returned (.slice k m c)/\m<=c/\m<=140737488355328/\aob w pv t v k m:=by
 obtain⟨q,b,p,d,a,rfl,E,l,B,f,C⟩:=h;have s:a.size=t.length:=by rw[f.1,l.size]
 have g:=am8 (nX (w:=q) (pv:=p)) (λx y=>GD x y==0) b 0 c d a q o rfl (λW z _ r x y=>aBp r l.pvb l.pvlt x y) l.row (by rw[f.1]) B (by omega) (by omega);rw[<-s];refine g.mono ?_;rintro e v ⟨z,rfl,r,u,i⟩;have A:=avk f C;have n:(keptUpTo (P5 (λx y=>GD x y==0) a) a a.size).length<=a.size:=by unfold keptUpTo;rw[qAg];exact qAu (qCO _ _) (by simp)
 refine⟨_,rfl,by omega,by omega,q,b,p,d,z,rfl,l,r,by rw[u,f.1],by rw[<-f.1];exact n,?_⟩;rw[l.vals]at A;rw[<-A];apply qBV;·simp
 intro j g F;simp only[qAg,List.length_range]at g;have:=i j g;rw[qAc g]at this;simp only[qDy,List.getElem_range];rw[Option.some.inj this]
theorem ap5 p cap fv w:Calls Tryz.prog 124 #[.slice p 0 cap,fv] w λe a=>e=.returned (.slice p 0 cap)/\a=w:=by
 go_enter Tryz.func124,Tryz.ntmps124
 go_wp2
 go_ret
 exact⟨rfl,rfl⟩
theorem aob.rel{w pv p k B m}(h:aob w pv p k B m) κ (x:∀c o,pv c o->c<w.heap.size)(I:m<=140737488355328):Go.RowKit.Below w.heap.size w k/\Rel k κ pv (.slice ((sortV p).map aQ) .shared) (.slice B m m):=by
 obtain⟨y,b,D,d,q,rfl,f,r,z,E,F⟩:=h;have v:=SWK.kS r f.pvb;have s:k.os=y.os/\k.tape=y.tape/\k.output=y.output:=by obtain⟨n,J,rfl⟩:=r;exact⟨rfl,rfl,rfl⟩
 refine⟨⟨s.1.trans f.below.os,s.2.1.trans f.below.tape,s.2.2.trans f.below.output,qAu f.below.size v.size,λc C=>(SWK.other r (by have:=f.lo;omega) (qAD C f.below.size)).trans (f.below.block c C)⟩,?_⟩;have e:(sortV p).length=m:=by rw[<-F];simp
 have t:∀i (g:i<m),((sortV p).map aQ).getD i []=aQ (jY q[i]!):=λi g=>by grind
 have G:=r.holds f.row.hblk f.row.hH z;have:=Rel.slice (w:=k) (κ:=κ) (pv:=pv) (es:=(sortV p).map aQ) (tag:=.shared) (a:=some ⟨b,0,none⟩) (cap:=m) b 0 4 (λi j=>(nX q[i]!).getD j undef)
  (λi g=>by rw[qAg,e]at g;rw[t i g,fO];rfl) (λ_=>rfl) (by simp[e]) (by simp[e];omega)
  (λi j _ _ A=>by have:=x _ _ A;have:=f.lo;omega)
  (λi j g u=>by
   rw[qAg,e]at g;have:=(HoldsK.cell G (i:=i) (c:=j) (by omega) u).1;rw[show 0+(i*4+j)=0+i*4+j by omega,this];have H:j<(nX q[i]!).length:=by rw[OV];exact u
   simp[H])
  (λi j g u=>by rw[qAg,e]at g;rw[t i g];exact(aor q[i]! j u).mono v (λl b h=>by rw[at_nil]at h;cases h) (λc o A _=>f.pvsub c o A)) trivial
 grind
set_option maxHeartbeats 4000000 in
theorem acH H t tag (I:t.length*56<=140737488355328):cK Tryz.prog 61 [.slice (t.map aQ) tag] H (.slice ((sortV t).map aQ) .shared) H:=by
 intro f k w S s J K;have F:=K 0 (by simp)
 match S,J with
 |[v],_=>
 simp only[List.getD,qAF,qAv]at F;have u:∀c o,aD k f H c o->c<w.heap.size:=λc o h=>ath s h;have y:=Om (azo t) (avY F);obtain⟨a,g,rfl,_,_⟩:=y.lu;rw[qAg]at y|-;by_cases L:0<t.length
 ·have G:=au0 u I L y;have z:=λw1 ad p (h:agV w (aD k f H) t w1 ad p)=>ays I h;have A:=λw1 ad p (h:awc w (aD k f H) t w1 ad p)=>arz I h;have q:∀(w3:World) (ad:Option Addr) (m:Nat),m<=140737488355328->aob w (aD k f H) t w3 ad m->∃v d,Ending.returned (.slice ad m m)=Ending.returned v/\Leave f d k H H w w3/\Rel w3 d (aD k d H) (.slice ((sortV t).map aQ) .shared) v:=λw3 ad m T h=>by obtain⟨U,V⟩:=h.rel f u T;exact⟨_,f,rfl,Leave.same s U,V⟩
  have x:Aside _:=q;have M:Aside (Calls Tryz.prog 75 #[.slice a t.length g] w λe w1=>∃ad p,e=.returned (.slice ad t.length p)/\agV w (aD k f H) t w1 ad p):=G;have N:Aside _:=z;have W:Aside _:=A;clear G z A q y F K;generalize t.length=n at *
  go_enter Tryz.func61,Tryz.ntmps61
  go_wp2_with (first
   |(go_at_call 75;refine M.out.mono ?_;rintro e w1 ⟨ad,p,rfl,O⟩)
   |(go_at_call 123;refine(N.out _ _ _ O).mono ?_;rintro e P ⟨rfl,X⟩)
   |(go_at_call 124;refine(W.out _ _ _ X).mono ?_;rintro e w3 ⟨m,rfl,Q,B,Y⟩)
   |(go_at_call 74;refine(HY _ _ _ Q B _).mono ?_;rintro e Z ⟨rfl,rfl⟩))
  go_ret
  exact x.out _ _ _ B Y
 have R:t=[]:=qAI.1 (by omega);subst R;have C:aD (aD k f H) [] []=aD k f H:=by funext b o;exact propext (afG _ [] b o)
 have D:=E8 56 [] [] (by rfl) rfl [] (aD k f H) w [.slice a 0 g] (abB _ w u) rfl (λj hj=>by
  have:j=0:=by simp at hj;omega
  subst this;rw[C];exact y)
 have r:Calls Tryz.prog 75 #[.slice a 0 g] w λe w1=>∃ad p,e=.returned (.slice ad 0 p)/\Go.RowKit.Below w.heap.size w w1:=D.mono (by
  rintro e w1 ⟨v,d,rfl,E,hv⟩;cases hv with|@psl _ _ _ p ad g1 g2 g3=>exact⟨ad,p,rfl,E.os,E.tape,E.output,E.kS.size,λc G=>E.kept c G λl h=>by rw[at_nil]at h;cases h⟩)
 have M:Aside (Calls Tryz.prog 75 #[.slice a 0 g] w λe w1=>∃ad p,e=.returned (.slice ad 0 p)/\Go.RowKit.Below w.heap.size w w1):=r;have N:∀ad p w1,Calls Tryz.prog 123 #[.slice ad 0 p,.func (.func 19) #[] #[]] w1 λe P=>e=.returned (.tuple #[])/\P=w1:=λad p w1=>AnyF.slices_SortFunc_none Tryz.aoF ad p _ w1;have q:∀(w3:World) (ad:Option Addr),Go.RowKit.Below w.heap.size w w3->∃v d,Ending.returned (.slice ad 0 0)=Ending.returned v/\Leave f d k H H w w3/\Rel w3 d (aD k d H) (.slice ((sortV []).map aQ) .shared) v:=λw3 ad h=>by refine⟨_,f,rfl,Leave.same s h,?_⟩;have:=Rel.slice (w:=w3) (κ:=f) (pv:=aD k f H) (es:=[]) (tag:=.shared) (a:=ad) (cap:=0) 0 0 1 (λ_ _=>undef) (λi h=>by cases h) (λh=>(h rfl).elim) (qAd _) (by simp) (λi j h=>by cases h) (λi j h=>by cases h) (λi j h=>by cases h) trivial;simpa[sortV]using this
 have x:Aside _:=q;clear D r q y F K;show Calls Tryz.prog 61 #[.slice a 0 g] w _
 go_enter Tryz.func61,Tryz.ntmps61
 go_wp2_with (first
  |(go_at_call 75;refine M.out.mono ?_;rintro e w1 ⟨ad,p,rfl,O⟩)
  |(go_at_call 123;refine(N _ _ _).mono ?_;rintro e P ⟨rfl,rfl⟩)
  |(go_at_call 124;refine(ap5 _ _ _ _).mono ?_;rintro e w3 ⟨rfl,rfl⟩)
  |(go_at_call 74;refine(HY _ 0 _ (qBf _) (qBf _) _).mono ?_;rintro e Z ⟨rfl,rfl⟩))
 go_ret
 exact x.out _ _ O
end Abs
end Go.Proofs.YtneeginmfjageaaGreat
