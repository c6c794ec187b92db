/-
  The value of a term under a renaming of values. Conditions: the renaming keeps types and can be undone; names have values of their types; lemmas without a program.
-/
import Derived.Test.YthgdaonechbgmaaGreatCP52ox7cb8f9
set_option linter.all false
namespace Go.Proofs.YthgdaonechbgmaaGreat
namespace Abs
section
open Go
def M4(T:Val→Val)(bs:List Bound):List Bound:=bs.map fun b=>⟨b.name,T b.v⟩
theorem aBK{T:Val→Val}{env:Env}{sz:List Int}{g g':Str→Val}(hgg:∀s t,look env s=some t→g' s=T (g s)){sc:List Decl}{bs:List Bound}(h:Scp env sz sc bs){s:Str}{t:Ty}(ht:nJ env sc s=some t):Ml g' (M4 T bs) s=T (Ml g bs s):=by
 unfold nJ at ht;unfold Ml
 induction h with
 |nil=>exact hgg s t ht
 |cons h k ih=>
  rename_i nm t1 v sc bs;unfold M4;simp only[qAy,qCd]at ht⊢;cases hn:nm==s with
  |true=>rfl
  |false=>
   rw[hn]at ht;exact ih ht
theorem au4{xs ys:List Val}(p:Val→Bool)(h:ys.length=xs.length):ys.all p=(xs.zip ys).all fun q=>p q.2:=by
 induction xs generalizing ys with
 |nil=>cases ys with|nil=>rfl|cons _ _=>simp at h
 |cons a xs ih=>
  cases ys with
  |nil=>simp at h
  |cons b ys=>simp only[qDT,qBC];rw[ih (by simpa using h)]
theorem auW{xs ys:List Val}(p:Val→Bool)(h:ys.length=xs.length):ys.any p=(xs.zip ys).any fun q=>p q.2:=by
 induction xs generalizing ys with
 |nil=>cases ys with|nil=>rfl|cons _ _=>simp at h
 |cons a xs ih=>
  cases ys with
  |nil=>simp at h
  |cons b ys=>simp only[qDT,qCA];rw[ih (by simpa using h)]
section
variable {env:Env}{sz:List Int}{T T':Val→Val}{g g':Str→Val}
theorem aen(hv:aW env=true){sc:List Decl}{t:Tm}{ty:Ty}(h:HT env sc t ty):GoodS sc→Top ty:=by
 induction h with
 |int _=>exact fun _=>.inr .int
 |name h=>exact fun hs=>.inr (Yx hv hs h)
 |empty h=>exact fun _=>.inr (.set h)
 |compr _ _ i1 _=>exact i1
 |fn hg _ _ i1 _=>exact fun hs=>.inr (.set (.pair (nk (i1 hs)) hg))
 |neg _ _=>exact fun _=>.inr .int
 |num _ _ _ _=>exact fun _=>.inr .int
 |pair ha hb _ _=>exact fun _=>.inr (.pair ha hb)
 |set ha _ _ _=>exact fun _=>.inr (.set ha)
 |range _ _=>exact fun _=>.inr (.set .int)
 |bin _ _ _ _ i1 _=>exact i1
 |prod _ _ i1 i2=>exact fun hs=>.inr (.set (.pair (nk (i1 hs)) (nk (i2 hs))))
 |over _ _ i1 _=>exact i1
 |comp _ _ i1 i2=>
  intro hs;cases nk (i1 hs);cases nk (i2 hs);exact .inr (.set (.pair (by assumption) (by assumption)))
 |dres _ _ _ _ _ i2=>exact i2
 |rres _ _ _ _ i1 _=>exact i1
 |fam _ _ _ _ i1 i2=>exact fun hs=>.inr (.set (.set (.pair (nk (i1 hs)) (nk (i2 hs)))))
 |pow _ i1=>exact fun hs=>.inr (.set (.set (nk (i1 hs))))
 |card _ _=>exact fun _=>.inr .int
 |ext _ _ _ _=>exact fun _=>.inr .int
 |dom _ i1=>
  intro hs;cases nk (i1 hs);exact .inr (.set (by assumption))
 |ran _ i1=>
  intro hs;cases nk (i1 hs);exact .inr (.set (by assumption))
 |inv _ i1=>
  intro hs;cases nk (i1 hs);exact .inr (.set (.pair (by assumption) (by assumption)))
 |image _ _ i1 _=>
  intro hs;cases nk (i1 hs);exact .inr (.set (by assumption))
 |app _ _ i1 _=>
  intro hs;cases nk (i1 hs);exact .inr (by assumption)
 |_=>exact fun _=>.inl rfl
theorem axq{sc:List Decl}{nm:Str}{e:Ty}(hg:Good e)(hs:GoodS sc):GoodS (⟨nm,e⟩::sc):=fun d hd=>by
 rcases qAh.1 hd with rfl|hd
 ·exact hg
 ·exact hs d hd
def ald(env:Env)(sz:List Int)(T:Val→Val)(g g':Str→Val)(t:Tm):Prop:=∀sc ty bs,GoodS sc→HT env sc t ty→Scp env sz sc bs→mJ T (aj g t bs) (aj g' t (M4 T bs))
theorem dU{e:Ty}{w:Val}(hw:jo env sz (au e) w):dO w.kids∧qK env sz e w.kids∧w=mkSet w.kids:=by
 obtain⟨l,rfl,h1,h2⟩:=apF hw;exact⟨h1,h2,rfl⟩
theorem gB(h:Rn env sz T T'){e:Ty}{w:Val}(hw:jo env sz (au e) w):(T w).kids=gK T w.kids:=by
 obtain⟨_,_,e⟩:=dU hw;rw[e,h.set];rfl
theorem abM(h:Rn env sz T T')(hg:Xp env sz g){y:Tm}{sc:List Decl}{t:Ty}{bs:List Bound}(hv:aW env=true)(gs:GoodS sc)(hy:HT env sc y (au t))(hs:Scp env sz sc bs)(iy:ald env sz T g g' y)(ik:∀k∈y.kids,ald env sz T g g' k):fq (fun l l'=>∀x,jo env sz t x→iB y.op l' (T x)=iB y.op l x) (vv (nu g y) bs) (vv (nu g' y) (M4 T bs)):=by
 have S:∀{k:Tm} {ty:Ty} {v:Val},HT env sc k ty→aj g k bs=.ok v→jo env sz ty v:=fun hk he=>⟨aen hv hk gs,sound hg _ sc _ bs _ hk hs he⟩;unfold vv;by_cases hsy:iO y.op=true
 ·show fq _ (cond (iO y.op) _ _) (cond (iO y.op) _ _);rw[hsy];simp only[cond_true];cases hy with
  |fam q hq hz hw=>
   rename_i nm m u z w c d;have e1:=ahC (T:=T) (f:=fun k=>aj g k bs) (f':=fun k=>aj g' k (M4 T bs)) (l:=[z,w]) fun k hk=>by
    rcases qAh.1 hk with rfl|hk
    ·exact ik k (by simp[Tm.kids]) sc _ bs gs hz hs
    ·have:k=w:=by simpa using hk
     subst this;exact ik k (by simp[Tm.kids]) sc _ bs gs hw hs
   refine fq.mono (r:=aN [aj g z bs,aj g w bs]) (r':=aN [aj g' z (M4 T bs),aj g' w (M4 T bs)]) e1 fun l l' e _ hl x hx=>?_;subst hl;obtain⟨a,b,h1,h2,_⟩:=seq2 (r:=aj g z bs) (s:=aj g w bs) (f:=fun l=>.ok (l.headD v0)) (v:=l.headD v0) (by rw[e];rfl);rw[h1,h2]at e;have e:(.ok [a,b]:xU)=.ok l:=e;cases e;obtain⟨a1,a2,ea⟩:=dU (S hz h1);obtain⟨b1,b2,eb⟩:=dU (S hw h2);obtain⟨q1,q2,eq⟩:=dU hx;have h46:(q==46)=false:=by rcases hq with rfl|rfl|rfl|rfl|rfl<;>rfl
   unfold iB;rw[show iO (Tm.mk q nm m u [z,w]).op=true from hsy];show cond (q==46) _ (lC q (T a).kids (T b).kids (T x).kids)=cond (q==46) _ (lC q a.kids b.kids x.kids);rw[h46,cond_false,cond_false,gB h (S hz h1),gB h (S hw h2),gB h hx];exact h.lC q a2 b2 q2 a1.1 b1.1 q1.1
  |pow hz=>
   rename_i nm m u z c;have e1:=ahC (T:=T) (f:=fun k=>aj g k bs) (f':=fun k=>aj g' k (M4 T bs)) (l:=[z]) fun k hk=>by
    have:k=z:=by simpa using hk
    subst this;exact ik k (by simp[Tm.kids]) sc _ bs gs hz hs
   refine fq.mono (r:=aN [aj g z bs]) (r':=aN [aj g' z (M4 T bs)]) e1 fun l l' e _ hl x hx=>?_;subst hl;obtain⟨a,h1,_⟩:=seq1 (r:=aj g z bs) (f:=fun l=>.ok (l.headD v0)) (v:=l.headD v0) (by rw[e];rfl);rw[h1]at e;have e:(.ok [a]:xU)=.ok l:=e;cases e;obtain⟨a1,a2,ea⟩:=dU (S hz h1);obtain⟨q1,q2,eq⟩:=dU hx;show(T x).kids.all (aF (T a).kids)=x.kids.all (aF a.kids);rw[gB h (S hz h1),gB h hx];exact Rn.all _ _ fun v hv=>h.aF a2 (q2 v hv)
  |bin q hq=>rcases hq with rfl|rfl|rfl<;>cases hsy
  |dres q hq=>rcases hq with rfl|rfl<;>cases hsy
  |rres q hq=>rcases hq with rfl|rfl<;>cases hsy
  |_=>cases hsy
 ·rw[qDp]at hsy;show fq _ (cond (iO y.op) _ _) (cond (iO y.op) _ _);rw[hsy];simp only[cond_false];have e1:=ahC (T:=T) (f:=fun k=>aj g k bs) (f':=fun k=>aj g' k (M4 T bs)) (l:=[y]) fun k hk=>by
   have:k=y:=by simpa using hk
   subst this;exact iy sc _ bs gs hy hs
  refine fq.mono (r:=aN [aj g y bs]) (r':=aN [aj g' y (M4 T bs)]) e1 fun l l' e _ hl x hx=>?_;subst hl;obtain⟨a,h1,_⟩:=seq1 (r:=aj g y bs) (f:=fun l=>.ok (l.headD v0)) (v:=l.headD v0) (by rw[e];rfl);rw[h1]at e;have e:(.ok [a]:xU)=.ok l:=e;cases e;obtain⟨a1,a2,ea⟩:=dU (S hy h1);unfold iB;rw[hsy];show aF (T a).kids (T x)=aF a.kids x;rw[gB h (S hy h1)];exact h.aF a2 hx
theorem P9(h:Rn env sz T T')(hg:Xp env sz g){x y:Tm}{sc:List Decl}{e t ty:Ty}{bs:List Bound}{nm:Str}(op:Int)(hv:aW env=true)(gs:GoodS sc)(hx:HT env sc x (au e))(hy:HT env (⟨nm,e⟩::sc) y t)(hs:Scp env sz sc bs)(ix:ald env sz T g g' x)(iy:ald env sz T g g' y)
  (k:∀xs ys ys',dO xs→qK env sz e xs→(∀p∈xs.zip ys,jo env sz t p.2)→ys.length=xs.length→ys'.length=(gK T xs).length→(∀q,q∈(gK T xs).zip ys'↔∃p∈xs.zip ys,(T p.1,T p.2)=q)→(∀v,nZ op xs ys=.ok v→jo env sz ty v)→mJ T (nZ op xs ys) (nZ op (gK T xs) ys'))
  (sd:∀v,((aj g x bs).thn fun s=>(fH (aj g y) nm bs s.kids).thn fun ys=>nZ op s.kids ys)=.ok v→jo env sz ty v):
  mJ T ((aj g x bs).thn fun s=>(fH (aj g y) nm bs s.kids).thn fun ys=>nZ op s.kids ys) ((aj g' x (M4 T bs)).thn fun s=>(fH (aj g' y) nm (M4 T bs) s.kids).thn fun ys=>nZ op s.kids ys):=by
 have gx:=nk (aen hv hx gs);have gs':=axq (nm:=nm) gx gs;refine fq.thn (ix sc _ bs gs hx hs) fun s s' h1 h1' e1=>?_;subst e1;have ht:jo env sz (au e) s:=⟨aen hv hx gs,sound hg _ sc _ bs _ hx hs h1⟩;obtain⟨s1,s2,es⟩:=dU ht;rw[gB h ht];refine fq.thn (aJR (f:=fun v=>aj g y (⟨nm,v⟩::bs)) (f':=fun v=>aj g' y (⟨nm,v⟩::M4 T bs)) fun v hv=>iy (⟨nm,e⟩::sc) t (⟨nm,v⟩::bs) gs' hy (.cons (s2 v hv).2 hs)) fun ys ys' h2 h3 hq=>?_;obtain⟨k1,k2⟩:=seq_ok _ _ _ h2;obtain⟨l1,l2⟩:=seq_ok _ _ _ h3;refine k _ _ _ s1 s2 (fun p hp=>⟨aen hv hy gs',sound hg _ _ _ _ _ hy (.cons (s2 p.1 (qCR (show(p.1,p.2)∈s.kids.zip ys from hp)).1).2 hs) (k2 p hp)⟩) k1 l1 hq fun v hv=>sd v ?_;rw[h1];show(fH (aj g y) nm bs s.kids).thn _=_;rw[h2];exact hv
set_option maxHeartbeats 4000000 in
theorem aFV(hv:aW env=true)(h:Rn env sz T T')(h':Rn env sz T' T)(hg:Xp env sz g)(hgg:∀s t,look env s=some t→g' s=T (g s)):∀t:Tm,ald env sz T g g' t∧∀k∈t.kids,ald env sz T g g' k:=
 Tm.ind fun op nm m u ks ih=>by
 refine⟨fun sc ty bs gs ht hs=>?_,fun k hk=>(ih k hk).1⟩;have sd:∀v,aj g (.mk op nm m u ks) bs=.ok v→jo env sz ty v:=fun v he=>⟨aen hv ht gs,sound hg _ sc ty bs v ht hs he⟩;have S:∀{k:Tm} {ty:Ty} {v:Val},HT env sc k ty→aj g k bs=.ok v→jo env sz ty v:=fun hk he=>⟨aen hv hk gs,sound hg _ sc _ bs _ hk hs he⟩;rw[bG]at sd;rw[bG,bG];have I:∀x∈ks,∀t,HT env sc x t→mJ T (aj g x bs) (aj g' x (M4 T bs)):=fun x hx t hk=>(ih x hx).1 sc t bs gs hk hs;cases ht with
 |lit op ho=>rcases ho with rfl|rfl<;>exact lM h rfl
 |int _=>exact IE h m
 |name hl=>exact aBK hgg hs hl
 |empty _=>exact(h.set []).symm
 |not hx=>
  refine ak7 (f:=bB 3) (I _ (by simp) _ hx) fun a ha=>?_;rw[En h (S hx ha)];exact lM h rfl
 |log op ho hx hy=>
  rename_i x y;have ix:=I x (by simp) _ hx;have iy:=I y (by simp) _ hy;rcases ho with rfl|rfl|rfl|rfl
  ·refine fq.thn (r:=aj g x bs) ix fun a a' ha _ e=>?_;subst e;rw[En h (S hx ha)];cases hp:(a.n==1)with
   |false=>simp only[qBb,qBH];exact lM h rfl
   |true=>exact iy
  ·refine fq.thn (r:=aj g x bs) ix fun a a' ha _ e=>?_;subst e;rw[En h (S hx ha)];cases hp:(a.n==1)with
   |true=>exact lM h rfl
   |false=>exact iy
  ·refine fq.thn (r:=aj g x bs) ix fun a a' ha _ e=>?_;subst e;rw[En h (S hx ha)];cases hp:(a.n==1)with
   |false=>exact lM h rfl
   |true=>exact iy
  ·exact GY (f:=bB 7) ix iy fun a b ha hb=>by
    rw[En h (S hx ha),En h (S hy hb)];exact lM h rfl
 |qu op ho hx hy=>
  rename_i x y e;have ix:=(ih x (by simp)).1;have iy:=(ih y (by simp)).1;have key:∀(P:Val→Bool) (xs ys ys':List Val),(∀p∈xs.zip ys,jo env sz aY p.2)→(∀q,q∈(gK T xs).zip ys'↔∃p∈xs.zip ys,(T p.1,T p.2)=q)→((gK T xs).zip ys').all (fun q=>P q.2)=(xs.zip ys).all (fun q=>P q.2)∧((gK T xs).zip ys').any (fun q=>P q.2)=(xs.zip ys).any (fun q=>P q.2):=fun P xs ys ys' hb hq=>by
   have hP:∀p∈xs.zip ys,P (T p.2)=P p.2:=fun p hp=>by rw[En h (hb p hp)]
   constructor
   ·rw[qCe,qAP,qAP];constructor
    ·intro H p hp;rw[←hP p hp];exact H _ ((hq _).2 ⟨p,hp,rfl⟩)
    ·intro H q hq';obtain⟨p,hp,rfl⟩:=(hq q).1 hq';exact(hP p hp).trans (H p hp)
   ·rw[qCe,qCB,qCB];constructor
    ·rintro⟨q,hq',H⟩;obtain⟨p,hp,rfl⟩:=(hq q).1 hq';exact⟨p,hp,(hP p hp).symm.trans H⟩
    ·rintro⟨p,hp,H⟩;exact⟨_,(hq _).2 ⟨p,hp,rfl⟩,(hP p hp).trans H⟩
  rcases ho with rfl|rfl
  ·exact P9 (ty:=aY) h hg 8 hv gs hx hy hs ix iy (fun xs ys ys' _ _ hb l1 l2 hq _=>by
    show mJ T (.ok (aO (ys.all fun y=>y.n==1))) (.ok (aO (ys'.all fun y=>y.n==1)));rw[au4 _ l1,au4 _ l2];exact lM h (key (fun y=>y.n==1) xs ys ys' hb hq).1) sd
  ·exact P9 (ty:=aY) h hg 9 hv gs hx hy hs ix iy (fun xs ys ys' _ _ hb l1 l2 hq _=>by
    show mJ T (.ok (aO (ys.any fun y=>y.n==1))) (.ok (aO (ys'.any fun y=>y.n==1)));rw[auW _ l1,auW _ l2];exact lM h (key (fun y=>y.n==1) xs ys ys' hb hq).2) sd
 |compr hx hy=>
  rename_i x y e;exact P9 h hg 55 hv gs hx hy hs (ih x (by simp)).1 (ih y (by simp)).1 (fun xs ys ys' _ _ hb _ _ hq sd=>by
   refine aeg (t:=e) (l:=(xs.zip ys).flatMap fun(p:Val×Val)=>cond (p.2.n==1) [p.1] []) (l':=((gK T xs).zip ys').flatMap fun(p:Val×Val)=>cond (p.2.n==1) [p.1] []) h sd fun z=>?_;simp only[qBx];constructor
   ·rintro⟨q,hq',hz⟩;obtain⟨p,hp,rfl⟩:=(hq q).1 hq';simp only[En h (hb p hp)]at hz;cases hc:(p.2.n==1)with
    |false=>rw[hc]at hz;cases hz
    |true=>
     rw[hc]at hz;exact⟨p.1,⟨p,hp,by rw[hc];simp⟩,((qAK.1 hz).symm:T p.1=z)⟩
   ·rintro⟨x,⟨p,hp,hz⟩,rfl⟩;refine⟨_,(hq _).2 ⟨p,hp,rfl⟩,?_⟩;simp only[En h (hb p hp)];cases hc:(p.2.n==1)with
    |false=>rw[hc]at hz;cases hz
    |true=>
     rw[hc]at hz;have:x=p.1:=by simpa using hz
     rw[this];simp) sd
 |fn hgt hx hy=>
  rename_i x y e t;exact P9 h hg 56 hv gs hx hy hs (ih x (by simp)).1 (ih y (by simp)).1 (fun xs ys ys' _ _ hb _ _ hq sd=>by
   refine aeg (t:=aR e t) (l:=(xs.zip ys).flatMap fun(p:Val×Val)=>[aG p.1 p.2]) (l':=((gK T xs).zip ys').flatMap fun(p:Val×Val)=>[aG p.1 p.2]) h sd fun z=>?_;simp only[qBx,qAK];constructor
   ·rintro⟨q,hq',rfl⟩;obtain⟨p,hp,rfl⟩:=(hq q).1 hq';exact⟨_,⟨p,hp,rfl⟩,h.pair _ _⟩
   ·rintro⟨x,⟨p,hp,rfl⟩,rfl⟩;exact⟨_,(hq _).2 ⟨p,hp,rfl⟩,h.pair _ _⟩) sd
 |eq op ho hgt hx hy=>
  rename_i x y t;have ix:=I x (by simp) _ hx;have iy:=I y (by simp) _ hy;rcases ho with rfl|rfl
  ·exact GY (f:=bB 10) ix iy fun a b ha hb=>lM h (b:=eD a b) (b':=eD (T a) (T b)) (h.eq (S hx ha) (S hy hb))
  ·exact GY (f:=bB 11) ix iy fun a b ha hb=>lM h (b:=!eD a b) (b':=!eD (T a) (T b)) (by rw[h.eq (S hx ha) (S hy hb)])
 |ord op ho hx hy=>
  rename_i x y;have ix:=I x (by simp) _ hx;have iy:=I y (by simp) _ hy;rcases ho with rfl|rfl|rfl|rfl
  ·exact GY (f:=bB 12) ix iy fun a b ha hb=>by rw[mI h (S hx ha),mI h (S hy hb)];exact lM h rfl
  ·exact GY (f:=bB 13) ix iy fun a b ha hb=>by rw[mI h (S hx ha),mI h (S hy hb)];exact lM h rfl
  ·exact GY (f:=bB 14) ix iy fun a b ha hb=>by rw[mI h (S hx ha),mI h (S hy hb)];exact lM h rfl
  ·exact GY (f:=bB 15) ix iy fun a b ha hb=>by rw[mI h (S hx ha),mI h (S hy hb)];exact lM h rfl
 |inn op ho hx hy=>
  rename_i x y t;have ix:=I x (by simp) _ hx;have q:=ih y (by simp);rcases ho with rfl|rfl
  ·refine fq.thn (r:=aj g x bs) ix fun a a' ha _ e=>?_;subst e;exact fq.thn (abM h hg hv gs hy hs q.1 q.2) fun l l' _ _ ht=>lM h (b:=iB y.op l a==true) (b':=iB y.op l' (T a)==true) (by rw[ht a (S hx ha)])
  ·refine fq.thn (r:=aj g x bs) ix fun a a' ha _ e=>?_;subst e;exact fq.thn (abM h hg hv gs hy hs q.1 q.2) fun l l' _ _ ht=>lM h (b:=iB y.op l a==false) (b':=iB y.op l' (T a)==false) (by rw[ht a (S hx ha)])
 |sub hx hy=>
  rename_i x y t;have ix:=I x (by simp) _ hx;have q:=ih y (by simp);refine fq.thn (r:=aj g x bs) ix fun a a' ha _ e=>?_;subst e;exact fq.thn (abM h hg hv gs hy hs q.1 q.2) fun l l' _ _ ht=>lM h (b:=a.kids.all (iB y.op l)) (b':=(T a).kids.all (iB y.op l')) (by
   rw[gB h (S hx ha)];exact Rn.all _ _ fun v hv=>ht v ((dU (S hx ha)).2.1 v hv))
 |neg hx=>exact ak7 (f:=bB 21) (I _ (by simp) _ hx) fun a ha=>by rw[mI h (S hx ha)];exact IE h _
 |num op ho hx hy=>
  rename_i x y;have ix:=I x (by simp) _ hx;have iy:=I y (by simp) _ hy;rcases ho with rfl|rfl|rfl|rfl|rfl
  ·exact GY (f:=bB 22) ix iy fun a b ha hb=>by rw[mI h (S hx ha),mI h (S hy hb)];exact IE h _
  ·exact GY (f:=bB 23) ix iy fun a b ha hb=>by rw[mI h (S hx ha),mI h (S hy hb)];exact IE h _
  ·exact GY (f:=bB 24) ix iy fun a b ha hb=>by rw[mI h (S hx ha),mI h (S hy hb)];exact IE h _
  ·exact GY (f:=bB 25) ix iy fun a b ha hb=>by
    rw[mI h (S hx ha),mI h (S hy hb)];show mJ T (cond (b.n==0) (.er 10) (gM (Int.tdiv a.n b.n))) (cond (b.n==0) (.er 10) (gM (Int.tdiv a.n b.n)));exact fq.cnd rfl (fun _=>trivial) fun _=>IE h _
  ·exact GY (f:=bB 26) ix iy fun a b ha hb=>by
    rw[mI h (S hx ha),mI h (S hy hb)];show mJ T (cond (decide (a.n<0) ||decide (b.n<1)) (.er 10) (gM (Int.tmod a.n b.n))) (cond (decide (a.n<0) ||decide (b.n<1)) (.er 10) (gM (Int.tmod a.n b.n)))
    exact fq.cnd rfl (fun _=>trivial) fun _=>IE h _
 |pair ga gb hx hy=>
  rename_i x y a b;exact GY (f:=bB 27) (I x (by simp) _ hx) (I y (by simp) _ hy) fun a b ha hb=>(h.pair a b).symm
 |set ha hn hk=>
  rename_i a;have e1:=ahC (T:=T) (f:=fun k=>aj g k bs) (f':=fun k=>aj g' k (M4 T bs)) (l:=ks) fun k hk'=>I k hk' _ (hk k hk');have q:∀g bs,(ks.map (nu g)).map (fun k=>k.f bs)=ks.map fun k=>aj g k bs:=fun g bs=>by rw[qBh];rfl
  have sd:∀v,(aN ((ks.map (nu g)).map fun k=>k.f bs)).thn bF=.ok v→jo env sz (au a) v:=sd;show mJ T ((aN ((ks.map (nu g)).map fun k=>k.f bs)).thn bF) ((aN ((ks.map (nu g')).map fun k=>k.f (M4 T bs))).thn bF);rw[q]at sd;rw[q,q];exact fq.thn e1 fun l l' e _ hl=>by
   subst hl;exact aeg h (fun v hv=>sd v (by rw[e];exact hv)) (Ren.map l)
 |range hx hy=>
  rename_i x y;refine wN (op:=30) h (fun _ _=>rfl) (I x (by simp) _ hx) (I y (by simp) _ hy) sd fun a b ha hb=>?_;obtain⟨i,rfl,_⟩:=sG.1 (S hx ha).2;obtain⟨j,rfl,_⟩:=sG.1 (S hy hb).2;rw[h.int,h.int];show fq (Ren T) (cond (decide (256≤j - i)) (.er 11) (.ok (ints i (j+1 - i).toNat))) (cond (decide (256≤j - i)) (.er 11) (.ok (ints i (j+1 - i).toNat)));refine fq.cnd rfl (fun _=>trivial) fun _=>?_;show Ren T (ints i (j+1 - i).toNat) (ints i (j+1 - i).toNat);intro z;constructor
  ·intro hz;obtain⟨k,rfl,_,_⟩:=Sv _ _ _ hz;exact⟨_,hz,h.int k⟩
  ·rintro⟨x,hx,rfl⟩;obtain⟨k,rfl,_,_⟩:=Sv _ _ _ hx;rw[h.int];exact hx
 |bin op ho hx hy=>
  rename_i x y e;have ix:=I x (by simp) _ hx;have iy:=I y (by simp) _ hy;rcases ho with rfl|rfl|rfl
  ·refine wN (op:=31) h (fun _ _=>rfl) ix iy sd fun a b ha hb=>?_;show Ren T (a.kids++b.kids) ((T a).kids++(T b).kids);rw[gB h (S hx ha),gB h (S hy hb)];exact(Ren.gK _).app (Ren.gK _)
  ·refine wN (op:=32) h (fun _ _=>rfl) ix iy sd fun a b ha hb=>?_;show Ren T (a.kids.filter (aF b.kids)) ((T a).kids.filter (aF (T b).kids));rw[gB h (S hx ha),gB h (S hy hb)];exact(Ren.gK _).F8 fun v hv=>h.aF (dU (S hy hb)).2.1 ((dU (S hx ha)).2.1 v hv)
  ·refine wN (op:=33) h (fun _ _=>rfl) ix iy sd fun a b ha hb=>?_;show Ren T (a.kids.filter fun x=>!aF b.kids x) ((T a).kids.filter fun x=>!aF (T b).kids x);rw[gB h (S hx ha),gB h (S hy hb)];exact(Ren.gK _).F8 fun v hv=>by rw[h.aF (dU (S hy hb)).2.1 ((dU (S hx ha)).2.1 v hv)]
 |prod hx hy=>
  rename_i x y s t;refine wN (op:=34) h (fun _ _=>rfl) (I x (by simp) _ hx) (I y (by simp) _ hy) sd fun a b ha hb=>?_;obtain⟨a1,a2,_⟩:=dU (S hx ha);obtain⟨b1,b2,_⟩:=dU (S hy hb);show fq (Ren T) (cond (decide (256<(a.kids.length:Int)*b.kids.length)) (.er 11) (.ok (a.kids.flatMap fun x=>b.kids.map (aG x)))) (cond (decide (256<((T a).kids.length:Int)*(T b).kids.length)) (.er 11) (.ok ((T a).kids.flatMap fun x=>(T b).kids.map (aG x))));rw[gB h (S hx ha),gB h (S hy hb)];refine fq.cnd (by rw[h.len a2 a1.1,h.len b2 b1.1]) (fun _=>trivial) fun _=>?_;exact(Ren.gK _).flat fun v _=>(Ren.gK _).maps fun w _=>(h.pair v w).symm
 |over hx hy=>
  rename_i x y s t;refine wN (op:=35) h (fun _ _=>rfl) (I x (by simp) _ hx) (I y (by simp) _ hy) sd fun a b ha hb=>?_;obtain⟨a1,a2,_⟩:=dU (S hx ha);obtain⟨b1,b2,_⟩:=dU (S hy hb);show Ren T (a.kids.filter (fun p=>!aF (d9 b.kids) (aJ p))++b.kids) ((T a).kids.filter (fun p=>!aF (d9 (T b).kids) (aJ p))++(T b).kids);rw[gB h (S hx ha),gB h (S hy hb)];refine((Ren.gK _).F8 fun p hp=>?_).app (Ren.gK _);rw[(h.fst (a2 p hp)).1,Ren.aF h (ay3 b2) (Ew (a2 p hp)).1 (h.aC5 b2 (Ren.gK _))]
 |comp hx hy=>
  rename_i x y s t r;refine wN (op:=36) h (fun _ _=>rfl) (I x (by simp) _ hx) (I y (by simp) _ hy) sd fun a b ha hb=>?_;obtain⟨a1,a2,_⟩:=dU (S hx ha);obtain⟨b1,b2,_⟩:=dU (S hy hb);show Ren T (a.kids.flatMap fun p=>b.kids.flatMap fun q=>cond (eD (aQ p) (aJ q)) [aG (aJ p) (aQ q)] []) ((T a).kids.flatMap fun p=>(T b).kids.flatMap fun q=>cond (eD (aQ p) (aJ q)) [aG (aJ p) (aQ q)] []);rw[gB h (S hx ha),gB h (S hy hb)];refine(Ren.gK _).flat fun p hp=>(Ren.gK _).flat fun q hq=>?_;rw[(h.fst (a2 p hp)).1,(h.fst (a2 p hp)).2,(h.fst (b2 q hq)).1,(h.fst (b2 q hq)).2];refine Ren.cnd (h.eq (Ew (a2 p hp)).2 (Ew (b2 q hq)).1) ?_ Ren.nil;rw[←h.pair];exact Ren.one _
 |dres op ho hx hy=>
  rename_i x y s t;have ix:=I x (by simp) _ hx;have iy:=I y (by simp) _ hy;rcases ho with rfl|rfl
  ·refine wN (op:=37) h (fun _ _=>rfl) ix iy sd fun a b ha hb=>?_;show Ren T (b.kids.filter fun p=>aF a.kids (aJ p)) ((T b).kids.filter fun p=>aF (T a).kids (aJ p));rw[gB h (S hx ha),gB h (S hy hb)];have b2:=(dU (S hy hb)).2.1;exact(Ren.gK _).F8 fun p hp=>by rw[(h.fst (b2 p hp)).1,h.aF (dU (S hx ha)).2.1 (Ew (b2 p hp)).1]
  ·refine wN (op:=38) h (fun _ _=>rfl) ix iy sd fun a b ha hb=>?_;show Ren T (b.kids.filter fun p=>!aF a.kids (aJ p)) ((T b).kids.filter fun p=>!aF (T a).kids (aJ p));rw[gB h (S hx ha),gB h (S hy hb)];have b2:=(dU (S hy hb)).2.1;exact(Ren.gK _).F8 fun p hp=>by rw[(h.fst (b2 p hp)).1,h.aF (dU (S hx ha)).2.1 (Ew (b2 p hp)).1]
 |rres op ho hx hy=>
  rename_i x y s t;have ix:=I x (by simp) _ hx;have iy:=I y (by simp) _ hy;rcases ho with rfl|rfl
  ·refine wN (op:=39) h (fun _ _=>rfl) ix iy sd fun a b ha hb=>?_;show Ren T (a.kids.filter fun p=>aF b.kids (aQ p)) ((T a).kids.filter fun p=>aF (T b).kids (aQ p));rw[gB h (S hx ha),gB h (S hy hb)];have a2:=(dU (S hx ha)).2.1;exact(Ren.gK _).F8 fun p hp=>by rw[(h.fst (a2 p hp)).2,h.aF (dU (S hy hb)).2.1 (Ew (a2 p hp)).2]
  ·refine wN (op:=40) h (fun _ _=>rfl) ix iy sd fun a b ha hb=>?_;show Ren T (a.kids.filter fun p=>!aF b.kids (aQ p)) ((T a).kids.filter fun p=>!aF (T b).kids (aQ p));rw[gB h (S hx ha),gB h (S hy hb)];have a2:=(dU (S hx ha)).2.1;exact(Ren.gK _).F8 fun p hp=>by rw[(h.fst (a2 p hp)).2,h.aF (dU (S hy hb)).2.1 (Ew (a2 p hp)).2]
 |fam op ho hx hy=>
  rename_i x y s t;have ix:=I x (by simp) _ hx;have iy:=I y (by simp) _ hy;have fin:∀a b,aj g x bs=.ok a→aj g y bs=.ok b→fq (Ren T) (l8 op a.kids b.kids) (l8 op (T a).kids (T b).kids):=fun a b ha hb=>by
   rw[gB h (S hx ha),gB h (S hy hb)];exact aCa h h' ho (nk (S hx ha).1) (nk (S hy hb).1) (dU (S hx ha)).1 (dU (S hy hb)).1 (dU (S hx ha)).2.1 (dU (S hy hb)).2.1
  rcases ho with rfl|rfl|rfl|rfl|rfl
  ·exact wN (op:=41) h (fun _ _=>rfl) ix iy sd fin
  ·exact wN (op:=42) h (fun _ _=>rfl) ix iy sd fin
  ·exact wN (op:=43) h (fun _ _=>rfl) ix iy sd fin
  ·exact wN (op:=44) h (fun _ _=>rfl) ix iy sd fin
  ·exact wN (op:=45) h (fun _ _=>rfl) ix iy sd fin
 |pow hx=>
  rename_i x e;refine aps (op:=46) h (fun _=>rfl) (I x (by simp) _ hx) sd fun a ha=>?_;show fq (Ren T) (cond (decide (8<(a.kids.length:Int))) (.er 11) (.ok ((jr a.kids).map mkSet))) (cond (decide (8<((T a).kids.length:Int))) (.er 11) (.ok ((jr (T a).kids).map mkSet)));rw[gB h (S hx ha)];exact aEW h h' (nk (S hx ha).1) (dU (S hx ha)).1 (dU (S hx ha)).2.1
 |card hx=>
  rename_i x e;refine ak7 (f:=bB 47) (I x (by simp) _ hx) fun a ha=>?_;show mJ T (gM a.kids.length) (gM (T a).kids.length);rw[gB h (S hx ha),h.len (dU (S hx ha)).2.1 (dU (S hx ha)).1.1];exact IE h _
 |ext op ho hx=>
  rename_i x;have ix:=I x (by simp) _ hx;have id:∀a,aj g x bs=.ok a→T a=a:=fun a ha=>by
   obtain⟨a1,a2,e⟩:=dU (S hx ha);rw[e,h.set];exact congrArg mkSet (aFd h a2 a1.1)
  rcases ho with rfl|rfl
  ·refine ak7 (f:=bB 48) ix fun a ha=>?_;rw[id a ha];have a2:=(dU (S hx ha)).2.1;show mJ T (match a.kids with|[]=>.er 10|x::_=>.ok x) (match a.kids with|[]=>.er 10|x::_=>.ok x)
   cases hk:a.kids with
   |nil=>exact trivial
   |cons z l=>exact(mI h (a2 z (by rw[hk];simp))).symm
  ·refine ak7 (f:=bB 49) ix fun a ha=>?_;rw[id a ha];have a2:=(dU (S hx ha)).2.1;show mJ T (match a.kids.getLast? with|none=>.er 10|some x=>.ok x) (match a.kids.getLast? with|none=>.er 10|some x=>.ok x)
   cases hk:a.kids.getLast? with
   |none=>exact trivial
   |some z=>exact(mI h (a2 z (qDI hk))).symm
 |dom hx=>
  rename_i x s t;refine aps (op:=50) h (fun _=>rfl) (I x (by simp) _ hx) sd fun a ha=>?_;show Ren T (d9 a.kids) (d9 (T a).kids);rw[gB h (S hx ha)];exact h.aC5 (dU (S hx ha)).2.1 (Ren.gK _)
 |ran hx=>
  rename_i x s t;refine aps (op:=51) h (fun _=>rfl) (I x (by simp) _ hx) sd fun a ha=>?_;show Ren T (bC a.kids) (bC (T a).kids);rw[gB h (S hx ha)];exact h.secs (dU (S hx ha)).2.1 (Ren.gK _)
 |inv hx=>
  rename_i x s t;refine aps (op:=52) h (fun _=>rfl) (I x (by simp) _ hx) sd fun a ha=>?_;show Ren T (a.kids.map fun p=>aG (aQ p) (aJ p)) ((T a).kids.map fun p=>aG (aQ p) (aJ p));rw[gB h (S hx ha)];have a2:=(dU (S hx ha)).2.1;exact(Ren.gK _).maps fun p hp=>by rw[(h.fst (a2 p hp)).1,(h.fst (a2 p hp)).2,h.pair]
 |image hx hy=>
  rename_i x y s t;refine wN (op:=53) h (fun _ _=>rfl) (I x (by simp) _ hx) (I y (by simp) _ hy) sd fun a b ha hb=>?_;obtain⟨a1,a2,_⟩:=dU (S hx ha);obtain⟨b1,b2,_⟩:=dU (S hy hb);show Ren T (bC (a.kids.filter fun p=>aF b.kids (aJ p))) (bC ((T a).kids.filter fun p=>aF (T b).kids (aJ p)));rw[gB h (S hx ha),gB h (S hy hb)];exact h.secs (fun p hp=>a2 p (qBa.1 hp).1) ((Ren.gK _).F8 fun p hp=>by rw[(h.fst (a2 p hp)).1,h.aF b2 (Ew (a2 p hp)).1])
 |app hx hy=>
  rename_i x y s;refine GY (f:=bB 54) (I x (by simp) _ hx) (I y (by simp) _ hy) fun a b ha hb=>?_;obtain⟨a1,a2,e⟩:=dU (S hx ha);show mJ T (LV a b) (LV (T a) (T b));rw[e,h.set];exact aFI h a1.1 a2 (S hy hb)
end
end
section
open Go
def dV{α β:Type}(J:β→α)(f:Nat→Option (PZ α (List Bound)))(b:List Bound):RR β→Prop
 | .ok v=>Ev f (.ok (J v))
 | .er e=>(e=10∨e=11)∧∃z,Ev f (.er e (b++z))
theorem dV.bind{α β γ δ:Type}{J:β→α}{K:γ→δ}{f:Nat→Option (PZ α (List Bound))}{b:List Bound}{r:RR β}{g:α→Nat→Option (PZ δ (List Bound))}{k:β→RR γ}(h1:dV J f b r)(h2:∀v,r=.ok v→dV K (g (J v)) b (k v)):
  dV K (fun n=>(f n).bind (PZ.el (fun x=>g x n) (fun e z=>some (.er e z)))) b (r.thn k):=by
 cases r with
 |er e=>obtain⟨he,z,hz⟩:=h1;exact⟨he,z,Ev.bind hz (Ev.ret _)⟩
 |ok v=>
  have h3:=h2 v rfl;show dV K _ b (k v);cases hk:k v with
  |ok w=>rw[hk]at h3;exact Ev.bind h1 h3
  |er e=>rw[hk]at h3;obtain⟨he,z,hz⟩:=h3;exact⟨he,z,Ev.bind h1 hz⟩
theorem dV.mono{α β:Type}{J:β→α}{f g:Nat→Option (PZ α (List Bound))}{b:List Bound}{r:RR β}(h:∀v,Ev f v→Ev g v)(h1:dV J f b r):dV J g b r:=by
 cases r with
 |ok v=>exact h _ h1
 |er e=>obtain⟨he,z,hz⟩:=h1;exact⟨he,z,h _ hz⟩
theorem dV.succ{α β:Type}{J:β→α}{f:Nat→Option (PZ α (List Bound))}{b:List Bound}{r:RR β}(h:dV J (fun n=>f (n+1)) b r):dV J f b r:=dV.mono (fun _=>Ev.succ) h
abbrev vb(b:List Bound)(v:Val):Val×List Bound:=(v,b)
theorem dV.same{f:Nat→Option (PZ (Val×List Bound) (List Bound))}{b:List Bound}{r:VR}(h:dV (vb b) f b r):dV (vb b) (fun n=>(f n).bind (PZ.el (fun x=>some (.ok (x.1,x.2))) (fun e z=>some (.er e z)))) b r:=by
 cases r with
 |ok v=>exact Ev.bind h (Ev.ret _)
 |er e=>obtain⟨he,z,hz⟩:=h;exact⟨he,z,Ev.bind hz (Ev.ret _)⟩
def Er{β:Type}(r:RR β):Prop:=∀e,r=.er e→e=10∨e=11
theorem Er.ok{β:Type}(v:β):Er (.ok v):=fun e h=>by cases h
theorem Er.e10{β:Type}:Er (.er 10:RR β):=fun e h=>by cases h;exact .inl rfl
theorem Er.e11{β:Type}:Er (.er 11:RR β):=fun e h=>by cases h;exact .inr rfl
theorem Er.cnd{β:Type}{b:Bool}{x y:RR β}(h1:Er x)(h2:Er y):Er (cond b x y):=by grind
theorem dV.pure{f:Nat→Option (PZ Val Unit)}{r:VR}{b:List Bound}(h:Ev f (pz r))(he:Er r):dV (vb b) (fun n=>(f n).bind (PZ.el (fun x=>some (.ok (x,b))) (fun e _=>some (.er e b)))) b r:=by
 cases r with
 |ok v=>exact Ev.bind h (Ev.ret _)
 |er e=>exact⟨he e rfl,[],Ev.bind h (by rw[qAt];exact Ev.ret _)⟩
theorem Er.int(n:Int):Er (gM n):=Er.cnd Er.e11 (Er.ok _)
theorem Er.bnd(l:List Val):Er (bF l):=Er.cnd Er.e11 (Er.ok _)
theorem Er.apply(op:Int)(a b:Val):Er (CG op a b):=by
 have hA:Er (LV a b):=by
  unfold LV;split
  ·exact Er.ok _
  ·exact Er.e10
 have h1:Er (match a.kids with|[]=>(.er 10:VR)|x::_=>.ok x):=by split;exact Er.e10;exact Er.ok _
 have h2:Er (match a.kids.getLast? with|none=>(.er 10:VR)|some x=>.ok x):=by split;exact Er.e10;exact Er.ok _
 have hR:Er (ai1 op a.n b.n):=Er.cnd (Er.int _) (Er.cnd (Er.int _) (Er.cnd (Er.int _) (Er.cnd (Er.int _) (Er.cnd (Er.cnd Er.e10 (Er.int _)) (Er.cnd Er.e10 (Er.int _))))));have hS:Er (sF op a b):=by
  have o:=fun l=>Er.ok (β:=List Val) l;have hr:Er (l8 op a.kids b.kids):=Er.cnd (o _) (Er.cnd Er.e11 (o _));exact Er.cnd (Er.cnd Er.e11 (o _)) (Er.cnd (o _) (Er.cnd (o _) (Er.cnd (o _) (Er.cnd (Er.cnd Er.e11 (o _)) (Er.cnd (o _) (Er.cnd (o _) (Er.cnd (o _) (Er.cnd (o _) (Er.cnd (o _) (Er.cnd (o _) (Er.cnd (Er.cnd Er.e11 (o _)) (Er.cnd (o _) (Er.cnd (o _) (Er.cnd (o _) (Er.cnd (o _) hr)))))))))))))))
 have hT:Er ((sF op a b).thn bF):=by
  cases hq:sF op a b with
  |ok l=>exact Er.bnd l
  |er e=>exact fun e' h=>by cases h;exact hS e hq
 have o:=fun v=>Er.ok (β:=Val) v;exact Er.cnd (o _) (Er.cnd (o _) (Er.cnd (o _) (Er.cnd (o _) (Er.cnd (o _) (Er.cnd (o _) (Er.cnd (o _) (Er.cnd (o _) (Er.cnd (o _) (Er.cnd hA (Er.cnd hR (Er.cnd (Er.int _) (Er.cnd h1 (Er.cnd h2 hT)))))))))))))
section
variable {cs:List Carrier}{ds:List Decl}{sz:List Int}{m:List (Str×Val)}{g:Str→Val}
def nK(cs:List Carrier)(ds:List Decl)(sz:List Int)(m:List (Str×Val))(g:Str→Val)(t:Tm)(bs:List Bound):Prop:=dV (vb bs.reverse) (fun n=>aM n cs ds sz m bs.reverse t) bs.reverse (aj g t bs)
theorem ahl{op:Int}{nm:Str}{k:Int}{u:Ty}{x y:Tm}{bs:List Bound}(ho:op=4∨op=5∨op=6)(hx:nK cs ds sz m g x bs)(hy:nK cs ds sz m g y bs):
  dV (vb bs.reverse) (fun n=>dD n cs ds sz m bs.reverse (.mk op nm k u [x,y])) bs.reverse (aj g (.mk op nm k u [x,y]) bs):=by
 rw[bG];refine dV.succ ?_;show dV _ (fun n=>tV n _ _ _ _ _ (aM n) _ _ _ _ _ _ _) _ _;unfold tV;have e:Za g op nm k ([x,y].map (nu g)) bs=(aj g x bs).thn fun p=>cond (op==4&&!(p.n==1)) (.ok (aO false)) (cond ((op==5&&p.n==1) ||(op==6&&!(p.n==1))) (.ok (aO true)) (aj g y bs)):=by
  rcases ho with rfl|rfl|rfl<;>rfl
 rw[e];refine dV.bind (K:=vb bs.reverse) (f:=fun n=>aM n cs ds sz m bs.reverse x) hx fun p _=>?_;have hs:=dV.same hy;have t1:dV (vb bs.reverse) (fun n=>((bN n false).bind fun(v:Val)=>some (.ok (v,bs.reverse)))) bs.reverse (.ok (aO false)):=Ev.bind (CQ _) (Ev.ret _);have t2:dV (vb bs.reverse) (fun n=>((bN n true).bind fun(v:Val)=>some (.ok (v,bs.reverse)))) bs.reverse (.ok (aO true)):=Ev.bind (CQ _) (Ev.ret _);rcases ho with rfl|rfl|rfl
 ·cases hp:(p.n==1)
  ·simp only[vb,hp];exact t1
  ·simp only[vb,hp];exact hs
 ·cases hp:(p.n==1)
  ·simp only[vb,hp];exact hs
  ·simp only[vb,hp];exact t2
 ·cases hp:(p.n==1)
  ·simp only[vb,hp];exact t2
  ·simp only[vb,hp];exact hs
def stB(op:Int)(x y:Val)(s:List Val×Bool×Bool):List Val×Bool×Bool:=cond (op==56) (s.1++[aG x y],s.2.1,s.2.2) (cond (y.n==1) (s.1++[x],true,s.2.2) (s.1,s.2.1,false))
def Ol(op:Int):List Val→List Val→List Val×Bool×Bool→List Val×Bool×Bool
 |x::xs,y::ys,s=>Ol op xs ys (stB op x y s)
 |_,_,s=>s
theorem atM(n:Nat)(x y:Val)(op:Int)(nm:Str)(k q:Int)(r:Str)(ts:List Ty)(ks:List Tm)(l:List Val)(so al:Bool)(hl:l.length≤1000000):tQ n x y op nm k q r ts ks l so al=some (stB op x y (l,so,al)):=by
 have h1:∀v:Val,upd (l++[Val.mk 0 0 [] []]) (l.length:Int) v=l++[v]:=fun v=>by
  unfold upd
  simp_all
 unfold tQ stB;rw[dQ (by simp;omega)];cases op==56
 ·cases y.n==1
  ·rfl
  ·simp only[cond_false,cond_true,qAb,gJ,h1]
 ·simp only[qAb,gJ,h1];rfl
theorem YS(l:List Bound)(a b:Bound):idx (l++[a]) (((l++[a]).length:Int) - 1)=some a∧upd (l++[a]) (((l++[a]).length:Int) - 1) b=l++[b]:=by
 have e:(((l++[a]).length:Int) - 1)=(l.length:Int):=by simp
 rw[e,gJ];unfold upd
 simp_all
theorem aFo(op:Int)(x y:Val)(s:List Val×Bool×Bool):(stB op x y s).1.length≤s.1.length+1:=by
 unfold stB
 grind
def ai4(cs:List Carrier)(ds:List Decl)(sz:List Int)(m:List (Str×Val))(t:Tm)(v:Val×List Bound)(n:Nat):=pq n (bJ n) (bK n) (bI n) (dw n) (dJ n) (aM n) (dD n) cs ds sz m t t.op t.name t.n t.ty.kind t.ty.name t.ty.kids t.kids v
def apv(cs:List Carrier)(ds:List Decl)(sz:List Int)(m:List (Str×Val))(t:Tm)(v:Val×List Bound)(n k:Nat):=aL (ai4 cs ds sz m t v n) k
theorem alT(cs:List Carrier)(ds:List Decl)(sz:List Int)(m:List (Str×Val))(t:Tm)(v:Val×List Bound)(n k:Nat)(s:Int×Bool×Bool×List Bound×List Val):apv cs ds sz m t v n (k+1) s=ai4 cs ds sz m t v n (apv cs ds sz m t v n k) s:=rfl
theorem ayB{op:Int}{nm:Str}{k:Int}{u:Ty}{x y:Tm}{bs:List Bound}(v:Val):∀(suf pre:List Val) (s:List Val×Bool×Bool) (w:Val),v.kids=pre++suf→s.1.length+suf.length≤1000→(∀a∈suf,nK cs ds sz m g y (⟨nm,a⟩::bs))→
  ∃N,∃z,∃lz:List Val,((∀e,fH (aj g y) nm bs suf=.er e→e=10∨e=11))∧∀n,N≤n→∀j,suf.length+1≤j→
   apv cs ds sz m (.mk op nm k u [x,y]) (v,bs.reverse) n j ((pre.length:Int),s.2.1,s.2.2,bs.reverse++[⟨nm,w⟩],s.1)
   =some (match fH (aj g y) nm bs suf with
    | .ok ys=>.nx ((Ol op suf ys s).2.1,(Ol op suf ys s).2.2,bs.reverse++[⟨nm,(suf.getLast?).getD w⟩],(Ol op suf ys s).1)
    | .er e=>.rt (.er e (bs.reverse++z,lz))):=by
 intro suf
 induction suf with
 |nil=>
  intro pre s w hp _ _;refine⟨0,[],[],(fun e h=>by cases h),fun n _ j hj=>?_⟩;obtain⟨j,rfl⟩:∃q,j=q+1:=⟨j - 1,by omega⟩;rw[alT];unfold ai4 pq;rw[decide_eq_false (by rw[hp];simp)];rfl
 |cons a suf ih=>
  intro pre s w hp hl hE;have ha:=hE a (by simp);unfold nK at ha;have hi:idx v.kids (pre.length:Int)=some a:=(bg hp).2;have hlt:=(bg hp).1;have hee:fH (aj g y) nm bs (a::suf)=match aj g y (⟨nm,a⟩::bs)with| .er e=>.er e| .ok b=>(match fH (aj g y) nm bs suf with| .er e=>.er e| .ok l=>.ok (b::l)):=by
   unfold fH;rw[qAy];cases aj g y (⟨nm,a⟩::bs)<;>rfl
  simp only[qAp]at hl;cases hr:aj g y (⟨nm,a⟩::bs)with
  |er e=>
   rw[hr]at ha;obtain⟨he,z,N,hz⟩:=ha;refine⟨N,⟨nm,a⟩::z,s.1,fun e' h=>?_,fun n hn j hj=>?_⟩
   ·rw[hee,hr]at h;cases h;exact he
   ·obtain⟨j,rfl⟩:∃q,j=q+1:=⟨j - 1,by omega⟩;have hz:aM n cs ds sz m (Bound.mk nm a::bs).reverse y=_:=hz n hn;rw[List.reverse_cons,qAm]at hz;rw[alT];unfold ai4 pq;rw[hlt,hee,hr];simp only[cond_true,hi,qAb,(YS bs.reverse ⟨nm,w⟩ ⟨nm,a⟩).1,(YS bs.reverse ⟨nm,w⟩ ⟨nm,a⟩).2,Tm.kids,show idx [x,y] 1=some y from rfl];rw[hz];rfl
  |ok b=>
   rw[hr]at ha;obtain⟨N1,h1⟩:=ha;obtain⟨N2,z,lz,h2,h3⟩:=ih (pre++[a]) (stB op a b s) a (by simp[hp]) (by have:=aFo op a b s;omega) (fun c hc=>hE c (by simp[hc]));refine⟨N1+N2,z,lz,fun e h=>?_,fun n hn j hj=>?_⟩
   ·rw[hee,hr]at h;cases hq:fH (aj g y) nm bs suf with
    |ok l=>rw[hq]at h;cases h
    |er e'=>rw[hq]at h;cases h;exact h2 _ hq
   ·obtain⟨j,rfl⟩:∃q,j=q+1:=⟨j - 1,by omega⟩;have h1:aM n cs ds sz m (Bound.mk nm a::bs).reverse y=_:=h1 n (by omega);simp only[vb]at h1;rw[List.reverse_cons]at h1;have h3:=h3 n (by omega) j (by simp at hj;omega);rw[alT];unfold ai4 pq;rw[hlt,hee,hr];simp only[cond_true,hi,qAb,(YS bs.reverse ⟨nm,w⟩ ⟨nm,a⟩).1,(YS bs.reverse ⟨nm,w⟩ ⟨nm,a⟩).2,Tm.kids,show idx [x,y] 1=some y from rfl,h1,PZ.el];rw[atM n _ _ _ _ _ _ _ _ _ _ _ _ (by omega)];simp only[qAb];rw[show(pre.length:Int)+1=((pre++[a]).length:Int) by simp];refine h3.trans ?_;cases hq:fH (aj g y) nm bs suf with
    |er e=>rfl
    |ok ys=>
     cases suf with
     |nil=>rfl
     |cons c suf=>rfl
end
end
section
open Go
section
variable {cs:List Carrier}{ds:List Decl}{sz:List Int}{m:List (Str×Val)}{g:Str→Val}
theorem ak0(op:Int):∀(xs ys:List Val) (s:List Val×Bool×Bool),ys.length=xs.length→Ol op xs ys s=(s.1++(xs.zip ys).flatMap (fun p=>cond (op==56) [aG p.1 p.2] (cond (p.2.n==1) [p.1] [])),cond (op==56) s.2.1 (s.2.1 ||ys.any fun y=>y.n==1),cond (op==56) s.2.2 (s.2.2&&ys.all fun y=>y.n==1))
 |[],[],s,_=>by
  obtain⟨a,b,c⟩:=s;cases hq:(op==56)<;>simp[Ol]
 |[],y::ys,s,h=>by simp at h
 |x::xs,[],s,h=>by simp at h
 |x::xs,y::ys,s,h=>by
  rw[Ol,ak0 op xs ys _ (by simpa using h)];unfold stB;obtain⟨a,b,c⟩:=s;cases hq:(op==56)<;>cases hy:(y.n==1)<;>simp[hy]
theorem alV{α:Type}(f:α→VR)(xs:List α)(ys:List Val)(h:aN (xs.map f)=.ok ys):ys.length=xs.length:=(seq_ok f xs ys h).1
theorem aAp{op:Int}{nm:Str}{k:Int}{u:Ty}{x y:Tm}{bs:List Bound}(ho:bY op=true)(hx:nK cs ds sz m g x bs)(hb:bs.length≤1000)(hl:∀v,aj g x bs=.ok v→v.kids.length≤256)(hy:∀v,aj g x bs=.ok v→∀a∈v.kids,nK cs ds sz m g y (⟨nm,a⟩::bs)):
  dV (vb bs.reverse) (fun n=>dJ n cs ds sz m bs.reverse (.mk op nm k u [x,y])) bs.reverse (aj g (.mk op nm k u [x,y]) bs):=by
 have hE:dV (fun(q:List Val×Bool×Bool)=>(bs.reverse,q.1,q.2.1,q.2.2)) (fun n=>(dw n cs ds sz m bs.reverse (.mk op nm k u [x,y]) op nm k u.kind u.name u.kids [x,y] [] false true).bind fun r=>some (match r with| .ok a=>PZ.ok a| .er e z=>.er e z.1)) bs.reverse
   ((aj g x bs).thn fun s=>(fH (aj g y) nm bs s.kids).thn fun ys=>RR.ok (Ol op s.kids ys ([],false,true))):=by
  refine dV.mono (f:=fun n=>(dw (n+1) cs ds sz m bs.reverse (.mk op nm k u [x,y]) op nm k u.kind u.name u.kids [x,y] [] false true).bind fun r=>some (match r with| .ok a=>PZ.ok a| .er e z=>.er e z.1)) (fun v h=>Ev.succ h) ?_
  show dV _ (fun n=>(zu n _ _ _ _ _ (aM n) _ _ _ _ _ _ _ _ _ _ _ _ _ _ _ _ _).bind _) _ _;unfold zu;unfold nK at hx;cases hr:aj g x bs with
  |er e=>
   rw[hr]at hx;obtain⟨he,z,hz⟩:=hx;show dV _ _ _ (RR.er e);exact⟨he,z,Ev.bind (Ev.bind (a:=x) (Ev.of fun _=>rfl) (Ev.bind hz (Ev.ret _))) (Ev.ret _)⟩
  |ok v=>
   rw[hr]at hx;obtain⟨N,z,lz,h2,h3⟩:=ayB (op:=op) (k:=k) (u:=u) (x:=x) v v.kids [] ([],false,true) v0 rfl (by have:=hl v hr;simp;omega) (hy v hr);obtain⟨N1,h1⟩:=hx;have happ:app 72 bs.reverse [Bound.mk nm (Val.mk 0 0 [] [])]=some (bs.reverse++[⟨nm,v0⟩]):=by
    unfold app;rw[if_pos ⟨by simp;omega,by simp;omega⟩];rfl
   have hw:∀n,N+N1+v.kids.length+1≤n→apv cs ds sz m (.mk op nm k u [x,y]) (v,bs.reverse) n n (0,false,true,bs.reverse++[⟨nm,v0⟩],[])=_:=fun n hn=>h3 n (by omega) n (by omega);have hfin:∀(w:Bound),((FJ (List.length (bs.reverse++[w])) (((bs.reverse++[w]).length:Int) - 1)).bind fun(x4:Nat)=>(cond (Nat.ble x4 (List.length (bs.reverse++[w]))) (some (List.take x4 (bs.reverse++[w]))) none))=some bs.reverse:=by
    intro w;unfold FJ;rw[show(((bs.reverse++[w]).length:Int) - 1)=(bs.reverse.length:Int) by simp,if_pos ⟨by omega,by simp;omega⟩,qBM];simp only[qAb];rw[show Nat.ble bs.reverse.length (bs.reverse++[w]).length=true by rw[Nat.ble_eq];simp];simp
   show dV _ (fun n=>_) _ ((fH (aj g y) nm bs v.kids).thn fun ys=>RR.ok (Ol op v.kids ys ([],false,true)));cases hq:fH (aj g y) nm bs v.kids with
   |er e=>
    show dV _ _ _ (RR.er e);refine⟨h2 e hq,z,N+N1+v.kids.length+1,fun n hn=>?_⟩;have h1:aM n cs ds sz m bs.reverse x=_:=h1 n (by omega);have h4:=hw n hn;rw[hq]at h4;change BR n _ _ _ _ _ _ _ _ _ _ _ (Tm.mk op nm k u [x,y]) op nm k u.kind u.name u.kids [x,y] _ _ _=_ at h4;simp only[Tm.kids,Tm.name,show idx [x,y] 0=some x from rfl,qAb,h1,PZ.el,vb,happ];rw[h4];rfl
   |ok ys=>
    show dV _ _ _ (RR.ok _);refine⟨N+N1+v.kids.length+1,fun n hn=>?_⟩;have h1:aM n cs ds sz m bs.reverse x=_:=h1 n (by omega);have h4:=hw n hn;rw[hq]at h4;change BR n _ _ _ _ _ _ _ _ _ _ _ (Tm.mk op nm k u [x,y]) op nm k u.kind u.name u.kids [x,y] _ _ _=_ at h4;simp only[Tm.kids,Tm.name,show idx [x,y] 0=some x from rfl,qAb,h1,PZ.el,vb,happ];rw[h4];have hf:=hfin ⟨nm,v.kids.getLast?.getD v0⟩;simp only[qAb,LR.el];unfold FJ at hf⊢;split at hf
    ·rename_i hc;rw[if_pos hc];simp only[qAb]at hf⊢;generalize Nat.ble _ _=bb at hf⊢;cases bb with
     |false=>cases hf
     |true=>simp only[cond_true,qAb]at hf⊢;rw[Option.some.inj hf]
    ·cases hf
 rw[bG];have e:Za g op nm k ([x,y].map (nu g)) bs=(aj g x bs).thn fun s=>(fH (aj g y) nm bs s.kids).thn fun ys=>nZ op s.kids ys:=by
  unfold bY at ho;simp only[qBe,beq_iff_eq]at ho;rcases ho with rfl|rfl|rfl|rfl<;>rfl
 rw[e];refine dV.succ ?_;show dV _ (fun n=>vT n _ _ _ (dw n) _ _ _ _ _ _ _ _ _) _ _;unfold vT;have key:dV (vb bs.reverse) (fun n=>((dw n cs ds sz m bs.reverse (.mk op nm k u [x,y]) op nm k u.kind u.name u.kids [x,y] [] false true).bind fun r=>some (match r with| .ok a=>PZ.ok a| .er e z=>.er e z.1)).bind (PZ.el (fun(x1:(List Bound)×(List Val)×Bool×Bool)=>(cond (op==8) ((bN n x1.2.2.2).bind fun(x2:Val)=>some (.ok (x2,x1.1))) (cond (op==9) ((bN n x1.2.2.1).bind fun(x3:Val)=>some (.ok (x3,x1.1))) ((Ab n x1.2.1).bind (PZ.el (fun(x4:Val)=>some (.ok (x4,x1.1))) (fun(e1:Int) _=>some (.er e1 x1.1))))))) (fun(e2:Int) z2=>some (.er e2 z2)))) bs.reverse
   ((aj g x bs).thn fun s=>(fH (aj g y) nm bs s.kids).thn fun ys=>nZ op s.kids ys):=by
  have e2:((aj g x bs).thn fun s=>(fH (aj g y) nm bs s.kids).thn fun ys=>nZ op s.kids ys)=((aj g x bs).thn fun s=>(fH (aj g y) nm bs s.kids).thn fun ys=>RR.ok (Ol op s.kids ys ([],false,true))).thn fun q=>cond (op==8) (.ok (aO q.2.2)) (cond (op==9) (.ok (aO q.2.1)) (bF q.1)):=by
   cases hr:aj g x bs with
   |er e=>rfl
   |ok v=>
    show(fH (aj g y) nm bs v.kids).thn _=((fH (aj g y) nm bs v.kids).thn _).thn _;cases hq:fH (aj g y) nm bs v.kids with
    |er e=>rfl
    |ok ys=>
     show nZ op v.kids ys=cond (op==8) _ _;rw[ak0 op v.kids ys _ (alV _ _ _ hq)];unfold nZ;unfold bY at ho;simp only[qBe,beq_iff_eq]at ho;rcases ho with rfl|rfl|rfl|rfl<;>rfl
  rw[e2];refine dV.bind (K:=vb bs.reverse) hE fun q hq=>?_;obtain⟨v,hv,hq⟩:=then_ok hq;obtain⟨ys,hys,hq⟩:=then_ok hq;cases hq;have hlen:(Ol op v.kids ys ([],false,true)).1.length≤256:=by
   rw[ak0 op v.kids ys _ (alV _ _ _ hys)];have:=iF (fun(p:Val×Val)=>cond (op==56) [aG p.1 p.2] (cond (p.2.n==1) [p.1] [])) 1 (v.kids.zip ys) (fun p _=>by cases op==56<;>cases p.2.n==1<;>simp);have h3:=hl v hv;have h4:(v.kids.zip ys).length≤v.kids.length:=by rw[qDt];omega
   simp only[qAo];omega
  cases op==8 with
  |true=>exact Ev.bind (CQ _) (Ev.ret _)
  |false=>
   cases op==9 with
   |true=>exact Ev.bind (CQ _) (Ev.ret _)
   |false=>exact dV.pure (aqR (show(Ol op v.kids ys ([],false,true)).1.length*56≤_ by omega)) (Er.bnd _)
 refine dV.mono (fun v h=>?_) key;obtain⟨N,h⟩:=h;refine⟨N,fun n hn=>?_⟩;rw[←h n hn];simp only[qAb,Tm.op,Tm.name,Tm.n,Tm.ty,Tm.kids];cases dw n cs ds sz m bs.reverse (.mk op nm k u [x,y]) op nm k u.kind u.name u.kids [x,y] [] false true with
 |none=>rfl
 |some r=>cases r<;>rfl
theorem ar5{σ:Type}(f:Tm→VR)(b:List Bound)(zf:Tm→List Bound):∀(ks:List Tm) (acc:List Val),∃z,fG (fun x acc=>match f x with| .ok v=>LR.nx (acc++[v])| .er e=>.rt (PZ.er (α:=σ) e (b++zf x))) (fun acc=>(acc,b)) ks acc=match aN (ks.map f)with| .ok l=>.nx (acc++l,b)| .er e=>.rt (.er e (b++z))
 |[],acc=>⟨[],by simp[fG,aN]⟩
 |x::ks,acc=>by
  rw[qAy];cases hx:f x with
  |er e=>exact⟨zf x,by simp only[fG,hx,aN]⟩
  |ok v=>
   obtain⟨z,h⟩:=ar5 f b zf ks (acc++[v]);refine⟨z,?_⟩;simp only[fG,hx,aN];rw[h];cases aN (ks.map f)with
   |er e=>rfl
   |ok l=>simp
theorem ajc{α:Type}(f:α→VR):∀(xs:List α),(∀x∈xs,Er (f x))→Er (aN (xs.map f))
 |[],_=>Er.ok _
 |x::xs,h=>by
  have h1:=h x (by simp);have h2:=ajc f xs fun y hy=>h y (by simp[hy]);intro e he;rw[qAy]at he;cases hx:f x with
  |er e'=>rw[hx]at he;cases he;exact h1 _ hx
  |ok v=>
   rw[hx]at he;unfold aN at he;cases hs:aN (xs.map f)with
   |ok l=>rw[hs]at he;cases he
   |er e'=>rw[hs]at he;cases he;exact h2 _ hs
theorem nK.er{t:Tm}{bs:List Bound}(h:nK cs ds sz m g t bs):Er (aj g t bs):=fun e he=>by
 unfold nK at h;rw[he]at h;exact h.1
def aLt(cs:List Carrier)(ds:List Decl)(sz:List Int)(m:List (Str×Val))(t:Tm)(n:Nat):=Ky n (bJ n) (bK n) (bI n) (dw n) (dJ n) (aM n) (dD n) cs ds sz m t
def axc(cs:List Carrier)(ds:List Decl)(sz:List Int)(m:List (Str×Val))(t:Tm)(n:Nat):=oH n (bJ n) (bK n) (bI n) (dw n) (dJ n) (aM n) (dD n) cs ds sz m t
theorem aAd{nm:Str}{k:Int}{u:Ty}{ks:List Tm}{bs:List Bound}(h:∀x∈ks,nK cs ds sz m g x bs)(hl:ks.length≤1000000):
  dV (vb bs.reverse) (fun n=>(aLt cs ds sz m (.mk 28 nm k u ks) n n (([]:List Val),0,bs.reverse)).bind (LR.el (fun(s6:(List Val)×(List Bound))=>((Ab n s6.1).bind (PZ.el (fun(x30:Val)=>some (.ok (x30,s6.2))) (fun(e13:Int) _=>some (.er e13 s6.2))))) (fun r=>some r))) bs.reverse ((aN (ks.map fun t=>aj g t bs)).thn bF):=by
 have hz:∀x:Tm,∃z,x∈ks→∀e,aj g x bs=.er e→Ev (fun n=>aM n cs ds sz m bs.reverse x) (.er e (bs.reverse++z)):=fun x=>by
  by_cases hx:x∈ks
  ·have h1:=h x hx;unfold nK at h1;cases hr:aj g x bs with
   |ok v=>exact⟨[],fun _ e he=>by cases he⟩
   |er e=>
    rw[hr]at h1;obtain⟨_,z,hz⟩:=h1;exact⟨z,fun _ e' he=>by cases he;exact hz⟩
  simp_all
 obtain⟨zf,hzf⟩:=qCu hz;have h1:=wI (Tm.mk 28 nm k u ks).kids (axc cs ds sz m (.mk 28 nm k u ks)) (fun i s=>(s,i,bs.reverse)) (fun x acc=>match aj g x bs with| .ok v=>LR.nx (acc++[v])| .er e=>.rt (PZ.er e (bs.reverse++zf x))) (fun acc=>(acc,bs.reverse)) (fun suf acc=>acc.length+suf.length≤1000000) (fun n rec s=>by unfold axc oH;rw[at_end];rfl) (fun pre x suf s e hI=>by
  have hx:x∈ks:=by have e:ks=_:=e;simp[e]
  have hE:=h x hx;unfold nK at hE;simp only[qAp]at hI;cases hr:aj g x bs with
  |er e'=>
   obtain⟨N,hN⟩:=hzf x hx e' hr;refine⟨⟨N,fun n hn rec=>?_⟩,fun s' hs=>by cases hs⟩;have hN:aM n cs ds sz m bs.reverse x=_:=hN n hn;unfold axc oH;rw[(bg e).1];simp only[cond_true,(bg e).2,qAb,hN,PZ.el]
  |ok v=>
   rw[hr]at hE;obtain⟨N,hN⟩:=hE;refine⟨⟨N,fun n hn rec=>?_⟩,fun s' hs=>by cases hs;simp;omega⟩;have hN:aM n cs ds sz m bs.reverse x=_:=hN n hn;unfold axc oH;rw[(bg e).1];simp only[cond_true,(bg e).2,qAb,hN,PZ.el,vb];rw[dQ (by simp;omega)];rfl) (s0:=[]) (qAs (qBm (qAL _)) hl)
 obtain⟨z,hrun⟩:=ar5 (σ:=Val×List Bound) (fun t=>aj g t bs) bs.reverse zf ks [];have h1:=Ev.eq h1 hrun;cases hs:aN (ks.map fun t=>aj g t bs)with
 |er e=>
  rw[hs]at h1;exact⟨ajc _ ks (fun x hx=>(h x hx).er) e hs,z,Ev.bind h1 (Ev.ret _)⟩
 |ok l=>
  rw[hs]at h1;have hll:=alV _ _ _ hs;refine dV.mono (fun v hv=>Ev.bind h1 hv) ?_;exact dV.pure (aqR (by simp only[qAo];omega)) (Er.bnd _)
end
end
section
open Go
section
variable {cs:List Carrier}{ds:List Decl}{sz:List Int}{m:List (Str×Val)}{g:Str→Val}
abbrev LSt:Type:=Int×Int×Int×Str×List Val×Int×Int×Str×List Val×List Bound
def Lx(cs:List Carrier)(ds:List Decl)(sz:List Int)(m:List (Str×Val))(t:Tm)(n:Nat):=gN n (bJ n) (bK n) (bI n) (dw n) (dJ n) (aM n) (dD n) cs ds sz m t
def LB(cs:List Carrier)(ds:List Decl)(sz:List Int)(m:List (Str×Val))(t:Tm)(n k:Nat):=aL (Lx cs ds sz m t n) k
theorem Qx(t:Tm)(n k:Nat)(s:LSt):LB cs ds sz m t n (k+1) s=Lx cs ds sz m t n (LB cs ds sz m t n k) s:=rfl
abbrev asw(op:Int)(n:Nat):LR (Int×Int×Str×(List Val)×Int×Int×Str×(List Val)×(List Bound)) (PZ (Val×(List Bound)) (List Bound))→Option (PZ (Val×(List Bound)) (List Bound)):=LR.el (fun(s8:Int×Int×Str×(List Val)×Int×Int×Str×(List Val)×(List Bound))=>((oz n op (Val.mk s8.1 s8.2.1 s8.2.2.1 s8.2.2.2.1) (Val.mk s8.2.2.2.2.1 s8.2.2.2.2.2.1 s8.2.2.2.2.2.2.1 s8.2.2.2.2.2.2.2.1)).bind (PZ.el (fun(x34:Val)=>some (.ok (x34,s8.2.2.2.2.2.2.2.2))) (fun(e15:Int) _=>some (.er e15 s8.2.2.2.2.2.2.2.2))))) (fun r=>some r)
theorem alv(v:Val):Val.mk v.kind v.n v.name v.kids=v:=by cases v;rfl
theorem aGd{op:Int}{nm:Str}{k:Int}{u:Ty}{x:Tm}{bs:List Bound}(hop:(op==28)=false)(hx:nK cs ds sz m g x bs)(hA:∀a,aj g x bs=.ok a→Ev (fun n=>oz n op a v0) (pz (CG op a v0))):
  dV (vb bs.reverse) (fun n=>(LB cs ds sz m (.mk op nm k u [x]) n n (0,0,0,([]:Str),([]:List Val),0,0,([]:Str),([]:List Val),bs.reverse)).bind (asw op n)) bs.reverse ((aN [aj g x bs]).thn (bB op)):=by
 unfold nK at hx;cases hr:aj g x bs with
 |er e=>
  rw[hr]at hx;obtain⟨he,z,N,hz⟩:=hx;refine⟨he,z,N+2,fun n hn=>?_⟩;have hz:aM n cs ds sz m bs.reverse x=_:=hz n (by omega);obtain⟨j,rfl⟩:∃j,n=j+2:=⟨n - 2,by omega⟩;dsimp only;rw[Qx];unfold Lx gN;simp only[Tm.kids,show idx [x] 0=some x from rfl,qAb,hz]<;>rfl
 |ok a=>
  rw[hr]at hx;obtain⟨N,h1⟩:=hx;have hA:=hA a hr;have e:(aN [(.ok a:VR)]).thn (bB op)=CG op a v0:=by
   unfold bB;rw[hop];rfl
  rw[e];refine dV.mono (f:=fun n=>(oz n op a v0).bind (PZ.el (fun(x34:Val)=>some (.ok (x34,bs.reverse))) (fun(e15:Int) _=>some (.er e15 bs.reverse)))) (fun v hv=>?_) (dV.pure hA (Er.apply op a v0));obtain⟨M,hM⟩:=hv;refine⟨N+M+2,fun n hn=>?_⟩;rw[←hM n (by omega)];have h1:aM n cs ds sz m bs.reverse x=_:=h1 n (by omega);have hj:n=(n - 2)+1+1:=by omega
  have hl:LB cs ds sz m (.mk op nm k u [x]) n n (0,0,0,([]:Str),([]:List Val),0,0,([]:Str),([]:List Val),bs.reverse)=some (.nx (a.kind,a.n,a.name,a.kids,0,0,[],[],bs.reverse)):=by
   conv=>lhs;arg 7;rw[hj]
   rw[Qx];unfold Lx gN;simp only[Tm.kids,cond_true,show idx [x] 0=some x from rfl,qAb,h1,PZ.el,LR.el,show((0:Int)==0)=true from rfl];rw[show ∀s,LB cs ds sz m (.mk op nm k u [x]) n (n - 2+1) s=Lx cs ds sz m (.mk op nm k u [x]) n (LB cs ds sz m (.mk op nm k u [x]) n (n - 2)) s from fun s=>Qx _ _ _ s];rfl
  simp only[hl,qAb,asw,LR.el,alv];rfl
theorem aGG{op:Int}{nm:Str}{k:Int}{u:Ty}{x y:Tm}{bs:List Bound}(hop:(op==28)=false)(hx:nK cs ds sz m g x bs)(hy:nK cs ds sz m g y bs)(hA:∀a b,aj g x bs=.ok a→aj g y bs=.ok b→Ev (fun n=>oz n op a b) (pz (CG op a b))):
  dV (vb bs.reverse) (fun n=>(LB cs ds sz m (.mk op nm k u [x,y]) n n (0,0,0,([]:Str),([]:List Val),0,0,([]:Str),([]:List Val),bs.reverse)).bind (asw op n)) bs.reverse ((aN [aj g x bs,aj g y bs]).thn (bB op)):=by
 unfold nK at hx hy;have e1:decide ((0:Int)<([x,y].length:Int))=true:=rfl;have e2:decide ((0:Int)+1<([x,y].length:Int))=true:=rfl;have e3:decide ((0:Int)+1+1<([x,y].length:Int))=false:=rfl;cases hr:aj g x bs with
 |er e=>
  rw[hr]at hx;obtain⟨he,z,N,hz⟩:=hx;show dV _ _ _ (RR.er e);refine⟨he,z,N+2,fun n hn=>?_⟩;have hz:aM n cs ds sz m bs.reverse x=_:=hz n (by omega);obtain⟨j,rfl⟩:∃j,n=j+2:=⟨n - 2,by omega⟩;dsimp only;rw[Qx];unfold Lx gN;simp only[Tm.kids,e1,cond_true,show idx [x,y] 0=some x from rfl,qAb,hz,PZ.el,LR.el]<;>rfl
 |ok a=>
  rw[hr]at hx;obtain⟨N,h1⟩:=hx;cases hq:aj g y bs with
  |er e=>
   rw[hq]at hy;obtain⟨he,z,M,hz⟩:=hy;show dV _ _ _ (RR.er e);refine⟨he,z,N+M+3,fun n hn=>?_⟩;have h1:aM n cs ds sz m bs.reverse x=_:=h1 n (by omega);have hz:aM n cs ds sz m bs.reverse y=_:=hz n (by omega);have hj:n=(n - 2)+1+1:=by omega
   dsimp only;rw[show LB cs ds sz m (.mk op nm k u [x,y]) n n (0,0,0,([]:Str),([]:List Val),0,0,([]:Str),([]:List Val),bs.reverse)=some (.rt (.er e (bs.reverse++z))) by
    conv=>lhs;arg 7;rw[hj]
    rw[Qx];unfold Lx gN;simp only[Tm.kids,e1,cond_true,show idx [x,y] 0=some x from rfl,qAb,h1,PZ.el,LR.el,vb,show((0:Int)==0)=true from rfl];rw[show ∀s,LB cs ds sz m (.mk op nm k u [x,y]) n (n - 2+1) s=Lx cs ds sz m (.mk op nm k u [x,y]) n (LB cs ds sz m (.mk op nm k u [x,y]) n (n - 2)) s from fun s=>Qx _ _ _ s];unfold Lx gN;simp only[Tm.kids,e2,cond_true,show idx [x,y] (0+1)=some y from rfl,qAb,hz,PZ.el,LR.el];rfl]
   rfl
  |ok b=>
   rw[hq]at hy;obtain⟨M,h2⟩:=hy;have hA:=hA a b hr hq;have e:(aN [(.ok a:VR),.ok b]).thn (bB op)=CG op a b:=by
    show bB op [a,b]=_;unfold bB;rw[hop];rfl
   rw[e];refine dV.mono (f:=fun n=>(oz n op a b).bind (PZ.el (fun(x34:Val)=>some (.ok (x34,bs.reverse))) (fun(e15:Int) _=>some (.er e15 bs.reverse)))) (fun v hv=>?_) (dV.pure hA (Er.apply op a b));obtain⟨L,hL⟩:=hv;refine⟨N+M+L+3,fun n hn=>?_⟩;rw[←hL n (by omega)];have h1:aM n cs ds sz m bs.reverse x=_:=h1 n (by omega);have h2:aM n cs ds sz m bs.reverse y=_:=h2 n (by omega);have hj:n=(n - 3)+1+1+1:=by omega
   have hs:∀j s,LB cs ds sz m (.mk op nm k u [x,y]) n (j+1) s=Lx cs ds sz m (.mk op nm k u [x,y]) n (LB cs ds sz m (.mk op nm k u [x,y]) n j) s:=fun j s=>Qx _ _ _ s;have hl:LB cs ds sz m (.mk op nm k u [x,y]) n n (0,0,0,([]:Str),([]:List Val),0,0,([]:Str),([]:List Val),bs.reverse)=some (.nx (a.kind,a.n,a.name,a.kids,b.kind,b.n,b.name,b.kids,bs.reverse)):=by
    conv=>lhs;arg 7;rw[hj]
    rw[hs];unfold Lx gN;simp only[Tm.kids,e1,cond_true,show idx [x,y] 0=some x from rfl,qAb,h1,PZ.el,LR.el,vb,show((0:Int)==0)=true from rfl];rw[hs];unfold Lx gN;simp only[Tm.kids,e2,cond_true,cond_false,show idx [x,y] (0+1)=some y from rfl,qAb,h2,PZ.el,LR.el,vb,show((0:Int)+1==0)=false from rfl,show((0:Int)+1==1)=true from rfl];rw[hs];unfold Lx gN;rfl
   simp only[hl,qAb,asw,LR.el,alv]
theorem YI(n:Nat)(op:Int):yV n op=some (iO op):=by
 unfold yV iO
 grind
theorem avN(p:Val→Bool)(l:List Val):(((l.filter p).length:Int)==(l.length:Int))=l.all p:=by
 rw[qCe,beq_iff_eq,qAP,Int.natCast_inj,List.length_filter_eq_length_iff]
theorem aJc{y:Tm}{bs:List Bound}(hs:iO y.op=false)(hy:nK cs ds sz m g y bs):dV (fun l:List Val=>((l.headD v0).kids,bs.reverse)) (fun n=>bI n cs ds sz m bs.reverse y) bs.reverse (aN [aj g y bs]):=by
 refine dV.succ ?_;show dV _ (fun n=>rR n _ _ _ _ _ (aM n) _ _ _ _ _ _ _) _ _;unfold rR;simp only[YI,hs,qAb];unfold nK at hy;cases hr:aj g y bs with
 |er e=>rw[hr]at hy;obtain⟨he,z,hz⟩:=hy;exact⟨he,z,Ev.bind hz (Ev.ret _)⟩
 |ok v=>rw[hr]at hy;exact Ev.bind hy (Ev.ret _)
theorem aJB{nm:Str}{k:Int}{u:Ty}{z:Tm}{bs:List Bound}(hz:nK cs ds sz m g z bs):dV (fun l:List Val=>((l.headD v0).kids,bs.reverse)) (fun n=>bK n cs ds sz m bs.reverse (.mk 46 nm k u [z])) bs.reverse (aN [aj g z bs]):=by
 refine dV.succ ?_;show dV _ (fun n=>q9 n _ _ _ _ _ (aM n) _ _ _ _ _ _ _) _ _;unfold q9;simp only[YI,qAb];unfold nK at hz;cases hr:aj g z bs with
 |er e=>rw[hr]at hz;obtain⟨he,w,hw⟩:=hz;exact⟨he,w,Ev.bind hw (Ev.ret _)⟩
 |ok v=>rw[hr]at hz;exact Ev.bind hz (Ev.ret _)
theorem aJy{op:Int}{nm:Str}{k:Int}{u:Ty}{z w:Tm}{bs:List Bound}(ho:op=41∨op=42∨op=43∨op=44∨op=45)(hz:nK cs ds sz m g z bs)(hw:nK cs ds sz m g w bs):
  dV (fun l:List Val=>(op,nm,k,u.kind,u.name,u.kids,[z,w],(l.headD v0).kids,((l.drop 1).headD v0).kids,bs.reverse)) (fun n=>bJ n cs ds sz m bs.reverse (.mk op nm k u [z,w])) bs.reverse (aN [aj g z bs,aj g w bs]):=by
 refine dV.succ ?_;show dV _ (fun n=>rH n _ _ _ _ _ (aM n) _ _ _ _ _ _ _) _ _;unfold rH;have hs:iO op=true∧(op==46)=false:=by rcases ho with rfl|rfl|rfl|rfl|rfl<;>exact⟨rfl,rfl⟩
 simp only[YI,Tm.op,hs.1,hs.2];have e:aN [aj g z bs,aj g w bs]=(aj g z bs).thn fun a=>(aj g w bs).thn fun b=>RR.ok [a,b]:=by
  cases aj g z bs<;>cases aj g w bs<;>rfl
 rw[e];exact dV.bind hz fun a _=>dV.bind hw fun b _=>Ev.ret _
theorem aGw{env:Env}(hg:Xp env sz g){op:Int}{sc:List Decl}{t:Ty}{y:Tm}{bs:List Bound}(ho:op=16∨op=17∨op=18)(hs:Scp env sz sc bs)(hy:HT env sc y (au t))(hE:nK cs ds sz m g y bs)(hK:∀z∈y.kids,iO y.op=true→nK cs ds sz m g z bs)(a:Val)
  (ha:hasB env sz (cond (op==18) (au t) t) a=true) (la:a.kids.length≤256):
  dV (vb bs.reverse) (fun n=>cond (op==18)
    ((cond (decide (y.op<41) ||decide (46<y.op)) ((bI n cs ds sz m bs.reverse y).bind (PZ.el (fun(x21:(List Val)×(List Bound))=>((Gf n a.kids x21.1).bind fun(x22:List Val)=>((bN n ((x22.length:Int)==(a.kids.length:Int))).bind fun(x23:Val)=>some (.ok (x23,x21.2))))) (fun(e9:Int) z9=>some (.er e9 z9)))) (cond (y.op==46) ((bK n cs ds sz m bs.reverse y).bind (PZ.el (fun(x24:(List Val)×(List Bound))=>((Gq n a.kids x24.1).bind fun(x25:List Val)=>((bN n ((x25.length:Int)==(a.kids.length:Int))).bind fun(x26:Val)=>some (.ok (x26,x24.2))))) (fun(e10:Int) z10=>some (.er e10 z10)))) ((bJ n cs ds sz m bs.reverse y).bind (PZ.el (fun(x27:Int×Str×Int×Int×Str×(List Ty)×(List Tm)×(List Val)×(List Val)×(List Bound))=>((Gr n a.kids x27.1 x27.2.1 x27.2.2.1 x27.2.2.2.1 x27.2.2.2.2.1 x27.2.2.2.2.2.1 x27.2.2.2.2.2.2.1 x27.2.2.2.2.2.2.2.1 x27.2.2.2.2.2.2.2.2.1).bind fun(x28:List Val)=>((bN n ((x28.length:Int)==(a.kids.length:Int))).bind fun(x29:Val)=>some (.ok (x29,x27.2.2.2.2.2.2.2.2.2))))) (fun(e11:Int) z11=>some (.er e11 z11)))))))
    ((cond (decide (y.op<41) ||decide (46<y.op)) ((bI n cs ds sz m bs.reverse y).bind (PZ.el (fun(x9:(List Val)×(List Bound))=>((jM n a x9.1).bind fun(x10:Bool)=>((bN n (x10==(op==16))).bind fun(x11:Val)=>some (.ok (x11,x9.2))))) (fun(e5:Int) z5=>some (.er e5 z5)))) (cond (y.op==46) ((bK n cs ds sz m bs.reverse y).bind (PZ.el (fun(x12:(List Val)×(List Bound))=>((jP n a x12.1).bind fun(x13:Bool)=>((bN n (x13==(op==16))).bind fun(x14:Val)=>some (.ok (x14,x12.2))))) (fun(e6:Int) z6=>some (.er e6 z6)))) ((bJ n cs ds sz m bs.reverse y).bind (PZ.el (fun(x15:Int×Str×Int×Int×Str×(List Ty)×(List Tm)×(List Val)×(List Val)×(List Bound))=>((lF n a x15.1 x15.2.1 x15.2.2.1 x15.2.2.2.1 x15.2.2.2.2.1 x15.2.2.2.2.2.1 x15.2.2.2.2.2.2.1 x15.2.2.2.2.2.2.2.1 x15.2.2.2.2.2.2.2.2.1).bind fun(x16:Bool)=>((bN n (x16==(op==16))).bind fun(x17:Val)=>some (.ok (x17,x15.2.2.2.2.2.2.2.2.2))))) (fun(e7:Int) z7=>some (.er e7 z7))))))))
   bs.reverse (X9 op (nu g y) bs a):=by
 -- what a test makes of one value, or of a set
 have fin:∀{α:Type} {J:List Val→α} {f:Nat→Option (PZ α (List Bound))} {r:xU} {F:Nat→α→List Val→Option (List Val)} {D:Nat→Val→α→Option Bool} {B:α→List Bound},
   dV J f bs.reverse r→(∀l,B (J l)=bs.reverse)→(∀l,r=.ok l→∀x,hasB env sz t x=true→Ev (fun n=>D n x (J l)) (iB y.op l x))→(∀l,r=.ok l→op=18→Ev (fun n=>F n (J l) a.kids) (a.kids.filter (iB y.op l)))→
   dV (vb bs.reverse) (fun n=>cond (op==18) ((f n).bind (PZ.el (fun x=>((F n x a.kids).bind fun(q:List Val)=>((bN n ((q.length:Int)==(a.kids.length:Int))).bind fun(v:Val)=>some (.ok (v,B x))))) (fun e z=>some (.er e z))))
    ((f n).bind (PZ.el (fun x=>((D n a x).bind fun(q:Bool)=>((bN n (q==(op==16))).bind fun(v:Val)=>some (.ok (v,B x))))) (fun e z=>some (.er e z))))) bs.reverse
    (r.thn fun l=>.ok (aO (cond (op==18) (a.kids.all (iB y.op l)) (iB y.op l a==(op==16))))):=by
  intro α J f r F D B hf hB hD hF;cases h18:(op==18)with
  |true=>
   refine dV.bind hf fun l hl=>?_;have h1:=hF l hl (eq_of_beq h18);show Ev _ _;rw[cond_true,←avN,show vb bs.reverse _=(aO (((a.kids.filter (iB y.op l)).length:Int)==(a.kids.length:Int)),B (J l)) by rw[hB]];exact Ev.bind h1 (Ev.bind (CQ _) (Ev.ret _))
  |false=>
   rw[h18]at ha;refine dV.bind hf fun l hl=>?_;have h1:=hD l hl a ha;show Ev _ _;rw[cond_false,show vb bs.reverse _=(aO (iB y.op l a==(op==16)),B (J l)) by rw[hB]];exact Ev.bind h1 (Ev.bind (CQ _) (Ev.ret _))
 have hkids:op=18→∀x∈a.kids,hasB env sz t x=true:=fun h=>by
  subst h;obtain⟨l,rfl,_,h2⟩:=iV.1 ha;exact h2
 have S:∀{e:Ty} {w:Val},hasB env sz (au e) w=true→dO w.kids∧∀x∈w.kids,hasB env sz e x=true:=fun hw=>by
  obtain⟨l,rfl,h1,h2⟩:=iV.1 hw;exact⟨h1,h2⟩
 have la':a.kids.length≤1000000:=by omega
 have hsym:(decide (y.op<41) ||decide (46<y.op))=!(iO y.op):=by
  unfold iO
  grind
 rw[hsym];unfold X9 vv;show dV _ _ _ ((cond (iO y.op) (aN ((y.kids.map (aj g)).map fun g=>g bs)) (aN [aj g y bs])).thn _);by_cases hsy:iO y.op=true
 ·rw[hsy];cases hy with
  |fam q hq hz hw=>
   rename_i nm k u z w c d;have iz:=hK z (by simp[Tm.kids]) hsy;have iw:=hK w (by simp[Tm.kids]) hsy;have h46:(q==46)=false:=by rcases hq with rfl|rfl|rfl|rfl|rfl<;>rfl
   simp only[Tm.op,h46,cond_true,cond_false,qAv];have hT:∀l,aN [aj g z bs,aj g w bs]=.ok l→∃p r,l=[p,r]∧dO p.kids∧dO r.kids:=fun l hl=>by
    obtain⟨p,r,h1,h2,h3⟩:=seq2 (f:=fun l=>(RR.ok (mkSet l):VR)) (v:=mkSet l) (by rw[hl];rfl);cases h3;exact⟨p,r,rfl,(S (sound hg z sc _ bs p hz hs h1)).1,(S (sound hg w sc _ bs r hw hs h2)).1⟩
   have hD:∀l,aN [aj g z bs,aj g w bs]=.ok l→∀x,hasB env sz (au (aR c d)) x=true→Ev (fun n=>wu n q (l.headD v0).kids ((l.drop 1).headD v0).kids x.kids) (iB q l x):=fun l hl x hx=>by
    obtain⟨p,r,rfl,h1,h2⟩:=hT l hl;obtain⟨h3,h4⟩:=S hx;unfold iB;rw[show iO q=true from hsy,h46];exact ae6 q h1.1 h2.1 (Ap h1) (Ap h2) (fun v hv=>by
     obtain⟨s,t,rfl,_,_⟩:=qJ.1 (h4 v hv);exact⟨s,t,rfl⟩) (Ap h3)
   have h:=fin (α:=Int×Str×Int×Int×Str×(List Ty)×(List Tm)×(List Val)×(List Val)×(List Bound)) (F:=fun n x l=>Gr n l x.1 x.2.1 x.2.2.1 x.2.2.2.1 x.2.2.2.2.1 x.2.2.2.2.2.1 x.2.2.2.2.2.2.1 x.2.2.2.2.2.2.2.1 x.2.2.2.2.2.2.2.2.1) (D:=fun n v x=>lF n v x.1 x.2.1 x.2.2.1 x.2.2.2.1 x.2.2.2.2.1 x.2.2.2.2.2.1 x.2.2.2.2.2.2.1 x.2.2.2.2.2.2.2.1 x.2.2.2.2.2.2.2.2.1) (B:=fun x=>x.2.2.2.2.2.2.2.2.2) (aJy (nm:=nm) (k:=k) (u:=u) hq iz iw) (fun l=>rfl)
    (fun l hl x hx=>Ev.same (hD l hl x hx))
    (fun l hl h18=>D5 a.kids (fun n x=>lF n x q nm k u.kind u.name u.kids [z,w] (l.headD v0).kids ((l.drop 1).headD v0).kids) _ (fun x hx=>Ev.same (hD l hl x (hkids h18 x hx))) la')
   exact h
  |pow hz=>
   rename_i nm k u z c;have iz:=hK z (by simp[Tm.kids]) hsy;simp only[Tm.op,show((46:Int)==46)=true from rfl,cond_true,cond_false,qAv];have hD:∀l,aN [aj g z bs]=.ok l→∀x,hasB env sz (au c) x=true→Ev (fun n=>jP n x (l.headD v0).kids) (iB 46 l x):=fun l hl x hx=>by
    obtain⟨p,h1,h3⟩:=seq1 (f:=fun l=>(RR.ok (mkSet l):VR)) (v:=mkSet l) (by rw[hl];rfl);cases h3;have hp:=(S (sound hg z sc _ bs p hz hs h1)).1;have hx:=(S hx).1;show Ev _ (x.kids.all (aF p.kids));rw[←avN];exact Ev.bind (D5 x.kids (fun n v=>vO n v p.kids) (aF p.kids) (fun v _=>hp.has v) (Ap hx)) (Ev.ret _)
   have h:=fin (α:=List Val×List Bound) (F:=fun n x l=>Gq n l x.1) (D:=fun n v x=>jP n v x.1) (B:=fun x=>x.2) (aJB (nm:=nm) (k:=k) (u:=u) iz) (fun l=>rfl) hD
    (fun l hl h18=>D5 a.kids (fun n x=>jP n x (l.headD v0).kids) _ (fun x hx=>hD l hl x (hkids h18 x hx)) la')
   exact h
  |bin q hq=>rcases hq with rfl|rfl|rfl<;>cases hsy
  |dres q hq=>rcases hq with rfl|rfl<;>cases hsy
  |rres q hq=>rcases hq with rfl|rfl<;>cases hsy
  |_=>cases hsy
 ·rw[qDp]at hsy;rw[hsy];simp only[cond_true,cond_false,qBb];have hD:∀l,aN [aj g y bs]=.ok l→∀x:Val,Ev (fun n=>jM n x (l.headD v0).kids) (iB y.op l x):=fun l hl x=>by
   obtain⟨p,h1,h3⟩:=seq1 (f:=fun l=>(RR.ok (mkSet l):VR)) (v:=mkSet l) (by rw[hl];rfl);cases h3;have hp:=(S (sound hg y sc _ bs p hy hs h1)).1;unfold iB;rw[hsy];exact hp.has x
  have h:=fin (α:=List Val×List Bound) (F:=fun n x l=>Gf n l x.1) (D:=fun n v x=>jM n v x.1) (B:=fun x=>x.2) (aJc hsy hE) (fun l=>rfl) (fun l hl x _=>hD l hl x)
   (fun l hl h18=>D5 a.kids (fun n x=>jM n x (l.headD v0).kids) _ (fun x hx=>hD l hl x) la')
  exact h
end
end
section
open Go
section
variable {cs:List Carrier}{ds:List Decl}{sz:List Int}{m:List (Str×Val)}{g:Str→Val}
theorem ar0{env:Env}{sc:List Decl}{bs:List Bound}(h:Scp env sz sc bs)(s:Str)(hb:bs.find? (fun b=>b.name==s)=none):sc.find? (fun d=>d.name==s)=none:=by
 induction h with
 |nil=>rfl
 |cons h k ih=>
  grind
def LkE(env:Env)(cs:List Carrier)(ds:List Decl)(sz:List Int)(m:List (Str×Val))(g:Str→Val):Prop:=∀s t,look env s=some t→∀b,Ev (fun n=>adY n cs ds sz m b s) (.ok (g s))
theorem azl{env:Env}(hk:LkE env cs ds sz m g){sc:List Decl}{bs:List Bound}(h:Scp env sz sc bs){s:Str}{t:Ty}(ht:nJ env sc s=some t):Ev (fun n=>nY n cs ds sz m bs.reverse s) (pz (.ok (Ml g bs s))):=by
 unfold nY Ml;rw[List.reverse_reverse];cases hb:bs.find? (fun b=>b.name==s)with
 |some b=>exact Ev.ret _
 |none=>
  unfold nJ at ht;rw[ar0 h s hb]at ht;exact hk s t ht _
theorem lT{t:Tm}{bs:List Bound}(h:dV (vb bs.reverse) (fun n=>sI n (bJ n) (bK n) (bI n) (dw n) (dJ n) (aM n) (dD n) cs ds sz m bs.reverse t) bs.reverse (aj g t bs)):nK cs ds sz m g t bs:=dV.succ h
def xw(op:Int):Bool:=op==3 ||(op==7 ||(decide (10≤op)&&decide (op≤15) ||(decide (21≤op)&&decide (op≤27) ||decide (30≤op)&&decide (op≤54))))
theorem aqZ(n:Nat){r1 r2 r3 r4 r5 r6 r7}{op:Int}{nm:Str}{k:Int}{u:Ty}{ks:List Tm}{b:List Bound}(h:xw op=true):
  sI n r1 r2 r3 r4 r5 r6 r7 cs ds sz m b (.mk op nm k u ks)=(Kn n r1 r2 r3 r4 r5 r6 r7 cs ds sz m (.mk op nm k u ks) n (0,0,0,([]:Str),([]:List Val),0,0,([]:Str),([]:List Val),b)).bind (asw op n):=by
 unfold xw at h;simp at h;have e:∀c:Int,(c=1∨c=2∨c=19∨c=20∨c=29∨c=4∨c=5∨c=6∨c=8∨c=9∨c=55∨c=56∨c=16∨c=17∨c=18∨c=28)→(op==c)=false:=fun c hc=>by
  rw[beq_eq_false_iff_ne];omega
 unfold sI;simp only[Tm.op,e 1 (by omega),e 2 (by omega),e 19 (by omega),e 20 (by omega),e 29 (by omega),e 4 (by omega),e 5 (by omega),e 6 (by omega),e 8 (by omega),e 9 (by omega),e 55 (by omega),e 56 (by omega),e 16 (by omega),e 17 (by omega),e 18 (by omega),e 28 (by omega),cond_false,qAb]
theorem adW{op:Int}{nm:Str}{k:Int}{ks:List Kd}{bs:List Bound}(h:xw op=true):Za g op nm k ks bs=(aN (ks.map fun k=>k.f bs)).thn (bB op):=by
 unfold xw at h;simp at h;have e:∀c:Int,(c=1∨c=2∨c=19∨c=20∨c=29∨c=4∨c=5∨c=6∨c=8∨c=9∨c=55∨c=56∨c=16∨c=17∨c=18∨c=28)→(op==c)=false:=fun c hc=>by
  rw[beq_eq_false_iff_ne];omega
 unfold Za bY
 grind
theorem app1{op:Int}{nm:Str}{k:Int}{u:Ty}{x:Tm}{bs:List Bound}(h:xw op=true)(hx:nK cs ds sz m g x bs)(hA:∀a,aj g x bs=.ok a→Ev (fun n=>oz n op a v0) (pz (CG op a v0))):nK cs ds sz m g (.mk op nm k u [x]) bs:=by
 have h28:(op==28)=false:=by
  unfold xw at h
  grind
 refine lT ?_;rw[bG,adW h];simp only[aqZ _ h];exact aGd h28 hx hA
theorem Fq{op:Int}{nm:Str}{k:Int}{u:Ty}{x y:Tm}{bs:List Bound}(h:xw op=true)(hx:nK cs ds sz m g x bs)(hy:nK cs ds sz m g y bs)(hA:∀a b,aj g x bs=.ok a→aj g y bs=.ok b→Ev (fun n=>oz n op a b) (pz (CG op a b))):nK cs ds sz m g (.mk op nm k u [x,y]) bs:=by
 have h28:(op==28)=false:=by
  unfold xw at h
  grind
 refine lT ?_;rw[bG,adW h];simp only[aqZ _ h];exact aGG h28 hx hy hA
theorem arW{env:Env}(hg:Xp env sz g){op:Int}{nm:Str}{k:Int}{u:Ty}{sc:List Decl}{t:Ty}{x y:Tm}{bs:List Bound}(ho:op=16∨op=17∨op=18)(hs:Scp env sz sc bs)(hx:HT env sc x (cond (op==18) (au t) t))(hy:HT env sc y (au t))(hX:nK cs ds sz m g x bs)(hE:nK cs ds sz m g y bs)
  (hK:∀z∈y.kids,iO y.op=true→nK cs ds sz m g z bs) (hl:∀v,aj g x bs=.ok v→v.kids.length≤256):nK cs ds sz m g (.mk op nm k u [x,y]) bs:=by
 refine lT ?_;have e:aj g (.mk op nm k u [x,y]) bs=(aj g x bs).thn (X9 op (nu g y) bs):=by
  rw[bG];rcases ho with rfl|rfl|rfl<;>rfl
 rw[e];have main:=fun a (ha:aj g x bs=.ok a)=>aGw (cs:=cs) (ds:=ds) (m:=m) hg ho hs hy hE hK a (sound hg x sc _ bs a hx hs ha) (hl a ha);rcases ho with rfl|rfl|rfl
 ·exact dV.mono (f:=fun n=>(aM n cs ds sz m bs.reverse x).bind (PZ.el (fun x7=>_) (fun e8 z8=>some (.er e8 z8)))) (fun v h=>h) (dV.bind (K:=vb bs.reverse) hX main)
 ·exact dV.mono (f:=fun n=>(aM n cs ds sz m bs.reverse x).bind (PZ.el (fun x7=>_) (fun e8 z8=>some (.er e8 z8)))) (fun v h=>h) (dV.bind (K:=vb bs.reverse) hX main)
 ·exact dV.mono (f:=fun n=>(aM n cs ds sz m bs.reverse x).bind (PZ.el (fun x7=>_) (fun e8 z8=>some (.er e8 z8)))) (fun v h=>h) (dV.bind (K:=vb bs.reverse) hX main)
end
theorem avi{env:Env}{sz:List Int}{t:Ty}{v:Val}(h:hasB env sz t v=true):v.kids.length≤256:=by
 obtain⟨k,nm,ks⟩:=t;rw[hasB]at h;unfold acs abw OD at h
 grind
theorem aek{env:Env}{cs:List Carrier}{ds:List Decl}{sz:List Int}{m:List (Str×Val)}{g:Str→Val}(hg:Xp env sz g)(hk:LkE env cs ds sz m g)(t:Tm):
  (∀d sc ty bs,Wf d t→HT env sc t ty→Scp env sz sc bs→(bs.length:Int)<d→nK cs ds sz m g t bs)∧∀z∈t.kids,∀d sc ty bs,Wf d z→HT env sc z ty→Scp env sz sc bs→(bs.length:Int)<d→nK cs ds sz m g z bs:=by
 induction t using Tm.ind with
 |h op nm k u ks ih=>
 refine⟨?_,fun z hz=>(ih z hz).1⟩;intro d sc ty bs hw ht hs hb;obtain⟨hnode,hd,hkl,hkw⟩:=hw.node;have hbl:bs.length≤1000:=by omega
 have S:∀{e:Ty} {w:Val},hasB env sz (au e) w=true→dO w.kids∧∀x∈w.kids,hasB env sz e x=true:=fun hw=>by
  obtain⟨l,rfl,h1,h2⟩:=iV.1 hw;exact⟨h1,h2⟩
 have R:∀{a b:Ty} {w:Val},hasB env sz (au (aR a b)) w=true→fI w.kids:=fun hw p hp=>by
  obtain⟨x,y,rfl,_,_⟩:=qJ.1 ((S hw).2 p hp);exact⟨x,y,rfl⟩
 have I:∀{w:Val},hasB env sz fE w=true→EU w.n:=fun hw=>by
  obtain⟨n,rfl,h⟩:=sG.1 hw;exact h
 have D:=fun x (hx:x∈ks) ty (h:HT env sc x ty)=>(ih x hx).1 (d+1) sc ty bs (hkw x hx) h hs (by omega);have V:∀{x:Tm} {ty:Ty} {v:Val},HT env sc x ty→aj g x bs=.ok v→hasB env sz ty v=true:=fun h e=>sound hg _ sc _ bs _ h hs e;have z0:dO v0.kids:=⟨.nil,by simp[v0,Val.kids]⟩;have sA:∀{op:Int} {a b:Val},31≤op→dO a.kids→dO b.kids→((35≤op∧op≤36∨39≤op∧op≤40∨50≤op∧op≤54)→fI a.kids)→(35≤op∧op≤38→fI b.kids)→SetsOk op a b:=fun h31 h1 h2 h3 h4=>⟨fun h=>by omega,fun _=>⟨h1,h2⟩,h3,h4⟩;have bn:∀{op:Int} {x y:Tm} {e t:Ty},bY op=true→ks=[x,y]→HT env sc x (au e)→HT env (⟨nm,e⟩::sc) y t→dV (vb bs.reverse) (fun n=>dJ n cs ds sz m bs.reverse (.mk op nm k u [x,y])) bs.reverse (aj g (.mk op nm k u [x,y]) bs):=fun hbd hks hx hy=>by
  subst hks;refine aAp hbd (D _ (by simp) _ hx) hbl (fun v hv=>(S (V hx hv)).1.2) fun v hv a ha=>?_;exact(ih _ (by simp)).1 (d+1) _ _ _ (hkw _ (by simp)) hy (.cons ((S (V hx hv)).2 a ha) hs) (by simp;omega)
 have K:∀{y:Tm} {t:Ty},y∈ks→HT env sc y (au t)→∀z∈y.kids,iO y.op=true→nK cs ds sz m g z bs:=fun{y t} hym hy z hz hsy=>by
  have hwy:=(hkw y hym);have hi:=fun hT=>(ih y hym).2 z hz (d+1+1) sc hT bs;cases hy with
  |fam q hq hz1 hw1=>
   have hz:z∈[_,_]:=hz;have hwz:=hwy.node.2.2.2 z hz;rcases qAh.1 hz with rfl|hz'
   ·exact hi _ hwz hz1 hs (by omega)
   ·have hz':=qAK.1 hz';subst hz';exact hi _ hwz hw1 hs (by omega)
  |pow hz1=>
   have hz:z∈[_]:=hz;have hwz:=hwy.node.2.2.2 z hz;have hz':=qAK.1 hz;subst hz';exact hi _ hwz hz1 hs (by omega)
  |bin q hq=>rcases hq with rfl|rfl|rfl<;>cases hsy
  |dres q hq=>rcases hq with rfl|rfl<;>cases hsy
  |rres q hq=>rcases hq with rfl|rfl<;>cases hsy
  |_=>cases hsy
 cases ht with
 |lit op ho=>
  refine lT ?_;rcases ho with rfl|rfl
  ·exact Ev.of fun _=>rfl
  ·exact Ev.of fun _=>rfl
 |int h=>
  refine lT ?_;exact dV.pure (r:=gM k) (M5 k) (Er.int k)
 |name hl=>
  refine lT ?_;exact dV.pure (azl hk hs hl) (Er.ok _)
 |empty h=>
  refine lT ?_;exact Ev.of fun _=>rfl
 |not hx=>exact app1 rfl (D _ (by simp) _ hx) fun a ha=>iE (by omega) (by omega) (by omega) (by omega) (by omega) (by omega) (by omega)
 |log op ho hx hy=>
  rename_i x y;rcases ho with rfl|rfl|rfl|rfl
  ·exact lT (dV.same (ahl (by omega) (D _ (by simp) _ hx) (D _ (by simp) _ hy)))
  ·exact lT (dV.same (ahl (by omega) (D _ (by simp) _ hx) (D _ (by simp) _ hy)))
  ·exact lT (dV.same (ahl (by omega) (D _ (by simp) _ hx) (D _ (by simp) _ hy)))
  ·exact Fq rfl (D _ (by simp) _ hx) (D _ (by simp) _ hy) fun a b ha hb=>iE (by omega) (by omega) (by omega) (by omega) (by omega) (by omega) (by omega)
 |qu op ho hx hy=>
  rename_i x y e;rcases ho with rfl|rfl
  ·exact lT (dV.same (bn rfl rfl hx hy))
  ·exact lT (dV.same (bn rfl rfl hx hy))
 |compr hx hy=>exact lT (dV.same (bn rfl rfl hx hy))
 |fn hgt hx hy=>exact lT (dV.same (bn rfl rfl hx hy))
 |eq op ho hgt hx hy=>
  rcases ho with rfl|rfl
  ·exact Fq rfl (D _ (by simp) _ hx) (D _ (by simp) _ hy) fun a b ha hb=>iE (by omega) (by omega) (by omega) (by omega) (by omega) (by omega) (by omega)
  ·exact Fq rfl (D _ (by simp) _ hx) (D _ (by simp) _ hy) fun a b ha hb=>iE (by omega) (by omega) (by omega) (by omega) (by omega) (by omega) (by omega)
 |ord op ho hx hy=>
  have h1:xw op=true:=by rcases ho with rfl|rfl|rfl|rfl<;>rfl
  exact Fq h1 (D _ (by simp) _ hx) (D _ (by simp) _ hy) fun a b ha hb=>iE (by omega) (by omega) (by omega) (by omega) (by omega) (by omega) (by omega)
 |inn op ho hx hy=>
  rename_i x y t;have h18:(op==18)=false:=by rcases ho with rfl|rfl<;>rfl
  exact arW hg (by omega) hs (by rw[h18];exact hx) hy (D _ (by simp) _ hx) (D _ (by simp) _ hy) (K (by simp) hy) fun v hv=>avi (V hx hv)
 |sub hx hy=>exact arW hg (.inr (.inr rfl)) hs hx hy (D _ (by simp) _ hx) (D _ (by simp) _ hy) (K (by simp) hy) fun v hv=>avi (V hx hv)
 |neg hx=>exact app1 rfl (D _ (by simp) _ hx) fun a ha=>iE (by omega) (fun _=>⟨I (V hx ha),by constructor<;>simp[v0,Val.n]⟩) (by omega) (by omega) (by omega) (by omega) (by omega)
 |num op ho hx hy=>
  have h1:xw op=true:=by rcases ho with rfl|rfl|rfl|rfl|rfl<;>rfl
  exact Fq h1 (D _ (by simp) _ hx) (D _ (by simp) _ hy) fun a b ha hb=>iE (by omega) (fun _=>⟨I (V hx ha),I (V hy hb)⟩) (by omega) (by omega) (by omega) (by omega) (by omega)
 |pair h1 h2 hx hy=>exact Fq rfl (D _ (by simp) _ hx) (D _ (by simp) _ hy) fun a b ha hb=>iE (by omega) (by omega) (by omega) (by omega) (by omega) (by omega) (by omega)
 |set hgt hn hx=>
  refine lT ?_;have e:aj g (.mk 28 nm k u ks) bs=(aN (ks.map fun t=>aj g t bs)).thn bF:=by
   rw[bG];show(aN ((ks.map (nu g)).map fun k=>k.f bs)).thn bF=_;rw[qBh];rfl
  rw[e];exact aAd (fun x hx'=>D x hx' _ (hx x hx')) (by omega)
 |range hx hy=>exact Fq rfl (D _ (by simp) _ hx) (D _ (by simp) _ hy) fun a b ha hb=>iE (by omega) (by omega) (by omega) (by omega) (by omega) (by omega) fun _=>⟨fun _=>⟨I (V hx ha),I (V hy hb)⟩,fun h=>absurd rfl h,by omega,by omega⟩
 |bin op ho hx hy=>
  have h1:xw op=true:=by rcases ho with rfl|rfl|rfl<;>rfl
  exact Fq h1 (D _ (by simp) _ hx) (D _ (by simp) _ hy) fun a b ha hb=>iE (by omega) (by omega) (by omega) (by omega) (by omega) (by omega) fun _=>sA (by omega) (S (V hx ha)).1 (S (V hy hb)).1 (by omega) (by omega)
 |prod hx hy=>exact Fq rfl (D _ (by simp) _ hx) (D _ (by simp) _ hy) fun a b ha hb=>iE (by omega) (by omega) (by omega) (by omega) (by omega) (by omega) fun _=>sA (by omega) (S (V hx ha)).1 (S (V hy hb)).1 (by omega) (by omega)
 |over hx hy=>exact Fq rfl (D _ (by simp) _ hx) (D _ (by simp) _ hy) fun a b ha hb=>iE (by omega) (by omega) (by omega) (by omega) (by omega) (by omega) fun _=>sA (by omega) (S (V hx ha)).1 (S (V hy hb)).1 (fun _=>R (V hx ha)) (fun _=>R (V hy hb))
 |comp hx hy=>exact Fq rfl (D _ (by simp) _ hx) (D _ (by simp) _ hy) fun a b ha hb=>iE (by omega) (by omega) (by omega) (by omega) (by omega) (by omega) fun _=>sA (by omega) (S (V hx ha)).1 (S (V hy hb)).1 (fun _=>R (V hx ha)) (fun _=>R (V hy hb))
 |dres op ho hx hy=>
  have h1:xw op=true:=by rcases ho with rfl|rfl<;>rfl
  exact Fq h1 (D _ (by simp) _ hx) (D _ (by simp) _ hy) fun a b ha hb=>iE (by omega) (by omega) (by omega) (by omega) (by omega) (by omega) fun _=>sA (by omega) (S (V hx ha)).1 (S (V hy hb)).1 (by omega) (fun _=>R (V hy hb))
 |rres op ho hx hy=>
  have h1:xw op=true:=by rcases ho with rfl|rfl<;>rfl
  exact Fq h1 (D _ (by simp) _ hx) (D _ (by simp) _ hy) fun a b ha hb=>iE (by omega) (by omega) (by omega) (by omega) (by omega) (by omega) fun _=>sA (by omega) (S (V hx ha)).1 (S (V hy hb)).1 (fun _=>R (V hx ha)) (by omega)
 |fam op ho hx hy=>
  have h1:xw op=true:=by rcases ho with rfl|rfl|rfl|rfl|rfl<;>rfl
  exact Fq h1 (D _ (by simp) _ hx) (D _ (by simp) _ hy) fun a b ha hb=>iE (by omega) (by omega) (by omega) (by omega) (by omega) (by omega) fun _=>sA (by omega) (S (V hx ha)).1 (S (V hy hb)).1 (by omega) (by omega)
 |pow hx=>exact app1 rfl (D _ (by simp) _ hx) fun a ha=>iE (by omega) (by omega) (by omega) (by omega) (by omega) (by omega) fun _=>sA (by omega) (S (V hx ha)).1 z0 (by omega) (by omega)
 |card hx=>exact app1 rfl (D _ (by simp) _ hx) fun a ha=>iE (by omega) (by omega) (fun _=>(S (V hx ha)).1) (by omega) (by omega) (by omega) (by omega)
 |ext op ho hx=>
  have h1:xw op=true:=by rcases ho with rfl|rfl<;>rfl
  exact app1 h1 (D _ (by simp) _ hx) fun a ha=>iE (by omega) (by omega) (fun _=>(S (V hx ha)).1) (by omega) (by omega) (by omega) (by omega)
 |dom hx=>exact app1 rfl (D _ (by simp) _ hx) fun a ha=>iE (by omega) (by omega) (by omega) (by omega) (by omega) (by omega) fun _=>sA (by omega) (S (V hx ha)).1 z0 (fun _=>R (V hx ha)) (by omega)
 |ran hx=>exact app1 rfl (D _ (by simp) _ hx) fun a ha=>iE (by omega) (by omega) (by omega) (by omega) (by omega) (by omega) fun _=>sA (by omega) (S (V hx ha)).1 z0 (fun _=>R (V hx ha)) (by omega)
 |inv hx=>exact app1 rfl (D _ (by simp) _ hx) fun a ha=>iE (by omega) (by omega) (by omega) (by omega) (by omega) (by omega) fun _=>sA (by omega) (S (V hx ha)).1 z0 (fun _=>R (V hx ha)) (by omega)
 |image hx hy=>exact Fq rfl (D _ (by simp) _ hx) (D _ (by simp) _ hy) fun a b ha hb=>iE (by omega) (by omega) (by omega) (by omega) (by omega) (by omega) fun _=>sA (by omega) (S (V hx ha)).1 (S (V hy hb)).1 (fun _=>R (V hx ha)) (by omega)
 |app hx hy=>exact Fq rfl (D _ (by simp) _ hx) (D _ (by simp) _ hy) fun a b ha hb=>iE (by omega) (by omega) (fun _=>(S (V hx ha)).1) (fun _=>R (V hx ha)) (by omega) (by omega) (by omega)
end
section
open Go
def bT(env:Env)(t:Tm):Ty×List Int×Int:=cond (aW env&&cO t) (YQ (bX env [] t)) (bH,[],1)
theorem wR:GoodS []:=fun _ h=>by cases h
abbrev FQ(env:Env):Prop:=∀d∈env.names,d.name.length≤9223372036854775807
theorem QD(env:Env)(t:Tm)(hs:FQ env)(ht:iN t):Ev (fun n=>A8 n env t) (bT env t):=by
 unfold A8 bT;refine Ev.bind (a:=!(aW env&&cO t)) ?_ ?_
 ·refine Ev.bind (C8 env hs) ?_;cases aW env with
  |false=>exact Ev.ret _
  |true=>exact Ev.bind (OB t ht) (Ev.ret _)
 ·cases hb:(aW env&&cO t)with
  |false=>exact Ev.ret _
  |true=>
   simp only[qAa]at hb;simp only[qAv,cond_false,cond_true];refine Ev.bind (aoL hb.1) ?_;refine Ev.bind (aGC hb.1 t 1 [] [] (sP hb.2) wR (by simp)) ?_;cases hr:bX env [] t with
   |er e p=>
    have he:=IG t [] e p hr;have e0:(e !=0)=true:=by simpa using he
    have hp:=ab0 (sP hb.2) [] e p hr;simp only[VB,YQ,e0,cond_true,slices_Clone_int,qAo];rw[qh (by simp;omega) (by omega)];exact Ev.ret _
   |ok u=>
    simp only[VB,YQ,show((0:Int)!=0)=false from rfl,cond_false];exact Ev.bind (atu u (aAH (sV hb.1 wR hr))) (Ev.ret _)
end
section
open Go
theorem afR{env:Env}(h:aW env=true):∀d∈env.names,bA d.ty=true∧(dX d.ty).all (dP env)=true:=by
 intro d hd;simp only[aW,qAa]at h;have:=qAP.1 h.2.2.1 d hd;simp only[EF,qAa]at this;exact⟨this.2.1.1,this.2.2⟩
def gW(w:S_api_World):Bool:=(aW w.env&&(uj w.env w.sizes&&!((w.values.length:Int)!=(w.env.names.length:Int))))&&!((w.env.names.zip w.values).any fun q=>!(hasB w.env w.sizes q.1.ty q.2))
theorem Zw(w:S_api_World)(hs:∀d∈w.env.names,d.name.length≤9223372036854775807):Ev (fun n=>wP n w) (gW w):=by
 unfold wP gW;refine Ev.bind (a:=!(aW w.env&&(uj w.env w.sizes&&!((w.values.length:Int)!=(w.env.names.length:Int))))) ?_ ?_
 ·refine Ev.bind (C8 w.env hs) ?_;cases aW w.env with
  |false=>exact Ev.ret _
  |true=>
   refine Ev.bind (af4 w.env w.sizes) ?_;cases uj w.env w.sizes with
   |false=>exact Ev.ret _
   |true=>
    simp only[qAv,cond_false,qAu,qCk];exact Ev.ret _
 ·cases hb:(aW w.env&&(uj w.env w.sizes&&!((w.values.length:Int)!=(w.env.names.length:Int))))with
  |false=>exact Ev.ret _
  |true=>
   simp only[qAa,qAV,bne_eq_false_iff_eq]at hb;obtain⟨h1,h2,h3⟩:=hb;simp only[qAv,cond_false,qAu];have hd:=afR h1;refine Ev.bind (acZ w.env.names w.values (by omega) (fun n k i=>NG n w k i) (fun n d v=>(kN n w.env w.sizes v d.ty).bind fun b=>some (!b)) (fun d v=>!(hasB w.env w.sizes d.ty v)) false (fun n k i=>by
    show cond _ _ _=_;simp only[qAW,qAb];rfl) (fun d hm v=>Ev.bind (ayM w.env w.sizes (Dk h2) (PY (hd d hm).1) (hd d hm).2 v) (Ev.ret _))) ?_
   cases((w.env.names.zip w.values).any fun q=>!(hasB w.env w.sizes q.1.ty q.2))<;>exact Ev.ret _
end
end Abs
end Go.Proofs.YthgdaonechbgmaaGreat
