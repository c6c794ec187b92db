/-
  How a term has a type, rule by rule. Conditions: none; lemmas without a program.
-/
import Derived.Test.YtneeginmfjageaaGreatCP12oxbe15f9
set_option linter.all false
namespace Go.Proofs.YtneeginmfjageaaGreat
namespace Abs
section
open Go
inductive HT(env:Env):List Decl→Tm→Ty→Prop where
 |lit {sc nm m u} (op:Int) (h:op=1∨op=2):HT env sc (.mk op nm m u []) aK
 |int {sc nm m u} (h:0≤m∧m≤1000000000):HT env sc (.mk 19 nm m u []) bY
 |name {sc nm m u t} (h:rT env sc nm=some t):HT env sc (.mk 20 nm m u []) t
 |empty {sc nm m u} (h:Good u):HT env sc (.mk 29 nm m u []) (aj u)
 |not {sc nm m u x} (h:HT env sc x aK):HT env sc (.mk 3 nm m u [x]) aK
 |log {sc nm m u x y} (op:Int) (ho:op=4∨op=5∨op=6∨op=7) (h:HT env sc x aK) (k:HT env sc y aK):HT env sc (.mk op nm m u [x,y]) aK
 |qu {sc nm m u x y e} (op:Int) (ho:op=8∨op=9) (h:HT env sc x (aj e)) (k:HT env (⟨nm,e⟩::sc) y aK):HT env sc (.mk op nm m u [x,y]) aK
 |compr {sc nm m u x y e} (h:HT env sc x (aj e)) (k:HT env (⟨nm,e⟩::sc) y aK):HT env sc (.mk 55 nm m u [x,y]) (aj e)
 |fn {sc nm m u x y e t} (hg:Good t) (h:HT env sc x (aj e)) (k:HT env (⟨nm,e⟩::sc) y t):HT env sc (.mk 56 nm m u [x,y]) (aj (aL e t))
 |eq {sc nm m u x y t} (op:Int) (ho:op=10∨op=11) (hg:Good t) (h:HT env sc x t) (k:HT env sc y t):HT env sc (.mk op nm m u [x,y]) aK
 |ord {sc nm m u x y} (op:Int) (ho:op=12∨op=13∨op=14∨op=15) (h:HT env sc x bY) (k:HT env sc y bY):HT env sc (.mk op nm m u [x,y]) aK
 |inn {sc nm m u x y t} (op:Int) (ho:op=16∨op=17) (h:HT env sc x t) (k:HT env sc y (aj t)):HT env sc (.mk op nm m u [x,y]) aK
 |sub {sc nm m u x y t} (h:HT env sc x (aj t)) (k:HT env sc y (aj t)):HT env sc (.mk 18 nm m u [x,y]) aK
 |neg {sc nm m u x} (h:HT env sc x bY):HT env sc (.mk 21 nm m u [x]) bY
 |num {sc nm m u x y} (op:Int) (ho:op=22∨op=23∨op=24∨op=25∨op=26) (h:HT env sc x bY) (k:HT env sc y bY):HT env sc (.mk op nm m u [x,y]) bY
 |pair {sc nm m u x y a b} (ha:Good a) (hb:Good b) (h:HT env sc x a) (k:HT env sc y b):HT env sc (.mk 27 nm m u [x,y]) (aL a b)
 |set {sc nm m u ks a} (ha:Good a) (hn:ks≠[]) (h:∀t∈ks,HT env sc t a):HT env sc (.mk 28 nm m u ks) (aj a)
 |range {sc nm m u x y} (h:HT env sc x bY) (k:HT env sc y bY):HT env sc (.mk 30 nm m u [x,y]) (aj bY)
 |bin {sc nm m u x y e} (op:Int) (ho:op=31∨op=32∨op=33) (h:HT env sc x (aj e)) (k:HT env sc y (aj e)):HT env sc (.mk op nm m u [x,y]) (aj e)
 |prod {sc nm m u x y a b} (h:HT env sc x (aj a)) (k:HT env sc y (aj b)):HT env sc (.mk 34 nm m u [x,y]) (aj (aL a b))
 |over {sc nm m u x y a b} (h:HT env sc x (aj (aL a b))) (k:HT env sc y (aj (aL a b))):HT env sc (.mk 35 nm m u [x,y]) (aj (aL a b))
 |comp {sc nm m u x y a b c} (h:HT env sc x (aj (aL a b))) (k:HT env sc y (aj (aL b c))):HT env sc (.mk 36 nm m u [x,y]) (aj (aL a c))
 |dres {sc nm m u x y a b} (op:Int) (ho:op=37∨op=38) (h:HT env sc x (aj a)) (k:HT env sc y (aj (aL a b))):HT env sc (.mk op nm m u [x,y]) (aj (aL a b))
 |rres {sc nm m u x y a b} (op:Int) (ho:op=39∨op=40) (h:HT env sc x (aj (aL a b))) (k:HT env sc y (aj b)):HT env sc (.mk op nm m u [x,y]) (aj (aL a b))
 |fam {sc nm m u x y a b} (op:Int) (ho:op=41∨op=42∨op=43∨op=44∨op=45) (h:HT env sc x (aj a)) (k:HT env sc y (aj b)):HT env sc (.mk op nm m u [x,y]) (aj (aj (aL a b)))
 |pow {sc nm m u x a} (h:HT env sc x (aj a)):HT env sc (.mk 46 nm m u [x]) (aj (aj a))
 |card {sc nm m u x a} (h:HT env sc x (aj a)):HT env sc (.mk 47 nm m u [x]) bY
 |ext {sc nm m u x} (op:Int) (ho:op=48∨op=49) (h:HT env sc x (aj bY)):HT env sc (.mk op nm m u [x]) bY
 |dom {sc nm m u x a b} (h:HT env sc x (aj (aL a b))):HT env sc (.mk 50 nm m u [x]) (aj a)
 |ran {sc nm m u x a b} (h:HT env sc x (aj (aL a b))):HT env sc (.mk 51 nm m u [x]) (aj b)
 |inv {sc nm m u x a b} (h:HT env sc x (aj (aL a b))):HT env sc (.mk 52 nm m u [x]) (aj (aL b a))
 |image {sc nm m u x y a b} (h:HT env sc x (aj (aL a b))) (k:HT env sc y (aj a)):HT env sc (.mk 53 nm m u [x,y]) (aj b)
 |app {sc nm m u x y a b} (h:HT env sc x (aj (aL a b))) (k:HT env sc y a):HT env sc (.mk 54 nm m u [x,y]) b
theorem bV{b t u}(h:aP b t=some u):b=true/\u=t:=by
 cases b;·cases h
 exact⟨rfl,(Option.some.inj h).symm⟩
theorem jS{α β:Type}{o}{f:α->Option β}{b}(h:o.bind f=some b):∃a,o=some a/\f a=some b:=by
 cases o with|none=>cases h|some a=>exact⟨a,rfl,h⟩
theorem EY{t}(h:Top t)(k:(t.kind==2)=true):t=aK:=by
 rcases h with rfl|h
 ·rfl
 rw[ak1 h]at k;cases k
theorem JD{t}(h:Top t)(k:(t.kind !=2)=true):Good t:=by
 rcases h with rfl|h
 ·cases k
 exact h
theorem FY{t}(h:Top t)(k:(t.kind==1)=true):t=bY:=by
 rcases h with rfl|h
 ·cases k
 cases h<;>first|rfl|cases k
theorem apH{t}(h:Top t)(k:(aN t).isSome=true):∃e,t=aj e:=by
 rcases BS h with⟨e,rfl,_⟩|⟨_,h,_⟩
 ·grind
 grind
theorem aBB{t}(h:Top t)(k:(dB t).isSome=true):∃a b,t=aj (aL a b):=by
 rcases amn h with⟨a,b,rfl,_⟩|h
 ·grind
 grind
theorem ab5{p}{a b:Ty}(h:[a,b].all p=true):p a=true/\p b=true:=by grind
theorem WL{n}:∀a s nm i l,dA n s false nm i a=.ok l->l.length=a.length/\∀(k:Nat) t ty,a[k]? =some t->l[k]? =some ty->dN n s t=.ok ty
 |[],s,nm,i,l,h=>by
  simp only[dA]at h
  grind
 |x::a,s,nm,i,l,h=>by
  simp only[dA]at h;cases b:dN n s x with
  |er e p=>rw[b]at h;cases h|ok d=>
   rw[b]at h;simp only[oU,cond_false]at h;cases r:dA n s false nm (i+1) a with|er e p=>rw[r]at h;cases h|ok c=>
    rw[r]at h;obtain⟨f,g⟩:=WL a s nm (i+1) c r
    grind
theorem aBg{e s nm x l}(h:dA e s false nm 0 [x]=.ok l):∃a,l=[a]/\dN e s x=.ok a:=by
 obtain⟨b,c⟩:=WL _ _ _ _ _ h
 match l,b with|[a],_=>exact⟨a,rfl,c 0 x a rfl rfl⟩
theorem az7{e s nm x y l}(h:dA e s false nm 0 [x,y]=.ok l):∃a b,l=[a,b]/\dN e s x=.ok a/\dN e s y=.ok b:=by
 obtain⟨d,c⟩:=WL _ _ _ _ _ h
 match l,d with|[a,b],_=>exact⟨a,b,rfl,c 0 x a rfl rfl,c 1 y b rfl rfl⟩
theorem al3{n}{s}{nm}{x y}{l}(h:dA n s true nm 0 [x,y]=.ok l):∃a b e,l=[a,b]/\dN n s x=.ok a/\aN a=some e/\dN n (⟨nm,e⟩::s) y=.ok b:=by
 simp only[dA]at h;cases t:dN n s x with|er e p=>rw[t]at h;cases h|ok a=>
  rw[t]at h;simp only[oU]at h;cases c:aN a with|none=>rw[c]at h;cases h|some e=>grind
set_option maxRecDepth 100000 in
theorem aoi{env}(hv:aW env=true):∀(t:Tm) (d:Int) (sc:List Decl) (ty:Ty),Wf d t->GoodS sc->dN env sc t=.ok ty->HT env sc t ty:=λt=>Tm.ind (P:=λt=>∀(d:Int) (sc:List Decl) (ty:Ty),Wf d t->GoodS sc->dN env sc t=.ok ty->HT env sc t ty) (λop nm m u ks ih d sc ty hw hs ht=>by
 obtain⟨hn,_,_,hks⟩:=hw.node;obtain⟨⟨h1,h2⟩,hk20,hk29,hlen,hb⟩:=abv hn;have hnum:op=19->0<=m/\m<=1000000000:=λe=>by subst e;simp only[rW,qAb]at hn;have:=hn.2.2.1;have h3:(decide (0<=m)&&decide (m<=1000000000))=true:=this;rw[qAb]at h3;exact⟨of_decide_eq_true h3.1,of_decide_eq_true h3.2⟩
 have hnil:gN op=0->ks=[]:=λe=>by simp only[rW,qAb,Ak,Tm.op,Tm.kids]at hn;have:=hn.1.2;rw[e]at this;exact qAI.1 (by simpa using this)
 have ih':∀x∈ks,∀sc ty,GoodS sc->dN env sc x=.ok ty->HT env sc x ty/\Top ty:=λx hx sc ty hs ht=>⟨ih x hx (d+1) sc ty (hks x hx) hs ht,qU hv hs ht⟩;have k1:gN op=1->∃x,ks=[x]:=λe=>vE ks (by simp only[rW,qAb,Ak,Tm.op,Tm.kids]at hn;have:=hn.1.2;rw[e]at this;simpa using this)
 have k2:gN op=2->∃x y,ks=[x,y]:=λe=>dh ks (by simp only[rW,qAb,Ak,Tm.op,Tm.kids]at hn;have:=hn.1.2;rw[e]at this;simpa using this)
 have kx:gN op= -1->ks≠[]:=λe=>by rintro rfl;simp only[rW,qAb,Ak,Tm.op,Tm.kids]at hn;have:=hn.1.2;rw[e]at this;cases this
 -- the row
 have row:(op==20)=false->(op==29)=false->∃l,dA env sc (cO op) nm 0 ks=.ok l/\gH op l=some ty:=λe20 e29=>by
  simp only[dN,e20,e29,qBn,cond_false]at ht;cases hk:dA env sc (cO op) nm 0 ks with|er e p=>rw[hk]at ht;cases ht|ok l=>rw[hk]at ht;exact⟨l,rfl,(NV ht).1⟩
 have one:gN op=1->(op==20)=false->(op==29)=false->cO op=false->∃x a,ks=[x]/\HT env sc x a/\Top a/\gH op [a]=some ty:=λe e20 e29 eb=>by obtain⟨x,rfl⟩:=k1 e;obtain⟨l,hl,hr⟩:=row e20 e29;rw[eb]at hl;obtain⟨a,rfl,ha⟩:=aBg hl;have:=ih' x (by simp) sc a hs ha;exact⟨x,a,rfl,this.1,this.2,hr⟩
 have two:gN op=2->(op==20)=false->(op==29)=false->cO op=false->∃x y a b,ks=[x,y]/\HT env sc x a/\Top a/\HT env sc y b/\Top b/\gH op [a,b]=some ty:=λe e20 e29 eb=>by obtain⟨x,y,rfl⟩:=k2 e;obtain⟨l,hl,hr⟩:=row e20 e29;rw[eb]at hl;obtain⟨a,b,rfl,ha,hb⟩:=az7 hl;have:=ih' x (by simp) sc a hs ha;have h3:=ih' y (by simp) sc b hs hb;exact⟨x,y,a,b,rfl,this.1,this.2,h3.1,h3.2,hr⟩
 have bnd:cO op=true->(op==20)=false->(op==29)=false->∃x y e b,ks=[x,y]/\HT env sc x (aj e)/\HT env (⟨nm,e⟩::sc) y b/\Top b/\gH op [aj e,b]=some ty:=λeb e20 e29=>by
  obtain⟨x,y,rfl⟩:=hb eb;obtain⟨l,hl,hr⟩:=row e20 e29;rw[eb]at hl;obtain⟨a,b,e,rfl,ha,he,hb⟩:=al3 hl;have h3:=ih' x (by simp) sc a hs ha;obtain⟨hge,rfl⟩:=eO h3.2 he;have h4:=ih' y (by simp) (⟨nm,e⟩::sc) b (λq hq=>by
   rcases qAh.1 hq with rfl|hq
   ·exact hge
   exact hs q hq) hb
  exact⟨x,y,e,b,rfl,h3.1,h4.1,h4.2,hr⟩
 have lit:(op=1∨op=2)->HT env sc (.mk op nm m u ks) ty:=λe=>by
  have e0:ks=[]:=hnil (by rcases e with rfl|rfl<;>rfl);subst e0;obtain⟨l,hl,hr⟩:=row (by rcases e with rfl|rfl<;>rfl) (by rcases e with rfl|rfl<;>rfl);have:ty=aK:=by rcases e with rfl|rfl<;>exact(Option.some.inj hr).symm
  subst this;exact .lit op e
 have log:(op=4∨op=5∨op=6∨op=7)->HT env sc (.mk op nm m u ks) ty:=λe=>by
  obtain⟨x,y,a,b,rfl,ha,ta,hb,tb,hr⟩:=two (by rcases e with rfl|rfl|rfl|rfl<;>rfl) (by rcases e with rfl|rfl|rfl|rfl<;>rfl) (by rcases e with rfl|rfl|rfl|rfl<;>rfl) (by rcases e with rfl|rfl|rfl|rfl<;>rfl);have hr':aP (xP 2 [a,b]) aK=some ty:=by rcases e with rfl|rfl|rfl|rfl<;>exact hr
  obtain⟨h3,rfl⟩:=bV hr';obtain⟨h4,h5⟩:=ab5 h3;rw[EY ta h4]at ha;rw[EY tb h5]at hb;exact .log op e ha hb
 have qu:(op=8∨op=9)->HT env sc (.mk op nm m u ks) ty:=λe=>by
  obtain⟨x,y,a,b,rfl,ha,hb,tb,hr⟩:=bnd (by rcases e with rfl|rfl<;>rfl) (by rcases e with rfl|rfl<;>rfl) (by rcases e with rfl|rfl<;>rfl);have hr':aP ((aN (aj a)).isSome&&b.kind==2) aK=some ty:=by rcases e with rfl|rfl<;>exact hr
  obtain⟨h3,rfl⟩:=bV hr';simp only[qAb]at h3;rw[EY tb h3.2]at hb;exact .qu op e ha hb
 have eqc:(op=10∨op=11)->HT env sc (.mk op nm m u ks) ty:=λe=>by
  obtain⟨x,y,a,b,rfl,ha,ta,hb,tb,hr⟩:=two (by rcases e with rfl|rfl<;>rfl) (by rcases e with rfl|rfl<;>rfl) (by rcases e with rfl|rfl<;>rfl) (by rcases e with rfl|rfl<;>rfl);have hr':aP (a.kind !=2&&aS a b) aK=some ty:=by rcases e with rfl|rfl<;>exact hr
  obtain⟨h3,rfl⟩:=bV hr';simp only[qAb]at h3;have:=mD _ _ h3.2;subst this;exact .eq op e (JD ta h3.1) ha hb
 have ordc:(op=12∨op=13∨op=14∨op=15)->HT env sc (.mk op nm m u ks) ty:=λe=>by
  obtain⟨x,y,a,b,rfl,ha,ta,hb,tb,hr⟩:=two (by rcases e with rfl|rfl|rfl|rfl<;>rfl) (by rcases e with rfl|rfl|rfl|rfl<;>rfl) (by rcases e with rfl|rfl|rfl|rfl<;>rfl) (by rcases e with rfl|rfl|rfl|rfl<;>rfl);have hr':aP (xP 1 [a,b]) aK=some ty:=by rcases e with rfl|rfl|rfl|rfl<;>exact hr
  obtain⟨h3,rfl⟩:=bV hr';obtain⟨h4,h5⟩:=ab5 h3;rw[FY ta h4]at ha;rw[FY tb h5]at hb;exact .ord op e ha hb
 have innc:(op=16∨op=17)->HT env sc (.mk op nm m u ks) ty:=λe=>by
  obtain⟨x,y,a,b,rfl,ha,ta,hb,tb,hr⟩:=two (by rcases e with rfl|rfl<;>rfl) (by rcases e with rfl|rfl<;>rfl) (by rcases e with rfl|rfl<;>rfl) (by rcases e with rfl|rfl<;>rfl);have hr':(aN b).bind (λe=>aP (aS a e) aK)=some ty:=by rcases e with rfl|rfl<;>exact hr
  obtain⟨s,hs',h3⟩:=jS hr';obtain⟨h4,rfl⟩:=bV h3;have:=mD _ _ h4;subst this;obtain⟨_,rfl⟩:=eO tb hs';exact .inn op e ha hb
 have numc:(op=22∨op=23∨op=24∨op=25∨op=26)->HT env sc (.mk op nm m u ks) ty:=λe=>by
  obtain⟨x,y,a,b,rfl,ha,ta,hb,tb,hr⟩:=two (by rcases e with rfl|rfl|rfl|rfl|rfl<;>rfl) (by rcases e with rfl|rfl|rfl|rfl|rfl<;>rfl) (by rcases e with rfl|rfl|rfl|rfl|rfl<;>rfl) (by rcases e with rfl|rfl|rfl|rfl|rfl<;>rfl);have hr':aP (xP 1 [a,b]) bY=some ty:=by rcases e with rfl|rfl|rfl|rfl|rfl<;>exact hr
  obtain⟨h3,rfl⟩:=bV hr';obtain⟨h4,h5⟩:=ab5 h3;rw[FY ta h4]at ha;rw[FY tb h5]at hb;exact .num op e ha hb
 have binc:(op=31∨op=32∨op=33)->HT env sc (.mk op nm m u ks) ty:=λe=>by
  obtain⟨x,y,a,b,rfl,ha,ta,hb,tb,hr⟩:=two (by rcases e with rfl|rfl|rfl<;>rfl) (by rcases e with rfl|rfl|rfl<;>rfl) (by rcases e with rfl|rfl|rfl<;>rfl) (by rcases e with rfl|rfl|rfl<;>rfl);have hr':aP ((aN a).isSome&&aS a b) a=some ty:=by rcases e with rfl|rfl|rfl<;>exact hr
  obtain⟨h3,rfl⟩:=bV hr';simp only[qAb]at h3;have:=mD _ _ h3.2;subst this;obtain⟨s,rfl⟩:=apH ta h3.1;exact .bin op e ha hb
 have dresc:(op=37∨op=38)->HT env sc (.mk op nm m u ks) ty:=λe=>by
  obtain⟨x,y,a,b,rfl,ha,ta,hb,tb,hr⟩:=two (by rcases e with rfl|rfl<;>rfl) (by rcases e with rfl|rfl<;>rfl) (by rcases e with rfl|rfl<;>rfl) (by rcases e with rfl|rfl<;>rfl);have hr':(aN a).bind (λx=>(dB b).bind λy=>aP (aS x y.1) b)=some ty:=by rcases e with rfl|rfl<;>exact hr
  obtain⟨s,hs',h3⟩:=jS hr';obtain⟨⟨p,q⟩,hq,h4⟩:=jS h3;obtain⟨h5,rfl⟩:=bV h4;have:=mD _ _ h5;subst this;obtain⟨_,rfl⟩:=eO ta hs';obtain⟨_,_,rfl⟩:=gU tb hq;exact .dres op e ha hb
 have rresc:(op=39∨op=40)->HT env sc (.mk op nm m u ks) ty:=λe=>by
  obtain⟨x,y,a,b,rfl,ha,ta,hb,tb,hr⟩:=two (by rcases e with rfl|rfl<;>rfl) (by rcases e with rfl|rfl<;>rfl) (by rcases e with rfl|rfl<;>rfl) (by rcases e with rfl|rfl<;>rfl);have hr':(dB a).bind (λx=>(aN b).bind λy=>aP (aS y x.2) a)=some ty:=by rcases e with rfl|rfl<;>exact hr
  obtain⟨⟨p,q⟩,hq,h3⟩:=jS hr';obtain⟨s,hs',h4⟩:=jS h3;obtain⟨h5,rfl⟩:=bV h4;have:=mD _ _ h5;subst this;obtain⟨_,rfl⟩:=eO tb hs';obtain⟨_,_,rfl⟩:=gU ta hq;exact .rres op e ha hb
 have famc:(op=41∨op=42∨op=43∨op=44∨op=45)->HT env sc (.mk op nm m u ks) ty:=λe=>by
  obtain⟨x,y,a,b,rfl,ha,ta,hb,tb,hr⟩:=two (by rcases e with rfl|rfl|rfl|rfl|rfl<;>rfl) (by rcases e with rfl|rfl|rfl|rfl|rfl<;>rfl) (by rcases e with rfl|rfl|rfl|rfl|rfl<;>rfl) (by rcases e with rfl|rfl|rfl|rfl|rfl<;>rfl);have hr':(aN a).bind (λx=>(aN b).map λy=>aj (aj (aL x y)))=some ty:=by rcases e with rfl|rfl|rfl|rfl|rfl<;>exact hr
  obtain⟨s,hs',h3⟩:=jS hr';obtain⟨s2,hs2,rfl⟩:=qBv.1 h3;obtain⟨_,rfl⟩:=eO ta hs';obtain⟨_,rfl⟩:=eO tb hs2;exact .fam op e ha hb
 have extc:(op=48∨op=49)->HT env sc (.mk op nm m u ks) ty:=λe=>by
  obtain⟨x,a,rfl,ha,ta,hr⟩:=one (by rcases e with rfl|rfl<;>rfl) (by rcases e with rfl|rfl<;>rfl) (by rcases e with rfl|rfl<;>rfl) (by rcases e with rfl|rfl<;>rfl);have hr':(aN a).bind (λx=>aP (x.kind==1) bY)=some ty:=by rcases e with rfl|rfl<;>exact hr
  obtain⟨s,hs',h3⟩:=jS hr';obtain⟨h4,rfl⟩:=bV h3;obtain⟨hg,rfl⟩:=eO ta hs';have:=FY (.inr hg) h4;subst this;exact .ext op e ha
 rcases aks h1 h2 with rfl|rfl|rfl|rfl|rfl|rfl|rfl|rfl|rfl|rfl|rfl|rfl|rfl|rfl|rfl|rfl|rfl|rfl|rfl|rfl|rfl|rfl|rfl|rfl|rfl|rfl|rfl|rfl|rfl|rfl|rfl|rfl|rfl|rfl|rfl|rfl|rfl|rfl|rfl|rfl|rfl|rfl|rfl|rfl|rfl|rfl|rfl|rfl|rfl|rfl|rfl|rfl|rfl|rfl|rfl|rfl
 ·exact lit (.inl rfl)
 ·exact lit (.inr rfl)
 ·obtain⟨x,a,rfl,ha,ta,hr⟩:=one rfl rfl rfl rfl;obtain⟨h3,rfl⟩:=bV (b:=xP 2 [a]) (t:=aK) hr;rw[EY ta (by simpa[xP]using h3)]at ha;exact .not ha
 ·exact log (by simp)
 ·exact log (by simp)
 ·exact log (by simp)
 ·exact log (by simp)
 ·exact qu (by simp)
 ·exact qu (by simp)
 ·exact eqc (by simp)
 ·exact eqc (by simp)
 ·exact ordc (by simp)
 ·exact ordc (by simp)
 ·exact ordc (by simp)
 ·exact ordc (by simp)
 ·exact innc (by simp)
 ·exact innc (by simp)
 ·obtain⟨x,y,a,b,rfl,ha,ta,hb,tb,hr⟩:=two rfl rfl rfl rfl;obtain⟨h3,rfl⟩:=bV (b:=(aN a).isSome&&aS a b) (t:=aK) hr;simp only[qAb]at h3;have:=mD _ _ h3.2;subst this;obtain⟨s,rfl⟩:=apH ta h3.1;exact .sub ha hb
 ·have:=hnil rfl;subst this;obtain⟨l,hl,hr⟩:=row rfl rfl;have:ty=bY:=(Option.some.inj hr).symm;subst this;exact .int (hnum rfl)
 ·have:=hnil rfl;subst this;simp only[dN]at ht;cases hl:rT env sc nm with|none=>rw[hl]at ht;cases ht|some t=>rw[hl]at ht;cases ht;exact .name hl
 ·obtain⟨x,a,rfl,ha,ta,hr⟩:=one rfl rfl rfl rfl;obtain⟨h3,rfl⟩:=bV (b:=xP 1 [a]) (t:=bY) hr;rw[FY ta (by simpa[xP]using h3)]at ha;exact .neg ha
 ·exact numc (by simp)
 ·exact numc (by simp)
 ·exact numc (by simp)
 ·exact numc (by simp)
 ·exact numc (by simp)
 ·obtain⟨x,y,a,b,rfl,ha,ta,hb,tb,hr⟩:=two rfl rfl rfl rfl;obtain⟨h3,rfl⟩:=bV (b:=a.kind !=2&&b.kind !=2) (t:=aL a b) hr;simp only[qAb]at h3;exact .pair (JD ta h3.1) (JD tb h3.2) ha hb
 ·obtain⟨l,hl,hr⟩:=row rfl rfl;obtain⟨h3,h4⟩:=WL _ _ _ _ _ hl;obtain⟨h5,rfl⟩:=bV (b:=(l.headD aR).kind !=2&&l.all λx=>aS x (l.headD aR)) (t:=aj (l.headD aR)) hr;simp only[qAb]at h5;have hne:=kx rfl;obtain⟨x,ks',rfl⟩:=Jv ks hne;obtain⟨a,l',rfl⟩:=Jv l (by rintro rfl;cases h3);have hall:∀b∈a::l',b=a:=λb hb=>mD _ _ (qAJ.1 h5.2 b hb);refine .set (JD (qU hv hs (h4 0 x a rfl rfl)) h5.1) hne λt ht'=>?_;obtain⟨k,hk,rfl⟩:=qBz ht';have hk':k<(a::l').length:=by rw[h3];exact hk
  have h6:=h4 k _ _ (qAc hk) (qAc hk');rw[hall _ (qAN hk')]at h6;exact(ih' _ (qAN hk) sc a hs h6).1
 ·have:=hnil rfl;subst this;obtain⟨_,hv1,hv2⟩:=hk29 rfl;simp only[dN]at ht;have ht':cond (true&&!(knows env u)) (TR.er 6 []) (match dA env sc (cO 29) nm 0 []with| .er e p=>.er e p| .ok l=>Ai (some (aj u)))=.ok ty:=ht
  cases hkn:knows env u with|false=>rw[hkn]at ht';cases ht'|true=>rw[hkn]at ht';simp only[dA]at ht';have ht':Ai (some (aj u))=.ok ty:=ht';have:=(NV ht').1;cases this;exact .empty (JD (abj hv1) (by rw[bne,hv2];rfl))
 ·obtain⟨x,y,a,b,rfl,ha,ta,hb,tb,hr⟩:=two rfl rfl rfl rfl;obtain⟨h3,rfl⟩:=bV (b:=xP 1 [a,b]) (t:=aj bY) hr;obtain⟨h4,h5⟩:=ab5 h3;rw[FY ta h4]at ha;rw[FY tb h5]at hb;exact .range ha hb
 ·exact binc (by simp)
 ·exact binc (by simp)
 ·exact binc (by simp)
 ·obtain⟨x,y,a,b,rfl,ha,ta,hb,tb,hr⟩:=two rfl rfl rfl rfl;obtain⟨s,hs',h3⟩:=jS (o:=aN a) (f:=λx=>(aN b).map λy=>aj (aL x y)) hr;obtain⟨s2,hs2,rfl⟩:=qBv.1 h3;obtain⟨_,rfl⟩:=eO ta hs';obtain⟨_,rfl⟩:=eO tb hs2;exact .prod ha hb
 ·obtain⟨x,y,a,b,rfl,ha,ta,hb,tb,hr⟩:=two rfl rfl rfl rfl;obtain⟨h3,rfl⟩:=bV (b:=(dB a).isSome&&aS a b) (t:=a) hr;simp only[qAb]at h3;have:=mD _ _ h3.2;subst this;obtain⟨p,q,rfl⟩:=aBB ta h3.1;exact .over ha hb
 ·obtain⟨x,y,a,b,rfl,ha,ta,hb,tb,hr⟩:=two rfl rfl rfl rfl;obtain⟨⟨p,q⟩,hq,h3⟩:=jS (o:=dB a) (f:=λx=>(dB b).bind λy=>aP (aS x.2 y.1) (aj (aL x.1 y.2))) hr;obtain⟨⟨p',q'⟩,hq',h4⟩:=jS h3;obtain⟨h5,rfl⟩:=bV h4;have:=mD _ _ h5;obtain⟨_,_,rfl⟩:=gU ta hq;obtain⟨_,_,rfl⟩:=gU tb hq';simp only at this;subst this;exact .comp ha hb
 ·exact dresc (by simp)
 ·exact dresc (by simp)
 ·exact rresc (by simp)
 ·exact rresc (by simp)
 ·exact famc (by simp)
 ·exact famc (by simp)
 ·exact famc (by simp)
 ·exact famc (by simp)
 ·exact famc (by simp)
 ·obtain⟨x,a,rfl,ha,ta,hr⟩:=one rfl rfl rfl rfl;obtain⟨s,hs',rfl⟩:=qBv.1 (show(aN a).map (λx=>aj (aj x))=some ty from hr);obtain⟨_,rfl⟩:=eO ta hs';exact .pow ha
 ·obtain⟨x,a,rfl,ha,ta,hr⟩:=one rfl rfl rfl rfl;obtain⟨s,hs',rfl⟩:=qBv.1 (show(aN a).map (λ_=>bY)=some ty from hr);obtain⟨_,rfl⟩:=eO ta hs';exact .card ha
 ·exact extc (by simp)
 ·exact extc (by simp)
 ·obtain⟨x,a,rfl,ha,ta,hr⟩:=one rfl rfl rfl rfl;obtain⟨⟨p,q⟩,hq,rfl⟩:=qBv.1 (show(dB a).map (λx=>aj x.1)=some ty from hr);obtain⟨_,_,rfl⟩:=gU ta hq;exact .dom ha
 ·obtain⟨x,a,rfl,ha,ta,hr⟩:=one rfl rfl rfl rfl;obtain⟨⟨p,q⟩,hq,rfl⟩:=qBv.1 (show(dB a).map (λx=>aj x.2)=some ty from hr);obtain⟨_,_,rfl⟩:=gU ta hq;exact .ran ha
 ·obtain⟨x,a,rfl,ha,ta,hr⟩:=one rfl rfl rfl rfl;obtain⟨⟨p,q⟩,hq,rfl⟩:=qBv.1 (show(dB a).map (λx=>aj (aL x.2 x.1))=some ty from hr);obtain⟨_,_,rfl⟩:=gU ta hq;exact .inv ha
 ·obtain⟨x,y,a,b,rfl,ha,ta,hb,tb,hr⟩:=two rfl rfl rfl rfl;obtain⟨⟨p,q⟩,hq,h3⟩:=jS (o:=dB a) (f:=λx=>(aN b).bind λy=>aP (aS y x.1) (aj x.2)) hr;obtain⟨s,hs',h4⟩:=jS h3;obtain⟨h5,rfl⟩:=bV h4;have:=mD _ _ h5;obtain⟨_,_,rfl⟩:=gU ta hq;obtain⟨_,rfl⟩:=eO tb hs';simp only at this;subst this;exact .image ha hb
 ·obtain⟨x,y,a,b,rfl,ha,ta,hb,tb,hr⟩:=two rfl rfl rfl rfl;obtain⟨⟨p,q⟩,hq,h3⟩:=jS (o:=dB a) (f:=λx=>aP (aS b x.1) x.2) hr;obtain⟨h5,rfl⟩:=bV h3;have:=mD _ _ h5;obtain⟨_,_,rfl⟩:=gU ta hq;simp only at this;subst this;exact .app ha hb
 ·obtain⟨x,y,a,b,rfl,ha,hb,tb,hr⟩:=bnd rfl rfl rfl;obtain⟨h3,rfl⟩:=bV (b:=(aN (aj a)).isSome&&b.kind==2) (t:=aj a) hr;simp only[qAb]at h3;rw[EY tb h3.2]at hb;exact .compr ha hb
 obtain⟨x,y,a,b,rfl,ha,hb,tb,hr⟩:=bnd rfl rfl rfl;obtain⟨s,hs',h3⟩:=jS (o:=aN (aj a)) (f:=λx=>aP (b.kind !=2) (aj (aL x b))) hr;obtain⟨h5,rfl⟩:=bV h3;cases hs';exact .fn (JD tb h5) ha hb) t
theorem aaZ(n:Nat)(p0:Env)(p1:List Int)(k:Nat)(s:Int):NM n p0 p1 (k+1) s=J8 n p0 p1 (NM n p0 p1 k) s:=rfl
theorem Ie n (q:Env->(List Int)->Val->Ty->Option Bool)(b:(List Ty)->Int->Int->Str->(List Val)->(List Carrier)->(List Decl)->(List Int)->Option Bool) p0 p4 p5 p6 p7 k s:zJ n q b p0 p4 p5 p6 p7 (k+1) s=xH n q b p0 p4 p5 p6 p7 (zJ n q b p0 p4 p5 p6 p7 k) s:=rfl
theorem Me n (q:Env->(List Int)->Val->Ty->Option Bool)(b:(List Ty)->Int->Int->Str->(List Val)->(List Carrier)->(List Decl)->(List Int)->Option Bool) p2 k s:DX n q b p2 (k+1) s=Bq n q b p2 (DX n q b p2 k) s:=rfl
theorem LU n p0 p1 k s:yQ n p0 p1 (k+1) s=wN n p0 p1 (yQ n p0 p1 k) s:=rfl
theorem arn c l i s (h:idx l i=some s):((idx l i).bind λ(x)=>cond (decide (x<1)) (some true) ((idx l i).bind λ(a:Int)=>(cond (decide (8<a)) (some true) (cond (decide (0<(c.elems.length:Int))) ((idx l i).bind λ(b:Int)=>some (b !=(c.elems.length:Int))) (some false)))))=some (ZX c s):=by
 simp only[ZX]
 grind
theorem aq1 n nm:∀cs a p ps,p.length=ps.length->cs.length=a.length->∀k,cs.length+1<=k->yQ n ⟨p++cs,nm⟩ (ps++a) k p.length=some (cond (G9 cs a) (.nx ()) (.rt false))
 |[],a,p,ps,b,l,k,h=>by obtain⟨j,rfl⟩:∃j,k=j+1:=⟨k - 1,by simp at h;omega⟩;rw[LU];unfold wN;rw[decide_eq_false (by simp)];rfl
 |c::cs,[],p,ps,b,l,k,h=>by simp at l|c::cs,s::a,p,ps,b,l,k,h=>by
  obtain⟨j,rfl⟩:∃j,k=j+1:=⟨k - 1,by simp at h;omega⟩;have i:idx (ps++s::a) (p.length:Int)=some s:=by rw[b];exact gV _ _ _
  have d:=aq1 n nm cs a (p++[c]) (ps++[s]) (by simp[b]) (by simpa using l) j (by simp at h;omega);rw[LU];unfold wN;rw[decide_eq_true (by simp;omega)];simp only[cond_true];rw[gV];simp only[qAa];rw[arn c _ _ s i];simp only[qAa,G9];cases e:ZX c s with|true=>rfl|false=>simp;rw[show(p.length:Int)+1=((p++[c]).length:Int) by simp];simpa using d
theorem alK(n:Nat)(nm:List Decl):∀(cs:List Carrier) (ss:List Int) (pc:List Carrier) (ps:List Int),pc.length=ps.length→cs.length=ss.length→∀k,cs.length+1≤k→NM n ⟨pc++cs,nm⟩ (ps++ss) k (pc.length:Int)=some (cond (G9 cs ss) (.nx ()) (.rt false))
 |[],ss,pc,ps,hp,hl,k,hk=>by
  obtain⟨j,rfl⟩:∃j,k=j+1:=⟨k - 1,by simp at hk;omega⟩;have:ss=[]:=qAI.1 (by simpa using hl.symm);subst this;rw[aaZ];unfold J8;rw[decide_eq_false (by simp[hp])];rfl
 |c::cs,[],pc,ps,hp,hl,k,hk=>by simp at hl
 |c::cs,s::ss,pc,ps,hp,hl,k,hk=>by
  obtain⟨j,rfl⟩:∃j,k=j+1:=⟨k - 1,by simp at hk;omega⟩;have hi:idx (ps++s::ss) (pc.length:Int)=some s:=by rw[hp];exact gV _ _ _
  have ih:=alK n nm cs ss (pc++[c]) (ps++[s]) (by simp[hp]) (by simpa using hl) j (by simp at hk;omega);rw[aaZ];unfold J8;rw[decide_eq_true (by simp;omega)];simp only[cond_true];rw[gV];simp only[qAa];rw[arn c _ _ s hi];simp only[qAa,G9];cases hb:ZX c s with
  |true=>rfl
  |false=>
   simp;rw[show(pc.length:Int)+1=((pc++[c]).length:Int) by simp];simpa using ih
theorem adA env sz:Ev (λn=>zx n env sz) (rP env sz):=by
 unfold zx rP;cases h:((sz.length:Int)!=(env.carriers.length:Int))with
 |true=>exact Ev.ret _|false=>
  simp at h;refine Ev.bind (a:=cond (G9 env.carriers sz) (.nx ()) (.rt false)) ⟨env.carriers.length+1,λn b=>?_⟩ ?_
  ·have:=aq1 n env.names env.carriers sz [] [] rfl (by omega) n b
   simp_all
  cases G9 env.carriers sz<;>exact Ev.ret _
theorem auJ(env:Env)(sz:List Int):Ev (fun n=>TW n env sz) (rP env sz):=by
 unfold TW rP;cases h:((sz.length:Int)!=(env.carriers.length:Int))with
 |true=>exact Ev.ret _
 |false=>
  simp at h;refine Ev.bind (a:=cond (G9 env.carriers sz) (.nx ()) (.rt false)) ⟨env.carriers.length+1,fun n hn=>?_⟩ ?_
  ·have:=alK n env.names env.carriers sz [] [] rfl (by omega) n hn
   simp_all
  ·cases G9 env.carriers sz<;>exact Ev.ret _
inductive Shp:Ty→Prop where
 |int:Shp (.mk 1 [] [])
 |bool:Shp (.mk 2 [] [])
 |car (nm:Str):Shp (.mk 3 nm [])
 |pair {a b:Ty} (h:Shp a) (k:Shp b):Shp (.mk 4 [] [a,b])
 |set {a:Ty} (h:Shp a):Shp (.mk 5 [] [a])
mutual
theorem azC:∀(t:Ty) (d c:Int),(pf t d c).1=true→Shp t
 | .mk k nm ks,d,c,h=>by
  simp only[pf]at h;cases hb:((decide (c+1≤16)&&decide (d≤6))&&iN k nm ks.length d)with
  |false=>rw[hb]at h;cases h
  |true=>
   rw[hb]at h;simp only[cond_true]at h;have hs:=atV ks (d+1) (c+1) h;simp only[iN,qAb,qBm,beq_iff_eq]at hb;obtain⟨_,_,hk,hn⟩:=hb;rcases hk with⟨hk,hl⟩|⟨rfl,hl⟩|⟨rfl,hl⟩
   ·have:ks=[]:=qAI.1 hl;subst this;rcases hk with rfl|rfl|rfl
    ·have:nm=[]:=by simpa using hn
     subst this;exact .int
    ·have:nm=[]:=by simpa using hn
     subst this;exact .bool
    ·exact .car nm
   ·have:nm=[]:=by simpa using hn
    subst this
    match ks,hl with
    |[a,b],_=>exact .pair (hs a (by simp)) (hs b (by simp))
   ·have:nm=[]:=by simpa using hn
    subst this
    match ks,hl with
    |[a],_=>exact .set (hs a (by simp))
theorem atV:∀(ks:List Ty) (d c:Int),(mX ks d c).1=true→∀t∈ks,Shp t
 |[],_,_,_,_,ht=>by cases ht
 |k::ks,d,c,h,t,ht=>by
  simp only[mX]at h;cases h1:(pf k d c).1 with
  |false=>rw[h1]at h;cases h
  |true=>
   rw[h1]at h;simp only[cond_true]at h;rcases qAh.1 ht with h2|ht
   ·have h3:=azC k d c h1;rw[h2];exact h3
   ·exact atV ks d _ h t ht
end
theorem Nb{t}(h:dI t=true):Shp t:=azC t 1 0 h
theorem aqE env s:Ev (λn=>M5 n env s) (gX (λc=>c.name==s) 0 env.carriers):=by refine Ev.bind (tC env.carriers (λn k i=>uV n env.carriers s k i) (λ_ x=>some (x.name==s)) (λc=>c.name==s) (λn k i=>rfl) (λx _=>Ev.ret _)) (Ev.ret _)
theorem atW{e sz nm}(l:sz.length=e.carriers.length)(h:dx e nm=true):0<=gX (λc=>c.name==nm) 0 e.carriers/\idx sz (gX (λc=>c.name==nm) 0 e.carriers)=some (ai5 e sz nm):=by
 have b:=qE (λc:Carrier=>c.name==nm) e.carriers 0 (qBJ _);have a:e.carriers.any (λc=>c.name==nm)=true:=h;rw[a]at b;have i:0<=gX (λc:Carrier=>c.name==nm) 0 e.carriers:=by simpa using b
 rcases Fv (λc:Carrier=>c.name==nm) e.carriers []with⟨x,_,_,f,d⟩|⟨_,g⟩
 ·simp at f d;unfold ai5;unfold idx at d|-
  grind
 grind
theorem apN p2:∀s p x,p2.kids=p++[x]++s->p2.kids.length<=256->∃N,∀n,N<=n->∀k,s.length+1<=k->∀r1 r,DX n r1 r p2 k (p++[x]).length=some (cond (DR (x::s)) (.nx ()) (.rt false))
 |[],p,x,e,h=>by refine⟨0,λn _ k a r1 r=>?_⟩;obtain⟨j,rfl⟩:∃j,k=j+1:=⟨k - 1,by simp at a;omega⟩;rw[Me];unfold Bq;rw[decide_eq_false (by rw[e];simp)];rfl
 |y::s,p,x,e,h=>by
  obtain⟨d,b⟩:=yO x y;obtain⟨f,c⟩:=apN p2 s (p++[x]) y (by rw[e];simp) h;refine⟨d+f,λn m k a r1 r=>?_⟩;obtain⟨j,rfl⟩:∃j,k=j+1:=⟨k - 1,by simp at a;omega⟩;have b:dz n x y=_:=b n (by omega);have c:=c n (by omega) j (by simp at a;omega) r1 r;have l:p.length+1<=256:=by rw[e]at h;simp at h;omega
  have w:IntKind.wrap .i64 (((p++[x]).length:Int) - 1)=(p.length:Int):=by rw[qAf,qAL,wrap64 (by omega) (by omega)];omega
  have i:idx p2.kids (p.length:Int)=some x:=by rw[e,qAm,qCK];exact gV _ _ _
  have g:idx p2.kids ((p++[x]).length:Int)=some y:=by rw[e];exact gV _ _ _
  rw[Me];unfold Bq;rw[decide_eq_true (by rw[e];simp;omega),w,i,g];simp only[cond_true,qAa];rw[b];simp only[qAa,DR];cases decide (0<=bK x y)with|true=>rfl|false=>simp only[cond_false,qBd,qAw];rw[show((p++[x]).length:Int)+1=((p++[x]++[y]).length:Int) by simp only[qAf,qAL];omega];exact c
theorem amx env sz t (H:∀v,Ev (λn=>jL n env sz v t) (hasB env sz t v)):∀(s p),∃N,∀n,N<=n->∀k,s.length+1<=k->zJ n (jL n) (vF n) [t] (p++s) env.carriers env.names sz k p.length=some (cond (s.all λv=>hasB env sz t v) (.nx ()) (.rt false))
 |[],p=>by refine⟨0,λn _ k h=>?_⟩;obtain⟨j,rfl⟩:∃j,k=j+1:=⟨k - 1,by simp at h;omega⟩;rw[Ie];unfold xH;rw[decide_eq_false (by simp)];rfl
 |v::s,p=>by
  obtain⟨c,a⟩:=H v;obtain⟨d,b⟩:=amx env sz t H s (p++[v]);refine⟨c+d,λn e k h=>?_⟩;obtain⟨j,rfl⟩:∃j,k=j+1:=⟨k - 1,by simp at h;omega⟩;have a:jL n env sz v t=_:=a n (by omega);have b:=b n (by omega) j (by simp at h;omega);have i:idx [t] (if(([t].length:Int) - 1)<(p.length:Int)then(([t].length:Int) - 1)else(p.length:Int))=some t:=by
   simp only[qAL];have:(if(((1:Nat):Int) - 1)<(p.length:Int)then(((1:Nat):Int) - 1)else(p.length:Int))=0:=by split<;>omega
   rw[this];rfl
  rw[Ie];unfold xH;rw[decide_eq_true (by simp;omega),gV,i];simp only[cond_true,qAa];rw[show jL n (Env.mk env.carriers env.names) sz v t=jL n env sz v t from rfl,a];simp only[qAa,qBK];cases hasB env sz t v with|false=>rfl|true=>simp only[qAr,cond_false,qAw];rw[show(p.length:Int)+1=((p++[v]).length:Int) by simp];simpa using b
theorem aDN env sz t u a b k n s (d:Ev (λn=>jL n env sz a t) (hasB env sz t a))(e:Ev (λn=>jL n env sz b u) (hasB env sz u b)):Ev (λm=>vF m [t,u] k n s [a,b] env.carriers env.names sz) (VA env sz [t,u] [a,b]):=by
 refine Ev.succ ?_;obtain⟨f,h⟩:=d;obtain⟨g,c⟩:=e;refine⟨f+g+3,λm i=>?_⟩;have h:jL m (Env.mk env.carriers env.names) sz a t=_:=h m (by omega);have c:jL m (Env.mk env.carriers env.names) sz b u=_:=c m (by omega);show uU m _ _ [t,u] k n s [a,b] env.carriers env.names sz=_;unfold uU;obtain⟨j,l⟩:∃j,m=j+3:=⟨m - 3,by omega⟩;have o:zJ m (jL m) (vF m) [t,u] [a,b] env.carriers env.names sz (j+3) 0=some (cond (VA env sz [t,u] [a,b]) (.nx ()) (.rt false)):=by
  have p:idx [t,u] (if(((([t,u]:List Ty)).length:Int) - 1)<0 then((([t,u]:List Ty).length:Int) - 1)else 0)=some t:=rfl;have q:idx [t,u] (if(((([t,u]:List Ty)).length:Int) - 1)<0+1 then((([t,u]:List Ty).length:Int) - 1)else 0+1)=some u:=rfl;simp only[Ie,xH,show idx [a,b] 0=some a from rfl,show idx [a,b] (0+1)=some b from rfl,VA]
  grind
 grind
theorem awY(env:Env)(sz:List Int)(hl:sz.length=env.carriers.length):∀{t:Ty},Shp t→(dK t).all (dx env)=true→∀v,Ev (fun n=>jL n env sz v t) (hasB env sz t v):=by
 intro t h
 induction h with
 |int=>
  intro _ v;refine Ev.succ ?_;show Ev (fun n=>jD n _ _ env sz v (.mk 1 [] [])) _;unfold jD;refine Ev.pos rfl ?_;refine Ev.bind (a:=aaN v) ?_ (Ev.ret _);unfold aaN;cases v.kind==1<;>cases decide ((-1000000000)≤v.n)<;>cases decide (v.n≤1000000000)<;>cases v.name==[]<;>cases(v.kids.length:Int)==0<;>exact Ev.ret _
 |bool=>
  intro _ v;refine Ev.succ ?_;show Ev (fun n=>jD n _ _ env sz v (.mk 2 [] [])) _;unfold jD;refine Ev.neg rfl ?_;refine Ev.pos rfl ?_;refine Ev.bind (a:=aas v) ?_ (Ev.ret _);unfold aas;cases v.kind==2<;>cases v.n==0<;>cases v.n==1<;>cases v.name==[]<;>cases(v.kids.length:Int)==0<;>exact Ev.ret _
 |car nm=>
  intro hc v;have hc:dx env nm=true:=by simpa[dK]using hc
  obtain⟨g1,g2⟩:=atW hl hc;refine Ev.succ ?_;show Ev (fun n=>jD n _ _ env sz v (.mk 3 nm [])) _;unfold jD;refine Ev.neg rfl ?_;refine Ev.neg rfl ?_;refine Ev.pos rfl ?_;refine Ev.bind (aqE env nm) ?_;refine Ev.bind (a:=SX env sz nm v) ?_ (Ev.ret _);simp only[decide_eq_true g1,cond_true,g2,qAa,Ty.name];unfold SX;cases v.kind==3<;>cases v.name==nm<;>cases decide (0≤v.n)<;>cases decide (v.n<ai5 env sz nm)<;>cases(v.kids.length:Int)==0<;>exact Ev.ret _
 |@pair a b ha hb iha ihb=>
  intro hc v;simp only[dK,iL,qAt,show((4:Int)==3)=false from rfl,cond_false,qEf,qAb]at hc;refine Ev.succ ?_;show Ev (fun n=>jD n _ _ env sz v (.mk 4 [] [a,b])) _;unfold jD;refine Ev.neg rfl ?_;refine Ev.neg rfl ?_;refine Ev.neg rfl ?_;refine Ev.pos rfl ?_;refine Ev.bind (a:=hasB env sz (.mk 4 [] [a,b]) v) ?_ (Ev.ret _);simp only[hasB,show((4:Int)==1)=false from rfl,show((4:Int)==2)=false from rfl,show((4:Int)==3)=false from rfl,show((4:Int)==4)=true from rfl,cond_false,cond_true,Ty.kids];cases v.kind==4 with
  |false=>exact Ev.ret _
  |true=>
   cases v.n==0 with
   |false=>exact Ev.ret _
   |true=>
    cases v.name==[]with
    |false=>exact Ev.ret _
    |true=>
     cases h2:(v.kids.length:Int)==2 with
     |false=>exact Ev.ret _
     |true=>
      simp only[cond_true,qAw];obtain⟨k,n,s,ks⟩:=v;simp only[Val.kids,beq_iff_eq]at h2
      match ks,h2 with
      |[x,y],_=>exact Ev.bind (aDN env sz a b x y k n s (iha hc.1 x) (ihb hc.2 y)) (Ev.ret _)
 |@set a ha iha=>
  intro hc v;simp only[dK,iL,qAt,show((5:Int)==3)=false from rfl,cond_false]at hc;have H:=iha hc;refine Ev.succ ?_;show Ev (fun n=>jD n _ _ env sz v (.mk 5 [] [a])) _;unfold jD;refine Ev.neg rfl ?_;refine Ev.neg rfl ?_;refine Ev.neg rfl ?_;refine Ev.neg rfl ?_;refine Ev.pos rfl ?_;simp only[hasB,show((5:Int)==1)=false from rfl,show((5:Int)==2)=false from rfl,show((5:Int)==3)=false from rfl,show((5:Int)==4)=false from rfl,cond_false,Ty.kids];have e1:(v.kind !=5)=!(v.kind==5):=rfl;have e2:(v.n !=0)=!(v.n==0):=rfl;rw[e1,e2];cases v.kind==5 with
  |false=>refine Ev.bind (a:=true) (Ev.ret _) ?_;exact Ev.ret _
  |true=>
   cases v.n==0 with
   |false=>refine Ev.bind (a:=true) (Ev.ret _) ?_;exact Ev.ret _
   |true=>
    cases v.name==[]with
    |false=>refine Ev.bind (a:=true) (Ev.ret _) ?_;exact Ev.ret _
    |true=>
     cases h256:decide (256<(v.kids.length:Int))with
     |true=>refine Ev.bind (a:=true) (Ev.ret _) ?_;exact Ev.ret _
     |false=>
      have hlen:v.kids.length≤256:=by simp at h256;omega
      have hk:Ev (fun n=>vF n [a] v.kind v.n v.name v.kids env.carriers env.names sz) (v.kids.all fun v=>hasB env sz a v):=by
       obtain⟨N,h⟩:=amx env sz a H v.kids [];refine Ev.succ ?_;refine⟨N+v.kids.length+1,fun n hn=>?_⟩;have:=h n (by omega) n (by omega);simp only[qAs,qAC]at this;show uU n _ _ [a] v.kind v.n v.name v.kids env.carriers env.names sz=_;unfold uU;rw[show((0:Nat):Int)=0 from rfl]at this;rw[this];cases(v.kids.all fun v=>hasB env sz a v)<;>rfl
      simp only[qAr,cond_false,qBd,qAw,avb];refine Ev.bind (Ev.bind hk (Ev.ret _)) ?_;cases(v.kids.all fun v=>hasB env sz a v)with
      |false=>exact Ev.ret _
      |true=>
       simp only[qAr,cond_false,qAw];refine Ev.bind (a:=cond (DR v.kids) (.nx ()) (.rt false)) ?_ (by cases DR v.kids<;>exact Ev.ret _);cases hks:v.kids with
       |nil=>
        refine⟨1,fun n hn=>?_⟩;obtain⟨j,rfl⟩:∃j,n=j+1:=⟨n - 1,by omega⟩;show DX (j+1) _ _ v (j+1) 1=_;rw[Me];unfold Bq;rw[decide_eq_false (by rw[hks];simp)];rfl
       |cons x xs=>
        obtain⟨N,h⟩:=apN v xs [] x (by rw[hks];rfl) hlen;refine⟨N+xs.length+1,fun n hn=>?_⟩;have:=h n (by omega) n (by omega) (jL n) (vF n);exact this
theorem atd:∀l:List Val,DR l=true↔l.Pairwise kR
 |[]=>by simp[DR]|[a]=>by simp[DR]|a::b::r=>by
  have i:=atd (b::r);unfold DR;rw[qAb,i,qAS,decide_eq_false_iff_not,Int.not_le];constructor
  ·rintro⟨d,e⟩;refine qBc.2 ⟨λx c=>?_,e⟩;rcases qAh.1 c with rfl|c
   ·exact d
   exact zW _ _ _ d ((qBc.1 e).1 x c)
  intro h;exact⟨(qBc.1 h).1 b (by simp),(qBc.1 h).2⟩
section
variable {env:Env}{sz:List Int}
theorem NP{v}:hasB env sz bY v=true↔∃n,v=R6 n/\Rt n:=by
 obtain⟨k,n,s,a⟩:=v;rw[show hasB env sz bY (.mk k n s a)=aaN (.mk k n s a) by unfold bY hasB;rfl];unfold aaN R6 Rt;simp only[Val.kind,Val.n,Val.name,Val.kids,qAb,beq_iff_eq,Val.mk.injEq];constructor
 ·rintro⟨rfl,rfl,h,b,c⟩;have:a=[]:=qAI.1 (by omega)
  grind
 grind
theorem aer{v}:hasB env sz aK v=true↔∃b,v=bO b:=by
 obtain⟨k,n,s,a⟩:=v;rw[show hasB env sz aK (.mk k n s a)=aas (.mk k n s a) by unfold aK hasB;rfl];unfold aas bO;simp only[Val.kind,Val.n,Val.name,Val.kids];constructor;·simp_all
 grind
theorem Jw{a b v}:hasB env sz (aL a b) v=true↔∃x y,v=dD x y/\hasB env sz a x=true/\hasB env sz b y=true:=by
 obtain⟨k,n,s,d⟩:=v;have e:hasB env sz (aL a b) (.mk k n s d)=(k==4&&(n==0&&(s==[]&&((d.length:Int)==2&&VA env sz [a,b] d)))):=by unfold aL;rw[hasB];rfl
 rw[e];simp;constructor
 ·rintro⟨rfl,rfl,rfl,h,c⟩
  match d,h with
  |[x,y],_=>simp only[VA,qAb,and_true]at c;exact⟨x,y,rfl,c.1,c.2⟩
  |[],h=>simp at h|[x],h=>simp at h|x::y::z::r,h=>simp at h;omega
 rintro⟨x,y,h,c,f⟩;cases h;simp only[VA,c,f];simp
theorem l9{e v}:hasB env sz (aj e) v=true↔∃l,v=mkSet l/\iX l/\∀x∈l,hasB env sz e x=true:=by
 obtain⟨k,n,s,a⟩:=v;have e:hasB env sz (aj e) (.mk k n s a)=((k==5&&(n==0&&(s==[]&&!(decide (256<(a.length:Int))))))&&(a.all (λv=>hasB env sz e v)&&DR a)):=by unfold aj;rw[hasB];simp only[avb];rfl
 rw[e];simp only[qAb,beq_iff_eq,qAS,decide_eq_false_iff_not,atd,qAJ];constructor;·rintro⟨⟨rfl,rfl,rfl,h⟩,b,c⟩;exact⟨a,rfl,⟨c,by omega⟩,b⟩
 rintro⟨l,h,b,c⟩;cases h;exact⟨⟨rfl,rfl,rfl,by have:=b.2;omega⟩,c,b.1⟩
theorem U6{l v}(h:pG l=.ok v):v=OX l/\(sortV l).length<=256:=by
 unfold pG at h
 grind
theorem lD{e l v}(h:pG l=.ok v)(a:∀x∈l,hasB env sz e x=true):hasB env sz (aj e) v=true:=by obtain⟨rfl,b⟩:=U6 h;exact l9.2 ⟨_,rfl,⟨iR l,b⟩,λx c=>a x ((eG l x).1 c)⟩
theorem aE2{n v}(h:xL n=.ok v):v=R6 n/\Rt n:=by
 unfold xL avZ at h;cases a:decide (1000000000<n)with|true=>rw[a]at h;cases h|false=>
  cases b:decide (n< -1000000000)with|true=>rw[a,b]at h;cases h|false=>rw[a,b]at h;cases h;have:=of_decide_eq_false a;have:=of_decide_eq_false b;exact⟨rfl,by omega,by omega⟩
theorem FN{n v}(h:xL n=.ok v):hasB env sz bY v=true:=by obtain⟨rfl,a⟩:=aE2 h;exact NP.2 ⟨_,rfl,a⟩
theorem kI{b v}(h:(.ok (bO b):VR)=.ok v):hasB env sz aK v=true:=by cases h;exact aer.2 ⟨b,rfl⟩
theorem then_ok{β b}{r:RR β}{f}{v:b}(h:r.thn f=.ok v):∃a,r=.ok a/\f a=.ok v:=by
 cases r with|ok a=>exact⟨a,rfl,h⟩|er e=>cases h
theorem seq_ok{α:Type} f:∀(xs:List α) ys,eY (xs.map f)=.ok ys->ys.length=xs.length/\∀p∈xs.zip ys,f p.1=.ok p.2
 |[],ys,h=>by cases h;simp|x::xs,ys,h=>by
  rw[qAz]at h;cases a:f x with
  |er e=>rw[a]at h;cases h|ok v=>
   rw[a]at h;unfold eY at h;cases r:eY (xs.map f)with|er e=>rw[r]at h;cases h|ok l=>
    rw[r]at h;cases h;obtain⟨b,d⟩:=seq_ok f xs l r;refine⟨by simp[b],λp c=>?_⟩;rw[List.zip_cons_cons]at c
    grind
theorem seq1{r}{f:List Val->VR}{v}(h:(eY [r]).thn f=.ok v):∃a,r=.ok a/\f [a]=.ok v:=by
 cases r with|ok a=>exact⟨a,rfl,h⟩|er e=>cases h
theorem seq2{r s}{f:List Val->VR}{v}(h:(eY [r,s]).thn f=.ok v):∃a b,r=.ok a/\s=.ok b/\f [a,b]=.ok v:=by
 cases r with
 |ok a=>
  cases s with|ok b=>exact⟨a,b,rfl,rfl,h⟩|er e=>cases h
 |er e=>cases h
theorem ad9{l r}(h:r∈vM l):r.Sublist l:=by
 have k:∀(q p:List Val) (o:List (List Val)),(∀r∈o,r.Sublist p)->∀r∈q.foldl (λout x=>out++out.map λr=>r++[x]) o,r.Sublist (p++q):=by
  intro q
  induction q with|nil=>intro p o h r a;rw[qAt];exact h r a|cons y q i=>
   intro p o h r a;have:=i (p++[y]) (o++o.map λr=>r++[y]) (λr a=>by
    rcases qAn.1 a with a|a
    ·grind
    obtain⟨z,b,rfl⟩:=qAA.1 a;exact(h z b).append (List.Sublist.refl _)) r a
   grind
 exact k l [] [[]] (λr a=>by simp at a;subst a;exact List.Sublist.refl _) r h
theorem aeg{op a b d}(j:1<=d)(k:op=41->b.length<=d):∀(xs l:List Val) (x:Val),x∈lW op a b xs l->∃m,x=OX m/\(∀p∈m,p∈l∨∃u∈xs,∃v∈b,p=dD u v)/\m.length<=l.length+d*xs.length/\Ab op a b m=true
 |[],l,x,h=>by
  unfold lW at h
  grind
 |y::xs,l,x,h=>by
  have n:=aeg (a:=a) j k xs;unfold lW at h;have o:∀(q:List Val),(∀p∈q,∃v∈b,p=dD y v)->q.length<=d->x∈lW op a b xs (l++q)->∃m,x=OX m/\(∀p∈m,p∈l∨∃u∈y::xs,∃v∈b,p=dD u v)/\m.length<=l.length+d*(y::xs).length/\Ab op a b m=true:=by
   intro q w z g;obtain⟨m,e,A,r,s⟩:=n (l++q) x g;refine⟨m,e,λp t=>?_,?_,s⟩;·grind
   simp at r|-
   grind
  cases c:(op==41)with
  |true=>
   rw[c]at h;obtain⟨B,i,g⟩:=qBp.1 h;have C:=ad9 i;refine o _ (λp t=>?_) ?_ g;·grind
   grind
  |false=>
   rw[c]at h;rcases qAn.1 h with h|h
   ·cases f:(op==42)with|false=>rw[f]at h;cases h|true=>rw[f]at h;exact o [] (by simp) (by simp) (by simpa using h)
   obtain⟨v,D,g⟩:=qBp.1 h
   grind
theorem apM:∀k a x,x∈ints a k->∃i,x=R6 i/\a<=i/\i<a+k
 |0,_,_,h=>by cases h|k+1,a,x,h=>by
  rcases qAh.1 h with rfl|h
  ·grind
  obtain⟨i,e,b,c⟩:=apM k (a+1) x h
  grind
theorem FR{a b p}(h:hasB env sz (aL a b) p=true):hasB env sz a (bL p)=true/\hasB env sz b (dP p)=true:=by obtain⟨x,y,rfl,c,d⟩:=Jw.1 h;exact⟨c,d⟩
theorem Jq{a b x y}(h:hasB env sz a x=true)(k:hasB env sz b y=true):hasB env sz (aL a b) (dD x y)=true:=Jw.2 ⟨x,y,rfl,h,k⟩
theorem aC9{op}(D:op=41∨op=42∨op=43∨op=44∨op=45){s t a b}(q:iX a)(E:iX b)(r:∀x∈a,hasB env sz s x=true)(w:∀x∈b,hasB env sz t x=true){l}(h:JQ op a b=.ok l):
  ∀x∈l,hasB env sz (aj (aL s t)) x=true:=by
 unfold JQ at h;cases e:zi op a.length b.length with
 |true=>rw[e]at h;cases h;intro x f;cases f|false=>
  cases g:wK op b.length a.length 0 1 with
  |true=>rw[e,g]at h;cases h|false=>
   rw[e,g]at h;cases h;intro x f;obtain⟨d,i,j,y⟩:∃d,1<=d/\(op=41->b.length<=d)/\d*a.length<=256:=by
    have:=q.2;by_cases c:op=41
    ·subst c;have z:=aeT (.inl rfl) a.length 0 1 (by show 2^b.length≠0;have:=qDi (n:=b.length);omega) (by omega) g;rw[show Bu 41 b.length=2^b.length from rfl,qCk,<-Nat.pow_mul]at z;have k:b.length*a.length<=8:=by
      rcases qDz 8 (b.length*a.length)with h|h
      ·have:=Nat.pow_lt_pow_right (a:=2) (by omega) h;omega
      exact h
     refine⟨b.length+1,by omega,λ_=>by omega,?_⟩;rw[qAV,qCk];rcases qDh a.length with h|h
     ·grind
     rcases qDh b.length with o|o
     ·grind
     have:1*a.length<=b.length*a.length:=qAQ _ o;omega
    exact⟨1,by omega,λh=>absurd h c,by omega⟩
   obtain⟨m,rfl,k,F,_⟩:=aeg i j a [] x f;refine l9.2 ⟨_,rfl,⟨iR _,?_⟩,λp A=>?_⟩
   ·have:=lK m
    grind
   rcases k p ((eG m p).1 A)with h|⟨u,B,v,C,rfl⟩
   ·cases h
   exact Jq (r u B) (w v C)
inductive Scp(env:Env)(sz:List Int):List Decl→List Bound→Prop
 |nil:Scp env sz [] []
 |cons {nm:Str} {t:Ty} {v:Val} {sc:List Decl} {bs:List Bound} (h:hasB env sz t v=true) (k:Scp env sz sc bs):Scp env sz (⟨nm,t⟩::sc) (⟨nm,v⟩::bs)
def GOk(env)sz(g:Str->Val):=∀s t,look env s=some t->hasB env sz t (g s)=true
theorem aBb{g}(d:GOk env sz g){c}{b}(h:Scp env sz c b) s t (a:rT env c s=some t):hasB env sz t (agJ g b s)=true:=by
 unfold rT at a;unfold agJ
 induction h with|nil=>exact d s t a|cons h k i=>grind
end
theorem mem2{P:Tm->Prop}{x y}(h:∀t∈[x,y],P t):P x/\P y:=by grind
set_option maxHeartbeats 4000000 in
theorem sound{env}{sz}{g:Str->Val}(hg:GOk env sz g):∀t:Tm,∀(sc:List Decl) (ty:Ty) (c:List Bound) (v:Val),HT env sc t ty->Scp env sz sc c->aF g t c=.ok v->hasB env sz ty v=true:=
 Tm.ind λop nm m u ks J sc ty c v ht B h=>by
 rw[l8]at h;have S:∀{e:Ty} {w:Val},hasB env sz (aj e) w=true->iX w.kids/\∀x∈w.kids,hasB env sz e x=true:=λhw=>by obtain⟨l,rfl,n,A⟩:=l9.1 hw;exact⟨n,A⟩
 cases ht with
 |lit op H=>rcases H with rfl|rfl<;>exact kI h
 |int _=>exact FN h|name E=>cases h;exact aBb hg B _ _ E|empty _=>cases h;exact l9.2 ⟨[],rfl,⟨.nil,by simp⟩,λx o=>by cases o⟩|not _=>obtain⟨a,_,h⟩:=seq1 (r:=aF g _ c) (f:=gW 3) h;exact kI h|log op H o C=>
  rename_i x y;obtain⟨F,G⟩:=mem2 J;rcases H with rfl|rfl|rfl|rfl
  ·obtain⟨p,_,h⟩:=then_ok (r:=aF g x c) h;cases D:(p.n==1)with|false=>rw[D]at h;exact kI h|true=>rw[D]at h;exact G sc aK c v C B h
  ·obtain⟨p,_,h⟩:=then_ok (r:=aF g x c) h;cases D:(p.n==1)with
   |true=>rw[D]at h;exact kI h
   |false=>rw[D]at h;exact G sc aK c v C B h
  ·obtain⟨p,_,h⟩:=then_ok (r:=aF g x c) h;cases D:(p.n==1)with
   |false=>rw[D]at h;exact kI h
   |true=>rw[D]at h;exact G sc aK c v C B h
  obtain⟨a,b,_,_,h⟩:=seq2 (r:=aF g x c) (s:=aF g y c) (f:=gW 7) h;exact kI h
 |qu op H o C=>
  rename_i x y e;rcases H with rfl|rfl
  ·obtain⟨s,_,h⟩:=then_ok (r:=aF g x c) h;obtain⟨ys,_,h⟩:=then_ok (r:=jo (aF g y) nm c s.kids) h;exact kI h
  obtain⟨s,_,h⟩:=then_ok (r:=aF g x c) h;obtain⟨ys,_,h⟩:=then_ok (r:=jo (aF g y) nm c s.kids) h;exact kI h
 |compr o C=>
  rename_i x y e;obtain⟨F,G⟩:=mem2 J;obtain⟨s,n,h⟩:=then_ok (r:=aF g x c) h;obtain⟨ys,A,h⟩:=then_ok (r:=jo (aF g y) nm c s.kids) h;obtain⟨_,hs2⟩:=S (F sc _ c s o B n);refine lD (l:=(s.kids.zip ys).flatMap λ(p:Val×Val)=>cond (p.2.n==1) [p.1] []) h λz d=>?_;obtain⟨p,D,d⟩:=qBp.1 d;have hm:=hs2 p.1 (qCY (show(p.1,p.2)∈s.kids.zip ys from D)).1;cases I:(p.2.n==1)with
  |false=>rw[I]at d;cases d
  |true=>
   rw[I]at d;have:z=p.1:=by simpa using d
   rw[this];exact hm
 |fn hgt o C=>
  rename_i x y e t;obtain⟨F,G⟩:=mem2 J;obtain⟨s,n,h⟩:=then_ok (r:=aF g x c) h;obtain⟨ys,A,h⟩:=then_ok (r:=jo (aF g y) nm c s.kids) h;obtain⟨_,hs2⟩:=S (F sc _ c s o B n);refine lD (l:=(s.kids.zip ys).flatMap λ(p:Val×Val)=>[dD p.1 p.2]) h λz d=>?_;obtain⟨p,D,d⟩:=qBp.1 d;have hm:=hs2 p.1 (qCY (show(p.1,p.2)∈s.kids.zip ys from D)).1;have hv:=(seq_ok (λx=>aF g y (⟨nm,x⟩::c)) s.kids ys A).2 p D;have:z=dD p.1 p.2:=by simpa using d
  rw[this];exact Jq hm (G _ _ _ _ C (.cons hm B) hv)
 |eq op H hgt o C=>
  rename_i x y t;rcases H with rfl|rfl
  ·obtain⟨a,b,_,_,h⟩:=seq2 (r:=aF g x c) (s:=aF g y c) (f:=gW 10) h;exact kI h
  obtain⟨a,b,_,_,h⟩:=seq2 (r:=aF g x c) (s:=aF g y c) (f:=gW 11) h;exact kI h
 |ord op H o C=>
  rename_i x y;rcases H with rfl|rfl|rfl|rfl
  ·obtain⟨a,b,_,_,h⟩:=seq2 (r:=aF g x c) (s:=aF g y c) (f:=gW 12) h;exact kI h
  ·obtain⟨a,b,_,_,h⟩:=seq2 (r:=aF g x c) (s:=aF g y c) (f:=gW 13) h;exact kI h
  ·obtain⟨a,b,_,_,h⟩:=seq2 (r:=aF g x c) (s:=aF g y c) (f:=gW 14) h;exact kI h
  obtain⟨a,b,_,_,h⟩:=seq2 (r:=aF g x c) (s:=aF g y c) (f:=gW 15) h;exact kI h
 |inn op H o C=>
  rename_i x y t;rcases H with rfl|rfl
  ·obtain⟨a,_,h⟩:=then_ok (r:=aF g x c) h;obtain⟨l,_,h⟩:=then_ok (r:=Ec (uH g y) c) h;exact kI h
  obtain⟨a,_,h⟩:=then_ok (r:=aF g x c) h;obtain⟨l,_,h⟩:=then_ok (r:=Ec (uH g y) c) h;exact kI h
 |sub o C=>
  rename_i x y t;obtain⟨a,_,h⟩:=then_ok (r:=aF g x c) h;obtain⟨l,_,h⟩:=then_ok (r:=Ec (uH g y) c) h;exact kI h
 |neg o=>obtain⟨a,_,h⟩:=seq1 (r:=aF g _ c) (f:=gW 21) h;exact FN h
 |num op H o C=>
  rename_i x y;rcases H with rfl|rfl|rfl|rfl|rfl
  ·obtain⟨a,b,_,_,h⟩:=seq2 (r:=aF g x c) (s:=aF g y c) (f:=gW 22) h;exact FN h
  ·obtain⟨a,b,_,_,h⟩:=seq2 (r:=aF g x c) (s:=aF g y c) (f:=gW 23) h;exact FN h
  ·obtain⟨a,b,_,_,h⟩:=seq2 (r:=aF g x c) (s:=aF g y c) (f:=gW 24) h;exact FN h
  ·obtain⟨a,b,_,_,h⟩:=seq2 (r:=aF g x c) (s:=aF g y c) (f:=gW 25) h;have h:cond (b.n==0) (.er 10) (xL (Int.tdiv a.n b.n))=(.ok v:VR):=h;cases I:(b.n==0)with
   |true=>rw[I]at h;cases h
   |false=>rw[I]at h;exact FN h
  obtain⟨a,b,_,_,h⟩:=seq2 (r:=aF g x c) (s:=aF g y c) (f:=gW 26) h;have h:cond (decide (a.n<0) ||decide (b.n<1)) (.er 10) (xL (Int.tmod a.n b.n))=(.ok v:VR):=h;cases I:(decide (a.n<0) ||decide (b.n<1))with
  |true=>rw[I]at h;cases h
  |false=>rw[I]at h;exact FN h
 |pair ha I o C=>
  rename_i x y a b;obtain⟨F,G⟩:=mem2 J;obtain⟨a,b,n,A,h⟩:=seq2 (r:=aF g x c) (s:=aF g y c) (f:=gW 27) h;cases h;exact Jq (F _ _ _ _ o B n) (G _ _ _ _ C B A)
 |set ha hn hk=>
  rename_i a;have h:(eY ((ks.map (uH g)).map λk=>k.f c)).thn pG=(.ok v:VR):=h;obtain⟨l,E,h⟩:=then_ok h;rw[qBl]at E;obtain⟨n,A⟩:=seq_ok (λt=>aF g t c) ks l E;refine lD h λz d=>?_;obtain⟨i,hi,rfl⟩:=qBz d;have D:(ks[i]'(by omega),l[i])∈ks.zip l:=by
   rw[qBG];exact⟨i,by simp;omega,by simp⟩
  exact J _ (qAN _) _ _ _ _ (hk _ (qAN _)) B (A _ D)
 |range o C=>
  rename_i x y;obtain⟨F,G⟩:=mem2 J;obtain⟨a,b,n,A,h⟩:=seq2 (r:=aF g x c) (s:=aF g y c) (f:=gW 30) h;obtain⟨i,rfl,hi⟩:=NP.1 (F _ _ _ _ o B n);obtain⟨j,rfl,hj⟩:=NP.1 (G _ _ _ _ C B A);obtain⟨l,E,h⟩:=then_ok (r:=Hr 30 (R6 i) (R6 j)) (f:=pG) h;have E:cond (decide (256<=j - i)) (.er 11) (.ok (ints i (j+1 - i).toNat))=(.ok l:UM):=E;cases I:decide (256<=j - i)with
  |true=>rw[I]at E;cases E
  |false=>
   rw[I]at E;cases E;refine lD h λz d=>?_;obtain⟨k,rfl,h3,h4⟩:=apM _ _ _ d;have:=hi.1;have:=hj.2;exact NP.2 ⟨k,rfl,by omega,by omega⟩
 |bin op H o C=>
  rename_i x y e;obtain⟨F,G⟩:=mem2 J;have fin:∀(a b:Val),aF g x c=.ok a->aF g y c=.ok b->∀l:List Val,(∀z∈l,z∈a.kids∨z∈b.kids)->pG l=.ok v->hasB env sz (aj e) v=true:=λa b n A l E I=>
   lD I λz d=>(E z d).elim ((S (F _ _ _ _ o B n)).2 z) ((S (G _ _ _ _ C B A)).2 z)
  rcases H with rfl|rfl|rfl
  ·obtain⟨a,b,n,A,h⟩:=seq2 (r:=aF g x c) (s:=aF g y c) (f:=gW 31) h;exact fin a b n A _ (λz d=>qAn.1 d) h
  ·obtain⟨a,b,n,A,h⟩:=seq2 (r:=aF g x c) (s:=aF g y c) (f:=gW 32) h;exact fin a b n A _ (λz d=>.inl (qAY.1 d).1) h
  obtain⟨a,b,n,A,h⟩:=seq2 (r:=aF g x c) (s:=aF g y c) (f:=gW 33) h;exact fin a b n A _ (λz d=>.inl (qAY.1 d).1) h
 |prod o C=>
  rename_i x y s t;obtain⟨F,G⟩:=mem2 J;obtain⟨a,b,n,A,h⟩:=seq2 (r:=aF g x c) (s:=aF g y c) (f:=gW 34) h;obtain⟨l,E,h⟩:=then_ok (r:=Hr 34 a b) (f:=pG) h;have E:cond (decide (256<(a.kids.length:Int)*b.kids.length)) (.er 11) (.ok (a.kids.flatMap λx=>b.kids.map (dD x)))=(.ok l:UM):=E;cases I:decide (256<(a.kids.length:Int)*b.kids.length)with
  |true=>rw[I]at E;cases E
  |false=>
   rw[I]at E;cases E;refine lD h λz d=>?_;obtain⟨p,D,d⟩:=qBp.1 d;obtain⟨q,hq,rfl⟩:=qAA.1 d;exact Jq ((S (F _ _ _ _ o B n)).2 p D) ((S (G _ _ _ _ C B A)).2 q hq)
 |over o C=>
  rename_i x y s t;obtain⟨F,G⟩:=mem2 J;obtain⟨a,b,n,A,h⟩:=seq2 (r:=aF g x c) (s:=aF g y c) (f:=gW 35) h;refine lD (l:=a.kids.filter (λp=>!bf (nQ b.kids) (bL p))++b.kids) h λz d=>?_;rcases qAn.1 d with d|d
  ·exact(S (F _ _ _ _ o B n)).2 z (qAY.1 d).1
  exact(S (G _ _ _ _ C B A)).2 z d
 |comp o C=>
  rename_i x y s t r;obtain⟨F,G⟩:=mem2 J;obtain⟨a,b,n,A,h⟩:=seq2 (r:=aF g x c) (s:=aF g y c) (f:=gW 36) h;refine lD (l:=a.kids.flatMap λp=>b.kids.flatMap λq=>cond (oP (dP p) (bL q)) [dD (bL p) (dP q)] []) h λz d=>?_;obtain⟨p,D,d⟩:=qBp.1 d;obtain⟨q,hq,d⟩:=qBp.1 d;have D:=FR ((S (F _ _ _ _ o B n)).2 p D);have hq:=FR ((S (G _ _ _ _ C B A)).2 q hq);cases I:oP (dP p) (bL q)with
  |false=>rw[I]at d;cases d
  |true=>
   rw[I]at d;have:z=dD (bL p) (dP q):=by simpa using d
   rw[this];exact Jq D.1 hq.2
 |dres op H o C=>
  rename_i x y s t;obtain⟨F,G⟩:=mem2 J;rcases H with rfl|rfl
  ·obtain⟨a,b,n,A,h⟩:=seq2 (r:=aF g x c) (s:=aF g y c) (f:=gW 37) h;exact lD (l:=b.kids.filter _) h λz d=>(S (G _ _ _ _ C B A)).2 z (qAY.1 d).1
  obtain⟨a,b,n,A,h⟩:=seq2 (r:=aF g x c) (s:=aF g y c) (f:=gW 38) h;exact lD (l:=b.kids.filter _) h λz d=>(S (G _ _ _ _ C B A)).2 z (qAY.1 d).1
 |rres op H o C=>
  rename_i x y s t;obtain⟨F,G⟩:=mem2 J;rcases H with rfl|rfl
  ·obtain⟨a,b,n,A,h⟩:=seq2 (r:=aF g x c) (s:=aF g y c) (f:=gW 39) h;exact lD (l:=a.kids.filter _) h λz d=>(S (F _ _ _ _ o B n)).2 z (qAY.1 d).1
  obtain⟨a,b,n,A,h⟩:=seq2 (r:=aF g x c) (s:=aF g y c) (f:=gW 40) h;exact lD (l:=a.kids.filter _) h λz d=>(S (F _ _ _ _ o B n)).2 z (qAY.1 d).1
 |fam op H o C=>
  rename_i x y s t;obtain⟨F,G⟩:=mem2 J;have fin:∀(a b:Val),aF g x c=.ok a->aF g y c=.ok b->(JQ op a.kids b.kids).thn pG=.ok v->hasB env sz (aj (aj (aL s t))) v=true:=λa b n A h=>by
   obtain⟨l,E,h⟩:=then_ok h;obtain⟨a1,a2⟩:=S (F _ _ _ _ o B n);obtain⟨b1,b2⟩:=S (G _ _ _ _ C B A);exact lD h (aC9 H a1 b1 a2 b2 E)
  rcases H with rfl|rfl|rfl|rfl|rfl
  ·obtain⟨a,b,n,A,h⟩:=seq2 (r:=aF g x c) (s:=aF g y c) (f:=gW 41) h;exact fin a b n A h
  ·obtain⟨a,b,n,A,h⟩:=seq2 (r:=aF g x c) (s:=aF g y c) (f:=gW 42) h;exact fin a b n A h
  ·obtain⟨a,b,n,A,h⟩:=seq2 (r:=aF g x c) (s:=aF g y c) (f:=gW 43) h;exact fin a b n A h
  ·obtain⟨a,b,n,A,h⟩:=seq2 (r:=aF g x c) (s:=aF g y c) (f:=gW 44) h;exact fin a b n A h
  obtain⟨a,b,n,A,h⟩:=seq2 (r:=aF g x c) (s:=aF g y c) (f:=gW 45) h;exact fin a b n A h
 |pow o=>
  rename_i x e;obtain⟨a,n,h⟩:=seq1 (r:=aF g x c) (f:=gW 46) h;obtain⟨a1,a2⟩:=S (J x (by simp) _ _ _ _ o B n);obtain⟨l,E,h⟩:=then_ok (r:=Hr 46 a v0) (f:=pG) h;have E:cond (decide (8<(a.kids.length:Int))) (.er 11) (.ok ((vM a.kids).map mkSet))=(.ok l:UM):=E;cases I:decide (8<(a.kids.length:Int))with
  |true=>rw[I]at E;cases E
  |false=>
   rw[I]at E;cases E;refine lD h λz d=>?_;obtain⟨r,hr,rfl⟩:=qAA.1 d;have hr:=ad9 hr;exact l9.2 ⟨r,rfl,⟨a1.1.sublist hr,qAu hr.length_le a1.2⟩,λz d=>a2 z (hr.subset d)⟩
 |card o=>obtain⟨a,_,h⟩:=seq1 (r:=aF g _ c) (f:=gW 47) h;exact FN h
 |ext op H o=>
  rename_i x;rcases H with rfl|rfl
  ·obtain⟨a,n,h⟩:=seq1 (r:=aF g x c) (f:=gW 48) h;obtain⟨a1,a2⟩:=S (J x (by simp) _ _ _ _ o B n);have h:(match a.kids with|[]=>(.er 10:VR)|x::_=>.ok x)=(.ok v:VR):=h;cases hk:a.kids with
   |nil=>rw[hk]at h;cases h
   |cons z l=>rw[hk]at h;cases h;exact a2 _ (by rw[hk];simp)
  obtain⟨a,n,h⟩:=seq1 (r:=aF g x c) (f:=gW 49) h;obtain⟨a1,a2⟩:=S (J x (by simp) _ _ _ _ o B n);have h:(match a.kids.getLast? with|none=>(.er 10:VR)|some x=>.ok x)=(.ok v:VR):=h;cases hk:a.kids.getLast? with
  |none=>rw[hk]at h;cases h
  |some z=>rw[hk]at h;cases h;exact a2 _ (qDQ hk)
 |dom o=>
  rename_i x s t;obtain⟨a,n,h⟩:=seq1 (r:=aF g x c) (f:=gW 50) h;obtain⟨a1,a2⟩:=S (J x (by simp) _ _ _ _ o B n);refine lD (l:=nQ a.kids) h λz d=>?_;obtain⟨p,D,rfl⟩:=qAA.1 ((eG _ _).1 d);exact(FR (a2 p D)).1
 |ran o=>
  rename_i x s t;obtain⟨a,n,h⟩:=seq1 (r:=aF g x c) (f:=gW 51) h;obtain⟨a1,a2⟩:=S (J x (by simp) _ _ _ _ o B n);refine lD (l:=qH a.kids) h λz d=>?_;obtain⟨p,D,rfl⟩:=qAA.1 ((eG _ _).1 d);exact(FR (a2 p D)).2
 |inv o=>
  rename_i x s t;obtain⟨a,n,h⟩:=seq1 (r:=aF g x c) (f:=gW 52) h;obtain⟨a1,a2⟩:=S (J x (by simp) _ _ _ _ o B n);refine lD (l:=a.kids.map λp=>dD (dP p) (bL p)) h λz d=>?_;obtain⟨p,D,rfl⟩:=qAA.1 d;exact Jq (FR (a2 p D)).2 (FR (a2 p D)).1
 |image o C=>
  rename_i x y s t;obtain⟨F,G⟩:=mem2 J;obtain⟨a,b,n,A,h⟩:=seq2 (r:=aF g x c) (s:=aF g y c) (f:=gW 53) h;refine lD (l:=qH (a.kids.filter λp=>bf b.kids (bL p))) h λz d=>?_;obtain⟨p,D,rfl⟩:=qAA.1 ((eG _ _).1 d);exact(FR ((S (F _ _ _ _ o B n)).2 p (qAY.1 D).1)).2
 |app o C=>
  rename_i x y s;obtain⟨F,G⟩:=mem2 J;obtain⟨a,b,n,A,h⟩:=seq2 (r:=aF g x c) (s:=aF g y c) (f:=gW 54) h;have h:ajA a b=(.ok v:VR):=h;unfold ajA at h;have hsub:∀p∈a.kids.filter (λp=>oP (bL p) b),p∈a.kids:=λp D=>(qAY.1 D).1
  match a.kids.filter (λp=>oP (bL p) b),hsub,h with
  |[p],hsub,h=>cases h;exact(FR ((S (F _ _ _ _ o B n)).2 p (hsub p (by simp)))).2
  |[],_,h=>cases h
  |p::q::r,_,h=>cases h
end
section
open Go
def dF{α β:Type}(J:β->α)(f:Nat->Option (PZ α (List Bound)))(b:List Bound):RR β->Prop| .ok v=>Ev f (.ok (J v))| .er e=>(e=10∨e=11)/\∃z,Ev f (.er e (b++z))
theorem dF.bind{α β j δ}{J}{K}{f}{b}{r}{g:α->Nat->Option (PZ δ (List Bound))}{k:β->RR j}(a:dF J f b r)(h2:∀v,r=.ok v->dF K (g (J v)) b (k v)):
  dF K (λn=>(f n).bind (PZ.el (λx=>g x n) (λe z=>some (.er e z)))) b (r.thn k):=by
 cases r with|er e=>obtain⟨c,z,d⟩:=a;exact⟨c,z,Ev.bind d (Ev.ret _)⟩|ok v=>
  have h:=h2 v rfl;show dF K _ b (k v);cases i:k v with|ok w=>rw[i]at h;exact Ev.bind a h|er e=>rw[i]at h;obtain⟨c,z,d⟩:=h;exact⟨c,z,Ev.bind a d⟩
theorem dF.mono{α β}{J}{f g:Nat->Option (PZ α (List Bound))}{b}{r:RR β}(h:∀v,Ev f v->Ev g v)(a:dF J f b r):dF J g b r:=by
 cases r with|ok v=>exact h _ a|er e=>obtain⟨c,z,d⟩:=a;exact⟨c,z,h _ d⟩
theorem dF.succ{α β J}{f:Nat->Option (PZ α (List Bound))}{b}{r:RR β}(h:dF J (λn=>f (n+1)) b r):dF J f b r:=dF.mono (λ_=>Ev.succ) h
abbrev vb(b:List Bound)(v:Val):=(v,b)
theorem dF.same{f}{b}{r:VR}(h:dF (vb b) f b r):dF (vb b) (λn=>(f n).bind (PZ.el (λx=>some (.ok (x.1,x.2))) (λe z=>some (.er e z)))) b r:=by
 cases r with|ok v=>exact Ev.bind h (Ev.ret _)|er e=>obtain⟨a,z,c⟩:=h;exact⟨a,z,Ev.bind c (Ev.ret _)⟩
def Er{β:Type}(r:RR β):=∀e,r=.er e->e=10∨e=11
theorem Er.ok{β}(v:β):Er (.ok v):=λe h=>by cases h
theorem Er.e10{β}:Er (.er 10:RR β):=λe h=>by cases h;exact .inl rfl
theorem Er.e11{β}:Er (.er 11:RR β):=λe h=>by cases h;exact .inr rfl
theorem Er.cnd{β b}{x y:RR β}(h:Er x)(h2:Er y):Er (cond b x y):=by grind
theorem dF.pure{f}{r}{b}(h:Ev f (pz r))(a:Er r):dF (vb b) (λn=>(f n).bind (PZ.el (λx=>some (.ok (x,b))) (λe _=>some (.er e b)))) b r:=by
 cases r with|ok v=>exact Ev.bind h (Ev.ret _)|er e=>exact⟨a e rfl,[],Ev.bind h (by rw[qAt];exact Ev.ret _)⟩
theorem Er.int n:Er (xL n):=Er.cnd Er.e11 (Er.ok _)
theorem Er.bnd l:Er (pG l):=Er.cnd Er.e11 (Er.ok _)
theorem Er.apply op a b:Er (Ea op a b):=by
 have c:Er (ajA a b):=by
  unfold ajA;split;·exact Er.ok _
  exact Er.e10
 have d:Er (match a.kids with|[]=>(.er 10:VR)|x::_=>.ok x):=by split;exact Er.e10;exact Er.ok _
 have f:Er (match a.kids.getLast? with|none=>(.er 10:VR)|some x=>.ok x):=by split;exact Er.e10;exact Er.ok _
 have r:Er (aqi op a.n b.n):=Er.cnd (Er.int _) (Er.cnd (Er.int _) (Er.cnd (Er.int _) (Er.cnd (Er.int _) (Er.cnd (Er.cnd Er.e10 (Er.int _)) (Er.cnd Er.e10 (Er.int _))))));have s:Er (Hr op a b):=by have o:=λl=>Er.ok (β:=List Val) l;have g:Er (JQ op a.kids b.kids):=Er.cnd (o _) (Er.cnd Er.e11 (o _));exact Er.cnd (Er.cnd Er.e11 (o _)) (Er.cnd (o _) (Er.cnd (o _) (Er.cnd (o _) (Er.cnd (Er.cnd Er.e11 (o _)) (Er.cnd (o _) (Er.cnd (o _) (Er.cnd (o _) (Er.cnd (o _) (Er.cnd (o _) (Er.cnd (o _) (Er.cnd (Er.cnd Er.e11 (o _)) (Er.cnd (o _) (Er.cnd (o _) (Er.cnd (o _) (Er.cnd (o _) g)))))))))))))))
 have t:Er ((Hr op a b).thn pG):=by
  cases q:Hr op a b with|ok l=>exact Er.bnd l|er e=>exact λe' h=>by cases h;exact s e q
 have o:=λv=>Er.ok (β:=Val) v;exact Er.cnd (o _) (Er.cnd (o _) (Er.cnd (o _) (Er.cnd (o _) (Er.cnd (o _) (Er.cnd (o _) (Er.cnd (o _) (Er.cnd (o _) (Er.cnd (o _) (Er.cnd c (Er.cnd r (Er.cnd (Er.int _) (Er.cnd d (Er.cnd f t)))))))))))))
section
variable {cs:List Carrier}{ds:List Decl}{sz:List Int}{m:List (Str×Val)}{g:Str→Val}
def lX cs ds sz m g t bs:=dF (vb bs.reverse) (λn=>aI n cs ds sz m bs.reverse t) bs.reverse (aF g t bs)
theorem afe{op nm k u x y b}(o:op=4∨op=5∨op=6)(a:lX cs ds sz m g x b)(c:lX cs ds sz m g y b):
  dF (vb b.reverse) (λn=>bU n cs ds sz m b.reverse (.mk op nm k u [x,y])) b.reverse (aF g (.mk op nm k u [x,y]) b):=by
 rw[l8];refine dF.succ ?_;show dF _ (λn=>rJ n _ _ _ _ _ (aI n) _ _ _ _ _ _ _) _ _;unfold rJ;have e:Z0 g op nm k ([x,y].map (uH g)) b=(aF g x b).thn λp=>cond (op==4&&!(p.n==1)) (.ok (bO false)) (cond ((op==5&&p.n==1) ||(op==6&&!(p.n==1))) (.ok (bO true)) (aF g y b)):=by rcases o with rfl|rfl|rfl<;>rfl
 rw[e];refine dF.bind (K:=vb b.reverse) (f:=λn=>aI n cs ds sz m b.reverse x) a λp _=>?_;have s:=dF.same c;have d:dF (vb b.reverse) (λn=>((bD n false).bind λ(v:Val)=>some (.ok (v,b.reverse)))) b.reverse (.ok (bO false)):=Ev.bind (Bv _) (Ev.ret _);have t:dF (vb b.reverse) (λn=>((bD n true).bind λ(v:Val)=>some (.ok (v,b.reverse)))) b.reverse (.ok (bO true)):=Ev.bind (Bv _) (Ev.ret _);rcases o with rfl|rfl|rfl
 ·cases h:(p.n==1)
  ·simp only[vb,h];exact d
  simp only[vb,h];exact s
 ·cases h:(p.n==1)
  ·simp only[vb,h];exact s
  simp only[vb,h];exact t
 cases h:(p.n==1);·simp only[vb,h];exact t
 simp only[vb,h];exact s
def stB(op:Int)x y(s:List Val×Bool×Bool):=cond (op==56) (s.1++[dD x y],s.2.1,s.2.2) (cond (y.n==1) (s.1++[x],true,s.2.2) (s.1,s.2.1,false))
def Ml(op:Int):List Val->List Val->List Val×Bool×Bool->List Val×Bool×Bool|x::a,y::b,s=>Ml op a b (stB op x y s)|_,_,s=>s
theorem atb n x y op nm k q r ts ks l so al (a:l.length<=1000000):rR n x y op nm k q r ts ks l so al=some (stB op x y (l,so,al)):=by
 have h:∀v:Val,upd (l++[Val.mk 0 0 [] []]) (l.length:Int) v=l++[v]:=λv=>by
  unfold upd
  simp_all
 unfold rR stB;rw[iJ (by simp;omega)];cases op==56
 ·cases y.n==1
  ·rfl
  simp only[cond_false,cond_true,qAa,gV,h]
 simp only[qAa,gV,h];rfl
theorem WR l (a b:Bound):idx (l++[a]) ((l++[a]).length - 1)=some a/\upd (l++[a]) ((l++[a]).length - 1) b=l++[b]:=by
 have e:(((l++[a]).length:Int) - 1)=(l.length:Int):=by simp
 rw[e,gV];unfold upd
 simp_all
theorem aCL op x y s:(stB op x y s).1.length<=s.1.length+1:=by
 unfold stB
 grind
def ahk cs ds sz m t v n:=nO n (bA n) (bq n) (bB n) (bR n) (bZ n) (aI n) (bU n) cs ds sz m t t.op t.name t.n t.ty.kind t.ty.name t.ty.kids t.kids v
def aoh cs ds sz m t v n k:=aH (ahk cs ds sz m t v n) k
theorem aiT cs ds sz m t v n k s:aoh cs ds sz m t v n (k+1) s=ahk cs ds sz m t v n (aoh cs ds sz m t v n k) s:=rfl
theorem azb{op}{nm}{k}{u}{x y}{d} v:∀f p s w,v.kids=p++f->s.1.length+f.length<=1000->(∀a∈f,lX cs ds sz m g y (⟨nm,a⟩::d))->
  ∃N,∃z,∃F:List Val,(∀e,jo (aF g y) nm d f=.er e->e=10∨e=11)/\∀n,N<=n->∀j,f.length+1<=j->
   aoh cs ds sz m (.mk op nm k u [x,y]) (v,d.reverse) n j ((p.length:Int),s.2.1,s.2.2,d.reverse++[⟨nm,w⟩],s.1)
   =some (match jo (aF g y) nm d f with
    | .ok C=>.nx ((Ml op f C s).2.1,(Ml op f C s).2.2,d.reverse++[⟨nm,(f.getLast?).getD w⟩],(Ml op f C s).1)| .er e=>.rt (.er e (d.reverse++z,F))):=by
 intro f
 induction f with
 |nil=>intro p s w o _ _;refine⟨0,[],[],(λe h=>by cases h),λn _ j G=>?_⟩;obtain⟨j,rfl⟩:∃q,j=q+1:=⟨j - 1,by omega⟩;rw[aiT];unfold ahk nO;rw[decide_eq_false (by rw[o];simp)];rfl
 |cons a f ih=>
  intro p s w o hl I;have t:=I a (by simp);unfold lX at t;have hi:idx v.kids (p.length:Int)=some a:=(dW o).2;have A:=(dW o).1;have i:jo (aF g y) nm d (a::f)=match aF g y (⟨nm,a⟩::d)with| .er e=>.er e| .ok b=>(match jo (aF g y) nm d f with| .er e=>.er e| .ok l=>.ok (b::l)):=by unfold jo;rw[qAz];cases aF g y (⟨nm,a⟩::d)<;>rfl
  simp only[qAo]at hl;cases r:aF g y (⟨nm,a⟩::d)with
  |er e=>
   rw[r]at t;obtain⟨he,z,N,D⟩:=t;refine⟨N,⟨nm,a⟩::z,s.1,λe' h=>?_,λn hn j G=>?_⟩;·rw[i,r]at h;cases h;exact he
   obtain⟨j,rfl⟩:∃q,j=q+1:=⟨j - 1,by omega⟩;have D:aI n cs ds sz m (Bound.mk nm a::d).reverse y=_:=D n hn;rw[qDr,qAm]at D;rw[aiT];unfold ahk nO;rw[A,i,r];simp only[cond_true,hi,qAa,(WR d.reverse ⟨nm,w⟩ ⟨nm,a⟩).1,(WR d.reverse ⟨nm,w⟩ ⟨nm,a⟩).2,Tm.kids,show idx [x,y] 1=some y from rfl];rw[D];rfl
  |ok b=>
   rw[r]at t;obtain⟨N1,B⟩:=t;obtain⟨N2,z,F,h2,H⟩:=ih (p++[a]) (stB op a b s) a (by simp[o]) (by have:=aCL op a b s;omega) (λc hc=>I c (by simp[hc]));refine⟨N1+N2,z,F,λe h=>?_,λn hn j G=>?_⟩;·rw[i,r]at h;cases E:jo (aF g y) nm d f with|ok l=>rw[E]at h;cases h|er e'=>rw[E]at h;cases h;exact h2 _ E
   obtain⟨j,rfl⟩:∃q,j=q+1:=⟨j - 1,by omega⟩;have B:aI n cs ds sz m (Bound.mk nm a::d).reverse y=_:=B n (by omega);simp only[vb]at B;rw[qDr]at B;have H:=H n (by omega) j (by simp at G;omega);rw[aiT];unfold ahk nO;rw[A,i,r];simp only[cond_true,hi,qAa,(WR d.reverse ⟨nm,w⟩ ⟨nm,a⟩).1,(WR d.reverse ⟨nm,w⟩ ⟨nm,a⟩).2,Tm.kids,show idx [x,y] 1=some y from rfl,B,PZ.el];rw[atb n _ _ _ _ _ _ _ _ _ _ _ _ (by omega)];simp only[qAa];rw[show(p.length:Int)+1=((p++[a]).length:Int) by simp];refine H.trans ?_;cases E:jo (aF g y) nm d f with|er e=>rfl|ok C=>
    cases f with|nil=>rfl|cons c f=>rfl
end
end
end Abs
end Go.Proofs.YtneeginmfjageaaGreat
