/-
  How a term has a type, rule by rule. Conditions: none; lemmas without a program.
-/
import Derived.Test.YthgdaonechbgmaaGreatCW1ox071002
set_option linter.all false
namespace Go.Proofs.YthgdaonechbgmaaGreat
namespace Abs
section
open Go
inductive HT(env:Env):List Decl→Tm→Ty→Prop where
 |lit {sc nm m u} (op:Int) (h:op=1∨op=2):HT env sc (.mk op nm m u []) aY
 |int {sc nm m u} (h:0≤m∧m≤1000000000):HT env sc (.mk 19 nm m u []) fE
 |name {sc nm m u t} (h:nJ env sc nm=some t):HT env sc (.mk 20 nm m u []) t
 |empty {sc nm m u} (h:Good u):HT env sc (.mk 29 nm m u []) (au u)
 |not {sc nm m u x} (h:HT env sc x aY):HT env sc (.mk 3 nm m u [x]) aY
 |log {sc nm m u x y} (op:Int) (ho:op=4∨op=5∨op=6∨op=7) (h:HT env sc x aY) (k:HT env sc y aY):HT env sc (.mk op nm m u [x,y]) aY
 |qu {sc nm m u x y e} (op:Int) (ho:op=8∨op=9) (h:HT env sc x (au e)) (k:HT env (⟨nm,e⟩::sc) y aY):HT env sc (.mk op nm m u [x,y]) aY
 |compr {sc nm m u x y e} (h:HT env sc x (au e)) (k:HT env (⟨nm,e⟩::sc) y aY):HT env sc (.mk 55 nm m u [x,y]) (au e)
 |fn {sc nm m u x y e t} (hg:Good t) (h:HT env sc x (au e)) (k:HT env (⟨nm,e⟩::sc) y t):HT env sc (.mk 56 nm m u [x,y]) (au (aR e t))
 |eq {sc nm m u x y t} (op:Int) (ho:op=10∨op=11) (hg:Good t) (h:HT env sc x t) (k:HT env sc y t):HT env sc (.mk op nm m u [x,y]) aY
 |ord {sc nm m u x y} (op:Int) (ho:op=12∨op=13∨op=14∨op=15) (h:HT env sc x fE) (k:HT env sc y fE):HT env sc (.mk op nm m u [x,y]) aY
 |inn {sc nm m u x y t} (op:Int) (ho:op=16∨op=17) (h:HT env sc x t) (k:HT env sc y (au t)):HT env sc (.mk op nm m u [x,y]) aY
 |sub {sc nm m u x y t} (h:HT env sc x (au t)) (k:HT env sc y (au t)):HT env sc (.mk 18 nm m u [x,y]) aY
 |neg {sc nm m u x} (h:HT env sc x fE):HT env sc (.mk 21 nm m u [x]) fE
 |num {sc nm m u x y} (op:Int) (ho:op=22∨op=23∨op=24∨op=25∨op=26) (h:HT env sc x fE) (k:HT env sc y fE):HT env sc (.mk op nm m u [x,y]) fE
 |pair {sc nm m u x y a b} (ha:Good a) (hb:Good b) (h:HT env sc x a) (k:HT env sc y b):HT env sc (.mk 27 nm m u [x,y]) (aR a b)
 |set {sc nm m u ks a} (ha:Good a) (hn:ks≠[]) (h:∀t∈ks,HT env sc t a):HT env sc (.mk 28 nm m u ks) (au a)
 |range {sc nm m u x y} (h:HT env sc x fE) (k:HT env sc y fE):HT env sc (.mk 30 nm m u [x,y]) (au fE)
 |bin {sc nm m u x y e} (op:Int) (ho:op=31∨op=32∨op=33) (h:HT env sc x (au e)) (k:HT env sc y (au e)):HT env sc (.mk op nm m u [x,y]) (au e)
 |prod {sc nm m u x y a b} (h:HT env sc x (au a)) (k:HT env sc y (au b)):HT env sc (.mk 34 nm m u [x,y]) (au (aR a b))
 |over {sc nm m u x y a b} (h:HT env sc x (au (aR a b))) (k:HT env sc y (au (aR a b))):HT env sc (.mk 35 nm m u [x,y]) (au (aR a b))
 |comp {sc nm m u x y a b c} (h:HT env sc x (au (aR a b))) (k:HT env sc y (au (aR b c))):HT env sc (.mk 36 nm m u [x,y]) (au (aR a c))
 |dres {sc nm m u x y a b} (op:Int) (ho:op=37∨op=38) (h:HT env sc x (au a)) (k:HT env sc y (au (aR a b))):HT env sc (.mk op nm m u [x,y]) (au (aR a b))
 |rres {sc nm m u x y a b} (op:Int) (ho:op=39∨op=40) (h:HT env sc x (au (aR a b))) (k:HT env sc y (au b)):HT env sc (.mk op nm m u [x,y]) (au (aR a b))
 |fam {sc nm m u x y a b} (op:Int) (ho:op=41∨op=42∨op=43∨op=44∨op=45) (h:HT env sc x (au a)) (k:HT env sc y (au b)):HT env sc (.mk op nm m u [x,y]) (au (au (aR a b)))
 |pow {sc nm m u x a} (h:HT env sc x (au a)):HT env sc (.mk 46 nm m u [x]) (au (au a))
 |card {sc nm m u x a} (h:HT env sc x (au a)):HT env sc (.mk 47 nm m u [x]) fE
 |ext {sc nm m u x} (op:Int) (ho:op=48∨op=49) (h:HT env sc x (au fE)):HT env sc (.mk op nm m u [x]) fE
 |dom {sc nm m u x a b} (h:HT env sc x (au (aR a b))):HT env sc (.mk 50 nm m u [x]) (au a)
 |ran {sc nm m u x a b} (h:HT env sc x (au (aR a b))):HT env sc (.mk 51 nm m u [x]) (au b)
 |inv {sc nm m u x a b} (h:HT env sc x (au (aR a b))):HT env sc (.mk 52 nm m u [x]) (au (aR b a))
 |image {sc nm m u x y a b} (h:HT env sc x (au (aR a b))) (k:HT env sc y (au a)):HT env sc (.mk 53 nm m u [x,y]) (au b)
 |app {sc nm m u x y a b} (h:HT env sc x (au (aR a b))) (k:HT env sc y a):HT env sc (.mk 54 nm m u [x,y]) b
theorem dF{b:Bool}{t u:Ty}(h:bW b t=some u):b=true∧u=t:=by
 cases b
 ·cases h
 ·exact⟨rfl,(Option.some.inj h).symm⟩
theorem kT{α β:Type}{o:Option α}{f:α→Option β}{b:β}(h:o.bind f=some b):∃a,o=some a∧f a=some b:=by
 cases o with
 |none=>cases h
 |some a=>exact⟨a,rfl,h⟩
theorem Hw{t:Ty}(h:Top t)(hk:(t.kind==2)=true):t=aY:=by
 rcases h with rfl|h
 ·rfl
 ·rw[Na h]at hk;cases hk
theorem LC{t:Ty}(h:Top t)(hk:(t.kind !=2)=true):Good t:=by
 rcases h with rfl|h
 ·cases hk
 ·exact h
theorem HZ{t:Ty}(h:Top t)(hk:(t.kind==1)=true):t=fE:=by
 rcases h with rfl|h
 ·cases hk
 ·cases h<;>first|rfl|cases hk
theorem arQ{t:Ty}(h:Top t)(hk:(eB t).isSome=true):∃e,t=au e:=by
 rcases DI h with⟨e,rfl,_⟩|⟨_,h,_⟩
 ·grind
 grind
theorem aCX{t:Ty}(h:Top t)(hk:(pW t).isSome=true):∃a b,t=au (aR a b):=by
 rcases aob h with⟨a,b,rfl,_⟩|h
 ·grind
 grind
theorem adX{p:Ty→Bool}{a b:Ty}(h:[a,b].all p=true):p a=true∧p b=true:=by
 grind
theorem X4{env:Env}:∀(ts:List Tm) (sc:List Decl) (nm:Str) (i:Int) (l:List Ty),bV env sc false nm i ts=.ok l→l.length=ts.length∧∀(k:Nat) t ty,ts[k]? =some t→l[k]? =some ty→bX env sc t=.ok ty
 |[],sc,nm,i,l,h=>by
  simp only[bV]at h
  grind
 |x::ts,sc,nm,i,l,h=>by
  simp only[bV]at h;cases ht:bX env sc x with
  |er e p=>rw[ht]at h;cases h
  |ok t0=>
   rw[ht]at h;simp only[qc,cond_false]at h;cases hr:bV env sc false nm (i+1) ts with
   |er e p=>rw[hr]at h;cases h
   |ok l'=>
    rw[hr]at h;obtain⟨h1,h2⟩:=X4 ts sc nm (i+1) l' hr
    grind
theorem aCI{env:Env}{sc:List Decl}{nm:Str}{x:Tm}{l:List Ty}(h:bV env sc false nm 0 [x]=.ok l):∃a,l=[a]∧bX env sc x=.ok a:=by
 obtain⟨h1,h2⟩:=X4 _ _ _ _ _ h
 match l,h1 with
 |[a],_=>exact⟨a,rfl,h2 0 x a rfl rfl⟩
theorem aCk{env:Env}{sc:List Decl}{nm:Str}{x y:Tm}{l:List Ty}(h:bV env sc false nm 0 [x,y]=.ok l):∃a b,l=[a,b]∧bX env sc x=.ok a∧bX env sc y=.ok b:=by
 obtain⟨h1,h2⟩:=X4 _ _ _ _ _ h
 match l,h1 with
 |[a,b],_=>exact⟨a,b,rfl,h2 0 x a rfl rfl,h2 1 y b rfl rfl⟩
theorem anj{env:Env}{sc:List Decl}{nm:Str}{x y:Tm}{l:List Ty}(h:bV env sc true nm 0 [x,y]=.ok l):∃a b e,l=[a,b]∧bX env sc x=.ok a∧eB a=some e∧bX env (⟨nm,e⟩::sc) y=.ok b:=by
 simp only[bV]at h;cases ht:bX env sc x with
 |er e p=>rw[ht]at h;cases h
 |ok a=>
  rw[ht]at h;simp only[qc]at h;cases he:eB a with
  |none=>rw[he]at h;cases h
  |some e=>
   grind
set_option maxRecDepth 100000 in
theorem apj{env:Env}(hv:aW env=true):∀(t:Tm) (d:Int) (sc:List Decl) (ty:Ty),Wf d t→GoodS sc→bX env sc t=.ok ty→HT env sc t ty:=fun t=>Tm.ind (P:=fun t=>∀(d:Int) (sc:List Decl) (ty:Ty),Wf d t→GoodS sc→bX env sc t=.ok ty→HT env sc t ty) (fun op nm m u ks ih d sc ty hw hs ht=>by
 obtain⟨hn,_,_,hks⟩:=hw.node;obtain⟨⟨h1,h2⟩,hk20,hk29,hlen,hb⟩:=UW hn;have hnum:op=19→0≤m∧m≤1000000000:=fun e=>by
  subst e;simp only[qV,qAa]at hn;have:=hn.2.2.1;have h3:(decide (0≤m)&&decide (m≤1000000000))=true:=this;rw[qAa]at h3;exact⟨of_decide_eq_true h3.1,of_decide_eq_true h3.2⟩
 have hnil:iD op=0→ks=[]:=fun e=>by
  simp only[qV,qAa,BU,Tm.op,Tm.kids]at hn;have:=hn.1.2;rw[e]at this;exact qAD.1 (by simpa using this)
 have ih':∀x∈ks,∀sc ty,GoodS sc→bX env sc x=.ok ty→HT env sc x ty∧Top ty:=fun x hx sc ty hs ht=>⟨ih x hx (d+1) sc ty (hks x hx) hs ht,sV hv hs ht⟩;have k1:iD op=1→∃x,ks=[x]:=fun e=>aj7 ks (by
  simp only[qV,qAa,BU,Tm.op,Tm.kids]at hn;have:=hn.1.2;rw[e]at this;simpa using this)
 have k2:iD op=2→∃x y,ks=[x,y]:=fun e=>Dz ks (by
  simp only[qV,qAa,BU,Tm.op,Tm.kids]at hn;have:=hn.1.2;rw[e]at this;simpa using this)
 have kx:iD op= -1→ks≠[]:=fun e=>by
  rintro rfl;simp only[qV,qAa,BU,Tm.op,Tm.kids]at hn;have:=hn.1.2;rw[e]at this;cases this
 -- the row
 have row:(op==20)=false→(op==29)=false→∃l,bV env sc (bY op) nm 0 ks=.ok l∧jT op l=some ty:=fun e20 e29=>by
  simp only[bX,e20,e29,qBk,cond_false]at ht;cases hk:bV env sc (bY op) nm 0 ks with
  |er e p=>rw[hk]at ht;cases ht
  |ok l=>rw[hk]at ht;exact⟨l,rfl,(Qu ht).1⟩
 have one:iD op=1→(op==20)=false→(op==29)=false→bY op=false→∃x a,ks=[x]∧HT env sc x a∧Top a∧jT op [a]=some ty:=fun e e20 e29 eb=>by
  obtain⟨x,rfl⟩:=k1 e;obtain⟨l,hl,hr⟩:=row e20 e29;rw[eb]at hl;obtain⟨a,rfl,ha⟩:=aCI hl;have:=ih' x (by simp) sc a hs ha;exact⟨x,a,rfl,this.1,this.2,hr⟩
 have two:iD op=2→(op==20)=false→(op==29)=false→bY op=false→∃x y a b,ks=[x,y]∧HT env sc x a∧Top a∧HT env sc y b∧Top b∧jT op [a,b]=some ty:=fun e e20 e29 eb=>by
  obtain⟨x,y,rfl⟩:=k2 e;obtain⟨l,hl,hr⟩:=row e20 e29;rw[eb]at hl;obtain⟨a,b,rfl,ha,hb⟩:=aCk hl;have:=ih' x (by simp) sc a hs ha;have h3:=ih' y (by simp) sc b hs hb;exact⟨x,y,a,b,rfl,this.1,this.2,h3.1,h3.2,hr⟩
 have bnd:bY op=true→(op==20)=false→(op==29)=false→∃x y e b,ks=[x,y]∧HT env sc x (au e)∧HT env (⟨nm,e⟩::sc) y b∧Top b∧jT op [au e,b]=some ty:=fun eb e20 e29=>by
  obtain⟨x,y,rfl⟩:=hb eb;obtain⟨l,hl,hr⟩:=row e20 e29;rw[eb]at hl;obtain⟨a,b,e,rfl,ha,he,hb⟩:=anj hl;have h3:=ih' x (by simp) sc a hs ha;obtain⟨hge,rfl⟩:=jV h3.2 he;have h4:=ih' y (by simp) (⟨nm,e⟩::sc) b (fun q hq=>by
   rcases qAh.1 hq with rfl|hq
   ·exact hge
   ·exact hs q hq) hb
  exact⟨x,y,e,b,rfl,h3.1,h4.1,h4.2,hr⟩
 have lit:(op=1∨op=2)→HT env sc (.mk op nm m u ks) ty:=fun e=>by
  have e0:ks=[]:=hnil (by rcases e with rfl|rfl<;>rfl);subst e0;obtain⟨l,hl,hr⟩:=row (by rcases e with rfl|rfl<;>rfl) (by rcases e with rfl|rfl<;>rfl);have:ty=aY:=by rcases e with rfl|rfl<;>exact(Option.some.inj hr).symm
  subst this;exact .lit op e
 have log:(op=4∨op=5∨op=6∨op=7)→HT env sc (.mk op nm m u ks) ty:=fun e=>by
  obtain⟨x,y,a,b,rfl,ha,ta,hb,tb,hr⟩:=two (by rcases e with rfl|rfl|rfl|rfl<;>rfl) (by rcases e with rfl|rfl|rfl|rfl<;>rfl) (by rcases e with rfl|rfl|rfl|rfl<;>rfl) (by rcases e with rfl|rfl|rfl|rfl<;>rfl);have hr':bW (vU 2 [a,b]) aY=some ty:=by rcases e with rfl|rfl|rfl|rfl<;>exact hr
  obtain⟨h3,rfl⟩:=dF hr';obtain⟨h4,h5⟩:=adX h3;rw[Hw ta h4]at ha;rw[Hw tb h5]at hb;exact .log op e ha hb
 have qu:(op=8∨op=9)→HT env sc (.mk op nm m u ks) ty:=fun e=>by
  obtain⟨x,y,a,b,rfl,ha,hb,tb,hr⟩:=bnd (by rcases e with rfl|rfl<;>rfl) (by rcases e with rfl|rfl<;>rfl) (by rcases e with rfl|rfl<;>rfl);have hr':bW ((eB (au a)).isSome&&b.kind==2) aY=some ty:=by rcases e with rfl|rfl<;>exact hr
  obtain⟨h3,rfl⟩:=dF hr';simp only[qAa]at h3;rw[Hw tb h3.2]at hb;exact .qu op e ha hb
 have eqc:(op=10∨op=11)→HT env sc (.mk op nm m u ks) ty:=fun e=>by
  obtain⟨x,y,a,b,rfl,ha,ta,hb,tb,hr⟩:=two (by rcases e with rfl|rfl<;>rfl) (by rcases e with rfl|rfl<;>rfl) (by rcases e with rfl|rfl<;>rfl) (by rcases e with rfl|rfl<;>rfl);have hr':bW (a.kind !=2&&dI a b) aY=some ty:=by rcases e with rfl|rfl<;>exact hr
  obtain⟨h3,rfl⟩:=dF hr';simp only[qAa]at h3;have:=nU _ _ h3.2;subst this;exact .eq op e (LC ta h3.1) ha hb
 have ordc:(op=12∨op=13∨op=14∨op=15)→HT env sc (.mk op nm m u ks) ty:=fun e=>by
  obtain⟨x,y,a,b,rfl,ha,ta,hb,tb,hr⟩:=two (by rcases e with rfl|rfl|rfl|rfl<;>rfl) (by rcases e with rfl|rfl|rfl|rfl<;>rfl) (by rcases e with rfl|rfl|rfl|rfl<;>rfl) (by rcases e with rfl|rfl|rfl|rfl<;>rfl);have hr':bW (vU 1 [a,b]) aY=some ty:=by rcases e with rfl|rfl|rfl|rfl<;>exact hr
  obtain⟨h3,rfl⟩:=dF hr';obtain⟨h4,h5⟩:=adX h3;rw[HZ ta h4]at ha;rw[HZ tb h5]at hb;exact .ord op e ha hb
 have innc:(op=16∨op=17)→HT env sc (.mk op nm m u ks) ty:=fun e=>by
  obtain⟨x,y,a,b,rfl,ha,ta,hb,tb,hr⟩:=two (by rcases e with rfl|rfl<;>rfl) (by rcases e with rfl|rfl<;>rfl) (by rcases e with rfl|rfl<;>rfl) (by rcases e with rfl|rfl<;>rfl);have hr':(eB b).bind (fun e=>bW (dI a e) aY)=some ty:=by rcases e with rfl|rfl<;>exact hr
  obtain⟨s,hs',h3⟩:=kT hr';obtain⟨h4,rfl⟩:=dF h3;have:=nU _ _ h4;subst this;obtain⟨_,rfl⟩:=jV tb hs';exact .inn op e ha hb
 have numc:(op=22∨op=23∨op=24∨op=25∨op=26)→HT env sc (.mk op nm m u ks) ty:=fun e=>by
  obtain⟨x,y,a,b,rfl,ha,ta,hb,tb,hr⟩:=two (by rcases e with rfl|rfl|rfl|rfl|rfl<;>rfl) (by rcases e with rfl|rfl|rfl|rfl|rfl<;>rfl) (by rcases e with rfl|rfl|rfl|rfl|rfl<;>rfl) (by rcases e with rfl|rfl|rfl|rfl|rfl<;>rfl);have hr':bW (vU 1 [a,b]) fE=some ty:=by rcases e with rfl|rfl|rfl|rfl|rfl<;>exact hr
  obtain⟨h3,rfl⟩:=dF hr';obtain⟨h4,h5⟩:=adX h3;rw[HZ ta h4]at ha;rw[HZ tb h5]at hb;exact .num op e ha hb
 have binc:(op=31∨op=32∨op=33)→HT env sc (.mk op nm m u ks) ty:=fun e=>by
  obtain⟨x,y,a,b,rfl,ha,ta,hb,tb,hr⟩:=two (by rcases e with rfl|rfl|rfl<;>rfl) (by rcases e with rfl|rfl|rfl<;>rfl) (by rcases e with rfl|rfl|rfl<;>rfl) (by rcases e with rfl|rfl|rfl<;>rfl);have hr':bW ((eB a).isSome&&dI a b) a=some ty:=by rcases e with rfl|rfl|rfl<;>exact hr
  obtain⟨h3,rfl⟩:=dF hr';simp only[qAa]at h3;have:=nU _ _ h3.2;subst this;obtain⟨s,rfl⟩:=arQ ta h3.1;exact .bin op e ha hb
 have dresc:(op=37∨op=38)→HT env sc (.mk op nm m u ks) ty:=fun e=>by
  obtain⟨x,y,a,b,rfl,ha,ta,hb,tb,hr⟩:=two (by rcases e with rfl|rfl<;>rfl) (by rcases e with rfl|rfl<;>rfl) (by rcases e with rfl|rfl<;>rfl) (by rcases e with rfl|rfl<;>rfl);have hr':(eB a).bind (fun x=>(pW b).bind fun y=>bW (dI x y.1) b)=some ty:=by rcases e with rfl|rfl<;>exact hr
  obtain⟨s,hs',h3⟩:=kT hr';obtain⟨⟨p,q⟩,hq,h4⟩:=kT h3;obtain⟨h5,rfl⟩:=dF h4;have:=nU _ _ h5;subst this;obtain⟨_,rfl⟩:=jV ta hs';obtain⟨_,_,rfl⟩:=wM tb hq;exact .dres op e ha hb
 have rresc:(op=39∨op=40)→HT env sc (.mk op nm m u ks) ty:=fun e=>by
  obtain⟨x,y,a,b,rfl,ha,ta,hb,tb,hr⟩:=two (by rcases e with rfl|rfl<;>rfl) (by rcases e with rfl|rfl<;>rfl) (by rcases e with rfl|rfl<;>rfl) (by rcases e with rfl|rfl<;>rfl);have hr':(pW a).bind (fun x=>(eB b).bind fun y=>bW (dI y x.2) a)=some ty:=by rcases e with rfl|rfl<;>exact hr
  obtain⟨⟨p,q⟩,hq,h3⟩:=kT hr';obtain⟨s,hs',h4⟩:=kT h3;obtain⟨h5,rfl⟩:=dF h4;have:=nU _ _ h5;subst this;obtain⟨_,rfl⟩:=jV tb hs';obtain⟨_,_,rfl⟩:=wM ta hq;exact .rres op e ha hb
 have famc:(op=41∨op=42∨op=43∨op=44∨op=45)→HT env sc (.mk op nm m u ks) ty:=fun e=>by
  obtain⟨x,y,a,b,rfl,ha,ta,hb,tb,hr⟩:=two (by rcases e with rfl|rfl|rfl|rfl|rfl<;>rfl) (by rcases e with rfl|rfl|rfl|rfl|rfl<;>rfl) (by rcases e with rfl|rfl|rfl|rfl|rfl<;>rfl) (by rcases e with rfl|rfl|rfl|rfl|rfl<;>rfl);have hr':(eB a).bind (fun x=>(eB b).map fun y=>au (au (aR x y)))=some ty:=by rcases e with rfl|rfl|rfl|rfl|rfl<;>exact hr
  obtain⟨s,hs',h3⟩:=kT hr';obtain⟨s2,hs2,rfl⟩:=qBs.1 h3;obtain⟨_,rfl⟩:=jV ta hs';obtain⟨_,rfl⟩:=jV tb hs2;exact .fam op e ha hb
 have extc:(op=48∨op=49)→HT env sc (.mk op nm m u ks) ty:=fun e=>by
  obtain⟨x,a,rfl,ha,ta,hr⟩:=one (by rcases e with rfl|rfl<;>rfl) (by rcases e with rfl|rfl<;>rfl) (by rcases e with rfl|rfl<;>rfl) (by rcases e with rfl|rfl<;>rfl);have hr':(eB a).bind (fun x=>bW (x.kind==1) fE)=some ty:=by rcases e with rfl|rfl<;>exact hr
  obtain⟨s,hs',h3⟩:=kT hr';obtain⟨h4,rfl⟩:=dF h3;obtain⟨hg,rfl⟩:=jV ta hs';have:=HZ (.inr hg) h4;subst this;exact .ext op e ha
 rcases awe h1 h2 with rfl|rfl|rfl|rfl|rfl|rfl|rfl|rfl|rfl|rfl|rfl|rfl|rfl|rfl|rfl|rfl|rfl|rfl|rfl|rfl|rfl|rfl|rfl|rfl|rfl|rfl|rfl|rfl|rfl|rfl|rfl|rfl|rfl|rfl|rfl|rfl|rfl|rfl|rfl|rfl|rfl|rfl|rfl|rfl|rfl|rfl|rfl|rfl|rfl|rfl|rfl|rfl|rfl|rfl|rfl|rfl
 ·exact lit (.inl rfl)
 ·exact lit (.inr rfl)
 ·obtain⟨x,a,rfl,ha,ta,hr⟩:=one rfl rfl rfl rfl;obtain⟨h3,rfl⟩:=dF (b:=vU 2 [a]) (t:=aY) hr;rw[Hw ta (by simpa[vU]using h3)]at ha;exact .not ha
 ·exact log (by simp)
 ·exact log (by simp)
 ·exact log (by simp)
 ·exact log (by simp)
 ·exact qu (by simp)
 ·exact qu (by simp)
 ·exact eqc (by simp)
 ·exact eqc (by simp)
 ·exact ordc (by simp)
 ·exact ordc (by simp)
 ·exact ordc (by simp)
 ·exact ordc (by simp)
 ·exact innc (by simp)
 ·exact innc (by simp)
 ·obtain⟨x,y,a,b,rfl,ha,ta,hb,tb,hr⟩:=two rfl rfl rfl rfl;obtain⟨h3,rfl⟩:=dF (b:=(eB a).isSome&&dI a b) (t:=aY) hr;simp only[qAa]at h3;have:=nU _ _ h3.2;subst this;obtain⟨s,rfl⟩:=arQ ta h3.1;exact .sub ha hb
 ·have:=hnil rfl;subst this;obtain⟨l,hl,hr⟩:=row rfl rfl;have:ty=fE:=(Option.some.inj hr).symm;subst this;exact .int (hnum rfl)
 ·have:=hnil rfl;subst this;simp only[bX]at ht;cases hl:nJ env sc nm with
  |none=>rw[hl]at ht;cases ht
  |some t=>rw[hl]at ht;cases ht;exact .name hl
 ·obtain⟨x,a,rfl,ha,ta,hr⟩:=one rfl rfl rfl rfl;obtain⟨h3,rfl⟩:=dF (b:=vU 1 [a]) (t:=fE) hr;rw[HZ ta (by simpa[vU]using h3)]at ha;exact .neg ha
 ·exact numc (by simp)
 ·exact numc (by simp)
 ·exact numc (by simp)
 ·exact numc (by simp)
 ·exact numc (by simp)
 ·obtain⟨x,y,a,b,rfl,ha,ta,hb,tb,hr⟩:=two rfl rfl rfl rfl;obtain⟨h3,rfl⟩:=dF (b:=a.kind !=2&&b.kind !=2) (t:=aR a b) hr;simp only[qAa]at h3;exact .pair (LC ta h3.1) (LC tb h3.2) ha hb
 ·obtain⟨l,hl,hr⟩:=row rfl rfl;obtain⟨h3,h4⟩:=X4 _ _ _ _ _ hl;obtain⟨h5,rfl⟩:=dF (b:=(l.headD bH).kind !=2&&l.all fun x=>dI x (l.headD bH)) (t:=au (l.headD bH)) hr;simp only[qAa]at h5;have hne:=kx rfl;obtain⟨x,ks',rfl⟩:=LH ks hne;obtain⟨a,l',rfl⟩:=LH l (by rintro rfl;cases h3);have hall:∀b∈a::l',b=a:=fun b hb=>nU _ _ (qAP.1 h5.2 b hb);refine .set (LC (sV hv hs (h4 0 x a rfl rfl)) h5.1) hne fun t ht'=>?_;obtain⟨k,hk,rfl⟩:=qBy ht';have hk':k<(a::l').length:=by rw[h3];exact hk
  have h6:=h4 k _ _ (qAc hk) (qAc hk');rw[hall _ (qAO hk')]at h6;exact(ih' _ (qAO hk) sc a hs h6).1
 ·have:=hnil rfl;subst this;obtain⟨_,hv1,hv2⟩:=hk29 rfl;simp only[bX]at ht;have ht':cond (true&&!(knows env u)) (TR.er 6 []) (match bV env sc (bY 29) nm 0 []with
     | .er e p=>.er e p
     | .ok l=>rJ (some (au u)))=.ok ty:=ht
  cases hkn:knows env u with
  |false=>rw[hkn]at ht';cases ht'
  |true=>
   rw[hkn]at ht';simp only[bV]at ht';have ht':rJ (some (au u))=.ok ty:=ht';have:=(Qu ht').1;cases this;exact .empty (LC (UH hv1) (by rw[bne,hv2];rfl))
 ·obtain⟨x,y,a,b,rfl,ha,ta,hb,tb,hr⟩:=two rfl rfl rfl rfl;obtain⟨h3,rfl⟩:=dF (b:=vU 1 [a,b]) (t:=au fE) hr;obtain⟨h4,h5⟩:=adX h3;rw[HZ ta h4]at ha;rw[HZ tb h5]at hb;exact .range ha hb
 ·exact binc (by simp)
 ·exact binc (by simp)
 ·exact binc (by simp)
 ·obtain⟨x,y,a,b,rfl,ha,ta,hb,tb,hr⟩:=two rfl rfl rfl rfl;obtain⟨s,hs',h3⟩:=kT (o:=eB a) (f:=fun x=>(eB b).map fun y=>au (aR x y)) hr;obtain⟨s2,hs2,rfl⟩:=qBs.1 h3;obtain⟨_,rfl⟩:=jV ta hs';obtain⟨_,rfl⟩:=jV tb hs2;exact .prod ha hb
 ·obtain⟨x,y,a,b,rfl,ha,ta,hb,tb,hr⟩:=two rfl rfl rfl rfl;obtain⟨h3,rfl⟩:=dF (b:=(pW a).isSome&&dI a b) (t:=a) hr;simp only[qAa]at h3;have:=nU _ _ h3.2;subst this;obtain⟨p,q,rfl⟩:=aCX ta h3.1;exact .over ha hb
 ·obtain⟨x,y,a,b,rfl,ha,ta,hb,tb,hr⟩:=two rfl rfl rfl rfl;obtain⟨⟨p,q⟩,hq,h3⟩:=kT (o:=pW a) (f:=fun x=>(pW b).bind fun y=>bW (dI x.2 y.1) (au (aR x.1 y.2))) hr;obtain⟨⟨p',q'⟩,hq',h4⟩:=kT h3;obtain⟨h5,rfl⟩:=dF h4;have:=nU _ _ h5;obtain⟨_,_,rfl⟩:=wM ta hq;obtain⟨_,_,rfl⟩:=wM tb hq';simp only at this;subst this;exact .comp ha hb
 ·exact dresc (by simp)
 ·exact dresc (by simp)
 ·exact rresc (by simp)
 ·exact rresc (by simp)
 ·exact famc (by simp)
 ·exact famc (by simp)
 ·exact famc (by simp)
 ·exact famc (by simp)
 ·exact famc (by simp)
 ·obtain⟨x,a,rfl,ha,ta,hr⟩:=one rfl rfl rfl rfl;obtain⟨s,hs',rfl⟩:=qBs.1 (show(eB a).map (fun x=>au (au x))=some ty from hr);obtain⟨_,rfl⟩:=jV ta hs';exact .pow ha
 ·obtain⟨x,a,rfl,ha,ta,hr⟩:=one rfl rfl rfl rfl;obtain⟨s,hs',rfl⟩:=qBs.1 (show(eB a).map (fun _=>fE)=some ty from hr);obtain⟨_,rfl⟩:=jV ta hs';exact .card ha
 ·exact extc (by simp)
 ·exact extc (by simp)
 ·obtain⟨x,a,rfl,ha,ta,hr⟩:=one rfl rfl rfl rfl;obtain⟨⟨p,q⟩,hq,rfl⟩:=qBs.1 (show(pW a).map (fun x=>au x.1)=some ty from hr);obtain⟨_,_,rfl⟩:=wM ta hq;exact .dom ha
 ·obtain⟨x,a,rfl,ha,ta,hr⟩:=one rfl rfl rfl rfl;obtain⟨⟨p,q⟩,hq,rfl⟩:=qBs.1 (show(pW a).map (fun x=>au x.2)=some ty from hr);obtain⟨_,_,rfl⟩:=wM ta hq;exact .ran ha
 ·obtain⟨x,a,rfl,ha,ta,hr⟩:=one rfl rfl rfl rfl;obtain⟨⟨p,q⟩,hq,rfl⟩:=qBs.1 (show(pW a).map (fun x=>au (aR x.2 x.1))=some ty from hr);obtain⟨_,_,rfl⟩:=wM ta hq;exact .inv ha
 ·obtain⟨x,y,a,b,rfl,ha,ta,hb,tb,hr⟩:=two rfl rfl rfl rfl;obtain⟨⟨p,q⟩,hq,h3⟩:=kT (o:=pW a) (f:=fun x=>(eB b).bind fun y=>bW (dI y x.1) (au x.2)) hr;obtain⟨s,hs',h4⟩:=kT h3;obtain⟨h5,rfl⟩:=dF h4;have:=nU _ _ h5;obtain⟨_,_,rfl⟩:=wM ta hq;obtain⟨_,rfl⟩:=jV tb hs';simp only at this;subst this;exact .image ha hb
 ·obtain⟨x,y,a,b,rfl,ha,ta,hb,tb,hr⟩:=two rfl rfl rfl rfl;obtain⟨⟨p,q⟩,hq,h3⟩:=kT (o:=pW a) (f:=fun x=>bW (dI b x.1) x.2) hr;obtain⟨h5,rfl⟩:=dF h3;have:=nU _ _ h5;obtain⟨_,_,rfl⟩:=wM ta hq;simp only at this;subst this;exact .app ha hb
 ·obtain⟨x,y,a,b,rfl,ha,hb,tb,hr⟩:=bnd rfl rfl rfl;obtain⟨h3,rfl⟩:=dF (b:=(eB (au a)).isSome&&b.kind==2) (t:=au a) hr;simp only[qAa]at h3;rw[Hw tb h3.2]at hb;exact .compr ha hb
 ·obtain⟨x,y,a,b,rfl,ha,hb,tb,hr⟩:=bnd rfl rfl rfl;obtain⟨s,hs',h3⟩:=kT (o:=eB (au a)) (f:=fun x=>bW (b.kind !=2) (au (aR x b))) hr;obtain⟨h5,rfl⟩:=dF h3;cases hs';exact .fn (LC tb h5) ha hb) t
theorem avE:∀l:List Val,Fp l=true↔l.Pairwise iA
 |[]=>by simp[Fp]
 |[a]=>by simp[Fp]
 |a::b::r=>by
  have ih:=avE (b::r);unfold Fp;rw[qAa,ih,qAV,decide_eq_false_iff_not,Int.not_le];constructor
  ·rintro⟨h1,h2⟩;refine qBn.2 ⟨fun x hx=>?_,h2⟩;rcases qAh.1 hx with rfl|hx
   ·exact h1
   ·exact BF _ _ _ h1 ((qBn.1 h2).1 x hx)
  ·intro h;exact⟨(qBn.1 h).1 b (by simp),(qBn.1 h).2⟩
section
variable {env:Env}{sz:List Int}
theorem sG{v:Val}:hasB env sz fE v=true↔∃n,v=iY n∧EU n:=by
 obtain⟨k,n,s,ks⟩:=v;rw[show hasB env sz fE (.mk k n s ks)=acs (.mk k n s ks) by unfold fE hasB;rfl];unfold acs iY EU;simp only[Val.kind,Val.n,Val.name,Val.kids,qAa,beq_iff_eq,Val.mk.injEq];constructor
 ·rintro⟨rfl,rfl,h,h1,h2⟩;have:ks=[]:=qAD.1 (by omega)
  grind
 grind
theorem Aa{v:Val}:hasB env sz aY v=true↔∃b,v=aO b:=by
 obtain⟨k,n,s,ks⟩:=v;rw[show hasB env sz aY (.mk k n s ks)=abw (.mk k n s ks) by unfold aY hasB;rfl];unfold abw aO;simp only[Val.kind,Val.n,Val.name,Val.kids];constructor
 ·simp_all
 grind
theorem qJ{a b:Ty}{v:Val}:hasB env sz (aR a b) v=true↔∃x y,v=aG x y∧hasB env sz a x=true∧hasB env sz b y=true:=by
 obtain⟨k,n,s,ks⟩:=v;have e:hasB env sz (aR a b) (.mk k n s ks)=(k==4&&(n==0&&(s==[]&&((ks.length:Int)==2&&Zk env sz [a,b] ks)))):=by unfold aR;rw[hasB];rfl
 rw[e];simp;constructor
 ·rintro⟨rfl,rfl,rfl,h,h1⟩
  match ks,h with
  |[x,y],_=>
   simp only[Zk,qAa,and_true]at h1;exact⟨x,y,rfl,h1.1,h1.2⟩
  |[],h=>simp at h
  |[x],h=>simp at h
  |x::y::z::r,h=>simp at h;omega
 ·rintro⟨x,y,h,h1,h2⟩;cases h;simp only[Zk,h1,h2];simp
theorem iV{e:Ty}{v:Val}:hasB env sz (au e) v=true↔∃l,v=mkSet l∧dO l∧∀x∈l,hasB env sz e x=true:=by
 obtain⟨k,n,s,ks⟩:=v;have e:hasB env sz (au e) (.mk k n s ks)=((k==5&&(n==0&&(s==[]&&!(decide (256<(ks.length:Int))))))&&(ks.all (fun v=>hasB env sz e v)&&Fp ks)):=by unfold au;rw[hasB];simp only[awR];rfl
 rw[e];simp only[qAa,beq_iff_eq,qAV,decide_eq_false_iff_not,avE,qAP];constructor
 ·rintro⟨⟨rfl,rfl,rfl,h⟩,h1,h2⟩;exact⟨ks,rfl,⟨h2,by omega⟩,h1⟩
 ·rintro⟨l,h,h1,h2⟩;cases h;exact⟨⟨rfl,rfl,rfl,by have:=h1.2;omega⟩,h2,h1.1⟩
theorem Br{l:List Val}{v:Val}(h:bF l=.ok v):v=gH l∧(sortV l).length≤256:=by
 unfold bF at h
 grind
theorem mZ{e:Ty}{l:List Val}{v:Val}(h:bF l=.ok v)(hl:∀x∈l,hasB env sz e x=true):hasB env sz (au e) v=true:=by
 obtain⟨rfl,h1⟩:=Br h;exact iV.2 ⟨_,rfl,⟨cZ l,h1⟩,fun x hx=>hl x ((aV l x).1 hx)⟩
theorem aq8{n:Int}{v:Val}(h:gM n=.ok v):v=iY n∧EU n:=by
 unfold gM ab1 at h;cases h1:decide (1000000000<n)with
 |true=>rw[h1]at h;cases h
 |false=>
  cases h2:decide (n< -1000000000)with
  |true=>rw[h1,h2]at h;cases h
  |false=>
   rw[h1,h2]at h;cases h;have:=of_decide_eq_false h1;have:=of_decide_eq_false h2;exact⟨rfl,by omega,by omega⟩
theorem IX{n:Int}{v:Val}(h:gM n=.ok v):hasB env sz fE v=true:=by
 obtain⟨rfl,h1⟩:=aq8 h;exact sG.2 ⟨_,rfl,h1⟩
theorem lN{b:Bool}{v:Val}(h:(.ok (aO b):VR)=.ok v):hasB env sz aY v=true:=by cases h;exact Aa.2 ⟨b,rfl⟩
theorem then_ok{β γ:Type}{r:RR β}{f:β→RR γ}{v:γ}(h:r.thn f=.ok v):∃a,r=.ok a∧f a=.ok v:=by
 cases r with
 |ok a=>exact⟨a,rfl,h⟩
 |er e=>cases h
theorem seq_ok{α:Type}(f:α→VR):∀(xs:List α) (ys:List Val),aN (xs.map f)=.ok ys→ys.length=xs.length∧∀p∈xs.zip ys,f p.1=.ok p.2
 |[],ys,h=>by cases h;simp
 |x::xs,ys,h=>by
  rw[qAy]at h;cases hx:f x with
  |er e=>rw[hx]at h;cases h
  |ok v=>
   rw[hx]at h;unfold aN at h;cases hr:aN (xs.map f)with
   |er e=>rw[hr]at h;cases h
   |ok l=>
    rw[hr]at h;cases h;obtain⟨h1,h2⟩:=seq_ok f xs l hr;refine⟨by simp[h1],fun p hp=>?_⟩;rw[qDT]at hp
    grind
theorem seq1{r:VR}{f:List Val→VR}{v:Val}(h:(aN [r]).thn f=.ok v):∃a,r=.ok a∧f [a]=.ok v:=by
 cases r with
 |ok a=>exact⟨a,rfl,h⟩
 |er e=>cases h
theorem seq2{r s:VR}{f:List Val→VR}{v:Val}(h:(aN [r,s]).thn f=.ok v):∃a b,r=.ok a∧s=.ok b∧f [a,b]=.ok v:=by
 cases r with
 |ok a=>
  cases s with
  |ok b=>exact⟨a,b,rfl,rfl,h⟩
  |er e=>cases h
 |er e=>cases h
theorem Hz{l r:List Val}(h:r∈jr l):r.Sublist l:=by
 have key:∀(q pre:List Val) (os:List (List Val)),(∀r∈os,r.Sublist pre)→∀r∈q.foldl (fun out x=>out++out.map fun r=>r++[x]) os,r.Sublist (pre++q):=by
  intro q
  induction q with
  |nil=>intro pre os h r hr;rw[qAt];exact h r hr
  |cons y q ih=>
   intro pre os h r hr;have:=ih (pre++[y]) (os++os.map fun r=>r++[y]) (fun r hr=>by
    rcases qAr.1 hr with hr|hr
    ·grind
    ·obtain⟨z,hz,rfl⟩:=qAJ.1 hr;exact(h z hz).append (List.Sublist.refl _)) r hr
   grind
 exact key l [] [[]] (fun r hr=>by simp at hr;subst hr;exact List.Sublist.refl _) r h
theorem YO{op:Int}{a b:List Val}{d:Nat}(h1:1≤d)(hd:op=41→b.length≤d):∀(xs l:List Val) (x:Val),x∈iM op a b xs l→∃m,x=gH m∧(∀p∈m,p∈l∨∃u∈xs,∃v∈b,p=aG u v)∧m.length≤l.length+d*xs.length∧lC op a b m=true
 |[],l,x,h=>by
  unfold iM at h
  grind
 |y::xs,l,x,h=>by
  have ih:=YO (a:=a) h1 hd xs;unfold iM at h;have one:∀(q:List Val),(∀p∈q,∃v∈b,p=aG y v)→q.length≤d→x∈iM op a b xs (l++q)→∃m,x=gH m∧(∀p∈m,p∈l∨∃u∈y::xs,∃v∈b,p=aG u v)∧m.length≤l.length+d*(y::xs).length∧lC op a b m=true:=by
   intro q hq hl hx;obtain⟨m,e,h2,h3,h4⟩:=ih (l++q) x hx;refine⟨m,e,fun p hp=>?_,?_,h4⟩
   ·grind
   ·simp at h3⊢
    grind
  cases h41:(op==41)with
  |true=>
   rw[h41]at h;obtain⟨im,him,hx⟩:=qBx.1 h;have hs:=Hz him;refine one _ (fun p hp=>?_) ?_ hx
   ·grind
   grind
  |false=>
   rw[h41]at h;rcases qAr.1 h with h|h
   ·cases h42:(op==42)with
    |false=>rw[h42]at h;cases h
    |true=>rw[h42]at h;exact one [] (by simp) (by simp) (by simpa using h)
   ·obtain⟨v,hv,hx⟩:=qBx.1 h
    grind
theorem Sv:∀(k:Nat) (a:Int) (x:Val),x∈ints a k→∃i,x=iY i∧a≤i∧i<a+k
 |0,_,_,h=>by cases h
 |k+1,a,x,h=>by
  rcases qAh.1 h with rfl|h
  ·grind
  ·obtain⟨i,e,h1,h2⟩:=Sv k (a+1) x h
   grind
theorem IU{a b:Ty}{p:Val}(h:hasB env sz (aR a b) p=true):hasB env sz a (aJ p)=true∧hasB env sz b (aQ p)=true:=by
 obtain⟨x,y,rfl,h1,h2⟩:=qJ.1 h;exact⟨h1,h2⟩
theorem Lv{a b:Ty}{x y:Val}(h:hasB env sz a x=true)(k:hasB env sz b y=true):hasB env sz (aR a b) (aG x y)=true:=qJ.2 ⟨x,y,rfl,h,k⟩
theorem avw{op:Int}(ho:op=41∨op=42∨op=43∨op=44∨op=45){s t:Ty}{a b:List Val}(ha:dO a)(hb:dO b)(ta:∀x∈a,hasB env sz s x=true)(tb:∀x∈b,hasB env sz t x=true){l:List Val}(h:l8 op a b=.ok l):
  ∀x∈l,hasB env sz (au (aR s t)) x=true:=by
 unfold l8 at h;cases hN:kX op a.length b.length with
 |true=>rw[hN]at h;cases h;intro x hx;cases hx
 |false=>
  cases hM:je op b.length a.length 0 1 with
  |true=>rw[hN,hM]at h;cases h
  |false=>
   rw[hN,hM]at h;cases h;intro x hx;obtain⟨d,hd1,hd2,hd3⟩:∃d,1≤d∧(op=41→b.length≤d)∧d*a.length≤256:=by
    have:=ha.2;by_cases h41:op=41
    ·subst h41;have h1:=YN (.inl rfl) a.length 0 1 (by show 2^b.length≠0;have:=qCZ (n:=b.length);omega) (by omega) hM;rw[show lq 41 b.length=2^b.length from rfl,qCf,←Nat.pow_mul]at h1;have h2:b.length*a.length≤8:=by
      rcases qDq 8 (b.length*a.length)with h|h
      ·have:=Nat.pow_lt_pow_right (a:=2) (by omega) h;omega
      ·exact h
     refine⟨b.length+1,by omega,fun _=>by omega,?_⟩;rw[qAU,qCf];rcases qCY a.length with h|h
     ·grind
     ·rcases qCY b.length with h'|h'
      ·grind
      ·have:1*a.length≤b.length*a.length:=qAQ _ h';omega
    ·exact⟨1,by omega,fun h=>absurd h h41,by omega⟩
   obtain⟨m,rfl,h2,h3,_⟩:=YO hd1 hd2 a [] x hx;refine iV.2 ⟨_,rfl,⟨cZ _,?_⟩,fun p hp=>?_⟩
   ·have:=eP m
    grind
   ·rcases h2 p ((aV m p).1 hp)with h|⟨u,hu,v,hv,rfl⟩
    ·cases h
    ·exact Lv (ta u hu) (tb v hv)
inductive Scp(env:Env)(sz:List Int):List Decl→List Bound→Prop
 |nil:Scp env sz [] []
 |cons {nm:Str} {t:Ty} {v:Val} {sc:List Decl} {bs:List Bound} (h:hasB env sz t v=true) (k:Scp env sz sc bs):Scp env sz (⟨nm,t⟩::sc) (⟨nm,v⟩::bs)
def Xp(env:Env)(sz:List Int)(g:Str→Val):Prop:=∀s t,look env s=some t→hasB env sz t (g s)=true
theorem aCQ{g:Str→Val}(hg:Xp env sz g){sc:List Decl}{bs:List Bound}(h:Scp env sz sc bs)(s:Str)(t:Ty)(ht:nJ env sc s=some t):hasB env sz t (Ml g bs s)=true:=by
 unfold nJ at ht;unfold Ml
 induction h with
 |nil=>exact hg s t ht
 |cons h k ih=>
  grind
end
theorem mem2{P:Tm→Prop}{x y:Tm}(h:∀t∈[x,y],P t):P x∧P y:=by grind
set_option maxHeartbeats 4000000 in
theorem sound{env:Env}{sz:List Int}{g:Str→Val}(hg:Xp env sz g):∀t:Tm,∀(sc:List Decl) (ty:Ty) (bs:List Bound) (v:Val),HT env sc t ty→Scp env sz sc bs→aj g t bs=.ok v→hasB env sz ty v=true:=
 Tm.ind fun op nm m u ks ih sc ty bs v ht hs h=>by
 rw[bG]at h;have S:∀{e:Ty} {w:Val},hasB env sz (au e) w=true→dO w.kids∧∀x∈w.kids,hasB env sz e x=true:=fun hw=>by
  obtain⟨l,rfl,h1,h2⟩:=iV.1 hw;exact⟨h1,h2⟩
 cases ht with
 |lit op ho=>rcases ho with rfl|rfl<;>exact lN h
 |int _=>exact IX h
 |name hl=>cases h;exact aCQ hg hs _ _ hl
 |empty _=>cases h;exact iV.2 ⟨[],rfl,⟨.nil,by simp⟩,fun x hx=>by cases hx⟩
 |not _=>obtain⟨a,_,h⟩:=seq1 (r:=aj g _ bs) (f:=bB 3) h;exact lN h
 |log op ho hx hy=>
  rename_i x y;obtain⟨ix,iy⟩:=mem2 ih;rcases ho with rfl|rfl|rfl|rfl
  ·obtain⟨p,_,h⟩:=then_ok (r:=aj g x bs) h;cases hp:(p.n==1)with
   |false=>rw[hp]at h;exact lN h
   |true=>rw[hp]at h;exact iy sc aY bs v hy hs h
  ·obtain⟨p,_,h⟩:=then_ok (r:=aj g x bs) h;cases hp:(p.n==1)with
   |true=>rw[hp]at h;exact lN h
   |false=>rw[hp]at h;exact iy sc aY bs v hy hs h
  ·obtain⟨p,_,h⟩:=then_ok (r:=aj g x bs) h;cases hp:(p.n==1)with
   |false=>rw[hp]at h;exact lN h
   |true=>rw[hp]at h;exact iy sc aY bs v hy hs h
  ·obtain⟨a,b,_,_,h⟩:=seq2 (r:=aj g x bs) (s:=aj g y bs) (f:=bB 7) h;exact lN h
 |qu op ho hx hy=>
  rename_i x y e;rcases ho with rfl|rfl
  ·obtain⟨s,_,h⟩:=then_ok (r:=aj g x bs) h;obtain⟨ys,_,h⟩:=then_ok (r:=fH (aj g y) nm bs s.kids) h;exact lN h
  ·obtain⟨s,_,h⟩:=then_ok (r:=aj g x bs) h;obtain⟨ys,_,h⟩:=then_ok (r:=fH (aj g y) nm bs s.kids) h;exact lN h
 |compr hx hy=>
  rename_i x y e;obtain⟨ix,iy⟩:=mem2 ih;obtain⟨s,h1,h⟩:=then_ok (r:=aj g x bs) h;obtain⟨ys,h2,h⟩:=then_ok (r:=fH (aj g y) nm bs s.kids) h;obtain⟨_,hs2⟩:=S (ix sc _ bs s hx hs h1);refine mZ (l:=(s.kids.zip ys).flatMap fun(p:Val×Val)=>cond (p.2.n==1) [p.1] []) h fun z hz=>?_;obtain⟨p,hp,hz⟩:=qBx.1 hz;have hm:=hs2 p.1 (qCR (show(p.1,p.2)∈s.kids.zip ys from hp)).1;cases hb:(p.2.n==1)with
  |false=>rw[hb]at hz;cases hz
  |true=>
   rw[hb]at hz;have:z=p.1:=by simpa using hz
   rw[this];exact hm
 |fn hgt hx hy=>
  rename_i x y e t;obtain⟨ix,iy⟩:=mem2 ih;obtain⟨s,h1,h⟩:=then_ok (r:=aj g x bs) h;obtain⟨ys,h2,h⟩:=then_ok (r:=fH (aj g y) nm bs s.kids) h;obtain⟨_,hs2⟩:=S (ix sc _ bs s hx hs h1);refine mZ (l:=(s.kids.zip ys).flatMap fun(p:Val×Val)=>[aG p.1 p.2]) h fun z hz=>?_;obtain⟨p,hp,hz⟩:=qBx.1 hz;have hm:=hs2 p.1 (qCR (show(p.1,p.2)∈s.kids.zip ys from hp)).1;have hv:=(seq_ok (fun x=>aj g y (⟨nm,x⟩::bs)) s.kids ys h2).2 p hp;have:z=aG p.1 p.2:=by simpa using hz
  rw[this];exact Lv hm (iy _ _ _ _ hy (.cons hm hs) hv)
 |eq op ho hgt hx hy=>
  rename_i x y t;rcases ho with rfl|rfl
  ·obtain⟨a,b,_,_,h⟩:=seq2 (r:=aj g x bs) (s:=aj g y bs) (f:=bB 10) h;exact lN h
  ·obtain⟨a,b,_,_,h⟩:=seq2 (r:=aj g x bs) (s:=aj g y bs) (f:=bB 11) h;exact lN h
 |ord op ho hx hy=>
  rename_i x y;rcases ho with rfl|rfl|rfl|rfl
  ·obtain⟨a,b,_,_,h⟩:=seq2 (r:=aj g x bs) (s:=aj g y bs) (f:=bB 12) h;exact lN h
  ·obtain⟨a,b,_,_,h⟩:=seq2 (r:=aj g x bs) (s:=aj g y bs) (f:=bB 13) h;exact lN h
  ·obtain⟨a,b,_,_,h⟩:=seq2 (r:=aj g x bs) (s:=aj g y bs) (f:=bB 14) h;exact lN h
  ·obtain⟨a,b,_,_,h⟩:=seq2 (r:=aj g x bs) (s:=aj g y bs) (f:=bB 15) h;exact lN h
 |inn op ho hx hy=>
  rename_i x y t;rcases ho with rfl|rfl
  ·obtain⟨a,_,h⟩:=then_ok (r:=aj g x bs) h;obtain⟨l,_,h⟩:=then_ok (r:=vv (nu g y) bs) h;exact lN h
  ·obtain⟨a,_,h⟩:=then_ok (r:=aj g x bs) h;obtain⟨l,_,h⟩:=then_ok (r:=vv (nu g y) bs) h;exact lN h
 |sub hx hy=>
  rename_i x y t;obtain⟨a,_,h⟩:=then_ok (r:=aj g x bs) h;obtain⟨l,_,h⟩:=then_ok (r:=vv (nu g y) bs) h;exact lN h
 |neg hx=>obtain⟨a,_,h⟩:=seq1 (r:=aj g _ bs) (f:=bB 21) h;exact IX h
 |num op ho hx hy=>
  rename_i x y;rcases ho with rfl|rfl|rfl|rfl|rfl
  ·obtain⟨a,b,_,_,h⟩:=seq2 (r:=aj g x bs) (s:=aj g y bs) (f:=bB 22) h;exact IX h
  ·obtain⟨a,b,_,_,h⟩:=seq2 (r:=aj g x bs) (s:=aj g y bs) (f:=bB 23) h;exact IX h
  ·obtain⟨a,b,_,_,h⟩:=seq2 (r:=aj g x bs) (s:=aj g y bs) (f:=bB 24) h;exact IX h
  ·obtain⟨a,b,_,_,h⟩:=seq2 (r:=aj g x bs) (s:=aj g y bs) (f:=bB 25) h;have h:cond (b.n==0) (.er 10) (gM (Int.tdiv a.n b.n))=(.ok v:VR):=h;cases hb:(b.n==0)with
   |true=>rw[hb]at h;cases h
   |false=>rw[hb]at h;exact IX h
  ·obtain⟨a,b,_,_,h⟩:=seq2 (r:=aj g x bs) (s:=aj g y bs) (f:=bB 26) h;have h:cond (decide (a.n<0) ||decide (b.n<1)) (.er 10) (gM (Int.tmod a.n b.n))=(.ok v:VR):=h;cases hb:(decide (a.n<0) ||decide (b.n<1))with
   |true=>rw[hb]at h;cases h
   |false=>rw[hb]at h;exact IX h
 |pair ha hb hx hy=>
  rename_i x y a b;obtain⟨ix,iy⟩:=mem2 ih;obtain⟨a,b,h1,h2,h⟩:=seq2 (r:=aj g x bs) (s:=aj g y bs) (f:=bB 27) h;cases h;exact Lv (ix _ _ _ _ hx hs h1) (iy _ _ _ _ hy hs h2)
 |set ha hn hk=>
  rename_i a;have h:(aN ((ks.map (nu g)).map fun k=>k.f bs)).thn bF=(.ok v:VR):=h;obtain⟨l,hl,h⟩:=then_ok h;rw[qBh]at hl;obtain⟨h1,h2⟩:=seq_ok (fun t=>aj g t bs) ks l hl;refine mZ h fun z hz=>?_;obtain⟨i,hi,rfl⟩:=qBy hz;have hp:(ks[i]'(by omega),l[i])∈ks.zip l:=by
   rw[qBF];exact⟨i,by simp;omega,by simp⟩
  exact ih _ (qAO _) _ _ _ _ (hk _ (qAO _)) hs (h2 _ hp)
 |range hx hy=>
  rename_i x y;obtain⟨ix,iy⟩:=mem2 ih;obtain⟨a,b,h1,h2,h⟩:=seq2 (r:=aj g x bs) (s:=aj g y bs) (f:=bB 30) h;obtain⟨i,rfl,hi⟩:=sG.1 (ix _ _ _ _ hx hs h1);obtain⟨j,rfl,hj⟩:=sG.1 (iy _ _ _ _ hy hs h2);obtain⟨l,hl,h⟩:=then_ok (r:=sF 30 (iY i) (iY j)) (f:=bF) h;have hl:cond (decide (256≤j - i)) (.er 11) (.ok (ints i (j+1 - i).toNat))=(.ok l:xU):=hl;cases hb:decide (256≤j - i)with
  |true=>rw[hb]at hl;cases hl
  |false=>
   rw[hb]at hl;cases hl;refine mZ h fun z hz=>?_;obtain⟨k,rfl,h3,h4⟩:=Sv _ _ _ hz;have:=hi.1;have:=hj.2;exact sG.2 ⟨k,rfl,by omega,by omega⟩
 |bin op ho hx hy=>
  rename_i x y e;obtain⟨ix,iy⟩:=mem2 ih;have fin:∀(a b:Val),aj g x bs=.ok a→aj g y bs=.ok b→∀l:List Val,(∀z∈l,z∈a.kids∨z∈b.kids)→bF l=.ok v→hasB env sz (au e) v=true:=fun a b h1 h2 l hl hb=>
   mZ hb fun z hz=>(hl z hz).elim ((S (ix _ _ _ _ hx hs h1)).2 z) ((S (iy _ _ _ _ hy hs h2)).2 z)
  rcases ho with rfl|rfl|rfl
  ·obtain⟨a,b,h1,h2,h⟩:=seq2 (r:=aj g x bs) (s:=aj g y bs) (f:=bB 31) h;exact fin a b h1 h2 _ (fun z hz=>qAr.1 hz) h
  ·obtain⟨a,b,h1,h2,h⟩:=seq2 (r:=aj g x bs) (s:=aj g y bs) (f:=bB 32) h;exact fin a b h1 h2 _ (fun z hz=>.inl (qBa.1 hz).1) h
  ·obtain⟨a,b,h1,h2,h⟩:=seq2 (r:=aj g x bs) (s:=aj g y bs) (f:=bB 33) h;exact fin a b h1 h2 _ (fun z hz=>.inl (qBa.1 hz).1) h
 |prod hx hy=>
  rename_i x y s t;obtain⟨ix,iy⟩:=mem2 ih;obtain⟨a,b,h1,h2,h⟩:=seq2 (r:=aj g x bs) (s:=aj g y bs) (f:=bB 34) h;obtain⟨l,hl,h⟩:=then_ok (r:=sF 34 a b) (f:=bF) h;have hl:cond (decide (256<(a.kids.length:Int)*b.kids.length)) (.er 11) (.ok (a.kids.flatMap fun x=>b.kids.map (aG x)))=(.ok l:xU):=hl;cases hb:decide (256<(a.kids.length:Int)*b.kids.length)with
  |true=>rw[hb]at hl;cases hl
  |false=>
   rw[hb]at hl;cases hl;refine mZ h fun z hz=>?_;obtain⟨p,hp,hz⟩:=qBx.1 hz;obtain⟨q,hq,rfl⟩:=qAJ.1 hz;exact Lv ((S (ix _ _ _ _ hx hs h1)).2 p hp) ((S (iy _ _ _ _ hy hs h2)).2 q hq)
 |over hx hy=>
  rename_i x y s t;obtain⟨ix,iy⟩:=mem2 ih;obtain⟨a,b,h1,h2,h⟩:=seq2 (r:=aj g x bs) (s:=aj g y bs) (f:=bB 35) h;refine mZ (l:=a.kids.filter (fun p=>!aF (d9 b.kids) (aJ p))++b.kids) h fun z hz=>?_;rcases qAr.1 hz with hz|hz
  ·exact(S (ix _ _ _ _ hx hs h1)).2 z (qBa.1 hz).1
  ·exact(S (iy _ _ _ _ hy hs h2)).2 z hz
 |comp hx hy=>
  rename_i x y s t r;obtain⟨ix,iy⟩:=mem2 ih;obtain⟨a,b,h1,h2,h⟩:=seq2 (r:=aj g x bs) (s:=aj g y bs) (f:=bB 36) h;refine mZ (l:=a.kids.flatMap fun p=>b.kids.flatMap fun q=>cond (eD (aQ p) (aJ q)) [aG (aJ p) (aQ q)] []) h fun z hz=>?_;obtain⟨p,hp,hz⟩:=qBx.1 hz;obtain⟨q,hq,hz⟩:=qBx.1 hz;have hp:=IU ((S (ix _ _ _ _ hx hs h1)).2 p hp);have hq:=IU ((S (iy _ _ _ _ hy hs h2)).2 q hq);cases hb:eD (aQ p) (aJ q)with
  |false=>rw[hb]at hz;cases hz
  |true=>
   rw[hb]at hz;have:z=aG (aJ p) (aQ q):=by simpa using hz
   rw[this];exact Lv hp.1 hq.2
 |dres op ho hx hy=>
  rename_i x y s t;obtain⟨ix,iy⟩:=mem2 ih;rcases ho with rfl|rfl
  ·obtain⟨a,b,h1,h2,h⟩:=seq2 (r:=aj g x bs) (s:=aj g y bs) (f:=bB 37) h;exact mZ (l:=b.kids.filter _) h fun z hz=>(S (iy _ _ _ _ hy hs h2)).2 z (qBa.1 hz).1
  ·obtain⟨a,b,h1,h2,h⟩:=seq2 (r:=aj g x bs) (s:=aj g y bs) (f:=bB 38) h;exact mZ (l:=b.kids.filter _) h fun z hz=>(S (iy _ _ _ _ hy hs h2)).2 z (qBa.1 hz).1
 |rres op ho hx hy=>
  rename_i x y s t;obtain⟨ix,iy⟩:=mem2 ih;rcases ho with rfl|rfl
  ·obtain⟨a,b,h1,h2,h⟩:=seq2 (r:=aj g x bs) (s:=aj g y bs) (f:=bB 39) h;exact mZ (l:=a.kids.filter _) h fun z hz=>(S (ix _ _ _ _ hx hs h1)).2 z (qBa.1 hz).1
  ·obtain⟨a,b,h1,h2,h⟩:=seq2 (r:=aj g x bs) (s:=aj g y bs) (f:=bB 40) h;exact mZ (l:=a.kids.filter _) h fun z hz=>(S (ix _ _ _ _ hx hs h1)).2 z (qBa.1 hz).1
 |fam op ho hx hy=>
  rename_i x y s t;obtain⟨ix,iy⟩:=mem2 ih;have fin:∀(a b:Val),aj g x bs=.ok a→aj g y bs=.ok b→(l8 op a.kids b.kids).thn bF=.ok v→hasB env sz (au (au (aR s t))) v=true:=fun a b h1 h2 h=>by
   obtain⟨l,hl,h⟩:=then_ok h;obtain⟨a1,a2⟩:=S (ix _ _ _ _ hx hs h1);obtain⟨b1,b2⟩:=S (iy _ _ _ _ hy hs h2);exact mZ h (avw ho a1 b1 a2 b2 hl)
  rcases ho with rfl|rfl|rfl|rfl|rfl
  ·obtain⟨a,b,h1,h2,h⟩:=seq2 (r:=aj g x bs) (s:=aj g y bs) (f:=bB 41) h;exact fin a b h1 h2 h
  ·obtain⟨a,b,h1,h2,h⟩:=seq2 (r:=aj g x bs) (s:=aj g y bs) (f:=bB 42) h;exact fin a b h1 h2 h
  ·obtain⟨a,b,h1,h2,h⟩:=seq2 (r:=aj g x bs) (s:=aj g y bs) (f:=bB 43) h;exact fin a b h1 h2 h
  ·obtain⟨a,b,h1,h2,h⟩:=seq2 (r:=aj g x bs) (s:=aj g y bs) (f:=bB 44) h;exact fin a b h1 h2 h
  ·obtain⟨a,b,h1,h2,h⟩:=seq2 (r:=aj g x bs) (s:=aj g y bs) (f:=bB 45) h;exact fin a b h1 h2 h
 |pow hx=>
  rename_i x e;obtain⟨a,h1,h⟩:=seq1 (r:=aj g x bs) (f:=bB 46) h;obtain⟨a1,a2⟩:=S (ih x (by simp) _ _ _ _ hx hs h1);obtain⟨l,hl,h⟩:=then_ok (r:=sF 46 a v0) (f:=bF) h;have hl:cond (decide (8<(a.kids.length:Int))) (.er 11) (.ok ((jr a.kids).map mkSet))=(.ok l:xU):=hl;cases hb:decide (8<(a.kids.length:Int))with
  |true=>rw[hb]at hl;cases hl
  |false=>
   rw[hb]at hl;cases hl;refine mZ h fun z hz=>?_;obtain⟨r,hr,rfl⟩:=qAJ.1 hz;have hr:=Hz hr;exact iV.2 ⟨r,rfl,⟨a1.1.sublist hr,qAs hr.length_le a1.2⟩,fun z hz=>a2 z (hr.subset hz)⟩
 |card hx=>obtain⟨a,_,h⟩:=seq1 (r:=aj g _ bs) (f:=bB 47) h;exact IX h
 |ext op ho hx=>
  rename_i x;rcases ho with rfl|rfl
  ·obtain⟨a,h1,h⟩:=seq1 (r:=aj g x bs) (f:=bB 48) h;obtain⟨a1,a2⟩:=S (ih x (by simp) _ _ _ _ hx hs h1);have h:(match a.kids with|[]=>(.er 10:VR)|x::_=>.ok x)=(.ok v:VR):=h;cases hk:a.kids with
   |nil=>rw[hk]at h;cases h
   |cons z l=>rw[hk]at h;cases h;exact a2 _ (by rw[hk];simp)
  ·obtain⟨a,h1,h⟩:=seq1 (r:=aj g x bs) (f:=bB 49) h;obtain⟨a1,a2⟩:=S (ih x (by simp) _ _ _ _ hx hs h1);have h:(match a.kids.getLast? with|none=>(.er 10:VR)|some x=>.ok x)=(.ok v:VR):=h;cases hk:a.kids.getLast? with
   |none=>rw[hk]at h;cases h
   |some z=>rw[hk]at h;cases h;exact a2 _ (qDI hk)
 |dom hx=>
  rename_i x s t;obtain⟨a,h1,h⟩:=seq1 (r:=aj g x bs) (f:=bB 50) h;obtain⟨a1,a2⟩:=S (ih x (by simp) _ _ _ _ hx hs h1);refine mZ (l:=d9 a.kids) h fun z hz=>?_;obtain⟨p,hp,rfl⟩:=qAJ.1 ((aV _ _).1 hz);exact(IU (a2 p hp)).1
 |ran hx=>
  rename_i x s t;obtain⟨a,h1,h⟩:=seq1 (r:=aj g x bs) (f:=bB 51) h;obtain⟨a1,a2⟩:=S (ih x (by simp) _ _ _ _ hx hs h1);refine mZ (l:=bC a.kids) h fun z hz=>?_;obtain⟨p,hp,rfl⟩:=qAJ.1 ((aV _ _).1 hz);exact(IU (a2 p hp)).2
 |inv hx=>
  rename_i x s t;obtain⟨a,h1,h⟩:=seq1 (r:=aj g x bs) (f:=bB 52) h;obtain⟨a1,a2⟩:=S (ih x (by simp) _ _ _ _ hx hs h1);refine mZ (l:=a.kids.map fun p=>aG (aQ p) (aJ p)) h fun z hz=>?_;obtain⟨p,hp,rfl⟩:=qAJ.1 hz;exact Lv (IU (a2 p hp)).2 (IU (a2 p hp)).1
 |image hx hy=>
  rename_i x y s t;obtain⟨ix,iy⟩:=mem2 ih;obtain⟨a,b,h1,h2,h⟩:=seq2 (r:=aj g x bs) (s:=aj g y bs) (f:=bB 53) h;refine mZ (l:=bC (a.kids.filter fun p=>aF b.kids (aJ p))) h fun z hz=>?_;obtain⟨p,hp,rfl⟩:=qAJ.1 ((aV _ _).1 hz);exact(IU ((S (ix _ _ _ _ hx hs h1)).2 p (qBa.1 hp).1)).2
 |app hx hy=>
  rename_i x y s;obtain⟨ix,iy⟩:=mem2 ih;obtain⟨a,b,h1,h2,h⟩:=seq2 (r:=aj g x bs) (s:=aj g y bs) (f:=bB 54) h;have h:LV a b=(.ok v:VR):=h;unfold LV at h;have hsub:∀p∈a.kids.filter (fun p=>eD (aJ p) b),p∈a.kids:=fun p hp=>(qBa.1 hp).1
  match a.kids.filter (fun p=>eD (aJ p) b),hsub,h with
  |[p],hsub,h=>cases h;exact(IU ((S (ix _ _ _ _ hx hs h1)).2 p (hsub p (by simp)))).2
  |[],_,h=>cases h
  |p::q::r,_,h=>cases h
end
section
open Go
theorem jY{l:List Val}(h:l.Pairwise iA):sortV l=l:=(vw h fun _=>Iff.rfl).symm
end
section
open Go
def dV{α β:Type}(J:β→α)(f:Nat→Option (PZ α (List Bound)))(b:List Bound):RR β→Prop
 | .ok v=>Ev f (.ok (J v))
 | .er e=>(e=10∨e=11)∧∃z,Ev f (.er e (b++z))
theorem dV.bind{α β γ δ:Type}{J:β→α}{K:γ→δ}{f:Nat→Option (PZ α (List Bound))}{b:List Bound}{r:RR β}{g:α→Nat→Option (PZ δ (List Bound))}{k:β→RR γ}(h1:dV J f b r)(h2:∀v,r=.ok v→dV K (g (J v)) b (k v)):
  dV K (fun n=>(f n).bind (PZ.el (fun x=>g x n) (fun e z=>some (.er e z)))) b (r.thn k):=by
 cases r with
 |er e=>obtain⟨he,z,hz⟩:=h1;exact⟨he,z,Ev.bind hz (Ev.ret _)⟩
 |ok v=>
  have h3:=h2 v rfl;show dV K _ b (k v);cases hk:k v with
  |ok w=>rw[hk]at h3;exact Ev.bind h1 h3
  |er e=>rw[hk]at h3;obtain⟨he,z,hz⟩:=h3;exact⟨he,z,Ev.bind h1 hz⟩
theorem dV.mono{α β:Type}{J:β→α}{f g:Nat→Option (PZ α (List Bound))}{b:List Bound}{r:RR β}(h:∀v,Ev f v→Ev g v)(h1:dV J f b r):dV J g b r:=by
 cases r with
 |ok v=>exact h _ h1
 |er e=>obtain⟨he,z,hz⟩:=h1;exact⟨he,z,h _ hz⟩
theorem dV.succ{α β:Type}{J:β→α}{f:Nat→Option (PZ α (List Bound))}{b:List Bound}{r:RR β}(h:dV J (fun n=>f (n+1)) b r):dV J f b r:=dV.mono (fun _=>Ev.succ) h
abbrev vb(b:List Bound)(v:Val):Val×List Bound:=(v,b)
theorem dV.same{f:Nat→Option (PZ (Val×List Bound) (List Bound))}{b:List Bound}{r:VR}(h:dV (vb b) f b r):dV (vb b) (fun n=>(f n).bind (PZ.el (fun x=>some (.ok (x.1,x.2))) (fun e z=>some (.er e z)))) b r:=by
 cases r with
 |ok v=>exact Ev.bind h (Ev.ret _)
 |er e=>obtain⟨he,z,hz⟩:=h;exact⟨he,z,Ev.bind hz (Ev.ret _)⟩
def Er{β:Type}(r:RR β):Prop:=∀e,r=.er e→e=10∨e=11
theorem Er.ok{β:Type}(v:β):Er (.ok v):=fun e h=>by cases h
theorem Er.e10{β:Type}:Er (.er 10:RR β):=fun e h=>by cases h;exact .inl rfl
theorem Er.e11{β:Type}:Er (.er 11:RR β):=fun e h=>by cases h;exact .inr rfl
theorem Er.cnd{β:Type}{b:Bool}{x y:RR β}(h1:Er x)(h2:Er y):Er (cond b x y):=by grind
theorem dV.pure{f:Nat→Option (PZ Val Unit)}{r:VR}{b:List Bound}(h:Ev f (pz r))(he:Er r):dV (vb b) (fun n=>(f n).bind (PZ.el (fun x=>some (.ok (x,b))) (fun e _=>some (.er e b)))) b r:=by
 cases r with
 |ok v=>exact Ev.bind h (Ev.ret _)
 |er e=>exact⟨he e rfl,[],Ev.bind h (by rw[qAt];exact Ev.ret _)⟩
theorem Er.int(n:Int):Er (gM n):=Er.cnd Er.e11 (Er.ok _)
theorem Er.bnd(l:List Val):Er (bF l):=Er.cnd Er.e11 (Er.ok _)
theorem Er.apply(op:Int)(a b:Val):Er (CG op a b):=by
 have hA:Er (LV a b):=by
  unfold LV;split
  ·exact Er.ok _
  ·exact Er.e10
 have h1:Er (match a.kids with|[]=>(.er 10:VR)|x::_=>.ok x):=by split;exact Er.e10;exact Er.ok _
 have h2:Er (match a.kids.getLast? with|none=>(.er 10:VR)|some x=>.ok x):=by split;exact Er.e10;exact Er.ok _
 have hR:Er (ai1 op a.n b.n):=Er.cnd (Er.int _) (Er.cnd (Er.int _) (Er.cnd (Er.int _) (Er.cnd (Er.int _) (Er.cnd (Er.cnd Er.e10 (Er.int _)) (Er.cnd Er.e10 (Er.int _))))));have hS:Er (sF op a b):=by
  have o:=fun l=>Er.ok (β:=List Val) l;have hr:Er (l8 op a.kids b.kids):=Er.cnd (o _) (Er.cnd Er.e11 (o _));exact Er.cnd (Er.cnd Er.e11 (o _)) (Er.cnd (o _) (Er.cnd (o _) (Er.cnd (o _) (Er.cnd (Er.cnd Er.e11 (o _)) (Er.cnd (o _) (Er.cnd (o _) (Er.cnd (o _) (Er.cnd (o _) (Er.cnd (o _) (Er.cnd (o _) (Er.cnd (Er.cnd Er.e11 (o _)) (Er.cnd (o _) (Er.cnd (o _) (Er.cnd (o _) (Er.cnd (o _) hr)))))))))))))))
 have hT:Er ((sF op a b).thn bF):=by
  cases hq:sF op a b with
  |ok l=>exact Er.bnd l
  |er e=>exact fun e' h=>by cases h;exact hS e hq
 have o:=fun v=>Er.ok (β:=Val) v;exact Er.cnd (o _) (Er.cnd (o _) (Er.cnd (o _) (Er.cnd (o _) (Er.cnd (o _) (Er.cnd (o _) (Er.cnd (o _) (Er.cnd (o _) (Er.cnd (o _) (Er.cnd hA (Er.cnd hR (Er.cnd (Er.int _) (Er.cnd h1 (Er.cnd h2 hT)))))))))))))
section
variable {cs:List Carrier}{ds:List Decl}{sz:List Int}{m:List (Str×Val)}{g:Str→Val}
def nK(cs:List Carrier)(ds:List Decl)(sz:List Int)(m:List (Str×Val))(g:Str→Val)(t:Tm)(bs:List Bound):Prop:=dV (vb bs.reverse) (fun n=>aM n cs ds sz m bs.reverse t) bs.reverse (aj g t bs)
theorem ahl{op:Int}{nm:Str}{k:Int}{u:Ty}{x y:Tm}{bs:List Bound}(ho:op=4∨op=5∨op=6)(hx:nK cs ds sz m g x bs)(hy:nK cs ds sz m g y bs):
  dV (vb bs.reverse) (fun n=>dD n cs ds sz m bs.reverse (.mk op nm k u [x,y])) bs.reverse (aj g (.mk op nm k u [x,y]) bs):=by
 rw[bG];refine dV.succ ?_;show dV _ (fun n=>tV n _ _ _ _ _ (aM n) _ _ _ _ _ _ _) _ _;unfold tV;have e:Za g op nm k ([x,y].map (nu g)) bs=(aj g x bs).thn fun p=>cond (op==4&&!(p.n==1)) (.ok (aO false)) (cond ((op==5&&p.n==1) ||(op==6&&!(p.n==1))) (.ok (aO true)) (aj g y bs)):=by
  rcases ho with rfl|rfl|rfl<;>rfl
 rw[e];refine dV.bind (K:=vb bs.reverse) (f:=fun n=>aM n cs ds sz m bs.reverse x) hx fun p _=>?_;have hs:=dV.same hy;have t1:dV (vb bs.reverse) (fun n=>((bN n false).bind fun(v:Val)=>some (.ok (v,bs.reverse)))) bs.reverse (.ok (aO false)):=Ev.bind (CQ _) (Ev.ret _);have t2:dV (vb bs.reverse) (fun n=>((bN n true).bind fun(v:Val)=>some (.ok (v,bs.reverse)))) bs.reverse (.ok (aO true)):=Ev.bind (CQ _) (Ev.ret _);rcases ho with rfl|rfl|rfl
 ·cases hp:(p.n==1)
  ·simp only[vb,hp];exact t1
  ·simp only[vb,hp];exact hs
 ·cases hp:(p.n==1)
  ·simp only[vb,hp];exact hs
  ·simp only[vb,hp];exact t2
 ·cases hp:(p.n==1)
  ·simp only[vb,hp];exact t2
  ·simp only[vb,hp];exact hs
def stB(op:Int)(x y:Val)(s:List Val×Bool×Bool):List Val×Bool×Bool:=cond (op==56) (s.1++[aG x y],s.2.1,s.2.2) (cond (y.n==1) (s.1++[x],true,s.2.2) (s.1,s.2.1,false))
def Ol(op:Int):List Val→List Val→List Val×Bool×Bool→List Val×Bool×Bool
 |x::xs,y::ys,s=>Ol op xs ys (stB op x y s)
 |_,_,s=>s
theorem atM(n:Nat)(x y:Val)(op:Int)(nm:Str)(k q:Int)(r:Str)(ts:List Ty)(ks:List Tm)(l:List Val)(so al:Bool)(hl:l.length≤1000000):tQ n x y op nm k q r ts ks l so al=some (stB op x y (l,so,al)):=by
 have h1:∀v:Val,upd (l++[Val.mk 0 0 [] []]) (l.length:Int) v=l++[v]:=fun v=>by
  unfold upd
  simp_all
 unfold tQ stB;rw[dQ (by simp;omega)];cases op==56
 ·cases y.n==1
  ·rfl
  ·simp only[cond_false,cond_true,qAb,gJ,h1]
 ·simp only[qAb,gJ,h1];rfl
theorem YS(l:List Bound)(a b:Bound):idx (l++[a]) (((l++[a]).length:Int) - 1)=some a∧upd (l++[a]) (((l++[a]).length:Int) - 1) b=l++[b]:=by
 have e:(((l++[a]).length:Int) - 1)=(l.length:Int):=by simp
 rw[e,gJ];unfold upd
 simp_all
theorem aFo(op:Int)(x y:Val)(s:List Val×Bool×Bool):(stB op x y s).1.length≤s.1.length+1:=by
 unfold stB
 grind
def ai4(cs:List Carrier)(ds:List Decl)(sz:List Int)(m:List (Str×Val))(t:Tm)(v:Val×List Bound)(n:Nat):=pq n (bJ n) (bK n) (bI n) (dw n) (dJ n) (aM n) (dD n) cs ds sz m t t.op t.name t.n t.ty.kind t.ty.name t.ty.kids t.kids v
def apv(cs:List Carrier)(ds:List Decl)(sz:List Int)(m:List (Str×Val))(t:Tm)(v:Val×List Bound)(n k:Nat):=aL (ai4 cs ds sz m t v n) k
theorem alT(cs:List Carrier)(ds:List Decl)(sz:List Int)(m:List (Str×Val))(t:Tm)(v:Val×List Bound)(n k:Nat)(s:Int×Bool×Bool×List Bound×List Val):apv cs ds sz m t v n (k+1) s=ai4 cs ds sz m t v n (apv cs ds sz m t v n k) s:=rfl
theorem ayB{op:Int}{nm:Str}{k:Int}{u:Ty}{x y:Tm}{bs:List Bound}(v:Val):∀(suf pre:List Val) (s:List Val×Bool×Bool) (w:Val),v.kids=pre++suf→s.1.length+suf.length≤1000→(∀a∈suf,nK cs ds sz m g y (⟨nm,a⟩::bs))→
  ∃N,∃z,∃lz:List Val,((∀e,fH (aj g y) nm bs suf=.er e→e=10∨e=11))∧∀n,N≤n→∀j,suf.length+1≤j→
   apv cs ds sz m (.mk op nm k u [x,y]) (v,bs.reverse) n j ((pre.length:Int),s.2.1,s.2.2,bs.reverse++[⟨nm,w⟩],s.1)
   =some (match fH (aj g y) nm bs suf with
    | .ok ys=>.nx ((Ol op suf ys s).2.1,(Ol op suf ys s).2.2,bs.reverse++[⟨nm,(suf.getLast?).getD w⟩],(Ol op suf ys s).1)
    | .er e=>.rt (.er e (bs.reverse++z,lz))):=by
 intro suf
 induction suf with
 |nil=>
  intro pre s w hp _ _;refine⟨0,[],[],(fun e h=>by cases h),fun n _ j hj=>?_⟩;obtain⟨j,rfl⟩:∃q,j=q+1:=⟨j - 1,by omega⟩;rw[alT];unfold ai4 pq;rw[decide_eq_false (by rw[hp];simp)];rfl
 |cons a suf ih=>
  intro pre s w hp hl hE;have ha:=hE a (by simp);unfold nK at ha;have hi:idx v.kids (pre.length:Int)=some a:=(bg hp).2;have hlt:=(bg hp).1;have hee:fH (aj g y) nm bs (a::suf)=match aj g y (⟨nm,a⟩::bs)with| .er e=>.er e| .ok b=>(match fH (aj g y) nm bs suf with| .er e=>.er e| .ok l=>.ok (b::l)):=by
   unfold fH;rw[qAy];cases aj g y (⟨nm,a⟩::bs)<;>rfl
  simp only[qAp]at hl;cases hr:aj g y (⟨nm,a⟩::bs)with
  |er e=>
   rw[hr]at ha;obtain⟨he,z,N,hz⟩:=ha;refine⟨N,⟨nm,a⟩::z,s.1,fun e' h=>?_,fun n hn j hj=>?_⟩
   ·rw[hee,hr]at h;cases h;exact he
   ·obtain⟨j,rfl⟩:∃q,j=q+1:=⟨j - 1,by omega⟩;have hz:aM n cs ds sz m (Bound.mk nm a::bs).reverse y=_:=hz n hn;rw[List.reverse_cons,qAm]at hz;rw[alT];unfold ai4 pq;rw[hlt,hee,hr];simp only[cond_true,hi,qAb,(YS bs.reverse ⟨nm,w⟩ ⟨nm,a⟩).1,(YS bs.reverse ⟨nm,w⟩ ⟨nm,a⟩).2,Tm.kids,show idx [x,y] 1=some y from rfl];rw[hz];rfl
  |ok b=>
   rw[hr]at ha;obtain⟨N1,h1⟩:=ha;obtain⟨N2,z,lz,h2,h3⟩:=ih (pre++[a]) (stB op a b s) a (by simp[hp]) (by have:=aFo op a b s;omega) (fun c hc=>hE c (by simp[hc]));refine⟨N1+N2,z,lz,fun e h=>?_,fun n hn j hj=>?_⟩
   ·rw[hee,hr]at h;cases hq:fH (aj g y) nm bs suf with
    |ok l=>rw[hq]at h;cases h
    |er e'=>rw[hq]at h;cases h;exact h2 _ hq
   ·obtain⟨j,rfl⟩:∃q,j=q+1:=⟨j - 1,by omega⟩;have h1:aM n cs ds sz m (Bound.mk nm a::bs).reverse y=_:=h1 n (by omega);simp only[vb]at h1;rw[List.reverse_cons]at h1;have h3:=h3 n (by omega) j (by simp at hj;omega);rw[alT];unfold ai4 pq;rw[hlt,hee,hr];simp only[cond_true,hi,qAb,(YS bs.reverse ⟨nm,w⟩ ⟨nm,a⟩).1,(YS bs.reverse ⟨nm,w⟩ ⟨nm,a⟩).2,Tm.kids,show idx [x,y] 1=some y from rfl,h1,PZ.el];rw[atM n _ _ _ _ _ _ _ _ _ _ _ _ (by omega)];simp only[qAb];rw[show(pre.length:Int)+1=((pre++[a]).length:Int) by simp];refine h3.trans ?_;cases hq:fH (aj g y) nm bs suf with
    |er e=>rfl
    |ok ys=>
     cases suf with
     |nil=>rfl
     |cons c suf=>rfl
end
end
section
open Go
section
variable {cs:List Carrier}{ds:List Decl}{sz:List Int}{m:List (Str×Val)}{g:Str→Val}
theorem ak0(op:Int):∀(xs ys:List Val) (s:List Val×Bool×Bool),ys.length=xs.length→Ol op xs ys s=(s.1++(xs.zip ys).flatMap (fun p=>cond (op==56) [aG p.1 p.2] (cond (p.2.n==1) [p.1] [])),cond (op==56) s.2.1 (s.2.1 ||ys.any fun y=>y.n==1),cond (op==56) s.2.2 (s.2.2&&ys.all fun y=>y.n==1))
 |[],[],s,_=>by
  obtain⟨a,b,c⟩:=s;cases hq:(op==56)<;>simp[Ol]
 |[],y::ys,s,h=>by simp at h
 |x::xs,[],s,h=>by simp at h
 |x::xs,y::ys,s,h=>by
  rw[Ol,ak0 op xs ys _ (by simpa using h)];unfold stB;obtain⟨a,b,c⟩:=s;cases hq:(op==56)<;>cases hy:(y.n==1)<;>simp[hy]
theorem alV{α:Type}(f:α→VR)(xs:List α)(ys:List Val)(h:aN (xs.map f)=.ok ys):ys.length=xs.length:=(seq_ok f xs ys h).1
theorem aAp{op:Int}{nm:Str}{k:Int}{u:Ty}{x y:Tm}{bs:List Bound}(ho:bY op=true)(hx:nK cs ds sz m g x bs)(hb:bs.length≤1000)(hl:∀v,aj g x bs=.ok v→v.kids.length≤256)(hy:∀v,aj g x bs=.ok v→∀a∈v.kids,nK cs ds sz m g y (⟨nm,a⟩::bs)):
  dV (vb bs.reverse) (fun n=>dJ n cs ds sz m bs.reverse (.mk op nm k u [x,y])) bs.reverse (aj g (.mk op nm k u [x,y]) bs):=by
 have hE:dV (fun(q:List Val×Bool×Bool)=>(bs.reverse,q.1,q.2.1,q.2.2)) (fun n=>(dw n cs ds sz m bs.reverse (.mk op nm k u [x,y]) op nm k u.kind u.name u.kids [x,y] [] false true).bind fun r=>some (match r with| .ok a=>PZ.ok a| .er e z=>.er e z.1)) bs.reverse
   ((aj g x bs).thn fun s=>(fH (aj g y) nm bs s.kids).thn fun ys=>RR.ok (Ol op s.kids ys ([],false,true))):=by
  refine dV.mono (f:=fun n=>(dw (n+1) cs ds sz m bs.reverse (.mk op nm k u [x,y]) op nm k u.kind u.name u.kids [x,y] [] false true).bind fun r=>some (match r with| .ok a=>PZ.ok a| .er e z=>.er e z.1)) (fun v h=>Ev.succ h) ?_
  show dV _ (fun n=>(zu n _ _ _ _ _ (aM n) _ _ _ _ _ _ _ _ _ _ _ _ _ _ _ _ _).bind _) _ _;unfold zu;unfold nK at hx;cases hr:aj g x bs with
  |er e=>
   rw[hr]at hx;obtain⟨he,z,hz⟩:=hx;show dV _ _ _ (RR.er e);exact⟨he,z,Ev.bind (Ev.bind (a:=x) (Ev.of fun _=>rfl) (Ev.bind hz (Ev.ret _))) (Ev.ret _)⟩
  |ok v=>
   rw[hr]at hx;obtain⟨N,z,lz,h2,h3⟩:=ayB (op:=op) (k:=k) (u:=u) (x:=x) v v.kids [] ([],false,true) v0 rfl (by have:=hl v hr;simp;omega) (hy v hr);obtain⟨N1,h1⟩:=hx;have happ:app 72 bs.reverse [Bound.mk nm (Val.mk 0 0 [] [])]=some (bs.reverse++[⟨nm,v0⟩]):=by
    unfold app;rw[if_pos ⟨by simp;omega,by simp;omega⟩];rfl
   have hw:∀n,N+N1+v.kids.length+1≤n→apv cs ds sz m (.mk op nm k u [x,y]) (v,bs.reverse) n n (0,false,true,bs.reverse++[⟨nm,v0⟩],[])=_:=fun n hn=>h3 n (by omega) n (by omega);have hfin:∀(w:Bound),((FJ (List.length (bs.reverse++[w])) (((bs.reverse++[w]).length:Int) - 1)).bind fun(x4:Nat)=>(cond (Nat.ble x4 (List.length (bs.reverse++[w]))) (some (List.take x4 (bs.reverse++[w]))) none))=some bs.reverse:=by
    intro w;unfold FJ;rw[show(((bs.reverse++[w]).length:Int) - 1)=(bs.reverse.length:Int) by simp,if_pos ⟨by omega,by simp;omega⟩,qBM];simp only[qAb];rw[show Nat.ble bs.reverse.length (bs.reverse++[w]).length=true by rw[Nat.ble_eq];simp];simp
   show dV _ (fun n=>_) _ ((fH (aj g y) nm bs v.kids).thn fun ys=>RR.ok (Ol op v.kids ys ([],false,true)));cases hq:fH (aj g y) nm bs v.kids with
   |er e=>
    show dV _ _ _ (RR.er e);refine⟨h2 e hq,z,N+N1+v.kids.length+1,fun n hn=>?_⟩;have h1:aM n cs ds sz m bs.reverse x=_:=h1 n (by omega);have h4:=hw n hn;rw[hq]at h4;change BR n _ _ _ _ _ _ _ _ _ _ _ (Tm.mk op nm k u [x,y]) op nm k u.kind u.name u.kids [x,y] _ _ _=_ at h4;simp only[Tm.kids,Tm.name,show idx [x,y] 0=some x from rfl,qAb,h1,PZ.el,vb,happ];rw[h4];rfl
   |ok ys=>
    show dV _ _ _ (RR.ok _);refine⟨N+N1+v.kids.length+1,fun n hn=>?_⟩;have h1:aM n cs ds sz m bs.reverse x=_:=h1 n (by omega);have h4:=hw n hn;rw[hq]at h4;change BR n _ _ _ _ _ _ _ _ _ _ _ (Tm.mk op nm k u [x,y]) op nm k u.kind u.name u.kids [x,y] _ _ _=_ at h4;simp only[Tm.kids,Tm.name,show idx [x,y] 0=some x from rfl,qAb,h1,PZ.el,vb,happ];rw[h4];have hf:=hfin ⟨nm,v.kids.getLast?.getD v0⟩;simp only[qAb,LR.el];unfold FJ at hf⊢;split at hf
    ·rename_i hc;rw[if_pos hc];simp only[qAb]at hf⊢;generalize Nat.ble _ _=bb at hf⊢;cases bb with
     |false=>cases hf
     |true=>simp only[cond_true,qAb]at hf⊢;rw[Option.some.inj hf]
    ·cases hf
 rw[bG];have e:Za g op nm k ([x,y].map (nu g)) bs=(aj g x bs).thn fun s=>(fH (aj g y) nm bs s.kids).thn fun ys=>nZ op s.kids ys:=by
  unfold bY at ho;simp only[qBe,beq_iff_eq]at ho;rcases ho with rfl|rfl|rfl|rfl<;>rfl
 rw[e];refine dV.succ ?_;show dV _ (fun n=>vT n _ _ _ (dw n) _ _ _ _ _ _ _ _ _) _ _;unfold vT;have key:dV (vb bs.reverse) (fun n=>((dw n cs ds sz m bs.reverse (.mk op nm k u [x,y]) op nm k u.kind u.name u.kids [x,y] [] false true).bind fun r=>some (match r with| .ok a=>PZ.ok a| .er e z=>.er e z.1)).bind (PZ.el (fun(x1:(List Bound)×(List Val)×Bool×Bool)=>(cond (op==8) ((bN n x1.2.2.2).bind fun(x2:Val)=>some (.ok (x2,x1.1))) (cond (op==9) ((bN n x1.2.2.1).bind fun(x3:Val)=>some (.ok (x3,x1.1))) ((Ab n x1.2.1).bind (PZ.el (fun(x4:Val)=>some (.ok (x4,x1.1))) (fun(e1:Int) _=>some (.er e1 x1.1))))))) (fun(e2:Int) z2=>some (.er e2 z2)))) bs.reverse
   ((aj g x bs).thn fun s=>(fH (aj g y) nm bs s.kids).thn fun ys=>nZ op s.kids ys):=by
  have e2:((aj g x bs).thn fun s=>(fH (aj g y) nm bs s.kids).thn fun ys=>nZ op s.kids ys)=((aj g x bs).thn fun s=>(fH (aj g y) nm bs s.kids).thn fun ys=>RR.ok (Ol op s.kids ys ([],false,true))).thn fun q=>cond (op==8) (.ok (aO q.2.2)) (cond (op==9) (.ok (aO q.2.1)) (bF q.1)):=by
   cases hr:aj g x bs with
   |er e=>rfl
   |ok v=>
    show(fH (aj g y) nm bs v.kids).thn _=((fH (aj g y) nm bs v.kids).thn _).thn _;cases hq:fH (aj g y) nm bs v.kids with
    |er e=>rfl
    |ok ys=>
     show nZ op v.kids ys=cond (op==8) _ _;rw[ak0 op v.kids ys _ (alV _ _ _ hq)];unfold nZ;unfold bY at ho;simp only[qBe,beq_iff_eq]at ho;rcases ho with rfl|rfl|rfl|rfl<;>rfl
  rw[e2];refine dV.bind (K:=vb bs.reverse) hE fun q hq=>?_;obtain⟨v,hv,hq⟩:=then_ok hq;obtain⟨ys,hys,hq⟩:=then_ok hq;cases hq;have hlen:(Ol op v.kids ys ([],false,true)).1.length≤256:=by
   rw[ak0 op v.kids ys _ (alV _ _ _ hys)];have:=iF (fun(p:Val×Val)=>cond (op==56) [aG p.1 p.2] (cond (p.2.n==1) [p.1] [])) 1 (v.kids.zip ys) (fun p _=>by cases op==56<;>cases p.2.n==1<;>simp);have h3:=hl v hv;have h4:(v.kids.zip ys).length≤v.kids.length:=by rw[qDt];omega
   simp only[qAo];omega
  cases op==8 with
  |true=>exact Ev.bind (CQ _) (Ev.ret _)
  |false=>
   cases op==9 with
   |true=>exact Ev.bind (CQ _) (Ev.ret _)
   |false=>exact dV.pure (aqR (show(Ol op v.kids ys ([],false,true)).1.length*56≤_ by omega)) (Er.bnd _)
 refine dV.mono (fun v h=>?_) key;obtain⟨N,h⟩:=h;refine⟨N,fun n hn=>?_⟩;rw[←h n hn];simp only[qAb,Tm.op,Tm.name,Tm.n,Tm.ty,Tm.kids];cases dw n cs ds sz m bs.reverse (.mk op nm k u [x,y]) op nm k u.kind u.name u.kids [x,y] [] false true with
 |none=>rfl
 |some r=>cases r<;>rfl
theorem ar5{σ:Type}(f:Tm→VR)(b:List Bound)(zf:Tm→List Bound):∀(ks:List Tm) (acc:List Val),∃z,fG (fun x acc=>match f x with| .ok v=>LR.nx (acc++[v])| .er e=>.rt (PZ.er (α:=σ) e (b++zf x))) (fun acc=>(acc,b)) ks acc=match aN (ks.map f)with| .ok l=>.nx (acc++l,b)| .er e=>.rt (.er e (b++z))
 |[],acc=>⟨[],by simp[fG,aN]⟩
 |x::ks,acc=>by
  rw[qAy];cases hx:f x with
  |er e=>exact⟨zf x,by simp only[fG,hx,aN]⟩
  |ok v=>
   obtain⟨z,h⟩:=ar5 f b zf ks (acc++[v]);refine⟨z,?_⟩;simp only[fG,hx,aN];rw[h];cases aN (ks.map f)with
   |er e=>rfl
   |ok l=>simp
theorem ajc{α:Type}(f:α→VR):∀(xs:List α),(∀x∈xs,Er (f x))→Er (aN (xs.map f))
 |[],_=>Er.ok _
 |x::xs,h=>by
  have h1:=h x (by simp);have h2:=ajc f xs fun y hy=>h y (by simp[hy]);intro e he;rw[qAy]at he;cases hx:f x with
  |er e'=>rw[hx]at he;cases he;exact h1 _ hx
  |ok v=>
   rw[hx]at he;unfold aN at he;cases hs:aN (xs.map f)with
   |ok l=>rw[hs]at he;cases he
   |er e'=>rw[hs]at he;cases he;exact h2 _ hs
theorem nK.er{t:Tm}{bs:List Bound}(h:nK cs ds sz m g t bs):Er (aj g t bs):=fun e he=>by
 unfold nK at h;rw[he]at h;exact h.1
def aLt(cs:List Carrier)(ds:List Decl)(sz:List Int)(m:List (Str×Val))(t:Tm)(n:Nat):=Ky n (bJ n) (bK n) (bI n) (dw n) (dJ n) (aM n) (dD n) cs ds sz m t
def axc(cs:List Carrier)(ds:List Decl)(sz:List Int)(m:List (Str×Val))(t:Tm)(n:Nat):=oH n (bJ n) (bK n) (bI n) (dw n) (dJ n) (aM n) (dD n) cs ds sz m t
theorem aAd{nm:Str}{k:Int}{u:Ty}{ks:List Tm}{bs:List Bound}(h:∀x∈ks,nK cs ds sz m g x bs)(hl:ks.length≤1000000):
  dV (vb bs.reverse) (fun n=>(aLt cs ds sz m (.mk 28 nm k u ks) n n (([]:List Val),0,bs.reverse)).bind (LR.el (fun(s6:(List Val)×(List Bound))=>((Ab n s6.1).bind (PZ.el (fun(x30:Val)=>some (.ok (x30,s6.2))) (fun(e13:Int) _=>some (.er e13 s6.2))))) (fun r=>some r))) bs.reverse ((aN (ks.map fun t=>aj g t bs)).thn bF):=by
 have hz:∀x:Tm,∃z,x∈ks→∀e,aj g x bs=.er e→Ev (fun n=>aM n cs ds sz m bs.reverse x) (.er e (bs.reverse++z)):=fun x=>by
  by_cases hx:x∈ks
  ·have h1:=h x hx;unfold nK at h1;cases hr:aj g x bs with
   |ok v=>exact⟨[],fun _ e he=>by cases he⟩
   |er e=>
    rw[hr]at h1;obtain⟨_,z,hz⟩:=h1;exact⟨z,fun _ e' he=>by cases he;exact hz⟩
  simp_all
 obtain⟨zf,hzf⟩:=qCu hz;have h1:=wI (Tm.mk 28 nm k u ks).kids (axc cs ds sz m (.mk 28 nm k u ks)) (fun i s=>(s,i,bs.reverse)) (fun x acc=>match aj g x bs with| .ok v=>LR.nx (acc++[v])| .er e=>.rt (PZ.er e (bs.reverse++zf x))) (fun acc=>(acc,bs.reverse)) (fun suf acc=>acc.length+suf.length≤1000000) (fun n rec s=>by unfold axc oH;rw[at_end];rfl) (fun pre x suf s e hI=>by
  have hx:x∈ks:=by have e:ks=_:=e;simp[e]
  have hE:=h x hx;unfold nK at hE;simp only[qAp]at hI;cases hr:aj g x bs with
  |er e'=>
   obtain⟨N,hN⟩:=hzf x hx e' hr;refine⟨⟨N,fun n hn rec=>?_⟩,fun s' hs=>by cases hs⟩;have hN:aM n cs ds sz m bs.reverse x=_:=hN n hn;unfold axc oH;rw[(bg e).1];simp only[cond_true,(bg e).2,qAb,hN,PZ.el]
  |ok v=>
   rw[hr]at hE;obtain⟨N,hN⟩:=hE;refine⟨⟨N,fun n hn rec=>?_⟩,fun s' hs=>by cases hs;simp;omega⟩;have hN:aM n cs ds sz m bs.reverse x=_:=hN n hn;unfold axc oH;rw[(bg e).1];simp only[cond_true,(bg e).2,qAb,hN,PZ.el,vb];rw[dQ (by simp;omega)];rfl) (s0:=[]) (qAs (qBm (qAL _)) hl)
 obtain⟨z,hrun⟩:=ar5 (σ:=Val×List Bound) (fun t=>aj g t bs) bs.reverse zf ks [];have h1:=Ev.eq h1 hrun;cases hs:aN (ks.map fun t=>aj g t bs)with
 |er e=>
  rw[hs]at h1;exact⟨ajc _ ks (fun x hx=>(h x hx).er) e hs,z,Ev.bind h1 (Ev.ret _)⟩
 |ok l=>
  rw[hs]at h1;have hll:=alV _ _ _ hs;refine dV.mono (fun v hv=>Ev.bind h1 hv) ?_;exact dV.pure (aqR (by simp only[qAo];omega)) (Er.bnd _)
end
end
end Abs
end Go.Proofs.YthgdaonechbgmaaGreat
