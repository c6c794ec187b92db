/- How a term has a type. Conditions: none. -/
import Derived.Test.YtneeginmfjageaaGreatCP61ox405bdc
set_option linter.all false
namespace Go.Proofs.YtneeginmfjageaaGreat
namespace Abs
inductive HT(env:Env):A4→Tm→Ty→Prop where
 |lit {sc nm m u} (op:Int) (h:op=1∨op=2):HT env sc (.mk op nm m u []) aY
 |int {sc nm m u} (h:0≤m∧m≤1000000000):HT env sc (.mk 19 nm m u []) fE
 |name {sc nm m u t} (h:nJ env sc nm=some t):HT env sc (.mk 20 nm m u []) t
 |empty {sc nm m u} (h:Good u):HT env sc (.mk 29 nm m u []) (au u)
 |not {sc nm m u x} (h:HT env sc x aY):HT env sc (.mk 3 nm m u [x]) aY
 |log {sc nm m u x y} (op:Int) (ho:op=4∨op=5∨op=6∨op=7) (h:HT env sc x aY) (k:HT env sc y aY):HT env sc (.mk op nm m u [x,y]) aY
 |qu {sc nm m u x y e} (op:Int) (ho:op=8∨op=9) (h:HT env sc x (au e)) (k:HT env (⟨nm,e⟩::sc) y aY):HT env sc (.mk op nm m u [x,y]) aY
 |compr {sc nm m u x y e} (h:HT env sc x (au e)) (k:HT env (⟨nm,e⟩::sc) y aY):HT env sc (.mk 55 nm m u [x,y]) (au e)
 |fn {sc nm m u x y e t} (hg:Good t) (h:HT env sc x (au e)) (k:HT env (⟨nm,e⟩::sc) y t):HT env sc (.mk 56 nm m u [x,y]) (au (aR e t))
 |eq {sc nm m u x y t} (op:Int) (ho:op=10∨op=11) (hg:Good t) (h:HT env sc x t) (k:HT env sc y t):HT env sc (.mk op nm m u [x,y]) aY
 |ord {sc nm m u x y} (op:Int) (ho:op=12∨op=13∨op=14∨op=15) (h:HT env sc x fE) (k:HT env sc y fE):HT env sc (.mk op nm m u [x,y]) aY
 |inn {sc nm m u x y t} (op:Int) (ho:op=16∨op=17) (h:HT env sc x t) (k:HT env sc y (au t)):HT env sc (.mk op nm m u [x,y]) aY
 |sub {sc nm m u x y t} (h:HT env sc x (au t)) (k:HT env sc y (au t)):HT env sc (.mk 18 nm m u [x,y]) aY
 |neg {sc nm m u x} (h:HT env sc x fE):HT env sc (.mk 21 nm m u [x]) fE
 |num {sc nm m u x y} (op:Int) (ho:op=22∨op=23∨op=24∨op=25∨op=26) (h:HT env sc x fE) (k:HT env sc y fE):HT env sc (.mk op nm m u [x,y]) fE
 |pair {sc nm m u x y a b} (ha:Good a) (hb:Good b) (h:HT env sc x a) (k:HT env sc y b):HT env sc (.mk 27 nm m u [x,y]) (aR a b)
 |set {sc nm m u ks a} (ha:Good a) (hn:ks≠[]) (h:∀t∈ks,HT env sc t a):HT env sc (.mk 28 nm m u ks) (au a)
 |range {sc nm m u x y} (h:HT env sc x fE) (k:HT env sc y fE):HT env sc (.mk 30 nm m u [x,y]) (au fE)
 |bin {sc nm m u x y e} (op:Int) (ho:op=31∨op=32∨op=33) (h:HT env sc x (au e)) (k:HT env sc y (au e)):HT env sc (.mk op nm m u [x,y]) (au e)
 |prod {sc nm m u x y a b} (h:HT env sc x (au a)) (k:HT env sc y (au b)):HT env sc (.mk 34 nm m u [x,y]) (au (aR a b))
 |over {sc nm m u x y a b} (h:HT env sc x (au (aR a b))) (k:HT env sc y (au (aR a b))):HT env sc (.mk 35 nm m u [x,y]) (au (aR a b))
 |comp {sc nm m u x y a b c} (h:HT env sc x (au (aR a b))) (k:HT env sc y (au (aR b c))):HT env sc (.mk 36 nm m u [x,y]) (au (aR a c))
 |dres {sc nm m u x y a b} (op:Int) (ho:op=37∨op=38) (h:HT env sc x (au a)) (k:HT env sc y (au (aR a b))):HT env sc (.mk op nm m u [x,y]) (au (aR a b))
 |rres {sc nm m u x y a b} (op:Int) (ho:op=39∨op=40) (h:HT env sc x (au (aR a b))) (k:HT env sc y (au b)):HT env sc (.mk op nm m u [x,y]) (au (aR a b))
 |fam {sc nm m u x y a b} (op:Int) (ho:op=41∨op=42∨op=43∨op=44∨op=45) (h:HT env sc x (au a)) (k:HT env sc y (au b)):HT env sc (.mk op nm m u [x,y]) (au (au (aR a b)))
 |pow {sc nm m u x a} (h:HT env sc x (au a)):HT env sc (.mk 46 nm m u [x]) (au (au a))
 |card {sc nm m u x a} (h:HT env sc x (au a)):HT env sc (.mk 47 nm m u [x]) fE
 |ext {sc nm m u x} (op:Int) (ho:op=48∨op=49) (h:HT env sc x (au fE)):HT env sc (.mk op nm m u [x]) fE
 |dom {sc nm m u x a b} (h:HT env sc x (au (aR a b))):HT env sc (.mk 50 nm m u [x]) (au a)
 |ran {sc nm m u x a b} (h:HT env sc x (au (aR a b))):HT env sc (.mk 51 nm m u [x]) (au b)
 |inv {sc nm m u x a b} (h:HT env sc x (au (aR a b))):HT env sc (.mk 52 nm m u [x]) (au (aR b a))
 |image {sc nm m u x y a b} (h:HT env sc x (au (aR a b))) (k:HT env sc y (au a)):HT env sc (.mk 53 nm m u [x,y]) (au b)
 |app {sc nm m u x y a b} (h:HT env sc x (au (aR a b))) (k:HT env sc y a):HT env sc (.mk 54 nm m u [x,y]) b
def dF{b:Bool}{t u:Ty}(h:bW b t=some u):b=true/\u=t:=by
 cases b;·cases h
 exact⟨rfl,(Option.some.inj h).symm⟩
def kT{α β:Type}{o:Option α}{f:α->Option β}{b:β}(h:o.bind f=some b):∃a,o=some a/\f a=some b:=by cases o with|none=>cases h|some a=>exact⟨a,rfl,h⟩
def Hw{t:Ty}(h:Top t)(k:(t.kind==2)=true):t=aY:=by
 rcases h with rfl|h
 ·rfl
 rw[Na h]at k;cases k
def LC{t:Ty}(h:Top t)(k:(t.kind !=2)=true):Good t:=by
 rcases h with rfl|h
 ·cases k
 exact h
def HZ{t:Ty}(h:Top t)(k:(t.kind==1)=true):t=fE:=by
 rcases h with rfl|h
 ·cases k
 cases h<;>first|rfl|cases k
def arQ{t:Ty}(h:Top t)(k:(eB t).isSome=true):∃e,t=au e:=by
 rcases DI h with⟨e,rfl,_⟩|⟨_,h,_⟩
 ·grind
 grind
def aCX{t:Ty}(h:Top t)(k:(pW t).isSome=true):∃a b,t=au (aR a b):=by
 rcases aob h with⟨a,b,rfl,_⟩|h
 ·grind
 grind
def adX{p:Ty->Bool}{a b:Ty}(h:[a,b].all p=true):p a=true/\p b=true:=by grind
def X4{n:Env}:∀(a:Bi) (s:A4) (nm:Str) (i:Int) (l:A3),bV n s false nm i a=.ok l->l.length=a.length/\∀(k:Nat) t ty,a[k]? =some t->l[k]? =some ty->bX n s t=.ok ty
 |[],s,nm,i,l,h=>by
  simp only[bV]at h
  grind
 |x::a,s,nm,i,l,h=>by
  simp only[bV]at h;cases b:bX n s x with
  |er e p=>rw[b]at h;cases h
  |ok d=>
   rw[b]at h;simp only[qc,c_0]at h;cases r:bV n s false nm (i+1) a with
   |er e p=>rw[r]at h;cases h
   |ok c=>
    rw[r]at h;let⟨f,g⟩:=X4 a s nm (i+1) c r
    grind
def aCI{e:Env}{s:A4}{nm:Str}{x:Tm}{l:A3}(h:bV e s false nm 0 [x]=.ok l):∃a,l=[a]/\bX e s x=.ok a:=by
 let⟨b,c⟩:=X4 _ _ _ _ _ h
 match l,b with|[a],_=>exact⟨a,rfl,c 0 x a rfl rfl⟩
def aCk{e:Env}{s:A4}{nm:Str}{x y:Tm}{l:A3}(h:bV e s false nm 0 [x,y]=.ok l):∃a b,l=[a,b]/\bX e s x=.ok a/\bX e s y=.ok b:=by
 let⟨d,c⟩:=X4 _ _ _ _ _ h
 match l,d with|[a,b],_=>exact⟨a,b,rfl,c 0 x a rfl rfl,c 1 y b rfl rfl⟩
def anj{n:Env}{s:A4}{nm:Str}{x y:Tm}{l:A3}(h:bV n s true nm 0 [x,y]=.ok l):∃a b e,l=[a,b]/\bX n s x=.ok a/\eB a=some e/\bX n (⟨nm,e⟩::s) y=.ok b:=by
 simp only[bV]at h;cases t:bX n s x with|er e p=>rw[t]at h;cases h|ok a=>rw[t]at h;simp only[qc]at h;cases c:eB a with|none=>rw[c]at h;cases h|some e=>grind
set_option maxRecDepth 100000 in
def apj{n:Env}(hv:aW n=true):∀(t:Tm) (d:Int) (w:A4) (ty:Ty),Wf d t->GoodS w->bX n w t=.ok ty->HT n w t ty:=λt=>Tm.ind (P:=λt=>∀(d:Int) (w:A4) (ty:Ty),Wf d t->GoodS w->bX n w t=.ok ty->HT n w t ty) (λc nm m u C ih d w ty hw V J=>by
 let⟨R,_,_,hks⟩:=hw.node;let⟨⟨h1,h2⟩,hk20,hk29,hlen,i⟩:=UW R;have hnum:c=19->0<=m/\m<=1000000000:=λe=>by subst e;simp only[qV,qAa]at R;have:=R.2.2.1;have h:(decide (0<=m)&&decide (m<=1000000000))=true:=this;rw[qAa]at h;exact⟨of_decide_eq_true h.1,of_decide_eq_true h.2⟩
 have M:iD c=0->C=[]:=λe=>by simp only[qV,qAa,BU,Tm.op,Tm.kids]at R;have:=R.1.2;rw[e]at this;exact qAD.1 (by simpa using this)
 have O:∀x∈C,∀w ty,GoodS w->bX n w x=.ok ty->HT n w x ty/\Top ty:=λx hx w ty V J=>⟨ih x hx (d+1) w ty (hks x hx) V J,sV hv V J⟩;have k1:iD c=1->∃x,C=[x]:=λe=>aj7 C (by simp only[qV,qAa,BU,Tm.op,Tm.kids]at R;have:=R.1.2;rw[e]at this;simpa using this)
 have k2:iD c=2->∃x y,C=[x,y]:=λe=>Dz C (by simp only[qV,qAa,BU,Tm.op,Tm.kids]at R;have:=R.1.2;rw[e]at this;simpa using this)
 have kx:iD c= -1->C≠[]:=λe=>by rintro rfl;simp only[qV,qAa,BU,Tm.op,Tm.kids]at R;have:=R.1.2;rw[e]at this;cases this
 -- the row
 have Q:(c==20)=false->(c==29)=false->∃l,bV n w (bY c) nm 0 C=.ok l/\jT c l=some ty:=λK L=>by simp only[bX,K,L,qBk,c_0]at J;cases hk:bV n w (bY c) nm 0 C with|er e p=>rw[hk]at J;cases J|ok l=>rw[hk]at J;exact⟨l,rfl,(Qu J).1⟩
 have one:iD c=1->(c==20)=false->(c==29)=false->bY c=false->∃x a,C=[x]/\HT n w x a/\Top a/\jT c [a]=some ty:=λe K L eb=>by obtain⟨x,rfl⟩:=k1 e;let⟨l,I,r⟩:=Q K L;rw[eb]at I;obtain⟨a,rfl,g⟩:=aCI I;have:=O x cn w a V g;exact⟨x,a,rfl,this.1,this.2,r⟩
 have A:iD c=2->(c==20)=false->(c==29)=false->bY c=false->∃x y a b,C=[x,y]/\HT n w x a/\Top a/\HT n w y b/\Top b/\jT c [a,b]=some ty:=λe K L eb=>by obtain⟨x,y,rfl⟩:=k2 e;let⟨l,I,r⟩:=Q K L;rw[eb]at I;obtain⟨a,b,rfl,g,i⟩:=aCk I;have:=O x cn w a V g;have h:=O y cn w b V i;exact⟨x,y,a,b,rfl,this.1,this.2,h.1,h.2,r⟩
 have Z:bY c=true->(c==20)=false->(c==29)=false->∃x y e b,C=[x,y]/\HT n w x (au e)/\HT n (⟨nm,e⟩::w) y b/\Top b/\jT c [au e,b]=some ty:=λeb K L=>by
  obtain⟨x,y,rfl⟩:=i eb;let⟨l,I,r⟩:=Q K L;rw[eb]at I;obtain⟨a,b,e,rfl,g,he,i⟩:=anj I;have h:=O x cn w a V g;obtain⟨hge,rfl⟩:=jV h.2 he;have D:=O y cn (⟨nm,e⟩::w) b (λq hq=>by
   rcases qAh.1 hq with rfl|hq
   ·exact hge
   exact V q hq) i
  exact⟨x,y,e,b,rfl,h.1,D.1,D.2,r⟩
 have lit:(c=1∨c=2)->HT n w (.mk c nm m u C) ty:=λe=>by
  have e0:C=[]:=M (by rcases e with rfl|rfl<;>rfl);subst e0;let⟨l,I,r⟩:=Q (by rcases e with rfl|rfl<;>rfl) (by rcases e with rfl|rfl<;>rfl);have:ty=aY:=by rcases e with rfl|rfl<;>exact(Option.some.inj r).symm
  subst this;exact .lit c e
 have W:(c=4∨c=5∨c=6∨c=7)->HT n w (.mk c nm m u C) ty:=λe=>by
  obtain⟨x,y,a,b,rfl,g,j,i,B,r⟩:=A (by rcases e with rfl|rfl|rfl|rfl<;>rfl) (by rcases e with rfl|rfl|rfl|rfl<;>rfl) (by rcases e with rfl|rfl|rfl|rfl<;>rfl) (by rcases e with rfl|rfl|rfl|rfl<;>rfl);have v:bW (vU 2 [a,b]) aY=some ty:=by rcases e with rfl|rfl|rfl|rfl<;>exact r
  obtain⟨h,rfl⟩:=dF v;let⟨D,E⟩:=adX h;rw[Hw j D]at g;rw[Hw B E]at i;exact .log c e g i
 have qu:(c=8∨c=9)->HT n w (.mk c nm m u C) ty:=λe=>by
  obtain⟨x,y,a,b,rfl,g,i,B,r⟩:=Z (by rcases e with rfl|rfl<;>rfl) (by rcases e with rfl|rfl<;>rfl) (by rcases e with rfl|rfl<;>rfl);have v:bW ((eB (au a)).isSome&&b.kind==2) aY=some ty:=by rcases e with rfl|rfl<;>exact r
  obtain⟨h,rfl⟩:=dF v;simp only[qAa]at h;rw[Hw B h.2]at i;exact .qu c e g i
 have eqc:(c=10∨c=11)->HT n w (.mk c nm m u C) ty:=λe=>by
  obtain⟨x,y,a,b,rfl,g,j,i,B,r⟩:=A (by rcases e with rfl|rfl<;>rfl) (by rcases e with rfl|rfl<;>rfl) (by rcases e with rfl|rfl<;>rfl) (by rcases e with rfl|rfl<;>rfl);have v:bW (a.kind !=2&&dI a b) aY=some ty:=by rcases e with rfl|rfl<;>exact r
  obtain⟨h,rfl⟩:=dF v;simp only[qAa]at h;have:=nU _ _ h.2;subst this;exact .eq c e (LC j h.1) g i
 have N:(c=12∨c=13∨c=14∨c=15)->HT n w (.mk c nm m u C) ty:=λe=>by
  obtain⟨x,y,a,b,rfl,g,j,i,B,r⟩:=A (by rcases e with rfl|rfl|rfl|rfl<;>rfl) (by rcases e with rfl|rfl|rfl|rfl<;>rfl) (by rcases e with rfl|rfl|rfl|rfl<;>rfl) (by rcases e with rfl|rfl|rfl|rfl<;>rfl);have v:bW (vU 1 [a,b]) aY=some ty:=by rcases e with rfl|rfl|rfl|rfl<;>exact r
  obtain⟨h,rfl⟩:=dF v;let⟨D,E⟩:=adX h;rw[HZ j D]at g;rw[HZ B E]at i;exact .ord c e g i
 have X:(c=16∨c=17)->HT n w (.mk c nm m u C) ty:=λe=>by
  obtain⟨x,y,a,b,rfl,g,j,i,B,r⟩:=A (by rcases e with rfl|rfl<;>rfl) (by rcases e with rfl|rfl<;>rfl) (by rcases e with rfl|rfl<;>rfl) (by rcases e with rfl|rfl<;>rfl);have v:(eB b).bind (λe=>bW (dI a e) aY)=some ty:=by rcases e with rfl|rfl<;>exact r
  let⟨s,z,h⟩:=kT v;obtain⟨D,rfl⟩:=dF h;have:=nU _ _ D;subst this;obtain⟨_,rfl⟩:=jV B z;exact .inn c e g i
 have G:(c=22∨c=23∨c=24∨c=25∨c=26)->HT n w (.mk c nm m u C) ty:=λe=>by
  obtain⟨x,y,a,b,rfl,g,j,i,B,r⟩:=A (by rcases e with rfl|rfl|rfl|rfl|rfl<;>rfl) (by rcases e with rfl|rfl|rfl|rfl|rfl<;>rfl) (by rcases e with rfl|rfl|rfl|rfl|rfl<;>rfl) (by rcases e with rfl|rfl|rfl|rfl|rfl<;>rfl);have v:bW (vU 1 [a,b]) fE=some ty:=by rcases e with rfl|rfl|rfl|rfl|rfl<;>exact r
  obtain⟨h,rfl⟩:=dF v;let⟨D,E⟩:=adX h;rw[HZ j D]at g;rw[HZ B E]at i;exact .num c e g i
 have S:(c=31∨c=32∨c=33)->HT n w (.mk c nm m u C) ty:=λe=>by
  obtain⟨x,y,a,b,rfl,g,j,i,B,r⟩:=A (by rcases e with rfl|rfl|rfl<;>rfl) (by rcases e with rfl|rfl|rfl<;>rfl) (by rcases e with rfl|rfl|rfl<;>rfl) (by rcases e with rfl|rfl|rfl<;>rfl);have v:bW ((eB a).isSome&&dI a b) a=some ty:=by rcases e with rfl|rfl|rfl<;>exact r
  obtain⟨h,rfl⟩:=dF v;simp only[qAa]at h;have:=nU _ _ h.2;subst this;obtain⟨s,rfl⟩:=arQ j h.1;exact .bin c e g i
 have T:(c=37∨c=38)->HT n w (.mk c nm m u C) ty:=λe=>by
  obtain⟨x,y,a,b,rfl,g,j,i,B,r⟩:=A (by rcases e with rfl|rfl<;>rfl) (by rcases e with rfl|rfl<;>rfl) (by rcases e with rfl|rfl<;>rfl) (by rcases e with rfl|rfl<;>rfl);have v:(eB a).bind (λx=>(pW b).bind λy=>bW (dI x y.1) b)=some ty:=by rcases e with rfl|rfl<;>exact r
  let⟨s,z,h⟩:=kT v;let⟨⟨p,q⟩,hq,D⟩:=kT h;obtain⟨E,rfl⟩:=dF D;have:=nU _ _ E;subst this;obtain⟨_,rfl⟩:=jV j z;obtain⟨_,_,rfl⟩:=wM B hq;exact .dres c e g i
 have U:(c=39∨c=40)->HT n w (.mk c nm m u C) ty:=λe=>by
  obtain⟨x,y,a,b,rfl,g,j,i,B,r⟩:=A (by rcases e with rfl|rfl<;>rfl) (by rcases e with rfl|rfl<;>rfl) (by rcases e with rfl|rfl<;>rfl) (by rcases e with rfl|rfl<;>rfl);have v:(pW a).bind (λx=>(eB b).bind λy=>bW (dI y x.2) a)=some ty:=by rcases e with rfl|rfl<;>exact r
  let⟨⟨p,q⟩,hq,h⟩:=kT v;let⟨s,z,D⟩:=kT h;obtain⟨E,rfl⟩:=dF D;have:=nU _ _ E;subst this;obtain⟨_,rfl⟩:=jV B z;obtain⟨_,_,rfl⟩:=wM j hq;exact .rres c e g i
 have H:(c=41∨c=42∨c=43∨c=44∨c=45)->HT n w (.mk c nm m u C) ty:=λe=>by
  obtain⟨x,y,a,b,rfl,g,j,i,B,r⟩:=A (by rcases e with rfl|rfl|rfl|rfl|rfl<;>rfl) (by rcases e with rfl|rfl|rfl|rfl|rfl<;>rfl) (by rcases e with rfl|rfl|rfl|rfl|rfl<;>rfl) (by rcases e with rfl|rfl|rfl|rfl|rfl<;>rfl);have v:(eB a).bind (λx=>(eB b).map λy=>au (au (aR x y)))=some ty:=by rcases e with rfl|rfl|rfl|rfl|rfl<;>exact r
  let⟨s,z,h⟩:=kT v;obtain⟨s2,hs2,rfl⟩:=qBs.1 h;obtain⟨_,rfl⟩:=jV j z;obtain⟨_,rfl⟩:=jV B hs2;exact .fam c e g i
 have Y:(c=48∨c=49)->HT n w (.mk c nm m u C) ty:=λe=>by
  obtain⟨x,a,rfl,g,j,r⟩:=one (by rcases e with rfl|rfl<;>rfl) (by rcases e with rfl|rfl<;>rfl) (by rcases e with rfl|rfl<;>rfl) (by rcases e with rfl|rfl<;>rfl);have v:(eB a).bind (λx=>bW (x.kind==1) fE)=some ty:=by rcases e with rfl|rfl<;>exact r
  let⟨s,z,h⟩:=kT v;obtain⟨D,rfl⟩:=dF h;obtain⟨hg,rfl⟩:=jV j z;have:=HZ (.inr hg) D;subst this;exact .ext c e g
 rcases awe h1 h2 with rfl|rfl|rfl|rfl|rfl|rfl|rfl|rfl|rfl|rfl|rfl|rfl|rfl|rfl|rfl|rfl|rfl|rfl|rfl|rfl|rfl|rfl|rfl|rfl|rfl|rfl|rfl|rfl|rfl|rfl|rfl|rfl|rfl|rfl|rfl|rfl|rfl|rfl|rfl|rfl|rfl|rfl|rfl|rfl|rfl|rfl|rfl|rfl|rfl|rfl|rfl|rfl|rfl|rfl|rfl|rfl
 ·exact lit (.inl rfl)
 ·exact lit (.inr rfl)
 ·obtain⟨x,a,rfl,g,j,r⟩:=one rfl rfl rfl rfl;obtain⟨h,rfl⟩:=dF (b:=vU 2 [a]) (t:=aY) r;rw[Hw j (by simpa[vU]using h)]at g;exact .not g
 ·exact W cn
 ·exact W cn
 ·exact W cn
 ·exact W cn
 ·exact qu cn
 ·exact qu cn
 ·exact eqc cn
 ·exact eqc cn
 ·exact N cn
 ·exact N cn
 ·exact N cn
 ·exact N cn
 ·exact X cn
 ·exact X cn
 ·obtain⟨x,y,a,b,rfl,g,j,i,B,r⟩:=A rfl rfl rfl rfl;obtain⟨h,rfl⟩:=dF (b:=(eB a).isSome&&dI a b) (t:=aY) r;simp only[qAa]at h;have:=nU _ _ h.2;subst this;obtain⟨s,rfl⟩:=arQ j h.1;exact .sub g i
 ·have:=M rfl;subst this;let⟨l,I,r⟩:=Q rfl rfl;have:ty=fE:=(Option.some.inj r).symm;subst this;exact .int (hnum rfl)
 ·have:=M rfl;subst this;simp only[bX]at J;cases I:nJ n w nm with|none=>rw[I]at J;cases J|some t=>rw[I]at J;cases J;exact .name I
 ·obtain⟨x,a,rfl,g,j,r⟩:=one rfl rfl rfl rfl;obtain⟨h,rfl⟩:=dF (b:=vU 1 [a]) (t:=fE) r;rw[HZ j (by simpa[vU]using h)]at g;exact .neg g
 ·exact G cn
 ·exact G cn
 ·exact G cn
 ·exact G cn
 ·exact G cn
 ·obtain⟨x,y,a,b,rfl,g,j,i,B,r⟩:=A rfl rfl rfl rfl;obtain⟨h,rfl⟩:=dF (b:=a.kind !=2&&b.kind !=2) (t:=aR a b) r;simp only[qAa]at h;exact .pair (LC j h.1) (LC B h.2) g i
 ·let⟨l,I,r⟩:=Q rfl rfl;let⟨h,D⟩:=X4 _ _ _ _ _ I;obtain⟨E,rfl⟩:=dF (b:=(l.headD bH).kind !=2&&l.all λx=>dI x (l.headD bH)) (t:=au (l.headD bH)) r;simp only[qAa]at E;have hne:=kx rfl;obtain⟨x,ks',rfl⟩:=LH C hne;obtain⟨a,l',rfl⟩:=LH l (by rintro rfl;cases h);have hall:∀b∈a::l',b=a:=λb i=>nU _ _ (qAP.1 E.2 b i);refine .set (LC (sV hv V (D 0 x a rfl rfl)) E.1) hne λt F=>?_;obtain⟨k,hk,rfl⟩:=qBy F;have hk':k<(a::l').length:=by rw[h];exact hk
  have h6:=D k _ _ (qAc hk) (qAc hk');rw[hall _ (qAO hk')]at h6;exact(O _ (qAO hk) w a V h6).1
 ·have:=M rfl;subst this;let⟨_,hv1,hv2⟩:=hk29 rfl;simp only[bX]at J;have F:cond (true&&!(knows n u)) (TR.er 6 []) (match bV n w (bY 29) nm 0 []with| .er e p=>.er e p| .ok l=>rJ (some (au u)))=.ok ty:=J
  cases hkn:knows n u with|false=>rw[hkn]at F;cases F|true=>rw[hkn]at F;simp only[bV]at F;have F:rJ (some (au u))=.ok ty:=F;have:=(Qu F).1;cases this;exact .empty (LC (UH hv1) (by rw[bne,hv2];rfl))
 ·obtain⟨x,y,a,b,rfl,g,j,i,B,r⟩:=A rfl rfl rfl rfl;obtain⟨h,rfl⟩:=dF (b:=vU 1 [a,b]) (t:=au fE) r;let⟨D,E⟩:=adX h;rw[HZ j D]at g;rw[HZ B E]at i;exact .range g i
 ·exact S cn
 ·exact S cn
 ·exact S cn
 ·obtain⟨x,y,a,b,rfl,g,j,i,B,r⟩:=A rfl rfl rfl rfl;let⟨s,z,h⟩:=kT (o:=eB a) (f:=λx=>(eB b).map λy=>au (aR x y)) r;obtain⟨s2,hs2,rfl⟩:=qBs.1 h;obtain⟨_,rfl⟩:=jV j z;obtain⟨_,rfl⟩:=jV B hs2;exact .prod g i
 ·obtain⟨x,y,a,b,rfl,g,j,i,B,r⟩:=A rfl rfl rfl rfl;obtain⟨h,rfl⟩:=dF (b:=(pW a).isSome&&dI a b) (t:=a) r;simp only[qAa]at h;have:=nU _ _ h.2;subst this;obtain⟨p,q,rfl⟩:=aCX j h.1;exact .over g i
 ·obtain⟨x,y,a,b,rfl,g,j,i,B,r⟩:=A rfl rfl rfl rfl;let⟨⟨p,q⟩,hq,h⟩:=kT (o:=pW a) (f:=λx=>(pW b).bind λy=>bW (dI x.2 y.1) (au (aR x.1 y.2))) r;let⟨⟨p',q'⟩,hq',D⟩:=kT h;obtain⟨E,rfl⟩:=dF D;have:=nU _ _ E;obtain⟨_,_,rfl⟩:=wM j hq;obtain⟨_,_,rfl⟩:=wM B hq';simp only at this;subst this;exact .comp g i
 ·exact T cn
 ·exact T cn
 ·exact U cn
 ·exact U cn
 ·exact H cn
 ·exact H cn
 ·exact H cn
 ·exact H cn
 ·exact H cn
 ·obtain⟨x,a,rfl,g,j,r⟩:=one rfl rfl rfl rfl;obtain⟨s,z,rfl⟩:=qBs.1 (show(eB a).map (λx=>au (au x))=some ty from r);obtain⟨_,rfl⟩:=jV j z;exact .pow g
 ·obtain⟨x,a,rfl,g,j,r⟩:=one rfl rfl rfl rfl;obtain⟨s,z,rfl⟩:=qBs.1 (show(eB a).map (λ_=>fE)=some ty from r);obtain⟨_,rfl⟩:=jV j z;exact .card g
 ·exact Y cn
 ·exact Y cn
 ·obtain⟨x,a,rfl,g,j,r⟩:=one rfl rfl rfl rfl;obtain⟨⟨p,q⟩,hq,rfl⟩:=qBs.1 (show(pW a).map (λx=>au x.1)=some ty from r);obtain⟨_,_,rfl⟩:=wM j hq;exact .dom g
 ·obtain⟨x,a,rfl,g,j,r⟩:=one rfl rfl rfl rfl;obtain⟨⟨p,q⟩,hq,rfl⟩:=qBs.1 (show(pW a).map (λx=>au x.2)=some ty from r);obtain⟨_,_,rfl⟩:=wM j hq;exact .ran g
 ·obtain⟨x,a,rfl,g,j,r⟩:=one rfl rfl rfl rfl;obtain⟨⟨p,q⟩,hq,rfl⟩:=qBs.1 (show(pW a).map (λx=>au (aR x.2 x.1))=some ty from r);obtain⟨_,_,rfl⟩:=wM j hq;exact .inv g
 ·obtain⟨x,y,a,b,rfl,g,j,i,B,r⟩:=A rfl rfl rfl rfl;let⟨⟨p,q⟩,hq,h⟩:=kT (o:=pW a) (f:=λx=>(eB b).bind λy=>bW (dI y x.1) (au x.2)) r;let⟨s,z,D⟩:=kT h;obtain⟨E,rfl⟩:=dF D;have:=nU _ _ E;obtain⟨_,_,rfl⟩:=wM j hq;obtain⟨_,rfl⟩:=jV B z;simp only at this;subst this;exact .image g i
 ·obtain⟨x,y,a,b,rfl,g,j,i,B,r⟩:=A rfl rfl rfl rfl;let⟨⟨p,q⟩,hq,h⟩:=kT (o:=pW a) (f:=λx=>bW (dI b x.1) x.2) r;obtain⟨E,rfl⟩:=dF h;have:=nU _ _ E;obtain⟨_,_,rfl⟩:=wM j hq;simp only at this;subst this;exact .app g i
 ·obtain⟨x,y,a,b,rfl,g,i,B,r⟩:=Z rfl rfl rfl;obtain⟨h,rfl⟩:=dF (b:=(eB (au a)).isSome&&b.kind==2) (t:=au a) r;simp only[qAa]at h;rw[Hw B h.2]at i;exact .compr g i
 obtain⟨x,y,a,b,rfl,g,i,B,r⟩:=Z rfl rfl rfl;let⟨s,z,h⟩:=kT (o:=eB (au a)) (f:=λx=>bW (b.kind !=2) (au (aR x b))) r;obtain⟨E,rfl⟩:=dF h;cases z;exact .fn (LC B E) g i) t
theorem adn(n:Nat)(p:Env)(a:A2)(k:Nat)(s:Int):Pk n p a (k+1) s=Me n p a (Pk n p a k) s:=rfl
theorem J2(n:Nat)(q:Env->A2->Val->Ty->Ax)(b:A3->Int->Int->Str->Af->A7->A4->A2->Ax)(p:A3)(a:Af)(c:A7)(d:A4)(e:A2)(k:Nat)(s:Int):Ba n q b p a c d e (k+1) s=yX n q b p a c d e (Ba n q b p a c d e k) s:=rfl
theorem Oo(n:Nat)(q:Env->A2->Val->Ty->Ax)(b:A3->Int->Int->Str->Af->A7->A4->A2->Ax)(p:Val)(k:Nat)(s:Int):FR n q b p (k+1) s=DN n q b p (FR n q b p k) s:=rfl
theorem Nr(n:Nat)(p:Env)(a:A2)(k:Nat)(s:Int):zW n p a (k+1) s=yu n p a (zW n p a k) s:=rfl
def aqB(c:Carrier)(l:A2)(i:Int)(s:Int)(h:idx l i=some s):(((idx l i).bind λ(x:Int)=>cond (decide (x<1)) (some true) ((idx l i).bind λ(a:Int)=>cond (decide (8<a)) (some true) (cond (decide (0<(c.elems.length:Int))) ((idx l i).bind λ(b:Int)=>some (b !=(c.elems.length:Int))) (some false)))):Ax)=some (abf c s):=by
 simp only[abf]
 grind
def arI(n:Nat)(nm:A4):∀(cs:A7) (a:A2) (p:A7) (ps:A2),p.length=ps.length->cs.length=a.length->∀k,cs.length+1<=k->zW n ⟨p++cs,nm⟩ (ps++a) k (p.length:Int)=some (cond (J4 cs a) (.nx ()) (.rt false))
 |[],a,p,ps,b,l,k,h=>by
  obtain⟨j,rfl⟩:∃j,k=j+1:=⟨k - 1,by simp at h;omega⟩;rw[Nr];unfold yu;rw[d_0 cn];rfl
 |c::cs,[],p,ps,b,l,k,h=>by simp at l
 |c::cs,s::a,p,ps,b,l,k,h=>by
  obtain⟨j,rfl⟩:∃j,k=j+1:=⟨k - 1,by simp at h;omega⟩;have i:idx (ps++s::a) (p.length:Int)=some s:=by rw[b];exact gJ _ _ _
  have d:=arI n nm cs a (p++[c]) (ps++[s]) (by simp[b]) (by simpa using l) j (by simp at h;omega);rw[Nr];unfold yu;rw[d_1 Cp];simp only[c_1];rw[gJ];simp only[qAb];rw[aqB c _ _ s i];simp only[qAb,J4];cases e:abf c s with
  |true=>rfl
  |false=>
   simp;rw[show(p.length:Int)+1=((p++[c]).length:Int) by simp];simpa using d
def amR(n:Nat)(nm:A4):∀(cs:A7) (a:A2) (p:A7) (ps:A2),p.length=ps.length->cs.length=a.length->∀k,cs.length+1<=k->Pk n ⟨p++cs,nm⟩ (ps++a) k (p.length:Int)=some (cond (J4 cs a) (.nx ()) (.rt false))
 |[],a,p,ps,h,l,k,b=>by
  obtain⟨j,rfl⟩:∃j,k=j+1:=⟨k - 1,by simp at b;omega⟩;have:a=[]:=qAD.1 (by simpa using l.symm);subst this;rw[adn];unfold Me;rw[d_0 (by simp[h])];rfl
 |c::cs,[],p,ps,h,l,k,b=>by simp at l
 |c::cs,s::a,p,ps,h,l,k,b=>by
  obtain⟨j,rfl⟩:∃j,k=j+1:=⟨k - 1,by simp at b;omega⟩;have i:idx (ps++s::a) (p.length:Int)=some s:=by rw[h];exact gJ _ _ _
  have d:=amR n nm cs a (p++[c]) (ps++[s]) (by simp[h]) (by simpa using l) j (by simp at b;omega);rw[adn];unfold Me;rw[d_1 Cp];simp only[c_1];rw[gJ];simp only[qAb];rw[aqB c _ _ s i];simp only[qAb,J4];cases e:abf c s with
  |true=>rfl
  |false=>
   simp;rw[show(p.length:Int)+1=((p++[c]).length:Int) by simp];simpa using d
def af4(e:Env)(sz:A2):Ev (λn=>Bh n e sz) (uj e sz):=by
 unfold Bh uj;cases h:((sz.length:Int)!=(e.carriers.length:Int))with
 |true=>exact Cu
 |false=>
  simp at h;refine e_0 (a:=cond (J4 e.carriers sz) (.nx ()) (.rt false)) ⟨e.carriers.length+1,λn b=>?_⟩ ?_
  ·have:=arI n e.names e.carriers sz [] [] rfl Cl n b
   simp_all
  cases J4 e.carriers sz<;>exact Cu
def av2(e:Env)(sz:A2):Ev (λn=>VG n e sz) (uj e sz):=by
 unfold VG uj;cases h:((sz.length:Int)!=(e.carriers.length:Int))with
 |true=>exact Cu
 |false=>
  simp at h;refine e_0 (a:=cond (J4 e.carriers sz) (.nx ()) (.rt false)) ⟨e.carriers.length+1,λn b=>?_⟩ ?_
  ·have:=amR n e.names e.carriers sz [] [] rfl Cl n b
   simp_all
  cases J4 e.carriers sz<;>exact Cu
inductive Shp:Ty→Prop where
 |int:Shp (.mk 1 [] [])
 |bool:Shp (.mk 2 [] [])
 |car (nm:Str):Shp (.mk 3 nm [])
 |pair {a b:Ty} (h:Shp a) (k:Shp b):Shp (.mk 4 [] [a,b])
 |set {a:Ty} (h:Shp a):Shp (.mk 5 [] [a])
mutual
theorem aAg:∀(t:Ty) (d c:Int),(pf t d c).1=true→Shp t
 | .mk k nm ks,d,c,h=>by
  simp only[pf]at h;cases hb:((decide (c+1≤16)&&decide (d≤6))&&fT k nm ks.length d)with
  |false=>rw[hb]at h;cases h
  |true=>
   rw[hb]at h;simp only[cond_true]at h;have hs:=au9 ks (d+1) (c+1) h;simp only[fT,qAa,qBe,beq_iff_eq]at hb;obtain⟨_,_,hk,hn⟩:=hb;rcases hk with⟨hk,hl⟩|⟨rfl,hl⟩|⟨rfl,hl⟩
   ·have:ks=[]:=qAD.1 hl;subst this;rcases hk with rfl|rfl|rfl
    ·have:nm=[]:=by simpa using hn
     subst this;exact .int
    ·have:nm=[]:=by simpa using hn
     subst this;exact .bool
    ·exact .car nm
   ·have:nm=[]:=by simpa using hn
    subst this
    match ks,hl with
    |[a,b],_=>exact .pair (hs a cn) (hs b cn)
   ·have:nm=[]:=by simpa using hn
    subst this
    match ks,hl with
    |[a],_=>exact .set (hs a cn)
theorem au9:∀(ks:A3) (d c:Int),(kK ks d c).1=true→∀t∈ks,Shp t
 |[],_,_,_,_,ht=>by cases ht
 |k::ks,d,c,h,t,ht=>by
  simp only[kK]at h;cases h1:(pf k d c).1 with
  |false=>rw[h1]at h;cases h
  |true=>
   rw[h1]at h;simp only[cond_true]at h;rcases qAh.1 ht with h2|ht
   ·have h3:=aAg k d c h1;rw[h2];exact h3
   ·exact au9 ks d _ h t ht
end
def PY{t:Ty}(h:bA t=true):Shp t:=aAg t 1 0 h
def arx(e:Env)(s:Str):Ev (λn=>Pz n e s) (dR (λc=>c.name==s) 0 e.carriers):=by refine e_0 (vo e.carriers (λn k i=>wY n e.carriers s k i) (λ_ x=>some (x.name==s)) (λc=>c.name==s) (λn k i=>rfl) (λx _=>Ev.ret _)) Cu
def ave{e:Env}{sz:A2}{nm:Str}(l:sz.length=e.carriers.length)(h:dP e nm=true):0<=dR (λc=>c.name==nm) 0 e.carriers/\idx sz (dR (λc=>c.name==nm) 0 e.carriers)=some (He e sz nm):=by
 have b:=mO (λc:Carrier=>c.name==nm) e.carriers 0 (qBD _);have a:e.carriers.any (λc=>c.name==nm)=true:=h;rw[a]at b;have i:0<=dR (λc:Carrier=>c.name==nm) 0 e.carriers:=by simpa using b
 rcases Dw (λc:Carrier=>c.name==nm) e.carriers []with⟨x,_,_,f,d⟩|⟨_,g⟩
 ·simp at f d;unfold He;unfold idx at d|-
  grind
 grind
def aqJ(a:Val):∀(s p:Af) (x:Val),a.kids=p++[x]++s->a.kids.length<=256->∃N,∀n,N<=n->∀k,s.length+1<=k->∀r1 r,FR n r1 r a k ((p++[x]).length:Int)=some (cond (Fp (x::s)) (.nx ()) (.rt false))
 |[],p,x,e,h=>by
  refine⟨0,λn _ k b r1 r=>?_⟩;obtain⟨j,rfl⟩:∃j,k=j+1:=⟨k - 1,by simp at b;omega⟩;rw[Oo];unfold DN;rw[d_0 (by rw[e];simp)];rfl
 |y::s,p,x,e,h=>by
  let⟨f,c⟩:=Eu x y;let⟨g,d⟩:=aqJ a s (p++[x]) y (by rw[e];simp) h;refine⟨f+g,λn o k b r1 r=>?_⟩;obtain⟨j,rfl⟩:∃j,k=j+1:=⟨k - 1,by simp at b;omega⟩;have c:dY n x y=_:=c n Cl;have d:=d n Cl j (by simp at b;omega) r1 r;have l:p.length+1<=256:=by rw[e]at h;simp at h;omega
  have w:IntKind.wrap .i64 (((p++[x]).length:Int) - 1)=(p.length:Int):=by
   rw[qAe,qAI,wrap64 Cl Cl];omega
  have i:idx a.kids (p.length:Int)=some x:=by rw[e,qAm,qCF];exact gJ _ _ _
  have m:idx a.kids ((p++[x]).length:Int)=some y:=by rw[e];exact gJ _ _ _
  rw[Oo];unfold DN;rw[d_1 (by rw[e];simp;omega),w,i,m];simp only[c_1,qAb];rw[c];simp only[qAb,Fp];cases decide (0<=bQ x y)with
  |true=>rfl
  |false=>
   simp only[c_0,qBb,qAu];rw[show((p++[x]).length:Int)+1=((p++[x]++[y]).length:Int) by simp only[qAe,qAI];omega];exact d
def anQ(e:Env)(sz:A2)(t:Ty)(H:∀v,Ev (λn=>kN n e sz v t) (hasB e sz t v)):∀(s p:Af),∃N,∀n,N<=n->∀k,s.length+1<=k->Ba n (kN n) (wF n) [t] (p++s) e.carriers e.names sz k (p.length:Int)=some (cond (s.all λv=>hasB e sz t v) (.nx ()) (.rt false))
 |[],p=>by
  refine⟨0,λn _ k h=>?_⟩;obtain⟨j,rfl⟩:∃j,k=j+1:=⟨k - 1,by simp at h;omega⟩;rw[J2];unfold yX;rw[d_0 cn];rfl
 |v::s,p=>by
  let⟨c,a⟩:=H v;let⟨d,b⟩:=anQ e sz t H s (p++[v]);refine⟨c+d,λn f k h=>?_⟩;obtain⟨j,rfl⟩:∃j,k=j+1:=⟨k - 1,by simp at h;omega⟩;have a:kN n e sz v t=_:=a n Cl;have b:=b n Cl j (by simp at h;omega);have i:idx [t] (if(([t].length:Int) - 1)<(p.length:Int)then(([t].length:Int) - 1)else(p.length:Int))=some t:=by
   simp only[qAI];have:(if(((1:Nat):Int) - 1)<(p.length:Int)then(((1:Nat):Int) - 1)else(p.length:Int))=0:=by split<;>omega
   rw[this];rfl
  rw[J2];unfold yX;rw[d_1 Cp,gJ,i];simp only[c_1,qAb];rw[show kN n (Env.mk e.carriers e.names) sz v t=kN n e sz v t from rfl,a];simp only[qAb,qBC];cases hasB e sz t v with
  |false=>rfl
  |true=>
   simp only[qAv,c_0,qAu];rw[show(p.length:Int)+1=((p++[v]).length:Int) by simp];simpa using b
def aEr(e:Env)(sz:A2)(t u:Ty)(a b:Val)(k n:Int)(s:Str)(d:Ev (λn=>kN n e sz a t) (hasB e sz t a))(f:Ev (λn=>kN n e sz b u) (hasB e sz u b)):Ev (λm=>wF m [t,u] k n s [a,b] e.carriers e.names sz) (Zk e sz [t,u] [a,b]):=by
 refine Ev.succ ?_;let⟨g,h⟩:=d;let⟨i,c⟩:=f;refine⟨g+i+3,λm l=>?_⟩;have h:kN m (Env.mk e.carriers e.names) sz a t=_:=h m Cl;have c:kN m (Env.mk e.carriers e.names) sz b u=_:=c m Cl;show wQ m _ _ [t,u] k n s [a,b] e.carriers e.names sz=_;unfold wQ;obtain⟨j,o⟩:∃j,m=j+3:=⟨m - 3,by omega⟩;have p:Ba m (kN m) (wF m) [t,u] [a,b] e.carriers e.names sz (j+3) 0=some (cond (Zk e sz [t,u] [a,b]) (.nx ()) (.rt false)):=by
  have q:idx [t,u] (if(((([t,u]:A3)).length:Int) - 1)<0 then((([t,u]:A3).length:Int) - 1)else 0)=some t:=rfl;have r:idx [t,u] (if(((([t,u]:A3)).length:Int) - 1)<0+1 then((([t,u]:A3).length:Int) - 1)else 0+1)=some u:=rfl;simp only[J2,yX,show idx [a,b] 0=some a from rfl,show idx [a,b] (0+1)=some b from rfl,Zk]
  grind
 grind
def ayM(e:Env)(sz:A2)(q:sz.length=e.carriers.length):∀{t:Ty},Shp t->(dX t).all (dP e)=true->∀v,Ev (λn=>kN n e sz v t) (hasB e sz t v):=by
 intro t h
 induction h with
 |int=>
  intro _ v;refine Ev.succ ?_;show Ev (λn=>ko n _ _ e sz v (.mk 1 [] [])) _;unfold ko;refine Ev.pos rfl ?_;refine e_0 (a:=acs v) ?_ Cu;unfold acs;cases v.kind==1<;>cases decide ((-1000000000)<=v.n)<;>cases decide (v.n<=1000000000)<;>cases v.name==[]<;>cases(v.kids.length:Int)==0<;>exact Cu
 |bool=>
  intro _ v;refine Ev.succ ?_;show Ev (λn=>ko n _ _ e sz v (.mk 2 [] [])) _;unfold ko;refine Ev.neg rfl ?_;refine Ev.pos rfl ?_;refine e_0 (a:=abw v) ?_ Cu;unfold abw;cases v.kind==2<;>cases v.n==0<;>cases v.n==1<;>cases v.name==[]<;>cases(v.kids.length:Int)==0<;>exact Cu
 |car nm=>
  intro c v;have c:dP e nm=true:=by simpa[dX]using c
  let⟨r,u⟩:=ave q c;refine Ev.succ ?_;show Ev (λn=>ko n _ _ e sz v (.mk 3 nm [])) _;unfold ko;refine Ev.neg rfl ?_;refine Ev.neg rfl ?_;refine Ev.pos rfl ?_;refine e_0 (arx e nm) ?_;refine e_0 (a:=OD e sz nm v) ?_ Cu;simp only[d_1 r,c_1,u,qAb,Ty.name];unfold OD;cases v.kind==3<;>cases v.name==nm<;>cases decide (0<=v.n)<;>cases decide (v.n<He e sz nm)<;>cases(v.kids.length:Int)==0<;>exact Cu
 |@pair a b w D i g=>
  intro c v;simp only[dX,jG,qAt,show((4:Int)==3)=false from rfl,c_0,qEa,qAa]at c;refine Ev.succ ?_;show Ev (λn=>ko n _ _ e sz v (.mk 4 [] [a,b])) _;unfold ko;refine Ev.neg rfl ?_;refine Ev.neg rfl ?_;refine Ev.neg rfl ?_;refine Ev.pos rfl ?_;refine e_0 (a:=hasB e sz (.mk 4 [] [a,b]) v) ?_ Cu;simp only[hasB,show((4:Int)==1)=false from rfl,show((4:Int)==2)=false from rfl,show((4:Int)==3)=false from rfl,show((4:Int)==4)=true from rfl,c_0,c_1,Ty.kids];cases v.kind==4 with
  |false=>exact Cu
  |true=>
   cases v.n==0 with
   |false=>exact Cu
   |true=>
    cases v.name==[]with
    |false=>exact Cu
    |true=>
     cases m:(v.kids.length:Int)==2 with
     |false=>exact Cu
     |true=>
      simp only[c_1,qAu];let⟨k,n,s,z⟩:=v;simp only[Val.kids,beq_iff_eq]at m
      match z,m with
      |[x,y],_=>exact e_0 (aEr e sz a b x y k n s (i c.1 x) (g c.2 y)) Cu
 |@set a w i=>
  intro c v;simp only[dX,jG,qAt,show((5:Int)==3)=false from rfl,c_0]at c;have H:=i c;refine Ev.succ ?_;show Ev (λn=>ko n _ _ e sz v (.mk 5 [] [a])) _;unfold ko;refine Ev.neg rfl ?_;refine Ev.neg rfl ?_;refine Ev.neg rfl ?_;refine Ev.neg rfl ?_;refine Ev.pos rfl ?_;simp only[hasB,show((5:Int)==1)=false from rfl,show((5:Int)==2)=false from rfl,show((5:Int)==3)=false from rfl,show((5:Int)==4)=false from rfl,c_0,Ty.kids];have A:(v.kind !=5)=!(v.kind==5):=rfl;have B:(v.n !=0)=!(v.n==0):=rfl;rw[A,B];cases v.kind==5 with
  |false=>refine e_0 (a:=true) Cu ?_;exact Cu
  |true=>
   cases v.n==0 with
   |false=>refine e_0 (a:=true) Cu ?_;exact Cu
   |true=>
    cases v.name==[]with
    |false=>refine e_0 (a:=true) Cu ?_;exact Cu
    |true=>
     cases d:decide (256<(v.kids.length:Int))with
     |true=>refine e_0 (a:=true) Cu ?_;exact Cu
     |false=>
      have l:v.kids.length<=256:=by simp at d;omega
      have C:Ev (λn=>wF n [a] v.kind v.n v.name v.kids e.carriers e.names sz) (v.kids.all λv=>hasB e sz a v):=by
       let⟨N,h⟩:=anQ e sz a H v.kids [];refine Ev.succ ?_;refine⟨N+v.kids.length+1,λn o=>?_⟩;have:=h n Cl n Cl;simp only[qAo,qAA]at this;show wQ n _ _ [a] v.kind v.n v.name v.kids e.carriers e.names sz=_;unfold wQ;rw[show((0:Nat):Int)=0 from rfl]at this;rw[this];cases(v.kids.all λv=>hasB e sz a v)<;>rfl
      simp only[qAv,c_0,qBb,qAu,awR];refine e_0 (e_0 C Cu) ?_;cases(v.kids.all λv=>hasB e sz a v)with
      |false=>exact Cu
      |true=>
       simp only[qAv,c_0,qAu];refine e_0 (a:=cond (Fp v.kids) (.nx ()) (.rt false)) ?_ (by cases Fp v.kids<;>exact Cu);cases f:v.kids with
       |nil=>
        refine⟨1,λn o=>?_⟩;obtain⟨j,rfl⟩:∃j,n=j+1:=⟨n - 1,by omega⟩;show FR (j+1) _ _ v (j+1) 1=_;rw[Oo];unfold DN;rw[d_0 (by rw[f];simp)];rfl
       |cons x p=>
        let⟨N,h⟩:=aqJ v p [] x (by rw[f];rfl) l;refine⟨N+p.length+1,λn o=>?_⟩;have:=h n Cl n Cl (kN n) (wF n);exact this
def avE:∀l:Af,Fp l=true↔l.Pairwise iA
 |[]=>by simp[Fp]
 |[a]=>by simp[Fp]
 |a::b::r=>by
  have i:=avE (b::r);unfold Fp;rw[qAa,i,qAV,decide_eq_false_iff_not,Int.not_le];constructor
  ·rintro⟨c,d⟩;refine qBn.2 ⟨λx hx=>?_,d⟩;rcases qAh.1 hx with rfl|hx
   ·exact c
   exact BF _ _ _ c ((qBn.1 d).1 x hx)
  intro h;exact⟨(qBn.1 h).1 b cn,(qBn.1 h).2⟩
section
variable {env:Env}{sz:A2}
def sG{v:Val}:hasB env sz fE v=true↔∃n,v=iY n/\EU n:=by
 let⟨k,n,s,a⟩:=v;rw[show hasB env sz fE (.mk k n s a)=acs (.mk k n s a) by unfold fE hasB;rfl];unfold acs iY EU;simp only[Val.kind,Val.n,Val.name,Val.kids,qAa,beq_iff_eq,Val.mk.injEq];constructor
 ·rintro⟨rfl,rfl,h,b,c⟩;have:a=[]:=qAD.1 Cl
  grind
 grind
def Aa{v:Val}:hasB env sz aY v=true↔∃b,v=aO b:=by
 let⟨k,n,s,a⟩:=v;rw[show hasB env sz aY (.mk k n s a)=abw (.mk k n s a) by unfold aY hasB;rfl];unfold abw aO;simp only[Val.kind,Val.n,Val.name,Val.kids];constructor;·simp_all
 grind
def qJ{a b:Ty}{v:Val}:hasB env sz (aR a b) v=true↔∃x y,v=aG x y/\hasB env sz a x=true/\hasB env sz b y=true:=by
 let⟨k,n,s,d⟩:=v;have e:hasB env sz (aR a b) (.mk k n s d)=(k==4&&(n==0&&(s==[]&&((d.length:Int)==2&&Zk env sz [a,b] d)))):=by unfold aR;rw[hasB];rfl
 rw[e];simp;constructor
 ·rintro⟨rfl,rfl,rfl,h,c⟩
  match d,h with
  |[x,y],_=>
   simp only[Zk,qAa,and_true]at c;exact⟨x,y,rfl,c.1,c.2⟩
  |[],h=>simp at h
  |[x],h=>simp at h
  |x::y::z::r,h=>simp at h;omega
 rintro⟨x,y,h,c,f⟩;cases h;simp only[Zk,c,f];simp
def iV{e:Ty}{v:Val}:hasB env sz (au e) v=true↔∃l,v=mkSet l/\dO l/\∀x∈l,hasB env sz e x=true:=by
 let⟨k,n,s,a⟩:=v;have e:hasB env sz (au e) (.mk k n s a)=((k==5&&(n==0&&(s==[]&&!(decide (256<(a.length:Int))))))&&(a.all (λv=>hasB env sz e v)&&Fp a)):=by unfold au;rw[hasB];simp only[awR];rfl
 rw[e];simp only[qAa,beq_iff_eq,qAV,decide_eq_false_iff_not,avE,qAP];constructor;·rintro⟨⟨rfl,rfl,rfl,h⟩,b,c⟩;exact⟨a,rfl,⟨c,by omega⟩,b⟩
 rintro⟨l,h,b,c⟩;cases h;exact⟨⟨rfl,rfl,rfl,by have:=b.2;omega⟩,c,b.1⟩
def Br{l:Af}{v:Val}(h:bF l=.ok v):v=gH l/\(sortV l).length<=256:=by
 unfold bF at h
 grind
def mZ{e:Ty}{l:Af}{v:Val}(h:bF l=.ok v)(a:∀x∈l,hasB env sz e x=true):hasB env sz (au e) v=true:=by obtain⟨rfl,b⟩:=Br h;exact iV.2 ⟨_,rfl,⟨cZ l,b⟩,λx c=>a x ((aV l x).1 c)⟩
def aq8{n:Int}{v:Val}(h:gM n=.ok v):v=iY n/\EU n:=by
 unfold gM ab1 at h;cases a:decide (1000000000<n)with|true=>rw[a]at h;cases h|false=>cases b:decide (n< -1000000000)with|true=>rw[a,b]at h;cases h|false=>rw[a,b]at h;cases h;have:=of_decide_eq_false a;have:=of_decide_eq_false b;exact⟨rfl,by omega,by omega⟩
def IX{n:Int}{v:Val}(h:gM n=.ok v):hasB env sz fE v=true:=by obtain⟨rfl,a⟩:=aq8 h;exact sG.2 ⟨_,rfl,a⟩
def lN{b:Bool}{v:Val}(h:(.ok (aO b):VR)=.ok v):hasB env sz aY v=true:=by cases h;exact Aa.2 ⟨b,rfl⟩
def then_ok{β b:Type}{r:RR β}{f:β->RR b}{v:b}(h:r.thn f=.ok v):∃a,r=.ok a/\f a=.ok v:=by cases r with|ok a=>exact⟨a,rfl,h⟩|er e=>cases h
def seq_ok{α:Type}(f:α->VR):∀(xs:List α) (ys:Af),aN (xs.map f)=.ok ys->ys.length=xs.length/\∀p∈xs.zip ys,f p.1=.ok p.2
 |[],ys,h=>by cases h;simp
 |x::xs,ys,h=>by
  rw[qAy]at h;cases a:f x with
  |er e=>rw[a]at h;cases h
  |ok v=>
   rw[a]at h;unfold aN at h;cases r:aN (xs.map f)with
   |er e=>rw[r]at h;cases h
   |ok l=>
    rw[r]at h;cases h;let⟨b,d⟩:=seq_ok f xs l r;refine⟨by simp[b],λp c=>?_⟩;rw[qDT]at c
    grind
def seq1{r:VR}{f:Af->VR}{v:Val}(h:(aN [r]).thn f=.ok v):∃a,r=.ok a/\f [a]=.ok v:=by cases r with|ok a=>exact⟨a,rfl,h⟩|er e=>cases h
def seq2{r s:VR}{f:Af->VR}{v:Val}(h:(aN [r,s]).thn f=.ok v):∃a b,r=.ok a/\s=.ok b/\f [a,b]=.ok v:=by
 cases r with
 |ok a=>
  cases s with
  |ok b=>exact⟨a,b,rfl,rfl,h⟩
  |er e=>cases h
 |er e=>cases h
def Hz{l r:Af}(h:r∈jr l):r.Sublist l:=by
 have k:∀(q p:Af) (o:List Af),(∀r∈o,r.Sublist p)->∀r∈q.foldl (λu x=>u++u.map λr=>r++[x]) o,r.Sublist (p++q):=by
  intro q
  induction q with|nil=>intro p o h r hr;rw[qAt];exact h r hr|cons y q i=>
   intro p o h r hr;have:=i (p++[y]) (o++o.map λr=>r++[y]) (λr hr=>by
    rcases qAr.1 hr with hr|hr
    ·grind
    obtain⟨z,a,rfl⟩:=qAJ.1 hr;exact(h z a).append (qDW _)) r hr
   grind
 exact k l [] [[]] (λr hr=>by simp at hr;subst hr;exact qDW _) r h
def YO{op:Int}{a b:Af}{d:Nat}(j:1<=d)(k:op=41->b.length<=d):∀(xs l:Af) (x:Val),x∈iM op a b xs l->∃m,x=gH m/\(∀p∈m,p∈l∨∃u∈xs,∃v∈b,p=aG u v)/\m.length<=l.length+d*xs.length/\lC op a b m=true
 |[],l,x,h=>by
  unfold iM at h
  grind
 |y::xs,l,x,h=>by
  have n:=YO (a:=a) j k xs;unfold iM at h;have one:∀(q:Af),(∀p∈q,∃v∈b,p=aG y v)->q.length<=d->x∈iM op a b xs (l++q)->∃m,x=gH m/\(∀p∈m,p∈l∨∃u∈y::xs,∃v∈b,p=aG u v)/\m.length<=l.length+d*(y::xs).length/\lC op a b m=true:=by
   intro q t w g;let⟨m,e,z,o,r⟩:=n (l++q) x g;refine⟨m,e,λp s=>?_,?_,r⟩
   ·grind
   simp at o|-
   grind
  cases c:(op==41)with
  |true=>
   rw[c]at h;let⟨A,i,g⟩:=qBx.1 h;have B:=Hz i;refine one _ (λp s=>?_) ?_ g
   ·grind
   grind
  |false=>
   rw[c]at h;rcases qAr.1 h with h|h
   ·cases f:(op==42)with
    |false=>rw[f]at h;cases h
    |true=>rw[f]at h;exact one [] cn cn (by simpa using h)
   let⟨v,C,g⟩:=qBx.1 h
   grind
def Sv:∀(k:Nat) (a:Int) (x:Val),x∈ints a k->∃i,x=iY i/\a<=i/\i<a+k
 |0,_,_,h=>by cases h
 |k+1,a,x,h=>by
  rcases qAh.1 h with rfl|h
  ·grind
  let⟨i,e,b,c⟩:=Sv k (a+1) x h
  grind
def IU{a b:Ty}{p:Val}(h:hasB env sz (aR a b) p=true):hasB env sz a (aJ p)=true/\hasB env sz b (aQ p)=true:=by obtain⟨x,y,rfl,c,d⟩:=qJ.1 h;exact⟨c,d⟩
def Lv{a b:Ty}{x y:Val}(h:hasB env sz a x=true)(k:hasB env sz b y=true):hasB env sz (aR a b) (aG x y)=true:=qJ.2 ⟨x,y,rfl,h,k⟩
def avw{op:Int}(B:op=41∨op=42∨op=43∨op=44∨op=45){s t:Ty}{a b:Af}(k:dO a)(C:dO b)(o:∀x∈a,hasB env sz s x=true)(q:∀x∈b,hasB env sz t x=true){l:Af}(h:l8 op a b=.ok l):
  ∀x∈l,hasB env sz (au (aR s t)) x=true:=by
 unfold l8 at h;cases e:kX op a.length b.length with
 |true=>rw[e]at h;cases h;intro x f;cases f
 |false=>
  cases g:je op b.length a.length 0 1 with
  |true=>rw[e,g]at h;cases h
  |false=>
   rw[e,g]at h;cases h;intro x f;obtain⟨d,hd1,i,r⟩:∃d,1<=d/\(op=41->b.length<=d)/\d*a.length<=256:=by
    have:=k.2;by_cases c:op=41
    ·subst c;have w:=YN (.inl rfl) a.length 0 1 (by show 2^b.length≠0;have:=qCZ (n:=b.length);omega) Cl g;rw[show lq 41 b.length=2^b.length from rfl,qCf,<-Nat.pow_mul]at w;have j:b.length*a.length<=8:=by
      rcases qDq 8 (b.length*a.length)with h|h
      ·have:=Nat.pow_lt_pow_right (a:=2) Cl h;omega
      exact h
     refine⟨b.length+1,by omega,λ_=>by omega,?_⟩;rw[qAU,qCf];rcases qCY a.length with h|h
     ·grind
     rcases qCY b.length with h'|h'
     ·grind
     have:1*a.length<=b.length*a.length:=qAQ _ h';omega
    exact⟨1,by omega,λh=>absurd h c,by omega⟩
   obtain⟨m,rfl,j,D,_⟩:=YO hd1 i a [] x f;refine iV.2 ⟨_,rfl,⟨cZ _,?_⟩,λp y=>?_⟩
   ·have:=eP m
    grind
   rcases j p ((aV m p).1 y)with h|⟨u,z,v,A,rfl⟩
   ·cases h
   exact Lv (o u z) (q v A)
inductive Scp(env:Env)(sz:A2):A4→At→Prop
 |nil:Scp env sz [] []
 |cons {nm:Str} {t:Ty} {v:Val} {sc:A4} {bs:At} (h:hasB env sz t v=true) (k:Scp env sz sc bs):Scp env sz (⟨nm,t⟩::sc) (⟨nm,v⟩::bs)
def Xp(e:Env)(sz:A2)(g:Str->Val):Prop:=∀s t,look e s=some t->hasB e sz t (g s)=true
def aCQ{g:Str->Val}(d:Xp env sz g){c:A4}{b:At}(h:Scp env sz c b)(s:Str)(t:Ty)(a:nJ env c s=some t):hasB env sz t (Ml g b s)=true:=by
 unfold nJ at a;unfold Ml
 induction h with|nil=>exact d s t a|cons h k i=>grind
end
def mem2{P:Tm->Prop}{x y:Tm}(h:∀t∈[x,y],P t):P x/\P y:=by grind
set_option maxHeartbeats 4000000 in
def sound{K:Env}{sz:A2}{g:Str->Val}(hg:Xp K sz g):∀t:Tm,∀(Q:A4) (ty:Ty) (c:At) (v:Val),HT K Q t ty->Scp K sz Q c->aj g t c=.ok v->hasB K sz ty v=true:=
 Tm.ind λM nm m u W I Q ty c v ht A h=>by
 rw[bG]at h;have S:∀{e:Ty} {w:Val},hasB K sz (au e) w=true->dO w.kids/\∀x∈w.kids,hasB K sz e x=true:=λhw=>by
  obtain⟨l,rfl,d,o⟩:=iV.1 hw;exact⟨d,o⟩
 cases ht with
 |lit M G=>rcases G with rfl|rfl<;>exact lN h
 |int _=>exact IX h
 |name D=>cases h;exact aCQ hg A _ _ D
 |empty _=>cases h;exact iV.2 ⟨[],rfl,⟨.nil,by simp⟩,λx n=>by cases n⟩
 |not _=>let⟨a,_,h⟩:=seq1 (r:=aj g _ c) (f:=bB 3) h;exact lN h
 |log M G n B=>
  rename_i x y;let⟨E,F⟩:=mem2 I;rcases G with rfl|rfl|rfl|rfl
  ·let⟨p,_,h⟩:=then_ok (r:=aj g x c) h;cases C:(p.n==1)with
   |false=>rw[C]at h;exact lN h
   |true=>rw[C]at h;exact F Q aY c v B A h
  ·let⟨p,_,h⟩:=then_ok (r:=aj g x c) h;cases C:(p.n==1)with
   |true=>rw[C]at h;exact lN h
   |false=>rw[C]at h;exact F Q aY c v B A h
  ·let⟨p,_,h⟩:=then_ok (r:=aj g x c) h;cases C:(p.n==1)with
   |false=>rw[C]at h;exact lN h
   |true=>rw[C]at h;exact F Q aY c v B A h
  let⟨a,b,_,_,h⟩:=seq2 (r:=aj g x c) (s:=aj g y c) (f:=bB 7) h;exact lN h
 |qu M G n B=>
  rename_i x y e;rcases G with rfl|rfl
  ·let⟨s,_,h⟩:=then_ok (r:=aj g x c) h;let⟨R,_,h⟩:=then_ok (r:=fH (aj g y) nm c s.kids) h;exact lN h
  let⟨s,_,h⟩:=then_ok (r:=aj g x c) h;let⟨R,_,h⟩:=then_ok (r:=fH (aj g y) nm c s.kids) h;exact lN h
 |compr n B=>
  rename_i x y e;let⟨E,F⟩:=mem2 I;let⟨s,d,h⟩:=then_ok (r:=aj g x c) h;let⟨R,o,h⟩:=then_ok (r:=fH (aj g y) nm c s.kids) h;let⟨_,T⟩:=S (E Q _ c s n A d);refine mZ (l:=(s.kids.zip R).flatMap λ(p:Val×Val)=>cond (p.2.n==1) [p.1] []) h λz hz=>?_;let⟨p,C,hz⟩:=qBx.1 hz;have X:=T p.1 (qCR (show(p.1,p.2)∈s.kids.zip R from C)).1;cases H:(p.2.n==1)with
  |false=>rw[H]at hz;cases hz
  |true=>
   rw[H]at hz;have:z=p.1:=by simpa using hz
   rw[this];exact X
 |fn Y n B=>
  rename_i x y e t;let⟨E,F⟩:=mem2 I;let⟨s,d,h⟩:=then_ok (r:=aj g x c) h;let⟨R,o,h⟩:=then_ok (r:=fH (aj g y) nm c s.kids) h;let⟨_,T⟩:=S (E Q _ c s n A d);refine mZ (l:=(s.kids.zip R).flatMap λ(p:Val×Val)=>[aG p.1 p.2]) h λz hz=>?_;let⟨p,C,hz⟩:=qBx.1 hz;have X:=T p.1 (qCR (show(p.1,p.2)∈s.kids.zip R from C)).1;have hv:=(seq_ok (λx=>aj g y (⟨nm,x⟩::c)) s.kids R o).2 p C;have:z=aG p.1 p.2:=by simpa using hz
  rw[this];exact Lv X (F _ _ _ _ B (.cons X A) hv)
 |eq M G Y n B=>
  rename_i x y t;rcases G with rfl|rfl
  ·let⟨a,b,_,_,h⟩:=seq2 (r:=aj g x c) (s:=aj g y c) (f:=bB 10) h;exact lN h
  let⟨a,b,_,_,h⟩:=seq2 (r:=aj g x c) (s:=aj g y c) (f:=bB 11) h;exact lN h
 |ord M G n B=>
  rename_i x y;rcases G with rfl|rfl|rfl|rfl
  ·let⟨a,b,_,_,h⟩:=seq2 (r:=aj g x c) (s:=aj g y c) (f:=bB 12) h;exact lN h
  ·let⟨a,b,_,_,h⟩:=seq2 (r:=aj g x c) (s:=aj g y c) (f:=bB 13) h;exact lN h
  ·let⟨a,b,_,_,h⟩:=seq2 (r:=aj g x c) (s:=aj g y c) (f:=bB 14) h;exact lN h
  let⟨a,b,_,_,h⟩:=seq2 (r:=aj g x c) (s:=aj g y c) (f:=bB 15) h;exact lN h
 |inn M G n B=>
  rename_i x y t;rcases G with rfl|rfl
  ·let⟨a,_,h⟩:=then_ok (r:=aj g x c) h;let⟨l,_,h⟩:=then_ok (r:=vv (nu g y) c) h;exact lN h
  let⟨a,_,h⟩:=then_ok (r:=aj g x c) h;let⟨l,_,h⟩:=then_ok (r:=vv (nu g y) c) h;exact lN h
 |sub n B=>
  rename_i x y t;let⟨a,_,h⟩:=then_ok (r:=aj g x c) h;let⟨l,_,h⟩:=then_ok (r:=vv (nu g y) c) h;exact lN h
 |neg n=>let⟨a,_,h⟩:=seq1 (r:=aj g _ c) (f:=bB 21) h;exact IX h
 |num M G n B=>
  rename_i x y;rcases G with rfl|rfl|rfl|rfl|rfl
  ·let⟨a,b,_,_,h⟩:=seq2 (r:=aj g x c) (s:=aj g y c) (f:=bB 22) h;exact IX h
  ·let⟨a,b,_,_,h⟩:=seq2 (r:=aj g x c) (s:=aj g y c) (f:=bB 23) h;exact IX h
  ·let⟨a,b,_,_,h⟩:=seq2 (r:=aj g x c) (s:=aj g y c) (f:=bB 24) h;exact IX h
  ·let⟨a,b,_,_,h⟩:=seq2 (r:=aj g x c) (s:=aj g y c) (f:=bB 25) h;have h:cond (b.n==0) (.er 10) (gM (Int.tdiv a.n b.n))=(.ok v:VR):=h;cases H:(b.n==0)with
   |true=>rw[H]at h;cases h
   |false=>rw[H]at h;exact IX h
  let⟨a,b,_,_,h⟩:=seq2 (r:=aj g x c) (s:=aj g y c) (f:=bB 26) h;have h:cond (decide (a.n<0) ||decide (b.n<1)) (.er 10) (gM (Int.tmod a.n b.n))=(.ok v:VR):=h;cases H:(decide (a.n<0) ||decide (b.n<1))with
  |true=>rw[H]at h;cases h
  |false=>rw[H]at h;exact IX h
 |pair ha H n B=>
  rename_i x y a b;let⟨E,F⟩:=mem2 I;let⟨a,b,d,o,h⟩:=seq2 (r:=aj g x c) (s:=aj g y c) (f:=bB 27) h;cases h;exact Lv (E _ _ _ _ n A d) (F _ _ _ _ B A o)
 |set ha hn O=>
  rename_i a;have h:(aN ((W.map (nu g)).map λk=>k.f c)).thn bF=(.ok v:VR):=h;let⟨l,D,h⟩:=then_ok h;rw[qBh]at D;let⟨d,o⟩:=seq_ok (λt=>aj g t c) W l D;refine mZ h λz hz=>?_;obtain⟨i,Z,rfl⟩:=qBy hz;have C:(W[i]' Cl,l[i])∈W.zip l:=by
   rw[qBF];exact⟨i,by simp;omega,by simp⟩
  exact I _ (qAO _) _ _ _ _ (O _ (qAO _)) A (o _ C)
 |range n B=>
  rename_i x y;let⟨E,F⟩:=mem2 I;let⟨a,b,d,o,h⟩:=seq2 (r:=aj g x c) (s:=aj g y c) (f:=bB 30) h;obtain⟨i,rfl,Z⟩:=sG.1 (E _ _ _ _ n A d);obtain⟨j,rfl,hj⟩:=sG.1 (F _ _ _ _ B A o);let⟨l,D,h⟩:=then_ok (r:=sF 30 (iY i) (iY j)) (f:=bF) h;have D:cond (decide (256<=j - i)) (.er 11) (.ok (ints i (j+1 - i).toNat))=(.ok l:xU):=D;cases H:decide (256<=j - i)with
  |true=>rw[H]at D;cases D
  |false=>
   rw[H]at D;cases D;refine mZ h λz hz=>?_;obtain⟨k,rfl,h3,h4⟩:=Sv _ _ _ hz;have:=Z.1;have:=hj.2;exact sG.2 ⟨k,rfl,by omega,by omega⟩
 |bin M G n B=>
  rename_i x y e;let⟨E,F⟩:=mem2 I;have J:∀(a b:Val),aj g x c=.ok a->aj g y c=.ok b->∀l:Af,(∀z∈l,z∈a.kids∨z∈b.kids)->bF l=.ok v->hasB K sz (au e) v=true:=λa b d o l D H=>
   mZ H λz hz=>(D z hz).elim ((S (E _ _ _ _ n A d)).2 z) ((S (F _ _ _ _ B A o)).2 z)
  rcases G with rfl|rfl|rfl
  ·let⟨a,b,d,o,h⟩:=seq2 (r:=aj g x c) (s:=aj g y c) (f:=bB 31) h;exact J a b d o _ (λz hz=>qAr.1 hz) h
  ·let⟨a,b,d,o,h⟩:=seq2 (r:=aj g x c) (s:=aj g y c) (f:=bB 32) h;exact J a b d o _ (λz hz=>.inl (qBa.1 hz).1) h
  let⟨a,b,d,o,h⟩:=seq2 (r:=aj g x c) (s:=aj g y c) (f:=bB 33) h;exact J a b d o _ (λz hz=>.inl (qBa.1 hz).1) h
 |prod n B=>
  rename_i x y s t;let⟨E,F⟩:=mem2 I;let⟨a,b,d,o,h⟩:=seq2 (r:=aj g x c) (s:=aj g y c) (f:=bB 34) h;let⟨l,D,h⟩:=then_ok (r:=sF 34 a b) (f:=bF) h;have D:cond (decide (256<(a.kids.length:Int)*b.kids.length)) (.er 11) (.ok (a.kids.flatMap λx=>b.kids.map (aG x)))=(.ok l:xU):=D;cases H:decide (256<(a.kids.length:Int)*b.kids.length)with
  |true=>rw[H]at D;cases D
  |false=>
   rw[H]at D;cases D;refine mZ h λz hz=>?_;let⟨p,C,hz⟩:=qBx.1 hz;obtain⟨q,U,rfl⟩:=qAJ.1 hz;exact Lv ((S (E _ _ _ _ n A d)).2 p C) ((S (F _ _ _ _ B A o)).2 q U)
 |over n B=>
  rename_i x y s t;let⟨E,F⟩:=mem2 I;let⟨a,b,d,o,h⟩:=seq2 (r:=aj g x c) (s:=aj g y c) (f:=bB 35) h;refine mZ (l:=a.kids.filter (λp=>!aF (d9 b.kids) (aJ p))++b.kids) h λz hz=>?_;rcases qAr.1 hz with hz|hz
  ·exact(S (E _ _ _ _ n A d)).2 z (qBa.1 hz).1
  exact(S (F _ _ _ _ B A o)).2 z hz
 |comp n B=>
  rename_i x y s t r;let⟨E,F⟩:=mem2 I;let⟨a,b,d,o,h⟩:=seq2 (r:=aj g x c) (s:=aj g y c) (f:=bB 36) h;refine mZ (l:=a.kids.flatMap λp=>b.kids.flatMap λq=>cond (eD (aQ p) (aJ q)) [aG (aJ p) (aQ q)] []) h λz hz=>?_;let⟨p,C,hz⟩:=qBx.1 hz;let⟨q,U,hz⟩:=qBx.1 hz;have C:=IU ((S (E _ _ _ _ n A d)).2 p C);have U:=IU ((S (F _ _ _ _ B A o)).2 q U);cases H:eD (aQ p) (aJ q)with
  |false=>rw[H]at hz;cases hz
  |true=>
   rw[H]at hz;have:z=aG (aJ p) (aQ q):=by simpa using hz
   rw[this];exact Lv C.1 U.2
 |dres M G n B=>
  rename_i x y s t;let⟨E,F⟩:=mem2 I;rcases G with rfl|rfl
  ·let⟨a,b,d,o,h⟩:=seq2 (r:=aj g x c) (s:=aj g y c) (f:=bB 37) h;exact mZ (l:=b.kids.filter _) h λz hz=>(S (F _ _ _ _ B A o)).2 z (qBa.1 hz).1
  let⟨a,b,d,o,h⟩:=seq2 (r:=aj g x c) (s:=aj g y c) (f:=bB 38) h;exact mZ (l:=b.kids.filter _) h λz hz=>(S (F _ _ _ _ B A o)).2 z (qBa.1 hz).1
 |rres M G n B=>
  rename_i x y s t;let⟨E,F⟩:=mem2 I;rcases G with rfl|rfl
  ·let⟨a,b,d,o,h⟩:=seq2 (r:=aj g x c) (s:=aj g y c) (f:=bB 39) h;exact mZ (l:=a.kids.filter _) h λz hz=>(S (E _ _ _ _ n A d)).2 z (qBa.1 hz).1
  let⟨a,b,d,o,h⟩:=seq2 (r:=aj g x c) (s:=aj g y c) (f:=bB 40) h;exact mZ (l:=a.kids.filter _) h λz hz=>(S (E _ _ _ _ n A d)).2 z (qBa.1 hz).1
 |fam M G n B=>
  rename_i x y s t;let⟨E,F⟩:=mem2 I;have J:∀(a b:Val),aj g x c=.ok a->aj g y c=.ok b->(l8 M a.kids b.kids).thn bF=.ok v->hasB K sz (au (au (aR s t))) v=true:=λa b d o h=>by
   let⟨l,D,h⟩:=then_ok h;let⟨P,L⟩:=S (E _ _ _ _ n A d);let⟨b1,b2⟩:=S (F _ _ _ _ B A o);exact mZ h (avw G P b1 L b2 D)
  rcases G with rfl|rfl|rfl|rfl|rfl
  ·let⟨a,b,d,o,h⟩:=seq2 (r:=aj g x c) (s:=aj g y c) (f:=bB 41) h;exact J a b d o h
  ·let⟨a,b,d,o,h⟩:=seq2 (r:=aj g x c) (s:=aj g y c) (f:=bB 42) h;exact J a b d o h
  ·let⟨a,b,d,o,h⟩:=seq2 (r:=aj g x c) (s:=aj g y c) (f:=bB 43) h;exact J a b d o h
  ·let⟨a,b,d,o,h⟩:=seq2 (r:=aj g x c) (s:=aj g y c) (f:=bB 44) h;exact J a b d o h
  let⟨a,b,d,o,h⟩:=seq2 (r:=aj g x c) (s:=aj g y c) (f:=bB 45) h;exact J a b d o h
 |pow n=>
  rename_i x e;let⟨a,d,h⟩:=seq1 (r:=aj g x c) (f:=bB 46) h;let⟨P,L⟩:=S (I x cn _ _ _ _ n A d);let⟨l,D,h⟩:=then_ok (r:=sF 46 a v0) (f:=bF) h;have D:cond (decide (8<(a.kids.length:Int))) (.er 11) (.ok ((jr a.kids).map mkSet))=(.ok l:xU):=D;cases H:decide (8<(a.kids.length:Int))with
  |true=>rw[H]at D;cases D
  |false=>
   rw[H]at D;cases D;refine mZ h λz hz=>?_;obtain⟨r,V,rfl⟩:=qAJ.1 hz;have V:=Hz V;exact iV.2 ⟨r,rfl,⟨P.1.sublist V,qAs V.length_le P.2⟩,λz hz=>L z (V.subset hz)⟩
 |card n=>let⟨a,_,h⟩:=seq1 (r:=aj g _ c) (f:=bB 47) h;exact IX h
 |ext M G n=>
  rename_i x;rcases G with rfl|rfl
  ·let⟨a,d,h⟩:=seq1 (r:=aj g x c) (f:=bB 48) h;let⟨P,L⟩:=S (I x cn _ _ _ _ n A d);have h:(match a.kids with|[]=>(.er 10:VR)|x::_=>.ok x)=(.ok v:VR):=h;cases O:a.kids with
   |nil=>rw[O]at h;cases h
   |cons z l=>rw[O]at h;cases h;exact L _ (by rw[O];simp)
  let⟨a,d,h⟩:=seq1 (r:=aj g x c) (f:=bB 49) h;let⟨P,L⟩:=S (I x cn _ _ _ _ n A d);have h:(match a.kids.getLast? with|none=>(.er 10:VR)|some x=>.ok x)=(.ok v:VR):=h;cases O:a.kids.getLast? with
  |none=>rw[O]at h;cases h
  |some z=>rw[O]at h;cases h;exact L _ (qDI O)
 |dom n=>
  rename_i x s t;let⟨a,d,h⟩:=seq1 (r:=aj g x c) (f:=bB 50) h;let⟨P,L⟩:=S (I x cn _ _ _ _ n A d);refine mZ (l:=d9 a.kids) h λz hz=>?_;obtain⟨p,C,rfl⟩:=qAJ.1 ((aV _ _).1 hz);exact(IU (L p C)).1
 |ran n=>
  rename_i x s t;let⟨a,d,h⟩:=seq1 (r:=aj g x c) (f:=bB 51) h;let⟨P,L⟩:=S (I x cn _ _ _ _ n A d);refine mZ (l:=bC a.kids) h λz hz=>?_;obtain⟨p,C,rfl⟩:=qAJ.1 ((aV _ _).1 hz);exact(IU (L p C)).2
 |inv n=>
  rename_i x s t;let⟨a,d,h⟩:=seq1 (r:=aj g x c) (f:=bB 52) h;let⟨P,L⟩:=S (I x cn _ _ _ _ n A d);refine mZ (l:=a.kids.map λp=>aG (aQ p) (aJ p)) h λz hz=>?_;obtain⟨p,C,rfl⟩:=qAJ.1 hz;exact Lv (IU (L p C)).2 (IU (L p C)).1
 |image n B=>
  rename_i x y s t;let⟨E,F⟩:=mem2 I;let⟨a,b,d,o,h⟩:=seq2 (r:=aj g x c) (s:=aj g y c) (f:=bB 53) h;refine mZ (l:=bC (a.kids.filter λp=>aF b.kids (aJ p))) h λz hz=>?_;obtain⟨p,C,rfl⟩:=qAJ.1 ((aV _ _).1 hz);exact(IU ((S (E _ _ _ _ n A d)).2 p (qBa.1 C).1)).2
 |app n B=>
  rename_i x y s;let⟨E,F⟩:=mem2 I;let⟨a,b,d,o,h⟩:=seq2 (r:=aj g x c) (s:=aj g y c) (f:=bB 54) h;have h:LV a b=(.ok v:VR):=h;unfold LV at h;have N:∀p∈a.kids.filter (λp=>eD (aJ p) b),p∈a.kids:=λp C=>(qBa.1 C).1
  match a.kids.filter (λp=>eD (aJ p) b),N,h with
  |[p],N,h=>cases h;exact(IU ((S (E _ _ _ _ n A d)).2 p (N p cn))).2
  |[],_,h=>cases h
  |p::q::r,_,h=>cases h
def uD:∀(a q:Af),a.Pairwise iA->q.Pairwise iA->(∀x∈q,x∈a)->q.Sublist a
 |[],[],_,_,_=>qDW _
 |[],x::q,_,_,h=>by have:=h x cn;cases this
 |y::a,[],_,_,_=>List.nil_sublist _
 |y::a,x::q,g,d,h=>by
  have b:=qBn.1 g;have c:=qBn.1 d;by_cases e:x=y
  ·subst e;refine(uD a q b.2 c.2 λz hz=>?_).cons_cons x;rcases qAh.1 (h z (by simp[hz]))with rfl|h'
   ·exact absurd (c.1 z hz) (oG z)
   exact h'
  have f:x∈a:=(qAh.1 (h x cn)).resolve_left e;refine(uD a (x::q) b.2 d λz hz=>?_).cons y;rcases qAh.1 hz with rfl|hz
  ·exact f
  rcases qAh.1 (h z (by simp[hz]))with rfl|h'
  ·exact absurd (c.1 z hz) (acr (b.1 x f))
  exact h'
def agC{l q:Af}(h:q.Sublist l):q∈jr l:=by
 have k:∀(l:Af) (b:List Af) (o s:Af),o∈b->s.Sublist l->o++s∈l.foldl (λu x=>u++u.map λr=>r++[x]) b:=by
  intro l
  induction l with|nil=>intro b o s c a;cases a;simpa using c|cons x l i=>intro b o s c a;rw[qBg];cases a with|cons _ a=>exact i _ o s (qAr.2 (.inl c)) a|cons_cons _ a=>rename_i d;have:=i (b++b.map λr=>r++[x]) (o++[x]) d (qAr.2 (.inr (qAJ.2 ⟨o,c,rfl⟩))) a;simpa using this
 exact k l [[]] [] q cn h
def jY{l:Af}(h:l.Pairwise iA):sortV l=l:=(vw h λ_=>Iff.rfl).symm
def xE{l m:Af}(h:∀x,x∈l↔x∈m):sortV l=sortV m:=vw (cZ l) λx=>by rw[aV];exact h x
def aqt(a:Val):∀l:Af,(a∈l->l.Pairwise iA->(Hr a l).length=l.length)/\(a∉l->(Hr a l).length=l.length+1)
 |[]=>by simp[Hr]
 |b::l=>by
  let⟨f,g⟩:=aqt a l;unfold Hr;by_cases c:bQ a b<0
  ·rw[d_1 c,c_1];refine⟨λhm p=>?_,λ_=>rfl⟩;rcases qAh.1 hm with rfl|hm
   ·exact absurd c (oG a)
   exact absurd c (acr ((qBn.1 p).1 a hm))
  rw[d_0 c,c_0];by_cases d:bQ a b=0
  ·rw[show(bQ a b==0)=true by simpa using d,c_1];exact⟨λ_ _=>rfl,λhm=>absurd (by rw[(gF a b).1 d];simp) hm⟩
  rw[show(bQ a b==0)=false by simpa using d,c_0];have n:a≠b:=λe=>d ((gF a b).2 e);refine⟨λhm p=>?_,λhm=>?_⟩
  ·rw[qAp,qAp,f ((qAh.1 hm).resolve_left n) (qBn.1 p).2]
  rw[qAp,qAp,g λh=>hm (by simp[h])]
def xQ:∀l:Af,(sortV l).length=l.length↔l.Nodup
 |[]=>by simp[sortV]
 |a::l=>by
  have i:=xQ l;have e:=eP l;let⟨b,c⟩:=aqt a (sortV l);rw[sortV,qAp,qCq];by_cases m:a∈l
  ·have:=b ((aV l a).2 m) (cZ l);constructor
   ·omega
   exact λh=>absurd m h.1
  have:=c λh=>m ((aV l a).1 h);rw[this];constructor
  ·exact λh=>⟨m,i.1 Cl⟩
  exact λh=>by rw[i.2 h.2]
def ai8(l:Af):fU (sortV l) l=true↔l.Nodup:=by unfold fU;rw[beq_iff_eq,Int.natCast_inj,xQ]
def w9(l m:Af):fU l m=true↔l.length=m.length:=by
 unfold fU
 grind
def anR(l:Af):fU (d9 l) l=true↔(l.map aJ).Nodup:=by rw[<-ai8,w9,w9,qAi];rfl
def N8(l:Af):fU (bC l) l=true↔(l.map aQ).Nodup:=by rw[<-ai8,w9,w9,qAi];rfl
def KM{op:Int}(o:op=41∨op=42∨op=43∨op=44∨op=45)(a b l:Af):lC op a b l=true↔(∀p∈l,aJ p∈a/\aQ p∈b)/\(42<=op->(l.map aJ).Nodup)/\(43<=op->(d9 l).length=a.length)/\(44<=op->(l.map aQ).Nodup)/\(op=45->(bC l).length=b.length):=by
 have d:(l.all λp=>aF a (aJ p)&&aF b (aQ p))=true↔∀p∈l,aJ p∈a/\aQ p∈b:=by
  rw[qAP];constructor;·intro h p c;have:=h p c;rw[qAa,dN,dN]at this;exact this
  intro h p c;rw[qAa,dN,dN];exact h p c
 have e:=anR l;have f:=N8 l;have g:=w9 (d9 l) a;have i:=w9 (bC l) b;unfold lC
 grind
def azs{op:Int}(o:op=41∨op=42∨op=43∨op=44∨op=45){a b m:Af}(h:lC op a b m=true):lC op a b (sortV m)=true:=by
 rw[KM o]at h|-;let⟨d,g,i,j,k⟩:=h;have l:d9 (sortV m)=d9 m:=xE λx=>by simp only[qAJ,aV]
 have s:bC (sortV m)=bC m:=xE λx=>by simp only[qAJ,aV]
 have n:∀f:Val->Val,(m.map f).Nodup->((sortV m).map f).Nodup:=λf c=>by rw[<-xQ,xE (m:=m.map f) λx=>by simp only[qAJ,aV],(xQ _).2 c,qAi,qAi,(xQ m).2 (List.Pairwise.of_map f (λa b h e=>h (by rw[e])) c)]
 exact⟨λp q=>d p ((aV m p).1 q),λh=>n _ (g h),λh=>by rw[l];exact i h,λh=>n _ (j h),λh=>by rw[s];exact k h⟩
def aCJ{a b c d:Val}(h:bQ a c<0):iA (aG a b) (aG c d):=by show bQ _ _<0;unfold aG;rw[zw,uo];simp only[zy];exact .inr ⟨(pF 4 4).2 rfl,.inr ⟨(pF 0 0).2 rfl,.inr ⟨(Qp [] []).2 rfl,.inl h⟩⟩⟩
def aBs{a b d:Val}(h:iA (aG a b) (aG a d)):iA b d:=by have h:bQ _ _<0:=h;unfold aG at h;rw[zw,uo,uo]at h;simp only[zy]at h;have e:kP 4 4=0:=(pF 4 4).2 rfl;have f:kP 0 0=0:=(pF 0 0).2 rfl;have g:=(Qp [] []).2 rfl;have c:=(gF a a).2 rfl;have n:eZ [] []=0:=rfl;show bQ b d<0;omega
def am3{op:Int}(Q:op=41∨op=42∨op=43∨op=44∨op=45){a b:Af}(R:a.Pairwise iA)(S:b.Pairwise iA):∀(xs l q:Af),xs.Pairwise iA->(∀x∈xs,x∈a)->q.Pairwise iA->(∀p∈q,p=aG (aJ p) (aQ p)/\aJ p∈xs)->(∀p∈l,aJ p∉xs)->lC op a b (l++q)=true->gH (l++q)∈iM op a b xs l
 |[],l,q,_,_,_,j,_,f=>by
  have:q=[]:=by
   cases q with
   |nil=>rfl
   |cons p q=>have:=(j p cn).2;cases this
  subst this;rw[qAt]at f|-;unfold iM;rw[f];simp
 |x::xs,l,q,G,n,k,j,T,f=>by
  have H:=qBn.1 G;have I:x∉xs:=λh=>absurd (H.1 x h) (oG x);obtain⟨d,hd1⟩:∃d,d=q.filter λp=>eD (aJ p) x:=⟨_,rfl⟩;obtain⟨i,o⟩:∃i,i=q.filter λp=>!eD (aJ p) x:=⟨_,rfl⟩;have u:∀p:Val,eD (aJ p) x=true↔aJ p=x:=λp=>by unfold eD;rw[beq_iff_eq,gF]
  have m:∀p,p∈d↔p∈q/\aJ p=x:=λp=>by rw[hd1,qBa,u]
  have J:∀p,p∈i↔p∈q/\aJ p≠x:=λp=>by
   rw[o,qBa,qAV,qDi,ne_eq,u]
  have U:d.Pairwise iA:=hd1▸k.sublist qDN;have V:i.Pairwise iA:=o▸k.sublist qDN;have W:∀p∈i,p=aG (aJ p) (aQ p)/\aJ p∈xs:=λp hp=>by
   have h:=(J p).1 hp;exact⟨(j p h.1).1,(qAh.1 (j p h.1).2).resolve_left h.2⟩
  have s:q=d++i:=by
   refine Bv _ _ k (List.pairwise_append.2 ⟨U,V,λp hp r f=>?_⟩) λp=>?_
   ·have F:=(m p).1 hp;have K:=(J r).1 f;rw[(j p F.1).1,(j r K.1).1,F.2];exact aCJ (H.1 _ (W r f).2)
   rw[qAr,m,J];by_cases h:aJ p=x<;>simp[h]
  have e1:∀w:Af,(∀p∈w,p=aG (aJ p) (aQ p)/\aJ p=x)->(w.map aQ).map (aG x)=w:=λw h=>by
   rw[qBh]
   conv=>rhs;rw[<-List.map_id w]
   refine qBu λp hp=>?_;have:=h p hp;rw[id,this.1,this.2];rfl
  have g:∀p∈d,p=aG (aJ p) (aQ p)/\aJ p=x:=λp hp=>⟨(j p ((m p).1 hp).1).1,((m p).1 hp).2⟩;have L:lC op a b ((l++d)++i)=true:=by rw[qAm,<-s];exact f
  have M:∀p∈l++d,aJ p∉xs:=λp hp=>by
   rcases qAr.1 hp with hp|hp
   ·exact λh=>T p hp (by simp[h])
   rw[(g p hp).2];exact I
  have y:=am3 Q R S xs (l++d) i H.2 (λz N=>n z (by simp[N])) V W M L;rw[qAm,<-s]at y;let⟨X,r2,r3,r4,r5⟩:=(KM Q a b _).1 f;have A:∀p∈d,aQ p∈b:=λp hp=>(X p (qAr.2 (.inr ((m p).1 hp).1))).2;unfold iM;by_cases B:op=41
  ·subst B;show _∈(jr b).flatMap _;refine qBx.2 ⟨d.map aQ,agC (uD b _ S ?_ λv hv=>?_),?_⟩
   ·rw[qDR];refine U.imp_of_mem λ{p r} hp f h=>?_;rw[(g p hp).1,(g r f).1,(g p hp).2,(g r f).2]at h;exact aBs h
   ·obtain⟨p,hp,rfl⟩:=qAJ.1 hv;exact A p hp
   rw[e1 d g];exact y
  rw[show(op==41)=false by simpa using B,c_0];have Y:=r2 Cl;rw[s,qBj,qBj]at Y;have C:=(qDe.1 (qDe.1 Y).2.1).1;have hc:d=[]∨(∃p,d=[p])∨∃p r t,d=p::r::t:=by
   match d with
   |[]=>exact .inl rfl
   |[p]=>exact .inr (.inl ⟨p,rfl⟩)
   |p::r::t=>exact .inr (.inr ⟨p,r,t,rfl⟩)
  rcases hc with c|⟨p,c⟩|⟨p,r,t,c⟩
  ·rw[c,qAt]at y;by_cases O:op=42
   ·subst O;exact qAr.2 (.inl y)
   exfalso;have h3:=r3 Cl;have D:(d9 (l++q)).Sublist a:=uD a _ R (cZ _) λz N=>by
    obtain⟨p,hp,rfl⟩:=qAJ.1 ((aV _ z).1 N);exact(X p hp).1
   have:=D.eq_of_length h3;have hx:x∈d9 (l++q):=by rw[this];exact n x cn
   let⟨p,hp,e⟩:=qAJ.1 ((aV _ x).1 hx);rcases qAr.1 hp with hp|hp
   ·exact T p hp (by rw[e];simp)
   have:=(m p).2 ⟨hp,e⟩;rw[c]at this;cases this
  ·have hp:=g p (by rw[c];simp);refine qAr.2 (.inr (qBx.2 ⟨aQ p,A p (by rw[c];simp),?_⟩));have P:(decide (44<=op)&&aF (bC l) (aQ p))=false:=by
    by_cases E:44<=op
    ·have Z:=r4 E;rw[s,qBj,qBj]at Z;have hd:=(qDe.1 Z).2.2;rw[qDB];right;rw[qDi,ne_eq,dN];intro hm;exact hd _ ((aV _ _).1 hm) (aQ p) (by rw[c];simp) rfl
    rw[d_0 E];rfl
   rw[P,c_0];have e:[aG x (aQ p)]=d:=by rw[c,<-hp.2,<-hp.1]
   rw[e];exact y
  exfalso;rw[c]at C;have F:=g p (by rw[c];simp);have K:=g r (by rw[c];simp);simp[F.2,K.2]at C
def aCR{op:Int}(o:op=41∨op=42∨op=43∨op=44∨op=45){a b q:Af}(d:b.Pairwise iA)(n:kX op a.length b.length=true):lC op a b q=false:=by
 rw[qDi];intro h;let⟨g,r,i,e,j⟩:=(KM o a b q).1 h;have c:44<=op:=by
  unfold kX at n
  grind
 have k:(d9 q).length=q.length:=(w9 _ _).1 ((anR q).2 (r Cl));have l:(bC q).length=q.length:=(w9 _ _).1 ((N8 q).2 (e c));have s:(bC q).Sublist b:=uD b _ d (cZ _) λz f=>by
  obtain⟨p,m,rfl⟩:=qAJ.1 ((aV _ z).1 f)
  grind
 unfold kX at n
 grind
def ad5{op:Int}(o:op=41∨op=42∨op=43∨op=44∨op=45){a b l q:Af}(f:dO a)(g:dO b)(c:l8 op a b=.ok l)(i:q.Pairwise iA)(k:∀p∈q,p=aG (aJ p) (aQ p)):aF (sortV l) (mkSet q)=lC op a b q:=by
 rw[qCe,dN,aV];unfold l8 at c;cases n:kX op a.length b.length with
 |true=>
  rw[n]at c;cases c;rw[aCR o g.1 n];simp
 |false=>
  cases j:je op b.length a.length 0 1 with
  |true=>rw[n,j]at c;cases c
  |false=>
   rw[n,j]at c;cases c;constructor
   ·intro h;let⟨m,e,_,_,r⟩:=YO (d:=b.length+1) Cl Cl a [] _ h;have e:q=sortV m:=by cases e;rfl
    rw[e];exact azs o r
   intro h;have s:=((KM o a b q).1 h).1;have:=am3 o f.1 g.1 a [] q f.1 (λx t=>t) i (λp h=>⟨k p h,(s p h).1⟩) (λp h=>by cases h) (by simpa using h);rw[qAo]at this;unfold gH at this;rwa[jY i]at this
end Abs
end Go.Proofs.YtneeginmfjageaaGreat
