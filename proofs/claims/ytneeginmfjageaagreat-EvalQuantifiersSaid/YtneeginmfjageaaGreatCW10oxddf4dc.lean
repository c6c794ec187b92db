/-
  Worlds: what names come to, and what Eval and Holds come to. Conditions: names are no longer than a string may be; lemmas without a program.
-/
import Derived.Test.YtneeginmfjageaaGreatCW7ox326256
set_option linter.all false
namespace Go.Proofs.YtneeginmfjageaaGreat
namespace Abs
open Go
def elems name k:=(List.range k).map λ(i:Nat)=>Val.mk 3 i name []
def Sy:List Carrier->List Int->Str->Option Val|c::a,z::b,s=>cond (c.name==s) (some (mkSet (elems c.name z.toNat))) (cond (decide (0<=gX (λe=>s==e) 0 c.elems)) (some (.mk 3 (gX (λe=>s==e) 0 c.elems) c.name [])) (Sy a b s))|_,_,_=>none
def GZ(w:S_api_World):=fB ((w.env.names.zip w.values).map λq=>(q.1.name,q.2)) []
def dX(w:S_api_World)(s:Str):Val:=match dO (GZ w) s with|some v=>v|none=>(Sy w.env.carriers w.sizes s).getD v0
theorem FJ{w}(h:j3 w=true):aW w.env=true/\rP w.env w.sizes=true/\w.values.length=w.env.names.length/\∀q∈w.env.names.zip w.values,hasB w.env w.sizes q.1.ty q.2=true:=by
 unfold j3 at h
 grind
theorem aDP nm z (h0:0<=z)(d:z<=8):Ev (λn=>Kq n nm z) (elems nm z.toNat):=by
 have a:(((List.range z.toNat).length:Nat):Int)=z:=by rw[List.length_range];omega
 have h:=wW (ρ:=List Val) (List.range z.toNat) (λn=>Au n nm z) (λi s=>(s,i)) (λi=>[Val.mk 3 (i:Int) nm []]) 1000 (by omega) (λn r s=>by
  unfold Au;rw[a,decide_eq_false (Int.lt_irrefl _)];rfl) (λpre x u s e b=>⟨0,λn f r=>by
  have c:x=pre.length:=by
   have g:=congrArg (λl=>l[pre.length]?) e
   grind
  have j:pre.length<z.toNat:=by grind
  unfold Au;rw[decide_eq_true (by simp;omega),c];rw[iJ (by simpa using b)];rfl⟩) (s0:=[]) (by rw[flatMap_one];simp;omega)
 rw[flatMap_one]at h;exact Ev.bind h (Ev.ret _)
theorem ayO es s:Ev (λn=>WX n es s) (gX (λe=>s==e) 0 es):=by exact tC es (λn k i=>adP n es s k i) (λ_ x=>some (s==x)) (λe=>s==e) (λn k i=>rfl) (λx _=>Ev.ret _)
theorem aj2:∀r ps c s z b,r.length=ps.length->G9 (r++c::s) (ps++z::b)=true->ZX c z=false|[],[],c,s,z,b,_,h=>by simp only[qAs,G9,qAb,qAS]at h;exact h.1|[],p::ps,_,_,_,_,l,_=>by simp at l|a::r,[],_,_,_,_,l,_=>by simp at l|a::r,p::ps,c,s,z,b,l,h=>by simp only[qAO,G9,qAb]at h;exact aj2 r ps c s z b (by simpa using l) h.2
theorem amb{c z}(h:ZX c z=false):1<=z/\z<=8/\((c.elems.length:Int)=0∨z=c.elems.length):=by
 unfold ZX at h
 grind
theorem aCl{e sz}(h:rP e sz=true):G9 e.carriers sz=true:=by
 unfold rP at h
 grind
theorem alx env sz (o:rP env sz=true) s:∀u a p ps,env.carriers=p++u->sz=ps++a->p.length=ps.length->u.length=a.length->
  ∃N,∀n,N<=n->∀k,u.length+1<=k->VQ n env.carriers sz s k p.length=some (match Sy u a s with|some v=>.rt (.ok v)|none=>.nx ())
 |[],[],p,ps,b,_,_,_=>by refine⟨0,λn _ k q=>?_⟩;obtain⟨j,rfl⟩:∃j,k=j+1:=⟨k - 1,by omega⟩;show Ei n env.carriers sz s _ _=_;unfold Ei;rw[decide_eq_false (by rw[b];simp)];rfl
 |[],z::a,_,_,_,_,_,h=>by simp at h|c::u,[],_,_,_,_,_,h=>by simp at h|c::u,z::a,p,ps,b,d,g,t=>by
  have f:=aCl o;rw[b,d]at f;obtain⟨B,w,_⟩:=amb (aj2 p ps c u z a g f);obtain⟨x,i⟩:=aDP c.name z (by omega) w;obtain⟨y,l⟩:=ayO c.elems s;obtain⟨A,m⟩:=alx env sz o s u a (p++[c]) (ps++[z]) (by simp[b]) (by simp[d]) (by simp[g]) (by simpa using t);refine⟨x+y+A,λn C k q=>?_⟩;obtain⟨j,rfl⟩:∃j,k=j+1:=⟨k - 1,by omega⟩;have i:Kq n c.name z=_:=i n (by omega);have l:WX n c.elems s=_:=l n (by omega);have m:=m n (by omega) j (by simp at q;omega);have r:=(dW d).2;rw[<-g]at r;show Ei n env.carriers sz s (VQ n env.carriers sz s j) _=_;unfold Ei Sy;rw[(dW b).1];simp only[cond_true,(dW b).2,qAa,r,i,l];cases c.name==s
  ·cases decide (0<=gX (λe=>s==e) 0 c.elems)
   ·rw[show(p.length:Int)+1=((p++[c]).length:Int) by simp];exact m
   rfl
  rfl
theorem ao8 env sz (P:rP env sz=true)(E:(env.carriers.map (·.name)).Nodup) s:∀u k p ps,env.carriers=p++u->sz=ps++k->p.length=ps.length->u.length=k.length->
  match Sy u k s with|some v=>∃t,(s,t)∈u.flatMap jO/\hasB env sz t v=true|none=>∀t,(s,t)∉u.flatMap jO
 |[],[],p,ps,m,_,_,_=>by simp[Sy]|[],z::k,_,_,_,_,_,h=>by simp at h|c::u,[],_,_,_,_,_,h=>by simp at h|c::u,z::k,p,ps,m,F,G,S=>by
  have l:=aCl P;rw[m,F]at l;obtain⟨W,X,T⟩:=amb (aj2 p ps c u z k G l);have B:=ao8 env sz P E s u k (p++[c]) (ps++[z]) (by simp[m]) (by simp[F]) (by simp[G]) (by simpa using S);have H:ai5 env sz c.name=z:=by
   have I:∀(q:List Carrier) (i:Int),(∀d∈q,d.name≠c.name)->gX (λd:Carrier=>d.name==c.name) i (q++c::u)=i+q.length:=by
    intro q
    induction q with|nil=>intro i _;simp[gX]|cons d q J=>
     intro i h;have w:(d.name==c.name)=false:=by simpa using h d (by simp)
     rw[qAO,gX,w,cond_false,J _ λe m=>h e (by simp[m])];simp;omega
   unfold ai5;rw[m,I p 0 (λd r K=>by rw[m,qAX,qBZ]at E;exact E.2.2 d.name (qAA.2 ⟨d,r,rfl⟩) c.name (by simp) K),Int.zero_add]
   have C:=(dW F).2;rw[<-G]at C;rw[C];rfl
  have y:∀i:Int,0<=i->i<z->hasB env sz (pq c.name) (.mk 3 i c.name [])=true:=λi w L=>by rw[show hasB env sz (pq c.name) (.mk 3 i c.name [])=SX env sz c.name (.mk 3 i c.name []) by unfold pq hasB;rfl];unfold SX;simp[Val.kind,Val.name,Val.kids,Val.n,H,w,L]
  unfold Sy;cases D:(c.name==s)with
  |true=>
   have D:=eq_of_beq D;subst D;refine⟨aj (pq c.name),by simp[jO],l9.2 ⟨_,rfl,⟨?_,?_⟩,λx Q=>?_⟩⟩;·unfold elems;rw[List.pairwise_map];refine List.Pairwise.imp (λ{a b} U=>?_) qDE;show bK _ _<0;rw[CJ,F4,F4];exact .inr ⟨(pO 3 3).2 rfl,.inl ((ajv _ _).2 (by omega))⟩
   ·unfold elems;simp;omega
   unfold elems at Q;obtain⟨i,C,rfl⟩:=qAA.1 Q;rw[qCc]at C;exact y i (by omega) (by omega)
  |false=>
   have f:=qE (λe=>s==e) c.elems 0 (qBJ _);simp only[cond_false];cases r:decide (0<=gX (λe=>s==e) 0 c.elems)with
   |true=>
    simp only[cond_true];rw[r]at f;obtain⟨e,n,o⟩:=qDw.1 f.symm;have o:s=e:=eq_of_beq o;refine⟨pq c.name,?_,y _ (of_decide_eq_true r) ?_⟩;·rw[qBh,qAn];exact .inl (qAl _ (qAA.2 ⟨e,n,by rw[o]⟩))
    rcases Fv (λe=>s==e) c.elems []with⟨x,_,_,M,A⟩|⟨_,g⟩
    ·simp only[qAC,qAs]at M A;rw[show(((0:Nat):Int))=0 from rfl]at M A;unfold idx at A;rw[if_pos M]at A;have V:=(qAy.1 A).1;rcases T with h|h<;>omega
    simp only[qAC]at g;rw[show(((0:Nat):Int))=0 from rfl]at g;have:=of_decide_eq_true r;omega
   |false=>
    simp only[cond_false];rw[r]at f;have N:∀t,(s,t)∉jO c:=λt j=>by
     unfold jO at j;rcases qAh.1 j with j|j
     ·cases j;simp at D
     obtain⟨e,n,O⟩:=qAA.1 j;cases O;have:=List.any_eq_false.1 f.symm s n;simp at this
    cases R:Sy u k s with
    |some v=>rw[R]at B;obtain⟨t,w,L⟩:=B;exact⟨t,by rw[qBh,qAn];exact .inr w,L⟩
    |none=>rw[R]at B;intro t j;rw[qBh,qAn]at j;exact j.elim (N t) (B t)
theorem aBf(ds:List Decl)(vs:List Val)(h:vs.length=ds.length):((ds.zip vs).map λq=>(q.1.name,q.2)).map (·.1)=ds.map (·.name):=by
 induction ds generalizing vs with|nil=>simp|cons d ds i=>
  cases vs with|nil=>simp at h|cons v vs=>simp_all
theorem av2{w}(h:j3 w=true) s:dO (GZ w) s=dO ((w.env.names.zip w.values).map λq=>(q.1.name,q.2)) s/\(((w.env.names.zip w.values).map λq=>(q.1.name,q.2)).map (·.1)).Nodup:=by
 obtain⟨a,c,b,d⟩:=FJ h;have n:(((w.env.names.zip w.values).map λq=>(q.1.name,q.2)).map (·.1)).Nodup:=by
  rw[aBf _ _ b];have:=(iG a).2.2.2.2;unfold names2 at this
  grind
 unfold GZ;rw[Oo _ _ _ n,KJ]
 grind
theorem azE{e}(h:aW e=true):(e.carriers.map (·.name)).Nodup:=by
 have:=(iG h).2.2.2.2;unfold names2 at this
 grind
theorem ah0{w}(h:j3 w=true) s t (a:look w.env s=some t):(∃v,dO (GZ w) s=some v/\dX w s=v/\hasB w.env w.sizes t v=true)∨∃v,dO (GZ w) s=none/\Sy w.env.carriers w.sizes s=some v/\dX w s=v/\hasB w.env w.sizes t v=true:=by
 obtain⟨e,j,y,A⟩:=FJ h;obtain⟨k,n⟩:=av2 h s;have u:∀b,(s,b)∈vI w.env->b=t:=λt' o=>by
  have:=(BX e).2 o
  grind
 unfold dX;cases m:dO (GZ w) s with
 |some v=>
  refine .inl ⟨v,rfl,rfl,?_⟩;rw[k]at m;rw[xU _ _ _ n]at m;obtain⟨q,p,f⟩:=qAA.1 m;cases f;have:=u q.1.ty (by unfold vI;rw[qAn];exact .inr (qAA.2 ⟨q.1,(qCY (show(q.1,q.2)∈w.env.names.zip w.values from p)).1,rfl⟩))
  grind
 |none=>
  have c:=ao8 w.env w.sizes j (azE e) s w.env.carriers w.sizes [] [] rfl rfl rfl (F9 j).symm;cases l:Sy w.env.carriers w.sizes s with
  |some v=>
   rw[l]at c;obtain⟨b,r,B⟩:=c;have:=u b (by unfold vI;rw[qAn];exact .inl r)
   grind
  |none=>
   exfalso;rw[l]at c;have a:=(BX e).1 a;unfold vI at a;rcases qAn.1 a with a|a
   ·exact c t a
   obtain⟨d,x,g⟩:=qAA.1 a;cases g;rw[k]at m;obtain⟨i,C,rfl⟩:=qBz x;have z:(w.env.names[i],w.values[i]'(by omega))∈w.env.names.zip w.values:=by rw[qBG];exact⟨i,by simp;omega,by simp⟩
   have:=(xU ((w.env.names.zip w.values).map λq=>(q.1.name,q.2)) w.env.names[i].name (w.values[i]'(by omega)) n).2 (qAA.2 ⟨_,z,rfl⟩);rw[m]at this;cases this
theorem Jz{w}(h:j3 w=true):GOk w.env w.sizes (dX w):=λs t b=>by rcases ah0 h s t b with⟨v,_,e,a⟩|⟨v,_,_,e,a⟩<;>rw[e]<;>exact a
theorem aDf{w}(h:j3 w=true):LkE w.env w.env.carriers w.env.names w.sizes (GZ w) (dX w):=λs t d b=>by
 obtain⟨f,a,_⟩:=FJ h;unfold acd;rcases ah0 h s t d with⟨v,e,c,_⟩|⟨v,e,c,g,_⟩
 ·refine Ev.of λn=>?_;rw[e,c];simp only[qAa,cond_true,akw]
 obtain⟨N,i⟩:=alx w.env w.sizes a s w.env.carriers w.sizes [] [] rfl rfl rfl (F9 a).symm;refine⟨N+w.env.carriers.length+1,λn j=>?_⟩
 grind
theorem alC{w}(h:j3 w=true):Ev (λn=>Kn n w) (w.env.carriers,w.env.names,w.sizes,GZ w,[]):=by
 obtain⟨d,o,t,u⟩:=FJ h;have b:=(iG d).2.1;have c:(w.env.names.zip w.values).length=w.env.names.length:=by rw[qDC];omega
 have e:=OO (ρ:=(List Carrier)×(List Decl)×(List Int)×(List (Str×Val))×(List Bound)) (w.env.names.zip w.values) (λn=>AB n w) (λi s=>(i,s)) (λq s=>.nx (ko s q.1.name q.2)) (λs=>s) (λsuf s=>s.length+suf.length<=1000) (λn r s=>by
  unfold AB;rw[c,at_end];rfl) (λpre q suf s e f=>⟨⟨0,λn v r=>by
  have p:pre.length<w.env.names.length:=by rw[<-c,e];simp
  have g:=congrArg (λl=>l[pre.length]?) e;simp at g;rw[qAc (by omega),List.getElem_zip]at g;have g:=Option.some.inj g;unfold AB;rw[decide_eq_true (by simp;omega)];have j:idx w.env.names (pre.length:Int)=some q.1:=by
   unfold idx
   grind
  have k:idx w.values (pre.length:Int)=some q.2:=by
   unfold idx
   grind
  simp only[j,k,qAa];rw[J3 (by omega)];rfl⟩,λs' a=>by cases a;have:=BR s q.1.name q.2;simp at f;omega⟩) (s0:=[]) (by simp;omega)
 rw[Wj (ρ:=(List Carrier)×(List Decl)×(List Int)×(List (Str×Val))×(List Bound)) (λ(s:List (Str×Val)) (q:Decl×Val)=>ko s q.1.name q.2)]at e;have m:(w.env.names.zip w.values).foldl (λ(s:List (Str×Val)) (q:Decl×Val)=>ko s q.1.name q.2) []=GZ w:=by unfold GZ fB;rw[List.foldl_map]
 rw[m]at e;exact Ev.bind e (Ev.ret _)
theorem ayN{cs}{ds}{sz}{m}{g}{t}(h:lX cs ds sz m g t []):Ev (λn=>ql n cs ds sz m [] t) (match aF g t []with| .ok v=>(v,0,[])| .er e=>(v0,e,[])):=by
 unfold lX at h;cases r:aF g t []with|ok v=>rw[r]at h;exact Ev.bind h (Ev.ret _)|er e=>
  rw[r]at h;obtain⟨a,z,b⟩:=h;refine Ev.bind b (Ev.of λn=>?_);have c:(decide ((0:Int)<=e)&&decide (e<=1000))=true:=by rcases a with rfl|rfl<;>rfl
  simp only[PZ.el,c];unfold Dw;rfl
def vQ(w:S_api_World)(t:Tm):Val×Int:=match aF (dX w) t []with| .ok v=>(v,0)| .er e=>(v0,e)
def fZ w t:=cond (j3 w&&dH t) (cond (jP w.env t !=0) (false,jP w.env t) (cond ((vQ w t).2==0) ((vQ w t).1.n==1,(vQ w t).2) (false,(vQ w t).2))) (false,1)
theorem PN{w}{t}(c:j3 w=true)(v:dH t=true)(h:(gq w.env t).2.2=0):∃y,(gq w.env t).1=y/\Top y/\HT w.env [] t y/\dN w.env [] t=.ok y:=by
 obtain⟨b,_⟩:=FJ c;unfold gq at h|-;rw[b,v]at h|-;cases a:dN w.env [] t with|er e p=>rw[a]at h;exact absurd h (IQ t [] e p a)|ok y=>exact⟨y,rfl,qU b Bb a,aoi b t 1 [] y (Br v) Bb a,rfl⟩
theorem aqo{w t ty}(h:j3 w=true)(v:dH t=true)(a:HT w.env [] t ty):lX w.env.carriers w.env.names w.sizes (GZ w) (dX w) t []:=
 (aC1 (Jz h) (aDf h) t).1 1 [] ty [] (Br v) a .nil (by simp)
theorem EZ w t (hs:G6 w.env)(s:mh t):Ev (λn=>jm n w t) (fZ w t):=by
 unfold jm fZ;refine Ev.bind (a:=!(j3 w&&dH t)) ?_ ?_;·refine Ev.bind (XV w hs) ?_;cases j3 w with
  |false=>exact Ev.ret _|true=>exact Ev.bind (Mh t s) (Ev.ret _)
 cases h:(j3 w&&dH t)with
 |false=>exact Ev.ret _|true=>
  rw[qAb]at h;refine Ev.bind (Y0 w.env t hs s) ?_;cases e:(jP w.env t !=0)with
  |true=>exact Ev.ret _|false=>
   have b:(gq w.env t).2.2=0:=by
    unfold jP at e
    grind
   obtain⟨y,d,f,c,_⟩:=PN h.1 h.2 b;refine Ev.bind (alC h.1) ?_;refine Ev.bind (g:=λ(x:Bool×Int×List Bound) _=>some (x.1,x.2.1)) (a:=(cond ((vQ w t).2==0) ((vQ w t).1.n==1,(vQ w t).2,[]) (false,(vQ w t).2,[]))) (Ev.bind (ayN (aqo h.1 h.2 c)) (Ev.of λn=>?_)) (Ev.of λn=>?_)
   ·unfold vQ
    grind
   grind
theorem aDa:∀t:Tm,∃c,Ev (λn=>I6 n t) c:=Tm.ind λop m k u a D=>by
 have A:∀x:Tm,∃c,x∈a->Ev (λn=>I6 n x) c:=λx=>by
  by_cases h:x∈a;·simp_all
  simp_all
 obtain⟨g,l⟩:=qCz A
 let f:Int->Tm->Int:=λi x=>cond (cO op&&i==1) (IntKind.wrap .i64 (g x*64)) (g x)
 have y:∀(b p:List Tm) (s:Int),a=p++b->∃r,∃N,∀n,N<=n->∀j,b.length+1<=j->Wm n (I6 n) (.mk op m k u a) j (s,(p.length:Int))=some r:=by
  intro b
  induction b with|nil=>intro p s d;refine⟨.nx s,0,λn _ j z=>?_⟩;obtain⟨j,rfl⟩:∃q,j=q+1:=⟨j - 1,by omega⟩;show Ef n _ (.mk op m k u a) _ _=_;unfold Ef;have e:decide ((p.length:Int)<(a.length:Int))=false:=decide_eq_false (by rw[d];simp);show cond (decide ((p.length:Int)<(a.length:Int))) _ _=_;rw[e];rfl|cons x b o=>
   intro p s d;obtain⟨N,v⟩:=l x (by rw[d];simp);obtain⟨r,M,w⟩:=o (p++[x]) (IntKind.wrap .i64 (s+f (p.length:Int) x)) (by simp[d]);refine⟨cond (decide (20000000<IntKind.wrap .i64 (s+f (p.length:Int) x))) (.rt 20000001) r,N+M,λn B j z=>?_⟩;obtain⟨j,rfl⟩:∃q,j=q+1:=⟨j - 1,by omega⟩;have v:I6 n x=_:=v n (by omega);have w:=w n (by omega) j (by simp at z;omega);show Ef n _ (.mk op m k u a) (Wm n _ (.mk op m k u a) j) _=_;unfold Ef;show cond (decide ((p.length:Int)<(a.length:Int))) (Option.bind (idx a (p.length:Int)) _) _=_;rw[(dW d).1,(dW d).2];simp only[cond_true,qAa,v,abq,Tm.op];have e:(((cond (cO op) (some ((p.length:Int)==1)) (some false)).bind λ(C:Bool)=>cond C (some (IntKind.wrap .i64 (g x*64))) (some (g x))):Option Int)=some (f (p.length:Int) x):=by show _=some (cond (cO op&&(p.length:Int)==1) _ _);cases cO op<;>cases(p.length:Int)==1<;>rfl
   rw[e];simp only[qAa];cases decide (20000000<IntKind.wrap .i64 (s+f (p.length:Int) x))with|true=>rfl|false=>simp only[cond_false];rw[show(p.length:Int)+1=((p++[x]).length:Int) by simp];exact w
 obtain⟨r,N,h⟩:=y a [] 1 rfl;refine⟨match r with| .nx s=>s| .rt s=>s,Ev.succ ⟨N+a.length+1,λn B=>?_⟩⟩;show Pb n _ (.mk op m k u a)=_;unfold Pb
 grind
theorem EU t:∃b,Ev (λn=>qJ n t) b:=by
 obtain⟨c,h⟩:=aDa t;refine⟨cond (dH t) (decide (c<=20000000)) true,?_⟩;refine Ev.bind (Ev.bind (J5 t) ?_) (Ev.ret _);cases dH t with|false=>exact Ev.ret _|true=>exact Ev.bind h (Ev.ret _)
theorem VE env:∃b,Ev (λn=>y7 n env) b:=by
 refine⟨decide ((env.carriers.length:Int)<=100)&&decide ((env.names.length:Int)<=100),Ev.of λn=>?_⟩;unfold y7
 grind
theorem qF:Ev (λn=>(gJ n).bind λx=>some x) true:=Ev.bind (a:=true) (Ev.ret _) (Ev.ret _)
theorem awZ{w t ty}(h:j3 w=true)(v:dH t=true)(a:HT w.env [] t ty):Er (aF (dX w) t []):=(aqo h v a).er
theorem holds_zero{w}{t}(h:(fZ w t).2=0):j3 w=true/\dH t=true/\HT w.env [] t aK/\∃v,aF (dX w) t []=.ok v/\fZ w t=(v.n==1,0):=by
 unfold fZ at h;cases q:(j3 w&&dH t)with|false=>rw[q]at h;cases h|true=>
  rw[q]at h;rw[qAb]at q;cases a:(jP w.env t !=0)with
  |true=>rw[a]at h;simp at a;exact absurd h a|false=>
   have p:jP w.env t=0:=by simpa using a
   have k:(gq w.env t).2.2=0/\(gq w.env t).1.kind=2:=by
    unfold jP at p
    grind
   obtain⟨y,c,d,b,_⟩:=PN q.1 q.2 k.1;rw[c]at k;have f:y=aK:=by
    rcases d with h|h
    ·exact h
    cases h<;>simp[bY,pq,aL,aj,Ty.kind]at k
   subst f;refine⟨q.1,q.2,b,?_⟩;cases r:aF (dX w) t []with
   |er e=>
    exfalso;have:=awZ q.1 q.2 b e r;have g:(vQ w t).2=e:=by unfold vQ;rw[r]
    grind
   |ok v=>
    refine⟨v,rfl,?_⟩;unfold fZ vQ
    grind
theorem OI b:((bO b).n==1)=b:=by cases b<;>rfl
theorem ajR{w t v}(h:aF (dX w) t []=.ok v):vQ w t=(v,0):=by unfold vQ;rw[h]
theorem auF{w t e}(h:aF (dX w) t []=.er e):vQ w t=(v0,e):=by unfold vQ;rw[h]
def Wh(r s:VR):=(∃e,r=.er e/\s=.er e)∨∃b,r=.ok (bO b)/\s=.ok (bO !b)
theorem opp_holds{w t s}(a:dH s=dH t)(p:jP w.env s=jP w.env t)(h:j3 w=true->Wh (aF (dX w) t []) (aF (dX w) s [])):(fZ w t).2=(fZ w s).2/\((fZ w t).2=0->(fZ w s).1=!(fZ w t).1):=by
 cases f:j3 w with|false=>unfold fZ;rw[f];exact⟨rfl,λh=>by cases h⟩|true=>
  rcases h f with⟨e,c,d⟩|⟨b,c,d⟩
  ·have:fZ w s=fZ w t:=by unfold fZ;rw[auF c,auF d,p,a]
   refine⟨by rw[this],λh=>?_⟩;obtain⟨_,_,_,v,a,_⟩:=holds_zero h;rw[c]at a;cases a
  unfold fZ;rw[ajR c,ajR d,p,a];cases(j3 w&&dH t)with|false=>exact⟨rfl,λh=>by cases h⟩|true=>
   cases p:(jP w.env t !=0)with|true=>exact⟨rfl,λh=>by simp at p;exact absurd h p⟩|false=>exact⟨rfl,λ_=>by show((bO !b).n==1)=!((bO b).n==1);rw[OI,OI]⟩
theorem axo{x y:Bool×Int}(k:x.2=y.2)(a:x.2=0->y.1=!x.1):Ev (λ_=>cond (x.2 !=y.2) (some true) (cond (x.2==0) (some (x.1==y.1)) (some false))) false:=by
 rw[show(x.2 !=y.2)=false by rw[k];simp];cases h:(x.2==0)with|false=>exact Ev.ret _|true=>rw[a (by simpa using h)];cases x.1<;>exact Ev.ret _
abbrev gF(op:Int)(a b:Tm):Tm:=.mk op [] 0 (.mk 0 [] []) [a,b]
abbrev vk(op:Int)(a:Tm):Tm:=.mk op [] 0 (.mk 0 [] []) [a]
def N8 env sc t:=dN env sc t=.ok aK
theorem ahy{n s t}(h:N8 n s t):N8 n s (vk 3 t):=by
 unfold N8 at *;have e:dA n s false [] 0 [t]=.ok [aK]:=by simp only[dA,h];rfl
 rw[dN];show(match dA n s false [] 0 [t]with| .er e p=>TR.er e p| .ok l=>Ai (gH 3 l))=_
 rw[e];rfl
theorem ah7{n}{c}{s t}{op}(o:op=4∨op=5∨op=6)(h:N8 n c s)(k:N8 n c t):N8 n c (gF op s t):=by
 unfold N8 at *;have e:dA n c false [] 0 [s,t]=.ok [aK,aK]:=by
  have a:dA n c false [] 1 [t]=.ok [aK]:=by simp only[dA,k];rfl
  simp only[dA,h];show(match dA n c false [] 1 [t]with| .er e p=>KR.er e p| .ok l=>.ok (aK::l))=_
  rw[a]
 rw[dN];rcases o with rfl|rfl|rfl
 ·show(match dA n c false [] 0 [s,t]with| .er e p=>TR.er e p| .ok l=>Ai (gH 4 l))=_
  rw[e];rfl
 ·show(match dA n c false [] 0 [s,t]with| .er e p=>TR.er e p| .ok l=>Ai (gH 5 l))=_
  rw[e];rfl
 show(match dA n c false [] 0 [s,t]with| .er e p=>TR.er e p| .ok l=>Ai (gH 6 l))=_
 rw[e];rfl
theorem aue{e t}(a:aW e=true)(v:dH t=true)(h:N8 e [] t):jP e t=0:=by unfold jP gq;rw[a,v,h];rfl
theorem auB{n}{t}(h:jP n t=0):aW n=true/\dH t=true/\N8 n [] t:=by
 have k:(gq n t).2.2=0/\(gq n t).1.kind=2:=by
  unfold jP at h
  grind
 unfold gq at k;cases q:(aW n&&dH t)with|false=>rw[q]at k;cases k.1|true=>
  rw[q]at k;rw[qAb]at q;refine⟨q.1,q.2,?_⟩;cases a:dN n [] t with|er e p=>rw[a]at k;exact absurd k.1 (IQ t [] e p a)|ok y=>rw[a]at k;unfold N8;rw[a,EY (qU q.1 Bb a) (by have:=k.2;simpa[aem]using this)]
def BoR(r:VR):=(∃e,r=.er e)∨∃b,r=.ok (bO b)
theorem awk{n}{sz}{g}(a:GOk n sz g){t}{s}{bs}(c:HT n s t aK)(hs:Scp n sz s bs):BoR (aF g t bs):=by
 cases h:aF g t bs with|er e=>exact .inl ⟨e,rfl⟩|ok v=>obtain⟨b,rfl⟩:=aer.1 (sound a t s aK bs v c hs h);exact .inr ⟨b,rfl⟩
theorem aqn g t bs {b}(h:aF g t bs=.ok (bO b)):aF g (vk 3 t) bs=.ok (bO !b):=by rw[l8];show(eY [aF g t bs]).thn (gW 3)=_;rw[h];cases b<;>rfl
theorem ZW g t bs {e}(h:aF g t bs=.er e):aF g (vk 3 t) bs=.er e:=by rw[l8];show(eY [aF g t bs]).thn (gW 3)=_;rw[h];rfl
def aID(op:Int)(r s:VR):VR:=r.thn λp=>cond (op==4&&!p.n==1) (.ok (bO false)) (cond ((op==5&&p.n==1) ||(op==6&&!(p.n==1))) (.ok (bO true)) s)
theorem agX g {op}(h:op=4∨op=5∨op=6) s t bs:aF g (gF op s t) bs=aID op (aF g s bs) (aF g t bs):=by rw[l8];rcases h with rfl|rfl|rfl<;>rfl
theorem aDo g p q (a:BoR (aF g p []))(d:BoR (aF g q [])):Wh (aF g (gF 4 p q) []) (aF g (gF 5 (vk 3 p) (vk 3 q)) [])/\Wh (aF g (gF 6 p q) []) (aF g (gF 4 p (vk 3 q)) []):=by
 rw[agX g (.inl rfl),agX g (.inr (.inl rfl)),agX g (.inr (.inr rfl)),agX g (.inl rfl)];rcases a with⟨e,h⟩|⟨b,h⟩
 ·rw[ZW g p [] h,h];exact⟨.inl ⟨e,rfl,rfl⟩,.inl ⟨e,rfl,rfl⟩⟩
 rw[aqn g p [] h,h];rcases d with⟨e,k⟩|⟨c,k⟩
 ·rw[ZW g q [] k,k];cases b
  ·exact⟨.inr ⟨false,rfl,rfl⟩,.inr ⟨true,rfl,rfl⟩⟩
  exact⟨.inl ⟨e,rfl,rfl⟩,.inl ⟨e,rfl,rfl⟩⟩
 rw[aqn g q [] k,k];cases b;·exact⟨.inr ⟨false,rfl,rfl⟩,.inr ⟨true,rfl,rfl⟩⟩
 exact⟨.inr ⟨c,rfl,rfl⟩,.inr ⟨c,rfl,by cases c<;>rfl⟩⟩
theorem apD{f f'}{nm}{bs}:∀xs:List Val,(∀x∈xs,Wh (f (⟨nm,x⟩::bs)) (f' (⟨nm,x⟩::bs)))->(∃e,jo f nm bs xs=.er e/\jo f' nm bs xs=.er e)∨∃l:List Bool,jo f nm bs xs=.ok (l.map bO)/\jo f' nm bs xs=.ok (l.map λb=>bO !b)
 |[],_=>.inr ⟨[],rfl,rfl⟩|x::xs,h=>by
  unfold jo;rw[qAz,qAz];rcases h x (by simp)with⟨e,c,d⟩|⟨b,c,d⟩
  ·rw[c,d];exact .inl ⟨e,rfl,rfl⟩
  rw[c,d];rcases apD xs λy g=>h y (by simp[g])with⟨e,k,a⟩|⟨l,k,a⟩
  ·have k:eY (xs.map λx=>f (⟨nm,x⟩::bs))=.er e:=k;have a:eY (xs.map λx=>f' (⟨nm,x⟩::bs))=.er e:=a;refine .inl ⟨e,?_,?_⟩
   ·simp only[eY,k]
   simp only[eY,a]
  have k:eY (xs.map λx=>f (⟨nm,x⟩::bs))=.ok (l.map bO):=k;have a:eY (xs.map λx=>f' (⟨nm,x⟩::bs))=.ok (l.map λb=>bO !b):=a;refine .inr ⟨b::l,?_,?_⟩;·simp only[eY,k];rfl
  simp only[eY,a];rfl
theorem aGl(l:List Bool):(l.map bO).all λy=>y.n==1=l.all id/\(l.map bO).any λy=>y.n==1=l.any id/\(l.map λb=>bO !b).all λy=>y.n==1=!l.any id/\(l.map λb=>bO !b).any λy=>y.n==1=!l.all id:=by
 induction l with|nil=>exact⟨rfl,rfl,rfl,rfl⟩|cons b l i=>obtain⟨h,a,c,d⟩:=i;simp only[qAz,qBK,qCE,h,a,c,d,OI];cases b<;>simp
theorem aEI{n}{sz}{g}(i:GOk n sz g){op m}(o:op=8∨op=9){nm}{u}{x y}{e}(j:HT n [] x (aj e))(k:HT n [⟨nm,e⟩] y aK):Wh (aF g (.mk op nm m u [x,y]) []) (aF g (.mk (17 - op) nm 0 aR [x,vk 3 y]) []):=by
 have p:aF g (.mk op nm m u [x,y]) []=(aF g x []).thn λs=>(jo (aF g y) nm [] s.kids).thn λys=>Ry op s.kids ys:=by rw[l8];rcases o with rfl|rfl<;>rfl
 have q:aF g (.mk (17 - op) nm 0 aR [x,vk 3 y]) []=(aF g x []).thn λs=>(jo (aF g (vk 3 y)) nm [] s.kids).thn λys=>Ry (17 - op) s.kids ys:=by rw[l8];rcases o with rfl|rfl<;>rfl
 rw[p,q];cases h:aF g x []with|er e=>exact .inl ⟨e,rfl,rfl⟩|ok s=>
  obtain⟨l,rfl,_,r⟩:=l9.1 (sound i x [] _ [] s j .nil h);have:=apD (f:=aF g y) (f':=aF g (vk 3 y)) (nm:=nm) (bs:=[]) l λv t=>by
   rcases awk i k (.cons (r v t) .nil)with⟨e,h⟩|⟨b,h⟩
   ·exact .inl ⟨e,h,ZW g y _ h⟩
   exact .inr ⟨b,h,aqn g y _ h⟩
  show Wh ((jo (aF g y) nm [] l).thn _) ((jo (aF g (vk 3 y)) nm [] l).thn _);rcases this with⟨e,c,d⟩|⟨a,c,d⟩
  ·rw[c,d];exact .inl ⟨e,rfl,rfl⟩
  rw[c,d];obtain⟨w,z,A,B⟩:=aGl a;rcases o with rfl|rfl
  ·exact .inr ⟨a.all id,congrArg (λb=>RR.ok (bO b)) w,congrArg (λb=>RR.ok (bO b)) B⟩
  exact .inr ⟨a.any id,congrArg (λb=>RR.ok (bO b)) z,congrArg (λb=>RR.ok (bO b)) A⟩
theorem aGE{n}(v:aW n=true){op m}(o:op=8∨op=9){nm}{u}{x y}(w:Wf 1 (.mk op nm m u [x,y]))(h:N8 n [] (.mk op nm m u [x,y])):N8 n [] (.mk (17 - op) nm 0 aR [x,vk 3 y])/\∃e,HT n [] x (aj e)/\HT n [⟨nm,e⟩] y aK:=by
 have z:=aoi v _ 1 [] _ w Bb h;refine⟨?_,by
  cases z with|qu _ _ a b=>exact⟨_,a,b⟩|log _ q=>omega|eq _ q=>omega|ord _ q=>omega|inn _ q=>omega|_=>omega⟩
 unfold N8 at *;have d:∃l,dA n [] true nm 0 [x,y]=.ok l/\aP ((aN (l.headD aR)).isSome&&((l.drop 1).headD aR).kind==2) aK=some aK:=by
  rw[dN]at h;have h:(match dA n [] true nm 0 [x,y]with| .er e p=>.er e p| .ok l=>Ai (aP ((aN (l.headD aR)).isSome&&((l.drop 1).headD aR).kind==2) aK))=TR.ok aK:=by rcases o with rfl|rfl<;>exact h
  cases k:dA n [] true nm 0 [x,y]with|er e p=>rw[k]at h;cases h|ok l=>rw[k]at h;exact⟨l,rfl,(NV h).1⟩
 obtain⟨l,A,r⟩:=d;obtain⟨a,b,e,rfl,i,s,j⟩:=al3 A;obtain⟨t,_⟩:=bV r;rw[qAb]at t;have g:=(eO (qU v Bb i) s).1;have d:b=aK:=EY (qU v (λq f=>by rcases qAh.1 f with rfl|f;exact g;cases f) j) t.2;subst d;have B:dN n [⟨nm,e⟩] (vk 3 y)=.ok aK:=ahy j;have k:dA n [] true nm 0 [x,vk 3 y]=.ok [a,aK]:=by
  rw[dA,i];have C:dA n [⟨nm,e⟩] false nm 1 [vk 3 y]=.ok [aK]:=by simp only[dA,B];rfl
  simp only[oU,cond_true,s,qAx];show(match dA n [⟨nm,e⟩] false nm 1 [vk 3 y]with| .er e p=>KR.er e p| .ok l=>.ok (a::l))=_
  rw[C]
 rw[dN];have c:(cO (17 - op))=true/\((17 - op)==20)=false/\((17 - op)==29)=false/\gH (17 - op) [a,aK]=some aK:=by have:aP ((aN a).isSome&&aK.kind==2) aK=some aK:=r;rcases o with rfl|rfl<;>exact⟨rfl,rfl,rfl,this⟩
 rw[c.1,k,c.2.1,c.2.2.1];show Ai (gH (17 - op) [a,aK])=_;rw[c.2.2.2];rfl
def Vl w l:=∃a b,l=[a,b]/\mh a/\mh b/\(dH a=true->dH b=true->(fZ w a).2=(fZ w b).2/\((fZ w a).2=0->(fZ w b).1=!(fZ w a).1))
theorem sided w {a b}(d:mh a)(f:mh b)(e:aW w.env=true)(p:N8 w.env [] a)(g:N8 w.env [] b)(h:j3 w=true->Wh (aF (dX w) a []) (aF (dX w) b [])):Vl w [a,b]:=
 ⟨a,b,rfl,d,f,λh1 c=>opp_holds (by rw[h1,c]) (by rw[aue e h1 p,aue e c g]) h⟩
theorem alz{ρ}:∀(l:List (List Tm)),gD (ρ:=ρ) (λ_ s=>.nx s) (λs=>s) l ()=.nx ()|[]=>rfl|_::l=>alz l
theorem aAo w (hs:G6 w.env) l (h:∀x∈l,Vl w x):Ev (λn=>xE n w l n 0) (.nx ()):=by
 have m:=OO l (λn=>o7 n w l) (λi _=>i) (λ_ s=>.nx s) (λb=>b) (λ_ _=>True)
  (λn r s=>by unfold o7;rw[at_end];rfl)
  (λpre z u b c _=>by
   obtain⟨p,q,rfl,d,e,y⟩:=h z (by rw[c];simp);have k:Ev (λn=>(((tV n p).bind λ(A:Bool)=>(cond (!A) (some true) ((tV n q).bind λ(f:Bool)=>some (!f)))):Option Bool).bind λ(B:Bool)=>(cond B (some (LR.nx ())) ((jm n w p).bind λ(g:Bool×Int)=>((jm n w q).bind λ(o:Bool×Int)=>(((cond (g.2 !=o.2) (some true) (cond (g.2==0) (some (g.1==o.1)) (some false))):Option Bool).bind λ(C:Bool)=>(cond C (some (LR.rt false:LR Unit Bool)) (some (LR.nx ())))))))) (LR.nx ()):=by
    refine Ev.bind (a:=!(dH p&&dH q)) (Ev.bind (J5 p) ?_) ?_;·cases dH p with|false=>exact Ev.ret _|true=>exact Ev.bind (J5 q) (Ev.ret _)
    cases v:(dH p&&dH q)with|false=>exact Ev.ret _|true=>rw[qAb]at v;obtain⟨D,E⟩:=y v.1 v.2;exact Ev.bind (EZ w p hs d) (Ev.bind (EZ w q hs e) (Ev.bind (axo D E) (Ev.ret _)))
   obtain⟨N,j⟩:=k;refine⟨⟨N,λn F r=>?_⟩,λ_ _=>trivial⟩;have j:=j n F;unfold o7;rw[(dW c).1,(dW c).2];simp only[cond_true,qAa,gK,lY,j]
   try rfl)
  (s0:=()) trivial
 rw[alz]at m;exact m
theorem YP w p q (hs:G6 w.env)(h:mh p)(h2:mh q):Ev (λn=>BH n w p q) true:=by
 obtain⟨B,C⟩:=VE w.env;obtain⟨D,E⟩:=EU p;obtain⟨F,G⟩:=EU q;unfold BH;refine Ev.bind (a:=!(B&&(D&&(F&&(!(jP w.env p !=0)&&!(jP w.env q !=0)))))) ?_ ?_;·refine Ev.bind C ?_;cases B with|false=>exact Ev.ret _|true=>
   refine Ev.bind E ?_;cases D with
   |false=>exact Ev.ret _|true=>
    refine Ev.bind G ?_;cases F with
    |false=>exact Ev.ret _|true=>
     refine Ev.bind (GI w.env p) ?_;cases jP w.env p !=0 with|true=>exact Ev.ret _|false=>exact Ev.bind (GI w.env q) (Ev.of λn=>by simp)
 cases K:(B&&(D&&(F&&(!(jP w.env p !=0)&&!(jP w.env q !=0)))))with
 |false=>exact qF|true=>
  simp only[qAb,qAS,bne_eq_false_iff_eq]at K;obtain⟨_,_,_,P,Q⟩:=K;obtain⟨i,L,d⟩:=auB P;obtain⟨_,R,j⟩:=auB Q;have S:mh (vk 3 p):=⟨by simp,h,trivial⟩;have M:mh (vk 3 q):=⟨by simp,h2,trivial⟩;have v:∀o a b,mh a->mh b->mh (gF o a b):=λop a b T U=>⟨by simp,T,U,trivial⟩;have k:j3 w=true->_:=λhw=>aDo (dX w) p q (awk (Jz hw) (aoi i p 1 [] _ (Br L) Bb d) .nil) (awk (Jz hw) (aoi i q 1 [] _ (Br R) Bb j) .nil);have N:Vl w [gF 4 p q,gF 5 (vk 3 p) (vk 3 q)]:=sided w (v _ _ _ h h2) (v _ _ _ S M) i (ah7 (.inl rfl) d j) (ah7 (.inr (.inl rfl)) (ahy d) (ahy j)) λhw=>(k hw).1;have H:Vl w [gF 6 p q,gF 4 p (vk 3 q)]:=sided w (v _ _ _ h h2) (v _ _ _ h M) i (ah7 (.inr (.inr rfl)) d j) (ah7 (.inl rfl) d (ahy j)) λhw=>(k hw).2;have s:∀l,(∀x∈l,Vl w x)->Ev (λn=>(xE n w l n 0).bind (LR.el (λ(s4:Unit)=>((gJ n).bind λ(V:Bool)=>some V)) (λr=>some r))) true:=λl I=>Ev.bind (aAo w hs l I) qF;have t:∀x∈[[gF 4 p q,gF 5 (vk 3 p) (vk 3 q)],[gF 6 p q,gF 4 p (vk 3 q)]],Vl w x:=λx f=>by
   rcases qAh.1 f with rfl|f
   ·exact N
   rcases qAh.1 f with rfl|f
   ·exact H
   cases f
  obtain⟨o,c,m,u,A⟩:=p;show Ev (λn=>((((cond (o==8) (some ((A.length:Int)==2)) (cond (o==9) (some ((A.length:Int)==2)) (some false))):Option Bool).bind λ(W:Bool)=>(cond W _ _)).bind λ(H:List (List Tm))=>_)) true;by_cases X:(o=8∨o=9)/\(A.length:Int)=2
  ·obtain⟨J,I⟩:=X;obtain⟨x,y,rfl⟩:=dh A I;obtain⟨Y,e,f,Z⟩:=aGE i J (Br L) d;have O:mh x/\mh y/\True:=h.2;have s3:Vl w [.mk o c m u [x,y],.mk (17 - o) c 0 aR [x,vk 3 y]]:=sided w h ⟨h.1,O.1,⟨by simp,O.2.1,trivial⟩,trivial⟩ i d Y λhw=>aEI (Jz hw) J f Z;refine Ev.bind (a:=[[gF 4 (.mk o c m u [x,y]) q,gF 5 (vk 3 (.mk o c m u [x,y])) (vk 3 q)],[gF 6 (.mk o c m u [x,y]) q,gF 4 (.mk o c m u [x,y]) (vk 3 q)],[.mk o c m u [x,y],.mk (17 - o) c 0 aR [x,vk 3 y]]]) (Ev.of λn=>?_) (s _ ?_)
   ·rcases J with rfl|rfl
    ·rfl
    rfl
   intro z g;rcases qAh.1 g with rfl|g
   ·exact N
   rcases qAh.1 g with rfl|g
   ·exact H
   rcases qAh.1 g with rfl|g
   ·exact s3
   cases g
  refine Ev.bind (Ev.bind (a:=false) (Ev.of λn=>?_) (Ev.ret _)) (s _ t)
  grind
end Abs
end Go.Proofs.YtneeginmfjageaaGreat
