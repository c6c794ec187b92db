/-
  Worlds: what names come to, and what Eval and Holds come to. Conditions: names are no longer than a string may be; lemmas without a program.
-/
import Derived.Test.YtneeginmfjageaaGreatCW7ox8a3f77
set_option linter.all false
namespace Go.Proofs.YtneeginmfjageaaGreat
namespace Abs
open Go
def elems name k:=(List.range k).map λ(i:Nat)=>Val.mk 3 i name []
def Sy:List Carrier->List Int->Str->Option Val|c::a,z::b,s=>cond (c.name==s) (some (mkSet (elems c.name z.toNat))) (cond (decide (0<=gX (λe=>s==e) 0 c.elems)) (some (.mk 3 (gX (λe=>s==e) 0 c.elems) c.name [])) (Sy a b s))|_,_,_=>none
def GZ(w:S_api_World):=fB ((w.env.names.zip w.values).map λq=>(q.1.name,q.2)) []
def dX(w:S_api_World)(s:Str):Val:=match dO (GZ w) s with|some v=>v|none=>(Sy w.env.carriers w.sizes s).getD v0
theorem FJ{w}(h:j3 w=true):aW w.env=true/\rP w.env w.sizes=true/\w.values.length=w.env.names.length/\∀q∈w.env.names.zip w.values,hasB w.env w.sizes q.1.ty q.2=true:=by
 unfold j3 at h
 grind
theorem aDP nm z (h0:0<=z)(d:z<=8):Ev (λn=>Kq n nm z) (elems nm z.toNat):=by
 have a:(((List.range z.toNat).length:Nat):Int)=z:=by rw[List.length_range];omega
 have h:=wW (ρ:=List Val) (List.range z.toNat) (λn=>Au n nm z) (λi s=>(s,i)) (λi=>[Val.mk 3 (i:Int) nm []]) 1000 (by omega) (λn r s=>by
  unfold Au;rw[a,decide_eq_false (Int.lt_irrefl _)];rfl) (λpre x u s e b=>⟨0,λn f r=>by
  have c:x=pre.length:=by
   have g:=congrArg (λl=>l[pre.length]?) e
   grind
  have j:pre.length<z.toNat:=by grind
  unfold Au;rw[decide_eq_true (by simp;omega),c];rw[iJ (by simpa using b)];rfl⟩) (s0:=[]) (by rw[flatMap_one];simp;omega)
 rw[flatMap_one]at h;exact Ev.bind h (Ev.ret _)
theorem ayO es s:Ev (λn=>WX n es s) (gX (λe=>s==e) 0 es):=by exact tC es (λn k i=>adP n es s k i) (λ_ x=>some (s==x)) (λe=>s==e) (λn k i=>rfl) (λx _=>Ev.ret _)
theorem aj2:∀r ps c s z b,r.length=ps.length->G9 (r++c::s) (ps++z::b)=true->ZX c z=false|[],[],c,s,z,b,_,h=>by simp only[qAs,G9,qAb,qAS]at h;exact h.1|[],p::ps,_,_,_,_,l,_=>by simp at l|a::r,[],_,_,_,_,l,_=>by simp at l|a::r,p::ps,c,s,z,b,l,h=>by simp only[qAO,G9,qAb]at h;exact aj2 r ps c s z b (by simpa using l) h.2
theorem amb{c z}(h:ZX c z=false):1<=z/\z<=8/\((c.elems.length:Int)=0∨z=c.elems.length):=by
 unfold ZX at h
 grind
theorem aCl{e sz}(h:rP e sz=true):G9 e.carriers sz=true:=by
 unfold rP at h
 grind
theorem alx env sz (o:rP env sz=true) s:∀u a p ps,env.carriers=p++u->sz=ps++a->p.length=ps.length->u.length=a.length->
  ∃N,∀n,N<=n->∀k,u.length+1<=k->VQ n env.carriers sz s k p.length=some (match Sy u a s with|some v=>.rt (.ok v)|none=>.nx ())
 |[],[],p,ps,b,_,_,_=>by refine⟨0,λn _ k q=>?_⟩;obtain⟨j,rfl⟩:∃j,k=j+1:=⟨k - 1,by omega⟩;show Ei n env.carriers sz s _ _=_;unfold Ei;rw[decide_eq_false (by rw[b];simp)];rfl
 |[],z::a,_,_,_,_,_,h=>by simp at h|c::u,[],_,_,_,_,_,h=>by simp at h|c::u,z::a,p,ps,b,d,g,t=>by
  have f:=aCl o;rw[b,d]at f;obtain⟨B,w,_⟩:=amb (aj2 p ps c u z a g f);obtain⟨x,i⟩:=aDP c.name z (by omega) w;obtain⟨y,l⟩:=ayO c.elems s;obtain⟨A,m⟩:=alx env sz o s u a (p++[c]) (ps++[z]) (by simp[b]) (by simp[d]) (by simp[g]) (by simpa using t);refine⟨x+y+A,λn C k q=>?_⟩;obtain⟨j,rfl⟩:∃j,k=j+1:=⟨k - 1,by omega⟩;have i:Kq n c.name z=_:=i n (by omega);have l:WX n c.elems s=_:=l n (by omega);have m:=m n (by omega) j (by simp at q;omega);have r:=(dW d).2;rw[<-g]at r;show Ei n env.carriers sz s (VQ n env.carriers sz s j) _=_;unfold Ei Sy;rw[(dW b).1];simp only[cond_true,(dW b).2,qAa,r,i,l];cases c.name==s
  ·cases decide (0<=gX (λe=>s==e) 0 c.elems)
   ·rw[show(p.length:Int)+1=((p++[c]).length:Int) by simp];exact m
   rfl
  rfl
theorem ao8 env sz (P:rP env sz=true)(E:(env.carriers.map (·.name)).Nodup) s:∀u k p ps,env.carriers=p++u->sz=ps++k->p.length=ps.length->u.length=k.length->
  match Sy u k s with|some v=>∃t,(s,t)∈u.flatMap jO/\hasB env sz t v=true|none=>∀t,(s,t)∉u.flatMap jO
 |[],[],p,ps,m,_,_,_=>by simp[Sy]|[],z::k,_,_,_,_,_,h=>by simp at h|c::u,[],_,_,_,_,_,h=>by simp at h|c::u,z::k,p,ps,m,F,G,S=>by
  have l:=aCl P;rw[m,F]at l;obtain⟨W,X,T⟩:=amb (aj2 p ps c u z k G l);have B:=ao8 env sz P E s u k (p++[c]) (ps++[z]) (by simp[m]) (by simp[F]) (by simp[G]) (by simpa using S);have H:ai5 env sz c.name=z:=by
   have I:∀(q:List Carrier) (i:Int),(∀d∈q,d.name≠c.name)->gX (λd:Carrier=>d.name==c.name) i (q++c::u)=i+q.length:=by
    intro q
    induction q with|nil=>intro i _;simp[gX]|cons d q J=>
     intro i h;have w:(d.name==c.name)=false:=by simpa using h d (by simp)
     rw[qAO,gX,w,cond_false,J _ λe m=>h e (by simp[m])];simp;omega
   unfold ai5;rw[m,I p 0 (λd r K=>by rw[m,qAX,qBZ]at E;exact E.2.2 d.name (qAA.2 ⟨d,r,rfl⟩) c.name (by simp) K),Int.zero_add]
   have C:=(dW F).2;rw[<-G]at C;rw[C];rfl
  have y:∀i:Int,0<=i->i<z->hasB env sz (pq c.name) (.mk 3 i c.name [])=true:=λi w L=>by rw[show hasB env sz (pq c.name) (.mk 3 i c.name [])=SX env sz c.name (.mk 3 i c.name []) by unfold pq hasB;rfl];unfold SX;simp[Val.kind,Val.name,Val.kids,Val.n,H,w,L]
  unfold Sy;cases D:(c.name==s)with
  |true=>
   have D:=eq_of_beq D;subst D;refine⟨aj (pq c.name),by simp[jO],l9.2 ⟨_,rfl,⟨?_,?_⟩,λx Q=>?_⟩⟩;·unfold elems;rw[List.pairwise_map];refine List.Pairwise.imp (λ{a b} U=>?_) qDE;show bK _ _<0;rw[CJ,F4,F4];exact .inr ⟨(pO 3 3).2 rfl,.inl ((ajv _ _).2 (by omega))⟩
   ·unfold elems;simp;omega
   unfold elems at Q;obtain⟨i,C,rfl⟩:=qAA.1 Q;rw[qCc]at C;exact y i (by omega) (by omega)
  |false=>
   have f:=qE (λe=>s==e) c.elems 0 (qBJ _);simp only[cond_false];cases r:decide (0<=gX (λe=>s==e) 0 c.elems)with
   |true=>
    simp only[cond_true];rw[r]at f;obtain⟨e,n,o⟩:=qDw.1 f.symm;have o:s=e:=eq_of_beq o;refine⟨pq c.name,?_,y _ (of_decide_eq_true r) ?_⟩;·rw[qBh,qAn];exact .inl (qAl _ (qAA.2 ⟨e,n,by rw[o]⟩))
    rcases Fv (λe=>s==e) c.elems []with⟨x,_,_,M,A⟩|⟨_,g⟩
    ·simp only[qAC,qAs]at M A;rw[show(((0:Nat):Int))=0 from rfl]at M A;unfold idx at A;rw[if_pos M]at A;have V:=(qAy.1 A).1;rcases T with h|h<;>omega
    simp only[qAC]at g;rw[show(((0:Nat):Int))=0 from rfl]at g;have:=of_decide_eq_true r;omega
   |false=>
    simp only[cond_false];rw[r]at f;have N:∀t,(s,t)∉jO c:=λt j=>by
     unfold jO at j;rcases qAh.1 j with j|j
     ·cases j;simp at D
     obtain⟨e,n,O⟩:=qAA.1 j;cases O;have:=List.any_eq_false.1 f.symm s n;simp at this
    cases R:Sy u k s with
    |some v=>rw[R]at B;obtain⟨t,w,L⟩:=B;exact⟨t,by rw[qBh,qAn];exact .inr w,L⟩
    |none=>rw[R]at B;intro t j;rw[qBh,qAn]at j;exact j.elim (N t) (B t)
theorem aBf(ds:List Decl)(vs:List Val)(h:vs.length=ds.length):((ds.zip vs).map λq=>(q.1.name,q.2)).map (·.1)=ds.map (·.name):=by
 induction ds generalizing vs with|nil=>simp|cons d ds i=>
  cases vs with|nil=>simp at h|cons v vs=>simp_all
theorem av2{w}(h:j3 w=true) s:dO (GZ w) s=dO ((w.env.names.zip w.values).map λq=>(q.1.name,q.2)) s/\(((w.env.names.zip w.values).map λq=>(q.1.name,q.2)).map (·.1)).Nodup:=by
 obtain⟨a,c,b,d⟩:=FJ h;have n:(((w.env.names.zip w.values).map λq=>(q.1.name,q.2)).map (·.1)).Nodup:=by
  rw[aBf _ _ b];have:=(iG a).2.2.2.2;unfold names2 at this
  grind
 unfold GZ;rw[Oo _ _ _ n,KJ]
 grind
theorem azE{e}(h:aW e=true):(e.carriers.map (·.name)).Nodup:=by
 have:=(iG h).2.2.2.2;unfold names2 at this
 grind
theorem ah0{w}(h:j3 w=true) s t (a:look w.env s=some t):(∃v,dO (GZ w) s=some v/\dX w s=v/\hasB w.env w.sizes t v=true)∨∃v,dO (GZ w) s=none/\Sy w.env.carriers w.sizes s=some v/\dX w s=v/\hasB w.env w.sizes t v=true:=by
 obtain⟨e,j,y,A⟩:=FJ h;obtain⟨k,n⟩:=av2 h s;have u:∀b,(s,b)∈vI w.env->b=t:=λt' o=>by
  have:=(BX e).2 o
  grind
 unfold dX;cases m:dO (GZ w) s with
 |some v=>
  refine .inl ⟨v,rfl,rfl,?_⟩;rw[k]at m;rw[xU _ _ _ n]at m;obtain⟨q,p,f⟩:=qAA.1 m;cases f;have:=u q.1.ty (by unfold vI;rw[qAn];exact .inr (qAA.2 ⟨q.1,(qCY (show(q.1,q.2)∈w.env.names.zip w.values from p)).1,rfl⟩))
  grind
 |none=>
  have c:=ao8 w.env w.sizes j (azE e) s w.env.carriers w.sizes [] [] rfl rfl rfl (F9 j).symm;cases l:Sy w.env.carriers w.sizes s with
  |some v=>
   rw[l]at c;obtain⟨b,r,B⟩:=c;have:=u b (by unfold vI;rw[qAn];exact .inl r)
   grind
  |none=>
   exfalso;rw[l]at c;have a:=(BX e).1 a;unfold vI at a;rcases qAn.1 a with a|a
   ·exact c t a
   obtain⟨d,x,g⟩:=qAA.1 a;cases g;rw[k]at m;obtain⟨i,C,rfl⟩:=qBz x;have z:(w.env.names[i],w.values[i]'(by omega))∈w.env.names.zip w.values:=by rw[qBG];exact⟨i,by simp;omega,by simp⟩
   have:=(xU ((w.env.names.zip w.values).map λq=>(q.1.name,q.2)) w.env.names[i].name (w.values[i]'(by omega)) n).2 (qAA.2 ⟨_,z,rfl⟩);rw[m]at this;cases this
theorem Jz{w}(h:j3 w=true):GOk w.env w.sizes (dX w):=λs t b=>by rcases ah0 h s t b with⟨v,_,e,a⟩|⟨v,_,_,e,a⟩<;>rw[e]<;>exact a
theorem aDf{w}(h:j3 w=true):LkE w.env w.env.carriers w.env.names w.sizes (GZ w) (dX w):=λs t d b=>by
 obtain⟨f,a,_⟩:=FJ h;unfold acd;rcases ah0 h s t d with⟨v,e,c,_⟩|⟨v,e,c,g,_⟩
 ·refine Ev.of λn=>?_;rw[e,c];simp only[qAa,cond_true,akw]
 obtain⟨N,i⟩:=alx w.env w.sizes a s w.env.carriers w.sizes [] [] rfl rfl rfl (F9 a).symm;refine⟨N+w.env.carriers.length+1,λn j=>?_⟩
 grind
theorem alC{w}(h:j3 w=true):Ev (λn=>Kn n w) (w.env.carriers,w.env.names,w.sizes,GZ w,[]):=by
 obtain⟨d,o,t,u⟩:=FJ h;have b:=(iG d).2.1;have c:(w.env.names.zip w.values).length=w.env.names.length:=by rw[qDC];omega
 have e:=OO (ρ:=(List Carrier)×(List Decl)×(List Int)×(List (Str×Val))×(List Bound)) (w.env.names.zip w.values) (λn=>AB n w) (λi s=>(i,s)) (λq s=>.nx (ko s q.1.name q.2)) (λs=>s) (λsuf s=>s.length+suf.length<=1000) (λn r s=>by
  unfold AB;rw[c,at_end];rfl) (λpre q suf s e f=>⟨⟨0,λn v r=>by
  have p:pre.length<w.env.names.length:=by rw[<-c,e];simp
  have g:=congrArg (λl=>l[pre.length]?) e;simp at g;rw[qAc (by omega),List.getElem_zip]at g;have g:=Option.some.inj g;unfold AB;rw[decide_eq_true (by simp;omega)];have j:idx w.env.names (pre.length:Int)=some q.1:=by
   unfold idx
   grind
  have k:idx w.values (pre.length:Int)=some q.2:=by
   unfold idx
   grind
  simp only[j,k,qAa];rw[J3 (by omega)];rfl⟩,λs' a=>by cases a;have:=BR s q.1.name q.2;simp at f;omega⟩) (s0:=[]) (by simp;omega)
 rw[Wj (ρ:=(List Carrier)×(List Decl)×(List Int)×(List (Str×Val))×(List Bound)) (λ(s:List (Str×Val)) (q:Decl×Val)=>ko s q.1.name q.2)]at e;have m:(w.env.names.zip w.values).foldl (λ(s:List (Str×Val)) (q:Decl×Val)=>ko s q.1.name q.2) []=GZ w:=by unfold GZ fB;rw[List.foldl_map]
 rw[m]at e;exact Ev.bind e (Ev.ret _)
theorem Z8{b}{sz}{t}(h:Good t):∀v,hasB b sz t v=true->rG v:=by
 have f:∀v:Val,v.kids=[]->rG v:=λv e=>by obtain⟨k,n,s,r⟩:=v;subst e;simp[rG,GY]
 have c:∀l:List Val,(∀v∈l,rG v)->GY l:=by
  intro l
  induction l with|nil=>intro _;simp[GY]|cons a l i=>intro h;exact⟨h a (by simp),i λv d=>h v (by simp[d])⟩
 induction h with
 |int=>intro v h;obtain⟨n,rfl,_⟩:=NP.1 h;exact f _ rfl|car p=>
  intro v h;rw[show hasB b sz (pq p) v=SX b sz p v by unfold pq hasB;rfl]at h;unfold SX at h
  simp_all
 |pair q u g j=>intro v h;obtain⟨x,y,rfl,m,o⟩:=Jw.1 h;exact⟨by simp,c _ (by simp only[qAh,qCH,or_false];rintro v (rfl|rfl);exact g _ m;exact j _ o)⟩
 |set q i=>intro v h;obtain⟨l,rfl,m,o⟩:=l9.1 h;exact⟨by have:=m.2;omega,c l λv d=>i v (o v d)⟩
theorem ao1{e sz t}(h:Top t) v (a:hasB e sz t v=true):rG v:=by
 rcases h with rfl|h
 ·obtain⟨b,rfl⟩:=aer.1 a;cases b<;>simp[bO,rG,GY]
 exact Z8 h v a
theorem ayN{cs}{ds}{sz}{m}{g}{t}(h:lX cs ds sz m g t []):Ev (λn=>ql n cs ds sz m [] t) (match aF g t []with| .ok v=>(v,0,[])| .er e=>(v0,e,[])):=by
 unfold lX at h;cases r:aF g t []with|ok v=>rw[r]at h;exact Ev.bind h (Ev.ret _)|er e=>
  rw[r]at h;obtain⟨a,z,b⟩:=h;refine Ev.bind b (Ev.of λn=>?_);have c:(decide ((0:Int)<=e)&&decide (e<=1000))=true:=by rcases a with rfl|rfl<;>rfl
  simp only[PZ.el,c];unfold Dw;rfl
def vQ(w:S_api_World)(t:Tm):Val×Int:=match aF (dX w) t []with| .ok v=>(v,0)| .er e=>(v0,e)
def jV w t:=cond (j3 w&&dH t) (cond ((gq w.env t).2.2 !=0) (v0,(gq w.env t).2.2) (vQ w t)) (v0,1)
theorem PN{w}{t}(c:j3 w=true)(v:dH t=true)(h:(gq w.env t).2.2=0):∃y,(gq w.env t).1=y/\Top y/\HT w.env [] t y/\dN w.env [] t=.ok y:=by
 obtain⟨b,_⟩:=FJ c;unfold gq at h|-;rw[b,v]at h|-;cases a:dN w.env [] t with|er e p=>rw[a]at h;exact absurd h (IQ t [] e p a)|ok y=>exact⟨y,rfl,qU b Bb a,aoi b t 1 [] y (Br v) Bb a,rfl⟩
theorem aqo{w t ty}(h:j3 w=true)(v:dH t=true)(a:HT w.env [] t ty):lX w.env.carriers w.env.names w.sizes (GZ w) (dX w) t []:=
 (aC1 (Jz h) (aDf h) t).1 1 [] ty [] (Br v) a .nil (by simp)
theorem N7{w t ty v}(a:j3 w=true)(b:HT w.env [] t ty)(h:aF (dX w) t []=.ok v):hasB w.env w.sizes ty v=true:=sound (Jz a) t [] ty [] v b .nil h
theorem F3 w t (hs:G6 w.env)(s:mh t):Ev (λn=>lg n w t) (jV w t):=by
 unfold lg jV;refine Ev.bind (a:=!(j3 w&&dH t)) ?_ ?_;·refine Ev.bind (XV w hs) ?_;cases j3 w with|false=>exact Ev.ret _|true=>exact Ev.bind (Mh t s) (Ev.ret _)
 cases h:(j3 w&&dH t)with|false=>exact Ev.ret _|true=>
  rw[qAb]at h;refine Ev.bind (Qe w.env t hs s) ?_;cases c:((gq w.env t).2.2 !=0)with|true=>exact Ev.ret _|false=>
   obtain⟨y,f,d,b,_⟩:=PN h.1 h.2 (by simpa using c);refine Ev.bind (alC h.1) (Ev.bind (ayN (aqo h.1 h.2 b)) ?_);unfold vQ;cases r:aF (dX w) t []with|ok v=>exact Ev.bind (ZM v (ao1 d v (N7 h.1 b r))) (Ev.ret _)|er e=>exact Ev.bind (ZM v0 (by simp[v0,rG,GY])) (Ev.ret _)
theorem aDa:∀t:Tm,∃c,Ev (λn=>I6 n t) c:=Tm.ind λop m k u a D=>by
 have A:∀x:Tm,∃c,x∈a->Ev (λn=>I6 n x) c:=λx=>by
  by_cases h:x∈a;·simp_all
  simp_all
 obtain⟨g,l⟩:=qCz A
 let f:Int->Tm->Int:=λi x=>cond (cO op&&i==1) (IntKind.wrap .i64 (g x*64)) (g x)
 have y:∀(b p:List Tm) (s:Int),a=p++b->∃r,∃N,∀n,N<=n->∀j,b.length+1<=j->Wm n (I6 n) (.mk op m k u a) j (s,(p.length:Int))=some r:=by
  intro b
  induction b with|nil=>intro p s d;refine⟨.nx s,0,λn _ j z=>?_⟩;obtain⟨j,rfl⟩:∃q,j=q+1:=⟨j - 1,by omega⟩;show Ef n _ (.mk op m k u a) _ _=_;unfold Ef;have e:decide ((p.length:Int)<(a.length:Int))=false:=decide_eq_false (by rw[d];simp);show cond (decide ((p.length:Int)<(a.length:Int))) _ _=_;rw[e];rfl|cons x b o=>
   intro p s d;obtain⟨N,v⟩:=l x (by rw[d];simp);obtain⟨r,M,w⟩:=o (p++[x]) (IntKind.wrap .i64 (s+f (p.length:Int) x)) (by simp[d]);refine⟨cond (decide (20000000<IntKind.wrap .i64 (s+f (p.length:Int) x))) (.rt 20000001) r,N+M,λn B j z=>?_⟩;obtain⟨j,rfl⟩:∃q,j=q+1:=⟨j - 1,by omega⟩;have v:I6 n x=_:=v n (by omega);have w:=w n (by omega) j (by simp at z;omega);show Ef n _ (.mk op m k u a) (Wm n _ (.mk op m k u a) j) _=_;unfold Ef;show cond (decide ((p.length:Int)<(a.length:Int))) (Option.bind (idx a (p.length:Int)) _) _=_;rw[(dW d).1,(dW d).2];simp only[cond_true,qAa,v,abq,Tm.op];have e:(((cond (cO op) (some ((p.length:Int)==1)) (some false)).bind λ(C:Bool)=>cond C (some (IntKind.wrap .i64 (g x*64))) (some (g x))):Option Int)=some (f (p.length:Int) x):=by show _=some (cond (cO op&&(p.length:Int)==1) _ _);cases cO op<;>cases(p.length:Int)==1<;>rfl
   rw[e];simp only[qAa];cases decide (20000000<IntKind.wrap .i64 (s+f (p.length:Int) x))with|true=>rfl|false=>simp only[cond_false];rw[show(p.length:Int)+1=((p++[x]).length:Int) by simp];exact w
 obtain⟨r,N,h⟩:=y a [] 1 rfl;refine⟨match r with| .nx s=>s| .rt s=>s,Ev.succ ⟨N+a.length+1,λn B=>?_⟩⟩;show Pb n _ (.mk op m k u a)=_;unfold Pb
 grind
theorem EU t:∃b,Ev (λn=>qJ n t) b:=by
 obtain⟨c,h⟩:=aDa t;refine⟨cond (dH t) (decide (c<=20000000)) true,?_⟩;refine Ev.bind (Ev.bind (J5 t) ?_) (Ev.ret _);cases dH t with|false=>exact Ev.ret _|true=>exact Ev.bind h (Ev.ret _)
theorem VE env:∃b,Ev (λn=>y7 n env) b:=by
 refine⟨decide ((env.carriers.length:Int)<=100)&&decide ((env.names.length:Int)<=100),Ev.of λn=>?_⟩;unfold y7
 grind
theorem qF:Ev (λn=>(gJ n).bind λx=>some x) true:=Ev.bind (a:=true) (Ev.ret _) (Ev.ret _)
structure Vald(w:S_api_World)(t:Tm)(ty:Ty)(v:Val):Prop where
 hw:j3 w=true
 hm:dH t=true
 ht:HT w.env [] t ty
 hy:dN w.env [] t=.ok ty
 hp:Top ty
 he:aF (dX w) t []=.ok v
 hx:jV w t=(v,0)
theorem Vald.has{w:S_api_World}{t:Tm}{ty:Ty}{v:Val}(h:Vald w t ty v):hasB w.env w.sizes ty v=true:=N7 h.hw h.ht h.he
theorem awZ{w t ty}(h:j3 w=true)(v:dH t=true)(a:HT w.env [] t ty):Er (aF (dX w) t []):=(aqo h v a).er
theorem yh{w}{t}(h:(jV w t).2=0):∃y v,Vald w t y v:=by
 unfold jV at h;cases q:(j3 w&&dH t)with|false=>rw[q]at h;cases h|true=>
  rw[q]at h;rw[qAb]at q;cases a:((gq w.env t).2.2 !=0)with
  |true=>rw[a]at h;simp at a;exact absurd h a|false=>
   obtain⟨y,f,c,b,d⟩:=PN q.1 q.2 (by simpa using a);rw[a]at h;cases r:aF (dX w) t []with
   |er e=>
    have:=awZ q.1 q.2 b e r;unfold vQ at h
    grind
   |ok v=>
    refine⟨y,v,q.1,q.2,b,d,c,r,?_⟩;unfold jV vQ
    grind
theorem auD(env:Env):knows env aK=true:=rfl
theorem azy(env:Env):knows env bY=true:=rfl
theorem abD{env:Env}{t:Ty}:knows env (aj t)=knows env t:=by simp[knows,aj,dK,iL]
theorem ajU{env:Env}{s t:Ty}:knows env (aL s t)=(knows env s&&knows env t):=by simp[knows,aL,dK,iL]
theorem ab3{env:Env}{t x:Ty}(h:aN t=some x)(k:knows env t=true):knows env x=true:=by
 obtain⟨q,nm,ks⟩:=t;unfold aN at h;cases hq:(q==5)with
 |false=>simp only[Ty.kind,hq,cond_false]at h;cases h
 |true=>
  simp only[Ty.kind,hq,cond_true]at h;cases ks with
  |nil=>cases h
  |cons y ks=>
   cases h;have hq:q=5:=by simpa using hq
   subst hq;simp only[knows,dK,iL]at k⊢;have k:(dK x++iL ks).all (dx env)=true:=k;rw[qEf,qAb]at k;exact k.1
theorem ato{env:Env}{t:Ty}{x:Ty×Ty}(h:dB t=some x)(k:knows env t=true):knows env x.1=true∧knows env x.2=true:=by
 obtain⟨p,hp,h⟩:=qEk.1 h;have k:=ab3 hp k;obtain⟨q,nm,ks⟩:=p;cases hq:(q==4)with
 |false=>simp only[Ty.kind,hq,cond_false]at h;cases h
 |true=>
  simp only[Ty.kind,hq,cond_true]at h;have hq:q=4:=by simpa using hq
  subst hq
  match ks,h,k with
  |[],h,_=>cases h
  |[_],h,_=>cases h
  |a::b::ks,h,k=>
   cases h;have k:(dK a++(dK b++iL ks)).all (dx env)=true:=k;rw[qEf,qEf,qAb,qAb]at k;exact⟨k.1,k.2.1⟩
theorem aD9{env:Env}{op:Int}{l:List Ty}{t:Ty}(hl:∀x∈l,knows env x=true)(h:gH op l=some t):knows env t=true:=by
 have h0:knows env aR=true:=rfl;have ha:knows env (l.headD aR)=true:=by
  cases l with
  |nil=>exact h0
  |cons a l=>exact hl a (by simp)
 have hb:knows env ((l.drop 1).headD aR)=true:=by
  match l with
  |[]=>exact h0
  |[_]=>exact h0
  |_::b::_=>exact hl b (by simp)
 unfold gH at h;generalize l.headD aR=a at *;generalize (l.drop 1).headD aR=b at *;simp only at h
 iterate 28
  replace h:=aCY h;rcases h with⟨-,h⟩|⟨-,h⟩
  ·first
    |(cases h;rfl)
    |(obtain⟨_,rfl⟩:=bV h;first|rfl|exact ha|exact hb|(simp only[abD,ajU];simp[ha,hb]))
    |(simp only[qEk,qBv]at h;clear hl h0;grind only[→ab3,→ato,→bV,abD,ajU,auD,azy])
 simp only[qEk]at h
 grind only[→ab3,→ato,→bV,abD,ajU,auD,azy]
theorem ax7{nm:Str}(h:ident nm=true):dI (pq nm)=true∧dI (aj (pq nm))=true:=by
 constructor
 ·unfold dI;show(pf (.mk 3 nm []) 1 0).1=true;simp only[pf,mX];have hh:iN 3 nm ([]:List Ty).length 1=true:=by
   show(true&&(true&&ident nm))=true;rw[h];rfl
  rw[hh];rfl
 ·unfold dI;show(pf (.mk 5 [] [.mk 3 nm []]) 1 0).1=true;simp only[pf,mX];have hh:iN 3 nm ([]:List Ty).length (1+1)=true:=by
   show(true&&(true&&ident nm))=true;rw[h];rfl
  rw[hh];rfl
theorem at5{env:Env}(hv:aW env=true){nm:Str}{t:Ty}(h:look env nm=some t):knows env t=true∧dI t=true:=by
 have kc:∀c∈env.carriers,knows env (pq c.name)=true∧dI (pq c.name)=true∧knows env (aj (pq c.name))=true∧dI (aj (pq c.name))=true:=fun c hc=>by
  have hk:knows env (pq c.name)=true:=by
   show(dx env c.name&&true)=true;rw[qBE];exact qDw.2 ⟨c,hc,by simp⟩
  have:=ax7 (Lx hv hc).1;exact⟨hk,this.1,by rw[abD];exact hk,this.2⟩
 rcases qAn.1 ((BX hv).1 h)with ht|ht
 ·obtain⟨c,hc,ht⟩:=qBp.1 ht;obtain⟨k1,k2,k3,k4⟩:=kc c hc;rcases qAh.1 ht with ht|ht
  ·cases ht;exact⟨k3,k4⟩
  ·obtain⟨e,_,he⟩:=qAA.1 ht;cases he;exact⟨k1,k2⟩
 ·obtain⟨d,hd,he⟩:=qAA.1 ht;cases he;obtain⟨_,h1,_,h2⟩:=Vx hv hd;exact⟨h2,h1⟩
theorem atf{env:Env}:∀(ks:List Tm) (sc:List Decl) (b:Bool) (nm:Str) (i:Int) (l:List Ty),(∀t∈ks,∀(sc:List Decl) (ty:Ty),(∀d∈sc,knows env d.ty=true)→dN env sc t=.ok ty→knows env ty=true)→(∀d∈sc,knows env d.ty=true)→dA env sc b nm i ks=.ok l→∀x∈l,knows env x=true
 |[],_,_,_,_,l,_,_,h=>by
  simp only[dA]at h;cases h;intro x hx;cases hx
 |t::ks,sc,b,nm,i,l,ih,hs,h=>by
  simp only[dA]at h;cases ht:dN env sc t with
  |er e p=>rw[ht]at h;cases h
  |ok ty=>
   rw[ht]at h;simp only at h;have hk:=ih t (by simp) sc ty hs ht;cases hb:oU b nm ty sc with
   |none=>rw[hb]at h;cases h
   |some sc'=>
    rw[hb]at h;simp only at h;have hs':∀d∈sc',knows env d.ty=true:=by
     unfold oU at hb;cases b with
     |false=>cases hb;exact hs
     |true=>
      obtain⟨e,he,rfl⟩:=qBv.1 hb;intro d hd;rcases qAh.1 hd with rfl|hd
      ·exact ab3 he hk
      ·exact hs d hd
    cases hr:dA env sc' false nm (i+1) ks with
    |er e p=>rw[hr]at h;cases h
    |ok m=>
     rw[hr]at h;cases h;intro x hx;rcases qAh.1 hx with rfl|hx
     ·exact hk
     ·exact atf ks sc' false nm (i+1) m (fun u hu=>ih u (by simp[hu])) hs' hr x hx
theorem aCP{env:Env}(hv:aW env=true):∀(t:Tm) (sc:List Decl) (ty:Ty),(∀d∈sc,knows env d.ty=true)→dN env sc t=.ok ty→knows env ty=true:=fun t=>Tm.ind (P:=fun t=>∀(sc:List Decl) (ty:Ty),(∀d∈sc,knows env d.ty=true)→dN env sc t=.ok ty→knows env ty=true) (fun op nm m u ks ih sc ty hs ht=>by
 simp only[dN]at ht;cases h20:(op==20)with
 |true=>
  rw[h20]at ht;cases hl:rT env sc nm with
  |none=>rw[hl]at ht;cases ht
  |some t=>
   rw[hl]at ht;cases ht;unfold rT at hl;cases hf:sc.find? (fun d=>d.name==nm)with
   |none=>rw[hf]at hl;exact(at5 hv hl).1
   |some d=>rw[hf]at hl;cases hl;exact hs d (qEl hf)
 |false=>
  rw[h20]at ht;cases h29:(op==29&&!(knows env u))with
  |true=>rw[h29]at ht;cases ht
  |false=>
   rw[h29]at ht;cases hk:dA env sc (cO op) nm 0 ks with
   |er e p=>rw[hk]at ht;cases ht
   |ok l=>
    rw[hk]at ht;have h:=(NV ht).1;cases he:(op==29)with
    |true=>
     rw[he]at h h29;cases h;rw[abD];simpa using h29
    |false=>
     rw[he]at h;exact aD9 (atf ks sc _ nm 0 l ih hs hk) h) t
theorem avA{env:Env}(hv:aW env=true){t:Tm}{ty:Ty}(ht:dN env [] t=.ok ty):dI ty=true:=by
 obtain⟨op,nm,m,u,ks⟩:=t;simp only[dN]at ht;cases h20:(op==20)with
 |true=>
  rw[h20]at ht;cases hl:rT env [] nm with
  |none=>rw[hl]at ht;cases ht
  |some t=>rw[hl]at ht;cases ht;exact(at5 hv hl).2
 |false=>
  rw[h20]at ht;cases h29:(op==29&&!(knows env u))with
  |true=>rw[h29]at ht;cases ht
  |false=>
   rw[h29]at ht;cases hk:dA env [] (cO op) nm 0 ks with
   |er e p=>rw[hk]at ht;cases ht
   |ok l=>rw[hk]at ht;exact(NV ht).2
theorem ayu{env:Env}{t:Ty}(hv:dI t=true)(hk:knows env t=true):Ev (fun n=>M6 n env t) true:=by
 unfold M6;refine Ev.bind (a:=true) ?_ (Ev.ret _);refine Ev.bind (rD t) ?_;rw[hv];refine Ev.bind (BN hv) ?_;generalize hl:((fB ((dK t).map fun s=>(s,true)) []).map (·.1)).mergeSort leS=l;have hm:∀s∈l,dx env s=true:=fun s h=>qAJ.1 hk s ((Oy t s).1 (by rw[hl];exact h));unfold oM rM;have hf:=tC l (fun n k i=>wZ n l env.carriers env.names k i) (fun n x=>Gv n x env.carriers env.names) (fun s=>!(dx env s)) (fun n k i=>rfl) (fun x _=>by
  unfold Gv;refine Ev.bind (aqE env x) ?_;rw[alh,qE _ _ _ (qBJ _)];exact Ev.ret _)
 refine Ev.bind (a:=false) (Ev.bind hf ?_) (Ev.ret _);rw[qE _ _ _ (qBJ _)];rw[show l.any (fun s=>!(dx env s))=false by rw[qd,qAJ.2 hm];rfl];exact Ev.ret _
theorem axU:∀v:Val,rG v→lI v:=Val.ind fun k n s ks ih h=>by
 have:∀l:List Val,(∀v∈l,lI v)→VN l:=by
  intro l
  induction l with
  |nil=>intro _;trivial
  |cons a l ih=>intro h;exact⟨h a (by simp),ih fun v hv=>h v (by simp[hv])⟩
 have h1:=h.kids;have h2:ks.length*56≤140737488355328:=h1.1;exact⟨by omega,this ks fun v hv=>ih v hv (h1.2 v hv)⟩
theorem anz(w:S_api_World)(t:Tm)(hs:G6 w.env)(h1:mh t):Ev (fun n=>OH n w t) true:=by
 obtain⟨b1,hb1⟩:=VE w.env;obtain⟨b2,hb2⟩:=EU t;unfold OH;refine Ev.bind (a:=!(b1&&b2)) ?_ ?_
 ·refine Ev.bind hb1 ?_;cases b1 with
  |false=>exact Ev.ret _
  |true=>exact Ev.bind hb2 (Ev.ret _)
 cases(b1&&b2)with
 |false=>exact qF
 |true=>
  refine Ev.bind (F3 w t hs h1) ?_;cases hq:(jV w t).2 !=0 with
  |true=>
   have:(jV w t).1=v0:=by
    unfold jV vQ at hq⊢;cases hg:(j3 w&&dH t)with
    |false=>rfl
    |true=>
     rw[hg]at hq;cases he:((gq w.env t).2.2 !=0)with
     |true=>rfl
     |false=>
      rw[he]at hq;cases hr:aF (dX w) t []with
      |ok v=>rw[hr]at hq;cases hq
      |er e=>rfl
   rw[this];show Ev (fun n=>Option.bind ((gJ n).bind fun x=>some x) fun s2=>some s2) true;exact Ev.bind qF (Ev.ret _)
  |false=>
   obtain⟨ty,v,q⟩:=yh (by simpa using hq);refine Ev.bind (ZQ w.env t) ?_;obtain⟨hv,hf,_⟩:=FJ q.hw;have e:gq w.env t=(ty,[],0):=by
    unfold gq;rw[hv,q.hm,q.hy];rfl
   rw[e,q.hx];have kt:=avA hv q.hy;have kk:=aCP hv t [] ty (fun d hd=>by cases hd) q.hy;have kh:=q.has;have H1:Ev (fun n=>V9 n w.env w.sizes v ty) true:=by
    unfold V9;refine Ev.bind (a:=true) ?_ (Ev.ret _);refine Ev.bind ((Bl w.env hs).eq hv) (Ev.bind ((adA w.env w.sizes).eq hf) (Ev.bind (ayu kt kk) (Ev.bind ((awY w.env w.sizes (F9 hf) (Nb kt) kk v).eq kh) (Ev.ret _))))
   have H2:Ev (fun n=>ahn n w.env w.sizes v ty) true:=by
    unfold ahn;refine Ev.bind (a:=true) ?_ (Ev.ret _);refine Ev.bind ((IU w.env).eq hv) (Ev.bind ((AJ ty).eq kt) (Ev.bind ((ae9 w.env kt).eq kk) (Ev.bind ((auJ w.env w.sizes).eq hf) (Ev.bind ((auL w.env w.sizes (F9 hf) (Nb kt) kk v (axU v (ao1 q.hp v kh))).eq kh) (Ev.ret _)))))
   exact Ev.bind (Ev.bind H1 (Ev.bind H2 qF)) (Ev.ret _)
end Abs
end Go.Proofs.YtneeginmfjageaaGreat
