/- Values have types. Conditions: none. -/
import Derived.Test.YtneeginmfjageaaGreatCW6ox4c5065
set_option linter.all false
namespace Go.Proofs.YtneeginmfjageaaGreat
namespace Abs
open Go
theorem MQ(n:Nat)(q:Env->A2->Val->Ty->Ax)(p:Env)(a:A2)(b:Val)(c:Ty)(k:Nat)(s:Int):Dx n q p a b c (k+1) s=DW n q p a b c (Dx n q p a b c k) s:=rfl
def apJ(f:Val->Bool):Val->Af->Bool|_,[]=>true|x,y::s=>f y&&(!(decide (0<=bQ x y))&&apJ f y s)
def avb(f:Val->Bool):∀(s:Af) (x:Val),apJ f x s=(s.all f&&Fp (x::s))|[],_=>rfl|y::s,x=>by simp only[apJ,qBC,Fp];rw[avb f s y];cases f y<;>cases decide (0<=bQ x y)<;>cases s.all f<;>cases Fp (y::s)<;>rfl
def aBQ(e:Env)(sz:A2)(ty t:Ty)(v:Val)(p:Af)(x y:Val)(s:Af)(h:v.kids=p++[x]++y::s)(g:ty.kids=[t])(l:v.kids.length<=9223372036854775807)(i:gU x)(H:Ev (λn=>wU n e sz y t) (hasB e sz t y)):Ev (λn=>(((idx v.kids ((p++[x]).length:Int)).bind λ(j:Val)=>(idx ty.kids 0).bind λ(a:Ty)=>(wU n e sz j a).bind λ(b:Bool)=>cond (!b) (some true) (cond (decide (0<((p++[x]).length:Int))) ((idx v.kids (IntKind.wrap .i64 (((p++[x]).length:Int) - 1))).bind λ(c:Val)=>(idx v.kids ((p++[x]).length:Int)).bind λ(d:Val)=>(nI n c d).bind λ(f:Int)=>some (decide (0<=f))) (some false))):Ax)) (!(hasB e sz t y&&!(decide (0<=bQ x y)))):=by
 have w:IntKind.wrap .i64 (((p++[x]).length:Int) - 1)=(p.length:Int):=by
  have o:p.length<=v.kids.length:=by rw[h];simp<;>omega
  rw[qAe,qAI,show(((p.length+1:Nat):Int) - 1)=(p.length:Int) by omega,wrap64 Cl Cl]
 have k:idx v.kids (p.length:Int)=some x:=by rw[h,qAm,qCF];exact gJ _ _ _
 have m:idx v.kids ((p++[x]).length:Int)=some y:=by rw[h];exact gJ _ _ _
 rw[w,k,m,g,d_1 (show 0<(((p++[x]).length:Nat):Int) by rw[qAe,qAI];omega)];simp only[qAb,c_1,show idx [t] 0=some t from rfl];refine e_0 H ?_;cases hasB e sz t y with|false=>exact Cu|true=>simp only[qAv,c_0,qAu,qCk];exact e_0 (afE x y i) Cu
def anx(a:Env)(sz:A2)(ty t:Ty)(v:Val)(h:v.kids.length<=9223372036854775807)(g:ty.kids=[t])(H:∀u,gU u->Ev (λn=>wU n a sz u t) (hasB a sz t u))(d:∀u∈v.kids,gU u):∀(s p:Af) (x:Val),v.kids=p++[x]++s->∃N,∀n,N<=n->∀k,s.length+1<=k->Dx n (wU n) a sz v ty k ((p++[x]).length:Int)=some (cond (apJ (hasB a sz t) x s) (.nx ()) (.rt false))
 |[],p,x,e=>by
  refine⟨0,λn _ k b=>?_⟩;obtain⟨j,rfl⟩:∃j,k=j+1:=⟨k - 1,by simp at b;omega⟩;rw[MQ];unfold DW;rw[d_0 (by rw[e];simp)];rfl
 |y::s,p,x,e=>by
  let⟨i,c⟩:=aBQ a sz ty t v p x y s e g h (d x (by rw[e];simp)) (H y (d y (by rw[e];simp)));let⟨l,f⟩:=anx a sz ty t v h g H d s (p++[x]) y (by rw[e];simp);refine⟨i+l,λn m k b=>?_⟩;obtain⟨j,rfl⟩:∃j,k=j+1:=⟨k - 1,by simp at b;omega⟩;have c:=c n Cl;have f:=f n Cl j (by simp at b;omega);rw[MQ];unfold DW;rw[d_1 (by rw[e];simp;omega)];simp only[c_1];simp only at c;rw[c];simp only[qAb,apJ];cases hasB a sz t y with
  |false=>rfl
  |true=>
   cases decide (0<=bQ x y)with
   |true=>rfl
   |false=>
    simp only[c_0,qBb,qAu,qAv];rw[show((p++[x]).length:Int)+1=((p++[x]++[y]).length:Int) by simp only[qAe,qAI];omega];exact f
def aEO(e:Env)(sz:A2)(ty t:Ty)(v:Val)(l:v.kids.length<=9223372036854775807)(c:ty.kids=[t])(H:∀u,gU u->Ev (λn=>wU n e sz u t) (hasB e sz t u))(d:∀u∈v.kids,gU u):Ev (λn=>Dx n (wU n) e sz v ty n 0) (cond ((v.kids.all λu=>hasB e sz t u)&&Fp v.kids) (.nx ()) (.rt false)):=by
 cases h:v.kids with|nil=>refine⟨1,λn f=>?_⟩;obtain⟨j,rfl⟩:∃j,n=j+1:=⟨n - 1,by omega⟩;show Dx (j+1) _ e sz v ty (j+1) 0=_;rw[MQ];unfold DW;rw[d_0 (by rw[h];simp)];rfl|cons x s=>let⟨g,a⟩:=H x (d x (by rw[h];simp));let⟨i,b⟩:=anx e sz ty t v l c H d s [] x (by rw[h];rfl);refine⟨g+i+s.length+3,λn f=>?_⟩;obtain⟨j,rfl⟩:∃j,n=j+1:=⟨n - 1,by omega⟩;have a:wU (j+1) e sz x t=_:=a (j+1) Cl;have b:=b (j+1) Cl j Cl;show Dx (j+1) _ e sz v ty (j+1) 0=_;rw[MQ];unfold DW;rw[d_1 (by rw[h,qAp];omega),c,h];simp only[c_1,show idx (x::s) 0=some x from rfl,show idx [t] 0=some t from rfl,qAb,show decide ((0:Int)<0)=false from rfl,c_0];rw[a];simp only[qAb,qBC];have er:=avb (hasB e sz t) s x;cases hasB e sz t x with|false=>rfl|true=>simp only[qAv,c_0,qAb,qAu];rw[<-er];exact b
def avl(e:Env)(sz:A2)(l:sz.length=e.carriers.length):∀{t:Ty},Shp t->(dX t).all (dP e)=true->∀v,gU v->Ev (λn=>wU n e sz v t) (hasB e sz t v):=by
 intro t h
 induction h with
 |int=>
  intro _ v _;refine Ev.succ ?_;show Ev (λn=>nA n _ e sz v (.mk 1 [] [])) _;unfold nA;refine Ev.pos rfl ?_;refine e_0 (a:=acs v) ?_ Cu;unfold acs;cases v.kind==1<;>cases decide ((-1000000000)<=v.n)<;>cases decide (v.n<=1000000000)<;>cases v.name==[]<;>cases(v.kids.length:Int)==0<;>exact Cu
 |bool=>
  intro _ v _;refine Ev.succ ?_;show Ev (λn=>nA n _ e sz v (.mk 2 [] [])) _;unfold nA;refine Ev.neg rfl ?_;refine Ev.pos rfl ?_;refine e_0 (a:=abw v) ?_ Cu;unfold abw;cases v.kind==2<;>cases v.n==0<;>cases v.n==1<;>cases v.name==[]<;>cases(v.kids.length:Int)==0<;>exact Cu
 |car nm=>
  intro c v _;have c:dP e nm=true:=by simpa[dX]using c
  let⟨r,j⟩:=ave l c;refine Ev.succ ?_;show Ev (λn=>nA n _ e sz v (.mk 3 nm [])) _;unfold nA;refine Ev.neg rfl ?_;refine Ev.neg rfl ?_;refine Ev.pos rfl ?_;refine e_0 (a:=OD e sz nm v) ?_ Cu;simp only[Ty.name];unfold OD;cases v.kind==3 with
  |false=>exact Cu
  |true=>
   cases v.name==nm with
   |false=>exact Cu
   |true=>
    cases(v.kids.length:Int)==0 with
    |false=>exact Cu
    |true=>
     cases decide (0<=v.n)with
     |false=>exact Cu
     |true=>
      simp only[c_1,qAu];refine e_0 (DX e nm) ?_;rw[j];exact Cu
 |@pair a b m w i f=>
  intro c v d;simp only[dX,jG,qAt,show((4:Int)==3)=false from rfl,c_0,qEa,qAa]at c;refine Ev.succ ?_;show Ev (λn=>nA n _ e sz v (.mk 4 [] [a,b])) _;unfold nA;refine Ev.neg rfl ?_;refine Ev.neg rfl ?_;refine Ev.neg rfl ?_;refine Ev.pos rfl ?_;refine e_0 (a:=hasB e sz (.mk 4 [] [a,b]) v) ?_ Cu;simp only[hasB,show((4:Int)==1)=false from rfl,show((4:Int)==2)=false from rfl,show((4:Int)==3)=false from rfl,show((4:Int)==4)=true from rfl,c_0,c_1,Ty.kids];cases v.kind==4 with
  |false=>exact Cu
  |true=>
   cases v.n==0 with
   |false=>exact Cu
   |true=>
    cases v.name==[]with
    |false=>exact Cu
    |true=>
     cases g:(v.kids.length:Int)==2 with
     |false=>exact Cu
     |true=>
      simp only[c_1,qAu];have d:=d.kids.2;let⟨k,n,s,o⟩:=v;simp only[Val.kids,beq_iff_eq]at g d
      match o,g,d with
      |[x,y],_,d=>
       simp only[Val.kids,show idx [x,y] 0=some x from rfl,show idx [x,y] 1=some y from rfl,show idx [a,b] 0=some a from rfl,show idx [a,b] 1=some b from rfl,qAb,Zk];refine e_0 (i c.1 x (d x cn)) ?_;cases hasB e sz a x with
       |false=>exact Cu
       |true=>
        simp only[c_1,qAu,qBH];exact e_0 (f c.2 y (d y cn)) Cu
 |@set a m i=>
  intro c v d;simp only[dX,jG,qAt,show((5:Int)==3)=false from rfl,c_0]at c;have H:=i c;refine Ev.succ ?_;show Ev (λn=>nA n _ e sz v (.mk 5 [] [a])) _;unfold nA;refine Ev.neg rfl ?_;refine Ev.neg rfl ?_;refine Ev.neg rfl ?_;refine Ev.neg rfl ?_;simp only[hasB,show((5:Int)==1)=false from rfl,show((5:Int)==2)=false from rfl,show((5:Int)==3)=false from rfl,show((5:Int)==4)=false from rfl,c_0];have p:(v.kind !=5)=!(v.kind==5):=rfl;have q:(v.n !=0)=!(v.n==0):=rfl;rw[p,q];cases v.kind==5 with
  |false=>refine e_0 (a:=true) Cu ?_;exact Cu
  |true=>
   cases v.n==0 with
   |false=>refine e_0 (a:=true) Cu ?_;exact Cu
   |true=>
    cases v.name==[]with
    |false=>refine e_0 (a:=true) Cu ?_;exact Cu
    |true=>
     cases decide (256<(v.kids.length:Int))with
     |true=>refine e_0 (a:=true) Cu ?_;exact Cu
     |false=>
      refine e_0 (a:=false) Cu ?_;simp only[qBb,c_0,qAu,awR];refine e_0 (aEO e sz (.mk 5 [] [a]) a v d.kids.1 rfl H d.kids.2) ?_;cases((v.kids.all λu=>hasB e sz a u)&&Fp v.kids)<;>exact Cu
def afR{e:Env}(h:aW e=true):∀d∈e.names,bA d.ty=true/\(dX d.ty).all (dP e)=true:=by intro d a;simp only[aW,qAa]at h;have:=qAP.1 h.2.2.1 d a;simp only[EF,qAa]at this;exact⟨this.2.1.1,this.2.2⟩
def gW(w:S_api_World):Bool:=(aW w.env&&(uj w.env w.sizes&&!((w.values.length:Int)!=(w.env.names.length:Int))))&&!((w.env.names.zip w.values).any λq=>!(hasB w.env w.sizes q.1.ty q.2))
def avf{α β:Type}(f:α->β->Bool):∀(l:List α) (m:List β),(l.zip m).any (λq=>f q.1 q.2)=(m.zip l).any λq=>f q.2 q.1|[],m=>by cases m<;>rfl|a::l,[]=>rfl|a::l,b::m=>by simp only[qDT,qCA,avf f l m]
def Zw(w:S_api_World)(hs:∀d∈w.env.names,d.name.length<=9223372036854775807):Ev (λn=>wP n w) (gW w):=by
 unfold wP gW;refine e_0 (a:=!(aW w.env&&(uj w.env w.sizes&&!((w.values.length:Int)!=(w.env.names.length:Int))))) ?_ ?_;·refine e_0 (C8 w.env hs) ?_;cases aW w.env with|false=>exact Cu|true=>refine e_0 (af4 w.env w.sizes) ?_;cases uj w.env w.sizes with|false=>exact Cu|true=>simp only[qAv,c_0,qAu,qCk];exact Cu
 cases h:(aW w.env&&(uj w.env w.sizes&&!((w.values.length:Int)!=(w.env.names.length:Int))))with|false=>exact Cu|true=>
  simp only[qAa,qAV,bne_eq_false_iff_eq]at h;let⟨e,f,g⟩:=h;simp only[qAv,c_0,qAu];have c:=afR e;refine e_0 (acZ w.env.names w.values Cl (λn k i=>NG n w k i) (λn d v=>(kN n w.env w.sizes v d.ty).bind λb=>some (!b)) (λd v=>!(hasB w.env w.sizes d.ty v)) false (λn k i=>by show cond _ _ _=_;simp only[qAW,qAb];rfl) (λd m v=>e_0 (ayM w.env w.sizes (Dk f) (PY (c d m).1) (c d m).2 v) Cu)) ?_
  cases((w.env.names.zip w.values).any λq=>!(hasB w.env w.sizes q.1.ty q.2))<;>exact Cu
def XL(w:S_api_World)(g:∀v∈w.values,gU v):Ev (λn=>AO n w) (gW w):=by
 unfold AO gW;refine e_0 (a:=!(aW w.env&&(uj w.env w.sizes&&!((w.values.length:Int)!=(w.env.names.length:Int))))) ?_ ?_;·refine e_0 (KX w.env) ?_;cases aW w.env with|false=>exact Cu|true=>refine e_0 (av2 w.env w.sizes) ?_;cases uj w.env w.sizes with|false=>exact Cu|true=>simp only[qAv,c_0,qAu,qCk];exact Cu
 cases e:(aW w.env&&(uj w.env w.sizes&&!((w.values.length:Int)!=(w.env.names.length:Int))))with|false=>exact Cu|true=>
  simp only[qAa,qAV,bne_eq_false_iff_eq]at e;let⟨j,l,m⟩:=e;simp only[qAv,c_0,qAu];have f:=afR j;have h:=sN (w.values.zip w.env.names) (λn k i=>HV n w k i) (λn q=>(wU n w.env w.sizes q.1 q.2.ty).bind λb=>some (!b)) (λq=>!(hasB w.env w.sizes q.2.ty q.1)) false (λn k i=>by show cond _ _ _=_;rw[<-avm w.values w.env.names i λx y=>((wU n w.env w.sizes x y.ty).bind λb=>some (!b)).bind λb=>cond b (some (.rt false)) (HV n w k (i+1))];rw[qDt,show min w.values.length w.env.names.length=w.values.length by omega];simp only[qAW,qAb];rfl) (λq c=>e_0 (avl w.env w.sizes (Dk l) (PY (f q.2 (qCR c).2).1) (f q.2 (qCR c).2).2 q.1 (g q.1 (qCR c).1)) Cu)
  rw[avf (λ(d:Decl) v=>!(hasB w.env w.sizes d.ty v))];refine e_0 h ?_;cases((w.values.zip w.env.names).any λq=>!(hasB w.env w.sizes q.2.ty q.1))<;>exact Cu
def elems(n:Str)(k:Nat):Af:=(List.range k).map λ(i:Nat)=>Val.mk 3 (i:Int) n []
def yM:A7->A2->Str->Cf|c::a,z::b,s=>cond (c.name==s) (some (mkSet (elems c.name z.toNat))) (cond (decide (0<=dR (λe=>s==e) 0 c.elems)) (some (.mk 3 (dR (λe=>s==e) 0 c.elems) c.name [])) (yM a b s))|_,_,_=>none
def vG(w:S_api_World):List (Str×Val):=gI ((w.env.names.zip w.values).map λq=>(q.1.name,q.2)) []
def aI(w:S_api_World)(s:Str):Val:=match dn (vG w) s with|some v=>v|none=>(yM w.env.carriers w.sizes s).getD v0
def mR{w:S_api_World}(h:gW w=true):aW w.env=true/\uj w.env w.sizes=true/\w.values.length=w.env.names.length/\∀q∈w.env.names.zip w.values,hasB w.env w.sizes q.1.ty q.2=true:=by
 unfold gW at h
 grind
def aFM(nm:Str)(z:Int)(h0:0<=z)(d:z<=8):Ev (λn=>MH n nm z) (elems nm z.toNat):=by
 have a:(((List.range z.toNat).length:Nat):Int)=z:=by rw[qDV];omega
 have h:=mG (ρ:=Af) (List.range z.toNat) (λn=>BX n nm z) (λi s=>(s,i)) (λi=>[Val.mk 3 (i:Int) nm []]) 1000 Cl (λn r s=>by
  unfold BX;rw[a,d_0 (qEd _)];rfl) (λp x u s e b=>⟨0,λn f r=>by
  have c:x=p.length:=by
   have g:=congrArg (λl=>l[p.length]?) e
   grind
  have j:p.length<z.toNat:=by grind
  unfold BX;rw[d_1 Cp,c];rw[dQ (by simpa using b)];rfl⟩) (s0:=[]) (by rw[flatMap_one];simp;omega)
 rw[flatMap_one]at h;exact e_0 h Cu
def aAs(es:Bk)(s:Str):Ev (λn=>Y1 n es s) (dR (λe=>s==e) 0 es):=by exact vo es (λn k i=>ae8 n es s k i) (λ_ x=>some (s==x)) (λe=>s==e) (λn k i=>rfl) (λx _=>Ev.ret _)
def aea:∀(r:A7) (ps:A2) (c:Carrier) (s:A7) (z:Int) (b:A2),r.length=ps.length->J4 (r++c::s) (ps++z::b)=true->abf c z=false|[],[],c,s,z,b,_,h=>by simp only[qAo,J4,qAa,qAV]at h;exact h.1|[],p::ps,_,_,_,_,l,_=>by simp at l|a::r,[],_,_,_,_,l,_=>by simp at l|a::r,p::ps,c,s,z,b,l,h=>by simp only[qAM,J4,qAa]at h;exact aea r ps c s z b (by simpa using l) h.2
def adi{c:Carrier}{z:Int}(h:abf c z=false):1<=z/\z<=8/\((c.elems.length:Int)=0∨z=c.elems.length):=by
 unfold abf at h
 grind
def awM{e:Env}{sz:A2}(h:uj e sz=true):J4 e.carriers sz=true:=by
 unfold uj at h
 grind
def anH(a:Env)(sz:A2)(q:uj a sz=true)(s:Str):∀(u:A7) (b:A2) (p:A7) (ps:A2),a.carriers=p++u->sz=ps++b->p.length=ps.length->u.length=b.length->
  ∃N,∀n,N<=n->∀k,u.length+1<=k->YV n a.carriers sz s k (p.length:Int)=some (match yM u b s with|some v=>.rt (.ok v)|none=>.nx ())
 |[],[],p,ps,d,_,_,_=>by
  refine⟨0,λn _ k r=>?_⟩;obtain⟨j,rfl⟩:∃j,k=j+1:=⟨k - 1,by omega⟩;show FN n a.carriers sz s _ _=_;unfold FN;rw[d_0 (by rw[d];simp)];rfl
 |[],z::b,_,_,_,_,_,h=>by simp at h
 |c::u,[],_,_,_,_,_,h=>by simp at h
 |c::u,z::b,p,ps,d,g,i,w=>by
  have f:=awM q;rw[d,g]at f;let⟨C,x,_⟩:=adi (aea p ps c u z b i f);let⟨y,l⟩:=aFM c.name z Cl x;let⟨A,m⟩:=aAs c.elems s;let⟨B,o⟩:=anH a sz q s u b (p++[c]) (ps++[z]) (by simp[d]) (by simp[g]) (by simp[i]) (by simpa using w);refine⟨y+A+B,λn D k r=>?_⟩;obtain⟨j,rfl⟩:∃j,k=j+1:=⟨k - 1,by omega⟩;have l:MH n c.name z=_:=l n Cl;have m:Y1 n c.elems s=_:=m n Cl;have o:=o n Cl j (by simp at r;omega);have t:=(bg g).2;rw[<-i]at t;show FN n a.carriers sz s (YV n a.carriers sz s j) _=_;unfold FN yM;rw[(bg d).1];simp only[c_1,(bg d).2,qAb,t,l,m];cases c.name==s
  ·cases decide (0<=dR (λe=>s==e) 0 c.elems)
   ·rw[show(p.length:Int)+1=((p++[c]).length:Int) by simp];exact o
   rfl
  rfl
def apK(n:Env)(sz:A2)(P:uj n sz=true)(E:(n.carriers.map (·.name)).Nodup)(s:Str):∀(u:A7) (j:A2) (p:A7) (ps:A2),n.carriers=p++u->sz=ps++j->p.length=ps.length->u.length=j.length->
  (match yM u j s with|some v=>∃t,(s,t)∈u.flatMap kR/\hasB n sz t v=true|none=>∀t,(s,t)∉u.flatMap kR)
 |[],[],p,ps,l,_,_,_=>by simp[yM]
 |[],z::j,_,_,_,_,_,h=>by simp at h
 |c::u,[],_,_,_,_,_,h=>by simp at h
 |c::u,z::j,p,ps,l,F,G,S=>by
  have k:=awM P;rw[l,F]at k;let⟨W,X,T⟩:=adi (aea p ps c u z j G k);have B:=apK n sz P E s u j (p++[c]) (ps++[z]) (by simp[l]) (by simp[F]) (by simp[G]) (by simpa using S);have H:He n sz c.name=z:=by
   have I:∀(q:A7) (i:Int),(∀d∈q,d.name≠c.name)->dR (λd:Carrier=>d.name==c.name) i (q++c::u)=i+q.length:=by
    intro q
    induction q with
    |nil=>intro i _;simp[dR]
    |cons d q J=>
     intro i h;have w:(d.name==c.name)=false:=by simpa using h d cn
     rw[qAM,dR,w,c_0,J _ λe l=>h e (by simp[l])];simp;omega
   unfold He;rw[l,I p 0 (λd r K=>by
    rw[l,qBj,qDe]at E;exact E.2.2 d.name (qAJ.2 ⟨d,r,rfl⟩) c.name cn K),qDZ]
   have C:=(bg F).2;rw[<-G]at C;rw[C];rfl
  have y:∀i:Int,0<=i->i<z->hasB n sz (nD c.name) (.mk 3 i c.name [])=true:=λi w L=>by
   rw[show hasB n sz (nD c.name) (.mk 3 i c.name [])=OD n sz c.name (.mk 3 i c.name []) by unfold nD hasB;rfl];unfold OD;simp[Val.kind,Val.name,Val.kids,Val.n,H,w,L]
  unfold yM;cases D:(c.name==s)with
  |true=>
   have D:=eq_of_beq D;subst D;refine⟨au (nD c.name),by simp[kR],iV.2 ⟨_,rfl,⟨?_,?_⟩,λx Q=>?_⟩⟩
   ·unfold elems;rw[qDR];refine List.Pairwise.imp (λ{a b} U=>?_) qDv;show bQ _ _<0;rw[zw,zy,zy];exact .inr ⟨(pF 3 3).2 rfl,.inl ((ad7 _ _).2 Cl)⟩
   ·unfold elems;simp;omega
   unfold elems at Q;obtain⟨i,C,rfl⟩:=qAJ.1 Q;rw[qBW]at C;exact y i Cl Cl
  |false=>
   have f:=mO (λe=>s==e) c.elems 0 (qBD _);simp only[c_0];cases r:decide (0<=dR (λe=>s==e) 0 c.elems)with
   |true=>
    simp only[c_1];rw[r]at f;let⟨e,m,o⟩:=qCB.1 f.symm;have o:s=e:=eq_of_beq o;refine⟨nD c.name,?_,y _ (of_decide_eq_true r) ?_⟩
    ·rw[qBf,qAr];exact .inl (qAk _ (qAJ.2 ⟨e,m,by rw[o]⟩))
    rcases Dw (λe=>s==e) c.elems []with⟨x,_,_,M,A⟩|⟨_,g⟩
    ·simp only[qAA,qAo]at M A;rw[show(((0:Nat):Int))=0 from rfl]at M A;unfold idx at A;rw[if_pos M]at A;have V:=(qAH.1 A).1;rcases T with h|h<;>omega
    simp only[qAA]at g;rw[show(((0:Nat):Int))=0 from rfl]at g;have:=of_decide_eq_true r;omega
   |false=>
    simp only[c_0];rw[r]at f;have N:∀t,(s,t)∉kR c:=λt ht=>by
     unfold kR at ht;rcases qAh.1 ht with ht|ht
     ·cases ht;simp at D
     let⟨e,m,O⟩:=qAJ.1 ht;cases O;have:=qDP.1 f.symm s m;simp at this
    cases R:yM u j s with
    |some v=>
     rw[R]at B;let⟨t,w,L⟩:=B;exact⟨t,by rw[qBf,qAr];exact .inr w,L⟩
    |none=>
     rw[R]at B;intro t ht;rw[qBf,qAr]at ht;exact ht.elim (N t) (B t)
def aA3(ds:A4)(vs:Af)(h:vs.length=ds.length):((ds.zip vs).map λq=>(q.1.name,q.2)).map (·.1)=ds.map (·.name):=by
 induction ds generalizing vs with|nil=>simp|cons d ds i=>cases vs with|nil=>simp at h|cons v vs=>simp_all
def J8{w:S_api_World}(h:gW w=true)(s:Str):dn (vG w) s=dn ((w.env.names.zip w.values).map λq=>(q.1.name,q.2)) s/\(((w.env.names.zip w.values).map λq=>(q.1.name,q.2)).map (·.1)).Nodup:=by
 let⟨a,c,b,d⟩:=mR h;have n:(((w.env.names.zip w.values).map λq=>(q.1.name,q.2)).map (·.1)).Nodup:=by
  rw[aA3 _ _ b];have:=(iJ a).2.2.2.2;unfold names2 at this
  grind
 unfold vG;rw[QV _ _ _ n,Oe]
 grind
def anT{e:Env}(h:aW e=true):(e.carriers.map (·.name)).Nodup:=by
 have:=(iJ h).2.2.2.2;unfold names2 at this
 grind
def PS{w:S_api_World}(h:gW w=true)(s:Str)(t:Ty)(ht:look w.env s=some t):(∃v,dn (vG w) s=some v/\aI w s=v/\hasB w.env w.sizes t v=true)∨(∃v,dn (vG w) s=none/\yM w.env.carriers w.sizes s=some v/\aI w s=v/\hasB w.env w.sizes t v=true):=by
 let⟨b,g,x,y⟩:=mR h;let⟨j,n⟩:=J8 h s;have u:∀a,(s,a)∈wK w.env->a=t:=λa l=>by
  have:=(Ae b).2 l
  grind
 unfold aI;cases m:dn (vG w) s with
 |some v=>
  refine .inl ⟨v,rfl,rfl,?_⟩;rw[j]at m;rw[qY _ _ _ n]at m;let⟨q,o,e⟩:=qAJ.1 m;cases e;have:=u q.1.ty (by unfold wK;rw[qAr];exact .inr (qAJ.2 ⟨q.1,(qCR (show(q.1,q.2)∈w.env.names.zip w.values from o)).1,rfl⟩))
  grind
 |none=>
  have c:=apK w.env w.sizes g (anT b) s w.env.carriers w.sizes [] [] rfl rfl rfl (Dk g).symm;cases k:yM w.env.carriers w.sizes s with
  |some v=>
   rw[k]at c;let⟨a,p,A⟩:=c;have:=u a (by unfold wK;rw[qAr];exact .inl p)
   grind
  |none=>
   exfalso;rw[k]at c;have ht:=(Ae b).1 ht;unfold wK at ht;rcases qAr.1 ht with ht|ht
   ·exact c t ht
   let⟨d,r,f⟩:=qAJ.1 ht;cases f;rw[j]at m;obtain⟨i,B,rfl⟩:=qBy r;have z:(w.env.names[i],w.values[i]' Cl)∈w.env.names.zip w.values:=by
    rw[qBF];exact⟨i,by simp;omega,by simp⟩
   have:=(qY ((w.env.names.zip w.values).map λq=>(q.1.name,q.2)) w.env.names[i].name (w.values[i]' Cl) n).2 (qAJ.2 ⟨_,z,rfl⟩);rw[m]at this;cases this
def DZ{w:S_api_World}(h:gW w=true):Xp w.env w.sizes (aI w):=λs t b=>by rcases PS h s t b with⟨v,_,e,a⟩|⟨v,_,_,e,a⟩<;>rw[e]<;>exact a
def aej{w:S_api_World}(h:gW w=true):LkE w.env w.env.carriers w.env.names w.sizes (vG w) (aI w):=λs t d b=>by
 let⟨f,a,_⟩:=mR h;unfold adY;rcases PS h s t d with⟨v,e,c,_⟩|⟨v,e,c,g,_⟩
 ·refine Ev.of λn=>?_;rw[e,c];simp only[qAb,c_1,alv]
 let⟨N,i⟩:=anH w.env w.sizes a s w.env.carriers w.sizes [] [] rfl rfl rfl (Dk a).symm;refine⟨N+w.env.carriers.length+1,λn j=>?_⟩
 grind
def anK{w:S_api_World}(h:gW w=true):Ev (λn=>Mt n w) (w.env.carriers,w.env.names,w.sizes,vG w,[]):=by
 let⟨d,t,v,x⟩:=mR h;have b:=(iJ d).2.1;have c:(w.env.names.zip w.values).length=w.env.names.length:=by rw[qDt];omega
 have e:=wI (ρ:=A7×A4×A2×(List (Str×Val))×At) (w.env.names.zip w.values) (λn=>Cx n w) (λi s=>(i,s)) (λq s=>.nx (lJ s q.1.name q.2)) (λs=>s) (λu s=>s.length+u.length<=1000) (λn r s=>by
  unfold Cx;rw[c,at_end];rfl) (λp q u s e f=>⟨⟨0,λn y r=>by
  have j:p.length<w.env.names.length:=by rw[<-c,e];simp
  have g:=congrArg (λl=>l[p.length]?) e;simp at g;rw[qAc Cl,List.getElem_zip]at g;have g:=Option.some.inj g;unfold Cx;rw[d_1 Cp];have k:idx w.env.names (p.length:Int)=some q.1:=by
   unfold idx
   grind
  have m:idx w.values (p.length:Int)=some q.2:=by
   unfold idx
   grind
  simp only[k,m,qAb];rw[LX Cl];rfl⟩,λz a=>by cases a;have:=Dh s q.1.name q.2;simp at f;omega⟩) (s0:=[]) Cp
 rw[Jg (ρ:=A7×A4×A2×(List (Str×Val))×At) (λ(s:List (Str×Val)) (q:Decl×Val)=>lJ s q.1.name q.2)]at e;have o:(w.env.names.zip w.values).foldl (λ(s:List (Str×Val)) (q:Decl×Val)=>lJ s q.1.name q.2) []=vG w:=by unfold vG gI;rw[List.foldl_map]
 rw[o]at e;exact e_0 e Cu
def acn{b:Env}{sz:A2}{t:Ty}(h:Good t):∀v,hasB b sz t v=true->pY v:=by
 have f:∀v:Val,v.kids=[]->pY v:=λv e=>by
  let⟨k,n,s,q⟩:=v;subst e;simp[pY,F5]
 have c:∀l:Af,(∀v∈l,pY v)->F5 l:=by
  intro l
  induction l with
  |nil=>intro _;simp[F5]
  |cons a l i=>intro h;exact⟨h a cn,i λv d=>h v (by simp[d])⟩
 induction h with
 |int=>intro v h;obtain⟨n,rfl,_⟩:=sG.1 h;exact f _ rfl
 |car nm=>
  intro v h;rw[show hasB b sz (nD nm) v=OD b sz nm v by unfold nD hasB;rfl]at h;unfold OD at h
  simp_all
 |pair p r g j=>
  intro v h;obtain⟨x,y,rfl,m,o⟩:=qJ.1 h;exact⟨by simp,c _ (by simp only[qAh,qCm,or_false];rintro v (rfl|rfl);exact g _ m;exact j _ o)⟩
 |set p i=>
  intro v h;obtain⟨l,rfl,m,o⟩:=iV.1 h;exact⟨by have:=m.2;omega,c l λv d=>i v (o v d)⟩
def Sb{e:Env}{sz:A2}{t:Ty}(h:Top t)(v:Val)(a:hasB e sz t v=true):pY v:=by
 rcases h with rfl|h
 ·obtain⟨b,rfl⟩:=Aa.1 a;cases b<;>simp[aO,pY,F5]
 exact acn h v a
def aAc{cs:A7}{ds:A4}{sz:A2}{m:List (Str×Val)}{g:Str->Val}{t:Tm}(h:nK cs ds sz m g t []):Ev (λn=>rW n cs ds sz m [] t) (match aj g t []with| .ok v=>(v,0,[])| .er e=>(v0,e,[])):=by
 unfold nK at h;cases r:aj g t []with|ok v=>rw[r]at h;exact e_0 h Cu|er e=>
  rw[r]at h;let⟨a,z,b⟩:=h;refine e_0 b (Ev.of λn=>?_);have c:(decide ((0:Int)<=e)&&decide (e<=1000))=true:=by rcases a with rfl|rfl<;>rfl
  simp only[PZ.el,c];unfold FJ;rfl
def l9(w:S_api_World)(t:Tm):Val×Int:=match aj (aI w) t []with| .ok v=>(v,0)| .er e=>(v0,e)
def ig(w:S_api_World)(t:Tm):Val×Int:=cond (gW w&&cO t) (cond ((bT w.env t).2.2 !=0) (v0,(bT w.env t).2.2) (l9 w t)) (v0,1)
def fZ(w:S_api_World)(t:Tm):Bool×Int:=cond (gW w&&cO t) (cond (l6 w.env t !=0) (false,l6 w.env t) (cond ((l9 w t).2==0) ((l9 w t).1.n==1,(l9 w t).2) (false,(l9 w t).2))) (false,1)
def Dt{w:S_api_World}{t:Tm}(c:gW w=true)(v:cO t=true)(h:(bT w.env t).2.2=0):∃y,(bT w.env t).1=y/\Top y/\HT w.env [] t y/\bX w.env [] t=.ok y:=by let⟨b,_⟩:=mR c;unfold bT at h|-;rw[b,v]at h|-;cases a:bX w.env [] t with|er e p=>rw[a]at h;exact absurd h (IG t [] e p a)|ok y=>exact⟨y,rfl,sV b wR a,apj b t 1 [] y (sP v) wR a,rfl⟩
def arq{w:S_api_World}{t:Tm}{ty:Ty}(h:gW w=true)(v:cO t=true)(a:HT w.env [] t ty):nK w.env.carriers w.env.names w.sizes (vG w) (aI w) t []:=
 (aek (DZ h) (aej h) t).1 1 [] ty [] (sP v) a .nil cn
def Qt{w:S_api_World}{t:Tm}{ty:Ty}{v:Val}(a:gW w=true)(b:HT w.env [] t ty)(h:aj (aI w) t []=.ok v):hasB w.env w.sizes ty v=true:=sound (DZ a) t [] ty [] v b .nil h
def H7(w:S_api_World)(t:Tm)(hs:FQ w.env)(s:iN t):Ev (λn=>mU n w t) (ig w t):=by
 unfold mU ig;refine e_0 (a:=!(gW w&&cO t)) ?_ ?_;·refine e_0 (Zw w hs) ?_;cases gW w with|false=>exact Cu|true=>exact e_0 (OB t s) Cu
 cases h:(gW w&&cO t)with|false=>exact Cu|true=>
  rw[qAa]at h;refine e_0 (QD w.env t hs s) ?_;cases c:((bT w.env t).2.2 !=0)with|true=>exact Cu|false=>let⟨y,f,d,b,_⟩:=Dt h.1 h.2 (by simpa using c);refine e_0 (anK h.1) (e_0 (aAc (arq h.1 h.2 b)) ?_);unfold l9;cases r:aj (aI w) t []with|ok v=>exact e_0 (adp v (Sb d v (Qt h.1 b r))) Cu|er e=>exact e_0 (adp v0 (by simp[v0,pY,F5])) Cu
def G8(w:S_api_World)(t:Tm)(hs:FQ w.env)(s:iN t):Ev (λn=>j4 n w t) (fZ w t):=by
 unfold j4 fZ;refine e_0 (a:=!(gW w&&cO t)) ?_ ?_
 ·refine e_0 (Zw w hs) ?_;cases gW w with
  |false=>exact Cu
  |true=>exact e_0 (OB t s) Cu
 cases h:(gW w&&cO t)with
 |false=>exact Cu
 |true=>
  rw[qAa]at h;refine e_0 (aa4 w.env t hs s) ?_;cases e:(l6 w.env t !=0)with
  |true=>exact Cu
  |false=>
   have b:(bT w.env t).2.2=0:=by
    unfold l6 at e
    grind
   let⟨y,d,f,c,_⟩:=Dt h.1 h.2 b;refine e_0 (anK h.1) ?_;refine e_0 (g:=λ(x:Bool×Int×At) _=>some (x.1,x.2.1)) (a:=cond ((l9 w t).2==0) ((l9 w t).1.n==1,(l9 w t).2,[]) (false,(l9 w t).2,[])) (e_0 (aAc (arq h.1 h.2 c)) (Ev.of λn=>?_)) (Ev.of λn=>?_)
   ·unfold l9
    grind
   grind
def aFr:∀t:Tm,∃c,Ev (λn=>KT n t) c:=Tm.ind λo nm k u a D=>by
 have A:∀x:Tm,∃c,x∈a->Ev (λn=>KT n x) c:=λx=>by
  by_cases h:x∈a;·simp_all
  simp_all
 let⟨g,l⟩:=qCu A
 let f:Int->Tm->Int:=λi x=>cond (bY o&&i==1) (IntKind.wrap .i64 (g x*64)) (g x)
 have y:∀(b p:Bi) (s:Int),a=p++b->∃r,∃N,∀n,N<=n->∀j,b.length+1<=j->Zl n (KT n) (.mk o nm k u a) j (s,(p.length:Int))=some r:=by
  intro b
  induction b with|nil=>intro p s d;refine⟨.nx s,0,λn _ j z=>?_⟩;obtain⟨j,rfl⟩:∃q,j=q+1:=⟨j - 1,by omega⟩;show FL n _ (.mk o nm k u a) _ _=_;unfold FL;have e:decide ((p.length:Int)<(a.length:Int))=false:=d_0 (by rw[d];simp);show cond (decide ((p.length:Int)<(a.length:Int))) _ _=_;rw[e];rfl|cons x b m=>
   intro p s d;let⟨N,v⟩:=l x (by rw[d];simp);let⟨r,M,w⟩:=m (p++[x]) (IntKind.wrap .i64 (s+f (p.length:Int) x)) (by simp[d]);refine⟨cond (decide (20000000<IntKind.wrap .i64 (s+f (p.length:Int) x))) (.rt 20000001) r,N+M,λn B j z=>?_⟩;obtain⟨j,rfl⟩:∃q,j=q+1:=⟨j - 1,by omega⟩;have v:KT n x=_:=v n Cl;have w:=w n Cl j (by simp at z;omega);show FL n _ (.mk o nm k u a) (Zl n _ (.mk o nm k u a) j) _=_;unfold FL;show cond (decide ((p.length:Int)<(a.length:Int))) (Option.bind (idx a (p.length:Int)) _) _=_;rw[(bg d).1,(bg d).2];simp only[c_1,qAb,v,abj,Tm.op];have e:(((cond (bY o) (some ((p.length:Int)==1)) (some false)).bind λ(C:Bool)=>cond C (some (IntKind.wrap .i64 (g x*64))) (some (g x))):B0)=some (f (p.length:Int) x):=by show _=some (cond (bY o&&(p.length:Int)==1) _ _);cases bY o<;>cases(p.length:Int)==1<;>rfl
   rw[e];simp only[qAb];cases decide (20000000<IntKind.wrap .i64 (s+f (p.length:Int) x))with|true=>rfl|false=>simp only[c_0];rw[show(p.length:Int)+1=((p++[x]).length:Int) by simp];exact w
 let⟨r,N,h⟩:=y a [] 1 rfl;refine⟨match r with| .nx s=>s| .rt s=>s,Ev.succ ⟨N+a.length+1,λn B=>?_⟩⟩;show RL n _ (.mk o nm k u a)=_;unfold RL
 grind
def Dq(t:Tm):∃b,Ev (λn=>sM n t) b:=by let⟨c,h⟩:=aFr t;refine⟨cond (cO t) (decide (c<=20000000)) true,?_⟩;refine e_0 (e_0 (xS t) ?_) Cu;cases cO t with|false=>exact Cu|true=>exact e_0 h Cu
def Q7(e:Env):∃b,Ev (λn=>Ah n e) b:=by
 refine⟨decide ((e.carriers.length:Int)<=100)&&decide ((e.names.length:Int)<=100),Ev.of λn=>?_⟩;unfold Ah
 grind
def nL:Ev (λn=>(jf n).bind λx=>some x) true:=e_0 (a:=true) Cu Cu
def Iu(a b:Val):Ev (λn=>dB n a b) (eD a b):=acB a b
def zo(a b:Val):eD a b=true↔a=b:=by unfold eD;rw[beq_iff_eq,gF]
def axe{w:S_api_World}{t:Tm}(a:gW w=true)(h:l6 w.env t=0):cO t=true/\HT w.env [] t aY:=by
 have k:(bT w.env t).2.2=0/\(bT w.env t).1.kind=2:=by
  unfold l6 at h
  grind
 have v:cO t=true:=by cases v:cO t with|true=>rfl|false=>have:=k.1;unfold bT at this;rw[v,qBP]at this;cases this
 let⟨y,b,c,d,_⟩:=Dt a v k.1;rw[b]at k;have e:y=aY:=by
  rcases c with h|h
  ·exact h
  cases h<;>simp[fE,nD,aR,au,Ty.kind]at k
 subst e;exact⟨v,d⟩
def adf:∀v:Val,pY v->gU v:=Val.ind λk n s c i h=>by
 have:∀l:Af,(∀v∈l,gU v)->UF l:=by
  intro l
  induction l with|nil=>intro _;trivial|cons a l i=>intro h;exact⟨h a cn,i λv b=>h v (by simp[b])⟩
 have d:=h.kids;have e:c.length*56<=140737488355328:=d.1;exact⟨by omega,this c λv b=>i v b (d.2 v b)⟩
def dh(r:VR):Val×Int:=match r with| .ok v=>(v,0)| .er e=>(v0,e)
abbrev VS(l:Af):Prop:=∀x∈l,gU x
def abJ{l:Af}(h:(sortV l).length<=256):bF l=.ok (gH l):=by
 unfold bF
 grind
def aEc{l m:Af}(h:sortV l=sortV m):bF l=bF m:=by unfold bF gH;rw[h]
def aE6{l:Af}(h:l.length<=256):bF l=.ok (gH l):=abJ (by have:=eP l;omega)
def KI{l:Af}(h:VS l)(a:l.length<=1000000):Ev (λn=>iZ n l) (gH l):=aFw l h Cl
def awo{l:Af}(h:VS l)(a:l.length<=1000000):Ev (λn=>(iZ n l).bind λ(x:Val)=>some x) (gH l):=e_0 (KI h a) Cu
def UR{l:Af}(h:VS l)(a:l.length<=1000000):Ev (λn=>(iZ n l).bind λ(x:Val)=>some (x,(0:Int))) (gH l,0):=e_0 (KI h a) Cu
def aEt{l:Af}(h:VS l)(a:l.length<=1000000):Ev (λn=>qM n l) (dh (bF l)):=by refine e_0 (KI h a) ?_;unfold bF;show Ev (λn=>cond (decide (256<((sortV l).length:Int))) _ _) _;cases decide (256<((sortV l).length:Int))<;>exact Cu
def apB{l:Af}(h:VS l)(a:l.length<=1000000):Ev (λn=>(qM n l).bind λ(x:Val×Int)=>some (x.1,x.2)) (dh (bF l)):=e_0 (aEt h a) Cu
def Ql(x:Int):Ev (λn=>(j5 n x).bind λ(x:Val×Int)=>some (x.1,x.2)) (dh (gM x)):=by refine Ev.of λn=>?_;unfold j5 gM ab1 dh;cases decide (1000000000<x)<;>cases decide (x< -1000000000)<;>rfl
def rG(b:Bool):Ev (λn=>(iQ n b).bind λ(x:Val)=>some (x,(0:Int))) (dh (.ok (aO b))):=by cases b<;>exact Cu
def asR{α τ ρ:Type}(p:α->Bool)(r:ρ)(u:τ):∀l:List α,fG (λx (_:Unit)=>cond (p x) (LR.rt r) (.nx ())) (λ_=>u) l ()=cond (l.any p) (.rt r) (.nx u)
 |[]=>rfl
 |x::l=>by
  simp only[fG,qCA];cases p x with
  |true=>rfl
  |false=>exact asR p r u l
def Pw(x s:Val):Ev (λn=>ru n x s) (aF s.kids x):=by
 have l:=wI s.kids (λn=>Gn n x s) (λi _=>i) (λy (_:Unit)=>cond (eD y x) (.rt true) (.nx ())) (λ_=>()) (λ_ _=>True)
  (λn r u=>by unfold Gn;rw[at_end];rfl)
  (λp y f u e _=>by let⟨N,h⟩:=Iu y x;refine⟨⟨N,λn a r=>?_⟩,λ_ _=>trivial⟩;have h:dB n y x=_:=h n a;unfold Gn;rw[(bg e).1,(bg e).2];simp only[qAb,h];cases eD y x<;>rfl)
  (s0:=()) trivial
 rw[asR (λy=>eD y x)]at l;refine e_0 l ?_;show Ev (λn=>LR.el _ _ (cond (aF s.kids x) _ _)) _;cases aF s.kids x<;>exact Cu
def WA(s t:Val):Ev (λn=>kW n s t) (s.kids.all (aF t.kids)):=by
 have l:=wI s.kids (λn=>PO n s t) (λi _=>i) (λy (_:Unit)=>cond (!aF t.kids y) (.rt false) (.nx ())) (λ_=>()) (λ_ _=>True)
  (λn r u=>by unfold PO;rw[at_end];rfl)
  (λp y f u e _=>by let⟨N,h⟩:=Pw y t;refine⟨⟨N,λn a r=>?_⟩,λ_ _=>trivial⟩;have h:ru n y t=_:=h n a;unfold PO;rw[(bg e).1,(bg e).2];simp only[qAb,h];cases aF t.kids y<;>rfl)
  (s0:=()) trivial
 rw[asR (λy=>!aF t.kids y)]at l;refine e_0 l ?_;rw[show s.kids.all (aF t.kids)=!(s.kids.any λy=>!aF t.kids y) by rw[qm,qCk]];cases s.kids.any λy=>!aF t.kids y<;>exact Cu
def Dy(k:Int)(p:Val):Val:=cond (k==0) (aJ p) (aQ p)
def fI.cmp{l:Af}(h:fI l){k:Int}(b:k=0∨k=1){p:Val}(a:p∈l):idx p.kids k=some (Dy k p):=by
 rcases b with rfl|rfl
 ·exact h.fst a
 exact h.snd a
def fI.vs{l:Af}(h:fI l)(f:VS l)(k:Int):VS (l.map (Dy k)):=λx g=>by
 obtain⟨p,c,rfl⟩:=qAJ.1 g;have i:=f p c;let⟨a,b,e⟩:=h p c;let⟨q,n,s,j⟩:=p;subst e;have d:gU a/\gU b/\True:=i.2;unfold Dy;cases(k==0);·exact d.2.1
 exact d.1
def rF(k:Int)(l:Af):Af:=sortV (l.map (Dy k))
def wC{k:Int}(b:k=0∨k=1)(r:Val)(h:fI r.kids)(d:VS r.kids)(l:r.kids.length<=1000000):Ev (λn=>rE n r k) (mkSet (rF k r.kids)):=by
 have a:=mG r.kids (λn=>Gx n r k) (λi s=>(s,i)) (λx=>[Dy k x]) 1000000 Cl (λn c s=>by unfold Gx;rw[at_end];rfl) (λp x u s e f=>⟨0,λn g c=>by unfold Gx;rw[(bg e).1];simp only[(bg e).2,qAb,h.cmp b (show x∈r.kids by simp[e])];rw[dQ (by simpa using f)];rfl⟩) (s0:=[]) (by rw[flatMap_one];simpa using l)
 rw[flatMap_one,qAo]at a;exact e_0 a (awo (h.vs d k) (by simpa using l))
def Zf{k:Int}(a:k=0∨k=1)(r:Val)(h:fI r.kids)(s:VS r.kids)(l:r.kids.length<=1000000):Ev (λn=>nW n r k) (fU (rF k r.kids) r.kids):=e_0 (wC a r h s l) Cu
def acW(p:Val->Bool)(l:Af):(sortV l).all p=l.all p:=by rw[qCe,qAP,qAP];simp only[aV]
def av9{a b:Af}(e:a.Pairwise iA)(f:b.Pairwise iA)(h:∀x∈b,x∈a):a.all (aF b)=fU b a:=by
 have s:=uD a b e f h;rw[qCe,qAP,w9];constructor
 ·intro c;have:=uD b a f e λx d=>(dN b x).1 (c x d)
  grind
 intro c x d;rw[dN,s.eq_of_length c];exact d
def aso(op:Int)(a b l:Af):Bool:=cond (!((d9 l).all (aF a)) ||!((bC l).all (aF b))) false
 (cond (decide (42<=op)&&!(fU (d9 l) l)) false (cond (decide (43<=op)&&!(a.all (aF (d9 l)))) false (cond (decide (44<=op)&&!(fU (bC l) l)) false (cond (decide (45<=op)) (b.all (aF (bC l))) true))))
def aFF{op:Int}(o:op=41∨op=42∨op=43∨op=44∨op=45){a b:Af}(f:a.Pairwise iA)(g:b.Pairwise iA)(l:Af):aso op a b l=lC op a b l:=by
 have c:(d9 l).all (aF a)=l.all λp=>aF a (aJ p):=by unfold d9;rw[acW,List.all_map];rfl
 have d:(bC l).all (aF b)=l.all λp=>aF b (aQ p):=by unfold bC;rw[acW,List.all_map];rfl
 have i:(l.all λp=>aF a (aJ p)&&aF b (aQ p))=((l.all λp=>aF a (aJ p))&&l.all λp=>aF b (aQ p)):=by
  grind
 cases q:l.all λp=>aF a (aJ p)with
 |false=>
  unfold aso lC
  grind
 |true=>
  cases e:l.all λp=>aF b (aQ p)with
  |false=>
   unfold aso lC
   grind
  |true=>
   have j:a.all (aF (d9 l))=fU (d9 l) a:=av9 f (cZ _) λx h=>(dN a x).1 (qAP.1 (c.trans q) x h);have k:b.all (aF (bC l))=fU (bC l) b:=av9 g (cZ _) λx h=>(dN b x).1 (qAP.1 (d.trans e) x h);unfold aso lC;rw[c,d,i,q,e,j,k];rcases o with rfl|rfl|rfl|rfl|rfl
   ·rfl
   ·grind
   ·grind
   ·grind
   grind
def at6{op:Int}(o:op=41∨op=42∨op=43∨op=44∨op=45){a b:Val}{x:Val}(p:a.kids.Pairwise iA)(q:b.kids.Pairwise iA)(h:fI x.kids)(s:VS x.kids)(l:x.kids.length<=1000000):Ev (λn=>Es n op x [a,b]) (lC op a.kids b.kids x.kids):=by
 rw[<-aFF o p q];have r:=wC (.inl rfl) x h s l;have u:=wC (.inr rfl) x h s l;have v:=Zf (.inl rfl) x h s l;have w:=Zf (.inr rfl) x h s l;have z:=WA (mkSet (rF 0 x.kids)) a;have A:=WA (mkSet (rF 1 x.kids)) b;have B:=WA a (mkSet (rF 0 x.kids));have C:=WA b (mkSet (rF 1 x.kids));unfold Es;rw[show(op==46)=false by rcases o with rfl|rfl|rfl|rfl|rfl<;>rfl]
 refine e_0 r (e_0 u ?_);unfold aso;refine e_0 (a:=!((d9 x.kids).all (aF a.kids)) ||!((bC x.kids).all (aF b.kids))) ?_ ?_;·refine e_0 z ?_;show Ev (λn=>cond (!((d9 x.kids).all (aF a.kids))) _ _) _;cases(d9 x.kids).all (aF a.kids)with|false=>exact Cu|true=>exact e_0 A Cu
 cases !((d9 x.kids).all (aF a.kids)) ||!((bC x.kids).all (aF b.kids))with|true=>exact Cu|false=>
  refine e_0 (a:=cond (decide (42<=op)&&!(fU (d9 x.kids) x.kids)) false (cond (decide (43<=op)&&!(a.kids.all (aF (d9 x.kids)))) false (cond (decide (44<=op)&&!(fU (bC x.kids) x.kids)) false (cond (decide (45<=op)) (b.kids.all (aF (bC x.kids))) true)))) ?_ Cu;have t:Ev (λn=>cond (decide (45<=op)) ((kW n b (mkSet (rF 1 x.kids))).bind λ(c:Bool)=>some (!(!c))) (some true)) (cond (decide (45<=op)) (b.kids.all (aF (bC x.kids))) true):=by cases decide (45<=op)with|false=>exact Cu|true=>exact e_0 C (Ev.of λn=>by rw[qCk];rfl)
  have f:Ev (λn=>cond (decide (44<=op)) ((nW n x 1).bind λ(d:Bool)=>cond (!d) (some false) (cond (decide (45<=op)) ((kW n b (mkSet (rF 1 x.kids))).bind λ(e:Bool)=>some (!(!e))) (some true))) (cond (decide (45<=op)) ((kW n b (mkSet (rF 1 x.kids))).bind λ(c:Bool)=>some (!(!c))) (some true))) (cond (decide (44<=op)&&!(fU (bC x.kids) x.kids)) false (cond (decide (45<=op)) (b.kids.all (aF (bC x.kids))) true)):=by
   cases decide (44<=op)with|false=>exact t|true=>refine e_0 w ?_;show Ev (λn=>cond (!(fU (bC x.kids) x.kids)) _ _) _;cases fU (bC x.kids) x.kids with|false=>exact Cu|true=>exact t
  have g:∀y,y=decide (43<=op)->Ev (λn=>cond y ((kW n a (mkSet (rF 0 x.kids))).bind λ(i:Bool)=>cond (!i) (some false) (cond (decide (44<=op)) ((nW n x 1).bind λ(j:Bool)=>cond (!j) (some false) (cond (decide (45<=op)) ((kW n b (mkSet (rF 1 x.kids))).bind λ(k:Bool)=>some (!(!k))) (some true))) (cond (decide (45<=op)) ((kW n b (mkSet (rF 1 x.kids))).bind λ(m:Bool)=>some (!(!m))) (some true)))) (cond (decide (44<=op)) ((nW n x 1).bind λ(d:Bool)=>cond (!d) (some false) (cond (decide (45<=op)) ((kW n b (mkSet (rF 1 x.kids))).bind λ(e:Bool)=>some (!(!e))) (some true))) (cond (decide (45<=op)) ((kW n b (mkSet (rF 1 x.kids))).bind λ(c:Bool)=>some (!(!c))) (some true)))) (cond (decide (43<=op)&&!(a.kids.all (aF (d9 x.kids)))) false (cond (decide (44<=op)&&!(fU (bC x.kids) x.kids)) false (cond (decide (45<=op)) (b.kids.all (aF (bC x.kids))) true))):=λy D=>by
   subst D;cases decide (43<=op)with|false=>exact f|true=>refine e_0 B ?_;show Ev (λn=>cond (!(a.kids.all (aF (d9 x.kids)))) _ _) _;cases a.kids.all (aF (d9 x.kids))with|false=>exact Cu|true=>exact f
  cases decide (42<=op)with|false=>exact g _ rfl|true=>refine e_0 v ?_;show Ev (λn=>cond (!(fU (d9 x.kids) x.kids)) _ _) _;cases fU (d9 x.kids) x.kids with|false=>exact Cu|true=>exact g _ rfl
def VS.F8{l:Af}(h:VS l)(p:Val->Bool):VS (l.filter p):=by grind
def VS.pr{a b:Val}(h:gU a)(h2:gU b):gU (aG a b):=⟨by simp,h,h2,trivial⟩
def VS.int(n:Int):gU (iY n):=⟨by simp,trivial⟩
def VS.set{l:Af}(h:VS l)(c:l.length<=1000000):gU (mkSet l):=by
 have:∀l:Af,VS l->UF l:=by
  intro l
  induction l with|nil=>intro _;trivial|cons a l i=>intro h;exact⟨h a cn,i λv b=>h v (by simp[b])⟩
 exact⟨by omega,this l h⟩
def VS.sort{l:Af}(h:VS l):VS (sortV l):=λx a=>h x ((aV l x).1 a)
def VS.app{a b:Af}(h:VS a)(k:VS b):VS (a++b):=by grind
def VS.flat{a:Af}{g:Val->Af}(h:∀x∈a,VS (g x)):VS (a.flatMap g):=by grind
def fI.vk{l:Af}(h:fI l)(s:VS l){p:Val}(a:p∈l):gU (aJ p)/\gU (aQ p):=by have b:=h.vs s 0;have c:=h.vs s 1;exact⟨b _ (qAJ.2 ⟨p,a,rfl⟩),c _ (qAJ.2 ⟨p,a,rfl⟩)⟩
def Yd{k:Int}(g:k=0∨k=1)(r s:Val)(b:Bool)(h:fI r.kids)(j:VS r.kids)(l:r.kids.length<=1000000):Ev (λn=>D8 n r k s b) (gH (r.kids.filter λp=>aF s.kids (Dy k p)==b)):=by
 have d:=mG r.kids (λn=>Ms n r k s b) (λi s=>(s,i)) (λx=>cond (aF s.kids (Dy k x)==b) [x] []) 1000000 Cl (λn c s=>by unfold Ms;rw[at_end];rfl) (λm x u o e f=>by
  let⟨N,a⟩:=Pw (Dy k x) s;refine⟨N,λn q c=>?_⟩;have a:ru n (Dy k x) s=_:=a n q;unfold Ms;rw[(bg e).1];simp only[(bg e).2,qAb,h.cmp g (show x∈r.kids by simp[e]),a];cases t:(aF s.kids (Dy k x)==b);·simp
  rw[t]at f;rw[dQ (by simpa using f)];rfl) (s0:=[]) (by rw[zn];have:=qCJ (λx=>aF s.kids (Dy k x)==b) r.kids;simp;omega)
 rw[zn,qAo]at d;exact e_0 d (awo (j.F8 _) (qAs (qCJ _ _) l))
def afj(a b:Af)(l:a.length<=256)(m:b.length<=256):Ev (λn=>Am n a b) (a.flatMap λx=>b.map (aG x)):=by
 have v:(a.flatMap λx=>b.map (aG x)).length<=a.length*256:=iF _ 256 a λx _=>by simpa using m
 have o:=mG (ρ:=Af) a (λn=>Eh n a b) (λi s=>(s,i)) (λx=>b.map (aG x)) 1000000 Cl (λn r s=>by unfold Eh;rw[at_end];rfl) (λp x q s e t=>by
  have d:=mG (ρ:=Af) b (λn=>EK n a b (s,(p.length:Int))) (λi s=>(s,i)) (λy=>[aG x y]) 2513169434916 Cl (λn r s=>by unfold EK;rw[at_end];rfl) (λf y u g j h=>⟨0,λn k r=>by unfold EK;rw[(bg j).1];simp only[(bg j).2,(bg e).2,qAb];rw[show app 56 g [Val.mk 4 0 [] [x,y]]=some (g++[aG x y])from dQ (by simpa using h)];rfl⟩) (s0:=s) (by rw[flatMap_one];simp at t|-;omega)
  rw[flatMap_one]at d;let⟨N,c⟩:=d;refine⟨N,λn k r=>?_⟩;have c:ZK n a b (s,(p.length:Int)) n (s,0)=_:=c n k;unfold Eh;rw[(bg e).1];simp only[c_1,c,qAb]) (s0:=[]) (by have:=qAQ 256 l;simp only[qAA];omega)
 exact e_0 o Cu
def aCt(a b:Val)(t:a.kids.length<=256)(B:b.kids.length<=256)(j:fI a.kids)(k:fI b.kids):Ev (λn=>Tp n a b n (([]:Af),0)) (.nx (a.kids.flatMap λp=>b.kids.flatMap λq=>cond (eD (aQ p) (aJ q)) [aG (aJ p) (aQ q)] [])):=by
 have l:∀p,(b.kids.flatMap λq=>cond (eD (aQ p) (aJ q)) [aG (aJ p) (aQ q)] []).length<=256:=λp=>by
  have:=iF (λq=>cond (eD (aQ p) (aJ q)) [aG (aJ p) (aQ q)] []) 1 b.kids λq _=>by cases eD (aQ p) (aJ q)<;>simp
  omega
 have C:=iF (λp=>b.kids.flatMap λq=>cond (eD (aQ p) (aJ q)) [aG (aJ p) (aQ q)] []) 256 a.kids λp _=>l p;have v:=mG (ρ:=Val×Int) a.kids (λn=>Al n a b) (λi s=>(s,i)) (λp=>b.kids.flatMap λq=>cond (eD (aQ p) (aJ q)) [aG (aJ p) (aQ q)] []) 1000000 Cl (λn r s=>by unfold Al;rw[at_end];rfl) (λc x w s e D=>by
  have z:=mG (ρ:=Val×Int) b.kids (λn=>Av n a b (s,(c.length:Int))) (λi s=>(s,i)) (λq=>cond (eD (aQ x) (aJ q)) [aG (aJ x) (aQ q)] []) 2513169434916 Cl (λn r s=>by unfold Av;rw[at_end];rfl) (λm y u o f d=>by
   let⟨N,h⟩:=Iu (aQ x) (aJ y);refine⟨N,λn g r=>?_⟩;have h:dB n (aQ x) (aJ y)=_:=h n g;unfold Av;rw[(bg f).1];simp only[(bg f).2,(bg e).2,qAb,j.fst (show x∈a.kids by simp[e]),j.snd (show x∈a.kids by simp[e]),k.fst (show y∈b.kids by simp[f]),k.snd (show y∈b.kids by simp[f]),h];cases A:eD (aQ x) (aJ y);·simp
   rw[A]at d;rw[show app 56 o [Val.mk 4 0 [] [aJ x,aQ y]]=some (o++[aG (aJ x) (aQ y)])from dQ (by simpa using d)];rfl) (s0:=s) (by have:=l x;omega)
  let⟨N,h⟩:=z;refine⟨N,λn g r=>?_⟩;have h:TS n a b (s,(c.length:Int)) n (s,0)=_:=h n g;unfold Al;rw[(bg e).1];simp only[c_1,h,qAb]) (s0:=[]) (by have:=qAQ 256 t;simp only[qAA];omega)
 exact v
def aEz(a:Val)(c:a.kids.length<=1000000)(b:fI a.kids):Ev (λn=>afw n a n (([]:Af),0)) (.nx (a.kids.map λp=>aG (aQ p) (aJ p))):=by
 have h:=mG (ρ:=Val×Int) a.kids (λn=>JR n a) (λi s=>(s,i)) (λp=>[aG (aQ p) (aJ p)]) 1000000 Cl (λn r s=>by unfold JR;rw[at_end];rfl) (λd x u s e f=>⟨0,λn g r=>by unfold JR;rw[(bg e).1];simp only[(bg e).2,qAb,b.fst (show x∈a.kids by simp[e]),b.snd (show x∈a.kids by simp[e])];rw[show app 56 s [Val.mk 4 0 [] [aQ x,aJ x]]=some (s++[aG (aQ x) (aJ x)])from dQ (by simpa using f)];rfl⟩) (s0:=[]) (by rw[flatMap_one];simpa using c)
 rw[flatMap_one,qAo]at h;exact h
def avz(op:Int)(a b:Val)(k:a.kids.length<=1000000):Ev (λn=>SX n op a b n (([]:Af),0)) (.nx (a.kids.filter λx=>aF b.kids x==(op==32))):=by
 have c:=mG (ρ:=Val×Int) a.kids (λn=>Aj n op a b) (λi s=>(s,i)) (λx=>cond (aF b.kids x==(op==32)) [x] []) 1000000 Cl (λn r s=>by unfold Aj;rw[at_end];rfl) (λp x u f e d=>by
  let⟨N,h⟩:=Pw x b;refine⟨N,λn g r=>?_⟩;have h:ru n x b=_:=h n g;unfold Aj;rw[(bg e).1];simp only[(bg e).2,qAb,h];cases j:(aF b.kids x==(op==32));·simp
  rw[j]at d;rw[dQ (by simpa using d)];rfl) (s0:=[]) (by rw[zn];have:=qCJ (λx=>aF b.kids x==(op==32)) a.kids;simp;omega)
 rw[zn,qAo]at c;exact c
def aiq(f:Nat)(b:Int)(c:EU b):∀(k:Nat) (x:Int) (a:Af),EU x->x+k=b+1->(a.length+k)<=1000000->∀j,k+1<=j->vX f b j (a,x)=some (.nx (a++ints x k))
 |0,x,a,h,d,l,j,e=>by
  obtain⟨j,rfl⟩:∃q,j=q+1:=⟨j - 1,by omega⟩;show lZ f b (vX f b j) (a,x)=_;unfold lZ;rw[show decide ((a,x).2<=b)=false from d_0 (by show ¬x<=b;omega)];simp[ints]
 |k+1,x,a,h,d,l,j,e=>by
  obtain⟨j,rfl⟩:∃q,j=q+1:=⟨j - 1,by omega⟩;show lZ f b (vX f b j) (a,x)=_;unfold lZ;have g:=h.1;have i:=h.2;have m:=c.2;rw[show decide ((a,x).2<=b)=true from d_1 (by show x<=b;omega),show app 56 (a,x).1 [Val.mk 1 (a,x).2 [] []]=some (a++[iY x])from dQ Cp];simp only[c_1,qAb];rw[wrap64 Cl Cl];cases k with
  |zero=>
   obtain⟨j,rfl⟩:∃q,j=q+1:=⟨j - 1,by omega⟩;show lZ f b (vX f b j) (a++[iY x],x+1)=_;unfold lZ;rw[show decide ((a++[iY x],x+1).2<=b)=false from d_0 (by show ¬x+1<=b;omega)];simp[ints]
  |succ k=>
   rw[aiq f b c (k+1) (x+1) (a++[iY x]) ⟨by omega,by omega⟩ Cl Cp j Cl];simp[ints]
def zA{l:Af}(h:l.length<=256):dh (bF l)=(gH l,0):=by rw[aE6 h];rfl
def azp(l:Af):sortV (sortV l)=sortV l:=jY (cZ l)
def ak1(k:Int){l:Af}(h:l.length<=256):dh (bF (rF k l))=(mkSet (rF k l),0):=by
 have s:sortV (rF k l)=rF k l:=azp _;rw[abJ];·show(mkSet (sortV (rF k l)),(0:Int))=_;rw[s]
 rw[s];have:=eP (l.map (Dy k));rw[qAi]at this;show(sortV (l.map (Dy k))).length<=256;omega
def aAz{op:Int}(o:op=3∨op=21∨op=47∨op=48∨op=49∨op=50∨op=51∨op=52){a:Val}(g:op=21->EU a.n)(c:47<=op->a.kids.length<=256/\VS a.kids)(d:50<=op->fI a.kids):Ev (λn=>(Rq n op a).bind λ(b:Val×Int)=>some (b.1,b.2)) (dh (bB op [a])):=by
 rcases o with rfl|rfl|rfl|rfl|rfl|rfl|rfl|rfl
 ·exact e_0 (rG _) Cu
 ·have h:=g rfl;unfold EU at h;show Ev (λn=>Option.bind ((j5 n (IntKind.wrap .i64 (0 - a.n))).bind λ(f:Val×Int)=>some (f.1,f.2)) _) (dh (gM (-a.n)));rw[wrap64 Cl Cl,Int.zero_sub];exact e_0 (Ql _) Cu
 ·have h:=(c Cl).1;have e:dh (bB 47 [a])=(iY a.kids.length,0):=by show dh (gM a.kids.length)=_;unfold gM ab1;rw[d_0 Cl,d_0 Cl];rfl
  rw[e];exact Cu
 ·show Ev (λn=>Option.bind (cond ((a.kids.length:Int)==0) _ _) _) (dh (match a.kids with|[]=>.er 10|x::_=>.ok x))
  cases a.kids with|nil=>exact Cu|cons x l=>exact Ev.of λn=>rfl
 ·show Ev (λn=>Option.bind (cond ((a.kids.length:Int)==0) _ ((idx a.kids ((a.kids.length:Int) - 1)).bind λ(i:Val)=>some (i,(0:Int)))) _) (dh (match a.kids.getLast? with|none=>.er 10|some x=>.ok x))
  rcases qDy a.kids with e|⟨l,x,e⟩
  ·rw[e];exact Cu
  rw[e];refine Ev.of λn=>?_;have j:idx (l.concat x) (((l.concat x).length:Int) - 1)=some x:=by rw[qDz];have:=gJ l x [];rwa[show(((l++[x]).length:Int) - 1)=(l.length:Int) by simp]
  have k:(((l.concat x).length:Int)==0)=false:=by rw[qDz];simp;omega
  have m:(l.concat x).getLast? =some x:=by simp
  rw[j,k,m];rfl
 ·have h:=c Cl;rw[show bB 50 [a]=bF (rF 0 a.kids)from rfl,ak1 0 h.1];exact e_0 (e_0 (wC (.inl rfl) a (d Cl) h.2 Cl) Cu) Cu
 ·have h:=c Cl;rw[show bB 51 [a]=bF (rF 1 a.kids)from rfl,ak1 1 h.1];exact e_0 (e_0 (wC (.inr rfl) a (d Cl) h.2 Cl) Cu) Cu
 have h:=c Cl;have r:=d Cl;rw[show bB 52 [a]=bF (a.kids.map λp=>aG (aQ p) (aJ p))from rfl,zA (by rw[qAi];exact h.1)];refine e_0 (e_0 (aEz a Cl r) (UR (λx q=>?_) (by rw[qAi];omega))) Cu;obtain⟨p,s,rfl⟩:=qAJ.1 q;have:=r.vk h.2 s;exact VS.pr this.2 this.1
def auy{op:Int}(u:op=12∨op=13∨op=14∨op=15∨op=22∨op=23∨op=24∨op=25∨op=26∨op=30){a b:Val}(f:EU a.n)(h:EU b.n):Ev (λn=>(JF n op a.n b.n).bind λ(d:Val×Int)=>some (d.1,d.2)) (dh (bB op [a,b])):=by
 have G:=aGO f h;have v:=f.1;have w:=f.2;have g:=h.1;have k:=h.2;rcases u with rfl|rfl|rfl|rfl|rfl|rfl|rfl|rfl|rfl|rfl
 ·exact e_0 (rG _) Cu
 ·exact e_0 (rG _) Cu
 ·exact e_0 (rG _) Cu
 ·exact e_0 (rG _) Cu
 ·show Ev (λn=>Option.bind ((j5 n (IntKind.wrap .i64 (a.n+b.n))).bind λ(c:Val×Int)=>some (c.1,c.2)) _) (dh (gM (a.n+b.n)));rw[wrap64 Cl Cl];exact e_0 (Ql _) Cu
 ·show Ev (λn=>Option.bind ((j5 n (IntKind.wrap .i64 (a.n - b.n))).bind λ(c:Val×Int)=>some (c.1,c.2)) _) (dh (gM (a.n - b.n)));rw[wrap64 Cl Cl];exact e_0 (Ql _) Cu
 ·show Ev (λn=>Option.bind ((j5 n (IntKind.wrap .i64 (a.n*b.n))).bind λ(c:Val×Int)=>some (c.1,c.2)) _) (dh (gM (a.n*b.n)));rw[wrap64 Cl Cl];exact e_0 (Ql _) Cu
 ·show Ev (λn=>Option.bind (cond (b.n==0) _ ((abO a.n b.n).bind λ(y:Int)=>(j5 n y).bind λ(s:Val×Int)=>some (s.1,s.2))) _) (dh (cond (b.n==0) (.er 10) (gM (Int.tdiv a.n b.n))));cases t:(b.n==0)with
  |true=>exact Cu
  |false=>
   have z:¬b.n=0:=by simpa using t
   have m:(Int.tdiv a.n b.n).natAbs<=1000000000:=by
    rw[Int.natAbs_tdiv];exact qAs (Nat.div_le_self a.n.natAbs b.n.natAbs) Cl
   rw[show abO a.n b.n=some (Int.tdiv a.n b.n) by unfold abO;rw[if_neg z,wrap64 Cl Cl]];exact e_0 (Ql _) Cu
 ·show Ev (λn=>Option.bind (Option.bind (cond (decide (a.n<0)) (some true) (some (decide (b.n<1)))) λA=>cond A _ ((Vr a.n b.n).bind λ(o:Int)=>(j5 n o).bind λ(e:Val×Int)=>some (e.1,e.2))) _) (dh (cond (decide (a.n<0) ||decide (b.n<1)) (.er 10) (gM (Int.tmod a.n b.n))))
  cases t:decide (a.n<0)with
  |true=>exact Cu
  |false=>
   cases B:decide (b.n<1)with
   |true=>exact Cu
   |false=>
    have:=of_decide_eq_false B;rw[show Vr a.n b.n=some (Int.tmod a.n b.n) by unfold Vr;rw[if_neg Cl]];exact e_0 (Ql _) Cu
 show Ev (λn=>Option.bind (cond (decide (256<=IntKind.wrap .i64 (b.n - a.n))) _ ((vX n b.n n (([]:Af),a.n)).bind (LR.el (λ(C:Af)=>(iZ n C).bind λ(p:Val)=>some (p,(0:Int))) (λr=>some r)))) _) (dh ((cond (decide (256<=b.n - a.n)) (.er 11) (.ok (ints a.n (b.n+1 - a.n).toNat)):xU).thn bF));rw[wrap64 Cl Cl];cases m:decide (256<=b.n - a.n)with
 |true=>exact Cu
 |false=>
  have m:¬256<=b.n - a.n:=by simpa using m
  have H:=ag1 (b.n+1 - a.n).toNat a.n;have h:dh ((.ok (ints a.n (b.n+1 - a.n).toNat):xU).thn bF)=(gH (ints a.n (b.n+1 - a.n).toNat),0):=zA Cl;show Ev _ (dh ((.ok (ints a.n (b.n+1 - a.n).toNat):xU).thn bF));rw[h];refine e_0 (e_0 (a:=(LR.nx (ints a.n (b.n+1 - a.n).toNat):LR Af (Val×Int))) ?_ (UR (l:=ints a.n (b.n+1 - a.n).toNat) (λx D=>?_) Cl)) Cu
  ·by_cases E:b.n+1<=a.n
   ·refine⟨1,λn F=>?_⟩;obtain⟨j,rfl⟩:∃q,n=q+1:=⟨n - 1,by omega⟩;show lZ (j+1) b.n _ ([],a.n)=_;unfold lZ;rw[show decide ((([]:Af),a.n).2<=b.n)=false from d_0 (by show ¬a.n<=b.n;omega),show(b.n+1 - a.n).toNat=0 by omega];rfl
   refine⟨258,λn F=>?_⟩;have:=aiq n b.n ⟨g,k⟩ (b.n+1 - a.n).toNat a.n [] f Cl Cp n Cl;rwa[qAo]at this
  obtain⟨i,rfl,_⟩:=Sv _ _ _ D;exact VS.int i
def aFm{l:Af}(c:l.Nodup)(x:Val)(d:∀p∈l,p=aG (aJ p) (aQ p))(f:∀p∈l,aJ p=x):(match l with|[p]=>(.ok (aQ p):VR)|_=>.er 10)=(match bC l with|[y]=>.ok y|_=>.er 10):=by
 match l,c,d,f with
 |[],_,_,_=>rfl
 |[p],_,_,_=>rfl
 |p::q::l,c,d,f=>
  have n:((p::q::l).map aQ).Nodup:=by
   refine List.Pairwise.map aQ (R:=λa b=>a∈(p::q::l)/\b∈(p::q::l)/\a≠b) (λa b h e=>h.2.2 ?_) ?_
   ·grind
   exact qDX (λ{a b} g i h=>⟨g,i,h⟩) c
  have j:(bC (p::q::l)).length=l.length+2:=by
   unfold bC;rw[(xQ _).2 n];simp
  match bC (p::q::l),j with
  |_::_::_,_=>rfl
def LK(l:Af)(f:Val->Bool)(b:Bool):(l.filter λp=>f p==b)=l.filter λp=>cond b (f p) (!f p):=by grind
def ao4{op:Int}(T:op=31∨op=32∨op=33∨op=34∨op=35∨op=36∨op=37∨op=38∨op=39∨op=40∨op=53∨op=54){a b:Val}(v:dO a.kids)(w:op≠54->dO b.kids)(f:VS a.kids)(t:VS b.kids)(vb:gU b)
  (A:op=35∨op=36∨op=39∨op=40∨op=53∨op=54->fI a.kids) (G:op=35∨op=36∨op=37∨op=38->fI b.kids) (U:op=54->∀p∈a.kids,p=aG (aJ p) (aQ p)):Ev (λn=>(Dn n op a b).bind λ(j:Val×Int)=>some (j.1,j.2)) (dh (bB op [a,b])):=by
 have C:=v.2;have u:∀(q:Val->Bool),(a.kids.filter q).length<=256:=λq=>qAs (qCJ _ _) C;have d:∀(r s:Val) (c:Bool) (k:Int),k=0∨k=1->fI r.kids->VS r.kids->dO r.kids->Ev (λn=>(D8 n r k s c).bind λ(j:Val)=>some (j,(0:Int))) (dh (bF (r.kids.filter λp=>cond c (aF s.kids (Dy k p)) (!aF s.kids (Dy k p))))):=λr s c k V W X g=>by rw[zA (qAs (qCJ _ _) g.2)];have:=Yd V r s c W X (by have:=g.2;omega);rw[LK]at this;exact e_0 this Cu
 rcases T with rfl|rfl|rfl|rfl|rfl|rfl|rfl|rfl|rfl|rfl|rfl|rfl
 ·have B:=(w Cl).2;show Ev (λn=>Option.bind ((app 56 ([]:Af) a.kids).bind λY=>(app 56 Y b.kids).bind λZ=>(qM n Z).bind λP=>some (P.1,P.2)) _) (dh (bF (a.kids++b.kids)));rw[dQ Cp];simp only[qAb,qAo];rw[dQ Cl];exact e_0 (apB (f.app t) (by rw[qAe];omega)) Cu
 ·have e:bB 32 [a,b]=bF (a.kids.filter (aF b.kids)):=rfl;rw[e,zA (u _)];have h:=avz 32 a b Cl;rw[LK]at h;exact e_0 (e_0 h (UR (f.F8 _) (by have:=u (aF b.kids);exact qAs this Cl))) Cu
 ·have e:bB 33 [a,b]=bF (a.kids.filter λx=>!aF b.kids x):=rfl;rw[e,zA (u _)];have h:=avz 33 a b Cl;rw[LK]at h;exact e_0 (e_0 h (UR (f.F8 _) (by have:=u (λx=>!aF b.kids x);exact qAs this Cl))) Cu
 ·have B:=(w Cl).2;have hm:=qCV C B;have hc:(a.kids.length:Int)*(b.kids.length:Int)=((a.kids.length*b.kids.length:Nat):Int):=by simp
  show Ev (λn=>Option.bind (cond (decide (256<IntKind.wrap .i64 ((a.kids.length:Int)*(b.kids.length:Int)))) _ ((Am n a.kids b.kids).bind λ(x9:Af)=>(iZ n x9).bind λ(J:Val)=>some (J,(0:Int)))) _) (dh ((cond (decide (256<(a.kids.length:Int)*b.kids.length)) (.er 11) (.ok (a.kids.flatMap λx=>b.kids.map (aG x))):xU).thn bF));rw[wrap64 Cl Cl];cases Q:decide (256<(a.kids.length:Int)*(b.kids.length:Int))with|true=>exact Cu|false=>
   have Q:=of_decide_eq_false Q;have R:(a.kids.flatMap λx=>b.kids.map (aG x)).length<=256:=by
    have h1:∀l:Af,(l.flatMap λx=>b.kids.map (aG x)).length=l.length*b.kids.length:=by
     intro l
     induction l with|nil=>simp|cons x l ih=>rw[qBf,qAe,ih,qAi,qAp,qAU];omega
    rw[h1];omega
   have e:dh ((.ok (a.kids.flatMap λx=>b.kids.map (aG x)):xU).thn bF)=(gH (a.kids.flatMap λx=>b.kids.map (aG x)),0):=zA R;show Ev _ (dh ((.ok (a.kids.flatMap λx=>b.kids.map (aG x)):xU).thn bF));rw[e];refine e_0 (e_0 (afj a.kids b.kids C B) (UR (VS.flat λx o y hy=>?_) Cl)) Cu;obtain⟨z,hz,rfl⟩:=qAJ.1 hy;exact VS.pr (f x o) (t z hz)
 ·have B:=(w Cl).2;have i:=A (.inl rfl);have H:=G (.inl rfl);have e:dh (bB 35 [a,b])=dh (bF (b.kids++(gH (a.kids.filter λp=>!aF (d9 b.kids) (aJ p))).kids)):=by show dh (bF (a.kids.filter (λp=>!aF (d9 b.kids) (aJ p))++b.kids))=_;rw[aEc (xE λx=>?_)];show x∈_↔x∈b.kids++sortV _;simp only[qAr,aV];exact or_comm
  rw[e];have h:=Yd (.inl rfl) a (mkSet (rF 0 b.kids)) false i f Cl;rw[LK]at h;have I:=u (λp=>!aF (d9 b.kids) (aJ p));have g:(sortV (a.kids.filter λp=>!aF (d9 b.kids) (aJ p))).length<=256:=qAs (eP _) I;refine e_0 (e_0 (wC (.inl rfl) b H t Cl) (e_0 h ?_)) Cu;show Ev (λn=>(app 56 ([]:Af) b.kids).bind λK=>(app 56 K (sortV (a.kids.filter λp=>!aF (d9 b.kids) (aJ p)))).bind λL=>(qM n L).bind λD=>some (D.1,D.2)) _;rw[dQ Cp];simp only[qAb,qAo];rw[dQ Cl];exact apB (t.app (f.F8 _).sort) (by rw[qAe];omega)
 ·have B:=(w Cl).2;have i:=A (.inr (.inl rfl));have H:=G (.inr (.inl rfl));have hi:∀p,(b.kids.flatMap λq=>cond (eD (aQ p) (aJ q)) [aG (aJ p) (aQ q)] []).length<=256:=λp=>by
   have:=iF (λq=>cond (eD (aQ p) (aJ q)) [aG (aJ p) (aQ q)] []) 1 b.kids λq _=>by cases eD (aQ p) (aJ q)<;>simp
   omega
  have R:=iF (λp=>b.kids.flatMap λq=>cond (eD (aQ p) (aJ q)) [aG (aJ p) (aQ q)] []) 256 a.kids λp _=>hi p;refine e_0 (e_0 (aCt a b C B i H) (apB (VS.flat λp E=>VS.flat λq hq x o=>?_) (by have:=qAQ 256 C;omega))) Cu;cases S:eD (aQ p) (aJ q)with|false=>rw[S]at o;cases o|true=>rw[S]at o;rw[qAK.1 o];exact VS.pr (i.vk f E).1 (H.vk t hq).2
 ·exact e_0 (d b a true 0 (.inl rfl) (G cn) t (w Cl)) Cu
 ·exact e_0 (d b a false 0 (.inl rfl) (G cn) t (w Cl)) Cu
 ·exact e_0 (d a b true 1 (.inr rfl) (A cn) f v) Cu
 ·exact e_0 (d a b false 1 (.inr rfl) (A cn) f v) Cu
 ·have i:=A cn;have h:=Yd (.inl rfl) a b true i f Cl;rw[LK]at h;have I:=u (λp=>aF b.kids (aJ p));have g:sortV (a.kids.filter λp=>aF b.kids (aJ p))=a.kids.filter λp=>aF b.kids (aJ p):=jY (v.1.sublist qDN);have e:dh (bB 53 [a,b])=(mkSet (rF 1 (sortV (a.kids.filter λp=>aF b.kids (aJ p)))),0):=by show dh (bF (rF 1 (a.kids.filter λp=>aF b.kids (aJ p))))=_;rw[ak1 1 I,g]
  rw[e];refine e_0 (e_0 h (e_0 (wC (.inr rfl) _ ?_ ?_ ?_) Cu)) Cu;·show fI (sortV (a.kids.filter λp=>aF b.kids (aJ p)));rw[g];exact i.F8 _
  ·exact(f.F8 _).sort
  show(sortV (a.kids.filter λp=>aF b.kids (aJ p))).length<=1000000;rw[g];omega
 have i:=A cn;have h:=Yd (.inl rfl) a (gH [b]) true i f Cl;rw[LK]at h;have hf:(λp=>cond true (aF (gH [b]).kids (Dy 0 p)) (!aF (gH [b]).kids (Dy 0 p)))=λp=>eD (aJ p) b:=by funext p;show aF (sortV [b]) (aJ p)=_;rw[qCe,dN,aV,qAK,zo]
 rw[hf]at h;have I:=u (λp=>eD (aJ p) b);have g:sortV (a.kids.filter λp=>eD (aJ p) b)=a.kids.filter λp=>eD (aJ p) b:=jY (v.1.sublist qDN);have e:bB 54 [a,b]=(match bC (a.kids.filter λp=>eD (aJ p) b)with|[y]=>.ok y|_=>.er 10):=by refine aFm (x:=b) ((v.1.sublist qDN).imp λ{p q} h e=>by subst e;exact oG _ h) (λp E=>U rfl p (qBa.1 E).1) (λp E=>(zo _ _).1 (qBa.1 E).2)
 rw[e];refine e_0 (a:=dh (match bC (a.kids.filter λp=>eD (aJ p) b)with|[y]=>.ok y|_=>.er 10)) ?_ Cu
 show Ev (λn=>(iZ n [b]).bind λ(M:Val)=>(D8 n a 0 M true).bind λ(N:Val)=>(rE n N 1).bind λ(F:Val)=>cond ((F.kids.length:Int)!=1) (some ((Val.mk 0 0 ([]:Str) ([])),(10:Int))) ((idx F.kids 0).bind λ(O:Val)=>some (O,0))) _;refine e_0 (KI (λx o=>by rw[qAK.1 o];exact vb) cn) (e_0 h (e_0 (wC (.inr rfl) _ ?_ ?_ ?_) ?_));·show fI (sortV (a.kids.filter λp=>eD (aJ p) b));rw[g];exact i.F8 _
 ·exact(f.F8 _).sort
 ·show(sortV (a.kids.filter λp=>eD (aJ p) b)).length<=1000000;rw[g];omega
 show Ev (λn=>cond (((bC (sortV (a.kids.filter λp=>eD (aJ p) b))).length:Int)!=1) _ ((idx (bC (sortV (a.kids.filter λp=>eD (aJ p) b))) 0).bind _)) _;rw[g]
 match bC (a.kids.filter λp=>eD (aJ p) b)with|[]=>exact Cu|[y]=>exact Cu|y::z::m=>refine Ev.of λn=>?_;rw[show((((y::z::m).length:Nat):Int)!=1)=true by simp;omega];rfl
def rD(op:Int)(b:Af)(x:Val)(r:Af):List Af:=cond (op==42) [r] []++b.flatMap λv=>cond (decide (op<44) ||fU (bC (r++[aG x v])) (r++[aG x v])) [r++[aG x v]] []
def yw(op:Int)(b xs:Af)(r:List Af):List Af:=xs.foldl (λo x=>o.flatMap (rD op b x)) r
def ahj(op:Int)(b:Af):∀(xs:Af) (s:List Af),yw op b xs s=s.flatMap λr=>yw op b xs [r]|[],s=>by show s=s.flatMap λr=>[r];rw[flatMap_one,List.map_id']|x::xs,s=>by show yw op b xs (s.flatMap (rD op b x))=s.flatMap λr=>yw op b xs ([r].flatMap (rD op b x));rw[ahj op b xs,qDU];congr 1;funext r;rw[<-ahj op b xs];simp
structure InvR(op:Int)(b pre r:Af):Prop where
 pr:∀p∈r,p=aG (aJ p) (aQ p)∧aJ p∈pre∧aQ p∈b
 nd:(r.map aJ).Nodup
 tot:43≤op→r.map aJ=pre
 inj:44≤op→(r.map aQ).Nodup
def Yr{l:Af}(h:(l.map aQ).Nodup)(x v:Val):fU (bC (l++[aG x v])) (l++[aG x v])=!(aF (bC l) v):=by
 rw[qCe,N8,qBj,qDe,qAV,qDi,ne_eq,dN];unfold bC;rw[aV];have e:aQ (aG x v)=v:=rfl;constructor;·intro b m;exact b.2.2 v m v (by simp[e]) rfl
 intro b;refine⟨h,by simp,λa g c d f=>b ?_⟩;simp only[qAy,qCM,qAK,e]at d;rw[d]at f;rwa[<-f]
def au7{op:Int}{b c r f:Af}{x:Val}(h:InvR op b c r)(j:x∉c)(hr:f∈rD op b x r):InvR op b (c++[x]) f:=by
 rcases qAr.1 hr with hr|hr
 ·cases a:(op==42)with
  |false=>rw[a]at hr;cases hr
  |true=>
   have a:op=42:=by simpa using a
   subst a;have hr:f∈[r]:=hr;rw[qAK.1 hr];exact⟨λp hp=>⟨(h.pr p hp).1,qAr.2 (.inl (h.pr p hp).2.1),(h.pr p hp).2.2⟩,h.nd,λh=>by omega,λh=>by omega⟩
 let⟨v,k,hr⟩:=qBx.1 hr;cases d:(decide (op<44) ||fU (bC (r++[aG x v])) (r++[aG x v]))with
 |false=>rw[d]at hr;cases hr
 |true=>
  rw[d]at hr;rw[qAK.1 hr];have i:(r++[aG x v]).map aJ=r.map aJ++[x]:=by rw[qBj];rfl
  refine⟨λp hp=>?_,?_,λg=>by rw[i,h.tot g],λl=>?_⟩
  ·rcases qAr.1 hp with hp|hp
   ·exact⟨(h.pr p hp).1,qAr.2 (.inl (h.pr p hp).2.1),(h.pr p hp).2.2⟩
   rw[qAK.1 hp];exact⟨rfl,qAr.2 (.inr (by show x∈[x];simp)),k⟩
  ·rw[i,qDe];refine⟨h.nd,by simp,λy m z n e=>?_⟩;obtain⟨p,hp,rfl⟩:=qAJ.1 m;rw[qAK.1 n]at e;exact j (e▸(h.pr p hp).2.1)
  rw[d_0 Cl,qDd]at d;exact(N8 _).1 d
def agw{op:Int}{b:Af}:∀(xs p:Af) (s:List Af),(p++xs).Nodup->(∀r∈s,InvR op b p r)->∀r∈yw op b xs s,InvR op b (p++xs) r
 |[],p,s,_,h,r,a=>by rw[qAt];exact h r a
 |x::xs,p,s,n,h,r,a=>by
  have:=agw xs (p++[x]) (s.flatMap (rD op b x)) (by rwa[qAm]) (λq c=>by
   let⟨d,e,c⟩:=qBx.1 c;refine au7 (h d e) (λf=>?_) c;exact(qDe.1 n).2.2 x f x cn rfl) r a
  rwa[qAm]at this
def aFC{op:Int}(o:op=42∨op=43∨op=44∨op=45){a b r:Af}(d:a.Pairwise iA)(n:kX op a.length b.length=false)(h:InvR op b a r):lC op a b r=true:=by
 rw[KM (.inr o)];have g:43<=op->r.length=a.length:=λc=>by
  have:=congrArg List.length (h.tot c)
  grind
 refine⟨λp e=>(h.pr p e).2,λ_=>h.nd,λc=>?_,h.inj,λf=>?_⟩;·unfold d9;rw[h.tot c,jY d]
 have:(bC r).length=r.length:=by unfold bC;rw[(xQ _).2 (h.inj Cl),qAi]
 unfold kX at n
 grind
def abm{op:Int}(o:op≠41)(a b:Af):∀(xs l:Af),(44<=op->(l.map aQ).Nodup)->iM op a b xs l=(yw op b xs [l]).flatMap λr=>cond (lC op a b r) [gH r] []
 |[],l,_=>by
  unfold iM;show _=[l].flatMap _;simp
 |x::xs,l,h=>by
  have e:yw op b (x::xs) [l]=(rD op b x l).flatMap λr=>yw op b xs [r]:=by
   show yw op b xs ([l].flatMap (rD op b x))=_;rw[ahj];simp
  rw[e,qDU];unfold iM rD;rw[show(op==41)=false by simpa using o,c_0,List.flatMap_append,qDU];congr 1
  ·cases(op==42)with
   |false=>rfl
   |true=>
    simp only[c_1];rw[abm o a b xs l h];simp
  congr 1;funext v;have d:(decide (op<44) ||fU (bC (l++[aG x v])) (l++[aG x v]))=!(decide (44<=op)&&aF (bC l) v):=by
   by_cases c:44<=op
   ·rw[d_0 Cl,d_1 c,Yr (h c)];simp
   rw[d_1 Cl,d_0 c];rfl
  rw[d];cases m:(decide (44<=op)&&aF (bC l) v)with
  |true=>rfl
  |false=>
   simp only[c_0,qBb,c_1];rw[abm o a b xs (l++[aG x v]) λc=>?_]
   ·simp
   rw[d_1 c,qAu]at m;have:=Yr (h c) x v;rw[m]at this;exact(N8 _).1 this
def aC0{op:Int}(o:op=42∨op=43∨op=44∨op=45){a b:Af}(d:a.Pairwise iA)(n:kX op a.length b.length=false):iM op a b a []=(yw op b a [[]]).map gH:=by
 rw[abm Cl a b a [] λ_=>by simp];have f:a.Nodup:=d.imp λ{x y} h e=>by subst e;exact oG _ h
 have i:=agw (op:=op) (b:=b) a [] [[]] (by simpa using f) λr c=>by rw[qAK.1 c];exact⟨(λp g=>by cases g),List.Pairwise.nil,λ_=>rfl,λ_=>List.Pairwise.nil⟩
 rw[<-flatMap_one];have k:∀L:List Af,(∀r∈L,lC op a b r=true)->(L.flatMap λr=>cond (lC op a b r) [gH r] [])=L.flatMap λr=>[gH r]:=by
  intro L
  induction L with|nil=>intro _;rfl|cons r L j=>intro h;rw[qBf,qBf,h r cn,j λq l=>h q (by simp[l])];rfl
 exact k _ λr c=>aFC o d n (i r c)
def aof{β:Type}(p:Val->Bool)(f:Val->β)(l:Af):(l.flatMap λv=>cond (p v) [f v] []).length=(l.filter p).length:=by induction l with|nil=>rfl|cons v l i=>rw[qBf,qAe,i,qDY];cases p v<;>simp;omega
def avD(p:Val->Bool):∀l:Af,(l.filter λz=>!p z).length+(l.filter p).length=l.length|[]=>rfl|x::l=>by have:=avD p l;simp only[qDY,qAp];cases p x<;>simp<;>omega
def aFj{op:Int}(o:op=42∨op=43∨op=44∨op=45){b a r:Af}{x:Val}(f:b.Pairwise iA)(h:InvR op b a r):((rD op b x r).length:Int)<=yQ op b.length a.length:=by
 unfold rD;rw[qAe,aof];have l:=qCJ (λv=>decide (op<44) ||fU (bC (r++[aG x v])) (r++[aG x v])) b
 have i:44<=op->((b.filter λv=>decide (op<44) ||fU (bC (r++[aG x v])) (r++[aG x v])).length:Int)=b.length - a.length:=λc=>by
  have e:(λv=>decide (op<44) ||fU (bC (r++[aG x v])) (r++[aG x v]))=λv=>!aF (bC r) v:=by funext v;rw[d_0 Cl,qDd,Yr (h.inj c)]
  rw[e];have j:=avD (aF (bC r)) b;have k:b.filter (aF (bC r))=bC r:=Bv _ _ (f.sublist qDN) (cZ _) λv=>by rw[qBa,dN];refine⟨λh=>h.2,λd=>⟨?_,d⟩⟩;obtain⟨p,g,rfl⟩:=qAJ.1 ((aV _ v).1 d);exact(h.pr p g).2.2
  have m:(bC r).length=a.length:=by
   unfold bC;rw[(xQ _).2 (h.inj c),qAi];have:=congrArg List.length (h.tot Cl)
   grind
  grind
 rcases o with rfl|rfl|rfl|rfl
 ·show(([r].length+_:Nat):Int)<=(b.length:Int)+1
  grind
 ·show(([].length+_:Nat):Int)<=(b.length:Int)
  grind
 ·have:=i Cl;show(([].length+_:Nat):Int)<=(b.length:Int) - a.length;simp only[qAA];omega
 have:=i Cl;show(([].length+_:Nat):Int)<=(b.length:Int) - a.length;simp only[qAA];omega
def agH(op:Int)(b:Af):∀xs:Af,yw op b xs []=[]|[]=>rfl|_::xs=>agH op b xs
def arJ{op:Int}(o:op=42∨op=43∨op=44∨op=45){b:Af}(k:b.Pairwise iA):∀(xs p:Af) (s:List Af) (c:Nat),(p++xs).Nodup->(∀r∈s,InvR op b p r)->s.length<=c->c<=256->je op b.length xs.length p.length c=false->(yw op b xs s).length<=256
 |[],p,s,c,_,_,e,l,_=>qAs e l
 |x::xs,p,s,c,u,n,e,l,m=>by
  have f:x∉p:=λf=>(qDe.1 u).2.2 x f x cn rfl;have i:∀r∈s.flatMap (rD op b x),InvR op b (p++[x]) r:=λq g=>by
   let⟨v,d,g⟩:=qBx.1 g;exact au7 (n v d) f g
  have w:∀r∈s,((rD op b x r).length:Int)<=yQ op b.length p.length:=λr j=>aFj o k (n r j);rw[qAp,je,show(op==41)=false by rcases o with rfl|rfl|rfl|rfl<;>rfl,qBk,c_0]at m;have h:(s.flatMap (rD op b x)).length<=s.length*(yQ op b.length p.length).toNat:=iF _ _ s λr j=>by have:=w r j;omega
  show(yw op b xs (s.flatMap (rD op b x))).length<=256;cases d:(yQ op b.length p.length==0)with
  |true=>
   have d:yQ op b.length p.length=0:=by simpa using d
   rw[d]at h;have:s.flatMap (rD op b x)=[]:=qDQ (by simpa using h);rw[this,agH];simp
  |false=>
   rw[d,c_0]at m;cases a:decide (256<(c:Int)*yQ op b.length p.length)with
   |true=>rw[a]at m;cases m
   |false=>
    rw[a,c_0]at m;have a:=of_decide_eq_false a;by_cases t:yQ op b.length p.length<0
    ·have:(yQ op b.length p.length).toNat=0:=by omega
     rw[this]at h;have:s.flatMap (rD op b x)=[]:=qDQ (by simpa using h);rw[this,agH];simp
    have y:((yQ op b.length p.length).toNat:Int)=yQ op b.length p.length:=by omega
    have z:((c*(yQ op b.length p.length).toNat:Nat):Int)=(c:Int)*yQ op b.length p.length:=by rw[<-y];simp
    refine arJ o k xs (p++[x]) _ (c*(yQ op b.length p.length).toNat) (by rwa[qAm]) i (qAs h (qAQ _ e)) Cl ?_;rw[z,qAe];exact m
def azj{a b:Af}(g:dO a)(i:dO b)(l:l8 41 a b=.ok (iM 41 a b a []))(o:a≠[]->b.length<=8):sortV (iM 41 a b a [])=sortV ((jr (a.flatMap λx=>b.map (aG x))).map gH):=by
 refine xE λz=>?_;have hP:∀p,p∈(a.flatMap λx=>b.map (aG x))↔∃u∈a,∃v∈b,p=aG u v:=λp=>by
  grind
 constructor
 ·intro e;obtain⟨m,rfl,r,_,_⟩:=YO (d:=b.length+1) Cl Cl a [] z e;refine qAJ.2 ⟨(a.flatMap λx=>b.map (aG x)).filter (aF m),agC qDN,?_⟩;unfold gH;congr 1;refine xE λp=>?_;rw[qBa,dN,hP]
  grind
 intro e;obtain⟨q,j,rfl⟩:=qAJ.1 e;have s:=Hz j;have c:∀p∈sortV q,p=aG (aJ p) (aQ p)/\aJ p∈a/\aQ p∈b:=λp c=>by
  obtain⟨u,k,v,n,rfl⟩:=(hP p).1 (s.subset ((aV q p).1 c));exact⟨rfl,k,n⟩
 have f:=ad5 (.inl rfl) g i l (cZ q) λp h=>(c p h).1;rw[show lC 41 a b (sortV q)=true from(KM (.inl rfl) a b _).2 ⟨λp h=>(c p h).2,λh=>by omega,λh=>by omega,λh=>by omega,λh=>by omega⟩,dN,aV]at f;exact f
end Abs
end Go.Proofs.YtneeginmfjageaaGreat
