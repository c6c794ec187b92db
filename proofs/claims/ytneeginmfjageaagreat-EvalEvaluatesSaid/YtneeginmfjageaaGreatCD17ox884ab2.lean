/- Renaming of typed values. Conditions: none. -/
import Derived.Test.YtneeginmfjageaaGreatCD11ox62b7fa
set_option linter.all false
namespace Go.Proofs.YtneeginmfjageaaGreat
namespace Abs
noncomputable section
mutual
def gy(g:Nat→Nat):TV→TV
 | .ptr l o=>.ptr (g l) o
 | .mapr l=>.mapr (g l)
 | .ap l i z o=>.ap (g l) i z o
 | .own l=>.own (g l)
 | .psl l z c=>.psl (g l) z c
 | .eptr cs=>.eptr (D7 g cs)
 | .agg cs=>.agg (D7 g cs)
 | .tup cs=>.tup (D7 g cs)
 | .func f cs=>.func f (D7 g cs)
 | .unk=>.unk| .nilp=>.nilp| .nilF=>.nilF| .nils=>.nils| .lf t x=>.lf t x| .nat n=>.nat n
def D7(g:Nat→Nat):As→As
 |[]=>[]
 |v::vs=>gy g v::D7 g vs
end
def IC(g:Nat->Nat):∀vs,D7 g vs=vs.map (gy g)|[]=>rfl|v::vs=>by simp only[D7,qAy,IC g vs]
def kF(g:Nat->Nat):TObj->TObj| .box c=>.box (c.map (gy g))|o=>o
def ai0(g:Nat->Nat)(v:TV):width (gy g v)=width v:=by cases v<;>rfl
def auH{g:Nat->Nat}{v:TV}{e:ET}{x:e.D}(h:gy g v=.lf (.t e) x):v=.lf (.t e) x:=by cases v<;>first|exact h|cases h
def aFz(g:Nat->Nat){l:Bm}:(l.map λu=>TV.lf u.t u.x).map (gy g)=l.map λu=>TV.lf u.t u.x:=by rw[qBh];rfl
def axH(g:Nat->Nat)(e:ET)(x:e.D):(comps e x).map (gy g)=comps e x:=aFz g
def ayi(g:Nat->Nat)(v:TV):Uv (gy g v)=(Uv v).map (gy g):=by
 rcases tC v with h|⟨e,x,rfl⟩
 ·have a:one (gy g v):=Zn λe x q=>by rw[auH q]at h;have:=wG h;cases e<;>cases this
  rw[wG h,wG a];rfl
 cases e<;>rfl
def Yu(g:Nat->Nat):∀vs:As,aK (vs.map (gy g))=(aK vs).map (gy g)|[]=>rfl|v::vs=>by simp only[qAy,aK,ayi,Yu g vs,qBj]
section
variable {γ:Type}
def P6(g:Nat->Nat):∀(f:Nat) (cs:As) (n:Nat) (K:As->As->Option γ),splitK f (cs.map (gy g)) n K=splitK f cs n λa r=>K (a.map (gy g)) (r.map (gy g))
 |0,_,_,_=>rfl
 |f+1,cs,n,K=>by
  cases n with
  |zero=>rfl
  |succ m=>
   cases cs with
   |nil=>rfl
   |cons c r=>
    have d:=P6 g f r (m+1 - width c) λa b=>K (gy g c::a) b;simp only[qAy,splitK,ai0];rw[d];cases Nat.ble (width c) (m+1)with
    |true=>rfl
    |false=>
     cases c with
     |lf t x=>
      cases t with
      |t e=>
       have:=P6 g f (comps e x++r) (m+1) K;rw[qBj,axH]at this;exact this
      |_=>rfl
     |_=>rfl
def aCv(g:Nat->Nat)(cs vs:As)(off:Nat):vS (cs.map (gy g)) off (vs.map (gy g)) some=(vS cs off vs some).map (List.map (gy g)):=by
 have h:widths (vs.map (gy g))=widths vs:=by induction vs with|nil=>rfl|cons v vs i=>simp only[qAy,widths,ai0,i]
 have p:∀(f:Nat) (cs:As) (n:Nat) (K:As->As->Option As),(splitK f cs n K).map (List.map (gy g))=splitK f cs n λa b=>(K a b).map (List.map (gy g)):=λf=>by
  induction f with|zero=>intro cs n K;rfl|succ f i=>
   intro cs n K;cases n with|zero=>rfl|succ m=>
    cases cs with|nil=>rfl|cons c r=>
     simp only[splitK];cases Nat.ble (width c) (m+1)with|true=>simp only[cond_true];exact i _ _ _|false=>
      split;·grind
      rfl
 unfold vS;rw[P6,p,h];congr 1;funext a b;rw[P6,p]
 grind
end
mutual
theorem abW(g:Nat→Nat):∀(s:Sk) (us:Bm),fu g s us=(gy g (fu bS s us).1,(fu bS s us).2)
 | .unk,_=>rfl
 | .nilp,_=>rfl
 | .nilF,_=>rfl
 | .k _,_=>rfl
 | .nils,_=>rfl
 | .lf _,us=>by cases us<;>rfl
 | .ptr _ _,_=>rfl
 | .eptr cs,us=>by simp only[fu,DY g cs us,gy,IC]
 | .agg cs,us=>by simp only[fu,DY g cs us,gy,IC]
 | .tup cs,us=>by simp only[fu,DY g cs us,gy,IC]
 | .func _ cs,us=>by simp only[fu,DY g cs us,gy,IC]
 | .mapr _,_=>rfl
 | .own _,_=>rfl
 | .psl _ _,_=>rfl
theorem DY(g:Nat→Nat):∀(ss:B9) (us:Bm),iH g ss us=((iH bS ss us).1.map (gy g),(iH bS ss us).2)
 |[],_=>rfl
 |s::ss,us=>by simp only[iH,abW g s us,DY g ss,qAy]
end
def X3(g:Nat->Nat):∀(ps:List (Nat×Sk)) (c:Option As) (u:Bm),kD g ps (c.map (List.map (gy g))) u=((kD bS ps c u).1.map (List.map (gy g)),(kD bS ps c u).2)
 |[],_,_=>rfl
 |p::ps,c,u=>by
  have k:(c.map (List.map (gy g))).bind (λs=>vS s p.1 [gy g (fu bS p.2 u).1] some)=(c.bind λs=>vS s p.1 [(fu bS p.2 u).1] some).map (List.map (gy g)):=by
   cases c with
   |none=>rfl
   |some s=>
    have:=aCv g s [(fu bS p.2 u).1] p.1
    grind
  have i:=X3 g ps (c.bind λs=>vS s p.1 [(fu bS p.2 u).1] some) (fu bS p.2 u).2;unfold kD;rw[abW g p.2 u]
  grind
def ajB(g:Nat->Nat)(o:TObj)(h:HO)(s:Bm):bR g (kF g o) h s=(kF g (bR bS o h s).1,(bR bS o h s).2):=by
 cases h with
 |dead=>rfl
 |box c=>simp only[bR,DY g c s,kF]
 |bx l=>
  have n:=X3 g l none s;simp at n;cases o with
  |box c=>
   have:=X3 g l (some c) s;simp only[kF,bR]
   grind
  |_=>simp only[kF,bR,n]
 |own e=>
  cases s with
  |nil=>rfl
  |cons u s=>let⟨t,x⟩:=u;cases t<;>rfl
 |mp e=>
  cases s with
  |nil=>rfl
  |cons u s=>let⟨t,x⟩:=u;cases t<;>rfl
 |arr e=>
  cases s with
  |nil=>rfl
  |cons u s=>let⟨t,x⟩:=u;cases t<;>rfl
def Xn{α β:Type}{d:α}{d':β}(f:α->β)(h:f d=d')(l:List α)(n:Nat):nth d' (l.map f) n=f (nth d l n):=by rw[jF,jF];simp;cases l[n]?<;>simp[h]
def QF(g:Nat->Nat):∀(es:Be) (u:Bm) (t:As) (h:A0),dW g es u (t.map (gy g)) (h.map (kF g))=((dW bS es u t h).1.map (gy g),(dW bS es u t h).2.map (kF g))
 |[],_,_,_=>rfl
 | .r n s::es,u,t,h=>by simp only[dW,abW g s u,<-qCN,QF g es]
 | .o l s::es,u,t,h=>by
  have i:=QF g es (bR bS (nth .dead h l) s u).2 t (h.set l (bR bS (nth .dead h l) s u).1);have e:nth .dead (h.map (kF g)) l=kF g (nth .dead h l):=Xn (d:=.dead) (d':=.dead) (kF g) rfl h l;unfold dW;rw[e,ajB g]
  simp_all
 | .w s::es,u,t,h=>by
  have i:=QF g es (bR bS .dead s u).2 t (h++[(bR bS .dead s u).1]);have e:bR g .dead s u=(kF g (bR bS .dead s u).1,(bR bS .dead s u).2):=ajB g .dead s u;unfold dW
  grind
mutual
def Kt(A:Nat→Bool):TV→Bool
 | .ptr l _=>A l
 | .mapr l=>A l
 | .ap l _ _ _=>A l
 | .own l=>A l
 | .psl l _ _=>A l
 | .eptr cs=>oF A cs
 | .agg cs=>oF A cs
 | .tup cs=>oF A cs
 | .func _ cs=>oF A cs
 | .unk=>true| .nilp=>true| .nilF=>true| .nils=>true| .lf _ _=>true| .nat _=>true
def oF(A:Nat→Bool):As→Bool
 |[]=>true
 |v::vs=>Kt A v&&oF A vs
end
def ara{A:Nat->Bool}:∀{vs:As},oF A vs=true↔∀v∈vs,Kt A v=true|[]=>by simp[oF]|v::vs=>by simp only[oF,qAa,ara,qAh,forall_eq_or_imp]
def ayW(A:Nat->Bool)(e:ET)(x:e.D):∀v∈Mx e x,Kt A v=true:=by intro v hv;cases e<;>simp only[Mx,qAh]at hv<;>(repeat' (rcases hv with rfl|hv))<;>first|rfl|(subst hv;rfl)
def rfC(A:Nat->Bool)(cs:As):Prop:=∀v∈aK cs,Kt A v=true
def Wp{A:Nat->Bool}:∀{cs:As},oF A cs=true->rfC A cs
 |[],_=>λv h=>by cases h
 |c::cs,h=>by
  simp only[oF,qAa]at h;intro v hv;simp only[aK,qAr]at hv;rcases hv with hv|hv
  ·rcases tC c with o|⟨e,y,rfl⟩
   ·rw[wG o,qAK]at hv;subst hv;exact h.1
   exact ayW A e y v hv
  exact Wp h.2 v hv
def rfO(A:Nat->Bool)(o:TObj):Prop:=∀c,o=.box c->rfC A c
mutual
theorem XM{n:Nat}{ds:A5}{A:Nat→Bool}(hA:∀l,(Nat.blt l n&&!(mem ds l))=true→A l=true):∀(s:Sk) (us:Bm),YX n ds s=true→Kt A (fu bS s us).1=true
 | .unk,_,_=>rfl
 | .nilp,_,_=>rfl
 | .nilF,_,_=>rfl
 | .k _,_,_=>rfl
 | .nils,_,_=>rfl
 | .lf _,us,_=>by cases us<;>rfl
 | .ptr l _,_,h=>hA l h
 | .eptr cs,us,h=>Dm hA cs us h
 | .agg cs,us,h=>Dm hA cs us h
 | .tup cs,us,h=>Dm hA cs us h
 | .func _ cs,us,h=>Dm hA cs us h
 | .mapr l,_,h=>hA l h
 | .own l,_,h=>hA l h
 | .psl l _,_,h=>hA l h
theorem Dm{n:Nat}{ds:A5}{A:Nat→Bool}(hA:∀l,(Nat.blt l n&&!(mem ds l))=true→A l=true):∀(ss:B9) (us:Bm),Ag n ds ss=true→oF A (iH bS ss us).1=true
 |[],_,_=>rfl
 |s::ss,us,h=>by
  simp only[Ag,qAa]at h;simp only[iH,oF,qAa];exact⟨XM hA s us h.1,Dm hA ss _ h.2⟩
end
def aqH{n:Nat}{ds:A5}{A:Nat->Bool}(hA:∀l,(Nat.blt l n&&!(mem ds l))=true->A l=true):∀(i:List (Nat×Sk)) (c:Option As) (u:Bm),(i.all λp=>YX n ds p.2)=true->(∀cs,c=some cs->rfC A cs)->∀cs,(kD bS i c u).1=some cs->rfC A cs
 |[],c,u,_,a,cs,h=>a cs h
 |p::e,c,u,b,a,cs,h=>by
  simp only[qBC,qAa]at b;refine aqH hA e _ _ b.2 (λf d=>?_) cs h;cases c with
  |none=>cases d
  |some s=>
   let⟨q,_⟩:=KP d;intro v hv;rw[q]at hv;simp only[qAr]at hv;rcases hv with(hv|hv)|hv
   ·exact a s rfl v (qDC hv)
   ·exact Wp (cs:=[(fu bS p.2 u).1]) (by simp only[oF,qBH];exact XM hA p.2 u b.1) v hv
   exact a s rfl v (qEc hv)
def aqY{n:Nat}{ds:A5}{A:Nat->Bool}(hA:∀l,(Nat.blt l n&&!(mem ds l))=true->A l=true)(o:TObj)(d:HO)(s:Bm)(h:amI n ds d=true)(b:rfO A o):rfO A (bR bS o d s).1:=by
 intro f c;cases d with
 |dead=>cases c
 |box g=>cases c;exact Wp (Dm hA g s h)
 |bx i=>
  cases o with
  |box a=>
   simp only[bR]at c;cases q:(kD bS i (some a) s).1 with
   |none=>rw[q]at c;cases c
   |some j=>
    rw[q]at c;cases c;exact aqH hA i _ s h (λk m=>by cases m;exact b a rfl) f q
  |_=>cases c
 |own e=>
  cases s with
  |nil=>cases c
  |cons u s=>let⟨t,x⟩:=u;cases t<;>cases c
 |mp e=>
  cases s with
  |nil=>cases c
  |cons u s=>let⟨t,x⟩:=u;cases t<;>cases c
 |arr e=>
  cases s with
  |nil=>cases c
  |cons u s=>let⟨t,x⟩:=u;cases t<;>cases c
def atL(o:TObj)(d:HO)(s:Bm)(h:(match d with| .own _=>false| .arr _=>false|_=>true)=true):plainO (bR bS o d s).1=true:=by
 cases d with
 |dead=>rfl
 |box a=>rfl
 |bx i=>
  cases o with
  |box c=>simp only[bR];cases(kD bS i (some c) s).1<;>rfl
  |_=>rfl
 |own e=>cases h
 |mp e=>
  cases s with
  |nil=>rfl
  |cons u s=>let⟨t,x⟩:=u;cases t<;>rfl
 |arr e=>cases h
def KV:∀(s:List LT) (x:jI s),(fF s x).map U.t=s|[],_=>rfl|[t],_=>rfl|t::u::s,x=>by simp only[fF,qAy];rw[KV (u::s) x.2]
mutual
theorem N9:∀(s:Sk) (us:Bm) (rest:List LT),us.map U.t=s.OP++rest→(fu bS s us).2.map U.t=rest∧width (fu bS s us).1=yg s
 | .unk,us,rest,h=>⟨h,rfl⟩
 | .nilp,us,rest,h=>⟨h,rfl⟩
 | .nilF,us,rest,h=>⟨h,rfl⟩
 | .k c,us,rest,h=>⟨h,CU.width c⟩
 | .nils,us,rest,h=>⟨h,rfl⟩
 | .lf t,us,rest,h=>by
  cases us with
  |nil=>cases h
  |cons u us=>
   simp only[Sk.OP,qAy,qAM,qAo,List.cons.injEq]at h;obtain⟨t',x⟩:=u;obtain⟨h1,h2⟩:=h;simp only at h1;subst h1;exact⟨h2,by cases t'<;>rfl⟩
 | .ptr _ _,us,rest,h=>⟨h,rfl⟩
 | .eptr cs,us,rest,h=>⟨DR cs us rest h,rfl⟩
 | .agg cs,us,rest,h=>⟨DR cs us rest h,rfl⟩
 | .tup cs,us,rest,h=>⟨DR cs us rest h,rfl⟩
 | .func _ cs,us,rest,h=>⟨DR cs us rest h,rfl⟩
 | .mapr _,us,rest,h=>⟨h,rfl⟩
 | .own _,us,rest,h=>⟨h,rfl⟩
 | .psl _ _,us,rest,h=>⟨h,rfl⟩
theorem DR:∀(ss:B9) (us:Bm) (rest:List LT),us.map U.t=Sk.Vy ss++rest→(iH bS ss us).2.map U.t=rest
 |[],us,rest,h=>h
 |s::ss,us,rest,h=>by
  simp only[Sk.Vy,qAm]at h;exact DR ss _ rest (N9 s us _ h).1
end
def P5:∀(b:List (Nat×Sk)) (c:Option As) (u:Bm) (rest:List LT),u.map U.t=(b.flatMap λp=>p.2.OP)++rest->(kD bS b c u).2.map U.t=rest/\
  ∀cs f,c=some cs->(kD bS b c u).1=some f->(aK f).length=(aK cs).length/\∀q,rU b q=false->(aK f)[q]? =(aK cs)[q]?
 |[],c,u,rest,h=>⟨h,λcs f g d=>by
  rw[g]at d;cases d;exact⟨rfl,λ_ _=>rfl⟩⟩
 |p::j,c,u,rest,h=>by
  simp only[qBf,qAm]at h;let⟨g,d⟩:=N9 p.2 u _ h;have i:=P5 j (c.bind λcs=>vS cs p.1 [(fu bS p.2 u).1] some) _ rest g;refine⟨i.1,λcs f n e=>?_⟩;subst n;simp only[qAb]at i;simp only[kD,qAb]at e;cases a:vS cs p.1 [(fu bS p.2 u).1] some with
  |none=>
   rw[a]at e;have x:∀(l:List (Nat×Sk)) (u:Bm),(kD bS l none u).1=none:=λl=>by
    induction l with
    |nil=>intro u;rfl
    |cons p l i=>intro u;simp only[kD,Option.bind_none];exact i _
   grind
  |some k=>
   rw[a]at i e;let⟨r,v⟩:=i.2 k f rfl e;let⟨m,y⟩:=KP a;have z:(aK [(fu bS p.2 u).1]).length=yg p.2:=by rw[pO];simp only[widths,d,qAS]
   refine⟨by rw[r,m];simp only[qAe,qAz,qCC];omega,λq a=>?_⟩;have s:rU j q=false:=by
    cases s:rU j q with
    |false=>rfl
    |true=>rw[Ak.2 (.inr s)]at a;cases a
   have o:¬(p.1<=q/\q<p.1+yg p.2):=λw=>by rw[Ak.2 (.inl w)]at a;cases a
   rw[v q s,m];by_cases t:q<p.1
   ·rw[qAm,qAg (by simp only[qAz];omega),qBq,if_pos t]
   grind
def aiO(o:TObj)(d:HO)(s:Bm)(rest:List LT)(h:s.map U.t=d.OP++rest):(bR bS o d s).2.map U.t=rest:=by
 cases d with
 |dead=>exact h
 |box c=>exact DR c s rest h
 |bx i=>cases o<;>exact(P5 i _ s rest h).1
 |own e=>
  cases s with
  |nil=>cases h
  |cons u s=>
   simp only[HO.OP,qAy,qAM,List.cons.injEq]at h;let⟨t,x⟩:=u;let⟨a,b⟩:=h;subst a;exact b
 |mp e=>
  cases s with
  |nil=>cases h
  |cons u s=>
   simp only[HO.OP,qAy,qAM,List.cons.injEq]at h;let⟨t,x⟩:=u;let⟨a,b⟩:=h;subst a;exact b
 |arr e=>
  cases s with
  |nil=>cases h
  |cons u s=>
   simp only[HO.OP,qAy,qAM,List.cons.injEq]at h;let⟨t,x⟩:=u;let⟨a,b⟩:=h;subst a;exact b
structure Bld(es:Be)(j:Nat)(T:As)(h:A0)(T1:As)(h1:A0):Prop where
 tl:T1.length=T.length
 hl:h1.length=j+aD es
 slot:∀k,nth .unk T1 k=nth .unk T k∨∃s us,Ed.r k s∈es∧nth .unk T1 k=(fu bS s us).1
 keepO:∀l,l<j→(∀hd,Ed.o l hd∉es)→nth .dead h1 l=nth .dead h l
 obj:∀l hd,Ed.o l hd∈es→∃us rest,us.map U.t=hd.OP++rest∧nth .dead h1 l=(bR bS (nth .dead h l) hd us).1
 new:∀i,i<aD es→∃hd us,Ed.w hd∈es∧nth .dead h1 (j+i)=(bR bS .dead hd us).1
 newK:∀i,i<aD es→∃us rest,us.map U.t=(nth .dead (kinds es) i).OP++rest∧nth .dead h1 (j+i)=(bR bS .dead (nth .dead (kinds es) i) us).1
def uz{n:Nat}:∀(es:Be) (a:Bm) (j:Nat) (A os:A5) (T:As) (h:A0) (rest:List LT),a.map U.t=bM es++rest->fO n A os es=true->n<=j->h.length=j->Bld es j T h (dW bS es a T h).1 (dW bS es a T h).2
 |[],a,j,A,os,T,h,rest,o,w,B,q=>⟨rfl,q,λ_=>.inl rfl,λ_ _ _=>rfl,λl b hm=>(by cases hm),λi c=>by simp[aD]at c,λi c=>by simp[aD]at c⟩
 | .r k s::es,a,j,A,os,T,h,rest,o,w,B,q=>by
  simp only[bM,qAm]at o;simp only[fO,qAa]at w;have g:=uz es (fu bS s a).2 j _ _ (T.set k (fu bS s a).1) h rest (N9 s a _ o).1 w.2 B q;refine⟨by rw[dW,g.tl,qAT],g.hl,λz=>?_,λl t r=>g.keepO l t λb hm=>r b (qAk _ hm),λl b hm=>g.obj l b (by simpa using hm),λi c=>?_,λi c=>g.newK i c⟩
  ·rcases g.slot z with e|⟨C,u,m,f⟩
   ·by_cases D:k=z
    ·subst D;by_cases t:k<T.length
     ·exact .inr ⟨s,a,by simp,by rw[dW,e,cK t]⟩
     exact .inl (by rw[dW,e,qBJ Cl])
    exact .inl (by rw[dW,e,aX D])
   exact .inr ⟨C,u,qAk _ m,f⟩
  let⟨b,u,m,f⟩:=g.new i c;exact⟨b,u,qAk _ m,f⟩
 | .o l b::es,a,j,A,os,T,h,rest,o,w,B,q=>by
  simp only[bM,qAm]at o;simp only[fO,qAa,qAV,AU]at w;have E:l<n:=qAf w.1;have r:∀d,Ed.o l d∉es:=λd=>JL w.2.2 cn;have g:=uz es (bR bS (nth .dead h l) b a).2 j _ _ T (h.set l (bR bS (nth .dead h l) b a).1) rest (aiO _ b a _ o) w.2.2 B (by rw[qAT];exact q);refine⟨g.tl,g.hl,λz=>?_,λp t v=>?_,λp d hm=>?_,λi c=>?_,λi c=>g.newK i c⟩
  ·rcases g.slot z with e|⟨C,u,m,f⟩
   ·exact .inl e
   exact .inr ⟨C,u,qAk _ m,f⟩
  ·have x:l≠p:=λe=>v b (by subst e;simp);rw[dW,g.keepO p t λd hm=>v d (qAk _ hm),aX x]
  ·rcases qAh.1 hm with e|hm
   ·cases e;exact⟨a,_,o,by rw[dW,g.keepO l Cl r,cK Cl]⟩
   have x:l≠p:=λe=>by subst e;exact r d hm
   have:=g.obj p d hm;rw[aX x]at this;exact this
  let⟨b,u,m,f⟩:=g.new i c;exact⟨b,u,qAk _ m,f⟩
 | .w b::es,a,j,A,os,T,h,rest,o,w,B,q=>by
  simp only[bM,qAm]at o;simp only[fO]at w;have g:=uz es (bR bS .dead b a).2 (j+1) _ _ T (h++[(bR bS .dead b a).1]) rest (aiO _ b a _ o) w Cl (by simp[q]);refine⟨g.tl,by rw[dW,g.hl];simp only[aD];omega,λz=>?_,λp t v=>?_,λp d hm=>?_,λi c=>?_,λi c=>?_⟩
  ·rcases g.slot z with e|⟨C,u,m,f⟩
   ·exact .inl e
   exact .inr ⟨C,u,qAk _ m,f⟩
  ·rw[dW,g.keepO p Cl λd hm=>v d (qAk _ hm),rA Cl]
  ·have hm:Ed.o p d∈es:=by simpa using hm
   have t:=pE w hm;have:=g.obj p d hm;rw[rA Cl]at this;exact this
  ·cases i with
   |zero=>
    refine⟨b,a,by simp,?_⟩;rw[dW,qAS,g.keepO j Cl λd hm=>(by have:=pE w hm;omega),YU q]
   |succ i=>
    let⟨d,u,m,f⟩:=g.new i (by simp only[aD]at c;omega);rw[show j+1+i=j+(i+1)from by omega]at f;exact⟨d,u,qAk _ m,f⟩
  cases i with
  |zero=>
   refine⟨a,_,o,?_⟩;rw[dW,qAS,g.keepO j Cl λd hm=>(by have:=pE w hm;omega),YU q];rfl
  |succ i=>
   let⟨u,y,m,f⟩:=g.newK i (by simp only[aD]at c;omega);rw[show j+1+i=j+(i+1)from by omega]at f;exact⟨u,y,m,f⟩
end
structure Lks(g G:Nat→Nat)(A:Nat→Bool)(Hc Hk:A0):Prop where
 eq:∀j,A j=true→G j=g j
 own:∀j,A j=true→gD (g j) (nth .dead Hc (g j))=ren G (gD j (nth .dead Hk j))
 psl:∀j z,A j=true→eY (g j) z (nth .dead Hc (g j))=ren G (eY j z (nth .dead Hk j))
section
variable {g G:Nat→Nat}{A:Nat→Bool}{Hc Hk:A0}
mutual
theorem RX(hl:Lks g G A Hc Hk):∀v,Kt A v=true→av Hc (gy g v)=ren G (av Hk v)
 | .unk,_=>rfl
 | .nilp,_=>rfl
 | .nilF,_=>rfl
 | .nils,_=>rfl
 | .lf t x,_=>(Lb G t x).symm
 | .nat _,_=>rfl
 | .ptr l o,h=>by simp only[gy,av,ren,hl.eq l h]
 | .mapr l,h=>by simp only[gy,av,ren,hl.eq l h]
 | .ap l _ _ _,h=>by simp only[gy,av,ren,hl.eq l h]
 | .own l,h=>hl.own l h
 | .psl l z c,h=>by
  cases c with
  |none=>exact hl.psl l z h
  |some k=>simp only[gy,av,ren,hl.eq l h]
 | .eptr cs,h=>by simp only[gy,av,ren,ad6 hl cs h]
 | .agg cs,h=>by simp only[gy,av,ren,ad6 hl cs h]
 | .tup cs,h=>by simp only[gy,av,ren,ame hl cs h]
 | .func f cs,h=>by simp only[gy,av,ren,ame hl cs h]
theorem ad6(hl:Lks g G A Hc Hk):∀vs,oF A vs=true→bq Hc (D7 g vs)=eT G (bq Hk vs)
 |[],_=>rfl
 |v::vs,h=>by
  simp only[oF,qAa]at h;have h1:=RX hl v h.1;simp only[D7,bq,aDg,ad6 hl vs h.2];congr 1;rcases tC v with ho|⟨e,x,rfl⟩
  ·have ho':one (gy g v):=Zn fun e x q=>by
    rw[auH q]at ho;have:=wG ho;simp only[Uv]at this;cases e<;>cases this
   rw[ho,ho',h1];rfl
  ·exact(ac2 e G x).symm
theorem ame(hl:Lks g G A Hc Hk):∀vs,oF A vs=true→aU Hc (D7 g vs)=eT G (aU Hk vs)
 |[],_=>rfl
 |v::vs,h=>by
  simp only[oF,qAa]at h;simp only[D7,aU,eT,RX hl v h.1,ame hl vs h.2]
end
def wX{H:A0}{vs:As}:bq H vs=(aK vs).map (av H):=(agr H vs).symm
def aEI(l:Lks g G A Hc Hk){cs:As}(h:rfC A cs):bq Hc (cs.map (gy g))=eT G (bq Hk cs):=by rw[wX,wX,Yu,qBh,vE,qBh];exact qBu λv a=>RX l v (h v a)
def auN(l:Lks g G A Hc Hk){o:TObj}(h:rfO A o):gV Hc (kF g o)=eU G (gV Hk o):=by cases o with|box c=>simp only[kF,gV,eU,aEI l (h c rfl)]|mp e x=>simp only[kF,gV,eU,Qo]|arr e x=>simp only[kF,gV,eU,nV]|_=>rfl
def aAV{g G:Nat->Nat}{j:Nat}(o:TObj)(h:G j=g j):gD (g j) (kF g o)=ren G (gD j o)/\∀z,eY (g j) z (kF g o)=ren G (eY j z o):=by cases o<;>refine⟨?_,λz=>?_⟩<;>simp only[kF,gD,eY,ren,xu,nV,h]
end
def tgt:TWr->Bx| .sl _ _=>none| .ob l _=>some l| .st l _ _=>some l| .kill l=>some l| .nw l _=>some l| .up l _ _ _=>some l
def Xr{s s':DS}{w:TWr}(h:W1 s w s')(hs:tgt w≠none):s'.t=s.t/\s'.h.length=s.h.length:=by
 cases w with
 |sl n v=>exact(hs rfl).elim
 |ob l o=>obtain⟨_,_,rfl⟩:=h;exact⟨rfl,by simp⟩
 |st l f a=>obtain⟨b,c,_,_,rfl⟩:=h;exact⟨rfl,by simp⟩
 |kill l=>rcases h with⟨e,x,_,rfl⟩|⟨e,x,_,rfl⟩|⟨_,rfl⟩<;>exact⟨rfl,by simp⟩
 |nw l o=>obtain⟨_,_,rfl⟩:=h;exact⟨rfl,by simp⟩
 |up l i e y=>obtain⟨_,_,rfl⟩:=h;exact⟨rfl,by simp⟩
def arz{s s':DS}{w:TWr}(h:W1 s w s'):s'.t.length=s.t.length/\s'.h.length=s.h.length:=by cases w with|sl n v=>let⟨_,e⟩:=h;subst e;exact⟨by simp,rfl⟩|ob l o=>have:=Xr h (by simp[tgt]);exact⟨by rw[this.1],this.2⟩|st l f a=>have:=Xr h (by simp[tgt]);exact⟨by rw[this.1],this.2⟩|kill l=>have:=Xr h (by simp[tgt]);exact⟨by rw[this.1],this.2⟩|nw l o=>have:=Xr h (by simp[tgt]);exact⟨by rw[this.1],this.2⟩|up l i e y=>have:=Xr h (by simp[tgt]);exact⟨by rw[this.1],this.2⟩
def XI{s s':DS}{ws:B3}(h:Ws s ws s'):s'.t.length=s.t.length/\s'.h.length=s.h.length:=by induction h with|nil s=>exact⟨rfl,rfl⟩|cons h _ i=>exact⟨i.1.trans (arz h).1,i.2.trans (arz h).2⟩
def ayF{s d:DS}{a c:B3}(h:Ws s (a++c) d):∃b,Ws s a b/\Ws b c d:=by
 induction a generalizing s with|nil=>exact⟨s,.nil s,h⟩|cons w a i=>cases h with|cons e f=>let⟨b,g,j⟩:=i f;exact⟨b,.cons e g,j⟩
def asW{s s':DS}{w:TWr}(h:W1 s w s'){l:Nat}(a:tgt w≠some l):nth .dead s'.h l=nth .dead s.h l:=by
 cases w with
 |sl n v=>let⟨_,e⟩:=h;subst e;rfl
 |ob m o=>obtain⟨_,_,rfl⟩:=h;exact aX λe=>a (congrArg some e)
 |st m f b=>obtain⟨d,c,_,_,rfl⟩:=h;exact aX λe=>a (congrArg some e)
 |kill m=>rcases h with⟨e,x,_,rfl⟩|⟨e,x,_,rfl⟩|⟨_,rfl⟩<;>exact aX λe=>a (congrArg some e)
 |nw m o=>obtain⟨_,_,rfl⟩:=h;exact aX λe=>a (congrArg some e)
 |up m i e y=>obtain⟨_,_,rfl⟩:=h;exact aX λe=>a (congrArg some e)
def XW{H H':A0}{t:As}(hs:Yb H H' t){l:Nat}{cs:As}(h:nth .dead H l=.box cs):∀v∈aK cs,av H v=av H' v:=by
 have:=hs.2 l cs h;rw[wX,wX]at this
 simp_all
def aCh{H H':A0}{t:As}(hs:Yb H H' t)(l:Nat):gV H (nth .dead H l)=gV H' (nth .dead H l):=by cases h:nth .dead H l with|box c=>simp only[gV];rw[hs.2 l c h]|_=>rfl
def aDh{H H':A0}{t:As}(hs:Yb H H' t):aU H t=aU H' t:=arl hs.1
def XB{s s':DS}{ws:B3}(h:Ws s ws s'):∀l,(∀w∈ws,tgt w≠some l)->nth .dead s'.h l=nth .dead s.h l/\gV s'.h (nth .dead s.h l)=gV s.h (nth .dead s.h l):=by induction h with|nil s=>intro l _;exact⟨rfl,rfl⟩|cons h _ i=>intro l a;have c:=asW h (a _ cn);let⟨g,b⟩:=i l λw d=>a w (by simp[d]);rw[c]at g b;exact⟨g,b.trans (aCh (Lm h).1 l).symm⟩
def atl{s s':DS}{ws:B3}(h:Ws s ws s'):(∀w∈ws,tgt w≠none)->s'.t=s.t/\aU s'.h s'.t=aU s.h s.t:=by induction h with|nil s=>intro _;exact⟨rfl,rfl⟩|cons h _ i=>intro a;let⟨g,b⟩:=i λw m=>a w (by simp[m]);have:=Xr h (a _ cn);refine⟨g.trans this.1,b.trans ?_⟩;rw[this.1,aDh (Lm h).1]
def hits(l q:Nat):TWr->Prop| .st a o v=>a=l/\o<=q/\q<o+widths v| .ob a _=>a=l| .kill a=>a=l|_=>False
def aE4{s s':DS}{w:TWr}(h:W1 s w s'){l q:Nat}{cs:As}{v:TV}(b:nth .dead s.h l=.box cs)(k:(aK cs)[q]? =some v)(j:¬hits l q w):
  ∃c,nth .dead s'.h l=.box c/\(aK c).length=(aK cs).length/\(aK c)[q]? =some v/\av s'.h v=av s.h v:=by
 have f:av s'.h v=av s.h v:=(XW (Lm h).1 b v (qAF k)).symm;by_cases d:tgt w=some l
 ·cases w with
  |sl n x=>cases d
  |ob m o=>cases d;exact(j rfl).elim
  |st m g p=>
   cases d;obtain⟨r,c,a,z,rfl⟩:=h;rw[b]at a;cases a;let⟨A,C⟩:=KP z;have t:l<s.h.length:=by
    apply qAn;intro D;rw[mq Cl]at b;cases b
   refine⟨c,cK t,by rw[A];simp;omega,?_,f⟩;have u:¬(g<=q/\q<g+(aK p).length):=λB=>j ⟨rfl,by rw[<-pO];exact B⟩
   grind
  |kill m=>cases d;exact(j rfl).elim
  |nw m o=>
   cases d;let⟨a,_⟩:=h;rw[b]at a;cases a
  |up m i e y=>cases d;let⟨_,a,_⟩:=h;rw[b]at a;cases a
 exact⟨cs,by rw[asW h d];exact b,rfl,k,f⟩
def au1{s s':DS}{ws:B3}(h:Ws s ws s'):∀{l q:Nat} {a:As} {v:TV},nth .dead s.h l=.box a->(aK a)[q]? =some v->(∀w∈ws,¬hits l q w)->
  ∃c,nth .dead s'.h l=.box c/\(aK c).length=(aK a).length/\(aK c)[q]? =some v/\av s'.h v=av s.h v:=by
 induction h with|nil s=>intro l q a v b d _;exact⟨a,b,rfl,d,rfl⟩|cons h _ i=>
  intro l q a v b d e;let⟨f,g,j,k,m⟩:=aE4 h b d (e _ cn)
  grind
section
variable {γ:Type}{b:γ}
def azJ{l:Nat}{A:As}:∀(k:List (Nat×Sk)) (K:B3->Option γ),wrB l A k K=some b->∃ws,K ws=some b/\(∀w∈ws,∃p c,p∈k/\w=.st l p.1 c)/\
  ∀s s' d,Ws s ws s'->nth .dead s.h l=.box d->∃f,nth .dead s'.h l=.box f/\(aK f).length=(aK d).length/\∀q,(rU k q=true->q<(aK d).length->(aK f)[q]? =(aK A)[q]?)/\(rU k q=false->(aK f)[q]? =(aK d)[q]?/\∀v,(aK d)[q]? =some v->av s'.h v=av s.h v)
 |[],K,h=>⟨[],h,λw hw=>(by cases hw),λs s' d hw i=>by
  cases hw;exact⟨d,i,rfl,λq=>⟨λh=>(by cases h),λ_=>⟨rfl,λ_ _=>rfl⟩⟩⟩⟩
 |p::m,K,h=>by
  simp only[wrB]at h;let⟨a,r,I,U,h⟩:=CZ _ _ _ _ h;let⟨c,V,J,W,h⟩:=CZ _ _ _ _ h;let⟨ws,L,X,M⟩:=azJ m _ h;refine⟨_,L,λw hw=>?_,λs s' d hw i=>?_⟩
  ·rcases qAh.1 hw with rfl|hw
   ·grind
   simp_all
  cases hw with
  |@cons _ B _ _ _ C N=>
   have o:=C;let⟨D,f,E,O,e⟩:=C;rw[i]at E;cases E;let⟨u,Y⟩:=KP O;have t:l<s.h.length:=by
    apply qAn;intro Z;rw[mq Cl]at i;cases i
   have x:nth .dead B.h l=.box f:=by rw[e];exact cK t
   have y:(aK f).length=(aK d).length:=by rw[u];simp only[qAe,qAz,qCC];omega
   let⟨z,P,Q,n⟩:=M B s' f N x;refine⟨z,P,Q.trans y,λq=>⟨λj R=>?_,λj=>?_⟩⟩
   ·cases g:rU m q with
    |true=>exact(n q).1 g Cl
    |false=>
     have S:=(Ak.1 j).resolve_right (by rw[g];simp);rw[((n q).2 g).1,u,I,J];rw[qAm,qAl (by simp only[qAz];omega),qAg (by simp only[qAz];omega)];rw[qAl Cl,qAg Cl];congr 1;simp only[qAz];omega
   have g:rU m q=false:=by
    cases g:rU m q with
    |false=>rfl
    |true=>rw[Ak.2 (.inr g)]at j;cases j
   have F:¬(p.1<=q/\q<p.1+yg p.2):=λT=>by rw[Ak.2 (.inl T)]at j;cases j
   have G:(aK f)[q]? =(aK d)[q]?:=by
    rw[u];by_cases t:q<p.1
    ·rw[qAm,qAg (by simp only[qAz];omega),qBq,if_pos t]
    rw[qAl (by simp only[qAe,qAz];omega),qCb];congr 1;simp only[qAe,qAz];omega
   refine⟨((n q).2 g).1.trans G,λv H=>?_⟩;rw[((n q).2 g).2 v (by rw[G];exact H)];exact(XW (Lm o).1 i v (qAF H)).symm
end
def abL{f:Nat->Bx}:∀(n i:Nat),(MB f i n).length<=n
 |0,_=>by simp[MB]
 |n+1,i=>by
  simp only[MB];split
  ·simp;have:=abL (f:=f) n (i+1);omega
  have:=abL (f:=f) n (i+1);omega
def ang{f:Nat->Bx}:∀(n i:Nat),(MB f i n).length=n->∀j,j<n->f (i+j)=(MB f i n)[j]?
 |0,_,_,j,b=>by omega
 |n+1,i,h,j,b=>by
  simp only[MB]at h|-;split at h
  ·rename_i l a;cases j with
   |zero=>simpa using a
   |succ j=>
    simp at h;have:=ang (f:=f) n (i+1) Cl j Cl
    grind
  rename_i a;have:=abL (f:=f) n (i+1);omega
def au3:∀(c k:Nat),(rng k c).length=c|0,_=>rfl|c+1,k=>by simp only[rng,qAp,au3 c]
def auY:∀(c k i:Nat),i<c->(rng k c)[i]? =some (k+i)|0,_,_,h=>by omega|c+1,k,0,_=>rfl|c+1,k,i+1,h=>by simp only[rng,qBp];rw[auY c (k+1) i Cl];congr 1;omega
def anC:∀(c k:Nat),(rng k c).Nodup|0,_=>by simp[rng]|c+1,k=>by simp only[rng,qCq,Io];exact⟨by omega,anC c (k+1)⟩
def amM:∀{l:A5},nodupB l=true->l.Nodup
 |[],_=>by simp
 |x::s,h=>by
  simp only[nodupB]at h;rw[qCq];cases m:mem s x with
  |true=>rw[m]at h;cases h
  |false=>rw[m]at h;exact⟨AU.1 m,amM h⟩
def alL{H:A0}:∀(n k:Nat),apO H k n=true->∀l∈rng k n,mh (nth .dead H l)=true
 |0,_,_,l,hl=>by cases hl
 |n+1,k,h,l,hl=>by
  simp only[apO,qAa]at h;simp only[rng,qAh]at hl;rcases hl with rfl|hl
  ·exact h.1
  exact alL n (k+1) h.2 l hl
def zm{L:A5}{i l:Nat}(h:L[i]? =some l):lX L i=l:=by unfold lX;rw[jF,List.getD,h];rfl
def ayv{L:A5}{i l b:Nat}(h:L[i]? =some l):nm L b i=l:=by unfold nm;rw[h];rfl
structure Wro(ρ:A5)(h:A0)(k j:Nat)(es:Be)(s s':DS):Prop where
 obj:∀l hd,Ed.o l hd∈es→match hd with
  | .dead=>(∃e xs,nth .dead s.h (lX ρ l)=.own e xs∧nth .dead s'.h (lX ρ l)=.gone e xs)∨(∃e xs,nth .dead s.h (lX ρ l)=.arr e xs∧nth .dead s'.h (lX ρ l)=.gon xs.length)∨nth .dead s'.h (lX ρ l)=.dead
  | .bx is=>∀cs0,nth .dead s.h (lX ρ l)=.box cs0→∃cs1 cf,nth .dead s'.h (lX ρ l)=.box cs1∧nth .dead h l=.box cf∧(aK cs1).length=(aK cs0).length∧
    ∀q,(rU is q=true→q<(aK cs0).length→(aK cs1)[q]? =(aK cf)[q]?)∧(rU is q=false→(aK cs1)[q]? =(aK cs0)[q]?∧∀v,(aK cs0)[q]? =some v→av s'.h v=av s.h v)
  |_=>plainO (nth .dead h l)=true∧plainO (nth .dead s.h (lX ρ l))=true∧nth .dead s'.h (lX ρ l)=nth .dead h l
 new:∀i,i<aD es→nth .dead s'.h (k+i)=nth .dead h (j+i)
section
variable {γ:Type}{b:γ}
def adx{l:Nat}{H:A0}(h:nth .dead H l≠ .dead):l<H.length:=by apply qAn;intro n;exact h (mq Cl)
def aip{ρ:A5}{h:A0}{n:Nat}(S:ρ.Nodup)(M:ρ.length=n):∀(es:Be) (k j:Nat) (ss os:A5) (K:B3->Option γ),fO n ss os es=true->(∀p∈ρ,p<k∨k+aD es<=p)->Kv ρ h k j es K=some b->
  ∃ws,K ws=some b/\(∀w∈ws,∃p,tgt w=some p/\((∃l r,Ed.o l r∈es/\p=lX ρ l)∨(k<=p/\p<k+aD es)))/\∀s s',(∀p∈ρ,p<s.h.length)->Ws s ws s'->Wro ρ h k j es s s'
 |[],k,j,ss,os,K,t,r,a=>⟨[],a,λw t=>(by cases t),λs s' _ _=>⟨λl r hm=>(by cases hm),λi N=>by simp[aD]at N⟩⟩
 | .r c sk::es,k,j,ss,os,K,t,r,a=>by
  simp only[fO,qAa]at t;simp only[Kv]at a;let⟨ws,h1,T,Z⟩:=aip S M es k j _ _ K t.2 r a;refine⟨ws,h1,λw hm=>?_,λs s' m g=>⟨λl r hm=>(Z s s' m g).obj l r (by simpa using hm),(Z s s' m g).new⟩⟩;let⟨p,f,B⟩:=T w hm;exact⟨p,f,B.imp (λ⟨l,r,G,H⟩=>⟨l,r,qAk _ G,H⟩) id⟩
 | .w u::es,k,j,ss,os,K,t,r,a=>by
  simp only[fO]at t;simp only[Kv]at a;let⟨ws,h1,T,Z⟩:=aip S M es (k+1) (j+1) _ _ _ t (λp hp=>by have:=r p hp;simp only[aD]at this;omega) a;have U:∀w∈ws,tgt w≠some k:=λw hm e=>by
   let⟨p,f,B⟩:=T w hm;rw[e]at f;cases f;rcases B with⟨l,d,G,H⟩|⟨G,H⟩
   ·have hl:=pE t G;have:ρ[l]? =some (ρ[l]' Cl):=qAc _;rw[zm this]at H;have:=r _ (qAO (by omega:l<ρ.length));simp only[aD]at this;omega
   omega
  refine⟨_,h1,λw hm=>?_,λs s' m g=>?_⟩
  ·rcases qAh.1 hm with rfl|hm
   ·exact⟨k,rfl,.inr ⟨qAd _,by simp only[aD];omega⟩⟩
   let⟨p,f,B⟩:=T w hm;exact⟨p,f,B.imp (λ⟨l,r,G,H⟩=>⟨l,r,qAk _ G,H⟩) λ⟨G,H⟩=>by simp only[aD];omega⟩
  cases g with
  |@cons _ A _ _ _ I R=>
   have w3:=Z A s' (λp hp=>by rw[(arz I).2];exact m p hp) R;have g1':=I;let⟨C,r2,r3⟩:=I;have hk1:nth .dead A.h k=nth .dead h j:=by
    rw[r3];refine cK ?_;apply qAn;intro hn;rw[mq Cl]at C;cases C
   have oth:∀l d,Ed.o l d∈es->lX ρ l≠k:=λl d hm e=>by
    have hl:=pE t hm;have:ρ[l]? =some (ρ[l]' Cl):=qAc _;rw[zm this]at e;have:=r _ (qAO (by omega:l<ρ.length));simp only[aD]at this;omega
   refine⟨λl d hm=>?_,λi N=>?_⟩
   ·have hm:Ed.o l d∈es:=by simpa using hm
    have F:=oth l d hm;have f:nth .dead A.h (lX ρ l)=nth .dead s.h (lX ρ l):=asW g1' (by simp only[tgt];exact λe=>F (Option.some.inj e).symm);have:=w3.obj l d hm;cases d with
    |bx J=>
     intro D V;let⟨E,cf,m2,m3,m4,L⟩:=this D (by rw[f];exact V);refine⟨E,cf,m2,m3,m4,λq=>⟨(L q).1,λW=>⟨((L q).2 W).1,λv hv=>(((L q).2 W).2 v hv).trans ?_⟩⟩⟩;exact(XW (Lm g1').1 V v (qAF hv)).symm
    |dead=>simp only[f]at this;exact this
    |box cs=>simp only[f]at this;exact this
    |own e=>simp only[f]at this;exact this
    |mp e=>simp only[f]at this;exact this
    |arr e=>simp only[f]at this;exact this
   cases i with
   |zero=>rw[qAS,qAS,(XB R k U).1];exact hk1
   |succ i=>
    have:=w3.new i (by simp only[aD]at N;omega);rwa[show k+1+i=k+(i+1)from by omega,show j+1+i=j+(i+1)from by omega]at this
 | .o x u::es,k,j,ss,os,K,t,r,a=>by
  simp only[fO,qAa,qAV,AU]at t;have hl0:x<n:=qAf t.1;have O:ρ[x]? =some (lX ρ x):=by
   have:ρ[x]? =some (ρ[x]' Cl):=qAc _;rw[zm this];exact this
  have P:∀l d,Ed.o l d∈es->lX ρ l≠lX ρ x:=λl d hm e=>by
   have hl:=pE t.2.2 hm;have uW:ρ[l]? =some (lX ρ l):=by
    have:ρ[l]? =some (ρ[l]' Cl):=qAc _;rw[zm this];exact this
   have:l=x:=(qCw Cl S).1 (uW.trans (by rw[e];exact O.symm));subst this;exact JL t.2.2 cn hm
  -- the first writes, then the rest
  have y:∀(w0:B3) (K':B3->Option γ),(∀ws,K' ws=K (w0++ws))->Kv ρ h k j es K'=some b->(∀w∈w0,tgt w=some (lX ρ x))->
    (∀s A,(∀p∈ρ,p<s.h.length)->Ws s w0 A->Wro ρ h k j [.o x u] s A)->∃ws,K ws=some b/\(∀w∈ws,∃p,tgt w=some p/\((∃l r,Ed.o l r∈(.o x u::es)/\p=lX ρ l)∨(k<=p/\p<k+aD (.o x u::es))))/\∀s s',(∀p∈ρ,p<s.h.length)->Ws s ws s'->Wro ρ h k j (.o x u::es) s s':=λw0 K' hK a ht hw0=>by
   let⟨ws,h1,T,Z⟩:=aip S M es k j _ _ K' t.2.2 r a;refine⟨w0++ws,by rw[<-hK];exact h1,λw hm=>?_,λs s' m g=>?_⟩
   ·rcases qAr.1 hm with hm|hm
    ·exact⟨_,ht w hm,.inl ⟨x,u,by simp,rfl⟩⟩
    let⟨p,f,B⟩:=T w hm;exact⟨p,f,B.imp (λ⟨l,r,G,H⟩=>⟨l,r,qAk _ G,H⟩) id⟩
   let⟨A,I,R⟩:=ayF g;have w3:=Z A s' (λp hp=>by rw[(XI I).2];exact m p hp) R;have wf:=hw0 s A m I;have U:∀w∈ws,tgt w≠some (lX ρ x):=λw hm e=>by
    let⟨p,f,B⟩:=T w hm;rw[e]at f;cases f;rcases B with⟨l,d,G,H⟩|⟨G,H⟩
    ·exact P l d G H.symm
    have:=r _ (qAF O);simp only[aD]at this;omega
   have z:=(XB R (lX ρ x) U).1;refine⟨λl d hm=>?_,λi N=>w3.new i N⟩;rcases qAh.1 hm with e|hm
   ·injection e with f B;subst f;subst B;have:=wf.obj l d cn;cases d with
    |bx J=>
     intro D V;let⟨E,cf,m2,m3,m4,L⟩:=this D V;refine⟨E,cf,by rw[z];exact m2,m3,m4,λq=>⟨(L q).1,λW=>⟨((L q).2 W).1,λv hv=>?_⟩⟩⟩;let⟨_,_,_,_,r4⟩:=au1 R m2 (((L q).2 W).1.trans hv) λw hm a=>by
      have:=U w hm;cases w with
      |st l' off vs=>exact this (congrArg some a.1)
      |ob l' o=>exact this (congrArg some a)
      |kill l'=>exact this (congrArg some a)
      |_=>exact a
     exact r4.trans (((L q).2 W).2 v hv)
    |dead=>simp only[z]at this|-;exact this
    |box cs=>simp only[z]at this|-;exact this
    |own e=>simp only[z]at this|-;exact this
    |mp e=>simp only[z]at this|-;exact this
    |arr e=>simp only[z]at this|-;exact this
   have F:=P l d hm;have f:nth .dead A.h (lX ρ l)=nth .dead s.h (lX ρ l):=(XB I (lX ρ l) λw hm e=>F (by rw[ht w hm]at e;exact(Option.some.inj e).symm)).1;have:=w3.obj l d hm;cases d with
   |bx J=>
    intro D V;let⟨E,cf,m2,m3,m4,L⟩:=this D (by rw[f];exact V);refine⟨E,cf,m2,m3,m4,λq=>⟨(L q).1,λW=>⟨((L q).2 W).1,λv hv=>(((L q).2 W).2 v hv).trans ?_⟩⟩⟩;let⟨_,_,_,_,r4⟩:=au1 I V hv λw hm a=>by
     have t:=ht w hm;cases w with
     |st l' off vs=>exact F (by rw[<-a.1];exact Option.some.inj t)
     |ob l' o=>exact F (by rw[<-(show l'=lX ρ l from a)];exact Option.some.inj t)
     |kill l'=>exact F (by rw[<-(show l'=lX ρ l from a)];exact Option.some.inj t)
     |_=>exact a
    exact r4
   |dead=>simp only[f]at this;exact this
   |box cs=>simp only[f]at this;exact this
   |own e=>simp only[f]at this;exact this
   |mp e=>simp only[f]at this;exact this
   |arr e=>simp only[f]at this;exact this
  have X:(∀J,u≠ .bx J)->u≠ .dead->∀s A,(∀p∈ρ,p<s.h.length)->Ws s [.ob (lX ρ x) (nth .dead h x)] A->Wro ρ h k j [.o x u] s A:=λnb nd s A m g=>by
   cases g with
   |cons I R=>
    cases R;let⟨C,r2,r3⟩:=I;refine⟨λl d hm=>?_,λi N=>by simp[aD]at N⟩;have e:=qAK.1 hm;injection e with f B;subst f;subst B;have Y:nth .dead A.h (lX ρ l)=nth .dead h l:=by
     rw[r3];exact cK (m _ (qAF O))
    cases d with
    |bx J=>exact(nb J rfl).elim
    |dead=>exact(nd rfl).elim
    |box cs=>exact⟨C,r2,Y⟩
    |own e=>exact⟨C,r2,Y⟩
    |mp e=>exact⟨C,r2,Y⟩
    |arr e=>exact⟨C,r2,Y⟩
  have Q:∀w:TWr,tgt w=some (lX ρ x)->∀w'∈[w],tgt w'=some (lX ρ x):=λw t w' hm=>by rw[qAK]at hm;subst hm;exact t
  cases u with
  |dead=>
   simp only[Kv]at a;refine y [.kill (lX ρ x)] _ (λ_=>rfl) a (Q _ rfl) λs A m g=>⟨λl d hm=>?_,λi N=>by simp[aD]at N⟩;have e:=qAK.1 hm;injection e with f B;subst f;subst B;cases g with
   |cons I R=>
    cases R;rcases I with⟨e,xs,C,rfl⟩|⟨e,xs,C,rfl⟩|⟨⟨cs,C⟩|⟨e,xs,C⟩,rfl⟩
    ·exact .inl ⟨e,xs,C,cK (adx (by rw[C];exact λh=>by cases h))⟩
    ·exact .inr (.inl ⟨e,xs,C,cK (adx (by rw[C];exact λh=>by cases h))⟩)
    ·exact .inr (.inr (cK (adx (by rw[C];exact λh=>by cases h))))
    exact .inr (.inr (cK (adx (by rw[C];exact λh=>by cases h))))
  |bx J=>
   simp only[Kv]at a;split at a
   ·rename_i cf hcf;let⟨w0,h1,T,Z⟩:=azJ J _ a;refine y w0 _ (λ_=>rfl) h1 (λw hm=>?_) λs A m g=>⟨λl d hm=>?_,λi N=>by simp[aD]at N⟩
    ·obtain⟨p,c,_,rfl⟩:=T w hm;rfl
    have e:=qAK.1 hm;injection e with f B;subst f;subst B;intro D V;let⟨E,m2,m3,m4⟩:=Z s A D g V;exact⟨E,cf,m2,hcf,m3,m4⟩
   cases a
  |box cs=>simp only[Kv]at a;exact y _ _ (λ_=>rfl) a (Q (.ob _ _) rfl) (X (λJ e=>by cases e) (λe=>by cases e))
  |own e=>simp only[Kv]at a;exact y _ _ (λ_=>rfl) a (Q (.ob _ _) rfl) (X (λJ e=>by cases e) (λe=>by cases e))
  |mp e=>simp only[Kv]at a;exact y _ _ (λ_=>rfl) a (Q (.ob _ _) rfl) (X (λJ e=>by cases e) (λe=>by cases e))
  |arr e=>simp only[Kv]at a;exact y _ _ (λ_=>rfl) a (Q (.ob _ _) rfl) (X (λJ e=>by cases e) (λe=>by cases e))
end
def OpX(P:Program)(o:Oper)(v:Value)(s s':ASt):Prop:=
 ∀(C:Ctx) (d:aS) (a:Act) (w:World),Sim C d s a w->∀(next:Act->World->Prop) (Q:Exit->Act->World->Prop),(∀b c,Sim C b s' a c->Q (.panic [{v,recovered:=false}]) a c)->o.wp P a w next Q
def Ej(P:Program)(f:Nat)(args:An)(H:A6)(v:Value)(H':A6):Prop:=
 ∀(a:aS) (ak:bU) (w:World) (s:List Value),Entry a ak H w->s.length=args.length->(∀j,j<args.length->Rel w a (aH ak a H) (args.getD j .unk) (s.getD j undef))->
  Calls P f s.toArray w λe c=>∃b,e=.panicked [{v,recovered:=false}]/\Leave a b ak H H' w c
def ap9{P:Program}{o:Oper}{s:ASt}{n:Operand}{args:Array Operand}{argTypes:Array TypeId}{f:Nat}{c r:An}{ρ k:A5}{H H':A6}{v:Value}
  (z:o.op=.call {callee:=.value n,args,argTypes}) (A:bL s.tmps n=.func f c) (q:mQ P f=true) (p:Passes s ρ k H) (B:H'.length=(ρ++k).length)
  (h:SWs (args.toList.map (bL s.tmps)++c) (r.map (ren (nm (ρ++k) s.heap.length)))) (D:Ej P f r H v H'):
  OpX P o v s (s.wr (mD (ρ++k) (H'.map (eU (nm (ρ++k) s.heap.length))))):=by
 intro C d a w g next Q M
 have i:=g.ev n;rw[A]at i;let⟨y,E,N,O⟩:=i.LD
 let b:List Value:=args.toList.map a.eval++y
 have l:b.length=r.length:=by
  have:=h.len
  grind
 have u:(execOp a.eval o).run P w=.ok (.enter f b.toArray) w:=by
  have F:args.map a.eval++y.toArray=b.toArray:=by
   grind
  simp[execOp,z,resolve,E,Deferred.ofValue,invoke,Dj q,F]
 have m:∀j,j<r.length->Rel w (ρ.map (at? d)) (aH (Nv C.ak d s.heap ρ) (ρ.map (at? d)) H) (r.getD j .unk) (b.getD j undef):=λj R=>by
  rw[Uq p];have G:(r.map (ren (nm (ρ++k) s.heap.length))).getD j .unk=ren (nm (ρ++k) s.heap.length) (r.getD j .unk):=by
   grind
  have:Rel w d (aH C.ak d s.heap) ((args.toList.map (bL s.tmps)++c).getD j .unk) (b.getD j undef):=by
   by_cases t:j<args.toList.length
   ·have I:(args.toList.map (bL s.tmps)++c).getD j .unk=bL s.tmps args.toList[j]:=by
     grind
    have J:b.getD j undef=a.eval args.toList[j]:=by
     simp only[b];rw[List.getD,qAg (by simpa using t),qAE,qAc t];rfl
    rw[I,J];exact g.ev _
   grind
  replace this:=(h.get j).rel this;rw[G]at this;exact this.Ce (aln g p) _ rfl
 unfold Oper.wp;rw[u];refine(D _ _ _ b (aqc g p) l m).mono ?_;rintro e S ⟨K,rfl,x⟩;let⟨L,T,_⟩:=g.back p x B (res:=.unk) (v:=undef) (.unk _)
 grind
def qd(v:Value):Exit:=.panic [{v,recovered:=false}]
def Qg{P:Program}{ops:Array Oper}{Q:Exit->Act->World->Prop}{l1 l2:List Oper}{op:Oper}{s s1 s':ASt}{v:Value}(h:ASteps P ops l1 s s1)(f:eG ops s1.tmps op=some true)(x:OpX P op v s1 s'):
  ∀(C:Ctx) (κ:aS) (a:Act) (w:World),Sim C κ s a w->(∀κ' e w',Sim C κ' s' e w'->Q (qd v) e w')->wpList P ops Q (l1++op::l2) a w:=by
 induction h with|nil s=>intro C κ a w b q;simp only[qAo,wpList];rw[nG b f];exact .inl (x C κ a w b _ _ λκ' w' c=>q κ' a w' c)|cons g _ i=>
  intro C κ a w b q;simp only[qAM,wpList];rcases g with⟨d,t⟩|⟨d,rfl⟩
  ·rw[nG b d];exact .inl (t C κ a w b _ _ λκ' e w' c=>i f x C κ' e w' c q)
  rw[nG b d];exact i f x C κ _ w (b.aA _ lK) q
def Cz(te:Nat)(e:Int):Value:=.iface te (.int .i64 e)
def PZ.pr{α ζ:Type}(f:α->Prop)(g:Int->ζ->Prop):PZ α ζ->Prop| .ok x=>f x| .er e z=>g e z
def RC{R:Type}:(p:Option Be)->(R->Prop)->((e:Be)->Int->jI (bM e)->Prop)->RT p R->Prop|none,f,_=>f|some e,f,g=>PZ.pr f (g e)
def ah(P:Program)(te:Nat)(e:Ent):Prop:=mQ P e.f=true/\JC e=true/\∀x y,e.F x=some y->∀t h,dW bS e.ps (fF _ x) (dM e.na) []=(t,h)->
 RC e.pe (λy=>∀r a,dW bS e.rs (fF _ (e.out y)) (dM e.nr) h=(r,a)->eH P e.f (aU h t) (aB h) (av a (res1 r)) (aB a))
  (λd v z=>∀r a,dW bS d (fF _ z) (dM 0) h=(r,a)->Ej P e.f (aU h t) (aB h) (Cz te v) (aB a)) y
def RT.aIH{p:Option Be}{R δ:Type}{f:R->Option δ}{g:(e:Be)->Int->jI (bM e)->Option δ}{r:RT p R}{b:δ}{a:R->Prop}{d:(e:Be)->Int->jI (bM e)->Prop}(h:RT.el p f g r=some b)(c:RC p a d r):
  (∃y,f y=some b/\a y)∨∃e v z,p=some e/\g e v z=some b/\d e v z:=by
 cases p with|none=>exact .inl ⟨r,h,c⟩|some e=>match r,h,c with|PZ.ok y,h,c=>exact .inl ⟨y,h,c⟩|PZ.er v z,h,c=>exact .inr ⟨e,v,z,rfl,h,c⟩
def apm(G:Nat->Nat):Nat->AV->AV->Prop|0,a,b=>b=ren G a|1,a,b=>SW b (ren G a)|_,_,_=>True
def rs0{G:Nat->Nat}{cs cs':An}(h:Rs (apm G 0) cs cs'):cs'=eT G cs:=by induction h with|nil=>rfl|cons h _ i=>simp only[eT];rw[i];exact congrArg (·::_) h
def rs1{G:Nat->Nat}{cs cs':An}(h:Rs (apm G 1) cs cs'):SWs cs' (eT G cs):=by induction h with|nil=>exact .nil|cons h _ i=>simp only[eT];exact .cons h i
def aFv{H Hk:A0}{L:Nat->Bx}{G:Nat->Nat}(g:∀j l,L j=some l->G j=l)
  (look:∀j l,L j=some l->gD l (nth .dead H l)=ren G (gD j (nth .dead Hk j))/\∀z,eY l z (nth .dead H l)=ren G (eY j z (nth .dead Hk j))):Wk H Hk L (apm G):=by
 have e:∀m a b,b=ren G a->apm G m a b:=λm a b h=>by
  match m with
  |0=>exact h
  |1=>rw[h];exact .same _
  |_+2=>trivial
 refine⟨rfl,λm a=>?_,λm a b d i=>?_,λm j l o h=>e _ _ _ (by simp only[ren,g j l h]),λm j l h=>e _ _ _ (by simp only[ren,g j l h]),λm j l h=>e _ _ _ (look j l h).1,λm j h=>trivial,λm j l z h=>e _ _ _ ((look j l h).2 z),λm j z h=>trivial,
  λm s c h=>e _ _ _ (by rw[rs0 h];rfl),λm s c h=>?_,λm s c h=>trivial,λm s c h=>e _ _ _ (by rw[rs0 h];rfl),λm f s c h=>trivial,λm f s c h=>e _ _ _ (by rw[rs0 h];rfl)⟩
 ·match m with
  |0=>exact .unk _
  |_+1=>trivial
 ·generalize k:Nat.ble 1 m=q at i;cases i with
  |same=>exact e _ _ _ (d G).symm
  |share n t=>
   match m with
   |0=>cases k
   |1=>show SW _ _;rw[d G];exact .share n t
   |_+2=>trivial
  |nilF=>
   match m with
   |0=>cases k
   |1=>exact .nilF
   |_+2=>trivial
 match m with
 |0=>exact congrArg AV.agg (rs0 h)
 |1=>exact SW.agg' (rs1 h)
 |_+2=>trivial
def abx{o:TObj}{d:HO}{u:Bm}{cs:As}(h:∀i,d≠ .bx i)(e:(bR bS o d u).1=.box cs):∃s,d=.box s/\cs=(iH bS s u).1:=by cases d with|dead=>cases e|box s=>exact⟨s,rfl,(TObj.box.inj e).symm⟩|bx i=>exact(h i rfl).elim|own a=>simp only[bR]at e;split at e<;>cases e|mp a=>simp only[bR]at e;split at e<;>cases e|arr a=>simp only[bR]at e;split at e<;>cases e
def alW{n:Nat}{r:Be}{j:Nat}{d:HO}(h:alb n r j d=true):d≠ .dead/\(∀i,d≠ .bx i)/\∀cs,d=.box cs->Ag n [] cs=true:=by
 cases d with
 |dead=>cases h
 |bx i=>cases h
 |box cs=>
  simp only[alb]at h
  grind
 |own e=>exact⟨λe=>(by cases e),λi e=>(by cases e),λcs e=>by cases e⟩
 |mp e=>exact⟨λe=>(by cases e),λi e=>(by cases e),λcs e=>by cases e⟩
 |arr e=>exact⟨λe=>(by cases e),λi e=>(by cases e),λcs e=>by cases e⟩
def ahJ{n:Nat}{r:Be}:∀{es:Be} {j:Nat},R8 n r j es=true->∀i,i<aD es->alb n r (j+i) (nth .dead (kinds es) i)=true
 |[],_,_,i,a=>by simp[aD]at a
 | .r k s::es,j,h,i,a=>by
  simp only[R8,qAa]at h;exact ahJ h.2 i a
 | .o _ _::es,_,h,_,_=>by cases h
 | .w b::es,j,h,i,a=>by
  simp only[R8,qAa]at h;cases i with
  |zero=>exact h.1
  |succ i=>
   have:=ahJ h.2 i (by simp only[aD]at a;omega);rw[show j+1+i=j+(i+1)from by omega]at this;exact this
def Ob{n:Nat}{r:Be}:∀{es:Be} {j:Nat},R8 n r j es=true->∀d,Ed.w d∈es->d≠ .dead/\(∀i,d≠ .bx i)/\∀cs,d=.box cs->Ag n [] cs=true
 |[],_,_,d,h=>by cases h
 | .r k s::es,j,h,d,hm=>by
  simp only[R8,qAa]at h;exact Ob h.2 d (by simpa using hm)
 | .o _ _::es,_,h,d,hm=>by cases h
 | .w a::es,j,h,d,hm=>by
  simp only[R8,qAa]at h;rcases qAh.1 hm with e|hm
  ·injection e with e;subst e;exact alW h.1
  exact Ob h.2 d hm
def X0{j:Nat}{d:HO}:∀{es:Be},Fy j es=some d->Ed.o j d∈es
 |[],h=>by cases h
 | .r _ _::es,h=>qAk _ (X0 (es:=es) h)
 | .w _::es,h=>qAk _ (X0 (es:=es) h)
 | .o l a::es,h=>by
  simp only[Fy]at h;cases b:Nat.beq l j with
  |true=>
   simp_all
  |false=>rw[b]at h;exact qAk _ (X0 h)
def adG{n j:Nat}{d:HO}:∀{es:Be} {s o:A5},fO n s o es=true->Ed.o j d∈es->Fy j es=some d
 |[],_,_,_,h=>by cases h
 | .r _ _::es,s,o,w,hm=>by
  simp only[fO,qAa]at w;exact adG (es:=es) w.2 (by simpa using hm)
 | .w _::es,s,o,w,hm=>by
  exact adG (es:=es) w (by simpa using hm)
 | .o l c::es,s,o,w,hm=>by
  simp only[fO,qAa]at w;rcases qAh.1 hm with e|hm
  ·cases e;simp only[Fy,o9,cond_true]
  have a:Nat.beq l j=false:=by
   cases b:Nat.beq l j with
   |false=>rfl
   |true=>
    have:=qAj b;subst this;exact(JL w.2.2 cn hm).elim
  simp only[Fy,a];exact adG w.2.2 hm
def anl{n:Nat}{ds:A5}{A:Nat->Bool}(hA:∀l,(Nat.blt l n&&!(mem ds l))=true->A l=true)(i:List (Nat×Sk)):∀(b:B9) (u:Bm) (rest:List LT) (off:Nat),u.map U.t=Sk.Vy b++rest->Ag n ds (ayk i off b)=true->
  ∀q v,(aK (iH bS b u).1)[q]? =some v->rU i (off+q)=false->Kt A v=true
 |[],u,rest,off,_,_,q,v,a,_=>by cases q<;>cases a
 |s::b,u,rest,off,e,h,q,v,a,g=>by
  simp only[Sk.Vy,qAm]at e;let⟨f,d⟩:=N9 s u _ e;simp only[ayk,Ag,qAa]at h;simp only[iH,aK]at a;by_cases t:q<yg s
  ·rw[qAg (by rw[Ik,d];exact t)]at a;have j:YX n ds s=true:=by
    cases c:(Nat.beq (yg s) 1&&mem (i.flatMap λp=>rng (p.1+1) (yg p.2)) (off+1))with
    |false=>rw[c]at h;exact h.1
    |true=>
     simp only[qAa]at c;have f:=qAj c.1;have:q=0:=by omega
     have:rU i off=true:=c.2
     grind
   exact Wp (cs:=[(fu bS s u).1]) (by simp only[oF,qBH];exact XM hA s u j) v (by simp only[aK,qAt];exact qAF a)
  rw[qAl (by rw[Ik,d];omega),Ik,d]at a;exact anl hA i b _ rest (off+yg s) f h.2 _ v a (by rw[show off+yg s+(q - yg s)=off+q from by omega];exact g)
def anb{n:Nat}{ds:A5}{A:Nat->Bool}(hA:∀l,(Nat.blt l n&&!(mem ds l))=true->A l=true):∀(i:List (Nat×Sk)) (c:Option As) (u:Bm) (rest:List LT),u.map U.t=(i.flatMap λp=>p.2.OP)++rest->(i.all λp=>YX n ds p.2)=true->
  (∀cs,c=some cs->∀q v,(aK cs)[q]? =some v->rU i q=false->Kt A v=true)->∀cs,(kD bS i c u).1=some cs->rfC A cs
 |[],c,u,rest,_,_,b,cs,h=>λv a=>by let⟨q,d⟩:=qAR a;exact b cs h q v d rfl|p::m,c,u,rest,o,s,b,cs,h=>by
  simp only[qBC,qAa]at s;simp only[qBf,qAm]at o;let⟨r,w⟩:=N9 p.2 u _ o;refine anb hA m _ _ rest r s.2 (λx e q v a d=>?_) cs h;cases c with|none=>cases e|some f=>
   simp only[qAb]at e;let⟨g,y⟩:=KP e;have j:(aK [(fu bS p.2 u).1]).length=yg p.2:=by simp only[aK,qAt,Ik,w]
   rw[j]at g y;by_cases k:p.1<=q/\q<p.1+yg p.2;·rw[g,qAm,qAl (by simp only[qAz];omega),qAg (by simp only[qAz];omega)]at a;exact Wp (cs:=[(fu bS p.2 u).1]) (by simp only[oF,qBH];exact XM hA p.2 u s.1) v (qAF a)
   ·refine b f rfl q v ?_ ?_
    ·rw[g]at a;by_cases t:q<p.1
     ·rw[qAm,qAg (by simp only[qAz];omega),qBq,if_pos t]at a;exact a
     ·rw[qAl (by simp only[qAe,qAz];omega),qCb]at a;rw[<-a];congr 1;simp only[qAe,qAz];omega
    ·cases hb:rU (p::m) q with|false=>rfl|true=>
      rcases Ak.1 hb with hb|hb
      ·exact(k hb).elim
      ·rw[d]at hb;cases hb
def ajm{n:Nat}{ds:A5}{a:List HO}:∀{es:Be},BP n ds a es=true->∀k s,Ed.r k s∈es->YX n ds s=true
 |[],_,k,s,h=>by cases h
 | .r b c::es,h,k,s,hm=>by
  simp only[BP,qAa]at h;rcases qAh.1 hm with e|hm
  ·grind
  exact ajm h.2 k s hm
 | .o _ _::es,h,k,s,hm=>by
  simp only[BP,qAa]at h;exact ajm h.2 k s (by simpa using hm)
 | .w d::es,h,k,s,hm=>by
  simp only[BP,qAa]at h;exact ajm h.2 k s (by simpa using hm)
def ajb{n:Nat}{ds:A5}{k:List HO}:∀{es:Be},BP n ds k es=true->∀d,Ed.w d∈es->amI n ds d=true
 |[],_,d,h=>by cases h
 | .r a s::es,h,d,hm=>by
  simp only[BP,qAa]at h;exact ajb h.2 d (by simpa using hm)
 | .o _ _::es,h,d,hm=>by
  simp only[BP,qAa]at h;exact ajb h.2 d (by simpa using hm)
 | .w b::es,h,d,hm=>by
  simp only[BP,qAa]at h;rcases qAh.1 hm with e|hm
  ·grind
  exact ajb h.2 d hm
def WX{n:Nat}{ds:A5}{k:List HO}:∀{es:Be},BP n ds k es=true->∀l d,Ed.o l d∈es->d=.dead∨(amI n ds d=true/\azn (nth .dead k l)=true/\(∀e,d≠ .own e)/\(∀e,d≠ .arr e)/\∀i,d=.bx i->aGy (nth .dead k l)=true)
 |[],_,l,d,h=>by cases h
 | .r f s::es,h,l,d,hm=>by
  simp only[BP,qAa]at h;exact WX h.2 l d (by simpa using hm)
 | .w b::es,h,l,d,hm=>by
  simp only[BP,qAa]at h;exact WX h.2 l d (by simpa using hm)
 | .o g b::es,h,l,d,hm=>by
  simp only[BP,qAa]at h;rcases qAh.1 hm with e|hm
  ·injection e with e1 e2;subst e1;subst e2;cases d with
   |dead=>exact .inl rfl
   |own e=>cases h.1
   |arr e=>cases h.1
   |box j=>have:=h.1;simp at this;exact .inr ⟨this.1,this.2,λe q=>(by cases q),λe q=>(by cases q),λi q=>(by cases q)⟩
   |bx i=>
    have:=h.1;simp at this;exact .inr ⟨this.1,(by have a:=this.2;cases c:nth HO.dead k l<;>rw[c]at a<;>first|rfl|cases a),λe q=>(by cases q),λe q=>(by cases q),λi q=>this.2⟩
   |mp e=>have:=h.1;simp at this;exact .inr ⟨this.1,this.2,λe q=>(by cases q),λe q=>(by cases q),λi q=>(by cases q)⟩
  exact WX h.2 l d hm
def Qf{l:Nat}:∀{es:Be},Ed.o l .dead∈es->l∈killed es
 |[],h=>by cases h
 | .r k s::es,h=>Qf (es:=es) (by simpa using h)
 | .w a::es,h=>Qf (es:=es) (by simpa using h)
 | .o b a::es,h=>by
  simp only[killed,qAr];rcases qAh.1 h with e|h
  ·grind
  exact .inr (Qf h)
mutual
theorem akV{A:Nat→Bool}{l:Nat}:∀v:TV,apk l v=true→Kt A v=true→A l=true
 | .own l',h,k=>by have:=qAj h;subst this;exact k
 | .psl l' _ _,h,k=>by have:=qAj h;subst this;exact k
 | .eptr cs,h,k=>RU cs h k
 | .agg cs,h,k=>RU cs h k
 | .tup cs,h,k=>RU cs h k
 | .func _ cs,h,k=>RU cs h k
 | .unk,h,_=>by cases h
 | .nilp,h,_=>by cases h
 | .nilF,h,_=>by cases h
 | .nils,h,_=>by cases h
 | .lf _ _,h,_=>by cases h
 | .nat _,h,_=>by cases h
 | .ptr _ _,h,_=>by cases h
 | .mapr _,h,_=>by cases h
theorem RU{A:Nat→Bool}{l:Nat}:∀vs:As,lQ l vs=true→oF A vs=true→A l=true
 |[],h,_=>by cases h
 |v::vs,h,k=>by
  simp only[lQ,qBe]at h;simp only[oF,qAa]at k;exact h.elim (fun h=>akV v h k.1) fun h=>RU vs h k.2
end
end Abs
end Go.Proofs.YtneeginmfjageaaGreat
