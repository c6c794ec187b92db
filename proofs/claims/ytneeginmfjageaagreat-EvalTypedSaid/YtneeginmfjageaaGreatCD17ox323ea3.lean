/-
  Renaming of typed values; what shapes are filled in as under other names. Conditions: none; lemmas.
-/
import Derived.Test.YtneeginmfjageaaGreatCD11ox1c80fd
set_option linter.all false
namespace Go.Proofs.YtneeginmfjageaaGreat
namespace Abs
section
open Go
noncomputable section
mutual
def fu(g:Nat→Nat):TV→TV
 | .ptr l o=>.ptr (g l) o
 | .mapr l=>.mapr (g l)
 | .ap l i z o=>.ap (g l) i z o
 | .own l=>.own (g l)
 | .psl l z c=>.psl (g l) z c
 | .eptr cs=>.eptr (Cg g cs)
 | .agg cs=>.agg (Cg g cs)
 | .tup cs=>.tup (Cg g cs)
 | .func f cs=>.func f (Cg g cs)
 | .unk=>.unk| .nilp=>.nilp| .nilF=>.nilF| .nils=>.nils| .lf t x=>.lf t x| .nat n=>.nat n
def Cg(g:Nat→Nat):List TV→List TV
 |[]=>[]
 |v::vs=>fu g v::Cg g vs
end
theorem F8 g:∀vs,Cg g vs=vs.map (fu g)|[]=>rfl|v::vs=>by simp only[Cg,qAz,F8 g vs]
def jE(g:Nat->Nat):TObj->TObj| .box c=>.box (c.map (fu g))|o=>o
theorem ail g v:width (fu g v)=width v:=by cases v<;>rfl
theorem auv{g v e}{x:e.D}(h:fu g v=.lf (.t e) x):v=.lf (.t e) x:=by cases v<;>first|exact h|cases h
theorem aDL g {l:List U}:(l.map λu=>TV.lf u.t u.x).map (fu g)=l.map λu=>TV.lf u.t u.x:=by rw[qBl];rfl
theorem auZ g e x:(comps e x).map (fu g)=comps e x:=aDL g
theorem av6 g v:Rf (fu g v)=(Rf v).map (fu g):=by
 rcases qY v with h|⟨e,x,rfl⟩
 ·have a:one (fu g v):=WE λe x q=>by rw[auv q]at h;have:=vv h;cases e<;>cases this
  rw[vv h,vv a];rfl
 cases e<;>rfl
theorem Wz g:∀vs:List TV,aG (vs.map (fu g))=(aG vs).map (fu g)|[]=>rfl|v::vs=>by simp only[qAz,aG,av6,Wz g vs,qAX]
section
variable {γ:Type}
theorem Nq g:∀f cs n (K:List TV->List TV->Option γ),splitK f (cs.map (fu g)) n K=splitK f cs n λa r=>K (a.map (fu g)) (r.map (fu g))
 |0,_,_,_=>rfl|f+1,cs,n,K=>by
  cases n with
  |zero=>rfl|succ m=>
   cases cs with
   |nil=>rfl|cons c r=>
    have d:=Nq g f r (m+1 - width c) λa b=>K (fu g c::a) b;simp only[qAz,splitK,ail];rw[d];cases Nat.ble (width c) (m+1)with|true=>rfl|false=>
     cases c with
     |lf t x=>
      cases t with
      |t e=>have:=Nq g f (comps e x++r) (m+1) K;rw[qAX,auZ]at this;exact this
      |_=>rfl
     |_=>rfl
theorem aA7 g s d off:uD (s.map (fu g)) off (d.map (fu g)) some=(uD s off d some).map (List.map (fu g)):=by
 have h:widths (d.map (fu g))=widths d:=by
  induction d with|nil=>rfl|cons v d i=>simp only[qAz,widths,ail,i]
 have p:∀(f:Nat) (s:List TV) (n:Nat) (K:List TV->List TV->Option (List TV)),(splitK f s n K).map (List.map (fu g))=splitK f s n λa b=>(K a b).map (List.map (fu g)):=λf=>by
  induction f with|zero=>intro s n K;rfl|succ f i=>
   intro s n K;cases n with|zero=>rfl|succ m=>
    cases s with|nil=>rfl|cons c r=>
     simp only[splitK];cases Nat.ble (width c) (m+1)with|true=>simp only[cond_true];exact i _ _ _|false=>
      split;·grind
      rfl
 unfold uD;rw[Nq,p,h];congr 1;funext a b;rw[Nq,p]
 grind
end
mutual
theorem abA(g:Nat→Nat):∀(s:Sk) (us:List U),dZ g s us=(fu g (dZ bI s us).1,(dZ bI s us).2)
 | .unk,_=>rfl
 | .nilp,_=>rfl
 | .nilF,_=>rfl
 | .k _,_=>rfl
 | .nils,_=>rfl
 | .lf _,us=>by cases us<;>rfl
 | .ptr _ _,_=>rfl
 | .eptr cs,us=>by simp only[dZ,Ck g cs us,fu,F8]
 | .agg cs,us=>by simp only[dZ,Ck g cs us,fu,F8]
 | .tup cs,us=>by simp only[dZ,Ck g cs us,fu,F8]
 | .func _ cs,us=>by simp only[dZ,Ck g cs us,fu,F8]
 | .mapr _,_=>rfl
 | .own _,_=>rfl
 | .psl _ _,_=>rfl
theorem Ck(g:Nat→Nat):∀(ss:List Sk) (us:List U),fT g ss us=((fT bI ss us).1.map (fu g),(fT bI ss us).2)
 |[],_=>rfl
 |s::ss,us=>by simp only[fT,abA g s us,Ck g ss,qAz]
end
theorem Wp g:∀ps c u,jv g ps (c.map (List.map (fu g))) u=((jv bI ps c u).1.map (List.map (fu g)),(jv bI ps c u).2)
 |[],_,_=>rfl|p::ps,c,u=>by
  have k:(c.map (List.map (fu g))).bind (λcs=>uD cs p.1 [fu g (dZ bI p.2 u).1] some)=(c.bind λcs=>uD cs p.1 [(dZ bI p.2 u).1] some).map (List.map (fu g)):=by
   cases c with|none=>rfl|some cs=>
    have:=aA7 g cs [(dZ bI p.2 u).1] p.1
    grind
  have i:=Wp g ps (c.bind λcs=>uD cs p.1 [(dZ bI p.2 u).1] some) (dZ bI p.2 u).2;unfold jv;rw[abA g p.2 u]
  grind
theorem ait g o h s:bH g (jE g o) h s=(jE g (bH bI o h s).1,(bH bI o h s).2):=by
 cases h with
 |dead=>rfl|box c=>simp only[bH,Ck g c s,jE]|bx l=>
  have n:=Wp g l none s;simp at n;cases o with
  |box c=>
   have:=Wp g l (some c) s;simp only[jE,bH]
   grind
  |_=>simp only[jE,bH,n]
 |own e=>
  cases s with
  |nil=>rfl|cons u s=>obtain⟨t,x⟩:=u;cases t<;>rfl
 |mp e=>
  cases s with|nil=>rfl|cons u s=>obtain⟨t,x⟩:=u;cases t<;>rfl
 |arr e=>
  cases s with|nil=>rfl|cons u s=>obtain⟨t,x⟩:=u;cases t<;>rfl
theorem Ug{α β d d'}(f:α->β)(h:f d=d') l n:nth d' (l.map f) n=f (nth d l n):=by rw[iK,iK];simp;cases l[n]?<;>simp[h]
theorem PG g:∀es u t h,dJ g es u (t.map (fu g)) (h.map (jE g))=((dJ bI es u t h).1.map (fu g),(dJ bI es u t h).2.map (jE g))
 |[],_,_,_=>rfl| .r n s::es,u,t,h=>by simp only[dJ,abA g s u,<-qCU,PG g es]| .o l s::es,u,t,h=>by
  have i:=PG g es (bH bI (nth .dead h l) s u).2 t (h.set l (bH bI (nth .dead h l) s u).1);have e:nth .dead (h.map (jE g)) l=jE g (nth .dead h l):=Ug (d:=.dead) (d':=.dead) (jE g) rfl h l;unfold dJ;rw[e,ait g]
  simp_all
 | .w s::es,u,t,h=>by
  have i:=PG g es (bH bI .dead s u).2 t (h++[(bH bI .dead s u).1]);have e:bH g .dead s u=(jE g (bH bI .dead s u).1,(bH bI .dead s u).2):=ait g .dead s u;unfold dJ
  grind
mutual
def Iq(A:Nat→Bool):TV→Bool
 | .ptr l _=>A l
 | .mapr l=>A l
 | .ap l _ _ _=>A l
 | .own l=>A l
 | .psl l _ _=>A l
 | .eptr cs=>nP A cs
 | .agg cs=>nP A cs
 | .tup cs=>nP A cs
 | .func _ cs=>nP A cs
 | .unk=>true| .nilp=>true| .nilF=>true| .nils=>true| .lf _ _=>true| .nat _=>true
def nP(A:Nat→Bool):List TV→Bool
 |[]=>true
 |v::vs=>Iq A v&&nP A vs
end
theorem aqO{A}:∀{vs:List TV},nP A vs=true↔∀v∈vs,Iq A v=true|[]=>by simp[nP]|v::vs=>by simp only[nP,qAb,aqO,qAh,forall_eq_or_imp]
theorem ay3 A e x:∀v∈Kz e x,Iq A v=true:=by intro v h;cases e<;>simp only[Kz,qAh]at h<;>(repeat' (rcases h with rfl|h))<;>first|rfl|(subst h;rfl)
def rfC A cs:=∀v∈aG cs,Iq A v=true
theorem UA{A}:∀{cs:List TV},nP A cs=true->rfC A cs
 |[],_=>λv h=>by cases h|c::cs,h=>by
  simp only[nP,qAb]at h;intro v a;simp only[aG,qAn]at a;rcases a with a|a
  ·rcases qY c with o|⟨e,y,rfl⟩
   ·rw[vv o,qBa]at a;subst a;exact h.1
   exact ay3 A e y v a
  exact UA h.2 v a
def rfO A(o:TObj):=∀c,o=.box c->rfC A c
mutual
theorem U4{n:Nat}{ds:List Nat}{A:Nat→Bool}(hA:∀l,(Nat.blt l n&&!(mem ds l))=true→A l=true):∀(s:Sk) (us:List U),WZ n ds s=true→Iq A (dZ bI s us).1=true
 | .unk,_,_=>rfl
 | .nilp,_,_=>rfl
 | .nilF,_,_=>rfl
 | .k _,_,_=>rfl
 | .nils,_,_=>rfl
 | .lf _,us,_=>by cases us<;>rfl
 | .ptr l _,_,h=>hA l h
 | .eptr cs,us,h=>Bn hA cs us h
 | .agg cs,us,h=>Bn hA cs us h
 | .tup cs,us,h=>Bn hA cs us h
 | .func _ cs,us,h=>Bn hA cs us h
 | .mapr l,_,h=>hA l h
 | .own l,_,h=>hA l h
 | .psl l _,_,h=>hA l h
theorem Bn{n:Nat}{ds:List Nat}{A:Nat→Bool}(hA:∀l,(Nat.blt l n&&!(mem ds l))=true→A l=true):∀(ss:List Sk) (us:List U),ze n ds ss=true→nP A (fT bI ss us).1=true
 |[],_,_=>rfl
 |s::ss,us,h=>by
  simp only[ze,qAb]at h;simp only[fT,nP,qAb];exact⟨U4 hA s us h.1,Bn hA ss _ h.2⟩
end
theorem aqM{n}{ds}{A}(e:∀l,(Nat.blt l n&&!(mem ds l))=true->A l=true):∀i c u,(i.all λp=>WZ n ds p.2)=true->(∀cs,c=some cs->rfC A cs)->∀cs,(jv bI i c u).1=some cs->rfC A cs
 |[],c,u,_,b,cs,h=>b cs h|p::g,c,u,d,b,cs,h=>by
  simp only[qBK,qAb]at d;refine aqM e g _ _ d.2 (λcs1 f=>?_) cs h;cases c with|none=>cases f|some s=>
   obtain⟨q,_⟩:=Jo f;intro v a;rw[q]at a;simp only[qAn]at a;rcases a with(a|a)|a
   ·exact b s rfl v (qDK a)
   ·exact UA (cs:=[(dZ bI p.2 u).1]) (by simp only[nP,qBE];exact U4 e p.2 u d.1) v a
   exact b s rfl v (List.mem_of_mem_drop a)
theorem ark{n}{ds}{A}(b:∀l,(Nat.blt l n&&!(mem ds l))=true->A l=true) o hd s (h:ai1 n ds hd=true)(d:rfO A o):rfO A (bH bI o hd s).1:=by
 intro f c;cases hd with
 |dead=>cases c|box g=>cases c;exact UA (Bn b g s h)|bx i=>
  cases o with
  |box a=>
   simp only[bH]at c;cases q:(jv bI i (some a) s).1 with|none=>rw[q]at c;cases c|some j=>rw[q]at c;cases c;exact aqM b i _ s h (λcs2 m=>by cases m;exact d a rfl) f q
  |_=>cases c
 |own e=>
  cases s with|nil=>cases c|cons u s=>obtain⟨t,x⟩:=u;cases t<;>cases c
 |mp e=>
  cases s with|nil=>cases c|cons u s=>obtain⟨t,x⟩:=u;cases t<;>cases c
 |arr e=>
  cases s with|nil=>cases c|cons u s=>obtain⟨t,x⟩:=u;cases t<;>cases c
theorem asv o hd s (h:(match hd with| .own _=>false| .arr _=>false|_=>true)=true):plainO (bH bI o hd s).1=true:=by
 cases hd with
 |dead=>rfl|box a=>rfl|bx i=>
  cases o with
  |box c=>simp only[bH];cases(jv bI i (some c) s).1<;>rfl|_=>rfl
 |own e=>cases h|mp e=>
  cases s with|nil=>rfl|cons u s=>obtain⟨t,x⟩:=u;cases t<;>rfl
 |arr e=>cases h
theorem JR:∀s x,(eD s x).map U.t=s|[],_=>rfl|[t],_=>rfl|t::u::s,x=>by simp only[eD,qAz];rw[JR (u::s) x.2]
mutual
theorem KP:∀(s:Sk) (us:List U) (rest:List LT),us.map U.t=s.Mr++rest→(dZ bI s us).2.map U.t=rest∧width (dZ bI s us).1=wE s
 | .unk,us,rest,h=>⟨h,rfl⟩
 | .nilp,us,rest,h=>⟨h,rfl⟩
 | .nilF,us,rest,h=>⟨h,rfl⟩
 | .k c,us,rest,h=>⟨h,CU.width c⟩
 | .nils,us,rest,h=>⟨h,rfl⟩
 | .lf t,us,rest,h=>by
  cases us with
  |nil=>cases h
  |cons u us=>
   simp only[Sk.Mr,qAz,qAO,qAs,List.cons.injEq]at h;obtain⟨t',x⟩:=u;obtain⟨h1,h2⟩:=h;simp only at h1;subst h1;exact⟨h2,by cases t'<;>rfl⟩
 | .ptr _ _,us,rest,h=>⟨h,rfl⟩
 | .eptr cs,us,rest,h=>⟨Cw cs us rest h,rfl⟩
 | .agg cs,us,rest,h=>⟨Cw cs us rest h,rfl⟩
 | .tup cs,us,rest,h=>⟨Cw cs us rest h,rfl⟩
 | .func _ cs,us,rest,h=>⟨Cw cs us rest h,rfl⟩
 | .mapr _,us,rest,h=>⟨h,rfl⟩
 | .own _,us,rest,h=>⟨h,rfl⟩
 | .psl _ _,us,rest,h=>⟨h,rfl⟩
theorem Cw:∀(ss:List Sk) (us:List U) (rest:List LT),us.map U.t=Sk.SL ss++rest→(fT bI ss us).2.map U.t=rest
 |[],us,rest,h=>h
 |s::ss,us,rest,h=>by
  simp only[Sk.SL,qAm]at h;exact Cw ss _ rest (KP s us _ h).1
end
theorem NC:∀b c u rest,u.map U.t=(b.flatMap λp=>p.2.Mr)++rest->(jv bI b c u).2.map U.t=rest/\
  ∀cs f,c=some cs->(jv bI b c u).1=some f->(aG f).length=(aG cs).length/\∀q,pU b q=false->(aG f)[q]? =(aG cs)[q]?
 |[],c,u,rest,h=>⟨h,λcs f g d=>by rw[g]at d;cases d;exact⟨rfl,λ_ _=>rfl⟩⟩
 |p::j,c,u,rest,h=>by
  simp only[qBh,qAm]at h;obtain⟨g,d⟩:=KP p.2 u _ h;have i:=NC j (c.bind λcs=>uD cs p.1 [(dZ bI p.2 u).1] some) _ rest g;refine⟨i.1,λcs f hc e=>?_⟩;subst hc;simp only[qAa]at i;simp only[jv,qAa]at e;cases a:uD cs p.1 [(dZ bI p.2 u).1] some with
  |none=>
   rw[a]at e;have nn:∀(l:List (Nat×Sk)) (u:List U),(jv bI l none u).1=none:=λl=>by
    induction l with
    |nil=>intro u;rfl|cons p l i=>intro u;simp only[jv,Option.bind_none];exact i _
   grind
  |some cs1=>
   rw[a]at i e;obtain⟨g1,g2⟩:=i.2 cs1 f rfl e;obtain⟨q1,q2⟩:=Jo a;have hw:(aG [(dZ bI p.2 u).1]).length=wE p.2:=by rw[nS];simp only[widths,d,qAP]
   refine⟨by rw[g1,q1];simp only[qAf,qAB,qCG];omega,λq a=>?_⟩;have s:pU j q=false:=by
    cases s:pU j q with|false=>rfl|true=>rw[yS.2 (.inr s)]at a;cases a
   have hout:¬(p.1<=q/\q<p.1+wE p.2):=λhh=>by rw[yS.2 (.inl hh)]at a;cases a
   rw[g2 q s,q1];by_cases hlt:q<p.1;·rw[qAm,qAi (by simp only[qAB];omega),qBt,if_pos hlt]
   grind
theorem air o hd s rest (h:s.map U.t=hd.Mr++rest):(bH bI o hd s).2.map U.t=rest:=by
 cases hd with
 |dead=>exact h|box c=>exact Cw c s rest h|bx i=>cases o<;>exact(NC i _ s rest h).1|own e=>
  cases s with|nil=>cases h|cons u s=>simp only[HO.Mr,qAz,qAO,List.cons.injEq]at h;obtain⟨t,x⟩:=u;obtain⟨a,b⟩:=h;subst a;exact b
 |mp e=>
  cases s with|nil=>cases h|cons u s=>simp only[HO.Mr,qAz,qAO,List.cons.injEq]at h;obtain⟨t,x⟩:=u;obtain⟨a,b⟩:=h;subst a;exact b
 |arr e=>
  cases s with|nil=>cases h|cons u s=>simp only[HO.Mr,qAz,qAO,List.cons.injEq]at h;obtain⟨t,x⟩:=u;obtain⟨a,b⟩:=h;subst a;exact b
structure Bld(es:List Ed)(j:Nat)(T:List TV)(h:List TObj)(T1:List TV)(h1:List TObj):Prop where
 tl:T1.length=T.length
 hl:h1.length=j+aC es
 slot:∀k,nth .unk T1 k=nth .unk T k∨∃s us,Ed.r k s∈es∧nth .unk T1 k=(dZ bI s us).1
 keepO:∀l,l<j→(∀hd,Ed.o l hd∉es)→nth .dead h1 l=nth .dead h l
 obj:∀l hd,Ed.o l hd∈es→∃us rest,us.map U.t=hd.Mr++rest∧nth .dead h1 l=(bH bI (nth .dead h l) hd us).1
 new:∀i,i<aC es→∃hd us,Ed.w hd∈es∧nth .dead h1 (j+i)=(bH bI .dead hd us).1
 newK:∀i,i<aC es→∃us rest,us.map U.t=(nth .dead (kinds es) i).Mr++rest∧nth .dead h1 (j+i)=(bH bI .dead (nth .dead (kinds es) i) us).1
theorem sD{n}:∀es a j x os T h rest,a.map U.t=bF es++rest->eT n x os es=true->n<=j->h.length=j->Bld es j T h (dJ bI es a T h).1 (dJ bI es a T h).2
 |[],a,j,x,os,T,h,rest,f,w,y,o=>⟨rfl,o,λ_=>.inl rfl,λ_ _ _=>rfl,λl hd m=>(by cases m),λi b=>by simp[aC]at b,λi b=>by simp[aC]at b⟩| .r k s::es,a,j,x,os,T,h,rest,f,w,y,o=>by
  simp only[bF,qAm]at f;simp only[eT,qAb]at w;have g:=sD es (dZ bI s a).2 j _ _ (T.set k (dZ bI s a).1) h rest (KP s a _ f).1 w.2 y o;refine⟨by rw[dJ,g.tl,qAU],g.hl,λk'=>?_,λl t p=>g.keepO l t λhd m=>p hd (qAl _ m),λl hd m=>g.obj l hd (by simpa using m),λi b=>?_,λi b=>g.newK i b⟩
  ·rcases g.slot k' with e|⟨z,u,d,c⟩
   ·by_cases A:k=k'
    ·subst A;by_cases t:k<T.length
     ·exact .inr ⟨s,a,by simp,by rw[dJ,e,bM t]⟩
     exact .inl (by rw[dJ,e,qBP (by omega)])
    exact .inl (by rw[dJ,e,aU A])
   exact .inr ⟨z,u,qAl _ d,c⟩
  obtain⟨hd,u,d,c⟩:=g.new i b;exact⟨hd,u,qAl _ d,c⟩
 | .o l hd::es,a,j,x,os,T,h,rest,f,w,y,o=>by
  simp only[bF,qAm]at f;simp only[eT,qAb,qAS,zw]at w;have B:l<n:=qAe w.1;have p:∀hd',Ed.o l hd'∉es:=λhd'=>GH w.2.2 (by simp);have g:=sD es (bH bI (nth .dead h l) hd a).2 j _ _ T (h.set l (bH bI (nth .dead h l) hd a).1) rest (air _ hd a _ f) w.2.2 y (by rw[qAU];exact o);refine⟨g.tl,g.hl,λk'=>?_,λl' t q=>?_,λl' hd' m=>?_,λi b=>?_,λi b=>g.newK i b⟩
  ·rcases g.slot k' with e|⟨z,u,d,c⟩
   ·exact .inl e
   exact .inr ⟨z,u,qAl _ d,c⟩
  ·have r:l≠l':=λe=>q hd (by subst e;simp);rw[dJ,g.keepO l' t λhd' m=>q hd' (qAl _ m),aU r]
  ·rcases qAh.1 m with e|m
   ·cases e;exact⟨a,_,f,by rw[dJ,g.keepO l (by omega) p,bM (by omega)]⟩
   have r:l≠l':=λe=>by subst e;exact p hd' m
   have:=g.obj l' hd' m;rw[aU r]at this;exact this
  obtain⟨hd,u,d,c⟩:=g.new i b;exact⟨hd,u,qAl _ d,c⟩
 | .w hd::es,a,j,x,os,T,h,rest,f,w,y,o=>by
  simp only[bF,qAm]at f;simp only[eT]at w;have g:=sD es (bH bI .dead hd a).2 (j+1) _ _ T (h++[(bH bI .dead hd a).1]) rest (air _ hd a _ f) w (by omega) (by simp[o]);refine⟨g.tl,by rw[dJ,g.hl];simp only[aC];omega,λk'=>?_,λl' t q=>?_,λl' hd' m=>?_,λi b=>?_,λi b=>?_⟩
  ·rcases g.slot k' with e|⟨z,u,d,c⟩
   ·exact .inl e
   exact .inr ⟨z,u,qAl _ d,c⟩
  ·rw[dJ,g.keepO l' (by omega) λhd' m=>q hd' (qAl _ m),pY (by omega)]
  ·have m:Ed.o l' hd'∈es:=by simpa using m
   have t:=nR w m;have:=g.obj l' hd' m;rw[pY (by omega)]at this;exact this
  ·cases i with
   |zero=>refine⟨hd,a,by simp,?_⟩;rw[dJ,qAP,g.keepO j (by omega) λhd' m=>(by have:=nR w m;omega),VJ o]
   |succ i=>obtain⟨hd',u,d,c⟩:=g.new i (by simp only[aC]at b;omega);rw[show j+1+i=j+(i+1)from by omega]at c;exact⟨hd',u,qAl _ d,c⟩
  cases i with
  |zero=>refine⟨a,_,f,?_⟩;rw[dJ,qAP,g.keepO j (by omega) λhd' m=>(by have:=nR w m;omega),VJ o];rfl
  |succ i=>obtain⟨u,v,d,c⟩:=g.newK i (by simp only[aC]at b;omega);rw[show j+1+i=j+(i+1)from by omega]at c;exact⟨u,v,d,c⟩
end
end
section
open Go
structure Lks(g G:Nat→Nat)(A:Nat→Bool)(Hc Hk:List TObj):Prop where
 eq:∀j,A j=true→G j=g j
 own:∀j,A j=true→fA (g j) (nth .dead Hc (g j))=ren G (fA j (nth .dead Hk j))
 psl:∀j z,A j=true→dU (g j) z (nth .dead Hc (g j))=ren G (dU j z (nth .dead Hk j))
section
variable {g G:Nat→Nat}{A:Nat→Bool}{Hc Hk:List TObj}
mutual
theorem Ph(hl:Lks g G A Hc Hk):∀v,Iq A v=true→av Hc (fu g v)=ren G (av Hk v)
 | .unk,_=>rfl
 | .nilp,_=>rfl
 | .nilF,_=>rfl
 | .nils,_=>rfl
 | .lf t x,_=>(Jt G t x).symm
 | .nat _,_=>rfl
 | .ptr l o,h=>by simp only[fu,av,ren,hl.eq l h]
 | .mapr l,h=>by simp only[fu,av,ren,hl.eq l h]
 | .ap l _ _ _,h=>by simp only[fu,av,ren,hl.eq l h]
 | .own l,h=>hl.own l h
 | .psl l z c,h=>by
  cases c with
  |none=>exact hl.psl l z h
  |some k=>simp only[fu,av,ren,hl.eq l h]
 | .eptr cs,h=>by simp only[fu,av,ren,abM hl cs h]
 | .agg cs,h=>by simp only[fu,av,ren,abM hl cs h]
 | .tup cs,h=>by simp only[fu,av,ren,akJ hl cs h]
 | .func f cs,h=>by simp only[fu,av,ren,akJ hl cs h]
theorem abM(hl:Lks g G A Hc Hk):∀vs,nP A vs=true→aX Hc (Cg g vs)=dL G (aX Hk vs)
 |[],_=>rfl
 |v::vs,h=>by
  simp only[nP,qAb]at h;have h1:=Ph hl v h.1;simp only[Cg,aX,aBi,abM hl vs h.2];congr 1;rcases qY v with ho|⟨e,x,rfl⟩
  ·have ho':one (fu g v):=WE fun e x q=>by
    rw[auv q]at ho;have:=vv ho;simp only[Rf]at this;cases e<;>cases this
   rw[ho,ho',h1];rfl
  ·exact(ZA e G x).symm
theorem akJ(hl:Lks g G A Hc Hk):∀vs,nP A vs=true→aT Hc (Cg g vs)=dL G (aT Hk vs)
 |[],_=>rfl
 |v::vs,h=>by
  simp only[nP,qAb]at h;simp only[Cg,aT,dL,Ph hl v h.1,akJ hl vs h.2]
end
theorem vL{H vs}:aX H vs=(aG vs).map (av H):=(afd H vs).symm
theorem aCF(l:Lks g G A Hc Hk){cs}(h:rfC A cs):aX Hc (cs.map (fu g))=dL G (aX Hk cs):=by rw[vL,vL,Wz,qBl,sU,qBl];exact qBq λv a=>Ph l v (h v a)
theorem atq(l:Lks g G A Hc Hk){o}(h:rfO A o):fJ Hc (jE g o)=dR G (fJ Hk o):=by
 cases o with|box c=>simp only[jE,fJ,dR,aCF l (h c rfl)]|mp e x=>simp only[jE,fJ,dR,NW]|arr e x=>simp only[jE,fJ,dR,mg]|_=>rfl
theorem azr{g G j} o (h:G j=g j):fA (g j) (jE g o)=ren G (fA j o)/\∀z,dU (g j) z (jE g o)=ren G (dU j z o):=by cases o<;>refine⟨?_,λz=>?_⟩<;>simp only[jE,fA,dU,ren,pK,mg,h]
end
def tgt:TWr->Option Nat| .sl _ _=>none| .ob l _=>some l| .st l _ _=>some l| .kill l=>some l| .nw l _=>some l| .up l _ _ _=>some l
theorem TM{s s'}{w}(h:W1 s w s')(hs:tgt w≠none):s'.t=s.t/\s'.h.length=s.h.length:=by
 cases w with
 |sl n v=>exact(hs rfl).elim|ob l o=>obtain⟨_,_,rfl⟩:=h;exact⟨rfl,by simp⟩|st l f a=>obtain⟨b,c,_,_,rfl⟩:=h;exact⟨rfl,by simp⟩|kill l=>rcases h with⟨e,x,_,rfl⟩|⟨e,x,_,rfl⟩|⟨_,rfl⟩<;>exact⟨rfl,by simp⟩
 |nw l o=>obtain⟨_,_,rfl⟩:=h;exact⟨rfl,by simp⟩|up l i e y=>obtain⟨_,_,rfl⟩:=h;exact⟨rfl,by simp⟩
theorem apE{s s'}{w}(h:W1 s w s'):s'.t.length=s.t.length/\s'.h.length=s.h.length:=by
 cases w with|sl n v=>obtain⟨_,e⟩:=h;subst e;exact⟨by simp,rfl⟩|ob l o=>have:=TM h (by simp[tgt]);exact⟨by rw[this.1],this.2⟩|st l f a=>have:=TM h (by simp[tgt]);exact⟨by rw[this.1],this.2⟩|kill l=>have:=TM h (by simp[tgt]);exact⟨by rw[this.1],this.2⟩|nw l o=>have:=TM h (by simp[tgt]);exact⟨by rw[this.1],this.2⟩|up l i e y=>have:=TM h (by simp[tgt]);exact⟨by rw[this.1],this.2⟩
theorem Tn{s s'}{ws}(h:Ws s ws s'):s'.t.length=s.t.length/\s'.h.length=s.h.length:=by
 induction h with|nil s=>exact⟨rfl,rfl⟩|cons h _ i=>exact⟨i.1.trans (apE h).1,i.2.trans (apE h).2⟩
theorem aza{s d}{a c}(h:Ws s (a++c) d):∃b,Ws s a b/\Ws b c d:=by
 induction a generalizing s with|nil=>exact⟨s,.nil s,h⟩|cons w a i=>
  cases h with|cons e f=>obtain⟨b,g,j⟩:=i f;exact⟨b,.cons e g,j⟩
theorem aq7{s s'}{w}(h:W1 s w s'){l}(a:tgt w≠some l):nth .dead s'.h l=nth .dead s.h l:=by
 cases w with
 |sl n v=>obtain⟨_,e⟩:=h;subst e;rfl|ob m o=>obtain⟨_,_,rfl⟩:=h;exact aU λe=>a (congrArg some e)|st m f b=>obtain⟨d,c,_,_,rfl⟩:=h;exact aU λe=>a (congrArg some e)|kill m=>rcases h with⟨e,x,_,rfl⟩|⟨e,x,_,rfl⟩|⟨_,rfl⟩<;>exact aU λe=>a (congrArg some e)
 |nw m o=>obtain⟨_,_,rfl⟩:=h;exact aU λe=>a (congrArg some e)|up m i e y=>obtain⟨_,_,rfl⟩:=h;exact aU λe=>a (congrArg some e)
theorem WQ{H H' t}(hs:WM H H' t){l cs}(h:nth .dead H l=.box cs):∀v∈aG cs,av H v=av H' v:=by
 have:=hs.2 l cs h;rw[vL,vL]at this
 simp_all
theorem aAN{H H'}{t}(hs:WM H H' t) l:fJ H (nth .dead H l)=fJ H' (nth .dead H l):=by
 cases h:nth .dead H l with|box c=>simp only[fJ];rw[hs.2 l c h]|_=>rfl
theorem aAK{H H' t}(hs:WM H H' t):aT H t=aT H' t:=apz hs.1
theorem Uq{s s'}{ws}(h:Ws s ws s'):∀l,(∀w∈ws,tgt w≠some l)->nth .dead s'.h l=nth .dead s.h l/\fJ s'.h (nth .dead s.h l)=fJ s.h (nth .dead s.h l):=by
 induction h with|nil s=>intro l _;exact⟨rfl,rfl⟩|cons h _ i=>intro l a;have c:=aq7 h (a _ (by simp));obtain⟨g,b⟩:=i l λw d=>a w (by simp[d]);rw[c]at g b;exact⟨g,b.trans (aAN (Ji h).1 l).symm⟩
theorem apR{s s'}{ws}(h:Ws s ws s'):(∀w∈ws,tgt w≠none)->s'.t=s.t/\aT s'.h s'.t=aT s.h s.t:=by
 induction h with|nil s=>intro _;exact⟨rfl,rfl⟩|cons h _ i=>intro a;obtain⟨g,b⟩:=i λw m=>a w (by simp[m]);have:=TM h (a _ (by simp));refine⟨g.trans this.1,b.trans ?_⟩;rw[this.1,aAK (Ji h).1]
def hits(l q:Nat):TWr->Prop| .st a o v=>a=l/\o<=q/\q<o+widths v| .ob a _=>a=l| .kill a=>a=l|_=>False
theorem aDp{s s'}{w}(h:W1 s w s'){l q:Nat}{cs:List TV}{v:TV}(b:nth .dead s.h l=.box cs)(k:(aG cs)[q]? =some v)(j:¬hits l q w):
  ∃c,nth .dead s'.h l=.box c/\(aG c).length=(aG cs).length/\(aG c)[q]? =some v/\av s'.h v=av s.h v:=by
 have f:av s'.h v=av s.h v:=(WQ (Ji h).1 b v (qAG k)).symm;by_cases d:tgt w=some l;·cases w with
  |sl n x=>cases d|ob m o=>cases d;exact(j rfl).elim|st m g p=>
   cases d;obtain⟨r,c,a,z,rfl⟩:=h;rw[b]at a;cases a;obtain⟨A,B⟩:=Jo z;have t:l<s.h.length:=by apply qAp;intro C;rw[kQ (by omega)]at b;cases b
   refine⟨c,bM t,by rw[A];simp;omega,?_,f⟩;have u:¬(g<=q/\q<g+(aG p).length):=λhc=>j ⟨rfl,by rw[<-nS];exact hc⟩
   grind
  |kill m=>cases d;exact(j rfl).elim|nw m o=>cases d;obtain⟨a,_⟩:=h;rw[b]at a;cases a
  |up m i e y=>cases d;obtain⟨_,a,_⟩:=h;rw[b]at a;cases a
 exact⟨cs,by rw[aq7 h d];exact b,rfl,k,f⟩
theorem auG{s s'}{ws}(h:Ws s ws s'):∀{l q:Nat} {a:List TV} {v:TV},nth .dead s.h l=.box a->(aG a)[q]? =some v->(∀w∈ws,¬hits l q w)->
  ∃c,nth .dead s'.h l=.box c/\(aG c).length=(aG a).length/\(aG c)[q]? =some v/\av s'.h v=av s.h v:=by
 induction h with|nil s=>intro l q a v b d _;exact⟨a,b,rfl,d,rfl⟩|cons h _ i=>
  intro l q a v b d e;obtain⟨f,g,j,k,m⟩:=aDp h b d (e _ (by simp))
  grind
section
variable {γ:Type}{b:γ}
theorem ax2{l}{A}:∀k K,wrB l A k K=some b->∃ws,K ws=some b/\(∀w∈ws,∃p c,p∈k/\w=.st l p.1 c)/\
  ∀s s' d,Ws s ws s'->nth .dead s.h l=.box d->∃f,nth .dead s'.h l=.box f/\(aG f).length=(aG d).length/\∀q,(pU k q=true->q<(aG d).length->(aG f)[q]? =(aG A)[q]?)/\(pU k q=false->(aG f)[q]? =(aG d)[q]?/\∀v,(aG d)[q]? =some v->av s'.h v=av s.h v)
 |[],K,h=>⟨[],h,λw i=>(by cases i),λs s' d i j=>by cases i;exact⟨d,j,rfl,λq=>⟨λh=>(by cases h),λ_=>⟨rfl,λ_ _=>rfl⟩⟩⟩⟩
 |p::m,K,h=>by
  simp only[wrB]at h;obtain⟨a,r,I,T,h⟩:=BO _ _ _ _ h;obtain⟨c,U,J,V,h⟩:=BO _ _ _ _ h;obtain⟨ws,L,W,M⟩:=ax2 m _ h;refine⟨_,L,λw i=>?_,λs s' d i j=>?_⟩
  ·rcases qAh.1 i with rfl|i
   ·grind
   simp_all
  cases i with|@cons _ B _ _ _ C N=>
   have o:=C;obtain⟨D,f,E,O,e⟩:=C;rw[j]at E;cases E;obtain⟨u,X⟩:=Jo O;have t:l<s.h.length:=by apply qAp;intro Y;rw[kQ (by omega)]at j;cases j
   have x:nth .dead B.h l=.box f:=by rw[e];exact bM t
   have y:(aG f).length=(aG d).length:=by rw[u];simp only[qAf,qAB,qCG];omega
   obtain⟨z,P,Q,n⟩:=M B s' f N x;refine⟨z,P,Q.trans y,λq=>⟨λhq R=>?_,λhq=>?_⟩⟩;·cases g:pU m q with|true=>exact(n q).1 g (by omega)|false=>have S:=(yS.1 hq).resolve_right (by rw[g];simp);rw[((n q).2 g).1,u,I,J];rw[qAm,qAk (by simp only[qAB];omega),qAi (by simp only[qAB];omega)];rw[qAk (by omega),qAi (by omega)];congr 1;simp only[qAB];omega
   have g:pU m q=false:=by
    cases g:pU m q with|false=>rfl|true=>rw[yS.2 (.inr g)]at hq;cases hq
   have F:¬(p.1<=q/\q<p.1+wE p.2):=λhh=>by rw[yS.2 (.inl hh)]at hq;cases hq
   have G:(aG f)[q]? =(aG d)[q]?:=by
    rw[u];by_cases t:q<p.1;·rw[qAm,qAi (by simp only[qAB];omega),qBt,if_pos t]
    rw[qAk (by simp only[qAf,qAB];omega),qCh];congr 1;simp only[qAf,qAB];omega
   refine⟨((n q).2 g).1.trans G,λv H=>?_⟩;rw[((n q).2 g).2 v (by rw[G];exact H)];exact(WQ (Ji o).1 j v (qAG H)).symm
end
end
section
open Go
theorem abJ{f}:∀n i,(Ko f i n).length<=n
 |0,_=>by simp[Ko]|n+1,i=>by
  simp only[Ko];split;·simp;have:=abJ (f:=f) n (i+1);omega
  have:=abJ (f:=f) n (i+1);omega
theorem al0{f}:∀n i,(Ko f i n).length=n->∀j,j<n->f (i+j)=(Ko f i n)[j]?
 |0,_,_,j,b=>by omega|n+1,i,h,j,b=>by
  simp only[Ko]at h|-;split at h
  ·rename_i l a;cases j with|zero=>simpa using a|succ j=>
    simp at h;have:=al0 (f:=f) n (i+1) (by omega) j (by omega)
    grind
  rename_i a;have:=abJ (f:=f) n (i+1);omega
theorem ati:∀c k,(rng k c).length=c|0,_=>rfl|c+1,k=>by simp only[rng,qAo,ati c]
theorem auy:∀c k i,i<c->(rng k c)[i]? =some (k+i)|0,_,_,h=>by omega|c+1,k,0,_=>rfl|c+1,k,i+1,h=>by simp only[rng,qBs];rw[auy c (k+1) i (by omega)];congr 1;omega
theorem amv:∀c k,(rng k c).Nodup|0,_=>by simp[rng]|c+1,k=>by simp only[rng,qBX,FU];exact⟨by omega,amv c (k+1)⟩
theorem alj:∀{l:List Nat},nodupB l=true->l.Nodup
 |[],_=>by simp|x::s,h=>by
  simp only[nodupB]at h;rw[qBX];cases m:mem s x with|true=>rw[m]at h;cases h|false=>rw[m]at h;exact⟨zw.1 m,alj h⟩
theorem akt{H}:∀n k,arf H k n=true->∀l∈rng k n,lM (nth .dead H l)=true
 |0,_,_,l,a=>by cases a|n+1,k,h,l,a=>by
  simp only[arf,qAb]at h;simp only[rng,qAh]at a;rcases a with rfl|a
  ·exact h.1
  exact akt n (k+1) h.2 l a
theorem xu{L i l}(h:L[i]? =some l):kL L i=l:=by unfold kL;rw[iK,List.getD,h];rfl
theorem axN{L i l b}(h:L[i]? =some l):nm L b i=l:=by unfold nm;rw[h];rfl
structure Wro(ρ:List Nat)(h:List TObj)(k j:Nat)(es:List Ed)(s s':DS):Prop where
 obj:∀l hd,Ed.o l hd∈es→match hd with
  | .dead=>(∃e xs,nth .dead s.h (kL ρ l)=.own e xs∧nth .dead s'.h (kL ρ l)=.gone e xs)∨(∃e xs,nth .dead s.h (kL ρ l)=.arr e xs∧nth .dead s'.h (kL ρ l)=.gon xs.length)∨nth .dead s'.h (kL ρ l)=.dead
  | .bx is=>∀cs0,nth .dead s.h (kL ρ l)=.box cs0→∃cs1 cf,nth .dead s'.h (kL ρ l)=.box cs1∧nth .dead h l=.box cf∧(aG cs1).length=(aG cs0).length∧
    ∀q,(pU is q=true→q<(aG cs0).length→(aG cs1)[q]? =(aG cf)[q]?)∧(pU is q=false→(aG cs1)[q]? =(aG cs0)[q]?∧∀v,(aG cs0)[q]? =some v→av s'.h v=av s.h v)
  |_=>plainO (nth .dead h l)=true∧plainO (nth .dead s.h (kL ρ l))=true∧nth .dead s'.h (kL ρ l)=nth .dead h l
 new:∀i,i<aC es→nth .dead s'.h (k+i)=nth .dead h (j+i)
section
variable {γ:Type}{b:γ}
theorem aaU{l}{H:List TObj}(h:nth .dead H l≠ .dead):l<H.length:=by apply qAp;exact λn=>h (kQ (by omega))
theorem ahV{ρ}{h}{n}(T:ρ.Nodup)(N:ρ.length=n):∀(es:List Ed) (k j:Nat) (ss os:List Nat) (K:List TWr->Option γ),eT n ss os es=true->(∀p∈ρ,p<k∨k+aC es<=p)->IK ρ h k j es K=some b->
  ∃ws,K ws=some b/\(∀w∈ws,∃p,tgt w=some p/\((∃l t,Ed.o l t∈es/\p=kL ρ l)∨(k<=p/\p<k+aC es)))/\∀s s',(∀p∈ρ,p<s.h.length)->Ws s ws s'->Wro ρ h k j es s s'
 |[],k,j,ss,os,K,u,t,a=>⟨[],a,λw u=>(by cases u),λs s' _ _=>⟨λl t m=>(by cases m),λi O=>by simp[aC]at O⟩⟩| .r c sk::es,k,j,ss,os,K,u,t,a=>by simp only[eT,qAb]at u;simp only[IK]at a;obtain⟨ws,h1,U,h3⟩:=ahV T N es k j _ _ K u.2 t a;refine⟨ws,h1,λw m=>?_,λs s' r g=>⟨λl t m=>(h3 s s' r g).obj l t (by simpa using m),(h3 s s' r g).new⟩⟩;obtain⟨p,f,C⟩:=U w m;exact⟨p,f,C.imp (λ⟨l,t,H,I⟩=>⟨l,t,qAl _ H,I⟩) id⟩
 | .w x::es,k,j,ss,os,K,u,t,a=>by
  simp only[eT]at u;simp only[IK]at a;obtain⟨ws,h1,U,h3⟩:=ahV T N es (k+1) (j+1) _ _ _ u (λp hp=>by have:=t p hp;simp only[aC]at this;omega) a;have V:∀w∈ws,tgt w≠some k:=λw m e=>by
   obtain⟨p,f,C⟩:=U w m;rw[e]at f;cases f;rcases C with⟨l,d,H,I⟩|⟨H,I⟩
   ·have hl:=nR u H;have:ρ[l]? =some (ρ[l]'(by omega)):=qAc _;rw[xu this]at I;have:=t _ (qAN (by omega:l<ρ.length));simp only[aC]at this;omega
   omega
  refine⟨_,h1,λw m=>?_,λs s' r g=>?_⟩
  ·rcases qAh.1 m with rfl|m
   ·exact⟨k,rfl,.inr ⟨qAd _,by simp only[aC];omega⟩⟩
   obtain⟨p,f,C⟩:=U w m;exact⟨p,f,C.imp (λ⟨l,t,H,I⟩=>⟨l,t,qAl _ H,I⟩) λ⟨H,I⟩=>by simp only[aC];omega⟩
  cases g with|@cons _ B _ _ _ J S=>
   have w3:=h3 B s' (λp hp=>by rw[(apE J).2];exact r p hp) S;have g1':=J;obtain⟨D,r2,r3⟩:=J;have hk1:nth .dead B.h k=nth .dead h j:=by rw[r3];refine bM ?_;apply qAp;intro hn;rw[kQ (by omega)]at D;cases D
   have oth:∀l d,Ed.o l d∈es->kL ρ l≠k:=λl d m e=>by have hl:=nR u m;have:ρ[l]? =some (ρ[l]'(by omega)):=qAc _;rw[xu this]at e;have:=t _ (qAN (by omega:l<ρ.length));simp only[aC]at this;omega
   refine⟨λl d m=>?_,λi O=>?_⟩
   ·have m:Ed.o l d∈es:=by simpa using m
    have G:=oth l d m;have f:nth .dead B.h (kL ρ l)=nth .dead s.h (kL ρ l):=aq7 g1' (by simp only[tgt];exact λe=>G (Option.some.inj e).symm);have:=w3.obj l d m;cases d with
    |bx L=>intro E W;obtain⟨F,cf,m2,m3,m4,M⟩:=this E (by rw[f];exact W);refine⟨F,cf,m2,m3,m4,λq=>⟨(M q).1,λhq=>⟨((M q).2 hq).1,λv hv=>(((M q).2 hq).2 v hv).trans ?_⟩⟩⟩;exact(WQ (Ji g1').1 W v (qAG hv)).symm
    |dead=>simp only[f]at this;exact this|box cs=>simp only[f]at this;exact this|own e=>simp only[f]at this;exact this|mp e=>simp only[f]at this;exact this|arr e=>simp only[f]at this;exact this
   cases i with|zero=>rw[qAP,qAP,(Uq S k V).1];exact hk1|succ i=>have:=w3.new i (by simp only[aC]at O;omega);rwa[show k+1+i=k+(i+1)from by omega,show j+1+i=j+(i+1)from by omega]at this
 | .o y x::es,k,j,ss,os,K,u,t,a=>by
  simp only[eT,qAb,qAS,zw]at u;have hl0:y<n:=qAe u.1;have P:ρ[y]? =some (kL ρ y):=by have:ρ[y]? =some (ρ[y]'(by omega)):=qAc _;rw[xu this];exact this
  have Q:∀l d,Ed.o l d∈es->kL ρ l≠kL ρ y:=λl d m e=>by
   have hl:=nR u.2.2 m;have tY:ρ[l]? =some (kL ρ l):=by have:ρ[l]? =some (ρ[l]'(by omega)):=qAc _;rw[xu this];exact this
   have:l=y:=(qCo (by omega) T).1 (tY.trans (by rw[e];exact P.symm));subst this;exact GH u.2.2 (by simp) m
  -- the first writes, then the rest
  have z:∀(w0:List TWr) (K':List TWr->Option γ),(∀ws,K' ws=K (w0++ws))->IK ρ h k j es K'=some b->(∀w∈w0,tgt w=some (kL ρ y))->
    (∀s B,(∀p∈ρ,p<s.h.length)->Ws s w0 B->Wro ρ h k j [.o y x] s B)->∃ws,K ws=some b/\(∀w∈ws,∃p,tgt w=some p/\((∃l t,Ed.o l t∈(.o y x::es)/\p=kL ρ l)∨(k<=p/\p<k+aC (.o y x::es))))/\∀s s',(∀p∈ρ,p<s.h.length)->Ws s ws s'->Wro ρ h k j (.o y x::es) s s':=λw0 K' hK a ht hw0=>by
   obtain⟨ws,h1,U,h3⟩:=ahV T N es k j _ _ K' u.2.2 t a;refine⟨w0++ws,by rw[<-hK];exact h1,λw m=>?_,λs s' r g=>?_⟩
   ·rcases qAn.1 m with m|m
    ·exact⟨_,ht w m,.inl ⟨y,x,by simp,rfl⟩⟩
    obtain⟨p,f,C⟩:=U w m;exact⟨p,f,C.imp (λ⟨l,t,H,I⟩=>⟨l,t,qAl _ H,I⟩) id⟩
   obtain⟨B,J,S⟩:=aza g;have w3:=h3 B s' (λp hp=>by rw[(Tn J).2];exact r p hp) S;have wf:=hw0 s B r J;have V:∀w∈ws,tgt w≠some (kL ρ y):=λw m e=>by
    obtain⟨p,f,C⟩:=U w m;rw[e]at f;cases f;rcases C with⟨l,d,H,I⟩|⟨H,I⟩
    ·exact Q l d H I.symm
    have:=t _ (qAG P);simp only[aC]at this;omega
   have A:=(Uq S (kL ρ y) V).1;refine⟨λl d m=>?_,λi O=>w3.new i O⟩;rcases qAh.1 m with e|m
   ·injection e with f C;subst f;subst C;have:=wf.obj l d (by simp);cases d with
    |bx L=>
     intro E W;obtain⟨F,cf,m2,m3,m4,M⟩:=this E W;refine⟨F,cf,by rw[A];exact m2,m3,m4,λq=>⟨(M q).1,λhq=>⟨((M q).2 hq).1,λv hv=>?_⟩⟩⟩;obtain⟨_,_,_,_,r4⟩:=auG S m2 (((M q).2 hq).1.trans hv) λw m a=>by
      have:=V w m;cases w with
      |st l' off vs=>exact this (congrArg some a.1)|ob l' o=>exact this (congrArg some a)|kill l'=>exact this (congrArg some a)|_=>exact a
     exact r4.trans (((M q).2 hq).2 v hv)
    |dead=>simp only[A]at this|-;exact this
    |box cs=>simp only[A]at this|-;exact this
    |own e=>simp only[A]at this|-;exact this
    |mp e=>simp only[A]at this|-;exact this
    |arr e=>simp only[A]at this|-;exact this
   have G:=Q l d m;have f:nth .dead B.h (kL ρ l)=nth .dead s.h (kL ρ l):=(Uq J (kL ρ l) λw m e=>G (by rw[ht w m]at e;exact(Option.some.inj e).symm)).1;have:=w3.obj l d m;cases d with
   |bx L=>
    intro E W;obtain⟨F,cf,m2,m3,m4,M⟩:=this E (by rw[f];exact W);refine⟨F,cf,m2,m3,m4,λq=>⟨(M q).1,λhq=>⟨((M q).2 hq).1,λv hv=>(((M q).2 hq).2 v hv).trans ?_⟩⟩⟩;obtain⟨_,_,_,_,r4⟩:=auG J W hv λw m a=>by
     have u:=ht w m;cases w with
     |st l' off vs=>exact G (by rw[<-a.1];exact Option.some.inj u)|ob l' o=>exact G (by rw[<-(show l'=kL ρ l from a)];exact Option.some.inj u)|kill l'=>exact G (by rw[<-(show l'=kL ρ l from a)];exact Option.some.inj u)|_=>exact a
    exact r4
   |dead=>simp only[f]at this;exact this|box cs=>simp only[f]at this;exact this|own e=>simp only[f]at this;exact this|mp e=>simp only[f]at this;exact this|arr e=>simp only[f]at this;exact this
  have ob1:(∀L,x≠ .bx L)->x≠ .dead->∀s B,(∀p∈ρ,p<s.h.length)->Ws s [.ob (kL ρ y) (nth .dead h y)] B->Wro ρ h k j [.o y x] s B:=λnb nd s B r g=>by
   cases g with|cons J S=>
    cases S;obtain⟨D,r2,r3⟩:=J;refine⟨λl d m=>?_,λi O=>by simp[aC]at O⟩;have e:=qBa.1 m;injection e with f C;subst f;subst C;have key:nth .dead B.h (kL ρ l)=nth .dead h l:=by rw[r3];exact bM (r _ (qAG P))
    cases d with|bx L=>exact(nb L rfl).elim|dead=>exact(nd rfl).elim|box cs=>exact⟨D,r2,key⟩|own e=>exact⟨D,r2,key⟩|mp e=>exact⟨D,r2,key⟩|arr e=>exact⟨D,r2,key⟩
  have R:∀w:TWr,tgt w=some (kL ρ y)->∀w'∈[w],tgt w'=some (kL ρ y):=λw u w' m=>by rw[qBa]at m;subst m;exact u
  cases x with
  |dead=>
   simp only[IK]at a;refine z [.kill (kL ρ y)] _ (λ_=>rfl) a (R _ rfl) λs B r g=>⟨λl d m=>?_,λi O=>by simp[aC]at O⟩;have e:=qBa.1 m;injection e with f C;subst f;subst C;cases g with
   |cons J S=>
    cases S;rcases J with⟨e,xs,D,rfl⟩|⟨e,xs,D,rfl⟩|⟨⟨cs,D⟩|⟨e,xs,D⟩,rfl⟩
    ·exact .inl ⟨e,xs,D,bM (aaU (by rw[D];exact λh=>by cases h))⟩
    ·exact .inr (.inl ⟨e,xs,D,bM (aaU (by rw[D];exact λh=>by cases h))⟩)
    ·exact .inr (.inr (bM (aaU (by rw[D];exact λh=>by cases h))))
    exact .inr (.inr (bM (aaU (by rw[D];exact λh=>by cases h))))
  |bx L=>
   simp only[IK]at a;split at a
   ·rename_i cf hcf;obtain⟨w0,h1,U,h3⟩:=ax2 L _ a;refine z w0 _ (λ_=>rfl) h1 (λw m=>?_) λs B r g=>⟨λl d m=>?_,λi O=>by simp[aC]at O⟩
    ·obtain⟨p,c,_,rfl⟩:=U w m;rfl
    have e:=qBa.1 m;injection e with f C;subst f;subst C;intro E W;obtain⟨F,m2,m3,m4⟩:=h3 s B E g W;exact⟨F,cf,m2,hcf,m3,m4⟩
   cases a
  |box cs=>simp only[IK]at a;exact z _ _ (λ_=>rfl) a (R (.ob _ _) rfl) (ob1 (λis e=>by cases e) (λe=>by cases e))
  |own e=>simp only[IK]at a;exact z _ _ (λ_=>rfl) a (R (.ob _ _) rfl) (ob1 (λis e=>by cases e) (λe=>by cases e))
  |mp e=>simp only[IK]at a;exact z _ _ (λ_=>rfl) a (R (.ob _ _) rfl) (ob1 (λis e=>by cases e) (λe=>by cases e))
  |arr e=>simp only[IK]at a;exact z _ _ (λ_=>rfl) a (R (.ob _ _) rfl) (ob1 (λis e=>by cases e) (λe=>by cases e))
end
end
section
open Go
def OpX(P:Program)(o:Oper)v s s':=
 ∀C d a w,Sim C d s a w->∀next Q,(∀b c,Sim C b s' a c->Q (.panic [{v,recovered:=false}]) a c)->o.wp P a w next Q
def Cy(P)(f:Nat)(args:List AV)H(v)H':=
 ∀a k w (s:List Value),Entry a k H w->s.length=args.length->(∀j,j<args.length->Rel w a (aD k a H) (args.getD j .unk) (s.getD j undef))->
  Calls P f s.toArray w λe c=>∃b,e=.panicked [{v,recovered:=false}]/\Leave a b k H H' w c
theorem arh{P o s n args argTypes f}{c r:List AV}{ρ k:List Nat}{H H':List AObj}{v:Value}
  (z:o.op=.call {callee:=.value n,args,argTypes}) (A:bC s.tmps n=.func f c) (q:kE P f=true) (p:Passes s ρ k H) (B:H'.length=(ρ++k).length)
  (h:SWs (args.toList.map (bC s.tmps)++c) (r.map (ren (nm (ρ++k) s.heap.length)))) (D:Cy P f r H v H'):
  OpX P o v s (s.wr (kU (ρ++k) (H'.map (dR (nm (ρ++k) s.heap.length))))):=by
 intro C d a w g next Q M
 have i:=g.ev n;rw[A]at i;obtain⟨y,E,N,O⟩:=i.Jr
 let b:List Value:=args.toList.map a.eval++y
 have l:b.length=r.length:=by
  have:=h.len
  grind
 have u:(execOp a.eval o).run P w=.ok (.enter f b.toArray) w:=by
  have F:args.map a.eval++y.toArray=b.toArray:=by grind
  simp[execOp,z,resolve,E,Deferred.ofValue,invoke,BM q,F]
 have m:∀j,j<r.length->Rel w (ρ.map (at? d)) (aD (KZ C.ak d s.heap ρ) (ρ.map (at? d)) H) (r.getD j .unk) (b.getD j undef):=λj R=>by
  rw[Ra p];have G:(r.map (ren (nm (ρ++k) s.heap.length))).getD j .unk=ren (nm (ρ++k) s.heap.length) (r.getD j .unk):=by grind
  have:Rel w d (aD C.ak d s.heap) ((args.toList.map (bC s.tmps)++c).getD j .unk) (b.getD j undef):=by
   by_cases t:j<args.toList.length
   ·have I:(args.toList.map (bC s.tmps)++c).getD j .unk=bC s.tmps args.toList[j]:=by grind
    have J:b.getD j undef=a.eval args.toList[j]:=by simp only[b];rw[List.getD,qAi (by simpa using t),qAH,qAc t];rfl
    rw[I,J];exact g.ev _
   grind
  replace this:=(h.get j).rel this;rw[G]at this;exact this.AU (akB g p) _ rfl
 unfold Oper.wp;rw[u];refine(D _ _ _ b (ao6 g p) l m).mono ?_;rintro e S ⟨K,rfl,x⟩;obtain⟨L,T,_⟩:=g.back p x B (res:=.unk) (v:=undef) (.unk _)
 grind
end
section
open Go
def oO(v:Value):Exit:=.panic [{v,recovered:=false}]
theorem M9{P}{ops}{Q}{l1 l2}{op}{s s1 s'}{v}(h:ASteps P ops l1 s s1)(f:dY ops s1.tmps op=some true)(x:OpX P op v s1 s'):
  ∀C κ a w,Sim C κ s a w->(∀κ' e w',Sim C κ' s' e w'->Q (oO v) e w')->wpList P ops Q (l1++op::l2) a w:=by
 induction h with|nil s=>intro C κ a w b q;simp only[qAs,wpList];rw[lN b f];exact .inl (x C κ a w b _ _ λκ' w' c=>q κ' a w' c)|cons g _ i=>
  intro C κ a w b q;simp only[qAO,wpList];rcases g with⟨d,t⟩|⟨d,rfl⟩
  ·rw[lN b d];exact .inl (t C κ a w b _ _ λκ' e w' c=>i f x C κ' e w' c q)
  rw[lN b d];exact i f x C κ _ w (b.au _ kC) q
end
section
open Go
def BA(te:Nat)(e:Int):Value:=.iface te (.int .i64 e)
def PZ.pr{α ζ:Type}(f:α->Prop)(g:Int->ζ->Prop):PZ α ζ->Prop| .ok x=>f x| .er e z=>g e z
def RC{R:Type}:(p:Option (List Ed))->(R->Prop)->((e:List Ed)->Int->jr (bF e)->Prop)->RT p R->Prop|none,f,_=>f|some e,f,g=>PZ.pr f (g e)
def ah P te e:=kE P e.f=true/\M7 e=true/\∀x y,e.F x=some y->∀t h,dJ bI e.ps (eD _ x) (dn e.na) []=(t,h)->
 RC e.pe (λy=>∀r a,dJ bI e.rs (eD _ (e.out y)) (dn e.nr) h=(r,a)->cK P e.f (aT h t) (aA h) (av a (res1 r)) (aA a))
  (λeds v z=>∀r a,dJ bI eds (eD _ z) (dn 0) h=(r,a)->Cy P e.f (aT h t) (aA h) (BA te v) (aA a)) y
theorem RT.aGR{p}{R δ}{f}{g}{r}{b:δ}{a:R->Prop}{d}(h:RT.el p f g r=some b)(c:RC p a d r):
  (∃y,f y=some b/\a y)∨∃e v z,p=some e/\g e v z=some b/\d e v z:=by
 cases p with|none=>exact .inl ⟨r,h,c⟩|some e=>
  match r,h,c with|PZ.ok y,h,c=>exact .inl ⟨y,h,c⟩|PZ.er v z,h,c=>exact .inr ⟨e,v,z,rfl,h,c⟩
def aon(G:Nat->Nat):Nat->AV->AV->Prop|0,a,b=>b=ren G a|1,a,b=>SW b (ren G a)|_,_,_=>True
theorem rs0{G}{cs cs'}(h:Rs (aon G 0) cs cs'):cs'=dL G cs:=by
 induction h with|nil=>rfl|cons h _ i=>simp only[dL];rw[i];exact congrArg (·::_) h
theorem rs1{G}{cs cs'}(h:Rs (aon G 1) cs cs'):SWs cs' (dL G cs):=by
 induction h with|nil=>exact .nil|cons h _ i=>simp only[dL];exact .cons h i
theorem aDe{H Hk}{L}{G}(g:∀j l,L j=some l->G j=l)
  (k:∀j l,L j=some l->fA l (nth .dead H l)=ren G (fA j (nth .dead Hk j))/\∀z,dU l z (nth .dead H l)=ren G (dU j z (nth .dead Hk j))):Wk H Hk L (aon G):=by
 have e:∀m a b,b=ren G a->aon G m a b:=λm a b h=>by
  match m with
  |0=>exact h|1=>rw[h];exact .same _|_+2=>trivial
 refine⟨rfl,λm a=>?_,λm a b d i=>?_,λm j l o h=>e _ _ _ (by simp only[ren,g j l h]),λm j l h=>e _ _ _ (by simp only[ren,g j l h]),λm j l h=>e _ _ _ (k j l h).1,λm j h=>trivial,λm j l z h=>e _ _ _ ((k j l h).2 z),λm j z h=>trivial,
  λm s c h=>e _ _ _ (by rw[rs0 h];rfl),λm s c h=>?_,λm s c h=>trivial,λm s c h=>e _ _ _ (by rw[rs0 h];rfl),λm f s c h=>trivial,λm f s c h=>e _ _ _ (by rw[rs0 h];rfl)⟩
 ·match m with
  |0=>exact .unk _|_+1=>trivial
 ·generalize n:Nat.ble 1 m=q at i;cases i with
  |same=>exact e _ _ _ (d G).symm|share p t=>
   match m with
   |0=>cases n|1=>show SW _ _;rw[d G];exact .share p t|_+2=>trivial
  |nilF=>
   match m with|0=>cases n|1=>exact .nilF|_+2=>trivial
 match m with|0=>exact congrArg AV.agg (rs0 h)|1=>exact SW.agg' (rs1 h)|_+2=>trivial
theorem abh{o}{d}{u}{cs}(h:∀i,d≠ .bx i)(e:(bH bI o d u).1=.box cs):∃s,d=.box s/\cs=(fT bI s u).1:=by
 cases d with|dead=>cases e|box s=>exact⟨s,rfl,(TObj.box.inj e).symm⟩|bx i=>exact(h i rfl).elim|own a=>simp only[bH]at e;split at e<;>cases e|mp a=>simp only[bH]at e;split at e<;>cases e|arr a=>simp only[bH]at e;split at e<;>cases e
theorem akM{n}{r}{j}{d}(h:akg n r j d=true):d≠ .dead/\(∀i,d≠ .bx i)/\∀cs,d=.box cs->ze n [] cs=true:=by
 cases d with
 |dead=>cases h|bx i=>cases h|box cs=>
  simp only[akg]at h
  grind
 |own e=>exact⟨λe=>(by cases e),λis e=>(by cases e),λcs e=>by cases e⟩|mp e=>exact⟨λe=>(by cases e),λis e=>(by cases e),λcs e=>by cases e⟩|arr e=>exact⟨λe=>(by cases e),λis e=>(by cases e),λcs e=>by cases e⟩
theorem agD{n}{r}:∀{es:List Ed} {j:Nat},Pq n r j es=true->∀i,i<aC es->akg n r (j+i) (nth .dead (kinds es) i)=true
 |[],_,_,i,a=>by simp[aC]at a| .r k s::es,j,h,i,a=>by simp only[Pq,qAb]at h;exact agD h.2 i a
 | .o _ _::es,_,h,_,_=>by cases h| .w b::es,j,h,i,a=>by
  simp only[Pq,qAb]at h;cases i with|zero=>exact h.1|succ i=>have:=agD h.2 i (by simp only[aC]at a;omega);rw[show j+1+i=j+(i+1)from by omega]at this;exact this
theorem LH{n r}:∀{es:List Ed} {j:Nat},Pq n r j es=true->∀d,Ed.w d∈es->d≠ .dead/\(∀i,d≠ .bx i)/\∀cs,d=.box cs->ze n [] cs=true
 |[],_,_,d,h=>by cases h| .r k s::es,j,h,d,m=>by simp only[Pq,qAb]at h;exact LH h.2 d (by simpa using m)
 | .o _ _::es,_,h,d,m=>by cases h| .w a::es,j,h,d,m=>by
  simp only[Pq,qAb]at h;rcases qAh.1 m with e|m
  ·injection e with e;subst e;exact akM h.1
  exact LH h.2 d m
theorem VK{j d}:∀{es:List Ed},DJ j es=some d->Ed.o j d∈es
 |[],h=>by cases h| .r _ _::es,h=>qAl _ (VK (es:=es) h)| .w _::es,h=>qAl _ (VK (es:=es) h)| .o l a::es,h=>by
  simp only[DJ]at h;cases b:Nat.beq l j with
  |true=>simp_all
  |false=>rw[b]at h;exact qAl _ (VK h)
theorem ab4{n j d}:∀{es:List Ed} {s o:List Nat},eT n s o es=true->Ed.o j d∈es->DJ j es=some d
 |[],_,_,_,h=>by cases h| .r _ _::es,s,o,w,m=>by simp only[eT,qAb]at w;exact ab4 (es:=es) w.2 (by simpa using m)
 | .w _::es,s,o,w,m=>by exact ab4 (es:=es) w (by simpa using m)
 | .o l c::es,s,o,w,m=>by
  simp only[eT,qAb]at w;rcases qAh.1 m with e|m
  ·cases e;simp only[DJ,nJ,cond_true]
  have a:Nat.beq l j=false:=by
   cases b:Nat.beq l j with|false=>rfl|true=>have:=qAj b;subst this;exact(GH w.2.2 (by simp) m).elim
  simp only[DJ,a];exact ab4 w.2.2 m
theorem ak0{n ds A}(e:∀l,(Nat.blt l n&&!(mem ds l))=true->A l=true) is:∀b u rest off,u.map U.t=Sk.SL b++rest->ze n ds (awx is off b)=true->
  ∀q v,(aG (fT bI b u).1)[q]? =some v->pU is (off+q)=false->Iq A v=true
 |[],u,rest,off,_,_,q,v,a,_=>by cases q<;>cases a|s::b,u,rest,off,f,h,q,v,a,i=>by
  simp only[Sk.SL,qAm]at f;obtain⟨g,d⟩:=KP s u _ f;simp only[awx,ze,qAb]at h;simp only[fT,aG]at a;by_cases t:q<wE s
  ·rw[qAi (by rw[FB,d];exact t)]at a;have j:WZ n ds s=true:=by
    cases c:(Nat.beq (wE s) 1&&mem (is.flatMap λp=>rng (p.1+1) (wE p.2)) (off+1))with|false=>rw[c]at h;exact h.1|true=>
     simp only[qAb]at c;have g:=qAj c.1;have:q=0:=by omega
     have:pU is off=true:=c.2
     grind
   exact UA (cs:=[(dZ bI s u).1]) (by simp only[nP,qBE];exact U4 e s u j) v (by simp only[aG,qAt];exact qAG a)
  rw[qAk (by rw[FB,d];omega),FB,d]at a;exact ak0 e is b _ rest (off+wE s) g h.2 _ v a (by rw[show off+wE s+(q - wE s)=off+q from by omega];exact i)
theorem alu{n}{ds}{A}(o:∀l,(Nat.blt l n&&!(mem ds l))=true->A l=true):∀i c u rest,u.map U.t=(i.flatMap λp=>p.2.Mr)++rest->(i.all λp=>WZ n ds p.2)=true->
  (∀cs,c=some cs->∀q v,(aG cs)[q]? =some v->pU i q=false->Iq A v=true)->∀cs,(jv bI i c u).1=some cs->rfC A cs
 |[],c,u,rest,_,_,d,cs,h=>λv a=>by obtain⟨q,e⟩:=qAR a;exact d cs h q v e rfl
 |p::r,c,u,rest,w,s,d,cs,h=>by
  simp only[qBK,qAb]at s;simp only[qBh,qAm]at w;obtain⟨x,y⟩:=KP p.2 u _ w;refine alu o r _ _ rest x s.2 (λcs1 f q v a e=>?_) cs h;cases c with|none=>cases f|some g=>
   simp only[qAa]at f;obtain⟨j,B⟩:=Jo f;have k:(aG [(dZ bI p.2 u).1]).length=wE p.2:=by simp only[aG,qAt,FB,y]
   rw[k]at j B;by_cases m:p.1<=q/\q<p.1+wE p.2;·rw[j,qAm,qAk (by simp only[qAB];omega),qAi (by simp only[qAB];omega)]at a;exact UA (cs:=[(dZ bI p.2 u).1]) (by simp only[nP,qBE];exact U4 o p.2 u s.1) v (qAG a)
   refine d g rfl q v ?_ ?_
   ·rw[j]at a;by_cases t:q<p.1
    ·rw[qAm,qAi (by simp only[qAB];omega),qBt,if_pos t]at a;exact a
    rw[qAk (by simp only[qAf,qAB];omega),qCh]at a;rw[<-a];congr 1;simp only[qAf,qAB];omega
   cases b:pU (p::r) q with|false=>rfl|true=>
    rcases yS.1 b with b|b
    ·exact(m b).elim
    rw[e]at b;cases b
theorem ahH{n ds a}:∀{es:List Ed},Ad n ds a es=true->∀k s,Ed.r k s∈es->WZ n ds s=true
 |[],_,k,s,h=>by cases h| .r b c::es,h,k,s,m=>by
  simp only[Ad,qAb]at h;rcases qAh.1 m with e|m
  ·grind
  exact ahH h.2 k s m
 | .o _ _::es,h,k,s,m=>by simp only[Ad,qAb]at h;exact ahH h.2 k s (by simpa using m)
 | .w d::es,h,k,s,m=>by simp only[Ad,qAb]at h;exact ahH h.2 k s (by simpa using m)
theorem agM{n ds k}:∀{es:List Ed},Ad n ds k es=true->∀d,Ed.w d∈es->ai1 n ds d=true
 |[],_,d,h=>by cases h| .r a s::es,h,d,m=>by simp only[Ad,qAb]at h;exact agM h.2 d (by simpa using m)
 | .o _ _::es,h,d,m=>by simp only[Ad,qAb]at h;exact agM h.2 d (by simpa using m)
 | .w b::es,h,d,m=>by
  simp only[Ad,qAb]at h;rcases qAh.1 m with e|m
  ·grind
  exact agM h.2 d m
theorem Tq{n}{ds}{k}:∀{es:List Ed},Ad n ds k es=true->∀l d,Ed.o l d∈es->d=.dead∨ai1 n ds d=true/\ax3 (nth .dead k l)=true/\(∀e,d≠ .own e)/\(∀e,d≠ .arr e)/\∀i,d=.bx i->aFN (nth .dead k l)=true
 |[],_,l,d,h=>by cases h| .r f s::es,h,l,d,m=>by simp only[Ad,qAb]at h;exact Tq h.2 l d (by simpa using m)
 | .w b::es,h,l,d,m=>by simp only[Ad,qAb]at h;exact Tq h.2 l d (by simpa using m)
 | .o g b::es,h,l,d,m=>by
  simp only[Ad,qAb]at h;rcases qAh.1 m with e|m
  ·injection e with e1 e2;subst e1;subst e2;cases d with
   |dead=>exact .inl rfl|own e=>cases h.1|arr e=>cases h.1|box j=>have:=h.1;simp at this;exact .inr ⟨this.1,this.2,λe q=>(by cases q),λe q=>(by cases q),λis q=>(by cases q)⟩|bx i=>have:=h.1;simp at this;exact .inr ⟨this.1,(by have a:=this.2;cases c:nth HO.dead k l<;>rw[c]at a<;>first|rfl|cases a),λe q=>(by cases q),λe q=>(by cases q),λis q=>this.2⟩
   |mp e=>have:=h.1;simp at this;exact .inr ⟨this.1,this.2,λe q=>(by cases q),λe q=>(by cases q),λis q=>(by cases q)⟩
  exact Tq h.2 l d m
theorem ND{l}:∀{es:List Ed},Ed.o l .dead∈es->l∈killed es
 |[],h=>by cases h| .r k s::es,h=>ND (es:=es) (by simpa using h)| .w a::es,h=>ND (es:=es) (by simpa using h)| .o b a::es,h=>by
  simp only[killed,qAn];rcases qAh.1 h with e|h
  ·grind
  exact .inr (ND h)
mutual
theorem ai7{A:Nat→Bool}{l:Nat}:∀v:TV,aod l v=true→Iq A v=true→A l=true
 | .own l',h,k=>by have:=qAj h;subst this;exact k
 | .psl l' _ _,h,k=>by have:=qAj h;subst this;exact k
 | .eptr cs,h,k=>Og cs h k
 | .agg cs,h,k=>Og cs h k
 | .tup cs,h,k=>Og cs h k
 | .func _ cs,h,k=>Og cs h k
 | .unk,h,_=>by cases h
 | .nilp,h,_=>by cases h
 | .nilF,h,_=>by cases h
 | .nils,h,_=>by cases h
 | .lf _ _,h,_=>by cases h
 | .nat _,h,_=>by cases h
 | .ptr _ _,h,_=>by cases h
 | .mapr _,h,_=>by cases h
theorem Og{A:Nat→Bool}{l:Nat}:∀vs:List TV,kH l vs=true→nP A vs=true→A l=true
 |[],h,_=>by cases h
 |v::vs,h,k=>by
  simp only[kH,qBm]at h;simp only[nP,qAb]at k;exact h.elim (fun h=>ai7 v h k.1) fun h=>Og vs h k.2
end
end
end Abs
end Go.Proofs.YtneeginmfjageaaGreat
