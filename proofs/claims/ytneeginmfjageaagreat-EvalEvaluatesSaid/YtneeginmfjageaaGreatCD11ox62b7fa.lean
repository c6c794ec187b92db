/- Writes on typed states. Conditions: none. -/
import Derived.Test.YtneeginmfjageaaGreatCTabox527193
set_option linter.all false
namespace Go.Proofs.YtneeginmfjageaaGreat
namespace Abs
noncomputable section
def iX(s:DS):ASt:=⟨aU s.h s.t,aB s.h⟩
def Lk(H H':A0)(l:Nat):Prop:=gD l (nth .dead H l)=gD l (nth .dead H' l)/\∀z,eY l z (nth .dead H l)=eY l z (nth .dead H' l)
def o9(n:Nat):Nat.beq n n=true:=Nat.beq_refl n
mutual
theorem Wn{H H':A0}:∀v:TV,(∀l,apk l v=true→Lk H H' l)→av H v=av H' v
 | .own l,h=>by simp only[av];exact(h l (o9 l)).1
 | .psl l z c,h=>by
  cases c with
  |none=>simp only[av,(h l (o9 l)).2 z]
  |some n=>rfl
 | .eptr cs,h=>by simp only[av];rw[Dl cs h]
 | .agg cs,h=>by simp only[av];rw[Dl cs h]
 | .tup cs,h=>by simp only[av];rw[YP cs h]
 | .func f cs,h=>by simp only[av];rw[YP cs h]
 | .unk,_=>rfl| .nilp,_=>rfl| .nilF,_=>rfl| .nils,_=>rfl| .lf _ _,_=>rfl| .nat _,_=>rfl| .ptr _ _,_=>rfl| .mapr _,_=>rfl| .ap _ _ _ _,_=>rfl
theorem Dl{H H':A0}:∀vs:As,(∀l,lQ l vs=true→Lk H H' l)→bq H vs=bq H' vs
 |[],_=>rfl
 |v::vs,h=>by
  simp only[bq];rw[Wn v fun l hl=>h l (by simp only[lQ,hl,qCj]),Dl vs fun l hl=>h l (by simp only[lQ,hl,qDm])]
theorem YP{H H':A0}:∀vs:As,(∀l,lQ l vs=true→Lk H H' l)→aU H vs=aU H' vs
 |[],_=>rfl
 |v::vs,h=>by
  simp only[aU];rw[Wn v fun l hl=>h l (by simp only[lQ,hl,qCj]),YP vs fun l hl=>h l (by simp only[lQ,hl,qDm])]
end
def aBy{H H':A0}(o:TObj)(h:∀cs,o=.box cs->∀l,lQ l cs=true->Lk H H' l):gV H o=gV H' o:=by cases o with|box cs=>simp only[gV];rw[Dl cs (h cs rfl)]|_=>rfl
def aFO(H:A0)(l:Nat)(o:TObj)(m:Nat):nth .dead (H.set l o) m=if l=m/\l<H.length then o else nth .dead H m:=by
 by_cases h:l=m
 ·subst h;by_cases a:l<H.length
  ·rw[cK a,if_pos ⟨rfl,a⟩]
  rw[if_neg (λh=>a h.2),qBJ (qBd a)]
 rw[aX h,if_neg (λk=>h k.1)]
def QO{H:A0}{l:Nat}{o:TObj}(h:gD l (nth .dead H l)=gD l o/\∀z,eY l z (nth .dead H l)=eY l z o)(m:Nat):Lk H (H.set l o) m:=by
 unfold Lk;rw[aFO]
 grind
def acM{H:A0}{l:Nat}{o:TObj}{m:Nat}(h:l≠m):Lk H (H.set l o) m:=by unfold Lk;rw[aX h];exact⟨rfl,λ_=>rfl⟩
def DV{l:Nat}{o:TObj}(h:plainO o=true):gD l o=.unk/\∀z,eY l z o=.unk:=by cases o<;>first|exact⟨rfl,λ_=>rfl⟩|cases h
def asH{l:Nat}{o a:TObj}(h:plainO o=true)(b:plainO a=true):gD l o=gD l a/\∀z,eY l z o=eY l z a:=
 ⟨by rw[(DV h).1,(DV b).1],λz=>by rw[(DV h).2,(DV b).2]⟩
def Yb(H H':A0)(t:As):Prop:=(∀v∈t,av H v=av H' v)/\∀m,(∀c,nth .dead H m=.box c->bq H c=bq H' c)
def QL{H H':A0}(t:As)(h:∀m,Lk H H' m):Yb H H' t:=⟨λv _=>Wn v λl _=>h l,λm c _=>Dl c λl _=>h l⟩
def anG:∀{t:As} {l:Nat} {v:TV},v∈t->lQ l t=false->apk l v=false
 |x::t,l,v,hv,h=>by
  simp only[lQ,qBL]at h;rcases qAh.1 hv with rfl|hv
  ·exact h.1
  exact anG hv h.2
def ajy:∀{H:A0} {l m:Nat} {c:As},XA l H=false->nth .dead H m=.box c->lQ l c=false
 |[],l,m,c,_,h=>by cases h
 |o::H,l,m,c,h,a=>by
  simp only[XA,qBL]at h;cases m with
  |zero=>have e:o=.box c:=a;subst e;exact h.1
  |succ m=>exact ajy h.2 a
def aCB{H:A0}{t:As}{l:Nat}{o:TObj}(b:lQ l t=false)(h2:XA l H=false):Yb H (H.set l o) t:=by
 refine⟨λv c=>Wn v λm h=>acM λe=>?_,λm s d=>Dl s λq a=>acM λe=>?_⟩;·subst e;rw[anG c b]at h;cases h
 subst e;rw[ajy h2 d]at a;cases a
def arl{H H':A0}{t:As}(h:∀v∈t,av H v=av H' v):aU H t=aU H' t:=by rw[uM,uM];exact qBu h
def aB5{H:A0}{t:As}{l:Nat}{o:TObj}(h:Yb H (H.set l o) t):aB (H.set l o)=(aB H).set l (gV (H.set l o) o):=by
 have k:∀m,gV (H.set l o) (nth .dead H m)=gV H (nth .dead H m):=λm=>(by cases b:nth .dead H m with|box c=>simp only[gV,h.2 m c b]|_=>rfl)
 unfold aB;generalize a:H.set l o=d at k;rw[<-a,qCN,a];congr 1;apply qBU;intro m;simp;cases b:H[m]? with|none=>rfl|some x=>
  have:=k m;rw[jF,List.getD,b]at this
  grind
def ni{α β:Type}:∀(l:List α) (n:Nat) (v:α) (K:List α->β),Ar l n v K=K (l.set n v)|[],_,_,_=>rfl|_::_,0,_,_=>rfl|x::s,n+1,v,K=>(ni s n v λy=>K (x::y)).trans rfl
def auG{α a:Type}{b:a}:∀(l:List α) (n:Nat) (v:α) (K:List α->Option a),aDt l n v K=some b->n<l.length/\K (l.set n v)=some b
 |[],_,_,_,h=>by cases h
 |_::_,0,_,_,h=>⟨by simp,h⟩
 |x::s,n+1,v,K,h=>by
  let⟨c,d⟩:=auG s n v (λy=>K (x::y)) h
  grind
def aIE{a:Type}(v:TV)(K:TV->Option a):fV v K=K v:=by cases v<;>rfl
section
variable {γ:Type}{b:γ}
def W1(s:DS):TWr->DS->Prop
 | .sl n v,a=>n<s.t.length/\a=⟨s.t.set n v,s.h,n::s.d,s.o,s.up.filter λi=>!(Nat.beq i n),s.rl.filter λp=>!(Nat.beq p.1 n ||(Nat.beq p.2.1 n ||Nat.beq p.2.2 n)),s.cp.filter λp=>!(Nat.beq p.1 n ||Nat.beq p.2 n),s.oo⟩
 | .ob l o,a=>plainO o=true/\plainO (nth .dead s.h l)=true/\a={s with h:=s.h.set l o,o:=(l,0)::s.o}
 | .st l f d,a=>∃b c,nth .dead s.h l=.box b/\vS b f d some=some c/\a={s with h:=s.h.set l (.box c),o:=(rng (f+1) (widths d)).map (λq=>(l,q))++s.o}
 | .kill l,a=>(∃e x,nth .dead s.h l=.own e x/\a={s with h:=s.h.set l (.gone e x),o:=(l,0)::s.o})∨(∃e x,nth .dead s.h l=.arr e x/\a={s with h:=s.h.set l (.gon x.length),o:=(l,0)::s.o})∨(((∃b,nth .dead s.h l=.box b)∨∃e x,nth .dead s.h l=.mp e x)/\a={s with h:=s.h.set l .dead,o:=(l,0)::s.o})
 | .nw l o,a=>mh (nth .dead s.h l)=true/\(plainO o=true∨lQ l s.t=false/\XA l s.h=false)/\a={s with h:=s.h.set l o,o:=(l,0)::s.o}
 | .up l i e y,a=>∃x,nth .dead s.h l=.arr e x/\a={s with h:=s.h.set l (.arr e (upd x i y)),o:=(l,0)::s.o}
inductive Ws:DS→B3→DS→Prop where
 |nil (s:DS):Ws s [] s
 |cons {s s1 s2:DS} {w:TWr} {ws:B3}:W1 s w s1→Ws s1 ws s2→Ws s (w::ws) s2
def yT:∀(ws:B3) (s:DS) (K:DS->Option γ),F4 ws s K=some b->∃a,Ws s ws a/\K a=some b
 |[],s,K,h=>⟨s,.nil s,h⟩
 | .sl n v::ws,s,K,h=>by
  simp only[F4,aIE]at h;let⟨m,h⟩:=auG _ _ _ _ h;let⟨a,d,c⟩:=yT ws _ _ h;exact⟨a,(.cons (w:=.sl n v) (s1:=_) ⟨m,rfl⟩ d),c⟩
 | .ob l o::ws,s,K,h=>by
  simp only[F4,ni]at h;rcases bD h with⟨g,h⟩|⟨_,h⟩
  ·simp only[qAa]at g;let⟨a,d,c⟩:=yT ws _ _ h;exact⟨a,.cons ⟨g.1,g.2,rfl⟩ d,c⟩
  cases h
 | .st l p u::ws,s,K,h=>by
  simp only[F4]at h;split at h
  ·rename_i j f;let⟨k,d,c⟩:=am6 h;rw[ni]at c;let⟨a,r,t⟩:=yT ws _ _ c;exact⟨a,.cons ⟨j,k,f,d,rfl⟩ r,t⟩
  cases h
 | .kill l::ws,s,K,h=>by
  simp only[F4]at h;split at h
  ·rename_i e x f;rw[ni]at h;let⟨a,d,c⟩:=yT ws _ _ h;exact⟨a,.cons (.inl ⟨e,x,f,rfl⟩) d,c⟩
  ·rename_i e x f;rw[ni]at h;let⟨a,d,c⟩:=yT ws _ _ h;exact⟨a,.cons (.inr (.inl ⟨e,x,f,rfl⟩)) d,c⟩
  ·rename_i j f;rw[ni]at h;let⟨a,d,c⟩:=yT ws _ _ h;exact⟨a,.cons (.inr (.inr ⟨.inl ⟨j,f⟩,rfl⟩)) d,c⟩
  ·rename_i e x f;rw[ni]at h;let⟨a,d,c⟩:=yT ws _ _ h;exact⟨a,.cons (.inr (.inr ⟨.inr ⟨e,x,f⟩,rfl⟩)) d,c⟩
  cases h
 | .nw l o::ws,s,K,h=>by
  simp only[F4]at h;rcases bD h with⟨g,h⟩|⟨_,h⟩
  ·simp only[qAa,qBe,qAV,qBL]at g;rw[ni]at h;let⟨a,d,c⟩:=yT ws _ _ h;exact⟨a,.cons ⟨g.1,g.2,rfl⟩ d,c⟩
  cases h
 | .up l i e y::ws,s,K,h=>by
  simp only[F4]at h;split at h
  ·rename_i z x f;split at h
   ·rename_i q _;subst q;rw[ni]at h;let⟨a,d,c⟩:=yT ws _ _ h;exact⟨a,.cons ⟨x,f,rfl⟩ d,c⟩
   cases h
  cases h
def Lm{s s':DS}{w:TWr}(h:W1 s w s'):Yb s.h s'.h s.t/\s'.h=wrH s.h w:=by
 cases w with
 |sl n v=>let⟨_,b⟩:=h;subst b;exact⟨⟨λ_ _=>rfl,λ_ _ _=>rfl⟩,rfl⟩
 |ob l o=>
  obtain⟨a,b,rfl⟩:=h;exact⟨QL _ (QO (asH b a)),rfl⟩
 |st l f j=>
  obtain⟨c,d,a,b,rfl⟩:=h;refine⟨QL _ (QO ?_),?_⟩
  ·rw[a];exact⟨rfl,λ_=>rfl⟩
  ·simp only[wrH,a,b]
 |kill l=>
  rcases h with⟨e,x,a,rfl⟩|⟨e,x,a,rfl⟩|⟨⟨c,a⟩|⟨e,x,a⟩,rfl⟩<;>
  ·refine⟨QL _ (QO ?_),by simp only[wrH,a]⟩;rw[a];exact⟨rfl,λ_=>rfl⟩
 |nw l o=>
  obtain⟨a,b,rfl⟩:=h;refine⟨?_,rfl⟩;rcases b with b|⟨b,g⟩
  ·refine QL _ (QO ?_);have e:nth .dead s.h l=.res:=by unfold mh at a;split at a;assumption;cases a
   rw[e];exact⟨(DV b).1.symm,λz=>((DV b).2 z).symm⟩
  ·exact aCB b g
 |up l i e y=>
  obtain⟨x,a,rfl⟩:=h;refine⟨QL _ (QO ?_),?_⟩
  ·rw[a];exact⟨rfl,λ_=>by simp only[eY,upd,qAT]⟩
  ·simp only[wrH,a,ET.eq_self]
def aJQ{s s':DS}{w:TWr}(h:W1 s w s'):iX s'=(iX s).wr1 (GU s.h w):=by
 let⟨d,j⟩:=Lm h;have obj:∀l o,s'.t=s.t->s'.h=s.h.set l o->iX s'=(iX s).setObj l (gV (s.h.set l o) o):=λl o a b=>by
  unfold iX ASt.setObj;rw[a,b];rw[b]at d;rw[aB5 d,arl (λv f=>(d.1 v f).symm)]
 cases w with
 |sl n v=>
  let⟨_,b⟩:=h;subst b;unfold iX;simp only[uM,qCN];rfl
 |ob l o=>obtain⟨_,_,rfl⟩:=h;exact obj l o rfl rfl
 |st l g k=>
  obtain⟨p,c,a,b,rfl⟩:=h;rw[obj l (.box c) rfl rfl];have e:bq (s.h.set l (.box c)) c=bq s.h c:=(Dl c λm _=>QO (by rw[a];exact⟨rfl,λ_=>rfl⟩) m).symm;simp only[GU,a,gV,ASt.wr1,e,(auV s.h b).1]
 |kill l=>
  rcases h with⟨e,x,a,rfl⟩|⟨e,x,a,rfl⟩|⟨_,rfl⟩<;>exact obj l _ rfl rfl
 |nw l o=>obtain⟨_,_,rfl⟩:=h;exact obj l o rfl rfl
 |up l i e y=>
  obtain⟨x,a,rfl⟩:=h;rw[obj l _ rfl rfl];simp only[GU,a,ET.eq_self,gV,ASt.wr1]
def aDY{s s':DS}{ws:B3}(h:Ws s ws s'):iX s'=(iX s).wr (Cj s.h ws):=by induction h with|nil s=>rfl|cons h _ i=>rw[i,aJQ h];simp only[(Lm h).2];rfl
end
end
noncomputable section
def Mx:(e:ET)->e.D->As
 | .i,x=>[.lf (.n .i64) x]| .u,x=>[.lf (.n .u8) x]| .s,x=>[.lf .s x]| .b,x=>[.lf .b x]
 | .car,x=>[.lf .s x.name,.lf (.l .s) x.elems]
 | .dec,x=>[.lf .s x.name,.lf (.n .i64) x.ty.kind,.lf .s x.ty.name,.lf (.l .ty) x.ty.kids]
 | .ty,x=>[.lf (.n .i64) x.kind,.lf .s x.name,.lf (.l .ty) x.kids]
 | .tm,x=>[.lf (.n .i64) x.op,.lf .s x.name,.lf (.n .i64) x.n,.lf (.n .i64) x.ty.kind,.lf .s x.ty.name,.lf (.l .ty) x.ty.kids,.lf (.l .tm) x.kids]
 | .env,x=>[.lf (.l .car) x.carriers,.lf (.l .dec) x.names]
 | .val,x=>[.lf (.n .i64) x.kind,.lf (.n .i64) x.n,.lf .s x.name,.lf (.l .val) x.kids]
 | .bnd,x=>[.lf .s x.name,.lf (.n .i64) x.v.kind,.lf (.n .i64) x.v.n,.lf .s x.v.name,.lf (.l .val) x.v.kids]
 | .vals,x=>[.lf (.l .val) x]| .tms,x=>[.lf (.l .tm) x]
def Uv:TV->As| .lf (.t e) x=>Mx e x|v=>[v]
def aK:As->As|[]=>[]|v::s=>Uv v++aK s
def zI:∀a b:As,aK (a++b)=aK a++aK b|[],_=>rfl|v::a,b=>by simp only[qAM,aK,zI a b,qAm]
def am9:∀(e:ET) (x:e.D),(Mx e x).length=e.sz
 | .i,_=>rfl| .u,_=>rfl| .s,_=>rfl| .b,_=>rfl| .car,_=>rfl| .dec,_=>rfl| .ty,_=>rfl| .tm,_=>rfl| .env,_=>rfl| .val,_=>rfl| .bnd,_=>rfl| .vals,_=>rfl| .tms,_=>rfl
def Ik(v:TV):(Uv v).length=width v:=by
 rcases tC v with h|⟨e,x,rfl⟩
 ·cases v with
  |lf t x=>cases t<;>first|rfl|exact am9 _ _
  |_=>rfl
 exact am9 e x
def pO:∀vs,(aK vs).length=widths vs|[]=>rfl|v::vs=>by simp only[aK,qAe,Ik,pO vs,widths]
def wG{v:TV}(h:one v):Uv v=[v]:=by
 cases v with
 |lf t x=>cases t<;>first|rfl|(rename_i e;have:=h (.tup []);simp only[AB]at this;cases e<;>first|(simp only[ET.enc]at this;cases this;done)|(simp[ET.enc,lU,uU,iC]at this;done))
 |_=>rfl
def aA8(H:A0):∀(e:ET) (x:e.D),(Mx e x).map (av H)=e.enc x
 | .i,_=>rfl| .u,_=>rfl| .s,_=>rfl| .b,_=>rfl| .car,_=>rfl
 | .dec,x=>by have:=lU x.ty;simp only[ET.enc];rfl
 | .ty,x=>by simp only[ET.enc,lU];rfl
 | .tm,x=>by have:=lU x.ty;simp only[ET.enc,uU];rfl
 | .env,_=>rfl
 | .val,x=>by simp only[ET.enc,iC];rfl
 | .bnd,x=>by have:=iC x.v;simp only[ET.enc,this];rfl
 | .vals,_=>rfl| .tms,_=>rfl
def agr(H:A0):∀vs,(aK vs).map (av H)=bq H vs
 |[]=>rfl
 |v::vs=>by
  simp only[aK,qBj,agr H vs];congr 1;cases v with
  |lf t x=>cases t<;>first|rfl|exact aA8 H _ _
  |_=>rfl
theorem atY(e:ET)(x:e.D):aK (comps e x)=Mx e x:=by cases e<;>rfl
section
variable {γ:Type}{b:γ}
def CZ:∀(f:Nat) (cs:As) (n:Nat) (K:As->As->Option γ),splitK f cs n K=some b->∃a r,aK cs=aK a++aK r/\(aK a).length=n/\K a r=some b:=by
 intro f
 induction f with|zero=>intro cs n K h;cases h|succ f j=>
  intro cs n K h;unfold splitK at h;cases n with|zero=>exact⟨[],cs,rfl,rfl,h⟩|succ m=>
   cases cs with|nil=>cases h|cons c r=>
    rcases bD h with⟨w,h⟩|⟨_,h⟩
    ·let⟨a,d,g,k,i⟩:=j _ _ _ h;have w:=qAf w;refine⟨c::a,d,?_,?_,i⟩
     ·simp only[aK,g,qAm]
     simp only[aK,qAe,Ik];omega
    split at h;·rename_i e x;let⟨a,d,g,k,i⟩:=j _ _ _ h;refine⟨a,d,?_,k,i⟩;rw[<-g,zI,atY];rfl
    cases h
def KP{cs cs' vs:As}{off:Nat}(h:vS cs off vs some=some cs'):aK cs'=(aK cs).take off++aK vs++(aK cs).drop (off+(aK vs).length)/\off+(aK vs).length<=(aK cs).length:=by
 unfold vS at h;let⟨a,r,b,e,f⟩:=CZ _ _ _ _ h;let⟨c,g,d,i,j⟩:=CZ _ _ _ _ f;cases j;rw[<-pO vs]at i;have k:(aK cs).take off=aK a:=by rw[b,<-e,qDx]
 have l:(aK cs).drop (off+(aK vs).length)=aK g:=by rw[b,d,<-qAm,qDs (by simp only[qAe];omega)]
 refine⟨by rw[zI,zI,k,l,qAm],?_⟩;rw[b,d];simp only[qAe];omega
end
mutual
def fu(g:Nat→Nat):Sk→Bm→TV×Bm
 | .unk,us=>(.unk,us)
 | .nilp,us=>(.nilp,us)
 | .nilF,us=>(.nilF,us)
 | .k c,us=>(.lf c.t c.x,us)
 | .nils,us=>(.nils,us)
 | .lf _,us=>match us with
  |u::us=>(.lf u.t u.x,us)
  |[]=>(.unk,[])
 | .ptr l o,us=>(.ptr (g l) o,us)
 | .eptr cs,us=>(.eptr (iH g cs us).1,(iH g cs us).2)
 | .agg cs,us=>(.agg (iH g cs us).1,(iH g cs us).2)
 | .tup cs,us=>(.tup (iH g cs us).1,(iH g cs us).2)
 | .func f cs,us=>(.func f (iH g cs us).1,(iH g cs us).2)
 | .mapr l,us=>(.mapr (g l),us)
 | .own l,us=>(.own (g l),us)
 | .psl l z,us=>(.psl (g l) z none,us)
def iH(g:Nat→Nat):B9→Bm→As×Bm
 |[],us=>([],us)
 |s::ss,us=>((fu g s us).1::(iH g ss (fu g s us).2).1,(iH g ss (fu g s us).2).2)
end
section
variable {β:Type}(g:Nat→Nat)
mutual
theorem fill_eq:∀(s:Sk) (us:Bm) (K:TV→Bm→β),fill g s us K=K (fu g s us).1 (fu g s us).2
 | .unk,_,_=>rfl
 | .nilp,_,_=>rfl
 | .nilF,_,_=>rfl
 | .k _,_,_=>rfl
 | .nils,_,_=>rfl
 | .lf _,us,_=>by cases us<;>rfl
 | .ptr _ _,_,_=>rfl
 | .eptr cs,us,K=>by simp only[fill,fu,KY cs us]
 | .agg cs,us,K=>by simp only[fill,fu,KY cs us]
 | .tup cs,us,K=>by simp only[fill,fu,KY cs us]
 | .func _ cs,us,K=>by simp only[fill,fu,KY cs us]
 | .mapr _,_,_=>rfl
 | .own _,_,_=>rfl
 | .psl _ _,_,_=>rfl
theorem KY:∀(ss:B9) (us:Bm) (K:As→Bm→β),fills g ss us K=K (iH g ss us).1 (iH g ss us).2
 |[],_,_=>rfl
 |s::ss,us,K=>by simp only[fills,iH,fill_eq s us,KY ss]
end
end
def kD(g:Nat->Nat):List (Nat×Sk)->Option As->Bm->Option As×Bm|[],c,u=>(c,u)|p::s,c,u=>kD g s (c.bind λa=>vS a p.1 [(fu g p.2 u).1] some) (fu g p.2 u).2
def YB{β:Type}(g:Nat->Nat):∀(ps:List (Nat×Sk)) (c:Option As) (u:Bm) (K:Option As->Bm->β),Ze g ps c u K=K (kD g ps c u).1 (kD g ps c u).2
 |[],_,_,_=>rfl
 |p::ps,c,u,K=>by
  simp only[Ze,kD,fill_eq];cases c with
  |none=>exact YB g ps none _ K
  |some s=>
   simp only[qAb];split
   ·rename_i e;rw[e];exact YB g ps _ _ K
   rename_i e;rw[e];exact YB g ps _ _ K
def bR(g:Nat->Nat)(o:TObj):HO->Bm->TObj×Bm
 | .dead,us=>(.dead,us)
 | .box c,us=>(.box (iH g c us).1,(iH g c us).2)
 | .bx l,us=>match o with
  | .box c=>((match(kD g l (some c) us).1 with|some c=>.box c|none=>.dead),(kD g l (some c) us).2)
  |_=>(.dead,(kD g l none us).2)
 | .own _,us=>match us with
  |⟨.l e,x⟩::us=>(.own e x,us)
  |us=>(.dead,us)
 | .mp _,us=>match us with
  |⟨.m e,x⟩::us=>(.mp e x,us)
  |us=>(.dead,us)
 | .arr _,us=>match us with
  |⟨.l e,x⟩::us=>(.arr e x,us)
  |us=>(.dead,us)
def aqg{β:Type}(g:Nat->Nat)(o:TObj)(h:HO)(u:Bm)(K:TObj->Bm->β):UG g o h u K=K (bR g o h u).1 (bR g o h u).2:=by
 cases h with
 |dead=>rfl
 |box c=>simp only[UG,bR,KY]
 |bx l=>
  cases o<;>simp only[UG,bR,YB]
  grind
 |own e=>simp only[UG,bR];split<;>first|rfl|(rename_i h;split<;>first|rfl|(rename_i a;exact(h _ _ _ rfl).elim))
 |mp e=>simp only[UG,bR];split<;>first|rfl|(rename_i h;split<;>first|rfl|(rename_i a;exact(h _ _ _ rfl).elim))
 |arr e=>simp only[UG,bR];split<;>first|rfl|(rename_i h;split<;>first|rfl|(rename_i a;exact(h _ _ _ rfl).elim))
def dW(g:Nat->Nat):Be->Bm->As->A0->As×A0|[],_,t,h=>(t,h)| .r n s::e,u,t,h=>dW g e (fu g s u).2 (t.set n (fu g s u).1) h| .o l s::e,u,t,h=>dW g e (bR g (nth .dead h l) s u).2 t (h.set l (bR g (nth .dead h l) s u).1)| .w s::e,u,t,h=>dW g e (bR g .dead s u).2 t (h++[(bR g .dead s u).1])
def ap2{α β:Type}:∀(l:List α) (v:α) (K:List α->β),aDj l v K=K (l++[v])|[],_,_=>rfl|x::s,v,K=>(ap2 s v λy=>K (x::y)).trans rfl
def Ry{β:Type}(g:Nat->Nat):∀(es:Be) (u:Bm) (t:As) (h:A0) (K:As->A0->β),Qw g es u t h K=K (dW g es u t h).1 (dW g es u t h).2|[],_,_,_,_=>rfl| .r n s::es,u,t,h,K=>by simp only[Qw,dW,fill_eq,ni,Ry g es]| .o l s::es,u,t,h,K=>by simp only[Qw,dW,aqg,ni,Ry g es]| .w s::es,u,t,h,K=>by simp only[Qw,dW,aqg,ap2,Ry g es]
inductive Rs(R:AV→AV→Prop):An→An→Prop where
 |nil:Rs R [] []
 |cons {x y:AV} {xs ys:An}:R x y→Rs R xs ys→Rs R (x::xs) (y::ys)
def Rs.app{R:AV->AV->Prop}{a b c d:An}(h:Rs R a c)(k:Rs R b d):Rs R (a++b) (c++d):=by induction h with|nil=>exact k|cons h _ i=>exact .cons h i
def Rs.len{R:AV->AV->Prop}{a c:An}(h:Rs R a c):a.length=c.length:=by induction h with|nil=>rfl|cons _ _ i=>simp[i]
def Rs.get{R:AV->AV->Prop}{a c:An}(h:Rs R a c):∀j,j<a.length->R (a.getD j .unk) (c.getD j .unk):=by induction h with|nil=>intro j b;cases b|cons d _ i=>intro j b;cases j with|zero=>exact d|succ j=>exact i j (by simpa using b)
structure Wk(H Hf:A0)(L:Nat→Bx)(R:Nat→AV→AV→Prop):Prop where
 unk0:R 0 .unk .unk
 unk:∀m a,R (m+1) .unk a
 fix:∀m a a',(∀g,ren g a=a)→Cv (Nat.ble 1 m) a a'→R m a a'
 ptr:∀m j l o,L j=some l→R m (.ptr j o) (.ptr l o)
 mapr:∀m j l,L j=some l→R m (.mapr j) (.mapr l)
 own:∀m j l,L j=some l→R m (av Hf (.own j)) (av H (.own l))
 ownN:∀m j,L j=none→R (m+2) (av Hf (.own j)) (.slice [] .nils)
 psl:∀m j l z,L j=some l→R m (av Hf (.psl j z none)) (av H (.psl l z none))
 pslN:∀m j z,L j=none→R (m+2) (av Hf (.psl j z none)) (.slice [] .nils)
 eptr:∀m cs cs',Rs (R 0) cs cs'→R m (.eptr cs) (.eptr cs')
 agg:∀m cs cs',Rs (R m) cs cs'→R m (.agg cs) (.agg cs')
 tup2:∀m cs cs',Rs (R (m+2)) cs cs'→R (m+2) (.tup cs) (.tup cs')
 tup0:∀m cs cs',Rs (R 0) cs cs'→R m (.tup cs) (.tup cs')
 func2:∀m f cs cs',Rs (R (m+2)) cs cs'→R (m+2) (.func f cs) (.func f cs')
 func0:∀m f cs cs',Rs (R 0) cs cs'→R m (.func f cs) (.func f cs')
def aqA{g:Nat->Nat}:∀{l:An},eT g l=l->∀a∈l,ren g a=a
 |[],_,a,h=>by cases h
 |x::l,h,a,ha=>by
  simp only[eT,List.cons.injEq]at h;rcases qAh.1 ha with rfl|ha
  ·exact h.1
  exact aqA h.2 a ha
def adL(e:ET)(x:e.D):∀a∈e.enc x,∀g,ren g a=a:=λa h g=>aqA (ac2 e g x) a h
def ane(u:U):∀a∈Gl u,∀g,ren g a=a:=by
 intro a b g;rcases tC (.lf u.t u.x)with h|⟨e,x,h⟩
 ·unfold Gl at b;rw[h]at b;rw[qAK]at b;subst b;exact Lb g _ _
 let⟨t,y⟩:=u;obtain⟨rfl,h⟩:=h;exact adL e y a b g
def Cvs.rs{H b:A0}{L:Nat->Bx}{R:Nat->AV->AV->Prop}(w:Wk H b L R){m:Nat}{xs ys:An}(h:Cvs (Nat.ble 1 m) xs ys):(∀a∈xs,∀g,ren g a=a)->Rs (R m) xs ys:=by
 generalize c:Nat.ble 1 m=q at h
 induction h with|nil=>intro _;exact .nil|cons h _ i=>subst c;intro f;exact .cons (w.fix _ _ _ (f _ cn) h) (i λa d=>f a (by simp[d]))
end
section
variable {γ:Type}{b:γ}{H:A0}{L:Nat→Bx}
def aD3{w:Bool}{t:LT}{v:TV}{K:t.D->Option γ}(d:∀e,t≠ .t e)(h:(vH H w t v λu=>kZ t u K)=some b):∃x,K x=some b/\one v/\Cv w (kr t x) (av H v):=by
 rcases tC v with a|⟨e,x,rfl⟩
 ·let⟨u,c,f,_⟩:=ahu a h;obtain⟨x,rfl,g⟩:=kS c
  grind
 simp only[vH]at h;let⟨y,i,_⟩:=kS h
 grind
def ayT{a:AV}{xs:An}(h:eO a=some xs)(l:xs.length≠1):a=.agg xs:=by cases a<;>simp only[eO]at h<;>cases h<;>first|rfl|exact(l rfl).elim
def akh{a:Bx}{l:Nat}(h:oeq a l=true):a=some l:=by cases a with|none=>cases h|some x=>exact congrArg some (qAj h)
def sz2:∀{e:ET},e.sc=false->e.sz≠1| .i,h=>by cases h| .u,h=>by cases h| .s,h=>by cases h| .b,h=>by cases h| .car,_=>by decide| .dec,_=>by decide| .ty,_=>by decide| .tm,_=>by decide| .env,_=>by decide| .val,_=>by decide| .bnd,_=>by decide| .vals,h=>by cases h| .tms,h=>by cases h
def CU.aKx:∀(c:CU) (e:ET),c.t≠ .t e:=by intro c e h;cases c<;>cases h
mutual
theorem aH3:∀{a c:Ty},aDe a c=true→a=c
 | .mk k s l,.mk k' s' l',h=>by
  simp only[aDe,qAa]at h;rw[of_decide_eq_true h.1,eq_of_beq h.2.1,alm h.2.2]
theorem alm:∀{a c:A3},agK a c=true→a=c
 |[],[],_=>rfl
 |x::xs,y::ys,h=>by
  simp only[agK,qAa]at h;rw[aH3 h.1,alm h.2]
 |[],_::_,h=>by simp[agK]at h
 |_::_,[],h=>by simp[agK]at h
end
def CU.aDS:∀{c:CU} {x:c.t.D},c.is x=true->x=c.x:=by intro c x h;cases c with|n k y=>exact of_decide_eq_true (p:=(show Int from x)=y) h|b y=>exact(eq_of_beq (α:=Bool) h).symm|s y=>exact eq_of_beq (α:=Str) h|l e=>exact qCD.1 h|ly z=>exact(alm h).symm
def CU.one(c:CU):one (.lf c.t c.x):=by cases c<;>exact λ_=>rfl
def CU.width(c:CU):width (.lf c.t c.x)=yg (.k c):=by cases c<;>rfl
def aFX(H:A0)(L:Nat->Bx)(m:Nat)(s:Sk)(v:TV)(K:Bm->Option γ)(b:γ):Prop:=
 ∃u w,K u=some b/\(∀r,fu bS s (u++r)=(w,r))/\((∀t,s≠ .lf t)->one w)/\width w=yg s/\∀h R,Wk H h L R->R m (av h w) (av H v)
def aKr(H:A0)(L:Nat->Bx)(m:Nat)(s:B9)(vs:As)(K:Bm->Option γ)(b:γ):Prop:=
 ∃u w,K u=some b/\(∀r,iH bS s (u++r)=(w,r))/\∀h R,Wk H h L R->Rs (R m) (aU h w) (aU H vs)
def aCE(H:A0)(L:Nat->Bx)(m:Nat)(s:B9)(vs:As)(K:Bm->Option γ)(b:γ):Prop:=
 ∃u w,K u=some b/\(∀r,iH bS s (u++r)=(w,r))/\∀h R,Wk H h L R->Rs (R m) (bq h w) (bq H vs)
def Zn{w:TV}(h:∀e x,w≠ .lf (.t e) x):one w:=(tC w).elim id λ⟨e,x,q⟩=>(h e x q).elim
set_option linter.unusedVariables false in
mutual
def ate:∀(s:Sk) (m:Nat) (v:TV) (K:Bm->Option γ),ext m H L s v K=some b->aFX H L m s v K b
 | .unk,m,v,K,h=>by
  simp only[ext]at h;cases m with
  |zero=>
   cases v with
   |unk=>exact⟨[],.unk,h,λa=>rfl,λ_=>λ_=>rfl,rfl,λi R w=>w.unk0⟩
   |_=>cases h
  |succ m=>exact⟨[],.unk,h,λa=>rfl,λ_=>λ_=>rfl,rfl,λi R w=>w.unk m _⟩
 | .nilp,m,v,K,h=>by
  simp only[ext]at h;cases v with
  |nilp=>exact⟨[],.nilp,h,λa=>rfl,λ_=>λ_=>rfl,rfl,λi R w=>w.fix m _ _ (λ_=>rfl) (.same _ _)⟩
  |_=>cases h
 | .nilF,m,v,K,h=>by
  simp only[ext]at h;cases v with
  |nilF=>exact⟨[],.nilF,h,λa=>rfl,λ_=>λ_=>rfl,rfl,λi R w=>w.fix m _ _ (λ_=>rfl) (.same _ _)⟩
  |_=>cases h
 | .nils,m,v,K,h=>by
  simp only[ext]at h;cases v with
  |nils=>exact⟨[],.nils,h,λa=>rfl,λ_=>λ_=>rfl,rfl,λi R w=>w.fix m _ _ (λ_=>rfl) (.same _ _)⟩
  |_=>cases h
 | .k c,m,v,K,h=>by
  simp only[ext]at h;let⟨x,p,q,n⟩:=aD3 (CU.aKx c) h;let⟨d,I⟩:=(bD p).resolve_right λh=>by cases h.2
  have e:=CU.aDS d;subst e;exact⟨[],.lf c.t c.x,I,λa=>rfl,λ_=>CU.one c,CU.width c,λi R w=>w.fix m _ _ (Lb · c.t c.x) n⟩
 | .lf t,m,v,K,h=>by
  have E:(∀e,t≠ .t e)->(vH H (Nat.ble 1 m) t v λu=>kZ t u λx=>K [⟨t,x⟩])=some b->aFX H L m (.lf t) v K b:=λO h=>by
   let⟨x,p,q,n⟩:=aD3 O h;exact⟨[⟨t,x⟩],.lf t x,p,λa=>rfl,λJ=>(J t rfl).elim,by cases t<;>first|rfl|exact(O _ rfl).elim,λi R w=>w.fix m _ _ (Lb · t x) n⟩
  simp only[ext]at h;cases t with
  |t e=>
   simp only at h;rcases bD h with⟨_,h⟩|⟨M,h⟩
   ·cases h
   split at h
   ·rename_i y d;let⟨u,r,P,p,q,n⟩:=Xx _ _ _ _ h;split at p
    ·obtain⟨x,rfl,I⟩:=kS p;refine⟨[⟨.t e,x⟩],.lf (.t e) x,I,λa=>rfl,λJ=>(J _ rfl).elim,rfl,λi R w=>?_⟩;have N:eO (av H v)=some P:=by rw[IV d,q];simp only[bq,qAt]
     have F:P.length=e.sz:=by rw[<-n.len];exact LW e x
     rw[ayT N (by rw[F];exact sz2 M)];exact w.agg m _ _ (n.rs w (adL e x))
    cases p
   cases h
  |_=>exact E (λe h=>by cases h) h
 | .ptr j o,m,v,K,h=>by
  simp only[ext]at h;cases v with
  |ptr l Q=>
   simp only at h;rcases bD h with⟨d,g⟩|⟨_,g⟩
   ·simp only[qAa]at d;have G:=qAj d.1;subst G;exact⟨[],.ptr j o,g,λa=>rfl,λ_=>λ_=>rfl,rfl,λi R w=>w.ptr m _ _ _ (akh d.2)⟩
   cases g
  |_=>cases h
 | .mapr j,m,v,K,h=>by
  simp only[ext]at h;cases v with
  |mapr l=>
   simp only at h;rcases bD h with⟨d,g⟩|⟨_,g⟩
   ·exact⟨[],.mapr j,g,λa=>rfl,λ_=>λ_=>rfl,rfl,λi R w=>w.mapr m _ _ (akh d)⟩
   cases g
  |_=>cases h
 | .own j,m,v,K,h=>by
  simp only[ext]at h;cases v with
  |own l=>
   simp only at h;rcases bD h with⟨d,g⟩|⟨_,g⟩
   ·exact⟨[],.own j,g,λa=>rfl,λ_=>λ_=>rfl,rfl,λi R w=>w.own m _ _ (akh d)⟩
   cases g
  |nils=>
   simp only at h;rcases bD h with⟨d,g⟩|⟨_,g⟩
   ·simp only[qAa]at d;obtain⟨m,rfl⟩:∃k,m=k+2:=⟨m - 2,by have:=qAf d.1;omega⟩;exact⟨[],.own j,g,λa=>rfl,λ_=>λ_=>rfl,rfl,λi R w=>w.ownN m j (by cases F:L j with|none=>rfl|some x=>rw[F]at d;cases d.2)⟩
   cases g
  |_=>cases h
 | .psl j z,m,v,K,h=>by
  simp only[ext]at h;split at h
  ·rename_i l S;rcases bD h with⟨d,g⟩|⟨_,g⟩
   ·simp only[qAa]at d;have G:=qAj d.2;subst G;exact⟨[],.psl j z none,g,λa=>rfl,λ_=>λ_=>rfl,rfl,λi R w=>w.psl m _ _ _ (akh d.1)⟩
   cases g
  ·rcases bD h with⟨d,g⟩|⟨_,g⟩
   ·simp only[qAa]at d;obtain⟨m,rfl⟩:∃k,m=k+2:=⟨m - 2,by have:=qAf d.1;omega⟩;exact⟨[],.psl j z none,g,λa=>rfl,λ_=>λ_=>rfl,rfl,λi R w=>w.pslN m j z (by cases F:L j with|none=>rfl|some x=>rw[F]at d;cases d.2)⟩
   cases g
  cases h
 | .eptr y,m,v,K,h=>by
  simp only[ext]at h;cases v with
  |eptr C=>
   let⟨A,B,p,q,n⟩:=IB y 0 C K h;exact⟨A,.eptr B,p,λa=>by simp only[fu,q],λ_=>λ_=>rfl,rfl,λi R w=>by simp only[av];exact w.eptr m _ _ (n i R w)⟩
  |_=>cases h
 | .agg y,m,v,K,h=>by
  simp only[ext]at h;split at h
  ·rename_i C;let⟨A,B,p,q,n⟩:=IB y m C K h;exact⟨A,.agg B,p,λa=>by simp only[fu,q],λ_=>λ_=>rfl,rfl,λi R w=>by simp only[av];exact w.agg m _ _ (n i R w)⟩
  ·rename_i e x;let⟨A,B,p,q,n⟩:=IB y m [.lf (.t e) x] K h;refine⟨A,.agg B,p,λa=>by simp only[fu,q],λ_=>λ_=>rfl,rfl,λi R w=>?_⟩;have:=w.agg m _ _ (n i R w);simp only[bq,AB,qAt]at this;exact this
  cases h
 | .tup y,m,v,K,h=>by
  simp only[ext]at h;cases v with
  |tup C=>
   let⟨A,B,p,q,n⟩:=alu y _ C K h;refine⟨A,.tup B,p,λa=>by simp only[fu,q],λ_=>λ_=>rfl,rfl,λi R w=>?_⟩;simp only[av];cases D:Nat.ble 2 m with
   |false=>rw[D]at n;exact w.tup0 m _ _ (n i R w)
   |true=>
    rw[D]at n;obtain⟨m,rfl⟩:∃k,m=k+2:=⟨m - 2,by have:=qAf D;omega⟩;exact w.tup2 m _ _ (n i R w)
  |_=>cases h
 | .func f y,m,v,K,h=>by
  simp only[ext]at h;cases v with
  |func T C=>
   simp only at h;rcases bD h with⟨d,g⟩|⟨_,g⟩
   ·have G:=qAj d;subst G;let⟨A,B,p,q,n⟩:=alu y _ C K g;refine⟨A,.func f B,p,λa=>by simp only[fu,q],λ_=>λ_=>rfl,rfl,λi R w=>?_⟩;simp only[av];cases D:Nat.ble 2 m with
    |false=>rw[D]at n;exact w.func0 m f _ _ (n i R w)
    |true=>
     rw[D]at n;obtain⟨m,rfl⟩:∃k,m=k+2:=⟨m - 2,by have:=qAf D;omega⟩;exact w.func2 m f _ _ (n i R w)
   cases g
  |_=>cases h
def alu:∀(a:B9) (m:Nat) (vs:As) (K:Bm->Option γ),amj m H L a vs K=some b->aKr H L m a vs K b
 |[],m,vs,K,h=>by
  simp only[amj]at h;cases vs with
  |nil=>exact⟨[],[],h,λe=>rfl,λf R c=>.nil⟩
  |cons _ _=>cases h
 |s::a,m,vs,K,h=>by
  simp only[amj]at h;cases vs with
  |nil=>cases h
  |cons v r=>
   let⟨d,w,g,i,_,_,j⟩:=ate s m v _ h;let⟨u,k,l,n,o⟩:=alu a m r _ g;refine⟨d++u,w::k,l,λe=>?_,λf R c=>?_⟩
   ·simp only[iH,qAm,i,n]
   simp only[aU];exact .cons (j f R c) (o f R c)
def IB:∀(f:B9) (m:Nat) (vs:As) (K:Bm->Option γ),rP m H L f vs K=some b->aCE H L m f vs K b
 |[],m,vs,K,h=>by
  simp only[rP]at h;cases vs with
  |nil=>exact⟨[],[],h,λd=>rfl,λj R i=>.nil⟩
  |cons _ _=>cases h
 |s::f,m,vs,K,h=>by
  have B:(∀t,s≠ .lf t)->∀v r,vs=v::r->one v->(ext m H L s v λn=>rP m H L f r λa=>K (n++a))=some b->aCE H L m (s::f) vs K b:=λC v r G l h=>by
   let⟨n,w,I,J,M,_,N⟩:=ate s m v _ h;let⟨a,o,p,z,A⟩:=IB f m r _ I;subst G;refine⟨n++a,w::o,p,λd=>?_,λj R i=>?_⟩
   ·simp only[iH,qAm,J,z]
   simp only[bq,M C (av j w),l (av H v),qAM,qAo];exact .cons (N j R i) (A j R i)
  have y:(∀t,s≠ .lf t)->(hd1 vs λv r=>ext m H L s v λn=>rP m H L f r λa=>K (n++a))=some b->aCE H L m (s::f) vs K b:=λC h=>by
   cases vs with
   |nil=>cases h
   |cons v r=>
    simp only[hd1]at h;rcases bD h with⟨_,g⟩|⟨l,g⟩
    ·cases g
    exact B C v r rfl (Zn λe x q=>by rw[q]at l;cases l) g
  cases s with
  |lf t=>
   simp only[rP]at h;let⟨u,r,O,l,D,E⟩:=Xx _ _ _ _ h;obtain⟨x,rfl,F⟩:=kS l;let⟨a,o,p,z,A⟩:=IB f m r _ F;refine⟨⟨t,x⟩::a,.lf t x::o,p,λd=>?_,λj R i=>?_⟩
   ·simp only[iH,qAM,fu,z]
   rw[D];simp only[bq];exact(E.rs i (ane ⟨t,x⟩)).app (A j R i)
  |k c=>
   simp only[rP]at h;let⟨u,r,O,l,D,E⟩:=Xx _ _ _ _ h;obtain⟨x,rfl,F⟩:=kS l;let⟨P,Q⟩:=(bD F).resolve_right λh=>by cases h.2
   have e:=CU.aDS P;subst e;let⟨a,o,p,z,A⟩:=IB f m r _ Q;refine⟨a,.lf c.t c.x::o,p,λd=>?_,λj R i=>?_⟩
   ·simp only[iH,fu,z]
   rw[D];simp only[bq];exact(E.rs i (ane ⟨c.t,c.x⟩)).app (A j R i)
  |unk=>exact y (λt e=>by cases e) (by simpa only[rP]using h)
  |nilp=>exact y (λt e=>by cases e) (by simpa only[rP]using h)
  |nilF=>exact y (λt e=>by cases e) (by simpa only[rP]using h)
  |nils=>exact y (λt e=>by cases e) (by simpa only[rP]using h)
  |ptr _ _=>exact y (λt e=>by cases e) (by simpa only[rP]using h)
  |eptr _=>exact y (λt e=>by cases e) (by simpa only[rP]using h)
  |agg _=>exact y (λt e=>by cases e) (by simpa only[rP]using h)
  |tup _=>exact y (λt e=>by cases e) (by simpa only[rP]using h)
  |func _ _=>exact y (λt e=>by cases e) (by simpa only[rP]using h)
  |mapr _=>exact y (λt e=>by cases e) (by simpa only[rP]using h)
  |own _=>exact y (λt e=>by cases e) (by simpa only[rP]using h)
  |psl _ _=>exact y (λt e=>by cases e) (by simpa only[rP]using h)
end
end
def mem_iff{l:A5}{n:Nat}:mem l n=true↔n∈l:=by
 induction l with|nil=>exact⟨λh=>(by cases h),λh=>(by cases h)⟩|cons x l i=>
  show(bif Nat.beq x n then true else mem l n)=true↔_;cases a:Nat.beq x n with|true=>simp;exact .inl (qAj a).symm|false=>
   simp only[cond_false,qAh,i];refine⟨.inr,λh=>h.elim (λe=>?_) id⟩
   simp_all
def AU{l:A5}{n:Nat}:mem l n=false↔n∉l:=by rw[<-mem_iff];cases mem l n<;>simp
def Io{n:Nat}:∀{c k:Nat},n∈rng k c↔k<=n/\n<k+c|0,k=>by simp only[rng,qCm,false_iff];omega|c+1,k=>by simp only[rng,qAh,Io];omega
noncomputable def rU(i:List (Nat×Sk))(q:Nat):Bool:=mem (i.flatMap λp=>rng (p.1+1) (yg p.2)) (q+1)
def Ak{p:Nat×Sk}{i:List (Nat×Sk)}{q:Nat}:rU (p::i) q=true↔(p.1<=q/\q<p.1+yg p.2)∨rU i q=true:=by
 unfold rU;rw[mem_iff,mem_iff,qBf,qAr,Io]
 grind
section
variable {γ:Type}{b:γ}{H:A0}{L:Nat→Bx}{m mo:Nat}
def aGe(H h:A0)(L:Nat->Bx):Wk H h L (λ_ _ _=>True):=
 ⟨trivial,λ_ _=>trivial,λ_ _ _ _ _=>trivial,λ_ _ _ _ _=>trivial,λ_ _ _ _=>trivial,λ_ _ _ _=>trivial,λ_ _ _=>trivial,λ_ _ _ _ _=>trivial,λ_ _ _ _=>trivial,λ_ _ _ _=>trivial,λ_ _ _ _=>trivial,λ_ _ _ _=>trivial,λ_ _ _ _=>trivial,λ_ _ _ _ _=>trivial,λ_ _ _ _ _=>trivial⟩
def Qj(H:A0)(vs:As)(q:Nat):(bq H vs).getD q .unk=av H ((aK vs).getD q .unk):=by rw[<-agr];simp;cases(aK vs)[q]?<;>rfl
def akI(H:A0)(L:Nat->Bx)(m:Nat)(cs vs:As)(q:Nat):Prop:=∀h R,Wk H h L R->q<(aK cs).length->R m (av h ((aK cs).getD q .unk)) (av H ((aK vs).getD q .unk))
def awz{cs cs' vs:As}{q:Nat}(h:akI H L m cs vs q)(e:(aK cs')[q]? =(aK cs)[q]?):akI H L m cs' vs q:=by
 intro f R w b;have a:q<(aK cs).length:=by grind
 have:=h f R w a
 grind
def auT(vs:As):∀(ps:List (Nat×Sk)) (K:Bm->Option γ),axj m H L vs ps K=some b->∃e,K e=some b/\∀(c:Option As) rest,∃i,kD bS ps c (e++rest)=(i,rest)/\
  ∀cs',i=some cs'->∃d,c=some d/\(aK cs').length=(aK d).length/\∀q,(rU ps q=true->akI H L m cs' vs q)/\(rU ps q=false->(aK cs')[q]? =(aK d)[q]?)
 |[],K,h=>⟨[],h,λc rest=>⟨c,rfl,λcs' A=>⟨cs',A,rfl,λq=>⟨λh=>(by cases h),λ_=>rfl⟩⟩⟩⟩|p::ps,K,h=>by
  simp only[axj]at h;let⟨a,r,B,C,h⟩:=CZ _ _ _ _ h;let⟨o,X,D,E,h⟩:=CZ _ _ _ _ h;let⟨e,w,F,G,v⟩:=IB [p.2] m o _ h;let⟨u,I,J⟩:=auT vs ps _ F;refine⟨e++u,I,λc rest=>?_⟩;have x:w=[(fu bS p.2 (e++(u++rest))).1]/\(fu bS p.2 (e++(u++rest))).2=u++rest:=by
   have:=G (u++rest);simp only[iH,Prod.mk.injEq]at this
   grind
  simp only[kD,qAm,x.2];rw[<-x.1]at *;let⟨i,M,N⟩:=J (c.bind λd=>vS d p.1 w some) rest;refine⟨i,M,λcs' j=>?_⟩;let⟨g,k,O,l⟩:=N cs' j;cases c with|none=>cases k|some d=>
   simp only[qAb]at k;let⟨n,Y⟩:=KP k;have y:(aK w).length=yg p.2:=by have:=(v H _ (aGe H H L)).len;rw[l7,<-pO,l7,<-pO,E]at this;exact this
   refine⟨d,rfl,?_,λq=>⟨λf=>?_,λf=>?_⟩⟩;·rw[O,n];simp only[qAe,qAz,qCC];omega
   ·cases s:rU ps q with|true=>exact(l q).1 s|false=>
     have P:=(Ak.1 f).resolve_right (by rw[s];simp);refine awz (cs:=g) ?_ ((l q).2 s);intro Q R S T;have U:(aK g).getD q .unk=(aK w).getD (q - p.1) .unk:=by rw[n];simp only[List.getD];rw[qAm,qAl (by simp only[qAz];omega),qAg (by simp only[qAz];omega)];simp only[qAz];rw[show min p.1 (aK d).length=p.1 by omega]
     have V:(aK vs).getD q .unk=(aK o).getD (q - p.1) .unk:=by rw[B,D];simp only[List.getD];rw[qAl Cl,qAg Cl,C]
     rw[U,V,<-Qj,<-Qj];exact(v Q R S).get _ (by rw[l7,<-pO];omega)
   have s:rU ps q=false:=by
    cases s:rU ps q with|false=>rfl|true=>rw[Ak.2 (.inr s)]at f;cases f
   have z:¬(p.1<=q/\q<p.1+yg p.2):=λW=>by rw[Ak.2 (.inl W)]at f;cases f
   rw[(l q).2 s,n];by_cases t:q<p.1;·rw[qAm,qAg (by simp only[qAz];omega),qBq,if_pos t]
   rw[qAl (by simp only[qAe,qAz];omega),qCb];congr 1;simp only[qAe,qAz];omega
def FO(H:A0)(L:Nat->Bx)(m:Nat)(d:HO)(b o a:TObj):Prop:=match d with| .dead=>o=.dead| .box _=>∃w v,o=.box w/\a=.box v/\∀h R,Wk H h L R->Rs (R m) (bq h w) (bq H v)| .bx i=>o=.dead∨∃c s v,b=.box c/\o=.box s/\a=.box v/\(aK s).length=(aK c).length/\∀q,(rU i q=true->akI H L m s v q)/\(rU i q=false->(aK s)[q]? =(aK c)[q]?)| .own _=>∃e x,o=.own e x/\a=.own e x| .mp _=>∃e x,o=.mp e x/\a=.mp e x| .arr _=>∃e x,o=.arr e x/\a=.arr e x
def au6{c:TObj}{g:HO}{K:Bm->Option γ}(h:al6 m H L c g K=some b):∃u,K u=some b/\∀o rest,∃k,bR bS o g (u++rest)=(k,rest)/\FO H L m g o k c:=by
 cases g with
 |dead=>exact⟨[],h,λo rest=>⟨_,rfl,rfl⟩⟩
 |box l=>
  cases c with
  |box v=>
   let⟨u,w,a,i,r⟩:=IB l m v K h;exact⟨u,a,λo rest=>⟨.box w,by simp only[bR,i],w,v,rfl,rfl,r⟩⟩
  |_=>cases h
 |bx t=>
  cases c with
  |box v=>
   let⟨u,a,i⟩:=auT v t K h;refine⟨u,a,λo rest=>?_⟩;cases o with
   |box d=>
    let⟨n,j,y⟩:=i (some d) rest;cases n with
    |none=>exact⟨.dead,by simp only[bR,j],.inl rfl⟩
    |some s=>
     let⟨l,e,z,A⟩:=y s rfl;cases e;exact⟨.box s,by simp only[bR,j],.inr ⟨d,s,v,rfl,rfl,rfl,z,A⟩⟩
   |_=>
    let⟨n,j,_⟩:=i none rest;exact⟨.dead,by simp only[bR,j],.inl rfl⟩
  |_=>cases h
 |own e=>
  simp only[al6]at h;cases c with
  |own p q=>
   let⟨x,f,a⟩:=kS h;cases f;exact⟨[⟨.l e,x⟩],a,λo rest=>⟨_,rfl,e,x,rfl,rfl⟩⟩
  |_=>cases h
 |mp e=>
  simp only[al6]at h;cases c with
  |mp p q=>
   let⟨x,f,a⟩:=kS h;cases f;exact⟨[⟨.m e,x⟩],a,λo rest=>⟨_,rfl,e,x,rfl,rfl⟩⟩
  |_=>cases h
 |arr e=>
  simp only[al6]at h;cases c with
  |arr p q=>
   let⟨x,f,a⟩:=kS h;cases f;exact⟨[⟨.l e,x⟩],a,λo rest=>⟨_,rfl,e,x,rfl,rfl⟩⟩
  |_=>cases h
def aiB{n:Nat}{k:Nat}:∀{es:Be} {b o:A5},fO n b o es=true->k∈b->k∉j3 es|[],_,_,_,_=>by simp[j3]| .r d s::es,b,o,h,a=>by simp only[fO,qAa,qAV,AU]at h;simp only[j3,qAh,not_or];exact⟨λe=>h.1 (e▸a),aiB h.2 (qAk _ a)⟩| .o l c::es,b,o,h,a=>by simp only[fO,qAa]at h;exact aiB (es:=es) h.2.2 a| .w c::es,b,o,h,a=>aiB (es:=es) (by simpa only[fO]using h) a
def JL{n:Nat}{l:Nat}{d:HO}:∀{es:Be} {a o:A5},fO n a o es=true->l∈o->Ed.o l d∉es|[],_,_,_,_=>by simp| .r c s::es,a,o,h,k=>by simp only[fO,qAa]at h;simp;exact JL h.2 k| .o f b::es,a,o,h,k=>by simp only[fO,qAa,qAV,AU]at h;simp only[qAh,Ed.o.injEq,not_or];exact⟨λe=>h.2.1 (e.1▸k),JL h.2.2 (qAk _ k)⟩| .w b::es,a,o,h,k=>by simp;exact JL (es:=es) (by simpa only[fO]using h) k
def pE{n:Nat}{l:Nat}{d:HO}:∀{es:Be} {a o:A5},fO n a o es=true->Ed.o l d∈es->l<n
 |[],_,_,_,h=>by cases h
 | .r k s::es,a,o,h,hk=>by
  simp only[fO,qAa]at h;simp at hk;exact pE h.2 hk
 | .o c b::es,a,o,h,hk=>by
  simp only[fO,qAa]at h;rcases qAh.1 hk with e|hk
  ·simp_all
  exact pE h.2.2 hk
 | .w b::es,a,o,h,hk=>by
  simp at hk;exact pE (es:=es) (by simpa only[fO]using h) hk
def rA{α:Type}{d:α}{a c:List α}{n:Nat}(h:n<a.length):nth d (a++c) n=nth d a n:=by rw[jF,jF];simp only[List.getD,qAg h]
def YU{α:Type}{d:α}{a:List α}{v:α}{n:Nat}(h:a.length=n):nth d (a++[v]) n=v:=by rw[jF];subst h;simp[List.getD]
structure LaidD(H:A0)(L:Nat→Bx)(m mo:Nat)(t':As)(j:Nat)(eds:Be)(T:As)(h:A0)(T1:As)(h1:A0):Prop where
 tl:T1.length=T.length
 hl:h1.length=j+aD eds
 keep:∀k,k∉j3 eds→nth .unk T1 k=nth .unk T k
 slot:∀k s,Ed.r k s∈eds→k<T.length→∀Hf R,Wk H Hf L R→R m (av Hf (nth .unk T1 k)) (av H (nth .unk t' k))
 keepO:∀l,l<j→(∀hd,Ed.o l hd∉eds)→nth .dead h1 l=nth .dead h l
 obj:∀l hd,Ed.o l hd∈eds→FO H L mo hd (nth .dead h l) (nth .dead h1 l) (nth .dead H l)
 new:∀i,i<aD eds→(∃l hd,L (j+i)=some l∧(Ed.w hd∈eds∧nth .dead (kinds eds) i=hd)∧FO H L mo hd .dead (nth .dead h1 (j+i)) (nth .dead H l))∨(L (j+i)=none∧2≤m∧∃e,nth .dead h1 (j+i)=.own e []∨nth .dead h1 (j+i)=.arr e [])
def KG{t':As}{n:Nat}:∀(eds:Be) (j:Nat) (K:Bm->Option γ) (J os:A5),fO n J os eds=true->n<=j->BS m mo t' H L j eds K=some b->
  ∃c,K c=some b/\∀T h rest,h.length=j->∃q r,dW bS eds (c++rest) T h=(q,r)/\LaidD H L m mo t' j eds T h q r
 |[],j,K,J,os,o,M,h=>⟨[],h,λT D rest E=>⟨T,D,rfl,rfl,E,λ_ _=>rfl,λk s hm=>(by cases hm),λ_ _ _=>rfl,λl a hm=>(by cases hm),λi F=>by simp[aD]at F⟩⟩
 | .r k s::v,j,K,J,os,o,M,h=>by
  simp only[fO,qAa,qAV,AU]at o;simp only[BS]at h;let⟨c,w,r,N,_,_,Z⟩:=ate s m _ _ h;let⟨u,O,P⟩:=KG v j _ _ _ o.2 M r;refine⟨c++u,O,λT D rest E=>?_⟩;let⟨q,p,Q,g⟩:=P (T.set k w) D rest E;have hk:k∉j3 v:=aiB o.2 cn;refine⟨q,p,by simp only[dW,qAm,N];exact Q,by rw[g.tl,qAT],g.hl,λx f=>?_,λx R hm t=>?_,λl t B=>?_,λl a hm=>?_,λi F=>?_⟩
  ·simp only[j3,qAh,not_or]at f;rw[g.keep x f.2,aX (qBo f.1)]
  ·rcases qAh.1 hm with e|hm
   ·cases e;rw[g.keep k hk,cK t];exact Z
   exact g.slot x R hm (by rw[qAT];exact t)
  ·exact g.keepO l t λa hm=>B a (qAk _ hm)
  ·exact g.obj l a (by simpa using hm)
  rcases g.new i F with⟨l,a,e1,z,S⟩|e
  ·exact .inl ⟨l,a,e1,⟨qAk _ z.1,z.2⟩,S⟩
  exact .inr e
 | .o l a::v,j,K,J,os,o,M,h=>by
  simp only[fO,qAa,qAV,AU]at o;simp only[BS]at h;let⟨c,r,N⟩:=au6 h;let⟨u,O,P⟩:=KG v j _ _ _ o.2.2 M r;refine⟨c++u,O,λT D rest E=>?_⟩;let⟨y,U,V⟩:=N (nth .dead D l) (u++rest);let⟨q,p,Q,g⟩:=P T (D.set l y) rest (by rw[qAT];exact E);have hln:l<n:=qAf o.1;have B:∀d,Ed.o l d∉v:=λd=>JL o.2.2 cn;refine⟨q,p,by simp only[dW,qAm,U];exact Q,g.tl,g.hl,λx f=>g.keep x f,λx R hm t=>g.slot x R (by simpa using hm) t,λA t C=>?_,λA d hm=>?_,λi F=>?_⟩
  ·have G:l≠A:=λe=>C a (by subst e;simp);rw[g.keepO A t λd hm=>C d (qAk _ hm),aX G]
  ·rcases qAh.1 hm with e|hm
   ·cases e;rw[g.keepO l Cl B,cK Cl];exact V
   have G:l≠A:=λe=>by subst e;exact B d hm
   have:=g.obj A d hm;rw[aX G]at this;exact this
  rcases g.new i F with⟨l,a,e1,z,S⟩|e
  ·exact .inl ⟨l,a,e1,⟨qAk _ z.1,z.2⟩,S⟩
  exact .inr e
 | .w a::v,j,K,J,os,o,M,h=>by
  simp only[fO]at o;have I:∀(c:Bm) (X:Bm->Option γ),(∀u,X u=K (c++u))->BS m mo t' H L (j+1) v X=some b->(∀rest,∃y,bR bS .dead a (c++rest)=(y,rest)/\((∃l,L j=some l/\FO H L mo a .dead y (nth .dead H l))∨(L j=none/\2<=m/\∃e,y=.own e []∨y=.arr e [])))->
    ∃c,K c=some b/\∀T h rest,h.length=j->∃q r,dW bS (.w a::v) (c++rest) T h=(q,r)/\LaidD H L m mo t' j (.w a::v) T h q r:=λc X hK h hq=>by
   let⟨u,O,P⟩:=KG v (j+1) _ _ _ o Cl h;refine⟨c++u,by rw[<-hK];exact O,λT D rest E=>?_⟩;let⟨y,U,V⟩:=hq (u++rest);let⟨q,p,Q,g⟩:=P T (D++[y]) rest (by simp[E]);refine⟨q,p,by simp only[dW,qAm,U];exact Q,g.tl,by rw[g.hl];simp only[aD];omega,λx f=>g.keep x f,λx R hm t=>g.slot x R (by simpa using hm) t,λA t C=>?_,λA d hm=>?_,λi F=>?_⟩
   ·rw[g.keepO A Cl λd hm=>C d (qAk _ hm),rA Cl]
   ·have hm:Ed.o A d∈v:=by simpa using hm
    have t:=pE o hm;have:=g.obj A d hm;rw[rA Cl]at this;exact this
   cases i with
   |zero=>
    have e:nth .dead p (j+0)=y:=by
     rw[qAS,g.keepO j Cl λd hm=>(by have:=pE o hm;omega),YU E]
    rw[e,qAS];rcases V with⟨l,e1,z⟩|e1
    ·exact .inl ⟨l,a,e1,⟨by simp,rfl⟩,z⟩
    exact .inr e1
   |succ i=>
    have:=g.new i (by simp only[aD]at F;omega);rw[show j+1+i=j+(i+1)from by omega]at this;rcases this with⟨l,a,e1,z,S⟩|e
    ·exact .inl ⟨l,a,e1,⟨qAk _ z.1,z.2⟩,S⟩
    exact .inr e
  simp only[BS]at h;split at h
  ·rename_i l W;let⟨c,r,N⟩:=au6 h;exact I c _ (λ_=>rfl) r λrest=>(by
    let⟨y,U,V⟩:=N .dead rest;exact⟨y,U,.inl ⟨l,W,V⟩⟩)
  rename_i W;split at h
  ·rename_i e;rcases bD h with⟨Y,g⟩|⟨_,g⟩
   ·exact I [⟨.l e,[]⟩] _ (λ_=>rfl) g λrest=>⟨.own e [],rfl,.inr ⟨W,qAf Y,e,.inl rfl⟩⟩
   cases g
  ·rename_i e;rcases bD h with⟨Y,g⟩|⟨_,g⟩
   ·exact I [⟨.l e,[]⟩] _ (λ_=>rfl) g λrest=>⟨.arr e [],rfl,.inr ⟨W,qAf Y,e,.inr rfl⟩⟩
   cases g
  cases h
end
def Kw(o a:TObj)(v:Nat->Bool):Prop:=a=o∨∃s c,o=.box s/\a=.box c/\(aK c).length=(aK s).length/\∀q,v q=false->(aK c)[q]? =(aK s)[q]?
def amB{n len:Nat}{L:Nat->Bx}{eds:Be}:∀(c j:Nat) (s:A5),asB n len L eds j c s=true->∀i,i<c->∀l,L (j+i)=some l->l<len/\l∉s/\(n<=l∨aec l eds=true)/\∀a,a<c->L (j+a)=some l->a=i
 |0,j,s,_,i,t=>by omega
 |c+1,j,s,h,i,t=>by
  intro l d;simp only[asB]at h;split at h
  ·rename_i e;have k:=amB c (j+1) s h;cases i with
   |zero=>rw[qAS,e]at d;cases d
   |succ i=>
    let⟨f,m,o,p⟩:=k i Cl l (by rw[show j+1+i=j+(i+1) by omega];exact d);refine⟨f,m,o,λa g b=>?_⟩;cases a with
    |zero=>rw[qAS,e]at b;cases b
    |succ a=>exact congrArg _ (p a Cl (by rw[show j+1+a=j+(a+1) by omega];exact b))
  rename_i r e;simp only[qAa,qBe,qAV,AU]at h;let⟨f,m,o,p⟩:=h;have f:r<len:=qAf f;have k:=amB c (j+1) (r::s) p;cases i with
  |zero=>
   rw[qAS,e]at d;cases d;refine⟨f,m,o.imp qAf id,λa g b=>?_⟩;cases a with
   |zero=>rfl
   |succ a=>
    grind
  |succ i=>
   let⟨u,q,v,w⟩:=k i Cl l (by rw[show j+1+i=j+(i+1) by omega];exact d);simp at q;refine⟨u,q.2,v,λa g b=>?_⟩;cases a with
   |zero=>rw[qAS,e]at b;cases b;exact(q.1 rfl).elim
   |succ a=>exact congrArg _ (w a Cl (by rw[show j+1+a=j+(a+1) by omega];exact b))
def TD{l:Nat}:∀{eds:Be},aec l eds=true->Ed.o l .dead∈eds
 |[],h=>by cases h
 | .r _ _::e,h=>qAk _ (TD (eds:=e) h)
 | .w _::e,h=>qAk _ (TD (eds:=e) h)
 | .o b d::e,h=>by
  simp only[aec,qBe,qAa]at h;rcases h with⟨a,c⟩|h
  ·have:=qAj a
   grind
  exact qAk _ (TD h)
def Rb{k:Nat}:∀{eds:Be},k∈j3 eds->∃s,Ed.r k s∈eds
 |[],h=>by cases h
 | .r b s::e,h=>by
  simp only[j3,qAh]at h;rcases h with rfl|h
  ·grind
  let⟨s,a⟩:=Rb h;exact⟨s,qAk _ a⟩
 | .w _::e,h=>(by let⟨s,a⟩:=Rb (eds:=e) h;exact⟨s,qAk _ a⟩)
 | .o _ _::e,h=>(by let⟨s,a⟩:=Rb (eds:=e) h;exact⟨s,qAk _ a⟩)
def Ez(H:A0)(t:As)(k:Nat):(aU H t).getD k .unk=av H (nth .unk t k):=bZ H t (.tmp k)
def Em(H:A0)(t:As):(aU H t).length=t.length:=by rw[uM,qAi]
def mq{α:Type}{d:α}{l:List α}{n:Nat}(h:l.length<=n):nth d l n=d:=by rw[jF,List.getD,qAC h];rfl
section
variable {h' hJ:A0}{Lw:List Bx}{L:Nat→Bx}{n:Nat}
def agD{j l:Nat}(o:TObj)(h:ou Lw (aB h').length j=l):VW (aB h') Lw (gD j o) (gD l o)/\∀z,VW (aB h') Lw (eY j z o) (eY l z o):=by have sl:∀(e:ET) (x:List e.D),VW (aB h') Lw (.slice (x.map e.enc) (.tip j e.sz)) (.slice (x.map e.enc) (.tip l e.sz)):=λe x=>.same (by simp only[ren,xu,nV,h]);have p:∀z k,VW (aB h') Lw (.psl j z k) (.psl l z k):=λz k=>.same (by simp only[ren,h]);cases o with|own e x=>exact⟨sl e x,λz=>.unk _⟩|gone e x=>exact⟨sl e x,λz=>.unk _⟩|arr e x=>exact⟨.unk _,λz=>p z _⟩|gon k=>exact⟨.unk _,λz=>p z _⟩|_=>exact⟨.unk _,λz=>.unk _⟩
def azy{m:Nat}{d:HO}{b o a:TObj}{j l:Nat}(h:FO h' L m d b o a)(n:ou Lw (aB h').length j=l):VW (aB h') Lw (gD j o) (gD l a)/\∀z,VW (aB h') Lw (eY j z o) (eY l z a):=by
 cases d with
 |dead=>have e:o=.dead:=h;subst e;exact⟨.unk _,λz=>.unk _⟩
 |box c=>obtain⟨w,v,rfl,rfl,_⟩:=h;exact⟨.unk _,λz=>.unk _⟩
 |bx i=>
  rcases h with rfl|⟨_,_,_,_,rfl,_⟩
  ·exact⟨.unk _,λz=>.unk _⟩
  exact⟨.unk _,λz=>.unk _⟩
 |own e=>obtain⟨e,x,rfl,rfl⟩:=h;exact agD _ n
 |mp e=>obtain⟨e,x,rfl,rfl⟩:=h;exact⟨.unk _,λz=>.unk _⟩
 |arr e=>obtain⟨e,x,rfl,rfl⟩:=h;exact agD _ n
def jU{cs cs':An}(h:Rs (VW (aB h') Lw) cs cs'):cs.length=cs'.length/\∀j,VW (aB h') Lw (cs.getD j .unk) (cs'.getD j .unk):=by
 refine⟨h.len,λj=>?_⟩;by_cases a:j<cs.length;·exact h.get j a
 rw[List.getD,qAC (qBd a)];exact .unk _
def aIM(b:∀j l,L j=some l->ou Lw (aB h').length j=l)
  (look:∀j l,L j=some l->VW (aB h') Lw (gD j (nth .dead hJ j)) (gD l (nth .dead h' l))/\∀z,VW (aB h') Lw (eY j z (nth .dead hJ j)) (eY l z (nth .dead h' l)))
  (n:∀j,L j=none->VW (aB h') Lw (gD j (nth .dead hJ j)) (.slice [] .nils)/\∀z,VW (aB h') Lw (eY j z (nth .dead hJ j)) (.slice [] .nils)):
  Wk h' hJ L (λ_=>VW (aB h') Lw):=
 ⟨.unk _,λ_ _=>.unk _,λm a g d e=>(by
  generalize Nat.ble 1 m=q at e;cases e with|same=>exact .same (d _)|share i t=>have:=d (ou Lw (aB h').length);simp only[ren,AV.slice.injEq]at this;exact .share this.1|nilF=>exact .nilF),λm j l o h=>.same (by simp only[ren,b j l h]),λm j l h=>.same (by simp only[ren,b j l h]),λm j l h=>(look j l h).1,λm j h=>(n j h).1,
  λm j l z h=>(look j l h).2 z,λm j z h=>(n j h).2 z,λm s c h=>.eptr (jU h).1 (jU h).2,λm s c h=>.agg (jU h).1 (jU h).2,λm s c h=>.tup (jU h).1 (jU h).2,λm s c h=>.tup (jU h).1 (jU h).2,λm f s c h=>.func (jU h).1 (jU h).2,λm f s c h=>.func (jU h).1 (jU h).2⟩
mutual
theorem aiW(hW:Wk h' hJ L (fun _=>VW (aB h') Lw))(hL:∀j l,L j=some l→ou Lw (aB h').length j=l)(hn:∀j,j<n→L j=some j):∀v,rfB n v=true→VW (aB h') Lw (av hJ v) (av h' v)
 | .unk,_=>.unk _
 | .nilp,_=>.same rfl
 | .nilF,_=>.same rfl
 | .nils,_=>.same rfl
 | .lf t x,_=>.same (Lb _ t x)
 | .nat _,_=>.same rfl
 | .ptr l o,h=>hW.ptr 0 _ _ _ (hn l (qAf h))
 | .mapr l,h=>hW.mapr 0 _ _ (hn l (qAf h))
 | .ap l i z o,h=>hW.ptr 0 _ _ (i.toNat*z+o) (hn l (qAf h))
 | .own l,h=>hW.own 0 _ _ (hn l (qAf h))
 | .psl l z c,h=>by
  cases c with
  |none=>exact hW.psl 0 _ _ _ (hn l (qAf h))
  |some k=>exact .same (by simp only[av,ren,hL l l (hn l (qAf h))])
 | .eptr cs,h=>by simp only[av];exact hW.eptr 0 _ _ (adE hW hL hn cs h)
 | .agg cs,h=>by simp only[av];exact hW.agg 0 _ _ (adE hW hL hn cs h)
 | .tup cs,h=>by simp only[av];exact hW.tup0 0 _ _ (arO hW hL hn cs h)
 | .func f cs,h=>by simp only[av];exact hW.func0 0 f _ _ (arO hW hL hn cs h)
theorem adE(hW:Wk h' hJ L (fun _=>VW (aB h') Lw))(hL:∀j l,L j=some l→ou Lw (aB h').length j=l)(hn:∀j,j<n→L j=some j):∀vs,jw n vs=true→Rs (VW (aB h') Lw) (bq hJ vs) (bq h' vs)
 |[],_=>.nil
 |v::vs,h=>by
  simp only[jw,qAa]at h;have h1:=aiW hW hL hn v h.1;have h2:=adE hW hL hn vs h.2;simp only[bq];refine Rs.app ?_ h2;rcases tC v with ho|⟨e,x,rfl⟩
  ·rw[ho,ho];exact .cons h1 .nil
  ·simp only[AB];have:=(adL e x);generalize e.enc x=l at this;clear h1
   induction l with
   |nil=>exact .nil
   |cons a l ih=>exact .cons (.same (this a cn _)) (ih fun b hb=>this b (by simp[hb]))
theorem arO(hW:Wk h' hJ L (fun _=>VW (aB h') Lw))(hL:∀j l,L j=some l→ou Lw (aB h').length j=l)(hn:∀j,j<n→L j=some j):∀vs,jw n vs=true→Rs (VW (aB h') Lw) (aU hJ vs) (aU h' vs)
 |[],_=>.nil
 |v::vs,h=>by
  simp only[jw,qAa]at h;simp only[aU];exact .cons (aiW hW hL hn v h.1) (arO hW hL hn vs h.2)
end
def akE{n:Nat}:∀{vs:As},jw n vs=true->∀v∈vs,rfB n v=true
 |[],_,v,h=>by cases h
 |x::vs,h,v,hv=>by
  simp only[jw,qAa]at h;rcases qAh.1 hv with rfl|hv
  ·exact h.1
  exact akE h.2 v hv
def aBz{n:Nat}:∀(e:ET) (x:e.D),∀v∈Mx e x,rfB n v=true:=by intro e x v hv;cases e<;>simp only[Mx,qAh]at hv<;>(repeat' (rcases hv with rfl|hv))<;>first|rfl|(subst hv;rfl)
def Q5{n:Nat}:∀{vs:As},jw n vs=true->∀v∈aK vs,rfB n v=true
 |[],_,v,h=>by cases h
 |x::vs,h,v,hv=>by
  simp only[jw,qAa]at h;simp only[aK,qAr]at hv;rcases hv with hv|hv
  ·rcases tC x with o|⟨e,y,rfl⟩
   ·rw[wG o,qAK]at hv;subst hv;exact h.1
   exact aBz e y v hv
  exact Q5 h.2 v hv
theorem yY{n:Nat}:∀{h:A0} {l:Nat},Ji n h=true->nth .dead h l≠ .res/\∀cs,nth .dead h l=.box cs->jw n cs=true
 |[],l,_=>⟨λh=>(by cases h),λcs h=>(by cases h)⟩
 |o::s,l,h=>by
  simp only[Ji,qAa]at h;cases l with
  |zero=>
   have e:nth .dead (o::s) 0=o:=rfl
   grind
  |succ l=>exact yY (h:=s) h.2
def YF{cs vs:As}(l:(aK cs).length=(aK vs).length)(h:∀q,q<(aK cs).length->VW (aB h') Lw (av hJ ((aK cs).getD q .unk)) (av h' ((aK vs).getD q .unk))):OW (aB h') Lw (.box (bq hJ cs)) (.box (bq h' vs)):=by
 refine .box (by rw[l7,l7,<-pO,<-pO,l]) λj=>?_;rw[Qj,Qj];by_cases a:j<(aK cs).length;·grind
 rw[List.getD,qAC (qBd a)];exact .unk _
def Qo(g:Nat->Nat)(e:ET)(xs:List (Str×e.D)):(xs.map λp=>(p.1,e.one p.2)).map (λp=>(p.1,ren g p.2))=xs.map λp=>(p.1,e.one p.2):=by rw[qBh];refine qBu λp _=>?_;simp;rw[<-apM [] e p.2];cases e<;>simp only[ET.seg,av]<;>exact Lb _ _ _
def aIz(h:Wk h' hJ L (λ_=>VW (aB h') Lw))(a:∀j l,L j=some l->ou Lw (aB h').length j=l)(b:∀j,j<n->L j=some j)(o:TObj)(r:o≠ .res)(c:∀cs,o=.box cs->jw n cs=true):OW (aB h') Lw (gV hJ o) (gV h' o):=by cases o with|box cs=>exact .box (jU (adE h a b cs (c cs rfl))).1 (jU (adE h a b cs (c cs rfl))).2|own e x=>exact .tip _|gone e x=>exact .dead _|mp e x=>exact .same rfl (by simp only[gV,eU,Qo])|arr e x=>exact .same rfl (by simp only[gV,eU,nV])|gon k=>exact .dead _|dead=>exact .dead _|res=>exact(r rfl).elim
def aD2{m:Nat}(w:Wk h' hJ L (λ_=>VW (aB h') Lw))(p:∀j l,L j=some l->ou Lw (aB h').length j=l)(r:∀j,j<n->L j=some j){f:HO}{o g k:TObj}(h:FO h' L m f o g k)
  (s:∀i cs,f=.bx i->o=.box cs->jw n cs=true/\Kw o k (rU i)):OW (aB h') Lw (gV hJ g) (gV h' k):=by
 cases f with
 |dead=>have e:g=.dead:=h;subst e;exact .dead _
 |box cs=>obtain⟨D,v,rfl,rfl,d⟩:=h;exact .box (jU (d hJ _ w)).1 (jU (d hJ _ w)).2
 |bx i=>
  rcases h with rfl|⟨c,cs,v,rfl,rfl,rfl,d,t⟩
  ·exact .dead _
  let⟨u,y⟩:=s i c rfl rfl;have z:(aK v).length=(aK c).length/\∀q,rU i q=false->(aK v)[q]? =(aK c)[q]?:=by
   rcases y with e|⟨a,b,E,F,G,H⟩
   ·grind
   grind
  refine YF (d.trans z.1.symm) λq A=>?_;cases B:rU i q with
  |true=>exact(t q).1 B hJ _ w A
  |false=>
   have C:(aK c).getD q .unk∈aK c:=by
    grind
   have:=aiW w p r _ (Q5 u _ C)
   grind
 |own e=>obtain⟨e,x,rfl,rfl⟩:=h;exact .tip _
 |mp e=>obtain⟨e,x,rfl,rfl⟩:=h;exact .same rfl (by simp only[gV,eU,Qo])
 |arr e=>obtain⟨e,x,rfl,rfl⟩:=h;exact .same rfl (by simp only[gV,eU,nV])
end
section
variable {γ:Type}{b:γ}
def au8{α:Type}:∀(l:List α) (n:Nat) (K:Nat->Option γ),Jk l n K=K (n+l.length)|[],_,_=>rfl|_::l,n,K=>by simp only[Jk,au8 l,qAp];congr 1;omega
def Yj{α:Type}(l:List α)(K:Nat->Option γ):Jk l 0 K=K l.length:=by rw[au8,qAL]
def aJr{n N:Nat}{m:List (Nat×Nat)}{j:Nat}(h:j<n):LJ n N m j=some j:=by unfold LJ;rw[show Nat.blt j n=true from qCI h];rfl
def aDI{n N:Nat}{m:List (Nat×Nat)}{j:Nat}(a:n<=N)(h:N<=j):LJ n N m j=none:=by
 have e:∀k,k<=j->Nat.blt j k=false:=λk c=>by cases b:Nat.blt j k with|false=>rfl|true=>have:j<k:=qAf b;omega
 unfold LJ;rw[e n Cl,e N h];rfl
def ab8{n m:Nat}{T0 t':As}{h0 g:A0}{eds:Be}{K:Bm->Option γ}
  (hn:h0.length=n) (hm:m<=n) (wfT:jw n T0=true) (E:Ji n h0=true) (edw:fO n [] [] eds=true) (tl:T0.length=t'.length) (hl:n<=g.length)
  (I:∀k,k∉j3 eds->nth .unk T0 k=.unk∨nth .unk T0 k=nth .unk t' k)
  (C:∀l,l<n->((∀f,Ed.o l f∉eds)->Kw (nth .dead h0 l) (nth .dead g l) λ_=>false)/\∀U,Ed.o l (.bx U)∈eds->Kw (nth .dead h0 l) (nth .dead g l) (rU U))
  (V:aqF n eds t' g K=some b):
  ∃us,K us=some b/\∀T x,dW bS eds us T0 h0=(T,x)->T.length=T0.length/\n<=x.length/\Le m (aU g t') (aB g) (aU x T) (aB x):=by
 unfold aqF at V;rw[Yj]at V;simp only at V;let⟨G,hE⟩:=(bD V).resolve_right λh=>by cases h.2
 clear V;generalize W:LJ n (n+aD eds) (Py t' g n eds [])=L at G hE;have d:∀j,j<n->L j=some j:=λj c=>by rw[<-W];exact aJr c
 have J:∀j,n+aD eds<=j->L j=none:=λj c=>by rw[<-W];exact aDI (Nat.le_add_right _ _) c
 have M:=amB (aD eds) n [] G;let⟨us,hus,hB⟩:=KG eds n K [] [] edw (qAd _) hE;refine⟨us,hus,λT x hbl=>?_⟩;let⟨T1,H,q1,y⟩:=hB T0 h0 [] hn;rw[qAt,hbl]at q1;cases q1;refine⟨y.tl,by rw[y.hl];omega,?_⟩
 let N:=n+aD eds
 let A:List Bx:=(List.range N).map L
 have w:∀i,i<N->A[i]? =some (L i):=λi a=>by simp[A,a]
 have o:∀i,N<=i->A[i]? =none:=λi a=>by simp[A];omega
 have r:∀j l,L j=some l->ou A (aB g).length j=l:=λj l h=>by
  have c:j<N:=by
   apply qAn;intro c;rw[J j Cl]at h;cases h
  unfold ou;rw[w j c,h];rfl
 have u:∀j,n<=j->j<N->(∃l f,L j=some l/\Ed.w f∈eds/\FO g L 2 f .dead (nth .dead x j) (nth .dead g l))∨(L j=none/\2<=2/\∃e,nth .dead x j=.own e []∨nth .dead x j=.arr e []):=λj H X=>by
  have:=y.new (j - n) Cl;rw[show n+(j - n)=j from by omega]at this;exact this.imp (λ⟨l,f,e1,F,O⟩=>⟨l,f,e1,F.1,O⟩) id
 have look:∀j l,L j=some l->VW (aB g) A (gD j (nth .dead x j)) (gD l (nth .dead g l))/\∀z,VW (aB g) A (eY j z (nth .dead x j)) (eY l z (nth .dead g l)):=λj l c=>by
  by_cases t:j<n
  ·have e:=d j t;rw[c]at e;cases e;by_cases p:∃f,Ed.o j f∈eds
   ·let⟨f,p⟩:=p;exact azy (y.obj j f p) (r j j c)
   have D:∀f,Ed.o j f∉eds:=λf h=>p ⟨f,h⟩;rw[y.keepO j t D];rcases(C j t).1 D with e|⟨P,cs',e1,F,_⟩
   ·rw[e];exact agD _ (r j j c)
   rw[e1,F];exact⟨.unk _,λz=>.unk _⟩
  have B:j<N:=by
   apply qAn;intro B;rw[J j Cl]at c;cases c
  rcases u j Cl B with⟨l',f,e1,_,O⟩|⟨e1,_⟩
  ·rw[c]at e1;cases e1;exact azy O (r j l c)
  rw[c]at e1;cases e1
 have non:∀j,L j=none->VW (aB g) A (gD j (nth .dead x j)) (.slice [] .nils)/\∀z,VW (aB g) A (eY j z (nth .dead x j)) (.slice [] .nils):=λj c=>by
  by_cases B:j<N
  ·have Q:n<=j:=by
    apply qAn;intro t;rw[d j Cl]at c;cases c
   rcases u j Q B with⟨l',f,e1,_⟩|⟨_,_,e,e1|e1⟩
   ·rw[c]at e1;cases e1
   ·rw[e1];exact⟨.nils _ _,λz=>.unk _⟩
   rw[e1];exact⟨.unk _,λz=>.nilP _ _⟩
  rw[mq (by rw[y.hl];omega)];exact⟨.unk _,λz=>.unk _⟩
 have S:=aIM r look non;have R:∀k,VW (aB g) A (av x (nth .unk T k)) (av g (nth .unk t' k)):=λk=>by
  by_cases hk:k∈j3 eds
  ·let⟨s,hs⟩:=Rb hk;by_cases t:k<T0.length
   ·exact y.slot k s hs t x _ S
   rw[mq (by rw[y.tl];omega)];exact .unk _
  rw[y.keep k hk];rcases I k hk with e|e
  ·rw[e];exact .unk _
  rw[<-e];refine aiW S r d _ ?_;by_cases t:k<T0.length
  ·refine akE wfT _ ?_;rw[jF,List.getD,qAc t];exact qAO t
  rw[mq Cl];rfl
 have Y:∀i l,L i=some l->OW (aB g) A (gV x (nth .dead x i)) (gV g (nth .dead g l)):=λi l a=>by
  by_cases t:i<n
  ·have e:=d i t;rw[a]at e;cases e;by_cases p:∃f,Ed.o i f∈eds
   ·let⟨f,p⟩:=p;exact aD2 S r d (y.obj i f p) λU P e F=>⟨(yY E).2 P F,by subst e;exact(C i t).2 U p⟩
   have D:∀f,Ed.o i f∉eds:=λf h=>p ⟨f,h⟩;rw[y.keepO i t D];rcases(C i t).1 D with e|⟨P,cs',e1,F,O,e4⟩
   ·rw[e];exact aIz S r d _ (yY E).1 (yY E).2
   have hb:=(yY E).2 P e1;rw[e1,F];refine YF O.symm λq hq=>?_;have hm:(aK P).getD q .unk∈aK P:=by rw[List.getD,qAc hq];exact qAO hq
   have:=aiW S r d _ (Q5 hb _ hm);simp only[List.getD]at this|-;rw[e4 q rfl];exact this
  have B:i<N:=by
   apply qAn;intro B;rw[J i Cl]at a;cases a
  rcases u i Cl B with⟨l',f,e1,_,O⟩|⟨e1,_⟩
  ·rw[a]at e1;cases e1;exact aD2 S r d O λU P e F=>by cases F
  rw[a]at e1;cases e1
 refine Le.of A ⟨by rw[Em,Em,y.tl,tl],by simp[A,aB,y.hl,N],λi a=>by rw[w i Cl,d i Cl],?_,?_,λk=>by rw[Ez,Ez];exact R k,?_,?_⟩
 ·intro i j l a c li lj;have v:i<N:=by
   apply qAn;intro B;rw[o i Cl]at a;cases a
  have Z:j<N:=by
   apply qAn;intro B;rw[o j Cl]at c;cases c
  rw[w i v]at a;rw[w j Z]at c;have a:=Option.some.inj a;have c:=Option.some.inj c;have mix:∀i j,i<n->n<=j->j<N->L i=some l->L j=some l->live (obj? (aB x) i)->False:=λi j H X h3 a c li=>by
   have ei:i=l:=Option.some.inj ((d i H).symm.trans a);let⟨_,_,g3,_⟩:=M (j - n) Cl l (by rw[show n+(j - n)=j from by omega];exact c);rcases g3 with g3|g3
   ·omega
   have e:nth .dead x l=.dead:=y.obj l .dead (TD g3);rw[<-ei]at e;rw[kV,e]at li;exact li
  by_cases H:i<n
  ·by_cases X:j<n
   ·rw[d i H]at a;rw[d j X]at c;cases a;cases c;rfl
   exact(mix i j H Cl Z a c li).elim
  by_cases X:j<n
  ·exact(mix j i X Cl v c a lj).elim
  let⟨_,_,_,g4⟩:=M (j - n) Cl l (by rw[show n+(j - n)=j from by omega];exact c);have:=g4 (i - n) Cl (by rw[show n+(i - n)=i from by omega];exact a);omega
 ·intro i l a;have v:i<N:=by
   apply qAn;intro B;rw[o i Cl]at a;cases a
  rw[w i v]at a;have a:=Option.some.inj a;have hll:(aB g).length=g.length:=by simp[aB]
  rw[hll];by_cases H:i<n
  ·rw[d i H]at a;cases a;omega
  exact(M (i - n) Cl l (by rw[show n+(i - n)=i from by omega];exact a)).1
 ·intro i l a;have v:i<N:=by
   apply qAn;intro B;rw[o i Cl]at a;cases a
  rw[w i v]at a;have a:=Option.some.inj a;rw[kV,kV];exact Y i l a
 intro i a;have v:i<N:=by
  apply qAn;intro B;rw[o i Cl]at a;cases a
 rw[w i v]at a;have a:=Option.some.inj a;have Q:n<=i:=by
  apply qAn;intro t;rw[d i Cl]at a;cases a
 rw[kV];rcases u i Q v with⟨l',f,e1,_⟩|⟨_,_,e,e1|e1⟩
 ·rw[a]at e1;cases e1
 ·rw[e1];rfl
 rw[e1];rfl
end
end Abs
end Go.Proofs.YtneeginmfjageaaGreat
