/-
  Writes on typed states are those on abstract states; what was not written is as it was. Conditions: none; lemmas.
-/
import Derived.Test.YthgdaonechbgmaaGreatCTabox9f91bc
set_option linter.all false
namespace Go.Proofs.YthgdaonechbgmaaGreat
namespace Abs
section
open Go
noncomputable section
def iX(s:DS):ASt:=⟨aU s.h s.t,aB s.h⟩
def Lk(H H':List TObj)(l:Nat):Prop:=gD l (nth .dead H l)=gD l (nth .dead H' l)∧∀z,eY l z (nth .dead H l)=eY l z (nth .dead H' l)
theorem o9(n:Nat):Nat.beq n n=true:=Nat.beq_refl n
mutual
theorem Wn{H H':List TObj}:∀v:TV,(∀l,apk l v=true→Lk H H' l)→av H v=av H' v
 | .own l,h=>by simp only[av];exact(h l (o9 l)).1
 | .psl l z c,h=>by
  cases c with
  |none=>simp only[av,(h l (o9 l)).2 z]
  |some n=>rfl
 | .eptr cs,h=>by simp only[av];rw[Dl cs h]
 | .agg cs,h=>by simp only[av];rw[Dl cs h]
 | .tup cs,h=>by simp only[av];rw[YP cs h]
 | .func f cs,h=>by simp only[av];rw[YP cs h]
 | .unk,_=>rfl| .nilp,_=>rfl| .nilF,_=>rfl| .nils,_=>rfl| .lf _ _,_=>rfl| .nat _,_=>rfl| .ptr _ _,_=>rfl| .mapr _,_=>rfl| .ap _ _ _ _,_=>rfl
theorem Dl{H H':List TObj}:∀vs:List TV,(∀l,lQ l vs=true→Lk H H' l)→bq H vs=bq H' vs
 |[],_=>rfl
 |v::vs,h=>by
  simp only[bq];rw[Wn v fun l hl=>h l (by simp only[lQ,hl,qCj]),Dl vs fun l hl=>h l (by simp only[lQ,hl,qDm])]
theorem YP{H H':List TObj}:∀vs:List TV,(∀l,lQ l vs=true→Lk H H' l)→aU H vs=aU H' vs
 |[],_=>rfl
 |v::vs,h=>by
  simp only[aU];rw[Wn v fun l hl=>h l (by simp only[lQ,hl,qCj]),YP vs fun l hl=>h l (by simp only[lQ,hl,qDm])]
end
theorem aBy{H H':List TObj}(o:TObj)(h:∀cs,o=.box cs→∀l,lQ l cs=true→Lk H H' l):gV H o=gV H' o:=by
 cases o with
 |box cs=>simp only[gV];rw[Dl cs (h cs rfl)]
 |_=>rfl
theorem aFO(H:List TObj)(l:Nat)(o:TObj)(m:Nat):nth .dead (H.set l o) m=if l=m∧l<H.length then o else nth .dead H m:=by
 by_cases h:l=m
 ·subst h;by_cases hl:l<H.length
  ·rw[cK hl,if_pos ⟨rfl,hl⟩]
  ·rw[if_neg (fun h=>hl h.2),qBJ (qBd hl)]
 ·rw[aX h,if_neg (fun k=>h k.1)]
theorem QO{H:List TObj}{l:Nat}{o:TObj}(h:gD l (nth .dead H l)=gD l o∧∀z,eY l z (nth .dead H l)=eY l z o)(m:Nat):Lk H (H.set l o) m:=by
 unfold Lk;rw[aFO]
 grind
theorem acM{H:List TObj}{l:Nat}{o:TObj}{m:Nat}(h:l≠m):Lk H (H.set l o) m:=by
 unfold Lk;rw[aX h];exact⟨rfl,fun _=>rfl⟩
theorem DV{l:Nat}{o:TObj}(h:plainO o=true):gD l o=.unk∧∀z,eY l z o=.unk:=by
 cases o<;>first|exact⟨rfl,fun _=>rfl⟩|cases h
theorem asH{l:Nat}{o o':TObj}(h:plainO o=true)(h':plainO o'=true):gD l o=gD l o'∧∀z,eY l z o=eY l z o':=
 ⟨by rw[(DV h).1,(DV h').1],fun z=>by rw[(DV h).2,(DV h').2]⟩
def Yb(H H':List TObj)(t:List TV):Prop:=(∀v∈t,av H v=av H' v)∧∀m,(∀cs,nth .dead H m=.box cs→bq H cs=bq H' cs)
theorem QL{H H':List TObj}(t:List TV)(h:∀m,Lk H H' m):Yb H H' t:=⟨fun v _=>Wn v fun l _=>h l,fun m cs _=>Dl cs fun l _=>h l⟩
theorem anG:∀{t:List TV} {l:Nat} {v:TV},v∈t→lQ l t=false→apk l v=false
 |x::t,l,v,hv,h=>by
  simp only[lQ,qBL]at h;rcases qAh.1 hv with rfl|hv
  ·exact h.1
  ·exact anG hv h.2
theorem ajy:∀{H:List TObj} {l m:Nat} {cs:List TV},XA l H=false→nth .dead H m=.box cs→lQ l cs=false
 |[],l,m,cs,_,h=>by cases h
 |o::H,l,m,cs,h,hm=>by
  simp only[XA,qBL]at h;cases m with
  |zero=>have e:o=.box cs:=hm;subst e;exact h.1
  |succ m=>exact ajy h.2 hm
theorem aCB{H:List TObj}{t:List TV}{l:Nat}{o:TObj}(h1:lQ l t=false)(h2:XA l H=false):Yb H (H.set l o) t:=by
 refine⟨fun v hv=>Wn v fun m hm=>acM fun e=>?_,fun m cs hc=>Dl cs fun q hq=>acM fun e=>?_⟩
 ·subst e;rw[anG hv h1]at hm;cases hm
 ·subst e;rw[ajy h2 hc]at hq;cases hq
theorem arl{H H':List TObj}{t:List TV}(h:∀v∈t,av H v=av H' v):aU H t=aU H' t:=by
 rw[uM,uM];exact qBu h
theorem aB5{H:List TObj}{t:List TV}{l:Nat}{o:TObj}(h:Yb H (H.set l o) t):aB (H.set l o)=(aB H).set l (gV (H.set l o) o):=by
 have key:∀m,gV (H.set l o) (nth .dead H m)=gV H (nth .dead H m):=fun m=>(by
  cases hm:nth .dead H m with
  |box cs=>simp only[gV,h.2 m cs hm]
  |_=>rfl)
 unfold aB;generalize hH':H.set l o=H' at key;rw[←hH',qCN,hH'];congr 1;apply qBU;intro m;simp;cases hm:H[m]? with
 |none=>rfl
 |some x=>
  have:=key m;rw[jF,List.getD,hm]at this
  grind
theorem ni{α β:Type}:∀(l:List α) (n:Nat) (v:α) (K:List α→β),Ar l n v K=K (l.set n v)
 |[],_,_,_=>rfl
 |_::_,0,_,_=>rfl
 |x::xs,n+1,v,K=>(ni xs n v fun ys=>K (x::ys)).trans rfl
theorem auG{α γ:Type}{b:γ}:∀(l:List α) (n:Nat) (v:α) (K:List α→Option γ),aDt l n v K=some b→n<l.length∧K (l.set n v)=some b
 |[],_,_,_,h=>by cases h
 |_::_,0,_,_,h=>⟨by simp,h⟩
 |x::xs,n+1,v,K,h=>by
  obtain⟨h1,h2⟩:=auG xs n v (fun ys=>K (x::ys)) h
  grind
theorem aIE{γ:Type}(v:TV)(K:TV→Option γ):fV v K=K v:=by cases v<;>rfl
section
variable {γ:Type}{b:γ}
def W1(s:DS):TWr→DS→Prop
 | .sl n v,s'=>n<s.t.length∧s'=⟨s.t.set n v,s.h,n::s.d,s.o,s.up.filter fun i=>!(Nat.beq i n),s.rl.filter fun p=>!(Nat.beq p.1 n ||(Nat.beq p.2.1 n ||Nat.beq p.2.2 n)),s.cp.filter fun p=>!(Nat.beq p.1 n ||Nat.beq p.2 n),s.oo⟩
 | .ob l o,s'=>plainO o=true∧plainO (nth .dead s.h l)=true∧s'={s with h:=s.h.set l o,o:=(l,0)::s.o}
 | .st l off vs,s'=>∃cs cs',nth .dead s.h l=.box cs∧vS cs off vs some=some cs'∧s'={s with h:=s.h.set l (.box cs'),o:=(rng (off+1) (widths vs)).map (fun q=>(l,q))++s.o}
 | .kill l,s'=>(∃e xs,nth .dead s.h l=.own e xs∧s'={s with h:=s.h.set l (.gone e xs),o:=(l,0)::s.o})∨(∃e xs,nth .dead s.h l=.arr e xs∧s'={s with h:=s.h.set l (.gon xs.length),o:=(l,0)::s.o})∨(((∃cs,nth .dead s.h l=.box cs)∨∃e xs,nth .dead s.h l=.mp e xs)∧s'={s with h:=s.h.set l .dead,o:=(l,0)::s.o})
 | .nw l o,s'=>mh (nth .dead s.h l)=true∧(plainO o=true∨lQ l s.t=false∧XA l s.h=false)∧s'={s with h:=s.h.set l o,o:=(l,0)::s.o}
 | .up l i e y,s'=>∃xs,nth .dead s.h l=.arr e xs∧s'={s with h:=s.h.set l (.arr e (upd xs i y)),o:=(l,0)::s.o}
inductive Ws:DS→List TWr→DS→Prop where
 |nil (s:DS):Ws s [] s
 |cons {s s1 s2:DS} {w:TWr} {ws:List TWr}:W1 s w s1→Ws s1 ws s2→Ws s (w::ws) s2
theorem yT:∀(ws:List TWr) (s:DS) (K:DS→Option γ),F4 ws s K=some b→∃s',Ws s ws s'∧K s'=some b
 |[],s,K,h=>⟨s,.nil s,h⟩
 | .sl n v::ws,s,K,h=>by
  simp only[F4,aIE]at h;obtain⟨hn,h⟩:=auG _ _ _ _ h;obtain⟨s',h1,h2⟩:=yT ws _ _ h;exact⟨s',(.cons (w:=.sl n v) (s1:=_) ⟨hn,rfl⟩ h1),h2⟩
 | .ob l o::ws,s,K,h=>by
  simp only[F4,ni]at h;rcases bD h with⟨hc,h⟩|⟨_,h⟩
  ·simp only[qAa]at hc;obtain⟨s',h1,h2⟩:=yT ws _ _ h;exact⟨s',.cons ⟨hc.1,hc.2,rfl⟩ h1,h2⟩
  ·cases h
 | .st l off vs::ws,s,K,h=>by
  simp only[F4]at h;split at h
  ·rename_i cs hl;obtain⟨cs',h1,h2⟩:=am6 h;rw[ni]at h2;obtain⟨s',h3,h4⟩:=yT ws _ _ h2;exact⟨s',.cons ⟨cs,cs',hl,h1,rfl⟩ h3,h4⟩
  ·cases h
 | .kill l::ws,s,K,h=>by
  simp only[F4]at h;split at h
  ·rename_i e xs hl;rw[ni]at h;obtain⟨s',h1,h2⟩:=yT ws _ _ h;exact⟨s',.cons (.inl ⟨e,xs,hl,rfl⟩) h1,h2⟩
  ·rename_i e xs hl;rw[ni]at h;obtain⟨s',h1,h2⟩:=yT ws _ _ h;exact⟨s',.cons (.inr (.inl ⟨e,xs,hl,rfl⟩)) h1,h2⟩
  ·rename_i cs hl;rw[ni]at h;obtain⟨s',h1,h2⟩:=yT ws _ _ h;exact⟨s',.cons (.inr (.inr ⟨.inl ⟨cs,hl⟩,rfl⟩)) h1,h2⟩
  ·rename_i e xs hl;rw[ni]at h;obtain⟨s',h1,h2⟩:=yT ws _ _ h;exact⟨s',.cons (.inr (.inr ⟨.inr ⟨e,xs,hl⟩,rfl⟩)) h1,h2⟩
  ·cases h
 | .nw l o::ws,s,K,h=>by
  simp only[F4]at h;rcases bD h with⟨hc,h⟩|⟨_,h⟩
  ·simp only[qAa,qBe,qAV,qBL]at hc;rw[ni]at h;obtain⟨s',h1,h2⟩:=yT ws _ _ h;exact⟨s',.cons ⟨hc.1,hc.2,rfl⟩ h1,h2⟩
  ·cases h
 | .up l i e y::ws,s,K,h=>by
  simp only[F4]at h;split at h
  ·rename_i e' xs hl;split at h
   ·rename_i q _;subst q;rw[ni]at h;obtain⟨s',h1,h2⟩:=yT ws _ _ h;exact⟨s',.cons ⟨xs,hl,rfl⟩ h1,h2⟩
   ·cases h
  ·cases h
theorem Lm{s s':DS}{w:TWr}(h:W1 s w s'):Yb s.h s'.h s.t∧s'.h=wrH s.h w:=by
 cases w with
 |sl n v=>obtain⟨_,h2⟩:=h;subst h2;exact⟨⟨fun _ _=>rfl,fun _ _ _=>rfl⟩,rfl⟩
 |ob l o=>
  obtain⟨h1,h2,rfl⟩:=h;exact⟨QL _ (QO (asH h2 h1)),rfl⟩
 |st l off vs=>
  obtain⟨cs,cs',h1,h2,rfl⟩:=h;refine⟨QL _ (QO ?_),?_⟩
  ·rw[h1];exact⟨rfl,fun _=>rfl⟩
  ·simp only[wrH,h1,h2]
 |kill l=>
  rcases h with⟨e,xs,h1,rfl⟩|⟨e,xs,h1,rfl⟩|⟨⟨cs,h1⟩|⟨e,xs,h1⟩,rfl⟩<;>
  ·refine⟨QL _ (QO ?_),by simp only[wrH,h1]⟩;rw[h1];exact⟨rfl,fun _=>rfl⟩
 |nw l o=>
  obtain⟨h1,h2,rfl⟩:=h;refine⟨?_,rfl⟩;rcases h2 with h2|⟨h2,h3⟩
  ·refine QL _ (QO ?_);have e:nth .dead s.h l=.res:=by unfold mh at h1;split at h1;assumption;cases h1
   rw[e];exact⟨(DV h2).1.symm,fun z=>((DV h2).2 z).symm⟩
  ·exact aCB h2 h3
 |up l i e y=>
  obtain⟨xs,h1,rfl⟩:=h;refine⟨QL _ (QO ?_),?_⟩
  ·rw[h1];exact⟨rfl,fun _=>by simp only[eY,upd,qAT]⟩
  ·simp only[wrH,h1,ET.eq_self]
theorem aJQ{s s':DS}{w:TWr}(h:W1 s w s'):iX s'=(iX s).wr1 (GU s.h w):=by
 obtain⟨hs,hh⟩:=Lm h;have obj:∀l o,s'.t=s.t→s'.h=s.h.set l o→iX s'=(iX s).setObj l (gV (s.h.set l o) o):=fun l o h1 h2=>by
  unfold iX ASt.setObj;rw[h1,h2];rw[h2]at hs;rw[aB5 hs,arl (fun v hv=>(hs.1 v hv).symm)]
 cases w with
 |sl n v=>
  obtain⟨_,h2⟩:=h;subst h2;unfold iX;simp only[uM,qCN];rfl
 |ob l o=>obtain⟨_,_,rfl⟩:=h;exact obj l o rfl rfl
 |st l off vs=>
  obtain⟨cs,cs',h1,h2,rfl⟩:=h;rw[obj l (.box cs') rfl rfl];have e:bq (s.h.set l (.box cs')) cs'=bq s.h cs':=(Dl cs' fun m _=>QO (by rw[h1];exact⟨rfl,fun _=>rfl⟩) m).symm;simp only[GU,h1,gV,ASt.wr1,e,(auV s.h h2).1]
 |kill l=>
  rcases h with⟨e,xs,h1,rfl⟩|⟨e,xs,h1,rfl⟩|⟨_,rfl⟩<;>exact obj l _ rfl rfl
 |nw l o=>obtain⟨_,_,rfl⟩:=h;exact obj l o rfl rfl
 |up l i e y=>
  obtain⟨xs,h1,rfl⟩:=h;rw[obj l _ rfl rfl];simp only[GU,h1,ET.eq_self,gV,ASt.wr1]
theorem aDY{s s':DS}{ws:List TWr}(h:Ws s ws s'):iX s'=(iX s).wr (Cj s.h ws):=by
 induction h with
 |nil s=>rfl
 |cons h _ ih=>
  rw[ih,aJQ h];simp only[(Lm h).2];rfl
end
end
end
section
open Go
noncomputable section
def Mx:(e:ET)→e.D→List TV
 | .i,x=>[.lf (.n .i64) x]| .u,x=>[.lf (.n .u8) x]| .s,x=>[.lf .s x]| .b,x=>[.lf .b x]
 | .car,x=>[.lf .s x.name,.lf (.l .s) x.elems]
 | .dec,x=>[.lf .s x.name,.lf (.n .i64) x.ty.kind,.lf .s x.ty.name,.lf (.l .ty) x.ty.kids]
 | .ty,x=>[.lf (.n .i64) x.kind,.lf .s x.name,.lf (.l .ty) x.kids]
 | .tm,x=>[.lf (.n .i64) x.op,.lf .s x.name,.lf (.n .i64) x.n,.lf (.n .i64) x.ty.kind,.lf .s x.ty.name,.lf (.l .ty) x.ty.kids,.lf (.l .tm) x.kids]
 | .env,x=>[.lf (.l .car) x.carriers,.lf (.l .dec) x.names]
 | .val,x=>[.lf (.n .i64) x.kind,.lf (.n .i64) x.n,.lf .s x.name,.lf (.l .val) x.kids]
 | .bnd,x=>[.lf .s x.name,.lf (.n .i64) x.v.kind,.lf (.n .i64) x.v.n,.lf .s x.v.name,.lf (.l .val) x.v.kids]
 | .vals,x=>[.lf (.l .val) x]| .tms,x=>[.lf (.l .tm) x]
def Uv:TV→List TV
 | .lf (.t e) x=>Mx e x
 |v=>[v]
def aK:List TV→List TV
 |[]=>[]
 |v::vs=>Uv v++aK vs
theorem zI:∀a b:List TV,aK (a++b)=aK a++aK b
 |[],_=>rfl
 |v::a,b=>by simp only[qAM,aK,zI a b,qAm]
theorem am9:∀(e:ET) (x:e.D),(Mx e x).length=e.sz
 | .i,_=>rfl| .u,_=>rfl| .s,_=>rfl| .b,_=>rfl| .car,_=>rfl| .dec,_=>rfl| .ty,_=>rfl| .tm,_=>rfl| .env,_=>rfl| .val,_=>rfl| .bnd,_=>rfl| .vals,_=>rfl| .tms,_=>rfl
theorem Ik(v:TV):(Uv v).length=width v:=by
 rcases tC v with h|⟨e,x,rfl⟩
 ·cases v with
  |lf t x=>cases t<;>first|rfl|exact am9 _ _
  |_=>rfl
 ·exact am9 e x
theorem pO:∀vs,(aK vs).length=widths vs
 |[]=>rfl
 |v::vs=>by simp only[aK,qAe,Ik,pO vs,widths]
theorem wG{v:TV}(h:one v):Uv v=[v]:=by
 cases v with
 |lf t x=>cases t<;>first|rfl|(rename_i e;have:=h (.tup []);simp only[AB]at this;cases e<;>first|(simp only[ET.enc]at this;cases this;done)|(simp[ET.enc,lU,uU,iC]at this;done))
 |_=>rfl
theorem aA8(H:List TObj):∀(e:ET) (x:e.D),(Mx e x).map (av H)=e.enc x
 | .i,_=>rfl| .u,_=>rfl| .s,_=>rfl| .b,_=>rfl| .car,_=>rfl
 | .dec,x=>by have:=lU x.ty;simp only[ET.enc];rfl
 | .ty,x=>by simp only[ET.enc,lU];rfl
 | .tm,x=>by have:=lU x.ty;simp only[ET.enc,uU];rfl
 | .env,_=>rfl
 | .val,x=>by simp only[ET.enc,iC];rfl
 | .bnd,x=>by have:=iC x.v;simp only[ET.enc,this];rfl
 | .vals,_=>rfl| .tms,_=>rfl
theorem agr(H:List TObj):∀vs,(aK vs).map (av H)=bq H vs
 |[]=>rfl
 |v::vs=>by
  simp only[aK,qBj,agr H vs];congr 1;cases v with
  |lf t x=>cases t<;>first|rfl|exact aA8 H _ _
  |_=>rfl
theorem atY(e:ET)(x:e.D):aK (comps e x)=Mx e x:=by cases e<;>rfl
section
variable {γ:Type}{b:γ}
theorem CZ:∀(f:Nat) (cs:List TV) (n:Nat) (K:List TV→List TV→Option γ),splitK f cs n K=some b→∃a r,aK cs=aK a++aK r∧(aK a).length=n∧K a r=some b:=by
 intro f
 induction f with
 |zero=>intro cs n K h;cases h
 |succ f ih=>
  intro cs n K h;unfold splitK at h;cases n with
  |zero=>exact⟨[],cs,rfl,rfl,h⟩
  |succ m=>
   cases cs with
   |nil=>cases h
   |cons c r=>
    rcases bD h with⟨hw,h⟩|⟨_,h⟩
    ·obtain⟨a,r',h1,h2,h3⟩:=ih _ _ _ h;have hw:=qAf hw;refine⟨c::a,r',?_,?_,h3⟩
     ·simp only[aK,h1,qAm]
     ·simp only[aK,qAe,Ik];omega
    ·split at h
     ·rename_i e x;obtain⟨a,r',h1,h2,h3⟩:=ih _ _ _ h;refine⟨a,r',?_,h2,h3⟩;rw[←h1,zI,atY];rfl
     ·cases h
theorem KP{cs cs' vs:List TV}{off:Nat}(h:vS cs off vs some=some cs'):aK cs'=(aK cs).take off++aK vs++(aK cs).drop (off+(aK vs).length)∧off+(aK vs).length≤(aK cs).length:=by
 unfold vS at h;obtain⟨a,r,h1,h2,h3⟩:=CZ _ _ _ _ h;obtain⟨c,r',h4,h5,h6⟩:=CZ _ _ _ _ h3;cases h6;rw[←pO vs]at h5;have e1:(aK cs).take off=aK a:=by rw[h1,←h2,qDx]
 have e2:(aK cs).drop (off+(aK vs).length)=aK r':=by
  rw[h1,h4,←qAm,qDs (by simp only[qAe];omega)]
 refine⟨by rw[zI,zI,e1,e2,qAm],?_⟩;rw[h1,h4];simp only[qAe];omega
end
mutual
def fu(g:Nat→Nat):Sk→List U→TV×List U
 | .unk,us=>(.unk,us)
 | .nilp,us=>(.nilp,us)
 | .nilF,us=>(.nilF,us)
 | .k c,us=>(.lf c.t c.x,us)
 | .nils,us=>(.nils,us)
 | .lf _,us=>match us with
  |u::us=>(.lf u.t u.x,us)
  |[]=>(.unk,[])
 | .ptr l o,us=>(.ptr (g l) o,us)
 | .eptr cs,us=>(.eptr (iH g cs us).1,(iH g cs us).2)
 | .agg cs,us=>(.agg (iH g cs us).1,(iH g cs us).2)
 | .tup cs,us=>(.tup (iH g cs us).1,(iH g cs us).2)
 | .func f cs,us=>(.func f (iH g cs us).1,(iH g cs us).2)
 | .mapr l,us=>(.mapr (g l),us)
 | .own l,us=>(.own (g l),us)
 | .psl l z,us=>(.psl (g l) z none,us)
def iH(g:Nat→Nat):List Sk→List U→List TV×List U
 |[],us=>([],us)
 |s::ss,us=>((fu g s us).1::(iH g ss (fu g s us).2).1,(iH g ss (fu g s us).2).2)
end
section
variable {β:Type}(g:Nat→Nat)
mutual
theorem fill_eq:∀(s:Sk) (us:List U) (K:TV→List U→β),fill g s us K=K (fu g s us).1 (fu g s us).2
 | .unk,_,_=>rfl
 | .nilp,_,_=>rfl
 | .nilF,_,_=>rfl
 | .k _,_,_=>rfl
 | .nils,_,_=>rfl
 | .lf _,us,_=>by cases us<;>rfl
 | .ptr _ _,_,_=>rfl
 | .eptr cs,us,K=>by simp only[fill,fu,KY cs us]
 | .agg cs,us,K=>by simp only[fill,fu,KY cs us]
 | .tup cs,us,K=>by simp only[fill,fu,KY cs us]
 | .func _ cs,us,K=>by simp only[fill,fu,KY cs us]
 | .mapr _,_,_=>rfl
 | .own _,_,_=>rfl
 | .psl _ _,_,_=>rfl
theorem KY:∀(ss:List Sk) (us:List U) (K:List TV→List U→β),fills g ss us K=K (iH g ss us).1 (iH g ss us).2
 |[],_,_=>rfl
 |s::ss,us,K=>by simp only[fills,iH,fill_eq s us,KY ss]
end
end
def kD(g:Nat→Nat):List (Nat×Sk)→Option (List TV)→List U→Option (List TV)×List U
 |[],c,us=>(c,us)
 |p::ps,c,us=>kD g ps (c.bind fun cs=>vS cs p.1 [(fu g p.2 us).1] some) (fu g p.2 us).2
theorem YB{β:Type}(g:Nat→Nat):∀(ps:List (Nat×Sk)) (c:Option (List TV)) (us:List U) (K:Option (List TV)→List U→β),Ze g ps c us K=K (kD g ps c us).1 (kD g ps c us).2
 |[],_,_,_=>rfl
 |p::ps,c,us,K=>by
  simp only[Ze,kD,fill_eq];cases c with
  |none=>exact YB g ps none _ K
  |some cs=>
   simp only[qAb];split
   ·rename_i e;rw[e];exact YB g ps _ _ K
   ·rename_i e;rw[e];exact YB g ps _ _ K
def bR(g:Nat→Nat)(o:TObj):HO→List U→TObj×List U
 | .dead,us=>(.dead,us)
 | .box cs,us=>(.box (iH g cs us).1,(iH g cs us).2)
 | .bx l,us=>match o with
  | .box cs=>((match(kD g l (some cs) us).1 with|some cs=>.box cs|none=>.dead),(kD g l (some cs) us).2)
  |_=>(.dead,(kD g l none us).2)
 | .own _,us=>match us with
  |⟨.l e,xs⟩::us=>(.own e xs,us)
  |us=>(.dead,us)
 | .mp _,us=>match us with
  |⟨.m e,xs⟩::us=>(.mp e xs,us)
  |us=>(.dead,us)
 | .arr _,us=>match us with
  |⟨.l e,xs⟩::us=>(.arr e xs,us)
  |us=>(.dead,us)
theorem aqg{β:Type}(g:Nat→Nat)(o:TObj)(h:HO)(us:List U)(K:TObj→List U→β):UG g o h us K=K (bR g o h us).1 (bR g o h us).2:=by
 cases h with
 |dead=>rfl
 |box cs=>simp only[UG,bR,KY]
 |bx l=>
  cases o<;>simp only[UG,bR,YB]
  grind
 |own e=>simp only[UG,bR];split<;>first|rfl|(rename_i h;split<;>first|rfl|(rename_i h2;exact(h _ _ _ rfl).elim))
 |mp e=>simp only[UG,bR];split<;>first|rfl|(rename_i h;split<;>first|rfl|(rename_i h2;exact(h _ _ _ rfl).elim))
 |arr e=>simp only[UG,bR];split<;>first|rfl|(rename_i h;split<;>first|rfl|(rename_i h2;exact(h _ _ _ rfl).elim))
def dW(g:Nat→Nat):List Ed→List U→List TV→List TObj→List TV×List TObj
 |[],_,t,h=>(t,h)
 | .r n s::es,us,t,h=>dW g es (fu g s us).2 (t.set n (fu g s us).1) h
 | .o l s::es,us,t,h=>dW g es (bR g (nth .dead h l) s us).2 t (h.set l (bR g (nth .dead h l) s us).1)
 | .w s::es,us,t,h=>dW g es (bR g .dead s us).2 t (h++[(bR g .dead s us).1])
theorem ap2{α β:Type}:∀(l:List α) (v:α) (K:List α→β),aDj l v K=K (l++[v])
 |[],_,_=>rfl
 |x::xs,v,K=>(ap2 xs v fun ys=>K (x::ys)).trans rfl
theorem Ry{β:Type}(g:Nat→Nat):∀(es:List Ed) (us:List U) (t:List TV) (h:List TObj) (K:List TV→List TObj→β),Qw g es us t h K=K (dW g es us t h).1 (dW g es us t h).2
 |[],_,_,_,_=>rfl
 | .r n s::es,us,t,h,K=>by simp only[Qw,dW,fill_eq,ni,Ry g es]
 | .o l s::es,us,t,h,K=>by simp only[Qw,dW,aqg,ni,Ry g es]
 | .w s::es,us,t,h,K=>by simp only[Qw,dW,aqg,ap2,Ry g es]
inductive Rs(R:AV→AV→Prop):List AV→List AV→Prop where
 |nil:Rs R [] []
 |cons {x y:AV} {xs ys:List AV}:R x y→Rs R xs ys→Rs R (x::xs) (y::ys)
theorem Rs.app{R:AV→AV→Prop}{a b c d:List AV}(h:Rs R a c)(k:Rs R b d):Rs R (a++b) (c++d):=by
 induction h with
 |nil=>exact k
 |cons h _ ih=>exact .cons h ih
theorem Rs.len{R:AV→AV→Prop}{a c:List AV}(h:Rs R a c):a.length=c.length:=by
 induction h with
 |nil=>rfl
 |cons _ _ ih=>simp[ih]
theorem Rs.get{R:AV→AV→Prop}{a c:List AV}(h:Rs R a c):∀j,j<a.length→R (a.getD j .unk) (c.getD j .unk):=by
 induction h with
 |nil=>intro j hj;cases hj
 |cons h1 _ ih=>intro j hj;cases j with
  |zero=>exact h1
  |succ j=>exact ih j (by simpa using hj)
structure Wk(H Hf:List TObj)(L:Nat→Option Nat)(R:Nat→AV→AV→Prop):Prop where
 unk0:R 0 .unk .unk
 unk:∀m a,R (m+1) .unk a
 fix:∀m a a',(∀g,ren g a=a)→Cv (Nat.ble 1 m) a a'→R m a a'
 ptr:∀m j l o,L j=some l→R m (.ptr j o) (.ptr l o)
 mapr:∀m j l,L j=some l→R m (.mapr j) (.mapr l)
 own:∀m j l,L j=some l→R m (av Hf (.own j)) (av H (.own l))
 ownN:∀m j,L j=none→R (m+2) (av Hf (.own j)) (.slice [] .nils)
 psl:∀m j l z,L j=some l→R m (av Hf (.psl j z none)) (av H (.psl l z none))
 pslN:∀m j z,L j=none→R (m+2) (av Hf (.psl j z none)) (.slice [] .nils)
 eptr:∀m cs cs',Rs (R 0) cs cs'→R m (.eptr cs) (.eptr cs')
 agg:∀m cs cs',Rs (R m) cs cs'→R m (.agg cs) (.agg cs')
 tup2:∀m cs cs',Rs (R (m+2)) cs cs'→R (m+2) (.tup cs) (.tup cs')
 tup0:∀m cs cs',Rs (R 0) cs cs'→R m (.tup cs) (.tup cs')
 func2:∀m f cs cs',Rs (R (m+2)) cs cs'→R (m+2) (.func f cs) (.func f cs')
 func0:∀m f cs cs',Rs (R 0) cs cs'→R m (.func f cs) (.func f cs')
theorem aqA{g:Nat→Nat}:∀{l:List AV},eT g l=l→∀a∈l,ren g a=a
 |[],_,a,h=>by cases h
 |x::l,h,a,ha=>by
  simp only[eT,List.cons.injEq]at h;rcases qAh.1 ha with rfl|ha
  ·exact h.1
  ·exact aqA h.2 a ha
theorem adL(e:ET)(x:e.D):∀a∈e.enc x,∀g,ren g a=a:=fun a ha g=>aqA (ac2 e g x) a ha
theorem ane(u:U):∀a∈Gl u,∀g,ren g a=a:=by
 intro a ha g;rcases tC (.lf u.t u.x)with h|⟨e,x,h⟩
 ·unfold Gl at ha;rw[h]at ha;rw[qAK]at ha;subst ha;exact Lb g _ _
 ·obtain⟨t,y⟩:=u;obtain⟨rfl,h⟩:=h;exact adL e y a ha g
theorem Cvs.rs{H Hf:List TObj}{L:Nat→Option Nat}{R:Nat→AV→AV→Prop}(hW:Wk H Hf L R){m:Nat}{xs ys:List AV}(h:Cvs (Nat.ble 1 m) xs ys):(∀a∈xs,∀g,ren g a=a)→Rs (R m) xs ys:=by
 generalize hq:Nat.ble 1 m=q at h
 induction h with
 |nil=>intro _;exact .nil
 |cons h _ ih=>subst hq;intro hf;exact .cons (hW.fix _ _ _ (hf _ (by simp)) h) (ih fun a ha=>hf a (by simp[ha]))
end
end
section
open Go
section
variable {γ:Type}{b:γ}{H:List TObj}{L:Nat→Option Nat}
theorem aD3{w:Bool}{t:LT}{v:TV}{K:t.D→Option γ}(ht:∀e,t≠ .t e)(h:(vH H w t v fun u=>kZ t u K)=some b):∃x,K x=some b∧one v∧Cv w (kr t x) (av H v):=by
 rcases tC v with h1|⟨e,x,rfl⟩
 ·obtain⟨u,h2,h3,_⟩:=ahu h1 h;obtain⟨x,rfl,h4⟩:=kS h2
  grind
 ·simp only[vH]at h;obtain⟨y,h5,_⟩:=kS h
  grind
theorem ayT{a:AV}{xs:List AV}(h:eO a=some xs)(hl:xs.length≠1):a=.agg xs:=by
 cases a<;>simp only[eO]at h<;>cases h<;>first|rfl|exact(hl rfl).elim
theorem akh{a:Option Nat}{l:Nat}(h:oeq a l=true):a=some l:=by
 cases a with
 |none=>cases h
 |some x=>exact congrArg some (qAj h)
theorem sz2:∀{e:ET},e.sc=false→e.sz≠1
 | .i,h=>by cases h
 | .u,h=>by cases h
 | .s,h=>by cases h
 | .b,h=>by cases h
 | .car,_=>by decide
 | .dec,_=>by decide
 | .ty,_=>by decide
 | .tm,_=>by decide
 | .env,_=>by decide
 | .val,_=>by decide
 | .bnd,_=>by decide
 | .vals,h=>by cases h
 | .tms,h=>by cases h
theorem CU.aKx:∀(c:CU) (e:ET),c.t≠ .t e:=by intro c e h;cases c<;>cases h
mutual
theorem aH3:∀{a c:Ty},aDe a c=true→a=c
 | .mk k s l,.mk k' s' l',h=>by
  simp only[aDe,qAa]at h;rw[of_decide_eq_true h.1,eq_of_beq h.2.1,alm h.2.2]
theorem alm:∀{a c:List Ty},agK a c=true→a=c
 |[],[],_=>rfl
 |x::xs,y::ys,h=>by
  simp only[agK,qAa]at h;rw[aH3 h.1,alm h.2]
 |[],_::_,h=>by simp[agK]at h
 |_::_,[],h=>by simp[agK]at h
end
theorem CU.aDS:∀{c:CU} {x:c.t.D},c.is x=true→x=c.x:=by
 intro c x h;cases c with
 |n k y=>exact of_decide_eq_true (p:=(show Int from x)=y) h
 |b y=>exact(eq_of_beq (α:=Bool) h).symm
 |s y=>exact eq_of_beq (α:=Str) h
 |l e=>exact qCD.1 h
 |ly z=>exact(alm h).symm
theorem CU.one(c:CU):one (.lf c.t c.x):=by cases c<;>exact fun _=>rfl
theorem CU.width(c:CU):width (.lf c.t c.x)=yg (.k c):=by cases c<;>rfl
def aFX(H:List TObj)(L:Nat→Option Nat)(m:Nat)(s:Sk)(v:TV)(K:List U→Option γ)(b:γ):Prop:=
 ∃us w,K us=some b∧(∀rest,fu bS s (us++rest)=(w,rest))∧((∀t,s≠ .lf t)→one w)∧width w=yg s∧∀Hf R,Wk H Hf L R→R m (av Hf w) (av H v)
def aKr(H:List TObj)(L:Nat→Option Nat)(m:Nat)(ss:List Sk)(vs:List TV)(K:List U→Option γ)(b:γ):Prop:=
 ∃us ws,K us=some b∧(∀rest,iH bS ss (us++rest)=(ws,rest))∧∀Hf R,Wk H Hf L R→Rs (R m) (aU Hf ws) (aU H vs)
def aCE(H:List TObj)(L:Nat→Option Nat)(m:Nat)(ss:List Sk)(vs:List TV)(K:List U→Option γ)(b:γ):Prop:=
 ∃us ws,K us=some b∧(∀rest,iH bS ss (us++rest)=(ws,rest))∧∀Hf R,Wk H Hf L R→Rs (R m) (bq Hf ws) (bq H vs)
theorem Zn{w:TV}(h:∀e x,w≠ .lf (.t e) x):one w:=(tC w).elim id fun⟨e,x,q⟩=>(h e x q).elim
set_option linter.unusedVariables false in
mutual
theorem ate:∀(s:Sk) (m:Nat) (v:TV) (K:List U→Option γ),ext m H L s v K=some b→aFX H L m s v K b
 | .unk,m,v,K,h=>by
  simp only[ext]at h;cases m with
  |zero=>
   cases v with
   |unk=>exact⟨[],.unk,h,fun rest=>rfl,fun _=>fun _=>rfl,rfl,fun Hf R hW=>hW.unk0⟩
   |_=>cases h
  |succ m=>exact⟨[],.unk,h,fun rest=>rfl,fun _=>fun _=>rfl,rfl,fun Hf R hW=>hW.unk m _⟩
 | .nilp,m,v,K,h=>by
  simp only[ext]at h;cases v with
  |nilp=>exact⟨[],.nilp,h,fun rest=>rfl,fun _=>fun _=>rfl,rfl,fun Hf R hW=>hW.fix m _ _ (fun _=>rfl) (.same _ _)⟩
  |_=>cases h
 | .nilF,m,v,K,h=>by
  simp only[ext]at h;cases v with
  |nilF=>exact⟨[],.nilF,h,fun rest=>rfl,fun _=>fun _=>rfl,rfl,fun Hf R hW=>hW.fix m _ _ (fun _=>rfl) (.same _ _)⟩
  |_=>cases h
 | .nils,m,v,K,h=>by
  simp only[ext]at h;cases v with
  |nils=>exact⟨[],.nils,h,fun rest=>rfl,fun _=>fun _=>rfl,rfl,fun Hf R hW=>hW.fix m _ _ (fun _=>rfl) (.same _ _)⟩
  |_=>cases h
 | .k c,m,v,K,h=>by
  simp only[ext]at h;obtain⟨x,h1,h2,h3⟩:=aD3 (CU.aKx c) h;obtain⟨hc,h4⟩:=(bD h1).resolve_right fun h=>by cases h.2
  have e:=CU.aDS hc;subst e;exact⟨[],.lf c.t c.x,h4,fun rest=>rfl,fun _=>CU.one c,CU.width c,fun Hf R hW=>hW.fix m _ _ (Lb · c.t c.x) h3⟩
 | .lf t,m,v,K,h=>by
  have leaf:(∀e,t≠ .t e)→(vH H (Nat.ble 1 m) t v fun u=>kZ t u fun x=>K [⟨t,x⟩])=some b→aFX H L m (.lf t) v K b:=fun ht h=>by
   obtain⟨x,h1,h2,h3⟩:=aD3 ht h;exact⟨[⟨t,x⟩],.lf t x,h1,fun rest=>rfl,fun hn=>(hn t rfl).elim,by cases t<;>first|rfl|exact(ht _ rfl).elim,fun Hf R hW=>hW.fix m _ _ (Lb · t x) h3⟩
  simp only[ext]at h;cases t with
  |t e=>
   simp only at h;rcases bD h with⟨_,h⟩|⟨hsc,h⟩
   ·cases h
   ·split at h
    ·rename_i cs hc;obtain⟨u,r,xs,h1,h2,h3⟩:=Xx _ _ _ _ h;split at h1
     ·obtain⟨x,rfl,h4⟩:=kS h1;refine⟨[⟨.t e,x⟩],.lf (.t e) x,h4,fun rest=>rfl,fun hn=>(hn _ rfl).elim,rfl,fun Hf R hW=>?_⟩;have hxs:eO (av H v)=some xs:=by rw[IV hc,h2];simp only[bq,qAt]
      have hl:xs.length=e.sz:=by rw[←h3.len];exact LW e x
      rw[ayT hxs (by rw[hl];exact sz2 hsc)];exact hW.agg m _ _ (h3.rs hW (adL e x))
     ·cases h1
    ·cases h
  |_=>exact leaf (fun e h=>by cases h) h
 | .ptr j o,m,v,K,h=>by
  simp only[ext]at h;cases v with
  |ptr l o'=>
   simp only at h;rcases bD h with⟨hc,g⟩|⟨_,g⟩
   ·simp only[qAa]at hc;have e1:=qAj hc.1;subst e1;exact⟨[],.ptr j o,g,fun rest=>rfl,fun _=>fun _=>rfl,rfl,fun Hf R hW=>hW.ptr m _ _ _ (akh hc.2)⟩
   ·cases g
  |_=>cases h
 | .mapr j,m,v,K,h=>by
  simp only[ext]at h;cases v with
  |mapr l=>
   simp only at h;rcases bD h with⟨hc,g⟩|⟨_,g⟩
   ·exact⟨[],.mapr j,g,fun rest=>rfl,fun _=>fun _=>rfl,rfl,fun Hf R hW=>hW.mapr m _ _ (akh hc)⟩
   ·cases g
  |_=>cases h
 | .own j,m,v,K,h=>by
  simp only[ext]at h;cases v with
  |own l=>
   simp only at h;rcases bD h with⟨hc,g⟩|⟨_,g⟩
   ·exact⟨[],.own j,g,fun rest=>rfl,fun _=>fun _=>rfl,rfl,fun Hf R hW=>hW.own m _ _ (akh hc)⟩
   ·cases g
  |nils=>
   simp only at h;rcases bD h with⟨hc,g⟩|⟨_,g⟩
   ·simp only[qAa]at hc;obtain⟨m,rfl⟩:∃k,m=k+2:=⟨m - 2,by have:=qAf hc.1;omega⟩;exact⟨[],.own j,g,fun rest=>rfl,fun _=>fun _=>rfl,rfl,fun Hf R hW=>hW.ownN m j (by cases hl:L j with|none=>rfl|some x=>rw[hl]at hc;cases hc.2)⟩
   ·cases g
  |_=>cases h
 | .psl j z,m,v,K,h=>by
  simp only[ext]at h;split at h
  ·rename_i l z';rcases bD h with⟨hc,g⟩|⟨_,g⟩
   ·simp only[qAa]at hc;have e1:=qAj hc.2;subst e1;exact⟨[],.psl j z none,g,fun rest=>rfl,fun _=>fun _=>rfl,rfl,fun Hf R hW=>hW.psl m _ _ _ (akh hc.1)⟩
   ·cases g
  ·rcases bD h with⟨hc,g⟩|⟨_,g⟩
   ·simp only[qAa]at hc;obtain⟨m,rfl⟩:∃k,m=k+2:=⟨m - 2,by have:=qAf hc.1;omega⟩;exact⟨[],.psl j z none,g,fun rest=>rfl,fun _=>fun _=>rfl,rfl,fun Hf R hW=>hW.pslN m j z (by cases hl:L j with|none=>rfl|some x=>rw[hl]at hc;cases hc.2)⟩
   ·cases g
  ·cases h
 | .eptr cs,m,v,K,h=>by
  simp only[ext]at h;cases v with
  |eptr vs=>
   obtain⟨us,ws,h1,h2,h3⟩:=IB cs 0 vs K h;exact⟨us,.eptr ws,h1,fun rest=>by simp only[fu,h2],fun _=>fun _=>rfl,rfl,fun Hf R hW=>by simp only[av];exact hW.eptr m _ _ (h3 Hf R hW)⟩
  |_=>cases h
 | .agg cs,m,v,K,h=>by
  simp only[ext]at h;split at h
  ·rename_i vs;obtain⟨us,ws,h1,h2,h3⟩:=IB cs m vs K h;exact⟨us,.agg ws,h1,fun rest=>by simp only[fu,h2],fun _=>fun _=>rfl,rfl,fun Hf R hW=>by simp only[av];exact hW.agg m _ _ (h3 Hf R hW)⟩
  ·rename_i e x;obtain⟨us,ws,h1,h2,h3⟩:=IB cs m [.lf (.t e) x] K h;refine⟨us,.agg ws,h1,fun rest=>by simp only[fu,h2],fun _=>fun _=>rfl,rfl,fun Hf R hW=>?_⟩;have:=hW.agg m _ _ (h3 Hf R hW);simp only[bq,AB,qAt]at this;exact this
  ·cases h
 | .tup cs,m,v,K,h=>by
  simp only[ext]at h;cases v with
  |tup vs=>
   obtain⟨us,ws,h1,h2,h3⟩:=alu cs _ vs K h;refine⟨us,.tup ws,h1,fun rest=>by simp only[fu,h2],fun _=>fun _=>rfl,rfl,fun Hf R hW=>?_⟩;simp only[av];cases hm:Nat.ble 2 m with
   |false=>rw[hm]at h3;exact hW.tup0 m _ _ (h3 Hf R hW)
   |true=>
    rw[hm]at h3;obtain⟨m,rfl⟩:∃k,m=k+2:=⟨m - 2,by have:=qAf hm;omega⟩;exact hW.tup2 m _ _ (h3 Hf R hW)
  |_=>cases h
 | .func f cs,m,v,K,h=>by
  simp only[ext]at h;cases v with
  |func f' vs=>
   simp only at h;rcases bD h with⟨hc,g⟩|⟨_,g⟩
   ·have e1:=qAj hc;subst e1;obtain⟨us,ws,h1,h2,h3⟩:=alu cs _ vs K g;refine⟨us,.func f ws,h1,fun rest=>by simp only[fu,h2],fun _=>fun _=>rfl,rfl,fun Hf R hW=>?_⟩;simp only[av];cases hm:Nat.ble 2 m with
    |false=>rw[hm]at h3;exact hW.func0 m f _ _ (h3 Hf R hW)
    |true=>
     rw[hm]at h3;obtain⟨m,rfl⟩:∃k,m=k+2:=⟨m - 2,by have:=qAf hm;omega⟩;exact hW.func2 m f _ _ (h3 Hf R hW)
   ·cases g
  |_=>cases h
theorem alu:∀(ss:List Sk) (m:Nat) (vs:List TV) (K:List U→Option γ),amj m H L ss vs K=some b→aKr H L m ss vs K b
 |[],m,vs,K,h=>by
  simp only[amj]at h;cases vs with
  |nil=>exact⟨[],[],h,fun rest=>rfl,fun Hf R hW=>.nil⟩
  |cons _ _=>cases h
 |s::ss,m,vs,K,h=>by
  simp only[amj]at h;cases vs with
  |nil=>cases h
  |cons v r=>
   obtain⟨us,w,h1,h2,_,_,h3⟩:=ate s m v _ h;obtain⟨us',ws,h4,h5,h6⟩:=alu ss m r _ h1;refine⟨us++us',w::ws,h4,fun rest=>?_,fun Hf R hW=>?_⟩
   ·simp only[iH,qAm,h2,h5]
   ·simp only[aU];exact .cons (h3 Hf R hW) (h6 Hf R hW)
theorem IB:∀(ss:List Sk) (m:Nat) (vs:List TV) (K:List U→Option γ),rP m H L ss vs K=some b→aCE H L m ss vs K b
 |[],m,vs,K,h=>by
  simp only[rP]at h;cases vs with
  |nil=>exact⟨[],[],h,fun rest=>rfl,fun Hf R hW=>.nil⟩
  |cons _ _=>cases h
 |s::ss,m,vs,K,h=>by
  have val:(∀t,s≠ .lf t)→∀v r,vs=v::r→one v→(ext m H L s v fun us=>rP m H L ss r fun us'=>K (us++us'))=some b→aCE H L m (s::ss) vs K b:=fun hs v r hv h1 h=>by
   obtain⟨us,w,g1,g2,g3,_,g4⟩:=ate s m v _ h;obtain⟨us',ws,g5,g6,g7⟩:=IB ss m r _ g1;subst hv;refine⟨us++us',w::ws,g5,fun rest=>?_,fun Hf R hW=>?_⟩
   ·simp only[iH,qAm,g2,g6]
   ·simp only[bq,g3 hs (av Hf w),h1 (av H v),qAM,qAo];exact .cons (g4 Hf R hW) (g7 Hf R hW)
  have key:(∀t,s≠ .lf t)→(hd1 vs fun v r=>ext m H L s v fun us=>rP m H L ss r fun us'=>K (us++us'))=some b→aCE H L m (s::ss) vs K b:=fun hs h=>by
   cases vs with
   |nil=>cases h
   |cons v r=>
    simp only[hd1]at h;rcases bD h with⟨_,g⟩|⟨h1,g⟩
    ·cases g
    ·exact val hs v r rfl (Zn fun e x q=>by rw[q]at h1;cases h1) g
  cases s with
  |lf t=>
   simp only[rP]at h;obtain⟨u,r,xs,h1,h2,h3⟩:=Xx _ _ _ _ h;obtain⟨x,rfl,h4⟩:=kS h1;obtain⟨us',ws,g5,g6,g7⟩:=IB ss m r _ h4;refine⟨⟨t,x⟩::us',.lf t x::ws,g5,fun rest=>?_,fun Hf R hW=>?_⟩
   ·simp only[iH,qAM,fu,g6]
   ·rw[h2];simp only[bq];exact(h3.rs hW (ane ⟨t,x⟩)).app (g7 Hf R hW)
  |k c=>
   simp only[rP]at h;obtain⟨u,r,xs,h1,h2,h3⟩:=Xx _ _ _ _ h;obtain⟨x,rfl,h4⟩:=kS h1;obtain⟨hc,h5⟩:=(bD h4).resolve_right fun h=>by cases h.2
   have e:=CU.aDS hc;subst e;obtain⟨us',ws,g5,g6,g7⟩:=IB ss m r _ h5;refine⟨us',.lf c.t c.x::ws,g5,fun rest=>?_,fun Hf R hW=>?_⟩
   ·simp only[iH,fu,g6]
   ·rw[h2];simp only[bq];exact(h3.rs hW (ane ⟨c.t,c.x⟩)).app (g7 Hf R hW)
  |unk=>exact key (fun t e=>by cases e) (by simpa only[rP]using h)
  |nilp=>exact key (fun t e=>by cases e) (by simpa only[rP]using h)
  |nilF=>exact key (fun t e=>by cases e) (by simpa only[rP]using h)
  |nils=>exact key (fun t e=>by cases e) (by simpa only[rP]using h)
  |ptr _ _=>exact key (fun t e=>by cases e) (by simpa only[rP]using h)
  |eptr _=>exact key (fun t e=>by cases e) (by simpa only[rP]using h)
  |agg _=>exact key (fun t e=>by cases e) (by simpa only[rP]using h)
  |tup _=>exact key (fun t e=>by cases e) (by simpa only[rP]using h)
  |func _ _=>exact key (fun t e=>by cases e) (by simpa only[rP]using h)
  |mapr _=>exact key (fun t e=>by cases e) (by simpa only[rP]using h)
  |own _=>exact key (fun t e=>by cases e) (by simpa only[rP]using h)
  |psl _ _=>exact key (fun t e=>by cases e) (by simpa only[rP]using h)
end
end
end
section
open Go
theorem mem_iff{l:List Nat}{n:Nat}:mem l n=true↔n∈l:=by
 induction l with
 |nil=>exact⟨fun h=>(by cases h),fun h=>(by cases h)⟩
 |cons x l ih=>
  show(bif Nat.beq x n then true else mem l n)=true↔_;cases hx:Nat.beq x n with
  |true=>simp;exact .inl (qAj hx).symm
  |false=>
   simp only[cond_false,qAh,ih];refine⟨.inr,fun h=>h.elim (fun e=>?_) id⟩
   simp_all
theorem AU{l:List Nat}{n:Nat}:mem l n=false↔n∉l:=by
 rw[←mem_iff];cases mem l n<;>simp
theorem Io{n:Nat}:∀{c k:Nat},n∈rng k c↔k≤n∧n<k+c
 |0,k=>by simp only[rng,qCm,false_iff];omega
 |c+1,k=>by simp only[rng,qAh,Io];omega
noncomputable def rU(is:List (Nat×Sk))(q:Nat):Bool:=mem (is.flatMap fun p=>rng (p.1+1) (yg p.2)) (q+1)
theorem Ak{p:Nat×Sk}{is:List (Nat×Sk)}{q:Nat}:rU (p::is) q=true↔(p.1≤q∧q<p.1+yg p.2)∨rU is q=true:=by
 unfold rU;rw[mem_iff,mem_iff,qBf,qAr,Io]
 grind
section
variable {γ:Type}{b:γ}{H:List TObj}{L:Nat→Option Nat}{m mo:Nat}
theorem aGe(H Hf:List TObj)(L:Nat→Option Nat):Wk H Hf L (fun _ _ _=>True):=
 ⟨trivial,fun _ _=>trivial,fun _ _ _ _ _=>trivial,fun _ _ _ _ _=>trivial,fun _ _ _ _=>trivial,fun _ _ _ _=>trivial,fun _ _ _=>trivial,fun _ _ _ _ _=>trivial,fun _ _ _ _=>trivial,fun _ _ _ _=>trivial,fun _ _ _ _=>trivial,fun _ _ _ _=>trivial,fun _ _ _ _=>trivial,fun _ _ _ _ _=>trivial,fun _ _ _ _ _=>trivial⟩
theorem Qj(H:List TObj)(vs:List TV)(q:Nat):(bq H vs).getD q .unk=av H ((aK vs).getD q .unk):=by
 rw[←agr];simp;cases(aK vs)[q]?<;>rfl
def akI(H:List TObj)(L:Nat→Option Nat)(m:Nat)(cs vs:List TV)(q:Nat):Prop:=∀Hf R,Wk H Hf L R→q<(aK cs).length→R m (av Hf ((aK cs).getD q .unk)) (av H ((aK vs).getD q .unk))
theorem awz{cs cs' vs:List TV}{q:Nat}(h:akI H L m cs vs q)(e:(aK cs')[q]? =(aK cs)[q]?):akI H L m cs' vs q:=by
 intro Hf R hW hq;have hq':q<(aK cs).length:=by
  grind
 have:=h Hf R hW hq'
 grind
theorem auT(vs:List TV):∀(ps:List (Nat×Sk)) (K:List U→Option γ),axj m H L vs ps K=some b→∃us,K us=some b∧∀(c:Option (List TV)) rest,∃c',kD bS ps c (us++rest)=(c',rest)∧
  ∀cs',c'=some cs'→∃cs,c=some cs∧(aK cs').length=(aK cs).length∧∀q,(rU ps q=true→akI H L m cs' vs q)∧(rU ps q=false→(aK cs')[q]? =(aK cs)[q]?)
 |[],K,h=>⟨[],h,fun c rest=>⟨c,rfl,fun cs' hc=>⟨cs',hc,rfl,fun q=>⟨fun h=>(by cases h),fun _=>rfl⟩⟩⟩⟩
 |p::ps,K,h=>by
  simp only[axj]at h;obtain⟨a,r,h1,h2,h⟩:=CZ _ _ _ _ h;obtain⟨c1,r1,h3,h4,h⟩:=CZ _ _ _ _ h;obtain⟨us,ws,h5,h6,h7⟩:=IB [p.2] m c1 _ h;obtain⟨us',h8,h9⟩:=auT vs ps _ h5;refine⟨us++us',h8,fun c rest=>?_⟩;have hw:ws=[(fu bS p.2 (us++(us'++rest))).1]∧(fu bS p.2 (us++(us'++rest))).2=us'++rest:=by
   have:=h6 (us'++rest);simp only[iH,Prod.mk.injEq]at this
   grind
  simp only[kD,qAm,hw.2];rw[←hw.1]at *;obtain⟨c',g1,g2⟩:=h9 (c.bind fun cs=>vS cs p.1 ws some) rest;refine⟨c',g1,fun cs' hc'=>?_⟩;obtain⟨cs1,g3,g4,g5⟩:=g2 cs' hc';cases c with
  |none=>cases g3
  |some cs=>
   simp only[qAb]at g3;obtain⟨q1,q2⟩:=KP g3;have hlen:(aK ws).length=yg p.2:=by
    have:=(h7 H _ (aGe H H L)).len;rw[l7,←pO,l7,←pO,h4]at this;exact this
   refine⟨cs,rfl,?_,fun q=>⟨fun hq=>?_,fun hq=>?_⟩⟩
   ·rw[g4,q1];simp only[qAe,qAz,qCC];omega
   ·cases hps:rU ps q with
    |true=>exact(g5 q).1 hps
    |false=>
     have hin:=(Ak.1 hq).resolve_right (by rw[hps];simp);refine awz (cs:=cs1) ?_ ((g5 q).2 hps);intro Hf R hW hq1;have e1:(aK cs1).getD q .unk=(aK ws).getD (q - p.1) .unk:=by
      rw[q1];simp only[List.getD];rw[qAm,qAl (by simp only[qAz];omega),qAg (by simp only[qAz];omega)];simp only[qAz];rw[show min p.1 (aK cs).length=p.1 by omega]
     have e2:(aK vs).getD q .unk=(aK c1).getD (q - p.1) .unk:=by
      rw[h1,h3];simp only[List.getD];rw[qAl (by omega),qAg (by omega),h2]
     rw[e1,e2,←Qj,←Qj];exact(h7 Hf R hW).get _ (by rw[l7,←pO];omega)
   ·have hps:rU ps q=false:=by
     cases hps:rU ps q with
     |false=>rfl
     |true=>rw[Ak.2 (.inr hps)]at hq;cases hq
    have hout:¬(p.1≤q∧q<p.1+yg p.2):=fun hh=>by rw[Ak.2 (.inl hh)]at hq;cases hq
    rw[(g5 q).2 hps,q1];by_cases hlt:q<p.1
    ·rw[qAm,qAg (by simp only[qAz];omega),qBq,if_pos hlt]
    ·rw[qAl (by simp only[qAe,qAz];omega),qCb];congr 1;simp only[qAe,qAz];omega
def FO(H:List TObj)(L:Nat→Option Nat)(m:Nat)(hd:HO)(o0 oJ o':TObj):Prop:=match hd with
 | .dead=>oJ=.dead
 | .box _=>∃ws vs,oJ=.box ws∧o'=.box vs∧∀Hf R,Wk H Hf L R→Rs (R m) (bq Hf ws) (bq H vs)
 | .bx is=>oJ=.dead∨∃cs0 cs vs,o0=.box cs0∧oJ=.box cs∧o'=.box vs∧(aK cs).length=(aK cs0).length∧∀q,(rU is q=true→akI H L m cs vs q)∧(rU is q=false→(aK cs)[q]? =(aK cs0)[q]?)
 | .own _=>∃e xs,oJ=.own e xs∧o'=.own e xs
 | .mp _=>∃e xs,oJ=.mp e xs∧o'=.mp e xs
 | .arr _=>∃e xs,oJ=.arr e xs∧o'=.arr e xs
theorem au6{o':TObj}{hd:HO}{K:List U→Option γ}(h:al6 m H L o' hd K=some b):∃us,K us=some b∧∀o0 rest,∃oJ,bR bS o0 hd (us++rest)=(oJ,rest)∧FO H L m hd o0 oJ o':=by
 cases hd with
 |dead=>exact⟨[],h,fun o0 rest=>⟨_,rfl,rfl⟩⟩
 |box cs=>
  cases o' with
  |box vs=>
   obtain⟨us,ws,h1,h2,h3⟩:=IB cs m vs K h;exact⟨us,h1,fun o0 rest=>⟨.box ws,by simp only[bR,h2],ws,vs,rfl,rfl,h3⟩⟩
  |_=>cases h
 |bx is=>
  cases o' with
  |box vs=>
   obtain⟨us,h1,h2⟩:=auT vs is K h;refine⟨us,h1,fun o0 rest=>?_⟩;cases o0 with
   |box cs0=>
    obtain⟨c',g1,g2⟩:=h2 (some cs0) rest;cases c' with
    |none=>exact⟨.dead,by simp only[bR,g1],.inl rfl⟩
    |some cs'=>
     obtain⟨cs,e,g3,g4⟩:=g2 cs' rfl;cases e;exact⟨.box cs',by simp only[bR,g1],.inr ⟨cs0,cs',vs,rfl,rfl,rfl,g3,g4⟩⟩
   |_=>
    obtain⟨c',g1,_⟩:=h2 none rest;exact⟨.dead,by simp only[bR,g1],.inl rfl⟩
  |_=>cases h
 |own e=>
  simp only[al6]at h;cases o' with
  |own e' xs=>
   obtain⟨x,e1,h1⟩:=kS h;cases e1;exact⟨[⟨.l e,x⟩],h1,fun o0 rest=>⟨_,rfl,e,x,rfl,rfl⟩⟩
  |_=>cases h
 |mp e=>
  simp only[al6]at h;cases o' with
  |mp e' xs=>
   obtain⟨x,e1,h1⟩:=kS h;cases e1;exact⟨[⟨.m e,x⟩],h1,fun o0 rest=>⟨_,rfl,e,x,rfl,rfl⟩⟩
  |_=>cases h
 |arr e=>
  simp only[al6]at h;cases o' with
  |arr e' xs=>
   obtain⟨x,e1,h1⟩:=kS h;cases e1;exact⟨[⟨.l e,x⟩],h1,fun o0 rest=>⟨_,rfl,e,x,rfl,rfl⟩⟩
  |_=>cases h
theorem aiB{n:Nat}{k:Nat}:∀{es:List Ed} {ss os:List Nat},fO n ss os es=true→k∈ss→k∉j3 es
 |[],_,_,_,_=>by simp[j3]
 | .r k' s::es,ss,os,h,hk=>by
  simp only[fO,qAa,qAV,AU]at h;simp only[j3,qAh,not_or];exact⟨fun e=>h.1 (e▸hk),aiB h.2 (qAk _ hk)⟩
 | .o l h'::es,ss,os,h,hk=>by
  simp only[fO,qAa]at h;exact aiB (es:=es) h.2.2 hk
 | .w h'::es,ss,os,h,hk=>aiB (es:=es) (by simpa only[fO]using h) hk
theorem JL{n:Nat}{l:Nat}{hd:HO}:∀{es:List Ed} {ss os:List Nat},fO n ss os es=true→l∈os→Ed.o l hd∉es
 |[],_,_,_,_=>by simp
 | .r k' s::es,ss,os,h,hk=>by
  simp only[fO,qAa]at h;simp;exact JL h.2 hk
 | .o l' h'::es,ss,os,h,hk=>by
  simp only[fO,qAa,qAV,AU]at h;simp only[qAh,Ed.o.injEq,not_or];exact⟨fun e=>h.2.1 (e.1▸hk),JL h.2.2 (qAk _ hk)⟩
 | .w h'::es,ss,os,h,hk=>by
  simp;exact JL (es:=es) (by simpa only[fO]using h) hk
theorem pE{n:Nat}{l:Nat}{hd:HO}:∀{es:List Ed} {ss os:List Nat},fO n ss os es=true→Ed.o l hd∈es→l<n
 |[],_,_,_,h=>by cases h
 | .r k' s::es,ss,os,h,hk=>by
  simp only[fO,qAa]at h;simp at hk;exact pE h.2 hk
 | .o l' h'::es,ss,os,h,hk=>by
  simp only[fO,qAa]at h;rcases qAh.1 hk with e|hk
  ·simp_all
  ·exact pE h.2.2 hk
 | .w h'::es,ss,os,h,hk=>by
  simp at hk;exact pE (es:=es) (by simpa only[fO]using h) hk
theorem rA{α:Type}{d:α}{a c:List α}{n:Nat}(h:n<a.length):nth d (a++c) n=nth d a n:=by
 rw[jF,jF];simp only[List.getD,qAg h]
theorem YU{α:Type}{d:α}{a:List α}{v:α}{n:Nat}(h:a.length=n):nth d (a++[v]) n=v:=by
 rw[jF];subst h;simp[List.getD]
structure LaidD(H:List TObj)(L:Nat→Option Nat)(m mo:Nat)(t':List TV)(j:Nat)(eds:List Ed)(T:List TV)(h:List TObj)(T1:List TV)(h1:List TObj):Prop where
 tl:T1.length=T.length
 hl:h1.length=j+aD eds
 keep:∀k,k∉j3 eds→nth .unk T1 k=nth .unk T k
 slot:∀k s,Ed.r k s∈eds→k<T.length→∀Hf R,Wk H Hf L R→R m (av Hf (nth .unk T1 k)) (av H (nth .unk t' k))
 keepO:∀l,l<j→(∀hd,Ed.o l hd∉eds)→nth .dead h1 l=nth .dead h l
 obj:∀l hd,Ed.o l hd∈eds→FO H L mo hd (nth .dead h l) (nth .dead h1 l) (nth .dead H l)
 new:∀i,i<aD eds→(∃l hd,L (j+i)=some l∧(Ed.w hd∈eds∧nth .dead (kinds eds) i=hd)∧FO H L mo hd .dead (nth .dead h1 (j+i)) (nth .dead H l))∨(L (j+i)=none∧2≤m∧∃e,nth .dead h1 (j+i)=.own e []∨nth .dead h1 (j+i)=.arr e [])
theorem KG{t':List TV}{n:Nat}:∀(eds:List Ed) (j:Nat) (K:List U→Option γ) (ss os:List Nat),fO n ss os eds=true→n≤j→BS m mo t' H L j eds K=some b→
  ∃us,K us=some b∧∀T h rest,h.length=j→∃T1 h1,dW bS eds (us++rest) T h=(T1,h1)∧LaidD H L m mo t' j eds T h T1 h1
 |[],j,K,ss,os,hw,hn,h=>⟨[],h,fun T hh rest hl=>⟨T,hh,rfl,rfl,hl,fun _ _=>rfl,fun k s hm=>(by cases hm),fun _ _ _=>rfl,fun l hd hm=>(by cases hm),fun i hi=>by simp[aD]at hi⟩⟩
 | .r k s::es,j,K,ss,os,hw,hn,h=>by
  simp only[fO,qAa,qAV,AU]at hw;simp only[BS]at h;obtain⟨us,w,h1,h2,_,_,h3⟩:=ate s m _ _ h;obtain⟨us',h4,h5⟩:=KG es j _ _ _ hw.2 hn h1;refine⟨us++us',h4,fun T hh rest hl=>?_⟩;obtain⟨T1,h1',g1,g⟩:=h5 (T.set k w) hh rest hl;have hk:k∉j3 es:=aiB hw.2 (by simp);refine⟨T1,h1',by simp only[dW,qAm,h2];exact g1,by rw[g.tl,qAT],g.hl,fun k' hk'=>?_,fun k' s' hm hlt=>?_,fun l hlt hno=>?_,fun l hd hm=>?_,fun i hi=>?_⟩
  ·simp only[j3,qAh,not_or]at hk';rw[g.keep k' hk'.2,aX (qBo hk'.1)]
  ·rcases qAh.1 hm with e|hm
   ·cases e;rw[g.keep k hk,cK hlt];exact h3
   ·exact g.slot k' s' hm (by rw[qAT];exact hlt)
  ·exact g.keepO l hlt fun hd hm=>hno hd (qAk _ hm)
  ·exact g.obj l hd (by simpa using hm)
  ·rcases g.new i hi with⟨l,hd,e1,e2,e3⟩|e
   ·exact .inl ⟨l,hd,e1,⟨qAk _ e2.1,e2.2⟩,e3⟩
   ·exact .inr e
 | .o l hd::es,j,K,ss,os,hw,hn,h=>by
  simp only[fO,qAa,qAV,AU]at hw;simp only[BS]at h;obtain⟨us,h1,h2⟩:=au6 h;obtain⟨us',h4,h5⟩:=KG es j _ _ _ hw.2.2 hn h1;refine⟨us++us',h4,fun T hh rest hl=>?_⟩;obtain⟨oJ,q1,q2⟩:=h2 (nth .dead hh l) (us'++rest);obtain⟨T1,h1',g1,g⟩:=h5 T (hh.set l oJ) rest (by rw[qAT];exact hl);have hln:l<n:=qAf hw.1;have hno:∀hd',Ed.o l hd'∉es:=fun hd'=>JL hw.2.2 (by simp);refine⟨T1,h1',by simp only[dW,qAm,q1];exact g1,g.tl,g.hl,fun k' hk'=>g.keep k' hk',fun k' s' hm hlt=>g.slot k' s' (by simpa using hm) hlt,fun l' hlt hn'=>?_,fun l' hd' hm=>?_,fun i hi=>?_⟩
  ·have hne:l≠l':=fun e=>hn' hd (by subst e;simp);rw[g.keepO l' hlt fun hd' hm=>hn' hd' (qAk _ hm),aX hne]
  ·rcases qAh.1 hm with e|hm
   ·cases e;rw[g.keepO l (by omega) hno,cK (by omega)];exact q2
   ·have hne:l≠l':=fun e=>by subst e;exact hno hd' hm
    have:=g.obj l' hd' hm;rw[aX hne]at this;exact this
  ·rcases g.new i hi with⟨l,hd,e1,e2,e3⟩|e
   ·exact .inl ⟨l,hd,e1,⟨qAk _ e2.1,e2.2⟩,e3⟩
   ·exact .inr e
 | .w hd::es,j,K,ss,os,hw,hn,h=>by
  simp only[fO]at hw;have nxt:∀(us:List U) (K':List U→Option γ),(∀us',K' us'=K (us++us'))→BS m mo t' H L (j+1) es K'=some b→(∀rest,∃oJ,bR bS .dead hd (us++rest)=(oJ,rest)∧((∃l,L j=some l∧FO H L mo hd .dead oJ (nth .dead H l))∨(L j=none∧2≤m∧∃e,oJ=.own e []∨oJ=.arr e [])))→
    ∃us,K us=some b∧∀T h rest,h.length=j→∃T1 h1,dW bS (.w hd::es) (us++rest) T h=(T1,h1)∧LaidD H L m mo t' j (.w hd::es) T h T1 h1:=fun us K' hK h hq=>by
   obtain⟨us',h4,h5⟩:=KG es (j+1) _ _ _ hw (by omega) h;refine⟨us++us',by rw[←hK];exact h4,fun T hh rest hl=>?_⟩;obtain⟨oJ,q1,q2⟩:=hq (us'++rest);obtain⟨T1,h1',g1,g⟩:=h5 T (hh++[oJ]) rest (by simp[hl]);refine⟨T1,h1',by simp only[dW,qAm,q1];exact g1,g.tl,by rw[g.hl];simp only[aD];omega,fun k' hk'=>g.keep k' hk',fun k' s' hm hlt=>g.slot k' s' (by simpa using hm) hlt,fun l' hlt hn'=>?_,fun l' hd' hm=>?_,fun i hi=>?_⟩
   ·rw[g.keepO l' (by omega) fun hd' hm=>hn' hd' (qAk _ hm),rA (by omega)]
   ·have hm:Ed.o l' hd'∈es:=by simpa using hm
    have hlt:=pE hw hm;have:=g.obj l' hd' hm;rw[rA (by omega)]at this;exact this
   ·cases i with
    |zero=>
     have e:nth .dead h1' (j+0)=oJ:=by
      rw[qAS,g.keepO j (by omega) fun hd' hm=>(by have:=pE hw hm;omega),YU hl]
     rw[e,qAS];rcases q2 with⟨l,e1,e2⟩|e1
     ·exact .inl ⟨l,hd,e1,⟨by simp,rfl⟩,e2⟩
     ·exact .inr e1
    |succ i=>
     have:=g.new i (by simp only[aD]at hi;omega);rw[show j+1+i=j+(i+1)from by omega]at this;rcases this with⟨l,hd,e1,e2,e3⟩|e
     ·exact .inl ⟨l,hd,e1,⟨qAk _ e2.1,e2.2⟩,e3⟩
     ·exact .inr e
  simp only[BS]at h;split at h
  ·rename_i l hL;obtain⟨us,h1,h2⟩:=au6 h;exact nxt us _ (fun _=>rfl) h1 fun rest=>(by
    obtain⟨oJ,q1,q2⟩:=h2 .dead rest;exact⟨oJ,q1,.inl ⟨l,hL,q2⟩⟩)
  ·rename_i hL;split at h
   ·rename_i e;rcases bD h with⟨hc,g⟩|⟨_,g⟩
    ·exact nxt [⟨.l e,[]⟩] _ (fun _=>rfl) g fun rest=>⟨.own e [],rfl,.inr ⟨hL,qAf hc,e,.inl rfl⟩⟩
    ·cases g
   ·rename_i e;rcases bD h with⟨hc,g⟩|⟨_,g⟩
    ·exact nxt [⟨.l e,[]⟩] _ (fun _=>rfl) g fun rest=>⟨.arr e [],rfl,.inr ⟨hL,qAf hc,e,.inr rfl⟩⟩
    ·cases g
   ·cases h
end
end
section
open Go
def Kw(o o':TObj)(cv:Nat→Bool):Prop:=o'=o∨∃cs cs',o=.box cs∧o'=.box cs'∧(aK cs').length=(aK cs).length∧∀q,cv q=false→(aK cs')[q]? =(aK cs)[q]?
theorem amB{n len:Nat}{L:Nat→Option Nat}{eds:List Ed}:∀(c j:Nat) (seen:List Nat),asB n len L eds j c seen=true→∀i,i<c→∀l,L (j+i)=some l→l<len∧l∉seen∧(n≤l∨aec l eds=true)∧∀i',i'<c→L (j+i')=some l→i'=i
 |0,j,seen,_,i,hi=>by omega
 |c+1,j,seen,h,i,hi=>by
  intro l hl;simp only[asB]at h;split at h
  ·rename_i hj;have ih:=amB c (j+1) seen h;cases i with
   |zero=>rw[qAS,hj]at hl;cases hl
   |succ i=>
    obtain⟨h1,h2,h3,h4⟩:=ih i (by omega) l (by rw[show j+1+i=j+(i+1) by omega];exact hl);refine⟨h1,h2,h3,fun i' hi' hl'=>?_⟩;cases i' with
    |zero=>rw[qAS,hj]at hl';cases hl'
    |succ i'=>exact congrArg _ (h4 i' (by omega) (by rw[show j+1+i'=j+(i'+1) by omega];exact hl'))
  ·rename_i l0 hj;simp only[qAa,qBe,qAV,AU]at h;obtain⟨h1,h2,h3,h4⟩:=h;have h1:l0<len:=qAf h1;have ih:=amB c (j+1) (l0::seen) h4;cases i with
   |zero=>
    rw[qAS,hj]at hl;cases hl;refine⟨h1,h2,h3.imp qAf id,fun i' hi' hl'=>?_⟩;cases i' with
    |zero=>rfl
    |succ i'=>
     grind
   |succ i=>
    obtain⟨g1,g2,g3,g4⟩:=ih i (by omega) l (by rw[show j+1+i=j+(i+1) by omega];exact hl);simp at g2;refine⟨g1,g2.2,g3,fun i' hi' hl'=>?_⟩;cases i' with
    |zero=>rw[qAS,hj]at hl';cases hl';exact(g2.1 rfl).elim
    |succ i'=>exact congrArg _ (g4 i' (by omega) (by rw[show j+1+i'=j+(i'+1) by omega];exact hl'))
theorem TD{l:Nat}:∀{eds:List Ed},aec l eds=true→Ed.o l .dead∈eds
 |[],h=>by cases h
 | .r _ _::es,h=>qAk _ (TD (eds:=es) h)
 | .w _::es,h=>qAk _ (TD (eds:=es) h)
 | .o l' hd::es,h=>by
  simp only[aec,qBe,qAa]at h;rcases h with⟨h1,h2⟩|h
  ·have:=qAj h1
   grind
  ·exact qAk _ (TD h)
theorem Rb{k:Nat}:∀{eds:List Ed},k∈j3 eds→∃s,Ed.r k s∈eds
 |[],h=>by cases h
 | .r k' s::es,h=>by
  simp only[j3,qAh]at h;rcases h with rfl|h
  ·grind
  ·obtain⟨s,hs⟩:=Rb h;exact⟨s,qAk _ hs⟩
 | .w _::es,h=>(by obtain⟨s,hs⟩:=Rb (eds:=es) h;exact⟨s,qAk _ hs⟩)
 | .o _ _::es,h=>(by obtain⟨s,hs⟩:=Rb (eds:=es) h;exact⟨s,qAk _ hs⟩)
theorem Ez(H:List TObj)(t:List TV)(k:Nat):(aU H t).getD k .unk=av H (nth .unk t k):=bZ H t (.tmp k)
theorem Em(H:List TObj)(t:List TV):(aU H t).length=t.length:=by rw[uM,qAi]
theorem mq{α:Type}{d:α}{l:List α}{n:Nat}(h:l.length≤n):nth d l n=d:=by rw[jF,List.getD,qAC h];rfl
section
variable {h' hJ:List TObj}{Lw:List (Option Nat)}{L:Nat→Option Nat}{n:Nat}
theorem agD{j l:Nat}(o:TObj)(hn:ou Lw (aB h').length j=l):VW (aB h') Lw (gD j o) (gD l o)∧∀z,VW (aB h') Lw (eY j z o) (eY l z o):=by
 have sl:∀(e:ET) (xs:List e.D),VW (aB h') Lw (.slice (xs.map e.enc) (.tip j e.sz)) (.slice (xs.map e.enc) (.tip l e.sz)):=fun e xs=>.same (by simp only[ren,xu,nV,hn]);have ps:∀z k,VW (aB h') Lw (.psl j z k) (.psl l z k):=fun z k=>.same (by simp only[ren,hn]);cases o with
 |own e xs=>exact⟨sl e xs,fun z=>.unk _⟩
 |gone e xs=>exact⟨sl e xs,fun z=>.unk _⟩
 |arr e xs=>exact⟨.unk _,fun z=>ps z _⟩
 |gon k=>exact⟨.unk _,fun z=>ps z _⟩
 |_=>exact⟨.unk _,fun z=>.unk _⟩
theorem azy{m:Nat}{hd:HO}{o0 oJ o':TObj}{j l:Nat}(h:FO h' L m hd o0 oJ o')(hn:ou Lw (aB h').length j=l):VW (aB h') Lw (gD j oJ) (gD l o')∧∀z,VW (aB h') Lw (eY j z oJ) (eY l z o'):=by
 cases hd with
 |dead=>have e:oJ=.dead:=h;subst e;exact⟨.unk _,fun z=>.unk _⟩
 |box cs=>obtain⟨ws,vs,rfl,rfl,_⟩:=h;exact⟨.unk _,fun z=>.unk _⟩
 |bx is=>
  rcases h with rfl|⟨_,_,_,_,rfl,_⟩
  ·exact⟨.unk _,fun z=>.unk _⟩
  ·exact⟨.unk _,fun z=>.unk _⟩
 |own e=>obtain⟨e,xs,rfl,rfl⟩:=h;exact agD _ hn
 |mp e=>obtain⟨e,xs,rfl,rfl⟩:=h;exact⟨.unk _,fun z=>.unk _⟩
 |arr e=>obtain⟨e,xs,rfl,rfl⟩:=h;exact agD _ hn
theorem jU{cs cs':List AV}(h:Rs (VW (aB h') Lw) cs cs'):cs.length=cs'.length∧∀j,VW (aB h') Lw (cs.getD j .unk) (cs'.getD j .unk):=by
 refine⟨h.len,fun j=>?_⟩;by_cases hj:j<cs.length
 ·exact h.get j hj
 ·rw[List.getD,qAC (qBd hj)];exact .unk _
theorem aIM(hL:∀j l,L j=some l→ou Lw (aB h').length j=l)
  (look:∀j l,L j=some l→VW (aB h') Lw (gD j (nth .dead hJ j)) (gD l (nth .dead h' l))∧∀z,VW (aB h') Lw (eY j z (nth .dead hJ j)) (eY l z (nth .dead h' l)))
  (non:∀j,L j=none→VW (aB h') Lw (gD j (nth .dead hJ j)) (.slice [] .nils)∧∀z,VW (aB h') Lw (eY j z (nth .dead hJ j)) (.slice [] .nils)):
  Wk h' hJ L (fun _=>VW (aB h') Lw):=
 ⟨.unk _,fun _ _=>.unk _,fun m a a' hf hc=>(by
  generalize Nat.ble 1 m=q at hc;cases hc with
  |same=>exact .same (hf _)
  |share es t=>
   have:=hf (ou Lw (aB h').length);simp only[ren,AV.slice.injEq]at this;exact .share this.1
  |nilF=>exact .nilF),fun m j l o h=>.same (by simp only[ren,hL j l h]),fun m j l h=>.same (by simp only[ren,hL j l h]),fun m j l h=>(look j l h).1,fun m j h=>(non j h).1,
  fun m j l z h=>(look j l h).2 z,fun m j z h=>(non j h).2 z,fun m cs cs' h=>.eptr (jU h).1 (jU h).2,fun m cs cs' h=>.agg (jU h).1 (jU h).2,fun m cs cs' h=>.tup (jU h).1 (jU h).2,fun m cs cs' h=>.tup (jU h).1 (jU h).2,fun m f cs cs' h=>.func (jU h).1 (jU h).2,fun m f cs cs' h=>.func (jU h).1 (jU h).2⟩
mutual
theorem aiW(hW:Wk h' hJ L (fun _=>VW (aB h') Lw))(hL:∀j l,L j=some l→ou Lw (aB h').length j=l)(hn:∀j,j<n→L j=some j):∀v,rfB n v=true→VW (aB h') Lw (av hJ v) (av h' v)
 | .unk,_=>.unk _
 | .nilp,_=>.same rfl
 | .nilF,_=>.same rfl
 | .nils,_=>.same rfl
 | .lf t x,_=>.same (Lb _ t x)
 | .nat _,_=>.same rfl
 | .ptr l o,h=>hW.ptr 0 _ _ _ (hn l (qAf h))
 | .mapr l,h=>hW.mapr 0 _ _ (hn l (qAf h))
 | .ap l i z o,h=>hW.ptr 0 _ _ (i.toNat*z+o) (hn l (qAf h))
 | .own l,h=>hW.own 0 _ _ (hn l (qAf h))
 | .psl l z c,h=>by
  cases c with
  |none=>exact hW.psl 0 _ _ _ (hn l (qAf h))
  |some k=>exact .same (by simp only[av,ren,hL l l (hn l (qAf h))])
 | .eptr cs,h=>by simp only[av];exact hW.eptr 0 _ _ (adE hW hL hn cs h)
 | .agg cs,h=>by simp only[av];exact hW.agg 0 _ _ (adE hW hL hn cs h)
 | .tup cs,h=>by simp only[av];exact hW.tup0 0 _ _ (arO hW hL hn cs h)
 | .func f cs,h=>by simp only[av];exact hW.func0 0 f _ _ (arO hW hL hn cs h)
theorem adE(hW:Wk h' hJ L (fun _=>VW (aB h') Lw))(hL:∀j l,L j=some l→ou Lw (aB h').length j=l)(hn:∀j,j<n→L j=some j):∀vs,jw n vs=true→Rs (VW (aB h') Lw) (bq hJ vs) (bq h' vs)
 |[],_=>.nil
 |v::vs,h=>by
  simp only[jw,qAa]at h;have h1:=aiW hW hL hn v h.1;have h2:=adE hW hL hn vs h.2;simp only[bq];refine Rs.app ?_ h2;rcases tC v with ho|⟨e,x,rfl⟩
  ·rw[ho,ho];exact .cons h1 .nil
  ·simp only[AB];have:=(adL e x);generalize e.enc x=l at this;clear h1
   induction l with
   |nil=>exact .nil
   |cons a l ih=>exact .cons (.same (this a (by simp) _)) (ih fun b hb=>this b (by simp[hb]))
theorem arO(hW:Wk h' hJ L (fun _=>VW (aB h') Lw))(hL:∀j l,L j=some l→ou Lw (aB h').length j=l)(hn:∀j,j<n→L j=some j):∀vs,jw n vs=true→Rs (VW (aB h') Lw) (aU hJ vs) (aU h' vs)
 |[],_=>.nil
 |v::vs,h=>by
  simp only[jw,qAa]at h;simp only[aU];exact .cons (aiW hW hL hn v h.1) (arO hW hL hn vs h.2)
end
theorem akE{n:Nat}:∀{vs:List TV},jw n vs=true→∀v∈vs,rfB n v=true
 |[],_,v,h=>by cases h
 |x::vs,h,v,hv=>by
  simp only[jw,qAa]at h;rcases qAh.1 hv with rfl|hv
  ·exact h.1
  ·exact akE h.2 v hv
theorem aBz{n:Nat}:∀(e:ET) (x:e.D),∀v∈Mx e x,rfB n v=true:=by
 intro e x v hv;cases e<;>simp only[Mx,qAh]at hv<;>(repeat' (rcases hv with rfl|hv))<;>first|rfl|(subst hv;rfl)
theorem Q5{n:Nat}:∀{vs:List TV},jw n vs=true→∀v∈aK vs,rfB n v=true
 |[],_,v,h=>by cases h
 |x::vs,h,v,hv=>by
  simp only[jw,qAa]at h;simp only[aK,qAr]at hv;rcases hv with hv|hv
  ·rcases tC x with ho|⟨e,y,rfl⟩
   ·rw[wG ho,qAK]at hv;subst hv;exact h.1
   ·exact aBz e y v hv
  ·exact Q5 h.2 v hv
theorem yY{n:Nat}:∀{h:List TObj} {l:Nat},Ji n h=true→nth .dead h l≠ .res∧∀cs,nth .dead h l=.box cs→jw n cs=true
 |[],l,_=>⟨fun h=>(by cases h),fun cs h=>(by cases h)⟩
 |o::os,l,h=>by
  simp only[Ji,qAa]at h;cases l with
  |zero=>
   have e:nth .dead (o::os) 0=o:=rfl
   grind
  |succ l=>exact yY (h:=os) h.2
theorem YF{cs vs:List TV}(hl:(aK cs).length=(aK vs).length)(h:∀q,q<(aK cs).length→VW (aB h') Lw (av hJ ((aK cs).getD q .unk)) (av h' ((aK vs).getD q .unk))):OW (aB h') Lw (.box (bq hJ cs)) (.box (bq h' vs)):=by
 refine .box (by rw[l7,l7,←pO,←pO,hl]) fun j=>?_;rw[Qj,Qj];by_cases hj:j<(aK cs).length
 ·grind
 ·rw[List.getD,qAC (qBd hj)];exact .unk _
theorem Qo(g:Nat→Nat)(e:ET)(xs:List (Str×e.D)):(xs.map fun p=>(p.1,e.one p.2)).map (fun p=>(p.1,ren g p.2))=xs.map fun p=>(p.1,e.one p.2):=by
 rw[qBh];refine qBu fun p _=>?_;simp;rw[←apM [] e p.2];cases e<;>simp only[ET.seg,av]<;>exact Lb _ _ _
theorem aIz(hW:Wk h' hJ L (fun _=>VW (aB h') Lw))(hL:∀j l,L j=some l→ou Lw (aB h').length j=l)(hn:∀j,j<n→L j=some j)(o:TObj)(hr:o≠ .res)(hb:∀cs,o=.box cs→jw n cs=true):OW (aB h') Lw (gV hJ o) (gV h' o):=by
 cases o with
 |box cs=>exact .box (jU (adE hW hL hn cs (hb cs rfl))).1 (jU (adE hW hL hn cs (hb cs rfl))).2
 |own e xs=>exact .tip _
 |gone e xs=>exact .dead _
 |mp e xs=>exact .same rfl (by simp only[gV,eU,Qo])
 |arr e xs=>exact .same rfl (by simp only[gV,eU,nV])
 |gon k=>exact .dead _
 |dead=>exact .dead _
 |res=>exact(hr rfl).elim
theorem aD2{m:Nat}(hW:Wk h' hJ L (fun _=>VW (aB h') Lw))(hL:∀j l,L j=some l→ou Lw (aB h').length j=l)(hn:∀j,j<n→L j=some j){hd:HO}{o0 oJ o':TObj}(h:FO h' L m hd o0 oJ o')
  (hb:∀is cs,hd=.bx is→o0=.box cs→jw n cs=true∧Kw o0 o' (rU is)):OW (aB h') Lw (gV hJ oJ) (gV h' o'):=by
 cases hd with
 |dead=>have e:oJ=.dead:=h;subst e;exact .dead _
 |box cs=>obtain⟨ws,vs,rfl,rfl,h1⟩:=h;exact .box (jU (h1 hJ _ hW)).1 (jU (h1 hJ _ hW)).2
 |bx is=>
  rcases h with rfl|⟨cs0,cs,vs,rfl,rfl,rfl,h1,h2⟩
  ·exact .dead _
  ·obtain⟨g1,g2⟩:=hb is cs0 rfl rfl;have g3:(aK vs).length=(aK cs0).length∧∀q,rU is q=false→(aK vs)[q]? =(aK cs0)[q]?:=by
    rcases g2 with e|⟨a,b,e1,e2,e3,e4⟩
    ·grind
    grind
   refine YF (h1.trans g3.1.symm) fun q hq=>?_;cases hc:rU is q with
   |true=>exact(h2 q).1 hc hJ _ hW hq
   |false=>
    have hm:(aK cs0).getD q .unk∈aK cs0:=by
     grind
    have:=aiW hW hL hn _ (Q5 g1 _ hm)
    grind
 |own e=>obtain⟨e,xs,rfl,rfl⟩:=h;exact .tip _
 |mp e=>obtain⟨e,xs,rfl,rfl⟩:=h;exact .same rfl (by simp only[gV,eU,Qo])
 |arr e=>obtain⟨e,xs,rfl,rfl⟩:=h;exact .same rfl (by simp only[gV,eU,nV])
end
end
section
open Go
section
variable {γ:Type}{b:γ}
theorem au8{α:Type}:∀(l:List α) (n:Nat) (K:Nat→Option γ),Jk l n K=K (n+l.length)
 |[],_,_=>rfl
 |_::l,n,K=>by simp only[Jk,au8 l,qAp];congr 1;omega
theorem Yj{α:Type}(l:List α)(K:Nat→Option γ):Jk l 0 K=K l.length:=by rw[au8,qAL]
theorem aJr{n N:Nat}{m:List (Nat×Nat)}{j:Nat}(h:j<n):LJ n N m j=some j:=by
 unfold LJ;rw[show Nat.blt j n=true from qCI h];rfl
theorem aDI{n N:Nat}{m:List (Nat×Nat)}{j:Nat}(h1:n≤N)(h:N≤j):LJ n N m j=none:=by
 have key:∀k,k≤j→Nat.blt j k=false:=fun k hk=>by
  cases hb:Nat.blt j k with
  |false=>rfl
  |true=>have:j<k:=qAf hb;omega
 unfold LJ;rw[key n (by omega),key N h];rfl
theorem ab8{n m:Nat}{T0 t':List TV}{h0 h':List TObj}{eds:List Ed}{K:List U→Option γ}
  (hn:h0.length=n) (hm:m≤n) (wfT:jw n T0=true) (wfH:Ji n h0=true) (edw:fO n [] [] eds=true) (tl:T0.length=t'.length) (hl:n≤h'.length)
  (slots:∀k,k∉j3 eds→nth .unk T0 k=.unk∨nth .unk T0 k=nth .unk t' k)
  (objs:∀l,l<n→((∀hd,Ed.o l hd∉eds)→Kw (nth .dead h0 l) (nth .dead h' l) fun _=>false)∧∀is,Ed.o l (.bx is)∈eds→Kw (nth .dead h0 l) (nth .dead h' l) (rU is))
  (hK:aqF n eds t' h' K=some b):
  ∃us,K us=some b∧∀T hJ,dW bS eds us T0 h0=(T,hJ)→T.length=T0.length∧n≤hJ.length∧Le m (aU h' t') (aB h') (aU hJ T) (aB hJ):=by
 unfold aqF at hK;rw[Yj]at hK;simp only at hK;obtain⟨hinj,hE⟩:=(bD hK).resolve_right fun h=>by cases h.2
 clear hK;generalize hLd:LJ n (n+aD eds) (Py t' h' n eds [])=L at hinj hE;have Llt:∀j,j<n→L j=some j:=fun j hj=>by rw[←hLd];exact aJr hj
 have Lge:∀j,n+aD eds≤j→L j=none:=fun j hj=>by rw[←hLd];exact aDI (Nat.le_add_right _ _) hj
 have inj:=amB (aD eds) n [] hinj;obtain⟨us,hus,hB⟩:=KG eds n K [] [] edw (qAd _) hE;refine⟨us,hus,fun T hJ hbl=>?_⟩;obtain⟨T1,h1,q1,la⟩:=hB T0 h0 [] hn;rw[qAt,hbl]at q1;cases q1;refine⟨la.tl,by rw[la.hl];omega,?_⟩
 let N:=n+aD eds
 let Lw:List (Option Nat):=(List.range N).map L
 have Lw_get:∀i,i<N→Lw[i]? =some (L i):=fun i hi=>by simp[Lw,hi]
 have Lw_none:∀i,N≤i→Lw[i]? =none:=fun i hi=>by simp[Lw];omega
 have hLn:∀j l,L j=some l→ou Lw (aB h').length j=l:=fun j l h=>by
  have hj:j<N:=by
   apply qAn;intro hj;rw[Lge j (by omega)]at h;cases h
  unfold ou;rw[Lw_get j hj,h];rfl
 have newAt:∀j,n≤j→j<N→(∃l hd,L j=some l∧Ed.w hd∈eds∧FO h' L 2 hd .dead (nth .dead hJ j) (nth .dead h' l))∨(L j=none∧2≤2∧∃e,nth .dead hJ j=.own e []∨nth .dead hJ j=.arr e []):=fun j h1 h2=>by
  have:=la.new (j - n) (by omega);rw[show n+(j - n)=j from by omega]at this;exact this.imp (fun⟨l,hd,e1,e2,e3⟩=>⟨l,hd,e1,e2.1,e3⟩) id
 have look:∀j l,L j=some l→VW (aB h') Lw (gD j (nth .dead hJ j)) (gD l (nth .dead h' l))∧∀z,VW (aB h') Lw (eY j z (nth .dead hJ j)) (eY l z (nth .dead h' l)):=fun j l hj=>by
  by_cases hlt:j<n
  ·have e:=Llt j hlt;rw[hj]at e;cases e;by_cases hed:∃hd,Ed.o j hd∈eds
   ·obtain⟨hd,hed⟩:=hed;exact azy (la.obj j hd hed) (hLn j j hj)
   ·have hno:∀hd,Ed.o j hd∉eds:=fun hd h=>hed ⟨hd,h⟩;rw[la.keepO j hlt hno];rcases(objs j hlt).1 hno with e|⟨cs,cs',e1,e2,_⟩
    ·rw[e];exact agD _ (hLn j j hj)
    ·rw[e1,e2];exact⟨.unk _,fun z=>.unk _⟩
  ·have hN:j<N:=by
    apply qAn;intro hN;rw[Lge j (by omega)]at hj;cases hj
   rcases newAt j (by omega) hN with⟨l',hd,e1,_,e3⟩|⟨e1,_⟩
   ·rw[hj]at e1;cases e1;exact azy e3 (hLn j l hj)
   ·rw[hj]at e1;cases e1
 have non:∀j,L j=none→VW (aB h') Lw (gD j (nth .dead hJ j)) (.slice [] .nils)∧∀z,VW (aB h') Lw (eY j z (nth .dead hJ j)) (.slice [] .nils):=fun j hj=>by
  by_cases hN:j<N
  ·have hge:n≤j:=by
    apply qAn;intro hlt;rw[Llt j (by omega)]at hj;cases hj
   rcases newAt j hge hN with⟨l',hd,e1,_⟩|⟨_,_,e,e1|e1⟩
   ·rw[hj]at e1;cases e1
   ·rw[e1];exact⟨.nils _ _,fun z=>.unk _⟩
   ·rw[e1];exact⟨.unk _,fun z=>.nilP _ _⟩
  ·rw[mq (by rw[la.hl];omega)];exact⟨.unk _,fun z=>.unk _⟩
 have hW:=aIM hLn look non;have hslot:∀k,VW (aB h') Lw (av hJ (nth .unk T k)) (av h' (nth .unk t' k)):=fun k=>by
  by_cases hk:k∈j3 eds
  ·obtain⟨s,hs⟩:=Rb hk;by_cases hlt:k<T0.length
   ·exact la.slot k s hs hlt hJ _ hW
   ·rw[mq (by rw[la.tl];omega)];exact .unk _
  ·rw[la.keep k hk];rcases slots k hk with e|e
   ·rw[e];exact .unk _
   ·rw[←e];refine aiW hW hLn Llt _ ?_;by_cases hlt:k<T0.length
    ·refine akE wfT _ ?_;rw[jF,List.getD,qAc hlt];exact qAO hlt
    ·rw[mq (by omega)];rfl
 have hobj:∀i l,L i=some l→OW (aB h') Lw (gV hJ (nth .dead hJ i)) (gV h' (nth .dead h' l)):=fun i l hi=>by
  by_cases hlt:i<n
  ·have e:=Llt i hlt;rw[hi]at e;cases e;by_cases hed:∃hd,Ed.o i hd∈eds
   ·obtain⟨hd,hed⟩:=hed;exact aD2 hW hLn Llt (la.obj i hd hed) fun is cs e e2=>⟨(yY wfH).2 cs e2,by subst e;exact(objs i hlt).2 is hed⟩
   ·have hno:∀hd,Ed.o i hd∉eds:=fun hd h=>hed ⟨hd,h⟩;rw[la.keepO i hlt hno];rcases(objs i hlt).1 hno with e|⟨cs,cs',e1,e2,e3,e4⟩
    ·rw[e];exact aIz hW hLn Llt _ (yY wfH).1 (yY wfH).2
    ·have hb:=(yY wfH).2 cs e1;rw[e1,e2];refine YF e3.symm fun q hq=>?_;have hm:(aK cs).getD q .unk∈aK cs:=by rw[List.getD,qAc hq];exact qAO hq
     have:=aiW hW hLn Llt _ (Q5 hb _ hm);simp only[List.getD]at this⊢;rw[e4 q rfl];exact this
  ·have hN:i<N:=by
    apply qAn;intro hN;rw[Lge i (by omega)]at hi;cases hi
   rcases newAt i (by omega) hN with⟨l',hd,e1,_,e3⟩|⟨e1,_⟩
   ·rw[hi]at e1;cases e1;exact aD2 hW hLn Llt e3 fun is cs e e2=>by cases e2
   ·rw[hi]at e1;cases e1
 refine Le.of Lw ⟨by rw[Em,Em,la.tl,tl],by simp[Lw,aB,la.hl,N],fun i hi=>by rw[Lw_get i (by omega),Llt i (by omega)],?_,?_,fun k=>by rw[Ez,Ez];exact hslot k,?_,?_⟩
 ·intro i j l hi hj li lj;have hiN:i<N:=by
   apply qAn;intro hN;rw[Lw_none i (by omega)]at hi;cases hi
  have hjN:j<N:=by
   apply qAn;intro hN;rw[Lw_none j (by omega)]at hj;cases hj
  rw[Lw_get i hiN]at hi;rw[Lw_get j hjN]at hj;have hi:=Option.some.inj hi;have hj:=Option.some.inj hj;have mix:∀i j,i<n→n≤j→j<N→L i=some l→L j=some l→live (obj? (aB hJ) i)→False:=fun i j h1 h2 h3 hi hj li=>by
   have ei:i=l:=Option.some.inj ((Llt i h1).symm.trans hi);obtain⟨_,_,g3,_⟩:=inj (j - n) (by omega) l (by rw[show n+(j - n)=j from by omega];exact hj);rcases g3 with g3|g3
   ·omega
   ·have e:nth .dead hJ l=.dead:=la.obj l .dead (TD g3);rw[←ei]at e;rw[kV,e]at li;exact li
  by_cases h1:i<n
  ·by_cases h2:j<n
   ·rw[Llt i h1]at hi;rw[Llt j h2]at hj;cases hi;cases hj;rfl
   ·exact(mix i j h1 (by omega) hjN hi hj li).elim
  ·by_cases h2:j<n
   ·exact(mix j i h2 (by omega) hiN hj hi lj).elim
   ·obtain⟨_,_,_,g4⟩:=inj (j - n) (by omega) l (by rw[show n+(j - n)=j from by omega];exact hj);have:=g4 (i - n) (by omega) (by rw[show n+(i - n)=i from by omega];exact hi);omega
 ·intro i l hi;have hiN:i<N:=by
   apply qAn;intro hN;rw[Lw_none i (by omega)]at hi;cases hi
  rw[Lw_get i hiN]at hi;have hi:=Option.some.inj hi;have hll:(aB h').length=h'.length:=by simp[aB]
  rw[hll];by_cases h1:i<n
  ·rw[Llt i h1]at hi;cases hi;omega
  ·exact(inj (i - n) (by omega) l (by rw[show n+(i - n)=i from by omega];exact hi)).1
 ·intro i l hi;have hiN:i<N:=by
   apply qAn;intro hN;rw[Lw_none i (by omega)]at hi;cases hi
  rw[Lw_get i hiN]at hi;have hi:=Option.some.inj hi;rw[kV,kV];exact hobj i l hi
 ·intro i hi;have hiN:i<N:=by
   apply qAn;intro hN;rw[Lw_none i (by omega)]at hi;cases hi
  rw[Lw_get i hiN]at hi;have hi:=Option.some.inj hi;have hge:n≤i:=by
   apply qAn;intro hlt;rw[Llt i (by omega)]at hi;cases hi
  rw[kV];rcases newAt i hge hiN with⟨l',hd,e1,_⟩|⟨_,_,e,e1|e1⟩
  ·rw[hi]at e1;cases e1
  ·rw[e1];rfl
  ·rw[e1];rfl
end
end
end Abs
end Go.Proofs.YthgdaonechbgmaaGreat
