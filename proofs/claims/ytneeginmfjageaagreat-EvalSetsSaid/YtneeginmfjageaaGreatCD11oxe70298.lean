/-
  Writes on typed states are those on abstract states; what was not written is as it was. Conditions: none; lemmas.
-/
import Derived.Test.YtneeginmfjageaaGreatCD4ox93c442
import Derived.Test.YtneeginmfjageaaGreatCTabox8f887e
set_option linter.unusedSimpArgs false
set_option linter.unusedVariables false
namespace Go.Proofs.YtneeginmfjageaaGreat
namespace Abs
section
open Go
noncomputable section
def gy(s:DS):ASt:=⟨aR s.h s.t,aA s.h⟩
def Lk H H' l:=eP l (nth .dead H l)=eP l (nth .dead H' l)∧∀z,dO l z (nth .dead H l)=dO l z (nth .dead H' l)
theorem mK(n:Nat):Nat.beq n n=true:=Nat.beq_refl n
mutual
theorem Tp{H H':List TObj}:∀v:TV,(∀l,ami l v=true→Lk H H' l)→av H v=av H' v
 | .own l,h=>by simp only[av];exact(h l (mK l)).1
 | .psl l z c,h=>by
  cases c with
  | none=>simp only[av,(h l (mK l)).2 z]
  | some n=>rfl
 | .eptr cs,h=>by simp only[av];rw[AZ cs h]
 | .agg cs,h=>by simp only[av];rw[AZ cs h]
 | .tup cs,h=>by simp only[av];rw[VT cs h]
 | .func f cs,h=>by simp only[av];rw[VT cs h]
 | .unk,_=>rfl | .nilp,_=>rfl | .nilF,_=>rfl | .nils,_=>rfl | .lf _ _,_=>rfl | .nat _,_=>rfl | .ptr _ _,_=>rfl | .mapr _,_=>rfl | .ap _ _ _ _,_=>rfl
theorem AZ{H H':List TObj}:∀vs:List TV,(∀l,ko l vs=true→Lk H H' l)→aU H vs=aU H' vs
 | [],_=>rfl
 | v::vs,h=>by
  simp only[aU];rw[Tp v fun l hl=>h l (by simp only[ko,hl,qCA]),AZ vs fun l hl=>h l (by simp only[ko,hl,qDX])]
theorem VT{H H':List TObj}:∀vs:List TV,(∀l,ko l vs=true→Lk H H' l)→aR H vs=aR H' vs
 | [],_=>rfl
 | v::vs,h=>by
  simp only[aR];rw[Tp v fun l hl=>h l (by simp only[ko,hl,qCA]),VT vs fun l hl=>h l (by simp only[ko,hl,qDX])]
end
theorem ayj{H H'} o (h:∀cs,o=.box cs→∀l,ko l cs=true→Lk H H' l):fC H o=fC H' o:=by
 cases o with
 | box cs=>simp only[fC];rw[AZ cs (h cs rfl)]
 | _=>rfl
theorem aAR H l (o:TObj) m:nth .dead (H.set l o) m=if l=m∧l<H.length then o else nth .dead H m:=by
 by_cases h:l=m
 ·subst h;by_cases hl:l<H.length
  ·rw[bL hl,if_pos ⟨rfl,hl⟩]
  ·rw[if_neg (fun h=>hl h.2),qBQ (qBa hl)]
 ·rw[aS h,if_neg (fun k=>h k.1)]
theorem NK{H}{l}{o}(h:eP l (nth .dead H l)=eP l o∧∀z,dO l z (nth .dead H l)=dO l z o) m:Lk H (H.set l o) m:=by
 unfold Lk;rw[aAR]
 grind
theorem Zj{H}{l}{o}{m}(h:l≠m):Lk H (H.set l o) m:=by
 unfold Lk;rw[aS h];exact⟨rfl,fun _=>rfl⟩
theorem BX{l}{o}(h:plainO o=true):eP l o=.unk∧∀z,dO l z o=.unk:=by
 cases o<;>first | exact⟨rfl,fun _=>rfl⟩ | cases h
theorem anR{l}{o o'}(h:plainO o=true)(h':plainO o'=true):eP l o=eP l o'∧∀z,dO l z o=dO l z o':=
 ⟨by rw[(BX h).1,(BX h').1],fun z=>by rw[(BX h).2,(BX h').2]⟩
def U4 H H'(t:List TV):=(∀v∈t,av H v=av H' v)∧∀m,∀cs,nth .dead H m=.box cs→aU H cs=aU H' cs
theorem Ph{H H'} t (h:∀m,Lk H H' m):U4 H H' t:=⟨fun v _=>Tp v fun l _=>h l,fun m cs _=>AZ cs fun l _=>h l⟩
theorem ajs:∀{t:List TV} {l:Nat} {v:TV},v∈t→ko l t=false→ami l v=false
 | x::t,l,v,hv,h=>by
  simp only[ko,qBv] at h;rcases qAg.1 hv with rfl | hv
  ·exact h.1
  ·exact ajs hv h.2
theorem afw:∀{H:List TObj} {l m:Nat} {cs:List TV},SC l H=false→nth .dead H m=.box cs→ko l cs=false
 | [],l,m,cs,_,h=>by cases h
 | o::H,l,m,cs,h,hm=>by
  simp only[SC,qBv] at h;cases m with
  | zero=>have e:o=.box cs:=hm;subst e;exact h.1
  | succ m=>exact afw h.2 hm
theorem ay0{H}{t}{l}{o}(h1:ko l t=false)(h2:SC l H=false):U4 H (H.set l o) t:=by
 refine⟨fun v hv=>Tp v fun m hm=>Zj fun e=>?_,fun m cs hc=>AZ cs fun q hq=>Zj fun e=>?_⟩
 ·subst e;rw[ajs hv h1] at hm;cases hm
 ·subst e;rw[afw h2 hc] at hq;cases hq
theorem apI{H H'}{t}(h:∀v∈t,av H v=av H' v):aR H t=aR H' t:=by
 rw[sZ,sZ];exact qBo h
theorem azN{H}{t}{l}{o}(h:U4 H (H.set l o) t):aA (H.set l o)=(aA H).set l (fC (H.set l o) o):=by
 have key:∀m,fC (H.set l o) (nth .dead H m)=fC H (nth .dead H m):=fun m=>(by
  cases hm:nth .dead H m with
  | box cs=>simp only[fC,h.2 m cs hm]
  | _=>rfl)
 unfold aA;generalize hH':H.set l o=H' at key;rw[←hH',qCW,hH'];congr 1;apply qBS;intro m;simp;cases hm:H[m]? with
 | none=>rfl
 | some x=>
  have:=key m;rw[iD,List.getD,hm] at this
  grind
theorem kZ{α β}:∀l n v (K:List α→β),yT l n v K=K (l.set n v)
 | [],_,_,_=>rfl
 | _::_,0,_,_=>rfl
 | x::xs,n+1,v,K=>(kZ xs n v fun ys=>K (x::ys)).trans rfl
theorem asO{α γ}{b}:∀l n v (K:List α→Option γ),az6 l n v K=some b→n<l.length∧K (l.set n v)=some b
 | [],_,_,_,h=>by cases h
 | _::_,0,_,_,h=>⟨by simp,h⟩
 | x::xs,n+1,v,K,h=>by
  obtain⟨h1,h2⟩:=asO xs n v (fun ys=>K (x::ys)) h
  grind
theorem aES{γ} v (K:TV→Option γ):fV v K=K v:=by cases v<;>rfl
section
variable {γ:Type}{b:γ}
def W1(s:DS):TWr→DS→Prop
 | .sl n v,s'=>n<s.t.length∧s'=⟨s.t.set n v,s.h,n::s.d,s.o,s.up.filter fun i=>!Nat.beq i n,s.rl.filter fun p=>!(Nat.beq p.1 n ||(Nat.beq p.2.1 n ||Nat.beq p.2.2 n)),s.cp.filter fun p=>!(Nat.beq p.1 n ||Nat.beq p.2 n),s.oo⟩
 | .ob l o,s'=>plainO o=true∧plainO (nth .dead s.h l)=true∧s'={s with h:=s.h.set l o,o:=(l,0)::s.o}
 | .st l off vs,s'=>∃cs cs',nth .dead s.h l=.box cs∧tX cs off vs some=some cs'∧s'={s with h:=s.h.set l (.box cs'),o:=(rng (off+1) (widths vs)).map (fun q=>(l,q))++s.o}
 | .kill l,s'=>(∃e xs,nth .dead s.h l=.own e xs∧s'={s with h:=s.h.set l (.gone e xs),o:=(l,0)::s.o})∨(∃e xs,nth .dead s.h l=.arr e xs∧s'={s with h:=s.h.set l (.gon xs.length),o:=(l,0)::s.o})∨((∃cs,nth .dead s.h l=.box cs)∨∃e xs,nth .dead s.h l=.mp e xs)∧s'={s with h:=s.h.set l .dead,o:=(l,0)::s.o}
 | .nw l o,s'=>lI (nth .dead s.h l)=true∧(plainO o=true∨ko l s.t=false∧SC l s.h=false)∧s'={s with h:=s.h.set l o,o:=(l,0)::s.o}
 | .up l i e y,s'=>∃xs,nth .dead s.h l=.arr e xs∧s'={s with h:=s.h.set l (.arr e (upd xs i y)),o:=(l,0)::s.o}
inductive Ws:DS→List TWr→DS→Prop where
 | nil (s:DS):Ws s [] s
 | cons {s s1 s2:DS} {w:TWr} {ws:List TWr}:W1 s w s1→Ws s1 ws s2→Ws s (w::ws) s2
theorem xB:∀ws s K,DC ws s K=some b→∃s',Ws s ws s'∧K s'=some b
 | [],s,K,h=>⟨s,.nil s,h⟩
 | .sl n v::ws,s,K,h=>by
  simp only[DC,aES] at h;obtain⟨hn,h⟩:=asO _ _ _ _ h;obtain⟨s',h1,h2⟩:=xB ws _ _ h;exact⟨s',(.cons (w:=.sl n v) (s1:=_) ⟨hn,rfl⟩ h1),h2⟩
 | .ob l o::ws,s,K,h=>by
  simp only[DC,kZ] at h;rcases aY h with⟨hc,h⟩ | ⟨_,h⟩
  ·simp only[qAa] at hc;obtain⟨s',h1,h2⟩:=xB ws _ _ h;exact⟨s',.cons ⟨hc.1,hc.2,rfl⟩ h1,h2⟩
  ·cases h
 | .st l off vs::ws,s,K,h=>by
  simp only[DC] at h;split at h
  ·rename_i cs hl;obtain⟨cs',h1,h2⟩:=akC h;rw[kZ] at h2;obtain⟨s',h3,h4⟩:=xB ws _ _ h2;exact⟨s',.cons ⟨cs,cs',hl,h1,rfl⟩ h3,h4⟩
  ·cases h
 | .kill l::ws,s,K,h=>by
  simp only[DC] at h;split at h
  ·rename_i e xs hl;rw[kZ] at h;obtain⟨s',h1,h2⟩:=xB ws _ _ h;exact⟨s',.cons (.inl ⟨e,xs,hl,rfl⟩) h1,h2⟩
  ·rename_i e xs hl;rw[kZ] at h;obtain⟨s',h1,h2⟩:=xB ws _ _ h;exact⟨s',.cons (.inr (.inl ⟨e,xs,hl,rfl⟩)) h1,h2⟩
  ·rename_i cs hl;rw[kZ] at h;obtain⟨s',h1,h2⟩:=xB ws _ _ h;exact⟨s',.cons (.inr (.inr ⟨.inl ⟨cs,hl⟩,rfl⟩)) h1,h2⟩
  ·rename_i e xs hl;rw[kZ] at h;obtain⟨s',h1,h2⟩:=xB ws _ _ h;exact⟨s',.cons (.inr (.inr ⟨.inr ⟨e,xs,hl⟩,rfl⟩)) h1,h2⟩
  ·cases h
 | .nw l o::ws,s,K,h=>by
  simp only[DC] at h;rcases aY h with⟨hc,h⟩ | ⟨_,h⟩
  ·simp only[qAa,qAZ,qAF,qBv] at hc;rw[kZ] at h;obtain⟨s',h1,h2⟩:=xB ws _ _ h;exact⟨s',.cons ⟨hc.1,hc.2,rfl⟩ h1,h2⟩
  ·cases h
 | .up l i e y::ws,s,K,h=>by
  simp only[DC] at h;split at h
  ·rename_i e' xs hl;split at h
   ·rename_i q _;subst q;rw[kZ] at h;obtain⟨s',h1,h2⟩:=xB ws _ _ h;exact⟨s',.cons ⟨xs,hl,rfl⟩ h1,h2⟩
   ·cases h
  ·cases h
theorem Jd{s s'}{w}(h:W1 s w s'):U4 s.h s'.h s.t∧s'.h=Zw s.h w:=by
 cases w with
 | sl n v=>obtain⟨_,h2⟩:=h;subst h2;exact⟨⟨fun _ _=>rfl,fun _ _ _=>rfl⟩,rfl⟩
 | ob l o=>
  obtain⟨h1,h2,rfl⟩:=h;exact⟨Ph _ (NK (anR h2 h1)),rfl⟩
 | st l off vs=>
  obtain⟨cs,cs',h1,h2,rfl⟩:=h;refine⟨Ph _ (NK ?_),?_⟩
  ·rw[h1];exact⟨rfl,fun _=>rfl⟩
  ·simp only[Zw,h1,h2]
 | kill l=>
  rcases h with⟨e,xs,h1,rfl⟩ | ⟨e,xs,h1,rfl⟩ | ⟨⟨cs,h1⟩ | ⟨e,xs,h1⟩,rfl⟩<;>
  ·refine⟨Ph _ (NK ?_),by simp only[Zw,h1]⟩;rw[h1];exact⟨rfl,fun _=>rfl⟩
 | nw l o=>
  obtain⟨h1,h2,rfl⟩:=h;refine⟨?_,rfl⟩;rcases h2 with h2 | ⟨h2,h3⟩
  ·refine Ph _ (NK ?_);have e:nth .dead s.h l=.res:=by unfold lI at h1;split at h1;assumption;cases h1
   rw[e];exact⟨(BX h2).1.symm,fun z=>((BX h2).2 z).symm⟩
  ·exact ay0 h2 h3
 | up l i e y=>
  obtain⟨xs,h1,rfl⟩:=h;refine⟨Ph _ (NK ?_),?_⟩
  ·rw[h1];exact⟨rfl,fun _=>by simp only[dO,upd,qAU]⟩
  ·simp only[Zw,h1,ET.eq_self]
theorem aEw{s s'}{w}(h:W1 s w s'):gy s'=(gy s).wr1 (G5 s.h w):=by
 obtain⟨hs,hh⟩:=Jd h;have obj:∀l o,s'.t=s.t→s'.h=s.h.set l o→gy s'=(gy s).setObj l (fC (s.h.set l o) o):=fun l o h1 h2=>by
  unfold gy ASt.setObj;rw[h1,h2];rw[h2] at hs;rw[azN hs,apI (fun v hv=>(hs.1 v hv).symm)]
 cases w with
 | sl n v=>
  obtain⟨_,h2⟩:=h;subst h2;unfold gy;simp only[sZ,qCW];rfl
 | ob l o=>obtain⟨_,_,rfl⟩:=h;exact obj l o rfl rfl
 | st l off vs=>
  obtain⟨cs,cs',h1,h2,rfl⟩:=h;rw[obj l (.box cs') rfl rfl];have e:aU (s.h.set l (.box cs')) cs'=aU s.h cs':=(AZ cs' fun m _=>NK (by rw[h1];exact⟨rfl,fun _=>rfl⟩) m).symm;simp only[G5,h1,fC,ASt.wr1,e,(asD s.h h2).1]
 | kill l=>
  rcases h with⟨e,xs,h1,rfl⟩ | ⟨e,xs,h1,rfl⟩ | ⟨_,rfl⟩<;>exact obj l _ rfl rfl
 | nw l o=>obtain⟨_,_,rfl⟩:=h;exact obj l o rfl rfl
 | up l i e y=>
  obtain⟨xs,h1,rfl⟩:=h;rw[obj l _ rfl rfl];simp only[G5,h1,ET.eq_self,fC,ASt.wr1]
theorem aAd{s s'}{ws}(h:Ws s ws s'):gy s'=(gy s).wr (BD s.h ws):=by
 induction h with
 | nil s=>rfl
 | cons h _ ih=>
  rw[ih,aEw h];simp only[(Jd h).2];rfl
end
end
end
section
open Go
noncomputable section
def J8:(e:ET)→e.D→List TV
 | .i,x=>[.lf (.n .i64) x] | .u,x=>[.lf (.n .u8) x] | .s,x=>[.lf .s x] | .b,x=>[.lf .b x]
 | .car,x=>[.lf .s x.name,.lf (.l .s) x.elems]
 | .dec,x=>[.lf .s x.name,.lf (.n .i64) x.ty.kind,.lf .s x.ty.name,.lf (.l .ty) x.ty.kids]
 | .ty,x=>[.lf (.n .i64) x.kind,.lf .s x.name,.lf (.l .ty) x.kids]
 | .tm,x=>[.lf (.n .i64) x.op,.lf .s x.name,.lf (.n .i64) x.n,.lf (.n .i64) x.ty.kind,.lf .s x.ty.name,.lf (.l .ty) x.ty.kids,.lf (.l .tm) x.kids]
 | .env,x=>[.lf (.l .car) x.carriers,.lf (.l .dec) x.names]
 | .val,x=>[.lf (.n .i64) x.kind,.lf (.n .i64) x.n,.lf .s x.name,.lf (.l .val) x.kids]
 | .bnd,x=>[.lf .s x.name,.lf (.n .i64) x.v.kind,.lf (.n .i64) x.v.n,.lf .s x.v.name,.lf (.l .val) x.v.kids]
 | .vals,x=>[.lf (.l .val) x] | .tms,x=>[.lf (.l .tm) x]
def Qh:TV→List TV
 | .lf (.t e) x=>J8 e x
 | v=>[v]
def aF:List TV→List TV
 | []=>[]
 | v::vs=>Qh v++aF vs
theorem xV:∀a b:List TV,aF (a++b)=aF a++aF b
 | [],_=>rfl
 | v::a,b=>by simp only[qAM,aF,xV a b,qAo]
theorem akq:∀e x,(J8 e x).length=e.sz
 | .i,_=>rfl | .u,_=>rfl | .s,_=>rfl | .b,_=>rfl | .car,_=>rfl | .dec,_=>rfl | .ty,_=>rfl | .tm,_=>rfl | .env,_=>rfl | .val,_=>rfl | .bnd,_=>rfl | .vals,_=>rfl | .tms,_=>rfl
theorem Fx v:(Qh v).length=width v:=by
 rcases qZ v with h | ⟨e,x,rfl⟩
 ·cases v with
  | lf t x=>cases t<;>first | rfl | exact akq _ _
  | _=>rfl
 ·exact akq e x
theorem nN:∀vs,(aF vs).length=widths vs
 | []=>rfl
 | v::vs=>by simp only[aF,qAf,Fx,nN vs,widths]
theorem uJ{v}(h:one v):Qh v=[v]:=by
 cases v with
 | lf t x=>cases t<;>first | rfl | (rename_i e;have:=h (.tup []);simp only[zm] at this;cases e<;>first | (simp only[ET.enc] at this;cases this;done) | (simp[ET.enc,ku,sQ,fF] at this;done))
 | _=>rfl
theorem ayp H:∀e x,(J8 e x).map (av H)=e.enc x
 | .i,_=>rfl | .u,_=>rfl | .s,_=>rfl | .b,_=>rfl | .car,_=>rfl
 | .dec,x=>by have:=ku x.ty;simp only[ET.enc];rfl
 | .ty,x=>by simp only[ET.enc,ku];rfl
 | .tm,x=>by have:=ku x.ty;simp only[ET.enc,sQ];rfl
 | .env,_=>rfl
 | .val,x=>by simp only[ET.enc,fF];rfl
 | .bnd,x=>by have:=fF x.v;simp only[ET.enc,this];rfl
 | .vals,_=>rfl | .tms,_=>rfl
theorem aep H:∀vs,(aF vs).map (av H)=aU H vs
 | []=>rfl
 | v::vs=>by
  simp only[aF,qAY,aep H vs];congr 1;cases v with
  | lf t x=>cases t<;>first | rfl | exact ayp H _ _
  | _=>rfl
theorem aqp e x:aF (comps e x)=J8 e x:=by cases e<;>rfl
section
variable {γ:Type}{b:γ}
theorem Bg:∀f cs n K,splitK f cs n K=some b→∃a r,aF cs=aF a++aF r∧(aF a).length=n∧K a r=some b:=by
 intro f
 induction f with
 | zero=>intro cs n K h;cases h
 | succ f ih=>
  intro cs n K h;unfold splitK at h;cases n with
  | zero=>exact⟨[],cs,rfl,rfl,h⟩
  | succ m=>
   cases cs with
   | nil=>cases h
   | cons c r=>
    rcases aY h with⟨hw,h⟩ | ⟨_,h⟩
    ·obtain⟨a,r',h1,h2,h3⟩:=ih _ _ _ h;have hw:=qAe hw;refine⟨c::a,r',?_,?_,h3⟩
     ·simp only[aF,h1,qAo]
     ·simp only[aF,qAf,Fx];omega
    ·split at h
     ·rename_i e x;obtain⟨a,r',h1,h2,h3⟩:=ih _ _ _ h;refine⟨a,r',?_,h2,h3⟩;rw[←h1,xV,aqp];rfl
     ·cases h
theorem Jb{cs cs' vs}{off}(h:tX cs off vs some=some cs'):aF cs'=(aF cs).take off++aF vs++(aF cs).drop (off+(aF vs).length)∧off+(aF vs).length≤(aF cs).length:=by
 unfold tX at h;obtain⟨a,r,h1,h2,h3⟩:=Bg _ _ _ _ h;obtain⟨c,r',h4,h5,h6⟩:=Bg _ _ _ _ h3;cases h6;rw[←nN vs] at h5;have e1:(aF cs).take off=aF a:=by rw[h1,←h2,qDI]
 have e2:(aF cs).drop (off+(aF vs).length)=aF r':=by
  rw[h1,h4,←qAo,qDz (by simp only[qAf];omega)]
 refine⟨by rw[xV,xV,e1,e2,qAo],?_⟩;rw[h1,h4];simp only[qAf];omega
end
mutual
def dP(g:Nat→Nat):Sk→List U→TV×List U
 | .unk,us=>(.unk,us)
 | .nilp,us=>(.nilp,us)
 | .nilF,us=>(.nilF,us)
 | .k c,us=>(.lf c.t c.x,us)
 | .nils,us=>(.nils,us)
 | .lf _,us=>match us with
  | u::us=>(.lf u.t u.x,us)
  | []=>(.unk,[])
 | .ptr l o,us=>(.ptr (g l) o,us)
 | .eptr cs,us=>(.eptr (fJ g cs us).1,(fJ g cs us).2)
 | .agg cs,us=>(.agg (fJ g cs us).1,(fJ g cs us).2)
 | .tup cs,us=>(.tup (fJ g cs us).1,(fJ g cs us).2)
 | .func f cs,us=>(.func f (fJ g cs us).1,(fJ g cs us).2)
 | .mapr l,us=>(.mapr (g l),us)
 | .own l,us=>(.own (g l),us)
 | .psl l z,us=>(.psl (g l) z none,us)
def fJ(g:Nat→Nat):List Sk→List U→List TV×List U
 | [],us=>([],us)
 | s::ss,us=>((dP g s us).1::(fJ g ss (dP g s us).2).1,(fJ g ss (dP g s us).2).2)
end
section
variable {β:Type}(g:Nat→Nat)
mutual
theorem fill_eq:∀s us (K:TV→List U→β),fill g s us K=K (dP g s us).1 (dP g s us).2
 | .unk,_,_=>rfl
 | .nilp,_,_=>rfl
 | .nilF,_,_=>rfl
 | .k _,_,_=>rfl
 | .nils,_,_=>rfl
 | .lf _,us,_=>by cases us<;>rfl
 | .ptr _ _,_,_=>rfl
 | .eptr cs,us,K=>by simp only[fill,dP,Iq cs us]
 | .agg cs,us,K=>by simp only[fill,dP,Iq cs us]
 | .tup cs,us,K=>by simp only[fill,dP,Iq cs us]
 | .func _ cs,us,K=>by simp only[fill,dP,Iq cs us]
 | .mapr _,_,_=>rfl
 | .own _,_,_=>rfl
 | .psl _ _,_,_=>rfl
theorem Iq:∀(ss:List Sk) (us:List U) (K:List TV→List U→β),fills g ss us K=K (fJ g ss us).1 (fJ g ss us).2
 | [],_,_=>rfl
 | s::ss,us,K=>by simp only[fills,fJ,fill_eq s us,Iq ss]
end
end
def jl(g:Nat→Nat):List (Nat×Sk)→Option (List TV)→List U→Option (List TV)×List U
 | [],c,us=>(c,us)
 | p::ps,c,us=>jl g ps (c.bind fun cs=>tX cs p.1 [(dP g p.2 us).1] some) (dP g p.2 us).2
theorem VN{β} g:∀ps c us (K:Option (List TV)→List U→β),VI g ps c us K=K (jl g ps c us).1 (jl g ps c us).2
 | [],_,_,_=>rfl
 | p::ps,c,us,K=>by
  simp only[VI,jl,fill_eq];cases c with
  | none=>exact VN g ps none _ K
  | some cs=>
   simp only[qAb];split
   ·rename_i e;rw[e];exact VN g ps _ _ K
   ·rename_i e;rw[e];exact VN g ps _ _ K
def bF(g:Nat→Nat)(o:TObj):HO→List U→TObj×List U
 | .dead,us=>(.dead,us)
 | .box cs,us=>(.box (fJ g cs us).1,(fJ g cs us).2)
 | .bx l,us=>match o with
  | .box cs=>(match(jl g l (some cs) us).1 with | some cs=>.box cs | none=>.dead,(jl g l (some cs) us).2)
  | _=>(.dead,(jl g l none us).2)
 | .own _,us=>match us with
  | ⟨.l e,xs⟩::us=>(.own e xs,us)
  | us=>(.dead,us)
 | .mp _,us=>match us with
  | ⟨.m e,xs⟩::us=>(.mp e xs,us)
  | us=>(.dead,us)
 | .arr _,us=>match us with
  | ⟨.l e,xs⟩::us=>(.arr e xs,us)
  | us=>(.dead,us)
theorem ap0{β} g o h us (K:TObj→List U→β):Qc g o h us K=K (bF g o h us).1 (bF g o h us).2:=by
 cases h with
 | dead=>rfl
 | box cs=>simp only[Qc,bF,Iq]
 | bx l=>
  cases o<;>simp only[Qc,bF,VN]
  grind
 | own e=>simp only[Qc,bF];split<;>first | rfl | (rename_i h;split<;>first | rfl | (rename_i h2;exact(h _ _ _ rfl).elim))
 | mp e=>simp only[Qc,bF];split<;>first | rfl | (rename_i h;split<;>first | rfl | (rename_i h2;exact(h _ _ _ rfl).elim))
 | arr e=>simp only[Qc,bF];split<;>first | rfl | (rename_i h;split<;>first | rfl | (rename_i h2;exact(h _ _ _ rfl).elim))
def dB(g:Nat→Nat):List Ed→List U→List TV→List TObj→List TV×List TObj
 | [],_,t,h=>(t,h)
 | .r n s::es,us,t,h=>dB g es (dP g s us).2 (t.set n (dP g s us).1) h
 | .o l s::es,us,t,h=>dB g es (bF g (nth .dead h l) s us).2 t (h.set l (bF g (nth .dead h l) s us).1)
 | .w s::es,us,t,h=>dB g es (bF g .dead s us).2 t (h++[(bF g .dead s us).1])
theorem apJ{α β}:∀l v (K:List α→β),aAr l v K=K (l++[v])
 | [],_,_=>rfl
 | x::xs,v,K=>(apJ xs v fun ys=>K (x::ys)).trans rfl
theorem O6{β} g:∀es us t h (K:List TV→List TObj→β),N9 g es us t h K=K (dB g es us t h).1 (dB g es us t h).2
 | [],_,_,_,_=>rfl
 | .r n s::es,us,t,h,K=>by simp only[N9,dB,fill_eq,kZ,O6 g es]
 | .o l s::es,us,t,h,K=>by simp only[N9,dB,ap0,kZ,O6 g es]
 | .w s::es,us,t,h,K=>by simp only[N9,dB,ap0,apJ,O6 g es]
inductive Rs(R:AV→AV→Prop):List AV→List AV→Prop where
 | nil:Rs R [] []
 | cons {x y:AV} {xs ys:List AV}:R x y→Rs R xs ys→Rs R (x::xs) (y::ys)
theorem Rs.app{R}{a b c d}(h:Rs R a c)(k:Rs R b d):Rs R (a++b) (c++d):=by
 induction h with
 | nil=>exact k
 | cons h _ ih=>exact .cons h ih
theorem Rs.len{R}{a c}(h:Rs R a c):a.length=c.length:=by
 induction h with
 | nil=>rfl
 | cons _ _ ih=>simp[ih]
theorem Rs.get{R}{a c}(h:Rs R a c):∀j,j<a.length→R (a.getD j .unk) (c.getD j .unk):=by
 induction h with
 | nil=>intro j hj;cases hj
 | cons h1 _ ih=>intro j hj;cases j with
  | zero=>exact h1
  | succ j=>exact ih j (by simpa using hj)
structure Wk(H Hf:List TObj)(L:Nat→Option Nat)(R:Nat→AV→AV→Prop):Prop where
 unk0:R 0 .unk .unk
 unk:∀m a,R (m+1) .unk a
 fix:∀m a a',(∀g,ren g a=a)→Cv (Nat.ble 1 m) a a'→R m a a'
 ptr:∀m j l o,L j=some l→R m (.ptr j o) (.ptr l o)
 mapr:∀m j l,L j=some l→R m (.mapr j) (.mapr l)
 own:∀m j l,L j=some l→R m (av Hf (.own j)) (av H (.own l))
 ownN:∀m j,L j=none→R (m+2) (av Hf (.own j)) (.slice [] .nils)
 psl:∀m j l z,L j=some l→R m (av Hf (.psl j z none)) (av H (.psl l z none))
 pslN:∀m j z,L j=none→R (m+2) (av Hf (.psl j z none)) (.slice [] .nils)
 eptr:∀m cs cs',Rs (R 0) cs cs'→R m (.eptr cs) (.eptr cs')
 agg:∀m cs cs',Rs (R m) cs cs'→R m (.agg cs) (.agg cs')
 tup2:∀m cs cs',Rs (R (m+2)) cs cs'→R (m+2) (.tup cs) (.tup cs')
 tup0:∀m cs cs',Rs (R 0) cs cs'→R m (.tup cs) (.tup cs')
 func2:∀m f cs cs',Rs (R (m+2)) cs cs'→R (m+2) (.func f cs) (.func f cs')
 func0:∀m f cs cs',Rs (R 0) cs cs'→R m (.func f cs) (.func f cs')
theorem am4{g}:∀{l:List AV},dG g l=l→∀a∈l,ren g a=a
 | [],_,a,h=>by cases h
 | x::l,h,a,ha=>by
  simp only[dG,List.cons.injEq] at h;rcases qAg.1 ha with rfl | ha
  ·exact h.1
  ·exact am4 h.2 a ha
theorem aaZ(e:ET) x:∀a∈e.enc x,∀g,ren g a=a:=fun a ha g=>am4 (aaC e g x) a ha
theorem aku u:∀a∈Ea u,∀g,ren g a=a:=by
 intro a ha g;rcases qZ (.lf u.t u.x) with h | ⟨e,x,h⟩
 ·unfold Ea at ha;rw[h] at ha;rw[qBc] at ha;subst ha;exact Jf g _ _
 ·obtain⟨t,y⟩:=u;obtain⟨rfl,h⟩:=h;exact aaZ e y a ha g
theorem Cvs.rs{H Hf}{L}{R}(hW:Wk H Hf L R){m:Nat}{xs ys}(h:Cvs (Nat.ble 1 m) xs ys):(∀a∈xs,∀g,ren g a=a)→Rs (R m) xs ys:=by
 generalize hq:Nat.ble 1 m=q at h
 induction h with
 | nil=>intro _;exact .nil
 | cons h _ ih=>subst hq;intro hf;exact .cons (hW.fix _ _ _ (hf _ (by simp)) h) (ih fun a ha=>hf a (by simp[ha]))
end
end
section
open Go
section
variable {γ:Type}{b:γ}{H:List TObj}{L:Nat→Option Nat}
theorem aAA{w}{t}{v}{K}(ht:∀e,t≠ .t e)(h:(tL H w t v fun u=>jM t u K)=some b):∃x,K x=some b∧one v∧Cv w (ji t x) (av H v):=by
 rcases qZ v with h1 | ⟨e,x,rfl⟩
 ·obtain⟨u,h2,h3,_⟩:=aeh h1 h;obtain⟨x,rfl,h4⟩:=jG h2
  grind
 ·simp only[tL] at h;obtain⟨y,h5,_⟩:=jG h
  grind
theorem av2{a}{xs}(h:dM a=some xs)(hl:xs.length≠1):a=.agg xs:=by
 cases a<;>simp only[dM] at h<;>cases h<;>first | rfl | exact(hl rfl).elim
theorem agH{a}{l}(h:oeq a l=true):a=some l:=by
 cases a with
 | none=>cases h
 | some x=>exact congrArg some (qAj h)
theorem sz2:∀{e:ET},e.sc=false→e.sz≠1
 | .i,h=>by cases h
 | .u,h=>by cases h
 | .s,h=>by cases h
 | .b,h=>by cases h
 | .car,_=>by decide
 | .dec,_=>by decide
 | .ty,_=>by decide
 | .tm,_=>by decide
 | .env,_=>by decide
 | .val,_=>by decide
 | .bnd,_=>by decide
 | .vals,h=>by cases h
 | .tms,h=>by cases h
theorem CU.aGL:∀(c:CU) e,c.t≠ .t e:=by intro c e h;cases c<;>cases h
mutual
theorem aCX:∀{a c:Ty},azA a c=true→a=c
 | .mk k s l,.mk k' s' l',h=>by
  simp only[azA,qAa] at h;rw[of_decide_eq_true h.1,eq_of_beq h.2.1,aiE h.2.2]
theorem aiE:∀{a c:List Ty},adU a c=true→a=c
 | [],[],_=>rfl
 | x::xs,y::ys,h=>by
  simp only[adU,qAa] at h;rw[aCX h.1,aiE h.2]
 | [],_::_,h=>by simp[adU] at h
 | _::_,[],h=>by simp[adU] at h
end
theorem CU.aAF:∀{c:CU} {x:c.t.D},c.is x=true→x=c.x:=by
 intro c x h;cases c with
 | n k y=>exact of_decide_eq_true (p:=(show Int from x)=y) h
 | b y=>exact(eq_of_beq (α:=Bool) h).symm
 | s y=>exact eq_of_beq (α:=Str) h
 | l e=>exact qCs.1 h
 | ly z=>exact(aiE h).symm
theorem CU.one(c:CU):one (.lf c.t c.x):=by cases c<;>exact fun _=>rfl
theorem CU.width c:width (.lf c.t c.x)=wu (.k c):=by cases c<;>rfl
def aCH(H)L(m)s(v)(K:List U→Option γ)b:=
 ∃us w,K us=some b∧(∀rest,dP bI s (us++rest)=(w,rest))∧((∀t,s≠ .lf t)→one w)∧width w=wu s∧∀Hf R,Wk H Hf L R→R m (av Hf w) (av H v)
def aGK(H)L(m)ss(vs)(K:List U→Option γ)b:=
 ∃us ws,K us=some b∧(∀rest,fJ bI ss (us++rest)=(ws,rest))∧∀Hf R,Wk H Hf L R→Rs (R m) (aR Hf ws) (aR H vs)
def ayW(H)L(m)ss(vs)(K:List U→Option γ)b:=
 ∃us ws,K us=some b∧(∀rest,fJ bI ss (us++rest)=(ws,rest))∧∀Hf R,Wk H Hf L R→Rs (R m) (aU Hf ws) (aU H vs)
theorem VE{w}(h:∀e x,w≠ .lf (.t e) x):one w:=(qZ w).elim id fun⟨e,x,q⟩=>(h e x q).elim
set_option linter.unusedVariables false in
mutual
theorem apm:∀s m v K,ext m H L s v K=some b→aCH H L m s v K b
 | .unk,m,v,K,h=>by
  simp only[ext] at h;cases m with
  | zero=>
   cases v with
   | unk=>exact⟨[],.unk,h,fun rest=>rfl,fun _=>fun _=>rfl,rfl,fun Hf R hW=>hW.unk0⟩
   | _=>cases h
  | succ m=>exact⟨[],.unk,h,fun rest=>rfl,fun _=>fun _=>rfl,rfl,fun Hf R hW=>hW.unk m _⟩
 | .nilp,m,v,K,h=>by
  simp only[ext] at h;cases v with
  | nilp=>exact⟨[],.nilp,h,fun rest=>rfl,fun _=>fun _=>rfl,rfl,fun Hf R hW=>hW.fix m _ _ (fun _=>rfl) (.same _ _)⟩
  | _=>cases h
 | .nilF,m,v,K,h=>by
  simp only[ext] at h;cases v with
  | nilF=>exact⟨[],.nilF,h,fun rest=>rfl,fun _=>fun _=>rfl,rfl,fun Hf R hW=>hW.fix m _ _ (fun _=>rfl) (.same _ _)⟩
  | _=>cases h
 | .nils,m,v,K,h=>by
  simp only[ext] at h;cases v with
  | nils=>exact⟨[],.nils,h,fun rest=>rfl,fun _=>fun _=>rfl,rfl,fun Hf R hW=>hW.fix m _ _ (fun _=>rfl) (.same _ _)⟩
  | _=>cases h
 | .k c,m,v,K,h=>by
  simp only[ext] at h;obtain⟨x,h1,h2,h3⟩:=aAA (CU.aGL c) h;obtain⟨hc,h4⟩:=(aY h1).resolve_right fun h=>by cases h.2
  have e:=CU.aAF hc;subst e;exact⟨[],.lf c.t c.x,h4,fun rest=>rfl,fun _=>CU.one c,CU.width c,fun Hf R hW=>hW.fix m _ _ (Jf · c.t c.x) h3⟩
 | .lf t,m,v,K,h=>by
  have leaf:(∀e,t≠ .t e)→(tL H (Nat.ble 1 m) t v fun u=>jM t u fun x=>K [⟨t,x⟩])=some b→aCH H L m (.lf t) v K b:=fun ht h=>by
   obtain⟨x,h1,h2,h3⟩:=aAA ht h;exact⟨[⟨t,x⟩],.lf t x,h1,fun rest=>rfl,fun hn=>(hn t rfl).elim,by cases t<;>first | rfl | exact(ht _ rfl).elim,fun Hf R hW=>hW.fix m _ _ (Jf · t x) h3⟩
  simp only[ext] at h;cases t with
  | t e=>
   simp only at h;rcases aY h with⟨_,h⟩ | ⟨hsc,h⟩
   ·cases h
   ·split at h
    ·rename_i cs hc;obtain⟨u,r,xs,h1,h2,h3⟩:=TM _ _ _ _ h;split at h1
     ·obtain⟨x,rfl,h4⟩:=jG h1;refine⟨[⟨.t e,x⟩],.lf (.t e) x,h4,fun rest=>rfl,fun hn=>(hn _ rfl).elim,rfl,fun Hf R hW=>?_⟩;have hxs:dM (av H v)=some xs:=by rw[FK hc,h2];simp only[aU,qAr]
      have hl:xs.length=e.sz:=by rw[←h3.len];exact Jt e x
      rw[av2 hxs (by rw[hl];exact sz2 hsc)];exact hW.agg m _ _ (h3.rs hW (aaZ e x))
     ·cases h1
    ·cases h
  | _=>exact leaf (fun e h=>by cases h) h
 | .ptr j o,m,v,K,h=>by
  simp only[ext] at h;cases v with
  | ptr l o'=>
   simp only at h;rcases aY h with⟨hc,g⟩ | ⟨_,g⟩
   ·simp only[qAa] at hc;have e1:=qAj hc.1;subst e1;exact⟨[],.ptr j o,g,fun rest=>rfl,fun _=>fun _=>rfl,rfl,fun Hf R hW=>hW.ptr m _ _ _ (agH hc.2)⟩
   ·cases g
  | _=>cases h
 | .mapr j,m,v,K,h=>by
  simp only[ext] at h;cases v with
  | mapr l=>
   simp only at h;rcases aY h with⟨hc,g⟩ | ⟨_,g⟩
   ·exact⟨[],.mapr j,g,fun rest=>rfl,fun _=>fun _=>rfl,rfl,fun Hf R hW=>hW.mapr m _ _ (agH hc)⟩
   ·cases g
  | _=>cases h
 | .own j,m,v,K,h=>by
  simp only[ext] at h;cases v with
  | own l=>
   simp only at h;rcases aY h with⟨hc,g⟩ | ⟨_,g⟩
   ·exact⟨[],.own j,g,fun rest=>rfl,fun _=>fun _=>rfl,rfl,fun Hf R hW=>hW.own m _ _ (agH hc)⟩
   ·cases g
  | nils=>
   simp only at h;rcases aY h with⟨hc,g⟩ | ⟨_,g⟩
   ·simp only[qAa] at hc;obtain⟨m,rfl⟩:∃k,m=k+2:=⟨m - 2,by have:=qAe hc.1;omega⟩;exact⟨[],.own j,g,fun rest=>rfl,fun _=>fun _=>rfl,rfl,fun Hf R hW=>hW.ownN m j (by cases hl:L j with | none=>rfl | some x=>rw[hl] at hc;cases hc.2)⟩
   ·cases g
  | _=>cases h
 | .psl j z,m,v,K,h=>by
  simp only[ext] at h;split at h
  ·rename_i l z';rcases aY h with⟨hc,g⟩ | ⟨_,g⟩
   ·simp only[qAa] at hc;have e1:=qAj hc.2;subst e1;exact⟨[],.psl j z none,g,fun rest=>rfl,fun _=>fun _=>rfl,rfl,fun Hf R hW=>hW.psl m _ _ _ (agH hc.1)⟩
   ·cases g
  ·rcases aY h with⟨hc,g⟩ | ⟨_,g⟩
   ·simp only[qAa] at hc;obtain⟨m,rfl⟩:∃k,m=k+2:=⟨m - 2,by have:=qAe hc.1;omega⟩;exact⟨[],.psl j z none,g,fun rest=>rfl,fun _=>fun _=>rfl,rfl,fun Hf R hW=>hW.pslN m j z (by cases hl:L j with | none=>rfl | some x=>rw[hl] at hc;cases hc.2)⟩
   ·cases g
  ·cases h
 | .eptr cs,m,v,K,h=>by
  simp only[ext] at h;cases v with
  | eptr vs=>
   obtain⟨us,ws,h1,h2,h3⟩:=Fg cs 0 vs K h;exact⟨us,.eptr ws,h1,fun rest=>by simp only[dP,h2],fun _=>fun _=>rfl,rfl,fun Hf R hW=>by simp only[av];exact hW.eptr m _ _ (h3 Hf R hW)⟩
  | _=>cases h
 | .agg cs,m,v,K,h=>by
  simp only[ext] at h;split at h
  ·rename_i vs;obtain⟨us,ws,h1,h2,h3⟩:=Fg cs m vs K h;exact⟨us,.agg ws,h1,fun rest=>by simp only[dP,h2],fun _=>fun _=>rfl,rfl,fun Hf R hW=>by simp only[av];exact hW.agg m _ _ (h3 Hf R hW)⟩
  ·rename_i e x;obtain⟨us,ws,h1,h2,h3⟩:=Fg cs m [.lf (.t e) x] K h;refine⟨us,.agg ws,h1,fun rest=>by simp only[dP,h2],fun _=>fun _=>rfl,rfl,fun Hf R hW=>?_⟩;have:=hW.agg m _ _ (h3 Hf R hW);simp only[aU,zm,qAr] at this;exact this
  ·cases h
 | .tup cs,m,v,K,h=>by
  simp only[ext] at h;cases v with
  | tup vs=>
   obtain⟨us,ws,h1,h2,h3⟩:=ahg cs _ vs K h;refine⟨us,.tup ws,h1,fun rest=>by simp only[dP,h2],fun _=>fun _=>rfl,rfl,fun Hf R hW=>?_⟩;simp only[av];cases hm:Nat.ble 2 m with
   | false=>rw[hm] at h3;exact hW.tup0 m _ _ (h3 Hf R hW)
   | true=>
    rw[hm] at h3;obtain⟨m,rfl⟩:∃k,m=k+2:=⟨m - 2,by have:=qAe hm;omega⟩;exact hW.tup2 m _ _ (h3 Hf R hW)
  | _=>cases h
 | .func f cs,m,v,K,h=>by
  simp only[ext] at h;cases v with
  | func f' vs=>
   simp only at h;rcases aY h with⟨hc,g⟩ | ⟨_,g⟩
   ·have e1:=qAj hc;subst e1;obtain⟨us,ws,h1,h2,h3⟩:=ahg cs _ vs K g;refine⟨us,.func f ws,h1,fun rest=>by simp only[dP,h2],fun _=>fun _=>rfl,rfl,fun Hf R hW=>?_⟩;simp only[av];cases hm:Nat.ble 2 m with
    | false=>rw[hm] at h3;exact hW.func0 m f _ _ (h3 Hf R hW)
    | true=>
     rw[hm] at h3;obtain⟨m,rfl⟩:∃k,m=k+2:=⟨m - 2,by have:=qAe hm;omega⟩;exact hW.func2 m f _ _ (h3 Hf R hW)
   ·cases g
  | _=>cases h
theorem ahg:∀(ss:List Sk) (m:Nat) (vs:List TV) (K:List U→Option γ),ahK m H L ss vs K=some b→aGK H L m ss vs K b
 | [],m,vs,K,h=>by
  simp only[ahK] at h;cases vs with
  | nil=>exact⟨[],[],h,fun rest=>rfl,fun Hf R hW=>.nil⟩
  | cons _ _=>cases h
 | s::ss,m,vs,K,h=>by
  simp only[ahK] at h;cases vs with
  | nil=>cases h
  | cons v r=>
   obtain⟨us,w,h1,h2,_,_,h3⟩:=apm s m v _ h;obtain⟨us',ws,h4,h5,h6⟩:=ahg ss m r _ h1;refine⟨us++us',w::ws,h4,fun rest=>?_,fun Hf R hW=>?_⟩
   ·simp only[fJ,qAo,h2,h5]
   ·simp only[aR];exact .cons (h3 Hf R hW) (h6 Hf R hW)
theorem Fg:∀(ss:List Sk) (m:Nat) (vs:List TV) (K:List U→Option γ),pV m H L ss vs K=some b→ayW H L m ss vs K b
 | [],m,vs,K,h=>by
  simp only[pV] at h;cases vs with
  | nil=>exact⟨[],[],h,fun rest=>rfl,fun Hf R hW=>.nil⟩
  | cons _ _=>cases h
 | s::ss,m,vs,K,h=>by
  have val:(∀t,s≠ .lf t)→∀v r,vs=v::r→one v→(ext m H L s v fun us=>pV m H L ss r fun us'=>K (us++us'))=some b→ayW H L m (s::ss) vs K b:=fun hs v r hv h1 h=>by
   obtain⟨us,w,g1,g2,g3,_,g4⟩:=apm s m v _ h;obtain⟨us',ws,g5,g6,g7⟩:=Fg ss m r _ g1;subst hv;refine⟨us++us',w::ws,g5,fun rest=>?_,fun Hf R hW=>?_⟩
   ·simp only[fJ,qAo,g2,g6]
   ·simp only[aU,g3 hs (av Hf w),h1 (av H v),qAM,qAt];exact .cons (g4 Hf R hW) (g7 Hf R hW)
  have key:(∀t,s≠ .lf t)→(hd1 vs fun v r=>ext m H L s v fun us=>pV m H L ss r fun us'=>K (us++us'))=some b→ayW H L m (s::ss) vs K b:=fun hs h=>by
   cases vs with
   | nil=>cases h
   | cons v r=>
    simp only[hd1] at h;rcases aY h with⟨_,g⟩ | ⟨h1,g⟩
    ·cases g
    ·exact val hs v r rfl (VE fun e x q=>by rw[q] at h1;cases h1) g
  cases s with
  | lf t=>
   simp only[pV] at h;obtain⟨u,r,xs,h1,h2,h3⟩:=TM _ _ _ _ h;obtain⟨x,rfl,h4⟩:=jG h1;obtain⟨us',ws,g5,g6,g7⟩:=Fg ss m r _ h4;refine⟨⟨t,x⟩::us',.lf t x::ws,g5,fun rest=>?_,fun Hf R hW=>?_⟩
   ·simp only[fJ,qAM,dP,g6]
   ·rw[h2];simp only[aU];exact(h3.rs hW (aku ⟨t,x⟩)).app (g7 Hf R hW)
  | k c=>
   simp only[pV] at h;obtain⟨u,r,xs,h1,h2,h3⟩:=TM _ _ _ _ h;obtain⟨x,rfl,h4⟩:=jG h1;obtain⟨hc,h5⟩:=(aY h4).resolve_right fun h=>by cases h.2
   have e:=CU.aAF hc;subst e;obtain⟨us',ws,g5,g6,g7⟩:=Fg ss m r _ h5;refine⟨us',.lf c.t c.x::ws,g5,fun rest=>?_,fun Hf R hW=>?_⟩
   ·simp only[fJ,dP,g6]
   ·rw[h2];simp only[aU];exact(h3.rs hW (aku ⟨c.t,c.x⟩)).app (g7 Hf R hW)
  | unk=>exact key (fun t e=>by cases e) (by simpa only[pV] using h)
  | nilp=>exact key (fun t e=>by cases e) (by simpa only[pV] using h)
  | nilF=>exact key (fun t e=>by cases e) (by simpa only[pV] using h)
  | nils=>exact key (fun t e=>by cases e) (by simpa only[pV] using h)
  | ptr _ _=>exact key (fun t e=>by cases e) (by simpa only[pV] using h)
  | eptr _=>exact key (fun t e=>by cases e) (by simpa only[pV] using h)
  | agg _=>exact key (fun t e=>by cases e) (by simpa only[pV] using h)
  | tup _=>exact key (fun t e=>by cases e) (by simpa only[pV] using h)
  | func _ _=>exact key (fun t e=>by cases e) (by simpa only[pV] using h)
  | mapr _=>exact key (fun t e=>by cases e) (by simpa only[pV] using h)
  | own _=>exact key (fun t e=>by cases e) (by simpa only[pV] using h)
  | psl _ _=>exact key (fun t e=>by cases e) (by simpa only[pV] using h)
end
end
end
section
open Go
theorem mem_iff{l}{n}:mem l n=true↔n∈l:=by
 induction l with
 | nil=>exact⟨fun h=>(by cases h),fun h=>(by cases h)⟩
 | cons x l ih=>
  show(bif Nat.beq x n then true else mem l n)=true↔_;cases hx:Nat.beq x n with
  | true=>simp;exact .inl (qAj hx).symm
  | false=>
   simp only[cond_false,qAg,ih];refine⟨.inr,fun h=>h.elim (fun e=>?_) id⟩
   simp_all
theorem zo{l}{n}:mem l n=false↔n∉l:=by
 rw[←mem_iff];cases mem l n<;>simp
theorem FL{n}:∀{c k:Nat},n∈rng k c↔k≤n∧n<k+c
 | 0,k=>by simp only[rng,qCK,false_iff];omega
 | c+1,k=>by simp only[rng,qAg,FL];omega
noncomputable def pQ(is:List (Nat×Sk))q:=mem (is.flatMap fun p=>rng (p.1+1) (wu p.2)) (q+1)
theorem yS{p}{is}{q}:pQ (p::is) q=true↔p.1≤q∧q<p.1+wu p.2∨pQ is q=true:=by
 unfold pQ;rw[mem_iff,mem_iff,qBb,qAn,FL]
 grind
section
variable {γ:Type}{b:γ}{H:List TObj}{L:Nat→Option Nat}{m mo:Nat}
theorem aCS H Hf L:Wk H Hf L fun _ _ _=>True:=
 ⟨trivial,fun _ _=>trivial,fun _ _ _ _ _=>trivial,fun _ _ _ _ _=>trivial,fun _ _ _ _=>trivial,fun _ _ _ _=>trivial,fun _ _ _=>trivial,fun _ _ _ _ _=>trivial,fun _ _ _ _=>trivial,fun _ _ _ _=>trivial,fun _ _ _ _=>trivial,fun _ _ _ _=>trivial,fun _ _ _ _=>trivial,fun _ _ _ _ _=>trivial,fun _ _ _ _ _=>trivial⟩
theorem MZ H vs q:(aU H vs).getD q .unk=av H ((aF vs).getD q .unk):=by
 rw[←aep];simp;cases(aF vs)[q]?<;>rfl
def agc H L m cs vs q:=∀Hf R,Wk H Hf L R→q<(aF cs).length→R m (av Hf ((aF cs).getD q .unk)) (av H ((aF vs).getD q .unk))
theorem atP{cs cs' vs}{q}(h:agc H L m cs vs q)(e:(aF cs')[q]? =(aF cs)[q]?):agc H L m cs' vs q:=by
 intro Hf R hW hq;have hq':q<(aF cs).length:=by
  grind
 have:=h Hf R hW hq'
 grind
theorem asa vs:∀ps K,atH m H L vs ps K=some b→∃us,K us=some b∧∀c rest,∃c',jl bI ps c (us++rest)=(c',rest)∧
  ∀cs',c'=some cs'→∃cs,c=some cs∧(aF cs').length=(aF cs).length∧∀q,(pQ ps q=true→agc H L m cs' vs q)∧(pQ ps q=false→(aF cs')[q]? =(aF cs)[q]?)
 | [],K,h=>⟨[],h,fun c rest=>⟨c,rfl,fun cs' hc=>⟨cs',hc,rfl,fun q=>⟨fun h=>(by cases h),fun _=>rfl⟩⟩⟩⟩
 | p::ps,K,h=>by
  simp only[atH] at h;obtain⟨a,r,h1,h2,h⟩:=Bg _ _ _ _ h;obtain⟨c1,r1,h3,h4,h⟩:=Bg _ _ _ _ h;obtain⟨us,ws,h5,h6,h7⟩:=Fg [p.2] m c1 _ h;obtain⟨us',h8,h9⟩:=asa vs ps _ h5;refine⟨us++us',h8,fun c rest=>?_⟩;have hw:ws=[(dP bI p.2 (us++(us'++rest))).1]∧(dP bI p.2 (us++(us'++rest))).2=us'++rest:=by
   have:=h6 (us'++rest);simp only[fJ,Prod.mk.injEq] at this
   grind
  simp only[jl,qAo,hw.2];rw[←hw.1] at *;obtain⟨c',g1,g2⟩:=h9 (c.bind fun cs=>tX cs p.1 ws some) rest;refine⟨c',g1,fun cs' hc'=>?_⟩;obtain⟨cs1,g3,g4,g5⟩:=g2 cs' hc';cases c with
  | none=>cases g3
  | some cs=>
   simp only[qAb] at g3;obtain⟨q1,q2⟩:=Jb g3;have hlen:(aF ws).length=wu p.2:=by
    have:=(h7 H _ (aCS H H L)).len;rw[kF,←nN,kF,←nN,h4] at this;exact this
   refine⟨cs,rfl,?_,fun q=>⟨fun hq=>?_,fun hq=>?_⟩⟩
   ·rw[g4,q1];simp only[qAf,qAB,qCJ];omega
   ·cases hps:pQ ps q with
    | true=>exact(g5 q).1 hps
    | false=>
     have hin:=(yS.1 hq).resolve_right (by rw[hps];simp);refine atP (cs:=cs1) ?_ ((g5 q).2 hps);intro Hf R hW hq1;have e1:(aF cs1).getD q .unk=(aF ws).getD (q - p.1) .unk:=by
      rw[q1];simp only[List.getD];rw[qAo,qAk (by simp only[qAB];omega),qAi (by simp only[qAB];omega)];simp only[qAB];rw[show min p.1 (aF cs).length=p.1 by omega]
     have e2:(aF vs).getD q .unk=(aF c1).getD (q - p.1) .unk:=by
      rw[h1,h3];simp only[List.getD];rw[qAk (by omega),qAi (by omega),h2]
     rw[e1,e2,←MZ,←MZ];exact(h7 Hf R hW).get _ (by rw[kF,←nN];omega)
   ·have hps:pQ ps q=false:=by
     cases hps:pQ ps q with
     | false=>rfl
     | true=>rw[yS.2 (.inr hps)] at hq;cases hq
    have hout:¬(p.1≤q∧q<p.1+wu p.2):=fun hh=>by rw[yS.2 (.inl hh)] at hq;cases hq
    rw[(g5 q).2 hps,q1];by_cases hlt:q<p.1
    ·rw[qAo,qAi (by simp only[qAB];omega),qBt,if_pos hlt]
    ·rw[qAk (by simp only[qAf,qAB];omega),qCh];congr 1;simp only[qAf,qAB];omega
def FO(H:List TObj)(L:Nat→Option Nat)(m:Nat)(hd:HO)(o0 oJ o':TObj):Prop:=match hd with
 | .dead=>oJ=.dead
 | .box _=>∃ws vs,oJ=.box ws∧o'=.box vs∧∀Hf R,Wk H Hf L R→Rs (R m) (aU Hf ws) (aU H vs)
 | .bx is=>oJ=.dead∨∃cs0 cs vs,o0=.box cs0∧oJ=.box cs∧o'=.box vs∧(aF cs).length=(aF cs0).length∧∀q,(pQ is q=true→agc H L m cs vs q)∧(pQ is q=false→(aF cs)[q]? =(aF cs0)[q]?)
 | .own _=>∃e xs,oJ=.own e xs∧o'=.own e xs
 | .mp _=>∃e xs,oJ=.mp e xs∧o'=.mp e xs
 | .arr _=>∃e xs,oJ=.arr e xs∧o'=.arr e xs
theorem ase{o'}{hd}{K}(h:aiQ m H L o' hd K=some b):∃us,K us=some b∧∀o0 rest,∃oJ,bF bI o0 hd (us++rest)=(oJ,rest)∧FO H L m hd o0 oJ o':=by
 cases hd with
 | dead=>exact⟨[],h,fun o0 rest=>⟨_,rfl,rfl⟩⟩
 | box cs=>
  cases o' with
  | box vs=>
   obtain⟨us,ws,h1,h2,h3⟩:=Fg cs m vs K h;exact⟨us,h1,fun o0 rest=>⟨.box ws,by simp only[bF,h2],ws,vs,rfl,rfl,h3⟩⟩
  | _=>cases h
 | bx is=>
  cases o' with
  | box vs=>
   obtain⟨us,h1,h2⟩:=asa vs is K h;refine⟨us,h1,fun o0 rest=>?_⟩;cases o0 with
   | box cs0=>
    obtain⟨c',g1,g2⟩:=h2 (some cs0) rest;cases c' with
    | none=>exact⟨.dead,by simp only[bF,g1],.inl rfl⟩
    | some cs'=>
     obtain⟨cs,e,g3,g4⟩:=g2 cs' rfl;cases e;exact⟨.box cs',by simp only[bF,g1],.inr ⟨cs0,cs',vs,rfl,rfl,rfl,g3,g4⟩⟩
   | _=>
    obtain⟨c',g1,_⟩:=h2 none rest;exact⟨.dead,by simp only[bF,g1],.inl rfl⟩
  | _=>cases h
 | own e=>
  simp only[aiQ] at h;cases o' with
  | own e' xs=>
   obtain⟨x,e1,h1⟩:=jG h;cases e1;exact⟨[⟨.l e,x⟩],h1,fun o0 rest=>⟨_,rfl,e,x,rfl,rfl⟩⟩
  | _=>cases h
 | mp e=>
  simp only[aiQ] at h;cases o' with
  | mp e' xs=>
   obtain⟨x,e1,h1⟩:=jG h;cases e1;exact⟨[⟨.m e,x⟩],h1,fun o0 rest=>⟨_,rfl,e,x,rfl,rfl⟩⟩
  | _=>cases h
 | arr e=>
  simp only[aiQ] at h;cases o' with
  | arr e' xs=>
   obtain⟨x,e1,h1⟩:=jG h;cases e1;exact⟨[⟨.l e,x⟩],h1,fun o0 rest=>⟨_,rfl,e,x,rfl,rfl⟩⟩
  | _=>cases h
theorem ags{n}{k}:∀{es:List Ed} {ss os:List Nat},dZ n ss os es=true→k∈ss→k∉je es
 | [],_,_,_,_=>by simp[je]
 | .r k' s::es,ss,os,h,hk=>by
  simp only[dZ,qAa,qAF,zo] at h;simp only[je,qAg,not_or];exact⟨fun e=>h.1 (e▸hk),ags h.2 (qAl _ hk)⟩
 | .o l h'::es,ss,os,h,hk=>by
  simp only[dZ,qAa] at h;exact ags (es:=es) h.2.2 hk
 | .w h'::es,ss,os,h,hk=>ags (es:=es) (by simpa only[dZ] using h) hk
theorem F5{n}{l}{hd}:∀{es:List Ed} {ss os:List Nat},dZ n ss os es=true→l∈os→Ed.o l hd∉es
 | [],_,_,_,_=>by simp
 | .r k' s::es,ss,os,h,hk=>by
  simp only[dZ,qAa] at h;simp;exact F5 h.2 hk
 | .o l' h'::es,ss,os,h,hk=>by
  simp only[dZ,qAa,qAF,zo] at h;simp only[qAg,Ed.o.injEq,not_or];exact⟨fun e=>h.2.1 (e.1▸hk),F5 h.2.2 (qAl _ hk)⟩
 | .w h'::es,ss,os,h,hk=>by
  simp;exact F5 (es:=es) (by simpa only[dZ] using h) hk
theorem nM{n}{l}{hd}:∀{es:List Ed} {ss os:List Nat},dZ n ss os es=true→Ed.o l hd∈es→l<n
 | [],_,_,_,h=>by cases h
 | .r k' s::es,ss,os,h,hk=>by
  simp only[dZ,qAa] at h;simp at hk;exact nM h.2 hk
 | .o l' h'::es,ss,os,h,hk=>by
  simp only[dZ,qAa] at h;rcases qAg.1 hk with e | hk
  ·simp_all
  ·exact nM h.2.2 hk
 | .w h'::es,ss,os,h,hk=>by
  simp at hk;exact nM (es:=es) (by simpa only[dZ] using h) hk
theorem pJ{α}{d}{a c:List α}{n}(h:n<a.length):nth d (a++c) n=nth d a n:=by
 rw[iD,iD];simp only[List.getD,qAi h]
theorem U3{α}{d}{a}{v:α}{n}(h:a.length=n):nth d (a++[v]) n=v:=by
 rw[iD];subst h;simp[List.getD]
structure LaidD(H:List TObj)(L:Nat→Option Nat)(m mo:Nat)(t':List TV)(j:Nat)(eds:List Ed)(T:List TV)(h:List TObj)(T1:List TV)(h1:List TObj):Prop where
 tl:T1.length=T.length
 hl:h1.length=j+aC eds
 keep:∀k,k∉je eds→nth .unk T1 k=nth .unk T k
 slot:∀k s,Ed.r k s∈eds→k<T.length→∀Hf R,Wk H Hf L R→R m (av Hf (nth .unk T1 k)) (av H (nth .unk t' k))
 keepO:∀l,l<j→(∀hd,Ed.o l hd∉eds)→nth .dead h1 l=nth .dead h l
 obj:∀l hd,Ed.o l hd∈eds→FO H L mo hd (nth .dead h l) (nth .dead h1 l) (nth .dead H l)
 new:∀i,i<aC eds→(∃l hd,L (j+i)=some l∧(Ed.w hd∈eds∧nth .dead (kinds eds) i=hd)∧FO H L mo hd .dead (nth .dead h1 (j+i)) (nth .dead H l))∨(L (j+i)=none∧2≤m∧∃e,nth .dead h1 (j+i)=.own e []∨nth .dead h1 (j+i)=.arr e [])
theorem JB{t'}{n}:∀eds j K ss os,dZ n ss os eds=true→n≤j→Ai m mo t' H L j eds K=some b→
  ∃us,K us=some b∧∀T h rest,h.length=j→∃T1 h1,dB bI eds (us++rest) T h=(T1,h1)∧LaidD H L m mo t' j eds T h T1 h1
 | [],j,K,ss,os,hw,hn,h=>⟨[],h,fun T hh rest hl=>⟨T,hh,rfl,rfl,hl,fun _ _=>rfl,fun k s hm=>(by cases hm),fun _ _ _=>rfl,fun l hd hm=>(by cases hm),fun i hi=>by simp[aC] at hi⟩⟩
 | .r k s::es,j,K,ss,os,hw,hn,h=>by
  simp only[dZ,qAa,qAF,zo] at hw;simp only[Ai] at h;obtain⟨us,w,h1,h2,_,_,h3⟩:=apm s m _ _ h;obtain⟨us',h4,h5⟩:=JB es j _ _ _ hw.2 hn h1;refine⟨us++us',h4,fun T hh rest hl=>?_⟩;obtain⟨T1,h1',g1,g⟩:=h5 (T.set k w) hh rest hl;have hk:k∉je es:=ags hw.2 (by simp);refine⟨T1,h1',by simp only[dB,qAo,h2];exact g1,by rw[g.tl,qAU],g.hl,fun k' hk'=>?_,fun k' s' hm hlt=>?_,fun l hlt hno=>?_,fun l hd hm=>?_,fun i hi=>?_⟩
  ·simp only[je,qAg,not_or] at hk';rw[g.keep k' hk'.2,aS (qBp hk'.1)]
  ·rcases qAg.1 hm with e | hm
   ·cases e;rw[g.keep k hk,bL hlt];exact h3
   ·exact g.slot k' s' hm (by rw[qAU];exact hlt)
  ·exact g.keepO l hlt fun hd hm=>hno hd (qAl _ hm)
  ·exact g.obj l hd (by simpa using hm)
  ·rcases g.new i hi with⟨l,hd,e1,e2,e3⟩ | e
   ·exact .inl ⟨l,hd,e1,⟨qAl _ e2.1,e2.2⟩,e3⟩
   ·exact .inr e
 | .o l hd::es,j,K,ss,os,hw,hn,h=>by
  simp only[dZ,qAa,qAF,zo] at hw;simp only[Ai] at h;obtain⟨us,h1,h2⟩:=ase h;obtain⟨us',h4,h5⟩:=JB es j _ _ _ hw.2.2 hn h1;refine⟨us++us',h4,fun T hh rest hl=>?_⟩;obtain⟨oJ,q1,q2⟩:=h2 (nth .dead hh l) (us'++rest);obtain⟨T1,h1',g1,g⟩:=h5 T (hh.set l oJ) rest (by rw[qAU];exact hl);have hln:l<n:=qAe hw.1;have hno:∀hd',Ed.o l hd'∉es:=fun hd'=>F5 hw.2.2 (by simp);refine⟨T1,h1',by simp only[dB,qAo,q1];exact g1,g.tl,g.hl,fun k' hk'=>g.keep k' hk',fun k' s' hm hlt=>g.slot k' s' (by simpa using hm) hlt,fun l' hlt hn'=>?_,fun l' hd' hm=>?_,fun i hi=>?_⟩
  ·have hne:l≠l':=fun e=>hn' hd (by subst e;simp);rw[g.keepO l' hlt fun hd' hm=>hn' hd' (qAl _ hm),aS hne]
  ·rcases qAg.1 hm with e | hm
   ·cases e;rw[g.keepO l (by omega) hno,bL (by omega)];exact q2
   ·have hne:l≠l':=fun e=>by subst e;exact hno hd' hm
    have:=g.obj l' hd' hm;rw[aS hne] at this;exact this
  ·rcases g.new i hi with⟨l,hd,e1,e2,e3⟩ | e
   ·exact .inl ⟨l,hd,e1,⟨qAl _ e2.1,e2.2⟩,e3⟩
   ·exact .inr e
 | .w hd::es,j,K,ss,os,hw,hn,h=>by
  simp only[dZ] at hw;have nxt:∀(us:List U) (K':List U→Option γ),(∀us',K' us'=K (us++us'))→Ai m mo t' H L (j+1) es K'=some b→(∀rest,∃oJ,bF bI .dead hd (us++rest)=(oJ,rest)∧((∃l,L j=some l∧FO H L mo hd .dead oJ (nth .dead H l))∨(L j=none∧2≤m∧∃e,oJ=.own e []∨oJ=.arr e [])))→
    ∃us,K us=some b∧∀T h rest,h.length=j→∃T1 h1,dB bI (.w hd::es) (us++rest) T h=(T1,h1)∧LaidD H L m mo t' j (.w hd::es) T h T1 h1:=fun us K' hK h hq=>by
   obtain⟨us',h4,h5⟩:=JB es (j+1) _ _ _ hw (by omega) h;refine⟨us++us',by rw[←hK];exact h4,fun T hh rest hl=>?_⟩;obtain⟨oJ,q1,q2⟩:=hq (us'++rest);obtain⟨T1,h1',g1,g⟩:=h5 T (hh++[oJ]) rest (by simp[hl]);refine⟨T1,h1',by simp only[dB,qAo,q1];exact g1,g.tl,by rw[g.hl];simp only[aC];omega,fun k' hk'=>g.keep k' hk',fun k' s' hm hlt=>g.slot k' s' (by simpa using hm) hlt,fun l' hlt hn'=>?_,fun l' hd' hm=>?_,fun i hi=>?_⟩
   ·rw[g.keepO l' (by omega) fun hd' hm=>hn' hd' (qAl _ hm),pJ (by omega)]
   ·have hm:Ed.o l' hd'∈es:=by simpa using hm
    have hlt:=nM hw hm;have:=g.obj l' hd' hm;rw[pJ (by omega)] at this;exact this
   ·cases i with
    | zero=>
     have e:nth .dead h1' (j+0)=oJ:=by
      rw[qAP,g.keepO j (by omega) fun hd' hm=>(by have:=nM hw hm;omega),U3 hl]
     rw[e,qAP];rcases q2 with⟨l,e1,e2⟩ | e1
     ·exact .inl ⟨l,hd,e1,⟨by simp,rfl⟩,e2⟩
     ·exact .inr e1
    | succ i=>
     have:=g.new i (by simp only[aC] at hi;omega);rw[show j+1+i=j+(i+1) from by omega] at this;rcases this with⟨l,hd,e1,e2,e3⟩ | e
     ·exact .inl ⟨l,hd,e1,⟨qAl _ e2.1,e2.2⟩,e3⟩
     ·exact .inr e
  simp only[Ai] at h;split at h
  ·rename_i l hL;obtain⟨us,h1,h2⟩:=ase h;exact nxt us _ (fun _=>rfl) h1 fun rest=>(by
    obtain⟨oJ,q1,q2⟩:=h2 .dead rest;exact⟨oJ,q1,.inl ⟨l,hL,q2⟩⟩)
  ·rename_i hL;split at h
   ·rename_i e;rcases aY h with⟨hc,g⟩ | ⟨_,g⟩
    ·exact nxt [⟨.l e,[]⟩] _ (fun _=>rfl) g fun rest=>⟨.own e [],rfl,.inr ⟨hL,qAe hc,e,.inl rfl⟩⟩
    ·cases g
   ·rename_i e;rcases aY h with⟨hc,g⟩ | ⟨_,g⟩
    ·exact nxt [⟨.l e,[]⟩] _ (fun _=>rfl) g fun rest=>⟨.arr e [],rfl,.inr ⟨hL,qAe hc,e,.inr rfl⟩⟩
    ·cases g
   ·cases h
end
end
section
open Go
def H9(o o':TObj)(cv:Nat→Bool):=o'=o∨∃cs cs',o=.box cs∧o'=.box cs'∧(aF cs').length=(aF cs).length∧∀q,cv q=false→(aF cs')[q]? =(aF cs)[q]?
theorem aiH{n len}{L}{eds}:∀c j seen,anv n len L eds j c seen=true→∀i,i<c→∀l,L (j+i)=some l→l<len∧l∉seen∧(n≤l∨aa4 l eds=true)∧∀i',i'<c→L (j+i')=some l→i'=i
 | 0,j,seen,_,i,hi=>by omega
 | c+1,j,seen,h,i,hi=>by
  intro l hl;simp only[anv] at h;split at h
  ·rename_i hj;have ih:=aiH c (j+1) seen h;cases i with
   | zero=>rw[qAP,hj] at hl;cases hl
   | succ i=>
    obtain⟨h1,h2,h3,h4⟩:=ih i (by omega) l (by rw[show j+1+i=j+(i+1) by omega];exact hl);refine⟨h1,h2,h3,fun i' hi' hl'=>?_⟩;cases i' with
    | zero=>rw[qAP,hj] at hl';cases hl'
    | succ i'=>exact congrArg _ (h4 i' (by omega) (by rw[show j+1+i'=j+(i'+1) by omega];exact hl'))
  ·rename_i l0 hj;simp only[qAa,qAZ,qAF,zo] at h;obtain⟨h1,h2,h3,h4⟩:=h;have h1:l0<len:=qAe h1;have ih:=aiH c (j+1) (l0::seen) h4;cases i with
   | zero=>
    rw[qAP,hj] at hl;cases hl;refine⟨h1,h2,h3.imp qAe id,fun i' hi' hl'=>?_⟩;cases i' with
    | zero=>rfl
    | succ i'=>
     grind
   | succ i=>
    obtain⟨g1,g2,g3,g4⟩:=ih i (by omega) l (by rw[show j+1+i=j+(i+1) by omega];exact hl);simp at g2;refine⟨g1,g2.2,g3,fun i' hi' hl'=>?_⟩;cases i' with
    | zero=>rw[qAP,hj] at hl';cases hl';exact(g2.1 rfl).elim
    | succ i'=>exact congrArg _ (g4 i' (by omega) (by rw[show j+1+i'=j+(i'+1) by omega];exact hl'))
theorem Ri{l}:∀{eds:List Ed},aa4 l eds=true→Ed.o l .dead∈eds
 | [],h=>by cases h
 | .r _ _::es,h=>qAl _ (Ri (eds:=es) h)
 | .w _::es,h=>qAl _ (Ri (eds:=es) h)
 | .o l' hd::es,h=>by
  simp only[aa4,qAZ,qAa] at h;rcases h with⟨h1,h2⟩ | h
  ·have:=qAj h1
   grind
  ·exact qAl _ (Ri h)
theorem NR{k}:∀{eds:List Ed},k∈je eds→∃s,Ed.r k s∈eds
 | [],h=>by cases h
 | .r k' s::es,h=>by
  simp only[je,qAg] at h;rcases h with rfl | h
  ·grind
  ·obtain⟨s,hs⟩:=NR h;exact⟨s,qAl _ hs⟩
 | .w _::es,h=>(by obtain⟨s,hs⟩:=NR (eds:=es) h;exact⟨s,qAl _ hs⟩)
 | .o _ _::es,h=>(by obtain⟨s,hs⟩:=NR (eds:=es) h;exact⟨s,qAl _ hs⟩)
theorem Cq H t k:(aR H t).getD k .unk=av H (nth .unk t k):=bM H t (.tmp k)
theorem Ca H t:(aR H t).length=t.length:=by rw[sZ,qAh]
theorem kL{α}{d}{l:List α}{n}(h:l.length≤n):nth d l n=d:=by rw[iD,List.getD,qAH h];rfl
section
variable {h' hJ:List TObj}{Lw:List (Option Nat)}{L:Nat→Option Nat}{n:Nat}
theorem adO{j l} o (hn:iP Lw (aA h').length j=l):VW (aA h') Lw (eP j o) (eP l o)∧∀z,VW (aA h') Lw (dO j z o) (dO l z o):=by
 have sl:∀(e:ET) (xs:List e.D),VW (aA h') Lw (.slice (xs.map e.enc) (.tip j e.sz)) (.slice (xs.map e.enc) (.tip l e.sz)):=fun e xs=>.same (by simp only[ren,pG,l9,hn]);have ps:∀z k,VW (aA h') Lw (.psl j z k) (.psl l z k):=fun z k=>.same (by simp only[ren,hn]);cases o with
 | own e xs=>exact⟨sl e xs,fun z=>.unk _⟩
 | gone e xs=>exact⟨sl e xs,fun z=>.unk _⟩
 | arr e xs=>exact⟨.unk _,fun z=>ps z _⟩
 | gon k=>exact⟨.unk _,fun z=>ps z _⟩
 | _=>exact⟨.unk _,fun z=>.unk _⟩
theorem awC{m}{hd}{o0 oJ o'}{j l}(h:FO h' L m hd o0 oJ o')(hn:iP Lw (aA h').length j=l):VW (aA h') Lw (eP j oJ) (eP l o')∧∀z,VW (aA h') Lw (dO j z oJ) (dO l z o'):=by
 cases hd with
 | dead=>have e:oJ=.dead:=h;subst e;exact⟨.unk _,fun z=>.unk _⟩
 | box cs=>obtain⟨ws,vs,rfl,rfl,_⟩:=h;exact⟨.unk _,fun z=>.unk _⟩
 | bx is=>
  rcases h with rfl | ⟨_,_,_,_,rfl,_⟩
  ·exact⟨.unk _,fun z=>.unk _⟩
  ·exact⟨.unk _,fun z=>.unk _⟩
 | own e=>obtain⟨e,xs,rfl,rfl⟩:=h;exact adO _ hn
 | mp e=>obtain⟨e,xs,rfl,rfl⟩:=h;exact⟨.unk _,fun z=>.unk _⟩
 | arr e=>obtain⟨e,xs,rfl,rfl⟩:=h;exact adO _ hn
theorem iV{cs cs'}(h:Rs (VW (aA h') Lw) cs cs'):cs.length=cs'.length∧∀j,VW (aA h') Lw (cs.getD j .unk) (cs'.getD j .unk):=by
 refine⟨h.len,fun j=>?_⟩;by_cases hj:j<cs.length
 ·exact h.get j hj
 ·rw[List.getD,qAH (qBa hj)];exact .unk _
theorem aE2(hL:∀j l,L j=some l→iP Lw (aA h').length j=l)
  (look:∀j l,L j=some l→VW (aA h') Lw (eP j (nth .dead hJ j)) (eP l (nth .dead h' l))∧∀z,VW (aA h') Lw (dO j z (nth .dead hJ j)) (dO l z (nth .dead h' l)))
  (non:∀j,L j=none→VW (aA h') Lw (eP j (nth .dead hJ j)) (.slice [] .nils)∧∀z,VW (aA h') Lw (dO j z (nth .dead hJ j)) (.slice [] .nils)):
  Wk h' hJ L fun _=>VW (aA h') Lw:=
 ⟨.unk _,fun _ _=>.unk _,fun m a a' hf hc=>(by
  generalize Nat.ble 1 m=q at hc;cases hc with
  | same=>exact .same (hf _)
  | share es t=>
   have:=hf (iP Lw (aA h').length);simp only[ren,AV.slice.injEq] at this;exact .share this.1
  | nilF=>exact .nilF),fun m j l o h=>.same (by simp only[ren,hL j l h]),fun m j l h=>.same (by simp only[ren,hL j l h]),fun m j l h=>(look j l h).1,fun m j h=>(non j h).1,
  fun m j l z h=>(look j l h).2 z,fun m j z h=>(non j h).2 z,fun m cs cs' h=>.eptr (iV h).1 (iV h).2,fun m cs cs' h=>.agg (iV h).1 (iV h).2,fun m cs cs' h=>.tup (iV h).1 (iV h).2,fun m cs cs' h=>.tup (iV h).1 (iV h).2,fun m f cs cs' h=>.func (iV h).1 (iV h).2,fun m f cs cs' h=>.func (iV h).1 (iV h).2⟩
mutual
theorem agz(hW:Wk h' hJ L (fun _=>VW (aA h') Lw))(hL:∀j l,L j=some l→iP Lw (aA h').length j=l)(hn:∀j,j<n→L j=some j):∀v,rfB n v=true→VW (aA h') Lw (av hJ v) (av h' v)
 | .unk,_=>.unk _
 | .nilp,_=>.same rfl
 | .nilF,_=>.same rfl
 | .nils,_=>.same rfl
 | .lf t x,_=>.same (Jf _ t x)
 | .nat _,_=>.same rfl
 | .ptr l o,h=>hW.ptr 0 _ _ _ (hn l (qAe h))
 | .mapr l,h=>hW.mapr 0 _ _ (hn l (qAe h))
 | .ap l i z o,h=>hW.ptr 0 _ _ (i.toNat*z+o) (hn l (qAe h))
 | .own l,h=>hW.own 0 _ _ (hn l (qAe h))
 | .psl l z c,h=>by
  cases c with
  | none=>exact hW.psl 0 _ _ _ (hn l (qAe h))
  | some k=>exact .same (by simp only[av,ren,hL l l (hn l (qAe h))])
 | .eptr cs,h=>by simp only[av];exact hW.eptr 0 _ _ (Z9 hW hL hn cs h)
 | .agg cs,h=>by simp only[av];exact hW.agg 0 _ _ (Z9 hW hL hn cs h)
 | .tup cs,h=>by simp only[av];exact hW.tup0 0 _ _ (aoy hW hL hn cs h)
 | .func f cs,h=>by simp only[av];exact hW.func0 0 f _ _ (aoy hW hL hn cs h)
theorem Z9(hW:Wk h' hJ L (fun _=>VW (aA h') Lw))(hL:∀j l,L j=some l→iP Lw (aA h').length j=l)(hn:∀j,j<n→L j=some j):∀vs,gU n vs=true→Rs (VW (aA h') Lw) (aU hJ vs) (aU h' vs)
 | [],_=>.nil
 | v::vs,h=>by
  simp only[gU,qAa] at h;have h1:=agz hW hL hn v h.1;have h2:=Z9 hW hL hn vs h.2;simp only[aU];refine Rs.app ?_ h2;rcases qZ v with ho | ⟨e,x,rfl⟩
  ·rw[ho,ho];exact .cons h1 .nil
  ·simp only[zm];have:=(aaZ e x);generalize e.enc x=l at this;clear h1
   induction l with
   | nil=>exact .nil
   | cons a l ih=>exact .cons (.same (this a (by simp) _)) (ih fun b hb=>this b (by simp[hb]))
theorem aoy(hW:Wk h' hJ L (fun _=>VW (aA h') Lw))(hL:∀j l,L j=some l→iP Lw (aA h').length j=l)(hn:∀j,j<n→L j=some j):∀vs,gU n vs=true→Rs (VW (aA h') Lw) (aR hJ vs) (aR h' vs)
 | [],_=>.nil
 | v::vs,h=>by
  simp only[gU,qAa] at h;simp only[aR];exact .cons (agz hW hL hn v h.1) (aoy hW hL hn vs h.2)
end
theorem aeZ{n}:∀{vs:List TV},gU n vs=true→∀v∈vs,rfB n v=true
 | [],_,v,h=>by cases h
 | x::vs,h,v,hv=>by
  simp only[gU,qAa] at h;rcases qAg.1 hv with rfl | hv
  ·exact h.1
  ·exact aeZ h.2 v hv
theorem azD{n}:∀e x,∀v∈J8 e x,rfB n v=true:=by
 intro e x v hv;cases e<;>simp only[J8,qAg] at hv<;>(repeat' (rcases hv with rfl | hv))<;>first | rfl | (subst hv;rfl)
theorem Ot{n}:∀{vs:List TV},gU n vs=true→∀v∈aF vs,rfB n v=true
 | [],_,v,h=>by cases h
 | x::vs,h,v,hv=>by
  simp only[gU,qAa] at h;simp only[aF,qAn] at hv;rcases hv with hv | hv
  ·rcases qZ x with ho | ⟨e,y,rfl⟩
   ·rw[uJ ho,qBc] at hv;subst hv;exact h.1
   ·exact azD e y v hv
  ·exact Ot h.2 v hv
theorem wX{n}:∀{h:List TObj} {l:Nat},F6 n h=true→nth .dead h l≠ .res∧∀cs,nth .dead h l=.box cs→gU n cs=true
 | [],l,_=>⟨fun h=>(by cases h),fun cs h=>(by cases h)⟩
 | o::os,l,h=>by
  simp only[F6,qAa] at h;cases l with
  | zero=>
   have e:nth .dead (o::os) 0=o:=rfl
   grind
  | succ l=>exact wX (h:=os) h.2
theorem Vf{cs vs}(hl:(aF cs).length=(aF vs).length)(h:∀q,q<(aF cs).length→VW (aA h') Lw (av hJ ((aF cs).getD q .unk)) (av h' ((aF vs).getD q .unk))):OW (aA h') Lw (.box (aU hJ cs)) (.box (aU h' vs)):=by
 refine .box (by rw[kF,kF,←nN,←nN,hl]) fun j=>?_;rw[MZ,MZ];by_cases hj:j<(aF cs).length
 ·grind
 ·rw[List.getD,qAH (qBa hj)];exact .unk _
theorem Nk g (e:ET)(xs:List (Str×e.D)):(xs.map fun p=>(p.1,e.one p.2)).map (fun p=>(p.1,ren g p.2))=xs.map fun p=>(p.1,e.one p.2):=by
 rw[qBh];refine qBo fun p _=>?_;simp;rw[←ap8 [] e p.2];cases e<;>simp only[ET.seg,av]<;>exact Jf _ _ _
theorem aEk(hW:Wk h' hJ L (fun _=>VW (aA h') Lw))(hL:∀j l,L j=some l→iP Lw (aA h').length j=l)(hn:∀j,j<n→L j=some j) o (hr:o≠ .res)(hb:∀cs,o=.box cs→gU n cs=true):OW (aA h') Lw (fC hJ o) (fC h' o):=by
 cases o with
 | box cs=>exact .box (iV (Z9 hW hL hn cs (hb cs rfl))).1 (iV (Z9 hW hL hn cs (hb cs rfl))).2
 | own e xs=>exact .tip _
 | gone e xs=>exact .dead _
 | mp e xs=>exact .same rfl (by simp only[fC,dK,Nk])
 | arr e xs=>exact .same rfl (by simp only[fC,dK,l9])
 | gon k=>exact .dead _
 | dead=>exact .dead _
 | res=>exact(hr rfl).elim
theorem aAj{m}(hW:Wk h' hJ L (fun _=>VW (aA h') Lw))(hL:∀j l,L j=some l→iP Lw (aA h').length j=l)(hn:∀j,j<n→L j=some j){hd}{o0 oJ o'}(h:FO h' L m hd o0 oJ o')
  (hb:∀is cs,hd=.bx is→o0=.box cs→gU n cs=true∧H9 o0 o' (pQ is)):OW (aA h') Lw (fC hJ oJ) (fC h' o'):=by
 cases hd with
 | dead=>have e:oJ=.dead:=h;subst e;exact .dead _
 | box cs=>obtain⟨ws,vs,rfl,rfl,h1⟩:=h;exact .box (iV (h1 hJ _ hW)).1 (iV (h1 hJ _ hW)).2
 | bx is=>
  rcases h with rfl | ⟨cs0,cs,vs,rfl,rfl,rfl,h1,h2⟩
  ·exact .dead _
  ·obtain⟨g1,g2⟩:=hb is cs0 rfl rfl;have g3:(aF vs).length=(aF cs0).length∧∀q,pQ is q=false→(aF vs)[q]? =(aF cs0)[q]?:=by
    rcases g2 with e | ⟨a,b,e1,e2,e3,e4⟩
    ·grind
    grind
   refine Vf (h1.trans g3.1.symm) fun q hq=>?_;cases hc:pQ is q with
   | true=>exact(h2 q).1 hc hJ _ hW hq
   | false=>
    have hm:(aF cs0).getD q .unk∈aF cs0:=by
     grind
    have:=agz hW hL hn _ (Ot g1 _ hm)
    grind
 | own e=>obtain⟨e,xs,rfl,rfl⟩:=h;exact .tip _
 | mp e=>obtain⟨e,xs,rfl,rfl⟩:=h;exact .same rfl (by simp only[fC,dK,Nk])
 | arr e=>obtain⟨e,xs,rfl,rfl⟩:=h;exact .same rfl (by simp only[fC,dK,l9])
end
end
section
open Go
section
variable {γ:Type}{b:γ}
theorem arW{α}:∀(l:List α) n (K:Nat→Option γ),Gd l n K=K (n+l.length)
 | [],_,_=>rfl
 | _::l,n,K=>by simp only[Gd,arW l,qAm];congr 1;omega
theorem Wi{α}(l:List α)(K:Nat→Option γ):Gd l 0 K=K l.length:=by rw[arW,qAL]
theorem aEF{n N}{m}{j}(h:j<n):LJ n N m j=some j:=by
 unfold LJ;rw[show Nat.blt j n=true from qCO h];rfl
theorem aAl{n N}{m}{j}(h1:n≤N)(h:N≤j):LJ n N m j=none:=by
 have key:∀k,k≤j→Nat.blt j k=false:=fun k hk=>by
  cases hb:Nat.blt j k with
  | false=>rfl
  | true=>have:j<k:=qAe hb;omega
 unfold LJ;rw[key n (by omega),key N h];rfl
theorem ZN{n m}{T0 t'}{h0 h'}{eds}{K}
  (hn:h0.length=n) (hm:m≤n) (wfT:gU n T0=true) (wfH:F6 n h0=true) (edw:dZ n [] [] eds=true) (tl:T0.length=t'.length) (hl:n≤h'.length)
  (slots:∀k,k∉je eds→nth .unk T0 k=.unk∨nth .unk T0 k=nth .unk t' k)
  (objs:∀l,l<n→((∀hd,Ed.o l hd∉eds)→H9 (nth .dead h0 l) (nth .dead h' l) fun _=>false)∧∀is,Ed.o l (.bx is)∈eds→H9 (nth .dead h0 l) (nth .dead h' l) (pQ is))
  (hK:apS n eds t' h' K=some b):
  ∃us,K us=some b∧∀T hJ,dB bI eds us T0 h0=(T,hJ)→T.length=T0.length∧n≤hJ.length∧Le m (aR h' t') (aA h') (aR hJ T) (aA hJ):=by
 unfold apS at hK;rw[Wi] at hK;simp only at hK;obtain⟨hinj,hE⟩:=(aY hK).resolve_right fun h=>by cases h.2
 clear hK;generalize hLd:LJ n (n+aC eds) (M6 t' h' n eds [])=L at hinj hE;have Llt:∀j,j<n→L j=some j:=fun j hj=>by rw[←hLd];exact aEF hj
 have Lge:∀j,n+aC eds≤j→L j=none:=fun j hj=>by rw[←hLd];exact aAl (Nat.le_add_right _ _) hj
 have inj:=aiH (aC eds) n [] hinj;obtain⟨us,hus,hB⟩:=JB eds n K [] [] edw (qAd _) hE;refine⟨us,hus,fun T hJ hbl=>?_⟩;obtain⟨T1,h1,q1,la⟩:=hB T0 h0 [] hn;rw[qAr,hbl] at q1;cases q1;refine⟨la.tl,by rw[la.hl];omega,?_⟩
 let N:=n+aC eds
 let Lw:List (Option Nat):=(List.range N).map L
 have Lw_get:∀i,i<N→Lw[i]? =some (L i):=fun i hi=>by simp[Lw,hi]
 have Lw_none:∀i,N≤i→Lw[i]? =none:=fun i hi=>by simp[Lw];omega
 have hLn:∀j l,L j=some l→iP Lw (aA h').length j=l:=fun j l h=>by
  have hj:j<N:=by
   apply qAp;intro hj;rw[Lge j (by omega)] at h;cases h
  unfold iP;rw[Lw_get j hj,h];rfl
 have newAt:∀j,n≤j→j<N→(∃l hd,L j=some l∧Ed.w hd∈eds∧FO h' L 2 hd .dead (nth .dead hJ j) (nth .dead h' l))∨(L j=none∧2≤2∧∃e,nth .dead hJ j=.own e []∨nth .dead hJ j=.arr e []):=fun j h1 h2=>by
  have:=la.new (j - n) (by omega);rw[show n+(j - n)=j from by omega] at this;exact this.imp (fun⟨l,hd,e1,e2,e3⟩=>⟨l,hd,e1,e2.1,e3⟩) id
 have look:∀j l,L j=some l→VW (aA h') Lw (eP j (nth .dead hJ j)) (eP l (nth .dead h' l))∧∀z,VW (aA h') Lw (dO j z (nth .dead hJ j)) (dO l z (nth .dead h' l)):=fun j l hj=>by
  by_cases hlt:j<n
  ·have e:=Llt j hlt;rw[hj] at e;cases e;by_cases hed:∃hd,Ed.o j hd∈eds
   ·obtain⟨hd,hed⟩:=hed;exact awC (la.obj j hd hed) (hLn j j hj)
   ·have hno:∀hd,Ed.o j hd∉eds:=fun hd h=>hed ⟨hd,h⟩;rw[la.keepO j hlt hno];rcases(objs j hlt).1 hno with e | ⟨cs,cs',e1,e2,_⟩
    ·rw[e];exact adO _ (hLn j j hj)
    ·rw[e1,e2];exact⟨.unk _,fun z=>.unk _⟩
  ·have hN:j<N:=by
    apply qAp;intro hN;rw[Lge j (by omega)] at hj;cases hj
   rcases newAt j (by omega) hN with⟨l',hd,e1,_,e3⟩ | ⟨e1,_⟩
   ·rw[hj] at e1;cases e1;exact awC e3 (hLn j l hj)
   ·rw[hj] at e1;cases e1
 have non:∀j,L j=none→VW (aA h') Lw (eP j (nth .dead hJ j)) (.slice [] .nils)∧∀z,VW (aA h') Lw (dO j z (nth .dead hJ j)) (.slice [] .nils):=fun j hj=>by
  by_cases hN:j<N
  ·have hge:n≤j:=by
    apply qAp;intro hlt;rw[Llt j (by omega)] at hj;cases hj
   rcases newAt j hge hN with⟨l',hd,e1,_⟩ | ⟨_,_,e,e1 | e1⟩
   ·rw[hj] at e1;cases e1
   ·rw[e1];exact⟨.nils _ _,fun z=>.unk _⟩
   ·rw[e1];exact⟨.unk _,fun z=>.nilP _ _⟩
  ·rw[kL (by rw[la.hl];omega)];exact⟨.unk _,fun z=>.unk _⟩
 have hW:=aE2 hLn look non;have hslot:∀k,VW (aA h') Lw (av hJ (nth .unk T k)) (av h' (nth .unk t' k)):=fun k=>by
  by_cases hk:k∈je eds
  ·obtain⟨s,hs⟩:=NR hk;by_cases hlt:k<T0.length
   ·exact la.slot k s hs hlt hJ _ hW
   ·rw[kL (by rw[la.tl];omega)];exact .unk _
  ·rw[la.keep k hk];rcases slots k hk with e | e
   ·rw[e];exact .unk _
   ·rw[←e];refine agz hW hLn Llt _ ?_;by_cases hlt:k<T0.length
    ·refine aeZ wfT _ ?_;rw[iD,List.getD,qAc hlt];exact qAO hlt
    ·rw[kL (by omega)];rfl
 have hobj:∀i l,L i=some l→OW (aA h') Lw (fC hJ (nth .dead hJ i)) (fC h' (nth .dead h' l)):=fun i l hi=>by
  by_cases hlt:i<n
  ·have e:=Llt i hlt;rw[hi] at e;cases e;by_cases hed:∃hd,Ed.o i hd∈eds
   ·obtain⟨hd,hed⟩:=hed;exact aAj hW hLn Llt (la.obj i hd hed) fun is cs e e2=>⟨(wX wfH).2 cs e2,by subst e;exact(objs i hlt).2 is hed⟩
   ·have hno:∀hd,Ed.o i hd∉eds:=fun hd h=>hed ⟨hd,h⟩;rw[la.keepO i hlt hno];rcases(objs i hlt).1 hno with e | ⟨cs,cs',e1,e2,e3,e4⟩
    ·rw[e];exact aEk hW hLn Llt _ (wX wfH).1 (wX wfH).2
    ·have hb:=(wX wfH).2 cs e1;rw[e1,e2];refine Vf e3.symm fun q hq=>?_;have hm:(aF cs).getD q .unk∈aF cs:=by rw[List.getD,qAc hq];exact qAO hq
     have:=agz hW hLn Llt _ (Ot hb _ hm);simp only[List.getD] at this⊢;rw[e4 q rfl];exact this
  ·have hN:i<N:=by
    apply qAp;intro hN;rw[Lge i (by omega)] at hi;cases hi
   rcases newAt i (by omega) hN with⟨l',hd,e1,_,e3⟩ | ⟨e1,_⟩
   ·rw[hi] at e1;cases e1;exact aAj hW hLn Llt e3 fun is cs e e2=>by cases e2
   ·rw[hi] at e1;cases e1
 refine Le.of Lw ⟨by rw[Ca,Ca,la.tl,tl],by simp[Lw,aA,la.hl,N],fun i hi=>by rw[Lw_get i (by omega),Llt i (by omega)],?_,?_,fun k=>by rw[Cq,Cq];exact hslot k,?_,?_⟩
 ·intro i j l hi hj li lj;have hiN:i<N:=by
   apply qAp;intro hN;rw[Lw_none i (by omega)] at hi;cases hi
  have hjN:j<N:=by
   apply qAp;intro hN;rw[Lw_none j (by omega)] at hj;cases hj
  rw[Lw_get i hiN] at hi;rw[Lw_get j hjN] at hj;have hi:=Option.some.inj hi;have hj:=Option.some.inj hj;have mix:∀i j,i<n→n≤j→j<N→L i=some l→L j=some l→live (obj? (aA hJ) i)→False:=fun i j h1 h2 h3 hi hj li=>by
   have ei:i=l:=Option.some.inj ((Llt i h1).symm.trans hi);obtain⟨_,_,g3,_⟩:=inj (j - n) (by omega) l (by rw[show n+(j - n)=j from by omega];exact hj);rcases g3 with g3 | g3
   ·omega
   ·have e:nth .dead hJ l=.dead:=la.obj l .dead (Ri g3);rw[←ei] at e;rw[jI,e] at li;exact li
  by_cases h1:i<n
  ·by_cases h2:j<n
   ·rw[Llt i h1] at hi;rw[Llt j h2] at hj;cases hi;cases hj;rfl
   ·exact(mix i j h1 (by omega) hjN hi hj li).elim
  ·by_cases h2:j<n
   ·exact(mix j i h2 (by omega) hiN hj hi lj).elim
   ·obtain⟨_,_,_,g4⟩:=inj (j - n) (by omega) l (by rw[show n+(j - n)=j from by omega];exact hj);have:=g4 (i - n) (by omega) (by rw[show n+(i - n)=i from by omega];exact hi);omega
 ·intro i l hi;have hiN:i<N:=by
   apply qAp;intro hN;rw[Lw_none i (by omega)] at hi;cases hi
  rw[Lw_get i hiN] at hi;have hi:=Option.some.inj hi;have hll:(aA h').length=h'.length:=by simp[aA]
  rw[hll];by_cases h1:i<n
  ·rw[Llt i h1] at hi;cases hi;omega
  ·exact(inj (i - n) (by omega) l (by rw[show n+(i - n)=i from by omega];exact hi)).1
 ·intro i l hi;have hiN:i<N:=by
   apply qAp;intro hN;rw[Lw_none i (by omega)] at hi;cases hi
  rw[Lw_get i hiN] at hi;have hi:=Option.some.inj hi;rw[jI,jI];exact hobj i l hi
 ·intro i hi;have hiN:i<N:=by
   apply qAp;intro hN;rw[Lw_none i (by omega)] at hi;cases hi
  rw[Lw_get i hiN] at hi;have hi:=Option.some.inj hi;have hge:n≤i:=by
   apply qAp;intro hlt;rw[Llt i (by omega)] at hi;cases hi
  rw[jI];rcases newAt i hge hiN with⟨l',hd,e1,_⟩ | ⟨_,_,e,e1 | e1⟩
  ·rw[hi] at e1;cases e1
  ·rw[e1];rfl
  ·rw[e1];rfl
end
end
end Abs
end Go.Proofs.YtneeginmfjageaaGreat
