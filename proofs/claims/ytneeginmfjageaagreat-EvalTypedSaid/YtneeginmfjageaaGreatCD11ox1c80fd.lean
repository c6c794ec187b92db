/-
  Writes on typed states are those on abstract states; what was not written is as it was. Conditions: none; lemmas.
-/
import Derived.Test.YtneeginmfjageaaGreatCD4ox7d8d26
import Derived.Test.YtneeginmfjageaaGreatCTaboxb29432
set_option linter.all false
namespace Go.Proofs.YtneeginmfjageaaGreat
namespace Abs
section
open Go
noncomputable section
def gT(s:DS):ASt:=⟨aT s.h s.t,aA s.h⟩
def Lk H H' l:=fA l (nth .dead H l)=fA l (nth .dead H' l)/\∀z,dU l z (nth .dead H l)=dU l z (nth .dead H' l)
theorem nJ(n:Nat):Nat.beq n n=true:=Nat.beq_refl n
mutual
theorem UJ{H H':List TObj}:∀v:TV,(∀l,aod l v=true→Lk H H' l)→av H v=av H' v
 | .own l,h=>by simp only[av];exact(h l (nJ l)).1
 | .psl l z c,h=>by
  cases c with
  |none=>simp only[av,(h l (nJ l)).2 z]
  |some n=>rfl
 | .eptr cs,h=>by simp only[av];rw[Bj cs h]
 | .agg cs,h=>by simp only[av];rw[Bj cs h]
 | .tup cs,h=>by simp only[av];rw[Vv cs h]
 | .func f cs,h=>by simp only[av];rw[Vv cs h]
 | .unk,_=>rfl| .nilp,_=>rfl| .nilF,_=>rfl| .nils,_=>rfl| .lf _ _,_=>rfl| .nat _,_=>rfl| .ptr _ _,_=>rfl| .mapr _,_=>rfl| .ap _ _ _ _,_=>rfl
theorem Bj{H H':List TObj}:∀vs:List TV,(∀l,kH l vs=true→Lk H H' l)→aX H vs=aX H' vs
 |[],_=>rfl
 |v::vs,h=>by
  simp only[aX];rw[UJ v fun l hl=>h l (by simp only[kH,hl,qCp]),Bj vs fun l hl=>h l (by simp only[kH,hl,qDx])]
theorem Vv{H H':List TObj}:∀vs:List TV,(∀l,kH l vs=true→Lk H H' l)→aT H vs=aT H' vs
 |[],_=>rfl
 |v::vs,h=>by
  simp only[aT];rw[UJ v fun l hl=>h l (by simp only[kH,hl,qCp]),Vv vs fun l hl=>h l (by simp only[kH,hl,qDx])]
end
theorem aAP{H H'} o (h:∀cs,o=.box cs->∀l,kH l cs=true->Lk H H' l):fJ H o=fJ H' o:=by
 cases o with|box cs=>simp only[fJ];rw[Bj cs (h cs rfl)]|_=>rfl
theorem aDG H l (o:TObj) m:nth .dead (H.set l o) m=if l=m/\l<H.length then o else nth .dead H m:=by
 by_cases h:l=m
 ·subst h;by_cases a:l<H.length
  ·rw[bM a,if_pos ⟨rfl,a⟩]
  rw[if_neg (λh=>a h.2),qBP (qBb a)]
 rw[aU h,if_neg (λk=>h k.1)]
theorem Pz{H l o}(h:fA l (nth .dead H l)=fA l o/\∀z,dU l z (nth .dead H l)=dU l z o) m:Lk H (H.set l o) m:=by
 unfold Lk;rw[aDG]
 grind
theorem aac{H l o m}(h:l≠m):Lk H (H.set l o) m:=by unfold Lk;rw[aU h];exact⟨rfl,λ_=>rfl⟩
theorem CK{l o}(h:plainO o=true):fA l o=.unk/\∀z,dU l z o=.unk:=by cases o<;>first|exact⟨rfl,λ_=>rfl⟩|cases h
theorem apl{l o a}(h:plainO o=true)(b:plainO a=true):fA l o=fA l a/\∀z,dU l z o=dU l z a:=
 ⟨by rw[(CK h).1,(CK b).1],λz=>by rw[(CK h).2,(CK b).2]⟩
def WM H H'(t:List TV):=(∀v∈t,av H v=av H' v)/\∀m,∀c,nth .dead H m=.box c->aX H c=aX H' c
theorem OL{H H'} t (h:∀m,Lk H H' m):WM H H' t:=⟨λv _=>UJ v λl _=>h l,λm c _=>Bj c λl _=>h l⟩
theorem alf:∀{t:List TV} {l:Nat} {v:TV},v∈t->kH l t=false->aod l v=false
 |x::t,l,v,a,h=>by
  simp only[kH,qBQ]at h;rcases qAh.1 a with rfl|a
  ·exact h.1
  exact alf a h.2
theorem af4:∀{H:List TObj} {l m:Nat} {c:List TV},Vf l H=false->nth .dead H m=.box c->kH l c=false
 |[],l,m,c,_,h=>by cases h|o::H,l,m,c,h,a=>by
  simp only[Vf,qBQ]at h;cases m with|zero=>have e:o=.box c:=a;subst e;exact h.1|succ m=>exact af4 h.2 a
theorem aBu{H t l o}(b:kH l t=false)(h2:Vf l H=false):WM H (H.set l o) t:=by
 refine⟨λv c=>UJ v λm h=>aac λe=>?_,λm s d=>Bj s λq a=>aac λe=>?_⟩;·subst e;rw[alf c b]at h;cases h
 subst e;rw[af4 h2 d]at a;cases a
theorem apz{H H' t}(h:∀v∈t,av H v=av H' v):aT H t=aT H' t:=by rw[sS,sS];exact qBq h
theorem aAD{H}{t}{l}{o}(h:WM H (H.set l o) t):aA (H.set l o)=(aA H).set l (fJ (H.set l o) o):=by
 have k:∀m,fJ (H.set l o) (nth .dead H m)=fJ H (nth .dead H m):=λm=>(by
  cases b:nth .dead H m with|box c=>simp only[fJ,h.2 m c b]|_=>rfl)
 unfold aA;generalize a:H.set l o=d at k;rw[<-a,qCU,a];congr 1;apply qBR;intro m;simp;cases b:H[m]? with|none=>rfl|some x=>
  have:=k m;rw[iK,List.getD,b]at this
  grind
theorem lC{α β}:∀l n v (K:List α->β),yF l n v K=K (l.set n v)|[],_,_,_=>rfl|_::_,0,_,_=>rfl|x::s,n+1,v,K=>(lC s n v λys=>K (x::ys)).trans rfl
theorem auw{α a}{b}:∀l n v (K:List α->Option a),aB6 l n v K=some b->n<l.length/\K (l.set n v)=some b
 |[],_,_,_,h=>by cases h|_::_,0,_,_,h=>⟨by simp,h⟩|x::s,n+1,v,K,h=>by
  obtain⟨c,d⟩:=auw s n v (λys=>K (x::ys)) h
  grind
theorem aG8{a} v (K:TV->Option a):fV v K=K v:=by cases v<;>rfl
section
variable {γ:Type}{b:γ}
def W1(s:DS):TWr->DS->Prop
 | .sl n v,a=>n<s.t.length/\a=⟨s.t.set n v,s.h,n::s.d,s.o,s.up.filter λi=>!Nat.beq i n,s.rl.filter λp=>!(Nat.beq p.1 n ||(Nat.beq p.2.1 n ||Nat.beq p.2.2 n)),s.cp.filter λp=>!(Nat.beq p.1 n ||Nat.beq p.2 n),s.oo⟩
 | .ob l o,a=>plainO o=true/\plainO (nth .dead s.h l)=true/\a={s with h:=s.h.set l o,o:=(l,0)::s.o}
 | .st l f d,a=>∃b c,nth .dead s.h l=.box b/\uD b f d some=some c/\a={s with h:=s.h.set l (.box c),o:=(rng (f+1) (widths d)).map (λq=>(l,q))++s.o}
 | .kill l,a=>(∃e x,nth .dead s.h l=.own e x/\a={s with h:=s.h.set l (.gone e x),o:=(l,0)::s.o})∨(∃e x,nth .dead s.h l=.arr e x/\a={s with h:=s.h.set l (.gon x.length),o:=(l,0)::s.o})∨((∃b,nth .dead s.h l=.box b)∨∃e x,nth .dead s.h l=.mp e x)/\a={s with h:=s.h.set l .dead,o:=(l,0)::s.o}
 | .nw l o,a=>lM (nth .dead s.h l)=true/\(plainO o=true∨kH l s.t=false/\Vf l s.h=false)/\a={s with h:=s.h.set l o,o:=(l,0)::s.o}
 | .up l i e y,a=>∃x,nth .dead s.h l=.arr e x/\a={s with h:=s.h.set l (.arr e (upd x i y)),o:=(l,0)::s.o}
inductive Ws:DS→List TWr→DS→Prop where
 |nil (s:DS):Ws s [] s
 |cons {s s1 s2:DS} {w:TWr} {ws:List TWr}:W1 s w s1→Ws s1 ws s2→Ws s (w::ws) s2
theorem xK:∀ws s K,En ws s K=some b->∃a,Ws s ws a/\K a=some b
 |[],s,K,h=>⟨s,.nil s,h⟩| .sl n v::ws,s,K,h=>by simp only[En,aG8]at h;obtain⟨m,h⟩:=auw _ _ _ _ h;obtain⟨a,d,c⟩:=xK ws _ _ h;exact⟨a,(.cons (w:=.sl n v) (s1:=_) ⟨m,rfl⟩ d),c⟩
 | .ob l o::ws,s,K,h=>by
  simp only[En,lC]at h;rcases aZ h with⟨g,h⟩|⟨_,h⟩
  ·simp only[qAb]at g;obtain⟨a,d,c⟩:=xK ws _ _ h;exact⟨a,.cons ⟨g.1,g.2,rfl⟩ d,c⟩
  cases h
 | .st l p u::ws,s,K,h=>by
  simp only[En]at h;split at h;·rename_i j f;obtain⟨k,d,c⟩:=amo h;rw[lC]at c;obtain⟨a,r,t⟩:=xK ws _ _ c;exact⟨a,.cons ⟨j,k,f,d,rfl⟩ r,t⟩
  cases h
 | .kill l::ws,s,K,h=>by
  simp only[En]at h;split at h;·rename_i e x f;rw[lC]at h;obtain⟨a,d,c⟩:=xK ws _ _ h;exact⟨a,.cons (.inl ⟨e,x,f,rfl⟩) d,c⟩
  ·rename_i e x f;rw[lC]at h;obtain⟨a,d,c⟩:=xK ws _ _ h;exact⟨a,.cons (.inr (.inl ⟨e,x,f,rfl⟩)) d,c⟩
  ·rename_i j f;rw[lC]at h;obtain⟨a,d,c⟩:=xK ws _ _ h;exact⟨a,.cons (.inr (.inr ⟨.inl ⟨j,f⟩,rfl⟩)) d,c⟩
  ·rename_i e x f;rw[lC]at h;obtain⟨a,d,c⟩:=xK ws _ _ h;exact⟨a,.cons (.inr (.inr ⟨.inr ⟨e,x,f⟩,rfl⟩)) d,c⟩
  cases h
 | .nw l o::ws,s,K,h=>by
  simp only[En]at h;rcases aZ h with⟨g,h⟩|⟨_,h⟩
  ·simp only[qAb,qBm,qAS,qBQ]at g;rw[lC]at h;obtain⟨a,d,c⟩:=xK ws _ _ h;exact⟨a,.cons ⟨g.1,g.2,rfl⟩ d,c⟩
  cases h
 | .up l i e y::ws,s,K,h=>by
  simp only[En]at h;split at h
  ·rename_i z x f;split at h
   ·rename_i q _;subst q;rw[lC]at h;obtain⟨a,d,c⟩:=xK ws _ _ h;exact⟨a,.cons ⟨x,f,rfl⟩ d,c⟩
   cases h
  cases h
theorem Ji{s s'}{w}(h:W1 s w s'):WM s.h s'.h s.t/\s'.h=ZN s.h w:=by
 cases w with
 |sl n v=>obtain⟨_,b⟩:=h;subst b;exact⟨⟨λ_ _=>rfl,λ_ _ _=>rfl⟩,rfl⟩|ob l o=>obtain⟨a,b,rfl⟩:=h;exact⟨OL _ (Pz (apl b a)),rfl⟩
 |st l f j=>
  obtain⟨c,d,a,b,rfl⟩:=h;refine⟨OL _ (Pz ?_),?_⟩;·rw[a];exact⟨rfl,λ_=>rfl⟩
  simp only[ZN,a,b]
 |kill l=>
  rcases h with⟨e,x,a,rfl⟩|⟨e,x,a,rfl⟩|⟨⟨c,a⟩|⟨e,x,a⟩,rfl⟩<;>
  ·refine⟨OL _ (Pz ?_),by simp only[ZN,a]⟩;rw[a];exact⟨rfl,λ_=>rfl⟩
 |nw l o=>
  obtain⟨a,b,rfl⟩:=h;refine⟨?_,rfl⟩;rcases b with b|⟨b,g⟩
  ·refine OL _ (Pz ?_);have e:nth .dead s.h l=.res:=by unfold lM at a;split at a;assumption;cases a
   rw[e];exact⟨(CK b).1.symm,λz=>((CK b).2 z).symm⟩
  exact aBu b g
 |up l i e y=>
  obtain⟨x,a,rfl⟩:=h;refine⟨OL _ (Pz ?_),?_⟩;·rw[a];exact⟨rfl,λ_=>by simp only[dU,upd,qAU]⟩
  simp only[ZN,a,ET.eq_self]
theorem aGX{s s'}{w}(h:W1 s w s'):gT s'=(gT s).wr1 (Hg s.h w):=by
 obtain⟨f,k⟩:=Ji h;have b:∀l o,s'.t=s.t->s'.h=s.h.set l o->gT s'=(gT s).setObj l (fJ (s.h.set l o) o):=λl o a d=>by unfold gT ASt.setObj;rw[a,d];rw[d]at f;rw[aAD f,apz (λv g=>(f.1 v g).symm)]
 cases w with
 |sl n v=>obtain⟨_,d⟩:=h;subst d;unfold gT;simp only[sS,qCU];rfl
 |ob l o=>obtain⟨_,_,rfl⟩:=h;exact b l o rfl rfl|st l j p=>obtain⟨q,c,a,d,rfl⟩:=h;rw[b l (.box c) rfl rfl];have e:aX (s.h.set l (.box c)) c=aX s.h c:=(Bj c λm _=>Pz (by rw[a];exact⟨rfl,λ_=>rfl⟩) m).symm;simp only[Hg,a,fJ,ASt.wr1,e,(atB s.h d).1]
 |kill l=>rcases h with⟨e,x,a,rfl⟩|⟨e,x,a,rfl⟩|⟨_,rfl⟩<;>exact b l _ rfl rfl
 |nw l o=>obtain⟨_,_,rfl⟩:=h;exact b l o rfl rfl|up l i e y=>obtain⟨x,a,rfl⟩:=h;rw[b l _ rfl rfl];simp only[Hg,a,ET.eq_self,fJ,ASt.wr1]
theorem aB8{s s'}{ws}(h:Ws s ws s'):gT s'=(gT s).wr (BF s.h ws):=by
 induction h with|nil s=>rfl|cons h _ i=>rw[i,aGX h];simp only[(Ji h).2];rfl
end
end
end
section
open Go
noncomputable section
def Kz:(e:ET)->e.D->List TV
 | .i,x=>[.lf (.n .i64) x]| .u,x=>[.lf (.n .u8) x]| .s,x=>[.lf .s x]| .b,x=>[.lf .b x]
 | .car,x=>[.lf .s x.name,.lf (.l .s) x.elems]| .dec,x=>[.lf .s x.name,.lf (.n .i64) x.ty.kind,.lf .s x.ty.name,.lf (.l .ty) x.ty.kids]| .ty,x=>[.lf (.n .i64) x.kind,.lf .s x.name,.lf (.l .ty) x.kids]| .tm,x=>[.lf (.n .i64) x.op,.lf .s x.name,.lf (.n .i64) x.n,.lf (.n .i64) x.ty.kind,.lf .s x.ty.name,.lf (.l .ty) x.ty.kids,.lf (.l .tm) x.kids]| .env,x=>[.lf (.l .car) x.carriers,.lf (.l .dec) x.names]| .val,x=>[.lf (.n .i64) x.kind,.lf (.n .i64) x.n,.lf .s x.name,.lf (.l .val) x.kids]| .bnd,x=>[.lf .s x.name,.lf (.n .i64) x.v.kind,.lf (.n .i64) x.v.n,.lf .s x.v.name,.lf (.l .val) x.v.kids]| .vals,x=>[.lf (.l .val) x]| .tms,x=>[.lf (.l .tm) x]
def Rf:TV->List TV| .lf (.t e) x=>Kz e x|v=>[v]
def aG:List TV->List TV|[]=>[]|v::s=>Rf v++aG s
theorem yA:∀a b:List TV,aG (a++b)=aG a++aG b|[],_=>rfl|v::a,b=>by simp only[qAO,aG,yA a b,qAm]
theorem akW:∀e x,(Kz e x).length=e.sz| .i,_=>rfl| .u,_=>rfl| .s,_=>rfl| .b,_=>rfl| .car,_=>rfl| .dec,_=>rfl| .ty,_=>rfl| .tm,_=>rfl| .env,_=>rfl| .val,_=>rfl| .bnd,_=>rfl| .vals,_=>rfl| .tms,_=>rfl
theorem FB v:(Rf v).length=width v:=by
 rcases qY v with h|⟨e,x,rfl⟩
 ·cases v with
  |lf t x=>cases t<;>first|rfl|exact akW _ _
  |_=>rfl
 exact akW e x
theorem nS:∀vs,(aG vs).length=widths vs|[]=>rfl|v::vs=>by simp only[aG,qAf,FB,nS vs,widths]
theorem vv{v}(h:one v):Rf v=[v]:=by
 cases v with
 |lf t x=>cases t<;>first|rfl|(rename_i e;have:=h (.tup []);simp only[zM]at this;cases e<;>first|(simp only[ET.enc]at this;cases this;done)|(simp[ET.enc,kD,tO,fO]at this;done))
 |_=>rfl
theorem aAh H:∀e x,(Kz e x).map (av H)=e.enc x
 | .i,_=>rfl| .u,_=>rfl| .s,_=>rfl| .b,_=>rfl| .car,_=>rfl
 | .dec,x=>by have:=kD x.ty;simp only[ET.enc];rfl| .ty,x=>by simp only[ET.enc,kD];rfl| .tm,x=>by have:=kD x.ty;simp only[ET.enc,tO];rfl| .env,_=>rfl| .val,x=>by simp only[ET.enc,fO];rfl| .bnd,x=>by have:=fO x.v;simp only[ET.enc,this];rfl| .vals,_=>rfl| .tms,_=>rfl
theorem afd H:∀vs,(aG vs).map (av H)=aX H vs
 |[]=>rfl|v::vs=>by
  simp only[aG,qAX,afd H vs];congr 1;cases v with
  |lf t x=>cases t<;>first|rfl|exact aAh H _ _
  |_=>rfl
theorem asl e x:aG (comps e x)=Kz e x:=by cases e<;>rfl
section
variable {γ:Type}{b:γ}
theorem BO:∀f cs n K,splitK f cs n K=some b->∃a r,aG cs=aG a++aG r/\(aG a).length=n/\K a r=some b:=by
 intro f
 induction f with|zero=>intro cs n K h;cases h|succ f j=>
  intro cs n K h;unfold splitK at h;cases n with|zero=>exact⟨[],cs,rfl,rfl,h⟩|succ m=>
   cases cs with|nil=>cases h|cons c r=>
    rcases aZ h with⟨w,h⟩|⟨_,h⟩
    ·obtain⟨a,d,g,k,i⟩:=j _ _ _ h;have w:=qAe w;refine⟨c::a,d,?_,?_,i⟩
     ·simp only[aG,g,qAm]
     simp only[aG,qAf,FB];omega
    split at h;·rename_i e x;obtain⟨a,d,g,k,i⟩:=j _ _ _ h;refine⟨a,d,?_,k,i⟩;rw[<-g,yA,asl];rfl
    cases h
theorem Jo{cs cs' vs off}(h:uD cs off vs some=some cs'):aG cs'=(aG cs).take off++aG vs++(aG cs).drop (off+(aG vs).length)/\off+(aG vs).length<=(aG cs).length:=by
 unfold uD at h;obtain⟨a,r,b,e,f⟩:=BO _ _ _ _ h;obtain⟨c,g,d,i,j⟩:=BO _ _ _ _ f;cases j;rw[<-nS vs]at i;have k:(aG cs).take off=aG a:=by rw[b,<-e,qDG]
 have l:(aG cs).drop (off+(aG vs).length)=aG g:=by rw[b,d,<-qAm,qDB (by simp only[qAf];omega)]
 refine⟨by rw[yA,yA,k,l,qAm],?_⟩;rw[b,d];simp only[qAf];omega
end
mutual
def dZ(g:Nat→Nat):Sk→List U→TV×List U
 | .unk,us=>(.unk,us)
 | .nilp,us=>(.nilp,us)
 | .nilF,us=>(.nilF,us)
 | .k c,us=>(.lf c.t c.x,us)
 | .nils,us=>(.nils,us)
 | .lf _,us=>match us with
  |u::us=>(.lf u.t u.x,us)
  |[]=>(.unk,[])
 | .ptr l o,us=>(.ptr (g l) o,us)
 | .eptr cs,us=>(.eptr (fT g cs us).1,(fT g cs us).2)
 | .agg cs,us=>(.agg (fT g cs us).1,(fT g cs us).2)
 | .tup cs,us=>(.tup (fT g cs us).1,(fT g cs us).2)
 | .func f cs,us=>(.func f (fT g cs us).1,(fT g cs us).2)
 | .mapr l,us=>(.mapr (g l),us)
 | .own l,us=>(.own (g l),us)
 | .psl l z,us=>(.psl (g l) z none,us)
def fT(g:Nat→Nat):List Sk→List U→List TV×List U
 |[],us=>([],us)
 |s::ss,us=>((dZ g s us).1::(fT g ss (dZ g s us).2).1,(fT g ss (dZ g s us).2).2)
end
section
variable {β:Type}(g:Nat→Nat)
mutual
theorem fill_eq:∀(s:Sk) (us:List U) (K:TV→List U→β),fill g s us K=K (dZ g s us).1 (dZ g s us).2
 | .unk,_,_=>rfl
 | .nilp,_,_=>rfl
 | .nilF,_,_=>rfl
 | .k _,_,_=>rfl
 | .nils,_,_=>rfl
 | .lf _,us,_=>by cases us<;>rfl
 | .ptr _ _,_,_=>rfl
 | .eptr cs,us,K=>by simp only[fill,dZ,JE cs us]
 | .agg cs,us,K=>by simp only[fill,dZ,JE cs us]
 | .tup cs,us,K=>by simp only[fill,dZ,JE cs us]
 | .func _ cs,us,K=>by simp only[fill,dZ,JE cs us]
 | .mapr _,_,_=>rfl
 | .own _,_,_=>rfl
 | .psl _ _,_,_=>rfl
theorem JE:∀(ss:List Sk) (us:List U) (K:List TV→List U→β),fills g ss us K=K (fT g ss us).1 (fT g ss us).2
 |[],_,_=>rfl
 |s::ss,us,K=>by simp only[fills,fT,fill_eq s us,JE ss]
end
end
def jv(g:Nat->Nat):List (Nat×Sk)->Option (List TV)->List U->Option (List TV)×List U|[],c,u=>(c,u)|p::s,c,u=>jv g s (c.bind λcs=>uD cs p.1 [(dZ g p.2 u).1] some) (dZ g p.2 u).2
theorem Xc{β} g:∀ps c u (K:Option (List TV)->List U->β),VU g ps c u K=K (jv g ps c u).1 (jv g ps c u).2
 |[],_,_,_=>rfl|p::ps,c,u,K=>by
  simp only[VU,jv,fill_eq];cases c with|none=>exact Xc g ps none _ K|some s=>
   simp only[qAa];split;·rename_i e;rw[e];exact Xc g ps _ _ K
   rename_i e;rw[e];exact Xc g ps _ _ K
def bH(g:Nat->Nat)(o:TObj):HO->List U->TObj×List U
 | .dead,u=>(.dead,u)| .box c,u=>(.box (fT g c u).1,(fT g c u).2)| .bx l,u=>match o with
  | .box c=>(match(jv g l (some c) u).1 with|some c=>.box c|none=>.dead,(jv g l (some c) u).2)
  |_=>(.dead,(jv g l none u).2)
 | .own _,u=>match u with
  |⟨.l e,x⟩::u=>(.own e x,u)|u=>(.dead,u)
 | .mp _,u=>match u with|⟨.m e,x⟩::u=>(.mp e x,u)|u=>(.dead,u)
 | .arr _,u=>match u with|⟨.l e,x⟩::u=>(.arr e x,u)|u=>(.dead,u)
theorem arJ{β} g o h us (K:TObj->List U->β):RN g o h us K=K (bH g o h us).1 (bH g o h us).2:=by
 cases h with
 |dead=>rfl|box c=>simp only[RN,bH,JE]|bx l=>
  cases o<;>simp only[RN,bH,Xc]
  grind
 |own e=>simp only[RN,bH];split<;>first|rfl|(rename_i h;split<;>first|rfl|(rename_i a;exact(h _ _ _ rfl).elim))
 |mp e=>simp only[RN,bH];split<;>first|rfl|(rename_i h;split<;>first|rfl|(rename_i a;exact(h _ _ _ rfl).elim))
 |arr e=>simp only[RN,bH];split<;>first|rfl|(rename_i h;split<;>first|rfl|(rename_i a;exact(h _ _ _ rfl).elim))
def dJ(g:Nat->Nat):List Ed->List U->List TV->List TObj->List TV×List TObj|[],_,t,h=>(t,h)| .r n s::e,u,t,h=>dJ g e (dZ g s u).2 (t.set n (dZ g s u).1) h| .o l s::e,u,t,h=>dJ g e (bH g (nth .dead h l) s u).2 t (h.set l (bH g (nth .dead h l) s u).1)| .w s::e,u,t,h=>dJ g e (bH g .dead s u).2 t (h++[(bH g .dead s u).1])
theorem arj{α β}:∀l v (K:List α->β),aBU l v K=K (l++[v])|[],_,_=>rfl|x::s,v,K=>(arj s v λys=>K (x::ys)).trans rfl
theorem PK{β} g:∀es u t h (K:List TV->List TObj->β),PW g es u t h K=K (dJ g es u t h).1 (dJ g es u t h).2|[],_,_,_,_=>rfl| .r n s::es,u,t,h,K=>by simp only[PW,dJ,fill_eq,lC,PK g es]| .o l s::es,u,t,h,K=>by simp only[PW,dJ,arJ,lC,PK g es]| .w s::es,u,t,h,K=>by simp only[PW,dJ,arJ,arj,PK g es]
inductive Rs(R:AV→AV→Prop):List AV→List AV→Prop where
 |nil:Rs R [] []
 |cons {x y:AV} {xs ys:List AV}:R x y→Rs R xs ys→Rs R (x::xs) (y::ys)
theorem Rs.app{R}{a b c d}(h:Rs R a c)(k:Rs R b d):Rs R (a++b) (c++d):=by
 induction h with|nil=>exact k|cons h _ i=>exact .cons h i
theorem Rs.len{R}{a c}(h:Rs R a c):a.length=c.length:=by
 induction h with|nil=>rfl|cons _ _ i=>simp[i]
theorem Rs.get{R}{a c}(h:Rs R a c):∀j,j<a.length->R (a.getD j .unk) (c.getD j .unk):=by
 induction h with|nil=>intro j b;cases b|cons d _ i=>intro j b;cases j with|zero=>exact d|succ j=>exact i j (by simpa using b)
structure Wk(H Hf:List TObj)(L:Nat→Option Nat)(R:Nat→AV→AV→Prop):Prop where
 unk0:R 0 .unk .unk
 unk:∀m a,R (m+1) .unk a
 fix:∀m a a',(∀g,ren g a=a)→Cv (Nat.ble 1 m) a a'→R m a a'
 ptr:∀m j l o,L j=some l→R m (.ptr j o) (.ptr l o)
 mapr:∀m j l,L j=some l→R m (.mapr j) (.mapr l)
 own:∀m j l,L j=some l→R m (av Hf (.own j)) (av H (.own l))
 ownN:∀m j,L j=none→R (m+2) (av Hf (.own j)) (.slice [] .nils)
 psl:∀m j l z,L j=some l→R m (av Hf (.psl j z none)) (av H (.psl l z none))
 pslN:∀m j z,L j=none→R (m+2) (av Hf (.psl j z none)) (.slice [] .nils)
 eptr:∀m cs cs',Rs (R 0) cs cs'→R m (.eptr cs) (.eptr cs')
 agg:∀m cs cs',Rs (R m) cs cs'→R m (.agg cs) (.agg cs')
 tup2:∀m cs cs',Rs (R (m+2)) cs cs'→R (m+2) (.tup cs) (.tup cs')
 tup0:∀m cs cs',Rs (R 0) cs cs'→R m (.tup cs) (.tup cs')
 func2:∀m f cs cs',Rs (R (m+2)) cs cs'→R (m+2) (.func f cs) (.func f cs')
 func0:∀m f cs cs',Rs (R 0) cs cs'→R m (.func f cs) (.func f cs')
theorem apo{g}:∀{l:List AV},dL g l=l->∀a∈l,ren g a=a
 |[],_,a,h=>by cases h|x::l,h,a,b=>by
  simp only[dL,List.cons.injEq]at h;rcases qAh.1 b with rfl|b
  ·exact h.1
  exact apo h.2 a b
theorem abU(e:ET) x:∀a∈e.enc x,∀g,ren g a=a:=λa h g=>apo (ZA e g x) a h
theorem alF u:∀a∈EG u,∀g,ren g a=a:=by
 intro a b g;rcases qY (.lf u.t u.x)with h|⟨e,x,h⟩
 ·unfold EG at b;rw[h]at b;rw[qBa]at b;subst b;exact Jt g _ _
 obtain⟨t,y⟩:=u;obtain⟨rfl,h⟩:=h;exact abU e y a b g
theorem Cvs.rs{H b}{L}{R}(w:Wk H b L R){m:Nat}{xs ys}(h:Cvs (Nat.ble 1 m) xs ys):(∀a∈xs,∀g,ren g a=a)->Rs (R m) xs ys:=by
 generalize c:Nat.ble 1 m=q at h
 induction h with|nil=>exact λ_=>.nil|cons h _ i=>subst c;exact λf=>.cons (w.fix _ _ _ (f _ (by simp)) h) (i λa d=>f a (by simp[d]))
end
end
section
open Go
section
variable {γ:Type}{b:γ}{H:List TObj}{L:Nat→Option Nat}
theorem aCk{w t v K}(d:∀e,t≠ .t e)(h:(ug H w t v λu=>jU t u K)=some b):∃x,K x=some b/\one v/\Cv w (jw t x) (av H v):=by
 rcases qY v with a|⟨e,x,rfl⟩
 ·obtain⟨u,c,f,_⟩:=aeG a h;obtain⟨x,rfl,g⟩:=jN c
  grind
 simp only[ug]at h;obtain⟨y,i,_⟩:=jN h
 grind
theorem ayM{a xs}(h:dS a=some xs)(l:xs.length≠1):a=.agg xs:=by cases a<;>simp only[dS]at h<;>cases h<;>first|rfl|exact(l rfl).elim
theorem agO{a}{l}(h:oeq a l=true):a=some l:=by
 cases a with|none=>cases h|some x=>exact congrArg some (qAj h)
theorem sz2:∀{e:ET},e.sc=false->e.sz≠1| .i,h=>by cases h| .u,h=>by cases h| .s,h=>by cases h| .b,h=>by cases h| .car,_=>by decide| .dec,_=>by decide| .ty,_=>by decide| .tm,_=>by decide| .env,_=>by decide| .val,_=>by decide| .bnd,_=>by decide| .vals,h=>by cases h| .tms,h=>by cases h
theorem CU.aH1:∀(c:CU) e,c.t≠ .t e:=by intro c e h;cases c<;>cases h
mutual
theorem aE4:∀{a c:Ty},aAR a c=true→a=c
 | .mk k s l,.mk k' s' l',h=>by
  simp only[aAR,qAb]at h;rw[of_decide_eq_true h.1,eq_of_beq h.2.1,aiS h.2.2]
theorem aiS:∀{a c:List Ty},ad4 a c=true→a=c
 |[],[],_=>rfl
 |x::xs,y::ys,h=>by
  simp only[ad4,qAb]at h;rw[aE4 h.1,aiS h.2]
 |[],_::_,h=>by simp[ad4]at h
 |_::_,[],h=>by simp[ad4]at h
end
theorem CU.aBZ:∀{c:CU} {x:c.t.D},c.is x=true->x=c.x:=by
 intro c x h;cases c with|n k y=>exact of_decide_eq_true (p:=(show Int from x)=y) h|b y=>exact(eq_of_beq (α:=Bool) h).symm|s y=>exact eq_of_beq (α:=Str) h|l e=>exact qCr.1 h|ly z=>exact(aiS h).symm
theorem CU.one(c:CU):one (.lf c.t c.x):=by cases c<;>exact λ_=>rfl
theorem CU.width c:width (.lf c.t c.x)=wE (.k c):=by cases c<;>rfl
def aEO(H)L(m)s(v)(K:List U->Option γ)b:=
 ∃u w,K u=some b/\(∀r,dZ bI s (u++r)=(w,r))/\((∀t,s≠ .lf t)->one w)/\width w=wE s/\∀h R,Wk H h L R->R m (av h w) (av H v)
def aIc(H)L(m)ss(vs)(K:List U->Option γ)b:=
 ∃u w,K u=some b/\(∀r,fT bI ss (u++r)=(w,r))/\∀h R,Wk H h L R->Rs (R m) (aT h w) (aT H vs)
def aAg(H)L(m)ss(vs)(K:List U->Option γ)b:=
 ∃u w,K u=some b/\(∀r,fT bI ss (u++r)=(w,r))/\∀h R,Wk H h L R->Rs (R m) (aX h w) (aX H vs)
theorem WE{w}(h:∀e x,w≠ .lf (.t e) x):one w:=(qY w).elim id λ⟨e,x,q⟩=>(h e x q).elim
set_option linter.unusedVariables false in
mutual
theorem arQ:∀(s:Sk) (m:Nat) (v:TV) (K:List U→Option γ),ext m H L s v K=some b→aEO H L m s v K b
 | .unk,m,v,K,h=>by
  simp only[ext]at h;cases m with
  |zero=>
   cases v with
   |unk=>exact⟨[],.unk,h,fun rest=>rfl,fun _=>fun _=>rfl,rfl,fun Hf R hW=>hW.unk0⟩
   |_=>cases h
  |succ m=>exact⟨[],.unk,h,fun rest=>rfl,fun _=>fun _=>rfl,rfl,fun Hf R hW=>hW.unk m _⟩
 | .nilp,m,v,K,h=>by
  simp only[ext]at h;cases v with
  |nilp=>exact⟨[],.nilp,h,fun rest=>rfl,fun _=>fun _=>rfl,rfl,fun Hf R hW=>hW.fix m _ _ (fun _=>rfl) (.same _ _)⟩
  |_=>cases h
 | .nilF,m,v,K,h=>by
  simp only[ext]at h;cases v with
  |nilF=>exact⟨[],.nilF,h,fun rest=>rfl,fun _=>fun _=>rfl,rfl,fun Hf R hW=>hW.fix m _ _ (fun _=>rfl) (.same _ _)⟩
  |_=>cases h
 | .nils,m,v,K,h=>by
  simp only[ext]at h;cases v with
  |nils=>exact⟨[],.nils,h,fun rest=>rfl,fun _=>fun _=>rfl,rfl,fun Hf R hW=>hW.fix m _ _ (fun _=>rfl) (.same _ _)⟩
  |_=>cases h
 | .k c,m,v,K,h=>by
  simp only[ext]at h;obtain⟨x,h1,h2,h3⟩:=aCk (CU.aH1 c) h;obtain⟨hc,h4⟩:=(aZ h1).resolve_right fun h=>by cases h.2
  have e:=CU.aBZ hc;subst e;exact⟨[],.lf c.t c.x,h4,fun rest=>rfl,fun _=>CU.one c,CU.width c,fun Hf R hW=>hW.fix m _ _ (Jt · c.t c.x) h3⟩
 | .lf t,m,v,K,h=>by
  have leaf:(∀e,t≠ .t e)→(ug H (Nat.ble 1 m) t v fun u=>jU t u fun x=>K [⟨t,x⟩])=some b→aEO H L m (.lf t) v K b:=fun ht h=>by
   obtain⟨x,h1,h2,h3⟩:=aCk ht h;exact⟨[⟨t,x⟩],.lf t x,h1,fun rest=>rfl,fun hn=>(hn t rfl).elim,by cases t<;>first|rfl|exact(ht _ rfl).elim,fun Hf R hW=>hW.fix m _ _ (Jt · t x) h3⟩
  simp only[ext]at h;cases t with
  |t e=>
   simp only at h;rcases aZ h with⟨_,h⟩|⟨hsc,h⟩
   ·cases h
   ·split at h
    ·rename_i cs hc;obtain⟨u,r,xs,h1,h2,h3⟩:=Ud _ _ _ _ h;split at h1
     ·obtain⟨x,rfl,h4⟩:=jN h1;refine⟨[⟨.t e,x⟩],.lf (.t e) x,h4,fun rest=>rfl,fun hn=>(hn _ rfl).elim,rfl,fun Hf R hW=>?_⟩;have hxs:dS (av H v)=some xs:=by rw[Gd hc,h2];simp only[aX,qAt]
      have hl:xs.length=e.sz:=by rw[←h3.len];exact JA e x
      rw[ayM hxs (by rw[hl];exact sz2 hsc)];exact hW.agg m _ _ (h3.rs hW (abU e x))
     ·cases h1
    ·cases h
  |_=>exact leaf (fun e h=>by cases h) h
 | .ptr j o,m,v,K,h=>by
  simp only[ext]at h;cases v with
  |ptr l o'=>
   simp only at h;rcases aZ h with⟨hc,g⟩|⟨_,g⟩
   ·simp only[qAb]at hc;have e1:=qAj hc.1;subst e1;exact⟨[],.ptr j o,g,fun rest=>rfl,fun _=>fun _=>rfl,rfl,fun Hf R hW=>hW.ptr m _ _ _ (agO hc.2)⟩
   ·cases g
  |_=>cases h
 | .mapr j,m,v,K,h=>by
  simp only[ext]at h;cases v with
  |mapr l=>
   simp only at h;rcases aZ h with⟨hc,g⟩|⟨_,g⟩
   ·exact⟨[],.mapr j,g,fun rest=>rfl,fun _=>fun _=>rfl,rfl,fun Hf R hW=>hW.mapr m _ _ (agO hc)⟩
   ·cases g
  |_=>cases h
 | .own j,m,v,K,h=>by
  simp only[ext]at h;cases v with
  |own l=>
   simp only at h;rcases aZ h with⟨hc,g⟩|⟨_,g⟩
   ·exact⟨[],.own j,g,fun rest=>rfl,fun _=>fun _=>rfl,rfl,fun Hf R hW=>hW.own m _ _ (agO hc)⟩
   ·cases g
  |nils=>
   simp only at h;rcases aZ h with⟨hc,g⟩|⟨_,g⟩
   ·simp only[qAb]at hc;obtain⟨m,rfl⟩:∃k,m=k+2:=⟨m - 2,by have:=qAe hc.1;omega⟩;exact⟨[],.own j,g,fun rest=>rfl,fun _=>fun _=>rfl,rfl,fun Hf R hW=>hW.ownN m j (by cases hl:L j with|none=>rfl|some x=>rw[hl]at hc;cases hc.2)⟩
   ·cases g
  |_=>cases h
 | .psl j z,m,v,K,h=>by
  simp only[ext]at h;split at h
  ·rename_i l z';rcases aZ h with⟨hc,g⟩|⟨_,g⟩
   ·simp only[qAb]at hc;have e1:=qAj hc.2;subst e1;exact⟨[],.psl j z none,g,fun rest=>rfl,fun _=>fun _=>rfl,rfl,fun Hf R hW=>hW.psl m _ _ _ (agO hc.1)⟩
   ·cases g
  ·rcases aZ h with⟨hc,g⟩|⟨_,g⟩
   ·simp only[qAb]at hc;obtain⟨m,rfl⟩:∃k,m=k+2:=⟨m - 2,by have:=qAe hc.1;omega⟩;exact⟨[],.psl j z none,g,fun rest=>rfl,fun _=>fun _=>rfl,rfl,fun Hf R hW=>hW.pslN m j z (by cases hl:L j with|none=>rfl|some x=>rw[hl]at hc;cases hc.2)⟩
   ·cases g
  ·cases h
 | .eptr cs,m,v,K,h=>by
  simp only[ext]at h;cases v with
  |eptr vs=>
   obtain⟨us,ws,h1,h2,h3⟩:=FV cs 0 vs K h;exact⟨us,.eptr ws,h1,fun rest=>by simp only[dZ,h2],fun _=>fun _=>rfl,rfl,fun Hf R hW=>by simp only[av];exact hW.eptr m _ _ (h3 Hf R hW)⟩
  |_=>cases h
 | .agg cs,m,v,K,h=>by
  simp only[ext]at h;split at h
  ·rename_i vs;obtain⟨us,ws,h1,h2,h3⟩:=FV cs m vs K h;exact⟨us,.agg ws,h1,fun rest=>by simp only[dZ,h2],fun _=>fun _=>rfl,rfl,fun Hf R hW=>by simp only[av];exact hW.agg m _ _ (h3 Hf R hW)⟩
  ·rename_i e x;obtain⟨us,ws,h1,h2,h3⟩:=FV cs m [.lf (.t e) x] K h;refine⟨us,.agg ws,h1,fun rest=>by simp only[dZ,h2],fun _=>fun _=>rfl,rfl,fun Hf R hW=>?_⟩;have:=hW.agg m _ _ (h3 Hf R hW);simp only[aX,zM,qAt]at this;exact this
  ·cases h
 | .tup cs,m,v,K,h=>by
  simp only[ext]at h;cases v with
  |tup vs=>
   obtain⟨us,ws,h1,h2,h3⟩:=ai6 cs _ vs K h;refine⟨us,.tup ws,h1,fun rest=>by simp only[dZ,h2],fun _=>fun _=>rfl,rfl,fun Hf R hW=>?_⟩;simp only[av];cases hm:Nat.ble 2 m with
   |false=>rw[hm]at h3;exact hW.tup0 m _ _ (h3 Hf R hW)
   |true=>
    rw[hm]at h3;obtain⟨m,rfl⟩:∃k,m=k+2:=⟨m - 2,by have:=qAe hm;omega⟩;exact hW.tup2 m _ _ (h3 Hf R hW)
  |_=>cases h
 | .func f cs,m,v,K,h=>by
  simp only[ext]at h;cases v with
  |func f' vs=>
   simp only at h;rcases aZ h with⟨hc,g⟩|⟨_,g⟩
   ·have e1:=qAj hc;subst e1;obtain⟨us,ws,h1,h2,h3⟩:=ai6 cs _ vs K g;refine⟨us,.func f ws,h1,fun rest=>by simp only[dZ,h2],fun _=>fun _=>rfl,rfl,fun Hf R hW=>?_⟩;simp only[av];cases hm:Nat.ble 2 m with
    |false=>rw[hm]at h3;exact hW.func0 m f _ _ (h3 Hf R hW)
    |true=>
     rw[hm]at h3;obtain⟨m,rfl⟩:∃k,m=k+2:=⟨m - 2,by have:=qAe hm;omega⟩;exact hW.func2 m f _ _ (h3 Hf R hW)
   ·cases g
  |_=>cases h
theorem ai6:∀(ss:List Sk) (m:Nat) (vs:List TV) (K:List U→Option γ),ajO m H L ss vs K=some b→aIc H L m ss vs K b
 |[],m,vs,K,h=>by
  simp only[ajO]at h;cases vs with
  |nil=>exact⟨[],[],h,fun rest=>rfl,fun Hf R hW=>.nil⟩
  |cons _ _=>cases h
 |s::ss,m,vs,K,h=>by
  simp only[ajO]at h;cases vs with
  |nil=>cases h
  |cons v r=>
   obtain⟨us,w,h1,h2,_,_,h3⟩:=arQ s m v _ h;obtain⟨us',ws,h4,h5,h6⟩:=ai6 ss m r _ h1;refine⟨us++us',w::ws,h4,fun rest=>?_,fun Hf R hW=>?_⟩
   ·simp only[fT,qAm,h2,h5]
   ·simp only[aT];exact .cons (h3 Hf R hW) (h6 Hf R hW)
theorem FV:∀(ss:List Sk) (m:Nat) (vs:List TV) (K:List U→Option γ),pW m H L ss vs K=some b→aAg H L m ss vs K b
 |[],m,vs,K,h=>by
  simp only[pW]at h;cases vs with
  |nil=>exact⟨[],[],h,fun rest=>rfl,fun Hf R hW=>.nil⟩
  |cons _ _=>cases h
 |s::ss,m,vs,K,h=>by
  have val:(∀t,s≠ .lf t)→∀v r,vs=v::r→one v→(ext m H L s v fun us=>pW m H L ss r fun us'=>K (us++us'))=some b→aAg H L m (s::ss) vs K b:=fun hs v r hv h1 h=>by
   obtain⟨us,w,g1,g2,g3,_,g4⟩:=arQ s m v _ h;obtain⟨us',ws,g5,g6,g7⟩:=FV ss m r _ g1;subst hv;refine⟨us++us',w::ws,g5,fun rest=>?_,fun Hf R hW=>?_⟩
   ·simp only[fT,qAm,g2,g6]
   ·simp only[aX,g3 hs (av Hf w),h1 (av H v),qAO,qAs];exact .cons (g4 Hf R hW) (g7 Hf R hW)
  have key:(∀t,s≠ .lf t)→(hd1 vs fun v r=>ext m H L s v fun us=>pW m H L ss r fun us'=>K (us++us'))=some b→aAg H L m (s::ss) vs K b:=fun hs h=>by
   cases vs with
   |nil=>cases h
   |cons v r=>
    simp only[hd1]at h;rcases aZ h with⟨_,g⟩|⟨h1,g⟩
    ·cases g
    ·exact val hs v r rfl (WE fun e x q=>by rw[q]at h1;cases h1) g
  cases s with
  |lf t=>
   simp only[pW]at h;obtain⟨u,r,xs,h1,h2,h3⟩:=Ud _ _ _ _ h;obtain⟨x,rfl,h4⟩:=jN h1;obtain⟨us',ws,g5,g6,g7⟩:=FV ss m r _ h4;refine⟨⟨t,x⟩::us',.lf t x::ws,g5,fun rest=>?_,fun Hf R hW=>?_⟩
   ·simp only[fT,qAO,dZ,g6]
   ·rw[h2];simp only[aX];exact(h3.rs hW (alF ⟨t,x⟩)).app (g7 Hf R hW)
  |k c=>
   simp only[pW]at h;obtain⟨u,r,xs,h1,h2,h3⟩:=Ud _ _ _ _ h;obtain⟨x,rfl,h4⟩:=jN h1;obtain⟨hc,h5⟩:=(aZ h4).resolve_right fun h=>by cases h.2
   have e:=CU.aBZ hc;subst e;obtain⟨us',ws,g5,g6,g7⟩:=FV ss m r _ h5;refine⟨us',.lf c.t c.x::ws,g5,fun rest=>?_,fun Hf R hW=>?_⟩
   ·simp only[fT,dZ,g6]
   ·rw[h2];simp only[aX];exact(h3.rs hW (alF ⟨c.t,c.x⟩)).app (g7 Hf R hW)
  |unk=>exact key (fun t e=>by cases e) (by simpa only[pW]using h)
  |nilp=>exact key (fun t e=>by cases e) (by simpa only[pW]using h)
  |nilF=>exact key (fun t e=>by cases e) (by simpa only[pW]using h)
  |nils=>exact key (fun t e=>by cases e) (by simpa only[pW]using h)
  |ptr _ _=>exact key (fun t e=>by cases e) (by simpa only[pW]using h)
  |eptr _=>exact key (fun t e=>by cases e) (by simpa only[pW]using h)
  |agg _=>exact key (fun t e=>by cases e) (by simpa only[pW]using h)
  |tup _=>exact key (fun t e=>by cases e) (by simpa only[pW]using h)
  |func _ _=>exact key (fun t e=>by cases e) (by simpa only[pW]using h)
  |mapr _=>exact key (fun t e=>by cases e) (by simpa only[pW]using h)
  |own _=>exact key (fun t e=>by cases e) (by simpa only[pW]using h)
  |psl _ _=>exact key (fun t e=>by cases e) (by simpa only[pW]using h)
end
end
end
section
open Go
theorem mem_iff{l}{n}:mem l n=true↔n∈l:=by
 induction l with|nil=>exact⟨λh=>(by cases h),λh=>(by cases h)⟩|cons x l i=>
  show(bif Nat.beq x n then true else mem l n)=true↔_;cases a:Nat.beq x n with|true=>simp;exact .inl (qAj a).symm|false=>
   simp only[cond_false,qAh,i];refine⟨.inr,λh=>h.elim (λe=>?_) id⟩
   simp_all
theorem zw{l n}:mem l n=false↔n∉l:=by rw[<-mem_iff];cases mem l n<;>simp
theorem FU{n}:∀{c k:Nat},n∈rng k c↔k<=n/\n<k+c|0,k=>by simp only[rng,qCH,false_iff];omega|c+1,k=>by simp only[rng,qAh,FU];omega
noncomputable def pU(i:List (Nat×Sk))q:=mem (i.flatMap λp=>rng (p.1+1) (wE p.2)) (q+1)
theorem yS{p i q}:pU (p::i) q=true↔p.1<=q/\q<p.1+wE p.2∨pU i q=true:=by
 unfold pU;rw[mem_iff,mem_iff,qBh,qAn,FU]
 grind
section
variable {γ:Type}{b:γ}{H:List TObj}{L:Nat→Option Nat}{m mo:Nat}
theorem aEG H Hf L:Wk H Hf L λ_ _ _=>True:=
 ⟨trivial,λ_ _=>trivial,λ_ _ _ _ _=>trivial,λ_ _ _ _ _=>trivial,λ_ _ _ _=>trivial,λ_ _ _ _=>trivial,λ_ _ _=>trivial,λ_ _ _ _ _=>trivial,λ_ _ _ _=>trivial,λ_ _ _ _=>trivial,λ_ _ _ _=>trivial,λ_ _ _ _=>trivial,λ_ _ _ _=>trivial,λ_ _ _ _ _=>trivial,λ_ _ _ _ _=>trivial⟩
theorem Nk H vs q:(aX H vs).getD q .unk=av H ((aG vs).getD q .unk):=by rw[<-afd];simp;cases(aG vs)[q]?<;>rfl
def ahx H L m cs vs q:=∀h R,Wk H h L R->q<(aG cs).length->R m (av h ((aG cs).getD q .unk)) (av H ((aG vs).getD q .unk))
theorem au7{cs cs' vs q}(h:ahx H L m cs vs q)(e:(aG cs')[q]? =(aG cs)[q]?):ahx H L m cs' vs q:=by
 intro f R w b;have a:q<(aG cs).length:=by grind
 have:=h f R w a
 grind
theorem atU vs:∀ps K,avV m H L vs ps K=some b->∃d,K d=some b/\∀c rest,∃f,jv bI ps c (d++rest)=(f,rest)/\
  ∀cs',f=some cs'->∃cs,c=some cs/\(aG cs').length=(aG cs).length/\∀q,(pU ps q=true->ahx H L m cs' vs q)/\(pU ps q=false->(aG cs')[q]? =(aG cs)[q]?)
 |[],K,h=>⟨[],h,λc rest=>⟨c,rfl,λcs' y=>⟨cs',y,rfl,λq=>⟨λh=>(by cases h),λ_=>rfl⟩⟩⟩⟩|p::ps,K,h=>by
  simp only[avV]at h;obtain⟨a,r,z,A,h⟩:=BO _ _ _ _ h;obtain⟨n,U,B,C,h⟩:=BO _ _ _ _ h;obtain⟨d,w,D,E,o⟩:=FV [p.2] m n _ h;obtain⟨u,F,G⟩:=atU vs ps _ D;refine⟨d++u,F,λc rest=>?_⟩;have t:w=[(dZ bI p.2 (d++(u++rest))).1]/\(dZ bI p.2 (d++(u++rest))).2=u++rest:=by
   have:=E (u++rest);simp only[fT,Prod.mk.injEq]at this
   grind
  simp only[jv,qAm,t.2];rw[<-t.1]at *;obtain⟨f,I,J⟩:=G (c.bind λcs=>uD cs p.1 w some) rest;refine⟨f,I,λcs' g=>?_⟩;obtain⟨e,i,M,j⟩:=J cs' g;cases c with|none=>cases i|some cs=>
   simp only[qAa]at i;obtain⟨k,V⟩:=Jo i;have v:(aG w).length=wE p.2:=by have:=(o H _ (aEG H H L)).len;rw[kM,<-nS,kM,<-nS,C]at this;exact this
   refine⟨cs,rfl,?_,λq=>⟨λhq=>?_,λhq=>?_⟩⟩;·rw[M,k];simp only[qAf,qAB,qCG];omega
   ·cases s:pU ps q with|true=>exact(j q).1 s|false=>
     have N:=(yS.1 hq).resolve_right (by rw[s];simp);refine au7 (cs:=e) ?_ ((j q).2 s);intro O R P Q;have S:(aG e).getD q .unk=(aG w).getD (q - p.1) .unk:=by rw[k];simp only[List.getD];rw[qAm,qAk (by simp only[qAB];omega),qAi (by simp only[qAB];omega)];simp only[qAB];rw[show min p.1 (aG cs).length=p.1 by omega]
     have T:(aG vs).getD q .unk=(aG n).getD (q - p.1) .unk:=by rw[z,B];simp only[List.getD];rw[qAk (by omega),qAi (by omega),A]
     rw[S,T,<-Nk,<-Nk];exact(o O R P).get _ (by rw[kM,<-nS];omega)
   have s:pU ps q=false:=by
    cases s:pU ps q with|false=>rfl|true=>rw[yS.2 (.inr s)]at hq;cases hq
   have x:¬(p.1<=q/\q<p.1+wE p.2):=λhh=>by rw[yS.2 (.inl hh)]at hq;cases hq
   rw[(j q).2 s,k];by_cases l:q<p.1;·rw[qAm,qAi (by simp only[qAB];omega),qBt,if_pos l]
   rw[qAk (by simp only[qAf,qAB];omega),qCh];congr 1;simp only[qAf,qAB];omega
def FO(H:List TObj)(L:Nat->Option Nat)(m:Nat)(d:HO)(b o a:TObj):Prop:=match d with| .dead=>o=.dead| .box _=>∃w v,o=.box w/\a=.box v/\∀h R,Wk H h L R->Rs (R m) (aX h w) (aX H v)| .bx i=>o=.dead∨∃c s v,b=.box c/\o=.box s/\a=.box v/\(aG s).length=(aG c).length/\∀q,(pU i q=true->ahx H L m s v q)/\(pU i q=false->(aG s)[q]? =(aG c)[q]?)| .own _=>∃e x,o=.own e x/\a=.own e x| .mp _=>∃e x,o=.mp e x/\a=.mp e x| .arr _=>∃e x,o=.arr e x/\a=.arr e x
theorem atE{o}{f}{K}(h:ajY m H L o f K=some b):∃u,K u=some b/\∀o0 rest,∃j,bH bI o0 f (u++rest)=(j,rest)/\FO H L m f o0 j o:=by
 cases f with
 |dead=>exact⟨[],h,λo0 rest=>⟨_,rfl,rfl⟩⟩|box k=>
  cases o with
  |box v=>obtain⟨u,w,a,g,q⟩:=FV k m v K h;exact⟨u,a,λo0 rest=>⟨.box w,by simp only[bH,g],w,v,rfl,rfl,q⟩⟩
  |_=>cases h
 |bx r=>
  cases o with
  |box v=>
   obtain⟨u,a,g⟩:=atU v r K h;refine⟨u,a,λo0 rest=>?_⟩;cases o0 with
   |box s=>
    obtain⟨l,i,t⟩:=g (some s) rest;cases l with|none=>exact⟨.dead,by simp only[bH,i],.inl rfl⟩|some c=>obtain⟨k,e,y,z⟩:=t c rfl;cases e;exact⟨.box c,by simp only[bH,i],.inr ⟨s,c,v,rfl,rfl,rfl,y,z⟩⟩
   |_=>obtain⟨l,i,_⟩:=g none rest;exact⟨.dead,by simp only[bH,i],.inl rfl⟩
  |_=>cases h
 |own e=>
  simp only[ajY]at h;cases o with
  |own n p=>obtain⟨x,d,a⟩:=jN h;cases d;exact⟨[⟨.l e,x⟩],a,λo0 rest=>⟨_,rfl,e,x,rfl,rfl⟩⟩
  |_=>cases h
 |mp e=>
  simp only[ajY]at h;cases o with
  |mp n p=>obtain⟨x,d,a⟩:=jN h;cases d;exact⟨[⟨.m e,x⟩],a,λo0 rest=>⟨_,rfl,e,x,rfl,rfl⟩⟩
  |_=>cases h
 |arr e=>
  simp only[ajY]at h;cases o with
  |arr n p=>obtain⟨x,d,a⟩:=jN h;cases d;exact⟨[⟨.l e,x⟩],a,λo0 rest=>⟨_,rfl,e,x,rfl,rfl⟩⟩
  |_=>cases h
theorem aia{n k}:∀{es:List Ed} {b o:List Nat},eT n b o es=true->k∈b->k∉jl es|[],_,_,_,_=>by simp[jl]| .r d s::es,b,o,h,a=>by simp only[eT,qAb,qAS,zw]at h;simp only[jl,qAh,not_or];exact⟨λe=>h.1 (e▸a),aia h.2 (qAl _ a)⟩| .o l c::es,b,o,h,a=>by simp only[eT,qAb]at h;exact aia (es:=es) h.2.2 a| .w c::es,b,o,h,a=>aia (es:=es) (by simpa only[eT]using h) a
theorem GH{n l d}:∀{es:List Ed} {a o:List Nat},eT n a o es=true->l∈o->Ed.o l d∉es|[],_,_,_,_=>by simp| .r c s::es,a,o,h,k=>by simp only[eT,qAb]at h;simp;exact GH h.2 k| .o f b::es,a,o,h,k=>by simp only[eT,qAb,qAS,zw]at h;simp only[qAh,Ed.o.injEq,not_or];exact⟨λe=>h.2.1 (e.1▸k),GH h.2.2 (qAl _ k)⟩| .w b::es,a,o,h,k=>by simp;exact GH (es:=es) (by simpa only[eT]using h) k
theorem nR{n l d}:∀{es:List Ed} {a o:List Nat},eT n a o es=true->Ed.o l d∈es->l<n
 |[],_,_,_,h=>by cases h| .r c s::es,a,o,h,k=>by simp only[eT,qAb]at h;simp at k;exact nR h.2 k
 | .o f b::es,a,o,h,k=>by
  simp only[eT,qAb]at h;rcases qAh.1 k with e|k
  ·simp_all
  exact nR h.2.2 k
 | .w b::es,a,o,h,k=>by simp at k;exact nR (es:=es) (by simpa only[eT]using h) k
theorem pY{α d}{a c:List α}{n}(h:n<a.length):nth d (a++c) n=nth d a n:=by rw[iK,iK];simp only[List.getD,qAi h]
theorem VJ{α d a}{v:α}{n}(h:a.length=n):nth d (a++[v]) n=v:=by rw[iK];subst h;simp[List.getD]
structure LaidD(H:List TObj)(L:Nat→Option Nat)(m mo:Nat)(t':List TV)(j:Nat)(eds:List Ed)(T:List TV)(h:List TObj)(T1:List TV)(h1:List TObj):Prop where
 tl:T1.length=T.length
 hl:h1.length=j+aC eds
 keep:∀k,k∉jl eds→nth .unk T1 k=nth .unk T k
 slot:∀k s,Ed.r k s∈eds→k<T.length→∀Hf R,Wk H Hf L R→R m (av Hf (nth .unk T1 k)) (av H (nth .unk t' k))
 keepO:∀l,l<j→(∀hd,Ed.o l hd∉eds)→nth .dead h1 l=nth .dead h l
 obj:∀l hd,Ed.o l hd∈eds→FO H L mo hd (nth .dead h l) (nth .dead h1 l) (nth .dead H l)
 new:∀i,i<aC eds→(∃l hd,L (j+i)=some l∧(Ed.w hd∈eds∧nth .dead (kinds eds) i=hd)∧FO H L mo hd .dead (nth .dead h1 (j+i)) (nth .dead H l))∨(L (j+i)=none∧2≤m∧∃e,nth .dead h1 (j+i)=.own e []∨nth .dead h1 (j+i)=.arr e [])
theorem Jj{t'}{n}:∀eds j K F os,eT n F os eds=true->n<=j->Ap m mo t' H L j eds K=some b->
  ∃us,K us=some b/\∀T h rest,h.length=j->∃o p,dJ bI eds (us++rest) T h=(o,p)/\LaidD H L m mo t' j eds T h o p
 |[],j,K,F,os,d,G,h=>⟨[],h,λT A rest B=>⟨T,A,rfl,rfl,B,λ_ _=>rfl,λk s a=>(by cases a),λ_ _ _=>rfl,λl hd a=>(by cases a),λi C=>by simp[aC]at C⟩⟩| .r k s::q,j,K,F,os,d,G,h=>by
  simp only[eT,qAb,qAS,zw]at d;simp only[Ap]at h;obtain⟨us,w,p,I,_,_,h3⟩:=arQ s m _ _ h;obtain⟨u,J,M⟩:=Jj q j _ _ _ d.2 G p;refine⟨us++u,J,λT A rest B=>?_⟩;obtain⟨o,f,N,g⟩:=M (T.set k w) A rest B;have hk:k∉jl q:=aia d.2 (by simp);refine⟨o,f,by simp only[dJ,qAm,I];exact N,by rw[g.tl,qAU],g.hl,λk' c=>?_,λk' O a t=>?_,λl t x=>?_,λl hd a=>?_,λi C=>?_⟩;·simp only[jl,qAh,not_or]at c;rw[g.keep k' c.2,aU (qBr c.1)]
  ·rcases qAh.1 a with e|a
   ·cases e;rw[g.keep k hk,bM t];exact h3
   exact g.slot k' O a (by rw[qAU];exact t)
  ·exact g.keepO l t λhd a=>x hd (qAl _ a)
  ·exact g.obj l hd (by simpa using a)
  rcases g.new i C with⟨l,hd,y,v,P⟩|e
  ·exact .inl ⟨l,hd,y,⟨qAl _ v.1,v.2⟩,P⟩
  exact .inr e
 | .o l hd::q,j,K,F,os,d,G,h=>by
  simp only[eT,qAb,qAS,zw]at d;simp only[Ap]at h;obtain⟨us,p,I⟩:=atE h;obtain⟨u,J,M⟩:=Jj q j _ _ _ d.2.2 G p;refine⟨us++u,J,λT A rest B=>?_⟩;obtain⟨r,Q,R⟩:=I (nth .dead A l) (u++rest);obtain⟨o,f,N,g⟩:=M T (A.set l r) rest (by rw[qAU];exact B);have hln:l<n:=qAe d.1;have x:∀hd',Ed.o l hd'∉q:=λhd'=>GH d.2.2 (by simp);refine⟨o,f,by simp only[dJ,qAm,Q];exact N,g.tl,g.hl,λk' c=>g.keep k' c,λk' O a t=>g.slot k' O (by simpa using a) t,λl' t z=>?_,λl' hd' a=>?_,λi C=>?_⟩;·have D:l≠l':=λe=>z hd (by subst e;simp);rw[g.keepO l' t λhd' a=>z hd' (qAl _ a),aU D]
  ·rcases qAh.1 a with e|a
   ·cases e;rw[g.keepO l (by omega) x,bM (by omega)];exact R
   have D:l≠l':=λe=>by subst e;exact x hd' a
   have:=g.obj l' hd' a;rw[aU D]at this;exact this
  rcases g.new i C with⟨l,hd,y,v,P⟩|e
  ·exact .inl ⟨l,hd,y,⟨qAl _ v.1,v.2⟩,P⟩
  exact .inr e
 | .w hd::q,j,K,F,os,d,G,h=>by
  simp only[eT]at d;have E:∀(us:List U) (V:List U->Option γ),(∀u,V u=K (us++u))->Ap m mo t' H L (j+1) q V=some b->(∀rest,∃r,bH bI .dead hd (us++rest)=(r,rest)/\((∃l,L j=some l/\FO H L mo hd .dead r (nth .dead H l))∨(L j=none/\2<=m/\∃e,r=.own e []∨r=.arr e [])))->
    ∃us,K us=some b/\∀T h rest,h.length=j->∃o p,dJ bI (.w hd::q) (us++rest) T h=(o,p)/\LaidD H L m mo t' j (.w hd::q) T h o p:=λus V hK h hq=>by
   obtain⟨u,J,M⟩:=Jj q (j+1) _ _ _ d (by omega) h;refine⟨us++u,by rw[<-hK];exact J,λT A rest B=>?_⟩;obtain⟨r,Q,R⟩:=hq (u++rest);obtain⟨o,f,N,g⟩:=M T (A++[r]) rest (by simp[B]);refine⟨o,f,by simp only[dJ,qAm,Q];exact N,g.tl,by rw[g.hl];simp only[aC];omega,λk' c=>g.keep k' c,λk' O a t=>g.slot k' O (by simpa using a) t,λl' t z=>?_,λl' hd' a=>?_,λi C=>?_⟩;·rw[g.keepO l' (by omega) λhd' a=>z hd' (qAl _ a),pY (by omega)]
   ·have a:Ed.o l' hd'∈q:=by simpa using a
    have t:=nR d a;have:=g.obj l' hd' a;rw[pY (by omega)]at this;exact this
   cases i with
   |zero=>
    have e:nth .dead f (j+0)=r:=by rw[qAP,g.keepO j (by omega) λhd' a=>(by have:=nR d a;omega),VJ B]
    rw[e,qAP];rcases R with⟨l,y,v⟩|y
    ·exact .inl ⟨l,hd,y,⟨by simp,rfl⟩,v⟩
    exact .inr y
   |succ i=>
    have:=g.new i (by simp only[aC]at C;omega);rw[show j+1+i=j+(i+1)from by omega]at this;rcases this with⟨l,hd,y,v,P⟩|e
    ·exact .inl ⟨l,hd,y,⟨qAl _ v.1,v.2⟩,P⟩
    exact .inr e
  simp only[Ap]at h;split at h;·rename_i l S;obtain⟨us,p,I⟩:=atE h;exact E us _ (λ_=>rfl) p λrest=>(by obtain⟨r,Q,R⟩:=I .dead rest;exact⟨r,Q,.inl ⟨l,S,R⟩⟩)
  rename_i S;split at h
  ·rename_i e;rcases aZ h with⟨W,g⟩|⟨_,g⟩
   ·exact E [⟨.l e,[]⟩] _ (λ_=>rfl) g λrest=>⟨.own e [],rfl,.inr ⟨S,qAe W,e,.inl rfl⟩⟩
   cases g
  ·rename_i e;rcases aZ h with⟨W,g⟩|⟨_,g⟩
   ·exact E [⟨.l e,[]⟩] _ (λ_=>rfl) g λrest=>⟨.arr e [],rfl,.inr ⟨S,qAe W,e,.inr rfl⟩⟩
   cases g
  cases h
end
end
section
open Go
def II(o a:TObj)(v:Nat->Bool):=a=o∨∃s c,o=.box s/\a=.box c/\(aG c).length=(aG s).length/\∀q,v q=false->(aG c)[q]? =(aG s)[q]?
theorem ajq{n len}{L}{eds}:∀c j s,arx n len L eds j c s=true->∀i,i<c->∀l,L (j+i)=some l->l<len/\l∉s/\(n<=l∨acn l eds=true)/\∀i',i'<c->L (j+i')=some l->i'=i
 |0,j,s,_,i,r=>by omega|c+1,j,s,h,i,r=>by
  intro l b;simp only[arx]at h;split at h;·rename_i d;have g:=ajq c (j+1) s h;cases i with
   |zero=>rw[qAP,d]at b;cases b|succ i=>
    obtain⟨e,k,m,o⟩:=g i (by omega) l (by rw[show j+1+i=j+(i+1) by omega];exact b);refine⟨e,k,m,λi' f a=>?_⟩;cases i' with
    |zero=>rw[qAP,d]at a;cases a|succ i'=>exact congrArg _ (o i' (by omega) (by rw[show j+1+i'=j+(i'+1) by omega];exact a))
  rename_i q d;simp only[qAb,qBm,qAS,zw]at h;obtain⟨e,k,m,o⟩:=h;have e:q<len:=qAe e;have g:=ajq c (j+1) (q::s) o;cases i with
  |zero=>
   rw[qAP,d]at b;cases b;refine⟨e,k,m.imp qAe id,λi' f a=>?_⟩;cases i' with
   |zero=>rfl|succ i'=>grind
  |succ i=>
   obtain⟨t,p,u,v⟩:=g i (by omega) l (by rw[show j+1+i=j+(i+1) by omega];exact b);simp at p;refine⟨t,p.2,u,λi' f a=>?_⟩;cases i' with|zero=>rw[qAP,d]at a;cases a;exact(p.1 rfl).elim|succ i'=>exact congrArg _ (v i' (by omega) (by rw[show j+1+i'=j+(i'+1) by omega];exact a))
theorem QD{l}:∀{eds:List Ed},acn l eds=true->Ed.o l .dead∈eds
 |[],h=>by cases h| .r _ _::e,h=>qAl _ (QD (eds:=e) h)| .w _::e,h=>qAl _ (QD (eds:=e) h)| .o b d::e,h=>by
  simp only[acn,qBm,qAb]at h;rcases h with⟨a,c⟩|h
  ·have:=qAj a
   grind
  exact qAl _ (QD h)
theorem Pj{k}:∀{eds:List Ed},k∈jl eds->∃s,Ed.r k s∈eds
 |[],h=>by cases h| .r b s::e,h=>by
  simp only[jl,qAh]at h;rcases h with rfl|h
  ·grind
  obtain⟨s,a⟩:=Pj h;exact⟨s,qAl _ a⟩
 | .w _::e,h=>(by obtain⟨s,a⟩:=Pj (eds:=e) h;exact⟨s,qAl _ a⟩)| .o _ _::e,h=>(by obtain⟨s,a⟩:=Pj (eds:=e) h;exact⟨s,qAl _ a⟩)
theorem Cb H t k:(aT H t).getD k .unk=av H (nth .unk t k):=bN H t (.tmp k)
theorem Cz H t:(aT H t).length=t.length:=by rw[sS,qAg]
theorem kQ{α d}{l:List α}{n}(h:l.length<=n):nth d l n=d:=by rw[iK,List.getD,qAE h];rfl
section
variable {h' hJ:List TObj}{Lw:List (Option Nat)}{L:Nat→Option Nat}{n:Nat}
theorem aeX{j l} o (h:iY Lw (aA h').length j=l):VW (aA h') Lw (fA j o) (fA l o)/\∀z,VW (aA h') Lw (dU j z o) (dU l z o):=by
 have s:∀(e:ET) (x:List e.D),VW (aA h') Lw (.slice (x.map e.enc) (.tip j e.sz)) (.slice (x.map e.enc) (.tip l e.sz)):=λe x=>.same (by simp only[ren,pK,mg,h]);have p:∀z k,VW (aA h') Lw (.psl j z k) (.psl l z k):=λz k=>.same (by simp only[ren,h]);cases o with|own e x=>exact⟨s e x,λz=>.unk _⟩|gone e x=>exact⟨s e x,λz=>.unk _⟩|arr e x=>exact⟨.unk _,λz=>p z _⟩|gon k=>exact⟨.unk _,λz=>p z _⟩|_=>exact⟨.unk _,λz=>.unk _⟩
theorem aw8{m}{d}{b o a}{j l}(h:FO h' L m d b o a)(n:iY Lw (aA h').length j=l):VW (aA h') Lw (fA j o) (fA l a)/\∀z,VW (aA h') Lw (dU j z o) (dU l z a):=by
 cases d with
 |dead=>have e:o=.dead:=h;subst e;exact⟨.unk _,λz=>.unk _⟩|box c=>obtain⟨w,v,rfl,rfl,_⟩:=h;exact⟨.unk _,λz=>.unk _⟩|bx i=>
  rcases h with rfl|⟨_,_,_,_,rfl,_⟩
  ·exact⟨.unk _,λz=>.unk _⟩
  exact⟨.unk _,λz=>.unk _⟩
 |own e=>obtain⟨e,x,rfl,rfl⟩:=h;exact aeX _ n|mp e=>obtain⟨e,x,rfl,rfl⟩:=h;exact⟨.unk _,λz=>.unk _⟩|arr e=>obtain⟨e,x,rfl,rfl⟩:=h;exact aeX _ n
theorem jf{cs cs'}(h:Rs (VW (aA h') Lw) cs cs'):cs.length=cs'.length/\∀j,VW (aA h') Lw (cs.getD j .unk) (cs'.getD j .unk):=by
 refine⟨h.len,λj=>?_⟩;by_cases a:j<cs.length;·exact h.get j a
 rw[List.getD,qAE (qBb a)];exact .unk _
theorem aG9(b:∀j l,L j=some l->iY Lw (aA h').length j=l)
  (k:∀j l,L j=some l->VW (aA h') Lw (fA j (nth .dead hJ j)) (fA l (nth .dead h' l))/\∀z,VW (aA h') Lw (dU j z (nth .dead hJ j)) (dU l z (nth .dead h' l)))
  (n:∀j,L j=none->VW (aA h') Lw (fA j (nth .dead hJ j)) (.slice [] .nils)/\∀z,VW (aA h') Lw (dU j z (nth .dead hJ j)) (.slice [] .nils)):
  Wk h' hJ L λ_=>VW (aA h') Lw:=
 ⟨.unk _,λ_ _=>.unk _,λm a g d e=>(by
  generalize Nat.ble 1 m=q at e;cases e with|same=>exact .same (d _)|share i t=>have:=d (iY Lw (aA h').length);simp only[ren,AV.slice.injEq]at this;exact .share this.1|nilF=>exact .nilF),λm j l o h=>.same (by simp only[ren,b j l h]),λm j l h=>.same (by simp only[ren,b j l h]),λm j l h=>(k j l h).1,λm j h=>(n j h).1,
  λm j l z h=>(k j l h).2 z,λm j z h=>(n j h).2 z,λm s c h=>.eptr (jf h).1 (jf h).2,λm s c h=>.agg (jf h).1 (jf h).2,λm s c h=>.tup (jf h).1 (jf h).2,λm s c h=>.tup (jf h).1 (jf h).2,λm f s c h=>.func (jf h).1 (jf h).2,λm f s c h=>.func (jf h).1 (jf h).2⟩
mutual
theorem ahe(hW:Wk h' hJ L (fun _=>VW (aA h') Lw))(hL:∀j l,L j=some l→iY Lw (aA h').length j=l)(hn:∀j,j<n→L j=some j):∀v,rfB n v=true→VW (aA h') Lw (av hJ v) (av h' v)
 | .unk,_=>.unk _
 | .nilp,_=>.same rfl
 | .nilF,_=>.same rfl
 | .nils,_=>.same rfl
 | .lf t x,_=>.same (Jt _ t x)
 | .nat _,_=>.same rfl
 | .ptr l o,h=>hW.ptr 0 _ _ _ (hn l (qAe h))
 | .mapr l,h=>hW.mapr 0 _ _ (hn l (qAe h))
 | .ap l i z o,h=>hW.ptr 0 _ _ (i.toNat*z+o) (hn l (qAe h))
 | .own l,h=>hW.own 0 _ _ (hn l (qAe h))
 | .psl l z c,h=>by
  cases c with
  |none=>exact hW.psl 0 _ _ _ (hn l (qAe h))
  |some k=>exact .same (by simp only[av,ren,hL l l (hn l (qAe h))])
 | .eptr cs,h=>by simp only[av];exact hW.eptr 0 _ _ (abd hW hL hn cs h)
 | .agg cs,h=>by simp only[av];exact hW.agg 0 _ _ (abd hW hL hn cs h)
 | .tup cs,h=>by simp only[av];exact hW.tup0 0 _ _ (arK hW hL hn cs h)
 | .func f cs,h=>by simp only[av];exact hW.func0 0 f _ _ (arK hW hL hn cs h)
theorem abd(hW:Wk h' hJ L (fun _=>VW (aA h') Lw))(hL:∀j l,L j=some l→iY Lw (aA h').length j=l)(hn:∀j,j<n→L j=some j):∀vs,iB n vs=true→Rs (VW (aA h') Lw) (aX hJ vs) (aX h' vs)
 |[],_=>.nil
 |v::vs,h=>by
  simp only[iB,qAb]at h;have h1:=ahe hW hL hn v h.1;have h2:=abd hW hL hn vs h.2;simp only[aX];refine Rs.app ?_ h2;rcases qY v with ho|⟨e,x,rfl⟩
  ·rw[ho,ho];exact .cons h1 .nil
  ·simp only[zM];have:=(abU e x);generalize e.enc x=l at this;clear h1
   induction l with
   |nil=>exact .nil
   |cons a l ih=>exact .cons (.same (this a (by simp) _)) (ih fun b hb=>this b (by simp[hb]))
theorem arK(hW:Wk h' hJ L (fun _=>VW (aA h') Lw))(hL:∀j l,L j=some l→iY Lw (aA h').length j=l)(hn:∀j,j<n→L j=some j):∀vs,iB n vs=true→Rs (VW (aA h') Lw) (aT hJ vs) (aT h' vs)
 |[],_=>.nil
 |v::vs,h=>by
  simp only[iB,qAb]at h;simp only[aT];exact .cons (ahe hW hL hn v h.1) (arK hW hL hn vs h.2)
end
theorem aiP{n}:∀{vs:List TV},iB n vs=true->∀v∈vs,rfB n v=true
 |[],_,v,h=>by cases h|x::vs,h,v,a=>by
  simp only[iB,qAb]at h;rcases qAh.1 a with rfl|a
  ·exact h.1
  exact aiP h.2 v a
theorem aBH{n}:∀e x,∀v∈Kz e x,rfB n v=true:=by intro e x v h;cases e<;>simp only[Kz,qAh]at h<;>(repeat' (rcases h with rfl|h))<;>first|rfl|(subst h;rfl)
theorem Oz{n}:∀{vs:List TV},iB n vs=true->∀v∈aG vs,rfB n v=true
 |[],_,v,h=>by cases h|x::vs,h,v,a=>by
  simp only[iB,qAb]at h;simp only[aG,qAn]at a;rcases a with a|a
  ·rcases qY x with o|⟨e,y,rfl⟩
   ·rw[vv o,qBa]at a;subst a;exact h.1
   exact aBH e y v a
  exact Oz h.2 v a
theorem wV{n}:∀{h:List TObj} {l:Nat},Gn n h=true->nth .dead h l≠ .res/\∀cs,nth .dead h l=.box cs->iB n cs=true
 |[],l,_=>⟨λh=>(by cases h),λcs h=>(by cases h)⟩|o::s,l,h=>by
  simp only[Gn,qAb]at h;cases l with
  |zero=>
   have e:nth .dead (o::s) 0=o:=rfl
   grind
  |succ l=>exact wV (h:=s) h.2
theorem VI{cs vs}(l:(aG cs).length=(aG vs).length)(h:∀q,q<(aG cs).length->VW (aA h') Lw (av hJ ((aG cs).getD q .unk)) (av h' ((aG vs).getD q .unk))):OW (aA h') Lw (.box (aX hJ cs)) (.box (aX h' vs)):=by
 refine .box (by rw[kM,kM,<-nS,<-nS,l]) λj=>?_;rw[Nk,Nk];by_cases a:j<(aG cs).length;·grind
 rw[List.getD,qAE (qBb a)];exact .unk _
theorem NW g (e:ET)(xs:List (Str×e.D)):(xs.map λp=>(p.1,e.one p.2)).map (λp=>(p.1,ren g p.2))=xs.map λp=>(p.1,e.one p.2):=by rw[qBl];refine qBq λp _=>?_;simp;rw[<-apk [] e p.2];cases e<;>simp only[ET.seg,av]<;>exact Jt _ _ _
theorem aHe(h:Wk h' hJ L (λ_=>VW (aA h') Lw))(a:∀j l,L j=some l->iY Lw (aA h').length j=l)(b:∀j,j<n->L j=some j) o (r:o≠ .res)(c:∀cs,o=.box cs->iB n cs=true):OW (aA h') Lw (fJ hJ o) (fJ h' o):=by
 cases o with|box cs=>exact .box (jf (abd h a b cs (c cs rfl))).1 (jf (abd h a b cs (c cs rfl))).2|own e x=>exact .tip _|gone e x=>exact .dead _|mp e x=>exact .same rfl (by simp only[fJ,dR,NW])|arr e x=>exact .same rfl (by simp only[fJ,dR,mg])|gon k=>exact .dead _|dead=>exact .dead _|res=>exact(r rfl).elim
theorem aBK{m}(w:Wk h' hJ L (λ_=>VW (aA h') Lw))(p:∀j l,L j=some l->iY Lw (aA h').length j=l)(r:∀j,j<n->L j=some j){f}{o g k}(h:FO h' L m f o g k)
  (s:∀i cs,f=.bx i->o=.box cs->iB n cs=true/\II o k (pU i)):OW (aA h') Lw (fJ hJ g) (fJ h' k):=by
 cases f with
 |dead=>have e:g=.dead:=h;subst e;exact .dead _|box cs=>obtain⟨D,v,rfl,rfl,d⟩:=h;exact .box (jf (d hJ _ w)).1 (jf (d hJ _ w)).2|bx i=>
  rcases h with rfl|⟨c,cs,v,rfl,rfl,rfl,d,t⟩
  ·exact .dead _
  obtain⟨u,y⟩:=s i c rfl rfl;have z:(aG v).length=(aG c).length/\∀q,pU i q=false->(aG v)[q]? =(aG c)[q]?:=by
   rcases y with e|⟨a,b,E,F,G,H⟩
   ·grind
   grind
  refine VI (d.trans z.1.symm) λq A=>?_;cases B:pU i q with
  |true=>exact(t q).1 B hJ _ w A|false=>
   have C:(aG c).getD q .unk∈aG c:=by grind
   have:=ahe w p r _ (Oz u _ C)
   grind
 |own e=>obtain⟨e,x,rfl,rfl⟩:=h;exact .tip _|mp e=>obtain⟨e,x,rfl,rfl⟩:=h;exact .same rfl (by simp only[fJ,dR,NW])|arr e=>obtain⟨e,x,rfl,rfl⟩:=h;exact .same rfl (by simp only[fJ,dR,mg])
end
end
section
open Go
section
variable {γ:Type}{b:γ}
theorem aur{α}:∀(l:List α) n (K:Nat->Option γ),Gm l n K=K (n+l.length)|[],_,_=>rfl|_::l,n,K=>by simp only[Gm,aur l,qAo];congr 1;omega
theorem WU{α}(l:List α)(K:Nat->Option γ):Gm l 0 K=K l.length:=by rw[aur,qAK]
theorem aG1{n N m j}(h:j<n):LJ n N m j=some j:=by unfold LJ;rw[show Nat.blt j n=true from qCN h];rfl
theorem aCg{n N m j}(a:n<=N)(h:N<=j):LJ n N m j=none:=by
 have e:∀k,k<=j->Nat.blt j k=false:=λk c=>by
  cases b:Nat.blt j k with|false=>rfl|true=>have:j<k:=qAe b;omega
 unfold LJ;rw[e n (by omega),e N h];rfl
theorem aaK{n m}{T0 t'}{h0 g}{eds}{K}
  (hn:h0.length=n) (hm:m<=n) (wfT:iB n T0=true) (E:Gn n h0=true) (edw:eT n [] [] eds=true) (tl:T0.length=t'.length) (hl:n<=g.length)
  (I:∀k,k∉jl eds->nth .unk T0 k=.unk∨nth .unk T0 k=nth .unk t' k)
  (C:∀l,l<n->((∀hd,Ed.o l hd∉eds)->II (nth .dead h0 l) (nth .dead g l) λ_=>false)/\∀is,Ed.o l (.bx is)∈eds->II (nth .dead h0 l) (nth .dead g l) (pU is))
  (U:aqv n eds t' g K=some b):
  ∃us,K us=some b/\∀T x,dJ bI eds us T0 h0=(T,x)->T.length=T0.length/\n<=x.length/\Le m (aT g t') (aA g) (aT x T) (aA x):=by
 unfold aqv at U;rw[WU]at U;simp only at U;obtain⟨G,hE⟩:=(aZ U).resolve_right λh=>by cases h.2
 clear U;generalize V:LJ n (n+aC eds) (Nv t' g n eds [])=L at G hE;have f:∀j,j<n->L j=some j:=λj c=>by rw[<-V];exact aG1 c
 have J:∀j,n+aC eds<=j->L j=none:=λj c=>by rw[<-V];exact aCg (Nat.le_add_right _ _) c
 have M:=ajq (aC eds) n [] G;obtain⟨us,hus,hB⟩:=Jj eds n K [] [] edw (qAd _) hE;refine⟨us,hus,λT x hbl=>?_⟩;obtain⟨T1,H,q1,y⟩:=hB T0 h0 [] hn;rw[qAt,hbl]at q1;cases q1;refine⟨y.tl,by rw[y.hl];omega,?_⟩
 let N:=n+aC eds
 let A:List (Option Nat):=(List.range N).map L
 have w:∀i,i<N->A[i]? =some (L i):=λi a=>by simp[A,a]
 have o:∀i,N<=i->A[i]? =none:=λi a=>by simp[A];omega
 have r:∀j l,L j=some l->iY A (aA g).length j=l:=λj l h=>by
  have c:j<N:=by apply qAp;intro c;rw[J j (by omega)]at h;cases h
  unfold iY;rw[w j c,h];rfl
 have u:∀j,n<=j->j<N->(∃l hd,L j=some l/\Ed.w hd∈eds/\FO g L 2 hd .dead (nth .dead x j) (nth .dead g l))∨(L j=none/\2<=2/\∃e,nth .dead x j=.own e []∨nth .dead x j=.arr e []):=λj H W=>by have:=y.new (j - n) (by omega);rw[show n+(j - n)=j from by omega]at this;exact this.imp (λ⟨l,hd,d,F,O⟩=>⟨l,hd,d,F.1,O⟩) id
 have X:∀j l,L j=some l->VW (aA g) A (fA j (nth .dead x j)) (fA l (nth .dead g l))/\∀z,VW (aA g) A (dU j z (nth .dead x j)) (dU l z (nth .dead g l)):=λj l c=>by
  by_cases t:j<n
  ·have e:=f j t;rw[c]at e;cases e;by_cases p:∃hd,Ed.o j hd∈eds
   ·obtain⟨hd,p⟩:=p;exact aw8 (y.obj j hd p) (r j j c)
   have D:∀hd,Ed.o j hd∉eds:=λhd h=>p ⟨hd,h⟩;rw[y.keepO j t D];rcases(C j t).1 D with e|⟨P,cs',d,F,_⟩
   ·rw[e];exact aeX _ (r j j c)
   rw[d,F];exact⟨.unk _,λz=>.unk _⟩
  have B:j<N:=by apply qAp;intro B;rw[J j (by omega)]at c;cases c
  rcases u j (by omega) B with⟨l',hd,d,_,O⟩|⟨d,_⟩
  ·rw[c]at d;cases d;exact aw8 O (r j l c)
  rw[c]at d;cases d
 have non:∀j,L j=none->VW (aA g) A (fA j (nth .dead x j)) (.slice [] .nils)/\∀z,VW (aA g) A (dU j z (nth .dead x j)) (.slice [] .nils):=λj c=>by
  by_cases B:j<N
  ·have Q:n<=j:=by apply qAp;intro t;rw[f j (by omega)]at c;cases c
   rcases u j Q B with⟨l',hd,d,_⟩|⟨_,_,e,d|d⟩
   ·rw[c]at d;cases d
   ·rw[d];exact⟨.nils _ _,λz=>.unk _⟩
   rw[d];exact⟨.unk _,λz=>.nilP _ _⟩
  rw[kQ (by rw[y.hl];omega)];exact⟨.unk _,λz=>.unk _⟩
 have S:=aG9 r X non;have R:∀k,VW (aA g) A (av x (nth .unk T k)) (av g (nth .unk t' k)):=λk=>by
  by_cases hk:k∈jl eds
  ·obtain⟨s,hs⟩:=Pj hk;by_cases t:k<T0.length
   ·exact y.slot k s hs t x _ S
   rw[kQ (by rw[y.tl];omega)];exact .unk _
  rw[y.keep k hk];rcases I k hk with e|e
  ·rw[e];exact .unk _
  rw[<-e];refine ahe S r f _ ?_;by_cases t:k<T0.length;·refine aiP wfT _ ?_;rw[iK,List.getD,qAc t];exact qAN t
  rw[kQ (by omega)];rfl
 have Y:∀i l,L i=some l->OW (aA g) A (fJ x (nth .dead x i)) (fJ g (nth .dead g l)):=λi l a=>by
  by_cases t:i<n
  ·have e:=f i t;rw[a]at e;cases e;by_cases p:∃hd,Ed.o i hd∈eds
   ·obtain⟨hd,p⟩:=p;exact aBK S r f (y.obj i hd p) λis P e F=>⟨(wV E).2 P F,by subst e;exact(C i t).2 is p⟩
   have D:∀hd,Ed.o i hd∉eds:=λhd h=>p ⟨hd,h⟩;rw[y.keepO i t D];rcases(C i t).1 D with e|⟨P,cs',d,F,O,e4⟩
   ·rw[e];exact aHe S r f _ (wV E).1 (wV E).2
   have hb:=(wV E).2 P d;rw[d,F];refine VI O.symm λq hq=>?_;have hm:(aG P).getD q .unk∈aG P:=by rw[List.getD,qAc hq];exact qAN hq
   have:=ahe S r f _ (Oz hb _ hm);simp only[List.getD]at this|-;rw[e4 q rfl];exact this
  have B:i<N:=by apply qAp;intro B;rw[J i (by omega)]at a;cases a
  rcases u i (by omega) B with⟨l',hd,d,_,O⟩|⟨d,_⟩
  ·rw[a]at d;cases d;exact aBK S r f O λis P e F=>by cases F
  rw[a]at d;cases d
 refine Le.of A ⟨by rw[Cz,Cz,y.tl,tl],by simp[A,aA,y.hl,N],λi a=>by rw[w i (by omega),f i (by omega)],?_,?_,λk=>by rw[Cb,Cb];exact R k,?_,?_⟩
 ·intro i j l a c li lj;have v:i<N:=by apply qAp;intro B;rw[o i (by omega)]at a;cases a
  have Z:j<N:=by apply qAp;intro B;rw[o j (by omega)]at c;cases c
  rw[w i v]at a;rw[w j Z]at c;have a:=Option.some.inj a;have c:=Option.some.inj c;have mix:∀i j,i<n->n<=j->j<N->L i=some l->L j=some l->live (obj? (aA x) i)->False:=λi j H W h3 a c li=>by
   have ei:i=l:=Option.some.inj ((f i H).symm.trans a);obtain⟨_,_,g3,_⟩:=M (j - n) (by omega) l (by rw[show n+(j - n)=j from by omega];exact c);rcases g3 with g3|g3
   ·omega
   have e:nth .dead x l=.dead:=y.obj l .dead (QD g3);rw[<-ei]at e;rw[jT,e]at li;exact li
  by_cases H:i<n
  ·by_cases W:j<n
   ·rw[f i H]at a;rw[f j W]at c;cases a;cases c;rfl
   exact(mix i j H (by omega) Z a c li).elim
  by_cases W:j<n;·exact(mix j i W (by omega) v c a lj).elim
  obtain⟨_,_,_,g4⟩:=M (j - n) (by omega) l (by rw[show n+(j - n)=j from by omega];exact c);have:=g4 (i - n) (by omega) (by rw[show n+(i - n)=i from by omega];exact a);omega
 ·intro i l a;have v:i<N:=by apply qAp;intro B;rw[o i (by omega)]at a;cases a
  rw[w i v]at a;have a:=Option.some.inj a;have hll:(aA g).length=g.length:=by simp[aA]
  rw[hll];by_cases H:i<n;·rw[f i H]at a;cases a;omega
  exact(M (i - n) (by omega) l (by rw[show n+(i - n)=i from by omega];exact a)).1
 ·intro i l a;have v:i<N:=by apply qAp;intro B;rw[o i (by omega)]at a;cases a
  rw[w i v]at a;have a:=Option.some.inj a;rw[jT,jT];exact Y i l a
 intro i a;have v:i<N:=by apply qAp;intro B;rw[o i (by omega)]at a;cases a
 rw[w i v]at a;have a:=Option.some.inj a;have Q:n<=i:=by apply qAp;intro t;rw[f i (by omega)]at a;cases a
 rw[jT];rcases u i Q v with⟨l',hd,d,_⟩|⟨_,_,e,d|d⟩
 ·rw[a]at d;cases d
 ·rw[d];rfl
 rw[d];rfl
end
end
end Abs
end Go.Proofs.YtneeginmfjageaaGreat
