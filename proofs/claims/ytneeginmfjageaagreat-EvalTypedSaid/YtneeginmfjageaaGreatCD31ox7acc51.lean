/-
  A private array that is cut: its object holds what is left. Conditions: none; lemmas.
-/
import Derived.Test.YtneeginmfjageaaGreatCD21ox6c970d
set_option linter.all false
namespace Go.Proofs.YtneeginmfjageaaGreat
namespace Abs
section
open Go
def TH N:=(List.range N).map some
theorem aj4{N i}(h:i<N):(TH N)[i]? =some (some i):=by simp[TH,h]
theorem az4{N i}(h:N<=i):(TH N)[i]? =none:=by simp[TH,h]
theorem PX{N i o}(h:(TH N)[i]? =some o):i<N/\o=some i:=by
 by_cases a:i<N;·rw[aj4 a]at h;exact⟨a,(Option.some.inj h).symm⟩
 rw[az4 (by omega)]at h;cases h
theorem ayZ{N i b}(h:i<N):iY (TH N) b i=i:=by unfold iY;rw[aj4 h];rfl
theorem CY l:∀vs k,nth .unk (XA l vs) k=bif uZ l (nth .unk vs k)then nth .unk vs k else .unk|[],k=>by show nth (TV.unk) [] k=bif uZ l (nth TV.unk [] k)then nth TV.unk [] k else TV.unk;rw[kQ (qBf _)];rfl|v::vs,0=>rfl|v::vs,k+1=>CY l vs k
theorem akF l:∀vs:List TV,(XA l vs).length=vs.length|[]=>rfl|v::vs=>congrArg (·+1) (akF l vs)
theorem aBG{l} e x:∀v∈Kz e x,uZ l v=true:=by intro v h;cases e<;>simp only[Kz,qAh]at h<;>(repeat' (rcases h with rfl|h))<;>first|rfl|(subst h;rfl)
theorem Vw{l}:∀{vs:List TV},pV l vs=true->∀v∈aG vs,uZ l v=true
 |[],_,v,h=>by cases h|x::vs,h,v,a=>by
  simp only[pV,qAb]at h;simp only[aG,qAn]at a;rcases a with a|a
  ·rcases qY x with o|⟨e,y,rfl⟩
   ·rw[vv o,qBa]at a;subst a;exact h.1
   exact aBG e y v a
  exact Vw h.2 v a
def LkO H H' l:=∀j,j≠l->fA j (nth .dead H' j)=fA j (nth .dead H j)/\∀z,dU j z (nth .dead H' j)=dU j z (nth .dead H j)
section
variable {H H':List TObj}{l:Nat}
theorem aEl(k:LkO H H' l):Lks bI (iY (TH H.length) (aA H).length) (L8 l H.length) H H':=by
 have o:∀j,L8 l H.length j=true->j<H.length/\j≠l:=λj h=>by unfold L8 at h;simp only[qAb]at h;exact⟨qAe h.1,WC h.2⟩
 have n:∀j,L8 l H.length j=true->iY (TH H.length) (aA H).length j=j:=λj h=>ayZ (o j h).1;refine⟨n,λj h=>?_,λj z h=>?_⟩;·rw[(k j (o j h).2).1];show fA j (nth .dead H j)=_;cases nth .dead H j<;>simp only[fA,ren,pK,mg,n j h]
 rw[(k j (o j h).2).2 z];show dU j z (nth .dead H j)=_;cases nth .dead H j<;>simp only[dU,ren,n j h]
theorem ab0(h:LkO H H' l){v}(a:rfB H.length v=true)(h2:uZ l v=true):VW (aA H) (TH H.length) (av H' v) (av H v):=by have:=Ph (aEl h) v (Wq l H.length v a h2);rw[akq]at this;exact .same this.symm
theorem aEb(k:LkO H H' l){v}(a:rfB H.length v=true):VW (aA H) (TH H.length) (av H' (bif uZ l v then v else .unk)) (av H v):=by
 cases h:uZ l v with|true=>exact ab0 k a h|false=>exact .unk _
end
theorem azd{γ}{b}{m l t off}{s}{K:DS->Option γ}(S:m<=s.h.length)(hi:Inv s)(h:ctK l t off s K=some b):∃M,K M=some b/\Fr s M/\Inv M/\Le m (aT s.h s.t) (aA s.h) (aT M.h M.t) (aA M.h):=by
 unfold ctK at h;split at h
 ·rename_i e E cs Q o;obtain⟨a,r,y,hf2,h⟩:=BO _ _ _ _ h;split at h
  ·rename_i f z c r;rw[WU]at h;obtain⟨hc,h⟩:=(aZ h).resolve_right λh=>by cases h.2
   obtain⟨T,h⟩:=(aZ h).resolve_right λh=>by cases h.2
   rw[lC,lC]at h;simp only[qAb]at hc;obtain⟨⟨U,q2,q3⟩,q4,q5,V⟩:=hc;have U:f=l:=qAj U;subst U;have W:c<=E.length:=qAe T;have X:f≠t:=λe=>by subst e;rw[Q]at o;cases o
   have H:f<s.h.length:=by apply qAp;intro C;rw[kQ (by omega)]at Q;cases Q
   have I:t<s.h.length:=by apply qAp;intro C;rw[kQ (by omega)]at o;cases o
   refine⟨_,h,?_,?_,?_⟩
   ·refine⟨akF _ _,by simp,λk w=>?_,λp hp=>?_,rfl,λi hi D=>?_⟩
    ·have w:k∉aaw f 0 s.t++s.d:=w;rw[qAn,not_or]at w;refine⟨w.2,?_⟩;show nth .unk (XA f s.t) k=_;rw[CY,abW (j:=0) (by rw[qAK];exact w.1)];rfl
    ·exact qAl _ (qAl _ hp)
    have D:(i,0)∉(f,0)::(t,off+1)::s.o:=D;rw[qAh,not_or]at D;have Y:f≠i:=λe=>D.1 (by rw[e]);by_cases O:t=i
    ·subst O;refine .inr ⟨cs,a++ .psl f z none::r,o,by rw[bM (by rw[qAU];exact I)],?_,λq F=>?_⟩
     ·rw[y,yA];simp only[aG,qAf];rfl
     have F:decide ((t,q+1)∈(f,0)::(t,off+1)::s.o)=false:=F;have hqo:q≠off:=λe=>by subst e;simp at F
     rw[y,yA];by_cases A:q<off;·rw[qAi (by omega),qAi (by omega)]
     rw[qAk (by omega),qAk (by omega)];simp only[aG,Rf,qAO,qAs];obtain⟨k,w⟩:∃k,q - (aG a).length=k+1:=⟨q - (aG a).length - 1,by omega⟩;rw[w];rfl
    refine .inl ?_;show nth .dead ((s.h.set f _).set t _) i=_;rw[aU O,aU Y]
   ·refine⟨λi k a u g=>?_,λd i j u k a g=>?_,λd x u=>?_⟩
    ·have g:nA (nth .unk (XA f s.t) i)=some (k,a):=g;rw[CY]at g;refine hi.up i k a u ?_;cases C:uZ f (nth .unk s.t i)<;>rw[C]at g<;>first|exact g|cases g
    ·have g:nA (nth .unk (XA f s.t) i)=some (k,a):=g;rw[CY]at g;have P:nA (nth .unk s.t i)=some (k,a):=by cases C:uZ f (nth .unk s.t i)<;>rw[C]at g<;>first|exact g|cases g
     obtain⟨c,R,g2⟩:=hi.rl d i j u k a P;refine⟨c,?_,λb o=>g2 b ?_⟩
     ·show nA (nth .unk (XA f s.t) j)=_;have:uZ f (nth .unk s.t j)=true:=by
       revert R;generalize nth .unk s.t j=v;intro R
       cases v<;>first|rfl|cases R
      rw[CY,this];exact R
     have o:nth .unk (XA f s.t) d=.lf .b b:=o;rw[CY]at o;cases C:uZ f (nth .unk s.t d)<;>rw[C]at o<;>first|exact o|cases o
    show nth .unk (XA f s.t) d=nth .unk (XA f s.t) x;rw[CY,CY,hi.cp d x u]
   have w:LkO s.h ((s.h.set f (.arr e (E.take c))).set t (.box (a++ .psl f z none::r))) f:=λj hj=>by
    by_cases N:t=j;·subst N;rw[bM (by rw[qAU];exact I),o];exact⟨rfl,λ_=>rfl⟩
    rw[aU N,aU (qBr hj)];exact⟨rfl,λ_=>rfl⟩
   refine Le.of (TH s.h.length) ⟨?_,?_,λi hi=>aj4 (by omega),?_,?_,λn=>?_,?_,?_⟩;·simp only[Cz,akF]
   ·simp[TH,aA]
   ·intro i j k u g _ _;have:=(PX u).2;have:=(PX g).2
    simp_all
   ·intro i k u;obtain⟨g,P⟩:=PX u;cases P;simpa[aA]using g
   ·rw[Cb,Cb];show VW _ _ (av _ (nth .unk (XA f s.t) n)) _;rw[CY];refine aEb w ?_;by_cases C:n<s.t.length
    ·refine aiP q5 _ ?_;rw[iK,List.getD,qAc C];exact qAN C
    rw[kQ (by omega)];rfl
   ·intro i k u;obtain⟨g,P⟩:=PX u;cases P;rw[jT,jT];show OW _ _ (fJ _ (nth .dead ((s.h.set f (.arr e (E.take c))).set t (.box (a++ .psl f z none::r))) i)) _;by_cases N:t=i
    ·subst N;rw[bM (by rw[qAU];exact I),o];have B:=Oz ((wV V).2 cs o);rw[y]at B;refine VI (by rw[yA,y];simp only[aG,qAf];rfl) λq F=>?_;rw[y,yA];have G:∀v,v∈aG a∨v∈aG r->VW (aA s.h) (TH s.h.length) (av ((s.h.set f (.arr e (E.take c))).set t (.box (a++ .psl f z none::r))) v) (av s.h v):=λv J=>by
      rcases J with J|J
      ·exact ab0 w (B v (qBy _ J)) (Vw q2 v J)
      exact ab0 w (B v (qBA _ (by simp only[aG,qAn];exact .inr J))) (Vw q3 v J)
     simp only[List.getD];by_cases A:q<(aG a).length;·rw[qAi A,qAi A,qAc A];exact G _ (.inl (qAN A))
     rw[qAk (by omega),qAk (by omega)];simp only[aG,Rf,qAO,qAs];generalize q - (aG a).length=k;cases k with
     |zero=>simp only[qAF,qAv];refine .same ?_;simp only[av,aU (qBr X),bM H,dU,ren,ayZ H,qAB,Nat.min_eq_left W]
     |succ k=>
      simp only[qBs];cases hg:(aG r)[k]? with|none=>exact .unk _|some v=>exact G v (.inr (qAG hg))
    rw[aU N];by_cases e3:f=i;·subst e3;rw[bM H,Q];refine OW.arr (n:=c) ?_;rw[mg,List.map_take]
    rw[aU e3];cases Z:nth .dead s.h i with
    |box L=>
     have hna:pV f L=true:=ajS (j:=0) (k:=i) (by intro S;rw[qAK]at S;have:=qAJ.1 q4 _ S;exact N (qAj this).symm) L Z
     have B:=Oz ((wV V).2 L Z);refine VI rfl λq F=>?_;rw[List.getD,qAc F];exact ab0 w (B _ (qAN F)) (Vw hna _ (qAN F))
    |own e E=>exact .tip _|gone e E=>exact .dead _|mp e E=>exact .same rfl (by simp only[fJ,dR,NW])|arr e E=>exact .same rfl (by simp only[fJ,dR,mg])|gon n=>exact .dead _|dead=>exact .dead _|res=>exact((wV V).1 Z).elim
   intro i u;cases(PX u).2
  cases h
 cases h
theorem axw{d b m n s}{K:DS->Option d}(c:m<=s.h.length)(hi:Inv s)(h:fzH m n s K=some b):∃a,K a=some b/\Fr s a/\Inv a/\Le m (aT s.h s.t) (aA s.h) (aT a.h a.t) (aA a.h):=by
 unfold fzH at h;split at h;·exact akk _ _ _ c hi h
 ·exact azd c hi h
 exact⟨s,h,Fr.refl s,hi,λ_ e _ _ _ f=>⟨e,f⟩⟩
theorem aFh{d b m n s}{K:DS->Option d}(c:m<=s.h.length)(hi:Inv s)(h:fzA m n s K=some b):∃a,K a=some b/\Fr s a/\Inv a/\Le m (aT s.h s.t) (aA s.h) (aT a.h a.t) (aA a.h):=by
 unfold fzA at h;split at h;·exact azd c hi h
 ·exact akk _ _ _ c hi h
 exact⟨s,h,Fr.refl s,hi,λ_ e _ _ _ f=>⟨e,f⟩⟩
end
section
open Go
def wR(P:Program)(te:Nat):Bool:=match P.underlying te with|some (.int _)=>true|_=>false
theorem aDB{P o s te e}(h:wR P te=true)(b:o.op=.makeInterface te (.const (.int .i64 e))):xX P o s (s.wr (au o.dst (.ifc te (.int .i64 e)))):=
 nT λC c a w d=>by
  refine⟨.iface te (.int .i64 e),c,w,?_,d.au o.dst (.ifc _ _)⟩;unfold wR at h;split at h;·rename_i k f;simp[execOp,b,Instr.makeInterface,underlying,f,Act.eval]
  cases h
theorem axI{P o s x}{t:Nat}{v}(c:o.op=.panic x)(d:bC s.tmps x=.ifc t v):OpX P o (.iface t v) s s:=by
 intro C e a w b next Q n
 have r:=b.ev x;rw[d]at r;have f:a.eval x=.iface t v:=by generalize a.eval x=u at r;cases r;rfl
 unfold Oper.wp;have h:(execOp a.eval o).run P w=.halt (.panic (.iface t v)) w:=by simp[execOp,c,f,Instr.panic]
 rw[h];exact n e w b
theorem aDv{te T l e}(h:ajn te T l=some e):∃o a d,d<T.length/\l=[o,a]/\o.op=.makeInterface te (.const (.int .i64 e))/\o.dst=some d/\o.guard=none/\a.op=.panic (.tmp d)/\a.dst=none/\a.guard=none:=by
 unfold ajn at h;split at h
 ·rename_i o a;split at h
  ·rename_i t p d b f g;split at h
   ·rename_i q i j k;rcases aZ h with⟨c,h⟩|⟨_,h⟩
    ·cases h;simp only[qAb]at c;have m:=qAj c.1;have n:=qAj c.2.1;subst m;subst n;exact⟨o,a,d,qAe c.2.2,rfl,b,f,g,i,j,k⟩
    cases h
   cases h
  cases h
 cases h
theorem azJ{P}{te m id}{l}{e}{Q}{t}{h}(f:wR P te=true){T}(p:ajn te T l=some e)(E:t.length=T.length)(q:∀t',Q (oO (BA te e)) t' h):AW P m (.region id l.toArray false) Q t h:=by
 obtain⟨b,c,d,n,r,u,v,x,y,F,z⟩:=aDv p;subst r;intro C A a w G B;have g:dY [b,c].toArray t b=some true:=by unfold dY;rw[x]
 have i:dY [b,c].toArray (t.set d (.ifc te (.int .i64 e))) c=some true:=by unfold dY;rw[z]
 have j:xX P b ⟨t,h⟩ ⟨t.set d (.ifc te (.int .i64 e)),h⟩:=by have:=aDB (P:=P) (o:=b) (s:=⟨t,h⟩) f u;rw[v]at this;exact this
 have D:bC (t.set d (.ifc te (.int .i64 e))) (.tmp d)=.ifc te (.int .i64 e):=by
  show(t.set d _).getD d .unk=_
  grind
 refine wp_region_lit (M9 (l1:=[b]) (op:=c) (l2:=[]) (.cons (.inl ⟨g,j⟩) (.nil _)) i (axI y D) C A a w B λκ' H I k=>⟨⟨t.set d (.ifc te (.int .i64 e)),h⟩,κ',q _,k⟩)
end
section
open Go
inductive Out{R γ:Type}(m:Nat)(h0:List TObj)(te:Nat)(pn:Int→DS→Option R)(ret:DS→Option R)(s:DS)(inj:R→Option γ)(k:Exit→DS→Option γ)(b:γ):QT
 |ret {s':DS} {r:R} {t:List AV} {h:List AObj}:Le m t h (aT s'.h s'.t) (aA s'.h)→St m h0 s'→ret s'=some r→inj r=some b→Out m h0 te pn ret s inj k b .ret t h
 |oO {s':DS} {r:R} {v:Int} {t T:List AV} {h:List AObj}:Le m t h T (aA s'.h)→St m h0 s'→pn v s'=some r→inj r=some b→Out m h0 te pn ret s inj k b (oO (BA te v)) t h
 |go {e:Exit} {s':DS} {t:List AV} {h:List AObj}:Le m t h (aT s'.h s'.t) (aA s'.h)→St m h0 s'→Fr s s'→k e s'=some b→Out m h0 te pn ret s inj k b e t h
theorem Le.refl m t h:Le m t h t h:=λ_ a _ _ _ s=>⟨a,s⟩
section
variable {P:Program}{E:List Ent}{θ:Nat→Option ET}{n:Nat}{R:Type}{hs:List (Nat×Hn)}{ret:DS→Option R}{m:Nat}{h0:List TObj}{te:Nat}{pn:Int→DS→Option R}
def Snd P E θ n R hs te pn ret m h0 code:=
 ∀a p s (i:R->Option a) k b,St m h0 s->exe ⟨TI.of P,θ,n,R,hs,m,te,pn⟩ E ret code a p s i k=some b->AW P m code (Out m h0 te pn ret s i k b) (aT s.h s.t) (aA s.h)
theorem afz{g}{s s1}{i}{k}{b:g}(j:Fr s s1) e t h (o:Out m h0 te pn ret s1 i k b e t h):Out m h0 te pn ret s i k b e t h:=by
 cases o with|ret a c d f=>exact .ret a c d f|oO a c d f=>exact .oO a c d f|go a c d f=>exact .go a c (j.trans d) f
theorem awh(hE:∀e∈E,ah P te e)(N:wR P te=true)(H:P.follows .mixedOrders=true) id d draw:Snd P E θ n R hs te pn ret m h0 (.region id d draw):=by
 intro γ p s i k b t h;have h:(fzH m (hint hs p) s λs=>match ajn te s.t d.toList with
   |some e=>bif draw then none else(pn e s).bind i|none=>Gm s.h 0 λn'=>VG (TI.of P) θ E (λv s=>bif draw then none else(pn v s).bind i) d.toList d.toList n' [] {s with h:=s.h++xM (yZ d.toList)} λes s=>bif !draw ||lF d.toList es then ahI s.h n' λh=>fzA m (hint hs p) {s with h:=h} λs=>k .normal s else none)=some b:=h
 obtain⟨A,h,B,I,J⟩:=axw t.len t.inv h;refine AW.le J ((?_:AW P m (.region id d draw) (Out m h0 te pn ret A i k b) (aT A.h A.t) (aA A.h)).mono (afz B));replace t:=t.step B I;clear B I J
 revert h t
 generalize A=s;intro h t;obtain⟨l⟩:=d;cases D:ajn te s.t l with
 |some e=>
  have h:(bif draw then none else(pn e s).bind i)=some b:=by simpa only[D]using h
  cases draw with|true=>cases h|false=>obtain⟨r,h1,h2⟩:=ob h;refine azJ N D (Cz _ _) λt'=>?_;exact .oO (Le.refl _ _ _) t h1 h2
 |none=>
  have h:(Gm s.h 0 λn'=>VG (TI.of P) θ E (λv s=>bif draw then none else(pn v s).bind i) l l n' [] {s with h:=s.h++xM (yZ l)} λes s=>bif !draw ||lF l es then ahI s.h n' λh=>fzA m (hint hs p) {s with h:=h} λs=>k .normal s else none)=some b:=by simpa only[D]using h
  rw[WU]at h;have y:gT {s with h:=s.h++xM (yZ l)}=(gT s).reserve (yZ l):=by unfold gT ASt.reserve;simp only[aj5,ae5]
  rcases ajF hE l _ _ _ _ (show Inv {s with h:=s.h++xM (yZ l)}from⟨t.inv.up,t.inv.rl,t.inv.cp⟩) h with⟨es',res,f,F,G,O,u,z,Q⟩|⟨l1,op,l2,s1,f,c,g0,F,G,O,u,z,Q,g7⟩
  ·simp only[List.reverse_nil,qAs]at G;obtain⟨S,G⟩:=(aZ G).resolve_right λh=>by cases h.2
   obtain⟨X,c,Y,t2,t3⟩:=afu _ _ _ G;have Z:f.h.length=s.h.length+(xM (yZ l)).length:=by rw[Q];simp only[qAf]
   have T:s.h.length<=X.length:=t2 (by omega);have K:Fr s {f with h:=X}:=by refine⟨u.tl,T,u.d,u.om,u.oo,λl' M o=>?_⟩;have:=u.o l' (by simp only[qAf];omega) o;rw[pY M]at this;rw[Y,pY (by omega)]at this;exact this
   have x:Out m h0 te pn ret s i k b .normal (gT f).tmps (gT f).heap:=by have j:=t.step K ⟨z.up,z.rl,z.cp⟩;obtain⟨A,z1,z2,z3,z4⟩:=aFh j.len j.inv t3;refine .go (s':=A) ?_ (j.step z2 z3) (K.trans z2) z1;refine Le.trans ?_ z4;simp only[gT,Y,aj5,ae5];exact atc _ _ c
   rw[y]at F;refine AW.of ?_;cases draw with|false=>exact cZ.region (l:=l) (s:=gT s) _ F.steps x|true=>exact cZ.drawn (l:=l) (s:=gT s) _ H F (by rw[<-avj O];simpa using S) x
  cases draw with|true=>cases u|false=>
   have u:(pn c f).bind i=some b:=u;obtain⟨r,k1,k2⟩:=ob u;rw[y]at F;have U:s.h.length<=f.h.length:=by rw[g7];simp only[qAf];omega
   have L:St m h0 f:=by
    refine⟨Q,qAu t.len U,λl' M o=>?_⟩;rw[z.oo]at o|-;have o:(l',0)∉f.o++s.oo:=o;simp only[qAn,not_or]at o;have V:l'<s.h.length:=qAD M t.len;have e1:=z.o l' (by simp only[qAf];omega) o.1;rw[pY V]at e1;refine II.trans (h:=t.ent l' M ?_) (e1.mono (g:=λq=>decide ((l',q+1)∈f.o++s.oo)) λq x=>?_) λq x=>?_
    ·simp only[qAn,not_or];exact⟨λhm=>o.1 (z.om _ hm),o.2⟩
    ·simp only[decide_eq_false_iff_not,qAn,not_or]at x|-;exact x.1
    simp only[decide_eq_false_iff_not,qAn,not_or]at x|-;exact⟨λhm=>x.1 (z.om _ hm),x.2⟩
   subst g0;exact λC κ a w hk hs=>wp_region_lit (M9 F G O C _ a w (hs.reserve (yZ (l1++op::l2))) λκ' a' w' W=>⟨gT f,κ',.oO (Le.refl _ _ _) L k1 k2,W⟩)
theorem aDR{x y}(K:Snd P E θ n R hs te pn ret m h0 x)(V:Snd P E θ n R hs te pn ret m h0 y):Snd P E θ n R hs te pn ret m h0 (.seq x y):=by
 intro v p s i k b a h;have L:∀{d:List Ed} (hw:eT s.h.length [] [] d=true) (z:jr (bF d)),St m h0 (oQ (nV x) d s (eD _ z)):=λhw z=>a.step (NZ hw z) (aeH hw z a.inv);have H:St m h0 (fresh s):=⟨⟨a.inv.up,a.inv.rl,a.inv.cp⟩,a.len,by exact λl hl M=>a.ent l hl (by simpa[fresh]using M) |>.mono λq hq=>by simpa[fresh]using hq⟩
 have N:(exe ⟨TI.of P,θ,n,R,hs,m,te,pn⟩ E ret x v (2*p) s i λe s=>match e with
    | .normal=>exe ⟨TI.of P,θ,n,R,hs,m,te,pn⟩ E ret y v (2*p+1) s i k|e=>k e s)=some b->AW P m (.seq x y) (Out m h0 te pn ret s i k b) (aT s.h s.t) (aA s.h):=λh=>by
  refine AW.seq ((K v _ s i _ b a h).mono λe t D I=>?_);cases I with
  |ret j f w u=>exact .ret j f w u|oO j f w u=>exact .oO j f w u|@go _ F _ _ j f w u=>
   cases e with
   |normal=>exact AW.le j ((V v _ F i k b f u).mono (afz w))|exit id=>exact .go j f w u|goto l=>exact .go j f w u|ret=>exact .go j f w u|panic c=>exact .go j f w u|outgrown=>exact .go j f w u
 have o:∀{d:List Ed} (hw:eT s.h.length [] [] d=true) (z:jr (bF d)),exe ⟨TI.of P,θ,n,R,hs,m,te,pn⟩ E ret y v (2*p+1) (oQ (nV x) d s (eD _ z)) i k=some b->∀t D,Le m t D (aT (oQ (nV x) d s (eD _ z)).h (oQ (nV x) d s (eD _ z)).t) (aA (oQ (nV x) d s (eD _ z)).h)->AW P m y (Out m h0 te pn ret s i k b) t D:=
  λhw z u t D O=>AW.le O ((V v _ _ i k b (L hw z) u).mono (afz (NZ hw z)))
 have h:(match hint hs p with
   |some (.jn d true)=>DZ d s <| Option.bind (exe ⟨TI.of P,θ,n,R,hs,m,te,pn⟩ E ret x (LR (jr (bF d)) R) (2*p) (fresh s) (λr=>some (.rt r)) λe F=>match e with
     | .normal=>Gl (nV x) d s F λus=>zD (bF d) us λx=>some (.nx x)|_=>none) (LR.el (λz=>JH (nV x) d s (eD (bF d) z) λs=>exe ⟨TI.of P,θ,n,R,hs,m,te,pn⟩ E ret y v (2*p+1) s i k) (λr=>i r))
   |some (.jn d false)=>DZ d s <| Option.bind (exe ⟨TI.of P,θ,n,R,hs,m,te,pn⟩ E ret x (jr (bF d)) (2*p) (fresh s) (λ_=>none) λe F=>match e with| .normal=>Gl (nV x) d s F λus=>zD (bF d) us λx=>some x|_=>none) λz=>JH (nV x) d s (eD (bF d) z) λs=>exe ⟨TI.of P,θ,n,R,hs,m,te,pn⟩ E ret y v (2*p+1) s i k
   |_=>exe ⟨TI.of P,θ,n,R,hs,m,te,pn⟩ E ret x v (2*p) s i λe s=>match e with| .normal=>exe ⟨TI.of P,θ,n,R,hs,m,te,pn⟩ E ret y v (2*p+1) s i k|e=>k e s)=some b:=h
 split at h;·rename_i d _;obtain⟨⟨Q,S,J⟩,h⟩:=QY h;obtain⟨A,j,f⟩:=ob h;refine AW.seq ((K _ _ (fresh s) _ _ A H j).mono λe t D I=>?_);cases I with|ret B G C g=>cases g;exact .ret B G C f|oO B G C g=>cases g;exact .oO B G C f|@go _ F _ _ B G C g=>
   cases e with
   |normal=>obtain⟨z,T,U⟩:=UC a.len Q S J C g;cases T;have f:(JH (nV x) d s (eD (bF d) z) λs=>exe ⟨TI.of P,θ,n,R,hs,m,te,pn⟩ E ret y v (2*p+1) s i k)=some b:=f;rw[aco]at f;exact o J z f t D (B.trans U)
   |exit id=>cases g|goto l=>cases g|ret=>cases g|panic c=>cases g|outgrown=>cases g
 ·rename_i d _;obtain⟨⟨Q,S,J⟩,h⟩:=QY h;obtain⟨A,j,f⟩:=ob h;refine AW.seq ((K _ _ (fresh s) _ _ A H j).mono λe t D I=>?_);cases I with
  |ret B G C g=>cases g|oO B G C g=>cases g|@go _ F _ _ B G C g=>
   cases e with
   |normal=>obtain⟨z,T,U⟩:=UC a.len Q S J C g;have e1:A=z:=(Option.some.inj T).symm;rw[e1,aco]at f;exact o J z f t D (B.trans U)
   |exit id=>cases g|goto l=>cases g|ret=>cases g|panic c=>cases g|outgrown=>cases g
 grind
theorem azW{x}(X:Snd P E θ n R hs te pn ret m h0 x):Snd P E θ n R hs te pn ret m h0 (.loop x):=by
 intro γ p s L k b a h;have h:(match hint hs p with
   |some (.lp d e f)=>DZ d s <| DZ f s <| Gl (nV x) d s (fresh s) λus=>zD (bF d) us λx0=>
     Option.bind (aH (δ:=LR (jr (bF f)) R) (λrec z=>JH (nV x) d (fresh s) (eD (bF d) z) λs1=>exe ⟨TI.of P,θ,n,R,hs,m,te,pn⟩ E ret x (LR (jr (bF f)) R) (2*p) s1 (λr=>some (.rt r)) λe' i=>match e' with
      | .normal=>Gl (nV x) d s i λus=>zD (bF d) us rec| .exit B=>bif Nat.beq B e then Gl (nV x) f s i λus=>zD (bF f) us λy=>some (.nx y)else none|_=>none) n x0) (LR.el (λy=>JH (nV x) f s (eD (bF f) y) λs=>k (.exit e) s) (λr=>L r))
   |_=>none)=some b:=h
 split at h
 case h_2=>cases h
 rename_i d e f _;obtain⟨⟨M,N,C⟩,h⟩:=QY h;obtain⟨⟨_,_,I⟩,h⟩:=QY h;have D:St m h0 (fresh s):=⟨⟨a.inv.up,a.inv.rl,a.inv.cp⟩,a.len,by exact λl Y O=>a.ent l Y (by simpa[fresh]using O) |>.mono λq Z=>by simpa[fresh]using Z⟩
 obtain⟨x0,h1,F⟩:=UC a.len M N C (Fr.refl (fresh s)) h;obtain⟨j,V,w⟩:=ob h1;generalize o:(λ(rec:jr (bF d)->Option (LR (jr (bF f)) R)) (z:jr (bF d))=>JH (nV x) d (fresh s) (eD (bF d) z) λs1=>exe ⟨TI.of P,θ,n,R,hs,m,te,pn⟩ E ret x (LR (jr (bF f)) R) (2*p) s1 (λr=>some (.rt r)) λe' i=>match e' with
      | .normal=>Gl (nV x) d s i λus=>zD (bF d) us rec| .exit B=>bif Nat.beq B e then Gl (nV x) f s i λus=>zD (bF f) us λy=>some (.nx y)else none|_=>none)=body at V
 let J:jr (bF d)->DS:=λz=>oQ (nV x) d (fresh s) (eD _ z)
 have Jav:∀z,aT (J z).h (J z).t=aT (oQ (nV x) d s (eD _ z)).h (oQ (nV x) d s (eD _ z)).t/\aA (J z).h=aA (oQ (nV x) d s (eD _ z)).h:=λz=>⟨rfl,rfl⟩;refine AW.loop (λc t W=>∃z,aH body c z=some j/\Le m t W (aT (J z).h (J z).t) (aA (J z).h)) (n:=n) ⟨x0,V,F⟩ ?_;rintro c t W ⟨z,u,Q⟩;cases c with
 |zero=>cases u|succ c=>
  have u:body (aH body c) z=some j:=u;rw[<-o]at u;simp only at u;rw[o,aco]at u;have S:St m h0 (J z):=D.step (NZ (s:=fresh s) C z) (aeH (s:=fresh s) C z D.inv);refine AW.le Q ((X _ _ (J z) _ _ j S u).mono λe' t' hh' ho=>?_);cases ho with|ret A K G g=>cases g;exact .ret A K G w|oO A K G g=>cases g;exact .oO A K G w|@go _ i _ _ A K G g=>
   have H:Fr (fresh s) i:=(NZ (s:=fresh s) C z).trans G;cases e' with
   |normal=>obtain⟨z',T,U⟩:=UC a.len M N C H g;exact⟨c,Nat.lt_succ_self c,z',T,A.trans U⟩
   |exit B=>
    simp only at g;obtain⟨v,g5⟩:=(aZ g).resolve_right λh=>by cases h.2
    have v:=qAj v;clear g;subst v;obtain⟨y,T,U⟩:=UC a.len M N I H g5;cases T;have w:(JH (nV x) f s (eD (bF f) y) λs=>k (.exit B) s)=some b:=w;rw[aco]at w;exact .go (A.trans U) (a.step (NZ I y) (aeH I y a.inv)) (NZ I y) w
   |goto l=>cases g|ret=>cases g|panic c=>cases g|outgrown=>cases g
theorem Z7(S:∀e∈E,ah P te e)(C:wR P te=true)(z:P.follows .mixedOrders=true) code:Snd P E θ n R hs te pn ret m h0 code:=by
 induction code with
 |skip=>exact λu p s i k b a h=>AW.skip (.go (Le.refl _ _ _) a (Fr.refl s) h)|region v D A=>exact awh S C z v D A|seq x y w F=>exact aDR w F|cond c x y w F=>
  intro u p s i k b a h;have h:(match fq s.t c with
   | .lf .b b=>_root_.cond b (exe ⟨TI.of P,θ,n,R,hs,m,te,pn⟩ E ret x u (2*p) (LX c s) i k) (exe ⟨TI.of P,θ,n,R,hs,m,te,pn⟩ E ret y u (2*p+1) s i k)|_=>none)=some b:=h
  split at h
  ·rename_i q L;refine AW.vf λhv=>AW.cond (b:=q) (by rw[bN,L];rfl) (λe=>?_) λe=>?_
   ·subst e;obtain⟨M,B,T,N,O,_⟩:=alH c s;have U:=azN a.inv L hv;have:=w u _ (LX c s) i k b ⟨U,by rw[B];exact a.len,by rw[N,O,B];exact a.ent⟩ h;rw[M,B]at this;exact this.mono λe t V G=>by
     cases G with
     |ret f g j d=>exact .ret f g j d|oO f g j d=>exact .oO f g j d|go f g j d=>exact .go f g (aCK j M B T N O) d
   subst e;exact F u _ s i k b a h
  cases h
 |block v x w=>
  intro u p s i k b a h;refine AW.block ((w u (2*p) s i _ b a h).mono λe t V G=>?_);cases G with
  |ret f g j d=>exact .ret f g j d|oO f g j d=>exact .oO f g j d|@go _ Q _ _ f g j d=>
   cases e with
   |exit o=>
    have d:(bif Nat.beq o v then k .normal Q else k (.exit o) Q)=some b:=d;refine aw3 (λhe=>?_) λhe=>?_
    ·have he:o=v:=by simpa using he
     subst he;rw[nJ,cond_true]at d;exact .go f g j d
    have he:o≠v:=by simpa using he
    have H:Nat.beq o v=false:=by
     cases H:Nat.beq o v with|false=>rfl|true=>exact(he (qAj H)).elim
    rw[H,cond_false]at d;exact .go f g j d
   |normal=>exact .go f g j d|goto l=>exact .go f g j d|ret=>exact .go f g j d|panic c=>exact .go f g j d|outgrown=>exact .go f g j d
 |loop x w=>exact azW w|exit v=>exact λu p s i k b a h=>AW.exit (.go (Le.refl _ _ _) a (Fr.refl s) h)|ret=>intro u p s i k b a h;obtain⟨W,h,I,J,K⟩:=axw a.len a.inv h;obtain⟨r,f,g⟩:=ob h;exact AW.le K (AW.ret (.ret (Le.refl _ _ _) (a.step I J) f g))
 |_=>intro u p s i k b a h;cases h
end
end
section
open Go
def Ca P rs m T hJ t h:=
 ∃b a x,Le m t h b a/\wX P ⟨b,a⟩ rs=some x/\Le m x a (aT hJ T) (aA hJ)
def apI(P:Program)(r:List ResultVar)(m:Nat)(T:List TV)(j:List TObj):QT| .normal,t,h=>Ca P r m T j t h| .ret,t,h=>Ca P r m T j t h|_,_,_=>False
theorem az5{P}{f}{fn}{c}{args}{H}{T}{j}(hf:P.funcs[f]? =some fn)(F:fn.body=some c)(X:args.length<=fn.ntmps)(L:H.length<=j.length)
  (h:AW P H.length c (apI P fn.results.toList H.length T j) (args++List.replicate (fn.ntmps - args.length) (.tup [])) H):cK P f args H (av j (res1 T)) (aA j):=by
 intro q r w y i M hr
 let C:Ctx:={ak:=r,old:=λb=>b<w.heap.size/\∀l,at? q l=some b->¬live (obj? H l),w0:=w,k0:=q,pvE:=aD r q H}
 refine calls_of_wp hf F ?_;have G:Sim C q ⟨args++List.replicate (fn.ntmps - args.length) (.tup []),H⟩ {tmps:=y.toArray++Array.replicate (fn.ntmps - y.toArray.size) undef,defers:=[]} w:=by
  refine⟨rfl,by simp[M],?_,i.klen,dw.refl _,i.resv,i.obj,i.apart,λl b p N ho=>ho.2 l p N,i.bound,λb o h=>⟨i.pvlt b o h,λl hl=>i.pvdis b o l h hl⟩,λb F=>F.1,λ_ _=>rfl,rfl,rfl,rfl,qAd _,λ_ _ h _=>h,Evo.refl _ _⟩;intro n I;simp only[qAf,qBx]at I;by_cases z:n<args.length
  ·have Y:(args++List.replicate (fn.ntmps - args.length) (AV.tup [])).getD n .unk=args.getD n .unk:=by simp[List.getD,qAi z]
   have Z:(y.toArray++Array.replicate (fn.ntmps - y.toArray.size) undef).getD n undef=y.getD n undef:=by simp_all
   grind
  have Y:(args++List.replicate (fn.ntmps - args.length) (AV.tup [])).getD n .unk=.tup []:=by grind
  have Z:(y.toArray++Array.replicate (fn.ntmps - y.toArray.size) undef).getD n undef=undef:=by rw[qAq,qBH (by simp;omega),qCx];split<;>rfl
  rw[Y,Z];exact kC
 have A:C.k0.length<=H.length:=qBk i.klen;refine wp_mono (h C q _ w A G) ?_;rintro e a m ⟨s,O,E,hs⟩;have J:Ca P fn.results.toList H.length T j s.tmps s.heap->a.defers=[]/\∃v,(results fn a.tmps).run P m=.ok v m/\∃v' g,Ending.returned v=.returned v'/\Leave q g r H (aA j) w m/\Rel m g (aD r g (aA j)) (av j (res1 T)) v':=by
  rintro⟨t1,p,xs,q1,q2,q3⟩;obtain⟨K,B⟩:=q1 C O a m A hs;obtain⟨D,u1,u2,u3⟩:=Kv B _ _ q2;have Q:Sim C K ⟨xs,p⟩ {tmps:=D.toArray,defers:=a.defers} m:={B with
   len:=by simp[u1]
   slot:=λn I=>by have:=u2 n I;simpa[qAq,List.getD]using this}
  obtain⟨g,d⟩:=q3 C K _ m A Q;have k:Leave q g r H (aA j) w m:=by
   refine⟨d.klen,by simp only[aA,qAg];exact L,d.kext,d.resv,d.obj,?_,d.apart,d.bound,λb F R=>d.old b ⟨F,R⟩,d.kS,d.pvsub,d.os,d.tape,d.output⟩;intro l b p N;have S:=d.own l b p N;by_cases z:b<w.heap.size;·right;apply qAp;exact λU=>S ⟨z,λl0 h0 V=>U ⟨l0,h0,V⟩⟩
   left;omega
  have W:D.length=(aT j T).length:=by have:=d.len;simpa using this
  have t:∀n,n<(aT j T).length->Rel m g (aD r g (aA j)) ((aT j T).getD n .unk) (D.getD n undef):=λn I=>by have:=d.slot n I;simpa[qAq,List.getD]using this
  refine⟨B.defers,?_⟩;have hm:(fn.results.mapM (SS a.tmps)).run P m=.ok D.toArray m:=by rw[qCb];simp only[Sem.run_map,u3,Result.andThen_ok]
  rw[Ni];simp only[Sem.run_bind,hm,Result.andThen_ok,Sem.run_pure];by_cases p:D.length=1;·match D,p with
   |[u],_=>
    match T,W with
    |[x],_=>refine⟨u,by simp,u,g,rfl,k,?_⟩;have:=t 0 (by simp[aT]);simpa[aT,res1]using this
  refine⟨.tuple D.toArray,by simp[p],_,g,rfl,k,?_⟩;have hx:av j (res1 T)=.tup (aT j T):=by
   match T,W with|[],_=>rfl|[x],h=>exact(p (by simpa[aT]using h)).elim|_::_::_,_=>rfl
  rw[hx];exact .tup W t
 cases e with|normal=>exact J E|ret=>exact J E|exit id=>exact E.elim|goto l=>exact E.elim|panic c=>exact E.elim|outgrown=>exact E.elim
def aAB(v:Value)(m:Nat)(H':List AObj):QT:=λe t h=>e=oO v/\∃b a,Le m t h b a/\Le m [] a [] H'
theorem ayq{P f fn c args H H' v}(M:P.funcs[f]? =some fn)(j:fn.body=some c)(J:args.length<=fn.ntmps)(u:H.length<=H'.length)
  (h:AW P H.length c (aAB v H.length H') (args++List.replicate (fn.ntmps - args.length) (.tup [])) H):Cy P f args H v H':=by
 intro m x w i g y V
 let C:Ctx:={ak:=x,old:=λb=>b<w.heap.size/\∀l,at? m l=some b->¬live (obj? H l),w0:=w,k0:=m,pvE:=aD x m H}
 refine calls_of_wp M j ?_;have p:Sim C m ⟨args++List.replicate (fn.ntmps - args.length) (.tup []),H⟩ {tmps:=i.toArray++Array.replicate (fn.ntmps - i.toArray.size) undef,defers:=[]} w:=by
  refine⟨rfl,by simp[y],?_,g.klen,dw.refl _,g.resv,g.obj,g.apart,λl b q z N=>N.2 l q z,g.bound,λb o h=>⟨g.pvlt b o h,λl O=>g.pvdis b o l h O⟩,λb j=>j.1,λ_ _=>rfl,rfl,rfl,rfl,qAd _,λ_ _ h _=>h,Evo.refl _ _⟩;intro n A;simp only[qAf,qBx]at A;by_cases B:n<args.length
  ·have K:(args++List.replicate (fn.ntmps - args.length) (AV.tup [])).getD n .unk=args.getD n .unk:=by simp[List.getD,qAi B]
   have L:(i.toArray++Array.replicate (fn.ntmps - i.toArray.size) undef).getD n undef=i.getD n undef:=by simp_all
   grind
  have K:(args++List.replicate (fn.ntmps - args.length) (AV.tup [])).getD n .unk=.tup []:=by grind
  have L:(i.toArray++Array.replicate (fn.ntmps - i.toArray.size) undef).getD n undef=undef:=by rw[qAq,qBH (by simp;omega),qCx];split<;>rfl
  rw[K,L];exact kC
 have k:C.k0.length<=H.length:=qBk g.klen;refine wp_mono (h C m _ w k p) ?_;rintro e a D ⟨s,E,⟨Q,W,q,R,S⟩,T⟩;obtain⟨r,t⟩:=R C E a D k T;have F:Sim C r ⟨[],q⟩ {tmps:=#[],defers:=a.defers} D:={t with
  len:=rfl
  slot:=λn A=>by cases A}
 obtain⟨G,d⟩:=S C r _ D k F;subst Q;refine⟨t.defers,G,rfl,?_⟩;refine⟨d.klen,u,d.kext,d.resv,d.obj,?_,d.apart,d.bound,λb j I=>d.old b ⟨j,I⟩,d.kS,d.pvsub,d.os,d.tape,d.output⟩;intro l b q z;have U:=d.own l b q z
 grind
theorem afw{P i b s}:∀d (K:List TV->Option i),ahU (TI.of P) s d K=some b->∃c,wX P (gT s) d=some (aT s.h c)/\c.length=d.length/\K c=some b
 |[],K,h=>⟨[],rfl,rfl,h⟩| .tmp t::r,K,h=>by
  obtain⟨c,e,f,g⟩:=afw r _ h;exact⟨nth .unk s.t t::c,by show(wX P (gT s) r).map _=_;rw[e,qAx];show some ((gT s).tmps.getD t .unk::aT s.h c)=some (av s.h (nth .unk s.t t)::aT s.h c);rw[show(gT s).tmps.getD t .unk=av s.h (nth .unk s.t t)from Cb _ _ _],by simp[f],g⟩
 | .cell a t::r,K,h=>by
  simp only[ahU]at h;split at h
  ·rename_i l o j;split at h
   ·rename_i k m;obtain⟨v,n,p⟩:=aa4 (H:=s.h) h;obtain⟨c,e,f,g⟩:=afw r _ p;refine⟨v::c,?_,by simp[f],g⟩;have q:(gT s).tmps.getD a .unk=.ptr l o:=by rw[show(gT s).tmps.getD a .unk=av s.h (nth .unk s.t a)from Cb _ _ _,j];rfl
    have u:obj? (gT s).heap l=.box (aX s.h k):=by rw[show obj? (gT s).heap l=fJ s.h (nth .dead s.h l)from jT _ _,m];rfl
    simp only[wX,q,u,n,e,qAx,aT]
   cases h
  cases h
theorem atC{l}:∀{n:Nat},awr l n=true->∀k,k<n->k∈l
 |0,_,k,h=>by omega|n+1,h,k,a=>by
  simp only[awr,qAb]at h;by_cases e:k=n;·subst e;exact mem_iff.1 h.1
  exact atC h.2 k (by omega)
mutual
theorem aGi(n:Nat):∀v,Iq (fun l=>Nat.blt l n) v=rfB n v
 | .ptr _ _=>rfl| .mapr _=>rfl| .own _=>rfl| .psl _ _ _=>rfl| .ap _ _ _ _=>rfl
 | .eptr cs=>UH n cs
 | .agg cs=>UH n cs
 | .tup cs=>UH n cs
 | .func _ cs=>UH n cs
 | .unk=>rfl| .nilp=>rfl| .nilF=>rfl| .nils=>rfl| .lf _ _=>rfl| .nat _=>rfl
theorem UH(n:Nat):∀vs,nP (fun l=>Nat.blt l n) vs=iB n vs
 |[]=>rfl
 |v::vs=>by simp only[nP,iB,aGi n v,UH n vs]
end
theorem azm{n}:∀{h:List TObj},(∀l,nth .dead h l≠ .res/\∀cs,nth .dead h l=.box cs->iB n cs=true)->Gn n h=true
 |[],_=>rfl|o::h,k=>by
  simp only[Gn,qAb];refine⟨?_,azm λl=>k (l+1)⟩;have:=k 0;change o≠ .res/\∀cs,o=.box cs->iB n cs=true at this
  grind
theorem Vh:∀es u T t b,T.length=t.length->(∀k,k∉jl es->nth .unk T k=nth .unk t k)->dJ bI es u T b=dJ bI es u t b
 |[],u,T,t,b,a,h=>by
  have:T=t:=by apply qBV a;intro i d f;have:=h i (by simp[jl]);rw[iK,iK,List.getD,List.getD,qAc d,qAc f]at this;exact this
  rw[this]
 | .r k s::es,u,T,t,b,a,h=>by
  refine Vh es _ _ _ _ (by simp[a]) λj g=>?_;by_cases e:k=j
  ·subst e;by_cases c:k<T.length
   ·rw[bM c,bM (a▸c)]
   rw[kQ (by rw[qAU];omega),kQ (by rw[qAU];omega)]
  rw[aU e,aU e];exact h j (by simp only[jl,qAh,not_or];exact⟨λx=>e x.symm,g⟩)
 | .o l s::es,u,T,t,b,a,h=>Vh es _ T t _ a h| .w s::es,u,T,t,b,a,h=>Vh es _ T t _ a h
theorem WT:∀es u T S a,(∀k∈jl es,k<T.length)->dJ bI es u (T++S) a=((dJ bI es u T a).1++S,(dJ bI es u T a).2)|[],u,T,S,a,h=>rfl| .r k s::es,u,T,S,a,h=>by simp only[dJ];rw[List.set_append_left _ _ (h k (by simp[jl]))];exact WT es _ _ S a λj b=>by rw[qAU];exact h j (by simp[jl,b])| .o l s::es,u,T,S,a,h=>WT es _ T S _ h| .w s::es,u,T,S,a,h=>WT es _ T S _ h
theorem ap6 n k:iB n (dn k)=true:=by
 unfold dn
 induction k with|zero=>rfl|succ k i=>simp only[qCu,iB,rfB,i,qDl]
theorem aCU H c:aT H (List.replicate c (.tup []))=List.replicate c (.tup []):=by rw[sS,qDg];rfl
theorem auO o hd us (h:∀i,hd≠ .bx i):(bH bI o hd us).1≠ .res:=by
 cases hd with|dead=>intro h;cases h|box c=>intro h;cases h|bx i=>exact(h i rfl).elim|own e=>simp only[bH];split<;>simp|mp e=>simp only[bH];split<;>simp|arr e=>simp only[bH];split<;>simp
theorem ajV{P R}{e:Ent}{rvs:List ResultVar}{inn:jr (bF e.rs)->Option R}{h r:List TV}{h0 h2:List TObj}{s:DS}{y:R}{out:R->jr (bF e.rs)}(i:∀z y,inn z=some y->out y=z)(d:eT (aC e.ps) [] [] e.rs=true)
  (c:h0.length=aC e.ps) (f:Gn (aC e.ps) h0=true) (a:e.nr=rvs.length) (t:St (aC e.ps) h0 s) (g:BD (TI.of P) (aC e.ps) rvs e.rs inn s=some y) (b:dJ bI e.rs (eD _ (out y)) (dn e.nr) h0=(r,h2)):
  Ca P rvs (aC e.ps) r h2 (aT s.h s.t) (aA s.h):=by
 obtain⟨x,j,l,o⟩:=afw rvs _ g;obtain⟨p,q⟩:=(aZ o).resolve_right λh=>by cases h.2
 obtain⟨A,u,v⟩:=aaK (n:=aC e.ps) (m:=aC e.ps) (T0:=dn e.nr) c (qAd _) (ap6 _ _) f d (by unfold dn;rw[qBx,l,a]) t.len
  (λk _=>.inl (abY _ _)) (akT d p t.ent) q
 obtain⟨z,rfl,w⟩:=Pw u;rw[i _ _ w]at b;exact⟨_,_,_,Le.refl _ _ _,j,(v _ _ b).2.2⟩
theorem ab1{R ps eds}{h0 h2:List TObj}{r:List TV}{s v y}(e:eT (aC ps) [] [] eds=true)(a:h0.length=aC ps)(b:Gn (aC ps) h0=true)(t:St (aC ps) h0 s)
  (c:Sb (R:=R) (aC ps) (some eds) v s=some y):∃z,y=PZ.er v z/\∀r h2,dJ bI eds (eD _ z) (dn 0) h0=(r,h2)->Le (aC ps) [] (aA s.h) [] (aA h2):=by
 obtain⟨g,d⟩:=(aZ c).resolve_right λh=>by cases h.2
 obtain⟨u,q,f⟩:=aaK (n:=aC ps) (m:=aC ps) (T0:=dn 0) (t':=[]) a (qAd _) (ap6 _ _) b e rfl t.len (λk _=>.inl (abY _ _)) (akT e g t.ent) d;obtain⟨z,rfl,i⟩:=Pw q;refine⟨z,(Option.some.inj i).symm,λr h2 j=>?_⟩;obtain⟨l,_,o⟩:=f r h2 j;have:r=[]:=qAI.1 l;subst this;exact o
theorem aA4{P}{te}{Y}{n}{hs}{E}{fn}{e} inn (K:wR P te=true)(p:P.follows .mixedOrders=true)(w:M7 e=true)
  (g:Nat.ble e.na fn.ntmps=true) (Z:∀e'∈E,ah P te e') (q:∀x,ajx (TI.of P) Y n hs E te fn e inn x=e.F x) {x} {y} (f:e.F x=some y) {t} {h} (v:dJ bI e.ps (eD _ x) (dn e.na) []=(t,h)):
  h.length=aC e.ps/\t.length=e.na/\e.na<=fn.ntmps/\Gn (aC e.ps) h=true/\∃c s0,fn.body=some c/\AW P (aC e.ps) c (Out (aC e.ps) h te (Sb (aC e.ps) e.pe) (λs=>RT.ok e.pe (BD (TI.of P) (aC e.ps) fn.results.toList e.rs inn s)) s0 some (λx s=>match x with| .normal=>RT.ok e.pe (BD (TI.of P) (aC e.ps) fn.results.toList e.rs inn s)|_=>none) y) (aT h t++List.replicate (fn.ntmps - e.na) (.tup [])) (aA h):=by
 unfold M7 at w;rw[qAb,qAb]at w;obtain⟨⟨z,w⟩,hwp⟩:=w;rw[qAb]at z;obtain⟨r,o⟩:=z;simp only[qAb]at w;obtain⟨A,R,B,S⟩:=w;have o:∀k∈jl e.ps,k<e.na:=λk C=>qAe (qAJ.1 o k C);have r:=atC r;have g:=qAe g;rw[<-q x]at f;unfold ajx at f;cases b:fn.body with|none=>rw[b]at f;cases f|some c=>
  rw[b]at f;simp only at f;rw[PK]at f;have L:(eD (bF e.ps) x).map U.t=bF e.ps++[]:=by rw[JR,qAt]
  have D:=sD e.ps (eD _ x) 0 [] [] (dn e.na) [] [] L A (qAd _) rfl;rw[v]at D;simp only at D;have u:(dn e.na).length=e.na:=by unfold dn;rw[qBx]
  have M:t.length=e.na:=by rw[D.tl,u]
  have F:h.length=aC e.ps:=by rw[D.hl,qAK]
  -- the slots of the whole frame
  have N:dJ bI e.ps (eD _ x) (List.replicate fn.ntmps (.tup [])) []=(t++List.replicate (fn.ntmps - e.na) (.tup []),h):=by
   rw[Vh e.ps (eD _ x) (List.replicate fn.ntmps (.tup [])) (dn e.na++List.replicate (fn.ntmps - e.na) (.tup [])) [] (by rw[qAf,u,qBx,qBx];omega) (λk C=>?_),
    WT e.ps (eD _ x) (dn e.na) _ [] (λk C=>by rw[u];exact o k C),v]
   have O:e.na<=k:=by apply qAp;exact λhlt=>C (r k (by omega))
   rw[iK,iK,List.getD,List.getD,qAk (by rw[u];exact O),u,qBU,qBU];by_cases G:k<fn.ntmps;·rw[if_pos G,if_pos (by omega)]
   rw[if_neg G,if_neg (by omega)]
  rw[N]at f;simp only at f;have hH:Gn (aC e.ps) h=true:=azm λl=>by
   by_cases J:l<aC e.ps;·obtain⟨T,H,e1,V⟩:=D.new l J;rw[qAK]at V;obtain⟨_,W,p3⟩:=LH B T e1;rw[V];refine⟨auO _ T H W,λcs hc=>?_⟩;obtain⟨X,rfl,rfl⟩:=abh W hc;rw[<-UH];exact Bn (n:=aC e.ps) (ds:=[]) (λl J=>by simp only[qAb]at J;exact J.1) X H (p3 X rfl)
   rw[kQ (by omega)];exact⟨λh=>(by cases h),λcs h=>(by cases h)⟩
  have Q:St (aC e.ps) h ⟨t++List.replicate (fn.ntmps - e.na) (.tup []),h,[],[],[],[],[],[]⟩:=
   ⟨⟨λi k c I=>(by cases I),λd i j I=>(by cases I),λd x I=>(by cases I)⟩,qBk F.symm,λl _ _=>.inl rfl⟩
  have a:=Z7 (n:=n) (hs:=hs) (te:=te) (pn:=Sb (aC e.ps) e.pe) (ret:=λs=>RT.ok e.pe (BD (TI.of P) (aC e.ps) fn.results.toList e.rs inn s)) (m:=aC e.ps) (h0:=h) Z K p c _ 1 _ some _ y Q f;have ea:aT h (t++List.replicate (fn.ntmps - e.na) (.tup []))=aT h t++List.replicate (fn.ntmps - e.na) (.tup []):=by rw[sS,qAX,<-sS,<-sS,aCU]
  simp only at a;rw[ea]at a;exact⟨F,M,g,hH,c,_,rfl,a⟩
theorem aFB{P}{te}{θ}{n}{hs}{E}{fn}{e} inn (W:wR P te=true)(N:P.follows .mixedOrders=true)(hf:P.funcs[e.f]? =some fn)(X:kE P e.f=true)(w:M7 e=true)
  (Y:Nat.ble e.na fn.ntmps=true) (Z:e.nr=fn.results.toList.length) (O:∀z y,inn z=some y->e.out y=z) (hE:∀e'∈E,ah P te e') (q:∀x,ajx (TI.of P) θ n hs E te fn e inn x=e.F x):ah P te e:=by
 refine⟨X,w,λx y hF t h hb1=>?_⟩;have hw0:=w;unfold M7 at w;rw[qAb,qAb]at w;obtain⟨⟨_,w⟩,Q⟩:=w;simp only[qAb]at w;obtain⟨edps,D,psok,rsok⟩:=w;obtain⟨j,S,hnb,hH,c,s0,k,a⟩:=aA4 inn W N hw0 Y hE q hF hb1;have H:(aA h).length=aC e.ps:=by rw[aA,qAg,j]
 -- a plain end
 have p:∀(y0:e.R),(∀ex I J,Out (aC e.ps) h te (Sb (aC e.ps) e.pe) (λs=>RT.ok e.pe (BD (TI.of P) (aC e.ps) fn.results.toList e.rs inn s)) s0 some (λx s=>match x with| .normal=>RT.ok e.pe (BD (TI.of P) (aC e.ps) fn.results.toList e.rs inn s)|_=>none) y ex I J->(ex=.normal∨ex=.ret)/\∃M,Le (aC e.ps) I J (aT M.h M.t) (aA M.h)/\St (aC e.ps) h M/\BD (TI.of P) (aC e.ps) fn.results.toList e.rs inn M=some y0)->
   ∀r G,dJ bI e.rs (eD _ (e.out y0)) (dn e.nr) h=(r,G)->cK P e.f (aT h t) (aA h) (av G (res1 r)) (aA G):=λy0 T r G u=>by
  refine az5 hf k (by rw[Cz];omega) ?_ ?_;·have U:=sD e.rs (eD _ (e.out y0)) (aC e.ps) [] [] (dn e.nr) h [] (by rw[JR,qAt]) D (qAd _) j;rw[u]at U;rw[aA,qAg,U.hl];omega
  rw[H,Cz,S];refine a.mono λex I V K=>?_;obtain⟨hx,M,b,d,i⟩:=T ex I V K;obtain⟨t1,h1,xs,k1,k2,k3⟩:=ajV (h:=t) O D j hH Z d i u;rcases hx with rfl|rfl
  ·exact⟨t1,h1,xs,b.trans k1,k2,k3⟩
  exact⟨t1,h1,xs,b.trans k1,k2,k3⟩
 obtain⟨f,na,ps,nr,rs,R,pe,F,out⟩:=e;simp only at *;cases pe with
 |none=>
  refine p y λex I J K=>?_;cases K with
  |ret b d i g=>cases g;exact⟨.inr rfl,_,b,d,i⟩|oO b d i g=>cases i|go b d i g=>
   cases ex with
   |normal=>exact⟨.inl rfl,_,b,d,g⟩|exit id=>cases g|goto l=>cases g|ret=>cases g|panic c=>cases g|outgrown=>cases g
 |some A=>
  simp only[qAb]at Q;obtain⟨_,L,_,_⟩:=Q;have m:∀{o:Option R} {r:RT (some A) R},RT.ok (some A) o=some r->∃y0,o=some y0/\r=PZ.ok y0:=λ{o r} h=>by
   cases o with
   |none=>cases h|some y0=>exact⟨y0,rfl,(Option.some.inj h).symm⟩
  match y,a,p with
  |PZ.ok y0,a,p=>
   refine p y0 λex I J K=>?_;cases K with
   |ret b d i g=>cases g;obtain⟨y1,B,C⟩:=m i;cases C;exact⟨.inr rfl,_,b,d,B⟩
   |oO b d i g=>cases g;obtain⟨z,B,_⟩:=ab1 (r:=[]) (h2:=[]) L j hH d i;cases B
   |go b d i g=>
    cases ex with
    |normal=>obtain⟨y1,B,C⟩:=m g;cases C;exact⟨.inl rfl,_,b,d,B⟩
    |exit id=>cases g|goto l=>cases g|ret=>cases g|panic c=>cases g|outgrown=>cases g
  |PZ.er v z,a,_=>
   show ∀r J,dJ bI A (eD _ z) (dn 0) h=(r,J)->Cy P f (aT h t) (aA h) (BA te v) (aA J);intro r G u;have U:=sD A (eD _ z) (aC ps) [] [] (dn 0) h [] (by rw[JR,qAt]) L (qAd _) j;rw[u]at U;refine ayq hf k (by rw[Cz];omega) (by rw[H,aA,qAg,U.hl];omega) ?_;rw[H,Cz,S];refine a.mono λex I V K=>?_;cases K with
   |ret b d i g=>cases g;obtain⟨y1,B,C⟩:=m i;cases C
   |oO b d i g=>cases g;obtain⟨z',B,C⟩:=ab1 (r:=[]) (h2:=[]) L j hH d i;cases B;exact⟨rfl,_,_,b,C r G u⟩
   |go b d i g=>
    cases ex with
    |normal=>obtain⟨y1,B,C⟩:=m g;cases C
    |exit id=>cases g|goto l=>cases g|ret=>cases g|panic c=>cases g|outgrown=>cases g
end
section
open Go
inductive EOs(P:Program)(te:Nat):List Ent→Prop
 |n:EOs P te []
 |c {e:Ent} {l:List Ent}:ah P te e→EOs P te l→EOs P te (e::l)
theorem EOs.all{P te l}(h:EOs P te l):∀e∈l,ah P te e:=by
 induction h with|n=>intro e a;cases a|c h _ i=>intro e a;rcases qAh.1 a with rfl|a;exact h;exact i e a
noncomputable def akK(P)(fn:Func)e:=kE P e.f&&(M7 e&&(Nat.ble e.na fn.ntmps&&Nat.beq e.nr fn.results.toList.length))
theorem mkE{P te}{τ:Nat->TI}{b}(a:τ=TI.of P)(t:wR P te=true)(m:P.follows .mixedOrders=true){n hs E fn e inn}(c:EOs P te E)(f:P.funcs[e.f]? =some fn)(h:akK P fn e=true)
  (i:∀z y,inn z=some y->e.out y=z) (q:∀x,ajx τ b n hs E te fn e inn x=e.F x):ah P te e:=by unfold akK at h;simp only[qAb]at h;subst a;exact aFB inn t m f h.1 h.2.1 h.2.2.1 (qAj h.2.2.2) i c.all q
theorem iZ{P te fn e}(c:akK P fn e=true)(h:∀x,e.F x=none):ah P te e:=by unfold akK at c;simp at c;exact⟨c.1,c.2.1,λx y f=>by rw[h x]at f;cases f⟩
theorem sm{α:Type}:∀z y:α,some z=some y->y=z:=by grind
end
end Abs
end Go.Proofs.YtneeginmfjageaaGreat
