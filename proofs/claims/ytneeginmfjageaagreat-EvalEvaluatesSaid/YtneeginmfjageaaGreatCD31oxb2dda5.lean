/- A private array that is cut. Conditions: none. -/
import Derived.Test.YtneeginmfjageaaGreatCD21ox07ecd0
set_option linter.all false
namespace Go.Proofs.YtneeginmfjageaaGreat
namespace Abs
def Xo(N:Nat):List Bx:=(List.range N).map some
def alK{N i:Nat}(h:i<N):(Xo N)[i]? =some (some i):=by simp[Xo,h]
def aBx{N i:Nat}(h:N<=i):(Xo N)[i]? =none:=by simp[Xo,h]
def RI{N i:Nat}{o:Bx}(h:(Xo N)[i]? =some o):i<N/\o=some i:=by
 by_cases a:i<N;·rw[alK a]at h;exact⟨a,(Option.some.inj h).symm⟩
 rw[aBx Cl]at h;cases h
def azb{N i b:Nat}(h:i<N):ou (Xo N) b i=i:=by unfold ou;rw[alK h];rfl
def EG(l:Nat):∀(vs:As) (k:Nat),nth .unk (ctT l vs) k=bif wJ l (nth .unk vs k)then nth .unk vs k else .unk|[],k=>by show nth (TV.unk) [] k=bif wJ l (nth TV.unk [] k)then nth TV.unk [] k else TV.unk;rw[mq (qAZ _)];rfl|v::vs,0=>rfl|v::vs,k+1=>EG l vs k
def amu(l:Nat):∀vs:As,(ctT l vs).length=vs.length|[]=>rfl|v::vs=>congrArg (·+1) (amu l vs)
def aCi{l:Nat}(e:ET)(x:e.D):∀v∈Mx e x,wJ l v=true:=by intro v hv;cases e<;>simp only[Mx,qAh]at hv<;>(repeat' (rcases hv with rfl|hv))<;>first|rfl|(subst hv;rfl)
def Y9{l:Nat}:∀{vs:As},qZ l vs=true->∀v∈aK vs,wJ l v=true
 |[],_,v,h=>by cases h
 |x::vs,h,v,hv=>by
  simp only[qZ,qAa]at h;simp only[aK,qAr]at hv;rcases hv with hv|hv
  ·rcases tC x with o|⟨e,y,rfl⟩
   ·rw[wG o,qAK]at hv;subst hv;exact h.1
   exact aCi e y v hv
  exact Y9 h.2 v hv
def LkO(H H':A0)(l:Nat):Prop:=∀j,j≠l->gD j (nth .dead H' j)=gD j (nth .dead H j)/\∀z,eY j z (nth .dead H' j)=eY j z (nth .dead H j)
section
variable {H H':A0}{l:Nat}
def aHF(k:LkO H H' l):Lks bS (ou (Xo H.length) (aB H).length) (Oz l H.length) H H':=by
 have ok:∀j,Oz l H.length j=true->j<H.length/\j≠l:=λj h=>by unfold Oz at h;simp only[qAa]at h;exact⟨qAf h.1,YK h.2⟩
 have nm:∀j,Oz l H.length j=true->ou (Xo H.length) (aB H).length j=j:=λj h=>azb (ok j h).1;refine⟨nm,λj h=>?_,λj z h=>?_⟩;·rw[(k j (ok j h).2).1];show gD j (nth .dead H j)=_;cases nth .dead H j<;>simp only[gD,ren,xu,nV,nm j h]
 rw[(k j (ok j h).2).2 z];show eY j z (nth .dead H j)=_;cases nth .dead H j<;>simp only[eY,ren,nm j h]
def aeb(h:LkO H H' l){v:TV}(a:rfB H.length v=true)(h2:wJ l v=true):VW (aB H) (Xo H.length) (av H' v) (av H v):=by have:=RX (aHF h) v (Yn l H.length v a h2);rw[alx]at this;exact .same this.symm
def aHJ(k:LkO H H' l){v:TV}(a:rfB H.length v=true):VW (aB H) (Xo H.length) (av H' (bif wJ l v then v else .unk)) (av H v):=by cases h:wJ l v with|true=>exact aeb k a h|false=>exact .unk _
end
def ayV{Z:Type}{b:Z}{m l t off:Nat}{s:DS}{K:DS->Option Z}(Q:m<=s.h.length)(hi:Inv s)(h:ctK l t off s K=some b):∃J,K J=some b/\Fr s J/\Inv J/\Le m (aU s.h s.t) (aB s.h) (aU J.h J.t) (aB J.h):=by
 unfold ctK at h;split at h
 ·rename_i e E cs O o;let⟨a,r,y,hf2,h⟩:=CZ _ _ _ _ h;split at h
  ·rename_i f z c r;rw[Yj]at h;let⟨hc,h⟩:=(bD h).resolve_right λh=>by cases h.2
   let⟨R,h⟩:=(bD h).resolve_right λh=>by cases h.2
   rw[ni,ni]at h;simp only[qAa]at hc;let⟨⟨S,q2,q3⟩,q4,q5,T⟩:=hc;have S:f=l:=qAj S;subst S;have U:c<=E.length:=qAf R;have V:f≠t:=λe=>by subst e;rw[O]at o;cases o
   have G:f<s.h.length:=by
    apply qAn;intro C;rw[mq Cl]at O;cases O
   have H:t<s.h.length:=by
    apply qAn;intro C;rw[mq Cl]at o;cases o
   refine⟨_,h,?_,?_,?_⟩
   ·refine⟨amu _ _,by simp,λk w=>?_,λp hp=>?_,rfl,λi hi D=>?_⟩
    ·have w:k∉acL f 0 s.t++s.d:=w;rw[qAr,not_or]at w;refine⟨w.2,?_⟩;show nth .unk (ctT f s.t) k=_;rw[EG,ad8 (j:=0) (by rw[qAL];exact w.1)];rfl
    ·exact qAk _ (qAk _ hp)
    have D:(i,0)∉(f,0)::(t,off+1)::s.o:=D;rw[qAh,not_or]at D;have W:f≠i:=λe=>D.1 (by rw[e]);by_cases M:t=i
    ·subst M;refine .inr ⟨cs,a++ .psl f z none::r,o,by rw[cK (by rw[qAT];exact H)],?_,λq F=>?_⟩
     ·rw[y,zI];simp only[aK,qAe];rfl
     have F:decide ((t,q+1)∈(f,0)::(t,off+1)::s.o)=false:=F;have hqo:q≠off:=λe=>by subst e;simp at F
     rw[y,zI];by_cases A:q<off
     ·rw[qAg Cl,qAg Cl]
     rw[qAl Cl,qAl Cl];simp only[aK,Uv,qAM,qAo];obtain⟨k,w⟩:∃k,q - (aK a).length=k+1:=⟨q - (aK a).length - 1,by omega⟩;rw[w];rfl
    refine .inl ?_;show nth .dead ((s.h.set f _).set t _) i=_;rw[aX M,aX W]
   ·refine⟨λi k a u g=>?_,λd i j u k a g=>?_,λd x u=>?_⟩
    ·have g:oQ (nth .unk (ctT f s.t) i)=some (k,a):=g;rw[EG]at g;refine hi.up i k a u ?_;cases C:wJ f (nth .unk s.t i)<;>rw[C]at g<;>first|exact g|cases g
    ·have g:oQ (nth .unk (ctT f s.t) i)=some (k,a):=g;rw[EG]at g;have N:oQ (nth .unk s.t i)=some (k,a):=by
      cases C:wJ f (nth .unk s.t i)<;>rw[C]at g<;>first|exact g|cases g
     let⟨c,P,g2⟩:=hi.rl d i j u k a N;refine⟨c,?_,λb o=>g2 b ?_⟩
     ·show oQ (nth .unk (ctT f s.t) j)=_;have:wJ f (nth .unk s.t j)=true:=by
       revert P;generalize nth .unk s.t j=v;intro P
       cases v<;>first|rfl|cases P
      rw[EG,this];exact P
     have o:nth .unk (ctT f s.t) d=.lf .b b:=o;rw[EG]at o;cases C:wJ f (nth .unk s.t d)<;>rw[C]at o<;>first|exact o|cases o
    show nth .unk (ctT f s.t) d=nth .unk (ctT f s.t) x;rw[EG,EG,hi.cp d x u]
   have w:LkO s.h ((s.h.set f (.arr e (E.take c))).set t (.box (a++ .psl f z none::r))) f:=λj hj=>by
    by_cases L:t=j
    ·subst L;rw[cK (by rw[qAT];exact H),o];exact⟨rfl,λ_=>rfl⟩
    rw[aX L,aX (qBo hj)];exact⟨rfl,λ_=>rfl⟩
   refine Le.of (Xo s.h.length) ⟨?_,?_,λi hi=>alK Cl,?_,?_,λn=>?_,?_,?_⟩
   ·simp only[Em,amu]
   ·simp[Xo,aB]
   ·intro i j k u g _ _;have:=(RI u).2;have:=(RI g).2
    simp_all
   ·intro i k u;let⟨g,N⟩:=RI u;cases N;simpa[aB]using g
   ·rw[Ez,Ez];show VW _ _ (av _ (nth .unk (ctT f s.t) n)) _;rw[EG];refine aHJ w ?_;by_cases C:n<s.t.length
    ·refine akE q5 _ ?_;rw[jF,List.getD,qAc C];exact qAO C
    rw[mq Cl];rfl
   ·intro i k u;let⟨g,N⟩:=RI u;cases N;rw[kV,kV];show OW _ _ (gV _ (nth .dead ((s.h.set f (.arr e (E.take c))).set t (.box (a++ .psl f z none::r))) i)) _;by_cases L:t=i
    ·subst L;rw[cK (by rw[qAT];exact H),o];have B:=Q5 ((yY T).2 cs o);rw[y]at B;refine YF (by rw[zI,y];simp only[aK,qAe];rfl) λq F=>?_;rw[y,zI];have cell:∀v,v∈aK a∨v∈aK r->VW (aB s.h) (Xo s.h.length) (av ((s.h.set f (.arr e (E.take c))).set t (.box (a++ .psl f z none::r))) v) (av s.h v):=λv hv=>by
      rcases hv with hv|hv
      ·exact aeb w (B v (qBw _ hv)) (Y9 q2 v hv)
      exact aeb w (B v (qBz _ (by simp only[aK,qAr];exact .inr hv))) (Y9 q3 v hv)
     simp only[List.getD];by_cases A:q<(aK a).length
     ·rw[qAg A,qAg A,qAc A];exact cell _ (.inl (qAO A))
     rw[qAl Cl,qAl Cl];simp only[aK,Uv,qAM,qAo];generalize q - (aK a).length=k;cases k with
     |zero=>
      simp only[qAG,qAw];refine .same ?_;simp only[av,aX (qBo V),cK G,eY,ren,azb G,qAz,Nat.min_eq_left U]
     |succ k=>
      simp only[qBp];cases hg:(aK r)[k]? with
      |none=>exact .unk _
      |some v=>exact cell v (.inr (qAF hg))
    rw[aX L];by_cases e3:f=i
    ·subst e3;rw[cK G,O];refine OW.arr (n:=c) ?_;rw[nV,List.map_take]
    rw[aX e3];cases X:nth .dead s.h i with
    |box I=>
     have Y:qZ f I=true:=alz (j:=0) (k:=i) (by
      intro Q;rw[qAL]at Q;have:=qAP.1 q4 _ Q;exact L (qAj this).symm) I X
     have B:=Q5 ((yY T).2 I X);refine YF rfl λq F=>?_;rw[List.getD,qAc F];exact aeb w (B _ (qAO F)) (Y9 Y _ (qAO F))
    |own e E=>exact .tip _
    |gone e E=>exact .dead _
    |mp e E=>exact .same rfl (by simp only[gV,eU,Qo])
    |arr e E=>exact .same rfl (by simp only[gV,eU,nV])
    |gon n=>exact .dead _
    |dead=>exact .dead _
    |res=>exact((yY T).1 X).elim
   intro i u;cases(RI u).2
  cases h
 cases h
def aAQ{c:Type}{b:c}{m:Nat}{n:Option Hn}{s:DS}{K:DS->Option c}(d:m<=s.h.length)(hi:Inv s)(h:fzH m n s K=some b):∃a,K a=some b/\Fr s a/\Inv a/\Le m (aU s.h s.t) (aB s.h) (aU a.h a.t) (aB a.h):=by
 unfold fzH at h;split at h;·exact alO _ _ _ d hi h
 ·exact ayV d hi h
 exact⟨s,h,Fr.refl s,hi,λ_ e _ _ _ f=>⟨e,f⟩⟩
def aHl{c:Type}{b:c}{m:Nat}{n:Option Hn}{s:DS}{K:DS->Option c}(d:m<=s.h.length)(hi:Inv s)(h:fzA m n s K=some b):∃a,K a=some b/\Fr s a/\Inv a/\Le m (aU s.h s.t) (aB s.h) (aU a.h a.t) (aB a.h):=by
 unfold fzA at h;split at h;·exact ayV d hi h
 ·exact alO _ _ _ d hi h
 exact⟨s,h,Fr.refl s,hi,λ_ e _ _ _ f=>⟨e,f⟩⟩
def uf(P:Program)(te:Nat):Bool:=match P.underlying te with|some (.int _)=>true|_=>false
def aD6{P:Program}{o:Oper}{s:ASt}{te:Nat}{e:Int}(h:uf P te=true)(b:o.op=.makeInterface te (.const (.int .i64 e))):zD P o s (s.wr (aA o.dst (.ifc te (.int .i64 e)))):=
 pI λC c a w d=>by
  refine⟨.iface te (.int .i64 e),c,w,?_,d.aA o.dst (.ifc _ _)⟩;unfold uf at h;split at h;·rename_i k f;simp[execOp,b,Instr.makeInterface,underlying,f,Act.eval]
  cases h
def ayq{P:Program}{o:Oper}{s:ASt}{x:Operand}{t:Nat}{v:Value}(c:o.op=.panic x)(d:bL s.tmps x=.ifc t v):OpX P o (.iface t v) s s:=by
 intro C e a w b next Q n
 have r:=b.ev x;rw[d]at r;have f:a.eval x=.iface t v:=by generalize a.eval x=u at r;cases r;rfl
 unfold Oper.wp;have h:(execOp a.eval o).run P w=.halt (.panic (.iface t v)) w:=by simp[execOp,c,f,Instr.panic]
 rw[h];exact n e w b
def aEu{te:Nat}{T:As}{l:List Oper}{e:Int}(h:akZ te T l=some e):∃o a d,d<T.length/\l=[o,a]/\o.op=.makeInterface te (.const (.int .i64 e))/\o.dst=some d/\o.guard=none/\a.op=.panic (.tmp d)/\a.dst=none/\a.guard=none:=by
 unfold akZ at h;split at h
 ·rename_i o a;split at h
  ·rename_i t p d b f g;split at h
   ·rename_i q i j k;rcases bD h with⟨c,h⟩|⟨_,h⟩
    ·cases h;simp only[qAa]at c;have m:=qAj c.1;have n:=qAj c.2.1;subst m;subst n;exact⟨o,a,d,qAf c.2.2,rfl,b,f,g,i,j,k⟩
    cases h
   cases h
  cases h
 cases h
def aCF{P:Program}{te m id:Nat}{l:List Oper}{e:Int}{Q:QT}{t:An}{h:A6}(f:uf P te=true){T:As}(p:akZ te T l=some e)(F:t.length=T.length)(q:∀t',Q (qd (Cz te e)) t' h):AW P m (.region id l.toArray false) Q t h:=by
 let⟨b,c,d,r,u,v,x,y,z,G,A⟩:=aEu p;subst u;intro C B a w H D;have g:eG [b,c].toArray t b=some true:=by unfold eG;rw[y]
 have i:eG [b,c].toArray (t.set d (.ifc te (.int .i64 e))) c=some true:=by unfold eG;rw[A]
 have j:zD P b ⟨t,h⟩ ⟨t.set d (.ifc te (.int .i64 e)),h⟩:=by have:=aD6 (P:=P) (o:=b) (s:=⟨t,h⟩) f v;rw[x]at this;exact this
 have E:bL (t.set d (.ifc te (.int .i64 e))) (.tmp d)=.ifc te (.int .i64 e):=by
  show(t.set d _).getD d .unk=_
  grind
 refine wp_region_lit (Qg (l1:=[b]) (op:=c) (l2:=[]) (.cons (.inl ⟨g,j⟩) (.nil _)) i (ayq z E) C B a w D λk I J n=>⟨⟨t.set d (.ifc te (.int .i64 e)),h⟩,k,q _,n⟩)
inductive Out{R γ:Type}(m:Nat)(h0:A0)(te:Nat)(pn:Int→DS→Option R)(ret:DS→Option R)(s:DS)(inj:R→Option γ)(k:Exit→DS→Option γ)(b:γ):QT
 |ret {s':DS} {r:R} {t:An} {h:A6}:Le m t h (aU s'.h s'.t) (aB s'.h)→St m h0 s'→ret s'=some r→inj r=some b→Out m h0 te pn ret s inj k b .ret t h
 |qd {s':DS} {r:R} {v:Int} {t T:An} {h:A6}:Le m t h T (aB s'.h)→St m h0 s'→pn v s'=some r→inj r=some b→Out m h0 te pn ret s inj k b (qd (Cz te v)) t h
 |go {e:Exit} {s':DS} {t:An} {h:A6}:Le m t h (aU s'.h s'.t) (aB s'.h)→St m h0 s'→Fr s s'→k e s'=some b→Out m h0 te pn ret s inj k b e t h
def Le.refl(m:Nat)(t:An)(h:A6):Le m t h t h:=λ_ a _ _ _ s=>⟨a,s⟩
section
variable {P:Program}{E:B6}{θ:Nat→B8}{n:Nat}{R:Type}{hs:List (Nat×Hn)}{ret:DS→Option R}{m:Nat}{h0:A0}{te:Nat}{pn:Int→DS→Option R}
def Snd(P:Program)(E:B6)(θ:Nat->B8)(n:Nat)(R:Type)(hs:List (Nat×Hn))(te:Nat)(pn:Int->DS->Option R)(ret:DS->Option R)(m:Nat)(h0:A0)(code:Code):Prop:=
 ∀(a:Type) (p:Nat) (s:DS) (i:R->Option a) (k:Exit->DS->Option a) (b:a),St m h0 s->exe ⟨TI.of P,θ,n,R,hs,m,te,pn⟩ E ret code a p s i k=some b->AW P m code (Out m h0 te pn ret s i k b) (aU s.h s.t) (aB s.h)
def agR{g:Type}{s s1:DS}{i:R->Option g}{k:Exit->DS->Option g}{b:g}(j:Fr s s1)(e:Exit)(t:An)(h:A6)(o:Out m h0 te pn ret s1 i k b e t h):Out m h0 te pn ret s i k b e t h:=by cases o with|ret a c d f=>exact .ret a c d f|qd a c d f=>exact .qd a c d f|go a c d f=>exact .go a c (j.trans d) f
theorem axJ(hE:∀e∈E,ah P te e)(hte:uf P te=true)(hmix:P.follows .mixedOrders=true)(id:Nat)(ops:Array Oper)(draw:Bool):Snd P E θ n R hs te pn ret m h0 (.region id ops draw):=by
 intro γ p s inj k b hst h;have h:(fzH m (hint hs p) s fun s=>match akZ te s.t ops.toList with
   |some e=>bif draw then none else(pn e s).bind inj
   |none=>Jk s.h 0 fun n'=>XQ (TI.of P) θ E (fun v s=>bif draw then none else(pn v s).bind inj) ops.toList ops.toList n' [] {s with h:=s.h++y8 (zT ops.toList)} fun es s=>bif !draw ||ng ops.toList es then ai7 s.h n' fun h=>fzA m (hint hs p) {s with h:=h} fun s=>k .normal s else none)=some b:=h
 let⟨sz,h,fz1,fz2,fz3⟩:=aAQ hst.len hst.inv h;refine AW.le fz3 ((?_:AW P m (.region id ops draw) (Out m h0 te pn ret sz inj k b) (aU sz.h sz.t) (aB sz.h)).mono (agR fz1));replace hst:=hst.step fz1 fz2;clear fz1 fz2 fz3
 revert h hst
 generalize sz=s;intro h hst;let⟨l⟩:=ops;cases hpr:akZ te s.t l with
 |some e=>
  have h:(bif draw then none else(pn e s).bind inj)=some b:=by simpa only[hpr]using h
  cases draw with
  |true=>cases h
  |false=>
   let⟨r,h1,h2⟩:=ob h;refine aCF hte hpr (Em _ _) fun t'=>?_;exact .qd (Le.refl _ _ _) hst h1 h2
 |none=>
  have h:(Jk s.h 0 fun n'=>XQ (TI.of P) θ E (fun v s=>bif draw then none else(pn v s).bind inj) l l n' [] {s with h:=s.h++y8 (zT l)} fun es s=>bif !draw ||ng l es then ai7 s.h n' fun h=>fzA m (hint hs p) {s with h:=h} fun s=>k .normal s else none)=some b:=by simpa only[hpr]using h
  rw[Yj]at h;have hres:iX {s with h:=s.h++y8 (zT l)}=(iX s).reserve (zT l):=by
   unfold iX ASt.reserve;simp only[ali,agL]
  rcases ale hE l _ _ _ _ (show Inv {s with h:=s.h++y8 (zT l)}from⟨hst.inv.up,hst.inv.rl,hst.inv.cp⟩) h with⟨es',res,s',g1,g2,g3,g4,g5,g6⟩|⟨l1,op,l2,s1,s',c,g0,g1,g2,g3,g4,g5,g6,g7⟩
  ·simp only[List.reverse_nil,qAo]at g2;let⟨hok,g2⟩:=(bD g2).resolve_right fun h=>by cases h.2
   let⟨hh,c,t1,t2,t3⟩:=ag0 _ _ _ g2;have hlen:s'.h.length=s.h.length+(y8 (zT l)).length:=by rw[g6];simp only[qAe]
   have hle:s.h.length≤hh.length:=t2 Cl;have hfr:Fr s {s' with h:=hh}:=by
    refine⟨g4.tl,hle,g4.d,g4.om,g4.oo,fun l' hl hno=>?_⟩;have:=g4.o l' (by simp only[qAe];omega) hno;rw[rA hl]at this;rw[t1,rA Cl]at this;exact this
   have hq:Out m h0 te pn ret s inj k b .normal (iX s').tmps (iX s').heap:=by
    have hst2:=hst.step hfr ⟨g5.up,g5.rl,g5.cp⟩;let⟨sz,z1,z2,z3,z4⟩:=aHl hst2.len hst2.inv t3;refine .go (s':=sz) ?_ (hst2.step z2 z3) (hfr.trans z2) z1;refine Le.trans ?_ z4;simp only[iX,t1,ali,agL];exact auK _ _ c
   rw[hres]at g1;refine AW.of ?_;cases draw with
   |false=>exact dK.region (l:=l) (s:=iX s) _ g1.steps hq
   |true=>exact dK.drawn (l:=l) (s:=iX s) _ hmix g1 (by rw[←axR g3];simpa using hok) hq
  cases draw with
  |true=>cases g4
  |false=>
   have g4:(pn c s').bind inj=some b:=g4;let⟨r,k1,k2⟩:=ob g4;rw[hres]at g1;have hsl:s.h.length≤s'.h.length:=by rw[g7];simp only[qAe];omega
   have hst':St m h0 s':=by
    refine⟨g6,qAs hst.len hsl,fun l' hl hno=>?_⟩;rw[g5.oo]at hno⊢;have hno:(l',0)∉s'.o++s.oo:=hno;simp only[qAr,not_or]at hno;have hl2:l'<s.h.length:=qAB hl hst.len;have e1:=g5.o l' (by simp only[qAe];omega) hno.1;rw[rA hl2]at e1;refine Kw.trans (h:=hst.ent l' hl ?_) (e1.mono (g:=fun q=>decide ((l',q+1)∈s'.o++s.oo)) fun q hq=>?_) fun q hq=>?_
    ·simp only[qAr,not_or];exact⟨fun hm=>hno.1 (g5.om _ hm),hno.2⟩
    ·simp only[decide_eq_false_iff_not,qAr,not_or]at hq⊢;exact hq.1
    simp only[decide_eq_false_iff_not,qAr,not_or]at hq⊢;exact⟨fun hm=>hq.1 (g5.om _ hm),hq.2⟩
   subst g0;intro C κ a w hk hs;exact wp_region_lit (Qg g1 g2 g3 C _ a w (hs.reserve (zT (l1++op::l2))) fun κ' a' w' hs'=>⟨iX s',κ',.qd (Le.refl _ _ _) hst' k1 k2,hs'⟩)
theorem aEB{x y:Code}(hx:Snd P E θ n R hs te pn ret m h0 x)(hy:Snd P E θ n R hs te pn ret m h0 y):Snd P E θ n R hs te pn ret m h0 (.seq x y):=by
 intro γ p s inj k b hst h;have stJ:∀{eds:Be} (hw:fO s.h.length [] [] eds=true) (z:jI (bM eds)),St m h0 (qO (pG x) eds s (fF _ z)):=fun hw z=>hst.step (Qn hw z) (af8 hw z hst.inv);have stF:St m h0 (fresh s):=⟨⟨hst.inv.up,hst.inv.rl,hst.inv.cp⟩,hst.len,by
  intro l hl hno;exact hst.ent l hl (by simpa[fresh]using hno) |>.mono fun q hq=>by simpa[fresh]using hq⟩
 have plain:(exe ⟨TI.of P,θ,n,R,hs,m,te,pn⟩ E ret x γ (2*p) s inj fun e s=>match e with
    | .normal=>exe ⟨TI.of P,θ,n,R,hs,m,te,pn⟩ E ret y γ (2*p+1) s inj k
    |e=>k e s)=some b→AW P m (.seq x y) (Out m h0 te pn ret s inj k b) (aU s.h s.t) (aB s.h):=fun h=>by
  refine AW.seq ((hx γ _ s inj _ b hst h).mono fun e t hh ho=>?_);cases ho with
  |ret h1 h2 h3 h4=>exact .ret h1 h2 h3 h4
  |qd h1 h2 h3 h4=>exact .qd h1 h2 h3 h4
  |@go _ s' _ _ h1 h2 h3 h4=>
   cases e with
   |normal=>exact AW.le h1 ((hy γ _ s' inj k b h2 h4).mono (agR h3))
   |exit id=>exact .go h1 h2 h3 h4
   |goto l=>exact .go h1 h2 h3 h4
   |ret=>exact .go h1 h2 h3 h4
   |panic c=>exact .go h1 h2 h3 h4
   |outgrown=>exact .go h1 h2 h3 h4
 have behind:∀{eds:Be} (hw:fO s.h.length [] [] eds=true) (z:jI (bM eds)),exe ⟨TI.of P,θ,n,R,hs,m,te,pn⟩ E ret y γ (2*p+1) (qO (pG x) eds s (fF _ z)) inj k=some b→∀t hh,Le m t hh (aU (qO (pG x) eds s (fF _ z)).h (qO (pG x) eds s (fF _ z)).t) (aB (qO (pG x) eds s (fF _ z)).h)→AW P m y (Out m h0 te pn ret s inj k b) t hh:=
  fun hw z h4 t hh hle=>AW.le hle ((hy γ _ _ inj k b (stJ hw z) h4).mono (agR (Qn hw z)))
 have h:(match hint hs p with
   |some (.jn eds true)=>F6 eds s <| Option.bind (exe ⟨TI.of P,θ,n,R,hs,m,te,pn⟩ E ret x (LR (jI (bM eds)) R) (2*p) (fresh s) (fun r=>some (.rt r)) fun e s'=>match e with
     | .normal=>Jv (pG x) eds s s' fun us=>AJ (bM eds) us fun x=>some (.nx x)
     |_=>none) (LR.el (fun z=>Li (pG x) eds s (fF (bM eds) z) fun s=>exe ⟨TI.of P,θ,n,R,hs,m,te,pn⟩ E ret y γ (2*p+1) s inj k) (fun r=>inj r))
   |some (.jn eds false)=>F6 eds s <| Option.bind (exe ⟨TI.of P,θ,n,R,hs,m,te,pn⟩ E ret x (jI (bM eds)) (2*p) (fresh s) (fun _=>none) fun e s'=>match e with
     | .normal=>Jv (pG x) eds s s' fun us=>AJ (bM eds) us fun x=>some x
     |_=>none) fun z=>Li (pG x) eds s (fF (bM eds) z) fun s=>exe ⟨TI.of P,θ,n,R,hs,m,te,pn⟩ E ret y γ (2*p+1) s inj k
   |_=>exe ⟨TI.of P,θ,n,R,hs,m,te,pn⟩ E ret x γ (2*p) s inj fun e s=>match e with
    | .normal=>exe ⟨TI.of P,θ,n,R,hs,m,te,pn⟩ E ret y γ (2*p+1) s inj k
    |e=>k e s)=some b:=h
 split at h
 ·rename_i eds _;let⟨⟨w1,w2,w3⟩,h⟩:=Tz h;let⟨res,h1,h2⟩:=ob h;refine AW.seq ((hx _ _ (fresh s) _ _ res stF h1).mono fun e t hh ho=>?_);cases ho with
  |ret g1 g2 g3 g4=>cases g4;exact .ret g1 g2 g3 h2
  |qd g1 g2 g3 g4=>cases g4;exact .qd g1 g2 g3 h2
  |@go _ s' _ _ g1 g2 g3 g4=>
   cases e with
   |normal=>
    let⟨z,z1,z2⟩:=VX hst.len w1 w2 w3 g3 g4;cases z1;have h2:(Li (pG x) eds s (fF (bM eds) z) fun s=>exe ⟨TI.of P,θ,n,R,hs,m,te,pn⟩ E ret y γ (2*p+1) s inj k)=some b:=h2;rw[adJ]at h2;exact behind w3 z h2 t hh (g1.trans z2)
   |exit id=>cases g4
   |goto l=>cases g4
   |ret=>cases g4
   |panic c=>cases g4
   |outgrown=>cases g4
 ·rename_i eds _;let⟨⟨w1,w2,w3⟩,h⟩:=Tz h;let⟨res,h1,h2⟩:=ob h;refine AW.seq ((hx _ _ (fresh s) _ _ res stF h1).mono fun e t hh ho=>?_);cases ho with
  |ret g1 g2 g3 g4=>cases g4
  |qd g1 g2 g3 g4=>cases g4
  |@go _ s' _ _ g1 g2 g3 g4=>
   cases e with
   |normal=>
    let⟨z,z1,z2⟩:=VX hst.len w1 w2 w3 g3 g4;have e1:res=z:=(Option.some.inj z1).symm;rw[e1,adJ]at h2;exact behind w3 z h2 t hh (g1.trans z2)
   |exit id=>cases g4
   |goto l=>cases g4
   |ret=>cases g4
   |panic c=>cases g4
   |outgrown=>cases g4
 grind
def aBH{x:Code}(hx:Snd P E θ n R hs te pn ret m h0 x):Snd P E θ n R hs te pn ret m h0 (.loop x):=by
 intro γ p s N k b a h;have h:(match hint hs p with
   |some (.lp d e f)=>F6 d s <| F6 f s <| Jv (pG x) d s (fresh s) λu=>AJ (bM d) u λO=>
     Option.bind (aL (δ:=LR (jI (bM f)) R) (λi z=>Li (pG x) d (fresh s) (fF (bM d) z) λQ=>exe ⟨TI.of P,θ,n,R,hs,m,te,pn⟩ E ret x (LR (jI (bM f)) R) (2*p) Q (λr=>some (.rt r)) λD j=>match D with
      | .normal=>Jv (pG x) d s j λu=>AJ (bM d) u i
      | .exit id=>bif Nat.beq id e then Jv (pG x) f s j λu=>AJ (bM f) u λy=>some (.nx y)else none
      |_=>none) n O) (LR.el (λy=>Li (pG x) f s (fF (bM f) y) λs=>k (.exit e) s) (λr=>N r))
   |_=>none)=some b:=h
 split at h
 case h_2=>cases h
 rename_i d e f _;let⟨⟨S,T,F⟩,h⟩:=Tz h;let⟨⟨_,_,L⟩,h⟩:=Tz h;have G:St m h0 (fresh s):=⟨⟨a.inv.up,a.inv.rl,a.inv.cp⟩,a.len,by
  intro l hl U;exact a.ent l hl (by simpa[fresh]using U) |>.mono λq hq=>by simpa[fresh]using hq⟩
 let⟨O,h1,H⟩:=VX a.len S T F (Fr.refl (fresh s)) h;let⟨v,Z,B⟩:=ob h1;generalize o:(λ(i:jI (bM d)->Option (LR (jI (bM f)) R)) (z:jI (bM d))=>Li (pG x) d (fresh s) (fF (bM d) z) λQ=>exe ⟨TI.of P,θ,n,R,hs,m,te,pn⟩ E ret x (LR (jI (bM f)) R) (2*p) Q (λr=>some (.rt r)) λD j=>match D with
      | .normal=>Jv (pG x) d s j λu=>AJ (bM d) u i
      | .exit id=>bif Nat.beq id e then Jv (pG x) f s j λu=>AJ (bM f) u λy=>some (.nx y)else none
      |_=>none)=body at Z
 let J:jI (bM d)->DS:=λz=>qO (pG x) d (fresh s) (fF _ z)
 have Jav:∀z,aU (J z).h (J z).t=aU (qO (pG x) d s (fF _ z)).h (qO (pG x) d s (fF _ z)).t/\aB (J z).h=aB (qO (pG x) d s (fF _ z)).h:=λz=>⟨rfl,rfl⟩;refine AW.loop (λc t hh=>∃z,aL body c z=some v/\Le m t hh (aU (J z).h (J z).t) (aB (J z).h)) (n:=n) ⟨O,Z,H⟩ ?_;rintro c t hh ⟨z,w,V⟩;cases c with
 |zero=>cases w
 |succ c=>
  have w:body (aL body c) z=some v:=w;rw[<-o]at w;simp only at w;rw[o,adJ]at w;have W:St m h0 (J z):=G.step (Qn (s:=fresh s) F z) (af8 (s:=fresh s) F z G.inv);refine AW.le V ((hx _ _ (J z) _ _ v W w).mono λD t' hh' ho=>?_);cases ho with
  |ret C M I g=>cases g;exact .ret C M I B
  |qd C M I g=>cases g;exact .qd C M I B
  |@go _ j _ _ C M I g=>
   have K:Fr (fresh s) j:=(Qn (s:=fresh s) F z).trans I;cases D with
   |normal=>
    let⟨z',X,Y⟩:=VX a.len S T F K g;exact⟨c,Nat.lt_succ_self c,z',X,C.trans Y⟩
   |exit id=>
    simp only at g;let⟨A,g5⟩:=(bD g).resolve_right λh=>by cases h.2
    have A:=qAj A;clear g;subst A;let⟨y,X,Y⟩:=VX a.len S T L K g5;cases X;have B:(Li (pG x) f s (fF (bM f) y) λs=>k (.exit id) s)=some b:=B;rw[adJ]at B;exact .go (C.trans Y) (a.step (Qn L y) (af8 L y a.inv)) (Qn L y) B
   |goto l=>cases g
   |ret=>cases g
   |panic c=>cases g
   |outgrown=>cases g
theorem WL(hE:∀e∈E,ah P te e)(hte:uf P te=true)(hmix:P.follows .mixedOrders=true)(code:Code):Snd P E θ n R hs te pn ret m h0 code:=by
 induction code with
 |skip=>intro γ p s inj k b hst h;exact AW.skip (.go (Le.refl _ _ _) hst (Fr.refl s) h)
 |region id ops draw=>exact axJ hE hte hmix id ops draw
 |seq x y hx hy=>exact aEB hx hy
 |cond c x y hx hy=>
  intro γ p s inj k b hst h;have h:(match gq s.t c with
   | .lf .b b=>_root_.cond b (exe ⟨TI.of P,θ,n,R,hs,m,te,pn⟩ E ret x γ (2*p) (OC c s) inj k) (exe ⟨TI.of P,θ,n,R,hs,m,te,pn⟩ E ret y γ (2*p+1) s inj k)
   |_=>none)=some b:=h
  split at h
  ·rename_i q hq;refine AW.vf fun hv=>AW.cond (b:=q) (by rw[bZ,hq];rfl) (fun e=>?_) fun e=>?_
   ·subst e;let⟨e1,e2,e3,e4,e5,_⟩:=amP c s;have hi:=aA0 hst.inv hq hv;have:=hx γ _ (OC c s) inj k b ⟨hi,by rw[e2];exact hst.len,by rw[e4,e5,e2];exact hst.ent⟩ h;rw[e1,e2]at this;exact this.mono fun e t hh ho=>by
     cases ho with
     |ret h1 h2 h3 h4=>exact .ret h1 h2 h3 h4
     |qd h1 h2 h3 h4=>exact .qd h1 h2 h3 h4
     |go h1 h2 h3 h4=>exact .go h1 h2 (aD9 h3 e1 e2 e3 e4 e5) h4
   subst e;exact hy γ _ s inj k b hst h
  cases h
 |block id x hx=>
  intro γ p s inj k b hst h;refine AW.block ((hx γ (2*p) s inj _ b hst h).mono fun e t hh ho=>?_);cases ho with
  |ret h1 h2 h3 h4=>exact .ret h1 h2 h3 h4
  |qd h1 h2 h3 h4=>exact .qd h1 h2 h3 h4
  |@go _ s' _ _ h1 h2 h3 h4=>
   cases e with
   |exit id'=>
    have h4:(bif Nat.beq id' id then k .normal s' else k (.exit id') s')=some b:=h4;refine aAB (fun he=>?_) fun he=>?_
    ·have he:id'=id:=by simpa using he
     subst he;rw[o9,cond_true]at h4;exact .go h1 h2 h3 h4
    have he:id'≠id:=by simpa using he
    have hb:Nat.beq id' id=false:=by
     cases hb:Nat.beq id' id with
     |false=>rfl
     |true=>exact(he (qAj hb)).elim
    rw[hb,cond_false]at h4;exact .go h1 h2 h3 h4
   |normal=>exact .go h1 h2 h3 h4
   |goto l=>exact .go h1 h2 h3 h4
   |ret=>exact .go h1 h2 h3 h4
   |panic c=>exact .go h1 h2 h3 h4
   |outgrown=>exact .go h1 h2 h3 h4
 |loop x hx=>exact aBH hx
 |exit id=>intro γ p s inj k b hst h;exact AW.exit (.go (Le.refl _ _ _) hst (Fr.refl s) h)
 |ret=>
  intro γ p s inj k b hst h;let⟨sz,h,fz1,fz2,fz3⟩:=aAQ hst.len hst.inv h;let⟨r,h1,h2⟩:=ob h;exact AW.le fz3 (AW.ret (.ret (Le.refl _ _ _) (hst.step fz1 fz2) h1 h2))
 |_=>intro γ p s inj k b hst h;cases h
end
def BQ(P:Program)(r:List ResultVar)(m:Nat)(T:As)(j:A0)(t:An)(h:A6):Prop:=
 ∃b a x,Le m t h b a/\yZ P ⟨b,a⟩ r=some x/\Le m x a (aU j T) (aB j)
def asq(P:Program)(r:List ResultVar)(m:Nat)(T:As)(j:A0):QT| .normal,t,h=>BQ P r m T j t h| .ret,t,h=>BQ P r m T j t h|_,_,_=>False
def apS{P:Program}{f:Nat}{fn:Func}{c:Code}{args:An}{H:A6}{T:As}{j:A0}(hf:P.funcs[f]? =some fn)(E:fn.body=some c)(W:args.length<=fn.ntmps)(K:H.length<=j.length)
  (h:AW P H.length c (asq P fn.results.toList H.length T j) (args++List.replicate (fn.ntmps - args.length) (.tup [])) H):eH P f args H (av j (res1 T)) (aB j):=by
 intro q ak w r i L hr
 let C:Ctx:={ak:=ak,old:=λb=>b<w.heap.size/\∀l,at? q l=some b->¬live (obj? H l),w0:=w,k0:=q,pvE:=aH ak q H}
 refine calls_of_wp hf E ?_;have F:Sim C q ⟨args++List.replicate (fn.ntmps - args.length) (.tup []),H⟩ {tmps:=r.toArray++Array.replicate (fn.ntmps - r.toArray.size) undef,defers:=[]} w:=by
  refine⟨rfl,by simp[L],?_,i.klen,dL.refl _,i.resv,i.obj,i.apart,λl b p M ho=>ho.2 l p M,i.bound,λb o h=>⟨i.pvlt b o h,λl hl=>i.pvdis b o l h hl⟩,λb E=>E.1,λ_ _=>rfl,rfl,rfl,rfl,qAd _,λ_ _ h _=>h,Evo.refl _ _⟩;intro n G;simp only[qAe,qBv]at G;by_cases y:n<args.length
  ·have X:(args++List.replicate (fn.ntmps - args.length) (AV.tup [])).getD n .unk=args.getD n .unk:=by simp[List.getD,qAg y]
   have Y:(r.toArray++Array.replicate (fn.ntmps - r.toArray.size) undef).getD n undef=r.getD n undef:=by
    simp_all
   grind
  have X:(args++List.replicate (fn.ntmps - args.length) (AV.tup [])).getD n .unk=.tup []:=by
   grind
  have Y:(r.toArray++Array.replicate (fn.ntmps - r.toArray.size) undef).getD n undef=undef:=by
   rw[qAq,qBQ Cp,qDn];split<;>rfl
  rw[X,Y];exact lK
 have z:C.k0.length<=H.length:=qBm i.klen;refine wp_mono (h C q _ w z F) ?_;rintro e a m ⟨s,N,D,hs⟩;have I:BQ P fn.results.toList H.length T j s.tmps s.heap->a.defers=[]/\∃v,(results fn a.tmps).run P m=.ok v m/\∃Z g,Ending.returned v=.returned Z/\Leave q g ak H (aB j) w m/\Rel m g (aH ak g (aB j)) (av j (res1 T)) Z:=by
  rintro⟨t1,p,xs,q1,q2,q3⟩;let⟨J,A⟩:=q1 C N a m z hs;let⟨B,u1,u2,u3⟩:=MS A _ _ q2;have O:Sim C J ⟨xs,p⟩ {tmps:=B.toArray,defers:=a.defers} m:={A with
   len:=by simp[u1]
   slot:=λn G=>by have:=u2 n G;simpa[qAq,List.getD]using this}
  let⟨g,d⟩:=q3 C J _ m z O;have k:Leave q g ak H (aB j) w m:=by
   refine⟨d.klen,by simp only[aB,qAi];exact K,d.kext,d.resv,d.obj,?_,d.apart,d.bound,λb E Q=>d.old b ⟨E,Q⟩,d.ny,d.pvsub,d.os,d.tape,d.output⟩;intro l b p M;have R:=d.own l b p M;by_cases y:b<w.heap.size
   ·right;apply qAn;intro S;exact R ⟨y,λl0 h0 U=>S ⟨l0,h0,U⟩⟩
   left;omega
  have V:B.length=(aU j T).length:=by have:=d.len;simpa using this
  have t:∀n,n<(aU j T).length->Rel m g (aH ak g (aB j)) ((aU j T).getD n .unk) (B.getD n undef):=λn G=>by
   have:=d.slot n G;simpa[qAq,List.getD]using this
  refine⟨A.defers,?_⟩;have hm:(fn.results.mapM (Vf a.tmps)).run P m=.ok B.toArray m:=by
   rw[qCp];simp only[Sem.run_map,u3,Result.andThen_ok]
  rw[PI];simp only[Sem.run_bind,hm,Result.andThen_ok,Sem.run_pure];by_cases p:B.length=1
  ·match B,p with
   |[u],_=>
    match T,V with
    |[x],_=>
     refine⟨u,by simp,u,g,rfl,k,?_⟩;have:=t 0 (by simp[aU]);simpa[aU,res1]using this
  refine⟨.tuple B.toArray,by simp[p],_,g,rfl,k,?_⟩;have hx:av j (res1 T)=.tup (aU j T):=by
   match T,V with
   |[],_=>rfl
   |[x],h=>exact(p (by simpa[aU]using h)).elim
   |_::_::_,_=>rfl
  rw[hx];exact .tup V t
 cases e with
 |normal=>exact I D
 |ret=>exact I D
 |exit id=>exact D.elim
 |goto l=>exact D.elim
 |panic c=>exact D.elim
 |outgrown=>exact D.elim
def aC2(v:Value)(m:Nat)(H':A6):QT:=λe t h=>e=qd v/\∃b a,Le m t h b a/\Le m [] a [] H'
def azr{P:Program}{f:Nat}{fn:Func}{c:Code}{args:An}{H H':A6}{v:Value}(L:P.funcs[f]? =some fn)(j:fn.body=some c)(I:args.length<=fn.ntmps)(u:H.length<=H'.length)
  (h:AW P H.length c (aC2 v H.length H') (args++List.replicate (fn.ntmps - args.length) (.tup [])) H):Ej P f args H v H':=by
 intro m ak w i g x U
 let C:Ctx:={ak:=ak,old:=λb=>b<w.heap.size/\∀l,at? m l=some b->¬live (obj? H l),w0:=w,k0:=m,pvE:=aH ak m H}
 refine calls_of_wp L j ?_;have p:Sim C m ⟨args++List.replicate (fn.ntmps - args.length) (.tup []),H⟩ {tmps:=i.toArray++Array.replicate (fn.ntmps - i.toArray.size) undef,defers:=[]} w:=by
  refine⟨rfl,by simp[x],?_,g.klen,dL.refl _,g.resv,g.obj,g.apart,λl b q y M=>M.2 l q y,g.bound,λb o h=>⟨g.pvlt b o h,λl N=>g.pvdis b o l h N⟩,λb j=>j.1,λ_ _=>rfl,rfl,rfl,rfl,qAd _,λ_ _ h _=>h,Evo.refl _ _⟩;intro n z;simp only[qAe,qBv]at z;by_cases A:n<args.length
  ·have J:(args++List.replicate (fn.ntmps - args.length) (AV.tup [])).getD n .unk=args.getD n .unk:=by simp[List.getD,qAg A]
   have K:(i.toArray++Array.replicate (fn.ntmps - i.toArray.size) undef).getD n undef=i.getD n undef:=by
    simp_all
   grind
  have J:(args++List.replicate (fn.ntmps - args.length) (AV.tup [])).getD n .unk=.tup []:=by
   grind
  have K:(i.toArray++Array.replicate (fn.ntmps - i.toArray.size) undef).getD n undef=undef:=by
   rw[qAq,qBQ Cp,qDn];split<;>rfl
  rw[J,K];exact lK
 have k:C.k0.length<=H.length:=qBm g.klen;refine wp_mono (h C m _ w k p) ?_;rintro e a B ⟨s,D,⟨O,V,q,Q,R⟩,S⟩;let⟨r,t⟩:=Q C D a B k S;have E:Sim C r ⟨[],q⟩ {tmps:=#[],defers:=a.defers} B:={t with
  len:=rfl
  slot:=λn z=>by cases z}
 let⟨F,d⟩:=R C r _ B k E;subst O;refine⟨t.defers,F,rfl,?_⟩;refine⟨d.klen,u,d.kext,d.resv,d.obj,?_,d.apart,d.bound,λb j G=>d.old b ⟨j,G⟩,d.ny,d.pvsub,d.os,d.tape,d.output⟩;intro l b q y;have T:=d.own l b q y
 grind
def agx{P:Program}{i:Type}{b:i}{s:DS}:∀(d:List ResultVar) (K:As->Option i),ajD (TI.of P) s d K=some b->∃c,yZ P (iX s) d=some (aU s.h c)/\c.length=d.length/\K c=some b
 |[],K,h=>⟨[],rfl,rfl,h⟩
 | .tmp t::r,K,h=>by
  let⟨c,e,f,g⟩:=agx r _ h;exact⟨nth .unk s.t t::c,by
   show(yZ P (iX s) r).map _=_;rw[e,qAx];show some ((iX s).tmps.getD t .unk::aU s.h c)=some (av s.h (nth .unk s.t t)::aU s.h c);rw[show(iX s).tmps.getD t .unk=av s.h (nth .unk s.t t)from Ez _ _ _],by simp[f],g⟩
 | .cell a t::r,K,h=>by
  simp only[ajD]at h;split at h
  ·rename_i l o j;split at h
   ·rename_i k m;let⟨v,n,p⟩:=abC (H:=s.h) h;let⟨c,e,f,g⟩:=agx r _ p;refine⟨v::c,?_,by simp[f],g⟩;have q:(iX s).tmps.getD a .unk=.ptr l o:=by rw[show(iX s).tmps.getD a .unk=av s.h (nth .unk s.t a)from Ez _ _ _,j];rfl
    have u:obj? (iX s).heap l=.box (bq s.h k):=by rw[show obj? (iX s).heap l=gV s.h (nth .dead s.h l)from kV _ _,m];rfl
    simp only[yZ,q,u,n,e,qAx,aU]
   cases h
  cases h
def au0{l:A5}:∀{n:Nat},axC l n=true->∀k,k<n->k∈l
 |0,_,k,h=>by omega
 |n+1,h,k,a=>by
  simp only[axC,qAa]at h;by_cases e:k=n
  ·subst e;exact mem_iff.1 h.1
  exact au0 h.2 k Cl
mutual
theorem aJF(n:Nat):∀v,Kt (fun l=>Nat.blt l n) v=rfB n v
 | .ptr _ _=>rfl| .mapr _=>rfl| .own _=>rfl| .psl _ _ _=>rfl| .ap _ _ _ _=>rfl
 | .eptr cs=>Xu n cs
 | .agg cs=>Xu n cs
 | .tup cs=>Xu n cs
 | .func _ cs=>Xu n cs
 | .unk=>rfl| .nilp=>rfl| .nilF=>rfl| .nils=>rfl| .lf _ _=>rfl| .nat _=>rfl
theorem Xu(n:Nat):∀vs,oF (fun l=>Nat.blt l n) vs=jw n vs
 |[]=>rfl
 |v::vs=>by simp only[oF,jw,aJF n v,Xu n vs]
end
def aAI{n:Nat}:∀{h:A0},(∀l,nth .dead h l≠ .res/\∀cs,nth .dead h l=.box cs->jw n cs=true)->Ji n h=true
 |[],_=>rfl
 |o::h,k=>by
  simp only[Ji,qAa];refine⟨?_,aAI λl=>k (l+1)⟩;have:=k 0;change o≠ .res/\∀cs,o=.box cs->jw n cs=true at this
  grind
def XY:∀(es:Be) (u:Bm) (T t:As) (b:A0),T.length=t.length->(∀k,k∉j3 es->nth .unk T k=nth .unk t k)->dW bS es u T b=dW bS es u t b
 |[],u,T,t,b,a,h=>by
  have:T=t:=by
   apply qBO a;intro i d f;have:=h i (by simp[j3]);rw[jF,jF,List.getD,List.getD,qAc d,qAc f]at this;exact this
  rw[this]
 | .r k s::es,u,T,t,b,a,h=>by
  refine XY es _ _ _ _ (by simp[a]) λj g=>?_;by_cases e:k=j
  ·subst e;by_cases c:k<T.length
   ·rw[cK c,cK (a▸c)]
   rw[mq (by rw[qAT];omega),mq (by rw[qAT];omega)]
  rw[aX e,aX e];exact h j (by simp only[j3,qAh,not_or];exact⟨λx=>e x.symm,g⟩)
 | .o l s::es,u,T,t,b,a,h=>XY es _ T t _ a h
 | .w s::es,u,T,t,b,a,h=>XY es _ T t _ a h
def Ya:∀(es:Be) (u:Bm) (T S:As) (a:A0),(∀k∈j3 es,k<T.length)->dW bS es u (T++S) a=((dW bS es u T a).1++S,(dW bS es u T a).2)|[],u,T,S,a,h=>rfl| .r k s::es,u,T,S,a,h=>by simp only[dW];rw[List.set_append_left _ _ (h k (by simp[j3]))];exact Ya es _ _ S a λj b=>by rw[qAT];exact h j (by simp[j3,b])| .o l s::es,u,T,S,a,h=>Ya es _ T S _ h| .w s::es,u,T,S,a,h=>Ya es _ T S _ h
def arf(n k:Nat):jw n (dM k)=true:=by
 unfold dM
 induction k with|zero=>rfl|succ k i=>simp only[qCo,jw,rfB,i,qCz]
def aEQ(H:A0)(c:Nat):aU H (List.replicate c (.tup []))=List.replicate c (.tup []):=by rw[uM,qCs];rfl
def axf(o:TObj)(d:HO)(u:Bm)(h:∀i,d≠ .bx i):(bR bS o d u).1≠ .res:=by cases d with|dead=>intro h;cases h|box c=>intro h;cases h|bx i=>exact(h i rfl).elim|own e=>simp only[bR];split<;>simp|mp e=>simp only[bR];split<;>simp|arr e=>simp only[bR];split<;>simp
def ad9{P:Program}{R:Type}{e:Ent}{rvs:List ResultVar}{inn:jI (bM e.rs)->Option R}{h r:As}{h0 h2:A0}{s:DS}{y:R}{out:R->jI (bM e.rs)}(i:∀z y,inn z=some y->out y=z)(d:fO (aD e.ps) [] [] e.rs=true)
  (c:h0.length=aD e.ps) (f:Ji (aD e.ps) h0=true) (a:e.nr=rvs.length) (t:St (aD e.ps) h0 s) (g:yK (TI.of P) (aD e.ps) rvs e.rs inn s=some y) (b:dW bS e.rs (fF _ (out y)) (dM e.nr) h0=(r,h2)):
  BQ P rvs (aD e.ps) r h2 (aU s.h s.t) (aB s.h):=by
 let⟨x,j,l,o⟩:=agx rvs _ g;let⟨p,q⟩:=(bD o).resolve_right λh=>by cases h.2
 let⟨A,u,v⟩:=ab8 (n:=aD e.ps) (m:=aD e.ps) (T0:=dM e.nr) c (qAd _) (arf _ _) f d (by unfold dM;rw[qBv,l,a]) t.len
  (λk _=>.inl (adU _ _)) (alS d p t.ent) q
 obtain⟨z,rfl,w⟩:=Q8 u;rw[i _ _ w]at b;exact⟨_,_,_,Le.refl _ _ _,j,(v _ _ b).2.2⟩
def aem{R:Type}{ps eds:Be}{h0 h2:A0}{r:As}{s:DS}{v:Int}{y:RT (some eds) R}(e:fO (aD ps) [] [] eds=true)(a:h0.length=aD ps)(b:Ji (aD ps) h0=true)(t:St (aD ps) h0 s)
  (c:U7 (R:=R) (aD ps) (some eds) v s=some y):∃z,y=PZ.er v z/\∀r h2,dW bS eds (fF _ z) (dM 0) h0=(r,h2)->Le (aD ps) [] (aB s.h) [] (aB h2):=by
 let⟨g,d⟩:=(bD c).resolve_right λh=>by cases h.2
 let⟨u,q,f⟩:=ab8 (n:=aD ps) (m:=aD ps) (T0:=dM 0) (t':=[]) a (qAd _) (arf _ _) b e rfl t.len (λk _=>.inl (adU _ _)) (alS e g t.ent) d;obtain⟨z,rfl,i⟩:=Q8 q;refine⟨z,(Option.some.inj i).symm,λr h2 j=>?_⟩;let⟨l,_,o⟩:=f r h2 j;have:r=[]:=qAD.1 l;subst this;exact o
def aBF{P:Program}{te:Nat}{θ:Nat->B8}{n:Nat}{hs:List (Nat×Hn)}{E:B6}{fn:Func}{e:Ent}(inn:jI (bM e.rs)->Option e.R)(K:uf P te=true)(p:P.follows .mixedOrders=true)(w:JC e=true)
  (g:Nat.ble e.na fn.ntmps=true) (Y:∀Z∈E,ah P te Z) (q:∀x,amq (TI.of P) θ n hs E te fn e inn x=e.F x) {x:jI (bM e.ps)} {y:RT e.pe e.R} (f:e.F x=some y) {t:As} {h:A0} (v:dW bS e.ps (fF _ x) (dM e.na) []=(t,h)):
  h.length=aD e.ps/\t.length=e.na/\e.na<=fn.ntmps/\Ji (aD e.ps) h=true/\∃c s0,fn.body=some c/\AW P (aD e.ps) c (Out (aD e.ps) h te (U7 (aD e.ps) e.pe) (λs=>RT.ok e.pe (yK (TI.of P) (aD e.ps) fn.results.toList e.rs inn s)) s0 some (λx s=>match x with| .normal=>RT.ok e.pe (yK (TI.of P) (aD e.ps) fn.results.toList e.rs inn s)|_=>none) y) (aU h t++List.replicate (fn.ntmps - e.na) (.tup [])) (aB h):=by
 unfold JC at w;rw[qAa,qAa]at w;let⟨⟨z,w⟩,hwp⟩:=w;rw[qAa]at z;let⟨r,o⟩:=z;simp only[qAa]at w;let⟨A,R,B,S⟩:=w;have o:∀k∈j3 e.ps,k<e.na:=λk C=>qAf (qAP.1 o k C);have r:=au0 r;have g:=qAf g;rw[<-q x]at f;unfold amq at f;cases b:fn.body with|none=>rw[b]at f;cases f|some c=>
  rw[b]at f;simp only at f;rw[Ry]at f;have L:(fF (bM e.ps) x).map U.t=bM e.ps++[]:=by rw[KV,qAt]
  have D:=uz e.ps (fF _ x) 0 [] [] (dM e.na) [] [] L A (qAd _) rfl;rw[v]at D;simp only at D;have u:(dM e.na).length=e.na:=by unfold dM;rw[qBv]
  have M:t.length=e.na:=by rw[D.tl,u]
  have F:h.length=aD e.ps:=by rw[D.hl,qAL]
  -- the slots of the whole frame
  have N:dW bS e.ps (fF _ x) (List.replicate fn.ntmps (.tup [])) []=(t++List.replicate (fn.ntmps - e.na) (.tup []),h):=by
   rw[XY e.ps (fF _ x) (List.replicate fn.ntmps (.tup [])) (dM e.na++List.replicate (fn.ntmps - e.na) (.tup [])) [] (by rw[qAe,u,qBv,qBv];omega) (λk C=>?_),
    Ya e.ps (fF _ x) (dM e.na) _ [] (λk C=>by rw[u];exact o k C),v]
   have O:e.na<=k:=by apply qAn;intro hlt;exact C (r k Cl)
   rw[jF,jF,List.getD,List.getD,qAl (by rw[u];exact O),u,qCa,qCa];by_cases G:k<fn.ntmps;·rw[if_pos G,if_pos Cl]
   rw[if_neg G,if_neg Cl]
  rw[N]at f;simp only at f;have hH:Ji (aD e.ps) h=true:=aAI λl=>by
   by_cases J:l<aD e.ps;·let⟨T,H,e1,V⟩:=D.new l J;rw[qAL]at V;let⟨_,W,p3⟩:=Ob B T e1;rw[V];refine⟨axf _ T H W,λcs hc=>?_⟩;obtain⟨X,rfl,rfl⟩:=abx W hc;rw[<-Xu];exact Dm (n:=aD e.ps) (ds:=[]) (λl J=>by simp only[qAa]at J;exact J.1) X H (p3 X rfl)
   rw[mq Cl];exact⟨λh=>(by cases h),λcs h=>(by cases h)⟩
  have Q:St (aD e.ps) h ⟨t++List.replicate (fn.ntmps - e.na) (.tup []),h,[],[],[],[],[],[]⟩:=
   ⟨⟨λi k c I=>(by cases I),λd i j I=>(by cases I),λd x I=>(by cases I)⟩,qBm F.symm,λl _ _=>.inl rfl⟩
  have a:=WL (n:=n) (hs:=hs) (te:=te) (pn:=U7 (aD e.ps) e.pe) (ret:=λs=>RT.ok e.pe (yK (TI.of P) (aD e.ps) fn.results.toList e.rs inn s)) (m:=aD e.ps) (h0:=h) Y K p c _ 1 _ some _ y Q f;have ea:aU h (t++List.replicate (fn.ntmps - e.na) (.tup []))=aU h t++List.replicate (fn.ntmps - e.na) (.tup []):=by rw[uM,qBj,<-uM,<-uM,aEQ]
  simp only at a;rw[ea]at a;exact⟨F,M,g,hH,c,_,rfl,a⟩
def aHw{P:Program}{te:Nat}{θ:Nat->B8}{n:Nat}{hs:List (Nat×Hn)}{E:B6}{fn:Func}{e:Ent}(inn:jI (bM e.rs)->Option e.R)(Y:uf P te=true)(Q:P.follows .mixedOrders=true)(hf:P.funcs[e.f]? =some fn)(Z:mQ P e.f=true)(w:JC e=true)
  (hna:Nat.ble e.na fn.ntmps=true) (hnr:e.nr=fn.results.toList.length) (S:∀z y,inn z=some y->e.out y=z) (hE:∀e'∈E,ah P te e') (q:∀x,amq (TI.of P) θ n hs E te fn e inn x=e.F x):ah P te e:=by
 refine⟨Z,w,λx y hF t h hb1=>?_⟩;have hw0:=w;unfold JC at w;rw[qAa,qAa]at w;obtain⟨⟨_,w⟩,T⟩:=w;simp only[qAa]at w;obtain⟨edps,H,psok,rsok⟩:=w;obtain⟨j,U,hnb,hH,c,s0,k,a⟩:=aBF inn Y Q hw0 hna hE q hF hb1;have J:(aB h).length=aD e.ps:=by rw[aB,qAi,j]
 -- a plain end
 have p:∀(u:e.R),(∀A K L,Out (aD e.ps) h te (U7 (aD e.ps) e.pe) (λs=>RT.ok e.pe (yK (TI.of P) (aD e.ps) fn.results.toList e.rs inn s)) s0 some (λx s=>match x with
   | .normal=>RT.ok e.pe (yK (TI.of P) (aD e.ps) fn.results.toList e.rs inn s)
   |_=>none) y A K L->(A=.normal∨A=.ret)/\∃O,Le (aD e.ps) K L (aU O.h O.t) (aB O.h)/\St (aD e.ps) h O/\yK (TI.of P) (aD e.ps) fn.results.toList e.rs inn O=some u)->
   ∀r I,dW bS e.rs (fF _ (e.out u)) (dM e.nr) h=(r,I)->eH P e.f (aU h t) (aB h) (av I (res1 r)) (aB I):=λu V r I B=>by
  refine apS hf k (by rw[Em];omega) ?_ ?_
  ·have W:=uz e.rs (fF _ (e.out u)) (aD e.ps) [] [] (dM e.nr) h [] (by rw[KV,qAt]) H (qAd _) j;rw[B]at W;rw[aB,qAi,W.hl];omega
  ·rw[J,Em,U];refine a.mono λA K X M=>?_;obtain⟨hx,O,b,d,i⟩:=V A K X M;obtain⟨t1,h1,xs,k1,k2,k3⟩:=ad9 (h:=t) S H j hH hnr d i B;rcases hx with rfl|rfl
   ·exact⟨t1,h1,xs,b.trans k1,k2,k3⟩
   ·exact⟨t1,h1,xs,b.trans k1,k2,k3⟩
 obtain⟨f,na,ps,nr,rs,R,pe,F,out⟩:=e;simp only at *;cases pe with
 |none=>
  refine p y λA K L M=>?_;cases M with
  |ret b d i g=>cases g;exact⟨.inr rfl,_,b,d,i⟩
  |qd b d i g=>cases i
  |go b d i g=>
   cases A with
   |normal=>exact⟨.inl rfl,_,b,d,g⟩
   |exit id=>cases g
   |goto l=>cases g
   |ret=>cases g
   |panic c=>cases g
   |outgrown=>cases g
 |some C=>
  simp only[qAa]at T;obtain⟨_,N,_,_⟩:=T;have m:∀{o:Option R} {r:RT (some C) R},RT.ok (some C) o=some r->∃u,o=some u/\r=PZ.ok u:=λ{o r} h=>by
   cases o with
   |none=>cases h
   |some u=>exact⟨u,rfl,(Option.some.inj h).symm⟩
  match y,a,p with
  |PZ.ok u,a,p=>
   refine p u λA K L M=>?_;cases M with
   |ret b d i g=>
    cases g;obtain⟨y1,D,G⟩:=m i;cases G;exact⟨.inr rfl,_,b,d,D⟩
   |qd b d i g=>
    cases g;obtain⟨z,D,_⟩:=aem (r:=[]) (h2:=[]) N j hH d i;cases D
   |go b d i g=>
    cases A with
    |normal=>
     obtain⟨y1,D,G⟩:=m g;cases G;exact⟨.inl rfl,_,b,d,D⟩
    |exit id=>cases g
    |goto l=>cases g
    |ret=>cases g
    |panic c=>cases g
    |outgrown=>cases g
  |PZ.er v z,a,_=>
   show ∀r L,dW bS C (fF _ z) (dM 0) h=(r,L)->Ej P f (aU h t) (aB h) (Cz te v) (aB L);intro r I B;have W:=uz C (fF _ z) (aD ps) [] [] (dM 0) h [] (by rw[KV,qAt]) N (qAd _) j;rw[B]at W;refine azr hf k (by rw[Em];omega) (by rw[J,aB,qAi,W.hl];omega) ?_;rw[J,Em,U];refine a.mono λA K X M=>?_;cases M with
   |ret b d i g=>
    cases g;obtain⟨y1,D,G⟩:=m i;cases G
   |qd b d i g=>
    cases g;obtain⟨z',D,G⟩:=aem (r:=[]) (h2:=[]) N j hH d i;cases D;exact⟨rfl,_,_,b,G r I B⟩
   |go b d i g=>
    cases A with
    |normal=>
     obtain⟨y1,D,G⟩:=m g;cases G
    |exit id=>cases g
    |goto l=>cases g
    |ret=>cases g
    |panic c=>cases g
    |outgrown=>cases g
inductive EOs(P:Program)(te:Nat):B6→Prop
 |n:EOs P te []
 |c {e:Ent} {l:B6}:ah P te e→EOs P te l→EOs P te (e::l)
def EOs.all{P:Program}{te:Nat}{l:B6}(h:EOs P te l):∀e∈l,ah P te e:=by induction h with|n=>intro e he;cases he|c h _ i=>intro e he;rcases qAh.1 he with rfl|he;exact h;exact i e he
noncomputable def amg(P:Program)(fn:Func)(e:Ent):Bool:=mQ P e.f&&(JC e&&(Nat.ble e.na fn.ntmps&&Nat.beq e.nr fn.results.toList.length))
def mkE{P:Program}{te:Nat}{τ:Nat->TI}{θ:Nat->B8}(a:τ=TI.of P)(t:uf P te=true)(m:P.follows .mixedOrders=true){n:Nat}{hs:List (Nat×Hn)}{E:B6}{fn:Func}{e:Ent}{inn:jI (bM e.rs)->Option e.R}(b:EOs P te E)(f:P.funcs[e.f]? =some fn)(h:amg P fn e=true)
  (i:∀z y,inn z=some y->e.out y=z) (q:∀x,amq τ θ n hs E te fn e inn x=e.F x):ah P te e:=by unfold amg at h;simp only[qAa]at h;subst a;exact aHw inn t m f h.1 h.2.1 h.2.2.1 (qAj h.2.2.2) i b.all q
def jR{P:Program}{te:Nat}{fn:Func}{e:Ent}(c:amg P fn e=true)(h:∀x,e.F x=none):ah P te e:=by unfold amg at c;simp at c;exact⟨c.1,c.2.1,λx y f=>by rw[h x]at f;cases f⟩
def sm{α:Type}:∀z y:α,some z=some y->y=z:=by grind
end Abs
end Go.Proofs.YtneeginmfjageaaGreat
