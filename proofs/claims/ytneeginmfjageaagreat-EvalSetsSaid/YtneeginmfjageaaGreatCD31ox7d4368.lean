/-
  A private array that is cut: its object holds what is left. Conditions: none; lemmas.
-/
import Derived.Test.YtneeginmfjageaaGreatCD21ox9587d1
set_option linter.unusedSimpArgs false
set_option linter.unusedVariables false
namespace Go.Proofs.YtneeginmfjageaaGreat
namespace Abs
section
open Go
def SV N:=(List.range N).map some
theorem ajc{N i}(h:i<N):(SV N)[i]? =some (some i):=by simp[SV,h]
theorem azf{N i}(h:N≤i):(SV N)[i]? =none:=by simp[SV,h]
theorem N7{N i}{o}(h:(SV N)[i]? =some o):i<N∧o=some i:=by
 by_cases hi:i<N
 ·rw[ajc hi] at h;exact⟨hi,(Option.some.inj h).symm⟩
 ·rw[azf (by omega)] at h;cases h
theorem axV{N i big}(h:i<N):iP (SV N) big i=i:=by unfold iP;rw[ajc h];rfl
theorem CB l:∀vs k,nth .unk (WJ l vs) k=bif uZ l (nth .unk vs k) then nth .unk vs k else .unk
 | [],k=>by show nth (TV.unk) [] k=bif uZ l (nth TV.unk [] k) then nth TV.unk [] k else TV.unk;rw[kL (qBg _)];rfl
 | v::vs,0=>rfl
 | v::vs,k+1=>CB l vs k
theorem aik l:∀vs:List TV,(WJ l vs).length=vs.length
 | []=>rfl
 | v::vs=>congrArg (·+1) (aik l vs)
theorem ayi{l} e x:∀v∈J8 e x,uZ l v=true:=by
 intro v hv;cases e<;>simp only[J8,qAg] at hv<;>(repeat' (rcases hv with rfl | hv))<;>first | rfl | (subst hv;rfl)
theorem VO{l}:∀{vs:List TV},pF l vs=true→∀v∈aF vs,uZ l v=true
 | [],_,v,h=>by cases h
 | x::vs,h,v,hv=>by
  simp only[pF,qAa] at h;simp only[aF,qAn] at hv;rcases hv with hv | hv
  ·rcases qZ x with ho | ⟨e,y,rfl⟩
   ·rw[uJ ho,qBc] at hv;subst hv;exact h.1
   ·exact ayi e y v hv
  ·exact VO h.2 v hv
def LkO H H' l:=∀j,j≠l→eP j (nth .dead H' j)=eP j (nth .dead H j)∧∀z,dO j z (nth .dead H' j)=dO j z (nth .dead H j)
section
variable {H H':List TObj}{l:Nat}
theorem aDx(hk:LkO H H' l):Lks bI (iP (SV H.length) (aA H).length) (Lu l H.length) H H':=by
 have ok:∀j,Lu l H.length j=true→j<H.length∧j≠l:=fun j h=>by
  unfold Lu at h;simp only[qAa] at h;exact⟨qAe h.1,U6 h.2⟩
 have nm:∀j,Lu l H.length j=true→iP (SV H.length) (aA H).length j=j:=fun j h=>axV (ok j h).1;refine⟨nm,fun j h=>?_,fun j z h=>?_⟩
 ·rw[(hk j (ok j h).2).1];show eP j (nth .dead H j)=_;cases nth .dead H j<;>simp only[eP,ren,pG,l9,nm j h]
 ·rw[(hk j (ok j h).2).2 z];show dO j z (nth .dead H j)=_;cases nth .dead H j<;>simp only[dO,ren,nm j h]
theorem aaL(hk:LkO H H' l){v}(h1:rfB H.length v=true)(h2:uZ l v=true):VW (aA H) (SV H.length) (av H' v) (av H v):=by
 have:=Nv (aDx hk) v (UL l H.length v h1 h2);rw[aiw] at this;exact .same this.symm
theorem aCv(hk:LkO H H' l){v}(h1:rfB H.length v=true):VW (aA H) (SV H.length) (av H' (bif uZ l v then v else .unk)) (av H v):=by
 cases h:uZ l v with
 | true=>exact aaL hk h1 h
 | false=>exact .unk _
end
theorem awm{γ}{b}{m l bx off}{s}{K:DS→Option γ}(hm:m≤s.h.length)(hi:Inv s)(h:ctK l bx off s K=some b):∃s',K s'=some b∧Fr s s'∧Inv s'∧Le m (aR s.h s.t) (aA s.h) (aR s'.h s'.t) (aA s'.h):=by
 unfold ctK at h;split at h
 ·rename_i e xs cs hl hb;obtain⟨a,r,hf1,hf2,h⟩:=Bg _ _ _ _ h;split at h
  ·rename_i l' z c r;rw[Wi] at h;obtain⟨hc,h⟩:=(aY h).resolve_right fun h=>by cases h.2
   obtain⟨hc2,h⟩:=(aY h).resolve_right fun h=>by cases h.2
   rw[kZ,kZ] at h;simp only[qAa] at hc;obtain⟨⟨q1,q2,q3⟩,q4,q5,q6⟩:=hc;have q1:l'=l:=qAj q1;subst q1;have hcx:c≤xs.length:=qAe hc2;have hne:l'≠bx:=fun e=>by subst e;rw[hl] at hb;cases hb
   have hll:l'<s.h.length:=by
    apply qAp;intro hn;rw[kL (by omega)] at hl;cases hl
   have hbl:bx<s.h.length:=by
    apply qAp;intro hn;rw[kL (by omega)] at hb;cases hb
   refine⟨_,h,?_,?_,?_⟩
   ·refine⟨aik _ _,by simp,fun k hk=>?_,fun p hp=>?_,rfl,fun i hi hno=>?_⟩
    ·have hk:k∉aax l' 0 s.t++s.d:=hk;rw[qAn,not_or] at hk;refine⟨hk.2,?_⟩;show nth .unk (WJ l' s.t) k=_;rw[CB,aaS (j:=0) (by rw[qAL];exact hk.1)];rfl
    ·exact qAl _ (qAl _ hp)
    ·have hno:(i,0)∉(l',0)::(bx,off+1)::s.o:=hno;rw[qAg,not_or] at hno;have hil:l'≠i:=fun e=>hno.1 (by rw[e]);by_cases hib:bx=i
     ·subst hib;refine .inr ⟨cs,a++ .psl l' z none::r,hb,by rw[bL (by rw[qAU];exact hbl)],?_,fun q hq=>?_⟩
      ·rw[hf1,xV];simp only[aF,qAf];rfl
      ·have hq:decide ((bx,q+1)∈(l',0)::(bx,off+1)::s.o)=false:=hq;have hqo:q≠off:=fun e=>by subst e;simp at hq
       rw[hf1,xV];by_cases hlt:q<off
       ·rw[qAi (by omega),qAi (by omega)]
       ·rw[qAk (by omega),qAk (by omega)];simp only[aF,Qh,qAM,qAt];obtain⟨k,hk⟩:∃k,q - (aF a).length=k+1:=⟨q - (aF a).length - 1,by omega⟩;rw[hk];rfl
     ·refine .inl ?_;show nth .dead ((s.h.set l' _).set bx _) i=_;rw[aS hib,aS hil]
   ·refine⟨fun i k a h1 h2=>?_,fun d i j h1 k a h2=>?_,fun d x h1=>?_⟩
    ·have h2:mO (nth .unk (WJ l' s.t) i)=some (k,a):=h2;rw[CB] at h2;refine hi.up i k a h1 ?_;cases hn:uZ l' (nth .unk s.t i)<;>rw[hn] at h2<;>first | exact h2 | cases h2
    ·have h2:mO (nth .unk (WJ l' s.t) i)=some (k,a):=h2;rw[CB] at h2;have h3:mO (nth .unk s.t i)=some (k,a):=by
      cases hn:uZ l' (nth .unk s.t i)<;>rw[hn] at h2<;>first | exact h2 | cases h2
     obtain⟨c,g1,g2⟩:=hi.rl d i j h1 k a h3;refine⟨c,?_,fun b hb=>g2 b ?_⟩
     ·show mO (nth .unk (WJ l' s.t) j)=_;have:uZ l' (nth .unk s.t j)=true:=by
       revert g1;generalize nth .unk s.t j=v;intro g1
       cases v<;>first | rfl | cases g1
      rw[CB,this];exact g1
     ·have hb:nth .unk (WJ l' s.t) d=.lf .b b:=hb;rw[CB] at hb;cases hn:uZ l' (nth .unk s.t d)<;>rw[hn] at hb<;>first | exact hb | cases hb
    ·show nth .unk (WJ l' s.t) d=nth .unk (WJ l' s.t) x;rw[CB,CB,hi.cp d x h1]
   ·have hk:LkO s.h ((s.h.set l' (.arr e (xs.take c))).set bx (.box (a++ .psl l' z none::r))) l':=fun j hj=>by
     by_cases e2:bx=j
     ·subst e2;rw[bL (by rw[qAU];exact hbl),hb];exact⟨rfl,fun _=>rfl⟩
     ·rw[aS e2,aS (qBp hj)];exact⟨rfl,fun _=>rfl⟩
    refine Le.of (SV s.h.length) ⟨?_,?_,fun i hi=>ajc (by omega),?_,?_,fun n=>?_,?_,?_⟩
    ·simp only[Ca,aik]
    ·simp[SV,aA]
    ·intro i j k h1 h2 _ _;have:=(N7 h1).2;have:=(N7 h2).2
     simp_all
    ·intro i k h1;obtain⟨h2,h3⟩:=N7 h1;cases h3;simpa[aA] using h2
    ·rw[Cq,Cq];show VW _ _ (av _ (nth .unk (WJ l' s.t) n)) _;rw[CB];refine aCv hk ?_;by_cases hn:n<s.t.length
     ·refine aeZ q5 _ ?_;rw[iD,List.getD,qAc hn];exact qAO hn
     ·rw[kL (by omega)];rfl
    ·intro i k h1;obtain⟨h2,h3⟩:=N7 h1;cases h3;rw[jI,jI];show OW _ _ (fC _ (nth .dead ((s.h.set l' (.arr e (xs.take c))).set bx (.box (a++ .psl l' z none::r))) i)) _;by_cases e2:bx=i
     ·subst e2;rw[bL (by rw[qAU];exact hbl),hb];have hrf:=Ot ((wX q6).2 cs hb);rw[hf1] at hrf;refine Vf (by rw[xV,hf1];simp only[aF,qAf];rfl) fun q hq=>?_;rw[hf1,xV];have cell:∀v,v∈aF a∨v∈aF r→VW (aA s.h) (SV s.h.length) (av ((s.h.set l' (.arr e (xs.take c))).set bx (.box (a++ .psl l' z none::r))) v) (av s.h v):=fun v hv=>by
       rcases hv with hv | hv
       ·exact aaL hk (hrf v (qBA _ hv)) (VO q2 v hv)
       ·exact aaL hk (hrf v (qBC _ (by simp only[aF,qAn];exact .inr hv))) (VO q3 v hv)
      simp only[List.getD];by_cases hlt:q<(aF a).length
      ·rw[qAi hlt,qAi hlt,qAc hlt];exact cell _ (.inl (qAO hlt))
      ·rw[qAk (by omega),qAk (by omega)];simp only[aF,Qh,qAM,qAt];generalize q - (aF a).length=k;cases k with
       | zero=>
        simp only[qAD,qAv];refine .same ?_;simp only[av,aS (qBp hne),bL hll,dO,ren,axV hll,qAB,Nat.min_eq_left hcx]
       | succ k=>
        simp only[qBr];cases hg:(aF r)[k]? with
        | none=>exact .unk _
        | some v=>exact cell v (.inr (qAI hg))
     ·rw[aS e2];by_cases e3:l'=i
      ·subst e3;rw[bL hll,hl];refine OW.arr (n:=c) ?_;rw[l9,List.map_take]
      ·rw[aS e3];cases ho:nth .dead s.h i with
       | box cs2=>
        have hna:pF l' cs2=true:=aic (j:=0) (k:=i) (by
         intro hm;rw[qAL] at hm;have:=qAE.1 q4 _ hm;exact e2 (qAj this).symm) cs2 ho
        have hrf:=Ot ((wX q6).2 cs2 ho);refine Vf rfl fun q hq=>?_;rw[List.getD,qAc hq];exact aaL hk (hrf _ (qAO hq)) (VO hna _ (qAO hq))
       | own e xs=>exact .tip _
       | gone e xs=>exact .dead _
       | mp e xs=>exact .same rfl (by simp only[fC,dK,Nk])
       | arr e xs=>exact .same rfl (by simp only[fC,dK,l9])
       | gon n=>exact .dead _
       | dead=>exact .dead _
       | res=>exact((wX q6).1 ho).elim
    ·intro i h1;cases(N7 h1).2
  ·cases h
 ·cases h
theorem awP{γ}{b}{m}{hn}{s}{K:DS→Option γ}(hm:m≤s.h.length)(hi:Inv s)(h:fzH m hn s K=some b):∃s',K s'=some b∧Fr s s'∧Inv s'∧Le m (aR s.h s.t) (aA s.h) (aR s'.h s'.t) (aA s'.h):=by
 unfold fzH at h;split at h
 ·exact ahH _ _ _ hm hi h
 ·exact awm hm hi h
 ·exact⟨s,h,Fr.refl s,hi,fun _ κ _ _ _ hs=>⟨κ,hs⟩⟩
theorem aDs{γ}{b}{m}{hn}{s}{K:DS→Option γ}(hm:m≤s.h.length)(hi:Inv s)(h:fzA m hn s K=some b):∃s',K s'=some b∧Fr s s'∧Inv s'∧Le m (aR s.h s.t) (aA s.h) (aR s'.h s'.t) (aA s'.h):=by
 unfold fzA at h;split at h
 ·exact awm hm hi h
 ·exact ahH _ _ _ hm hi h
 ·exact⟨s,h,Fr.refl s,hi,fun _ κ _ _ _ hs=>⟨κ,hs⟩⟩
end
section
open Go
def wM(P:Program)(te:Nat):Bool:=match P.underlying te with
 | some (.int _)=>true
 | _=>false
theorem aBP{P}{o}{s}{te}{e}(hte:wM P te=true)(ho:o.op=.makeInterface te (.const (.int .i64 e))):xW P o s (s.wr (au o.dst (.ifc te (.int .i64 e)))):=
 nR fun C κ a w hs=>by
  refine⟨.iface te (.int .i64 e),κ,w,?_,hs.au o.dst (.ifc _ _)⟩;unfold wM at hte;split at hte
  ·rename_i k hk;simp[execOp,ho,Instr.makeInterface,underlying,hk,Act.eval]
  ·cases hte
theorem avx{P}{o}{s}{x}{t:Nat}{v}(ho:o.op=.panic x)(hx:bA s.tmps x=.ifc t v):OpX P o (.iface t v) s s:=by
 intro C κ a w hs next Q hn
 have hr:=hs.ev x;rw[hx] at hr;have he:a.eval x=.iface t v:=by
  generalize a.eval x=u at hr;cases hr;rfl
 unfold Oper.wp;have hrun:(execOp a.eval o).run P w=.halt (.panic (.iface t v)) w:=by
  simp[execOp,ho,he,Instr.panic]
 rw[hrun];exact hn κ w hs
theorem aBA{te}{T}{l}{e}(h:aiU te T l=some e):∃o1 o2 d,d<T.length∧l=[o1,o2]∧o1.op=.makeInterface te (.const (.int .i64 e))∧o1.dst=some d∧o1.guard=none∧o2.op=.panic (.tmp d)∧o2.dst=none∧o2.guard=none:=by
 unfold aiU at h;split at h
 ·rename_i o1 o2;split at h
  ·rename_i t e' d h1 h2 h3;split at h
   ·rename_i d' h4 h5 h6;rcases aY h with⟨hc,h⟩ | ⟨_,h⟩
    ·cases h;simp only[qAa] at hc;have e1:=qAj hc.1;have e2:=qAj hc.2.1;subst e1;subst e2;exact⟨o1,o2,d,qAe hc.2.2,rfl,h1,h2,h3,h4,h5,h6⟩
    ·cases h
   ·cases h
  ·cases h
 ·cases h
theorem azK{P}{te m id}{l}{e}{Q}{t}{h}(hte:wM P te=true){T}(hp:aiU te T l=some e)(hd:t.length=T.length)(hq:∀t',Q (oO (Bu te e)) t' h):AW P m (.region id l.toArray false) Q t h:=by
 obtain⟨o1,o2,d,hdT,hl,g1,g2,g3,g4,g5,g6⟩:=aBA hp;subst hl;intro C κ a w hk hs;have hw1:dQ [o1,o2].toArray t o1=some true:=by unfold dQ;rw[g3]
 have hw2:dQ [o1,o2].toArray (t.set d (.ifc te (.int .i64 e))) o2=some true:=by unfold dQ;rw[g6]
 have st1:xW P o1 ⟨t,h⟩ ⟨t.set d (.ifc te (.int .i64 e)),h⟩:=by
  have:=aBP (P:=P) (o:=o1) (s:=⟨t,h⟩) hte g1;rw[g2] at this;exact this
 have hx:bA (t.set d (.ifc te (.int .i64 e))) (.tmp d)=.ifc te (.int .i64 e):=by
  show(t.set d _).getD d .unk=_
  grind
 refine wp_region_lit (M8 (l1:=[o1]) (op:=o2) (l2:=[]) (.cons (.inl ⟨hw1,st1⟩) (.nil _)) hw2 (avx g4 hx) C κ a w hs fun κ' a' w' hs'=>⟨⟨t.set d (.ifc te (.int .i64 e)),h⟩,κ',hq _,hs'⟩)
end
section
open Go
inductive Out{R γ:Type}(m:Nat)(h0:List TObj)(te:Nat)(pn:Int→DS→Option R)(ret:DS→Option R)(s:DS)(inj:R→Option γ)(k:Exit→DS→Option γ)(b:γ):QT
 | ret {s':DS} {r:R} {t:List AV} {h:List AObj}:Le m t h (aR s'.h s'.t) (aA s'.h)→St m h0 s'→ret s'=some r→inj r=some b→Out m h0 te pn ret s inj k b .ret t h
 | oO {s':DS} {r:R} {v:Int} {t T:List AV} {h:List AObj}:Le m t h T (aA s'.h)→St m h0 s'→pn v s'=some r→inj r=some b→Out m h0 te pn ret s inj k b (oO (Bu te v)) t h
 | go {e:Exit} {s':DS} {t:List AV} {h:List AObj}:Le m t h (aR s'.h s'.t) (aA s'.h)→St m h0 s'→Fr s s'→k e s'=some b→Out m h0 te pn ret s inj k b e t h
theorem Le.refl m t h:Le m t h t h:=fun _ κ _ _ _ hs=>⟨κ,hs⟩
section
variable {P:Program}{E:List Ent}{θ:Nat→Option ET}{n:Nat}{R:Type}{hs:List (Nat×Hn)}{ret:DS→Option R}{m:Nat}{h0:List TObj}{te:Nat}{pn:Int→DS→Option R}
def Snd P E θ n R hs te pn ret m h0 code:=
 ∀γ p s (inj:R→Option γ) k b,St m h0 s→exe ⟨TI.of P,θ,n,R,hs,m,te,pn⟩ E ret code γ p s inj k=some b→AW P m code (Out m h0 te pn ret s inj k b) (aR s.h s.t) (aA s.h)
theorem ad8{γ}{s s1}{inj}{k}{b:γ}(hf:Fr s s1) e t h (ho:Out m h0 te pn ret s1 inj k b e t h):Out m h0 te pn ret s inj k b e t h:=by
 cases ho with
 | ret h1 h2 h3 h4=>exact .ret h1 h2 h3 h4
 | oO h1 h2 h3 h4=>exact .oO h1 h2 h3 h4
 | go h1 h2 h3 h4=>exact .go h1 h2 (hf.trans h3) h4
theorem as2(hE:∀e∈E,ah P te e)(hte:wM P te=true)(hmix:P.follows .mixedOrders=true) id ops draw:Snd P E θ n R hs te pn ret m h0 (.region id ops draw):=by
 intro γ p s inj k b hst h;have h:(fzH m (hint hs p) s fun s=>match aiU te s.t ops.toList with
   | some e=>bif draw then none else(pn e s).bind inj
   | none=>Gd s.h 0 fun n'=>Vb (TI.of P) θ E (fun v s=>bif draw then none else(pn v s).bind inj) ops.toList ops.toList n' [] {s with h:=s.h++xC (yY ops.toList)} fun es s=>bif !draw ||kY ops.toList es then ag2 s.h n' fun h=>fzA m (hint hs p) {s with h:=h} fun s=>k .normal s else none)=some b:=h
 obtain⟨sz,h,fz1,fz2,fz3⟩:=awP hst.len hst.inv h;refine AW.le fz3 ((?_:AW P m (.region id ops draw) (Out m h0 te pn ret sz inj k b) (aR sz.h sz.t) (aA sz.h)).mono (ad8 fz1));replace hst:=hst.step fz1 fz2;clear fz1 fz2 fz3
 revert h hst
 generalize sz=s;intro h hst;obtain⟨l⟩:=ops;cases hpr:aiU te s.t l with
 | some e=>
  have h:(bif draw then none else(pn e s).bind inj)=some b:=by simpa only[hpr] using h
  cases draw with
  | true=>cases h
  | false=>
   obtain⟨r,h1,h2⟩:=ob h;refine azK hte hpr (Ca _ _) fun t'=>?_;exact .oO (Le.refl _ _ _) hst h1 h2
 | none=>
  have h:(Gd s.h 0 fun n'=>Vb (TI.of P) θ E (fun v s=>bif draw then none else(pn v s).bind inj) l l n' [] {s with h:=s.h++xC (yY l)} fun es s=>bif !draw ||kY l es then ag2 s.h n' fun h=>fzA m (hint hs p) {s with h:=h} fun s=>k .normal s else none)=some b:=by simpa only[hpr] using h
  rw[Wi] at h;have hres:gy {s with h:=s.h++xC (yY l)}=(gy s).reserve (yY l):=by
   unfold gy ASt.reserve;simp only[aie,adL]
  rcases ahF hE l _ _ _ _ (show Inv {s with h:=s.h++xC (yY l)} from⟨hst.inv.up,hst.inv.rl,hst.inv.cp⟩) h with⟨es',res,s',g1,g2,g3,g4,g5,g6⟩ | ⟨l1,op,l2,s1,s',c,g0,g1,g2,g3,g4,g5,g6,g7⟩
  ·simp only[List.reverse_nil,qAt] at g2;obtain⟨hok,g2⟩:=(aY g2).resolve_right fun h=>by cases h.2
   obtain⟨hh,c,t1,t2,t3⟩:=adJ _ _ _ g2;have hlen:s'.h.length=s.h.length+(xC (yY l)).length:=by rw[g6];simp only[qAf]
   have hle:s.h.length≤hh.length:=t2 (by omega);have hfr:Fr s {s' with h:=hh}:=by
    refine⟨g4.tl,hle,g4.d,g4.om,g4.oo,fun l' hl hno=>?_⟩;have:=g4.o l' (by simp only[qAf];omega) hno;rw[pJ hl] at this;rw[t1,pJ (by omega)] at this;exact this
   have hq:Out m h0 te pn ret s inj k b .normal (gy s').tmps (gy s').heap:=by
    have hst2:=hst.step hfr ⟨g5.up,g5.rl,g5.cp⟩;obtain⟨sz,z1,z2,z3,z4⟩:=aDs hst2.len hst2.inv t3;refine .go (s':=sz) ?_ (hst2.step z2 z3) (hfr.trans z2) z1;refine Le.trans ?_ z4;simp only[gy,t1,aie,adL];exact ar8 _ _ c
   rw[hres] at g1;refine AW.of ?_;cases draw with
   | false=>exact bX.region (l:=l) (s:=gy s) _ g1.steps hq
   | true=>exact bX.drawn (l:=l) (s:=gy s) _ hmix g1 (by rw[←att g3];simpa using hok) hq
  ·cases draw with
   | true=>cases g4
   | false=>
    have g4:(pn c s').bind inj=some b:=g4;obtain⟨r,k1,k2⟩:=ob g4;rw[hres] at g1;have hsl:s.h.length≤s'.h.length:=by rw[g7];simp only[qAf];omega
    have hst':St m h0 s':=by
     refine⟨g6,qAs hst.len hsl,fun l' hl hno=>?_⟩;rw[g5.oo] at hno⊢;have hno:(l',0)∉s'.o++s.oo:=hno;simp only[qAn,not_or] at hno;have hl2:l'<s.h.length:=qAG hl hst.len;have e1:=g5.o l' (by simp only[qAf];omega) hno.1;rw[pJ hl2] at e1;refine H9.trans (h:=hst.ent l' hl ?_) (e1.mono (g:=fun q=>decide ((l',q+1)∈s'.o++s.oo)) fun q hq=>?_) fun q hq=>?_
     ·simp only[qAn,not_or];exact⟨fun hm=>hno.1 (g5.om _ hm),hno.2⟩
     ·simp only[decide_eq_false_iff_not,qAn,not_or] at hq⊢;exact hq.1
     ·simp only[decide_eq_false_iff_not,qAn,not_or] at hq⊢;exact⟨fun hm=>hq.1 (g5.om _ hm),hq.2⟩
    subst g0;intro C κ a w hk hs;exact wp_region_lit (M8 g1 g2 g3 C _ a w (hs.reserve (yY (l1++op::l2))) fun κ' a' w' hs'=>⟨gy s',κ',.oO (Le.refl _ _ _) hst' k1 k2,hs'⟩)
theorem aBJ{x y}(hx:Snd P E θ n R hs te pn ret m h0 x)(hy:Snd P E θ n R hs te pn ret m h0 y):Snd P E θ n R hs te pn ret m h0 (.seq x y):=by
 intro γ p s inj k b hst h;have stJ:∀{eds:List Ed} (hw:dZ s.h.length [] [] eds=true) (z:jg (bD eds)),St m h0 (oV (nQ x) eds s (dU _ z)):=fun hw z=>hst.step (Nn hw z) (adG hw z hst.inv);have stF:St m h0 (fresh s):=⟨⟨hst.inv.up,hst.inv.rl,hst.inv.cp⟩,hst.len,by
  intro l hl hno;exact hst.ent l hl (by simpa[fresh] using hno) |>.mono fun q hq=>by simpa[fresh] using hq⟩
 have plain:(exe ⟨TI.of P,θ,n,R,hs,m,te,pn⟩ E ret x γ (2*p) s inj fun e s=>match e with
    | .normal=>exe ⟨TI.of P,θ,n,R,hs,m,te,pn⟩ E ret y γ (2*p+1) s inj k
    | e=>k e s)=some b→AW P m (.seq x y) (Out m h0 te pn ret s inj k b) (aR s.h s.t) (aA s.h):=fun h=>by
  refine AW.seq ((hx γ _ s inj _ b hst h).mono fun e t hh ho=>?_);cases ho with
  | ret h1 h2 h3 h4=>exact .ret h1 h2 h3 h4
  | oO h1 h2 h3 h4=>exact .oO h1 h2 h3 h4
  | @go _ s' _ _ h1 h2 h3 h4=>
   cases e with
   | normal=>exact AW.le h1 ((hy γ _ s' inj k b h2 h4).mono (ad8 h3))
   | exit id=>exact .go h1 h2 h3 h4
   | goto l=>exact .go h1 h2 h3 h4
   | ret=>exact .go h1 h2 h3 h4
   | panic c=>exact .go h1 h2 h3 h4
   | outgrown=>exact .go h1 h2 h3 h4
 have behind:∀{eds:List Ed} (hw:dZ s.h.length [] [] eds=true) (z:jg (bD eds)),exe ⟨TI.of P,θ,n,R,hs,m,te,pn⟩ E ret y γ (2*p+1) (oV (nQ x) eds s (dU _ z)) inj k=some b→∀t hh,Le m t hh (aR (oV (nQ x) eds s (dU _ z)).h (oV (nQ x) eds s (dU _ z)).t) (aA (oV (nQ x) eds s (dU _ z)).h)→AW P m y (Out m h0 te pn ret s inj k b) t hh:=
  fun hw z h4 t hh hle=>AW.le hle ((hy γ _ _ inj k b (stJ hw z) h4).mono (ad8 (Nn hw z)))
 have h:(match hint hs p with
   | some (.jn eds true)=>DK eds s <| Option.bind (exe ⟨TI.of P,θ,n,R,hs,m,te,pn⟩ E ret x (LR (jg (bD eds)) R) (2*p) (fresh s) (fun r=>some (.rt r)) fun e s'=>match e with
     | .normal=>F8 (nQ x) eds s s' fun us=>zD (bD eds) us fun x=>some (.nx x)
     | _=>none) (LR.el (fun z=>Jj (nQ x) eds s (dU (bD eds) z) fun s=>exe ⟨TI.of P,θ,n,R,hs,m,te,pn⟩ E ret y γ (2*p+1) s inj k) (fun r=>inj r))
   | some (.jn eds false)=>DK eds s <| Option.bind (exe ⟨TI.of P,θ,n,R,hs,m,te,pn⟩ E ret x (jg (bD eds)) (2*p) (fresh s) (fun _=>none) fun e s'=>match e with
     | .normal=>F8 (nQ x) eds s s' fun us=>zD (bD eds) us fun x=>some x
     | _=>none) fun z=>Jj (nQ x) eds s (dU (bD eds) z) fun s=>exe ⟨TI.of P,θ,n,R,hs,m,te,pn⟩ E ret y γ (2*p+1) s inj k
   | _=>exe ⟨TI.of P,θ,n,R,hs,m,te,pn⟩ E ret x γ (2*p) s inj fun e s=>match e with
    | .normal=>exe ⟨TI.of P,θ,n,R,hs,m,te,pn⟩ E ret y γ (2*p+1) s inj k
    | e=>k e s)=some b:=h
 split at h
 ·rename_i eds _;obtain⟨⟨w1,w2,w3⟩,h⟩:=PW h;obtain⟨res,h1,h2⟩:=ob h;refine AW.seq ((hx _ _ (fresh s) _ _ res stF h1).mono fun e t hh ho=>?_);cases ho with
  | ret g1 g2 g3 g4=>cases g4;exact .ret g1 g2 g3 h2
  | oO g1 g2 g3 g4=>cases g4;exact .oO g1 g2 g3 h2
  | @go _ s' _ _ g1 g2 g3 g4=>
   cases e with
   | normal=>
    obtain⟨z,z1,z2⟩:=Us hst.len w1 w2 w3 g3 g4;cases z1;have h2:(Jj (nQ x) eds s (dU (bD eds) z) fun s=>exe ⟨TI.of P,θ,n,R,hs,m,te,pn⟩ E ret y γ (2*p+1) s inj k)=some b:=h2;rw[aaW] at h2;exact behind w3 z h2 t hh (g1.trans z2)
   | exit id=>cases g4
   | goto l=>cases g4
   | ret=>cases g4
   | panic c=>cases g4
   | outgrown=>cases g4
 ·rename_i eds _;obtain⟨⟨w1,w2,w3⟩,h⟩:=PW h;obtain⟨res,h1,h2⟩:=ob h;refine AW.seq ((hx _ _ (fresh s) _ _ res stF h1).mono fun e t hh ho=>?_);cases ho with
  | ret g1 g2 g3 g4=>cases g4
  | oO g1 g2 g3 g4=>cases g4
  | @go _ s' _ _ g1 g2 g3 g4=>
   cases e with
   | normal=>
    obtain⟨z,z1,z2⟩:=Us hst.len w1 w2 w3 g3 g4;have e1:res=z:=(Option.some.inj z1).symm;rw[e1,aaW] at h2;exact behind w3 z h2 t hh (g1.trans z2)
   | exit id=>cases g4
   | goto l=>cases g4
   | ret=>cases g4
   | panic c=>cases g4
   | outgrown=>cases g4
 grind
theorem azB{x}(hx:Snd P E θ n R hs te pn ret m h0 x):Snd P E θ n R hs te pn ret m h0 (.loop x):=by
 intro γ p s inj k b hst h;have h:(match hint hs p with
   | some (.lp hd e ex)=>DK hd s <| DK ex s <| F8 (nQ x) hd s (fresh s) fun us=>zD (bD hd) us fun x0=>
     Option.bind (aG (δ:=LR (jg (bD ex)) R) (fun rec z=>Jj (nQ x) hd (fresh s) (dU (bD hd) z) fun s1=>exe ⟨TI.of P,θ,n,R,hs,m,te,pn⟩ E ret x (LR (jg (bD ex)) R) (2*p) s1 (fun r=>some (.rt r)) fun e' s'=>match e' with
      | .normal=>F8 (nQ x) hd s s' fun us=>zD (bD hd) us rec
      | .exit id=>bif Nat.beq id e then F8 (nQ x) ex s s' fun us=>zD (bD ex) us fun y=>some (.nx y) else none
      | _=>none) n x0) (LR.el (fun y=>Jj (nQ x) ex s (dU (bD ex) y) fun s=>k (.exit e) s) (fun r=>inj r))
   | _=>none)=some b:=h
 split at h
 case h_2=>cases h
 rename_i hd e ex _;obtain⟨⟨w1,w2,w3⟩,h⟩:=PW h;obtain⟨⟨_,_,w4⟩,h⟩:=PW h;have stF:St m h0 (fresh s):=⟨⟨hst.inv.up,hst.inv.rl,hst.inv.cp⟩,hst.len,by
  intro l hl hno;exact hst.ent l hl (by simpa[fresh] using hno) |>.mono fun q hq=>by simpa[fresh] using hq⟩
 obtain⟨x0,h1,hle0⟩:=Us hst.len w1 w2 w3 (Fr.refl (fresh s)) h;obtain⟨res,h2,h3⟩:=ob h1;generalize hbody:(fun(rec:jg (bD hd)→Option (LR (jg (bD ex)) R)) (z:jg (bD hd))=>Jj (nQ x) hd (fresh s) (dU (bD hd) z) fun s1=>exe ⟨TI.of P,θ,n,R,hs,m,te,pn⟩ E ret x (LR (jg (bD ex)) R) (2*p) s1 (fun r=>some (.rt r)) fun e' s'=>match e' with
      | .normal=>F8 (nQ x) hd s s' fun us=>zD (bD hd) us rec
      | .exit id=>bif Nat.beq id e then F8 (nQ x) ex s s' fun us=>zD (bD ex) us fun y=>some (.nx y) else none
      | _=>none)=body at h2
 let J:jg (bD hd)→DS:=fun z=>oV (nQ x) hd (fresh s) (dU _ z)
 have Jav:∀z,aR (J z).h (J z).t=aR (oV (nQ x) hd s (dU _ z)).h (oV (nQ x) hd s (dU _ z)).t∧aA (J z).h=aA (oV (nQ x) hd s (dU _ z)).h:=fun z=>⟨rfl,rfl⟩;refine AW.loop (fun c t hh=>∃z,aG body c z=some res∧Le m t hh (aR (J z).h (J z).t) (aA (J z).h)) (n:=n) ⟨x0,h2,hle0⟩ ?_;rintro c t hh ⟨z,hz,hle⟩;cases c with
 | zero=>cases hz
 | succ c=>
  have hz:body (aG body c) z=some res:=hz;rw[←hbody] at hz;simp only at hz;rw[hbody,aaW] at hz;have stJ:St m h0 (J z):=stF.step (Nn (s:=fresh s) w3 z) (adG (s:=fresh s) w3 z stF.inv);refine AW.le hle ((hx _ _ (J z) _ _ res stJ hz).mono fun e' t' hh' ho=>?_);cases ho with
  | ret g1 g2 g3 g4=>cases g4;exact .ret g1 g2 g3 h3
  | oO g1 g2 g3 g4=>cases g4;exact .oO g1 g2 g3 h3
  | @go _ s' _ _ g1 g2 g3 g4=>
   have g3':Fr (fresh s) s':=(Nn (s:=fresh s) w3 z).trans g3;cases e' with
   | normal=>
    obtain⟨z',z1,z2⟩:=Us hst.len w1 w2 w3 g3' g4;exact⟨c,Nat.lt_succ_self c,z',z1,g1.trans z2⟩
   | exit id=>
    simp only at g4;obtain⟨hid,g5⟩:=(aY g4).resolve_right fun h=>by cases h.2
    have hid:=qAj hid;clear g4;subst hid;obtain⟨y,z1,z2⟩:=Us hst.len w1 w2 w4 g3' g5;cases z1;have h3:(Jj (nQ x) ex s (dU (bD ex) y) fun s=>k (.exit id) s)=some b:=h3;rw[aaW] at h3;exact .go (g1.trans z2) (hst.step (Nn w4 y) (adG w4 y hst.inv)) (Nn w4 y) h3
   | goto l=>cases g4
   | ret=>cases g4
   | panic c=>cases g4
   | outgrown=>cases g4
theorem aak(hE:∀e∈E,ah P te e)(hte:wM P te=true)(hmix:P.follows .mixedOrders=true) code:Snd P E θ n R hs te pn ret m h0 code:=by
 induction code with
 | skip=>intro γ p s inj k b hst h;exact AW.skip (.go (Le.refl _ _ _) hst (Fr.refl s) h)
 | region id ops draw=>exact as2 hE hte hmix id ops draw
 | seq x y hx hy=>exact aBJ hx hy
 | cond c x y hx hy=>
  intro γ p s inj k b hst h;have h:(match eF s.t c with
   | .lf .b b=>_root_.cond b (exe ⟨TI.of P,θ,n,R,hs,m,te,pn⟩ E ret x γ (2*p) (Lv c s) inj k) (exe ⟨TI.of P,θ,n,R,hs,m,te,pn⟩ E ret y γ (2*p+1) s inj k)
   | _=>none)=some b:=h
  split at h
  ·rename_i q hq;refine AW.vf fun hv=>AW.cond (b:=q) (by rw[bM,hq];rfl) (fun e=>?_) fun e=>?_
   ·subst e;obtain⟨e1,e2,e3,e4,e5,_⟩:=ajY c s;have hi:=azu hst.inv hq hv;have:=hx γ _ (Lv c s) inj k b ⟨hi,by rw[e2];exact hst.len,by rw[e4,e5,e2];exact hst.ent⟩ h;rw[e1,e2] at this;exact this.mono fun e t hh ho=>by
     cases ho with
     | ret h1 h2 h3 h4=>exact .ret h1 h2 h3 h4
     | oO h1 h2 h3 h4=>exact .oO h1 h2 h3 h4
     | go h1 h2 h3 h4=>exact .go h1 h2 (aAH h3 e1 e2 e3 e4 e5) h4
   ·subst e;exact hy γ _ s inj k b hst h
  ·cases h
 | block id x hx=>
  intro γ p s inj k b hst h;refine AW.block ((hx γ (2*p) s inj _ b hst h).mono fun e t hh ho=>?_);cases ho with
  | ret h1 h2 h3 h4=>exact .ret h1 h2 h3 h4
  | oO h1 h2 h3 h4=>exact .oO h1 h2 h3 h4
  | @go _ s' _ _ h1 h2 h3 h4=>
   cases e with
   | exit id'=>
    have h4:(bif Nat.beq id' id then k .normal s' else k (.exit id') s')=some b:=h4;refine avz (fun he=>?_) fun he=>?_
    ·have he:id'=id:=by simpa using he
     subst he;rw[mK,cond_true] at h4;exact .go h1 h2 h3 h4
    ·have he:id'≠id:=by simpa using he
     have hb:Nat.beq id' id=false:=by
      cases hb:Nat.beq id' id with
      | false=>rfl
      | true=>exact(he (qAj hb)).elim
     rw[hb,cond_false] at h4;exact .go h1 h2 h3 h4
   | normal=>exact .go h1 h2 h3 h4
   | goto l=>exact .go h1 h2 h3 h4
   | ret=>exact .go h1 h2 h3 h4
   | panic c=>exact .go h1 h2 h3 h4
   | outgrown=>exact .go h1 h2 h3 h4
 | loop x hx=>exact azB hx
 | exit id=>intro γ p s inj k b hst h;exact AW.exit (.go (Le.refl _ _ _) hst (Fr.refl s) h)
 | ret=>
  intro γ p s inj k b hst h;obtain⟨sz,h,fz1,fz2,fz3⟩:=awP hst.len hst.inv h;obtain⟨r,h1,h2⟩:=ob h;exact AW.le fz3 (AW.ret (.ret (Le.refl _ _ _) (hst.step fz1 fz2) h1 h2))
 | _=>intro γ p s inj k b hst h;cases h
end
end
section
open Go
def BG P rs m T hJ t h:=
 ∃t1 h1 xs,Le m t h t1 h1∧xD P ⟨t1,h1⟩ rs=some xs∧Le m xs h1 (aR hJ T) (aA hJ)
def amE(P:Program)(rs:List ResultVar)(m:Nat)(T:List TV)(hJ:List TObj):QT
 | .normal,t,h=>BG P rs m T hJ t h
 | .ret,t,h=>BG P rs m T hJ t h
 | _,_,_=>False
theorem azM{P}{f}{fn}{c}{args}{H}{T}{hJ:List TObj}(hf:P.funcs[f]? =some fn)(hb:fn.body=some c)(hlen:args.length≤fn.ntmps)(hJl:H.length≤hJ.length)
  (h:AW P H.length c (amE P fn.results.toList H.length T hJ) (args++List.replicate (fn.ntmps - args.length) (.tup [])) H):cZ P f args H (av hJ (res1 T)) (aA hJ):=by
 intro κ aj w vs hen hvl hr
 let C:Ctx:={aj:=aj,old:=fun b=>b<w.heap.size∧∀l,at? κ l=some b→¬live (obj? H l),w0:=w,k0:=κ,pvE:=aD aj κ H}
 refine calls_of_wp hf hb ?_;have hsim:Sim C κ ⟨args++List.replicate (fn.ntmps - args.length) (.tup []),H⟩ {tmps:=vs.toArray++Array.replicate (fn.ntmps - vs.toArray.size) undef,defers:=[]} w:=by
  refine⟨rfl,by simp[hvl],?_,hen.klen,cK.refl _,hen.resv,hen.obj,hen.apart,fun l b h1 h2 ho=>ho.2 l h1 h2,hen.bound,fun b o h=>⟨hen.pvlt b o h,fun l hl=>hen.pvdis b o l h hl⟩,fun b hb=>hb.1,fun _ _=>rfl,rfl,rfl,rfl,qAd _,fun _ _ h _=>h,Evo.refl _ _⟩;intro n hn;simp only[qAf,qBz] at hn;by_cases hlt:n<args.length
  ·have e1:(args++List.replicate (fn.ntmps - args.length) (AV.tup [])).getD n .unk=args.getD n .unk:=by simp[List.getD,qAi hlt]
   have e2:(vs.toArray++Array.replicate (fn.ntmps - vs.toArray.size) undef).getD n undef=vs.getD n undef:=by
    simp_all
   grind
  ·have e1:(args++List.replicate (fn.ntmps - args.length) (AV.tup [])).getD n .unk=.tup []:=by
    grind
   have e2:(vs.toArray++Array.replicate (fn.ntmps - vs.toArray.size) undef).getD n undef=undef:=by
    rw[qAq,qBI (by simp;omega),qCB];split<;>rfl
   rw[e1,e2];exact j6
 have hkl:C.k0.length≤H.length:=qBj hen.klen;refine wp_mono (h C κ _ w hkl hsim) ?_;rintro e a w' ⟨s,κf,hq,hs⟩;have fin:BG P fn.results.toList H.length T hJ s.tmps s.heap→a.defers=[]∧∃v,(results fn a.tmps).run P w'=.ok v w'∧∃v' κ',Ending.returned v=.returned v'∧Leave κ κ' aj H (aA hJ) w w'∧Rel w' κ' (aD aj κ' (aA hJ)) (av hJ (res1 T)) v':=by
  rintro⟨t1,h1,xs,q1,q2,q3⟩;obtain⟨κ1,hs1⟩:=q1 C κf a w' hkl hs;obtain⟨us,u1,u2,u3⟩:=JH hs1 _ _ q2;have hsX:Sim C κ1 ⟨xs,h1⟩ {tmps:=us.toArray,defers:=a.defers} w':={hs1 with
   len:=by simp[u1]
   slot:=fun n hn=>by have:=u2 n hn;simpa[qAq,List.getD] using this}
  obtain⟨κ',hs2⟩:=q3 C κ1 _ w' hkl hsX;have hleave:Leave κ κ' aj H (aA hJ) w w':=by
   refine⟨hs2.klen,by simp only[aA,qAh];exact hJl,hs2.kext,hs2.resv,hs2.obj,?_,hs2.apart,hs2.bound,fun b hb hnl=>hs2.old b ⟨hb,hnl⟩,hs2.kH,hs2.pvsub,hs2.os,hs2.tape,hs2.output⟩;intro l b h1 h2;have hno:=hs2.own l b h1 h2;by_cases hlt:b<w.heap.size
   ·right;apply qAp;intro hne;exact hno ⟨hlt,fun l0 h0 hlv=>hne ⟨l0,h0,hlv⟩⟩
   ·left;omega
  have hT:us.length=(aR hJ T).length:=by have:=hs2.len;simpa using this
  have hslot:∀n,n<(aR hJ T).length→Rel w' κ' (aD aj κ' (aA hJ)) ((aR hJ T).getD n .unk) (us.getD n undef):=fun n hn=>by
   have:=hs2.slot n hn;simpa[qAq,List.getD] using this
  refine⟨hs1.defers,?_⟩;have hm:(fn.results.mapM (RJ a.tmps)).run P w'=.ok us.toArray w':=by
   rw[qCb];simp only[Sem.run_map,u3,Result.andThen_ok]
  rw[MK];simp only[Sem.run_bind,hm,Result.andThen_ok,Sem.run_pure];by_cases h1:us.length=1
  ·match us,h1 with
   | [u],_=>
    match T,hT with
    | [x],_=>
     refine⟨u,by simp,u,κ',rfl,hleave,?_⟩;have:=hslot 0 (by simp[aR]);simpa[aR,res1] using this
  ·refine⟨.tuple us.toArray,by simp[h1],_,κ',rfl,hleave,?_⟩;have hx:av hJ (res1 T)=.tup (aR hJ T):=by
    match T,hT with
    | [],_=>rfl
    | [x],h=>exact(h1 (by simpa[aR] using h)).elim
    | _::_::_,_=>rfl
   rw[hx];exact .tup hT hslot
 cases e with
 | normal=>exact fin hq
 | ret=>exact fin hq
 | exit id=>exact hq.elim
 | goto l=>exact hq.elim
 | panic c=>exact hq.elim
 | outgrown=>exact hq.elim
def ayL(v:Value)(m:Nat)(H':List AObj):QT:=fun e t h=>e=oO v∧∃t1 h1,Le m t h t1 h1∧Le m [] h1 [] H'
theorem avp{P}{f}{fn}{c}{args}{H H'}{v}(hf:P.funcs[f]? =some fn)(hb:fn.body=some c)(hlen:args.length≤fn.ntmps)(hJl:H.length≤H'.length)
  (h:AW P H.length c (ayL v H.length H') (args++List.replicate (fn.ntmps - args.length) (.tup [])) H):Cj P f args H v H':=by
 intro κ aj w vs hen hvl hr
 let C:Ctx:={aj:=aj,old:=fun b=>b<w.heap.size∧∀l,at? κ l=some b→¬live (obj? H l),w0:=w,k0:=κ,pvE:=aD aj κ H}
 refine calls_of_wp hf hb ?_;have hsim:Sim C κ ⟨args++List.replicate (fn.ntmps - args.length) (.tup []),H⟩ {tmps:=vs.toArray++Array.replicate (fn.ntmps - vs.toArray.size) undef,defers:=[]} w:=by
  refine⟨rfl,by simp[hvl],?_,hen.klen,cK.refl _,hen.resv,hen.obj,hen.apart,fun l b h1 h2 ho=>ho.2 l h1 h2,hen.bound,fun b o h=>⟨hen.pvlt b o h,fun l hl=>hen.pvdis b o l h hl⟩,fun b hb=>hb.1,fun _ _=>rfl,rfl,rfl,rfl,qAd _,fun _ _ h _=>h,Evo.refl _ _⟩;intro n hn;simp only[qAf,qBz] at hn;by_cases hlt:n<args.length
  ·have e1:(args++List.replicate (fn.ntmps - args.length) (AV.tup [])).getD n .unk=args.getD n .unk:=by simp[List.getD,qAi hlt]
   have e2:(vs.toArray++Array.replicate (fn.ntmps - vs.toArray.size) undef).getD n undef=vs.getD n undef:=by
    simp_all
   grind
  ·have e1:(args++List.replicate (fn.ntmps - args.length) (AV.tup [])).getD n .unk=.tup []:=by
    grind
   have e2:(vs.toArray++Array.replicate (fn.ntmps - vs.toArray.size) undef).getD n undef=undef:=by
    rw[qAq,qBI (by simp;omega),qCB];split<;>rfl
   rw[e1,e2];exact j6
 have hkl:C.k0.length≤H.length:=qBj hen.klen;refine wp_mono (h C κ _ w hkl hsim) ?_;rintro e a w' ⟨s,κf,⟨he,t1,h1,q1,q2⟩,hs⟩;obtain⟨κ1,hs1⟩:=q1 C κf a w' hkl hs;have hsX:Sim C κ1 ⟨[],h1⟩ {tmps:=#[],defers:=a.defers} w':={hs1 with
  len:=rfl
  slot:=fun n hn=>by cases hn}
 obtain⟨κ',hs2⟩:=q2 C κ1 _ w' hkl hsX;subst he;refine⟨hs1.defers,κ',rfl,?_⟩;refine⟨hs2.klen,hJl,hs2.kext,hs2.resv,hs2.obj,?_,hs2.apart,hs2.bound,fun b hb hnl=>hs2.old b ⟨hb,hnl⟩,hs2.kH,hs2.pvsub,hs2.os,hs2.tape,hs2.output⟩;intro l b h1 h2;have hno:=hs2.own l b h1 h2
 grind
theorem adw{P}{γ}{b}{s}:∀rs (K:List TV→Option γ),aeX (TI.of P) s rs K=some b→∃vs,xD P (gy s) rs=some (aR s.h vs)∧vs.length=rs.length∧K vs=some b
 | [],K,h=>⟨[],rfl,rfl,h⟩
 | .tmp t::r,K,h=>by
  obtain⟨vs,h1,h2,h3⟩:=adw r _ h;exact⟨nth .unk s.t t::vs,by
   show(xD P (gy s) r).map _=_;rw[h1,qAy];show some ((gy s).tmps.getD t .unk::aR s.h vs)=some (av s.h (nth .unk s.t t)::aR s.h vs);rw[show(gy s).tmps.getD t .unk=av s.h (nth .unk s.t t) from Cq _ _ _],by simp[h2],h3⟩
 | .cell a t::r,K,h=>by
  simp only[aeX] at h;split at h
  ·rename_i l off ha;split at h
   ·rename_i cs hl;obtain⟨v,g1,g2⟩:=Y5 (H:=s.h) h;obtain⟨vs,h1,h2,h3⟩:=adw r _ g2;refine⟨v::vs,?_,by simp[h2],h3⟩;have e1:(gy s).tmps.getD a .unk=.ptr l off:=by rw[show(gy s).tmps.getD a .unk=av s.h (nth .unk s.t a) from Cq _ _ _,ha];rfl
    have e2:obj? (gy s).heap l=.box (aU s.h cs):=by rw[show obj? (gy s).heap l=fC s.h (nth .dead s.h l) from jI _ _,hl];rfl
    simp only[xD,e1,e2,g1,h1,qAy,aR]
   ·cases h
  ·cases h
theorem arx{l}:∀{n:Nat},atD l n=true→∀k,k<n→k∈l
 | 0,_,k,h=>by omega
 | n+1,h,k,hk=>by
  simp only[atD,qAa] at h;by_cases e:k=n
  ·subst e;exact mem_iff.1 h.1
  ·exact arx h.2 k (by omega)
mutual
theorem aEv n:∀v,Ic (fun l=>Nat.blt l n) v=rfB n v
 | .ptr _ _=>rfl | .mapr _=>rfl | .own _=>rfl | .psl _ _ _=>rfl | .ap _ _ _ _=>rfl
 | .eptr cs=>Tn n cs
 | .agg cs=>Tn n cs
 | .tup cs=>Tn n cs
 | .func _ cs=>Tn n cs
 | .unk=>rfl | .nilp=>rfl | .nilF=>rfl | .nils=>rfl | .lf _ _=>rfl | .nat _=>rfl
theorem Tn(n:Nat):∀vs,mR (fun l=>Nat.blt l n) vs=gU n vs
 | []=>rfl
 | v::vs=>by simp only[mR,gU,aEv n v,Tn n vs]
end
theorem axH{n}:∀{h:List TObj},(∀l,nth .dead h l≠ .res∧∀cs,nth .dead h l=.box cs→gU n cs=true)→F6 n h=true
 | [],_=>rfl
 | o::h,k=>by
  simp only[F6,qAa];refine⟨?_,axH fun l=>k (l+1)⟩;have:=k 0;change o≠ .res∧∀cs,o=.box cs→gU n cs=true at this
  grind
theorem Vo:∀es us T T' hh,T.length=T'.length→(∀k,k∉je es→nth .unk T k=nth .unk T' k)→dB bI es us T hh=dB bI es us T' hh
 | [],us,T,T',hh,hl,h=>by
  have:T=T':=by
   apply qBW hl;intro i h1 h2;have:=h i (by simp[je]);rw[iD,iD,List.getD,List.getD,qAc h1,qAc h2] at this;exact this
  rw[this]
 | .r k s::es,us,T,T',hh,hl,h=>by
  refine Vo es _ _ _ _ (by simp[hl]) fun j hj=>?_;by_cases e:k=j
  ·subst e;by_cases hk:k<T.length
   ·rw[bL hk,bL (hl▸hk)]
   ·rw[kL (by rw[qAU];omega),kL (by rw[qAU];omega)]
  ·rw[aS e,aS e];exact h j (by simp only[je,qAg,not_or];exact⟨fun x=>e x.symm,hj⟩)
 | .o l s::es,us,T,T',hh,hl,h=>Vo es _ T T' _ hl h
 | .w s::es,us,T,T',hh,hl,h=>Vo es _ T T' _ hl h
theorem Vk:∀es us T S hh,(∀k∈je es,k<T.length)→dB bI es us (T++S) hh=((dB bI es us T hh).1++S,(dB bI es us T hh).2)
 | [],us,T,S,hh,h=>rfl
 | .r k s::es,us,T,S,hh,h=>by
  simp only[dB];rw[List.set_append_left _ _ (h k (by simp[je]))];exact Vk es _ _ S hh fun j hj=>by rw[qAU];exact h j (by simp[je,hj])
 | .o l s::es,us,T,S,hh,h=>Vk es _ T S _ h
 | .w s::es,us,T,S,hh,h=>Vk es _ T S _ h
theorem apN n k:gU n (bZ k)=true:=by
 unfold bZ
 induction k with
 | zero=>rfl
 | succ k ih=>simp only[qCw,gU,rfB,ih,qDl]
theorem aB7 H c:aR H (List.replicate c (.tup []))=List.replicate c (.tup []):=by
 rw[sZ,qDf];rfl
theorem asY o hd us (h:∀is,hd≠ .bx is):(bF bI o hd us).1≠ .res:=by
 cases hd with
 | dead=>intro h;cases h
 | box cs=>intro h;cases h
 | bx is=>exact(h is rfl).elim
 | own e=>simp only[bF];split<;>simp
 | mp e=>simp only[bF];split<;>simp
 | arr e=>simp only[bF];split<;>simp
theorem ahr{P:Program}{R:Type}{e:Ent}{rvs:List ResultVar}{inn:jg (bD e.rs)→Option R}{h r:List TV}{h0 h2:List TObj}{s:DS}{y:R}{out:R→jg (bD e.rs)}(hinn:∀z y,inn z=some y→out y=z)(edrs:dZ (aC e.ps) [] [] e.rs=true)
  (hn:h0.length=aC e.ps) (hH:F6 (aC e.ps) h0=true) (hnr:e.nr=rvs.length) (hst:St (aC e.ps) h0 s) (hK:BF (TI.of P) (aC e.ps) rvs e.rs inn s=some y) (hb:dB bI e.rs (dU _ (out y)) (bZ e.nr) h0=(r,h2)):
  BG P rvs (aC e.ps) r h2 (aR s.h s.t) (aA s.h):=by
 obtain⟨vs,g1,g2,g3⟩:=adw rvs _ hK;obtain⟨g4,g5⟩:=(aY g3).resolve_right fun h=>by cases h.2
 obtain⟨us,q1,q2⟩:=ZN (n:=aC e.ps) (m:=aC e.ps) (T0:=bZ e.nr) hn (qAd _) (apN _ _) hH edrs (by unfold bZ;rw[qBz,g2,hnr]) hst.len
  (fun k _=>.inl (aaT _ _)) (ahR edrs g4 hst.ent) g5
 obtain⟨z,rfl,q3⟩:=NU q1;rw[hinn _ _ q3] at hb;exact⟨_,_,_,Le.refl _ _ _,g1,(q2 _ _ hb).2.2⟩
theorem aaO{R}{ps eds}{h0 h2:List TObj}{r:List TV}{s}{v}{y}(edw:dZ (aC ps) [] [] eds=true)(hn:h0.length=aC ps)(hH:F6 (aC ps) h0=true)(hst:St (aC ps) h0 s)
  (hK:RG (R:=R) (aC ps) (some eds) v s=some y):∃z,y=PZ.er v z∧∀r h2,dB bI eds (dU _ z) (bZ 0) h0=(r,h2)→Le (aC ps) [] (aA s.h) [] (aA h2):=by
 obtain⟨g4,g5⟩:=(aY hK).resolve_right fun h=>by cases h.2
 obtain⟨us,q1,q2⟩:=ZN (n:=aC ps) (m:=aC ps) (T0:=bZ 0) (t':=[]) hn (qAd _) (apN _ _) hH edw rfl hst.len (fun k _=>.inl (aaT _ _)) (ahR edw g4 hst.ent) g5;obtain⟨z,rfl,q3⟩:=NU q1;refine⟨z,(Option.some.inj q3).symm,fun r h2 hb=>?_⟩;obtain⟨e1,_,e3⟩:=q2 r h2 hb;have:r=[]:=qAw.1 e1;subst this;exact e3
theorem ay3{P}{te}{θ}{n}{hs}{E}{fn}{e} inn (hte:wM P te=true)(hmix:P.follows .mixedOrders=true)(hwf:M5 e=true)
  (hna:Nat.ble e.na fn.ntmps=true) (hE:∀e'∈E,ah P te e') (q:∀x,ait (TI.of P) θ n hs E te fn e inn x=e.F x) {x} {y} (hF:e.F x=some y) {t} {h} (hb1:dB bI e.ps (dU _ x) (bZ e.na) []=(t,h)):
  h.length=aC e.ps∧t.length=e.na∧e.na≤fn.ntmps∧F6 (aC e.ps) h=true∧∃c s0,fn.body=some c∧AW P (aC e.ps) c (Out (aC e.ps) h te (RG (aC e.ps) e.pe) (fun s=>RT.ok e.pe (BF (TI.of P) (aC e.ps) fn.results.toList e.rs inn s)) s0 some (fun x s=>match x with
   | .normal=>RT.ok e.pe (BF (TI.of P) (aC e.ps) fn.results.toList e.rs inn s)
   | _=>none) y) (aR h t++List.replicate (fn.ntmps - e.na) (.tup [])) (aA h):=by
 unfold M5 at hwf;rw[qAa,qAa] at hwf;obtain⟨⟨hra,hwf⟩,hwp⟩:=hwf;rw[qAa] at hra;obtain⟨har,hal⟩:=hra;simp only[qAa] at hwf;obtain⟨edps,edrs,psok,rsok⟩:=hwf;have hal:∀k∈je e.ps,k<e.na:=fun k hk=>qAe (qAE.1 hal k hk);have har:=arx har;have hna:=qAe hna;rw[←q x] at hF;unfold ait at hF;cases hbody:fn.body with
 | none=>rw[hbody] at hF;cases hF
 | some c=>
  rw[hbody] at hF;simp only at hF;rw[O6] at hF;have typ:(dU (bD e.ps) x).map U.t=bD e.ps++[]:=by rw[IC,qAr]
  have B1:=rW e.ps (dU _ x) 0 [] [] (bZ e.na) [] [] typ edps (qAd _) rfl;rw[hb1] at B1;simp only at B1;have hul:(bZ e.na).length=e.na:=by unfold bZ;rw[qBz]
  have htl:t.length=e.na:=by rw[B1.tl,hul]
  have hhl:h.length=aC e.ps:=by rw[B1.hl,qAL]
  -- the slots of the whole frame
  have two:dB bI e.ps (dU _ x) (List.replicate fn.ntmps (.tup [])) []=(t++List.replicate (fn.ntmps - e.na) (.tup []),h):=by
   rw[Vo e.ps (dU _ x) (List.replicate fn.ntmps (.tup [])) (bZ e.na++List.replicate (fn.ntmps - e.na) (.tup [])) [] (by rw[qAf,hul,qBz,qBz];omega) (fun k hk=>?_),
    Vk e.ps (dU _ x) (bZ e.na) _ [] (fun k hk=>by rw[hul];exact hal k hk),hb1]
   have hge:e.na≤k:=by
    apply qAp;intro hlt;exact hk (har k (by omega))
   rw[iD,iD,List.getD,List.getD,qAk (by rw[hul];exact hge),hul,qBV,qBV];by_cases hk2:k<fn.ntmps
   ·rw[if_pos hk2,if_pos (by omega)]
   ·rw[if_neg hk2,if_neg (by omega)]
  rw[two] at hF;simp only at hF;have hH:F6 (aC e.ps) h=true:=axH fun l=>by
   by_cases hl:l<aC e.ps
   ·obtain⟨hd,us',e1,e2⟩:=B1.new l hl;rw[qAL] at e2;obtain⟨_,p2,p3⟩:=Kg psok hd e1;rw[e2];refine⟨asY _ hd us' p2,fun cs hc=>?_⟩;obtain⟨ss,rfl,rfl⟩:=Y0 p2 hc;rw[←Tn];exact AY (n:=aC e.ps) (ds:=[]) (fun l hl=>by simp only[qAa] at hl;exact hl.1) ss us' (p3 ss rfl)
   ·rw[kL (by omega)];exact⟨fun h=>(by cases h),fun cs h=>(by cases h)⟩
  have st0:St (aC e.ps) h ⟨t++List.replicate (fn.ntmps - e.na) (.tup []),h,[],[],[],[],[],[]⟩:=
   ⟨⟨fun i k c h1=>(by cases h1),fun d i j h1=>(by cases h1),fun d x h1=>(by cases h1)⟩,qBj hhl.symm,fun l _ _=>.inl rfl⟩
  have main:=aak (n:=n) (hs:=hs) (te:=te) (pn:=RG (aC e.ps) e.pe) (ret:=fun s=>RT.ok e.pe (BF (TI.of P) (aC e.ps) fn.results.toList e.rs inn s)) (m:=aC e.ps) (h0:=h) hE hte hmix c _ 1 _ some _ y st0 hF;have ea:aR h (t++List.replicate (fn.ntmps - e.na) (.tup []))=aR h t++List.replicate (fn.ntmps - e.na) (.tup []):=by rw[sZ,qAY,←sZ,←sZ,aB7]
  simp only at main;rw[ea] at main;exact⟨hhl,htl,hna,hH,c,_,rfl,main⟩
theorem aDw{P}{te}{θ}{n}{hs}{E}{fn}{e} inn (hte:wM P te=true)(hmix:P.follows .mixedOrders=true)(hf:P.funcs[e.f]? =some fn)(hok:j4 P e.f=true)(hwf:M5 e=true)
  (hna:Nat.ble e.na fn.ntmps=true) (hnr:e.nr=fn.results.toList.length) (hinn:∀z y,inn z=some y→e.out y=z) (hE:∀e'∈E,ah P te e') (q:∀x,ait (TI.of P) θ n hs E te fn e inn x=e.F x):ah P te e:=by
 refine⟨hok,hwf,fun x y hF t h hb1=>?_⟩;have hw0:=hwf;unfold M5 at hwf;rw[qAa,qAa] at hwf;obtain⟨⟨_,hwf⟩,hwp⟩:=hwf;simp only[qAa] at hwf;obtain⟨edps,edrs,psok,rsok⟩:=hwf;obtain⟨hhl,htl,hnb,hH,c,s0,hbody,main⟩:=ay3 inn hte hmix hw0 hna hE q hF hb1;have hlH:(aA h).length=aC e.ps:=by rw[aA,qAh,hhl]
 -- a plain end
 have plain:∀(y0:e.R),(∀ex t' h',Out (aC e.ps) h te (RG (aC e.ps) e.pe) (fun s=>RT.ok e.pe (BF (TI.of P) (aC e.ps) fn.results.toList e.rs inn s)) s0 some (fun x s=>match x with
   | .normal=>RT.ok e.pe (BF (TI.of P) (aC e.ps) fn.results.toList e.rs inn s)
   | _=>none) y ex t' h'→(ex=.normal∨ex=.ret)∧∃s',Le (aC e.ps) t' h' (aR s'.h s'.t) (aA s'.h)∧St (aC e.ps) h s'∧BF (TI.of P) (aC e.ps) fn.results.toList e.rs inn s'=some y0)→
   ∀r h2,dB bI e.rs (dU _ (e.out y0)) (bZ e.nr) h=(r,h2)→cZ P e.f (aR h t) (aA h) (av h2 (res1 r)) (aA h2):=fun y0 hout r h2 hb2=>by
  refine azM hf hbody (by rw[Ca];omega) ?_ ?_
  ·have B2:=rW e.rs (dU _ (e.out y0)) (aC e.ps) [] [] (bZ e.nr) h [] (by rw[IC,qAr]) edrs (qAd _) hhl;rw[hb2] at B2;rw[aA,qAh,B2.hl];omega
  ·rw[hlH,Ca,htl];refine main.mono fun ex t' hh' ho=>?_;obtain⟨hx,s',g1,g2,g3⟩:=hout ex t' hh' ho;obtain⟨t1,h1,xs,k1,k2,k3⟩:=ahr (h:=t) hinn edrs hhl hH hnr g2 g3 hb2;rcases hx with rfl | rfl
   ·exact⟨t1,h1,xs,g1.trans k1,k2,k3⟩
   ·exact⟨t1,h1,xs,g1.trans k1,k2,k3⟩
 obtain⟨f,na,ps,nr,rs,R,pe,F,out⟩:=e;simp only at *;cases pe with
 | none=>
  refine plain y fun ex t' h' ho=>?_;cases ho with
  | ret g1 g2 g3 g4=>cases g4;exact⟨.inr rfl,_,g1,g2,g3⟩
  | oO g1 g2 g3 g4=>cases g3
  | go g1 g2 g3 g4=>
   cases ex with
   | normal=>exact⟨.inl rfl,_,g1,g2,g4⟩
   | exit id=>cases g4
   | goto l=>cases g4
   | ret=>cases g4
   | panic c=>cases g4
   | outgrown=>cases g4
 | some eds=>
  simp only[qAa] at hwp;obtain⟨_,edw,_,_⟩:=hwp;have mapok:∀{o:Option R} {r:RT (some eds) R},RT.ok (some eds) o=some r→∃y0,o=some y0∧r=PZ.ok y0:=fun{o r} h=>by
   cases o with
   | none=>cases h
   | some y0=>exact⟨y0,rfl,(Option.some.inj h).symm⟩
  match y,main,plain with
  | PZ.ok y0,main,plain=>
   refine plain y0 fun ex t' h' ho=>?_;cases ho with
   | ret g1 g2 g3 g4=>
    cases g4;obtain⟨y1,e1,e2⟩:=mapok g3;cases e2;exact⟨.inr rfl,_,g1,g2,e1⟩
   | oO g1 g2 g3 g4=>
    cases g4;obtain⟨z,e1,_⟩:=aaO (r:=[]) (h2:=[]) edw hhl hH g2 g3;cases e1
   | go g1 g2 g3 g4=>
    cases ex with
    | normal=>
     obtain⟨y1,e1,e2⟩:=mapok g4;cases e2;exact⟨.inl rfl,_,g1,g2,e1⟩
    | exit id=>cases g4
    | goto l=>cases g4
    | ret=>cases g4
    | panic c=>cases g4
    | outgrown=>cases g4
  | PZ.er v z,main,_=>
   show ∀r h',dB bI eds (dU _ z) (bZ 0) h=(r,h')→Cj P f (aR h t) (aA h) (Bu te v) (aA h');intro r h2 hb2;have B2:=rW eds (dU _ z) (aC ps) [] [] (bZ 0) h [] (by rw[IC,qAr]) edw (qAd _) hhl;rw[hb2] at B2;refine avp hf hbody (by rw[Ca];omega) (by rw[hlH,aA,qAh,B2.hl];omega) ?_;rw[hlH,Ca,htl];refine main.mono fun ex t' hh' ho=>?_;cases ho with
   | ret g1 g2 g3 g4=>
    cases g4;obtain⟨y1,e1,e2⟩:=mapok g3;cases e2
   | oO g1 g2 g3 g4=>
    cases g4;obtain⟨z',e1,e2⟩:=aaO (r:=[]) (h2:=[]) edw hhl hH g2 g3;cases e1;exact⟨rfl,_,_,g1,e2 r h2 hb2⟩
   | go g1 g2 g3 g4=>
    cases ex with
    | normal=>
     obtain⟨y1,e1,e2⟩:=mapok g4;cases e2
    | exit id=>cases g4
    | goto l=>cases g4
    | ret=>cases g4
    | panic c=>cases g4
    | outgrown=>cases g4
end
section
open Go
inductive EOs(P:Program)(te:Nat):List Ent→Prop
 | n:EOs P te []
 | c {e:Ent} {l:List Ent}:ah P te e→EOs P te l→EOs P te (e::l)
theorem EOs.all{P}{te}{l}(h:EOs P te l):∀e∈l,ah P te e:=by
 induction h with
 | n=>intro e he;cases he
 | c h _ ih=>intro e he;rcases qAg.1 he with rfl | he;exact h;exact ih e he
noncomputable def ahs(P)(fn:Func)e:=j4 P e.f&&(M5 e&&(Nat.ble e.na fn.ntmps&&Nat.beq e.nr fn.results.toList.length))
theorem mkE{P}{te}{τ:Nat→TI}{θ}(hτ:τ=TI.of P)(hte:wM P te=true)(hmix:P.follows .mixedOrders=true){n}{hs}{E}{fn}{e}{inn}(hE:EOs P te E)(hf:P.funcs[e.f]? =some fn)(hc:ahs P fn e=true)
  (hinn:∀z y,inn z=some y→e.out y=z) (q:∀x,ait τ θ n hs E te fn e inn x=e.F x):ah P te e:=by
 unfold ahs at hc;simp only[qAa] at hc;subst hτ;exact aDw inn hte hmix hf hc.1 hc.2.1 hc.2.2.1 (qAj hc.2.2.2) hinn hE.all q
theorem iR{P}{te}{fn}{e}(hc:ahs P fn e=true)(h:∀x,e.F x=none):ah P te e:=by
 unfold ahs at hc;simp at hc;exact⟨hc.1,hc.2.1,fun x y hF=>by rw[h x] at hF;cases hF⟩
theorem sm{α:Type}:∀z y:α,some z=some y→y=z:=by grind
end
end Abs
end Go.Proofs.YtneeginmfjageaaGreat
