/-
  The law EvalSets of plain data. Conditions: names are no longer than a string may be; lemmas without a program.
-/
import Derived.Test.YtneeginmfjageaaGreatCW8ox6d719f
set_option linter.unusedSimpArgs false
set_option linter.unusedVariables false
namespace Go.Proofs.YtneeginmfjageaaGreat
namespace Abs
open Go
theorem ar7{w:S_api_World}{s t:Tm}{e:Ty}{x y:Val}(hw:nS w=true)(hs:HT w.env [] s (ak e))(ht:HT w.env [] t (ak e))(h1:aI (iC w) s []=.ok x)(h2:aI (iC w) t []=.ok y):aI (iC w) (wQ 18 s t) []=.ok (gH (x.kids.all (bG y.kids))):=by
 obtain⟨l,h3,h4⟩:=azF (ai0 hw) ht h2;obtain⟨m,rfl,_,hm⟩:=nL.1 (SN hw hs h1);rw[zq];show(aI (iC w) s []).thn (anL 18 (Eu (iC w) t) [])=_;rw[h1];show(Ll (Eu (iC w) t) []).thn _=_;rw[h3];show RR.ok (gH (m.all (uL t.op l)))=RR.ok (gH (m.all (bG y.kids)));congr 2;rw[qBw,qAE,qAE];exact⟨fun h z hz=>by rw[←h4 z (hm z hz)];exact h z hz,fun h z hz=>by rw[h4 z (hm z hz)];exact h z hz⟩
theorem aC4{w:S_api_World}{s t:Tm}{x y:Val}(h1:aI (iC w) s []=.ok x)(h2:aI (iC w) t []=.ok y):aI (iC w) (wQ 10 s t) []=.ok (gH (qp x y)):=by
 rw[zq];show(gD [aI (iC w) s [],aI (iC w) t []]).thn (gX 10)=_;rw[h1,h2];rfl
theorem adb{w:S_api_World}{s t:Tm}{x y:Val}{op:Int}(ho:op=31∨op=32∨op=33){ty:Ty}{v:Val}(h1:aI (iC w) s []=.ok x)(h2:aI (iC w) t []=.ok y)(h:Vald w (wQ op s t) ty v):(∃e,HT w.env [] s (ak e)∧HT w.env [] t (ak e)∧ty=ak e)∧pX (cond (op==31) (x.kids++y.kids) (cond (op==32) (x.kids.filter (bG y.kids)) (x.kids.filter fun z=>!bG y.kids z)))=.ok v:=by
 have he:=h.he;rw[zq] at he;have ht:=h.ht;have key:∃e,HT w.env [] s (ak e)∧HT w.env [] t (ak e)∧ty=ak e:=by
  rcases ho with rfl | rfl | rfl
  ·cases ht with
   | bin _ _ a b=>exact⟨_,a,b,rfl⟩
   | log _ q=>omega
   | qu _ q=>omega
   | eq _ q=>omega
   | ord _ q=>omega
   | inn _ q=>omega
   | num _ q=>omega
   | dres _ q=>omega
   | rres _ q=>omega
   | fam _ q=>omega
  ·cases ht with
   | bin _ _ a b=>exact⟨_,a,b,rfl⟩
   | log _ q=>omega
   | qu _ q=>omega
   | eq _ q=>omega
   | ord _ q=>omega
   | inn _ q=>omega
   | num _ q=>omega
   | dres _ q=>omega
   | rres _ q=>omega
   | fam _ q=>omega
  ·cases ht with
   | bin _ _ a b=>exact⟨_,a,b,rfl⟩
   | log _ q=>omega
   | qu _ q=>omega
   | eq _ q=>omega
   | ord _ q=>omega
   | inn _ q=>omega
   | num _ q=>omega
   | dres _ q=>omega
   | rres _ q=>omega
   | fam _ q=>omega
 refine⟨key,?_⟩;rcases ho with rfl | rfl | rfl
 ·have he:(gD [aI (iC w) s [],aI (iC w) t []]).thn (gX 31)=.ok v:=he;rw[h1,h2] at he;exact he
 ·have he:(gD [aI (iC w) s [],aI (iC w) t []]).thn (gX 32)=.ok v:=he;rw[h1,h2] at he;exact he
 ·have he:(gD [aI (iC w) s [],aI (iC w) t []]).thn (gX 33)=.ok v:=he;rw[h1,h2] at he;exact he
theorem ahh(p:Val→Bool):∀l:List Val,(l.filter fun z=>!p z).length+(l.filter p).length=l.length
 | []=>rfl
 | x::l=>by
  have:=ahh p l;simp only[List.filter_cons,qAm];cases p x<;>simp<;>omega
theorem ajA{l:List Val}(h:l.Pairwise kJ):l.Nodup:=h.imp fun{a b} hab e=>by subst e;exact Cn _ hab
theorem agY(l r:List Val):sortV (l.filter (fun z=>!bG r z)++r)=sortV (l++r):=Vp fun x=>by
 rw[qAn,qAn,qAQ,qAF,qBZ,ne_eq,j3];by_cases h:x∈r<;>simp[h]
theorem awy{l r:List Val}(hl:l.Pairwise kJ)(hr:r.Pairwise kJ):(sortV (l++r)).length+(l.filter (bG r)).length=l.length+r.length:=by
 rw[←agY,(JA _).2,qAf]
 ·have:=ahh (bG r) l;omega
 ·refine qBq.2 ⟨ajA (hl.sublist qCg),ajA hr,fun a ha b hb e=>?_⟩;subst e;have:=(qAQ.1 ha).2;rw[qAF,qBZ,ne_eq,j3] at this;exact this hb
theorem atS(l:List Val)(hv:∀v∈l,qh v)(hl:l.length*56≤140737488355328):Ev (fun n=>GY n l) (msV l):=by
 unfold GY;refine Ev.bind (a:=sortV l) (Ev.of fun n=>?_) ?_
 ·unfold jw;rw[iB (by simpa using hl)];rfl
 ·unfold msV;cases decide (256<((sortV l).length:Int)) with
  | true=>exact Ev.ret _
  | false=>
   refine Ev.bind (YP _ ?_) (Ev.ret _);simp only[qh];refine⟨?_,?_⟩
   ·have:=lD l;omega
   ·have hm:∀v∈sortV l,qh v:=fun v h=>hv v ((dY l v).1 h);generalize sortV l=m at hm;clear hv hl
    induction m with
    | nil=>trivial
    | cons a m ih=>exact⟨hm a (by simp),ih fun v h=>hm v (by simp[h])⟩
theorem apw(w:S_api_World)(s t:Tm)(hs:ZC w.env)(h1:CW s)(h2:CW t):Ev (fun n=>RB n w s t) true:=by
 have hT:∀op a b,CW a→CW b→CW (wQ op a b):=fun op a b ha hb=>⟨by simp,ha,hb,trivial⟩;obtain⟨b1,hb1⟩:=aya w.env;obtain⟨b2,hb2⟩:=ao9 s;obtain⟨b3,hb3⟩:=ao9 t;unfold RB;refine Ev.bind (a:=!(b1&&(b2&&b3))) ?_ ?_
 ·refine Ev.bind hb1 ?_;cases b1 with
  | false=>exact Ev.ret _
  | true=>
   refine Ev.bind hb2 ?_;cases b2 with
   | false=>exact Ev.ret _
   | true=>exact Ev.bind hb3 (Ev.ret _)
 cases(b1&&(b2&&b3)) with
 | false=>exact VZ
 | true=>
  refine Ev.bind (T9 w s hs h1) (Ev.bind (T9 w t hs h2) (Ev.bind (T9 w (wQ 31 s t) hs (hT _ _ _ h1 h2)) (Ev.bind (T9 w (wQ 32 s t) hs (hT _ _ _ h1 h2)) (Ev.bind (T9 w (wQ 33 s t) hs (hT _ _ _ h1 h2)) ?_))));refine Ev.bind (a:=(qm w s).2 !=0 ||((qm w t).2 !=0 ||((qm w (wQ 31 s t)).2 !=0 ||((qm w (wQ 32 s t)).2 !=0 ||(qm w (wQ 33 s t)).2 !=0)))) ?_ ?_
  ·cases(qm w s).2 !=0<;>cases(qm w t).2 !=0<;>cases(qm w (wQ 31 s t)).2 !=0<;>cases(qm w (wQ 32 s t)).2 !=0<;>exact Ev.ret _
  cases hq:((qm w s).2 !=0 ||((qm w t).2 !=0 ||((qm w (wQ 31 s t)).2 !=0 ||((qm w (wQ 32 s t)).2 !=0 ||(qm w (wQ 33 s t)).2 !=0)))) with
  | true=>exact VZ
  | false=>
   simp only[qBv,bne_eq_false_iff_eq] at hq;obtain⟨q1,q2,q3,q4,q5⟩:=hq;obtain⟨ty1,x,v1⟩:=Ki q1;obtain⟨ty2,y,v2⟩:=Ki q2;obtain⟨ty3,u,v3⟩:=Ki q3;obtain⟨ty4,i,v4⟩:=Ki q4;obtain⟨ty5,d,v5⟩:=Ki q5;obtain⟨⟨e,t1,t2,hty⟩,k3⟩:=adb (.inl rfl) v1.he v2.he v3;obtain⟨_,k4⟩:=adb (.inr (.inl rfl)) v1.he v2.he v4;obtain⟨_,k5⟩:=adb (.inr (.inr rfl)) v1.he v2.he v5;rw[v1.hx,v2.hx,v3.hx,v4.hx,v5.hx];obtain⟨l,rfl,hl,fl⟩:=nL.1 (SN v1.hw t1 v1.he);obtain⟨r,rfl,hr,fr⟩:=nL.1 (SN v1.hw t2 v2.he);obtain⟨rfl,c3⟩:=SI k3;obtain⟨rfl,_⟩:=SI k4;obtain⟨rfl,_⟩:=SI k5;have ei:sortV (l.filter (bG r))=l.filter (bG r):=ahO (hl.1.sublist qCg);have ed:sortV (l.filter fun z=>!bG r z)=l.filter fun z=>!bG r z:=ahO (hl.1.sublist qCg);have hu:=awy hl.1 hr.1;have hsum:=ahh (bG r) l;have l1:=hl.2;have r1:=hr.2;have c3:(sortV (l++r)).length≤256:=c3;show Ev (fun n=>Option.bind (cond (IntKind.wrap .i64 (((sortV (l++r)).length:Int)+((sortV (l.filter (bG r))).length:Int))!=IntKind.wrap .i64 ((l.length:Int)+(r.length:Int))) (some true) (some (IntKind.wrap .i64 (((sortV (l.filter fun z=>!bG r z)).length:Int)+((sortV (l.filter (bG r))).length:Int))!=(l.length:Int)))) _) _;rw[ei,ed,wrap64 (by omega) (by omega),wrap64 (by omega) (by omega),wrap64 (by omega) (by omega)];rw[show((((sortV (l++r)).length:Int)+((l.filter (bG r)).length:Int))!=((l.length:Int)+(r.length:Int)))=false by rw[bne_eq_false_iff_eq];omega];rw[show((((l.filter fun z=>!bG r z).length:Int)+((l.filter (bG r)).length:Int))!=(l.length:Int))=false by rw[bne_eq_false_iff_eq];omega];simp only[cond_false,qAb];have he:Good e:=by
    have:=v3.hp;rw[hty] at this;rcases this with h | h
    ·cases h
    ·cases h;assumption
   have ff:∀v∈l.filter (fun z=>!bG r z)++r,qh v:=fun v hv=>by
    rcases qAn.1 hv with hv | hv
    ·exact Zx he v (fl v (qAQ.1 hv).1)
    ·exact Zx he v (fr v hv)
   have lf:(l.filter (fun z=>!bG r z)++r).length≤1000:=by rw[qAf];omega
   refine Ev.bind (a:=l.filter fun z=>!bG r z) (Ev.of fun n=>by
    show app 56 [] (sortV (l.filter fun z=>!bG r z))=_;rw[ed,iB (by simp;omega)];rfl) (Ev.bind (a:=l.filter (fun z=>!bG r z)++r) (Ev.of fun n=>iB (by rw[qAf] at lf;show(_+r.length)*56≤_;omega)) ?_)
   have hms:msV (l.filter (fun z=>!bG r z)++r)=(NZ (l++r),0):=by
    unfold msV;rw[agY,decide_eq_false (by omega)];rfl
   refine Ev.bind ((atS _ ff (by omega)).eq hms) (Ev.bind (ac2 w (wQ 18 s t) hs (hT _ _ _ h1 h2)) (Ev.bind (ac2 w (wQ 10 s t) hs (hT _ _ _ h1 h2)) (Ev.bind (ac2 w (wQ 18 t s) hs (hT _ _ _ h2 h1)) ?_)));have g1:(sH w (wQ 18 s t)).2=0→sH w (wQ 18 s t)=(l.all (bG r),0):=fun h=>by
    obtain⟨_,_,_,v,hv,hx⟩:=holds_zero h;rw[ar7 v1.hw t1 t2 v1.he v2.he] at hv;cases hv;rw[hx,amP];rfl
   have g2:(sH w (wQ 18 t s)).2=0→sH w (wQ 18 t s)=(r.all (bG l),0):=fun h=>by
    obtain⟨_,_,_,v,hv,hx⟩:=holds_zero h;rw[ar7 v1.hw t2 t1 v2.he v1.he] at hv;cases hv;rw[hx,amP];rfl
   have g3:(sH w (wQ 10 s t)).2=0→sH w (wQ 10 s t)=(qp (mkSet l) (mkSet r),0):=fun h=>by
    obtain⟨_,_,_,v,hv,hx⟩:=holds_zero h;rw[aC4 v1.he v2.he] at hv;cases hv;rw[hx,amP]
   have hboth:qp (mkSet l) (mkSet r)=(l.all (bG r)&&r.all (bG l)):=by
    rw[qBw,asU,qAa,qAE,qAE];constructor
    ·intro h;cases h;exact⟨fun z hz=>(j3 _ z).2 hz,fun z hz=>(j3 _ z).2 hz⟩
    ·rintro⟨h,k⟩;rw[Ef l r hl.1 hr.1 fun z=>⟨fun hz=>(j3 _ z).1 (h z hz),fun hz=>(j3 _ z).1 (k z hz)⟩]
   have hall:l.all (bG r)=(((l.filter fun z=>!bG r z).length:Int)==0):=by
    rw[qBw,beq_iff_eq,qAE];constructor
    ·intro h;rw[qDG.2 fun z hz=>by rw[h z hz];simp];rfl
    ·intro h z hz;have h0:=qAw.1 (show(l.filter fun z=>!bG r z).length=0 by omega);have:=qDG.1 h0 z hz;simpa using this
   generalize hS:sH w (wQ 18 s t)=S at g1⊢;generalize hE:sH w (wQ 10 s t)=E at g3⊢;generalize hR:sH w (wQ 18 t s)=R at g2⊢;refine Ev.bind (a:=false) ?_ ?_
   ·show Ev (fun n=>Option.bind (fq n (NZ (l++r)) (NZ (l++r))) _) _;refine Ev.bind ((arL _ _).eq ((asU _ _).2 rfl)) ?_;show Ev (fun n=>cond (E.2==0) _ _) _;cases hc:(E.2==0) with
    | false=>exact Ev.ret _
    | true=>
     have hE':=g3 (eq_of_beq hc);rw[hE'];refine Ev.bind (arL _ _) (Ev.of fun n=>?_);show some (!(qp (mkSet l) (mkSet r)==qp (mkSet l) (mkSet r)))=_;simp
   ·refine Ev.bind (a:=false) ?_ ?_
    ·cases hc:(S.2==0) with
     | false=>exact Ev.ret _
     | true=>
      cases hc2:(R.2==0) with
      | false=>exact Ev.ret _
      | true=>
       cases hc3:(E.2==0) with
       | false=>exact Ev.ret _
       | true=>
        rw[g1 (eq_of_beq hc),g2 (eq_of_beq hc2),g3 (eq_of_beq hc3),hboth];cases l.all (bG r)<;>cases r.all (bG l)<;>exact Ev.ret _
    ·show Ev (fun n=>Option.bind (cond (S.2 !=0) _ (cond (S.1==(((sortV (l.filter fun z=>!bG r z)).length:Int)==0)) _ _)) _) _;rw[ed,←hall];cases hc:(S.2 !=0) with
     | true=>exact Ev.bind VZ (Ev.ret _)
     | false=>
      rw[g1 (by simpa using hc)];simp only[cond_false,beq_self_eq_true,cond_true];exact Ev.bind VZ (Ev.ret _)
end Abs
end Go.Proofs.YtneeginmfjageaaGreat
