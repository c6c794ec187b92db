/-
  The reference's linear form of a term is formE, too. Conditions: none.
-/
import Derived.Test.YtfmdmcenjfkbhaaGreatDoorCP8oxbb2f97
set_option linter.all false
namespace Go.Proofs.YtfmdmcenjfkbhaaGreatDoor
namespace Abs
open Go Go.Proofs
def fr(f:Fo):S_refinementref04_form:=⟨f.ats,f.cs,f.c⟩
def EJ:Option Fo→S_refinementref04_form×Int
 |some f=>(fr f,0)
 |none=>(⟨[],[],0⟩,11)
theorem RJ(n:Nat)(x:Int):zB n x=some (great x):=by
 unfold zB great;cases decide (1000000000<x)<;>rfl
def Uz(p:Tm×Int)(s:List Tm×List Int):LR (List Tm×List Int) (S_refinementref04_form×Int):=
 bif great p.2 then .rt (EJ none)else .nx (bif p.2 !=0 then(s.1++[p.1],s.2++[p.2])else s)
theorem N9:∀(A:List Tm) (C:List Int) (s:List Tm×List Int),A.length=C.length→bW Uz (fun s=>s) (A.zip C) s=bif C.any great then .rt (EJ none)else .nx (s.1++(fJ A C).1,s.2++(fJ A C).2)
 |[],[],s,_=>by simp[bW,fJ]
 |a::A,c::C,s,h=>by
  rw[qCq,bW,fJ,qBR];unfold Uz;cases hg:great c with
  |true=>rfl
  |false=>
   simp only[cond_false,qCj];have ih:=fun s=>N9 A C s (by simpa using h);unfold Uz at ih;rw[ih];cases C.any great with
   |true=>rfl
   |false=>
    cases c !=0 with
    |true=>simp
    |false=>rfl
theorem Tq(A:List Tm)(C:List Int)(c:Int)(hl:A.length=C.length)(la:A.length≤4000):Ev (fun n=>Ea n ⟨A,C,c⟩ n (0,[],[])) (bif C.any great then .rt (EJ none)else .nx (fJ A C)):=by
 have hz:(A.zip C).length=A.length:=by rw[qBH];omega
 have main:=wQ (A.zip C) (fun n=>qp n ⟨A,C,c⟩) (fun i s=>(i,s.1,s.2)) Uz (fun s=>s)
  (fun suf s=>s.1.length=s.2.length∧s.1.length+suf.length≤4000)
  (fun n rec s=>by
   simp only[qp];rw[decide_eq_false (by rw[hz];omega)];rfl)
  (fun pre x suf s hl' hI=>by
   obtain⟨i1,i3⟩:=hI;have hpl:pre.length<A.length:=by rw[←hz,hl'];simp
   obtain⟨ea,ec⟩:=LH hl';simp only[qAl]at i3;refine⟨⟨0,fun n _ rec=>?_⟩,fun s' hs'=>?_⟩
   ·simp only[qp,ea,ec,qAb,RJ];rw[decide_eq_true (show(pre.length:Int)<(A.length:Int) by omega),cond_true];unfold Uz;cases hg:great x.2 with
    |true=>rfl
    |false=>
     simp only[cond_false];cases hd:x.2 !=0 with
     |true=>
      simp only[cond_true];rw[dU (by simp only[qAl,qAx];omega) (by omega)];simp only[qAb];rw[dU (by simp only[qAl,qAx];omega) (by omega)];rfl
     |false=>rfl
   ·unfold Uz at hs';cases hg:great x.2 with
    |true=>rw[hg]at hs';cases hs'
    |false=>
     rw[hg]at hs';cases hs';cases hd:x.2 !=0 with
     |true=>simp only[cond_true,qAj,qAl,qAx];omega
     |false=>simp only[cond_false];omega)
  (s0:=([],[])) ⟨rfl,by simp only[qAx];omega⟩
 rw[N9 A C _ hl]at main;simp only[qAC]at main;exact main
theorem C9(A:List Tm)(C:List Int)(c:Int)(hl:A.length=C.length)(la:A.length≤4000):Ev (fun n=>nP n ⟨A,C,c⟩) (EJ (Aw A C c)):=by
 simp only[nP,RJ,qAb];unfold Aw;cases hg:great c with
 |true=>exact Ev.ret _
 |false=>
  simp only[cond_false,qCj];refine Ev.bind (Tq A C c hl la) ?_;cases C.any great with
  |true=>exact Ev.ret _
  |false=>exact Ev.ret _
theorem QA(k:Int):∀(C s:List Int),bW (ρ:=S_refinementref04_form×Int) (fun x (s:List Int)=>.nx (s++[gZ (k*x)])) (fun s=>s) C s=.nx (s++C.map fun c=>gZ (k*c))
 |[],s=>by simp[bW]
 |x::C,s=>by
  rw[bW];show bW _ _ C (s++[gZ (k*x)])=_;rw[QA k C];simp
theorem VL(A:List Tm)(C:List Int)(c k:Int)(lc:C.length≤4000):Ev (fun n=>FD n ⟨A,C,c⟩ k n (0,[])) (.nx (C.map fun c=>gZ (k*c))):=by
 have main:=wQ C (fun n=>rH n ⟨A,C,c⟩ k) (fun i s=>(i,s)) (fun x s=>.nx (s++[gZ (k*x)])) (fun s=>s)
  (fun suf s=>s.length+suf.length≤4000)
  (fun n rec s=>by
   simp only[rH];rw[decide_eq_false (by omega)];rfl)
  (fun pre x suf s hl' hI=>by
   have hpl:pre.length<C.length:=by rw[hl'];simp
   have ec:idx C (pre.length:Int)=some x:=by rw[hl'];exact mJ pre x suf
   simp only[qAl]at hI;refine⟨⟨0,fun n _ rec=>?_⟩,fun s' hs'=>?_⟩
   ·simp only[rH,ec,qAb];rw[decide_eq_true (show(pre.length:Int)<(C.length:Int) by omega),cond_true];rw[dU (by simp only[qAl,qAx];omega) (by omega)];rfl
   ·cases hs';simp only[qAj,qAl,qAx];omega)
  (s0:=[]) (by simp only[qAx];omega)
 rw[QA]at main;simp only[qAC]at main;exact main
theorem F5(g:Fo)(k:Int)(hg:GoodF g)(lg:g.ats.length≤2000):Ev (fun n=>sG n (fr g) k) (EJ (mU (dN bJ k g))):=by
 have hl:=hg.len;rw[←WM hg k];simp only[sG,fr];refine Ev.bind (VL g.ats g.cs g.c k (by omega)) ?_;exact Ev.bind (C9 g.ats (g.cs.map fun c=>gZ (k*c)) (gZ (k*g.c)) (by rw[qAi];exact hl) (by omega)) (Ev.ret _)
theorem Ob(p:Tm→Bool):∀(A:List Tm) (i acc:Int),bW (ρ:=S_refinementref04_form×Int) (fun x (s:Int×Int)=>.nx (bif p x then s.2 else s.1,s.2+1)) (fun s=>s.1) A (acc,i)=.nx (gX p i A acc)
 |[],_,_=>rfl
 |x::A,i,acc=>by
  rw[bW,gX];exact Ob p A (i+1) _
theorem W9(A:List Tm)(C:List Int)(g:S_refinementref04_form)(j:Int)(a:Tm)(hj:idx g.atoms j=some a):Ev (fun n=>Ii n g (j,A,C) n (-1,0)) (.nx (gX (fun b=>bn b a) 0 A (-1))):=by
 have main:=wQ A (fun n=>uj n g (j,A,C)) (fun i (s:Int×Int)=>(s.1,i)) (fun x s=>.nx (bif bn x a then s.2 else s.1,s.2+1)) (fun s=>s.1)
  (fun suf s=>s.2+suf.length=A.length)
  (fun n rec s=>by
   simp only[uj];rw[decide_eq_false (by omega)];rfl)
  (fun pre x suf s hl' hI=>by
   have hpl:pre.length<A.length:=by rw[hl'];simp
   have hlen:A.length=pre.length+(suf.length+1):=by rw[hl'];simp
   have ec:idx A (pre.length:Int)=some x:=by rw[hl'];exact mJ pre x suf
   simp only[qAl]at hI;have hs2:s.2=(pre.length:Int):=by omega
   obtain⟨N,hN⟩:=TJ x a;refine⟨⟨N,fun n hn rec=>?_⟩,fun s' hs'=>?_⟩
   ·simp only[uj,ec,hj,qAb];rw[decide_eq_true (show(pre.length:Int)<(A.length:Int) by omega),cond_true];have hN:=hN n hn;simp only at hN;rw[hN];simp only[qAb];rw[hs2];cases bn x a<;>rfl
   ·cases hs';show s.2+1+(suf.length:Int)=_;omega)
  (s0:=((-1:Int),(0:Int))) (by show(0:Int)+(A.length:Int)=_;omega)
 rw[Ob]at main;exact main
theorem Oy{α:Type}(p:α→Bool):∀(A:List α) (i acc:Int),gX p i A acc=acc∨(i≤gX p i A acc∧gX p i A acc<i+A.length)
 |[],_,_=>.inl rfl
 |x::A,i,acc=>by
  rw[gX,qAl];rcases Oy p A (i+1) (bif p x then i else acc)with h|h
  ·rw[h];cases p x with
   |true=>right;simp only[cond_true];omega
   |false=>exact .inl rfl
  ·right;omega
theorem NT(k:Int):∀(r:List (Tm×Int)) (s:List Tm×List Int),bW (ρ:=S_refinementref04_form×Int) (fun p s=>.nx (zX k s p.1 p.2)) (fun s=>s) r s=.nx (qx k r s)
 |[],s=>rfl
 |p::r,s=>by rw[bW,qx];exact NT k r _
theorem Xp(g:Fo)(k:Int)(A:List Tm)(C:List Int)(hg:g.ats.length=g.cs.length)(hA:A.length=C.length)(la:A.length≤2000)(lg:g.ats.length≤2000):
  Ev (fun n=>Bt n ⟨g.ats,g.cs,g.c⟩ k n (0,A,C)) (.nx (qx k (g.ats.zip g.cs) (A,C))):=by
 have hz:(g.ats.zip g.cs).length=g.ats.length:=by rw[qBH];omega
 have main:=wQ (g.ats.zip g.cs) (fun n=>uq n ⟨g.ats,g.cs,g.c⟩ k) (fun i s=>(i,s.1,s.2)) (fun p s=>.nx (zX k s p.1 p.2)) (fun s=>s)
  (fun suf s=>s.1.length=s.2.length∧s.1.length+suf.length≤4000)
  (fun n rec s=>by
   simp only[uq];rw[decide_eq_false (by rw[hz];omega)];rfl)
  (fun pre x suf s hl' hI=>by
   obtain⟨i1,i3⟩:=hI;have hpl:pre.length<g.ats.length:=by rw[←hz,hl'];simp
   obtain⟨ea,ec⟩:=LH hl';obtain⟨N,hN⟩:=W9 s.1 s.2 ⟨g.ats,g.cs,g.c⟩ (pre.length:Int) x.1 ea;simp only[qAl]at i3;refine⟨⟨N,fun n hn rec=>?_⟩,fun s' hs'=>?_⟩
   ·have hN:=hN n hn;simp only at hN;simp only[uq,hN,ea,ec,qAb];rw[decide_eq_true (show(pre.length:Int)<(g.ats.length:Int) by omega),cond_true];simp only[LR.el];unfold zX;cases hd:decide (gX (fun b=>bn b x.1) 0 s.1 (-1)<0)with
    |true=>
     simp only[cond_true];rw[dU (by simp only[qAl,qAx];omega) (by omega)];simp only[qAb];rw[dU (by simp only[qAl,qAx];omega) (by omega)];rfl
    |false=>
     have hj:=of_decide_eq_false hd;rcases Oy (fun b=>bn b x.1) s.1 0 (-1)with h|⟨h,h'⟩
     ·omega
     ·rw[Yq h (by omega)];rfl
   ·cases hs';unfold zX;cases hd:decide (gX (fun b=>bn b x.1) 0 s.1 (-1)<0)with
    |true=>simp only[cond_true,qAj,qAl,qAx];omega
    |false=>simp only[cond_false,upd,qAD];omega)
  (s0:=(A,C)) ⟨hA,by show A.length+_≤_;omega⟩
 rw[NT]at main;exact main
theorem ZC(k:Int)(s:List Tm×List Int)(a:Tm)(c:Int)(h:s.1.length=s.2.length):(zX k s a c).1.length=(zX k s a c).2.length∧(zX k s a c).1.length≤s.1.length+1:=by
 unfold zX;cases decide (gX (fun b=>bn b a) 0 s.1 (-1)<0)with
 |true=>simp only[cond_true,qAj,qAl,qAx];omega
 |false=>simp only[cond_false,upd,qAD];omega
theorem Og(k:Int):∀(r:List (Tm×Int)) (s:List Tm×List Int),s.1.length=s.2.length→(qx k r s).1.length=(qx k r s).2.length∧(qx k r s).1.length≤s.1.length+r.length
 |[],s,h=>⟨h,qAq _⟩
 |p::r,s,h=>by
  obtain⟨h1,h2⟩:=ZC k s p.1 p.2 h;obtain⟨h3,h4⟩:=Og k r _ h1;rw[qx,qAl];exact⟨h3,by omega⟩
theorem RN(f g:Fo)(k:Int)(hf:GoodF f)(hg:GoodF g)(lf:f.ats.length≤2000)(lg:g.ats.length≤2000):Ev (fun n=>y7 n (fr f) (fr g) k) (EJ (mU (dN f k g))):=by
 rw[←aaC hf hg k];have hfl:=hf.len;have c1:app 104 ([]:List Tm) f.ats=some f.ats:=by rw[dU (by simp;omega) (by omega)];rfl
 have c2:app 8 ([]:List Int) f.cs=some f.cs:=by rw[dU (by simp;omega) (by omega)];rfl
 have e:(fun n=>y7 n (fr f) (fr g) k)=fun n=>(Bt n (fr g) k n (0,f.ats,f.cs)).bind (LR.el (fun(s2:(List Tm)×(List Int))=>((nP n (S_refinementref04_form.mk s2.1 s2.2 (gZ (f.c+gZ (k*g.c))))).bind fun(x3:S_refinementref04_form×Int)=>some (x3.1,x3.2))) (fun r=>some r)):=by
  funext n;show(app 104 ([]:List Tm) f.ats).bind _=_;rw[c1,qAb];show(app 8 ([]:List Int) f.cs).bind _=_;rw[c2,qAb];rfl
 rw[e];refine Ev.bind (Xp g k f.ats f.cs hg.len hfl lf lg) ?_;obtain⟨q1,q2⟩:=Og k (g.ats.zip g.cs) (f.ats,f.cs) hfl;have h3:(g.ats.zip g.cs).length≤g.ats.length:=by rw[qBH];exact qCX ..
 have q2:(qx k (g.ats.zip g.cs) (f.ats,f.cs)).1.length≤f.ats.length+(g.ats.zip g.cs).length:=q2;exact Ev.bind (C9 _ _ _ q1 (by omega)) (Ev.ret _)
theorem YZ:∀t:Tm,bP t=true→lV t≤2000→Ev (fun n=>wH n t) (EJ (dQ t)):=Tm.ind fun op nm m ty ks ih hv hn=>by
 have hkv:=xL hv;have hnb:fG (.mk op nm m ty ks)=true:=(Wf.node (vD hv)).1;have hg:=gQ (.mk op nm m ty ks) hv;refine Ev.succ ?_;show Ev (fun n=>uJ n (wH n) (.mk op nm m ty ks)) _;unfold uJ;simp only[Tm.op,Tm.n,Tm.kids];rw[dQ,yK]at hg⊢;unfold PO at hg⊢;cases h19:op==19 with
 |true=>
  rw[h19]at hg;obtain⟨gf,_⟩:=hg ⟨[],[],m⟩ rfl;have hm:great m=false:=gf.c;have e:Aw [] [] m=some ⟨[],[],m⟩:=by
   unfold Aw;rw[hm];rfl
  have h:=C9 [] [] m rfl (by decide);rw[e]at h;exact Ev.bind h (Ev.ret _)
 |false=>
  clear hg;simp only[cond_false];cases h21:op==21 with
  |true=>
   have hop:op=21:=beq_iff_eq.1 h21;subst hop;obtain⟨a,rfl⟩:=abH hnb;have ha:=ih a (by simp) (hkv a (by simp)) (by rw[lV,fU]at hn;omega);simp only[cond_true,qAb,qAz,qBM];refine Ev.bind (Ev.ret a) ?_;cases e0:dQ a with
   |none=>rw[e0]at ha;exact Ev.bind ha (Ev.ret _)
   |some f=>
    rw[e0]at ha;obtain⟨gf,lf⟩:=gQ a (hkv a (by simp)) f e0;rw[lV,fU]at hn;have h1:=F5 f (-1) gf (by omega);rw[Qp gf]at h1;exact Ev.bind ha (Ev.bind h1 (Ev.ret _))
  |false=>
   simp only[cond_false];cases h22:op==22 ||op==23 with
   |true=>
    have ho:op=22∨op=23∨op=24:=by
     rcases Bool.or_eq_true_iff.1 h22 with h|h
     ·exact .inl (beq_iff_eq.1 h)
     ·exact .inr (.inl (beq_iff_eq.1 h))
    obtain⟨a,b,rfl⟩:=Pp ho hnb;have ha:=ih a (by simp) (hkv a (by simp)) (by rw[lV,fU]at hn;omega);have hb:=ih b (by simp) (hkv b (by simp)) (by rw[lV,fU,fU]at hn;omega);rw[lV,fU,fU]at hn;have hcond:(cond (op==22) (some (op==22)) (cond (op==23) (some (op==23)) (some (op==24))):Option Bool)=some true:=by
     cases h:op==22 with
     |true=>rfl
     |false=>rw[h,qCj]at h22;rw[h22];rfl
    simp only[hcond,qAb,cond_true,qAz,qBM];refine Ev.bind (Ev.ret a) ?_;cases e0:dQ a with
    |none=>rw[e0]at ha;exact Ev.bind ha (Ev.ret _)
    |some f=>
     rw[e0]at ha;refine Ev.bind ha ?_;cases e1:dQ b with
     |none=>rw[e1]at hb;exact Ev.bind hb (Ev.ret _)
     |some g=>
      rw[e1]at hb;obtain⟨gf,lf⟩:=gQ a (hkv a (by simp)) f e0;obtain⟨gg,lg⟩:=gQ b (hkv b (by simp)) g e1;refine Ev.bind hb ?_;cases h2:op==22 with
      |true=>
       have h3:(op==23)=false:=by
        rw[beq_iff_eq.1 h2];rfl
       rw[h3];exact Ev.bind (RN f g 1 gf gg (by omega) (by omega)) (Ev.ret _)
      |false=>
       have h3:(op==23)=true:=by
        rw[h2,qCj]at h22;exact h22
       rw[h3];exact Ev.bind (RN f g (-1) gf gg (by omega) (by omega)) (Ev.ret _)
   |false=>
    rw[qBe]at h22;obtain⟨h2,h3⟩:=h22;cases h24:op==24 with
    |false=>
     rw[h2,h3];exact Ev.ret _
    |true=>
     obtain⟨a,b,rfl⟩:=Pp (.inr (.inr (beq_iff_eq.1 h24))) hnb;have ha:=ih a (by simp) (hkv a (by simp)) (by rw[lV,fU]at hn;omega);have hb:=ih b (by simp) (hkv b (by simp)) (by rw[lV,fU,fU]at hn;omega);rw[lV,fU,fU]at hn;simp only[h2,h3,qAb,cond_true,cond_false,qAz,qBM];refine Ev.bind (Ev.ret a) ?_;cases e0:dQ a with
     |none=>rw[e0]at ha;exact Ev.bind ha (Ev.ret _)
     |some f=>
      rw[e0]at ha;refine Ev.bind ha ?_;cases e1:dQ b with
      |none=>rw[e1]at hb;exact Ev.bind hb (Ev.ret _)
      |some g=>
       rw[e1]at hb;obtain⟨gf,lf⟩:=gQ a (hkv a (by simp)) f e0;obtain⟨gg,lg⟩:=gQ b (hkv b (by simp)) g e1;refine Ev.bind hb ?_;simp only[qAb];cases a0:f.ats.isEmpty with
       |true=>
        have z:f.ats=[]:=qBa.1 a0;have hz:(((EJ (some f)).1.atoms.length:Int)==0)=true:=by
         show((f.ats.length:Int)==0)=true;rw[z];rfl
        simp only[hz,cond_true];exact Ev.bind (F5 g f.c gg (by omega)) (Ev.ret _)
       |false=>
        have hz:(((EJ (some f)).1.atoms.length:Int)==0)=false:=by
         show((f.ats.length:Int)==0)=false;refine beq_eq_false_iff_ne.2 ?_;have:f.ats≠[]:=fun h=>by rw[h]at a0;cases a0
         have:=qBm.2 this;omega
        simp only[hz,cond_false];cases a1:g.ats.isEmpty with
        |true=>
         have z:g.ats=[]:=qBa.1 a1;have hz:(((EJ (some g)).1.atoms.length:Int)==0)=true:=by
          show((g.ats.length:Int)==0)=true;rw[z];rfl
         simp only[hz,cond_true];exact Ev.bind (F5 f g.c gf (by omega)) (Ev.ret _)
        |false=>
         have hz:(((EJ (some g)).1.atoms.length:Int)==0)=false:=by
          show((g.ats.length:Int)==0)=false;refine beq_eq_false_iff_ne.2 ?_;have:g.ats≠[]:=fun h=>by rw[h]at a1;cases a1
          have:=qBm.2 this;omega
         simp only[hz,cond_false];exact Ev.ret _
theorem Zv{op:Int}{nm:Str}{m:Int}{ty:Ty}{ks:List Tm}(h:fG (.mk op nm m ty ks)=true):uE ty=true:=by
 simp only[fG,qAa]at h;have h5:=h.2.2.2;unfold tyB at h5;simp only[Tm.op,Tm.ty]at h5;cases h29:op==29 with
 |true=>
  rw[h29]at h5;simp only[cond_true,qAa]at h5;exact(Sw h5.1).1
 |false=>
  rw[h29]at h5;simp only[cond_false]at h5;obtain⟨k,n,l⟩:=ty;unfold yL at h5;simp only[Ty.kind,Ty.name,Ty.kids,qAa,beq_iff_eq]at h5;have:l=[]:=qAR.1 (by omega);subst this;simp[uE,Bg]
theorem Qx:∀t:Ty,uE t=true→Ev (fun n=>jV n t) t:=Ty.ind fun k nm ks ih hok=>by
 refine Ev.succ ?_;show Ev (fun n=>nR n _ (.mk k nm ks)) _;unfold nR;simp only[uE,qAa]at hok;have h:=zm ks (fun n k' i s=>wV n (jV n) (.mk k nm ks) k' (i,s)) (fun n x s=>(jV n x).bind fun x2=>app 48 s [x2]) (fun x s=>s++[x]) (fun s=>s) (fun suf s=>s.length+suf.length≤2)
  (fun n k' i s=>by
   show cond _ _ _=_;congr 1;congr 1;simp only[qBx];rfl)
  (fun x suf s hx hs=>by
   simp at hs;refine⟨Ev.bind (ih x hx (Dr hok.2 x hx)) ?_,?_⟩
   ·rw[dU (by simp;omega) (by omega)];exact Ev.ret _
   ·simp;omega) (s0:=([]:List Ty)) (by simpa using hok.1.1)
 rw[qL]at h;exact Ev.bind h (Ev.ret _)
theorem Ro:∀t:Tm,∀d:Int,Wf d t→Ev (fun n=>jf n t) t:=Tm.ind fun op nm m ty ks ih d hw=>by
 obtain⟨hnode,_,hks,hkw⟩:=hw.node;refine Ev.succ ?_;show Ev (fun n=>nI n (jf n) (.mk op nm m ty ks)) _;unfold nI;simp only[Tm.op,Tm.name,Tm.n,Tm.ty];refine Ev.bind (Qx ty (Zv hnode)) ?_;have h:=zm (ρ:=Tm) ks (fun n k i s=>wW n (jf n) (.mk op nm m ty ks) k (i,s)) (fun n x s=>(jf n x).bind fun y=>app 104 s [y]) (fun x s=>s++[x]) (fun s=>s) (fun suf s=>s.length+suf.length≤2000)
  (fun n k i s=>by
   show cond _ _ _=_;congr 1;congr 1;funext x;simp only[qBx];rfl)
  (fun x suf s hx hs=>by
   simp only[qAl]at hs;refine⟨Ev.bind (ih x hx (d+1) (hkw x hx)) ?_,by simp only[qAj,qBO];omega⟩;rw[dU (by simp;omega) (by omega)];exact Ev.ret _) (s0:=[]) (by simp;omega)
 rw[qL,qAC]at h;exact Ev.bind h (Ev.ret _)
theorem I7(ks:List Tm)(hl:ks.length≤2000)(ih:∀x∈ks,Ev (fun n=>qE n x) x):Ev (fun n=>nu n ks) ks:=by
 refine Ev.succ ?_;show Ev (fun n=>uO n (nu n) (qE n) ks) _;unfold uO;have h:=zm (ρ:=List Tm) ks (fun n k i s=>Fv n (nu n) (qE n) ks k (s,i)) (fun n x s=>(qE n x).bind fun y=>app 104 s [y]) (fun x s=>s++[x]) (fun s=>s) (fun suf s=>s.length+suf.length≤2000)
  (fun n k i s=>by
   show cond _ _ _=_;congr 1;congr 1;funext x;simp only[qBx];rfl)
  (fun x suf s hx hs=>by
   simp only[qAl]at hs;refine⟨Ev.bind (ih x hx) ?_,by simp only[qAj,qBO];omega⟩;rw[dU (by simp;omega) (by omega)];exact Ev.ret _) (s0:=[]) (by simp;omega)
 rw[qL,qAC]at h;exact Ev.bind h (Ev.ret _)
theorem Zg:∀t:Tm,∀d:Int,Wf d t→Ev (fun n=>qE n t) t:=Tm.ind fun op nm m ty ks ih d hw=>by
 obtain⟨hnode,_,hks,hkw⟩:=hw.node;refine Ev.succ ?_;show Ev (fun n=>zf n (nu n) (qE n) (.mk op nm m ty ks)) _;unfold zf;simp only[Tm.op,Tm.name,Tm.n,Tm.ty,Tm.kids];exact Ev.bind (Tp ty (Zv hnode)) (Ev.bind (I7 ks (by omega) fun x hx=>ih x hx (d+1) (hkw x hx)) (Ev.ret _))
theorem Oz:∀(ks:List Tm),(∀x∈ks,Ev (fun n=>jG n x x) true)→Ev (fun n=>jM n ks ks) true:=fun ks ih=>by
 refine Ev.succ ?_;show Ev (fun n=>qU n (jM n) (jG n) ks ks) _;unfold qU;simp only[Ga,cond_false];have h:=uK ks (fun n k i=>AB n (jM n) (jG n) ks ks k i) (fun n x=>(jG n x x).bind fun b=>some (!b)) (fun _=>false) false
  (fun n k i=>by
   show cond _ _ _=_;congr 1;cases hx:idx ks i with
   |none=>rfl
   |some x=>simp only[qAb,qBx];rfl)
  (fun x hx=>Ev.bind (ih x hx) (Ev.ret _))
 rw[R7]at h;exact Ev.bind h (Ev.ret _)
theorem ZA:∀t:Tm,Ev (fun n=>jG n t t) true:=Tm.ind fun op nm m ty ks ih=>by
 refine Ev.succ ?_;show Ev (fun n=>rQ n (jM n) (jG n) (.mk op nm m ty ks) (.mk op nm m ty ks)) _;unfold rQ;simp only[beq_self_eq_true,cond_true];refine Ev.bind (a:=true) (Ev.bind (Tz ty) ?_) (Ev.ret _);simp only[cond_true,Tm.kids];exact Ev.bind (a:=true) (Oz ks ih) (Ev.ret _)
theorem Yz(l:List Int):Ev (fun n=>vM n l l) true:=by
 unfold vM;simp only[Ga,cond_false];have h1:=uK l (fun n k i=>Cu n l l k i) (fun _ _=>some false) (fun _=>false) false
  (fun n k i=>by
   show cond _ _ _=_;congr 1;cases hx:idx l i with
   |none=>rfl
   |some x=>simp only[qAb,Ga,cond_false];rfl)
  (fun x _=>Ev.ret _)
 rw[R7]at h1;exact Ev.bind h1 (Ev.ret _)
def aa3:Option Fo→List Tm×List Int×Int×Int
 |some f=>(f.ats,f.cs,f.c,0)
 |none=>([],[],0,11)
theorem U7{ρ:Type}:∀(l s:List Tm),bW (ρ:=ρ) (fun x (s:List Tm)=>.nx (s++[x])) (fun s=>s) l s=.nx (s++l)
 |[],s=>by simp[bW]
 |x::l,s=>by
  rw[bW];show bW _ _ l (s++[x])=_;rw[U7 l];simp
theorem acg(f:Fo)(hf:GoodF f)(lf:f.ats.length≤2000):Ev (fun n=>kR n ⟨f.ats,f.cs,f.c⟩ n (0,[])) (.nx f.ats):=by
 have main:=wQ f.ats (fun n=>mE n ⟨f.ats,f.cs,f.c⟩) (fun i s=>(i,s)) (fun x s=>.nx (s++[x])) (fun s=>s)
  (fun suf s=>s.length+suf.length≤4000)
  (fun n rec s=>by
   simp only[mE];rw[decide_eq_false (by omega)];rfl)
  (fun pre x suf s hl' hI=>by
   have hpl:pre.length<f.ats.length:=by rw[hl'];simp
   have ec:idx f.ats (pre.length:Int)=some x:=by rw[hl'];exact mJ pre x suf
   have hx:x∈f.ats:=by rw[hl'];simp
   obtain⟨N,hN⟩:=Ro x 1 (vD (hf.val x hx));simp only[qAl]at hI;refine⟨⟨N,fun n hn rec=>?_⟩,fun s' hs'=>?_⟩
   ·have hN:=hN n hn;simp only at hN;simp only[mE,ec,hN,qAb];rw[decide_eq_true (show(pre.length:Int)<(f.ats.length:Int) by omega),cond_true];rw[dU (by simp only[qAl,qAx];omega) (by omega)];have e1:∀z:Tm,idx (s++[z]) (s.length:Int)=some z:=fun z=>mJ s z [];have e2:∀z:Tm,upd (s++[z]) (s.length:Int) x=s++[x]:=fun z=>by simp[upd]
    simp only[qAb,e1,e2]
   ·cases hs';simp only[qAj,qAl,qAx];omega)
  (s0:=[]) (by simp only[qAx];omega)
 rw[U7]at main;exact main
theorem WW(t:Tm)(hS:mq t):Ev (fun n=>nW n t) (bif bP t then aa3 (dQ t)else([],[],0,1)):=by
 unfold nW;refine Ev.bind (Eu t hS) ?_;cases hv:bP t with
 |false=>exact Ev.ret _
 |true=>
  simp only[qAT,cond_true,cond_false];have h:=XQ t hv;cases e0:dQ t with
  |none=>rw[e0]at h;exact Dz h (Ev.ret _)
  |some f=>
   rw[e0]at h;obtain⟨gf,lf⟩:=gQ t hv f e0;have hn:=CZ hv;have hl:=gf.len;refine rF h (Ev.bind (acg f gf (by omega)) ?_);have c2:∀n,slices_Clone_int n f.cs=some f.cs:=fun n=>by
    unfold slices_Clone_int;rw[dU (by simp;omega) (by omega)];rfl
   show Ev (fun n=>(slices_Clone_int n f.cs).bind fun x3=>some (f.ats,x3,f.c,0)) _;simp only[c2,qAb];exact Ev.ret _
theorem WL(t:Tm):Ev (fun n=>Am n t) (bif bP t then aa3 (dQ t)else([],[],0,1)):=by
 unfold Am;refine Ev.bind (Bq t) ?_;cases hv:bP t with
 |false=>exact Ev.ret _
 |true=>
  simp only[qAT,cond_true,cond_false];have h:=YZ t hv (CZ hv);cases e0:dQ t with
  |none=>
   rw[e0]at h;refine Ev.bind h ?_;refine Ev.bind (a:=([]:List Tm)) (I7 [] (by simp) fun x hx=>by cases hx) ?_;have c2:app 8 ([]:List Int) ([]:List Int)=some []:=by rw[dU (by simp) (by omega)];rfl
   show Ev (fun n=>(app 8 ([]:List Int) ([]:List Int)).bind fun x4=>some (([]:List Tm),x4,(0:Int),(11:Int))) _;rw[c2];exact Ev.ret _
  |some f=>
   rw[e0]at h;obtain⟨gf,lf⟩:=gQ t hv f e0;have hn:=CZ hv;have hl:=gf.len;refine Ev.bind h (Ev.bind (a:=f.ats) (I7 f.ats (by omega) fun x hx=>Zg x 1 (vD (gf.val x hx))) ?_);have c2:app 8 ([]:List Int) f.cs=some f.cs:=by rw[dU (by simp;omega) (by omega)];rfl
   show Ev (fun n=>(app 8 ([]:List Int) f.cs).bind fun x4=>some (f.ats,x4,f.c,(0:Int))) _;rw[c2];exact Ev.ret _
theorem JX(t:Tm)(hS:mq t):Ev (fun n=>sS n t) true:=by
 unfold sS;refine Ev.bind (WW t hS) (Ev.bind (WL t) ?_);generalize (bif bP t then aa3 (dQ t)else([],[],0,1))=r;simp only[beq_self_eq_true,cond_true];refine Ev.bind (a:=true) (Ev.bind (Oz r.1 fun x _=>ZA x) ?_) (Ev.ret _);simp only[cond_true];refine Ev.bind (Yz r.2.1) ?_;simp only[cond_true];exact Ev.of fun n=>rfl
end Abs
end Go.Proofs.YtfmdmcenjfkbhaaGreatDoor
