/-
  The step by records is sound. Conditions: none; lemmas over any program.
-/
import Derived.Test.YtfmdmcenjfkbhaaGreatDoorCAbs21oxdc52be
set_option linter.all false
namespace Go.Proofs.YtfmdmcenjfkbhaaGreatDoor
namespace Abs
section
open Go
theorem dn{P:Program}{k:Nat}{o:Oper}{ρ:Operand→AV}{σ:Nat→AObj}{v:AV}{K:List Nat→List Wr→Prop}(h:aj P o.op ρ=some v)(hK:K [] (ah o.dst v)):∃rd ws,aD P k o ρ σ=some (rd,ws)∧K rd ws:=
 ⟨[],ah o.dst v,by unfold aD;rw[h],hK⟩
theorem V5{P:Program}{op:BinOp}{t:TypeId}{x y:AV}{K:AV→Prop}(h:Bw (TI.of P) op t x y K):∃v,iP P op t x y=some v∧K v:=by
 unfold Bw at h;split at h
 ·obtain⟨h1,h2⟩:=h;exact⟨_,by simp[iP,h1],h2⟩
 ·obtain⟨v,h1,h2⟩:=aZ h;exact⟨v,h1,h2⟩
theorem Gq{P:Program}{t:TypeId}{x i:Operand}{ρ:Operand→AV}{K:AV→Prop}(h:Qs K (TI.of P t).ix (ρ x) (ρ i)):∃v,aj P (.indexAddr t x i) ρ=some v∧K v:=by
 have hix:(TI.of P t).ix=za P t:=rfl;rw[hix]at h;simp only[aj];unfold za at h;unfold Qs at h;split at h
 ·rename_i sz es tag k n h1 h2 h3;split at h1
  ·rename_i e hu;simp only[IxT.sl.injEq]at h1;obtain⟨cs,g1,g2,g3,g4⟩:=h
   grind
  ·cases h1
  ·cases h1
 ·rename_i len sz l o k n h1 h2 h3;split at h1
  ·cases h1
  ·rename_i n' e hu;simp only[IxT.arr.injEq]at h1;obtain⟨g1,g2⟩:=h
   grind
  ·cases h1
 ·rename_i len sz cs k n h1 h2 h3;split at h1
  ·cases h1
  ·rename_i n' e hu;simp only[IxT.arr.injEq]at h1;obtain⟨g1,g2⟩:=h;exact⟨_,by simp_all,g2⟩
  ·cases h1
 grind
theorem FU{P:Program}{t:TypeId}{x:Operand}{lo hi:Option Operand}{ρ:Operand→AV}{K:AV→Prop}(h:cutV (TI.of P t).isStr (TI.of P t).slT (lo.map ρ) (hi.map ρ) K (ρ x)):∃v,aj P (.slice t x lo hi none) ρ=some v∧K v:=by
 have h1:(TI.of P t).isStr=aj.isStrT P t:=rfl;have h2:(TI.of P t).slT=aj.sliceT P t:=rfl;simp only[aj];unfold cutV at h;split at h
 ·rename_i s hx;rcases aQ h with⟨g1,l,hh,g2,g3,g4⟩|⟨_,g⟩
  ·grind
  grind
 ·rename_i es tag hx;obtain⟨sz,g1,l,hh,g2,g3,g4,g5⟩:=aZ h
  grind
 grind
theorem Iq{P:Program}{k:Nat}{o:Oper}{ρ:Operand→AV}{σ:Nat→AObj}{K:List Nat→List Wr→Prop}(h:stepT (TI.of P) k o.dst ρ σ K o.op):∃rd ws,aD P k o ρ σ=some (rd,ws)∧K rd ws:=by
 obtain⟨d,op,ty,ps,af,gd⟩:=o;simp only at h;unfold stepT at h;split at h
 ·exact dn (o:=⟨d,_,ty,ps,af,gd⟩) rfl h
 ·exact dn (o:=⟨d,_,ty,ps,af,gd⟩) rfl h
 ·rename_i c x y;split at h
  ·rename_i b hb;rcases aQ h with⟨rfl,g⟩|⟨rfl,g⟩
   ·exact dn (o:=⟨d,_,ty,ps,af,gd⟩) (by simp[aj,hb]) g
   ·exact dn (o:=⟨d,_,ty,ps,af,gd⟩) (by simp[aj,hb]) g
  ·exact h.elim
 ·obtain⟨v,g1,g2⟩:=aZ h;exact dn (o:=⟨d,_,ty,ps,af,gd⟩) g1 g2
 ·obtain⟨v,g1,g2⟩:=V5 h;exact dn (o:=⟨d,_,ty,ps,af,gd⟩) g1 g2
 ·obtain⟨v,g1,g2⟩:=aZ h;exact dn (o:=⟨d,_,ty,ps,af,gd⟩) g1 g2
 ·rw[Ay]at h;obtain⟨v,g1,g2⟩:=aZ h;exact dn (o:=⟨d,_,ty,ps,af,gd⟩) g1 g2
 ·rw[Ay]at h;obtain⟨p,g1,g2⟩:=aZ h;split at g2
  ·rename_i cs hx;obtain⟨v,g3,g4⟩:=aZ g2;exact dn (o:=⟨d,_,ty,ps,af,gd⟩) (by simp only[aj,g1,hx];exact g3) g4
  ·exact g2.elim
 ·obtain⟨v,g1,g2⟩:=Gq h;exact dn (o:=⟨d,_,ty,ps,af,gd⟩) g1 g2
 ·split at h
  ·rename_i s kk n hx hi;rcases aQ h with⟨g1,g2,g3⟩|⟨_,g⟩
   ·have g1:aj.isStrT P _=true:=g1;exact dn (o:=⟨d,_,ty,ps,af,gd⟩) (by simp only[aj,hx,hi];rw[if_pos ⟨g1,g2⟩]) g3
   ·exact g.elim
  ·exact h.elim
 ·split at h
  ·rename_i vs hx;obtain⟨v,g1,g2⟩:=aZ h;have hlt:=(qAp.1 g1).1;exact dn (o:=⟨d,_,ty,ps,af,gd⟩) (v:=v) (by simp only[aj,hx];rw[if_pos hlt];simp[List.getD,g1]) g2
  ·exact h.elim
 ·obtain⟨v,g1,g2⟩:=FU h;exact dn (o:=⟨d,_,ty,ps,af,gd⟩) g1 g2
 ·rename_i t parts;rcases aQ h with⟨g1,g2⟩|⟨_,g⟩
  ·obtain⟨z,g3,g4⟩:=aZ g2;obtain⟨cs,g5,g6⟩:=aZ g4;have g1:nH P t=true:=g1;have g3:gu P t=some z:=g3;have:lk (TI.of P t).place=qY P t:=funext fun i=>OD P t i;rw[this]at g5;exact dn (o:=⟨d,_,ty,ps,af,gd⟩) (by simp only[aj,g1,if_true,g3,g5,qAv]) g6
  ·exact g.elim
 ·rename_i f first captured
  rcases aQ h with⟨g1,g2⟩|⟨_,g⟩
  ·have:first.size=0:=by
    have:=qBa.1 g1;simpa using this
   exact dn (o:=⟨d,_,ty,ps,af,gd⟩) (by simp only[aj];rw[if_pos this]) g2
  ·exact g.elim
 ·rename_i t x;split at h
  ·rename_i cs hx;obtain⟨v,g1,g2⟩:=aZ h;exact dn (o:=⟨d,_,ty,ps,af,gd⟩) (by simp only[aj,hx];exact g1) g2
  ·rename_i l off hx;split at h
   ·rename_i cs hl;obtain⟨v,g1,g2⟩:=aZ h;rw[Jr]at g1;exact⟨_,_,by rw[Ui];simp only[PU,hx,hl,g1];rfl,g2⟩
   ·exact h.elim
  ·exact h.elim
 ·rename_i t x y;split at h
  ·rename_i l off hx;obtain⟨vs,g1,g2⟩:=aZ h;split at g2
   ·rename_i cs hl;rcases aQ g2 with⟨g3,g4⟩|⟨_,g⟩
    ·simp only[qAa,decide_eq_true_eq]at g3;have g3':sizeT P t=some vs.length:=g3.1.1;refine⟨_,_,?_,g4⟩;rw[IY];simp only[Ke,hx,g1,hl];rw[if_pos ⟨g3',g3.1.2,g3.2⟩]
    ·exact g.elim
   ·exact g2.elim
  ·exact h.elim
 ·rcases aQ h with⟨g1,g2⟩|⟨_,g⟩
  ·obtain⟨z,g3,g4⟩:=aZ g2;have g3:gu P _=some z:=g3;exact⟨_,_,by rw[ZI,g1,if_pos rfl,g3];rfl,g4⟩
  ·exact g.elim
 ·rcases aQ h with⟨g1,g2⟩|⟨_,g⟩
  ·obtain⟨z,g3,g4⟩:=aZ g2;exact⟨_,_,by rw[aeO,g1,if_pos rfl,g3];rfl,g4⟩
  ·exact g.elim
 ·rcases aQ h with⟨g1,g2⟩|⟨_,g⟩
  ·exact⟨_,_,by rw[VA,g1,if_pos rfl],g2⟩
  ·exact g.elim
 ·rename_i t len parts;obtain⟨⟨e,sz,by'⟩,g1,g2⟩:=aZ h;obtain⟨z,g3,g4⟩:=aZ g2;rcases aQ g4 with⟨g5,g6⟩|⟨_,g⟩
  ·obtain⟨cs,g7,g8⟩:=aZ g6;have g1:fF P t=some (e,sz,by'):=g1;have g3:gu P e=some z:=g3;simp only[qAa,decide_eq_true_eq,qBb]at g5;refine⟨_,_,?_,g8⟩;simp only[aD,aj,g1,g3];rw[if_pos ⟨g5.1,g5.2.1,g5.2.2.1,g5.2.2.2.1⟩];simp only at g7;rw[g7,g5.2.2.2.2];rfl
  ·exact g.elim
 ·rename_i s t x;split at h
  ·rename_i kk n hx;rcases aQ h with⟨g1,g2⟩|⟨_,g⟩
   ·obtain⟨kt,g3,g4⟩:=aZ g2;have g1:(intTy P s).isSome=true:=g1;have g3:intTy P t=some kt:=g3;refine dn (o:=⟨d,_,ty,ps,af,gd⟩) (v:=.int kt (kt.wrap n)) ?_ g4;have hc:aj.convT P s t=some kt:=by
     unfold intTy at g1 g3;unfold aj.convT;split at g1
     ·rename_i hs;split at g3
      ·rename_i ht;cases g3;simp[hs,ht]
      ·cases g3
     ·cases g1
    simp only[aj,hx,hc]
   ·exact g.elim
  ·exact h.elim
 ·rename_i args argTypes;split at h
  ·rename_i x t ha ht;obtain⟨v,g1,g2⟩:=aZ h;exact dn (o:=⟨d,_,ty,ps,af,gd⟩) (by simp only[aj,ha,ht];exact g1) g2
  ·exact h.elim
 ·rename_i args argTypes;split at h
  ·rename_i x y t t2 ha ht;obtain⟨⟨e,sz,by'⟩,g1,g2⟩:=aZ h;rcases aQ g2 with⟨g3,g4⟩|⟨_,g⟩
   ·have g1:fF P t=some (e,sz,by'):=g1;have g3:aD.isSliceT P t2=true:=g3;simp only at g4;unfold VR at g4;split at g4
    ·rename_i ys tg hx hy;rcases aQ g4 with⟨g5,g6,g7⟩|⟨_,g⟩
     ·refine⟨_,_,?_,g7⟩;simp only[aD,aj,ha,ht,g1,g3,hx,hy];rw[if_pos ⟨g5,trivial,g6⟩]
     ·exact g.elim
    ·rename_i es l z ys tg hx hy;split at g4
     ·rename_i n hl;rcases aQ g4 with⟨g5,g6,g7⟩|⟨_,g⟩
      ·simp only[qAa,beq_iff_eq]at g5;refine⟨_,_,?_,g7⟩;simp only[aD,aj,ha,ht,g1,g3,hx,hy,hl];rw[if_pos ⟨g5.1,g6.1,g5.2,g6.2⟩]
      ·exact g.elim
     ·exact g4.elim
    ·exact g4.elim
   ·exact g.elim
  ·exact h.elim
 ·rename_i args argTypes;split at h
  ·rename_i x y ha;split at h
   ·rename_i k1 a k2 b hx hy;rcases aQ h with⟨g1,g2⟩|⟨_,g⟩
    ·simp only[decide_eq_true_eq]at g1;exact dn (o:=⟨d,_,ty,ps,af,gd⟩) (by simp only[aj,ha,hx,hy];rw[if_pos g1]) g2
    ·exact g.elim
   ·exact h.elim
  ·exact h.elim
 ·rename_i args argTypes;split at h
  ·rename_i x y ha;split at h
   ·rename_i k1 a k2 b hx hy;rcases aQ h with⟨g1,g2⟩|⟨_,g⟩
    ·simp only[decide_eq_true_eq]at g1;exact dn (o:=⟨d,_,ty,ps,af,gd⟩) (by simp only[aj,ha,hx,hy];rw[if_pos g1]) g2
    ·exact g.elim
   ·exact h.elim
  ·exact h.elim
 ·rename_i t m key ok;obtain⟨e,g1,g2⟩:=aZ h;split at g2
  ·rename_i l s hm hk;split at g2
   ·rename_i es hl;obtain⟨z,g3,g4,g5⟩:=aZ g2;have g1:kG P t=some e:=g1;have g3:vZ P e=some z:=g3;cases hf:ko es s with
    |some v=>exact⟨_,_,by simp only[aD,aj,g1,hm,hk,hl,g3,hf],g4 v hf⟩
    |none=>exact⟨_,_,by simp only[aD,aj,g1,hm,hk,hl,g3,hf],g5 hf⟩
   ·exact g2.elim
  ·exact g2.elim
 ·rename_i t m key x;obtain⟨e,g1,g2⟩:=aZ h;split at g2
  ·rename_i l s hm hk;split at g2
   ·rename_i es hl;obtain⟨g3,g4⟩:=g2;have g1:kG P t=some e:=g1;exact⟨_,_,by simp only[aD,aj,g1,hm,hk,hl];rw[if_pos g3],g4⟩
   ·exact g2.elim
  ·exact g2.elim
 grind
def fL{α:Type}:List α→(List α→Prop)→Prop
 |[],K=>K []
 |x::xs,K=>fL xs fun ys=>K (x::ys)
def E8{α:Type}:List α→Nat→(Nat→Prop)→Prop
 |[],k,K=>K k
 |_::xs,k,K=>E8 xs (k+1) K
def Bv{α:Type}:List α→Nat→α→(List α→Prop)→Prop
 |[],_,_,K=>K []
 |_::xs,0,v,K=>K (v::xs)
 |x::xs,n+1,v,K=>Bv xs n v fun ys=>K (x::ys)
def Ia:AV→(AV→Prop)→Prop
 | .agg cs,K=>fL cs fun cs=>K (.agg cs)
 | .eptr cs,K=>fL cs fun cs=>K (.eptr cs)
 | .tup cs,K=>fL cs fun cs=>K (.tup cs)
 | .func f cs,K=>fL cs fun cs=>K (.func f cs)
 | .int k n,K=>K (.int k n)
 | .bool b,K=>K (.bool b)
 | .str b,K=>K (.str b)
 | .ptr l o,K=>K (.ptr l o)
 | .nilp,K=>K .nilp
 | .ifc t v,K=>K (.ifc t v)
 | .slice es t,K=>K (.slice es t)
 | .mapr l,K=>K (.mapr l)
 | .nilFunc,K=>K .nilFunc
 | .psl l z n,K=>K (.psl l z n)
 | .flist ns,K=>K (.flist ns)
 | .unk,K=>K .unk
def ZQ:AObj→(AObj→Prop)→Prop
 | .box cs,K=>fL cs fun cs=>K (.box cs)
 | .tip n,K=>K (.tip n)
 | .mp es,K=>K (.mp es)
 | .dead,K=>K .dead
 | .arr z es,K=>K (.arr z es)
 | .res,K=>K .res
def nD:List Wr→List AV→List AObj→(List AV→List AObj→Prop)→Prop
 |[],t,h,K=>K t h
 | .slot n v::ws,t,h,K=>Ia v fun v=>Bv t n v fun t=>nD ws t h K
 | .obj n v::ws,t,h,K=>ZQ v fun v=>Bv h n v fun h=>nD ws t h K
def Jf(t:List AV):List Operand→(List AV→Prop)→Prop
 |[],K=>K []
 |x::xs,K=>Ia (aN t x) fun v=>Jf t xs fun vs=>K (v::vs)
def Oo:Nat→Prop→Prop→Prop
 |0,A,_=>A
 |_+1,_,B=>B
theorem lS{α:Type}:∀(l:List α) (K:List α→Prop),fL l K=K l:=by
 intro l;induction l with
 |nil=>intro K;rfl
 |cons x l ih=>intro K;simp only[fL];exact ih _
theorem BP{α:Type}:∀(l:List α) (k:Nat) (K:Nat→Prop),E8 l k K=K (k+l.length):=by
 intro l;induction l with
 |nil=>intro k K;rfl
 |cons x l ih=>intro k K;simp only[E8];rw[ih];congr 1;simp;omega
theorem vo{α:Type}:∀(l:List α) (n:Nat) (v:α) (K:List α→Prop),Bv l n v K=K (l.set n v):=by
 intro l;induction l with
 |nil=>intro n v K;rfl
 |cons x l ih=>intro n v K;cases n with
  |zero=>rfl
  |succ n=>simp only[Bv];exact ih _ _ _
theorem wu(v:AV)(K:AV→Prop):Ia v K=K v:=by cases v<;>simp only[Ia,lS]
theorem adi(v:AObj)(K:AObj→Prop):ZQ v K=K v:=by cases v<;>simp only[ZQ,lS]
theorem K5:∀(ws:List Wr) (t:List AV) (h:List AObj) (K:List AV→List AObj→Prop),nD ws t h K=K (ASt.wr ⟨t,h⟩ ws).tmps (ASt.wr ⟨t,h⟩ ws).heap:=by
 intro ws;induction ws with
 |nil=>intro t h K;rfl
 |cons w ws ih=>intro t h K;cases w with
  |slot n v=>simp only[nD,wu,vo];rw[ih];rfl
  |obj n v=>simp only[nD,adi,vo];rw[ih];rfl
theorem GR(t:List AV):∀(l:List Operand) (K:List AV→Prop),Jf t l K=K (l.map (aN t)):=by
 intro l;induction l with
 |nil=>intro K;rfl
 |cons x l ih=>intro K;simp only[Jf,wu,ih,qAz]
def adZ(w:Bool)(d:Nat)(t:List AV)(A B:List AV→Prop):AV→Prop
 | .bool b=>dK b (Bv t d (.bool true) fun t=>dK w (A t) (B t)) (Bv t d (.bool false) fun t=>dK w (B t) (A t))
 | .tup []=>B t
 |_=>False
def grd(ops:List Oper)(t:List AV)(A B:List AV→Prop):Option (Nat×Bool)→Prop
 |none=>A t
 |some (j,w)=>dI ((ops[j]?).bind (·.dst)) fun d=>adZ w d t A B (t.getD d .unk)
theorem set_self{t:List AV}{d:Nat}{v:AV}(h:t.getD d .unk=v):t.set d v=t:=by
 apply qBI
 grind
theorem Ak{ops:List Oper}{t:List AV}{A B:List AV→Prop}{o:Oper}(h:grd ops t A B o.guard):(bq ops.toArray t o=some true∧A t)∨(bq ops.toArray t o=some false∧B t):=by
 unfold bq;cases hg:o.guard with
 |none=>rw[hg]at h;exact .inl ⟨rfl,h⟩
 |some p=>
  obtain⟨j,w⟩:=p;rw[hg]at h;obtain⟨d,h1,h2⟩:=aZ h;unfold adZ at h2;split at h2
  ·rename_i b hb;rcases aQ h2 with⟨rfl,g⟩|⟨rfl,g⟩
   ·rw[vo,set_self hb]at g;rcases aQ g with⟨rfl,g⟩|⟨rfl,g⟩
    ·grind
    grind
   ·rw[vo,set_self hb]at g;rcases aQ g with⟨rfl,g⟩|⟨rfl,g⟩
    ·grind
    grind
  ·grind
  grind
def Fh(P:Program)(f:Nat)(args:List AV)(dst:Option Tmp)(t:List AV)(h:List AObj)(k:Nat)(K:Nat→List Nat→List Wr→Prop):Prop:=sU P f args dst ⟨t,h⟩ k K .mk
def Fy(K:Nat→List AV→Prop):AV→Prop
 | .func f caps=>K f caps
 |_=>False
def run(P:Program)(τ:Nat→TI)(ops:List Oper):List Oper→Nat→List Eff→List AV→List AObj→(List Eff→List AV→List AObj→Prop)→Prop
 |[],_,es,t,h,K=>K es.reverse t h
 |o::l,k,es,t,h,K=>grd ops t
   (fun t=>match fT o.op with
    |some (f,args)=>Fy (fun fid caps=>Jf t args.toList fun vs=>fL (vs++caps) fun vs=>Fh P fid vs o.dst t h k fun k' ro ws=>nD ws t h fun t' h'=>run P τ ops l k' (⟨aJ ops.toArray o,ro,ws⟩::es) t' h' K) (aN t f)
    |none=>stepT τ k o.dst (aN t) (obj? h) (fun rd ws=>nD ws t h fun t' h'=>Oo (dJ o.op) (run P τ ops l k (⟨aJ ops.toArray o,rd,ws⟩::es) t' h' K) (run P τ ops l (k+1) (⟨aJ ops.toArray o,rd,ws⟩::es) t' h' K)) o.op)
   (fun t=>nD (ah o.dst (.tup [])) t h fun t' h'=>run P τ ops l k (⟨aJ ops.toArray o,[],ah o.dst (.tup [])⟩::es) t' h' K) o.guard
def EK(next:List AV→List AObj→Prop)(Q:Exit→List AV→List AObj→Prop):Exit→List AV→List AObj→Prop
 | .normal,t,h=>next t h
 |e,t,h=>Q e t h
def aaF(id:Nat)(Q:Exit→List AV→List AObj→Prop):Exit→List AV→List AObj→Prop
 | .exit id',t,h=>dK (id'==id) (Q .normal t h) (Q (.exit id') t h)
 |e,t,h=>Q e t h
def UO(Q:Exit→List AV→List AObj→Prop):Exit→ASt→Prop:=fun e s=>Q e s.tmps s.heap
inductive Tr where
 |nil
 |node (l:Tr) (key:Nat) (x:TI) (r:Tr)
def Tr.look(d:Nat→TI)(t:Nat):Tr→TI
 | .nil=>d t
 | .node l k x r=>match Nat.ble t k with
  |true=>match Nat.beq t k with
   |true=>x
   |false=>Tr.look d t l
  |false=>Tr.look d t r
def Tr.keys:Tr→List Nat
 | .nil=>[]
 | .node l k _ r=>l.keys++k::r.keys
def Tr.vals:Tr→List TI
 | .nil=>[]
 | .node l _ x r=>l.vals++x::r.vals
theorem Tr.len:∀T:Tr,T.keys.length=T.vals.length
 | .nil=>rfl
 | .node l k x r=>by simp[keys,vals,Tr.len l,Tr.len r]
theorem Tr.look_eq(d:Nat→TI)(t:Nat):∀T:Tr,T.keys.map d=T.vals→T.look d t=d t
 | .nil,_=>rfl
 | .node l k x r,h=>by
  simp only[keys,qAY,qAz]at h;have h1:=List.append_inj h (by simp[Tr.len l]);obtain⟨h1,h2⟩:=h1;simp at h2;unfold Tr.look;split
  ·split
   ·simp_all
   ·exact Tr.look_eq d t l h1
  ·exact Tr.look_eq d t r h2.2
theorem ae7{P:Program}{T:Tr}(h:T.keys.map (TI.of P)=T.vals):(fun t=>T.look (TI.of P) t)=TI.of P:=funext fun t=>Tr.look_eq _ t T h
def resT(τ:Nat→TI)(t:List AV)(h:List AObj):List ResultVar→(List AV→Prop)→Prop
 |[],K=>K []
 | .tmp n::r,K=>Ia (t.getD n .unk) fun v=>resT τ t h r fun vs=>K (v::vs)
 | .cell a ty::r,K=>match t.getD a .unk with
  | .ptr l off=>match obj? h l with
   | .box cs=>dI (loadT τ ty (cs.drop off)) fun v=>Ia v fun v=>resT τ t h r fun vs=>K (v::vs)
   |_=>False
  |_=>False
theorem xP{P:Program}{t:List AV}{h:List AObj}:∀(rs:List ResultVar) (K:List AV→Prop),resT (TI.of P) t h rs K→∃xs,mQ P ⟨t,h⟩ rs=some xs∧K xs:=by
 intro rs
 induction rs with
 |nil=>intro K hr;exact⟨[],rfl,hr⟩
 |cons r rs ih=>
  intro K hr;cases r with
  |tmp n=>
   simp only[resT,wu]at hr;obtain⟨xs,h1,h2⟩:=ih _ hr;exact⟨_,by simp only[mQ,h1];rfl,h2⟩
  |cell a ty=>
   simp only[resT]at hr;split at hr
   ·rename_i l off hp;split at hr
    ·rename_i cs hb;obtain⟨v,h1,h2⟩:=aZ hr;rw[wu]at h2;obtain⟨xs,h3,h4⟩:=ih _ h2;rw[Jr]at h1;exact⟨_,by simp only[mQ,hp,hb,h1,h3];rfl,h4⟩
    grind
   grind
def Ends(v res:AV):Prop:=v=res
def ug(n:Nat)(args:List AV)(K:List AV→Prop):Prop:=fL (args++List.replicate (n - args.length) (.tup [])) K
abbrev QT:=Exit→List AV→List AObj→Prop
def AW(P:Program)(m:Nat)(c:Code)(Q:QT)(t:List AV)(h:List AObj):Prop:=
 ∀(C:Ctx) (κ:aH) (a:Act) (w:World),C.k0.length≤m→Sim C κ ⟨t,h⟩ a w→c.wp P (fun e a' w'=>∃s' κ',UO Q e s'∧Sim C κ' s' a' w') a w
theorem AW.of{P:Program}{m:Nat}{c:Code}{Q:QT}{t:List AV}{h:List AObj}(hw:bf P c (UO Q) ⟨t,h⟩):AW P m c Q t h:=fun C κ a w _ hs=>hw C κ a w hs
theorem AW.mono{P:Program}{m:Nat}{c:Code}{Q Q':QT}{t:List AV}{h:List AObj}(hw:AW P m c Q t h)(hq:∀e t h,Q e t h→Q' e t h):AW P m c Q' t h:=
 fun C κ a w hk hs=>wp_mono (hw C κ a w hk hs) fun _ _ _ ⟨s',κ',h1,h2⟩=>⟨s',κ',hq _ _ _ h1,h2⟩
theorem AW.skip{P:Program}{m:Nat}{Q:QT}{t:List AV}{h:List AObj}(hq:Q .normal t h):AW P m .skip Q t h:=AW.of (bf.skip hq)
theorem AW.ret{P:Program}{m:Nat}{Q:QT}{t:List AV}{h:List AObj}(hq:Q .ret t h):AW P m .ret Q t h:=AW.of (bf.ret hq)
theorem AW.exit{P:Program}{m:Nat}{Q:QT}{t:List AV}{h:List AObj}{id:Nat}(hq:Q (.exit id) t h):AW P m (.exit id) Q t h:=AW.of (bf.exit hq)
theorem AW.seq{P:Program}{m:Nat}{x y:Code}{Q:QT}{t:List AV}{h:List AObj}(hw:AW P m x (EK (AW P m y Q) Q) t h):AW P m (.seq x y) Q t h:=by
 intro C κ a w hk hs;refine wp_seq (wp_mono (hw C κ a w hk hs) ?_);rintro e a' w' ⟨s',κ',h1,h2⟩;cases e with
 |normal=>exact h1 C κ' a' w' hk h2
 |exit id=>exact⟨s',κ',h1,h2⟩
 |goto l=>exact⟨s',κ',h1,h2⟩
 |ret=>exact⟨s',κ',h1,h2⟩
 |panic c=>exact⟨s',κ',h1,h2⟩
 |outgrown=>exact⟨s',κ',h1,h2⟩
theorem AW.xk{P:Program}{m:Nat}{x y:Code}{Q:QT}{t:List AV}{h:List AObj}(hw:∀K:List AV→List AObj→Prop,(∀t h,AW P m y Q t h→K t h)→AW P m x (EK K Q) t h):AW P m (.seq x y) Q t h:=
 AW.seq (hw _ fun _ _ h=>h)
theorem AW.cond{P:Program}{m:Nat}{c:Operand}{x y:Code}{Q:QT}{t:List AV}{h:List AObj}{b:Bool}(hc:aN t c=.bool b)(h1:b=true→AW P m x Q t h)(h2:b=false→AW P m y Q t h):AW P m (.cond c x y) Q t h:=by
 intro C κ a w hk hs;have hr:=hs.ev c;have:aN (ASt.mk t h).tmps c=.bool b:=hc;rw[this]at hr;exact wp_cond_split hr.zh (fun ht=>h1 ht C κ a w hk hs) (fun ht=>h2 ht C κ a w hk hs)
theorem AW.block{P:Program}{m id:Nat}{c:Code}{Q:QT}{t:List AV}{h:List AObj}(hw:AW P m c (aaF id Q) t h):AW P m (.block id c) Q t h:=by
 intro C κ a w hk hs;refine wp_block (wp_mono (hw C κ a w hk hs) ?_);rintro e a' w' ⟨s',κ',h1,h2⟩;cases e with
 |exit id'=>
  simp only[Exit.inBlock];rcases aQ h1 with⟨e,g⟩|⟨e,g⟩
  ·rw[if_pos (by simpa using e)];exact⟨s',κ',g,h2⟩
  ·rw[if_neg (by simpa using e)];exact⟨s',κ',g,h2⟩
 |normal=>exact⟨s',κ',h1,h2⟩
 |goto l=>exact⟨s',κ',h1,h2⟩
 |ret=>exact⟨s',κ',h1,h2⟩
 |panic c=>exact⟨s',κ',h1,h2⟩
 |outgrown=>exact⟨s',κ',h1,h2⟩
theorem AW.loop{P:Program}{m:Nat}{c:Code}{Q:QT}{t:List AV}{h:List AObj}(I:Nat→List AV→List AObj→Prop){n:Nat}(h0:I n t h)(round:∀n t h,I n t h→AW P m c (EK (fun t' h'=>∃k,k<n∧I k t' h') Q) t h):AW P m (.loop c) Q t h:=by
 intro C κ a w hk hs;refine wp_loop_ghost (Q:=fun e a' w'=>∃s' κ',UO Q e s'∧Sim C κ' s' a' w') (fun n a w=>∃s κ,I n s.tmps s.heap∧Sim C κ s a w) n ⟨⟨t,h⟩,κ,h0,hs⟩ ?_;rintro n a w ⟨s,κ,hI,hs⟩;refine wp_mono (round n s.tmps s.heap hI C κ a w hk hs) ?_;rintro e a' w' ⟨s',κ',h1,h2⟩;cases e with
 |normal=>
  obtain⟨m,hm,hI'⟩:=h1;exact⟨m,hm,s',κ',hI',h2⟩
 |exit id=>exact⟨s',κ',h1,h2⟩
 |goto l=>exact⟨s',κ',h1,h2⟩
 |ret=>exact⟨s',κ',h1,h2⟩
 |panic c=>exact⟨s',κ',h1,h2⟩
 |outgrown=>exact⟨s',κ',h1,h2⟩
def VF:AV→Prop
 | .int k n=>jW k n
 | .str s=>s.length≤9223372036854775807
 | .slice es _=>es.length≤9223372036854775807
 | .psl _ _ n=>n≤140737488355328
 |_=>True
theorem Rel.vf{w:World}{κ:aH}{pv:bN}{x:AV}{v:Value}(h:Rel w κ pv x v):VF x:=by
 cases h<;>first|trivial|assumption
def parts:AV→List AV
 | .agg cs=>cs
 | .tup cs=>cs
 | .eptr cs=>cs
 | .func _ cs=>cs
 |v=>[v]
def eF(L:List (Option Nat))(big i:Nat):Nat:=((L[i]?).getD none).getD big
inductive VW(h:List AObj)(L:List (Option Nat)):AV→AV→Prop where
 |unk (v:AV):VW h L .unk v
 |same {x y:AV}:ren (eF L h.length) x=y→VW h L x y
 |share {es es':List (List AV)} {t:Tag}:cu (eF L h.length) es=es'→VW h L (.slice es .shared) (.slice es' t)
 |nils (j z:Nat):VW h L (.slice [] (.tip j z)) (.slice [] .nils)
 |nilF:VW h L (.flist []) .nilp
 |frzF {l:Nat} {cs cs':List AV} {r:List (List AV)} {v:AV}:obj? h l=.box (cs'++[v])→some l∉L→cs.length=cs'.length→(∀j,j<cs.length→VW h L (cs.getD j .unk) (cs'.getD j .unk))→VW h L (.flist r) v→VW h L (.flist (cs::r)) (.ptr l 0)
 |nilP (j z:Nat):VW h L (.psl j z 0) (.slice [] .nils)
 |Gf {l z n:Nat} {es es0:List (List AV)}:obj? h l=.arr z es0→some l∉L→n≤es0.length→cu (eF L h.length) es=es0.take n→VW h L (.slice es .shared) (.psl l z n)
 |agg {cs cs':List AV}:cs.length=cs'.length→(∀j,VW h L (cs.getD j .unk) (cs'.getD j .unk))→VW h L (.agg cs) (.agg cs')
 |tup {cs cs':List AV}:cs.length=cs'.length→(∀j,VW h L (cs.getD j .unk) (cs'.getD j .unk))→VW h L (.tup cs) (.tup cs')
 |eptr {cs cs':List AV}:cs.length=cs'.length→(∀j,VW h L (cs.getD j .unk) (cs'.getD j .unk))→VW h L (.eptr cs) (.eptr cs')
 |func {f:Nat} {cs cs':List AV}:cs.length=cs'.length→(∀j,VW h L (cs.getD j .unk) (cs'.getD j .unk))→VW h L (.func f cs) (.func f cs')
 |frz {l off:Nat} {cs cs':List AV}:obj? h l=.box cs'→some l∉L→cs.length+off≤cs'.length→(∀j,VW h L (cs.getD j .unk) (cs'.getD (off+j) .unk))→VW h L (.eptr cs) (.ptr l off)
inductive OW(h:List AObj)(L:List (Option Nat)):AObj→AObj→Prop where
 |dead (o:AObj):OW h L .dead o
 |box {cs cs':List AV}:cs.length=cs'.length→(∀j,VW h L (cs.getD j .unk) (cs'.getD j .unk))→OW h L (.box cs) (.box cs')
 |tip (n:Nat):OW h L (.tip n) (.tip n)
 |arr {z n:Nat} {es es0:List (List AV)}:cu (eF L h.length) es=es0.take n→OW h L (.arr z es) (.arr z es0)
 |same {o o':AObj}:aX o=false→bD (eF L h.length) o=o'→OW h L o o'
structure Weak(m:Nat)(t:List AV)(h:List AObj)(L:List (Option Nat))(t':List AV)(h':List AObj):Prop where
 tlen:t'.length=t.length
 hlen:L.length=h'.length
 idm:∀i:Nat,i<m→L[i]? =some (some i)
 inj:∀i j l:Nat,L[i]? =some (some l)→L[j]? =some (some l)→live (obj? h' i)→live (obj? h' j)→i=j
 lt:∀i l:Nat,L[i]? =some (some l)→l<h.length
 slot:∀n,VW h L (t'.getD n .unk) (t.getD n .unk)
 obj:∀i l:Nat,L[i]? =some (some l)→OW h L (obj? h' i) (obj? h l)
 new:∀i:Nat,L[i]? =some none→aX (obj? h' i)=false
section
variable {C:Ctx}{κ:aH}{t:List AV}{h:List AObj}{a:Act}{w:World}{m:Nat}{L:List (Option Nat)}{t':List AV}{h':List AObj}
def rR(κ:aH)(L:List (Option Nat)):aH:=L.map fun o=>o.bind (at? κ)
theorem at?_kapW{i:Nat}(hk:κ.length=h.length):at? (rR κ L) i=at? κ (eF L h.length i):=by
 unfold rR eF;simp only[at?,qAB];cases hi:L[i]? with
 |none=>simp[qAo (show κ.length≤h.length by omega)]
 |some o=>cases o with
  |none=>simp[qAo (show κ.length≤h.length by omega)]
  |some l=>simp[at?]
theorem lH{i b:Nat}(hb:at? (rR κ L) i=some b):∃l,L[i]? =some (some l)∧at? κ l=some b:=by
 unfold rR at hb;simp only[at?,qAB]at hb;cases hi:L[i]? with
 |none=>rw[hi]at hb;cases hb
 |some o=>cases o with
  |none=>rw[hi]at hb;cases hb
  |some l=>rw[hi]at hb;exact⟨l,rfl,hb⟩
theorem OW.live{o o':AObj}(hw:OW h L o o')(hl:live o):live o':=by
 cases hw with
 |dead _=>exact hl.elim
 |box _ _=>trivial
 |tip _=>trivial
 |arr _=>trivial
 |same _ e=>rw[←e,dO];exact hl
theorem OW.pv{o o':AObj}{n:Nat}(hw:OW h L o o')(hp:kW o n):kW o' n:=by
 cases hw with
 |dead _=>exact hp.elim
 |box _ _=>trivial
 |tip _=>exact hp
 |arr _=>trivial
 |same _ e=>rw[←e,sK];exact hp
theorem Weak.pv(hs:Sim C κ ⟨t,h⟩ a w)(hw:Weak m t h L t' h'){b o:Nat}(hp:aC C.ak (rR κ L) h' b o):aC C.ak κ h b o:=by
 rcases hp with hp|⟨i,h1,h2⟩
 ·exact .inl hp
 ·obtain⟨l,hl,hb⟩:=lH h1;exact .inr ⟨l,hb,(hw.obj i l hl).pv h2⟩
theorem Weak.val(hs:Sim C κ ⟨t,h⟩ a w)(hw:Weak m t h L t' h'){x y:AV}(hv:VW h L x y):∀{u:Value},Rel w κ (aC C.ak κ h) y u→Rel w (rR κ L) (aC C.ak (rR κ L) h') x u:=by
 have hat:∀i,at? (rR κ L) i=at? κ (eF L h.length i):=fun i=>at?_kapW hs.klen;have key:∀(x:AV) {u:Value},Rel w κ (aC C.ak κ h) (ren (eF L h.length) x) u→Rel w (rR κ L) (aC C.ak (rR κ L) h') x u:=fun x u hx=>
  (hx.qF hat _ rfl).mono (Evo.refl _ _) (bB.refl _) fun b o hp _=>hw.pv hs hp
 induction hv with
 |unk v=>intro u _;exact .unk u
 |same e=>intro u hu;rw[←e]at hu;exact key _ hu
 |share e=>intro u hu;rw[←e]at hu;exact key (.slice _ .shared) hu.share
 |nils j z=>
  intro u hu;cases hu with
  |slice b off sz y g1 g2 g3 g3' g4 g5 g6 gt=>
   exact .slice (es:=[]) (tag:=.tip j z) b off z y (fun i hi=>by cases hi) (fun hne=>(hne rfl).elim) g3 g3' (fun i j hi=>by cases hi) (fun i j hi=>by cases hi) (fun i j hi=>by cases hi) ⟨rfl,.inl gt⟩
 |nilF=>intro u hu;cases hu;exact .flnil
 |@frzF l cs cs' r v ho hn hl _ _ ih1 ih2=>
  intro u hu;obtain⟨b,e,hb⟩:=hu.jR;subst e;obtain⟨c,el,g1,g2,g3,g4⟩:=hs.box hb ho;have hlen:(cs'++[v]).length=cs.length+1:=by simp[hl]
  have hlive:live (obj? h l):=by rw[ho];trivial
  refine .flcons (fun j=>c.getD j undef) (c.getD cs.length undef) (fun j hj hp=>?_) (fun j hj=>by rw[qAu];exact g3 j (by omega)) (by rw[qAu];exact g3 _ (by omega)) (fun j hj=>ih1 j hj ?_) (ih2 ?_)
  ·rcases hp with hp|⟨i,h1,h2⟩
   ·exact hs.own l b hb hlive (hs.pvold _ _ hp)
   ·obtain⟨l',hl',hb'⟩:=lH h1;have:=hs.apart l l' b hb hb' hlive (yc ((hw.obj i l' hl').pv h2));subst this;exact hn (qAA hl')
  ·have:=g4 j (by omega);have e2:(cs'++[v]).getD j .unk=cs'.getD j .unk:=by simp[List.getD,qAe (show j<cs'.length by omega)]
   rw[e2]at this;exact this
  grind
 |nilP j z=>
  intro u hu;cases hu with
  |slice b off sz y g1 g2 g3 g3' g4 g5 g6 gt=>
   exact .psl (qAN _) (by omega) ⟨rfl,.inl gt⟩
 |@Gf l z n es es0 ho hn hle he=>
  intro u hu;cases hu with
  |@psl _ _ _ cap ad g1 g2 g3=>
   have hlen:es.length=n:=by
    have:=congrArg List.length he;rw[fO,qAw]at this;omega
   have hget:∀i,i<n→bF (eF L h.length) (es.getD i [])=es0.getD i []:=fun i hi=>by
    rw[←jI,he];simp only[List.getD,qBf,if_pos hi]
   obtain⟨_,ht⟩:=g3;rcases ht with⟨rfl,rfl⟩|⟨b,c,e,t1,rfl,t3,t4⟩
   ·have:es=[]:=qAR.1 (by omega);subst this;have hn0:n=0:=by simpa using hlen.symm
    subst hn0;exact .slice (es:=[]) 0 0 z (fun _ _=>undef) (fun i h=>by cases h) (fun h=>(h rfl).elim) (qAN _) (by simp) (fun i j h=>by cases h) (fun i j h=>by cases h) (fun i j h=>by cases h) trivial
   ·have hlive:live (obj? h l):=by rw[ho];trivial
    have hob:=hs.obj l b t1 hlive;change jO w κ (aC C.ak κ h) b (obj? h l)at hob;rw[ho]at hob;obtain⟨c0,e0,q1,q2,q3,q4⟩:=hob;rw[t3]at q1;cases q1;rw[←hlen]at g1 g2⊢;refine .slice b 0 z (fun i j=>c.getD (i*z+j) undef) ?_ (fun _=>rfl) g1 (by omega) ?_ ?_ ?_ trivial
    ·intro i hi;have h5:=hget i (by omega);have h6:=q3 i (by omega);rw[←h5,dP]at h6;exact h6
    ·rintro i j hi hj (hp|⟨i',h1,h2⟩)
     ·exact hs.own l b t1 hlive (hs.pvold _ _ hp)
     ·obtain⟨l',hl',hb'⟩:=lH h1;have:=hs.apart l l' b t1 hb' hlive (yc ((hw.obj i' l' hl').pv h2));subst this;exact hn (qAA hl')
    ·intro i j hi hj;have h2:i*z+j<c.size:=qAF (kN (show i<es0.length by omega) hj) q2;simp[World.cell?,t3,Array.getD,h2]
    ·intro i j hi hj;have h5:=hget i (by omega);refine key _ ?_;rw[←dW,h5];exact q4 i j (by omega) hj
 |agg hl _ ih=>
  intro u hu;obtain⟨vs,e,g1,g2⟩:=hu.Vf;subst e;exact .agg (g1.trans hl.symm) fun j hj=>ih j (g2 j (by omega))
 |tup hl _ ih=>
  intro u hu;obtain⟨vs,e,g1,g2⟩:=hu.MH;subst e;exact .tup (g1.trans hl.symm) fun j hj=>ih j (g2 j (by omega))
 |eptr hl _ ih=>
  intro u hu;cases hu with
  |eptr y h1 h2 h3=>exact .eptr y (fun j hj hp=>h1 j (by omega) (hw.pv hs hp)) (fun j hj=>h2 j (by omega)) fun j hj=>ih j (h3 j (by omega))
 |func hl _ ih=>
  intro u hu;obtain⟨vs,e,g1,g2⟩:=hu.vk;subst e;exact .func (g1.trans hl.symm) fun j hj=>ih j (g2 j (by omega))
 |@frz l off cs cs' ho hn hl _ ih=>
  intro u hu;obtain⟨b,e,hb⟩:=hu.jR;subst e;obtain⟨c,el,g1,g2,g3,g4⟩:=hs.box hb ho;refine .eptr (fun j=>c.getD (off+j) undef) (fun j hj hp=>?_) (fun j hj=>g3 _ (by omega)) fun j hj=>ih j (g4 _ (by omega));have hlive:live (obj? h l):=by rw[ho];trivial
  rcases hp with hp|⟨i,h1,h2⟩
  ·exact hs.own l b hb hlive (hs.pvold _ _ hp)
  ·obtain⟨l',hl',hb'⟩:=lH h1;have:=hs.apart l l' b hb hb' hlive (yc ((hw.obj i l' hl').pv h2));subst this;exact hn (qAA hl')
theorem Weak.sim(hk:C.k0.length≤m)(hs:Sim C κ ⟨t,h⟩ a w)(hw:Weak m t h L t' h'):Sim C (rR κ L) ⟨t',h'⟩ a w:=by
 have hat:∀i,at? (rR κ L) i=at? κ (eF L h.length i):=fun i=>at?_kapW hs.klen;refine⟨hs.defers,hs.len.trans hw.tlen.symm,?_,by simp[rR,hw.hlen],?_,?_,?_,?_,?_,?_,hs.pvold,hs.oldlt,hs.old,hs.os,hs.tape,hs.output,hs.size,fun b o hp hlt=>hs.pvsub b o (hw.pv hs hp) hlt,hs.evo⟩
 ·intro n hn;exact hw.val hs (hw.slot n) (hs.slot n (by rw[←hw.tlen];exact hn))
 ·intro l b hb;have hlt:=lt_of_at? hb;have:=hw.idm l (by omega);rw[hat];simp only[eF,this,qAs];exact hs.kext l b hb
 ·intro i hi;cases hL:L[i]? with
  |none=>rw[hat];simp only[eF,hL,qBW];exact at?_none_of_le (by rw[hs.klen];exact qAq _)
  |some o=>cases o with
   |none=>rw[hat];simp only[eF,hL,qBW,qAs];exact at?_none_of_le (by rw[hs.klen];exact qAq _)
   |some l=>
    exfalso;have:=hw.obj i l hL;change obj? h' i=.res at hi;rw[hi]at this;cases this with
    |same h1 _=>cases h1
 ·intro i b hb hl;obtain⟨l,hL,hb'⟩:=lH hb;have ho:=hw.obj i l hL;have hr:=hs.obj l b hb' (ho.live hl);change jO w (rR κ L) (aC C.ak (rR κ L) h') b (obj? h' i);change live (obj? h' i)at hl;generalize he:obj? h' i=o at *;generalize he2:obj? h l=o2 at *;cases ho with
  |dead _=>exact hl.elim
  |box e hv=>
   obtain⟨c,e',g1,g2,g3⟩:=hr;exact⟨c,e',g1,g2.trans e.symm,fun j hj=>hw.val hs (hv j) (g3 j (by omega))⟩
  |tip n=>
   exact hr
  |@arr z n es es0 e=>
   obtain⟨c,e',g1,g2,g3,g4⟩:=hr;have hlen:es.length≤es0.length∧es.length≤n:=by
    have:=congrArg List.length e;rw[fO,qAw]at this;omega
   have hget:∀i,i<es.length→bF (eF L h.length) (es.getD i [])=es0.getD i []:=fun i hi=>by
    rw[←jI,e]
    grind
   refine⟨c,e',g1,qAW (qAU _ hlen.1) g2,fun i hi=>?_,fun i j hi hj=>?_⟩
   ·have h6:=g3 i (by omega);rw[←hget i hi,dP]at h6;exact h6
   ·refine hw.val hs (.same rfl) ?_;rw[←dW,hget i hi]
    grind
  |same _ e=>
   rw[←e]at hr;exact(hr.qF hat).mono rfl (Evo.refl _ _) (bB.refl _) fun b o hp _=>hw.pv hs hp
 ·intro i j b h1 h2 h3 h4;obtain⟨l,hL,hb⟩:=lH h1;obtain⟨l',hL',hb'⟩:=lH h2;have:=hs.apart l l' b hb hb' ((hw.obj i l hL).live h3) ((hw.obj j l' hL').live h4);subst this;exact hw.inj i j l hL hL' h3 h4
 ·intro i b h1 h2;obtain⟨l,hL,hb⟩:=lH h1;exact hs.own l b hb ((hw.obj i l hL).live h2)
 ·intro i b h1;obtain⟨l,_,hb⟩:=lH h1;exact hs.bound l b hb
end
def Le(m:Nat)(t:List AV)(h:List AObj)(t':List AV)(h':List AObj):Prop:=
 ∀(C:Ctx) (κ:aH) (a:Act) (w:World),C.k0.length≤m→Sim C κ ⟨t,h⟩ a w→∃κ',Sim C κ' ⟨t',h'⟩ a w
theorem Le.of{m:Nat}{t t':List AV}{h h':List AObj}(L:List (Option Nat))(hw:Weak m t h L t' h'):Le m t h t' h':=fun _ _ _ _ hk hs=>⟨_,hw.sim hk hs⟩
theorem Le.trans{m:Nat}{t t' t'':List AV}{h h' h'':List AObj}(h1:Le m t h t' h')(h2:Le m t' h' t'' h''):Le m t h t'' h'':=fun C κ a w hk hs=>by
 obtain⟨κ',hs'⟩:=h1 C κ a w hk hs;exact h2 C κ' a w hk hs'
theorem AW.le{P:Program}{m:Nat}{c:Code}{Q:QT}{t t':List AV}{h h':List AObj}(hl:Le m t h t' h')(hc:AW P m c Q t' h'):AW P m c Q t h:=fun C κ a w hk hs=>by
 obtain⟨κ',hs'⟩:=hl C κ a w hk hs;exact hc C κ' a w hk hs'
inductive VWs(h:List AObj)(L:List (Option Nat)):List AV→List AV→Prop where
 |nil:VWs h L [] []
 |cons {x y:AV} {xs ys:List AV}:VW h L x y→VWs h L xs ys→VWs h L (x::xs) (y::ys)
theorem VWs.len{h:List AObj}{L:List (Option Nat)}{xs ys:List AV}(hv:VWs h L xs ys):xs.length=ys.length:=by
 induction hv with
 |nil=>rfl
 |cons _ _ ih=>simp[ih]
theorem VWs.get{h:List AObj}{L:List (Option Nat)}{xs ys:List AV}(hv:VWs h L xs ys):∀j,VW h L (xs.getD j .unk) (ys.getD j .unk):=by
 induction hv with
 |nil=>intro j;exact .unk _
 |cons h1 _ ih=>intro j;cases j with
  |zero=>exact h1
  |succ j=>exact ih j
inductive OWs(h:List AObj)(L:List (Option Nat)):List (Option Nat)→List AObj→Prop where
 |nil:OWs h L [] []
 |old {l:Nat} {o:AObj} {ls:List (Option Nat)} {os:List AObj}:OW h L o (obj? h l)→OWs h L ls os→OWs h L (some l::ls) (o::os)
 |new {o:AObj} {ls:List (Option Nat)} {os:List AObj}:aX o=false→OWs h L ls os→OWs h L (none::ls) (o::os)
theorem OWs.len{h:List AObj}{L ls:List (Option Nat)}{os:List AObj}(hv:OWs h L ls os):ls.length=os.length:=by
 induction hv with
 |nil=>rfl
 |old _ _ ih=>simp[ih]
 |new _ _ ih=>simp[ih]
theorem OWs.get{h:List AObj}{L ls:List (Option Nat)}{os:List AObj}(hv:OWs h L ls os):∀i l,ls[i]? =some (some l)→OW h L (obj? os i) (obj? h l):=by
 induction hv with
 |nil=>intro i l hi;simp at hi
 |old h1 _ ih=>intro i l hi;cases i with
  |zero=>simp at hi;subst hi;exact h1
  |succ i=>exact ih i l (by simpa using hi)
 |new _ _ ih=>intro i l hi;cases i with
  |zero=>simp at hi
  |succ i=>exact ih i l (by simpa using hi)
theorem OWs.ajh{h:List AObj}{L ls:List (Option Nat)}{os:List AObj}(hv:OWs h L ls os):∀i,ls[i]? =some none→aX (obj? os i)=false:=by
 induction hv with
 |nil=>intro i hi;simp at hi
 |old h1 _ ih=>intro i hi;cases i with
  |zero=>simp at hi
  |succ i=>exact ih i (by simpa using hi)
 |new h1 _ ih=>intro i hi;cases i with
  |zero=>exact h1
  |succ i=>exact ih i (by simpa using hi)
def Px:AObj→Bool
 | .dead=>false
 | .res=>false
 |_=>true
theorem Sn{o:AObj}(h:live o):Px o=true:=by cases o<;>simp[live,Px]at *
def kH:List (Option Nat)→List AObj→List Nat
 |some l::L,o::os=>match Px o with
  |true=>l::kH L os
  |false=>kH L os
 |none::L,_::os=>kH L os
 |_,_=>[]
def okL(m n:Nat)(L:List (Option Nat))(h':List AObj):Bool:=
 (List.range m).all (fun i=>L[i]? ==some (some i))&&(L.all fun o=>match o with|some l=>decide (l<n)|none=>true)&&decide ((kH L h').Nodup)
theorem Zo:∀(L:List (Option Nat)) (hs:List AObj) (k l:Nat),L[k]? =some (some l)→live (obj? hs k)→l∈kH L hs:=by
 intro L
 induction L with
 |nil=>intro hs k l hk;simp at hk
 |cons o L ih=>
  intro hs k l hk hl;cases hs with
  |nil=>simp[obj?,live]at hl
  |cons a asz=>
   cases k with
   |zero=>
    simp at hk;subst hk;have:Px a=true:=Sn hl;simp[kH,this]
   |succ k=>
    have hm:=ih asz k l (by simpa using hk) hl;cases o with
    |none=>simpa[kH]using hm
    |some x=>
     simp only[kH]
     grind
theorem YG:∀(L:List (Option Nat)) (hs:List AObj),(kH L hs).Nodup→∀i j l,L[i]? =some (some l)→L[j]? =some (some l)→live (obj? hs i)→live (obj? hs j)→i=j:=by
 intro L
 induction L with
 |nil=>intro hs _ i j l hi;simp at hi
 |cons o L ih=>
  intro hs hn i j l hi hj li lj;cases hs with
  |nil=>simp[obj?,live]at li
  |cons a asz=>
   have hn':(kH L asz).Nodup:=by
    cases o with
    |none=>simpa[kH]using hn
    |some x=>
     simp only[kH]at hn
     grind
   have key:∀k,o=some l→live a→L[k]? =some (some l)→live (obj? asz k)→False:=fun k ho ha hk lk=>by
    subst ho;simp only[kH,Sn ha]at hn;exact(qCm.1 hn).1 (Zo L asz k l hk lk)
   cases i with
   |zero=>cases j with
    |zero=>rfl
    |succ j=>exact(key j (by simpa using hi) li (by simpa using hj) lj).elim
   |succ i=>cases j with
    |zero=>exact(key i (by simpa using hj) lj (by simpa using hi) li).elim
    |succ j=>exact congrArg _ (ih asz hn' i j l (by simpa using hi) (by simpa using hj) li lj)
theorem Weak.mk'{m:Nat}{t t':List AV}{h h':List AObj}{L:List (Option Nat)}(hL:okL m h.length L h'=true)(ht:VWs h L t' t)(ho:OWs h L L h'):Weak m t h L t' h':=by
 simp only[okL,qAa,qAG,decide_eq_true_eq]at hL;obtain⟨⟨h1,h2⟩,h3⟩:=hL;refine⟨ht.len,ho.len,fun i hi=>by simpa using h1 i (by simpa using hi),YG L h' h3,fun i l hl=>?_,ht.get,ho.get,ho.ajh⟩;have:=h2 _ (qAA hl)
 grind
end
section
open Go
def U5(v:Int)(K:Int→Prop):Prop:=∃n,n=v∧K n
def Oc(v:List (List AV))(K:List (List AV)→Prop):Prop:=∃es,es=v∧K es
theorem U5.out{v:Int}{K:Int→Prop}(h:U5 v K):K v:=by obtain⟨n,rfl,h⟩:=h;exact h
theorem Oc.out{v:List (List AV)}{K:List (List AV)→Prop}(h:Oc v K):K v:=by obtain⟨n,rfl,h⟩:=h;exact h
def agw(s:List UInt8)(n:Int)(K:AV→Prop):Prop:=∃x:Int,(0≤n∧n<s.length)∧x=(s.getD n.toNat 0).toNat∧K (.int .u8 x)
def aii(a b:List UInt8)(K:AV→Prop):Prop:=∃r,a.length+b.length≤9223372036854775807∧r=a++b∧K (.str r)
def af5(s:List UInt8)(lo hi:Option AV)(K:AV→Prop):Prop:=∃r,(∃l h,bG hi s.length s.length=some h∧bG lo 0 h=some l∧r=(s.drop l).take (h - l))∧K (.str r)
def agi(es:List (List AV))(sz:Nat)(lo hi:Option AV)(K:AV→Prop):Prop:=∃r,(∃l h,bG hi es.length es.length=some h∧bG lo 0 h=some l∧(l<es.length→(es.getD l []).length=sz)∧r=(es.drop l).take (h - l))∧K (.slice r .shared)
def afa(ns:List (List AV))(neg:Bool)(K:AV→Prop):Prop:=∃b:Bool,b=ns.isEmpty∧K (.bool (neg !=b))
def agP(ns:List (List AV))(K:AV→Prop):Prop:=∃cs r cells,ns=cs::r∧cells=cs++[.flist r]∧K (.eptr cells)
def aaG(τ:Nat→TI)(op:BinOp)(t:TypeId)(x y:AV)(K:AV→Prop):Prop:=
 match op,x,y with
 | .add,.str a,.str b=>aii a b K
 | .eql,.flist ns,.nilp=>dK (τ t).isPtr (afa ns false K) False
 | .neq,.flist ns,.nilp=>dK (τ t).isPtr (afa ns true K) False
 | .add,.int k a,.int k' b=>dK (decide (k=k')) (U5 (k.wrap (a+b)) fun n=>K (.int k n)) False
 | .sub,.int k a,.int k' b=>dK (decide (k=k')) (U5 (k.wrap (a - b)) fun n=>K (.int k n)) False
 | .mul,.int k a,.int k' b=>dK (decide (k=k')) (U5 (k.wrap (a*b)) fun n=>K (.int k n)) False
 |op,x,y=>dI (F3 τ op t x y) K
def ZG(K:AV→Prop)(isStr:Bool)(slT:Option Nat):AV→Prop
 | .str s=>dK isStr (K (.int .i64 s.length)) False
 | .slice es _=>dI slT fun _=>U5 es.length fun n=>K (.int .i64 n)
 | .psl _ _ n=>dI slT fun _=>K (.int .i64 n)
 |_=>False
def Zm(σ:Nat→AObj)(k sz bytes:Nat)(d:Option Tmp)(K:List Nat→List Wr→Prop)(es ys:List (List AV)):Tag→Prop
 | .nils=>match es with
  |[]=>dK (aX (σ k)) (aaj ys sz bytes (Oc ys fun es=>∃n,n=ys.length*sz∧K [k] (.obj k (.tip n)::ah d (.slice es (.tip k sz))))) False
  |_=>False
 | .tip l z=>match σ l with
  | .tip n=>dK (aX (σ k)&&z==sz) (aaw n es ys sz bytes (Oc (es++ys) fun r=>∃n,n=(es++ys).length*sz∧K [l,k] (.obj l .dead:: .obj k (.tip n)::ah d (.slice r (.tip k sz))))) False
  |_=>False
 | .shared=>False
 | .full _=>False
def ai5(n:Nat)(es ys:List (List AV))(sz bytes:Nat)(K:List (List AV)→Nat→Prop):Prop:=
 (n≤es.length∧(n+ys.length)*bytes≤140737488355328∧n+ys.length≤140737488355328∧(es.all (aV sz)=true)∧(ys.all (aV sz)=true))∧∃r m,r=es.take n++ys∧m=r.length∧K r m
def X7(σ:Nat→AObj)(l k z n sz bytes:Nat)(d:Option Tmp)(K:List Nat→List Wr→Prop)(ys:List (List AV)):AObj→Prop
 | .arr z' es=>dK (aX (σ k)&&(z==sz&&z'==sz)) (ai5 n es ys sz bytes fun r m=>K [l,k] (.obj l .dead:: .obj k (.arr sz r)::ah d (.psl k sz m))) False
 |_=>False
def ZX(σ:Nat→AObj)(k sz bytes:Nat)(d:Option Tmp)(K:List Nat→List Wr→Prop):AV→AV→Prop
 | .slice es tg,.slice ys _=>Zm σ k sz bytes d K es ys tg
 | .psl l z n,.slice ys _=>X7 σ l k z n sz bytes d K ys (σ l)
 |_,_=>False
def aaW(isStr:Bool)(slT:Option Nat)(lo hi:Option AV)(K:AV→Prop):AV→Prop
 | .str s=>dK isStr (af5 s lo hi K) False
 | .slice es _=>dI slT fun sz=>agi es sz lo hi K
 | .psl l z n=>dI slT fun _=>match lo with
  |none=>∃m,bG hi n n=some m∧K (.psl l z m)
  |some _=>False
 |_=>False
def Ci:Nat→List (Nat×Operand)→Bool
 |_,[]=>true
 |i,p::ps=>Nat.beq p.1 i&&Ci (i+1) ps
def aaR(ρ:Operand→AV)(sz:Nat):List (Nat×Operand)→(List (List AV)→Prop)→Prop
 |[],K=>K []
 |p::ps,K=>dI (bH (ρ p.2)) fun cs=>dK (Nat.beq cs.length sz) (fL (cs.map shr) fun cs=>aaR ρ sz ps fun es=>K (cs::es)) False
theorem aa7{ρ:Operand→AV}{sz:Nat}:∀(ps:List (Nat×Operand)) (K:List (List AV)→Prop),aaR ρ sz ps K→∃css:List (List AV),css.length=ps.length∧(∀c∈css,c.length=sz)∧(∀j:Nat,j<ps.length→∃p,ps[j]? =some p∧bH (ρ p.2)=css[j]?)∧K (css.map fun c=>c.map shr):=by
 intro ps
 induction ps with
 |nil=>intro K h;exact⟨[],rfl,by simp,fun j hj=>by simp at hj,h⟩
 |cons p ps ih=>
  intro K h;obtain⟨cs,h1,h2⟩:=aZ h;rcases aQ h2 with⟨h3,h4⟩|⟨_,h4⟩
  ·rw[lS]at h4;obtain⟨css,g1,g2,g3,g4⟩:=ih _ h4;refine⟨cs::css,by simp[g1],?_,?_,g4⟩
   ·simp_all
   grind
  grind
theorem H7{sz:Nat}:∀{css:List (List AV)},(∀c∈css,c.length=sz)→css.flatten.length=css.length*sz
 |[],_=>by simp
 |c::css,h=>by
  simp only[qCM,qAj];rw[h c (by simp),H7 (fun c hc=>h c (by simp[hc]))]
  grind
theorem Ih{ρ:Operand→AV}{sz:Nat}:∀(ps:List (Nat×Operand)) (i:Nat) (css:List (List AV)) (cells:List AV),Ci i ps=true→css.length=ps.length→(∀c∈css,c.length=sz)→(∀j:Nat,j<ps.length→∃p,ps[j]? =some p∧bH (ρ p.2)=css[j]?)→(i+ps.length)*sz≤cells.length→
  gy (fun i=>some (i*sz,sz)) cells (ps.map fun p=>(p.1,ρ p.2))=some (cells.take (i*sz)++css.flatten++cells.drop ((i+ps.length)*sz)):=by
 intro ps
 induction ps with
 |nil=>intro i css cells _ hl _ _ _;have:css=[]:=qAR.1 hl;subst this;simp[gy]
 |cons p ps ih=>
  intro i css cells hc hl hz hp hle;simp only[Ci,qAa]at hc;obtain⟨hc1,hc2⟩:=hc;have hi:p.1=i:=qAc hc1;cases css with
  |nil=>simp at hl
  |cons c css=>
   obtain⟨q,q1,q2⟩:=hp 0 (by simp);simp only[qAE,Option.some.injEq]at q1 q2;subst q1;have hcl:c.length=sz:=hz c (by simp);simp only[qAl]at hle hl;have e1:(i+(ps.length+1))*sz=i*sz+(ps.length*sz+sz):=by rw[qAQ,qAQ,qCY]
   rw[e1]at hle;simp only[qAz,gy,hi,q2];rw[if_pos ⟨hcl,by omega⟩];rw[ih (i+1) css _ hc2 (by omega) (fun c hc=>hz c (by simp[hc])) (fun j hj=>by
    obtain⟨q,q1,q2⟩:=hp (j+1) (by simpa using hj);exact⟨q,by simpa using q1,by simpa using q2⟩) (by
     simp only[qAj,qAw,qCh,hcl];rw[show(i+1+ps.length)*sz=i*sz+sz+ps.length*sz by rw[qAQ,qAQ,qCY]];omega)]
   congr 1;have t1:(cells.take (i*sz)++c++cells.drop (i*sz+sz)).take ((i+1)*sz)=cells.take (i*sz)++c:=by
    rw[List.take_append_of_le_length (by simp[hcl];rw[qAQ];omega)];apply qCc;simp[hcl];rw[qAQ];omega
   have t2:(cells.take (i*sz)++c++cells.drop (i*sz+sz)).drop ((i+1+ps.length)*sz)=cells.drop ((i+(ps.length+1))*sz):=by
    have hl2:(cells.take (i*sz)++c).length=i*sz+sz:=by simp[hcl];omega
    rw[show(i+1+ps.length)*sz=(cells.take (i*sz)++c).length+ps.length*sz by rw[hl2,qAQ,qAQ,qCY]];rw[←qDa,qCr,qDa,e1];congr 1;omega
   rw[t1];simp only[qAl];rw[t2];simp[qAr]
theorem chunks_flatten{sz:Nat}:∀{css:List (List AV)},(∀c∈css,c.length=sz)→chunks sz css.length css.flatten=css
 |[],_=>rfl
 |c::css,h=>by
  have hc:c.length=sz:=h c (by simp);simp only[qAl,chunks,qCM];rw[List.take_left' hc,qCV hc,chunks_flatten (fun c hc=>h c (by simp[hc]))]
def aaL(ρ:Operand→AV):List (Nat×Operand)→List AV→(List AV→Prop)→Prop
 |[],cells,K=>K cells
 |p::ps,cells,K=>dI (bH (ρ p.2)) fun cs=>match cs with
  |[c]=>dK (Nat.blt p.1 cells.length) (Bv cells p.1 c fun cells=>aaL ρ ps cells K) False
  |_=>False
theorem Eh{α:Type}:∀(l:List α) (i:Nat) (v:α),i<l.length→l.take i++[v]++l.drop (i+1)=l.set i v
 |[],_,_,h=>by simp at h
 |x::l,0,v,_=>by simp
 |x::l,i+1,v,h=>by
  have:=Eh l i v (by simpa using h)
  grind
theorem abk{ρ:Operand→AV}:∀(ps:List (Nat×Operand)) (cells:List AV) (K:List AV→Prop),aaL ρ ps cells K→∃cs,gy (fun i=>some (i*1,1)) cells (ps.map fun p=>(p.1,ρ p.2))=some cs∧K cs:=by
 intro ps
 induction ps with
 |nil=>intro cells K h;exact⟨cells,rfl,h⟩
 |cons p ps ih=>
  intro cells K h;obtain⟨cs,h1,h2⟩:=aZ h;split at h2
  ·rename_i c;rcases aQ h2 with⟨h3,h4⟩|⟨_,h4⟩
   ·rw[vo]at h4;obtain⟨r,g1,g2⟩:=ih _ _ h4;have hlt:p.1<cells.length:=by simpa[Nat.blt,Nat.succ_le_iff]using h3
    simp only[qAz,gy,h1,Nat.mul_one];rw[if_pos ⟨rfl,by omega⟩,Eh _ _ _ hlt]
    grind
   grind
  grind
def air(es:List (List UInt8×AV))(k:List UInt8)(v:AV)(K:List (List UInt8×AV)→Prop):Prop:=∃r,es.length<140737488355328∧r=uw es k v∧K r
def aeN(es:List (List AV))(K:AV→Prop):Prop:=∃bs,mX es=some bs∧K (.str bs)
def XA(ρ:Operand→AV)(ps:List (Nat×Operand))(z:Option (List AV))(K:AV→Prop):IxT→Prop
 | .arr _ (some sz)=>dK (Nat.beq sz 1) (dI z fun z=>aaL ρ ps z fun cs=>K (.agg cs)) False
 |_=>False
def abn(K:AV→Prop):IxT→AV→AV→Prop
 | .arr len (some sz),.ptr l o,.int _ n=>∃m:Nat,(0≤n∧n<len)∧m=o+n.toNat*sz∧K (.ptr l m)
 | .sl (some sz),.psl l z len,.int _ n=>∃m:Nat,(0≤n∧n<len∧z=sz)∧m=n.toNat*sz∧K (.ptr l m)
 |ix,x,i=>Qs K ix x i
theorem aah{K:AV→Prop}{ix:IxT}{x i:AV}(h:abn K ix x i):Qs K ix x i∨∃sz l z len k n,ix=.sl (some sz)∧x=.psl l z len∧i=.int k n∧(0≤n∧n<(len:Int)∧z=sz)∧K (.ptr l (n.toNat*sz)):=by
 unfold abn at h;split at h
 ·obtain⟨m,h1,rfl,h2⟩:=h;exact .inl ⟨h1,h2⟩
 ·grind
 grind
def ahq(τ:Nat→TI)(t:TypeId)(z off:Nat)(es:List (List AV))(K:AV→Prop):Prop:=∃i cs,off=i*z∧0<z∧es[i]? =some cs∧dI (loadT τ t cs) K
def ae5(z off:Nat)(es:List (List AV))(vs:List AV)(K:List (List AV)→Prop):Prop:=∃i r,off=i*z∧0<z∧i<es.length∧r=es.set i vs∧K r
def afs(z off:Nat)(es:List (List AV))(vs:List AV)(K:List (List AV)→Prop):Prop:=∃i j cs r,off=i*z+j∧j<z∧j+vs.length≤z∧es[i]? =some cs∧r=es.set i (cs.take j++vs++cs.drop (j+vs.length))∧K r
def CO(τ:Nat→TI)(k:Nat)(d:Option Tmp)(ρ:Operand→AV)(σ:Nat→AObj)(K:List Nat→List Wr→Prop):Op→Prop
 | .binOp op t x y _=>aaG τ op t (ρ x) (ρ y) fun v=>K [] (ah d v)
 | .nilCheck x=>match ρ x with
  | .flist ns=>agP ns fun v=>K [] (ah d v)
  |v=>dI (aaH v) fun v=>K [] (ah d v)
 | .indexAddr t x i=>abn (fun v=>K [] (ah d v)) (τ t).ix (ρ x) (ρ i)
 | .index t x i=>match ρ x,ρ i with
  | .str s,.int _ n=>dK (τ t).isStr (agw s n fun v=>K [] (ah d v)) False
  |_,_=>False
 | .build t parts=>dK (τ t).isStruct (dI (τ t).zero fun z=>dI (gy (lk (τ t).place) z (parts.toList.map fun p=>(p.1,ρ p.2))) fun cs=>K [] (ah d (.agg cs))) (XA ρ parts.toList (τ t).zero (fun v=>K [] (ah d v)) (τ t).ix)
 | .convert s t x=>match ρ x with
  | .int _ n=>dK (τ s).int.isSome (dI (τ t).int fun k=>K [] (ah d (.int k (k.wrap n)))) False
  | .slice es _=>dI (τ s).elem fun e=>dK (decide ((τ e.1).int=some .u8)&&(τ t).isStr) (aeN es fun v=>K [] (ah d v)) False
  |_=>False
 | .slice t x lo hi none=>aaW (τ t).isStr (τ t).slT (lo.map ρ) (hi.map ρ) (fun v=>K [] (ah d v)) (ρ x)
 | .buildSlice t len parts=>dI (τ t).elem fun e=>dI (τ e.1).zero fun z=>dK (aX (σ k)&&(decide (len*e.2.1≤16777216)&&(decide (len≤16777216)&&(decide (z.length=e.2.1)&&!FT len parts.toList z))))
   (dK (Ci 0 parts.toList&&Nat.beq parts.toList.length len) (aaR ρ e.2.1 parts.toList fun es=>Oc es fun es=>K [k] (.obj k (.tip (len*e.2.1))::ah d (.slice es (.tip k e.2.1))))
    (dI (gy (fun i=>some (i*e.2.1,e.2.1)) ((List.replicate len z).flatten) (parts.toList.map fun p=>(p.1,ρ p.2))) fun cs=>Oc (chunks e.2.1 len (cs.map shr)) fun es=>K [k] (.obj k (.tip (len*e.2.1))::ah d (.slice es (.tip k e.2.1))))) False
 | .call {callee:=.builtin .len,args,argTypes}=>match args.toList,argTypes.toList with
  |[x],[t]=>ZG (fun v=>K [] (ah d v)) (τ t).isStr (τ t).slT (ρ x)
  |_,_=>False
 | .call {callee:=.builtin .append,args,argTypes}=>match args.toList,argTypes.toList with
  |[x,y],[t,t2]=>dI (τ t).elem fun e=>dK (τ t2).isSl (ZX σ k e.2.1 e.2.2 d K (ρ x) (ρ y)) False
  |_,_=>False
 | .mapUpdate t m key x=>dI (τ t).smap fun _=>match ρ m,ρ key with
  | .mapr l,.str s=>match σ l with
   | .mp es=>air es s (kU (ρ x)) fun r=>K [l] (.obj l (.mp r)::ah d (.tup []))
   |_=>False
  |_,_=>False
 | .load t x=>match ρ x with
  | .eptr cs=>dI (loadT τ t cs) fun v=>K [] (ah d v)
  | .ptr l off=>match σ l with
   | .box cs=>dI (loadT τ t (cs.drop off)) fun v=>K [l] (ah d v)
   | .arr z es=>ahq τ t z off es fun v=>K [l] (ah d v)
   |_=>False
  |_=>False
 | .store t x y=>match ρ x with
  | .ptr l off=>dI (bH (ρ y)) fun vs=>match σ l with
   | .box cs=>dK (decide ((τ t).size=some vs.length∧off+vs.length≤cs.length)&&vs.all isScalar) (K [l] (.obj l (.box (cs.take off++vs++cs.drop (off+vs.length)))::ah d (.tup []))) False
   | .arr z es=>dK (decide ((τ t).size=some vs.length∧vs.length=z)&&vs.all isScalar) (ae5 z off es vs fun r=>K [l] (.obj l (.arr z r)::ah d (.tup [])))
     (dK (decide ((τ t).size=some vs.length)&&vs.all isScalar) (afs z off es vs fun r=>K [l] (.obj l (.arr z r)::ah d (.tup []))) False)
   |_=>False
  |_=>False
 |op=>stepT τ k d ρ σ K op
theorem aa0{τ:Nat→TI}{op:BinOp}{t:TypeId}{x y:AV}{K:AV→Prop}(h:aaG τ op t x y K):Bw τ op t x y K:=by
 unfold aaG at h;split at h
 ·obtain⟨r,g1,rfl,g2⟩:=h;exact⟨g1,g2⟩
 ·rcases aQ h with⟨e,b,rfl,g⟩|⟨_,g⟩
  ·simp only[Bw,F3,e,wO,dI];simpa using g
  grind
 ·rcases aQ h with⟨e,b,rfl,g⟩|⟨_,g⟩
  ·simp only[Bw,F3,e,wO,dI];simpa using g
  grind
 ·rcases aQ h with⟨e,g⟩|⟨_,g⟩
  ·simp at e;subst e;simp only[Bw,F3];exact g.out
  grind
 ·rcases aQ h with⟨e,g⟩|⟨_,g⟩
  ·simp at e;subst e;simp only[Bw,F3];exact g.out
  grind
 ·rcases aQ h with⟨e,g⟩|⟨_,g⟩
  ·simp at e;subst e;simp only[Bw,F3];exact g.out
  grind
 ·rename_i hn1 _ _ hn2 hn3 hn4;unfold Bw
  grind
theorem Dy{b:Bool}{A A' B B':Prop}(h:dK b A B)(h1:A→A')(h2:B→B'):dK b A' B':=by cases b;exact h2 h;exact h1 h
theorem zA{α:Type}{r:Option α}{K K':α→Prop}(h:dI r K)(hk:∀x,K x→K' x):dI r K':=by cases r with|none=>exact h|some x=>exact hk x h
theorem abf{K:AV→Prop}{isStr:Bool}{slT:Option Nat}{v:AV}(h:ZG K isStr slT v):dI (aaE isStr slT v) K:=by
 unfold ZG at h;split at h
 ·rcases aQ h with⟨e,g⟩|⟨_,g⟩
  ·subst e;exact g
  grind
 ·obtain⟨x,e,g⟩:=aZ h;subst e;exact g.out
 ·obtain⟨x,e,g⟩:=aZ h;subst e;exact g
 grind
theorem aaz{σ:Nat→AObj}{k sz bytes:Nat}{d:Option Tmp}{K:List Nat→List Wr→Prop}{x y:AV}(h:ZX σ k sz bytes d K x y):VR σ k sz bytes d K x y∨
  ∃l n es ys tg,x=.psl l sz n∧y=.slice ys tg∧σ l=.arr sz es∧aX (σ k)=true∧n≤es.length∧(n+ys.length)*bytes≤140737488355328∧n+ys.length≤140737488355328∧es.all (aV sz)=true∧ys.all (aV sz)=true∧
   K [l,k] (.obj l .dead:: .obj k (.arr sz (es.take n++ys))::ah d (.psl k sz (es.take n++ys).length)):=by
 unfold ZX at h;split at h
 ·refine .inl ?_;unfold Zm at h;split at h
  ·split at h
   ·refine Dy h (fun g=>?_) id;obtain⟨g1,g2⟩:=g;obtain⟨n,e,g⟩:=g2.out;subst e;exact⟨g1,g⟩
   grind
  ·split at h
   ·rename_i hσ;simp only[VR,hσ];refine Dy h (fun g=>?_) id;obtain⟨g1,g2⟩:=g;obtain⟨n,e,g⟩:=g2.out;subst e;exact⟨g1,g⟩
   grind
  ·grind
  ·exact h.elim
 ·rename_i l z n ys tg;unfold X7 at h;split at h
  ·rename_i z' es hl;rcases aQ h with⟨e1,⟨q1,q2,q3,q4,q5⟩,r,m,rfl,rfl,g⟩|⟨_,g⟩
   ·grind
   grind
  grind
 grind
theorem aan{isStr:Bool}{slT:Option Nat}{lo hi:Option AV}{K:AV→Prop}{v:AV}(h:aaW isStr slT lo hi K v):cutV isStr slT lo hi K v∨∃l z n m sz,v=.psl l z n∧lo=none∧slT=some sz∧bG hi n n=some m∧K (.psl l z m):=by
 unfold aaW at h;split at h
 ·refine .inl (Dy h (fun g=>?_) id);obtain⟨r,⟨l,hh,g1,g2,rfl⟩,g4⟩:=g;exact⟨l,hh,g1,g2,g4⟩
 ·refine .inl (zA h fun sz g=>?_);obtain⟨r,⟨l,hh,g1,g2,g3,rfl⟩,g4⟩:=g;exact⟨l,hh,g1,g2,g3,g4⟩
 ·rename_i l z n;obtain⟨sz,e,g⟩:=aZ h
  grind
 grind
theorem MG{P:Program}{e:Nat}{k:IntKind}(h:(TI.of P e).int=some k):P.underlying e=some (.int k):=by
 have:intTy P e=some k:=h;unfold intTy at this
 grind
theorem adB{P:Program}{t:Nat}(h:(TI.of P t).isStr=true):P.underlying t=some .string:=by
 have:aj.isStrT P t=true:=h;unfold aj.isStrT at this
 grind
theorem aa1{P:Program}{t:Nat}{e:TypeId×Nat×Nat}(h:(TI.of P t).elem=some e):P.underlying t=some (.slice e.1):=by
 have:fF P t=some e:=h;unfold fF at this;split at this
 ·rename_i e' hu;cases hi:P.info? e' with
  |none=>rw[hi]at this;cases this
  |some i=>
   grind
 ·cases this
theorem Xl{P:Program}{s t:Nat}{x:Operand}{ρ:Operand→AV}{es:List (List AV)}{tg:Tag}{bs:List UInt8}{e:TypeId×Nat×Nat}(hx:ρ x=.slice es tg)(h1:(TI.of P s).elem=some e)(h2:(TI.of P e.1).int=some .u8)(h3:(TI.of P t).isStr=true)(hb:mX es=some bs):aj P (.convert s t x) ρ=some (.str bs):=by
 have hs:=aa1 h1;have he:=MG h2;have ht:=adB h3;have hc:aj.convT P s t=none:=by unfold aj.convT;rw[hs,ht]
 have hbt:FR P s t=true:=by unfold FR;rw[hs,ht];simp only[he]
 simp only[aj,hx,hc,hbt,if_true,hb,qAv]
theorem Fj{P:Program}{k:Nat}{o:Oper}{ρ:Operand→AV}{σ:Nat→AObj}{K:List Nat→List Wr→Prop}(h:CO (TI.of P) k o.dst ρ σ K o.op):(∃rd ws,aD P k o ρ σ=some (rd,ws)∧K rd ws):=by
 obtain⟨dst,op,ty,pos,after,guard⟩:=o;dsimp only at h
 suffices hh:stepT (TI.of P) k dst ρ σ K op∨(∃v,aj P op ρ=some v∧K [] (ah dst v))∨(∃rd ws,aD P k ⟨dst,op,ty,pos,after,guard⟩ ρ σ=some (rd,ws)∧K rd ws) by
  rcases hh with hh|⟨v,h1,h2⟩|hh
  ·exact Iq (o:=⟨dst,op,ty,pos,after,guard⟩) hh
  ·exact dn (o:=⟨dst,op,ty,pos,after,guard⟩) h1 h2
  ·exact hh
 unfold CO at h;split at h
 ·refine .inl ?_;exact aa0 h
 ·refine .inl ?_;simp only[stepT];split at h
  ·rename_i ns hx;obtain⟨cs,r,cells,rfl,rfl,g⟩:=h;rw[hx];exact g
  ·exact h
 ·rename_i t x i;rcases aah h with g|⟨sz,l,z,len,kk,n,g1,g2,g3,g4,g5⟩
  ·exact .inl g
  ·refine .inr (.inl ⟨.ptr l (n.toNat*sz),?_,g5⟩);have hix:za P t=.sl (some sz):=g1;unfold za at hix;split at hix
   ·rename_i e hu;simp only[IxT.sl.injEq]at hix;simp only[aj,g3,hu,g2,hix];rw[if_pos g4]
   ·cases hix
   ·cases hix
 ·refine .inl ?_;simp only[stepT];split at h
  ·rename_i h1 h2;simp only[h1,h2];refine Dy h (fun g=>?_) id;obtain⟨x,g1,rfl,g2⟩:=g;exact⟨g1,g2⟩
  ·exact h.elim
 ·rename_i t parts;by_cases hst:(TI.of P t).isStruct=true
  ·refine .inl ?_;simp only[stepT];rw[hst]at h⊢;exact h
  ·refine .inr (.inl ?_);have hst':(TI.of P t).isStruct=false:=by simpa using hst
   rw[hst']at h;simp only[dK]at h;have hs2:nH P t=false:=hst';unfold XA at h;split at h
   ·rename_i len sz hix;rcases aQ h with⟨e1,g⟩|⟨_,g⟩
    ·have hsz:sz=1:=qAc e1;subst hsz;obtain⟨z,hz,g2⟩:=aZ g;obtain⟨cs,g3,g4⟩:=abk _ _ _ g2;have hz':gu P t=some z:=hz;have ha:JL P t=some 1:=by
      have hix':za P t=.arr len (some 1):=hix;unfold za at hix';unfold JL;split at hix'
      ·cases hix'
      ·rename_i n e hu;simp only[IxT.arr.injEq]at hix';rw[hu];exact hix'.2
      ·cases hix'
     exact⟨.agg cs,by simp only[aj,hs2,qAI,if_false,ha,hz',g3,qAv],g4⟩
    ·exact g.elim
   ·exact h.elim
 ·split at h
  ·rename_i n hx;refine .inl ?_;simp only[stepT,hx];exact h
  ·rename_i es tg hx;refine .inr (.inl ?_);obtain⟨e,h1,h2⟩:=aZ h;rcases aQ h2 with⟨h3,bs,h4,h5⟩|⟨_,g⟩
   ·simp only[qAa,decide_eq_true_eq]at h3;exact⟨.str bs,Xl hx h1 h3.1 h3.2 h4,h5⟩
   ·exact g.elim
  ·exact h.elim
 ·rename_i t x lo hi;rcases aan h with g|⟨l,z,n,m,sz,g1,g2,g3,g4,g5⟩
  ·exact .inl g
  ·refine .inr (.inl ⟨.psl l z m,?_,g5⟩);have hsl:aj.sliceT P t=some sz:=g3;cases lo with
   |some y=>cases g2
   |none=>simp only[aj,g1,hsl,g4]
 ·refine .inl ?_;rename_i t len parts;refine zA h fun e g=>zA g fun z g=>?_;rcases aQ g with⟨hb,g⟩|⟨_,g⟩
  ·rw[hb];simp only[qAa,decide_eq_true_eq]at hb;obtain⟨_,_,_,hz,_⟩:=hb;rcases aQ g with⟨hc,g⟩|⟨_,g⟩
   ·simp only[qAa]at hc;obtain⟨hc1,hc2⟩:=hc;have hlen:=qAc hc2;obtain⟨css,g1,g2,g3,g4⟩:=aa7 _ _ g;have hrl:((List.replicate len z).flatten).length=len*e.2.1:=by
     rw[H7 (sz:=e.2.1) (fun c hc=>by rw[List.mem_replicate]at hc;rw[hc.2];exact hz)];simp
    have hf:=Ih (ρ:=ρ) (sz:=e.2.1) parts.toList 0 css ((List.replicate len z).flatten) hc1 g1 g2 g3 (by rw[hrl,hlen];simp);simp only[dK];rw[hf];have e1:((List.replicate len z).flatten).drop ((0+parts.toList.length)*e.2.1)=[]:=by
     apply List.drop_eq_nil_of_le;rw[hrl,hlen];simp
    rw[e1];simp only[qCQ,qBj,qAC,qAt,dI];have e2:chunks e.2.1 len (css.flatten.map shr)=css.map fun c=>c.map shr:=by
     rw[←hlen,←g1,List.map_flatten];have:=chunks_flatten (sz:=e.2.1) (css:=css.map (List.map shr)) (fun c hc=>by
      obtain⟨c',hc',rfl⟩:=qBc.1 hc;rw[qAi];exact g2 c' hc')
     rw[qAi]at this;exact this
    rw[e2];exact g4.out
   ·exact zA g fun cs g=>g.out
  ·exact g.elim
 ·refine .inl ?_;simp only[stepT];split at h
  ·rename_i h1 h2;simp only[h1,h2];exact abf h
  ·exact h.elim
 ·rename_i args argTypes;split at h
  ·rename_i x y t t2 h1 h2;obtain⟨e,he,h3⟩:=aZ h;rcases aQ h3 with⟨h4,h5⟩|⟨_,g⟩
   ·rcases aaz h5 with g|⟨l,n,es,ys,tg,g1,g2,g3,g4,g5,g6,g7,g8,g9,g10⟩
    ·refine .inl ?_;simp only[stepT,h1,h2,he,dI,h4,dK];exact g
    ·refine .inr (.inr ⟨_,_,?_,g10⟩);obtain⟨e1,e2,e3⟩:=e;have he':fF P t=some (e1,e2,e3):=he;have h4':aD.isSliceT P t2=true:=h4;simp only[aD,aj,h1,h2,he',h4',g1,g2,g3];rw[if_pos (by refine⟨g4,?_,?_,g5,g6,g7,g8,g9⟩<;>trivial)]
   ·exact g.elim
  ·exact h.elim
 ·refine .inl ?_;simp only[stepT];refine zA h fun e g=>?_;split at g
  ·rename_i h1 h2;simp only[h1,h2];split at g
   ·rename_i h3;simp only[h3];obtain⟨r,g1,rfl,g2⟩:=g;exact⟨g1,g2⟩
   ·exact g.elim
  ·exact g.elim
 ·rename_i t x;split at h
  ·rename_i cs hx;refine .inl ?_;simp only[stepT,hx];exact h
  ·rename_i l off hx;split at h
   ·rename_i cs hl;refine .inl ?_;simp only[stepT,hx,hl];exact h
   ·rename_i z es hl;refine .inr (.inr ?_);obtain⟨i,cs,rfl,hz,hi,g⟩:=h;obtain⟨v,g1,g2⟩:=aZ g;rw[Jr]at g1;have hlt:=(qAp.1 hi).1;refine⟨[l],ah dst v,?_,g2⟩;rw[Ui];simp only[PU,hx,hl];rw[qCJ _ hz,if_pos ⟨rfl,hlt⟩];have e:es.getD i []=cs:=by simp[List.getD,hi]
    rw[e,g1];rfl
   ·exact h.elim
  ·exact h.elim
 ·rename_i t x y;split at h
  ·rename_i l off hx;obtain⟨vs,g1,g2⟩:=aZ h;split at g2
   ·rename_i cs hl;refine .inl ?_;simp only[stepT,hx,g1,hl,dI];exact g2
   ·rename_i z es hl;refine .inr (.inr ?_);rcases aQ g2 with⟨g3,g4⟩|⟨hne,g⟩
    ·simp only[qAa,decide_eq_true_eq]at g3;obtain⟨i,r,rfl,hz,hi,rfl,g5⟩:=g4;have g3':sizeT P t=some vs.length:=g3.1.1;refine⟨_,_,?_,g5⟩;rw[IY];simp only[Ke,hx,g1,hl];rw[qCJ _ hz,if_pos ⟨g3',g3.1.2,rfl,hi,g3.2⟩]
    ·rcases aQ g with⟨g3,g4⟩|⟨_,g⟩
     ·simp only[qAa,decide_eq_true_eq]at g3;obtain⟨i,j,cs,r,rfl,hj,hjz,hc,rfl,g5⟩:=g4;have g3':sizeT P t=some vs.length:=g3.1;have hi:i<es.length:=(qAp.1 hc).1;have hd:(i*z+j)/z=i:=by rw[qBA,qCU (by omega),qCP hj,qAJ]
      have hmd:(i*z+j)%z=j:=by rw[qBA,qCD,qCg hj]
      have hg:es.getD i []=cs:=by simp[List.getD,hc]
      refine⟨_,_,?_,g5⟩;rw[IY];simp only[Ke,hx,g1,hl];rw[hd,hmd,hg,if_neg,if_pos ⟨g3',by omega,hi,hjz,g3.2⟩];rintro⟨q1,q2,_⟩;have hne':((decide ((TI.of P t).size=some vs.length∧vs.length=z))&&vs.all isScalar)=true:=by
       rw[g3.2,qBv];exact decide_eq_true ⟨q1,q2⟩
      rw[hne']at hne;cases hne
     ·exact g.elim
   ·exact g2.elim
  ·exact h.elim
 grind
structure ACallU(P:Program)(f:Nat)(args:List AV)(dst:Option Tmp)(t:List AV)(h:List AObj)(k:Nat)(K:Nat→List Nat→List Wr→Prop):Prop where
 out:Fh P f args dst t h k K
def Di(P:Program)(τ:Nat→TI)(ops:List Oper):List Oper→Nat→List Eff→List AV→List AObj→(List Eff→List AV→List AObj→Prop)→Prop
 |[],_,es,t,h,K=>K es.reverse t h
 |o::l,k,es,t,h,K=>grd ops t
   (fun t=>match fT o.op with
    |some (f,args)=>Fy (fun fid caps=>Jf t args.toList fun vs=>fL (vs++caps) fun vs=>ACallU P fid vs o.dst t h k fun k' ro ws=>nD ws t h fun t' h'=>Di P τ ops l k' (⟨aJ ops.toArray o,ro,ws⟩::es) t' h' K) (aN t f)
    |none=>CO τ k o.dst (aN t) (obj? h) (fun rd ws=>nD ws t h fun t' h'=>Oo (dJ o.op) (Di P τ ops l k (⟨aJ ops.toArray o,rd,ws⟩::es) t' h' K) (Di P τ ops l (k+1) (⟨aJ ops.toArray o,rd,ws⟩::es) t' h' K)) o.op)
   (fun t=>nD (ah o.dst (.tup [])) t h fun t' h'=>Di P τ ops l k (⟨aJ ops.toArray o,[],ah o.dst (.tup [])⟩::es) t' h' K) o.guard
theorem Vv{P:Program}{ops:List Oper}:∀(l:List Oper) (k:Nat) (es:List Eff) (t:List AV) (h:List AObj) (K:List Eff→List AV→List AObj→Prop),Di P (TI.of P) ops l k es t h K→∃es' s',ATr P ops.toArray l es' ⟨t,h⟩ s'∧K (es.reverse++es') s'.tmps s'.heap:=by
 intro l
 induction l with
 |nil=>intro k es t h K hr;exact⟨[],⟨t,h⟩,.nil _,by simpa[Di]using hr⟩
 |cons o l ih=>
  intro k es t h K hr;have fin:∀(e:Eff) (k':Nat),qd P ops.toArray o ⟨t,h⟩ e→(nD e.ws t h fun t' h'=>Di P (TI.of P) ops l k' (e::es) t' h' K)→∃es' s',ATr P ops.toArray (o::l) es' ⟨t,h⟩ s'∧K (es.reverse++es') s'.tmps s'.heap:=fun e k' he hw=>by
   rw[K5]at hw;obtain⟨es',s',g1,g2⟩:=ih k' (e::es) _ _ K hw;exact⟨e::es',s',.cons he g1,by simpa using g2⟩
  rcases Ak hr with⟨hc,h1⟩|⟨hc,h2⟩
  ·cases hcall:fT o.op with
   |none=>
    rw[hcall]at h1;obtain⟨rd,ws,g1,g2⟩:=Fj h1;have g2:∃k',nD ws t h fun t' h'=>Di P (TI.of P) ops l k' (⟨aJ ops.toArray o,rd,ws⟩::es) t' h' K:=by
     cases hn:dJ o.op with
     |zero=>simp only[hn]at g2;exact⟨_,g2⟩
     |succ m=>simp only[hn]at g2;exact⟨_,g2⟩
    obtain⟨k',g2⟩:=g2;exact fin ⟨aJ ops.toArray o,rd,ws⟩ k' (uU (s:=⟨t,h⟩) hc g1) g2
   |some p=>
    rw[hcall]at h1;simp only at h1;unfold Fy at h1;split at h1
    ·rename_i fid caps g1;simp only[GR,lS]at h1;replace h1:=h1.out;obtain⟨hok,ρ,ks,aargs,H,res,H',g2,g3,g4,g5,g6⟩:=h1;obtain⟨tt,ho⟩:=lX hcall;exact fin _ _ (rW (s:=⟨t,h⟩) hc ho g1 hok g2 g3 g4 g5) g6
    grind
  ·exact fin _ k (rT (s:=⟨t,h⟩) hc) h2
def rep(n:Nat)(h:List AObj)(K:List AObj→Prop):Prop:=fL (h++List.replicate n .res) K
theorem AW.region{P:Program}{τ:Nat→TI}{m id:Nat}{l:Array Oper}{dr:Bool}{Q:QT}{t:List AV}{h:List AObj}(hτ:τ=TI.of P)(hm:P.follows .mixedOrders=true)(r:Nat)
  (hr:rep r h fun h'=>E8 h 0 fun k=>Di P τ l.toList l.toList k [] t h' fun es t h=>dK dr (eX l.toList es=true∧Q .normal t h) (Q .normal t h)):AW P m (.region id l dr) Q t h:=by
 subst hτ;unfold rep at hr;simp only[lS,BP]at hr;obtain⟨es,s',h1,h2⟩:=Vv _ _ _ _ _ _ hr;have hl:l=l.toList.toArray:=by simp
 rcases aQ h2 with⟨rfl,g1,g2⟩|⟨rfl,g⟩
 ·exact AW.of (bf.drawn (s:=⟨t,h⟩) r hm h1 g1 g2)
 ·exact AW.of (bf.region (s:=⟨t,h⟩) r h1.steps g)
end
section
open Go
def RX(P:Program)(rs:List ResultVar)(wk:Bool)(H:List AObj)(res:AV)(H':List AObj)(t:List AV)(h:List AObj):Prop:=
 (∃L,tK P rs wk L H res H' ⟨t,h⟩)∨∃t' h',Le H.length t h t' h'∧∃L,tK P rs wk L H res H' ⟨t',h'⟩
def aeE(P:Program)(rs:List ResultVar)(wk:Bool)(H:List AObj)(res:AV)(H':List AObj):QT
 | .normal,t,h=>RX P rs wk H res H' t h
 | .ret,t,h=>RX P rs wk H res H' t h
 |_,_,_=>False
theorem YN{P:Program}{f:Nat}{fn:Func}{c:Code}{args:List AV}{H H':List AObj}{res:AV}(wk:Bool)(hf:P.funcs[f]? =some fn)(hb:fn.body=some c)(hlen:args.length≤fn.ntmps)
  (h:AW P H.length c (aeE P fn.results.toList wk H res H') (args++List.replicate (fn.ntmps - args.length) (.tup [])) H):aP P f args H res H':=by
 intro κ ak w vs hen hvl hr
 let C:Ctx:={ak:=ak,old:=fun b=>b<w.heap.size∧∀l,at? κ l=some b→¬live (obj? H l),w0:=w,k0:=κ,pvE:=aC ak κ H}
 refine calls_of_wp hf hb ?_;have hsim:Sim C κ ⟨args++List.replicate (fn.ntmps - args.length) (.tup []),H⟩ {tmps:=vs.toArray++Array.replicate (fn.ntmps - vs.toArray.size) undef,defers:=[]} w:=by
  refine⟨rfl,by simp[hvl],?_,hen.klen,bB.refl _,hen.resv,hen.obj,hen.apart,fun l b h1 h2 ho=>ho.2 l h1 h2,hen.bound,fun b o h=>⟨hen.pvlt b o h,fun l hl=>hen.pvdis b o l h hl⟩,fun b hb=>hb.1,fun _ _=>rfl,rfl,rfl,rfl,qAq _,fun _ _ h _=>h,Evo.refl _ _⟩;intro n hn;simp only[qAj,qAS]at hn;by_cases hlt:n<args.length
  ·have e1:(args++List.replicate (fn.ntmps - args.length) (AV.tup [])).getD n .unk=args.getD n .unk:=by simp[List.getD,qAe hlt]
   have e2:(vs.toArray++Array.replicate (fn.ntmps - vs.toArray.size) undef).getD n undef=vs.getD n undef:=by
    rw[qAn,qBB (by simp;omega)];simp[List.getD]
   grind
  ·have e1:(args++List.replicate (fn.ntmps - args.length) (AV.tup [])).getD n .unk=.tup []:=by
    rw[List.getD,qAg (qAM hlt),qBi,if_pos (by omega)];rfl
   have e2:(vs.toArray++Array.replicate (fn.ntmps - vs.toArray.size) undef).getD n undef=undef:=by
    rw[qAn,qBy (by simp;omega),qCp];split<;>rfl
   rw[e1,e2];exact fM
 have hfin:∀(L:List Nat) (s:ASt) (κf:aH) (a:Act) (w':World),tK P fn.results.toList wk L H res H' s→Sim C κf s a w'→a.defers=[]∧∃v,(results fn a.tmps).run P w'=.ok v w'∧∃v' κ',Ending.returned v=.returned v'∧Leave κ κ' ak H H' w w'∧Rel w' κ' (aC ak κ' H') res v':=by
  intro L s κf a w' hq hs;obtain⟨xs,q1,q2,q3,q4,q5,q6,q7,q8⟩:=hq;refine⟨hs.defers,?_⟩;obtain⟨us,u1,u2,u3⟩:=vW hs _ _ q1
  let κ':aH:=L.map (at? κf)
  let g:=nm L s.heap.length
  have hat:∀i b,at? κ' i=some b→∃l,L[i]? =some l∧at? κf l=some b:=fun i b hb=>by
   simp only[κ']at hb;rw[at?_map]at hb;cases hi:L[i]? with
   |none=>rw[hi]at hb;cases hb
   |some l=>rw[hi]at hb;exact⟨l,rfl,hb⟩
  have hdown:∀i,at? κ' i=at? κf (g i):=fun i=>by
   simp only[κ',g,nm];rw[at?_map];cases hi:L[i]? with
   |some l=>rfl
   |none=>simp only[qBW];rw[at?_none_of_le (by rw[hs.klen];exact qAq _)]
  have hpv:∀b o,aC ak κ' H' b o→aC ak κf s.heap b o:=by
   rintro b o (h|⟨i,h1,h2⟩)
   ·exact .inl h
   ·obtain⟨l,hl,hb⟩:=hat i b h1;exact .inr ⟨l,hb,by rw[q8 i l hl,sK];exact h2⟩
  have hrel:∀{x:AV} {u:Value},Rel w' κf (aC ak κf s.heap) (ren g x) u→Rel w' κ' (aC ak κ' H') x u:=fun hx=>
   (hx.qF hdown _ rfl).mono (Evo.refl _ _) (bB.refl _) (fun b o h _=>hpv b o h)
  have hleave:Leave κ κ' ak H H' w w':=by
   refine⟨by simp[κ',q4],by omega,?_,?_,?_,?_,?_,?_,?_,hs.evo,fun b o h hlt=>hs.pvsub b o (hpv b o h) hlt,hs.os,hs.tape,hs.output⟩
   ·intro i b hb;have hi:i<H.length:=by rw[←hen.klen];exact lt_of_at? hb
    rw[hdown i];have:g i=i:=by simp only[g,nm,q6 i hi];rfl
    rw[this];exact hs.kext i b hb
   ·intro i hi;rw[hdown i];cases h0:L[i]? with
    |none=>simp only[g,nm,h0,qBW];exact at?_none_of_le (by rw[hs.klen];exact qAq _)
    |some l=>
     simp only[g,nm,h0,qAs];exact hs.resv l (by rw[q8 i l h0,hi];rfl)
   ·intro i b h1 h2;obtain⟨l,hl,hb⟩:=hat i b h1;have:=hs.obj l b hb (by rw[q8 i l hl,dO];exact h2);rw[q8 i l hl]at this;exact(this.qF hdown).mono rfl (Evo.refl _ _) (bB.refl _) (fun b o h _=>hpv b o h)
   ·intro i b h1 h2;obtain⟨l,hl,hb⟩:=hat i b h1;have hno:=hs.own l b hb (by rw[q8 i l hl,dO];exact h2);by_cases hlt:b<w.heap.size
    ·right;apply qAm;intro hne;exact hno ⟨hlt,fun l0 h0 hlv=>hne ⟨l0,h0,hlv⟩⟩
    ·left;omega
   ·intro i j b h1 h2 h3 h4;obtain⟨l,hl,hb⟩:=hat i b h1;obtain⟨l',hl',hb'⟩:=hat j b h2;have e:=hs.apart l l' b hb hb' (by rw[q8 i l hl,dO];exact h3) (by rw[q8 j l' hl',dO];exact h4);subst e;exact(qBS (qAp.1 hl).1 q3).1 (hl.trans hl'.symm)
   ·intro i b h1;obtain⟨l,_,hb⟩:=hat i b h1;exact hs.bound l b hb
   ·intro b hb hnl;exact hs.old b ⟨hb,hnl⟩
  have hresrel:∀(x:AV) (u:Value),Rel w' κf (aC ak κf s.heap) x u→Rel w' κf (aC ak κf s.heap) (if wk then kU x else x) u:=fun x u hx=>by
   cases wk
   ·exact hx
   ·exact hx.kU
  have hrun:∃v,(results fn a.tmps).run P w'=.ok v w'∧Rel w' κf (aC ak κf s.heap) (sN wk xs) v:=by
   have hm:(fn.results.mapM (Bo a.tmps)).run P w'=.ok us.toArray w':=by
    rw[qBD];simp only[Sem.run_map,u3,Result.andThen_ok]
   rw[yx];simp only[Sem.run_bind,hm,Result.andThen_ok,Sem.run_pure];by_cases h1:us.length=1
   ·match us,h1 with
    |[u],_=>
     match xs,u1 with
     |[x],_=>
      refine⟨u,by simp,?_⟩;have:=u2 0 (by simp);simp only[List.getD,qAE,qAs]at this;exact hresrel x u this
   ·refine⟨.tuple us.toArray,by simp[h1],?_⟩;have hx:sN wk xs=.tup (if wk then xs.map kU else xs):=by
     match xs,u1 with
     |[],_=>rfl
     |[x],h=>exact(h1 (by simpa using h)).elim
     |_::_::_,_=>rfl
    rw[hx];refine .tup (by split<;>simp[u1]) fun j hj=>?_;have hj':j<xs.length:=by split at hj<;>simpa using hj
    have:=hresrel _ _ (u2 j hj');cases wk
    ·exact this
    ·simp only[if_true]at this⊢;have e:(xs.map kU).getD j .unk=kU (xs.getD j .unk):=by simp[List.getD,qAd hj']
     rw[e];exact this
  obtain⟨v,hv1,hv2⟩:=hrun;rw[q2]at hv2;exact⟨v,hv1,v,κ',rfl,hleave,hrel hv2⟩
 have hkl:C.k0.length≤H.length:=qBn hen.klen;refine wp_mono (h C κ _ w hkl hsim) ?_;rintro e a w' ⟨s,κf,hq,hs⟩;have fin:RX P fn.results.toList wk H res H' s.tmps s.heap→a.defers=[]∧∃v,(results fn a.tmps).run P w'=.ok v w'∧∃v' κ',Ending.returned v=.returned v'∧Leave κ κ' ak H H' w w'∧Rel w' κ' (aC ak κ' H') res v':=by
  rintro(⟨L,hq⟩|⟨t',h',hwk,L,hq⟩)
  ·exact hfin L s κf a w' hq hs
  ·obtain⟨κ2,hs2⟩:=hwk C κf a w' hkl hs;exact hfin L _ κ2 a w' hq hs2
 cases e with
 |normal=>exact fin hq
 |ret=>exact fin hq
 |exit id=>exact hq.elim
 |goto l=>exact hq.elim
 |panic c=>exact hq.elim
 |outgrown=>exact hq.elim
end
section
open Go
theorem ob{α β:Type}{x:Option α}{k:α→Option β}{r:β}(h:x.bind k=some r):∃a,x=some a∧k a=some r:=by
 cases x with
 |none=>cases h
 |some a=>exact⟨a,rfl,h⟩
inductive LR(σ ρ:Type) where
 |nx (s:σ)
 |rt (r:ρ)
def LR.on{σ ρ:Type}(k:σ→Option ρ):LR σ ρ→Option ρ
 | .nx s=>k s
 | .rt r=>some r
@[reducible] def LR.el{σ ρ β:Type}(k:σ→β)(j:ρ→β):LR σ ρ→β
 | .nx s=>k s
 | .rt r=>j r
def idx{α:Type}(l:List α)(i:Int):Option α:=if 0≤i then l[i.toNat]? else none
def app{α:Type}(b:Nat)(l ys:List α):Option (List α):=if(l.length+ys.length)*b≤140737488355328∧l.length+ys.length≤140737488355328 then some (l++ys)else none
def qP(s:List UInt8)(i:Int):Option Int:=if 0≤i∧i<s.length then some ((s.getD i.toNat 0).toNat:Int)else none
def WI(a b:List UInt8):Option (List UInt8):=if a.length+b.length≤9223372036854775807 then some (a++b)else none
def nQ{α:Type}(s:List α)(lo hi:Int):Option (List α):=if 0≤lo∧lo≤hi∧hi≤s.length then some ((s.drop lo.toNat).take (hi.toNat - lo.toNat))else none
abbrev gZ(n:Int):Int:=IntKind.wrap .i64 n
theorem FK{n:Int}(h1: -9223372036854775808≤n)(h2:n≤9223372036854775807):n=IntKind.wrap .i64 n:=by
 simp only[IntKind.wrap,IntKind.signed,IntKind.bits];simp;omega
inductive Bd:Option AV→Int→Int→Prop where
 |none (d:Int):Bd none d d
 |int (k:IntKind) (n d:Int):Bd (some (.int k n)) n d
theorem agj{s x:List UInt8}{lo hi:Option AV}{a b:Int}{B:List UInt8→Prop}(hx:nQ s a b=some x)(ha:Bd lo a 0)(hb:Bd hi b s.length)(hk:B x):∃r,(∃l h,bG hi s.length s.length=some h∧bG lo 0 h=some l∧r=(s.drop l).take (h - l))∧B r:=by
 unfold nQ at hx;split at hx
 ·rename_i h0;cases hx;refine⟨_,⟨a.toNat,b.toNat,?_,?_,rfl⟩,hk⟩
  ·cases hb with
   |none=>simp[bG]
   |int k n=>simp[bG];omega
  ·cases ha with
   |none=>simp[bG]
   |int k n=>simp[bG];omega
 ·cases hx
theorem agb{α:Type}{l x:List α}{f:α→List AV}{sz:Nat}{lo hi:Option AV}{a b:Int}{B:List (List AV)→Prop}(hx:nQ l a b=some x)(ha:Bd lo a 0)(hb:Bd hi b l.length)(hf:∀x,aV sz (f x)=true)(hk:B (x.map f)):
  ∃r,(∃i h,bG hi (l.map f).length (l.map f).length=some h∧bG lo 0 h=some i∧(i<(l.map f).length→((l.map f).getD i []).length=sz)∧r=((l.map f).drop i).take (h - i))∧B r:=by
 unfold nQ at hx;split at hx
 ·rename_i h0;cases hx;refine⟨_,⟨a.toNat,b.toNat,?_,?_,?_,?_⟩,hk⟩
  ·cases hb with
   |none=>simp[bG]
   |int k n=>simp[bG];omega
  ·cases ha with
   |none=>simp[bG]
   |int k n=>simp[bG];omega
  ·intro hi;rw[qAi]at hi;have:=hf l[a.toNat];simp only[aV]at this
   grind
  simp_all
 ·cases hx
theorem uW{α:Type}{l ys r:List α}{b:Nat}(h:app b l ys=some r):(l.length+ys.length)*b≤140737488355328∧l.length+ys.length≤140737488355328∧r=l++ys:=by
 unfold app at h
 grind
theorem nZ{α:Type}{f:α→List AV}{sz:Nat}(hf:∀x,aV sz (f x)=true)(l:List α):(l.map f).all (aV sz)=true:=by grind
abbrev u2(l:List AV):List AV:=.unk:: .unk::l
abbrev u4(l:List AV):List AV:=u2 (u2 l)
abbrev u8(l:List AV):List AV:=u4 (u4 l)
abbrev u16(l:List AV):List AV:=u8 (u8 l)
abbrev u32(l:List AV):List AV:=u16 (u16 l)
abbrev u64(l:List AV):List AV:=u32 (u32 l)
section
variable {h:List AObj}{L:List (Option Nat)}{xs ys:List AV}
theorem VWs.u2{a b:AV}(hv:VWs h L xs ys):VWs h L (Abs.u2 xs) (a::b::ys):=.cons (.unk _) (.cons (.unk _) hv)
theorem VWs.u4{a0 a1 a2 a3:AV}(hv:VWs h L xs ys):VWs h L (Abs.u4 xs) (a0::a1::a2::a3::ys):=.u2 (.u2 hv)
end
theorem EW{P:Program}{f:Nat}{fn:Func}{c:Code}{args:List AV}{H H':List AObj}{res:AV}(wk:Bool)(hf:P.funcs[f]? =some fn)(hb:fn.body=some c)(hlen:args.length≤fn.ntmps)
  (h:∀Q:QT,(∀e t h,aeE P fn.results.toList wk H res H' e t h→Q e t h)→∀t,ug fn.ntmps args (fun u=>t=u)→AW P H.length c Q t H):aP P f args H res H':=by
 refine YN wk hf hb hlen ?_;exact h _ (fun _ _ _ h=>h) _ (by unfold ug;rw[lS])
inductive RetOs(g:Nat→Nat)(h:List AObj):List Nat→List AObj→Prop where
 |nil:RetOs g h [] []
 |cons {l:Nat} {o:AObj} {ls:List Nat} {os:List AObj}:bD g o=obj? h l→RetOs g h ls os→RetOs g h (l::ls) (o::os)
theorem RetOs.len{g:Nat→Nat}{h:List AObj}{ls:List Nat}{os:List AObj}(hv:RetOs g h ls os):os.length=ls.length:=by
 induction hv with
 |nil=>rfl
 |cons _ _ ih=>simp[ih]
theorem RetOs.get{g:Nat→Nat}{h:List AObj}{ls:List Nat}{os:List AObj}(hv:RetOs g h ls os):∀i l,ls[i]? =some l→obj? h l=bD g (obj? os i):=by
 induction hv with
 |nil=>intro i l hi;simp at hi
 |cons h1 _ ih=>intro i l hi;cases i with
  |zero=>simp at hi;subst hi;exact h1.symm
  |succ i=>exact ih i l (by simpa using hi)
def abN(n m:Nat)(L:List Nat):Bool:=decide L.Nodup&&decide (n≤L.length)&&(List.range n).all (fun i=>L[i]? ==some i)&&L.all (fun l=>decide (l<m))
theorem Ko{P:Program}{τ:Nat→TI}{rs:List ResultVar}{wk:Bool}{H H':List AObj}{res:AV}{t:List AV}{h:List AObj}(hτ:τ=TI.of P)(L:List Nat)(hL:abN H.length h.length L=true)(hO:RetOs (nm L h.length) h L H')
  (hq:resT τ t h rs fun xs=>Ia (sN wk xs) fun v=>Ends v (ren (nm L h.length) res)):∃L,tK P rs wk L H res H' ⟨t,h⟩:=by
 subst hτ;obtain⟨xs,h1,h2⟩:=xP _ _ hq;rw[wu]at h2;simp only[abN,qAa,qAG,decide_eq_true_eq]at hL;obtain⟨⟨⟨q1,q2⟩,q3⟩,q4⟩:=hL;exact⟨L,xs,h1,h2,q1,hO.len,q2,fun i hi=>by simpa using q3 i (by simpa using hi),q4,hO.get⟩
theorem afm{P:Program}{rs:List ResultVar}{wk:Bool}{H H':List AObj}{res:AV}{t:List AV}{h:List AObj}(t':List AV)(h':List AObj)(hw:Le H.length t h t' h')(hq:∃L,tK P rs wk L H res H' ⟨t',h'⟩):RX P rs wk H res H' t h:=.inr ⟨t',h',hw,hq⟩
end
end Abs
end Go.Proofs.YtfmdmcenjfkbhaaGreatDoor
