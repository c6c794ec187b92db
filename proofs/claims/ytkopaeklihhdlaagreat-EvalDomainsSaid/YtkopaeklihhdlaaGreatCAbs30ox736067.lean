/-
  The step by records is sound. Conditions: none; lemmas over any program.
-/
import Derived.Test.YtkopaeklihhdlaaGreatCAbs21ox2a8863
set_option linter.all false
namespace Go.Proofs.YtkopaeklihhdlaaGreat
namespace Abs
section
open Go
theorem gV{P:Program}{k:Nat}{o:Oper}{ρ:Operand→AV}{σ:Nat→AObj}{v:AV}{K:List Nat→List Wr→Prop}(h:aM P o.op ρ=some v)(hK:K [] (aI o.dst v)):∃rd ws,aV P k o ρ σ=some (rd,ws)∧K rd ws:=
 ⟨[],aI o.dst v,by unfold aV;rw[h],hK⟩
theorem aiB{P:Program}{op:BinOp}{t:TypeId}{x y:AV}{K:AV→Prop}(h:JW (TI.of P) op t x y K):∃v,nM P op t x y=some v∧K v:=by
 unfold JW at h;split at h
 ·obtain⟨h1,h2⟩:=h;exact⟨_,by simp[nM,h1],h2⟩
 ·obtain⟨v,h1,h2⟩:=dD h;exact⟨v,h1,h2⟩
theorem OG{P:Program}{t:TypeId}{x i:Operand}{ρ:Operand→AV}{K:AV→Prop}(h:aey K (TI.of P t).ix (ρ x) (ρ i)):∃v,aM P (.indexAddr t x i) ρ=some v∧K v:=by
 have hix:(TI.of P t).ix=IK P t:=rfl;rw[hix]at h;simp only[aM];unfold IK at h;unfold aey at h;split at h
 ·rename_i sz es tag k n h1 h2 h3;split at h1
  ·rename_i e hu;simp only[IxT.sl.injEq]at h1;obtain⟨cs,g1,g2,g3,g4⟩:=h
   grind
  ·cases h1
  ·cases h1
 ·rename_i len sz l o k n h1 h2 h3;split at h1
  ·cases h1
  ·rename_i n' e hu;simp only[IxT.arr.injEq]at h1;obtain⟨g1,g2⟩:=h
   grind
  ·cases h1
 ·rename_i len sz cs k n h1 h2 h3;split at h1
  ·cases h1
  ·rename_i n' e hu;simp only[IxT.arr.injEq]at h1;obtain⟨g1,g2⟩:=h;exact⟨_,by simp_all,g2⟩
  ·cases h1
 grind
theorem O6{P:Program}{t:TypeId}{x:Operand}{lo hi:Option Operand}{ρ:Operand→AV}{K:AV→Prop}(h:cutV (TI.of P t).isStr (TI.of P t).slT (lo.map ρ) (hi.map ρ) K (ρ x)):∃v,aM P (.slice t x lo hi none) ρ=some v∧K v:=by
 have h1:(TI.of P t).isStr=aM.isStrT P t:=rfl;have h2:(TI.of P t).slT=aM.sliceT P t:=rfl;simp only[aM];unfold cutV at h;split at h
 ·rename_i s hx;rcases bQ h with⟨g1,l,hh,g2,g3,g4⟩|⟨_,g⟩
  ·grind
  grind
 ·rename_i es tag hx;obtain⟨sz,g1,l,hh,g2,g3,g4,g5⟩:=dD h
  grind
 grind
theorem SQ{P:Program}{k:Nat}{o:Oper}{ρ:Operand→AV}{σ:Nat→AObj}{K:List Nat→List Wr→Prop}(h:stepT (TI.of P) k o.dst ρ σ K o.op):∃rd ws,aV P k o ρ σ=some (rd,ws)∧K rd ws:=by
 obtain⟨d,op,ty,ps,af,gd⟩:=o;simp only at h;unfold stepT at h;split at h
 ·exact gV (o:=⟨d,_,ty,ps,af,gd⟩) rfl h
 ·exact gV (o:=⟨d,_,ty,ps,af,gd⟩) rfl h
 ·rename_i c x y;split at h
  ·rename_i b hb;rcases bQ h with⟨rfl,g⟩|⟨rfl,g⟩
   ·exact gV (o:=⟨d,_,ty,ps,af,gd⟩) (by simp[aM,hb]) g
   ·exact gV (o:=⟨d,_,ty,ps,af,gd⟩) (by simp[aM,hb]) g
  ·exact h.elim
 ·obtain⟨v,g1,g2⟩:=dD h;exact gV (o:=⟨d,_,ty,ps,af,gd⟩) g1 g2
 ·obtain⟨v,g1,g2⟩:=aiB h;exact gV (o:=⟨d,_,ty,ps,af,gd⟩) g1 g2
 ·obtain⟨v,g1,g2⟩:=dD h;exact gV (o:=⟨d,_,ty,ps,af,gd⟩) g1 g2
 ·rw[Ji]at h;obtain⟨v,g1,g2⟩:=dD h;exact gV (o:=⟨d,_,ty,ps,af,gd⟩) g1 g2
 ·rw[Ji]at h;obtain⟨p,g1,g2⟩:=dD h;split at g2
  ·rename_i cs hx;obtain⟨v,g3,g4⟩:=dD g2;exact gV (o:=⟨d,_,ty,ps,af,gd⟩) (by simp only[aM,g1,hx];exact g3) g4
  ·exact g2.elim
 ·obtain⟨v,g1,g2⟩:=OG h;exact gV (o:=⟨d,_,ty,ps,af,gd⟩) g1 g2
 ·split at h
  ·rename_i s kk n hx hi;rcases bQ h with⟨g1,g2,g3⟩|⟨_,g⟩
   ·have g1:aM.isStrT P _=true:=g1;exact gV (o:=⟨d,_,ty,ps,af,gd⟩) (by simp only[aM,hx,hi];rw[if_pos ⟨g1,g2⟩]) g3
   ·exact g.elim
  ·exact h.elim
 ·split at h
  ·rename_i vs hx;obtain⟨v,g1,g2⟩:=dD h;have hlt:=(qAk.1 g1).1;exact gV (o:=⟨d,_,ty,ps,af,gd⟩) (v:=v) (by simp only[aM,hx];rw[if_pos hlt];simp[List.getD,g1]) g2
  ·exact h.elim
 ·obtain⟨v,g1,g2⟩:=O6 h;exact gV (o:=⟨d,_,ty,ps,af,gd⟩) g1 g2
 ·rename_i t parts;rcases bQ h with⟨g1,g2⟩|⟨_,g⟩
  ·obtain⟨z,g3,g4⟩:=dD g2;obtain⟨cs,g5,g6⟩:=dD g4;have g1:wR P t=true:=g1;have g3:kU P t=some z:=g3;have:lk (TI.of P t).place=Al P t:=funext fun i=>Zh P t i;rw[this]at g5;exact gV (o:=⟨d,_,ty,ps,af,gd⟩) (by simp only[aM,g1,if_true,g3,g5,qAt]) g6
  ·exact g.elim
 ·rename_i f first captured
  rcases bQ h with⟨g1,g2⟩|⟨_,g⟩
  ·have:first.size=0:=by
    have:=List.isEmpty_iff.1 g1;simpa using this
   exact gV (o:=⟨d,_,ty,ps,af,gd⟩) (by simp only[aM];rw[if_pos this]) g2
  ·exact g.elim
 ·rename_i t x;split at h
  ·rename_i cs hx;obtain⟨v,g1,g2⟩:=dD h;exact gV (o:=⟨d,_,ty,ps,af,gd⟩) (by simp only[aM,hx];exact g1) g2
  ·rename_i l off hx;split at h
   ·rename_i cs hl;obtain⟨v,g1,g2⟩:=dD h;rw[Tn]at g1;exact⟨_,_,by rw[agz];simp only[aby,hx,hl,g1];rfl,g2⟩
   ·exact h.elim
  ·exact h.elim
 ·rename_i t x y;split at h
  ·rename_i l off hx;obtain⟨vs,g1,g2⟩:=dD h;split at g2
   ·rename_i cs hl;rcases bQ g2 with⟨g3,g4⟩|⟨_,g⟩
    ·simp only[qAd,decide_eq_true_eq]at g3;have g3':sizeT P t=some vs.length:=g3.1.1;refine⟨_,_,?_,g4⟩;rw[Tv];simp only[WR,hx,g1,hl];rw[if_pos ⟨g3',g3.1.2,g3.2⟩]
    ·exact g.elim
   ·exact g2.elim
  ·exact h.elim
 ·rcases bQ h with⟨g1,g2⟩|⟨_,g⟩
  ·obtain⟨z,g3,g4⟩:=dD g2;have g3:kU P _=some z:=g3;exact⟨_,_,by rw[al9,g1,if_pos rfl,g3];rfl,g4⟩
  ·exact g.elim
 ·rcases bQ h with⟨g1,g2⟩|⟨_,g⟩
  ·obtain⟨z,g3,g4⟩:=dD g2;exact⟨_,_,by rw[apk,g1,if_pos rfl,g3];rfl,g4⟩
  ·exact g.elim
 ·rcases bQ h with⟨g1,g2⟩|⟨_,g⟩
  ·exact⟨_,_,by rw[ag8,g1,if_pos rfl],g2⟩
  ·exact g.elim
 ·rename_i t len parts;obtain⟨⟨e,sz,by'⟩,g1,g2⟩:=dD h;obtain⟨z,g3,g4⟩:=dD g2;rcases bQ g4 with⟨g5,g6⟩|⟨_,g⟩
  ·obtain⟨cs,g7,g8⟩:=dD g6;have g1:kT P t=some (e,sz,by'):=g1;have g3:kU P e=some z:=g3;simp only[qAd,decide_eq_true_eq,qBj]at g5;refine⟨_,_,?_,g8⟩;simp only[aV,aM,g1,g3];rw[if_pos ⟨g5.1,g5.2.1,g5.2.2.1,g5.2.2.2.1⟩];simp only at g7;rw[g7,g5.2.2.2.2];rfl
  ·exact g.elim
 ·rename_i s t x;split at h
  ·rename_i kk n hx;rcases bQ h with⟨g1,g2⟩|⟨_,g⟩
   ·obtain⟨kt,g3,g4⟩:=dD g2;have g1:(intTy P s).isSome=true:=g1;have g3:intTy P t=some kt:=g3;refine gV (o:=⟨d,_,ty,ps,af,gd⟩) (v:=.int kt (kt.wrap n)) ?_ g4;have hc:aM.convT P s t=some kt:=by
     unfold intTy at g1 g3;unfold aM.convT;split at g1
     ·rename_i hs;split at g3
      ·rename_i ht;cases g3;simp[hs,ht]
      ·cases g3
     ·cases g1
    simp only[aM,hx,hc]
   ·exact g.elim
  ·exact h.elim
 ·rename_i args argTypes;split at h
  ·rename_i x t ha ht;obtain⟨v,g1,g2⟩:=dD h;exact gV (o:=⟨d,_,ty,ps,af,gd⟩) (by simp only[aM,ha,ht];exact g1) g2
  ·exact h.elim
 ·rename_i args argTypes;split at h
  ·rename_i x y t t2 ha ht;obtain⟨⟨e,sz,by'⟩,g1,g2⟩:=dD h;rcases bQ g2 with⟨g3,g4⟩|⟨_,g⟩
   ·have g1:kT P t=some (e,sz,by'):=g1;have g3:aV.isSliceT P t2=true:=g3;simp only at g4;unfold aii at g4;split at g4
    ·rename_i ys tg hx hy;rcases bQ g4 with⟨g5,g6,g7⟩|⟨_,g⟩
     ·refine⟨_,_,?_,g7⟩;simp only[aV,aM,ha,ht,g1,g3,hx,hy];rw[if_pos ⟨g5,trivial,g6⟩]
     ·exact g.elim
    ·rename_i es l z ys tg hx hy;split at g4
     ·rename_i n hl;rcases bQ g4 with⟨g5,g6,g7⟩|⟨_,g⟩
      ·simp only[qAd,beq_iff_eq]at g5;refine⟨_,_,?_,g7⟩;simp only[aV,aM,ha,ht,g1,g3,hx,hy,hl];rw[if_pos ⟨g5.1,g6.1,g5.2,g6.2⟩]
      ·exact g.elim
     ·exact g4.elim
    ·exact g4.elim
   ·exact g.elim
  ·exact h.elim
 ·rename_i args argTypes;split at h
  ·rename_i x y ha;split at h
   ·rename_i k1 a k2 b hx hy;rcases bQ h with⟨g1,g2⟩|⟨_,g⟩
    ·simp only[decide_eq_true_eq]at g1;exact gV (o:=⟨d,_,ty,ps,af,gd⟩) (by simp only[aM,ha,hx,hy];rw[if_pos g1]) g2
    ·exact g.elim
   ·exact h.elim
  ·exact h.elim
 ·rename_i args argTypes;split at h
  ·rename_i x y ha;split at h
   ·rename_i k1 a k2 b hx hy;rcases bQ h with⟨g1,g2⟩|⟨_,g⟩
    ·simp only[decide_eq_true_eq]at g1;exact gV (o:=⟨d,_,ty,ps,af,gd⟩) (by simp only[aM,ha,hx,hy];rw[if_pos g1]) g2
    ·exact g.elim
   ·exact h.elim
  ·exact h.elim
 ·rename_i t m key ok;obtain⟨e,g1,g2⟩:=dD h;split at g2
  ·rename_i l s hm hk;split at g2
   ·rename_i es hl;obtain⟨z,g3,g4,g5⟩:=dD g2;have g1:rU P t=some e:=g1;have g3:EP P e=some z:=g3;cases hf:rH es s with
    |some v=>exact⟨_,_,by simp only[aV,aM,g1,hm,hk,hl,g3,hf],g4 v hf⟩
    |none=>exact⟨_,_,by simp only[aV,aM,g1,hm,hk,hl,g3,hf],g5 hf⟩
   ·exact g2.elim
  ·exact g2.elim
 ·rename_i t m key x;obtain⟨e,g1,g2⟩:=dD h;split at g2
  ·rename_i l s hm hk;split at g2
   ·rename_i es hl;obtain⟨g3,g4⟩:=g2;have g1:rU P t=some e:=g1;exact⟨_,_,by simp only[aV,aM,g1,hm,hk,hl];rw[if_pos g3],g4⟩
   ·exact g2.elim
  ·exact g2.elim
 grind
def fL{α:Type}:List α→(List α→Prop)→Prop
 |[],K=>K []
 |x::xs,K=>fL xs fun ys=>K (x::ys)
def Iq{α:Type}:List α→Nat→(Nat→Prop)→Prop
 |[],k,K=>K k
 |_::xs,k,K=>Iq xs (k+1) K
def JK{α:Type}:List α→Nat→α→(List α→Prop)→Prop
 |[],_,_,K=>K []
 |_::xs,0,v,K=>K (v::xs)
 |x::xs,n+1,v,K=>JK xs n v fun ys=>K (x::ys)
def R9:AV→(AV→Prop)→Prop
 | .agg cs,K=>fL cs fun cs=>K (.agg cs)
 | .eptr cs,K=>fL cs fun cs=>K (.eptr cs)
 | .tup cs,K=>fL cs fun cs=>K (.tup cs)
 | .func f cs,K=>fL cs fun cs=>K (.func f cs)
 | .int k n,K=>K (.int k n)
 | .bool b,K=>K (.bool b)
 | .str b,K=>K (.str b)
 | .ptr l o,K=>K (.ptr l o)
 | .nilp,K=>K .nilp
 | .ifc t v,K=>K (.ifc t v)
 | .slice es t,K=>K (.slice es t)
 | .mapr l,K=>K (.mapr l)
 | .nilFunc,K=>K .nilFunc
 | .yv l,K=>K (.yv l)
 | .psl l z n,K=>K (.psl l z n)
 | .flist ns,K=>K (.flist ns)
 | .unk,K=>K .unk
def akA:AObj→(AObj→Prop)→Prop
 | .box cs,K=>fL cs fun cs=>K (.box cs)
 | .tip n,K=>K (.tip n)
 | .mp es,K=>K (.mp es)
 | .dead,K=>K .dead
 | .arr z es,K=>K (.arr z es)
 | .res,K=>K .res
def uE:List Wr→List AV→List AObj→(List AV→List AObj→Prop)→Prop
 |[],t,h,K=>K t h
 | .slot n v::ws,t,h,K=>R9 v fun v=>JK t n v fun t=>uE ws t h K
 | .obj n v::ws,t,h,K=>akA v fun v=>JK h n v fun h=>uE ws t h K
def TT(t:List AV):List Operand→(List AV→Prop)→Prop
 |[],K=>K []
 |x::xs,K=>R9 (bC t x) fun v=>TT t xs fun vs=>K (v::vs)
def ZG:Nat→Prop→Prop→Prop
 |0,A,_=>A
 |_+1,_,B=>B
theorem rC{α:Type}:∀(l:List α) (K:List α→Prop),fL l K=K l:=by
 intro l;induction l with
 |nil=>intro K;rfl
 |cons x l ih=>intro K;simp only[fL];exact ih _
theorem G6{α:Type}:∀(l:List α) (k:Nat) (K:Nat→Prop),Iq l k K=K (k+l.length):=by
 intro l;induction l with
 |nil=>intro k K;rfl
 |cons x l ih=>intro k K;simp only[Iq];rw[ih];congr 1;simp;omega
theorem D7{α:Type}:∀(l:List α) (n:Nat) (v:α) (K:List α→Prop),JK l n v K=K (l.set n v):=by
 intro l;induction l with
 |nil=>intro n v K;rfl
 |cons x l ih=>intro n v K;cases n with
  |zero=>rfl
  |succ n=>simp only[JK];exact ih _ _ _
theorem ER(v:AV)(K:AV→Prop):R9 v K=K v:=by cases v<;>simp only[R9,rC]
theorem anH(v:AObj)(K:AObj→Prop):akA v K=K v:=by cases v<;>simp only[akA,rC]
theorem QC:∀(ws:List Wr) (t:List AV) (h:List AObj) (K:List AV→List AObj→Prop),uE ws t h K=K (ASt.wr ⟨t,h⟩ ws).tmps (ASt.wr ⟨t,h⟩ ws).heap:=by
 intro ws;induction ws with
 |nil=>intro t h K;rfl
 |cons w ws ih=>intro t h K;cases w with
  |slot n v=>simp only[uE,ER,D7];rw[ih];rfl
  |obj n v=>simp only[uE,anH,D7];rw[ih];rfl
theorem QU(t:List AV):∀(l:List Operand) (K:List AV→Prop),TT t l K=K (l.map (bC t)):=by
 intro l;induction l with
 |nil=>intro K;rfl
 |cons x l ih=>intro K;simp only[TT,ER,ih,qAA]
def apO(w:Bool)(d:Nat)(t:List AV)(A B:List AV→Prop):AV→Prop
 | .bool b=>iI b (JK t d (.bool true) fun t=>iI w (A t) (B t)) (JK t d (.bool false) fun t=>iI w (B t) (A t))
 | .tup []=>B t
 |_=>False
def grd(ops:List Oper)(t:List AV)(A B:List AV→Prop):Option (Nat×Bool)→Prop
 |none=>A t
 |some (j,w)=>iN ((ops[j]?).bind (·.dst)) fun d=>apO w d t A B (t.getD d .unk)
theorem set_self{t:List AV}{d:Nat}{v:AV}(h:t.getD d .unk=v):t.set d v=t:=by
 apply qCD
 grind
theorem JD{ops:List Oper}{t:List AV}{A B:List AV→Prop}{o:Oper}(h:grd ops t A B o.guard):(d9 ops.toArray t o=some true∧A t)∨(d9 ops.toArray t o=some false∧B t):=by
 unfold d9;cases hg:o.guard with
 |none=>rw[hg]at h;exact .inl ⟨rfl,h⟩
 |some p=>
  obtain⟨j,w⟩:=p;rw[hg]at h;obtain⟨d,h1,h2⟩:=dD h;unfold apO at h2;split at h2
  ·rename_i b hb;rcases bQ h2 with⟨rfl,g⟩|⟨rfl,g⟩
   ·rw[D7,set_self hb]at g;rcases bQ g with⟨rfl,g⟩|⟨rfl,g⟩
    ·grind
    grind
   ·rw[D7,set_self hb]at g;rcases bQ g with⟨rfl,g⟩|⟨rfl,g⟩
    ·grind
    grind
  ·grind
  grind
def Qm(P:Program)(f:Nat)(args:List AV)(dst:Option Tmp)(t:List AV)(h:List AObj)(k:Nat)(K:Nat→List Nat→List Wr→Prop):Prop:=BN P f args dst ⟨t,h⟩ k K .mk
def Ox(K:Nat→List AV→Prop):AV→Prop
 | .func f caps=>K f caps
 |_=>False
def run(P:Program)(τ:Nat→TI)(ops:List Oper):List Oper→Nat→List Eff→List AV→List AObj→(List Eff→List AV→List AObj→Prop)→Prop
 |[],_,es,t,h,K=>K es.reverse t h
 |o::l,k,es,t,h,K=>grd ops t
   (fun t=>match kZ o.op with
    |some (f,args)=>Ox (fun fid caps=>TT t args.toList fun vs=>fL (vs++caps) fun vs=>Qm P fid vs o.dst t h k fun k' ro ws=>uE ws t h fun t' h'=>run P τ ops l k' (⟨bF ops.toArray o,ro,ws⟩::es) t' h' K) (bC t f)
    |none=>stepT τ k o.dst (bC t) (obj? h) (fun rd ws=>uE ws t h fun t' h'=>ZG (ji o.op) (run P τ ops l k (⟨bF ops.toArray o,rd,ws⟩::es) t' h' K) (run P τ ops l (k+1) (⟨bF ops.toArray o,rd,ws⟩::es) t' h' K)) o.op)
   (fun t=>uE (aI o.dst (.tup [])) t h fun t' h'=>run P τ ops l k (⟨bF ops.toArray o,[],aI o.dst (.tup [])⟩::es) t' h' K) o.guard
def OB(next:List AV→List AObj→Prop)(Q:Exit→List AV→List AObj→Prop):Exit→List AV→List AObj→Prop
 | .normal,t,h=>next t h
 |e,t,h=>Q e t h
def als(id:Nat)(Q:Exit→List AV→List AObj→Prop):Exit→List AV→List AObj→Prop
 | .exit id',t,h=>iI (id'==id) (Q .normal t h) (Q (.exit id') t h)
 |e,t,h=>Q e t h
def onS(Q:Exit→List AV→List AObj→Prop):Exit→ASt→Prop:=fun e s=>Q e s.tmps s.heap
inductive Tr where
 |nil
 |node (l:Tr) (key:Nat) (x:TI) (r:Tr)
def Tr.look(d:Nat→TI)(t:Nat):Tr→TI
 | .nil=>d t
 | .node l k x r=>match Nat.ble t k with
  |true=>match Nat.beq t k with
   |true=>x
   |false=>Tr.look d t l
  |false=>Tr.look d t r
def Tr.keys:Tr→List Nat
 | .nil=>[]
 | .node l k _ r=>l.keys++k::r.keys
def Tr.vals:Tr→List TI
 | .nil=>[]
 | .node l _ x r=>l.vals++x::r.vals
theorem Tr.len:∀T:Tr,T.keys.length=T.vals.length
 | .nil=>rfl
 | .node l k x r=>by simp[keys,vals,Tr.len l,Tr.len r]
theorem Tr.look_eq(d:Nat→TI)(t:Nat):∀T:Tr,T.keys.map d=T.vals→T.look d t=d t
 | .nil,_=>rfl
 | .node l k x r,h=>by
  simp only[keys,qBs,qAA]at h;have h1:=List.append_inj h (by simp[Tr.len l]);obtain⟨h1,h2⟩:=h1;simp at h2;unfold Tr.look;split
  ·split
   ·simp_all
   ·exact Tr.look_eq d t l h1
  ·exact Tr.look_eq d t r h2.2
theorem aoQ{P:Program}{T:Tr}(h:T.keys.map (TI.of P)=T.vals):(fun t=>T.look (TI.of P) t)=TI.of P:=funext fun t=>Tr.look_eq _ t T h
def resT(τ:Nat→TI)(t:List AV)(h:List AObj):List ResultVar→(List AV→Prop)→Prop
 |[],K=>K []
 | .tmp n::r,K=>R9 (t.getD n .unk) fun v=>resT τ t h r fun vs=>K (v::vs)
 | .cell a ty::r,K=>match t.getD a .unk with
  | .ptr l off=>match obj? h l with
   | .box cs=>iN (loadT τ ty (cs.drop off)) fun v=>R9 v fun v=>resT τ t h r fun vs=>K (v::vs)
   |_=>False
  |_=>False
theorem GN{P:Program}{t:List AV}{h:List AObj}:∀(rs:List ResultVar) (K:List AV→Prop),resT (TI.of P) t h rs K→∃xs,vQ P ⟨t,h⟩ rs=some xs∧K xs:=by
 intro rs
 induction rs with
 |nil=>intro K hr;exact⟨[],rfl,hr⟩
 |cons r rs ih=>
  intro K hr;cases r with
  |tmp n=>
   simp only[resT,ER]at hr;obtain⟨xs,h1,h2⟩:=ih _ hr;exact⟨_,by simp only[vQ,h1];rfl,h2⟩
  |cell a ty=>
   simp only[resT]at hr;split at hr
   ·rename_i l off hp;split at hr
    ·rename_i cs hb;obtain⟨v,h1,h2⟩:=dD hr;rw[ER]at h2;obtain⟨xs,h3,h4⟩:=ih _ h2;rw[Tn]at h1;exact⟨_,by simp only[vQ,hp,hb,h1,h3];rfl,h4⟩
    grind
   grind
def Ends(v res:AV):Prop:=v=res
def Cu(n:Nat)(args:List AV)(K:List AV→Prop):Prop:=fL (args++List.replicate (n - args.length) (.tup [])) K
abbrev QT:=Exit→List AV→List AObj→Prop
def AW(P:Program)(m:Nat)(c:Code)(Q:QT)(t:List AV)(h:List AObj):Prop:=
 ∀(C:Ctx) (κ:bg) (a:Act) (w:World),C.k0.length≤m→Sim C κ ⟨t,h⟩ a w→c.wp P (fun e a' w'=>∃s' κ',onS Q e s'∧Sim C κ' s' a' w') a w
theorem AW.of{P:Program}{m:Nat}{c:Code}{Q:QT}{t:List AV}{h:List AObj}(hw:dM P c (onS Q) ⟨t,h⟩):AW P m c Q t h:=fun C κ a w _ hs=>hw C κ a w hs
theorem AW.skip{P:Program}{m:Nat}{Q:QT}{t:List AV}{h:List AObj}(hq:Q .normal t h):AW P m .skip Q t h:=AW.of (dM.skip hq)
theorem AW.ret{P:Program}{m:Nat}{Q:QT}{t:List AV}{h:List AObj}(hq:Q .ret t h):AW P m .ret Q t h:=AW.of (dM.ret hq)
theorem AW.exit{P:Program}{m:Nat}{Q:QT}{t:List AV}{h:List AObj}{id:Nat}(hq:Q (.exit id) t h):AW P m (.exit id) Q t h:=AW.of (dM.exit hq)
theorem AW.seq{P:Program}{m:Nat}{x y:Code}{Q:QT}{t:List AV}{h:List AObj}(hw:AW P m x (OB (AW P m y Q) Q) t h):AW P m (.seq x y) Q t h:=by
 intro C κ a w hk hs;refine wp_seq (wp_mono (hw C κ a w hk hs) ?_);rintro e a' w' ⟨s',κ',h1,h2⟩;cases e with
 |normal=>exact h1 C κ' a' w' hk h2
 |exit id=>exact⟨s',κ',h1,h2⟩
 |goto l=>exact⟨s',κ',h1,h2⟩
 |ret=>exact⟨s',κ',h1,h2⟩
 |panic c=>exact⟨s',κ',h1,h2⟩
 |outgrown=>exact⟨s',κ',h1,h2⟩
theorem AW.jN{P:Program}{m:Nat}{x y:Code}{Q:QT}{t:List AV}{h:List AObj}(hw:∀K:List AV→List AObj→Prop,(∀t h,AW P m y Q t h→K t h)→AW P m x (OB K Q) t h):AW P m (.seq x y) Q t h:=
 AW.seq (hw _ fun _ _ h=>h)
theorem AW.cond{P:Program}{m:Nat}{c:Operand}{x y:Code}{Q:QT}{t:List AV}{h:List AObj}{b:Bool}(hc:bC t c=.bool b)(h1:b=true→AW P m x Q t h)(h2:b=false→AW P m y Q t h):AW P m (.cond c x y) Q t h:=by
 intro C κ a w hk hs;have hr:=hs.ev c;have:bC (ASt.mk t h).tmps c=.bool b:=hc;rw[this]at hr;exact wp_cond_split hr.Ec (fun ht=>h1 ht C κ a w hk hs) (fun ht=>h2 ht C κ a w hk hs)
theorem AW.block{P:Program}{m id:Nat}{c:Code}{Q:QT}{t:List AV}{h:List AObj}(hw:AW P m c (als id Q) t h):AW P m (.block id c) Q t h:=by
 intro C κ a w hk hs;refine wp_block (wp_mono (hw C κ a w hk hs) ?_);rintro e a' w' ⟨s',κ',h1,h2⟩;cases e with
 |exit id'=>
  simp only[Exit.inBlock];rcases bQ h1 with⟨e,g⟩|⟨e,g⟩
  ·rw[if_pos (by simpa using e)];exact⟨s',κ',g,h2⟩
  ·rw[if_neg (by simpa using e)];exact⟨s',κ',g,h2⟩
 |normal=>exact⟨s',κ',h1,h2⟩
 |goto l=>exact⟨s',κ',h1,h2⟩
 |ret=>exact⟨s',κ',h1,h2⟩
 |panic c=>exact⟨s',κ',h1,h2⟩
 |outgrown=>exact⟨s',κ',h1,h2⟩
theorem AW.loop{P:Program}{m:Nat}{c:Code}{Q:QT}{t:List AV}{h:List AObj}(I:Nat→List AV→List AObj→Prop){n:Nat}(h0:I n t h)(round:∀n t h,I n t h→AW P m c (OB (fun t' h'=>∃k,k<n∧I k t' h') Q) t h):AW P m (.loop c) Q t h:=by
 intro C κ a w hk hs;refine wp_loop_ghost (Q:=fun e a' w'=>∃s' κ',onS Q e s'∧Sim C κ' s' a' w') (fun n a w=>∃s κ,I n s.tmps s.heap∧Sim C κ s a w) n ⟨⟨t,h⟩,κ,h0,hs⟩ ?_;rintro n a w ⟨s,κ,hI,hs⟩;refine wp_mono (round n s.tmps s.heap hI C κ a w hk hs) ?_;rintro e a' w' ⟨s',κ',h1,h2⟩;cases e with
 |normal=>
  obtain⟨m,hm,hI'⟩:=h1;exact⟨m,hm,s',κ',hI',h2⟩
 |exit id=>exact⟨s',κ',h1,h2⟩
 |goto l=>exact⟨s',κ',h1,h2⟩
 |ret=>exact⟨s',κ',h1,h2⟩
 |panic c=>exact⟨s',κ',h1,h2⟩
 |outgrown=>exact⟨s',κ',h1,h2⟩
def VF:AV→Prop
 | .int k n=>rD k n
 | .str s=>s.length≤9223372036854775807
 | .slice es _=>es.length≤9223372036854775807
 | .psl _ _ n=>n≤140737488355328
 |_=>True
theorem Rel.vf{w:World}{κ:bg}{pv:bB}{x:AV}{v:Value}(h:Rel w κ pv x v):VF x:=by
 cases h<;>first|trivial|assumption
def parts:AV→List AV
 | .agg cs=>cs
 | .tup cs=>cs
 | .eptr cs=>cs
 | .func _ cs=>cs
 |v=>[v]
theorem Rel.parts{w:World}{κ:bg}{pv:bB}{x:AV}{v:Value}(h:Rel w κ pv x v)(j:Nat):VF ((Abs.parts x).getD j .unk):=by
 have key:∀cs:List AV,(∀i,i<cs.length→VF (cs.getD i .unk))→VF (cs.getD j .unk):=fun cs hc=>by
  by_cases hj:j<cs.length
  ·grind
  ·rw[List.getD,qAn (qAu hj)];trivial
 cases h with
 |agg h1 h2=>exact key _ fun i hi=>(h2 i hi).vf
 |tup h1 h2=>exact key _ fun i hi=>(h2 i hi).vf
 |func h1 h2=>exact key _ fun i hi=>(h2 i hi).vf
 |eptr u h1 h2 h3=>exact key _ fun i hi=>(h3 i hi).vf
 |unk v=>exact key [.unk] fun i hi=>by simp at hi;subst hi;trivial
 |int g=>exact key [_] fun i hi=>by simp at hi;subst hi;exact g
 |bool b=>exact key [_] fun i hi=>by simp at hi;subst hi;trivial
 |str g=>exact key [_] fun i hi=>by simp at hi;subst hi;exact g
 |nilp=>exact key [_] fun i hi=>by simp at hi;subst hi;trivial
 |ifc t v=>exact key [_] fun i hi=>by simp at hi;subst hi;trivial
 |ptr _=>exact key [_] fun i hi=>by simp at hi;subst hi;trivial
 |mapr _=>exact key [_] fun i hi=>by simp at hi;subst hi;trivial
 |yv l=>exact key [_] fun i hi=>by simp at hi;subst hi;trivial
 |nilFunc=>exact key [_] fun i hi=>by simp at hi;subst hi;trivial
 |psl _ g _=>exact key [_] fun i hi=>by simp at hi;subst hi;exact g
 |flnil=>exact key [_] fun i hi=>by simp at hi;subst hi;trivial
 |flcons _ _ _ _ _ _ _=>exact key [_] fun i hi=>by simp at hi;subst hi;trivial
 |slice b off sz u h1 h2 h3 h3' _ _ _ _=>exact key [_] fun i hi=>by simp at hi;subst hi;exact h3'
theorem AW.know{P:Program}{m:Nat}{c:Code}{Q:QT}{t:List AV}{h:List AObj}(n j:Nat)(hw:VF ((parts (t.getD n .unk)).getD j .unk)→AW P m c Q t h):AW P m c Q t h:=by
 intro C κ a w hk hs;refine hw ?_ C κ a w hk hs;by_cases hn:n<t.length
 ·exact(hs.slot n hn).parts j
 ·have:t.getD n .unk=.unk:=by rw[List.getD,qAn (qAu hn)];rfl
  rw[this];cases j with
  |zero=>trivial
  |succ j=>trivial
theorem AW.ahk{P:Program}{m:Nat}{c:Code}{Q:QT}{t:List AV}{h:List AObj}(l j:Nat)(hw:VF (((match obj? h l with| .box cs=>cs|_=>[]):List AV).getD j .unk)→AW P m c Q t h)(hn:∃n o,t.getD n .unk=.ptr l o):AW P m c Q t h:=by
 intro C κ a w hk hs;refine hw ?_ C κ a w hk hs;obtain⟨n,o,hn⟩:=hn;have hr:=hs.ev (.tmp n);simp only[bC]at hr;have e:(ASt.mk t h).tmps.getD n .unk=.ptr l o:=hn;rw[e]at hr;obtain⟨b,_,hb⟩:=hr.tN;split
 ·rename_i cs ho;obtain⟨c,el,g1,g2,g3,g4⟩:=hs.box hb ho;by_cases hj:j<cs.length
  ·exact(g4 j hj).vf
  ·rw[List.getD,qAn (qAu hj)];trivial
 ·rw[List.getD];trivial
def mh(L:List (Option Nat))(big i:Nat):Nat:=((L[i]?).getD none).getD big
inductive VW(h:List AObj)(L:List (Option Nat)):AV→AV→Prop where
 |unk (v:AV):VW h L .unk v
 |same {x y:AV}:ren (mh L h.length) x=y→VW h L x y
 |share {es es':List (List AV)} {t:Tag}:bA (mh L h.length) es=es'→VW h L (.slice es .shared) (.slice es' t)
 |nils (j z:Nat):VW h L (.slice [] (.tip j z)) (.slice [] .nils)
 |nilF:VW h L (.flist []) .nilp
 |frzF {l:Nat} {cs cs':List AV} {r:List (List AV)} {v:AV}:obj? h l=.box (cs'++[v])→some l∉L→cs.length=cs'.length→(∀j,j<cs.length→VW h L (cs.getD j .unk) (cs'.getD j .unk))→VW h L (.flist r) v→VW h L (.flist (cs::r)) (.ptr l 0)
 |nilP (j z:Nat):VW h L (.psl j z 0) (.slice [] .nils)
 |ahU {l z n:Nat} {es es0:List (List AV)}:obj? h l=.arr z es0→some l∉L→n≤es0.length→bA (mh L h.length) es=es0.take n→VW h L (.slice es .shared) (.psl l z n)
 |agg {cs cs':List AV}:cs.length=cs'.length→(∀j,VW h L (cs.getD j .unk) (cs'.getD j .unk))→VW h L (.agg cs) (.agg cs')
 |tup {cs cs':List AV}:cs.length=cs'.length→(∀j,VW h L (cs.getD j .unk) (cs'.getD j .unk))→VW h L (.tup cs) (.tup cs')
 |eptr {cs cs':List AV}:cs.length=cs'.length→(∀j,VW h L (cs.getD j .unk) (cs'.getD j .unk))→VW h L (.eptr cs) (.eptr cs')
 |func {f:Nat} {cs cs':List AV}:cs.length=cs'.length→(∀j,VW h L (cs.getD j .unk) (cs'.getD j .unk))→VW h L (.func f cs) (.func f cs')
 |frz {l off:Nat} {cs cs':List AV}:obj? h l=.box cs'→some l∉L→cs.length+off≤cs'.length→(∀j,VW h L (cs.getD j .unk) (cs'.getD (off+j) .unk))→VW h L (.eptr cs) (.ptr l off)
inductive OW(h:List AObj)(L:List (Option Nat)):AObj→AObj→Prop where
 |dead (o:AObj):OW h L .dead o
 |box {cs cs':List AV}:cs.length=cs'.length→(∀j,VW h L (cs.getD j .unk) (cs'.getD j .unk))→OW h L (.box cs) (.box cs')
 |tip (n:Nat):OW h L (.tip n) (.tip n)
 |arr {z n:Nat} {es es0:List (List AV)}:bA (mh L h.length) es=es0.take n→OW h L (.arr z es) (.arr z es0)
 |same {o o':AObj}:dA o=false→bN (mh L h.length) o=o'→OW h L o o'
structure Weak(m:Nat)(t:List AV)(h:List AObj)(L:List (Option Nat))(t':List AV)(h':List AObj):Prop where
 tlen:t'.length=t.length
 hlen:L.length=h'.length
 idm:∀i:Nat,i<m→L[i]? =some (some i)
 inj:∀i j l:Nat,L[i]? =some (some l)→L[j]? =some (some l)→live (obj? h' i)→live (obj? h' j)→i=j
 lt:∀i l:Nat,L[i]? =some (some l)→l<h.length
 slot:∀n,VW h L (t'.getD n .unk) (t.getD n .unk)
 obj:∀i l:Nat,L[i]? =some (some l)→OW h L (obj? h' i) (obj? h l)
 new:∀i:Nat,L[i]? =some none→dA (obj? h' i)=false
section
variable {C:Ctx}{κ:bg}{t:List AV}{h:List AObj}{a:Act}{w:World}{m:Nat}{L:List (Option Nat)}{t':List AV}{h':List AObj}
def Ae(κ:bg)(L:List (Option Nat)):bg:=L.map fun o=>o.bind (at? κ)
theorem at?_kapW{i:Nat}(hk:κ.length=h.length):at? (Ae κ L) i=at? κ (mh L h.length i):=by
 unfold Ae mh;simp only[at?,qAF];cases hi:L[i]? with
 |none=>simp[qAn (show κ.length≤h.length by omega)]
 |some o=>cases o with
  |none=>simp[qAn (show κ.length≤h.length by omega)]
  |some l=>simp[at?]
theorem uo{i b:Nat}(hb:at? (Ae κ L) i=some b):∃l,L[i]? =some (some l)∧at? κ l=some b:=by
 unfold Ae at hb;simp only[at?,qAF]at hb;cases hi:L[i]? with
 |none=>rw[hi]at hb;cases hb
 |some o=>cases o with
  |none=>rw[hi]at hb;cases hb
  |some l=>rw[hi]at hb;exact⟨l,rfl,hb⟩
theorem OW.live{o o':AObj}(hw:OW h L o o')(hl:live o):live o':=by
 cases hw with
 |dead _=>exact hl.elim
 |box _ _=>trivial
 |tip _=>trivial
 |arr _=>trivial
 |same _ e=>rw[←e,jh];exact hl
theorem OW.pv{o o':AObj}{n:Nat}(hw:OW h L o o')(hp:qW o n):qW o' n:=by
 cases hw with
 |dead _=>exact hp.elim
 |box _ _=>trivial
 |tip _=>exact hp
 |arr _=>trivial
 |same _ e=>rw[←e,BA];exact hp
theorem Weak.pv(hs:Sim C κ ⟨t,h⟩ a w)(hw:Weak m t h L t' h'){b o:Nat}(hp:aO C.aN (Ae κ L) h' b o):aO C.aN κ h b o:=by
 rcases hp with hp|⟨i,h1,h2⟩
 ·exact .inl hp
 ·obtain⟨l,hl,hb⟩:=uo h1;exact .inr ⟨l,hb,(hw.obj i l hl).pv h2⟩
theorem Weak.val(hs:Sim C κ ⟨t,h⟩ a w)(hw:Weak m t h L t' h'){x y:AV}(hv:VW h L x y):∀{u:Value},Rel w κ (aO C.aN κ h) y u→Rel w (Ae κ L) (aO C.aN (Ae κ L) h') x u:=by
 have hat:∀i,at? (Ae κ L) i=at? κ (mh L h.length i):=fun i=>at?_kapW hs.klen;have key:∀(x:AV) {u:Value},Rel w κ (aO C.aN κ h) (ren (mh L h.length) x) u→Rel w (Ae κ L) (aO C.aN (Ae κ L) h') x u:=fun x u hx=>
  (hx.vw hat _ rfl).mono (Evo.refl _ _) (bV.refl _) fun b o hp _=>hw.pv hs hp
 induction hv with
 |unk v=>intro u _;exact .unk u
 |same e=>intro u hu;rw[←e]at hu;exact key _ hu
 |share e=>intro u hu;rw[←e]at hu;exact key (.slice _ .shared) hu.share
 |nils j z=>
  intro u hu;cases hu with
  |slice b off sz y g1 g2 g3 g3' g4 g5 g6 gt=>
   exact .slice (es:=[]) (tag:=.tip j z) b off z y (fun i hi=>by cases hi) (fun hne=>(hne rfl).elim) g3 g3' (fun i j hi=>by cases hi) (fun i j hi=>by cases hi) (fun i j hi=>by cases hi) ⟨rfl,.inl gt⟩
 |nilF=>intro u hu;cases hu;exact .flnil
 |@frzF l cs cs' r v ho hn hl _ _ ih1 ih2=>
  intro u hu;obtain⟨b,e,hb⟩:=hu.tN;subst e;obtain⟨c,el,g1,g2,g3,g4⟩:=hs.box hb ho;have hlen:(cs'++[v]).length=cs.length+1:=by simp[hl]
  have hlive:live (obj? h l):=by rw[ho];trivial
  refine .flcons (fun j=>c.getD j undef) (c.getD cs.length undef) (fun j hj hp=>?_) (fun j hj=>by rw[qAw];exact g3 j (by omega)) (by rw[qAw];exact g3 _ (by omega)) (fun j hj=>ih1 j hj ?_) (ih2 ?_)
  ·rcases hp with hp|⟨i,h1,h2⟩
   ·exact hs.own l b hb hlive (hs.pvold _ _ hp)
   ·obtain⟨l',hl',hb'⟩:=uo h1;have:=hs.apart l l' b hb hb' hlive (CF ((hw.obj i l' hl').pv h2));subst this;exact hn (qAJ hl')
  ·have:=g4 j (by omega);have e2:(cs'++[v]).getD j .unk=cs'.getD j .unk:=by simp[List.getD,qAf (show j<cs'.length by omega)]
   rw[e2]at this;exact this
  grind
 |nilP j z=>
  intro u hu;cases hu with
  |slice b off sz y g1 g2 g3 g3' g4 g5 g6 gt=>
   exact .psl (qAV _) (by omega) ⟨rfl,.inl gt⟩
 |@ahU l z n es es0 ho hn hle he=>
  intro u hu;cases hu with
  |@psl _ _ _ cap ad g1 g2 g3=>
   have hlen:es.length=n:=by
    have:=congrArg List.length he;rw[kr,qBd]at this;omega
   have hget:∀i,i<n→bD (mh L h.length) (es.getD i [])=es0.getD i []:=fun i hi=>by
    rw[←pU,he];simp only[List.getD,qAW,if_pos hi]
   obtain⟨_,ht⟩:=g3;rcases ht with⟨rfl,rfl⟩|⟨b,c,e,t1,rfl,t3,t4⟩
   ·have:es=[]:=qAz.1 (by omega);subst this;have hn0:n=0:=by simpa using hlen.symm
    subst hn0;exact .slice (es:=[]) 0 0 z (fun _ _=>undef) (fun i h=>by cases h) (fun h=>(h rfl).elim) (qAV _) (by simp) (fun i j h=>by cases h) (fun i j h=>by cases h) (fun i j h=>by cases h) trivial
   ·have hlive:live (obj? h l):=by rw[ho];trivial
    have hob:=hs.obj l b t1 hlive;change nE w κ (aO C.aN κ h) b (obj? h l)at hob;rw[ho]at hob;obtain⟨c0,e0,q1,q2,q3,q4⟩:=hob;rw[t3]at q1;cases q1;rw[←hlen]at g1 g2⊢;refine .slice b 0 z (fun i j=>c.getD (i*z+j) undef) ?_ (fun _=>rfl) g1 (by omega) ?_ ?_ ?_ trivial
    ·intro i hi;have h5:=hget i (by omega);have h6:=q3 i (by omega);rw[←h5,jB]at h6;exact h6
    ·rintro i j hi hj (hp|⟨i',h1,h2⟩)
     ·exact hs.own l b t1 hlive (hs.pvold _ _ hp)
     ·obtain⟨l',hl',hb'⟩:=uo h1;have:=hs.apart l l' b t1 hb' hlive (CF ((hw.obj i' l' hl').pv h2));subst this;exact hn (qAJ hl')
    ·intro i j hi hj;have h2:i*z+j<c.size:=qAq (sG (show i<es0.length by omega) hj) q2;simp[World.cell?,t3,Array.getD,h2]
    ·intro i j hi hj;have h5:=hget i (by omega);refine key _ ?_;rw[←iT,h5];exact q4 i j (by omega) hj
 |agg hl _ ih=>
  intro u hu;obtain⟨vs,e,g1,g2⟩:=hu.af9;subst e;exact .agg (g1.trans hl.symm) fun j hj=>ih j (g2 j (by omega))
 |tup hl _ ih=>
  intro u hu;obtain⟨vs,e,g1,g2⟩:=hu.Xh;subst e;exact .tup (g1.trans hl.symm) fun j hj=>ih j (g2 j (by omega))
 |eptr hl _ ih=>
  intro u hu;cases hu with
  |eptr y h1 h2 h3=>exact .eptr y (fun j hj hp=>h1 j (by omega) (hw.pv hs hp)) (fun j hj=>h2 j (by omega)) fun j hj=>ih j (h3 j (by omega))
 |func hl _ ih=>
  intro u hu;obtain⟨vs,e,g1,g2⟩:=hu.xI;subst e;exact .func (g1.trans hl.symm) fun j hj=>ih j (g2 j (by omega))
 |@frz l off cs cs' ho hn hl _ ih=>
  intro u hu;obtain⟨b,e,hb⟩:=hu.tN;subst e;obtain⟨c,el,g1,g2,g3,g4⟩:=hs.box hb ho;refine .eptr (fun j=>c.getD (off+j) undef) (fun j hj hp=>?_) (fun j hj=>g3 _ (by omega)) fun j hj=>ih j (g4 _ (by omega));have hlive:live (obj? h l):=by rw[ho];trivial
  rcases hp with hp|⟨i,h1,h2⟩
  ·exact hs.own l b hb hlive (hs.pvold _ _ hp)
  ·obtain⟨l',hl',hb'⟩:=uo h1;have:=hs.apart l l' b hb hb' hlive (CF ((hw.obj i l' hl').pv h2));subst this;exact hn (qAJ hl')
theorem Weak.sim(hk:C.k0.length≤m)(hs:Sim C κ ⟨t,h⟩ a w)(hw:Weak m t h L t' h'):Sim C (Ae κ L) ⟨t',h'⟩ a w:=by
 have hat:∀i,at? (Ae κ L) i=at? κ (mh L h.length i):=fun i=>at?_kapW hs.klen;refine⟨hs.defers,hs.len.trans hw.tlen.symm,?_,by simp[Ae,hw.hlen],?_,?_,?_,?_,?_,?_,hs.pvold,hs.oldlt,hs.old,hs.os,hs.tape,hs.output,hs.size,fun b o hp hlt=>hs.pvsub b o (hw.pv hs hp) hlt,hs.iH⟩
 ·intro n hn;exact hw.val hs (hw.slot n) (hs.slot n (by rw[←hw.tlen];exact hn))
 ·intro l b hb;have hlt:=lt_of_at? hb;have:=hw.idm l (by omega);rw[hat];simp only[mh,this,qAi];exact hs.kext l b hb
 ·intro i hi;cases hL:L[i]? with
  |none=>rw[hat];simp only[mh,hL,qBz];exact at?_none_of_le (by rw[hs.klen];exact qAc _)
  |some o=>cases o with
   |none=>rw[hat];simp only[mh,hL,qBz,qAi];exact at?_none_of_le (by rw[hs.klen];exact qAc _)
   |some l=>
    exfalso;have:=hw.obj i l hL;change obj? h' i=.res at hi;rw[hi]at this;cases this with
    |same h1 _=>cases h1
 ·intro i b hb hl;obtain⟨l,hL,hb'⟩:=uo hb;have ho:=hw.obj i l hL;have hr:=hs.obj l b hb' (ho.live hl);change nE w (Ae κ L) (aO C.aN (Ae κ L) h') b (obj? h' i);change live (obj? h' i)at hl;generalize he:obj? h' i=o at *;generalize he2:obj? h l=o2 at *;cases ho with
  |dead _=>exact hl.elim
  |box e hv=>
   obtain⟨c,e',g1,g2,g3⟩:=hr;exact⟨c,e',g1,g2.trans e.symm,fun j hj=>hw.val hs (hv j) (g3 j (by omega))⟩
  |tip n=>
   exact hr
  |@arr z n es es0 e=>
   obtain⟨c,e',g1,g2,g3,g4⟩:=hr;have hlen:es.length≤es0.length∧es.length≤n:=by
    have:=congrArg List.length e;rw[kr,qBd]at this;omega
   have hget:∀i,i<es.length→bD (mh L h.length) (es.getD i [])=es0.getD i []:=fun i hi=>by
    rw[←pU,e]
    grind
   refine⟨c,e',g1,qAj (qAH _ hlen.1) g2,fun i hi=>?_,fun i j hi hj=>?_⟩
   ·have h6:=g3 i (by omega);rw[←hget i hi,jB]at h6;exact h6
   ·refine hw.val hs (.same rfl) ?_;rw[←iT,hget i hi]
    grind
  |same _ e=>
   rw[←e]at hr;exact(hr.vw hat).mono rfl (Evo.refl _ _) (bV.refl _) fun b o hp _=>hw.pv hs hp
 ·intro i j b h1 h2 h3 h4;obtain⟨l,hL,hb⟩:=uo h1;obtain⟨l',hL',hb'⟩:=uo h2;have:=hs.apart l l' b hb hb' ((hw.obj i l hL).live h3) ((hw.obj j l' hL').live h4);subst this;exact hw.inj i j l hL hL' h3 h4
 ·intro i b h1 h2;obtain⟨l,hL,hb⟩:=uo h1;exact hs.own l b hb ((hw.obj i l hL).live h2)
 ·intro i b h1;obtain⟨l,_,hb⟩:=uo h1;exact hs.bound l b hb
end
def Le(m:Nat)(t:List AV)(h:List AObj)(t':List AV)(h':List AObj):Prop:=
 ∀(C:Ctx) (κ:bg) (a:Act) (w:World),C.k0.length≤m→Sim C κ ⟨t,h⟩ a w→∃κ',Sim C κ' ⟨t',h'⟩ a w
theorem Le.of{m:Nat}{t t':List AV}{h h':List AObj}(L:List (Option Nat))(hw:Weak m t h L t' h'):Le m t h t' h':=fun _ _ _ _ hk hs=>⟨_,hw.sim hk hs⟩
theorem Le.trans{m:Nat}{t t' t'':List AV}{h h' h'':List AObj}(h1:Le m t h t' h')(h2:Le m t' h' t'' h''):Le m t h t'' h'':=fun C κ a w hk hs=>by
 obtain⟨κ',hs'⟩:=h1 C κ a w hk hs;exact h2 C κ' a w hk hs'
theorem AW.le{P:Program}{m:Nat}{c:Code}{Q:QT}{t t':List AV}{h h':List AObj}(hl:Le m t h t' h')(hc:AW P m c Q t' h'):AW P m c Q t h:=fun C κ a w hk hs=>by
 obtain⟨κ',hs'⟩:=hl C κ a w hk hs;exact hc C κ' a w hk hs'
inductive VWs(h:List AObj)(L:List (Option Nat)):List AV→List AV→Prop where
 |nil:VWs h L [] []
 |cons {x y:AV} {xs ys:List AV}:VW h L x y→VWs h L xs ys→VWs h L (x::xs) (y::ys)
theorem VWs.len{h:List AObj}{L:List (Option Nat)}{xs ys:List AV}(hv:VWs h L xs ys):xs.length=ys.length:=by
 induction hv with
 |nil=>rfl
 |cons _ _ ih=>simp[ih]
theorem VWs.get{h:List AObj}{L:List (Option Nat)}{xs ys:List AV}(hv:VWs h L xs ys):∀j,VW h L (xs.getD j .unk) (ys.getD j .unk):=by
 induction hv with
 |nil=>intro j;exact .unk _
 |cons h1 _ ih=>intro j;cases j with
  |zero=>exact h1
  |succ j=>exact ih j
theorem VW.agg'{h:List AObj}{L:List (Option Nat)}{xs ys:List AV}(hv:VWs h L xs ys):VW h L (.agg xs) (.agg ys):=.agg hv.len hv.get
theorem VW.func'{h:List AObj}{L:List (Option Nat)}{f:Nat}{xs ys:List AV}(hv:VWs h L xs ys):VW h L (.func f xs) (.func f ys):=.func hv.len hv.get
theorem VW.tK{h:List AObj}{L:List (Option Nat)}{es:List (List AV)}{j l z:Nat}(hr:bA (mh L h.length) es=es)(hj:mh L h.length j=l):VW h L (.slice es (.tip j z)) (.slice es (.tip l z)):=.same (by simp only[ren,dK,hr,hj])
theorem VW.J7{h:List AObj}{L:List (Option Nat)}{l:Nat}{xs ys:List AV}(ho:obj? h l=.box ys)(hn:L.contains (some l)=false)(hv:VWs h L xs ys):VW h L (.eptr xs) (.ptr l 0):=
 .frz ho (fun hm=>by simp[hm]at hn) (by rw[hv.len];omega) fun j=>by rw[qAw];exact hv.get j
theorem OW.TH{h:List AObj}{L:List (Option Nat)}{xs ys:List AV}(hv:VWs h L xs ys):OW h L (.box xs) (.box ys):=.box hv.len hv.get
inductive OWs(h:List AObj)(L:List (Option Nat)):List (Option Nat)→List AObj→Prop where
 |nil:OWs h L [] []
 |old {l:Nat} {o:AObj} {ls:List (Option Nat)} {os:List AObj}:OW h L o (obj? h l)→OWs h L ls os→OWs h L (some l::ls) (o::os)
 |new {o:AObj} {ls:List (Option Nat)} {os:List AObj}:dA o=false→OWs h L ls os→OWs h L (none::ls) (o::os)
theorem OWs.len{h:List AObj}{L ls:List (Option Nat)}{os:List AObj}(hv:OWs h L ls os):ls.length=os.length:=by
 induction hv with
 |nil=>rfl
 |old _ _ ih=>simp[ih]
 |new _ _ ih=>simp[ih]
theorem OWs.get{h:List AObj}{L ls:List (Option Nat)}{os:List AObj}(hv:OWs h L ls os):∀i l,ls[i]? =some (some l)→OW h L (obj? os i) (obj? h l):=by
 induction hv with
 |nil=>intro i l hi;simp at hi
 |old h1 _ ih=>intro i l hi;cases i with
  |zero=>simp at hi;subst hi;exact h1
  |succ i=>exact ih i l (by simpa using hi)
 |new _ _ ih=>intro i l hi;cases i with
  |zero=>simp at hi
  |succ i=>exact ih i l (by simpa using hi)
theorem OWs.auy{h:List AObj}{L ls:List (Option Nat)}{os:List AObj}(hv:OWs h L ls os):∀i,ls[i]? =some none→dA (obj? os i)=false:=by
 induction hv with
 |nil=>intro i hi;simp at hi
 |old h1 _ ih=>intro i hi;cases i with
  |zero=>simp at hi
  |succ i=>exact ih i (by simpa using hi)
 |new h1 _ ih=>intro i hi;cases i with
  |zero=>exact h1
  |succ i=>exact ih i (by simpa using hi)
def abw:AObj→Bool
 | .dead=>false
 | .res=>false
 |_=>true
theorem ab8{o:AObj}(h:live o):abw o=true:=by cases o<;>simp[live,abw]at *
def rY:List (Option Nat)→List AObj→List Nat
 |some l::L,o::os=>match abw o with
  |true=>l::rY L os
  |false=>rY L os
 |none::L,_::os=>rY L os
 |_,_=>[]
def okL(m n:Nat)(L:List (Option Nat))(h':List AObj):Bool:=
 (List.range m).all (fun i=>L[i]? ==some (some i))&&(L.all fun o=>match o with|some l=>decide (l<n)|none=>true)&&decide ((rY L h').Nodup)
theorem ajc:∀(L:List (Option Nat)) (hs:List AObj) (k l:Nat),L[k]? =some (some l)→live (obj? hs k)→l∈rY L hs:=by
 intro L
 induction L with
 |nil=>intro hs k l hk;simp at hk
 |cons o L ih=>
  intro hs k l hk hl;cases hs with
  |nil=>simp[obj?,live]at hl
  |cons a asz=>
   cases k with
   |zero=>
    simp at hk;subst hk;have:abw a=true:=ab8 hl;simp[rY,this]
   |succ k=>
    have hm:=ih asz k l (by simpa using hk) hl;cases o with
    |none=>simpa[rY]using hm
    |some x=>
     simp only[rY]
     grind
theorem aj9:∀(L:List (Option Nat)) (hs:List AObj),(rY L hs).Nodup→∀i j l,L[i]? =some (some l)→L[j]? =some (some l)→live (obj? hs i)→live (obj? hs j)→i=j:=by
 intro L
 induction L with
 |nil=>intro hs _ i j l hi;simp at hi
 |cons o L ih=>
  intro hs hn i j l hi hj li lj;cases hs with
  |nil=>simp[obj?,live]at li
  |cons a asz=>
   have hn':(rY L asz).Nodup:=by
    cases o with
    |none=>simpa[rY]using hn
    |some x=>
     simp only[rY]at hn
     grind
   have key:∀k,o=some l→live a→L[k]? =some (some l)→live (obj? asz k)→False:=fun k ho ha hk lk=>by
    subst ho;simp only[rY,ab8 ha]at hn;exact(qCr.1 hn).1 (ajc L asz k l hk lk)
   cases i with
   |zero=>cases j with
    |zero=>rfl
    |succ j=>exact(key j (by simpa using hi) li (by simpa using hj) lj).elim
   |succ i=>cases j with
    |zero=>exact(key i (by simpa using hj) lj (by simpa using hi) li).elim
    |succ j=>exact congrArg _ (ih asz hn' i j l (by simpa using hi) (by simpa using hj) li lj)
theorem Weak.mk'{m:Nat}{t t':List AV}{h h':List AObj}{L:List (Option Nat)}(hL:okL m h.length L h'=true)(ht:VWs h L t' t)(ho:OWs h L L h'):Weak m t h L t' h':=by
 simp only[okL,qAd,qAC,decide_eq_true_eq]at hL;obtain⟨⟨h1,h2⟩,h3⟩:=hL;refine⟨ht.len,ho.len,fun i hi=>by simpa using h1 i (by simpa using hi),aj9 L h' h3,fun i l hl=>?_,ht.get,ho.get,ho.auy⟩;have:=h2 _ (qAJ hl)
 grind
end
section
open Go
def ArK(v:Int)(K:Int→Prop):Prop:=∃n,n=v∧K n
def Ze(v:List (List AV))(K:List (List AV)→Prop):Prop:=∃es,es=v∧K es
theorem ArK.out{v:Int}{K:Int→Prop}(h:ArK v K):K v:=by obtain⟨n,rfl,h⟩:=h;exact h
theorem Ze.out{v:List (List AV)}{K:List (List AV)→Prop}(h:Ze v K):K v:=by obtain⟨n,rfl,h⟩:=h;exact h
def ar0(s:List UInt8)(n:Int)(K:AV→Prop):Prop:=∃x:Int,(0≤n∧n<s.length)∧x=(s.getD n.toNat 0).toNat∧K (.int .u8 x)
def auk(a b:List UInt8)(K:AV→Prop):Prop:=∃r,a.length+b.length≤9223372036854775807∧r=a++b∧K (.str r)
def arR(s:List UInt8)(lo hi:Option AV)(K:AV→Prop):Prop:=∃r,(∃l h,eB hi s.length s.length=some h∧eB lo 0 h=some l∧r=(s.drop l).take (h - l))∧K (.str r)
def ar2(es:List (List AV))(sz:Nat)(lo hi:Option AV)(K:AV→Prop):Prop:=∃r,(∃l h,eB hi es.length es.length=some h∧eB lo 0 h=some l∧(l<es.length→(es.getD l []).length=sz)∧r=(es.drop l).take (h - l))∧K (.slice r .shared)
def apX(ns:List (List AV))(neg:Bool)(K:AV→Prop):Prop:=∃b:Bool,b=ns.isEmpty∧K (.bool (neg !=b))
def aro(ns:List (List AV))(K:AV→Prop):Prop:=∃cs r cells,ns=cs::r∧cells=cs++[.flist r]∧K (.eptr cells)
def alD(τ:Nat→TI)(op:BinOp)(t:TypeId)(x y:AV)(K:AV→Prop):Prop:=
 match op,x,y with
 | .add,.str a,.str b=>auk a b K
 | .eql,.flist ns,.nilp=>iI (τ t).isPtr (apX ns false K) False
 | .neq,.flist ns,.nilp=>iI (τ t).isPtr (apX ns true K) False
 | .add,.int k a,.int k' b=>iI (decide (k=k')) (ArK (k.wrap (a+b)) fun n=>K (.int k n)) False
 | .sub,.int k a,.int k' b=>iI (decide (k=k')) (ArK (k.wrap (a - b)) fun n=>K (.int k n)) False
 | .mul,.int k a,.int k' b=>iI (decide (k=k')) (ArK (k.wrap (a*b)) fun n=>K (.int k n)) False
 |op,x,y=>iN (Qw τ op t x y) K
def al6(K:AV→Prop)(isStr:Bool)(slT:Option Nat):AV→Prop
 | .str s=>iI isStr (K (.int .i64 s.length)) False
 | .slice es _=>iN slT fun _=>ArK es.length fun n=>K (.int .i64 n)
 | .psl _ _ n=>iN slT fun _=>K (.int .i64 n)
 |_=>False
def aja(σ:Nat→AObj)(k sz bytes:Nat)(d:Option Tmp)(K:List Nat→List Wr→Prop)(es ys:List (List AV)):Tag→Prop
 | .nils=>match es with
  |[]=>iI (dA (σ k)) (akY ys sz bytes (Ze ys fun es=>∃n,n=ys.length*sz∧K [k] (.obj k (.tip n)::aI d (.slice es (.tip k sz))))) False
  |_=>False
 | .tip l z=>match σ l with
  | .tip n=>iI (dA (σ k)&&z==sz) (akN n es ys sz bytes (Ze (es++ys) fun r=>∃n,n=(es++ys).length*sz∧K [l,k] (.obj l .dead:: .obj k (.tip n)::aI d (.slice r (.tip k sz))))) False
  |_=>False
 | .shared=>False
 | .full _=>False
def atC(n:Nat)(es ys:List (List AV))(sz bytes:Nat)(K:List (List AV)→Nat→Prop):Prop:=
 (n≤es.length∧(n+ys.length)*bytes≤140737488355328∧n+ys.length≤140737488355328∧(es.all (bX sz)=true)∧(ys.all (bX sz)=true))∧∃r m,r=es.take n++ys∧m=r.length∧K r m
def aj6(σ:Nat→AObj)(l k z n sz bytes:Nat)(d:Option Tmp)(K:List Nat→List Wr→Prop)(ys:List (List AV)):AObj→Prop
 | .arr z' es=>iI (dA (σ k)&&(z==sz&&z'==sz)) (atC n es ys sz bytes fun r m=>K [l,k] (.obj l .dead:: .obj k (.arr sz r)::aI d (.psl k sz m))) False
 |_=>False
def alm(σ:Nat→AObj)(k sz bytes:Nat)(d:Option Tmp)(K:List Nat→List Wr→Prop):AV→AV→Prop
 | .slice es tg,.slice ys _=>aja σ k sz bytes d K es ys tg
 | .psl l z n,.slice ys _=>aj6 σ l k z n sz bytes d K ys (σ l)
 |_,_=>False
def amc(isStr:Bool)(slT:Option Nat)(lo hi:Option AV)(K:AV→Prop):AV→Prop
 | .str s=>iI isStr (arR s lo hi K) False
 | .slice es _=>iN slT fun sz=>ar2 es sz lo hi K
 | .psl l z n=>iN slT fun _=>match lo with
  |none=>∃m,eB hi n n=some m∧K (.psl l z m)
  |some _=>False
 |_=>False
def Ld:Nat→List (Nat×Operand)→Bool
 |_,[]=>true
 |i,p::ps=>Nat.beq p.1 i&&Ld (i+1) ps
def akX(ρ:Operand→AV)(sz:Nat):List (Nat×Operand)→(List (List AV)→Prop)→Prop
 |[],K=>K []
 |p::ps,K=>iN (eD (ρ p.2)) fun cs=>iI (Nat.beq cs.length sz) (fL (cs.map shr) fun cs=>akX ρ sz ps fun es=>K (cs::es)) False
theorem akz{ρ:Operand→AV}{sz:Nat}:∀(ps:List (Nat×Operand)) (K:List (List AV)→Prop),akX ρ sz ps K→∃css:List (List AV),css.length=ps.length∧(∀c∈css,c.length=sz)∧(∀j:Nat,j<ps.length→∃p,ps[j]? =some p∧eD (ρ p.2)=css[j]?)∧K (css.map fun c=>c.map shr):=by
 intro ps
 induction ps with
 |nil=>intro K h;exact⟨[],rfl,by simp,fun j hj=>by simp at hj,h⟩
 |cons p ps ih=>
  intro K h;obtain⟨cs,h1,h2⟩:=dD h;rcases bQ h2 with⟨h3,h4⟩|⟨_,h4⟩
  ·rw[rC]at h4;obtain⟨css,g1,g2,g3,g4⟩:=ih _ h4;refine⟨cs::css,by simp[g1],?_,?_,g4⟩
   ·simp_all
   grind
  grind
theorem R6{sz:Nat}:∀{css:List (List AV)},(∀c∈css,c.length=sz)→css.flatten.length=css.length*sz
 |[],_=>by simp
 |c::css,h=>by
  simp only[qBQ,qAl];rw[h c (by simp),R6 (fun c hc=>h c (by simp[hc]))]
  grind
theorem RS{ρ:Operand→AV}{sz:Nat}:∀(ps:List (Nat×Operand)) (i:Nat) (css:List (List AV)) (cells:List AV),Ld i ps=true→css.length=ps.length→(∀c∈css,c.length=sz)→(∀j:Nat,j<ps.length→∃p,ps[j]? =some p∧eD (ρ p.2)=css[j]?)→(i+ps.length)*sz≤cells.length→
  kR (fun i=>some (i*sz,sz)) cells (ps.map fun p=>(p.1,ρ p.2))=some (cells.take (i*sz)++css.flatten++cells.drop ((i+ps.length)*sz)):=by
 intro ps
 induction ps with
 |nil=>intro i css cells _ hl _ _ _;have:css=[]:=qAz.1 hl;subst this;simp[kR]
 |cons p ps ih=>
  intro i css cells hc hl hz hp hle;simp only[Ld,qAd]at hc;obtain⟨hc1,hc2⟩:=hc;have hi:p.1=i:=qAg hc1;cases css with
  |nil=>simp at hl
  |cons c css=>
   obtain⟨q,q1,q2⟩:=hp 0 (by simp);simp only[qAp,Option.some.injEq]at q1 q2;subst q1;have hcl:c.length=sz:=hz c (by simp);simp only[qAv]at hle hl;have e1:(i+(ps.length+1))*sz=i*sz+(ps.length*sz+sz):=by rw[qAD,qAD,qBW]
   rw[e1]at hle;simp only[qAA,kR,hi,q2];rw[if_pos ⟨hcl,by omega⟩];rw[ih (i+1) css _ hc2 (by omega) (fun c hc=>hz c (by simp[hc])) (fun j hj=>by
    obtain⟨q,q1,q2⟩:=hp (j+1) (by simpa using hj);exact⟨q,by simpa using q1,by simpa using q2⟩) (by
     simp only[qAl,qBd,List.length_drop,hcl];rw[show(i+1+ps.length)*sz=i*sz+sz+ps.length*sz by rw[qAD,qAD,qBW]];omega)]
   congr 1;have t1:(cells.take (i*sz)++c++cells.drop (i*sz+sz)).take ((i+1)*sz)=cells.take (i*sz)++c:=by
    rw[List.take_append_of_le_length (by simp[hcl];rw[qAD];omega)];apply qCe;simp[hcl];rw[qAD];omega
   have t2:(cells.take (i*sz)++c++cells.drop (i*sz+sz)).drop ((i+1+ps.length)*sz)=cells.drop ((i+(ps.length+1))*sz):=by
    have hl2:(cells.take (i*sz)++c).length=i*sz+sz:=by simp[hcl];omega
    rw[show(i+1+ps.length)*sz=(cells.take (i*sz)++c).length+ps.length*sz by rw[hl2,qAD,qAD,qBW]];rw[←qCS,List.drop_left,qCS,e1];congr 1;omega
   rw[t1];simp only[qAv];rw[t2];simp[qAN]
theorem chunks_flatten{sz:Nat}:∀{css:List (List AV)},(∀c∈css,c.length=sz)→chunks sz css.length css.flatten=css
 |[],_=>rfl
 |c::css,h=>by
  have hc:c.length=sz:=h c (by simp);simp only[qAv,chunks,qBQ];rw[List.take_left' hc,List.drop_left' hc,chunks_flatten (fun c hc=>h c (by simp[hc]))]
def amg(ρ:Operand→AV):List (Nat×Operand)→List AV→(List AV→Prop)→Prop
 |[],cells,K=>K cells
 |p::ps,cells,K=>iN (eD (ρ p.2)) fun cs=>match cs with
  |[c]=>iI (Nat.blt p.1 cells.length) (JK cells p.1 c fun cells=>amg ρ ps cells K) False
  |_=>False
theorem Nv{α:Type}:∀(l:List α) (i:Nat) (v:α),i<l.length→l.take i++[v]++l.drop (i+1)=l.set i v
 |[],_,_,h=>by simp at h
 |x::l,0,v,_=>by simp
 |x::l,i+1,v,h=>by
  have:=Nv l i v (by simpa using h)
  grind
theorem alq{ρ:Operand→AV}:∀(ps:List (Nat×Operand)) (cells:List AV) (K:List AV→Prop),amg ρ ps cells K→∃cs,kR (fun i=>some (i*1,1)) cells (ps.map fun p=>(p.1,ρ p.2))=some cs∧K cs:=by
 intro ps
 induction ps with
 |nil=>intro cells K h;exact⟨cells,rfl,h⟩
 |cons p ps ih=>
  intro cells K h;obtain⟨cs,h1,h2⟩:=dD h;split at h2
  ·rename_i c;rcases bQ h2 with⟨h3,h4⟩|⟨_,h4⟩
   ·rw[D7]at h4;obtain⟨r,g1,g2⟩:=ih _ _ h4;have hlt:p.1<cells.length:=by simpa[Nat.blt,Nat.succ_le_iff]using h3
    simp only[qAA,kR,h1,Nat.mul_one];rw[if_pos ⟨rfl,by omega⟩,Nv _ _ _ hlt]
    grind
   grind
  grind
def atM(es:List (List UInt8×AV))(k:List UInt8)(v:AV)(K:List (List UInt8×AV)→Prop):Prop:=∃r,es.length<140737488355328∧r=CK es k v∧K r
def aqn(es:List (List AV))(K:AV→Prop):Prop:=∃bs,vW es=some bs∧K (.str bs)
def akd(ρ:Operand→AV)(ps:List (Nat×Operand))(z:Option (List AV))(K:AV→Prop):IxT→Prop
 | .arr _ (some sz)=>iI (Nat.beq sz 1) (iN z fun z=>amg ρ ps z fun cs=>K (.agg cs)) False
 |_=>False
def al8(K:AV→Prop):IxT→AV→AV→Prop
 | .arr len (some sz),.ptr l o,.int _ n=>∃m:Nat,(0≤n∧n<len)∧m=o+n.toNat*sz∧K (.ptr l m)
 | .sl (some sz),.psl l z len,.int _ n=>∃m:Nat,(0≤n∧n<len∧z=sz)∧m=n.toNat*sz∧K (.ptr l m)
 |ix,x,i=>aey K ix x i
theorem alO{K:AV→Prop}{ix:IxT}{x i:AV}(h:al8 K ix x i):aey K ix x i∨∃sz l z len k n,ix=.sl (some sz)∧x=.psl l z len∧i=.int k n∧(0≤n∧n<(len:Int)∧z=sz)∧K (.ptr l (n.toNat*sz)):=by
 unfold al8 at h;split at h
 ·obtain⟨m,h1,rfl,h2⟩:=h;exact .inl ⟨h1,h2⟩
 ·grind
 grind
def ash(τ:Nat→TI)(t:TypeId)(z off:Nat)(es:List (List AV))(K:AV→Prop):Prop:=∃i cs,off=i*z∧0<z∧es[i]? =some cs∧iN (loadT τ t cs) K
def aqC(z off:Nat)(es:List (List AV))(vs:List AV)(K:List (List AV)→Prop):Prop:=∃i r,off=i*z∧0<z∧i<es.length∧r=es.set i vs∧K r
def aqu(z off:Nat)(es:List (List AV))(vs:List AV)(K:List (List AV)→Prop):Prop:=∃i j cs r,off=i*z+j∧j<z∧j+vs.length≤z∧es[i]? =some cs∧r=es.set i (cs.take j++vs++cs.drop (j+vs.length))∧K r
def Mg(τ:Nat→TI)(k:Nat)(d:Option Tmp)(ρ:Operand→AV)(σ:Nat→AObj)(K:List Nat→List Wr→Prop):Op→Prop
 | .binOp op t x y _=>alD τ op t (ρ x) (ρ y) fun v=>K [] (aI d v)
 | .nilCheck x=>match ρ x with
  | .flist ns=>aro ns fun v=>K [] (aI d v)
  |v=>iN (akw v) fun v=>K [] (aI d v)
 | .indexAddr t x i=>al8 (fun v=>K [] (aI d v)) (τ t).ix (ρ x) (ρ i)
 | .index t x i=>match ρ x,ρ i with
  | .str s,.int _ n=>iI (τ t).isStr (ar0 s n fun v=>K [] (aI d v)) False
  |_,_=>False
 | .build t parts=>iI (τ t).isStruct (iN (τ t).zero fun z=>iN (kR (lk (τ t).place) z (parts.toList.map fun p=>(p.1,ρ p.2))) fun cs=>K [] (aI d (.agg cs))) (akd ρ parts.toList (τ t).zero (fun v=>K [] (aI d v)) (τ t).ix)
 | .convert s t x=>match ρ x with
  | .int _ n=>iI (τ s).int.isSome (iN (τ t).int fun k=>K [] (aI d (.int k (k.wrap n)))) False
  | .slice es _=>iN (τ s).elem fun e=>iI (decide ((τ e.1).int=some .u8)&&(τ t).isStr) (aqn es fun v=>K [] (aI d v)) False
  |_=>False
 | .slice t x lo hi none=>amc (τ t).isStr (τ t).slT (lo.map ρ) (hi.map ρ) (fun v=>K [] (aI d v)) (ρ x)
 | .buildSlice t len parts=>iN (τ t).elem fun e=>iN (τ e.1).zero fun z=>iI (dA (σ k)&&(decide (len*e.2.1≤16777216)&&(decide (len≤16777216)&&(decide (z.length=e.2.1)&&!Un len parts.toList z))))
   (iI (Ld 0 parts.toList&&Nat.beq parts.toList.length len) (akX ρ e.2.1 parts.toList fun es=>Ze es fun es=>K [k] (.obj k (.tip (len*e.2.1))::aI d (.slice es (.tip k e.2.1))))
    (iN (kR (fun i=>some (i*e.2.1,e.2.1)) ((List.replicate len z).flatten) (parts.toList.map fun p=>(p.1,ρ p.2))) fun cs=>Ze (chunks e.2.1 len (cs.map shr)) fun es=>K [k] (.obj k (.tip (len*e.2.1))::aI d (.slice es (.tip k e.2.1))))) False
 | .call {callee:=.builtin .len,args,argTypes}=>match args.toList,argTypes.toList with
  |[x],[t]=>al6 (fun v=>K [] (aI d v)) (τ t).isStr (τ t).slT (ρ x)
  |_,_=>False
 | .call {callee:=.builtin .append,args,argTypes}=>match args.toList,argTypes.toList with
  |[x,y],[t,t2]=>iN (τ t).elem fun e=>iI (τ t2).isSl (alm σ k e.2.1 e.2.2 d K (ρ x) (ρ y)) False
  |_,_=>False
 | .mapUpdate t m key x=>iN (τ t).smap fun _=>match ρ m,ρ key with
  | .mapr l,.str s=>match σ l with
   | .mp es=>atM es s (sO (ρ x)) fun r=>K [l] (.obj l (.mp r)::aI d (.tup []))
   |_=>False
  |_,_=>False
 | .load t x=>match ρ x with
  | .eptr cs=>iN (loadT τ t cs) fun v=>K [] (aI d v)
  | .ptr l off=>match σ l with
   | .box cs=>iN (loadT τ t (cs.drop off)) fun v=>K [l] (aI d v)
   | .arr z es=>ash τ t z off es fun v=>K [l] (aI d v)
   |_=>False
  |_=>False
 | .store t x y=>match ρ x with
  | .ptr l off=>iN (eD (ρ y)) fun vs=>match σ l with
   | .box cs=>iI (decide ((τ t).size=some vs.length∧off+vs.length≤cs.length)&&vs.all isScalar) (K [l] (.obj l (.box (cs.take off++vs++cs.drop (off+vs.length)))::aI d (.tup []))) False
   | .arr z es=>iI (decide ((τ t).size=some vs.length∧vs.length=z)&&vs.all isScalar) (aqC z off es vs fun r=>K [l] (.obj l (.arr z r)::aI d (.tup [])))
     (iI (decide ((τ t).size=some vs.length)&&vs.all isScalar) (aqu z off es vs fun r=>K [l] (.obj l (.arr z r)::aI d (.tup []))) False)
   |_=>False
  |_=>False
 |op=>stepT τ k d ρ σ K op
theorem alb{τ:Nat→TI}{op:BinOp}{t:TypeId}{x y:AV}{K:AV→Prop}(h:alD τ op t x y K):JW τ op t x y K:=by
 unfold alD at h;split at h
 ·obtain⟨r,g1,rfl,g2⟩:=h;exact⟨g1,g2⟩
 ·rcases bQ h with⟨e,b,rfl,g⟩|⟨_,g⟩
  ·simp only[JW,Qw,e,E8,iN];simpa using g
  grind
 ·rcases bQ h with⟨e,b,rfl,g⟩|⟨_,g⟩
  ·simp only[JW,Qw,e,E8,iN];simpa using g
  grind
 ·rcases bQ h with⟨e,g⟩|⟨_,g⟩
  ·simp at e;subst e;simp only[JW,Qw];exact g.out
  grind
 ·rcases bQ h with⟨e,g⟩|⟨_,g⟩
  ·simp at e;subst e;simp only[JW,Qw];exact g.out
  grind
 ·rcases bQ h with⟨e,g⟩|⟨_,g⟩
  ·simp at e;subst e;simp only[JW,Qw];exact g.out
  grind
 ·rename_i hn1 _ _ hn2 hn3 hn4;unfold JW
  grind
theorem Md{b:Bool}{A A' B B':Prop}(h:iI b A B)(h1:A→A')(h2:B→B'):iI b A' B':=by cases b;exact h2 h;exact h1 h
theorem Iy{α:Type}{r:Option α}{K K':α→Prop}(h:iN r K)(hk:∀x,K x→K' x):iN r K':=by cases r with|none=>exact h|some x=>exact hk x h
theorem alh{K:AV→Prop}{isStr:Bool}{slT:Option Nat}{v:AV}(h:al6 K isStr slT v):iN (akT isStr slT v) K:=by
 unfold al6 at h;split at h
 ·rcases bQ h with⟨e,g⟩|⟨_,g⟩
  ·subst e;exact g
  grind
 ·obtain⟨x,e,g⟩:=dD h;subst e;exact g.out
 ·obtain⟨x,e,g⟩:=dD h;subst e;exact g
 grind
theorem alY{σ:Nat→AObj}{k sz bytes:Nat}{d:Option Tmp}{K:List Nat→List Wr→Prop}{x y:AV}(h:alm σ k sz bytes d K x y):aii σ k sz bytes d K x y∨
  ∃l n es ys tg,x=.psl l sz n∧y=.slice ys tg∧σ l=.arr sz es∧dA (σ k)=true∧n≤es.length∧(n+ys.length)*bytes≤140737488355328∧n+ys.length≤140737488355328∧es.all (bX sz)=true∧ys.all (bX sz)=true∧
   K [l,k] (.obj l .dead:: .obj k (.arr sz (es.take n++ys))::aI d (.psl k sz (es.take n++ys).length)):=by
 unfold alm at h;split at h
 ·refine .inl ?_;unfold aja at h;split at h
  ·split at h
   ·refine Md h (fun g=>?_) id;obtain⟨g1,g2⟩:=g;obtain⟨n,e,g⟩:=g2.out;subst e;exact⟨g1,g⟩
   grind
  ·split at h
   ·rename_i hσ;simp only[aii,hσ];refine Md h (fun g=>?_) id;obtain⟨g1,g2⟩:=g;obtain⟨n,e,g⟩:=g2.out;subst e;exact⟨g1,g⟩
   grind
  ·grind
  ·exact h.elim
 ·rename_i l z n ys tg;unfold aj6 at h;split at h
  ·rename_i z' es hl;rcases bQ h with⟨e1,⟨q1,q2,q3,q4,q5⟩,r,m,rfl,rfl,g⟩|⟨_,g⟩
   ·grind
   grind
  grind
 grind
theorem alR{isStr:Bool}{slT:Option Nat}{lo hi:Option AV}{K:AV→Prop}{v:AV}(h:amc isStr slT lo hi K v):cutV isStr slT lo hi K v∨∃l z n m sz,v=.psl l z n∧lo=none∧slT=some sz∧eB hi n n=some m∧K (.psl l z m):=by
 unfold amc at h;split at h
 ·refine .inl (Md h (fun g=>?_) id);obtain⟨r,⟨l,hh,g1,g2,rfl⟩,g4⟩:=g;exact⟨l,hh,g1,g2,g4⟩
 ·refine .inl (Iy h fun sz g=>?_);obtain⟨r,⟨l,hh,g1,g2,g3,rfl⟩,g4⟩:=g;exact⟨l,hh,g1,g2,g3,g4⟩
 ·rename_i l z n;obtain⟨sz,e,g⟩:=dD h
  grind
 grind
theorem Xt{P:Program}{e:Nat}{k:IntKind}(h:(TI.of P e).int=some k):P.underlying e=some (.int k):=by
 have:intTy P e=some k:=h;unfold intTy at this
 grind
theorem an0{P:Program}{t:Nat}(h:(TI.of P t).isStr=true):P.underlying t=some .string:=by
 have:aM.isStrT P t=true:=h;unfold aM.isStrT at this
 grind
theorem alM{P:Program}{t:Nat}{e:TypeId×Nat×Nat}(h:(TI.of P t).elem=some e):P.underlying t=some (.slice e.1):=by
 have:kT P t=some e:=h;unfold kT at this;split at this
 ·rename_i e' hu;cases hi:P.info? e' with
  |none=>rw[hi]at this;cases this
  |some i=>
   grind
 ·cases this
theorem ahH{P:Program}{s t:Nat}{x:Operand}{ρ:Operand→AV}{es:List (List AV)}{tg:Tag}{bs:List UInt8}{e:TypeId×Nat×Nat}(hx:ρ x=.slice es tg)(h1:(TI.of P s).elem=some e)(h2:(TI.of P e.1).int=some .u8)(h3:(TI.of P t).isStr=true)(hb:vW es=some bs):aM P (.convert s t x) ρ=some (.str bs):=by
 have hs:=alM h1;have he:=Xt h2;have ht:=an0 h3;have hc:aM.convT P s t=none:=by unfold aM.convT;rw[hs,ht]
 have hbt:Qj P s t=true:=by unfold Qj;rw[hs,ht];simp only[he]
 simp only[aM,hx,hc,hbt,if_true,hb,qAt]
theorem Oo{P:Program}{k:Nat}{o:Oper}{ρ:Operand→AV}{σ:Nat→AObj}{K:List Nat→List Wr→Prop}(h:Mg (TI.of P) k o.dst ρ σ K o.op):(∃rd ws,aV P k o ρ σ=some (rd,ws)∧K rd ws):=by
 obtain⟨dst,op,ty,pos,after,guard⟩:=o;dsimp only at h
 suffices hh:stepT (TI.of P) k dst ρ σ K op∨(∃v,aM P op ρ=some v∧K [] (aI dst v))∨(∃rd ws,aV P k ⟨dst,op,ty,pos,after,guard⟩ ρ σ=some (rd,ws)∧K rd ws) by
  rcases hh with hh|⟨v,h1,h2⟩|hh
  ·exact SQ (o:=⟨dst,op,ty,pos,after,guard⟩) hh
  ·exact gV (o:=⟨dst,op,ty,pos,after,guard⟩) h1 h2
  ·exact hh
 unfold Mg at h;split at h
 ·refine .inl ?_;exact alb h
 ·refine .inl ?_;simp only[stepT];split at h
  ·rename_i ns hx;obtain⟨cs,r,cells,rfl,rfl,g⟩:=h;rw[hx];exact g
  ·exact h
 ·rename_i t x i;rcases alO h with g|⟨sz,l,z,len,kk,n,g1,g2,g3,g4,g5⟩
  ·exact .inl g
  ·refine .inr (.inl ⟨.ptr l (n.toNat*sz),?_,g5⟩);have hix:IK P t=.sl (some sz):=g1;unfold IK at hix;split at hix
   ·rename_i e hu;simp only[IxT.sl.injEq]at hix;simp only[aM,g3,hu,g2,hix];rw[if_pos g4]
   ·cases hix
   ·cases hix
 ·refine .inl ?_;simp only[stepT];split at h
  ·rename_i h1 h2;simp only[h1,h2];refine Md h (fun g=>?_) id;obtain⟨x,g1,rfl,g2⟩:=g;exact⟨g1,g2⟩
  ·exact h.elim
 ·rename_i t parts;by_cases hst:(TI.of P t).isStruct=true
  ·refine .inl ?_;simp only[stepT];rw[hst]at h⊢;exact h
  ·refine .inr (.inl ?_);have hst':(TI.of P t).isStruct=false:=by simpa using hst
   rw[hst']at h;simp only[iI]at h;have hs2:wR P t=false:=hst';unfold akd at h;split at h
   ·rename_i len sz hix;rcases bQ h with⟨e1,g⟩|⟨_,g⟩
    ·have hsz:sz=1:=qAg e1;subst hsz;obtain⟨z,hz,g2⟩:=dD g;obtain⟨cs,g3,g4⟩:=alq _ _ _ g2;have hz':kU P t=some z:=hz;have ha:TF P t=some 1:=by
      have hix':IK P t=.arr len (some 1):=hix;unfold IK at hix';unfold TF;split at hix'
      ·cases hix'
      ·rename_i n e hu;simp only[IxT.arr.injEq]at hix';rw[hu];exact hix'.2
      ·cases hix'
     exact⟨.agg cs,by simp only[aM,hs2,qAx,if_false,ha,hz',g3,qAt],g4⟩
    ·exact g.elim
   ·exact h.elim
 ·split at h
  ·rename_i n hx;refine .inl ?_;simp only[stepT,hx];exact h
  ·rename_i es tg hx;refine .inr (.inl ?_);obtain⟨e,h1,h2⟩:=dD h;rcases bQ h2 with⟨h3,bs,h4,h5⟩|⟨_,g⟩
   ·simp only[qAd,decide_eq_true_eq]at h3;exact⟨.str bs,ahH hx h1 h3.1 h3.2 h4,h5⟩
   ·exact g.elim
  ·exact h.elim
 ·rename_i t x lo hi;rcases alR h with g|⟨l,z,n,m,sz,g1,g2,g3,g4,g5⟩
  ·exact .inl g
  ·refine .inr (.inl ⟨.psl l z m,?_,g5⟩);have hsl:aM.sliceT P t=some sz:=g3;cases lo with
   |some y=>cases g2
   |none=>simp only[aM,g1,hsl,g4]
 ·refine .inl ?_;rename_i t len parts;refine Iy h fun e g=>Iy g fun z g=>?_;rcases bQ g with⟨hb,g⟩|⟨_,g⟩
  ·rw[hb];simp only[qAd,decide_eq_true_eq]at hb;obtain⟨_,_,_,hz,_⟩:=hb;rcases bQ g with⟨hc,g⟩|⟨_,g⟩
   ·simp only[qAd]at hc;obtain⟨hc1,hc2⟩:=hc;have hlen:=qAg hc2;obtain⟨css,g1,g2,g3,g4⟩:=akz _ _ g;have hrl:((List.replicate len z).flatten).length=len*e.2.1:=by
     rw[R6 (sz:=e.2.1) (fun c hc=>by rw[List.mem_replicate]at hc;rw[hc.2];exact hz)];simp
    have hf:=RS (ρ:=ρ) (sz:=e.2.1) parts.toList 0 css ((List.replicate len z).flatten) hc1 g1 g2 g3 (by rw[hrl,hlen];simp);simp only[iI];rw[hf];have e1:((List.replicate len z).flatten).drop ((0+parts.toList.length)*e.2.1)=[]:=by
     apply qBO;rw[hrl,hlen];simp
    rw[e1];simp only[qDc,qBa,qAY,qAK,iN];have e2:chunks e.2.1 len (css.flatten.map shr)=css.map fun c=>c.map shr:=by
     rw[←hlen,←g1,List.map_flatten];have:=chunks_flatten (sz:=e.2.1) (css:=css.map (List.map shr)) (fun c hc=>by
      obtain⟨c',hc',rfl⟩:=qAQ.1 hc;rw[qAo];exact g2 c' hc')
     rw[qAo]at this;exact this
    rw[e2];exact g4.out
   ·exact Iy g fun cs g=>g.out
  ·exact g.elim
 ·refine .inl ?_;simp only[stepT];split at h
  ·rename_i h1 h2;simp only[h1,h2];exact alh h
  ·exact h.elim
 ·rename_i args argTypes;split at h
  ·rename_i x y t t2 h1 h2;obtain⟨e,he,h3⟩:=dD h;rcases bQ h3 with⟨h4,h5⟩|⟨_,g⟩
   ·rcases alY h5 with g|⟨l,n,es,ys,tg,g1,g2,g3,g4,g5,g6,g7,g8,g9,g10⟩
    ·refine .inl ?_;simp only[stepT,h1,h2,he,iN,h4,iI];exact g
    ·refine .inr (.inr ⟨_,_,?_,g10⟩);obtain⟨e1,e2,e3⟩:=e;have he':kT P t=some (e1,e2,e3):=he;have h4':aV.isSliceT P t2=true:=h4;simp only[aV,aM,h1,h2,he',h4',g1,g2,g3];rw[if_pos (by refine⟨g4,?_,?_,g5,g6,g7,g8,g9⟩<;>trivial)]
   ·exact g.elim
  ·exact h.elim
 ·refine .inl ?_;simp only[stepT];refine Iy h fun e g=>?_;split at g
  ·rename_i h1 h2;simp only[h1,h2];split at g
   ·rename_i h3;simp only[h3];obtain⟨r,g1,rfl,g2⟩:=g;exact⟨g1,g2⟩
   ·exact g.elim
  ·exact g.elim
 ·rename_i t x;split at h
  ·rename_i cs hx;refine .inl ?_;simp only[stepT,hx];exact h
  ·rename_i l off hx;split at h
   ·rename_i cs hl;refine .inl ?_;simp only[stepT,hx,hl];exact h
   ·rename_i z es hl;refine .inr (.inr ?_);obtain⟨i,cs,rfl,hz,hi,g⟩:=h;obtain⟨v,g1,g2⟩:=dD g;rw[Tn]at g1;have hlt:=(qAk.1 hi).1;refine⟨[l],aI dst v,?_,g2⟩;rw[agz];simp only[aby,hx,hl];rw[Nat.mul_div_cancel _ hz,if_pos ⟨rfl,hlt⟩];have e:es.getD i []=cs:=by simp[List.getD,hi]
    rw[e,g1];rfl
   ·exact h.elim
  ·exact h.elim
 ·rename_i t x y;split at h
  ·rename_i l off hx;obtain⟨vs,g1,g2⟩:=dD h;split at g2
   ·rename_i cs hl;refine .inl ?_;simp only[stepT,hx,g1,hl,iN];exact g2
   ·rename_i z es hl;refine .inr (.inr ?_);rcases bQ g2 with⟨g3,g4⟩|⟨hne,g⟩
    ·simp only[qAd,decide_eq_true_eq]at g3;obtain⟨i,r,rfl,hz,hi,rfl,g5⟩:=g4;have g3':sizeT P t=some vs.length:=g3.1.1;refine⟨_,_,?_,g5⟩;rw[Tv];simp only[WR,hx,g1,hl];rw[Nat.mul_div_cancel _ hz,if_pos ⟨g3',g3.1.2,rfl,hi,g3.2⟩]
    ·rcases bQ g with⟨g3,g4⟩|⟨_,g⟩
     ·simp only[qAd,decide_eq_true_eq]at g3;obtain⟨i,j,cs,r,rfl,hj,hjz,hc,rfl,g5⟩:=g4;have g3':sizeT P t=some vs.length:=g3.1;have hi:i<es.length:=(qAk.1 hc).1;have hd:(i*z+j)/z=i:=by rw[qBA,Nat.mul_add_div (by omega),Nat.div_eq_of_lt hj,qAP]
      have hmd:(i*z+j)%z=j:=by rw[qBA,qCN,qBU hj]
      have hg:es.getD i []=cs:=by simp[List.getD,hc]
      refine⟨_,_,?_,g5⟩;rw[Tv];simp only[WR,hx,g1,hl];rw[hd,hmd,hg,if_neg,if_pos ⟨g3',by omega,hi,hjz,g3.2⟩];rintro⟨q1,q2,_⟩;have hne':((decide ((TI.of P t).size=some vs.length∧vs.length=z))&&vs.all isScalar)=true:=by
       rw[g3.2,qCf];exact decide_eq_true ⟨q1,q2⟩
      rw[hne']at hne;cases hne
     ·exact g.elim
   ·exact g2.elim
  ·exact h.elim
 grind
structure ACallU(P:Program)(f:Nat)(args:List AV)(dst:Option Tmp)(t:List AV)(h:List AObj)(k:Nat)(K:Nat→List Nat→List Wr→Prop):Prop where
 out:Qm P f args dst t h k K
def Ci(P:Program)(τ:Nat→TI)(ops:List Oper):List Oper→Nat→List Eff→List AV→List AObj→(List Eff→List AV→List AObj→Prop)→Prop
 |[],_,es,t,h,K=>K es.reverse t h
 |o::l,k,es,t,h,K=>grd ops t
   (fun t=>match kZ o.op with
    |some (f,args)=>Ox (fun fid caps=>TT t args.toList fun vs=>fL (vs++caps) fun vs=>ACallU P fid vs o.dst t h k fun k' ro ws=>uE ws t h fun t' h'=>Ci P τ ops l k' (⟨bF ops.toArray o,ro,ws⟩::es) t' h' K) (bC t f)
    |none=>Mg τ k o.dst (bC t) (obj? h) (fun rd ws=>uE ws t h fun t' h'=>ZG (ji o.op) (Ci P τ ops l k (⟨bF ops.toArray o,rd,ws⟩::es) t' h' K) (Ci P τ ops l (k+1) (⟨bF ops.toArray o,rd,ws⟩::es) t' h' K)) o.op)
   (fun t=>uE (aI o.dst (.tup [])) t h fun t' h'=>Ci P τ ops l k (⟨bF ops.toArray o,[],aI o.dst (.tup [])⟩::es) t' h' K) o.guard
theorem Mr{P:Program}{ops:List Oper}:∀(l:List Oper) (k:Nat) (es:List Eff) (t:List AV) (h:List AObj) (K:List Eff→List AV→List AObj→Prop),Ci P (TI.of P) ops l k es t h K→∃es' s',ATr P ops.toArray l es' ⟨t,h⟩ s'∧K (es.reverse++es') s'.tmps s'.heap:=by
 intro l
 induction l with
 |nil=>intro k es t h K hr;exact⟨[],⟨t,h⟩,.nil _,by simpa[Ci]using hr⟩
 |cons o l ih=>
  intro k es t h K hr;have fin:∀(e:Eff) (k':Nat),vH P ops.toArray o ⟨t,h⟩ e→(uE e.ws t h fun t' h'=>Ci P (TI.of P) ops l k' (e::es) t' h' K)→∃es' s',ATr P ops.toArray (o::l) es' ⟨t,h⟩ s'∧K (es.reverse++es') s'.tmps s'.heap:=fun e k' he hw=>by
   rw[QC]at hw;obtain⟨es',s',g1,g2⟩:=ih k' (e::es) _ _ K hw;exact⟨e::es',s',.cons he g1,by simpa using g2⟩
  rcases JD hr with⟨hc,h1⟩|⟨hc,h2⟩
  ·cases hcall:kZ o.op with
   |none=>
    rw[hcall]at h1;obtain⟨rd,ws,g1,g2⟩:=Oo h1;have g2:∃k',uE ws t h fun t' h'=>Ci P (TI.of P) ops l k' (⟨bF ops.toArray o,rd,ws⟩::es) t' h' K:=by
     cases hn:ji o.op with
     |zero=>simp only[hn]at g2;exact⟨_,g2⟩
     |succ m=>simp only[hn]at g2;exact⟨_,g2⟩
    obtain⟨k',g2⟩:=g2;exact fin ⟨bF ops.toArray o,rd,ws⟩ k' (Ea (s:=⟨t,h⟩) hc g1) g2
   |some p=>
    rw[hcall]at h1;simp only at h1;unfold Ox at h1;split at h1
    ·rename_i fid caps g1;simp only[QU,rC]at h1;replace h1:=h1.out;obtain⟨hok,ρ,ks,aargs,H,res,H',g2,g3,g4,g5,g6⟩:=h1;obtain⟨tt,ho⟩:=uZ hcall;exact fin _ _ (AZ (s:=⟨t,h⟩) hc ho g1 hok g2 g3 g4 g5) g6
    grind
  ·exact fin _ k (AO (s:=⟨t,h⟩) hc) h2
def rep(n:Nat)(h:List AObj)(K:List AObj→Prop):Prop:=fL (h++List.replicate n .res) K
theorem AW.region{P:Program}{τ:Nat→TI}{m id:Nat}{l:Array Oper}{dr:Bool}{Q:QT}{t:List AV}{h:List AObj}(hτ:τ=TI.of P)(hm:P.follows .mixedOrders=true)(r:Nat)
  (hr:rep r h fun h'=>Iq h 0 fun k=>Ci P τ l.toList l.toList k [] t h' fun es t h=>iI dr (iG l.toList es=true∧Q .normal t h) (Q .normal t h)):AW P m (.region id l dr) Q t h:=by
 subst hτ;unfold rep at hr;simp only[rC,G6]at hr;obtain⟨es,s',h1,h2⟩:=Mr _ _ _ _ _ _ hr;have hl:l=l.toList.toArray:=by simp
 rcases bQ h2 with⟨rfl,g1,g2⟩|⟨rfl,g⟩
 ·exact AW.of (dM.drawn (s:=⟨t,h⟩) r hm h1 g1 g2)
 ·exact AW.of (dM.region (s:=⟨t,h⟩) r h1.steps g)
end
section
open Go
def XH(P:Program)(rs:List ResultVar)(wk:Bool)(H:List AObj)(res:AV)(H':List AObj)(t:List AV)(h:List AObj):Prop:=
 (∃L,zU P rs wk L H res H' ⟨t,h⟩)∨∃t' h',Le H.length t h t' h'∧∃L,zU P rs wk L H res H' ⟨t',h'⟩
def apx(P:Program)(rs:List ResultVar)(wk:Bool)(H:List AObj)(res:AV)(H':List AObj):QT
 | .normal,t,h=>XH P rs wk H res H' t h
 | .ret,t,h=>XH P rs wk H res H' t h
 |_,_,_=>False
theorem aiJ{P:Program}{f:Nat}{fn:Func}{c:Code}{args:List AV}{H H':List AObj}{res:AV}(wk:Bool)(hf:P.funcs[f]? =some fn)(hb:fn.body=some c)(hlen:args.length≤fn.ntmps)
  (h:AW P H.length c (apx P fn.results.toList wk H res H') (args++List.replicate (fn.ntmps - args.length) (.tup [])) H):ak P f args H res H':=by
 intro κ aN w vs hen hvl hr
 let C:Ctx:={aN:=aN,old:=fun b=>b<w.heap.size∧∀l,at? κ l=some b→¬live (obj? H l),w0:=w,k0:=κ,pvE:=aO aN κ H}
 refine calls_of_wp hf hb ?_;have hsim:Sim C κ ⟨args++List.replicate (fn.ntmps - args.length) (.tup []),H⟩ {tmps:=vs.toArray++Array.replicate (fn.ntmps - vs.toArray.size) undef,defers:=[]} w:=by
  refine⟨rfl,by simp[hvl],?_,hen.klen,bV.refl _,hen.resv,hen.obj,hen.apart,fun l b h1 h2 ho=>ho.2 l h1 h2,hen.bound,fun b o h=>⟨hen.pvlt b o h,fun l hl=>hen.pvdis b o l h hl⟩,fun b hb=>hb.1,fun _ _=>rfl,rfl,rfl,rfl,qAc _,fun _ _ h _=>h,Evo.refl _ _⟩;intro n hn;simp only[qAl,qBC]at hn;by_cases hlt:n<args.length
  ·have e1:(args++List.replicate (fn.ntmps - args.length) (AV.tup [])).getD n .unk=args.getD n .unk:=by simp[List.getD,qAf hlt]
   have e2:(vs.toArray++Array.replicate (fn.ntmps - vs.toArray.size) undef).getD n undef=vs.getD n undef:=by
    rw[qAh,qAS (by simp;omega)];simp[List.getD]
   grind
  ·have e1:(args++List.replicate (fn.ntmps - args.length) (AV.tup [])).getD n .unk=.tup []:=by
    rw[List.getD,qAm (qAu hlt),qBy,if_pos (by omega)];rfl
   have e2:(vs.toArray++Array.replicate (fn.ntmps - vs.toArray.size) undef).getD n undef=undef:=by
    rw[qAh,qBg (by simp;omega),qBJ];split<;>rfl
   rw[e1,e2];exact jr
 have hfin:∀(L:List Nat) (s:ASt) (κf:bg) (a:Act) (w':World),zU P fn.results.toList wk L H res H' s→Sim C κf s a w'→a.defers=[]∧∃v,(results fn a.tmps).run P w'=.ok v w'∧∃v' κ',Ending.returned v=.returned v'∧Leave κ κ' aN H H' w w'∧Rel w' κ' (aO aN κ' H') res v':=by
  intro L s κf a w' hq hs;obtain⟨xs,q1,q2,q3,q4,q5,q6,q7,q8⟩:=hq;refine⟨hs.defers,?_⟩;obtain⟨us,u1,u2,u3⟩:=JN hs _ _ q1
  let κ':bg:=L.map (at? κf)
  let g:=nm L s.heap.length
  have hat:∀i b,at? κ' i=some b→∃l,L[i]? =some l∧at? κf l=some b:=fun i b hb=>by
   simp only[κ']at hb;rw[at?_map]at hb;cases hi:L[i]? with
   |none=>rw[hi]at hb;cases hb
   |some l=>rw[hi]at hb;exact⟨l,rfl,hb⟩
  have hdown:∀i,at? κ' i=at? κf (g i):=fun i=>by
   simp only[κ',g,nm];rw[at?_map];cases hi:L[i]? with
   |some l=>rfl
   |none=>simp only[qBz];rw[at?_none_of_le (by rw[hs.klen];exact qAc _)]
  have hpv:∀b o,aO aN κ' H' b o→aO aN κf s.heap b o:=by
   rintro b o (h|⟨i,h1,h2⟩)
   ·exact .inl h
   ·obtain⟨l,hl,hb⟩:=hat i b h1;exact .inr ⟨l,hb,by rw[q8 i l hl,BA];exact h2⟩
  have hrel:∀{x:AV} {u:Value},Rel w' κf (aO aN κf s.heap) (ren g x) u→Rel w' κ' (aO aN κ' H') x u:=fun hx=>
   (hx.vw hdown _ rfl).mono (Evo.refl _ _) (bV.refl _) (fun b o h _=>hpv b o h)
  have hleave:Leave κ κ' aN H H' w w':=by
   refine⟨by simp[κ',q4],by omega,?_,?_,?_,?_,?_,?_,?_,hs.iH,fun b o h hlt=>hs.pvsub b o (hpv b o h) hlt,hs.os,hs.tape,hs.output⟩
   ·intro i b hb;have hi:i<H.length:=by rw[←hen.klen];exact lt_of_at? hb
    rw[hdown i];have:g i=i:=by simp only[g,nm,q6 i hi];rfl
    rw[this];exact hs.kext i b hb
   ·intro i hi;rw[hdown i];cases h0:L[i]? with
    |none=>simp only[g,nm,h0,qBz];exact at?_none_of_le (by rw[hs.klen];exact qAc _)
    |some l=>
     simp only[g,nm,h0,qAi];exact hs.resv l (by rw[q8 i l h0,hi];rfl)
   ·intro i b h1 h2;obtain⟨l,hl,hb⟩:=hat i b h1;have:=hs.obj l b hb (by rw[q8 i l hl,jh];exact h2);rw[q8 i l hl]at this;exact(this.vw hdown).mono rfl (Evo.refl _ _) (bV.refl _) (fun b o h _=>hpv b o h)
   ·intro i b h1 h2;obtain⟨l,hl,hb⟩:=hat i b h1;have hno:=hs.own l b hb (by rw[q8 i l hl,jh];exact h2);by_cases hlt:b<w.heap.size
    ·right;apply qAT;intro hne;exact hno ⟨hlt,fun l0 h0 hlv=>hne ⟨l0,h0,hlv⟩⟩
    ·left;omega
   ·intro i j b h1 h2 h3 h4;obtain⟨l,hl,hb⟩:=hat i b h1;obtain⟨l',hl',hb'⟩:=hat j b h2;have e:=hs.apart l l' b hb hb' (by rw[q8 i l hl,jh];exact h3) (by rw[q8 j l' hl',jh];exact h4);subst e;exact(qCc (qAk.1 hl).1 q3).1 (hl.trans hl'.symm)
   ·intro i b h1;obtain⟨l,_,hb⟩:=hat i b h1;exact hs.bound l b hb
   ·intro b hb hnl;exact hs.old b ⟨hb,hnl⟩
  have hresrel:∀(x:AV) (u:Value),Rel w' κf (aO aN κf s.heap) x u→Rel w' κf (aO aN κf s.heap) (if wk then sO x else x) u:=fun x u hx=>by
   cases wk
   ·exact hx
   ·exact hx.sO
  have hrun:∃v,(results fn a.tmps).run P w'=.ok v w'∧Rel w' κf (aO aN κf s.heap) (wh wk xs) v:=by
   have hm:(fn.results.mapM (Mj a.tmps)).run P w'=.ok us.toArray w':=by
    rw[qBF];simp only[Sem.run_map,u3,Result.andThen_ok]
   rw[MF];simp only[Sem.run_bind,hm,Result.andThen_ok,Sem.run_pure];by_cases h1:us.length=1
   ·match us,h1 with
    |[u],_=>
     match xs,u1 with
     |[x],_=>
      refine⟨u,by simp,?_⟩;have:=u2 0 (by simp);simp only[List.getD,qAp,qAi]at this;exact hresrel x u this
   ·refine⟨.tuple us.toArray,by simp[h1],?_⟩;have hx:wh wk xs=.tup (if wk then xs.map sO else xs):=by
     match xs,u1 with
     |[],_=>rfl
     |[x],h=>exact(h1 (by simpa using h)).elim
     |_::_::_,_=>rfl
    rw[hx];refine .tup (by split<;>simp[u1]) fun j hj=>?_;have hj':j<xs.length:=by split at hj<;>simpa using hj
    have:=hresrel _ _ (u2 j hj');cases wk
    ·exact this
    ·simp only[if_true]at this⊢;have e:(xs.map sO).getD j .unk=sO (xs.getD j .unk):=by simp[List.getD,qAe hj']
     rw[e];exact this
  obtain⟨v,hv1,hv2⟩:=hrun;rw[q2]at hv2;exact⟨v,hv1,v,κ',rfl,hleave,hrel hv2⟩
 have hkl:C.k0.length≤H.length:=qCa hen.klen;refine wp_mono (h C κ _ w hkl hsim) ?_;rintro e a w' ⟨s,κf,hq,hs⟩;have fin:XH P fn.results.toList wk H res H' s.tmps s.heap→a.defers=[]∧∃v,(results fn a.tmps).run P w'=.ok v w'∧∃v' κ',Ending.returned v=.returned v'∧Leave κ κ' aN H H' w w'∧Rel w' κ' (aO aN κ' H') res v':=by
  rintro(⟨L,hq⟩|⟨t',h',hwk,L,hq⟩)
  ·exact hfin L s κf a w' hq hs
  ·obtain⟨κ2,hs2⟩:=hwk C κf a w' hkl hs;exact hfin L _ κ2 a w' hq hs2
 cases e with
 |normal=>exact fin hq
 |ret=>exact fin hq
 |exit id=>exact hq.elim
 |goto l=>exact hq.elim
 |panic c=>exact hq.elim
 |outgrown=>exact hq.elim
end
end Abs
end Go.Proofs.YtkopaeklihhdlaaGreat
