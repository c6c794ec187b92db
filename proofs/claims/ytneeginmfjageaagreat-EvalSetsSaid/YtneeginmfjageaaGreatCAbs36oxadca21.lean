/-
  The step of the walk with questions in which the asker says how a number or a list is to be written. Conditions: none; lemmas over any program.
-/
import Derived.Test.YtneeginmfjageaaGreatCAbs24ox65eaad
set_option linter.unusedSimpArgs false
set_option linter.unusedVariables false
namespace Go.Proofs.YtneeginmfjageaaGreat
namespace Abs
section
open Go
def ArK v(K:Int→Prop):=∃n,n=v∧K n
def EsK v(K:List (List AV)→Prop):=∃es,es=v∧K es
theorem ArK.out{v}{K}(h:ArK v K):K v:=by obtain⟨n,rfl,h⟩:=h;exact h
theorem EsK.out{v}{K}(h:EsK v K):K v:=by obtain⟨n,rfl,h⟩:=h;exact h
def aE3(s:List UInt8)(n:Int)(K:AV→Prop):=∃x:Int,(0≤n∧n<s.length)∧x=(s.getD n.toNat 0).toNat∧K (.int .u8 x)
def aGd a b(K:AV→Prop):=∃r,a.length+b.length≤9223372036854775807∧r=a++b∧K (.str r)
def aFo(s:List UInt8)lo hi(K:AV→Prop):=∃r,(∃l h,dL hi s.length s.length=some h∧dL lo 0 h=some l∧r=(s.drop l).take (h - l))∧K (.str r)
def aED(es:List (List AV))sz lo hi(K:AV→Prop):=∃r,(∃l h,dL hi es.length es.length=some h∧dL lo 0 h=some l∧(l<es.length→(es.getD l []).length=sz)∧r=(es.drop l).take (h - l))∧K (.slice r .shared)
def aCN(ns:List (List AV))neg(K:AV→Prop):=∃b:Bool,b=ns.isEmpty∧K (.bool (neg !=b))
def aFi ns(K:AV→Prop):=∃cs r cells,ns=cs::r∧cells=cs++[.flist r]∧K (.eptr cells)
def ayE(τ:Nat→TI)(op:BinOp)(t:TypeId)(x y:AV)(K:AV→Prop):=
 match op,x,y with
 | .add,.str a,.str b=>aGd a b K
 | .eql,.flist ns,.nilp=>gP (τ t).isPtr (aCN ns false K) False
 | .neq,.flist ns,.nilp=>gP (τ t).isPtr (aCN ns true K) False
 | .add,.int k a,.int k' b=>gP (decide (k=k')) (ArK (k.wrap (a+b)) fun n=>K (.int k n)) False
 | .sub,.int k a,.int k' b=>gP (decide (k=k')) (ArK (k.wrap (a - b)) fun n=>K (.int k n)) False
 | .mul,.int k a,.int k' b=>gP (decide (k=k')) (ArK (k.wrap (a*b)) fun n=>K (.int k n)) False
 | op,x,y=>gK (Yr τ op t x y) K
def ayF(K:AV→Prop)(isStr:Bool)(slT:Option Nat):AV→Prop
 | .str s=>gP isStr (K (.int .i64 s.length)) False
 | .slice es _=>gK slT fun _=>ArK es.length fun n=>K (.int .i64 n)
 | .psl _ _ n=>gK slT fun _=>K (.int .i64 n)
 | _=>False
def axF(σ:Nat→AObj)(k sz bytes:Nat)(d:Option Tmp)(K:List Nat→List Wr→Prop)(es ys:List (List AV)):Tag→Prop
 | .nils=>match es with
  | []=>gP (bS (σ k)) (ax9 ys sz bytes (EsK ys fun es=>∃n,n=ys.length*sz∧K [k] (.obj k (.tip n)::au d (.slice es (.tip k sz))))) False
  | _=>False
 | .tip l z=>match σ l with
  | .tip n=>gP (bS (σ k)&&z==sz) (ayz n es ys sz bytes (EsK (es++ys) fun r=>∃n,n=(es++ys).length*sz∧K [l,k] (.obj l .dead:: .obj k (.tip n)::au d (.slice r (.tip k sz))))) False
  | _=>False
 | .shared=>False
def aGE(n:Nat)(es ys:List (List AV))(sz bytes:Nat)(K:List (List AV)→Nat→Prop):=
 (n≤es.length∧(n+ys.length)*bytes≤140737488355328∧n+ys.length≤140737488355328∧(es.all (bU sz)=true)∧(ys.all (bU sz)=true))∧∃r m,r=es.take n++ys∧m=r.length∧K r m
def axU(σ:Nat→AObj)(l k z n sz bytes:Nat)(d:Option Tmp)(K:List Nat→List Wr→Prop)(ys:List (List AV)):AObj→Prop
 | .arr z' es=>gP (bS (σ k)&&(z==sz&&z'==sz)) (aGE n es ys sz bytes fun r m=>K [l,k] (.obj l .dead:: .obj k (.arr sz r)::au d (.psl k sz m))) False
 | _=>False
def ays(σ:Nat→AObj)(k sz bytes:Nat)(d:Option Tmp)(K:List Nat→List Wr→Prop):AV→AV→Prop
 | .slice es tg,.slice ys _=>axF σ k sz bytes d K es ys tg
 | .psl l z n,.slice ys _=>axU σ l k z n sz bytes d K ys (σ l)
 | _,_=>False
def ayV(isStr:Bool)(slT:Option Nat)(lo hi:Option AV)(K:AV→Prop):AV→Prop
 | .str s=>gP isStr (aFo s lo hi K) False
 | .slice es _=>gK slT fun sz=>aED es sz lo hi K
 | .psl l z n=>gK slT fun _=>match lo with
  | none=>∃m,dL hi n n=some m∧K (.psl l z m)
  | some _=>False
 | _=>False
def Tw:Nat→List (Nat×Operand)→Bool
 | _,[]=>true
 | i,p::ps=>Nat.beq p.1 i&&Tw (i+1) ps
def azy(ρ:Operand→AV)(sz:Nat):List (Nat×Operand)→(List (List AV)→Prop)→Prop
 | [],K=>K []
 | p::ps,K=>gK (dM (ρ p.2)) fun cs=>gP (Nat.beq cs.length sz) (fL (cs.map shr) fun cs=>azy ρ sz ps fun es=>K (cs::es)) False
theorem ayn{ρ}{sz}:∀ps K,azy ρ sz ps K→∃css:List (List AV),css.length=ps.length∧(∀c∈css,c.length=sz)∧(∀j:Nat,j<ps.length→∃p,ps[j]? =some p∧dM (ρ p.2)=css[j]?)∧K (css.map fun c=>c.map shr):=by
 intro ps
 induction ps with
 | nil=>intro K h;exact⟨[],rfl,by simp,fun j hj=>by simp at hj,h⟩
 | cons p ps ih=>
  intro K h;obtain⟨cs,h1,h2⟩:=bN h;rcases bC h2 with⟨h3,h4⟩ | ⟨_,h4⟩
  ·rw[uN] at h4;obtain⟨css,g1,g2,g3,g4⟩:=ih _ h4;refine⟨cs::css,by simp[g1],?_,?_,g4⟩
   ·simp_all
   grind
  grind
theorem abW{sz}:∀{css:List (List AV)},(∀c∈css,c.length=sz)→css.flatten.length=css.length*sz
 | [],_=>by simp
 | c::css,h=>by
  simp only[qCn,qAf];rw[h c (by simp),abW (fun c hc=>h c (by simp[hc]))]
  grind
theorem acr{ρ:Operand→AV}{sz}:∀ps i (css:List (List AV)) cells,Tw i ps=true→css.length=ps.length→(∀c∈css,c.length=sz)→(∀j:Nat,j<ps.length→∃p,ps[j]? =some p∧dM (ρ p.2)=css[j]?)→(i+ps.length)*sz≤cells.length→
  jV (fun i=>some (i*sz,sz)) cells (ps.map fun p=>(p.1,ρ p.2))=some (cells.take (i*sz)++css.flatten++cells.drop ((i+ps.length)*sz)):=by
 intro ps
 induction ps with
 | nil=>intro i css cells _ hl _ _ _;have:css=[]:=qAw.1 hl;subst this;simp[jV]
 | cons p ps ih=>
  intro i css cells hc hl hz hp hle;simp only[Tw,qAa] at hc;obtain⟨hc1,hc2⟩:=hc;have hi:p.1=i:=qAj hc1;cases css with
  | nil=>simp at hl
  | cons c css=>
   obtain⟨q,q1,q2⟩:=hp 0 (by simp);simp only[qAD,Option.some.injEq] at q1 q2;subst q1;have hcl:c.length=sz:=hz c (by simp);simp only[qAm] at hle hl;have e1:(i+(ps.length+1))*sz=i*sz+(ps.length*sz+sz):=by rw[qAV,qAV,qCj]
   rw[e1] at hle;simp only[qAu,jV,hi,q2];rw[if_pos ⟨hcl,by omega⟩];rw[ih (i+1) css _ hc2 (by omega) (fun c hc=>hz c (by simp[hc])) (fun j hj=>by
    obtain⟨q,q1,q2⟩:=hp (j+1) (by simpa using hj);exact⟨q,by simpa using q1,by simpa using q2⟩) (by
     simp only[qAf,qAB,qCJ,hcl];rw[show(i+1+ps.length)*sz=i*sz+sz+ps.length*sz by rw[qAV,qAV,qCj]];omega)]
   congr 1;have t1:(cells.take (i*sz)++c++cells.drop (i*sz+sz)).take ((i+1)*sz)=cells.take (i*sz)++c:=by
    rw[List.take_append_of_le_length (by simp[hcl];rw[qAV];omega)];apply qCk;simp[hcl];rw[qAV];omega
   have t2:(cells.take (i*sz)++c++cells.drop (i*sz+sz)).drop ((i+1+ps.length)*sz)=cells.drop ((i+(ps.length+1))*sz):=by
    have hl2:(cells.take (i*sz)++c).length=i*sz+sz:=by simp[hcl];omega
    rw[show(i+1+ps.length)*sz=(cells.take (i*sz)++c).length+ps.length*sz by rw[hl2,qAV,qAV,qCj]];rw[←List.drop_drop,qDb,List.drop_drop,e1];congr 1;omega
   rw[t1];simp only[qAm];rw[t2];simp[qAo]
theorem chunks_flatten{sz}:∀{css:List (List AV)},(∀c∈css,c.length=sz)→chunks sz css.length css.flatten=css
 | [],_=>rfl
 | c::css,h=>by
  have hc:c.length=sz:=h c (by simp);simp only[qAm,chunks,qCn];rw[List.take_left' hc,qDz hc,chunks_flatten (fun c hc=>h c (by simp[hc]))]
def ayI(ρ:Operand→AV):List (Nat×Operand)→List AV→(List AV→Prop)→Prop
 | [],cells,K=>K cells
 | p::ps,cells,K=>gK (dM (ρ p.2)) fun cs=>match cs with
  | [c]=>gP (Nat.blt p.1 cells.length) (RO cells p.1 c fun cells=>ayI ρ ps cells K) False
  | _=>False
theorem Xu{α:Type}:∀(l:List α) i v,i<l.length→l.take i++[v]++l.drop (i+1)=l.set i v
 | [],_,_,h=>by simp at h
 | x::l,0,v,_=>by simp
 | x::l,i+1,v,h=>by
  have:=Xu l i v (by simpa using h)
  grind
theorem ayx{ρ}:∀ps cells K,ayI ρ ps cells K→∃cs,jV (fun i=>some (i*1,1)) cells (ps.map fun p=>(p.1,ρ p.2))=some cs∧K cs:=by
 intro ps
 induction ps with
 | nil=>intro cells K h;exact⟨cells,rfl,h⟩
 | cons p ps ih=>
  intro cells K h;obtain⟨cs,h1,h2⟩:=bN h;split at h2
  ·rename_i c;rcases bC h2 with⟨h3,h4⟩ | ⟨_,h4⟩
   ·rw[I9] at h4;obtain⟨r,g1,g2⟩:=ih _ _ h4;have hlt:p.1<cells.length:=by simpa[Nat.blt,Nat.succ_le_iff] using h3
    simp only[qAu,jV,h1,Nat.mul_one];rw[if_pos ⟨rfl,by omega⟩,Xu _ _ _ hlt]
    grind
   grind
  grind
def aGn(es)k(v)(K:List (List UInt8×AV)→Prop):=∃r,es.length<140737488355328∧r=Gg es k v∧K r
def aDq es(K:AV→Prop):=∃bs,xg es=some bs∧K (.str bs)
def axI(ρ:Operand→AV)(ps:List (Nat×Operand))(z:Option (List AV))(K:AV→Prop):IxT→Prop
 | .arr _ (some sz)=>gP (Nat.beq sz 1) (gK z fun z=>ayI ρ ps z fun cs=>K (.agg cs)) False
 | _=>False
def azG(K:AV→Prop):IxT→AV→AV→Prop
 | .arr len (some sz),.ptr l o,.int _ n=>∃m:Nat,(0≤n∧n<len)∧m=o+n.toNat*sz∧K (.ptr l m)
 | .sl (some sz),.psl l z len,.int _ n=>∃m:Nat,(0≤n∧n<len∧z=sz)∧m=n.toNat*sz∧K (.ptr l m)
 | ix,x,i=>apc K ix x i
theorem ayh{K}{ix}{x i}(h:azG K ix x i):apc K ix x i∨∃sz l z len k n,ix=.sl (some sz)∧x=.psl l z len∧i=.int k n∧(0≤n∧n<len∧z=sz)∧K (.ptr l (n.toNat*sz)):=by
 unfold azG at h;split at h
 ·obtain⟨m,h1,rfl,h2⟩:=h;exact .inl ⟨h1,h2⟩
 ·grind
 grind
def aEN(τ:Nat→TI)t z off(es:List (List AV))K:=∃i cs,off=i*z∧0<z∧es[i]? =some cs∧gK (loadT τ t cs) K
def aDE z off(es:List (List AV))vs(K:List (List AV)→Prop):=∃i r,off=i*z∧0<z∧i<es.length∧r=es.set i vs∧K r
def aDC z off(es:List (List AV))vs(K:List (List AV)→Prop):=∃i j cs r,off=i*z+j∧j<z∧j+vs.length≤z∧es[i]? =some cs∧r=es.set i (cs.take j++vs++cs.drop (j+vs.length))∧K r
def VH(τ:Nat→TI)(k:Nat)(d:Option Tmp)(ρ:Operand→AV)(σ:Nat→AObj)(K:List Nat→List Wr→Prop):Op→Prop
 | .binOp op t x y _=>ayE τ op t (ρ x) (ρ y) fun v=>K [] (au d v)
 | .nilCheck x=>match ρ x with
  | .flist ns=>aFi ns fun v=>K [] (au d v)
  | v=>gK (ayb v) fun v=>K [] (au d v)
 | .indexAddr t x i=>azG (fun v=>K [] (au d v)) (τ t).ix (ρ x) (ρ i)
 | .index t x i=>match ρ x,ρ i with
  | .str s,.int _ n=>gP (τ t).isStr (aE3 s n fun v=>K [] (au d v)) False
  | _,_=>False
 | .build t parts=>gP (τ t).isStruct (gK (τ t).zero fun z=>gK (jV (lk (τ t).place) z (parts.toList.map fun p=>(p.1,ρ p.2))) fun cs=>K [] (au d (.agg cs))) (axI ρ parts.toList (τ t).zero (fun v=>K [] (au d v)) (τ t).ix)
 | .convert s t x=>match ρ x with
  | .int _ n=>gP (τ s).int.isSome (gK (τ t).int fun k=>K [] (au d (.int k (k.wrap n)))) False
  | .slice es _=>gK (τ s).elem fun e=>gP (decide ((τ e.1).int=some .u8)&&(τ t).isStr) (aDq es fun v=>K [] (au d v)) False
  | _=>False
 | .slice t x lo hi none=>ayV (τ t).isStr (τ t).slT (lo.map ρ) (hi.map ρ) (fun v=>K [] (au d v)) (ρ x)
 | .buildSlice t len parts=>gK (τ t).elem fun e=>gK (τ e.1).zero fun z=>gP (bS (σ k)&&(decide (len*e.2.1≤16777216)&&(decide (len≤16777216)&&decide (z.length=e.2.1))))
   (gP (Tw 0 parts.toList&&Nat.beq parts.toList.length len) (azy ρ e.2.1 parts.toList fun es=>EsK es fun es=>K [k] (.obj k (.tip (len*e.2.1))::au d (.slice es (.tip k e.2.1))))
    (gK (jV (fun i=>some (i*e.2.1,e.2.1)) ((List.replicate len z).flatten) (parts.toList.map fun p=>(p.1,ρ p.2))) fun cs=>EsK (chunks e.2.1 len (cs.map shr)) fun es=>K [k] (.obj k (.tip (len*e.2.1))::au d (.slice es (.tip k e.2.1))))) False
 | .call {callee:=.builtin .len,args,argTypes}=>match args.toList,argTypes.toList with
  | [x],[t]=>ayF (fun v=>K [] (au d v)) (τ t).isStr (τ t).slT (ρ x)
  | _,_=>False
 | .call {callee:=.builtin .append,args,argTypes}=>match args.toList,argTypes.toList with
  | [x,y],[t,t2]=>gK (τ t).elem fun e=>gP (τ t2).isSl (ays σ k e.2.1 e.2.2 d K (ρ x) (ρ y)) False
  | _,_=>False
 | .mapUpdate t m key x=>gK (τ t).smap fun _=>match ρ m,ρ key with
  | .mapr l,.str s=>match σ l with
   | .mp es=>aGn es s (sD (ρ x)) fun r=>K [l] (.obj l (.mp r)::au d (.tup []))
   | _=>False
  | _,_=>False
 | .load t x=>match ρ x with
  | .eptr cs=>gK (loadT τ t cs) fun v=>K [] (au d v)
  | .ptr l off=>match σ l with
   | .box cs=>gK (loadT τ t (cs.drop off)) fun v=>K [l] (au d v)
   | .arr z es=>aEN τ t z off es fun v=>K [l] (au d v)
   | _=>False
  | _=>False
 | .store t x y=>match ρ x with
  | .ptr l off=>gK (dM (ρ y)) fun vs=>match σ l with
   | .box cs=>gP (decide ((τ t).size=some vs.length∧off+vs.length≤cs.length)&&vs.all isScalar) (K [l] (.obj l (.box (cs.take off++vs++cs.drop (off+vs.length)))::au d (.tup []))) False
   | .arr z es=>gP (decide ((τ t).size=some vs.length∧vs.length=z)&&vs.all isScalar) (aDE z off es vs fun r=>K [l] (.obj l (.arr z r)::au d (.tup [])))
     (gP (decide ((τ t).size=some vs.length)&&vs.all isScalar) (aDC z off es vs fun r=>K [l] (.obj l (.arr z r)::au d (.tup []))) False)
   | _=>False
  | _=>False
 | op=>stepT τ k d ρ σ K op
theorem azv{τ}{op}{t}{x y}{K}(h:ayE τ op t x y K):RU τ op t x y K:=by
 unfold ayE at h;split at h
 ·obtain⟨r,g1,rfl,g2⟩:=h;exact⟨g1,g2⟩
 ·rcases bC h with⟨e,b,rfl,g⟩ | ⟨_,g⟩
  ·simp only[RU,Yr,e,KT,gK];simpa using g
  grind
 ·rcases bC h with⟨e,b,rfl,g⟩ | ⟨_,g⟩
  ·simp only[RU,Yr,e,KT,gK];simpa using g
  grind
 ·rcases bC h with⟨e,g⟩ | ⟨_,g⟩
  ·simp at e;subst e;simp only[RU,Yr];exact g.out
  grind
 ·rcases bC h with⟨e,g⟩ | ⟨_,g⟩
  ·simp at e;subst e;simp only[RU,Yr];exact g.out
  grind
 ·rcases bC h with⟨e,g⟩ | ⟨_,g⟩
  ·simp at e;subst e;simp only[RU,Yr];exact g.out
  grind
 ·rename_i hn1 _ _ hn2 hn3 hn4;unfold RU
  grind
theorem Vj{b}{A A' B B'}(h:gP b A B)(h1:A→A')(h2:B→B'):gP b A' B':=by cases b;exact h2 h;exact h1 h
theorem Po{α}{r}{K K':α→Prop}(h:gK r K)(hk:∀x,K x→K' x):gK r K':=by cases r with | none=>exact h | some x=>exact hk x h
theorem axY{K}{isStr}{slT}{v}(h:ayF K isStr slT v):gK (azE isStr slT v) K:=by
 unfold ayF at h;split at h
 ·rcases bC h with⟨e,g⟩ | ⟨_,g⟩
  ·subst e;exact g
  grind
 ·obtain⟨x,e,g⟩:=bN h;subst e;exact g.out
 ·obtain⟨x,e,g⟩:=bN h;subst e;exact g
 grind
theorem azL{σ}{k sz bytes}{d}{K}{x y}(h:ays σ k sz bytes d K x y):auR σ k sz bytes d K x y∨
  ∃l n es ys tg,x=.psl l sz n∧y=.slice ys tg∧σ l=.arr sz es∧bS (σ k)=true∧n≤es.length∧(n+ys.length)*bytes≤140737488355328∧n+ys.length≤140737488355328∧es.all (bU sz)=true∧ys.all (bU sz)=true∧
   K [l,k] (.obj l .dead:: .obj k (.arr sz (es.take n++ys))::au d (.psl k sz (es.take n++ys).length)):=by
 unfold ays at h;split at h
 ·refine .inl ?_;unfold axF at h;split at h
  ·split at h
   ·refine Vj h (fun g=>?_) id;obtain⟨g1,g2⟩:=g;obtain⟨n,e,g⟩:=g2.out;subst e;exact⟨g1,g⟩
   grind
  ·split at h
   ·rename_i hσ;simp only[auR,hσ];refine Vj h (fun g=>?_) id;obtain⟨g1,g2⟩:=g;obtain⟨n,e,g⟩:=g2.out;subst e;exact⟨g1,g⟩
   grind
  grind
 ·rename_i l z n ys tg;unfold axU at h;split at h
  ·rename_i z' es hl;rcases bC h with⟨e1,⟨q1,q2,q3,q4,q5⟩,r,m,rfl,rfl,g⟩ | ⟨_,g⟩
   ·grind
   grind
  grind
 grind
theorem azI{isStr}{slT}{lo hi}{K}{v}(h:ayV isStr slT lo hi K v):cutV isStr slT lo hi K v∨∃l z n m sz,v=.psl l z n∧lo=none∧slT=some sz∧dL hi n n=some m∧K (.psl l z m):=by
 unfold ayV at h;split at h
 ·refine .inl (Vj h (fun g=>?_) id);obtain⟨r,⟨l,hh,g1,g2,rfl⟩,g4⟩:=g;exact⟨l,hh,g1,g2,g4⟩
 ·refine .inl (Po h fun sz g=>?_);obtain⟨r,⟨l,hh,g1,g2,g3,rfl⟩,g4⟩:=g;exact⟨l,hh,g1,g2,g3,g4⟩
 ·rename_i l z n;obtain⟨sz,e,g⟩:=bN h
  grind
 grind
theorem aiI{P}{e:Nat}{k}(h:(TI.of P e).int=some k):P.underlying e=some (.int k):=by
 have:intTy P e=some k:=h;unfold intTy at this
 grind
theorem aBv{P}{t:Nat}(h:(TI.of P t).isStr=true):P.underlying t=some .string:=by
 have:aB.isStrT P t=true:=h;unfold aB.isStrT at this
 grind
theorem azl{P}{t:Nat}{e}(h:(TI.of P t).elem=some e):P.underlying t=some (.slice e.1):=by
 have:lK P t=some e:=h;unfold lK at this;split at this
 ·rename_i e' hu;cases hi:P.info? e' with
  | none=>rw[hi] at this;cases this
  | some i=>
   grind
 ·cases this
theorem auf{P}{s t:Nat}{x}{ρ}{es}{tg}{bs}{e}(hx:ρ x=.slice es tg)(h1:(TI.of P s).elem=some e)(h2:(TI.of P e.1).int=some .u8)(h3:(TI.of P t).isStr=true)(hb:xg es=some bs):aB P (.convert s t x) ρ=some (.str bs):=by
 have hs:=azl h1;have he:=aiI h2;have ht:=aBv h3;have hc:aB.convT P s t=none:=by unfold aB.convT;rw[hs,ht]
 have hbt:aal P s t=true:=by unfold aal;rw[hs,ht];simp only[he]
 simp only[aB,hx,hc,hbt,if_true,hb,qAy]
theorem Zi{P}{k}{o}{ρ}{σ}{K}(h:VH (TI.of P) k o.dst ρ σ K o.op):∃rd ws,aJ P k o ρ σ=some (rd,ws)∧K rd ws:=by
 obtain⟨dst,op,ty,pos,after,guard⟩:=o;dsimp only at h
 suffices hh:stepT (TI.of P) k dst ρ σ K op∨(∃v,aB P op ρ=some v∧K [] (au dst v))∨(∃rd ws,aJ P k ⟨dst,op,ty,pos,after,guard⟩ ρ σ=some (rd,ws)∧K rd ws) by
  rcases hh with hh | ⟨v,h1,h2⟩ | hh
  ·exact ab6 (o:=⟨dst,op,ty,pos,after,guard⟩) hh
  ·exact fM (o:=⟨dst,op,ty,pos,after,guard⟩) h1 h2
  ·exact hh
 unfold VH at h;split at h
 ·refine .inl ?_;exact azv h
 ·refine .inl ?_;simp only[stepT];split at h
  ·rename_i ns hx;obtain⟨cs,r,cells,rfl,rfl,g⟩:=h;rw[hx];exact g
  ·exact h
 ·rename_i t x i;rcases ayh h with g | ⟨sz,l,z,len,kk,n,g1,g2,g3,g4,g5⟩
  ·exact .inl g
  ·refine .inr (.inl ⟨.ptr l (n.toNat*sz),?_,g5⟩);have hix:Ny P t=.sl (some sz):=g1;unfold Ny at hix;split at hix
   ·rename_i e hu;simp only[IxT.sl.injEq] at hix;simp only[aB,g3,hu,g2,hix];rw[if_pos g4]
   ·cases hix
   ·cases hix
 ·refine .inl ?_;simp only[stepT];split at h
  ·rename_i h1 h2;simp only[h1,h2];refine Vj h (fun g=>?_) id;obtain⟨x,g1,rfl,g2⟩:=g;exact⟨g1,g2⟩
  ·exact h.elim
 ·rename_i t parts;by_cases hst:(TI.of P t).isStruct=true
  ·refine .inl ?_;simp only[stepT];rw[hst] at h⊢;exact h
  ·refine .inr (.inl ?_);have hst':(TI.of P t).isStruct=false:=by simpa using hst
   rw[hst'] at h;simp only[gP] at h;have hs2:xR P t=false:=hst';unfold axI at h;split at h
   ·rename_i len sz hix;rcases bC h with⟨e1,g⟩ | ⟨_,g⟩
    ·have hsz:sz=1:=qAj e1;subst hsz;obtain⟨z,hz,g2⟩:=bN g;obtain⟨cs,g3,g4⟩:=ayx _ _ _ g2;have hz':jW P t=some z:=hz;have ha:ad1 P t=some 1:=by
      have hix':Ny P t=.arr len (some 1):=hix;unfold Ny at hix';unfold ad1;split at hix'
      ·cases hix'
      ·rename_i n e hu;simp only[IxT.arr.injEq] at hix';rw[hu];exact hix'.2
      ·cases hix'
     exact⟨.agg cs,by simp only[aB,hs2,qBO,if_false,ha,hz',g3,qAy],g4⟩
    ·exact g.elim
   ·exact h.elim
 ·split at h
  ·rename_i n hx;refine .inl ?_;simp only[stepT,hx];exact h
  ·rename_i es tg hx;refine .inr (.inl ?_);obtain⟨e,h1,h2⟩:=bN h;rcases bC h2 with⟨h3,bs,h4,h5⟩ | ⟨_,g⟩
   ·simp only[qAa,decide_eq_true_eq] at h3;exact⟨.str bs,auf hx h1 h3.1 h3.2 h4,h5⟩
   ·exact g.elim
  ·exact h.elim
 ·rename_i t x lo hi;rcases azI h with g | ⟨l,z,n,m,sz,g1,g2,g3,g4,g5⟩
  ·exact .inl g
  ·refine .inr (.inl ⟨.psl l z m,?_,g5⟩);have hsl:aB.sliceT P t=some sz:=g3;cases lo with
   | some y=>cases g2
   | none=>simp only[aB,g1,hsl,g4]
 ·refine .inl ?_;rename_i t len parts;refine Po h fun e g=>Po g fun z g=>?_;rcases bC g with⟨hb,g⟩ | ⟨_,g⟩
  ·rw[hb];simp only[qAa,decide_eq_true_eq] at hb;obtain⟨_,_,_,hz⟩:=hb;rcases bC g with⟨hc,g⟩ | ⟨_,g⟩
   ·simp only[qAa] at hc;obtain⟨hc1,hc2⟩:=hc;have hlen:=qAj hc2;obtain⟨css,g1,g2,g3,g4⟩:=ayn _ _ g;have hrl:((List.replicate len z).flatten).length=len*e.2.1:=by
     rw[abW (sz:=e.2.1) (fun c hc=>by rw[List.mem_replicate] at hc;rw[hc.2];exact hz)];simp
    have hf:=acr (ρ:=ρ) (sz:=e.2.1) parts.toList 0 css ((List.replicate len z).flatten) hc1 g1 g2 g3 (by rw[hrl,hlen];simp);simp only[gP];rw[hf];have e1:((List.replicate len z).flatten).drop ((0+parts.toList.length)*e.2.1)=[]:=by
     apply List.drop_eq_nil_of_le;rw[hrl,hlen];simp
    rw[e1];simp only[qDv,qAT,qAt,qAr,gK];have e2:chunks e.2.1 len (css.flatten.map shr)=css.map fun c=>c.map shr:=by
     rw[←hlen,←g1,List.map_flatten];have:=chunks_flatten (sz:=e.2.1) (css:=css.map (List.map shr)) (fun c hc=>by
      obtain⟨c',hc',rfl⟩:=qAA.1 hc;rw[qAh];exact g2 c' hc')
     rw[qAh] at this;exact this
    rw[e2];exact g4.out
   ·exact Po g fun cs g=>g.out
  ·exact g.elim
 ·refine .inl ?_;simp only[stepT];split at h
  ·rename_i h1 h2;simp only[h1,h2];exact axY h
  ·exact h.elim
 ·rename_i args argTypes;split at h
  ·rename_i x y t t2 h1 h2;obtain⟨e,he,h3⟩:=bN h;rcases bC h3 with⟨h4,h5⟩ | ⟨_,g⟩
   ·rcases azL h5 with g | ⟨l,n,es,ys,tg,g1,g2,g3,g4,g5,g6,g7,g8,g9,g10⟩
    ·refine .inl ?_;simp only[stepT,h1,h2,he,gK,h4,gP];exact g
    ·refine .inr (.inr ⟨_,_,?_,g10⟩);obtain⟨e1,e2,e3⟩:=e;have he':lK P t=some (e1,e2,e3):=he;have h4':aJ.isSliceT P t2=true:=h4;simp only[aJ,aB,h1,h2,he',h4',g1,g2,g3];rw[if_pos (by refine⟨g4,?_,?_,g5,g6,g7,g8,g9⟩<;>trivial)]
   ·exact g.elim
  ·exact h.elim
 ·refine .inl ?_;simp only[stepT];refine Po h fun e g=>?_;split at g
  ·rename_i h1 h2;simp only[h1,h2];split at g
   ·rename_i h3;simp only[h3];obtain⟨r,g1,rfl,g2⟩:=g;exact⟨g1,g2⟩
   ·exact g.elim
  ·exact g.elim
 ·rename_i t x;split at h
  ·rename_i cs hx;refine .inl ?_;simp only[stepT,hx];exact h
  ·rename_i l off hx;split at h
   ·rename_i cs hl;refine .inl ?_;simp only[stepT,hx,hl];exact h
   ·rename_i z es hl;refine .inr (.inr ?_);obtain⟨i,cs,rfl,hz,hi,g⟩:=h;obtain⟨v,g1,g2⟩:=bN g;rw[adC] at g1;have hlt:=(qAx.1 hi).1;refine⟨[l],au dst v,?_,g2⟩;rw[asP];simp only[al5,hx,hl];rw[qDd _ hz,if_pos ⟨rfl,hlt⟩];have e:es.getD i []=cs:=by simp[List.getD,hi]
    rw[e,g1];rfl
   ·exact h.elim
  ·exact h.elim
 ·rename_i t x y;split at h
  ·rename_i l off hx;obtain⟨vs,g1,g2⟩:=bN h;split at g2
   ·rename_i cs hl;refine .inl ?_;simp only[stepT,hx,g1,hl,gK];exact g2
   ·rename_i z es hl;refine .inr (.inr ?_);rcases bC g2 with⟨g3,g4⟩ | ⟨hne,g⟩
    ·simp only[qAa,decide_eq_true_eq] at g3;obtain⟨i,r,rfl,hz,hi,rfl,g5⟩:=g4;have g3':sizeT P t=some vs.length:=g3.1.1;refine⟨_,_,?_,g5⟩;rw[ac6];simp only[ag5,hx,g1,hl];rw[qDd _ hz,if_pos ⟨g3',g3.1.2,rfl,hi,g3.2⟩]
    ·rcases bC g with⟨g3,g4⟩ | ⟨_,g⟩
     ·simp only[qAa,decide_eq_true_eq] at g3;obtain⟨i,j,cs,r,rfl,hj,hjz,hc,rfl,g5⟩:=g4;have g3':sizeT P t=some vs.length:=g3.1;have hi:i<es.length:=(qAx.1 hc).1;have hd:(i*z+j)/z=i:=by rw[qBD,qDy (by omega),qDu hj,qAP]
      have hmd:(i*z+j)%z=j:=by rw[qBD,qCU,qCe hj]
      have hg:es.getD i []=cs:=by simp[List.getD,hc]
      refine⟨_,_,?_,g5⟩;rw[ac6];simp only[ag5,hx,g1,hl];rw[hd,hmd,hg,if_neg,if_pos ⟨g3',by omega,hi,hjz,g3.2⟩];rintro⟨q1,q2,_⟩;have hne':((decide ((TI.of P t).size=some vs.length∧vs.length=z))&&vs.all isScalar)=true:=by
       rw[g3.2,qBM];exact decide_eq_true ⟨q1,q2⟩
      rw[hne'] at hne;cases hne
     ·exact g.elim
   ·exact g2.elim
  ·exact h.elim
 grind
structure ACallU(P:Program)(f:Nat)(args:List AV)(dst:Option Tmp)(t:List AV)(h:List AObj)(k:Nat)(K:Nat→List Nat→List Wr→Prop):Prop where
 out:YB P f args dst t h k K
def U9(P:Program)(τ:Nat→TI)(ops:List Oper):List Oper→Nat→List Eff→List AV→List AObj→(List Eff→List AV→List AObj→Prop)→Prop
 | [],_,es,t,h,K=>K es.reverse t h
 | o::l,k,es,t,h,K=>grd ops t
   fun t=>match lu o.op with
    | some (f,args)=>YR (fun fid caps=>adj t args.toList fun vs=>fL (vs++caps) fun vs=>ACallU P fid vs o.dst t h k fun k' ro ws=>xY ws t h fun t' h'=>U9 P τ ops l k' (⟨aX ops.toArray o,ro,ws⟩::es) t' h' K) (bA t f)
    | none=>VH τ k o.dst (bA t) (obj? h) (fun rd ws=>xY ws t h fun t' h'=>frN (iW o.op) (U9 P τ ops l k (⟨aX ops.toArray o,rd,ws⟩::es) t' h' K) (U9 P τ ops l (k+1) (⟨aX ops.toArray o,rd,ws⟩::es) t' h' K)) o.op
   (fun t=>xY (au o.dst (.tup [])) t h fun t' h'=>U9 P τ ops l k (⟨aX ops.toArray o,[],au o.dst (.tup [])⟩::es) t' h' K) o.guard
theorem atn{P}{ops}:∀l k es t h K,U9 P (TI.of P) ops l k es t h K→∃es' s',ATr P ops.toArray l es' ⟨t,h⟩ s'∧K (es.reverse++es') s'.tmps s'.heap:=by
 intro l
 induction l with
 | nil=>intro k es t h K hr;exact⟨[],⟨t,h⟩,.nil _,by simpa[U9] using hr⟩
 | cons o l ih=>
  intro k es t h K hr;have fin:∀(e:Eff) (k':Nat),Gs P ops.toArray o ⟨t,h⟩ e→(xY e.ws t h fun t' h'=>U9 P (TI.of P) ops l k' (e::es) t' h' K)→∃es' s',ATr P ops.toArray (o::l) es' ⟨t,h⟩ s'∧K (es.reverse++es') s'.tmps s'.heap:=fun e k' he hw=>by
   rw[agV] at hw;obtain⟨es',s',g1,g2⟩:=ih k' (e::es) _ _ K hw;exact⟨e::es',s',.cons he g1,by simpa using g2⟩
  rcases PX hr with⟨hc,h1⟩ | ⟨hc,h2⟩
  ·cases hcall:lu o.op with
   | none=>
    rw[hcall] at h1;obtain⟨rd,ws,g1,g2⟩:=Zi h1;have g2:∃k',xY ws t h fun t' h'=>U9 P (TI.of P) ops l k' (⟨aX ops.toArray o,rd,ws⟩::es) t' h' K:=by
     cases hn:iW o.op with
     | zero=>simp only[hn] at g2;exact⟨_,g2⟩
     | succ m=>simp only[hn] at g2;exact⟨_,g2⟩
    obtain⟨k',g2⟩:=g2;exact fin ⟨aX ops.toArray o,rd,ws⟩ k' (Jv (s:=⟨t,h⟩) hc g1) g2
   | some p=>
    rw[hcall] at h1;simp only at h1;unfold YR at h1;split at h1
    ·rename_i fid caps g1;simp only[aaR,uN] at h1;replace h1:=h1.out;obtain⟨hok,ρ,ks,aargs,H,res,H',g2,g3,g4,g5,g6⟩:=h1;obtain⟨tt,ho⟩:=vJ hcall;exact fin _ _ (ED (s:=⟨t,h⟩) hc ho g1 hok g2 g3 g4 g5) g6
    grind
  ·exact fin _ k (Ey (s:=⟨t,h⟩) hc) h2
def rep(n)h(K:List AObj→Prop):=fL (h++List.replicate n .res) K
theorem AW.region{P}{τ:Nat→TI}{m id}{l}{dr}{Q}{t}{h}(hτ:τ=TI.of P)(hm:P.follows .mixedOrders=true) r
  (hr:rep r h fun h'=>Yb h 0 fun k=>U9 P τ l.toList l.toList k [] t h' fun es t h=>gP dr (kY l.toList es=true∧Q .normal t h) (Q .normal t h)):AW P m (.region id l dr) Q t h:=by
 subst hτ;unfold rep at hr;simp only[uN,TH] at hr;obtain⟨es,s',h1,h2⟩:=atn _ _ _ _ _ _ hr;have hl:l=l.toList.toArray:=by simp
 rcases bC h2 with⟨rfl,g1,g2⟩ | ⟨rfl,g⟩
 ·exact AW.of (bX.drawn (s:=⟨t,h⟩) r hm h1 g1 g2)
 ·exact AW.of (bX.region (s:=⟨t,h⟩) r h1.steps g)
def aox P rs wk H res H' t h:=
 (∃L,Iy P rs wk L H res H' ⟨t,h⟩)∨∃t' h',Le H.length t h t' h'∧∃L,Iy P rs wk L H res H' ⟨t',h'⟩
def aDd(P:Program)(rs:List ResultVar)(wk:Bool)(H:List AObj)(res:AV)(H':List AObj):QT
 | .normal,t,h=>aox P rs wk H res H' t h
 | .ret,t,h=>aox P rs wk H res H' t h
 | _,_,_=>False
theorem au6{P}{f}{fn}{c}{args}{H H'}{res} wk (hf:P.funcs[f]? =some fn)(hb:fn.body=some c)(hlen:args.length≤fn.ntmps)
  (h:AW P H.length c (aDd P fn.results.toList wk H res H') (args++List.replicate (fn.ntmps - args.length) (.tup [])) H):cZ P f args H res H':=by
 intro κ aj w vs hen hvl hr
 let C:Ctx:={aj:=aj,old:=fun b=>b<w.heap.size∧∀l,at? κ l=some b→¬live (obj? H l),w0:=w,k0:=κ,pvE:=aD aj κ H}
 refine calls_of_wp hf hb ?_;have hsim:Sim C κ ⟨args++List.replicate (fn.ntmps - args.length) (.tup []),H⟩ {tmps:=vs.toArray++Array.replicate (fn.ntmps - vs.toArray.size) undef,defers:=[]} w:=by
  refine⟨rfl,by simp[hvl],?_,hen.klen,cK.refl _,hen.resv,hen.obj,hen.apart,fun l b h1 h2 ho=>ho.2 l h1 h2,hen.bound,fun b o h=>⟨hen.pvlt b o h,fun l hl=>hen.pvdis b o l h hl⟩,fun b hb=>hb.1,fun _ _=>rfl,rfl,rfl,rfl,qAd _,fun _ _ h _=>h,Evo.refl _ _⟩;intro n hn;simp only[qAf,qBz] at hn;by_cases hlt:n<args.length
  ·have e1:(args++List.replicate (fn.ntmps - args.length) (AV.tup [])).getD n .unk=args.getD n .unk:=by simp[List.getD,qAi hlt]
   have e2:(vs.toArray++Array.replicate (fn.ntmps - vs.toArray.size) undef).getD n undef=vs.getD n undef:=by
    rw[qAq,qBL (by simp;omega)];simp[List.getD]
   grind
  ·have e1:(args++List.replicate (fn.ntmps - args.length) (AV.tup [])).getD n .unk=.tup []:=by
    rw[List.getD,qAk (qBa hlt),qBV,if_pos (by omega)];rfl
   have e2:(vs.toArray++Array.replicate (fn.ntmps - vs.toArray.size) undef).getD n undef=undef:=by
    rw[qAq,qBI (by simp;omega),qCB];split<;>rfl
   rw[e1,e2];exact j6
 have hfin:∀(L:List Nat) (s:ASt) (κf:aL) (a:Act) (w':World),Iy P fn.results.toList wk L H res H' s→Sim C κf s a w'→a.defers=[]∧∃v,(results fn a.tmps).run P w'=.ok v w'∧∃v' κ',Ending.returned v=.returned v'∧Leave κ κ' aj H H' w w'∧Rel w' κ' (aD aj κ' H') res v':=by
  intro L s κf a w' hq hs;obtain⟨xs,q1,q2,q3,q4,q5,q6,q7,q8⟩:=hq;refine⟨hs.defers,?_⟩;obtain⟨us,u1,u2,u3⟩:=JH hs _ _ q1
  let κ':aL:=L.map (at? κf)
  let g:=nm L s.heap.length
  have hat:∀i b,at? κ' i=some b→∃l,L[i]? =some l∧at? κf l=some b:=fun i b hb=>by
   simp only[κ'] at hb;rw[at?_map] at hb;cases hi:L[i]? with
   | none=>rw[hi] at hb;cases hb
   | some l=>rw[hi] at hb;exact⟨l,rfl,hb⟩
  have hdown:∀i,at? κ' i=at? κf (g i):=fun i=>by
   simp only[κ',g,nm];rw[at?_map];cases hi:L[i]? with
   | some l=>rfl
   | none=>simp only[qCt];rw[at?_none_of_le (by rw[hs.klen];exact qAd _)]
  have hpv:∀b o,aD aj κ' H' b o→aD aj κf s.heap b o:=by
   rintro b o (h | ⟨i,h1,h2⟩)
   ·exact .inl h
   ·obtain⟨l,hl,hb⟩:=hat i b h1;exact .inr ⟨l,hb,by rw[q8 i l hl,FD];exact h2⟩
  have hrel:∀{x:AV} {u:Value},Rel w' κf (aD aj κf s.heap) (ren g x) u→Rel w' κ' (aD aj κ' H') x u:=fun hx=>
   (hx.Ae hdown _ rfl).mono (Evo.refl _ _) (cK.refl _) (fun b o h _=>hpv b o h)
  have hleave:Leave κ κ' aj H H' w w':=by
   refine⟨by simp[κ',q4],by omega,?_,?_,?_,?_,?_,?_,?_,hs.kH,fun b o h hlt=>hs.pvsub b o (hpv b o h) hlt,hs.os,hs.tape,hs.output⟩
   ·intro i b hb;have hi:i<H.length:=by rw[←hen.klen];exact lt_of_at? hb
    rw[hdown i];have:g i=i:=by simp only[g,nm,q6 i hi];rfl
    rw[this];exact hs.kext i b hb
   ·intro i hi;rw[hdown i];cases h0:L[i]? with
    | none=>simp only[g,nm,h0,qCt];exact at?_none_of_le (by rw[hs.klen];exact qAd _)
    | some l=>
     simp only[g,nm,h0,qAv];exact hs.resv l (by rw[q8 i l h0,hi];rfl)
   ·intro i b h1 h2;obtain⟨l,hl,hb⟩:=hat i b h1;have:=hs.obj l b hb (by rw[q8 i l hl,ig];exact h2);rw[q8 i l hl] at this;exact(this.Ae hdown).mono rfl (Evo.refl _ _) (cK.refl _) (fun b o h _=>hpv b o h)
   ·intro i b h1 h2;obtain⟨l,hl,hb⟩:=hat i b h1;have hno:=hs.own l b hb (by rw[q8 i l hl,ig];exact h2);by_cases hlt:b<w.heap.size
    ·right;apply qAp;intro hne;exact hno ⟨hlt,fun l0 h0 hlv=>hne ⟨l0,h0,hlv⟩⟩
    ·left;omega
   ·intro i j b h1 h2 h3 h4;obtain⟨l,hl,hb⟩:=hat i b h1;obtain⟨l',hl',hb'⟩:=hat j b h2;have e:=hs.apart l l' b hb hb' (by rw[q8 i l hl,ig];exact h3) (by rw[q8 j l' hl',ig];exact h4);subst e;exact(qCo (qAx.1 hl).1 q3).1 (hl.trans hl'.symm)
   ·intro i b h1;obtain⟨l,_,hb⟩:=hat i b h1;exact hs.bound l b hb
   ·intro b hb hnl;exact hs.old b ⟨hb,hnl⟩
  have hresrel:∀(x:AV) (u:Value),Rel w' κf (aD aj κf s.heap) x u→Rel w' κf (aD aj κf s.heap) (if wk then sD x else x) u:=fun x u hx=>by
   cases wk
   ·exact hx
   ·exact hx.sD
  have hrun:∃v,(results fn a.tmps).run P w'=.ok v w'∧Rel w' κf (aD aj κf s.heap) (FZ wk xs) v:=by
   have hm:(fn.results.mapM (RJ a.tmps)).run P w'=.ok us.toArray w':=by
    rw[qCb];simp only[Sem.run_map,u3,Result.andThen_ok]
   rw[MK];simp only[Sem.run_bind,hm,Result.andThen_ok,Sem.run_pure];by_cases h1:us.length=1
   ·match us,h1 with
    | [u],_=>
     match xs,u1 with
     | [x],_=>
      refine⟨u,by simp,?_⟩;have:=u2 0 (by simp);simp only[List.getD,qAD,qAv] at this;exact hresrel x u this
   ·refine⟨.tuple us.toArray,by simp[h1],?_⟩;have hx:FZ wk xs=.tup (if wk then xs.map sD else xs):=by
     match xs,u1 with
     | [],_=>rfl
     | [x],h=>exact(h1 (by simpa using h)).elim
     | _::_::_,_=>rfl
    rw[hx];refine .tup (by split<;>simp[u1]) fun j hj=>?_;have hj':j<xs.length:=by split at hj<;>simpa using hj
    have:=hresrel _ _ (u2 j hj');cases wk
    ·exact this
    ·simp only[if_true] at this⊢;have e:(xs.map sD).getD j .unk=sD (xs.getD j .unk):=by simp[List.getD,qAc hj']
     rw[e];exact this
  obtain⟨v,hv1,hv2⟩:=hrun;rw[q2] at hv2;exact⟨v,hv1,v,κ',rfl,hleave,hrel hv2⟩
 have hkl:C.k0.length≤H.length:=qBj hen.klen;refine wp_mono (h C κ _ w hkl hsim) ?_;rintro e a w' ⟨s,κf,hq,hs⟩;have fin:aox P fn.results.toList wk H res H' s.tmps s.heap→a.defers=[]∧∃v,(results fn a.tmps).run P w'=.ok v w'∧∃v' κ',Ending.returned v=.returned v'∧Leave κ κ' aj H H' w w'∧Rel w' κ' (aD aj κ' H') res v':=by
  rintro(⟨L,hq⟩ | ⟨t',h',hwk,L,hq⟩)
  ·exact hfin L s κf a w' hq hs
  ·obtain⟨κ2,hs2⟩:=hwk C κf a w' hkl hs;exact hfin L _ κ2 a w' hq hs2
 cases e with
 | normal=>exact fin hq
 | ret=>exact fin hq
 | exit id=>exact hq.elim
 | goto l=>exact hq.elim
 | panic c=>exact hq.elim
 | outgrown=>exact hq.elim
theorem ob{α β:Type}{x}{k:α→Option β}{r}(h:x.bind k=some r):∃a,x=some a∧k a=some r:=by
 cases x with
 | none=>cases h
 | some a=>exact⟨a,rfl,h⟩
inductive LR(σ ρ:Type) where
 | nx (s:σ)
 | rt (r:ρ)
def LR.on{σ ρ:Type}(k:σ→Option ρ):LR σ ρ→Option ρ
 | .nx s=>k s
 | .rt r=>some r
@[reducible] def LR.el{σ ρ β:Type}(k:σ→β)(j:ρ→β):LR σ ρ→β
 | .nx s=>k s
 | .rt r=>j r
def idx{α:Type}(l:List α)(i:Int):=if 0≤i then l[i.toNat]? else none
def app{α:Type}b(l ys:List α):=if(l.length+ys.length)*b≤140737488355328∧l.length+ys.length≤140737488355328 then some (l++ys) else none
def mZ(s:List UInt8)(i:Int):=if 0≤i∧i<s.length then some ((s.getD i.toNat 0).toNat:Int) else none
def at5(a b:List UInt8):=if a.length+b.length≤9223372036854775807 then some (a++b) else none
def jE{α:Type}(s:List α)(lo hi:Int):=if 0≤lo∧lo≤hi∧hi≤s.length then some ((s.drop lo.toNat).take (hi.toNat - lo.toNat)) else none
theorem avy{n}(h1: -9223372036854775808≤n)(h2:n≤9223372036854775807):n=IntKind.wrap .i64 n:=by
 simp only[IntKind.wrap,IntKind.signed,IntKind.bits];simp;omega
inductive Bd:Option AV→Int→Int→Prop where
 | none (d:Int):Bd none d d
 | int (k:IntKind) (n d:Int):Bd (some (.int k n)) n d
theorem aE0{s x}{lo hi}{a b}{B:List UInt8→Prop}(hx:jE s a b=some x)(ha:Bd lo a 0)(hb:Bd hi b s.length)(hk:B x):∃r,(∃l h,dL hi s.length s.length=some h∧dL lo 0 h=some l∧r=(s.drop l).take (h - l))∧B r:=by
 unfold jE at hx;split at hx
 ·rename_i h0;cases hx;refine⟨_,⟨a.toNat,b.toNat,?_,?_,rfl⟩,hk⟩
  ·cases hb with
   | none=>simp[dL]
   | int k n=>simp[dL];omega
  ·cases ha with
   | none=>simp[dL]
   | int k n=>simp[dL];omega
 ·cases hx
theorem aEq{α}{l x}{f:α→List AV}{sz}{lo hi}{a b}{B:List (List AV)→Prop}(hx:jE l a b=some x)(ha:Bd lo a 0)(hb:Bd hi b l.length)(hf:∀x,bU sz (f x)=true)(hk:B (x.map f)):
  ∃r,(∃i h,dL hi (l.map f).length (l.map f).length=some h∧dL lo 0 h=some i∧(i<(l.map f).length→((l.map f).getD i []).length=sz)∧r=((l.map f).drop i).take (h - i))∧B r:=by
 unfold jE at hx;split at hx
 ·rename_i h0;cases hx;refine⟨_,⟨a.toNat,b.toNat,?_,?_,?_,?_⟩,hk⟩
  ·cases hb with
   | none=>simp[dL]
   | int k n=>simp[dL];omega
  ·cases ha with
   | none=>simp[dL]
   | int k n=>simp[dL];omega
  ·intro hi;rw[qAh] at hi;have:=hf l[a.toNat];simp only[bU] at this
   grind
  simp_all
 ·cases hx
theorem Nl{α}{l ys r:List α}{b}(h:app b l ys=some r):(l.length+ys.length)*b≤140737488355328∧l.length+ys.length≤140737488355328∧r=l++ys:=by
 unfold app at h
 grind
theorem DZ{α:Type}{f}{sz}(hf:∀x,bU sz (f x)=true)(l:List α):(l.map f).all (bU sz)=true:=by grind
theorem aiW{α}{l ys r}{f:α→List AV}{b sz n}{es es'}{K:List (List AV)→Nat→Prop}(h:app b l ys=some r)(hf:∀x,bU sz (f x)=true)(he:es=l.map f)(he':es'=ys.map f)(hn:n=l.length*sz)
  (hK:K (r.map f) (r.length*sz)):ayz n es es' sz b (EsK (es++es') fun r=>∃n,n=(es++es').length*sz∧K r n):=by
 obtain⟨h1,h2,rfl⟩:=Nl h;subst he;subst he';refine⟨⟨by rw[qAh];exact hn,by simp;exact h1,by simp;exact h2,DZ hf _,DZ hf _⟩,(l++ys).map f,by simp,(l++ys).length*sz,by simp,hK⟩
abbrev u2(l:List AV):=.unk:: .unk::l
abbrev u4 l:=u2 (u2 l)
abbrev u8 l:=u4 (u4 l)
abbrev u16 l:=u8 (u8 l)
abbrev u32 l:=u16 (u16 l)
abbrev u64 l:=u32 (u32 l)
section
variable {h:List AObj}{L:List (Option Nat)}{xs ys:List AV}
theorem VWs.u2{a b}(hv:VWs h L xs ys):VWs h L (Abs.u2 xs) (a::b::ys):=.cons (.unk _) (.cons (.unk _) hv)
theorem VWs.u4{a0 a1 a2 a3}(hv:VWs h L xs ys):VWs h L (Abs.u4 xs) (a0::a1::a2::a3::ys):=.u2 (.u2 hv)
end
theorem Gc{P}{f}{fn}{c}{args}{H H'}{res} wk (hf:P.funcs[f]? =some fn)(hb:fn.body=some c)(hlen:args.length≤fn.ntmps)
  (h:∀Q:QT,(∀e t h,aDd P fn.results.toList wk H res H' e t h→Q e t h)→∀t,FW fn.ntmps args (fun u=>t=u)→AW P H.length c Q t H):cZ P f args H res H':=by
 refine au6 wk hf hb hlen ?_;exact h _ (fun _ _ _ h=>h) _ (by unfold FW;rw[uN])
theorem ar5{P}{τ:Nat→TI}{rs}{wk}{res}{t}{h}(hτ:τ=TI.of P)(hr:∀g,ren g res=res)(hq:resT τ t h rs fun xs=>fAV (FZ wk xs) fun v=>Ends v res):aox P rs wk [] res [] t h:=by
 subst hτ;obtain⟨xs,h1,h2⟩:=MR _ _ hq;rw[Kt] at h2;exact .inl ⟨[],xs,h1,by rw[hr];exact h2,by simp,rfl,by simp,fun i hi=>(by cases hi),fun l hl=>(by cases hl),fun i l hi=>by simp at hi⟩
inductive RetOs(g:Nat→Nat)(h:List AObj):List Nat→List AObj→Prop where
 | nil:RetOs g h [] []
 | cons {l:Nat} {o:AObj} {ls:List Nat} {os:List AObj}:dK g o=obj? h l→RetOs g h ls os→RetOs g h (l::ls) (o::os)
theorem RetOs.len{g}{h}{ls}{os}(hv:RetOs g h ls os):os.length=ls.length:=by
 induction hv with
 | nil=>rfl
 | cons _ _ ih=>simp[ih]
theorem RetOs.get{g}{h}{ls}{os}(hv:RetOs g h ls os):∀i l,ls[i]? =some l→obj? h l=dK g (obj? os i):=by
 induction hv with
 | nil=>intro i l hi;simp at hi
 | cons h1 _ ih=>intro i l hi;cases i with
  | zero=>simp at hi;subst hi;exact h1.symm
  | succ i=>exact ih i l (by simpa using hi)
def aAu n m(L:List Nat):=decide L.Nodup&&decide (n≤L.length)&&(List.range n).all (fun i=>L[i]? ==some i)&&L.all fun l=>decide (l<m)
theorem Ur{P}{τ:Nat→TI}{rs}{wk}{H H'}{res}{t}{h}(hτ:τ=TI.of P) L (hL:aAu H.length h.length L=true)(hO:RetOs (nm L h.length) h L H')
  (hq:resT τ t h rs fun xs=>fAV (FZ wk xs) fun v=>Ends v (ren (nm L h.length) res)):∃L,Iy P rs wk L H res H' ⟨t,h⟩:=by
 subst hτ;obtain⟨xs,h1,h2⟩:=MR _ _ hq;rw[Kt] at h2;simp only[aAu,qAa,qAE,decide_eq_true_eq] at hL;obtain⟨⟨⟨q1,q2⟩,q3⟩,q4⟩:=hL;exact⟨L,xs,h1,h2,q1,hO.len,q2,fun i hi=>by simpa using q3 i (by simpa using hi),q4,hO.get⟩
theorem ayu{P}{rs}{wk}{H H'}{res}{t}{h} t' h' (hw:Le H.length t h t' h')(hq:∃L,Iy P rs wk L H res H' ⟨t',h'⟩):aox P rs wk H res H' t h:=.inr ⟨t',h',hw,hq⟩
end
section
open Go
structure Carrier where
 name:Str
 elems:List Str
structure Decl where
 name:Str
 ty:Ty
structure Env where
 carriers:List Carrier
 names:List Decl
def encI(n:Int):List AV:=[.int .i64 n]
def encS(s:Str):List AV:=[.str s]
def JC(n:Int):List AV:=[.int .u8 n]
def jH(x:Carrier):List AV:=[.str x.name,.slice (x.elems.map encS) .shared]
def gM(x:Decl):List AV:=[.str x.name,.int .i64 x.ty.kind,.str x.ty.name,.slice (x.ty.kids.map mX) .shared]
theorem Nq{α:Type}{f}(hf:∀g x,dG g (f x)=f x) g (l:List α):dV g (l.map f)=l.map f:=by
 rw[Ro,qBh];exact qBo fun x _=>hf g x
theorem avl g (l:List Int):dV g (l.map encI)=l.map encI:=Nq (fun _ _=>rfl) g l
theorem awN g (l:List Str):dV g (l.map encS)=l.map encS:=Nq (fun _ _=>rfl) g l
theorem asJ g (l:List Ty):dV g (l.map mX)=l.map mX:=aBt g l
theorem aAX g (l:List Tm):dV g (l.map jU)=l.map jU:=aBH g l
theorem amM g (l:List Carrier):dV g (l.map jH)=l.map jH:=Nq (fun g x=>by simp only[jH,dG,ren,pG,awN]) g l
theorem avP g (l:List Decl):dV g (l.map gM)=l.map gM:=Nq (fun g x=>by simp only[gM,dG,ren,pG,asJ]) g l
theorem aof g x:dG g (jH x)=jH x:=by simp only[jH,dG,ren,pG,awN]
theorem awx g x:dG g (gM x)=gM x:=by simp only[gM,dG,ren,pG,asJ]
theorem aG5 n:bU 1 (encI n)=true:=rfl
def dw{α:Type}(m:List (Str×α))k:=(m.find? fun p=>p.1==k).map (·.2)
def jX{α:Type}(m:List (Str×α))(k:Str)(v:α):=
 match m with
 | []=>[(k,v)]
 | p::r=>if p.1==k then(k,v)::r else p::jX r k v
def xG{α:Type}(m:List (Str×α))k(v):=if m.length<140737488355328 then some (jX m k v) else none
@[reducible] def ZK{α β:Type}(o:Option α)(Y:β)(X:α→β):β:=match o with | some v=>X v | none=>Y
theorem adr{α} f:∀(m:List (Str×α)) (k:Str),rH (m.map fun p=>(p.1,f p.2)) k=(dw m k).map f
 | [],k=>rfl
 | p::m,k=>by
  have ih:=adr f m k;unfold rH dw at *;simp only[qAu,qBX];cases h:(p.1==k)
  ·exact ih
  ·rfl
theorem ahE{α}(f:α→AV):∀m (k:Str) v,Gg (m.map fun p=>(p.1,f p.2)) k (f v)=(jX m k v).map fun p=>(p.1,f p.2)
 | [],k,v=>rfl
 | p::m,k,v=>by
  simp only[qAu,Gg,jX];split
  ·rfl
  ·rw[ahE f m k v];rfl
theorem axn{α:Type}(l:List α):l=l.take l.length:=by simp
theorem aAY{α}{l l' ys r:List α}{f}{b sz}{K:List (List AV)→Nat→Prop}(h:app b l' ys=some r)(hp:l'=l.take l'.length)(hf:∀x,bU sz (f x)=true)(hK:K (r.map f) r.length):
  (l'.length≤(l.map f).length∧(l'.length+(ys.map f).length)*b≤140737488355328∧l'.length+(ys.map f).length≤140737488355328∧(l.map f).all (bU sz)=true∧(ys.map f).all (bU sz)=true)∧∃r m,r=(l.map f).take l'.length++ys.map f∧m=r.length∧K r m:=by
 obtain⟨h1,h2,rfl⟩:=Nl h;have hle:l'.length≤l.length:=by
  have:=congrArg List.length hp;rw[qAB] at this;omega
 refine⟨⟨by simpa using hle,by simpa using h1,by simpa using h2,DZ hf _,DZ hf _⟩,(l'++ys).map f,(l'++ys).length,?_,by simp,hK⟩;rw[←List.map_take,←hp,qAY]
def unc{α:Type}:List α→Option (α×List α)
 | []=>none
 | x::r=>some (x,r)
theorem ay8 g xs ys:dG g (xs++ys)=dG g xs++dG g ys:=by simp only[sU,qAY]
def upd{α:Type}(l:List α)(i:Int)v:=l.set i.toNat v
theorem K8{α}{l}{n}{x:α}(h:idx l n=some x):0≤n∧n<l.length∧l[n.toNat]? =some x:=by
 unfold idx at h;split at h
 ·rename_i h0;have:=(qAx.1 h).1;exact⟨h0,by omega,h⟩
 ·cases h
end
section
open Go
inductive Val where
 | mk (kind:Int) (n:Int) (name:Str) (kids:List Val)
def Val.kind:Val→Int | .mk k _ _ _=>k
def Val.n:Val→Int | .mk _ n _ _=>n
def Val.name:Val→Str | .mk _ _ s _=>s
def Val.kids:Val→List Val | .mk _ _ _ ks=>ks
mutual
def aN:Val→List AV
 | .mk k n s ks=>[.int .i64 k,.int .i64 n,.str s,.slice (Fw ks) .shared]
def Fw:List Val→List (List AV)
 | []=>[]
 | t::ts=>aN t::Fw ts
end
theorem J2:∀ts,Fw ts=ts.map aN
 | []=>rfl
 | t::ts=>by simp[Fw,J2 ts]
theorem fF t:aN t=[.int .i64 t.kind,.int .i64 t.n,.str t.name,.slice (t.kids.map aN) .shared]:=by
 cases t;simp[aN,J2,Val.kind,Val.n,Val.name,Val.kids]
mutual
theorem MS g:∀t,dG g (aN t)=aN t
 | .mk k n s ks=>by simp only[aN,dG,ren,pG,R6 g ks]
theorem R6(g:Nat→Nat):∀ts,dV g (Fw ts)=Fw ts
 | []=>rfl
 | t::ts=>by simp only[Fw,dV,MS g t,R6 g ts]
end
theorem IU g (ts:List Val):dV g (ts.map aN)=ts.map aN:=by rw[←J2];exact R6 g ts
theorem awW n:bU 4 (aN n)=true:=by rw[fF];rfl
end
section
open Go
structure Bound where
 name:Str
 v:Val
inductive ET where
 | i | u | s | b | car | dec | ty | tm | env | val | bnd | vals | tms
@[reducible] def ET.D:ET→Type
 | .i=>Int | .u=>Int | .s=>Str | .b=>Bool | .car=>Carrier | .dec=>Decl | .ty=>Ty | .tm=>Tm | .env=>Env | .val=>Val | .bnd=>Bound | .vals=>List Val | .tms=>List Tm
def ET.no:ET→Nat
 | .i=>0 | .u=>1 | .s=>2 | .b=>3 | .car=>4 | .dec=>5 | .ty=>6 | .tm=>7 | .env=>8 | .val=>9 | .bnd=>10 | .vals=>11 | .tms=>12
theorem ET.inj:∀x y:ET,x.no=y.no→x=y:=by intro x y h;cases x<;>cases y<;>first | rfl | cases h
def ET.eq?(x y:ET):Option (PLift (x=y)):=if h:x.no=y.no then some ⟨ET.inj x y h⟩ else none
theorem ET.eq_self a:ET.eq? a a=some ⟨rfl⟩:=by unfold ET.eq?;rw[dif_pos rfl]
inductive LT where
 | n (k:IntKind) | b | s | l (e:ET) | t (e:ET) | m (e:ET) | f (e:ET)
@[reducible] def LT.D:LT→Type
 | .n _=>Int | .b=>Bool | .s=>Str | .l e=>List e.D | .t e=>e.D | .m e=>List (Str×e.D) | .f e=>List e.D
def IntKind.no:IntKind→Nat
 | .i8=>0 | .i16=>1 | .i32=>2 | .i64=>3 | .u8=>4 | .u16=>5 | .u32=>6 | .u64=>7
def LT.no:LT→Nat
 | .n k=>8*IntKind.no k | .b=>1 | .s=>2 | .l e=>8*e.no+3 | .t e=>8*e.no+4 | .m e=>8*e.no+5 | .f e=>8*e.no+6
theorem LT.inj(x y:LT)(h:x.no=y.no):x=y:=by
 cases x<;>cases y<;>simp only[LT.no] at h<;>first
  | rfl
  | (exfalso;omega)
  | (rename_i x y;have:x.no=y.no:=(by omega);rw[ET.inj x y this])
  | (rename_i x y;cases x<;>cases y<;>simp only[IntKind.no] at h<;>first | rfl | omega)
  | omega
def LT.eq?(x y:LT):Option (PLift (x=y)):=if h:x.no=y.no then some ⟨LT.inj x y h⟩ else none
def jg:List LT→Type
 | []=>Unit
 | [t]=>t.D
 | t::u::ts=>t.D×jg (u::ts)
structure U where
 t:LT
 x:t.D
def dU:(ts:List LT)→jg ts→List U
 | [],_=>[]
 | [t],x=>[⟨t,x⟩]
 | t::u::ts,x=>⟨t,x.1⟩::dU (u::ts) x.2
def jM{γ:Type}(t:LT)(u:U)(K:t.D→Option γ):Option γ:=match LT.eq? u.t t with
 | some ⟨h⟩=>K (h▸u.x)
 | none=>none
def zD{γ:Type}:(ts:List LT)→List U→(jg ts→Option γ)→Option γ
 | [],us,K=>match us with | []=>K () | _=>none
 | [t],us,K=>match us with | [u]=>jM t u K | _=>none
 | t::t'::ts,us,K=>match us with | u::us=>jM t u fun x=>zD (t'::ts) us fun y=>K (x,y) | []=>none
def ET.cs:ET→List LT
 | .i=>[.n .i64] | .u=>[.n .u8] | .s=>[.s] | .b=>[.b]
 | .car=>[.s,.l .s] | .dec=>[.s,.t .ty] | .ty=>[.n .i64,.s,.l .ty] | .tm=>[.n .i64,.s,.n .i64,.t .ty,.l .tm]
 | .env=>[.l .car,.l .dec] | .val=>[.n .i64,.n .i64,.s,.l .val] | .bnd=>[.s,.t .val] | .vals=>[.l .val] | .tms=>[.l .tm]
def ET.un:(e:ET)→e.D→jg e.cs
 | .i,x=>x | .u,x=>x | .s,x=>x | .b,x=>x
 | .car,x=>(x.name,x.elems) | .dec,x=>(x.name,x.ty) | .ty,x=>(x.kind,x.name,x.kids) | .tm,x=>(x.op,x.name,x.n,x.ty,x.kids)
 | .env,x=>(x.carriers,x.names) | .val,x=>(x.kind,x.n,x.name,x.kids) | .bnd,x=>(x.name,x.v) | .vals,x=>x | .tms,x=>x
def ET.mk:(e:ET)→jg e.cs→e.D
 | .i,x=>x | .u,x=>x | .s,x=>x | .b,x=>x
 | .car,x=>⟨x.1,x.2⟩ | .dec,x=>⟨x.1,x.2⟩ | .ty,x=>.mk x.1 x.2.1 x.2.2 | .tm,x=>.mk x.1 x.2.1 x.2.2.1 x.2.2.2.1 x.2.2.2.2
 | .env,x=>⟨x.1,x.2⟩ | .val,x=>.mk x.1 x.2.1 x.2.2.1 x.2.2.2 | .bnd,x=>⟨x.1,x.2⟩ | .vals,x=>x | .tms,x=>x
def ET.sc:ET→Bool
 | .i=>true | .u=>true | .s=>true | .b=>true | .vals=>true | .tms=>true | _=>false
def ET.sz:ET→Nat
 | .i=>1 | .u=>1 | .s=>1 | .b=>1 | .car=>2 | .dec=>4 | .ty=>3 | .tm=>7 | .env=>2 | .val=>4 | .bnd=>5 | .vals=>1 | .tms=>1
def ET.enc:(e:ET)→e.D→List AV
 | .i=>encI | .u=>JC | .s=>encS | .b=>fun x=>[.bool x] | .car=>jH | .dec=>gM | .ty=>mX | .tm=>jU
 | .env=>fun x=>[.slice (x.carriers.map jH) .shared,.slice (x.names.map gM) .shared] | .val=>aN
 | .bnd=>fun x=>.str x.name::aN x.v | .vals=>fun x=>[.slice (x.map aN) .shared] | .tms=>fun x=>[.slice (x.map jU) .shared]
inductive TV where
 | unk | nilp | nilF | nils
 | lf (t:LT) (x:t.D)
 | nat (n:Nat)
 | ptr (l off:Nat)
 | eptr (cs:List TV)
 | agg (cs:List TV)
 | tup (cs:List TV)
 | func (f:Nat) (cs:List TV)
 | mapr (l:Nat)
 | own (l:Nat)
 | psl (l z:Nat) (c:Option Nat)
 | ap (l:Nat) (i:Int) (z off:Nat)
inductive TObj where
 | box (cs:List TV)
 | own (e:ET) (xs:List e.D)
 | gone (e:ET) (xs:List e.D)
 | mp (e:ET) (xs:List (Str×e.D))
 | arr (e:ET) (xs:List e.D)
 | gon (n:Nat)
 | dead
 | res
noncomputable def nth{α:Type}d(l):=List.rec (motive:=fun _=>Nat→α) (fun _=>d) (fun x _ ih n=>Nat.rec (motive:=fun _=>α) x (fun m _=>ih m) n) l
theorem iD{α} d:∀(l:List α) n,nth d l n=l.getD n d
 | [],_=>rfl
 | _::_,0=>rfl
 | _::xs,n+1=>(iD d xs n).trans (by simp[List.getD])
def ji:(t:LT)→t.D→AV
 | .n k,x=>.int k x
 | .b,x=>.bool x
 | .s,x=>.str x
 | .l e,x=>.slice (List.map e.enc x) .shared
 | .t e,x=>.agg (e.enc x)
 | .m _,_=>.unk
 | .f e,x=>.flist (List.map e.enc x)
def eP(l:Nat):TObj→AV
 | .own e xs=>.slice (xs.map e.enc) (.tip l e.sz)
 | .gone e xs=>.slice (xs.map e.enc) (.tip l e.sz)
 | _=>.unk
def dO(l z:Nat):TObj→AV
 | .arr _ xs=>.psl l z xs.length
 | .gon n=>.psl l z n
 | _=>.unk
def zm(v:TV)(a:AV):=match v with
 | .lf (.t e) x=>e.enc x
 | _=>[a]
mutual
noncomputable def av(H:List TObj):TV→AV
 | .unk=>.unk
 | .nilp=>.nilp
 | .nilF=>.nilFunc
 | .nils=>.slice [] .nils
 | .lf t x=>ji t x
 | .nat n=>.int .i64 n
 | .ptr l o=>.ptr l o
 | .eptr cs=>.eptr (aU H cs)
 | .agg cs=>.agg (aU H cs)
 | .tup cs=>.tup (aR H cs)
 | .func f cs=>.func f (aR H cs)
 | .mapr l=>.mapr l
 | .own l=>eP l (nth .dead H l)
 | .psl l z c=>match c with
  | none=>dO l z (nth .dead H l)
  | some n=>.psl l z n
 | .ap l i z off=>.ptr l (i.toNat*z+off)
noncomputable def aU(H:List TObj):List TV→List AV
 | []=>[]
 | v::vs=>zm v (av H v)++aU H vs
noncomputable def aR(H:List TObj):List TV→List AV
 | []=>[]
 | v::vs=>av H v::aR H vs
end
def ET.one(e:ET)(x:e.D):AV:=match e.sc,e.enc x with
 | true,[v]=>v
 | _,cs=>.agg cs
noncomputable def fC(H:List TObj):TObj→AObj
 | .box cs=>.box (aU H cs)
 | .own e xs=>.tip (xs.length*e.sz)
 | .gone _ _=>.dead
 | .mp e xs=>.mp (xs.map fun p=>(p.1,e.one p.2))
 | .arr e xs=>.arr e.sz (xs.map e.enc)
 | .gon _=>.dead
 | .dead=>.dead
 | .res=>.res
end
section
open Go
def adK(a c:Int):=if c=0 then none else some (a.tmod c)
end
section
open Go
def YK(a c:Int):=if 0≤c∧c≤62 then some (IntKind.wrap .i64 (a*2^c.toNat)) else none
end
section
open Go
noncomputable section
def ET.seg:(e:ET)→e.D→TV
 | .i,x=>.lf (.n .i64) x | .u,x=>.lf (.n .u8) x | .s,x=>.lf .s x | .b,x=>.lf .b x
 | .car,x=>.lf (.t .car) x | .dec,x=>.lf (.t .dec) x | .ty,x=>.lf (.t .ty) x | .tm,x=>.lf (.t .tm) x | .env,x=>.lf (.t .env) x | .val,x=>.lf (.t .val) x
 | .bnd,x=>.lf (.t .bnd) x | .vals,x=>.lf (.l .val) x | .tms,x=>.lf (.l .tm) x
def comps(e:ET)(x:e.D):List TV:=(dU e.cs (e.un x)).map fun u=>.lf u.t u.x
def width:TV→Nat
 | .lf (.t e) _=>e.sz
 | _=>1
def widths:List TV→Nat
 | []=>0
 | v::vs=>width v+widths vs
def scB(H:List TObj):TV→Bool
 | .unk=>false
 | .agg _=>false
 | .tup _=>false
 | .lf (.m _) _=>false
 | .own l=>match nth .dead H l with
  | .own _ _=>true
  | .gone _ _=>true
  | _=>false
 | .psl l _ none=>match nth .dead H l with
  | .arr _ _=>true
  | .gon _=>true
  | _=>false
 | _=>true
def ae9(H:List TObj):List TV→Bool
 | []=>true
 | v::vs=>scB H v&&ae9 H vs
section
variable {γ:Type}
def splitK:Nat→List TV→Nat→(List TV→List TV→Option γ)→Option γ
 | 0,_,_,_=>none
 | f+1,cs,n,K=>match n with
  | 0=>K [] cs
  | m+1=>match cs with
   | []=>none
   | c::r=>bif Nat.ble (width c) (m+1) then splitK f r (m+1 - width c) fun a b=>K (c::a) b else match c with
    | .lf (.t e) x=>splitK f (comps e x++r) (m+1) K
    | _=>none
def tX(cs)off(new)(K:List TV→Option γ):=splitK 99 cs off fun a b=>splitK 99 b (widths new) fun _ r=>K (a++(new++r))
def amf:Nat→List TV→(TV→Option γ)→Option γ
 | 0,_,_=>none
 | f+1,cs,K=>match cs with
  | []=>none
  | c::_=>match c with
   | .lf (.t e) x=>amf f (comps e x) K
   | v=>K v
def Y4:List TV→TV
 | [.lf (.t e) x]=>.lf (.t e) x
 | cs=>.agg cs
def ldK(τ:Nat→TI)(t:TypeId)(off:Nat)(cs:List TV)(K:TV→Option γ):Option γ:=
 match(τ t).agg with
 | some true=>match(τ t).size with
  | some n=>splitK 60 cs off fun _ b=>splitK 60 b n fun c _=>K (Y4 c)
  | none=>none
 | some false=>splitK 60 cs off fun _ b=>amf 60 b K
 | none=>none
def DR(H:List TObj):TV→Option (List TV)
 | .agg cs=>some cs
 | .unk=>none
 | .tup _=>none
 | .lf (.m _) _=>none
 | .nat n=>some [.lf (.n .i64) (n:Int)]
 | .own l=>match nth .dead H l with
  | .own _ _=>some [.own l]
  | .gone _ _=>some [.own l]
  | _=>none
 | .psl l z none=>match nth .dead H l with
  | .arr _ _=>some [.psl l z none]
  | .gon _=>some [.psl l z none]
  | _=>none
 | v=>some [v]
def tL(H:List TObj)(w:Bool)(t:LT)(v:TV)(K:U→Option γ):Option γ:=
 match v with
 | .lf t' x=>K ⟨t',x⟩
 | .nat n=>K ⟨.n .i64,(n:Int)⟩
 | .nils=>bif w then match t with | .l e=>K ⟨.l e,[]⟩ | _=>none else none
 | .nilp=>bif w then match t with | .f e=>K ⟨.f e,[]⟩ | _=>none else none
 | .own l=>bif w then match nth .dead H l with | .own e xs=>K ⟨.l e,xs⟩ | .gone e xs=>K ⟨.l e,xs⟩ | _=>none else none
 | _=>none
def afg(L:LT→List TV→(U→List TV→Option γ)→Option γ):List LT→List TV→(List U→List TV→Option γ)→Option γ
 | [],cs,K=>K [] cs
 | t::ts,cs,K=>L t cs fun u r=>afg L ts r fun us r=>K (u::us) r
def P7(H:List TObj)(w:Bool):Nat→LT→List TV→(U→List TV→Option γ)→Option γ
 | 0,_,_,_=>none
 | f+1,t,cs,K=>match cs with
  | []=>none
  | c::r=>match c with
   | .lf (.t e') x=>match LT.eq? (.t e') t with
    | some _=>K ⟨.t e',x⟩ r
    | none=>match t with
     | .t e=>bif Nat.ble e.sz e'.sz then P7 H w f t (comps e' x++r) K else afg (P7 H w f) e.cs cs fun us r=>zD e.cs us fun y=>K ⟨.t e,e.mk y⟩ r
     | t=>P7 H w f t (comps e' x++r) K
   | v=>match t with
    | .t e=>afg (P7 H w f) e.cs cs fun us r=>zD e.cs us fun y=>K ⟨.t e,e.mk y⟩ r
    | t=>tL H w t v fun u=>K u r
def GJ(H:List TObj)(e:ET)(v:TV)(K:e.D→Option γ):Option γ:=
 match DR H v with
  | some cs=>P7 H true 60 (.t e) cs fun u r=>match r with | []=>jM (.t e) u K | _=>none
  | none=>none
def al4 H(e:ET)(v:TV)(K:e.D→Option γ):=
 match e with
 | .i=>tL H true (.n .i64) v fun u=>jM (.n .i64) u K
 | .u=>tL H true (.n .u8) v fun u=>jM (.n .u8) u K
 | .s=>tL H true .s v fun u=>jM .s u K
 | .b=>tL H true .b v fun u=>jM .b u K
 | .car=>GJ H .car v K | .dec=>GJ H .dec v K | .ty=>GJ H .ty v K | .tm=>GJ H .tm v K | .env=>GJ H .env v K | .val=>GJ H .val v K
 | .bnd=>GJ H .bnd v K
 | .vals=>tL H true (.l .val) v fun u=>jM (.l .val) u K
 | .tms=>tL H true (.l .tm) v fun u=>jM (.l .tm) u K
end
end
end
section
open Go
noncomputable section
inductive TWr where
 | sl (n:Nat) (v:TV)
 | ob (l:Nat) (o:TObj)
 | st (l off:Nat) (vs:List TV)
 | kill (l:Nat)
 | nw (l:Nat) (o:TObj)
 | up (l:Nat) (i:Int) (e:ET) (y:e.D)
def eH(d:Option Tmp)(v:TV):List TWr:=match d with | some n=>[.sl n v] | none=>[]
def aii:Value→TV
 | .int k n=>bif decide (k.min≤n)&&decide (n≤k.max) then .lf (.n k) n else .unk
 | .bool b=>.lf .b b
 | .string s=>bif decide (s.data.toList.length≤9223372036854775807) then .lf .s s.data.toList else .unk
 | .pointer none=>.nilp
 | .slice none 0 0=>.nils
 | .nilFunc=>.nilF
 | _=>.unk
def ayg:Value→TV
 | .agg cs=>.agg (cs.toList.map aii)
 | v=>aii v
def Vw:AV→TV
 | .int k n=>.lf (.n k) n
 | .bool b=>.lf .b b
 | .str s=>.lf .s s
 | .nilp=>.nilp
 | .slice [] .nils=>.nils
 | .nilFunc=>.nilF
 | _=>.unk
def okA:AV→Bool
 | .int _ _=>true
 | .bool _=>true
 | .str _=>true
 | .nilp=>true
 | .slice [] .nils=>true
 | .nilFunc=>true
 | .unk=>true
 | _=>false
def YH:List AV→Bool
 | []=>true
 | a::asz=>okA a&&YH asz
def ZQ:AV→TV
 | .agg cs=>.agg (cs.map Vw)
 | v=>Vw v
def okZ:AV→Bool
 | .agg cs=>YH cs
 | v=>okA v
def lI:TObj→Bool
 | .res=>true
 | _=>false
def eF(regs:List TV):Operand→TV
 | .tmp n=>nth .unk regs n
 | .const v=>ayg v
 | .func f=>.func f []
 | .global _=>.unk
def mem(l:List Nat)(n:Nat):=List.rec (motive:=fun _=>Bool) false (fun x _ ih=>bif Nat.beq x n then true else ih) l
def apl(k:IntKind)(a c:Int):=if 0≤c∧c≤k.bits then some (a.fdiv (2^c.toNat)) else none
def amO(a c:Int):=if c=0 then none else some (IntKind.wrap .i64 (a.tdiv c))
section
variable {γ:Type}
def ame:Int→Bool
 | .ofNat 1=>true
 | _=>false
def LU(v:TV)(K:IntKind→Int→Option γ):=match v with
 | .lf (.n k) x=>K k x
 | .nat n=>K .i64 n
 | _=>none
def ava k k':=Nat.beq (IntKind.no k) (IntKind.no k')
def isNat:TV→Bool
 | .nat _=>true
 | _=>false
def anK p q(op:BinOp)(k:IntKind)(a b:Int)(K:TV→Option γ):=
 match op with
 | .add=>bif p&&ame b then K (.lf (.n k) (a+b)) else K (.lf (.n k) (k.wrap (a+b)))
 | .sub=>bif q&&ame b then K (.lf (.n k) (a - b)) else K (.lf (.n k) (k.wrap (a - b)))
 | .mul=>K (.lf (.n k) (k.wrap (a*b)))
 | .quo=>match k with | .i64=>(amO a b).bind fun x=>K (.lf (.n .i64) x) | _=>none
 | .rem=>(adK a b).bind fun x=>K (.lf (.n k) x)
 | .eql=>K (.lf .b (a==b))
 | .neq=>K (.lf .b (a !=b))
 | .lss=>K (.lf .b (decide (a<b)))
 | .leq=>K (.lf .b (decide (a≤b)))
 | .gtr=>K (.lf .b (decide (b<a)))
 | .geq=>K (.lf .b (decide (b≤a)))
 | .shl=>match k with | .i64=>(YK a b).bind fun x=>K (.lf (.n .i64) x) | _=>none
 | .shr=>(apl k a b).bind fun x=>K (.lf (.n k) x)
 | _=>none
def azk(op:BinOp)(a b:Str)(K:TV→Option γ):=
 match op with
 | .add=>(at5 a b).bind fun x=>K (.lf .s x)
 | .eql=>K (.lf .b (a==b))
 | .neq=>K (.lf .b !a==b)
 | .lss=>K (.lf .b (Op.bytesLess a b))
 | .leq=>K (.lf .b (Op.bytesLess a b ||a==b))
 | .gtr=>K (.lf .b !(Op.bytesLess a b ||a==b))
 | .geq=>K (.lf .b !Op.bytesLess a b)
 | _=>none
def aAo(op:BinOp)(a b:Bool)(K:TV→Option γ):=match op with
 | .eql=>K (.lf .b (a==b))
 | .neq=>K (.lf .b !a==b)
 | _=>none
def ay7(τ:Nat→TI)p o(op:BinOp)(t:TypeId)(x y:TV)(K:TV→Option γ):=
 match y with
 | .nilp=>bif (τ t).isPtr then match op,x with
  | .eql,.nilp=>K (.lf .b true)
  | .neq,.nilp=>K (.lf .b false)
  | .eql,.ptr _ _=>K (.lf .b false)
  | .neq,.ptr _ _=>K (.lf .b true)
  | .eql,.eptr _=>K (.lf .b false)
  | .neq,.eptr _=>K (.lf .b true)
  | .eql,.lf (.f _) l=>K (.lf .b (false !=List.isEmpty l))
  | .neq,.lf (.f _) l=>K (.lf .b (true !=List.isEmpty l))
  | _,_=>none else none
 | .lf .s b=>match x with
  | .lf .s a=>azk op a b K
  | _=>none
 | .lf .b b=>match x with
  | .lf .b a=>bif (τ t).isBool then aAo op a b K else none
  | _=>none
 | y=>LU x fun k a=>LU y fun k' b=>bif ava k k' then anK (p&&o) (isNat x&&o) op k a b K else none
def afe(H:List TObj)(v:TV)(K:(e:ET)→List e.D→Option γ):Option γ:=
 match v with
 | .lf (.l e) xs=>K e xs
 | .own l=>match nth .dead H l with
  | .own e xs=>K e xs
  | .gone e xs=>K e xs
  | _=>none
 | _=>none
def Oa(v:Option TV)(d:Int)(K:Int→Option γ):=match v with
 | none=>K d
 | some v=>LU v fun _ n=>K n
def agR(H:List TObj)(place:Nat→Option (Nat×Nat)):List (Nat×TV)→List TV→(List TV→Option γ)→Option γ
 | [],cs,K=>K cs
 | (i,v)::ps,cs,K=>match place i with
  | some (off,sz)=>match DR H v with
   | some new=>bif Nat.beq (widths new) sz then splitK 99 cs off fun a b=>splitK 99 b sz fun _ d=>agR H place ps (a++(new++d)) K else none
   | none=>none
  | none=>none
def aon(H:List TObj)(e:ET):Nat→List (Nat×TV)→(List e.D→Option γ)→Option γ
 | _,[],K=>K []
 | i,p::ps,K=>bif Nat.beq p.1 i then al4 H e p.2 fun x=>aon H e (i+1) ps fun xs=>K (x::xs) else none
def YD(e:ET)(sz:Nat):=Nat.beq e.sz sz
def atK(n:Int):Nat→Nat→(Nat→Option γ)→Option γ
 | 0,_,_=>none
 | m+1,q,K=>cond (n==q) (K q) (atK n m (q+1) K)
def isZ:Int→Bool
 | .ofNat 0=>true
 | _=>false
def mkS(bytes:Nat)(c:Int):=if 0≤c∧bytes*c≤281474976710656∧c≤140737488355328 then some () else none
def Dm(len:Nat)(b:Int):=if 0≤b∧b≤len then some b.toNat else none
def NA:TV→TV
 | .nat n=>.lf (.n .i64) (n:Int)
 | v=>v
def dA(τ:Nat→TI)(θ:Nat→Option ET)(up:List Nat)(k:Nat)(d:Option Tmp)(regs:List TV)(H:List TObj)(op:Op)(K:List Nat→List TWr→Option γ):Option γ:=
 match op with
 | .move x=>K [] (eH d (eF regs x))
 | .assign x=>K [] (eH d (eF regs x))
 | .pick c x y=>match eF regs c with
  | .lf .b b=>cond b (K [] (eH d (eF regs x))) (K [] (eH d (eF regs y)))
  | _=>none
 | .nilCheck x=>match eF regs x with
  | .lf (.f e) l=>(unc l).bind fun p=>K [] (eH d (.eptr [e.seg p.1,.lf (.f e) p.2]))
  | .ptr l o=>K [] (eH d (.ptr l o))
  | .eptr cs=>K [] (eH d (.eptr cs))
  | .func f cs=>K [] (eH d (.func f cs))
  | _=>none
 | .binOp op t x y _=>ay7 τ (match x with | .tmp i=>mem up i | _=>false) (match y with | .const _=>true | _=>false) op t (eF regs x) (eF regs y) fun v=>K [] (eH d v)
 | .unOp op _ x=>match op,eF regs x with
  | .not,.lf .b b=>K [] (eH d (.lf .b (!b)))
  | .neg,.lf (.n k') n=>K [] (eH d (.lf (.n k') (k'.wrap ((0:Int) - (show Int from n)))))
  | _,_=>none
 | .fieldAddr s x f=>match lk (τ s).field f with
  | some (fo,_)=>match eF regs x with
   | .ptr l o=>K [] (eH d (.ptr l (o+fo)))
   | .eptr cs=>splitK 60 cs fo fun _ b=>K [] (eH d (.eptr b))
   | .ap l i z o=>K [] (eH d (.ap l i z (o+fo)))
   | _=>none
  | none=>none
 | .field s x f=>match lk (τ s).field f with
  | some (fo,t)=>match eF regs x with
   | .agg cs=>ldK τ t fo cs fun v=>K [] (eH d (NA v))
   | .lf (.t e) y=>ldK τ t fo [.lf (.t e) y] fun v=>K [] (eH d (NA v))
   | _=>none
  | none=>none
 | .indexAddr t x i=>match(τ t).ix with
  | .sl (some sz)=>LU (eF regs i) fun _ n=>match eF regs x with
   | .psl l z none=>match nth .dead H l with
    | .arr _ xs=>bif Nat.beq z sz then(idx xs n).bind fun _=>K [] (eH d (.ap l n z 0)) else none
    | _=>none
   | v=>afe H v fun e xs=>bif YD e sz then(idx xs n).bind fun y=>K [] (eH d (.eptr [e.seg y])) else none
  | .arr len (some sz)=>match eF regs x with
   | .ptr l o=>LU (eF regs i) fun _ n=>atK n len 0 fun q=>K [] (eH d (.ptr l (o+q*sz)))
   | _=>none
  | _=>none
 | .index t x i=>match eF regs x with
  | .lf .s s=>bif (τ t).isStr then LU (eF regs i) fun _ n=>(mZ s n).bind fun y=>K [] (eH d (.lf (.n .u8) y)) else none
  | _=>none
 | .extract x i=>match eF regs x with
  | .tup vs=>bif Nat.blt i vs.length then K [] (eH d (NA (nth .unk vs i))) else none
  | _=>none
 | .slice t x lo hi none=>match eF regs x with
  | .lf .s s=>bif (τ t).isStr then Oa (lo.map (eF regs)) 0 fun a=>Oa (hi.map (eF regs)) (s.length:Int) fun b=>(jE s a b).bind fun y=>K [] (eH d (.lf .s y)) else none
  | .psl l z none=>match nth .dead H l,(τ t).slT,lo with
   | .arr _ xs,some _,none=>Oa (hi.map (eF regs)) (xs.length:Int) fun b=>(Dm xs.length b).bind fun c=>K [] (eH d (.psl l z (some c)))
   | _,_,_=>none
  | v=>match(τ t).slT with
   | some sz=>afe H v fun e xs=>bif YD e sz then Oa (lo.map (eF regs)) 0 fun a=>Oa (hi.map (eF regs)) (xs.length:Int) fun b=>(jE xs a b).bind fun y=>K [] (eH d (.lf (.l e) y)) else none
   | none=>none
 | .build t parts=>bif (τ t).isStruct then(match(τ t).zero with
  | some z=>bif YH z then agR H (lk (τ t).place) (parts.toList.map fun p=>(p.1,eF regs p.2)) (z.map Vw) fun cs=>K [] (eH d (Y4 cs)) else none
  | none=>none) else(match(τ t).ix,(τ t).zero with
  | .arr _ (some sz),some z=>bif YH z then agR H (fun i=>some (i*sz,sz)) (parts.toList.map fun p=>(p.1,eF regs p.2)) (z.map Vw) fun cs=>K [] (eH d (Y4 cs)) else none
  | _,_=>none)
 | .makeFunc (.func f) first cap=>bif Nat.beq first.size 0 then K [] (eH d (.func f (cap.toList.map fun x=>NA (eF regs x)))) else none
 | .load t x=>match eF regs x with
  | .eptr cs=>ldK τ t 0 cs fun v=>K [] (eH d (NA v))
  | .ptr l off=>match nth .dead H l with
   | .box cs=>ldK τ t off cs fun v=>K [l] (eH d (NA v))
   | _=>none
  | .ap l i z off=>match nth .dead H l with
   | .arr e xs=>bif Nat.beq z e.sz&&(Nat.beq off 0&&Nat.ble 1 z) then(idx xs i).bind fun y=>ldK τ t 0 [e.seg y] fun v=>K [l] (eH d (NA v)) else none
   | _=>none
  | _=>none
 | .convert s t x=>match eF regs x with
  | .lf (.n _) n=>bif (τ s).int.isSome then(match(τ t).int with | some k=>K [] (eH d (.lf (.n k) (k.wrap n))) | none=>none) else none
  | .nat n=>bif (τ s).int.isSome then(match(τ t).int with | some k=>K [] (eH d (.lf (.n k) (k.wrap (n:Int)))) | none=>none) else none
  | _=>none
 | .store t x y=>match eF regs x with
  | .ptr l off=>match DR H (eF regs y),(τ t).size with
   | some new,some sz=>match nth .dead H l with
    | .box cs=>bif (Nat.beq (widths new) sz&&Nat.ble (off+sz) (widths cs))&&ae9 H new then K [l] (.st l off new::eH d (.tup [])) else none
    | _=>none
   | _,_=>none
  | .ap l i z off=>match DR H (eF regs y),(τ t).size with
   | some new,some sz=>match nth .dead H l with
    | .arr e xs=>bif (Nat.beq (widths new) sz&&(Nat.beq z e.sz&&(Nat.ble 1 sz&&Nat.ble (off+sz) z)))&&ae9 H new then(idx xs i).bind fun x=>tX (comps e x) off new fun cs=>P7 H false 60 (.t e) cs fun u r=>match r with
     | []=>jM (.t e) u fun y=>K [l] (.up l i e y::eH d (.tup []))
     | _=>none else none
    | _=>none
   | _,_=>none
  | _=>none
 | .alloc t=>match(τ t).zero with
  | some z=>bif YH z&&lI (nth .dead H k) then K [k] (.nw k (.box (z.map Vw))::eH d (.ptr k 0)) else none
  | none=>none
 | .box _ x=>match DR H (eF regs x) with
  | some cs=>bif lI (nth .dead H k) then K [k] (.nw k (.box cs)::eH d (.ptr k 0)) else none
  | none=>none
 | .makeMap t none=>match(τ t).smap with
  | some e=>match θ e with
   | some e=>bif lI (nth .dead H k) then K [k] (.nw k (.mp e [])::eH d (.mapr k)) else none
   | none=>none
  | none=>none
 | .buildSlice t len parts=>match(τ t).elem with
  | some (et,sz,_)=>match θ et,(τ et).zero with
   | some e,some z=>bif (Nat.beq parts.toList.length len&&(YD e sz&&lI (nth .dead H k)))&&(Nat.beq z.length sz&&(Nat.ble (len*sz) 16777216&&Nat.ble len 16777216)) then aon H e 0 (parts.toList.map fun p=>(p.1,eF regs p.2)) fun xs=>K [k] (.nw k (.own e xs)::eH d (.own k)) else none
   | _,_=>none
  | none=>none
 | .makeSlice t x y=>match(τ t).elem with
  | some (et,sz,bytes)=>match θ et,(τ et).zero with
   | some e,some z=>LU (eF regs x) fun _ l=>LU (eF regs y) fun _ c=>bif isZ l&&(YD e sz&&(Nat.beq z.length sz&&lI (nth .dead H k))) then(mkS bytes c).bind fun _=>K [k] (.nw k (.arr e [])::eH d (.psl k sz none)) else none
   | _,_=>none
  | none=>none
 | .call {callee:=.builtin .len,args,argTypes}=>match args.toList,argTypes.toList with
  | [x],[t]=>match eF regs x with
   | .lf .s s=>bif (τ t).isStr then K [] (eH d (.nat s.length)) else none
   | .nils=>bif (τ t).slT.isSome then K [] (eH d (.nat 0)) else none
   | .psl l _ none=>match nth .dead H l with
    | .arr _ xs=>bif (τ t).slT.isSome then K [] (eH d (.nat xs.length)) else none
    | _=>none
   | v=>bif (τ t).slT.isSome then afe H v fun _ xs=>K [] (eH d (.nat xs.length)) else none
  | _,_=>none
 | .call {callee:=.builtin .min,args,argTypes:=_}=>match args.toList with
  | [x,y]=>LU (eF regs x) fun k a=>LU (eF regs y) fun k' b=>bif ava k k' then K [] (eH d (.lf (.n k) (if b<a then b else a))) else none
  | _=>none
 | .call {callee:=.builtin .append,args,argTypes}=>match args.toList,argTypes.toList with
  | [x,y],[t,t2]=>match(τ t).elem with
   | some (et,sz,bytes)=>match θ et with
    | some e=>bif YD e sz&&((τ t2).isSl&&lI (nth .dead H k)) then tL H true (.l e) (eF regs y) fun u=>jM (.l e) u fun ys=>(match eF regs x with
     | .nils=>(app bytes ([]:List e.D) ys).bind fun r=>K [k] (.nw k (.own e r)::eH d (.own k))
     | .own l=>match nth .dead H l with
      | .own e' xs=>jM (.l e) ⟨.l e',xs⟩ fun xs=>(app bytes xs ys).bind fun r=>K [l,k] (.kill l:: .nw k (.own e r)::eH d (.own k))
      | _=>none
     | .psl l z none=>match nth .dead H l with
      | .arr e' xs=>bif Nat.beq z sz then jM (.l e) ⟨.l e',xs⟩ fun xs=>(app bytes xs ys).bind fun r=>K [l,k] (.kill l:: .nw k (.arr e r)::eH d (.psl k z none)) else none
      | _=>none
     | _=>none) else none
    | none=>none
   | none=>none
  | _,_=>none
 | .lookup t m key ok=>match(τ t).smap,eF regs m,eF regs key with
  | some et,.mapr l,.lf .s s=>match nth .dead H l,(τ et).zav with
   | .mp e xs,some z=>bif okZ z then ZK (dw xs s) (K [l] (eH d (bif ok then .tup [ZQ z,.lf .b false] else ZQ z))) fun y=>K [l] (eH d (bif ok then .tup [e.seg y,.lf .b true] else e.seg y)) else none
   | _,_=>none
  | _,_,_=>none
 | .mapUpdate t m key x=>match(τ t).smap,eF regs m,eF regs key with
  | some _,.mapr l,.lf .s s=>match nth .dead H l with
   | .mp e xs=>al4 H e (eF regs x) fun y=>(xG xs s y).bind fun r=>K [l] (.ob l (.mp e r)::eH d (.tup []))
   | _=>none
  | _,_,_=>none
 | _=>none
end
end
end
section
def aG{σ δ:Type}(body:(σ→Option δ)→σ→Option δ)n:=Nat.rec (motive:=fun _=>σ→Option δ) (fun _=>none) (fun _ ih=>body ih) n
inductive PZ(α ζ:Type) where
 | ok (x:α)
 | er (e:Int) (z:ζ)
def PZ.el{α ζ β:Type}(f:α→Option β)(g:Int→ζ→Option β):PZ α ζ→Option β
 | .ok x=>f x
 | .er e z=>g e z
end
end Abs
end Go.Proofs.YtneeginmfjageaaGreat
