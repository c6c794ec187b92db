/-
  Operators, as the evaluator applies them. Conditions: sets are ascending and have at most 256 elements, numbers are within the bounds; lemmas without a program.
-/
import Derived.Test.YtneeginmfjageaaGreatCP14ox9827f0
set_option linter.all false
namespace Go.Proofs.YtneeginmfjageaaGreat
namespace Abs
open Go
def pz(r:VR):PZ Val Unit:=match r with| .ok v=>.ok v| .er e=>.er e ()
theorem Ev.pz{f:Nat→Option (PZ Val Unit)}{r:VR}(h:Ev f (pz r)):Ev (fun n=>(f n).bind (PZ.el (fun x=>some (.ok x)) (fun e _=>some (.er e ())))) (Abs.pz r):=by
 refine Ev.bind h ?_;cases r<;>exact Ev.ret _
theorem Ev.cnd{α β:Type}(P:β→α){b:Bool}{f g:Nat→Option α}{x y:β}(h1:b=true→Ev f (P x))(h2:b=false→Ev g (P y)):Ev (fun n=>cond b (f n) (g n)) (P (cond b x y)):=by
 cases b
 ·grind
 grind
theorem int_eq(n:Nat)(x:Int):jK n x=some (pz (gM x)):=by
 unfold jK gM ab1;cases decide (1000000000<x)<;>cases decide (x< -1000000000)<;>rfl
theorem M5(x:Int):Ev (fun n=>jK n x) (pz (gM x)):=Ev.of fun n=>int_eq n x
theorem CQ(b:Bool):Ev (fun n=>bN n b) (aO b):=by cases b<;>exact Ev.ret _
def EU(x:Int):Prop:= -1000000000≤x∧x≤1000000000
theorem aGO{a b:Int}(ha:EU a)(hb:EU b): -1000000000000000000≤a*b∧a*b≤1000000000000000000:=by
 have h1:a.natAbs≤1000000000:=by have:=ha.1;have:=ha.2;omega
 have h2:b.natAbs≤1000000000:=by have:=hb.1;have:=hb.2;omega
 have h3:(a*b).natAbs≤1000000000*1000000000:=by rw[Int.natAbs_mul];exact qCV h1 h2
 omega
theorem aBM{op a b:Int}(ha:EU a)(hb:EU b):Ev (fun n=>JX n op a b) (pz (ai1 op a b)):=by
 have a1:=ha.1;have a2:=ha.2;have b1:=hb.1;have b2:=hb.2;refine Ev.cnd pz (fun _=>?_) fun _=>Ev.cnd pz (fun _=>?_) fun _=>Ev.cnd pz (fun _=>?_) fun _=>Ev.cnd pz (fun _=>?_) fun _=>Ev.cnd pz (fun _=>Ev.cnd pz (fun _=>Ev.ret _) fun h=>?_) fun _=>?_
 ·rw[Int.zero_sub,wrap64 (by omega) (by omega)];exact Ev.pz (M5 _)
 ·rw[wrap64 (by omega) (by omega)];exact Ev.pz (M5 _)
 ·rw[wrap64 (by omega) (by omega)];exact Ev.pz (M5 _)
 ·have:=aGO ha hb;rw[wrap64 (by omega) (by omega)];exact Ev.pz (M5 _)
 ·have hz:¬b=0:=by simpa using h
  have hd:(Int.tdiv a b).natAbs≤1000000000:=by
   rw[Int.natAbs_tdiv];exact qAs (Nat.div_le_self a.natAbs b.natAbs) (by omega)
  refine Ev.bind (a:=Int.tdiv a b) (Ev.of fun _=>?_) (Ev.pz (M5 _));unfold abO;rw[if_neg hz,wrap64 (by omega) (by omega)]
 ·refine Ev.bind (a:=decide (a<0) ||decide (b<1)) ?_ (Ev.cnd pz (fun _=>Ev.ret _) fun h=>?_)
  ·cases decide (a<0)<;>exact Ev.ret _
  ·have hz:¬b=0:=by rw[qBL]at h;have:=of_decide_eq_false h.2;omega
   refine Ev.bind (a:=Int.tmod a b) (Ev.of fun _=>?_) (Ev.pz (M5 _));unfold Vr
   grind
theorem aqR{l:List Val}(hl:l.length*56≤140737488355328):Ev (fun n=>Ab n l) (pz (bF l)):=by
 unfold Ab kH bF;rw[dQ (by simpa using hl)];exact Ev.cnd pz (fun _=>Ev.ret _) fun _=>Ev.ret _
def apn(n:Nat):LR (List Val) (PZ Val Unit)→Option (PZ Val Unit):=LR.el (fun s1=>((Ab n s1).bind (PZ.el (fun x1=>some (.ok x1)) (fun e1 _=>some (.er e1 ()))))) (fun r=>some r)
def EvS(f:Nat→Option (LR (List Val) (PZ Val Unit)))(r:xU):Prop:=Ev (fun n=>(f n).bind (apn n)) (pz (r.thn bF))
theorem EvS.cnd{b:Bool}{f g:Nat→Option (LR (List Val) (PZ Val Unit))}{x y:xU}(h1:b=true→EvS f x)(h2:b=false→EvS g y):EvS (fun n=>cond b (f n) (g n)) (cond b x y):=by
 cases b
 ·grind
 grind
theorem EvS.er:EvS (fun _=>some (.rt (.er 11 ()))) (.er 11):=Ev.ret _
theorem EvS.of{F:Nat→Option (LR (List Val) (PZ Val Unit))}{l:List Val}(h:Ev F (.nx l))(hl:l.length*56≤140737488355328):EvS F (.ok l):=by
 have hk:Ev (fun n=>apn n (.nx l)) (pz (bF l)):=Ev.pz (aqR hl);exact Ev.bind (g:=fun x n=>apn n x) h hk
theorem EvS.lp{f:Nat→Option (LR (List Val) (PZ Val Unit))}{l:List Val}(h:Ev f (.nx l))(hl:l.length≤1000000):EvS (fun n=>(f n).bind (LR.el (fun s=>some (.nx s)) (fun r=>some (.rt r)))) (.ok l):=EvS.of (Ev.bind h (Ev.ret _)) (by omega)
theorem EvS.ok{f:Nat→Option (List Val)}{l:List Val}(h:Ev f l)(hl:l.length≤1000000):EvS (fun n=>(f n).bind fun x=>some (.nx x)) (.ok l):=EvS.of (Ev.bind h (Ev.ret _)) (by omega)
theorem anS(a b:List Val)(h:a.length+b.length≤1000000):Ev (fun n=>qg n [a,b]) (a++b):=by
 refine⟨4,fun n hn=>?_⟩;obtain⟨j,rfl⟩:∃j,n=j+3:=⟨n - 3,by omega⟩;have h1:xJ (j+3) [a,b] (j+3) (0,0)=some (.nx ((a.length:Int)+b.length)):=by
  show mH (j+3) [a,b] (mH (j+3) [a,b] (mH (j+3) [a,b] (xJ (j+3) [a,b] j))) (0,0)=_;unfold mH;simp only[qAp,qAA,show decide ((0:Int)<((0+1+1:Nat):Int))=true from rfl,show idx [a,b] 0=some a from rfl,show idx [a,b] (0+1)=some b from rfl,qAb];rw[wrap64 (by omega) (by omega),decide_eq_false (by omega)];simp;rw[wrap64 (by omega) (by omega),decide_eq_false (by omega)]
  grind
 have h2:xL (j+3) [a,b] (j+3) ([],0)=some (.nx (a++b)):=by
  show mF (j+3) [a,b] (mF (j+3) [a,b] (mF (j+3) [a,b] (xL (j+3) [a,b] j))) ([],0)=_;unfold mF;simp only[show idx [a,b] 0=some a from rfl,show idx [a,b] (0+1)=some b from rfl,qAb];rw[dQ (by simp;omega)];simp;rw[dQ (by omega)];rfl
 unfold qg Fw
 grind
theorem anq(f:Nat)(b:Val)(hb:EU b.n):∀(k:Nat) (x:Int) (acc:List Val),EU x→x+k=b.n+1→(acc.length+k)≤1000000→∀j,k+1≤j→Rh f b j (acc,x)=some (.nx (acc++ints x k))
 |0,x,acc,_,h,_,j,hj=>by
  obtain⟨j,rfl⟩:∃q,j=q+1:=⟨j - 1,by omega⟩;show nH f b _ _=_;unfold nH;rw[decide_eq_false (by simp;omega)];simp[ints]
 |k+1,x,acc,hx,h,hl,j,hj=>by
  obtain⟨j,rfl⟩:∃q,j=q+1:=⟨j - 1,by omega⟩;have x1:=hx.1;have x2:=hx.2;have b2:=hb.2;show nH f b (Rh f b j) _=_;unfold nH;rw[decide_eq_true (by simp;omega)];have hi:gM x=.ok (iY x):=by
   unfold gM ab1
   grind
  simp only[int_eq,hi,qAb,pz,PZ.el];rw[dQ (by simp;omega)];simp;rw[wrap64 (by omega) (by omega)];cases k with
  |zero=>
   obtain⟨i,rfl⟩:∃q,j=q+1:=⟨j - 1,by omega⟩;show nH f b _ _=_;unfold nH;rw[decide_eq_false (by simp;omega)];rfl
  |succ k=>
   rw[anq f b hb (k+1) (x+1) (acc++[iY x]) ⟨by omega,by omega⟩ (by omega) (by simp;omega) j (by omega)];simp[ints]
theorem ag1:∀(k:Nat) (x:Int),(ints x k).length=k
 |0,_=>rfl
 |k+1,x=>by rw[ints,qAp,ag1 k]
theorem EA(p:Val→Bool){l:List Val}(h:dO l):(l.filter p).length≤256:=qAs (qCJ p l) h.2
theorem fI.F8{l:List Val}(h:fI l)(p:Val→Bool):fI (l.filter p):=fun x hx=>h x (qBa.1 hx).1
theorem Y0{β:Type}{a b:List Val}(g:Val→List β)(ha:dO a)(hg:∀x∈a,(g x).length≤256):(a.flatMap g).length≤65536:=by
 have:=iF g 256 a hg;have h2:=qAQ 256 ha.2;omega
theorem Ev.aw2{f:Nat→Option Bool}{b:Bool}(h:Ev f b):Ev (fun n=>(f n).bind fun(x2:Bool)=>some (!x2)) (!b):=Ev.bind h (Ev.ret _)
theorem Ev.same{f:Nat→Option Bool}{b:Bool}(h:Ev f b):Ev (fun n=>(f n).bind fun(x2:Bool)=>some x2) b:=Ev.bind h (Ev.ret _)
theorem aEJ(a b:Val)(ha:dO a.kids)(hb:dO b.kids):Ev (fun n=>abg n a b n (([]:List Val),0)) (.nx (a.kids.flatMap fun x=>b.kids.map (aG x))):=by
 have:=Y0 (b:=b.kids) (fun x=>b.kids.map (aG x)) ha (fun x _=>by simpa using hb.2);refine mG (ρ:=PZ Val Unit) a.kids (fun n=>Gz n a b) (fun i s=>(s,i)) _ 1000000 (by omega) (fun n rec s=>by unfold Gz;rw[at_end];rfl) (fun pre x suf s e hbd=>?_) (s0:=[]) (by simp only[qAA];omega);obtain⟨N,h⟩:=mG (ρ:=PZ Val Unit) b.kids (fun n=>Gt n b x) (fun i s=>(s,i)) (fun y=>[aG x y]) _ hbd (fun n rec s=>by unfold Gt;rw[at_end];rfl) (fun p2 y s2 s e2 hbd=>⟨0,fun n hn rec=>by
  unfold Gt;rw[(bg e2).1];simp only[(bg e2).2,qAb];rw[dQ (by simpa using hbd)];rfl⟩) (s0:=s) (by rw[flatMap_one];exact qAd _)
 rw[flatMap_one]at h;refine⟨N,fun n hn rec=>?_⟩;have h:ab4 n b x n (s,0)=_:=h n hn;unfold Gz;rw[(bg e).1];simp only[cond_true,(bg e).2,qAb,h]
theorem aEs(a b:Val)(ha:dO a.kids)(hb:dO b.kids)(ra:fI a.kids)(rb:fI b.kids):Ev (fun n=>acY n a b n (([]:List Val),0)) (.nx (a.kids.flatMap fun p=>b.kids.flatMap fun q=>cond (eD (aQ p) (aJ q)) [aG (aJ p) (aQ q)] [])):=by
 have h1:∀p,(b.kids.flatMap fun q=>cond (eD (aQ p) (aJ q)) [aG (aJ p) (aQ q)] []).length≤256:=fun p=>by
  have:=iF (fun q=>cond (eD (aQ p) (aJ q)) [aG (aJ p) (aQ q)] []) 1 b.kids (fun q _=>by cases eD (aQ p) (aJ q)<;>simp);have:=hb.2;omega
 have:=Y0 (b:=b.kids) (fun p=>b.kids.flatMap fun q=>cond (eD (aQ p) (aJ q)) [aG (aJ p) (aQ q)] []) ha (fun x _=>h1 x);refine mG (ρ:=PZ Val Unit) a.kids (fun n=>GI n a b) (fun i s=>(s,i)) _ 1000000 (by omega) (fun n rec s=>by unfold GI;rw[at_end];rfl) (fun pre x suf s e hbd=>?_) (s0:=[]) (by simp only[qAA];omega);have hx:x∈a.kids:=by simp[e]
 obtain⟨N,h⟩:=mG (ρ:=PZ Val Unit) b.kids (fun n=>Gv n b x) (fun i s=>(s,i)) (fun q=>cond (eD (aQ x) (aJ q)) [aG (aJ x) (aQ q)] []) _ hbd (fun n rec s=>by unfold Gv;rw[at_end];rfl) (fun p2 y s2 s e2 hbd=>by
  have hy:y∈b.kids:=by simp[e2]
  obtain⟨N,h⟩:=Eu (aQ x) (aJ y);refine⟨N,fun n hn rec=>?_⟩;have h:dY n (aQ x) (aJ y)=_:=h n hn;unfold Gv;rw[(bg e2).1];simp only[(bg e2).2,qAb,ra.fst hx,ra.snd hx,rb.fst hy,rb.snd hy,h];unfold eD at hbd⊢;cases hq:(bQ (aQ x) (aJ y)==0)with
  |false=>simp
  |true=>
   rw[hq]at hbd;rw[dQ (by simpa using hbd)];rfl) (s0:=s) (qAd _)
 refine⟨N,fun n hn rec=>?_⟩;have h:abP n b x n (s,0)=_:=h n hn;unfold GI;rw[(bg e).1];simp only[cond_true,(bg e).2,qAb,h]
theorem aFp(x:List (List Val))(hx:x.length≤1000000):Ev (fun n=>adq n x n (([]:List Val),0)) (.nx (x.map mkSet)):=by
 have h:=mG (ρ:=PZ Val Unit) x (fun n=>Gj n x) (fun i s=>(s,i)) (fun y=>[mkSet y]) 1000000 (by omega) (fun n rec s=>by unfold Gj;rw[at_end];rfl) (fun p2 y s2 s e2 hbd=>⟨0,fun n hn rec=>by
  unfold Gj;rw[(bg e2).1];simp only[(bg e2).2,qAb];rw[dQ (by simpa using hbd)];rfl⟩) (s0:=[]) (by rw[flatMap_one];simpa using hx)
 rwa[flatMap_one]at h
theorem aHO(a:Val)(ha:dO a.kids)(ra:fI a.kids):Ev (fun n=>adB n a n (([]:List Val),0)) (.nx (a.kids.map fun p=>aG (aQ p) (aJ p))):=by
 have h:=mG (ρ:=PZ Val Unit) a.kids (fun n=>GA n a) (fun i s=>(s,i)) (fun p=>[aG (aQ p) (aJ p)]) 1000000 (by omega) (fun n rec s=>by unfold GA;rw[at_end];rfl) (fun p2 y s2 s e2 hbd=>⟨0,fun n hn rec=>by
  unfold GA;rw[(bg e2).1];simp only[(bg e2).2,qAb,ra.fst (show y∈a.kids by simp[e2]),ra.snd (show y∈a.kids by simp[e2])];rw[dQ (by simpa using hbd)];rfl⟩) (s0:=[]) (by rw[flatMap_one];have:=ha.2;simp;omega)
 rwa[flatMap_one]at h
structure SetsOk(op:Int)(a b:Val):Prop where
 n:op=30→EU a.n∧EU b.n
 s:op≠30→dO a.kids∧dO b.kids
 a:(35≤op∧op≤36∨39≤op∧op≤40∨50≤op∧op≤54)→fI a.kids
 b:35≤op∧op≤38→fI b.kids
theorem aEq{op:Int}{a b:Val}(ho:30≤op∧op≤53∧¬(47≤op∧op≤49))(h:SetsOk op a b):Ev (fun n=>Tw n op a b) (pz ((sF op a b).thn bF)):=by
 unfold Tw;show EvS (fun n=>_) (sF op a b);unfold sF;refine EvS.cnd (fun e=>?_) fun h30=>?_
 ·obtain⟨ha,hb⟩:=h.n (eq_of_beq e);have a1:=ha.1;have a2:=ha.2;have b1:=hb.1;have b2:=hb.2;rw[wrap64 (by omega) (by omega)];refine EvS.cnd (fun _=>EvS.er) fun hd=>?_;have hd:=of_decide_eq_false hd;refine EvS.lp ?_ (by rw[ag1];omega);by_cases hle:a.n≤b.n
  ·exact⟨(b.n+1 - a.n).toNat+1,fun n hn=>anq n b hb (b.n+1 - a.n).toNat a.n [] ha (by omega) (by simp;omega) n hn⟩
  ·refine⟨1,fun n hn=>?_⟩;obtain⟨j,rfl⟩:∃q,n=q+1:=⟨n - 1,by omega⟩;show nH (j+1) b _ _=_;unfold nH;rw[decide_eq_false hle,show(b.n+1 - a.n).toNat=0 by omega];rfl
 have h30:op≠30:=by simpa using h30
 obtain⟨ha,hb⟩:=h.s h30;have la:=ha.2;have lb:=hb.2;refine EvS.cnd (fun e=>EvS.ok (anS _ _ (by omega)) (by simp;omega)) fun h31=>?_;refine EvS.cnd (fun e=>EvS.ok (D5 a.kids (fun n x=>xH n x b.kids) (aF b.kids) (fun x _=>hb.has x) (Ap ha)) (by have:=EA (aF b.kids) ha;omega)) fun h32=>?_;refine EvS.cnd (fun e=>EvS.ok (D5 a.kids (fun n x=>Ve n x b.kids) _ (fun x _=>Ev.aw2 (hb.has x)) (Ap ha)) (qAs (EA _ ha) (by omega))) fun h33=>?_;refine EvS.cnd (fun e=>?_) fun h34=>?_
 ·have hm:a.kids.length*b.kids.length≤256*256:=qCV la lb;rw[show(a.kids.length:Int)*(b.kids.length:Int)=((a.kids.length*b.kids.length:Nat):Int) by norm_cast,wrap64 (by omega) (by omega)];exact EvS.cnd (fun _=>EvS.er) fun _=>EvS.lp (aEJ a b ha hb) (qAs (Y0 (b:=b.kids) _ ha (fun x _=>by simpa using hb.2)) (by omega))
 refine EvS.cnd (fun e=>?_) fun h35=>?_
 ·have e:=eq_of_beq e;have ra:=h.a (by omega);have hf:dO (d9 b.kids):=⟨cZ _,by have:=eP (b.kids.map aJ);unfold d9;simp at this;omega⟩;refine EvS.of (Ev.bind (acu (h.b (by omega)) (Ap hb)) (Ev.bind (D5 a.kids (fun n x=>Md n x (d9 b.kids)) (fun x=>!aF (d9 b.kids) (aJ x)) (fun x hx=>?_) (Ap ha)) (Ev.bind (anS _ _ ?_) (Ev.ret _)))) ?_
  ·unfold Md;rw[ra.fst hx];exact Ev.aw2 (JI hf.1 (Ap hf) _)
  ·have:=EA (fun x=>!aF (d9 b.kids) (aJ x)) ha;omega
  ·have:=EA (fun x=>!aF (d9 b.kids) (aJ x)) ha;rw[qAe];omega
 refine EvS.cnd (fun e=>?_) fun h36=>?_
 ·have e:=eq_of_beq e;refine EvS.lp (aEs a b ha hb (h.a (by omega)) (h.b (by omega))) (qAs (Y0 (b:=b.kids) _ ha (fun p _=>?_)) (by omega));have:=iF (fun q=>cond (eD (aQ p) (aJ q)) [aG (aJ p) (aQ q)] []) 1 b.kids (fun q _=>by cases eD (aQ p) (aJ q)<;>simp);omega
 refine EvS.cnd (fun e=>EvS.ok (D5 b.kids (fun n x=>MI n x a.kids) _ (fun x hx=>?_) (Ap hb)) (qAs (EA _ hb) (by omega))) fun h37=>?_
 ·unfold MI;rw[(h.b (by have:=eq_of_beq e;omega)).fst hx];exact Ev.same (ha.has _)
 refine EvS.cnd (fun e=>EvS.ok (D5 b.kids (fun n x=>MG n x a.kids) _ (fun x hx=>?_) (Ap hb)) (qAs (EA _ hb) (by omega))) fun h38=>?_
 ·unfold MG;rw[(h.b (by have:=eq_of_beq e;omega)).fst hx];exact Ev.aw2 (ha.has _)
 refine EvS.cnd (fun e=>EvS.ok (D5 a.kids (fun n x=>Mv n x b.kids) _ (fun x hx=>?_) (Ap ha)) (qAs (EA _ ha) (by omega))) fun h39=>?_
 ·unfold Mv;rw[(h.a (by have:=eq_of_beq e;omega)).snd hx];exact Ev.same (hb.has _)
 refine EvS.cnd (fun e=>EvS.ok (D5 a.kids (fun n x=>Mg n x b.kids) _ (fun x hx=>?_) (Ap ha)) (qAs (EA _ ha) (by omega))) fun h40=>?_
 ·unfold Mg;rw[(h.a (by have:=eq_of_beq e;omega)).snd hx];exact Ev.aw2 (hb.has _)
 refine EvS.cnd (fun e=>EvS.cnd (fun _=>EvS.er) fun h8=>?_) fun h46=>?_
 ·have h8:=of_decide_eq_false h8;have hl:(jr a.kids).length≤256:=by
   unfold jr;rw[Zb];have:=(alP (show a.kids.length≤8 by omega)).2;simpa using this
  exact EvS.of (Ev.bind (aio (by omega)) (Ev.bind (aFp _ (by omega)) (Ev.ret _))) (by simp only[qAi];omega)
 refine EvS.cnd (fun e=>EvS.ok (acu (h.a (by have:=eq_of_beq e;omega)) (Ap ha)) ?_) fun h50=>?_
 ·have:=eP (a.kids.map aJ);unfold d9;simp at this;omega
 refine EvS.cnd (fun e=>EvS.ok (PV (h.a (by have:=eq_of_beq e;omega)) (Ap ha)) ?_) fun h51=>?_
 ·have:=eP (a.kids.map aQ);unfold bC;simp at this;omega
 refine EvS.cnd (fun e=>EvS.lp (aHO a ha (h.a (by have:=eq_of_beq e;omega))) (by simp;omega)) fun h52=>?_;refine EvS.cnd (fun e=>?_) fun h53=>?_
 ·have ra:=h.a (by have:=eq_of_beq e;omega);have hq:=EA (fun p=>aF b.kids (aJ p)) ha;refine EvS.of (Ev.bind (D5 a.kids (fun n x=>Mj n x b.kids) (fun p=>aF b.kids (aJ p)) (fun x hx=>?_) (Ap ha)) (Ev.bind (PV (ra.F8 _) (by omega)) (Ev.ret _))) ?_
  ·unfold Mj;rw[ra.fst hx];exact Ev.same (hb.has _)
  ·have:=eP ((a.kids.filter (fun p=>aF b.kids (aJ p))).map aQ);unfold bC;simp only[qAi]at this;omega
 have hr:op=41∨op=42∨op=43∨op=44∨op=45:=by
  simp only[beq_eq_false_iff_ne,ne_eq]at *;omega
 have hr1:=arU hr ha hb;have hlen:(l8 op a.kids b.kids)=.er 11∨∃l,l8 op a.kids b.kids=.ok l∧l.length≤2199023255552:=by
  unfold l8;cases hN:kX op a.kids.length b.kids.length with
  |true=>exact .inr ⟨[],rfl,by simp⟩
  |false=>
   cases hM:je op b.kids.length a.kids.length 0 1 with
   |true=>exact .inl rfl
   |false=>exact .inr ⟨_,rfl,qAs (ahw op a.kids b.kids a.kids []) (agm hr la lb hN hM)⟩
 rcases hlen with e|⟨l,e,hl⟩
 ·rw[e]at hr1⊢;exact Ev.bind (g:=fun x n=>apn n x) (Ev.bind hr1 (Ev.ret _)) (Ev.ret _)
 ·rw[e]at hr1⊢;exact EvS.of (Ev.bind hr1 (Ev.ret _)) (by omega)
theorem iE{op:Int}{a b:Val}(ho:op≤54∧op≠28∧op≠29)(hn:21≤op∧op≤26→EU a.n∧EU b.n)(hs:47≤op∧op≤49∨op=54→dO a.kids)(hr:op=54→fI a.kids)(hl:op≤20→op≤15)(h0:op≤20→op=3∨op=7∨10≤op)
  (h:30≤op∧op≤53∧¬(47≤op∧op≤49)→SetsOk op a b):Ev (fun n=>oz n op a b) (pz (CG op a b)):=by
 have T:∀c:Bool,Ev (fun n=>(bN n c).bind fun(x1:Val)=>some (PZ.ok (ζ:=Unit) x1)) (pz (.ok (aO c))):=fun c=>Ev.bind (CQ c) (Ev.ret _);have C:∀d:Int→Bool,Ev (fun n=>(dY n a b).bind fun(x3:Int)=>((bN n (d x3)).bind fun(x4:Val)=>some (PZ.ok (ζ:=Unit) x4))) (pz (.ok (aO (d (bQ a b))))):=fun d=>Ev.bind (Eu a b) (T _);unfold oz CG;refine Ev.cnd pz (fun _=>T _) fun e3=>Ev.cnd pz (fun _=>T _) fun e7=>Ev.cnd pz (fun _=>C (fun x=>x==0)) fun e10=>Ev.cnd pz (fun _=>C (fun x=>x !=0)) fun e11=>Ev.cnd pz (fun _=>T _) fun e12=>Ev.cnd pz (fun _=>T _) fun e13=>Ev.cnd pz (fun _=>T _) fun e14=>Ev.cnd pz (fun _=>T _) fun e15=>Ev.cnd pz (fun _=>Ev.ret _) fun e27=>Ev.cnd pz (fun e=>?_) fun e54=>Ev.cnd pz (fun e=>?_) fun e26=>Ev.cnd pz (fun _=>Ev.pz (M5 _)) fun e47=>?_
 ·have e:=eq_of_beq e;have sa:=hs (.inr e);have ra:=hr e;have hf:=D5 a.kids (fun n x=>Jj n x b.kind b.n b.name b.kids) (fun p=>eD (aJ p) b) (fun x hx=>by
   unfold Jj;rw[ra.fst hx];have eb:Val.mk b.kind b.n b.name b.kids=b:=by cases b;rfl
   rw[eb];simp only[qAb];exact Ev.bind (Eu _ _) (Ev.ret _)) (Ap sa)
  refine Ev.bind hf ?_;unfold LV;have rm:fI (a.kids.filter fun p=>eD (aJ p) b):=ra.F8 _
  match a.kids.filter (fun p=>eD (aJ p) b),rm with
  |[],_=>exact Ev.ret _
  |[p],rm=>
   refine Ev.of fun n=>?_;simp only[show(([p].length:Int)!=1)=false from rfl,cond_false,NV,qAb,rm.snd (qBB ..)];rfl
  |p::q::r,_=>
   refine Ev.of fun n=>?_;simp only[show(((p::q::r).length:Int)!=1)=true by simp;omega,cond_true];rfl
 ·have h26:=of_decide_eq_true e;simp only[beq_eq_false_iff_ne,ne_eq]at *;obtain⟨ha,hb⟩:=hn (by omega);exact Ev.pz (aBM ha hb)
 ·by_cases hm:op=48∨op=49
  ·refine Ev.of fun n=>?_;cases hk:a.kids with
   |nil=>rcases hm with rfl|rfl<;>rfl
   |cons x l=>
    have e:(((x::l).length:Int)==0)=false:=by simp;omega
    have hg:idx (x::l) (((x::l).length:Int) - 1)=(x::l).getLast?:=by
     unfold idx;rw[if_pos (by simp),List.getLast?_eq_getElem?];congr 1;omega
    rcases hm with rfl|rfl
    ·simp only[show((48:Int)==48)=true from rfl,e,cond_true,cond_false,qAb,NV];rfl
    ·rw[hg];cases hq:(x::l).getLast? with
     |none=>rw[List.getLast?_eq_none_iff]at hq;cases hq
     |some y=>simp only[show((49:Int)==48)=false from rfl,show((49:Int)==49)=true from rfl,e,cond_true,cond_false,qAb];rfl
  ·have h26:=of_decide_eq_false e26;simp only[beq_eq_false_iff_ne,ne_eq]at *;have h1:(op==48)=false:=by simpa using fun e=>hm (.inl e)
   have h2:(op==49)=false:=by simpa using fun e=>hm (.inr e)
   simp only[h1,h2,cond_false,qAb];exact Ev.pz (aEq (by omega) (h (by omega)))
inductive HT(env:Env):List Decl→Tm→Ty→Prop where
 |lit {sc nm m u} (op:Int) (h:op=1∨op=2):HT env sc (.mk op nm m u []) aY
 |int {sc nm m u} (h:0≤m∧m≤1000000000):HT env sc (.mk 19 nm m u []) fE
 |name {sc nm m u t} (h:nJ env sc nm=some t):HT env sc (.mk 20 nm m u []) t
 |empty {sc nm m u} (h:Good u):HT env sc (.mk 29 nm m u []) (au u)
 |not {sc nm m u x} (h:HT env sc x aY):HT env sc (.mk 3 nm m u [x]) aY
 |log {sc nm m u x y} (op:Int) (ho:op=4∨op=5∨op=6∨op=7) (h:HT env sc x aY) (k:HT env sc y aY):HT env sc (.mk op nm m u [x,y]) aY
 |qu {sc nm m u x y e} (op:Int) (ho:op=8∨op=9) (h:HT env sc x (au e)) (k:HT env (⟨nm,e⟩::sc) y aY):HT env sc (.mk op nm m u [x,y]) aY
 |compr {sc nm m u x y e} (h:HT env sc x (au e)) (k:HT env (⟨nm,e⟩::sc) y aY):HT env sc (.mk 55 nm m u [x,y]) (au e)
 |fn {sc nm m u x y e t} (hg:Good t) (h:HT env sc x (au e)) (k:HT env (⟨nm,e⟩::sc) y t):HT env sc (.mk 56 nm m u [x,y]) (au (aR e t))
 |eq {sc nm m u x y t} (op:Int) (ho:op=10∨op=11) (hg:Good t) (h:HT env sc x t) (k:HT env sc y t):HT env sc (.mk op nm m u [x,y]) aY
 |ord {sc nm m u x y} (op:Int) (ho:op=12∨op=13∨op=14∨op=15) (h:HT env sc x fE) (k:HT env sc y fE):HT env sc (.mk op nm m u [x,y]) aY
 |inn {sc nm m u x y t} (op:Int) (ho:op=16∨op=17) (h:HT env sc x t) (k:HT env sc y (au t)):HT env sc (.mk op nm m u [x,y]) aY
 |sub {sc nm m u x y t} (h:HT env sc x (au t)) (k:HT env sc y (au t)):HT env sc (.mk 18 nm m u [x,y]) aY
 |neg {sc nm m u x} (h:HT env sc x fE):HT env sc (.mk 21 nm m u [x]) fE
 |num {sc nm m u x y} (op:Int) (ho:op=22∨op=23∨op=24∨op=25∨op=26) (h:HT env sc x fE) (k:HT env sc y fE):HT env sc (.mk op nm m u [x,y]) fE
 |pair {sc nm m u x y a b} (ha:Good a) (hb:Good b) (h:HT env sc x a) (k:HT env sc y b):HT env sc (.mk 27 nm m u [x,y]) (aR a b)
 |set {sc nm m u ks a} (ha:Good a) (hn:ks≠[]) (h:∀t∈ks,HT env sc t a):HT env sc (.mk 28 nm m u ks) (au a)
 |range {sc nm m u x y} (h:HT env sc x fE) (k:HT env sc y fE):HT env sc (.mk 30 nm m u [x,y]) (au fE)
 |bin {sc nm m u x y e} (op:Int) (ho:op=31∨op=32∨op=33) (h:HT env sc x (au e)) (k:HT env sc y (au e)):HT env sc (.mk op nm m u [x,y]) (au e)
 |prod {sc nm m u x y a b} (h:HT env sc x (au a)) (k:HT env sc y (au b)):HT env sc (.mk 34 nm m u [x,y]) (au (aR a b))
 |over {sc nm m u x y a b} (h:HT env sc x (au (aR a b))) (k:HT env sc y (au (aR a b))):HT env sc (.mk 35 nm m u [x,y]) (au (aR a b))
 |comp {sc nm m u x y a b c} (h:HT env sc x (au (aR a b))) (k:HT env sc y (au (aR b c))):HT env sc (.mk 36 nm m u [x,y]) (au (aR a c))
 |dres {sc nm m u x y a b} (op:Int) (ho:op=37∨op=38) (h:HT env sc x (au a)) (k:HT env sc y (au (aR a b))):HT env sc (.mk op nm m u [x,y]) (au (aR a b))
 |rres {sc nm m u x y a b} (op:Int) (ho:op=39∨op=40) (h:HT env sc x (au (aR a b))) (k:HT env sc y (au b)):HT env sc (.mk op nm m u [x,y]) (au (aR a b))
 |fam {sc nm m u x y a b} (op:Int) (ho:op=41∨op=42∨op=43∨op=44∨op=45) (h:HT env sc x (au a)) (k:HT env sc y (au b)):HT env sc (.mk op nm m u [x,y]) (au (au (aR a b)))
 |pow {sc nm m u x a} (h:HT env sc x (au a)):HT env sc (.mk 46 nm m u [x]) (au (au a))
 |card {sc nm m u x a} (h:HT env sc x (au a)):HT env sc (.mk 47 nm m u [x]) fE
 |ext {sc nm m u x} (op:Int) (ho:op=48∨op=49) (h:HT env sc x (au fE)):HT env sc (.mk op nm m u [x]) fE
 |dom {sc nm m u x a b} (h:HT env sc x (au (aR a b))):HT env sc (.mk 50 nm m u [x]) (au a)
 |ran {sc nm m u x a b} (h:HT env sc x (au (aR a b))):HT env sc (.mk 51 nm m u [x]) (au b)
 |inv {sc nm m u x a b} (h:HT env sc x (au (aR a b))):HT env sc (.mk 52 nm m u [x]) (au (aR b a))
 |image {sc nm m u x y a b} (h:HT env sc x (au (aR a b))) (k:HT env sc y (au a)):HT env sc (.mk 53 nm m u [x,y]) (au b)
 |app {sc nm m u x y a b} (h:HT env sc x (au (aR a b))) (k:HT env sc y a):HT env sc (.mk 54 nm m u [x,y]) b
theorem dF{b:Bool}{t u:Ty}(h:bW b t=some u):b=true∧u=t:=by
 cases b
 ·cases h
 ·exact⟨rfl,(Option.some.inj h).symm⟩
theorem kT{α β:Type}{o:Option α}{f:α→Option β}{b:β}(h:o.bind f=some b):∃a,o=some a∧f a=some b:=by
 cases o with
 |none=>cases h
 |some a=>exact⟨a,rfl,h⟩
theorem Hw{t:Ty}(h:Top t)(hk:(t.kind==2)=true):t=aY:=by
 rcases h with rfl|h
 ·rfl
 ·rw[Na h]at hk;cases hk
theorem LC{t:Ty}(h:Top t)(hk:(t.kind !=2)=true):Good t:=by
 rcases h with rfl|h
 ·cases hk
 ·exact h
theorem HZ{t:Ty}(h:Top t)(hk:(t.kind==1)=true):t=fE:=by
 rcases h with rfl|h
 ·cases hk
 ·cases h<;>first|rfl|cases hk
theorem arQ{t:Ty}(h:Top t)(hk:(eB t).isSome=true):∃e,t=au e:=by
 rcases DI h with⟨e,rfl,_⟩|⟨_,h,_⟩
 ·grind
 grind
theorem aCX{t:Ty}(h:Top t)(hk:(pW t).isSome=true):∃a b,t=au (aR a b):=by
 rcases aob h with⟨a,b,rfl,_⟩|h
 ·grind
 grind
theorem adX{p:Ty→Bool}{a b:Ty}(h:[a,b].all p=true):p a=true∧p b=true:=by
 grind
theorem X4{env:Env}:∀(ts:List Tm) (sc:List Decl) (nm:Str) (i:Int) (l:List Ty),bV env sc false nm i ts=.ok l→l.length=ts.length∧∀(k:Nat) t ty,ts[k]? =some t→l[k]? =some ty→bX env sc t=.ok ty
 |[],sc,nm,i,l,h=>by
  simp only[bV]at h
  grind
 |x::ts,sc,nm,i,l,h=>by
  simp only[bV]at h;cases ht:bX env sc x with
  |er e p=>rw[ht]at h;cases h
  |ok t0=>
   rw[ht]at h;simp only[qc,cond_false]at h;cases hr:bV env sc false nm (i+1) ts with
   |er e p=>rw[hr]at h;cases h
   |ok l'=>
    rw[hr]at h;obtain⟨h1,h2⟩:=X4 ts sc nm (i+1) l' hr
    grind
theorem aCI{env:Env}{sc:List Decl}{nm:Str}{x:Tm}{l:List Ty}(h:bV env sc false nm 0 [x]=.ok l):∃a,l=[a]∧bX env sc x=.ok a:=by
 obtain⟨h1,h2⟩:=X4 _ _ _ _ _ h
 match l,h1 with
 |[a],_=>exact⟨a,rfl,h2 0 x a rfl rfl⟩
theorem aCk{env:Env}{sc:List Decl}{nm:Str}{x y:Tm}{l:List Ty}(h:bV env sc false nm 0 [x,y]=.ok l):∃a b,l=[a,b]∧bX env sc x=.ok a∧bX env sc y=.ok b:=by
 obtain⟨h1,h2⟩:=X4 _ _ _ _ _ h
 match l,h1 with
 |[a,b],_=>exact⟨a,b,rfl,h2 0 x a rfl rfl,h2 1 y b rfl rfl⟩
theorem anj{env:Env}{sc:List Decl}{nm:Str}{x y:Tm}{l:List Ty}(h:bV env sc true nm 0 [x,y]=.ok l):∃a b e,l=[a,b]∧bX env sc x=.ok a∧eB a=some e∧bX env (⟨nm,e⟩::sc) y=.ok b:=by
 simp only[bV]at h;cases ht:bX env sc x with
 |er e p=>rw[ht]at h;cases h
 |ok a=>
  rw[ht]at h;simp only[qc]at h;cases he:eB a with
  |none=>rw[he]at h;cases h
  |some e=>
   grind
set_option maxRecDepth 100000 in
theorem apj{env:Env}(hv:aW env=true):∀(t:Tm) (d:Int) (sc:List Decl) (ty:Ty),Wf d t→GoodS sc→bX env sc t=.ok ty→HT env sc t ty:=fun t=>Tm.ind (P:=fun t=>∀(d:Int) (sc:List Decl) (ty:Ty),Wf d t→GoodS sc→bX env sc t=.ok ty→HT env sc t ty) (fun op nm m u ks ih d sc ty hw hs ht=>by
 obtain⟨hn,_,_,hks⟩:=hw.node;obtain⟨⟨h1,h2⟩,hk20,hk29,hlen,hb⟩:=UW hn;have hnum:op=19→0≤m∧m≤1000000000:=fun e=>by
  subst e;simp only[qV,qAa]at hn;have:=hn.2.2.1;have h3:(decide (0≤m)&&decide (m≤1000000000))=true:=this;rw[qAa]at h3;exact⟨of_decide_eq_true h3.1,of_decide_eq_true h3.2⟩
 have hnil:iD op=0→ks=[]:=fun e=>by
  simp only[qV,qAa,BU,Tm.op,Tm.kids]at hn;have:=hn.1.2;rw[e]at this;exact qAD.1 (by simpa using this)
 have ih':∀x∈ks,∀sc ty,GoodS sc→bX env sc x=.ok ty→HT env sc x ty∧Top ty:=fun x hx sc ty hs ht=>⟨ih x hx (d+1) sc ty (hks x hx) hs ht,sV hv hs ht⟩;have k1:iD op=1→∃x,ks=[x]:=fun e=>aj7 ks (by
  simp only[qV,qAa,BU,Tm.op,Tm.kids]at hn;have:=hn.1.2;rw[e]at this;simpa using this)
 have k2:iD op=2→∃x y,ks=[x,y]:=fun e=>Dz ks (by
  simp only[qV,qAa,BU,Tm.op,Tm.kids]at hn;have:=hn.1.2;rw[e]at this;simpa using this)
 have kx:iD op= -1→ks≠[]:=fun e=>by
  rintro rfl;simp only[qV,qAa,BU,Tm.op,Tm.kids]at hn;have:=hn.1.2;rw[e]at this;cases this
 -- the row
 have row:(op==20)=false→(op==29)=false→∃l,bV env sc (bY op) nm 0 ks=.ok l∧jT op l=some ty:=fun e20 e29=>by
  simp only[bX,e20,e29,qBk,cond_false]at ht;cases hk:bV env sc (bY op) nm 0 ks with
  |er e p=>rw[hk]at ht;cases ht
  |ok l=>rw[hk]at ht;exact⟨l,rfl,(Qu ht).1⟩
 have one:iD op=1→(op==20)=false→(op==29)=false→bY op=false→∃x a,ks=[x]∧HT env sc x a∧Top a∧jT op [a]=some ty:=fun e e20 e29 eb=>by
  obtain⟨x,rfl⟩:=k1 e;obtain⟨l,hl,hr⟩:=row e20 e29;rw[eb]at hl;obtain⟨a,rfl,ha⟩:=aCI hl;have:=ih' x (by simp) sc a hs ha;exact⟨x,a,rfl,this.1,this.2,hr⟩
 have two:iD op=2→(op==20)=false→(op==29)=false→bY op=false→∃x y a b,ks=[x,y]∧HT env sc x a∧Top a∧HT env sc y b∧Top b∧jT op [a,b]=some ty:=fun e e20 e29 eb=>by
  obtain⟨x,y,rfl⟩:=k2 e;obtain⟨l,hl,hr⟩:=row e20 e29;rw[eb]at hl;obtain⟨a,b,rfl,ha,hb⟩:=aCk hl;have:=ih' x (by simp) sc a hs ha;have h3:=ih' y (by simp) sc b hs hb;exact⟨x,y,a,b,rfl,this.1,this.2,h3.1,h3.2,hr⟩
 have bnd:bY op=true→(op==20)=false→(op==29)=false→∃x y e b,ks=[x,y]∧HT env sc x (au e)∧HT env (⟨nm,e⟩::sc) y b∧Top b∧jT op [au e,b]=some ty:=fun eb e20 e29=>by
  obtain⟨x,y,rfl⟩:=hb eb;obtain⟨l,hl,hr⟩:=row e20 e29;rw[eb]at hl;obtain⟨a,b,e,rfl,ha,he,hb⟩:=anj hl;have h3:=ih' x (by simp) sc a hs ha;obtain⟨hge,rfl⟩:=jV h3.2 he;have h4:=ih' y (by simp) (⟨nm,e⟩::sc) b (fun q hq=>by
   rcases qAh.1 hq with rfl|hq
   ·exact hge
   ·exact hs q hq) hb
  exact⟨x,y,e,b,rfl,h3.1,h4.1,h4.2,hr⟩
 have lit:(op=1∨op=2)→HT env sc (.mk op nm m u ks) ty:=fun e=>by
  have e0:ks=[]:=hnil (by rcases e with rfl|rfl<;>rfl);subst e0;obtain⟨l,hl,hr⟩:=row (by rcases e with rfl|rfl<;>rfl) (by rcases e with rfl|rfl<;>rfl);have:ty=aY:=by rcases e with rfl|rfl<;>exact(Option.some.inj hr).symm
  subst this;exact .lit op e
 have log:(op=4∨op=5∨op=6∨op=7)→HT env sc (.mk op nm m u ks) ty:=fun e=>by
  obtain⟨x,y,a,b,rfl,ha,ta,hb,tb,hr⟩:=two (by rcases e with rfl|rfl|rfl|rfl<;>rfl) (by rcases e with rfl|rfl|rfl|rfl<;>rfl) (by rcases e with rfl|rfl|rfl|rfl<;>rfl) (by rcases e with rfl|rfl|rfl|rfl<;>rfl);have hr':bW (vU 2 [a,b]) aY=some ty:=by rcases e with rfl|rfl|rfl|rfl<;>exact hr
  obtain⟨h3,rfl⟩:=dF hr';obtain⟨h4,h5⟩:=adX h3;rw[Hw ta h4]at ha;rw[Hw tb h5]at hb;exact .log op e ha hb
 have qu:(op=8∨op=9)→HT env sc (.mk op nm m u ks) ty:=fun e=>by
  obtain⟨x,y,a,b,rfl,ha,hb,tb,hr⟩:=bnd (by rcases e with rfl|rfl<;>rfl) (by rcases e with rfl|rfl<;>rfl) (by rcases e with rfl|rfl<;>rfl);have hr':bW ((eB (au a)).isSome&&b.kind==2) aY=some ty:=by rcases e with rfl|rfl<;>exact hr
  obtain⟨h3,rfl⟩:=dF hr';simp only[qAa]at h3;rw[Hw tb h3.2]at hb;exact .qu op e ha hb
 have eqc:(op=10∨op=11)→HT env sc (.mk op nm m u ks) ty:=fun e=>by
  obtain⟨x,y,a,b,rfl,ha,ta,hb,tb,hr⟩:=two (by rcases e with rfl|rfl<;>rfl) (by rcases e with rfl|rfl<;>rfl) (by rcases e with rfl|rfl<;>rfl) (by rcases e with rfl|rfl<;>rfl);have hr':bW (a.kind !=2&&dI a b) aY=some ty:=by rcases e with rfl|rfl<;>exact hr
  obtain⟨h3,rfl⟩:=dF hr';simp only[qAa]at h3;have:=nU _ _ h3.2;subst this;exact .eq op e (LC ta h3.1) ha hb
 have ordc:(op=12∨op=13∨op=14∨op=15)→HT env sc (.mk op nm m u ks) ty:=fun e=>by
  obtain⟨x,y,a,b,rfl,ha,ta,hb,tb,hr⟩:=two (by rcases e with rfl|rfl|rfl|rfl<;>rfl) (by rcases e with rfl|rfl|rfl|rfl<;>rfl) (by rcases e with rfl|rfl|rfl|rfl<;>rfl) (by rcases e with rfl|rfl|rfl|rfl<;>rfl);have hr':bW (vU 1 [a,b]) aY=some ty:=by rcases e with rfl|rfl|rfl|rfl<;>exact hr
  obtain⟨h3,rfl⟩:=dF hr';obtain⟨h4,h5⟩:=adX h3;rw[HZ ta h4]at ha;rw[HZ tb h5]at hb;exact .ord op e ha hb
 have innc:(op=16∨op=17)→HT env sc (.mk op nm m u ks) ty:=fun e=>by
  obtain⟨x,y,a,b,rfl,ha,ta,hb,tb,hr⟩:=two (by rcases e with rfl|rfl<;>rfl) (by rcases e with rfl|rfl<;>rfl) (by rcases e with rfl|rfl<;>rfl) (by rcases e with rfl|rfl<;>rfl);have hr':(eB b).bind (fun e=>bW (dI a e) aY)=some ty:=by rcases e with rfl|rfl<;>exact hr
  obtain⟨s,hs',h3⟩:=kT hr';obtain⟨h4,rfl⟩:=dF h3;have:=nU _ _ h4;subst this;obtain⟨_,rfl⟩:=jV tb hs';exact .inn op e ha hb
 have numc:(op=22∨op=23∨op=24∨op=25∨op=26)→HT env sc (.mk op nm m u ks) ty:=fun e=>by
  obtain⟨x,y,a,b,rfl,ha,ta,hb,tb,hr⟩:=two (by rcases e with rfl|rfl|rfl|rfl|rfl<;>rfl) (by rcases e with rfl|rfl|rfl|rfl|rfl<;>rfl) (by rcases e with rfl|rfl|rfl|rfl|rfl<;>rfl) (by rcases e with rfl|rfl|rfl|rfl|rfl<;>rfl);have hr':bW (vU 1 [a,b]) fE=some ty:=by rcases e with rfl|rfl|rfl|rfl|rfl<;>exact hr
  obtain⟨h3,rfl⟩:=dF hr';obtain⟨h4,h5⟩:=adX h3;rw[HZ ta h4]at ha;rw[HZ tb h5]at hb;exact .num op e ha hb
 have binc:(op=31∨op=32∨op=33)→HT env sc (.mk op nm m u ks) ty:=fun e=>by
  obtain⟨x,y,a,b,rfl,ha,ta,hb,tb,hr⟩:=two (by rcases e with rfl|rfl|rfl<;>rfl) (by rcases e with rfl|rfl|rfl<;>rfl) (by rcases e with rfl|rfl|rfl<;>rfl) (by rcases e with rfl|rfl|rfl<;>rfl);have hr':bW ((eB a).isSome&&dI a b) a=some ty:=by rcases e with rfl|rfl|rfl<;>exact hr
  obtain⟨h3,rfl⟩:=dF hr';simp only[qAa]at h3;have:=nU _ _ h3.2;subst this;obtain⟨s,rfl⟩:=arQ ta h3.1;exact .bin op e ha hb
 have dresc:(op=37∨op=38)→HT env sc (.mk op nm m u ks) ty:=fun e=>by
  obtain⟨x,y,a,b,rfl,ha,ta,hb,tb,hr⟩:=two (by rcases e with rfl|rfl<;>rfl) (by rcases e with rfl|rfl<;>rfl) (by rcases e with rfl|rfl<;>rfl) (by rcases e with rfl|rfl<;>rfl);have hr':(eB a).bind (fun x=>(pW b).bind fun y=>bW (dI x y.1) b)=some ty:=by rcases e with rfl|rfl<;>exact hr
  obtain⟨s,hs',h3⟩:=kT hr';obtain⟨⟨p,q⟩,hq,h4⟩:=kT h3;obtain⟨h5,rfl⟩:=dF h4;have:=nU _ _ h5;subst this;obtain⟨_,rfl⟩:=jV ta hs';obtain⟨_,_,rfl⟩:=wM tb hq;exact .dres op e ha hb
 have rresc:(op=39∨op=40)→HT env sc (.mk op nm m u ks) ty:=fun e=>by
  obtain⟨x,y,a,b,rfl,ha,ta,hb,tb,hr⟩:=two (by rcases e with rfl|rfl<;>rfl) (by rcases e with rfl|rfl<;>rfl) (by rcases e with rfl|rfl<;>rfl) (by rcases e with rfl|rfl<;>rfl);have hr':(pW a).bind (fun x=>(eB b).bind fun y=>bW (dI y x.2) a)=some ty:=by rcases e with rfl|rfl<;>exact hr
  obtain⟨⟨p,q⟩,hq,h3⟩:=kT hr';obtain⟨s,hs',h4⟩:=kT h3;obtain⟨h5,rfl⟩:=dF h4;have:=nU _ _ h5;subst this;obtain⟨_,rfl⟩:=jV tb hs';obtain⟨_,_,rfl⟩:=wM ta hq;exact .rres op e ha hb
 have famc:(op=41∨op=42∨op=43∨op=44∨op=45)→HT env sc (.mk op nm m u ks) ty:=fun e=>by
  obtain⟨x,y,a,b,rfl,ha,ta,hb,tb,hr⟩:=two (by rcases e with rfl|rfl|rfl|rfl|rfl<;>rfl) (by rcases e with rfl|rfl|rfl|rfl|rfl<;>rfl) (by rcases e with rfl|rfl|rfl|rfl|rfl<;>rfl) (by rcases e with rfl|rfl|rfl|rfl|rfl<;>rfl);have hr':(eB a).bind (fun x=>(eB b).map fun y=>au (au (aR x y)))=some ty:=by rcases e with rfl|rfl|rfl|rfl|rfl<;>exact hr
  obtain⟨s,hs',h3⟩:=kT hr';obtain⟨s2,hs2,rfl⟩:=qBs.1 h3;obtain⟨_,rfl⟩:=jV ta hs';obtain⟨_,rfl⟩:=jV tb hs2;exact .fam op e ha hb
 have extc:(op=48∨op=49)→HT env sc (.mk op nm m u ks) ty:=fun e=>by
  obtain⟨x,a,rfl,ha,ta,hr⟩:=one (by rcases e with rfl|rfl<;>rfl) (by rcases e with rfl|rfl<;>rfl) (by rcases e with rfl|rfl<;>rfl) (by rcases e with rfl|rfl<;>rfl);have hr':(eB a).bind (fun x=>bW (x.kind==1) fE)=some ty:=by rcases e with rfl|rfl<;>exact hr
  obtain⟨s,hs',h3⟩:=kT hr';obtain⟨h4,rfl⟩:=dF h3;obtain⟨hg,rfl⟩:=jV ta hs';have:=HZ (.inr hg) h4;subst this;exact .ext op e ha
 rcases awe h1 h2 with rfl|rfl|rfl|rfl|rfl|rfl|rfl|rfl|rfl|rfl|rfl|rfl|rfl|rfl|rfl|rfl|rfl|rfl|rfl|rfl|rfl|rfl|rfl|rfl|rfl|rfl|rfl|rfl|rfl|rfl|rfl|rfl|rfl|rfl|rfl|rfl|rfl|rfl|rfl|rfl|rfl|rfl|rfl|rfl|rfl|rfl|rfl|rfl|rfl|rfl|rfl|rfl|rfl|rfl|rfl|rfl
 ·exact lit (.inl rfl)
 ·exact lit (.inr rfl)
 ·obtain⟨x,a,rfl,ha,ta,hr⟩:=one rfl rfl rfl rfl;obtain⟨h3,rfl⟩:=dF (b:=vU 2 [a]) (t:=aY) hr;rw[Hw ta (by simpa[vU]using h3)]at ha;exact .not ha
 ·exact log (by simp)
 ·exact log (by simp)
 ·exact log (by simp)
 ·exact log (by simp)
 ·exact qu (by simp)
 ·exact qu (by simp)
 ·exact eqc (by simp)
 ·exact eqc (by simp)
 ·exact ordc (by simp)
 ·exact ordc (by simp)
 ·exact ordc (by simp)
 ·exact ordc (by simp)
 ·exact innc (by simp)
 ·exact innc (by simp)
 ·obtain⟨x,y,a,b,rfl,ha,ta,hb,tb,hr⟩:=two rfl rfl rfl rfl;obtain⟨h3,rfl⟩:=dF (b:=(eB a).isSome&&dI a b) (t:=aY) hr;simp only[qAa]at h3;have:=nU _ _ h3.2;subst this;obtain⟨s,rfl⟩:=arQ ta h3.1;exact .sub ha hb
 ·have:=hnil rfl;subst this;obtain⟨l,hl,hr⟩:=row rfl rfl;have:ty=fE:=(Option.some.inj hr).symm;subst this;exact .int (hnum rfl)
 ·have:=hnil rfl;subst this;simp only[bX]at ht;cases hl:nJ env sc nm with
  |none=>rw[hl]at ht;cases ht
  |some t=>rw[hl]at ht;cases ht;exact .name hl
 ·obtain⟨x,a,rfl,ha,ta,hr⟩:=one rfl rfl rfl rfl;obtain⟨h3,rfl⟩:=dF (b:=vU 1 [a]) (t:=fE) hr;rw[HZ ta (by simpa[vU]using h3)]at ha;exact .neg ha
 ·exact numc (by simp)
 ·exact numc (by simp)
 ·exact numc (by simp)
 ·exact numc (by simp)
 ·exact numc (by simp)
 ·obtain⟨x,y,a,b,rfl,ha,ta,hb,tb,hr⟩:=two rfl rfl rfl rfl;obtain⟨h3,rfl⟩:=dF (b:=a.kind !=2&&b.kind !=2) (t:=aR a b) hr;simp only[qAa]at h3;exact .pair (LC ta h3.1) (LC tb h3.2) ha hb
 ·obtain⟨l,hl,hr⟩:=row rfl rfl;obtain⟨h3,h4⟩:=X4 _ _ _ _ _ hl;obtain⟨h5,rfl⟩:=dF (b:=(l.headD bH).kind !=2&&l.all fun x=>dI x (l.headD bH)) (t:=au (l.headD bH)) hr;simp only[qAa]at h5;have hne:=kx rfl;obtain⟨x,ks',rfl⟩:=LH ks hne;obtain⟨a,l',rfl⟩:=LH l (by rintro rfl;cases h3);have hall:∀b∈a::l',b=a:=fun b hb=>nU _ _ (qAP.1 h5.2 b hb);refine .set (LC (sV hv hs (h4 0 x a rfl rfl)) h5.1) hne fun t ht'=>?_;obtain⟨k,hk,rfl⟩:=qBy ht';have hk':k<(a::l').length:=by rw[h3];exact hk
  have h6:=h4 k _ _ (qAc hk) (qAc hk');rw[hall _ (qAO hk')]at h6;exact(ih' _ (qAO hk) sc a hs h6).1
 ·have:=hnil rfl;subst this;obtain⟨_,hv1,hv2⟩:=hk29 rfl;simp only[bX]at ht;have ht':cond (true&&!(knows env u)) (TR.er 6 []) (match bV env sc (bY 29) nm 0 []with
     | .er e p=>.er e p
     | .ok l=>rJ (some (au u)))=.ok ty:=ht
  cases hkn:knows env u with
  |false=>rw[hkn]at ht';cases ht'
  |true=>
   rw[hkn]at ht';simp only[bV]at ht';have ht':rJ (some (au u))=.ok ty:=ht';have:=(Qu ht').1;cases this;exact .empty (LC (UH hv1) (by rw[bne,hv2];rfl))
 ·obtain⟨x,y,a,b,rfl,ha,ta,hb,tb,hr⟩:=two rfl rfl rfl rfl;obtain⟨h3,rfl⟩:=dF (b:=vU 1 [a,b]) (t:=au fE) hr;obtain⟨h4,h5⟩:=adX h3;rw[HZ ta h4]at ha;rw[HZ tb h5]at hb;exact .range ha hb
 ·exact binc (by simp)
 ·exact binc (by simp)
 ·exact binc (by simp)
 ·obtain⟨x,y,a,b,rfl,ha,ta,hb,tb,hr⟩:=two rfl rfl rfl rfl;obtain⟨s,hs',h3⟩:=kT (o:=eB a) (f:=fun x=>(eB b).map fun y=>au (aR x y)) hr;obtain⟨s2,hs2,rfl⟩:=qBs.1 h3;obtain⟨_,rfl⟩:=jV ta hs';obtain⟨_,rfl⟩:=jV tb hs2;exact .prod ha hb
 ·obtain⟨x,y,a,b,rfl,ha,ta,hb,tb,hr⟩:=two rfl rfl rfl rfl;obtain⟨h3,rfl⟩:=dF (b:=(pW a).isSome&&dI a b) (t:=a) hr;simp only[qAa]at h3;have:=nU _ _ h3.2;subst this;obtain⟨p,q,rfl⟩:=aCX ta h3.1;exact .over ha hb
 ·obtain⟨x,y,a,b,rfl,ha,ta,hb,tb,hr⟩:=two rfl rfl rfl rfl;obtain⟨⟨p,q⟩,hq,h3⟩:=kT (o:=pW a) (f:=fun x=>(pW b).bind fun y=>bW (dI x.2 y.1) (au (aR x.1 y.2))) hr;obtain⟨⟨p',q'⟩,hq',h4⟩:=kT h3;obtain⟨h5,rfl⟩:=dF h4;have:=nU _ _ h5;obtain⟨_,_,rfl⟩:=wM ta hq;obtain⟨_,_,rfl⟩:=wM tb hq';simp only at this;subst this;exact .comp ha hb
 ·exact dresc (by simp)
 ·exact dresc (by simp)
 ·exact rresc (by simp)
 ·exact rresc (by simp)
 ·exact famc (by simp)
 ·exact famc (by simp)
 ·exact famc (by simp)
 ·exact famc (by simp)
 ·exact famc (by simp)
 ·obtain⟨x,a,rfl,ha,ta,hr⟩:=one rfl rfl rfl rfl;obtain⟨s,hs',rfl⟩:=qBs.1 (show(eB a).map (fun x=>au (au x))=some ty from hr);obtain⟨_,rfl⟩:=jV ta hs';exact .pow ha
 ·obtain⟨x,a,rfl,ha,ta,hr⟩:=one rfl rfl rfl rfl;obtain⟨s,hs',rfl⟩:=qBs.1 (show(eB a).map (fun _=>fE)=some ty from hr);obtain⟨_,rfl⟩:=jV ta hs';exact .card ha
 ·exact extc (by simp)
 ·exact extc (by simp)
 ·obtain⟨x,a,rfl,ha,ta,hr⟩:=one rfl rfl rfl rfl;obtain⟨⟨p,q⟩,hq,rfl⟩:=qBs.1 (show(pW a).map (fun x=>au x.1)=some ty from hr);obtain⟨_,_,rfl⟩:=wM ta hq;exact .dom ha
 ·obtain⟨x,a,rfl,ha,ta,hr⟩:=one rfl rfl rfl rfl;obtain⟨⟨p,q⟩,hq,rfl⟩:=qBs.1 (show(pW a).map (fun x=>au x.2)=some ty from hr);obtain⟨_,_,rfl⟩:=wM ta hq;exact .ran ha
 ·obtain⟨x,a,rfl,ha,ta,hr⟩:=one rfl rfl rfl rfl;obtain⟨⟨p,q⟩,hq,rfl⟩:=qBs.1 (show(pW a).map (fun x=>au (aR x.2 x.1))=some ty from hr);obtain⟨_,_,rfl⟩:=wM ta hq;exact .inv ha
 ·obtain⟨x,y,a,b,rfl,ha,ta,hb,tb,hr⟩:=two rfl rfl rfl rfl;obtain⟨⟨p,q⟩,hq,h3⟩:=kT (o:=pW a) (f:=fun x=>(eB b).bind fun y=>bW (dI y x.1) (au x.2)) hr;obtain⟨s,hs',h4⟩:=kT h3;obtain⟨h5,rfl⟩:=dF h4;have:=nU _ _ h5;obtain⟨_,_,rfl⟩:=wM ta hq;obtain⟨_,rfl⟩:=jV tb hs';simp only at this;subst this;exact .image ha hb
 ·obtain⟨x,y,a,b,rfl,ha,ta,hb,tb,hr⟩:=two rfl rfl rfl rfl;obtain⟨⟨p,q⟩,hq,h3⟩:=kT (o:=pW a) (f:=fun x=>bW (dI b x.1) x.2) hr;obtain⟨h5,rfl⟩:=dF h3;have:=nU _ _ h5;obtain⟨_,_,rfl⟩:=wM ta hq;simp only at this;subst this;exact .app ha hb
 ·obtain⟨x,y,a,b,rfl,ha,hb,tb,hr⟩:=bnd rfl rfl rfl;obtain⟨h3,rfl⟩:=dF (b:=(eB (au a)).isSome&&b.kind==2) (t:=au a) hr;simp only[qAa]at h3;rw[Hw tb h3.2]at hb;exact .compr ha hb
 ·obtain⟨x,y,a,b,rfl,ha,hb,tb,hr⟩:=bnd rfl rfl rfl;obtain⟨s,hs',h3⟩:=kT (o:=eB (au a)) (f:=fun x=>bW (b.kind !=2) (au (aR x b))) hr;obtain⟨h5,rfl⟩:=dF h3;cases hs';exact .fn (LC tb h5) ha hb) t
theorem J2(n:Nat)(qbz:Env→(List Int)→Val→Ty→Option Bool)(qb0:(List Ty)→Int→Int→Str→(List Val)→(List Carrier)→(List Decl)→(List Int)→Option Bool)(p0:List Ty)(p4:List Val)(p5:List Carrier)(p6:List Decl)(p7:List Int)(k:Nat)(s:Int):Ba n qbz qb0 p0 p4 p5 p6 p7 (k+1) s=yX n qbz qb0 p0 p4 p5 p6 p7 (Ba n qbz qb0 p0 p4 p5 p6 p7 k) s:=rfl
theorem Oo(n:Nat)(qbz:Env→(List Int)→Val→Ty→Option Bool)(qb0:(List Ty)→Int→Int→Str→(List Val)→(List Carrier)→(List Decl)→(List Int)→Option Bool)(p2:Val)(k:Nat)(s:Int):FR n qbz qb0 p2 (k+1) s=DN n qbz qb0 p2 (FR n qbz qb0 p2 k) s:=rfl
theorem Nr(n:Nat)(p0:Env)(p1:List Int)(k:Nat)(s:Int):zW n p0 p1 (k+1) s=yu n p0 p1 (zW n p0 p1 k) s:=rfl
theorem aqB(c:Carrier)(l:List Int)(i:Int)(s:Int)(h:idx l i=some s):(((idx l i).bind fun(x2:Int)=>(cond (decide (x2<1)) (some true) ((idx l i).bind fun(x3:Int)=>(cond (decide (8<x3)) (some true) (cond (decide (0<(c.elems.length:Int))) ((idx l i).bind fun(x4:Int)=>some (x4 !=(c.elems.length:Int))) (some false)))))):Option Bool)=some (abf c s):=by
 simp only[abf]
 grind
theorem arI(n:Nat)(nm:List Decl):∀(cs:List Carrier) (ss:List Int) (pc:List Carrier) (ps:List Int),pc.length=ps.length→cs.length=ss.length→∀k,cs.length+1≤k→zW n ⟨pc++cs,nm⟩ (ps++ss) k (pc.length:Int)=some (cond (J4 cs ss) (.nx ()) (.rt false))
 |[],ss,pc,ps,hp,hl,k,hk=>by
  obtain⟨j,rfl⟩:∃j,k=j+1:=⟨k - 1,by simp at hk;omega⟩;rw[Nr];unfold yu;rw[decide_eq_false (by simp)];rfl
 |c::cs,[],pc,ps,hp,hl,k,hk=>by simp at hl
 |c::cs,s::ss,pc,ps,hp,hl,k,hk=>by
  obtain⟨j,rfl⟩:∃j,k=j+1:=⟨k - 1,by simp at hk;omega⟩;have hi:idx (ps++s::ss) (pc.length:Int)=some s:=by rw[hp];exact gJ _ _ _
  have ih:=arI n nm cs ss (pc++[c]) (ps++[s]) (by simp[hp]) (by simpa using hl) j (by simp at hk;omega);rw[Nr];unfold yu;rw[decide_eq_true (by simp;omega)];simp only[cond_true];rw[gJ];simp only[qAb];rw[aqB c _ _ s hi];simp only[qAb,J4];cases hb:abf c s with
  |true=>rfl
  |false=>
   simp;rw[show(pc.length:Int)+1=((pc++[c]).length:Int) by simp];simpa using ih
theorem af4(env:Env)(sz:List Int):Ev (fun n=>Bh n env sz) (uj env sz):=by
 unfold Bh uj;cases h:((sz.length:Int)!=(env.carriers.length:Int))with
 |true=>exact Ev.ret _
 |false=>
  simp at h;refine Ev.bind (a:=cond (J4 env.carriers sz) (.nx ()) (.rt false)) ⟨env.carriers.length+1,fun n hn=>?_⟩ ?_
  ·have:=arI n env.names env.carriers sz [] [] rfl (by omega) n hn
   simp_all
  ·cases J4 env.carriers sz<;>exact Ev.ret _
inductive Shp:Ty→Prop where
 |int:Shp (.mk 1 [] [])
 |bool:Shp (.mk 2 [] [])
 |car (nm:Str):Shp (.mk 3 nm [])
 |pair {a b:Ty} (h:Shp a) (k:Shp b):Shp (.mk 4 [] [a,b])
 |set {a:Ty} (h:Shp a):Shp (.mk 5 [] [a])
mutual
theorem aAg:∀(t:Ty) (d c:Int),(pf t d c).1=true→Shp t
 | .mk k nm ks,d,c,h=>by
  simp only[pf]at h;cases hb:((decide (c+1≤16)&&decide (d≤6))&&fT k nm ks.length d)with
  |false=>rw[hb]at h;cases h
  |true=>
   rw[hb]at h;simp only[cond_true]at h;have hs:=au9 ks (d+1) (c+1) h;simp only[fT,qAa,qBe,beq_iff_eq]at hb;obtain⟨_,_,hk,hn⟩:=hb;rcases hk with⟨hk,hl⟩|⟨rfl,hl⟩|⟨rfl,hl⟩
   ·have:ks=[]:=qAD.1 hl;subst this;rcases hk with rfl|rfl|rfl
    ·have:nm=[]:=by simpa using hn
     subst this;exact .int
    ·have:nm=[]:=by simpa using hn
     subst this;exact .bool
    ·exact .car nm
   ·have:nm=[]:=by simpa using hn
    subst this
    match ks,hl with
    |[a,b],_=>exact .pair (hs a (by simp)) (hs b (by simp))
   ·have:nm=[]:=by simpa using hn
    subst this
    match ks,hl with
    |[a],_=>exact .set (hs a (by simp))
theorem au9:∀(ks:List Ty) (d c:Int),(kK ks d c).1=true→∀t∈ks,Shp t
 |[],_,_,_,_,ht=>by cases ht
 |k::ks,d,c,h,t,ht=>by
  simp only[kK]at h;cases h1:(pf k d c).1 with
  |false=>rw[h1]at h;cases h
  |true=>
   rw[h1]at h;simp only[cond_true]at h;rcases qAh.1 ht with h2|ht
   ·have h3:=aAg k d c h1;rw[h2];exact h3
   ·exact au9 ks d _ h t ht
end
theorem PY{t:Ty}(h:bA t=true):Shp t:=aAg t 1 0 h
theorem arx(env:Env)(s:Str):Ev (fun n=>Pz n env s) (dR (fun c=>c.name==s) 0 env.carriers):=by
 refine Ev.bind (vo env.carriers (fun n k i=>wY n env.carriers s k i) (fun _ x=>some (x.name==s)) (fun c=>c.name==s) (fun n k i=>rfl) (fun x _=>Ev.ret _)) (Ev.ret _)
theorem ave{env:Env}{sz:List Int}{nm:Str}(hl:sz.length=env.carriers.length)(h:dP env nm=true):0≤dR (fun c=>c.name==nm) 0 env.carriers∧idx sz (dR (fun c=>c.name==nm) 0 env.carriers)=some (He env sz nm):=by
 have hg:=mO (fun c:Carrier=>c.name==nm) env.carriers 0 (qBD _);have hany:env.carriers.any (fun c=>c.name==nm)=true:=h;rw[hany]at hg;have h0:0≤dR (fun c:Carrier=>c.name==nm) 0 env.carriers:=by simpa using hg
 rcases Dw (fun c:Carrier=>c.name==nm) env.carriers []with⟨x,_,_,g1,g2⟩|⟨_,g⟩
 ·simp at g1 g2;unfold He;unfold idx at g2⊢
  grind
 grind
theorem aqJ(p2:Val):∀(suf pre:List Val) (x:Val),p2.kids=pre++[x]++suf→p2.kids.length≤256→∃N,∀n,N≤n→∀k,suf.length+1≤k→∀r1 r2,FR n r1 r2 p2 k ((pre++[x]).length:Int)=some (cond (Fp (x::suf)) (.nx ()) (.rt false))
 |[],pre,x,e,hl=>by
  refine⟨0,fun n _ k hk r1 r2=>?_⟩;obtain⟨j,rfl⟩:∃j,k=j+1:=⟨k - 1,by simp at hk;omega⟩;rw[Oo];unfold DN;rw[decide_eq_false (by rw[e];simp)];rfl
 |y::suf,pre,x,e,hl=>by
  obtain⟨N1,h1⟩:=Eu x y;obtain⟨N2,h2⟩:=aqJ p2 suf (pre++[x]) y (by rw[e];simp) hl;refine⟨N1+N2,fun n hn k hk r1 r2=>?_⟩;obtain⟨j,rfl⟩:∃j,k=j+1:=⟨k - 1,by simp at hk;omega⟩;have h1:dY n x y=_:=h1 n (by omega);have h2:=h2 n (by omega) j (by simp at hk;omega) r1 r2;have hlen:pre.length+1≤256:=by rw[e]at hl;simp at hl;omega
  have ew:IntKind.wrap .i64 (((pre++[x]).length:Int) - 1)=(pre.length:Int):=by
   rw[qAe,qAI,wrap64 (by omega) (by omega)];omega
  have i1:idx p2.kids (pre.length:Int)=some x:=by rw[e,qAm,qCF];exact gJ _ _ _
  have i2:idx p2.kids ((pre++[x]).length:Int)=some y:=by rw[e];exact gJ _ _ _
  rw[Oo];unfold DN;rw[decide_eq_true (by rw[e];simp;omega),ew,i1,i2];simp only[cond_true,qAb];rw[h1];simp only[qAb,Fp];cases decide (0≤bQ x y)with
  |true=>rfl
  |false=>
   simp only[cond_false,qBb,qAu];rw[show((pre++[x]).length:Int)+1=((pre++[x]++[y]).length:Int) by simp only[qAe,qAI];omega];exact h2
theorem anQ(env:Env)(sz:List Int)(t:Ty)(H:∀v,Ev (fun n=>kN n env sz v t) (hasB env sz t v)):∀(suf pre:List Val),∃N,∀n,N≤n→∀k,suf.length+1≤k→Ba n (kN n) (wF n) [t] (pre++suf) env.carriers env.names sz k (pre.length:Int)=some (cond (suf.all fun v=>hasB env sz t v) (.nx ()) (.rt false))
 |[],pre=>by
  refine⟨0,fun n _ k hk=>?_⟩;obtain⟨j,rfl⟩:∃j,k=j+1:=⟨k - 1,by simp at hk;omega⟩;rw[J2];unfold yX;rw[decide_eq_false (by simp)];rfl
 |v::suf,pre=>by
  obtain⟨N1,h1⟩:=H v;obtain⟨N2,h2⟩:=anQ env sz t H suf (pre++[v]);refine⟨N1+N2,fun n hn k hk=>?_⟩;obtain⟨j,rfl⟩:∃j,k=j+1:=⟨k - 1,by simp at hk;omega⟩;have h1:kN n env sz v t=_:=h1 n (by omega);have h2:=h2 n (by omega) j (by simp at hk;omega);have i2:idx [t] (if(([t].length:Int) - 1)<(pre.length:Int)then(([t].length:Int) - 1)else(pre.length:Int))=some t:=by
   simp only[qAI];have:(if(((1:Nat):Int) - 1)<(pre.length:Int)then(((1:Nat):Int) - 1)else(pre.length:Int))=0:=by split<;>omega
   rw[this];rfl
  rw[J2];unfold yX;rw[decide_eq_true (by simp;omega),gJ,i2];simp only[cond_true,qAb];rw[show kN n (Env.mk env.carriers env.names) sz v t=kN n env sz v t from rfl,h1];simp only[qAb,qBC];cases hasB env sz t v with
  |false=>rfl
  |true=>
   simp only[qAv,cond_false,qAu];rw[show(pre.length:Int)+1=((pre++[v]).length:Int) by simp];simpa using h2
theorem aEr(env:Env)(sz:List Int)(t u:Ty)(a b:Val)(k n:Int)(s:Str)(H1:Ev (fun n=>kN n env sz a t) (hasB env sz t a))(H2:Ev (fun n=>kN n env sz b u) (hasB env sz u b)):Ev (fun m=>wF m [t,u] k n s [a,b] env.carriers env.names sz) (Zk env sz [t,u] [a,b]):=by
 refine Ev.succ ?_;obtain⟨N1,h1⟩:=H1;obtain⟨N2,h2⟩:=H2;refine⟨N1+N2+3,fun m hm=>?_⟩;have h1:kN m (Env.mk env.carriers env.names) sz a t=_:=h1 m (by omega);have h2:kN m (Env.mk env.carriers env.names) sz b u=_:=h2 m (by omega);show wQ m _ _ [t,u] k n s [a,b] env.carriers env.names sz=_;unfold wQ;obtain⟨j,hj⟩:∃j,m=j+3:=⟨m - 3,by omega⟩;have e1:Ba m (kN m) (wF m) [t,u] [a,b] env.carriers env.names sz (j+3) 0=some (cond (Zk env sz [t,u] [a,b]) (.nx ()) (.rt false)):=by
  have i0:idx [t,u] (if(((([t,u]:List Ty)).length:Int) - 1)<0 then((([t,u]:List Ty).length:Int) - 1)else 0)=some t:=rfl;have i1:idx [t,u] (if(((([t,u]:List Ty)).length:Int) - 1)<0+1 then((([t,u]:List Ty).length:Int) - 1)else 0+1)=some u:=rfl;simp only[J2,yX,show idx [a,b] 0=some a from rfl,show idx [a,b] (0+1)=some b from rfl,Zk]
  grind
 grind
theorem ayM(env:Env)(sz:List Int)(hl:sz.length=env.carriers.length):∀{t:Ty},Shp t→(dX t).all (dP env)=true→∀v,Ev (fun n=>kN n env sz v t) (hasB env sz t v):=by
 intro t h
 induction h with
 |int=>
  intro _ v;refine Ev.succ ?_;show Ev (fun n=>ko n _ _ env sz v (.mk 1 [] [])) _;unfold ko;refine Ev.pos rfl ?_;refine Ev.bind (a:=acs v) ?_ (Ev.ret _);unfold acs;cases v.kind==1<;>cases decide ((-1000000000)≤v.n)<;>cases decide (v.n≤1000000000)<;>cases v.name==[]<;>cases(v.kids.length:Int)==0<;>exact Ev.ret _
 |bool=>
  intro _ v;refine Ev.succ ?_;show Ev (fun n=>ko n _ _ env sz v (.mk 2 [] [])) _;unfold ko;refine Ev.neg rfl ?_;refine Ev.pos rfl ?_;refine Ev.bind (a:=abw v) ?_ (Ev.ret _);unfold abw;cases v.kind==2<;>cases v.n==0<;>cases v.n==1<;>cases v.name==[]<;>cases(v.kids.length:Int)==0<;>exact Ev.ret _
 |car nm=>
  intro hc v;have hc:dP env nm=true:=by simpa[dX]using hc
  obtain⟨g1,g2⟩:=ave hl hc;refine Ev.succ ?_;show Ev (fun n=>ko n _ _ env sz v (.mk 3 nm [])) _;unfold ko;refine Ev.neg rfl ?_;refine Ev.neg rfl ?_;refine Ev.pos rfl ?_;refine Ev.bind (arx env nm) ?_;refine Ev.bind (a:=OD env sz nm v) ?_ (Ev.ret _);simp only[decide_eq_true g1,cond_true,g2,qAb,Ty.name];unfold OD;cases v.kind==3<;>cases v.name==nm<;>cases decide (0≤v.n)<;>cases decide (v.n<He env sz nm)<;>cases(v.kids.length:Int)==0<;>exact Ev.ret _
 |@pair a b ha hb iha ihb=>
  intro hc v;simp only[dX,jG,qAt,show((4:Int)==3)=false from rfl,cond_false,List.all_append,qAa]at hc;refine Ev.succ ?_;show Ev (fun n=>ko n _ _ env sz v (.mk 4 [] [a,b])) _;unfold ko;refine Ev.neg rfl ?_;refine Ev.neg rfl ?_;refine Ev.neg rfl ?_;refine Ev.pos rfl ?_;refine Ev.bind (a:=hasB env sz (.mk 4 [] [a,b]) v) ?_ (Ev.ret _);simp only[hasB,show((4:Int)==1)=false from rfl,show((4:Int)==2)=false from rfl,show((4:Int)==3)=false from rfl,show((4:Int)==4)=true from rfl,cond_false,cond_true,Ty.kids];cases v.kind==4 with
  |false=>exact Ev.ret _
  |true=>
   cases v.n==0 with
   |false=>exact Ev.ret _
   |true=>
    cases v.name==[]with
    |false=>exact Ev.ret _
    |true=>
     cases h2:(v.kids.length:Int)==2 with
     |false=>exact Ev.ret _
     |true=>
      simp only[cond_true,qAu];obtain⟨k,n,s,ks⟩:=v;simp only[Val.kids,beq_iff_eq]at h2
      match ks,h2 with
      |[x,y],_=>exact Ev.bind (aEr env sz a b x y k n s (iha hc.1 x) (ihb hc.2 y)) (Ev.ret _)
 |@set a ha iha=>
  intro hc v;simp only[dX,jG,qAt,show((5:Int)==3)=false from rfl,cond_false]at hc;have H:=iha hc;refine Ev.succ ?_;show Ev (fun n=>ko n _ _ env sz v (.mk 5 [] [a])) _;unfold ko;refine Ev.neg rfl ?_;refine Ev.neg rfl ?_;refine Ev.neg rfl ?_;refine Ev.neg rfl ?_;refine Ev.pos rfl ?_;simp only[hasB,show((5:Int)==1)=false from rfl,show((5:Int)==2)=false from rfl,show((5:Int)==3)=false from rfl,show((5:Int)==4)=false from rfl,cond_false,Ty.kids];have e1:(v.kind !=5)=!(v.kind==5):=rfl;have e2:(v.n !=0)=!(v.n==0):=rfl;rw[e1,e2];cases v.kind==5 with
  |false=>refine Ev.bind (a:=true) (Ev.ret _) ?_;exact Ev.ret _
  |true=>
   cases v.n==0 with
   |false=>refine Ev.bind (a:=true) (Ev.ret _) ?_;exact Ev.ret _
   |true=>
    cases v.name==[]with
    |false=>refine Ev.bind (a:=true) (Ev.ret _) ?_;exact Ev.ret _
    |true=>
     cases h256:decide (256<(v.kids.length:Int))with
     |true=>refine Ev.bind (a:=true) (Ev.ret _) ?_;exact Ev.ret _
     |false=>
      have hlen:v.kids.length≤256:=by simp at h256;omega
      have hk:Ev (fun n=>wF n [a] v.kind v.n v.name v.kids env.carriers env.names sz) (v.kids.all fun v=>hasB env sz a v):=by
       obtain⟨N,h⟩:=anQ env sz a H v.kids [];refine Ev.succ ?_;refine⟨N+v.kids.length+1,fun n hn=>?_⟩;have:=h n (by omega) n (by omega);simp only[qAo,qAA]at this;show wQ n _ _ [a] v.kind v.n v.name v.kids env.carriers env.names sz=_;unfold wQ;rw[show((0:Nat):Int)=0 from rfl]at this;rw[this];cases(v.kids.all fun v=>hasB env sz a v)<;>rfl
      simp only[qAv,cond_false,qBb,qAu,awR];refine Ev.bind (Ev.bind hk (Ev.ret _)) ?_;cases(v.kids.all fun v=>hasB env sz a v)with
      |false=>exact Ev.ret _
      |true=>
       simp only[qAv,cond_false,qAu];refine Ev.bind (a:=cond (Fp v.kids) (.nx ()) (.rt false)) ?_ (by cases Fp v.kids<;>exact Ev.ret _);cases hks:v.kids with
       |nil=>
        refine⟨1,fun n hn=>?_⟩;obtain⟨j,rfl⟩:∃j,n=j+1:=⟨n - 1,by omega⟩;show FR (j+1) _ _ v (j+1) 1=_;rw[Oo];unfold DN;rw[decide_eq_false (by rw[hks];simp)];rfl
       |cons x xs=>
        obtain⟨N,h⟩:=aqJ v xs [] x (by rw[hks];rfl) hlen;refine⟨N+xs.length+1,fun n hn=>?_⟩;have:=h n (by omega) n (by omega) (kN n) (wF n);exact this
theorem avE:∀l:List Val,Fp l=true↔l.Pairwise iA
 |[]=>by simp[Fp]
 |[a]=>by simp[Fp]
 |a::b::r=>by
  have ih:=avE (b::r);unfold Fp;rw[qAa,ih,qAV,decide_eq_false_iff_not,Int.not_le];constructor
  ·rintro⟨h1,h2⟩;refine qBn.2 ⟨fun x hx=>?_,h2⟩;rcases qAh.1 hx with rfl|hx
   ·exact h1
   ·exact BF _ _ _ h1 ((qBn.1 h2).1 x hx)
  ·intro h;exact⟨(qBn.1 h).1 b (by simp),(qBn.1 h).2⟩
section
variable {env:Env}{sz:List Int}
theorem sG{v:Val}:hasB env sz fE v=true↔∃n,v=iY n∧EU n:=by
 obtain⟨k,n,s,ks⟩:=v;rw[show hasB env sz fE (.mk k n s ks)=acs (.mk k n s ks) by unfold fE hasB;rfl];unfold acs iY EU;simp only[Val.kind,Val.n,Val.name,Val.kids,qAa,beq_iff_eq,Val.mk.injEq];constructor
 ·rintro⟨rfl,rfl,h,h1,h2⟩;have:ks=[]:=qAD.1 (by omega)
  grind
 grind
theorem Aa{v:Val}:hasB env sz aY v=true↔∃b,v=aO b:=by
 obtain⟨k,n,s,ks⟩:=v;rw[show hasB env sz aY (.mk k n s ks)=abw (.mk k n s ks) by unfold aY hasB;rfl];unfold abw aO;simp only[Val.kind,Val.n,Val.name,Val.kids];constructor
 ·simp_all
 grind
theorem qJ{a b:Ty}{v:Val}:hasB env sz (aR a b) v=true↔∃x y,v=aG x y∧hasB env sz a x=true∧hasB env sz b y=true:=by
 obtain⟨k,n,s,ks⟩:=v;have e:hasB env sz (aR a b) (.mk k n s ks)=(k==4&&(n==0&&(s==[]&&((ks.length:Int)==2&&Zk env sz [a,b] ks)))):=by unfold aR;rw[hasB];rfl
 rw[e];simp;constructor
 ·rintro⟨rfl,rfl,rfl,h,h1⟩
  match ks,h with
  |[x,y],_=>
   simp only[Zk,qAa,and_true]at h1;exact⟨x,y,rfl,h1.1,h1.2⟩
  |[],h=>simp at h
  |[x],h=>simp at h
  |x::y::z::r,h=>simp at h;omega
 ·rintro⟨x,y,h,h1,h2⟩;cases h;simp only[Zk,h1,h2];simp
theorem iV{e:Ty}{v:Val}:hasB env sz (au e) v=true↔∃l,v=mkSet l∧dO l∧∀x∈l,hasB env sz e x=true:=by
 obtain⟨k,n,s,ks⟩:=v;have e:hasB env sz (au e) (.mk k n s ks)=((k==5&&(n==0&&(s==[]&&!(decide (256<(ks.length:Int))))))&&(ks.all (fun v=>hasB env sz e v)&&Fp ks)):=by unfold au;rw[hasB];simp only[awR];rfl
 rw[e];simp only[qAa,beq_iff_eq,qAV,decide_eq_false_iff_not,avE,qAP];constructor
 ·rintro⟨⟨rfl,rfl,rfl,h⟩,h1,h2⟩;exact⟨ks,rfl,⟨h2,by omega⟩,h1⟩
 ·rintro⟨l,h,h1,h2⟩;cases h;exact⟨⟨rfl,rfl,rfl,by have:=h1.2;omega⟩,h2,h1.1⟩
theorem Br{l:List Val}{v:Val}(h:bF l=.ok v):v=gH l∧(sortV l).length≤256:=by
 unfold bF at h
 grind
theorem mZ{e:Ty}{l:List Val}{v:Val}(h:bF l=.ok v)(hl:∀x∈l,hasB env sz e x=true):hasB env sz (au e) v=true:=by
 obtain⟨rfl,h1⟩:=Br h;exact iV.2 ⟨_,rfl,⟨cZ l,h1⟩,fun x hx=>hl x ((aV l x).1 hx)⟩
theorem aq8{n:Int}{v:Val}(h:gM n=.ok v):v=iY n∧EU n:=by
 unfold gM ab1 at h;cases h1:decide (1000000000<n)with
 |true=>rw[h1]at h;cases h
 |false=>
  cases h2:decide (n< -1000000000)with
  |true=>rw[h1,h2]at h;cases h
  |false=>
   rw[h1,h2]at h;cases h;have:=of_decide_eq_false h1;have:=of_decide_eq_false h2;exact⟨rfl,by omega,by omega⟩
theorem IX{n:Int}{v:Val}(h:gM n=.ok v):hasB env sz fE v=true:=by
 obtain⟨rfl,h1⟩:=aq8 h;exact sG.2 ⟨_,rfl,h1⟩
theorem lN{b:Bool}{v:Val}(h:(.ok (aO b):VR)=.ok v):hasB env sz aY v=true:=by cases h;exact Aa.2 ⟨b,rfl⟩
theorem then_ok{β γ:Type}{r:RR β}{f:β→RR γ}{v:γ}(h:r.thn f=.ok v):∃a,r=.ok a∧f a=.ok v:=by
 cases r with
 |ok a=>exact⟨a,rfl,h⟩
 |er e=>cases h
theorem seq_ok{α:Type}(f:α→VR):∀(xs:List α) (ys:List Val),aN (xs.map f)=.ok ys→ys.length=xs.length∧∀p∈xs.zip ys,f p.1=.ok p.2
 |[],ys,h=>by cases h;simp
 |x::xs,ys,h=>by
  rw[qAy]at h;cases hx:f x with
  |er e=>rw[hx]at h;cases h
  |ok v=>
   rw[hx]at h;unfold aN at h;cases hr:aN (xs.map f)with
   |er e=>rw[hr]at h;cases h
   |ok l=>
    rw[hr]at h;cases h;obtain⟨h1,h2⟩:=seq_ok f xs l hr;refine⟨by simp[h1],fun p hp=>?_⟩;rw[List.zip_cons_cons]at hp
    grind
theorem seq1{r:VR}{f:List Val→VR}{v:Val}(h:(aN [r]).thn f=.ok v):∃a,r=.ok a∧f [a]=.ok v:=by
 cases r with
 |ok a=>exact⟨a,rfl,h⟩
 |er e=>cases h
theorem seq2{r s:VR}{f:List Val→VR}{v:Val}(h:(aN [r,s]).thn f=.ok v):∃a b,r=.ok a∧s=.ok b∧f [a,b]=.ok v:=by
 cases r with
 |ok a=>
  cases s with
  |ok b=>exact⟨a,b,rfl,rfl,h⟩
  |er e=>cases h
 |er e=>cases h
theorem Hz{l r:List Val}(h:r∈jr l):r.Sublist l:=by
 have key:∀(q pre:List Val) (os:List (List Val)),(∀r∈os,r.Sublist pre)→∀r∈q.foldl (fun out x=>out++out.map fun r=>r++[x]) os,r.Sublist (pre++q):=by
  intro q
  induction q with
  |nil=>intro pre os h r hr;rw[qAt];exact h r hr
  |cons y q ih=>
   intro pre os h r hr;have:=ih (pre++[y]) (os++os.map fun r=>r++[y]) (fun r hr=>by
    rcases qAr.1 hr with hr|hr
    ·grind
    ·obtain⟨z,hz,rfl⟩:=qAJ.1 hr;exact(h z hz).append (List.Sublist.refl _)) r hr
   grind
 exact key l [] [[]] (fun r hr=>by simp at hr;subst hr;exact List.Sublist.refl _) r h
theorem YO{op:Int}{a b:List Val}{d:Nat}(h1:1≤d)(hd:op=41→b.length≤d):∀(xs l:List Val) (x:Val),x∈iM op a b xs l→∃m,x=gH m∧(∀p∈m,p∈l∨∃u∈xs,∃v∈b,p=aG u v)∧m.length≤l.length+d*xs.length∧lC op a b m=true
 |[],l,x,h=>by
  unfold iM at h
  grind
 |y::xs,l,x,h=>by
  have ih:=YO (a:=a) h1 hd xs;unfold iM at h;have one:∀(q:List Val),(∀p∈q,∃v∈b,p=aG y v)→q.length≤d→x∈iM op a b xs (l++q)→∃m,x=gH m∧(∀p∈m,p∈l∨∃u∈y::xs,∃v∈b,p=aG u v)∧m.length≤l.length+d*(y::xs).length∧lC op a b m=true:=by
   intro q hq hl hx;obtain⟨m,e,h2,h3,h4⟩:=ih (l++q) x hx;refine⟨m,e,fun p hp=>?_,?_,h4⟩
   ·grind
   ·simp at h3⊢
    grind
  cases h41:(op==41)with
  |true=>
   rw[h41]at h;obtain⟨im,him,hx⟩:=qBx.1 h;have hs:=Hz him;refine one _ (fun p hp=>?_) ?_ hx
   ·grind
   grind
  |false=>
   rw[h41]at h;rcases qAr.1 h with h|h
   ·cases h42:(op==42)with
    |false=>rw[h42]at h;cases h
    |true=>rw[h42]at h;exact one [] (by simp) (by simp) (by simpa using h)
   ·obtain⟨v,hv,hx⟩:=qBx.1 h
    grind
theorem Sv:∀(k:Nat) (a:Int) (x:Val),x∈ints a k→∃i,x=iY i∧a≤i∧i<a+k
 |0,_,_,h=>by cases h
 |k+1,a,x,h=>by
  rcases qAh.1 h with rfl|h
  ·grind
  ·obtain⟨i,e,h1,h2⟩:=Sv k (a+1) x h
   grind
theorem IU{a b:Ty}{p:Val}(h:hasB env sz (aR a b) p=true):hasB env sz a (aJ p)=true∧hasB env sz b (aQ p)=true:=by
 obtain⟨x,y,rfl,h1,h2⟩:=qJ.1 h;exact⟨h1,h2⟩
theorem Lv{a b:Ty}{x y:Val}(h:hasB env sz a x=true)(k:hasB env sz b y=true):hasB env sz (aR a b) (aG x y)=true:=qJ.2 ⟨x,y,rfl,h,k⟩
theorem avw{op:Int}(ho:op=41∨op=42∨op=43∨op=44∨op=45){s t:Ty}{a b:List Val}(ha:dO a)(hb:dO b)(ta:∀x∈a,hasB env sz s x=true)(tb:∀x∈b,hasB env sz t x=true){l:List Val}(h:l8 op a b=.ok l):
  ∀x∈l,hasB env sz (au (aR s t)) x=true:=by
 unfold l8 at h;cases hN:kX op a.length b.length with
 |true=>rw[hN]at h;cases h;intro x hx;cases hx
 |false=>
  cases hM:je op b.length a.length 0 1 with
  |true=>rw[hN,hM]at h;cases h
  |false=>
   rw[hN,hM]at h;cases h;intro x hx;obtain⟨d,hd1,hd2,hd3⟩:∃d,1≤d∧(op=41→b.length≤d)∧d*a.length≤256:=by
    have:=ha.2;by_cases h41:op=41
    ·subst h41;have h1:=YN (.inl rfl) a.length 0 1 (by show 2^b.length≠0;have:=qCZ (n:=b.length);omega) (by omega) hM;rw[show lq 41 b.length=2^b.length from rfl,qCf,←Nat.pow_mul]at h1;have h2:b.length*a.length≤8:=by
      rcases qDq 8 (b.length*a.length)with h|h
      ·have:=Nat.pow_lt_pow_right (a:=2) (by omega) h;omega
      ·exact h
     refine⟨b.length+1,by omega,fun _=>by omega,?_⟩;rw[qAU,qCf];rcases qCY a.length with h|h
     ·grind
     ·rcases qCY b.length with h'|h'
      ·grind
      ·have:1*a.length≤b.length*a.length:=qAQ _ h';omega
    ·exact⟨1,by omega,fun h=>absurd h h41,by omega⟩
   obtain⟨m,rfl,h2,h3,_⟩:=YO hd1 hd2 a [] x hx;refine iV.2 ⟨_,rfl,⟨cZ _,?_⟩,fun p hp=>?_⟩
   ·have:=eP m
    grind
   ·rcases h2 p ((aV m p).1 hp)with h|⟨u,hu,v,hv,rfl⟩
    ·cases h
    ·exact Lv (ta u hu) (tb v hv)
inductive Scp(env:Env)(sz:List Int):List Decl→List Bound→Prop
 |nil:Scp env sz [] []
 |cons {nm:Str} {t:Ty} {v:Val} {sc:List Decl} {bs:List Bound} (h:hasB env sz t v=true) (k:Scp env sz sc bs):Scp env sz (⟨nm,t⟩::sc) (⟨nm,v⟩::bs)
def Xp(env:Env)(sz:List Int)(g:Str→Val):Prop:=∀s t,look env s=some t→hasB env sz t (g s)=true
theorem aCQ{g:Str→Val}(hg:Xp env sz g){sc:List Decl}{bs:List Bound}(h:Scp env sz sc bs)(s:Str)(t:Ty)(ht:nJ env sc s=some t):hasB env sz t (Ml g bs s)=true:=by
 unfold nJ at ht;unfold Ml
 induction h with
 |nil=>exact hg s t ht
 |cons h k ih=>
  grind
end
theorem mem2{P:Tm→Prop}{x y:Tm}(h:∀t∈[x,y],P t):P x∧P y:=by grind
set_option maxHeartbeats 4000000 in
theorem sound{env:Env}{sz:List Int}{g:Str→Val}(hg:Xp env sz g):∀t:Tm,∀(sc:List Decl) (ty:Ty) (bs:List Bound) (v:Val),HT env sc t ty→Scp env sz sc bs→aj g t bs=.ok v→hasB env sz ty v=true:=
 Tm.ind fun op nm m u ks ih sc ty bs v ht hs h=>by
 rw[bG]at h;have S:∀{e:Ty} {w:Val},hasB env sz (au e) w=true→dO w.kids∧∀x∈w.kids,hasB env sz e x=true:=fun hw=>by
  obtain⟨l,rfl,h1,h2⟩:=iV.1 hw;exact⟨h1,h2⟩
 cases ht with
 |lit op ho=>rcases ho with rfl|rfl<;>exact lN h
 |int _=>exact IX h
 |name hl=>cases h;exact aCQ hg hs _ _ hl
 |empty _=>cases h;exact iV.2 ⟨[],rfl,⟨.nil,by simp⟩,fun x hx=>by cases hx⟩
 |not _=>obtain⟨a,_,h⟩:=seq1 (r:=aj g _ bs) (f:=bB 3) h;exact lN h
 |log op ho hx hy=>
  rename_i x y;obtain⟨ix,iy⟩:=mem2 ih;rcases ho with rfl|rfl|rfl|rfl
  ·obtain⟨p,_,h⟩:=then_ok (r:=aj g x bs) h;cases hp:(p.n==1)with
   |false=>rw[hp]at h;exact lN h
   |true=>rw[hp]at h;exact iy sc aY bs v hy hs h
  ·obtain⟨p,_,h⟩:=then_ok (r:=aj g x bs) h;cases hp:(p.n==1)with
   |true=>rw[hp]at h;exact lN h
   |false=>rw[hp]at h;exact iy sc aY bs v hy hs h
  ·obtain⟨p,_,h⟩:=then_ok (r:=aj g x bs) h;cases hp:(p.n==1)with
   |false=>rw[hp]at h;exact lN h
   |true=>rw[hp]at h;exact iy sc aY bs v hy hs h
  ·obtain⟨a,b,_,_,h⟩:=seq2 (r:=aj g x bs) (s:=aj g y bs) (f:=bB 7) h;exact lN h
 |qu op ho hx hy=>
  rename_i x y e;rcases ho with rfl|rfl
  ·obtain⟨s,_,h⟩:=then_ok (r:=aj g x bs) h;obtain⟨ys,_,h⟩:=then_ok (r:=fH (aj g y) nm bs s.kids) h;exact lN h
  ·obtain⟨s,_,h⟩:=then_ok (r:=aj g x bs) h;obtain⟨ys,_,h⟩:=then_ok (r:=fH (aj g y) nm bs s.kids) h;exact lN h
 |compr hx hy=>
  rename_i x y e;obtain⟨ix,iy⟩:=mem2 ih;obtain⟨s,h1,h⟩:=then_ok (r:=aj g x bs) h;obtain⟨ys,h2,h⟩:=then_ok (r:=fH (aj g y) nm bs s.kids) h;obtain⟨_,hs2⟩:=S (ix sc _ bs s hx hs h1);refine mZ (l:=(s.kids.zip ys).flatMap fun(p:Val×Val)=>cond (p.2.n==1) [p.1] []) h fun z hz=>?_;obtain⟨p,hp,hz⟩:=qBx.1 hz;have hm:=hs2 p.1 (qCR (show(p.1,p.2)∈s.kids.zip ys from hp)).1;cases hb:(p.2.n==1)with
  |false=>rw[hb]at hz;cases hz
  |true=>
   rw[hb]at hz;have:z=p.1:=by simpa using hz
   rw[this];exact hm
 |fn hgt hx hy=>
  rename_i x y e t;obtain⟨ix,iy⟩:=mem2 ih;obtain⟨s,h1,h⟩:=then_ok (r:=aj g x bs) h;obtain⟨ys,h2,h⟩:=then_ok (r:=fH (aj g y) nm bs s.kids) h;obtain⟨_,hs2⟩:=S (ix sc _ bs s hx hs h1);refine mZ (l:=(s.kids.zip ys).flatMap fun(p:Val×Val)=>[aG p.1 p.2]) h fun z hz=>?_;obtain⟨p,hp,hz⟩:=qBx.1 hz;have hm:=hs2 p.1 (qCR (show(p.1,p.2)∈s.kids.zip ys from hp)).1;have hv:=(seq_ok (fun x=>aj g y (⟨nm,x⟩::bs)) s.kids ys h2).2 p hp;have:z=aG p.1 p.2:=by simpa using hz
  rw[this];exact Lv hm (iy _ _ _ _ hy (.cons hm hs) hv)
 |eq op ho hgt hx hy=>
  rename_i x y t;rcases ho with rfl|rfl
  ·obtain⟨a,b,_,_,h⟩:=seq2 (r:=aj g x bs) (s:=aj g y bs) (f:=bB 10) h;exact lN h
  ·obtain⟨a,b,_,_,h⟩:=seq2 (r:=aj g x bs) (s:=aj g y bs) (f:=bB 11) h;exact lN h
 |ord op ho hx hy=>
  rename_i x y;rcases ho with rfl|rfl|rfl|rfl
  ·obtain⟨a,b,_,_,h⟩:=seq2 (r:=aj g x bs) (s:=aj g y bs) (f:=bB 12) h;exact lN h
  ·obtain⟨a,b,_,_,h⟩:=seq2 (r:=aj g x bs) (s:=aj g y bs) (f:=bB 13) h;exact lN h
  ·obtain⟨a,b,_,_,h⟩:=seq2 (r:=aj g x bs) (s:=aj g y bs) (f:=bB 14) h;exact lN h
  ·obtain⟨a,b,_,_,h⟩:=seq2 (r:=aj g x bs) (s:=aj g y bs) (f:=bB 15) h;exact lN h
 |inn op ho hx hy=>
  rename_i x y t;rcases ho with rfl|rfl
  ·obtain⟨a,_,h⟩:=then_ok (r:=aj g x bs) h;obtain⟨l,_,h⟩:=then_ok (r:=vv (nu g y) bs) h;exact lN h
  ·obtain⟨a,_,h⟩:=then_ok (r:=aj g x bs) h;obtain⟨l,_,h⟩:=then_ok (r:=vv (nu g y) bs) h;exact lN h
 |sub hx hy=>
  rename_i x y t;obtain⟨a,_,h⟩:=then_ok (r:=aj g x bs) h;obtain⟨l,_,h⟩:=then_ok (r:=vv (nu g y) bs) h;exact lN h
 |neg hx=>obtain⟨a,_,h⟩:=seq1 (r:=aj g _ bs) (f:=bB 21) h;exact IX h
 |num op ho hx hy=>
  rename_i x y;rcases ho with rfl|rfl|rfl|rfl|rfl
  ·obtain⟨a,b,_,_,h⟩:=seq2 (r:=aj g x bs) (s:=aj g y bs) (f:=bB 22) h;exact IX h
  ·obtain⟨a,b,_,_,h⟩:=seq2 (r:=aj g x bs) (s:=aj g y bs) (f:=bB 23) h;exact IX h
  ·obtain⟨a,b,_,_,h⟩:=seq2 (r:=aj g x bs) (s:=aj g y bs) (f:=bB 24) h;exact IX h
  ·obtain⟨a,b,_,_,h⟩:=seq2 (r:=aj g x bs) (s:=aj g y bs) (f:=bB 25) h;have h:cond (b.n==0) (.er 10) (gM (Int.tdiv a.n b.n))=(.ok v:VR):=h;cases hb:(b.n==0)with
   |true=>rw[hb]at h;cases h
   |false=>rw[hb]at h;exact IX h
  ·obtain⟨a,b,_,_,h⟩:=seq2 (r:=aj g x bs) (s:=aj g y bs) (f:=bB 26) h;have h:cond (decide (a.n<0) ||decide (b.n<1)) (.er 10) (gM (Int.tmod a.n b.n))=(.ok v:VR):=h;cases hb:(decide (a.n<0) ||decide (b.n<1))with
   |true=>rw[hb]at h;cases h
   |false=>rw[hb]at h;exact IX h
 |pair ha hb hx hy=>
  rename_i x y a b;obtain⟨ix,iy⟩:=mem2 ih;obtain⟨a,b,h1,h2,h⟩:=seq2 (r:=aj g x bs) (s:=aj g y bs) (f:=bB 27) h;cases h;exact Lv (ix _ _ _ _ hx hs h1) (iy _ _ _ _ hy hs h2)
 |set ha hn hk=>
  rename_i a;have h:(aN ((ks.map (nu g)).map fun k=>k.f bs)).thn bF=(.ok v:VR):=h;obtain⟨l,hl,h⟩:=then_ok h;rw[qBh]at hl;obtain⟨h1,h2⟩:=seq_ok (fun t=>aj g t bs) ks l hl;refine mZ h fun z hz=>?_;obtain⟨i,hi,rfl⟩:=qBy hz;have hp:(ks[i]'(by omega),l[i])∈ks.zip l:=by
   rw[qBF];exact⟨i,by simp;omega,by simp⟩
  exact ih _ (qAO _) _ _ _ _ (hk _ (qAO _)) hs (h2 _ hp)
 |range hx hy=>
  rename_i x y;obtain⟨ix,iy⟩:=mem2 ih;obtain⟨a,b,h1,h2,h⟩:=seq2 (r:=aj g x bs) (s:=aj g y bs) (f:=bB 30) h;obtain⟨i,rfl,hi⟩:=sG.1 (ix _ _ _ _ hx hs h1);obtain⟨j,rfl,hj⟩:=sG.1 (iy _ _ _ _ hy hs h2);obtain⟨l,hl,h⟩:=then_ok (r:=sF 30 (iY i) (iY j)) (f:=bF) h;have hl:cond (decide (256≤j - i)) (.er 11) (.ok (ints i (j+1 - i).toNat))=(.ok l:xU):=hl;cases hb:decide (256≤j - i)with
  |true=>rw[hb]at hl;cases hl
  |false=>
   rw[hb]at hl;cases hl;refine mZ h fun z hz=>?_;obtain⟨k,rfl,h3,h4⟩:=Sv _ _ _ hz;have:=hi.1;have:=hj.2;exact sG.2 ⟨k,rfl,by omega,by omega⟩
 |bin op ho hx hy=>
  rename_i x y e;obtain⟨ix,iy⟩:=mem2 ih;have fin:∀(a b:Val),aj g x bs=.ok a→aj g y bs=.ok b→∀l:List Val,(∀z∈l,z∈a.kids∨z∈b.kids)→bF l=.ok v→hasB env sz (au e) v=true:=fun a b h1 h2 l hl hb=>
   mZ hb fun z hz=>(hl z hz).elim ((S (ix _ _ _ _ hx hs h1)).2 z) ((S (iy _ _ _ _ hy hs h2)).2 z)
  rcases ho with rfl|rfl|rfl
  ·obtain⟨a,b,h1,h2,h⟩:=seq2 (r:=aj g x bs) (s:=aj g y bs) (f:=bB 31) h;exact fin a b h1 h2 _ (fun z hz=>qAr.1 hz) h
  ·obtain⟨a,b,h1,h2,h⟩:=seq2 (r:=aj g x bs) (s:=aj g y bs) (f:=bB 32) h;exact fin a b h1 h2 _ (fun z hz=>.inl (qBa.1 hz).1) h
  ·obtain⟨a,b,h1,h2,h⟩:=seq2 (r:=aj g x bs) (s:=aj g y bs) (f:=bB 33) h;exact fin a b h1 h2 _ (fun z hz=>.inl (qBa.1 hz).1) h
 |prod hx hy=>
  rename_i x y s t;obtain⟨ix,iy⟩:=mem2 ih;obtain⟨a,b,h1,h2,h⟩:=seq2 (r:=aj g x bs) (s:=aj g y bs) (f:=bB 34) h;obtain⟨l,hl,h⟩:=then_ok (r:=sF 34 a b) (f:=bF) h;have hl:cond (decide (256<(a.kids.length:Int)*b.kids.length)) (.er 11) (.ok (a.kids.flatMap fun x=>b.kids.map (aG x)))=(.ok l:xU):=hl;cases hb:decide (256<(a.kids.length:Int)*b.kids.length)with
  |true=>rw[hb]at hl;cases hl
  |false=>
   rw[hb]at hl;cases hl;refine mZ h fun z hz=>?_;obtain⟨p,hp,hz⟩:=qBx.1 hz;obtain⟨q,hq,rfl⟩:=qAJ.1 hz;exact Lv ((S (ix _ _ _ _ hx hs h1)).2 p hp) ((S (iy _ _ _ _ hy hs h2)).2 q hq)
 |over hx hy=>
  rename_i x y s t;obtain⟨ix,iy⟩:=mem2 ih;obtain⟨a,b,h1,h2,h⟩:=seq2 (r:=aj g x bs) (s:=aj g y bs) (f:=bB 35) h;refine mZ (l:=a.kids.filter (fun p=>!aF (d9 b.kids) (aJ p))++b.kids) h fun z hz=>?_;rcases qAr.1 hz with hz|hz
  ·exact(S (ix _ _ _ _ hx hs h1)).2 z (qBa.1 hz).1
  ·exact(S (iy _ _ _ _ hy hs h2)).2 z hz
 |comp hx hy=>
  rename_i x y s t r;obtain⟨ix,iy⟩:=mem2 ih;obtain⟨a,b,h1,h2,h⟩:=seq2 (r:=aj g x bs) (s:=aj g y bs) (f:=bB 36) h;refine mZ (l:=a.kids.flatMap fun p=>b.kids.flatMap fun q=>cond (eD (aQ p) (aJ q)) [aG (aJ p) (aQ q)] []) h fun z hz=>?_;obtain⟨p,hp,hz⟩:=qBx.1 hz;obtain⟨q,hq,hz⟩:=qBx.1 hz;have hp:=IU ((S (ix _ _ _ _ hx hs h1)).2 p hp);have hq:=IU ((S (iy _ _ _ _ hy hs h2)).2 q hq);cases hb:eD (aQ p) (aJ q)with
  |false=>rw[hb]at hz;cases hz
  |true=>
   rw[hb]at hz;have:z=aG (aJ p) (aQ q):=by simpa using hz
   rw[this];exact Lv hp.1 hq.2
 |dres op ho hx hy=>
  rename_i x y s t;obtain⟨ix,iy⟩:=mem2 ih;rcases ho with rfl|rfl
  ·obtain⟨a,b,h1,h2,h⟩:=seq2 (r:=aj g x bs) (s:=aj g y bs) (f:=bB 37) h;exact mZ (l:=b.kids.filter _) h fun z hz=>(S (iy _ _ _ _ hy hs h2)).2 z (qBa.1 hz).1
  ·obtain⟨a,b,h1,h2,h⟩:=seq2 (r:=aj g x bs) (s:=aj g y bs) (f:=bB 38) h;exact mZ (l:=b.kids.filter _) h fun z hz=>(S (iy _ _ _ _ hy hs h2)).2 z (qBa.1 hz).1
 |rres op ho hx hy=>
  rename_i x y s t;obtain⟨ix,iy⟩:=mem2 ih;rcases ho with rfl|rfl
  ·obtain⟨a,b,h1,h2,h⟩:=seq2 (r:=aj g x bs) (s:=aj g y bs) (f:=bB 39) h;exact mZ (l:=a.kids.filter _) h fun z hz=>(S (ix _ _ _ _ hx hs h1)).2 z (qBa.1 hz).1
  ·obtain⟨a,b,h1,h2,h⟩:=seq2 (r:=aj g x bs) (s:=aj g y bs) (f:=bB 40) h;exact mZ (l:=a.kids.filter _) h fun z hz=>(S (ix _ _ _ _ hx hs h1)).2 z (qBa.1 hz).1
 |fam op ho hx hy=>
  rename_i x y s t;obtain⟨ix,iy⟩:=mem2 ih;have fin:∀(a b:Val),aj g x bs=.ok a→aj g y bs=.ok b→(l8 op a.kids b.kids).thn bF=.ok v→hasB env sz (au (au (aR s t))) v=true:=fun a b h1 h2 h=>by
   obtain⟨l,hl,h⟩:=then_ok h;obtain⟨a1,a2⟩:=S (ix _ _ _ _ hx hs h1);obtain⟨b1,b2⟩:=S (iy _ _ _ _ hy hs h2);exact mZ h (avw ho a1 b1 a2 b2 hl)
  rcases ho with rfl|rfl|rfl|rfl|rfl
  ·obtain⟨a,b,h1,h2,h⟩:=seq2 (r:=aj g x bs) (s:=aj g y bs) (f:=bB 41) h;exact fin a b h1 h2 h
  ·obtain⟨a,b,h1,h2,h⟩:=seq2 (r:=aj g x bs) (s:=aj g y bs) (f:=bB 42) h;exact fin a b h1 h2 h
  ·obtain⟨a,b,h1,h2,h⟩:=seq2 (r:=aj g x bs) (s:=aj g y bs) (f:=bB 43) h;exact fin a b h1 h2 h
  ·obtain⟨a,b,h1,h2,h⟩:=seq2 (r:=aj g x bs) (s:=aj g y bs) (f:=bB 44) h;exact fin a b h1 h2 h
  ·obtain⟨a,b,h1,h2,h⟩:=seq2 (r:=aj g x bs) (s:=aj g y bs) (f:=bB 45) h;exact fin a b h1 h2 h
 |pow hx=>
  rename_i x e;obtain⟨a,h1,h⟩:=seq1 (r:=aj g x bs) (f:=bB 46) h;obtain⟨a1,a2⟩:=S (ih x (by simp) _ _ _ _ hx hs h1);obtain⟨l,hl,h⟩:=then_ok (r:=sF 46 a v0) (f:=bF) h;have hl:cond (decide (8<(a.kids.length:Int))) (.er 11) (.ok ((jr a.kids).map mkSet))=(.ok l:xU):=hl;cases hb:decide (8<(a.kids.length:Int))with
  |true=>rw[hb]at hl;cases hl
  |false=>
   rw[hb]at hl;cases hl;refine mZ h fun z hz=>?_;obtain⟨r,hr,rfl⟩:=qAJ.1 hz;have hr:=Hz hr;exact iV.2 ⟨r,rfl,⟨a1.1.sublist hr,qAs hr.length_le a1.2⟩,fun z hz=>a2 z (hr.subset hz)⟩
 |card hx=>obtain⟨a,_,h⟩:=seq1 (r:=aj g _ bs) (f:=bB 47) h;exact IX h
 |ext op ho hx=>
  rename_i x;rcases ho with rfl|rfl
  ·obtain⟨a,h1,h⟩:=seq1 (r:=aj g x bs) (f:=bB 48) h;obtain⟨a1,a2⟩:=S (ih x (by simp) _ _ _ _ hx hs h1);have h:(match a.kids with|[]=>(.er 10:VR)|x::_=>.ok x)=(.ok v:VR):=h;cases hk:a.kids with
   |nil=>rw[hk]at h;cases h
   |cons z l=>rw[hk]at h;cases h;exact a2 _ (by rw[hk];simp)
  ·obtain⟨a,h1,h⟩:=seq1 (r:=aj g x bs) (f:=bB 49) h;obtain⟨a1,a2⟩:=S (ih x (by simp) _ _ _ _ hx hs h1);have h:(match a.kids.getLast? with|none=>(.er 10:VR)|some x=>.ok x)=(.ok v:VR):=h;cases hk:a.kids.getLast? with
   |none=>rw[hk]at h;cases h
   |some z=>rw[hk]at h;cases h;exact a2 _ (qDI hk)
 |dom hx=>
  rename_i x s t;obtain⟨a,h1,h⟩:=seq1 (r:=aj g x bs) (f:=bB 50) h;obtain⟨a1,a2⟩:=S (ih x (by simp) _ _ _ _ hx hs h1);refine mZ (l:=d9 a.kids) h fun z hz=>?_;obtain⟨p,hp,rfl⟩:=qAJ.1 ((aV _ _).1 hz);exact(IU (a2 p hp)).1
 |ran hx=>
  rename_i x s t;obtain⟨a,h1,h⟩:=seq1 (r:=aj g x bs) (f:=bB 51) h;obtain⟨a1,a2⟩:=S (ih x (by simp) _ _ _ _ hx hs h1);refine mZ (l:=bC a.kids) h fun z hz=>?_;obtain⟨p,hp,rfl⟩:=qAJ.1 ((aV _ _).1 hz);exact(IU (a2 p hp)).2
 |inv hx=>
  rename_i x s t;obtain⟨a,h1,h⟩:=seq1 (r:=aj g x bs) (f:=bB 52) h;obtain⟨a1,a2⟩:=S (ih x (by simp) _ _ _ _ hx hs h1);refine mZ (l:=a.kids.map fun p=>aG (aQ p) (aJ p)) h fun z hz=>?_;obtain⟨p,hp,rfl⟩:=qAJ.1 hz;exact Lv (IU (a2 p hp)).2 (IU (a2 p hp)).1
 |image hx hy=>
  rename_i x y s t;obtain⟨ix,iy⟩:=mem2 ih;obtain⟨a,b,h1,h2,h⟩:=seq2 (r:=aj g x bs) (s:=aj g y bs) (f:=bB 53) h;refine mZ (l:=bC (a.kids.filter fun p=>aF b.kids (aJ p))) h fun z hz=>?_;obtain⟨p,hp,rfl⟩:=qAJ.1 ((aV _ _).1 hz);exact(IU ((S (ix _ _ _ _ hx hs h1)).2 p (qBa.1 hp).1)).2
 |app hx hy=>
  rename_i x y s;obtain⟨ix,iy⟩:=mem2 ih;obtain⟨a,b,h1,h2,h⟩:=seq2 (r:=aj g x bs) (s:=aj g y bs) (f:=bB 54) h;have h:LV a b=(.ok v:VR):=h;unfold LV at h;have hsub:∀p∈a.kids.filter (fun p=>eD (aJ p) b),p∈a.kids:=fun p hp=>(qBa.1 hp).1
  match a.kids.filter (fun p=>eD (aJ p) b),hsub,h with
  |[p],hsub,h=>cases h;exact(IU ((S (ix _ _ _ _ hx hs h1)).2 p (hsub p (by simp)))).2
  |[],_,h=>cases h
  |p::q::r,_,h=>cases h
end Abs
end Go.Proofs.YtneeginmfjageaaGreat
