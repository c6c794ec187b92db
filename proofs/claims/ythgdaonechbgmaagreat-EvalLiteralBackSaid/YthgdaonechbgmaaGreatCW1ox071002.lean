/-
  What a term evaluates to, plainly. Conditions: none; definitions.
-/
import Derived.Test.YthgdaonechbgmaaGreatCP8ox7d5bce
set_option linter.all false
namespace Go.Proofs.YthgdaonechbgmaaGreat
namespace Abs
open Go
inductive RR(β:Type) where
 |ok (v:β)
 |er (e:Int)
abbrev VR:=RR Val
abbrev xU:=RR (List Val)
def RR.thn{β γ:Type}(r:RR β)(f:β→RR γ):RR γ:=match r with| .ok v=>f v| .er e=>.er e
def aN:List VR→xU
 |[]=>.ok []
 | .er e::_=>.er e
 | .ok v::r=>match aN r with| .er e=>.er e| .ok l=>.ok (v::l)
def v0:Val:=.mk 0 0 [] []
def iY(n:Int):Val:=.mk 1 n [] []
def aO(b:Bool):Val:=cond b (.mk 2 1 [] []) (.mk 2 0 [] [])
def aG(a b:Val):Val:=.mk 4 0 [] [a,b]
def mkSet(l:List Val):Val:=.mk 5 0 [] l
def gH(l:List Val):Val:=mkSet (sortV l)
def aJ(p:Val):Val:=p.kids.headD v0
def aQ(p:Val):Val:=(p.kids.drop 1).headD v0
def eD(a b:Val):Bool:=bQ a b==0
def aF(l:List Val)(x:Val):Bool:=l.any fun y=>eD y x
def ab1(n:Int):Bool:=decide (1000000000<n) ||decide (n< -1000000000)
def gM(n:Int):VR:=cond (ab1 n) (.er 11) (.ok (iY n))
def bF(l:List Val):VR:=cond (decide (256<((sortV l).length:Int))) (.er 11) (.ok (gH l))
def d9(l:List Val):List Val:=sortV (l.map aJ)
def bC(l:List Val):List Val:=sortV (l.map aQ)
def ints(a:Int):Nat→List Val
 |0=>[]
 |n+1=>iY a::ints (a+1) n
def fU(l m:List Val):Bool:=(l.length:Int)==(m.length:Int)
def lC(op:Int)(a b l:List Val):Bool:=
 l.all (fun p=>aF a (aJ p)&&aF b (aQ p))&&
 cond (op==41) true (cond (op==42) (fU (d9 l) l) (cond (op==43) (fU (d9 l) l&&fU (d9 l) a)
  (cond (op==44) (fU (d9 l) l&&(fU (d9 l) a&&fU (bC l) l)) (fU (d9 l) l&&(fU (d9 l) a&&(fU (bC l) l&&fU (bC l) b))))))
def jr(l:List Val):List (List Val):=l.foldl (fun out x=>out++out.map fun r=>r++[x]) [[]]
def kX(op m n:Int):Bool:=cond (op==45&&m !=n) true (decide (44≤op)&&decide (n<m))
def yQ(op n i:Int):Int:=cond (op==41) (2^n.toNat) (cond (op==42) (n+1) (cond (op==44 ||op==45) (n - i) n))
def je(op n:Int):Nat→Int→Int→Bool
 |0,_,_=>false
 |k+1,i,c=>cond (op==41&&decide (8<n)) true (cond (yQ op n i==0) false (cond (decide (256<c*yQ op n i)) true (je op n k (i+1) (c*yQ op n i))))
def iM(op:Int)(a b:List Val):List Val→List Val→List Val
 |[],l=>cond (lC op a b l) [gH l] []
 |x::xs,l=>cond (op==41) ((jr b).flatMap fun im=>iM op a b xs (l++im.map (aG x)))
  (cond (op==42) (iM op a b xs l) []++b.flatMap fun v=>cond (decide (44≤op)&&aF (bC l) v) [] (iM op a b xs (l++[aG x v])))
def l8(op:Int)(a b:List Val):xU:=
 cond (kX op a.length b.length) (.ok []) (cond (je op b.length a.length 0 1) (.er 11) (.ok (iM op a b a [])))
def sF(op:Int)(a b:Val):xU:=
 cond (op==30) (cond (decide (256≤b.n - a.n)) (.er 11) (.ok (ints a.n (b.n+1 - a.n).toNat))) <|
 cond (op==31) (.ok (a.kids++b.kids)) <|
 cond (op==32) (.ok (a.kids.filter (aF b.kids))) <|
 cond (op==33) (.ok (a.kids.filter fun x=>!aF b.kids x)) <|
 cond (op==34) (cond (decide (256<(a.kids.length:Int)*b.kids.length)) (.er 11) (.ok (a.kids.flatMap fun x=>b.kids.map (aG x)))) <|
 cond (op==35) (.ok (a.kids.filter (fun p=>!aF (d9 b.kids) (aJ p))++b.kids)) <|
 cond (op==36) (.ok (a.kids.flatMap fun p=>b.kids.flatMap fun q=>cond (eD (aQ p) (aJ q)) [aG (aJ p) (aQ q)] [])) <|
 cond (op==37) (.ok (b.kids.filter fun p=>aF a.kids (aJ p))) <|
 cond (op==38) (.ok (b.kids.filter fun p=>!aF a.kids (aJ p))) <|
 cond (op==39) (.ok (a.kids.filter fun p=>aF b.kids (aQ p))) <|
 cond (op==40) (.ok (a.kids.filter fun p=>!aF b.kids (aQ p))) <|
 cond (op==46) (cond (decide (8<(a.kids.length:Int))) (.er 11) (.ok ((jr a.kids).map mkSet))) <|
 cond (op==50) (.ok (d9 a.kids)) <|
 cond (op==51) (.ok (bC a.kids)) <|
 cond (op==52) (.ok (a.kids.map fun p=>aG (aQ p) (aJ p))) <|
 cond (op==53) (.ok (bC (a.kids.filter fun p=>aF b.kids (aJ p)))) <|
 l8 op a.kids b.kids
def ai1(op a b:Int):VR:=
 cond (op==21) (gM (-a)) <|
 cond (op==22) (gM (a+b)) <|
 cond (op==23) (gM (a - b)) <|
 cond (op==24) (gM (a*b)) <|
 cond (op==25) (cond (b==0) (.er 10) (gM (Int.tdiv a b))) <|
 cond (decide (a<0) ||decide (b<1)) (.er 10) (gM (Int.tmod a b))
def LV(a b:Val):VR:=match a.kids.filter fun p=>eD (aJ p) b with
 |[p]=>.ok (aQ p)
 |_=>.er 10
def CG(op:Int)(a b:Val):VR:=
 cond (op==3) (.ok (aO (a.n==0))) <|
 cond (op==7) (.ok (aO (a.n==b.n))) <|
 cond (op==10) (.ok (aO (eD a b))) <|
 cond (op==11) (.ok (aO (!eD a b))) <|
 cond (op==12) (.ok (aO (decide (a.n<b.n)))) <|
 cond (op==13) (.ok (aO (decide (a.n≤b.n)))) <|
 cond (op==14) (.ok (aO (decide (b.n<a.n)))) <|
 cond (op==15) (.ok (aO (decide (b.n≤a.n)))) <|
 cond (op==27) (.ok (aG a b)) <|
 cond (op==54) (LV a b) <|
 cond (decide (op≤26)) (ai1 op a.n b.n) <|
 cond (op==47) (gM a.kids.length) <|
 cond (op==48) (match a.kids with|[]=>.er 10|x::_=>.ok x) <|
 cond (op==49) (match a.kids.getLast? with|none=>.er 10|some x=>.ok x) <|
 (sF op a b).thn bF
def iO(op:Int):Bool:=decide (41≤op)&&decide (op≤46)
def iB(op:Int)(l:List Val)(x:Val):Bool:=
 cond (iO op) (cond (op==46) (x.kids.all (aF (l.headD v0).kids)) (lC op (l.headD v0).kids ((l.drop 1).headD v0).kids x.kids)) (aF (l.headD v0).kids x)
def nZ(op:Int)(xs ys:List Val):VR:=
 cond (op==8) (.ok (aO (ys.all fun y=>y.n==1))) <|
 cond (op==9) (.ok (aO (ys.any fun y=>y.n==1))) <|
 bF ((xs.zip ys).flatMap fun p=>cond (op==56) [aG p.1 p.2] (cond (p.2.n==1) [p.1] []))
abbrev Sem:=List Bound→VR
structure Kd where
 op:Int
 f:Sem
 gs:List Sem
def kd0:Kd:=⟨0,fun _=>.er 0,[]⟩
def vv(k:Kd)(bs:List Bound):xU:=cond (iO k.op) (aN (k.gs.map fun g=>g bs)) (aN [k.f bs])
def X9(op:Int)(k:Kd)(bs:List Bound)(x:Val):VR:=(vv k bs).thn fun l=>.ok (aO (cond (op==18) (x.kids.all (iB k.op l)) (iB k.op l x==(op==16))))
def fH(f:Sem)(nm:Str)(bs:List Bound)(xs:List Val):xU:=aN (xs.map fun x=>f (⟨nm,x⟩::bs))
def bB(op:Int)(l:List Val):VR:=cond (op==28) (bF l) (CG op (l.headD v0) ((l.drop 1).headD v0))
def Ml(g:Str→Val)(bs:List Bound)(s:Str):Val:=match bs.find? (fun b=>b.name==s)with
 |some b=>b.v
 |none=>g s
def Za(g:Str→Val)(op:Int)(nm:Str)(m:Int)(ks:List Kd)(bs:List Bound):VR:=
 let k0:=ks.headD kd0
 let k1:=(ks.drop 1).headD kd0
 cond (op==1 ||op==2) (.ok (aO (op==1))) <|
 cond (op==19) (gM m) <|
 cond (op==20) (.ok (Ml g bs nm)) <|
 cond (op==29) (.ok (mkSet [])) <|
 cond (op==4 ||(op==5 ||op==6)) ((k0.f bs).thn fun p=>cond (op==4&&!(p.n==1)) (.ok (aO false)) (cond ((op==5&&p.n==1) ||(op==6&&!(p.n==1))) (.ok (aO true)) (k1.f bs))) <|
 cond (bY op) ((k0.f bs).thn fun s=>(fH k1.f nm bs s.kids).thn fun ys=>nZ op s.kids ys) <|
 cond (op==16 ||(op==17 ||op==18)) ((k0.f bs).thn (X9 op k1 bs)) <|
 (aN (ks.map fun k=>k.f bs)).thn (bB op)
mutual
def aj(g:Str→Val):Tm→Sem
 | .mk op nm m _ ks=>Za g op nm m (agi g ks)
def agi(g:Str→Val):List Tm→List Kd
 |[]=>[]
 | .mk op nm m _ ks::ts=>⟨op,Za g op nm m (agi g ks),aqv g ks⟩::agi g ts
def aqv(g:Str→Val):List Tm→List Sem
 |[]=>[]
 | .mk op nm m _ ks::ts=>Za g op nm m (agi g ks)::aqv g ts
end
def nu(g:Str→Val)(t:Tm):Kd:=⟨t.op,aj g t,t.kids.map (aj g)⟩
theorem auL(g:Str→Val):∀ts:List Tm,aqv g ts=ts.map (aj g)
 |[]=>by rw[aqv,qCM]
 | .mk op nm m ty ks::ts=>by rw[aqv,qAy,aj,auL g ts]
theorem awc(g:Str→Val):∀ts:List Tm,agi g ts=ts.map (nu g)
 |[]=>by rw[agi,qCM]
 | .mk op nm m ty ks::ts=>by rw[agi,qAy,nu,aj,awc g ts,auL];rfl
theorem bG(g:Str→Val)(op:Int)(nm:Str)(m:Int)(ty:Ty)(ks:List Tm):aj g (.mk op nm m ty ks)=Za g op nm m (ks.map (nu g)):=by rw[aj,awc]
theorem NT(n:Nat)(qbm:Val→Val→Option Bool)(qbn:(List Val)→(List Val)→Option Bool)(p0:List Val)(p1:List Val)(k:Nat)(s:Int):zQ n qbm qbn p0 p1 (k+1) s=yB n qbm qbn p0 p1 (zQ n qbm qbn p0 p1 k) s:=rfl
theorem RB(n:Nat)(qby:Val→Option Val)(x1:List Val)(k:Nat)(s:(Int×(List Val))):Ep n qby x1 (k+1) s=Cg n qby x1 (Ep n qby x1 k) s:=rfl
mutual
def pY:Val→Prop
 | .mk _ _ _ ks=>ks.length*56≤140737488355328∧F5 ks
def F5:List Val→Prop
 |[]=>True
 |v::vs=>pY v∧F5 vs
end
theorem ahM:∀{vs:List Val},F5 vs→∀v∈vs,pY v
 |[],_,_,h=>by cases h
 |v::vs,h,u,hu=>by
  simp only[F5]at h;rcases qAh.1 hu with rfl|hu
  ·exact h.1
  ·exact ahM h.2 u hu
theorem pY.kids{v:Val}(h:pY v):v.kids.length*56≤140737488355328∧∀u∈v.kids,pY u:=by
 cases v;exact⟨h.1,ahM h.2⟩
theorem dQ{l ys:List Val}(h:(l.length+ys.length)*56≤140737488355328):app 56 l ys=some (l++ys):=by
 unfold app
 grind
theorem NV{α:Type}(x:α)(l:List α):idx (x::l) 0=some x:=by simp[idx]
theorem ayw{α:Type}:∀(pre:List α) (x:α) (suf:List α),(pre++x::suf).set pre.length x=pre++x::suf
 |[],_,_=>rfl
 |p::pre,x,suf=>by simp
theorem afB(l:List Val):∀(asx pre:List Val),l=pre++asx→(∀a∈asx,Ev (fun n=>uE n a) a)→∃N,∀n,N≤n→∀k,asx.length+1≤k→Ep n (uE n) l k ((pre.length:Int),pre++asx)=some (.nx (pre++asx))
 |[],pre,hp,_=>by
  refine⟨0,fun n _ k hk=>?_⟩;obtain⟨j,rfl⟩:∃j,k=j+1:=⟨k - 1,by simp at hk;omega⟩;rw[RB];unfold Cg;rw[decide_eq_false (by rw[hp];simp)];rfl
 |a::asx,pre,hp,H=>by
  obtain⟨N1,h1⟩:=H a (by simp);obtain⟨N2,h2⟩:=afB l asx (pre++[a]) (by simp[hp]) (fun x hx=>H x (by simp[hx]));refine⟨N1+N2,fun n hn k hk=>?_⟩;obtain⟨j,rfl⟩:∃j,k=j+1:=⟨k - 1,by simp at hk;omega⟩;have h1:uE n a=_:=h1 n (by omega);have h2:=h2 n (by omega) j (by simp at hk;omega);rw[RB];unfold Cg;rw[decide_eq_true (by rw[hp];simp;omega)];simp only[cond_true,gJ,qAb];rw[h1];simp only[qAb];have e:upd (pre++a::asx) (pre.length:Int) a=pre++a::asx:=by
   unfold upd;rw[qBM,ayw]
  rw[e,show(pre.length:Int)+1=((pre++[a]).length:Int) by simp];simpa using h2
theorem adp(v:Val)(hv:pY v):Ev (fun n=>uE n v) v:=by
 induction v using Val.ind with
 |h k n s ks ih=>
  obtain⟨h1,h2⟩:=hv.kids;simp only[Val.kids]at h1 h2;obtain⟨N,h⟩:=afB ks ks [] rfl (fun a ha=>ih a ha (h2 a ha));refine Ev.succ ⟨N+ks.length+1,fun m hm=>?_⟩;have:=h m (by omega) m (by omega);show Hl m _ (.mk k n s ks)=_;unfold Hl Df yA;simp only[Val.kids];rw[dQ (by simpa using h1)];simp only[qAb,qAo,qAA]at this⊢;rw[show((0:Nat):Int)=0 from rfl]at this;rw[this];rfl
theorem adH(x y:Int):(lex x y==0)=((x==0)&&(y==0)):=by
 rw[qCe];simp[RO]
theorem anM:∀(asx:List Val),(∀a∈asx,∀b,Ev (fun n=>dB n a b) (bQ a b==0))→∀(bs pa pb:List Val),pa.length=pb.length→asx.length=bs.length→∃N,∀n,N≤n→∀k,asx.length+1≤k→zQ n (dB n) (vY n) (pa++asx) (pb++bs) k (pa.length:Int)=some (cond (eZ asx bs==0) (.nx ()) (.rt false))
 |[],_,bs,pa,pb,hp,hl=>by
  have:bs=[]:=qAD.1 (by simpa using hl.symm);subst this;refine⟨0,fun n _ k hk=>?_⟩;obtain⟨j,rfl⟩:∃j,k=j+1:=⟨k - 1,by simp at hk;omega⟩;rw[NT];unfold yB;rw[decide_eq_false (by simp)];rfl
 |a::asx,H,[],pa,pb,hp,hl=>by simp at hl
 |a::asx,H,b::bs,pa,pb,hp,hl=>by
  obtain⟨N1,h1⟩:=H a (by simp) b;obtain⟨N2,h2⟩:=anM asx (fun x hx=>H x (by simp[hx])) bs (pa++[a]) (pb++[b]) (by simp[hp]) (by simpa using hl);refine⟨N1+N2,fun n hn k hk=>?_⟩;obtain⟨j,rfl⟩:∃j,k=j+1:=⟨k - 1,by simp at hk;omega⟩;have h1:dB n a b=_:=h1 n (by omega);have h2:=h2 n (by omega) j (by simp at hk;omega);rw[NT];unfold yB;rw[decide_eq_true (by simp<;>omega),gJ];simp only[cond_true,qAb];rw[show(pa.length:Int)=(pb.length:Int) by rw[hp],gJ];simp only[qAb];rw[h1];simp only[qAb,uo,adH];cases bQ a b==0 with
  |false=>rfl
  |true=>
   simp only[qAv,cond_false,qAu];rw[show(pb.length:Int)+1=((pa++[a]).length:Int) by simp[hp]];simpa using h2
theorem Xz(l m:List Val)(H:∀a∈l,∀b,Ev (fun n=>dB n a b) (bQ a b==0)):Ev (fun n=>vY n l m) (eZ l m==0):=by
 refine Ev.succ ?_;show Ev (fun n=>Dc n _ _ l m) _;unfold Dc;by_cases hl:l.length=m.length
 ·obtain⟨N,h⟩:=anM l H m [] [] rfl hl;refine⟨N+l.length+1,fun n hn=>?_⟩
  grind
 ·have e:((l.length:Int)!=(m.length:Int))=true:=by simp<;>omega
  have e2:(eZ l m==0)=false:=by
   cases h:eZ l m==0 with
   |false=>rfl
   |true=>exact absurd (congrArg List.length ((YZ l m).1 (by simpa using h))) hl
  rw[e,e2];exact Ev.ret _
theorem acB(a b:Val):Ev (fun n=>dB n a b) (bQ a b==0):=by
 revert b
 induction a using Val.ind with
 |h k n s ks ih=>
  intro b;obtain⟨k',n',s',ks'⟩:=b;refine Ev.succ ?_;show Ev (fun m=>Fe m _ _ (.mk k n s ks) (.mk k' n' s' ks')) _;unfold Fe;simp only[Val.kind,Val.n,Val.name];have e1:(kP k k'==0)=(k==k'):=by rw[qCe];simp[pF]
  have e2:(kP n n'==0)=(n==n'):=by rw[qCe];simp[pF]
  have e3:(Lib.compareBytes s s'==0)=(s==s'):=by rw[qCe];simp[Qp]
  rw[zw,adH,adH,adH,e1,e2,e3];cases k==k' with
  |false=>exact Ev.bind (Ev.ret _) (Ev.ret _)
  |true=>
   cases n==n' with
   |false=>exact Ev.bind (Ev.ret _) (Ev.ret _)
   |true=>
    cases s==s' with
    |false=>exact Ev.bind (Ev.ret _) (Ev.ret _)
    |true=>exact Ev.bind (Ev.bind (Xz ks ks' ih) (Ev.ret _)) (Ev.ret _)
theorem aHt{α β:Type}(l:List α)(f:Nat→α→Option β)(g:α→β)(h:∀x∈l,Ev (fun n=>f n x) (g x)):∃N,∀n,N≤n→∀x∈l,f n x=some (g x):=by
 induction l with
 |nil=>exact⟨0,fun _ _ x hx=>by cases hx⟩
 |cons a l ih=>
  obtain⟨N,h1⟩:=h a (by simp);obtain⟨M,h2⟩:=ih fun x hx=>h x (by simp[hx]);refine⟨N+M,fun n hn x hx=>?_⟩;rcases qAh.1 hx with rfl|hx
  ·exact h1 n (by omega)
  ·exact h2 n (by omega) x hx
theorem wI{α σ S τ ρ:Type}(l:List α)(B:Nat→(S→Option (LR τ ρ))→S→Option (LR τ ρ))(pk:Int→σ→S)(st:α→σ→LR σ ρ)(fin:σ→τ)(I:List α→σ→Prop)
  (he:∀n rec s,B n rec (pk (l.length:Int) s)=some (.nx (fin s)))
  (hs:∀pre x suf s,l=pre++x::suf→I (x::suf) s→(∃N,∀n,N≤n→∀rec,B n rec (pk (pre.length:Int) s)=match st x s with| .nx s'=>rec (pk ((pre.length:Int)+1) s')| .rt r=>some (.rt r))∧∀s',st x s=.nx s'→I suf s')
  {s0:σ} (h0:I l s0):Ev (fun n=>aL (B n) n (pk 0 s0)) (fG st fin l s0):=by
 have key:∀(suf pre:List α) (s:σ),l=pre++suf→I suf s→∃N,∀n,N≤n→∀k,suf.length+1≤k→aL (B n) k (pk (pre.length:Int) s)=some (fG st fin suf s):=by
  intro suf
  induction suf with
  |nil=>
   intro pre s hl _;refine⟨0,fun n _ k hk=>?_⟩;obtain⟨j,rfl⟩:∃j,k=j+1:=⟨k - 1,by simp at hk;omega⟩;rw[show(pre.length:Int)=(l.length:Int) by rw[hl];simp];exact he n _ s
  |cons x suf ih=>
   intro pre s hl hI;obtain⟨⟨N,h1⟩,h2⟩:=hs pre x suf s hl hI;cases hx:st x s with
   |rt r=>
    refine⟨N,fun n hn k hk=>?_⟩;obtain⟨j,rfl⟩:∃j,k=j+1:=⟨k - 1,by simp at hk;omega⟩;have:=h1 n hn (aL (B n) j);rw[hx]at this;show B n (aL (B n) j) _=_;rw[this];simp only[fG,hx]
   |nx s'=>
    obtain⟨M,h3⟩:=ih (pre++[x]) s' (by simp[hl]) (h2 s' hx);refine⟨N+M,fun n hn k hk=>?_⟩;obtain⟨j,rfl⟩:∃j,k=j+1:=⟨k - 1,by simp at hk;omega⟩;have:=h1 n (by omega) (aL (B n) j);rw[hx]at this;show B n (aL (B n) j) _=_;rw[this];have h4:=h3 n (by omega) j (by simp at hk;omega);rw[show((pre++[x]).length:Int)=(pre.length:Int)+1 by simp]at h4;simp only[fG,hx];exact h4
 obtain⟨N,h⟩:=key l [] s0 rfl h0;exact⟨N+l.length+1,fun n hn=>h n (by omega) n (by omega)⟩
theorem agl{α β τ ρ:Type}(g:α→List β)(fin:List β→τ):∀(l:List α) (s:List β),fG (ρ:=ρ) (fun x s=>.nx (s++g x)) fin l s=.nx (fin (s++l.flatMap g))
 |[],s=>by simp[fG]
 |x::l,s=>by simp only[fG];rw[agl g fin l];simp
theorem ajV{α β S τ ρ:Type}(l:List α)(B:Nat→(S→Option (LR τ ρ))→S→Option (LR τ ρ))(pk:Int→List β→S)(fin:List β→τ)(g:α→List β)(M:Nat)
  (he:∀n rec s,B n rec (pk (l.length:Int) s)=some (.nx (fin s)))
  (hs:∀pre x suf s,l=pre++x::suf→s.length+(g x).length≤M→∃N,∀n,N≤n→∀rec,B n rec (pk (pre.length:Int) s)=rec (pk ((pre.length:Int)+1) (s++g x)))
  {s0:List β} (h0:s0.length+(l.flatMap g).length≤M):Ev (fun n=>aL (B n) n (pk 0 s0)) (LR.nx (fin (s0++l.flatMap g))):=by
 rw[←agl (ρ:=ρ) g fin l s0];refine wI l B pk _ fin (fun suf s=>s.length+(suf.flatMap g).length≤M) he (fun pre x suf s hl hI=>?_) h0;simp only[qBf,qAe]at hI;refine⟨hs pre x suf s hl (by omega),fun s' e=>?_⟩;cases e;simp only[qAe];omega
theorem mG{α S ρ:Type}(l:List α)(B:Nat→(S→Option (LR (List Val) ρ))→S→Option (LR (List Val) ρ))(pk:Int→List Val→S)(g:α→List Val)(M:Nat)(hM:M*56≤140737488355328)
  (he:∀n rec s,B n rec (pk (l.length:Int) s)=some (.nx s))
  (hs:∀pre x suf s,l=pre++x::suf→(s.length+(g x).length)*56≤140737488355328→∃N,∀n,N≤n→∀rec,B n rec (pk (pre.length:Int) s)=rec (pk ((pre.length:Int)+1) (s++g x)))
  {s0:List Val} (h0:s0.length+(l.flatMap g).length≤M):Ev (fun n=>aL (B n) n (pk 0 s0)) (LR.nx (s0++l.flatMap g)):=
 ajV l B pk (fun s=>s) g M he (fun pre x suf s hl h=>hs pre x suf s hl (by omega)) h0
def axI(l:List Val)(P:Nat→Val→Option Bool)(n:Nat)(rec:(List Val×Int)→Option (LR (List Val) (List Val)))(s:List Val×Int):Option (LR (List Val) (List Val)):=
 cond (decide (s.2<(l.length:Int))) ((((idx l s.2).bind fun(x1:Val)=>((P n x1).bind fun(x2:Bool)=>(cond x2 ((app 56 s.1 ([x1])).bind fun(x3:List Val)=>some x3) (some s.1)))):Option (List Val)).bind fun(s3:List Val)=>rec (s3,(s.2+1))) (some (.nx s.1))
theorem zn{α:Type}(p:α→Bool)(l:List α):l.flatMap (fun x=>cond (p x) [x] [])=l.filter p:=by
 induction l with
 |nil=>rfl
 |cons x l ih=>rw[qBf,ih,List.filter_cons];cases p x<;>rfl
theorem flatMap_one{α β:Type}(f:α→β)(l:List α):l.flatMap (fun x=>[f x])=l.map f:=by
 induction l with
 |nil=>rfl
 |cons x l ih=>rw[qBf,ih];rfl
theorem at_end{α:Type}(l:List α):decide ((l.length:Int)<(l.length:Int))=false:=decide_eq_false (Int.lt_irrefl _)
theorem bg{α:Type}{l pre suf:List α}{x:α}(h:l=pre++x::suf):decide ((pre.length:Int)<(l.length:Int))=true∧idx l (pre.length:Int)=some x:=by
 subst h;exact⟨decide_eq_true (by simp;omega),gJ _ _ _⟩
theorem D5(l:List Val)(P:Nat→Val→Option Bool)(p:Val→Bool)(hp:∀x∈l,Ev (fun n=>P n x) (p x))(hl:l.length≤1000000):
  Ev (fun n=>(aL (axI l P n) n (([]:List Val),(0:Int))).bind (LR.el (fun s2=>some s2) (fun r=>some r))) (l.filter p):=by
 have h:=mG l (axI l P) (fun i s=>(s,i)) (fun x=>cond (p x) [x] []) 1000000 (by omega) (fun n rec s=>by unfold axI;rw[at_end];rfl) (fun pre x suf s e hb=>by
  obtain⟨N,h⟩:=hp x (by simp[e]);refine⟨N,fun n hn rec=>?_⟩;have h:P n x=_:=h n hn;unfold axI;rw[(bg e).1];simp only[cond_true,(bg e).2,qAb,h];cases hx:p x
  ·simp
  ·rw[hx]at hb;simp only[cond_true,qAp,qAA]at hb⊢;rw[dQ (by simpa using hb)];rfl) (s0:=[]) (by rw[zn];have:=qCJ p l;simp only[qAA];omega)
 rw[zn,qAo]at h;exact Ev.bind h (Ev.ret _)
theorem dN(l:List Val)(x:Val):aF l x=true↔x∈l:=by
 unfold aF eD;rw[qCB];constructor
 ·rintro⟨y,hy,h⟩;rw[beq_iff_eq,gF]at h;exact h▸hy
 ·exact fun h=>⟨x,h,by rw[beq_iff_eq,gF]⟩
theorem akO{l:List Val}(h:l.Pairwise iA){i j:Nat}(hij:i<j)(hj:j<l.length):iA (l[i]'(by omega)) l[j]:=List.pairwise_iff_getElem.1 h i j (by omega) hj hij
theorem aBt(l:List Val)(x:Val)(hs:l.Pairwise iA)(hl:l.length≤1000000)(n:Nat)(hc:∀y∈l,dY n y x=some (bQ y x)):∀(d lo hi:Nat),lo≤hi→hi≤l.length→hi - lo≤d→
  (∀i (h:i<l.length),i<lo→bQ l[i] x<0)→(∀i (h:i<l.length),hi≤i→¬bQ l[i] x<0)→
  ∃r:Nat,r≤l.length∧(∀i (h:i<l.length),i<r→bQ l[i] x<0)∧(∀i (h:i<l.length),r≤i→¬bQ l[i] x<0)∧∀k,d+1≤k→uL n l x k ((lo:Int),(hi:Int))=some (.nx (r:Int)):=by
 intro d
 induction d with
 |zero=>
  intro lo hi h1 h2 h3 ha hb;have:lo=hi:=by omega
  subst this;refine⟨lo,h2,ha,hb,fun k hk=>?_⟩;obtain⟨j,rfl⟩:∃j,k=j+1:=⟨k - 1,by omega⟩;show dZ n l x _ _=_;unfold dZ;rw[decide_eq_false (by simp)];rfl
 |succ d ih=>
  intro lo hi h1 h2 h3 ha hb;by_cases hlt:lo<hi
  ·have hm:(lo+hi)/2<l.length:=by omega
   have hx:=hc l[(lo+hi)/2] (qAO hm);have hi':idx l (((lo+hi)/2:Nat):Int)=some l[(lo+hi)/2]:=by
    unfold idx;rw[if_pos (by omega),qBM,qAc hm]
   have e1:IntKind.wrap .u64 (IntKind.wrap .i64 ((lo:Int)+(hi:Int)))=((lo+hi:Nat):Int):=by
    rw[wrap64 (by omega) (by omega)];simp only[IntKind.wrap]
    first
     |omega
     |(rw[Int.emod_eq_of_lt (by omega) (by simp;omega)];omega)
     |(simp[IntKind.bits];omega)
   have e2:as1 .u64 (((lo+hi:Nat)):Int) 1=some (((lo+hi)/2:Nat):Int):=by
    unfold as1;rw[if_pos ⟨by omega,by decide⟩];congr 1;rw[qDa _ (by decide)];rfl
   by_cases hcm:bQ l[(lo+hi)/2] x<0
   ·obtain⟨r,r1,r2,r3,r4⟩:=ih ((lo+hi)/2+1) hi (by omega) h2 (by omega) (fun i h hq=>by
     rcases qDq i ((lo+hi)/2)with h'|h'
     ·exact BF _ _ _ (akO hs h' hm) hcm
     ·have:i=(lo+hi)/2:=by omega
      subst this;exact hcm) hb
    refine⟨r,r1,r2,r3,fun k hk=>?_⟩;obtain⟨j,rfl⟩:∃j,k=j+1:=⟨k - 1,by omega⟩;show dZ n l x _ _=_;unfold dZ;rw[decide_eq_true (by simpa using hlt)];simp only[cond_true,e1,e2,qAb];rw[wrap64 (by omega) (by omega)];simp only[hi',qAb,hx];rw[decide_eq_true hcm,cond_true,wrap64 (by omega) (by omega)];exact r4 j (by omega)
   ·obtain⟨r,r1,r2,r3,r4⟩:=ih lo ((lo+hi)/2) (by omega) (by omega) (by omega) ha (fun i h hq hcn=>by
     rcases qDq ((lo+hi)/2) i with h'|h'
     ·exact hcm (BF _ _ _ (akO hs h' h) hcn)
     ·have:i=(lo+hi)/2:=by omega
      subst this;exact hcm hcn)
    refine⟨r,r1,r2,r3,fun k hk=>?_⟩;obtain⟨j,rfl⟩:∃j,k=j+1:=⟨k - 1,by omega⟩;show dZ n l x _ _=_;unfold dZ;rw[decide_eq_true (by simpa using hlt)];simp only[cond_true,e1,e2,qAb];rw[wrap64 (by omega) (by omega)];simp only[hi',qAb,hx];rw[decide_eq_false hcm,cond_false];exact r4 j (by omega)
  ·obtain⟨r,r1,r2,r3,r4⟩:=ih lo hi h1 h2 (by omega) ha hb;exact⟨r,r1,r2,r3,fun k hk=>r4 k (by omega)⟩
theorem JI{l:List Val}(hs:l.Pairwise iA)(hl:l.length≤1000000)(x:Val):Ev (fun n=>gL n l x) (aF l x):=by
 obtain⟨N,hc⟩:=aHt l (fun n y=>dY n y x) (fun y=>bQ y x) fun y _=>Eu y x;refine⟨N+l.length+1,fun n hn=>?_⟩;obtain⟨r,r1,r2,r3,r4⟩:=aBt l x hs hl n (hc n (by omega)) l.length 0 l.length (by omega) (by omega) (by omega) (fun i _ h=>absurd h (by omega)) (fun i h h'=>absurd h (by omega));have h4:=r4 n (by omega);show gL n l x=_;unfold gL pX;rw[show((0:Nat):Int)=0 from rfl]at h4;rw[h4];simp only[qAb,LR.el];by_cases hr:r<l.length
 ·have hi':idx l (r:Int)=some l[r]:=by
   unfold idx;rw[if_pos (by omega),qBM,qAc hr]
  rw[decide_eq_true (by omega)];simp only[cond_true,hi',qAb,hc n (by omega) l[r] (qAO hr)];congr 1;rw[qCe,dN,beq_iff_eq,gF];constructor
  ·rintro rfl;exact qAO hr
  ·intro hm;obtain⟨j,hj,rfl⟩:=qBy hm;rcases Nat.lt_trichotomy j r with h|h|h
   ·exact absurd (r2 j hj h) (by have:=(gF l[j] l[j]).2 rfl;omega)
   ·subst h;rfl
   ·exact absurd (akO hs h hj) (r3 r hr (qAd _))
 ·rw[decide_eq_false (by omega)];simp only[cond_false,qAb];congr 1;symm;rw[Bool.eq_false_iff];intro hm;rw[dN]at hm;obtain⟨j,hj,rfl⟩:=qBy hm;exact absurd (r2 j hj (by omega)) (by have:=(gF l[j] l[j]).2 rfl;omega)
def dO(l:List Val):Prop:=l.Pairwise iA∧l.length≤256
def fI(l:List Val):Prop:=∀p∈l,∃a b,p.kids=[a,b]
theorem dO.has{l:List Val}(h:dO l)(x:Val):Ev (fun n=>(gL n l x).bind fun(x1:Bool)=>some x1) (aF l x):=Ev.bind (JI h.1 (by have:=h.2;omega) x) (Ev.ret _)
theorem fI.fst{l:List Val}(h:fI l){p:Val}(hp:p∈l):idx p.kids 0=some (aJ p):=by
 obtain⟨a,b,e⟩:=h p hp;unfold aJ;rw[e];rfl
theorem fI.snd{l:List Val}(h:fI l){p:Val}(hp:p∈l):idx p.kids 1=some (aQ p):=by
 obtain⟨a,b,e⟩:=h p hp;unfold aQ;rw[e];rfl
theorem Ap{l:List Val}(h:dO l):l.length≤1000000:=by have:=h.2;omega
theorem acu{l:List Val}(h:fI l)(hl:l.length≤1000000):Ev (fun n=>BH n l) (d9 l):=by
 have h1:=mG l (fun n=>Cb n l) (fun i s=>(s,i)) (fun x=>[aJ x]) 1000000 (by omega) (fun n rec s=>by unfold Cb;rw[at_end];rfl) (fun pre x suf s e hb=>⟨0,fun n hn rec=>by
  unfold Cb;rw[(bg e).1];simp only[cond_true,(bg e).2,qAb,h.fst (show x∈l by simp[e])];rw[dQ (by simpa using hb)];rfl⟩) (s0:=[]) (by rw[flatMap_one];simpa using hl)
 rw[flatMap_one,qAo]at h1;unfold BH mkS;rw[if_pos ⟨by omega,by omega,by omega⟩];simp only[qAb];refine Ev.bind h1 ⟨0,fun n _=>?_⟩;simp only[LR.el,kH];rw[dQ (by simp;omega)];rfl
theorem PV{l:List Val}(h:fI l)(hl:l.length≤1000000):Ev (fun n=>rz n l) (bC l):=by
 have h1:=mG l (fun n=>Ai n l) (fun i s=>(s,i)) (fun x=>[aQ x]) 1000000 (by omega) (fun n rec s=>by unfold Ai;rw[at_end];rfl) (fun pre x suf s e hb=>⟨0,fun n hn rec=>by
  unfold Ai;rw[(bg e).1];simp only[cond_true,(bg e).2,qAb,h.snd (show x∈l by simp[e])];rw[dQ (by simpa using hb)];rfl⟩) (s0:=[]) (by rw[flatMap_one];simpa using hl)
 rw[flatMap_one,qAo]at h1;unfold rz mkS;rw[if_pos ⟨by omega,by omega,by omega⟩];simp only[qAb];refine Ev.bind h1 ⟨0,fun n _=>?_⟩;simp only[LR.el,kH];rw[dQ (by simp;omega)];rfl
theorem ae6(op:Int){a b l:List Val}(ha:a.Pairwise iA)(hb:b.Pairwise iA)(la:a.length≤1000000)(lb:b.length≤1000000)(h:fI l)(hl:l.length≤1000000):Ev (fun n=>wu n op a b l) (lC op a b l):=by
 have h1:=wI l (fun n=>yj n a b l) (fun i _=>i) (fun x (_:Unit)=>cond (!(aF a (aJ x)&&aF b (aQ x))) (.rt false) (.nx ())) (fun _=>()) (fun _ _=>True) (fun n rec s=>by unfold yj;rw[at_end];rfl) (fun pre x suf s e _=>⟨by
  obtain⟨N,h1⟩:=JI ha la (aJ x);obtain⟨M,h2⟩:=JI hb lb (aQ x);refine⟨N+M,fun n hn rec=>?_⟩;have h1:gL n a (aJ x)=_:=h1 n (by omega);have h2:gL n b (aQ x)=_:=h2 n (by omega);unfold yj;rw[(bg e).1];simp only[cond_true,(bg e).2,qAb,h.fst (show x∈l by simp[e]),h.snd (show x∈l by simp[e]),h1,h2];cases aF a (aJ x)<;>cases aF b (aQ x)<;>rfl,fun _ _=>trivial⟩) (s0:=()) trivial
 rw[Tg]at h1;have e:l.all (fun p=>aF a (aJ p)&&aF b (aQ p))=!(l.any fun x=>!(aF a (aJ x)&&aF b (aQ x))):=by rw[←List.not_all_eq_any_not,qCk]
 unfold wu lC;rw[e];refine Ev.bind h1 ?_;cases l.any fun x=>!(aF a (aJ x)&&aF b (aQ x))with
 |true=>exact Ev.ret _
 |false=>
  refine Ev.bind (acu h hl) (Ev.bind (PV h hl) ⟨0,fun n _=>?_⟩);unfold fU;simp only[qBb,qAu];cases op==41<;>cases op==42<;>cases op==43<;>cases op==44<;>simp only[cond_true,cond_false]<;>
   cases((d9 l).length:Int)==(l.length:Int)<;>cases((d9 l).length:Int)==(a.length:Int)<;>cases((bC l).length:Int)==(l.length:Int)<;>rfl
theorem Jg{α σ τ ρ:Type}(f:σ→α→σ)(fin:σ→τ):∀(l:List α) (s:σ),fG (ρ:=ρ) (fun x s=>.nx (f s x)) fin l s=.nx (fin (l.foldl f s))
 |[],s=>rfl
 |x::l,s=>by simp only[fG];rw[Jg f fin l];rfl
theorem aiJ{l ys:List (List Val)}(h:(l.length+ys.length)*24≤140737488355328):app 24 l ys=some (l++ys):=by
 unfold app
 grind
theorem aio{l:List Val}(hl:l.length≤8):Ev (fun n=>Jh n l) (jr l):=by
 have h1:=wI l (fun n=>zY n l) (fun i s=>(s,i)) (fun x out=>.nx (out++out.map fun r=>r++[x])) (fun s=>s) (fun suf out=>out.length*2^suf.length≤256∧∀r∈out,r.length+suf.length≤8) (fun n rec s=>by unfold zY;rw[at_end];rfl) (fun pre x suf out e hI=>by
  simp at hI;have hp:1≤2^suf.length:=qCZ;have hle:out.length*2≤256:=by
   have:out.length*2*1≤out.length*2*2^suf.length:=Nat.mul_le_mul_left _ hp
   grind
  refine⟨?_,fun s' es=>?_⟩
  ·obtain⟨N,h⟩:=ajV (ρ:=List (List Val)) out (fun n=>zX n x out) (fun i s=>(s,i)) (fun s=>s) (fun r=>[r++[x]]) 600 (fun n rec s=>by unfold zX;rw[at_end];rfl) (fun pre2 r suf2 s e2 hb=>⟨0,fun n hn rec=>by
    have hr:=hI.2 r (by simp[e2]);unfold zX jZ;rw[(bg e2).1];simp only[(bg e2).2,qAb];rw[dQ (by simp;omega)];simp;rw[dQ (by simp;omega)];simp;rw[aiJ (by simp;omega)];rfl⟩) (s0:=out) (by rw[flatMap_one];simp;omega)
   rw[flatMap_one]at h;refine⟨N,fun n hn rec=>?_⟩;have h:Un n x out n (out,0)=_:=h n hn;unfold zY zq;rw[(bg e).1];simp only[(bg e).2];rw[aiJ (by simp;omega)]
   grind
  ·cases es;constructor
   ·simp
    grind
   ·intro r hr;rcases qAr.1 hr with hr|hr
    ·grind
    ·obtain⟨q,hq,rfl⟩:=qAJ.1 hr;have:=hI.2 q hq;simp;omega) (s0:=[[]]) ⟨by
   have:2^l.length≤2^8:=qCS (by omega) hl;simpa using this,by simpa using hl⟩
 rw[Jg (ρ:=List (List Val)) (fun(out:List (List Val)) x=>out++out.map fun r=>r++[x])]at h1;exact Ev.bind h1 (Ev.ret _)
theorem Zb:∀(l:List Val) (out:List (List Val)),(l.foldl (fun out x=>out++out.map fun r=>r++[x]) out).length=out.length*2^l.length
 |[],out=>by simp
 |x::l,out=>by
  rw[qBg,Zb l]
  grind
theorem alU(n:Nat)(op x y:Int):Nf n op x y=some (kX op x y):=by
 unfold Nf kX
 grind
theorem alP{n:Nat}(h:n≤8):1≤2^n∧2^n≤256:=⟨qCZ,qCS (n:=2) (by omega) h⟩
theorem aAE(f:Nat){op:Int}(ho:op=41∨op=42∨op=43∨op=44∨op=45){m n:Nat}(hn:n≤256)(hm:m≤256)(hmn:44≤op→m≤n):∀(k i c:Nat),i+k=m→1≤c→c≤256→∀j,k+1≤j→
  ∃r,Js f op m n j ((c:Int),(i:Int))=some r∧(match r with| .nx _=>false| .rt b=>b)=je op n k i c:=by
 intro k
 induction k with
 |zero=>
  intro i c hi _ _ j hj;obtain⟨j,rfl⟩:∃q,j=q+1:=⟨j - 1,by omega⟩;refine⟨.nx (),?_,rfl⟩;show uR f op m n _ _=_;unfold uR
  grind
 |succ k ih=>
  intro i c hi h1 h2 j hj;obtain⟨j,rfl⟩:∃q,j=q+1:=⟨j - 1,by omega⟩;show ∃r,uR f op m n (Js f op m n j) _=some r∧_;unfold uR;rw[decide_eq_true (by simp;omega)];simp only[cond_true];by_cases h8:(op==41&&decide (8<(n:Int)))=true
  ·refine⟨.rt true,?_,?_⟩
   ·simp only[qAa,beq_iff_eq,decide_eq_true_eq]at h8;rw[h8.1,decide_eq_true h8.2];rfl
   ·unfold je;rw[h8];rfl
  ·rw[qDp]at h8;obtain⟨f0,hf1,hf2,hf3⟩:∃f0:Nat,yQ op n i=(f0:Int)∧f0≤257∧((cond (op==41) (cond (decide (8<(n:Int))) (some (.rt true)) ((adw 1 n).bind fun(x2:Int)=>some (.nx x2))) (cond (op==42) (some (.nx (IntKind.wrap .i64 ((n:Int)+1)))) (((cond (op==44) (some (op==44)) (some (op==45))):Option Bool).bind fun(s5:Bool)=>(cond s5 (some (.nx (IntKind.wrap .i64 ((n:Int) - (i:Int))))) (some (.nx (n:Int))))))):Option (LR Int Bool))=some (.nx (f0:Int)):=by
    rcases ho with rfl|rfl|rfl|rfl|rfl
    ·have h9:decide (8<(n:Int))=false:=h8;have h9':n≤8:=by have:=of_decide_eq_false h9;omega
     have hp:=alP h9';have e:adw 1 (n:Int)=some ((2^n:Nat):Int):=by
      unfold adw;rw[if_pos ⟨by omega,by omega⟩,qBM,Int.one_mul,wrap64]
      ·congr 1
      ·have:((2^n:Nat):Int)=(2:Int)^n:=by norm_cast
       omega
      ·have:((2^n:Nat):Int)=(2:Int)^n:=by norm_cast
       omega
     refine⟨2^n,?_,by omega,?_⟩
     ·show(2:Int)^(n:Int).toNat=_;rw[qBM];norm_cast
     ·rw[h9,e];rfl
    ·exact⟨n+1,by show(n:Int)+1=_;omega,by omega,by
      show some (LR.nx (IntKind.wrap .i64 ((n:Int)+1)))=_;rw[wrap64 (by omega) (by omega)];rfl⟩
    ·exact⟨n,rfl,by omega,rfl⟩
    ·have:=hmn (by omega);exact⟨n - i,by show(n:Int) - i=_;omega,by omega,by
      show some (LR.nx (IntKind.wrap .i64 ((n:Int) - i)))=_;rw[wrap64 (by omega) (by omega)];congr 2;omega⟩
    ·have:=hmn (by omega);exact⟨n - i,by show(n:Int) - i=_;omega,by omega,by
      show some (LR.nx (IntKind.wrap .i64 ((n:Int) - i)))=_;rw[wrap64 (by omega) (by omega)];congr 2;omega⟩
   rw[hf3];unfold je;rw[h8,hf1];simp only[qAb,cond_false,LR.el];by_cases h0:f0=0
   ·subst h0;exact⟨.rt false,rfl,rfl⟩
   ·rw[show((f0:Int)==0)=false by simpa using h0];have hc:(c:Int)*(f0:Int)=((c*f0:Nat):Int):=by norm_cast
    have hcb:c*f0≤256*257:=qCV h2 hf2;have hc1:1≤c*f0:=Nat.mul_pos h1 (by omega);rw[hc,wrap64 (by omega) (by omega)];simp only[cond_false];by_cases hb:256<c*f0
    ·rw[decide_eq_true (by omega)];refine⟨.rt true,?_,rfl⟩;rcases ho with rfl|rfl|rfl|rfl|rfl
     ·rfl
     ·rfl
     ·have:(f0:Int)=n:=hf1.symm;simp only[cond_true];rw[decide_eq_true (by omega)];rfl
     ·rfl
     ·rfl
    ·rw[decide_eq_false (by omega)];simp only[cond_false,qAb];exact ih (i+1) (c*f0) (by omega) hc1 (by omega) j (by omega)
theorem ayj{op:Int}(ho:op=41∨op=42∨op=43∨op=44∨op=45){m n:Nat}(hn:n≤256)(hm:m≤256):Ev (fun f=>Di f op m n) (!kX op m n&&je op n m 0 1):=by
 refine⟨m+1,fun f hf=>?_⟩;show Di f op m n=_;unfold Di;rw[alU];cases hN:kX op m n with
 |true=>rfl
 |false=>
  obtain⟨r,h1,h2⟩:=aAE f ho hn hm (fun h=>by
   unfold kX at hN;cases hq:(op==45&&(m:Int)!=n)with
   |true=>rw[hq]at hN;cases hN
   |false=>
    rw[hq,decide_eq_true h]at hN;have:=of_decide_eq_false (show decide ((n:Int)<m)=false by simpa using hN);omega) m 0 1 (by omega) (by omega) (by omega) f hf
  grind
theorem iF{α β:Type}(g:α→List β)(m:Nat):∀(l:List α),(∀x∈l,(g x).length≤m)→(l.flatMap g).length≤l.length*m
 |[],_=>by simp
 |x::l,h=>by
  have h1:=h x (by simp);have h2:=iF g m l fun y hy=>h y (by simp[hy]);rw[qBf,qAe,qAp,Nat.succ_mul];omega
def lq(op:Int)(n:Nat):Nat:=cond (op==41) (2^n) (cond (op==42) (n+1) n)
theorem ahw(op:Int)(a b:List Val):∀(xs l:List Val),(iM op a b xs l).length≤lq op b.length^xs.length
 |[],l=>by
  unfold iM;cases lC op a b l<;>simp
 |x::xs,l=>by
  have ih:=ahw op a b xs;unfold iM;rw[qAp,Nat.pow_succ,qBK];by_cases h1:op=41
  ·subst h1;have:(jr b).length=2^b.length:=by unfold jr;rw[Zb];simp
   show((jr b).flatMap _).length≤2^b.length*_;rw[←this];exact iF _ _ _ fun im _=>ih _
  ·rw[show(op==41)=false by simpa using h1,cond_false,qAe];have h2:=iF (fun v=>cond (decide (44≤op)&&aF (bC l) v) [] (iM op a b xs (l++[aG x v]))) (lq op b.length^xs.length) b fun v _=>by
    grind
   by_cases h3:op=42
   ·subst h3;have h4:=ih l;have e:lq 42 b.length=b.length+1:=rfl;rw[e]at h2 h4⊢
    grind
   ·have e:lq op b.length=b.length:=by unfold lq;rw[show(op==41)=false by simpa using h1,show(op==42)=false by simpa using h3];rfl
    grind
theorem YN{op:Int}(ho:op=41∨op=42∨op=43){n:Nat}:∀(k:Nat) (i:Int) (c:Nat),lq op n≠0→c≤256→je op n k i c=false→c*lq op n^k≤256
 |0,i,c,_,hc,_=>by simpa using hc
 |k+1,i,c,h0,hc,h=>by
  have hf:yQ op n i=(lq op n:Int):=by
   rcases ho with rfl|rfl|rfl
   ·show(2:Int)^(n:Int).toNat=((2^n:Nat):Int)
    grind
   ·rfl
   ·rfl
  unfold je at h;rw[hf,show((lq op n:Int)==0)=false by simpa using h0]at h;cases h8:(op==41&&decide (8<(n:Int)))with
  |true=>rw[h8]at h;cases h
  |false=>
   rw[h8]at h;rw[show(c:Int)*(lq op n:Int)=((c*lq op n:Nat):Int) by norm_cast]at h;cases hb:decide (256<((c*lq op n:Nat):Int))with
   |true=>rw[hb]at h;cases h
   |false=>
    rw[hb]at h;have:=of_decide_eq_false hb;have:=YN ho k (i+1) (c*lq op n) h0 (by omega) h
    grind
def fct:Nat→Nat
 |0=>1
 |k+1=>(k+1)*fct k
theorem ap5{op:Int}(ho:op=44∨op=45){n:Nat}:∀(k i c:Nat),i+k≤n→c≤256→je op n k i c=false→c*fct k≤256
 |0,i,c,_,hc,_=>by simpa[fct]using hc
 |k+1,i,c,hi,hc,h=>by
  have hf:yQ op n i=((n - i:Nat):Int):=by
   rcases ho with rfl|rfl
   ·show(n:Int) - i=_;omega
   ·show(n:Int) - i=_;omega
  unfold je at h;rw[hf,show(((n - i:Nat):Int)==0)=false by simp;omega]at h;have h8:(op==41&&decide (8<(n:Int)))=false:=by rcases ho with rfl|rfl<;>rfl
  rw[h8]at h;rw[show(c:Int)*((n - i:Nat):Int)=((c*(n - i):Nat):Int) by norm_cast]at h;cases hb:decide (256<((c*(n - i):Nat):Int))with
  |true=>rw[hb]at h;cases h
  |false=>
   rw[hb]at h;have:=of_decide_eq_false hb;have h3:=ap5 ho k (i+1) (c*(n - i)) (by omega) (by omega) h;have:c*((k+1)*fct k)≤c*((n - i)*fct k):=Nat.mul_le_mul_left _ (qAQ _ (by omega));rw[Nat.mul_assoc]at h3;exact qAs this h3
theorem av3:∀k,6≤k→720≤fct k
 |0,h=>by omega
 |k+1,h=>by
  unfold fct;by_cases hk:6≤k
  ·have:=av3 k hk
   grind
  ·have:k=5:=by omega
   subst this
   decide
theorem agm{op:Int}(ho:op=41∨op=42∨op=43∨op=44∨op=45){a b:List Val}(ha:a.length≤256)(hb:b.length≤256)(hN:kX op a.length b.length=false)(hM:je op b.length a.length 0 1=false):lq op b.length^a.length≤2199023255552:=by
 by_cases hlo:op=41∨op=42∨op=43
 ·by_cases h0:lq op b.length=0
  ·rw[h0];cases a.length with
   |zero=>decide
   |succ k=>rw[Nat.zero_pow (by omega)];omega
  ·have:=YN hlo a.length 0 1 h0 (by omega) hM;omega
 ·have ho:op=44∨op=45:=by omega
  have hmn:a.length≤b.length:=by
   unfold kX at hN
   grind
  have h1:=ap5 ho a.length 0 1 (by omega) (by omega) hM;have h5:a.length≤5:=by
   rcases qDq a.length 6 with h|h
   ·omega
   ·have:=av3 _ h;omega
  have e:lq op b.length=b.length:=by rcases ho with rfl|rfl<;>rfl
  rw[e]
  calc b.length^a.length≤256^a.length:=Nat.pow_le_pow_left hb _
   _≤256^5:=qCS (by omega) h5
   _≤_:=by decide
theorem aE9{op:Int}(ho:op=41∨op=42∨op=43∨op=44∨op=45){a b:List Val}(ha:dO a)(hb:dO b)(h8:op=41→a≠[]→b.length≤8):∀(xs pre l out:List Val),a=pre++xs→fI l→l.length+8*xs.length≤100000→(out.length+(iM op a b xs l).length)*56≤140737488355328→
  Ev (fun n=>iP n pre.length l a op b out) (out++iM op a b xs l):=by
 intro xs
 induction xs with
 |nil=>
  intro pre l out hp hr hl hM;refine Ev.succ ?_;show Ev (fun n=>nS n _ (pre.length:Int) l a op b out) _;unfold nS;rw[show((pre.length:Int)==(a.length:Int))=true by rw[hp];simp];simp only[cond_true];simp only[qAA]at hl;unfold iM at hM⊢;refine Ev.bind (a:=out++cond (lC op a b l) [gH l] []) ?_ (Ev.ret _);refine Ev.bind (ae6 op ha.1 hb.1 (Ap ha) (Ap hb) hr (by omega)) ?_;cases hB:lC op a b l with
  |false=>simp only[cond_false,qAt];exact Ev.ret _
  |true=>
   rw[hB]at hM;simp only[cond_true,qAp,qAA]at hM⊢;refine⟨0,fun n _=>?_⟩;unfold kH;rw[dQ (by simp;omega),dQ (by simpa using hM)];simp only[qAb,qAo,gJ];congr 1;unfold upd;rw[qBM,List.set_append_right _ _ (qAd _),qEj];rfl
 |cons x xs ih=>
  intro pre l out hp hr hl hM;have hx:idx a (pre.length:Int)=some x:=(bg hp).2;have hlt:((pre.length:Int)==(a.length:Int))=false:=by rw[hp];simp;omega
  have hpl:pre.length≤256:=by have:=ha.2;rw[hp]at this;simp at this;omega
  have hw:IntKind.wrap .i64 ((pre.length:Int)+1)=((pre++[x]).length:Int):=by rw[wrap64 (by omega) (by omega)];simp
  have hp':a=(pre++[x])++xs:=by simp[hp]
  simp only[qAp]at hl;have hpair:∀(m:List Val) (vs:List Val),fI m→fI (m++vs.map (aG x)):=by
   intro m vs hm p hp;rcases qAr.1 hp with hp|hp
   ·exact hm p hp
   ·obtain⟨v,_,rfl⟩:=qAJ.1 hp;exact⟨x,v,rfl⟩
  refine Ev.succ ?_;show Ev (fun n=>nS n (iP n) (pre.length:Int) l a op b out) _;unfold nS;rw[hlt];simp only[cond_false];unfold iM at hM⊢;by_cases h41:op=41
  ·subst h41;have hb8:=h8 rfl (by rw[hp];simp);simp only[show((41:Int)==41)=true from rfl,cond_true]at hM⊢;refine Ev.bind (aio hb8) ?_;have hlen:∀im∈jr b,im.length≤8:=by
    have key:∀(q:List Val) (os:List (List Val)) (k:Nat),(∀r∈os,r.length≤k)→∀r∈q.foldl (fun out x=>out++out.map fun r=>r++[x]) os,r.length≤k+q.length:=by
     intro q
     induction q with
     |nil=>intro os k h r hr;simpa using h r hr
     |cons y q ihq=>
      intro os k h r hr;rw[qBg]at hr;have:=ihq (os++os.map fun r=>r++[y]) (k+1) (fun r hr=>by
       rcases qAr.1 hr with hr|hr
       ·have:=h r hr;omega
       ·obtain⟨z,hz,rfl⟩:=qAJ.1 hr;have:=h z hz;simp;omega) r hr
      simp only[qAp];omega
    intro im him;have:=key b [[]] 0 (by simp) im him;omega
   have h1:=mG (ρ:=List Val) (jr b) (fun n=>tZ n (iP n) (pre.length:Int) l a 41 b (jr b)) (fun i s=>(i,s)) (fun im=>iM 41 a b xs (l++im.map (aG x))) _ hM (fun n rec s=>by unfold tZ;rw[at_end];rfl) (fun p2 im s2 s e hbd=>by
    have him:=hlen im (by simp[e]);obtain⟨N,h1⟩:=ih (pre++[x]) (l++im.map (aG x)) s hp' (hpair l im hr) (by simp;omega) hbd;obtain⟨N2,h2⟩:=mG (ρ:=List Val) im (fun n=>uh n (iP n) (pre.length:Int) a im) (fun i s=>(s,i)) (fun v=>[aG x v]) 200000 (by omega) (fun n rec s=>by unfold uh;rw[at_end];rfl) (fun p3 v s3 s e3 hbd=>⟨0,fun n hn rec=>by
     unfold uh;rw[(bg e3).1];simp only[cond_true,(bg e3).2,qAb,hx];rw[dQ (by simpa using hbd)];rfl⟩) (s0:=l) (by rw[flatMap_one];simp;omega)
    rw[flatMap_one]at h2;refine⟨N+N2,fun n hn rec=>?_⟩;have h2:KD n (iP n) (pre.length:Int) a im n (l,0)=_:=h2 n (by omega);have h1:iP n _ _ _ _ _ _=_:=h1 n (by omega);unfold tZ jZ;rw[(bg e).1];simp only[cond_true,(bg e).2,qAb];rw[dQ (by simp;omega)];simp only[qAb,qAo,h2,LR.el];rw[hw,h1];rfl) (s0:=out) (qAd _)
   exact Ev.bind h1 (Ev.ret _)
  ·rw[show(op==41)=false by simpa using h41]at hM⊢;simp only[cond_false]at hM⊢;refine Ev.bind (a:=out++cond (op==42) (iM op a b xs l) []) ?_ ?_
   ·cases h42:(op==42)with
    |false=>simp only[cond_false,qAt];exact Ev.ret _
    |true=>
     rw[h42]at hM;simp only[cond_true,qAe]at hM⊢;rw[hw];exact Ev.bind (ih (pre++[x]) l out hp' hr (by omega) (by omega)) (Ev.ret _)
   ·rw[←qAm];have hM':((out++cond (op==42) (iM op a b xs l) []).length+(b.flatMap fun v=>cond (decide (44≤op)&&aF (bC l) v) [] (iM op a b xs (l++[aG x v]))).length)*56≤140737488355328:=by
     simp only[qAe]at hM⊢;omega
    have h1:=mG (ρ:=List Val) b (fun n=>oN n (iP n) (pre.length:Int) l a op b) (fun i s=>(i,s)) (fun v=>cond (decide (44≤op)&&aF (bC l) v) [] (iM op a b xs (l++[aG x v]))) _ hM' (fun n rec s=>by unfold oN;rw[at_end];rfl) (fun p2 v s2 s e hbd=>by
     obtain⟨N3,h3⟩:Ev (fun n=>(((cond (decide (44≤op)) ((rz n l).bind fun(x18:List Val)=>((gL n x18 v).bind fun(x19:Bool)=>some x19)) (some false)):Option Bool))) (decide (44≤op)&&aF (bC l) v):=by
      cases decide (44≤op)with
      |false=>exact Ev.ret _
      |true=>
       simp only[cond_true,qAu];refine Ev.bind (PV hr (by omega)) (Ev.bind (JI (cZ _) ?_ v) (Ev.ret _));have:=eP (l.map aQ);simp only[qAi]at this;show(sortV _).length≤_;omega
     cases hq:(decide (44≤op)&&aF (bC l) v)with
     |true=>
      refine⟨N3,fun n hn rec=>?_⟩;have h3:=h3 n hn;simp only[hq]at h3;unfold oN;rw[(bg e).1];simp only[cond_true,(bg e).2,qAb,h3,qAt]
     |false=>
      rw[hq]at hbd;obtain⟨N,h1⟩:=ih (pre++[x]) (l++[aG x v]) s hp' (hpair l [v] hr) (by simp;omega) hbd;refine⟨N+N3,fun n hn rec=>?_⟩;have h3:=h3 n (by omega);simp only[hq]at h3;have h1:iP n _ _ _ _ _ _=_:=h1 n (by omega);unfold oN jZ;rw[(bg e).1];simp only[cond_true,cond_false,(bg e).2,qAb,h3];rw[dQ (by simp;omega)];simp only[qAb,qAo,hx];rw[dQ (by simp;omega)];simp only[qAb];rw[hw,show(Val.mk 4 0 [] [x,v])=aG x v from rfl,h1];rfl) (s0:=out++cond (op==42) (iM op a b xs l) []) (qAd _)
    exact Ev.bind h1 (Ev.ret _)
def pzl(r:xU):PZ (List Val) Unit:=match r with| .ok l=>.ok l| .er e=>.er e ()
theorem arU{op:Int}(ho:op=41∨op=42∨op=43∨op=44∨op=45){a b:List Val}(ha:dO a)(hb:dO b):Ev (fun n=>D9 n op a b) (pzl (l8 op a b)):=by
 unfold D9 l8;refine Ev.bind (ayj ho hb.2 ha.2) ?_;cases hN:kX op a.length b.length with
 |true=>
  refine⟨0,fun n _=>?_⟩;simp only[alU,hN];rfl
 |false=>
  cases hM:je op b.length a.length 0 1 with
  |true=>exact Ev.ret _
  |false=>
   have h1:=agm ho ha.2 hb.2 hN hM;have h2:=ahw op a b a [];have h3:=aE9 ho ha hb (fun e hne=>by
    subst e;cases a with
    |nil=>exact absurd rfl hne
    |cons x a=>
     unfold je at hM;cases h8:decide (8<(b.length:Int))with
     |true=>rw[h8]at hM;cases hM
     |false=>have:=of_decide_eq_false h8;omega) a [] [] [] rfl (fun p hp=>by cases hp) (by have:=ha.2;simp;omega) (by simp;omega)
   simp only[alU,hN,qAb];exact Ev.bind h3 (Ev.ret _)
def pz(r:VR):PZ Val Unit:=match r with| .ok v=>.ok v| .er e=>.er e ()
theorem Ev.pz{f:Nat→Option (PZ Val Unit)}{r:VR}(h:Ev f (pz r)):Ev (fun n=>(f n).bind (PZ.el (fun x=>some (.ok x)) (fun e _=>some (.er e ())))) (Abs.pz r):=by
 refine Ev.bind h ?_;cases r<;>exact Ev.ret _
theorem Ev.cnd{α β:Type}(P:β→α){b:Bool}{f g:Nat→Option α}{x y:β}(h1:b=true→Ev f (P x))(h2:b=false→Ev g (P y)):Ev (fun n=>cond b (f n) (g n)) (P (cond b x y)):=by
 cases b
 ·grind
 grind
theorem int_eq(n:Nat)(x:Int):jK n x=some (pz (gM x)):=by
 unfold jK gM ab1;cases decide (1000000000<x)<;>cases decide (x< -1000000000)<;>rfl
theorem M5(x:Int):Ev (fun n=>jK n x) (pz (gM x)):=Ev.of fun n=>int_eq n x
theorem CQ(b:Bool):Ev (fun n=>bN n b) (aO b):=by cases b<;>exact Ev.ret _
def EU(x:Int):Prop:= -1000000000≤x∧x≤1000000000
theorem aGO{a b:Int}(ha:EU a)(hb:EU b): -1000000000000000000≤a*b∧a*b≤1000000000000000000:=by
 have h1:a.natAbs≤1000000000:=by have:=ha.1;have:=ha.2;omega
 have h2:b.natAbs≤1000000000:=by have:=hb.1;have:=hb.2;omega
 have h3:(a*b).natAbs≤1000000000*1000000000:=by rw[Int.natAbs_mul];exact qCV h1 h2
 omega
theorem aBM{op a b:Int}(ha:EU a)(hb:EU b):Ev (fun n=>JX n op a b) (pz (ai1 op a b)):=by
 have a1:=ha.1;have a2:=ha.2;have b1:=hb.1;have b2:=hb.2;refine Ev.cnd pz (fun _=>?_) fun _=>Ev.cnd pz (fun _=>?_) fun _=>Ev.cnd pz (fun _=>?_) fun _=>Ev.cnd pz (fun _=>?_) fun _=>Ev.cnd pz (fun _=>Ev.cnd pz (fun _=>Ev.ret _) fun h=>?_) fun _=>?_
 ·rw[Int.zero_sub,wrap64 (by omega) (by omega)];exact Ev.pz (M5 _)
 ·rw[wrap64 (by omega) (by omega)];exact Ev.pz (M5 _)
 ·rw[wrap64 (by omega) (by omega)];exact Ev.pz (M5 _)
 ·have:=aGO ha hb;rw[wrap64 (by omega) (by omega)];exact Ev.pz (M5 _)
 ·have hz:¬b=0:=by simpa using h
  have hd:(Int.tdiv a b).natAbs≤1000000000:=by
   rw[Int.natAbs_tdiv];exact qAs (Nat.div_le_self a.natAbs b.natAbs) (by omega)
  refine Ev.bind (a:=Int.tdiv a b) (Ev.of fun _=>?_) (Ev.pz (M5 _));unfold abO;rw[if_neg hz,wrap64 (by omega) (by omega)]
 ·refine Ev.bind (a:=decide (a<0) ||decide (b<1)) ?_ (Ev.cnd pz (fun _=>Ev.ret _) fun h=>?_)
  ·cases decide (a<0)<;>exact Ev.ret _
  ·have hz:¬b=0:=by rw[qBL]at h;have:=of_decide_eq_false h.2;omega
   refine Ev.bind (a:=Int.tmod a b) (Ev.of fun _=>?_) (Ev.pz (M5 _));unfold Vr
   grind
theorem aqR{l:List Val}(hl:l.length*56≤140737488355328):Ev (fun n=>Ab n l) (pz (bF l)):=by
 unfold Ab kH bF;rw[dQ (by simpa using hl)];exact Ev.cnd pz (fun _=>Ev.ret _) fun _=>Ev.ret _
def apn(n:Nat):LR (List Val) (PZ Val Unit)→Option (PZ Val Unit):=LR.el (fun s1=>((Ab n s1).bind (PZ.el (fun x1=>some (.ok x1)) (fun e1 _=>some (.er e1 ()))))) (fun r=>some r)
def EvS(f:Nat→Option (LR (List Val) (PZ Val Unit)))(r:xU):Prop:=Ev (fun n=>(f n).bind (apn n)) (pz (r.thn bF))
theorem EvS.cnd{b:Bool}{f g:Nat→Option (LR (List Val) (PZ Val Unit))}{x y:xU}(h1:b=true→EvS f x)(h2:b=false→EvS g y):EvS (fun n=>cond b (f n) (g n)) (cond b x y):=by
 cases b
 ·grind
 grind
theorem EvS.er:EvS (fun _=>some (.rt (.er 11 ()))) (.er 11):=Ev.ret _
theorem EvS.of{F:Nat→Option (LR (List Val) (PZ Val Unit))}{l:List Val}(h:Ev F (.nx l))(hl:l.length*56≤140737488355328):EvS F (.ok l):=by
 have hk:Ev (fun n=>apn n (.nx l)) (pz (bF l)):=Ev.pz (aqR hl);exact Ev.bind (g:=fun x n=>apn n x) h hk
theorem EvS.lp{f:Nat→Option (LR (List Val) (PZ Val Unit))}{l:List Val}(h:Ev f (.nx l))(hl:l.length≤1000000):EvS (fun n=>(f n).bind (LR.el (fun s=>some (.nx s)) (fun r=>some (.rt r)))) (.ok l):=EvS.of (Ev.bind h (Ev.ret _)) (by omega)
theorem EvS.ok{f:Nat→Option (List Val)}{l:List Val}(h:Ev f l)(hl:l.length≤1000000):EvS (fun n=>(f n).bind fun x=>some (.nx x)) (.ok l):=EvS.of (Ev.bind h (Ev.ret _)) (by omega)
theorem anS(a b:List Val)(h:a.length+b.length≤1000000):Ev (fun n=>qg n [a,b]) (a++b):=by
 refine⟨4,fun n hn=>?_⟩;obtain⟨j,rfl⟩:∃j,n=j+3:=⟨n - 3,by omega⟩;have h1:xJ (j+3) [a,b] (j+3) (0,0)=some (.nx ((a.length:Int)+b.length)):=by
  show mH (j+3) [a,b] (mH (j+3) [a,b] (mH (j+3) [a,b] (xJ (j+3) [a,b] j))) (0,0)=_;unfold mH;simp only[qAp,qAA,show decide ((0:Int)<((0+1+1:Nat):Int))=true from rfl,show idx [a,b] 0=some a from rfl,show idx [a,b] (0+1)=some b from rfl,qAb];rw[wrap64 (by omega) (by omega),decide_eq_false (by omega)];simp;rw[wrap64 (by omega) (by omega),decide_eq_false (by omega)]
  grind
 have h2:xL (j+3) [a,b] (j+3) ([],0)=some (.nx (a++b)):=by
  show mF (j+3) [a,b] (mF (j+3) [a,b] (mF (j+3) [a,b] (xL (j+3) [a,b] j))) ([],0)=_;unfold mF;simp only[show idx [a,b] 0=some a from rfl,show idx [a,b] (0+1)=some b from rfl,qAb];rw[dQ (by simp;omega)];simp;rw[dQ (by omega)];rfl
 unfold qg Fw
 grind
theorem anq(f:Nat)(b:Val)(hb:EU b.n):∀(k:Nat) (x:Int) (acc:List Val),EU x→x+k=b.n+1→(acc.length+k)≤1000000→∀j,k+1≤j→Rh f b j (acc,x)=some (.nx (acc++ints x k))
 |0,x,acc,_,h,_,j,hj=>by
  obtain⟨j,rfl⟩:∃q,j=q+1:=⟨j - 1,by omega⟩;show nH f b _ _=_;unfold nH;rw[decide_eq_false (by simp;omega)];simp[ints]
 |k+1,x,acc,hx,h,hl,j,hj=>by
  obtain⟨j,rfl⟩:∃q,j=q+1:=⟨j - 1,by omega⟩;have x1:=hx.1;have x2:=hx.2;have b2:=hb.2;show nH f b (Rh f b j) _=_;unfold nH;rw[decide_eq_true (by simp;omega)];have hi:gM x=.ok (iY x):=by
   unfold gM ab1
   grind
  simp only[int_eq,hi,qAb,pz,PZ.el];rw[dQ (by simp;omega)];simp;rw[wrap64 (by omega) (by omega)];cases k with
  |zero=>
   obtain⟨i,rfl⟩:∃q,j=q+1:=⟨j - 1,by omega⟩;show nH f b _ _=_;unfold nH;rw[decide_eq_false (by simp;omega)];rfl
  |succ k=>
   rw[anq f b hb (k+1) (x+1) (acc++[iY x]) ⟨by omega,by omega⟩ (by omega) (by simp;omega) j (by omega)];simp[ints]
theorem ag1:∀(k:Nat) (x:Int),(ints x k).length=k
 |0,_=>rfl
 |k+1,x=>by rw[ints,qAp,ag1 k]
theorem EA(p:Val→Bool){l:List Val}(h:dO l):(l.filter p).length≤256:=qAs (qCJ p l) h.2
theorem fI.F8{l:List Val}(h:fI l)(p:Val→Bool):fI (l.filter p):=fun x hx=>h x (qBa.1 hx).1
theorem Y0{β:Type}{a b:List Val}(g:Val→List β)(ha:dO a)(hg:∀x∈a,(g x).length≤256):(a.flatMap g).length≤65536:=by
 have:=iF g 256 a hg;have h2:=qAQ 256 ha.2;omega
theorem Ev.aw2{f:Nat→Option Bool}{b:Bool}(h:Ev f b):Ev (fun n=>(f n).bind fun(x2:Bool)=>some (!x2)) (!b):=Ev.bind h (Ev.ret _)
theorem Ev.same{f:Nat→Option Bool}{b:Bool}(h:Ev f b):Ev (fun n=>(f n).bind fun(x2:Bool)=>some x2) b:=Ev.bind h (Ev.ret _)
theorem aEJ(a b:Val)(ha:dO a.kids)(hb:dO b.kids):Ev (fun n=>abg n a b n (([]:List Val),0)) (.nx (a.kids.flatMap fun x=>b.kids.map (aG x))):=by
 have:=Y0 (b:=b.kids) (fun x=>b.kids.map (aG x)) ha (fun x _=>by simpa using hb.2);refine mG (ρ:=PZ Val Unit) a.kids (fun n=>Gz n a b) (fun i s=>(s,i)) _ 1000000 (by omega) (fun n rec s=>by unfold Gz;rw[at_end];rfl) (fun pre x suf s e hbd=>?_) (s0:=[]) (by simp only[qAA];omega);obtain⟨N,h⟩:=mG (ρ:=PZ Val Unit) b.kids (fun n=>Gt n b x) (fun i s=>(s,i)) (fun y=>[aG x y]) _ hbd (fun n rec s=>by unfold Gt;rw[at_end];rfl) (fun p2 y s2 s e2 hbd=>⟨0,fun n hn rec=>by
  unfold Gt;rw[(bg e2).1];simp only[(bg e2).2,qAb];rw[dQ (by simpa using hbd)];rfl⟩) (s0:=s) (by rw[flatMap_one];exact qAd _)
 rw[flatMap_one]at h;refine⟨N,fun n hn rec=>?_⟩;have h:ab4 n b x n (s,0)=_:=h n hn;unfold Gz;rw[(bg e).1];simp only[cond_true,(bg e).2,qAb,h]
theorem aEs(a b:Val)(ha:dO a.kids)(hb:dO b.kids)(ra:fI a.kids)(rb:fI b.kids):Ev (fun n=>acY n a b n (([]:List Val),0)) (.nx (a.kids.flatMap fun p=>b.kids.flatMap fun q=>cond (eD (aQ p) (aJ q)) [aG (aJ p) (aQ q)] [])):=by
 have h1:∀p,(b.kids.flatMap fun q=>cond (eD (aQ p) (aJ q)) [aG (aJ p) (aQ q)] []).length≤256:=fun p=>by
  have:=iF (fun q=>cond (eD (aQ p) (aJ q)) [aG (aJ p) (aQ q)] []) 1 b.kids (fun q _=>by cases eD (aQ p) (aJ q)<;>simp);have:=hb.2;omega
 have:=Y0 (b:=b.kids) (fun p=>b.kids.flatMap fun q=>cond (eD (aQ p) (aJ q)) [aG (aJ p) (aQ q)] []) ha (fun x _=>h1 x);refine mG (ρ:=PZ Val Unit) a.kids (fun n=>GI n a b) (fun i s=>(s,i)) _ 1000000 (by omega) (fun n rec s=>by unfold GI;rw[at_end];rfl) (fun pre x suf s e hbd=>?_) (s0:=[]) (by simp only[qAA];omega);have hx:x∈a.kids:=by simp[e]
 obtain⟨N,h⟩:=mG (ρ:=PZ Val Unit) b.kids (fun n=>Gv n b x) (fun i s=>(s,i)) (fun q=>cond (eD (aQ x) (aJ q)) [aG (aJ x) (aQ q)] []) _ hbd (fun n rec s=>by unfold Gv;rw[at_end];rfl) (fun p2 y s2 s e2 hbd=>by
  have hy:y∈b.kids:=by simp[e2]
  obtain⟨N,h⟩:=Eu (aQ x) (aJ y);refine⟨N,fun n hn rec=>?_⟩;have h:dY n (aQ x) (aJ y)=_:=h n hn;unfold Gv;rw[(bg e2).1];simp only[(bg e2).2,qAb,ra.fst hx,ra.snd hx,rb.fst hy,rb.snd hy,h];unfold eD at hbd⊢;cases hq:(bQ (aQ x) (aJ y)==0)with
  |false=>simp
  |true=>
   rw[hq]at hbd;rw[dQ (by simpa using hbd)];rfl) (s0:=s) (qAd _)
 refine⟨N,fun n hn rec=>?_⟩;have h:abP n b x n (s,0)=_:=h n hn;unfold GI;rw[(bg e).1];simp only[cond_true,(bg e).2,qAb,h]
theorem aFp(x:List (List Val))(hx:x.length≤1000000):Ev (fun n=>adq n x n (([]:List Val),0)) (.nx (x.map mkSet)):=by
 have h:=mG (ρ:=PZ Val Unit) x (fun n=>Gj n x) (fun i s=>(s,i)) (fun y=>[mkSet y]) 1000000 (by omega) (fun n rec s=>by unfold Gj;rw[at_end];rfl) (fun p2 y s2 s e2 hbd=>⟨0,fun n hn rec=>by
  unfold Gj;rw[(bg e2).1];simp only[(bg e2).2,qAb];rw[dQ (by simpa using hbd)];rfl⟩) (s0:=[]) (by rw[flatMap_one];simpa using hx)
 rwa[flatMap_one]at h
theorem aHO(a:Val)(ha:dO a.kids)(ra:fI a.kids):Ev (fun n=>adB n a n (([]:List Val),0)) (.nx (a.kids.map fun p=>aG (aQ p) (aJ p))):=by
 have h:=mG (ρ:=PZ Val Unit) a.kids (fun n=>GA n a) (fun i s=>(s,i)) (fun p=>[aG (aQ p) (aJ p)]) 1000000 (by omega) (fun n rec s=>by unfold GA;rw[at_end];rfl) (fun p2 y s2 s e2 hbd=>⟨0,fun n hn rec=>by
  unfold GA;rw[(bg e2).1];simp only[(bg e2).2,qAb,ra.fst (show y∈a.kids by simp[e2]),ra.snd (show y∈a.kids by simp[e2])];rw[dQ (by simpa using hbd)];rfl⟩) (s0:=[]) (by rw[flatMap_one];have:=ha.2;simp;omega)
 rwa[flatMap_one]at h
structure SetsOk(op:Int)(a b:Val):Prop where
 n:op=30→EU a.n∧EU b.n
 s:op≠30→dO a.kids∧dO b.kids
 a:(35≤op∧op≤36∨39≤op∧op≤40∨50≤op∧op≤54)→fI a.kids
 b:35≤op∧op≤38→fI b.kids
theorem aEq{op:Int}{a b:Val}(ho:30≤op∧op≤53∧¬(47≤op∧op≤49))(h:SetsOk op a b):Ev (fun n=>Tw n op a b) (pz ((sF op a b).thn bF)):=by
 unfold Tw;show EvS (fun n=>_) (sF op a b);unfold sF;refine EvS.cnd (fun e=>?_) fun h30=>?_
 ·obtain⟨ha,hb⟩:=h.n (eq_of_beq e);have a1:=ha.1;have a2:=ha.2;have b1:=hb.1;have b2:=hb.2;rw[wrap64 (by omega) (by omega)];refine EvS.cnd (fun _=>EvS.er) fun hd=>?_;have hd:=of_decide_eq_false hd;refine EvS.lp ?_ (by rw[ag1];omega);by_cases hle:a.n≤b.n
  ·exact⟨(b.n+1 - a.n).toNat+1,fun n hn=>anq n b hb (b.n+1 - a.n).toNat a.n [] ha (by omega) (by simp;omega) n hn⟩
  ·refine⟨1,fun n hn=>?_⟩;obtain⟨j,rfl⟩:∃q,n=q+1:=⟨n - 1,by omega⟩;show nH (j+1) b _ _=_;unfold nH;rw[decide_eq_false hle,show(b.n+1 - a.n).toNat=0 by omega];rfl
 have h30:op≠30:=by simpa using h30
 obtain⟨ha,hb⟩:=h.s h30;have la:=ha.2;have lb:=hb.2;refine EvS.cnd (fun e=>EvS.ok (anS _ _ (by omega)) (by simp;omega)) fun h31=>?_;refine EvS.cnd (fun e=>EvS.ok (D5 a.kids (fun n x=>xH n x b.kids) (aF b.kids) (fun x _=>hb.has x) (Ap ha)) (by have:=EA (aF b.kids) ha;omega)) fun h32=>?_;refine EvS.cnd (fun e=>EvS.ok (D5 a.kids (fun n x=>Ve n x b.kids) _ (fun x _=>Ev.aw2 (hb.has x)) (Ap ha)) (qAs (EA _ ha) (by omega))) fun h33=>?_;refine EvS.cnd (fun e=>?_) fun h34=>?_
 ·have hm:a.kids.length*b.kids.length≤256*256:=qCV la lb;rw[show(a.kids.length:Int)*(b.kids.length:Int)=((a.kids.length*b.kids.length:Nat):Int) by norm_cast,wrap64 (by omega) (by omega)];exact EvS.cnd (fun _=>EvS.er) fun _=>EvS.lp (aEJ a b ha hb) (qAs (Y0 (b:=b.kids) _ ha (fun x _=>by simpa using hb.2)) (by omega))
 refine EvS.cnd (fun e=>?_) fun h35=>?_
 ·have e:=eq_of_beq e;have ra:=h.a (by omega);have hf:dO (d9 b.kids):=⟨cZ _,by have:=eP (b.kids.map aJ);unfold d9;simp at this;omega⟩;refine EvS.of (Ev.bind (acu (h.b (by omega)) (Ap hb)) (Ev.bind (D5 a.kids (fun n x=>Md n x (d9 b.kids)) (fun x=>!aF (d9 b.kids) (aJ x)) (fun x hx=>?_) (Ap ha)) (Ev.bind (anS _ _ ?_) (Ev.ret _)))) ?_
  ·unfold Md;rw[ra.fst hx];exact Ev.aw2 (JI hf.1 (Ap hf) _)
  ·have:=EA (fun x=>!aF (d9 b.kids) (aJ x)) ha;omega
  ·have:=EA (fun x=>!aF (d9 b.kids) (aJ x)) ha;rw[qAe];omega
 refine EvS.cnd (fun e=>?_) fun h36=>?_
 ·have e:=eq_of_beq e;refine EvS.lp (aEs a b ha hb (h.a (by omega)) (h.b (by omega))) (qAs (Y0 (b:=b.kids) _ ha (fun p _=>?_)) (by omega));have:=iF (fun q=>cond (eD (aQ p) (aJ q)) [aG (aJ p) (aQ q)] []) 1 b.kids (fun q _=>by cases eD (aQ p) (aJ q)<;>simp);omega
 refine EvS.cnd (fun e=>EvS.ok (D5 b.kids (fun n x=>MI n x a.kids) _ (fun x hx=>?_) (Ap hb)) (qAs (EA _ hb) (by omega))) fun h37=>?_
 ·unfold MI;rw[(h.b (by have:=eq_of_beq e;omega)).fst hx];exact Ev.same (ha.has _)
 refine EvS.cnd (fun e=>EvS.ok (D5 b.kids (fun n x=>MG n x a.kids) _ (fun x hx=>?_) (Ap hb)) (qAs (EA _ hb) (by omega))) fun h38=>?_
 ·unfold MG;rw[(h.b (by have:=eq_of_beq e;omega)).fst hx];exact Ev.aw2 (ha.has _)
 refine EvS.cnd (fun e=>EvS.ok (D5 a.kids (fun n x=>Mv n x b.kids) _ (fun x hx=>?_) (Ap ha)) (qAs (EA _ ha) (by omega))) fun h39=>?_
 ·unfold Mv;rw[(h.a (by have:=eq_of_beq e;omega)).snd hx];exact Ev.same (hb.has _)
 refine EvS.cnd (fun e=>EvS.ok (D5 a.kids (fun n x=>Mg n x b.kids) _ (fun x hx=>?_) (Ap ha)) (qAs (EA _ ha) (by omega))) fun h40=>?_
 ·unfold Mg;rw[(h.a (by have:=eq_of_beq e;omega)).snd hx];exact Ev.aw2 (hb.has _)
 refine EvS.cnd (fun e=>EvS.cnd (fun _=>EvS.er) fun h8=>?_) fun h46=>?_
 ·have h8:=of_decide_eq_false h8;have hl:(jr a.kids).length≤256:=by
   unfold jr;rw[Zb];have:=(alP (show a.kids.length≤8 by omega)).2;simpa using this
  exact EvS.of (Ev.bind (aio (by omega)) (Ev.bind (aFp _ (by omega)) (Ev.ret _))) (by simp only[qAi];omega)
 refine EvS.cnd (fun e=>EvS.ok (acu (h.a (by have:=eq_of_beq e;omega)) (Ap ha)) ?_) fun h50=>?_
 ·have:=eP (a.kids.map aJ);unfold d9;simp at this;omega
 refine EvS.cnd (fun e=>EvS.ok (PV (h.a (by have:=eq_of_beq e;omega)) (Ap ha)) ?_) fun h51=>?_
 ·have:=eP (a.kids.map aQ);unfold bC;simp at this;omega
 refine EvS.cnd (fun e=>EvS.lp (aHO a ha (h.a (by have:=eq_of_beq e;omega))) (by simp;omega)) fun h52=>?_;refine EvS.cnd (fun e=>?_) fun h53=>?_
 ·have ra:=h.a (by have:=eq_of_beq e;omega);have hq:=EA (fun p=>aF b.kids (aJ p)) ha;refine EvS.of (Ev.bind (D5 a.kids (fun n x=>Mj n x b.kids) (fun p=>aF b.kids (aJ p)) (fun x hx=>?_) (Ap ha)) (Ev.bind (PV (ra.F8 _) (by omega)) (Ev.ret _))) ?_
  ·unfold Mj;rw[ra.fst hx];exact Ev.same (hb.has _)
  ·have:=eP ((a.kids.filter (fun p=>aF b.kids (aJ p))).map aQ);unfold bC;simp only[qAi]at this;omega
 have hr:op=41∨op=42∨op=43∨op=44∨op=45:=by
  simp only[beq_eq_false_iff_ne,ne_eq]at *;omega
 have hr1:=arU hr ha hb;have hlen:(l8 op a.kids b.kids)=.er 11∨∃l,l8 op a.kids b.kids=.ok l∧l.length≤2199023255552:=by
  unfold l8;cases hN:kX op a.kids.length b.kids.length with
  |true=>exact .inr ⟨[],rfl,by simp⟩
  |false=>
   cases hM:je op b.kids.length a.kids.length 0 1 with
   |true=>exact .inl rfl
   |false=>exact .inr ⟨_,rfl,qAs (ahw op a.kids b.kids a.kids []) (agm hr la lb hN hM)⟩
 rcases hlen with e|⟨l,e,hl⟩
 ·rw[e]at hr1⊢;exact Ev.bind (g:=fun x n=>apn n x) (Ev.bind hr1 (Ev.ret _)) (Ev.ret _)
 ·rw[e]at hr1⊢;exact EvS.of (Ev.bind hr1 (Ev.ret _)) (by omega)
theorem iE{op:Int}{a b:Val}(ho:op≤54∧op≠28∧op≠29)(hn:21≤op∧op≤26→EU a.n∧EU b.n)(hs:47≤op∧op≤49∨op=54→dO a.kids)(hr:op=54→fI a.kids)(hl:op≤20→op≤15)(h0:op≤20→op=3∨op=7∨10≤op)
  (h:30≤op∧op≤53∧¬(47≤op∧op≤49)→SetsOk op a b):Ev (fun n=>oz n op a b) (pz (CG op a b)):=by
 have T:∀c:Bool,Ev (fun n=>(bN n c).bind fun(x1:Val)=>some (PZ.ok (ζ:=Unit) x1)) (pz (.ok (aO c))):=fun c=>Ev.bind (CQ c) (Ev.ret _);have C:∀d:Int→Bool,Ev (fun n=>(dY n a b).bind fun(x3:Int)=>((bN n (d x3)).bind fun(x4:Val)=>some (PZ.ok (ζ:=Unit) x4))) (pz (.ok (aO (d (bQ a b))))):=fun d=>Ev.bind (Eu a b) (T _);unfold oz CG;refine Ev.cnd pz (fun _=>T _) fun e3=>Ev.cnd pz (fun _=>T _) fun e7=>Ev.cnd pz (fun _=>C (fun x=>x==0)) fun e10=>Ev.cnd pz (fun _=>C (fun x=>x !=0)) fun e11=>Ev.cnd pz (fun _=>T _) fun e12=>Ev.cnd pz (fun _=>T _) fun e13=>Ev.cnd pz (fun _=>T _) fun e14=>Ev.cnd pz (fun _=>T _) fun e15=>Ev.cnd pz (fun _=>Ev.ret _) fun e27=>Ev.cnd pz (fun e=>?_) fun e54=>Ev.cnd pz (fun e=>?_) fun e26=>Ev.cnd pz (fun _=>Ev.pz (M5 _)) fun e47=>?_
 ·have e:=eq_of_beq e;have sa:=hs (.inr e);have ra:=hr e;have hf:=D5 a.kids (fun n x=>Jj n x b.kind b.n b.name b.kids) (fun p=>eD (aJ p) b) (fun x hx=>by
   unfold Jj;rw[ra.fst hx];have eb:Val.mk b.kind b.n b.name b.kids=b:=by cases b;rfl
   rw[eb];simp only[qAb];exact Ev.bind (Eu _ _) (Ev.ret _)) (Ap sa)
  refine Ev.bind hf ?_;unfold LV;have rm:fI (a.kids.filter fun p=>eD (aJ p) b):=ra.F8 _
  match a.kids.filter (fun p=>eD (aJ p) b),rm with
  |[],_=>exact Ev.ret _
  |[p],rm=>
   refine Ev.of fun n=>?_;simp only[show(([p].length:Int)!=1)=false from rfl,cond_false,NV,qAb,rm.snd (qBB ..)];rfl
  |p::q::r,_=>
   refine Ev.of fun n=>?_;simp only[show(((p::q::r).length:Int)!=1)=true by simp;omega,cond_true];rfl
 ·have h26:=of_decide_eq_true e;simp only[beq_eq_false_iff_ne,ne_eq]at *;obtain⟨ha,hb⟩:=hn (by omega);exact Ev.pz (aBM ha hb)
 ·by_cases hm:op=48∨op=49
  ·refine Ev.of fun n=>?_;cases hk:a.kids with
   |nil=>rcases hm with rfl|rfl<;>rfl
   |cons x l=>
    have e:(((x::l).length:Int)==0)=false:=by simp;omega
    have hg:idx (x::l) (((x::l).length:Int) - 1)=(x::l).getLast?:=by
     unfold idx;rw[if_pos (by simp),List.getLast?_eq_getElem?];congr 1;omega
    rcases hm with rfl|rfl
    ·simp only[show((48:Int)==48)=true from rfl,e,cond_true,cond_false,qAb,NV];rfl
    ·rw[hg];cases hq:(x::l).getLast? with
     |none=>rw[List.getLast?_eq_none_iff]at hq;cases hq
     |some y=>simp only[show((49:Int)==48)=false from rfl,show((49:Int)==49)=true from rfl,e,cond_true,cond_false,qAb];rfl
  ·have h26:=of_decide_eq_false e26;simp only[beq_eq_false_iff_ne,ne_eq]at *;have h1:(op==48)=false:=by simpa using fun e=>hm (.inl e)
   have h2:(op==49)=false:=by simpa using fun e=>hm (.inr e)
   simp only[h1,h2,cond_false,qAb];exact Ev.pz (aEq (by omega) (h (by omega)))
end Abs
end Go.Proofs.YthgdaonechbgmaaGreat
