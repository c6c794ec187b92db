/-
  The type of a term: the plain function, and that the program's checker and the document's function come to it. Conditions: valid environments and terms; lemmas without a program.
-/
import Derived.Test.YtneeginmfjageaaGreatCP8ox85cf53
set_option linter.all false
namespace Go.Proofs.YtneeginmfjageaaGreat
namespace Abs
open Go
theorem aCc{α σ τ ρ:Type}(l:List α)(L:Nat→Nat→Int→σ→Option (LR τ ρ))(step:Nat→Int→α→σ→Option (LR σ ρ))(st:Int→α→σ→LR σ ρ)(fin:σ→τ)(I:Int→List α→σ→Prop)
  (h0:∀n k s,L n (k+1) (l.length:Int) s=some (.nx (fin s)))
  (h1:∀n k i x s,idx l i=some x→decide (i<(l.length:Int))=true→L n (k+1) i s=(step n i x s).bind (LR.el (fun s'=>L n k (i+1) s') (fun r=>some (.rt r))))
  (hI:∀i x suf s,x∈l→I i (x::suf) s→idx l i=some x→Ev (fun n=>step n i x s) (st i x s)∧∀s',st i x s=.nx s'→I (i+1) suf s') {s0:σ} (hs0:I 0 l s0):Ev (fun n=>L n n 0 s0) (jZ st fin 0 l s0):=by
 have key:∀(suf pre:List α) (s:σ),l=pre++suf→I (pre.length:Int) suf s→∃N,∀n,N≤n→∀k,suf.length+1≤k→L n k (pre.length:Int) s=some (jZ st fin (pre.length:Int) suf s):=by
  intro suf
  induction suf with
  |nil=>
   intro pre s hl _;refine⟨0,fun n _ k hk=>?_⟩;cases k with
   |zero=>simp at hk
   |succ k=>
    have e:pre.length=l.length:=by rw[hl];simp
    rw[e,h0];rfl
  |cons x suf ih=>
   intro pre s hl hIs;have hx:idx l (pre.length:Int)=some x:=by rw[hl];exact gV pre x suf
   obtain⟨⟨N1,k1⟩,k2⟩:=hI _ x suf s (by rw[hl];simp) hIs hx;replace k1:∀n,N1≤n→step n (pre.length:Int) x s=some (st (pre.length:Int) x s):=k1;have hi:decide ((pre.length:Int)<(l.length:Int))=true:=decide_eq_true (by rw[hl];simp;omega);cases hs:st (pre.length:Int) x s with
   |rt r=>
    refine⟨N1,fun n hn k hk=>?_⟩;cases k with
    |zero=>simp at hk
    |succ k=>
     rw[h1 n k _ x s hx hi,k1 n hn,hs];simp[jZ,hs]
   |nx s'=>
    have h3:=k2 s' hs;have e:((pre++[x]).length:Int)=(pre.length:Int)+1:=by simp
    obtain⟨N2,h4⟩:=ih (pre++[x]) s' (by rw[hl];simp) (by rw[e];exact h3);refine⟨max N1 N2,fun n hn k hk=>?_⟩;cases k with
    |zero=>simp at hk
    |succ k=>
     rw[h1 n k _ x s hx hi,k1 n (by omega),hs];simp only[qAa,LR.el];have:=h4 n (by omega) k (by simp at hk;omega);rw[e]at this;rw[this];simp[jZ,hs]
 obtain⟨N,hN⟩:=key l [] s0 rfl hs0;exact⟨max N (l.length+1),fun n hn=>hN n (by omega) n (by omega)⟩
def Wf(d:Int)(t:Tm):Prop:=∃c,0≤c∧(mf t d c).1=true
theorem aum:∀(ts:List Tm) (d c:Int),0≤c→(Aw ts d c).1=true→c+ts.length≤(Aw ts d c).2∧∀t∈ts,Wf d t
 |[],_,c,_,_=>by simp[Aw]
 |t::ts,d,c,h0,h=>by
  simp only[Aw]at h⊢;cases hb:(mf t d c).1 with
  |false=>rw[hb]at h;cases h
  |true=>
   rw[hb]at h;simp only[cond_true]at h⊢;have h1:=ab2 t d c hb;obtain⟨h2,h3⟩:=aum ts d _ (by omega) h;refine⟨by simp only[qAo];omega,fun u hu=>?_⟩;rcases qAh.1 hu with rfl|hu
   ·exact⟨_,h0,hb⟩
   ·exact h3 u hu
theorem Wf.node{op:Int}{nm:Str}{m:Int}{ty:Ty}{ks:List Tm}{d:Int}(h:Wf d (.mk op nm m ty ks)):rW (.mk op nm m ty ks)=true∧d≤64∧ks.length≤2000∧∀t∈ks,Wf (d+1) t:=by
 obtain⟨c,h0,h⟩:=h;simp only[mf]at h;cases hb:((decide (c+1≤2000)&&decide (d≤64))&&rW (.mk op nm m ty ks))with
 |false=>rw[hb]at h;cases h
 |true=>
  rw[hb]at h;obtain⟨h1,h2⟩:=aum _ _ _ (by omega) h;have h3:=arO ks _ _ h
  grind
theorem Br{t:Tm}(h:dH t=true):Wf 1 t:=⟨0,by omega,h⟩
theorem awo{op:Int}(h:(gN op== -2)=false):1≤op∧op≤56:=by
 by_cases hr:1≤op∧op≤56
 ·exact hr
 ·exfalso;have e:gN op= -2:=by
   unfold gN
   grind
  grind
theorem abv{op:Int}{nm:Str}{m:Int}{ty:Ty}{ks:List Tm}(h:rW (.mk op nm m ty ks)=true):(1≤op∧op≤56)∧(op=20→ks=[])∧(op=29→ks=[]∧dI ty=true∧(ty.kind==2)=false)∧(∀l:List Ty,l.length=ks.length→LenOk op l)∧(cO op=true→∃x y,ks=[x,y]):=by
 simp only[rW,qAb,Ak,Tm.op,Tm.kids,qAS]at h;obtain⟨⟨h1,h2⟩,_,_,h5⟩:=h;have hlen:∀q:Int,gN op=q→(q== -1)=false→(ks.length:Int)=q:=fun q e hq=>by
  grind
 have hnil:gN op=0→ks=[]:=fun e=>by
  simp_all
 refine⟨awo h1,fun e=>hnil (by subst e;rfl),fun e=>⟨hnil (by subst e;rfl),?_⟩,fun l hl=>⟨fun e=>by rw[hl];exact hlen 1 e rfl,fun e=>by rw[hl];exact hlen 2 e rfl,fun e=>?_⟩,fun hb=>?_⟩
 ·subst e;have h5':(dI ty&&ty.kind !=2)=true:=h5
  grind
 ·grind
 ·have:gN op=2:=by
   simp only[cO,qBm,beq_iff_eq]at hb;rcases hb with rfl|rfl|rfl|rfl<;>rfl
  obtain⟨x,y,e⟩:=dh ks (hlen 2 this rfl)
  grind
inductive TR where
 |ok (t:Ty)
 |er (e:Int) (p:List Int)
inductive KR where
 |ok (l:List Ty)
 |er (e:Int) (p:List Int)
def rT(env:Env)(sc:List Decl)(s:Str):Option Ty:=match sc.find? (fun d=>d.name==s)with|some d=>some d.ty|none=>look env s
def Ai(o:Option Ty):TR:=match o with|some t=>cond (dI t) (.ok t) (.er 5 [])|none=>.er 7 []
def knows(env:Env)(t:Ty):Bool:=(dK t).all (dx env)
def oU(b:Bool)(nm:Str)(ty:Ty)(sc:List Decl):Option (List Decl):=cond b ((aN ty).map fun e=>⟨nm,e⟩::sc) (some sc)
mutual
def dN(env:Env):List Decl→Tm→TR
 |sc,.mk op nm _ ty ks=>
  cond (op==20) (match rT env sc nm with|some t=>.ok t|none=>.er 6 [])
   (cond (op==29&&!(knows env ty)) (.er 6 [])
    (match dA env sc (cO op) nm 0 ks with
     | .er e p=>.er e p
     | .ok l=>Ai (cond (op==29) (some (aj ty)) (gH op l))))
def dA(env:Env):List Decl→Bool→Str→Int→List Tm→KR
 |_,_,_,_,[]=>.ok []
 |sc,b,nm,i,t::ts=>match dN env sc t with
  | .er e p=>.er e (i::p)
  | .ok ty=>match oU b nm ty sc with
   |none=>.er 7 []
   |some sc'=>match dA env sc' false nm (i+1) ts with
    | .er e p=>.er e p
    | .ok l=>.ok (ty::l)
end
def GoodS(sc:List Decl):Prop:=∀d∈sc,Good d.ty
theorem as2{t:Ty}(h:dI t=true)(hb:yE 2 t=false):Good t:=by
 rcases abj h with rfl|h
 ·cases hb
 ·exact h
theorem azi{env:Env}(h:aW env=true){s:Str}{t:Ty}(ht:look env s=some t):Good t:=by
 rw[BX h]at ht;rcases qAn.1 ht with ht|ht
 ·obtain⟨c,hc,ht⟩:=qBp.1 ht;rcases qAh.1 ht with ht|ht
  ·cases ht;exact .set (.car _)
  ·obtain⟨e,_,he⟩:=qAA.1 ht;cases he;exact .car _
 ·obtain⟨d,hd,he⟩:=qAA.1 ht;cases he;obtain⟨_,h1,h2,_⟩:=Vx h hd;exact as2 h1 h2
theorem awn{env:Env}(h:aW env=true){sc:List Decl}(hs:GoodS sc){s:Str}{t:Ty}(ht:rT env sc s=some t):Good t:=by
 unfold rT at ht;cases hf:sc.find? (fun d=>d.name==s)with
 |some d=>rw[hf]at ht;cases ht;exact hs d (List.mem_of_find?_eq_some hf)
 |none=>rw[hf]at ht;exact azi h ht
theorem NV{o:Option Ty}{t:Ty}(h:Ai o=.ok t):o=some t∧dI t=true:=by
 cases o with
 |none=>cases h
 |some u=>
  simp only[Ai]at h
  grind
theorem at6{o:Option Ty}{e:Int}{p:List Int}(h:Ai o=.er e p):e≠0∧p=[]:=by
 cases o with
 |none=>cases h;exact⟨by decide,rfl⟩
 |some u=>
  simp only[Ai]at h
  grind
theorem MZ{b:Bool}{nm:Str}{ty:Ty}{sc sc':List Decl}(ht:Top ty)(hs:GoodS sc)(h:oU b nm ty sc=some sc'):GoodS sc':=by
 unfold oU at h;cases b with
 |false=>cases h;exact hs
 |true=>
  cases he:aN ty with
  |none=>rw[he]at h;cases h
  |some e=>
   rw[he]at h;cases h;intro d hd;rcases qAh.1 hd with rfl|hd
   ·exact(eO ht he).1
   ·exact hs d hd
theorem qU{env:Env}(h:aW env=true){t:Tm}{sc:List Decl}(hs:GoodS sc){ty:Ty}(ht:dN env sc t=.ok ty):Top ty:=by
 obtain⟨op,nm,m,u,ks⟩:=t;simp only[dN]at ht;cases h20:(op==20)with
 |true=>
  rw[h20]at ht;cases hl:rT env sc nm with
  |none=>rw[hl]at ht;cases ht
  |some t=>rw[hl]at ht;cases ht;exact .inr (awn h hs hl)
 |false=>
  rw[h20]at ht;cases h29:(op==29&&!(knows env u))with
  |true=>rw[h29]at ht;cases ht
  |false=>
   rw[h29]at ht;cases hk:dA env sc (cO op) nm 0 ks with
   |er e p=>rw[hk]at ht;cases ht
   |ok l=>rw[hk]at ht;exact abj (NV ht).2
theorem akr{env:Env}(h:aW env=true):∀(ts:List Tm) (sc:List Decl) (b:Bool) (nm:Str) (i:Int) (l:List Ty),GoodS sc→dA env sc b nm i ts=.ok l→l.length=ts.length∧(∀t∈l,Top t)∧(b=true→ts≠[]→(aN (l.headD aR)).isSome=true)
 |[],sc,b,nm,i,l,_,hk=>by
  simp only[dA]at hk;cases hk;exact⟨rfl,fun t ht=>(by cases ht),fun _ h=>absurd rfl h⟩
 |t::ts,sc,b,nm,i,l,hs,hk=>by
  simp only[dA]at hk;cases ht:dN env sc t with
  |er e p=>rw[ht]at hk;cases hk
  |ok ty=>
   rw[ht]at hk;simp only at hk;have htop:=qU h hs ht;cases hb:oU b nm ty sc with
   |none=>rw[hb]at hk;cases hk
   |some sc'=>
    rw[hb]at hk;simp only at hk;cases hr:dA env sc' false nm (i+1) ts with
    |er e p=>rw[hr]at hk;cases hk
    |ok l'=>
     rw[hr]at hk;cases hk;obtain⟨h1,h2,_⟩:=akr h ts sc' false nm (i+1) l' (MZ htop hs hb) hr;refine⟨by simp[h1],fun u hu=>?_,fun hbt _=>?_⟩
     ·rcases qAh.1 hu with rfl|hu
      ·exact htop
      ·exact h2 u hu
     ·subst hbt;show(aN ty).isSome=true;unfold oU at hb;cases he:aN ty with
      |none=>rw[he]at hb;cases hb
      |some e=>rfl
mutual
theorem IQ{env:Env}:∀(t:Tm) (sc:List Decl) (e:Int) (p:List Int),dN env sc t=.er e p→e≠0
 | .mk op nm m u ks,sc,e,p,h=>by
  simp only[dN]at h;cases h20:(op==20)with
  |true=>
   rw[h20]at h;simp only[cond_true]at h;cases hl:rT env sc nm with
   |none=>rw[hl]at h;cases h;decide
   |some t=>rw[hl]at h;cases h
  |false=>
   rw[h20]at h;simp only[cond_false]at h;cases h29:(op==29&&!(knows env u))with
   |true=>rw[h29]at h;cases h;decide
   |false=>
    rw[h29]at h;simp only[cond_false]at h;cases hk:dA env sc (cO op) nm 0 ks with
    |er e' p'=>rw[hk]at h;cases h;exact auk ks sc _ nm 0 _ _ hk
    |ok l=>rw[hk]at h;exact(at6 h).1
theorem auk{env:Env}:∀(ts:List Tm) (sc:List Decl) (b:Bool) (nm:Str) (i:Int) (e:Int) (p:List Int),dA env sc b nm i ts=.er e p→e≠0
 |[],sc,b,nm,i,e,p,h=>by simp only[dA]at h;cases h
 |t::ts,sc,b,nm,i,e,p,h=>by
  simp only[dA]at h;cases ht:dN env sc t with
  |er e' p'=>rw[ht]at h;cases h;exact IQ t sc _ _ ht
  |ok ty=>
   rw[ht]at h;simp only at h;cases hb:oU b nm ty sc with
   |none=>rw[hb]at h;cases h;decide
   |some sc'=>
    rw[hb]at h;simp only at h;cases hr:dA env sc' false nm (i+1) ts with
    |er e' p'=>rw[hr]at h;cases h;exact auk ts sc' false nm _ _ _ hr
    |ok l'=>rw[hr]at h;cases h
end
mutual
theorem ZV{env:Env}:∀{t:Tm} {d:Int} (_:Wf d t) (sc:List Decl) (e:Int) (p:List Int),dN env sc t=.er e p→(p.length:Int)+d≤64
 | .mk op nm m u ks,d,hw,sc,e,p,h=>by
  obtain⟨_,hd,_,hkw⟩:=hw.node;simp only[dN]at h;cases h20:(op==20)with
  |true=>
   rw[h20]at h;simp only[cond_true]at h;cases hl:rT env sc nm with
   |none=>rw[hl]at h;cases h;simpa using hd
   |some t=>rw[hl]at h;cases h
  |false=>
   rw[h20]at h;simp only[cond_false]at h;cases h29:(op==29&&!(knows env u))with
   |true=>rw[h29]at h;cases h;simpa using hd
   |false=>
    rw[h29]at h;simp only[cond_false]at h;cases hk:dA env sc (cO op) nm 0 ks with
    |er e' p'=>rw[hk]at h;cases h;exact alR ks d hd hkw sc _ nm 0 _ _ hk
    |ok l=>rw[hk]at h;rw[(at6 h).2];simpa using hd
theorem alR{env:Env}:∀(ts:List Tm) (d:Int) (_:d≤64) (_:∀t∈ts,Wf (d+1) t) (sc:List Decl) (b:Bool) (nm:Str) (i:Int) (e:Int) (p:List Int),dA env sc b nm i ts=.er e p→(p.length:Int)+d≤64
 |[],d,_,_,sc,b,nm,i,e,p,h=>by simp only[dA]at h;cases h
 |t::ts,d,hd,hw,sc,b,nm,i,e,p,h=>by
  simp only[dA]at h;cases ht:dN env sc t with
  |er e' p'=>
   rw[ht]at h;cases h;have:=ZV (hw t (qBD ..)) sc _ _ ht;simp only[qAo,qCW,qCX];omega
  |ok ty=>
   rw[ht]at h;simp only at h;cases hb:oU b nm ty sc with
   |none=>rw[hb]at h;cases h;simpa using hd
   |some sc'=>
    rw[hb]at h;simp only at h;cases hr:dA env sc' false nm (i+1) ts with
    |er e' p'=>rw[hr]at h;cases h;exact alR ts d hd (fun u hu=>hw u (qAl _ hu)) sc' false nm _ _ _ hr
    |ok l'=>rw[hr]at h;cases h
end
inductive RR(β:Type) where
 |ok (v:β)
 |er (e:Int)
abbrev VR:=RR Val
abbrev UM:=RR (List Val)
def RR.thn{β γ:Type}(r:RR β)(f:β→RR γ):RR γ:=match r with| .ok v=>f v| .er e=>.er e
def eY:List VR→UM
 |[]=>.ok []
 | .er e::_=>.er e
 | .ok v::r=>match eY r with| .er e=>.er e| .ok l=>.ok (v::l)
def v0:Val:=.mk 0 0 [] []
def R6(n:Int):Val:=.mk 1 n [] []
def bO(b:Bool):Val:=cond b (.mk 2 1 [] []) (.mk 2 0 [] [])
def dD(a b:Val):Val:=.mk 4 0 [] [a,b]
def mkSet(l:List Val):Val:=.mk 5 0 [] l
def OX(l:List Val):Val:=mkSet (sortV l)
def bL(p:Val):Val:=p.kids.headD v0
def dP(p:Val):Val:=(p.kids.drop 1).headD v0
def oP(a b:Val):Bool:=bK a b==0
def bf(l:List Val)(x:Val):Bool:=l.any fun y=>oP y x
def avZ(n:Int):Bool:=decide (1000000000<n) ||decide (n< -1000000000)
def xL(n:Int):VR:=cond (avZ n) (.er 11) (.ok (R6 n))
def pG(l:List Val):VR:=cond (decide (256<((sortV l).length:Int))) (.er 11) (.ok (OX l))
def nQ(l:List Val):List Val:=sortV (l.map bL)
def qH(l:List Val):List Val:=sortV (l.map dP)
def ints(a:Int):Nat→List Val
 |0=>[]
 |n+1=>R6 a::ints (a+1) n
def vJ(l m:List Val):Bool:=(l.length:Int)==(m.length:Int)
def Ab(op:Int)(a b l:List Val):Bool:=
 l.all (fun p=>bf a (bL p)&&bf b (dP p))&&
 cond (op==41) true (cond (op==42) (vJ (nQ l) l) (cond (op==43) (vJ (nQ l) l&&vJ (nQ l) a)
  (cond (op==44) (vJ (nQ l) l&&(vJ (nQ l) a&&vJ (qH l) l)) (vJ (nQ l) l&&(vJ (nQ l) a&&(vJ (qH l) l&&vJ (qH l) b))))))
def vM(l:List Val):List (List Val):=l.foldl (fun out x=>out++out.map fun r=>r++[x]) [[]]
def zi(op m n:Int):Bool:=cond (op==45&&m !=n) true (decide (44≤op)&&decide (n<m))
def ajs(op n i:Int):Int:=cond (op==41) (2^n.toNat) (cond (op==42) (n+1) (cond (op==44 ||op==45) (n - i) n))
def wK(op n:Int):Nat→Int→Int→Bool
 |0,_,_=>false
 |k+1,i,c=>cond (op==41&&decide (8<n)) true (cond (ajs op n i==0) false (cond (decide (256<c*ajs op n i)) true (wK op n k (i+1) (c*ajs op n i))))
def lW(op:Int)(a b:List Val):List Val→List Val→List Val
 |[],l=>cond (Ab op a b l) [OX l] []
 |x::xs,l=>cond (op==41) ((vM b).flatMap fun im=>lW op a b xs (l++im.map (dD x)))
  (cond (op==42) (lW op a b xs l) []++b.flatMap fun v=>cond (decide (44≤op)&&bf (qH l) v) [] (lW op a b xs (l++[dD x v])))
def JQ(op:Int)(a b:List Val):UM:=
 cond (zi op a.length b.length) (.ok []) (cond (wK op b.length a.length 0 1) (.er 11) (.ok (lW op a b a [])))
def Hr(op:Int)(a b:Val):UM:=
 cond (op==30) (cond (decide (256≤b.n - a.n)) (.er 11) (.ok (ints a.n (b.n+1 - a.n).toNat))) <|
 cond (op==31) (.ok (a.kids++b.kids)) <|
 cond (op==32) (.ok (a.kids.filter (bf b.kids))) <|
 cond (op==33) (.ok (a.kids.filter fun x=>!bf b.kids x)) <|
 cond (op==34) (cond (decide (256<(a.kids.length:Int)*b.kids.length)) (.er 11) (.ok (a.kids.flatMap fun x=>b.kids.map (dD x)))) <|
 cond (op==35) (.ok (a.kids.filter (fun p=>!bf (nQ b.kids) (bL p))++b.kids)) <|
 cond (op==36) (.ok (a.kids.flatMap fun p=>b.kids.flatMap fun q=>cond (oP (dP p) (bL q)) [dD (bL p) (dP q)] [])) <|
 cond (op==37) (.ok (b.kids.filter fun p=>bf a.kids (bL p))) <|
 cond (op==38) (.ok (b.kids.filter fun p=>!bf a.kids (bL p))) <|
 cond (op==39) (.ok (a.kids.filter fun p=>bf b.kids (dP p))) <|
 cond (op==40) (.ok (a.kids.filter fun p=>!bf b.kids (dP p))) <|
 cond (op==46) (cond (decide (8<(a.kids.length:Int))) (.er 11) (.ok ((vM a.kids).map mkSet))) <|
 cond (op==50) (.ok (nQ a.kids)) <|
 cond (op==51) (.ok (qH a.kids)) <|
 cond (op==52) (.ok (a.kids.map fun p=>dD (dP p) (bL p))) <|
 cond (op==53) (.ok (qH (a.kids.filter fun p=>bf b.kids (bL p)))) <|
 JQ op a.kids b.kids
def aqi(op a b:Int):VR:=
 cond (op==21) (xL (-a)) <|
 cond (op==22) (xL (a+b)) <|
 cond (op==23) (xL (a - b)) <|
 cond (op==24) (xL (a*b)) <|
 cond (op==25) (cond (b==0) (.er 10) (xL (Int.tdiv a b))) <|
 cond (decide (a<0) ||decide (b<1)) (.er 10) (xL (Int.tmod a b))
def ajA(a b:Val):VR:=match a.kids.filter fun p=>oP (bL p) b with
 |[p]=>.ok (dP p)
 |_=>.er 10
def Ea(op:Int)(a b:Val):VR:=
 cond (op==3) (.ok (bO (a.n==0))) <|
 cond (op==7) (.ok (bO (a.n==b.n))) <|
 cond (op==10) (.ok (bO (oP a b))) <|
 cond (op==11) (.ok (bO (!oP a b))) <|
 cond (op==12) (.ok (bO (decide (a.n<b.n)))) <|
 cond (op==13) (.ok (bO (decide (a.n≤b.n)))) <|
 cond (op==14) (.ok (bO (decide (b.n<a.n)))) <|
 cond (op==15) (.ok (bO (decide (b.n≤a.n)))) <|
 cond (op==27) (.ok (dD a b)) <|
 cond (op==54) (ajA a b) <|
 cond (decide (op≤26)) (aqi op a.n b.n) <|
 cond (op==47) (xL a.kids.length) <|
 cond (op==48) (match a.kids with|[]=>.er 10|x::_=>.ok x) <|
 cond (op==49) (match a.kids.getLast? with|none=>.er 10|some x=>.ok x) <|
 (Hr op a b).thn pG
def Aa(op:Int):Bool:=decide (41≤op)&&decide (op≤46)
def qy(op:Int)(l:List Val)(x:Val):Bool:=
 cond (Aa op) (cond (op==46) (x.kids.all (bf (l.headD v0).kids)) (Ab op (l.headD v0).kids ((l.drop 1).headD v0).kids x.kids)) (bf (l.headD v0).kids x)
def Ry(op:Int)(xs ys:List Val):VR:=
 cond (op==8) (.ok (bO (ys.all fun y=>y.n==1))) <|
 cond (op==9) (.ok (bO (ys.any fun y=>y.n==1))) <|
 pG ((xs.zip ys).flatMap fun p=>cond (op==56) [dD p.1 p.2] (cond (p.2.n==1) [p.1] []))
abbrev Sem:=List Bound→VR
structure Kd where
 op:Int
 f:Sem
 gs:List Sem
def kd0:Kd:=⟨0,fun _=>.er 0,[]⟩
def Ec(k:Kd)(bs:List Bound):UM:=cond (Aa k.op) (eY (k.gs.map fun g=>g bs)) (eY [k.f bs])
def W9(op:Int)(k:Kd)(bs:List Bound)(x:Val):VR:=(Ec k bs).thn fun l=>.ok (bO (cond (op==18) (x.kids.all (qy k.op l)) (qy k.op l x==(op==16))))
def jo(f:Sem)(nm:Str)(bs:List Bound)(xs:List Val):UM:=eY (xs.map fun x=>f (⟨nm,x⟩::bs))
def gW(op:Int)(l:List Val):VR:=cond (op==28) (pG l) (Ea op (l.headD v0) ((l.drop 1).headD v0))
def agJ(g:Str→Val)(bs:List Bound)(s:Str):Val:=match bs.find? (fun b=>b.name==s)with
 |some b=>b.v
 |none=>g s
def Z0(g:Str→Val)(op:Int)(nm:Str)(m:Int)(ks:List Kd)(bs:List Bound):VR:=
 let k0:=ks.headD kd0
 let k1:=(ks.drop 1).headD kd0
 cond (op==1 ||op==2) (.ok (bO (op==1))) <|
 cond (op==19) (xL m) <|
 cond (op==20) (.ok (agJ g bs nm)) <|
 cond (op==29) (.ok (mkSet [])) <|
 cond (op==4 ||(op==5 ||op==6)) ((k0.f bs).thn fun p=>cond (op==4&&!(p.n==1)) (.ok (bO false)) (cond ((op==5&&p.n==1) ||(op==6&&!(p.n==1))) (.ok (bO true)) (k1.f bs))) <|
 cond (cO op) ((k0.f bs).thn fun s=>(jo k1.f nm bs s.kids).thn fun ys=>Ry op s.kids ys) <|
 cond (op==16 ||(op==17 ||op==18)) ((k0.f bs).thn (W9 op k1 bs)) <|
 (eY (ks.map fun k=>k.f bs)).thn (gW op)
mutual
def aF(g:Str→Val):Tm→Sem
 | .mk op nm m _ ks=>Z0 g op nm m (aea g ks)
def aea(g:Str→Val):List Tm→List Kd
 |[]=>[]
 | .mk op nm m _ ks::ts=>⟨op,Z0 g op nm m (aea g ks),aqB g ks⟩::aea g ts
def aqB(g:Str→Val):List Tm→List Sem
 |[]=>[]
 | .mk op nm m _ ks::ts=>Z0 g op nm m (aea g ks)::aqB g ts
end
def uH(g:Str→Val)(t:Tm):Kd:=⟨t.op,aF g t,t.kids.map (aF g)⟩
theorem at7(g:Str→Val):∀ts:List Tm,aqB g ts=ts.map (aF g)
 |[]=>by rw[aqB,qCT]
 | .mk op nm m ty ks::ts=>by rw[aqB,qAz,aF,at7 g ts]
theorem auj(g:Str→Val):∀ts:List Tm,aea g ts=ts.map (uH g)
 |[]=>by rw[aea,qCT]
 | .mk op nm m ty ks::ts=>by rw[aea,qAz,uH,aF,auj g ts,at7];rfl
theorem l8(g:Str→Val)(op:Int)(nm:Str)(m:Int)(ty:Ty)(ks:List Tm):aF g (.mk op nm m ty ks)=Z0 g op nm m (ks.map (uH g)):=by rw[aF,auj]
theorem iJ{l ys:List Val}(h:(l.length+ys.length)*56≤140737488355328):app 56 l ys=some (l++ys):=by
 unfold app
 grind
theorem LK{α:Type}(x:α)(l:List α):idx (x::l) 0=some x:=by simp[idx]
theorem aD1{α β:Type}(l:List α)(f:Nat→α→Option β)(g:α→β)(h:∀x∈l,Ev (fun n=>f n x) (g x)):∃N,∀n,N≤n→∀x∈l,f n x=some (g x):=by
 induction l with
 |nil=>exact⟨0,fun _ _ x hx=>by cases hx⟩
 |cons a l ih=>
  obtain⟨N,h1⟩:=h a (by simp);obtain⟨M,h2⟩:=ih fun x hx=>h x (by simp[hx]);refine⟨N+M,fun n hn x hx=>?_⟩;rcases qAh.1 hx with rfl|hx
  ·exact h1 n (by omega)
  ·exact h2 n (by omega) x hx
theorem OO{α σ S τ ρ:Type}(l:List α)(B:Nat→(S→Option (LR τ ρ))→S→Option (LR τ ρ))(pk:Int→σ→S)(st:α→σ→LR σ ρ)(fin:σ→τ)(I:List α→σ→Prop)
  (he:∀n rec s,B n rec (pk (l.length:Int) s)=some (.nx (fin s)))
  (hs:∀pre x suf s,l=pre++x::suf→I (x::suf) s→(∃N,∀n,N≤n→∀rec,B n rec (pk (pre.length:Int) s)=match st x s with| .nx s'=>rec (pk ((pre.length:Int)+1) s')| .rt r=>some (.rt r))∧∀s',st x s=.nx s'→I suf s')
  {s0:σ} (h0:I l s0):Ev (fun n=>aH (B n) n (pk 0 s0)) (gD st fin l s0):=by
 have key:∀(suf pre:List α) (s:σ),l=pre++suf→I suf s→∃N,∀n,N≤n→∀k,suf.length+1≤k→aH (B n) k (pk (pre.length:Int) s)=some (gD st fin suf s):=by
  intro suf
  induction suf with
  |nil=>
   intro pre s hl _;refine⟨0,fun n _ k hk=>?_⟩;obtain⟨j,rfl⟩:∃j,k=j+1:=⟨k - 1,by simp at hk;omega⟩;rw[show(pre.length:Int)=(l.length:Int) by rw[hl];simp];exact he n _ s
  |cons x suf ih=>
   intro pre s hl hI;obtain⟨⟨N,h1⟩,h2⟩:=hs pre x suf s hl hI;cases hx:st x s with
   |rt r=>
    refine⟨N,fun n hn k hk=>?_⟩;obtain⟨j,rfl⟩:∃j,k=j+1:=⟨k - 1,by simp at hk;omega⟩;have:=h1 n hn (aH (B n) j);rw[hx]at this;show B n (aH (B n) j) _=_;rw[this];simp only[gD,hx]
   |nx s'=>
    obtain⟨M,h3⟩:=ih (pre++[x]) s' (by simp[hl]) (h2 s' hx);refine⟨N+M,fun n hn k hk=>?_⟩;obtain⟨j,rfl⟩:∃j,k=j+1:=⟨k - 1,by simp at hk;omega⟩;have:=h1 n (by omega) (aH (B n) j);rw[hx]at this;show B n (aH (B n) j) _=_;rw[this];have h4:=h3 n (by omega) j (by simp at hk;omega);rw[show((pre++[x]).length:Int)=(pre.length:Int)+1 by simp]at h4;simp only[gD,hx];exact h4
 obtain⟨N,h⟩:=key l [] s0 rfl h0;exact⟨N+l.length+1,fun n hn=>h n (by omega) n (by omega)⟩
theorem aqZ{α β τ ρ:Type}(g:α→List β)(fin:List β→τ):∀(l:List α) (s:List β),gD (ρ:=ρ) (fun x s=>.nx (s++g x)) fin l s=.nx (fin (s++l.flatMap g))
 |[],s=>by simp[gD]
 |x::l,s=>by simp only[gD];rw[aqZ g fin l];simp
theorem aB5{α β S τ ρ:Type}(l:List α)(B:Nat→(S→Option (LR τ ρ))→S→Option (LR τ ρ))(pk:Int→List β→S)(fin:List β→τ)(g:α→List β)(M:Nat)
  (he:∀n rec s,B n rec (pk (l.length:Int) s)=some (.nx (fin s)))
  (hs:∀pre x suf s,l=pre++x::suf→s.length+(g x).length≤M→∃N,∀n,N≤n→∀rec,B n rec (pk (pre.length:Int) s)=rec (pk ((pre.length:Int)+1) (s++g x)))
  {s0:List β} (h0:s0.length+(l.flatMap g).length≤M):Ev (fun n=>aH (B n) n (pk 0 s0)) (LR.nx (fin (s0++l.flatMap g))):=by
 rw[←aqZ (ρ:=ρ) g fin l s0];refine OO l B pk _ fin (fun suf s=>s.length+(suf.flatMap g).length≤M) he (fun pre x suf s hl hI=>?_) h0;simp only[qBh,qAf]at hI;refine⟨hs pre x suf s hl (by omega),fun s' e=>?_⟩;cases e;simp only[qAf];omega
theorem wW{α S ρ:Type}(l:List α)(B:Nat→(S→Option (LR (List Val) ρ))→S→Option (LR (List Val) ρ))(pk:Int→List Val→S)(g:α→List Val)(M:Nat)(hM:M*56≤140737488355328)
  (he:∀n rec s,B n rec (pk (l.length:Int) s)=some (.nx s))
  (hs:∀pre x suf s,l=pre++x::suf→(s.length+(g x).length)*56≤140737488355328→∃N,∀n,N≤n→∀rec,B n rec (pk (pre.length:Int) s)=rec (pk ((pre.length:Int)+1) (s++g x)))
  {s0:List Val} (h0:s0.length+(l.flatMap g).length≤M):Ev (fun n=>aH (B n) n (pk 0 s0)) (LR.nx (s0++l.flatMap g)):=
 aB5 l B pk (fun s=>s) g M he (fun pre x suf s hl h=>hs pre x suf s hl (by omega)) h0
def avU(l:List Val)(P:Nat→Val→Option Bool)(n:Nat)(rec:(List Val×Int)→Option (LR (List Val) (List Val)))(s:List Val×Int):Option (LR (List Val) (List Val)):=
 cond (decide (s.2<(l.length:Int))) ((((idx l s.2).bind fun(x1:Val)=>((P n x1).bind fun(x2:Bool)=>(cond x2 ((app 56 s.1 ([x1])).bind fun(x3:List Val)=>some x3) (some s.1)))):Option (List Val)).bind fun(s3:List Val)=>rec (s3,(s.2+1))) (some (.nx s.1))
theorem Zv{α:Type}(p:α→Bool)(l:List α):l.flatMap (fun x=>cond (p x) [x] [])=l.filter p:=by
 induction l with
 |nil=>rfl
 |cons x l ih=>rw[qBh,ih,List.filter_cons];cases p x<;>rfl
theorem flatMap_one{α β:Type}(f:α→β)(l:List α):l.flatMap (fun x=>[f x])=l.map f:=by
 induction l with
 |nil=>rfl
 |cons x l ih=>rw[qBh,ih];rfl
theorem at_end{α:Type}(l:List α):decide ((l.length:Int)<(l.length:Int))=false:=decide_eq_false (Int.lt_irrefl _)
theorem dW{α:Type}{l pre suf:List α}{x:α}(h:l=pre++x::suf):decide ((pre.length:Int)<(l.length:Int))=true∧idx l (pre.length:Int)=some x:=by
 subst h;exact⟨decide_eq_true (by simp;omega),gV _ _ _⟩
theorem CQ(l:List Val)(P:Nat→Val→Option Bool)(p:Val→Bool)(hp:∀x∈l,Ev (fun n=>P n x) (p x))(hl:l.length≤1000000):
  Ev (fun n=>(aH (avU l P n) n (([]:List Val),(0:Int))).bind (LR.el (fun s2=>some s2) (fun r=>some r))) (l.filter p):=by
 have h:=wW l (avU l P) (fun i s=>(s,i)) (fun x=>cond (p x) [x] []) 1000000 (by omega) (fun n rec s=>by unfold avU;rw[at_end];rfl) (fun pre x suf s e hb=>by
  obtain⟨N,h⟩:=hp x (by simp[e]);refine⟨N,fun n hn rec=>?_⟩;have h:P n x=_:=h n hn;unfold avU;rw[(dW e).1];simp only[cond_true,(dW e).2,qAa,h];cases hx:p x
  ·simp
  ·rw[hx]at hb;simp only[cond_true,qAo,qAC]at hb⊢;rw[iJ (by simpa using hb)];rfl) (s0:=[]) (by rw[Zv];have:=qCO p l;simp only[qAC];omega)
 rw[Zv,qAs]at h;exact Ev.bind h (Ev.ret _)
theorem kG(l:List Val)(x:Val):bf l x=true↔x∈l:=by
 unfold bf oP;rw[qDw];constructor
 ·rintro⟨y,hy,h⟩;rw[beq_iff_eq,gu]at h;exact h▸hy
 ·exact fun h=>⟨x,h,by rw[beq_iff_eq,gu]⟩
theorem ajK{l:List Val}(h:l.Pairwise kR){i j:Nat}(hij:i<j)(hj:j<l.length):kR (l[i]'(by omega)) l[j]:=List.pairwise_iff_getElem.1 h i j (by omega) hj hij
theorem aBt(l:List Val)(x:Val)(hs:l.Pairwise kR)(hl:l.length≤1000000)(n:Nat)(hc:∀y∈l,dz n y x=some (bK y x)):∀(d lo hi:Nat),lo≤hi→hi≤l.length→hi - lo≤d→
  (∀i (h:i<l.length),i<lo→bK l[i] x<0)→(∀i (h:i<l.length),hi≤i→¬bK l[i] x<0)→
  ∃r:Nat,r≤l.length∧(∀i (h:i<l.length),i<r→bK l[i] x<0)∧(∀i (h:i<l.length),r≤i→¬bK l[i] x<0)∧∀k,d+1≤k→tq n l x k ((lo:Int),(hi:Int))=some (.nx (r:Int)):=by
 intro d
 induction d with
 |zero=>
  intro lo hi h1 h2 h3 ha hb;have:lo=hi:=by omega
  subst this;refine⟨lo,h2,ha,hb,fun k hk=>?_⟩;obtain⟨j,rfl⟩:∃j,k=j+1:=⟨k - 1,by omega⟩;show dM n l x _ _=_;unfold dM;rw[decide_eq_false (by simp)];rfl
 |succ d ih=>
  intro lo hi h1 h2 h3 ha hb;by_cases hlt:lo<hi
  ·have hm:(lo+hi)/2<l.length:=by omega
   have hx:=hc l[(lo+hi)/2] (qAN hm);have hi':idx l (((lo+hi)/2:Nat):Int)=some l[(lo+hi)/2]:=by
    unfold idx;rw[if_pos (by omega),qBS,qAc hm]
   have e1:IntKind.wrap .u64 (IntKind.wrap .i64 ((lo:Int)+(hi:Int)))=((lo+hi:Nat):Int):=by
    rw[wrap64 (by omega) (by omega)];simp only[IntKind.wrap]
    first
     |omega
     |(rw[Int.emod_eq_of_lt (by omega) (by simp;omega)];omega)
     |(simp[IntKind.bits];omega)
   have e2:apa .u64 (((lo+hi:Nat)):Int) 1=some (((lo+hi)/2:Nat):Int):=by
    unfold apa;rw[if_pos ⟨by omega,by decide⟩];congr 1;rw[qDj _ (by decide)];rfl
   by_cases hcm:bK l[(lo+hi)/2] x<0
   ·obtain⟨r,r1,r2,r3,r4⟩:=ih ((lo+hi)/2+1) hi (by omega) h2 (by omega) (fun i h hq=>by
     rcases qDz i ((lo+hi)/2)with h'|h'
     ·exact zW _ _ _ (ajK hs h' hm) hcm
     ·have:i=(lo+hi)/2:=by omega
      subst this;exact hcm) hb
    refine⟨r,r1,r2,r3,fun k hk=>?_⟩;obtain⟨j,rfl⟩:∃j,k=j+1:=⟨k - 1,by omega⟩;show dM n l x _ _=_;unfold dM;rw[decide_eq_true (by simpa using hlt)];simp only[cond_true,e1,e2,qAa];rw[wrap64 (by omega) (by omega)];simp only[hi',qAa,hx];rw[decide_eq_true hcm,cond_true,wrap64 (by omega) (by omega)];exact r4 j (by omega)
   ·obtain⟨r,r1,r2,r3,r4⟩:=ih lo ((lo+hi)/2) (by omega) (by omega) (by omega) ha (fun i h hq hcn=>by
     rcases qDz ((lo+hi)/2) i with h'|h'
     ·exact hcm (zW _ _ _ (ajK hs h' h) hcn)
     ·have:i=(lo+hi)/2:=by omega
      subst this;exact hcm hcn)
    refine⟨r,r1,r2,r3,fun k hk=>?_⟩;obtain⟨j,rfl⟩:∃j,k=j+1:=⟨k - 1,by omega⟩;show dM n l x _ _=_;unfold dM;rw[decide_eq_true (by simpa using hlt)];simp only[cond_true,e1,e2,qAa];rw[wrap64 (by omega) (by omega)];simp only[hi',qAa,hx];rw[decide_eq_false hcm,cond_false];exact r4 j (by omega)
  ·obtain⟨r,r1,r2,r3,r4⟩:=ih lo hi h1 h2 (by omega) ha hb;exact⟨r,r1,r2,r3,fun k hk=>r4 k (by omega)⟩
theorem Hl{l:List Val}(hs:l.Pairwise kR)(hl:l.length≤1000000)(x:Val):Ev (fun n=>fC n l x) (bf l x):=by
 obtain⟨N,hc⟩:=aD1 l (fun n y=>dz n y x) (fun y=>bK y x) fun y _=>yO y x;refine⟨N+l.length+1,fun n hn=>?_⟩;obtain⟨r,r1,r2,r3,r4⟩:=aBt l x hs hl n (hc n (by omega)) l.length 0 l.length (by omega) (by omega) (by omega) (fun i _ h=>absurd h (by omega)) (fun i h h'=>absurd h (by omega));have h4:=r4 n (by omega);show fC n l x=_;unfold fC og;rw[show((0:Nat):Int)=0 from rfl]at h4;rw[h4];simp only[qAa,LR.el];by_cases hr:r<l.length
 ·have hi':idx l (r:Int)=some l[r]:=by
   unfold idx;rw[if_pos (by omega),qBS,qAc hr]
  rw[decide_eq_true (by omega)];simp only[cond_true,hi',qAa,hc n (by omega) l[r] (qAN hr)];congr 1;rw[qBY,kG,beq_iff_eq,gu];constructor
  ·rintro rfl;exact qAN hr
  ·intro hm;obtain⟨j,hj,rfl⟩:=qBz hm;rcases Nat.lt_trichotomy j r with h|h|h
   ·exact absurd (r2 j hj h) (by have:=(gu l[j] l[j]).2 rfl;omega)
   ·subst h;rfl
   ·exact absurd (ajK hs h hj) (r3 r hr (qAd _))
 ·rw[decide_eq_false (by omega)];simp only[cond_false,qAa];congr 1;symm;rw[Bool.eq_false_iff];intro hm;rw[kG]at hm;obtain⟨j,hj,rfl⟩:=qBz hm;exact absurd (r2 j hj (by omega)) (by have:=(gu l[j] l[j]).2 rfl;omega)
def iX(l:List Val):Prop:=l.Pairwise kR∧l.length≤256
def mY(l:List Val):Prop:=∀p∈l,∃a b,p.kids=[a,b]
theorem iX.has{l:List Val}(h:iX l)(x:Val):Ev (fun n=>(fC n l x).bind fun(x1:Bool)=>some x1) (bf l x):=Ev.bind (Hl h.1 (by have:=h.2;omega) x) (Ev.ret _)
theorem mY.fst{l:List Val}(h:mY l){p:Val}(hp:p∈l):idx p.kids 0=some (bL p):=by
 obtain⟨a,b,e⟩:=h p hp;unfold bL;rw[e];rfl
theorem mY.snd{l:List Val}(h:mY l){p:Val}(hp:p∈l):idx p.kids 1=some (dP p):=by
 obtain⟨a,b,e⟩:=h p hp;unfold dP;rw[e];rfl
theorem y8{l:List Val}(h:iX l):l.length≤1000000:=by have:=h.2;omega
theorem abw{l:List Val}(h:mY l)(hl:l.length≤1000000):Ev (fun n=>zU n l) (nQ l):=by
 have h1:=wW l (fun n=>AO n l) (fun i s=>(s,i)) (fun x=>[bL x]) 1000000 (by omega) (fun n rec s=>by unfold AO;rw[at_end];rfl) (fun pre x suf s e hb=>⟨0,fun n hn rec=>by
  unfold AO;rw[(dW e).1];simp only[cond_true,(dW e).2,qAa,h.fst (show x∈l by simp[e])];rw[iJ (by simpa using hb)];rfl⟩) (s0:=[]) (by rw[flatMap_one];simpa using hl)
 rw[flatMap_one,qAs]at h1;unfold zU mkS;rw[if_pos ⟨by omega,by omega,by omega⟩];simp only[qAa];refine Ev.bind h1 ⟨0,fun n _=>?_⟩;simp only[LR.el,jG];rw[iJ (by simp;omega)];rfl
theorem NH{l:List Val}(h:mY l)(hl:l.length≤1000000):Ev (fun n=>pX n l) (qH l):=by
 have h1:=wW l (fun n=>y9 n l) (fun i s=>(s,i)) (fun x=>[dP x]) 1000000 (by omega) (fun n rec s=>by unfold y9;rw[at_end];rfl) (fun pre x suf s e hb=>⟨0,fun n hn rec=>by
  unfold y9;rw[(dW e).1];simp only[cond_true,(dW e).2,qAa,h.snd (show x∈l by simp[e])];rw[iJ (by simpa using hb)];rfl⟩) (s0:=[]) (by rw[flatMap_one];simpa using hl)
 rw[flatMap_one,qAs]at h1;unfold pX mkS;rw[if_pos ⟨by omega,by omega,by omega⟩];simp only[qAa];refine Ev.bind h1 ⟨0,fun n _=>?_⟩;simp only[LR.el,jG];rw[iJ (by simp;omega)];rfl
theorem adg(op:Int){a b l:List Val}(ha:a.Pairwise kR)(hb:b.Pairwise kR)(la:a.length≤1000000)(lb:b.length≤1000000)(h:mY l)(hl:l.length≤1000000):Ev (fun n=>uP n op a b l) (Ab op a b l):=by
 have h1:=OO l (fun n=>wM n a b l) (fun i _=>i) (fun x (_:Unit)=>cond (!(bf a (bL x)&&bf b (dP x))) (.rt false) (.nx ())) (fun _=>()) (fun _ _=>True) (fun n rec s=>by unfold wM;rw[at_end];rfl) (fun pre x suf s e _=>⟨by
  obtain⟨N,h1⟩:=Hl ha la (bL x);obtain⟨M,h2⟩:=Hl hb lb (dP x);refine⟨N+M,fun n hn rec=>?_⟩;have h1:fC n a (bL x)=_:=h1 n (by omega);have h2:fC n b (dP x)=_:=h2 n (by omega);unfold wM;rw[(dW e).1];simp only[cond_true,(dW e).2,qAa,h.fst (show x∈l by simp[e]),h.snd (show x∈l by simp[e]),h1,h2];cases bf a (bL x)<;>cases bf b (dP x)<;>rfl,fun _ _=>trivial⟩) (s0:=()) trivial
 rw[R4]at h1;have e:l.all (fun p=>bf a (bL p)&&bf b (dP p))=!(l.any fun x=>!(bf a (bL x)&&bf b (dP x))):=by rw[←List.not_all_eq_any_not,qCq]
 unfold uP Ab;rw[e];refine Ev.bind h1 ?_;cases l.any fun x=>!(bf a (bL x)&&bf b (dP x))with
 |true=>exact Ev.ret _
 |false=>
  refine Ev.bind (abw h hl) (Ev.bind (NH h hl) ⟨0,fun n _=>?_⟩);unfold vJ;simp only[qBd,qAw];cases op==41<;>cases op==42<;>cases op==43<;>cases op==44<;>simp only[cond_true,cond_false]<;>
   cases((nQ l).length:Int)==(l.length:Int)<;>cases((nQ l).length:Int)==(a.length:Int)<;>cases((qH l).length:Int)==(l.length:Int)<;>rfl
theorem Wj{α σ τ ρ:Type}(f:σ→α→σ)(fin:σ→τ):∀(l:List α) (s:σ),gD (ρ:=ρ) (fun x s=>.nx (f s x)) fin l s=.nx (fin (l.foldl f s))
 |[],s=>rfl
 |x::l,s=>by simp only[gD];rw[Wj f fin l];rfl
theorem aCh{l ys:List (List Val)}(h:(l.length+ys.length)*24≤140737488355328):app 24 l ys=some (l++ys):=by
 unfold app
 grind
theorem agR{l:List Val}(hl:l.length≤8):Ev (fun n=>GK n l) (vM l):=by
 have h1:=OO l (fun n=>yD n l) (fun i s=>(s,i)) (fun x out=>.nx (out++out.map fun r=>r++[x])) (fun s=>s) (fun suf out=>out.length*2^suf.length≤256∧∀r∈out,r.length+suf.length≤8) (fun n rec s=>by unfold yD;rw[at_end];rfl) (fun pre x suf out e hI=>by
  simp at hI;have hp:1≤2^suf.length:=qDi;have hle:out.length*2≤256:=by
   have:out.length*2*1≤out.length*2*2^suf.length:=Nat.mul_le_mul_left _ hp
   grind
  refine⟨?_,fun s' es=>?_⟩
  ·obtain⟨N,h⟩:=aB5 (ρ:=List (List Val)) out (fun n=>yM n x out) (fun i s=>(s,i)) (fun s=>s) (fun r=>[r++[x]]) 600 (fun n rec s=>by unfold yM;rw[at_end];rfl) (fun pre2 r suf2 s e2 hb=>⟨0,fun n hn rec=>by
    have hr:=hI.2 r (by simp[e2]);unfold yM ji;rw[(dW e2).1];simp only[(dW e2).2,qAa];rw[iJ (by simp;omega)];simp;rw[iJ (by simp;omega)];simp;rw[aCh (by simp;omega)];rfl⟩) (s0:=out) (by rw[flatMap_one];simp;omega)
   rw[flatMap_one]at h;refine⟨N,fun n hn rec=>?_⟩;have h:Qy n x out n (out,0)=_:=h n hn;unfold yD xA;rw[(dW e).1];simp only[(dW e).2];rw[aCh (by simp;omega)]
   grind
  ·cases es;constructor
   ·simp
    grind
   ·intro r hr;rcases qAn.1 hr with hr|hr
    ·grind
    ·obtain⟨q,hq,rfl⟩:=qAA.1 hr;have:=hI.2 q hq;simp;omega) (s0:=[[]]) ⟨by
   have:2^l.length≤2^8:=qCZ (by omega) hl;simpa using this,by simpa using hl⟩
 rw[Wj (ρ:=List (List Val)) (fun(out:List (List Val)) x=>out++out.map fun r=>r++[x])]at h1;exact Ev.bind h1 (Ev.ret _)
theorem ae3:∀(l:List Val) (out:List (List Val)),(l.foldl (fun out x=>out++out.map fun r=>r++[x]) out).length=out.length*2^l.length
 |[],out=>by simp
 |x::l,out=>by
  rw[qBg,ae3 l]
  grind
theorem ajI(n:Nat)(op x y:Int):LV n op x y=some (zi op x y):=by
 unfold LV zi
 grind
theorem auc{n:Nat}(h:n≤8):1≤2^n∧2^n≤256:=⟨qDi,qCZ (n:=2) (by omega) h⟩
theorem azc(f:Nat){op:Int}(ho:op=41∨op=42∨op=43∨op=44∨op=45){m n:Nat}(hn:n≤256)(hm:m≤256)(hmn:44≤op→m≤n):∀(k i c:Nat),i+k=m→1≤c→c≤256→∀j,k+1≤j→
  ∃r,Gj f op m n j ((c:Int),(i:Int))=some r∧(match r with| .nx _=>false| .rt b=>b)=wK op n k i c:=by
 intro k
 induction k with
 |zero=>
  intro i c hi _ _ j hj;obtain⟨j,rfl⟩:∃q,j=q+1:=⟨j - 1,by omega⟩;refine⟨.nx (),?_,rfl⟩;show sQ f op m n _ _=_;unfold sQ
  grind
 |succ k ih=>
  intro i c hi h1 h2 j hj;obtain⟨j,rfl⟩:∃q,j=q+1:=⟨j - 1,by omega⟩;show ∃r,sQ f op m n (Gj f op m n j) _=some r∧_;unfold sQ;rw[decide_eq_true (by simp;omega)];simp only[cond_true];by_cases h8:(op==41&&decide (8<(n:Int)))=true
  ·refine⟨.rt true,?_,?_⟩
   ·simp only[qAb,beq_iff_eq,decide_eq_true_eq]at h8;rw[h8.1,decide_eq_true h8.2];rfl
   ·unfold wK;rw[h8];rfl
  ·rw[qCI]at h8;obtain⟨f0,hf1,hf2,hf3⟩:∃f0:Nat,ajs op n i=(f0:Int)∧f0≤257∧((cond (op==41) (cond (decide (8<(n:Int))) (some (.rt true)) ((Zi 1 n).bind fun(x2:Int)=>some (.nx x2))) (cond (op==42) (some (.nx (IntKind.wrap .i64 ((n:Int)+1)))) (((cond (op==44) (some (op==44)) (some (op==45))):Option Bool).bind fun(s5:Bool)=>(cond s5 (some (.nx (IntKind.wrap .i64 ((n:Int) - (i:Int))))) (some (.nx (n:Int))))))):Option (LR Int Bool))=some (.nx (f0:Int)):=by
    rcases ho with rfl|rfl|rfl|rfl|rfl
    ·have h9:decide (8<(n:Int))=false:=h8;have h9':n≤8:=by have:=of_decide_eq_false h9;omega
     have hp:=auc h9';have e:Zi 1 (n:Int)=some ((2^n:Nat):Int):=by
      unfold Zi;rw[if_pos ⟨by omega,by omega⟩,qBS,Int.one_mul,wrap64]
      ·congr 1
      ·have:((2^n:Nat):Int)=(2:Int)^n:=by norm_cast
       omega
      ·have:((2^n:Nat):Int)=(2:Int)^n:=by norm_cast
       omega
     refine⟨2^n,?_,by omega,?_⟩
     ·show(2:Int)^(n:Int).toNat=_;rw[qBS];norm_cast
     ·rw[h9,e];rfl
    ·exact⟨n+1,by show(n:Int)+1=_;omega,by omega,by
      show some (LR.nx (IntKind.wrap .i64 ((n:Int)+1)))=_;rw[wrap64 (by omega) (by omega)];rfl⟩
    ·exact⟨n,rfl,by omega,rfl⟩
    ·have:=hmn (by omega);exact⟨n - i,by show(n:Int) - i=_;omega,by omega,by
      show some (LR.nx (IntKind.wrap .i64 ((n:Int) - i)))=_;rw[wrap64 (by omega) (by omega)];congr 2;omega⟩
    ·have:=hmn (by omega);exact⟨n - i,by show(n:Int) - i=_;omega,by omega,by
      show some (LR.nx (IntKind.wrap .i64 ((n:Int) - i)))=_;rw[wrap64 (by omega) (by omega)];congr 2;omega⟩
   rw[hf3];unfold wK;rw[h8,hf1];simp only[qAa,cond_false,LR.el];by_cases h0:f0=0
   ·subst h0;exact⟨.rt false,rfl,rfl⟩
   ·rw[show((f0:Int)==0)=false by simpa using h0];have hc:(c:Int)*(f0:Int)=((c*f0:Nat):Int):=by norm_cast
    have hcb:c*f0≤256*257:=qDc h2 hf2;have hc1:1≤c*f0:=Nat.mul_pos h1 (by omega);rw[hc,wrap64 (by omega) (by omega)];simp only[cond_false];by_cases hb:256<c*f0
    ·rw[decide_eq_true (by omega)];refine⟨.rt true,?_,rfl⟩;rcases ho with rfl|rfl|rfl|rfl|rfl
     ·rfl
     ·rfl
     ·have:(f0:Int)=n:=hf1.symm;simp only[cond_true];rw[decide_eq_true (by omega)];rfl
     ·rfl
     ·rfl
    ·rw[decide_eq_false (by omega)];simp only[cond_false,qAa];exact ih (i+1) (c*f0) (by omega) hc1 (by omega) j (by omega)
theorem awt{op:Int}(ho:op=41∨op=42∨op=43∨op=44∨op=45){m n:Nat}(hn:n≤256)(hm:m≤256):Ev (fun f=>BZ f op m n) (!zi op m n&&wK op n m 0 1):=by
 refine⟨m+1,fun f hf=>?_⟩;show BZ f op m n=_;unfold BZ;rw[ajI];cases hN:zi op m n with
 |true=>rfl
 |false=>
  obtain⟨r,h1,h2⟩:=azc f ho hn hm (fun h=>by
   unfold zi at hN;cases hq:(op==45&&(m:Int)!=n)with
   |true=>rw[hq]at hN;cases hN
   |false=>
    rw[hq,decide_eq_true h]at hN;have:=of_decide_eq_false (show decide ((n:Int)<m)=false by simpa using hN);omega) m 0 1 (by omega) (by omega) (by omega) f hf
  grind
theorem vO{α β:Type}(g:α→List β)(m:Nat):∀(l:List α),(∀x∈l,(g x).length≤m)→(l.flatMap g).length≤l.length*m
 |[],_=>by simp
 |x::l,h=>by
  have h1:=h x (by simp);have h2:=vO g m l fun y hy=>h y (by simp[hy]);rw[qBh,qAf,qAo,Nat.succ_mul];omega
def Bu(op:Int)(n:Nat):Nat:=cond (op==41) (2^n) (cond (op==42) (n+1) n)
theorem ad5(op:Int)(a b:List Val):∀(xs l:List Val),(lW op a b xs l).length≤Bu op b.length^xs.length
 |[],l=>by
  unfold lW;cases Ab op a b l<;>simp
 |x::xs,l=>by
  have ih:=ad5 op a b xs;unfold lW;rw[qAo,Nat.pow_succ,qBB];by_cases h1:op=41
  ·subst h1;have:(vM b).length=2^b.length:=by unfold vM;rw[ae3];simp
   show((vM b).flatMap _).length≤2^b.length*_;rw[←this];exact vO _ _ _ fun im _=>ih _
  ·rw[show(op==41)=false by simpa using h1,cond_false,qAf];have h2:=vO (fun v=>cond (decide (44≤op)&&bf (qH l) v) [] (lW op a b xs (l++[dD x v]))) (Bu op b.length^xs.length) b fun v _=>by
    grind
   by_cases h3:op=42
   ·subst h3;have h4:=ih l;have e:Bu 42 b.length=b.length+1:=rfl;rw[e]at h2 h4⊢
    grind
   ·have e:Bu op b.length=b.length:=by unfold Bu;rw[show(op==41)=false by simpa using h1,show(op==42)=false by simpa using h3];rfl
    grind
theorem aeT{op:Int}(ho:op=41∨op=42∨op=43){n:Nat}:∀(k:Nat) (i:Int) (c:Nat),Bu op n≠0→c≤256→wK op n k i c=false→c*Bu op n^k≤256
 |0,i,c,_,hc,_=>by simpa using hc
 |k+1,i,c,h0,hc,h=>by
  have hf:ajs op n i=(Bu op n:Int):=by
   rcases ho with rfl|rfl|rfl
   ·show(2:Int)^(n:Int).toNat=((2^n:Nat):Int)
    grind
   ·rfl
   ·rfl
  unfold wK at h;rw[hf,show((Bu op n:Int)==0)=false by simpa using h0]at h;cases h8:(op==41&&decide (8<(n:Int)))with
  |true=>rw[h8]at h;cases h
  |false=>
   rw[h8]at h;rw[show(c:Int)*(Bu op n:Int)=((c*Bu op n:Nat):Int) by norm_cast]at h;cases hb:decide (256<((c*Bu op n:Nat):Int))with
   |true=>rw[hb]at h;cases h
   |false=>
    rw[hb]at h;have:=of_decide_eq_false hb;have:=aeT ho k (i+1) (c*Bu op n) h0 (by omega) h
    grind
def fct:Nat→Nat
 |0=>1
 |k+1=>(k+1)*fct k
theorem aoO{op:Int}(ho:op=44∨op=45){n:Nat}:∀(k i c:Nat),i+k≤n→c≤256→wK op n k i c=false→c*fct k≤256
 |0,i,c,_,hc,_=>by simpa[fct]using hc
 |k+1,i,c,hi,hc,h=>by
  have hf:ajs op n i=((n - i:Nat):Int):=by
   rcases ho with rfl|rfl
   ·show(n:Int) - i=_;omega
   ·show(n:Int) - i=_;omega
  unfold wK at h;rw[hf,show(((n - i:Nat):Int)==0)=false by simp;omega]at h;have h8:(op==41&&decide (8<(n:Int)))=false:=by rcases ho with rfl|rfl<;>rfl
  rw[h8]at h;rw[show(c:Int)*((n - i:Nat):Int)=((c*(n - i):Nat):Int) by norm_cast]at h;cases hb:decide (256<((c*(n - i):Nat):Int))with
  |true=>rw[hb]at h;cases h
  |false=>
   rw[hb]at h;have:=of_decide_eq_false hb;have h3:=aoO ho k (i+1) (c*(n - i)) (by omega) (by omega) h;have:c*((k+1)*fct k)≤c*((n - i)*fct k):=Nat.mul_le_mul_left _ (qAQ _ (by omega));rw[Nat.mul_assoc]at h3;exact qAu this h3
theorem atj:∀k,6≤k→720≤fct k
 |0,h=>by omega
 |k+1,h=>by
  unfold fct;by_cases hk:6≤k
  ·have:=atj k hk
   grind
  ·have:k=5:=by omega
   subst this
   decide
theorem ap3{op:Int}(ho:op=41∨op=42∨op=43∨op=44∨op=45){a b:List Val}(ha:a.length≤256)(hb:b.length≤256)(hN:zi op a.length b.length=false)(hM:wK op b.length a.length 0 1=false):Bu op b.length^a.length≤2199023255552:=by
 by_cases hlo:op=41∨op=42∨op=43
 ·by_cases h0:Bu op b.length=0
  ·rw[h0];cases a.length with
   |zero=>decide
   |succ k=>rw[Nat.zero_pow (by omega)];omega
  ·have:=aeT hlo a.length 0 1 h0 (by omega) hM;omega
 ·have ho:op=44∨op=45:=by omega
  have hmn:a.length≤b.length:=by
   unfold zi at hN
   grind
  have h1:=aoO ho a.length 0 1 (by omega) (by omega) hM;have h5:a.length≤5:=by
   rcases qDz a.length 6 with h|h
   ·omega
   ·have:=atj _ h;omega
  have e:Bu op b.length=b.length:=by rcases ho with rfl|rfl<;>rfl
  rw[e]
  calc b.length^a.length≤256^a.length:=Nat.pow_le_pow_left hb _
   _≤256^5:=qCZ (by omega) h5
   _≤_:=by decide
theorem aC4{op:Int}(ho:op=41∨op=42∨op=43∨op=44∨op=45){a b:List Val}(ha:iX a)(hb:iX b)(h8:op=41→a≠[]→b.length≤8):∀(xs pre l out:List Val),a=pre++xs→mY l→l.length+8*xs.length≤100000→(out.length+(lW op a b xs l).length)*56≤140737488355328→
  Ev (fun n=>gI n pre.length l a op b out) (out++lW op a b xs l):=by
 intro xs
 induction xs with
 |nil=>
  intro pre l out hp hr hl hM;refine Ev.succ ?_;show Ev (fun n=>mE n _ (pre.length:Int) l a op b out) _;unfold mE;rw[show((pre.length:Int)==(a.length:Int))=true by rw[hp];simp];simp only[cond_true];simp only[qAC]at hl;unfold lW at hM⊢;refine Ev.bind (a:=out++cond (Ab op a b l) [OX l] []) ?_ (Ev.ret _);refine Ev.bind (adg op ha.1 hb.1 (y8 ha) (y8 hb) hr (by omega)) ?_;cases hB:Ab op a b l with
  |false=>simp only[cond_false,qAt];exact Ev.ret _
  |true=>
   rw[hB]at hM;simp only[cond_true,qAo,qAC]at hM⊢;refine⟨0,fun n _=>?_⟩;unfold jG;rw[iJ (by simp;omega),iJ (by simpa using hM)];simp only[qAa,qAs,gV];congr 1;unfold upd;rw[qBS,List.set_append_right _ _ (qAd _),Nat.sub_self];rfl
 |cons x xs ih=>
  intro pre l out hp hr hl hM;have hx:idx a (pre.length:Int)=some x:=(dW hp).2;have hlt:((pre.length:Int)==(a.length:Int))=false:=by rw[hp];simp;omega
  have hpl:pre.length≤256:=by have:=ha.2;rw[hp]at this;simp at this;omega
  have hw:IntKind.wrap .i64 ((pre.length:Int)+1)=((pre++[x]).length:Int):=by rw[wrap64 (by omega) (by omega)];simp
  have hp':a=(pre++[x])++xs:=by simp[hp]
  simp only[qAo]at hl;have hpair:∀(m:List Val) (vs:List Val),mY m→mY (m++vs.map (dD x)):=by
   intro m vs hm p hp;rcases qAn.1 hp with hp|hp
   ·exact hm p hp
   ·obtain⟨v,_,rfl⟩:=qAA.1 hp;exact⟨x,v,rfl⟩
  refine Ev.succ ?_;show Ev (fun n=>mE n (gI n) (pre.length:Int) l a op b out) _;unfold mE;rw[hlt];simp only[cond_false];unfold lW at hM⊢;by_cases h41:op=41
  ·subst h41;have hb8:=h8 rfl (by rw[hp];simp);simp only[show((41:Int)==41)=true from rfl,cond_true]at hM⊢;refine Ev.bind (agR hb8) ?_;have hlen:∀im∈vM b,im.length≤8:=by
    have key:∀(q:List Val) (os:List (List Val)) (k:Nat),(∀r∈os,r.length≤k)→∀r∈q.foldl (fun out x=>out++out.map fun r=>r++[x]) os,r.length≤k+q.length:=by
     intro q
     induction q with
     |nil=>intro os k h r hr;simpa using h r hr
     |cons y q ihq=>
      intro os k h r hr;rw[qBg]at hr;have:=ihq (os++os.map fun r=>r++[y]) (k+1) (fun r hr=>by
       rcases qAn.1 hr with hr|hr
       ·have:=h r hr;omega
       ·obtain⟨z,hz,rfl⟩:=qAA.1 hr;have:=h z hz;simp;omega) r hr
      simp only[qAo];omega
    intro im him;have:=key b [[]] 0 (by simp) im him;omega
   have h1:=wW (ρ:=List Val) (vM b) (fun n=>rH n (gI n) (pre.length:Int) l a 41 b (vM b)) (fun i s=>(i,s)) (fun im=>lW 41 a b xs (l++im.map (dD x))) _ hM (fun n rec s=>by unfold rH;rw[at_end];rfl) (fun p2 im s2 s e hbd=>by
    have him:=hlen im (by simp[e]);obtain⟨N,h1⟩:=ih (pre++[x]) (l++im.map (dD x)) s hp' (hpair l im hr) (by simp;omega) hbd;obtain⟨N2,h2⟩:=wW (ρ:=List Val) im (fun n=>rV n (gI n) (pre.length:Int) a im) (fun i s=>(s,i)) (fun v=>[dD x v]) 200000 (by omega) (fun n rec s=>by unfold rV;rw[at_end];rfl) (fun p3 v s3 s e3 hbd=>⟨0,fun n hn rec=>by
     unfold rV;rw[(dW e3).1];simp only[cond_true,(dW e3).2,qAa,hx];rw[iJ (by simpa using hbd)];rfl⟩) (s0:=l) (by rw[flatMap_one];simp;omega)
    rw[flatMap_one]at h2;refine⟨N+N2,fun n hn rec=>?_⟩;have h2:IJ n (gI n) (pre.length:Int) a im n (l,0)=_:=h2 n (by omega);have h1:gI n _ _ _ _ _ _=_:=h1 n (by omega);unfold rH ji;rw[(dW e).1];simp only[cond_true,(dW e).2,qAa];rw[iJ (by simp;omega)];simp only[qAa,qAs,h2,LR.el];rw[hw,h1];rfl) (s0:=out) (qAd _)
   exact Ev.bind h1 (Ev.ret _)
  ·rw[show(op==41)=false by simpa using h41]at hM⊢;simp only[cond_false]at hM⊢;refine Ev.bind (a:=out++cond (op==42) (lW op a b xs l) []) ?_ ?_
   ·cases h42:(op==42)with
    |false=>simp only[cond_false,qAt];exact Ev.ret _
    |true=>
     rw[h42]at hM;simp only[cond_true,qAf]at hM⊢;rw[hw];exact Ev.bind (ih (pre++[x]) l out hp' hr (by omega) (by omega)) (Ev.ret _)
   ·rw[←qAm];have hM':((out++cond (op==42) (lW op a b xs l) []).length+(b.flatMap fun v=>cond (decide (44≤op)&&bf (qH l) v) [] (lW op a b xs (l++[dD x v]))).length)*56≤140737488355328:=by
     simp only[qAf]at hM⊢;omega
    have h1:=wW (ρ:=List Val) b (fun n=>nM n (gI n) (pre.length:Int) l a op b) (fun i s=>(i,s)) (fun v=>cond (decide (44≤op)&&bf (qH l) v) [] (lW op a b xs (l++[dD x v]))) _ hM' (fun n rec s=>by unfold nM;rw[at_end];rfl) (fun p2 v s2 s e hbd=>by
     obtain⟨N3,h3⟩:Ev (fun n=>(((cond (decide (44≤op)) ((pX n l).bind fun(x18:List Val)=>((fC n x18 v).bind fun(x19:Bool)=>some x19)) (some false)):Option Bool))) (decide (44≤op)&&bf (qH l) v):=by
      cases decide (44≤op)with
      |false=>exact Ev.ret _
      |true=>
       simp only[cond_true,qAw];refine Ev.bind (NH hr (by omega)) (Ev.bind (Hl (iR _) ?_ v) (Ev.ret _));have:=lK (l.map dP);simp only[qAg]at this;show(sortV _).length≤_;omega
     cases hq:(decide (44≤op)&&bf (qH l) v)with
     |true=>
      refine⟨N3,fun n hn rec=>?_⟩;have h3:=h3 n hn;simp only[hq]at h3;unfold nM;rw[(dW e).1];simp only[cond_true,(dW e).2,qAa,h3,qAt]
     |false=>
      rw[hq]at hbd;obtain⟨N,h1⟩:=ih (pre++[x]) (l++[dD x v]) s hp' (hpair l [v] hr) (by simp;omega) hbd;refine⟨N+N3,fun n hn rec=>?_⟩;have h3:=h3 n (by omega);simp only[hq]at h3;have h1:gI n _ _ _ _ _ _=_:=h1 n (by omega);unfold nM ji;rw[(dW e).1];simp only[cond_true,cond_false,(dW e).2,qAa,h3];rw[iJ (by simp;omega)];simp only[qAa,qAs,hx];rw[iJ (by simp;omega)];simp only[qAa];rw[hw,show(Val.mk 4 0 [] [x,v])=dD x v from rfl,h1];rfl) (s0:=out++cond (op==42) (lW op a b xs l) []) (qAd _)
    exact Ev.bind h1 (Ev.ret _)
def pzl(r:UM):PZ (List Val) Unit:=match r with| .ok l=>.ok l| .er e=>.er e ()
theorem aqT{op:Int}(ho:op=41∨op=42∨op=43∨op=44∨op=45){a b:List Val}(ha:iX a)(hb:iX b):Ev (fun n=>Cu n op a b) (pzl (JQ op a b)):=by
 unfold Cu JQ;refine Ev.bind (awt ho hb.2 ha.2) ?_;cases hN:zi op a.length b.length with
 |true=>
  refine⟨0,fun n _=>?_⟩;simp only[ajI,hN];rfl
 |false=>
  cases hM:wK op b.length a.length 0 1 with
  |true=>exact Ev.ret _
  |false=>
   have h1:=ap3 ho ha.2 hb.2 hN hM;have h2:=ad5 op a b a [];have h3:=aC4 ho ha hb (fun e hne=>by
    subst e;cases a with
    |nil=>exact absurd rfl hne
    |cons x a=>
     unfold wK at hM;cases h8:decide (8<(b.length:Int))with
     |true=>rw[h8]at hM;cases hM
     |false=>have:=of_decide_eq_false h8;omega) a [] [] [] rfl (fun p hp=>by cases hp) (by have:=ha.2;simp;omega) (by simp;omega)
   simp only[ajI,hN,qAa];exact Ev.bind h3 (Ev.ret _)
def pz(r:VR):PZ Val Unit:=match r with| .ok v=>.ok v| .er e=>.er e ()
theorem Ev.pz{f:Nat→Option (PZ Val Unit)}{r:VR}(h:Ev f (pz r)):Ev (fun n=>(f n).bind (PZ.el (fun x=>some (.ok x)) (fun e _=>some (.er e ())))) (Abs.pz r):=by
 refine Ev.bind h ?_;cases r<;>exact Ev.ret _
theorem Ev.cnd{α β:Type}(P:β→α){b:Bool}{f g:Nat→Option α}{x y:β}(h1:b=true→Ev f (P x))(h2:b=false→Ev g (P y)):Ev (fun n=>cond b (f n) (g n)) (P (cond b x y)):=by
 cases b
 ·grind
 grind
theorem int_eq(n:Nat)(x:Int):iP n x=some (pz (xL x)):=by
 unfold iP xL avZ;cases decide (1000000000<x)<;>cases decide (x< -1000000000)<;>rfl
theorem KT(x:Int):Ev (fun n=>iP n x) (pz (xL x)):=Ev.of fun n=>int_eq n x
theorem Bv(b:Bool):Ev (fun n=>bD n b) (bO b):=by cases b<;>exact Ev.ret _
def Rt(x:Int):Prop:= -1000000000≤x∧x≤1000000000
theorem aIK{a b:Int}(ha:Rt a)(hb:Rt b): -1000000000000000000≤a*b∧a*b≤1000000000000000000:=by
 have h1:a.natAbs≤1000000000:=by have:=ha.1;have:=ha.2;omega
 have h2:b.natAbs≤1000000000:=by have:=hb.1;have:=hb.2;omega
 have h3:(a*b).natAbs≤1000000000*1000000000:=by rw[Int.natAbs_mul];exact qDc h1 h2
 omega
theorem aAX{op a b:Int}(ha:Rt a)(hb:Rt b):Ev (fun n=>GR n op a b) (pz (aqi op a b)):=by
 have a1:=ha.1;have a2:=ha.2;have b1:=hb.1;have b2:=hb.2;refine Ev.cnd pz (fun _=>?_) fun _=>Ev.cnd pz (fun _=>?_) fun _=>Ev.cnd pz (fun _=>?_) fun _=>Ev.cnd pz (fun _=>?_) fun _=>Ev.cnd pz (fun _=>Ev.cnd pz (fun _=>Ev.ret _) fun h=>?_) fun _=>?_
 ·rw[Int.zero_sub,wrap64 (by omega) (by omega)];exact Ev.pz (KT _)
 ·rw[wrap64 (by omega) (by omega)];exact Ev.pz (KT _)
 ·rw[wrap64 (by omega) (by omega)];exact Ev.pz (KT _)
 ·have:=aIK ha hb;rw[wrap64 (by omega) (by omega)];exact Ev.pz (KT _)
 ·have hz:¬b=0:=by simpa using h
  have hd:(Int.tdiv a b).natAbs≤1000000000:=by
   rw[Int.natAbs_tdiv];exact qAu (Nat.div_le_self a.natAbs b.natAbs) (by omega)
  refine Ev.bind (a:=Int.tdiv a b) (Ev.of fun _=>?_) (Ev.pz (KT _));unfold arH;rw[if_neg hz,wrap64 (by omega) (by omega)]
 ·refine Ev.bind (a:=decide (a<0) ||decide (b<1)) ?_ (Ev.cnd pz (fun _=>Ev.ret _) fun h=>?_)
  ·cases decide (a<0)<;>exact Ev.ret _
  ·have hz:¬b=0:=by rw[qBQ]at h;have:=of_decide_eq_false h.2;omega
   refine Ev.bind (a:=Int.tmod a b) (Ev.of fun _=>?_) (Ev.pz (KT _));unfold aeM
   grind
theorem ao9{l:List Val}(hl:l.length*56≤140737488355328):Ev (fun n=>yK n l) (pz (pG l)):=by
 unfold yK jG pG;rw[iJ (by simpa using hl)];exact Ev.cnd pz (fun _=>Ev.ret _) fun _=>Ev.ret _
def aog(n:Nat):LR (List Val) (PZ Val Unit)→Option (PZ Val Unit):=LR.el (fun s1=>((yK n s1).bind (PZ.el (fun x1=>some (.ok x1)) (fun e1 _=>some (.er e1 ()))))) (fun r=>some r)
def EvS(f:Nat→Option (LR (List Val) (PZ Val Unit)))(r:UM):Prop:=Ev (fun n=>(f n).bind (aog n)) (pz (r.thn pG))
theorem EvS.cnd{b:Bool}{f g:Nat→Option (LR (List Val) (PZ Val Unit))}{x y:UM}(h1:b=true→EvS f x)(h2:b=false→EvS g y):EvS (fun n=>cond b (f n) (g n)) (cond b x y):=by
 cases b
 ·grind
 grind
theorem EvS.er:EvS (fun _=>some (.rt (.er 11 ()))) (.er 11):=Ev.ret _
theorem EvS.of{F:Nat→Option (LR (List Val) (PZ Val Unit))}{l:List Val}(h:Ev F (.nx l))(hl:l.length*56≤140737488355328):EvS F (.ok l):=by
 have hk:Ev (fun n=>aog n (.nx l)) (pz (pG l)):=Ev.pz (ao9 hl);exact Ev.bind (g:=fun x n=>aog n x) h hk
theorem EvS.lp{f:Nat→Option (LR (List Val) (PZ Val Unit))}{l:List Val}(h:Ev f (.nx l))(hl:l.length≤1000000):EvS (fun n=>(f n).bind (LR.el (fun s=>some (.nx s)) (fun r=>some (.rt r)))) (.ok l):=EvS.of (Ev.bind h (Ev.ret _)) (by omega)
theorem EvS.ok{f:Nat→Option (List Val)}{l:List Val}(h:Ev f l)(hl:l.length≤1000000):EvS (fun n=>(f n).bind fun x=>some (.nx x)) (.ok l):=EvS.of (Ev.bind h (Ev.ret _)) (by omega)
theorem amu(a b:List Val)(h:a.length+b.length≤1000000):Ev (fun n=>oh n [a,b]) (a++b):=by
 refine⟨4,fun n hn=>?_⟩;obtain⟨j,rfl⟩:∃j,n=j+3:=⟨n - 3,by omega⟩;have h1:vY (j+3) [a,b] (j+3) (0,0)=some (.nx ((a.length:Int)+b.length)):=by
  show kN (j+3) [a,b] (kN (j+3) [a,b] (kN (j+3) [a,b] (vY (j+3) [a,b] j))) (0,0)=_;unfold kN;simp only[qAo,qAC,show decide ((0:Int)<((0+1+1:Nat):Int))=true from rfl,show idx [a,b] 0=some a from rfl,show idx [a,b] (0+1)=some b from rfl,qAa];rw[wrap64 (by omega) (by omega),decide_eq_false (by omega)];simp;rw[wrap64 (by omega) (by omega),decide_eq_false (by omega)]
  grind
 have h2:vR (j+3) [a,b] (j+3) ([],0)=some (.nx (a++b)):=by
  show kP (j+3) [a,b] (kP (j+3) [a,b] (kP (j+3) [a,b] (vR (j+3) [a,b] j))) ([],0)=_;unfold kP;simp only[show idx [a,b] 0=some a from rfl,show idx [a,b] (0+1)=some b from rfl,qAa];rw[iJ (by simp;omega)];simp;rw[iJ (by omega)];rfl
 unfold oh Dz
 grind
theorem ak8(f:Nat)(b:Val)(hb:Rt b.n):∀(k:Nat) (x:Int) (acc:List Val),Rt x→x+k=b.n+1→(acc.length+k)≤1000000→∀j,k+1≤j→Oq f b j (acc,x)=some (.nx (acc++ints x k))
 |0,x,acc,_,h,_,j,hj=>by
  obtain⟨j,rfl⟩:∃q,j=q+1:=⟨j - 1,by omega⟩;show lU f b _ _=_;unfold lU;rw[decide_eq_false (by simp;omega)];simp[ints]
 |k+1,x,acc,hx,h,hl,j,hj=>by
  obtain⟨j,rfl⟩:∃q,j=q+1:=⟨j - 1,by omega⟩;have x1:=hx.1;have x2:=hx.2;have b2:=hb.2;show lU f b (Oq f b j) _=_;unfold lU;rw[decide_eq_true (by simp;omega)];have hi:xL x=.ok (R6 x):=by
   unfold xL avZ
   grind
  simp only[int_eq,hi,qAa,pz,PZ.el];rw[iJ (by simp;omega)];simp;rw[wrap64 (by omega) (by omega)];cases k with
  |zero=>
   obtain⟨i,rfl⟩:∃q,j=q+1:=⟨j - 1,by omega⟩;show lU f b _ _=_;unfold lU;rw[decide_eq_false (by simp;omega)];rfl
  |succ k=>
   rw[ak8 f b hb (k+1) (x+1) (acc++[R6 x]) ⟨by omega,by omega⟩ (by omega) (by simp;omega) j (by omega)];simp[ints]
theorem aqQ:∀(k:Nat) (x:Int),(ints x k).length=k
 |0,_=>rfl
 |k+1,x=>by rw[ints,qAo,aqQ k]
theorem CB(p:Val→Bool){l:List Val}(h:iX l):(l.filter p).length≤256:=qAu (qCO p l) h.2
theorem mY.fil{l:List Val}(h:mY l)(p:Val→Bool):mY (l.filter p):=fun x hx=>h x (qAY.1 hx).1
theorem WS{β:Type}{a b:List Val}(g:Val→List β)(ha:iX a)(hg:∀x∈a,(g x).length≤256):(a.flatMap g).length≤65536:=by
 have:=vO g 256 a hg;have h2:=qAQ 256 ha.2;omega
theorem Ev.avP{f:Nat→Option Bool}{b:Bool}(h:Ev f b):Ev (fun n=>(f n).bind fun(x2:Bool)=>some (!x2)) (!b):=Ev.bind h (Ev.ret _)
theorem Ev.same{f:Nat→Option Bool}{b:Bool}(h:Ev f b):Ev (fun n=>(f n).bind fun(x2:Bool)=>some x2) b:=Ev.bind h (Ev.ret _)
theorem aCJ(a b:Val)(ha:iX a.kids)(hb:iX b.kids):Ev (fun n=>ZH n a b n (([]:List Val),0)) (.nx (a.kids.flatMap fun x=>b.kids.map (dD x))):=by
 have:=WS (b:=b.kids) (fun x=>b.kids.map (dD x)) ha (fun x _=>by simpa using hb.2);refine wW (ρ:=PZ Val Unit) a.kids (fun n=>ED n a b) (fun i s=>(s,i)) _ 1000000 (by omega) (fun n rec s=>by unfold ED;rw[at_end];rfl) (fun pre x suf s e hbd=>?_) (s0:=[]) (by simp only[qAC];omega);obtain⟨N,h⟩:=wW (ρ:=PZ Val Unit) b.kids (fun n=>EA n b x) (fun i s=>(s,i)) (fun y=>[dD x y]) _ hbd (fun n rec s=>by unfold EA;rw[at_end];rfl) (fun p2 y s2 s e2 hbd=>⟨0,fun n hn rec=>by
  unfold EA;rw[(dW e2).1];simp only[(dW e2).2,qAa];rw[iJ (by simpa using hbd)];rfl⟩) (s0:=s) (by rw[flatMap_one];exact qAd _)
 rw[flatMap_one]at h;refine⟨N,fun n hn rec=>?_⟩;have h:ZI n b x n (s,0)=_:=h n hn;unfold ED;rw[(dW e).1];simp only[cond_true,(dW e).2,qAa,h]
theorem aCr(a b:Val)(ha:iX a.kids)(hb:iX b.kids)(ra:mY a.kids)(rb:mY b.kids):Ev (fun n=>abb n a b n (([]:List Val),0)) (.nx (a.kids.flatMap fun p=>b.kids.flatMap fun q=>cond (oP (dP p) (bL q)) [dD (bL p) (dP q)] [])):=by
 have h1:∀p,(b.kids.flatMap fun q=>cond (oP (dP p) (bL q)) [dD (bL p) (dP q)] []).length≤256:=fun p=>by
  have:=vO (fun q=>cond (oP (dP p) (bL q)) [dD (bL p) (dP q)] []) 1 b.kids (fun q _=>by cases oP (dP p) (bL q)<;>simp);have:=hb.2;omega
 have:=WS (b:=b.kids) (fun p=>b.kids.flatMap fun q=>cond (oP (dP p) (bL q)) [dD (bL p) (dP q)] []) ha (fun x _=>h1 x);refine wW (ρ:=PZ Val Unit) a.kids (fun n=>EJ n a b) (fun i s=>(s,i)) _ 1000000 (by omega) (fun n rec s=>by unfold EJ;rw[at_end];rfl) (fun pre x suf s e hbd=>?_) (s0:=[]) (by simp only[qAC];omega);have hx:x∈a.kids:=by simp[e]
 obtain⟨N,h⟩:=wW (ρ:=PZ Val Unit) b.kids (fun n=>Ep n b x) (fun i s=>(s,i)) (fun q=>cond (oP (dP x) (bL q)) [dD (bL x) (dP q)] []) _ hbd (fun n rec s=>by unfold Ep;rw[at_end];rfl) (fun p2 y s2 s e2 hbd=>by
  have hy:y∈b.kids:=by simp[e2]
  obtain⟨N,h⟩:=yO (dP x) (bL y);refine⟨N,fun n hn rec=>?_⟩;have h:dz n (dP x) (bL y)=_:=h n hn;unfold Ep;rw[(dW e2).1];simp only[(dW e2).2,qAa,ra.fst hx,ra.snd hx,rb.fst hy,rb.snd hy,h];unfold oP at hbd⊢;cases hq:(bK (dP x) (bL y)==0)with
  |false=>simp
  |true=>
   rw[hq]at hbd;rw[iJ (by simpa using hbd)];rfl) (s0:=s) (qAd _)
 refine⟨N,fun n hn rec=>?_⟩;have h:ZJ n b x n (s,0)=_:=h n hn;unfold EJ;rw[(dW e).1];simp only[cond_true,(dW e).2,qAa,h]
theorem aCu(x:List (List Val))(hx:x.length≤1000000):Ev (fun n=>aaL n x n (([]:List Val),0)) (.nx (x.map mkSet)):=by
 have h:=wW (ρ:=PZ Val Unit) x (fun n=>EK n x) (fun i s=>(s,i)) (fun y=>[mkSet y]) 1000000 (by omega) (fun n rec s=>by unfold EK;rw[at_end];rfl) (fun p2 y s2 s e2 hbd=>⟨0,fun n hn rec=>by
  unfold EK;rw[(dW e2).1];simp only[(dW e2).2,qAa];rw[iJ (by simpa using hbd)];rfl⟩) (s0:=[]) (by rw[flatMap_one];simpa using hx)
 rwa[flatMap_one]at h
theorem aEr(a:Val)(ha:iX a.kids)(ra:mY a.kids):Ev (fun n=>aaS n a n (([]:List Val),0)) (.nx (a.kids.map fun p=>dD (dP p) (bL p))):=by
 have h:=wW (ρ:=PZ Val Unit) a.kids (fun n=>Ez n a) (fun i s=>(s,i)) (fun p=>[dD (dP p) (bL p)]) 1000000 (by omega) (fun n rec s=>by unfold Ez;rw[at_end];rfl) (fun p2 y s2 s e2 hbd=>⟨0,fun n hn rec=>by
  unfold Ez;rw[(dW e2).1];simp only[(dW e2).2,qAa,ra.fst (show y∈a.kids by simp[e2]),ra.snd (show y∈a.kids by simp[e2])];rw[iJ (by simpa using hbd)];rfl⟩) (s0:=[]) (by rw[flatMap_one];have:=ha.2;simp;omega)
 rwa[flatMap_one]at h
structure SetsOk(op:Int)(a b:Val):Prop where
 n:op=30→Rt a.n∧Rt b.n
 s:op≠30→iX a.kids∧iX b.kids
 a:(35≤op∧op≤36∨39≤op∧op≤40∨50≤op∧op≤54)→mY a.kids
 b:35≤op∧op≤38→mY b.kids
theorem aDT{op:Int}{a b:Val}(ho:30≤op∧op≤53∧¬(47≤op∧op≤49))(h:SetsOk op a b):Ev (fun n=>Rh n op a b) (pz ((Hr op a b).thn pG)):=by
 unfold Rh;show EvS (fun n=>_) (Hr op a b);unfold Hr;refine EvS.cnd (fun e=>?_) fun h30=>?_
 ·obtain⟨ha,hb⟩:=h.n (eq_of_beq e);have a1:=ha.1;have a2:=ha.2;have b1:=hb.1;have b2:=hb.2;rw[wrap64 (by omega) (by omega)];refine EvS.cnd (fun _=>EvS.er) fun hd=>?_;have hd:=of_decide_eq_false hd;refine EvS.lp ?_ (by rw[aqQ];omega);by_cases hle:a.n≤b.n
  ·exact⟨(b.n+1 - a.n).toNat+1,fun n hn=>ak8 n b hb (b.n+1 - a.n).toNat a.n [] ha (by omega) (by simp;omega) n hn⟩
  ·refine⟨1,fun n hn=>?_⟩;obtain⟨j,rfl⟩:∃q,n=q+1:=⟨n - 1,by omega⟩;show lU (j+1) b _ _=_;unfold lU;rw[decide_eq_false hle,show(b.n+1 - a.n).toNat=0 by omega];rfl
 have h30:op≠30:=by simpa using h30
 obtain⟨ha,hb⟩:=h.s h30;have la:=ha.2;have lb:=hb.2;refine EvS.cnd (fun e=>EvS.ok (amu _ _ (by omega)) (by simp;omega)) fun h31=>?_;refine EvS.cnd (fun e=>EvS.ok (CQ a.kids (fun n x=>wh n x b.kids) (bf b.kids) (fun x _=>hb.has x) (y8 ha)) (by have:=CB (bf b.kids) ha;omega)) fun h32=>?_;refine EvS.cnd (fun e=>EvS.ok (CQ a.kids (fun n x=>Sq n x b.kids) _ (fun x _=>Ev.avP (hb.has x)) (y8 ha)) (qAu (CB _ ha) (by omega))) fun h33=>?_;refine EvS.cnd (fun e=>?_) fun h34=>?_
 ·have hm:a.kids.length*b.kids.length≤256*256:=qDc la lb;rw[show(a.kids.length:Int)*(b.kids.length:Int)=((a.kids.length*b.kids.length:Nat):Int) by norm_cast,wrap64 (by omega) (by omega)];exact EvS.cnd (fun _=>EvS.er) fun _=>EvS.lp (aCJ a b ha hb) (qAu (WS (b:=b.kids) _ ha (fun x _=>by simpa using hb.2)) (by omega))
 refine EvS.cnd (fun e=>?_) fun Xv=>?_
 ·have e:=eq_of_beq e;have ra:=h.a (by omega);have hf:iX (nQ b.kids):=⟨iR _,by have:=lK (b.kids.map bL);unfold nQ;simp at this;omega⟩;refine EvS.of (Ev.bind (abw (h.b (by omega)) (y8 hb)) (Ev.bind (CQ a.kids (fun n x=>J7 n x (nQ b.kids)) (fun x=>!bf (nQ b.kids) (bL x)) (fun x hx=>?_) (y8 ha)) (Ev.bind (amu _ _ ?_) (Ev.ret _)))) ?_
  ·unfold J7;rw[ra.fst hx];exact Ev.avP (Hl hf.1 (y8 hf) _)
  ·have:=CB (fun x=>!bf (nQ b.kids) (bL x)) ha;omega
  ·have:=CB (fun x=>!bf (nQ b.kids) (bL x)) ha;rw[qAf];omega
 refine EvS.cnd (fun e=>?_) fun h36=>?_
 ·have e:=eq_of_beq e;refine EvS.lp (aCr a b ha hb (h.a (by omega)) (h.b (by omega))) (qAu (WS (b:=b.kids) _ ha (fun p _=>?_)) (by omega));have:=vO (fun q=>cond (oP (dP p) (bL q)) [dD (bL p) (dP q)] []) 1 b.kids (fun q _=>by cases oP (dP p) (bL q)<;>simp);omega
 refine EvS.cnd (fun e=>EvS.ok (CQ b.kids (fun n x=>Kw n x a.kids) _ (fun x hx=>?_) (y8 hb)) (qAu (CB _ hb) (by omega))) fun h37=>?_
 ·unfold Kw;rw[(h.b (by have:=eq_of_beq e;omega)).fst hx];exact Ev.same (ha.has _)
 refine EvS.cnd (fun e=>EvS.ok (CQ b.kids (fun n x=>Kt n x a.kids) _ (fun x hx=>?_) (y8 hb)) (qAu (CB _ hb) (by omega))) fun h38=>?_
 ·unfold Kt;rw[(h.b (by have:=eq_of_beq e;omega)).fst hx];exact Ev.avP (ha.has _)
 refine EvS.cnd (fun e=>EvS.ok (CQ a.kids (fun n x=>Kl n x b.kids) _ (fun x hx=>?_) (y8 ha)) (qAu (CB _ ha) (by omega))) fun h39=>?_
 ·unfold Kl;rw[(h.a (by have:=eq_of_beq e;omega)).snd hx];exact Ev.same (hb.has _)
 refine EvS.cnd (fun e=>EvS.ok (CQ a.kids (fun n x=>KC n x b.kids) _ (fun x hx=>?_) (y8 ha)) (qAu (CB _ ha) (by omega))) fun h40=>?_
 ·unfold KC;rw[(h.a (by have:=eq_of_beq e;omega)).snd hx];exact Ev.avP (hb.has _)
 refine EvS.cnd (fun e=>EvS.cnd (fun _=>EvS.er) fun h8=>?_) fun h46=>?_
 ·have h8:=of_decide_eq_false h8;have hl:(vM a.kids).length≤256:=by
   unfold vM;rw[ae3];have:=(auc (show a.kids.length≤8 by omega)).2;simpa using this
  exact EvS.of (Ev.bind (agR (by omega)) (Ev.bind (aCu _ (by omega)) (Ev.ret _))) (by simp only[qAg];omega)
 refine EvS.cnd (fun e=>EvS.ok (abw (h.a (by have:=eq_of_beq e;omega)) (y8 ha)) ?_) fun h50=>?_
 ·have:=lK (a.kids.map bL);unfold nQ;simp at this;omega
 refine EvS.cnd (fun e=>EvS.ok (NH (h.a (by have:=eq_of_beq e;omega)) (y8 ha)) ?_) fun h51=>?_
 ·have:=lK (a.kids.map dP);unfold qH;simp at this;omega
 refine EvS.cnd (fun e=>EvS.lp (aEr a ha (h.a (by have:=eq_of_beq e;omega))) (by simp;omega)) fun h52=>?_;refine EvS.cnd (fun e=>?_) fun h53=>?_
 ·have ra:=h.a (by have:=eq_of_beq e;omega);have hq:=CB (fun p=>bf b.kids (bL p)) ha;refine EvS.of (Ev.bind (CQ a.kids (fun n x=>Ki n x b.kids) (fun p=>bf b.kids (bL p)) (fun x hx=>?_) (y8 ha)) (Ev.bind (NH (ra.fil _) (by omega)) (Ev.ret _))) ?_
  ·unfold Ki;rw[ra.fst hx];exact Ev.same (hb.has _)
  ·have:=lK ((a.kids.filter (fun p=>bf b.kids (bL p))).map dP);unfold qH;simp only[qAg]at this;omega
 have hr:op=41∨op=42∨op=43∨op=44∨op=45:=by
  simp only[beq_eq_false_iff_ne,ne_eq]at *;omega
 have hr1:=aqT hr ha hb;have hlen:(JQ op a.kids b.kids)=.er 11∨∃l,JQ op a.kids b.kids=.ok l∧l.length≤2199023255552:=by
  unfold JQ;cases hN:zi op a.kids.length b.kids.length with
  |true=>exact .inr ⟨[],rfl,by simp⟩
  |false=>
   cases hM:wK op b.kids.length a.kids.length 0 1 with
   |true=>exact .inl rfl
   |false=>exact .inr ⟨_,rfl,qAu (ad5 op a.kids b.kids a.kids []) (ap3 hr la lb hN hM)⟩
 rcases hlen with e|⟨l,e,hl⟩
 ·rw[e]at hr1⊢;exact Ev.bind (g:=fun x n=>aog n x) (Ev.bind hr1 (Ev.ret _)) (Ev.ret _)
 ·rw[e]at hr1⊢;exact EvS.of (Ev.bind hr1 (Ev.ret _)) (by omega)
theorem fQ{op:Int}{a b:Val}(ho:op≤54∧op≠28∧op≠29)(hn:21≤op∧op≤26→Rt a.n∧Rt b.n)(hs:47≤op∧op≤49∨op=54→iX a.kids)(hr:op=54→mY a.kids)(hl:op≤20→op≤15)(h0:op≤20→op=3∨op=7∨10≤op)
  (h:30≤op∧op≤53∧¬(47≤op∧op≤49)→SetsOk op a b):Ev (fun n=>nE n op a b) (pz (Ea op a b)):=by
 have T:∀c:Bool,Ev (fun n=>(bD n c).bind fun(x1:Val)=>some (PZ.ok (ζ:=Unit) x1)) (pz (.ok (bO c))):=fun c=>Ev.bind (Bv c) (Ev.ret _);have C:∀d:Int→Bool,Ev (fun n=>(dz n a b).bind fun(x3:Int)=>((bD n (d x3)).bind fun(x4:Val)=>some (PZ.ok (ζ:=Unit) x4))) (pz (.ok (bO (d (bK a b))))):=fun d=>Ev.bind (yO a b) (T _);unfold nE Ea;refine Ev.cnd pz (fun _=>T _) fun e3=>Ev.cnd pz (fun _=>T _) fun e7=>Ev.cnd pz (fun _=>C (fun x=>x==0)) fun e10=>Ev.cnd pz (fun _=>C (fun x=>x !=0)) fun e11=>Ev.cnd pz (fun _=>T _) fun e12=>Ev.cnd pz (fun _=>T _) fun e13=>Ev.cnd pz (fun _=>T _) fun e14=>Ev.cnd pz (fun _=>T _) fun e15=>Ev.cnd pz (fun _=>Ev.ret _) fun e27=>Ev.cnd pz (fun e=>?_) fun e54=>Ev.cnd pz (fun e=>?_) fun e26=>Ev.cnd pz (fun _=>Ev.pz (KT _)) fun e47=>?_
 ·have e:=eq_of_beq e;have sa:=hs (.inr e);have ra:=hr e;have hf:=CQ a.kids (fun n x=>GJ n x b.kind b.n b.name b.kids) (fun p=>oP (bL p) b) (fun x hx=>by
   unfold GJ;rw[ra.fst hx];have eb:Val.mk b.kind b.n b.name b.kids=b:=by cases b;rfl
   rw[eb];simp only[qAa];exact Ev.bind (yO _ _) (Ev.ret _)) (y8 sa)
  refine Ev.bind hf ?_;unfold ajA;have rm:mY (a.kids.filter fun p=>oP (bL p) b):=ra.fil _
  match a.kids.filter (fun p=>oP (bL p) b),rm with
  |[],_=>exact Ev.ret _
  |[p],rm=>
   refine Ev.of fun n=>?_;simp only[show(([p].length:Int)!=1)=false from rfl,cond_false,LK,qAa,rm.snd (qBD ..)];rfl
  |p::q::r,_=>
   refine Ev.of fun n=>?_;simp only[show(((p::q::r).length:Int)!=1)=true by simp;omega,cond_true];rfl
 ·have h26:=of_decide_eq_true e;simp only[beq_eq_false_iff_ne,ne_eq]at *;obtain⟨ha,hb⟩:=hn (by omega);exact Ev.pz (aAX ha hb)
 ·by_cases hm:op=48∨op=49
  ·refine Ev.of fun n=>?_;cases hk:a.kids with
   |nil=>rcases hm with rfl|rfl<;>rfl
   |cons x l=>
    have e:(((x::l).length:Int)==0)=false:=by simp;omega
    have hg:idx (x::l) (((x::l).length:Int) - 1)=(x::l).getLast?:=by
     unfold idx;rw[if_pos (by simp),List.getLast?_eq_getElem?];congr 1;omega
    rcases hm with rfl|rfl
    ·simp only[show((48:Int)==48)=true from rfl,e,cond_true,cond_false,qAa,LK];rfl
    ·rw[hg];cases hq:(x::l).getLast? with
     |none=>rw[List.getLast?_eq_none_iff]at hq;cases hq
     |some y=>simp only[show((49:Int)==48)=false from rfl,show((49:Int)==49)=true from rfl,e,cond_true,cond_false,qAa];rfl
  ·have h26:=of_decide_eq_false e26;simp only[beq_eq_false_iff_ne,ne_eq]at *;have h1:(op==48)=false:=by simpa using fun e=>hm (.inl e)
   have h2:(op==49)=false:=by simpa using fun e=>hm (.inr e)
   simp only[h1,h2,cond_false,qAa];exact Ev.pz (aDT (by omega) (h (by omega)))
end Abs
end Go.Proofs.YtneeginmfjageaaGreat
