/-
  The shapes of valid types. Conditions: none; lemmas without a program.
-/
import Derived.Test.YtbijdmihdagfaaaGreatDoorCAw7ox5d2ae8
set_option linter.all false
namespace Go.Proofs.YtbijdmihdagfaaaGreatDoor
namespace Abs
open Go
def ny:Ty:=.mk 2 [] []
def xX:Ty:=.mk 1 [] []
def kE(a b:Ty):Ty:=.mk 4 [] [a,b]
inductive Good:Ty→Prop where
 |int:Good xX
 |car (nm:Str):Good (xI nm)
 |pair {a b:Ty}:Good a→Good b→Good (kE a b)
 |set {a:Ty}:Good a→Good (bP a)
def Top(t:Ty):Prop:=t=ny∨Good t
mutual
theorem anN:∀(t:Ty) (d c:Int),1<d→(pf t d c).1=true→Good t
 | .mk k nm ks,d,c,hd,h=>by
  simp only[pf]at h;cases hb:((decide (c+1≤16)&&decide (d≤6))&&iw k nm ks.length d)with
  |false=>rw[hb]at h;cases h
  |true=>
   rw[hb]at h;simp only[cond_true]at h;have hk:=UL ks (d+1) (c+1) (by omega) h;simp only[qAa,iw,decide_eq_true_eq,qBb,beq_iff_eq,qAY,qDs,beq_eq_false_iff_ne,decide_eq_false_iff_not]at hb;obtain⟨_,h2,h3,h4⟩:=hb;have hk2:k≠2:=by rcases h2 with h2|h2<;>omega
   rcases h3 with⟨h5,h6⟩|⟨h5,h6⟩|⟨h5,h6⟩
   ·have hks:ks=[]:=qAO.1 h6;subst hks;rcases h5 with rfl|rfl|rfl
    ·have:nm=[]:=by simpa using h4
     subst this;exact .int
    ·exact absurd rfl hk2
    ·exact .car nm
   ·subst h5;have:nm=[]:=by simpa using h4
    subst this
    match ks,h6,hk with
    |[a,b],_,hk=>exact .pair (hk a (by simp)) (hk b (by simp))
   ·subst h5;have:nm=[]:=by simpa using h4
    subst this
    match ks,h6,hk with
    |[a],_,hk=>exact .set (hk a (by simp))
theorem UL:∀(ts:List Ty) (d c:Int),1<d→(kS ts d c).1=true→∀t∈ts,Good t
 |[],_,_,_,_,t,ht=>by cases ht
 |u::ts,d,c,hd,h,t,ht=>by
  simp only[kS]at h;cases hb:(pf u d c).1 with
  |false=>rw[hb]at h;cases h
  |true=>
   rw[hb]at h;rcases qAh.1 ht with he|ht
   ·rw[he];exact anN u d c hd hb
   ·exact UL ts d _ hd h t ht
end
theorem aa4{t:Ty}(h:dL t=true):Top t:=by
 obtain⟨k,nm,ks⟩:=t;unfold dL at h;simp only[pf]at h;cases hb:((decide ((0:Int)+1≤16)&&decide ((1:Int)≤6))&&iw k nm ks.length 1)with
 |false=>rw[hb]at h;cases h
 |true=>
  rw[hb]at h;simp only[cond_true]at h;have hk:=UL ks (1+1) (0+1) (by omega) h;simp only[qAa,iw,decide_eq_true_eq,qBb,beq_iff_eq,qAY,qDs,beq_eq_false_iff_ne,decide_eq_false_iff_not]at hb;obtain⟨_,_,h3,h4⟩:=hb;rcases h3 with⟨h5,h6⟩|⟨h5,h6⟩|⟨h5,h6⟩
  ·have hks:ks=[]:=qAO.1 h6;subst hks;rcases h5 with rfl|rfl|rfl
   ·have:nm=[]:=by simpa using h4
    subst this;exact .inr .int
   ·have:nm=[]:=by simpa using h4
    subst this;exact .inl rfl
   ·exact .inr (.car nm)
  ·subst h5;have:nm=[]:=by simpa using h4
   subst this
   match ks,h6,hk with
   |[a,b],_,hk=>exact .inr (.pair (hk a (by simp)) (hk b (by simp)))
  ·subst h5;have:nm=[]:=by simpa using h4
   subst this
   match ks,h6,hk with
   |[a],_,hk=>exact .inr (.set (hk a (by simp)))
theorem anH{t:Ty}(h:Good t):AB t=true:=by
 induction h with
 |int=>rfl
 |car nm=>rfl
 |pair _ _ h1 h2=>simp[kE,AB,MJ,h1,h2]
 |set _ h1=>simp[bP,AB,MJ,h1]
theorem aiH{t:Ty}(h:Top t):AB t=true:=by
 rcases h with rfl|h
 ·rfl
 ·exact anH h
theorem ake{t:Ty}(h:Good t):(t.kind==2)=false:=by cases h<;>rfl
def fQ(t:Ty):Option Ty:=cond (t.kind==5) t.kids.head? none
def xq(t:Ty):Option (Ty×Ty):=(fQ t).bind fun p=>cond (p.kind==4) (p.kids.head?.bind fun a=>(p.kids.drop 1).head?.map fun b=>(a,b)) none
theorem VQ(a:Ty):fQ (bP a)=some a:=rfl
theorem yS{t:Ty}(h:Top t):(∃e,t=bP e∧Good e)∨((t.kind==5)=false∧fQ t=none∧xq t=none):=by
 rcases h with rfl|h
 ·exact .inr ⟨rfl,rfl,rfl⟩
 ·cases h with
  |int=>exact .inr ⟨rfl,rfl,rfl⟩
  |car nm=>exact .inr ⟨rfl,rfl,rfl⟩
  |pair _ _=>exact .inr ⟨rfl,rfl,rfl⟩
  |set h=>exact .inl ⟨_,rfl,h⟩
theorem JW{t e:Ty}(h:Top t)(he:fQ t=some e):Good e∧t=bP e:=by
 rcases yS h with⟨e',rfl,hg⟩|⟨_,h,_⟩
 ·rw[VQ]at he;cases he;exact⟨hg,rfl⟩
 ·rw[h]at he;cases he
def elP(o:Option Ty):Ty×Bool:=match o with|some e=>(e,true)|none=>(eO,false)
theorem P8(n:Nat){t:Ty}(h:Top t):bI n t=some (elP (fQ t)):=by
 rcases yS h with⟨e,rfl,_⟩|⟨h1,h2,_⟩
 ·rfl
 ·unfold bI;rw[h2,bne,h1];rfl
theorem alK(n:Nat){t:Ty}(h:Top t):jf n t=some (fQ t).isSome:=by
 rcases yS h with⟨e,rfl,he⟩|⟨h1,h2,_⟩
 ·cases he<;>rfl
 ·unfold jf;rw[h2,h1];rfl
def dN(b:Bool)(t:Ty):Option Ty:=cond b (some t) none
def zN(q:Int)(l:List Ty):Bool:=l.all fun x=>x.kind==q
def rD(op:Int)(l:List Ty):Option Ty:=
 let a:=l.headD eO
 let b:=(l.drop 1).headD eO
 cond (decide (op≤2)) (some ny) <|
 cond (decide (op≤7)) (dN (zN 2 l) ny) <|
 cond (decide (op≤9)) (dN ((fQ a).isSome&&b.kind==2) ny) <|
 cond (decide (op≤11)) (dN (a.kind !=2&&bJ a b) ny) <|
 cond (decide (op≤15)) (dN (zN 1 l) ny) <|
 cond (decide (op≤17)) ((fQ b).bind fun e=>dN (bJ a e) ny) <|
 cond (decide (op≤18)) (dN ((fQ a).isSome&&bJ a b) ny) <|
 cond (decide (op≤19)) (some xX) <|
 cond (decide (op≤26)) (dN (zN 1 l) xX) <|
 cond (decide (op≤27)) (dN (a.kind !=2&&b.kind !=2) (kE a b)) <|
 cond (decide (op≤28)) (dN (a.kind !=2&&l.all fun x=>bJ x a) (bP a)) <|
 cond (decide (op≤30)) (dN (zN 1 l) (bP xX)) <|
 cond (decide (op≤33)) (dN ((fQ a).isSome&&bJ a b) a) <|
 cond (decide (op≤34)) ((fQ a).bind fun x=>(fQ b).map fun y=>bP (kE x y)) <|
 cond (decide (op≤35)) (dN ((xq a).isSome&&bJ a b) a) <|
 cond (decide (op≤36)) ((xq a).bind fun x=>(xq b).bind fun y=>dN (bJ x.2 y.1) (bP (kE x.1 y.2))) <|
 cond (decide (op≤38)) ((fQ a).bind fun x=>(xq b).bind fun y=>dN (bJ x y.1) b) <|
 cond (decide (op≤40)) ((xq a).bind fun x=>(fQ b).bind fun y=>dN (bJ y x.2) a) <|
 cond (decide (op≤45)) ((fQ a).bind fun x=>(fQ b).map fun y=>bP (bP (kE x y))) <|
 cond (decide (op≤46)) ((fQ a).map fun x=>bP (bP x)) <|
 cond (decide (op≤47)) ((fQ a).map fun _=>xX) <|
 cond (decide (op≤49)) ((fQ a).bind fun x=>dN (x.kind==1) xX) <|
 cond (decide (op≤50)) ((xq a).map fun x=>bP x.1) <|
 cond (decide (op≤51)) ((xq a).map fun x=>bP x.2) <|
 cond (decide (op≤52)) ((xq a).map fun x=>bP (kE x.2 x.1)) <|
 cond (decide (op≤53)) ((xq a).bind fun x=>(fQ b).bind fun y=>dN (bJ y x.1) (bP x.2)) <|
 cond (decide (op≤54)) ((xq a).bind fun x=>dN (bJ b x.1) x.2) <|
 cond (decide (op≤55)) (dN ((fQ a).isSome&&b.kind==2) a) <|
 (fQ a).bind fun x=>dN (b.kind !=2) (bP (kE x b))
def abS(r:Ty×Bool)(o:Option Ty):Prop:=match o with|some t=>r=(t,true)|none=>r.2=false
def Row(f:Nat→Option (Ty×Bool))(o:Option Ty):Prop:=∃r,Ev f r∧abS r o
theorem Row.of{f:Nat→Option (Ty×Bool)}{o:Option Ty}(t:Ty)(b:Bool)(h:Ev f (t,b))(he:o=dN b t):Row f o:=by
 subst he;cases b
 ·exact⟨_,h,rfl⟩
 ·exact⟨_,h,rfl⟩
theorem Row.yes{f:Nat→Option (Ty×Bool)}{o:Option Ty}(t:Ty)(h:Ev f (t,true))(he:o=some t):Row f o:=.of t true h he
theorem ahJ{α:Type}(a:α)(l:List α):idx (a::l) 0=some a:=rfl
theorem apL(t:Ty):Ty.mk t.kind t.name t.kids=t:=by cases t;rfl
theorem MC(a b:Ty):bJ a b=true↔a=b:=⟨FW a b,fun h=>h▸I5 a⟩
theorem aaz(a b:Ty):bJ a b=bJ b a:=by
 rw[qBW,MC,MC]
 grind
theorem aeH(a b:Ty):bJ (bP a) (bP b)=bJ a b:=by simp[bP,bJ,nJ]
theorem amw{t:Ty}(h:Top t):(t.kind==2)=bJ t ny:=by
 rcases h with rfl|h
 ·rfl
 ·cases h<;>rfl
theorem amG{t:Ty}(h:Top t):(t.kind==1)=bJ t xX:=by
 rcases h with rfl|h
 ·rfl
 ·cases h<;>rfl
theorem aqw{l:List Ty}(h:∀t∈l,Top t):zN 2 l=l.all fun x=>bJ x ny:=by
 unfold zN;rw[qBW,qAC,qAC];exact⟨fun k t ht=>by rw[←amw (h t ht)];exact k t ht,fun k t ht=>by rw[amw (h t ht)];exact k t ht⟩
theorem aqI{l:List Ty}(h:∀t∈l,Top t):zN 1 l=l.all fun x=>bJ x xX:=by
 unfold zN;rw[qBW,qAC,qAC];exact⟨fun k t ht=>by rw[←amG (h t ht)];exact k t ht,fun k t ht=>by rw[amG (h t ht)];exact k t ht⟩
theorem akE(l:List Ty)(k:Int)(nm:Str)(ks:List Ty)(q:Int):Row (fun n=>aP n l k nm ks q) (dN (zN q l) (.mk k nm ks)):=by
 refine Row.of (.mk k nm ks) (zN q l) ?_ rfl;refine Ev.bind (a:=l.any fun x=>x.kind !=q) (Ev.bind (rP l (fun n k i=>rX n l q k i) (fun _ x=>some (x.kind !=q)) (fun x=>x.kind !=q) (fun n k i=>rfl) (fun x _=>Ev.ret _)) ?_) ?_
 ·rw[rQ _ _ _ (qBB _)];exact Ev.ret _
 ·have:(!(l.any fun x=>x.kind !=q))=zN q l:=by
   unfold zN
   grind
  rw[this];exact Ev.ret _
theorem aem(a:Ty)(l:List Ty):Ev (fun n=>jL n (a::l)) (a.kind !=2&&(a::l).all fun x=>bJ x a):=by
 unfold jL lW nV;simp only[ahJ,qAb];cases a.kind !=2 with
 |false=>exact Ev.ret _
 |true=>
  simp;refine Ev.bind (a:=(a::l).any fun x=>!(bJ x a)) (Ev.bind (rP (a::l) (fun n k i=>tC n (a::l) (a::l) k i) (fun n x=>wE n x (a::l)) (fun x=>!(bJ x a)) (fun n k i=>rfl) (fun x _=>?_)) ?_) ?_
  ·unfold wE;simp only[ahJ,qAb];exact Ev.bind (Bp x a) (Ev.ret _)
  ·rw[rQ _ _ _ (qBB _)];exact Ev.ret _
  ·rw[mQ,qCt];exact Ev.ret _
theorem aj2(a b:Ty):Ev (fun n=>jL n [a,b]) (a.kind !=2&&bJ a b):=by
 have:=aem a [b];simp only[qBy,List.all_nil,qBq,I5]at this;rwa[aaz b a]at this
theorem amO{a:Ty}(l:List Ty):Row (fun n=>rY n (a::l)) (dN (a.kind !=2&&(a::l).all fun x=>bJ x a) (bP a)):=by
 unfold rY;simp only[ahJ,qAb];exact .of (bP a) _ (Ev.bind (aem a l) (Ev.ret _)) rfl
theorem shapes{t:Ty}(h:Top t):t=ny∨t=xX∨(∃s,t=xI s)∨(∃x y,t=kE x y)∨t=bP xX∨(∃s,t=bP (xI s))∨(∃x y,t=bP (kE x y))∨∃x,t=bP (bP x):=by
 rcases h with rfl|h
 ·exact .inl rfl
 cases h with
 |int=>exact .inr (.inl rfl)
 |car s=>exact .inr (.inr (.inl ⟨s,rfl⟩))
 |pair _ _=>exact .inr (.inr (.inr (.inl ⟨_,_,rfl⟩)))
 |set h=>
  cases h with
  |int=>exact .inr (.inr (.inr (.inr (.inl rfl))))
  |car s=>exact .inr (.inr (.inr (.inr (.inr (.inl ⟨s,rfl⟩)))))
  |pair _ _=>exact .inr (.inr (.inr (.inr (.inr (.inr (.inl ⟨_,_,rfl⟩))))))
  |set _=>exact .inr (.inr (.inr (.inr (.inr (.inr (.inr ⟨_,rfl⟩))))))
theorem uZ(t:Ty)(b:Bool):abS (t,b) (dN b t):=by cases b<;>rfl
theorem arO(t:Ty)(b:Bool):abS (cond b t eO,b) (dN b t):=by cases b<;>rfl
theorem amC{a:Ty}(ha:Top a)(x t:Ty):(fQ a).bind (fun z=>dN (bJ z x) t)=dN (bJ a (bP x)) t:=by
 cases hs:fQ a with
 |none=>
  cases he:bJ a (bP x)with
  |false=>rfl
  |true=>have:=FW _ _ he;subst this;rw[VQ]at hs;cases hs
 |some e=>
  obtain⟨_,rfl⟩:=JW ha hs;rw[aeH];rfl
theorem apY{a b:Ty}(hb:Top b)(t:Ty):(fQ b).bind (fun e=>dN (bJ a e) t)=dN (a.kind !=2&&bJ (bP a) b) t:=by
 cases hs:fQ b with
 |none=>
  cases he:bJ (bP a) b with
  |false=>rw[qBD];rfl
  |true=>have:=FW _ _ he;subst this;rw[VQ]at hs;cases hs
 |some e=>
  obtain⟨hg,rfl⟩:=JW hb hs;rw[aeH];cases he:bJ a e with
  |false=>rw[qBD];simp only[qAb,he]
  |true=>
   have:=FW _ _ he;subst this;simp only[qAb,he,bne,ake hg,qBc,qBq]
def alE(f:Nat→Option (Bool×Int×Str×(List Ty)))(o:Option Ty):Prop:=∃r,Ev f r∧(match o with|some t=>r=(true,t.kind,t.name,t.kids)|none=>r.1=false)
theorem Row.c{f:Nat→Option (Ty×Bool)}{o:Option Ty}(h:Row f o):alE (fun n=>(f n).bind fun x=>some (x.2,x.1.kind,x.1.name,x.1.kids)) o:=by
 obtain⟨r,h1,h2⟩:=h;refine⟨_,Ev.bind h1 (Ev.ret _),?_⟩;cases o with
 |none=>exact h2
 |some t=>have h2:r=(t,true):=h2;subst h2;rfl
def rc(x:Ty×Bool):Option (Bool×Int×Str×(List Ty)):=some (x.2,x.1.kind,x.1.name,x.1.kids)
def chn{α:Type}(op:Int):Int→List (Option α)→Option α
 |_,[]=>none
 |i,x::r=>cond (op==i) x (chn op (i+1) r)
def acA(n:Nat)(op:Int)(l:List Ty):Option (Bool×Int×Str×(List Ty)):=
 chn op 0 [none,rc (ny,true),rc (ny,true),(aP n l 2 [] [] 2).bind rc,(aP n l 2 [] [] 2).bind rc,(aP n l 2 [] [] 2).bind rc,(aP n l 2 [] [] 2).bind rc,(aP n l 2 [] [] 2).bind rc,(oM n l).bind rc,(oM n l).bind rc,(tF n l).bind rc,(tF n l).bind rc,(aP n l 2 [] [] 1).bind rc,(aP n l 2 [] [] 1).bind rc,(aP n l 2 [] [] 1).bind rc,(aP n l 2 [] [] 1).bind rc,(sW n l).bind rc,(sW n l).bind rc,(zW n l).bind rc,rc (xX,true),none,(aP n l 1 [] [] 1).bind rc,(aP n l 1 [] [] 1).bind rc,(aP n l 1 [] [] 1).bind rc,(aP n l 1 [] [] 1).bind rc,(aP n l 1 [] [] 1).bind rc,(aP n l 1 [] [] 1).bind rc,(D7 n l).bind rc,(rY n l).bind rc,none,(aP n l 5 [] [xX] 1).bind rc,(jZ n l).bind rc,(jZ n l).bind rc,(jZ n l).bind rc,(Bg n l).bind rc,(qw n l).bind rc,(qD n l).bind rc,(sF n l).bind rc,(sF n l).bind rc,(jq n l).bind rc,(jq n l).bind rc,(fO n l).bind rc,(fO n l).bind rc,(fO n l).bind rc,(fO n l).bind rc,(fO n l).bind rc,(yE n l).bind rc,(yH n l).bind rc,(mW n l).bind rc,(mW n l).bind rc,(qb n l).bind rc,(pW n l).bind rc,(qG n l).bind rc,(p8 n l).bind rc,(p9 n l).bind rc,(Ai n l).bind rc,(Bt n l).bind rc]
theorem ana{op:Int}(h1:1≤op)(h2:op≤56):op=1∨op=2∨op=3∨op=4∨op=5∨op=6∨op=7∨op=8∨op=9∨op=10∨op=11∨op=12∨op=13∨op=14∨op=15∨op=16∨op=17∨op=18∨op=19∨op=20∨op=21∨op=22∨op=23∨op=24∨op=25∨op=26∨op=27∨op=28∨op=29∨op=30∨op=31∨op=32∨op=33∨op=34∨op=35∨op=36∨op=37∨op=38∨op=39∨op=40∨op=41∨op=42∨op=43∨op=44∨op=45∨op=46∨op=47∨op=48∨op=49∨op=50∨op=51∨op=52∨op=53∨op=54∨op=55∨op=56:=by omega
theorem aiQ{α:Type}(l:List α)(h:(l.length:Int)=1):∃a,l=[a]:=by
 match l,h with
 |[a],_=>exact⟨a,rfl⟩
theorem Dh{α:Type}(l:List α)(h:(l.length:Int)=2):∃a b,l=[a,b]:=by
 match l,h with
 |[a,b],_=>exact⟨a,b,rfl⟩
theorem La{α:Type}(l:List α)(h:l≠[]):∃a m,l=a::m:=by
 match l,h with
 |a::m,_=>exact⟨a,m,rfl⟩
structure LenOk(op:Int)(l:List Ty):Prop where
 one:gI op=1→(l.length:Int)=1
 two:gI op=2→(l.length:Int)=2
 some:gI op= -1→l≠[]
def adt(op:Int)(l:List Ty):Prop:=alE (fun n=>acA n op l) (rD op l)
theorem amM{op:Int}(ho:op=46∨op=47∨op=48∨op=49∨op=50∨op=51∨op=52){a:Ty}(ha:Top a):adt op [a]:=by
 have E:=Bp;rcases ho with rfl|rfl|rfl|rfl|rfl|rfl|rfl<;>rcases shapes ha with rfl|rfl|⟨_,rfl⟩|⟨_,_,rfl⟩|rfl|⟨_,rfl⟩|⟨_,_,rfl⟩|⟨_,rfl⟩<;>exact⟨_,Ev.ret _,rfl⟩
theorem apf{op:Int}(ho:op=8∨op=9∨op=27∨op=34∨op=41∨op=42∨op=43∨op=44∨op=45∨op=55∨op=56){a b:Ty}(ha:Top a)(hb:Top b)(hs:bf op=true→(fQ a).isSome=true):adt op [a,b]:=by
 rcases ho with rfl|rfl|rfl|rfl|rfl|rfl|rfl|rfl|rfl|rfl|rfl<;>rcases shapes ha with rfl|rfl|⟨_,rfl⟩|⟨_,_,rfl⟩|rfl|⟨_,rfl⟩|⟨_,_,rfl⟩|⟨_,rfl⟩<;>first|exact absurd (hs rfl) Bool.false_ne_true|(rcases shapes hb with rfl|rfl|⟨_,rfl⟩|⟨_,_,rfl⟩|rfl|⟨_,rfl⟩|⟨_,_,rfl⟩|⟨_,rfl⟩<;>exact⟨_,Ev.ret _,rfl⟩)
theorem an5{op:Int}(ho:op=10∨op=11∨op=18∨op=31∨op=32∨op=33∨op=35∨op=54){a b:Ty}(ha:Top a):adt op [a,b]:=by
 have E:=Bp;have A:=aj2;rcases ho with rfl|rfl|rfl|rfl|rfl|rfl|rfl|rfl<;>rcases shapes ha with rfl|rfl|⟨_,rfl⟩|⟨_,_,rfl⟩|rfl|⟨_,rfl⟩|⟨_,_,rfl⟩|⟨_,rfl⟩<;>first|exact⟨_,Ev.ret _,rfl⟩|(refine Row.c ?_;apply Exists.intro;apply And.intro;(repeat' first|exact Ev.ret _|exact E _ _|exact A _ _|apply Ev.bind);exact uZ _ _)
theorem aph{op:Int}(ho:op=16∨op=17){a b:Ty}(hb:Top b):adt op [a,b]:=by
 have E:=Bp;rcases ho with rfl|rfl<;>rcases shapes hb with rfl|rfl|⟨_,rfl⟩|⟨_,_,rfl⟩|rfl|⟨_,rfl⟩|⟨_,_,rfl⟩|⟨_,rfl⟩<;>first|exact⟨_,Ev.ret _,rfl⟩|(refine Row.c ?_;apply Exists.intro;apply And.intro;(repeat' first|exact Ev.ret _|exact E _ _|apply Ev.bind);exact uZ _ _)
theorem aoq{op:Int}(ho:op=36∨op=37∨op=38∨op=39∨op=40∨op=53){a b:Ty}(ha:Top a)(hb:Top b):adt op [a,b]:=by
 have E:=Bp;rcases ho with rfl|rfl|rfl|rfl|rfl|rfl<;>rcases shapes ha with rfl|rfl|⟨_,rfl⟩|⟨_,_,rfl⟩|rfl|⟨_,rfl⟩|⟨_,_,rfl⟩|⟨_,rfl⟩<;>rcases shapes hb with rfl|rfl|⟨_,rfl⟩|⟨_,_,rfl⟩|rfl|⟨_,rfl⟩|⟨_,_,rfl⟩|⟨_,rfl⟩<;>first|exact⟨_,Ev.ret _,rfl⟩|(refine Row.c ?_;apply Exists.intro;apply And.intro;(repeat' first|exact Ev.ret _|exact E _ _|apply Ev.bind);exact uZ _ _)
theorem ajj{op:Int}(h1:1≤op)(h2:op≤56)(h20:op≠20)(h29:op≠29){l:List Ty}(hl:∀t∈l,Top t)(hn:LenOk op l)(hb:bf op=true→(fQ (l.headD eO)).isSome=true):alE (fun n=>acA n op l) (rD op l):=by
 rcases ana h1 h2 with rfl|rfl|rfl|rfl|rfl|rfl|rfl|rfl|rfl|rfl|rfl|rfl|rfl|rfl|rfl|rfl|rfl|rfl|rfl|rfl|rfl|rfl|rfl|rfl|rfl|rfl|rfl|rfl|rfl|rfl|rfl|rfl|rfl|rfl|rfl|rfl|rfl|rfl|rfl|rfl|rfl|rfl|rfl|rfl|rfl|rfl|rfl|rfl|rfl|rfl|rfl|rfl|rfl|rfl|rfl|rfl<;>first
 |exact absurd rfl h20
 |exact absurd rfl h29
 |exact⟨_,Ev.ret _,rfl⟩
 |exact Row.c (akE l _ _ _ _)
 |(obtain⟨a,rfl⟩:=aiQ l (hn.one rfl);exact amM (by decide) (hl a (by simp)))
 |(obtain⟨a,b,rfl⟩:=Dh l (hn.two rfl)
   have ha:=hl a (by simp);have hb':=hl b (by simp)
   first|exact apf (by decide) ha hb' hb|exact an5 (by decide) ha|exact aph (by decide) hb'|exact aoq (by decide) ha hb')
 |(obtain⟨a,l,rfl⟩:=La l (hn.some rfl);exact Row.c (amO l))
theorem aeA(l:List Ty)(t:Ty):Ev (fun n=>Dw n l t) (l.all fun x=>bJ x t):=by
 unfold Dw;have h:=kM l (fun n k i=>aax n l t k i) (fun n x=>(bq n x t).bind fun b=>some (!b)) (fun x=>!(bJ x t)) false
  (fun n k i=>by
   show cond _ _ _=_;congr 1;congr 1;funext x;simp only[qAU,qAb];rfl)
  (fun x _=>Ev.bind (iG x t) (Ev.ret _))
 rw[mQ]at h;refine Ev.bind h ?_;cases l.all fun x=>bJ x t
 ·exact Ev.ret _
 ·exact Ev.ret _
theorem aqX{op:Int}(ho:op=1∨op=2∨op=19){l:List Ty}(nm:Str)(m:Int)(ty:Ty)(ks:List Tm):Row (fun n=>lY n (.mk op nm m ty ks) l) (rD op l):=by rcases ho with rfl|rfl|rfl<;>exact⟨_,Ev.ret _,rfl⟩
theorem aqz{op:Int}(ho:op=3∨op=4∨op=5∨op=6∨op=7){l:List Ty}(hl:∀t∈l,Top t)(nm:Str)(m:Int)(ty:Ty)(ks:List Tm):Row (fun n=>lY n (.mk op nm m ty ks) l) (rD op l):=by
 have A:=aeA;rcases ho with rfl|rfl|rfl|rfl|rfl<;>
 ·show Row _ (dN (zN 2 l) ny);rw[aqw hl];apply Exists.intro;apply And.intro;(repeat' first|exact Ev.ret _|exact A _ _|apply Ev.bind);exact uZ _ _
theorem ar3{op:Int}(ho:op=12∨op=13∨op=14∨op=15∨op=21∨op=22∨op=23∨op=24∨op=25∨op=26∨op=30){l:List Ty}(hl:∀t∈l,Top t)(nm:Str)(m:Int)(ty:Ty)(ks:List Tm):Row (fun n=>lY n (.mk op nm m ty ks) l) (rD op l):=by
 have A:=aeA;rcases ho with rfl|rfl|rfl|rfl|rfl|rfl|rfl|rfl|rfl|rfl|rfl<;>
 ·show Row _ (dN (zN 1 l) _);rw[aqI hl];apply Exists.intro;apply And.intro;(repeat' first|exact Ev.ret _|exact A _ _|apply Ev.bind);exact uZ _ _
theorem arw{l:List Ty}(hn:LenOk 28 l)(nm:Str)(m:Int)(ty:Ty)(ks:List Tm)(hl:∀t∈l,Top t):Row (fun n=>lY n (.mk 28 nm m ty ks) l) (rD 28 l):=by
 have A:=aeA;obtain⟨a,l,rfl⟩:=La l (hn.some rfl);have ha:=hl a (by simp);rcases shapes ha with rfl|rfl|⟨_,rfl⟩|⟨_,_,rfl⟩|rfl|⟨_,rfl⟩|⟨_,_,rfl⟩|⟨_,rfl⟩<;>
 first
 |exact⟨_,Ev.ret _,rfl⟩
 |(apply Exists.intro;apply And.intro;(repeat' first|exact Ev.ret _|exact A _ _|apply Ev.bind);exact uZ _ _)
theorem aoC{op:Int}(ho:op=46∨op=47∨op=48∨op=49∨op=50∨op=51∨op=52){l:List Ty}(hl:∀t∈l,Top t)(hn:LenOk op l)(nm:Str)(m:Int)(ty:Ty)(ks:List Tm):Row (fun n=>lY n (.mk op nm m ty ks) l) (rD op l):=by
 have E:=iG;rcases ho with rfl|rfl|rfl|rfl|rfl|rfl|rfl<;>
 ·obtain⟨a,rfl⟩:=aiQ l (hn.one rfl);have ha:=hl a (by simp);rcases shapes ha with rfl|rfl|⟨_,rfl⟩|⟨_,_,rfl⟩|rfl|⟨_,rfl⟩|⟨_,_,rfl⟩|⟨_,rfl⟩<;>
  first
  |exact⟨_,Ev.ret _,rfl⟩
  |(apply Exists.intro;apply And.intro;(repeat' first|exact Ev.ret _|exact E _ _|apply Ev.bind);exact uZ _ _)
theorem aqJ{op:Int}(ho:op=8∨op=9∨op=27∨op=34∨op=41∨op=42∨op=43∨op=44∨op=45∨op=55∨op=56){l:List Ty}(hl:∀t∈l,Top t)(hn:LenOk op l)(nm:Str)(m:Int)(ty:Ty)(ks:List Tm):Row (fun n=>lY n (.mk op nm m ty ks) l) (rD op l):=by
 have E:=iG;rcases ho with rfl|rfl|rfl|rfl|rfl|rfl|rfl|rfl|rfl|rfl|rfl<;>
 ·obtain⟨a,b,rfl⟩:=Dh l (hn.two rfl);have ha:=hl a (by simp);have hb:=hl b (by simp);rcases shapes ha with rfl|rfl|⟨_,rfl⟩|⟨_,_,rfl⟩|rfl|⟨_,rfl⟩|⟨_,_,rfl⟩|⟨_,rfl⟩<;>rcases shapes hb with rfl|rfl|⟨_,rfl⟩|⟨_,_,rfl⟩|rfl|⟨_,rfl⟩|⟨_,_,rfl⟩|⟨_,rfl⟩<;>exact⟨_,Ev.ret _,rfl⟩
theorem arQ{op:Int}(ho:op=10∨op=11∨op=18∨op=31∨op=32∨op=33∨op=35∨op=54){l:List Ty}(hl:∀t∈l,Top t)(hn:LenOk op l)(nm:Str)(m:Int)(ty:Ty)(ks:List Tm):Row (fun n=>lY n (.mk op nm m ty ks) l) (rD op l):=by
 have E:=iG;rcases ho with rfl|rfl|rfl|rfl|rfl|rfl|rfl|rfl<;>
 ·obtain⟨a,b,rfl⟩:=Dh l (hn.two rfl);have ha:=hl a (by simp);have hb:=hl b (by simp);rcases shapes ha with rfl|rfl|⟨_,rfl⟩|⟨_,_,rfl⟩|rfl|⟨_,rfl⟩|⟨_,_,rfl⟩|⟨_,rfl⟩<;>
  first
  |exact⟨_,Ev.ret _,rfl⟩
  |(apply Exists.intro;apply And.intro;(repeat' first|exact Ev.ret _|exact E _ _|apply Ev.bind);exact uZ _ _)
theorem ar7{op:Int}(ho:op=16∨op=17){l:List Ty}(hl:∀t∈l,Top t)(hn:LenOk op l)(nm:Str)(m:Int)(ty:Ty)(ks:List Tm):Row (fun n=>lY n (.mk op nm m ty ks) l) (rD op l):=by
 have E:=iG;rcases ho with rfl|rfl<;>
 ·obtain⟨a,b,rfl⟩:=Dh l (hn.two rfl);have ha:=hl a (by simp);have hb:=hl b (by simp);show Row _ ((fQ b).bind fun e=>dN (bJ a e) ny);rw[apY hb];rcases shapes ha with rfl|rfl|⟨_,rfl⟩|⟨_,_,rfl⟩|rfl|⟨_,rfl⟩|⟨_,_,rfl⟩|⟨_,rfl⟩<;>
  first
  |exact⟨_,Ev.ret _,rfl⟩
  |(apply Exists.intro;apply And.intro;(repeat' first|exact Ev.ret _|exact E _ _|apply Ev.bind);exact uZ _ _)
theorem aqF{op:Int}(ho:op=37∨op=38){l:List Ty}(hl:∀t∈l,Top t)(hn:LenOk op l)(nm:Str)(m:Int)(ty:Ty)(ks:List Tm):Row (fun n=>lY n (.mk op nm m ty ks) l) (rD op l):=by
 have E:=iG;rcases ho with rfl|rfl<;>
 ·obtain⟨a,b,rfl⟩:=Dh l (hn.two rfl);have ha:=hl a (by simp);have hb:=hl b (by simp);rcases shapes hb with rfl|rfl|⟨_,rfl⟩|⟨_,_,rfl⟩|rfl|⟨_,rfl⟩|⟨_,_,rfl⟩|⟨_,rfl⟩<;>
  first
  |(rcases shapes ha with rfl|rfl|⟨_,rfl⟩|⟨_,_,rfl⟩|rfl|⟨_,rfl⟩|⟨_,_,rfl⟩|⟨_,rfl⟩<;>exact⟨_,Ev.ret _,rfl⟩)
  |(show Row _ ((fQ a).bind fun z=>dN (bJ z _) _);rw[amC ha];apply Exists.intro;apply And.intro;(repeat' first|exact Ev.ret _|exact E _ _|apply Ev.bind);exact uZ _ _)
theorem ar8{op:Int}(ho:op=39∨op=40∨op=53){l:List Ty}(hl:∀t∈l,Top t)(hn:LenOk op l)(nm:Str)(m:Int)(ty:Ty)(ks:List Tm):Row (fun n=>lY n (.mk op nm m ty ks) l) (rD op l):=by
 have E:=iG;rcases ho with rfl|rfl|rfl<;>
 ·obtain⟨a,b,rfl⟩:=Dh l (hn.two rfl);have ha:=hl a (by simp);have hb:=hl b (by simp);rcases shapes ha with rfl|rfl|⟨_,rfl⟩|⟨_,_,rfl⟩|rfl|⟨_,rfl⟩|⟨_,_,rfl⟩|⟨_,rfl⟩<;>
  first
  |exact⟨_,Ev.ret _,rfl⟩
  |(show Row _ ((fQ b).bind fun z=>dN (bJ z _) _);rw[amC hb];apply Exists.intro;apply And.intro;(repeat' first|exact Ev.ret _|exact E _ _|apply Ev.bind);exact uZ _ _)
theorem aoY(x y z u:Ty)(nm:Str)(m:Int)(ty:Ty)(ks:List Tm):Row (fun n=>lY n (.mk 36 nm m ty ks) [bP (kE x y),bP (kE z u)]) (rD 36 [bP (kE x y),bP (kE z u)]):=by
 refine⟨(cond (bJ y z) (bP (kE x u)) eO,bJ y z),?_,arO _ _⟩;have E:=iG y z;generalize bJ y z=q at E⊢;cases q<;>(repeat' first|exact Ev.ret _|exact E|apply Ev.bind)
theorem arP{l:List Ty}(hl:∀t∈l,Top t)(hn:LenOk 36 l)(nm:Str)(m:Int)(ty:Ty)(ks:List Tm):Row (fun n=>lY n (.mk 36 nm m ty ks) l) (rD 36 l):=by
 obtain⟨a,b,rfl⟩:=Dh l (hn.two rfl);rcases shapes (hl a (by simp))with rfl|rfl|⟨_,rfl⟩|⟨_,_,rfl⟩|rfl|⟨_,rfl⟩|⟨_,_,rfl⟩|⟨_,rfl⟩<;>rcases shapes (hl b (by simp))with rfl|rfl|⟨_,rfl⟩|⟨_,_,rfl⟩|rfl|⟨_,rfl⟩|⟨_,_,rfl⟩|⟨_,rfl⟩<;>first|exact⟨_,Ev.ret _,rfl⟩|exact aoY _ _ _ _ _ _ _ _
theorem akf{op:Int}(h1:1≤op)(h2:op≤56)(h20:op≠20)(h29:op≠29){l:List Ty}(hl:∀t∈l,Top t)(hn:LenOk op l)(nm:Str)(m:Int)(ty:Ty)(ks:List Tm):Row (fun n=>lY n (.mk op nm m ty ks) l) (rD op l):=by
 by_cases a0:op=1∨op=2∨op=19
 ·exact aqX a0 nm m ty ks
 by_cases a1:op=3∨op=4∨op=5∨op=6∨op=7
 ·exact aqz a1 hl nm m ty ks
 by_cases a2:op=12∨op=13∨op=14∨op=15∨op=21∨op=22∨op=23∨op=24∨op=25∨op=26∨op=30
 ·exact ar3 a2 hl nm m ty ks
 by_cases a3:op=28
 ·subst a3;exact arw hn nm m ty ks hl
 by_cases a4:op=36
 ·subst a4;exact arP hl hn nm m ty ks
 by_cases a5:op=16∨op=17
 ·exact ar7 a5 hl hn nm m ty ks
 by_cases a6:op=37∨op=38
 ·exact aqF a6 hl hn nm m ty ks
 by_cases a7:op=39∨op=40∨op=53
 ·exact ar8 a7 hl hn nm m ty ks
 by_cases a8:op=10∨op=11∨op=18∨op=31∨op=32∨op=33∨op=35∨op=54
 ·exact arQ a8 hl hn nm m ty ks
 by_cases a9:46≤op∧op≤52
 ·exact aoC (by omega) hl hn nm m ty ks
 ·exact aqJ (by omega) hl hn nm m ty ks
theorem al7{α σ τ ρ:Type}(l:List α)(L:Nat→Nat→Int→σ→Option (LR τ ρ))(step:Nat→Int→α→σ→Option (LR σ ρ))(st:Int→α→σ→LR σ ρ)(fin:σ→τ)(I:Int→List α→σ→Prop)
  (h0:∀n k s,L n (k+1) (l.length:Int) s=some (.nx (fin s)))
  (h1:∀n k i x s,idx l i=some x→decide (i<(l.length:Int))=true→L n (k+1) i s=(step n i x s).bind (LR.el (fun s'=>L n k (i+1) s') (fun r=>some (.rt r))))
  (hI:∀i x suf s,x∈l→I i (x::suf) s→idx l i=some x→Ev (fun n=>step n i x s) (st i x s)∧∀s',st i x s=.nx s'→I (i+1) suf s') {s0:σ} (hs0:I 0 l s0):Ev (fun n=>L n n 0 s0) (gL st fin 0 l s0):=by
 have key:∀(suf pre:List α) (s:σ),l=pre++suf→I (pre.length:Int) suf s→∃N,∀n,N≤n→∀k,suf.length+1≤k→L n k (pre.length:Int) s=some (gL st fin (pre.length:Int) suf s):=by
  intro suf
  induction suf with
  |nil=>
   intro pre s hl _;refine⟨0,fun n _ k hk=>?_⟩;cases k with
   |zero=>simp at hk
   |succ k=>
    have e:pre.length=l.length:=by rw[hl];simp
    rw[e,h0];rfl
  |cons x suf ih=>
   intro pre s hl hIs;have hx:idx l (pre.length:Int)=some x:=by rw[hl];exact xR pre x suf
   obtain⟨⟨N1,k1⟩,k2⟩:=hI _ x suf s (by rw[hl];simp) hIs hx;replace k1:∀n,N1≤n→step n (pre.length:Int) x s=some (st (pre.length:Int) x s):=k1;have hi:decide ((pre.length:Int)<(l.length:Int))=true:=decide_eq_true (by rw[hl];simp;omega);cases hs:st (pre.length:Int) x s with
   |rt r=>
    refine⟨N1,fun n hn k hk=>?_⟩;cases k with
    |zero=>simp at hk
    |succ k=>
     rw[h1 n k _ x s hx hi,k1 n hn,hs];simp[gL,hs]
   |nx s'=>
    have h3:=k2 s' hs;have e:((pre++[x]).length:Int)=(pre.length:Int)+1:=by simp
    obtain⟨N2,h4⟩:=ih (pre++[x]) s' (by rw[hl];simp) (by rw[e];exact h3);refine⟨max N1 N2,fun n hn k hk=>?_⟩;cases k with
    |zero=>simp at hk
    |succ k=>
     rw[h1 n k _ x s hx hi,k1 n (by omega),hs];simp only[qAb,LR.el];have:=h4 n (by omega) k (by simp at hk;omega);rw[e]at this;rw[this];simp[gL,hs]
 obtain⟨N,hN⟩:=key l [] s0 rfl hs0;exact⟨max N (l.length+1),fun n hn=>hN n (by omega) n (by omega)⟩
def Wf(d:Int)(t:Tm):Prop:=∃c,0≤c∧(mf t d c).1=true
theorem af4:∀(ts:List Tm) (d c:Int),0≤c→(um ts d c).1=true→c+ts.length≤(um ts d c).2∧∀t∈ts,Wf d t
 |[],_,c,_,_=>by simp[um]
 |t::ts,d,c,h0,h=>by
  simp only[um]at h⊢;cases hb:(mf t d c).1 with
  |false=>rw[hb]at h;cases h
  |true=>
   rw[hb]at h;simp only[cond_true]at h⊢;have h1:=R7 t d c hb;obtain⟨h2,h3⟩:=af4 ts d _ (by omega) h;refine⟨by simp only[qAu];omega,fun u hu=>?_⟩;rcases qAh.1 hu with rfl|hu
   ·exact⟨_,h0,hb⟩
   ·exact h3 u hu
theorem Wf.node{op:Int}{nm:Str}{m:Int}{ty:Ty}{ks:List Tm}{d:Int}(h:Wf d (.mk op nm m ty ks)):uD (.mk op nm m ty ks)=true∧d≤64∧ks.length≤2000∧∀t∈ks,Wf (d+1) t:=by
 obtain⟨c,h0,h⟩:=h;simp only[mf]at h;cases hb:((decide (c+1≤2000)&&decide (d≤64))&&uD (.mk op nm m ty ks))with
 |false=>rw[hb]at h;cases h
 |true=>
  rw[hb]at h;obtain⟨h1,h2⟩:=af4 _ _ _ (by omega) h;have h3:=acL ks _ _ h
  grind
theorem Vy{t:Tm}(h:cu t=true):Wf 1 t:=⟨0,by omega,h⟩
theorem agT{op:Int}(h:(gI op== -2)=false):1≤op∧op≤56:=by
 by_cases hr:1≤op∧op≤56
 ·exact hr
 ·exfalso;have e:gI op= -2:=by
   unfold gI
   grind
  grind
theorem aaJ{op:Int}{nm:Str}{m:Int}{ty:Ty}{ks:List Tm}(h:uD (.mk op nm m ty ks)=true):(1≤op∧op≤56)∧(op=20→ks=[])∧(op=29→ks=[]∧dL ty=true∧(ty.kind==2)=false)∧(∀l:List Ty,l.length=ks.length→LenOk op l)∧(bf op=true→∃x y,ks=[x,y]):=by
 simp only[uD,qAa,Cg,Tm.op,Tm.kids,qAY]at h;obtain⟨⟨h1,h2⟩,_,_,h5⟩:=h;have hlen:∀q:Int,gI op=q→(q== -1)=false→(ks.length:Int)=q:=fun q e hq=>by
  grind
 have hnil:gI op=0→ks=[]:=fun e=>by
  simp_all
 refine⟨agT h1,fun e=>hnil (by subst e;rfl),fun e=>⟨hnil (by subst e;rfl),?_⟩,fun l hl=>⟨fun e=>by rw[hl];exact hlen 1 e rfl,fun e=>by rw[hl];exact hlen 2 e rfl,fun e=>?_⟩,fun hb=>?_⟩
 ·subst e;have h5':(dL ty&&ty.kind !=2)=true:=h5
  grind
 ·grind
 ·have:gI op=2:=by
   simp only[bf,qBb,beq_iff_eq]at hb;rcases hb with rfl|rfl|rfl|rfl<;>rfl
  obtain⟨x,y,e⟩:=Dh ks (hlen 2 this rfl)
  grind
inductive TR where
 |ok (t:Ty)
 |er (e:Int) (p:List Int)
inductive KR where
 |ok (l:List Ty)
 |er (e:Int) (p:List Int)
def Cn(env:Env)(sc:List Decl)(s:Str):Option Ty:=match sc.find? (fun d=>d.name==s)with|some d=>some d.ty|none=>look env s
def J8(o:Option Ty):TR:=match o with|some t=>cond (dL t) (.ok t) (.er 5 [])|none=>.er 7 []
def knows(env:Env)(t:Ty):Bool:=(fq t).all (dZ env)
def pU(b:Bool)(nm:Str)(ty:Ty)(sc:List Decl):Option (List Decl):=cond b ((fQ ty).map fun e=>⟨nm,e⟩::sc) (some sc)
mutual
def jP(env:Env):List Decl→Tm→TR
 |sc,.mk op nm _ ty ks=>
  cond (op==20) (match Cn env sc nm with|some t=>.ok t|none=>.er 6 [])
   (cond (op==29&&!(knows env ty)) (.er 6 [])
    (match jh env sc (bf op) nm 0 ks with
     | .er e p=>.er e p
     | .ok l=>J8 (cond (op==29) (some (bP ty)) (rD op l))))
def jh(env:Env):List Decl→Bool→Str→Int→List Tm→KR
 |_,_,_,_,[]=>.ok []
 |sc,b,nm,i,t::ts=>match jP env sc t with
  | .er e p=>.er e (i::p)
  | .ok ty=>match pU b nm ty sc with
   |none=>.er 7 []
   |some sc'=>match jh env sc' false nm (i+1) ts with
    | .er e p=>.er e p
    | .ok l=>.ok (ty::l)
end
def GoodS(sc:List Decl):Prop:=∀d∈sc,Good d.ty
theorem aeW{t:Ty}(h:dL t=true)(hb:rA 2 t=false):Good t:=by
 rcases aa4 h with rfl|h
 ·cases hb
 ·exact h
theorem aiN{env:Env}(h:aU env=true){s:Str}{t:Ty}(ht:look env s=some t):Good t:=by
 rw[G7 h]at ht;rcases qAA.1 ht with ht|ht
 ·obtain⟨c,hc,ht⟩:=qCC.1 ht;rcases qAh.1 ht with ht|ht
  ·cases ht;exact .set (.car _)
  ·obtain⟨e,_,he⟩:=qBk.1 ht;cases he;exact .car _
 ·obtain⟨d,hd,he⟩:=qBk.1 ht;cases he;obtain⟨_,h1,h2,_⟩:=WS h hd;exact aeW h1 h2
theorem ahB{env:Env}(h:aU env=true){sc:List Decl}(hs:GoodS sc){s:Str}{t:Ty}(ht:Cn env sc s=some t):Good t:=by
 unfold Cn at ht;cases hf:sc.find? (fun d=>d.name==s)with
 |some d=>rw[hf]at ht;cases ht;exact hs d (List.mem_of_find?_eq_some hf)
 |none=>rw[hf]at ht;exact aiN h ht
theorem am8{o:Option Ty}{t:Ty}(h:J8 o=.ok t):o=some t∧dL t=true:=by
 cases o with
 |none=>cases h
 |some u=>
  simp only[J8]at h
  grind
theorem afR{o:Option Ty}{e:Int}{p:List Int}(h:J8 o=.er e p):e≠0∧p=[]:=by
 cases o with
 |none=>cases h;exact⟨by decide,rfl⟩
 |some u=>
  simp only[J8]at h
  grind
theorem EW{b:Bool}{nm:Str}{ty:Ty}{sc sc':List Decl}(ht:Top ty)(hs:GoodS sc)(h:pU b nm ty sc=some sc'):GoodS sc':=by
 unfold pU at h;cases b with
 |false=>cases h;exact hs
 |true=>
  cases he:fQ ty with
  |none=>rw[he]at h;cases h
  |some e=>
   rw[he]at h;cases h;intro d hd;rcases qAh.1 hd with rfl|hd
   ·exact(JW ht he).1
   ·exact hs d hd
theorem A8{env:Env}(h:aU env=true){t:Tm}{sc:List Decl}(hs:GoodS sc){ty:Ty}(ht:jP env sc t=.ok ty):Top ty:=by
 obtain⟨op,nm,m,u,ks⟩:=t;simp only[jP]at ht;cases h20:(op==20)with
 |true=>
  rw[h20]at ht;cases hl:Cn env sc nm with
  |none=>rw[hl]at ht;cases ht
  |some t=>rw[hl]at ht;cases ht;exact .inr (ahB h hs hl)
 |false=>
  rw[h20]at ht;cases h29:(op==29&&!(knows env u))with
  |true=>rw[h29]at ht;cases ht
  |false=>
   rw[h29]at ht;cases hk:jh env sc (bf op) nm 0 ks with
   |er e p=>rw[hk]at ht;cases ht
   |ok l=>rw[hk]at ht;exact aa4 (am8 ht).2
theorem aah{env:Env}(h:aU env=true):∀(ts:List Tm) (sc:List Decl) (b:Bool) (nm:Str) (i:Int) (l:List Ty),GoodS sc→jh env sc b nm i ts=.ok l→l.length=ts.length∧(∀t∈l,Top t)∧(b=true→ts≠[]→(fQ (l.headD eO)).isSome=true)
 |[],sc,b,nm,i,l,_,hk=>by
  simp only[jh]at hk;cases hk;exact⟨rfl,fun t ht=>(by cases ht),fun _ h=>absurd rfl h⟩
 |t::ts,sc,b,nm,i,l,hs,hk=>by
  simp only[jh]at hk;cases ht:jP env sc t with
  |er e p=>rw[ht]at hk;cases hk
  |ok ty=>
   rw[ht]at hk;simp only at hk;have htop:=A8 h hs ht;cases hb:pU b nm ty sc with
   |none=>rw[hb]at hk;cases hk
   |some sc'=>
    rw[hb]at hk;simp only at hk;cases hr:jh env sc' false nm (i+1) ts with
    |er e p=>rw[hr]at hk;cases hk
    |ok l'=>
     rw[hr]at hk;cases hk;obtain⟨h1,h2,_⟩:=aah h ts sc' false nm (i+1) l' (EW htop hs hb) hr;refine⟨by simp[h1],fun u hu=>?_,fun hbt _=>?_⟩
     ·rcases qAh.1 hu with rfl|hu
      ·exact htop
      ·exact h2 u hu
     ·subst hbt;show(fQ ty).isSome=true;unfold pU at hb;cases he:fQ ty with
      |none=>rw[he]at hb;cases hb
      |some e=>rfl
mutual
theorem KV{env:Env}:∀(t:Tm) (sc:List Decl) (e:Int) (p:List Int),jP env sc t=.er e p→e≠0
 | .mk op nm m u ks,sc,e,p,h=>by
  simp only[jP]at h;cases h20:(op==20)with
  |true=>
   rw[h20]at h;simp only[cond_true]at h;cases hl:Cn env sc nm with
   |none=>rw[hl]at h;cases h;decide
   |some t=>rw[hl]at h;cases h
  |false=>
   rw[h20]at h;simp only[cond_false]at h;cases h29:(op==29&&!(knows env u))with
   |true=>rw[h29]at h;cases h;decide
   |false=>
    rw[h29]at h;simp only[cond_false]at h;cases hk:jh env sc (bf op) nm 0 ks with
    |er e' p'=>rw[hk]at h;cases h;exact af5 ks sc _ nm 0 _ _ hk
    |ok l=>rw[hk]at h;exact(afR h).1
theorem af5{env:Env}:∀(ts:List Tm) (sc:List Decl) (b:Bool) (nm:Str) (i:Int) (e:Int) (p:List Int),jh env sc b nm i ts=.er e p→e≠0
 |[],sc,b,nm,i,e,p,h=>by simp only[jh]at h;cases h
 |t::ts,sc,b,nm,i,e,p,h=>by
  simp only[jh]at h;cases ht:jP env sc t with
  |er e' p'=>rw[ht]at h;cases h;exact KV t sc _ _ ht
  |ok ty=>
   rw[ht]at h;simp only at h;cases hb:pU b nm ty sc with
   |none=>rw[hb]at h;cases h;decide
   |some sc'=>
    rw[hb]at h;simp only at h;cases hr:jh env sc' false nm (i+1) ts with
    |er e' p'=>rw[hr]at h;cases h;exact af5 ts sc' false nm _ _ _ hr
    |ok l'=>rw[hr]at h;cases h
end
mutual
theorem QE{env:Env}:∀{t:Tm} {d:Int} (_:Wf d t) (sc:List Decl) (e:Int) (p:List Int),jP env sc t=.er e p→(p.length:Int)+d≤64
 | .mk op nm m u ks,d,hw,sc,e,p,h=>by
  obtain⟨_,hd,_,hkw⟩:=hw.node;simp only[jP]at h;cases h20:(op==20)with
  |true=>
   rw[h20]at h;simp only[cond_true]at h;cases hl:Cn env sc nm with
   |none=>rw[hl]at h;cases h;simpa using hd
   |some t=>rw[hl]at h;cases h
  |false=>
   rw[h20]at h;simp only[cond_false]at h;cases h29:(op==29&&!(knows env u))with
   |true=>rw[h29]at h;cases h;simpa using hd
   |false=>
    rw[h29]at h;simp only[cond_false]at h;cases hk:jh env sc (bf op) nm 0 ks with
    |er e' p'=>rw[hk]at h;cases h;exact aaF ks d hd hkw sc _ nm 0 _ _ hk
    |ok l=>rw[hk]at h;rw[(afR h).2];simpa using hd
theorem aaF{env:Env}:∀(ts:List Tm) (d:Int) (_:d≤64) (_:∀t∈ts,Wf (d+1) t) (sc:List Decl) (b:Bool) (nm:Str) (i:Int) (e:Int) (p:List Int),jh env sc b nm i ts=.er e p→(p.length:Int)+d≤64
 |[],d,_,_,sc,b,nm,i,e,p,h=>by simp only[jh]at h;cases h
 |t::ts,d,hd,hw,sc,b,nm,i,e,p,h=>by
  simp only[jh]at h;cases ht:jP env sc t with
  |er e' p'=>
   rw[ht]at h;cases h;have:=QE (hw t (qBv ..)) sc _ _ ht;simp only[qAu,qCL,qCM];omega
  |ok ty=>
   rw[ht]at h;simp only at h;cases hb:pU b nm ty sc with
   |none=>rw[hb]at h;cases h;simpa using hd
   |some sc'=>
    rw[hb]at h;simp only at h;cases hr:jh env sc' false nm (i+1) ts with
    |er e' p'=>rw[hr]at h;cases h;exact aaF ts d hd (fun u hu=>hw u (qAk _ hu)) sc' false nm _ _ _ hr
    |ok l'=>rw[hr]at h;cases h
end
def vQ(env:Env):List (Str×Ty):=dU (xG env) []
def rU(env:Env):List (Str×Bool):=dU (env.carriers.map fun c=>(c.name,true)) []
theorem aep{env:Env}(h:aU env=true)(s:Str):dI (vQ env) s=look env s:=by
 unfold vQ;rw[Rj _ _ _ (vG h),JM];unfold look;rw[←Xy (XM env) (vG h)]
 grind
theorem afB{env:Env}(h:aU env=true)(s:Str):dI (rU env) s=cond (dZ env s) (some true) none:=by
 unfold rU;have hn:((env.carriers.map fun c=>(c.name,true)).map (·.1)).Nodup:=by
  have:=(fu h).2.2.2.2;unfold names2 at this
  grind
 rw[Rj _ _ _ hn,JM,JY (fun c:Carrier=>c.name) (fun _=>true)];unfold dZ;cases hf:env.carriers.find? (fun c=>c.name==s)with
 |none=>
  grind
 |some c=>
  grind
theorem abN{env:Env}(h:aU env=true):Ev (fun n=>xk n env) (vQ env,rU env):=by
 obtain⟨hc8,_⟩:=fu h;refine Ev.bind (akp h) ?_;have h1:=lX (ρ:=(List (Str×Ty))×(List (Str×Bool))) env.carriers (fun n k i s=>Ad n env k (i,s)) (fun n x s=>qZ s x.name true) (fun x s=>jd s x.name true) (fun s=>s) (fun suf s=>s.length+suf.length≤1000)
  (fun n k i s=>rfl)
  (fun x suf s hx hs=>by
   simp at hs;refine⟨?_,?_⟩
   ·rw[F3 (by omega)];exact Ev.ret _
   ·have:=yu s x.name true;omega) (s0:=[]) (by simp;omega)
 have hf:∀(cs:List Carrier) (m:List (Str×Bool)),cs.foldl (fun s x=>jd s x.name true) m=dU (cs.map fun c=>(c.name,true)) m:=by
  intro cs
  induction cs with
  |nil=>intro m;rfl
  |cons e es ih=>intro m;rw[qBg,ih];rfl
 rw[hf]at h1;exact Ev.bind h1 (Ev.ret _)
theorem alM{env:Env}(h:aU env=true){t:Ty}(ht:dL t=true)(M:List (Str×Ty))(path:List Int):Ev (fun n=>mK n M (rU env) path t) (knows env t):=by
 refine Ev.bind (DU ht) ?_;generalize hl:((dU ((fq t).map fun s=>(s,true)) []).map (·.1)).mergeSort QU=l;have hm:∀s,s∈l↔s∈fq t:=fun s=>by rw[←hl];exact Rb t s
 have hf:=rP l (fun n k i=>pK n l M (rU env) path k i) (fun n x=>kV n x M (rU env) path) (fun s=>!(dZ env s)) (fun n k i=>rfl) (fun x _=>by
  unfold kV;rw[afB h];cases dZ env x
  ·exact Ev.ret _
  ·exact Ev.ret _)
 refine Ev.bind (a:=l.any fun s=>!(dZ env s)) (Ev.bind hf ?_) ?_
 ·rw[rQ _ _ _ (qBB _)];exact Ev.ret _
 ·rw[mQ,qCt];have:l.all (dZ env)=(fq t).all (dZ env):=by
   grind
  rw[this];exact Ev.ret _
theorem VT(n:Nat)(op:Int):sS n op=some (bf op):=by
 unfold sS bf
 grind
theorem WG(t:Ty):Ev (fun n=>mU n t) (cond (dL t) (t,0) (eO,5)):=by
 refine Ev.bind (j3 t) ?_;cases dL t
 ·exact Ev.ret _
 ·exact Ev.ret _
def scP(o:Option Decl):Ty×Bool:=match o with|some d=>(d.ty,true)|none=>(eO,false)
theorem YH(sc:List Decl)(s:Str):Ev (fun n=>nL n sc s) (scP (sc.find? fun d=>d.name==s)):=by
 have key:∀(sc:List Decl) (n k:Nat),sc.length+1≤k→kU n s k sc=some (match sc.find? (fun d=>d.name==s)with|some d=>.rt (d.ty,true)|none=>.nx ()):=by
  intro sc
  induction sc with
  |nil=>
   intro n k hk;cases k with
   |zero=>simp at hk
   |succ k=>rfl
  |cons d sc ih=>
   intro n k hk;cases k with
   |zero=>simp at hk
   |succ k=>
    show cond (d.name==s) (some (.rt (d.ty,true))) (kU n s k sc)=_
    grind
 have h1:Ev (fun n=>kU n s n sc) (match sc.find? (fun d=>d.name==s)with|some d=>.rt (d.ty,true)|none=>.nx ()):=⟨sc.length+1,fun n hn=>key sc n n hn⟩;refine Ev.bind h1 ?_;cases sc.find? fun d=>d.name==s
 ·exact Ev.ret _
 ·exact Ev.ret _
def Ku(path:List Int)(r:TR):Ty×Int×List Int:=match r with| .ok t=>(t,0,path)| .er e p=>(eO,e,path++p)
abbrev CS:=List Decl×List Ty×List Int
def asb(env:Env)(n:Nat)(t:Tm)(i:Int)(s:CS):Option (LR CS (Ty×Int×List Int)):=(gH n (vQ env) (rU env) s.2.2 t i s.1).bind fun(x57:Ty×Int×(List Int))=>(cond (x57.2.1 !=0) (some (.rt ((Ty.mk 0 ([]:Str) ([])),x57.2.1,x57.2.2))) ((app 48 s.2.1 ([x57.1])).bind fun(x58:List Ty)=>(((cond (i==0) ((sS n t.op).bind fun(x60:Bool)=>some x60) (some false)):Option Bool).bind fun(s6:Bool)=>(cond s6 ((bI n x57.1).bind fun(x59:Ty×Bool)=>(cond (!x59.2) (some (.rt ((Ty.mk 0 ([]:Str) ([])),7,x57.2.2))) (some (.nx (((Decl.mk t.name x59.1)::s.1),x58,x57.2.2))))) (some (.nx (s.1,x58,x57.2.2)))))))
def stC(env:Env)(op:Int)(nm:Str)(i:Int)(x:Tm)(s:CS):LR CS (Ty×Int×List Int):=match jP env s.1 x with
 | .er e p=>.rt (eO,e,s.2.2++i::p)
 | .ok ty=>match pU (i==0&&bf op) nm ty s.1 with
  |none=>.rt (eO,7,s.2.2)
  |some sc'=>.nx (sc',s.2.1++[ty],s.2.2)
theorem afL(env:Env)(op:Int)(nm:Str):∀(ts:List Tm) (i:Int) (sc:List Decl) (acc:List Ty) (path:List Int),0≤i→(match jh env sc (i==0&&bf op) nm i ts with
  | .er e p=>gL (stC env op nm) (fun s=>s) i ts (sc,acc,path)=.rt (eO,e,path++p)
  | .ok l=>∃sc',gL (stC env op nm) (fun s=>s) i ts (sc,acc,path)=.nx (sc',acc++l,path))
 |[],i,sc,acc,path,_=>by
  simp only[jh,gL,qAs];exact⟨sc,rfl⟩
 |t::ts,i,sc,acc,path,hi=>by
  simp only[jh,gL,stC];cases ht:jP env sc t with
  |er e p=>rfl
  |ok ty=>
   simp only;cases hb:pU (i==0&&bf op) nm ty sc with
   |none=>simp
   |some sc'=>
    simp only;have hz:(i+1==0)=false:=by simp only[beq_eq_false_iff_ne];omega
    have:=afL env op nm ts (i+1) sc' (acc++[ty]) path (by omega);rw[hz,qBh]at this;cases hr:jh env sc' false nm (i+1) ts with
    |er e p=>rw[hr]at this;exact this
    |ok l=>
     rw[hr]at this;obtain⟨sc2,h2⟩:=this;exact⟨sc2,by rw[h2];simp⟩
def ajx(env:Env)(t:Tm):Prop:=∀(d:Int) (sc:List Decl) (path:List Int),Wf d t→GoodS sc→(path.length:Int)<d→Ev (fun n=>iR n (vQ env) (rU env) path t sc) (Ku path (jP env sc t))
theorem aki(path:List Int)(i:Int)(h:path.length≤1000):((ZP (path++[i]).length (((path++[i]).length:Int) - 1)).bind fun(c:Nat)=>bif Nat.ble c (path++[i]).length then some (List.take c (path++[i]))else none)=some path:=by
 have e:((path++[i]).length:Int) - 1=(path.length:Int):=by simp
 have h2:Nat.ble path.length (path++[i]).length=true:=qCH (by simp);rw[e,ZP,if_pos ⟨by omega,by simp;omega⟩]
 grind
theorem alP{env:Env}{t x:Tm}{i:Int}(hx:idx t.kids i=some x)(hc:ajx env x){d:Int}{sc:List Decl}{path:List Int}(hw:Wf (d+1) x)(hs:GoodS sc)(hp:(path.length:Int)<d)(hd:d≤64):
  Ev (fun n=>gH n (vQ env) (rU env) path t i sc) (match jP env sc x with| .ok ty=>(ty,0,path)| .er e p=>(eO,e,path++i::p)):=by
 refine Ev.succ ?_;show Ev (fun n=>mJ n _ _ (vQ env) (rU env) path t i sc) _;unfold mJ;rw[iZ (by simp;omega) (by omega),hx];simp;refine Ev.bind (hc (d+1) sc (path++[i]) hw hs (by simp;omega)) ?_;cases ht:jP env sc x with
 |ok ty=>
  simp only[Ku];rw[aki path i (by omega)];exact Ev.ret _
 |er e p=>
  have he:=KV x sc e p ht;have e0:(e==0)=false:=by simpa using he
  simp only[Ku,e0,qAo];exact Ev.ret _
theorem alI(n:Nat)(r1:(List (Str×Ty))→(List (Str×Bool))→(List Int)→Tm→(List Decl)→Option (Ty×Int×(List Int)))(r2:(List (Str×Ty))→(List (Str×Bool))→(List Int)→Tm→Int→(List Decl)→Option (Ty×Int×(List Int)))(p0:List (Str×Ty))(p1:List (Str×Bool))(p2:List Int)(p3:Tm)(p4:List Decl):
  oW n r1 r2 p0 p1 p2 p3 p4=((qY n r1 r2 p0 p1 p3 n (p4,([]:List Ty),0,p2)).bind (LR.el (fun(s2:(List Decl)×(List Ty)×(List Int))=>(cond (p3.op==20) ((nL n s2.1 p3.name).bind fun(x1:Ty×Bool)=>(cond x1.2 (some (x1.1,0,s2.2.2)) (((Ux (dI p0 p3.name) (some (false,0,([]:Str),([]:List Ty))) (fun(x2:Ty)=>some (true,x2.kind,x2.name,x2.kids))):Option (Bool×Int×Str×(List Ty))).bind fun(s3:Bool×Int×Str×(List Ty))=>(cond (!s3.1) (some ((Ty.mk 0 ([]:Str) ([])),6,s2.2.2)) (some ((Ty.mk s3.2.1 s3.2.2.1 s3.2.2.2),0,s2.2.2)))))) (cond (p3.op==29) ((mK n p0 p1 s2.2.2 p3.ty).bind fun(x3:Bool)=>(cond (!x3) (some ((Ty.mk 0 ([]:Str) ([])),6,s2.2.2)) ((mU n (Ty.mk 5 ([]:Str) ([p3.ty]))).bind fun(x4:Ty×Int)=>some (x4.1,x4.2,s2.2.2)))) ((acA n p3.op s2.2.1).bind fun(s4:Bool×Int×Str×(List Ty))=>(cond (!s4.1) (some ((Ty.mk 0 ([]:Str) ([])),7,s2.2.2)) ((mU n (Ty.mk s4.2.1 s4.2.2.1 s4.2.2.2)).bind fun(x5:Ty×Int)=>some (x5.1,x5.2,s2.2.2))))))) (fun r=>some r))):=rfl
theorem aoK{env:Env}(hv:aU env=true):∀t:Tm,ajx env t:=Tm.ind fun op nm m ty ks ih d sc path hw hs hp=>by
 obtain⟨hnode,hd,hks,hkw⟩:=hw.node;obtain⟨hop,h20k,h29k,hlen,hbk⟩:=aaJ hnode;refine Ev.succ ?_;show Ev (fun n=>oW n (iR n) (gH n) (vQ env) (rU env) path (.mk op nm m ty ks) sc) _;simp only[alI];have hloop:=al7 ks (fun n k i (s:CS)=>qY n (iR n) (gH n) (vQ env) (rU env) (.mk op nm m ty ks) k (s.1,s.2.1,i,s.2.2))
  (fun n i _ s=>asb env n (.mk op nm m ty ks) i s) (stC env op nm) (fun s=>s) (fun _ suf s=>GoodS s.1∧s.2.1.length+suf.length≤2000∧s.2.2=path)
  (fun n k s=>by
   show cond (decide ((ks.length:Int)<(ks.length:Int))) _ _=_;rw[decide_eq_false (by omega)];rfl)
  (fun n k i x s hx hi=>by
   show cond (decide (i<(ks.length:Int))) _ _=_;rw[hi];rfl)
  (fun i x suf s hx hI hidx=>by
   obtain⟨h1,h2,h3⟩:=hI;simp only[qAu]at h2;have hch:=alP (t:=.mk op nm m ty ks) (i:=i) hidx (ih x hx) (hkw x hx) h1 (path:=s.2.2) (by rw[h3];exact hp) hd;refine⟨?_,fun s' hs'=>?_⟩
   ·refine Ev.bind hch ?_;unfold stC;cases ht:jP env s.1 x with
    |er e p=>
     have he:=KV x s.1 e p ht;have e0:(e !=0)=true:=by simpa using he
     simp only[e0,cond_true];exact Ev.ret _
    |ok u=>
     have htop:=A8 hv h1 ht;simp only[show((0:Int)!=0)=false from rfl,cond_false];rw[iZ (by simp;omega) (by omega)];simp only[qAb,VT,Tm.op,Tm.name];refine Ev.bind (a:=(i==0&&bf op)) ?_ ?_
     ·cases i==0
      ·exact Ev.ret _
      ·exact Ev.ret _
     ·unfold pU;cases(i==0&&bf op)with
      |false=>exact Ev.ret _
      |true=>
       simp only[cond_true,P8 _ htop,qAb];cases fQ u with
       |none=>exact Ev.ret _
       |some e=>exact Ev.ret _
   ·unfold stC at hs';cases ht:jP env s.1 x with
    |er e p=>rw[ht]at hs';cases hs'
    |ok u=>
     rw[ht]at hs';simp only at hs';cases hb:pU (i==0&&bf op) nm u s.1 with
     |none=>rw[hb]at hs';cases hs'
     |some sc'=>
      rw[hb]at hs';cases hs';refine⟨EW (A8 hv h1 ht) h1 hb,?_,h3⟩;simp only[qAg,qAM];omega) (s0:=(sc,[],path)) ⟨hs,by simp;omega,rfl⟩
 have hrun:=afL env op nm ks 0 sc [] path (qBB _);simp only[show((0:Int)==0)=true from rfl,qAy,qAz]at hrun;simp only[jP];cases h20:(op==20)with
 |true=>
  have e:op=20:=by simpa using h20
  have hk:=h20k e;subst hk;refine Ev.bind hloop ?_;simp only[gL,LR.el,Tm.op,Tm.name,h20,cond_true];refine Ev.bind (YH sc nm) ?_;unfold Cn;cases sc.find? (fun d=>d.name==nm)with
  |some d=>exact Ev.ret _
  |none=>
   simp only[scP,cond_false,cond_true,Tm.name,aep hv];cases hl:look env nm with
   |none=>simp only[Ku,qAs];exact Ev.ret _
   |some t=>obtain⟨a,b,c⟩:=t;exact Ev.ret _
 |false=>
  simp only[cond_false];cases h29:(op==29)with
  |true=>
   have e:op=29:=by simpa using h29
   obtain⟨hk,hvt,_⟩:=h29k e;subst hk;refine Ev.bind hloop ?_;simp only[Tm.op,h20,h29,cond_false,cond_true,Tm.ty];refine Ev.bind (alM hv hvt _ _) ?_;cases knows env ty with
   |false=>simp only[qBc,qBq,cond_true,Ku,qAs];exact Ev.ret _
   |true=>
    simp only[qAt,qBD,cond_false,jh,J8];refine Ev.bind (WG (bP ty)) ?_;cases dL (bP ty)with
    |false=>simp only[cond_false,Ku,qAs];exact Ev.ret _
    |true=>exact Ev.ret _
  |false=>
   simp only[qBh,cond_false];cases hk:jh env sc (bf op) nm 0 ks with
   |er e p=>
    rw[hk]at hrun;simp only at hrun;rw[hrun]at hloop;exact Ev.bind hloop (Ev.ret _)
   |ok l=>
    rw[hk]at hrun;obtain⟨sc',hrun⟩:=hrun;rw[hrun]at hloop;refine Ev.bind hloop ?_;simp only[LR.el,Tm.op,h20,h29,cond_false];obtain⟨k1,k2,k3⟩:=aah hv ks sc (bf op) nm 0 l hs hk;obtain⟨r,hr1,hr2⟩:=ajj hop.1 hop.2 (by simpa using h20) (by simpa using h29) k2 (hlen l k1) (fun hb=>k3 hb (by obtain⟨x,y,e⟩:=hbk hb;rw[e];simp));refine Ev.bind hr1 ?_;cases ho:rD op l with
    |none=>
     rw[ho]at hr2;simp only at hr2;simp only[hr2,qBc,cond_true,J8,Ku,qAs];exact Ev.ret _
    |some t=>
     rw[ho]at hr2;simp only at hr2;subst hr2;simp only[qAt,cond_false,apL,J8];refine Ev.bind (WG t) ?_;cases dL t with
     |false=>simp only[cond_false,Ku,qAs];exact Ev.ret _
     |true=>exact Ev.ret _
theorem ag1(env:Env)(sc:List Decl)(s:Str)(hsc:(sc.length:Int)≤100):Ev (fun n=>zZ n env sc.reverse s) (match Cn env sc s with|some t=>(t,true)|none=>(eO,false)):=by
 have key:∀(sc post:List Decl) (n k:Nat),sc.length+1≤k→(sc.length:Int)≤100→sP n (sc.reverse++post) s k ((sc.length:Int) - 1)=some (match sc.find? (fun d=>d.name==s)with|some d=>.rt (d.ty,true)|none=>.nx ()):=by
  intro sc
  induction sc with
  |nil=>
   intro post n k hk _;cases k with
   |zero=>simp at hk
   |succ k=>rfl
  |cons d sc ih=>
   intro post n k hk hl;cases k with
   |zero=>simp at hk
   |succ k=>
    have e:(((d::sc).length:Int) - 1)=(sc.reverse.length:Int):=by simp
    have e2:(d::sc).reverse++post=sc.reverse++d::post:=by simp
    rw[e,e2];show Bz n (sc.reverse++d::post) s (sP n (sc.reverse++d::post) s k) (sc.reverse.length:Int)=_;unfold Bz;rw[decide_eq_true (by omega),xR];simp only[cond_true,qAb,qCf];cases hd:d.name==s with
    |true=>rfl
    |false=>
     simp only[cond_false];have:=ih (d::post) n k (by simp at hk;omega) (by simp at hl;omega);rw[qBH,wrap64 (by omega) (by simp at hl;omega)];exact this
 unfold zZ;have h1:Ev (fun n=>sP n sc.reverse s n ((sc.reverse.length:Int) - 1)) (match sc.find? (fun d=>d.name==s)with|some d=>.rt (d.ty,true)|none=>.nx ()):=⟨sc.length+1,fun n hn=>by
  have:=key sc [] n n hn hsc;rw[qAs]at this;rw[qBH];exact this⟩
 refine Ev.bind h1 ?_;unfold Cn;cases sc.find? (fun d=>d.name==s)with
 |some d=>exact Ev.ret _
 |none=>exact L8 env s
def Y1(r:TR):Ty×List Int×Int:=match r with| .ok t=>(t,[],0)| .er e p=>(eO,p,e)
def aqG(env:Env)(t:Tm):Prop:=∀(d:Int) (sc:List Decl),Wf d t→GoodS sc→(sc.length:Int)<d→Ev (fun n=>uQ n env sc.reverse t) (Y1 (jP env sc t))
def Wx(op:Int)(nm:Str)(sc:List Decl)(i:Int)(l:List Ty):Option (List Decl):=pU (bf op&&i==1) nm (l.headD eO) sc
def stR(env:Env)(op:Int)(nm:Str)(sc:List Decl)(i:Int)(x:Tm)(l:List Ty):LR (List Ty) (Ty×List Int×Int):=match Wx op nm sc i l with
 |none=>.rt (eO,[],7)
 |some sc'=>match jP env sc' x with
  | .er e p=>.rt (eO,i::p,e)
  | .ok ty=>.nx (l++[ty])
def Zm(acc:List Ty)(r:KR):LR (List Ty) (Ty×List Int×Int):=match r with| .ok l=>.nx (acc++l)| .er e p=>.rt (eO,p,e)
theorem aeK(env:Env)(op:Int)(hb:bf op=false)(nm:Str)(sc:List Decl):∀(ts:List Tm) (i:Int) (acc:List Ty),gL (stR env op nm sc) (fun s=>s) i ts acc=Zm acc (jh env sc false nm i ts)
 |[],i,acc=>by simp[gL,jh,Zm]
 |t::ts,i,acc=>by
  simp only[gL,stR,Wx,hb,qBh,jh];simp only[pU,cond_false];cases jP env sc t with
  |er e p=>rfl
  |ok ty=>
   simp only;rw[aeK env op hb nm sc ts (i+1) (acc++[ty])];cases jh env sc false nm (i+1) ts with
   |er e p=>rfl
   |ok l=>simp[Zm]
theorem alq(env:Env)(op:Int)(hb:bf op=true)(nm:Str)(sc:List Decl)(x y:Tm):gL (stR env op nm sc) (fun s=>s) 0 [x,y] []=Zm [] (jh env sc true nm 0 [x,y]):=by
 simp only[gL,stR,Wx,hb,qAy,jh];simp only[show((0:Int)==1)=false from rfl,show((0:Int)+1==1)=true from rfl];simp only[pU,cond_false,cond_true];cases jP env sc x with
 |er e p=>rfl
 |ok ty=>
  simp only[qAz,List.headD_cons];cases(fQ ty).map fun e=>(⟨nm,e⟩::sc:List Decl)with
  |none=>rfl
  |some sc'=>
   simp only;cases jP env sc' y with
   |er e p=>rfl
   |ok u=>rfl
theorem aqQ{env:Env}(hv:aU env=true):∀t:Tm,aqG env t:=Tm.ind fun op nm m ty ks ih d sc hw hs hp=>by
 obtain⟨hnode,hd,hks,hkw⟩:=hw.node;obtain⟨hop,h20k,h29k,hlen,hbk⟩:=aaJ hnode;refine Ev.succ ?_;show Ev (fun n=>Bo n (uQ n) env sc.reverse (.mk op nm m ty ks)) _;unfold Bo;simp only[Tm.op,Tm.name,Tm.ty,jP];cases h20:(op==20)with
 |true=>
  simp only[cond_true];refine Ev.bind (ag1 env sc nm (by omega)) ?_;cases Cn env sc nm with
  |none=>exact Ev.ret _
  |some t=>exact Ev.ret _
 |false=>
  simp only[cond_false];refine Ev.bind (a:=(op==29&&!(knows env ty))) ?_ ?_
  ·cases h29:(op==29)with
   |true=>
    obtain⟨_,hvt,_⟩:=h29k (by simpa using h29);exact Ev.bind (adO env hvt) (Ev.ret _)
   |false=>exact Ev.ret _
  cases(op==29&&!(knows env ty))with
  |true=>exact Ev.ret _
  |false=>
   simp only[cond_false];have hloop:=al7 ks (fun n k i (s:List Ty)=>Qo n (uQ n) env sc.reverse (.mk op nm m ty ks) k (s,i))
    (fun n i x s=>(((((nZ n op).bind fun(x14:Bool)=>(cond x14 (some (i==1)) (some false))):Option Bool).bind fun(s5:Bool)=>(cond s5 ((idx s 0).bind fun(x8:Ty)=>((jf n x8).bind fun(x9:Bool)=>(cond (!x9) (some (.rt ((Ty.mk 0 ([]:Str) ([])),([]:List Int),7))) ((app 64 ([]:List Decl) sc.reverse).bind fun(x10:List Decl)=>((idx s 0).bind fun(x11:Ty)=>((idx x11.kids 0).bind fun(x12:Ty)=>((app 64 x10 ([(Decl.mk nm x12)])).bind fun(x13:List Decl)=>some (.nx x13)))))))) (some (.nx sc.reverse)))):Option (LR (List Decl) (Ty×(List Int)×Int))).bind (LR.el (fun(s4:List Decl)=>((uQ n env s4 x).bind fun(x5:Ty×(List Int)×Int)=>(cond (x5.2.2 !=0) ((app 8 ([i]) x5.2.1).bind fun(x6:List Int)=>some (.rt ((Ty.mk 0 ([]:Str) ([])),x6,x5.2.2))) ((app 48 s ([x5.1])).bind fun(x7:List Ty)=>some (.nx x7))))) (fun r=>some (.rt r))))
    (stR env op nm sc) (fun s=>s) (fun i suf s=>(∀t∈s,Top t)∧s.length+suf.length≤2000∧(s.length:Int)=i)
    (fun n k s=>by
     show cond (decide ((ks.length:Int)<(ks.length:Int))) _ _=_;rw[decide_eq_false (by omega)];rfl)
    (fun n k i x s hx hi=>by
     show cond (decide (i<(ks.length:Int))) _ _=_;rw[hi];simp only[cond_true,Tm.op,Tm.name,Tm.kids,hx,qAb]
     conv=>rhs;rw[qAU]
     congr 1;funext r;cases r with
     |rt r=>rfl
     |nx s4=>
      simp only[LR.el]
      conv=>rhs;rw[qAU]
      congr 1;funext x5;cases x5.2.2 !=0 with
      |true=>
       simp only[cond_true,qAU];rfl
      |false=>
       simp only[cond_false,qAU];rfl)
    (fun i x suf s hx hI hidx=>by
     obtain⟨h1,h2,h3⟩:=hI;simp only[qAu]at h2;refine⟨?_,fun s' hs'=>?_⟩
     ·have hsc:Ev (fun n=>((((nZ n op).bind fun(x14:Bool)=>(cond x14 (some (i==1)) (some false))):Option Bool).bind fun(s5:Bool)=>(cond s5 ((idx s 0).bind fun(x8:Ty)=>((jf n x8).bind fun(x9:Bool)=>(cond (!x9) (some (.rt ((Ty.mk 0 ([]:Str) ([])),([]:List Int),7))) ((app 64 ([]:List Decl) sc.reverse).bind fun(x10:List Decl)=>((idx s 0).bind fun(x11:Ty)=>((idx x11.kids 0).bind fun(x12:Ty)=>((app 64 x10 ([(Decl.mk nm x12)])).bind fun(x13:List Decl)=>some (.nx x13)))))))) (some (.nx sc.reverse)))))
        ((match Wx op nm sc i s with|none=>.rt (eO,[],7)|some sc'=>.nx sc'.reverse:LR (List Decl) (Ty×(List Int)×Int))):=by
       simp only[RP,qAb];refine Ev.bind (a:=bf op&&i==1) ?_ ?_
       ·cases bf op
        ·exact Ev.ret _
        ·exact Ev.ret _
       ·unfold Wx pU;cases hbi:(bf op&&i==1)with
        |false=>exact Ev.ret _
        |true=>
         simp only[qAa,beq_iff_eq]at hbi;obtain⟨a,l,rfl⟩:=La s (by rintro rfl;rw[hbi.2]at h3;simp at h3);have ha:=h1 a (by simp);simp only[cond_true,ahJ,qAb,alK _ ha,List.headD_cons];cases he:fQ a with
         |none=>exact Ev.ret _
         |some e=>
          obtain⟨_,rfl⟩:=JW ha he;have hr:sc.reverse.length=sc.length:=qBH;simp only[Option.isSome_some,qAt,cond_false];rw[iZ (by simp;omega) (by omega)];simp only[qAb,qAz];show Ev (fun n=>(app 64 sc.reverse [Decl.mk nm e]).bind _) _;rw[iZ (by simp;omega) (by omega)];simp only[qAb,qAw,List.reverse_cons];exact Ev.ret _
      refine Ev.bind hsc ?_;unfold stR;cases hsR:Wx op nm sc i s with
      |none=>exact Ev.ret _
      |some sc'=>
       simp only[LR.el];have hg:GoodS sc'∧(sc'.length:Int)<d+1:=by
        unfold Wx at hsR;have htop:bf op&&i==1→Top (s.headD eO):=fun hbi=>by
         simp only[qAa,beq_iff_eq]at hbi;obtain⟨a,l,rfl⟩:=La s (by rintro rfl;rw[hbi.2]at h3;simp at h3);exact h1 a (by simp)
        cases hbi:(bf op&&i==1)with
        |false=>rw[hbi]at hsR;cases hsR;exact⟨hs,by omega⟩
        |true=>
         rw[hbi]at hsR;refine⟨EW (htop hbi) hs hsR,?_⟩;unfold pU at hsR;simp only[cond_true]at hsR;cases he:fQ (s.headD eO)with
         |none=>rw[he]at hsR;cases hsR
         |some e=>rw[he]at hsR;cases hsR;simp;omega
       refine Ev.bind (ih x hx (d+1) sc' (hkw x hx) hg.1 hg.2) ?_;cases ht:jP env sc' x with
       |er e p=>
        have he:=KV x sc' e p ht;have e0:(e !=0)=true:=by simpa using he
        have hpl:=QE (hkw x hx) sc' e p ht;simp only[Y1,e0,cond_true];rw[iZ (by simp;omega) (by omega)];exact Ev.ret _
       |ok u=>
        simp only[Y1,show((0:Int)!=0)=false from rfl,cond_false];rw[iZ (by simp;omega) (by omega)];exact Ev.ret _
     ·unfold stR at hs';cases hsR:Wx op nm sc i s with
      |none=>rw[hsR]at hs';cases hs'
      |some sc'=>
       rw[hsR]at hs';simp only at hs';have hg:GoodS sc':=by
        unfold Wx at hsR;cases hbi:(bf op&&i==1)with
        |false=>rw[hbi]at hsR;cases hsR;exact hs
        |true=>
         rw[hbi]at hsR;simp only[qAa,beq_iff_eq]at hbi;obtain⟨a,l,rfl⟩:=La s (by rintro rfl;rw[hbi.2]at h3;simp at h3);exact EW (h1 a (by simp)) hs hsR
       cases ht:jP env sc' x with
       |er e p=>rw[ht]at hs';cases hs'
       |ok u=>
        rw[ht]at hs';cases hs';refine⟨fun t h=>?_,?_,?_⟩
        ·rcases qAA.1 h with h|h
         ·exact h1 t h
         ·rw[qBd.1 h];exact A8 hv hg ht
        ·simp only[qAg,qAM];omega
        ·simp only[qAg,qAM,qCL,qCM];omega) (s0:=[]) ⟨fun t h=>(by cases h),by simp;omega,rfl⟩
   have hrun:gL (stR env op nm sc) (fun s=>s) 0 ks []=Zm [] (jh env sc (bf op) nm 0 ks):=by
    cases hb:bf op with
    |false=>exact aeK env op hb nm sc ks 0 []
    |true=>
     obtain⟨x,y,rfl⟩:=hbk hb;exact alq env op hb nm sc x y
   rw[hrun]at hloop;refine Ev.bind hloop ?_;cases hk:jh env sc (bf op) nm 0 ks with
   |er e p=>exact Ev.ret _
   |ok l=>
    simp only[Zm,LR.el,qAz];obtain⟨k1,k2,k3⟩:=aah hv ks sc (bf op) nm 0 l hs hk;have hrow:Row (fun n=>lY n (.mk op nm m ty ks) l) (cond (op==29) (some (bP ty)) (rD op l)):=by
     cases h29:(op==29)with
     |true=>
      have e:op=29:=by simpa using h29
      subst e;exact Row.yes (bP ty) (Ev.ret _) rfl
     |false=>exact akf hop.1 hop.2 (by simpa using h20) (by simpa using h29) k2 (hlen l k1) nm m ty ks
    obtain⟨r,hr1,hr2⟩:=hrow;refine Ev.bind hr1 ?_;unfold abS at hr2;cases ho:(cond (op==29) (some (bP ty)) (rD op l))with
    |none=>
     rw[ho]at hr2;simp only at hr2;simp only[hr2,qBc,cond_true,J8];exact Ev.ret _
    |some t=>
     rw[ho]at hr2;simp only at hr2;subst hr2;simp only[qAt,cond_false,J8];refine Ev.bind (zP t) ?_;cases dL t with
     |false=>exact Ev.ret _
     |true=>exact Ev.ret _
def vB(env:Env)(t:Tm):Ty×List Int×Int:=cond (aU env&&cu t) (Y1 (jP env [] t)) (eO,[],1)
theorem Ya:GoodS []:=fun _ h=>by cases h
abbrev ajp(env:Env):Prop:=∀d∈env.names,d.name.length≤9223372036854775807
theorem UU(env:Env)(t:Tm)(hs:ajp env)(ht:zk t):Ev (fun n=>xU n env t) (vB env t):=by
 unfold xU vB;refine Ev.bind (a:=!(aU env&&cu t)) ?_ ?_
 ·refine Ev.bind (Dl env hs) ?_;cases aU env with
  |false=>exact Ev.ret _
  |true=>exact Ev.bind (DY t ht) (Ev.ret _)
 ·cases hb:(aU env&&cu t)with
  |false=>exact Ev.ret _
  |true=>
   simp only[qAa]at hb;simp only[qAt,cond_false,cond_true];refine Ev.bind (abN hb.1) ?_;refine Ev.bind (aoK hb.1 t 1 [] [] (Vy hb.2) Ya (by simp)) ?_;cases hr:jP env [] t with
   |er e p=>
    have he:=KV t [] e p hr;have e0:(e !=0)=true:=by simpa using he
    have hp:=QE (Vy hb.2) [] e p hr;simp only[Ku,Y1,e0,cond_true,slices_Clone_int,qAz];rw[iZ (by simp;omega) (by omega)];exact Ev.ret _
   |ok u=>
    simp only[Ku,Y1,show((0:Int)!=0)=false from rfl,cond_false];exact Ev.bind (afw u (aiH (A8 hb.1 Ya hr))) (Ev.ret _)
theorem aeu(env:Env)(t:Tm):Ev (fun n=>JL n env t) (vB env t):=by
 unfold JL vB;refine Ev.bind (a:=!(aU env&&cu t)) ?_ ?_
 ·refine Ev.bind (LM env) ?_;cases aU env with
  |false=>exact Ev.ret _
  |true=>exact Ev.bind (xE t) (Ev.ret _)
 ·cases hb:(aU env&&cu t)with
  |false=>exact Ev.ret _
  |true=>
   simp only[qAa]at hb;simp only[qAt,cond_false,cond_true];refine Ev.bind (aqQ hb.1 t 1 [] (Vy hb.2) Ya (by simp)) ?_;cases hr:jP env [] t with
   |er e p=>exact Ev.bind (Ud eO rfl) (Ev.ret _)
   |ok u=>exact Ev.bind (Ud u (aiH (A8 hb.1 Ya hr))) (Ev.ret _)
def rC(env:Env)(t:Tm):Int:=cond ((vB env t).2.2==0&&(vB env t).1.kind !=2) 7 (vB env t).2.2
theorem ame(r:Ty×List Int×Int):Ev (fun _=>((cond (r.2.2==0) (some (r.1.kind !=2)) (some false)):Option Bool).bind fun(s1:Bool)=>(cond s1 (some (7:Int)) (some r.2.2))) (cond (r.2.2==0&&r.1.kind !=2) 7 r.2.2):=by
 cases r.2.2==0 with
 |false=>exact Ev.ret _
 |true=>
  cases r.1.kind !=2
  ·exact Ev.ret _
  ·exact Ev.ret _
theorem Pt(env:Env)(t:Tm)(hs:ajp env)(ht:zk t):Ev (fun n=>ni n env t) (rC env t):=by
 unfold ni;exact Ev.bind (UU env t hs ht) (ame _)
theorem Je(env:Env)(t:Tm):Ev (fun n=>qp n env t) (rC env t):=by
 unfold qp;exact Ev.bind (aeu env t) (ame _)
end Abs
end Go.Proofs.YtbijdmihdagfaaaGreatDoor
