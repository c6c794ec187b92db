/- Operations on typed values. Conditions: none. -/
import Derived.Lib.Bytealg
import Derived.Test.YtneeginmfjageaaGreatCAbs24oxb88401
set_option linter.all false
namespace Go.Proofs.YtneeginmfjageaaGreat
namespace Abs
noncomputable section
def ET.seg:(e:ET)->e.D->TV
 | .i,x=>.lf (.n .i64) x| .u,x=>.lf (.n .u8) x| .s,x=>.lf .s x| .b,x=>.lf .b x
 | .car,x=>.lf (.t .car) x| .dec,x=>.lf (.t .dec) x| .ty,x=>.lf (.t .ty) x| .tm,x=>.lf (.t .tm) x| .env,x=>.lf (.t .env) x| .val,x=>.lf (.t .val) x
 | .bnd,x=>.lf (.t .bnd) x| .vals,x=>.lf (.l .val) x| .tms,x=>.lf (.l .tm) x
def comps(e:ET)(x:e.D):As:=(fF e.cs (e.un x)).map λu=>.lf u.t u.x
def width:TV->Nat| .lf (.t e) _=>e.sz|_=>1
def widths:As->Nat|[]=>0|v::s=>width v+widths s
def scB(H:A0):TV->Bool
 | .unk=>false
 | .agg _=>false
 | .tup _=>false
 | .lf (.m _) _=>false
 | .own l=>match nth .dead H l with
  | .own _ _=>true
  | .gone _ _=>true
  |_=>false
 | .psl l _ none=>match nth .dead H l with
  | .arr _ _=>true
  | .gon _=>true
  |_=>false
 |_=>true
def ai6(H:A0):As->Bool|[]=>true|v::s=>scB H v&&ai6 H s
section
variable {γ:Type}
def splitK:Nat->As->Nat->(As->As->Option γ)->Option γ|0,_,_,_=>none|f+1,s,n,K=>match n with|0=>K [] s|m+1=>match s with|[]=>none|c::r=>bif Nat.ble (width c) (m+1)then splitK f r (m+1 - width c) λa b=>K (c::a) b else match c with| .lf (.t e) x=>splitK f (comps e x++r) (m+1) K|_=>none
def vS(cs:As)(off:Nat)(new:As)(K:As->Option γ):Option γ:=splitK 99 cs off λa b=>splitK 99 b (widths new) λ_ r=>K (a++(new++r))
def apu:Nat->As->(TV->Option γ)->Option γ|0,_,_=>none|f+1,s,K=>match s with|[]=>none|c::_=>match c with| .lf (.t e) x=>apu f (comps e x) K|v=>K v
def ady:As->TV|[.lf (.t e) x]=>.lf (.t e) x|cs=>.agg cs
def ldK(τ:Nat->TI)(t:TypeId)(off:Nat)(cs:As)(K:TV->Option γ):Option γ:=
 match(τ t).agg with
 |some true=>match(τ t).size with
  |some n=>splitK 60 cs off λ_ b=>splitK 60 b n λc _=>K (ady c)
  |none=>none
 |some false=>splitK 60 cs off λ_ b=>apu 60 b K
 |none=>none
def F9(H:A0):TV->Option As
 | .agg c=>some c
 | .unk=>none
 | .tup _=>none
 | .lf (.m _) _=>none
 | .nat n=>some [.lf (.n .i64) (n:Int)]
 | .own l=>match nth .dead H l with
  | .own _ _=>some [.own l]
  | .gone _ _=>some [.own l]
  |_=>none
 | .psl l z none=>match nth .dead H l with
  | .arr _ _=>some [.psl l z none]
  | .gon _=>some [.psl l z none]
  |_=>none
 |v=>some [v]
def vH(H:A0)(w:Bool)(t:LT)(v:TV)(K:U->Option γ):Option γ:=
 match v with
 | .lf a x=>K ⟨a,x⟩
 | .nat n=>K ⟨.n .i64,(n:Int)⟩
 | .nils=>bif w then(match t with| .l e=>K ⟨.l e,[]⟩|_=>none)else none
 | .nilp=>bif w then(match t with| .f e=>K ⟨.f e,[]⟩|_=>none)else none
 | .own l=>bif w then(match nth .dead H l with| .own e s=>K ⟨.l e,s⟩| .gone e s=>K ⟨.l e,s⟩|_=>none)else none
 |_=>none
def aii(L:LT->As->(U->As->Option γ)->Option γ):List LT->As->(Bm->As->Option γ)->Option γ|[],c,K=>K [] c|t::s,c,K=>L t c λu r=>aii L s r λa r=>K (u::a) r
def TF(H:A0)(w:Bool):Nat->LT->As->(U->As->Option γ)->Option γ
 |0,_,_,_=>none
 |f+1,t,s,K=>match s with
  |[]=>none
  |c::r=>match c with
   | .lf (.t a) x=>match LT.eq? (.t a) t with
    |some _=>K ⟨.t a,x⟩ r
    |none=>match t with
     | .t e=>bif Nat.ble e.sz a.sz then TF H w f t (comps a x++r) K else aii (TF H w f) e.cs s λb r=>AJ e.cs b λy=>K ⟨.t e,e.mk y⟩ r
     |t=>TF H w f t (comps a x++r) K
   |v=>match t with
    | .t e=>aii (TF H w f) e.cs s λb r=>AJ e.cs b λy=>K ⟨.t e,e.mk y⟩ r
    |t=>vH H w t v λu=>K u r
def JE(H:A0)(e:ET)(v:TV)(K:e.D->Option γ):Option γ:=
 match F9 H v with
  |some c=>TF H true 60 (.t e) c λu r=>match r with|[]=>kZ (.t e) u K|_=>none
  |none=>none
def apq(H:A0)(e:ET)(v:TV)(K:e.D->Option γ):Option γ:=
 match e with
 | .i=>vH H true (.n .i64) v λu=>kZ (.n .i64) u K
 | .u=>vH H true (.n .u8) v λu=>kZ (.n .u8) u K
 | .s=>vH H true .s v λu=>kZ .s u K
 | .b=>vH H true .b v λu=>kZ .b u K
 | .car=>JE H .car v K| .dec=>JE H .dec v K| .ty=>JE H .ty v K| .tm=>JE H .tm v K| .env=>JE H .env v K| .val=>JE H .val v K
 | .bnd=>JE H .bnd v K
 | .vals=>vH H true (.l .val) v λu=>kZ (.l .val) u K
 | .tms=>vH H true (.l .tm) v λu=>kZ (.l .tm) u K
end
end
noncomputable section
inductive TWr where
 |sl (n:Nat) (v:TV)
 |ob (l:Nat) (o:TObj)
 |st (l off:Nat) (vs:As)
 |kill (l:Nat)
 |nw (l:Nat) (o:TObj)
 |up (l:Nat) (i:Int) (e:ET) (y:e.D)
abbrev B3:=List TWr
def fP(d:Option Tmp)(v:TV):B3:=match d with|some n=>[.sl n v]|none=>[]
def amk:Value->TV| .int k n=>bif decide (k.min<=n)&&decide (n<=k.max)then .lf (.n k) n else .unk| .bool b=>.lf .b b| .string s=>bif decide (s.data.toList.length<=9223372036854775807)then .lf .s s.data.toList else .unk| .pointer none=>.nilp| .slice none 0 0=>.nils| .nilFunc=>.nilF|_=>.unk
def aB8:Value->TV| .agg c=>.agg (c.toList.map amk)|v=>amk v
def Ye:AV->TV| .int k n=>.lf (.n k) n| .bool b=>.lf .b b| .str s=>.lf .s s| .nilp=>.nilp| .slice [] .nils=>.nils| .nilFunc=>.nilF|_=>.unk
def okA:AV->Bool| .int _ _=>true| .bool _=>true| .str _=>true| .nilp=>true| .slice [] .nils=>true| .nilFunc=>true| .unk=>true|_=>false
def acw:An->Bool|[]=>true|a::s=>okA a&&acw s
def acg:AV->TV| .agg c=>.agg (c.map Ye)|v=>Ye v
def okZ:AV->Bool| .agg c=>acw c|v=>okA v
def mh:TObj->Bool| .res=>true|_=>false
def gq(r:As):Operand->TV| .tmp n=>nth .unk r n| .const v=>aB8 v| .func f=>.func f []| .global _=>.unk
def mem(l:A5)(n:Nat):Bool:=List.rec (motive:=λ_=>Bool) false (λx _ i=>bif Nat.beq x n then true else i) l
def as1(k:IntKind)(a c:Int):B0:=if 0<=c/\c<=k.bits then some (a.fdiv (2^c.toNat))else none
def abO(a c:Int):B0:=if c=0 then none else some (IntKind.wrap .i64 (a.tdiv c))
section
variable {γ:Type}
def apl:Int->Bool| .ofNat 1=>true|_=>false
def Ot(v:TV)(K:IntKind->Int->Option γ):Option γ:=match v with| .lf (.n k) x=>K k x| .nat n=>K .i64 (n:Int)|_=>none
def ay7(k a:IntKind):Bool:=Nat.beq (IntKind.no k) (IntKind.no a)
def isNat:TV->Bool| .nat _=>true|_=>false
def aqh(p q:Bool)(op:BinOp)(k:IntKind)(a b:Int)(K:TV->Option γ):Option γ:=
 match op with
 | .add=>bif p&&apl b then K (.lf (.n k) (a+b))else K (.lf (.n k) (k.wrap (a+b)))
 | .sub=>bif q&&apl b then K (.lf (.n k) (a - b))else K (.lf (.n k) (k.wrap (a - b)))
 | .mul=>K (.lf (.n k) (k.wrap (a*b)))
 | .quo=>match k with| .i64=>(abO a b).bind λx=>K (.lf (.n .i64) x)|_=>none
 | .rem=>(Vr a b).bind λx=>K (.lf (.n k) x)
 | .eql=>K (.lf .b (a==b))
 | .neq=>K (.lf .b (a !=b))
 | .lss=>K (.lf .b (decide (a<b)))
 | .leq=>K (.lf .b (decide (a<=b)))
 | .gtr=>K (.lf .b (decide (b<a)))
 | .geq=>K (.lf .b (decide (b<=a)))
 | .shl=>match k with| .i64=>(adw a b).bind λx=>K (.lf (.n .i64) x)|_=>none
 | .shr=>(as1 k a b).bind λx=>K (.lf (.n k) x)
 |_=>none
def aB6(op:BinOp)(a b:Str)(K:TV->Option γ):Option γ:=
 match op with
 | .add=>(awL a b).bind λx=>K (.lf .s x)
 | .eql=>K (.lf .b (a==b))
 | .neq=>K (.lf .b (!(a==b)))
 | .lss=>K (.lf .b (Op.bytesLess a b))
 | .leq=>K (.lf .b (Op.bytesLess a b ||a==b))
 | .gtr=>K (.lf .b (!(Op.bytesLess a b ||a==b)))
 | .geq=>K (.lf .b (!(Op.bytesLess a b)))
 |_=>none
def aDD(op:BinOp)(a b:Bool)(K:TV->Option γ):Option γ:=match op with| .eql=>K (.lf .b (a==b))| .neq=>K (.lf .b (!(a==b)))|_=>none
def aCm(τ:Nat->TI)(p o:Bool)(op:BinOp)(t:TypeId)(x y:TV)(K:TV->Option γ):Option γ:=
 match y with
 | .nilp=>bif (τ t).isPtr then(match op,x with
  | .eql,.nilp=>K (.lf .b true)
  | .neq,.nilp=>K (.lf .b false)
  | .eql,.ptr _ _=>K (.lf .b false)
  | .neq,.ptr _ _=>K (.lf .b true)
  | .eql,.eptr _=>K (.lf .b false)
  | .neq,.eptr _=>K (.lf .b true)
  | .eql,.lf (.f _) l=>K (.lf .b (false !=List.isEmpty l))
  | .neq,.lf (.f _) l=>K (.lf .b (true !=List.isEmpty l))
  |_,_=>none)else none
 | .lf .s b=>match x with
  | .lf .s a=>aB6 op a b K
  |_=>none
 | .lf .b b=>match x with
  | .lf .b a=>bif (τ t).isBool then aDD op a b K else none
  |_=>none
 |y=>Ot x λk a=>Ot y λc b=>bif ay7 k c then aqh (p&&o) (isNat x&&o) op k a b K else none
def ajz(H:A0)(v:TV)(K:(e:ET)->List e.D->Option γ):Option γ:=
 match v with
 | .lf (.l e) x=>K e x
 | .own l=>match nth .dead H l with
  | .own e x=>K e x
  | .gone e x=>K e x
  |_=>none
 |_=>none
def Q6(v:Option TV)(d:Int)(K:Int->Option γ):Option γ:=match v with|none=>K d|some v=>Ot v λ_ n=>K n
def aia(H:A0)(place:Nat->Option (Nat×Nat)):List (Nat×TV)->As->(As->Option γ)->Option γ
 |[],c,K=>K c
 |(i,v)::p,c,K=>match place i with
  |some (o,s)=>match F9 H v with
   |some n=>bif Nat.beq (widths n) s then splitK 99 c o λa b=>splitK 99 b s λ_ d=>aia H place p (a++(n++d)) K else none
   |none=>none
  |none=>none
def aqS(H:A0)(e:ET):Nat->List (Nat×TV)->(List e.D->Option γ)->Option γ|_,[],K=>K []|i,p::s,K=>bif Nat.beq p.1 i then apq H e p.2 λx=>aqS H e (i+1) s λa=>K (x::a)else none
def acC(e:ET)(sz:Nat):Bool:=Nat.beq e.sz sz
def atK(n:Int):Nat->Nat->(Nat->Option γ)->Option γ|0,_,_=>none|m+1,q,K=>cond (n==(q:Int)) (K q) (atK n m (q+1) K)
def isZ:Int->Bool| .ofNat 0=>true|_=>false
def ax1:Operand->Operand->Bool| .tmp i,.tmp j=>Nat.beq i j|_,_=>false
def aCT:An->Bool|[.bool false]=>true|_=>false
def mkz{α:Type}(n:Int)(v:α):Option (List α):=if 0<=n/\n<=1000000000 then some (List.replicate n.toNat v)else none
def mkS(b:Nat)(c:Int):Option Unit:=if 0<=c/\b*c<=281474976710656/\c<=140737488355328 then some ()else none
def FJ(len:Nat)(b:Int):Bx:=if 0<=b/\b<=len then some b.toNat else none
def R7:TV->TV| .nat n=>.lf (.n .i64) (n:Int)|v=>v
def dS(τ:Nat->TI)(θ:Nat->B8)(up:A5)(k:Nat)(d:Option Tmp)(g:As)(H:A0)(op:Op)(K:A5->B3->Option γ):Option γ:=
 match op with
 | .move x=>K [] (fP d (gq g x))
 | .assign x=>K [] (fP d (gq g x))
 | .pick c x y=>match gq g c with
  | .lf .b b=>cond b (K [] (fP d (gq g x))) (K [] (fP d (gq g y)))
  |_=>none
 | .nilCheck x=>match gq g x with
  | .lf (.f e) l=>(unc l).bind λp=>K [] (fP d (.eptr [e.seg p.1,.lf (.f e) p.2]))
  | .ptr l o=>K [] (fP d (.ptr l o))
  | .eptr A=>K [] (fP d (.eptr A))
  | .func f A=>K [] (fP d (.func f A))
  |_=>none
 | .binOp op t x y _=>aCm τ (match x with| .tmp i=>mem up i|_=>false) (match y with| .const _=>true|_=>false) op t (gq g x) (gq g y) λv=>K [] (fP d v)
 | .unOp op _ x=>match op,gq g x with
  | .not,.lf .b b=>K [] (fP d (.lf .b (!b)))
  | .neg,.lf (.n I) n=>K [] (fP d (.lf (.n I) (I.wrap ((0:Int) - (show Int from n)))))
  |_,_=>none
 | .fieldAddr s x f=>match lk (τ s).field f with
  |some (G,_)=>match gq g x with
   | .ptr l o=>K [] (fP d (.ptr l (o+G)))
   | .eptr A=>splitK 60 A G λ_ b=>K [] (fP d (.eptr b))
   | .ap l i z o=>K [] (fP d (.ap l i z (o+G)))
   |_=>none
  |none=>none
 | .field s x f=>match lk (τ s).field f with
  |some (G,t)=>match gq g x with
   | .agg A=>ldK τ t G A λv=>K [] (fP d (R7 v))
   | .lf (.t e) y=>ldK τ t G [.lf (.t e) y] λv=>K [] (fP d (R7 v))
   |_=>none
  |none=>none
 | .indexAddr t x i=>match(τ t).ix with
  | .sl (some j)=>Ot (gq g i) λ_ n=>match gq g x with
   | .psl l z none=>match nth .dead H l with
    | .arr _ h=>bif Nat.beq z j then(idx h n).bind λ_=>K [] (fP d (.ap l n z 0))else none
    |_=>none
   |v=>ajz H v λe h=>bif acC e j then(idx h n).bind λy=>K [] (fP d (.eptr [e.seg y]))else none
  | .arr D (some j)=>match gq g x with
   | .ptr l o=>Ot (gq g i) λ_ n=>atK n D 0 λq=>K [] (fP d (.ptr l (o+q*j)))
   |_=>none
  |_=>none
 | .index t x i=>match gq g x with
  | .lf .s s=>bif (τ t).isStr then Ot (gq g i) λ_ n=>(oL s n).bind λy=>K [] (fP d (.lf (.n .u8) y))else none
  |_=>none
 | .extract x i=>match gq g x with
  | .tup P=>bif Nat.blt i P.length then K [] (fP d (R7 (nth .unk P i)))else none
  |_=>none
 | .slice t x J L none=>match gq g x with
  | .lf .s s=>bif (τ t).isStr then Q6 (J.map (gq g)) 0 λa=>Q6 (L.map (gq g)) (s.length:Int) λb=>(kQ s a b).bind λy=>K [] (fP d (.lf .s y))else none
  | .psl l z none=>match nth .dead H l,(τ t).slT,J with
   | .arr _ h,some _,none=>Q6 (L.map (gq g)) (h.length:Int) λb=>(FJ h.length b).bind λc=>K [] (fP d (.psl l z (some c)))
   |_,_,_=>none
  |v=>match(τ t).slT with
   |some j=>ajz H v λe h=>bif acC e j then Q6 (J.map (gq g)) 0 λa=>Q6 (L.map (gq g)) (h.length:Int) λb=>(kQ h a b).bind λy=>K [] (fP d (.lf (.l e) y))else none
   |none=>none
 | .build t parts=>bif (τ t).isStruct then(match(τ t).zero with
  |some z=>bif acw z then aia H (lk (τ t).place) (parts.toList.map λp=>(p.1,gq g p.2)) (z.map Ye) λA=>K [] (fP d (ady A))else none
  |none=>none)else(match(τ t).ix,(τ t).zero with
  | .arr _ (some j),some z=>bif acw z then aia H (λi=>some (i*j,j)) (parts.toList.map λp=>(p.1,gq g p.2)) (z.map Ye) λA=>K [] (fP d (ady A))else none
  |_,_=>none)
 | .makeFunc (.func f) first M=>bif Nat.beq first.size 0 then K [] (fP d (.func f (M.toList.map λx=>R7 (gq g x))))else none
 | .load t x=>match gq g x with
  | .eptr A=>ldK τ t 0 A λv=>K [] (fP d (R7 v))
  | .ptr l B=>match nth .dead H l with
   | .box A=>ldK τ t B A λv=>K [l] (fP d (R7 v))
   |_=>none
  | .ap l i z B=>match nth .dead H l with
   | .arr e h=>bif Nat.beq z e.sz&&(Nat.beq B 0&&Nat.ble 1 z)then(idx h i).bind λy=>ldK τ t 0 [e.seg y] λv=>K [l] (fP d (R7 v))else none
   |_=>none
  |_=>none
 | .convert s t x=>match gq g x with
  | .lf (.n _) n=>bif (τ s).int.isSome then(match(τ t).int with|some k=>K [] (fP d (.lf (.n k) (k.wrap n)))|none=>none)else none
  | .nat n=>bif (τ s).int.isSome then(match(τ t).int with|some k=>K [] (fP d (.lf (.n k) (k.wrap (n:Int))))|none=>none)else none
  |_=>none
 | .store t x y=>match gq g x with
  | .ptr l B=>match F9 H (gq g y),(τ t).size with
   |some C,some j=>match nth .dead H l with
    | .box A=>bif (Nat.beq (widths C) j&&Nat.ble (B+j) (widths A))&&ai6 H C then K [l] (.st l B C::fP d (.tup []))else none
    |_=>none
   |_,_=>none
  | .ap l i z B=>match F9 H (gq g y),(τ t).size with
   |some C,some j=>match nth .dead H l with
    | .arr e h=>bif (Nat.beq (widths C) j&&(Nat.beq z e.sz&&(Nat.ble 1 j&&Nat.ble (B+j) z)))&&ai6 H C then(idx h i).bind λx=>vS (comps e x) B C λA=>TF H false 60 (.t e) A λu r=>match r with
     |[]=>kZ (.t e) u λy=>K [l] (.up l i e y::fP d (.tup []))
     |_=>none else none
    |_=>none
   |_,_=>none
  |_=>none
 | .alloc t=>match(τ t).zero with
  |some z=>bif acw z&&mh (nth .dead H k)then K [k] (.nw k (.box (z.map Ye))::fP d (.ptr k 0))else none
  |none=>none
 | .box _ x=>match F9 H (gq g x)with
  |some A=>bif mh (nth .dead H k)then K [k] (.nw k (.box A)::fP d (.ptr k 0))else none
  |none=>none
 | .makeMap t none=>match(τ t).smap with
  |some e=>match θ e with
   |some e=>bif mh (nth .dead H k)then K [k] (.nw k (.mp e [])::fP d (.mapr k))else none
   |none=>none
  |none=>none
 | .buildSlice t D parts=>match(τ t).elem with
  |some (E,j,_)=>match θ E,(τ E).zero with
   |some e,some z=>bif (Nat.beq parts.toList.length D&&(acC e j&&mh (nth .dead H k)))&&(Nat.beq z.length j&&(Nat.ble (D*j) 16777216&&Nat.ble D 16777216))then aqS H e 0 (parts.toList.map λp=>(p.1,gq g p.2)) λh=>K [k] (.nw k (.own e h)::fP d (.own k))else none
   |_,_=>none
  |none=>none
 | .makeSlice t x y=>match(τ t).elem with
  |some (E,j,w)=>match θ E,(τ E).zero with
   |some e,some z=>Ot (gq g x) λ_ l=>Ot (gq g y) λ_ c=>bif (ax1 x y&&aCT z)&&(Nat.beq j 1&&(Nat.ble w 1000&&mh (nth .dead H k)))then(mkz l false).bind λh=>K [k] (.nw k (.arr .b h)::fP d (.psl k 1 none))else bif isZ l&&(acC e j&&(Nat.beq z.length j&&mh (nth .dead H k)))then(mkS w c).bind λ_=>K [k] (.nw k (.arr e [])::fP d (.psl k j none))else none
   |_,_=>none
  |none=>none
 | .call {callee:=.builtin .len,args,argTypes}=>match args.toList,argTypes.toList with
  |[x],[t]=>match gq g x with
   | .lf .s s=>bif (τ t).isStr then K [] (fP d (.nat s.length))else none
   | .nils=>bif (τ t).slT.isSome then K [] (fP d (.nat 0))else none
   | .psl l _ none=>match nth .dead H l with
    | .arr _ h=>bif (τ t).slT.isSome then K [] (fP d (.nat h.length))else none
    |_=>none
   |v=>bif (τ t).slT.isSome then ajz H v λ_ h=>K [] (fP d (.nat h.length))else none
  |_,_=>none
 | .call {callee:=.builtin .min,args,argTypes:=_}=>match args.toList with
  |[x,y]=>Ot (gq g x) λk a=>Ot (gq g y) λI b=>bif ay7 k I then K [] (fP d (.lf (.n k) (if b<a then b else a)))else none
  |_=>none
 | .call {callee:=.builtin .append,args,argTypes}=>match args.toList,argTypes.toList with
  |[x,y],[t,Q]=>match(τ t).elem with
   |some (E,j,w)=>match θ E with
    |some e=>bif acC e j&&((τ Q).isSl&&mh (nth .dead H k))then vH H true (.l e) (gq g y) λu=>kZ (.l e) u λN=>(match gq g x with
     | .nils=>(app w ([]:List e.D) N).bind λr=>K [k] (.nw k (.own e r)::fP d (.own k))
     | .own l=>match nth .dead H l with
      | .own O h=>kZ (.l e) ⟨.l O,h⟩ λh=>(app w h N).bind λr=>K [l,k] (.kill l:: .nw k (.own e r)::fP d (.own k))
      |_=>none
     | .psl l z none=>match nth .dead H l with
      | .arr O h=>bif Nat.beq z j then kZ (.l e) ⟨.l O,h⟩ λh=>(app w h N).bind λr=>K [l,k] (.kill l:: .nw k (.arr e r)::fP d (.psl k z none))else none
      |_=>none
     |_=>none)else none
    |none=>none
   |none=>none
  |_,_=>none
 | .lookup t m F ok=>match(τ t).smap,gq g m,gq g F with
  |some E,.mapr l,.lf .s s=>match nth .dead H l,(τ E).zav with
   | .mp e h,some z=>bif okZ z then mel (dn h s) (K [l] (fP d (bif ok then .tup [acg z,.lf .b false]else acg z))) λy=>K [l] (fP d (bif ok then .tup [e.seg y,.lf .b true]else e.seg y))else none
   |_,_=>none
  |_,_,_=>none
 | .mapUpdate t m F x=>match(τ t).smap,gq g m,gq g F with
  |some _,.mapr l,.lf .s s=>match nth .dead H l with
   | .mp e h=>apq H e (gq g x) λy=>(yG h s y).bind λr=>K [l] (.ob l (.mp e r)::fP d (.tup []))
   |_=>none
  |_,_,_=>none
 |_=>none
end
end
section
def aL{σ δ:Type}(b:(σ->Option δ)->σ->Option δ)(n:Nat):σ->Option δ:=Nat.rec (motive:=λ_=>σ->Option δ) (λ_=>none) (λ_ i=>b i) n
inductive PZ(α ζ:Type) where
 |ok (x:α)
 |er (e:Int) (z:ζ)
def PZ.el{α ζ β:Type}(f:α->Option β)(g:Int->ζ->Option β):PZ α ζ->Option β| .ok x=>f x| .er e z=>g e z
end
noncomputable section
mutual
def aDe:Ty→Ty→Bool
 | .mk k s l,.mk k' s' l'=>decide (k=k')&&(s==s'&&agK l l')
def agK:A3→A3→Bool
 |[],[]=>true
 |x::xs,y::ys=>aDe x y&&agK xs ys
 |_,_=>false
end
inductive CU where
 |n (k:IntKind) (x:Int)|b (x:Bool)|s (x:Str)|l (e:ET)|ly (x:A3)
def CU.t:CU->LT| .n k _=>.n k| .b _=>.b| .s _=>.s| .l e=>.l e| .ly _=>.l .ty
def CU.x:(c:CU)->c.t.D| .n _ x=>x| .b x=>x| .s x=>x| .l _=>[]| .ly x=>x
def CU.is:(c:CU)->c.t.D->Bool| .n _ x,y=>decide ((show Int from y)=x)| .b x,y=>x==(show Bool from y)| .s x,y=>(show Str from y)==x| .l e,y=>List.isEmpty (show List e.D from y)| .ly x,y=>agK x (show A3 from y)
inductive Sk where
 |unk|nilp|nilF|nils
 |k (c:CU)
 |lf (t:LT)
 |ptr (l off:Nat)
 |eptr (cs:List Sk)
 |agg (cs:List Sk)
 |tup (cs:List Sk)
 |func (f:Nat) (cs:List Sk)
 |mapr (l:Nat)
 |own (l:Nat)
 |psl (l z:Nat)
abbrev B9:=List Sk
inductive HO where
 |dead
 |box (cs:B9)
 |bx (l:List (Nat×Sk))
 |own (e:ET)
 |mp (e:ET)
 |arr (e:ET)
inductive Ed where
 |r (n:Nat) (s:Sk)
 |o (l:Nat) (h:HO)
 |w (h:HO)
abbrev Be:=List Ed
mutual
def Sk.OP:Sk→List LT
 | .lf t=>[t]
 | .eptr cs=>Sk.Vy cs
 | .agg cs=>Sk.Vy cs
 | .tup cs=>Sk.Vy cs
 | .func _ cs=>Sk.Vy cs
 | .unk=>[]| .nilp=>[]| .nilF=>[]| .nils=>[]| .k _=>[]| .ptr _ _=>[]| .mapr _=>[]| .own _=>[]| .psl _ _=>[]
def Sk.Vy:B9→List LT
 |[]=>[]
 |s::ss=>s.OP++Sk.Vy ss
end
def HO.OP:HO->List LT| .dead=>[]| .box c=>Sk.Vy c| .bx l=>l.flatMap λp=>p.2.OP| .own e=>[.l e]| .mp e=>[.m e]| .arr e=>[.l e]
def bM:Be->List LT|[]=>[]| .r _ s::e=>s.OP++bM e| .o _ h::e=>h.OP++bM e| .w h::e=>h.OP++bM e
section
variable {β:Type}
def Ar{α:Type}(l:List α):Nat->α->(List α->β)->β:=
 List.rec (motive:=λ_=>Nat->α->(List α->β)->β) (λ_ _ K=>K []) (λx s i n v K=>Nat.rec (motive:=λ_=>β) (K (v::s)) (λm _=>i m v λy=>K (x::y)) n) l
def aDj{α:Type}(l:List α):α->(List α->β)->β:=
 List.rec (motive:=λ_=>α->(List α->β)->β) (λv K=>K [v]) (λx _ i v K=>i v λy=>K (x::y)) l
mutual
def fill(g:Nat→Nat):Sk→Bm→(TV→Bm→β)→β
 | .unk,us,K=>K .unk us
 | .nilp,us,K=>K .nilp us
 | .nilF,us,K=>K .nilF us
 | .k c,us,K=>K (.lf c.t c.x) us
 | .nils,us,K=>K .nils us
 | .lf _,us,K=>match us with
  |u::us=>K (.lf u.t u.x) us
  |[]=>K .unk []
 | .ptr l o,us,K=>K (.ptr (g l) o) us
 | .eptr cs,us,K=>fills g cs us fun vs us=>K (.eptr vs) us
 | .agg cs,us,K=>fills g cs us fun vs us=>K (.agg vs) us
 | .tup cs,us,K=>fills g cs us fun vs us=>K (.tup vs) us
 | .func f cs,us,K=>fills g cs us fun vs us=>K (.func f vs) us
 | .mapr l,us,K=>K (.mapr (g l)) us
 | .own l,us,K=>K (.own (g l)) us
 | .psl l z,us,K=>K (.psl (g l) z none) us
def fills(g:Nat→Nat):B9→Bm→(As→Bm→β)→β
 |[],us,K=>K [] us
 |s::ss,us,K=>fill g s us fun v us=>fills g ss us fun vs us=>K (v::vs) us
end
def Ze(g:Nat->Nat):List (Nat×Sk)->Option As->Bm->(Option As->Bm->β)->β|[],c,u,K=>K c u|p::s,c,u,K=>fill g p.2 u λv u=>match c with|none=>Ze g s none u K|some a=>match vS a p.1 [v] some with|some a=>Ze g s (some a) u K|none=>Ze g s none u K
def UG(g:Nat->Nat)(o:TObj):HO->Bm->(TObj->Bm->β)->β
 | .dead,us,K=>K .dead us
 | .box s,us,K=>fills g s us λv us=>K (.box v) us
 | .bx l,us,K=>match o with
  | .box s=>Ze g l (some s) us λc us=>match c with
   |some s=>K (.box s) us
   |none=>K .dead us
  |_=>Ze g l none us λ_ us=>K .dead us
 | .own _,us,K=>match us with
  |⟨.l e,x⟩::us=>K (.own e x) us
  |us=>K .dead us
 | .mp _,us,K=>match us with
  |⟨.m e,x⟩::us=>K (.mp e x) us
  |us=>K .dead us
 | .arr _,us,K=>match us with
  |⟨.l e,x⟩::us=>K (.arr e x) us
  |us=>K .dead us
def Qw(g:Nat->Nat):Be->Bm->As->A0->(As->A0->β)->β|[],_,t,h,K=>K t h| .r n s::e,u,t,h,K=>fill g s u λv u=>Ar t n v λt=>Qw g e u t h K| .o l s::e,u,t,h,K=>UG g (nth .dead h l) s u λv u=>Ar h l v λh=>Qw g e u t h K| .w s::e,u,t,h,K=>UG g .dead s u λv u=>aDj h v λh=>Qw g e u t h K
end
def yg:Sk->Nat| .lf (.t e)=>e.sz|_=>1
mutual
def awP:Sk→TV→List (Nat×Nat)
 | .ptr j _,v=>match v with| .ptr l _=>[(j,l)]|_=>[]
 | .mapr j,v=>match v with| .mapr l=>[(j,l)]|_=>[]
 | .own j,v=>match v with| .own l=>[(j,l)]|_=>[]
 | .psl j _,v=>match v with| .psl l _ _=>[(j,l)]|_=>[]
 | .eptr cs,v=>match v with| .eptr vs=>XP cs vs|_=>[]
 | .agg cs,v=>match v with| .agg vs=>XP cs vs|_=>[]
 | .tup cs,v=>match v with| .tup vs=>XP cs vs|_=>[]
 | .func _ cs,v=>match v with| .func _ vs=>XP cs vs|_=>[]
 |_,_=>[]
def XP:B9→As→List (Nat×Nat)
 |s::ss,v::vs=>awP s v++XP ss vs
 |_,_=>[]
end
def asc(m:List (Nat×Nat))(j:Nat):Bx:=match m with|[]=>none|p::r=>bif Nat.beq p.1 j then some p.2 else asc r j
def aDm(H:A0)(m:List (Nat×Nat))(j:Nat):HO->List (Nat×Nat)
 | .box c=>match asc m j with
  |some l=>match nth .dead H l with
   | .box v=>XP c v
   |_=>[]
  |none=>[]
 | .bx i=>match asc m j with
  |some l=>match nth .dead H l with
   | .box v=>i.flatMap λp=>awP p.2 ((splitK 99 v p.1 λ_ b=>b.head?).getD .unk)
   |_=>[]
  |none=>[]
 |_=>[]
def Py(t:As)(H:A0):Nat->Be->List (Nat×Nat)->List (Nat×Nat)|_,[],m=>m|j,.r n s::e,m=>Py t H j e (m++awP s (nth .unk t n))|j,.o l h::e,m=>Py t H j e (m++aDm H (m++[(l,l)]) l h)|j,.w h::e,m=>Py t H (j+1) e (m++aDm H m j h)
def aD:Be->Nat|[]=>0| .w _::e=>aD e+1|_::e=>aD e
def aLF:TV->Bool| .lf (.t _) _=>true|_=>false
def hd1{a:Type}(vs:As)(F:TV->As->Option a):Option a:=match vs with|[]=>none|v::r=>bif aLF v then none else F v r
def oeq(a:Bx)(l:Nat):Bool:=match a with|some x=>Nat.beq x l|none=>false
section
variable {γ:Type}
mutual
def ext(m:Nat)(H:A0)(L:Nat→Bx):Sk→TV→(Bm→Option γ)→Option γ
 | .unk,v,K=>match m with
  |0=>match v with| .unk=>K []|_=>none
  |_=>K []
 | .nilp,v,K=>match v with| .nilp=>K []|_=>none
 | .nilF,v,K=>match v with| .nilF=>K []|_=>none
 | .k c,v,K=>vH H (Nat.ble 1 m) c.t v fun u=>kZ c.t u fun x=>bif c.is x then K []else none
 | .nils,v,K=>match v with| .nils=>K []|_=>none
 | .lf t,v,K=>match t with
  | .t e=>bif e.sc then none else match F9 H v with
   |some cs=>TF H (Nat.ble 1 m) 60 (.t e) cs fun u r=>match r with|[]=>kZ (.t e) u fun x=>K [⟨.t e,x⟩]|_=>none
   |none=>none
  |t=>vH H (Nat.ble 1 m) t v fun u=>kZ t u fun x=>K [⟨t,x⟩]
 | .ptr j o,v,K=>match v with| .ptr l o'=>bif Nat.beq o o'&&oeq (L j) l then K []else none|_=>none
 | .mapr j,v,K=>match v with| .mapr l=>bif oeq (L j) l then K []else none|_=>none
 | .own j,v,K=>match v with
  | .own l=>bif oeq (L j) l then K []else none
  | .nils=>bif Nat.ble 2 m&&(L j).isNone then K []else none
  |_=>none
 | .psl j z,v,K=>match v with
  | .psl l z' none=>bif oeq (L j) l&&Nat.beq z z' then K []else none
  | .nils=>bif Nat.ble 2 m&&(L j).isNone then K []else none
  |_=>none
 | .eptr cs,v,K=>match v with
  | .eptr vs=>rP 0 H L cs vs K
  |_=>none
 | .agg cs,v,K=>match v with
  | .agg vs=>rP m H L cs vs K
  | .lf (.t e) x=>rP m H L cs [.lf (.t e) x] K
  |_=>none
 | .tup cs,v,K=>match v with
  | .tup vs=>amj (bif Nat.ble 2 m then m else 0) H L cs vs K
  |_=>none
 | .func f cs,v,K=>match v with
  | .func f' vs=>bif Nat.beq f f' then amj (bif Nat.ble 2 m then m else 0) H L cs vs K else none
  |_=>none
def amj(m:Nat)(H:A0)(L:Nat→Bx):B9→As→(Bm→Option γ)→Option γ
 |[],vs,K=>match vs with|[]=>K []|_=>none
 |s::ss,vs,K=>match vs with
  |[]=>none
  |v::r=>ext m H L s v fun us=>amj m H L ss r fun us'=>K (us++us')
def rP(m:Nat)(H:A0)(L:Nat→Bx):B9→As→(Bm→Option γ)→Option γ
 |[],vs,K=>match vs with|[]=>K []|_=>none
 |s::ss,vs,K=>match s with
  | .lf t=>TF H (Nat.ble 1 m) 60 t vs fun u r=>kZ t u fun x=>rP m H L ss r fun us=>K (⟨t,x⟩::us)
  | .k c=>TF H (Nat.ble 1 m) 60 c.t vs fun u r=>kZ c.t u fun x=>bif c.is x then rP m H L ss r K else none
  |s=>hd1 vs fun v r=>ext m H L s v fun us=>rP m H L ss r fun us'=>K (us++us')
end
def axj(m:Nat)(H:A0)(L:Nat->Bx)(vs:As):List (Nat×Sk)->(Bm->Option γ)->Option γ|[],K=>K []|p::s,K=>splitK 99 vs p.1 λ_ b=>splitK 99 b (yg p.2) λc _=>rP m H L [p.2] c λa=>axj m H L vs s λu=>K (a++u)
def al6(m:Nat)(H:A0)(L:Nat->Bx)(o:TObj):HO->(Bm->Option γ)->Option γ
 | .dead,K=>K []
 | .box c,K=>match o with| .box v=>rP m H L c v K|_=>none
 | .bx l,K=>match o with| .box v=>axj m H L v l K|_=>none
 | .own e,K=>match o with| .own a s=>kZ (.l e) ⟨.l a,s⟩ λx=>K [⟨.l e,x⟩]|_=>none
 | .mp e,K=>match o with| .mp a s=>kZ (.m e) ⟨.m a,s⟩ λx=>K [⟨.m e,x⟩]|_=>none
 | .arr e,K=>match o with| .arr a s=>kZ (.l e) ⟨.l a,s⟩ λx=>K [⟨.l e,x⟩]|_=>none
def BS(m o:Nat)(t:As)(H:A0)(L:Nat->Bx):Nat->Be->(Bm->Option γ)->Option γ|_,[],K=>K []|j,.r n s::a,K=>ext m H L s (nth .unk t n) λb=>BS m o t H L j a λu=>K (b++u)|j,.o l h::a,K=>al6 o H L (nth .dead H l) h λb=>BS m o t H L j a λu=>K (b++u)|j,.w h::a,K=>match L j with|some l=>al6 o H L (nth .dead H l) h λb=>BS m o t H L (j+1) a λu=>K (b++u)|none=>match h with| .own e=>bif Nat.ble 2 m then BS m o t H L (j+1) a λu=>K (⟨.l e,[]⟩::u)else none| .arr e=>bif Nat.ble 2 m then BS m o t H L (j+1) a λu=>K (⟨.l e,[]⟩::u)else none|_=>none
end
mutual
def rfB(n:Nat):TV→Bool
 | .ptr l _=>Nat.blt l n
 | .mapr l=>Nat.blt l n
 | .own l=>Nat.blt l n
 | .psl l _ _=>Nat.blt l n
 | .ap l _ _ _=>Nat.blt l n
 | .eptr cs=>jw n cs
 | .agg cs=>jw n cs
 | .tup cs=>jw n cs
 | .func _ cs=>jw n cs
 | .unk=>true| .nilp=>true| .nilF=>true| .nils=>true| .lf _ _=>true| .nat _=>true
def jw(n:Nat):As→Bool
 |[]=>true
 |v::vs=>rfB n v&&jw n vs
end
def Ji(n:Nat):A0->Bool|[]=>true|o::s=>(match o with| .box c=>jw n c| .res=>false|_=>true)&&Ji n s
def fO(n:Nat):A5->A5->Be->Bool|_,_,[]=>true|ss,o,.r k _::e=>!(mem ss k)&&fO n (k::ss) o e|ss,o,.o l _::e=>Nat.blt l n&&(!(mem o l)&&fO n ss (l::o) e)|ss,o,.w _::e=>fO n ss o e
def aec(l:Nat):Be->Bool
 |[]=>false
 | .o a h::e=>(Nat.beq l a&&(match h with| .dead=>true|_=>false)) ||aec l e
 |_::e=>aec l e
def asB(n len:Nat)(L:Nat->Bx)(eds:Be):Nat->Nat->A5->Bool|_,0,_=>true|j,c+1,s=>match L j with|none=>asB n len L eds (j+1) c s|some l=>Nat.blt l len&&(!(mem s l)&&((Nat.ble n l ||aec l eds)&&asB n len L eds (j+1) c (l::s)))
def LJ(n N:Nat)(m:List (Nat×Nat))(j:Nat):Bx:=bif Nat.blt j n then some j else bif Nat.blt j N then asc m j else none
@[reducible] def RT(p:Option Be)(R:Type):Type:=match p with|none=>R|some e=>PZ R (jI (bM e))
def RT.el{R δ:Type}:(p:Option Be)->(R->Option δ)->((e:Be)->Int->jI (bM e)->Option δ)->RT p R->Option δ|none,f,_=>f|some e,f,g=>PZ.el f (g e)
def RT.ok{R:Type}:(p:Option Be)->Option R->Option (RT p R)|none,o=>o|some _,o=>o.map PZ.ok
structure Ent where
 f:Nat
 na:Nat
 ps:Be
 nr:Nat
 rs:Be
 R:Type
 pe:Option Be
 g:Option (jI (bM ps)→Bool)
 F:jI (bM ps)→Option (RT pe R)
 out:R→jI (bM rs)
abbrev B6:=List Ent
def dM(n:Nat):As:=List.replicate n .unk
def bS(n:Nat):Nat:=n
def res1:As->TV|[v]=>v|vs=>.tup vs
def lX(l:A5)(n:Nat):Nat:=nth 0 l n
def rng(k:Nat):Nat->A5|0=>[]|n+1=>k::rng (k+1) n
def MB(f:Nat->Bx)(i:Nat):Nat->A5|0=>[]|n+1=>match f i with|some l=>l::MB f (i+1) n|none=>MB f (i+1) n
def nodupB:A5->Bool|[]=>true|x::s=>bif mem s x then false else nodupB s
section
variable {γ:Type}
def wrB(l:Nat)(cs:As):List (Nat×Sk)->(B3->Option γ)->Option γ|[],K=>K []|p::s,K=>splitK 99 cs p.1 λ_ b=>splitK 99 b (yg p.2) λc _=>wrB l cs s λw=>K (.st l p.1 c::w)
def Kv(ρ:A5)(h:A0):Nat->Nat->Be->(B3->Option γ)->Option γ
 |_,_,[],K=>K []
 |k,j,.o l d::e,K=>match d with
  | .bx i=>match nth .dead h l with
   | .box c=>wrB (lX ρ l) c i λw=>Kv ρ h k j e λs=>K (w++s)
   |_=>none
  | .dead=>Kv ρ h k j e λw=>K (.kill (lX ρ l)::w)
  |_=>Kv ρ h k j e λw=>K (.ob (lX ρ l) (nth .dead h l)::w)
 |k,j,.w _::e,K=>Kv ρ h (k+1) (j+1) e λw=>K (.nw k (nth .dead h j)::w)
 |k,j,.r _ _::e,K=>Kv ρ h k j e K
end
def apO(H:A0)(k:Nat):Nat->Bool|0=>true|n+1=>mh (nth .dead H k)&&apO H (k+1) n
mutual
def YX(n:Nat)(ds:A5):Sk→Bool
 | .ptr l _=>Nat.blt l n&&!(mem ds l)
 | .mapr l=>Nat.blt l n&&!(mem ds l)
 | .own l=>Nat.blt l n&&!(mem ds l)
 | .psl l _=>Nat.blt l n&&!(mem ds l)
 | .eptr cs=>Ag n ds cs
 | .agg cs=>Ag n ds cs
 | .tup cs=>Ag n ds cs
 | .func _ cs=>Ag n ds cs
 | .unk=>true| .nilp=>true| .nilF=>true| .nils=>true| .k _=>true| .lf _=>true
def Ag(n:Nat)(ds:A5):B9→Bool
 |[]=>true
 |s::ss=>YX n ds s&&Ag n ds ss
end
def amI(n:Nat)(ds:A5):HO->Bool| .box c=>Ag n ds c| .bx i=>i.all λp=>YX n ds p.2|_=>true
def killed:Be->A5
 |[]=>[]
 | .o l h::e=>(match h with| .dead=>[l]|_=>[])++killed e
 |_::e=>killed e
def azn:HO->Bool| .box _=>true| .mp _=>true|_=>false
def aGy:HO->Bool| .box _=>true|_=>false
def kinds:Be->List HO|[]=>[]| .w h::e=>h::kinds e|_::e=>kinds e
def ayk(i:List (Nat×Sk)):Nat->B9->B9|_,[]=>[]|q,s::a=>(bif Nat.beq (yg s) 1&&mem (i.flatMap λp=>rng (p.1+1) (yg p.2)) (q+1)then .unk else s)::ayk i (q+yg s) a
def Fy(j:Nat):Be->Option HO|[]=>none| .o l h::e=>bif Nat.beq l j then some h else Fy j e| .r _ _::e=>Fy j e| .w _::e=>Fy j e
def alb(n:Nat)(r:Be)(j:Nat):HO->Bool
 | .box c=>Ag n [] c&&(match Fy j r with
  |none=>Ag n (killed r) c
  |some (.bx i)=>Ag n (killed r) (ayk i 0 c)
  |some _=>true)
 | .dead=>false
 | .bx _=>false
 |_=>true
def R8(n:Nat)(r:Be):Nat->Be->Bool|_,[]=>true|j,.r _ s::e=>YX n [] s&&R8 n r j e|j,.w h::e=>alb n r j h&&R8 n r (j+1) e|_,.o _ _::_=>false
def BP(n:Nat)(ds:A5)(k:List HO):Be->Bool
 |[]=>true
 | .r _ s::e=>YX n ds s&&BP n ds k e
 | .w h::e=>(match h with| .dead=>false| .bx _=>false|h=>amI n ds h)&&BP n ds k e
 | .o l h::e=>(match h with| .dead=>true| .own _=>false| .arr _=>false| .bx i=>amI n ds (.bx i)&&aGy (nth .dead k l)|h=>amI n ds h&&azn (nth .dead k l))&&BP n ds k e
def j3:Be->A5|[]=>[]| .r n _::e=>n::j3 e|_::e=>j3 e
def axC(l:A5):Nat->Bool|0=>true|n+1=>mem l n&&axC l n
def JC(e:Ent):Bool:=
 ((axC (j3 e.ps) e.na&&(j3 e.ps).all λk=>Nat.blt k e.na)&&(fO 0 [] [] e.ps&&(fO (aD e.ps) [] [] e.rs&&(R8 (aD e.ps) e.rs 0 e.ps&&BP (aD e.ps+aD e.rs) (killed e.rs) (kinds e.ps) e.rs))))&&(match e.pe with|none=>true|some d=>(j3 d).isEmpty&&(fO (aD e.ps) [] [] d&&(R8 (aD e.ps) d 0 e.ps&&BP (aD e.ps+aD d) (killed d) (kinds e.ps) d)))
section
variable {γ:Type}
def apZ(H:A0)(k:Nat)(vs:As)(e:Ent)(K:Nat->A5->B3->TV->Option γ)(X:Nat->A5->B3->Int->Option γ):Option γ:=
 let n:=aD e.ps
 let b:=aD e.rs
 let L:=LJ 0 n (Py vs H 0 e.ps [])
 let a:=MB L 0 n
 bif Nat.beq (List.length vs) e.na&&(Nat.beq a.length n&&(nodupB a&&apO H k b))then
  BS 1 0 vs H L 0 e.ps λu=>AJ (bM e.ps) u λx=>(e.F x).bind λr=>RT.el e.pe (λy=>
   Qw (lX (a++rng k b)) e.ps u (dM e.na) [] λ_ h=>Qw (lX (a++rng k b)) e.rs (fF _ (e.out y)) (dM e.nr) h λr c=>Kv a c k n e.rs λw=>K b (a++rng k b) w (res1 r)) (λd v z=>bif apO H k (aD d)then
    Qw (lX (a++rng k (aD d))) e.ps u (dM e.na) [] λ_ h=>Qw (lX (a++rng k (aD d))) d (fF _ z) (dM 0) h λ_ c=>Kv a c k n d λw=>X (aD d) (a++rng k (aD d)) w v else none) r
 else none
def aJC(H:A0)(vs:As)(e:Ent):Bool:=Nat.beq (List.length vs) e.na&&(BS 1 0 vs H (LJ 0 (aD e.ps) (Py vs H 0 e.ps [])) 0 e.ps (λ_=>some ())).isSome
def gdE(H:A0)(vs:As)(e:Ent)(A B:Option γ):Option γ:=match e.g with|none=>A|some g=>BS 1 0 vs H (LJ 0 (aD e.ps) (Py vs H 0 e.ps [])) 0 e.ps λu=>AJ (bM e.ps) u λx=>cond (g x) A B
def aGK(f:Nat):B6->Bool|[]=>false|e::s=>Nat.beq e.f f ||aGK f s
def awW(H:A0)(k f:Nat)(vs:As)(E:B6)(K:Nat->A5->B3->TV->Option γ)(X:Nat->A5->B3->Int->Option γ):Option γ:=
 List.rec (motive:=λ_=>Option γ) none (λe r i=>bif Nat.beq e.f f&&(bif aGK f r then aJC H vs e else true)then gdE H vs e (apZ H k vs e K X) i else i) E
end
end
noncomputable section
structure DS where
 t:As
 h:A0
 d:A5
 o:List (Nat×Nat)
 up:A5
 rl:List (Nat×Nat×Nat)
 cp:List (Nat×Nat)
 oo:List (Nat×Nat)
inductive Hn where
 |jn (eds:Be) (lr:Bool)
 |lp (hd:Be) (e:Nat) (ex:Be)
 |fz (ls:A5)
 |ct (l b off:Nat)
 |ca (l b off:Nat)
 |fa (ls:A5)
structure Cfg where
 τ:Nat→TI
 θ:Nat→B8
 n:Nat
 R:Type
 hs:List (Nat×Hn)
 m:Nat
 te:Nat
 pn:Int→DS→Option R
mutual
def wJ(l:Nat):TV→Bool
 | .ptr l' _=>!(Nat.beq l' l)
 | .mapr l'=>!(Nat.beq l' l)
 | .own l'=>!(Nat.beq l' l)
 | .psl l' _ _=>!(Nat.beq l' l)
 | .ap l' _ _ _=>!(Nat.beq l' l)
 | .eptr cs=>qZ l cs
 | .agg cs=>qZ l cs
 | .tup cs=>qZ l cs
 | .func _ cs=>qZ l cs
 | .unk=>true| .nilp=>true| .nilF=>true| .nils=>true| .lf _ _=>true| .nat _=>true
def qZ(l:Nat):As→Bool
 |[]=>true
 |v::vs=>wJ l v&&qZ l vs
end
def aAP(H:A0)(cs:As):Option (Decl×A4):=TF H false 60 (.t .dec) cs λu r=>match r with|[.lf (.f .dec) s]=>kZ (.t .dec) u λx=>some (x,s)|[.nilp]=>kZ (.t .dec) u λx=>some (x,[])|_=>none
def adC(H:A0)(l:Nat):Nat->TV
 |0=>match nth .dead H l with
  | .box c=>bif qZ l c then(match aAP H c with
   |some p=>.lf (.f .dec) (p.1::p.2)
   |none=>.eptr c)else .unk
  |_=>.unk
 |_+1=>.unk
def axb(H:A0)(l:Nat):TV:=match nth .dead H l with| .own e x=>.lf (.l e) x|_=>.unk
def axM(H:A0)(l z:Nat):Bx->TV
 |none=>match nth .dead H l with
  | .arr e x=>bif acC e z then .lf (.l e) x else .unk
  |_=>.unk
 |some _=>.unk
mutual
def iK(H:A0)(l:Nat):TV→TV
 | .ptr l' o=>bif Nat.beq l' l then adC H l o else .ptr l' o
 | .mapr l'=>bif Nat.beq l' l then .unk else .mapr l'
 | .own l'=>bif Nat.beq l' l then axb H l else .own l'
 | .psl l' z c=>bif Nat.beq l' l then axM H l z c else .psl l' z c
 | .ap l' i z o=>bif Nat.beq l' l then .unk else .ap l' i z o
 | .eptr cs=>.eptr (og H l cs)
 | .agg cs=>.agg (og H l cs)
 | .tup cs=>.tup (og H l cs)
 | .func f cs=>.func f (og H l cs)
 | .unk=>.unk| .nilp=>.nilp| .nilF=>.nilF| .nils=>.nils| .lf t x=>.lf t x| .nat n=>.nat n
def og(H:A0)(l:Nat):As→As
 |[]=>[]
 |v::vs=>iK H l v::og H l vs
end
def acG(H:A0)(l:Nat):TObj->TObj| .box c=>.box (og H l c)| .res=>.dead|o=>o
def xk(H:A0)(l:Nat):Nat->A0->A0|_,[]=>[]|i,o::s=>(bif Nat.beq i l then .dead else acG H l o)::xk H l (i+1) s
def acL(l:Nat):Nat->As->A5|_,[]=>[]|k,v::s=>bif wJ l v then acL l (k+1) s else k::acL l (k+1) s
def Rm(l:Nat):Nat->A0->List (Nat×Nat)|_,[]=>[]|i,o::s=>match o with| .box c=>bif qZ l c then Rm l (i+1) s else(i,0)::Rm l (i+1) s|_=>Rm l (i+1) s
def Oy(l:Nat)(s:DS):DS:=⟨og s.h l s.t,xk s.h l 0 s.h,acL l 0 s.t++s.d,(l,0)::(Rm l 0 s.h++s.o),s.up,s.rl,s.cp,s.oo⟩
def hint(hs:List (Nat×Hn))(p:Nat):Option Hn:=match hs with|[]=>none|x::r=>bif Nat.beq x.1 p then some x.2 else hint r p
section
variable {γ:Type}
def plainO:TObj->Bool| .box _=>true| .mp _ _=>true| .dead=>true|_=>false
mutual
def apk(l:Nat):TV→Bool
 | .own l'=>Nat.beq l l'
 | .psl l' _ _=>Nat.beq l l'
 | .eptr cs=>lQ l cs
 | .agg cs=>lQ l cs
 | .tup cs=>lQ l cs
 | .func _ cs=>lQ l cs
 | .unk=>false| .nilp=>false| .nilF=>false| .nils=>false| .lf _ _=>false| .nat _=>false| .ptr _ _=>false| .mapr _=>false| .ap _ _ _ _=>false
def lQ(l:Nat):As→Bool
 |[]=>false
 |v::vs=>apk l v ||lQ l vs
end
def XA(l:Nat):A0->Bool|[]=>false|o::s=>(match o with| .box c=>lQ l c|_=>false) ||XA l s
def fV(v:TV)(K:TV->Option γ):Option γ:=match v with| .lf t x=>K (.lf t x)|v=>K v
def aDt{α:Type}(l:List α):Nat->α->(List α->Option γ)->Option γ:=
 List.rec (motive:=λ_=>Nat->α->(List α->Option γ)->Option γ) (λ_ _ _=>none) (λx s i n v K=>Nat.rec (motive:=λ_=>Option γ) (K (v::s)) (λm _=>i m v λy=>K (x::y)) n) l
def F4:B3->DS->(DS->Option γ)->Option γ
 |[],s,K=>K s
 | .sl n v::w,s,K=>fV v λv=>aDt s.t n v λt=>F4 w ⟨t,s.h,n::s.d,s.o,s.up.filter λi=>!(Nat.beq i n),s.rl.filter λp=>!(Nat.beq p.1 n ||(Nat.beq p.2.1 n ||Nat.beq p.2.2 n)),s.cp.filter λp=>!(Nat.beq p.1 n ||Nat.beq p.2 n),s.oo⟩ K
 | .ob l o::w,s,K=>bif plainO o&&plainO (nth .dead s.h l)then Ar s.h l o λh=>F4 w {s with h:=h,o:=(l,0)::s.o} K else none
 | .st l f a::w,s,K=>match nth .dead s.h l with
  | .box c=>vS c f a λc=>Ar s.h l (.box c) λh=>F4 w {s with h:=h,o:=(rng (f+1) (widths a)).map (λq=>(l,q))++s.o} K
  |_=>none
 | .kill l::w,s,K=>match nth .dead s.h l with
  | .own e x=>Ar s.h l (.gone e x) λh=>F4 w {s with h:=h,o:=(l,0)::s.o} K
  | .arr _ x=>Ar s.h l (.gon x.length) λh=>F4 w {s with h:=h,o:=(l,0)::s.o} K
  | .box _=>Ar s.h l .dead λh=>F4 w {s with h:=h,o:=(l,0)::s.o} K
  | .mp _ _=>Ar s.h l .dead λh=>F4 w {s with h:=h,o:=(l,0)::s.o} K
  |_=>none
 | .nw l o::w,s,K=>bif mh (nth .dead s.h l)&&(plainO o ||!(lQ l s.t ||XA l s.h))then Ar s.h l o λh=>F4 w {s with h:=h,o:=(l,0)::s.o} K else none
 | .up l i e y::w,s,K=>match nth .dead s.h l with
  | .arr b x=>match ET.eq? e b with
   |some ⟨q⟩=>Ar s.h l (.arr b (upd x i (q▸y))) λh=>F4 w {s with h:=h,o:=(l,0)::s.o} K
   |none=>none
  |_=>none
def erase:B3->B5|[]=>[]| .sl n _::w=>.slot n .unk::erase w| .ob l _::w=>.obj l .dead::erase w| .st l _ _::w=>.obj l .dead::erase w| .kill l::w=>.obj l .dead::erase w| .nw l _::w=>.obj l .dead::erase w| .up l _ _ _::w=>.obj l .dead::erase w
def J9(o:Oper)(s:DS):DS:=match o.op,o.dst with
 | .binOp .lss _ (.tmp i) (.tmp j) _,some d=>bif Nat.beq d i ||Nat.beq d j then s else{s with rl:=(d,i,j)::s.rl}
 | .move (.tmp x),some d=>bif Nat.beq d x then s else{s with cp:=(d,x)::s.cp,up:=bif mem s.up x then d::s.up else s.up}
 |_,_=>s
def opK(τ:Nat->TI)(θ:Nat->B8)(E:B6)(x:Int->DS->Option γ)(ops:List Oper)(o:Oper)(g:Nat->B4->DS->Option γ)(k:Nat)(es:B4)(s:DS):Option γ:=
 match nE o.op with
 |some (f,a)=>match gq s.t f with
  | .func i p=>awW s.h k i (a.toList.map (gq s.t)++p) E (λn b w v=>F4 (w++fP o.dst v) s λs=>g (k+n) (⟨bE ops.toArray o,b,b.map (λl=>.obj l .dead)++erase (fP o.dst v)⟩::es) s) (λ_ _ w c=>F4 w s λs=>x c s)
  |_=>none
 |none=>dS τ θ s.up k o.dst s.t s.h o.op λr w=>F4 w s λd=>g (k+jX o.op) (⟨bE ops.toArray o,r,erase w⟩::es) (J9 o d)
def gdK(ops:List Oper)(o:Oper)(s:DS)(A B:DS->Option γ):Option γ:=
 match o.guard with
 |none=>A s
 |some (j,w)=>match(ops[j]?).bind (·.dst)with
  |none=>none
  |some d=>match nth .unk s.t d with
   | .lf .b b=>bif w then cond b (Ar s.t d (.lf .b true) λt=>A {s with t:=t}) (Ar s.t d (.lf .b false) λt=>B {s with t:=t})else cond b (Ar s.t d (.lf .b true) λt=>B {s with t:=t}) (Ar s.t d (.lf .b false) λt=>A {s with t:=t})
   | .tup []=>B s
   |_=>none
def XQ(τ:Nat->TI)(θ:Nat->B8)(E:B6)(p:Int->DS->Option γ)(ops:List Oper)(l:List Oper):Nat->B4->DS->(B4->DS->Option γ)->Option γ:=
 List.rec (motive:=λ_=>Nat->B4->DS->(B4->DS->Option γ)->Option γ) (λ_ e s K=>K e.reverse s)
  (λo _ i k e s K=>gdK ops o s (opK τ θ E p ops o (λk e s=>i k e s K) k e) λs=>F4 (fP o.dst (.tup [])) s λs=>i k (⟨bE ops.toArray o,[],erase (fP o.dst (.tup []))⟩::e) s K) l
def zT:List Oper->Nat|[]=>0|o::l=>(match nE o.op with|some _=>5|none=>jX o.op)+zT l
def y8:Nat->A0|0=>[]|n+1=>.res::y8 n
def ai7(l:A0):Nat->(A0->Option γ)->Option γ:=
 List.rec (motive:=λ_=>Nat->(A0->Option γ)->Option γ) (λ_ K=>K []) (λo _ i n K=>Nat.rec (motive:=λ_=>Option γ) (i 0 λr=>match r with|[]=>bif mh o then K []else K [o]|x::s=>K (o::x::s)) (λn _=>i n λr=>K (o::r)) n) l
def Jk{α:Type}:List α->Nat->(Nat->Option γ)->Option γ|[],n,K=>K n|_::l,n,K=>Jk l (n+1) K
def aA2:List Oper->A5|[]=>[]|o::l=>match o.dst with|some d=>d::aA2 l|none=>aA2 l
def pG:Code->A5| .region _ o _=>aA2 o.toList| .seq a b=>pG a++pG b| .cond _ a b=>pG a++pG b| .block _ a=>pG a| .loop a=>pG a|_=>[]
def awX:A5->A5->Bool|[],_=>true|x::s,l=>mem l x&&awX s l
def aci(H:A0):Be->List (Nat×Nat)
 |[]=>[]
 | .o l h::e=>(match h with
  | .bx i=>match nth .dead H l with
   | .box _=>i.flatMap λp=>(rng (p.1+1) (yg p.2)).map λq=>(l,q)
   |_=>[(l,0)]
  |_=>[(l,0)])++aci H e
 |_::e=>aci H e
def cov:Be->Nat->Nat->Bool
 |[],_,_=>false
 | .o l h::e,a,q=>(Nat.beq l a&&(match h with| .bx i=>mem (i.flatMap λp=>rng (p.1+1) (yg p.2)) q|_=>true)) ||cov e a q
 |_::e,a,q=>cov e a q
def awV(l:A5):As->(As->Option γ)->Option γ:=List.rec (motive:=λ_=>As->(As->Option γ)->Option γ) (λt K=>K t) (λn _ i t K=>Ar t n .unk λt=>i t K) l
def Li(a:A5)(eds:Be)(s:DS)(u:Bm)(K:DS->Option γ):Option γ:=
 let b:=a++j3 eds
 awV b s.t λt=>Qw bS eds u t s.h λt h=>K ⟨t,h,b++s.d,aci h eds++s.o,s.up.filter λi=>!(mem b i),[],[],s.oo⟩
def asi(n:Nat)(o:List (Nat×Nat))(es:Be):Bool:=o.all λx=>Nat.ble n x.1 ||cov es x.1 x.2
def F6(eds:Be)(s:DS)(K:Option γ):Option γ:=Jk s.h 0 λn=>bif jw n s.t&&(Ji n s.h&&fO n [] [] eds)then K else none
def aqF(n:Nat)(eds:Be)(t:As)(h:A0)(K:Bm->Option γ):Option γ:=
 Jk h 0 λa=>let L:=LJ n (n+aD eds) (Py t h n eds []);bif asB n a L eds n (aD eds) []then BS 2 2 t h L n eds K else none
def Jv(a:A5)(eds:Be)(s s':DS)(K:Bm->Option γ):Option γ:=
 Jk s.h 0 λn=>bif awX s'.d (a++j3 eds)&&asi n s'.o eds then aqF n eds s'.t s'.h K else none
def fresh(s:DS):DS:={s with d:=[],o:=[],oo:=s.o++s.oo}
def apX(m:Nat):A5->DS->(DS->Option γ)->Option γ|[],s,K=>K s|l::a,s,K=>Jk s.h 0 λn=>bif Nat.ble m l&&(Nat.blt l n&&(jw n s.t&&Ji n s.h))then apX m a (Oy l s) K else none
def ctT(l:Nat):As->As|[]=>[]|v::s=>(bif wJ l v then v else .unk)::ctT l s
def ctK(l b off:Nat)(s:DS)(K:DS->Option γ):Option γ:=match nth .dead s.h l,nth .dead s.h b with
 | .arr e x,.box d=>splitK 99 d off λa r=>match r with
  | .psl f z (some c)::r=>Jk s.h 0 λn=>bif (Nat.beq f l&&(qZ l a&&qZ l r))&&((Rm l 0 s.h).all (λp=>Nat.beq p.1 b)&&(jw n s.t&&Ji n s.h))then
    bif Nat.ble c x.length then Ar s.h l (.arr e (x.take c)) λh=>Ar h b (.box (a++ .psl l z none::r)) λh=>K ⟨ctT l s.t,h,acL l 0 s.t++s.d,(l,0)::(b,off+1)::s.o,s.up,s.rl,s.cp,s.oo⟩else none
   else none
  |_=>none
 |_,_=>none
def fzH(m:Nat)(h:Option Hn)(s:DS)(K:DS->Option γ):Option γ:=match h with|some (.fz a)=>apX m a s K|some (.ct l b o)=>ctK l b o s K|_=>K s
def fzA(m:Nat)(h:Option Hn)(s:DS)(K:DS->Option γ):Option γ:=match h with|some (.ca l b o)=>ctK l b o s K|some (.fa a)=>apX m a s K|_=>K s
def sel{α:Type}(f:α->Bool)(g:α->Nat):List α->A5|[]=>[]|x::l=>bif f x then g x::sel f g l else sel f g l
def OC(x:Operand)(s:DS):DS:=match x with
 | .tmp d=>let u:=sel (λp=>Nat.beq p.1 d) (λp=>p.2.1) s.rl
  let u:=sel (λp=>mem u p.1) (λp=>p.2) s.cp++u
  let u:=sel (λp=>mem u p.2) (λp=>p.1) s.cp++u
  {s with up:=u++s.up}
 |_=>s
end
abbrev ExT(R:Type):Type 1:=(a:Type)->Nat->DS->(R->Option a)->(Exit->DS->Option a)->Option a
def akZ(te:Nat)(t:As):List Oper->B0
 |[o,a]=>match o.op,o.dst,o.guard with
  | .makeInterface b (.const (.int .i64 e)),some d,none=>match a.op,a.dst,a.guard with
   | .panic (.tmp c),none,none=>bif Nat.beq b te&&(Nat.beq d c&&Nat.blt d t.length)then some e else none
   |_,_,_=>none
  |_,_,_=>none
 |_=>none
def exe(c:Cfg)(E:B6)(ret:DS->Option c.R)(code:Code):ExT c.R:=
 Code.rec (motive:=λ_=>ExT c.R)
  (skip:=λ_ _ s _ k=>k .normal s)
  (region:=λ_ o w _ p s i k=>fzH c.m (hint c.hs p) s λs=>match akZ c.te s.t o.toList with
   |some e=>bif w then none else(c.pn e s).bind i
   |none=>Jk s.h 0 λn=>XQ c.τ c.θ E (λv s=>bif w then none else(c.pn v s).bind i) o.toList o.toList n [] {s with h:=s.h++y8 (zT o.toList)} λB s=>bif !w ||ng o.toList B then ai7 s.h n λh=>fzA c.m (hint c.hs p) {s with h:=h} λs=>k .normal s else none)
  (seq:=λa _ f g j p s i k=>match hint c.hs p with
   |some (.jn d true)=>F6 d s <| Option.bind (f (LR (jI (bM d)) c.R) (2*p) (fresh s) (λr=>some (.rt r)) λe q=>match e with
     | .normal=>Jv (pG a) d s q λu=>AJ (bM d) u λx=>some (.nx x)
     |_=>none) (LR.el (λx=>Li (pG a) d s (fF (bM d) x) λs=>g j (2*p+1) s i k) (λr=>i r))
   |some (.jn d false)=>F6 d s <| Option.bind (f (jI (bM d)) (2*p) (fresh s) (λ_=>none) λe q=>match e with
     | .normal=>Jv (pG a) d s q λu=>AJ (bM d) u λx=>some x
     |_=>none) λx=>Li (pG a) d s (fF (bM d) x) λs=>g j (2*p+1) s i k
   |_=>f j (2*p) s i λe s=>match e with
    | .normal=>g j (2*p+1) s i k
    |e=>k e s)
  (cond:=λx _ _ f g j p s i k=>match gq s.t x with
   | .lf .b b=>cond b (f j (2*p) (OC x s) i k) (g j (2*p+1) s i k)
   |_=>none)
  (block:=λid _ z j p s i k=>z j (2*p) s i λe s=>match e with
   | .exit t=>bif Nat.beq t id then k .normal s else k (.exit t) s
   |e=>k e s)
  (loop:=λa z j p s i k=>match hint c.hs p with
   |some (.lp l e m)=>F6 l s <| F6 m s <| Jv (pG a) l s (fresh s) λu=>AJ (bM l) u λC=>
     Option.bind (aL (δ:=LR (jI (bM m)) c.R) (λA x=>Li (pG a) l (fresh s) (fF (bM l) x) λD=>z (LR (jI (bM m)) c.R) (2*p) D (λr=>some (.rt r)) λF q=>match F with
      | .normal=>Jv (pG a) l s q λu=>AJ (bM l) u A
      | .exit id=>bif Nat.beq id e then Jv (pG a) m s q λu=>AJ (bM m) u λy=>some (.nx y)else none
      |_=>none) c.n C) (LR.el (λy=>Li (pG a) m s (fF (bM m) y) λs=>k (.exit e) s) (λr=>i r))
   |_=>none)
  (rangeFunc:=λ_ _ _ _ _ _ _ _ _ _ _=>none)
  (exit:=λid _ _ s _ k=>k (.exit id) s)
  (scope:=λ_ _ _ _ _ _ _=>none)
  (label:=λ_ _ _ _ _ _=>none)
  (goto:=λ_ _ _ _ _ _=>none)
  (ret:=λ_ p s i _=>fzH c.m (hint c.hs p) s λs=>(ret s).bind i)
  (refuse:=λ_ _ _ _ _ _=>none)
  code
def ajD{c:Type}(τ:Nat->TI)(s:DS):List ResultVar->(As->Option c)->Option c
 |[],K=>K []
 | .tmp t::r,K=>ajD τ s r λb=>K (nth .unk s.t t::b)
 | .cell a t::r,K=>match nth .unk s.t a with
  | .ptr l o=>match nth .dead s.h l with
   | .box d=>ldK τ t o d λv=>ajD τ s r λb=>K (v::b)
   |_=>none
  |_=>none
def yK{R:Type}(τ:Nat->TI)(m:Nat)(rvs:List ResultVar)(r:Be)(inn:jI (bM r)->Option R)(s:DS):Option R:=
 ajD τ s rvs λv=>bif asi m (s.o++s.oo) r then aqF m r v s.h λu=>AJ (bM r) u inn else none
def U7{R:Type}(m:Nat):(p:Option Be)->Int->DS->Option (RT p R)|none,_,_=>none|some e,v,s=>bif asi m (s.o++s.oo) e then aqF m e [] s.h λu=>AJ (bM e) u λz=>some (.er v z)else none
def amq(τ:Nat->TI)(θ:Nat->B8)(n:Nat)(hs:List (Nat×Hn))(E:B6)(te:Nat)(fn:Func)(e:Ent)(inn:jI (bM e.rs)->Option e.R)(x:jI (bM e.ps)):Option (RT e.pe e.R):=
 match fn.body with
 |none=>none
 |some c=>Qw bS e.ps (fF (bM e.ps) x) (List.replicate fn.ntmps (.tup [])) [] λt h=>
  exe ⟨τ,θ,n,RT e.pe e.R,hs,aD e.ps,te,U7 (aD e.ps) e.pe⟩ E (λs=>RT.ok e.pe (yK τ (aD e.ps) fn.results.toList e.rs inn s)) c _ 1 ⟨t,h,[],[],[],[],[],[]⟩ some λx s=>match x with
   | .normal=>RT.ok e.pe (yK τ (aD e.ps) fn.results.toList e.rs inn s)
   |_=>none
end
def leS(a b:Str):Bool:=decide (a<=b)
def slices_Clone_int(_:Nat)(p:A2):Option A2:=app 8 ([]:A2) p
def ow(_:Nat)(p:List (Str×Bool)):Option Bk:=if p.length*16<=140737488355328 then some ((p.map (·.1)).mergeSort leS)else none
def alh(_:Nat)(_:List (Str×Bool)):Option Unit:=some ()
def strings_Compare(_:Nat)(a b:Str):B0:=some (Lib.compareBytes a b)
def jf(_:Nat):Ax:=some true
theorem Val.ind{P:Val->Prop}(h:∀k n s a,(∀t∈a,P t)->P (.mk k n s a))(t:Val):P t:=by match t with| .mk k n s a=>exact h k n s a λu _=>Val.ind h u
termination_by SizeOf.sizeOf t
decreasing_by
 rename_i b;have:=qCH b;simp only[Val.mk.sizeOf_spec];omega
mutual
def gU:Val→Prop
 | .mk _ _ _ ks=>ks.length≤9223372036854775807∧UF ks
def UF:Af→Prop
 |[]=>True
 |v::vs=>gU v∧UF vs
end
def abF:∀{vs:Af},UF vs->∀v∈vs,gU v
 |[],_,_,h=>by cases h
 |v::vs,h,u,hu=>by
  simp only[UF]at h;rcases qAh.1 hu with rfl|hu
  ·exact h.1
  exact abF h.2 u hu
def gU.kids{v:Val}(h:gU v):v.kids.length<=9223372036854775807/\∀u∈v.kids,gU u:=by cases v;simp only[gU]at h;exact⟨h.1,abF h.2⟩
def kP(a b:Int):Int:=cond (decide (a<b)) (-1) (cond (decide (b<a)) 1 0)
mutual
def bQ:Val→Val→Int
 | .mk k n s ks,.mk k' n' s' ks'=>cond (kP k k' !=0) (kP k k') (cond (kP n n' !=0) (kP n n') (cond (Lib.compareBytes s s' !=0) (Lib.compareBytes s s') (eZ ks ks')))
def eZ:Af→Af→Int
 |[],[]=>0
 |[],_::_=> -1
 |_::_,[]=>1
 |a::asx,b::bs=>cond (bQ a b !=0) (bQ a b) (eZ asx bs)
end
def am5:∀a b:Str,Lib.compareBytes a b= -1∨Lib.compareBytes a b=0∨Lib.compareBytes a b=1
 |[],[]=>by simp[Lib.compareBytes]
 |[],_::_=>by simp[Lib.compareBytes]
 |_::_,[]=>by simp[Lib.compareBytes]
 |a::x,b::y=>by
  have:=am5 x y;simp only[Lib.compareBytes];split
  ·simp
  split
  ·simp
  exact this
def Og:∀a b:Str,Op.bytesLess a b=(Lib.compareBytes a b== -1)/\(a==b)=(Lib.compareBytes a b==0)
 |[],[]=>by simp[Op.bytesLess,Lib.compareBytes]
 |[],_::_=>by simp[Op.bytesLess,Lib.compareBytes]
 |_::_,[]=>by simp[Op.bytesLess,Lib.compareBytes]
 |a::x,b::y=>by
  have i:=Og x y;simp only[Op.bytesLess,Lib.compareBytes];by_cases h:a<b
  ·have:(a==b)=false:=by
    apply beq_false_of_ne;rintro rfl;exact absurd h cn
   simp[h,this]
  by_cases c:b<a
  ·have:(a==b)=false:=by
    apply beq_false_of_ne;rintro rfl;exact absurd c cn
   simp[h,c,this]
  have:a=b:=by
   have d:=UInt8.not_lt.1 h;have e:=UInt8.not_lt.1 c;exact qDf e d
  subst this;simp[i.1,<-i.2]
def ad7(a b:Int):kP a b<0↔a<b:=by
 unfold kP
 grind
def pF(a b:Int):kP a b=0↔a=b:=by
 unfold kP
 grind
def anp(a b:Int):kP b a= - kP a b:=by
 unfold kP
 grind
def Qp:∀(s t:By),Lib.compareBytes s t=0↔s=t
 |[],[]=>by simp[Lib.compareBytes]
 |[],_::_=>by simp[Lib.compareBytes]
 |_::_,[]=>by simp[Lib.compareBytes]
 |a::s,b::t=>by
  have i:=Qp s t;unfold Lib.compareBytes;by_cases c:a<b
  ·simp only[c,if_true];constructor
   ·intro h;cases h
   intro h;cases h;exact absurd c cn
  by_cases d:b<a
  ·simp only[c,d,if_false,if_true];constructor
   ·intro h;cases h
   intro h;cases h;exact absurd d cn
  simp only[c,d,if_false];have:a=b:=qDf (by simpa using d) (by simpa using c);subst this;rw[i];simp
def auU:∀(s t:By),Lib.compareBytes t s= - Lib.compareBytes s t
 |[],[]=>by simp[Lib.compareBytes]
 |[],_::_=>by simp[Lib.compareBytes]
 |_::_,[]=>by simp[Lib.compareBytes]
 |a::s,b::t=>by
  have i:=auU s t;unfold Lib.compareBytes;by_cases c:a<b
  ·have:¬b<a:=λh=>absurd (UInt8.lt_trans c h) cn;simp[c,this]
  by_cases d:b<a
  ·simp[c,d]
  simp[c,d,i]
def aDC:∀(s t u:By),Lib.compareBytes s t<0->Lib.compareBytes t u<0->Lib.compareBytes s u<0
 |[],[],_,h,_=>by simp[Lib.compareBytes]at h
 |_::_,[],_,h,_=>by simp[Lib.compareBytes]at h
 |[],_::_,[],_,h=>by simp[Lib.compareBytes]at h
 |[],_::_,_::_,_,_=>by simp[Lib.compareBytes]
 |_::_,_::_,[],_,h=>by simp[Lib.compareBytes]at h
 |a::s,b::t,c::u,f,d=>by
  have k:=aDC s t u;unfold Lib.compareBytes at f d|-;by_cases e:a<b
  ·by_cases i:b<c
   ·simp[UInt8.lt_trans e i]
   by_cases l:c<b
   ·simp_all
   have:b=c:=qDf (by simpa using l) (by simpa using i);subst this;simp[e]
  by_cases m:b<a
  ·simp_all
  have:a=b:=qDf (by simpa using m) (by simpa using e);subst this;simp only[e,if_false]at f;by_cases g:a<c
  ·simp[g]
  by_cases j:c<a
  ·simp[g,j]at d
  simp only[g,j,if_false]at d|-;exact k f d
def lex(x y:Int):Int:=cond (x !=0) x y
def zy(x y:Int):lex x y<0↔x<0∨x=0/\y<0:=by
 unfold lex
 grind
def RO(x y:Int):lex x y=0↔x=0/\y=0:=by
 unfold lex
 grind
def Y2(x y:Int):lex (-x) (-y)= - lex x y:=by
 unfold lex
 grind
def zw(k n:Int)(s:Str)(b:Af)(c d:Int)(s':Str)(a:Af):bQ (.mk k n s b) (.mk c d s' a)=lex (kP k c) (lex (kP n d) (lex (Lib.compareBytes s s') (eZ b a))):=by unfold bQ lex;rfl
def uo(a b:Val)(s c:Af):eZ (a::s) (b::c)=lex (bQ a b) (eZ s c):=by simp only[eZ,lex]
mutual
theorem gF:∀(a b:Val),bQ a b=0↔a=b
 | .mk k n s ks,.mk k' n' s' ks'=>by
  rw[zw,RO,RO,RO,pF,pF,Qp,YZ ks ks'];simp
theorem YZ:∀(asx bs:Af),eZ asx bs=0↔asx=bs
 |[],[]=>by simp[eZ]
 |[],_::_=>by simp[eZ]
 |_::_,[]=>by simp[eZ]
 |a::asx,b::bs=>by
  rw[uo,RO,gF a b,YZ asx bs];simp
end
mutual
theorem rO:∀(a b:Val),bQ b a= - bQ a b
 | .mk k n s ks,.mk k' n' s' ks'=>by
  rw[zw,zw,anp k k',anp n n',auU s s',ah4 ks ks',Y2,Y2,Y2]
theorem ah4:∀(asx bs:Af),eZ bs asx= - eZ asx bs
 |[],[]=>by simp[eZ]
 |[],_::_=>by simp[eZ]
 |_::_,[]=>by simp[eZ]
 |a::asx,b::bs=>by
  rw[uo,uo,rO a b,ah4 asx bs,Y2]
end
mutual
theorem BF:∀(a b c:Val),bQ a b<0→bQ b c<0→bQ a c<0
 | .mk k n s ks,.mk k' n' s' ks',.mk k'' n'' s'' ks'',h1,h2=>by
  rw[zw,zy,zy,zy,ad7,pF,ad7,pF,Qp]at h1 h2⊢;rcases h1 with h1|⟨rfl,h1⟩
  ·rcases h2 with h2|⟨rfl,h2⟩
   ·left;omega
   ·left;exact h1
  ·rcases h2 with h2|⟨rfl,h2⟩
   ·left;exact h2
   ·right;refine⟨rfl,?_⟩;rcases h1 with h1|⟨rfl,h1⟩
    ·rcases h2 with h2|⟨rfl,h2⟩
     ·left;omega
     ·left;exact h1
    ·rcases h2 with h2|⟨rfl,h2⟩
     ·left;exact h2
     ·right;refine⟨rfl,?_⟩;rcases h1 with h1|⟨rfl,h1⟩
      ·rcases h2 with h2|⟨rfl,h2⟩
       ·left;exact aDC _ _ _ h1 h2
       ·left;exact h1
      ·rcases h2 with h2|⟨rfl,h2⟩
       ·left;exact h2
       ·right;exact⟨rfl,asC ks ks' ks'' h1 h2⟩
theorem asC:∀(asx bs cs:Af),eZ asx bs<0→eZ bs cs<0→eZ asx cs<0
 |[],[],_,h,_=>by simp[eZ]at h
 |_::_,[],_,h,_=>by simp[eZ]at h
 |[],_::_,[],_,h=>by simp[eZ]at h
 |[],_::_,_::_,_,_=>by simp[eZ]
 |_::_,_::_,[],_,h=>by simp[eZ]at h
 |a::asx,b::bs,c::cs,h1,h2=>by
  rw[uo,zy,gF]at h1 h2⊢;rcases h1 with h1|⟨rfl,h1⟩
  ·rcases h2 with h2|⟨rfl,h2⟩
   ·left;exact BF a b c h1 h2
   ·left;exact h1
  ·rcases h2 with h2|⟨rfl,h2⟩
   ·left;exact h2
   ·right;exact⟨rfl,asC asx bs cs h1 h2⟩
end
def Wt(a b:Val):Bool:=decide (bQ a b<=0)
def ay1(a b c:Val)(h1:Wt a b=true)(h2:Wt b c=true):Wt a c=true:=by
 simp only[Wt,decide_eq_true_eq]at *;rcases qCX h1 with h1|h1
 ·rcases qCX h2 with h2|h2
  ·exact qDk (BF a b c h1 h2)
  rw[(gF b c).1 h2]at h1;exact qDk h1
 rw[(gF a b).1 h1];exact h2
def iA(a b:Val):Prop:=bQ a b<0
def oG(a:Val):¬iA a a:=by have:=(gF a a).2 rfl;unfold iA;omega
def acr{a b:Val}(h:iA a b):¬iA b a:=by unfold iA at *;rw[rO a b];omega
def Hr(a:Val):Af->Af|[]=>[a]|b::l=>cond (decide (bQ a b<0)) (a::b::l) (cond (bQ a b==0) (b::l) (b::Hr a l))
def sortV:Af->Af|[]=>[]|a::l=>Hr a (sortV l)
def agP(a:Val):∀(l:Af) (x:Val),x∈Hr a l↔x=a∨x∈l
 |[],x=>by simp[Hr]
 |b::l,x=>by
  unfold Hr;by_cases h:bQ a b<0
  ·simp[h]
  by_cases c:bQ a b=0
  ·have:=(gF a b).1 c;subst this;simp[c]
  have e:(bQ a b==0)=false:=by simp[c]
  simp only[h,decide_false,cond_false,e,qAh,agP a l x];constructor
  ·rintro(h|h|h)
   ·exact .inr (.inl h)
   ·exact .inl h
   exact .inr (.inr h)
  rintro(h|h|h)
  ·exact .inr (.inl h)
  ·exact .inl h
  exact .inr (.inr h)
def afX(a:Val):∀(l:Af),l.Pairwise iA->(Hr a l).Pairwise iA
 |[],_=>by simp[Hr]
 |b::l,h=>by
  have d:=qBn.1 h;unfold Hr;by_cases c:bQ a b<0
  ·simp only[c,decide_true,cond_true];refine qBn.2 ⟨λx hx=>?_,h⟩;rcases qAh.1 hx with rfl|hx
   ·exact c
   exact BF a b x c (d.1 x hx)
  by_cases f:bQ a b=0
  ·simp[f];exact qBn.1 h
  have e:(bQ a b==0)=false:=by simp[f]
  simp only[c,decide_false,cond_false,e];refine qBn.2 ⟨λx hx=>?_,afX a l d.2⟩;rcases(agP a l x).1 hx with rfl|hx
  ·show bQ b x<0;rw[rO x b];omega
  exact d.1 x hx
def aV:∀(l:Af) (x:Val),x∈sortV l↔x∈l|[],x=>by simp[sortV]|a::l,x=>by rw[sortV,agP,aV l x];simp
def cZ:∀(l:Af),(sortV l).Pairwise iA|[]=>by simp[sortV]|a::l=>afX a _ (cZ l)
def Bv:∀(l m:Af),l.Pairwise iA->m.Pairwise iA->(∀x,x∈l↔x∈m)->l=m
 |[],[],_,_,_=>rfl
 |[],b::m,_,_,h=>by have:=(h b).2 cn;cases this
 |a::l,[],_,_,h=>by have:=(h a).1 cn;cases this
 |a::l,b::m,g,i,h=>by
  have d:=qBn.1 g;have f:=qBn.1 i;have e:a=b:=by
   rcases qAh.1 ((h a).1 cn)with e|ha
   ·exact e
   rcases qAh.1 ((h b).2 cn)with e|hb
   ·exact e.symm
   exact absurd (d.1 b hb) (acr (f.1 a ha))
  subst e;rw[Bv l m d.2 f.2 λx=>?_];constructor
  ·intro c;rcases qAh.1 ((h x).1 (by simp[c]))with e|hx'
   ·exact absurd (e▸d.1 x c) (oG a)
   exact hx'
  intro c;rcases qAh.1 ((h x).2 (by simp[c]))with e|hx'
  ·exact absurd (e▸f.1 x c) (oG a)
  exact hx'
def vw{l m:Af}(a:m.Pairwise iA)(h:∀x,x∈m↔x∈l):m=sortV l:=
 Bv _ _ a (cZ l) λx=>by rw[h x,aV]
def eP(l:Af):(sortV l).length<=l.length:=by
 have k:∀(a:Val) (l:Af),(Hr a l).length<=l.length+1:=λa l=>by
  induction l with|nil=>simp[Hr]|cons b l i=>
   unfold Hr
   grind
 induction l with|nil=>simp[sortV]|cons a l i=>rw[sortV];have:=k a (sortV l);simp;omega
def Df(_:Nat)(p:Af):Option Af:=app 56 ([]:Af) p
def jZ(_:Nat)(p:Af):Option Af:=app 56 ([]:Af) p
def zq(_:Nat)(p:List Af):Option (List Af):=app 24 ([]:List Af) p
def yA(_:Nat)(p:Af):Option Af:=some p
def kH(_:Nat)(p:Af):Option Af:=(app 56 ([]:Af) p).bind λr=>some (sortV r)
def Fw(_:Nat)(k:Int):Option Af:=bif decide (0<=k)&&decide (k*56<=140737488355328)then some []else none
def BX(n:Nat)(p:Str)(a:Int)(r:(Af×Int)->Option (LR Af Af))(s1:Af×Int):Option (LR Af Af):=cond (decide (s1.2<a)) ((app 56 s1.1 ([(Val.mk 3 s1.2 p ([]))])).bind λ(x:Af)=>r (x,(s1.2+1))) (some (.nx s1.1))
def al0(n:Nat)(p:Str)(a:Int)(k:Nat):(Af×Int)->Option (LR Af Af):=aL (BX n p a) k
def MH(n:Nat)(p:Str)(a:Int):Option Af:=(al0 n p a n (([]:Af),0)).bind (LR.el (λ(s:Af)=>some s) (λr=>some r))
def asI(n:Nat)(p:Bk)(a:Str)(r:Int->Option (LR Unit Int))(s1:Int):Option (LR Unit Int):=cond (decide (s1<(p.length:Int))) ((idx p s1).bind λ(x:Str)=>cond (a==x) (some (.rt s1)) (r (s1+1))) (some (.nx ()))
def ae8(n:Nat)(p:Bk)(a:Str)(k:Nat):Int->Option (LR Unit Int):=aL (asI n p a) k
def Y1(n:Nat)(p:Bk)(a:Str):B0:=(ae8 n p a n 0).bind (LR.el (λ(s:Unit)=>some (-1)) (λr=>some r))
def FN(n:Nat)(p:A7)(c:A2)(a:Str)(r:Int->Option (LR Unit (PZ Val Unit)))(s:Int):Option (LR Unit (PZ Val Unit)):=cond (decide (s<(p.length:Int))) ((idx p s).bind λ(x:Carrier)=>cond (x.name==a) ((idx c s).bind λ(d:Int)=>(MH n x.name d).bind λ(e:Af)=>some (.rt (.ok (Val.mk 5 0 ([]:Str) e)))) ((Y1 n x.elems a).bind λ(b:Int)=>cond (decide (0<=b)) (some (.rt (.ok (Val.mk 3 b x.name ([]))))) (r (s+1)))) (some (.nx ()))
def YV(n:Nat)(p:A7)(a:A2)(b:Str)(k:Nat):Int->Option (LR Unit (PZ Val Unit)):=aL (FN n p a b) k
def adY(n:Nat)(a:A7)(d:A4)(b:A2)(c:List (Str×Val))(e:At)(p:Str):Option (PZ Val Unit):=((mel (dn c p) (some (false,0,0,([]:Str),([]:Af))) (λ(x:Val)=>some (true,x.kind,x.n,x.name,x.kids))):Option (Bool×Int×Int×Str×Af)).bind λ(s:Bool×Int×Int×Str×Af)=>cond s.1 (some (.ok (Val.mk s.2.1 s.2.2.1 s.2.2.2.1 s.2.2.2.2))) ((YV n a b p n 0).bind (LR.el (λ(f:Unit)=>some (.er 6 ())) (λr=>some r)))
def nY(n:Nat)(cs:A7)(ds:A4)(s:A2)(m:List (Str×Val))(o:At)(a:Str):Option (PZ Val Unit):=
 match o.reverse.find? (λb=>b.name==a)with|some b=>some (.ok b.v)|none=>adY n cs ds s m o a
end Abs
end Go.Proofs.YtneeginmfjageaaGreat
