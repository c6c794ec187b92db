/-
  The operations on typed values. Conditions: none; definitions.
-/
import Derived.Lib.Bytealg
import Derived.Test.YthgdaonechbgmaaGreatCAbs24oxc03210
set_option linter.all false
namespace Go.Proofs.YthgdaonechbgmaaGreat
namespace Abs
section
open Go
noncomputable section
def ET.seg:(e:ET)→e.D→TV
 | .i,x=>.lf (.n .i64) x| .u,x=>.lf (.n .u8) x| .s,x=>.lf .s x| .b,x=>.lf .b x
 | .car,x=>.lf (.t .car) x| .dec,x=>.lf (.t .dec) x| .ty,x=>.lf (.t .ty) x| .tm,x=>.lf (.t .tm) x| .env,x=>.lf (.t .env) x| .val,x=>.lf (.t .val) x
 | .bnd,x=>.lf (.t .bnd) x| .vals,x=>.lf (.l .val) x| .tms,x=>.lf (.l .tm) x
def comps(e:ET)(x:e.D):List TV:=(fF e.cs (e.un x)).map fun u=>.lf u.t u.x
def width:TV→Nat
 | .lf (.t e) _=>e.sz
 |_=>1
def widths:List TV→Nat
 |[]=>0
 |v::vs=>width v+widths vs
def scB(H:List TObj):TV→Bool
 | .unk=>false
 | .agg _=>false
 | .tup _=>false
 | .lf (.m _) _=>false
 | .own l=>match nth .dead H l with
  | .own _ _=>true
  | .gone _ _=>true
  |_=>false
 | .psl l _ none=>match nth .dead H l with
  | .arr _ _=>true
  | .gon _=>true
  |_=>false
 |_=>true
def ai6(H:List TObj):List TV→Bool
 |[]=>true
 |v::vs=>scB H v&&ai6 H vs
section
variable {γ:Type}
def splitK:Nat→List TV→Nat→(List TV→List TV→Option γ)→Option γ
 |0,_,_,_=>none
 |f+1,cs,n,K=>match n with
  |0=>K [] cs
  |m+1=>match cs with
   |[]=>none
   |c::r=>bif Nat.ble (width c) (m+1)then splitK f r (m+1 - width c) fun a b=>K (c::a) b else match c with
    | .lf (.t e) x=>splitK f (comps e x++r) (m+1) K
    |_=>none
def vS(cs:List TV)(off:Nat)(new:List TV)(K:List TV→Option γ):Option γ:=splitK 99 cs off fun a b=>splitK 99 b (widths new) fun _ r=>K (a++(new++r))
def apu:Nat→List TV→(TV→Option γ)→Option γ
 |0,_,_=>none
 |f+1,cs,K=>match cs with
  |[]=>none
  |c::_=>match c with
   | .lf (.t e) x=>apu f (comps e x) K
   |v=>K v
def ady:List TV→TV
 |[.lf (.t e) x]=>.lf (.t e) x
 |cs=>.agg cs
def ldK(τ:Nat→TI)(t:TypeId)(off:Nat)(cs:List TV)(K:TV→Option γ):Option γ:=
 match(τ t).agg with
 |some true=>match(τ t).size with
  |some n=>splitK 60 cs off fun _ b=>splitK 60 b n fun c _=>K (ady c)
  |none=>none
 |some false=>splitK 60 cs off fun _ b=>apu 60 b K
 |none=>none
def F9(H:List TObj):TV→Option (List TV)
 | .agg cs=>some cs
 | .unk=>none
 | .tup _=>none
 | .lf (.m _) _=>none
 | .nat n=>some [.lf (.n .i64) (n:Int)]
 | .own l=>match nth .dead H l with
  | .own _ _=>some [.own l]
  | .gone _ _=>some [.own l]
  |_=>none
 | .psl l z none=>match nth .dead H l with
  | .arr _ _=>some [.psl l z none]
  | .gon _=>some [.psl l z none]
  |_=>none
 |v=>some [v]
def vH(H:List TObj)(w:Bool)(t:LT)(v:TV)(K:U→Option γ):Option γ:=
 match v with
 | .lf t' x=>K ⟨t',x⟩
 | .nat n=>K ⟨.n .i64,(n:Int)⟩
 | .nils=>bif w then(match t with| .l e=>K ⟨.l e,[]⟩|_=>none)else none
 | .nilp=>bif w then(match t with| .f e=>K ⟨.f e,[]⟩|_=>none)else none
 | .own l=>bif w then(match nth .dead H l with| .own e xs=>K ⟨.l e,xs⟩| .gone e xs=>K ⟨.l e,xs⟩|_=>none)else none
 |_=>none
def aii(L:LT→List TV→(U→List TV→Option γ)→Option γ):List LT→List TV→(List U→List TV→Option γ)→Option γ
 |[],cs,K=>K [] cs
 |t::ts,cs,K=>L t cs fun u r=>aii L ts r fun us r=>K (u::us) r
def TF(H:List TObj)(w:Bool):Nat→LT→List TV→(U→List TV→Option γ)→Option γ
 |0,_,_,_=>none
 |f+1,t,cs,K=>match cs with
  |[]=>none
  |c::r=>match c with
   | .lf (.t e') x=>match LT.eq? (.t e') t with
    |some _=>K ⟨.t e',x⟩ r
    |none=>match t with
     | .t e=>bif Nat.ble e.sz e'.sz then TF H w f t (comps e' x++r) K else aii (TF H w f) e.cs cs fun us r=>AJ e.cs us fun y=>K ⟨.t e,e.mk y⟩ r
     |t=>TF H w f t (comps e' x++r) K
   |v=>match t with
    | .t e=>aii (TF H w f) e.cs cs fun us r=>AJ e.cs us fun y=>K ⟨.t e,e.mk y⟩ r
    |t=>vH H w t v fun u=>K u r
def JE(H:List TObj)(e:ET)(v:TV)(K:e.D→Option γ):Option γ:=
 match F9 H v with
  |some cs=>TF H true 60 (.t e) cs fun u r=>match r with|[]=>kZ (.t e) u K|_=>none
  |none=>none
def apq(H:List TObj)(e:ET)(v:TV)(K:e.D→Option γ):Option γ:=
 match e with
 | .i=>vH H true (.n .i64) v fun u=>kZ (.n .i64) u K
 | .u=>vH H true (.n .u8) v fun u=>kZ (.n .u8) u K
 | .s=>vH H true .s v fun u=>kZ .s u K
 | .b=>vH H true .b v fun u=>kZ .b u K
 | .car=>JE H .car v K| .dec=>JE H .dec v K| .ty=>JE H .ty v K| .tm=>JE H .tm v K| .env=>JE H .env v K| .val=>JE H .val v K
 | .bnd=>JE H .bnd v K
 | .vals=>vH H true (.l .val) v fun u=>kZ (.l .val) u K
 | .tms=>vH H true (.l .tm) v fun u=>kZ (.l .tm) u K
end
end
end
section
open Go
noncomputable section
inductive TWr where
 |sl (n:Nat) (v:TV)
 |ob (l:Nat) (o:TObj)
 |st (l off:Nat) (vs:List TV)
 |kill (l:Nat)
 |nw (l:Nat) (o:TObj)
 |up (l:Nat) (i:Int) (e:ET) (y:e.D)
def fP(d:Option Tmp)(v:TV):List TWr:=match d with|some n=>[.sl n v]|none=>[]
def amk:Value→TV
 | .int k n=>bif decide (k.min≤n)&&decide (n≤k.max)then .lf (.n k) n else .unk
 | .bool b=>.lf .b b
 | .string s=>bif decide (s.data.toList.length≤9223372036854775807)then .lf .s s.data.toList else .unk
 | .pointer none=>.nilp
 | .slice none 0 0=>.nils
 | .nilFunc=>.nilF
 |_=>.unk
def aB8:Value→TV
 | .agg cs=>.agg (cs.toList.map amk)
 |v=>amk v
def Ye:AV→TV
 | .int k n=>.lf (.n k) n
 | .bool b=>.lf .b b
 | .str s=>.lf .s s
 | .nilp=>.nilp
 | .slice [] .nils=>.nils
 | .nilFunc=>.nilF
 |_=>.unk
def okA:AV→Bool
 | .int _ _=>true
 | .bool _=>true
 | .str _=>true
 | .nilp=>true
 | .slice [] .nils=>true
 | .nilFunc=>true
 | .unk=>true
 |_=>false
def acw:List AV→Bool
 |[]=>true
 |a::asz=>okA a&&acw asz
def acg:AV→TV
 | .agg cs=>.agg (cs.map Ye)
 |v=>Ye v
def okZ:AV→Bool
 | .agg cs=>acw cs
 |v=>okA v
def mh:TObj→Bool
 | .res=>true
 |_=>false
def gq(regs:List TV):Operand→TV
 | .tmp n=>nth .unk regs n
 | .const v=>aB8 v
 | .func f=>.func f []
 | .global _=>.unk
def mem(l:List Nat)(n:Nat):Bool:=List.rec (motive:=fun _=>Bool) false (fun x _ ih=>bif Nat.beq x n then true else ih) l
def as1(k:IntKind)(a c:Int):Option Int:=if 0≤c∧c≤k.bits then some (a.fdiv (2^c.toNat))else none
def abO(a c:Int):Option Int:=if c=0 then none else some (IntKind.wrap .i64 (a.tdiv c))
section
variable {γ:Type}
def apl:Int→Bool
 | .ofNat 1=>true
 |_=>false
def Ot(v:TV)(K:IntKind→Int→Option γ):Option γ:=match v with
 | .lf (.n k) x=>K k x
 | .nat n=>K .i64 (n:Int)
 |_=>none
def ay7(k k':IntKind):Bool:=Nat.beq (IntKind.no k) (IntKind.no k')
def isNat:TV→Bool
 | .nat _=>true
 |_=>false
def aqh(p q:Bool)(op:BinOp)(k:IntKind)(a b:Int)(K:TV→Option γ):Option γ:=
 match op with
 | .add=>bif p&&apl b then K (.lf (.n k) (a+b))else K (.lf (.n k) (k.wrap (a+b)))
 | .sub=>bif q&&apl b then K (.lf (.n k) (a - b))else K (.lf (.n k) (k.wrap (a - b)))
 | .mul=>K (.lf (.n k) (k.wrap (a*b)))
 | .quo=>match k with| .i64=>(abO a b).bind fun x=>K (.lf (.n .i64) x)|_=>none
 | .rem=>(Vr a b).bind fun x=>K (.lf (.n k) x)
 | .eql=>K (.lf .b (a==b))
 | .neq=>K (.lf .b (a !=b))
 | .lss=>K (.lf .b (decide (a<b)))
 | .leq=>K (.lf .b (decide (a≤b)))
 | .gtr=>K (.lf .b (decide (b<a)))
 | .geq=>K (.lf .b (decide (b≤a)))
 | .shl=>match k with| .i64=>(adw a b).bind fun x=>K (.lf (.n .i64) x)|_=>none
 | .shr=>(as1 k a b).bind fun x=>K (.lf (.n k) x)
 |_=>none
def aB6(op:BinOp)(a b:Str)(K:TV→Option γ):Option γ:=
 match op with
 | .add=>(awL a b).bind fun x=>K (.lf .s x)
 | .eql=>K (.lf .b (a==b))
 | .neq=>K (.lf .b (!(a==b)))
 | .lss=>K (.lf .b (Op.bytesLess a b))
 | .leq=>K (.lf .b (Op.bytesLess a b ||a==b))
 | .gtr=>K (.lf .b (!(Op.bytesLess a b ||a==b)))
 | .geq=>K (.lf .b (!(Op.bytesLess a b)))
 |_=>none
def aDD(op:BinOp)(a b:Bool)(K:TV→Option γ):Option γ:=match op with
 | .eql=>K (.lf .b (a==b))
 | .neq=>K (.lf .b (!(a==b)))
 |_=>none
def aCm(τ:Nat→TI)(p o:Bool)(op:BinOp)(t:TypeId)(x y:TV)(K:TV→Option γ):Option γ:=
 match y with
 | .nilp=>bif (τ t).isPtr then(match op,x with
  | .eql,.nilp=>K (.lf .b true)
  | .neq,.nilp=>K (.lf .b false)
  | .eql,.ptr _ _=>K (.lf .b false)
  | .neq,.ptr _ _=>K (.lf .b true)
  | .eql,.eptr _=>K (.lf .b false)
  | .neq,.eptr _=>K (.lf .b true)
  | .eql,.lf (.f _) l=>K (.lf .b (false !=List.isEmpty l))
  | .neq,.lf (.f _) l=>K (.lf .b (true !=List.isEmpty l))
  |_,_=>none)else none
 | .lf .s b=>match x with
  | .lf .s a=>aB6 op a b K
  |_=>none
 | .lf .b b=>match x with
  | .lf .b a=>bif (τ t).isBool then aDD op a b K else none
  |_=>none
 |y=>Ot x fun k a=>Ot y fun k' b=>bif ay7 k k' then aqh (p&&o) (isNat x&&o) op k a b K else none
def ajz(H:List TObj)(v:TV)(K:(e:ET)→List e.D→Option γ):Option γ:=
 match v with
 | .lf (.l e) xs=>K e xs
 | .own l=>match nth .dead H l with
  | .own e xs=>K e xs
  | .gone e xs=>K e xs
  |_=>none
 |_=>none
def Q6(v:Option TV)(d:Int)(K:Int→Option γ):Option γ:=match v with
 |none=>K d
 |some v=>Ot v fun _ n=>K n
def aia(H:List TObj)(place:Nat→Option (Nat×Nat)):List (Nat×TV)→List TV→(List TV→Option γ)→Option γ
 |[],cs,K=>K cs
 |(i,v)::ps,cs,K=>match place i with
  |some (off,sz)=>match F9 H v with
   |some new=>bif Nat.beq (widths new) sz then splitK 99 cs off fun a b=>splitK 99 b sz fun _ d=>aia H place ps (a++(new++d)) K else none
   |none=>none
  |none=>none
def aqS(H:List TObj)(e:ET):Nat→List (Nat×TV)→(List e.D→Option γ)→Option γ
 |_,[],K=>K []
 |i,p::ps,K=>bif Nat.beq p.1 i then apq H e p.2 fun x=>aqS H e (i+1) ps fun xs=>K (x::xs)else none
def acC(e:ET)(sz:Nat):Bool:=Nat.beq e.sz sz
def atK(n:Int):Nat→Nat→(Nat→Option γ)→Option γ
 |0,_,_=>none
 |m+1,q,K=>cond (n==(q:Int)) (K q) (atK n m (q+1) K)
def isZ:Int→Bool
 | .ofNat 0=>true
 |_=>false
def ax1:Operand→Operand→Bool
 | .tmp i,.tmp j=>Nat.beq i j
 |_,_=>false
def aCT:List AV→Bool
 |[.bool false]=>true
 |_=>false
def mkz{α:Type}(n:Int)(v:α):Option (List α):=if 0≤n∧n≤1000000000 then some (List.replicate n.toNat v)else none
def mkS(bytes:Nat)(c:Int):Option Unit:=if 0≤c∧bytes*c≤281474976710656∧c≤140737488355328 then some ()else none
def FJ(len:Nat)(b:Int):Option Nat:=if 0≤b∧b≤len then some b.toNat else none
def R7:TV→TV
 | .nat n=>.lf (.n .i64) (n:Int)
 |v=>v
def dS(τ:Nat→TI)(θ:Nat→Option ET)(up:List Nat)(k:Nat)(d:Option Tmp)(regs:List TV)(H:List TObj)(op:Op)(K:List Nat→List TWr→Option γ):Option γ:=
 match op with
 | .move x=>K [] (fP d (gq regs x))
 | .assign x=>K [] (fP d (gq regs x))
 | .pick c x y=>match gq regs c with
  | .lf .b b=>cond b (K [] (fP d (gq regs x))) (K [] (fP d (gq regs y)))
  |_=>none
 | .nilCheck x=>match gq regs x with
  | .lf (.f e) l=>(unc l).bind fun p=>K [] (fP d (.eptr [e.seg p.1,.lf (.f e) p.2]))
  | .ptr l o=>K [] (fP d (.ptr l o))
  | .eptr cs=>K [] (fP d (.eptr cs))
  | .func f cs=>K [] (fP d (.func f cs))
  |_=>none
 | .binOp op t x y _=>aCm τ (match x with| .tmp i=>mem up i|_=>false) (match y with| .const _=>true|_=>false) op t (gq regs x) (gq regs y) fun v=>K [] (fP d v)
 | .unOp op _ x=>match op,gq regs x with
  | .not,.lf .b b=>K [] (fP d (.lf .b (!b)))
  | .neg,.lf (.n k') n=>K [] (fP d (.lf (.n k') (k'.wrap ((0:Int) - (show Int from n)))))
  |_,_=>none
 | .fieldAddr s x f=>match lk (τ s).field f with
  |some (fo,_)=>match gq regs x with
   | .ptr l o=>K [] (fP d (.ptr l (o+fo)))
   | .eptr cs=>splitK 60 cs fo fun _ b=>K [] (fP d (.eptr b))
   | .ap l i z o=>K [] (fP d (.ap l i z (o+fo)))
   |_=>none
  |none=>none
 | .field s x f=>match lk (τ s).field f with
  |some (fo,t)=>match gq regs x with
   | .agg cs=>ldK τ t fo cs fun v=>K [] (fP d (R7 v))
   | .lf (.t e) y=>ldK τ t fo [.lf (.t e) y] fun v=>K [] (fP d (R7 v))
   |_=>none
  |none=>none
 | .indexAddr t x i=>match(τ t).ix with
  | .sl (some sz)=>Ot (gq regs i) fun _ n=>match gq regs x with
   | .psl l z none=>match nth .dead H l with
    | .arr _ xs=>bif Nat.beq z sz then(idx xs n).bind fun _=>K [] (fP d (.ap l n z 0))else none
    |_=>none
   |v=>ajz H v fun e xs=>bif acC e sz then(idx xs n).bind fun y=>K [] (fP d (.eptr [e.seg y]))else none
  | .arr len (some sz)=>match gq regs x with
   | .ptr l o=>Ot (gq regs i) fun _ n=>atK n len 0 fun q=>K [] (fP d (.ptr l (o+q*sz)))
   |_=>none
  |_=>none
 | .index t x i=>match gq regs x with
  | .lf .s s=>bif (τ t).isStr then Ot (gq regs i) fun _ n=>(oL s n).bind fun y=>K [] (fP d (.lf (.n .u8) y))else none
  |_=>none
 | .extract x i=>match gq regs x with
  | .tup vs=>bif Nat.blt i vs.length then K [] (fP d (R7 (nth .unk vs i)))else none
  |_=>none
 | .slice t x lo hi none=>match gq regs x with
  | .lf .s s=>bif (τ t).isStr then Q6 (lo.map (gq regs)) 0 fun a=>Q6 (hi.map (gq regs)) (s.length:Int) fun b=>(kQ s a b).bind fun y=>K [] (fP d (.lf .s y))else none
  | .psl l z none=>match nth .dead H l,(τ t).slT,lo with
   | .arr _ xs,some _,none=>Q6 (hi.map (gq regs)) (xs.length:Int) fun b=>(FJ xs.length b).bind fun c=>K [] (fP d (.psl l z (some c)))
   |_,_,_=>none
  |v=>match(τ t).slT with
   |some sz=>ajz H v fun e xs=>bif acC e sz then Q6 (lo.map (gq regs)) 0 fun a=>Q6 (hi.map (gq regs)) (xs.length:Int) fun b=>(kQ xs a b).bind fun y=>K [] (fP d (.lf (.l e) y))else none
   |none=>none
 | .build t parts=>bif (τ t).isStruct then(match(τ t).zero with
  |some z=>bif acw z then aia H (lk (τ t).place) (parts.toList.map fun p=>(p.1,gq regs p.2)) (z.map Ye) fun cs=>K [] (fP d (ady cs))else none
  |none=>none)else(match(τ t).ix,(τ t).zero with
  | .arr _ (some sz),some z=>bif acw z then aia H (fun i=>some (i*sz,sz)) (parts.toList.map fun p=>(p.1,gq regs p.2)) (z.map Ye) fun cs=>K [] (fP d (ady cs))else none
  |_,_=>none)
 | .makeFunc (.func f) first cap=>bif Nat.beq first.size 0 then K [] (fP d (.func f (cap.toList.map fun x=>R7 (gq regs x))))else none
 | .load t x=>match gq regs x with
  | .eptr cs=>ldK τ t 0 cs fun v=>K [] (fP d (R7 v))
  | .ptr l off=>match nth .dead H l with
   | .box cs=>ldK τ t off cs fun v=>K [l] (fP d (R7 v))
   |_=>none
  | .ap l i z off=>match nth .dead H l with
   | .arr e xs=>bif Nat.beq z e.sz&&(Nat.beq off 0&&Nat.ble 1 z)then(idx xs i).bind fun y=>ldK τ t 0 [e.seg y] fun v=>K [l] (fP d (R7 v))else none
   |_=>none
  |_=>none
 | .convert s t x=>match gq regs x with
  | .lf (.n _) n=>bif (τ s).int.isSome then(match(τ t).int with|some k=>K [] (fP d (.lf (.n k) (k.wrap n)))|none=>none)else none
  | .nat n=>bif (τ s).int.isSome then(match(τ t).int with|some k=>K [] (fP d (.lf (.n k) (k.wrap (n:Int))))|none=>none)else none
  |_=>none
 | .store t x y=>match gq regs x with
  | .ptr l off=>match F9 H (gq regs y),(τ t).size with
   |some new,some sz=>match nth .dead H l with
    | .box cs=>bif (Nat.beq (widths new) sz&&Nat.ble (off+sz) (widths cs))&&ai6 H new then K [l] (.st l off new::fP d (.tup []))else none
    |_=>none
   |_,_=>none
  | .ap l i z off=>match F9 H (gq regs y),(τ t).size with
   |some new,some sz=>match nth .dead H l with
    | .arr e xs=>bif (Nat.beq (widths new) sz&&(Nat.beq z e.sz&&(Nat.ble 1 sz&&Nat.ble (off+sz) z)))&&ai6 H new then(idx xs i).bind fun x=>vS (comps e x) off new fun cs=>TF H false 60 (.t e) cs fun u r=>match r with
     |[]=>kZ (.t e) u fun y=>K [l] (.up l i e y::fP d (.tup []))
     |_=>none else none
    |_=>none
   |_,_=>none
  |_=>none
 | .alloc t=>match(τ t).zero with
  |some z=>bif acw z&&mh (nth .dead H k)then K [k] (.nw k (.box (z.map Ye))::fP d (.ptr k 0))else none
  |none=>none
 | .box _ x=>match F9 H (gq regs x)with
  |some cs=>bif mh (nth .dead H k)then K [k] (.nw k (.box cs)::fP d (.ptr k 0))else none
  |none=>none
 | .makeMap t none=>match(τ t).smap with
  |some e=>match θ e with
   |some e=>bif mh (nth .dead H k)then K [k] (.nw k (.mp e [])::fP d (.mapr k))else none
   |none=>none
  |none=>none
 | .buildSlice t len parts=>match(τ t).elem with
  |some (et,sz,_)=>match θ et,(τ et).zero with
   |some e,some z=>bif (Nat.beq parts.toList.length len&&(acC e sz&&mh (nth .dead H k)))&&(Nat.beq z.length sz&&(Nat.ble (len*sz) 16777216&&Nat.ble len 16777216))then aqS H e 0 (parts.toList.map fun p=>(p.1,gq regs p.2)) fun xs=>K [k] (.nw k (.own e xs)::fP d (.own k))else none
   |_,_=>none
  |none=>none
 | .makeSlice t x y=>match(τ t).elem with
  |some (et,sz,bytes)=>match θ et,(τ et).zero with
   |some e,some z=>Ot (gq regs x) fun _ l=>Ot (gq regs y) fun _ c=>bif (ax1 x y&&aCT z)&&(Nat.beq sz 1&&(Nat.ble bytes 1000&&mh (nth .dead H k)))then(mkz l false).bind fun xs=>K [k] (.nw k (.arr .b xs)::fP d (.psl k 1 none))else bif isZ l&&(acC e sz&&(Nat.beq z.length sz&&mh (nth .dead H k)))then(mkS bytes c).bind fun _=>K [k] (.nw k (.arr e [])::fP d (.psl k sz none))else none
   |_,_=>none
  |none=>none
 | .call {callee:=.builtin .len,args,argTypes}=>match args.toList,argTypes.toList with
  |[x],[t]=>match gq regs x with
   | .lf .s s=>bif (τ t).isStr then K [] (fP d (.nat s.length))else none
   | .nils=>bif (τ t).slT.isSome then K [] (fP d (.nat 0))else none
   | .psl l _ none=>match nth .dead H l with
    | .arr _ xs=>bif (τ t).slT.isSome then K [] (fP d (.nat xs.length))else none
    |_=>none
   |v=>bif (τ t).slT.isSome then ajz H v fun _ xs=>K [] (fP d (.nat xs.length))else none
  |_,_=>none
 | .call {callee:=.builtin .min,args,argTypes:=_}=>match args.toList with
  |[x,y]=>Ot (gq regs x) fun k a=>Ot (gq regs y) fun k' b=>bif ay7 k k' then K [] (fP d (.lf (.n k) (if b<a then b else a)))else none
  |_=>none
 | .call {callee:=.builtin .append,args,argTypes}=>match args.toList,argTypes.toList with
  |[x,y],[t,t2]=>match(τ t).elem with
   |some (et,sz,bytes)=>match θ et with
    |some e=>bif acC e sz&&((τ t2).isSl&&mh (nth .dead H k))then vH H true (.l e) (gq regs y) fun u=>kZ (.l e) u fun ys=>(match gq regs x with
     | .nils=>(app bytes ([]:List e.D) ys).bind fun r=>K [k] (.nw k (.own e r)::fP d (.own k))
     | .own l=>match nth .dead H l with
      | .own e' xs=>kZ (.l e) ⟨.l e',xs⟩ fun xs=>(app bytes xs ys).bind fun r=>K [l,k] (.kill l:: .nw k (.own e r)::fP d (.own k))
      |_=>none
     | .psl l z none=>match nth .dead H l with
      | .arr e' xs=>bif Nat.beq z sz then kZ (.l e) ⟨.l e',xs⟩ fun xs=>(app bytes xs ys).bind fun r=>K [l,k] (.kill l:: .nw k (.arr e r)::fP d (.psl k z none))else none
      |_=>none
     |_=>none)else none
    |none=>none
   |none=>none
  |_,_=>none
 | .lookup t m key ok=>match(τ t).smap,gq regs m,gq regs key with
  |some et,.mapr l,.lf .s s=>match nth .dead H l,(τ et).zav with
   | .mp e xs,some z=>bif okZ z then mel (dn xs s) (K [l] (fP d (bif ok then .tup [acg z,.lf .b false]else acg z))) fun y=>K [l] (fP d (bif ok then .tup [e.seg y,.lf .b true]else e.seg y))else none
   |_,_=>none
  |_,_,_=>none
 | .mapUpdate t m key x=>match(τ t).smap,gq regs m,gq regs key with
  |some _,.mapr l,.lf .s s=>match nth .dead H l with
   | .mp e xs=>apq H e (gq regs x) fun y=>(yG xs s y).bind fun r=>K [l] (.ob l (.mp e r)::fP d (.tup []))
   |_=>none
  |_,_,_=>none
 |_=>none
end
end
end
section
def aL{σ δ:Type}(body:(σ→Option δ)→σ→Option δ)(n:Nat):σ→Option δ:=Nat.rec (motive:=fun _=>σ→Option δ) (fun _=>none) (fun _ ih=>body ih) n
inductive PZ(α ζ:Type) where
 |ok (x:α)
 |er (e:Int) (z:ζ)
def PZ.el{α ζ β:Type}(f:α→Option β)(g:Int→ζ→Option β):PZ α ζ→Option β
 | .ok x=>f x
 | .er e z=>g e z
end
section
open Go
noncomputable section
mutual
def aDe:Ty→Ty→Bool
 | .mk k s l,.mk k' s' l'=>decide (k=k')&&(s==s'&&agK l l')
def agK:List Ty→List Ty→Bool
 |[],[]=>true
 |x::xs,y::ys=>aDe x y&&agK xs ys
 |_,_=>false
end
inductive CU where
 |n (k:IntKind) (x:Int)|b (x:Bool)|s (x:Str)|l (e:ET)|ly (x:List Ty)
def CU.t:CU→LT
 | .n k _=>.n k| .b _=>.b| .s _=>.s| .l e=>.l e| .ly _=>.l .ty
def CU.x:(c:CU)→c.t.D
 | .n _ x=>x| .b x=>x| .s x=>x| .l _=>[]| .ly x=>x
def CU.is:(c:CU)→c.t.D→Bool
 | .n _ x,y=>decide ((show Int from y)=x)
 | .b x,y=>x==(show Bool from y)
 | .s x,y=>(show Str from y)==x
 | .l e,y=>List.isEmpty (show List e.D from y)
 | .ly x,y=>agK x (show List Ty from y)
inductive Sk where
 |unk|nilp|nilF|nils
 |k (c:CU)
 |lf (t:LT)
 |ptr (l off:Nat)
 |eptr (cs:List Sk)
 |agg (cs:List Sk)
 |tup (cs:List Sk)
 |func (f:Nat) (cs:List Sk)
 |mapr (l:Nat)
 |own (l:Nat)
 |psl (l z:Nat)
inductive HO where
 |dead
 |box (cs:List Sk)
 |bx (l:List (Nat×Sk))
 |own (e:ET)
 |mp (e:ET)
 |arr (e:ET)
inductive Ed where
 |r (n:Nat) (s:Sk)
 |o (l:Nat) (h:HO)
 |w (h:HO)
mutual
def Sk.OP:Sk→List LT
 | .lf t=>[t]
 | .eptr cs=>Sk.Vy cs
 | .agg cs=>Sk.Vy cs
 | .tup cs=>Sk.Vy cs
 | .func _ cs=>Sk.Vy cs
 | .unk=>[]| .nilp=>[]| .nilF=>[]| .nils=>[]| .k _=>[]| .ptr _ _=>[]| .mapr _=>[]| .own _=>[]| .psl _ _=>[]
def Sk.Vy:List Sk→List LT
 |[]=>[]
 |s::ss=>s.OP++Sk.Vy ss
end
def HO.OP:HO→List LT
 | .dead=>[]
 | .box cs=>Sk.Vy cs
 | .bx l=>l.flatMap fun p=>p.2.OP
 | .own e=>[.l e]
 | .mp e=>[.m e]
 | .arr e=>[.l e]
def bM:List Ed→List LT
 |[]=>[]
 | .r _ s::es=>s.OP++bM es
 | .o _ h::es=>h.OP++bM es
 | .w h::es=>h.OP++bM es
section
variable {β:Type}
def Ar{α:Type}(l:List α):Nat→α→(List α→β)→β:=
 List.rec (motive:=fun _=>Nat→α→(List α→β)→β) (fun _ _ K=>K []) (fun x xs ih n v K=>Nat.rec (motive:=fun _=>β) (K (v::xs)) (fun m _=>ih m v fun ys=>K (x::ys)) n) l
def aDj{α:Type}(l:List α):α→(List α→β)→β:=
 List.rec (motive:=fun _=>α→(List α→β)→β) (fun v K=>K [v]) (fun x _ ih v K=>ih v fun ys=>K (x::ys)) l
mutual
def fill(g:Nat→Nat):Sk→List U→(TV→List U→β)→β
 | .unk,us,K=>K .unk us
 | .nilp,us,K=>K .nilp us
 | .nilF,us,K=>K .nilF us
 | .k c,us,K=>K (.lf c.t c.x) us
 | .nils,us,K=>K .nils us
 | .lf _,us,K=>match us with
  |u::us=>K (.lf u.t u.x) us
  |[]=>K .unk []
 | .ptr l o,us,K=>K (.ptr (g l) o) us
 | .eptr cs,us,K=>fills g cs us fun vs us=>K (.eptr vs) us
 | .agg cs,us,K=>fills g cs us fun vs us=>K (.agg vs) us
 | .tup cs,us,K=>fills g cs us fun vs us=>K (.tup vs) us
 | .func f cs,us,K=>fills g cs us fun vs us=>K (.func f vs) us
 | .mapr l,us,K=>K (.mapr (g l)) us
 | .own l,us,K=>K (.own (g l)) us
 | .psl l z,us,K=>K (.psl (g l) z none) us
def fills(g:Nat→Nat):List Sk→List U→(List TV→List U→β)→β
 |[],us,K=>K [] us
 |s::ss,us,K=>fill g s us fun v us=>fills g ss us fun vs us=>K (v::vs) us
end
def Ze(g:Nat→Nat):List (Nat×Sk)→Option (List TV)→List U→(Option (List TV)→List U→β)→β
 |[],c,us,K=>K c us
 |p::ps,c,us,K=>fill g p.2 us fun v us=>match c with
  |none=>Ze g ps none us K
  |some cs=>match vS cs p.1 [v] some with
   |some cs=>Ze g ps (some cs) us K
   |none=>Ze g ps none us K
def UG(g:Nat→Nat)(o:TObj):HO→List U→(TObj→List U→β)→β
 | .dead,us,K=>K .dead us
 | .box cs,us,K=>fills g cs us fun vs us=>K (.box vs) us
 | .bx l,us,K=>match o with
  | .box cs=>Ze g l (some cs) us fun c us=>match c with
   |some cs=>K (.box cs) us
   |none=>K .dead us
  |_=>Ze g l none us fun _ us=>K .dead us
 | .own _,us,K=>match us with
  |⟨.l e,xs⟩::us=>K (.own e xs) us
  |us=>K .dead us
 | .mp _,us,K=>match us with
  |⟨.m e,xs⟩::us=>K (.mp e xs) us
  |us=>K .dead us
 | .arr _,us,K=>match us with
  |⟨.l e,xs⟩::us=>K (.arr e xs) us
  |us=>K .dead us
def Qw(g:Nat→Nat):List Ed→List U→List TV→List TObj→(List TV→List TObj→β)→β
 |[],_,t,h,K=>K t h
 | .r n s::es,us,t,h,K=>fill g s us fun v us=>Ar t n v fun t=>Qw g es us t h K
 | .o l s::es,us,t,h,K=>UG g (nth .dead h l) s us fun v us=>Ar h l v fun h=>Qw g es us t h K
 | .w s::es,us,t,h,K=>UG g .dead s us fun v us=>aDj h v fun h=>Qw g es us t h K
end
def yg:Sk→Nat
 | .lf (.t e)=>e.sz
 |_=>1
mutual
def awP:Sk→TV→List (Nat×Nat)
 | .ptr j _,v=>match v with| .ptr l _=>[(j,l)]|_=>[]
 | .mapr j,v=>match v with| .mapr l=>[(j,l)]|_=>[]
 | .own j,v=>match v with| .own l=>[(j,l)]|_=>[]
 | .psl j _,v=>match v with| .psl l _ _=>[(j,l)]|_=>[]
 | .eptr cs,v=>match v with| .eptr vs=>XP cs vs|_=>[]
 | .agg cs,v=>match v with| .agg vs=>XP cs vs|_=>[]
 | .tup cs,v=>match v with| .tup vs=>XP cs vs|_=>[]
 | .func _ cs,v=>match v with| .func _ vs=>XP cs vs|_=>[]
 |_,_=>[]
def XP:List Sk→List TV→List (Nat×Nat)
 |s::ss,v::vs=>awP s v++XP ss vs
 |_,_=>[]
end
def asc(m:List (Nat×Nat))(j:Nat):Option Nat:=match m with
 |[]=>none
 |p::r=>bif Nat.beq p.1 j then some p.2 else asc r j
def aDm(H:List TObj)(m:List (Nat×Nat))(j:Nat):HO→List (Nat×Nat)
 | .box cs=>match asc m j with
  |some l=>match nth .dead H l with
   | .box vs=>XP cs vs
   |_=>[]
  |none=>[]
 | .bx is=>match asc m j with
  |some l=>match nth .dead H l with
   | .box vs=>is.flatMap fun p=>awP p.2 ((splitK 99 vs p.1 fun _ b=>b.head?).getD .unk)
   |_=>[]
  |none=>[]
 |_=>[]
def Py(t:List TV)(H:List TObj):Nat→List Ed→List (Nat×Nat)→List (Nat×Nat)
 |_,[],m=>m
 |j,.r n s::es,m=>Py t H j es (m++awP s (nth .unk t n))
 |j,.o l h::es,m=>Py t H j es (m++aDm H (m++[(l,l)]) l h)
 |j,.w h::es,m=>Py t H (j+1) es (m++aDm H m j h)
def aD:List Ed→Nat
 |[]=>0
 | .w _::es=>aD es+1
 |_::es=>aD es
def aLF:TV→Bool
 | .lf (.t _) _=>true
 |_=>false
def hd1{γ:Type}(vs:List TV)(F:TV→List TV→Option γ):Option γ:=match vs with
 |[]=>none
 |v::r=>bif aLF v then none else F v r
def oeq(a:Option Nat)(l:Nat):Bool:=match a with|some x=>Nat.beq x l|none=>false
section
variable {γ:Type}
mutual
def ext(m:Nat)(H:List TObj)(L:Nat→Option Nat):Sk→TV→(List U→Option γ)→Option γ
 | .unk,v,K=>match m with
  |0=>match v with| .unk=>K []|_=>none
  |_=>K []
 | .nilp,v,K=>match v with| .nilp=>K []|_=>none
 | .nilF,v,K=>match v with| .nilF=>K []|_=>none
 | .k c,v,K=>vH H (Nat.ble 1 m) c.t v fun u=>kZ c.t u fun x=>bif c.is x then K []else none
 | .nils,v,K=>match v with| .nils=>K []|_=>none
 | .lf t,v,K=>match t with
  | .t e=>bif e.sc then none else match F9 H v with
   |some cs=>TF H (Nat.ble 1 m) 60 (.t e) cs fun u r=>match r with|[]=>kZ (.t e) u fun x=>K [⟨.t e,x⟩]|_=>none
   |none=>none
  |t=>vH H (Nat.ble 1 m) t v fun u=>kZ t u fun x=>K [⟨t,x⟩]
 | .ptr j o,v,K=>match v with| .ptr l o'=>bif Nat.beq o o'&&oeq (L j) l then K []else none|_=>none
 | .mapr j,v,K=>match v with| .mapr l=>bif oeq (L j) l then K []else none|_=>none
 | .own j,v,K=>match v with
  | .own l=>bif oeq (L j) l then K []else none
  | .nils=>bif Nat.ble 2 m&&(L j).isNone then K []else none
  |_=>none
 | .psl j z,v,K=>match v with
  | .psl l z' none=>bif oeq (L j) l&&Nat.beq z z' then K []else none
  | .nils=>bif Nat.ble 2 m&&(L j).isNone then K []else none
  |_=>none
 | .eptr cs,v,K=>match v with
  | .eptr vs=>rP 0 H L cs vs K
  |_=>none
 | .agg cs,v,K=>match v with
  | .agg vs=>rP m H L cs vs K
  | .lf (.t e) x=>rP m H L cs [.lf (.t e) x] K
  |_=>none
 | .tup cs,v,K=>match v with
  | .tup vs=>amj (bif Nat.ble 2 m then m else 0) H L cs vs K
  |_=>none
 | .func f cs,v,K=>match v with
  | .func f' vs=>bif Nat.beq f f' then amj (bif Nat.ble 2 m then m else 0) H L cs vs K else none
  |_=>none
def amj(m:Nat)(H:List TObj)(L:Nat→Option Nat):List Sk→List TV→(List U→Option γ)→Option γ
 |[],vs,K=>match vs with|[]=>K []|_=>none
 |s::ss,vs,K=>match vs with
  |[]=>none
  |v::r=>ext m H L s v fun us=>amj m H L ss r fun us'=>K (us++us')
def rP(m:Nat)(H:List TObj)(L:Nat→Option Nat):List Sk→List TV→(List U→Option γ)→Option γ
 |[],vs,K=>match vs with|[]=>K []|_=>none
 |s::ss,vs,K=>match s with
  | .lf t=>TF H (Nat.ble 1 m) 60 t vs fun u r=>kZ t u fun x=>rP m H L ss r fun us=>K (⟨t,x⟩::us)
  | .k c=>TF H (Nat.ble 1 m) 60 c.t vs fun u r=>kZ c.t u fun x=>bif c.is x then rP m H L ss r K else none
  |s=>hd1 vs fun v r=>ext m H L s v fun us=>rP m H L ss r fun us'=>K (us++us')
end
def axj(m:Nat)(H:List TObj)(L:Nat→Option Nat)(vs:List TV):List (Nat×Sk)→(List U→Option γ)→Option γ
 |[],K=>K []
 |p::ps,K=>splitK 99 vs p.1 fun _ b=>splitK 99 b (yg p.2) fun c _=>rP m H L [p.2] c fun us=>axj m H L vs ps fun us'=>K (us++us')
def al6(m:Nat)(H:List TObj)(L:Nat→Option Nat)(o:TObj):HO→(List U→Option γ)→Option γ
 | .dead,K=>K []
 | .box cs,K=>match o with| .box vs=>rP m H L cs vs K|_=>none
 | .bx l,K=>match o with| .box vs=>axj m H L vs l K|_=>none
 | .own e,K=>match o with| .own e' xs=>kZ (.l e) ⟨.l e',xs⟩ fun x=>K [⟨.l e,x⟩]|_=>none
 | .mp e,K=>match o with| .mp e' xs=>kZ (.m e) ⟨.m e',xs⟩ fun x=>K [⟨.m e,x⟩]|_=>none
 | .arr e,K=>match o with| .arr e' xs=>kZ (.l e) ⟨.l e',xs⟩ fun x=>K [⟨.l e,x⟩]|_=>none
def BS(m mo:Nat)(t:List TV)(H:List TObj)(L:Nat→Option Nat):Nat→List Ed→(List U→Option γ)→Option γ
 |_,[],K=>K []
 |j,.r n s::es,K=>ext m H L s (nth .unk t n) fun us=>BS m mo t H L j es fun us'=>K (us++us')
 |j,.o l h::es,K=>al6 mo H L (nth .dead H l) h fun us=>BS m mo t H L j es fun us'=>K (us++us')
 |j,.w h::es,K=>match L j with
  |some l=>al6 mo H L (nth .dead H l) h fun us=>BS m mo t H L (j+1) es fun us'=>K (us++us')
  |none=>match h with
   | .own e=>bif Nat.ble 2 m then BS m mo t H L (j+1) es fun us'=>K (⟨.l e,[]⟩::us')else none
   | .arr e=>bif Nat.ble 2 m then BS m mo t H L (j+1) es fun us'=>K (⟨.l e,[]⟩::us')else none
   |_=>none
end
mutual
def rfB(n:Nat):TV→Bool
 | .ptr l _=>Nat.blt l n
 | .mapr l=>Nat.blt l n
 | .own l=>Nat.blt l n
 | .psl l _ _=>Nat.blt l n
 | .ap l _ _ _=>Nat.blt l n
 | .eptr cs=>jw n cs
 | .agg cs=>jw n cs
 | .tup cs=>jw n cs
 | .func _ cs=>jw n cs
 | .unk=>true| .nilp=>true| .nilF=>true| .nils=>true| .lf _ _=>true| .nat _=>true
def jw(n:Nat):List TV→Bool
 |[]=>true
 |v::vs=>rfB n v&&jw n vs
end
def Ji(n:Nat):List TObj→Bool
 |[]=>true
 |o::os=>(match o with| .box cs=>jw n cs| .res=>false|_=>true)&&Ji n os
def fO(n:Nat):List Nat→List Nat→List Ed→Bool
 |_,_,[]=>true
 |ss,os,.r k _::es=>!(mem ss k)&&fO n (k::ss) os es
 |ss,os,.o l _::es=>Nat.blt l n&&(!(mem os l)&&fO n ss (l::os) es)
 |ss,os,.w _::es=>fO n ss os es
def aec(l:Nat):List Ed→Bool
 |[]=>false
 | .o l' h::es=>(Nat.beq l l'&&(match h with| .dead=>true|_=>false)) ||aec l es
 |_::es=>aec l es
def asB(n len:Nat)(L:Nat→Option Nat)(eds:List Ed):Nat→Nat→List Nat→Bool
 |_,0,_=>true
 |j,c+1,seen=>match L j with
  |none=>asB n len L eds (j+1) c seen
  |some l=>Nat.blt l len&&(!(mem seen l)&&((Nat.ble n l ||aec l eds)&&asB n len L eds (j+1) c (l::seen)))
def LJ(n N:Nat)(m:List (Nat×Nat))(j:Nat):Option Nat:=bif Nat.blt j n then some j else bif Nat.blt j N then asc m j else none
@[reducible] def RT(pe:Option (List Ed))(R:Type):Type:=match pe with
 |none=>R
 |some eds=>PZ R (jI (bM eds))
def RT.el{R δ:Type}:(pe:Option (List Ed))→(R→Option δ)→((eds:List Ed)→Int→jI (bM eds)→Option δ)→RT pe R→Option δ
 |none,f,_=>f
 |some eds,f,g=>PZ.el f (g eds)
def RT.ok{R:Type}:(pe:Option (List Ed))→Option R→Option (RT pe R)
 |none,o=>o
 |some _,o=>o.map PZ.ok
structure Ent where
 f:Nat
 na:Nat
 ps:List Ed
 nr:Nat
 rs:List Ed
 R:Type
 pe:Option (List Ed)
 g:Option (jI (bM ps)→Bool)
 F:jI (bM ps)→Option (RT pe R)
 out:R→jI (bM rs)
def dM(n:Nat):List TV:=List.replicate n .unk
def bS(n:Nat):Nat:=n
def res1:List TV→TV
 |[v]=>v
 |vs=>.tup vs
def lX(l:List Nat)(n:Nat):Nat:=nth 0 l n
def rng(k:Nat):Nat→List Nat
 |0=>[]
 |n+1=>k::rng (k+1) n
def MB(f:Nat→Option Nat)(i:Nat):Nat→List Nat
 |0=>[]
 |n+1=>match f i with
  |some l=>l::MB f (i+1) n
  |none=>MB f (i+1) n
def nodupB:List Nat→Bool
 |[]=>true
 |x::xs=>bif mem xs x then false else nodupB xs
section
variable {γ:Type}
def wrB(l:Nat)(cs:List TV):List (Nat×Sk)→(List TWr→Option γ)→Option γ
 |[],K=>K []
 |p::ps,K=>splitK 99 cs p.1 fun _ b=>splitK 99 b (yg p.2) fun c _=>wrB l cs ps fun ws=>K (.st l p.1 c::ws)
def Kv(ρ:List Nat)(h:List TObj):Nat→Nat→List Ed→(List TWr→Option γ)→Option γ
 |_,_,[],K=>K []
 |k,j,.o l hd::es,K=>match hd with
  | .bx is=>match nth .dead h l with
   | .box cs=>wrB (lX ρ l) cs is fun ws=>Kv ρ h k j es fun ws'=>K (ws++ws')
   |_=>none
  | .dead=>Kv ρ h k j es fun ws=>K (.kill (lX ρ l)::ws)
  |_=>Kv ρ h k j es fun ws=>K (.ob (lX ρ l) (nth .dead h l)::ws)
 |k,j,.w _::es,K=>Kv ρ h (k+1) (j+1) es fun ws=>K (.nw k (nth .dead h j)::ws)
 |k,j,.r _ _::es,K=>Kv ρ h k j es K
end
def apO(H:List TObj)(k:Nat):Nat→Bool
 |0=>true
 |n+1=>mh (nth .dead H k)&&apO H (k+1) n
mutual
def YX(n:Nat)(ds:List Nat):Sk→Bool
 | .ptr l _=>Nat.blt l n&&!(mem ds l)
 | .mapr l=>Nat.blt l n&&!(mem ds l)
 | .own l=>Nat.blt l n&&!(mem ds l)
 | .psl l _=>Nat.blt l n&&!(mem ds l)
 | .eptr cs=>Ag n ds cs
 | .agg cs=>Ag n ds cs
 | .tup cs=>Ag n ds cs
 | .func _ cs=>Ag n ds cs
 | .unk=>true| .nilp=>true| .nilF=>true| .nils=>true| .k _=>true| .lf _=>true
def Ag(n:Nat)(ds:List Nat):List Sk→Bool
 |[]=>true
 |s::ss=>YX n ds s&&Ag n ds ss
end
def amI(n:Nat)(ds:List Nat):HO→Bool
 | .box cs=>Ag n ds cs
 | .bx is=>is.all fun p=>YX n ds p.2
 |_=>true
def killed:List Ed→List Nat
 |[]=>[]
 | .o l hd::es=>(match hd with| .dead=>[l]|_=>[])++killed es
 |_::es=>killed es
def azn:HO→Bool
 | .box _=>true
 | .mp _=>true
 |_=>false
def aGy:HO→Bool
 | .box _=>true
 |_=>false
def kinds:List Ed→List HO
 |[]=>[]
 | .w h::es=>h::kinds es
 |_::es=>kinds es
def ayk(is:List (Nat×Sk)):Nat→List Sk→List Sk
 |_,[]=>[]
 |q,s::ss=>(bif Nat.beq (yg s) 1&&mem (is.flatMap fun p=>rng (p.1+1) (yg p.2)) (q+1)then .unk else s)::ayk is (q+yg s) ss
def Fy(j:Nat):List Ed→Option HO
 |[]=>none
 | .o l h::es=>bif Nat.beq l j then some h else Fy j es
 | .r _ _::es=>Fy j es
 | .w _::es=>Fy j es
def alb(n:Nat)(rs:List Ed)(j:Nat):HO→Bool
 | .box cs=>Ag n [] cs&&(match Fy j rs with
  |none=>Ag n (killed rs) cs
  |some (.bx is)=>Ag n (killed rs) (ayk is 0 cs)
  |some _=>true)
 | .dead=>false
 | .bx _=>false
 |_=>true
def R8(np:Nat)(rs:List Ed):Nat→List Ed→Bool
 |_,[]=>true
 |j,.r _ s::es=>YX np [] s&&R8 np rs j es
 |j,.w h::es=>alb np rs j h&&R8 np rs (j+1) es
 |_,.o _ _::_=>false
def BP(n:Nat)(ds:List Nat)(ks:List HO):List Ed→Bool
 |[]=>true
 | .r _ s::es=>YX n ds s&&BP n ds ks es
 | .w h::es=>(match h with| .dead=>false| .bx _=>false|h=>amI n ds h)&&BP n ds ks es
 | .o l h::es=>(match h with| .dead=>true| .own _=>false| .arr _=>false| .bx is=>amI n ds (.bx is)&&aGy (nth .dead ks l)|h=>amI n ds h&&azn (nth .dead ks l))&&BP n ds ks es
def j3:List Ed→List Nat
 |[]=>[]
 | .r n _::es=>n::j3 es
 |_::es=>j3 es
def axC(l:List Nat):Nat→Bool
 |0=>true
 |n+1=>mem l n&&axC l n
def JC(e:Ent):Bool:=
 ((axC (j3 e.ps) e.na&&(j3 e.ps).all fun k=>Nat.blt k e.na)&&(fO 0 [] [] e.ps&&(fO (aD e.ps) [] [] e.rs&&(R8 (aD e.ps) e.rs 0 e.ps&&BP (aD e.ps+aD e.rs) (killed e.rs) (kinds e.ps) e.rs))))&&(match e.pe with
  |none=>true
  |some eds=>(j3 eds).isEmpty&&(fO (aD e.ps) [] [] eds&&(R8 (aD e.ps) eds 0 e.ps&&BP (aD e.ps+aD eds) (killed eds) (kinds e.ps) eds)))
section
variable {γ:Type}
def apZ(H:List TObj)(k:Nat)(vs:List TV)(e:Ent)(K:Nat→List Nat→List TWr→TV→Option γ)(X:Nat→List Nat→List TWr→Int→Option γ):Option γ:=
 let np:=aD e.ps
 let nn:=aD e.rs
 let L:=LJ 0 np (Py vs H 0 e.ps [])
 let ρ:=MB L 0 np
 bif Nat.beq (List.length vs) e.na&&(Nat.beq ρ.length np&&(nodupB ρ&&apO H k nn))then
  BS 1 0 vs H L 0 e.ps fun us=>AJ (bM e.ps) us fun x=>(e.F x).bind fun r=>RT.el e.pe (fun y=>
   Qw (lX (ρ++rng k nn)) e.ps us (dM e.na) [] fun _ h=>Qw (lX (ρ++rng k nn)) e.rs (fF _ (e.out y)) (dM e.nr) h fun r h'=>Kv ρ h' k np e.rs fun ws=>K nn (ρ++rng k nn) ws (res1 r)) (fun eds v z=>bif apO H k (aD eds)then
    Qw (lX (ρ++rng k (aD eds))) e.ps us (dM e.na) [] fun _ h=>Qw (lX (ρ++rng k (aD eds))) eds (fF _ z) (dM 0) h fun _ h'=>Kv ρ h' k np eds fun ws=>X (aD eds) (ρ++rng k (aD eds)) ws v else none) r
 else none
def aJC(H:List TObj)(vs:List TV)(e:Ent):Bool:=Nat.beq (List.length vs) e.na&&(BS 1 0 vs H (LJ 0 (aD e.ps) (Py vs H 0 e.ps [])) 0 e.ps (fun _=>some ())).isSome
def gdE(H:List TObj)(vs:List TV)(e:Ent)(A B:Option γ):Option γ:=match e.g with
 |none=>A
 |some g=>BS 1 0 vs H (LJ 0 (aD e.ps) (Py vs H 0 e.ps [])) 0 e.ps fun us=>AJ (bM e.ps) us fun x=>cond (g x) A B
def aGK(fid:Nat):List Ent→Bool
 |[]=>false
 |e::es=>Nat.beq e.f fid ||aGK fid es
def awW(H:List TObj)(k fid:Nat)(vs:List TV)(E:List Ent)(K:Nat→List Nat→List TWr→TV→Option γ)(X:Nat→List Nat→List TWr→Int→Option γ):Option γ:=
 List.rec (motive:=fun _=>Option γ) none (fun e r ih=>bif Nat.beq e.f fid&&(bif aGK fid r then aJC H vs e else true)then gdE H vs e (apZ H k vs e K X) ih else ih) E
end
end
end
section
open Go
noncomputable section
structure DS where
 t:List TV
 h:List TObj
 d:List Nat
 o:List (Nat×Nat)
 up:List Nat
 rl:List (Nat×Nat×Nat)
 cp:List (Nat×Nat)
 oo:List (Nat×Nat)
inductive Hn where
 |jn (eds:List Ed) (lr:Bool)
 |lp (hd:List Ed) (e:Nat) (ex:List Ed)
 |fz (ls:List Nat)
 |ct (l b off:Nat)
 |ca (l b off:Nat)
 |fa (ls:List Nat)
structure Cfg where
 τ:Nat→TI
 θ:Nat→Option ET
 n:Nat
 R:Type
 hs:List (Nat×Hn)
 m:Nat
 te:Nat
 pn:Int→DS→Option R
mutual
def wJ(l:Nat):TV→Bool
 | .ptr l' _=>!(Nat.beq l' l)
 | .mapr l'=>!(Nat.beq l' l)
 | .own l'=>!(Nat.beq l' l)
 | .psl l' _ _=>!(Nat.beq l' l)
 | .ap l' _ _ _=>!(Nat.beq l' l)
 | .eptr cs=>qZ l cs
 | .agg cs=>qZ l cs
 | .tup cs=>qZ l cs
 | .func _ cs=>qZ l cs
 | .unk=>true| .nilp=>true| .nilF=>true| .nils=>true| .lf _ _=>true| .nat _=>true
def qZ(l:Nat):List TV→Bool
 |[]=>true
 |v::vs=>wJ l v&&qZ l vs
end
def aAP(H:List TObj)(cs:List TV):Option (Decl×List Decl):=TF H false 60 (.t .dec) cs fun u r=>match r with
 |[.lf (.f .dec) xs]=>kZ (.t .dec) u fun x=>some (x,xs)
 |[.nilp]=>kZ (.t .dec) u fun x=>some (x,[])
 |_=>none
def adC(H:List TObj)(l:Nat):Nat→TV
 |0=>match nth .dead H l with
  | .box cs=>bif qZ l cs then(match aAP H cs with
   |some p=>.lf (.f .dec) (p.1::p.2)
   |none=>.eptr cs)else .unk
  |_=>.unk
 |_+1=>.unk
def axb(H:List TObj)(l:Nat):TV:=match nth .dead H l with
 | .own e xs=>.lf (.l e) xs
 |_=>.unk
def axM(H:List TObj)(l z:Nat):Option Nat→TV
 |none=>match nth .dead H l with
  | .arr e xs=>bif acC e z then .lf (.l e) xs else .unk
  |_=>.unk
 |some _=>.unk
mutual
def iK(H:List TObj)(l:Nat):TV→TV
 | .ptr l' o=>bif Nat.beq l' l then adC H l o else .ptr l' o
 | .mapr l'=>bif Nat.beq l' l then .unk else .mapr l'
 | .own l'=>bif Nat.beq l' l then axb H l else .own l'
 | .psl l' z c=>bif Nat.beq l' l then axM H l z c else .psl l' z c
 | .ap l' i z o=>bif Nat.beq l' l then .unk else .ap l' i z o
 | .eptr cs=>.eptr (og H l cs)
 | .agg cs=>.agg (og H l cs)
 | .tup cs=>.tup (og H l cs)
 | .func f cs=>.func f (og H l cs)
 | .unk=>.unk| .nilp=>.nilp| .nilF=>.nilF| .nils=>.nils| .lf t x=>.lf t x| .nat n=>.nat n
def og(H:List TObj)(l:Nat):List TV→List TV
 |[]=>[]
 |v::vs=>iK H l v::og H l vs
end
def acG(H:List TObj)(l:Nat):TObj→TObj
 | .box cs=>.box (og H l cs)
 | .res=>.dead
 |o=>o
def xk(H:List TObj)(l:Nat):Nat→List TObj→List TObj
 |_,[]=>[]
 |i,o::os=>(bif Nat.beq i l then .dead else acG H l o)::xk H l (i+1) os
def acL(l:Nat):Nat→List TV→List Nat
 |_,[]=>[]
 |k,v::vs=>bif wJ l v then acL l (k+1) vs else k::acL l (k+1) vs
def Rm(l:Nat):Nat→List TObj→List (Nat×Nat)
 |_,[]=>[]
 |i,o::os=>match o with
  | .box cs=>bif qZ l cs then Rm l (i+1) os else(i,0)::Rm l (i+1) os
  |_=>Rm l (i+1) os
def Oy(l:Nat)(s:DS):DS:=⟨og s.h l s.t,xk s.h l 0 s.h,acL l 0 s.t++s.d,(l,0)::(Rm l 0 s.h++s.o),s.up,s.rl,s.cp,s.oo⟩
def hint(hs:List (Nat×Hn))(p:Nat):Option Hn:=match hs with
 |[]=>none
 |x::r=>bif Nat.beq x.1 p then some x.2 else hint r p
section
variable {γ:Type}
def plainO:TObj→Bool
 | .box _=>true
 | .mp _ _=>true
 | .dead=>true
 |_=>false
mutual
def apk(l:Nat):TV→Bool
 | .own l'=>Nat.beq l l'
 | .psl l' _ _=>Nat.beq l l'
 | .eptr cs=>lQ l cs
 | .agg cs=>lQ l cs
 | .tup cs=>lQ l cs
 | .func _ cs=>lQ l cs
 | .unk=>false| .nilp=>false| .nilF=>false| .nils=>false| .lf _ _=>false| .nat _=>false| .ptr _ _=>false| .mapr _=>false| .ap _ _ _ _=>false
def lQ(l:Nat):List TV→Bool
 |[]=>false
 |v::vs=>apk l v ||lQ l vs
end
def XA(l:Nat):List TObj→Bool
 |[]=>false
 |o::os=>(match o with| .box cs=>lQ l cs|_=>false) ||XA l os
def fV(v:TV)(K:TV→Option γ):Option γ:=match v with
 | .lf t x=>K (.lf t x)
 |v=>K v
def aDt{α:Type}(l:List α):Nat→α→(List α→Option γ)→Option γ:=
 List.rec (motive:=fun _=>Nat→α→(List α→Option γ)→Option γ) (fun _ _ _=>none) (fun x xs ih n v K=>Nat.rec (motive:=fun _=>Option γ) (K (v::xs)) (fun m _=>ih m v fun ys=>K (x::ys)) n) l
def F4:List TWr→DS→(DS→Option γ)→Option γ
 |[],s,K=>K s
 | .sl n v::ws,s,K=>fV v fun v=>aDt s.t n v fun t=>F4 ws ⟨t,s.h,n::s.d,s.o,s.up.filter fun i=>!(Nat.beq i n),s.rl.filter fun p=>!(Nat.beq p.1 n ||(Nat.beq p.2.1 n ||Nat.beq p.2.2 n)),s.cp.filter fun p=>!(Nat.beq p.1 n ||Nat.beq p.2 n),s.oo⟩ K
 | .ob l o::ws,s,K=>bif plainO o&&plainO (nth .dead s.h l)then Ar s.h l o fun h=>F4 ws {s with h:=h,o:=(l,0)::s.o} K else none
 | .st l off vs::ws,s,K=>match nth .dead s.h l with
  | .box cs=>vS cs off vs fun cs=>Ar s.h l (.box cs) fun h=>F4 ws {s with h:=h,o:=(rng (off+1) (widths vs)).map (fun q=>(l,q))++s.o} K
  |_=>none
 | .kill l::ws,s,K=>match nth .dead s.h l with
  | .own e xs=>Ar s.h l (.gone e xs) fun h=>F4 ws {s with h:=h,o:=(l,0)::s.o} K
  | .arr _ xs=>Ar s.h l (.gon xs.length) fun h=>F4 ws {s with h:=h,o:=(l,0)::s.o} K
  | .box _=>Ar s.h l .dead fun h=>F4 ws {s with h:=h,o:=(l,0)::s.o} K
  | .mp _ _=>Ar s.h l .dead fun h=>F4 ws {s with h:=h,o:=(l,0)::s.o} K
  |_=>none
 | .nw l o::ws,s,K=>bif mh (nth .dead s.h l)&&(plainO o ||!(lQ l s.t ||XA l s.h))then Ar s.h l o fun h=>F4 ws {s with h:=h,o:=(l,0)::s.o} K else none
 | .up l i e y::ws,s,K=>match nth .dead s.h l with
  | .arr e' xs=>match ET.eq? e e' with
   |some ⟨q⟩=>Ar s.h l (.arr e' (upd xs i (q▸y))) fun h=>F4 ws {s with h:=h,o:=(l,0)::s.o} K
   |none=>none
  |_=>none
def erase:List TWr→List Wr
 |[]=>[]
 | .sl n _::ws=>.slot n .unk::erase ws
 | .ob l _::ws=>.obj l .dead::erase ws
 | .st l _ _::ws=>.obj l .dead::erase ws
 | .kill l::ws=>.obj l .dead::erase ws
 | .nw l _::ws=>.obj l .dead::erase ws
 | .up l _ _ _::ws=>.obj l .dead::erase ws
def J9(o:Oper)(s:DS):DS:=match o.op,o.dst with
 | .binOp .lss _ (.tmp i) (.tmp j) _,some d=>bif Nat.beq d i ||Nat.beq d j then s else{s with rl:=(d,i,j)::s.rl}
 | .move (.tmp x),some d=>bif Nat.beq d x then s else{s with cp:=(d,x)::s.cp,up:=bif mem s.up x then d::s.up else s.up}
 |_,_=>s
def opK(τ:Nat→TI)(θ:Nat→Option ET)(E:List Ent)(px:List Eff→Nat→Eff→DS→Int→DS→Option γ)(ops:List Oper)(o:Oper)(go:Nat→List Eff→DS→Option γ)(k:Nat)(es:List Eff)(s:DS):Option γ:=
 match nE o.op with
 |some (f,args)=>match gq s.t f with
  | .func fid caps=>awW s.h k fid (args.toList.map (gq s.t)++caps) E (fun nn ρ ws v=>F4 (ws++fP o.dst v) s fun s=>go (k+nn) (⟨bE ops.toArray o,ρ,ρ.map (fun l=>.obj l .dead)++erase (fP o.dst v)⟩::es) s) (fun nn ρ ws c=>F4 ws s fun s1=>px es (k+nn) ⟨bE ops.toArray o,ρ,ρ.map (fun l=>.obj l .dead)⟩ s c s1)
  |_=>none
 |none=>dS τ θ s.up k o.dst s.t s.h o.op fun rd ws=>F4 ws s fun s1=>go (k+jX o.op) (⟨bE ops.toArray o,rd,erase ws⟩::es) (J9 o s1)
def gdK(ops:List Oper)(o:Oper)(s:DS)(A B:DS→Option γ):Option γ:=
 match o.guard with
 |none=>A s
 |some (j,want)=>match(ops[j]?).bind (·.dst)with
  |none=>none
  |some d=>match nth .unk s.t d with
   | .lf .b b=>bif want then cond b (Ar s.t d (.lf .b true) fun t=>A {s with t:=t}) (Ar s.t d (.lf .b false) fun t=>B {s with t:=t})else cond b (Ar s.t d (.lf .b true) fun t=>B {s with t:=t}) (Ar s.t d (.lf .b false) fun t=>A {s with t:=t})
   | .tup []=>B s
   |_=>none
def XQ(τ:Nat→TI)(θ:Nat→Option ET)(E:List Ent)(px:List Eff→Nat→Eff→DS→Int→DS→Option γ)(ops:List Oper)(l:List Oper):Nat→List Eff→DS→(List Eff→DS→Option γ)→Option γ:=
 List.rec (motive:=fun _=>Nat→List Eff→DS→(List Eff→DS→Option γ)→Option γ) (fun _ es s K=>K es.reverse s)
  (fun o _ ih k es s K=>gdK ops o s (opK τ θ E px ops o (fun k es s=>ih k es s K) k es) fun s=>F4 (fP o.dst (.tup [])) s fun s=>ih k (⟨bE ops.toArray o,[],erase (fP o.dst (.tup []))⟩::es) s K) l
def runT(τ:Nat→TI)(θ:Nat→Option ET)(ops:List Oper)(bl:Nat→Bool)(l:List Oper):Nat→Nat→List Eff→DS→(List Eff→Option γ)→Option γ:=
 List.rec (motive:=fun _=>Nat→Nat→List Eff→DS→(List Eff→Option γ)→Option γ) (fun _ _ es _ K=>K es.reverse)
  (fun o _ ih q k es s K=>bif bl q then ih (q+1) k (wT::es) s K else match o.guard,nE o.op with
   |none,none=>dS τ θ s.up k o.dst s.t s.h o.op fun rd ws=>F4 ws s fun s1=>ih (q+1) (k+jX o.op) (⟨bE ops.toArray o,rd,erase ws⟩::es) (J9 o s1) K
   |_,_=>none) l
def thrB(ops:List Oper)(n q:Nat)(es:List Eff)(h:List TObj):Bool:=
 ng ops es&&((h.drop n).all mh&&(List.range es.length).all fun i=>Nat.beq i q ||((jS (es.getD i wT).ws).all fun l=>Nat.ble n l ||(Nat.blt i q&&((FD ops []).getD q []).contains i)))
def thrD(n:Nat)(s:DS):DS:=⟨s.t,s.h.take n++List.replicate (s.h.length - n) .dead,s.d,s.o,[],[],[],s.oo⟩
def pxD(τ:Nat→TI)(θ:Nat→Option ET)(draw:Bool)(ops:List Oper)(n:Nat)(K:Int→DS→Option γ)(es:List Eff)(k:Nat)(ep:Eff)(s:DS)(v:Int)(s':DS):Option γ:=
 bif draw then runT τ θ ops (fun q=>((FD ops []).getD q []).contains es.length) (ops.drop (es.length+1)) (es.length+1) k [] s fun late=>bif thrB ops n es.length (es.reverse++ep::late) s'.h then K v (thrD n s')else none
 else K v s'
def zT:List Oper→Nat
 |[]=>0
 |o::l=>(match nE o.op with
  |some _=>5
  |none=>jX o.op)+zT l
def y8:Nat→List TObj
 |0=>[]
 |n+1=>.res::y8 n
def ai7(l:List TObj):Nat→(List TObj→Option γ)→Option γ:=
 List.rec (motive:=fun _=>Nat→(List TObj→Option γ)→Option γ) (fun _ K=>K []) (fun o _ ih n K=>Nat.rec (motive:=fun _=>Option γ) (ih 0 fun r=>match r with
  |[]=>bif mh o then K []else K [o]
  |x::xs=>K (o::x::xs)) (fun n _=>ih n fun r=>K (o::r)) n) l
def Jk{α:Type}:List α→Nat→(Nat→Option γ)→Option γ
 |[],n,K=>K n
 |_::l,n,K=>Jk l (n+1) K
def aA2:List Oper→List Nat
 |[]=>[]
 |o::l=>match o.dst with
  |some d=>d::aA2 l
  |none=>aA2 l
def pG:Code→List Nat
 | .region _ ops _=>aA2 ops.toList
 | .seq a b=>pG a++pG b
 | .cond _ a b=>pG a++pG b
 | .block _ a=>pG a
 | .loop a=>pG a
 |_=>[]
def awX:List Nat→List Nat→Bool
 |[],_=>true
 |x::xs,l=>mem l x&&awX xs l
def aci(H:List TObj):List Ed→List (Nat×Nat)
 |[]=>[]
 | .o l h::es=>(match h with
  | .bx is=>match nth .dead H l with
   | .box _=>is.flatMap fun p=>(rng (p.1+1) (yg p.2)).map fun q=>(l,q)
   |_=>[(l,0)]
  |_=>[(l,0)])++aci H es
 |_::es=>aci H es
def cov:List Ed→Nat→Nat→Bool
 |[],_,_=>false
 | .o l h::es,l',q=>(Nat.beq l l'&&(match h with| .bx is=>mem (is.flatMap fun p=>rng (p.1+1) (yg p.2)) q|_=>true)) ||cov es l' q
 |_::es,l',q=>cov es l' q
def awV(l:List Nat):List TV→(List TV→Option γ)→Option γ:=List.rec (motive:=fun _=>List TV→(List TV→Option γ)→Option γ) (fun t K=>K t) (fun n _ ih t K=>Ar t n .unk fun t=>ih t K) l
def Li(a:List Nat)(eds:List Ed)(s:DS)(us:List U)(K:DS→Option γ):Option γ:=
 let b:=a++j3 eds
 awV b s.t fun t=>Qw bS eds us t s.h fun t h=>K ⟨t,h,b++s.d,aci h eds++s.o,s.up.filter fun i=>!(mem b i),[],[],s.oo⟩
def asi(n:Nat)(o:List (Nat×Nat))(es:List Ed):Bool:=o.all fun x=>Nat.ble n x.1 ||cov es x.1 x.2
def F6(eds:List Ed)(s:DS)(K:Option γ):Option γ:=Jk s.h 0 fun n=>bif jw n s.t&&(Ji n s.h&&fO n [] [] eds)then K else none
def aqF(n:Nat)(eds:List Ed)(t:List TV)(h:List TObj)(K:List U→Option γ):Option γ:=
 Jk h 0 fun n'=>let L:=LJ n (n+aD eds) (Py t h n eds []);bif asB n n' L eds n (aD eds) []then BS 2 2 t h L n eds K else none
def Jv(a:List Nat)(eds:List Ed)(s s':DS)(K:List U→Option γ):Option γ:=
 Jk s.h 0 fun n=>bif awX s'.d (a++j3 eds)&&asi n s'.o eds then aqF n eds s'.t s'.h K else none
def fresh(s:DS):DS:={s with d:=[],o:=[],oo:=s.o++s.oo}
def apX(m:Nat):List Nat→DS→(DS→Option γ)→Option γ
 |[],s,K=>K s
 |l::ls,s,K=>Jk s.h 0 fun n=>bif Nat.ble m l&&(Nat.blt l n&&(jw n s.t&&Ji n s.h))then apX m ls (Oy l s) K else none
def ctT(l:Nat):List TV→List TV
 |[]=>[]
 |v::vs=>(bif wJ l v then v else .unk)::ctT l vs
def ctK(l b off:Nat)(s:DS)(K:DS→Option γ):Option γ:=match nth .dead s.h l,nth .dead s.h b with
 | .arr e xs,.box cs=>splitK 99 cs off fun a r=>match r with
  | .psl l' z (some c)::r=>Jk s.h 0 fun n=>bif (Nat.beq l' l&&(qZ l a&&qZ l r))&&((Rm l 0 s.h).all (fun p=>Nat.beq p.1 b)&&(jw n s.t&&Ji n s.h))then
    bif Nat.ble c xs.length then Ar s.h l (.arr e (xs.take c)) fun h=>Ar h b (.box (a++ .psl l z none::r)) fun h=>K ⟨ctT l s.t,h,acL l 0 s.t++s.d,(l,0)::(b,off+1)::s.o,s.up,s.rl,s.cp,s.oo⟩else none
   else none
  |_=>none
 |_,_=>none
def fzH(m:Nat)(h:Option Hn)(s:DS)(K:DS→Option γ):Option γ:=match h with
 |some (.fz ls)=>apX m ls s K
 |some (.ct l b off)=>ctK l b off s K
 |_=>K s
def fzA(m:Nat)(h:Option Hn)(s:DS)(K:DS→Option γ):Option γ:=match h with
 |some (.ca l b off)=>ctK l b off s K
 |some (.fa ls)=>apX m ls s K
 |_=>K s
def sel{α:Type}(f:α→Bool)(g:α→Nat):List α→List Nat
 |[]=>[]
 |x::l=>bif f x then g x::sel f g l else sel f g l
def OC(x:Operand)(s:DS):DS:=match x with
 | .tmp d=>let u:=sel (fun p=>Nat.beq p.1 d) (fun p=>p.2.1) s.rl
  let u:=sel (fun p=>mem u p.1) (fun p=>p.2) s.cp++u
  let u:=sel (fun p=>mem u p.2) (fun p=>p.1) s.cp++u
  {s with up:=u++s.up}
 |_=>s
end
abbrev ExT(R:Type):Type 1:=(γ:Type)→Nat→DS→(R→Option γ)→(Exit→DS→Option γ)→Option γ
def akZ(te:Nat)(t:List TV):List Oper→Option Int
 |[o1,o2]=>match o1.op,o1.dst,o1.guard with
  | .makeInterface t' (.const (.int .i64 e)),some d,none=>match o2.op,o2.dst,o2.guard with
   | .panic (.tmp d'),none,none=>bif Nat.beq t' te&&(Nat.beq d d'&&Nat.blt d t.length)then some e else none
   |_,_,_=>none
  |_,_,_=>none
 |_=>none
def exe(c:Cfg)(E:List Ent)(ret:DS→Option c.R)(code:Code):ExT c.R:=
 Code.rec (motive:=fun _=>ExT c.R)
  (skip:=fun _ _ s _ k=>k .normal s)
  (region:=fun _ ops draw _ p s inj k=>fzH c.m (hint c.hs p) s fun s=>match akZ c.te s.t ops.toList with
   |some e=>bif draw then none else(c.pn e s).bind inj
   |none=>Jk s.h 0 fun n=>XQ c.τ c.θ E (pxD c.τ c.θ draw ops.toList n fun v s=>(c.pn v s).bind inj) ops.toList ops.toList n [] {s with h:=s.h++y8 (zT ops.toList)} fun es s=>bif !draw ||ng ops.toList es then ai7 s.h n fun h=>fzA c.m (hint c.hs p) {s with h:=h} fun s=>k .normal s else none)
  (seq:=fun a _ iha ihb γ p s inj k=>match hint c.hs p with
   |some (.jn eds true)=>F6 eds s <| Option.bind (iha (LR (jI (bM eds)) c.R) (2*p) (fresh s) (fun r=>some (.rt r)) fun e s'=>match e with
     | .normal=>Jv (pG a) eds s s' fun us=>AJ (bM eds) us fun x=>some (.nx x)
     |_=>none) (LR.el (fun x=>Li (pG a) eds s (fF (bM eds) x) fun s=>ihb γ (2*p+1) s inj k) (fun r=>inj r))
   |some (.jn eds false)=>F6 eds s <| Option.bind (iha (jI (bM eds)) (2*p) (fresh s) (fun _=>none) fun e s'=>match e with
     | .normal=>Jv (pG a) eds s s' fun us=>AJ (bM eds) us fun x=>some x
     |_=>none) fun x=>Li (pG a) eds s (fF (bM eds) x) fun s=>ihb γ (2*p+1) s inj k
   |_=>iha γ (2*p) s inj fun e s=>match e with
    | .normal=>ihb γ (2*p+1) s inj k
    |e=>k e s)
  (cond:=fun x _ _ iha ihb γ p s inj k=>match gq s.t x with
   | .lf .b b=>cond b (iha γ (2*p) (OC x s) inj k) (ihb γ (2*p+1) s inj k)
   |_=>none)
  (block:=fun id _ ih γ p s inj k=>ih γ (2*p) s inj fun e s=>match e with
   | .exit id'=>bif Nat.beq id' id then k .normal s else k (.exit id') s
   |e=>k e s)
  (loop:=fun a ih γ p s inj k=>match hint c.hs p with
   |some (.lp hd e ex)=>F6 hd s <| F6 ex s <| Jv (pG a) hd s (fresh s) fun us=>AJ (bM hd) us fun x0=>
     Option.bind (aL (δ:=LR (jI (bM ex)) c.R) (fun rec x=>Li (pG a) hd (fresh s) (fF (bM hd) x) fun s1=>ih (LR (jI (bM ex)) c.R) (2*p) s1 (fun r=>some (.rt r)) fun e' s'=>match e' with
      | .normal=>Jv (pG a) hd s s' fun us=>AJ (bM hd) us rec
      | .exit id=>bif Nat.beq id e then Jv (pG a) ex s s' fun us=>AJ (bM ex) us fun y=>some (.nx y)else none
      |_=>none) c.n x0) (LR.el (fun y=>Li (pG a) ex s (fF (bM ex) y) fun s=>k (.exit e) s) (fun r=>inj r))
   |_=>none)
  (rangeFunc:=fun _ _ _ _ _ _ _ _ _ _ _=>none)
  (exit:=fun id _ _ s _ k=>k (.exit id) s)
  (scope:=fun _ _ _ _ _ _ _=>none)
  (label:=fun _ _ _ _ _ _=>none)
  (goto:=fun _ _ _ _ _ _=>none)
  (ret:=fun _ p s inj _=>fzH c.m (hint c.hs p) s fun s=>(ret s).bind inj)
  (refuse:=fun _ _ _ _ _ _=>none)
  code
def ajD{γ:Type}(τ:Nat→TI)(s:DS):List ResultVar→(List TV→Option γ)→Option γ
 |[],K=>K []
 | .tmp t::r,K=>ajD τ s r fun vs=>K (nth .unk s.t t::vs)
 | .cell a t::r,K=>match nth .unk s.t a with
  | .ptr l off=>match nth .dead s.h l with
   | .box cs=>ldK τ t off cs fun v=>ajD τ s r fun vs=>K (v::vs)
   |_=>none
  |_=>none
def yK{R:Type}(τ:Nat→TI)(m:Nat)(rvs:List ResultVar)(rs:List Ed)(inn:jI (bM rs)→Option R)(s:DS):Option R:=
 ajD τ s rvs fun vs=>bif asi m (s.o++s.oo) rs then aqF m rs vs s.h fun us=>AJ (bM rs) us inn else none
def U7{R:Type}(m:Nat):(pe:Option (List Ed))→Int→DS→Option (RT pe R)
 |none,_,_=>none
 |some eds,v,s=>bif asi m (s.o++s.oo) eds then aqF m eds [] s.h fun us=>AJ (bM eds) us fun z=>some (.er v z)else none
def amq(τ:Nat→TI)(θ:Nat→Option ET)(n:Nat)(hs:List (Nat×Hn))(E:List Ent)(te:Nat)(fn:Func)(e:Ent)(inn:jI (bM e.rs)→Option e.R)(x:jI (bM e.ps)):Option (RT e.pe e.R):=
 match fn.body with
 |none=>none
 |some c=>Qw bS e.ps (fF (bM e.ps) x) (List.replicate fn.ntmps (.tup [])) [] fun t h=>
  exe ⟨τ,θ,n,RT e.pe e.R,hs,aD e.ps,te,U7 (aD e.ps) e.pe⟩ E (fun s=>RT.ok e.pe (yK τ (aD e.ps) fn.results.toList e.rs inn s)) c _ 1 ⟨t,h,[],[],[],[],[],[]⟩ some fun x s=>match x with
   | .normal=>RT.ok e.pe (yK τ (aD e.ps) fn.results.toList e.rs inn s)
   |_=>none
end
end
section
open Go
def leS(a b:Str):Bool:=decide (a≤b)
def slices_Clone_int(_:Nat)(p0:List Int):Option (List Int):=app 8 ([]:List Int) p0
def ow(_:Nat)(p0:List (Str×Bool)):Option (List Str):=if p0.length*16≤140737488355328 then some ((p0.map (·.1)).mergeSort leS)else none
def alh(_:Nat)(_:List (Str×Bool)):Option Unit:=some ()
end
section
open Go
def strings_Compare(_:Nat)(a b:Str):Option Int:=some (Lib.compareBytes a b)
def jf(_:Nat):Option Bool:=some true
end
end Abs
end Go.Proofs.YthgdaonechbgmaaGreat
