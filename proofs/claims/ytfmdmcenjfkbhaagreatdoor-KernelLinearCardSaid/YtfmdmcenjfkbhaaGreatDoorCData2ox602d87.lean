/-
  More of the program's data as plain structures, and as abstract values. Conditions: none; definitions and lemmas.
-/
import Derived.Test.YtfmdmcenjfkbhaaGreatDoorCAbs30ox153861
set_option linter.all false
namespace Go.Proofs.YtfmdmcenjfkbhaaGreatDoor
namespace Abs
section
open Go
structure Carrier where
 name:Str
 elems:List Str
structure Decl where
 name:Str
 ty:Ty
structure Env where
 carriers:List Carrier
 names:List Decl
def encI(n:Int):List AV:=[.int .i64 n]
def encS(s:Str):List AV:=[.str s]
def vS(n:Int):List AV:=[.int .u8 n]
def gU(x:Carrier):List AV:=[.str x.name,.slice (x.elems.map encS) .shared]
def gM(x:Decl):List AV:=[.str x.name,.int .i64 x.ty.kind,.str x.ty.name,.slice (x.ty.kids.map iW) .shared]
theorem yN{α:Type}{f:α→List AV}(hf:∀g x,bF g (f x)=f x)(g:Nat→Nat)(l:List α):cu g (l.map f)=l.map f:=by
 rw[Bb,qBr];exact qAZ fun x _=>hf g x
theorem aeP(g:Nat→Nat)(l:List Int):cu g (l.map encI)=l.map encI:=yN (fun _ _=>rfl) g l
theorem XW(g:Nat→Nat)(l:List Str):cu g (l.map encS)=l.map encS:=yN (fun _ _=>rfl) g l
theorem Ul(g:Nat→Nat)(l:List Ty):cu g (l.map iW)=l.map iW:=adu g l
theorem adx(g:Nat→Nat)(l:List Tm):cu g (l.map gV)=l.map gV:=adk g l
theorem Tc(g:Nat→Nat)(l:List Carrier):cu g (l.map gU)=l.map gU:=yN (fun g x=>by simp only[gU,bF,ren,mg,XW]) g l
theorem Yk(g:Nat→Nat)(l:List Decl):cu g (l.map gM)=l.map gM:=yN (fun g x=>by simp only[gM,bF,ren,mg,Ul]) g l
theorem Qt(g:Nat→Nat)(x:Carrier):bF g (gU x)=gU x:=by simp only[gU,bF,ren,mg,XW]
theorem Xy(g:Nat→Nat)(x:Decl):bF g (gM x)=gM x:=by simp only[gM,bF,ren,mg,Ul]
theorem adM(n:Int):aV 1 (encI n)=true:=rfl
def dY{α:Type}(m:List (Str×α))(k:Str):Option α:=(m.find? fun p=>p.1==k).map (·.2)
def mD{α:Type}(m:List (Str×α))(k:Str)(v:α):List (Str×α):=
 match m with
 |[]=>[(k,v)]
 |p::r=>if p.1==k then(k,v)::r else p::mD r k v
def Nc{α:Type}(m:List (Str×α))(k:Str)(v:α):Option (List (Str×α)):=if m.length<140737488355328 then some (mD m k v)else none
@[reducible] def mel{α β:Type}(o:Option α)(Y:β)(X:α→β):β:=match o with|some v=>X v|none=>Y
theorem I4{α:Type}(f:α→AV):∀(m:List (Str×α)) (k:Str),ko (m.map fun p=>(p.1,f p.2)) k=(dY m k).map f
 |[],k=>rfl
 |p::m,k=>by
  have ih:=I4 f m k;unfold ko dY at *;simp only[qAz,List.find?_cons];cases h:(p.1==k)
  ·exact ih
  ·rfl
theorem MO{α:Type}(f:α→AV):∀(m:List (Str×α)) (k:Str) (v:α),uw (m.map fun p=>(p.1,f p.2)) k (f v)=(mD m k v).map fun p=>(p.1,f p.2)
 |[],k,v=>rfl
 |p::m,k,v=>by
  simp only[qAz,uw,mD];split
  ·rfl
  ·rw[MO f m k v];rfl
theorem Oh{α:Type}(l:List α):l=l.take l.length:=by simp
theorem UH{α:Type}{l l' ys r:List α}{f:α→List AV}{b sz:Nat}{K:List (List AV)→Nat→Prop}(h:app b l' ys=some r)(hp:l'=l.take l'.length)(hf:∀x,aV sz (f x)=true)(hK:K (r.map f) r.length):
  (l'.length≤(l.map f).length∧(l'.length+(ys.map f).length)*b≤140737488355328∧l'.length+(ys.map f).length≤140737488355328∧((l.map f).all (aV sz)=true)∧((ys.map f).all (aV sz)=true))∧∃r m,r=(l.map f).take l'.length++ys.map f∧m=r.length∧K r m:=by
 obtain⟨h1,h2,rfl⟩:=uW h;have hle:l'.length≤l.length:=by
  have:=congrArg List.length hp;rw[qAw]at this;omega
 refine⟨⟨by simpa using hle,by simpa using h1,by simpa using h2,nZ hf _,nZ hf _⟩,(l'++ys).map f,(l'++ys).length,?_,by simp,hK⟩;rw[←List.map_take,←hp,qAY]
def unc{α:Type}:List α→Option (α×List α)
 |[]=>none
 |x::r=>some (x,r)
theorem abv(g:Nat→Nat)(xs ys:List AV):bF g (xs++ys)=bF g xs++bF g ys:=by simp only[kV,qAY]
def upd{α:Type}(l:List α)(i:Int)(v:α):List α:=l.set i.toNat v
theorem wB{α:Type}{l:List α}{n:Int}{x:α}(h:idx l n=some x):0≤n∧n<(l.length:Int)∧l[n.toNat]? =some x:=by
 unfold idx at h;split at h
 ·rename_i h0;have:=(qAp.1 h).1;exact⟨h0,by omega,h⟩
 ·cases h
inductive Val where
 |mk (kind:Int) (n:Int) (name:Str) (kids:List Val)
def Val.kind:Val→Int| .mk k _ _ _=>k
def Val.n:Val→Int| .mk _ n _ _=>n
def Val.name:Val→Str| .mk _ _ s _=>s
def Val.kids:Val→List Val| .mk _ _ _ ks=>ks
mutual
def kT:Val→List AV
 | .mk k n s ks=>[.int .i64 k,.int .i64 n,.str s,.slice (uZ ks) .shared]
def uZ:List Val→List (List AV)
 |[]=>[]
 |t::ts=>kT t::uZ ts
end
theorem Bc:∀ts,uZ ts=ts.map kT
 |[]=>rfl
 |t::ts=>by simp[uZ,Bc ts]
theorem gY(t:Val):kT t=[.int .i64 t.kind,.int .i64 t.n,.str t.name,.slice (t.kids.map kT) .shared]:=by
 cases t;simp[kT,Bc,Val.kind,Val.n,Val.name,Val.kids]
mutual
theorem CY(g:Nat→Nat):∀t,bF g (kT t)=kT t
 | .mk k n s ks=>by simp only[kT,bF,ren,mg,Bp g ks]
theorem Bp(g:Nat→Nat):∀ts,cu g (uZ ts)=uZ ts
 |[]=>rfl
 |t::ts=>by simp only[uZ,cu,CY g t,Bp g ts]
end
theorem ZB(g:Nat→Nat)(ts:List Val):cu g (ts.map kT)=ts.map kT:=by rw[←Bc];exact Bp g ts
structure Bound where
 name:Str
 v:Val
inductive ET where
 |i|u|s|b|car|dec|ty|tm|env|val|bnd|vals|tms
@[reducible] def ET.D:ET→Type
 | .i=>Int| .u=>Int| .s=>Str| .b=>Bool| .car=>Carrier| .dec=>Decl| .ty=>Ty| .tm=>Tm| .env=>Env| .val=>Val| .bnd=>Bound| .vals=>List Val| .tms=>List Tm
def ET.no:ET→Nat
 | .i=>0| .u=>1| .s=>2| .b=>3| .car=>4| .dec=>5| .ty=>6| .tm=>7| .env=>8| .val=>9| .bnd=>10| .vals=>11| .tms=>12
theorem ET.inj:∀x y:ET,x.no=y.no→x=y:=by intro x y h;cases x<;>cases y<;>first|rfl|cases h
def ET.eq?(x y:ET):Option (PLift (x=y)):=if h:x.no=y.no then some ⟨ET.inj x y h⟩else none
theorem ET.eq_self(a:ET):ET.eq? a a=some ⟨rfl⟩:=by unfold ET.eq?;rw[dif_pos rfl]
inductive LT where
 |n (k:IntKind)|b|s|l (e:ET)|t (e:ET)|m (e:ET)|f (e:ET)|c (e:ET)
@[reducible] def LT.D:LT→Type
 | .n _=>Int| .b=>Bool| .s=>Str| .l e=>List e.D| .t e=>e.D| .m e=>List (Str×e.D)| .f e=>List e.D| .c e=>List e.D
def IntKind.no:IntKind→Nat
 | .i8=>0| .i16=>1| .i32=>2| .i64=>3| .u8=>4| .u16=>5| .u32=>6| .u64=>7
def LT.no:LT→Nat
 | .n k=>8*IntKind.no k| .b=>1| .s=>2| .l e=>8*e.no+3| .t e=>8*e.no+4| .m e=>8*e.no+5| .f e=>8*e.no+6| .c e=>8*e.no+7
theorem LT.inj(x y:LT)(h:x.no=y.no):x=y:=by
 cases x<;>cases y<;>simp only[LT.no]at h<;>first
  |rfl
  |(exfalso;omega)
  |(rename_i x y;have:x.no=y.no:=(by omega);rw[ET.inj x y this])
  |(rename_i x y;cases x<;>cases y<;>simp only[IntKind.no]at h<;>first|rfl|omega)
  |omega
def LT.eq?(x y:LT):Option (PLift (x=y)):=if h:x.no=y.no then some ⟨LT.inj x y h⟩else none
def eG:List LT→Type
 |[]=>Unit
 |[t]=>t.D
 |t::u::ts=>t.D×eG (u::ts)
structure U where
 t:LT
 x:t.D
def bR:(ts:List LT)→eG ts→List U
 |[],_=>[]
 |[t],x=>[⟨t,x⟩]
 |t::u::ts,x=>⟨t,x.1⟩::bR (u::ts) x.2
def fI{γ:Type}(t:LT)(u:U)(K:t.D→Option γ):Option γ:=match LT.eq? u.t t with
 |some ⟨h⟩=>K (h▸u.x)
 |none=>none
def ou{γ:Type}:(ts:List LT)→List U→(eG ts→Option γ)→Option γ
 |[],us,K=>match us with|[]=>K ()|_=>none
 |[t],us,K=>match us with|[u]=>fI t u K|_=>none
 |t::t'::ts,us,K=>match us with|u::us=>fI t u fun x=>ou (t'::ts) us fun y=>K (x,y)|[]=>none
def ET.cs:ET→List LT
 | .i=>[.n .i64]| .u=>[.n .u8]| .s=>[.s]| .b=>[.b]
 | .car=>[.s,.l .s]| .dec=>[.s,.t .ty]| .ty=>[.n .i64,.s,.l .ty]| .tm=>[.n .i64,.s,.n .i64,.t .ty,.l .tm]
 | .env=>[.l .car,.l .dec]| .val=>[.n .i64,.n .i64,.s,.l .val]| .bnd=>[.s,.t .val]| .vals=>[.l .val]| .tms=>[.l .tm]
def ET.un:(e:ET)→e.D→eG e.cs
 | .i,x=>x| .u,x=>x| .s,x=>x| .b,x=>x
 | .car,x=>(x.name,x.elems)| .dec,x=>(x.name,x.ty)| .ty,x=>(x.kind,x.name,x.kids)| .tm,x=>(x.op,x.name,x.n,x.ty,x.kids)
 | .env,x=>(x.carriers,x.names)| .val,x=>(x.kind,x.n,x.name,x.kids)| .bnd,x=>(x.name,x.v)| .vals,x=>x| .tms,x=>x
def ET.mk:(e:ET)→eG e.cs→e.D
 | .i,x=>x| .u,x=>x| .s,x=>x| .b,x=>x
 | .car,x=>⟨x.1,x.2⟩| .dec,x=>⟨x.1,x.2⟩| .ty,x=>.mk x.1 x.2.1 x.2.2| .tm,x=>.mk x.1 x.2.1 x.2.2.1 x.2.2.2.1 x.2.2.2.2
 | .env,x=>⟨x.1,x.2⟩| .val,x=>.mk x.1 x.2.1 x.2.2.1 x.2.2.2| .bnd,x=>⟨x.1,x.2⟩| .vals,x=>x| .tms,x=>x
def ET.sc:ET→Bool
 | .i=>true| .u=>true| .s=>true| .b=>true| .vals=>true| .tms=>true|_=>false
def ET.sz:ET→Nat
 | .i=>1| .u=>1| .s=>1| .b=>1| .car=>2| .dec=>4| .ty=>3| .tm=>7| .env=>2| .val=>4| .bnd=>5| .vals=>1| .tms=>1
def ET.enc:(e:ET)→e.D→List AV
 | .i=>encI| .u=>vS| .s=>encS| .b=>fun x=>[.bool x]| .car=>gU| .dec=>gM| .ty=>iW| .tm=>gV
 | .env=>fun x=>[.slice (x.carriers.map gU) .shared,.slice (x.names.map gM) .shared]| .val=>kT
 | .bnd=>fun x=>.str x.name::kT x.v| .vals=>fun x=>[.slice (x.map kT) .shared]| .tms=>fun x=>[.slice (x.map gV) .shared]
inductive TV where
 |unk|nilp|nilF|nils
 |lf (t:LT) (x:t.D)
 |nat (n:Nat)
 |ptr (l off:Nat)
 |eptr (cs:List TV)
 |agg (cs:List TV)
 |tup (cs:List TV)
 |func (f:Nat) (cs:List TV)
 |mapr (l:Nat)
 |own (l:Nat)
 |psl (l z:Nat) (c:Option Nat)
 |ap (l:Nat) (i:Int) (z off:Nat)
inductive TObj where
 |box (cs:List TV)
 |own (e:ET) (xs:List e.D)
 |gone (e:ET) (xs:List e.D)
 |mp (e:ET) (xs:List (Str×e.D))
 |arr (e:ET) (xs:List e.D)
 |gon (n:Nat)
 |dead
 |res
noncomputable def nth{α:Type}(d:α)(l:List α):Nat→α:=List.rec (motive:=fun _=>Nat→α) (fun _=>d) (fun x _ ih n=>Nat.rec (motive:=fun _=>α) x (fun m _=>ih m) n) l
theorem dF{α:Type}(d:α):∀(l:List α) (n:Nat),nth d l n=l.getD n d
 |[],_=>rfl
 |_::_,0=>rfl
 |_::xs,n+1=>(dF d xs n).trans (by simp[List.getD])
def eP:(t:LT)→t.D→AV
 | .n k,x=>.int k x
 | .b,x=>.bool x
 | .s,x=>.str x
 | .l e,x=>.slice (List.map e.enc x) .shared
 | .t e,x=>.agg (e.enc x)
 | .m _,_=>.unk
 | .f e,x=>.flist (List.map e.enc x)
 | .c e,x=>.slice (List.map e.enc x) (.full x.length)
def bV(l:Nat):TObj→AV
 | .own e xs=>.slice (xs.map e.enc) (.tip l e.sz)
 | .gone e xs=>.slice (xs.map e.enc) (.tip l e.sz)
 |_=>.unk
def bI(l z:Nat):TObj→AV
 | .arr _ xs=>.psl l z xs.length
 | .gon n=>.psl l z n
 |_=>.unk
def nX(v:TV)(a:AV):List AV:=match v with
 | .lf (.t e) x=>e.enc x
 |_=>[a]
mutual
noncomputable def av(H:List TObj):TV→AV
 | .unk=>.unk
 | .nilp=>.nilp
 | .nilF=>.nilFunc
 | .nils=>.slice [] .nils
 | .lf t x=>eP t x
 | .nat n=>.int .i64 n
 | .ptr l o=>.ptr l o
 | .eptr cs=>.eptr (aO H cs)
 | .agg cs=>.agg (aO H cs)
 | .tup cs=>.tup (aI H cs)
 | .func f cs=>.func f (aI H cs)
 | .mapr l=>.mapr l
 | .own l=>bV l (nth .dead H l)
 | .psl l z c=>match c with
  |none=>bI l z (nth .dead H l)
  |some n=>.psl l z n
 | .ap l i z off=>.ptr l (i.toNat*z+off)
noncomputable def aO(H:List TObj):List TV→List AV
 |[]=>[]
 |v::vs=>nX v (av H v)++aO H vs
noncomputable def aI(H:List TObj):List TV→List AV
 |[]=>[]
 |v::vs=>av H v::aI H vs
end
def ET.one(e:ET)(x:e.D):AV:=match e.sc,e.enc x with
 |true,[v]=>v
 |_,cs=>.agg cs
noncomputable def bY(H:List TObj):TObj→AObj
 | .box cs=>.box (aO H cs)
 | .own e xs=>.tip (xs.length*e.sz)
 | .gone _ _=>.dead
 | .mp e xs=>.mp (xs.map fun p=>(p.1,e.one p.2))
 | .arr e xs=>.arr e.sz (xs.map e.enc)
 | .gon _=>.dead
 | .dead=>.dead
 | .res=>.res
def VD(a c:Int):Option Int:=if c=0 then none else some (a.tmod c)
def WH(a c:Int):Option Int:=if 0≤c∧c≤62 then some (IntKind.wrap .i64 (a*2^c.toNat))else none
noncomputable section
def ET.seg:(e:ET)→e.D→TV
 | .i,x=>.lf (.n .i64) x| .u,x=>.lf (.n .u8) x| .s,x=>.lf .s x| .b,x=>.lf .b x
 | .car,x=>.lf (.t .car) x| .dec,x=>.lf (.t .dec) x| .ty,x=>.lf (.t .ty) x| .tm,x=>.lf (.t .tm) x| .env,x=>.lf (.t .env) x| .val,x=>.lf (.t .val) x
 | .bnd,x=>.lf (.t .bnd) x| .vals,x=>.lf (.l .val) x| .tms,x=>.lf (.l .tm) x
def comps(e:ET)(x:e.D):List TV:=(bR e.cs (e.un x)).map fun u=>.lf u.t u.x
def width:TV→Nat
 | .lf (.t e) _=>e.sz
 |_=>1
def widths:List TV→Nat
 |[]=>0
 |v::vs=>width v+widths vs
def scB(H:List TObj):TV→Bool
 | .unk=>false
 | .agg _=>false
 | .tup _=>false
 | .lf (.m _) _=>false
 | .own l=>match nth .dead H l with
  | .own _ _=>true
  | .gone _ _=>true
  |_=>false
 | .psl l _ none=>match nth .dead H l with
  | .arr _ _=>true
  | .gon _=>true
  |_=>false
 |_=>true
def KF(H:List TObj):List TV→Bool
 |[]=>true
 |v::vs=>scB H v&&KF H vs
section
variable {γ:Type}
def splitK:Nat→List TV→Nat→(List TV→List TV→Option γ)→Option γ
 |0,_,_,_=>none
 |f+1,cs,n,K=>match n with
  |0=>K [] cs
  |m+1=>match cs with
   |[]=>none
   |c::r=>bif Nat.ble (width c) (m+1)then splitK f r (m+1 - width c) fun a b=>K (c::a) b else match c with
    | .lf (.t e) x=>splitK f (comps e x++r) (m+1) K
    |_=>none
def lC(cs:List TV)(off:Nat)(new:List TV)(K:List TV→Option γ):Option γ:=splitK 99 cs off fun a b=>splitK 99 b (widths new) fun _ r=>K (a++(new++r))
def Pz:Nat→List TV→(TV→Option γ)→Option γ
 |0,_,_=>none
 |f+1,cs,K=>match cs with
  |[]=>none
  |c::_=>match c with
   | .lf (.t e) x=>Pz f (comps e x) K
   |v=>K v
def FX:List TV→TV
 |[.lf (.t e) x]=>.lf (.t e) x
 |cs=>.agg cs
def Kn(τ:Nat→TI)(t:TypeId)(off:Nat)(cs:List TV)(K:TV→Option γ):Option γ:=
 match(τ t).agg with
 |some true=>match(τ t).size with
  |some n=>splitK 60 cs off fun _ b=>splitK 60 b n fun c _=>K (FX c)
  |none=>none
 |some false=>splitK 60 cs off fun _ b=>Pz 60 b K
 |none=>none
def rC(H:List TObj):TV→Option (List TV)
 | .agg cs=>some cs
 | .unk=>none
 | .tup _=>none
 | .lf (.m _) _=>none
 | .nat n=>some [.lf (.n .i64) (n:Int)]
 | .own l=>match nth .dead H l with
  | .own _ _=>some [.own l]
  | .gone _ _=>some [.own l]
  |_=>none
 | .psl l z none=>match nth .dead H l with
  | .arr _ _=>some [.psl l z none]
  | .gon _=>some [.psl l z none]
  |_=>none
 |v=>some [v]
def kX(H:List TObj)(w:Bool)(t:LT)(v:TV)(K:U→Option γ):Option γ:=
 match v with
 | .lf t' x=>K ⟨t',x⟩
 | .nat n=>K ⟨.n .i64,(n:Int)⟩
 | .nils=>bif w then(match t with| .l e=>K ⟨.l e,[]⟩|_=>none)else none
 | .nilp=>bif w then(match t with| .f e=>K ⟨.f e,[]⟩|_=>none)else none
 | .own l=>bif w then(match nth .dead H l with| .own e xs=>K ⟨.l e,xs⟩| .gone e xs=>K ⟨.l e,xs⟩|_=>none)else none
 |_=>none
def LG(L:LT→List TV→(U→List TV→Option γ)→Option γ):List LT→List TV→(List U→List TV→Option γ)→Option γ
 |[],cs,K=>K [] cs
 |t::ts,cs,K=>L t cs fun u r=>LG L ts r fun us r=>K (u::us) r
def Ap(H:List TObj)(w:Bool):Nat→LT→List TV→(U→List TV→Option γ)→Option γ
 |0,_,_,_=>none
 |f+1,t,cs,K=>match cs with
  |[]=>none
  |c::r=>match c with
   | .lf (.t e') x=>match LT.eq? (.t e') t with
    |some _=>K ⟨.t e',x⟩ r
    |none=>match t with
     | .t e=>bif Nat.ble e.sz e'.sz then Ap H w f t (comps e' x++r) K else LG (Ap H w f) e.cs cs fun us r=>ou e.cs us fun y=>K ⟨.t e,e.mk y⟩ r
     |t=>Ap H w f t (comps e' x++r) K
   |v=>match t with
    | .t e=>LG (Ap H w f) e.cs cs fun us r=>ou e.cs us fun y=>K ⟨.t e,e.mk y⟩ r
    |t=>kX H w t v fun u=>K u r
def sM(H:List TObj)(e:ET)(v:TV)(K:e.D→Option γ):Option γ:=
 match rC H v with
  |some cs=>Ap H true 60 (.t e) cs fun u r=>match r with|[]=>fI (.t e) u K|_=>none
  |none=>none
def Pw(H:List TObj)(e:ET)(v:TV)(K:e.D→Option γ):Option γ:=
 match e with
 | .i=>kX H true (.n .i64) v fun u=>fI (.n .i64) u K
 | .u=>kX H true (.n .u8) v fun u=>fI (.n .u8) u K
 | .s=>kX H true .s v fun u=>fI .s u K
 | .b=>kX H true .b v fun u=>fI .b u K
 | .car=>sM H .car v K| .dec=>sM H .dec v K| .ty=>sM H .ty v K| .tm=>sM H .tm v K| .env=>sM H .env v K| .val=>sM H .val v K
 | .bnd=>sM H .bnd v K
 | .vals=>kX H true (.l .val) v fun u=>fI (.l .val) u K
 | .tms=>kX H true (.l .tm) v fun u=>fI (.l .tm) u K
end
end
end
section
open Go
noncomputable section
inductive TWr where
 |sl (n:Nat) (v:TV)
 |ob (l:Nat) (o:TObj)
 |st (l off:Nat) (vs:List TV)
 |kill (l:Nat)
 |nw (l:Nat) (o:TObj)
 |up (l:Nat) (i:Int) (e:ET) (y:e.D)
def bM(d:Option Tmp)(v:TV):List TWr:=match d with|some n=>[.sl n v]|none=>[]
def Me:Value→TV
 | .int k n=>bif decide (k.min≤n)&&decide (n≤k.max)then .lf (.n k) n else .unk
 | .bool b=>.lf .b b
 | .string s=>bif decide (s.data.toList.length≤9223372036854775807)then .lf .s s.data.toList else .unk
 | .pointer none=>.nilp
 | .slice none 0 0=>.nils
 | .nilFunc=>.nilF
 |_=>.unk
def ZP:Value→TV
 | .agg cs=>.agg (cs.toList.map Me)
 |v=>Me v
def Dx:AV→TV
 | .int k n=>.lf (.n k) n
 | .bool b=>.lf .b b
 | .str s=>.lf .s s
 | .nilp=>.nilp
 | .slice [] .nils=>.nils
 | .nilFunc=>.nilF
 |_=>.unk
def YV:AV→Bool
 | .int _ _=>true
 | .bool _=>true
 | .str _=>true
 | .nilp=>true
 | .slice [] .nils=>true
 | .nilFunc=>true
 | .unk=>true
 |_=>false
def Fu:List AV→Bool
 |[]=>true
 |a::asz=>YV a&&Fu asz
def F6:AV→TV
 | .agg cs=>.agg (cs.map Dx)
 |v=>Dx v
def okZ:AV→Bool
 | .agg cs=>Fu cs
 |v=>YV v
def fA:TObj→Bool
 | .res=>true
 |_=>false
def bT(regs:List TV):Operand→TV
 | .tmp n=>nth .unk regs n
 | .const v=>ZP v
 | .func f=>.func f []
 | .global _=>.unk
def mem(l:List Nat)(n:Nat):Bool:=List.rec (motive:=fun _=>Bool) false (fun x _ ih=>bif Nat.beq x n then true else ih) l
def afA(k:IntKind)(a c:Int):Option Int:=if 0≤c∧c≤k.bits then some (a.fdiv (2^c.toNat))else none
def aez(a c:Int):Option Int:=if c=0 then none else some (IntKind.wrap .i64 (a.tdiv c))
section
variable {γ:Type}
def PG:Int→Bool
 | .ofNat 1=>true
 |_=>false
def xB(v:TV)(K:IntKind→Int→Option γ):Option γ:=match v with
 | .lf (.n k) x=>K k x
 | .nat n=>K .i64 (n:Int)
 |_=>none
def XM(k k':IntKind):Bool:=Nat.beq (IntKind.no k) (IntKind.no k')
def isNat:TV→Bool
 | .nat _=>true
 |_=>false
def Rn(p q:Bool)(op:BinOp)(k:IntKind)(a b:Int)(K:TV→Option γ):Option γ:=
 match op with
 | .add=>bif p&&PG b then K (.lf (.n k) (a+b))else K (.lf (.n k) (k.wrap (a+b)))
 | .sub=>bif q&&PG b then K (.lf (.n k) (a - b))else K (.lf (.n k) (k.wrap (a - b)))
 | .mul=>K (.lf (.n k) (k.wrap (a*b)))
 | .quo=>match k with| .i64=>(aez a b).bind fun x=>K (.lf (.n .i64) x)|_=>none
 | .rem=>(VD a b).bind fun x=>K (.lf (.n k) x)
 | .eql=>K (.lf .b (a==b))
 | .neq=>K (.lf .b (a !=b))
 | .lss=>K (.lf .b (decide (a<b)))
 | .leq=>K (.lf .b (decide (a≤b)))
 | .gtr=>K (.lf .b (decide (b<a)))
 | .geq=>K (.lf .b (decide (b≤a)))
 | .shl=>match k with| .i64=>(WH a b).bind fun x=>K (.lf (.n .i64) x)|_=>none
 | .shr=>(afA k a b).bind fun x=>K (.lf (.n k) x)
 |_=>none
def Z7(op:BinOp)(a b:Str)(K:TV→Option γ):Option γ:=
 match op with
 | .add=>(WI a b).bind fun x=>K (.lf .s x)
 | .eql=>K (.lf .b (a==b))
 | .neq=>K (.lf .b (!(a==b)))
 | .lss=>K (.lf .b (Op.bytesLess a b))
 | .leq=>K (.lf .b (Op.bytesLess a b ||a==b))
 | .gtr=>K (.lf .b (!(Op.bytesLess a b ||a==b)))
 | .geq=>K (.lf .b (!(Op.bytesLess a b)))
 |_=>none
def abB(op:BinOp)(a b:Bool)(K:TV→Option γ):Option γ:=match op with
 | .eql=>K (.lf .b (a==b))
 | .neq=>K (.lf .b (!(a==b)))
 |_=>none
def abu(τ:Nat→TI)(p o:Bool)(op:BinOp)(t:TypeId)(x y:TV)(K:TV→Option γ):Option γ:=
 match y with
 | .nilp=>bif (τ t).isPtr then(match op,x with
  | .eql,.nilp=>K (.lf .b true)
  | .neq,.nilp=>K (.lf .b false)
  | .eql,.ptr _ _=>K (.lf .b false)
  | .neq,.ptr _ _=>K (.lf .b true)
  | .eql,.eptr _=>K (.lf .b false)
  | .neq,.eptr _=>K (.lf .b true)
  | .eql,.lf (.f _) l=>K (.lf .b (false !=List.isEmpty l))
  | .neq,.lf (.f _) l=>K (.lf .b (true !=List.isEmpty l))
  |_,_=>none)else none
 | .lf .s b=>match x with
  | .lf .s a=>Z7 op a b K
  |_=>none
 | .lf .b b=>match x with
  | .lf .b a=>bif (τ t).isBool then abB op a b K else none
  |_=>none
 |y=>xB x fun k a=>xB y fun k' b=>bif XM k k' then Rn (p&&o) (isNat x&&o) op k a b K else none
def LA(H:List TObj)(v:TV)(K:(e:ET)→List e.D→Option γ):Option γ:=
 match v with
 | .lf (.l e) xs=>K e xs
 | .own l=>match nth .dead H l with
  | .own e xs=>K e xs
  | .gone e xs=>K e xs
  |_=>none
 |_=>none
def zW(v:Option TV)(d:Int)(K:Int→Option γ):Option γ:=match v with
 |none=>K d
 |some v=>xB v fun _ n=>K n
def Kl(H:List TObj)(place:Nat→Option (Nat×Nat)):List (Nat×TV)→List TV→(List TV→Option γ)→Option γ
 |[],cs,K=>K cs
 |(i,v)::ps,cs,K=>match place i with
  |some (off,sz)=>match rC H v with
   |some new=>bif Nat.beq (widths new) sz then splitK 99 cs off fun a b=>splitK 99 b sz fun _ d=>Kl H place ps (a++(new++d)) K else none
   |none=>none
  |none=>none
def Sq(H:List TObj)(e:ET):Nat→List (Nat×TV)→(List e.D→Option γ)→Option γ
 |_,[],K=>K []
 |i,p::ps,K=>bif Nat.beq p.1 i then Pw H e p.2 fun x=>Sq H e (i+1) ps fun xs=>K (x::xs)else none
def Dv(e:ET)(sz:Nat):Bool:=Nat.beq e.sz sz
def atK(n:Int):Nat→Nat→(Nat→Option γ)→Option γ
 |0,_,_=>none
 |m+1,q,K=>cond (n==(q:Int)) (K q) (atK n m (q+1) K)
def isZ:Int→Bool
 | .ofNat 0=>true
 |_=>false
def Wn:Operand→Operand→Bool
 | .tmp i,.tmp j=>Nat.beq i j
 |_,_=>false
def aap:List AV→Bool
 |[.bool false]=>true
 |_=>false
def mkz{α:Type}(n:Int)(v:α):Option (List α):=if 0≤n∧n≤1000000000 then some (List.replicate n.toNat v)else none
def mkS(bytes:Nat)(c:Int):Option Unit:=if 0≤c∧bytes*c≤281474976710656∧c≤140737488355328 then some ()else none
def RD(len:Nat)(b:Int):Option Nat:=if 0≤b∧b≤len then some b.toNat else none
def zD:TV→TV
 | .nat n=>.lf (.n .i64) (n:Int)
 |v=>v
def bg(τ:Nat→TI)(θ:Nat→Option ET)(up:List Nat)(k:Nat)(d:Option Tmp)(regs:List TV)(H:List TObj)(op:Op)(K:List Nat→List TWr→Option γ):Option γ:=
 match op with
 | .move x=>K [] (bM d (bT regs x))
 | .assign x=>K [] (bM d (bT regs x))
 | .pick c x y=>match bT regs c with
  | .lf .b b=>cond b (K [] (bM d (bT regs x))) (K [] (bM d (bT regs y)))
  |_=>none
 | .nilCheck x=>match bT regs x with
  | .lf (.f e) l=>(unc l).bind fun p=>K [] (bM d (.eptr [e.seg p.1,.lf (.f e) p.2]))
  | .ptr l o=>K [] (bM d (.ptr l o))
  | .eptr cs=>K [] (bM d (.eptr cs))
  | .func f cs=>K [] (bM d (.func f cs))
  |_=>none
 | .binOp op t x y _=>abu τ (match x with| .tmp i=>mem up i|_=>false) (match y with| .const _=>true|_=>false) op t (bT regs x) (bT regs y) fun v=>K [] (bM d v)
 | .unOp op _ x=>match op,bT regs x with
  | .not,.lf .b b=>K [] (bM d (.lf .b (!b)))
  | .neg,.lf (.n k') n=>K [] (bM d (.lf (.n k') (k'.wrap ((0:Int) - (show Int from n)))))
  |_,_=>none
 | .fieldAddr s x f=>match lk (τ s).field f with
  |some (fo,_)=>match bT regs x with
   | .ptr l o=>K [] (bM d (.ptr l (o+fo)))
   | .eptr cs=>splitK 60 cs fo fun _ b=>K [] (bM d (.eptr b))
   | .ap l i z o=>K [] (bM d (.ap l i z (o+fo)))
   |_=>none
  |none=>none
 | .field s x f=>match lk (τ s).field f with
  |some (fo,t)=>match bT regs x with
   | .agg cs=>Kn τ t fo cs fun v=>K [] (bM d (zD v))
   | .lf (.t e) y=>Kn τ t fo [.lf (.t e) y] fun v=>K [] (bM d (zD v))
   |_=>none
  |none=>none
 | .indexAddr t x i=>match(τ t).ix with
  | .sl (some sz)=>xB (bT regs i) fun _ n=>match bT regs x with
   | .psl l z none=>match nth .dead H l with
    | .arr _ xs=>bif Nat.beq z sz then(idx xs n).bind fun _=>K [] (bM d (.ap l n z 0))else none
    |_=>none
   |v=>LA H v fun e xs=>bif Dv e sz then(idx xs n).bind fun y=>K [] (bM d (.eptr [e.seg y]))else none
  | .arr len (some sz)=>match bT regs x with
   | .ptr l o=>xB (bT regs i) fun _ n=>atK n len 0 fun q=>K [] (bM d (.ptr l (o+q*sz)))
   |_=>none
  |_=>none
 | .index t x i=>match bT regs x with
  | .lf .s s=>bif (τ t).isStr then xB (bT regs i) fun _ n=>(qP s n).bind fun y=>K [] (bM d (.lf (.n .u8) y))else none
  |_=>none
 | .extract x i=>match bT regs x with
  | .tup vs=>bif Nat.blt i vs.length then K [] (bM d (zD (nth .unk vs i)))else none
  |_=>none
 | .slice t x lo hi none=>match bT regs x with
  | .lf .s s=>bif (τ t).isStr then zW (lo.map (bT regs)) 0 fun a=>zW (hi.map (bT regs)) (s.length:Int) fun b=>(nQ s a b).bind fun y=>K [] (bM d (.lf .s y))else none
  | .psl l z none=>match nth .dead H l,(τ t).slT,lo with
   | .arr _ xs,some _,none=>zW (hi.map (bT regs)) (xs.length:Int) fun b=>(RD xs.length b).bind fun c=>K [] (bM d (.psl l z (some c)))
   |_,_,_=>none
  |v=>match(τ t).slT with
   |some sz=>LA H v fun e xs=>bif Dv e sz then zW (lo.map (bT regs)) 0 fun a=>zW (hi.map (bT regs)) (xs.length:Int) fun b=>(nQ xs a b).bind fun y=>K [] (bM d (.lf (.l e) y))else none
   |none=>none
 | .build t parts=>bif (τ t).isStruct then(match(τ t).zero with
  |some z=>bif Fu z then Kl H (lk (τ t).place) (parts.toList.map fun p=>(p.1,bT regs p.2)) (z.map Dx) fun cs=>K [] (bM d (FX cs))else none
  |none=>none)else(match(τ t).ix,(τ t).zero with
  | .arr _ (some sz),some z=>bif Fu z then Kl H (fun i=>some (i*sz,sz)) (parts.toList.map fun p=>(p.1,bT regs p.2)) (z.map Dx) fun cs=>K [] (bM d (FX cs))else none
  |_,_=>none)
 | .makeFunc (.func f) first cap=>bif Nat.beq first.size 0 then K [] (bM d (.func f (cap.toList.map fun x=>zD (bT regs x))))else none
 | .load t x=>match bT regs x with
  | .eptr cs=>Kn τ t 0 cs fun v=>K [] (bM d (zD v))
  | .ptr l off=>match nth .dead H l with
   | .box cs=>Kn τ t off cs fun v=>K [l] (bM d (zD v))
   |_=>none
  | .ap l i z off=>match nth .dead H l with
   | .arr e xs=>bif Nat.beq z e.sz&&(Nat.beq off 0&&Nat.ble 1 z)then(idx xs i).bind fun y=>Kn τ t 0 [e.seg y] fun v=>K [l] (bM d (zD v))else none
   |_=>none
  |_=>none
 | .convert s t x=>match bT regs x with
  | .lf (.n _) n=>bif (τ s).int.isSome then(match(τ t).int with|some k=>K [] (bM d (.lf (.n k) (k.wrap n)))|none=>none)else none
  | .nat n=>bif (τ s).int.isSome then(match(τ t).int with|some k=>K [] (bM d (.lf (.n k) (k.wrap (n:Int))))|none=>none)else none
  |_=>none
 | .store t x y=>match bT regs x with
  | .ptr l off=>match rC H (bT regs y),(τ t).size with
   |some new,some sz=>match nth .dead H l with
    | .box cs=>bif (Nat.beq (widths new) sz&&Nat.ble (off+sz) (widths cs))&&KF H new then K [l] (.st l off new::bM d (.tup []))else none
    |_=>none
   |_,_=>none
  | .ap l i z off=>match rC H (bT regs y),(τ t).size with
   |some new,some sz=>match nth .dead H l with
    | .arr e xs=>bif (Nat.beq (widths new) sz&&(Nat.beq z e.sz&&(Nat.ble 1 sz&&Nat.ble (off+sz) z)))&&KF H new then(idx xs i).bind fun x=>lC (comps e x) off new fun cs=>Ap H false 60 (.t e) cs fun u r=>match r with
     |[]=>fI (.t e) u fun y=>K [l] (.up l i e y::bM d (.tup []))
     |_=>none else none
    |_=>none
   |_,_=>none
  |_=>none
 | .alloc t=>match(τ t).zero with
  |some z=>bif Fu z&&fA (nth .dead H k)then K [k] (.nw k (.box (z.map Dx))::bM d (.ptr k 0))else none
  |none=>none
 | .box _ x=>match rC H (bT regs x)with
  |some cs=>bif fA (nth .dead H k)then K [k] (.nw k (.box cs)::bM d (.ptr k 0))else none
  |none=>none
 | .makeMap t none=>match(τ t).smap with
  |some e=>match θ e with
   |some e=>bif fA (nth .dead H k)then K [k] (.nw k (.mp e [])::bM d (.mapr k))else none
   |none=>none
  |none=>none
 | .buildSlice t len parts=>match(τ t).elem with
  |some (et,sz,_)=>match θ et,(τ et).zero with
   |some e,some z=>bif FT len parts.toList z then(bif Dv e sz&&(fA (nth .dead H k)&&Nat.beq z.length sz)then K [k] (.nw k (.arr e [])::bM d (.psl k sz none))else none)else bif (Nat.beq parts.toList.length len&&(Dv e sz&&fA (nth .dead H k)))&&(Nat.beq z.length sz&&(Nat.ble (len*sz) 16777216&&Nat.ble len 16777216))then Sq H e 0 (parts.toList.map fun p=>(p.1,bT regs p.2)) fun xs=>K [k] (.nw k (.own e xs)::bM d (.own k))else none
   |_,_=>none
  |none=>none
 | .makeSlice t x y=>match(τ t).elem with
  |some (et,sz,bytes)=>match θ et,(τ et).zero with
   |some e,some z=>xB (bT regs x) fun _ l=>xB (bT regs y) fun _ c=>bif (Wn x y&&aap z)&&(Nat.beq sz 1&&(Nat.ble bytes 1000&&fA (nth .dead H k)))then(mkz l false).bind fun xs=>K [k] (.nw k (.arr .b xs)::bM d (.psl k 1 none))else bif isZ l&&(Dv e sz&&(Nat.beq z.length sz&&fA (nth .dead H k)))then(mkS bytes c).bind fun _=>K [k] (.nw k (.arr e [])::bM d (.psl k sz none))else none
   |_,_=>none
  |none=>none
 | .call {callee:=.builtin .len,args,argTypes}=>match args.toList,argTypes.toList with
  |[x],[t]=>match bT regs x with
   | .lf .s s=>bif (τ t).isStr then K [] (bM d (.nat s.length))else none
   | .nils=>bif (τ t).slT.isSome then K [] (bM d (.nat 0))else none
   | .psl l _ none=>match nth .dead H l with
    | .arr _ xs=>bif (τ t).slT.isSome then K [] (bM d (.nat xs.length))else none
    |_=>none
   |v=>bif (τ t).slT.isSome then LA H v fun _ xs=>K [] (bM d (.nat xs.length))else none
  |_,_=>none
 | .call {callee:=.builtin .min,args,argTypes:=_}=>match args.toList with
  |[x,y]=>xB (bT regs x) fun k a=>xB (bT regs y) fun k' b=>bif XM k k' then K [] (bM d (.lf (.n k) (if b<a then b else a)))else none
  |_=>none
 | .call {callee:=.builtin .append,args,argTypes}=>match args.toList,argTypes.toList with
  |[x,y],[t,t2]=>match(τ t).elem with
   |some (et,sz,bytes)=>match θ et with
    |some e=>bif Dv e sz&&((τ t2).isSl&&fA (nth .dead H k))then kX H true (.l e) (bT regs y) fun u=>fI (.l e) u fun ys=>(match bT regs x with
     | .nils=>(app bytes ([]:List e.D) ys).bind fun r=>K [k] (.nw k (.own e r)::bM d (.own k))
     | .own l=>match nth .dead H l with
      | .own e' xs=>fI (.l e) ⟨.l e',xs⟩ fun xs=>(app bytes xs ys).bind fun r=>K [l,k] (.kill l:: .nw k (.own e r)::bM d (.own k))
      |_=>none
     | .psl l z none=>match nth .dead H l with
      | .arr e' xs=>bif Nat.beq z sz then fI (.l e) ⟨.l e',xs⟩ fun xs=>(app bytes xs ys).bind fun r=>K [l,k] (.kill l:: .nw k (.arr e r)::bM d (.psl k z none))else none
      |_=>none
     | .lf (.c e') xs=>fI (.l e) ⟨.l e',xs⟩ fun xs=>(app bytes xs ys).bind fun r=>K [k] (.nw k .dead::bM d (.lf (.l e) r))
     |_=>none)else none
    |none=>none
   |none=>none
  |_,_=>none
 | .lookup t m key ok=>match(τ t).smap,bT regs m,bT regs key with
  |some et,.mapr l,.lf .s s=>match nth .dead H l,(τ et).zav with
   | .mp e xs,some z=>bif okZ z then mel (dY xs s) (K [l] (bM d (bif ok then .tup [F6 z,.lf .b false]else F6 z))) fun y=>K [l] (bM d (bif ok then .tup [e.seg y,.lf .b true]else e.seg y))else none
   |_,_=>none
  |_,_,_=>none
 | .mapUpdate t m key x=>match(τ t).smap,bT regs m,bT regs key with
  |some _,.mapr l,.lf .s s=>match nth .dead H l with
   | .mp e xs=>Pw H e (bT regs x) fun y=>(Nc xs s y).bind fun r=>K [l] (.ob l (.mp e r)::bM d (.tup []))
   |_=>none
  |_,_,_=>none
 |_=>none
end
end
end
section
def dz{σ δ:Type}(body:(σ→Option δ)→σ→Option δ)(n:Nat):σ→Option δ:=Nat.rec (motive:=fun _=>σ→Option δ) (fun _=>none) (fun _ ih=>body ih) n
inductive PZ(α ζ:Type) where
 |ok (x:α)
 |er (e:Int) (z:ζ)
def PZ.el{α ζ β:Type}(f:α→Option β)(g:Int→ζ→Option β):PZ α ζ→Option β
 | .ok x=>f x
 | .er e z=>g e z
end
section
open Go
noncomputable section
mutual
def aa9:Ty→Ty→Bool
 | .mk k s l,.mk k' s' l'=>decide (k=k')&&(s==s'&&JI l l')
def JI:List Ty→List Ty→Bool
 |[],[]=>true
 |x::xs,y::ys=>aa9 x y&&JI xs ys
 |_,_=>false
end
inductive CU where
 |n (k:IntKind) (x:Int)|b (x:Bool)|s (x:Str)|l (e:ET)|ly (x:List Ty)
def CU.t:CU→LT
 | .n k _=>.n k| .b _=>.b| .s _=>.s| .l e=>.l e| .ly _=>.l .ty
def CU.x:(c:CU)→c.t.D
 | .n _ x=>x| .b x=>x| .s x=>x| .l _=>[]| .ly x=>x
def CU.is:(c:CU)→c.t.D→Bool
 | .n _ x,y=>decide ((show Int from y)=x)
 | .b x,y=>x==(show Bool from y)
 | .s x,y=>(show Str from y)==x
 | .l e,y=>List.isEmpty (show List e.D from y)
 | .ly x,y=>JI x (show List Ty from y)
inductive Sk where
 |unk|nilp|nilF|nils
 |k (c:CU)
 |lf (t:LT)
 |ptr (l off:Nat)
 |eptr (cs:List Sk)
 |agg (cs:List Sk)
 |tup (cs:List Sk)
 |func (f:Nat) (cs:List Sk)
 |mapr (l:Nat)
 |own (l:Nat)
 |psl (l z:Nat)
inductive HO where
 |dead
 |box (cs:List Sk)
 |bx (l:List (Nat×Sk))
 |own (e:ET)
 |mp (e:ET)
 |arr (e:ET)
inductive Ed where
 |r (n:Nat) (s:Sk)
 |o (l:Nat) (h:HO)
 |w (h:HO)
mutual
def Sk.xG:Sk→List LT
 | .lf t=>[t]
 | .eptr cs=>Sk.Bj cs
 | .agg cs=>Sk.Bj cs
 | .tup cs=>Sk.Bj cs
 | .func _ cs=>Sk.Bj cs
 | .unk=>[]| .nilp=>[]| .nilF=>[]| .nils=>[]| .k _=>[]| .ptr _ _=>[]| .mapr _=>[]| .own _=>[]| .psl _ _=>[]
def Sk.Bj:List Sk→List LT
 |[]=>[]
 |s::ss=>s.xG++Sk.Bj ss
end
def HO.xG:HO→List LT
 | .dead=>[]
 | .box cs=>Sk.Bj cs
 | .bx l=>l.flatMap fun p=>p.2.xG
 | .own e=>[.l e]
 | .mp e=>[.m e]
 | .arr e=>[.l e]
def aR:List Ed→List LT
 |[]=>[]
 | .r _ s::es=>s.xG++aR es
 | .o _ h::es=>h.xG++aR es
 | .w h::es=>h.xG++aR es
section
variable {β:Type}
def nU{α:Type}(l:List α):Nat→α→(List α→β)→β:=
 List.rec (motive:=fun _=>Nat→α→(List α→β)→β) (fun _ _ K=>K []) (fun x xs ih n v K=>Nat.rec (motive:=fun _=>β) (K (v::xs)) (fun m _=>ih m v fun ys=>K (x::ys)) n) l
def abU{α:Type}(l:List α):α→(List α→β)→β:=
 List.rec (motive:=fun _=>α→(List α→β)→β) (fun v K=>K [v]) (fun x _ ih v K=>ih v fun ys=>K (x::ys)) l
mutual
def fill(g:Nat→Nat):Sk→List U→(TV→List U→β)→β
 | .unk,us,K=>K .unk us
 | .nilp,us,K=>K .nilp us
 | .nilF,us,K=>K .nilF us
 | .k c,us,K=>K (.lf c.t c.x) us
 | .nils,us,K=>K .nils us
 | .lf _,us,K=>match us with
  |u::us=>K (.lf u.t u.x) us
  |[]=>K .unk []
 | .ptr l o,us,K=>K (.ptr (g l) o) us
 | .eptr cs,us,K=>fills g cs us fun vs us=>K (.eptr vs) us
 | .agg cs,us,K=>fills g cs us fun vs us=>K (.agg vs) us
 | .tup cs,us,K=>fills g cs us fun vs us=>K (.tup vs) us
 | .func f cs,us,K=>fills g cs us fun vs us=>K (.func f vs) us
 | .mapr l,us,K=>K (.mapr (g l)) us
 | .own l,us,K=>K (.own (g l)) us
 | .psl l z,us,K=>K (.psl (g l) z none) us
def fills(g:Nat→Nat):List Sk→List U→(List TV→List U→β)→β
 |[],us,K=>K [] us
 |s::ss,us,K=>fill g s us fun v us=>fills g ss us fun vs us=>K (v::vs) us
end
def DR(g:Nat→Nat):List (Nat×Sk)→Option (List TV)→List U→(Option (List TV)→List U→β)→β
 |[],c,us,K=>K c us
 |p::ps,c,us,K=>fill g p.2 us fun v us=>match c with
  |none=>DR g ps none us K
  |some cs=>match lC cs p.1 [v] some with
   |some cs=>DR g ps (some cs) us K
   |none=>DR g ps none us K
def Ao(g:Nat→Nat)(o:TObj):HO→List U→(TObj→List U→β)→β
 | .dead,us,K=>K .dead us
 | .box cs,us,K=>fills g cs us fun vs us=>K (.box vs) us
 | .bx l,us,K=>match o with
  | .box cs=>DR g l (some cs) us fun c us=>match c with
   |some cs=>K (.box cs) us
   |none=>K .dead us
  |_=>DR g l none us fun _ us=>K .dead us
 | .own _,us,K=>match us with
  |⟨.l e,xs⟩::us=>K (.own e xs) us
  |us=>K .dead us
 | .mp _,us,K=>match us with
  |⟨.m e,xs⟩::us=>K (.mp e xs) us
  |us=>K .dead us
 | .arr _,us,K=>match us with
  |⟨.l e,xs⟩::us=>K (.arr e xs) us
  |us=>K .dead us
def zS(g:Nat→Nat):List Ed→List U→List TV→List TObj→(List TV→List TObj→β)→β
 |[],_,t,h,K=>K t h
 | .r n s::es,us,t,h,K=>fill g s us fun v us=>nU t n v fun t=>zS g es us t h K
 | .o l s::es,us,t,h,K=>Ao g (nth .dead h l) s us fun v us=>nU h l v fun h=>zS g es us t h K
 | .w s::es,us,t,h,K=>Ao g .dead s us fun v us=>abU h v fun h=>zS g es us t h K
end
def mh:Sk→Nat
 | .lf (.t e)=>e.sz
 |_=>1
mutual
def WR:Sk→TV→List (Nat×Nat)
 | .ptr j _,v=>match v with| .ptr l _=>[(j,l)]|_=>[]
 | .mapr j,v=>match v with| .mapr l=>[(j,l)]|_=>[]
 | .own j,v=>match v with| .own l=>[(j,l)]|_=>[]
 | .psl j _,v=>match v with| .psl l _ _=>[(j,l)]|_=>[]
 | .eptr cs,v=>match v with| .eptr vs=>BG cs vs|_=>[]
 | .agg cs,v=>match v with| .agg vs=>BG cs vs|_=>[]
 | .tup cs,v=>match v with| .tup vs=>BG cs vs|_=>[]
 | .func _ cs,v=>match v with| .func _ vs=>BG cs vs|_=>[]
 |_,_=>[]
def BG:List Sk→List TV→List (Nat×Nat)
 |s::ss,v::vs=>WR s v++BG ss vs
 |_,_=>[]
end
def asc(m:List (Nat×Nat))(j:Nat):Option Nat:=match m with
 |[]=>none
 |p::r=>bif Nat.beq p.1 j then some p.2 else asc r j
def abL(H:List TObj)(m:List (Nat×Nat))(j:Nat):HO→List (Nat×Nat)
 | .box cs=>match asc m j with
  |some l=>match nth .dead H l with
   | .box vs=>BG cs vs
   |_=>[]
  |none=>[]
 | .bx is=>match asc m j with
  |some l=>match nth .dead H l with
   | .box vs=>is.flatMap fun p=>WR p.2 ((splitK 99 vs p.1 fun _ b=>b.head?).getD .unk)
   |_=>[]
  |none=>[]
 |_=>[]
def xX(t:List TV)(H:List TObj):Nat→List Ed→List (Nat×Nat)→List (Nat×Nat)
 |_,[],m=>m
 |j,.r n s::es,m=>xX t H j es (m++WR s (nth .unk t n))
 |j,.o l h::es,m=>xX t H j es (m++abL H (m++[(l,l)]) l h)
 |j,.w h::es,m=>xX t H (j+1) es (m++abL H m j h)
def aA:List Ed→Nat
 |[]=>0
 | .w _::es=>aA es+1
 |_::es=>aA es
def ai4:TV→Bool
 | .lf (.t _) _=>true
 |_=>false
def hd1{γ:Type}(vs:List TV)(F:TV→List TV→Option γ):Option γ:=match vs with
 |[]=>none
 |v::r=>bif ai4 v then none else F v r
def oeq(a:Option Nat)(l:Nat):Bool:=match a with|some x=>Nat.beq x l|none=>false
section
variable {γ:Type}
mutual
def ext(m:Nat)(H:List TObj)(L:Nat→Option Nat):Sk→TV→(List U→Option γ)→Option γ
 | .unk,v,K=>match m with
  |0=>match v with| .unk=>K []|_=>none
  |_=>K []
 | .nilp,v,K=>match v with| .nilp=>K []|_=>none
 | .nilF,v,K=>match v with| .nilF=>K []|_=>none
 | .k c,v,K=>kX H (Nat.ble 1 m) c.t v fun u=>fI c.t u fun x=>bif c.is x then K []else none
 | .nils,v,K=>match v with| .nils=>K []|_=>none
 | .lf t,v,K=>match t with
  | .t e=>bif e.sc then none else match rC H v with
   |some cs=>Ap H (Nat.ble 1 m) 60 (.t e) cs fun u r=>match r with|[]=>fI (.t e) u fun x=>K [⟨.t e,x⟩]|_=>none
   |none=>none
  |t=>kX H (Nat.ble 1 m) t v fun u=>fI t u fun x=>K [⟨t,x⟩]
 | .ptr j o,v,K=>match v with| .ptr l o'=>bif Nat.beq o o'&&oeq (L j) l then K []else none|_=>none
 | .mapr j,v,K=>match v with| .mapr l=>bif oeq (L j) l then K []else none|_=>none
 | .own j,v,K=>match v with
  | .own l=>bif oeq (L j) l then K []else none
  | .nils=>bif Nat.ble 2 m&&(L j).isNone then K []else none
  |_=>none
 | .psl j z,v,K=>match v with
  | .psl l z' none=>bif oeq (L j) l&&Nat.beq z z' then K []else none
  | .nils=>bif Nat.ble 2 m&&(L j).isNone then K []else none
  |_=>none
 | .eptr cs,v,K=>match v with
  | .eptr vs=>jK 0 H L cs vs K
  |_=>none
 | .agg cs,v,K=>match v with
  | .agg vs=>jK m H L cs vs K
  | .lf (.t e) x=>jK m H L cs [.lf (.t e) x] K
  |_=>none
 | .tup cs,v,K=>match v with
  | .tup vs=>M4 (bif Nat.ble 2 m then m else 0) H L cs vs K
  |_=>none
 | .func f cs,v,K=>match v with
  | .func f' vs=>bif Nat.beq f f' then M4 (bif Nat.ble 2 m then m else 0) H L cs vs K else none
  |_=>none
def M4(m:Nat)(H:List TObj)(L:Nat→Option Nat):List Sk→List TV→(List U→Option γ)→Option γ
 |[],vs,K=>match vs with|[]=>K []|_=>none
 |s::ss,vs,K=>match vs with
  |[]=>none
  |v::r=>ext m H L s v fun us=>M4 m H L ss r fun us'=>K (us++us')
def jK(m:Nat)(H:List TObj)(L:Nat→Option Nat):List Sk→List TV→(List U→Option γ)→Option γ
 |[],vs,K=>match vs with|[]=>K []|_=>none
 |s::ss,vs,K=>match s with
  | .lf t=>Ap H (Nat.ble 1 m) 60 t vs fun u r=>fI t u fun x=>jK m H L ss r fun us=>K (⟨t,x⟩::us)
  | .k c=>Ap H (Nat.ble 1 m) 60 c.t vs fun u r=>fI c.t u fun x=>bif c.is x then jK m H L ss r K else none
  |s=>hd1 vs fun v r=>ext m H L s v fun us=>jK m H L ss r fun us'=>K (us++us')
end
def Xu(m:Nat)(H:List TObj)(L:Nat→Option Nat)(vs:List TV):List (Nat×Sk)→(List U→Option γ)→Option γ
 |[],K=>K []
 |p::ps,K=>splitK 99 vs p.1 fun _ b=>splitK 99 b (mh p.2) fun c _=>jK m H L [p.2] c fun us=>Xu m H L vs ps fun us'=>K (us++us')
def Ms(m:Nat)(H:List TObj)(L:Nat→Option Nat)(o:TObj):HO→(List U→Option γ)→Option γ
 | .dead,K=>K []
 | .box cs,K=>match o with| .box vs=>jK m H L cs vs K|_=>none
 | .bx l,K=>match o with| .box vs=>Xu m H L vs l K|_=>none
 | .own e,K=>match o with| .own e' xs=>fI (.l e) ⟨.l e',xs⟩ fun x=>K [⟨.l e,x⟩]|_=>none
 | .mp e,K=>match o with| .mp e' xs=>fI (.m e) ⟨.m e',xs⟩ fun x=>K [⟨.m e,x⟩]|_=>none
 | .arr e,K=>match o with| .arr e' xs=>fI (.l e) ⟨.l e',xs⟩ fun x=>K [⟨.l e,x⟩]|_=>none
def oW(m mo:Nat)(t:List TV)(H:List TObj)(L:Nat→Option Nat):Nat→List Ed→(List U→Option γ)→Option γ
 |_,[],K=>K []
 |j,.r n s::es,K=>ext m H L s (nth .unk t n) fun us=>oW m mo t H L j es fun us'=>K (us++us')
 |j,.o l h::es,K=>Ms mo H L (nth .dead H l) h fun us=>oW m mo t H L j es fun us'=>K (us++us')
 |j,.w h::es,K=>match L j with
  |some l=>Ms mo H L (nth .dead H l) h fun us=>oW m mo t H L (j+1) es fun us'=>K (us++us')
  |none=>match h with
   | .own e=>bif Nat.ble 2 m then oW m mo t H L (j+1) es fun us'=>K (⟨.l e,[]⟩::us')else none
   | .arr e=>bif Nat.ble 2 m then oW m mo t H L (j+1) es fun us'=>K (⟨.l e,[]⟩::us')else none
   |_=>none
end
mutual
def F8(n:Nat):TV→Bool
 | .ptr l _=>Nat.blt l n
 | .mapr l=>Nat.blt l n
 | .own l=>Nat.blt l n
 | .psl l _ _=>Nat.blt l n
 | .ap l _ _ _=>Nat.blt l n
 | .eptr cs=>dM n cs
 | .agg cs=>dM n cs
 | .tup cs=>dM n cs
 | .func _ cs=>dM n cs
 | .unk=>true| .nilp=>true| .nilF=>true| .nils=>true| .lf _ _=>true| .nat _=>true
def dM(n:Nat):List TV→Bool
 |[]=>true
 |v::vs=>F8 n v&&dM n vs
end
def tY(n:Nat):List TObj→Bool
 |[]=>true
 |o::os=>(match o with| .box cs=>dM n cs| .res=>false|_=>true)&&tY n os
def bQ(n:Nat):List Nat→List Nat→List Ed→Bool
 |_,_,[]=>true
 |ss,os,.r k _::es=>!(mem ss k)&&bQ n (k::ss) os es
 |ss,os,.o l _::es=>Nat.blt l n&&(!(mem os l)&&bQ n ss (l::os) es)
 |ss,os,.w _::es=>bQ n ss os es
def G5(l:Nat):List Ed→Bool
 |[]=>false
 | .o l' h::es=>(Nat.beq l l'&&(match h with| .dead=>true|_=>false)) ||G5 l es
 |_::es=>G5 l es
def Rf(n len:Nat)(L:Nat→Option Nat)(eds:List Ed):Nat→Nat→List Nat→Bool
 |_,0,_=>true
 |j,c+1,seen=>match L j with
  |none=>Rf n len L eds (j+1) c seen
  |some l=>Nat.blt l len&&(!(mem seen l)&&((Nat.ble n l ||G5 l eds)&&Rf n len L eds (j+1) c (l::seen)))
def LJ(n N:Nat)(m:List (Nat×Nat))(j:Nat):Option Nat:=bif Nat.blt j n then some j else bif Nat.blt j N then asc m j else none
@[reducible] def RT(pe:Option (List Ed))(R:Type):Type:=match pe with
 |none=>R
 |some eds=>PZ R (eG (aR eds))
def RT.el{R δ:Type}:(pe:Option (List Ed))→(R→Option δ)→((eds:List Ed)→Int→eG (aR eds)→Option δ)→RT pe R→Option δ
 |none,f,_=>f
 |some eds,f,g=>PZ.el f (g eds)
def RT.ok{R:Type}:(pe:Option (List Ed))→Option R→Option (RT pe R)
 |none,o=>o
 |some _,o=>o.map PZ.ok
structure Ent where
 f:Nat
 na:Nat
 ps:List Ed
 nr:Nat
 rs:List Ed
 R:Type
 pe:Option (List Ed)
 g:Option (eG (aR ps)→Bool)
 F:eG (aR ps)→Option (RT pe R)
 out:R→eG (aR rs)
def bA(n:Nat):List TV:=List.replicate n .unk
def aT(n:Nat):Nat:=n
def res1:List TV→TV
 |[v]=>v
 |vs=>.tup vs
def gL(l:List Nat)(n:Nat):Nat:=nth 0 l n
def rng(k:Nat):Nat→List Nat
 |0=>[]
 |n+1=>k::rng (k+1) n
def vL(f:Nat→Option Nat)(i:Nat):Nat→List Nat
 |0=>[]
 |n+1=>match f i with
  |some l=>l::vL f (i+1) n
  |none=>vL f (i+1) n
def nodupB:List Nat→Bool
 |[]=>true
 |x::xs=>bif mem xs x then false else nodupB xs
section
variable {γ:Type}
def wrB(l:Nat)(cs:List TV):List (Nat×Sk)→(List TWr→Option γ)→Option γ
 |[],K=>K []
 |p::ps,K=>splitK 99 cs p.1 fun _ b=>splitK 99 b (mh p.2) fun c _=>wrB l cs ps fun ws=>K (.st l p.1 c::ws)
def uD(ρ:List Nat)(h:List TObj):Nat→Nat→List Ed→(List TWr→Option γ)→Option γ
 |_,_,[],K=>K []
 |k,j,.o l hd::es,K=>match hd with
  | .bx is=>match nth .dead h l with
   | .box cs=>wrB (gL ρ l) cs is fun ws=>uD ρ h k j es fun ws'=>K (ws++ws')
   |_=>none
  | .dead=>uD ρ h k j es fun ws=>K (.kill (gL ρ l)::ws)
  |_=>uD ρ h k j es fun ws=>K (.ob (gL ρ l) (nth .dead h l)::ws)
 |k,j,.w _::es,K=>uD ρ h (k+1) (j+1) es fun ws=>K (.nw k (nth .dead h j)::ws)
 |k,j,.r _ _::es,K=>uD ρ h k j es K
end
def Qd(H:List TObj)(k:Nat):Nat→Bool
 |0=>true
 |n+1=>fA (nth .dead H k)&&Qd H (k+1) n
mutual
def Dt(n:Nat)(ds:List Nat):Sk→Bool
 | .ptr l _=>Nat.blt l n&&!(mem ds l)
 | .mapr l=>Nat.blt l n&&!(mem ds l)
 | .own l=>Nat.blt l n&&!(mem ds l)
 | .psl l _=>Nat.blt l n&&!(mem ds l)
 | .eptr cs=>nV n ds cs
 | .agg cs=>nV n ds cs
 | .tup cs=>nV n ds cs
 | .func _ cs=>nV n ds cs
 | .unk=>true| .nilp=>true| .nilF=>true| .nils=>true| .k _=>true| .lf _=>true
def nV(n:Nat)(ds:List Nat):List Sk→Bool
 |[]=>true
 |s::ss=>Dt n ds s&&nV n ds ss
end
def MJ(n:Nat)(ds:List Nat):HO→Bool
 | .box cs=>nV n ds cs
 | .bx is=>is.all fun p=>Dt n ds p.2
 |_=>true
def killed:List Ed→List Nat
 |[]=>[]
 | .o l hd::es=>(match hd with| .dead=>[l]|_=>[])++killed es
 |_::es=>killed es
def Zk:HO→Bool
 | .box _=>true
 | .mp _=>true
 |_=>false
def aej:HO→Bool
 | .box _=>true
 |_=>false
def kinds:List Ed→List HO
 |[]=>[]
 | .w h::es=>h::kinds es
 |_::es=>kinds es
def VQ(is:List (Nat×Sk)):Nat→List Sk→List Sk
 |_,[]=>[]
 |q,s::ss=>(bif Nat.beq (mh s) 1&&mem (is.flatMap fun p=>rng (p.1+1) (mh p.2)) (q+1)then .unk else s)::VQ is (q+mh s) ss
def qW(j:Nat):List Ed→Option HO
 |[]=>none
 | .o l h::es=>bif Nat.beq l j then some h else qW j es
 | .r _ _::es=>qW j es
 | .w _::es=>qW j es
def Np(n:Nat)(rs:List Ed)(j:Nat):HO→Bool
 | .box cs=>nV n [] cs&&(match qW j rs with
  |none=>nV n (killed rs) cs
  |some (.bx is)=>nV n (killed rs) (VQ is 0 cs)
  |some _=>true)
 | .dead=>false
 | .bx _=>false
 |_=>true
def yS(np:Nat)(rs:List Ed):Nat→List Ed→Bool
 |_,[]=>true
 |j,.r _ s::es=>Dt np [] s&&yS np rs j es
 |j,.w h::es=>Np np rs j h&&yS np rs (j+1) es
 |_,.o _ _::_=>false
def oI(n:Nat)(ds:List Nat)(ks:List HO):List Ed→Bool
 |[]=>true
 | .r _ s::es=>Dt n ds s&&oI n ds ks es
 | .w h::es=>(match h with| .dead=>false| .bx _=>false|h=>MJ n ds h)&&oI n ds ks es
 | .o l h::es=>(match h with| .dead=>true| .own _=>false| .arr _=>false| .bx is=>MJ n ds (.bx is)&&aej (nth .dead ks l)|h=>MJ n ds h&&Zk (nth .dead ks l))&&oI n ds ks es
def fq:List Ed→List Nat
 |[]=>[]
 | .r n _::es=>n::fq es
 |_::es=>fq es
def Xf(l:List Nat):Nat→Bool
 |0=>true
 |n+1=>mem l n&&Xf l n
def sP(e:Ent):Bool:=
 ((Xf (fq e.ps) e.na&&(fq e.ps).all fun k=>Nat.blt k e.na)&&(bQ 0 [] [] e.ps&&(bQ (aA e.ps) [] [] e.rs&&(yS (aA e.ps) e.rs 0 e.ps&&oI (aA e.ps+aA e.rs) (killed e.rs) (kinds e.ps) e.rs))))&&(match e.pe with
  |none=>true
  |some eds=>(fq eds).isEmpty&&(bQ (aA e.ps) [] [] eds&&(yS (aA e.ps) eds 0 e.ps&&oI (aA e.ps+aA eds) (killed eds) (kinds e.ps) eds)))
section
variable {γ:Type}
def P5(H:List TObj)(k:Nat)(vs:List TV)(e:Ent)(K:Nat→List Nat→List TWr→TV→Option γ)(X:Nat→List Nat→List TWr→Int→Option γ):Option γ:=
 let np:=aA e.ps
 let nn:=aA e.rs
 let L:=LJ 0 np (xX vs H 0 e.ps [])
 let ρ:=vL L 0 np
 bif Nat.beq (List.length vs) e.na&&(Nat.beq ρ.length np&&(nodupB ρ&&Qd H k nn))then
  oW 1 0 vs H L 0 e.ps fun us=>ou (aR e.ps) us fun x=>(e.F x).bind fun r=>RT.el e.pe (fun y=>
   zS (gL (ρ++rng k nn)) e.ps us (bA e.na) [] fun _ h=>zS (gL (ρ++rng k nn)) e.rs (bR _ (e.out y)) (bA e.nr) h fun r h'=>uD ρ h' k np e.rs fun ws=>K nn (ρ++rng k nn) ws (res1 r)) (fun eds v z=>bif Qd H k (aA eds)then
    zS (gL (ρ++rng k (aA eds))) e.ps us (bA e.na) [] fun _ h=>zS (gL (ρ++rng k (aA eds))) eds (bR _ z) (bA 0) h fun _ h'=>uD ρ h' k np eds fun ws=>X (aA eds) (ρ++rng k (aA eds)) ws v else none) r
 else none
def agU(H:List TObj)(vs:List TV)(e:Ent):Bool:=Nat.beq (List.length vs) e.na&&(oW 1 0 vs H (LJ 0 (aA e.ps) (xX vs H 0 e.ps [])) 0 e.ps (fun _=>some ())).isSome
def gdE(H:List TObj)(vs:List TV)(e:Ent)(A B:Option γ):Option γ:=match e.g with
 |none=>A
 |some g=>oW 1 0 vs H (LJ 0 (aA e.ps) (xX vs H 0 e.ps [])) 0 e.ps fun us=>ou (aR e.ps) us fun x=>cond (g x) A B
def ad9(fid:Nat):List Ent→Bool
 |[]=>false
 |e::es=>Nat.beq e.f fid ||ad9 fid es
def WO(H:List TObj)(k fid:Nat)(vs:List TV)(E:List Ent)(K:Nat→List Nat→List TWr→TV→Option γ)(X:Nat→List Nat→List TWr→Int→Option γ):Option γ:=
 List.rec (motive:=fun _=>Option γ) none (fun e r ih=>bif Nat.beq e.f fid&&(bif ad9 fid r then agU H vs e else true)then gdE H vs e (P5 H k vs e K X) ih else ih) E
end
end
end
section
open Go
noncomputable section
structure DS where
 t:List TV
 h:List TObj
 d:List Nat
 o:List (Nat×Nat)
 up:List Nat
 rl:List (Nat×Nat×Nat)
 cp:List (Nat×Nat)
 oo:List (Nat×Nat)
inductive Hn where
 |jn (eds:List Ed) (lr:Bool)
 |lp (hd:List Ed) (e:Nat) (ex:List Ed)
 |fz (ls:List Nat)
 |ct (l b off:Nat)
 |ca (l b off:Nat)
 |fa (ls:List Nat)
structure Cfg where
 τ:Nat→TI
 θ:Nat→Option ET
 n:Nat
 R:Type
 hs:List (Nat×Hn)
 m:Nat
 te:Nat
 pn:Int→DS→Option R
mutual
def lN(l:Nat):TV→Bool
 | .ptr l' _=>!(Nat.beq l' l)
 | .mapr l'=>!(Nat.beq l' l)
 | .own l'=>!(Nat.beq l' l)
 | .psl l' _ _=>!(Nat.beq l' l)
 | .ap l' _ _ _=>!(Nat.beq l' l)
 | .eptr cs=>jJ l cs
 | .agg cs=>jJ l cs
 | .tup cs=>jJ l cs
 | .func _ cs=>jJ l cs
 | .unk=>true| .nilp=>true| .nilF=>true| .nils=>true| .lf _ _=>true| .nat _=>true
def jJ(l:Nat):List TV→Bool
 |[]=>true
 |v::vs=>lN l v&&jJ l vs
end
def Yj(H:List TObj)(cs:List TV):Option (Decl×List Decl):=Ap H false 60 (.t .dec) cs fun u r=>match r with
 |[.lf (.f .dec) xs]=>fI (.t .dec) u fun x=>some (x,xs)
 |[.nilp]=>fI (.t .dec) u fun x=>some (x,[])
 |_=>none
def Gf(H:List TObj)(l:Nat):Nat→TV
 |0=>match nth .dead H l with
  | .box cs=>bif jJ l cs then(match Yj H cs with
   |some p=>.lf (.f .dec) (p.1::p.2)
   |none=>.eptr cs)else .unk
  |_=>.unk
 |_+1=>.unk
def Wv(H:List TObj)(l:Nat):TV:=match nth .dead H l with
 | .own e xs=>.lf (.l e) xs
 |_=>.unk
def VN(H:List TObj)(l z:Nat):Option Nat→TV
 |none=>match nth .dead H l with
  | .arr e xs=>bif Dv e z then .lf (.l e) xs else .unk
  |_=>.unk
 |some _=>.unk
mutual
def dx(H:List TObj)(l:Nat):TV→TV
 | .ptr l' o=>bif Nat.beq l' l then Gf H l o else .ptr l' o
 | .mapr l'=>bif Nat.beq l' l then .unk else .mapr l'
 | .own l'=>bif Nat.beq l' l then Wv H l else .own l'
 | .psl l' z c=>bif Nat.beq l' l then VN H l z c else .psl l' z c
 | .ap l' i z o=>bif Nat.beq l' l then .unk else .ap l' i z o
 | .eptr cs=>.eptr (iL H l cs)
 | .agg cs=>.agg (iL H l cs)
 | .tup cs=>.tup (iL H l cs)
 | .func f cs=>.func f (iL H l cs)
 | .unk=>.unk| .nilp=>.nilp| .nilF=>.nilF| .nils=>.nils| .lf t x=>.lf t x| .nat n=>.nat n
def iL(H:List TObj)(l:Nat):List TV→List TV
 |[]=>[]
 |v::vs=>dx H l v::iL H l vs
end
def Gc(H:List TObj)(l:Nat):TObj→TObj
 | .box cs=>.box (iL H l cs)
 | .res=>.dead
 |o=>o
def l8(H:List TObj)(l:Nat):Nat→List TObj→List TObj
 |_,[]=>[]
 |i,o::os=>(bif Nat.beq i l then .dead else Gc H l o)::l8 H l (i+1) os
def EM(l:Nat):Nat→List TV→List Nat
 |_,[]=>[]
 |k,v::vs=>bif lN l v then EM l (k+1) vs else k::EM l (k+1) vs
def yX(l:Nat):Nat→List TObj→List (Nat×Nat)
 |_,[]=>[]
 |i,o::os=>match o with
  | .box cs=>bif jJ l cs then yX l (i+1) os else(i,0)::yX l (i+1) os
  |_=>yX l (i+1) os
def xq(l:Nat)(s:DS):DS:=⟨iL s.h l s.t,l8 s.h l 0 s.h,EM l 0 s.t++s.d,(l,0)::(yX l 0 s.h++s.o),s.up,s.rl,s.cp,s.oo⟩
def hint(hs:List (Nat×Hn))(p:Nat):Option Hn:=match hs with
 |[]=>none
 |x::r=>bif Nat.beq x.1 p then some x.2 else hint r p
section
variable {γ:Type}
def plainO:TObj→Bool
 | .box _=>true
 | .mp _ _=>true
 | .dead=>true
 |_=>false
mutual
def Py(l:Nat):TV→Bool
 | .own l'=>Nat.beq l l'
 | .psl l' _ _=>Nat.beq l l'
 | .eptr cs=>gH l cs
 | .agg cs=>gH l cs
 | .tup cs=>gH l cs
 | .func _ cs=>gH l cs
 | .unk=>false| .nilp=>false| .nilF=>false| .nils=>false| .lf _ _=>false| .nat _=>false| .ptr _ _=>false| .mapr _=>false| .ap _ _ _ _=>false
def gH(l:Nat):List TV→Bool
 |[]=>false
 |v::vs=>Py l v ||gH l vs
end
def Co(l:Nat):List TObj→Bool
 |[]=>false
 |o::os=>(match o with| .box cs=>gH l cs|_=>false) ||Co l os
def fV(v:TV)(K:TV→Option γ):Option γ:=match v with
 | .lf t x=>K (.lf t x)
 |v=>K v
def ab8{α:Type}(l:List α):Nat→α→(List α→Option γ)→Option γ:=
 List.rec (motive:=fun _=>Nat→α→(List α→Option γ)→Option γ) (fun _ _ _=>none) (fun x xs ih n v K=>Nat.rec (motive:=fun _=>Option γ) (K (v::xs)) (fun m _=>ih m v fun ys=>K (x::ys)) n) l
def pI:List TWr→DS→(DS→Option γ)→Option γ
 |[],s,K=>K s
 | .sl n v::ws,s,K=>fV v fun v=>ab8 s.t n v fun t=>pI ws ⟨t,s.h,n::s.d,s.o,s.up.filter fun i=>!(Nat.beq i n),s.rl.filter fun p=>!(Nat.beq p.1 n ||(Nat.beq p.2.1 n ||Nat.beq p.2.2 n)),s.cp.filter fun p=>!(Nat.beq p.1 n ||Nat.beq p.2 n),s.oo⟩ K
 | .ob l o::ws,s,K=>bif plainO o&&plainO (nth .dead s.h l)then nU s.h l o fun h=>pI ws {s with h:=h,o:=(l,0)::s.o} K else none
 | .st l off vs::ws,s,K=>match nth .dead s.h l with
  | .box cs=>lC cs off vs fun cs=>nU s.h l (.box cs) fun h=>pI ws {s with h:=h,o:=(rng (off+1) (widths vs)).map (fun q=>(l,q))++s.o} K
  |_=>none
 | .kill l::ws,s,K=>match nth .dead s.h l with
  | .own e xs=>nU s.h l (.gone e xs) fun h=>pI ws {s with h:=h,o:=(l,0)::s.o} K
  | .arr _ xs=>nU s.h l (.gon xs.length) fun h=>pI ws {s with h:=h,o:=(l,0)::s.o} K
  | .box _=>nU s.h l .dead fun h=>pI ws {s with h:=h,o:=(l,0)::s.o} K
  | .mp _ _=>nU s.h l .dead fun h=>pI ws {s with h:=h,o:=(l,0)::s.o} K
  |_=>none
 | .nw l o::ws,s,K=>bif fA (nth .dead s.h l)&&(plainO o ||!(gH l s.t ||Co l s.h))then nU s.h l o fun h=>pI ws {s with h:=h,o:=(l,0)::s.o} K else none
 | .up l i e y::ws,s,K=>match nth .dead s.h l with
  | .arr e' xs=>match ET.eq? e e' with
   |some ⟨q⟩=>nU s.h l (.arr e' (upd xs i (q▸y))) fun h=>pI ws {s with h:=h,o:=(l,0)::s.o} K
   |none=>none
  |_=>none
def erase:List TWr→List Wr
 |[]=>[]
 | .sl n _::ws=>.slot n .unk::erase ws
 | .ob l _::ws=>.obj l .dead::erase ws
 | .st l _ _::ws=>.obj l .dead::erase ws
 | .kill l::ws=>.obj l .dead::erase ws
 | .nw l _::ws=>.obj l .dead::erase ws
 | .up l _ _ _::ws=>.obj l .dead::erase ws
def nS(o:Oper)(s:DS):DS:=match o.op,o.dst with
 | .binOp .lss _ (.tmp i) (.tmp j) _,some d=>bif Nat.beq d i ||Nat.beq d j then s else{s with rl:=(d,i,j)::s.rl}
 | .move (.tmp x),some d=>bif Nat.beq d x then s else{s with cp:=(d,x)::s.cp,up:=bif mem s.up x then d::s.up else s.up}
 |_,_=>s
def opK(τ:Nat→TI)(θ:Nat→Option ET)(E:List Ent)(px:List Eff→Nat→Eff→DS→Int→DS→Option γ)(ops:List Oper)(o:Oper)(go:Nat→List Eff→DS→Option γ)(k:Nat)(es:List Eff)(s:DS):Option γ:=
 match fT o.op with
 |some (f,args)=>match bT s.t f with
  | .func fid caps=>WO s.h k fid (args.toList.map (bT s.t)++caps) E (fun nn ρ ws v=>pI (ws++bM o.dst v) s fun s=>go (k+nn) (⟨aJ ops.toArray o,ρ,ρ.map (fun l=>.obj l .dead)++erase (bM o.dst v)⟩::es) s) (fun nn ρ ws c=>pI ws s fun s1=>px es (k+nn) ⟨aJ ops.toArray o,ρ,ρ.map (fun l=>.obj l .dead)⟩ s c s1)
  |_=>none
 |none=>bg τ θ s.up k o.dst s.t s.h o.op fun rd ws=>pI ws s fun s1=>go (k+dJ o.op) (⟨aJ ops.toArray o,rd,erase ws⟩::es) (nS o s1)
def gdK(ops:List Oper)(o:Oper)(s:DS)(A B:DS→Option γ):Option γ:=
 match o.guard with
 |none=>A s
 |some (j,want)=>match(ops[j]?).bind (·.dst)with
  |none=>none
  |some d=>match nth .unk s.t d with
   | .lf .b b=>bif want then cond b (nU s.t d (.lf .b true) fun t=>A {s with t:=t}) (nU s.t d (.lf .b false) fun t=>B {s with t:=t})else cond b (nU s.t d (.lf .b true) fun t=>B {s with t:=t}) (nU s.t d (.lf .b false) fun t=>A {s with t:=t})
   | .tup []=>B s
   |_=>none
def zO(τ:Nat→TI)(θ:Nat→Option ET)(E:List Ent)(px:List Eff→Nat→Eff→DS→Int→DS→Option γ)(ops:List Oper)(l:List Oper):Nat→List Eff→DS→(List Eff→DS→Option γ)→Option γ:=
 List.rec (motive:=fun _=>Nat→List Eff→DS→(List Eff→DS→Option γ)→Option γ) (fun _ es s K=>K es.reverse s)
  (fun o _ ih k es s K=>gdK ops o s (opK τ θ E px ops o (fun k es s=>ih k es s K) k es) fun s=>pI (bM o.dst (.tup [])) s fun s=>ih k (⟨aJ ops.toArray o,[],erase (bM o.dst (.tup []))⟩::es) s K) l
def Ch(τ:Nat→TI)(θ:Nat→Option ET)(ops:List Oper)(bl:Nat→Bool)(l:List Oper):Nat→Nat→List Eff→DS→(List Eff→Option γ)→Option γ:=
 List.rec (motive:=fun _=>Nat→Nat→List Eff→DS→(List Eff→Option γ)→Option γ) (fun _ _ es _ K=>K es.reverse)
  (fun o _ ih q k es s K=>bif bl q then ih (q+1) k (dX::es) s K else match o.guard,fT o.op with
   |none,none=>bg τ θ s.up k o.dst s.t s.h o.op fun rd ws=>pI ws s fun s1=>ih (q+1) (k+dJ o.op) (⟨aJ ops.toArray o,rd,erase ws⟩::es) (nS o s1) K
   |_,_=>none) l
def abb(ops:List Oper)(n q:Nat)(es:List Eff)(h:List TObj):Bool:=
 eX ops es&&((h.drop n).all fA&&(List.range es.length).all fun i=>Nat.beq i q ||((cZ (es.getD i dX).ws).all fun l=>Nat.ble n l ||(Nat.blt i q&&((jq ops []).getD q []).contains i)))
def y8(n:Nat)(s:DS):DS:=⟨s.t,s.h.take n++List.replicate (s.h.length - n) .dead,s.d,s.o,[],[],[],s.oo⟩
def pxD(τ:Nat→TI)(θ:Nat→Option ET)(draw:Bool)(ops:List Oper)(n:Nat)(K:Int→DS→Option γ)(es:List Eff)(k:Nat)(ep:Eff)(s:DS)(v:Int)(s':DS):Option γ:=
 bif draw then Ch τ θ ops (fun q=>((jq ops []).getD q []).contains es.length) (ops.drop (es.length+1)) (es.length+1) k [] s fun late=>bif abb ops n es.length (es.reverse++ep::late) s'.h then K v (y8 n s')else none
 else K v s'
def mG:List Oper→Nat
 |[]=>0
 |o::l=>(match fT o.op with
  |some _=>5
  |none=>dJ o.op)+mG l
def l9:Nat→List TObj
 |0=>[]
 |n+1=>.res::l9 n
def KQ(l:List TObj):Nat→(List TObj→Option γ)→Option γ:=
 List.rec (motive:=fun _=>Nat→(List TObj→Option γ)→Option γ) (fun _ K=>K []) (fun o _ ih n K=>Nat.rec (motive:=fun _=>Option γ) (ih 0 fun r=>match r with
  |[]=>bif fA o then K []else K [o]
  |x::xs=>K (o::x::xs)) (fun n _=>ih n fun r=>K (o::r)) n) l
def tJ{α:Type}:List α→Nat→(Nat→Option γ)→Option γ
 |[],n,K=>K n
 |_::l,n,K=>tJ l (n+1) K
def aa6:List Oper→List Nat
 |[]=>[]
 |o::l=>match o.dst with
  |some d=>d::aa6 l
  |none=>aa6 l
def jl:Code→List Nat
 | .region _ ops _=>aa6 ops.toList
 | .seq a b=>jl a++jl b
 | .cond _ a b=>jl a++jl b
 | .block _ a=>jl a
 | .loop a=>jl a
 |_=>[]
def Xc:List Nat→List Nat→Bool
 |[],_=>true
 |x::xs,l=>mem l x&&Xc xs l
def Fe(H:List TObj):List Ed→List (Nat×Nat)
 |[]=>[]
 | .o l h::es=>(match h with
  | .bx is=>match nth .dead H l with
   | .box _=>is.flatMap fun p=>(rng (p.1+1) (mh p.2)).map fun q=>(l,q)
   |_=>[(l,0)]
  |_=>[(l,0)])++Fe H es
 |_::es=>Fe H es
def U3:List Ed→Nat→Nat→Bool
 |[],_,_=>false
 | .o l h::es,l',q=>(Nat.beq l l'&&(match h with| .bx is=>mem (is.flatMap fun p=>rng (p.1+1) (mh p.2)) q|_=>true)) ||U3 es l' q
 |_::es,l',q=>U3 es l' q
def Xg(l:List Nat):List TV→(List TV→Option γ)→Option γ:=List.rec (motive:=fun _=>List TV→(List TV→Option γ)→Option γ) (fun t K=>K t) (fun n _ ih t K=>nU t n .unk fun t=>ih t K) l
def uQ(a:List Nat)(eds:List Ed)(s:DS)(us:List U)(K:DS→Option γ):Option γ:=
 let b:=a++fq eds
 Xg b s.t fun t=>zS aT eds us t s.h fun t h=>K ⟨t,h,b++s.d,Fe h eds++s.o,s.up.filter fun i=>!(mem b i),[],[],s.oo⟩
def RH(n:Nat)(o:List (Nat×Nat))(es:List Ed):Bool:=o.all fun x=>Nat.ble n x.1 ||U3 es x.1 x.2
def ru(eds:List Ed)(s:DS)(K:Option γ):Option γ:=tJ s.h 0 fun n=>bif dM n s.t&&(tY n s.h&&bQ n [] [] eds)then K else none
def QC(n:Nat)(eds:List Ed)(t:List TV)(h:List TObj)(K:List U→Option γ):Option γ:=
 tJ h 0 fun n'=>let L:=LJ n (n+aA eds) (xX t h n eds []);bif Rf n n' L eds n (aA eds) []then oW 2 2 t h L n eds K else none
def um(a:List Nat)(eds:List Ed)(s s':DS)(K:List U→Option γ):Option γ:=
 tJ s.h 0 fun n=>bif Xc s'.d (a++fq eds)&&RH n s'.o eds then QC n eds s'.t s'.h K else none
def fresh(s:DS):DS:={s with d:=[],o:=[],oo:=s.o++s.oo}
def QL(m:Nat):List Nat→DS→(DS→Option γ)→Option γ
 |[],s,K=>K s
 |l::ls,s,K=>tJ s.h 0 fun n=>bif Nat.ble m l&&(Nat.blt l n&&(dM n s.t&&tY n s.h))then QL m ls (xq l s) K else none
def Ec(l:Nat):List TV→List TV
 |[]=>[]
 |v::vs=>(bif lN l v then v else .unk)::Ec l vs
def ctK(l b off:Nat)(s:DS)(K:DS→Option γ):Option γ:=match nth .dead s.h l,nth .dead s.h b with
 | .arr e xs,.box cs=>splitK 99 cs off fun a r=>match r with
  | .psl l' z (some c)::r=>tJ s.h 0 fun n=>bif (Nat.beq l' l&&(jJ l a&&jJ l r))&&((yX l 0 s.h).all (fun p=>Nat.beq p.1 b)&&(dM n s.t&&tY n s.h))then
    bif Nat.ble c xs.length then nU s.h l (.arr e (xs.take c)) fun h=>nU h b (.box (a++ .psl l z none::r)) fun h=>K ⟨Ec l s.t,h,EM l 0 s.t++s.d,(l,0)::(b,off+1)::s.o,s.up,s.rl,s.cp,s.oo⟩else none
   else none
  |_=>none
 |_,_=>none
def XI(m:Nat)(h:Option Hn)(s:DS)(K:DS→Option γ):Option γ:=match h with
 |some (.fz ls)=>QL m ls s K
 |some (.ct l b off)=>ctK l b off s K
 |_=>K s
def YD(m:Nat)(h:Option Hn)(s:DS)(K:DS→Option γ):Option γ:=match h with
 |some (.ca l b off)=>ctK l b off s K
 |some (.fa ls)=>QL m ls s K
 |_=>K s
def sel{α:Type}(f:α→Bool)(g:α→Nat):List α→List Nat
 |[]=>[]
 |x::l=>bif f x then g x::sel f g l else sel f g l
def wY(x:Operand)(s:DS):DS:=match x with
 | .tmp d=>let u:=sel (fun p=>Nat.beq p.1 d) (fun p=>p.2.1) s.rl
  let u:=sel (fun p=>mem u p.1) (fun p=>p.2) s.cp++u
  let u:=sel (fun p=>mem u p.2) (fun p=>p.1) s.cp++u
  {s with up:=u++s.up}
 |_=>s
end
abbrev ExT(R:Type):Type 1:=(γ:Type)→Nat→DS→(R→Option γ)→(Exit→DS→Option γ)→Option γ
def Na(te:Nat)(t:List TV):List Oper→Option Int
 |[o1,o2]=>match o1.op,o1.dst,o1.guard with
  | .makeInterface t' (.const (.int .i64 e)),some d,none=>match o2.op,o2.dst,o2.guard with
   | .panic (.tmp d'),none,none=>bif Nat.beq t' te&&(Nat.beq d d'&&Nat.blt d t.length)then some e else none
   |_,_,_=>none
  |_,_,_=>none
 |_=>none
def exe(c:Cfg)(E:List Ent)(ret:DS→Option c.R)(code:Code):ExT c.R:=
 Code.rec (motive:=fun _=>ExT c.R)
  (skip:=fun _ _ s _ k=>k .normal s)
  (region:=fun _ ops draw _ p s inj k=>XI c.m (hint c.hs p) s fun s=>match Na c.te s.t ops.toList with
   |some e=>bif draw then none else(c.pn e s).bind inj
   |none=>tJ s.h 0 fun n=>zO c.τ c.θ E (pxD c.τ c.θ draw ops.toList n fun v s=>(c.pn v s).bind inj) ops.toList ops.toList n [] {s with h:=s.h++l9 (mG ops.toList)} fun es s=>bif !draw ||eX ops.toList es then KQ s.h n fun h=>YD c.m (hint c.hs p) {s with h:=h} fun s=>k .normal s else none)
  (seq:=fun a _ iha ihb γ p s inj k=>match hint c.hs p with
   |some (.jn eds true)=>ru eds s <| Option.bind (iha (LR (eG (aR eds)) c.R) (2*p) (fresh s) (fun r=>some (.rt r)) fun e s'=>match e with
     | .normal=>um (jl a) eds s s' fun us=>ou (aR eds) us fun x=>some (.nx x)
     |_=>none) (LR.el (fun x=>uQ (jl a) eds s (bR (aR eds) x) fun s=>ihb γ (2*p+1) s inj k) (fun r=>inj r))
   |some (.jn eds false)=>ru eds s <| Option.bind (iha (eG (aR eds)) (2*p) (fresh s) (fun _=>none) fun e s'=>match e with
     | .normal=>um (jl a) eds s s' fun us=>ou (aR eds) us fun x=>some x
     |_=>none) fun x=>uQ (jl a) eds s (bR (aR eds) x) fun s=>ihb γ (2*p+1) s inj k
   |_=>iha γ (2*p) s inj fun e s=>match e with
    | .normal=>ihb γ (2*p+1) s inj k
    |e=>k e s)
  (cond:=fun x _ _ iha ihb γ p s inj k=>match bT s.t x with
   | .lf .b b=>cond b (iha γ (2*p) (wY x s) inj k) (ihb γ (2*p+1) s inj k)
   |_=>none)
  (block:=fun id _ ih γ p s inj k=>ih γ (2*p) s inj fun e s=>match e with
   | .exit id'=>bif Nat.beq id' id then k .normal s else k (.exit id') s
   |e=>k e s)
  (loop:=fun a ih γ p s inj k=>match hint c.hs p with
   |some (.lp hd e ex)=>ru hd s <| ru ex s <| um (jl a) hd s (fresh s) fun us=>ou (aR hd) us fun x0=>
     Option.bind (dz (δ:=LR (eG (aR ex)) c.R) (fun rec x=>uQ (jl a) hd (fresh s) (bR (aR hd) x) fun s1=>ih (LR (eG (aR ex)) c.R) (2*p) s1 (fun r=>some (.rt r)) fun e' s'=>match e' with
      | .normal=>um (jl a) hd s s' fun us=>ou (aR hd) us rec
      | .exit id=>bif Nat.beq id e then um (jl a) ex s s' fun us=>ou (aR ex) us fun y=>some (.nx y)else none
      |_=>none) c.n x0) (LR.el (fun y=>uQ (jl a) ex s (bR (aR ex) y) fun s=>k (.exit e) s) (fun r=>inj r))
   |_=>none)
  (rangeFunc:=fun _ _ _ _ _ _ _ _ _ _ _=>none)
  (exit:=fun id _ _ s _ k=>k (.exit id) s)
  (scope:=fun _ _ _ _ _ _ _=>none)
  (label:=fun _ _ _ _ _ _=>none)
  (goto:=fun _ _ _ _ _ _=>none)
  (ret:=fun _ p s inj _=>XI c.m (hint c.hs p) s fun s=>(ret s).bind inj)
  (refuse:=fun _ _ _ _ _ _=>none)
  code
def Kj{γ:Type}(τ:Nat→TI)(s:DS):List ResultVar→(List TV→Option γ)→Option γ
 |[],K=>K []
 | .tmp t::r,K=>Kj τ s r fun vs=>K (nth .unk s.t t::vs)
 | .cell a t::r,K=>match nth .unk s.t a with
  | .ptr l off=>match nth .dead s.h l with
   | .box cs=>Kn τ t off cs fun v=>Kj τ s r fun vs=>K (v::vs)
   |_=>none
  |_=>none
def lW{R:Type}(τ:Nat→TI)(m:Nat)(rvs:List ResultVar)(rs:List Ed)(inn:eG (aR rs)→Option R)(s:DS):Option R:=
 Kj τ s rvs fun vs=>bif RH m (s.o++s.oo) rs then QC m rs vs s.h fun us=>ou (aR rs) us inn else none
def CQ{R:Type}(m:Nat):(pe:Option (List Ed))→Int→DS→Option (RT pe R)
 |none,_,_=>none
 |some eds,v,s=>bif RH m (s.o++s.oo) eds then QC m eds [] s.h fun us=>ou (aR eds) us fun z=>some (.er v z)else none
def RB(τ:Nat→TI)(θ:Nat→Option ET)(n:Nat)(hs:List (Nat×Hn))(E:List Ent)(te:Nat)(fn:Func)(e:Ent)(inn:eG (aR e.rs)→Option e.R)(x:eG (aR e.ps)):Option (RT e.pe e.R):=
 match fn.body with
 |none=>none
 |some c=>zS aT e.ps (bR (aR e.ps) x) (List.replicate fn.ntmps (.tup [])) [] fun t h=>
  exe ⟨τ,θ,n,RT e.pe e.R,hs,aA e.ps,te,CQ (aA e.ps) e.pe⟩ E (fun s=>RT.ok e.pe (lW τ (aA e.ps) fn.results.toList e.rs inn s)) c _ 1 ⟨t,h,[],[],[],[],[],[]⟩ some fun x s=>match x with
   | .normal=>RT.ok e.pe (lW τ (aA e.ps) fn.results.toList e.rs inn s)
   |_=>none
end
end
section
open Go
def NC(a b:Str):Bool:=decide (a≤b)
def slices_Clone_int(_:Nat)(p0:List Int):Option (List Int):=app 8 ([]:List Int) p0
end
section
open Go
def RU(_:Nat):Option Bool:=some true
end
section
open Go
def eB(_:Nat)(p0:List Str):Option (List Str):=app 16 ([]:List Str) p0
def AY(s:Str):List Str→Option Nat
 |[]=>none
 |x::X=>bif x==s then some 0 else(AY s X).map (·+1)
def lastB(s:Str)(l:List Str):Int:=match AY s l.reverse with
 |some i=>(l.length:Int) - 1 - i
 |none=> -1
def lT(_:Nat)(l:List Str)(s:Str):Option Int:=bif decide (l.length≤100000)then some (lastB s l)else none
end
section
open Go
def iw(_:Nat)(p0:List Int):Option (List Int):=bif decide (p0.length≤140737488355328)then some p0 else none
def mI(_:Nat)(p0:List Tm):Option (List Tm):=app 104 ([]:List Tm) p0
def Hz(_:Nat)(p0:Int):Option (PZ Unit Unit):=some (.er p0 ())
end
end Abs
end Go.Proofs.YtfmdmcenjfkbhaaGreatDoor
