/-
  More of the program's data as plain structures, and as abstract values. Conditions: none; definitions and lemmas.
-/
import Derived.Test.YtbijdmihdagfaaaGreatDoorCAbs30ox623c14
set_option linter.all false
namespace Go.Proofs.YtbijdmihdagfaaaGreatDoor
namespace Abs
section
open Go
structure Carrier where
 name:Str
 elems:List Str
structure Decl where
 name:Str
 ty:Ty
structure Env where
 carriers:List Carrier
 names:List Decl
def encI(n:Int):List AV:=[.int .i64 n]
def encS(s:Str):List AV:=[.str s]
def BX(n:Int):List AV:=[.int .u8 n]
def fF(x:Carrier):List AV:=[.str x.name,.slice (x.elems.map encS) .shared]
def d9(x:Decl):List AV:=[.str x.name,.int .i64 x.ty.kind,.str x.ty.name,.slice (x.ty.kids.map iL) .shared]
theorem FX{α:Type}{f:α→List AV}(hf:∀g x,bS g (f x)=f x)(g:Nat→Nat)(l:List α):bR g (l.map f)=l.map f:=by
 rw[Jk,qBt];exact qBi fun x _=>hf g x
theorem ao9(g:Nat→Nat)(l:List Int):bR g (l.map encI)=l.map encI:=FX (fun _ _=>rfl) g l
theorem ajW(g:Nat→Nat)(l:List Str):bR g (l.map encS)=l.map encS:=FX (fun _ _=>rfl) g l
theorem agC(g:Nat→Nat)(l:List Ty):bR g (l.map iL)=l.map iL:=agq g l
theorem ank(g:Nat→Nat)(l:List Tm):bR g (l.map dR)=l.map dR:=YJ g l
theorem acM(g:Nat→Nat)(l:List Carrier):bR g (l.map fF)=l.map fF:=FX (fun g x=>by simp only[fF,bS,ren,nP,ajW]) g l
theorem akh(g:Nat→Nat)(l:List Decl):bR g (l.map d9)=l.map d9:=FX (fun g x=>by simp only[d9,bS,ren,nP,agC]) g l
theorem adG(g:Nat→Nat)(x:Carrier):bS g (fF x)=fF x:=by simp only[fF,bS,ren,nP,ajW]
theorem ajy(g:Nat→Nat)(x:Decl):bS g (d9 x)=d9 x:=by simp only[d9,bS,ren,nP,agC]
theorem aov(n:Int):bn 1 (encI n)=true:=rfl
def dI{α:Type}(m:List (Str×α))(k:Str):Option α:=(m.find? fun p=>p.1==k).map (·.2)
def jd{α:Type}(m:List (Str×α))(k:Str)(v:α):List (Str×α):=
 match m with
 |[]=>[(k,v)]
 |p::r=>if p.1==k then(k,v)::r else p::jd r k v
def qZ{α:Type}(m:List (Str×α))(k:Str)(v:α):Option (List (Str×α)):=if m.length<140737488355328 then some (jd m k v)else none
@[reducible] def Ux{α β:Type}(o:Option α)(Y:β)(X:α→β):β:=match o with|some v=>X v|none=>Y
theorem VG{α:Type}(f:α→AV):∀(m:List (Str×α)) (k:Str),mD (m.map fun p=>(p.1,f p.2)) k=(dI m k).map f
 |[],k=>rfl
 |p::m,k=>by
  have ih:=VG f m k;unfold mD dI at *;simp only[qAF,qCf];cases h:(p.1==k)
  ·exact ih
  ·rfl
theorem YW{α:Type}(f:α→AV):∀(m:List (Str×α)) (k:Str) (v:α),zT (m.map fun p=>(p.1,f p.2)) k (f v)=(jd m k v).map fun p=>(p.1,f p.2)
 |[],k,v=>rfl
 |p::m,k,v=>by
  simp only[qAF,zT,jd];split
  ·rfl
  ·rw[YW f m k v];rfl
theorem aa3{α:Type}(l:List α):l=l.take l.length:=by simp
theorem agM{α:Type}{l l' ys r:List α}{f:α→List AV}{b sz:Nat}{K:List (List AV)→Nat→Prop}(h:app b l' ys=some r)(hp:l'=l.take l'.length)(hf:∀x,bn sz (f x)=true)(hK:K (r.map f) r.length):
  (l'.length≤(l.map f).length∧(l'.length+(ys.map f).length)*b≤140737488355328∧l'.length+(ys.map f).length≤140737488355328∧((l.map f).all (bn sz)=true)∧((ys.map f).all (bn sz)=true))∧∃r m,r=(l.map f).take l'.length++ys.map f∧m=r.length∧K r m:=by
 obtain⟨h1,h2,rfl⟩:=FT h;have hle:l'.length≤l.length:=by
  have:=congrArg List.length hp;rw[qAx]at this;omega
 refine⟨⟨by simpa using hle,by simpa using h1,by simpa using h2,xM hf _,xM hf _⟩,(l'++ys).map f,(l'++ys).length,?_,by simp,hK⟩;rw[←List.map_take,←hp,qBa]
def unc{α:Type}:List α→Option (α×List α)
 |[]=>none
 |x::r=>some (x,r)
theorem als(g:Nat→Nat)(xs ys:List AV):bS g (xs++ys)=bS g xs++bS g ys:=by simp only[jG,qBa]
def upd{α:Type}(l:List α)(i:Int)(v:α):List α:=l.set i.toNat v
theorem CB{α:Type}{l:List α}{n:Int}{x:α}(h:idx l n=some x):0≤n∧n<(l.length:Int)∧l[n.toNat]? =some x:=by
 unfold idx at h;split at h
 ·rename_i h0;have:=(qAp.1 h).1;exact⟨h0,by omega,h⟩
 ·cases h
inductive Val where
 |mk (kind:Int) (n:Int) (name:Str) (kids:List Val)
def Val.kind:Val→Int| .mk k _ _ _=>k
def Val.n:Val→Int| .mk _ n _ _=>n
def Val.name:Val→Str| .mk _ _ s _=>s
def Val.kids:Val→List Val| .mk _ _ _ ks=>ks
mutual
def mX:Val→List AV
 | .mk k n s ks=>[.int .i64 k,.int .i64 n,.str s,.slice (AU ks) .shared]
def AU:List Val→List (List AV)
 |[]=>[]
 |t::ts=>mX t::AU ts
end
theorem J7:∀ts,AU ts=ts.map mX
 |[]=>rfl
 |t::ts=>by simp[AU,J7 ts]
theorem iW(t:Val):mX t=[.int .i64 t.kind,.int .i64 t.n,.str t.name,.slice (t.kids.map mX) .shared]:=by
 cases t;simp[mX,J7,Val.kind,Val.n,Val.name,Val.kids]
mutual
theorem ML(g:Nat→Nat):∀t,bS g (mX t)=mX t
 | .mk k n s ks=>by simp only[mX,bS,ren,nP,Kn g ks]
theorem Kn(g:Nat→Nat):∀ts,bR g (AU ts)=AU ts
 |[]=>rfl
 |t::ts=>by simp only[AU,bR,ML g t,Kn g ts]
end
theorem alX(g:Nat→Nat)(ts:List Val):bR g (ts.map mX)=ts.map mX:=by rw[←J7];exact Kn g ts
structure Bound where
 name:Str
 v:Val
inductive ET where
 |i|u|s|b|car|dec|ty|tm|env|val|bnd|vals|tms
@[reducible] def ET.D:ET→Type
 | .i=>Int| .u=>Int| .s=>Str| .b=>Bool| .car=>Carrier| .dec=>Decl| .ty=>Ty| .tm=>Tm| .env=>Env| .val=>Val| .bnd=>Bound| .vals=>List Val| .tms=>List Tm
def ET.no:ET→Nat
 | .i=>0| .u=>1| .s=>2| .b=>3| .car=>4| .dec=>5| .ty=>6| .tm=>7| .env=>8| .val=>9| .bnd=>10| .vals=>11| .tms=>12
theorem ET.inj:∀x y:ET,x.no=y.no→x=y:=by intro x y h;cases x<;>cases y<;>first|rfl|cases h
def ET.eq?(x y:ET):Option (PLift (x=y)):=if h:x.no=y.no then some ⟨ET.inj x y h⟩else none
theorem ET.eq_self(a:ET):ET.eq? a a=some ⟨rfl⟩:=by unfold ET.eq?;rw[dif_pos rfl]
inductive LT where
 |n (k:IntKind)|b|s|l (e:ET)|t (e:ET)|m (e:ET)|f (e:ET)
@[reducible] def LT.D:LT→Type
 | .n _=>Int| .b=>Bool| .s=>Str| .l e=>List e.D| .t e=>e.D| .m e=>List (Str×e.D)| .f e=>List e.D
def IntKind.no:IntKind→Nat
 | .i8=>0| .i16=>1| .i32=>2| .i64=>3| .u8=>4| .u16=>5| .u32=>6| .u64=>7
def LT.no:LT→Nat
 | .n k=>8*IntKind.no k| .b=>1| .s=>2| .l e=>8*e.no+3| .t e=>8*e.no+4| .m e=>8*e.no+5| .f e=>8*e.no+6
theorem LT.inj(x y:LT)(h:x.no=y.no):x=y:=by
 cases x<;>cases y<;>simp only[LT.no]at h<;>first
  |rfl
  |(exfalso;omega)
  |(rename_i x y;have:x.no=y.no:=(by omega);rw[ET.inj x y this])
  |(rename_i x y;cases x<;>cases y<;>simp only[IntKind.no]at h<;>first|rfl|omega)
  |omega
def LT.eq?(x y:LT):Option (PLift (x=y)):=if h:x.no=y.no then some ⟨LT.inj x y h⟩else none
def fU:List LT→Type
 |[]=>Unit
 |[t]=>t.D
 |t::u::ts=>t.D×fU (u::ts)
structure U where
 t:LT
 x:t.D
def dG:(ts:List LT)→fU ts→List U
 |[],_=>[]
 |[t],x=>[⟨t,x⟩]
 |t::u::ts,x=>⟨t,x.1⟩::dG (u::ts) x.2
def ig{γ:Type}(t:LT)(u:U)(K:t.D→Option γ):Option γ:=match LT.eq? u.t t with
 |some ⟨h⟩=>K (h▸u.x)
 |none=>none
def tq{γ:Type}:(ts:List LT)→List U→(fU ts→Option γ)→Option γ
 |[],us,K=>match us with|[]=>K ()|_=>none
 |[t],us,K=>match us with|[u]=>ig t u K|_=>none
 |t::t'::ts,us,K=>match us with|u::us=>ig t u fun x=>tq (t'::ts) us fun y=>K (x,y)|[]=>none
def ET.cs:ET→List LT
 | .i=>[.n .i64]| .u=>[.n .u8]| .s=>[.s]| .b=>[.b]
 | .car=>[.s,.l .s]| .dec=>[.s,.t .ty]| .ty=>[.n .i64,.s,.l .ty]| .tm=>[.n .i64,.s,.n .i64,.t .ty,.l .tm]
 | .env=>[.l .car,.l .dec]| .val=>[.n .i64,.n .i64,.s,.l .val]| .bnd=>[.s,.t .val]| .vals=>[.l .val]| .tms=>[.l .tm]
def ET.un:(e:ET)→e.D→fU e.cs
 | .i,x=>x| .u,x=>x| .s,x=>x| .b,x=>x
 | .car,x=>(x.name,x.elems)| .dec,x=>(x.name,x.ty)| .ty,x=>(x.kind,x.name,x.kids)| .tm,x=>(x.op,x.name,x.n,x.ty,x.kids)
 | .env,x=>(x.carriers,x.names)| .val,x=>(x.kind,x.n,x.name,x.kids)| .bnd,x=>(x.name,x.v)| .vals,x=>x| .tms,x=>x
def ET.mk:(e:ET)→fU e.cs→e.D
 | .i,x=>x| .u,x=>x| .s,x=>x| .b,x=>x
 | .car,x=>⟨x.1,x.2⟩| .dec,x=>⟨x.1,x.2⟩| .ty,x=>.mk x.1 x.2.1 x.2.2| .tm,x=>.mk x.1 x.2.1 x.2.2.1 x.2.2.2.1 x.2.2.2.2
 | .env,x=>⟨x.1,x.2⟩| .val,x=>.mk x.1 x.2.1 x.2.2.1 x.2.2.2| .bnd,x=>⟨x.1,x.2⟩| .vals,x=>x| .tms,x=>x
def ET.sc:ET→Bool
 | .i=>true| .u=>true| .s=>true| .b=>true| .vals=>true| .tms=>true|_=>false
def ET.sz:ET→Nat
 | .i=>1| .u=>1| .s=>1| .b=>1| .car=>2| .dec=>4| .ty=>3| .tm=>7| .env=>2| .val=>4| .bnd=>5| .vals=>1| .tms=>1
def ET.enc:(e:ET)→e.D→List AV
 | .i=>encI| .u=>BX| .s=>encS| .b=>fun x=>[.bool x]| .car=>fF| .dec=>d9| .ty=>iL| .tm=>dR
 | .env=>fun x=>[.slice (x.carriers.map fF) .shared,.slice (x.names.map d9) .shared]| .val=>mX
 | .bnd=>fun x=>.str x.name::mX x.v| .vals=>fun x=>[.slice (x.map mX) .shared]| .tms=>fun x=>[.slice (x.map dR) .shared]
inductive TV where
 |unk|nilp|nilF|nils
 |lf (t:LT) (x:t.D)
 |nat (n:Nat)
 |ptr (l off:Nat)
 |eptr (cs:List TV)
 |agg (cs:List TV)
 |tup (cs:List TV)
 |func (f:Nat) (cs:List TV)
 |mapr (l:Nat)
 |own (l:Nat)
 |psl (l z:Nat) (c:Option Nat)
 |ap (l:Nat) (i:Int) (z off:Nat)
inductive TObj where
 |box (cs:List TV)
 |own (e:ET) (xs:List e.D)
 |gone (e:ET) (xs:List e.D)
 |mp (e:ET) (xs:List (Str×e.D))
 |arr (e:ET) (xs:List e.D)
 |gon (n:Nat)
 |dead
 |res
noncomputable def nth{α:Type}(d:α)(l:List α):Nat→α:=List.rec (motive:=fun _=>Nat→α) (fun _=>d) (fun x _ ih n=>Nat.rec (motive:=fun _=>α) x (fun m _=>ih m) n) l
theorem eH{α:Type}(d:α):∀(l:List α) (n:Nat),nth d l n=l.getD n d
 |[],_=>rfl
 |_::_,0=>rfl
 |_::xs,n+1=>(eH d xs n).trans (by simp[List.getD])
def gM:(t:LT)→t.D→AV
 | .n k,x=>.int k x
 | .b,x=>.bool x
 | .s,x=>.str x
 | .l e,x=>.slice (List.map e.enc x) .shared
 | .t e,x=>.agg (e.enc x)
 | .m _,_=>.unk
 | .f e,x=>.flist (List.map e.enc x)
def dH(l:Nat):TObj→AV
 | .own e xs=>.slice (xs.map e.enc) (.tip l e.sz)
 | .gone e xs=>.slice (xs.map e.enc) (.tip l e.sz)
 |_=>.unk
def bZ(l z:Nat):TObj→AV
 | .arr _ xs=>.psl l z xs.length
 | .gon n=>.psl l z n
 |_=>.unk
def rW(v:TV)(a:AV):List AV:=match v with
 | .lf (.t e) x=>e.enc x
 |_=>[a]
mutual
noncomputable def av(H:List TObj):TV→AV
 | .unk=>.unk
 | .nilp=>.nilp
 | .nilF=>.nilFunc
 | .nils=>.slice [] .nils
 | .lf t x=>gM t x
 | .nat n=>.int .i64 n
 | .ptr l o=>.ptr l o
 | .eptr cs=>.eptr (aT H cs)
 | .agg cs=>.agg (aT H cs)
 | .tup cs=>.tup (aQ H cs)
 | .func f cs=>.func f (aQ H cs)
 | .mapr l=>.mapr l
 | .own l=>dH l (nth .dead H l)
 | .psl l z c=>match c with
  |none=>bZ l z (nth .dead H l)
  |some n=>.psl l z n
 | .ap l i z off=>.ptr l (i.toNat*z+off)
noncomputable def aT(H:List TObj):List TV→List AV
 |[]=>[]
 |v::vs=>rW v (av H v)++aT H vs
noncomputable def aQ(H:List TObj):List TV→List AV
 |[]=>[]
 |v::vs=>av H v::aQ H vs
end
def ET.one(e:ET)(x:e.D):AV:=match e.sc,e.enc x with
 |true,[v]=>v
 |_,cs=>.agg cs
noncomputable def dM(H:List TObj):TObj→AObj
 | .box cs=>.box (aT H cs)
 | .own e xs=>.tip (xs.length*e.sz)
 | .gone _ _=>.dead
 | .mp e xs=>.mp (xs.map fun p=>(p.1,e.one p.2))
 | .arr e xs=>.arr e.sz (xs.map e.enc)
 | .gon _=>.dead
 | .dead=>.dead
 | .res=>.res
def ail(a c:Int):Option Int:=if c=0 then none else some (a.tmod c)
def ah4(a c:Int):Option Int:=if 0≤c∧c≤62 then some (IntKind.wrap .i64 (a*2^c.toNat))else none
noncomputable section
def ET.seg:(e:ET)→e.D→TV
 | .i,x=>.lf (.n .i64) x| .u,x=>.lf (.n .u8) x| .s,x=>.lf .s x| .b,x=>.lf .b x
 | .car,x=>.lf (.t .car) x| .dec,x=>.lf (.t .dec) x| .ty,x=>.lf (.t .ty) x| .tm,x=>.lf (.t .tm) x| .env,x=>.lf (.t .env) x| .val,x=>.lf (.t .val) x
 | .bnd,x=>.lf (.t .bnd) x| .vals,x=>.lf (.l .val) x| .tms,x=>.lf (.l .tm) x
def comps(e:ET)(x:e.D):List TV:=(dG e.cs (e.un x)).map fun u=>.lf u.t u.x
def width:TV→Nat
 | .lf (.t e) _=>e.sz
 |_=>1
def widths:List TV→Nat
 |[]=>0
 |v::vs=>width v+widths vs
def scB(H:List TObj):TV→Bool
 | .unk=>false
 | .agg _=>false
 | .tup _=>false
 | .lf (.m _) _=>false
 | .own l=>match nth .dead H l with
  | .own _ _=>true
  | .gone _ _=>true
  |_=>false
 | .psl l _ none=>match nth .dead H l with
  | .arr _ _=>true
  | .gon _=>true
  |_=>false
 |_=>true
def Xf(H:List TObj):List TV→Bool
 |[]=>true
 |v::vs=>scB H v&&Xf H vs
section
variable {γ:Type}
def splitK:Nat→List TV→Nat→(List TV→List TV→Option γ)→Option γ
 |0,_,_,_=>none
 |f+1,cs,n,K=>match n with
  |0=>K [] cs
  |m+1=>match cs with
   |[]=>none
   |c::r=>bif Nat.ble (width c) (m+1)then splitK f r (m+1 - width c) fun a b=>K (c::a) b else match c with
    | .lf (.t e) x=>splitK f (comps e x++r) (m+1) K
    |_=>none
def nT(cs:List TV)(off:Nat)(new:List TV)(K:List TV→Option γ):Option γ:=splitK 99 cs off fun a b=>splitK 99 b (widths new) fun _ r=>K (a++(new++r))
def abY:Nat→List TV→(TV→Option γ)→Option γ
 |0,_,_=>none
 |f+1,cs,K=>match cs with
  |[]=>none
  |c::_=>match c with
   | .lf (.t e) x=>abY f (comps e x) K
   |v=>K v
def Py:List TV→TV
 |[.lf (.t e) x]=>.lf (.t e) x
 |cs=>.agg cs
def Xr(τ:Nat→TI)(t:TypeId)(off:Nat)(cs:List TV)(K:TV→Option γ):Option γ:=
 match(τ t).agg with
 |some true=>match(τ t).size with
  |some n=>splitK 60 cs off fun _ b=>splitK 60 b n fun c _=>K (Py c)
  |none=>none
 |some false=>splitK 60 cs off fun _ b=>abY 60 b K
 |none=>none
def xO(H:List TObj):TV→Option (List TV)
 | .agg cs=>some cs
 | .unk=>none
 | .tup _=>none
 | .lf (.m _) _=>none
 | .nat n=>some [.lf (.n .i64) (n:Int)]
 | .own l=>match nth .dead H l with
  | .own _ _=>some [.own l]
  | .gone _ _=>some [.own l]
  |_=>none
 | .psl l z none=>match nth .dead H l with
  | .arr _ _=>some [.psl l z none]
  | .gon _=>some [.psl l z none]
  |_=>none
 |v=>some [v]
def nK(H:List TObj)(w:Bool)(t:LT)(v:TV)(K:U→Option γ):Option γ:=
 match v with
 | .lf t' x=>K ⟨t',x⟩
 | .nat n=>K ⟨.n .i64,(n:Int)⟩
 | .nils=>bif w then(match t with| .l e=>K ⟨.l e,[]⟩|_=>none)else none
 | .nilp=>bif w then(match t with| .f e=>K ⟨.f e,[]⟩|_=>none)else none
 | .own l=>bif w then(match nth .dead H l with| .own e xs=>K ⟨.l e,xs⟩| .gone e xs=>K ⟨.l e,xs⟩|_=>none)else none
 |_=>none
def Xm(L:LT→List TV→(U→List TV→Option γ)→Option γ):List LT→List TV→(List U→List TV→Option γ)→Option γ
 |[],cs,K=>K [] cs
 |t::ts,cs,K=>L t cs fun u r=>Xm L ts r fun us r=>K (u::us) r
def IX(H:List TObj)(w:Bool):Nat→LT→List TV→(U→List TV→Option γ)→Option γ
 |0,_,_,_=>none
 |f+1,t,cs,K=>match cs with
  |[]=>none
  |c::r=>match c with
   | .lf (.t e') x=>match LT.eq? (.t e') t with
    |some _=>K ⟨.t e',x⟩ r
    |none=>match t with
     | .t e=>bif Nat.ble e.sz e'.sz then IX H w f t (comps e' x++r) K else Xm (IX H w f) e.cs cs fun us r=>tq e.cs us fun y=>K ⟨.t e,e.mk y⟩ r
     |t=>IX H w f t (comps e' x++r) K
   |v=>match t with
    | .t e=>Xm (IX H w f) e.cs cs fun us r=>tq e.cs us fun y=>K ⟨.t e,e.mk y⟩ r
    |t=>nK H w t v fun u=>K u r
def zG(H:List TObj)(e:ET)(v:TV)(K:e.D→Option γ):Option γ:=
 match xO H v with
  |some cs=>IX H true 60 (.t e) cs fun u r=>match r with|[]=>ig (.t e) u K|_=>none
  |none=>none
def abZ(H:List TObj)(e:ET)(v:TV)(K:e.D→Option γ):Option γ:=
 match e with
 | .i=>nK H true (.n .i64) v fun u=>ig (.n .i64) u K
 | .u=>nK H true (.n .u8) v fun u=>ig (.n .u8) u K
 | .s=>nK H true .s v fun u=>ig .s u K
 | .b=>nK H true .b v fun u=>ig .b u K
 | .car=>zG H .car v K| .dec=>zG H .dec v K| .ty=>zG H .ty v K| .tm=>zG H .tm v K| .env=>zG H .env v K| .val=>zG H .val v K
 | .bnd=>zG H .bnd v K
 | .vals=>nK H true (.l .val) v fun u=>ig (.l .val) u K
 | .tms=>nK H true (.l .tm) v fun u=>ig (.l .tm) u K
end
end
end
section
open Go
noncomputable section
inductive TWr where
 |sl (n:Nat) (v:TV)
 |ob (l:Nat) (o:TObj)
 |st (l off:Nat) (vs:List TV)
 |kill (l:Nat)
 |nw (l:Nat) (o:TObj)
 |up (l:Nat) (i:Int) (e:ET) (y:e.D)
def dA(d:Option Tmp)(v:TV):List TWr:=match d with|some n=>[.sl n v]|none=>[]
def Zg:Value→TV
 | .int k n=>bif decide (k.min≤n)&&decide (n≤k.max)then .lf (.n k) n else .unk
 | .bool b=>.lf .b b
 | .string s=>bif decide (s.data.toList.length≤9223372036854775807)then .lf .s s.data.toList else .unk
 | .pointer none=>.nilp
 | .slice none 0 0=>.nils
 | .nilFunc=>.nilF
 |_=>.unk
def alN:Value→TV
 | .agg cs=>.agg (cs.toList.map Zg)
 |v=>Zg v
def NJ:AV→TV
 | .int k n=>.lf (.n k) n
 | .bool b=>.lf .b b
 | .str s=>.lf .s s
 | .nilp=>.nilp
 | .slice [] .nils=>.nils
 | .nilFunc=>.nilF
 |_=>.unk
def okA:AV→Bool
 | .int _ _=>true
 | .bool _=>true
 | .str _=>true
 | .nilp=>true
 | .slice [] .nils=>true
 | .nilFunc=>true
 | .unk=>true
 |_=>false
def RJ:List AV→Bool
 |[]=>true
 |a::asz=>okA a&&RJ asz
def P6:AV→TV
 | .agg cs=>.agg (cs.map NJ)
 |v=>NJ v
def okZ:AV→Bool
 | .agg cs=>RJ cs
 |v=>okA v
def iq:TObj→Bool
 | .res=>true
 |_=>false
def dF(regs:List TV):Operand→TV
 | .tmp n=>nth .unk regs n
 | .const v=>alN v
 | .func f=>.func f []
 | .global _=>.unk
def mem(l:List Nat)(n:Nat):Bool:=List.rec (motive:=fun _=>Bool) false (fun x _ ih=>bif Nat.beq x n then true else ih) l
def aoQ(k:IntKind)(a c:Int):Option Int:=if 0≤c∧c≤k.bits then some (a.fdiv (2^c.toNat))else none
def apH(a c:Int):Option Int:=if c=0 then none else some (IntKind.wrap .i64 (a.tdiv c))
section
variable {γ:Type}
def ab0:Int→Bool
 | .ofNat 1=>true
 |_=>false
def Eb(v:TV)(K:IntKind→Int→Option γ):Option γ:=match v with
 | .lf (.n k) x=>K k x
 | .nat n=>K .i64 (n:Int)
 |_=>none
def ajR(k k':IntKind):Bool:=Nat.beq (IntKind.no k) (IntKind.no k')
def isNat:TV→Bool
 | .nat _=>true
 |_=>false
def aea(p q:Bool)(op:BinOp)(k:IntKind)(a b:Int)(K:TV→Option γ):Option γ:=
 match op with
 | .add=>bif p&&ab0 b then K (.lf (.n k) (a+b))else K (.lf (.n k) (k.wrap (a+b)))
 | .sub=>bif q&&ab0 b then K (.lf (.n k) (a - b))else K (.lf (.n k) (k.wrap (a - b)))
 | .mul=>K (.lf (.n k) (k.wrap (a*b)))
 | .quo=>match k with| .i64=>(apH a b).bind fun x=>K (.lf (.n .i64) x)|_=>none
 | .rem=>(ail a b).bind fun x=>K (.lf (.n k) x)
 | .eql=>K (.lf .b (a==b))
 | .neq=>K (.lf .b (a !=b))
 | .lss=>K (.lf .b (decide (a<b)))
 | .leq=>K (.lf .b (decide (a≤b)))
 | .gtr=>K (.lf .b (decide (b<a)))
 | .geq=>K (.lf .b (decide (b≤a)))
 | .shl=>match k with| .i64=>(ah4 a b).bind fun x=>K (.lf (.n .i64) x)|_=>none
 | .shr=>(aoQ k a b).bind fun x=>K (.lf (.n k) x)
 |_=>none
def akQ(op:BinOp)(a b:Str)(K:TV→Option γ):Option γ:=
 match op with
 | .add=>(aiq a b).bind fun x=>K (.lf .s x)
 | .eql=>K (.lf .b (a==b))
 | .neq=>K (.lf .b (!(a==b)))
 | .lss=>K (.lf .b (Op.bytesLess a b))
 | .leq=>K (.lf .b (Op.bytesLess a b ||a==b))
 | .gtr=>K (.lf .b (!(Op.bytesLess a b ||a==b)))
 | .geq=>K (.lf .b (!(Op.bytesLess a b)))
 |_=>none
def amu(op:BinOp)(a b:Bool)(K:TV→Option γ):Option γ:=match op with
 | .eql=>K (.lf .b (a==b))
 | .neq=>K (.lf .b (!(a==b)))
 |_=>none
def alH(τ:Nat→TI)(p o:Bool)(op:BinOp)(t:TypeId)(x y:TV)(K:TV→Option γ):Option γ:=
 match y with
 | .nilp=>bif (τ t).isPtr then(match op,x with
  | .eql,.nilp=>K (.lf .b true)
  | .neq,.nilp=>K (.lf .b false)
  | .eql,.ptr _ _=>K (.lf .b false)
  | .neq,.ptr _ _=>K (.lf .b true)
  | .eql,.eptr _=>K (.lf .b false)
  | .neq,.eptr _=>K (.lf .b true)
  | .eql,.lf (.f _) l=>K (.lf .b (false !=List.isEmpty l))
  | .neq,.lf (.f _) l=>K (.lf .b (true !=List.isEmpty l))
  |_,_=>none)else none
 | .lf .s b=>match x with
  | .lf .s a=>akQ op a b K
  |_=>none
 | .lf .b b=>match x with
  | .lf .b a=>bif (τ t).isBool then amu op a b K else none
  |_=>none
 |y=>Eb x fun k a=>Eb y fun k' b=>bif ajR k k' then aea (p&&o) (isNat x&&o) op k a b K else none
def XY(H:List TObj)(v:TV)(K:(e:ET)→List e.D→Option γ):Option γ:=
 match v with
 | .lf (.l e) xs=>K e xs
 | .own l=>match nth .dead H l with
  | .own e xs=>K e xs
  | .gone e xs=>K e xs
  |_=>none
 |_=>none
def GH(v:Option TV)(d:Int)(K:Int→Option γ):Option γ:=match v with
 |none=>K d
 |some v=>Eb v fun _ n=>K n
def Xu(H:List TObj)(place:Nat→Option (Nat×Nat)):List (Nat×TV)→List TV→(List TV→Option γ)→Option γ
 |[],cs,K=>K cs
 |(i,v)::ps,cs,K=>match place i with
  |some (off,sz)=>match xO H v with
   |some new=>bif Nat.beq (widths new) sz then splitK 99 cs off fun a b=>splitK 99 b sz fun _ d=>Xu H place ps (a++(new++d)) K else none
   |none=>none
  |none=>none
def adw(H:List TObj)(e:ET):Nat→List (Nat×TV)→(List e.D→Option γ)→Option γ
 |_,[],K=>K []
 |i,p::ps,K=>bif Nat.beq p.1 i then abZ H e p.2 fun x=>adw H e (i+1) ps fun xs=>K (x::xs)else none
def Qg(e:ET)(sz:Nat):Bool:=Nat.beq e.sz sz
def atK(n:Int):Nat→Nat→(Nat→Option γ)→Option γ
 |0,_,_=>none
 |m+1,q,K=>cond (n==(q:Int)) (K q) (atK n m (q+1) K)
def isZ:Int→Bool
 | .ofNat 0=>true
 |_=>false
def agR:Operand→Operand→Bool
 | .tmp i,.tmp j=>Nat.beq i j
 |_,_=>false
def aku:List AV→Bool
 |[.bool false]=>true
 |_=>false
def mkz{α:Type}(n:Int)(v:α):Option (List α):=if 0≤n∧n≤1000000000 then some (List.replicate n.toNat v)else none
def mkS(bytes:Nat)(c:Int):Option Unit:=if 0≤c∧bytes*c≤281474976710656∧c≤140737488355328 then some ()else none
def ZP(len:Nat)(b:Int):Option Nat:=if 0≤b∧b≤len then some b.toNat else none
def Gg:TV→TV
 | .nat n=>.lf (.n .i64) (n:Int)
 |v=>v
def bL(τ:Nat→TI)(θ:Nat→Option ET)(up:List Nat)(k:Nat)(d:Option Tmp)(regs:List TV)(H:List TObj)(op:Op)(K:List Nat→List TWr→Option γ):Option γ:=
 match op with
 | .move x=>K [] (dA d (dF regs x))
 | .assign x=>K [] (dA d (dF regs x))
 | .pick c x y=>match dF regs c with
  | .lf .b b=>cond b (K [] (dA d (dF regs x))) (K [] (dA d (dF regs y)))
  |_=>none
 | .nilCheck x=>match dF regs x with
  | .lf (.f e) l=>(unc l).bind fun p=>K [] (dA d (.eptr [e.seg p.1,.lf (.f e) p.2]))
  | .ptr l o=>K [] (dA d (.ptr l o))
  | .eptr cs=>K [] (dA d (.eptr cs))
  | .func f cs=>K [] (dA d (.func f cs))
  |_=>none
 | .binOp op t x y _=>alH τ (match x with| .tmp i=>mem up i|_=>false) (match y with| .const _=>true|_=>false) op t (dF regs x) (dF regs y) fun v=>K [] (dA d v)
 | .unOp op _ x=>match op,dF regs x with
  | .not,.lf .b b=>K [] (dA d (.lf .b (!b)))
  | .neg,.lf (.n k') n=>K [] (dA d (.lf (.n k') (k'.wrap ((0:Int) - (show Int from n)))))
  |_,_=>none
 | .fieldAddr s x f=>match lk (τ s).field f with
  |some (fo,_)=>match dF regs x with
   | .ptr l o=>K [] (dA d (.ptr l (o+fo)))
   | .eptr cs=>splitK 60 cs fo fun _ b=>K [] (dA d (.eptr b))
   | .ap l i z o=>K [] (dA d (.ap l i z (o+fo)))
   |_=>none
  |none=>none
 | .field s x f=>match lk (τ s).field f with
  |some (fo,t)=>match dF regs x with
   | .agg cs=>Xr τ t fo cs fun v=>K [] (dA d (Gg v))
   | .lf (.t e) y=>Xr τ t fo [.lf (.t e) y] fun v=>K [] (dA d (Gg v))
   |_=>none
  |none=>none
 | .indexAddr t x i=>match(τ t).ix with
  | .sl (some sz)=>Eb (dF regs i) fun _ n=>match dF regs x with
   | .psl l z none=>match nth .dead H l with
    | .arr _ xs=>bif Nat.beq z sz then(idx xs n).bind fun _=>K [] (dA d (.ap l n z 0))else none
    |_=>none
   |v=>XY H v fun e xs=>bif Qg e sz then(idx xs n).bind fun y=>K [] (dA d (.eptr [e.seg y]))else none
  | .arr len (some sz)=>match dF regs x with
   | .ptr l o=>Eb (dF regs i) fun _ n=>atK n len 0 fun q=>K [] (dA d (.ptr l (o+q*sz)))
   |_=>none
  |_=>none
 | .index t x i=>match dF regs x with
  | .lf .s s=>bif (τ t).isStr then Eb (dF regs i) fun _ n=>(xB s n).bind fun y=>K [] (dA d (.lf (.n .u8) y))else none
  |_=>none
 | .extract x i=>match dF regs x with
  | .tup vs=>bif Nat.blt i vs.length then K [] (dA d (Gg (nth .unk vs i)))else none
  |_=>none
 | .slice t x lo hi none=>match dF regs x with
  | .lf .s s=>bif (τ t).isStr then GH (lo.map (dF regs)) 0 fun a=>GH (hi.map (dF regs)) (s.length:Int) fun b=>(nR s a b).bind fun y=>K [] (dA d (.lf .s y))else none
  | .psl l z none=>match nth .dead H l,(τ t).slT,lo with
   | .arr _ xs,some _,none=>GH (hi.map (dF regs)) (xs.length:Int) fun b=>(ZP xs.length b).bind fun c=>K [] (dA d (.psl l z (some c)))
   |_,_,_=>none
  |v=>match(τ t).slT with
   |some sz=>XY H v fun e xs=>bif Qg e sz then GH (lo.map (dF regs)) 0 fun a=>GH (hi.map (dF regs)) (xs.length:Int) fun b=>(nR xs a b).bind fun y=>K [] (dA d (.lf (.l e) y))else none
   |none=>none
 | .build t parts=>bif (τ t).isStruct then(match(τ t).zero with
  |some z=>bif RJ z then Xu H (lk (τ t).place) (parts.toList.map fun p=>(p.1,dF regs p.2)) (z.map NJ) fun cs=>K [] (dA d (Py cs))else none
  |none=>none)else(match(τ t).ix,(τ t).zero with
  | .arr _ (some sz),some z=>bif RJ z then Xu H (fun i=>some (i*sz,sz)) (parts.toList.map fun p=>(p.1,dF regs p.2)) (z.map NJ) fun cs=>K [] (dA d (Py cs))else none
  |_,_=>none)
 | .makeFunc (.func f) first cap=>bif Nat.beq first.size 0 then K [] (dA d (.func f (cap.toList.map fun x=>Gg (dF regs x))))else none
 | .load t x=>match dF regs x with
  | .eptr cs=>Xr τ t 0 cs fun v=>K [] (dA d (Gg v))
  | .ptr l off=>match nth .dead H l with
   | .box cs=>Xr τ t off cs fun v=>K [l] (dA d (Gg v))
   |_=>none
  | .ap l i z off=>match nth .dead H l with
   | .arr e xs=>bif Nat.beq z e.sz&&(Nat.beq off 0&&Nat.ble 1 z)then(idx xs i).bind fun y=>Xr τ t 0 [e.seg y] fun v=>K [l] (dA d (Gg v))else none
   |_=>none
  |_=>none
 | .convert s t x=>match dF regs x with
  | .lf (.n _) n=>bif (τ s).int.isSome then(match(τ t).int with|some k=>K [] (dA d (.lf (.n k) (k.wrap n)))|none=>none)else none
  | .nat n=>bif (τ s).int.isSome then(match(τ t).int with|some k=>K [] (dA d (.lf (.n k) (k.wrap (n:Int))))|none=>none)else none
  |_=>none
 | .store t x y=>match dF regs x with
  | .ptr l off=>match xO H (dF regs y),(τ t).size with
   |some new,some sz=>match nth .dead H l with
    | .box cs=>bif (Nat.beq (widths new) sz&&Nat.ble (off+sz) (widths cs))&&Xf H new then K [l] (.st l off new::dA d (.tup []))else none
    |_=>none
   |_,_=>none
  | .ap l i z off=>match xO H (dF regs y),(τ t).size with
   |some new,some sz=>match nth .dead H l with
    | .arr e xs=>bif (Nat.beq (widths new) sz&&(Nat.beq z e.sz&&(Nat.ble 1 sz&&Nat.ble (off+sz) z)))&&Xf H new then(idx xs i).bind fun x=>nT (comps e x) off new fun cs=>IX H false 60 (.t e) cs fun u r=>match r with
     |[]=>ig (.t e) u fun y=>K [l] (.up l i e y::dA d (.tup []))
     |_=>none else none
    |_=>none
   |_,_=>none
  |_=>none
 | .alloc t=>match(τ t).zero with
  |some z=>bif RJ z&&iq (nth .dead H k)then K [k] (.nw k (.box (z.map NJ))::dA d (.ptr k 0))else none
  |none=>none
 | .box _ x=>match xO H (dF regs x)with
  |some cs=>bif iq (nth .dead H k)then K [k] (.nw k (.box cs)::dA d (.ptr k 0))else none
  |none=>none
 | .makeMap t none=>match(τ t).smap with
  |some e=>match θ e with
   |some e=>bif iq (nth .dead H k)then K [k] (.nw k (.mp e [])::dA d (.mapr k))else none
   |none=>none
  |none=>none
 | .buildSlice t len parts=>match(τ t).elem with
  |some (et,sz,_)=>match θ et,(τ et).zero with
   |some e,some z=>bif (Nat.beq parts.toList.length len&&(Qg e sz&&iq (nth .dead H k)))&&(Nat.beq z.length sz&&(Nat.ble (len*sz) 16777216&&Nat.ble len 16777216))then adw H e 0 (parts.toList.map fun p=>(p.1,dF regs p.2)) fun xs=>K [k] (.nw k (.own e xs)::dA d (.own k))else none
   |_,_=>none
  |none=>none
 | .makeSlice t x y=>match(τ t).elem with
  |some (et,sz,bytes)=>match θ et,(τ et).zero with
   |some e,some z=>Eb (dF regs x) fun _ l=>Eb (dF regs y) fun _ c=>bif (agR x y&&aku z)&&(Nat.beq sz 1&&(Nat.ble bytes 1000&&iq (nth .dead H k)))then(mkz l false).bind fun xs=>K [k] (.nw k (.arr .b xs)::dA d (.psl k 1 none))else bif isZ l&&(Qg e sz&&(Nat.beq z.length sz&&iq (nth .dead H k)))then(mkS bytes c).bind fun _=>K [k] (.nw k (.arr e [])::dA d (.psl k sz none))else none
   |_,_=>none
  |none=>none
 | .call {callee:=.builtin .len,args,argTypes}=>match args.toList,argTypes.toList with
  |[x],[t]=>match dF regs x with
   | .lf .s s=>bif (τ t).isStr then K [] (dA d (.nat s.length))else none
   | .nils=>bif (τ t).slT.isSome then K [] (dA d (.nat 0))else none
   | .psl l _ none=>match nth .dead H l with
    | .arr _ xs=>bif (τ t).slT.isSome then K [] (dA d (.nat xs.length))else none
    |_=>none
   |v=>bif (τ t).slT.isSome then XY H v fun _ xs=>K [] (dA d (.nat xs.length))else none
  |_,_=>none
 | .call {callee:=.builtin .min,args,argTypes:=_}=>match args.toList with
  |[x,y]=>Eb (dF regs x) fun k a=>Eb (dF regs y) fun k' b=>bif ajR k k' then K [] (dA d (.lf (.n k) (if b<a then b else a)))else none
  |_=>none
 | .call {callee:=.builtin .append,args,argTypes}=>match args.toList,argTypes.toList with
  |[x,y],[t,t2]=>match(τ t).elem with
   |some (et,sz,bytes)=>match θ et with
    |some e=>bif Qg e sz&&((τ t2).isSl&&iq (nth .dead H k))then nK H true (.l e) (dF regs y) fun u=>ig (.l e) u fun ys=>(match dF regs x with
     | .nils=>(app bytes ([]:List e.D) ys).bind fun r=>K [k] (.nw k (.own e r)::dA d (.own k))
     | .own l=>match nth .dead H l with
      | .own e' xs=>ig (.l e) ⟨.l e',xs⟩ fun xs=>(app bytes xs ys).bind fun r=>K [l,k] (.kill l:: .nw k (.own e r)::dA d (.own k))
      |_=>none
     | .psl l z none=>match nth .dead H l with
      | .arr e' xs=>bif Nat.beq z sz then ig (.l e) ⟨.l e',xs⟩ fun xs=>(app bytes xs ys).bind fun r=>K [l,k] (.kill l:: .nw k (.arr e r)::dA d (.psl k z none))else none
      |_=>none
     |_=>none)else none
    |none=>none
   |none=>none
  |_,_=>none
 | .lookup t m key ok=>match(τ t).smap,dF regs m,dF regs key with
  |some et,.mapr l,.lf .s s=>match nth .dead H l,(τ et).zav with
   | .mp e xs,some z=>bif okZ z then Ux (dI xs s) (K [l] (dA d (bif ok then .tup [P6 z,.lf .b false]else P6 z))) fun y=>K [l] (dA d (bif ok then .tup [e.seg y,.lf .b true]else e.seg y))else none
   |_,_=>none
  |_,_,_=>none
 | .mapUpdate t m key x=>match(τ t).smap,dF regs m,dF regs key with
  |some _,.mapr l,.lf .s s=>match nth .dead H l with
   | .mp e xs=>abZ H e (dF regs x) fun y=>(qZ xs s y).bind fun r=>K [l] (.ob l (.mp e r)::dA d (.tup []))
   |_=>none
  |_,_,_=>none
 |_=>none
end
end
end
section
def aV{σ δ:Type}(body:(σ→Option δ)→σ→Option δ)(n:Nat):σ→Option δ:=Nat.rec (motive:=fun _=>σ→Option δ) (fun _=>none) (fun _ ih=>body ih) n
inductive PZ(α ζ:Type) where
 |ok (x:α)
 |er (e:Int) (z:ζ)
def PZ.el{α ζ β:Type}(f:α→Option β)(g:Int→ζ→Option β):PZ α ζ→Option β
 | .ok x=>f x
 | .er e z=>g e z
end
section
open Go
noncomputable section
mutual
def alc:Ty→Ty→Bool
 | .mk k s l,.mk k' s' l'=>decide (k=k')&&(s==s'&&VX l l')
def VX:List Ty→List Ty→Bool
 |[],[]=>true
 |x::xs,y::ys=>alc x y&&VX xs ys
 |_,_=>false
end
inductive CU where
 |n (k:IntKind) (x:Int)|b (x:Bool)|s (x:Str)|l (e:ET)|ly (x:List Ty)
def CU.t:CU→LT
 | .n k _=>.n k| .b _=>.b| .s _=>.s| .l e=>.l e| .ly _=>.l .ty
def CU.x:(c:CU)→c.t.D
 | .n _ x=>x| .b x=>x| .s x=>x| .l _=>[]| .ly x=>x
def CU.is:(c:CU)→c.t.D→Bool
 | .n _ x,y=>decide ((show Int from y)=x)
 | .b x,y=>x==(show Bool from y)
 | .s x,y=>(show Str from y)==x
 | .l e,y=>List.isEmpty (show List e.D from y)
 | .ly x,y=>VX x (show List Ty from y)
inductive Sk where
 |unk|nilp|nilF|nils
 |k (c:CU)
 |lf (t:LT)
 |ptr (l off:Nat)
 |eptr (cs:List Sk)
 |agg (cs:List Sk)
 |tup (cs:List Sk)
 |func (f:Nat) (cs:List Sk)
 |mapr (l:Nat)
 |own (l:Nat)
 |psl (l z:Nat)
inductive HO where
 |dead
 |box (cs:List Sk)
 |bx (l:List (Nat×Sk))
 |own (e:ET)
 |mp (e:ET)
 |arr (e:ET)
inductive Ed where
 |r (n:Nat) (s:Sk)
 |o (l:Nat) (h:HO)
 |w (h:HO)
mutual
def Sk.Ep:Sk→List LT
 | .lf t=>[t]
 | .eptr cs=>Sk.Kr cs
 | .agg cs=>Sk.Kr cs
 | .tup cs=>Sk.Kr cs
 | .func _ cs=>Sk.Kr cs
 | .unk=>[]| .nilp=>[]| .nilF=>[]| .nils=>[]| .k _=>[]| .ptr _ _=>[]| .mapr _=>[]| .own _=>[]| .psl _ _=>[]
def Sk.Kr:List Sk→List LT
 |[]=>[]
 |s::ss=>s.Ep++Sk.Kr ss
end
def HO.Ep:HO→List LT
 | .dead=>[]
 | .box cs=>Sk.Kr cs
 | .bx l=>l.flatMap fun p=>p.2.Ep
 | .own e=>[.l e]
 | .mp e=>[.m e]
 | .arr e=>[.l e]
def aY:List Ed→List LT
 |[]=>[]
 | .r _ s::es=>s.Ep++aY es
 | .o _ h::es=>h.Ep++aY es
 | .w h::es=>h.Ep++aY es
section
variable {β:Type}
def qW{α:Type}(l:List α):Nat→α→(List α→β)→β:=
 List.rec (motive:=fun _=>Nat→α→(List α→β)→β) (fun _ _ K=>K []) (fun x xs ih n v K=>Nat.rec (motive:=fun _=>β) (K (v::xs)) (fun m _=>ih m v fun ys=>K (x::ys)) n) l
def amx{α:Type}(l:List α):α→(List α→β)→β:=
 List.rec (motive:=fun _=>α→(List α→β)→β) (fun v K=>K [v]) (fun x _ ih v K=>ih v fun ys=>K (x::ys)) l
mutual
def fill(g:Nat→Nat):Sk→List U→(TV→List U→β)→β
 | .unk,us,K=>K .unk us
 | .nilp,us,K=>K .nilp us
 | .nilF,us,K=>K .nilF us
 | .k c,us,K=>K (.lf c.t c.x) us
 | .nils,us,K=>K .nils us
 | .lf _,us,K=>match us with
  |u::us=>K (.lf u.t u.x) us
  |[]=>K .unk []
 | .ptr l o,us,K=>K (.ptr (g l) o) us
 | .eptr cs,us,K=>fills g cs us fun vs us=>K (.eptr vs) us
 | .agg cs,us,K=>fills g cs us fun vs us=>K (.agg vs) us
 | .tup cs,us,K=>fills g cs us fun vs us=>K (.tup vs) us
 | .func f cs,us,K=>fills g cs us fun vs us=>K (.func f vs) us
 | .mapr l,us,K=>K (.mapr (g l)) us
 | .own l,us,K=>K (.own (g l)) us
 | .psl l z,us,K=>K (.psl (g l) z none) us
def fills(g:Nat→Nat):List Sk→List U→(List TV→List U→β)→β
 |[],us,K=>K [] us
 |s::ss,us,K=>fill g s us fun v us=>fills g ss us fun vs us=>K (v::vs) us
end
def MI(g:Nat→Nat):List (Nat×Sk)→Option (List TV)→List U→(Option (List TV)→List U→β)→β
 |[],c,us,K=>K c us
 |p::ps,c,us,K=>fill g p.2 us fun v us=>match c with
  |none=>MI g ps none us K
  |some cs=>match nT cs p.1 [v] some with
   |some cs=>MI g ps (some cs) us K
   |none=>MI g ps none us K
def Jy(g:Nat→Nat)(o:TObj):HO→List U→(TObj→List U→β)→β
 | .dead,us,K=>K .dead us
 | .box cs,us,K=>fills g cs us fun vs us=>K (.box vs) us
 | .bx l,us,K=>match o with
  | .box cs=>MI g l (some cs) us fun c us=>match c with
   |some cs=>K (.box cs) us
   |none=>K .dead us
  |_=>MI g l none us fun _ us=>K .dead us
 | .own _,us,K=>match us with
  |⟨.l e,xs⟩::us=>K (.own e xs) us
  |us=>K .dead us
 | .mp _,us,K=>match us with
  |⟨.m e,xs⟩::us=>K (.mp e xs) us
  |us=>K .dead us
 | .arr _,us,K=>match us with
  |⟨.l e,xs⟩::us=>K (.arr e xs) us
  |us=>K .dead us
def GI(g:Nat→Nat):List Ed→List U→List TV→List TObj→(List TV→List TObj→β)→β
 |[],_,t,h,K=>K t h
 | .r n s::es,us,t,h,K=>fill g s us fun v us=>qW t n v fun t=>GI g es us t h K
 | .o l s::es,us,t,h,K=>Jy g (nth .dead h l) s us fun v us=>qW h l v fun h=>GI g es us t h K
 | .w s::es,us,t,h,K=>Jy g .dead s us fun v us=>amx h v fun h=>GI g es us t h K
end
def pO:Sk→Nat
 | .lf (.t e)=>e.sz
 |_=>1
mutual
def ag0:Sk→TV→List (Nat×Nat)
 | .ptr j _,v=>match v with| .ptr l _=>[(j,l)]|_=>[]
 | .mapr j,v=>match v with| .mapr l=>[(j,l)]|_=>[]
 | .own j,v=>match v with| .own l=>[(j,l)]|_=>[]
 | .psl j _,v=>match v with| .psl l _ _=>[(j,l)]|_=>[]
 | .eptr cs,v=>match v with| .eptr vs=>Kz cs vs|_=>[]
 | .agg cs,v=>match v with| .agg vs=>Kz cs vs|_=>[]
 | .tup cs,v=>match v with| .tup vs=>Kz cs vs|_=>[]
 | .func _ cs,v=>match v with| .func _ vs=>Kz cs vs|_=>[]
 |_,_=>[]
def Kz:List Sk→List TV→List (Nat×Nat)
 |s::ss,v::vs=>ag0 s v++Kz ss vs
 |_,_=>[]
end
def asc(m:List (Nat×Nat))(j:Nat):Option Nat:=match m with
 |[]=>none
 |p::r=>bif Nat.beq p.1 j then some p.2 else asc r j
def amB(H:List TObj)(m:List (Nat×Nat))(j:Nat):HO→List (Nat×Nat)
 | .box cs=>match asc m j with
  |some l=>match nth .dead H l with
   | .box vs=>Kz cs vs
   |_=>[]
  |none=>[]
 | .bx is=>match asc m j with
  |some l=>match nth .dead H l with
   | .box vs=>is.flatMap fun p=>ag0 p.2 ((splitK 99 vs p.1 fun _ b=>b.head?).getD .unk)
   |_=>[]
  |none=>[]
 |_=>[]
def Fj(t:List TV)(H:List TObj):Nat→List Ed→List (Nat×Nat)→List (Nat×Nat)
 |_,[],m=>m
 |j,.r n s::es,m=>Fj t H j es (m++ag0 s (nth .unk t n))
 |j,.o l h::es,m=>Fj t H j es (m++amB H (m++[(l,l)]) l h)
 |j,.w h::es,m=>Fj t H (j+1) es (m++amB H m j h)
def aC:List Ed→Nat
 |[]=>0
 | .w _::es=>aC es+1
 |_::es=>aC es
def as9:TV→Bool
 | .lf (.t _) _=>true
 |_=>false
def hd1{γ:Type}(vs:List TV)(F:TV→List TV→Option γ):Option γ:=match vs with
 |[]=>none
 |v::r=>bif as9 v then none else F v r
def oeq(a:Option Nat)(l:Nat):Bool:=match a with|some x=>Nat.beq x l|none=>false
section
variable {γ:Type}
mutual
def ext(m:Nat)(H:List TObj)(L:Nat→Option Nat):Sk→TV→(List U→Option γ)→Option γ
 | .unk,v,K=>match m with
  |0=>match v with| .unk=>K []|_=>none
  |_=>K []
 | .nilp,v,K=>match v with| .nilp=>K []|_=>none
 | .nilF,v,K=>match v with| .nilF=>K []|_=>none
 | .k c,v,K=>nK H (Nat.ble 1 m) c.t v fun u=>ig c.t u fun x=>bif c.is x then K []else none
 | .nils,v,K=>match v with| .nils=>K []|_=>none
 | .lf t,v,K=>match t with
  | .t e=>bif e.sc then none else match xO H v with
   |some cs=>IX H (Nat.ble 1 m) 60 (.t e) cs fun u r=>match r with|[]=>ig (.t e) u fun x=>K [⟨.t e,x⟩]|_=>none
   |none=>none
  |t=>nK H (Nat.ble 1 m) t v fun u=>ig t u fun x=>K [⟨t,x⟩]
 | .ptr j o,v,K=>match v with| .ptr l o'=>bif Nat.beq o o'&&oeq (L j) l then K []else none|_=>none
 | .mapr j,v,K=>match v with| .mapr l=>bif oeq (L j) l then K []else none|_=>none
 | .own j,v,K=>match v with
  | .own l=>bif oeq (L j) l then K []else none
  | .nils=>bif Nat.ble 2 m&&(L j).isNone then K []else none
  |_=>none
 | .psl j z,v,K=>match v with
  | .psl l z' none=>bif oeq (L j) l&&Nat.beq z z' then K []else none
  | .nils=>bif Nat.ble 2 m&&(L j).isNone then K []else none
  |_=>none
 | .eptr cs,v,K=>match v with
  | .eptr vs=>lu 0 H L cs vs K
  |_=>none
 | .agg cs,v,K=>match v with
  | .agg vs=>lu m H L cs vs K
  | .lf (.t e) x=>lu m H L cs [.lf (.t e) x] K
  |_=>none
 | .tup cs,v,K=>match v with
  | .tup vs=>Zu (bif Nat.ble 2 m then m else 0) H L cs vs K
  |_=>none
 | .func f cs,v,K=>match v with
  | .func f' vs=>bif Nat.beq f f' then Zu (bif Nat.ble 2 m then m else 0) H L cs vs K else none
  |_=>none
def Zu(m:Nat)(H:List TObj)(L:Nat→Option Nat):List Sk→List TV→(List U→Option γ)→Option γ
 |[],vs,K=>match vs with|[]=>K []|_=>none
 |s::ss,vs,K=>match vs with
  |[]=>none
  |v::r=>ext m H L s v fun us=>Zu m H L ss r fun us'=>K (us++us')
def lu(m:Nat)(H:List TObj)(L:Nat→Option Nat):List Sk→List TV→(List U→Option γ)→Option γ
 |[],vs,K=>match vs with|[]=>K []|_=>none
 |s::ss,vs,K=>match s with
  | .lf t=>IX H (Nat.ble 1 m) 60 t vs fun u r=>ig t u fun x=>lu m H L ss r fun us=>K (⟨t,x⟩::us)
  | .k c=>IX H (Nat.ble 1 m) 60 c.t vs fun u r=>ig c.t u fun x=>bif c.is x then lu m H L ss r K else none
  |s=>hd1 vs fun v r=>ext m H L s v fun us=>lu m H L ss r fun us'=>K (us++us')
end
def ahR(m:Nat)(H:List TObj)(L:Nat→Option Nat)(vs:List TV):List (Nat×Sk)→(List U→Option γ)→Option γ
 |[],K=>K []
 |p::ps,K=>splitK 99 vs p.1 fun _ b=>splitK 99 b (pO p.2) fun c _=>lu m H L [p.2] c fun us=>ahR m H L vs ps fun us'=>K (us++us')
def Zn(m:Nat)(H:List TObj)(L:Nat→Option Nat)(o:TObj):HO→(List U→Option γ)→Option γ
 | .dead,K=>K []
 | .box cs,K=>match o with| .box vs=>lu m H L cs vs K|_=>none
 | .bx l,K=>match o with| .box vs=>ahR m H L vs l K|_=>none
 | .own e,K=>match o with| .own e' xs=>ig (.l e) ⟨.l e',xs⟩ fun x=>K [⟨.l e,x⟩]|_=>none
 | .mp e,K=>match o with| .mp e' xs=>ig (.m e) ⟨.m e',xs⟩ fun x=>K [⟨.m e,x⟩]|_=>none
 | .arr e,K=>match o with| .arr e' xs=>ig (.l e) ⟨.l e',xs⟩ fun x=>K [⟨.l e,x⟩]|_=>none
def uG(m mo:Nat)(t:List TV)(H:List TObj)(L:Nat→Option Nat):Nat→List Ed→(List U→Option γ)→Option γ
 |_,[],K=>K []
 |j,.r n s::es,K=>ext m H L s (nth .unk t n) fun us=>uG m mo t H L j es fun us'=>K (us++us')
 |j,.o l h::es,K=>Zn mo H L (nth .dead H l) h fun us=>uG m mo t H L j es fun us'=>K (us++us')
 |j,.w h::es,K=>match L j with
  |some l=>Zn mo H L (nth .dead H l) h fun us=>uG m mo t H L (j+1) es fun us'=>K (us++us')
  |none=>match h with
   | .own e=>bif Nat.ble 2 m then uG m mo t H L (j+1) es fun us'=>K (⟨.l e,[]⟩::us')else none
   | .arr e=>bif Nat.ble 2 m then uG m mo t H L (j+1) es fun us'=>K (⟨.l e,[]⟩::us')else none
   |_=>none
end
mutual
def Ry(n:Nat):TV→Bool
 | .ptr l _=>Nat.blt l n
 | .mapr l=>Nat.blt l n
 | .own l=>Nat.blt l n
 | .psl l _ _=>Nat.blt l n
 | .ap l _ _ _=>Nat.blt l n
 | .eptr cs=>eY n cs
 | .agg cs=>eY n cs
 | .tup cs=>eY n cs
 | .func _ cs=>eY n cs
 | .unk=>true| .nilp=>true| .nilF=>true| .nils=>true| .lf _ _=>true| .nat _=>true
def eY(n:Nat):List TV→Bool
 |[]=>true
 |v::vs=>Ry n v&&eY n vs
end
def zU(n:Nat):List TObj→Bool
 |[]=>true
 |o::os=>(match o with| .box cs=>eY n cs| .res=>false|_=>true)&&zU n os
def dz(n:Nat):List Nat→List Nat→List Ed→Bool
 |_,_,[]=>true
 |ss,os,.r k _::es=>!(mem ss k)&&dz n (k::ss) os es
 |ss,os,.o l _::es=>Nat.blt l n&&(!(mem os l)&&dz n ss (l::os) es)
 |ss,os,.w _::es=>dz n ss os es
def Sy(l:Nat):List Ed→Bool
 |[]=>false
 | .o l' h::es=>(Nat.beq l l'&&(match h with| .dead=>true|_=>false)) ||Sy l es
 |_::es=>Sy l es
def adH(n len:Nat)(L:Nat→Option Nat)(eds:List Ed):Nat→Nat→List Nat→Bool
 |_,0,_=>true
 |j,c+1,seen=>match L j with
  |none=>adH n len L eds (j+1) c seen
  |some l=>Nat.blt l len&&(!(mem seen l)&&((Nat.ble n l ||Sy l eds)&&adH n len L eds (j+1) c (l::seen)))
def LJ(n N:Nat)(m:List (Nat×Nat))(j:Nat):Option Nat:=bif Nat.blt j n then some j else bif Nat.blt j N then asc m j else none
@[reducible] def RT(pe:Option (List Ed))(R:Type):Type:=match pe with
 |none=>R
 |some eds=>PZ R (fU (aY eds))
def RT.el{R δ:Type}:(pe:Option (List Ed))→(R→Option δ)→((eds:List Ed)→Int→fU (aY eds)→Option δ)→RT pe R→Option δ
 |none,f,_=>f
 |some eds,f,g=>PZ.el f (g eds)
def RT.ok{R:Type}:(pe:Option (List Ed))→Option R→Option (RT pe R)
 |none,o=>o
 |some _,o=>o.map PZ.ok
structure Ent where
 f:Nat
 na:Nat
 ps:List Ed
 nr:Nat
 rs:List Ed
 R:Type
 pe:Option (List Ed)
 g:Option (fU (aY ps)→Bool)
 F:fU (aY ps)→Option (RT pe R)
 out:R→fU (aY rs)
def bQ(n:Nat):List TV:=List.replicate n .unk
def bg(n:Nat):Nat:=n
def res1:List TV→TV
 |[v]=>v
 |vs=>.tup vs
def iK(l:List Nat)(n:Nat):Nat:=nth 0 l n
def rng(k:Nat):Nat→List Nat
 |0=>[]
 |n+1=>k::rng (k+1) n
def Ch(f:Nat→Option Nat)(i:Nat):Nat→List Nat
 |0=>[]
 |n+1=>match f i with
  |some l=>l::Ch f (i+1) n
  |none=>Ch f (i+1) n
def nodupB:List Nat→Bool
 |[]=>true
 |x::xs=>bif mem xs x then false else nodupB xs
section
variable {γ:Type}
def wrB(l:Nat)(cs:List TV):List (Nat×Sk)→(List TWr→Option γ)→Option γ
 |[],K=>K []
 |p::ps,K=>splitK 99 cs p.1 fun _ b=>splitK 99 b (pO p.2) fun c _=>wrB l cs ps fun ws=>K (.st l p.1 c::ws)
def Am(ρ:List Nat)(h:List TObj):Nat→Nat→List Ed→(List TWr→Option γ)→Option γ
 |_,_,[],K=>K []
 |k,j,.o l hd::es,K=>match hd with
  | .bx is=>match nth .dead h l with
   | .box cs=>wrB (iK ρ l) cs is fun ws=>Am ρ h k j es fun ws'=>K (ws++ws')
   |_=>none
  | .dead=>Am ρ h k j es fun ws=>K (.kill (iK ρ l)::ws)
  |_=>Am ρ h k j es fun ws=>K (.ob (iK ρ l) (nth .dead h l)::ws)
 |k,j,.w _::es,K=>Am ρ h (k+1) (j+1) es fun ws=>K (.nw k (nth .dead h j)::ws)
 |k,j,.r _ _::es,K=>Am ρ h k j es K
end
def aex(H:List TObj)(k:Nat):Nat→Bool
 |0=>true
 |n+1=>iq (nth .dead H k)&&aex H (k+1) n
mutual
def MG(n:Nat)(ds:List Nat):Sk→Bool
 | .ptr l _=>Nat.blt l n&&!(mem ds l)
 | .mapr l=>Nat.blt l n&&!(mem ds l)
 | .own l=>Nat.blt l n&&!(mem ds l)
 | .psl l _=>Nat.blt l n&&!(mem ds l)
 | .eptr cs=>rJ n ds cs
 | .agg cs=>rJ n ds cs
 | .tup cs=>rJ n ds cs
 | .func _ cs=>rJ n ds cs
 | .unk=>true| .nilp=>true| .nilF=>true| .nils=>true| .k _=>true| .lf _=>true
def rJ(n:Nat)(ds:List Nat):List Sk→Bool
 |[]=>true
 |s::ss=>MG n ds s&&rJ n ds ss
end
def ZF(n:Nat)(ds:List Nat):HO→Bool
 | .box cs=>rJ n ds cs
 | .bx is=>is.all fun p=>MG n ds p.2
 |_=>true
def killed:List Ed→List Nat
 |[]=>[]
 | .o l hd::es=>(match hd with| .dead=>[l]|_=>[])++killed es
 |_::es=>killed es
def aiP:HO→Bool
 | .box _=>true
 | .mp _=>true
 |_=>false
def ape:HO→Bool
 | .box _=>true
 |_=>false
def kinds:List Ed→List HO
 |[]=>[]
 | .w h::es=>h::kinds es
 |_::es=>kinds es
def aix(is:List (Nat×Sk)):Nat→List Sk→List Sk
 |_,[]=>[]
 |q,s::ss=>(bif Nat.beq (pO s) 1&&mem (is.flatMap fun p=>rng (p.1+1) (pO p.2)) (q+1)then .unk else s)::aix is (q+pO s) ss
def wW(j:Nat):List Ed→Option HO
 |[]=>none
 | .o l h::es=>bif Nat.beq l j then some h else wW j es
 | .r _ _::es=>wW j es
 | .w _::es=>wW j es
def Z9(n:Nat)(rs:List Ed)(j:Nat):HO→Bool
 | .box cs=>rJ n [] cs&&(match wW j rs with
  |none=>rJ n (killed rs) cs
  |some (.bx is)=>rJ n (killed rs) (aix is 0 cs)
  |some _=>true)
 | .dead=>false
 | .bx _=>false
 |_=>true
def Hw(np:Nat)(rs:List Ed):Nat→List Ed→Bool
 |_,[]=>true
 |j,.r _ s::es=>MG np [] s&&Hw np rs j es
 |j,.w h::es=>Z9 np rs j h&&Hw np rs (j+1) es
 |_,.o _ _::_=>false
def tZ(n:Nat)(ds:List Nat)(ks:List HO):List Ed→Bool
 |[]=>true
 | .r _ s::es=>MG n ds s&&tZ n ds ks es
 | .w h::es=>(match h with| .dead=>false| .bx _=>false|h=>ZF n ds h)&&tZ n ds ks es
 | .o l h::es=>(match h with| .dead=>true| .own _=>false| .arr _=>false| .bx is=>ZF n ds (.bx is)&&ape (nth .dead ks l)|h=>ZF n ds h&&aiP (nth .dead ks l))&&tZ n ds ks es
def gF:List Ed→List Nat
 |[]=>[]
 | .r n _::es=>n::gF es
 |_::es=>gF es
def ahm(l:List Nat):Nat→Bool
 |0=>true
 |n+1=>mem l n&&ahm l n
def Aj(e:Ent):Bool:=
 ((ahm (gF e.ps) e.na&&(gF e.ps).all fun k=>Nat.blt k e.na)&&(dz 0 [] [] e.ps&&(dz (aC e.ps) [] [] e.rs&&(Hw (aC e.ps) e.rs 0 e.ps&&tZ (aC e.ps+aC e.rs) (killed e.rs) (kinds e.ps) e.rs))))&&(match e.pe with
  |none=>true
  |some eds=>(gF eds).isEmpty&&(dz (aC e.ps) [] [] eds&&(Hw (aC e.ps) eds 0 e.ps&&tZ (aC e.ps+aC eds) (killed eds) (kinds e.ps) eds)))
section
variable {γ:Type}
def acj(H:List TObj)(k:Nat)(vs:List TV)(e:Ent)(K:Nat→List Nat→List TWr→TV→Option γ)(X:Nat→List Nat→List TWr→Int→Option γ):Option γ:=
 let np:=aC e.ps
 let nn:=aC e.rs
 let L:=LJ 0 np (Fj vs H 0 e.ps [])
 let ρ:=Ch L 0 np
 bif Nat.beq (List.length vs) e.na&&(Nat.beq ρ.length np&&(nodupB ρ&&aex H k nn))then
  uG 1 0 vs H L 0 e.ps fun us=>tq (aY e.ps) us fun x=>(e.F x).bind fun r=>RT.el e.pe (fun y=>
   GI (iK (ρ++rng k nn)) e.ps us (bQ e.na) [] fun _ h=>GI (iK (ρ++rng k nn)) e.rs (dG _ (e.out y)) (bQ e.nr) h fun r h'=>Am ρ h' k np e.rs fun ws=>K nn (ρ++rng k nn) ws (res1 r)) (fun eds v z=>bif aex H k (aC eds)then
    GI (iK (ρ++rng k (aC eds))) e.ps us (bQ e.na) [] fun _ h=>GI (iK (ρ++rng k (aC eds))) eds (dG _ z) (bQ 0) h fun _ h'=>Am ρ h' k np eds fun ws=>X (aC eds) (ρ++rng k (aC eds)) ws v else none) r
 else none
def ar1(H:List TObj)(vs:List TV)(e:Ent):Bool:=Nat.beq (List.length vs) e.na&&(uG 1 0 vs H (LJ 0 (aC e.ps) (Fj vs H 0 e.ps [])) 0 e.ps (fun _=>some ())).isSome
def gdE(H:List TObj)(vs:List TV)(e:Ent)(A B:Option γ):Option γ:=match e.g with
 |none=>A
 |some g=>uG 1 0 vs H (LJ 0 (aC e.ps) (Fj vs H 0 e.ps [])) 0 e.ps fun us=>tq (aY e.ps) us fun x=>cond (g x) A B
def apu(fid:Nat):List Ent→Bool
 |[]=>false
 |e::es=>Nat.beq e.f fid ||apu fid es
def ahz(H:List TObj)(k fid:Nat)(vs:List TV)(E:List Ent)(K:Nat→List Nat→List TWr→TV→Option γ)(X:Nat→List Nat→List TWr→Int→Option γ):Option γ:=
 List.rec (motive:=fun _=>Option γ) none (fun e r ih=>bif Nat.beq e.f fid&&(bif apu fid r then ar1 H vs e else true)then gdE H vs e (acj H k vs e K X) ih else ih) E
end
end
end
section
open Go
noncomputable section
structure DS where
 t:List TV
 h:List TObj
 d:List Nat
 o:List (Nat×Nat)
 up:List Nat
 rl:List (Nat×Nat×Nat)
 cp:List (Nat×Nat)
 oo:List (Nat×Nat)
inductive Hn where
 |jn (eds:List Ed) (lr:Bool)
 |lp (hd:List Ed) (e:Nat) (ex:List Ed)
 |fz (ls:List Nat)
 |ct (l b off:Nat)
 |ca (l b off:Nat)
 |fa (ls:List Nat)
structure Cfg where
 τ:Nat→TI
 θ:Nat→Option ET
 n:Nat
 R:Type
 hs:List (Nat×Hn)
 m:Nat
 te:Nat
 pn:Int→DS→Option R
mutual
def oK(l:Nat):TV→Bool
 | .ptr l' _=>!(Nat.beq l' l)
 | .mapr l'=>!(Nat.beq l' l)
 | .own l'=>!(Nat.beq l' l)
 | .psl l' _ _=>!(Nat.beq l' l)
 | .ap l' _ _ _=>!(Nat.beq l' l)
 | .eptr cs=>lD l cs
 | .agg cs=>lD l cs
 | .tup cs=>lD l cs
 | .func _ cs=>lD l cs
 | .unk=>true| .nilp=>true| .nilF=>true| .nils=>true| .lf _ _=>true| .nat _=>true
def lD(l:Nat):List TV→Bool
 |[]=>true
 |v::vs=>oK l v&&lD l vs
end
def aja(H:List TObj)(cs:List TV):Option (Decl×List Decl):=IX H false 60 (.t .dec) cs fun u r=>match r with
 |[.lf (.f .dec) xs]=>ig (.t .dec) u fun x=>some (x,xs)
 |[.nilp]=>ig (.t .dec) u fun x=>some (x,[])
 |_=>none
def Q7(H:List TObj)(l:Nat):Nat→TV
 |0=>match nth .dead H l with
  | .box cs=>bif lD l cs then(match aja H cs with
   |some p=>.lf (.f .dec) (p.1::p.2)
   |none=>.eptr cs)else .unk
  |_=>.unk
 |_+1=>.unk
def ah5(H:List TObj)(l:Nat):TV:=match nth .dead H l with
 | .own e xs=>.lf (.l e) xs
 |_=>.unk
def ah0(H:List TObj)(l z:Nat):Option Nat→TV
 |none=>match nth .dead H l with
  | .arr e xs=>bif Qg e z then .lf (.l e) xs else .unk
  |_=>.unk
 |some _=>.unk
mutual
def eB(H:List TObj)(l:Nat):TV→TV
 | .ptr l' o=>bif Nat.beq l' l then Q7 H l o else .ptr l' o
 | .mapr l'=>bif Nat.beq l' l then .unk else .mapr l'
 | .own l'=>bif Nat.beq l' l then ah5 H l else .own l'
 | .psl l' z c=>bif Nat.beq l' l then ah0 H l z c else .psl l' z c
 | .ap l' i z o=>bif Nat.beq l' l then .unk else .ap l' i z o
 | .eptr cs=>.eptr (jA H l cs)
 | .agg cs=>.agg (jA H l cs)
 | .tup cs=>.tup (jA H l cs)
 | .func f cs=>.func f (jA H l cs)
 | .unk=>.unk| .nilp=>.nilp| .nilF=>.nilF| .nils=>.nils| .lf t x=>.lf t x| .nat n=>.nat n
def jA(H:List TObj)(l:Nat):List TV→List TV
 |[]=>[]
 |v::vs=>eB H l v::jA H l vs
end
def QN(H:List TObj)(l:Nat):TObj→TObj
 | .box cs=>.box (jA H l cs)
 | .res=>.dead
 |o=>o
def oZ(H:List TObj)(l:Nat):Nat→List TObj→List TObj
 |_,[]=>[]
 |i,o::os=>(bif Nat.beq i l then .dead else QN H l o)::oZ H l (i+1) os
def Rx(l:Nat):Nat→List TV→List Nat
 |_,[]=>[]
 |k,v::vs=>bif oK l v then Rx l (k+1) vs else k::Rx l (k+1) vs
def Gy(l:Nat):Nat→List TObj→List (Nat×Nat)
 |_,[]=>[]
 |i,o::os=>match o with
  | .box cs=>bif lD l cs then Gy l (i+1) os else(i,0)::Gy l (i+1) os
  |_=>Gy l (i+1) os
def D5(l:Nat)(s:DS):DS:=⟨jA s.h l s.t,oZ s.h l 0 s.h,Rx l 0 s.t++s.d,(l,0)::(Gy l 0 s.h++s.o),s.up,s.rl,s.cp,s.oo⟩
def hint(hs:List (Nat×Hn))(p:Nat):Option Hn:=match hs with
 |[]=>none
 |x::r=>bif Nat.beq x.1 p then some x.2 else hint r p
section
variable {γ:Type}
def plainO:TObj→Bool
 | .box _=>true
 | .mp _ _=>true
 | .dead=>true
 |_=>false
mutual
def ab1(l:Nat):TV→Bool
 | .own l'=>Nat.beq l l'
 | .psl l' _ _=>Nat.beq l l'
 | .eptr cs=>iD l cs
 | .agg cs=>iD l cs
 | .tup cs=>iD l cs
 | .func _ cs=>iD l cs
 | .unk=>false| .nilp=>false| .nilF=>false| .nils=>false| .lf _ _=>false| .nat _=>false| .ptr _ _=>false| .mapr _=>false| .ap _ _ _ _=>false
def iD(l:Nat):List TV→Bool
 |[]=>false
 |v::vs=>ab1 l v ||iD l vs
end
def Lb(l:Nat):List TObj→Bool
 |[]=>false
 |o::os=>(match o with| .box cs=>iD l cs|_=>false) ||Lb l os
def fV(v:TV)(K:TV→Option γ):Option γ:=match v with
 | .lf t x=>K (.lf t x)
 |v=>K v
def al9{α:Type}(l:List α):Nat→α→(List α→Option γ)→Option γ:=
 List.rec (motive:=fun _=>Nat→α→(List α→Option γ)→Option γ) (fun _ _ _=>none) (fun x xs ih n v K=>Nat.rec (motive:=fun _=>Option γ) (K (v::xs)) (fun m _=>ih m v fun ys=>K (x::ys)) n) l
def vP:List TWr→DS→(DS→Option γ)→Option γ
 |[],s,K=>K s
 | .sl n v::ws,s,K=>fV v fun v=>al9 s.t n v fun t=>vP ws ⟨t,s.h,n::s.d,s.o,s.up.filter fun i=>!(Nat.beq i n),s.rl.filter fun p=>!(Nat.beq p.1 n ||(Nat.beq p.2.1 n ||Nat.beq p.2.2 n)),s.cp.filter fun p=>!(Nat.beq p.1 n ||Nat.beq p.2 n),s.oo⟩ K
 | .ob l o::ws,s,K=>bif plainO o&&plainO (nth .dead s.h l)then qW s.h l o fun h=>vP ws {s with h:=h,o:=(l,0)::s.o} K else none
 | .st l off vs::ws,s,K=>match nth .dead s.h l with
  | .box cs=>nT cs off vs fun cs=>qW s.h l (.box cs) fun h=>vP ws {s with h:=h,o:=(rng (off+1) (widths vs)).map (fun q=>(l,q))++s.o} K
  |_=>none
 | .kill l::ws,s,K=>match nth .dead s.h l with
  | .own e xs=>qW s.h l (.gone e xs) fun h=>vP ws {s with h:=h,o:=(l,0)::s.o} K
  | .arr _ xs=>qW s.h l (.gon xs.length) fun h=>vP ws {s with h:=h,o:=(l,0)::s.o} K
  | .box _=>qW s.h l .dead fun h=>vP ws {s with h:=h,o:=(l,0)::s.o} K
  | .mp _ _=>qW s.h l .dead fun h=>vP ws {s with h:=h,o:=(l,0)::s.o} K
  |_=>none
 | .nw l o::ws,s,K=>bif iq (nth .dead s.h l)&&(plainO o ||!(iD l s.t ||Lb l s.h))then qW s.h l o fun h=>vP ws {s with h:=h,o:=(l,0)::s.o} K else none
 | .up l i e y::ws,s,K=>match nth .dead s.h l with
  | .arr e' xs=>match ET.eq? e e' with
   |some ⟨q⟩=>qW s.h l (.arr e' (upd xs i (q▸y))) fun h=>vP ws {s with h:=h,o:=(l,0)::s.o} K
   |none=>none
  |_=>none
def erase:List TWr→List Wr
 |[]=>[]
 | .sl n _::ws=>.slot n .unk::erase ws
 | .ob l _::ws=>.obj l .dead::erase ws
 | .st l _ _::ws=>.obj l .dead::erase ws
 | .kill l::ws=>.obj l .dead::erase ws
 | .nw l _::ws=>.obj l .dead::erase ws
 | .up l _ _ _::ws=>.obj l .dead::erase ws
def ru(o:Oper)(s:DS):DS:=match o.op,o.dst with
 | .binOp .lss _ (.tmp i) (.tmp j) _,some d=>bif Nat.beq d i ||Nat.beq d j then s else{s with rl:=(d,i,j)::s.rl}
 | .move (.tmp x),some d=>bif Nat.beq d x then s else{s with cp:=(d,x)::s.cp,up:=bif mem s.up x then d::s.up else s.up}
 |_,_=>s
def opK(τ:Nat→TI)(θ:Nat→Option ET)(E:List Ent)(px:List Eff→Nat→Eff→DS→Int→DS→Option γ)(ops:List Oper)(o:Oper)(go:Nat→List Eff→DS→Option γ)(k:Nat)(es:List Eff)(s:DS):Option γ:=
 match gu o.op with
 |some (f,args)=>match dF s.t f with
  | .func fid caps=>ahz s.h k fid (args.toList.map (dF s.t)++caps) E (fun nn ρ ws v=>vP (ws++dA o.dst v) s fun s=>go (k+nn) (⟨aJ ops.toArray o,ρ,ρ.map (fun l=>.obj l .dead)++erase (dA o.dst v)⟩::es) s) (fun nn ρ ws c=>vP ws s fun s1=>px es (k+nn) ⟨aJ ops.toArray o,ρ,ρ.map (fun l=>.obj l .dead)⟩ s c s1)
  |_=>none
 |none=>bL τ θ s.up k o.dst s.t s.h o.op fun rd ws=>vP ws s fun s1=>go (k+eu o.op) (⟨aJ ops.toArray o,rd,erase ws⟩::es) (ru o s1)
def gdK(ops:List Oper)(o:Oper)(s:DS)(A B:DS→Option γ):Option γ:=
 match o.guard with
 |none=>A s
 |some (j,want)=>match(ops[j]?).bind (·.dst)with
  |none=>none
  |some d=>match nth .unk s.t d with
   | .lf .b b=>bif want then cond b (qW s.t d (.lf .b true) fun t=>A {s with t:=t}) (qW s.t d (.lf .b false) fun t=>B {s with t:=t})else cond b (qW s.t d (.lf .b true) fun t=>B {s with t:=t}) (qW s.t d (.lf .b false) fun t=>A {s with t:=t})
   | .tup []=>B s
   |_=>none
def Kh(τ:Nat→TI)(θ:Nat→Option ET)(E:List Ent)(px:List Eff→Nat→Eff→DS→Int→DS→Option γ)(ops:List Oper)(l:List Oper):Nat→List Eff→DS→(List Eff→DS→Option γ)→Option γ:=
 List.rec (motive:=fun _=>Nat→List Eff→DS→(List Eff→DS→Option γ)→Option γ) (fun _ es s K=>K es.reverse s)
  (fun o _ ih k es s K=>gdK ops o s (opK τ θ E px ops o (fun k es s=>ih k es s K) k es) fun s=>vP (dA o.dst (.tup [])) s fun s=>ih k (⟨aJ ops.toArray o,[],erase (dA o.dst (.tup []))⟩::es) s K) l
def Lr(τ:Nat→TI)(θ:Nat→Option ET)(ops:List Oper)(bl:Nat→Bool)(l:List Oper):Nat→Nat→List Eff→DS→(List Eff→Option γ)→Option γ:=
 List.rec (motive:=fun _=>Nat→Nat→List Eff→DS→(List Eff→Option γ)→Option γ) (fun _ _ es _ K=>K es.reverse)
  (fun o _ ih q k es s K=>bif bl q then ih (q+1) k (fG::es) s K else match o.guard,gu o.op with
   |none,none=>bL τ θ s.up k o.dst s.t s.h o.op fun rd ws=>vP ws s fun s1=>ih (q+1) (k+eu o.op) (⟨aJ ops.toArray o,rd,erase ws⟩::es) (ru o s1) K
   |_,_=>none) l
def akF(ops:List Oper)(n q:Nat)(es:List Eff)(h:List TObj):Bool:=
 fC ops es&&((h.drop n).all iq&&(List.range es.length).all fun i=>Nat.beq i q ||((dV (es.getD i fG).ws).all fun l=>Nat.ble n l ||(Nat.blt i q&&((ku ops []).getD q []).contains i)))
def G6(n:Nat)(s:DS):DS:=⟨s.t,s.h.take n++List.replicate (s.h.length - n) .dead,s.d,s.o,[],[],[],s.oo⟩
def pxD(τ:Nat→TI)(θ:Nat→Option ET)(draw:Bool)(ops:List Oper)(n:Nat)(K:Int→DS→Option γ)(es:List Eff)(k:Nat)(ep:Eff)(s:DS)(v:Int)(s':DS):Option γ:=
 bif draw then Lr τ θ ops (fun q=>((ku ops []).getD q []).contains es.length) (ops.drop (es.length+1)) (es.length+1) k [] s fun late=>bif akF ops n es.length (es.reverse++ep::late) s'.h then K v (G6 n s')else none
 else K v s'
def rR:List Oper→Nat
 |[]=>0
 |o::l=>(match gu o.op with
  |some _=>5
  |none=>eu o.op)+rR l
def qV:Nat→List TObj
 |0=>[]
 |n+1=>.res::qV n
def Yi(l:List TObj):Nat→(List TObj→Option γ)→Option γ:=
 List.rec (motive:=fun _=>Nat→(List TObj→Option γ)→Option γ) (fun _ K=>K []) (fun o _ ih n K=>Nat.rec (motive:=fun _=>Option γ) (ih 0 fun r=>match r with
  |[]=>bif iq o then K []else K [o]
  |x::xs=>K (o::x::xs)) (fun n _=>ih n fun r=>K (o::r)) n) l
def BK{α:Type}:List α→Nat→(Nat→Option γ)→Option γ
 |[],n,K=>K n
 |_::l,n,K=>BK l (n+1) K
def alh:List Oper→List Nat
 |[]=>[]
 |o::l=>match o.dst with
  |some d=>d::alh l
  |none=>alh l
def kg:Code→List Nat
 | .region _ ops _=>alh ops.toList
 | .seq a b=>kg a++kg b
 | .cond _ a b=>kg a++kg b
 | .block _ a=>kg a
 | .loop a=>kg a
 |_=>[]
def ahW:List Nat→List Nat→Bool
 |[],_=>true
 |x::xs,l=>mem l x&&ahW xs l
def QA(H:List TObj):List Ed→List (Nat×Nat)
 |[]=>[]
 | .o l h::es=>(match h with
  | .bx is=>match nth .dead H l with
   | .box _=>is.flatMap fun p=>(rng (p.1+1) (pO p.2)).map fun q=>(l,q)
   |_=>[(l,0)]
  |_=>[(l,0)])++QA H es
 |_::es=>QA H es
def cov:List Ed→Nat→Nat→Bool
 |[],_,_=>false
 | .o l h::es,l',q=>(Nat.beq l l'&&(match h with| .bx is=>mem (is.flatMap fun p=>rng (p.1+1) (pO p.2)) q|_=>true)) ||cov es l' q
 |_::es,l',q=>cov es l' q
def ahI(l:List Nat):List TV→(List TV→Option γ)→Option γ:=List.rec (motive:=fun _=>List TV→(List TV→Option γ)→Option γ) (fun t K=>K t) (fun n _ ih t K=>qW t n .unk fun t=>ih t K) l
def BM(a:List Nat)(eds:List Ed)(s:DS)(us:List U)(K:DS→Option γ):Option γ:=
 let b:=a++gF eds
 ahI b s.t fun t=>GI bg eds us t s.h fun t h=>K ⟨t,h,b++s.d,QA h eds++s.o,s.up.filter fun i=>!(mem b i),[],[],s.oo⟩
def acn(n:Nat)(o:List (Nat×Nat))(es:List Ed):Bool:=o.all fun x=>Nat.ble n x.1 ||cov es x.1 x.2
def xH(eds:List Ed)(s:DS)(K:Option γ):Option γ:=BK s.h 0 fun n=>bif eY n s.t&&(zU n s.h&&dz n [] [] eds)then K else none
def aeo(n:Nat)(eds:List Ed)(t:List TV)(h:List TObj)(K:List U→Option γ):Option γ:=
 BK h 0 fun n'=>let L:=LJ n (n+aC eds) (Fj t h n eds []);bif adH n n' L eds n (aC eds) []then uG 2 2 t h L n eds K else none
def zY(a:List Nat)(eds:List Ed)(s s':DS)(K:List U→Option γ):Option γ:=
 BK s.h 0 fun n=>bif ahW s'.d (a++gF eds)&&acn n s'.o eds then aeo n eds s'.t s'.h K else none
def fresh(s:DS):DS:={s with d:=[],o:=[],oo:=s.o++s.oo}
def aek(m:Nat):List Nat→DS→(DS→Option γ)→Option γ
 |[],s,K=>K s
 |l::ls,s,K=>BK s.h 0 fun n=>bif Nat.ble m l&&(Nat.blt l n&&(eY n s.t&&zU n s.h))then aek m ls (D5 l s) K else none
def Oa(l:Nat):List TV→List TV
 |[]=>[]
 |v::vs=>(bif oK l v then v else .unk)::Oa l vs
def ctK(l b off:Nat)(s:DS)(K:DS→Option γ):Option γ:=match nth .dead s.h l,nth .dead s.h b with
 | .arr e xs,.box cs=>splitK 99 cs off fun a r=>match r with
  | .psl l' z (some c)::r=>BK s.h 0 fun n=>bif (Nat.beq l' l&&(lD l a&&lD l r))&&((Gy l 0 s.h).all (fun p=>Nat.beq p.1 b)&&(eY n s.t&&zU n s.h))then
    bif Nat.ble c xs.length then qW s.h l (.arr e (xs.take c)) fun h=>qW h b (.box (a++ .psl l z none::r)) fun h=>K ⟨Oa l s.t,h,Rx l 0 s.t++s.d,(l,0)::(b,off+1)::s.o,s.up,s.rl,s.cp,s.oo⟩else none
   else none
  |_=>none
 |_,_=>none
def fzH(m:Nat)(h:Option Hn)(s:DS)(K:DS→Option γ):Option γ:=match h with
 |some (.fz ls)=>aek m ls s K
 |some (.ct l b off)=>ctK l b off s K
 |_=>K s
def fzA(m:Nat)(h:Option Hn)(s:DS)(K:DS→Option γ):Option γ:=match h with
 |some (.ca l b off)=>ctK l b off s K
 |some (.fa ls)=>aek m ls s K
 |_=>K s
def sel{α:Type}(f:α→Bool)(g:α→Nat):List α→List Nat
 |[]=>[]
 |x::l=>bif f x then g x::sel f g l else sel f g l
def D8(x:Operand)(s:DS):DS:=match x with
 | .tmp d=>let u:=sel (fun p=>Nat.beq p.1 d) (fun p=>p.2.1) s.rl
  let u:=sel (fun p=>mem u p.1) (fun p=>p.2) s.cp++u
  let u:=sel (fun p=>mem u p.2) (fun p=>p.1) s.cp++u
  {s with up:=u++s.up}
 |_=>s
end
abbrev ExT(R:Type):Type 1:=(γ:Type)→Nat→DS→(R→Option γ)→(Exit→DS→Option γ)→Option γ
def Zh(te:Nat)(t:List TV):List Oper→Option Int
 |[o1,o2]=>match o1.op,o1.dst,o1.guard with
  | .makeInterface t' (.const (.int .i64 e)),some d,none=>match o2.op,o2.dst,o2.guard with
   | .panic (.tmp d'),none,none=>bif Nat.beq t' te&&(Nat.beq d d'&&Nat.blt d t.length)then some e else none
   |_,_,_=>none
  |_,_,_=>none
 |_=>none
def exe(c:Cfg)(E:List Ent)(ret:DS→Option c.R)(code:Code):ExT c.R:=
 Code.rec (motive:=fun _=>ExT c.R)
  (skip:=fun _ _ s _ k=>k .normal s)
  (region:=fun _ ops draw _ p s inj k=>fzH c.m (hint c.hs p) s fun s=>match Zh c.te s.t ops.toList with
   |some e=>bif draw then none else(c.pn e s).bind inj
   |none=>BK s.h 0 fun n=>Kh c.τ c.θ E (pxD c.τ c.θ draw ops.toList n fun v s=>(c.pn v s).bind inj) ops.toList ops.toList n [] {s with h:=s.h++qV (rR ops.toList)} fun es s=>bif !draw ||fC ops.toList es then Yi s.h n fun h=>fzA c.m (hint c.hs p) {s with h:=h} fun s=>k .normal s else none)
  (seq:=fun a _ iha ihb γ p s inj k=>match hint c.hs p with
   |some (.jn eds true)=>xH eds s <| Option.bind (iha (LR (fU (aY eds)) c.R) (2*p) (fresh s) (fun r=>some (.rt r)) fun e s'=>match e with
     | .normal=>zY (kg a) eds s s' fun us=>tq (aY eds) us fun x=>some (.nx x)
     |_=>none) (LR.el (fun x=>BM (kg a) eds s (dG (aY eds) x) fun s=>ihb γ (2*p+1) s inj k) (fun r=>inj r))
   |some (.jn eds false)=>xH eds s <| Option.bind (iha (fU (aY eds)) (2*p) (fresh s) (fun _=>none) fun e s'=>match e with
     | .normal=>zY (kg a) eds s s' fun us=>tq (aY eds) us fun x=>some x
     |_=>none) fun x=>BM (kg a) eds s (dG (aY eds) x) fun s=>ihb γ (2*p+1) s inj k
   |_=>iha γ (2*p) s inj fun e s=>match e with
    | .normal=>ihb γ (2*p+1) s inj k
    |e=>k e s)
  (cond:=fun x _ _ iha ihb γ p s inj k=>match dF s.t x with
   | .lf .b b=>cond b (iha γ (2*p) (D8 x s) inj k) (ihb γ (2*p+1) s inj k)
   |_=>none)
  (block:=fun id _ ih γ p s inj k=>ih γ (2*p) s inj fun e s=>match e with
   | .exit id'=>bif Nat.beq id' id then k .normal s else k (.exit id') s
   |e=>k e s)
  (loop:=fun a ih γ p s inj k=>match hint c.hs p with
   |some (.lp hd e ex)=>xH hd s <| xH ex s <| zY (kg a) hd s (fresh s) fun us=>tq (aY hd) us fun x0=>
     Option.bind (aV (δ:=LR (fU (aY ex)) c.R) (fun rec x=>BM (kg a) hd (fresh s) (dG (aY hd) x) fun s1=>ih (LR (fU (aY ex)) c.R) (2*p) s1 (fun r=>some (.rt r)) fun e' s'=>match e' with
      | .normal=>zY (kg a) hd s s' fun us=>tq (aY hd) us rec
      | .exit id=>bif Nat.beq id e then zY (kg a) ex s s' fun us=>tq (aY ex) us fun y=>some (.nx y)else none
      |_=>none) c.n x0) (LR.el (fun y=>BM (kg a) ex s (dG (aY ex) y) fun s=>k (.exit e) s) (fun r=>inj r))
   |_=>none)
  (rangeFunc:=fun _ _ _ _ _ _ _ _ _ _ _=>none)
  (exit:=fun id _ _ s _ k=>k (.exit id) s)
  (scope:=fun _ _ _ _ _ _ _=>none)
  (label:=fun _ _ _ _ _ _=>none)
  (goto:=fun _ _ _ _ _ _=>none)
  (ret:=fun _ p s inj _=>fzH c.m (hint c.hs p) s fun s=>(ret s).bind inj)
  (refuse:=fun _ _ _ _ _ _=>none)
  code
def Yg{γ:Type}(τ:Nat→TI)(s:DS):List ResultVar→(List TV→Option γ)→Option γ
 |[],K=>K []
 | .tmp t::r,K=>Yg τ s r fun vs=>K (nth .unk s.t t::vs)
 | .cell a t::r,K=>match nth .unk s.t a with
  | .ptr l off=>match nth .dead s.h l with
   | .box cs=>Xr τ t off cs fun v=>Yg τ s r fun vs=>K (v::vs)
   |_=>none
  |_=>none
def yB{R:Type}(τ:Nat→TI)(m:Nat)(rvs:List ResultVar)(rs:List Ed)(inn:fU (aY rs)→Option R)(s:DS):Option R:=
 Yg τ s rvs fun vs=>bif acn m (s.o++s.oo) rs then aeo m rs vs s.h fun us=>tq (aY rs) us inn else none
def Ns{R:Type}(m:Nat):(pe:Option (List Ed))→Int→DS→Option (RT pe R)
 |none,_,_=>none
 |some eds,v,s=>bif acn m (s.o++s.oo) eds then aeo m eds [] s.h fun us=>tq (aY eds) us fun z=>some (.er v z)else none
def adg(τ:Nat→TI)(θ:Nat→Option ET)(n:Nat)(hs:List (Nat×Hn))(E:List Ent)(te:Nat)(fn:Func)(e:Ent)(inn:fU (aY e.rs)→Option e.R)(x:fU (aY e.ps)):Option (RT e.pe e.R):=
 match fn.body with
 |none=>none
 |some c=>GI bg e.ps (dG (aY e.ps) x) (List.replicate fn.ntmps (.tup [])) [] fun t h=>
  exe ⟨τ,θ,n,RT e.pe e.R,hs,aC e.ps,te,Ns (aC e.ps) e.pe⟩ E (fun s=>RT.ok e.pe (yB τ (aC e.ps) fn.results.toList e.rs inn s)) c _ 1 ⟨t,h,[],[],[],[],[],[]⟩ some fun x s=>match x with
   | .normal=>RT.ok e.pe (yB τ (aC e.ps) fn.results.toList e.rs inn s)
   |_=>none
end
end
section
open Go
def QU(a b:Str):Bool:=decide (a≤b)
def slices_Clone_int(_:Nat)(p0:List Int):Option (List Int):=app 8 ([]:List Int) p0
def jY(_:Nat)(p0:List (Str×Bool)):Option (List Str):=if p0.length*16≤140737488355328 then some ((p0.map (·.1)).mergeSort QU)else none
def ZB(_:Nat)(_:List (Str×Bool)):Option Unit:=some ()
end
section
open Go
def Ie(_:Nat):Option Bool:=some true
end
section
open Go
structure S_api_Sequent where
 env:Env
 hyps:List Tm
 goal:Tm
def fK(_:Nat)(p0:List Str):Option (List Str):=app 16 ([]:List Str) p0
def iV(_:Nat)(p0:S_api_Sequent):Option (List Tm):=bif decide (p0.hyps.length≤100000)then some (p0.hyps++[p0.goal])else none
def Ju(s:Str):List Str→Option Nat
 |[]=>none
 |x::X=>bif x==s then some 0 else(Ju s X).map (·+1)
def lastB(s:Str)(l:List Str):Int:=match Ju s l.reverse with
 |some i=>(l.length:Int) - 1 - i
 |none=> -1
def oN(_:Nat)(l:List Str)(s:Str):Option Int:=bif decide (l.length≤100000)then some (lastB s l)else none
end
end Abs
end Go.Proofs.YtbijdmihdagfaaaGreatDoor
