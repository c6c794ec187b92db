/-
  Laws for walks that go along with a plain function: starts, ends, calls, loops, elements, appends. Conditions: none; lemmas over any program.
-/
import Derived.Lib.Bytealg
import Derived.Test.YtkopaeklihhdlaaGreatCAbs30ox736067
set_option linter.all false
namespace Go.Proofs.YtkopaeklihhdlaaGreat
namespace Abs
section
open Go
theorem ob{α β:Type}{x:Option α}{k:α→Option β}{r:β}(h:x.bind k=some r):∃a,x=some a∧k a=some r:=by
 cases x with
 |none=>cases h
 |some a=>exact⟨a,rfl,h⟩
inductive LR(σ ρ:Type) where
 |nx (s:σ)
 |rt (r:ρ)
def LR.on{σ ρ:Type}(k:σ→Option ρ):LR σ ρ→Option ρ
 | .nx s=>k s
 | .rt r=>some r
@[reducible] def LR.el{σ ρ β:Type}(k:σ→β)(j:ρ→β):LR σ ρ→β
 | .nx s=>k s
 | .rt r=>j r
def idx{α:Type}(l:List α)(i:Int):Option α:=if 0≤i then l[i.toNat]? else none
def app{α:Type}(b:Nat)(l ys:List α):Option (List α):=if(l.length+ys.length)*b≤140737488355328∧l.length+ys.length≤140737488355328 then some (l++ys)else none
def jS(s:List UInt8)(i:Int):Option Int:=if 0≤i∧i<s.length then some ((s.getD i.toNat 0).toNat:Int)else none
def gQ{α:Type}(s:List α)(lo hi:Int):Option (List α):=if 0≤lo∧lo≤hi∧hi≤s.length then some ((s.drop lo.toNat).take (hi.toNat - lo.toNat))else none
theorem bT{n:Int}(h1: -9223372036854775808≤n)(h2:n≤9223372036854775807):n=IntKind.wrap .i64 n:=by
 simp only[IntKind.wrap,IntKind.signed,IntKind.bits];simp;omega
theorem fP{n:Int}(h:VF (.int .i64 n)): -9223372036854775808≤n∧n≤9223372036854775807:=h
theorem mO{α:Type}{f:α→List AV}{l:List α}{t:Tag}(h:VF (.slice (l.map f) t)):(l.length:Int)≤9223372036854775807:=by
 have:(l.map f).length≤9223372036854775807:=h
 grind
theorem vfs{s:List UInt8}(h:VF (.str s)):(s.length:Int)≤9223372036854775807:=by
 have:s.length≤9223372036854775807:=h;omega
theorem aD{α:Type}{c:Bool}{X Y:Option α}{r:α}{A B:Prop}(h:_root_.cond c X Y=some r)(h1:c=true→X=some r→A)(h2:c=false→Y=some r→B):iI c A B:=by
 cases c
 ·exact h2 rfl h
 ·exact h1 rfl h
theorem AW.aK{α:Type}{P:Program}{m:Nat}{c:Operand}{x y:Code}{Q:QT}{t:List AV}{h:List AObj}{b:Bool}{X Y:Option α}{r:α}(hc:bC t c=.bool b)(hh:_root_.cond b X Y=some r)
  (h1:b=true→X=some r→AW P m x Q t h) (h2:b=false→Y=some r→AW P m y Q t h):AW P m (.cond c x y) Q t h:=
 AW.cond hc (fun e=>h1 e (by subst e;exact hh)) (fun e=>h2 e (by subst e;exact hh))
theorem bf{α:Type}{l:List α}{f:α→List AV}{x:α}{i:Int}{sz:Nat}{B:List AV→Prop}{cs:List AV}(hx:idx l i=some x)(hc:f x=cs)(hz:cs.length=sz)(hk:B cs):∃c,(l.map f)[i.toNat]? =some c∧0≤i∧c.length=sz∧B c:=by
 unfold idx at hx
 grind
theorem aY{α:Type}{l:List α}{f:α→List AV}{K:Int→Prop}(h:K l.length):∃n,n=((l.map f).length:Int)∧K n:=by grind
theorem DR{s:List UInt8}{i x:Int}{B:Int→Prop}(hx:jS s i=some x)(hk:B x):∃x:Int,(0≤i∧i<s.length)∧x=(s.getD i.toNat 0).toNat∧B x:=by
 unfold jS at hx
 grind
inductive Bd:Option AV→Int→Int→Prop where
 |none (d:Int):Bd none d d
 |int (k:IntKind) (n d:Int):Bd (some (.int k n)) n d
theorem abq{s x:List UInt8}{lo hi:Option AV}{a b:Int}{B:List UInt8→Prop}(hx:gQ s a b=some x)(ha:Bd lo a 0)(hb:Bd hi b s.length)(hk:B x):∃r,(∃l h,eB hi s.length s.length=some h∧eB lo 0 h=some l∧r=(s.drop l).take (h - l))∧B r:=by
 unfold gQ at hx;split at hx
 ·rename_i h0;cases hx;refine⟨_,⟨a.toNat,b.toNat,?_,?_,rfl⟩,hk⟩
  ·cases hb with
   |none=>simp[eB]
   |int k n=>simp[eB];omega
  ·cases ha with
   |none=>simp[eB]
   |int k n=>simp[eB];omega
 ·cases hx
theorem M9{α:Type}{l x:List α}{f:α→List AV}{sz:Nat}{lo hi:Option AV}{a b:Int}{B:List (List AV)→Prop}(hx:gQ l a b=some x)(ha:Bd lo a 0)(hb:Bd hi b l.length)(hf:∀x,bX sz (f x)=true)(hk:B (x.map f)):
  ∃r,(∃i h,eB hi (l.map f).length (l.map f).length=some h∧eB lo 0 h=some i∧(i<(l.map f).length→((l.map f).getD i []).length=sz)∧r=((l.map f).drop i).take (h - i))∧B r:=by
 unfold gQ at hx;split at hx
 ·rename_i h0;cases hx;refine⟨_,⟨a.toNat,b.toNat,?_,?_,?_,?_⟩,hk⟩
  ·cases hb with
   |none=>simp[eB]
   |int k n=>simp[eB];omega
  ·cases ha with
   |none=>simp[eB]
   |int k n=>simp[eB];omega
  ·intro hi;rw[qAo]at hi;have:=hf l[a.toNat];simp only[bX]at this
   grind
  simp_all
 ·cases hx
theorem En{α:Type}{l ys r:List α}{b:Nat}(h:app b l ys=some r):(l.length+ys.length)*b≤140737488355328∧l.length+ys.length≤140737488355328∧r=l++ys:=by
 unfold app at h
 grind
theorem xQ{α:Type}{f:α→List AV}{sz:Nat}(hf:∀x,bX sz (f x)=true)(l:List α):(l.map f).all (bX sz)=true:=by grind
theorem jA{α:Type}{l ys r:List α}{f:α→List AV}{b sz n:Nat}{es es':List (List AV)}{K:List (List AV)→Nat→Prop}(h:app b l ys=some r)(hf:∀x,bX sz (f x)=true)(he:es=l.map f)(he':es'=ys.map f)(hn:n=l.length*sz)
  (hK:K (r.map f) (r.length*sz)):akN n es es' sz b (Ze (es++es') fun r=>∃n,n=(es++es').length*sz∧K r n):=by
 obtain⟨h1,h2,rfl⟩:=En h;subst he;subst he';refine⟨⟨by rw[qAo];exact hn,by simp;exact h1,by simp;exact h2,xQ hf _,xQ hf _⟩,(l++ys).map f,by simp,(l++ys).length*sz,by simp,hK⟩
abbrev u2(l:List AV):List AV:=.unk:: .unk::l
abbrev u4(l:List AV):List AV:=u2 (u2 l)
abbrev u8(l:List AV):List AV:=u4 (u4 l)
abbrev u16(l:List AV):List AV:=u8 (u8 l)
abbrev u32(l:List AV):List AV:=u16 (u16 l)
abbrev u64(l:List AV):List AV:=u32 (u32 l)
section
variable {h:List AObj}{L:List (Option Nat)}{xs ys:List AV}
theorem VWs.u2{a b:AV}(hv:VWs h L xs ys):VWs h L (Abs.u2 xs) (a::b::ys):=.cons (.unk _) (.cons (.unk _) hv)
theorem VWs.u4{a0 a1 a2 a3:AV}(hv:VWs h L xs ys):VWs h L (Abs.u4 xs) (a0::a1::a2::a3::ys):=.u2 (.u2 hv)
theorem VWs.u8{a0 a1 a2 a3 a4 a5 a6 a7:AV}(hv:VWs h L xs ys):VWs h L (Abs.u8 xs) (a0::a1::a2::a3::a4::a5::a6::a7::ys):=.u4 (.u4 hv)
theorem VWs.u16{a0 a1 a2 a3 a4 a5 a6 a7 a8 a9 a10 a11 a12 a13 a14 a15:AV}(hv:VWs h L xs ys):VWs h L (Abs.u16 xs) (a0::a1::a2::a3::a4::a5::a6::a7::a8::a9::a10::a11::a12::a13::a14::a15::ys):=.u8 (.u8 hv)
theorem VWs.u32{a0 a1 a2 a3 a4 a5 a6 a7 a8 a9 a10 a11 a12 a13 a14 a15 a16 a17 a18 a19 a20 a21 a22 a23 a24 a25 a26 a27 a28 a29 a30 a31:AV}(hv:VWs h L xs ys):VWs h L (Abs.u32 xs) (a0::a1::a2::a3::a4::a5::a6::a7::a8::a9::a10::a11::a12::a13::a14::a15::a16::a17::a18::a19::a20::a21::a22::a23::a24::a25::a26::a27::a28::a29::a30::a31::ys):=.u16 (.u16 hv)
theorem VWs.u64{a0 a1 a2 a3 a4 a5 a6 a7 a8 a9 a10 a11 a12 a13 a14 a15 a16 a17 a18 a19 a20 a21 a22 a23 a24 a25 a26 a27 a28 a29 a30 a31 a32 a33 a34 a35 a36 a37 a38 a39 a40 a41 a42 a43 a44 a45 a46 a47 a48 a49 a50 a51 a52 a53 a54 a55 a56 a57 a58 a59 a60 a61 a62 a63:AV}(hv:VWs h L xs ys):VWs h L (Abs.u64 xs) (a0::a1::a2::a3::a4::a5::a6::a7::a8::a9::a10::a11::a12::a13::a14::a15::a16::a17::a18::a19::a20::a21::a22::a23::a24::a25::a26::a27::a28::a29::a30::a31::a32::a33::a34::a35::a36::a37::a38::a39::a40::a41::a42::a43::a44::a45::a46::a47::a48::a49::a50::a51::a52::a53::a54::a55::a56::a57::a58::a59::a60::a61::a62::a63::ys):=.u32 (.u32 hv)
end
theorem aA{P:Program}{f:Nat}{fn:Func}{c:Code}{args:List AV}{H H':List AObj}{res:AV}(wk:Bool)(hf:P.funcs[f]? =some fn)(hb:fn.body=some c)(hlen:args.length≤fn.ntmps)
  (h:∀Q:QT,(∀e t h,apx P fn.results.toList wk H res H' e t h→Q e t h)→∀t,Cu fn.ntmps args (fun u=>t=u)→AW P H.length c Q t H):ak P f args H res H':=by
 refine aiJ wk hf hb hlen ?_;exact h _ (fun _ _ _ h=>h) _ (by unfold Cu;rw[rC])
theorem aF{P:Program}{τ:Nat→TI}{rs:List ResultVar}{wk:Bool}{res:AV}{t:List AV}{h:List AObj}(hτ:τ=TI.of P)(hr:∀g,ren g res=res)(hq:resT τ t h rs fun xs=>R9 (wh wk xs) fun v=>Ends v res):XH P rs wk [] res [] t h:=by
 subst hτ;obtain⟨xs,h1,h2⟩:=GN _ _ hq;rw[ER]at h2;exact .inl ⟨[],xs,h1,by rw[hr];exact h2,by simp,rfl,by simp,fun i hi=>(by cases hi),fun l hl=>(by cases hl),fun i l hi=>by simp at hi⟩
inductive RetOs(g:Nat→Nat)(h:List AObj):List Nat→List AObj→Prop where
 |nil:RetOs g h [] []
 |cons {l:Nat} {o:AObj} {ls:List Nat} {os:List AObj}:bN g o=obj? h l→RetOs g h ls os→RetOs g h (l::ls) (o::os)
theorem RetOs.len{g:Nat→Nat}{h:List AObj}{ls:List Nat}{os:List AObj}(hv:RetOs g h ls os):os.length=ls.length:=by
 induction hv with
 |nil=>rfl
 |cons _ _ ih=>simp[ih]
theorem RetOs.get{g:Nat→Nat}{h:List AObj}{ls:List Nat}{os:List AObj}(hv:RetOs g h ls os):∀i l,ls[i]? =some l→obj? h l=bN g (obj? os i):=by
 induction hv with
 |nil=>intro i l hi;simp at hi
 |cons h1 _ ih=>intro i l hi;cases i with
  |zero=>simp at hi;subst hi;exact h1.symm
  |succ i=>exact ih i l (by simpa using hi)
def amx(n m:Nat)(L:List Nat):Bool:=decide L.Nodup&&decide (n≤L.length)&&(List.range n).all (fun i=>L[i]? ==some i)&&L.all (fun l=>decide (l<m))
theorem dI{P:Program}{τ:Nat→TI}{rs:List ResultVar}{wk:Bool}{H H':List AObj}{res:AV}{t:List AV}{h:List AObj}(hτ:τ=TI.of P)(L:List Nat)(hL:amx H.length h.length L=true)(hO:RetOs (nm L h.length) h L H')
  (hq:resT τ t h rs fun xs=>R9 (wh wk xs) fun v=>Ends v (ren (nm L h.length) res)):∃L,zU P rs wk L H res H' ⟨t,h⟩:=by
 subst hτ;obtain⟨xs,h1,h2⟩:=GN _ _ hq;rw[ER]at h2;simp only[amx,qAd,qAC,decide_eq_true_eq]at hL;obtain⟨⟨⟨q1,q2⟩,q3⟩,q4⟩:=hL;exact⟨L,xs,h1,h2,q1,hO.len,q2,fun i hi=>by simpa using q3 i (by simpa using hi),q4,hO.get⟩
theorem jf{P:Program}{rs:List ResultVar}{wk:Bool}{H H':List AObj}{res:AV}{t:List AV}{h:List AObj}(t':List AV)(h':List AObj)(hw:Le H.length t h t' h')(hq:∃L,zU P rs wk L H res H' ⟨t',h'⟩):XH P rs wk H res H' t h:=.inr ⟨t',h',hw,hq⟩
theorem ak.args{P:Program}{f:Nat}{args args':List AV}{H H':List AObj}{res:AV}(hc:ak P f args H res H')(hs:SWs args' args):ak P f args' H res H':=
 fun κ aN w vs hen hl hr=>hc κ aN w vs hen (hl.trans hs.len) fun j hj=>(hs.get j).rel (hr j (by rw[hs.len];exact hj))
inductive PassO(g:Nat→Nat)(h:List AObj):List Nat→List AObj→Prop where
 |nil:PassO g h [] []
 |cons {l:Nat} {o:AObj} {ls:List Nat} {os:List AObj}:bN g o=obj? h l→PassO g h ls os→PassO g h (l::ls) (o::os)
theorem PassO.len{g:Nat→Nat}{h:List AObj}{ls:List Nat}{os:List AObj}(hv:PassO g h ls os):os.length=ls.length:=by
 induction hv with
 |nil=>rfl
 |cons _ _ ih=>simp[ih]
theorem PassO.get{g:Nat→Nat}{h:List AObj}{ls:List Nat}{os:List AObj}(hv:PassO g h ls os):∀i l,ls[i]? =some l→obj? h l=bN g (obj? os i):=by
 induction hv with
 |nil=>intro i l hi;simp at hi
 |cons h1 _ ih=>intro i l hi;cases i with
  |zero=>simp at hi;subst hi;exact h1.symm
  |succ i=>exact ih i l (by simpa using hi)
def aj4(h:List AObj)(ρ ks:List Nat)(n:Nat):Bool:=decide (ρ++ks).Nodup&&ρ.all (fun l=>decide (l<h.length))&&ks.all (fun l=>dA (obj? h l))&&decide (n=(ρ++ks).length)
def MI(g:Nat→Nat):List AObj→List AObj
 |[]=>[]
 |o::os=>bN g o::MI g os
theorem aag(g:Nat→Nat):∀os,MI g os=os.map (bN g)
 |[]=>rfl
 |o::os=>by simp[MI,aag g os]
theorem fC{g:Nat→Nat}{o o':AObj}{os os':List AObj}(h1:bN g o=o')(h2:MI g os=os'):MI g (o::os)=o'::os':=by simp only[MI,h1,h2]
theorem dP{P:Program}{f:Nat}{args:List AV}{dst:Option Tmp}{t:List AV}{h:List AObj}{k:Nat}{K:Nat→List Nat→List Wr→Prop}(ρ ks:List Nat)(aargs an:List AV){H H':List AObj}{res rn:AV}{Hn:List AObj}
  (hc:ak P f aargs H res H') (hok:aZ P f=true) (hp:aj4 h ρ ks H'.length=true) (hO:PassO (nm (ρ++ks) h.length) h ρ H) (ha:bD (nm (ρ++ks) h.length) aargs=an) (hs:SWs args an)
  (hr:ren (nm (ρ++ks) h.length) res=rn) (hH:MI (nm (ρ++ks) h.length) H'=Hn) (hK:K (k+ks.length) (ρ++ks) (kM (ρ++ks) Hn++aI dst rn)):ACallU P f args dst t h k K:=by
 simp only[aj4,qAd,qAC,decide_eq_true_eq]at hp;obtain⟨⟨⟨q1,q2⟩,q3⟩,q4⟩:=hp;refine⟨⟨hok,ρ,ks,aargs,H,res,H',⟨q1,hO.len,q2,q3,hO.get⟩,q4,by rw[←uX,ha];exact hs,hc,?_⟩⟩;rw[hr,←aag,hH];exact hK
theorem au{P:Program}{f:Nat}{args:List AV}{dst:Option Tmp}{t:List AV}{h:List AObj}{k:Nat}{K:Nat→List Nat→List Wr→Prop}{aargs:List AV}{res:AV}
  (hc:ak P f aargs [] res []) (hok:aZ P f=true) (hs:SWs args aargs) (ha:∀g,bD g aargs=aargs) (hr:∀g,ren g res=res) (hK:K k [] (aI dst res)):ACallU P f args dst t h k K:=by
 refine⟨⟨hok,[],[],aargs,[],res,[],⟨by simp,rfl,fun l hl=>(by cases hl),fun l hl=>(by cases hl),fun i l hi=>by simp at hi⟩,rfl,by rw[←uX,ha];exact hs,hc,?_⟩⟩;simp only[hr];exact hK
theorem AW.loopS{σ ρ:Type}{P:Program}{m:Nat}{c:Code}{Q:QT}{t:List AV}{h:List AObj}(L:Nat→σ→Option ρ)(tT:σ→List AV)(tH:σ→List AObj){out:ρ}{n:Nat}{s0:σ}(h0:L n s0=some out)(hz:∀s,L 0 s=none)
  (hw0:Le m t h (tT s0) (tH s0))
  (round:∀n s,L (n+1) s=some out→∀K:List AV→List AObj→Prop,(∀t' h' s',L n s'=some out→Le m t' h' (tT s') (tH s')→K t' h')→AW P m c (OB K Q) (tT s) (tH s)):AW P m (.loop c) Q t h:=by
 refine AW.loop (fun n t h=>∃s,L n s=some out∧Le m t h (tT s) (tH s)) (n:=n) ⟨s0,h0,hw0⟩ ?_;rintro n t h ⟨s,hs,hw⟩;refine AW.le hw ?_;cases n with
 |zero=>rw[hz]at hs;cases hs
 |succ n=>exact round n s hs _ fun t' h' s' g1 g2=>⟨n,by omega,s',g1,g2⟩
end
section
open Go
structure Carrier where
 name:Str
 elems:List Str
structure Decl where
 name:Str
 ty:Ty
structure Env where
 carriers:List Carrier
 names:List Decl
def encI(n:Int):List AV:=[.int .i64 n]
def encS(s:Str):List AV:=[.str s]
def EG(n:Int):List AV:=[.int .u8 n]
def aj(x:Carrier):List AV:=[.str x.name,.slice (x.elems.map encS) .shared]
def aB(x:Decl):List AV:=[.str x.name,.int .i64 x.ty.kind,.str x.ty.name,.slice (x.ty.kids.map aC) .shared]
theorem zQ{α:Type}{f:α→List AV}(hf:∀g x,bD g (f x)=f x)(g:Nat→Nat)(l:List α):bA g (l.map f)=l.map f:=by
 rw[Jz,qBt];exact qBY fun x _=>hf g x
theorem bP(g:Nat→Nat)(l:List Int):bA g (l.map encI)=l.map encI:=zQ (fun _ _=>rfl) g l
theorem dF(g:Nat→Nat)(l:List Int):bA g (l.map EG)=l.map EG:=zQ (fun _ _=>rfl) g l
theorem bS(g:Nat→Nat)(l:List Str):bA g (l.map encS)=l.map encS:=zQ (fun _ _=>rfl) g l
theorem bK(g:Nat→Nat)(l:List Ty):bA g (l.map aC)=l.map aC:=aoq g l
theorem dB(g:Nat→Nat)(l:List Tm):bA g (l.map vv)=l.map vv:=aou g l
theorem aJ(g:Nat→Nat)(l:List Carrier):bA g (l.map aj)=l.map aj:=zQ (fun g x=>by simp only[aj,bD,ren,dK,bS]) g l
theorem aQ(g:Nat→Nat)(l:List Decl):bA g (l.map aB)=l.map aB:=zQ (fun g x=>by simp only[aB,bD,ren,dK,bK]) g l
theorem aqi(g:Nat→Nat)(n:Int):bD g (encI n)=encI n:=rfl
theorem apJ(g:Nat→Nat)(n:Str):bD g (encS n)=encS n:=rfl
theorem anO(g:Nat→Nat)(n:Int):bD g (EG n)=EG n:=rfl
theorem Qb(g:Nat→Nat)(x:Carrier):bD g (aj x)=aj x:=by simp only[aj,bD,ren,dK,bS]
theorem ZE(g:Nat→Nat)(x:Decl):bD g (aB x)=aB x:=by simp only[aB,bD,ren,dK,bK]
theorem Ls(n:Str):bX 1 (encS n)=true:=rfl
def eX{α:Type}(m:List (Str×α))(k:Str):Option α:=(m.find? fun p=>p.1==k).map (·.2)
def ow{α:Type}(m:List (Str×α))(k:Str)(v:α):List (Str×α):=
 match m with
 |[]=>[(k,v)]
 |p::r=>if p.1==k then(k,v)::r else p::ow r k v
def rG{α:Type}(m:List (Str×α))(k:Str)(v:α):Option (List (Str×α)):=if m.length<140737488355328 then some (ow m k v)else none
@[reducible] def KT{α β:Type}(o:Option α)(Y:β)(X:α→β):β:=match o with|some v=>X v|none=>Y
theorem Tf{α:Type}(f:α→AV):∀(m:List (Str×α)) (k:Str),rH (m.map fun p=>(p.1,f p.2)) k=(eX m k).map f
 |[],k=>rfl
 |p::m,k=>by
  have ih:=Tf f m k;unfold rH eX at *;simp only[qAA,qCq];cases h:(p.1==k)
  ·exact ih
  ·rfl
theorem YH{α:Type}(f:α→AV):∀(m:List (Str×α)) (k:Str) (v:α),CK (m.map fun p=>(p.1,f p.2)) k (f v)=(ow m k v).map fun p=>(p.1,f p.2)
 |[],k,v=>rfl
 |p::m,k,v=>by
  simp only[qAA,CK,ow];split
  ·rfl
  ·rw[YH f m k v];rfl
theorem anp{α β:Type}{m:List (Str×α)}{k:Str}{f:α→AV}{A:AV→Prop}{B:Prop}{X:α→Option β}{Y:Option β}{r:β}(h:KT (eX m k) Y X=some r)
  (h1:∀x,eX m k=some x→X x=some r→A (f x)) (h2:eX m k=none→Y=some r→B):(∀v,rH (m.map fun p=>(p.1,f p.2)) k=some v→A v)∧(rH (m.map fun p=>(p.1,f p.2)) k=none→B):=by
 rw[Tf];cases hm:eX m k with
 |none=>rw[hm]at h;exact⟨fun v hv=>(by cases hv),fun _=>h2 hm h⟩
 |some x=>rw[hm]at h;exact⟨fun v hv=>(by cases hv;exact h1 x hm h),fun hv=>(by cases hv)⟩
theorem aiT{α:Type}{m r:List (Str×α)}{k:Str}{f:α→AV}{v:α}{u:AV}{B:List (List UInt8×AV)→Prop}(h:rG m k v=some r)(hu:u=f v)(hB:B (r.map fun p=>(p.1,f p.2))):
  ∃es,(m.map fun p=>(p.1,f p.2)).length<140737488355328∧es=CK (m.map fun p=>(p.1,f p.2)) k u∧B es:=by
 unfold rG at h;split at h
 ·rename_i hl;cases h;exact⟨_,by rw[qAo];exact hl,by rw[hu,YH],hB⟩
 ·cases h
theorem Dz{α:Type}{f:α→AV}(hf:∀g x,ren g (f x)=f x)(g:Nat→Nat)(m:List (Str×α)):(m.map fun p=>(p.1,f p.2)).map (fun p=>(p.1,ren g p.2))=m.map fun p=>(p.1,f p.2):=by
 rw[qBt];exact qBY fun p _=>by simp only[Function.comp,hf]
theorem gK{α:Type}(l:List α):l=l.take l.length:=by simp
theorem Kt{α:Type}{l l' ys r:List α}{f:α→List AV}{b sz:Nat}{K:List (List AV)→Nat→Prop}(h:app b l' ys=some r)(hp:l'=l.take l'.length)(hf:∀x,bX sz (f x)=true)(hK:K (r.map f) r.length):
  (l'.length≤(l.map f).length∧(l'.length+(ys.map f).length)*b≤140737488355328∧l'.length+(ys.map f).length≤140737488355328∧((l.map f).all (bX sz)=true)∧((ys.map f).all (bX sz)=true))∧∃r m,r=(l.map f).take l'.length++ys.map f∧m=r.length∧K r m:=by
 obtain⟨h1,h2,rfl⟩:=En h;have hle:l'.length≤l.length:=by
  have:=congrArg List.length hp;rw[qBd]at this;omega
 refine⟨⟨by simpa using hle,by simpa using h1,by simpa using h2,xQ hf _,xQ hf _⟩,(l'++ys).map f,(l'++ys).length,?_,by simp,hK⟩;rw[←List.map_take,←hp,qBs]
theorem aeb{α:Type}{f:α→List AV}{e e0:List α}{g:Nat→Nat}(hr:∀g (l:List α),bA g (l.map f)=l.map f)(hp:e=e0.take e.length):bA g (e.map f)=(e0.map f).take e.length:=by
 rw[hr,←List.map_take,←hp]
theorem VW.LZ{α:Type}{f:α→List AV}{e e0:List α}{h:List AObj}{L:List (Option Nat)}{l z:Nat}(hr:∀g (l:List α),bA g (l.map f)=l.map f)(hp:e=e0.take e.length)(ho:obj? h l=.arr z (e0.map f))(hn:L.contains (some l)=false):VW h L (.slice (e.map f) .shared) (.psl l z e.length):=by
 have hle:e.length≤e0.length:=by
  have:=congrArg List.length hp;rw[qBd]at this;omega
 exact .ahU ho (fun hm=>by simp[hm]at hn) (by simpa using hle) (aeb hr hp)
theorem OW.arr'{α:Type}{f:α→List AV}{e e0:List α}{h:List AObj}{L:List (Option Nat)}{z:Nat}(hr:∀g (l:List α),bA g (l.map f)=l.map f)(hp:e=e0.take e.length):OW h L (.arr z (e.map f)) (.arr z (e0.map f)):=.arr (aeb hr hp)
theorem bY(g:Nat→Nat)(xs ys:List AV):bD g (xs++ys)=bD g xs++bD g ys:=by simp only[uX,qBs]
def upd{α:Type}(l:List α)(i:Int)(v:α):List α:=l.set i.toNat v
theorem FB{α:Type}{l:List α}{n:Int}{x:α}(h:idx l n=some x):0≤n∧n<(l.length:Int)∧l[n.toNat]? =some x:=by
 unfold idx at h;split at h
 ·rename_i h0;have:=(qAk.1 h).1;exact⟨h0,by omega,h⟩
 ·cases h
theorem ixp{α:Type}{l l0:List α}{n:Int}{x:α}{z:Nat}{B:Nat→Prop}(hx:idx l n=some x)(hl:l0.length=l.length)(hB:B (n.toNat*z)):∃m:Nat,(0≤n∧n<((l0.length:Nat):Int)∧z=z)∧m=n.toNat*z∧B m:=by
 obtain⟨h1,h2,_⟩:=FB hx;exact⟨_,⟨h1,by rw[hl];exact h2,rfl⟩,rfl,hB⟩
theorem ldp{α:Type}{l:List α}{f:α→List AV}{n:Int}{x:α}{z:Nat}{cs:List AV}{B:List AV→Prop}(hx:idx l n=some x)(hf:f x=cs)(hz:0<z)(hB:B cs):∃i cs',n.toNat*z=i*z∧0<z∧(l.map f)[i]? =some cs'∧B cs':=by
 obtain⟨_,_,h3⟩:=FB hx;exact⟨n.toNat,cs,rfl,hz,by rw[qAF,h3,←hf];rfl,hB⟩
theorem stp{α:Type}{l:List α}{f:α→List AV}{n:Int}{x v:α}{z:Nat}{vs:List AV}{B:List (List AV)→Prop}(hx:idx l n=some x)(hv:vs=f v)(hz:0<z)(hB:B ((upd l n v).map f)):∃i r,n.toNat*z=i*z∧0<z∧i<(l.map f).length∧r=(l.map f).set i vs∧B r:=by
 obtain⟨_,h2,_⟩:=FB hx;exact⟨n.toNat,_,rfl,hz,by rw[qAo];omega,by rw[hv,upd,List.map_set],hB⟩
theorem ahP{g:Nat→Nat}{l z n n':Nat}{y:AV}(h:n=n')(h2:ren g (.psl l z n')=y):ren g (.psl l z n)=y:=h▸h2
end
section
open Go
def Wu(a b:Str):Bool:=decide (a≤b)
def nY(_:Nat)(p0:List (Str×Bool)):Option (List Str):=if p0.length*16≤140737488355328 then some ((p0.map (·.1)).mergeSort Wu)else none
def YE(_:Nat)(_:List (Str×Bool)):Option Unit:=some ()
end
section
open Go Go.Proofs
set_option maxRecDepth 100000
set_option maxHeartbeats 40000000
def pW(n:Nat)(p0:Int):Option Bool:=(((cond (decide (97≤p0)) (cond (decide (p0≤122)) (some true) (cond (decide (65≤p0)) (some (decide (p0≤90))) (some false))) (cond (decide (65≤p0)) (some (decide (p0≤90))) (some false))):Option Bool).bind fun(s1:Bool)=>some s1)
def qg(n:Nat)(p0:Str):Option Bool:=(((cond (p0==([116,114,117,101]:Str)) (some (p0==([116,114,117,101]:Str))) (cond (p0==([102,97,108,115,101]:Str)) (some (p0==([102,97,108,115,101]:Str))) (cond (p0==([110,111,116]:Str)) (some (p0==([110,111,116]:Str))) (cond (p0==([111,114]:Str)) (some (p0==([111,114]:Str))) (cond (p0==([102,111,114,97,108,108]:Str)) (some (p0==([102,111,114,97,108,108]:Str))) (cond (p0==([101,120,105,115,116,115]:Str)) (some (p0==([101,120,105,115,116,115]:Str))) (cond (p0==([105,110]:Str)) (some (p0==([105,110]:Str))) (cond (p0==([110,111,116,105,110]:Str)) (some (p0==([110,111,116,105,110]:Str))) (cond (p0==([115,117,98]:Str)) (some (p0==([115,117,98]:Str))) (cond (p0==([109,111,100]:Str)) (some (p0==([109,111,100]:Str))) (cond (p0==([102,117,110]:Str)) (some (p0==([102,117,110]:Str))) (cond (p0==([99,97,114,100]:Str)) (some (p0==([99,97,114,100]:Str))) (cond (p0==([109,105,110]:Str)) (some (p0==([109,105,110]:Str))) (cond (p0==([109,97,120]:Str)) (some (p0==([109,97,120]:Str))) (cond (p0==([100,111,109]:Str)) (some (p0==([100,111,109]:Str))) (cond (p0==([114,97,110]:Str)) (some (p0==([114,97,110]:Str))) (cond (p0==([80,79,87]:Str)) (some (p0==([80,79,87]:Str))) (cond (p0==([105,110,116]:Str)) (some (p0==([105,110,116]:Str))) (cond (p0==([98,111,111,108]:Str)) (some (p0==([98,111,111,108]:Str))) (cond (p0==([115,101,116]:Str)) (some (p0==([115,101,116]:Str))) (some (p0==([112,97,105,114]:Str))))))))))))))))))))))):Option Bool).bind fun(s1:Bool)=>(cond s1 (some true) (some false)))
def wU(n:Nat)(p0:Int):Option Bool:=(((cond (decide (48≤p0)) (some (decide (p0≤57))) (some false)):Option Bool).bind fun(s1:Bool)=>some s1)
def uV(n:Nat)(p0:Int):Option Bool:=((((pW n p0).bind fun(x1:Bool)=>(cond x1 (some true) ((wU n p0).bind fun(x2:Bool)=>(cond x2 (some true) (some (p0==95)))))):Option Bool).bind fun(s1:Bool)=>some s1)
def jJ(n:Nat)(p0:Str):Nat→Int→Option (LR Unit Bool)
 |0,_=>none
 |k+1,s2=>(cond (decide (s2<(p0.length:Int))) ((jS p0 s2).bind fun(x1:Int)=>((uV n x1).bind fun(x2:Bool)=>(cond (!x2) (some (.rt false)) (jJ n p0 k (s2+1))))) (some (.nx ())))
def dw(n:Nat)(p0:Str):Option Bool:=(((cond (p0==([]:Str)) (some true) (cond (decide (16<(p0.length:Int))) (some true) ((jS p0 0).bind fun(x3:Int)=>((pW n x3).bind fun(x4:Bool)=>(cond (!x4) (some true) ((qg n p0).bind fun(x5:Bool)=>some x5)))))):Option Bool).bind fun(s1:Bool)=>(cond s1 (some false) ((jJ n p0 n 0).bind (LR.el (fun(s3:Unit)=>some true) (fun r=>some r)))))
def fZ(n:Nat)(p0:Str)(p1:Str):Option Bool:=(((cond (decide ((p1.length:Int)≤(p0.length:Int))) ((gQ p0 (IntKind.wrap .i64 ((p0.length:Int) - (p1.length:Int))) (p0.length:Int)).bind fun(x1:Str)=>some (x1==p1)) (some false)):Option Bool).bind fun(s1:Bool)=>some s1)
def fJ(n:Nat)(p0:Str)(p1:Str):Option Str:=((fZ n p0 p1).bind fun(x1:Bool)=>(cond x1 ((gQ p0 0 (IntKind.wrap .i64 ((p0.length:Int) - (p1.length:Int)))).bind fun(x2:Str)=>some x2) (some p0)))
def strings_TrimSuffix(n:Nat)(p0:Str)(p1:Str):Option Str:=((fJ n p0 p1).bind fun(x1:Str)=>some x1)
def kI(n:Nat)(p0:Str):Option Bool:=((strings_TrimSuffix n p0 ([39]:Str)).bind fun(x1:Str)=>((dw n x1).bind fun(x2:Bool)=>some x2))
def iV(n:Nat)(p0:Int)(p1:Int)(p2:Int)(p3:Int):Option (Bool×Int):=(((cond (decide ((IntKind.wrap .i64 (p0+1))≤p1)) (some (decide (p3≤p2))) (some false)):Option Bool).bind fun(s1:Bool)=>some (s1,(IntKind.wrap .i64 (p0+1))))
def iB(n:Nat)(qee:(List Ty)→Int→Int→Int→Int→Option (Int×Int))(qd8:(List Ty)→Int→Int→Int→Int→Option (Bool×Int))(qei:Int→Int→Int→Ty→Int→Bool→Option (Bool×Int))(qej:Ty→Int→Int→Int→Int→Option (Bool×Int))(p0:List Ty)(p2:Int)(p3:Int)(p4:Int):Nat→(Int×Int)→Option (LR Int (Int×Int))
 |0,_=>none
 |k+1,s1=>(cond (decide (s1.1<(p0.length:Int))) ((idx p0 s1.1).bind fun(x1:Ty)=>((qej x1 s1.2 p2 p3 p4).bind fun(x2:Bool×Int)=>(cond x2.1 (some (.rt (s1.1,x2.2))) (iB n qee qd8 qei qej p0 p2 p3 p4 k ((s1.1+1),x2.2))))) (some (.nx s1.2)))
def dZ(n:Nat)(qee:(List Ty)→Int→Int→Int→Int→Option (Int×Int))(qd8:(List Ty)→Int→Int→Int→Int→Option (Bool×Int))(qei:Int→Int→Int→Ty→Int→Bool→Option (Bool×Int))(qej:Ty→Int→Int→Int→Int→Option (Bool×Int))(p0:List Ty)(p1:Int)(p2:Int)(p3:Int)(p4:Int):Option (Int×Int):=((iB n qee qd8 qei qej p0 p2 p3 p4 n (0,p1)).bind (LR.el (fun(s2:Int)=>some ((-1),s2)) (fun r=>some r)))
def fD(n:Nat)(qee:(List Ty)→Int→Int→Int→Int→Option (Int×Int))(qd8:(List Ty)→Int→Int→Int→Int→Option (Bool×Int))(qei:Int→Int→Int→Ty→Int→Bool→Option (Bool×Int))(qej:Ty→Int→Int→Int→Int→Option (Bool×Int))(p0:List Ty)(p1:Int)(p2:Int)(p3:Int)(p4:Int):Option (Bool×Int):=((qee p0 p1 p2 p3 p4).bind fun(x1:Int×Int)=>some ((decide (0≤x1.1)),x1.2))
def gJ(n:Nat)(qee:(List Ty)→Int→Int→Int→Int→Option (Int×Int))(qd8:(List Ty)→Int→Int→Int→Int→Option (Bool×Int))(qei:Int→Int→Int→Ty→Int→Bool→Option (Bool×Int))(qej:Ty→Int→Int→Int→Int→Option (Bool×Int))(p0:Int)(p1:Int)(p2:Int)(p3:Ty)(p4:Int)(p5:Bool):Option (Bool×Int):=((iV n p0 p1 p2 p4).bind fun(x1:Bool×Int)=>(cond (!x1.1) (some (false,x1.2)) (((cond (p3.kind==1) (some (.nx 0)) (cond (p3.kind==2) (cond p5 (some (.rt (false,x1.2))) (some (.nx 0))) (cond (p3.kind==3) ((dw n p3.name).bind fun(x3:Bool)=>(cond (!x3) (some (.rt (false,x1.2))) (some (.nx 0)))) (cond (p3.kind==4) (some (.nx 2)) (cond (p3.kind==5) (some (.nx 1)) (some (.rt (false,x1.2)))))))):Option (LR Int (Bool×Int))).bind (LR.el (fun(s1:Int)=>(((cond ((p3.kids.length:Int)!=s1) (some true) (cond (p3.kind !=3) (some (!(p3.name==([]:Str)))) (some false))):Option Bool).bind fun(s2:Bool)=>(cond s2 (some (false,x1.2)) ((qd8 p3.kids x1.2 p1 p2 p4).bind fun(x2:Bool×Int)=>some ((!x2.1),x2.2))))) (fun r=>some r)))))
def fI(n:Nat)(qee:(List Ty)→Int→Int→Int→Int→Option (Int×Int))(qd8:(List Ty)→Int→Int→Int→Int→Option (Bool×Int))(qei:Int→Int→Int→Ty→Int→Bool→Option (Bool×Int))(qej:Ty→Int→Int→Int→Int→Option (Bool×Int))(p0:Ty)(p1:Int)(p2:Int)(p3:Int)(p4:Int):Option (Bool×Int):=((qei p1 p2 p3 p0 (IntKind.wrap .i64 (p4+1)) true).bind fun(x1:Bool×Int)=>some ((!x1.1),x1.2))
mutual
def dx:Nat→(List Ty)→Int→Int→Int→Int→Option (Int×Int)
 |0,_,_,_,_,_=>none
 |n+1,p0,p1,p2,p3,p4=>dZ n (dx n) (bI n) (bO n) (bJ n) p0 p1 p2 p3 p4
def bI:Nat→(List Ty)→Int→Int→Int→Int→Option (Bool×Int)
 |0,_,_,_,_,_=>none
 |n+1,p0,p1,p2,p3,p4=>fD n (dx n) (bI n) (bO n) (bJ n) p0 p1 p2 p3 p4
def bO:Nat→Int→Int→Int→Ty→Int→Bool→Option (Bool×Int)
 |0,_,_,_,_,_,_=>none
 |n+1,p0,p1,p2,p3,p4,p5=>gJ n (dx n) (bI n) (bO n) (bJ n) p0 p1 p2 p3 p4 p5
def bJ:Nat→Ty→Int→Int→Int→Int→Option (Bool×Int)
 |0,_,_,_,_,_=>none
 |n+1,p0,p1,p2,p3,p4=>fI n (dx n) (bI n) (bO n) (bJ n) p0 p1 p2 p3 p4
end
def fA(n:Nat)(p0:Ty):Option Bool:=((bO n 0 16 6 p0 1 false).bind fun(x1:Bool×Int)=>some x1.1)
def gB(n:Nat)(qef:(List Ty)→Int→Option Int)(qd9:(List Ty)→Int→Option Bool)(qen:Ty→Int→Option Bool)(qeo:Ty→Int→Option Bool)(p0:List Ty)(p1:Int):Nat→Int→Option (LR Unit Int)
 |0,_=>none
 |k+1,s1=>(cond (decide (s1<(p0.length:Int))) ((idx p0 s1).bind fun(x1:Ty)=>((qeo x1 p1).bind fun(x2:Bool)=>(cond x2 (some (.rt s1)) (gB n qef qd9 qen qeo p0 p1 k (s1+1))))) (some (.nx ())))
def fH(n:Nat)(qef:(List Ty)→Int→Option Int)(qd9:(List Ty)→Int→Option Bool)(qen:Ty→Int→Option Bool)(qeo:Ty→Int→Option Bool)(p0:List Ty)(p1:Int):Option Int:=((gB n qef qd9 qen qeo p0 p1 n 0).bind (LR.el (fun(s2:Unit)=>some (-1)) (fun r=>some r)))
def eF(n:Nat)(qef:(List Ty)→Int→Option Int)(qd9:(List Ty)→Int→Option Bool)(qen:Ty→Int→Option Bool)(qeo:Ty→Int→Option Bool)(p0:List Ty)(p1:Int):Option Bool:=((qef p0 p1).bind fun(x1:Int)=>some (decide (0≤x1)))
def jO(n:Nat)(qef:(List Ty)→Int→Option Int)(qd9:(List Ty)→Int→Option Bool)(qen:Ty→Int→Option Bool)(qeo:Ty→Int→Option Bool)(p0:Ty)(p1:Int):Option Bool:=(((cond (p0.kind==p1) (some true) ((qd9 p0.kids p1).bind fun(x1:Bool)=>some x1)):Option Bool).bind fun(s1:Bool)=>some s1)
def je(n:Nat)(qef:(List Ty)→Int→Option Int)(qd9:(List Ty)→Int→Option Bool)(qen:Ty→Int→Option Bool)(qeo:Ty→Int→Option Bool)(p0:Ty)(p1:Int):Option Bool:=((qen p0 p1).bind fun(x1:Bool)=>some x1)
mutual
def cZ:Nat→(List Ty)→Int→Option Int
 |0,_,_=>none
 |n+1,p0,p1=>fH n (cZ n) (bM n) (dN n) (dR n) p0 p1
def bM:Nat→(List Ty)→Int→Option Bool
 |0,_,_=>none
 |n+1,p0,p1=>eF n (cZ n) (bM n) (dN n) (dR n) p0 p1
def dN:Nat→Ty→Int→Option Bool
 |0,_,_=>none
 |n+1,p0,p1=>jO n (cZ n) (bM n) (dN n) (dR n) p0 p1
def dR:Nat→Ty→Int→Option Bool
 |0,_,_=>none
 |n+1,p0,p1=>je n (cZ n) (bM n) (dN n) (dR n) p0 p1
end
def gN(n:Nat)(p0:Ty):Option Bool:=((((fA n p0).bind fun(x1:Bool)=>(cond x1 ((dN n p0 2).bind fun(x2:Bool)=>some (!x2)) (some false))):Option Bool).bind fun(s1:Bool)=>some s1)
def ku(n:Nat)(qem:Ty→(List (Str×Bool))→Option (List (Str×Bool)))(p0:Ty):Nat→(Int×(List (Str×Bool)))→Option (LR (List (Str×Bool)) (List (Str×Bool)))
 |0,_=>none
 |k+1,s2=>(cond (decide (s2.1<(p0.kids.length:Int))) ((idx p0.kids s2.1).bind fun(x1:Ty)=>((qem x1 s2.2).bind fun(x2:List (Str×Bool))=>ku n qem p0 k ((s2.1+1),x2))) (some (.nx s2.2)))
def kE(n:Nat)(qem:Ty→(List (Str×Bool))→Option (List (Str×Bool)))(p0:Ty)(p1:List (Str×Bool)):Option (List (Str×Bool)):=(((cond (p0.kind==3) ((rG p1 p0.name true).bind fun(x3:List (Str×Bool))=>some x3) (some p1)):Option (List (Str×Bool))).bind fun(s1:List (Str×Bool))=>((ku n qem p0 n (0,s1)).bind (LR.el (fun(s3:List (Str×Bool))=>some s3) (fun r=>some r))))
def ig:Nat→Ty→(List (Str×Bool))→Option (List (Str×Bool))
 |0,_,_=>none
 |n+1,p0,p1=>kE n (ig n) p0 p1
def iU(n:Nat)(p0:Ty):Option (List Str):=((fA n p0).bind fun(x1:Bool)=>(cond (!x1) (some ([]:List Str)) ((ig n p0 ([]:List (Str×Bool))).bind fun(x2:List (Str×Bool))=>((nY n x2).bind fun(x3:List Str)=>some x3))))
def yw(n:Nat)(p0:Carrier)(p1:Str):Option Bool:=some (p0.name==p1)
def fO(n:Nat)(p0:List Carrier)(p1:Str):Nat→Int→Option (LR Unit Int)
 |0,_=>none
 |k+1,s1=>(cond (decide (s1<(p0.length:Int))) ((idx p0 s1).bind fun(x1:Carrier)=>(cond (x1.name==p1) (some (.rt s1)) (fO n p0 p1 k (s1+1)))) (some (.nx ())))
def jy(n:Nat)(p0:List Carrier)(p1:Str):Option Int:=((fO n p0 p1 n 0).bind (LR.el (fun(s2:Unit)=>some (-1)) (fun r=>some r)))
def iJ(n:Nat)(p0:List Carrier)(p1:Str):Option Bool:=((jy n p0 p1).bind fun(x1:Int)=>some (decide (0≤x1)))
def l8(n:Nat)(p0:Env)(p1:Str):Option Bool:=((iJ n p0.carriers p1).bind fun(x1:Bool)=>some x1)
def lZ(n:Nat)(p0:Str)(p1:List Carrier)(p2:List Decl):Option Bool:=((l8 n (Env.mk p1 p2) p0).bind fun(x1:Bool)=>some (!x1))
def gH(n:Nat)(p0:List Str)(p1:List Carrier)(p2:List Decl):Nat→Int→Option (LR Unit Int)
 |0,_=>none
 |k+1,s1=>(cond (decide (s1<(p0.length:Int))) ((idx p0 s1).bind fun(x1:Str)=>((lZ n x1 p1 p2).bind fun(x2:Bool)=>(cond x2 (some (.rt s1)) (gH n p0 p1 p2 k (s1+1))))) (some (.nx ())))
def jM(n:Nat)(p0:List Str)(p1:List Carrier)(p2:List Decl):Option Int:=((gH n p0 p1 p2 n 0).bind (LR.el (fun(s2:Unit)=>some (-1)) (fun r=>some r)))
def iP(n:Nat)(p0:List Str)(p1:List Carrier)(p2:List Decl):Option Bool:=((jM n p0 p1 p2).bind fun(x1:Int)=>some (decide (0≤x1)))
def iZ(n:Nat)(p0:Env)(p1:Ty):Option Bool:=((iU n p1).bind fun(x1:List Str)=>((iP n x1 p0.carriers p0.names).bind fun(x2:Bool)=>some (!x2)))
def lH(n:Nat)(p0:Env):Nat→((List Str)×Int)→Option (LR (List Str) (List Str))
 |0,_=>none
 |k+1,s1=>(cond (decide (s1.2<(p0.carriers.length:Int))) ((idx p0.carriers s1.2).bind fun(x3:Carrier)=>((app 16 s1.1 ([x3.name])).bind fun(x4:List Str)=>((app 16 x4 x3.elems).bind fun(x5:List Str)=>lH n p0 k (x5,(s1.2+1))))) (some (.nx s1.1)))
def lF(n:Nat)(p0:Env):Nat→((List Str)×Int)→Option (LR (List Str) (List Str))
 |0,_=>none
 |k+1,s3=>(cond (decide (s3.2<(p0.names.length:Int))) ((idx p0.names s3.2).bind fun(x1:Decl)=>((app 16 s3.1 ([x1.name])).bind fun(x2:List Str)=>lF n p0 k (x2,(s3.2+1)))) (some (.nx s3.1)))
def kG(n:Nat)(p0:Env):Option (List Str):=((lH n p0 n (([]:List Str),0)).bind (LR.el (fun(s2:List Str)=>((lF n p0 n (s2,0)).bind (LR.el (fun(s4:List Str)=>some s4) (fun r=>some r)))) (fun r=>some r)))
def lu(n:Nat)(p0:List Str):Nat→(Int×(List (Str×Bool)))→Option (LR Unit Bool)
 |0,_=>none
 |k+1,s1=>(cond (decide (s1.1<(p0.length:Int))) ((idx p0 s1.1).bind fun(x1:Str)=>(((KT (eX s1.2 x1) (some false) (fun(x3:Bool)=>some x3)):Option Bool).bind fun(s3:Bool)=>(cond s3 (some (.rt false)) ((rG s1.2 x1 true).bind fun(x2:List (Str×Bool))=>lu n p0 k ((s1.1+1),x2))))) (some (.nx ())))
def mq(n:Nat)(p0:List Str):Option Bool:=((lu n p0 n (0,([]:List (Str×Bool)))).bind (LR.el (fun(s2:Unit)=>some true) (fun r=>some r)))
def iY(n:Nat)(x7:Carrier):Nat→Int→Option (LR Unit Bool)
 |0,_=>none
 |k+1,s8=>(cond (decide (s8<(x7.elems.length:Int))) ((idx x7.elems s8).bind fun(x8:Str)=>((dw n x8).bind fun(x9:Bool)=>(cond (!x9) (some (.rt false)) (iY n x7 k (s8+1))))) (some (.nx ())))
def lC(n:Nat)(p0:Env):Nat→Int→Option (LR Unit Bool)
 |0,_=>none
 |k+1,s2=>(cond (decide (s2<(p0.carriers.length:Int))) ((idx p0.carriers s2).bind fun(x7:Carrier)=>((((dw n x7.name).bind fun(x10:Bool)=>(cond (!x10) (some true) (some (decide (8<(x7.elems.length:Int)))))):Option Bool).bind fun(s7:Bool)=>(cond s7 (some (.rt false)) ((iY n x7 n 0).bind (LR.el (fun(s9:Unit)=>lC n p0 k (s2+1)) (fun r=>some (.rt r))))))) (some (.nx ())))
def lG(n:Nat)(p0:Env):Nat→Int→Option (LR Unit Bool)
 |0,_=>none
 |k+1,s4=>(cond (decide (s4<(p0.names.length:Int))) ((idx p0.names s4).bind fun(x3:Decl)=>((((kI n x3.name).bind fun(x4:Bool)=>(cond (!x4) (some true) ((gN n x3.ty).bind fun(x5:Bool)=>(cond (!x5) (some true) ((iZ n p0 x3.ty).bind fun(x6:Bool)=>some (!x6)))))):Option Bool).bind fun(s6:Bool)=>(cond s6 (some (.rt false)) (lG n p0 k (s4+1))))) (some (.nx ())))
def dH(n:Nat)(p0:Env):Option Bool:=(((cond (decide (8<(p0.carriers.length:Int))) (some true) (some (decide (64<(p0.names.length:Int))))):Option Bool).bind fun(s1:Bool)=>(cond s1 (some false) ((lC n p0 n 0).bind (LR.el (fun(s3:Unit)=>((lG n p0 n 0).bind (LR.el (fun(s5:Unit)=>((kG n p0).bind fun(x1:List Str)=>((mq n x1).bind fun(x2:Bool)=>some x2))) (fun r=>some r)))) (fun r=>some r)))))
def rO(n:Nat)(p0:Int):Option Bool:=(((cond (decide (97≤p0)) (cond (decide (p0≤122)) (some true) (cond (decide (65≤p0)) (some (decide (p0≤90))) (some false))) (cond (decide (65≤p0)) (some (decide (p0≤90))) (some false))):Option Bool).bind fun(s1:Bool)=>some s1)
def Ig(n:Nat)(p0:Str)(p1:List Str):Nat→Int→Option (LR Unit Bool)
 |0,_=>none
 |k+1,s1=>(cond (decide (s1<(p1.length:Int))) ((idx p1 s1).bind fun(x1:Str)=>(cond (x1==p0) (some (.rt true)) (Ig n p0 p1 k (s1+1)))) (some (.nx ())))
def oU(n:Nat)(p0:Str)(p1:List Str):Option Bool:=((Ig n p0 p1 n 0).bind (LR.el (fun(s2:Unit)=>some false) (fun r=>some r)))
def zD(n:Nat)(p0:Str):Option Bool:=((oU n p0 ([([116,114,117,101]:Str),([102,97,108,115,101]:Str),([110,111,116]:Str),([111,114]:Str),([102,111,114,97,108,108]:Str),([101,120,105,115,116,115]:Str),([105,110]:Str),([110,111,116,105,110]:Str),([115,117,98]:Str),([109,111,100]:Str),([102,117,110]:Str),([99,97,114,100]:Str),([109,105,110]:Str),([109,97,120]:Str),([100,111,109]:Str),([114,97,110]:Str),([80,79,87]:Str),([105,110,116]:Str),([98,111,111,108]:Str),([115,101,116]:Str),([112,97,105,114]:Str)])).bind fun(x1:Bool)=>some x1)
def uP(n:Nat)(p0:Int):Option Bool:=(((cond (decide (48≤p0)) (some (decide (p0≤57))) (some false)):Option Bool).bind fun(s1:Bool)=>some s1)
def pG(n:Nat)(p0:Str):Nat→Int→Option (LR Unit Bool)
 |0,_=>none
 |k+1,s2=>(cond (decide (s2<(p0.length:Int))) ((((jS p0 s2).bind fun(x1:Int)=>((rO n x1).bind fun(x2:Bool)=>(cond (!x2) ((jS p0 s2).bind fun(x3:Int)=>((uP n x3).bind fun(x4:Bool)=>(cond (!x4) ((jS p0 s2).bind fun(x5:Int)=>some (x5 !=95)) (some false)))) (some false)))):Option Bool).bind fun(s4:Bool)=>(cond s4 (some (.rt false)) (pG n p0 k (s2+1)))) (some (.nx ())))
def gy(n:Nat)(p0:Str):Option Bool:=(((cond (decide ((p0.length:Int)<1)) (some true) (cond (decide (16<(p0.length:Int))) (some true) ((jS p0 0).bind fun(x6:Int)=>((rO n x6).bind fun(x7:Bool)=>(cond (!x7) (some true) ((zD n p0).bind fun(x8:Bool)=>some x8)))))):Option Bool).bind fun(s1:Bool)=>(cond s1 (some false) ((pG n p0 n 1).bind (LR.el (fun(s3:Unit)=>some true) (fun r=>some r)))))
def uh(n:Nat)(p0:Str):Option Bool:=(((cond (decide (1<(p0.length:Int))) ((jS p0 ((p0.length:Int) - 1)).bind fun(x1:Int)=>(cond (x1==39) ((gQ p0 0 ((p0.length:Int) - 1)).bind fun(x2:Str)=>((gy n x2).bind fun(x3:Bool)=>some x3)) (some false))) (some false)):Option Bool).bind fun(s1:Bool)=>some s1)
def wZ(n:Nat)(p0:Str):Option Bool:=((((gy n p0).bind fun(x1:Bool)=>(cond x1 (some true) ((uh n p0).bind fun(x2:Bool)=>some x2))):Option Bool).bind fun(s1:Bool)=>some s1)
def uS(n:Nat)(qdd:Ty→Int→Int→Option Int)(p0:Ty)(p1:Int):Nat→(Int×Int)→Option (LR Int Int)
 |0,_=>none
 |k+1,s4=>(cond (decide (s4.2<(p0.kids.length:Int))) ((idx p0.kids s4.2).bind fun(x1:Ty)=>((qdd x1 (IntKind.wrap .i64 (p1+1)) s4.1).bind fun(x2:Int)=>(cond (decide (x2<0)) (some (.rt (-1))) (uS n qdd p0 p1 k (x2,(s4.2+1)))))) (some (.nx s4.1)))
def xK(n:Nat)(qdd:Ty→Int→Int→Option Int)(p0:Ty)(p1:Int)(p2:Int):Option Int:=(((cond (decide (6<p1)) (some true) (cond (decide (16<(IntKind.wrap .i64 (p2+1)))) (some true) (cond (p0.kind==2) (some (decide (1<p1))) (some false)))):Option Bool).bind fun(s1:Bool)=>(cond s1 (some (-1)) (((((cond (p0.kind==1) (some (p0.kind==1)) (cond (p0.kind==2) (some (p0.kind==2)) (some (p0.kind==3)))):Option Bool).bind fun(s6:Bool)=>(cond s6 (some (.nx 0)) (cond (p0.kind==5) (some (.nx 1)) (cond (p0.kind==4) (some (.nx 2)) (some (.rt (-1))))))):Option (LR Int Int)).bind (LR.el (fun(s2:Int)=>(((cond ((p0.kids.length:Int)!=s2) (some true) (cond (p0.kind==3) ((gy n p0.name).bind fun(x3:Bool)=>(cond (!x3) (some true) (cond (p0.kind !=3) (some (!(p0.name==([]:Str)))) (some false)))) (cond (p0.kind !=3) (some (!(p0.name==([]:Str)))) (some false)))):Option Bool).bind fun(s3:Bool)=>(cond s3 (some (-1)) ((uS n qdd p0 p1 n ((IntKind.wrap .i64 (p2+1)),0)).bind (LR.el (fun(s5:Int)=>some s5) (fun r=>some r)))))) (fun r=>some r)))))
def qD:Nat→Ty→Int→Int→Option Int
 |0,_,_,_=>none
 |n+1,p0,p1,p2=>xK n (qD n) p0 p1 p2
def eY(n:Nat)(p0:Ty):Option Bool:=((qD n p0 1 0).bind fun(x1:Int)=>some (decide (0<x1)))
def uj(n:Nat)(qdi:Ty→Option Bool)(p0:Ty):Nat→Int→Option (LR Unit Bool)
 |0,_=>none
 |k+1,s1=>(cond (decide (s1<(p0.kids.length:Int))) ((idx p0.kids s1).bind fun(x1:Ty)=>((qdi x1).bind fun(x2:Bool)=>(cond x2 (some (.rt true)) (uj n qdi p0 k (s1+1))))) (some (.nx ())))
def qP(n:Nat)(qdi:Ty→Option Bool)(p0:Ty):Option Bool:=(cond (p0.kind==2) (some true) ((uj n qdi p0 n 0).bind (LR.el (fun(s2:Unit)=>some false) (fun r=>some r))))
def jT:Nat→Ty→Option Bool
 |0,_=>none
 |n+1,p0=>qP n (jT n) p0
def wD(n:Nat)(qdg:Ty→Option (List Str))(p0:Ty):Nat→((List Str)×Int)→Option (LR (List Str) (List Str))
 |0,_=>none
 |k+1,s1=>(cond (decide (s1.2<(p0.kids.length:Int))) ((idx p0.kids s1.2).bind fun(x1:Ty)=>((qdg x1).bind fun(x2:List Str)=>((app 16 s1.1 x2).bind fun(x3:List Str)=>wD n qdg p0 k (x3,(s1.2+1))))) (some (.nx s1.1)))
def sI(n:Nat)(qdg:Ty→Option (List Str))(p0:Ty):Option (List Str):=(cond (p0.kind==3) (some ([p0.name])) ((wD n qdg p0 n (([]:List Str),0)).bind (LR.el (fun(s2:List Str)=>some s2) (fun r=>some r))))
def nO:Nat→Ty→Option (List Str)
 |0,_=>none
 |n+1,p0=>sI n (nO n) p0
def qU(n:Nat)(p0:Env)(p1:Str):Nat→Int→Option (LR Unit Int)
 |0,_=>none
 |k+1,s1=>(cond (decide (s1<(p0.carriers.length:Int))) ((idx p0.carriers s1).bind fun(x1:Carrier)=>(cond (x1.name==p1) (some (.rt s1)) (qU n p0 p1 k (s1+1)))) (some (.nx ())))
def fT(n:Nat)(p0:Env)(p1:Str):Option Int:=((qU n p0 p1 n 0).bind (LR.el (fun(s2:Unit)=>some (-1)) (fun r=>some r)))
def Af(n:Nat)(p0:Env)(x1:List Str):Nat→Int→Option (LR Unit Bool)
 |0,_=>none
 |k+1,s1=>(cond (decide (s1<(x1.length:Int))) ((idx x1 s1).bind fun(x2:Str)=>((fT n p0 x2).bind fun(x3:Int)=>(cond (decide (x3<0)) (some (.rt false)) (Af n p0 x1 k (s1+1))))) (some (.nx ())))
def pI(n:Nat)(p0:Env)(p1:Ty):Option Bool:=((nO n p1).bind fun(x1:List Str)=>((Af n p0 x1 n 0).bind (LR.el (fun(s2:Unit)=>some true) (fun r=>some r))))
def wE(n:Nat)(p0:Env):Nat→((List Str)×Int)→Option (LR (List Str) (List Str))
 |0,_=>none
 |k+1,s1=>(cond (decide (s1.2<(p0.carriers.length:Int))) ((idx p0.carriers s1.2).bind fun(x5:Carrier)=>((app 16 s1.1 ([x5.name])).bind fun(x6:List Str)=>wE n p0 k (x6,(s1.2+1)))) (some (.nx s1.1)))
def vX(n:Nat)(p0:Env):Nat→((List Str)×Int)→Option (LR (List Str) (List Str))
 |0,_=>none
 |k+1,s3=>(cond (decide (s3.2<(p0.carriers.length:Int))) ((idx p0.carriers s3.2).bind fun(x3:Carrier)=>((app 16 s3.1 x3.elems).bind fun(x4:List Str)=>vX n p0 k (x4,(s3.2+1)))) (some (.nx s3.1)))
def wu(n:Nat)(p0:Env):Nat→((List Str)×Int)→Option (LR (List Str) (List Str))
 |0,_=>none
 |k+1,s5=>(cond (decide (s5.2<(p0.names.length:Int))) ((idx p0.names s5.2).bind fun(x1:Decl)=>((app 16 s5.1 ([x1.name])).bind fun(x2:List Str)=>wu n p0 k (x2,(s5.2+1)))) (some (.nx s5.1)))
def pR(n:Nat)(p0:Env):Option (List Str):=((wE n p0 n (([]:List Str),0)).bind (LR.el (fun(s2:List Str)=>((vX n p0 n (s2,0)).bind (LR.el (fun(s4:List Str)=>((wu n p0 n (s4,0)).bind (LR.el (fun(s6:List Str)=>some s6) (fun r=>some r)))) (fun r=>some r)))) (fun r=>some r)))
def pq(n:Nat)(x10:Carrier):Nat→Int→Option (LR Unit Bool)
 |0,_=>none
 |k+1,s10=>(cond (decide (s10<(x10.elems.length:Int))) ((idx x10.elems s10).bind fun(x11:Str)=>((gy n x11).bind fun(x12:Bool)=>(cond (!x12) (some (.rt false)) (pq n x10 k (s10+1))))) (some (.nx ())))
def vB(n:Nat)(p0:Env):Nat→Int→Option (LR Unit Bool)
 |0,_=>none
 |k+1,s2=>(cond (decide (s2<(p0.carriers.length:Int))) ((idx p0.carriers s2).bind fun(x10:Carrier)=>((((gy n x10.name).bind fun(x13:Bool)=>(cond (!x13) (some true) (some (decide (8<(x10.elems.length:Int)))))):Option Bool).bind fun(s9:Bool)=>(cond s9 (some (.rt false)) ((pq n x10 n 0).bind (LR.el (fun(s11:Unit)=>vB n p0 k (s2+1)) (fun r=>some (.rt r))))))) (some (.nx ())))
def wF(n:Nat)(p0:Env):Nat→Int→Option (LR Unit Bool)
 |0,_=>none
 |k+1,s4=>(cond (decide (s4<(p0.names.length:Int))) ((idx p0.names s4).bind fun(x5:Decl)=>((((wZ n x5.name).bind fun(x6:Bool)=>(cond (!x6) (some true) ((eY n x5.ty).bind fun(x7:Bool)=>(cond (!x7) (some true) ((jT n x5.ty).bind fun(x8:Bool)=>(cond x8 (some true) ((pI n p0 x5.ty).bind fun(x9:Bool)=>some (!x9)))))))):Option Bool).bind fun(s8:Bool)=>(cond s8 (some (.rt false)) (wF n p0 k (s4+1))))) (some (.nx ())))
def rV(n:Nat)(x1:List Str):Nat→Int→Option (LR Unit Bool)
 |0,_=>none
 |k+1,s6=>(cond (decide (s6<(x1.length:Int))) ((idx x1 s6).bind fun(x2:Str)=>((gQ x1 0 s6).bind fun(x3:List Str)=>((oU n x2 x3).bind fun(x4:Bool)=>(cond x4 (some (.rt false)) (rV n x1 k (s6+1)))))) (some (.nx ())))
def jg(n:Nat)(p0:Env):Option Bool:=(((cond (decide (8<(p0.carriers.length:Int))) (some true) (some (decide (64<(p0.names.length:Int))))):Option Bool).bind fun(s1:Bool)=>(cond s1 (some false) ((vB n p0 n 0).bind (LR.el (fun(s3:Unit)=>((wF n p0 n 0).bind (LR.el (fun(s5:Unit)=>((pR n p0).bind fun(x1:List Str)=>((rV n x1 n 0).bind (LR.el (fun(s7:Unit)=>some true) (fun r=>some r))))) (fun r=>some r)))) (fun r=>some r)))))
end
section
open Go
end
section
open Go
inductive Val where
 |mk (kind:Int) (n:Int) (name:Str) (kids:List Val)
def Val.kind:Val→Int| .mk k _ _ _=>k
def Val.n:Val→Int| .mk _ n _ _=>n
def Val.name:Val→Str| .mk _ _ s _=>s
def Val.kids:Val→List Val| .mk _ _ _ ks=>ks
mutual
def ah:Val→List AV
 | .mk k n s ks=>[.int .i64 k,.int .i64 n,.str s,.slice (BG ks) .shared]
def BG:List Val→List (List AV)
 |[]=>[]
 |t::ts=>ah t::BG ts
end
theorem JJ:∀ts,BG ts=ts.map ah
 |[]=>rfl
 |t::ts=>by simp[BG,JJ ts]
theorem aS(t:Val):ah t=[.int .i64 t.kind,.int .i64 t.n,.str t.name,.slice (t.kids.map ah) .shared]:=by
 cases t;simp[ah,JJ,Val.kind,Val.n,Val.name,Val.kids]
mutual
theorem zG(g:Nat→Nat):∀t,bD g (ah t)=ah t
 | .mk k n s ks=>by simp only[ah,bD,ren,dK,JQ g ks]
theorem JQ(g:Nat→Nat):∀ts,bA g (BG ts)=BG ts
 |[]=>rfl
 |t::ts=>by simp only[BG,bA,zG g t,JQ g ts]
end
theorem aH(g:Nat→Nat)(ts:List Val):bA g (ts.map ah)=ts.map ah:=by rw[←JJ];exact JQ g ts
theorem kH(n:Val):bX 4 (ah n)=true:=by rw[aS];rfl
abbrev aVal(t:Val):AV:=.agg [.int .i64 t.kind,.int .i64 t.n,.str t.name,.slice (t.kids.map ah) .shared]
end
section
open Go
def strings_Compare(_:Nat)(a b:Str):Option Int:=some (Lib.compareBytes a b)
def lX(_:Nat):Option Bool:=some true
end
end Abs
end Go.Proofs.YtkopaeklihhdlaaGreat
