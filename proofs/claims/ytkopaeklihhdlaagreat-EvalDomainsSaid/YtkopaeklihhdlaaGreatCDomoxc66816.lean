/-
  The values of a type in a scope, in their order: the plain functions of eval.domain and eval.Domain, by hand. Conditions: none.
-/
import Derived.Test.YtkopaeklihhdlaaGreatProg
import Derived.KernelRfl
import Derived.Shelf.SlGeneric
import Derived.Shelf.SlIter.Nil
import Derived.Shelf.SortM.Plain
import Derived.Shelf.SortM.SortNone
import Derived.Ground.GgzProg
import Derived.Ground.SlgmProg
import Derived.Test.YtkopaeklihhdlaaGreatCDqoxe810a7
set_option linter.all false
namespace Go.Proofs.YtkopaeklihhdlaaGreat
namespace Abs
section
open Go
def Fv:List Val→List Val→List Val
 |_,[]=>[]
 |fs0,v::rest=>(Val.mk 5 0 [] (fs0++[v])::Fv (fs0++[v]) rest)++Fv fs0 rest
def bh(fs0 later:List Val):List Val:=Val.mk 5 0 [] fs0::Fv fs0 later
abbrev tV(b:Bool):Val:=Val.mk 2 (bif b then 1 else 0) [] []
abbrev pV(a b:Val):Val:=Val.mk 4 0 [] [a,b]
section
variable (ix:List Carrier→List Decl→Str→Option Int)(el:Str→Int→Option (List Val))(cs:List Carrier)(ns:List Decl)(sz:List Int)(lo hi:Int)
def BQ:Nat→Ty→Option (List Val)
 |0,_=>none
 |n+1,ty=>
  bif ty.kind==1 then(bif decide (-1000000000≤lo)&&decide (hi≤1000000000)then some ((List.range (hi - lo+1).toNat).map fun(k:Nat)=>Val.mk 1 (lo+(k:Int)) [] [])else none)
  else bif ty.kind==2 then some [tV false,tV true]
  else bif ty.kind==3 then(ix cs ns ty.name).bind fun i=>(Abs.idx sz i).bind fun k=>(el ty.name k).bind fun l=>bif Nat.ble l.length 100000 then some l else none
  else bif ty.kind==4 then(Abs.idx ty.kids 0).bind fun t0=>(BQ n t0).bind fun la=>(Abs.idx ty.kids 1).bind fun t1=>(BQ n t1).bind fun lb=>some (la.flatMap fun a=>lb.map fun b=>pV a b)
  else bif ty.kind==5 then(Abs.idx ty.kids 0).bind fun t0=>(BQ n t0).bind fun l=>bif Nat.ble l.length 100000 then some (bh [] l)else none
  else some []
end
def Zz(f:Val→Option Val):List Val→Option (List Val)
 |[]=>some []
 |v::l=>(f v).bind fun v'=>(Zz f l).bind fun l'=>some (v'::l')
def pX(n:Nat)(p0:Env)(p1:S_api_Scope)(p2:Ty):Option ((List Val)×Int):=
 ((((l9 n p0 p1).bind fun(x2:Bool)=>(cond (!x2) (some true) ((uM n p0 p2).bind fun(x3:Bool)=>some (!x3)))):Option Bool).bind fun(s1:Bool)=>(cond s1 (some (([]:List Val),1)) ((qZ n p0 p1 p2).bind fun(x1:Int)=>(cond (decide (x1<0)) (some (([]:List Val),42))
  ((BQ (fun cs ns nm=>lU n (Env.mk cs ns) nm) (jV n) p0.carriers p0.names p1.sizes p1.lo p1.hi n p2).bind fun(l:List Val)=>bif Nat.ble l.length 100000 then(Zz (dV n) l).bind fun(l':List Val)=>some (l',0)else none)))))
end
section
open Go Go.Proofs
def ti3:TI:=⟨some 1,some false,false,false,false,false,false,some .i64,.no,[],[],some ([.int .i64 0]),some (.int .i64 0),none,none,none⟩
def ti4:TI:=⟨some 1,some false,false,true,false,false,false,none,.no,[],[],some ([.bool false]),some (.bool false),none,none,none⟩
def ti5:TI:=⟨some 1,some false,false,false,false,false,false,some .u8,.no,[],[],some ([.int .u8 0]),some (.int .u8 0),none,none,none⟩
def ti9:TI:=⟨some 1,some false,false,false,true,false,false,none,.no,[],[],some ([.str []]),some (.str []),none,none,none⟩
def atI:TI:=⟨some 1,some false,false,false,false,false,false,none,.no,[],[],some ([.unk]),some (.unk),none,none,none⟩
def ate:TI:=⟨some 1,some false,false,false,false,false,true,none,.sl (some 2),[],[],some ([.slice [] .nils]),some (.slice [] .nils),some 2,some (71,2,40),none⟩
def atY:TI:=⟨some 1,some false,false,false,false,false,true,none,.sl (some 4),[],[],some ([.slice [] .nils]),some (.slice [] .nils),some 4,some (74,4,64),none⟩
def TIs(n:Nat)(s:Bool)(i:IxT)(f:List (Option (Nat×TypeId)))(p:List (Option (Nat×Nat)))(l:List AV):TI:=⟨some n,some true,false,false,false,s,false,none,i,f,p,some l,some (.agg l),none,none,none⟩
def TIc(a b c d:Bool)(k:Option IntKind)(i:IxT)(z:AV)(x:Option Nat)(y:Option (TypeId×Nat×Nat))(s:Option TypeId):TI:=⟨some 1,some false,a,b,c,false,d,k,i,[],[],some [z],some z,x,y,s⟩
def ato:=TIs 2 true .no [some (0,22),some (1,23)] [some (0,1),some (1,1)] ([.slice [] .nils,.slice [] .nils])
def at0:TI:=⟨some 1,some false,false,false,false,false,true,none,.sl (some 1),[],[],some ([.slice [] .nils]),some (.slice [] .nils),some 1,some (3,1,8),none⟩
def atH:TI:=⟨some 1,some false,false,false,false,false,true,none,.sl (some 4),[],[],some ([.slice [] .nils]),some (.slice [] .nils),some 4,some (31,4,56),none⟩
def aud:=TIs 4 true .no [some (0,25),some (2,26),some (3,27)] [some (0,2),some (2,1),some (3,1)] ([.slice [] .nils,.slice [] .nils,.slice [] .nils,.slice [] .nils])
def atX:=TIs 4 true .no [some (0,3),some (1,3),some (2,9),some (3,27)] [some (0,1),some (1,1),some (2,1),some (3,1)] ([.int .i64 0,.int .i64 0,.str [],.slice [] .nils])
def auv:TI:=⟨some 1,some false,false,false,false,false,true,none,.sl (some 3),[],[],some ([.slice [] .nils]),some (.slice [] .nils),some 3,some (34,3,48),none⟩
def atl:=TIs 3 true .no [some (0,3),some (1,9),some (2,32)] [some (0,1),some (1,1),some (2,1)] ([.int .i64 0,.str [],.slice [] .nils])
def aug:=TIs 8 true .no [some (0,26),some (1,31),some (5,34)] [some (0,1),some (1,4),some (5,3)] ([.slice [] .nils,.int .i64 0,.int .i64 0,.str [],.slice [] .nils,.int .i64 0,.str [],.slice [] .nils])
def at7:=TIs 3 true .no [some (0,26),some (1,3),some (2,3)] [some (0,1),some (1,1),some (2,1)] ([.slice [] .nils,.int .i64 0,.int .i64 0])
def atb:TI:=⟨some 1,some false,false,false,false,false,false,some .i64,.no,[],[],some ([.int .i64 0]),some (.int .i64 0),none,none,none⟩
def aut:=TIs 2 true .no [some (0,9),some (1,26)] [some (0,1),some (1,1)] ([.str [],.slice [] .nils])
def atj:TI:=⟨some 1,some false,false,false,false,false,false,none,.no,[],[],some ([.nilFunc]),some (.nilFunc),none,none,none⟩
def aty:TI:=⟨some 1,some false,false,false,false,false,true,none,.sl (some 1),[],[],some ([.slice [] .nils]),some (.slice [] .nils),some 1,some (9,1,16),none⟩
def atp:=TIs 2 true .no [some (0,9),some (1,69)] [some (0,1),some (1,1)] ([.str [],.slice [] .nils])
def atA:=TIs 4 true .no [some (0,9),some (1,34)] [some (0,1),some (1,3)] ([.str [],.int .i64 0,.str [],.slice [] .nils])
def atG:TI:=⟨some 1,some false,false,false,false,false,true,none,.sl (some 7),[],[],some ([.slice [] .nils]),some (.slice [] .nils),some 7,some (78,7,104),none⟩
def atn:=TIs 7 true .no [some (0,3),some (1,9),some (2,3),some (3,34),some (6,76)] [some (0,1),some (1,1),some (2,1),some (3,3),some (6,1)] ([.int .i64 0,.str [],.int .i64 0,.int .i64 0,.str [],.slice [] .nils,.slice [] .nils])
def atr:TI:=⟨some 1,some false,false,false,false,false,true,none,.sl (some 1),[],[],some ([.slice [] .nils]),some (.slice [] .nils),some 1,some (4,1,1),none⟩
def arn:=TIs 3 true .no [some (0,3),some (1,9),some (2,3)] [some (0,1),some (1,1),some (2,1)] ([.int .i64 0,.str [],.int .i64 0])
def arB:=TIs 7 true .no [some (0,9),some (1,107),some (4,3),some (5,3),some (6,47)] [some (0,1),some (1,3),some (4,1),some (5,1),some (6,1)] ([.str [],.int .i64 0,.str [],.int .i64 0,.int .i64 0,.int .i64 0,.int .i64 0])
def aq8:TI:=⟨some 1,some false,true,false,false,false,false,none,.no,[],[],some ([.nilp]),some (.nilp),none,none,none⟩
def arI:TI:=⟨some 1,some false,false,false,false,false,false,some .u64,.no,[],[],some ([.int .u64 0]),some (.int .u64 0),none,none,none⟩
def aq6:=TIs 3 true .no [some (0,3),some (1,3),some (2,3)] [some (0,1),some (1,1),some (2,1)] ([.int .i64 0,.int .i64 0,.int .i64 0])
def arU:TI:=⟨some 1,some false,true,false,false,false,false,none,.no,[],[],some ([.nilp]),some (.nilp),none,none,none⟩
def aq7:TI:=⟨some 1,some false,false,false,false,false,false,none,.no,[],[],some ([.unk]),some (.unk),none,none,some 34⟩
def aru:TI:=⟨some 1,some false,false,false,false,false,false,none,.no,[],[],some ([.unk]),some (.unk),none,none,some 4⟩
def arP:TI:=⟨some 1,some false,false,false,false,false,false,none,.no,[],[],some ([.nilFunc]),some (.nilFunc),none,none,none⟩
def arW:=TIs 57 false (.arr 57 (some 1)) [] [] (List.replicate 57 (.nilFunc))
def asi:=TIs 60 true .no [some (0,161),some (1,162),some (2,165),some (59,26)] [some (0,1),some (1,1),some (2,57),some (59,1)] (([.unk,.unk]++List.replicate 57 .nilFunc++[.slice [] .nils]))
def arp:TI:=⟨some 1,some false,false,false,false,false,false,none,.no,[],[],some ([.nilFunc]),some (.nilFunc),none,none,none⟩
def arE:TI:=⟨some 1,some false,false,false,false,false,false,none,.no,[],[],some ([.unk]),some (.unk),none,none,some 31⟩
def ari:TI:=⟨some 1,some false,false,false,false,false,true,none,.sl (some 5),[],[],some ([.slice [] .nils]),some (.slice [] .nils),some 5,some (247,5,72),none⟩
def aso:=TIs 5 true .no [some (0,25),some (2,26),some (3,169),some (4,170)] [some (0,2),some (2,1),some (3,1),some (4,1)] ([.slice [] .nils,.slice [] .nils,.slice [] .nils,.unk,.slice [] .nils])
def asf:TI:=⟨some 1,some false,true,false,false,false,false,none,.no,[],[],some ([.nilp]),some (.nilp),none,none,none⟩
def arb:TI:=⟨some 1,some false,true,false,false,false,false,none,.no,[],[],some ([.nilp]),some (.nilp),none,none,none⟩
def asj:TI:=⟨some 1,some false,false,false,false,false,false,none,.no,[],[],some ([.nilFunc]),some (.nilFunc),none,none,none⟩
def arx:=TIs 5 true .no [some (0,9),some (1,34),some (4,198)] [some (0,1),some (1,3),some (4,1)] ([.str [],.int .i64 0,.str [],.slice [] .nils,.nilp])
def ar4:=TIs 8 false (.arr 2 (some 4)) [] [] ([.int .i64 0,.int .i64 0,.str [],.slice [] .nils,.int .i64 0,.int .i64 0,.str [],.slice [] .nils])
def asl:TI:=⟨some 1,some false,false,false,false,false,false,some .i64,.no,[],[],some ([.int .i64 0]),some (.int .i64 0),none,none,none⟩
def arj:TI:=⟨some 1,some false,false,false,false,false,false,some .u32,.no,[],[],some ([.int .u32 0]),some (.int .u32 0),none,none,none⟩
def arM:TI:=⟨some 1,some false,false,false,false,false,false,some .u64,.no,[],[],some ([.int .u64 0]),some (.int .u64 0),none,none,none⟩
def arv:TI:=⟨some 1,some false,false,false,false,false,false,none,.no,[],[],some ([.nilFunc]),some (.nilFunc),none,none,none⟩
def arw:TI:=⟨some 1,some false,false,false,false,false,false,none,.no,[],[],some ([.nilFunc]),some (.nilFunc),none,none,none⟩
def ara:=TIs 5 true .no [some (0,9),some (1,31)] [some (0,1),some (1,4)] ([.str [],.int .i64 0,.int .i64 0,.str [],.slice [] .nils])
def arQ:TI:=⟨some 1,some false,false,false,false,false,false,some .u64,.no,[],[],some ([.int .u64 0]),some (.int .u64 0),none,none,none⟩
def asa:TI:=⟨some 1,some false,false,false,false,false,true,none,.sl (some 1),[],[],some ([.slice [] .nils]),some (.slice [] .nils),some 1,some (27,1,24),none⟩
def arJ:TI:=⟨some 1,some false,false,false,false,false,false,none,.no,[],[],some ([.nilFunc]),some (.nilFunc),none,none,none⟩
def tab:Tr:=(.node (.node (.node (.node (.node (.node .nil 3 ti3 .nil) 4 ti4 (.node .nil 5 ti5 .nil)) 9 ti9 (.node (.node .nil 20 atI .nil) 22 ate .nil)) 23 atY (.node (.node (.node .nil 25 ato .nil) 26 at0 (.node .nil 27 atH .nil)) 29 aud (.node (.node .nil 31 atX .nil) 32 auv .nil))) 34 atl (.node (.node (.node (.node .nil 36 aug .nil) 38 at7 (.node .nil 47 atb .nil)) 59 aut (.node (.node .nil 62 atj .nil) 69 aty .nil)) 71 atp (.node (.node (.node .nil 74 atA .nil) 76 atG (.node .nil 78 atn .nil)) 99 atr (.node (.node .nil 107 arn .nil) 110 arB .nil)))) 115 aq8 (.node (.node (.node (.node (.node .nil 140 arI .nil) 155 aq6 (.node .nil 157 arU .nil)) 161 aq7 (.node (.node .nil 162 aru .nil) 164 arP .nil)) 165 arW (.node (.node (.node .nil 167 asi .nil) 168 arp (.node .nil 169 arE .nil)) 170 ari (.node (.node .nil 172 aso .nil) 194 asf .nil))) 198 arb (.node (.node (.node (.node .nil 201 asj .nil) 203 arx (.node .nil 209 ar4 .nil)) 216 asl (.node (.node .nil 224 arj .nil) 226 arM .nil)) 235 arv (.node (.node (.node .nil 239 arw .nil) 247 ara .nil) 258 arQ (.node (.node .nil 269 asa .nil) 282 arJ .nil)))))
theorem apy:tab.keys.map (TI.of Tryz.prog)=tab.vals:=by kernel_rfl
noncomputable def τ(t:Nat):TI:=tab.look (TI.of Tryz.prog) t
theorem aL:τ=TI.of Tryz.prog:=aoQ apy
theorem jF:Tryz.prog.follows .mixedOrders=true:=by kernel_rfl
end
section
open Go
inductive Sl:List AV→List AV→Prop where
 |n:Sl [] []
 |u {y:AV} {xs ys:List AV}:Sl xs ys→Sl (.unk::xs) (y::ys)
 |s {x:AV} {xs ys:List AV}:Sl xs ys→Sl (x::xs) (x::ys)
 |e {es:List (List AV)} {t:Tag} {xs ys:List AV}:Sl xs ys→Sl (.slice es .shared::xs) (.slice es t::ys)
section
variable {xs ys:List AV}
theorem Sl.u2{a b:AV}(hv:Sl xs ys):Sl (Abs.u2 xs) (a::b::ys):=.u (.u hv)
theorem Sl.u4{a b c d:AV}(hv:Sl xs ys):Sl (Abs.u4 xs) (a::b::c::d::ys):=.u2 (.u2 hv)
theorem Sl.u8{a0 a1 a2 a3 a4 a5 a6 a7:AV}(hv:Sl xs ys):Sl (Abs.u8 xs) (a0::a1::a2::a3::a4::a5::a6::a7::ys):=.u4 (.u4 hv)
theorem Sl.u16{a0 a1 a2 a3 a4 a5 a6 a7 a8 a9 a10 a11 a12 a13 a14 a15:AV}(hv:Sl xs ys):Sl (Abs.u16 xs) (a0::a1::a2::a3::a4::a5::a6::a7::a8::a9::a10::a11::a12::a13::a14::a15::ys):=.u8 (.u8 hv)
end
theorem Sl.len{xs ys:List AV}(h:Sl xs ys):xs.length=ys.length:=by
 induction h with
 |n=>rfl
 |u _ ih=>simp[ih]
 |s _ ih=>simp[ih]
 |e _ ih=>simp[ih]
theorem Sl.get{xs ys:List AV}(h:Sl xs ys){w:World}{κ:bg}{pv:bB}{v:Value}:∀n,Rel w κ pv (ys.getD n .unk) v→Rel w κ pv (xs.getD n .unk) v:=by
 induction h with
 |n=>intro n _;exact .unk _
 |u _ ih=>intro n hr;cases n with
  |zero=>exact .unk _
  |succ n=>exact ih n hr
 |s _ ih=>intro n hr;cases n with
  |zero=>exact hr
  |succ n=>exact ih n hr
 |e _ ih=>intro n hr;cases n with
  |zero=>exact Rel.share hr
  |succ n=>exact ih n hr
theorem li{m:Nat}{t t':List AV}{h:List AObj}(hs:Sl t' t):Le m t h t' h:=fun C κ a w _ s=>
 ⟨κ,s.defers,by rw[s.len];exact hs.len.symm,fun n hn=>hs.get n (s.slot n (by have:=hs.len;simp only at hn⊢;omega)),s.klen,s.kext,s.resv,s.obj,s.apart,s.own,s.bound,s.pvold,s.oldlt,s.old,s.os,s.tape,s.output,s.size,s.pvsub,s.iH⟩
section
variable {h:List AObj}{L:List (Option Nat)}{xs ys:List AV}{ls:List (Option Nat)}{os:List AObj}{l:Nat}
theorem VWs.c{x y:AV}(e:ren (mh L h.length) x=y)(hv:VWs h L xs ys):VWs h L (x::xs) (y::ys):=.cons (.same e) hv
theorem VWs.u{y:AV}(hv:VWs h L xs ys):VWs h L (.unk::xs) (y::ys):=.cons (.unk _) hv
theorem VWs.e{α:Type}{f:α→List AV}{t:Tag}{es:List α}(hr:∀(g:Nat→Nat) (l:List α),bA g (l.map f)=l.map f)(hv:VWs h L xs ys):VWs h L (.slice (es.map f) .shared::xs) (.slice (es.map f) t::ys):=.cons (.share (hr _ _)) hv
theorem OWs.b{cs ds:List AV}(e:obj? h l=.box ds)(hc:VWs h L cs ds)(hv:OWs h L ls os):OWs h L (some l::ls) (.box cs::os):=.old (by rw[e];exact OW.TH hc) hv
theorem OWs.t{n:Nat}(e:obj? h l=.tip n)(hv:OWs h L ls os):OWs h L (some l::ls) (.tip n::os):=.old (by rw[e];exact .tip n) hv
theorem OWs.w{o:AObj}(e:dA o=false)(hv:OWs h L ls os):OWs h L (none::ls) (o::os):=.new e hv
end
theorem wk{m:Nat}{t t':List AV}{h h':List AObj}(L:List (Option Nat))(ht:VWs h L t' t)(ho:OWs h L L h')(hL:okL m h.length L h'=true):Le m t h t' h':=.of L (.mk' hL ht ho)
theorem AW.q{P:Program}{m:Nat}{x y:Code}{Q:QT}{t:List AV}{h:List AObj}(hw:∀K:List AV→List AObj→Prop,(∀t h,AW P m y Q t h→K t h)→AW P m x (OB K Q) t h):AW P m (.seq x y) Q t h:=AW.jN hw
theorem sj{α:Type}{x r:α}(h:some x=some r):x=r:=Option.some.inj h
end
end Abs
end Go.Proofs.YtkopaeklihhdlaaGreat
namespace Go.Proofs
open Go.Shelf
def Tryz.RU:Go.Shelf.Ren:=⟨fun|7=>161|10=>212|n=>n,fun|23=>162|26=>9|3=>4|28=>182|0=>0|27=>181|33=>120|4=>4|n=>n,fun|n=>n⟩
set_option maxRecDepth 100000 in
theorem Tryz.an5:Go.Proofs.SlLaysZ.n7 Tryz.prog Tryz.RU:={
 mixed:=by kernel_rfl
 f7:=⟨Tryz.f161.name,by decide,Tryz.func161.trans (congrArg some (by kernel_rfl))⟩
 f10:=⟨Tryz.f212.name,by decide,Tryz.func212.trans (congrArg some (by kernel_rfl))⟩
 t0:=Tryz.underlying0
 a0:=Tryz.isAgg0
 z0:=Tryz.sizeOf0
 v0:=Tryz.zeroValue0
 t4:=Tryz.underlying4
 a4:=Tryz.isAgg4
 z4:=Tryz.sizeOf4
 v4:=Tryz.zeroValue4
 t23:=Tryz.underlying162
 a23:=Tryz.isAgg162
 z23:=Tryz.sizeOf162
 v23:=Tryz.zeroValue162
 t26:=Tryz.underlying9
 a26:=Tryz.isAgg9
 z26:=Tryz.sizeOf9
 v26:=Tryz.zeroValue9
 t27:=Tryz.underlying181
 a27:=Tryz.isAgg181
 z27:=Tryz.sizeOf181
 v27:=Tryz.zeroValue181
 t28:=Tryz.underlying182
 a28:=Tryz.isAgg182
 z28:=Tryz.sizeOf182
 v28:=Tryz.zeroValue182
 t33:=Tryz.underlying120
 a33:=Tryz.isAgg120
 z33:=Tryz.sizeOf120
 v33:=Tryz.zeroValue120}
def Tryz.Np:Go.Shelf.Ren:=⟨fun|6=>160|8=>210|9=>211|11=>289|13=>174|12=>290|23=>223|24=>224|14=>328|15=>329|16=>330|17=>331|18=>332|19=>333|20=>334|21=>335|22=>336|25=>343|26=>292|27=>293|28=>344|29=>345|30=>346|31=>347|n=>n,fun|26=>9|28=>182|24=>69|0=>0|3=>3|37=>140|48=>224|50=>226|4=>4|40=>217|39=>216|45=>221|5=>5|9=>9|51=>258|55=>262|57=>277|58=>228|33=>120|n=>n,fun|n=>n⟩
set_option maxRecDepth 100000 in
theorem Tryz.akp:Go.Proofs.SlLaysZ.n6 Tryz.prog Tryz.Np:={
 mixed:=by kernel_rfl
 f6:=⟨Tryz.f160.name,by decide,Tryz.func160.trans (congrArg some (by kernel_rfl))⟩
 f8:=⟨Tryz.f210.name,by decide,Tryz.func210.trans (congrArg some (by kernel_rfl))⟩
 f11:=⟨Tryz.f289.name,by decide,Tryz.func289.trans (congrArg some (by kernel_rfl))⟩
 t0:=Tryz.underlying0
 a0:=Tryz.isAgg0
 z0:=Tryz.sizeOf0
 v0:=Tryz.zeroValue0
 t24:=Tryz.underlying69
 a24:=Tryz.isAgg69
 z24:=Tryz.sizeOf69
 v24:=Tryz.zeroValue69
 t26:=Tryz.underlying9
 a26:=Tryz.isAgg9
 z26:=Tryz.sizeOf9
 v26:=Tryz.zeroValue9
 t28:=Tryz.underlying182
 a28:=Tryz.isAgg182
 z28:=Tryz.sizeOf182
 v28:=Tryz.zeroValue182
 i26:=by kernel_rfl}
def Tryz.aeJ:Go.Shelf.Ren:=⟨fun|6=>211|8=>174|9=>290|19=>223|20=>224|21=>328|22=>329|23=>330|24=>331|25=>332|26=>333|27=>334|28=>335|29=>336|36=>343|31=>292|32=>293|37=>344|38=>345|39=>346|41=>347|n=>n,fun|27=>69|29=>9|3=>3|32=>140|26=>69|0=>0|44=>224|46=>226|4=>4|36=>217|35=>216|41=>221|5=>5|9=>9|53=>258|57=>262|63=>277|64=>228|n=>n,fun|n=>n⟩
set_option maxRecDepth 100000 in
theorem Tryz.agn:Go.Proofs.SlLaysM.n6 Tryz.prog Tryz.aeJ:={
 mixed:=by kernel_rfl
 f6:=⟨Tryz.f211.name,by decide,Tryz.func211.trans (congrArg some (by kernel_rfl))⟩
 f8:=Tryz.func174.trans (congrArg some (by kernel_rfl))
 f9:=⟨Tryz.f290.name,by decide,Tryz.func290.trans (congrArg some (by kernel_rfl))⟩
 f19:=Tryz.func223.trans (congrArg some (by kernel_rfl))
 f20:=Tryz.func224.trans (congrArg some (by kernel_rfl))
 f21:=⟨Tryz.f328.name,by decide,Tryz.func328.trans (congrArg some (by kernel_rfl))⟩
 f22:=⟨Tryz.f329.name,by decide,Tryz.func329.trans (congrArg some (by kernel_rfl))⟩
 f23:=⟨Tryz.f330.name,by decide,Tryz.func330.trans (congrArg some (by kernel_rfl))⟩
 f24:=⟨Tryz.f331.name,by decide,Tryz.func331.trans (congrArg some (by kernel_rfl))⟩
 f25:=⟨Tryz.f332.name,by decide,Tryz.func332.trans (congrArg some (by kernel_rfl))⟩
 f26:=⟨Tryz.f333.name,by decide,Tryz.func333.trans (congrArg some (by kernel_rfl))⟩
 f27:=⟨Tryz.f334.name,by decide,Tryz.func334.trans (congrArg some (by kernel_rfl))⟩
 f28:=⟨Tryz.f335.name,by decide,Tryz.func335.trans (congrArg some (by kernel_rfl))⟩
 f29:=⟨Tryz.f336.name,by decide,Tryz.func336.trans (congrArg some (by kernel_rfl))⟩
 f31:=Tryz.func292.trans (congrArg some (by kernel_rfl))
 f32:=Tryz.func293.trans (congrArg some (by kernel_rfl))
 f36:=⟨Tryz.f343.name,by decide,Tryz.func343.trans (congrArg some (by kernel_rfl))⟩
 f37:=⟨Tryz.f344.name,by decide,Tryz.func344.trans (congrArg some (by kernel_rfl))⟩
 f38:=⟨Tryz.f345.name,by decide,Tryz.func345.trans (congrArg some (by kernel_rfl))⟩
 f39:=⟨Tryz.f346.name,by decide,Tryz.func346.trans (congrArg some (by kernel_rfl))⟩
 f41:=⟨Tryz.f347.name,by decide,Tryz.func347.trans (congrArg some (by kernel_rfl))⟩
 t0:=Tryz.underlying0
 a0:=Tryz.isAgg0
 z0:=Tryz.sizeOf0
 v0:=Tryz.zeroValue0
 t3:=Tryz.underlying3
 a3:=Tryz.isAgg3
 z3:=Tryz.sizeOf3
 v3:=Tryz.zeroValue3
 t4:=Tryz.underlying4
 a4:=Tryz.isAgg4
 z4:=Tryz.sizeOf4
 v4:=Tryz.zeroValue4
 t5:=Tryz.underlying5
 a5:=Tryz.isAgg5
 z5:=Tryz.sizeOf5
 v5:=Tryz.zeroValue5
 t9:=Tryz.underlying9
 a9:=Tryz.isAgg9
 z9:=Tryz.sizeOf9
 v9:=Tryz.zeroValue9
 t26:=Tryz.underlying69
 a26:=Tryz.isAgg69
 z26:=Tryz.sizeOf69
 v26:=Tryz.zeroValue69
 t27:=Tryz.underlying69
 a27:=Tryz.isAgg69
 z27:=Tryz.sizeOf69
 v27:=Tryz.zeroValue69
 t29:=Tryz.underlying9
 a29:=Tryz.isAgg9
 z29:=Tryz.sizeOf9
 v29:=Tryz.zeroValue9
 t32:=Tryz.underlying140
 a32:=Tryz.isAgg140
 z32:=Tryz.sizeOf140
 v32:=Tryz.zeroValue140
 t35:=Tryz.underlying216
 a35:=Tryz.isAgg216
 z35:=Tryz.sizeOf216
 v35:=Tryz.zeroValue216
 t36:=Tryz.underlying217
 a36:=Tryz.isAgg217
 z36:=Tryz.sizeOf217
 v36:=Tryz.zeroValue217
 t41:=Tryz.underlying221
 a41:=Tryz.isAgg221
 z41:=Tryz.sizeOf221
 v41:=Tryz.zeroValue221
 t44:=Tryz.underlying224
 a44:=Tryz.isAgg224
 z44:=Tryz.sizeOf224
 v44:=Tryz.zeroValue224
 t46:=Tryz.underlying226
 a46:=Tryz.isAgg226
 z46:=Tryz.sizeOf226
 v46:=Tryz.zeroValue226
 t53:=Tryz.underlying258
 a53:=Tryz.isAgg258
 z53:=Tryz.sizeOf258
 v53:=Tryz.zeroValue258
 t57:=Tryz.underlying262
 a57:=Tryz.isAgg262
 z57:=Tryz.sizeOf262
 v57:=Tryz.zeroValue262
 t63:=Tryz.underlying277
 a63:=Tryz.isAgg277
 z63:=Tryz.sizeOf277
 v63:=Tryz.zeroValue277
 t64:=Tryz.underlying228
 a64:=Tryz.isAgg228
 z64:=Tryz.sizeOf228
 v64:=Tryz.zeroValue228}
end Go.Proofs
namespace Go.Proofs.YtkopaeklihhdlaaGreat
namespace Abs
section
open Go
def amH:Tag→List Nat
 | .tip l _=>[l]
 | .shared=>[]
 | .nils=>[]
 | .full _=>[]
mutual
def refs:AV→List Nat
 | .ptr l _=>[l]
 | .mapr l=>[l]
 | .eptr cs=>Ay cs
 | .slice es t=>KQ es++amH t
 | .agg cs=>Ay cs
 | .tup cs=>Ay cs
 | .func _ cs=>Ay cs
 | .psl l _ _=>[l]
 | .flist ns=>KQ ns
 | .unk=>[]
 | .int _ _=>[]
 | .bool _=>[]
 | .str _=>[]
 | .nilp=>[]
 | .ifc _ _=>[]
 | .nilFunc=>[]
 | .yv _=>[]
def Ay:List AV→List Nat
 |[]=>[]
 |c::cs=>refs c++Ay cs
def KQ:List (List AV)→List Nat
 |[]=>[]
 |c::cs=>Ay c++KQ cs
end
def Ju:AObj→List Nat
 | .box cs=>Ay cs
 | .mp es=>es.flatMap fun p=>refs p.2
 | .arr _ es=>KQ es
 | .tip _=>[]
 | .dead=>[]
 | .res=>[]
mutual
theorem Ue{g h:Nat→Nat}:∀x:AV,(∀l∈refs x,g (h l)=l)→ren g (ren h x)=x
 | .ptr l o,hx=>by simp only[ren];rw[hx l (by simp[refs])]
 | .mapr l,hx=>by simp only[ren];rw[hx l (by simp[refs])]
 | .eptr cs,hx=>by simp only[ren];rw[wN cs (by simpa[refs]using hx)]
 | .slice es t,hx=>by
  simp only[refs,qBn]at hx;simp only[ren];rw[Gj es (fun l hl=>hx l (.inl hl))];cases t with
  |tip l z=>simp only[dK];rw[hx l (.inr (by simp[amH]))]
  |shared=>rfl
  |nils=>rfl
  |full n=>rfl
 | .agg cs,hx=>by simp only[ren];rw[wN cs (by simpa[refs]using hx)]
 | .tup cs,hx=>by simp only[ren];rw[wN cs (by simpa[refs]using hx)]
 | .func f cs,hx=>by simp only[ren];rw[wN cs (by simpa[refs]using hx)]
 | .psl l z n,hx=>by simp only[ren];rw[hx l (by simp[refs])]
 | .flist ns,hx=>by simp only[ren];rw[Gj ns (by simpa[refs]using hx)]
 | .unk,_=>rfl
 | .int _ _,_=>rfl
 | .bool _,_=>rfl
 | .str _,_=>rfl
 | .nilp,_=>rfl
 | .ifc _ _,_=>rfl
 | .nilFunc,_=>rfl
 | .yv _,_=>rfl
theorem wN{g h:Nat→Nat}:∀cs:List AV,(∀l∈Ay cs,g (h l)=l)→bD g (bD h cs)=cs
 |[],_=>rfl
 |c::cs,hx=>by
  simp only[Ay,qBn]at hx;simp only[bD];rw[Ue c (fun l hl=>hx l (.inl hl)),wN cs (fun l hl=>hx l (.inr hl))]
theorem Gj{g h:Nat→Nat}:∀es:List (List AV),(∀l∈KQ es,g (h l)=l)→bA g (bA h es)=es
 |[],_=>rfl
 |c::cs,hx=>by
  simp only[KQ,qBn]at hx;simp only[bA];rw[wN c (fun l hl=>hx l (.inl hl)),Gj cs (fun l hl=>hx l (.inr hl))]
end
theorem Zc{g h:Nat→Nat}(o:AObj)(hx:∀l∈Ju o,g (h l)=l):bN g (bN h o)=o:=by
 cases o with
 |box cs=>simp only[bN];rw[wN cs hx]
 |mp es=>
  simp only[bN,qBt,AObj.mp.injEq];simp only[Ju,qCK]at hx
  conv=>rhs;rw[←List.map_id es]
  refine qBY fun p hp=>?_;simp only[Function.comp];rw[Ue p.2 (fun l hl=>hx l ⟨p,hp,hl⟩)];rfl
 |arr z es=>simp only[bN];rw[Gj es hx]
 |tip n=>rfl
 |dead=>rfl
 |res=>rfl
def posOf:List Nat→Nat→Nat
 |[],_=>0
 |x::xs,l=>bif Nat.beq x l then 0 else posOf xs l+1
theorem O7:∀{L:List Nat} {l:Nat},l∈L→L[posOf L l]? =some l
 |x::xs,l,h=>by
  unfold posOf;cases hb:Nat.beq x l with
  |true=>have:=qAg hb;subst this;rfl
  |false=>
   simp only[cond_false,qBl];refine O7 ?_;rcases qAs.1 h with rfl|h
   ·rw[qDf l]at hb;cases hb
   ·exact h
def has:List Nat→Nat→Bool
 |[],_=>false
 |x::xs,l=>bif Nat.beq x l then true else has xs l
theorem Ke:∀{L:List Nat} {l:Nat},has L l=true→l∈L
 |x::xs,l,h=>by
  unfold has at h;cases hb:Nat.beq x l with
  |true=>rw[qAg hb];simp
  |false=>rw[hb]at h;exact qCW _ (Ke h)
def Ku:List Nat→Bool
 |[]=>true
 |x::xs=>bif has xs x then false else Ku xs
theorem has_of_mem:∀{L:List Nat} {l:Nat},l∈L→has L l=true
 |x::xs,l,h=>by
  unfold has;cases hb:Nat.beq x l with
  |true=>rfl
  |false=>
   rcases qAs.1 h with rfl|h
   ·rw[qDf l]at hb;cases hb
   ·exact has_of_mem h
theorem Oz:∀{L:List Nat},Ku L=true→L.Nodup
 |[],_=>List.nodup_nil
 |x::xs,h=>by
  unfold Ku at h;cases hb:has xs x with
  |true=>rw[hb]at h;cases h
  |false=>rw[hb]at h;exact qCr.2 ⟨fun hm=>(by rw[has_of_mem hm]at hb;cases hb),Oz h⟩
def reach(h:List AObj):Nat→List Nat→List Nat→List Nat
 |0,_,seen=>seen
 |_+1,[],seen=>seen
 |n+1,l::todo,seen=>bif has seen l then reach h n todo seen else reach h n (Ju (obj? h l)++todo) (seen++[l])
abbrev jG:=Nat→List AV→List AObj→Option (AV×List AObj)
def Xq(h:List AObj)(ρ ks:List Nat)(vs:List AV):Bool:=
 Ku (ρ++ks)&&(ρ.all (fun l=>Nat.blt l h.length)&&(ks.all (fun l=>dA (obj? h l))&&(ρ.all (fun l=>(Ju (obj? h l)).all (has ρ))&&(Ay vs).all (has ρ))))
def acM(call:jG)(h:List AObj)(k fid:Nat)(vs:List AV):Option (Nat×List Nat×List Wr×AV):=
 let ρ:=reach h 2000 (Ay vs) []
 match call fid (bD (posOf ρ) vs) (ρ.map fun l=>bN (posOf ρ) (obj? h l))with
 |none=>none
 |some (res,H')=>
  let ks:=List.range' k (H'.length - ρ.length)
  bif Xq h ρ ks vs&&Nat.beq H'.length (ρ++ks).length then some (k+ks.length,ρ++ks,kM (ρ++ks) (H'.map (bN (nm (ρ++ks) h.length))),ren (nm (ρ++ks) h.length) res)else none
theorem ajS{ρ ks:List Nat}{big l:Nat}(h:l∈ρ):nm (ρ++ks) big (posOf ρ l)=l:=by
 have:=O7 h;have hlt:=(qAk.1 this).1;simp only[nm,qAf hlt,this,qAi]
theorem ajU{P:Program}{call:jG}(hc:∀f args H r,call f args H=some r→ak P f args H r.1 r.2){s:ASt}{k fid:Nat}{vs:List AV}{k':Nat}{ro:List Nat}{wo:List Wr}{res:AV}{dst:Option Tmp}{K:Nat→List Nat→List Wr→Prop}
  (hok:aZ P fid=true) (h:acM call s.heap k fid vs=some (k',ro,wo,res)) (hK:K k' ro (wo++aI dst res)):BN P fid vs dst s k K .mk:=by
 unfold acM at h;generalize hρ:reach s.heap 2000 (Ay vs) []=ρ at h;dsimp only at h;split at h
 ·cases h
 ·rename_i r H' hcall;generalize hks:List.range' k (H'.length - ρ.length)=ks at h;cases hb:(Xq s.heap ρ ks vs&&Nat.beq H'.length (ρ++ks).length)with
  |false=>rw[hb]at h;cases h
  |true=>
   rw[hb]at h;simp only[cond_true,Option.some.injEq,Prod.mk.injEq]at h;obtain⟨rfl,rfl,rfl,rfl⟩:=h;simp only[Xq,qAd,qAC]at hb;obtain⟨⟨h1,h2,h3,h4,h5⟩,h6⟩:=hb;have hlen:=qAg h6;refine⟨hok,ρ,ks,bD (posOf ρ) vs,_,r,H',⟨Oz h1,by simp,fun l hl=>?_,h3,fun i l hi=>?_⟩,hlen,?_,hc _ _ _ _ hcall,hK⟩
   ·exact qAa (h2 l hl)
   ·have hlm:=qAJ hi;have e:obj? (ρ.map fun l=>bN (posOf ρ) (obj? s.heap l)) i=bN (posOf ρ) (obj? s.heap l):=by
     simp only[obj?,qAF,hi,qAt,qAi]
    rw[e,Zc _ fun x hx=>ajS (Ke (h4 l hlm x hx))]
   ·rw[←uX,wN _ fun x hx=>ajS (Ke (h5 x hx))];exact SWs.refl _
noncomputable def ak3{α β:Type}(l:List α):Nat→α→(List α→β)→β:=
 List.rec (motive:=fun _=>Nat→α→(List α→β)→β) (fun _ _ K=>K []) (fun x xs ih n v K=>Nat.rec (motive:=fun _=>β) (K (v::xs)) (fun m _=>ih m v fun ys=>K (x::ys)) n) l
noncomputable def R4{α β:Type}(l:List α):(List α→β)→β:=
 List.rec (motive:=fun _=>(List α→β)→β) (fun K=>K []) (fun x _ ih K=>ih fun ys=>K (x::ys)) l
noncomputable def aly(l:List AV):Nat→AV:=List.rec (motive:=fun _=>Nat→AV) (fun _=>.unk) (fun x _ ih n=>Nat.rec (motive:=fun _=>AV) x (fun m _=>ih m) n) l
noncomputable def Um(l:List AObj):Nat→AObj:=List.rec (motive:=fun _=>Nat→AObj) (fun _=>.dead) (fun x _ ih n=>Nat.rec (motive:=fun _=>AObj) x (fun m _=>ih m) n) l
theorem Yz:∀(l:List AV) (n:Nat),aly l n=l.getD n .unk
 |[],_=>rfl
 |_::_,0=>rfl
 |_::xs,n+1=>(Yz xs n).trans (by simp[List.getD])
theorem QV:∀(l:List AObj) (n:Nat),Um l n=obj? l n
 |[],_=>rfl
 |_::_,0=>rfl
 |_::xs,n+1=>(QV xs n).trans (by simp[obj?])
noncomputable def acA(t:List AV):Operand→AV
 | .tmp n=>aly t n
 | .const v=>ofConst v
 | .func f=>.func f []
 | .global _=>.unk
theorem ags(t:List AV):acA t=bC t:=by funext x;cases x<;>first|rfl|exact Yz _ _
noncomputable def abO(ops:Array Oper)(t:List AV):Option (Nat×Bool)→Option Bool
 |none=>some true
 |some (j,want)=>match(ops[j]?).bind (·.dst)with
  |none=>none
  |some d=>match aly t d with
   | .bool b=>some (b==want)
   | .tup []=>some false
   |_=>none
theorem ajb(ops:Array Oper)(t:List AV)(o:Oper):abO ops t o.guard=d9 ops t o:=by
 unfold abO d9;cases o.guard with
 |none=>rfl
 |some p=>simp only[Yz];rfl
def aik(P:Program)(k:Nat)(o:Oper)(ρ:Operand→AV)(σ:Nat→AObj):Option (List Nat×List Wr):=
 match o.op with
 | .move x=>some ([],aI o.dst (ρ x))
 | .assign x=>some ([],aI o.dst (ρ x))
 | .binOp op t x y _=>(nM P op t (ρ x) (ρ y)).elim ((eqNil P op t (ρ x) y).elim none fun v=>some ([],aI o.dst (.bool v))) fun v=>some ([],aI o.dst v)
 |_=>aV P k o ρ σ
theorem alX(P:Program)(k:Nat)(o:Oper)(ρ:Operand→AV)(σ:Nat→AObj):aik P k o ρ σ=aV P k o ρ σ:=by
 unfold aik;split
 ·rename_i x h;simp only[aV,h,aM]
 ·rename_i x h;simp only[aV,h,aM]
 ·rename_i op t x y t2 h;simp only[aV,h,aM];cases nM P op t (ρ x) (ρ y)with
  |none=>cases eqNil P op t (ρ x) y<;>rfl
  |some v=>rfl
 ·rfl
def apa{β:Type}(K:Nat→β):Nat→β
 |0=>K 0
 |n+1=>K (n+1)
def atm{β:Type}(K:Int→β):Int→β
 | .ofNat n=>K (.ofNat n)
 | .negSucc n=>K (.negSucc n)
def arA{β:Type}(K:Bool→β):Bool→β
 |true=>K true
 |false=>K false
noncomputable def fVS{β:Type}(K:AV→β):AV→β
 | .agg cs=>R4 cs fun cs=>K (.agg cs)
 | .eptr cs=>R4 cs fun cs=>K (.eptr cs)
 | .tup cs=>R4 cs fun cs=>K (.tup cs)
 | .func f cs=>R4 cs fun cs=>K (.func f cs)
 | .int k n=>atm (fun n=>K (.int k n)) n
 | .bool b=>arA (fun b=>K (.bool b)) b
 | .str s=>R4 s fun s=>K (.str s)
 | .slice es t=>R4 es fun es=>K (.slice es t)
 | .unk=>K .unk
 | .nilp=>K .nilp
 | .ifc t v=>K (.ifc t v)
 | .ptr l o=>K (.ptr l o)
 | .mapr l=>K (.mapr l)
 | .nilFunc=>K .nilFunc
 | .yv l=>K (.yv l)
 | .psl l z n=>K (.psl l z n)
 | .flist ns=>K (.flist ns)
noncomputable def fOS{β:Type}(K:AObj→β):AObj→β
 | .box cs=>R4 cs fun cs=>K (.box cs)
 | .tip n=>K (.tip n)
 | .mp es=>R4 es fun es=>K (.mp es)
 | .dead=>K .dead
 | .res=>K .res
 | .arr z es=>R4 es fun es=>K (.arr z es)
noncomputable def Zd{β:Type}:List Wr→List AV→List AObj→(List AV→List AObj→β)→β
 |[],t,h,K=>K t h
 | .slot n v::ws,t,h,K=>fVS (fun v=>ak3 t n v fun t=>Zd ws t h K) v
 | .obj n o::ws,t,h,K=>fOS (fun o=>ak3 h n o fun h=>Zd ws t h K) o
theorem Xy{α β:Type}:∀(l:List α) (n:Nat) (v:α) (K:List α→β),ak3 l n v K=K (l.set n v)
 |[],_,_,_=>rfl
 |_::_,0,_,_=>rfl
 |x::xs,n+1,v,K=>(Xy xs n v fun ys=>K (x::ys)).trans rfl
theorem acH{α β:Type}:∀(l:List α) (K:List α→β),R4 l K=K l
 |[],_=>rfl
 |x::xs,K=>acH xs fun ys=>K (x::ys)
theorem amX{β:Type}(K:Nat→β)(n:Nat):apa K n=K n:=by cases n<;>rfl
theorem aoX{β:Type}(K:AV→β)(v:AV):fVS K v=K v:=by
 cases v<;>simp only[fVS,acH]
 ·rename_i k n;cases n<;>rfl
 ·rename_i b;cases b<;>rfl
theorem apr{β:Type}(K:AObj→β)(o:AObj):fOS K o=K o:=by cases o<;>simp only[fOS,acH]
theorem OI{β:Type}:∀(ws:List Wr) (t:List AV) (h:List AObj) (K:List AV→List AObj→β),Zd ws t h K=K (ASt.wr ⟨t,h⟩ ws).tmps (ASt.wr ⟨t,h⟩ ws).heap
 |[],_,_,_=>rfl
 | .slot n v::ws,t,h,K=>by simp only[Zd,aoX,Xy];rw[OI ws];rfl
 | .obj n v::ws,t,h,K=>by simp only[Zd,apr,Xy];rw[OI ws];rfl
def need(big:List Nat):List Oper→Nat
 |[]=>0
 |o::l=>(match kZ o.op with
  |some (.func f,_)=>(bif has big f then 40 else 3)
  |some _=>3
  |none=>ji o.op)+need big l
noncomputable def alk(P:Program)(call:jG)(ok:Nat→Bool)(ops:Array Oper)(o:Oper)(go:Nat→List Eff→List AV→List AObj→Option (List Eff×ASt))(k:Nat)(es:List Eff)(t:List AV)(h:List AObj):Option (List Eff×ASt):=
 match abO ops t o.guard with
  |none=>none
  |some false=>Zd (aI o.dst (.tup [])) t h (go k (⟨bF ops o,[],aI o.dst (.tup [])⟩::es))
  |some true=>match kZ o.op with
   |some (f,args)=>match acA t f with
    | .func fid caps=>bif ok fid then(match acM call h k fid (args.toList.map (acA t)++caps)with
     |some (k',ro,wo,res)=>Zd (wo++aI o.dst res) t h (go k' (⟨bF ops o,ro,wo++aI o.dst res⟩::es))
     |none=>none)else none
    |_=>none
   |none=>match aik P k o (acA t) (Um h)with
    |some (rd,ws)=>Zd ws t h (go (k+ji o.op) (⟨bF ops o,rd,ws⟩::es))
    |none=>none
noncomputable def aiv(P:Program)(call:jG)(ok:Nat→Bool)(ops:Array Oper)(l:List Oper):Nat→List Eff→List AV→List AObj→Option (List Eff×ASt):=
 List.rec (motive:=fun _=>Nat→List Eff→List AV→List AObj→Option (List Eff×ASt)) (fun _ es t h=>some (es.reverse,⟨t,h⟩)) (fun o _ ih=>alk P call ok ops o ih) l
theorem ajR(P:Program)(call:jG)(ok:Nat→Bool)(ops:Array Oper)(o:Oper)(l:List Oper)(k:Nat)(es:List Eff)(t:List AV)(h:List AObj):aiv P call ok ops (o::l) k es t h=alk P call ok ops o (aiv P call ok ops l) k es t h:=rfl
theorem agH{P:Program}{call:jG}{ok:Nat→Bool}{ops:Array Oper}(hc:∀f args H r,call f args H=some r→ak P f args H r.1 r.2)(hok:∀f,ok f=true→aZ P f=true){K:List Eff→ASt→Prop}:
  ∀(l:List Oper) (k:Nat) (es:List Eff) (s:ASt) (es':List Eff) (s':ASt),aiv P call ok ops l k es s.tmps s.heap=some (es',s')→K es' s'→yA P ops l k es s K:=by
 intro l
 induction l with
 |nil=>
  intro k es s es' s' h hK;have h:some (es.reverse,s)=some (es',s'):=h;simp only[Option.some.injEq,Prod.mk.injEq]at h;obtain⟨rfl,rfl⟩:=h;exact hK
 |cons o l ih=>
  intro k es s es' s' h hK;rw[ajR]at h;unfold alk at h;rw[ajb,ags,show Um s.heap=obj? s.heap from funext (QV _),alX]at h;split at h
  ·cases h
  ·rename_i hw;rw[OI]at h;exact⟨false,hw,fun e=>(by cases e),fun _=>ih _ _ _ _ _ h hK⟩
  ·rename_i hw;refine⟨true,hw,fun _=>?_,fun e=>(by cases e)⟩;split at h
   ·rename_i f args hcall;split at h
    ·rename_i fid caps hf;cases hb:ok fid with
     |false=>rw[hb]at h;cases h
     |true=>
      rw[hb]at h;simp only[cond_true]at h;split at h
      ·rename_i k' ro wo res hen;rw[hcall];rw[OI]at h;exact⟨fid,caps,hf,ajU hc (hok _ hb) hen (ih _ _ _ _ _ h hK)⟩
      ·cases h
    ·cases h
   ·rename_i hcall;rw[hcall];split at h
    ·rename_i rd ws hh;rw[OI]at h;exact⟨rd,ws,hh,ih _ _ _ _ _ h hK⟩
    ·cases h
def ahG(o:AObj):List AObj→List AObj
 |[]=>bif dA o then[]else[o]
 |x::xs=>o::x::xs
noncomputable def trim(l:List AObj):List AObj:=List.rec (motive:=fun _=>List AObj) [] (fun o _ ih=>ahG o ih) l
theorem ZB:∀H:List AObj,∃n,H=trim H++List.replicate n .res
 |[]=>⟨0,rfl⟩
 |o::os=>by
  obtain⟨n,hn⟩:=ZB os;show ∃n,o::os=ahG o (trim os)++List.replicate n .res;unfold ahG;split
  ·rename_i e;rw[e]at hn;cases ho:dA o with
   |true=>
    have:o=.res:=by cases o<;>simp[dA]at ho⊢
    subst this;exact⟨n+1,by rw[hn];rfl⟩
   |false=>exact⟨n,by rw[hn];rfl⟩
  ·rename_i x xs e;rw[e]at hn;exact⟨n,by rw[hn];rfl⟩
theorem Sim.trim{C:Ctx}{κ:bg}{s:ASt}{a:Act}{w:World}(h:Sim C κ s a w):∃κ',Sim C κ' {s with heap:=Abs.trim s.heap} a w:=by
 obtain⟨n,hn⟩:=ZB s.heap;generalize Abs.trim s.heap=H at hn;have hat:∀l,at? (κ.take H.length) l=at? κ l:=fun l=>by
  by_cases hl:l<H.length
  ·unfold at?;rw[qAW,if_pos hl]
  ·have e1:at? (κ.take H.length) l=none:=at?_none_of_le (by simp;omega);rw[e1];by_cases h2:l<s.heap.length
   ·refine(h.resv l ?_).symm;simp only[obj?,hn];rw[qAm (by omega),qBy];rw[hn,qAl,qBC]at h2;rw[if_pos (by omega)];rfl
   ·exact(at?_none_of_le (by rw[h.klen];omega)).symm
 have hob:∀l b,at? κ l=some b→obj? H l=obj? s.heap l:=fun l b hb=>by
  by_cases hl:l<H.length
  ·simp only[obj?,hn,qAf hl]
  ·rw[←hat,at?_none_of_le (by simp;omega)]at hb;cases hb
 refine⟨κ.take H.length,?_⟩;refine h.step (κ':=κ.take H.length) (H':=H) (Evo.refl _ _) (fun l b hb=>by rw[hat];exact hb) (by rw[qBd,h.klen,hn];simp) ?_ ?_ ?_ ?_ ?_ (fun _ _=>rfl) rfl rfl rfl
 ·rintro b o (hb|⟨l,h1,h2⟩) _
  ·exact .inl hb
  ·rw[hat]at h1;rw[hob l b h1]at h2;exact .inr ⟨l,h1,h2⟩
 ·intro l b h1 h2;rw[hat]at h1;exact .inl ⟨h1,hob l b h1,rfl⟩
 ·intro l l' b h1 h2 h3 h4;rw[hat]at h1 h2;rw[hob l b h1]at h3;rw[hob l' b h2]at h4;exact h.apart l l' b h1 h2 h3 h4
 ·intro l b h1;rw[hat]at h1;exact h.bound l b h1
 ·intro l h1;rw[hat];by_cases hl:l<H.length
  ·refine h.resv l ?_;rw[←h1];simp only[obj?,hn,qAf hl]
  ·rw[←hat];exact at?_none_of_le (by simp;omega)
def Vk(hint:List (Nat×Nat×Nat))(h:List AObj)(l:Nat):List AObj:=
 match obj? h l with
 | .box cs=>match hint.find? (fun p=>Nat.beq p.1 cs.length)with
  |some (_,i,z)=>(match cs[i]? with
   |some (.slice [] .nils)=>h.set l (.box (cs.set i (.psl h.length z 0)))++[.arr z []]
   |_=>h)
  |none=>h
 |_=>h
theorem Sim.Vk{C:Ctx}{κ:bg}{s:ASt}{a:Act}{w:World}(h:Sim C κ s a w)(hint:List (Nat×Nat×Nat))(l:Nat):∃κ',Sim C κ' {s with heap:=Abs.Vk hint s.heap l} a w:=by
 unfold Abs.Vk;split
 ·rename_i cs ho;split
  ·rename_i i z _;split
   ·rename_i hi;have hll:l<s.heap.length:=by
     apply qAT;intro hn;simp only[obj?,qAn (qAu hn)]at ho;cases ho
    let H':=s.heap.set l (.box (cs.set i (.psl s.heap.length z 0)))++[AObj.arr z []]
    have hat:∀x,at? (κ++[none]) x=at? κ x:=fun x=>by
     unfold at?;by_cases hx:x<κ.length
     ·rw[qAf hx]
     ·rw[qAm (qAu hx),qAn (qAu hx)];cases hxx:x - κ.length<;>rfl
    have hlt:∀x b,at? κ x=some b→x<s.heap.length:=fun x b hb=>by rw[←h.klen];exact lt_of_at? hb
    have hob:∀x,x<s.heap.length→x≠l→obj? H' x=obj? s.heap x:=fun x hx hne=>by
     simp only[obj?,H',qAf (show x<(s.heap.set l _).length by simpa using hx),qBE (qAZ hne)]
    have hol:obj? H' l=.box (cs.set i (.psl s.heap.length z 0)):=by
     simp only[obj?,H',qAf (show l<(s.heap.set l _).length by simpa using hll),qCd hll,qAi]
    have hlv:∀x b,at? κ x=some b→live (obj? H' x)→live (obj? s.heap x):=fun x b hb hl=>by
     by_cases e:x=l
     ·subst e;rw[ho];trivial
     ·rw[hob x (hlt x b hb) e]at hl;exact hl
    have hp:∀b o,aO C.aN (κ++[none]) H' b o→b<w.heap.size→aO C.aN κ s.heap b o:=by
     rintro b o (hb|⟨x,h1,h2⟩) _
     ·exact .inl hb
     ·rw[hat]at h1;refine .inr ⟨x,h1,?_⟩;by_cases e:x=l
      ·subst e;rw[ho];trivial
      ·rw[hob x (hlt x b h1) e]at h2;exact h2
    refine⟨κ++[none],?_⟩;refine h.step (κ':=κ++[none]) (H':=H') (Evo.refl _ _) (fun x b hb=>by rw[hat];exact hb) (by simp[H',h.klen]) hp ?_ ?_ ?_ ?_ (fun _ _=>rfl) rfl rfl rfl
    ·intro x b h1 h2;rw[hat]at h1;by_cases e:x=l
     ·subst e;refine .inr ⟨h.bound x b h1,h.own x b h1 (by rw[ho];trivial),?_⟩;rw[hol];have hr:=h.obj x b h1 (by rw[ho];trivial);rw[ho]at hr;obtain⟨c,el,g1,g2,g3⟩:=hr;refine⟨c,el,g1,by simp[g2],fun j hj=>?_⟩;simp only[qBc]at hj;have hg:=(g3 j hj).mono (κ':=κ++[none]) (Evo.refl _ _) (fun y b hb=>by rw[hat];exact hb) hp;by_cases ej:i=j
      ·subst ej;rw[iw hj];rw[List.getD,hi,qAi]at hg;generalize c.getD i undef=u at hg;cases hg with
       |slice b' off sz y q1 q2 q3 q3' q4 q5 q6 gt=>exact .psl (qAV _) (by omega) ⟨rfl,.inl gt⟩
      ·rw[j5 ej];exact hg
     ·exact .inl ⟨h1,hob x (hlt x b h1) e,rfl⟩
    ·intro x y b h1 h2 h3 h4;rw[hat]at h1 h2;exact h.apart x y b h1 h2 (hlv x b h1 h3) (hlv y b h2 h4)
    ·intro x b h1;rw[hat]at h1;exact h.bound x b h1
    ·intro x h1;rw[hat];by_cases hx:x<s.heap.length
     ·by_cases e:x=l
      ·subst e;rw[hol]at h1;cases h1
      ·rw[hob x hx e]at h1;exact h.resv x h1
     ·exact at?_none_of_le (by rw[h.klen];omega)
   ·exact⟨κ,h⟩
  ·exact⟨κ,h⟩
 ·exact⟨κ,h⟩
def Q0(hint:List (Nat×Nat×Nat)):List Nat→List AObj→List AObj
 |[],h=>h
 |l::ls,h=>Q0 hint ls (Vk hint h l)
theorem Sim.Q0{C:Ctx}{a:Act}{w:World}(hint:List (Nat×Nat×Nat)):∀(ls:List Nat) {κ:bg} {s:ASt},Sim C κ s a w→∃κ',Sim C κ' {s with heap:=Abs.Q0 hint ls s.heap} a w
 |[],κ,s,h=>⟨κ,h⟩
 |l::ls,κ,s,h=>by
  obtain⟨κ1,h1⟩:=h.Vk hint l;exact Sim.Q0 hint ls h1
noncomputable def tidy(hint:List (Nat×Nat×Nat))(n:Nat)(s:ASt):ASt:=
 let h:=trim s.heap
 ⟨s.tmps,Q0 hint (List.range' n (h.length - n)) h⟩
theorem dM.tidy{P:Program}{c:Code}{Q:Exit→ASt→Prop}{s:ASt}(hint:List (Nat×Nat×Nat))(n:Nat)(h:dM P c (fun e s'=>Q e (Abs.tidy hint n s')) s):dM P c Q s:=fun C κ a w hs=>
 wp_mono (h C κ a w hs) fun _ _ _ ⟨s',κ',h1,h2⟩=>by
  obtain⟨κ1,g1⟩:=h2.trim;obtain⟨κ2,g2⟩:=g1.Q0 hint (List.range' n ((Abs.trim s'.heap).length - n));exact⟨_,κ2,h1,g2⟩
noncomputable def UY(P:Program)(call:jG)(ok:Nat→Bool)(hint:List (Nat×Nat×Nat))(big:List Nat)(go:Code→ASt→Option (Exit×ASt))(c:Code)(s:ASt):Option (Exit×ASt):=
 match c with
  | .skip=>some (.normal,s)
  | .ret=>some (.ret,s)
  | .exit id=>some (.exit id,s)
  | .seq x y=>match go x s with
   |some (.normal,s')=>go y s'
   |r=>r
  | .cond c x y=>match acA s.tmps c with
   | .bool true=>go x s
   | .bool false=>go y s
   |_=>none
  | .block id c=>match go c s with
   |some (.exit id',s')=>bif Nat.beq id' id then some (.normal,s')else some (.exit id',s')
   |r=>r
  | .loop c=>match go c s with
   |some (.normal,s')=>go (.loop c) s'
   |r=>r
  | .region _ ops draw=>apa (fun m=>match aiv P call ok ops ops.toList s.heap.length [] s.tmps (s.heap++List.replicate m .res)with
   |some (es,s')=>bif !draw ||iG ops.toList es then some (.normal,bif Nat.beq m 0 then s' else tidy hint s.heap.length s')else none
   |none=>none) (need big ops.toList)
  |_=>none
noncomputable def Mi(P:Program)(call:jG)(ok:Nat→Bool)(hint:List (Nat×Nat×Nat))(big:List Nat)(n:Nat):Code→ASt→Option (Exit×ASt):=
 Nat.rec (motive:=fun _=>Code→ASt→Option (Exit×ASt)) (fun _ _=>none) (fun _ ih=>UY P call ok hint big ih) n
theorem Vb(P:Program)(call:jG)(ok:Nat→Bool)(hint:List (Nat×Nat×Nat))(big:List Nat)(c:Code)(s:ASt):Mi P call ok hint big 0 c s=none:=rfl
theorem WQ(P:Program)(call:jG)(ok:Nat→Bool)(hint:List (Nat×Nat×Nat))(big:List Nat)(n:Nat)(c:Code)(s:ASt):Mi P call ok hint big (n+1) c s=UY P call ok hint big (Mi P call ok hint big n) c s:=rfl
theorem TY{P:Program}{call:jG}{ok:Nat→Bool}{hint:List (Nat×Nat×Nat)}{big:List Nat}(hm:P.follows .mixedOrders=true)(hc:∀f args H r,call f args H=some r→ak P f args H r.1 r.2)(hok:∀f,ok f=true→aZ P f=true):
  ∀(n:Nat) (c:Code) (s:ASt) (e:Exit) (s':ASt) (Q:Exit→ASt→Prop),Mi P call ok hint big n c s=some (e,s')→Q e s'→dM P c Q s:=by
 intro n
 induction n using Nat.strongRecOn with
 |_ n ih=>
  intro c s e s' Q h hQ;cases n with
  |zero=>rw[Vb]at h;cases h
  |succ n=>
   have ih1:=ih n (qCL n);rw[WQ]at h;have h0:=h;unfold UY at h;rw[ags]at h;split at h
   ·cases h;exact .skip hQ
   ·cases h;exact .ret hQ
   ·cases h;exact .exit hQ
   ·rename_i x y;split at h
    ·rename_i s1 hx;exact .seq (ih1 _ _ _ _ _ hx (ih1 _ _ _ _ _ h hQ))
    ·rename_i hne;refine .seq (ih1 _ _ _ _ _ h ?_);cases e with
     |normal=>exact(hne _ h).elim
     |exit id=>exact hQ
     |goto l=>exact hQ
     |ret=>exact hQ
     |panic c=>exact hQ
     |outgrown=>exact hQ
   ·rename_i cd x y;split at h
    ·rename_i hb;exact .cond hb (fun _=>ih1 _ _ _ _ _ h hQ) (fun e=>by cases e)
    ·rename_i hb;exact .cond hb (fun e=>by cases e) (fun _=>ih1 _ _ _ _ _ h hQ)
    ·cases h
   ·rename_i id c;split at h
    ·rename_i id' s1 hx;refine .block (ih1 _ _ _ _ _ hx ?_);simp only[zo];cases hb:Nat.beq id' id with
     |true=>
      rw[hb]at h;cases h;rw[if_pos (qAg hb)];exact hQ
     |false=>
      rw[hb]at h;cases h;rw[if_neg (fun e=>by rw[e,qDf id]at hb;cases hb)];exact hQ
    ·rename_i hne;refine .block (ih1 _ _ _ _ _ h ?_);cases e with
     |exit id=>exact(hne _ _ h).elim
     |normal=>exact hQ
     |goto l=>exact hQ
     |ret=>exact hQ
     |panic c=>exact hQ
     |outgrown=>exact hQ
   ·rename_i c;refine dM.loop (fun m s=>m≤n+1∧Mi P call ok hint big m (.loop c) s=some (e,s')) (n:=n+1) ⟨qAc _,h0⟩ ?_;rintro m s ⟨hle,hr⟩;cases m with
    |zero=>rw[Vb]at hr;cases hr
    |succ m=>
     have ih2:=ih m (by omega);rw[WQ]at hr;unfold UY at hr;dsimp only at hr;split at hr
     ·rename_i s1 hx;exact ih2 _ _ _ _ _ hx ⟨m,qCL m,by omega,hr⟩
     ·rename_i hne;refine ih2 _ _ _ _ _ hr ?_;cases e with
      |normal=>exact(hne _ hr).elim
      |exit id=>exact hQ
      |goto l=>exact hQ
      |ret=>exact hQ
      |panic c=>exact hQ
      |outgrown=>exact hQ
   ·rename_i id ops draw;rw[amX]at h;generalize need big ops.toList=m at h;split at h
    ·rename_i es s1 hx;cases hb:(!draw ||iG ops.toList es)with
     |false=>rw[hb]at h;cases h
     |true=>
      rw[hb]at h;simp only[cond_true,Option.some.injEq,Prod.mk.injEq]at h;obtain⟨rfl,hs1⟩:=h;have key:∀Q':Exit→ASt→Prop,Q' .normal s1→dM P (.region id ops draw) Q' s:=fun Q' hQ'=>by
       have eops:ops=ops.toList.toArray:=by simp
       rw[eops]at hx⊢;simp only[List.toList_toArray]at hx;cases draw with
       |true=>exact dM.apT m hm (agH hc hok _ _ _ (s.reserve m) _ _ hx ⟨by simpa using hb,hQ'⟩)
       |false=>
        have:=agH (K:=fun _ s'=>Q' .normal s') hc hok _ _ _ (s.reserve m) _ _ hx hQ';obtain⟨es',s2,g1,g2⟩:=RV _ _ _ _ _ this;exact dM.region m g1.steps g2
      cases hm0:Nat.beq m 0 with
      |true=>rw[hm0]at hs1;simp only[cond_true]at hs1;subst hs1;exact key Q hQ
      |false=>
       rw[hm0]at hs1;simp only[cond_false]at hs1;subst hs1;exact dM.tidy hint s.heap.length (key _ hQ)
    ·cases h
   ·cases h
def KJ(P:Program)(rs:List ResultVar)(m:Nat)(s:ASt):Option (AV×List AObj):=
 match vQ P s rs with
 |none=>none
 |some xs=>
  let v:=wh false xs
  let L:=reach s.heap 2000 (refs v++(List.range m).flatMap fun l=>Ju (obj? s.heap l)) (List.range m)
  bif Ku L&&((List.range m).all (fun i=>match L[i]? with|some l=>Nat.beq l i|none=>false)&&(L.all (fun l=>Nat.blt l s.heap.length)&&((refs v).all (has L)&&L.all (fun l=>(Ju (obj? s.heap l)).all (has L)))))
  then some (ren (posOf L) v,L.map fun l=>bN (posOf L) (obj? s.heap l))else none
theorem JA{P:Program}{rs:List ResultVar}{H:List AObj}{s:ASt}{res:AV}{H':List AObj}(h:KJ P rs H.length s=some (res,H')):∃L,zU P rs false L H res H' s:=by
 unfold KJ at h;split at h
 ·cases h
 ·rename_i xs hxs;dsimp only at h;generalize reach s.heap 2000 (refs (wh false xs)++(List.range H.length).flatMap fun l=>Ju (obj? s.heap l)) (List.range H.length)=L at h;cases hb:(Ku L&&((List.range H.length).all (fun i=>match L[i]? with|some l=>Nat.beq l i|none=>false)&&(L.all (fun l=>Nat.blt l s.heap.length)&&((refs (wh false xs)).all (has L)&&L.all (fun l=>(Ju (obj? s.heap l)).all (has L))))))with
  |false=>rw[hb]at h;cases h
  |true=>
   rw[hb]at h;simp only[cond_true,Option.some.injEq,Prod.mk.injEq]at h;obtain⟨rfl,rfl⟩:=h;simp only[qAd,qAC,qBi]at hb;obtain⟨h1,h2,h3,h4,h5⟩:=hb;have hL:∀i,i<H.length→L[i]? =some i:=fun i hi=>by
    have:=h2 i hi;split at this
    ·rename_i l hl;rw[hl,qAg this]
    ·cases this
   have hnm:∀l,l∈L→nm L s.heap.length (posOf L l)=l:=fun l hl=>by simp only[nm,O7 hl,qAi]
   refine⟨L,xs,hxs,?_,Oz h1,by simp,?_,hL,fun l hl=>?_,fun i l hi=>?_⟩
   ·rw[Ue _ fun x hx=>hnm x (Ke (h4 x hx))]
   ·cases hn:H.length with
    |zero=>exact qAV _
    |succ n=>have:=(qAk.1 (hL n (by omega))).1;omega
   ·exact qAa (h3 l hl)
   ·have e:obj? (L.map fun l=>bN (posOf L) (obj? s.heap l)) i=bN (posOf L) (obj? s.heap l):=by
     simp only[obj?,qAF,hi,qAt,qAi]
    rw[e,Zc _ fun x hx=>hnm x (Ke (h5 l (qAJ hi) x hx))]
end
section
open Go Go.Proofs Go.RowKit Go.Maps Go.Sort Go.Shelf
theorem ak4(m:Nat):AnyZ.SortsIn Tryz.prog Tryz.Np Fence.wide m:=
 ⟨fun blk off cap ss W hH hblk hsz=>callsIn_wide.2 (AnyM.slices_Sort_string Tryz.agn blk off cap ss W hH hblk hsz),
  fun p cap W=>callsIn_wide.2 (AnyM.slices_Sort_string_none Tryz.agn p cap W)⟩
set_option maxHeartbeats 1000000 in
theorem aiq(b bm nn:Nat)(D0:DataW Unit)(R:Value→Option (DataW Unit×List MemPlace))(w:World)(hbm:bm<w.heap.size)(hc:w.cell? ⟨bm,0,none⟩=some (.map (some b)))(hown:w.ownsMap Tryz.prog 9 R b nn D0)(hmax:Maps.size D0≤maxLen)(hbytes:Maps.size D0*16≤140737488355328):
  CallsIn Fence.wide 5 Tryz.prog 160 #[.func (.func 212) #[] #[.pointer (some ⟨bm,0,none⟩)]] w fun e w'=>∃(v:Value) (ss:List (List UInt8)),e=.returned v∧ss.Perm (strKeys D0)∧
   w'.ownsRow w.heap.size 9 1 v ss.length ((ss.mergeSort (fun x y=>decide (x≤y))).map encStr)∧(v=.slice none 0 0↔ss=[])∧Below w.heap.size w w':=by
 have hseq:SeqGives Fence.wide 2 Tryz.prog 212 #[.pointer (some ⟨bm,0,none⟩)] encStr (fun ss=>ss.Perm (strKeys D0)) (Maps.size D0) w:=
  AnyZ.keys_gives (ρ:=Tryz.RU) {Tryz.an5 with} Fence.wide _ trivial rfl (by omega) bm b nn D0 _ hbm hc hown
 exact AnyZ.sorted_in Tryz.akp Fence.wide 5 trivial trivial trivial trivial rfl (by omega) (ak4 _) (enters_of Tryz.func211 (by kernel_rfl) rfl) 212 #[.pointer (some ⟨bm,0,none⟩)] trivial (enters_of Tryz.func212 (by kernel_rfl) rfl) _ _ hmax hbytes _ hseq
theorem Leave.same{κ:bg}{aN:bB}{H:List AObj}{w w':World}(he:Entry κ aN H w)(hb:Go.RowKit.Below w.heap.size w w'):Leave κ κ aN H H w w':=by
 have hcell:∀b off u,w.cell? ⟨b,off,none⟩=some u→w'.cell? ⟨b,off,none⟩=some u:=fun b off u hc=>by
  have hlt:=lt_of_cell hc;simp only[World.cell?,hb.block b hlt]at hc⊢;exact hc
 have hevo:Evo (aO aN κ H) w w':=⟨hb.size,fun b off u _ hc=>hcell b off u hc,fun b c e z hx=>⟨c,by rw[hb.block b (qAI.1 hx).1];exact hx,rfl⟩⟩;exact⟨he.klen,qAc _,bV.refl _,he.resv,fun l b h1 h2=>(he.obj l b h1 h2).mono (hb.block b (he.bound l b h1)) hevo (bV.refl _) (fun _ _ h _=>h),
  fun l b h1 h2=>.inr ⟨l,h1,h2⟩,he.apart,fun l b h1=>qAq (he.bound l b h1) hb.size,fun b hlt _=>hb.block b hlt,hevo,fun _ _ h _=>h,hb.os,hb.tape,hb.output⟩
theorem afN{κ:bg}{aN:bB}{H:List AObj}{w:World}(he:Entry κ aN H w){b o:Nat}(h:aO aN κ H b o):b<w.heap.size:=by
 rcases h with h|⟨l,h1,_⟩
 ·exact he.pvlt b o h
 ·exact he.bound l b h1
theorem Pp(H:List AObj)(p m:Nat)(es:List (List UInt8×AV))(hp:obj? H p=.box [.mapr m])(hm:obj? H m=.mp es)(hb16:es.length*16≤140737488355328):
  ak Tryz.prog 160 [.func 212 [.ptr p 0]] H (.slice (((es.map (·.1)).mergeSort Wu).map encS) .shared) H:=by
 intro κ aN w vs hen hlen hr;have h0:=hr 0 (by simp)
 match vs,hlen with
 |[v],_=>
 simp only[List.getD,qAp,qAi]at h0;obtain⟨cs,rfl,hcl,hcr⟩:=h0.xI
 match cs,hcl with
 |[cp],_=>
 have h1:=hcr 0 (by simp);simp only[List.getD,qAp,qAi]at h1;obtain⟨bm,rfl,hbm⟩:=h1.tN;have ho:=hen.obj p bm hbm (by rw[hp];trivial);rw[hp]at ho;obtain⟨c,el,g1,g2,g3⟩:=ho;have h2:=g3 0 (by simp);simp only[List.getD,qAp,qAi]at h2;have hcell:w.cell? ⟨bm,0,none⟩=some (c.getD 0 undef):=by
  have:0<c.size:=by rw[g2];simp
  simp[World.cell?,g1,Array.getD,this]
 generalize c.getD 0 undef=cv at h2 hcell;cases h2 with
 |@mapr _ b hb=>
 have hmo:=hen.obj m b hb (by rw[hm];trivial);rw[hm]at hmo;obtain⟨ms,clock,k1,k2,k3,k4⟩:=hmo;have k31:es.length≤140737488355328:=by have:=k3.1;rwa[qAo]at this
 have hk9:Tryz.prog.underlying 9=some .string:=by kernel_rfl
 let R:Value→Option (DataW Unit×List MemPlace):=fun _=>some (.lit (.bool true),[])
 have hkeys:∀j,(hj:j<ms.size)→keyOf Tryz.prog 9 ms[j].key=some (.string (es.getD j ([],.unk)).1):=fun j hj=>by
  have h5:=(k4 j (by omega)).1;have e:ms.getD j default=ms[j]:=by simp[Array.getD,hj]
  rw[e]at h5;rw[h5,Go.WideMaps.keyOf_string_mk hk9];have hmem:(es.getD j ([],.unk)).1∈es.map (·.1):=by
   have hj':j<es.length:=by omega
   rw[List.getD,qAe hj',qAi];exact qAQ.2 ⟨_,qBp _,rfl⟩
  have:=k3.2.2 _ hmem;simpa[ByteArray.size,maxLen]using this
 have hrd:∀j,(hj:j<ms.size)→WideElems.rd Tryz.prog 9 R ms[j]=some (.string (es.getD j ([],.unk)).1,.lit (.bool true)):=fun j hj=>by
  simp only[WideElems.rd,hkeys j hj,qAb,R,qAt]
 have hown:w.ownsMap Tryz.prog 9 R b es.length (.map ((ms.toList.map (WideElems.rg Tryz.prog 9 R)).foldr DataW.insert [])):=by
  refine⟨ms,clock,k1,⟨?_,k3.2.1,fun x hx=>?_⟩,by omega,rfl⟩
  ·simp only[maxLen];omega
  ·obtain⟨j,hj,rfl⟩:=qCv hx;simp only[qBK]at hj;exact⟨_,by simpa using hrd j hj⟩
 have hperm:(strKeys (.map ((ms.toList.map (WideElems.rg Tryz.prog 9 R)).foldr DataW.insert []))).Perm (es.map (·.1)):=by
  simp only[strKeys];refine((WideShapes.sorted_perm _).map _).trans ?_;have e:(ms.toList.map (WideElems.rg Tryz.prog 9 R)).map (fun p=>strOf p.1)=es.map (·.1):=by
   apply qBH
   ·simp[k2]
   ·intro j h1 h2;simp only[qAo,qBK]at h1 h2;simp only[qCh,qCX];rw[WideElems.rg_of (hrd j h1)];simp[strOf,List.getD,qAe h2]
  rw[e]
 have hsz:Maps.size (H:=Unit) (.map ((ms.toList.map (WideElems.rg Tryz.prog 9 R)).foldr DataW.insert []))=es.length:=by
  rw[size_eq,DataW.length_sorted];simp[k2]
 have hcall:=callsIn_wide.1 (aiq b bm es.length _ R w (hen.bound p bm hbm) hcell hown (by rw[hsz];simp only[maxLen];omega) (by rw[hsz];exact hb16));refine hcall.mono ?_;rintro e w' ⟨v,ss,rfl,hss,hrow,_,hbel⟩;refine⟨v,κ,rfl,Leave.same hen hbel,?_⟩;have hsort:ss.mergeSort (fun x y=>decide (x≤y))=(es.map (·.1)).mergeSort Wu:=mergeSort_of_perm (hss.trans hperm);rw[hsort]at hrow;generalize hL:(es.map (·.1)).mergeSort Wu=L at hrow;have hLl:L.length=es.length:=by rw[←hL];simp
 have hssl:ss.length=es.length:=by have:=(hss.trans hperm).length_eq;simpa using this
 have hLk:∀x∈L,x.length≤9223372036854775807:=fun x hx=>k3.2.2 x (by rw[←hL]at hx;exact(List.mergeSort_perm _ _).mem_iff.1 hx);obtain⟨hrl,hrow⟩:=hrow;rcases hrow with⟨rfl,hz⟩|⟨g,cap,cur,rfl,hbase,hg,hcap,_,hcur,htake⟩
 ·have:L=[]:=qAz.1 (by omega);subst this;have:=Rel.slice (w:=w') (κ:=κ) (pv:=aO aN κ H) (es:=[]) (tag:=.shared) (a:=none) (cap:=0) 0 0 1 (fun _ _=>undef) (fun i h=>by cases h) (fun h=>(h rfl).elim) (qAc _) (by simp) (fun i j h=>by cases h) (fun i j h=>by cases h) (fun i j h=>by cases h) trivial;simpa using this
 ·have hgi:∀i,i<L.length→w'.cell? ⟨g,0+(i*1+0),none⟩=some (encStr (L.getD i [])):=fun i hi=>by
   have hcs:i<cur.size:=by omega
   have e1:cur[i]=encStr (L.getD i []):=by
    have:(cur.toList.take (ss.length*1))[i]? =some (encStr (L.getD i [])):=by
     rw[htake,qAF,qAe hi];simp[List.getD,qAe hi]
    rw[qAW,if_pos (by omega)]at this;simpa[hcs]using this
   have e0:0+(i*1+0)=i:=by omega
   rw[e0];simp[World.cell?,hg,hcs,e1]
  have hlen2:(L.map encS).length=es.length:=by simp[hLl]
  have:=Rel.slice (w:=w') (κ:=κ) (pv:=aO aN κ H) (es:=L.map encS) (tag:=.shared) (a:=some ⟨g,0,none⟩) (cap:=cap) g 0 1 (fun i _=>encStr (L.getD i []))
   (fun i hi=>by simp only[qAo]at hi;simp[List.getD,qAe hi,encS]) (fun _=>rfl) (by omega) (by omega)
   (fun i j _ _ hpv=>by have:=afN hen hpv;omega)
   (fun i j hi hj=>by
    simp only[qAo]at hi;have hj0:j=0:=by omega
    subst hj0;exact hgi i hi)
   (fun i j hi hj=>by
    simp only[qAo]at hi;have hj0:j=0:=by omega
    subst hj0;have e:((L.map encS).getD i []).getD 0 .unk=.str (L.getD i []):=by simp[List.getD,qAe hi,encS]
    rw[e];refine .str (hLk _ ?_);rw[List.getD,qAe hi];exact qBp _) trivial
  rw[hlen2]at this;rw[hssl];exact this
end
section
open Go
def eqT:Tag→Tag→Bool
 | .shared,.shared=>true
 | .nils,.nils=>true
 | .tip l z,.tip l' z'=>Nat.beq l l'&&Nat.beq z z'
 | .full n,.full m=>Nat.beq n m
 |_,_=>false
def eqB:List UInt8→List UInt8→Bool
 |[],[]=>true
 |a::s,b::t=>Nat.beq a.toNat b.toNat&&eqB s t
 |_,_=>false
mutual
def BU:AV→AV→Bool
 | .unk,.unk=>true
 | .int k n,.int k' n'=>decide (k=k')&&decide (n=n')
 | .bool b,.bool b'=>b==b'
 | .str s,.str s'=>eqB s s'
 | .nilp,.nilp=>true
 | .ptr l o,.ptr l' o'=>Nat.beq l l'&&Nat.beq o o'
 | .slice es t,.slice es' t'=>eqT t t'&&X7 es es'
 | .agg cs,.agg cs'=>Qz cs cs'
 | .tup cs,.tup cs'=>Qz cs cs'
 | .func f cs,.func f' cs'=>Nat.beq f f'&&Qz cs cs'
 | .mapr l,.mapr l'=>Nat.beq l l'
 | .nilFunc,.nilFunc=>true
 | .yv l,.yv l'=>Nat.beq l l'
 | .psl l z n,.psl l' z' n'=>Nat.beq l l'&&(Nat.beq z z'&&Nat.beq n n')
 |_,_=>false
def Qz:List AV→List AV→Bool
 |[],[]=>true
 |c::cs,c'::cs'=>BU c c'&&Qz cs cs'
 |_,_=>false
def X7:List (List AV)→List (List AV)→Bool
 |[],[]=>true
 |c::cs,c'::cs'=>Qz c c'&&X7 cs cs'
 |_,_=>false
end
def eqM:List (List UInt8×AV)→List (List UInt8×AV)→Bool
 |[],[]=>true
 |(k,v)::m,(k',v')::m'=>eqB k k'&&(BU v v'&&eqM m m')
 |_,_=>false
def eqO:AObj→AObj→Bool
 | .box cs,.box cs'=>Qz cs cs'
 | .tip n,.tip n'=>Nat.beq n n'
 | .dead,.dead=>true
 | .mp m,.mp m'=>eqM m m'
 | .arr z es,.arr z' es'=>Nat.beq z z'&&X7 es es'
 |_,_=>false
def YT:List AObj→List AObj→Bool
 |[],[]=>true
 |c::cs,c'::cs'=>eqO c c'&&YT cs cs'
 |_,_=>false
theorem aqK{x y:Tag}(h:eqT x y=true):x=y:=by
 cases x<;>cases y<;>simp only[eqT,qAd,qAx]at h
 ·rfl
 ·rfl
 ·rw[qAg h.1,qAg h.2]
 ·rw[qAg h]
theorem ac7:∀{x y:List UInt8},eqB x y=true→x=y
 |[],[],_=>rfl
 |a::s,b::t,h=>by
  simp only[eqB,qAd]at h;rw[ac7 h.2,UInt8.toNat_inj.1 (qAg h.1)]
mutual
theorem ake:∀{x y:AV},BU x y=true→x=y
 | .unk,y,h=>by cases y<;>simp[BU]at h⊢
 | .int k n,y,h=>by cases y<;>simp[BU]at h⊢;exact h
 | .bool b,y,h=>by cases y<;>simp[BU]at h⊢;exact h
 | .str s,y,h=>by cases y<;>simp only[BU,qAx]at h;rw[ac7 h]
 | .nilp,y,h=>by cases y<;>simp[BU]at h⊢
 | .ptr l o,y,h=>by
  cases y<;>simp only[BU,qAx,qAd]at h;rw[qAg h.1,qAg h.2]
 | .slice es t,y,h=>by
  cases y<;>simp only[BU,qAx,qAd]at h;rw[aqK h.1,YV h.2]
 | .agg cs,y,h=>by cases y<;>simp only[BU,qAx]at h;rw[Iw h]
 | .tup cs,y,h=>by cases y<;>simp only[BU,qAx]at h;rw[Iw h]
 | .func f cs,y,h=>by
  cases y<;>simp only[BU,qAx,qAd]at h;rw[qAg h.1,Iw h.2]
 | .mapr l,y,h=>by cases y<;>simp only[BU,qAx]at h;rw[qAg h]
 | .nilFunc,y,h=>by cases y<;>simp[BU]at h⊢
 | .yv l,y,h=>by cases y<;>simp only[BU,qAx]at h;rw[qAg h]
 | .eptr _,y,h=>by cases y<;>simp[BU]at h
 | .psl l z n,y,h=>by
  cases y<;>simp only[BU,qAx,qAd]at h;rw[qAg h.1,qAg h.2.1,qAg h.2.2]
 | .flist _,y,h=>by cases y<;>simp[BU]at h
theorem Iw:∀{x y:List AV},Qz x y=true→x=y
 |[],y,h=>by cases y<;>simp[Qz]at h⊢
 |c::cs,y,h=>by
  cases y<;>simp only[Qz,qAx,qAd]at h;rw[ake h.1,Iw h.2]
theorem YV:∀{x y:List (List AV)},X7 x y=true→x=y
 |[],y,h=>by cases y<;>simp[X7]at h⊢
 |c::cs,y,h=>by
  cases y<;>simp only[X7,qAx,qAd]at h;rw[Iw h.1,YV h.2]
end
theorem ajq:∀{x y:List (List UInt8×AV)},eqM x y=true→x=y
 |[],y,h=>by cases y<;>simp[eqM]at h⊢
 |(k,v)::m,y,h=>by
  cases y with
  |nil=>simp[eqM]at h
  |cons p m'=>
   obtain⟨k',v'⟩:=p;simp only[eqM,qAd]at h;rw[ac7 h.1,ake h.2.1,ajq h.2.2]
theorem aqF{x y:AObj}(h:eqO x y=true):x=y:=by
 cases x<;>cases y<;>simp only[eqO,qAx,qAd]at h
 ·rw[Iw h]
 ·rw[qAg h]
 ·rw[ajq h]
 ·rfl
 ·rw[qAg h.1,YV h.2]
theorem afW:∀{x y:List AObj},YT x y=true→x=y
 |[],y,h=>by cases y<;>simp[YT]at h⊢
 |c::cs,y,h=>by
  cases y<;>simp only[YT,qAx,qAd]at h;rw[aqF h.1,afW h.2]
structure Known where
 f:Nat
 args:List AV
 H:List AObj
 res:AV
 H':List AObj
def known:List Known→jG→jG
 |[],E,f,args,H=>E f args H
 |e::m,E,f,args,H=>bif Nat.beq e.f f&&(Qz e.args args&&YT e.H H)then some (e.res,e.H')else known m E f args H
theorem adu{P:Program}{E:jG}(hE:∀f args H r,E f args H=some r→ak P f args H r.1 r.2):∀(m:List Known),(∀e∈m,ak P e.f e.args e.H e.res e.H')→∀f args H r,known m E f args H=some r→ak P f args H r.1 r.2
 |[],_,f,args,H,r,h=>hE f args H r h
 |e::m,hm,f,args,H,r,h=>by
  unfold known at h;cases hb:(Nat.beq e.f f&&(Qz e.args args&&YT e.H H))with
  |false=>rw[hb]at h;exact adu hE m (fun e he=>hm e (qCW _ he)) f args H r h
  |true=>
   rw[hb]at h;simp only[cond_true,Option.some.injEq]at h;subst h;simp only[qAd]at hb;have:=hm e (by simp);rw[qAg hb.1,Iw hb.2.1,afW hb.2.2]at this;exact this
end
end Abs
end Go.Proofs.YtkopaeklihhdlaaGreat
