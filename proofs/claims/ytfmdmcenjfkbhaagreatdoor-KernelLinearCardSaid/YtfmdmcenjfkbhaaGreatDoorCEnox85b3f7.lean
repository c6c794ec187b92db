/-
  Printed by gend.py. Conditions: none.
-/
import Derived.KernelRfl
import Derived.Shelf.SlGeneric
import Derived.Shelf.SlIter.Nil
import Derived.Shelf.SortM.Plain
import Derived.Shelf.SortM.SortNone
import Derived.Ground.GgzProg
import Derived.Ground.SlgmProg
import Derived.Test.YtfmdmcenjfkbhaaGreatDoorProg
import Derived.Tactics
import Derived.Tactics2
import Derived.WalkKit
import Derived.Laws.Externs
import Derived.Defers
import Derived.Recover
import Derived.Test.YtfmdmcenjfkbhaaGreatDoorCFnox42f2cd
import Derived.Test.YtfmdmcenjfkbhaaGreatDoorCD28oxff2ea2
set_option linter.all false
namespace Go.Proofs.YtfmdmcenjfkbhaaGreatDoor
namespace Abs
open Go Go.Proofs
set_option maxRecDepth 100000
abbrev Sk.I:Sk:=.lf (.n .i64)
abbrev Sk.U:Sk:=.lf (.n .u8)
abbrev Sk.S:Sk:=.lf .s
abbrev Sk.B:Sk:=.lf .b
abbrev Sk.Li:Sk:=.lf (.l .i)
abbrev Sk.Lu:Sk:=.lf (.l .u)
abbrev Sk.Ls:Sk:=.lf (.l .s)
abbrev Sk.Lb:Sk:=.lf (.l .b)
abbrev Sk.Lcar:Sk:=.lf (.l .car)
abbrev Sk.Ldec:Sk:=.lf (.l .dec)
abbrev Sk.Lty:Sk:=.lf (.l .ty)
abbrev Sk.Ltm:Sk:=.lf (.l .tm)
abbrev Sk.Lenv:Sk:=.lf (.l .env)
abbrev Sk.Lval:Sk:=.lf (.l .val)
abbrev Sk.Lbnd:Sk:=.lf (.l .bnd)
abbrev Sk.Lvals:Sk:=.lf (.l .vals)
abbrev Sk.Ltms:Sk:=.lf (.l .tms)
abbrev Sk.Ti:Sk:=.lf (.t .i)
abbrev Sk.Tu:Sk:=.lf (.t .u)
abbrev Sk.Ts:Sk:=.lf (.t .s)
abbrev Sk.Tb:Sk:=.lf (.t .b)
abbrev Sk.Tcar:Sk:=.lf (.t .car)
abbrev Sk.Tdec:Sk:=.lf (.t .dec)
abbrev Sk.Tty:Sk:=.lf (.t .ty)
abbrev Sk.Ttm:Sk:=.lf (.t .tm)
abbrev Sk.Tenv:Sk:=.lf (.t .env)
abbrev Sk.Tval:Sk:=.lf (.t .val)
abbrev Sk.Tbnd:Sk:=.lf (.t .bnd)
abbrev Sk.Tvals:Sk:=.lf (.t .vals)
abbrev Sk.Ttms:Sk:=.lf (.t .tms)
abbrev Sk.Fd:Sk:=.lf (.f .dec)
def E0(f na:Nat)(ps:List Ed)(nr:Nat)(rs:List Ed)(F:eG (aR ps)→Option (eG (aR rs))):Ent:=⟨f,na,ps,nr,rs,eG (aR rs),none,none,F,fun r=>r⟩
def TE:Nat:=29
def θl:List (Nat×ET):=[(2,.i),(3,.i),(4,.b),(5,.u),(6,.u),(9,.s),(10,.s),(11,.s),(24,.ty),(25,.tms),(27,.tm),(29,.i),(50,.dec),(54,.env),(106,.car),(284,.i),(329,.u),(330,.u)]
noncomputable def θ(t:Nat):Option ET:=List.rec (motive:=fun _=>Option ET) none (fun p _ ih=>bif Nat.beq p.1 t then some p.2 else ih) θl
def dL(n:Nat):Ent:=E0 4 1 [.r 0 .Ttm] 4 [.r 0 .Ltm,.r 1 .Li,.r 2 .I,.r 3 .I] fun x=>nW n x
def Wj(n:Nat):Ent:=E0 8 0 [] 1 [.r 0 .B] fun x=>RU n
def Ez(n:Nat):Ent:=E0 41 1 [.r 0 .Ltm] 1 [.r 0 (.psl 0 7),.w (.arr .tm)] fun x=>mI n x
def pR(n:Nat):Ent:=E0 14 1 [.r 0 .Li] 1 [.r 0 (.psl 0 1),.w (.arr .i)] fun x=>slices_Clone_int n x
def oG(n:Nat):Ent:=E0 73 2 [.r 0 .Ls,.r 1 .S] 1 [.r 0 .I] fun x=>lT n x.1 x.2
def Ae(n:Nat):Ent:=E0 64 1 [.r 0 .Ls] 1 [.r 0 (.own 0),.w (.own .s)] fun x=>eB n x
def BS(n:Nat):Ent:=E0 46 1 [.r 0 .Li] 1 [.r 0 (.lf (.c .i))] fun x=>iw n x
def O6(n:Nat):Ent:=⟨47,1,[.r 0 .I],0,[],Unit,(some []),none,fun x=>Hz n x,fun r=>r⟩
def NH(n:Nat):Ent:=E0 74 1 [.r 0 .I] 1 [.r 0 .I] fun x=>Gy n x
def HY(n:Nat):Ent:=E0 82 1 [.r 0 .U] 1 [.r 0 .B] fun x=>wK n x
def Uq(n:Nat):Ent:=E0 144 2 [.r 0 .S,.r 1 .Ls] 1 [.r 0 .B] fun x=>PS n x.1 x.2
def Fq(n:Nat):Ent:=E0 83 1 [.r 0 .S] 1 [.r 0 .B] fun x=>yC n x
def La(n:Nat):Ent:=E0 84 1 [.r 0 .U] 1 [.r 0 .B] fun x=>DZ n x
def Az(n:Nat):Ent:=E0 77 1 [.r 0 .S] 1 [.r 0 .B] fun x=>jh n x
def Ir(n:Nat):Ent:=E0 140 1 [.r 0 .S] 1 [.r 0 .B] fun x=>Af n x
def Kh(n:Nat):Ent:=E0 75 1 [.r 0 .S] 1 [.r 0 .B] fun x=>C8 n x
def Ip(n:Nat):Ent:=E0 76 1 [.r 0 .I] 1 [.r 0 .B] fun x=>nA n x
def Kk(n:Nat):Ent:=E0 141 3 [.r 0 .Tty,.r 1 .I,.r 2 .I] 1 [.r 0 .I] fun x=>nJ n x.1 x.2.1 x.2.2
def BU(n:Nat):Ent:=E0 78 1 [.r 0 .Tty] 1 [.r 0 .B] fun x=>zP n x
def Ej(n:Nat):Ent:=E0 79 1 [.r 0 .Tty] 1 [.r 0 .B] fun x=>vR n x
def Ou(n:Nat):Ent:=E0 48 1 [.r 0 .Ttm] 1 [.r 0 .B] fun x=>G7 n x
def J3(n:Nat):Ent:=E0 27 3 [.r 0 .Ttm,.r 1 .I,.r 2 .I] 1 [.r 0 .I] fun x=>rU n x.1 x.2.1 x.2.2
def LZ(n:Nat):Ent:=E0 15 1 [.r 0 .Ttm] 1 [.r 0 .B] fun x=>zT n x
def Lx(n:Nat):Ent:=E0 49 1 [.r 0 .I] 1 [.r 0 .B] fun x=>zB n x
def EY(n:Nat):Ent:=⟨28,1,[.r 0 (.agg [.Ltm,.Li,.I])],2,[.r 0 (.agg [.Ltm,.Li,.I]),.r 1 .I],(S_refinementref04_form×Int),none,none,fun x=>nP n (S_refinementref04_form.mk x.1 x.2.1 x.2.2),fun r=>(r.1.atoms,r.1.coefs,r.1.c,r.2)⟩
def IB(n:Nat):Ent:=⟨29,2,[.r 0 (.agg [.Ltm,.Li,.I]),.r 1 .I],2,[.r 0 (.agg [.Ltm,.Li,.I]),.r 1 .I],(S_refinementref04_form×Int),none,none,fun x=>sG n (S_refinementref04_form.mk x.1 x.2.1 x.2.2.1) x.2.2.2,fun r=>(r.1.atoms,r.1.coefs,r.1.c,r.2)⟩
def En(n:Nat):Ent:=E0 32 2 [.r 0 .Tty,.r 1 .Tty] 1 [.r 0 .B] fun x=>iB n x.1 x.2
def Oj(n:Nat):Ent:=E0 142 2 [.r 0 .S,.r 1 .Ls] 1 [.r 0 .I] fun x=>u7 n x.1 x.2
def Oi(n:Nat):Ent:=E0 143 2 [.r 0 .Ls,.r 1 .S] 1 [.r 0 .Ls] fun x=>uL n x.1 x.2
def Lc(n:Nat):Ent:=E0 80 4 [.r 0 .Ttm,.r 1 .Ttm,.r 2 .Ls,.r 3 .Ls] 1 [.r 0 .B] fun x=>rM n x.1 x.2.1 x.2.2.1 x.2.2.2
def Ls(n:Nat):Ent:=E0 50 2 [.r 0 .Ttm,.r 1 .Ttm] 1 [.r 0 .B] fun x=>Du n x.1 x.2
def LQ(n:Nat):Ent:=⟨30,3,[.r 0 (.agg [.Ltm,.Li,.I]),.r 1 (.agg [.Ltm,.Li,.I]),.r 2 .I],2,[.r 0 (.agg [.Ltm,.Li,.I]),.r 1 .I],(S_refinementref04_form×Int),none,none,fun x=>y7 n (S_refinementref04_form.mk x.1 x.2.1 x.2.2.1) (S_refinementref04_form.mk x.2.2.2.1 x.2.2.2.2.1 x.2.2.2.2.2.1) x.2.2.2.2.2.2,fun r=>(r.1.atoms,r.1.coefs,r.1.c,r.2)⟩
def Iu(n:Nat):Ent:=⟨16,1,[.r 0 .Ttm],2,[.r 0 (.agg [.Ltm,.Li,.I]),.r 1 .I],(S_refinementref04_form×Int),none,none,fun x=>wH n x,fun r=>(r.1.atoms,r.1.coefs,r.1.c,r.2)⟩
def Em(n:Nat):Ent:=E0 51 1 [.r 0 .Tty] 1 [.r 0 .Tty] fun x=>jH n x
def Br(n:Nat):Ent:=E0 17 1 [.r 0 .Ltm] 1 [.r 0 .Ltm] fun x=>nu n x
def EU(n:Nat):Ent:=E0 31 1 [.r 0 .Ttm] 1 [.r 0 .Ttm] fun x=>qE n x
def Ib(n:Nat):Ent:=E0 5 1 [.r 0 .Ttm] 4 [.r 0 .Ltm,.r 1 .Li,.r 2 .I,.r 3 .I] fun x=>Am n x
def uN(n:Nat):Ent:=E0 6 2 [.r 0 .Ltm,.r 1 .Ltm] 1 [.r 0 .B] fun x=>jM n x.1 x.2
def xC(n:Nat):Ent:=E0 18 2 [.r 0 .Ttm,.r 1 .Ttm] 1 [.r 0 .B] fun x=>jG n x.1 x.2
def Ep(n:Nat):Ent:=E0 7 2 [.r 0 .Li,.r 1 .Li] 1 [.r 0 .B] fun x=>vM n x.1 x.2
def xH(n:Nat):Ent:=E0 3 1 [.r 0 .Ttm] 1 [.r 0 .B] fun x=>sS n x
def tV(n:Nat):Ent:=E0 37 2 [.r 0 (.ptr 0 0),.r 1 .I,.w (.box [.I,.I,.I])] 1 [.r 0 .B,.o 0 (.bx [(0,.lf (.n .i64))])] fun x=>gK n x.2.1 x.2.2.1 x.2.2.2 x.1
def Ie(n:Nat):Ent:=E0 65 1 [.r 0 .I] 2 [.r 0 .I,.r 1 .B] fun x=>AQ n x
def kQ(n:Nat):Ent:=E0 233 2 [.r 0 .S,.r 1 .S] 1 [.r 0 .B] fun x=>iY n x.1 x.2
def kF(n:Nat):Ent:=E0 184 2 [.r 0 .S,.r 1 .S] 1 [.r 0 .S] fun x=>iN n x.1 x.2
def sO(n:Nat):Ent:=E0 133 2 [.r 0 .S,.r 1 .S] 1 [.r 0 .S] fun x=>strings_TrimSuffix n x.1 x.2
def Eb(n:Nat):Ent:=E0 134 1 [.r 0 .U] 1 [.r 0 .B] fun x=>q9 n x
def BO(n:Nat):Ent:=E0 135 1 [.r 0 .S] 1 [.r 0 .B] fun x=>uo n x
def Fz(n:Nat):Ent:=E0 185 1 [.r 0 .U] 1 [.r 0 .B] fun x=>yG n x
def D8(n:Nat):Ent:=E0 136 1 [.r 0 .U] 1 [.r 0 .B] fun x=>vN n x
def xK(n:Nat):Ent:=E0 68 1 [.r 0 .S] 1 [.r 0 .B] fun x=>iU n x
def Gl(n:Nat):Ent:=E0 66 1 [.r 0 .S] 1 [.r 0 .B] fun x=>tN n x
def Er(n:Nat):Ent:=E0 67 1 [.r 0 .I] 1 [.r 0 .B] fun x=>lY n x
def lu(n:Nat):Ent:=E0 234 2 [.r 0 .Lty,.r 1 (.func 187 [.ptr 0 0,.ptr 2 0]),.w (.box [.ptr 1 0]),.w (.box [.I,.I,.I]),.w (.box [.I])] 1 [.r 0 .I,.o 1 (.bx [(0,.lf (.n .i64))])] fun x=>fZ n x.1 x.2.1 x.2.2.1 x.2.2.2.1 x.2.2.2.2
def jX(n:Nat):Ent:=E0 186 2 [.r 0 .Lty,.r 1 (.func 187 [.ptr 0 0,.ptr 2 0]),.w (.box [.ptr 1 0]),.w (.box [.I,.I,.I]),.w (.box [.I])] 1 [.r 0 .B,.o 1 (.bx [(0,.lf (.n .i64))])] fun x=>bL n x.1 x.2.1 x.2.2.1 x.2.2.2.1 x.2.2.2.2
def kZ(n:Nat):Ent:=E0 137 4 [.r 0 (.ptr 0 0),.r 1 .Tty,.r 2 .I,.r 3 .B,.w (.box [.I,.I,.I])] 1 [.r 0 .B,.o 0 (.bx [(0,.lf (.n .i64))])] fun x=>dD n x.2.2.2.1 x.2.2.2.2.1 x.2.2.2.2.2 x.1 x.2.1 x.2.2.1
def kr(n:Nat):Ent:=E0 187 3 [.r 0 .Tty,.r 1 (.ptr 0 0),.r 2 (.ptr 2 0),.w (.box [.ptr 1 0]),.w (.box [.I,.I,.I]),.w (.box [.I])] 1 [.r 0 .B,.o 1 (.bx [(0,.lf (.n .i64))])] fun x=>bS n x.1 x.2.1 x.2.2.1 x.2.2.2.1 x.2.2.2.2
def zu(n:Nat):Ent:=E0 69 1 [.r 0 .Tty] 1 [.r 0 .B] fun x=>u6 n x
def A8(n:Nat):Ent:=E0 70 1 [.r 0 .Tty] 1 [.r 0 .B] fun x=>rJ n x
def Ef(n:Nat):Ent:=E0 38 1 [.r 0 .Ttm] 1 [.r 0 .B] fun x=>vJ n x
def kC(n:Nat):Ent:=E0 42 2 [.r 0 .Ltm,.r 1 (.func 40 [.ptr 0 0,.ptr 2 0]),.w (.box [.ptr 1 0]),.w (.box [.I,.I,.I]),.w (.box [.I])] 1 [.r 0 .I,.o 1 (.bx [(0,.lf (.n .i64))])] fun x=>eU n x.1 x.2.1 x.2.2.1 x.2.2.2.1 x.2.2.2.2
def jA(n:Nat):Ent:=E0 39 2 [.r 0 .Ltm,.r 1 (.func 40 [.ptr 0 0,.ptr 2 0]),.w (.box [.ptr 1 0]),.w (.box [.I,.I,.I]),.w (.box [.I])] 1 [.r 0 .B,.o 1 (.bx [(0,.lf (.n .i64))])] fun x=>cK n x.1 x.2.1 x.2.2.1 x.2.2.2.1 x.2.2.2.2
def oK(n:Nat):Ent:=E0 22 3 [.r 0 (.ptr 0 0),.r 1 .Ttm,.r 2 .I,.w (.box [.I,.I,.I])] 1 [.r 0 .B,.o 0 (.bx [(0,.lf (.n .i64))])] fun x=>fP n x.2.2.1 x.2.2.2.1 x.2.2.2.2 x.1 x.2.1
def mZ(n:Nat):Ent:=E0 40 3 [.r 0 .Ttm,.r 1 (.ptr 0 0),.r 2 (.ptr 2 0),.w (.box [.ptr 1 0]),.w (.box [.I,.I,.I]),.w (.box [.I])] 1 [.r 0 .B,.o 1 (.bx [(0,.lf (.n .i64))])] fun x=>dB n x.1 x.2.1 x.2.2.1 x.2.2.2.1 x.2.2.2.2
def pV(n:Nat):Ent:=E0 9 1 [.r 0 .Ttm] 1 [.r 0 .B] fun x=>nT n x
def BZ(n:Nat):Ent:=E0 71 1 [.r 0 .Ttm] 1 [.r 0 .B] fun x=>zN n x
def oP(n:Nat):Ent:=E0 42 2 [.r 0 .Ltm,.r 1 (.func 71 [])] 1 [.r 0 .I] fun x=>qM n x
def ow(n:Nat):Ent:=E0 39 2 [.r 0 .Ltm,.r 1 (.func 71 [])] 1 [.r 0 .B] fun x=>o9 n x
def Gh(n:Nat):Ent:=E0 44 1 [.r 0 .Ltm] 1 [.r 0 .B] fun x=>xS n x
def tX(n:Nat):Ent:=E0 72 2 [.r 0 .Tty,.r 1 .Tty] 1 [.r 0 .B] fun x=>jm n x.1 x.2
def lq(n:Nat):Ent:=E0 138 3 [.r 0 .Lty,.r 1 .Lty,.r 2 (.func 72 [])] 1 [.r 0 .B] fun x=>jU n x.1 x.2
def wh(n:Nat):Ent:=E0 45 3 [.r 0 (.agg [.Ls,.Ls]),.r 1 .Ttm,.r 2 .Ttm] 1 [.r 0 .B] fun x=>iE n (S_term_scope.mk x.1 x.2.1) x.2.2.1 x.2.2.2
def Gn(n:Nat):Ent:=E0 24 2 [.r 0 .Ttm,.r 1 .Ttm] 1 [.r 0 .B] fun x=>yw n x.1 x.2
def oN(n:Nat):Ent:=E0 43 3 [.r 0 .Ttm,.r 1 (.ptr 0 0),.r 2 (.ptr 1 0),.w (.box [.func 24 []]),.w (.box [.I,.S,.I,.I,.S,.Lty,.Ltm])] 1 [.r 0 .B] fun x=>jv n x.1 x.2.1 x.2.2.1 x.2.2.2.1 x.2.2.2.2.1 x.2.2.2.2.2.1 x.2.2.2.2.2.2.1 x.2.2.2.2.2.2.2
def qO(n:Nat):Ent:=E0 42 2 [.r 0 .Ltm,.r 1 (.func 43 [.ptr 0 0,.ptr 1 0]),.w (.box [.func 24 []]),.w (.box [.I,.S,.I,.I,.S,.Lty,.Ltm])] 1 [.r 0 .I] fun x=>mR n x.1 x.2.1 x.2.2.1 x.2.2.2.1 x.2.2.2.2.1 x.2.2.2.2.2.1 x.2.2.2.2.2.2.1 x.2.2.2.2.2.2.2
def qN(n:Nat):Ent:=⟨23,4,[.r 0 (.agg [.Ltm,.Li,.I]),.r 1 .I,.r 2 (.agg [.Ltm,.Li,.I]),.r 3 (.func 24 [])],1,[.r 0 (.agg [.Ltm,.Li,.I])],S_api_Term_,none,none,fun x=>gq n (S_api_Term_.mk x.1 x.2.1 x.2.2.1) x.2.2.2.1 (S_api_Term_.mk x.2.2.2.2.1 x.2.2.2.2.2.1 x.2.2.2.2.2.2),fun r=>(r.atoms,r.coefs,r.c)⟩
def y9(n:Nat):Ent:=⟨25,1,[.r 0 (.agg [.Ltm,.Li,.I])],1,[.r 0 (.agg [.Ltm,.Li,.I])],S_api_Term_,(some []),none,fun x=>mP n (S_api_Term_.mk x.1 x.2.1 x.2.2),fun r=>(r.atoms,r.coefs,r.c)⟩
def lQ(n:Nat):Ent:=⟨12,1,[.r 0 .Ttm],1,[.r 0 (.agg [.Ltm,.Li,.I])],S_api_Term_,(some []),none,fun x=>fu n x,fun r=>(r.atoms,r.coefs,r.c)⟩
def xJ(n:Nat):Ent:=E0 26 1 [.r 0 .Tty] 1 [.r 0 .Tty] fun x=>jV n x
def mH(n:Nat):Ent:=E0 13 1 [.r 0 .Ttm] 1 [.r 0 .Ttm] fun x=>jf n x
theorem mk(m:Nat)(hs:List (Nat×Hn)){E:List Ent}{fn:Func}{e:Ent}{inn:eG (aR e.rs)→Option e.R}(hE:EOs Tryz.prog TE E)(hf:Tryz.prog.funcs[e.f]? =some fn)(hc:PX Tryz.prog fn e=true:=by kernel_rfl)(hinn:∀z y,inn z=some y→e.out y=z:=by exact sm)(q:∀x,RB τ θ m hs E TE fn e inn x=e.F x:=by intro _;kernel_rfl):aF Tryz.prog TE e:=mkE jr (by kernel_rfl) (by kernel_rfl) hE hf hc hinn q
theorem MKS m hs{E fn f na ps nr rs F}(hE:EOs Tryz.prog TE E)(hf:Tryz.prog.funcs[f]? =some fn)(hc:PX Tryz.prog fn (E0 f na ps nr rs F)=true:=by kernel_rfl)(q:∀x,RB τ θ m hs E TE fn (E0 f na ps nr rs F) some x=F x:=by intro _;kernel_rfl):aF Tryz.prog TE (E0 f na ps nr rs F):=mk m hs (e:=(E0 f na ps nr rs F)) hE hf hc (fun _ _ h=>by cases h;rfl) q
end Abs
end Go.Proofs.YtfmdmcenjfkbhaaGreatDoor
namespace Go.Proofs
open Go.Shelf
def Tryz.H6:Go.Shelf.Ren:=⟨fun|7=>198|10=>243|n=>n,fun|23=>143|26=>9|3=>4|28=>184|0=>0|27=>183|33=>110|4=>4|n=>n,fun|n=>n⟩
set_option maxRecDepth 100000 in
theorem Tryz.acT:Go.Proofs.SlLaysZ.n7 Tryz.prog Tryz.H6:={
 mixed:=by kernel_rfl
 f7:=⟨Tryz.f198.name,by decide,Tryz.func198.trans (congrArg some (by kernel_rfl))⟩
 f10:=⟨Tryz.f243.name,by decide,Tryz.func243.trans (congrArg some (by kernel_rfl))⟩
 t0:=Tryz.underlying0
 a0:=Tryz.isAgg0
 z0:=Tryz.sizeOf0
 v0:=Tryz.zeroValue0
 t4:=Tryz.underlying4
 a4:=Tryz.isAgg4
 z4:=Tryz.sizeOf4
 v4:=Tryz.zeroValue4
 t23:=Tryz.underlying143
 a23:=Tryz.isAgg143
 z23:=Tryz.sizeOf143
 v23:=Tryz.zeroValue143
 t26:=Tryz.underlying9
 a26:=Tryz.isAgg9
 z26:=Tryz.sizeOf9
 v26:=Tryz.zeroValue9
 t27:=Tryz.underlying183
 a27:=Tryz.isAgg183
 z27:=Tryz.sizeOf183
 v27:=Tryz.zeroValue183
 t28:=Tryz.underlying184
 a28:=Tryz.isAgg184
 z28:=Tryz.sizeOf184
 v28:=Tryz.zeroValue184
 t33:=Tryz.underlying110
 a33:=Tryz.isAgg110
 z33:=Tryz.sizeOf110
 v33:=Tryz.zeroValue110}
def Tryz.Ee:Go.Shelf.Ren:=⟨fun|6=>197|8=>241|9=>242|11=>313|13=>315|12=>314|23=>362|24=>363|14=>353|15=>354|16=>355|17=>356|18=>357|19=>358|20=>359|21=>360|22=>361|25=>378|26=>379|27=>380|28=>381|29=>382|30=>383|31=>393|n=>n,fun|26=>9|28=>184|24=>84|0=>0|3=>3|37=>264|48=>291|50=>293|4=>4|40=>285|39=>284|45=>108|5=>5|9=>9|51=>303|55=>307|57=>315|58=>178|33=>110|n=>n,fun|n=>n⟩
set_option maxRecDepth 100000 in
theorem Tryz.Yg:Go.Proofs.SlLaysZ.n6 Tryz.prog Tryz.Ee:={
 mixed:=by kernel_rfl
 f6:=⟨Tryz.f197.name,by decide,Tryz.func197.trans (congrArg some (by kernel_rfl))⟩
 f8:=⟨Tryz.f241.name,by decide,Tryz.func241.trans (congrArg some (by kernel_rfl))⟩
 f11:=⟨Tryz.f313.name,by decide,Tryz.func313.trans (congrArg some (by kernel_rfl))⟩
 t0:=Tryz.underlying0
 a0:=Tryz.isAgg0
 z0:=Tryz.sizeOf0
 v0:=Tryz.zeroValue0
 t24:=Tryz.underlying84
 a24:=Tryz.isAgg84
 z24:=Tryz.sizeOf84
 v24:=Tryz.zeroValue84
 t26:=Tryz.underlying9
 a26:=Tryz.isAgg9
 z26:=Tryz.sizeOf9
 v26:=Tryz.zeroValue9
 t28:=Tryz.underlying184
 a28:=Tryz.isAgg184
 z28:=Tryz.sizeOf184
 v28:=Tryz.zeroValue184
 i26:=by kernel_rfl}
def Tryz.TK:Go.Shelf.Ren:=⟨fun|6=>242|8=>315|9=>314|19=>362|20=>363|21=>353|22=>354|23=>355|24=>356|25=>357|26=>358|27=>359|28=>360|29=>361|36=>378|31=>379|32=>380|37=>381|38=>382|39=>383|41=>393|n=>n,fun|27=>84|29=>9|3=>3|32=>264|26=>84|0=>0|44=>291|46=>293|4=>4|36=>285|35=>284|41=>108|5=>5|9=>9|53=>303|57=>307|63=>315|64=>178|n=>n,fun|n=>n⟩
set_option maxRecDepth 100000 in
theorem Tryz.UA:Go.Proofs.SlLaysM.n6 Tryz.prog Tryz.TK:={
 mixed:=by kernel_rfl
 f6:=⟨Tryz.f242.name,by decide,Tryz.func242.trans (congrArg some (by kernel_rfl))⟩
 f8:=Tryz.func315.trans (congrArg some (by kernel_rfl))
 f9:=⟨Tryz.f314.name,by decide,Tryz.func314.trans (congrArg some (by kernel_rfl))⟩
 f19:=Tryz.func362.trans (congrArg some (by kernel_rfl))
 f20:=Tryz.func363.trans (congrArg some (by kernel_rfl))
 f21:=⟨Tryz.f353.name,by decide,Tryz.func353.trans (congrArg some (by kernel_rfl))⟩
 f22:=⟨Tryz.f354.name,by decide,Tryz.func354.trans (congrArg some (by kernel_rfl))⟩
 f23:=⟨Tryz.f355.name,by decide,Tryz.func355.trans (congrArg some (by kernel_rfl))⟩
 f24:=⟨Tryz.f356.name,by decide,Tryz.func356.trans (congrArg some (by kernel_rfl))⟩
 f25:=⟨Tryz.f357.name,by decide,Tryz.func357.trans (congrArg some (by kernel_rfl))⟩
 f26:=⟨Tryz.f358.name,by decide,Tryz.func358.trans (congrArg some (by kernel_rfl))⟩
 f27:=⟨Tryz.f359.name,by decide,Tryz.func359.trans (congrArg some (by kernel_rfl))⟩
 f28:=⟨Tryz.f360.name,by decide,Tryz.func360.trans (congrArg some (by kernel_rfl))⟩
 f29:=⟨Tryz.f361.name,by decide,Tryz.func361.trans (congrArg some (by kernel_rfl))⟩
 f31:=Tryz.func379.trans (congrArg some (by kernel_rfl))
 f32:=Tryz.func380.trans (congrArg some (by kernel_rfl))
 f36:=⟨Tryz.f378.name,by decide,Tryz.func378.trans (congrArg some (by kernel_rfl))⟩
 f37:=⟨Tryz.f381.name,by decide,Tryz.func381.trans (congrArg some (by kernel_rfl))⟩
 f38:=⟨Tryz.f382.name,by decide,Tryz.func382.trans (congrArg some (by kernel_rfl))⟩
 f39:=⟨Tryz.f383.name,by decide,Tryz.func383.trans (congrArg some (by kernel_rfl))⟩
 f41:=⟨Tryz.f393.name,by decide,Tryz.func393.trans (congrArg some (by kernel_rfl))⟩
 t0:=Tryz.underlying0
 a0:=Tryz.isAgg0
 z0:=Tryz.sizeOf0
 v0:=Tryz.zeroValue0
 t3:=Tryz.underlying3
 a3:=Tryz.isAgg3
 z3:=Tryz.sizeOf3
 v3:=Tryz.zeroValue3
 t4:=Tryz.underlying4
 a4:=Tryz.isAgg4
 z4:=Tryz.sizeOf4
 v4:=Tryz.zeroValue4
 t5:=Tryz.underlying5
 a5:=Tryz.isAgg5
 z5:=Tryz.sizeOf5
 v5:=Tryz.zeroValue5
 t9:=Tryz.underlying9
 a9:=Tryz.isAgg9
 z9:=Tryz.sizeOf9
 v9:=Tryz.zeroValue9
 t26:=Tryz.underlying84
 a26:=Tryz.isAgg84
 z26:=Tryz.sizeOf84
 v26:=Tryz.zeroValue84
 t27:=Tryz.underlying84
 a27:=Tryz.isAgg84
 z27:=Tryz.sizeOf84
 v27:=Tryz.zeroValue84
 t29:=Tryz.underlying9
 a29:=Tryz.isAgg9
 z29:=Tryz.sizeOf9
 v29:=Tryz.zeroValue9
 t32:=Tryz.underlying264
 a32:=Tryz.isAgg264
 z32:=Tryz.sizeOf264
 v32:=Tryz.zeroValue264
 t35:=Tryz.underlying284
 a35:=Tryz.isAgg284
 z35:=Tryz.sizeOf284
 v35:=Tryz.zeroValue284
 t36:=Tryz.underlying285
 a36:=Tryz.isAgg285
 z36:=Tryz.sizeOf285
 v36:=Tryz.zeroValue285
 t41:=Tryz.underlying108
 a41:=Tryz.isAgg108
 z41:=Tryz.sizeOf108
 v41:=Tryz.zeroValue108
 t44:=Tryz.underlying291
 a44:=Tryz.isAgg291
 z44:=Tryz.sizeOf291
 v44:=Tryz.zeroValue291
 t46:=Tryz.underlying293
 a46:=Tryz.isAgg293
 z46:=Tryz.sizeOf293
 v46:=Tryz.zeroValue293
 t53:=Tryz.underlying303
 a53:=Tryz.isAgg303
 z53:=Tryz.sizeOf303
 v53:=Tryz.zeroValue303
 t57:=Tryz.underlying307
 a57:=Tryz.isAgg307
 z57:=Tryz.sizeOf307
 v57:=Tryz.zeroValue307
 t63:=Tryz.underlying315
 a63:=Tryz.isAgg315
 z63:=Tryz.sizeOf315
 v63:=Tryz.zeroValue315
 t64:=Tryz.underlying178
 a64:=Tryz.isAgg178
 z64:=Tryz.sizeOf178
 v64:=Tryz.zeroValue178}
end Go.Proofs
namespace Go.Proofs.YtfmdmcenjfkbhaaGreatDoor
namespace Abs
section
open Go
def abT:Tag→List Nat
 | .tip l _=>[l]
 | .shared=>[]
 | .nils=>[]
 | .full _=>[]
mutual
def refs:AV→List Nat
 | .ptr l _=>[l]
 | .mapr l=>[l]
 | .eptr cs=>qJ cs
 | .slice es t=>Ca es++abT t
 | .agg cs=>qJ cs
 | .tup cs=>qJ cs
 | .func _ cs=>qJ cs
 | .psl l _ _=>[l]
 | .flist ns=>Ca ns
 | .unk=>[]
 | .int _ _=>[]
 | .bool _=>[]
 | .str _=>[]
 | .nilp=>[]
 | .ifc _ _=>[]
 | .nilFunc=>[]
def qJ:List AV→List Nat
 |[]=>[]
 |c::cs=>refs c++qJ cs
def Ca:List (List AV)→List Nat
 |[]=>[]
 |c::cs=>qJ c++Ca cs
end
def Au:AObj→List Nat
 | .box cs=>qJ cs
 | .mp es=>es.flatMap fun p=>refs p.2
 | .arr _ es=>Ca es
 | .tip _=>[]
 | .dead=>[]
 | .res=>[]
mutual
theorem JC{g h:Nat→Nat}:∀x:AV,(∀l∈refs x,g (h l)=l)→ren g (ren h x)=x
 | .ptr l o,hx=>by simp only[ren];rw[hx l (by simp[refs])]
 | .mapr l,hx=>by simp only[ren];rw[hx l (by simp[refs])]
 | .eptr cs,hx=>by simp only[ren];rw[nE cs (by simpa[refs]using hx)]
 | .slice es t,hx=>by
  simp only[refs,qAy]at hx
  simp only[ren];rw[yh es (fun l hl=>hx l (.inl hl))]
  cases t with
  |tip l z=>simp only[mg];rw[hx l (.inr (by simp[abT]))]
  |shared=>rfl
  |nils=>rfl
  |full n=>rfl
 | .agg cs,hx=>by simp only[ren];rw[nE cs (by simpa[refs]using hx)]
 | .tup cs,hx=>by simp only[ren];rw[nE cs (by simpa[refs]using hx)]
 | .func f cs,hx=>by simp only[ren];rw[nE cs (by simpa[refs]using hx)]
 | .psl l z n,hx=>by simp only[ren];rw[hx l (by simp[refs])]
 | .flist ns,hx=>by simp only[ren];rw[yh ns (by simpa[refs]using hx)]
 | .unk,_=>rfl
 | .int _ _,_=>rfl
 | .bool _,_=>rfl
 | .str _,_=>rfl
 | .nilp,_=>rfl
 | .ifc _ _,_=>rfl
 | .nilFunc,_=>rfl
theorem nE{g h:Nat→Nat}:∀cs:List AV,(∀l∈qJ cs,g (h l)=l)→bF g (bF h cs)=cs
 |[],_=>rfl
 |c::cs,hx=>by
  simp only[qJ,qAy]at hx
  simp only[bF];rw[JC c (fun l hl=>hx l (.inl hl)),nE cs (fun l hl=>hx l (.inr hl))]
theorem yh{g h:Nat→Nat}:∀es:List (List AV),(∀l∈Ca es,g (h l)=l)→cu g (cu h es)=es
 |[],_=>rfl
 |c::cs,hx=>by
  simp only[Ca,qAy]at hx
  simp only[cu];rw[nE c (fun l hl=>hx l (.inl hl)),yh cs (fun l hl=>hx l (.inr hl))]
end
theorem OQ{g h:Nat→Nat}(o:AObj)(hx:∀l∈Au o,g (h l)=l):bD g (bD h o)=o:=by
 cases o with
 |box cs=>simp only[bD];rw[nE cs hx]
 |mp es=>
  simp only[bD,qBr,AObj.mp.injEq]
  simp only[Au,qCR]at hx
  conv=>rhs;rw[←List.map_id es]
  refine qAZ fun p hp=>?_
  simp only[Function.comp]
  rw[JC p.2 (fun l hl=>hx l ⟨p,hp,hl⟩)];rfl
 |arr z es=>simp only[bD];rw[yh es hx]
 |tip n=>rfl
 |dead=>rfl
 |res=>rfl
def posOf:List Nat→Nat→Nat
 |[],_=>0
 |x::xs,l=>bif Nat.beq x l then 0 else posOf xs l+1
theorem FQ:∀{L:List Nat} {l:Nat},l∈L→L[posOf L l]? =some l
 |x::xs,l,h=>by
  unfold posOf
  cases hb:Nat.beq x l with
  |true=>have:=qAc hb;subst this;rfl
  |false=>
   simp only[cond_false,qBh]
   refine FQ ?_
   rcases qAh.1 h with rfl|h
   ·rw[qCS l]at hb;cases hb
   ·exact h
def has:List Nat→Nat→Bool
 |[],_=>false
 |x::xs,l=>bif Nat.beq x l then true else has xs l
theorem yM:∀{L:List Nat} {l:Nat},has L l=true→l∈L
 |x::xs,l,h=>by
  unfold has at h
  cases hb:Nat.beq x l with
  |true=>rw[qAc hb];simp
  |false=>rw[hb]at h;exact qAk _ (yM h)
def Cg:List Nat→Bool
 |[]=>true
 |x::xs=>bif has xs x then false else Cg xs
theorem has_of_mem:∀{L:List Nat} {l:Nat},l∈L→has L l=true
 |x::xs,l,h=>by
  unfold has
  cases hb:Nat.beq x l with
  |true=>rfl
  |false=>
   rcases qAh.1 h with rfl|h
   ·rw[qCS l]at hb;cases hb
   ·exact has_of_mem h
theorem F9:∀{L:List Nat},Cg L=true→L.Nodup
 |[],_=>List.nodup_nil
 |x::xs,h=>by
  unfold Cg at h
  cases hb:has xs x with
  |true=>rw[hb]at h;cases h
  |false=>rw[hb]at h;exact qCm.2 ⟨fun hm=>(by rw[has_of_mem hm]at hb;cases hb),F9 h⟩
def reach(h:List AObj):Nat→List Nat→List Nat→List Nat
 |0,_,seen=>seen
 |_+1,[],seen=>seen
 |n+1,l::todo,seen=>bif has seen l then reach h n todo seen else reach h n (Au (obj? h l)++todo) (seen++[l])
abbrev dR:=Nat→List AV→List AObj→Option (AV×List AObj)
def GL(h:List AObj)(ρ ks:List Nat)(vs:List AV):Bool:=
 Cg (ρ++ks)&&(ρ.all (fun l=>Nat.blt l h.length)&&(ks.all (fun l=>aX (obj? h l))&&(ρ.all (fun l=>(Au (obj? h l)).all (has ρ))&&(qJ vs).all (has ρ))))
def P8(call:dR)(h:List AObj)(k fid:Nat)(vs:List AV):Option (Nat×List Nat×List Wr×AV):=
 let ρ:=reach h 2000 (qJ vs) []
 match call fid (bF (posOf ρ) vs) (ρ.map fun l=>bD (posOf ρ) (obj? h l))with
 |none=>none
 |some (res,H')=>
  let ks:=List.range' k (H'.length - ρ.length)
  bif GL h ρ ks vs&&Nat.beq H'.length (ρ++ks).length then some (k+ks.length,ρ++ks,fD (ρ++ks) (H'.map (bD (nm (ρ++ks) h.length))),ren (nm (ρ++ks) h.length) res)else none
theorem YU{ρ ks:List Nat}{big l:Nat}(h:l∈ρ):nm (ρ++ks) big (posOf ρ l)=l:=by
 have:=FQ h
 have hlt:=(qAp.1 this).1
 simp only[nm,qAe hlt,this,qAs]
theorem XE{P:Program}{call:dR}(hc:∀f args H r,call f args H=some r→aP P f args H r.1 r.2){s:ASt}{k fid:Nat}{vs:List AV}{k':Nat}{ro:List Nat}{wo:List Wr}{res:AV}{dst:Option Tmp}{K:Nat→List Nat→List Wr→Prop}
  (hok:gT P fid=true) (h:P8 call s.heap k fid vs=some (k',ro,wo,res)) (hK:K k' ro (wo++ah dst res)):sU P fid vs dst s k K .mk:=by
 unfold P8 at h
 generalize hρ:reach s.heap 2000 (qJ vs) []=ρ at h
 dsimp only at h
 split at h
 ·cases h
 ·rename_i r H' hcall
  generalize hks:List.range' k (H'.length - ρ.length)=ks at h
  cases hb:(GL s.heap ρ ks vs&&Nat.beq H'.length (ρ++ks).length)with
  |false=>rw[hb]at h;cases h
  |true=>
   rw[hb]at h
   simp only[cond_true,Option.some.injEq,Prod.mk.injEq]at h
   obtain⟨rfl,rfl,rfl,rfl⟩:=h
   simp only[GL,qAa,qAG]at hb
   obtain⟨⟨h1,h2,h3,h4,h5⟩,h6⟩:=hb
   have hlen:=qAc h6
   refine⟨hok,ρ,ks,bF (posOf ρ) vs,_,r,H',⟨F9 h1,by simp,fun l hl=>?_,h3,fun i l hi=>?_⟩,hlen,?_,hc _ _ _ _ hcall,hK⟩
   ·exact qAf (h2 l hl)
   ·have hlm:=qAA hi
    have e:obj? (ρ.map fun l=>bD (posOf ρ) (obj? s.heap l)) i=bD (posOf ρ) (obj? s.heap l):=by
     simp only[obj?,qAB,hi,qAv,qAs]
    rw[e,OQ _ fun x hx=>YU (yM (h4 l hlm x hx))]
   ·rw[←kV,nE _ fun x hx=>YU (yM (h5 x hx))]
    exact SWs.refl _
noncomputable def ZV{α β:Type}(l:List α):Nat→α→(List α→β)→β:=
 List.rec (motive:=fun _=>Nat→α→(List α→β)→β) (fun _ _ K=>K []) (fun x xs ih n v K=>Nat.rec (motive:=fun _=>β) (K (v::xs)) (fun m _=>ih m v fun ys=>K (x::ys)) n) l
noncomputable def H8{α β:Type}(l:List α):(List α→β)→β:=
 List.rec (motive:=fun _=>(List α→β)→β) (fun K=>K []) (fun x _ ih K=>ih fun ys=>K (x::ys)) l
noncomputable def ZN(l:List AV):Nat→AV:=List.rec (motive:=fun _=>Nat→AV) (fun _=>.unk) (fun x _ ih n=>Nat.rec (motive:=fun _=>AV) x (fun m _=>ih m) n) l
noncomputable def QF(l:List AObj):Nat→AObj:=List.rec (motive:=fun _=>Nat→AObj) (fun _=>.dead) (fun x _ ih n=>Nat.rec (motive:=fun _=>AObj) x (fun m _=>ih m) n) l
theorem MF:∀(l:List AV) (n:Nat),ZN l n=l.getD n .unk
 |[],_=>rfl
 |_::_,0=>rfl
 |_::xs,n+1=>(MF xs n).trans (by simp[List.getD])
theorem MP:∀(l:List AObj) (n:Nat),QF l n=obj? l n
 |[],_=>rfl
 |_::_,0=>rfl
 |_::xs,n+1=>(MP xs n).trans (by simp[obj?])
noncomputable def Rq(t:List AV):Operand→AV
 | .tmp n=>ZN t n
 | .const v=>ofConst v
 | .func f=>.func f []
 | .global _=>.unk
theorem Uk(t:List AV):Rq t=aN t:=by funext x;cases x<;>first|rfl|exact MF _ _
noncomputable def PW(ops:Array Oper)(t:List AV):Option (Nat×Bool)→Option Bool
 |none=>some true
 |some (j,want)=>match(ops[j]?).bind (·.dst)with
  |none=>none
  |some d=>match ZN t d with
   | .bool b=>some (b==want)
   | .tup []=>some false
   |_=>none
theorem Xz(ops:Array Oper)(t:List AV)(o:Oper):PW ops t o.guard=bq ops t o:=by
 unfold PW bq
 cases o.guard with
 |none=>rfl
 |some p=>simp only[MF];rfl
def Ww(P:Program)(k:Nat)(o:Oper)(ρ:Operand→AV)(σ:Nat→AObj):Option (List Nat×List Wr):=
 match o.op with
 | .move x=>some ([],ah o.dst (ρ x))
 | .assign x=>some ([],ah o.dst (ρ x))
 | .binOp op t x y _=>(iP P op t (ρ x) (ρ y)).elim ((eqNil P op t (ρ x) y).elim none fun v=>some ([],ah o.dst (.bool v))) fun v=>some ([],ah o.dst v)
 |_=>aD P k o ρ σ
theorem abo(P:Program)(k:Nat)(o:Oper)(ρ:Operand→AV)(σ:Nat→AObj):Ww P k o ρ σ=aD P k o ρ σ:=by
 unfold Ww
 split
 ·rename_i x h;simp only[aD,h,aj]
 ·rename_i x h;simp only[aD,h,aj]
 ·rename_i op t x y t2 h
  simp only[aD,h,aj]
  cases iP P op t (ρ x) (ρ y)with
  |none=>cases eqNil P op t (ρ x) y<;>rfl
  |some v=>rfl
 ·rfl
def aey{β:Type}(K:Nat→β):Nat→β
 |0=>K 0
 |n+1=>K (n+1)
def aiU{β:Type}(K:Int→β):Int→β
 | .ofNat n=>K (.ofNat n)
 | .negSucc n=>K (.negSucc n)
def ahe{β:Type}(K:Bool→β):Bool→β
 |true=>K true
 |false=>K false
noncomputable def fVS{β:Type}(K:AV→β):AV→β
 | .agg cs=>H8 cs fun cs=>K (.agg cs)
 | .eptr cs=>H8 cs fun cs=>K (.eptr cs)
 | .tup cs=>H8 cs fun cs=>K (.tup cs)
 | .func f cs=>H8 cs fun cs=>K (.func f cs)
 | .int k n=>aiU (fun n=>K (.int k n)) n
 | .bool b=>ahe (fun b=>K (.bool b)) b
 | .str s=>H8 s fun s=>K (.str s)
 | .slice es t=>H8 es fun es=>K (.slice es t)
 | .unk=>K .unk
 | .nilp=>K .nilp
 | .ifc t v=>K (.ifc t v)
 | .ptr l o=>K (.ptr l o)
 | .mapr l=>K (.mapr l)
 | .nilFunc=>K .nilFunc
 | .psl l z n=>K (.psl l z n)
 | .flist ns=>K (.flist ns)
noncomputable def fOS{β:Type}(K:AObj→β):AObj→β
 | .box cs=>H8 cs fun cs=>K (.box cs)
 | .tip n=>K (.tip n)
 | .mp es=>H8 es fun es=>K (.mp es)
 | .dead=>K .dead
 | .res=>K .res
 | .arr z es=>H8 es fun es=>K (.arr z es)
noncomputable def NW{β:Type}:List Wr→List AV→List AObj→(List AV→List AObj→β)→β
 |[],t,h,K=>K t h
 | .slot n v::ws,t,h,K=>fVS (fun v=>ZV t n v fun t=>NW ws t h K) v
 | .obj n o::ws,t,h,K=>fOS (fun o=>ZV h n o fun h=>NW ws t h K) o
theorem Mr{α β:Type}:∀(l:List α) (n:Nat) (v:α) (K:List α→β),ZV l n v K=K (l.set n v)
 |[],_,_,_=>rfl
 |_::_,0,_,_=>rfl
 |x::xs,n+1,v,K=>(Mr xs n v fun ys=>K (x::ys)).trans rfl
theorem RL{α β:Type}:∀(l:List α) (K:List α→β),H8 l K=K l
 |[],_=>rfl
 |x::xs,K=>RL xs fun ys=>K (x::ys)
theorem acv{β:Type}(K:Nat→β)(n:Nat):aey K n=K n:=by cases n<;>rfl
theorem adN{β:Type}(K:AV→β)(v:AV):fVS K v=K v:=by
 cases v<;>simp only[fVS,RL]
 ·rename_i k n;cases n<;>rfl
 ·rename_i b;cases b<;>rfl
theorem afk{β:Type}(K:AObj→β)(o:AObj):fOS K o=K o:=by cases o<;>simp only[fOS,RL]
theorem FH{β:Type}:∀(ws:List Wr) (t:List AV) (h:List AObj) (K:List AV→List AObj→β),NW ws t h K=K (ASt.wr ⟨t,h⟩ ws).tmps (ASt.wr ⟨t,h⟩ ws).heap
 |[],_,_,_=>rfl
 | .slot n v::ws,t,h,K=>by simp only[NW,adN,Mr];rw[FH ws];rfl
 | .obj n v::ws,t,h,K=>by simp only[NW,afk,Mr];rw[FH ws];rfl
def need(big:List Nat):List Oper→Nat
 |[]=>0
 |o::l=>(match fT o.op with
  |some (.func f,_)=>(bif has big f then 40 else 3)
  |some _=>3
  |none=>dJ o.op)+need big l
noncomputable def aaV(P:Program)(call:dR)(ok:Nat→Bool)(ops:Array Oper)(o:Oper)(go:Nat→List Eff→List AV→List AObj→Option (List Eff×ASt))(k:Nat)(es:List Eff)(t:List AV)(h:List AObj):Option (List Eff×ASt):=
 match PW ops t o.guard with
  |none=>none
  |some false=>NW (ah o.dst (.tup [])) t h (go k (⟨aJ ops o,[],ah o.dst (.tup [])⟩::es))
  |some true=>match fT o.op with
   |some (f,args)=>match Rq t f with
    | .func fid caps=>bif ok fid then(match P8 call h k fid (args.toList.map (Rq t)++caps)with
     |some (k',ro,wo,res)=>NW (wo++ah o.dst res) t h (go k' (⟨aJ ops o,ro,wo++ah o.dst res⟩::es))
     |none=>none)else none
    |_=>none
   |none=>match Ww P k o (Rq t) (QF h)with
    |some (rd,ws)=>NW ws t h (go (k+dJ o.op) (⟨aJ ops o,rd,ws⟩::es))
    |none=>none
noncomputable def Wy(P:Program)(call:dR)(ok:Nat→Bool)(ops:Array Oper)(l:List Oper):Nat→List Eff→List AV→List AObj→Option (List Eff×ASt):=
 List.rec (motive:=fun _=>Nat→List Eff→List AV→List AObj→Option (List Eff×ASt)) (fun _ es t h=>some (es.reverse,⟨t,h⟩)) (fun o _ ih=>aaV P call ok ops o ih) l
theorem Zr(P:Program)(call:dR)(ok:Nat→Bool)(ops:Array Oper)(o:Oper)(l:List Oper)(k:Nat)(es:List Eff)(t:List AV)(h:List AObj):Wy P call ok ops (o::l) k es t h=aaV P call ok ops o (Wy P call ok ops l) k es t h:=rfl
theorem UN{P:Program}{call:dR}{ok:Nat→Bool}{ops:Array Oper}(hc:∀f args H r,call f args H=some r→aP P f args H r.1 r.2)(hok:∀f,ok f=true→gT P f=true){K:List Eff→ASt→Prop}:
  ∀(l:List Oper) (k:Nat) (es:List Eff) (s:ASt) (es':List Eff) (s':ASt),Wy P call ok ops l k es s.tmps s.heap=some (es',s')→K es' s'→oV P ops l k es s K:=by
 intro l
 induction l with
 |nil=>
  intro k es s es' s' h hK
  have h:some (es.reverse,s)=some (es',s'):=h
  simp only[Option.some.injEq,Prod.mk.injEq]at h
  obtain⟨rfl,rfl⟩:=h
  exact hK
 |cons o l ih=>
  intro k es s es' s' h hK
  rw[Zr]at h
  unfold aaV at h
  rw[Xz,Uk,show QF s.heap=obj? s.heap from funext (MP _),abo]at h
  split at h
  ·cases h
  ·rename_i hw
   rw[FH]at h
   exact⟨false,hw,fun e=>(by cases e),fun _=>ih _ _ _ _ _ h hK⟩
  ·rename_i hw
   refine⟨true,hw,fun _=>?_,fun e=>(by cases e)⟩
   split at h
   ·rename_i f args hcall
    split at h
    ·rename_i fid caps hf
     cases hb:ok fid with
     |false=>rw[hb]at h;cases h
     |true=>
      rw[hb]at h
      simp only[cond_true]at h
      split at h
      ·rename_i k' ro wo res hen
       rw[hcall]
       rw[FH]at h
       exact⟨fid,caps,hf,XE hc (hok _ hb) hen (ih _ _ _ _ _ h hK)⟩
      ·cases h
    ·cases h
   ·rename_i hcall
    rw[hcall]
    split at h
    ·rename_i rd ws hh
     rw[FH]at h
     exact⟨rd,ws,hh,ih _ _ _ _ _ h hK⟩
    ·cases h
def PE(o:AObj):List AObj→List AObj
 |[]=>bif aX o then[]else[o]
 |x::xs=>o::x::xs
noncomputable def trim(l:List AObj):List AObj:=List.rec (motive:=fun _=>List AObj) [] (fun o _ ih=>PE o ih) l
theorem Nw:∀H:List AObj,∃n,H=trim H++List.replicate n .res
 |[]=>⟨0,rfl⟩
 |o::os=>by
  obtain⟨n,hn⟩:=Nw os
  show ∃n,o::os=PE o (trim os)++List.replicate n .res
  unfold PE
  split
  ·rename_i e
   rw[e]at hn
   cases ho:aX o with
   |true=>
    have:o=.res:=by cases o<;>simp[aX]at ho⊢
    subst this
    exact⟨n+1,by rw[hn];rfl⟩
   |false=>exact⟨n,by rw[hn];rfl⟩
  ·rename_i x xs e
   rw[e]at hn
   exact⟨n,by rw[hn];rfl⟩
theorem Sim.trim{C:Ctx}{κ:aH}{s:ASt}{a:Act}{w:World}(h:Sim C κ s a w):∃κ',Sim C κ' {s with heap:=Abs.trim s.heap} a w:=by
 obtain⟨n,hn⟩:=Nw s.heap
 generalize Abs.trim s.heap=H at hn
 have hat:∀l,at? (κ.take H.length) l=at? κ l:=fun l=>by
  by_cases hl:l<H.length
  ·unfold at?;rw[qBf,if_pos hl]
  ·have e1:at? (κ.take H.length) l=none:=at?_none_of_le (by simp;omega)
   rw[e1]
   by_cases h2:l<s.heap.length
   ·refine(h.resv l ?_).symm
    simp only[obj?,hn]
    rw[qAg (by omega),qBi]
    rw[hn,qAj,qAS]at h2
    rw[if_pos (by omega)];rfl
   ·exact(at?_none_of_le (by rw[h.klen];omega)).symm
 have hob:∀l b,at? κ l=some b→obj? H l=obj? s.heap l:=fun l b hb=>by
  by_cases hl:l<H.length
  ·simp only[obj?,hn,qAe hl]
  ·rw[←hat,at?_none_of_le (by simp;omega)]at hb;cases hb
 refine⟨κ.take H.length,?_⟩
 refine h.step (κ':=κ.take H.length) (H':=H) (Evo.refl _ _) (fun l b hb=>by rw[hat];exact hb) (by rw[qAw,h.klen,hn];simp) ?_ ?_ ?_ ?_ ?_ (fun _ _=>rfl) rfl rfl rfl
 ·rintro b o (hb|⟨l,h1,h2⟩) _
  ·exact .inl hb
  ·rw[hat]at h1;rw[hob l b h1]at h2;exact .inr ⟨l,h1,h2⟩
 ·intro l b h1 h2
  rw[hat]at h1
  exact .inl ⟨h1,hob l b h1,rfl⟩
 ·intro l l' b h1 h2 h3 h4
  rw[hat]at h1 h2;rw[hob l b h1]at h3;rw[hob l' b h2]at h4
  exact h.apart l l' b h1 h2 h3 h4
 ·intro l b h1;rw[hat]at h1;exact h.bound l b h1
 ·intro l h1
  rw[hat]
  by_cases hl:l<H.length
  ·refine h.resv l ?_
   rw[←h1];simp only[obj?,hn,qAe hl]
  ·rw[←hat];exact at?_none_of_le (by simp;omega)
def LY(hint:List (Nat×Nat×Nat))(h:List AObj)(l:Nat):List AObj:=
 match obj? h l with
 | .box cs=>match hint.find? (fun p=>Nat.beq p.1 cs.length)with
  |some (_,i,z)=>(match cs[i]? with
   |some (.slice [] .nils)=>h.set l (.box (cs.set i (.psl h.length z 0)))++[.arr z []]
   |_=>h)
  |none=>h
 |_=>h
theorem Sim.LY{C:Ctx}{κ:aH}{s:ASt}{a:Act}{w:World}(h:Sim C κ s a w)(hint:List (Nat×Nat×Nat))(l:Nat):∃κ',Sim C κ' {s with heap:=Abs.LY hint s.heap l} a w:=by
 unfold Abs.LY
 split
 ·rename_i cs ho
  split
  ·rename_i i z _
   split
   ·rename_i hi
    have hll:l<s.heap.length:=by
     apply qAm;intro hn
     simp only[obj?,qAo (qAM hn)]at ho;cases ho
    let H':=s.heap.set l (.box (cs.set i (.psl s.heap.length z 0)))++[AObj.arr z []]
    have hat:∀x,at? (κ++[none]) x=at? κ x:=fun x=>by
     unfold at?
     by_cases hx:x<κ.length
     ·rw[qAe hx]
     ·rw[qAg (qAM hx),qAo (qAM hx)]
      cases hxx:x - κ.length<;>rfl
    have hlt:∀x b,at? κ x=some b→x<s.heap.length:=fun x b hb=>by rw[←h.klen];exact lt_of_at? hb
    have hob:∀x,x<s.heap.length→x≠l→obj? H' x=obj? s.heap x:=fun x hx hne=>by
     simp only[obj?,H',qAe (show x<(s.heap.set l _).length by simpa using hx),qBF (qBd hne)]
    have hol:obj? H' l=.box (cs.set i (.psl s.heap.length z 0)):=by
     simp only[obj?,H',qAe (show l<(s.heap.set l _).length by simpa using hll),qCb hll,qAs]
    have hlv:∀x b,at? κ x=some b→live (obj? H' x)→live (obj? s.heap x):=fun x b hb hl=>by
     by_cases e:x=l
     ·subst e;rw[ho];trivial
     ·rw[hob x (hlt x b hb) e]at hl;exact hl
    have hp:∀b o,aC C.ak (κ++[none]) H' b o→b<w.heap.size→aC C.ak κ s.heap b o:=by
     rintro b o (hb|⟨x,h1,h2⟩) _
     ·exact .inl hb
     ·rw[hat]at h1
      refine .inr ⟨x,h1,?_⟩
      by_cases e:x=l
      ·subst e;rw[ho];trivial
      ·rw[hob x (hlt x b h1) e]at h2;exact h2
    refine⟨κ++[none],?_⟩
    refine h.step (κ':=κ++[none]) (H':=H') (Evo.refl _ _) (fun x b hb=>by rw[hat];exact hb) (by simp[H',h.klen]) hp ?_ ?_ ?_ ?_ (fun _ _=>rfl) rfl rfl rfl
    ·intro x b h1 h2
     rw[hat]at h1
     by_cases e:x=l
     ·subst e
      refine .inr ⟨h.bound x b h1,h.own x b h1 (by rw[ho];trivial),?_⟩
      rw[hol]
      have hr:=h.obj x b h1 (by rw[ho];trivial)
      rw[ho]at hr
      obtain⟨c,el,g1,g2,g3⟩:=hr
      refine⟨c,el,g1,by simp[g2],fun j hj=>?_⟩
      simp only[qAD]at hj
      have hg:=(g3 j hj).mono (κ':=κ++[none]) (Evo.refl _ _) (fun y b hb=>by rw[hat];exact hb) hp
      by_cases ej:i=j
      ·subst ej
       rw[dZ hj]
       rw[List.getD,hi,qAs]at hg
       generalize c.getD i undef=u at hg
       cases hg with
       |slice b' off sz y q1 q2 q3 q3' q4 q5 q6 gt=>exact .psl (qAN _) (by omega) ⟨rfl,.inl gt⟩
      ·rw[iI ej];exact hg
     ·exact .inl ⟨h1,hob x (hlt x b h1) e,rfl⟩
    ·intro x y b h1 h2 h3 h4
     rw[hat]at h1 h2
     exact h.apart x y b h1 h2 (hlv x b h1 h3) (hlv y b h2 h4)
    ·intro x b h1;rw[hat]at h1;exact h.bound x b h1
    ·intro x h1
     rw[hat]
     by_cases hx:x<s.heap.length
     ·by_cases e:x=l
      ·subst e;rw[hol]at h1;cases h1
      ·rw[hob x hx e]at h1;exact h.resv x h1
     ·exact at?_none_of_le (by rw[h.klen];omega)
   ·exact⟨κ,h⟩
  ·exact⟨κ,h⟩
 ·exact⟨κ,h⟩
def CV(hint:List (Nat×Nat×Nat)):List Nat→List AObj→List AObj
 |[],h=>h
 |l::ls,h=>CV hint ls (LY hint h l)
theorem Sim.CV{C:Ctx}{a:Act}{w:World}(hint:List (Nat×Nat×Nat)):∀(ls:List Nat) {κ:aH} {s:ASt},Sim C κ s a w→∃κ',Sim C κ' {s with heap:=Abs.CV hint ls s.heap} a w
 |[],κ,s,h=>⟨κ,h⟩
 |l::ls,κ,s,h=>by
  obtain⟨κ1,h1⟩:=h.LY hint l
  exact Sim.CV hint ls h1
noncomputable def tidy(hint:List (Nat×Nat×Nat))(n:Nat)(s:ASt):ASt:=
 let h:=trim s.heap
 ⟨s.tmps,CV hint (List.range' n (h.length - n)) h⟩
theorem bf.tidy{P:Program}{c:Code}{Q:Exit→ASt→Prop}{s:ASt}(hint:List (Nat×Nat×Nat))(n:Nat)(h:bf P c (fun e s'=>Q e (Abs.tidy hint n s')) s):bf P c Q s:=fun C κ a w hs=>
 wp_mono (h C κ a w hs) fun _ _ _ ⟨s',κ',h1,h2⟩=>by
  obtain⟨κ1,g1⟩:=h2.trim
  obtain⟨κ2,g2⟩:=g1.CV hint (List.range' n ((Abs.trim s'.heap).length - n))
  exact⟨_,κ2,h1,g2⟩
noncomputable def LV(P:Program)(call:dR)(ok:Nat→Bool)(hint:List (Nat×Nat×Nat))(big:List Nat)(go:Code→ASt→Option (Exit×ASt))(c:Code)(s:ASt):Option (Exit×ASt):=
 match c with
  | .skip=>some (.normal,s)
  | .ret=>some (.ret,s)
  | .exit id=>some (.exit id,s)
  | .seq x y=>match go x s with
   |some (.normal,s')=>go y s'
   |r=>r
  | .cond c x y=>match Rq s.tmps c with
   | .bool true=>go x s
   | .bool false=>go y s
   |_=>none
  | .block id c=>match go c s with
   |some (.exit id',s')=>bif Nat.beq id' id then some (.normal,s')else some (.exit id',s')
   |r=>r
  | .loop c=>match go c s with
   |some (.normal,s')=>go (.loop c) s'
   |r=>r
  | .region _ ops draw=>aey (fun m=>match Wy P call ok ops ops.toList s.heap.length [] s.tmps (s.heap++List.replicate m .res)with
   |some (es,s')=>bif !draw ||eX ops.toList es then some (.normal,bif Nat.beq m 0 then s' else tidy hint s.heap.length s')else none
   |none=>none) (need big ops.toList)
  |_=>none
noncomputable def Dk(P:Program)(call:dR)(ok:Nat→Bool)(hint:List (Nat×Nat×Nat))(big:List Nat)(n:Nat):Code→ASt→Option (Exit×ASt):=
 Nat.rec (motive:=fun _=>Code→ASt→Option (Exit×ASt)) (fun _ _=>none) (fun _ ih=>LV P call ok hint big ih) n
theorem K6(P:Program)(call:dR)(ok:Nat→Bool)(hint:List (Nat×Nat×Nat))(big:List Nat)(c:Code)(s:ASt):Dk P call ok hint big 0 c s=none:=rfl
theorem L6(P:Program)(call:dR)(ok:Nat→Bool)(hint:List (Nat×Nat×Nat))(big:List Nat)(n:Nat)(c:Code)(s:ASt):Dk P call ok hint big (n+1) c s=LV P call ok hint big (Dk P call ok hint big n) c s:=rfl
theorem JQ{P:Program}{call:dR}{ok:Nat→Bool}{hint:List (Nat×Nat×Nat)}{big:List Nat}(hm:P.follows .mixedOrders=true)(hc:∀f args H r,call f args H=some r→aP P f args H r.1 r.2)(hok:∀f,ok f=true→gT P f=true):
  ∀(n:Nat) (c:Code) (s:ASt) (e:Exit) (s':ASt) (Q:Exit→ASt→Prop),Dk P call ok hint big n c s=some (e,s')→Q e s'→bf P c Q s:=by
 intro n
 induction n using Nat.strongRecOn with
 |_ n ih=>
  intro c s e s' Q h hQ
  cases n with
  |zero=>rw[K6]at h;cases h
  |succ n=>
   have ih1:=ih n (qCy n)
   rw[L6]at h
   have h0:=h
   unfold LV at h
   rw[Uk]at h
   split at h
   ·cases h;exact .skip hQ
   ·cases h;exact .ret hQ
   ·cases h;exact .exit hQ
   ·rename_i x y
    split at h
    ·rename_i s1 hx
     exact .seq (ih1 _ _ _ _ _ hx (ih1 _ _ _ _ _ h hQ))
    ·rename_i hne
     refine .seq (ih1 _ _ _ _ _ h ?_)
     cases e with
     |normal=>exact(hne _ h).elim
     |exit id=>exact hQ
     |goto l=>exact hQ
     |ret=>exact hQ
     |panic c=>exact hQ
     |outgrown=>exact hQ
   ·rename_i cd x y
    split at h
    ·rename_i hb
     exact .cond hb (fun _=>ih1 _ _ _ _ _ h hQ) (fun e=>by cases e)
    ·rename_i hb
     exact .cond hb (fun e=>by cases e) (fun _=>ih1 _ _ _ _ _ h hQ)
    ·cases h
   ·rename_i id c
    split at h
    ·rename_i id' s1 hx
     refine .block (ih1 _ _ _ _ _ hx ?_)
     simp only[pz]
     cases hb:Nat.beq id' id with
     |true=>
      rw[hb]at h;cases h
      rw[if_pos (qAc hb)];exact hQ
     |false=>
      rw[hb]at h;cases h
      rw[if_neg (fun e=>by rw[e,qCS id]at hb;cases hb)];exact hQ
    ·rename_i hne
     refine .block (ih1 _ _ _ _ _ h ?_)
     cases e with
     |exit id=>exact(hne _ _ h).elim
     |normal=>exact hQ
     |goto l=>exact hQ
     |ret=>exact hQ
     |panic c=>exact hQ
     |outgrown=>exact hQ
   ·rename_i c
    refine bf.loop (fun m s=>m≤n+1∧Dk P call ok hint big m (.loop c) s=some (e,s')) (n:=n+1) ⟨qAq _,h0⟩ ?_
    rintro m s ⟨hle,hr⟩
    cases m with
    |zero=>rw[K6]at hr;cases hr
    |succ m=>
     have ih2:=ih m (by omega)
     rw[L6]at hr
     unfold LV at hr
     dsimp only at hr
     split at hr
     ·rename_i s1 hx
      exact ih2 _ _ _ _ _ hx ⟨m,qCy m,by omega,hr⟩
     ·rename_i hne
      refine ih2 _ _ _ _ _ hr ?_
      cases e with
      |normal=>exact(hne _ hr).elim
      |exit id=>exact hQ
      |goto l=>exact hQ
      |ret=>exact hQ
      |panic c=>exact hQ
      |outgrown=>exact hQ
   ·rename_i id ops draw
    rw[acv]at h
    generalize need big ops.toList=m at h
    split at h
    ·rename_i es s1 hx
     cases hb:(!draw ||eX ops.toList es)with
     |false=>rw[hb]at h;cases h
     |true=>
      rw[hb]at h
      simp only[cond_true,Option.some.injEq,Prod.mk.injEq]at h
      obtain⟨rfl,hs1⟩:=h
      have key:∀Q':Exit→ASt→Prop,Q' .normal s1→bf P (.region id ops draw) Q' s:=fun Q' hQ'=>by
       have eops:ops=ops.toList.toArray:=by simp
       rw[eops]at hx⊢
       simp only[List.toList_toArray]at hx
       cases draw with
       |true=>exact bf.aeK m hm (UN hc hok _ _ _ (s.reserve m) _ _ hx ⟨by simpa using hb,hQ'⟩)
       |false=>
        have:=UN (K:=fun _ s'=>Q' .normal s') hc hok _ _ _ (s.reserve m) _ _ hx hQ'
        obtain⟨es',s2,g1,g2⟩:=Ig _ _ _ _ _ this
        exact bf.region m g1.steps g2
      cases hm0:Nat.beq m 0 with
      |true=>rw[hm0]at hs1;simp only[cond_true]at hs1;subst hs1;exact key Q hQ
      |false=>
       rw[hm0]at hs1;simp only[cond_false]at hs1;subst hs1
       exact bf.tidy hint s.heap.length (key _ hQ)
    ·cases h
   ·cases h
def wR(P:Program)(rs:List ResultVar)(m:Nat)(s:ASt):Option (AV×List AObj):=
 match mQ P s rs with
 |none=>none
 |some xs=>
  let v:=sN false xs
  let L:=reach s.heap 2000 (refs v++(List.range m).flatMap fun l=>Au (obj? s.heap l)) (List.range m)
  bif Cg L&&((List.range m).all (fun i=>match L[i]? with|some l=>Nat.beq l i|none=>false)&&(L.all (fun l=>Nat.blt l s.heap.length)&&((refs v).all (has L)&&L.all (fun l=>(Au (obj? s.heap l)).all (has L)))))
  then some (ren (posOf L) v,L.map fun l=>bD (posOf L) (obj? s.heap l))else none
theorem Ah{P:Program}{rs:List ResultVar}{H:List AObj}{s:ASt}{res:AV}{H':List AObj}(h:wR P rs H.length s=some (res,H')):∃L,tK P rs false L H res H' s:=by
 unfold wR at h
 split at h
 ·cases h
 ·rename_i xs hxs
  dsimp only at h
  generalize reach s.heap 2000 (refs (sN false xs)++(List.range H.length).flatMap fun l=>Au (obj? s.heap l)) (List.range H.length)=L at h
  cases hb:(Cg L&&((List.range H.length).all (fun i=>match L[i]? with|some l=>Nat.beq l i|none=>false)&&(L.all (fun l=>Nat.blt l s.heap.length)&&((refs (sN false xs)).all (has L)&&L.all (fun l=>(Au (obj? s.heap l)).all (has L))))))with
  |false=>rw[hb]at h;cases h
  |true=>
   rw[hb]at h
   simp only[cond_true,Option.some.injEq,Prod.mk.injEq]at h
   obtain⟨rfl,rfl⟩:=h
   simp only[qAa,qAG,qBT]at hb
   obtain⟨h1,h2,h3,h4,h5⟩:=hb
   have hL:∀i,i<H.length→L[i]? =some i:=fun i hi=>by
    have:=h2 i hi
    split at this
    ·rename_i l hl;rw[hl,qAc this]
    ·cases this
   have hnm:∀l,l∈L→nm L s.heap.length (posOf L l)=l:=fun l hl=>by simp only[nm,FQ hl,qAs]
   refine⟨L,xs,hxs,?_,F9 h1,by simp,?_,hL,fun l hl=>?_,fun i l hi=>?_⟩
   ·rw[JC _ fun x hx=>hnm x (yM (h4 x hx))]
   ·cases hn:H.length with
    |zero=>exact qAN _
    |succ n=>have:=(qAp.1 (hL n (by omega))).1;omega
   ·exact qAf (h3 l hl)
   ·have e:obj? (L.map fun l=>bD (posOf L) (obj? s.heap l)) i=bD (posOf L) (obj? s.heap l):=by
     simp only[obj?,qAB,hi,qAv,qAs]
    rw[e,OQ _ fun x hx=>hnm x (yM (h5 l (qAA hi) x hx))]
end
section
open Go Go.Proofs Go.RowKit Go.Maps Go.Sort Go.Shelf
theorem ZW(m:Nat):AnyZ.SortsIn Tryz.prog Tryz.Ee Fence.wide m:=
 ⟨fun blk off cap ss W hH hblk hsz=>callsIn_wide.2 (AnyM.slices_Sort_string Tryz.UA blk off cap ss W hH hblk hsz),
  fun p cap W=>callsIn_wide.2 (AnyM.slices_Sort_string_none Tryz.UA p cap W)⟩
set_option maxHeartbeats 1000000 in
theorem WC(b bm nn:Nat)(D0:DataW Unit)(R:Value→Option (DataW Unit×List MemPlace))(w:World)(hbm:bm<w.heap.size)(hc:w.cell? ⟨bm,0,none⟩=some (.map (some b)))(hown:w.ownsMap Tryz.prog 9 R b nn D0)(hmax:Maps.size D0≤maxLen)(hbytes:Maps.size D0*16≤140737488355328):
  CallsIn Fence.wide 5 Tryz.prog 197 #[.func (.func 243) #[] #[.pointer (some ⟨bm,0,none⟩)]] w fun e w'=>∃(v:Value) (ss:List (List UInt8)),e=.returned v∧ss.Perm (strKeys D0)∧
   w'.ownsRow w.heap.size 9 1 v ss.length ((ss.mergeSort (fun x y=>decide (x≤y))).map encStr)∧(v=.slice none 0 0↔ss=[])∧Below w.heap.size w w':=by
 have hseq:SeqGives Fence.wide 2 Tryz.prog 243 #[.pointer (some ⟨bm,0,none⟩)] encStr (fun ss=>ss.Perm (strKeys D0)) (Maps.size D0) w:=
  AnyZ.keys_gives (ρ:=Tryz.H6) {Tryz.acT with} Fence.wide _ trivial rfl (by omega) bm b nn D0 _ hbm hc hown
 exact AnyZ.sorted_in Tryz.Yg Fence.wide 5 trivial trivial trivial trivial rfl (by omega) (ZW _) (enters_of Tryz.func242 (by kernel_rfl) rfl) 243 #[.pointer (some ⟨bm,0,none⟩)] trivial (enters_of Tryz.func243 (by kernel_rfl) rfl) _ _ hmax hbytes _ hseq
theorem Leave.same{κ:aH}{ak:bN}{H:List AObj}{w w':World}(he:Entry κ ak H w)(hb:Go.RowKit.Below w.heap.size w w'):Leave κ κ ak H H w w':=by
 have hcell:∀b off u,w.cell? ⟨b,off,none⟩=some u→w'.cell? ⟨b,off,none⟩=some u:=fun b off u hc=>by
  have hlt:=lt_of_cell hc
  simp only[World.cell?,hb.block b hlt]at hc⊢
  exact hc
 have hevo:Evo (aC ak κ H) w w':=⟨hb.size,fun b off u _ hc=>hcell b off u hc,fun b c e z hx=>⟨c,by rw[hb.block b (qBs.1 hx).1];exact hx,rfl⟩⟩
 exact⟨he.klen,qAq _,bB.refl _,he.resv,fun l b h1 h2=>(he.obj l b h1 h2).mono (hb.block b (he.bound l b h1)) hevo (bB.refl _) (fun _ _ h _=>h),
  fun l b h1 h2=>.inr ⟨l,h1,h2⟩,he.apart,fun l b h1=>qAF (he.bound l b h1) hb.size,fun b hlt _=>hb.block b hlt,hevo,fun _ _ h _=>h,hb.os,hb.tape,hb.output⟩
theorem ac9{κ:aH}{ak:bN}{H:List AObj}{w:World}(he:Entry κ ak H w){b o:Nat}(h:aC ak κ H b o):b<w.heap.size:=by
 rcases h with h|⟨l,h1,_⟩
 ·exact he.pvlt b o h
 ·exact he.bound l b h1
theorem EZ(H:List AObj)(p m:Nat)(es:List (List UInt8×AV))(hp:obj? H p=.box [.mapr m])(hm:obj? H m=.mp es)(hb16:es.length*16≤140737488355328):
  aP Tryz.prog 197 [.func 243 [.ptr p 0]] H (.slice (((es.map (·.1)).mergeSort NC).map encS) .shared) H:=by
 intro κ ak w vs hen hlen hr
 have h0:=hr 0 (by simp)
 match vs,hlen with
 |[v],_=>
 simp only[List.getD,qAE,qAs]at h0
 obtain⟨cs,rfl,hcl,hcr⟩:=h0.vk
 match cs,hcl with
 |[cp],_=>
 have h1:=hcr 0 (by simp)
 simp only[List.getD,qAE,qAs]at h1
 obtain⟨bm,rfl,hbm⟩:=h1.jR
 have ho:=hen.obj p bm hbm (by rw[hp];trivial)
 rw[hp]at ho
 obtain⟨c,el,g1,g2,g3⟩:=ho
 have h2:=g3 0 (by simp)
 simp only[List.getD,qAE,qAs]at h2
 have hcell:w.cell? ⟨bm,0,none⟩=some (c.getD 0 undef):=by
  have:0<c.size:=by rw[g2];simp
  simp[World.cell?,g1,Array.getD,this]
 generalize c.getD 0 undef=cv at h2 hcell
 cases h2 with
 |@mapr _ b hb=>
 have hmo:=hen.obj m b hb (by rw[hm];trivial)
 rw[hm]at hmo
 obtain⟨ms,clock,k1,k2,k3,k4⟩:=hmo
 have k31:es.length≤140737488355328:=by have:=k3.1;rwa[qAi]at this
 have hk9:Tryz.prog.underlying 9=some .string:=by kernel_rfl
 let R:Value→Option (DataW Unit×List MemPlace):=fun _=>some (.lit (.bool true),[])
 have hkeys:∀j,(hj:j<ms.size)→keyOf Tryz.prog 9 ms[j].key=some (.string (es.getD j ([],.unk)).1):=fun j hj=>by
  have h5:=(k4 j (by omega)).1
  have e:ms.getD j default=ms[j]:=by simp[Array.getD,hj]
  rw[e]at h5
  rw[h5,Go.WideMaps.keyOf_string_mk hk9]
  have hmem:(es.getD j ([],.unk)).1∈es.map (·.1):=by
   have hj':j<es.length:=by omega
   rw[List.getD,qAd hj',qAs]
   exact qBc.2 ⟨_,qAV _,rfl⟩
  have:=k3.2.2 _ hmem
  simpa[ByteArray.size,maxLen]using this
 have hrd:∀j,(hj:j<ms.size)→WideElems.rd Tryz.prog 9 R ms[j]=some (.string (es.getD j ([],.unk)).1,.lit (.bool true)):=fun j hj=>by
  simp only[WideElems.rd,hkeys j hj,qAb,R,qAv]
 have hown:w.ownsMap Tryz.prog 9 R b es.length (.map ((ms.toList.map (WideElems.rg Tryz.prog 9 R)).foldr DataW.insert [])):=by
  refine⟨ms,clock,k1,⟨?_,k3.2.1,fun x hx=>?_⟩,by omega,rfl⟩
  ·simp only[maxLen];omega
  ·obtain⟨j,hj,rfl⟩:=qCG hx
   simp only[qBX]at hj
   exact⟨_,by simpa using hrd j hj⟩
 have hperm:(strKeys (.map ((ms.toList.map (WideElems.rg Tryz.prog 9 R)).foldr DataW.insert []))).Perm (es.map (·.1)):=by
  simp only[strKeys]
  refine((WideShapes.sorted_perm _).map _).trans ?_
  have e:(ms.toList.map (WideElems.rg Tryz.prog 9 R)).map (fun p=>strOf p.1)=es.map (·.1):=by
   apply qCv
   ·simp[k2]
   ·intro j h1 h2
    simp only[qAi,qBX]at h1 h2
    simp only[List.getElem_map,Array.getElem_toList]
    rw[WideElems.rg_of (hrd j h1)]
    simp[strOf,List.getD,qAd h2]
  rw[e]
 have hsz:Maps.size (H:=Unit) (.map ((ms.toList.map (WideElems.rg Tryz.prog 9 R)).foldr DataW.insert []))=es.length:=by
  rw[size_eq,DataW.length_sorted];simp[k2]
 have hcall:=callsIn_wide.1 (WC b bm es.length _ R w (hen.bound p bm hbm) hcell hown (by rw[hsz];simp only[maxLen];omega) (by rw[hsz];exact hb16))
 refine hcall.mono ?_
 rintro e w' ⟨v,ss,rfl,hss,hrow,_,hbel⟩
 refine⟨v,κ,rfl,Leave.same hen hbel,?_⟩
 have hsort:ss.mergeSort (fun x y=>decide (x≤y))=(es.map (·.1)).mergeSort NC:=mergeSort_of_perm (hss.trans hperm)
 rw[hsort]at hrow
 generalize hL:(es.map (·.1)).mergeSort NC=L at hrow
 have hLl:L.length=es.length:=by rw[←hL];simp
 have hssl:ss.length=es.length:=by have:=(hss.trans hperm).length_eq;simpa using this
 have hLk:∀x∈L,x.length≤9223372036854775807:=fun x hx=>k3.2.2 x (by rw[←hL]at hx;exact(List.mergeSort_perm _ _).mem_iff.1 hx)
 obtain⟨hrl,hrow⟩:=hrow
 rcases hrow with⟨rfl,hz⟩|⟨g,cap,cur,rfl,hbase,hg,hcap,_,hcur,htake⟩
 ·have:L=[]:=qAR.1 (by omega)
  subst this
  have:=Rel.slice (w:=w') (κ:=κ) (pv:=aC ak κ H) (es:=[]) (tag:=.shared) (a:=none) (cap:=0) 0 0 1 (fun _ _=>undef) (fun i h=>by cases h) (fun h=>(h rfl).elim) (qAq _) (by simp) (fun i j h=>by cases h) (fun i j h=>by cases h) (fun i j h=>by cases h) trivial
  simpa using this
 ·have hgi:∀i,i<L.length→w'.cell? ⟨g,0+(i*1+0),none⟩=some (encStr (L.getD i [])):=fun i hi=>by
   have hcs:i<cur.size:=by omega
   have e1:cur[i]=encStr (L.getD i []):=by
    have:(cur.toList.take (ss.length*1))[i]? =some (encStr (L.getD i [])):=by
     rw[htake,qAB,qAd hi]
     simp[List.getD,qAd hi]
    rw[qBf,if_pos (by omega)]at this
    simpa[hcs]using this
   have e0:0+(i*1+0)=i:=by omega
   rw[e0]
   simp[World.cell?,hg,hcs,e1]
  have hlen2:(L.map encS).length=es.length:=by simp[hLl]
  have:=Rel.slice (w:=w') (κ:=κ) (pv:=aC ak κ H) (es:=L.map encS) (tag:=.shared) (a:=some ⟨g,0,none⟩) (cap:=cap) g 0 1 (fun i _=>encStr (L.getD i []))
   (fun i hi=>by simp only[qAi]at hi;simp[List.getD,qAd hi,encS]) (fun _=>rfl) (by omega) (by omega)
   (fun i j _ _ hpv=>by have:=ac9 hen hpv;omega)
   (fun i j hi hj=>by
    simp only[qAi]at hi
    have hj0:j=0:=by omega
    subst hj0
    exact hgi i hi)
   (fun i j hi hj=>by
    simp only[qAi]at hi
    have hj0:j=0:=by omega
    subst hj0
    have e:((L.map encS).getD i []).getD 0 .unk=.str (L.getD i []):=by simp[List.getD,qAd hi,encS]
    rw[e]
    refine .str (hLk _ ?_)
    rw[List.getD,qAd hi];exact qAV _) trivial
  rw[hlen2]at this
  rw[hssl]
  exact this
end
section
open Go
def eqT:Tag→Tag→Bool
 | .shared,.shared=>true
 | .nils,.nils=>true
 | .tip l z,.tip l' z'=>Nat.beq l l'&&Nat.beq z z'
 | .full n,.full m=>Nat.beq n m
 |_,_=>false
def Ze:List UInt8→List UInt8→Bool
 |[],[]=>true
 |a::s,b::t=>Nat.beq a.toNat b.toNat&&Ze s t
 |_,_=>false
mutual
def uI:AV→AV→Bool
 | .unk,.unk=>true
 | .int k n,.int k' n'=>decide (k=k')&&decide (n=n')
 | .bool b,.bool b'=>b==b'
 | .str s,.str s'=>Ze s s'
 | .nilp,.nilp=>true
 | .ptr l o,.ptr l' o'=>Nat.beq l l'&&Nat.beq o o'
 | .slice es t,.slice es' t'=>eqT t t'&&M6 es es'
 | .agg cs,.agg cs'=>Fb cs cs'
 | .tup cs,.tup cs'=>Fb cs cs'
 | .func f cs,.func f' cs'=>Nat.beq f f'&&Fb cs cs'
 | .mapr l,.mapr l'=>Nat.beq l l'
 | .nilFunc,.nilFunc=>true
 | .psl l z n,.psl l' z' n'=>Nat.beq l l'&&(Nat.beq z z'&&Nat.beq n n')
 |_,_=>false
def Fb:List AV→List AV→Bool
 |[],[]=>true
 |c::cs,c'::cs'=>uI c c'&&Fb cs cs'
 |_,_=>false
def M6:List (List AV)→List (List AV)→Bool
 |[],[]=>true
 |c::cs,c'::cs'=>Fb c c'&&M6 cs cs'
 |_,_=>false
end
def Uu:List (List UInt8×AV)→List (List UInt8×AV)→Bool
 |[],[]=>true
 |(k,v)::m,(k',v')::m'=>Ze k k'&&(uI v v'&&Uu m m')
 |_,_=>false
def eqO:AObj→AObj→Bool
 | .box cs,.box cs'=>Fb cs cs'
 | .tip n,.tip n'=>Nat.beq n n'
 | .dead,.dead=>true
 | .mp m,.mp m'=>Uu m m'
 | .arr z es,.arr z' es'=>Nat.beq z z'&&M6 es es'
 |_,_=>false
def Mc:List AObj→List AObj→Bool
 |[],[]=>true
 |c::cs,c'::cs'=>eqO c c'&&Mc cs cs'
 |_,_=>false
theorem afw{x y:Tag}(h:eqT x y=true):x=y:=by
 cases x<;>cases y<;>simp only[eqT,qAa,qAI]at h
 ·rfl
 ·rfl
 ·rw[qAc h.1,qAc h.2]
 ·rw[qAc h]
theorem QW:∀{x y:List UInt8},Ze x y=true→x=y
 |[],[],_=>rfl
 |a::s,b::t,h=>by
  simp only[Ze,qAa]at h
  rw[QW h.2,UInt8.toNat_inj.1 (qAc h.1)]
mutual
theorem Zj:∀{x y:AV},uI x y=true→x=y
 | .unk,y,h=>by cases y<;>simp[uI]at h⊢
 | .int k n,y,h=>by cases y<;>simp[uI]at h⊢;exact h
 | .bool b,y,h=>by cases y<;>simp[uI]at h⊢;exact h
 | .str s,y,h=>by cases y<;>simp only[uI,qAI]at h;rw[QW h]
 | .nilp,y,h=>by cases y<;>simp[uI]at h⊢
 | .ptr l o,y,h=>by
  cases y<;>simp only[uI,qAI,qAa]at h
  rw[qAc h.1,qAc h.2]
 | .slice es t,y,h=>by
  cases y<;>simp only[uI,qAI,qAa]at h
  rw[afw h.1,MI h.2]
 | .agg cs,y,h=>by cases y<;>simp only[uI,qAI]at h;rw[zJ h]
 | .tup cs,y,h=>by cases y<;>simp only[uI,qAI]at h;rw[zJ h]
 | .func f cs,y,h=>by
  cases y<;>simp only[uI,qAI,qAa]at h
  rw[qAc h.1,zJ h.2]
 | .mapr l,y,h=>by cases y<;>simp only[uI,qAI]at h;rw[qAc h]
 | .nilFunc,y,h=>by cases y<;>simp[uI]at h⊢
 | .eptr _,y,h=>by cases y<;>simp[uI]at h
 | .psl l z n,y,h=>by
  cases y<;>simp only[uI,qAI,qAa]at h
  rw[qAc h.1,qAc h.2.1,qAc h.2.2]
 | .flist _,y,h=>by cases y<;>simp[uI]at h
theorem zJ:∀{x y:List AV},Fb x y=true→x=y
 |[],y,h=>by cases y<;>simp[Fb]at h⊢
 |c::cs,y,h=>by
  cases y<;>simp only[Fb,qAI,qAa]at h
  rw[Zj h.1,zJ h.2]
theorem MI:∀{x y:List (List AV)},M6 x y=true→x=y
 |[],y,h=>by cases y<;>simp[M6]at h⊢
 |c::cs,y,h=>by
  cases y<;>simp only[M6,qAI,qAa]at h
  rw[zJ h.1,MI h.2]
end
theorem Y4:∀{x y:List (List UInt8×AV)},Uu x y=true→x=y
 |[],y,h=>by cases y<;>simp[Uu]at h⊢
 |(k,v)::m,y,h=>by
  cases y with
  |nil=>simp[Uu]at h
  |cons p m'=>
   obtain⟨k',v'⟩:=p
   simp only[Uu,qAa]at h
   rw[QW h.1,Zj h.2.1,Y4 h.2.2]
theorem aeL{x y:AObj}(h:eqO x y=true):x=y:=by
 cases x<;>cases y<;>simp only[eqO,qAI,qAa]at h
 ·rw[zJ h]
 ·rw[qAc h]
 ·rw[Y4 h]
 ·rfl
 ·rw[qAc h.1,MI h.2]
theorem U2:∀{x y:List AObj},Mc x y=true→x=y
 |[],y,h=>by cases y<;>simp[Mc]at h⊢
 |c::cs,y,h=>by
  cases y<;>simp only[Mc,qAI,qAa]at h
  rw[aeL h.1,U2 h.2]
structure Known where
 f:Nat
 args:List AV
 H:List AObj
 res:AV
 H':List AObj
def known:List Known→dR→dR
 |[],E,f,args,H=>E f args H
 |e::m,E,f,args,H=>bif Nat.beq e.f f&&(Fb e.args args&&Mc e.H H)then some (e.res,e.H')else known m E f args H
theorem Sc{P:Program}{E:dR}(hE:∀f args H r,E f args H=some r→aP P f args H r.1 r.2):∀(m:List Known),(∀e∈m,aP P e.f e.args e.H e.res e.H')→∀f args H r,known m E f args H=some r→aP P f args H r.1 r.2
 |[],_,f,args,H,r,h=>hE f args H r h
 |e::m,hm,f,args,H,r,h=>by
  unfold known at h
  cases hb:(Nat.beq e.f f&&(Fb e.args args&&Mc e.H H))with
  |false=>rw[hb]at h;exact Sc hE m (fun e he=>hm e (qAk _ he)) f args H r h
  |true=>
   rw[hb]at h
   simp only[cond_true,Option.some.injEq]at h
   subst h
   simp only[qAa]at hb
   have:=hm e (by simp)
   rw[qAc hb.1,zJ hb.2.1,U2 hb.2.2]at this
   exact this
theorem AW.RA{P:Program}{m id x y d:Nat}{o1 o2:Oper}{Q:QT}{t:List AV}{h:List AObj}{T T2 e:TypeId}{es:List (List AV)}{tag:Tag}
  (h1:o1.op=.move (.tmp x)) (g1:o1.guard=none) (d1:o1.dst=some y) (h2:o2.op=.binOp .eql T (.tmp y) (.const (.slice none 0 0)) T2) (g2:o2.guard=none) (d2:o2.dst=some d)
  (hT:P.underlying T=some (.slice e)) (hx:t.getD x .unk=.slice es tag) (hy:y<t.length)
  (hq:∀b:Bool,(b=true→es=[])→Q .normal ((t.set y (.slice es tag)).set d (.bool b)) h):AW P m (.region id #[o1,o2] false) Q t h:=by
 intro C κ a w hk hs
 refine wp_region_lit (l:=[o1,o2]) ?_
 simp only[wpList]
 have w1:∀f,Region.wanted o1 f=true:=fun f=>by simp[Region.wanted,g1]
 have w2:∀f,Region.wanted o2 f=true:=fun f=>by simp[Region.wanted,g2]
 simp only[w1,if_true]
 refine .inl ?_
 have hop1:kD P o1 ⟨t,h⟩ ((⟨t,h⟩:ASt).wr (ah o1.dst (.slice es tag))):=Dm (by rw[h1];simp only[aj,aN];rw[hx])
 refine hop1 C κ a w hs _ _ fun κ' a' w' hs'=>?_
 simp only[w2,if_true]
 refine .inl ?_
 rw[d1]at hs'
 have hv:=hs'.ev (.tmp y)
 have e1:aN ((⟨t,h⟩:ASt).wr (ah (some y) (.slice es tag))).tmps (.tmp y)=.slice es tag:=by
  show(t.set y (.slice es tag)).getD y .unk=_
  exact dZ hy
 rw[e1]at hv
 cases hev:a'.eval (.tmp y)with
 |slice ad n cap=>
  rw[hev]at hv
  have hrun:(execOp a'.eval o2).run P w'=.ok (.value (.bool ad.isNone)) w':=by
   obtain⟨dst,op,ty,pos,after,guard⟩:=o2
   simp only at h2
   subst h2
   have hc:a'.eval (.const (.slice none 0 0))=.slice none 0 0:=rfl
   have heq:(Op.equal T (.slice ad n cap) (.slice none 0 0)).run P w'=.ok ad.isNone w':=by
    have hh:∀dd,(Op.equalIn (dd+1) T (.slice ad n cap) (.slice none 0 0)).run P w'=.ok ad.isNone w':=fun dd=>by cases ad<;>simp[Op.equalIn,run_underlying hT]
    exact hh 9999
   simp[execOp,hev,hc,binOp,eqGuard,heq]
  unfold Oper.wp
  rw[hrun]
  refine⟨(((⟨t,h⟩:ASt).wr (ah (some y) (.slice es tag))).setSlot d (.bool ad.isNone)),κ',hq _ fun hb=>?_,?_⟩
  ·cases hv with
   |slice b off sz u q1 q2 q3 q3' q4 q5 q6 q7=>
    apply qAm
    intro hne
    rw[q2 hne]at hb
    cases hb
  ·rw[d2];exact hs'.put (.bool _)
 |_=>rw[hev]at hv;cases hv
end
section
open Go Go.Proofs
end
section
open Go
def Wo(τ:Nat→TI)(k:Nat)(d:Option Tmp)(ρ:Operand→AV)(σ:Nat→AObj)(K:List Nat→List Wr→Prop):Op→Prop
 | .buildSlice t len parts=>match len,parts.toList with
  |0,[]=>dI (τ t).elem fun e=>dK (aX (σ k)) (K [k] (.obj k (.arr e.2.1 [])::ah d (.psl k e.2.1 0))) False
  |_,_=>CO τ k d ρ σ K (.buildSlice t len parts)
 |op=>CO τ k d ρ σ K op
theorem Zn{τ:Nat→TI}{k:Nat}{d:Option Tmp}{ρ:Operand→AV}{σ:Nat→AObj}{K:List Nat→List Wr→Prop}{op:Op}(h:Wo τ k d ρ σ K op):CO τ k d ρ σ K op∨∃t e,op=.buildSlice t 0 #[]∧(τ t).elem=some e∧aX (σ k)=true∧K [k] (.obj k (.arr e.2.1 [])::ah d (.psl k e.2.1 0)):=by
 unfold Wo at h
 split at h
 ·rename_i t len parts
  split at h
  ·rename_i hp
   obtain⟨e,h1,h2⟩:=aZ h
   rcases aQ h2 with⟨h3,h4⟩|⟨_,h4⟩
   ·refine .inr ⟨t,e,?_,h1,h3,h4⟩
    simp_all
   grind
  grind
 grind
def zi(P:Program)(τ:Nat→TI)(ops:List Oper):List Oper→Nat→List Eff→List AV→List AObj→(List Eff→List AV→List AObj→Prop)→Prop
 |[],_,es,t,h,K=>K es.reverse t h
 |o::l,k,es,t,h,K=>grd ops t
   (fun t=>match fT o.op with
    |some (f,args)=>Fy (fun fid caps=>Jf t args.toList fun vs=>fL (vs++caps) fun vs=>ACallU P fid vs o.dst t h k fun k' ro ws=>nD ws t h fun t' h'=>zi P τ ops l k' (⟨aJ ops.toArray o,ro,ws⟩::es) t' h' K) (aN t f)
    |none=>Wo τ k o.dst (aN t) (obj? h) (fun rd ws=>nD ws t h fun t' h'=>Oo (dJ o.op) (zi P τ ops l k (⟨aJ ops.toArray o,rd,ws⟩::es) t' h' K) (zi P τ ops l (k+1) (⟨aJ ops.toArray o,rd,ws⟩::es) t' h' K)) o.op)
   (fun t=>nD (ah o.dst (.tup [])) t h fun t' h'=>zi P τ ops l k (⟨aJ ops.toArray o,[],ah o.dst (.tup [])⟩::es) t' h' K) o.guard
theorem Xn{P:Program}{ops:List Oper}:∀(l:List Oper) (k:Nat) (es:List Eff) (t:List AV) (h:List AObj) (K:List Eff→List AV→List AObj→Prop),zi P (TI.of P) ops l k es t h K→∃es' s',ATr P ops.toArray l es' ⟨t,h⟩ s'∧K (es.reverse++es') s'.tmps s'.heap:=by
 intro l
 induction l with
 |nil=>intro k es t h K hr;exact⟨[],⟨t,h⟩,.nil _,by simpa[zi]using hr⟩
 |cons o l ih=>
  intro k es t h K hr
  have fin:∀(e:Eff) (k':Nat),qd P ops.toArray o ⟨t,h⟩ e→(nD e.ws t h fun t' h'=>zi P (TI.of P) ops l k' (e::es) t' h' K)→∃es' s',ATr P ops.toArray (o::l) es' ⟨t,h⟩ s'∧K (es.reverse++es') s'.tmps s'.heap:=fun e k' he hw=>by
   rw[K5]at hw
   obtain⟨es',s',g1,g2⟩:=ih k' (e::es) _ _ K hw
   exact⟨e::es',s',.cons he g1,by simpa using g2⟩
  rcases Ak hr with⟨hc,h1⟩|⟨hc,h2⟩
  ·cases hcall:fT o.op with
   |none=>
    rw[hcall]at h1
    obtain⟨rd,ws,g1,g2⟩:∃rd ws,qd P ops.toArray o ⟨t,h⟩ ⟨aJ ops.toArray o,rd,ws⟩∧nD ws t h fun t' h'=>Oo (dJ o.op) (zi P (TI.of P) ops l k (⟨aJ ops.toArray o,rd,ws⟩::es) t' h' K) (zi P (TI.of P) ops l (k+1) (⟨aJ ops.toArray o,rd,ws⟩::es) t' h' K):=by
     rcases Zn h1 with h1|⟨tt,e,ho,he,hk,h1⟩
     ·obtain⟨rd,ws,g1,g2⟩:=Fj h1
      exact⟨rd,ws,uU (s:=⟨t,h⟩) hc g1,g2⟩
     ·refine⟨_,_,fun s' hs'=>.inl ⟨by rw[lF hs'.rs];exact hc,?_⟩,h1⟩
      refine Jo ho (e:=e.1) (by_:=e.2.2) he ?_
      rw[hs'.ro k (by simp)]
      exact hk
    have g2:∃k',nD ws t h fun t' h'=>zi P (TI.of P) ops l k' (⟨aJ ops.toArray o,rd,ws⟩::es) t' h' K:=by
     cases hn:dJ o.op with
     |zero=>simp only[hn]at g2;exact⟨_,g2⟩
     |succ m=>simp only[hn]at g2;exact⟨_,g2⟩
    obtain⟨k',g2⟩:=g2
    exact fin ⟨aJ ops.toArray o,rd,ws⟩ k' g1 g2
   |some p=>
    rw[hcall]at h1
    simp only at h1
    unfold Fy at h1
    split at h1
    ·rename_i fid caps g1
     simp only[GR,lS]at h1
     replace h1:=h1.out
     obtain⟨hok,ρ,ks,aargs,H,res,H',g2,g3,g4,g5,g6⟩:=h1
     obtain⟨tt,ho⟩:=lX hcall
     exact fin _ _ (rW (s:=⟨t,h⟩) hc ho g1 hok g2 g3 g4 g5) g6
    grind
  ·exact fin _ k (rT (s:=⟨t,h⟩) hc) h2
theorem AW.Ur{P:Program}{τ:Nat→TI}{m id:Nat}{l:Array Oper}{dr:Bool}{Q:QT}{t:List AV}{h:List AObj}(hτ:τ=TI.of P)(hm:P.follows .mixedOrders=true)(r:Nat)
  (hr:rep r h fun h'=>E8 h 0 fun k=>zi P τ l.toList l.toList k [] t h' fun es t h=>dK dr (eX l.toList es=true∧Q .normal t h) (Q .normal t h)):AW P m (.region id l dr) Q t h:=by
 subst hτ
 unfold rep at hr
 simp only[lS,BP]at hr
 obtain⟨es,s',h1,h2⟩:=Xn _ _ _ _ _ _ hr
 have hl:l=l.toList.toArray:=by simp
 rcases aQ h2 with⟨rfl,g1,g2⟩|⟨rfl,g⟩
 ·exact AW.of (bf.drawn (s:=⟨t,h⟩) r hm h1 g1 g2)
 ·exact AW.of (bf.region (s:=⟨t,h⟩) r h1.steps g)
section
variable {xs ys:List AV}
end
section
variable {h:List AObj}{L:List (Option Nat)}{xs ys:List AV}{ls:List (Option Nat)}{os:List AObj}{l:Nat}
theorem VWs.u{y:AV}(hv:VWs h L xs ys):VWs h L (.unk::xs) (y::ys):=.cons (.unk _) hv
theorem OWs.t{n:Nat}(e:obj? h l=.tip n)(hv:OWs h L ls os):OWs h L (some l::ls) (.tip n::os):=.old (by rw[e];exact .tip n) hv
theorem OWs.w{o:AObj}(e:aX o=false)(hv:OWs h L ls os):OWs h L (none::ls) (o::os):=.new e hv
end
theorem wk{m:Nat}{t t':List AV}{h h':List AObj}(L:List (Option Nat))(ht:VWs h L t' t)(ho:OWs h L L h')(hL:okL m h.length L h'=true):Le m t h t' h':=.of L (.mk' hL ht ho)
end
section
open Go Go.Proofs
theorem Sim.wP{C:Ctx}{κ:aH}{s:ASt}{a:Act}{w:World}(h:Sim C κ s a w)(D:List Deferred):Sim {C with ds:=D} κ s {a with defers:=D} w:=
 {h with defers:=rfl}
theorem Ba{fn:Func}{args:List AV}{H:List AObj}{κ:aH}{ak:bN}{w:World}{vs:List Value}(hen:Entry κ ak H w)(hvl:vs.length=args.length)(hr:∀j,j<args.length→Rel w κ (aC ak κ H) (args.getD j .unk) (vs.getD j undef)):
  Sim (bodyC κ ak H w []) κ ⟨args++List.replicate (fn.ntmps - args.length) (.tup []),H⟩ {tmps:=vs.toArray++Array.replicate (fn.ntmps - vs.toArray.size) undef,defers:=[]} w:=by
 refine⟨rfl,by simp[hvl],?_,hen.klen,bB.refl _,hen.resv,hen.obj,hen.apart,fun l b h1 h2 ho=>ho.2 l h1 h2,hen.bound,fun b o h=>⟨hen.pvlt b o h,fun l hl=>hen.pvdis b o l h hl⟩,fun b hb=>hb.1,fun _ _=>rfl,rfl,rfl,rfl,qAq _,fun _ _ h _=>h,Evo.refl _ _⟩
 intro n hn
 by_cases hlt:n<args.length
 ·have e1:(args++List.replicate (fn.ntmps - args.length) (AV.tup [])).getD n .unk=args.getD n .unk:=by simp[qAe hlt]
  have e2:(vs.toArray++Array.replicate (fn.ntmps - vs.toArray.size) undef).getD n undef=vs.getD n undef:=by
   simp_all
  rw[e1,e2];exact hr n hlt
 ·have e1:(args++List.replicate (fn.ntmps - args.length) (AV.tup [])).getD n .unk=.tup []:=by
   grind
  have e2:(vs.toArray++Array.replicate (fn.ntmps - vs.toArray.size) undef).getD n undef=undef:=by
   simp_all
  rw[e1,e2];exact fM
theorem TW{P:Program}{f d n:Nat}{r0 r1 r3:Code}{id:Nat}{o1 o2:Oper}{args:List AV}{H H':List AObj}{res:AV}{sA sB:ASt}{L:List Nat}{fn:Func}{capO:Array Operand}
  (hf:P.funcs[f]? =some fn) (hb:fn.body=some (r0.seq (r1.seq ((Code.region id #[o1,o2] false).seq r3)))) (hlen:args.length≤fn.ntmps)
  (h1:o1.op=.makeFunc (.func d) #[] capO) (g1:o1.guard=none) (d1:o1.dst=some n) (h2:o2.op=.defer {callee:=.value (.tmp n),args:=#[],argTypes:=#[]}) (g2:o2.guard=none) (d2:o2.dst=none) (h12:n<sB.tmps.length) (hokd:gT P d=true)
  (hidle:∀(xs:Array Value) (w:World),xs.size=capO.size→CallsD P d xs .returning w fun e u' w'=>e=.returned (.tuple #[])∧u'=.returning∧w'=w)
  (hr0:bf P r0 (fun e s=>e=.normal∧s=sA) ⟨args++List.replicate (fn.ntmps - args.length) (.tup []),H⟩)
  (hr1:bf P r1 (fun e s=>e=.normal∧s=sB) sA)
  (hr3:bf P r3 (Gx (tK P fn.results.toList false L H res H')) (sB.wr (ah (some n) .unk))):aP P f args H res H':=by
 intro κ ak w vs hen hvl hr
 refine calls_of_wp_defers hf hb ?_
 have hsim:Sim (bodyC κ ak H w []) κ ⟨args++List.replicate (fn.ntmps - args.length) (.tup []),H⟩ {tmps:=vs.toArray++Array.replicate (fn.ntmps - vs.toArray.size) undef,defers:=[]} w:=Ba hen hvl hr
 refine wp_seq (wp_mono (hr0 _ κ _ w hsim) ?_)
 rintro e a w1 ⟨s,κ1,⟨rfl,rfl⟩,hs1⟩
 refine wp_seq (wp_mono (hr1 _ κ1 _ w1 hs1) ?_)
 rintro e a w2 ⟨s,κ2,⟨rfl,rfl⟩,hs2⟩
 refine wp_seq (wp_region ?_)
 obtain⟨_,_,ty1,ps1,af1,_⟩:=o1
 obtain⟨_,_,ty2,ps2,af2,_⟩:=o2
 simp only at h1 g1 d1 h2 g2 d2
 subst h1 g1 d1 h2 g2 d2
 have h12':n<a.tmps.size:=by rw[hs2.len];exact h12
 have hmf:∀(fn:Fn) (first cap:Array Value) (w:World),(Instr.makeFunc fn first cap).run P w=.ok (.func fn first cap) w:=fun _ _ _ _=>rfl
 have key:∀xs:Array Value,∃u,u=Value.func (.func d) #[] xs:=fun xs=>⟨_,rfl⟩
 simp only[wpOps,Region.wanted,Array.size,List.range,List.range.loop,qCt,qAl,qAx]
 simp[hmf,go_sem,h12']
 refine .inl ?_
 have fin:∀xs:Array Value,xs.size=capO.size→r3.wp P (bodyPostD P fn fun e w'=>∃v' κ',e=Ending.returned v'∧Leave κ κ' ak H H' w w'∧Rel w' κ' (aC ak κ' H') res v') {tmps:=a.tmps.setIfInBounds n (.func (.func d) #[] xs),defers:=[{target:=.fn (.func d) xs,args:=#[]}]} w2:=by
  intro xs hxs
  have hs3:=(hs2.ah (some n) (v:=.unk) (u:=.func (.func d) #[] xs) (.unk _)).wP [{target:=.fn (.func d) xs,args:=#[]}]
  refine wp_mono (hr3 _ κ2 _ w2 hs3) ?_
  have fin2:∀(s':ASt) (κ':aH) (a':Act) (w':World),tK P fn.results.toList false L H res H' s'→Sim (bodyC κ ak H w [{target:=.fn (.func d) xs,args:=#[]}]) κ' s' a' w'→Leaves P fn a'.tmps (fun e w'=>∃v' κ',e=Ending.returned v'∧Leave κ κ' ak H H' w w'∧Rel w' κ' (aC ak κ' H') res v') a'.defers .returning w':=by
   intro s' κ' a' w' hq hs'
   rw[hs'.defers]
   refine leaves_cons (f:=d) (args:=xs) (by simp) (by simp[go_sem,pE hokd]) ?_
   refine(hidle xs w' hxs).mono ?_
   rintro e u w'' ⟨rfl,rfl,rfl⟩
   obtain⟨v,hv1,v',κ'',e1,h1,h2⟩:=Mk hen _ s' κ' a' _ hq hs'
   exact⟨v,hv1,v',κ'',e1,h1,h2⟩
  rintro e a' w' ⟨s',κ',hq,hs'⟩
  cases e with
  |normal=>exact fin2 s' κ' a' w' hq hs'
  |ret=>exact fin2 s' κ' a' w' hq hs'
  |exit id=>exact hq.elim
  |goto l=>exact hq.elim
  |panic c=>exact hq.elim
  |outgrown=>exact hq.elim
 have hd0:a.defers=[]:=hs2.defers
 grind
end
end Abs
end Go.Proofs.YtfmdmcenjfkbhaaGreatDoor
