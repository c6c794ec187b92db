/-
  Printed by gend.py. Conditions: none.
-/
import Derived.KernelRfl
import Derived.Defers
import Derived.Recover
import Derived.Tactics
import Derived.Tactics2
import Derived.WalkKit
import Derived.Test.YtneeginmfjageaaGreatCFnox273d0e
import Derived.Test.YtneeginmfjageaaGreatCD31ox7acc51
set_option linter.all false
namespace Go.Proofs.YtneeginmfjageaaGreat
namespace Abs
section
open Go Go.Proofs
set_option maxRecDepth 100000
abbrev Sk.I:Sk:=.lf (.n .i64)
abbrev Sk.U:Sk:=.lf (.n .u8)
abbrev Sk.S:Sk:=.lf .s
abbrev Sk.B:Sk:=.lf .b
abbrev Sk.Li:Sk:=.lf (.l .i)
abbrev Sk.Lu:Sk:=.lf (.l .u)
abbrev Sk.Ls:Sk:=.lf (.l .s)
abbrev Sk.Lb:Sk:=.lf (.l .b)
abbrev Sk.Lcar:Sk:=.lf (.l .car)
abbrev Sk.Ldec:Sk:=.lf (.l .dec)
abbrev Sk.Lty:Sk:=.lf (.l .ty)
abbrev Sk.Ltm:Sk:=.lf (.l .tm)
abbrev Sk.Lenv:Sk:=.lf (.l .env)
abbrev Sk.Lval:Sk:=.lf (.l .val)
abbrev Sk.Lbnd:Sk:=.lf (.l .bnd)
abbrev Sk.Lvals:Sk:=.lf (.l .vals)
abbrev Sk.Ltms:Sk:=.lf (.l .tms)
abbrev Sk.Ti:Sk:=.lf (.t .i)
abbrev Sk.Tu:Sk:=.lf (.t .u)
abbrev Sk.Ts:Sk:=.lf (.t .s)
abbrev Sk.Tb:Sk:=.lf (.t .b)
abbrev Sk.Tcar:Sk:=.lf (.t .car)
abbrev Sk.Tdec:Sk:=.lf (.t .dec)
abbrev Sk.Tty:Sk:=.lf (.t .ty)
abbrev Sk.Ttm:Sk:=.lf (.t .tm)
abbrev Sk.Tenv:Sk:=.lf (.t .env)
abbrev Sk.Tval:Sk:=.lf (.t .val)
abbrev Sk.Tbnd:Sk:=.lf (.t .bnd)
abbrev Sk.Tvals:Sk:=.lf (.t .vals)
abbrev Sk.Ttms:Sk:=.lf (.t .tms)
abbrev Sk.Fd:Sk:=.lf (.f .dec)
def E0(f n:Nat)ps(a:Nat)rs(F:jr (bF ps)->Option (jr (bF rs))):Ent:=⟨f,n,ps,a,rs,jr (bF rs),none,none,F,λr=>r⟩
def TE:Nat:=41
def θl:List (Nat×ET):=[(2,.i),(3,.i),(4,.b),(5,.u),(6,.u),(9,.s),(10,.s),(11,.s),(25,.env),(27,.vals),(32,.ty),(33,.tms),(35,.tm),(40,.val),(41,.i),(63,.car),(66,.dec),(169,.bnd),(222,.bnd),(236,.i),(284,.u),(285,.u)]
noncomputable def θ(t:Nat):=List.rec (motive:=λ_=>Option ET) none (λp _ i=>bif Nat.beq p.1 t then some p.2 else i) θl
def QG(r:List Sk):=.nilF:: .func 300 [.eptr [.k (.n .i64 2),.k (.s ([]:Str)),.k (.l .ty)]]:: .func 300 [.eptr [.k (.n .i64 2),.k (.s ([]:Str)),.k (.l .ty)]]:: .func 293 [.eptr [.k (.n .i64 2),.k (.s ([]:Str)),.k (.l .ty)],.eptr [.k (.n .i64 2)]]:: .func 293 [.eptr [.k (.n .i64 2),.k (.s ([]:Str)),.k (.l .ty)],.eptr [.k (.n .i64 2)]]:: .func 293 [.eptr [.k (.n .i64 2),.k (.s ([]:Str)),.k (.l .ty)],.eptr [.k (.n .i64 2)]]:: .func 293 [.eptr [.k (.n .i64 2),.k (.s ([]:Str)),.k (.l .ty)],.eptr [.k (.n .i64 2)]]:: .func 293 [.eptr [.k (.n .i64 2),.k (.s ([]:Str)),.k (.l .ty)],.eptr [.k (.n .i64 2)]]:: .func 301 [.eptr [.func 227 []]]:: .func 301 [.eptr [.func 227 []]]:: .func 213 []:: .func 213 []:: .func 293 [.eptr [.k (.n .i64 2),.k (.s ([]:Str)),.k (.l .ty)],.eptr [.k (.n .i64 1)]]:: .func 293 [.eptr [.k (.n .i64 2),.k (.s ([]:Str)),.k (.l .ty)],.eptr [.k (.n .i64 1)]]:: .func 293 [.eptr [.k (.n .i64 2),.k (.s ([]:Str)),.k (.l .ty)],.eptr [.k (.n .i64 1)]]:: .func 293 [.eptr [.k (.n .i64 2),.k (.s ([]:Str)),.k (.l .ty)],.eptr [.k (.n .i64 1)]]:: .func 229 []:: .func 229 []:: .func 302 [.eptr [.func 227 []]]:: .func 300 [.eptr [.k (.n .i64 1),.k (.s ([]:Str)),.k (.l .ty)]]:: .nilF:: .func 293 [.eptr [.k (.n .i64 1),.k (.s ([]:Str)),.k (.l .ty)],.eptr [.k (.n .i64 1)]]:: .func 293 [.eptr [.k (.n .i64 1),.k (.s ([]:Str)),.k (.l .ty)],.eptr [.k (.n .i64 1)]]:: .func 293 [.eptr [.k (.n .i64 1),.k (.s ([]:Str)),.k (.l .ty)],.eptr [.k (.n .i64 1)]]:: .func 293 [.eptr [.k (.n .i64 1),.k (.s ([]:Str)),.k (.l .ty)],.eptr [.k (.n .i64 1)]]:: .func 293 [.eptr [.k (.n .i64 1),.k (.s ([]:Str)),.k (.l .ty)],.eptr [.k (.n .i64 1)]]:: .func 293 [.eptr [.k (.n .i64 1),.k (.s ([]:Str)),.k (.l .ty)],.eptr [.k (.n .i64 1)]]:: .func 231 []:: .func 233 []:: .nilF:: .func 293 [.eptr [.k (.n .i64 5),.k (.s ([]:Str)),.k (.ly ([(Ty.mk 1 ([]:Str) ([]))]))],.eptr [.k (.n .i64 1)]]:: .func 302 [.eptr [.func 228 []]]:: .func 302 [.eptr [.func 228 []]]:: .func 302 [.eptr [.func 228 []]]:: .func 296 [.eptr [.func 217 []]]:: .func 298 [.eptr [.func 234 []]]:: .func 298 [.eptr [.func 235 []]]:: .func 218 []:: .func 218 []:: .func 298 [.eptr [.func 222 []]]:: .func 298 [.eptr [.func 222 []]]:: .func 296 [.eptr [.func 216 []]]:: .func 296 [.eptr [.func 216 []]]:: .func 296 [.eptr [.func 216 []]]:: .func 296 [.eptr [.func 216 []]]:: .func 296 [.eptr [.func 216 []]]:: .func 299 [.eptr [.func 236 []]]:: .func 299 [.eptr [.func 237 []]]:: .func 299 [.eptr [.func 224 []]]:: .func 299 [.eptr [.func 224 []]]:: .func 298 [.eptr [.func 238 []]]:: .func 298 [.eptr [.func 239 []]]:: .func 298 [.eptr [.func 240 []]]:: .func 298 [.eptr [.func 241 []]]:: .func 298 [.eptr [.func 242 []]]:: .func 301 [.eptr [.func 228 []]]:: .func 243 []::r
def ag6 n:=E0 11 0 [] 1 [.r 0 .B] λx=>gJ n
def SG n:=E0 194 1 [.r 0 (.func 277 [.ptr 0 0]),.w (.box [.mapr 1]),.w (.mp .b)] 1 [.r 0 .Ls] λx=>nH n x
def acR n:=E0 47 2 [.r 0 .S,.r 1 .S] 1 [.r 0 .I] λx=>strings_Compare n x.1 x.2
def aax n:=E0 70 1 [.r 0 .Li] 1 [.r 0 .Li] λx=>slices_Clone_int n x
def d9(n:Nat):Ent:=⟨152,2,[.r 0 (.ptr 0 0),.r 1 .S,.w (.box [.Lcar,.Ldec,.Li,.mapr 1,.psl 2 5]),.w (.mp .val),.w (.arr .bnd)],1,[.r 0 .Tval],Val,some [],none,λx=>mq n x.2.1 x.2.2.1 x.2.2.2.1 x.2.2.2.2.1 x.2.2.2.2.2 x.1,λr=>r⟩
def an3 n:=E0 61 1 [.r 0 .Lval] 1 [.r 0 .Lval] λx=>jG n x
def YF n:=E0 334 2 [.r 0 .nils,.r 1 .I] 1 [.r 0 (.own 0),.w (.own .val)] λx=>Dz n x
def Qo n:=E0 335 1 [.r 0 .Lvals] 1 [.r 0 (.own 0),.w (.own .vals)] λx=>xA n x
def SF n:=E0 75 1 [.r 0 .Lval] 1 [.r 0 (.own 0),.w (.own .val)] λx=>ji n x
def VL n:=E0 75 1 [.r 0 .Lval] 1 [.r 0 (.psl 0 4),.w (.arr .val)] λx=>AY n x
def Yt n:=E0 74 1 [.r 0 (.psl 0 4),.w (.arr .val)] 1 [.r 0 (.psl 0 4)] λx=>(wQ n x).bind λ_=>some ()
def ah2 n:=E0 9 1 [.r 0 .Tenv] 1 [.r 0 .B] λx=>y7 n x
def ak5 n:=E0 174 1 [.r 0 .I] 1 [.r 0 .I] λx=>abO n x
def adQ n:=E0 127 1 [.r 0 .U] 1 [.r 0 .B] λx=>vB n x
def at0 n:=E0 103 2 [.r 0 .S,.r 1 .Ls] 1 [.r 0 .B] λx=>J9 n x.1 x.2
def Zx n:=E0 128 1 [.r 0 .S] 1 [.r 0 .B] λx=>Ht n x
def ahl n:=E0 129 1 [.r 0 .U] 1 [.r 0 .B] λx=>Bh n x
def RD n:=E0 99 1 [.r 0 .S] 1 [.r 0 .B] λx=>gZ n x
def R7 n:=E0 176 1 [.r 0 .S] 1 [.r 0 .B] λx=>LA n x
def ah3 n:=E0 100 1 [.r 0 .S] 1 [.r 0 .B] λx=>JO n x
def adM n:=E0 62 1 [.r 0 .I] 1 [.r 0 .B] λx=>yu n x
def af7 n:=E0 119 3 [.r 0 .Tty,.r 1 .I,.r 2 .I] 1 [.r 0 .I] λx=>yR n x.1 x.2.1 x.2.2
def Tv n:=E0 57 1 [.r 0 .Tty] 1 [.r 0 .B] λx=>sZ n x
def X7 n:=E0 175 1 [.r 0 .Tty] 1 [.r 0 .B] λx=>KA n x
def akY n:=E0 98 1 [.r 0 .Ttm] 1 [.r 0 .B] λx=>aci n x
def aiK n:=E0 49 3 [.r 0 .Ttm,.r 1 .I,.r 2 .I] 1 [.r 0 .I] λx=>EO n x.1 x.2.1 x.2.2
def V6 n:=E0 22 1 [.r 0 .Ttm] 1 [.r 0 .B] λx=>tV n x
def alM n:=E0 27 1 [.r 0 .Ttm] 1 [.r 0 .I] λx=>I6 n x
def agm n:=E0 10 1 [.r 0 .Ttm] 1 [.r 0 .B] λx=>qJ n x
def XI n:=E0 184 1 [.r 0 .U] 1 [.r 0 .B] λx=>Ee n x
def Ux n:=E0 185 1 [.r 0 .S] 1 [.r 0 .B] λx=>Gx n x
def aaJ n:=E0 268 1 [.r 0 .U] 1 [.r 0 .B] λx=>Np n x
def XW n:=E0 186 1 [.r 0 .U] 1 [.r 0 .B] λx=>Ku n x
def MV n:=E0 107 1 [.r 0 .S] 1 [.r 0 .B] λx=>fK n x
def tF n:=E0 319 2 [.r 0 .S,.r 1 .S] 1 [.r 0 .B] λx=>ny n x.1 x.2
def sF n:=E0 269 2 [.r 0 .S,.r 1 .S] 1 [.r 0 .S] λx=>mW n x.1 x.2
def GA n:=E0 187 2 [.r 0 .S,.r 1 .S] 1 [.r 0 .S] λx=>strings_TrimSuffix n x.1 x.2
def MC n:=E0 108 1 [.r 0 .S] 1 [.r 0 .B] λx=>u6 n x
def GX n:=E0 137 2 [.r 0 (.ptr 0 0),.r 1 .I,.w (.box [.I,.I,.I])] 1 [.r 0 .B,.o 0 (.bx [(0,.lf (.n .i64))])] λx=>ku n x.2.1 x.2.2.1 x.2.2.2 x.1
def um n:=E0 320 2 [.r 0 .Lty,.r 1 (.func 274 [.ptr 0 0,.ptr 2 0]),.w (.box [.ptr 1 0]),.w (.box [.I,.I,.I]),.w (.box [.I])] 1 [.r 0 .I,.o 1 (.bx [(0,.lf (.n .i64))])] λx=>j6 n x.1 x.2.1 x.2.2.1 x.2.2.2.1 x.2.2.2.2
def qG n:=E0 270 2 [.r 0 .Lty,.r 1 (.func 274 [.ptr 0 0,.ptr 2 0]),.w (.box [.ptr 1 0]),.w (.box [.I,.I,.I]),.w (.box [.I])] 1 [.r 0 .B,.o 1 (.bx [(0,.lf (.n .i64))])] λx=>eB n x.1 x.2.1 x.2.2.1 x.2.2.2.1 x.2.2.2.2
def uw n:=E0 191 4 [.r 0 (.ptr 0 0),.r 1 .Tty,.r 2 .I,.r 3 .B,.w (.box [.I,.I,.I])] 1 [.r 0 .B,.o 0 (.bx [(0,.lf (.n .i64))])] λx=>gQ n x.2.2.2.1 x.2.2.2.2.1 x.2.2.2.2.2 x.1 x.2.1 x.2.2.1
def rF n:=E0 274 3 [.r 0 .Tty,.r 1 (.ptr 0 0),.r 2 (.ptr 2 0),.w (.box [.ptr 1 0]),.w (.box [.I,.I,.I]),.w (.box [.I])] 1 [.r 0 .B,.o 1 (.bx [(0,.lf (.n .i64))])] λx=>eX n x.1 x.2.1 x.2.2.1 x.2.2.2.1 x.2.2.2.2
def OD n:=E0 113 1 [.r 0 .Tty] 1 [.r 0 .B] λx=>oC n x
def rU n:=E0 320 2 [.r 0 .Lty,.r 1 (.func 271 [.ptr 0 0]),.w (.box [.I])] 1 [.r 0 .I] λx=>kT n x.1 x.2
def oK n:=E0 270 2 [.r 0 .Lty,.r 1 (.func 271 [.ptr 0 0]),.w (.box [.I])] 1 [.r 0 .B] λx=>iq n x.1 x.2
def DK n:=E0 188 2 [.r 0 .Tty,.r 1 .I] 1 [.r 0 .B] λx=>nN n x.1 x.2
def Ag n:=E0 271 2 [.r 0 .Tty,.r 1 (.ptr 0 0),.w (.box [.I])] 1 [.r 0 .B] λx=>kW n x.1 x.2
def Im n:=E0 109 1 [.r 0 .Tty] 1 [.r 0 .B] λx=>wL n x
def OJ n:=E0 193 2 [.r 0 .Tty,.r 1 (.mapr 0),.w (.mp .b)] 0 [.o 0 (.mp .b)] λx=>oI n x.1 x.2
def OZ n:=E0 195 1 [.r 0 (.mapr 0),.w (.mp .b)] 1 [.r 0 (.func 277 [.ptr 1 0]),.w (.box [.mapr 0])] λx=>akO n x
def MP n:=E0 115 1 [.r 0 .Tty] 1 [.r 0 .Ls] λx=>uY n x
def FM n:=E0 273 2 [.r 0 .Tcar,.r 1 (.ptr 0 0),.w (.box [.S])] 1 [.r 0 .B] λx=>Yq n x.1 x.2
def zL n:=E0 196 2 [.r 0 .Lcar,.r 1 (.func 273 [.ptr 0 0]),.w (.box [.S])] 1 [.r 0 .I] λx=>Bg n x.1 x.2
def wI n:=E0 272 2 [.r 0 .Lcar,.r 1 (.func 273 [.ptr 0 0]),.w (.box [.S])] 1 [.r 0 .B] λx=>xY n x.1 x.2
def IC n:=E0 190 2 [.r 0 .Tenv,.r 1 .S] 1 [.r 0 .B] λx=>DT n x.1 x.2
def Iy n:=E0 189 2 [.r 0 .S,.r 1 (.ptr 0 0),.w (.box [.Lcar,.Ldec])] 1 [.r 0 .B] λx=>DV n x.1 x.2.1 x.2.2
def AL n:=E0 192 2 [.r 0 .Ls,.r 1 (.func 189 [.ptr 0 0]),.w (.box [.Lcar,.Ldec])] 1 [.r 0 .I] λx=>Dl n x.1 x.2.1 x.2.2
def xQ n:=E0 114 2 [.r 0 .Ls,.r 1 (.func 189 [.ptr 0 0]),.w (.box [.Lcar,.Ldec])] 1 [.r 0 .B] λx=>zG n x.1 x.2.1 x.2.2
def MS n:=E0 110 2 [.r 0 .Tenv,.r 1 .Tty] 1 [.r 0 .B] λx=>Aj n x.1 x.2
def MB n:=E0 112 1 [.r 0 .Tenv] 1 [.r 0 (.own 0),.w (.own .s)] λx=>Av n x
def MK n:=E0 111 1 [.r 0 .Ls] 1 [.r 0 .B] λx=>AX n x
def Mw n:=E0 53 1 [.r 0 .Tenv] 1 [.r 0 .B] λx=>qp n x
def QZ n:=E0 54 2 [.r 0 .Tenv,.r 1 .Li] 1 [.r 0 .B] λx=>zx n x.1 x.2
def UG n:=E0 197 2 [.r 0 .Tcar,.r 1 (.ptr 0 0),.w (.box [.S])] 1 [.r 0 .B] λx=>arR n x.1 x.2
def wH n:=E0 196 2 [.r 0 .Lcar,.r 1 (.func 197 [.ptr 0 0]),.w (.box [.S])] 1 [.r 0 .I] λx=>yB n x.1 x.2
def Z4 n:=E0 117 2 [.r 0 .Tenv,.r 1 .S] 1 [.r 0 .I] λx=>M5 n x.1 x.2
def Q7 n:=E0 96 1 [.r 0 .I] 1 [.r 0 .B] λx=>cmp_isNaN_int n x
def Mv n:=E0 46 2 [.r 0 .I,.r 1 .I] 1 [.r 0 .I] λx=>cmp_Compare_int n x.1 x.2
def abx n:=E0 45 1 [.r 0 .Li] 1 [.r 0 .I] λx=>Vu n x
def qL n:=E0 48 3 [.r 0 .Lval,.r 1 .Lval,.r 2 (.func 19 [])] 1 [.r 0 .I] λx=>kF n x.1 x.2
def JN n:=E0 19 2 [.r 0 .Tval,.r 1 .Tval] 1 [.r 0 .I] λx=>dz n x.1 x.2
def VZ n:=E0 56 4 [.r 0 .Tenv,.r 1 .Li,.r 2 .Tval,.r 3 .Tty] 1 [.r 0 .B] λx=>jL n x.1 x.2.1 x.2.2.1 x.2.2.2
def Pp n:=E0 118 4 [.r 0 .Lty,.r 1 (.ptr 0 0),.r 2 (.ptr 1 0),.r 3 (.ptr 2 0),.w (.box [.I,.I,.S,.Lval]),.w (.box [.Lcar,.Ldec]),.w (.box [.Li])] 1 [.r 0 .B] λx=>vF n x.1 x.2.1 x.2.2.1 x.2.2.2.1 x.2.2.2.2.1 x.2.2.2.2.2.1 x.2.2.2.2.2.2.1 x.2.2.2.2.2.2.2
def Ms n:=E0 31 1 [.r 0 (.agg [.Lcar,.Ldec,.Li,.Lval])] 1 [.r 0 .B] λx=>uW n (S_api_World.mk (Env.mk x.1 x.2.1) x.2.2.1 x.2.2.2)
def ac9 n:=E0 205 1 [.r 0 .I] 2 [.r 0 .I,.r 1 .B] λx=>Qu n x
def ZB n:=E0 206 1 [.r 0 .S] 1 [.r 0 .B] λx=>WH n x
def Xy n:=E0 207 1 [.r 0 .I] 1 [.r 0 .B] λx=>D9 n x
def RF n:=E0 208 1 [.r 0 .Tty] 1 [.r 0 .B] λx=>EI n x
def Xz n:=E0 138 1 [.r 0 .Ttm] 1 [.r 0 .B] λx=>KD n x
def uz n:=E0 209 2 [.r 0 .Ltm,.r 1 (.func 140 [.ptr 0 0,.ptr 2 0]),.w (.box [.ptr 1 0]),.w (.box [.I,.I,.I]),.w (.box [.I])] 1 [.r 0 .I,.o 1 (.bx [(0,.lf (.n .i64))])] λx=>j5 n x.1 x.2.1 x.2.2.1 x.2.2.2.1 x.2.2.2.2
def qV n:=E0 139 2 [.r 0 .Ltm,.r 1 (.func 140 [.ptr 0 0,.ptr 2 0]),.w (.box [.ptr 1 0]),.w (.box [.I,.I,.I]),.w (.box [.I])] 1 [.r 0 .B,.o 1 (.bx [(0,.lf (.n .i64))])] λx=>gL n x.1 x.2.1 x.2.2.1 x.2.2.2.1 x.2.2.2.2
def Ae n:=E0 67 3 [.r 0 (.ptr 0 0),.r 1 .Ttm,.r 2 .I,.w (.box [.I,.I,.I])] 1 [.r 0 .B,.o 0 (.bx [(0,.lf (.n .i64))])] λx=>jK n x.2.2.1 x.2.2.2.1 x.2.2.2.2 x.1 x.2.1
def xI n:=E0 140 3 [.r 0 .Ttm,.r 1 (.ptr 0 0),.r 2 (.ptr 2 0),.w (.box [.ptr 1 0]),.w (.box [.I,.I,.I]),.w (.box [.I])] 1 [.r 0 .B,.o 1 (.bx [(0,.lf (.n .i64))])] λx=>gP n x.1 x.2.1 x.2.2.1 x.2.2.2.1 x.2.2.2.2
def aa0 n:=E0 32 1 [.r 0 .Ttm] 1 [.r 0 .B] λx=>GQ n x
def U8 n:=E0 149 1 [.r 0 .Tty] 1 [.r 0 .Tty] λx=>apX n x
def U3 n:=E0 141 1 [.r 0 .Tenv] 1 [.r 0 (.mapr 0),.w (.mp .ty)] λx=>Hz n x
def UZ n:=E0 211 0 [] 1 [.r 0 .Tty] λx=>apJ n
def X6 n:=E0 210 2 [.r 0 .I,.r 1 .Tty] 1 [.r 0 (.func 293 [.eptr [.I,.S,.Lty],.eptr [.I]])] λx=>(ata n x.1 x.2).bind λr=>some (x.2.kind,x.2.name,x.2.kids,x.1)
def PO n:=E0 212 0 [] 1 [.r 0 .Tty] λx=>ajW n
def aaA n:=E0 215 1 [.r 0 (.func 216 [])] 1 [.r 0 (.func 296 [.eptr [.func 216 []]])] λx=>awK n
def IG n:=E0 221 1 [.r 0 (.func 222 [])] 1 [.r 0 (.func 298 [.eptr [.func 222 []]])] λx=>acB n
def Ve n:=E0 223 1 [.r 0 (.func 224 [])] 1 [.r 0 (.func 299 [.eptr [.func 224 []]])] λx=>ao3 n
def MO n:=E0 225 1 [.r 0 .Tty] 1 [.r 0 (.func 300 [.eptr [.I,.S,.Lty]])] λx=>(agh n x).bind λr=>some (x.kind,x.name,x.kids)
def Ya n:=E0 226 1 [.r 0 (.func 227 [])] 1 [.r 0 (.func 301 [.eptr [.func 227 []]])] λx=>as7 n
def Q9 n:=E0 226 1 [.r 0 (.func 228 [])] 1 [.r 0 (.func 301 [.eptr [.func 228 []]])] λx=>am2 n
def Xr n:=E0 230 1 [.r 0 (.func 227 [])] 1 [.r 0 (.func 302 [.eptr [.func 227 []]])] λx=>asJ n
def RX n:=E0 230 1 [.r 0 (.func 228 [])] 1 [.r 0 (.func 302 [.eptr [.func 228 []]])] λx=>amG n
def Us n:=E0 215 1 [.r 0 (.func 217 [])] 1 [.r 0 (.func 296 [.eptr [.func 217 []]])] λx=>ao4 n
def FH n:=E0 221 1 [.r 0 (.func 234 [])] 1 [.r 0 (.func 298 [.eptr [.func 234 []]])] λx=>YH n
def FX n:=E0 221 1 [.r 0 (.func 235 [])] 1 [.r 0 (.func 298 [.eptr [.func 235 []]])] λx=>Yv n
def O8 n:=E0 223 1 [.r 0 (.func 236 [])] 1 [.r 0 (.func 299 [.eptr [.func 236 []]])] λx=>ai2 n
def Ob n:=E0 223 1 [.r 0 (.func 237 [])] 1 [.r 0 (.func 299 [.eptr [.func 237 []]])] λx=>ajh n
def Ga n:=E0 221 1 [.r 0 (.func 238 [])] 1 [.r 0 (.func 298 [.eptr [.func 238 []]])] λx=>YN n
def Fx n:=E0 221 1 [.r 0 (.func 239 [])] 1 [.r 0 (.func 298 [.eptr [.func 239 []]])] λx=>Yj n
def F5 n:=E0 221 1 [.r 0 (.func 240 [])] 1 [.r 0 (.func 298 [.eptr [.func 240 []]])] λx=>YX n
def FZ n:=E0 221 1 [.r 0 (.func 241 [])] 1 [.r 0 (.func 298 [.eptr [.func 241 []]])] λx=>YS n
def F6 n:=E0 221 1 [.r 0 (.func 242 [])] 1 [.r 0 (.func 298 [.eptr [.func 242 []]])] λx=>YV n
def X4 n:=E0 142 0 [] 1 [.r 0 (.agg (QG []))] λx=>asU n
def IE(n:Nat):Ent:=⟨68,1,[.r 0 .Tenv],1,[.r 0 (.ptr 1 0),.w (.arr .i),.w (.box (.mapr 2:: .mapr 3::(QG [.psl 0 1]))),.w (.mp .ty),.w (.mp .b)],List (Str×Ty)×List (Str×Bool),none,none,λx=>Du n x,λr=>([],r.1,r.2)⟩
def Rn n:=E0 144 1 [.r 0 .I] 1 [.r 0 .B] λx=>zK n x
def LM n:=E0 145 1 [.r 0 .Tty] 2 [.r 0 .Tty,.r 1 .B] λx=>bQ n x
def FW n:=E0 146 2 [.r 0 .Fd,.r 1 .S] 2 [.r 0 .Tty,.r 1 .B] λx=>tZ n x.1 x.2
def Bp n:=E0 244 2 [.r 0 .S,.r 1 (.ptr 0 0),.w (.box [.ptr 1 0]),.w (.box (.mapr 2:: .mapr 3::(QG [.psl 4 1]))),.w (.mp .ty),.w (.mp .b),.w (.arr .i)] 1 [.r 0 .B] λx=>oZ n x.1 x.2.1 x.2.2.1 x.2.2.2
def xD n:=E0 192 2 [.r 0 .Ls,.r 1 (.func 244 [.ptr 0 0]),.w (.box [.ptr 1 0]),.w (.box (.mapr 2:: .mapr 3::(QG [.psl 4 1]))),.w (.mp .ty),.w (.mp .b),.w (.arr .i)] 1 [.r 0 .I] λx=>zk n x.1 x.2.1 x.2.2.1 x.2.2.2
def uh n:=E0 114 2 [.r 0 .Ls,.r 1 (.func 244 [.ptr 0 0]),.w (.box [.ptr 1 0]),.w (.box (.mapr 2:: .mapr 3::(QG [.psl 4 1]))),.w (.mp .ty),.w (.mp .b),.w (.arr .i)] 1 [.r 0 .B] λx=>wJ n x.1 x.2.1 x.2.2.1 x.2.2.2
def El n:=E0 147 2 [.r 0 (.ptr 0 0),.r 1 .Tty,.w (.box (.mapr 1:: .mapr 2::(QG [.psl 3 1]))),.w (.mp .ty),.w (.mp .b),.w (.arr .i)] 1 [.r 0 .B] λx=>rX n x.2.1 x.2.2.1 x.2.2.2 x.1
def PI n:=E0 148 1 [.r 0 .Tty] 2 [.r 0 .Tty,.r 1 .I] λx=>sK n x
def IB n:=E0 300 2 [.r 0 .Lty,.r 1 (.eptr [.I,.S,.Lty])] 2 [.r 0 .Tty,.r 1 .B] λx=>acW n x.1 x.2.1 x.2.2.1 x.2.2.2
def Mx n:=E0 294 2 [.r 0 .Tty,.r 1 (.eptr [.I])] 1 [.r 0 .B] λx=>afO n x.1 x.2
def Ao n:=E0 320 2 [.r 0 .Lty,.r 1 (.func 294 [.eptr [.I]])] 1 [.r 0 .I] λx=>C8 n x.1 x.2
def xB n:=E0 270 2 [.r 0 .Lty,.r 1 (.func 294 [.eptr [.I]])] 1 [.r 0 .B] λx=>zA n x.1 x.2
def RI n:=E0 293 3 [.r 0 .Lty,.r 1 (.eptr [.I,.S,.Lty]),.r 2 (.eptr [.I])] 2 [.r 0 .Tty,.r 1 .B] λx=>aV n x.1 x.2.1 x.2.2.1 x.2.2.2.1 x.2.2.2.2
def RA n:=E0 227 1 [.r 0 .Tty] 1 [.r 0 .Tty] λx=>anH n x
def MU n:=E0 301 2 [.r 0 .Lty,.r 1 (.eptr [.func 227 []])] 2 [.r 0 .Tty,.r 1 .B] λx=>qo n x
def uq n:=E0 297 3 [.r 0 .Lty,.r 1 .Lty,.r 2 (.func 220 [])] 1 [.r 0 .B] λx=>qx n x.1 x.2
def JJ n:=E0 220 2 [.r 0 .Tty,.r 1 .Tty] 1 [.r 0 .B] λx=>iO n x.1 x.2
def Qg n:=E0 295 2 [.r 0 .Tty,.r 1 (.ptr 0 0),.w (.box [.Lty])] 1 [.r 0 .B] λx=>Cn n x.1 x.2
def Ay n:=E0 320 2 [.r 0 .Lty,.r 1 (.func 295 [.ptr 0 0]),.w (.box [.Lty])] 1 [.r 0 .I] λx=>uo n x.1 x.2
def xG n:=E0 270 2 [.r 0 .Lty,.r 1 (.func 295 [.ptr 0 0]),.w (.box [.Lty])] 1 [.r 0 .B] λx=>qQ n x.1 x.2
def U2 n:=E0 214 1 [.r 0 .Lty] 1 [.r 0 .B] λx=>lG n x
def QM n:=E0 213 1 [.r 0 .Lty] 2 [.r 0 .Tty,.r 1 .B] λx=>uJ n x
def Rj n:=E0 229 1 [.r 0 .Lty] 2 [.r 0 .Tty,.r 1 .B] λx=>qW n x
def MH n:=E0 302 2 [.r 0 .Lty,.r 1 (.eptr [.func 227 []])] 2 [.r 0 .Tty,.r 1 .B] λx=>uS n x
def QH n:=E0 232 2 [.r 0 .Tty,.r 1 .Tty] 1 [.r 0 .Tty] λx=>amO n x.1 x.2
def Q5 n:=E0 231 1 [.r 0 .Lty] 2 [.r 0 .Tty,.r 1 .B] λx=>zH n x
def QB n:=E0 233 1 [.r 0 .Lty] 2 [.r 0 .Tty,.r 1 .B] λx=>zo n x
def Rp n:=E0 228 1 [.r 0 .Tty] 1 [.r 0 .Tty] λx=>anX n x
def MR n:=E0 302 2 [.r 0 .Lty,.r 1 (.eptr [.func 228 []])] 2 [.r 0 .Tty,.r 1 .B] λx=>jR n x
def MQ n:=E0 217 2 [.r 0 .Tty,.r 1 .Tty] 1 [.r 0 .Tty] λx=>aie n x.1 x.2
def OM n:=E0 296 2 [.r 0 .Lty,.r 1 (.eptr [.func 217 []])] 2 [.r 0 .Tty,.r 1 .B] λx=>w9 n x
def Vd n:=E0 219 1 [.r 0 .Tty] 3 [.r 0 .Tty,.r 1 .Tty,.r 2 .B] λx=>iT n x
def RQ n:=E0 234 3 [.r 0 .Tty,.r 1 .Tty,.r 2 .Lty] 2 [.r 0 .Tty,.r 1 .B] λx=>Xn n x.1 x.2.1 x.2.2
def Db n:=E0 298 2 [.r 0 .Lty,.r 1 (.eptr [.func 234 []])] 2 [.r 0 .Tty,.r 1 .B] λx=>mF n x
def QW n:=E0 235 3 [.r 0 .Tty,.r 1 .Tty,.r 2 .Lty] 2 [.r 0 .Tty,.r 1 .B] λx=>LY n x.1 x.2.1 x.2.2
def Di n:=E0 298 2 [.r 0 .Lty,.r 1 (.eptr [.func 235 []])] 2 [.r 0 .Tty,.r 1 .B] λx=>l7 n x
def RZ n:=E0 218 1 [.r 0 .Lty] 2 [.r 0 .Tty,.r 1 .B] λx=>qD n x
def Qx n:=E0 222 3 [.r 0 .Tty,.r 1 .Tty,.r 2 .Lty] 2 [.r 0 .Tty,.r 1 .B] λx=>Ma n x.1 x.2.1 x.2.2
def Dm n:=E0 298 2 [.r 0 .Lty,.r 1 (.eptr [.func 222 []])] 2 [.r 0 .Tty,.r 1 .B] λx=>iW n x
def RB n:=E0 216 2 [.r 0 .Tty,.r 1 .Tty] 1 [.r 0 .Tty] λx=>am0 n x.1 x.2
def Pg n:=E0 296 2 [.r 0 .Lty,.r 1 (.eptr [.func 216 []])] 2 [.r 0 .Tty,.r 1 .B] λx=>gy n x
def Ox n:=E0 236 1 [.r 0 .Tty] 2 [.r 0 .Tty,.r 1 .B] λx=>akj n x
def K5 n:=E0 299 2 [.r 0 .Lty,.r 1 (.eptr [.func 236 []])] 2 [.r 0 .Tty,.r 1 .B] λx=>sP n x
def O6 n:=E0 237 1 [.r 0 .Tty] 2 [.r 0 .Tty,.r 1 .B] λx=>ajo n x
def LB n:=E0 299 2 [.r 0 .Lty,.r 1 (.eptr [.func 237 []])] 2 [.r 0 .Tty,.r 1 .B] λx=>sV n x
def Rk n:=E0 224 1 [.r 0 .Tty] 2 [.r 0 .Tty,.r 1 .B] λx=>anf n x
def K7 n:=E0 299 2 [.r 0 .Lty,.r 1 (.eptr [.func 224 []])] 2 [.r 0 .Tty,.r 1 .B] λx=>l6 n x
def Pd n:=E0 238 3 [.r 0 .Tty,.r 1 .Tty,.r 2 .Lty] 2 [.r 0 .Tty,.r 1 .B] λx=>aj7 n x.1 x.2.1 x.2.2
def Dg n:=E0 298 2 [.r 0 .Lty,.r 1 (.eptr [.func 238 []])] 2 [.r 0 .Tty,.r 1 .B] λx=>mG n x
def OB n:=E0 239 3 [.r 0 .Tty,.r 1 .Tty,.r 2 .Lty] 2 [.r 0 .Tty,.r 1 .B] λx=>akL n x.1 x.2.1 x.2.2
def Dp n:=E0 298 2 [.r 0 .Lty,.r 1 (.eptr [.func 239 []])] 2 [.r 0 .Tty,.r 1 .B] λx=>mP n x
def OT n:=E0 240 3 [.r 0 .Tty,.r 1 .Tty,.r 2 .Lty] 2 [.r 0 .Tty,.r 1 .B] λx=>ajX n x.1 x.2.1 x.2.2
def Dj n:=E0 298 2 [.r 0 .Lty,.r 1 (.eptr [.func 240 []])] 2 [.r 0 .Tty,.r 1 .B] λx=>mQ n x
def OG n:=E0 241 3 [.r 0 .Tty,.r 1 .Tty,.r 2 .Lty] 2 [.r 0 .Tty,.r 1 .B] λx=>Ju n x.1 x.2.1 x.2.2
def Dc n:=E0 298 2 [.r 0 .Lty,.r 1 (.eptr [.func 241 []])] 2 [.r 0 .Tty,.r 1 .B] λx=>mK n x
def Oc n:=E0 242 3 [.r 0 .Tty,.r 1 .Tty,.r 2 .Lty] 2 [.r 0 .Tty,.r 1 .B] λx=>Jm n x.1 x.2.1 x.2.2
def Df n:=E0 298 2 [.r 0 .Lty,.r 1 (.eptr [.func 242 []])] 2 [.r 0 .Tty,.r 1 .B] λx=>mI n x
def ME n:=E0 301 2 [.r 0 .Lty,.r 1 (.eptr [.func 228 []])] 2 [.r 0 .Tty,.r 1 .B] λx=>AA n x
def O5 n:=E0 243 1 [.r 0 .Lty] 2 [.r 0 .Tty,.r 1 .B] λx=>xg n x
def Ac n:=E0 69 3 [.r 0 (.ptr 0 0),.r 1 .Ttm,.r 2 .Fd,.w (.box (.mapr 1:: .mapr 2::(QG [.psl 3 1]))),.w (.mp .ty),.w (.mp .b),.w (.arr .i)] 2 [.r 0 .Tty,.r 1 .I,.w (.arr .i),.o 0 (.bx [(59,.psl 4 1)]),.o 3 .dead] λx=>kV n x.2.2.1 x.2.2.2.1 x.2.2.2.2 x.1 x.2.1
def wB n:=E0 143 4 [.r 0 (.ptr 0 0),.r 1 .Ttm,.r 2 .I,.r 3 .Fd,.w (.box (.mapr 1:: .mapr 2::(QG [.psl 3 1]))),.w (.mp .ty),.w (.mp .b),.w (.arr .i)] 2 [.r 0 .Tty,.r 1 .I,.w (.arr .i),.o 0 (.bx [(59,.psl 4 1)]),.o 3 .dead] λx=>jk n x.2.2.2.1 x.2.2.2.2.1 x.2.2.2.2.2 x.1 x.2.1 x.2.2.1
def MJ n:=E0 71 1 [.r 0 .Tty] 1 [.r 0 .Tty] λx=>qg n x
def RL n:=E0 33 2 [.r 0 .Tenv,.r 1 .Ttm] 3 [.r 0 .Tty,.r 1 .Li,.r 2 .I] λx=>zI n x.1 x.2
def XR(n:Nat):Ent:=⟨34,1,[.r 0 (.agg [.Lcar,.Ldec,.Li,.Lval])],1,[.r 0 (.ptr 1 0),.w (.arr .bnd),.w (.box [.Lcar,.Ldec,.Li,.mapr 2,.psl 0 5]),.w (.mp .val)],List Carrier×List Decl×List Int×List (Str×Val)×List Bound,none,none,λx=>Kn n (S_api_World.mk (Env.mk x.1 x.2.1) x.2.2.1 x.2.2.2),λr=>(r.2.2.2.2,r.1,r.2.1,r.2.2.1,r.2.2.2.1)⟩
def Zu n:=E0 150 1 [.r 0 .B] 1 [.r 0 .Tval] λx=>bD n x
def UY(n:Nat):Ent:=⟨151,1,[.r 0 .I],1,[.r 0 .Tval],Val,some [],none,λx=>iP n x,λr=>r⟩
def ady n:=E0 250 2 [.r 0 .Tval,.r 1 .Tval] 1 [.r 0 .Tval] λx=>axZ n x.1 x.2
def Eh n:=E0 249 6 [.r 0 .Tval,.r 1 .Tval,.r 2 (.ptr 0 0),.r 3 (.ptr 1 0),.r 4 (.ptr 3 0),.r 5 (.ptr 4 0),.w (.box [.I,.S,.I,.I,.S,.Lty,.Ltm]),.w (.box [.psl 2 4]),.w (.arr .val),.w (.box [.B]),.w (.box [.B])] 0 [.w (.arr .val),.o 1 (.bx [(0,.psl 5 4)]),.o 2 .dead,.o 3 (.bx [(0,.lf .b)]),.o 4 (.bx [(0,.lf .b)])] λx=>rR n x.1 x.2.1 x.2.2.1 x.2.2.2.1 x.2.2.2.2.1 x.2.2.2.2.2.1 x.2.2.2.2.2.2.1 x.2.2.2.2.2.2.2.1 x.2.2.2.2.2.2.2.2.1 x.2.2.2.2.2.2.2.2.2.1 x.2.2.2.2.2.2.2.2.2.2.1 x.2.2.2.2.2.2.2.2.2.2.2
def agE(n:Nat):Ent:=⟨157,1,[.r 0 .Lval],1,[.r 0 .Tval],Val,some [],none,λx=>yK n x,λr=>r⟩
def U0 n:=E0 251 1 [.r 0 .I] 1 [.r 0 .B] λx=>wT n x
def uj n:=E0 304 3 [.r 0 .Lval,.r 1 .Tval,.r 2 (.func 19 [])] 2 [.r 0 .I,.r 1 .B] λx=>og n x.1 x.2
def QJ n:=E0 253 2 [.r 0 .Lval,.r 1 .Tval] 1 [.r 0 .B] λx=>fC n x.1 x.2
def Dk n:=E0 252 2 [.r 0 .Tval,.r 1 (.eptr [.Lval])] 1 [.r 0 .B] λx=>iV n x.1 x.2
def Al n:=E0 255 2 [.r 0 .Tval,.r 1 (.eptr [.Lval])] 1 [.r 0 .B] λx=>uF n x.1 x.2
def X9 n:=E0 156 2 [.r 0 .Lval,.r 1 (.func 255 [.eptr [.Lval]])] 1 [.r 0 .Lval] λx=>adw n x.1 x.2
def Dn n:=E0 254 2 [.r 0 .Tval,.r 1 (.eptr [.Lval])] 1 [.r 0 .B] λx=>iQ n x.1 x.2
def XH n:=E0 305 1 [.r 0 .Lval] 1 [.r 0 .Lval] λx=>zU n x
def Va n:=E0 306 1 [.r 0 .Lval] 1 [.r 0 .Lval] λx=>pX n x
def Q8 n:=E0 257 4 [.r 0 .I,.r 1 .Lval,.r 2 .Lval,.r 3 .Lval] 1 [.r 0 .B] λx=>uP n x.1 x.2.1 x.2.2.1 x.2.2.2
def C9 n:=E0 256 4 [.r 0 .Tval,.r 1 (.eptr [.I,.S,.I,.I,.S,.Lty,.Ltm]),.r 2 (.eptr [.Lval]),.r 3 (.eptr [.Lval])] 1 [.r 0 .B] λx=>j4 n x.1 x.2.1 x.2.2.1 x.2.2.2.1 x.2.2.2.2.1 x.2.2.2.2.2.1 x.2.2.2.2.2.2.1 x.2.2.2.2.2.2.2.1 x.2.2.2.2.2.2.2.2.1 x.2.2.2.2.2.2.2.2.2
def QE n:=E0 156 2 [.r 0 .Lval,.r 1 (.func 252 [.eptr [.Lval]])] 1 [.r 0 .Lval] λx=>Es n x.1 x.2
def Rm n:=E0 156 2 [.r 0 .Lval,.r 1 (.func 254 [.eptr [.Lval]])] 1 [.r 0 .Lval] λx=>Et n x.1 x.2
def QK n:=E0 156 2 [.r 0 .Lval,.r 1 (.func 256 [.eptr [.I,.S,.I,.I,.S,.Lty,.Ltm],.eptr [.Lval],.eptr [.Lval]])] 1 [.r 0 .Lval] λx=>EC n x.1 x.2.1 x.2.2.1 x.2.2.2.1 x.2.2.2.2.1 x.2.2.2.2.2.1 x.2.2.2.2.2.2.1 x.2.2.2.2.2.2.2.1 x.2.2.2.2.2.2.2.2.1 x.2.2.2.2.2.2.2.2.2
def Tk n:=E0 258 2 [.r 0 .Tval,.r 1 (.ptr 0 0),.w (.box [.I,.I,.S,.Lval])] 1 [.r 0 .B] λx=>GJ n x.1 x.2.1 x.2.2.1 x.2.2.2.1 x.2.2.2.2
def QX n:=E0 156 2 [.r 0 .Lval,.r 1 (.func 258 [.ptr 0 0]),.w (.box [.I,.I,.S,.Lval])] 1 [.r 0 .Lval] λx=>Xt n x.1 x.2.1 x.2.2.1 x.2.2.2.1 x.2.2.2.2
def MN(n:Nat):Ent:=⟨259,3,[.r 0 .I,.r 1 .I,.r 2 .I],1,[.r 0 .Tval],Val,some [],none,λx=>GR n x.1 x.2.1 x.2.2,λr=>r⟩
def Fz n:=E0 309 1 [.r 0 .Lvals] 1 [.r 0 .Lval] λx=>oh n x
def X0 n:=E0 308 2 [.r 0 .Tval,.r 1 (.ptr 0 0),.w (.box [.Lval])] 1 [.r 0 .B] λx=>wh n x.1 x.2
def RU n:=E0 156 2 [.r 0 .Lval,.r 1 (.func 308 [.ptr 0 0]),.w (.box [.Lval])] 1 [.r 0 .Lval] λx=>XU n x.1 x.2
def X3 n:=E0 310 2 [.r 0 .Tval,.r 1 (.ptr 0 0),.w (.box [.func 308 [.ptr 1 0]]),.w (.box [.Lval])] 1 [.r 0 .B] λx=>Sq n x.1 x.2
def QI n:=E0 156 2 [.r 0 .Lval,.r 1 (.func 310 [.ptr 0 0]),.w (.box [.func 308 [.ptr 1 0]]),.w (.box [.Lval])] 1 [.r 0 .Lval] λx=>XF n x.1 x.2
def Xw n:=E0 311 2 [.r 0 .Tval,.r 1 (.ptr 0 0),.w (.box [.Lval])] 1 [.r 0 .B] λx=>J7 n x.1 x.2
def RJ n:=E0 156 2 [.r 0 .Lval,.r 1 (.func 311 [.ptr 0 0]),.w (.box [.Lval])] 1 [.r 0 .Lval] λx=>Xu n x.1 x.2
def Xk n:=E0 307 2 [.r 0 .Tval,.r 1 (.ptr 0 0),.w (.box [.Lval])] 1 [.r 0 .B] λx=>Sg n x.1 x.2
def XD n:=E0 312 2 [.r 0 .Tval,.r 1 (.ptr 0 0),.w (.box [.func 307 [.ptr 1 0]]),.w (.box [.Lval])] 1 [.r 0 .B] λx=>Kw n x.1 x.2
def QS n:=E0 156 2 [.r 0 .Lval,.r 1 (.func 312 [.ptr 0 0]),.w (.box [.func 307 [.ptr 1 0]]),.w (.box [.Lval])] 1 [.r 0 .Lval] λx=>Xm n x.1 x.2
def X5 n:=E0 313 2 [.r 0 .Tval,.r 1 (.ptr 0 0),.w (.box [.func 307 [.ptr 1 0]]),.w (.box [.Lval])] 1 [.r 0 .B] λx=>Kt n x.1 x.2
def RH n:=E0 156 2 [.r 0 .Lval,.r 1 (.func 313 [.ptr 0 0]),.w (.box [.func 307 [.ptr 1 0]]),.w (.box [.Lval])] 1 [.r 0 .Lval] λx=>Xg n x.1 x.2
def Xo n:=E0 314 2 [.r 0 .Tval,.r 1 (.ptr 0 0),.w (.box [.func 308 [.ptr 1 0]]),.w (.box [.Lval])] 1 [.r 0 .B] λx=>Kl n x.1 x.2
def N9 n:=E0 156 2 [.r 0 .Lval,.r 1 (.func 314 [.ptr 0 0]),.w (.box [.func 308 [.ptr 1 0]]),.w (.box [.Lval])] 1 [.r 0 .Lval] λx=>TN n x.1 x.2
def Xh n:=E0 315 2 [.r 0 .Tval,.r 1 (.ptr 0 0),.w (.box [.func 308 [.ptr 1 0]]),.w (.box [.Lval])] 1 [.r 0 .B] λx=>KC n x.1 x.2
def Oe n:=E0 156 2 [.r 0 .Lval,.r 1 (.func 315 [.ptr 0 0]),.w (.box [.func 308 [.ptr 1 0]]),.w (.box [.Lval])] 1 [.r 0 .Lval] λx=>Tt n x.1 x.2
def Uo n:=E0 316 1 [.r 0 .Lval] 1 [.r 0 .Lvals] λx=>GK n x
def XT n:=E0 317 2 [.r 0 .Tval,.r 1 (.ptr 0 0),.w (.box [.func 308 [.ptr 1 0]]),.w (.box [.Lval])] 1 [.r 0 .B] λx=>Ki n x.1 x.2
def Px n:=E0 156 2 [.r 0 .Lval,.r 1 (.func 317 [.ptr 0 0]),.w (.box [.func 308 [.ptr 1 0]]),.w (.box [.Lval])] 1 [.r 0 .Lval] λx=>Uv n x.1 x.2
def adf n:=E0 337 3 [.r 0 .I,.r 1 .I,.r 2 .I] 1 [.r 0 .B] λx=>LV n x.1 x.2.1 x.2.2
def UU n:=E0 336 3 [.r 0 .I,.r 1 .I,.r 2 .I] 1 [.r 0 .B] λx=>BZ n x.1 x.2.1 x.2.2
def LW n:=E0 338 7 [.r 0 .I,.r 1 .Lval,.r 2 (.ptr 0 0),.r 3 (.ptr 1 0),.r 4 (.ptr 2 0),.r 5 (.ptr 3 0),.r 6 (.ptr 5 0),.w (.box [.Lval]),.w (.box [.I]),.w (.box [.Lval]),.w (.box [.psl 4 4]),.w (.arr .val),.w (.box [.func 338 [.ptr 0 0,.ptr 1 0,.ptr 2 0,.ptr 3 0,.ptr 5 0]])] 0 [.w (.arr .val),.o 3 (.bx [(0,.psl 6 4)]),.o 4 .dead] λx=>gI n x.1 x.2.1 x.2.2.1 x.2.2.2.1 x.2.2.2.2.1 x.2.2.2.2.2
def Oi(n:Nat):Ent:=⟨318,3,[.r 0 .I,.r 1 .Lval,.r 2 .Lval],1,[.r 0 .Lval],List Val,some [],none,λx=>Cu n x.1 x.2.1 x.2.2,λr=>r⟩
def ado(n:Nat):Ent:=⟨260,3,[.r 0 .I,.r 1 .Tval,.r 2 .Tval],1,[.r 0 .Tval],Val,some [],none,λx=>Rh n x.1 x.2.1 x.2.2,λr=>r⟩
def ZF(n:Nat):Ent:=⟨158,3,[.r 0 .I,.r 1 .Tval,.r 2 .Tval],1,[.r 0 .Tval],Val,some [],none,λx=>nE n x.1 x.2.1 x.2.2,λr=>r⟩
def tu(n:Nat):Ent:=⟨155,2,[.r 0 (.ptr 0 0),.r 1 .Ttm,.w (.box [.Lcar,.Ldec,.Li,.mapr 1,.psl 2 5]),.w (.mp .val),.w (.arr .bnd)],1,[.r 0 (.func 256 [.eptr [.I,.S,.I,.I,.S,.Lty,.Ltm],.eptr [.Lval],.eptr [.Lval]]),.w (.arr .bnd),.o 0 (.bx [(4,.psl 3 5)]),.o 2 .dead],Int×Str×Int×Int×Str×List Ty×List Tm×List Val×List Val×List Bound,some [.w (.arr .bnd),.o 0 (.bx [(4,.psl 3 5)]),.o 2 .dead],none,λx=>bA n x.2.1 x.2.2.1 x.2.2.2.1 x.2.2.2.2.1 x.2.2.2.2.2 x.1,λr=>r⟩
def sM(n:Nat):Ent:=⟨155,2,[.r 0 (.ptr 0 0),.r 1 .Ttm,.w (.box [.Lcar,.Ldec,.Li,.mapr 1,.psl 2 5]),.w (.mp .val),.w (.arr .bnd)],1,[.r 0 (.func 254 [.eptr [.Lval]]),.w (.arr .bnd),.o 0 (.bx [(4,.psl 3 5)]),.o 2 .dead],List Val×List Bound,some [.w (.arr .bnd),.o 0 (.bx [(4,.psl 3 5)]),.o 2 .dead],some λx=>x.1.op==46,λx=>bq n x.2.1 x.2.2.1 x.2.2.2.1 x.2.2.2.2.1 x.2.2.2.2.2 x.1,λr=>r⟩
def tN(n:Nat):Ent:=⟨155,2,[.r 0 (.ptr 0 0),.r 1 .Ttm,.w (.box [.Lcar,.Ldec,.Li,.mapr 1,.psl 2 5]),.w (.mp .val),.w (.arr .bnd)],1,[.r 0 (.func 252 [.eptr [.Lval]]),.w (.arr .bnd),.o 0 (.bx [(4,.psl 3 5)]),.o 2 .dead],List Val×List Bound,some [.w (.arr .bnd),.o 0 (.bx [(4,.psl 3 5)]),.o 2 .dead],some λx=>decide (x.1.op<41) ||decide (46<x.1.op),λx=>bB n x.2.1 x.2.2.1 x.2.2.2.1 x.2.2.2.2.1 x.2.2.2.2.2 x.1,λr=>r⟩
def BL(n:Nat):Ent:=⟨248,3,[.r 0 (.ptr 0 0),.r 1 .Ttm,.r 2 (.func 249 [.ptr 3 0,.ptr 4 0,.ptr 6 0,.ptr 7 0]),.w (.box [.Lcar,.Ldec,.Li,.mapr 1,.psl 2 5]),.w (.mp .val),.w (.arr .bnd),.w (.box [.I,.S,.I,.I,.S,.Lty,.Ltm]),.w (.box [.psl 5 4]),.w (.arr .val),.w (.box [.B]),.w (.box [.B])],0,[.w (.arr .bnd),.w (.arr .val),.o 0 (.bx [(4,.psl 8 5)]),.o 2 .dead,.o 4 (.bx [(0,.psl 9 4)]),.o 5 .dead,.o 6 (.bx [(0,.lf .b)]),.o 7 (.bx [(0,.lf .b)])],(List Bound)×(List Val)×Bool×Bool,some [.w (.arr .bnd),.w (.arr .val),.o 0 (.bx [(4,.psl 8 5)]),.o 4 (.bx [(0,.psl 9 4)]),.o 2 .dead,.o 5 .dead,.o 6 .dead,.o 7 .dead],none,λx=>bR n x.2.1 x.2.2.1 x.2.2.2.1 x.2.2.2.2.1 x.2.2.2.2.2.1 x.1 x.2.2.2.2.2.2.1 x.2.2.2.2.2.2.2.1 x.2.2.2.2.2.2.2.2.1 x.2.2.2.2.2.2.2.2.2.1 x.2.2.2.2.2.2.2.2.2.2.1 x.2.2.2.2.2.2.2.2.2.2.2.1 x.2.2.2.2.2.2.2.2.2.2.2.2.1 x.2.2.2.2.2.2.2.2.2.2.2.2.2.1 x.2.2.2.2.2.2.2.2.2.2.2.2.2.2.1 x.2.2.2.2.2.2.2.2.2.2.2.2.2.2.2,λr=>r⟩
def yL(n:Nat):Ent:=⟨154,2,[.r 0 (.ptr 0 0),.r 1 .Ttm,.w (.box [.Lcar,.Ldec,.Li,.mapr 1,.psl 2 5]),.w (.mp .val),.w (.arr .bnd)],1,[.r 0 .Tval,.w (.arr .bnd),.o 0 (.bx [(4,.psl 3 5)]),.o 2 .dead],Val×List Bound,some [.w (.arr .bnd),.o 0 (.bx [(4,.psl 3 5)]),.o 2 .dead],none,λx=>bZ n x.2.1 x.2.2.1 x.2.2.2.1 x.2.2.2.2.1 x.2.2.2.2.2 x.1,λr=>r⟩
def mR(n:Nat):Ent:=⟨73,2,[.r 0 (.ptr 0 0),.r 1 .Ttm,.w (.box [.Lcar,.Ldec,.Li,.mapr 1,.psl 2 5]),.w (.mp .val),.w (.arr .bnd)],1,[.r 0 .Tval,.w (.arr .bnd),.o 0 (.bx [(4,.psl 3 5)]),.o 2 .dead],Val×List Bound,some [.w (.arr .bnd),.o 0 (.bx [(4,.psl 3 5)]),.o 2 .dead],none,λx=>aI n x.2.1 x.2.2.1 x.2.2.2.1 x.2.2.2.2.1 x.2.2.2.2.2 x.1,λr=>r⟩
def wu(n:Nat):Ent:=⟨153,2,[.r 0 (.ptr 0 0),.r 1 .Ttm,.w (.box [.Lcar,.Ldec,.Li,.mapr 1,.psl 2 5]),.w (.mp .val),.w (.arr .bnd)],1,[.r 0 .Tval,.w (.arr .bnd),.o 0 (.bx [(4,.psl 3 5)]),.o 2 .dead],Val×List Bound,some [.w (.arr .bnd),.o 0 (.bx [(4,.psl 3 5)]),.o 2 .dead],none,λx=>bU n x.2.1 x.2.2.1 x.2.2.2.1 x.2.2.2.2.1 x.2.2.2.2.2 x.1,λr=>r⟩
def iM n:=E0 35 2 [.r 0 (.ptr 0 0),.r 1 .Ttm,.w (.box [.Lcar,.Ldec,.Li,.mapr 1,.psl 2 5]),.w (.mp .val),.w (.arr .bnd)] 2 [.r 0 .Tval,.r 1 .I,.w (.arr .bnd),.o 0 (.bx [(4,.psl 3 5)]),.o 2 .dead] λx=>ql n x.2.1 x.2.2.1 x.2.2.2.1 x.2.2.2.2.1 x.2.2.2.2.2 x.1
def XK n:=E0 36 1 [.r 0 .Tval] 1 [.r 0 .Tval] λx=>rZ n x
def adC n:=E0 12 2 [.r 0 (.agg [.Lcar,.Ldec,.Li,.Lval]),.r 1 .Ttm] 2 [.r 0 .Tval,.r 1 .I] λx=>lg n (S_api_World.mk (Env.mk x.1 x.2.1) x.2.2.1 x.2.2.2.1) x.2.2.2.2
def T9 n:=E0 101 1 [.r 0 .Tty] 1 [.r 0 .B] λx=>tK n x
def XJ n:=E0 120 1 [.r 0 .Tty] 1 [.r 0 .Ls] λx=>zT n x
def Ou n:=E0 121 2 [.r 0 .Tenv,.r 1 .S] 1 [.r 0 .I] λx=>mH n x.1 x.2
def agt n:=E0 58 2 [.r 0 .Tenv,.r 1 .Tty] 1 [.r 0 .B] λx=>Jp n x.1 x.2
def XL n:=E0 102 1 [.r 0 .Tenv] 1 [.r 0 (.own 0),.w (.own .s)] λx=>J6 n x
def XO n:=E0 50 1 [.r 0 .Tenv] 1 [.r 0 .B] λx=>zV n x
def alZ(n:Nat):Ent:=E0 59 2 [.r 0 .Tenv,.r 1 .Li] 1 [.r 0 .B] fun x=>TW n x.1 x.2
def akX(n:Nat):Ent:=E0 198 2 [.r 0 .I,.r 1 .I] 1 [.r 0 .I] fun x=>Jb n x.1 x.2
def aak(n:Nat):Ent:=E0 122 2 [.r 0 .Tval,.r 1 .Tval] 1 [.r 0 .I] fun x=>lT n x.1 x.2
def aos(n:Nat):Ent:=E0 60 4 [.r 0 .Tenv,.r 1 .Li,.r 2 .Tval,.r 3 .Tty] 1 [.r 0 .B] fun x=>vw n x.1 x.2.1 x.2.2.1 x.2.2.2
def Xl n:=E0 159 2 [.r 0 .Tenv,.r 1 .S] 1 [.r 0 .I] λx=>D5 n x.1 x.2
def aa8 n:=E0 178 1 [.r 0 .S] 1 [.r 0 .Tty] λx=>au5 n x
def ari n:=E0 177 1 [.r 0 .Tty] 1 [.r 0 .Tty] λx=>aDX n x
def Oj n:=E0 161 2 [.r 0 .Tenv,.r 1 .S] 2 [.r 0 .I,.r 1 .I] λx=>sJ n x.1 x.2
def abk n:=E0 104 3 [.r 0 .Tenv,.r 1 .Ldec,.r 2 .S] 2 [.r 0 .Tty,.r 1 .B] λx=>Gi n x.1 x.2.1 x.2.2
def afW n:=E0 105 1 [.r 0 .Tty] 1 [.r 0 .B] λx=>fF n x
def apL n:=E0 28 0 [] 1 [.r 0 .Tty] λx=>aEi n
def XB n:=E0 181 2 [.r 0 .Tty,.r 1 .Tty] 1 [.r 0 .B] λx=>bW n x.1 x.2
def aqz n:=E0 179 2 [.r 0 .Lty,.r 1 .Tty] 1 [.r 0 .B] λx=>wS n x.1 x.2
def amk n:=E0 180 2 [.r 0 .Tty,.r 1 .Tty] 1 [.r 0 .Tty] λx=>aCy n x.1 x.2
def alQ n:=E0 264 0 [] 1 [.r 0 .Tty] λx=>aCG n
def aho n:=E0 182 2 [.r 0 .I,.r 1 .Lty] 2 [.r 0 .Tty,.r 1 .B] λx=>BG n x.1 x.2
def aiC n:=E0 265 1 [.r 0 .Tty] 1 [.r 0 .B] λx=>Pm n x
def ada n:=E0 266 1 [.r 0 .Tty] 1 [.r 0 .Tty] λx=>uR n x
def ahK n:=E0 267 1 [.r 0 .Tty] 1 [.r 0 .Tty] λx=>yX n x
def Xx n:=E0 183 2 [.r 0 .I,.r 1 .Lty] 2 [.r 0 .Tty,.r 1 .B] λx=>eU n x.1 x.2
def ap0 n:=E0 106 2 [.r 0 .Ttm,.r 1 .Lty] 2 [.r 0 .Tty,.r 1 .B] λx=>fP n x.1 x.2
def adH n:=E0 51 3 [.r 0 .Tenv,.r 1 .Ldec,.r 2 .Ttm] 3 [.r 0 .Tty,.r 1 .Li,.r 2 .I] λx=>AZ n x.1 x.2.1 x.2.2
def Yc n:=E0 52 1 [.r 0 .Tty] 1 [.r 0 .Tty] λx=>vZ n x
def adZ n:=E0 23 2 [.r 0 .Tenv,.r 1 .Ttm] 3 [.r 0 .Tty,.r 1 .Li,.r 2 .I] λx=>Bc n x.1 x.2
def ac4 n:=E0 29 1 [.r 0 .I] 1 [.r 0 .Tval] λx=>azF n x
def K9 n:=E0 40 2 [.r 0 .Tenv,.r 1 .Ttm] 1 [.r 0 .I] λx=>zh n x.1 x.2
def e_eval_interp_holds n:=E0 41 2 [.r 0 (.ptr 0 0),.r 1 .Ttm,.w (.box [.Lcar,.Ldec,.Li,.mapr 1,.psl 2 5]),.w (.mp .val),.w (.arr .bnd)] 2 [.r 0 .B,.r 1 .I,.w (.arr .bnd),.o 0 (.bx [(4,.psl 3 5)]),.o 2 .dead] λx=>eval_interp_holds n x.2.1 x.2.2.1 x.2.2.2.1 x.2.2.2.2.1 x.2.2.2.2.2 x.1
def aaf n:=E0 14 2 [.r 0 (.agg [.Lcar,.Ldec,.Li,.Lval]),.r 1 .Ttm] 2 [.r 0 .B,.r 1 .I] λx=>jm n (S_api_World.mk (Env.mk x.1 x.2.1) x.2.2.1 x.2.2.2.1) x.2.2.2.2
def Ue(n:Nat):Ent:=E0 116 2 [.r 0 .S,.r 1 (.ptr 0 0),.w (.box [.Lcar,.Ldec])] 1 [.r 0 .B] fun x=>Gv n x.1 x.2.1 x.2.2
def yw(n:Nat):Ent:=E0 192 2 [.r 0 .Ls,.r 1 (.func 116 [.ptr 0 0]),.w (.box [.Lcar,.Ldec])] 1 [.r 0 .I] fun x=>rM n x.1 x.2.1 x.2.2
def vH(n:Nat):Ent:=E0 114 2 [.r 0 .Ls,.r 1 (.func 116 [.ptr 0 0]),.w (.box [.Lcar,.Ldec])] 1 [.r 0 .B] fun x=>oM n x.1 x.2.1 x.2.2
def ZG(n:Nat):Ent:=E0 55 2 [.r 0 .Tenv,.r 1 .Tty] 1 [.r 0 .B] fun x=>M6 n x.1 x.2
def agA(n:Nat):Ent:=E0 24 4 [.r 0 .Tenv,.r 1 .Li,.r 2 .Tval,.r 3 .Tty] 1 [.r 0 .B] fun x=>V9 n x.1 x.2.1 x.2.2.1 x.2.2.2
def aou(n:Nat):Ent:=E0 25 4 [.r 0 .Tenv,.r 1 .Li,.r 2 .Tval,.r 3 .Tty] 1 [.r 0 .B] fun x=>ahn n x.1 x.2.1 x.2.2.1 x.2.2.2
def UL(n:Nat):Ent:=E0 7 2 [.r 0 (.agg [.Lcar,.Ldec,.Li,.Lval]),.r 1 .Ttm] 1 [.r 0 .B] fun x=>OH n (S_api_World.mk (Env.mk x.1 x.2.1) x.2.2.1 x.2.2.2.1) x.2.2.2.2
def alU n:=E0 126 1 [.r 0 .U] 1 [.r 0 .B] λx=>atp n x
def SK n:=E0 130 1 [.r 0 .S] 1 [.r 0 .I] λx=>alG n x
def alp n:=E0 131 2 [.r 0 .S,.r 1 .I] 1 [.r 0 .S] λx=>atl n x.1 x.2
def afb(n:Nat):Ent:=⟨63,2,[.r 0 .S,.r 1 .I],1,[.r 0 (.agg [.I,.S,.I])],S_refinementref01_token,none,none,λx=>ars n x.1 x.2,λr=>(r.kind,r.s,r.at_)⟩
def IV n:=E0 66 1 [.r 0 (.ptr 0 0),.w (.box [.S,.I,.S,.I,.I,.I,.I])] 1 [.r 0 .B] λx=>ao5 n x.1 x.2.1 x.2.2.1 x.2.2.2.1 x.2.2.2.2.1 x.2.2.2.2.2.1 x.2.2.2.2.2.2
def IW n:=E0 132 2 [.r 0 (.ptr 0 0),.r 1 .S,.w (.box [.S,.I,.S,.I,.I,.I,.I])] 1 [.r 0 .B] λx=>aaW n x.2.1 x.2.2.1 x.2.2.2.1 x.2.2.2.2.1 x.2.2.2.2.2.1 x.2.2.2.2.2.2.1 x.2.2.2.2.2.2.2 x.1
def Oa n:=E0 201 3 [.r 0 (.ptr 0 0),.r 1 .I,.r 2 .I,.w (.box [.S,.I,.S,.I,.I,.I,.I])] 0 [.o 0 (.bx [(5,.lf (.n .i64)),(6,.lf (.n .i64))])] λx=>JK n x.2.2.1 x.2.2.2.1 x.2.2.2.2.1 x.2.2.2.2.2.1 x.2.2.2.2.2.2.1 x.2.2.2.2.2.2.2.1 x.2.2.2.2.2.2.2.2 x.1 x.2.1
def Fa n:=E0 133 1 [.r 0 (.ptr 0 0),.w (.box [.S,.I,.S,.I,.I,.I,.I])] 0 [.o 0 (.bx [(1,.lf (.n .i64)),(2,.lf .s),(3,.lf (.n .i64)),(4,.lf (.n .i64)),(5,.lf (.n .i64)),(6,.lf (.n .i64))])] λx=>Je n x.1 x.2.1 x.2.2.1 x.2.2.2.1 x.2.2.2.2.1 x.2.2.2.2.2.1 x.2.2.2.2.2.2
def DL n:=E0 136 1 [.r 0 (.ptr 0 0),.w (.box [.S,.I,.S,.I,.I,.I,.I])] 0 [.o 0 (.bx [(5,.lf (.n .i64)),(6,.lf (.n .i64))])] λx=>AP n x.1 x.2.1 x.2.2.1 x.2.2.2.1 x.2.2.2.2.1 x.2.2.2.2.2.1 x.2.2.2.2.2.2
def EW n:=E0 291 2 [.r 0 (.ptr 0 0),.r 1 .S,.w (.box [.S,.I,.S,.I,.I,.I,.I])] 0 [.o 0 (.bx [(1,.lf (.n .i64)),(2,.lf .s),(3,.lf (.n .i64)),(4,.lf (.n .i64)),(5,.lf (.n .i64)),(6,.lf (.n .i64))])] λx=>ajr n x.2.1 x.2.2.1 x.2.2.2.1 x.2.2.2.2.1 x.2.2.2.2.2.1 x.2.2.2.2.2.2.1 x.2.2.2.2.2.2.2 x.1
def yP n:=E0 329 1 [.r 0 (.ptr 0 0),.w (.box [.S,.I,.S,.I,.I,.I,.I])] 1 [.r 0 .B] λx=>abm n x.1 x.2.1 x.2.2.1 x.2.2.2.1 x.2.2.2.2.1 x.2.2.2.2.2.1 x.2.2.2.2.2.2
def XC n:=E0 331 1 [.r 0 .S] 1 [.r 0 .I] λx=>adG n x
def Tx n:=E0 332 1 [.r 0 .S] 1 [.r 0 .I] λx=>aaE n x
def amf n:=E0 333 1 [.r 0 .S] 1 [.r 0 .I] λx=>auH n x
def ade n:=E0 292 1 [.r 0 .S] 2 [.r 0 .I,.r 1 .I] λx=>amy n x
def yH n:=E0 204 2 [.r 0 (.ptr 0 0),.r 1 .I,.w (.box [.S,.I,.S,.I,.I,.I,.I])] 1 [.r 0 .I] λx=>Zp n x.2.1 x.2.2.1 x.2.2.2.1 x.2.2.2.2.1 x.2.2.2.2.2.1 x.2.2.2.2.2.2.1 x.2.2.2.2.2.2.2 x.1
def EX n:=E0 330 1 [.r 0 (.ptr 0 0),.w (.box [.S,.I,.S,.I,.I,.I,.I])] 1 [.r 0 .S,.o 0 (.bx [(1,.lf (.n .i64)),(2,.lf .s),(3,.lf (.n .i64)),(4,.lf (.n .i64)),(5,.lf (.n .i64)),(6,.lf (.n .i64))])] λx=>ajP n x.1 x.2.1 x.2.2.1 x.2.2.2.1 x.2.2.2.2.1 x.2.2.2.2.2.1 x.2.2.2.2.2.2
def SN n:=E0 290 1 [.r 0 .S] 1 [.r 0 .I] λx=>azu n x
def H9 n:=E0 65 1 [.r 0 (.ptr 0 0),.w (.box [.S,.I,.S,.I,.I,.I,.I])] 0 [.o 0 (.bx [(5,.lf (.n .i64)),(6,.lf (.n .i64))])] λx=>an6 n x.1 x.2.1 x.2.2.1 x.2.2.2.1 x.2.2.2.2.1 x.2.2.2.2.2.1 x.2.2.2.2.2.2
theorem mk m hs {E fn e inn}(a:EOs Tryz.prog TE E)(f:Tryz.prog.funcs[e.f]? =some fn)(c:akK Tryz.prog fn e=true:=by kernel_rfl)(h:∀z y,inn z=some y->e.out y=z:=by exact sm)(q:∀x,ajx τ θ m hs E TE fn e inn x=e.F x:=by intro _;kernel_rfl):ah Tryz.prog TE e:=mkE lH (by kernel_rfl) (by kernel_rfl) a f c h q
theorem MKS m hs{E fn f n ps r s F}(a:EOs Tryz.prog TE E)(b:Tryz.prog.funcs[f]? =some fn)(c:akK Tryz.prog fn (E0 f n ps r s F)=true:=by kernel_rfl)(q:∀x,ajx τ θ m hs E TE fn (E0 f n ps r s F) some x=F x:=by intro _;kernel_rfl):ah Tryz.prog TE (E0 f n ps r s F):=mk m hs (e:=(E0 f n ps r s F)) a b c (λ_ _ h=>by cases h;rfl) q
end
section
open Go Go.Proofs
theorem Sim.KU{C κ s a w}(h:Sim C κ s a w) D:Sim {C with ds:=D} κ s {a with defers:=D} w:=
 {h with defers:=rfl}
theorem QN{fn:Func}{args:List AV}{H:List AObj}{κ:aM}{ak:bJ}{w:World}{vs:List Value}(e:Entry κ ak H w)(v:vs.length=args.length)(r:∀j,j<args.length->Rel w κ (aD ak κ H) (args.getD j .unk) (vs.getD j undef)):
  Sim (bodyC κ ak H w []) κ ⟨args++List.replicate (fn.ntmps - args.length) (.tup []),H⟩ {tmps:=vs.toArray++Array.replicate (fn.ntmps - vs.toArray.size) undef,defers:=[]} w:=by
 refine⟨rfl,by simp[v],?_,e.klen,dw.refl _,e.resv,e.obj,e.apart,λl b d f g=>g.2 l d f,e.bound,λb o h=>⟨e.pvlt b o h,λl i=>e.pvdis b o l h i⟩,λb k=>k.1,λ_ _=>rfl,rfl,rfl,rfl,qAd _,λ_ _ h _=>h,Evo.refl _ _⟩
 intro n m
 by_cases t:n<args.length
 ·have a:(args++List.replicate (fn.ntmps - args.length) (AV.tup [])).getD n .unk=args.getD n .unk:=by simp[qAi t]
  have c:(vs.toArray++Array.replicate (fn.ntmps - vs.toArray.size) undef).getD n undef=vs.getD n undef:=by simp_all
  rw[a,c];exact r n t
 have a:(args++List.replicate (fn.ntmps - args.length) (AV.tup [])).getD n .unk=.tup []:=by grind
 have c:(vs.toArray++Array.replicate (fn.ntmps - vs.toArray.size) undef).getD n undef=undef:=by simp_all
 rw[a,c];exact kC
end
section
open Go
theorem Sim.entry{C:Ctx}{κ:aM}{s:ASt}{a:Act}{w:World}(h:Sim C κ s a w):Entry κ C.ak s.heap w where
 klen:=h.klen
 resv:=h.resv
 obj:=h.obj
 apart:=h.apart
 bound:=h.bound
 pvlt:=fun b o hp=>qAD (h.oldlt b (h.pvold b o hp)) h.size
 pvdis:=fun b o l hp hl hv=>h.own l b hl hv (h.pvold b o hp)
theorem Sim.through{C:Ctx}{κ κ':aM}{s:ASt}{a:Act}{w w':World}{H':List AObj}(h:Sim C κ s a w)(hl:Leave κ κ' C.ak s.heap H' w w'):Sim C κ' ⟨s.tmps,H'⟩ a w' where
 defers:=h.defers
 len:=h.len
 slot:=fun n hn=>(h.slot n hn).mono hl.kS hl.kext hl.pvsub
 klen:=hl.klen
 kext:=h.kext.trans hl.kext
 resv:=hl.resv
 obj:=hl.obj
 apart:=hl.apart
 own:=fun l b h1 h2 ho=>by
  rcases hl.stay l b h1 h2 with h3|⟨l0,h3,h4⟩
  ·have:=h.oldlt b ho;have:=h.size;omega
  ·exact h.own l0 b h3 h4 ho
 bound:=hl.bound
 pvold:=h.pvold
 oldlt:=h.oldlt
 old:=fun b hb=>(hl.kept b (qAD (h.oldlt b hb) h.size) fun l h3 h4=>h.own l b h3 h4 hb).trans (h.old b hb)
 os:=hl.os.trans h.os
 tape:=hl.tape.trans h.tape
 output:=hl.output.trans h.output
 size:=qAu h.size hl.kS.size
 pvsub:=fun b o hp hlt=>h.pvsub b o (hl.pvsub b o hp (qAD hlt h.size)) hlt
 kS:=h.kS.trans hl.kS fun x o hp hlt=>h.pvsub x o hp hlt
theorem Wd{P}{fn}{H}{T}{j}{κ}{ak}{w}(q:Entry κ ak H w)(r:H.length<=j.length) ds {s}{i}{a}{w'}
  (G:Ca P fn.results.toList H.length T j s.tmps s.heap) (hs:Sim (bodyC κ ak H w ds) i s a w'):∃v,(results fn a.tmps).run P w'=.ok v w'/\∃F d,Ending.returned v=.returned F/\Leave κ d ak H (aA j) w w'/\Rel w' d (aD ak d (aA j)) (av j (res1 T)) F:=by
 have k:(bodyC κ ak H w ds).k0.length<=H.length:=qBk q.klen
 obtain⟨V,g,I,J,K,L⟩:=G
 obtain⟨m,p⟩:=J _ i a w' k hs
 obtain⟨f,M,N,W⟩:=Kv p _ _ K
 have t:Sim (bodyC κ ak H w ds) m ⟨I,g⟩ {tmps:=f.toArray,defers:=a.defers} w':={p with
  len:=by simp[M]
  slot:=λn y=>by have:=N n y;simpa[qAq,List.getD]using this}
 obtain⟨d,c⟩:=L _ m _ w' k t
 have e:Leave κ d ak H (aA j) w w':=by
  refine⟨c.klen,by simp only[aA,qAg];exact r,c.kext,c.resv,c.obj,?_,c.apart,c.bound,λb O z=>c.old b ⟨O,z⟩,c.kS,c.pvsub,c.os,c.tape,c.output⟩
  intro l b g Q
  have A:=c.own l b g Q
  by_cases B:b<w.heap.size
  ·right
   apply qAp
   intro C
   exact A ⟨B,λl0 R D=>C ⟨l0,R,D⟩⟩
  grind
 have E:f.length=(aT j T).length:=by have:=c.len;simpa using this
 have o:∀n,n<(aT j T).length->Rel w' d (aD ak d (aA j)) ((aT j T).getD n .unk) (f.getD n undef):=λn y=>by
  have:Rel w' d (aD ak d (aA j)) ((aT j T).getD n .unk) (f.toArray.getD n undef):=c.slot n y
  simp_all
 have S:(fn.results.mapM (SS a.tmps)).run P w'=.ok f.toArray w':=by
  rw[qCb]
  simp_all
 rw[Ni]
 simp only[Sem.run_bind,S]
 by_cases g:f.length=1;·match f,g with
  |[u],_=>
   match T,E with
   |[x],_=>
    refine⟨u,by simp,u,d,rfl,e,?_⟩
    have:=o 0 (by simp[aT])
    simpa[aT,res1]using this
 refine⟨.tuple f.toArray,by simp[g],_,d,rfl,e,?_⟩
 have U:av j (res1 T)=.tup (aT j T):=by
  match T,E with
  |[],_=>rfl|[x],h=>exact(g (by simpa[aT]using h)).elim|_::_::_,_=>rfl
 rw[U]
 exact .tup E o
def ZL(m:Nat)(T:List AV)(H:List AObj):QT:=λe t h=>e=.normal/\Le m t h T H
theorem av0{P}{te}{k}{E}{m id}{l}{s s'}{v}{τ:Nat->TI}(b:τ=TI.of P)(n:∀e∈E,ah P te e)(hi:Inv s)
  (h:Gm s.h 0 (λn'=>VG τ k E (λv s=>some (v,s)) l l n' [] {s with h:=s.h++xM (yZ l)} λ_ _=>none)=some (v,s')):
  AW P m (.region id l.toArray false) (λe t h=>e=oO (BA te v)/\t=aT s'.h s'.t/\h=aA s'.h) (aT s.h s.t) (aA s.h):=by
 subst b
 rw[WU]at h
 have r:gT {s with h:=s.h++xM (yZ l)}=(gT s).reserve (yZ l):=by
  unfold gT ASt.reserve
  simp only[aj5,ae5]
 rcases ajF n l _ _ _ _ (show Inv {s with h:=s.h++xM (yZ l)}from⟨hi.up,hi.rl,hi.cp⟩) h with⟨o,p,q,g,d,i,j,u,x⟩|⟨y,z,A,q,F,c,B,g,d,i,j,u,x,G⟩
 ·cases d
 cases j
 rw[r]at g
 subst B
 intro C H a w I D
 exact wp_region_lit (M9 g d i C _ a w (D.reserve (yZ (y++z::A))) λκ' J K f=>⟨gT s',κ',⟨rfl,rfl,rfl⟩,f⟩)
theorem aB4{P}{te}{q}{n}{hs}{E}{m}{h0}{c}{p}{s}{τ:Nat->TI}{j}{f:DS->j}{y}(a:τ=TI.of P)(r:∀e∈E,ah P te e)(b:wR P te=true)(i:P.follows .mixedOrders=true)(d:St m h0 s)
  (h:exe ⟨τ,q,n,Unit,hs,m,te,λ_ _=>none⟩ E (λ_=>none) c j p s (λ_=>none) (λe s=>match e with| .normal=>some (f s)|_=>none)=some y):AW P m c (λe t h=>e=.normal/\∃s,f s=y/\Le m t h (aT s.h s.t) (aA s.h)) (aT s.h s.t) (aA s.h):=by
 subst a
 refine(Z7 (n:=n) (hs:=hs) (te:=te) (pn:=λ_ _=>none) (ret:=λ_=>none) (m:=m) (h0:=h0) r b i c _ p s _ _ y d h).mono λe t v u=>?_
 cases u with|ret k l g o=>cases g|oO k l g o=>cases g|@go _ w _ _ k l g o=>grind
theorem acg{P te g n hs E m h0 c p s}{τ:Nat->TI}{T H}(a:τ=TI.of P)(j:∀e∈E,ah P te e)(b:wR P te=true)(i:P.follows .mixedOrders=true)(d:St m h0 s)
  (h:exe ⟨τ,g,n,Unit,hs,m,te,λ_ _=>none⟩ E (λ_=>none) c (List TV×List TObj) p s (λ_=>none) (λe s=>match e with| .normal=>some (s.t,s.h)|_=>none)=some (T,H)):AW P m c (ZL m (aT H T) (aA H)) (aT s.h s.t) (aA s.h):=
 (aB4 (f:=λs=>(s.t,s.h)) a j b i d h).mono λe t h ⟨k,q,l,o⟩=>by
  cases l
  exact⟨k,o⟩
theorem LP{m t h}(b:m<=h.length):St m h ⟨t,h,[],[],[],[],[],[]⟩:=
 ⟨⟨λi k c a=>(by cases a),λd i j a=>(by cases a),λd x a=>(by cases a)⟩,b,λl _ _=>.inl rfl⟩
theorem aDM{P}{te}{x}{n}{hs}{E}{m}{h0}{c}{p}{s}{rvs}{R}{T}{j}{f:DS->Option R}{y}{τ:Nat->TI}(o:τ=TI.of P)(z:∀e∈E,ah P te e)(q:wR P te=true)(i:P.follows .mixedOrders=true)(r:St m h0 s)
  (h:exe ⟨τ,x,n,R,hs,m,te,λ_ _=>none⟩ E f c R p s some (λe s=>match e with| .normal=>f s|_=>none)=some y) (u:∀s,St m h0 s->f s=some y->Ca P rvs m T j (aT s.h s.t) (aA s.h)):
  AW P m c (apI P rvs m T j) (aT s.h s.t) (aA s.h):=by
 subst o
 have d:∀{t v:List AV} {h w:List AObj},Le m t h v w->Ca P rvs m T j v w->Ca P rvs m T j t h:=λhl ⟨A,B,C,D,F,G⟩=>⟨A,B,C,hl.trans D,F,G⟩
 refine(Z7 (n:=n) (hs:=hs) (te:=te) (pn:=λ_ _=>none) (ret:=f) (m:=m) (h0:=h0) z q i c _ p s _ _ y r h).mono λe t I H=>?_
 cases H with|ret a b k g=>cases g;exact d a (u _ b k)|oO a b k g=>cases k|go a b k g=>
  cases e with|normal=>exact d a (u _ b g)|exit J=>cases g|goto l=>cases g|ret=>cases g|panic c=>cases g|outgrown=>cases g
section
variable {P:Program}{f d n:Nat}{r0 r1 r3:Code}{id:Nat}{o1 o2:Oper}{args:List AV}{H:List AObj}{T:List TV}{hJ:List TObj}{fn:Func}{capO:Array Operand}{TA TB:List AV}{HA HB:List AObj}
theorem XP
  (U:P.funcs[f]? =some fn) (V:fn.body=some (r0.seq (r1.seq ((Code.region id #[o1,o2] false).seq r3)))) (J:args.length<=fn.ntmps)
  (K:o1.op=.makeFunc (.func d) #[] capO) (L:o1.guard=none) (M:o1.dst=some n) (h2:o2.op=.defer {callee:=.value (.tmp n),args:=#[],argTypes:=#[]}) (N:o2.guard=none) (O:o2.dst=none) (x:n<TB.length)
  (y:AW P H.length r0 (ZL H.length TA HA) (args++List.replicate (fn.ntmps - args.length) (.tup [])) H)
  (z:AW P H.length r1 (ZL H.length TB HB) TA HA)
  (A:∀(g:aM) (k:bJ) (w:World),Entry g k H w->∀(b:aM) (a:Act) (p:World),Sim (bodyC g k H w []) b ⟨TB,HB⟩ a p->
   ∀D,D=[({target:=.fn (.func d) (capO.map a.eval),args:=#[]}:Deferred)]->∀B,B=({tmps:=a.tmps.setIfInBounds n (.func (.func d) #[] (capO.map a.eval)),defers:=D}:Act)->Sim (bodyC g k H w D) b ⟨TB.set n .unk,HB⟩ B p->
   r3.wp P (bodyPostD P fn λe Q=>∃R i,e=Ending.returned R/\Leave g i k H (aA hJ) w Q/\Rel Q i (aD k i (aA hJ)) (av hJ (res1 T)) R) B p):cK P f args H (av hJ (res1 T)) (aA hJ):=by
 intro g k w S j C W
 refine calls_of_wp_defers U V ?_
 have l:(bodyC g k H w []).k0.length<=H.length:=qBk j.klen
 have q:Sim (bodyC g k H w []) g ⟨args++List.replicate (fn.ntmps - args.length) (.tup []),H⟩ {tmps:=S.toArray++Array.replicate (fn.ntmps - S.toArray.size) undef,defers:=[]} w:=QN j C W
 refine wp_seq (wp_mono (y _ g _ w l q) ?_)
 rintro e a X ⟨s,m,⟨rfl,E⟩,o⟩
 obtain⟨m,o⟩:=E _ m _ _ l o
 refine wp_seq (wp_mono (z _ m _ X l o) ?_)
 rintro e a p ⟨s,b,⟨rfl,E⟩,c⟩
 obtain⟨b,c⟩:=E _ b _ _ l c
 refine wp_seq (wp_region ?_)
 obtain⟨_,_,Y,Z,af1,_⟩:=o1
 obtain⟨_,_,ty2,ps2,af2,_⟩:=o2
 simp only at K L M h2 N O
 subst K L M h2 N O
 have r:n<a.tmps.size:=by rw[c.len];exact x
 have F:∀(fn:Fn) (first t:Array Value) (w:World),(Instr.makeFunc fn first t).run P w=.ok (.func fn first t) w:=λ_ _ _ _=>rfl
 simp only[wpOps,Region.wanted,Array.size,List.range,List.range.loop,qDo,qAo,qAC]
 simp[F,go_sem,r]
 refine .inl ?_
 have G:a.defers=[]:=c.defers
 have I:=(c.au (some n) (v:=.unk) (u:=.func (.func d) #[] (capO.map a.eval)) (.unk _)).KU [{target:=.fn (.func d) (capO.map a.eval),args:=#[]}]
 have h:=A g k w j b a p c _ rfl _ rfl I
 rw[G]
 simp[go_sem]at h
 exact .inl h
theorem anU
  (L:P.funcs[f]? =some fn) (M:fn.body=some (r0.seq (r1.seq ((Code.region id #[o1,o2] false).seq r3)))) (m:args.length<=fn.ntmps)
  (y:o1.op=.makeFunc (.func d) #[] capO) (N:o1.guard=none) (O:o1.dst=some n) (h2:o2.op=.defer {callee:=.value (.tmp n),args:=#[],argTypes:=#[]}) (Q:o2.guard=none) (R:o2.dst=none) (z:n<TB.length) (o:kE P d=true)
  (k:∀(K:Array Value) (w:World),K.size=capO.size->CallsD P d K .returning w λe S g=>e=.returned (.tuple #[])/\S=.returning/\g=w)
  (A:AW P H.length r0 (ZL H.length TA HA) (args++List.replicate (fn.ntmps - args.length) (.tup [])) H)
  (B:AW P H.length r1 (ZL H.length TB HB) TA HA) (C:H.length<=hJ.length)
  (E:AW P H.length r3 (apI P fn.results.toList H.length T hJ) (TB.set n .unk) HB):cK P f args H (av hJ (res1 T)) (aA hJ):=by
 refine XP L M m y N O h2 Q R z A B λκ t w p F a U V D W i X G=>?_
 have I:(bodyC κ t H w D).k0.length<=H.length:=qBk p.klen
 refine wp_mono (E _ F _ U I G) ?_
 have j:∀(s:ASt) (b:aM) (i:Act) (g:World),Ca P fn.results.toList H.length T hJ s.tmps s.heap->Sim (bodyC κ t H w D) b s i g->Leaves P fn i.tmps (λe g=>∃x b,e=Ending.returned x/\Leave κ b t H (aA hJ) w g/\Rel g b (aD t b (aA hJ)) (av hJ (res1 T)) x) i.defers .returning g:=by
  intro s b i g q h
  rw[h.defers]
  rw[W]
  refine leaves_cons (f:=d) (args:=capO.map a.eval) (by simp) (by simp[go_sem,BM o]) ?_
  refine(k _ g (by simp)).mono ?_
  rintro e u Y ⟨rfl,rfl,rfl⟩
  obtain⟨v,J,x,r,Z,y,h2⟩:=Wd p C D q h
  exact⟨v,J,x,r,Z,y,h2⟩
 rintro e i g ⟨s,b,q,h⟩
 cases e with|normal=>exact j s b i g q h|ret=>exact j s b i g q h|exit id=>exact q.elim|goto l=>exact q.elim|panic c=>exact q.elim|outgrown=>exact q.elim
end
def al7(P)(d:Nat)(args:List AV)H(v)H':=
 ∀a k w (s:List Value),Entry a k H w->s.length=args.length->(∀j,j<args.length->Rel w a (aD k a H) (args.getD j .unk) (s.getD j undef))->
  CallsD P d s.toArray (.panicking [{v,recovered:=false}]) w λe u c=>e=.returned (.tuple #[])/\settle u=.returning/\∃b,Leave a b k H H' w c
def Ctx.rt(C:Ctx)κ(s:ASt)w:={C with w0:=w,k0:=κ,pvE:=aD C.ak κ s.heap}
theorem Sim.rt{C:Ctx}{κ:aM}{s:ASt}{a:Act}{w:World}(h:Sim C κ s a w):Sim (C.rt κ s w) κ s a w where
 defers:=h.defers
 len:=h.len
 slot:=h.slot
 klen:=h.klen
 kext:=dw.refl _
 resv:=h.resv
 obj:=h.obj
 apart:=h.apart
 own:=h.own
 bound:=h.bound
 pvold:=h.pvold
 oldlt:=fun b hb=>qAD (h.oldlt b hb) h.size
 old:=fun _ _=>rfl
 os:=rfl
 tape:=rfl
 output:=rfl
 size:=qAd _
 pvsub:=fun _ _ hp _=>hp
 kS:=Evo.refl _ _
theorem Sim.aIH{C:Ctx}{κ:aM}{s:ASt}{a:Act}{w:World}(h:Sim C κ s a w){κ':aM}{s':ASt}{a':Act}{w':World}(h':Sim (C.rt κ s w) κ' s' a' w'):Sim C κ' s' a' w' where
 defers:=h'.defers
 len:=h'.len
 slot:=h'.slot
 klen:=h'.klen
 kext:=h.kext.trans h'.kext
 resv:=h'.resv
 obj:=h'.obj
 apart:=h'.apart
 own:=h'.own
 bound:=h'.bound
 pvold:=h.pvold
 oldlt:=h.oldlt
 old:=fun b hb=>(h'.old b hb).trans (h.old b hb)
 os:=h'.os.trans h.os
 tape:=h'.tape.trans h.tape
 output:=h'.output.trans h.output
 size:=qAu h.size h'.size
 pvsub:=fun b o hp hlt=>h.pvsub b o (h'.pvsub b o hp (qAD hlt h.size)) hlt
 kS:=h.kS.trans h'.kS fun x o hp hlt=>h.pvsub x o hp hlt
section
variable {P:Program}{f d n:Nat}{r0 r1 r3:Code}{id:Nat}{o1 o2:Oper}{args:List AV}{H:List AObj}{T:List TV}{hJ:List TObj}{fn:Func}{capO:Array Operand}{TA TB TP:List AV}{HA HB HP HP':List AObj}{v:Value}
theorem amU
  (W:P.funcs[f]? =some fn) (A:fn.body=some (r0.seq (r1.seq ((Code.region id #[o1,o2] false).seq r3)))) (l:args.length<=fn.ntmps)
  (B:o1.op=.makeFunc (.func d) #[] capO) (X:o1.guard=none) (Y:o1.dst=some n) (h2:o2.op=.defer {callee:=.value (.tmp n),args:=#[],argTypes:=#[]}) (Z:o2.guard=none) (d2:o2.dst=none) (C:n<TB.length) (m:kE P d=true)
  (E:AW P H.length r0 (ZL H.length TA HA) (args++List.replicate (fn.ntmps - args.length) (.tup [])) H)
  (F:AW P H.length r1 (ZL H.length TB HB) TA HA) (G:H.length<=hJ.length)
  (I:AW P HB.length r3 (λe t h=>e=oO v/\Le HB.length t h TP HP) (TB.set n .unk) HB)
  (r:al7 P d (capO.toList.map (bC TB)) HP v HP') (p:Ca P fn.results.toList H.length T hJ TP HP'):cK P f args H (av hJ (res1 T)) (aA hJ):=by
 refine XP W A l B X Y h2 Z d2 C E F λκ S w J q a U K D hD z ha' g=>?_
 have x:((bodyC κ S H w D).rt q ⟨TB.set n .unk,HB⟩ U).k0.length<=HB.length:=qBk g.klen
 refine wp_mono (I _ q _ U x g.rt) ?_
 rintro e z V ⟨s',i,⟨rfl,L⟩,c⟩
 obtain⟨i,c⟩:=L _ i _ _ x c
 have k:=g.aIH c
 show Leaves P fn z.tmps _ z.defers _ V
 rw[k.defers]
 rw[hD]
 refine leaves_cons (f:=d) (args:=capO.map a.eval) (by simp) (by simp[go_sem,BM m]) ?_
 refine CallsD.mono (r i S V (capO.map a.eval).toList k.entry (by simp) λj hj=>?_) ?_
 ·simp at hj
  have x1:(capO.toList.map (bC TB)).getD j .unk=bC TB capO.toList[j]:=by grind
  have x2:(capO.map a.eval).toList.getD j undef=a.eval capO.toList[j]:=by grind
  rw[x1,x2]
  exact(K.ev capO.toList[j]).mono c.kS c.kext λb o A M=>c.pvsub b o A M
 rintro e u N ⟨rfl,hu,κr,O⟩
 show Leaves P fn z.tmps _ [] (settle u) N
 rw[hu]
 obtain⟨v',Q,R,y,e1,B,h2⟩:=Wd J G D (s:=⟨TP,HP'⟩) p (k.through O)
 exact⟨v',Q,R,y,e1,B,h2⟩
end
end
section
open Go Go.Proofs
theorem azn:kE Tryz.prog 72=true:=by kernel_rfl
theorem aFL xs w (h:xs.size=4):CallsD Tryz.prog 72 xs .returning w λe u a=>e=.returned (.tuple #[])/\u=.returning/\a=w:=by
 obtain⟨l⟩:=xs
 match l,h with
 |[x,c,d,f],_=>
 refine callsD_of_wpS Tryz.func72 rfl λc₀ s b=>?_
 apply wpS_seq
 apply wpS_region
 simp[wpOpsS,go_sem,recoverD,b,Tryz.ntmps72,Exit.thenS]
 refine wpS_of_wp ?_
 refine wp_block ?_
 refine wp_seq ?_
 apply wp_region
 simp[wpOps,go_sem,Exit.then]
 first
  |refine wp_cond_true (by simp[Act.eval,go_sem]) ?_
  |refine .inl (wp_cond_true (by simp[Act.eval,go_sem]) ?_)
 apply wp_region
 cases c₀
 simp_all [wpOps,go_sem,Exit.inBlock,bodyPostS,results,Tryz.results72]
def cL:Code->Code| .seq a _=>a|c=>c
def cR:Code->Code| .seq _ b=>b|c=>c
def cD:Code->Code| .cond _ _ b=>b|c=>c
def cA:Code->Code| .cond _ a _=>a|c=>c
def cB:Code->Code| .block _ a=>a|c=>c
noncomputable def bdy(fn:Func):=match fn.body with|some c=>c|none=>.skip
noncomputable def opsOf:Code->List Oper| .region _ o _=>o.toList|_=>[]
noncomputable def c72:Code:=cA (cR (cD (cR (cB (cR (bdy Tryz.f72))))))
section
variable (tm:Tm)(cs:List Carrier)(ds:List Decl)(sz:List Int)(mp:List (Str×Val))(bs z:List Bound)(c:Nat)(v:Int)
def hP:List TObj:=[.box [.lf (.l .car) cs,.lf (.l .dec) ds,.lf (.l .i) sz,.mapr 1,.psl 8 5 none],.mp .val mp,.gon bs.length,.box [.ptr 0 0],.box [.lf (.t .tm) tm],.box [.lf (.n .i64) 0,.lf (.n .i64) 0,.lf .s [],.nils],.box [.lf (.n .i64) 0],.box [.lf (.n .i64) (bs.length:Int)],.arr .bnd z]
def hC:List TObj:=[.box [.lf (.l .car) cs,.lf (.l .dec) ds,.lf (.l .i) sz,.mapr 1,.psl 8 5 none],.mp .val mp,.gon bs.length,.box [.ptr 0 0],.box [.lf (.t .tm) tm],.box [.lf (.n .i64) 0,.lf (.n .i64) 0,.lf .s [],.nils],.box [.lf (.n .i64) v],.box [.lf (.n .i64) (bs.length:Int)],.arr .bnd (z.take c)]
noncomputable def s72:DS:=⟨[.ptr 3 0,.ptr 7 0,.ptr 5 0,.ptr 6 0,.tup [],.tup [],.tup [],.unk,.tup [],.unk,.unk,.unk,.lf (.n .i64) v,.tup [],.tup [],.tup [],.tup [],.tup [],.tup [],.tup [],.tup [],.tup [],.tup [],.tup []],hP tm cs ds sz mp bs z,[],[],[],[],[],[]⟩
theorem q72:exe ⟨τ,θ,0,Unit,[(6,.ca 8 0 4)],9,TE,λ_ _=>none⟩ [] (λ_=>none) c72 (List TObj) 1 (s72 tm cs ds sz mp bs z v) (λ_=>none) (λe s=>match e with| .normal=>some s.h|_=>none)=
  (Dw z.length bs.length).bind λc=>bif Nat.ble c z.length then some (hC tm cs ds sz mp bs z c v)else none:=by kernel_rfl
theorem aIq(a:Dw z.length (bs.length:Int)=some c)(b:Nat.ble c z.length=true):
  AW Tryz.prog 9 c72 (λe t h=>e=.normal/\∃s:DS,s.h=hC tm cs ds sz mp bs z c v/\Le 9 t h (aT s.h s.t) (aA s.h)) (aT (hP tm cs ds sz mp bs z) (s72 tm cs ds sz mp bs z v).t) (aA (hP tm cs ds sz mp bs z)):=
 aB4 (n:=0) (h0:=hP tm cs ds sz mp bs z) (f:=λs=>s.h) lH (λe d=>by cases d) (by kernel_rfl) (by kernel_rfl) (s:=s72 tm cs ds sz mp bs z v) (LP (qAd _)) ((q72 tm cs ds sz mp bs z v).trans (by rw[a];simp only[qAa];rw[b];rfl))
theorem aEW v w:(Instr.typeAssert (.iface TE (.int .i64 v)) 20 41 true).run Tryz.prog w=.ok (.tuple #[.int .i64 v,.bool true]) w:=by
 have h:Tryz.prog.underlying 41=some (.int .i64):=by kernel_rfl
 simp[Instr.typeAssert,run_underlying h,go_sem,Result.andThen,TE]
set_option maxHeartbeats 2000000 in
theorem aGy(hv:0<=v/\v<=1000)(hc:Dw z.length (bs.length:Int)=some c)(hb:Nat.ble c z.length=true):
  al7 Tryz.prog 72 [.ptr 3 0,.ptr 7 0,.ptr 5 0,.ptr 6 0] (aA (hP tm cs ds sz mp bs z)) (BA TE v) (aA (hC tm cs ds sz mp bs z c v)):=by
 obtain⟨HP,hHP⟩:∃H,H=aA (hP tm cs ds sz mp bs z):=⟨_,rfl⟩
 obtain⟨HC,hHC⟩:∃H,H=aA (hC tm cs ds sz mp bs z c v):=⟨_,rfl⟩
 rw[<-hHP,<-hHC]
 intro κ ak w vs hen hvl hr
 have hsim:=QN (fn:=Tryz.f72) hen hvl hr
 match vs,hvl with
 |[x0,x1,x2,x3],_=>
 refine callsD_of_wpS Tryz.func72 rfl λc₀ fr hu=>?_
 apply wpS_seq
 apply wpS_region
 simp[wpOpsS,go_sem,recoverD,hu,Tryz.ntmps72,Exit.thenS]
 refine wpS_of_wp ?_
 refine wp_block ?_
 refine wp_seq ?_
 apply wp_region
 simp[wpOps,go_sem,Exit.then,BA]
 first
  |refine wp_cond_false (by simp[Act.eval,go_sem]) ?_
  |refine .inl (wp_cond_false (by simp[Act.eval,go_sem]) ?_)
 refine wp_seq ?_
 apply wp_region
 simp[wpOps,go_sem,Exit.then,aEW]
 have h1:=(((((hsim.au (some 7) (v:=.unk) (u:=BA TE v) (.unk _)).au (some 9) (v:=.unk) (u:=.bool false) (.unk _)).au (some 10) (v:=.unk) (u:=.tuple #[.int .i64 v,.bool true]) (.unk _)).au (some 11) (v:=.unk) (u:=.bool true) (.unk _)).au (some 12) (v:=.int .i64 v) (u:=.int .i64 v) (.int (by simp[qc,IntKind.min,IntKind.max,IntKind.signed,IntKind.bits];omega)))
 rw[hHP]at h1
 have h2:=aIq tm cs ds sz mp bs z c v hc hb _ _ _ _ (qBk (by rw[<-hHP];exact hen.klen.trans (by rw[hHP];rfl))) h1
 rw[<-hHP]at h2
 first
  |refine wp_cond_true (by simp[Act.eval,go_sem]) ?_
  |refine .inl (wp_cond_true (by simp[Act.eval,go_sem]) ?_)
  |refine .inl (.inl (wp_cond_true (by simp[Act.eval,go_sem]) ?_))
  |refine .inl (.inl (.inl (wp_cond_true (by simp[Act.eval,go_sem]) ?_)))
 have hact:(((((({tmps:=#[x0,x1,x2,x3]++Array.replicate (Tryz.f72.ntmps - #[x0,x1,x2,x3].size) undef,defers:=[]}:Act).put (some 7) (BA TE v)).put (some 9) (.bool false)).put (some 10) (.tuple #[.int .i64 v,.bool true])).put (some 11) (.bool true)).put (some 12) (.int .i64 v))=
   {tmps:=#[x0,x1,x2,x3]++(((((Array.replicate 20 undef).setIfInBounds 3 (Value.iface TE (Value.int IntKind.i64 v))).setIfInBounds 5 (Value.bool false)).setIfInBounds 6 (Value.tuple #[Value.int IntKind.i64 v,Value.bool true])).setIfInBounds 7 (Value.bool true)).setIfInBounds 8 (Value.int IntKind.i64 v),defers:=[]}:=by
  simp[Act.put,Tryz.ntmps72,BA]
 rw[hact]at h2
 refine wp_mono (c:=c72) h2 ?_
 rintro e a' w' ⟨s',κ',⟨rfl,s1,hs1,hle⟩,hs'⟩
 have hl9:HP.length=9:=by rw[hHP];rfl
 have hq:Ca Tryz.prog Tryz.f72.results.toList HP.length [] (hC tm cs ds sz mp bs z c v) s'.tmps s'.heap:=by
  rw[hl9]
  exact⟨_,_,[],hle,rfl,by rw[hs1];exact Le.refl _ _ _⟩
 obtain⟨v1,hv1,v2,κ2,e1,hleave,_⟩:=Wd (fn:=Tryz.f72) hen (by rw[hl9];exact qAd 9) [] hq hs'
 rw[<-hHC]at hleave
 have hd:a'.defers=[]:=hs'.defers
 exact⟨hd,.panicking [{v:=Value.iface TE (Value.int IntKind.i64 v),recovered:=true}],rfl,.tuple #[],by simp[results,Tryz.results72,go_sem],rfl,by simp[settle],κ2,hleave⟩
end
end
end Abs
end Go.Proofs.YtneeginmfjageaaGreat
