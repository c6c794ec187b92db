/-
  Printed by gend.py. Conditions: none.
-/
import Derived.KernelRfl
import Derived.Defers
import Derived.Recover
import Derived.Tactics
import Derived.Tactics2
import Derived.WalkKit
import Derived.Test.YtneeginmfjageaaGreatCFnox41a45e
import Derived.Test.YtneeginmfjageaaGreatCD31oxb2dda5
set_option linter.all false
namespace Go.Proofs.YtneeginmfjageaaGreat
namespace Abs
set_option maxRecDepth 100000
abbrev Sk.I:Sk:=.lf (.n .i64)
abbrev Sk.U:Sk:=.lf (.n .u8)
abbrev Sk.S:Sk:=.lf .s
abbrev Sk.B:Sk:=.lf .b
abbrev Sk.Li:Sk:=.lf (.l .i)
abbrev Sk.Lu:Sk:=.lf (.l .u)
abbrev Sk.Ls:Sk:=.lf (.l .s)
abbrev Sk.Lb:Sk:=.lf (.l .b)
abbrev Sk.Lcar:Sk:=.lf (.l .car)
abbrev Sk.Ldec:Sk:=.lf (.l .dec)
abbrev Sk.Lty:Sk:=.lf (.l .ty)
abbrev Sk.Ltm:Sk:=.lf (.l .tm)
abbrev Sk.Lenv:Sk:=.lf (.l .env)
abbrev Sk.Lval:Sk:=.lf (.l .val)
abbrev Sk.Lbnd:Sk:=.lf (.l .bnd)
abbrev Sk.Lvals:Sk:=.lf (.l .vals)
abbrev Sk.Ltms:Sk:=.lf (.l .tms)
abbrev Sk.Ti:Sk:=.lf (.t .i)
abbrev Sk.Tu:Sk:=.lf (.t .u)
abbrev Sk.Ts:Sk:=.lf (.t .s)
abbrev Sk.Tb:Sk:=.lf (.t .b)
abbrev Sk.Tcar:Sk:=.lf (.t .car)
abbrev Sk.Tdec:Sk:=.lf (.t .dec)
abbrev Sk.Tty:Sk:=.lf (.t .ty)
abbrev Sk.Ttm:Sk:=.lf (.t .tm)
abbrev Sk.Tenv:Sk:=.lf (.t .env)
abbrev Sk.Tval:Sk:=.lf (.t .val)
abbrev Sk.Tbnd:Sk:=.lf (.t .bnd)
abbrev Sk.Tvals:Sk:=.lf (.t .vals)
abbrev Sk.Ttms:Sk:=.lf (.t .tms)
abbrev Sk.Fd:Sk:=.lf (.f .dec)
def E0(f n:Nat)(ps:Be)(a:Nat)(s:Be)(F:jI (bM ps)->Option (jI (bM s))):Ent:=⟨f,n,ps,a,s,jI (bM s),none,none,F,λr=>r⟩
def TE:Nat:=41
def θl:List (Nat×ET):=[(2,.i),(3,.i),(4,.b),(5,.u),(6,.u),(9,.s),(10,.s),(11,.s),(25,.env),(27,.vals),(32,.ty),(33,.tms),(35,.tm),(40,.val),(41,.i),(63,.car),(66,.dec),(169,.bnd),(222,.bnd),(236,.i),(284,.u),(285,.u)]
noncomputable def θ(t:Nat):B8:=List.rec (motive:=λ_=>B8) none (λp _ i=>bif Nat.beq p.1 t then some p.2 else i) θl
def Ta(r:B9):B9:=.nilF:: .func 300 [.eptr [.k (.n .i64 2),.k (.s ([]:Str)),.k (.l .ty)]]:: .func 300 [.eptr [.k (.n .i64 2),.k (.s ([]:Str)),.k (.l .ty)]]:: .func 293 [.eptr [.k (.n .i64 2),.k (.s ([]:Str)),.k (.l .ty)],.eptr [.k (.n .i64 2)]]:: .func 293 [.eptr [.k (.n .i64 2),.k (.s ([]:Str)),.k (.l .ty)],.eptr [.k (.n .i64 2)]]:: .func 293 [.eptr [.k (.n .i64 2),.k (.s ([]:Str)),.k (.l .ty)],.eptr [.k (.n .i64 2)]]:: .func 293 [.eptr [.k (.n .i64 2),.k (.s ([]:Str)),.k (.l .ty)],.eptr [.k (.n .i64 2)]]:: .func 293 [.eptr [.k (.n .i64 2),.k (.s ([]:Str)),.k (.l .ty)],.eptr [.k (.n .i64 2)]]:: .func 301 [.eptr [.func 227 []]]:: .func 301 [.eptr [.func 227 []]]:: .func 213 []:: .func 213 []:: .func 293 [.eptr [.k (.n .i64 2),.k (.s ([]:Str)),.k (.l .ty)],.eptr [.k (.n .i64 1)]]:: .func 293 [.eptr [.k (.n .i64 2),.k (.s ([]:Str)),.k (.l .ty)],.eptr [.k (.n .i64 1)]]:: .func 293 [.eptr [.k (.n .i64 2),.k (.s ([]:Str)),.k (.l .ty)],.eptr [.k (.n .i64 1)]]:: .func 293 [.eptr [.k (.n .i64 2),.k (.s ([]:Str)),.k (.l .ty)],.eptr [.k (.n .i64 1)]]:: .func 229 []:: .func 229 []:: .func 302 [.eptr [.func 227 []]]:: .func 300 [.eptr [.k (.n .i64 1),.k (.s ([]:Str)),.k (.l .ty)]]:: .nilF:: .func 293 [.eptr [.k (.n .i64 1),.k (.s ([]:Str)),.k (.l .ty)],.eptr [.k (.n .i64 1)]]:: .func 293 [.eptr [.k (.n .i64 1),.k (.s ([]:Str)),.k (.l .ty)],.eptr [.k (.n .i64 1)]]:: .func 293 [.eptr [.k (.n .i64 1),.k (.s ([]:Str)),.k (.l .ty)],.eptr [.k (.n .i64 1)]]:: .func 293 [.eptr [.k (.n .i64 1),.k (.s ([]:Str)),.k (.l .ty)],.eptr [.k (.n .i64 1)]]:: .func 293 [.eptr [.k (.n .i64 1),.k (.s ([]:Str)),.k (.l .ty)],.eptr [.k (.n .i64 1)]]:: .func 293 [.eptr [.k (.n .i64 1),.k (.s ([]:Str)),.k (.l .ty)],.eptr [.k (.n .i64 1)]]:: .func 231 []:: .func 233 []:: .nilF:: .func 293 [.eptr [.k (.n .i64 5),.k (.s ([]:Str)),.k (.ly ([(Ty.mk 1 ([]:Str) ([]))]))],.eptr [.k (.n .i64 1)]]:: .func 302 [.eptr [.func 228 []]]:: .func 302 [.eptr [.func 228 []]]:: .func 302 [.eptr [.func 228 []]]:: .func 296 [.eptr [.func 217 []]]:: .func 298 [.eptr [.func 234 []]]:: .func 298 [.eptr [.func 235 []]]:: .func 218 []:: .func 218 []:: .func 298 [.eptr [.func 222 []]]:: .func 298 [.eptr [.func 222 []]]:: .func 296 [.eptr [.func 216 []]]:: .func 296 [.eptr [.func 216 []]]:: .func 296 [.eptr [.func 216 []]]:: .func 296 [.eptr [.func 216 []]]:: .func 296 [.eptr [.func 216 []]]:: .func 299 [.eptr [.func 236 []]]:: .func 299 [.eptr [.func 237 []]]:: .func 299 [.eptr [.func 224 []]]:: .func 299 [.eptr [.func 224 []]]:: .func 298 [.eptr [.func 238 []]]:: .func 298 [.eptr [.func 239 []]]:: .func 298 [.eptr [.func 240 []]]:: .func 298 [.eptr [.func 241 []]]:: .func 298 [.eptr [.func 242 []]]:: .func 301 [.eptr [.func 228 []]]:: .func 243 []::r
def ajv(n:Nat):Ent:=E0 11 0 [] 1 [.r 0 .B] λx=>jf n
def U6(n:Nat):Ent:=E0 194 1 [.r 0 (.func 277 [.ptr 0 0]),.w (.box [.mapr 1]),.w (.mp .b)] 1 [.r 0 .Ls] λx=>ow n x
def aez(n:Nat):Ent:=E0 47 2 [.r 0 .S,.r 1 .S] 1 [.r 0 .I] λx=>strings_Compare n x.1 x.2
def adr(n:Nat):Ent:=E0 70 1 [.r 0 .Li] 1 [.r 0 .Li] λx=>slices_Clone_int n x
def fB(n:Nat):Ent:=⟨152,2,[.r 0 (.ptr 0 0),.r 1 .S,.w (.box [.Lcar,.Ldec,.Li,.mapr 1,.psl 2 5]),.w (.mp .val),.w (.arr .bnd)],1,[.r 0 .Tval],Val,(some []),none,λx=>nY n x.2.1 x.2.2.1 x.2.2.2.1 x.2.2.2.2.1 x.2.2.2.2.2 x.1,λr=>r⟩
def apd(n:Nat):Ent:=E0 61 1 [.r 0 .Lval] 1 [.r 0 .Lval] λx=>kH n x
def aaZ(n:Nat):Ent:=E0 334 2 [.r 0 (.nils),.r 1 .I] 1 [.r 0 (.own 0),.w (.own .val)] λx=>Fw n x
def SQ(n:Nat):Ent:=E0 335 1 [.r 0 .Lvals] 1 [.r 0 (.own 0),.w (.own .vals)] λx=>zq n x
def Vm(n:Nat):Ent:=E0 75 1 [.r 0 .Lval] 1 [.r 0 (.own 0),.w (.own .val)] λx=>jZ n x
def Zr(n:Nat):Ent:=E0 75 1 [.r 0 .Lval] 1 [.r 0 (.psl 0 4),.w (.arr .val)] λx=>Df n x
def aaS(n:Nat):Ent:=E0 74 1 [.r 0 (.psl 0 4),.w (.arr .val)] 1 [.r 0 (.psl 0 4)] λx=>(yA n x).bind λ_=>some ()
def ajw(n:Nat):Ent:=E0 9 1 [.r 0 .Tenv] 1 [.r 0 .B] λx=>Ah n x
def aog(n:Nat):Ent:=E0 174 1 [.r 0 .I] 1 [.r 0 .I] λx=>aed n x
def afF(n:Nat):Ent:=E0 127 1 [.r 0 .U] 1 [.r 0 .B] λx=>wD n x
def avg(n:Nat):Ent:=E0 103 2 [.r 0 .S,.r 1 .Ls] 1 [.r 0 .B] λx=>Mi n x.1 x.2
def aby(n:Nat):Ent:=E0 128 1 [.r 0 .S] 1 [.r 0 .B] λx=>Ja n x
def akJ(n:Nat):Ent:=E0 129 1 [.r 0 .U] 1 [.r 0 .B] λx=>CY n x
def Tn(n:Nat):Ent:=E0 99 1 [.r 0 .S] 1 [.r 0 .B] λx=>jk n x
def Vz(n:Nat):Ent:=E0 176 1 [.r 0 .S] 1 [.r 0 .B] λx=>Nk n x
def ajg(n:Nat):Ent:=E0 100 1 [.r 0 .S] 1 [.r 0 .B] λx=>KN n x
def afG(n:Nat):Ent:=E0 62 1 [.r 0 .I] 1 [.r 0 .B] λx=>zM n x
def aiu(n:Nat):Ent:=E0 119 3 [.r 0 .Tty,.r 1 .I,.r 2 .I] 1 [.r 0 .I] λx=>zR n x.1 x.2.1 x.2.2
def V9(n:Nat):Ent:=E0 57 1 [.r 0 .Tty] 1 [.r 0 .B] λx=>uS n x
def ZY(n:Nat):Ent:=E0 175 1 [.r 0 .Tty] 1 [.r 0 .B] λx=>Mk n x
def anL(n:Nat):Ent:=E0 98 1 [.r 0 .Ttm] 1 [.r 0 .B] λx=>adQ n x
def ahY(n:Nat):Ent:=E0 49 3 [.r 0 .Ttm,.r 1 .I,.r 2 .I] 1 [.r 0 .I] λx=>GL n x.1 x.2.1 x.2.2
def X5(n:Nat):Ent:=E0 22 1 [.r 0 .Ttm] 1 [.r 0 .B] λx=>vC n x
def anP(n:Nat):Ent:=E0 27 1 [.r 0 .Ttm] 1 [.r 0 .I] λx=>KT n x
def aif(n:Nat):Ent:=E0 10 1 [.r 0 .Ttm] 1 [.r 0 .B] λx=>sM n x
def aay(n:Nat):Ent:=E0 184 1 [.r 0 .U] 1 [.r 0 .B] λx=>FT n x
def Xq(n:Nat):Ent:=E0 185 1 [.r 0 .S] 1 [.r 0 .B] λx=>JH n x
def ac8(n:Nat):Ent:=E0 268 1 [.r 0 .U] 1 [.r 0 .B] λx=>Pf n x
def aaC(n:Nat):Ent:=E0 186 1 [.r 0 .U] 1 [.r 0 .B] λx=>MR n x
def Pb(n:Nat):Ent:=E0 107 1 [.r 0 .S] 1 [.r 0 .B] λx=>gX n x
def u7(n:Nat):Ent:=E0 319 2 [.r 0 .S,.r 1 .S] 1 [.r 0 .B] λx=>o8 n x.1 x.2
def uq(n:Nat):Ent:=E0 269 2 [.r 0 .S,.r 1 .S] 1 [.r 0 .S] λx=>oh n x.1 x.2
def Jz(n:Nat):Ent:=E0 187 2 [.r 0 .S,.r 1 .S] 1 [.r 0 .S] λx=>strings_TrimSuffix n x.1 x.2
def OI(n:Nat):Ent:=E0 108 1 [.r 0 .S] 1 [.r 0 .B] λx=>wB n x
def Jr(n:Nat):Ent:=E0 137 2 [.r 0 (.ptr 0 0),.r 1 .I,.w (.box [.I,.I,.I])] 1 [.r 0 .B,.o 0 (.bx [(0,.lf (.n .i64))])] λx=>lS n x.2.1 x.2.2.1 x.2.2.2 x.1
def vM(n:Nat):Ent:=E0 320 2 [.r 0 .Lty,.r 1 (.func 274 [.ptr 0 0,.ptr 2 0]),.w (.box [.ptr 1 0]),.w (.box [.I,.I,.I]),.w (.box [.I])] 1 [.r 0 .I,.o 1 (.bx [(0,.lf (.n .i64))])] λx=>lG n x.1 x.2.1 x.2.2.1 x.2.2.2.1 x.2.2.2.2
def sO(n:Nat):Ent:=E0 270 2 [.r 0 .Lty,.r 1 (.func 274 [.ptr 0 0,.ptr 2 0]),.w (.box [.ptr 1 0]),.w (.box [.I,.I,.I]),.w (.box [.I])] 1 [.r 0 .B,.o 1 (.bx [(0,.lf (.n .i64))])] λx=>fD n x.1 x.2.1 x.2.2.1 x.2.2.2.1 x.2.2.2.2
def vQ(n:Nat):Ent:=E0 191 4 [.r 0 (.ptr 0 0),.r 1 .Tty,.r 2 .I,.r 3 .B,.w (.box [.I,.I,.I])] 1 [.r 0 .B,.o 0 (.bx [(0,.lf (.n .i64))])] λx=>iW n x.2.2.2.1 x.2.2.2.2.1 x.2.2.2.2.2 x.1 x.2.1 x.2.2.1
def um(n:Nat):Ent:=E0 274 3 [.r 0 .Tty,.r 1 (.ptr 0 0),.r 2 (.ptr 2 0),.w (.box [.ptr 1 0]),.w (.box [.I,.I,.I]),.w (.box [.I])] 1 [.r 0 .B,.o 1 (.bx [(0,.lf (.n .i64))])] λx=>fQ n x.1 x.2.1 x.2.2.1 x.2.2.2.1 x.2.2.2.2
def Sn(n:Nat):Ent:=E0 113 1 [.r 0 .Tty] 1 [.r 0 .B] λx=>ql n x
def tY(n:Nat):Ent:=E0 320 2 [.r 0 .Lty,.r 1 (.func 271 [.ptr 0 0]),.w (.box [.I])] 1 [.r 0 .I] λx=>mE n x.1 x.2
def qo(n:Nat):Ent:=E0 270 2 [.r 0 .Lty,.r 1 (.func 271 [.ptr 0 0]),.w (.box [.I])] 1 [.r 0 .B] λx=>jl n x.1 x.2
def FH(n:Nat):Ent:=E0 188 2 [.r 0 .Tty,.r 1 .I] 1 [.r 0 .B] λx=>oO n x.1 x.2
def BL(n:Nat):Ent:=E0 271 2 [.r 0 .Tty,.r 1 (.ptr 0 0),.w (.box [.I])] 1 [.r 0 .B] λx=>mK n x.1 x.2
def Ku(n:Nat):Ent:=E0 109 1 [.r 0 .Tty] 1 [.r 0 .B] λx=>yt n x
def RG(n:Nat):Ent:=E0 193 2 [.r 0 .Tty,.r 1 (.mapr 0),.w (.mp .b)] 0 [.o 0 (.mp .b)] λx=>qC n x.1 x.2
def Rz(n:Nat):Ent:=E0 195 1 [.r 0 (.mapr 0),.w (.mp .b)] 1 [.r 0 (.func 277 [.ptr 1 0]),.w (.box [.mapr 0])] λx=>alh n x
def OM(n:Nat):Ent:=E0 115 1 [.r 0 .Tty] 1 [.r 0 .Ls] λx=>wV n x
def IW(n:Nat):Ent:=E0 273 2 [.r 0 .Tcar,.r 1 (.ptr 0 0),.w (.box [.S])] 1 [.r 0 .B] λx=>aa1 n x.1 x.2
def AQ(n:Nat):Ent:=E0 196 2 [.r 0 .Lcar,.r 1 (.func 273 [.ptr 0 0]),.w (.box [.S])] 1 [.r 0 .I] λx=>Dp n x.1 x.2
def yh(n:Nat):Ent:=E0 272 2 [.r 0 .Lcar,.r 1 (.func 273 [.ptr 0 0]),.w (.box [.S])] 1 [.r 0 .B] λx=>zL n x.1 x.2
def Kz(n:Nat):Ent:=E0 190 2 [.r 0 .Tenv,.r 1 .S] 1 [.r 0 .B] λx=>Fz n x.1 x.2
def KA(n:Nat):Ent:=E0 189 2 [.r 0 .S,.r 1 (.ptr 0 0),.w (.box [.Lcar,.Ldec])] 1 [.r 0 .B] λx=>Fh n x.1 x.2.1 x.2.2
def Cq(n:Nat):Ent:=E0 192 2 [.r 0 .Ls,.r 1 (.func 189 [.ptr 0 0]),.w (.box [.Lcar,.Ldec])] 1 [.r 0 .I] λx=>E8 n x.1 x.2.1 x.2.2
def yR(n:Nat):Ent:=E0 114 2 [.r 0 .Ls,.r 1 (.func 189 [.ptr 0 0]),.w (.box [.Lcar,.Ldec])] 1 [.r 0 .B] λx=>Bb n x.1 x.2.1 x.2.2
def OH(n:Nat):Ent:=E0 110 2 [.r 0 .Tenv,.r 1 .Tty] 1 [.r 0 .B] λx=>Ct n x.1 x.2
def OL(n:Nat):Ent:=E0 112 1 [.r 0 .Tenv] 1 [.r 0 (.own 0),.w (.own .s)] λx=>Co n x
def O9(n:Nat):Ent:=E0 111 1 [.r 0 .Ls] 1 [.r 0 .B] λx=>Cm n x
def Pd(n:Nat):Ent:=E0 53 1 [.r 0 .Tenv] 1 [.r 0 .B] λx=>rY n x
def Td(n:Nat):Ent:=E0 54 2 [.r 0 .Tenv,.r 1 .Li] 1 [.r 0 .B] λx=>Bh n x.1 x.2
def VZ(n:Nat):Ent:=E0 197 2 [.r 0 .Tcar,.r 1 (.ptr 0 0),.w (.box [.S])] 1 [.r 0 .B] λx=>ar9 n x.1 x.2
def xV(n:Nat):Ent:=E0 196 2 [.r 0 .Lcar,.r 1 (.func 197 [.ptr 0 0]),.w (.box [.S])] 1 [.r 0 .I] λx=>zN n x.1 x.2
def abS(n:Nat):Ent:=E0 117 2 [.r 0 .Tenv,.r 1 .S] 1 [.r 0 .I] λx=>Pz n x.1 x.2
def Ua(n:Nat):Ent:=E0 96 1 [.r 0 .I] 1 [.r 0 .B] λx=>cmp_isNaN_int n x
def OT(n:Nat):Ent:=E0 46 2 [.r 0 .I,.r 1 .I] 1 [.r 0 .I] λx=>cmp_Compare_int n x.1 x.2
def acD(n:Nat):Ent:=E0 45 1 [.r 0 .Li] 1 [.r 0 .I] λx=>Yp n x
def sJ(n:Nat):Ent:=E0 48 3 [.r 0 .Lval,.r 1 .Lval,.r 2 (.func 19 [])] 1 [.r 0 .I] λx=>lV n x.1 x.2
def KZ(n:Nat):Ent:=E0 19 2 [.r 0 .Tval,.r 1 .Tval] 1 [.r 0 .I] λx=>dY n x.1 x.2
def Zu(n:Nat):Ent:=E0 56 4 [.r 0 .Tenv,.r 1 .Li,.r 2 .Tval,.r 3 .Tty] 1 [.r 0 .B] λx=>kN n x.1 x.2.1 x.2.2.1 x.2.2.2
def Rl(n:Nat):Ent:=E0 118 4 [.r 0 .Lty,.r 1 (.ptr 0 0),.r 2 (.ptr 1 0),.r 3 (.ptr 2 0),.w (.box [.I,.I,.S,.Lval]),.w (.box [.Lcar,.Ldec]),.w (.box [.Li])] 1 [.r 0 .B] λx=>wF n x.1 x.2.1 x.2.2.1 x.2.2.2.1 x.2.2.2.2.1 x.2.2.2.2.2.1 x.2.2.2.2.2.2.1 x.2.2.2.2.2.2.2
def O7(n:Nat):Ent:=E0 31 1 [.r 0 (.agg [.Lcar,.Ldec,.Li,.Lval])] 1 [.r 0 .B] λx=>wP n (S_api_World.mk (Env.mk x.1 x.2.1) x.2.2.1 x.2.2.2)
def afp(n:Nat):Ent:=E0 205 1 [.r 0 .I] 2 [.r 0 .I,.r 1 .B] λx=>Te n x
def acT(n:Nat):Ent:=E0 206 1 [.r 0 .S] 1 [.r 0 .B] λx=>YA n x
def ZB(n:Nat):Ent:=E0 207 1 [.r 0 .I] 1 [.r 0 .B] λx=>FZ n x
def Ud(n:Nat):Ent:=E0 208 1 [.r 0 .Tty] 1 [.r 0 .B] λx=>Gc n x
def Zx(n:Nat):Ent:=E0 138 1 [.r 0 .Ttm] 1 [.r 0 .B] λx=>MP n x
def vN(n:Nat):Ent:=E0 209 2 [.r 0 .Ltm,.r 1 (.func 140 [.ptr 0 0,.ptr 2 0]),.w (.box [.ptr 1 0]),.w (.box [.I,.I,.I]),.w (.box [.I])] 1 [.r 0 .I,.o 1 (.bx [(0,.lf (.n .i64))])] λx=>lD n x.1 x.2.1 x.2.2.1 x.2.2.2.1 x.2.2.2.2
def sK(n:Nat):Ent:=E0 139 2 [.r 0 .Ltm,.r 1 (.func 140 [.ptr 0 0,.ptr 2 0]),.w (.box [.ptr 1 0]),.w (.box [.I,.I,.I]),.w (.box [.I])] 1 [.r 0 .B,.o 1 (.bx [(0,.lf (.n .i64))])] λx=>iR n x.1 x.2.1 x.2.2.1 x.2.2.2.1 x.2.2.2.2
def BN(n:Nat):Ent:=E0 67 3 [.r 0 (.ptr 0 0),.r 1 .Ttm,.r 2 .I,.w (.box [.I,.I,.I])] 1 [.r 0 .B,.o 0 (.bx [(0,.lf (.n .i64))])] λx=>kM n x.2.2.1 x.2.2.2.1 x.2.2.2.2 x.1 x.2.1
def yN(n:Nat):Ent:=E0 140 3 [.r 0 .Ttm,.r 1 (.ptr 0 0),.r 2 (.ptr 2 0),.w (.box [.ptr 1 0]),.w (.box [.I,.I,.I]),.w (.box [.I])] 1 [.r 0 .B,.o 1 (.bx [(0,.lf (.n .i64))])] λx=>iU n x.1 x.2.1 x.2.2.1 x.2.2.2.1 x.2.2.2.2
def acF(n:Nat):Ent:=E0 32 1 [.r 0 .Ttm] 1 [.r 0 .B] λx=>J7 n x
def Wu(n:Nat):Ent:=E0 149 1 [.r 0 .Tty] 1 [.r 0 .Tty] λx=>arM n x
def XK(n:Nat):Ent:=E0 141 1 [.r 0 .Tenv] 1 [.r 0 (.mapr 0),.w (.mp .ty)] λx=>Kh n x
def Wq(n:Nat):Ent:=E0 211 0 [] 1 [.r 0 .Tty] λx=>ath n
def ZV(n:Nat):Ent:=E0 210 2 [.r 0 .I,.r 1 .Tty] 1 [.r 0 (.func 293 [.eptr [.I,.S,.Lty],.eptr [.I]])] λx=>(auk n x.1 x.2).bind λr=>some (x.2.kind,x.2.name,x.2.kids,x.1)
def Sl(n:Nat):Ent:=E0 212 0 [] 1 [.r 0 .Tty] λx=>ak9 n
def ab9(n:Nat):Ent:=E0 215 1 [.r 0 (.func 216 [])] 1 [.r 0 (.func 296 [.eptr [.func 216 []]])] λx=>awy n
def Kq(n:Nat):Ent:=E0 221 1 [.r 0 (.func 222 [])] 1 [.r 0 (.func 298 [.eptr [.func 222 []]])] λx=>aeA n
def VQ(n:Nat):Ent:=E0 223 1 [.r 0 (.func 224 [])] 1 [.r 0 (.func 299 [.eptr [.func 224 []]])] λx=>asU n
def OQ(n:Nat):Ent:=E0 225 1 [.r 0 .Tty] 1 [.r 0 (.func 300 [.eptr [.I,.S,.Lty]])] λx=>(aku n x).bind λr=>some (x.kind,x.name,x.kids)
def Z6(n:Nat):Ent:=E0 226 1 [.r 0 (.func 227 [])] 1 [.r 0 (.func 301 [.eptr [.func 227 []]])] λx=>atA n
def TL(n:Nat):Ent:=E0 226 1 [.r 0 (.func 228 [])] 1 [.r 0 (.func 301 [.eptr [.func 228 []]])] λx=>aoZ n
def aaf(n:Nat):Ent:=E0 230 1 [.r 0 (.func 227 [])] 1 [.r 0 (.func 302 [.eptr [.func 227 []]])] λx=>atH n
def Uf(n:Nat):Ent:=E0 230 1 [.r 0 (.func 228 [])] 1 [.r 0 (.func 302 [.eptr [.func 228 []]])] λx=>aoB n
def VP(n:Nat):Ent:=E0 215 1 [.r 0 (.func 217 [])] 1 [.r 0 (.func 296 [.eptr [.func 217 []]])] λx=>arF n
def II(n:Nat):Ent:=E0 221 1 [.r 0 (.func 234 [])] 1 [.r 0 (.func 298 [.eptr [.func 234 []]])] λx=>aa9 n
def Ir(n:Nat):Ent:=E0 221 1 [.r 0 (.func 235 [])] 1 [.r 0 (.func 298 [.eptr [.func 235 []]])] λx=>aaP n
def Rp(n:Nat):Ent:=E0 223 1 [.r 0 (.func 236 [])] 1 [.r 0 (.func 299 [.eptr [.func 236 []]])] λx=>akQ n
def Q0(n:Nat):Ent:=E0 223 1 [.r 0 (.func 237 [])] 1 [.r 0 (.func 299 [.eptr [.func 237 []]])] λx=>alj n
def Il(n:Nat):Ent:=E0 221 1 [.r 0 (.func 238 [])] 1 [.r 0 (.func 298 [.eptr [.func 238 []]])] λx=>aa6 n
def Ih(n:Nat):Ent:=E0 221 1 [.r 0 (.func 239 [])] 1 [.r 0 (.func 298 [.eptr [.func 239 []]])] λx=>aaT n
def Ii(n:Nat):Ent:=E0 221 1 [.r 0 (.func 240 [])] 1 [.r 0 (.func 298 [.eptr [.func 240 []]])] λx=>aa7 n
def IJ(n:Nat):Ent:=E0 221 1 [.r 0 (.func 241 [])] 1 [.r 0 (.func 298 [.eptr [.func 241 []]])] λx=>aaX n
def Ij(n:Nat):Ent:=E0 221 1 [.r 0 (.func 242 [])] 1 [.r 0 (.func 298 [.eptr [.func 242 []]])] λx=>aaE n
def aan(n:Nat):Ent:=E0 142 0 [] 1 [.r 0 (.agg (Ta []))] λx=>auf n
def Km(n:Nat):Ent:=⟨68,1,[.r 0 .Tenv],1,[.r 0 (.ptr 1 0),.w (.arr .i),.w (.box (.mapr 2:: .mapr 3::(Ta [.psl 0 1]))),.w (.mp .ty),.w (.mp .b)],((List (Str×Ty))×(List (Str×Bool))),none,none,λx=>FB n x,λr=>([],r.1,r.2)⟩
def TT(n:Nat):Ent:=E0 144 1 [.r 0 .I] 1 [.r 0 .B] λx=>Bg n x
def ND(n:Nat):Ent:=E0 145 1 [.r 0 .Tty] 2 [.r 0 .Tty,.r 1 .B] λx=>dx n x
def IQ(n:Nat):Ent:=E0 146 2 [.r 0 .Fd,.r 1 .S] 2 [.r 0 .Tty,.r 1 .B] λx=>vF n x.1 x.2
def CP(n:Nat):Ent:=E0 244 2 [.r 0 .S,.r 1 (.ptr 0 0),.w (.box [.ptr 1 0]),.w (.box (.mapr 2:: .mapr 3::(Ta [.psl 4 1]))),.w (.mp .ty),.w (.mp .b),.w (.arr .i)] 1 [.r 0 .B] λx=>qN n x.1 x.2.1 x.2.2.1 x.2.2.2
def yP(n:Nat):Ent:=E0 192 2 [.r 0 .Ls,.r 1 (.func 244 [.ptr 0 0]),.w (.box [.ptr 1 0]),.w (.box (.mapr 2:: .mapr 3::(Ta [.psl 4 1]))),.w (.mp .ty),.w (.mp .b),.w (.arr .i)] 1 [.r 0 .I] λx=>Bq n x.1 x.2.1 x.2.2.1 x.2.2.2
def vK(n:Nat):Ent:=E0 114 2 [.r 0 .Ls,.r 1 (.func 244 [.ptr 0 0]),.w (.box [.ptr 1 0]),.w (.box (.mapr 2:: .mapr 3::(Ta [.psl 4 1]))),.w (.mp .ty),.w (.mp .b),.w (.arr .i)] 1 [.r 0 .B] λx=>xW n x.1 x.2.1 x.2.2.1 x.2.2.2
def F3(n:Nat):Ent:=E0 147 2 [.r 0 (.ptr 0 0),.r 1 .Tty,.w (.box (.mapr 1:: .mapr 2::(Ta [.psl 3 1]))),.w (.mp .ty),.w (.mp .b),.w (.arr .i)] 1 [.r 0 .B] λx=>tO n x.2.1 x.2.2.1 x.2.2.2 x.1
def QZ(n:Nat):Ent:=E0 148 1 [.r 0 .Tty] 2 [.r 0 .Tty,.r 1 .I] λx=>uH n x
def Kr(n:Nat):Ent:=E0 300 2 [.r 0 .Lty,.r 1 (.eptr [.I,.S,.Lty])] 2 [.r 0 .Tty,.r 1 .B] λx=>aeQ n x.1 x.2.1 x.2.2.1 x.2.2.2
def O5(n:Nat):Ent:=E0 294 2 [.r 0 .Tty,.r 1 (.eptr [.I])] 1 [.r 0 .B] λx=>ah2 n x.1 x.2
def Ci(n:Nat):Ent:=E0 320 2 [.r 0 .Lty,.r 1 (.func 294 [.eptr [.I]])] 1 [.r 0 .I] λx=>E5 n x.1 x.2
def zk(n:Nat):Ent:=E0 270 2 [.r 0 .Lty,.r 1 (.func 294 [.eptr [.I]])] 1 [.r 0 .B] λx=>Bt n x.1 x.2
def Tt(n:Nat):Ent:=E0 293 3 [.r 0 .Lty,.r 1 (.eptr [.I,.S,.Lty]),.r 2 (.eptr [.I])] 2 [.r 0 .Tty,.r 1 .B] λx=>aZ n x.1 x.2.1 x.2.2.1 x.2.2.2.1 x.2.2.2.2
def UL(n:Nat):Ent:=E0 227 1 [.r 0 .Tty] 1 [.r 0 .Tty] λx=>ao0 n x
def O6(n:Nat):Ent:=E0 301 2 [.r 0 .Lty,.r 1 (.eptr [.func 227 []])] 2 [.r 0 .Tty,.r 1 .B] λx=>wZ n x
def vL(n:Nat):Ent:=E0 297 3 [.r 0 .Lty,.r 1 .Lty,.r 2 (.func 220 [])] 1 [.r 0 .B] λx=>rV n x.1 x.2
def K4(n:Nat):Ent:=E0 220 2 [.r 0 .Tty,.r 1 .Tty] 1 [.r 0 .B] λx=>jQ n x.1 x.2
def QG(n:Nat):Ent:=E0 295 2 [.r 0 .Tty,.r 1 (.ptr 0 0),.w (.box [.Lty])] 1 [.r 0 .B] λx=>DU n x.1 x.2
def Ch(n:Nat):Ent:=E0 320 2 [.r 0 .Lty,.r 1 (.func 295 [.ptr 0 0]),.w (.box [.Lty])] 1 [.r 0 .I] λx=>vR n x.1 x.2
def ze(n:Nat):Ent:=E0 270 2 [.r 0 .Lty,.r 1 (.func 295 [.ptr 0 0]),.w (.box [.Lty])] 1 [.r 0 .B] λx=>sQ n x.1 x.2
def Xb(n:Nat):Ent:=E0 214 1 [.r 0 .Lty] 1 [.r 0 .B] λx=>oW n x
def UK(n:Nat):Ent:=E0 213 1 [.r 0 .Lty] 2 [.r 0 .Tty,.r 1 .B] λx=>Bf n x
def TQ(n:Nat):Ent:=E0 229 1 [.r 0 .Lty] 2 [.r 0 .Tty,.r 1 .B] λx=>Bu n x
def OU(n:Nat):Ent:=E0 302 2 [.r 0 .Lty,.r 1 (.eptr [.func 227 []])] 2 [.r 0 .Tty,.r 1 .B] λx=>Ka n x
def UU(n:Nat):Ent:=E0 232 2 [.r 0 .Tty,.r 1 .Tty] 1 [.r 0 .Tty] λx=>aoV n x.1 x.2
def Ue(n:Nat):Ent:=E0 231 1 [.r 0 .Lty] 2 [.r 0 .Tty,.r 1 .B] λx=>Oj n x
def TY(n:Nat):Ent:=E0 233 1 [.r 0 .Lty] 2 [.r 0 .Tty,.r 1 .B] λx=>AX n x
def U0(n:Nat):Ent:=E0 228 1 [.r 0 .Tty] 1 [.r 0 .Tty] λx=>aoN n x
def OY(n:Nat):Ent:=E0 302 2 [.r 0 .Lty,.r 1 (.eptr [.func 228 []])] 2 [.r 0 .Tty,.r 1 .B] λx=>o7 n x
def O1(n:Nat):Ent:=E0 217 2 [.r 0 .Tty,.r 1 .Tty] 1 [.r 0 .Tty] λx=>aij n x.1 x.2
def Sy(n:Nat):Ent:=E0 296 2 [.r 0 .Lty,.r 1 (.eptr [.func 217 []])] 2 [.r 0 .Tty,.r 1 .B] λx=>Lc n x
def Wz(n:Nat):Ent:=E0 219 1 [.r 0 .Tty] 3 [.r 0 .Tty,.r 1 .Tty,.r 2 .B] λx=>jN n x
def S9(n:Nat):Ent:=E0 234 3 [.r 0 .Tty,.r 1 .Tty,.r 2 .Lty] 2 [.r 0 .Tty,.r 1 .B] λx=>Z9 n x.1 x.2.1 x.2.2
def EZ(n:Nat):Ent:=E0 298 2 [.r 0 .Lty,.r 1 (.eptr [.func 234 []])] 2 [.r 0 .Tty,.r 1 .B] λx=>yU n x
def UC(n:Nat):Ent:=E0 235 3 [.r 0 .Tty,.r 1 .Tty,.r 2 .Lty] 2 [.r 0 .Tty,.r 1 .B] λx=>ZL n x.1 x.2.1 x.2.2
def EM(n:Nat):Ent:=E0 298 2 [.r 0 .Lty,.r 1 (.eptr [.func 235 []])] 2 [.r 0 .Tty,.r 1 .B] λx=>y9 n x
def U2(n:Nat):Ent:=E0 218 1 [.r 0 .Lty] 2 [.r 0 .Tty,.r 1 .B] λx=>Bz n x
def SY(n:Nat):Ent:=E0 222 3 [.r 0 .Tty,.r 1 .Tty,.r 2 .Lty] 2 [.r 0 .Tty,.r 1 .B] λx=>ZN n x.1 x.2.1 x.2.2
def Fa(n:Nat):Ent:=E0 298 2 [.r 0 .Lty,.r 1 (.eptr [.func 222 []])] 2 [.r 0 .Tty,.r 1 .B] λx=>nR n x
def UM(n:Nat):Ent:=E0 216 2 [.r 0 .Tty,.r 1 .Tty] 1 [.r 0 .Tty] λx=>ao1 n x.1 x.2
def Sw(n:Nat):Ent:=E0 296 2 [.r 0 .Lty,.r 1 (.eptr [.func 216 []])] 2 [.r 0 .Tty,.r 1 .B] λx=>jL n x
def QA(n:Nat):Ent:=E0 236 1 [.r 0 .Tty] 2 [.r 0 .Tty,.r 1 .B] λx=>al2 n x
def Np(n:Nat):Ent:=E0 299 2 [.r 0 .Lty,.r 1 (.eptr [.func 236 []])] 2 [.r 0 .Tty,.r 1 .B] λx=>GN n x
def Q9(n:Nat):Ent:=E0 237 1 [.r 0 .Tty] 2 [.r 0 .Tty,.r 1 .B] λx=>al5 n x
def NH(n:Nat):Ent:=E0 299 2 [.r 0 .Lty,.r 1 (.eptr [.func 237 []])] 2 [.r 0 .Tty,.r 1 .B] λx=>G5 n x
def UD(n:Nat):Ent:=E0 224 1 [.r 0 .Tty] 2 [.r 0 .Tty,.r 1 .B] λx=>apc n x
def NU(n:Nat):Ent:=E0 299 2 [.r 0 .Lty,.r 1 (.eptr [.func 224 []])] 2 [.r 0 .Tty,.r 1 .B] λx=>vB n x
def RZ(n:Nat):Ent:=E0 238 3 [.r 0 .Tty,.r 1 .Tty,.r 2 .Lty] 2 [.r 0 .Tty,.r 1 .B] λx=>amb n x.1 x.2.1 x.2.2
def ES(n:Nat):Ent:=E0 298 2 [.r 0 .Lty,.r 1 (.eptr [.func 238 []])] 2 [.r 0 .Tty,.r 1 .B] λx=>zl n x
def QH(n:Nat):Ent:=E0 239 3 [.r 0 .Tty,.r 1 .Tty,.r 2 .Lty] 2 [.r 0 .Tty,.r 1 .B] λx=>al7 n x.1 x.2.1 x.2.2
def EO(n:Nat):Ent:=E0 298 2 [.r 0 .Lty,.r 1 (.eptr [.func 239 []])] 2 [.r 0 .Tty,.r 1 .B] λx=>yI n x
def RN(n:Nat):Ent:=E0 240 3 [.r 0 .Tty,.r 1 .Tty,.r 2 .Lty] 2 [.r 0 .Tty,.r 1 .B] λx=>ak3 n x.1 x.2.1 x.2.2
def ER(n:Nat):Ent:=E0 298 2 [.r 0 .Lty,.r 1 (.eptr [.func 240 []])] 2 [.r 0 .Tty,.r 1 .B] λx=>yS n x
def RV(n:Nat):Ent:=E0 241 3 [.r 0 .Tty,.r 1 .Tty,.r 2 .Lty] 2 [.r 0 .Tty,.r 1 .B] λx=>V4 n x.1 x.2.1 x.2.2
def EX(n:Nat):Ent:=E0 298 2 [.r 0 .Lty,.r 1 (.eptr [.func 241 []])] 2 [.r 0 .Tty,.r 1 .B] λx=>y5 n x
def RY(n:Nat):Ent:=E0 242 3 [.r 0 .Tty,.r 1 .Tty,.r 2 .Lty] 2 [.r 0 .Tty,.r 1 .B] λx=>V5 n x.1 x.2.1 x.2.2
def EP(n:Nat):Ent:=E0 298 2 [.r 0 .Lty,.r 1 (.eptr [.func 242 []])] 2 [.r 0 .Tty,.r 1 .B] λx=>yD n x
def Pe(n:Nat):Ent:=E0 301 2 [.r 0 .Lty,.r 1 (.eptr [.func 228 []])] 2 [.r 0 .Tty,.r 1 .B] λx=>JJ n x
def Ro(n:Nat):Ent:=E0 243 1 [.r 0 .Lty] 2 [.r 0 .Tty,.r 1 .B] λx=>L9 n x
def BO(n:Nat):Ent:=E0 69 3 [.r 0 (.ptr 0 0),.r 1 .Ttm,.r 2 .Fd,.w (.box (.mapr 1:: .mapr 2::(Ta [.psl 3 1]))),.w (.mp .ty),.w (.mp .b),.w (.arr .i)] 2 [.r 0 .Tty,.r 1 .I,.w (.arr .i),.o 0 (.bx [(59,.psl 4 1)]),.o 3 (.dead)] λx=>mP n x.2.2.1 x.2.2.2.1 x.2.2.2.2 x.1 x.2.1
def xq(n:Nat):Ent:=E0 143 4 [.r 0 (.ptr 0 0),.r 1 .Ttm,.r 2 .I,.r 3 .Fd,.w (.box (.mapr 1:: .mapr 2::(Ta [.psl 3 1]))),.w (.mp .ty),.w (.mp .b),.w (.arr .i)] 2 [.r 0 .Tty,.r 1 .I,.w (.arr .i),.o 0 (.bx [(59,.psl 4 1)]),.o 3 (.dead)] λx=>j6 n x.2.2.2.1 x.2.2.2.2.1 x.2.2.2.2.2 x.1 x.2.1 x.2.2.1
def OG(n:Nat):Ent:=E0 71 1 [.r 0 .Tty] 1 [.r 0 .Tty] λx=>su n x
def TU(n:Nat):Ent:=E0 33 2 [.r 0 .Tenv,.r 1 .Ttm] 3 [.r 0 .Tty,.r 1 .Li,.r 2 .I] λx=>A8 n x.1 x.2
def ZX(n:Nat):Ent:=⟨34,1,[.r 0 (.agg [.Lcar,.Ldec,.Li,.Lval])],1,[.r 0 (.ptr 1 0),.w (.arr .bnd),.w (.box [.Lcar,.Ldec,.Li,.mapr 2,.psl 0 5]),.w (.mp .val)],(A7×A4×A2×(List (Str×Val))×At),none,none,λx=>Mt n (S_api_World.mk (Env.mk x.1 x.2.1) x.2.2.1 x.2.2.2),λr=>(r.2.2.2.2,r.1,r.2.1,r.2.2.1,r.2.2.2.1)⟩
def adb(n:Nat):Ent:=E0 150 1 [.r 0 .B] 1 [.r 0 .Tval] λx=>bN n x
def Xv(n:Nat):Ent:=⟨151,1,[.r 0 .I],1,[.r 0 .Tval],Val,(some []),none,λx=>jK n x,λr=>r⟩
def af0(n:Nat):Ent:=E0 250 2 [.r 0 .Tval,.r 1 .Tval] 1 [.r 0 .Tval] λx=>ayA n x.1 x.2
def Ga(n:Nat):Ent:=E0 249 6 [.r 0 .Tval,.r 1 .Tval,.r 2 (.ptr 0 0),.r 3 (.ptr 1 0),.r 4 (.ptr 3 0),.r 5 (.ptr 4 0),.w (.box [.I,.S,.I,.I,.S,.Lty,.Ltm]),.w (.box [.psl 2 4]),.w (.arr .val),.w (.box [.B]),.w (.box [.B])] 0 [.w (.arr .val),.o 1 (.bx [(0,.psl 5 4)]),.o 2 (.dead),.o 3 (.bx [(0,.lf .b)]),.o 4 (.bx [(0,.lf .b)])] λx=>tQ n x.1 x.2.1 x.2.2.1 x.2.2.2.1 x.2.2.2.2.1 x.2.2.2.2.2.1 x.2.2.2.2.2.2.1 x.2.2.2.2.2.2.2.1 x.2.2.2.2.2.2.2.2.1 x.2.2.2.2.2.2.2.2.2.1 x.2.2.2.2.2.2.2.2.2.2.1 x.2.2.2.2.2.2.2.2.2.2.2
def ahW(n:Nat):Ent:=⟨157,1,[.r 0 .Lval],1,[.r 0 .Tval],Val,(some []),none,λx=>Ab n x,λr=>r⟩
def XG(n:Nat):Ent:=E0 251 1 [.r 0 .I] 1 [.r 0 .B] λx=>yV n x
def vI(n:Nat):Ent:=E0 304 3 [.r 0 .Lval,.r 1 .Tval,.r 2 (.func 19 [])] 2 [.r 0 .I,.r 1 .B] λx=>pX n x.1 x.2
def Tc(n:Nat):Ent:=E0 253 2 [.r 0 .Lval,.r 1 .Tval] 1 [.r 0 .B] λx=>gL n x.1 x.2
def Fb(n:Nat):Ent:=E0 252 2 [.r 0 .Tval,.r 1 (.eptr [.Lval])] 1 [.r 0 .B] λx=>jM n x.1 x.2
def Cr(n:Nat):Ent:=E0 255 2 [.r 0 .Tval,.r 1 (.eptr [.Lval])] 1 [.r 0 .B] λx=>vO n x.1 x.2
def aac(n:Nat):Ent:=E0 156 2 [.r 0 .Lval,.r 1 (.func 255 [.eptr [.Lval]])] 1 [.r 0 .Lval] λx=>afW n x.1 x.2
def EN(n:Nat):Ent:=E0 254 2 [.r 0 .Tval,.r 1 (.eptr [.Lval])] 1 [.r 0 .B] λx=>jP n x.1 x.2
def ZU(n:Nat):Ent:=E0 305 1 [.r 0 .Lval] 1 [.r 0 .Lval] λx=>BH n x
def WC(n:Nat):Ent:=E0 306 1 [.r 0 .Lval] 1 [.r 0 .Lval] λx=>rz n x
def Ut(n:Nat):Ent:=E0 257 4 [.r 0 .I,.r 1 .Lval,.r 2 .Lval,.r 3 .Lval] 1 [.r 0 .B] λx=>wu n x.1 x.2.1 x.2.2.1 x.2.2.2
def EW(n:Nat):Ent:=E0 256 4 [.r 0 .Tval,.r 1 (.eptr [.I,.S,.I,.I,.S,.Lty,.Ltm]),.r 2 (.eptr [.Lval]),.r 3 (.eptr [.Lval])] 1 [.r 0 .B] λx=>lF n x.1 x.2.1 x.2.2.1 x.2.2.2.1 x.2.2.2.2.1 x.2.2.2.2.2.1 x.2.2.2.2.2.2.1 x.2.2.2.2.2.2.2.1 x.2.2.2.2.2.2.2.2.1 x.2.2.2.2.2.2.2.2.2
def Uh(n:Nat):Ent:=E0 156 2 [.r 0 .Lval,.r 1 (.func 252 [.eptr [.Lval]])] 1 [.r 0 .Lval] λx=>Gf n x.1 x.2
def Uo(n:Nat):Ent:=E0 156 2 [.r 0 .Lval,.r 1 (.func 254 [.eptr [.Lval]])] 1 [.r 0 .Lval] λx=>Gq n x.1 x.2
def Tq(n:Nat):Ent:=E0 156 2 [.r 0 .Lval,.r 1 (.func 256 [.eptr [.I,.S,.I,.I,.S,.Lty,.Ltm],.eptr [.Lval],.eptr [.Lval]])] 1 [.r 0 .Lval] λx=>Gr n x.1 x.2.1 x.2.2.1 x.2.2.2.1 x.2.2.2.2.1 x.2.2.2.2.2.1 x.2.2.2.2.2.2.1 x.2.2.2.2.2.2.2.1 x.2.2.2.2.2.2.2.2.1 x.2.2.2.2.2.2.2.2.2
def WE(n:Nat):Ent:=E0 258 2 [.r 0 .Tval,.r 1 (.ptr 0 0),.w (.box [.I,.I,.S,.Lval])] 1 [.r 0 .B] λx=>Jj n x.1 x.2.1 x.2.2.1 x.2.2.2.1 x.2.2.2.2
def Ti(n:Nat):Ent:=E0 156 2 [.r 0 .Lval,.r 1 (.func 258 [.ptr 0 0]),.w (.box [.I,.I,.S,.Lval])] 1 [.r 0 .Lval] λx=>aaq n x.1 x.2.1 x.2.2.1 x.2.2.2.1 x.2.2.2.2
def O8(n:Nat):Ent:=⟨259,3,[.r 0 .I,.r 1 .I,.r 2 .I],1,[.r 0 .Tval],Val,(some []),none,λx=>JX n x.1 x.2.1 x.2.2,λr=>r⟩
def Ip(n:Nat):Ent:=E0 309 1 [.r 0 .Lvals] 1 [.r 0 .Lval] λx=>qg n x
def ZH(n:Nat):Ent:=E0 308 2 [.r 0 .Tval,.r 1 (.ptr 0 0),.w (.box [.Lval])] 1 [.r 0 .B] λx=>xH n x.1 x.2
def Uz(n:Nat):Ent:=E0 156 2 [.r 0 .Lval,.r 1 (.func 308 [.ptr 0 0]),.w (.box [.Lval])] 1 [.r 0 .Lval] λx=>Z8 n x.1 x.2
def Z0(n:Nat):Ent:=E0 310 2 [.r 0 .Tval,.r 1 (.ptr 0 0),.w (.box [.func 308 [.ptr 1 0]]),.w (.box [.Lval])] 1 [.r 0 .B] λx=>Ve n x.1 x.2
def Ub(n:Nat):Ent:=E0 156 2 [.r 0 .Lval,.r 1 (.func 310 [.ptr 0 0]),.w (.box [.func 308 [.ptr 1 0]]),.w (.box [.Lval])] 1 [.r 0 .Lval] λx=>aaB n x.1 x.2
def Z7(n:Nat):Ent:=E0 311 2 [.r 0 .Tval,.r 1 (.ptr 0 0),.w (.box [.Lval])] 1 [.r 0 .B] λx=>Md n x.1 x.2
def Tv(n:Nat):Ent:=E0 156 2 [.r 0 .Lval,.r 1 (.func 311 [.ptr 0 0]),.w (.box [.Lval])] 1 [.r 0 .Lval] λx=>aam n x.1 x.2
def ZO(n:Nat):Ent:=E0 307 2 [.r 0 .Tval,.r 1 (.ptr 0 0),.w (.box [.Lval])] 1 [.r 0 .B] λx=>Vu n x.1 x.2
def aat(n:Nat):Ent:=E0 312 2 [.r 0 .Tval,.r 1 (.ptr 0 0),.w (.box [.func 307 [.ptr 1 0]]),.w (.box [.Lval])] 1 [.r 0 .B] λx=>MI n x.1 x.2
def Uc(n:Nat):Ent:=E0 156 2 [.r 0 .Lval,.r 1 (.func 312 [.ptr 0 0]),.w (.box [.func 307 [.ptr 1 0]]),.w (.box [.Lval])] 1 [.r 0 .Lval] λx=>ZT n x.1 x.2
def ZM(n:Nat):Ent:=E0 313 2 [.r 0 .Tval,.r 1 (.ptr 0 0),.w (.box [.func 307 [.ptr 1 0]]),.w (.box [.Lval])] 1 [.r 0 .B] λx=>MG n x.1 x.2
def Uw(n:Nat):Ent:=E0 156 2 [.r 0 .Lval,.r 1 (.func 313 [.ptr 0 0]),.w (.box [.func 307 [.ptr 1 0]]),.w (.box [.Lval])] 1 [.r 0 .Lval] λx=>aal n x.1 x.2
def aau(n:Nat):Ent:=E0 314 2 [.r 0 .Tval,.r 1 (.ptr 0 0),.w (.box [.func 308 [.ptr 1 0]]),.w (.box [.Lval])] 1 [.r 0 .B] λx=>Mv n x.1 x.2
def Sc(n:Nat):Ent:=E0 156 2 [.r 0 .Lval,.r 1 (.func 314 [.ptr 0 0]),.w (.box [.func 308 [.ptr 1 0]]),.w (.box [.Lval])] 1 [.r 0 .Lval] λx=>XF n x.1 x.2
def ZQ(n:Nat):Ent:=E0 315 2 [.r 0 .Tval,.r 1 (.ptr 0 0),.w (.box [.func 308 [.ptr 1 0]]),.w (.box [.Lval])] 1 [.r 0 .B] λx=>Mg n x.1 x.2
def RD(n:Nat):Ent:=E0 156 2 [.r 0 .Lval,.r 1 (.func 315 [.ptr 0 0]),.w (.box [.func 308 [.ptr 1 0]]),.w (.box [.Lval])] 1 [.r 0 .Lval] λx=>WQ n x.1 x.2
def Xw(n:Nat):Ent:=E0 316 1 [.r 0 .Lval] 1 [.r 0 .Lvals] λx=>Jh n x
def ZW(n:Nat):Ent:=E0 317 2 [.r 0 .Tval,.r 1 (.ptr 0 0),.w (.box [.func 308 [.ptr 1 0]]),.w (.box [.Lval])] 1 [.r 0 .B] λx=>Mj n x.1 x.2
def QW(n:Nat):Ent:=E0 156 2 [.r 0 .Lval,.r 1 (.func 317 [.ptr 0 0]),.w (.box [.func 308 [.ptr 1 0]]),.w (.box [.Lval])] 1 [.r 0 .Lval] λx=>VL n x.1 x.2
def afK(n:Nat):Ent:=E0 337 3 [.r 0 .I,.r 1 .I,.r 2 .I] 1 [.r 0 .B] λx=>Nf n x.1 x.2.1 x.2.2
def Ww(n:Nat):Ent:=E0 336 3 [.r 0 .I,.r 1 .I,.r 2 .I] 1 [.r 0 .B] λx=>Di n x.1 x.2.1 x.2.2
def M0(n:Nat):Ent:=E0 338 7 [.r 0 .I,.r 1 .Lval,.r 2 (.ptr 0 0),.r 3 (.ptr 1 0),.r 4 (.ptr 2 0),.r 5 (.ptr 3 0),.r 6 (.ptr 5 0),.w (.box [.Lval]),.w (.box [.I]),.w (.box [.Lval]),.w (.box [.psl 4 4]),.w (.arr .val),.w (.box [.func 338 [.ptr 0 0,.ptr 1 0,.ptr 2 0,.ptr 3 0,.ptr 5 0]])] 0 [.w (.arr .val),.o 3 (.bx [(0,.psl 6 4)]),.o 4 (.dead)] λx=>iP n x.1 x.2.1 x.2.2.1 x.2.2.2.1 x.2.2.2.2.1 x.2.2.2.2.2
def Sg(n:Nat):Ent:=⟨318,3,[.r 0 .I,.r 1 .Lval,.r 2 .Lval],1,[.r 0 .Lval],Af,(some []),none,λx=>D9 n x.1 x.2.1 x.2.2,λr=>r⟩
def ae4(n:Nat):Ent:=⟨260,3,[.r 0 .I,.r 1 .Tval,.r 2 .Tval],1,[.r 0 .Tval],Val,(some []),none,λx=>Tw n x.1 x.2.1 x.2.2,λr=>r⟩
def acP(n:Nat):Ent:=⟨158,3,[.r 0 .I,.r 1 .Tval,.r 2 .Tval],1,[.r 0 .Tval],Val,(some []),none,λx=>oz n x.1 x.2.1 x.2.2,λr=>r⟩
def uQ(n:Nat):Ent:=⟨155,2,[.r 0 (.ptr 0 0),.r 1 .Ttm,.w (.box [.Lcar,.Ldec,.Li,.mapr 1,.psl 2 5]),.w (.mp .val),.w (.arr .bnd)],1,[.r 0 (.func 256 [.eptr [.I,.S,.I,.I,.S,.Lty,.Ltm],.eptr [.Lval],.eptr [.Lval]]),.w (.arr .bnd),.o 0 (.bx [(4,.psl 3 5)]),.o 2 (.dead)],(Int×Str×Int×Int×Str×A3×Bi×Af×Af×At),(some [.w (.arr .bnd),.o 0 (.bx [(4,.psl 3 5)]),.o 2 .dead]),none,λx=>bJ n x.2.1 x.2.2.1 x.2.2.2.1 x.2.2.2.2.1 x.2.2.2.2.2 x.1,λr=>r⟩
def uX(n:Nat):Ent:=⟨155,2,[.r 0 (.ptr 0 0),.r 1 .Ttm,.w (.box [.Lcar,.Ldec,.Li,.mapr 1,.psl 2 5]),.w (.mp .val),.w (.arr .bnd)],1,[.r 0 (.func 254 [.eptr [.Lval]]),.w (.arr .bnd),.o 0 (.bx [(4,.psl 3 5)]),.o 2 (.dead)],(Af×At),(some [.w (.arr .bnd),.o 0 (.bx [(4,.psl 3 5)]),.o 2 .dead]),(some λx=>x.1.op==46),λx=>bK n x.2.1 x.2.2.1 x.2.2.2.1 x.2.2.2.2.1 x.2.2.2.2.2 x.1,λr=>r⟩
def vg(n:Nat):Ent:=⟨155,2,[.r 0 (.ptr 0 0),.r 1 .Ttm,.w (.box [.Lcar,.Ldec,.Li,.mapr 1,.psl 2 5]),.w (.mp .val),.w (.arr .bnd)],1,[.r 0 (.func 252 [.eptr [.Lval]]),.w (.arr .bnd),.o 0 (.bx [(4,.psl 3 5)]),.o 2 (.dead)],(Af×At),(some [.w (.arr .bnd),.o 0 (.bx [(4,.psl 3 5)]),.o 2 .dead]),(some λx=>(decide (x.1.op<41) ||decide (46<x.1.op))),λx=>bI n x.2.1 x.2.2.1 x.2.2.2.1 x.2.2.2.2.1 x.2.2.2.2.2 x.1,λr=>r⟩
def DL(n:Nat):Ent:=⟨248,3,[.r 0 (.ptr 0 0),.r 1 .Ttm,.r 2 (.func 249 [.ptr 3 0,.ptr 4 0,.ptr 6 0,.ptr 7 0]),.w (.box [.Lcar,.Ldec,.Li,.mapr 1,.psl 2 5]),.w (.mp .val),.w (.arr .bnd),.w (.box [.I,.S,.I,.I,.S,.Lty,.Ltm]),.w (.box [.psl 5 4]),.w (.arr .val),.w (.box [.B]),.w (.box [.B])],0,[.w (.arr .bnd),.w (.arr .val),.o 0 (.bx [(4,.psl 8 5)]),.o 2 (.dead),.o 4 (.bx [(0,.psl 9 4)]),.o 5 (.dead),.o 6 (.bx [(0,.lf .b)]),.o 7 (.bx [(0,.lf .b)])],(At×Af×Bool×Bool),(some [.w (.arr .bnd),.w (.arr .val),.o 0 (.bx [(4,.psl 8 5)]),.o 4 (.bx [(0,.psl 9 4)]),.o 2 .dead,.o 5 .dead,.o 6 .dead,.o 7 .dead]),none,λx=>dw n x.2.1 x.2.2.1 x.2.2.2.1 x.2.2.2.2.1 x.2.2.2.2.2.1 x.1 x.2.2.2.2.2.2.1 x.2.2.2.2.2.2.2.1 x.2.2.2.2.2.2.2.2.1 x.2.2.2.2.2.2.2.2.2.1 x.2.2.2.2.2.2.2.2.2.2.1 x.2.2.2.2.2.2.2.2.2.2.2.1 x.2.2.2.2.2.2.2.2.2.2.2.2.1 x.2.2.2.2.2.2.2.2.2.2.2.2.2.1 x.2.2.2.2.2.2.2.2.2.2.2.2.2.2.1 x.2.2.2.2.2.2.2.2.2.2.2.2.2.2.2,λr=>r⟩
def Ac(n:Nat):Ent:=⟨154,2,[.r 0 (.ptr 0 0),.r 1 .Ttm,.w (.box [.Lcar,.Ldec,.Li,.mapr 1,.psl 2 5]),.w (.mp .val),.w (.arr .bnd)],1,[.r 0 .Tval,.w (.arr .bnd),.o 0 (.bx [(4,.psl 3 5)]),.o 2 (.dead)],(Val×At),(some [.w (.arr .bnd),.o 0 (.bx [(4,.psl 3 5)]),.o 2 .dead]),none,λx=>dJ n x.2.1 x.2.2.1 x.2.2.2.1 x.2.2.2.2.1 x.2.2.2.2.2 x.1,λr=>r⟩
def nP(n:Nat):Ent:=⟨73,2,[.r 0 (.ptr 0 0),.r 1 .Ttm,.w (.box [.Lcar,.Ldec,.Li,.mapr 1,.psl 2 5]),.w (.mp .val),.w (.arr .bnd)],1,[.r 0 .Tval,.w (.arr .bnd),.o 0 (.bx [(4,.psl 3 5)]),.o 2 (.dead)],(Val×At),(some [.w (.arr .bnd),.o 0 (.bx [(4,.psl 3 5)]),.o 2 .dead]),none,λx=>aM n x.2.1 x.2.2.1 x.2.2.2.1 x.2.2.2.2.1 x.2.2.2.2.2 x.1,λr=>r⟩
def xD(n:Nat):Ent:=⟨153,2,[.r 0 (.ptr 0 0),.r 1 .Ttm,.w (.box [.Lcar,.Ldec,.Li,.mapr 1,.psl 2 5]),.w (.mp .val),.w (.arr .bnd)],1,[.r 0 .Tval,.w (.arr .bnd),.o 0 (.bx [(4,.psl 3 5)]),.o 2 (.dead)],(Val×At),(some [.w (.arr .bnd),.o 0 (.bx [(4,.psl 3 5)]),.o 2 .dead]),none,λx=>dD n x.2.1 x.2.2.1 x.2.2.2.1 x.2.2.2.2.1 x.2.2.2.2.2 x.1,λr=>r⟩
def jH(n:Nat):Ent:=E0 35 2 [.r 0 (.ptr 0 0),.r 1 .Ttm,.w (.box [.Lcar,.Ldec,.Li,.mapr 1,.psl 2 5]),.w (.mp .val),.w (.arr .bnd)] 2 [.r 0 .Tval,.r 1 .I,.w (.arr .bnd),.o 0 (.bx [(4,.psl 3 5)]),.o 2 (.dead)] λx=>rW n x.2.1 x.2.2.1 x.2.2.2.1 x.2.2.2.2.1 x.2.2.2.2.2 x.1
def aas(n:Nat):Ent:=E0 36 1 [.r 0 .Tval] 1 [.r 0 .Tval] λx=>uE n x
def afZ(n:Nat):Ent:=E0 12 2 [.r 0 (.agg [.Lcar,.Ldec,.Li,.Lval]),.r 1 .Ttm] 2 [.r 0 .Tval,.r 1 .I] λx=>mU n (S_api_World.mk (Env.mk x.1 x.2.1) x.2.2.1 x.2.2.2.1) x.2.2.2.2
def WJ(n:Nat):Ent:=E0 101 1 [.r 0 .Tty] 1 [.r 0 .B] λx=>uV n x
def ZA(n:Nat):Ent:=E0 120 1 [.r 0 .Tty] 1 [.r 0 .Ls] λx=>BI n x
def QX(n:Nat):Ent:=E0 121 2 [.r 0 .Tenv,.r 1 .S] 1 [.r 0 .I] λx=>nT n x.1 x.2
def aie(n:Nat):Ent:=E0 58 2 [.r 0 .Tenv,.r 1 .Tty] 1 [.r 0 .B] λx=>K5 n x.1 x.2
def aai(n:Nat):Ent:=E0 102 1 [.r 0 .Tenv] 1 [.r 0 (.own 0),.w (.own .s)] λx=>ME n x
def aaz(n:Nat):Ent:=E0 50 1 [.r 0 .Tenv] 1 [.r 0 .B] λx=>BG n x
def anh(n:Nat):Ent:=E0 59 2 [.r 0 .Tenv,.r 1 .Li] 1 [.r 0 .B] λx=>VG n x.1 x.2
def an2(n:Nat):Ent:=E0 198 2 [.r 0 .I,.r 1 .I] 1 [.r 0 .I] λx=>LM n x.1 x.2
def ac6(n:Nat):Ent:=E0 122 2 [.r 0 .Tval,.r 1 .Tval] 1 [.r 0 .I] λx=>nI n x.1 x.2
def aqN(n:Nat):Ent:=E0 60 4 [.r 0 .Tenv,.r 1 .Li,.r 2 .Tval,.r 3 .Tty] 1 [.r 0 .B] λx=>wU n x.1 x.2.1 x.2.2.1 x.2.2.2
def Uj(n:Nat):Ent:=E0 37 1 [.r 0 (.agg [.Lcar,.Ldec,.Li,.Lval])] 1 [.r 0 .B] λx=>AO n (S_api_World.mk (Env.mk x.1 x.2.1) x.2.2.1 x.2.2.2)
def ZE(n:Nat):Ent:=E0 159 2 [.r 0 .Tenv,.r 1 .S] 1 [.r 0 .I] λx=>FU n x.1 x.2
def abR(n:Nat):Ent:=E0 178 1 [.r 0 .S] 1 [.r 0 .Tty] λx=>awu n x
def aq9(n:Nat):Ent:=E0 177 1 [.r 0 .Tty] 1 [.r 0 .Tty] λx=>aGX n x
def QB(n:Nat):Ent:=E0 161 2 [.r 0 .Tenv,.r 1 .S] 2 [.r 0 .I,.r 1 .I] λx=>uJ n x.1 x.2
def ada(n:Nat):Ent:=E0 104 3 [.r 0 .Tenv,.r 1 .Ldec,.r 2 .S] 2 [.r 0 .Tty,.r 1 .B] λx=>Jc n x.1 x.2.1 x.2.2
def ai3(n:Nat):Ent:=E0 105 1 [.r 0 .Tty] 1 [.r 0 .B] λx=>nM n x
def arS(n:Nat):Ent:=E0 28 0 [] 1 [.r 0 .Tty] λx=>aG8 n
def aah(n:Nat):Ent:=E0 181 2 [.r 0 .Tty,.r 1 .Tty] 1 [.r 0 .B] λx=>fA n x.1 x.2
def aro(n:Nat):Ent:=E0 179 2 [.r 0 .Lty,.r 1 .Tty] 1 [.r 0 .B] λx=>Oc n x.1 x.2
def anm(n:Nat):Ent:=E0 180 2 [.r 0 .Tty,.r 1 .Tty] 1 [.r 0 .Tty] λx=>aEY n x.1 x.2
def an3(n:Nat):Ent:=E0 264 0 [] 1 [.r 0 .Tty] λx=>aEf n
def ai9(n:Nat):Ent:=E0 182 2 [.r 0 .I,.r 1 .Lty] 2 [.r 0 .Tty,.r 1 .B] λx=>asl n x.1 x.2
def ajI(n:Nat):Ent:=E0 265 1 [.r 0 .Tty] 1 [.r 0 .B] λx=>QI n x
def afm(n:Nat):Ent:=E0 266 1 [.r 0 .Tty] 1 [.r 0 .Tty] λx=>zJ n x
def aj1(n:Nat):Ent:=E0 267 1 [.r 0 .Tty] 1 [.r 0 .Tty] λx=>DK n x
def aak(n:Nat):Ent:=E0 183 2 [.r 0 .I,.r 1 .Lty] 2 [.r 0 .Tty,.r 1 .B] λx=>afS n x.1 x.2
def aq1(n:Nat):Ent:=E0 106 2 [.r 0 .Ttm,.r 1 .Lty] 2 [.r 0 .Tty,.r 1 .B] λx=>tJ n x.1 x.2
def afl(n:Nat):Ent:=E0 51 3 [.r 0 .Tenv,.r 1 .Ldec,.r 2 .Ttm] 3 [.r 0 .Tty,.r 1 .Li,.r 2 .I] λx=>CF n x.1 x.2.1 x.2.2
def Z5(n:Nat):Ent:=E0 52 1 [.r 0 .Tty] 1 [.r 0 .Tty] λx=>xR n x
def afz(n:Nat):Ent:=E0 23 2 [.r 0 .Tenv,.r 1 .Ttm] 3 [.r 0 .Tty,.r 1 .Li,.r 2 .I] λx=>Dv n x.1 x.2
def aiN(n:Nat):Ent:=E0 76 1 [.r 0 .B] 1 [.r 0 .Tval] λx=>iQ n x
def afM(n:Nat):Ent:=E0 29 1 [.r 0 .I] 1 [.r 0 .Tval] λx=>ayr n x
def an0(n:Nat):Ent:=E0 160 2 [.r 0 .S,.r 1 .I] 1 [.r 0 .Tval] λx=>aEk n x.1 x.2
def ahX(n:Nat):Ent:=E0 261 2 [.r 0 .Lval,.r 1 .Lval] 1 [.r 0 .Lval] λx=>agh n x.1 x.2
def afd(n:Nat):Ent:=E0 162 1 [.r 0 .Lval] 1 [.r 0 .Lval] λx=>Nc n x
def aq7(n:Nat):Ent:=E0 78 1 [.r 0 .Lval] 1 [.r 0 .Tval] λx=>iZ n x
def anW(n:Nat):Ent:=E0 77 3 [.r 0 (.agg [.Lcar,.Ldec,.Li,.Lval]),.r 1 .Lbnd,.r 2 .S] 1 [.r 0 .Tval] λx=>ad4 n (S_api_World.mk (Env.mk x.1 x.2.1) x.2.2.1 x.2.2.2.1) x.2.2.2.2.1 x.2.2.2.2.2
def anz(n:Nat):Ent:=E0 83 2 [.r 0 .Tval,.r 1 .Tval] 1 [.r 0 .Tval] λx=>aFN n x.1 x.2
def aaA(n:Nat):Ent:=E0 163 1 [.r 0 .I] 1 [.r 0 .B] λx=>FY n x
def Kg(n:Nat):Ent:=E0 42 2 [.r 0 .Lval,.r 1 .Lval] 1 [.r 0 .B] λx=>vY n x.1 x.2
def LG(n:Nat):Ent:=E0 16 2 [.r 0 .Tval,.r 1 .Tval] 1 [.r 0 .B] λx=>dB n x.1 x.2
def afY(n:Nat):Ent:=E0 165 2 [.r 0 .Tval,.r 1 .Tval] 1 [.r 0 .B] λx=>ru n x.1 x.2
def arV(n:Nat):Ent:=E0 262 2 [.r 0 .Tval,.r 1 .Tval] 1 [.r 0 .B] λx=>kW n x.1 x.2
def afb(n:Nat):Ent:=E0 171 2 [.r 0 .Tval,.r 1 .I] 1 [.r 0 .Tval] λx=>rE n x.1 x.2
def afV(n:Nat):Ent:=E0 263 2 [.r 0 .Tval,.r 1 .I] 1 [.r 0 .B] λx=>nW n x.1 x.2
def ads(n:Nat):Ent:=E0 164 3 [.r 0 .I,.r 1 .Tval,.r 2 .Lval] 1 [.r 0 .B] λx=>Es n x.1 x.2.1 x.2.2
def ach(n:Nat):Ent:=E0 84 1 [.r 0 .Lval] 2 [.r 0 .Tval,.r 1 .I] λx=>qM n x
def adz(n:Nat):Ent:=E0 166 1 [.r 0 .Lval] 1 [.r 0 .Lvals] λx=>Eo n x
def afi(n:Nat):Ent:=E0 167 3 [.r 0 .I,.r 1 .I,.r 2 .I] 1 [.r 0 .I] λx=>IK n x.1 x.2.1 x.2.2
def abo(n:Nat):Ent:=E0 168 2 [.r 0 .Lval,.r 1 .Lval] 1 [.r 0 .Lval] λx=>Am n x.1 x.2
def anu(n:Nat):Ent:=E0 169 3 [.r 0 .I,.r 1 .Lval,.r 2 .Lval] 1 [.r 0 .Lvals] λx=>XE n x.1 x.2.1 x.2.2
def ae9(n:Nat):Ent:=E0 85 2 [.r 0 .I,.r 1 .Lval] 2 [.r 0 .Tval,.r 1 .I] λx=>pK n x.1 x.2
def abV(n:Nat):Ent:=E0 170 1 [.r 0 .I] 2 [.r 0 .Tval,.r 1 .I] λx=>j5 n x
def ah7(n:Nat):Ent:=E0 86 2 [.r 0 .I,.r 1 .Tval] 2 [.r 0 .Tval,.r 1 .I] λx=>Rq n x.1 x.2
def abz(n:Nat):Ent:=E0 87 3 [.r 0 .I,.r 1 .I,.r 2 .I] 2 [.r 0 .Tval,.r 1 .I] λx=>JF n x.1 x.2.1 x.2.2
def ani(n:Nat):Ent:=E0 172 4 [.r 0 .Tval,.r 1 .I,.r 2 .Tval,.r 3 .B] 1 [.r 0 .Tval] λx=>D8 n x.1 x.2.1 x.2.2.1 x.2.2.2
def Wm(n:Nat):Ent:=E0 88 3 [.r 0 .I,.r 1 .Tval,.r 2 .Tval] 2 [.r 0 .Tval,.r 1 .I] λx=>Dn n x.1 x.2.1 x.2.2
def Vg(n:Nat):Ent:=E0 82 3 [.r 0 (.agg [.Lcar,.Ldec,.Li,.Lval]),.r 1 .Lbnd,.r 2 .Ltm] 2 [.r 0 .Lval,.r 1 .I] λx=>kJ n (S_api_World.mk (Env.mk x.1 x.2.1) x.2.2.1 x.2.2.2.1) x.2.2.2.2.1 x.2.2.2.2.2
def Sd(n:Nat):Ent:=E0 81 3 [.r 0 (.agg [.Lcar,.Ldec,.Li,.Lval]),.r 1 .Lbnd,.r 2 .Ttm] 2 [.r 0 .Tval,.r 1 .I] λx=>gZ n (S_api_World.mk (Env.mk x.1 x.2.1) x.2.2.1 x.2.2.2.1) x.2.2.2.2.1 x.2.2.2.2.2
def JO(n:Nat):Ent:=E0 80 3 [.r 0 (.agg [.Lcar,.Ldec,.Li,.Lval]),.r 1 .Lbnd,.r 2 .Ttm] 2 [.r 0 .Tval,.r 1 .I] λx=>eF n (S_api_World.mk (Env.mk x.1 x.2.1) x.2.2.1 x.2.2.2.1) x.2.2.2.2.1 x.2.2.2.2.2
def abZ(n:Nat):Ent:=E0 38 3 [.r 0 (.agg [.Lcar,.Ldec,.Li,.Lval]),.r 1 .Lbnd,.r 2 .Ttm] 2 [.r 0 .Tval,.r 1 .I] λx=>jO n (S_api_World.mk (Env.mk x.1 x.2.1) x.2.2.1 x.2.2.2.1) x.2.2.2.2.1 x.2.2.2.2.2
def Vv(n:Nat):Ent:=E0 79 3 [.r 0 (.agg [.Lcar,.Ldec,.Li,.Lval]),.r 1 .Lbnd,.r 2 .Ttm] 2 [.r 0 .Tval,.r 1 .I] λx=>iG n (S_api_World.mk (Env.mk x.1 x.2.1) x.2.2.1 x.2.2.2.1) x.2.2.2.2.1 x.2.2.2.2.2
def abQ(n:Nat):Ent:=E0 39 1 [.r 0 .Tval] 1 [.r 0 .Tval] λx=>BJ n x
def VA(n:Nat):Ent:=E0 89 1 [.r 0 .Lval] 1 [.r 0 .Lval] λx=>H8 n x
def anv(n:Nat):Ent:=E0 13 2 [.r 0 (.agg [.Lcar,.Ldec,.Li,.Lval]),.r 1 .Ttm] 2 [.r 0 .Tval,.r 1 .I] λx=>aei n (S_api_World.mk (Env.mk x.1 x.2.1) x.2.2.1 x.2.2.2.1) x.2.2.2.2
def NI(n:Nat):Ent:=E0 40 2 [.r 0 .Tenv,.r 1 .Ttm] 1 [.r 0 .I] λx=>Ao n x.1 x.2
def e_eval_interp_holds(n:Nat):Ent:=E0 41 2 [.r 0 (.ptr 0 0),.r 1 .Ttm,.w (.box [.Lcar,.Ldec,.Li,.mapr 1,.psl 2 5]),.w (.mp .val),.w (.arr .bnd)] 2 [.r 0 .B,.r 1 .I,.w (.arr .bnd),.o 0 (.bx [(4,.psl 3 5)]),.o 2 (.dead)] λx=>eval_interp_holds n x.2.1 x.2.2.1 x.2.2.2.1 x.2.2.2.2.1 x.2.2.2.2.2 x.1
def ac3(n:Nat):Ent:=E0 14 2 [.r 0 (.agg [.Lcar,.Ldec,.Li,.Lval]),.r 1 .Ttm] 2 [.r 0 .B,.r 1 .I] λx=>j4 n (S_api_World.mk (Env.mk x.1 x.2.1) x.2.2.1 x.2.2.2.1) x.2.2.2.2
def XC(n:Nat):Ent:=E0 18 2 [.r 0 .Tenv,.r 1 .Ttm] 1 [.r 0 .I] λx=>vD n x.1 x.2
def aiA(n:Nat):Ent:=E0 15 2 [.r 0 (.agg [.Lcar,.Ldec,.Li,.Lval]),.r 1 .Ttm] 2 [.r 0 .B,.r 1 .I] λx=>Zg n (S_api_World.mk (Env.mk x.1 x.2.1) x.2.2.1 x.2.2.2.1) x.2.2.2.2
def M8(n:Nat):Ent:=E0 3 2 [.r 0 (.agg [.Lcar,.Ldec,.Li,.Lval]),.r 1 .Ttm] 1 [.r 0 .B] λx=>R6 n (S_api_World.mk (Env.mk x.1 x.2.1) x.2.2.1 x.2.2.2.1) x.2.2.2.2
def aoi(n:Nat):Ent:=E0 126 1 [.r 0 .U] 1 [.r 0 .B] λx=>auF n x
def Vi(n:Nat):Ent:=E0 130 1 [.r 0 .S] 1 [.r 0 .I] λx=>anE n x
def anA(n:Nat):Ent:=E0 131 2 [.r 0 .S,.r 1 .I] 1 [.r 0 .S] λx=>avy n x.1 x.2
def ahm(n:Nat):Ent:=⟨63,2,[.r 0 .S,.r 1 .I],1,[.r 0 (.agg [.I,.S,.I])],S_refinementref01_token,none,none,λx=>aqn n x.1 x.2,λr=>(r.kind,r.s,r.at_)⟩
def Lg(n:Nat):Ent:=E0 66 1 [.r 0 (.ptr 0 0),.w (.box [.S,.I,.S,.I,.I,.I,.I])] 1 [.r 0 .B] λx=>asu n x.1 x.2.1 x.2.2.1 x.2.2.2.1 x.2.2.2.2.1 x.2.2.2.2.2.1 x.2.2.2.2.2.2
def KJ(n:Nat):Ent:=E0 132 2 [.r 0 (.ptr 0 0),.r 1 .S,.w (.box [.S,.I,.S,.I,.I,.I,.I])] 1 [.r 0 .B] λx=>acK n x.2.1 x.2.2.1 x.2.2.2.1 x.2.2.2.2.1 x.2.2.2.2.2.1 x.2.2.2.2.2.2.1 x.2.2.2.2.2.2.2 x.1
def Rt(n:Nat):Ent:=E0 201 3 [.r 0 (.ptr 0 0),.r 1 .I,.r 2 .I,.w (.box [.S,.I,.S,.I,.I,.I,.I])] 0 [.o 0 (.bx [(5,.lf (.n .i64)),(6,.lf (.n .i64))])] λx=>L8 n x.2.2.1 x.2.2.2.1 x.2.2.2.2.1 x.2.2.2.2.2.1 x.2.2.2.2.2.2.1 x.2.2.2.2.2.2.2.1 x.2.2.2.2.2.2.2.2 x.1 x.2.1
def GK(n:Nat):Ent:=E0 133 1 [.r 0 (.ptr 0 0),.w (.box [.S,.I,.S,.I,.I,.I,.I])] 0 [.o 0 (.bx [(1,.lf (.n .i64)),(2,.lf .s),(3,.lf (.n .i64)),(4,.lf (.n .i64)),(5,.lf (.n .i64)),(6,.lf (.n .i64))])] λx=>LY n x.1 x.2.1 x.2.2.1 x.2.2.2.1 x.2.2.2.2.1 x.2.2.2.2.2.1 x.2.2.2.2.2.2
def FE(n:Nat):Ent:=E0 136 1 [.r 0 (.ptr 0 0),.w (.box [.S,.I,.S,.I,.I,.I,.I])] 0 [.o 0 (.bx [(5,.lf (.n .i64)),(6,.lf (.n .i64))])] λx=>Ck n x.1 x.2.1 x.2.2.1 x.2.2.2.1 x.2.2.2.2.1 x.2.2.2.2.2.1 x.2.2.2.2.2.2
def GV(n:Nat):Ent:=E0 291 2 [.r 0 (.ptr 0 0),.r 1 .S,.w (.box [.S,.I,.S,.I,.I,.I,.I])] 0 [.o 0 (.bx [(1,.lf (.n .i64)),(2,.lf .s),(3,.lf (.n .i64)),(4,.lf (.n .i64)),(5,.lf (.n .i64)),(6,.lf (.n .i64))])] λx=>akU n x.2.1 x.2.2.1 x.2.2.2.1 x.2.2.2.2.1 x.2.2.2.2.2.1 x.2.2.2.2.2.2.1 x.2.2.2.2.2.2.2 x.1
def zS(n:Nat):Ent:=E0 329 1 [.r 0 (.ptr 0 0),.w (.box [.S,.I,.S,.I,.I,.I,.I])] 1 [.r 0 .B] λx=>ade n x.1 x.2.1 x.2.2.1 x.2.2.2.1 x.2.2.2.2.1 x.2.2.2.2.2.1 x.2.2.2.2.2.2
def ZR(n:Nat):Ent:=E0 331 1 [.r 0 .S] 1 [.r 0 .I] λx=>af5 n x
def WW(n:Nat):Ent:=E0 332 1 [.r 0 .S] 1 [.r 0 .I] λx=>abl n x
def anX(n:Nat):Ent:=E0 333 1 [.r 0 .S] 1 [.r 0 .I] λx=>auE n x
def afy(n:Nat):Ent:=E0 292 1 [.r 0 .S] 2 [.r 0 .I,.r 1 .I] λx=>amL n x
def AA(n:Nat):Ent:=E0 204 2 [.r 0 (.ptr 0 0),.r 1 .I,.w (.box [.S,.I,.S,.I,.I,.I,.I])] 1 [.r 0 .I] λx=>acE n x.2.1 x.2.2.1 x.2.2.2.1 x.2.2.2.2.1 x.2.2.2.2.2.1 x.2.2.2.2.2.2.1 x.2.2.2.2.2.2.2 x.1
def GZ(n:Nat):Ent:=E0 330 1 [.r 0 (.ptr 0 0),.w (.box [.S,.I,.S,.I,.I,.I,.I])] 1 [.r 0 .S,.o 0 (.bx [(1,.lf (.n .i64)),(2,.lf .s),(3,.lf (.n .i64)),(4,.lf (.n .i64)),(5,.lf (.n .i64)),(6,.lf (.n .i64))])] λx=>akR n x.1 x.2.1 x.2.2.1 x.2.2.2.1 x.2.2.2.2.1 x.2.2.2.2.2.1 x.2.2.2.2.2.2
def Vk(n:Nat):Ent:=E0 290 1 [.r 0 .S] 1 [.r 0 .I] λx=>aAG n x
def Je(n:Nat):Ent:=E0 65 1 [.r 0 (.ptr 0 0),.w (.box [.S,.I,.S,.I,.I,.I,.I])] 0 [.o 0 (.bx [(5,.lf (.n .i64)),(6,.lf (.n .i64))])] λx=>aoT n x.1 x.2.1 x.2.2.1 x.2.2.2.1 x.2.2.2.2.1 x.2.2.2.2.2.1 x.2.2.2.2.2.2
def mk(m:Nat)(hs:List (Nat×Hn)){E:B6}{fn:Func}{e:Ent}{inn:jI (bM e.rs)->Option e.R}(a:EOs Tryz.prog TE E)(f:Tryz.prog.funcs[e.f]? =some fn)(c:amg Tryz.prog fn e=true:=by kernel_rfl)(h:∀z y,inn z=some y->e.out y=z:=by exact sm)(q:∀x,amq τ θ m hs E TE fn e inn x=e.F x:=by intro _;kernel_rfl):ah Tryz.prog TE e:=mkE yJ Cs Cs a f c h q
def MKS m hs{E fn f n ps r s F}(a:EOs Tryz.prog TE E)(b:Tryz.prog.funcs[f]? =some fn)(c:amg Tryz.prog fn (E0 f n ps r s F)=true:=by kernel_rfl)(q:∀x,amq τ θ m hs E TE fn (E0 f n ps r s F) some x=F x:=by intro _;kernel_rfl):ah Tryz.prog TE (E0 f n ps r s F):=mk m hs (e:=E0 f n ps r s F) a b c (λ_ _ h=>by cases h;rfl) q
def Sim.NK{C:Ctx}{κ:aS}{s:ASt}{a:Act}{w:World}(h:Sim C κ s a w)(D:List Deferred):Sim {C with ds:=D} κ s {a with defers:=D} w:=
 {h with defers:=rfl}
def UN{fn:Func}{args:An}{H:A6}{κ:aS}{ak:bU}{w:World}{vs:List Value}(e:Entry κ ak H w)(v:vs.length=args.length)(r:∀j,j<args.length->Rel w κ (aH ak κ H) (args.getD j .unk) (vs.getD j undef)):
  Sim (bodyC κ ak H w []) κ ⟨args++List.replicate (fn.ntmps - args.length) (.tup []),H⟩ {tmps:=vs.toArray++Array.replicate (fn.ntmps - vs.toArray.size) undef,defers:=[]} w:=by
 refine⟨rfl,by simp[v],?_,e.klen,dL.refl _,e.resv,e.obj,e.apart,λl b d f g=>g.2 l d f,e.bound,λb o h=>⟨e.pvlt b o h,λl i=>e.pvdis b o l h i⟩,λb k=>k.1,λ_ _=>rfl,rfl,rfl,rfl,qAd _,λ_ _ h _=>h,Evo.refl _ _⟩
 intro n m
 by_cases t:n<args.length
 ·have a:(args++List.replicate (fn.ntmps - args.length) (AV.tup [])).getD n .unk=args.getD n .unk:=by simp[qAg t]
  have c:(vs.toArray++Array.replicate (fn.ntmps - vs.toArray.size) undef).getD n undef=vs.getD n undef:=by
   simp_all
  rw[a,c];exact r n t
 have a:(args++List.replicate (fn.ntmps - args.length) (AV.tup [])).getD n .unk=.tup []:=by
  grind
 have c:(vs.toArray++Array.replicate (fn.ntmps - vs.toArray.size) undef).getD n undef=undef:=by
  simp_all
 rw[a,c];exact lK
def Sim.entry{C:Ctx}{κ:aS}{s:ASt}{a:Act}{w:World}(h:Sim C κ s a w):Entry κ C.ak s.heap w where
 klen:=h.klen
 resv:=h.resv
 obj:=h.obj
 apart:=h.apart
 bound:=h.bound
 pvlt:=λb o p=>qAB (h.oldlt b (h.pvold b o p)) h.size
 pvdis:=λb o l p c v=>h.own l b c v (h.pvold b o p)
def Sim.through{C:Ctx}{κ κ':aS}{s:ASt}{a:Act}{w w':World}{H':A6}(h:Sim C κ s a w)(c:Leave κ κ' C.ak s.heap H' w w'):Sim C κ' ⟨s.tmps,H'⟩ a w' where
 defers:=h.defers
 len:=h.len
 slot:=λn i=>(h.slot n i).mono c.ny c.kext c.pvsub
 klen:=c.klen
 kext:=h.kext.trans c.kext
 resv:=c.resv
 obj:=c.obj
 apart:=c.apart
 own:=λl b j k g=>by
  rcases c.stay l b j k with d|⟨m,d,e⟩
  ·have:=h.oldlt b g;have:=h.size;omega
  exact h.own m b d e g
 bound:=c.bound
 pvold:=h.pvold
 oldlt:=h.oldlt
 old:=λb f=>(c.kept b (qAB (h.oldlt b f) h.size) λl d e=>h.own l b d e f).trans (h.old b f)
 os:=c.os.trans h.os
 tape:=c.tape.trans h.tape
 output:=c.output.trans h.output
 size:=qAs h.size c.ny.size
 pvsub:=λb o p t=>h.pvsub b o (c.pvsub b o p (qAB t h.size)) t
 ny:=h.ny.trans c.ny λx o p t=>h.pvsub x o p t
def YM{P:Program}{fn:Func}{H:A6}{T:As}{j:A0}{κ:aS}{ak:bU}{w:World}(q:Entry κ ak H w)(r:H.length<=j.length)(ds:List Deferred){s:ASt}{i:aS}{a:Act}{w':World}
  (G:BQ P fn.results.toList H.length T j s.tmps s.heap) (hs:Sim (bodyC κ ak H w ds) i s a w'):∃v,(results fn a.tmps).run P w'=.ok v w'/\∃F d,Ending.returned v=.returned F/\Leave κ d ak H (aB j) w w'/\Rel w' d (aH ak d (aB j)) (av j (res1 T)) F:=by
 have k:(bodyC κ ak H w ds).k0.length<=H.length:=qBm q.klen
 let⟨V,g,I,J,K,L⟩:=G
 let⟨m,p⟩:=J _ i a w' k hs
 let⟨f,M,u2,W⟩:=MS p _ _ K
 have t:Sim (bodyC κ ak H w ds) m ⟨I,g⟩ {tmps:=f.toArray,defers:=a.defers} w':={p with
  len:=by simp[M]
  slot:=λn y=>by have:=u2 n y;simpa[qAq,List.getD]using this}
 let⟨d,c⟩:=L _ m _ w' k t
 have e:Leave κ d ak H (aB j) w w':=by
  refine⟨c.klen,by simp only[aB,qAi];exact r,c.kext,c.resv,c.obj,?_,c.apart,c.bound,λb N z=>c.old b ⟨N,z⟩,c.ny,c.pvsub,c.os,c.tape,c.output⟩
  intro l b g O
  have A:=c.own l b g O
  by_cases B:b<w.heap.size
  ·right
   apply qAn
   intro C
   exact A ⟨B,λQ R D=>C ⟨Q,R,D⟩⟩
  grind
 have E:f.length=(aU j T).length:=by have:=c.len;simpa using this
 have o:∀n,n<(aU j T).length->Rel w' d (aH ak d (aB j)) ((aU j T).getD n .unk) (f.getD n undef):=λn y=>by
  have:Rel w' d (aH ak d (aB j)) ((aU j T).getD n .unk) (f.toArray.getD n undef):=c.slot n y
  simp_all
 have S:(fn.results.mapM (Vf a.tmps)).run P w'=.ok f.toArray w':=by
  rw[qCp]
  simp_all
 rw[PI]
 simp only[Sem.run_bind,S]
 by_cases g:f.length=1
 ·match f,g with
  |[u],_=>
   match T,E with
   |[x],_=>
    refine⟨u,by simp,u,d,rfl,e,?_⟩
    have:=o 0 (by simp[aU])
    simpa[aU,res1]using this
 refine⟨.tuple f.toArray,by simp[g],_,d,rfl,e,?_⟩
 have U:av j (res1 T)=.tup (aU j T):=by
  match T,E with
  |[],_=>rfl
  |[x],h=>exact(g (by simpa[aU]using h)).elim
  |_::_::_,_=>rfl
 rw[U]
 exact .tup E o
def nrm(m:Nat)(T:An)(H:A6):QT:=λe t h=>e=.normal/\Le m t h T H
theorem axN{P:Program}{te:Nat}{θ:Nat→B8}{E:B6}{m id:Nat}{l:List Oper}{s s':DS}{v:Int}{τ:Nat→TI}(hτ:τ=TI.of P)(hE:∀e∈E,ah P te e)(hi:Inv s)
  (h:Jk s.h 0 (fun n'=>XQ τ θ E (fun v s=>some (v,s)) l l n' [] {s with h:=s.h++y8 (zT l)} fun _ _=>none)=some (v,s')):
  AW P m (.region id l.toArray false) (fun e t h=>e=qd (Cz te v)∧t=aU s'.h s'.t∧h=aB s'.h) (aU s.h s.t) (aB s.h):=by
 subst hτ
 rw[Yj]at h
 have hres:iX {s with h:=s.h++y8 (zT l)}=(iX s).reserve (zT l):=by
  unfold iX ASt.reserve
  simp only[ali,agL]
 rcases ale hE l _ _ _ _ (show Inv {s with h:=s.h++y8 (zT l)}from⟨hi.up,hi.rl,hi.cp⟩) h with⟨es',res,s1,g1,g2,g3,g4,g5,g6⟩|⟨l1,op,l2,s1,s2,c,g0,g1,g2,g3,g4,g5,g6,g7⟩
 ·cases g2
 cases g4
 rw[hres]at g1
 subst g0
 intro C κ a w hk hs
 exact wp_region_lit (Qg g1 g2 g3 C _ a w (hs.reserve (zT (l1++op::l2))) fun κ' a' w' hs'=>⟨iX s',κ',⟨rfl,rfl,rfl⟩,hs'⟩)
def aDB{P:Program}{te:Nat}{θ:Nat->B8}{n:Nat}{hs:List (Nat×Hn)}{E:B6}{m:Nat}{h0:A0}{c:Code}{p:Nat}{s:DS}{τ:Nat->TI}{a:Type}{f:DS->a}{y:a}(b:τ=TI.of P)(q:∀e∈E,ah P te e)(d:uf P te=true)(i:P.follows .mixedOrders=true)(j:St m h0 s)
  (h:exe ⟨τ,θ,n,Unit,hs,m,te,λ_ _=>none⟩ E (λ_=>none) c a p s (λ_=>none) (λe s=>match e with| .normal=>some (f s)|_=>none)=some y):AW P m c (λe t h=>e=.normal/\∃s,f s=y/\Le m t h (aU s.h s.t) (aB s.h)) (aU s.h s.t) (aB s.h):=by
 subst b
 refine(WL (n:=n) (hs:=hs) (te:=te) (pn:=λ_ _=>none) (ret:=λ_=>none) (m:=m) (h0:=h0) q d i c _ p s _ _ y j h).mono λe t u r=>?_
 cases r with|ret k l g o=>cases g|qd k l g o=>cases g|@go _ v _ _ k l g o=>grind
def WM{P:Program}{te:Nat}{θ:Nat->B8}{n:Nat}{hs:List (Nat×Hn)}{E:B6}{m:Nat}{h0:A0}{c:Code}{p:Nat}{s:DS}{τ:Nat->TI}{T:As}{H:A0}(a:τ=TI.of P)(g:∀e∈E,ah P te e)(b:uf P te=true)(i:P.follows .mixedOrders=true)(d:St m h0 s)
  (h:exe ⟨τ,θ,n,Unit,hs,m,te,λ_ _=>none⟩ E (λ_=>none) c (As×A0) p s (λ_=>none) (λe s=>match e with| .normal=>some (s.t,s.h)|_=>none)=some (T,H)):AW P m c (nrm m (aU H T) (aB H)) (aU s.h s.t) (aB s.h):=
 (aDB (f:=λs=>(s.t,s.h)) a g b i d h).mono λe t h ⟨j,o,k,l⟩=>by
  cases k
  exact⟨j,l⟩
def wW{m:Nat}{t:As}{h:A0}(b:m<=h.length):St m h ⟨t,h,[],[],[],[],[],[]⟩:=
 ⟨⟨λi k c a=>(by cases a),λd i j a=>(by cases a),λd x a=>(by cases a)⟩,b,λl _ _=>.inl rfl⟩
def aFf{P:Program}{te:Nat}{θ:Nat->B8}{n:Nat}{hs:List (Nat×Hn)}{E:B6}{m:Nat}{h0:A0}{c:Code}{p:Nat}{s:DS}{rvs:List ResultVar}{R:Type}{T:As}{j:A0}{f:DS->Option R}{y:R}{τ:Nat->TI}(o:τ=TI.of P)(x:∀e∈E,ah P te e)(q:uf P te=true)(i:P.follows .mixedOrders=true)(r:St m h0 s)
  (h:exe ⟨τ,θ,n,R,hs,m,te,λ_ _=>none⟩ E f c R p s some (λe s=>match e with| .normal=>f s|_=>none)=some y) (u:∀s,St m h0 s->f s=some y->BQ P rvs m T j (aU s.h s.t) (aB s.h)):
  AW P m c (asq P rvs m T j) (aU s.h s.t) (aB s.h):=by
 subst o
 have d:∀{t v:An} {h w:A6},Le m t h v w->BQ P rvs m T j v w->BQ P rvs m T j t h:=λz ⟨A,B,C,D,F,G⟩=>⟨A,B,C,z.trans D,F,G⟩
 refine(WL (n:=n) (hs:=hs) (te:=te) (pn:=λ_ _=>none) (ret:=f) (m:=m) (h0:=h0) x q i c _ p s _ _ y r h).mono λe t I H=>?_
 cases H with|ret a b k g=>cases g;exact d a (u _ b k)|qd a b k g=>cases k|go a b k g=>cases e with|normal=>exact d a (u _ b g)|exit id=>cases g|goto l=>cases g|ret=>cases g|panic c=>cases g|outgrown=>cases g
section
variable {P:Program}{f d n:Nat}{r0 r1 r3:Code}{id:Nat}{o1 o2:Oper}{args:An}{H:A6}{T:As}{hJ:A0}{fn:Func}{capO:Array Operand}{TA TB:An}{HA HB:A6}
def ZF
  (hf:P.funcs[f]? =some fn) (hb:fn.body=some (r0.seq (r1.seq ((Code.region id #[o1,o2] false).seq r3)))) (hlen:args.length≤fn.ntmps)
  (h1:o1.op=.makeFunc (.func d) #[] capO) (g1:o1.guard=none) (d1:o1.dst=some n) (h2:o2.op=.defer {callee:=.value (.tmp n),args:=#[],argTypes:=#[]}) (g2:o2.guard=none) (d2:o2.dst=none) (h12:n<TB.length)
  (hr0:AW P H.length r0 (nrm H.length TA HA) (args++List.replicate (fn.ntmps - args.length) (.tup [])) H)
  (hr1:AW P H.length r1 (nrm H.length TB HB) TA HA)
  (hr3:∀(κ:aS) (ak:bU) (w:World),Entry κ ak H w→∀(κ2:aS) (a:Act) (w2:World),Sim (bodyC κ ak H w []) κ2 ⟨TB,HB⟩ a w2→
   ∀D,D=[({target:=.fn (.func d) (capO.map a.eval),args:=#[]}:Deferred)]→∀a',a'=({tmps:=a.tmps.setIfInBounds n (.func (.func d) #[] (capO.map a.eval)),defers:=D}:Act)→Sim (bodyC κ ak H w D) κ2 ⟨TB.set n .unk,HB⟩ a' w2→
   r3.wp P (bodyPostD P fn fun e w'=>∃v' κ',e=Ending.returned v'∧Leave κ κ' ak H (aB hJ) w w'∧Rel w' κ' (aH ak κ' (aB hJ)) (av hJ (res1 T)) v') a' w2):eH P f args H (av hJ (res1 T)) (aB hJ):=by
 intro κ ak w vs hen hvl hr
 refine calls_of_wp_defers hf hb ?_
 have hkl:(bodyC κ ak H w []).k0.length≤H.length:=qBm hen.klen
 have hsim:Sim (bodyC κ ak H w []) κ ⟨args++List.replicate (fn.ntmps - args.length) (.tup []),H⟩ {tmps:=vs.toArray++Array.replicate (fn.ntmps - vs.toArray.size) undef,defers:=[]} w:=UN hen hvl hr
 refine wp_seq (wp_mono (hr0 _ κ _ w hkl hsim) ?_)
 rintro e a w1 ⟨s,κ1,⟨rfl,hl⟩,hs1⟩
 let⟨κ1,hs1⟩:=hl _ κ1 _ _ hkl hs1
 refine wp_seq (wp_mono (hr1 _ κ1 _ w1 hkl hs1) ?_)
 rintro e a w2 ⟨s,κ2,⟨rfl,hl⟩,hs2⟩
 let⟨κ2,hs2⟩:=hl _ κ2 _ _ hkl hs2
 refine wp_seq (wp_region ?_)
 let⟨_,_,ty1,ps1,af1,_⟩:=o1
 let⟨_,_,ty2,ps2,af2,_⟩:=o2
 simp only at h1 g1 d1 h2 g2 d2
 subst h1 g1 d1 h2 g2 d2
 have h12':n<a.tmps.size:=by rw[hs2.len];exact h12
 have hmf:∀(fn:Fn) (first cap:Array Value) (w:World),(Instr.makeFunc fn first cap).run P w=.ok (.func fn first cap) w:=fun _ _ _ _=>rfl
 simp only[wpOps,Region.wanted,Array.size,List.range,List.range.loop,qDg,qAp,qAA]
 simp[hmf,go_sem,h12']
 refine .inl ?_
 have hd0:a.defers=[]:=hs2.defers
 have hs3:=(hs2.aA (some n) (v:=.unk) (u:=.func (.func d) #[] (capO.map a.eval)) (.unk _)).NK [{target:=.fn (.func d) (capO.map a.eval),args:=#[]}]
 have h:=hr3 κ ak w hen κ2 a w2 hs2 _ rfl _ rfl hs3
 rw[hd0]
 simp[go_sem]at h
 exact .inl h
theorem aoH
  (K:P.funcs[f]? =some fn) (L:fn.body=some (r0.seq (r1.seq ((Code.region id #[o1,o2] false).seq r3)))) (m:args.length<=fn.ntmps)
  (x:o1.op=.makeFunc (.func d) #[] capO) (M:o1.guard=none) (N:o1.dst=some n) (h2:o2.op=.defer {callee:=.value (.tmp n),args:=#[],argTypes:=#[]}) (O:o2.guard=none) (Q:o2.dst=none) (y:n<TB.length) (o:mQ P d=true)
  (k:∀(xs:Array Value) (w:World),xs.size=capO.size->CallsD P d xs .returning w λe R g=>e=.returned (.tuple #[])/\R=.returning/\g=w)
  (z:AW P H.length r0 (nrm H.length TA HA) (args++List.replicate (fn.ntmps - args.length) (.tup [])) H)
  (A:AW P H.length r1 (nrm H.length TB HB) TA HA) (B:H.length<=hJ.length)
  (C:AW P H.length r3 (asq P fn.results.toList H.length T hJ) (TB.set n .unk) HB):eH P f args H (av hJ (res1 T)) (aB hJ):=by
 refine ZF K L m x M N h2 O Q y z A λE ak w p F a S U D V i W G=>?_
 have I:(bodyC E ak H w D).k0.length<=H.length:=qBm p.klen
 refine wp_mono (C _ F _ S I G) ?_
 have j:∀(s:ASt) (b:aS) (i:Act) (g:World),BQ P fn.results.toList H.length T hJ s.tmps s.heap->Sim (bodyC E ak H w D) b s i g->Leaves P fn i.tmps (λe g=>∃t b,e=Ending.returned t/\Leave E b ak H (aB hJ) w g/\Rel g b (aH ak b (aB hJ)) (av hJ (res1 T)) t) i.defers .returning g:=by
  intro s b i g q h
  rw[h.defers]
  rw[V]
  refine leaves_cons (f:=d) (args:=capO.map a.eval) cn (by simp[go_sem,Dj o]) ?_
  refine(k _ g cn).mono ?_
  rintro e u X ⟨rfl,rfl,rfl⟩
  let⟨v,J,t,r,Y,x,h2⟩:=YM p B D q h
  exact⟨v,J,t,r,Y,x,h2⟩
 rintro e i g ⟨s,b,q,h⟩
 cases e with|normal=>exact j s b i g q h|ret=>exact j s b i g q h|exit id=>exact q.elim|goto l=>exact q.elim|panic c=>exact q.elim|outgrown=>exact q.elim
end
def an1(P:Program)(d:Nat)(args:An)(H:A6)(v:Value)(H':A6):Prop:=
 ∀(a:aS) (ak:bU) (w:World) (s:List Value),Entry a ak H w->s.length=args.length->(∀j,j<args.length->Rel w a (aH ak a H) (args.getD j .unk) (s.getD j undef))->
  CallsD P d s.toArray (.panicking [{v,recovered:=false}]) w λe u c=>e=.returned (.tuple #[])/\settle u=.returning/\∃b,Leave a b ak H H' w c
def Ctx.rt(C:Ctx)(κ:aS)(s:ASt)(w:World):Ctx:={C with w0:=w,k0:=κ,pvE:=aH C.ak κ s.heap}
def Sim.rt{C:Ctx}{κ:aS}{s:ASt}{a:Act}{w:World}(h:Sim C κ s a w):Sim (C.rt κ s w) κ s a w where
 defers:=h.defers
 len:=h.len
 slot:=h.slot
 klen:=h.klen
 kext:=dL.refl _
 resv:=h.resv
 obj:=h.obj
 apart:=h.apart
 own:=h.own
 bound:=h.bound
 pvold:=h.pvold
 oldlt:=λb c=>qAB (h.oldlt b c) h.size
 old:=λ_ _=>rfl
 os:=rfl
 tape:=rfl
 output:=rfl
 size:=qAd _
 pvsub:=λ_ _ p _=>p
 ny:=Evo.refl _ _
def Sim.aK3{C:Ctx}{κ:aS}{s:ASt}{a:Act}{w:World}(h:Sim C κ s a w){κ':aS}{s':ASt}{d:Act}{w':World}(c:Sim (C.rt κ s w) κ' s' d w'):Sim C κ' s' d w' where
 defers:=c.defers
 len:=c.len
 slot:=c.slot
 klen:=c.klen
 kext:=h.kext.trans c.kext
 resv:=c.resv
 obj:=c.obj
 apart:=c.apart
 own:=c.own
 bound:=c.bound
 pvold:=h.pvold
 oldlt:=h.oldlt
 old:=λb e=>(c.old b e).trans (h.old b e)
 os:=c.os.trans h.os
 tape:=c.tape.trans h.tape
 output:=c.output.trans h.output
 size:=qAs h.size c.size
 pvsub:=λb o p l=>h.pvsub b o (c.pvsub b o p (qAB l h.size)) l
 ny:=h.ny.trans c.ny λx o p l=>h.pvsub x o p l
section
variable {P:Program}{f d n:Nat}{r0 r1 r3:Code}{id:Nat}{o1 o2:Oper}{args:An}{H:A6}{T:As}{hJ:A0}{fn:Func}{capO:Array Operand}{TA TB TP:An}{HA HB HP HP':A6}{v:Value}
theorem aoM
  (V:P.funcs[f]? =some fn) (A:fn.body=some (r0.seq (r1.seq ((Code.region id #[o1,o2] false).seq r3)))) (l:args.length<=fn.ntmps)
  (B:o1.op=.makeFunc (.func d) #[] capO) (W:o1.guard=none) (X:o1.dst=some n) (h2:o2.op=.defer {callee:=.value (.tmp n),args:=#[],argTypes:=#[]}) (Y:o2.guard=none) (Z:o2.dst=none) (C:n<TB.length) (m:mQ P d=true)
  (E:AW P H.length r0 (nrm H.length TA HA) (args++List.replicate (fn.ntmps - args.length) (.tup [])) H)
  (F:AW P H.length r1 (nrm H.length TB HB) TA HA) (G:H.length<=hJ.length)
  (I:AW P HB.length r3 (λe t h=>e=qd v/\Le HB.length t h TP HP) (TB.set n .unk) HB)
  (r:an1 P d (capO.toList.map (bL TB)) HP v HP') (p:BQ P fn.results.toList H.length T hJ TP HP'):eH P f args H (av hJ (res1 T)) (aB hJ):=by
 refine ZF V A l B W X h2 Y Z C E F λκ ak w J q a S K D hD z ha' g=>?_
 have x:((bodyC κ ak H w D).rt q ⟨TB.set n .unk,HB⟩ S).k0.length<=HB.length:=qBm g.klen
 refine wp_mono (I _ q _ S x g.rt) ?_
 rintro e z U ⟨s',i,⟨rfl,L⟩,c⟩
 let⟨i,c⟩:=L _ i _ _ x c
 have k:=g.aK3 c
 show Leaves P fn z.tmps _ z.defers _ U
 rw[k.defers]
 rw[hD]
 refine leaves_cons (f:=d) (args:=capO.map a.eval) cn (by simp[go_sem,Dj m]) ?_
 refine CallsD.mono (r i ak U (capO.map a.eval).toList k.entry cn λj hj=>?_) ?_
 ·simp at hj
  have x1:(capO.toList.map (bL TB)).getD j .unk=bL TB capO.toList[j]:=by
   grind
  have x2:(capO.map a.eval).toList.getD j undef=a.eval capO.toList[j]:=by
   grind
  rw[x1,x2]
  exact(K.ev capO.toList[j]).mono c.ny c.kext λb o A M=>c.pvsub b o A M
 rintro e u N ⟨rfl,hu,κr,O⟩
 show Leaves P fn z.tmps _ [] (settle u) N
 rw[hu]
 let⟨v',Q,R,y,e1,B,h2⟩:=YM J G D (s:=⟨TP,HP'⟩) p (k.through O)
 exact⟨v',Q,R,y,e1,B,h2⟩
end
end Abs
end Go.Proofs.YtneeginmfjageaaGreat
