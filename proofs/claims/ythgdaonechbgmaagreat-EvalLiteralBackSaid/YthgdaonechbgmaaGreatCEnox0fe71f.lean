/-
  Printed by gend.py. Conditions: none.
-/
import Derived.KernelRfl
import Derived.Defers
import Derived.Recover
import Derived.Tactics
import Derived.Tactics2
import Derived.WalkKit
import Derived.Test.YthgdaonechbgmaaGreatCFnox1d05cb
import Derived.Test.YthgdaonechbgmaaGreatCD28oxb69b3c
set_option linter.all false
namespace Go.Proofs.YthgdaonechbgmaaGreat
namespace Abs
section
open Go Go.Proofs
set_option maxRecDepth 100000
abbrev Sk.I:Sk:=.lf (.n .i64)
abbrev Sk.U:Sk:=.lf (.n .u8)
abbrev Sk.S:Sk:=.lf .s
abbrev Sk.B:Sk:=.lf .b
abbrev Sk.Li:Sk:=.lf (.l .i)
abbrev Sk.Lu:Sk:=.lf (.l .u)
abbrev Sk.Ls:Sk:=.lf (.l .s)
abbrev Sk.Lb:Sk:=.lf (.l .b)
abbrev Sk.Lcar:Sk:=.lf (.l .car)
abbrev Sk.Ldec:Sk:=.lf (.l .dec)
abbrev Sk.Lty:Sk:=.lf (.l .ty)
abbrev Sk.Ltm:Sk:=.lf (.l .tm)
abbrev Sk.Lenv:Sk:=.lf (.l .env)
abbrev Sk.Lval:Sk:=.lf (.l .val)
abbrev Sk.Lbnd:Sk:=.lf (.l .bnd)
abbrev Sk.Lvals:Sk:=.lf (.l .vals)
abbrev Sk.Ltms:Sk:=.lf (.l .tms)
abbrev Sk.Ti:Sk:=.lf (.t .i)
abbrev Sk.Tu:Sk:=.lf (.t .u)
abbrev Sk.Ts:Sk:=.lf (.t .s)
abbrev Sk.Tb:Sk:=.lf (.t .b)
abbrev Sk.Tcar:Sk:=.lf (.t .car)
abbrev Sk.Tdec:Sk:=.lf (.t .dec)
abbrev Sk.Tty:Sk:=.lf (.t .ty)
abbrev Sk.Ttm:Sk:=.lf (.t .tm)
abbrev Sk.Tenv:Sk:=.lf (.t .env)
abbrev Sk.Tval:Sk:=.lf (.t .val)
abbrev Sk.Tbnd:Sk:=.lf (.t .bnd)
abbrev Sk.Tvals:Sk:=.lf (.t .vals)
abbrev Sk.Ttms:Sk:=.lf (.t .tms)
abbrev Sk.Fd:Sk:=.lf (.f .dec)
def E0(f na:Nat)(ps:List Ed)(nr:Nat)(rs:List Ed)(F:jI (bM ps)→Option (jI (bM rs))):Ent:=⟨f,na,ps,nr,rs,jI (bM rs),none,none,F,fun r=>r⟩
def TE:Nat:=41
def θl:List (Nat×ET):=[(2,.i),(3,.i),(4,.b),(5,.u),(6,.u),(9,.s),(10,.s),(11,.s),(25,.env),(27,.vals),(32,.ty),(33,.tms),(35,.tm),(40,.val),(41,.i),(64,.car),(67,.dec),(211,.bnd),(222,.i),(275,.u),(276,.u)]
noncomputable def θ(t:Nat):Option ET:=List.rec (motive:=fun _=>Option ET) none (fun p _ ih=>bif Nat.beq p.1 t then some p.2 else ih) θl
def Ta(r:List Sk):List Sk:=.nilF:: .func 270 [.eptr [.k (.n .i64 2),.k (.s ([]:Str)),.k (.l .ty)]]:: .func 270 [.eptr [.k (.n .i64 2),.k (.s ([]:Str)),.k (.l .ty)]]:: .func 263 [.eptr [.k (.n .i64 2),.k (.s ([]:Str)),.k (.l .ty)],.eptr [.k (.n .i64 2)]]:: .func 263 [.eptr [.k (.n .i64 2),.k (.s ([]:Str)),.k (.l .ty)],.eptr [.k (.n .i64 2)]]:: .func 263 [.eptr [.k (.n .i64 2),.k (.s ([]:Str)),.k (.l .ty)],.eptr [.k (.n .i64 2)]]:: .func 263 [.eptr [.k (.n .i64 2),.k (.s ([]:Str)),.k (.l .ty)],.eptr [.k (.n .i64 2)]]:: .func 263 [.eptr [.k (.n .i64 2),.k (.s ([]:Str)),.k (.l .ty)],.eptr [.k (.n .i64 2)]]:: .func 271 [.eptr [.func 198 []]]:: .func 271 [.eptr [.func 198 []]]:: .func 184 []:: .func 184 []:: .func 263 [.eptr [.k (.n .i64 2),.k (.s ([]:Str)),.k (.l .ty)],.eptr [.k (.n .i64 1)]]:: .func 263 [.eptr [.k (.n .i64 2),.k (.s ([]:Str)),.k (.l .ty)],.eptr [.k (.n .i64 1)]]:: .func 263 [.eptr [.k (.n .i64 2),.k (.s ([]:Str)),.k (.l .ty)],.eptr [.k (.n .i64 1)]]:: .func 263 [.eptr [.k (.n .i64 2),.k (.s ([]:Str)),.k (.l .ty)],.eptr [.k (.n .i64 1)]]:: .func 200 []:: .func 200 []:: .func 272 [.eptr [.func 198 []]]:: .func 270 [.eptr [.k (.n .i64 1),.k (.s ([]:Str)),.k (.l .ty)]]:: .nilF:: .func 263 [.eptr [.k (.n .i64 1),.k (.s ([]:Str)),.k (.l .ty)],.eptr [.k (.n .i64 1)]]:: .func 263 [.eptr [.k (.n .i64 1),.k (.s ([]:Str)),.k (.l .ty)],.eptr [.k (.n .i64 1)]]:: .func 263 [.eptr [.k (.n .i64 1),.k (.s ([]:Str)),.k (.l .ty)],.eptr [.k (.n .i64 1)]]:: .func 263 [.eptr [.k (.n .i64 1),.k (.s ([]:Str)),.k (.l .ty)],.eptr [.k (.n .i64 1)]]:: .func 263 [.eptr [.k (.n .i64 1),.k (.s ([]:Str)),.k (.l .ty)],.eptr [.k (.n .i64 1)]]:: .func 263 [.eptr [.k (.n .i64 1),.k (.s ([]:Str)),.k (.l .ty)],.eptr [.k (.n .i64 1)]]:: .func 202 []:: .func 204 []:: .nilF:: .func 263 [.eptr [.k (.n .i64 5),.k (.s ([]:Str)),.k (.ly ([(Ty.mk 1 ([]:Str) ([]))]))],.eptr [.k (.n .i64 1)]]:: .func 272 [.eptr [.func 199 []]]:: .func 272 [.eptr [.func 199 []]]:: .func 272 [.eptr [.func 199 []]]:: .func 266 [.eptr [.func 188 []]]:: .func 268 [.eptr [.func 205 []]]:: .func 268 [.eptr [.func 206 []]]:: .func 189 []:: .func 189 []:: .func 268 [.eptr [.func 193 []]]:: .func 268 [.eptr [.func 193 []]]:: .func 266 [.eptr [.func 187 []]]:: .func 266 [.eptr [.func 187 []]]:: .func 266 [.eptr [.func 187 []]]:: .func 266 [.eptr [.func 187 []]]:: .func 266 [.eptr [.func 187 []]]:: .func 269 [.eptr [.func 207 []]]:: .func 269 [.eptr [.func 208 []]]:: .func 269 [.eptr [.func 195 []]]:: .func 269 [.eptr [.func 195 []]]:: .func 268 [.eptr [.func 209 []]]:: .func 268 [.eptr [.func 210 []]]:: .func 268 [.eptr [.func 211 []]]:: .func 268 [.eptr [.func 212 []]]:: .func 268 [.eptr [.func 213 []]]:: .func 271 [.eptr [.func 199 []]]:: .func 214 []::r
def ajv(n:Nat):Ent:=E0 8 0 [] 1 [.r 0 .B] fun x=>jf n
def U6(n:Nat):Ent:=E0 168 1 [.r 0 (.func 257 [.ptr 0 0]),.w (.box [.mapr 1]),.w (.mp .b)] 1 [.r 0 .Ls] fun x=>ow n x
def aez(n:Nat):Ent:=E0 149 2 [.r 0 .S,.r 1 .S] 1 [.r 0 .I] fun x=>strings_Compare n x.1 x.2
def adr(n:Nat):Ent:=E0 59 1 [.r 0 .Li] 1 [.r 0 .Li] fun x=>slices_Clone_int n x
def fB(n:Nat):Ent:=⟨124,2,[.r 0 (.ptr 0 0),.r 1 .S,.w (.box [.Lcar,.Ldec,.Li,.mapr 1,.psl 2 5]),.w (.mp .val),.w (.arr .bnd)],1,[.r 0 .Tval],Val,(some []),none,fun x=>nY n x.2.1 x.2.2.1 x.2.2.2.1 x.2.2.2.2.1 x.2.2.2.2.2 x.1,fun r=>r⟩
def apd(n:Nat):Ent:=E0 36 1 [.r 0 .Lval] 1 [.r 0 .Lval] fun x=>kH n x
def aaZ(n:Nat):Ent:=E0 305 2 [.r 0 (.nils),.r 1 .I] 1 [.r 0 (.own 0),.w (.own .val)] fun x=>Fw n x
def SQ(n:Nat):Ent:=E0 306 1 [.r 0 .Lvals] 1 [.r 0 (.own 0),.w (.own .vals)] fun x=>zq n x
def Vm(n:Nat):Ent:=E0 63 1 [.r 0 .Lval] 1 [.r 0 (.own 0),.w (.own .val)] fun x=>jZ n x
def Zr(n:Nat):Ent:=E0 63 1 [.r 0 .Lval] 1 [.r 0 (.psl 0 4),.w (.arr .val)] fun x=>Df n x
def aaS(n:Nat):Ent:=E0 39 1 [.r 0 (.psl 0 4),.w (.arr .val)] 1 [.r 0 (.psl 0 4)] fun x=>(yA n x).bind fun _=>some ()
def e_slices_Clone_Type(n:Nat):Ent:=E0 171 1 [.r 0 .Lty] 1 [.r 0 (.psl 0 3),.w (.arr .ty)] fun x=>slices_Clone_Type n x
def e_slices_Clip_Type(n:Nat):Ent:=E0 170 1 [.r 0 (.psl 0 3),.w (.arr .ty)] 1 [.r 0 (.psl 0 3)] fun x=>(slices_Clip_Type n x).bind fun _=>some ()
def e_slices_Clip_Term_s(n:Nat):Ent:=E0 97 1 [.r 0 .Ltm] 1 [.r 0 .Ltm] fun x=>slices_Clip_Term_s n x
def ajw(n:Nat):Ent:=E0 6 1 [.r 0 .Tenv] 1 [.r 0 .B] fun x=>Ah n x
def aog(n:Nat):Ent:=E0 143 1 [.r 0 .I] 1 [.r 0 .I] fun x=>aed n x
def afF(n:Nat):Ent:=E0 99 1 [.r 0 .U] 1 [.r 0 .B] fun x=>wD n x
def avg(n:Nat):Ent:=E0 70 2 [.r 0 .S,.r 1 .Ls] 1 [.r 0 .B] fun x=>Mi n x.1 x.2
def aby(n:Nat):Ent:=E0 100 1 [.r 0 .S] 1 [.r 0 .B] fun x=>Ja n x
def akJ(n:Nat):Ent:=E0 101 1 [.r 0 .U] 1 [.r 0 .B] fun x=>CY n x
def Tn(n:Nat):Ent:=E0 64 1 [.r 0 .S] 1 [.r 0 .B] fun x=>jk n x
def Vz(n:Nat):Ent:=E0 131 1 [.r 0 .S] 1 [.r 0 .B] fun x=>Nk n x
def ajg(n:Nat):Ent:=E0 65 1 [.r 0 .S] 1 [.r 0 .B] fun x=>KN n x
def afG(n:Nat):Ent:=E0 48 1 [.r 0 .I] 1 [.r 0 .B] fun x=>zM n x
def aiu(n:Nat):Ent:=E0 132 3 [.r 0 .Tty,.r 1 .I,.r 2 .I] 1 [.r 0 .I] fun x=>zR n x.1 x.2.1 x.2.2
def V9(n:Nat):Ent:=E0 66 1 [.r 0 .Tty] 1 [.r 0 .B] fun x=>uS n x
def ZY(n:Nat):Ent:=E0 144 1 [.r 0 .Tty] 1 [.r 0 .B] fun x=>Mk n x
def anL(n:Nat):Ent:=E0 74 1 [.r 0 .Ttm] 1 [.r 0 .B] fun x=>adQ n x
def ahY(n:Nat):Ent:=E0 34 3 [.r 0 .Ttm,.r 1 .I,.r 2 .I] 1 [.r 0 .I] fun x=>GL n x.1 x.2.1 x.2.2
def X5(n:Nat):Ent:=E0 12 1 [.r 0 .Ttm] 1 [.r 0 .B] fun x=>vC n x
def aay(n:Nat):Ent:=E0 158 1 [.r 0 .U] 1 [.r 0 .B] fun x=>FT n x
def Xq(n:Nat):Ent:=E0 159 1 [.r 0 .S] 1 [.r 0 .B] fun x=>JH n x
def ac8(n:Nat):Ent:=E0 248 1 [.r 0 .U] 1 [.r 0 .B] fun x=>Pf n x
def aaC(n:Nat):Ent:=E0 160 1 [.r 0 .U] 1 [.r 0 .B] fun x=>MR n x
def Pb(n:Nat):Ent:=E0 85 1 [.r 0 .S] 1 [.r 0 .B] fun x=>gX n x
def u7(n:Nat):Ent:=E0 295 2 [.r 0 .S,.r 1 .S] 1 [.r 0 .B] fun x=>o8 n x.1 x.2
def uq(n:Nat):Ent:=E0 249 2 [.r 0 .S,.r 1 .S] 1 [.r 0 .S] fun x=>oh n x.1 x.2
def Jz(n:Nat):Ent:=E0 161 2 [.r 0 .S,.r 1 .S] 1 [.r 0 .S] fun x=>strings_TrimSuffix n x.1 x.2
def OI(n:Nat):Ent:=E0 86 1 [.r 0 .S] 1 [.r 0 .B] fun x=>wB n x
def Jr(n:Nat):Ent:=E0 109 2 [.r 0 (.ptr 0 0),.r 1 .I,.w (.box [.I,.I,.I])] 1 [.r 0 .B,.o 0 (.bx [(0,.lf (.n .i64))])] fun x=>lS n x.2.1 x.2.2.1 x.2.2.2 x.1
def vM(n:Nat):Ent:=E0 296 2 [.r 0 .Lty,.r 1 (.func 254 [.ptr 0 0,.ptr 2 0]),.w (.box [.ptr 1 0]),.w (.box [.I,.I,.I]),.w (.box [.I])] 1 [.r 0 .I,.o 1 (.bx [(0,.lf (.n .i64))])] fun x=>lG n x.1 x.2.1 x.2.2.1 x.2.2.2.1 x.2.2.2.2
def sO(n:Nat):Ent:=E0 250 2 [.r 0 .Lty,.r 1 (.func 254 [.ptr 0 0,.ptr 2 0]),.w (.box [.ptr 1 0]),.w (.box [.I,.I,.I]),.w (.box [.I])] 1 [.r 0 .B,.o 1 (.bx [(0,.lf (.n .i64))])] fun x=>fD n x.1 x.2.1 x.2.2.1 x.2.2.2.1 x.2.2.2.2
def vQ(n:Nat):Ent:=E0 165 4 [.r 0 (.ptr 0 0),.r 1 .Tty,.r 2 .I,.r 3 .B,.w (.box [.I,.I,.I])] 1 [.r 0 .B,.o 0 (.bx [(0,.lf (.n .i64))])] fun x=>iW n x.2.2.2.1 x.2.2.2.2.1 x.2.2.2.2.2 x.1 x.2.1 x.2.2.1
def um(n:Nat):Ent:=E0 254 3 [.r 0 .Tty,.r 1 (.ptr 0 0),.r 2 (.ptr 2 0),.w (.box [.ptr 1 0]),.w (.box [.I,.I,.I]),.w (.box [.I])] 1 [.r 0 .B,.o 1 (.bx [(0,.lf (.n .i64))])] fun x=>fQ n x.1 x.2.1 x.2.2.1 x.2.2.2.1 x.2.2.2.2
def Sn(n:Nat):Ent:=E0 91 1 [.r 0 .Tty] 1 [.r 0 .B] fun x=>ql n x
def tY(n:Nat):Ent:=E0 296 2 [.r 0 .Lty,.r 1 (.func 251 [.ptr 0 0]),.w (.box [.I])] 1 [.r 0 .I] fun x=>mE n x.1 x.2
def qo(n:Nat):Ent:=E0 250 2 [.r 0 .Lty,.r 1 (.func 251 [.ptr 0 0]),.w (.box [.I])] 1 [.r 0 .B] fun x=>jl n x.1 x.2
def FH(n:Nat):Ent:=E0 162 2 [.r 0 .Tty,.r 1 .I] 1 [.r 0 .B] fun x=>oO n x.1 x.2
def BL(n:Nat):Ent:=E0 251 2 [.r 0 .Tty,.r 1 (.ptr 0 0),.w (.box [.I])] 1 [.r 0 .B] fun x=>mK n x.1 x.2
def Ku(n:Nat):Ent:=E0 87 1 [.r 0 .Tty] 1 [.r 0 .B] fun x=>yt n x
def RG(n:Nat):Ent:=E0 167 2 [.r 0 .Tty,.r 1 (.mapr 0),.w (.mp .b)] 0 [.o 0 (.mp .b)] fun x=>qC n x.1 x.2
def Rz(n:Nat):Ent:=E0 169 1 [.r 0 (.mapr 0),.w (.mp .b)] 1 [.r 0 (.func 257 [.ptr 1 0]),.w (.box [.mapr 0])] fun x=>alh n x
def OM(n:Nat):Ent:=E0 93 1 [.r 0 .Tty] 1 [.r 0 .Ls] fun x=>wV n x
def IW(n:Nat):Ent:=E0 253 2 [.r 0 .Tcar,.r 1 (.ptr 0 0),.w (.box [.S])] 1 [.r 0 .B] fun x=>aa1 n x.1 x.2
def AQ(n:Nat):Ent:=E0 79 2 [.r 0 .Lcar,.r 1 (.func 253 [.ptr 0 0]),.w (.box [.S])] 1 [.r 0 .I] fun x=>Dp n x.1 x.2
def yh(n:Nat):Ent:=E0 252 2 [.r 0 .Lcar,.r 1 (.func 253 [.ptr 0 0]),.w (.box [.S])] 1 [.r 0 .B] fun x=>zL n x.1 x.2
def Kz(n:Nat):Ent:=E0 164 2 [.r 0 .Tenv,.r 1 .S] 1 [.r 0 .B] fun x=>Fz n x.1 x.2
def KA(n:Nat):Ent:=E0 163 2 [.r 0 .S,.r 1 (.ptr 0 0),.w (.box [.Lcar,.Ldec])] 1 [.r 0 .B] fun x=>Fh n x.1 x.2.1 x.2.2
def Cq(n:Nat):Ent:=E0 166 2 [.r 0 .Ls,.r 1 (.func 163 [.ptr 0 0]),.w (.box [.Lcar,.Ldec])] 1 [.r 0 .I] fun x=>E8 n x.1 x.2.1 x.2.2
def yR(n:Nat):Ent:=E0 92 2 [.r 0 .Ls,.r 1 (.func 163 [.ptr 0 0]),.w (.box [.Lcar,.Ldec])] 1 [.r 0 .B] fun x=>Bb n x.1 x.2.1 x.2.2
def OH(n:Nat):Ent:=E0 88 2 [.r 0 .Tenv,.r 1 .Tty] 1 [.r 0 .B] fun x=>Ct n x.1 x.2
def OL(n:Nat):Ent:=E0 90 1 [.r 0 .Tenv] 1 [.r 0 (.own 0),.w (.own .s)] fun x=>Co n x
def O9(n:Nat):Ent:=E0 89 1 [.r 0 .Ls] 1 [.r 0 .B] fun x=>Cm n x
def Pd(n:Nat):Ent:=E0 42 1 [.r 0 .Tenv] 1 [.r 0 .B] fun x=>rY n x
def Td(n:Nat):Ent:=E0 55 2 [.r 0 .Tenv,.r 1 .Li] 1 [.r 0 .B] fun x=>Bh n x.1 x.2
def VZ(n:Nat):Ent:=E0 80 2 [.r 0 .Tcar,.r 1 (.ptr 0 0),.w (.box [.S])] 1 [.r 0 .B] fun x=>ar9 n x.1 x.2
def xV(n:Nat):Ent:=E0 79 2 [.r 0 .Lcar,.r 1 (.func 80 [.ptr 0 0]),.w (.box [.S])] 1 [.r 0 .I] fun x=>zN n x.1 x.2
def abS(n:Nat):Ent:=E0 37 2 [.r 0 .Tenv,.r 1 .S] 1 [.r 0 .I] fun x=>Pz n x.1 x.2
def Ua(n:Nat):Ent:=E0 246 1 [.r 0 .I] 1 [.r 0 .B] fun x=>cmp_isNaN_int n x
def OT(n:Nat):Ent:=E0 148 2 [.r 0 .I,.r 1 .I] 1 [.r 0 .I] fun x=>cmp_Compare_int n x.1 x.2
def acD(n:Nat):Ent:=E0 147 1 [.r 0 .Li] 1 [.r 0 .I] fun x=>Yp n x
def sJ(n:Nat):Ent:=E0 150 3 [.r 0 .Lval,.r 1 .Lval,.r 2 (.func 76 [])] 1 [.r 0 .I] fun x=>lV n x.1 x.2
def KZ(n:Nat):Ent:=E0 76 2 [.r 0 .Tval,.r 1 .Tval] 1 [.r 0 .I] fun x=>dY n x.1 x.2
def Zu(n:Nat):Ent:=E0 44 4 [.r 0 .Tenv,.r 1 .Li,.r 2 .Tval,.r 3 .Tty] 1 [.r 0 .B] fun x=>kN n x.1 x.2.1 x.2.2.1 x.2.2.2
def Rl(n:Nat):Ent:=E0 95 4 [.r 0 .Lty,.r 1 (.ptr 0 0),.r 2 (.ptr 1 0),.r 3 (.ptr 2 0),.w (.box [.I,.I,.S,.Lval]),.w (.box [.Lcar,.Ldec]),.w (.box [.Li])] 1 [.r 0 .B] fun x=>wF n x.1 x.2.1 x.2.2.1 x.2.2.2.1 x.2.2.2.2.1 x.2.2.2.2.2.1 x.2.2.2.2.2.2.1 x.2.2.2.2.2.2.2
def O7(n:Nat):Ent:=E0 25 1 [.r 0 (.agg [.Lcar,.Ldec,.Li,.Lval])] 1 [.r 0 .B] fun x=>wP n (S_api_World.mk (Env.mk x.1 x.2.1) x.2.2.1 x.2.2.2)
def afp(n:Nat):Ent:=E0 176 1 [.r 0 .I] 2 [.r 0 .I,.r 1 .B] fun x=>Te n x
def acT(n:Nat):Ent:=E0 177 1 [.r 0 .S] 1 [.r 0 .B] fun x=>YA n x
def ZB(n:Nat):Ent:=E0 178 1 [.r 0 .I] 1 [.r 0 .B] fun x=>FZ n x
def Ud(n:Nat):Ent:=E0 179 1 [.r 0 .Tty] 1 [.r 0 .B] fun x=>Gc n x
def Zx(n:Nat):Ent:=E0 110 1 [.r 0 .Ttm] 1 [.r 0 .B] fun x=>MP n x
def vN(n:Nat):Ent:=E0 180 2 [.r 0 .Ltm,.r 1 (.func 112 [.ptr 0 0,.ptr 2 0]),.w (.box [.ptr 1 0]),.w (.box [.I,.I,.I]),.w (.box [.I])] 1 [.r 0 .I,.o 1 (.bx [(0,.lf (.n .i64))])] fun x=>lD n x.1 x.2.1 x.2.2.1 x.2.2.2.1 x.2.2.2.2
def sK(n:Nat):Ent:=E0 111 2 [.r 0 .Ltm,.r 1 (.func 112 [.ptr 0 0,.ptr 2 0]),.w (.box [.ptr 1 0]),.w (.box [.I,.I,.I]),.w (.box [.I])] 1 [.r 0 .B,.o 1 (.bx [(0,.lf (.n .i64))])] fun x=>iR n x.1 x.2.1 x.2.2.1 x.2.2.2.1 x.2.2.2.2
def BN(n:Nat):Ent:=E0 56 3 [.r 0 (.ptr 0 0),.r 1 .Ttm,.r 2 .I,.w (.box [.I,.I,.I])] 1 [.r 0 .B,.o 0 (.bx [(0,.lf (.n .i64))])] fun x=>kM n x.2.2.1 x.2.2.2.1 x.2.2.2.2 x.1 x.2.1
def yN(n:Nat):Ent:=E0 112 3 [.r 0 .Ttm,.r 1 (.ptr 0 0),.r 2 (.ptr 2 0),.w (.box [.ptr 1 0]),.w (.box [.I,.I,.I]),.w (.box [.I])] 1 [.r 0 .B,.o 1 (.bx [(0,.lf (.n .i64))])] fun x=>iU n x.1 x.2.1 x.2.2.1 x.2.2.2.1 x.2.2.2.2
def acF(n:Nat):Ent:=E0 26 1 [.r 0 .Ttm] 1 [.r 0 .B] fun x=>J7 n x
def Wu(n:Nat):Ent:=E0 121 1 [.r 0 .Tty] 1 [.r 0 .Tty] fun x=>arM n x
def XK(n:Nat):Ent:=E0 113 1 [.r 0 .Tenv] 1 [.r 0 (.mapr 0),.w (.mp .ty)] fun x=>Kh n x
def Wq(n:Nat):Ent:=E0 182 0 [] 1 [.r 0 .Tty] fun x=>ath n
def ZV(n:Nat):Ent:=E0 181 2 [.r 0 .I,.r 1 .Tty] 1 [.r 0 (.func 263 [.eptr [.I,.S,.Lty],.eptr [.I]])] fun x=>(auk n x.1 x.2).bind fun r=>some (x.2.kind,x.2.name,x.2.kids,x.1)
def Sl(n:Nat):Ent:=E0 183 0 [] 1 [.r 0 .Tty] fun x=>ak9 n
def ab9(n:Nat):Ent:=E0 186 1 [.r 0 (.func 187 [])] 1 [.r 0 (.func 266 [.eptr [.func 187 []]])] fun x=>awy n
def Kq(n:Nat):Ent:=E0 192 1 [.r 0 (.func 193 [])] 1 [.r 0 (.func 268 [.eptr [.func 193 []]])] fun x=>aeA n
def VQ(n:Nat):Ent:=E0 194 1 [.r 0 (.func 195 [])] 1 [.r 0 (.func 269 [.eptr [.func 195 []]])] fun x=>asU n
def OQ(n:Nat):Ent:=E0 196 1 [.r 0 .Tty] 1 [.r 0 (.func 270 [.eptr [.I,.S,.Lty]])] fun x=>(aku n x).bind fun r=>some (x.kind,x.name,x.kids)
def Z6(n:Nat):Ent:=E0 197 1 [.r 0 (.func 198 [])] 1 [.r 0 (.func 271 [.eptr [.func 198 []]])] fun x=>atA n
def TL(n:Nat):Ent:=E0 197 1 [.r 0 (.func 199 [])] 1 [.r 0 (.func 271 [.eptr [.func 199 []]])] fun x=>aoZ n
def aaf(n:Nat):Ent:=E0 201 1 [.r 0 (.func 198 [])] 1 [.r 0 (.func 272 [.eptr [.func 198 []]])] fun x=>atH n
def Uf(n:Nat):Ent:=E0 201 1 [.r 0 (.func 199 [])] 1 [.r 0 (.func 272 [.eptr [.func 199 []]])] fun x=>aoB n
def VP(n:Nat):Ent:=E0 186 1 [.r 0 (.func 188 [])] 1 [.r 0 (.func 266 [.eptr [.func 188 []]])] fun x=>arF n
def II(n:Nat):Ent:=E0 192 1 [.r 0 (.func 205 [])] 1 [.r 0 (.func 268 [.eptr [.func 205 []]])] fun x=>aa9 n
def Ir(n:Nat):Ent:=E0 192 1 [.r 0 (.func 206 [])] 1 [.r 0 (.func 268 [.eptr [.func 206 []]])] fun x=>aaP n
def Rp(n:Nat):Ent:=E0 194 1 [.r 0 (.func 207 [])] 1 [.r 0 (.func 269 [.eptr [.func 207 []]])] fun x=>akQ n
def Q0(n:Nat):Ent:=E0 194 1 [.r 0 (.func 208 [])] 1 [.r 0 (.func 269 [.eptr [.func 208 []]])] fun x=>alj n
def Il(n:Nat):Ent:=E0 192 1 [.r 0 (.func 209 [])] 1 [.r 0 (.func 268 [.eptr [.func 209 []]])] fun x=>aa6 n
def Ih(n:Nat):Ent:=E0 192 1 [.r 0 (.func 210 [])] 1 [.r 0 (.func 268 [.eptr [.func 210 []]])] fun x=>aaT n
def Ii(n:Nat):Ent:=E0 192 1 [.r 0 (.func 211 [])] 1 [.r 0 (.func 268 [.eptr [.func 211 []]])] fun x=>aa7 n
def IJ(n:Nat):Ent:=E0 192 1 [.r 0 (.func 212 [])] 1 [.r 0 (.func 268 [.eptr [.func 212 []]])] fun x=>aaX n
def Ij(n:Nat):Ent:=E0 192 1 [.r 0 (.func 213 [])] 1 [.r 0 (.func 268 [.eptr [.func 213 []]])] fun x=>aaE n
def aan(n:Nat):Ent:=E0 114 0 [] 1 [.r 0 (.agg (Ta []))] fun x=>auf n
def Km(n:Nat):Ent:=⟨57,1,[.r 0 .Tenv],1,[.r 0 (.ptr 1 0),.w (.arr .i),.w (.box (.mapr 2:: .mapr 3::(Ta [.psl 0 1]))),.w (.mp .ty),.w (.mp .b)],((List (Str×Ty))×(List (Str×Bool))),none,none,fun x=>FB n x,fun r=>([],r.1,r.2)⟩
def TT(n:Nat):Ent:=E0 116 1 [.r 0 .I] 1 [.r 0 .B] fun x=>Bg n x
def ND(n:Nat):Ent:=E0 117 1 [.r 0 .Tty] 2 [.r 0 .Tty,.r 1 .B] fun x=>dx n x
def IQ(n:Nat):Ent:=E0 118 2 [.r 0 .Fd,.r 1 .S] 2 [.r 0 .Tty,.r 1 .B] fun x=>vF n x.1 x.2
def CP(n:Nat):Ent:=E0 215 2 [.r 0 .S,.r 1 (.ptr 0 0),.w (.box [.ptr 1 0]),.w (.box (.mapr 2:: .mapr 3::(Ta [.psl 4 1]))),.w (.mp .ty),.w (.mp .b),.w (.arr .i)] 1 [.r 0 .B] fun x=>qN n x.1 x.2.1 x.2.2.1 x.2.2.2
def yP(n:Nat):Ent:=E0 166 2 [.r 0 .Ls,.r 1 (.func 215 [.ptr 0 0]),.w (.box [.ptr 1 0]),.w (.box (.mapr 2:: .mapr 3::(Ta [.psl 4 1]))),.w (.mp .ty),.w (.mp .b),.w (.arr .i)] 1 [.r 0 .I] fun x=>Bq n x.1 x.2.1 x.2.2.1 x.2.2.2
def vK(n:Nat):Ent:=E0 92 2 [.r 0 .Ls,.r 1 (.func 215 [.ptr 0 0]),.w (.box [.ptr 1 0]),.w (.box (.mapr 2:: .mapr 3::(Ta [.psl 4 1]))),.w (.mp .ty),.w (.mp .b),.w (.arr .i)] 1 [.r 0 .B] fun x=>xW n x.1 x.2.1 x.2.2.1 x.2.2.2
def F3(n:Nat):Ent:=E0 119 2 [.r 0 (.ptr 0 0),.r 1 .Tty,.w (.box (.mapr 1:: .mapr 2::(Ta [.psl 3 1]))),.w (.mp .ty),.w (.mp .b),.w (.arr .i)] 1 [.r 0 .B] fun x=>tO n x.2.1 x.2.2.1 x.2.2.2 x.1
def QZ(n:Nat):Ent:=E0 120 1 [.r 0 .Tty] 2 [.r 0 .Tty,.r 1 .I] fun x=>uH n x
def Kr(n:Nat):Ent:=E0 270 2 [.r 0 .Lty,.r 1 (.eptr [.I,.S,.Lty])] 2 [.r 0 .Tty,.r 1 .B] fun x=>aeQ n x.1 x.2.1 x.2.2.1 x.2.2.2
def O5(n:Nat):Ent:=E0 264 2 [.r 0 .Tty,.r 1 (.eptr [.I])] 1 [.r 0 .B] fun x=>ah2 n x.1 x.2
def Ci(n:Nat):Ent:=E0 296 2 [.r 0 .Lty,.r 1 (.func 264 [.eptr [.I]])] 1 [.r 0 .I] fun x=>E5 n x.1 x.2
def zk(n:Nat):Ent:=E0 250 2 [.r 0 .Lty,.r 1 (.func 264 [.eptr [.I]])] 1 [.r 0 .B] fun x=>Bt n x.1 x.2
def Tt(n:Nat):Ent:=E0 263 3 [.r 0 .Lty,.r 1 (.eptr [.I,.S,.Lty]),.r 2 (.eptr [.I])] 2 [.r 0 .Tty,.r 1 .B] fun x=>aZ n x.1 x.2.1 x.2.2.1 x.2.2.2.1 x.2.2.2.2
def UL(n:Nat):Ent:=E0 198 1 [.r 0 .Tty] 1 [.r 0 .Tty] fun x=>ao0 n x
def O6(n:Nat):Ent:=E0 271 2 [.r 0 .Lty,.r 1 (.eptr [.func 198 []])] 2 [.r 0 .Tty,.r 1 .B] fun x=>wZ n x
def vL(n:Nat):Ent:=E0 267 3 [.r 0 .Lty,.r 1 .Lty,.r 2 (.func 191 [])] 1 [.r 0 .B] fun x=>rV n x.1 x.2
def K4(n:Nat):Ent:=E0 191 2 [.r 0 .Tty,.r 1 .Tty] 1 [.r 0 .B] fun x=>jQ n x.1 x.2
def QG(n:Nat):Ent:=E0 265 2 [.r 0 .Tty,.r 1 (.ptr 0 0),.w (.box [.Lty])] 1 [.r 0 .B] fun x=>DU n x.1 x.2
def Ch(n:Nat):Ent:=E0 296 2 [.r 0 .Lty,.r 1 (.func 265 [.ptr 0 0]),.w (.box [.Lty])] 1 [.r 0 .I] fun x=>vR n x.1 x.2
def ze(n:Nat):Ent:=E0 250 2 [.r 0 .Lty,.r 1 (.func 265 [.ptr 0 0]),.w (.box [.Lty])] 1 [.r 0 .B] fun x=>sQ n x.1 x.2
def Xb(n:Nat):Ent:=E0 185 1 [.r 0 .Lty] 1 [.r 0 .B] fun x=>oW n x
def UK(n:Nat):Ent:=E0 184 1 [.r 0 .Lty] 2 [.r 0 .Tty,.r 1 .B] fun x=>Bf n x
def TQ(n:Nat):Ent:=E0 200 1 [.r 0 .Lty] 2 [.r 0 .Tty,.r 1 .B] fun x=>Bu n x
def OU(n:Nat):Ent:=E0 272 2 [.r 0 .Lty,.r 1 (.eptr [.func 198 []])] 2 [.r 0 .Tty,.r 1 .B] fun x=>Ka n x
def UU(n:Nat):Ent:=E0 203 2 [.r 0 .Tty,.r 1 .Tty] 1 [.r 0 .Tty] fun x=>aoV n x.1 x.2
def Ue(n:Nat):Ent:=E0 202 1 [.r 0 .Lty] 2 [.r 0 .Tty,.r 1 .B] fun x=>Oj n x
def TY(n:Nat):Ent:=E0 204 1 [.r 0 .Lty] 2 [.r 0 .Tty,.r 1 .B] fun x=>AX n x
def U0(n:Nat):Ent:=E0 199 1 [.r 0 .Tty] 1 [.r 0 .Tty] fun x=>aoN n x
def OY(n:Nat):Ent:=E0 272 2 [.r 0 .Lty,.r 1 (.eptr [.func 199 []])] 2 [.r 0 .Tty,.r 1 .B] fun x=>o7 n x
def O1(n:Nat):Ent:=E0 188 2 [.r 0 .Tty,.r 1 .Tty] 1 [.r 0 .Tty] fun x=>aij n x.1 x.2
def Sy(n:Nat):Ent:=E0 266 2 [.r 0 .Lty,.r 1 (.eptr [.func 188 []])] 2 [.r 0 .Tty,.r 1 .B] fun x=>Lc n x
def Wz(n:Nat):Ent:=E0 190 1 [.r 0 .Tty] 3 [.r 0 .Tty,.r 1 .Tty,.r 2 .B] fun x=>jN n x
def S9(n:Nat):Ent:=E0 205 3 [.r 0 .Tty,.r 1 .Tty,.r 2 .Lty] 2 [.r 0 .Tty,.r 1 .B] fun x=>Z9 n x.1 x.2.1 x.2.2
def EZ(n:Nat):Ent:=E0 268 2 [.r 0 .Lty,.r 1 (.eptr [.func 205 []])] 2 [.r 0 .Tty,.r 1 .B] fun x=>yU n x
def UC(n:Nat):Ent:=E0 206 3 [.r 0 .Tty,.r 1 .Tty,.r 2 .Lty] 2 [.r 0 .Tty,.r 1 .B] fun x=>ZL n x.1 x.2.1 x.2.2
def EM(n:Nat):Ent:=E0 268 2 [.r 0 .Lty,.r 1 (.eptr [.func 206 []])] 2 [.r 0 .Tty,.r 1 .B] fun x=>y9 n x
def U2(n:Nat):Ent:=E0 189 1 [.r 0 .Lty] 2 [.r 0 .Tty,.r 1 .B] fun x=>Bz n x
def SY(n:Nat):Ent:=E0 193 3 [.r 0 .Tty,.r 1 .Tty,.r 2 .Lty] 2 [.r 0 .Tty,.r 1 .B] fun x=>ZN n x.1 x.2.1 x.2.2
def Fa(n:Nat):Ent:=E0 268 2 [.r 0 .Lty,.r 1 (.eptr [.func 193 []])] 2 [.r 0 .Tty,.r 1 .B] fun x=>nR n x
def UM(n:Nat):Ent:=E0 187 2 [.r 0 .Tty,.r 1 .Tty] 1 [.r 0 .Tty] fun x=>ao1 n x.1 x.2
def Sw(n:Nat):Ent:=E0 266 2 [.r 0 .Lty,.r 1 (.eptr [.func 187 []])] 2 [.r 0 .Tty,.r 1 .B] fun x=>jL n x
def QA(n:Nat):Ent:=E0 207 1 [.r 0 .Tty] 2 [.r 0 .Tty,.r 1 .B] fun x=>al2 n x
def Np(n:Nat):Ent:=E0 269 2 [.r 0 .Lty,.r 1 (.eptr [.func 207 []])] 2 [.r 0 .Tty,.r 1 .B] fun x=>GN n x
def Q9(n:Nat):Ent:=E0 208 1 [.r 0 .Tty] 2 [.r 0 .Tty,.r 1 .B] fun x=>al5 n x
def NH(n:Nat):Ent:=E0 269 2 [.r 0 .Lty,.r 1 (.eptr [.func 208 []])] 2 [.r 0 .Tty,.r 1 .B] fun x=>G5 n x
def UD(n:Nat):Ent:=E0 195 1 [.r 0 .Tty] 2 [.r 0 .Tty,.r 1 .B] fun x=>apc n x
def NU(n:Nat):Ent:=E0 269 2 [.r 0 .Lty,.r 1 (.eptr [.func 195 []])] 2 [.r 0 .Tty,.r 1 .B] fun x=>vB n x
def RZ(n:Nat):Ent:=E0 209 3 [.r 0 .Tty,.r 1 .Tty,.r 2 .Lty] 2 [.r 0 .Tty,.r 1 .B] fun x=>amb n x.1 x.2.1 x.2.2
def ES(n:Nat):Ent:=E0 268 2 [.r 0 .Lty,.r 1 (.eptr [.func 209 []])] 2 [.r 0 .Tty,.r 1 .B] fun x=>zl n x
def QH(n:Nat):Ent:=E0 210 3 [.r 0 .Tty,.r 1 .Tty,.r 2 .Lty] 2 [.r 0 .Tty,.r 1 .B] fun x=>al7 n x.1 x.2.1 x.2.2
def EO(n:Nat):Ent:=E0 268 2 [.r 0 .Lty,.r 1 (.eptr [.func 210 []])] 2 [.r 0 .Tty,.r 1 .B] fun x=>yI n x
def RN(n:Nat):Ent:=E0 211 3 [.r 0 .Tty,.r 1 .Tty,.r 2 .Lty] 2 [.r 0 .Tty,.r 1 .B] fun x=>ak3 n x.1 x.2.1 x.2.2
def ER(n:Nat):Ent:=E0 268 2 [.r 0 .Lty,.r 1 (.eptr [.func 211 []])] 2 [.r 0 .Tty,.r 1 .B] fun x=>yS n x
def RV(n:Nat):Ent:=E0 212 3 [.r 0 .Tty,.r 1 .Tty,.r 2 .Lty] 2 [.r 0 .Tty,.r 1 .B] fun x=>V4 n x.1 x.2.1 x.2.2
def EX(n:Nat):Ent:=E0 268 2 [.r 0 .Lty,.r 1 (.eptr [.func 212 []])] 2 [.r 0 .Tty,.r 1 .B] fun x=>y5 n x
def RY(n:Nat):Ent:=E0 213 3 [.r 0 .Tty,.r 1 .Tty,.r 2 .Lty] 2 [.r 0 .Tty,.r 1 .B] fun x=>V5 n x.1 x.2.1 x.2.2
def EP(n:Nat):Ent:=E0 268 2 [.r 0 .Lty,.r 1 (.eptr [.func 213 []])] 2 [.r 0 .Tty,.r 1 .B] fun x=>yD n x
def Pe(n:Nat):Ent:=E0 271 2 [.r 0 .Lty,.r 1 (.eptr [.func 199 []])] 2 [.r 0 .Tty,.r 1 .B] fun x=>JJ n x
def Ro(n:Nat):Ent:=E0 214 1 [.r 0 .Lty] 2 [.r 0 .Tty,.r 1 .B] fun x=>L9 n x
def BO(n:Nat):Ent:=E0 58 3 [.r 0 (.ptr 0 0),.r 1 .Ttm,.r 2 .Fd,.w (.box (.mapr 1:: .mapr 2::(Ta [.psl 3 1]))),.w (.mp .ty),.w (.mp .b),.w (.arr .i)] 2 [.r 0 .Tty,.r 1 .I,.w (.arr .i),.o 0 (.bx [(59,.psl 4 1)]),.o 3 (.dead)] fun x=>mP n x.2.2.1 x.2.2.2.1 x.2.2.2.2 x.1 x.2.1
def xq(n:Nat):Ent:=E0 115 4 [.r 0 (.ptr 0 0),.r 1 .Ttm,.r 2 .I,.r 3 .Fd,.w (.box (.mapr 1:: .mapr 2::(Ta [.psl 3 1]))),.w (.mp .ty),.w (.mp .b),.w (.arr .i)] 2 [.r 0 .Tty,.r 1 .I,.w (.arr .i),.o 0 (.bx [(59,.psl 4 1)]),.o 3 (.dead)] fun x=>j6 n x.2.2.2.1 x.2.2.2.2.1 x.2.2.2.2.2 x.1 x.2.1 x.2.2.1
def OG(n:Nat):Ent:=E0 60 1 [.r 0 .Tty] 1 [.r 0 .Tty] fun x=>su n x
def TU(n:Nat):Ent:=E0 27 2 [.r 0 .Tenv,.r 1 .Ttm] 3 [.r 0 .Tty,.r 1 .Li,.r 2 .I] fun x=>A8 n x.1 x.2
def ZX(n:Nat):Ent:=⟨28,1,[.r 0 (.agg [.Lcar,.Ldec,.Li,.Lval])],1,[.r 0 (.ptr 1 0),.w (.arr .bnd),.w (.box [.Lcar,.Ldec,.Li,.mapr 2,.psl 0 5]),.w (.mp .val)],((List Carrier)×(List Decl)×(List Int)×(List (Str×Val))×(List Bound)),none,none,fun x=>Mt n (S_api_World.mk (Env.mk x.1 x.2.1) x.2.2.1 x.2.2.2),fun r=>(r.2.2.2.2,r.1,r.2.1,r.2.2.1,r.2.2.2.1)⟩
def adb(n:Nat):Ent:=E0 122 1 [.r 0 .B] 1 [.r 0 .Tval] fun x=>bN n x
def Xv(n:Nat):Ent:=⟨123,1,[.r 0 .I],1,[.r 0 .Tval],Val,(some []),none,fun x=>jK n x,fun r=>r⟩
def af0(n:Nat):Ent:=E0 221 2 [.r 0 .Tval,.r 1 .Tval] 1 [.r 0 .Tval] fun x=>ayA n x.1 x.2
def Ga(n:Nat):Ent:=E0 220 6 [.r 0 .Tval,.r 1 .Tval,.r 2 (.ptr 0 0),.r 3 (.ptr 1 0),.r 4 (.ptr 3 0),.r 5 (.ptr 4 0),.w (.box [.I,.S,.I,.I,.S,.Lty,.Ltm]),.w (.box [.psl 2 4]),.w (.arr .val),.w (.box [.B]),.w (.box [.B])] 0 [.w (.arr .val),.o 1 (.bx [(0,.psl 5 4)]),.o 2 (.dead),.o 3 (.bx [(0,.lf .b)]),.o 4 (.bx [(0,.lf .b)])] fun x=>tQ n x.1 x.2.1 x.2.2.1 x.2.2.2.1 x.2.2.2.2.1 x.2.2.2.2.2.1 x.2.2.2.2.2.2.1 x.2.2.2.2.2.2.2.1 x.2.2.2.2.2.2.2.2.1 x.2.2.2.2.2.2.2.2.2.1 x.2.2.2.2.2.2.2.2.2.2.1 x.2.2.2.2.2.2.2.2.2.2.2
def ahW(n:Nat):Ent:=⟨129,1,[.r 0 .Lval],1,[.r 0 .Tval],Val,(some []),none,fun x=>Ab n x,fun r=>r⟩
def XG(n:Nat):Ent:=E0 222 1 [.r 0 .I] 1 [.r 0 .B] fun x=>yV n x
def vI(n:Nat):Ent:=E0 274 3 [.r 0 .Lval,.r 1 .Tval,.r 2 (.func 76 [])] 2 [.r 0 .I,.r 1 .B] fun x=>pX n x.1 x.2
def Tc(n:Nat):Ent:=E0 224 2 [.r 0 .Lval,.r 1 .Tval] 1 [.r 0 .B] fun x=>gL n x.1 x.2
def Fb(n:Nat):Ent:=E0 223 2 [.r 0 .Tval,.r 1 (.eptr [.Lval])] 1 [.r 0 .B] fun x=>jM n x.1 x.2
def Cr(n:Nat):Ent:=E0 226 2 [.r 0 .Tval,.r 1 (.eptr [.Lval])] 1 [.r 0 .B] fun x=>vO n x.1 x.2
def aac(n:Nat):Ent:=E0 128 2 [.r 0 .Lval,.r 1 (.func 226 [.eptr [.Lval]])] 1 [.r 0 .Lval] fun x=>afW n x.1 x.2
def EN(n:Nat):Ent:=E0 225 2 [.r 0 .Tval,.r 1 (.eptr [.Lval])] 1 [.r 0 .B] fun x=>jP n x.1 x.2
def ZU(n:Nat):Ent:=E0 275 1 [.r 0 .Lval] 1 [.r 0 .Lval] fun x=>BH n x
def WC(n:Nat):Ent:=E0 276 1 [.r 0 .Lval] 1 [.r 0 .Lval] fun x=>rz n x
def Ut(n:Nat):Ent:=E0 228 4 [.r 0 .I,.r 1 .Lval,.r 2 .Lval,.r 3 .Lval] 1 [.r 0 .B] fun x=>wu n x.1 x.2.1 x.2.2.1 x.2.2.2
def EW(n:Nat):Ent:=E0 227 4 [.r 0 .Tval,.r 1 (.eptr [.I,.S,.I,.I,.S,.Lty,.Ltm]),.r 2 (.eptr [.Lval]),.r 3 (.eptr [.Lval])] 1 [.r 0 .B] fun x=>lF n x.1 x.2.1 x.2.2.1 x.2.2.2.1 x.2.2.2.2.1 x.2.2.2.2.2.1 x.2.2.2.2.2.2.1 x.2.2.2.2.2.2.2.1 x.2.2.2.2.2.2.2.2.1 x.2.2.2.2.2.2.2.2.2
def Uh(n:Nat):Ent:=E0 128 2 [.r 0 .Lval,.r 1 (.func 223 [.eptr [.Lval]])] 1 [.r 0 .Lval] fun x=>Gf n x.1 x.2
def Uo(n:Nat):Ent:=E0 128 2 [.r 0 .Lval,.r 1 (.func 225 [.eptr [.Lval]])] 1 [.r 0 .Lval] fun x=>Gq n x.1 x.2
def Tq(n:Nat):Ent:=E0 128 2 [.r 0 .Lval,.r 1 (.func 227 [.eptr [.I,.S,.I,.I,.S,.Lty,.Ltm],.eptr [.Lval],.eptr [.Lval]])] 1 [.r 0 .Lval] fun x=>Gr n x.1 x.2.1 x.2.2.1 x.2.2.2.1 x.2.2.2.2.1 x.2.2.2.2.2.1 x.2.2.2.2.2.2.1 x.2.2.2.2.2.2.2.1 x.2.2.2.2.2.2.2.2.1 x.2.2.2.2.2.2.2.2.2
def WE(n:Nat):Ent:=E0 229 2 [.r 0 .Tval,.r 1 (.ptr 0 0),.w (.box [.I,.I,.S,.Lval])] 1 [.r 0 .B] fun x=>Jj n x.1 x.2.1 x.2.2.1 x.2.2.2.1 x.2.2.2.2
def Ti(n:Nat):Ent:=E0 128 2 [.r 0 .Lval,.r 1 (.func 229 [.ptr 0 0]),.w (.box [.I,.I,.S,.Lval])] 1 [.r 0 .Lval] fun x=>aaq n x.1 x.2.1 x.2.2.1 x.2.2.2.1 x.2.2.2.2
def O8(n:Nat):Ent:=⟨230,3,[.r 0 .I,.r 1 .I,.r 2 .I],1,[.r 0 .Tval],Val,(some []),none,fun x=>JX n x.1 x.2.1 x.2.2,fun r=>r⟩
def Ip(n:Nat):Ent:=E0 279 1 [.r 0 .Lvals] 1 [.r 0 .Lval] fun x=>qg n x
def ZH(n:Nat):Ent:=E0 278 2 [.r 0 .Tval,.r 1 (.ptr 0 0),.w (.box [.Lval])] 1 [.r 0 .B] fun x=>xH n x.1 x.2
def Uz(n:Nat):Ent:=E0 128 2 [.r 0 .Lval,.r 1 (.func 278 [.ptr 0 0]),.w (.box [.Lval])] 1 [.r 0 .Lval] fun x=>Z8 n x.1 x.2
def Z0(n:Nat):Ent:=E0 280 2 [.r 0 .Tval,.r 1 (.ptr 0 0),.w (.box [.func 278 [.ptr 1 0]]),.w (.box [.Lval])] 1 [.r 0 .B] fun x=>Ve n x.1 x.2
def Ub(n:Nat):Ent:=E0 128 2 [.r 0 .Lval,.r 1 (.func 280 [.ptr 0 0]),.w (.box [.func 278 [.ptr 1 0]]),.w (.box [.Lval])] 1 [.r 0 .Lval] fun x=>aaB n x.1 x.2
def Z7(n:Nat):Ent:=E0 281 2 [.r 0 .Tval,.r 1 (.ptr 0 0),.w (.box [.Lval])] 1 [.r 0 .B] fun x=>Md n x.1 x.2
def Tv(n:Nat):Ent:=E0 128 2 [.r 0 .Lval,.r 1 (.func 281 [.ptr 0 0]),.w (.box [.Lval])] 1 [.r 0 .Lval] fun x=>aam n x.1 x.2
def ZO(n:Nat):Ent:=E0 277 2 [.r 0 .Tval,.r 1 (.ptr 0 0),.w (.box [.Lval])] 1 [.r 0 .B] fun x=>Vu n x.1 x.2
def aat(n:Nat):Ent:=E0 282 2 [.r 0 .Tval,.r 1 (.ptr 0 0),.w (.box [.func 277 [.ptr 1 0]]),.w (.box [.Lval])] 1 [.r 0 .B] fun x=>MI n x.1 x.2
def Uc(n:Nat):Ent:=E0 128 2 [.r 0 .Lval,.r 1 (.func 282 [.ptr 0 0]),.w (.box [.func 277 [.ptr 1 0]]),.w (.box [.Lval])] 1 [.r 0 .Lval] fun x=>ZT n x.1 x.2
def ZM(n:Nat):Ent:=E0 283 2 [.r 0 .Tval,.r 1 (.ptr 0 0),.w (.box [.func 277 [.ptr 1 0]]),.w (.box [.Lval])] 1 [.r 0 .B] fun x=>MG n x.1 x.2
def Uw(n:Nat):Ent:=E0 128 2 [.r 0 .Lval,.r 1 (.func 283 [.ptr 0 0]),.w (.box [.func 277 [.ptr 1 0]]),.w (.box [.Lval])] 1 [.r 0 .Lval] fun x=>aal n x.1 x.2
def aau(n:Nat):Ent:=E0 284 2 [.r 0 .Tval,.r 1 (.ptr 0 0),.w (.box [.func 278 [.ptr 1 0]]),.w (.box [.Lval])] 1 [.r 0 .B] fun x=>Mv n x.1 x.2
def Sc(n:Nat):Ent:=E0 128 2 [.r 0 .Lval,.r 1 (.func 284 [.ptr 0 0]),.w (.box [.func 278 [.ptr 1 0]]),.w (.box [.Lval])] 1 [.r 0 .Lval] fun x=>XF n x.1 x.2
def ZQ(n:Nat):Ent:=E0 285 2 [.r 0 .Tval,.r 1 (.ptr 0 0),.w (.box [.func 278 [.ptr 1 0]]),.w (.box [.Lval])] 1 [.r 0 .B] fun x=>Mg n x.1 x.2
def RD(n:Nat):Ent:=E0 128 2 [.r 0 .Lval,.r 1 (.func 285 [.ptr 0 0]),.w (.box [.func 278 [.ptr 1 0]]),.w (.box [.Lval])] 1 [.r 0 .Lval] fun x=>WQ n x.1 x.2
def Xw(n:Nat):Ent:=E0 286 1 [.r 0 .Lval] 1 [.r 0 .Lvals] fun x=>Jh n x
def ZW(n:Nat):Ent:=E0 287 2 [.r 0 .Tval,.r 1 (.ptr 0 0),.w (.box [.func 278 [.ptr 1 0]]),.w (.box [.Lval])] 1 [.r 0 .B] fun x=>Mj n x.1 x.2
def QW(n:Nat):Ent:=E0 128 2 [.r 0 .Lval,.r 1 (.func 287 [.ptr 0 0]),.w (.box [.func 278 [.ptr 1 0]]),.w (.box [.Lval])] 1 [.r 0 .Lval] fun x=>VL n x.1 x.2
def afK(n:Nat):Ent:=E0 308 3 [.r 0 .I,.r 1 .I,.r 2 .I] 1 [.r 0 .B] fun x=>Nf n x.1 x.2.1 x.2.2
def Ww(n:Nat):Ent:=E0 307 3 [.r 0 .I,.r 1 .I,.r 2 .I] 1 [.r 0 .B] fun x=>Di n x.1 x.2.1 x.2.2
def M0(n:Nat):Ent:=E0 309 7 [.r 0 .I,.r 1 .Lval,.r 2 (.ptr 0 0),.r 3 (.ptr 1 0),.r 4 (.ptr 2 0),.r 5 (.ptr 3 0),.r 6 (.ptr 5 0),.w (.box [.Lval]),.w (.box [.I]),.w (.box [.Lval]),.w (.box [.psl 4 4]),.w (.arr .val),.w (.box [.func 309 [.ptr 0 0,.ptr 1 0,.ptr 2 0,.ptr 3 0,.ptr 5 0]])] 0 [.w (.arr .val),.o 3 (.bx [(0,.psl 6 4)]),.o 4 (.dead)] fun x=>iP n x.1 x.2.1 x.2.2.1 x.2.2.2.1 x.2.2.2.2.1 x.2.2.2.2.2
def Sg(n:Nat):Ent:=⟨288,3,[.r 0 .I,.r 1 .Lval,.r 2 .Lval],1,[.r 0 .Lval],(List Val),(some []),none,fun x=>D9 n x.1 x.2.1 x.2.2,fun r=>r⟩
def ae4(n:Nat):Ent:=⟨231,3,[.r 0 .I,.r 1 .Tval,.r 2 .Tval],1,[.r 0 .Tval],Val,(some []),none,fun x=>Tw n x.1 x.2.1 x.2.2,fun r=>r⟩
def acP(n:Nat):Ent:=⟨130,3,[.r 0 .I,.r 1 .Tval,.r 2 .Tval],1,[.r 0 .Tval],Val,(some []),none,fun x=>oz n x.1 x.2.1 x.2.2,fun r=>r⟩
def uQ(n:Nat):Ent:=⟨127,2,[.r 0 (.ptr 0 0),.r 1 .Ttm,.w (.box [.Lcar,.Ldec,.Li,.mapr 1,.psl 2 5]),.w (.mp .val),.w (.arr .bnd)],1,[.r 0 (.func 227 [.eptr [.I,.S,.I,.I,.S,.Lty,.Ltm],.eptr [.Lval],.eptr [.Lval]]),.w (.arr .bnd),.o 0 (.bx [(4,.psl 3 5)]),.o 2 (.dead)],(Int×Str×Int×Int×Str×(List Ty)×(List Tm)×(List Val)×(List Val)×(List Bound)),(some [.w (.arr .bnd),.o 0 (.bx [(4,.psl 3 5)]),.o 2 .dead]),none,fun x=>bJ n x.2.1 x.2.2.1 x.2.2.2.1 x.2.2.2.2.1 x.2.2.2.2.2 x.1,fun r=>r⟩
def uX(n:Nat):Ent:=⟨127,2,[.r 0 (.ptr 0 0),.r 1 .Ttm,.w (.box [.Lcar,.Ldec,.Li,.mapr 1,.psl 2 5]),.w (.mp .val),.w (.arr .bnd)],1,[.r 0 (.func 225 [.eptr [.Lval]]),.w (.arr .bnd),.o 0 (.bx [(4,.psl 3 5)]),.o 2 (.dead)],((List Val)×(List Bound)),(some [.w (.arr .bnd),.o 0 (.bx [(4,.psl 3 5)]),.o 2 .dead]),(some fun x=>(x.1.op==46)),fun x=>bK n x.2.1 x.2.2.1 x.2.2.2.1 x.2.2.2.2.1 x.2.2.2.2.2 x.1,fun r=>r⟩
def vg(n:Nat):Ent:=⟨127,2,[.r 0 (.ptr 0 0),.r 1 .Ttm,.w (.box [.Lcar,.Ldec,.Li,.mapr 1,.psl 2 5]),.w (.mp .val),.w (.arr .bnd)],1,[.r 0 (.func 223 [.eptr [.Lval]]),.w (.arr .bnd),.o 0 (.bx [(4,.psl 3 5)]),.o 2 (.dead)],((List Val)×(List Bound)),(some [.w (.arr .bnd),.o 0 (.bx [(4,.psl 3 5)]),.o 2 .dead]),(some fun x=>(decide (x.1.op<41) ||decide (46<x.1.op))),fun x=>bI n x.2.1 x.2.2.1 x.2.2.2.1 x.2.2.2.2.1 x.2.2.2.2.2 x.1,fun r=>r⟩
def DL(n:Nat):Ent:=⟨219,3,[.r 0 (.ptr 0 0),.r 1 .Ttm,.r 2 (.func 220 [.ptr 3 0,.ptr 4 0,.ptr 6 0,.ptr 7 0]),.w (.box [.Lcar,.Ldec,.Li,.mapr 1,.psl 2 5]),.w (.mp .val),.w (.arr .bnd),.w (.box [.I,.S,.I,.I,.S,.Lty,.Ltm]),.w (.box [.psl 5 4]),.w (.arr .val),.w (.box [.B]),.w (.box [.B])],0,[.w (.arr .bnd),.w (.arr .val),.o 0 (.bx [(4,.psl 8 5)]),.o 2 (.dead),.o 4 (.bx [(0,.psl 9 4)]),.o 5 (.dead),.o 6 (.bx [(0,.lf .b)]),.o 7 (.bx [(0,.lf .b)])],((List Bound)×(List Val)×Bool×Bool),(some [.w (.arr .bnd),.w (.arr .val),.o 0 (.bx [(4,.psl 8 5)]),.o 4 (.bx [(0,.psl 9 4)]),.o 2 .dead,.o 5 .dead,.o 6 .dead,.o 7 .dead]),none,fun x=>dw n x.2.1 x.2.2.1 x.2.2.2.1 x.2.2.2.2.1 x.2.2.2.2.2.1 x.1 x.2.2.2.2.2.2.1 x.2.2.2.2.2.2.2.1 x.2.2.2.2.2.2.2.2.1 x.2.2.2.2.2.2.2.2.2.1 x.2.2.2.2.2.2.2.2.2.2.1 x.2.2.2.2.2.2.2.2.2.2.2.1 x.2.2.2.2.2.2.2.2.2.2.2.2.1 x.2.2.2.2.2.2.2.2.2.2.2.2.2.1 x.2.2.2.2.2.2.2.2.2.2.2.2.2.2.1 x.2.2.2.2.2.2.2.2.2.2.2.2.2.2.2,fun r=>r⟩
def Ac(n:Nat):Ent:=⟨126,2,[.r 0 (.ptr 0 0),.r 1 .Ttm,.w (.box [.Lcar,.Ldec,.Li,.mapr 1,.psl 2 5]),.w (.mp .val),.w (.arr .bnd)],1,[.r 0 .Tval,.w (.arr .bnd),.o 0 (.bx [(4,.psl 3 5)]),.o 2 (.dead)],(Val×(List Bound)),(some [.w (.arr .bnd),.o 0 (.bx [(4,.psl 3 5)]),.o 2 .dead]),none,fun x=>dJ n x.2.1 x.2.2.1 x.2.2.2.1 x.2.2.2.2.1 x.2.2.2.2.2 x.1,fun r=>r⟩
def nP(n:Nat):Ent:=⟨62,2,[.r 0 (.ptr 0 0),.r 1 .Ttm,.w (.box [.Lcar,.Ldec,.Li,.mapr 1,.psl 2 5]),.w (.mp .val),.w (.arr .bnd)],1,[.r 0 .Tval,.w (.arr .bnd),.o 0 (.bx [(4,.psl 3 5)]),.o 2 (.dead)],(Val×(List Bound)),(some [.w (.arr .bnd),.o 0 (.bx [(4,.psl 3 5)]),.o 2 .dead]),none,fun x=>aM n x.2.1 x.2.2.1 x.2.2.2.1 x.2.2.2.2.1 x.2.2.2.2.2 x.1,fun r=>r⟩
def xD(n:Nat):Ent:=⟨125,2,[.r 0 (.ptr 0 0),.r 1 .Ttm,.w (.box [.Lcar,.Ldec,.Li,.mapr 1,.psl 2 5]),.w (.mp .val),.w (.arr .bnd)],1,[.r 0 .Tval,.w (.arr .bnd),.o 0 (.bx [(4,.psl 3 5)]),.o 2 (.dead)],(Val×(List Bound)),(some [.w (.arr .bnd),.o 0 (.bx [(4,.psl 3 5)]),.o 2 .dead]),none,fun x=>dD n x.2.1 x.2.2.1 x.2.2.2.1 x.2.2.2.2.1 x.2.2.2.2.2 x.1,fun r=>r⟩
def jH(n:Nat):Ent:=E0 29 2 [.r 0 (.ptr 0 0),.r 1 .Ttm,.w (.box [.Lcar,.Ldec,.Li,.mapr 1,.psl 2 5]),.w (.mp .val),.w (.arr .bnd)] 2 [.r 0 .Tval,.r 1 .I,.w (.arr .bnd),.o 0 (.bx [(4,.psl 3 5)]),.o 2 (.dead)] fun x=>rW n x.2.1 x.2.2.1 x.2.2.2.1 x.2.2.2.2.1 x.2.2.2.2.2 x.1
def aas(n:Nat):Ent:=E0 30 1 [.r 0 .Tval] 1 [.r 0 .Tval] fun x=>uE n x
def afZ(n:Nat):Ent:=E0 9 2 [.r 0 (.agg [.Lcar,.Ldec,.Li,.Lval]),.r 1 .Ttm] 2 [.r 0 .Tval,.r 1 .I] fun x=>mU n (S_api_World.mk (Env.mk x.1 x.2.1) x.2.2.1 x.2.2.2.1) x.2.2.2.2
def WJ(n:Nat):Ent:=E0 67 1 [.r 0 .Tty] 1 [.r 0 .B] fun x=>uV n x
def ZA(n:Nat):Ent:=E0 133 1 [.r 0 .Tty] 1 [.r 0 .Ls] fun x=>BI n x
def QX(n:Nat):Ent:=E0 83 2 [.r 0 .Tenv,.r 1 .S] 1 [.r 0 .I] fun x=>nT n x.1 x.2
def aie(n:Nat):Ent:=E0 68 2 [.r 0 .Tenv,.r 1 .Tty] 1 [.r 0 .B] fun x=>K5 n x.1 x.2
def aai(n:Nat):Ent:=E0 69 1 [.r 0 .Tenv] 1 [.r 0 (.own 0),.w (.own .s)] fun x=>ME n x
def aaz(n:Nat):Ent:=E0 31 1 [.r 0 .Tenv] 1 [.r 0 .B] fun x=>BG n x
def arS(n:Nat):Ent:=E0 21 0 [] 1 [.r 0 .Tty] fun x=>aG8 n
def LG(n:Nat):Ent:=E0 13 2 [.r 0 .Tval,.r 1 .Tval] 1 [.r 0 .B] fun x=>dB n x.1 x.2
def Kg(n:Nat):Ent:=E0 35 2 [.r 0 .Lval,.r 1 .Lval] 1 [.r 0 .B] fun x=>vY n x.1 x.2
def e_eval_copyType(n:Nat):Ent:=E0 96 1 [.r 0 .Tty] 1 [.r 0 .Tty] fun x=>eval_copyType n x
def anh(n:Nat):Ent:=E0 40 2 [.r 0 .Tenv,.r 1 .Li] 1 [.r 0 .B] fun x=>VG n x.1 x.2
def an2(n:Nat):Ent:=E0 157 2 [.r 0 .I,.r 1 .I] 1 [.r 0 .I] fun x=>LM n x.1 x.2
def ac6(n:Nat):Ent:=E0 84 2 [.r 0 .Tval,.r 1 .Tval] 1 [.r 0 .I] fun x=>nI n x.1 x.2
def aqN(n:Nat):Ent:=E0 41 4 [.r 0 .Tenv,.r 1 .Li,.r 2 .Tval,.r 3 .Tty] 1 [.r 0 .B] fun x=>wU n x.1 x.2.1 x.2.2.1 x.2.2.2
def Uj(n:Nat):Ent:=E0 18 1 [.r 0 (.agg [.Lcar,.Ldec,.Li,.Lval])] 1 [.r 0 .B] fun x=>AO n (S_api_World.mk (Env.mk x.1 x.2.1) x.2.2.1 x.2.2.2)
def Xi(n:Nat):Ent:=E0 94 2 [.r 0 .S,.r 1 (.ptr 0 0),.w (.box [.Lcar,.Ldec])] 1 [.r 0 .B] fun x=>Jb n x.1 x.2.1 x.2.2
def zC(n:Nat):Ent:=E0 166 2 [.r 0 .Ls,.r 1 (.func 94 [.ptr 0 0]),.w (.box [.Lcar,.Ldec])] 1 [.r 0 .I] fun x=>tL n x.1 x.2.1 x.2.2
def xg(n:Nat):Ent:=E0 92 2 [.r 0 .Ls,.r 1 (.func 94 [.ptr 0 0]),.w (.box [.Lcar,.Ldec])] 1 [.r 0 .B] fun x=>qj n x.1 x.2.1 x.2.2
def abY(n:Nat):Ent:=E0 43 2 [.r 0 .Tenv,.r 1 .Tty] 1 [.r 0 .B] fun x=>Px n x.1 x.2
def e_eval_wide(n:Nat):Ent:=E0 45 1 [.r 0 .Tenv] 1 [.r 0 .Li] fun x=>eval_wide n x
def e_eval_literal(n:Nat):Ent:=⟨47,3,[.r 0 .Tenv,.r 1 .Tval,.r 2 .Tty],1,[.r 0 .Ttm],Tm,(some []),none,fun x=>eval_literal n x.1 x.2.1 x.2.2,fun r=>r⟩
def e_eval_Literal(n:Nat):Ent:=E0 19 3 [.r 0 .Tenv,.r 1 .Tval,.r 2 .Tty] 2 [.r 0 .Ttm,.r 1 .I] fun x=>eval_Literal n x.1 x.2.1 x.2.2
def e_L3_EvalLiteralBack(n:Nat):Ent:=E0 5 3 [.r 0 (.agg [.Lcar,.Ldec,.Li,.Lval]),.r 1 .Tval,.r 2 .Tty] 1 [.r 0 .B] fun x=>L3_EvalLiteralBack n (S_api_World.mk (Env.mk x.1 x.2.1) x.2.2.1 x.2.2.2.1) x.2.2.2.2.1 x.2.2.2.2.2
def afM(n:Nat):Ent:=E0 22 1 [.r 0 .I] 1 [.r 0 .Tval] fun x=>ayr n x
def aoi(n:Nat):Ent:=E0 98 1 [.r 0 .U] 1 [.r 0 .B] fun x=>auF n x
def Vi(n:Nat):Ent:=E0 102 1 [.r 0 .S] 1 [.r 0 .I] fun x=>anE n x
def anA(n:Nat):Ent:=E0 103 2 [.r 0 .S,.r 1 .I] 1 [.r 0 .S] fun x=>avy n x.1 x.2
def ahm(n:Nat):Ent:=⟨49,2,[.r 0 .S,.r 1 .I],1,[.r 0 (.agg [.I,.S,.I])],S_refinementref01_token,none,none,fun x=>aqn n x.1 x.2,fun r=>(r.kind,r.s,r.at_)⟩
def Lg(n:Nat):Ent:=E0 52 1 [.r 0 (.ptr 0 0),.w (.box [.S,.I,.S,.I,.I,.I,.I])] 1 [.r 0 .B] fun x=>asu n x.1 x.2.1 x.2.2.1 x.2.2.2.1 x.2.2.2.2.1 x.2.2.2.2.2.1 x.2.2.2.2.2.2
def KJ(n:Nat):Ent:=E0 104 2 [.r 0 (.ptr 0 0),.r 1 .S,.w (.box [.S,.I,.S,.I,.I,.I,.I])] 1 [.r 0 .B] fun x=>acK n x.2.1 x.2.2.1 x.2.2.2.1 x.2.2.2.2.1 x.2.2.2.2.2.1 x.2.2.2.2.2.2.1 x.2.2.2.2.2.2.2 x.1
def Rt(n:Nat):Ent:=E0 172 3 [.r 0 (.ptr 0 0),.r 1 .I,.r 2 .I,.w (.box [.S,.I,.S,.I,.I,.I,.I])] 0 [.o 0 (.bx [(5,.lf (.n .i64)),(6,.lf (.n .i64))])] fun x=>L8 n x.2.2.1 x.2.2.2.1 x.2.2.2.2.1 x.2.2.2.2.2.1 x.2.2.2.2.2.2.1 x.2.2.2.2.2.2.2.1 x.2.2.2.2.2.2.2.2 x.1 x.2.1
def GK(n:Nat):Ent:=E0 105 1 [.r 0 (.ptr 0 0),.w (.box [.S,.I,.S,.I,.I,.I,.I])] 0 [.o 0 (.bx [(1,.lf (.n .i64)),(2,.lf .s),(3,.lf (.n .i64)),(4,.lf (.n .i64)),(5,.lf (.n .i64)),(6,.lf (.n .i64))])] fun x=>LY n x.1 x.2.1 x.2.2.1 x.2.2.2.1 x.2.2.2.2.1 x.2.2.2.2.2.1 x.2.2.2.2.2.2
def FE(n:Nat):Ent:=E0 108 1 [.r 0 (.ptr 0 0),.w (.box [.S,.I,.S,.I,.I,.I,.I])] 0 [.o 0 (.bx [(5,.lf (.n .i64)),(6,.lf (.n .i64))])] fun x=>Ck n x.1 x.2.1 x.2.2.1 x.2.2.2.1 x.2.2.2.2.1 x.2.2.2.2.2.1 x.2.2.2.2.2.2
def GV(n:Nat):Ent:=E0 261 2 [.r 0 (.ptr 0 0),.r 1 .S,.w (.box [.S,.I,.S,.I,.I,.I,.I])] 0 [.o 0 (.bx [(1,.lf (.n .i64)),(2,.lf .s),(3,.lf (.n .i64)),(4,.lf (.n .i64)),(5,.lf (.n .i64)),(6,.lf (.n .i64))])] fun x=>akU n x.2.1 x.2.2.1 x.2.2.2.1 x.2.2.2.2.1 x.2.2.2.2.2.1 x.2.2.2.2.2.2.1 x.2.2.2.2.2.2.2 x.1
def zS(n:Nat):Ent:=E0 300 1 [.r 0 (.ptr 0 0),.w (.box [.S,.I,.S,.I,.I,.I,.I])] 1 [.r 0 .B] fun x=>ade n x.1 x.2.1 x.2.2.1 x.2.2.2.1 x.2.2.2.2.1 x.2.2.2.2.2.1 x.2.2.2.2.2.2
def ZR(n:Nat):Ent:=E0 302 1 [.r 0 .S] 1 [.r 0 .I] fun x=>af5 n x
def WW(n:Nat):Ent:=E0 303 1 [.r 0 .S] 1 [.r 0 .I] fun x=>abl n x
def anX(n:Nat):Ent:=E0 304 1 [.r 0 .S] 1 [.r 0 .I] fun x=>auE n x
def afy(n:Nat):Ent:=E0 262 1 [.r 0 .S] 2 [.r 0 .I,.r 1 .I] fun x=>amL n x
def AA(n:Nat):Ent:=E0 175 2 [.r 0 (.ptr 0 0),.r 1 .I,.w (.box [.S,.I,.S,.I,.I,.I,.I])] 1 [.r 0 .I] fun x=>acE n x.2.1 x.2.2.1 x.2.2.2.1 x.2.2.2.2.1 x.2.2.2.2.2.1 x.2.2.2.2.2.2.1 x.2.2.2.2.2.2.2 x.1
def GZ(n:Nat):Ent:=E0 301 1 [.r 0 (.ptr 0 0),.w (.box [.S,.I,.S,.I,.I,.I,.I])] 1 [.r 0 .S,.o 0 (.bx [(1,.lf (.n .i64)),(2,.lf .s),(3,.lf (.n .i64)),(4,.lf (.n .i64)),(5,.lf (.n .i64)),(6,.lf (.n .i64))])] fun x=>akR n x.1 x.2.1 x.2.2.1 x.2.2.2.1 x.2.2.2.2.1 x.2.2.2.2.2.1 x.2.2.2.2.2.2
def Vk(n:Nat):Ent:=E0 260 1 [.r 0 .S] 1 [.r 0 .I] fun x=>aAG n x
def Je(n:Nat):Ent:=E0 51 1 [.r 0 (.ptr 0 0),.w (.box [.S,.I,.S,.I,.I,.I,.I])] 0 [.o 0 (.bx [(5,.lf (.n .i64)),(6,.lf (.n .i64))])] fun x=>aoT n x.1 x.2.1 x.2.2.1 x.2.2.2.1 x.2.2.2.2.1 x.2.2.2.2.2.1 x.2.2.2.2.2.2
def NI(n:Nat):Ent:=E0 53 2 [.r 0 .Tenv,.r 1 .Ttm] 1 [.r 0 .I] fun x=>Ao n x.1 x.2
def e_eval_interp_holds(n:Nat):Ent:=E0 54 2 [.r 0 (.ptr 0 0),.r 1 .Ttm,.w (.box [.Lcar,.Ldec,.Li,.mapr 1,.psl 2 5]),.w (.mp .val),.w (.arr .bnd)] 2 [.r 0 .B,.r 1 .I,.w (.arr .bnd),.o 0 (.bx [(4,.psl 3 5)]),.o 2 (.dead)] fun x=>eval_interp_holds n x.2.1 x.2.2.1 x.2.2.2.1 x.2.2.2.2.1 x.2.2.2.2.2 x.1
def ac3(n:Nat):Ent:=E0 24 2 [.r 0 (.agg [.Lcar,.Ldec,.Li,.Lval]),.r 1 .Ttm] 2 [.r 0 .B,.r 1 .I] fun x=>j4 n (S_api_World.mk (Env.mk x.1 x.2.1) x.2.2.1 x.2.2.2.1) x.2.2.2.2
theorem mk(m:Nat)(hs:List (Nat×Hn)){E:List Ent}{fn:Func}{e:Ent}{inn:jI (bM e.rs)→Option e.R}(hE:EOs Tryz.prog TE E)(hf:Tryz.prog.funcs[e.f]? =some fn)(hc:amg Tryz.prog fn e=true:=by kernel_rfl)(hinn:∀z y,inn z=some y→e.out y=z:=by exact sm)(q:∀x,amq τ θ m hs E TE fn e inn x=e.F x:=by intro _;kernel_rfl):ah Tryz.prog TE e:=mkE yJ (by kernel_rfl) (by kernel_rfl) hE hf hc hinn q
theorem MKS m hs{E fn f na ps nr rs F}(hE:EOs Tryz.prog TE E)(hf:Tryz.prog.funcs[f]? =some fn)(hc:amg Tryz.prog fn (E0 f na ps nr rs F)=true:=by kernel_rfl)(q:∀x,amq τ θ m hs E TE fn (E0 f na ps nr rs F) some x=F x:=by intro _;kernel_rfl):ah Tryz.prog TE (E0 f na ps nr rs F):=mk m hs (e:=(E0 f na ps nr rs F)) hE hf hc (fun _ _ h=>by cases h;rfl) q
theorem Et(n:Nat):ah Tryz.prog TE (ajw n):=MKS n [(3,.jn [.r 2 .B] false)] .n @Tryz.func6
theorem azx(n:Nat):ah Tryz.prog TE (aog n):=MKS n [(12,.jn [.r 3 .B] false),(51,.jn [.r 22 .B] false),(831,.jn [.r 40 .B] false)] .n @Tryz.func143
theorem Va(n:Nat):ah Tryz.prog TE (afF n):=MKS n [(3,.jn [.r 2 .B] false)] .n @Tryz.func99
theorem adK(n:Nat):ah Tryz.prog TE (avg n):=MKS n [(26,.lp [.r 5 .I] 0 [])] .n @Tryz.func70
theorem acN(n:Nat):ah Tryz.prog TE (aby n):=MKS n [] (.c (adK n) .n) @Tryz.func100
theorem Ph(n:Nat):ah Tryz.prog TE (akJ n):=MKS n [(3,.jn [.r 2 .B] false)] .n @Tryz.func101
theorem wL(n:Nat):ah Tryz.prog TE (Tn n):=MKS n [(6,.jn [.r 21 .B] false),(58,.lp [.r 3 .I] 0 []),(932,.jn [.r 45 .B] false)] (.c (Va n) (.c (acN n) (.c (Ph n) .n))) @Tryz.func64
theorem U9(n:Nat):ah Tryz.prog TE (Vz n):=MKS n [(3,.jn [.r 2 .B] false)] (.c (wL n) .n) @Tryz.func131
theorem akn(n:Nat):ah Tryz.prog TE (ajg n):=MKS n [(3,.jn [.r 2 .B] false)] (.c (wL n) (.c (U9 n) .n)) @Tryz.func65
theorem VD(n:Nat):ah Tryz.prog TE (afG n):=MKS n [(3,.jn [.r 2 .B] false)] .n @Tryz.func48
theorem akj:∀n,ah Tryz.prog TE (aiu n)
 |0=>jR (fn:=Tryz.f132) (by kernel_rfl) fun _=>rfl
 |n+1=>MKS n [(14,.jn [.r 25 .B] false),(31,.jn [.r 7 .I] true),(126,.jn [.r 61 .B] false),(250,.jn [.r 28 .B] false),(1018,.lp [.r 2 .I,.r 8 .I] 1 [.r 2 .I])] (.c (wL n) (.c (akj n) .n)) @Tryz.func132
theorem Ey(n:Nat):ah Tryz.prog TE (V9 n):=MKS n [] (.c (akj n) .n) @Tryz.func66
theorem ao2(n:Nat):ah Tryz.prog TE (ZY n):=MKS n [(3,.jn [.r 2 .B] false)] .n @Tryz.func144
theorem ayQ(n:Nat):ah Tryz.prog TE (anL n):=MKS n [(14,.jn [.r 29 .B] false),(15,.jn [] true),(62,.jn [.r 72 .B] false),(506,.jn [.r 2 .B] false)] (.c (azx n) (.c (akn n) (.c (VD n) (.c (wL n) (.c (Ey n) (.c (ao2 n) .n)))))) @Tryz.func74
theorem ajt:∀n,ah Tryz.prog TE (ahY n)
 |0=>jR (fn:=Tryz.f34) (by kernel_rfl) fun _=>rfl
 |n+1=>MKS n [(14,.jn [.r 20 .B] false),(122,.lp [.r 2 .I,.r 7 .I] 0 [.r 2 .I])] (.c (ayQ n) (.c (ajt n) .n)) @Tryz.func34
theorem Ad(n:Nat):ah Tryz.prog TE (X5 n):=MKS n [] (.c (ajt n) .n) @Tryz.func12
theorem ZG(n:Nat):ah Tryz.prog TE (aay n):=MKS n [(3,.jn [.r 2 .B] false)] .n @Tryz.func158
theorem akT(n:Nat):ah Tryz.prog TE (Xq n):=MKS n [(26,.jn [.r 4 .B] false)] .n @Tryz.func159
theorem asf(n:Nat):ah Tryz.prog TE (ac8 n):=MKS n [(3,.jn [.r 2 .B] false)] .n @Tryz.func248
theorem apg(n:Nat):ah Tryz.prog TE (aaC n):=MKS n [(3,.jn [.r 2 .B] false)] (.c (ZG n) (.c (asf n) .n)) @Tryz.func160
theorem tF(n:Nat):ah Tryz.prog TE (Pb n):=MKS n [(6,.jn [.r 20 .B] false),(58,.lp [.r 23 .I] 0 [])] (.c (ZG n) (.c (akT n) (.c (apg n) .n))) @Tryz.func85
end
section
open Go Go.Proofs
theorem Sim.NK{C:Ctx}{κ:aS}{s:ASt}{a:Act}{w:World}(h:Sim C κ s a w)(D:List Deferred):Sim {C with ds:=D} κ s {a with defers:=D} w:=
 {h with defers:=rfl}
theorem UN{fn:Func}{args:List AV}{H:List AObj}{κ:aS}{ak:bU}{w:World}{vs:List Value}(hen:Entry κ ak H w)(hvl:vs.length=args.length)(hr:∀j,j<args.length→Rel w κ (aH ak κ H) (args.getD j .unk) (vs.getD j undef)):
  Sim (bodyC κ ak H w []) κ ⟨args++List.replicate (fn.ntmps - args.length) (.tup []),H⟩ {tmps:=vs.toArray++Array.replicate (fn.ntmps - vs.toArray.size) undef,defers:=[]} w:=by
 refine⟨rfl,by simp[hvl],?_,hen.klen,dL.refl _,hen.resv,hen.obj,hen.apart,fun l b h1 h2 ho=>ho.2 l h1 h2,hen.bound,fun b o h=>⟨hen.pvlt b o h,fun l hl=>hen.pvdis b o l h hl⟩,fun b hb=>hb.1,fun _ _=>rfl,rfl,rfl,rfl,qAd _,fun _ _ h _=>h,Evo.refl _ _⟩
 intro n hn
 by_cases hlt:n<args.length
 ·have e1:(args++List.replicate (fn.ntmps - args.length) (AV.tup [])).getD n .unk=args.getD n .unk:=by simp[qAg hlt]
  have e2:(vs.toArray++Array.replicate (fn.ntmps - vs.toArray.size) undef).getD n undef=vs.getD n undef:=by
   simp_all
  rw[e1,e2];exact hr n hlt
 ·have e1:(args++List.replicate (fn.ntmps - args.length) (AV.tup [])).getD n .unk=.tup []:=by
   grind
  have e2:(vs.toArray++Array.replicate (fn.ntmps - vs.toArray.size) undef).getD n undef=undef:=by
   simp_all
  rw[e1,e2];exact lK
end
section
open Go
theorem Sim.entry{C:Ctx}{κ:aS}{s:ASt}{a:Act}{w:World}(h:Sim C κ s a w):Entry κ C.ak s.heap w where
 klen:=h.klen
 resv:=h.resv
 obj:=h.obj
 apart:=h.apart
 bound:=h.bound
 pvlt:=fun b o hp=>qAB (h.oldlt b (h.pvold b o hp)) h.size
 pvdis:=fun b o l hp hl hv=>h.own l b hl hv (h.pvold b o hp)
theorem Sim.through{C:Ctx}{κ κ':aS}{s:ASt}{a:Act}{w w':World}{H':List AObj}(h:Sim C κ s a w)(hl:Leave κ κ' C.ak s.heap H' w w'):Sim C κ' ⟨s.tmps,H'⟩ a w' where
 defers:=h.defers
 len:=h.len
 slot:=fun n hn=>(h.slot n hn).mono hl.ny hl.kext hl.pvsub
 klen:=hl.klen
 kext:=h.kext.trans hl.kext
 resv:=hl.resv
 obj:=hl.obj
 apart:=hl.apart
 own:=fun l b h1 h2 ho=>by
  rcases hl.stay l b h1 h2 with h3|⟨l0,h3,h4⟩
  ·have:=h.oldlt b ho;have:=h.size;omega
  ·exact h.own l0 b h3 h4 ho
 bound:=hl.bound
 pvold:=h.pvold
 oldlt:=h.oldlt
 old:=fun b hb=>(hl.kept b (qAB (h.oldlt b hb) h.size) fun l h3 h4=>h.own l b h3 h4 hb).trans (h.old b hb)
 os:=hl.os.trans h.os
 tape:=hl.tape.trans h.tape
 output:=hl.output.trans h.output
 size:=qAs h.size hl.ny.size
 pvsub:=fun b o hp hlt=>h.pvsub b o (hl.pvsub b o hp (qAB hlt h.size)) hlt
 ny:=h.ny.trans hl.ny fun x o hp hlt=>h.pvsub x o hp hlt
theorem YM{P:Program}{fn:Func}{H:List AObj}{T:List TV}{hJ:List TObj}{κ:aS}{ak:bU}{w:World}(hen:Entry κ ak H w)(hJl:H.length≤hJ.length)(ds:List Deferred){s:ASt}{κf:aS}{a:Act}{w':World}
  (hq:BQ P fn.results.toList H.length T hJ s.tmps s.heap) (hs:Sim (bodyC κ ak H w ds) κf s a w'):∃v,(results fn a.tmps).run P w'=.ok v w'∧∃v' κ',Ending.returned v=.returned v'∧Leave κ κ' ak H (aB hJ) w w'∧Rel w' κ' (aH ak κ' (aB hJ)) (av hJ (res1 T)) v':=by
 have hkl:(bodyC κ ak H w ds).k0.length≤H.length:=qBm hen.klen
 obtain⟨t1,h1,xs,q1,q2,q3⟩:=hq
 obtain⟨κ1,hs1⟩:=q1 _ κf a w' hkl hs
 obtain⟨us,u1,u2,u3⟩:=MS hs1 _ _ q2
 have hsX:Sim (bodyC κ ak H w ds) κ1 ⟨xs,h1⟩ {tmps:=us.toArray,defers:=a.defers} w':={hs1 with
  len:=by simp[u1]
  slot:=fun n hn=>by have:=u2 n hn;simpa[qAq,List.getD]using this}
 obtain⟨κ',hs2⟩:=q3 _ κ1 _ w' hkl hsX
 have hleave:Leave κ κ' ak H (aB hJ) w w':=by
  refine⟨hs2.klen,by simp only[aB,qAi];exact hJl,hs2.kext,hs2.resv,hs2.obj,?_,hs2.apart,hs2.bound,fun b hb hnl=>hs2.old b ⟨hb,hnl⟩,hs2.ny,hs2.pvsub,hs2.os,hs2.tape,hs2.output⟩
  intro l b h1 h2
  have hno:=hs2.own l b h1 h2
  by_cases hlt:b<w.heap.size
  ·right
   apply qAn
   intro hne
   exact hno ⟨hlt,fun l0 h0 hlv=>hne ⟨l0,h0,hlv⟩⟩
  grind
 have hT:us.length=(aU hJ T).length:=by have:=hs2.len;simpa using this
 have hslot:∀n,n<(aU hJ T).length→Rel w' κ' (aH ak κ' (aB hJ)) ((aU hJ T).getD n .unk) (us.getD n undef):=fun n hn=>by
  have:Rel w' κ' (aH ak κ' (aB hJ)) ((aU hJ T).getD n .unk) (us.toArray.getD n undef):=hs2.slot n hn
  simp_all
 have hm:(fn.results.mapM (Vf a.tmps)).run P w'=.ok us.toArray w':=by
  rw[qCp]
  simp_all
 rw[PI]
 simp only[Sem.run_bind,hm]
 by_cases h1:us.length=1
 ·match us,h1 with
  |[u],_=>
   match T,hT with
   |[x],_=>
    refine⟨u,by simp,u,κ',rfl,hleave,?_⟩
    have:=hslot 0 (by simp[aU])
    simpa[aU,res1]using this
 ·refine⟨.tuple us.toArray,by simp[h1],_,κ',rfl,hleave,?_⟩
  have hx:av hJ (res1 T)=.tup (aU hJ T):=by
   match T,hT with
   |[],_=>rfl
   |[x],h=>exact(h1 (by simpa[aU]using h)).elim
   |_::_::_,_=>rfl
  rw[hx]
  exact .tup hT hslot
def nrm(m:Nat)(T:List AV)(H:List AObj):QT:=fun e t h=>e=.normal∧Le m t h T H
theorem axN{P:Program}{te:Nat}{θ:Nat→Option ET}{E:List Ent}{m id:Nat}{l:List Oper}{s s':DS}{v:Int}{τ:Nat→TI}(hτ:τ=TI.of P)(hE:∀e∈E,ah P te e)(hi:Inv s)
  (h:Jk s.h 0 (fun n'=>XQ τ θ E (fun _ _ _ _ v s=>some (v,s)) l l n' [] {s with h:=s.h++y8 (zT l)} fun _ _=>none)=some (v,s')):
  AW P m (.region id l.toArray false) (fun e t h=>e=qd (Cz te v)∧t=aU s'.h s'.t∧h=aB s'.h) (aU s.h s.t) (aB s.h):=by
 subst hτ
 rw[Yj]at h
 have hres:iX {s with h:=s.h++y8 (zT l)}=(iX s).reserve (zT l):=by
  unfold iX ASt.reserve
  simp only[ali,agL]
 rcases ale hE l _ _ _ _ (show Inv {s with h:=s.h++y8 (zT l)}from⟨hi.up,hi.rl,hi.cp⟩) h with⟨es',res,s1,g1,g2,g3,g4,g5,g6⟩|⟨l1,op,l2,es1,res1,ep,ep',kx,s1,s2,c,g0,g1,g2,g3,ga,gb,g4,g5,gc,g6,g7,gd⟩
 ·cases g2
 ·cases g4
  rw[hres]at g1
  subst g0
  intro C κ a w hk hs
  have hX:=g3 _ ⟨rfl,rfl,fun _ _=>rfl,fun _ _=>rfl⟩
  rw[←gb]at hX
  exact wp_region_lit (Qg g1.steps hX.1 hX.2 C _ a w (hs.reserve (zT (l1++op::l2))) fun κ' a' w' hs'=>⟨iX s',κ',⟨rfl,rfl,rfl⟩,hs'⟩)
theorem aDB{P:Program}{te:Nat}{θ:Nat→Option ET}{n:Nat}{hs:List (Nat×Hn)}{E:List Ent}{m:Nat}{h0:List TObj}{c:Code}{p:Nat}{s:DS}{τ:Nat→TI}{γ:Type}{f:DS→γ}{y:γ}(hτ:τ=TI.of P)(hE:∀e∈E,ah P te e)(hte:uf P te=true)(hmix:P.follows .mixedOrders=true)(hst:St m h0 s)
  (h:exe ⟨τ,θ,n,Unit,hs,m,te,fun _ _=>none⟩ E (fun _=>none) c γ p s (fun _=>none) (fun e s=>match e with| .normal=>some (f s)|_=>none)=some y):AW P m c (fun e t h=>e=.normal∧∃s,f s=y∧Le m t h (aU s.h s.t) (aB s.h)) (aU s.h s.t) (aB s.h):=by
 subst hτ
 refine(WL (n:=n) (hs:=hs) (te:=te) (pn:=fun _ _=>none) (ret:=fun _=>none) (m:=m) (h0:=h0) hE hte hmix c _ p s _ _ y hst h).mono fun e t hh ho=>?_
 cases ho with
 |ret g1 g2 g3 g4=>cases g3
 |qd g1 g2 g3 g4=>cases g3
 |@go _ s1 _ _ g1 g2 g3 g4=>
  grind
theorem WM{P:Program}{te:Nat}{θ:Nat→Option ET}{n:Nat}{hs:List (Nat×Hn)}{E:List Ent}{m:Nat}{h0:List TObj}{c:Code}{p:Nat}{s:DS}{τ:Nat→TI}{T:List TV}{H:List TObj}(hτ:τ=TI.of P)(hE:∀e∈E,ah P te e)(hte:uf P te=true)(hmix:P.follows .mixedOrders=true)(hst:St m h0 s)
  (h:exe ⟨τ,θ,n,Unit,hs,m,te,fun _ _=>none⟩ E (fun _=>none) c (List TV×List TObj) p s (fun _=>none) (fun e s=>match e with| .normal=>some (s.t,s.h)|_=>none)=some (T,H)):AW P m c (nrm m (aU H T) (aB H)) (aU s.h s.t) (aB s.h):=
 (aDB (f:=fun s=>(s.t,s.h)) hτ hE hte hmix hst h).mono fun e t h ⟨h1,s1,h2,h3⟩=>by
  cases h2
  exact⟨h1,h3⟩
theorem wW{m:Nat}{t:List TV}{h:List TObj}(hm:m≤h.length):St m h ⟨t,h,[],[],[],[],[],[]⟩:=
 ⟨⟨fun i k c h1=>(by cases h1),fun d i j h1=>(by cases h1),fun d x h1=>(by cases h1)⟩,hm,fun l _ _=>.inl rfl⟩
theorem aFf{P:Program}{te:Nat}{θ:Nat→Option ET}{n:Nat}{hs:List (Nat×Hn)}{E:List Ent}{m:Nat}{h0:List TObj}{c:Code}{p:Nat}{s:DS}{rvs:List ResultVar}{R:Type}{T:List TV}{hJ:List TObj}{f:DS→Option R}{y:R}{τ:Nat→TI}(hτ:τ=TI.of P)(hE:∀e∈E,ah P te e)(hte:uf P te=true)(hmix:P.follows .mixedOrders=true)(hst:St m h0 s)
  (h:exe ⟨τ,θ,n,R,hs,m,te,fun _ _=>none⟩ E f c R p s some (fun e s=>match e with| .normal=>f s|_=>none)=some y) (hf:∀s,St m h0 s→f s=some y→BQ P rvs m T hJ (aU s.h s.t) (aB s.h)):
  AW P m c (asq P rvs m T hJ) (aU s.h s.t) (aB s.h):=by
 subst hτ
 have down:∀{t t':List AV} {h h':List AObj},Le m t h t' h'→BQ P rvs m T hJ t' h'→BQ P rvs m T hJ t h:=fun hl ⟨t1,h1,xs,q1,q2,q3⟩=>⟨t1,h1,xs,hl.trans q1,q2,q3⟩
 refine(WL (n:=n) (hs:=hs) (te:=te) (pn:=fun _ _=>none) (ret:=f) (m:=m) (h0:=h0) hE hte hmix c _ p s _ _ y hst h).mono fun e t hh ho=>?_
 cases ho with
 |ret g1 g2 g3 g4=>cases g4;exact down g1 (hf _ g2 g3)
 |qd g1 g2 g3 g4=>cases g3
 |go g1 g2 g3 g4=>
  cases e with
  |normal=>exact down g1 (hf _ g2 g4)
  |exit id=>cases g4
  |goto l=>cases g4
  |ret=>cases g4
  |panic c=>cases g4
  |outgrown=>cases g4
def Pre(P:Program)(m:Nat)(c c':Code)(T:List AV)(H:List AObj)(T':List AV)(H':List AObj):Prop:=
 ∀(C:Ctx) (κ:aS) (a:Act) (w:World) Q,C.k0.length≤m→Sim C κ ⟨T,H⟩ a w→(∀κ2 a2 w2,Sim C κ2 ⟨T',H'⟩ a2 w2→c'.wp P Q a2 w2)→c.wp P Q a w
theorem Pre.nil{P:Program}{m:Nat}{c:Code}{T:List AV}{H:List AObj}:Pre P m c c T H T H:=fun _ κ a w _ _ hs h=>h κ a w hs
theorem Pre.cons{P:Program}{m:Nat}{r c c':Code}{T T1 T':List AV}{H H1 H':List AObj}(hr:AW P m r (nrm m T1 H1) T H)(h:Pre P m c c' T1 H1 T' H'):Pre P m (r.seq c) c' T H T' H':=fun C κ a w Q hk hs hq=>by
 refine wp_seq (wp_mono (hr C κ a w hk hs) ?_)
 rintro e a w1 ⟨s,κ1,⟨rfl,hl⟩,hs1⟩
 obtain⟨κ1,hs1⟩:=hl _ κ1 _ _ hk hs1
 exact h C κ1 a w1 Q hk hs1 hq
section
variable {P:Program}{f d n:Nat}{b r3:Code}{id:Nat}{o1 o2:Oper}{args:List AV}{H:List AObj}{T:List TV}{hJ:List TObj}{fn:Func}{capO:Array Operand}{TB:List AV}{HB:List AObj}
theorem ZF
  (hf:P.funcs[f]? =some fn) (hb:fn.body=some b) (hlen:args.length≤fn.ntmps)
  (h1:o1.op=.makeFunc (.func d) #[] capO) (g1:o1.guard=none) (d1:o1.dst=some n) (h2:o2.op=.defer {callee:=.value (.tmp n),args:=#[],argTypes:=#[]}) (g2:o2.guard=none) (d2:o2.dst=none) (h12:n<TB.length)
  (hp:Pre P H.length b ((Code.region id #[o1,o2] false).seq r3) (args++List.replicate (fn.ntmps - args.length) (.tup [])) H TB HB)
  (hr3:∀(κ:aS) (ak:bU) (w:World),Entry κ ak H w→∀(κ2:aS) (a:Act) (w2:World),Sim (bodyC κ ak H w []) κ2 ⟨TB,HB⟩ a w2→
   ∀D,D=[({target:=.fn (.func d) (capO.map a.eval),args:=#[]}:Deferred)]→∀a',a'=({tmps:=a.tmps.setIfInBounds n (.func (.func d) #[] (capO.map a.eval)),defers:=D}:Act)→Sim (bodyC κ ak H w D) κ2 ⟨TB.set n .unk,HB⟩ a' w2→
   r3.wp P (bodyPostD P fn fun e w'=>∃v' κ',e=Ending.returned v'∧Leave κ κ' ak H (aB hJ) w w'∧Rel w' κ' (aH ak κ' (aB hJ)) (av hJ (res1 T)) v') a' w2):eH P f args H (av hJ (res1 T)) (aB hJ):=by
 intro κ ak w vs hen hvl hr
 refine calls_of_wp_defers hf hb ?_
 have hkl:(bodyC κ ak H w []).k0.length≤H.length:=qBm hen.klen
 have hsim:Sim (bodyC κ ak H w []) κ ⟨args++List.replicate (fn.ntmps - args.length) (.tup []),H⟩ {tmps:=vs.toArray++Array.replicate (fn.ntmps - vs.toArray.size) undef,defers:=[]} w:=UN hen hvl hr
 refine hp _ κ _ w _ hkl hsim fun κ2 a w2 hs2=>?_
 refine wp_seq (wp_region ?_)
 obtain⟨_,_,ty1,ps1,af1,_⟩:=o1
 obtain⟨_,_,ty2,ps2,af2,_⟩:=o2
 simp only at h1 g1 d1 h2 g2 d2
 subst h1 g1 d1 h2 g2 d2
 have h12':n<a.tmps.size:=by rw[hs2.len];exact h12
 have hmf:∀(fn:Fn) (first cap:Array Value) (w:World),(Instr.makeFunc fn first cap).run P w=.ok (.func fn first cap) w:=fun _ _ _ _=>rfl
 simp only[wpOps,Region.wanted,Array.size,List.range,List.range.loop,qDg,qAp,qAA]
 simp[hmf,go_sem,h12']
 refine .inl ?_
 have hd0:a.defers=[]:=hs2.defers
 have hs3:=(hs2.aA (some n) (v:=.unk) (u:=.func (.func d) #[] (capO.map a.eval)) (.unk _)).NK [{target:=.fn (.func d) (capO.map a.eval),args:=#[]}]
 have h:=hr3 κ ak w hen κ2 a w2 hs2 _ rfl _ rfl hs3
 rw[hd0]
 simp[go_sem]at h
 exact .inl h
theorem aoH
  (hf:P.funcs[f]? =some fn) (hb:fn.body=some b) (hlen:args.length≤fn.ntmps)
  (h1:o1.op=.makeFunc (.func d) #[] capO) (g1:o1.guard=none) (d1:o1.dst=some n) (h2:o2.op=.defer {callee:=.value (.tmp n),args:=#[],argTypes:=#[]}) (g2:o2.guard=none) (d2:o2.dst=none) (h12:n<TB.length) (hokd:mQ P d=true)
  (hidle:∀(xs:Array Value) (w:World),xs.size=capO.size→CallsD P d xs .returning w fun e u' w'=>e=.returned (.tuple #[])∧u'=.returning∧w'=w)
  (hp:Pre P H.length b ((Code.region id #[o1,o2] false).seq r3) (args++List.replicate (fn.ntmps - args.length) (.tup [])) H TB HB) (hJl:H.length≤hJ.length)
  (hr3:AW P H.length r3 (asq P fn.results.toList H.length T hJ) (TB.set n .unk) HB):eH P f args H (av hJ (res1 T)) (aB hJ):=by
 refine ZF hf hb hlen h1 g1 d1 h2 g2 d2 h12 hp fun κ ak w hen κ2 a w2 hs2 D hD a' ha' hs3=>?_
 have hkl:(bodyC κ ak H w D).k0.length≤H.length:=qBm hen.klen
 refine wp_mono (hr3 _ κ2 _ w2 hkl hs3) ?_
 have fin2:∀(s':ASt) (κ':aS) (a':Act) (w':World),BQ P fn.results.toList H.length T hJ s'.tmps s'.heap→Sim (bodyC κ ak H w D) κ' s' a' w'→Leaves P fn a'.tmps (fun e w'=>∃v' κ',e=Ending.returned v'∧Leave κ κ' ak H (aB hJ) w w'∧Rel w' κ' (aH ak κ' (aB hJ)) (av hJ (res1 T)) v') a'.defers .returning w':=by
  intro s' κ' a' w' hq hs'
  rw[hs'.defers]
  rw[hD]
  refine leaves_cons (f:=d) (args:=capO.map a.eval) (by simp) (by simp[go_sem,Dj hokd]) ?_
  refine(hidle _ w' (by simp)).mono ?_
  rintro e u w'' ⟨rfl,rfl,rfl⟩
  obtain⟨v,hv1,v',κ'',e1,h1,h2⟩:=YM hen hJl D hq hs'
  exact⟨v,hv1,v',κ'',e1,h1,h2⟩
 rintro e a' w' ⟨s',κ',hq,hs'⟩
 cases e with
 |normal=>exact fin2 s' κ' a' w' hq hs'
 |ret=>exact fin2 s' κ' a' w' hq hs'
 |exit id=>exact hq.elim
 |goto l=>exact hq.elim
 |panic c=>exact hq.elim
 |outgrown=>exact hq.elim
end
def an1(P:Program)(d:Nat)(args:List AV)(H:List AObj)(v:Value)(H':List AObj):Prop:=
 ∀(κ:aS) (ak:bU) (w:World) (vs:List Value),Entry κ ak H w→vs.length=args.length→(∀j,j<args.length→Rel w κ (aH ak κ H) (args.getD j .unk) (vs.getD j undef))→
  CallsD P d vs.toArray (.panicking [{v,recovered:=false}]) w fun e u' w'=>e=.returned (.tuple #[])∧settle u'=.returning∧∃κ',Leave κ κ' ak H H' w w'
def Ctx.rt(C:Ctx)(κ:aS)(s:ASt)(w:World):Ctx:={C with w0:=w,k0:=κ,pvE:=aH C.ak κ s.heap}
theorem Sim.rt{C:Ctx}{κ:aS}{s:ASt}{a:Act}{w:World}(h:Sim C κ s a w):Sim (C.rt κ s w) κ s a w where
 defers:=h.defers
 len:=h.len
 slot:=h.slot
 klen:=h.klen
 kext:=dL.refl _
 resv:=h.resv
 obj:=h.obj
 apart:=h.apart
 own:=h.own
 bound:=h.bound
 pvold:=h.pvold
 oldlt:=fun b hb=>qAB (h.oldlt b hb) h.size
 old:=fun _ _=>rfl
 os:=rfl
 tape:=rfl
 output:=rfl
 size:=qAd _
 pvsub:=fun _ _ hp _=>hp
 ny:=Evo.refl _ _
theorem Sim.aK3{C:Ctx}{κ:aS}{s:ASt}{a:Act}{w:World}(h:Sim C κ s a w){κ':aS}{s':ASt}{a':Act}{w':World}(h':Sim (C.rt κ s w) κ' s' a' w'):Sim C κ' s' a' w' where
 defers:=h'.defers
 len:=h'.len
 slot:=h'.slot
 klen:=h'.klen
 kext:=h.kext.trans h'.kext
 resv:=h'.resv
 obj:=h'.obj
 apart:=h'.apart
 own:=h'.own
 bound:=h'.bound
 pvold:=h.pvold
 oldlt:=h.oldlt
 old:=fun b hb=>(h'.old b hb).trans (h.old b hb)
 os:=h'.os.trans h.os
 tape:=h'.tape.trans h.tape
 output:=h'.output.trans h.output
 size:=qAs h.size h'.size
 pvsub:=fun b o hp hlt=>h.pvsub b o (h'.pvsub b o hp (qAB hlt h.size)) hlt
 ny:=h.ny.trans h'.ny fun x o hp hlt=>h.pvsub x o hp hlt
section
variable {P:Program}{f d n:Nat}{b r3:Code}{id:Nat}{o1 o2:Oper}{args:List AV}{H:List AObj}{T:List TV}{hJ:List TObj}{fn:Func}{capO:Array Operand}{TB TP:List AV}{HB HP HP':List AObj}{v:Value}
theorem aoM
  (hf:P.funcs[f]? =some fn) (hb:fn.body=some b) (hlen:args.length≤fn.ntmps)
  (h1:o1.op=.makeFunc (.func d) #[] capO) (g1:o1.guard=none) (d1:o1.dst=some n) (h2:o2.op=.defer {callee:=.value (.tmp n),args:=#[],argTypes:=#[]}) (g2:o2.guard=none) (d2:o2.dst=none) (h12:n<TB.length) (hokd:mQ P d=true)
  (hp:Pre P H.length b ((Code.region id #[o1,o2] false).seq r3) (args++List.replicate (fn.ntmps - args.length) (.tup [])) H TB HB) (hJl:H.length≤hJ.length)
  (hr3:AW P HB.length r3 (fun e t h=>e=qd v∧Le HB.length t h TP HP) (TB.set n .unk) HB)
  (hrec:an1 P d (capO.toList.map (bL TB)) HP v HP') (hret:BQ P fn.results.toList H.length T hJ TP HP'):eH P f args H (av hJ (res1 T)) (aB hJ):=by
 refine ZF hf hb hlen h1 g1 d1 h2 g2 d2 h12 hp fun κ ak w hen κ2 a w2 hs2 D hD a' ha' hs3=>?_
 have hkl:((bodyC κ ak H w D).rt κ2 ⟨TB.set n .unk,HB⟩ w2).k0.length≤HB.length:=qBm hs3.klen
 refine wp_mono (hr3 _ κ2 _ w2 hkl hs3.rt) ?_
 rintro e a' w' ⟨s',κ',⟨rfl,hle⟩,hs'⟩
 obtain⟨κ',hs'⟩:=hle _ κ' _ _ hkl hs'
 have hs4:=hs3.aK3 hs'
 show Leaves P fn a'.tmps _ a'.defers _ w'
 rw[hs4.defers]
 rw[hD]
 refine leaves_cons (f:=d) (args:=capO.map a.eval) (by simp) (by simp[go_sem,Dj hokd]) ?_
 refine CallsD.mono (hrec κ' ak w' (capO.map a.eval).toList hs4.entry (by simp) fun j hj=>?_) ?_
 ·simp at hj
  have x1:(capO.toList.map (bL TB)).getD j .unk=bL TB capO.toList[j]:=by
   grind
  have x2:(capO.map a.eval).toList.getD j undef=a.eval capO.toList[j]:=by
   grind
  rw[x1,x2]
  exact(hs2.ev capO.toList[j]).mono hs'.ny hs'.kext fun b o hb hlt=>hs'.pvsub b o hb hlt
 ·rintro e u w'' ⟨rfl,hu,κr,hlv⟩
  show Leaves P fn a'.tmps _ [] (settle u) w''
  rw[hu]
  obtain⟨v',hv1,v'',κ'',e1,h1,h2⟩:=YM hen hJl D (s:=⟨TP,HP'⟩) hret (hs4.through hlv)
  exact⟨v',hv1,v'',κ'',e1,h1,h2⟩
end
end
section
open Go
theorem AW.aGc{P:Program}{m id x y d:Nat}{o1 o2:Oper}{Q:QT}{t:List AV}{h:List AObj}{T T2 e:TypeId}{es:List (List AV)}{tag:Tag}
  (h1:o1.op=.move (.tmp x)) (g1:o1.guard=none) (d1:o1.dst=some y) (h2:o2.op=.binOp .eql T (.tmp y) (.const (.slice none 0 0)) T2) (g2:o2.guard=none) (d2:o2.dst=some d)
  (hT:P.underlying T=some (.slice e)) (hx:t.getD x .unk=.slice es tag) (hy:y<t.length)
  (hq:∀b:Bool,(b=true→es=[])→Q .normal ((t.set y (.slice es tag)).set d (.bool b)) h):AW P m (.region id #[o1,o2] false) Q t h:=by
 intro C κ a w hk hs
 refine wp_region_lit (l:=[o1,o2]) ?_
 simp only[wpList]
 have w1:∀f,Region.wanted o1 f=true:=fun f=>by simp[Region.wanted,g1]
 have w2:∀f,Region.wanted o2 f=true:=fun f=>by simp[Region.wanted,g2]
 simp only[w1,if_true]
 refine .inl ?_
 have hop1:zD P o1 ⟨t,h⟩ ((⟨t,h⟩:ASt).wr (aA o1.dst (.slice es tag))):=Zh (by rw[h1];simp only[aC,bL];rw[hx])
 refine hop1 C κ a w hs _ _ fun κ' a' w' hs'=>?_
 simp only[w2,if_true]
 refine .inl ?_
 rw[d1]at hs'
 have hv:=hs'.ev (.tmp y)
 have e1:bL ((⟨t,h⟩:ASt).wr (aA (some y) (.slice es tag))).tmps (.tmp y)=.slice es tag:=by
  show(t.set y (.slice es tag)).getD y .unk=_
  exact lW hy
 rw[e1]at hv
 cases hev:a'.eval (.tmp y)with
 |slice ad n cap=>
  rw[hev]at hv
  have hrun:(execOp a'.eval o2).run P w'=.ok (.value (.bool ad.isNone)) w':=by
   obtain⟨dst,op,ty,pos,after,guard⟩:=o2
   simp only at h2
   subst h2
   have hc:a'.eval (.const (.slice none 0 0))=.slice none 0 0:=rfl
   have heq:(Op.equal T (.slice ad n cap) (.slice none 0 0)).run P w'=.ok ad.isNone w':=by
    have hh:∀dd,(Op.equalIn (dd+1) T (.slice ad n cap) (.slice none 0 0)).run P w'=.ok ad.isNone w':=fun dd=>by cases ad<;>simp[Op.equalIn,run_underlying hT]
    exact hh 9999
   simp[execOp,hev,hc,binOp,eqGuard,heq]
  unfold Oper.wp
  rw[hrun]
  refine⟨(((⟨t,h⟩:ASt).wr (aA (some y) (.slice es tag))).setSlot d (.bool ad.isNone)),κ',hq _ fun hb=>?_,?_⟩
  ·cases hv with
   |slice b off sz u q1 q2 q3 q3' q4 q5 q6 q7=>
    apply qAn
    intro hne
    rw[q2 hne]at hb
    cases hb
  ·rw[d2];exact hs'.put (.bool _)
 |_=>rw[hev]at hv;cases hv
end
section
open Go
theorem ase{P:Program}{o:Oper}{s:ASt}{t k e sz by_:Nat}(ho:o.op=.buildSlice t 0 #[])(he:mX P t=some (e,sz,by_))(hk:dG (obj? s.heap k)=true):zD P o s (s.wr (.obj k (.arr sz [])::aA o.dst (.psl k sz 0))):=
 pI fun C κ a w hs=>by
  obtain⟨hut,i,zv',hi,hsz,hby,hzz,hzs⟩:=oD he
  obtain⟨κ',hsim⟩:=al4 hs hk (es:=[]) (c:=#[]) (e:=e) (cap:=0) (sz:=sz) (fun i hi=>by simp at hi) (by simp) (by simp) (by simp) (fun i j hi=>by simp at hi) o.dst
  refine⟨_,κ',_,?_,hsim⟩
  have hsize:(sizeOf e).run P w=.ok sz w:=by simp[sizeOf,typeInfo,hi,hsz]
  simp only[execOp,ho,Instr.buildSlice,Sem.run_bind,run_underlying hut,Result.andThen_ok,hsize]
  rw[Sem.run_ite,if_neg (by omega)]
  simp[newRow,Instr.fill,show Array.range 0=#[]from rfl]
end
end Abs
end Go.Proofs.YthgdaonechbgmaaGreat
