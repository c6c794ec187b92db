/-
  Printed by gend.py. Conditions: none.
-/
import Derived.KernelRfl
import Derived.Defers
import Derived.Recover
import Derived.Tactics
import Derived.Tactics2
import Derived.WalkKit
import Derived.Test.YtneeginmfjageaaGreatCFnox040c3a
import Derived.Test.YtneeginmfjageaaGreatCD31ox7d4368
set_option linter.unusedSimpArgs false
set_option linter.unusedVariables false
namespace Go.Proofs.YtneeginmfjageaaGreat
namespace Abs
section
open Go Go.Proofs
set_option maxRecDepth 100000
abbrev Sk.I:Sk:=.lf (.n .i64)
abbrev Sk.U:Sk:=.lf (.n .u8)
abbrev Sk.S:Sk:=.lf .s
abbrev Sk.B:Sk:=.lf .b
abbrev Sk.Li:Sk:=.lf (.l .i)
abbrev Sk.Lu:Sk:=.lf (.l .u)
abbrev Sk.Ls:Sk:=.lf (.l .s)
abbrev Sk.Lb:Sk:=.lf (.l .b)
abbrev Sk.Lcar:Sk:=.lf (.l .car)
abbrev Sk.Ldec:Sk:=.lf (.l .dec)
abbrev Sk.Lty:Sk:=.lf (.l .ty)
abbrev Sk.Ltm:Sk:=.lf (.l .tm)
abbrev Sk.Lenv:Sk:=.lf (.l .env)
abbrev Sk.Lval:Sk:=.lf (.l .val)
abbrev Sk.Lbnd:Sk:=.lf (.l .bnd)
abbrev Sk.Lvals:Sk:=.lf (.l .vals)
abbrev Sk.Ltms:Sk:=.lf (.l .tms)
abbrev Sk.Ti:Sk:=.lf (.t .i)
abbrev Sk.Tu:Sk:=.lf (.t .u)
abbrev Sk.Ts:Sk:=.lf (.t .s)
abbrev Sk.Tb:Sk:=.lf (.t .b)
abbrev Sk.Tcar:Sk:=.lf (.t .car)
abbrev Sk.Tdec:Sk:=.lf (.t .dec)
abbrev Sk.Tty:Sk:=.lf (.t .ty)
abbrev Sk.Ttm:Sk:=.lf (.t .tm)
abbrev Sk.Tenv:Sk:=.lf (.t .env)
abbrev Sk.Tval:Sk:=.lf (.t .val)
abbrev Sk.Tbnd:Sk:=.lf (.t .bnd)
abbrev Sk.Tvals:Sk:=.lf (.t .vals)
abbrev Sk.Ttms:Sk:=.lf (.t .tms)
abbrev Sk.Fd:Sk:=.lf (.f .dec)
def E0(f na:Nat)ps(nr:Nat)rs(F:jg (bD ps)→Option (jg (bD rs))):Ent:=⟨f,na,ps,nr,rs,jg (bD rs),none,none,F,fun r=>r⟩
def TE:Nat:=41
def θl:List (Nat×ET):=[(2,.i),(3,.i),(4,.b),(5,.u),(6,.u),(9,.s),(10,.s),(11,.s),(25,.env),(27,.vals),(32,.ty),(33,.tms),(35,.tm),(40,.val),(41,.i),(63,.car),(66,.dec),(169,.bnd),(222,.bnd),(236,.i),(284,.u),(285,.u)]
noncomputable def θ(t:Nat):=List.rec (motive:=fun _=>Option ET) none (fun p _ ih=>bif Nat.beq p.1 t then some p.2 else ih) θl
def Qb(r:List Sk):=.nilF:: .func 300 [.eptr [.k (.n .i64 2),.k (.s ([]:Str)),.k (.l .ty)]]:: .func 300 [.eptr [.k (.n .i64 2),.k (.s ([]:Str)),.k (.l .ty)]]:: .func 293 [.eptr [.k (.n .i64 2),.k (.s ([]:Str)),.k (.l .ty)],.eptr [.k (.n .i64 2)]]:: .func 293 [.eptr [.k (.n .i64 2),.k (.s ([]:Str)),.k (.l .ty)],.eptr [.k (.n .i64 2)]]:: .func 293 [.eptr [.k (.n .i64 2),.k (.s ([]:Str)),.k (.l .ty)],.eptr [.k (.n .i64 2)]]:: .func 293 [.eptr [.k (.n .i64 2),.k (.s ([]:Str)),.k (.l .ty)],.eptr [.k (.n .i64 2)]]:: .func 293 [.eptr [.k (.n .i64 2),.k (.s ([]:Str)),.k (.l .ty)],.eptr [.k (.n .i64 2)]]:: .func 301 [.eptr [.func 227 []]]:: .func 301 [.eptr [.func 227 []]]:: .func 213 []:: .func 213 []:: .func 293 [.eptr [.k (.n .i64 2),.k (.s ([]:Str)),.k (.l .ty)],.eptr [.k (.n .i64 1)]]:: .func 293 [.eptr [.k (.n .i64 2),.k (.s ([]:Str)),.k (.l .ty)],.eptr [.k (.n .i64 1)]]:: .func 293 [.eptr [.k (.n .i64 2),.k (.s ([]:Str)),.k (.l .ty)],.eptr [.k (.n .i64 1)]]:: .func 293 [.eptr [.k (.n .i64 2),.k (.s ([]:Str)),.k (.l .ty)],.eptr [.k (.n .i64 1)]]:: .func 229 []:: .func 229 []:: .func 302 [.eptr [.func 227 []]]:: .func 300 [.eptr [.k (.n .i64 1),.k (.s ([]:Str)),.k (.l .ty)]]:: .nilF:: .func 293 [.eptr [.k (.n .i64 1),.k (.s ([]:Str)),.k (.l .ty)],.eptr [.k (.n .i64 1)]]:: .func 293 [.eptr [.k (.n .i64 1),.k (.s ([]:Str)),.k (.l .ty)],.eptr [.k (.n .i64 1)]]:: .func 293 [.eptr [.k (.n .i64 1),.k (.s ([]:Str)),.k (.l .ty)],.eptr [.k (.n .i64 1)]]:: .func 293 [.eptr [.k (.n .i64 1),.k (.s ([]:Str)),.k (.l .ty)],.eptr [.k (.n .i64 1)]]:: .func 293 [.eptr [.k (.n .i64 1),.k (.s ([]:Str)),.k (.l .ty)],.eptr [.k (.n .i64 1)]]:: .func 293 [.eptr [.k (.n .i64 1),.k (.s ([]:Str)),.k (.l .ty)],.eptr [.k (.n .i64 1)]]:: .func 231 []:: .func 233 []:: .nilF:: .func 293 [.eptr [.k (.n .i64 5),.k (.s ([]:Str)),.k (.ly ([(Ty.mk 1 ([]:Str) ([]))]))],.eptr [.k (.n .i64 1)]]:: .func 302 [.eptr [.func 228 []]]:: .func 302 [.eptr [.func 228 []]]:: .func 302 [.eptr [.func 228 []]]:: .func 296 [.eptr [.func 217 []]]:: .func 298 [.eptr [.func 234 []]]:: .func 298 [.eptr [.func 235 []]]:: .func 218 []:: .func 218 []:: .func 298 [.eptr [.func 222 []]]:: .func 298 [.eptr [.func 222 []]]:: .func 296 [.eptr [.func 216 []]]:: .func 296 [.eptr [.func 216 []]]:: .func 296 [.eptr [.func 216 []]]:: .func 296 [.eptr [.func 216 []]]:: .func 296 [.eptr [.func 216 []]]:: .func 299 [.eptr [.func 236 []]]:: .func 299 [.eptr [.func 237 []]]:: .func 299 [.eptr [.func 224 []]]:: .func 299 [.eptr [.func 224 []]]:: .func 298 [.eptr [.func 238 []]]:: .func 298 [.eptr [.func 239 []]]:: .func 298 [.eptr [.func 240 []]]:: .func 298 [.eptr [.func 241 []]]:: .func 298 [.eptr [.func 242 []]]:: .func 301 [.eptr [.func 228 []]]:: .func 243 []::r
def aff n:=E0 11 0 [] 1 [.r 0 .B] fun x=>iG n
def Rx n:=E0 194 1 [.r 0 (.func 277 [.ptr 0 0]),.w (.box [.mapr 1]),.w (.mp .b)] 1 [.r 0 .Ls] fun x=>mQ n x
def abG n:=E0 47 2 [.r 0 .S,.r 1 .S] 1 [.r 0 .I] fun x=>strings_Compare n x.1 x.2
def Yj n:=E0 70 1 [.r 0 .Li] 1 [.r 0 .Li] fun x=>slices_Clone_int n x
def dR(n:Nat):Ent:=⟨152,2,[.r 0 (.ptr 0 0),.r 1 .S,.w (.box [.Lcar,.Ldec,.Li,.mapr 1,.psl 2 5]),.w (.mp .val),.w (.arr .bnd)],1,[.r 0 .Tval],Val,some [],none,fun x=>lZ n x.2.1 x.2.2.1 x.2.2.2.1 x.2.2.2.2.1 x.2.2.2.2.2 x.1,fun r=>r⟩
def ala n:=E0 61 1 [.r 0 .Lval] 1 [.r 0 .Lval] fun x=>jw n x
def X6 n:=E0 334 2 [.r 0 .nils,.r 1 .I] 1 [.r 0 (.own 0),.w (.own .val)] fun x=>Dn n x
def PO n:=E0 335 1 [.r 0 .Lvals] 1 [.r 0 (.own 0),.w (.own .vals)] fun x=>wN n x
def RL n:=E0 75 1 [.r 0 .Lval] 1 [.r 0 (.own 0),.w (.own .val)] fun x=>jf n x
def VP n:=E0 75 1 [.r 0 .Lval] 1 [.r 0 (.psl 0 4),.w (.arr .val)] fun x=>Bb n x
def XI n:=E0 74 1 [.r 0 (.psl 0 4),.w (.arr .val)] 1 [.r 0 (.psl 0 4)] fun x=>(wF n x).bind fun _=>some ()
def aeY n:=E0 9 1 [.r 0 .Tenv] 1 [.r 0 .B] fun x=>yJ n x
def akA n:=E0 174 1 [.r 0 .I] 1 [.r 0 .I] fun x=>aa8 n x
def abT n:=E0 127 1 [.r 0 .U] 1 [.r 0 .B] fun x=>uR n x
def asB n:=E0 103 2 [.r 0 .S,.r 1 .Ls] 1 [.r 0 .B] fun x=>J7 n x.1 x.2
def Zf n:=E0 128 1 [.r 0 .S] 1 [.r 0 .B] fun x=>F9 n x
def af3 n:=E0 129 1 [.r 0 .U] 1 [.r 0 .B] fun x=>A9 n x
def Qr n:=E0 99 1 [.r 0 .S] 1 [.r 0 .B] fun x=>gN n x
def Ru n:=E0 176 1 [.r 0 .S] 1 [.r 0 .B] fun x=>Ld n x
def aey n:=E0 100 1 [.r 0 .S] 1 [.r 0 .B] fun x=>Jo n x
def abY n:=E0 62 1 [.r 0 .I] 1 [.r 0 .B] fun x=>yg n x
def agf n:=E0 119 3 [.r 0 .Tty,.r 1 .I,.r 2 .I] 1 [.r 0 .I] fun x=>yj n x.1 x.2.1 x.2.2
def TS n:=E0 57 1 [.r 0 .Tty] 1 [.r 0 .B] fun x=>oZ n x
def WE n:=E0 175 1 [.r 0 .Tty] 1 [.r 0 .B] fun x=>JZ n x
def akc n:=E0 98 1 [.r 0 .Ttm] 1 [.r 0 .B] fun x=>aa0 n x
def agm n:=E0 49 3 [.r 0 .Ttm,.r 1 .I,.r 2 .I] 1 [.r 0 .I] fun x=>EP n x.1 x.2.1 x.2.2
def UZ n:=E0 22 1 [.r 0 .Ttm] 1 [.r 0 .B] fun x=>vG n x
def ajW n:=E0 27 1 [.r 0 .Ttm] 1 [.r 0 .I] fun x=>IQ n x
def aeC n:=E0 10 1 [.r 0 .Ttm] 1 [.r 0 .B] fun x=>oI n x
def Xf n:=E0 184 1 [.r 0 .U] 1 [.r 0 .B] fun x=>DV n x
def Ug n:=E0 185 1 [.r 0 .S] 1 [.r 0 .B] fun x=>Gt n x
def Za n:=E0 268 1 [.r 0 .U] 1 [.r 0 .B] fun x=>M0 n x
def Wt n:=E0 186 1 [.r 0 .U] 1 [.r 0 .B] fun x=>JX n x
def Mj n:=E0 107 1 [.r 0 .S] 1 [.r 0 .B] fun x=>fE n x
def tJ n:=E0 319 2 [.r 0 .S,.r 1 .S] 1 [.r 0 .B] fun x=>ny n x.1 x.2
def rV n:=E0 269 2 [.r 0 .S,.r 1 .S] 1 [.r 0 .S] fun x=>mJ n x.1 x.2
def G7 n:=E0 187 2 [.r 0 .S,.r 1 .S] 1 [.r 0 .S] fun x=>strings_TrimSuffix n x.1 x.2
def Mt n:=E0 108 1 [.r 0 .S] 1 [.r 0 .B] fun x=>uS n x
def Gq n:=E0 137 2 [.r 0 (.ptr 0 0),.r 1 .I,.w (.box [.I,.I,.I])] 1 [.r 0 .B,.o 0 (.bx [(0,.lf (.n .i64))])] fun x=>kg n x.2.1 x.2.2.1 x.2.2.2 x.1
def ug n:=E0 320 2 [.r 0 .Lty,.r 1 (.func 274 [.ptr 0 0,.ptr 2 0]),.w (.box [.ptr 1 0]),.w (.box [.I,.I,.I]),.w (.box [.I])] 1 [.r 0 .I,.o 1 (.bx [(0,.lf (.n .i64))])] fun x=>jT n x.1 x.2.1 x.2.2.1 x.2.2.2.1 x.2.2.2.2
def qD n:=E0 270 2 [.r 0 .Lty,.r 1 (.func 274 [.ptr 0 0,.ptr 2 0]),.w (.box [.ptr 1 0]),.w (.box [.I,.I,.I]),.w (.box [.I])] 1 [.r 0 .B,.o 1 (.bx [(0,.lf (.n .i64))])] fun x=>dS n x.1 x.2.1 x.2.2.1 x.2.2.2.1 x.2.2.2.2
def uj n:=E0 191 4 [.r 0 (.ptr 0 0),.r 1 .Tty,.r 2 .I,.r 3 .B,.w (.box [.I,.I,.I])] 1 [.r 0 .B,.o 0 (.bx [(0,.lf (.n .i64))])] fun x=>gu n x.2.2.2.1 x.2.2.2.2.1 x.2.2.2.2.2 x.1 x.2.1 x.2.2.1
def rE n:=E0 274 3 [.r 0 .Tty,.r 1 (.ptr 0 0),.r 2 (.ptr 2 0),.w (.box [.ptr 1 0]),.w (.box [.I,.I,.I]),.w (.box [.I])] 1 [.r 0 .B,.o 1 (.bx [(0,.lf (.n .i64))])] fun x=>eB n x.1 x.2.1 x.2.2.1 x.2.2.2.1 x.2.2.2.2
def Pt n:=E0 113 1 [.r 0 .Tty] 1 [.r 0 .B] fun x=>mD n x
def rA n:=E0 320 2 [.r 0 .Lty,.r 1 (.func 271 [.ptr 0 0]),.w (.box [.I])] 1 [.r 0 .I] fun x=>kM n x.1 x.2
def oM n:=E0 270 2 [.r 0 .Lty,.r 1 (.func 271 [.ptr 0 0]),.w (.box [.I])] 1 [.r 0 .B] fun x=>gL n x.1 x.2
def Dj n:=E0 188 2 [.r 0 .Tty,.r 1 .I] 1 [.r 0 .B] fun x=>mM n x.1 x.2
def zT n:=E0 271 2 [.r 0 .Tty,.r 1 (.ptr 0 0),.w (.box [.I])] 1 [.r 0 .B] fun x=>kS n x.1 x.2
def Hw n:=E0 109 1 [.r 0 .Tty] 1 [.r 0 .B] fun x=>wD n x
def OV n:=E0 193 2 [.r 0 .Tty,.r 1 (.mapr 0),.w (.mp .b)] 0 [.o 0 (.mp .b)] fun x=>ou n x.1 x.2
def OC n:=E0 195 1 [.r 0 (.mapr 0),.w (.mp .b)] 1 [.r 0 (.func 277 [.ptr 1 0]),.w (.box [.mapr 0])] fun x=>ahp n x
def Mq n:=E0 115 1 [.r 0 .Tty] 1 [.r 0 .Ls] fun x=>qo n x
def Fa n:=E0 273 2 [.r 0 .Tcar,.r 1 (.ptr 0 0),.w (.box [.S])] 1 [.r 0 .B] fun x=>XF n x.1 x.2
def zG n:=E0 196 2 [.r 0 .Lcar,.r 1 (.func 273 [.ptr 0 0]),.w (.box [.S])] 1 [.r 0 .I] fun x=>tC n x.1 x.2
def vY n:=E0 272 2 [.r 0 .Lcar,.r 1 (.func 273 [.ptr 0 0]),.w (.box [.S])] 1 [.r 0 .B] fun x=>pE n x.1 x.2
def Hz n:=E0 190 2 [.r 0 .Tenv,.r 1 .S] 1 [.r 0 .B] fun x=>wG n x.1 x.2
def Ib n:=E0 189 2 [.r 0 .S,.r 1 (.ptr 0 0),.w (.box [.Lcar,.Ldec])] 1 [.r 0 .B] fun x=>wI n x.1 x.2.1 x.2.2
def Al n:=E0 192 2 [.r 0 .Ls,.r 1 (.func 189 [.ptr 0 0]),.w (.box [.Lcar,.Ldec])] 1 [.r 0 .I] fun x=>um n x.1 x.2.1 x.2.2
def xk n:=E0 114 2 [.r 0 .Ls,.r 1 (.func 189 [.ptr 0 0]),.w (.box [.Lcar,.Ldec])] 1 [.r 0 .B] fun x=>qE n x.1 x.2.1 x.2.2
def LV n:=E0 110 2 [.r 0 .Tenv,.r 1 .Tty] 1 [.r 0 .B] fun x=>vk n x.1 x.2
def Mc n:=E0 112 1 [.r 0 .Tenv] 1 [.r 0 (.own 0),.w (.own .s)] fun x=>Aj n x
def Mi n:=E0 111 1 [.r 0 .Ls] 1 [.r 0 .B] fun x=>Ay n x
def LX n:=E0 53 1 [.r 0 .Tenv] 1 [.r 0 .B] fun x=>qb n x
def QC n:=E0 54 2 [.r 0 .Tenv,.r 1 .Li] 1 [.r 0 .B] fun x=>zh n x.1 x.2
def TK n:=E0 197 2 [.r 0 .Tcar,.r 1 (.ptr 0 0),.w (.box [.S])] 1 [.r 0 .B] fun x=>amC n x.1 x.2
def wh n:=E0 196 2 [.r 0 .Lcar,.r 1 (.func 197 [.ptr 0 0]),.w (.box [.S])] 1 [.r 0 .I] fun x=>pK n x.1 x.2
def YX n:=E0 117 2 [.r 0 .Tenv,.r 1 .S] 1 [.r 0 .I] fun x=>GK n x.1 x.2
def Q0 n:=E0 96 1 [.r 0 .I] 1 [.r 0 .B] fun x=>cmp_isNaN_int n x
def Ml n:=E0 46 2 [.r 0 .I,.r 1 .I] 1 [.r 0 .I] fun x=>cmp_Compare_int n x.1 x.2
def YM n:=E0 45 1 [.r 0 .Li] 1 [.r 0 .I] fun x=>UU n x
def qL n:=E0 48 3 [.r 0 .Lval,.r 1 .Lval,.r 2 (.func 19 [])] 1 [.r 0 .I] fun x=>j5 n x.1 x.2
def Jw n:=E0 19 2 [.r 0 .Tval,.r 1 .Tval] 1 [.r 0 .I] fun x=>dF n x.1 x.2
def Vl n:=E0 56 4 [.r 0 .Tenv,.r 1 .Li,.r 2 .Tval,.r 3 .Tty] 1 [.r 0 .B] fun x=>jF n x.1 x.2.1 x.2.2.1 x.2.2.2
def NI n:=E0 118 4 [.r 0 .Lty,.r 1 (.ptr 0 0),.r 2 (.ptr 1 0),.r 3 (.ptr 2 0),.w (.box [.I,.I,.S,.Lval]),.w (.box [.Lcar,.Ldec]),.w (.box [.Li])] 1 [.r 0 .B] fun x=>vg n x.1 x.2.1 x.2.2.1 x.2.2.2.1 x.2.2.2.2.1 x.2.2.2.2.2.1 x.2.2.2.2.2.2.1 x.2.2.2.2.2.2.2
def L6 n:=E0 31 1 [.r 0 (.agg [.Lcar,.Ldec,.Li,.Lval])] 1 [.r 0 .B] fun x=>vw n (S_api_World.mk (Env.mk x.1 x.2.1) x.2.2.1 x.2.2.2)
def acM n:=E0 205 1 [.r 0 .I] 2 [.r 0 .I,.r 1 .B] fun x=>Qd n x
def Zp n:=E0 206 1 [.r 0 .S] 1 [.r 0 .B] fun x=>UK n x
def Xk n:=E0 207 1 [.r 0 .I] 1 [.r 0 .B] fun x=>DF n x
def Qp n:=E0 208 1 [.r 0 .Tty] 1 [.r 0 .B] fun x=>Ei n x
def WZ n:=E0 138 1 [.r 0 .Ttm] 1 [.r 0 .B] fun x=>JU n x
def uf n:=E0 209 2 [.r 0 .Ltm,.r 1 (.func 140 [.ptr 0 0,.ptr 2 0]),.w (.box [.ptr 1 0]),.w (.box [.I,.I,.I]),.w (.box [.I])] 1 [.r 0 .I,.o 1 (.bx [(0,.lf (.n .i64))])] fun x=>jR n x.1 x.2.1 x.2.2.1 x.2.2.2.1 x.2.2.2.2
def qK n:=E0 139 2 [.r 0 .Ltm,.r 1 (.func 140 [.ptr 0 0,.ptr 2 0]),.w (.box [.ptr 1 0]),.w (.box [.I,.I,.I]),.w (.box [.I])] 1 [.r 0 .B,.o 1 (.bx [(0,.lf (.n .i64))])] fun x=>fQ n x.1 x.2.1 x.2.2.1 x.2.2.2.1 x.2.2.2.2
def zV n:=E0 67 3 [.r 0 (.ptr 0 0),.r 1 .Ttm,.r 2 .I,.w (.box [.I,.I,.I])] 1 [.r 0 .B,.o 0 (.bx [(0,.lf (.n .i64))])] fun x=>jD n x.2.2.1 x.2.2.2.1 x.2.2.2.2 x.1 x.2.1
def xM n:=E0 140 3 [.r 0 .Ttm,.r 1 (.ptr 0 0),.r 2 (.ptr 2 0),.w (.box [.ptr 1 0]),.w (.box [.I,.I,.I]),.w (.box [.I])] 1 [.r 0 .B,.o 1 (.bx [(0,.lf (.n .i64))])] fun x=>fZ n x.1 x.2.1 x.2.2.1 x.2.2.2.1 x.2.2.2.2
def ZU n:=E0 32 1 [.r 0 .Ttm] 1 [.r 0 .B] fun x=>Cb n x
def SA n:=E0 149 1 [.r 0 .Tty] 1 [.r 0 .Tty] fun x=>anO n x
def Te n:=E0 141 1 [.r 0 .Tenv] 1 [.r 0 (.mapr 0),.w (.mp .ty)] fun x=>GH n x
def Uc n:=E0 211 0 [] 1 [.r 0 .Tty] fun x=>amk n
def Xq n:=E0 210 2 [.r 0 .I,.r 1 .Tty] 1 [.r 0 (.func 293 [.eptr [.I,.S,.Lty],.eptr [.I]])] fun x=>(arn n x.1 x.2).bind fun r=>some (x.2.kind,x.2.name,x.2.kids,x.1)
def NT n:=E0 212 0 [] 1 [.r 0 .Tty] fun x=>aiD n
def Yg n:=E0 215 1 [.r 0 (.func 216 [])] 1 [.r 0 (.func 296 [.eptr [.func 216 []]])] fun x=>aum n
def Ia n:=E0 221 1 [.r 0 (.func 222 [])] 1 [.r 0 (.func 298 [.eptr [.func 222 []]])] fun x=>abQ n
def UG n:=E0 223 1 [.r 0 (.func 224 [])] 1 [.r 0 (.func 299 [.eptr [.func 224 []]])] fun x=>apU n
def LZ n:=E0 225 1 [.r 0 .Tty] 1 [.r 0 (.func 300 [.eptr [.I,.S,.Lty]])] fun x=>(agh n x).bind fun r=>some (x.kind,x.name,x.kids)
def Xo n:=E0 226 1 [.r 0 (.func 227 [])] 1 [.r 0 (.func 301 [.eptr [.func 227 []]])] fun x=>aqU n
def Rm n:=E0 226 1 [.r 0 (.func 228 [])] 1 [.r 0 (.func 301 [.eptr [.func 228 []]])] fun x=>akX n
def WK n:=E0 230 1 [.r 0 (.func 227 [])] 1 [.r 0 (.func 302 [.eptr [.func 227 []]])] fun x=>aqz n
def QO n:=E0 230 1 [.r 0 (.func 228 [])] 1 [.r 0 (.func 302 [.eptr [.func 228 []]])] fun x=>al1 n
def Tf n:=E0 215 1 [.r 0 (.func 217 [])] 1 [.r 0 (.func 296 [.eptr [.func 217 []]])] fun x=>apM n
def E9 n:=E0 221 1 [.r 0 (.func 234 [])] 1 [.r 0 (.func 298 [.eptr [.func 234 []]])] fun x=>XM n
def Fq n:=E0 221 1 [.r 0 (.func 235 [])] 1 [.r 0 (.func 298 [.eptr [.func 235 []]])] fun x=>Xx n
def OO n:=E0 223 1 [.r 0 (.func 236 [])] 1 [.r 0 (.func 299 [.eptr [.func 236 []]])] fun x=>ahV n
def Oo n:=E0 223 1 [.r 0 (.func 237 [])] 1 [.r 0 (.func 299 [.eptr [.func 237 []]])] fun x=>ai1 n
def FN n:=E0 221 1 [.r 0 (.func 238 [])] 1 [.r 0 (.func 298 [.eptr [.func 238 []]])] fun x=>X9 n
def Fh n:=E0 221 1 [.r 0 (.func 239 [])] 1 [.r 0 (.func 298 [.eptr [.func 239 []]])] fun x=>X0 n
def FH n:=E0 221 1 [.r 0 (.func 240 [])] 1 [.r 0 (.func 298 [.eptr [.func 240 []]])] fun x=>XE n
def Fz n:=E0 221 1 [.r 0 (.func 241 [])] 1 [.r 0 (.func 298 [.eptr [.func 241 []]])] fun x=>Xy n
def FE n:=E0 221 1 [.r 0 (.func 242 [])] 1 [.r 0 (.func 298 [.eptr [.func 242 []]])] fun x=>XL n
def WC n:=E0 142 0 [] 1 [.r 0 (.agg (Qb []))] fun x=>aq9 n
def Ie(n:Nat):Ent:=⟨68,1,[.r 0 .Tenv],1,[.r 0 (.ptr 1 0),.w (.arr .i),.w (.box (.mapr 2:: .mapr 3::(Qb [.psl 0 1]))),.w (.mp .ty),.w (.mp .b)],List (Str×Ty)×List (Str×Bool),none,none,fun x=>wJ n x,fun r=>([],r.1,r.2)⟩
def Qq n:=E0 144 1 [.r 0 .I] 1 [.r 0 .B] fun x=>zx n x
def KD n:=E0 145 1 [.r 0 .Tty] 2 [.r 0 .Tty,.r 1 .B] fun x=>bO n x
def EX n:=E0 146 2 [.r 0 .Fd,.r 1 .S] 2 [.r 0 .Tty,.r 1 .B] fun x=>oq n x.1 x.2
def Bc n:=E0 244 2 [.r 0 .S,.r 1 (.ptr 0 0),.w (.box [.ptr 1 0]),.w (.box (.mapr 2:: .mapr 3::(Qb [.psl 4 1]))),.w (.mp .ty),.w (.mp .b),.w (.arr .i)] 1 [.r 0 .B] fun x=>oQ n x.1 x.2.1 x.2.2.1 x.2.2.2
def xH n:=E0 192 2 [.r 0 .Ls,.r 1 (.func 244 [.ptr 0 0]),.w (.box [.ptr 1 0]),.w (.box (.mapr 2:: .mapr 3::(Qb [.psl 4 1]))),.w (.mp .ty),.w (.mp .b),.w (.arr .i)] 1 [.r 0 .I] fun x=>qQ n x.1 x.2.1 x.2.2.1 x.2.2.2
def tQ n:=E0 114 2 [.r 0 .Ls,.r 1 (.func 244 [.ptr 0 0]),.w (.box [.ptr 1 0]),.w (.box (.mapr 2:: .mapr 3::(Qb [.psl 4 1]))),.w (.mp .ty),.w (.mp .b),.w (.arr .i)] 1 [.r 0 .B] fun x=>nW n x.1 x.2.1 x.2.2.1 x.2.2.2
def DL n:=E0 147 2 [.r 0 (.ptr 0 0),.r 1 .Tty,.w (.box (.mapr 1:: .mapr 2::(Qb [.psl 3 1]))),.w (.mp .ty),.w (.mp .b),.w (.arr .i)] 1 [.r 0 .B] fun x=>nJ n x.2.1 x.2.2.1 x.2.2.2 x.1
def Ou n:=E0 148 1 [.r 0 .Tty] 2 [.r 0 .Tty,.r 1 .I] fun x=>oG n x
def Ht n:=E0 300 2 [.r 0 .Lty,.r 1 (.eptr [.I,.S,.Lty])] 2 [.r 0 .Tty,.r 1 .B] fun x=>abu n x.1 x.2.1 x.2.2.1 x.2.2.2
def L9 n:=E0 294 2 [.r 0 .Tty,.r 1 (.eptr [.I])] 1 [.r 0 .B] fun x=>af7 n x.1 x.2
def Am n:=E0 320 2 [.r 0 .Lty,.r 1 (.func 294 [.eptr [.I]])] 1 [.r 0 .I] fun x=>CG n x.1 x.2
def wO n:=E0 270 2 [.r 0 .Lty,.r 1 (.func 294 [.eptr [.I]])] 1 [.r 0 .B] fun x=>zB n x.1 x.2
def QM n:=E0 293 3 [.r 0 .Lty,.r 1 (.eptr [.I,.S,.Lty]),.r 2 (.eptr [.I])] 2 [.r 0 .Tty,.r 1 .B] fun x=>aT n x.1 x.2.1 x.2.2.1 x.2.2.2.1 x.2.2.2.2
def P6 n:=E0 227 1 [.r 0 .Tty] 1 [.r 0 .Tty] fun x=>alM n x
def Ms n:=E0 301 2 [.r 0 .Lty,.r 1 (.eptr [.func 227 []])] 2 [.r 0 .Tty,.r 1 .B] fun x=>qw n x
def tZ n:=E0 297 3 [.r 0 .Lty,.r 1 .Lty,.r 2 (.func 220 [])] 1 [.r 0 .B] fun x=>qd n x.1 x.2
def IE n:=E0 220 2 [.r 0 .Tty,.r 1 .Tty] 1 [.r 0 .B] fun x=>iM n x.1 x.2
def Pf n:=E0 295 2 [.r 0 .Tty,.r 1 (.ptr 0 0),.w (.box [.Lty])] 1 [.r 0 .B] fun x=>BJ n x.1 x.2
def Az n:=E0 320 2 [.r 0 .Lty,.r 1 (.func 295 [.ptr 0 0]),.w (.box [.Lty])] 1 [.r 0 .I] fun x=>tV n x.1 x.2
def xE n:=E0 270 2 [.r 0 .Lty,.r 1 (.func 295 [.ptr 0 0]),.w (.box [.Lty])] 1 [.r 0 .B] fun x=>qV n x.1 x.2
def UF n:=E0 214 1 [.r 0 .Lty] 1 [.r 0 .B] fun x=>lH n x
def QU n:=E0 213 1 [.r 0 .Lty] 2 [.r 0 .Tty,.r 1 .B] fun x=>uG n x
def PU n:=E0 229 1 [.r 0 .Lty] 2 [.r 0 .Tty,.r 1 .B] fun x=>qU n x
def LY n:=E0 302 2 [.r 0 .Lty,.r 1 (.eptr [.func 227 []])] 2 [.r 0 .Tty,.r 1 .B] fun x=>uP n x
def Qx n:=E0 232 2 [.r 0 .Tty,.r 1 .Tty] 1 [.r 0 .Tty] fun x=>alA n x.1 x.2
def Qg n:=E0 231 1 [.r 0 .Lty] 2 [.r 0 .Tty,.r 1 .B] fun x=>za n x
def Ra n:=E0 233 1 [.r 0 .Lty] 2 [.r 0 .Tty,.r 1 .B] fun x=>zu n x
def Rf n:=E0 228 1 [.r 0 .Tty] 1 [.r 0 .Tty] fun x=>alf n x
def Mk n:=E0 302 2 [.r 0 .Lty,.r 1 (.eptr [.func 228 []])] 2 [.r 0 .Tty,.r 1 .B] fun x=>jJ n x
def Md n:=E0 217 2 [.r 0 .Tty,.r 1 .Tty] 1 [.r 0 .Tty] fun x=>ag7 n x.1 x.2
def OX n:=E0 296 2 [.r 0 .Lty,.r 1 (.eptr [.func 217 []])] 2 [.r 0 .Tty,.r 1 .B] fun x=>xI n x
def Si n:=E0 219 1 [.r 0 .Tty] 3 [.r 0 .Tty,.r 1 .Tty,.r 2 .B] fun x=>iO n x
def QD n:=E0 234 3 [.r 0 .Tty,.r 1 .Tty,.r 2 .Lty] 2 [.r 0 .Tty,.r 1 .B] fun x=>WT n x.1 x.2.1 x.2.2
def CY n:=E0 298 2 [.r 0 .Lty,.r 1 (.eptr [.func 234 []])] 2 [.r 0 .Tty,.r 1 .B] fun x=>lY n x
def P8 n:=E0 235 3 [.r 0 .Tty,.r 1 .Tty,.r 2 .Lty] 2 [.r 0 .Tty,.r 1 .B] fun x=>LH n x.1 x.2.1 x.2.2
def CX n:=E0 298 2 [.r 0 .Lty,.r 1 (.eptr [.func 235 []])] 2 [.r 0 .Tty,.r 1 .B] fun x=>lW n x
def QK n:=E0 218 1 [.r 0 .Lty] 2 [.r 0 .Tty,.r 1 .B] fun x=>qJ n x
def QW n:=E0 222 3 [.r 0 .Tty,.r 1 .Tty,.r 2 .Lty] 2 [.r 0 .Tty,.r 1 .B] fun x=>LC n x.1 x.2.1 x.2.2
def CJ n:=E0 298 2 [.r 0 .Lty,.r 1 (.eptr [.func 222 []])] 2 [.r 0 .Tty,.r 1 .B] fun x=>iJ n x
def Rk n:=E0 216 2 [.r 0 .Tty,.r 1 .Tty] 1 [.r 0 .Tty] fun x=>alG n x.1 x.2
def Pj n:=E0 296 2 [.r 0 .Lty,.r 1 (.eptr [.func 216 []])] 2 [.r 0 .Tty,.r 1 .B] fun x=>fO n x
def Ow n:=E0 236 1 [.r 0 .Tty] 2 [.r 0 .Tty,.r 1 .B] fun x=>aiG n x
def Ku n:=E0 299 2 [.r 0 .Lty,.r 1 (.eptr [.func 236 []])] 2 [.r 0 .Tty,.r 1 .B] fun x=>sW n x
def Oq n:=E0 237 1 [.r 0 .Tty] 2 [.r 0 .Tty,.r 1 .B] fun x=>ahM n x
def Li n:=E0 299 2 [.r 0 .Lty,.r 1 (.eptr [.func 237 []])] 2 [.r 0 .Tty,.r 1 .B] fun x=>sO n x
def QE n:=E0 224 1 [.r 0 .Tty] 2 [.r 0 .Tty,.r 1 .B] fun x=>ak8 n x
def Kh n:=E0 299 2 [.r 0 .Lty,.r 1 (.eptr [.func 224 []])] 2 [.r 0 .Tty,.r 1 .B] fun x=>lS n x
def O7 n:=E0 238 3 [.r 0 .Tty,.r 1 .Tty,.r 2 .Lty] 2 [.r 0 .Tty,.r 1 .B] fun x=>ah6 n x.1 x.2.1 x.2.2
def CP n:=E0 298 2 [.r 0 .Lty,.r 1 (.eptr [.func 238 []])] 2 [.r 0 .Tty,.r 1 .B] fun x=>mg n x
def Og n:=E0 239 3 [.r 0 .Tty,.r 1 .Tty,.r 2 .Lty] 2 [.r 0 .Tty,.r 1 .B] fun x=>aiN n x.1 x.2.1 x.2.2
def CQ n:=E0 298 2 [.r 0 .Lty,.r 1 (.eptr [.func 239 []])] 2 [.r 0 .Tty,.r 1 .B] fun x=>lV n x
def Ob n:=E0 240 3 [.r 0 .Tty,.r 1 .Tty,.r 2 .Lty] 2 [.r 0 .Tty,.r 1 .B] fun x=>ahJ n x.1 x.2.1 x.2.2
def CF n:=E0 298 2 [.r 0 .Lty,.r 1 (.eptr [.func 240 []])] 2 [.r 0 .Tty,.r 1 .B] fun x=>l8 n x
def Oi n:=E0 241 3 [.r 0 .Tty,.r 1 .Tty,.r 2 .Lty] 2 [.r 0 .Tty,.r 1 .B] fun x=>IW n x.1 x.2.1 x.2.2
def CK n:=E0 298 2 [.r 0 .Lty,.r 1 (.eptr [.func 241 []])] 2 [.r 0 .Tty,.r 1 .B] fun x=>lU n x
def O5 n:=E0 242 3 [.r 0 .Tty,.r 1 .Tty,.r 2 .Lty] 2 [.r 0 .Tty,.r 1 .B] fun x=>Ir n x.1 x.2.1 x.2.2
def Db n:=E0 298 2 [.r 0 .Lty,.r 1 (.eptr [.func 242 []])] 2 [.r 0 .Tty,.r 1 .B] fun x=>mF n x
def Ma n:=E0 301 2 [.r 0 .Lty,.r 1 (.eptr [.func 228 []])] 2 [.r 0 .Tty,.r 1 .B] fun x=>Ad n x
def N8 n:=E0 243 1 [.r 0 .Lty] 2 [.r 0 .Tty,.r 1 .B] fun x=>wT n x
def zU n:=E0 69 3 [.r 0 (.ptr 0 0),.r 1 .Ttm,.r 2 .Fd,.w (.box (.mapr 1:: .mapr 2::(Qb [.psl 3 1]))),.w (.mp .ty),.w (.mp .b),.w (.arr .i)] 2 [.r 0 .Tty,.r 1 .I,.w (.arr .i),.o 0 (.bx [(59,.psl 4 1)]),.o 3 .dead] fun x=>kP n x.2.2.1 x.2.2.2.1 x.2.2.2.2 x.1 x.2.1
def vT n:=E0 143 4 [.r 0 (.ptr 0 0),.r 1 .Ttm,.r 2 .I,.r 3 .Fd,.w (.box (.mapr 1:: .mapr 2::(Qb [.psl 3 1]))),.w (.mp .ty),.w (.mp .b),.w (.arr .i)] 2 [.r 0 .Tty,.r 1 .I,.w (.arr .i),.o 0 (.bx [(59,.psl 4 1)]),.o 3 .dead] fun x=>iZ n x.2.2.2.1 x.2.2.2.2.1 x.2.2.2.2.2 x.1 x.2.1 x.2.2.1
def L8 n:=E0 71 1 [.r 0 .Tty] 1 [.r 0 .Tty] fun x=>qc n x
def QZ n:=E0 33 2 [.r 0 .Tenv,.r 1 .Ttm] 3 [.r 0 .Tty,.r 1 .Li,.r 2 .I] fun x=>zk n x.1 x.2
def Xl(n:Nat):Ent:=⟨34,1,[.r 0 (.agg [.Lcar,.Ldec,.Li,.Lval])],1,[.r 0 (.ptr 1 0),.w (.arr .bnd),.w (.box [.Lcar,.Ldec,.Li,.mapr 2,.psl 0 5]),.w (.mp .val)],List Carrier×List Decl×List Int×List (Str×Val)×List Bound,none,none,fun x=>JW n (S_api_World.mk (Env.mk x.1 x.2.1) x.2.2.1 x.2.2.2),fun r=>(r.2.2.2.2,r.1,r.2.1,r.2.2.1,r.2.2.2.1)⟩
def aaG n:=E0 150 1 [.r 0 .B] 1 [.r 0 .Tval] fun x=>bB n x
def Tk(n:Nat):Ent:=⟨151,1,[.r 0 .I],1,[.r 0 .Tval],Val,some [],none,fun x=>iF n x,fun r=>r⟩
def ach n:=E0 250 2 [.r 0 .Tval,.r 1 .Tval] 1 [.r 0 .Tval] fun x=>avQ n x.1 x.2
def Dy n:=E0 249 6 [.r 0 .Tval,.r 1 .Tval,.r 2 (.ptr 0 0),.r 3 (.ptr 1 0),.r 4 (.ptr 3 0),.r 5 (.ptr 4 0),.w (.box [.I,.S,.I,.I,.S,.Lty,.Ltm]),.w (.box [.psl 2 4]),.w (.arr .val),.w (.box [.B]),.w (.box [.B])] 0 [.w (.arr .val),.o 1 (.bx [(0,.psl 5 4)]),.o 2 .dead,.o 3 (.bx [(0,.lf .b)]),.o 4 (.bx [(0,.lf .b)])] fun x=>rO n x.1 x.2.1 x.2.2.1 x.2.2.2.1 x.2.2.2.2.1 x.2.2.2.2.2.1 x.2.2.2.2.2.2.1 x.2.2.2.2.2.2.2.1 x.2.2.2.2.2.2.2.2.1 x.2.2.2.2.2.2.2.2.2.1 x.2.2.2.2.2.2.2.2.2.2.1 x.2.2.2.2.2.2.2.2.2.2.2
def afO(n:Nat):Ent:=⟨157,1,[.r 0 .Lval],1,[.r 0 .Tval],Val,some [],none,fun x=>yN n x,fun r=>r⟩
def Sy n:=E0 251 1 [.r 0 .I] 1 [.r 0 .B] fun x=>xL n x
def tO n:=E0 304 3 [.r 0 .Lval,.r 1 .Tval,.r 2 (.func 19 [])] 2 [.r 0 .I,.r 1 .B] fun x=>nZ n x.1 x.2
def QH n:=E0 253 2 [.r 0 .Lval,.r 1 .Tval] 1 [.r 0 .B] fun x=>eU n x.1 x.2
def C9 n:=E0 252 2 [.r 0 .Tval,.r 1 (.eptr [.Lval])] 1 [.r 0 .B] fun x=>iI n x.1 x.2
def Au n:=E0 255 2 [.r 0 .Tval,.r 1 (.eptr [.Lval])] 1 [.r 0 .B] fun x=>uo n x.1 x.2
def Xi n:=E0 156 2 [.r 0 .Lval,.r 1 (.func 255 [.eptr [.Lval]])] 1 [.r 0 .Lval] fun x=>acF n x.1 x.2
def CO n:=E0 254 2 [.r 0 .Tval,.r 1 (.eptr [.Lval])] 1 [.r 0 .B] fun x=>iK n x.1 x.2
def Wz n:=E0 305 1 [.r 0 .Lval] 1 [.r 0 .Lval] fun x=>zS n x
def SE n:=E0 306 1 [.r 0 .Lval] 1 [.r 0 .Lval] fun x=>o8 n x
def Qm n:=E0 257 4 [.r 0 .I,.r 1 .Lval,.r 2 .Lval,.r 3 .Lval] 1 [.r 0 .B] fun x=>uF n x.1 x.2.1 x.2.2.1 x.2.2.2
def CZ n:=E0 256 4 [.r 0 .Tval,.r 1 (.eptr [.I,.S,.I,.I,.S,.Lty,.Ltm]),.r 2 (.eptr [.Lval]),.r 3 (.eptr [.Lval])] 1 [.r 0 .B] fun x=>jS n x.1 x.2.1 x.2.2.1 x.2.2.2.1 x.2.2.2.2.1 x.2.2.2.2.2.1 x.2.2.2.2.2.2.1 x.2.2.2.2.2.2.2.1 x.2.2.2.2.2.2.2.2.1 x.2.2.2.2.2.2.2.2.2
def Qj n:=E0 156 2 [.r 0 .Lval,.r 1 (.func 252 [.eptr [.Lval]])] 1 [.r 0 .Lval] fun x=>El n x.1 x.2
def P9 n:=E0 156 2 [.r 0 .Lval,.r 1 (.func 254 [.eptr [.Lval]])] 1 [.r 0 .Lval] fun x=>D5 n x.1 x.2
def Q5 n:=E0 156 2 [.r 0 .Lval,.r 1 (.func 256 [.eptr [.I,.S,.I,.I,.S,.Lty,.Ltm],.eptr [.Lval],.eptr [.Lval]])] 1 [.r 0 .Lval] fun x=>D8 n x.1 x.2.1 x.2.2.1 x.2.2.2.1 x.2.2.2.2.1 x.2.2.2.2.2.1 x.2.2.2.2.2.2.1 x.2.2.2.2.2.2.2.1 x.2.2.2.2.2.2.2.2.1 x.2.2.2.2.2.2.2.2.2
def Tv n:=E0 258 2 [.r 0 .Tval,.r 1 (.ptr 0 0),.w (.box [.I,.I,.S,.Lval])] 1 [.r 0 .B] fun x=>FX n x.1 x.2.1 x.2.2.1 x.2.2.2.1 x.2.2.2.2
def QI n:=E0 156 2 [.r 0 .Lval,.r 1 (.func 258 [.ptr 0 0]),.w (.box [.I,.I,.S,.Lval])] 1 [.r 0 .Lval] fun x=>Wv n x.1 x.2.1 x.2.2.1 x.2.2.2.1 x.2.2.2.2
def Mh(n:Nat):Ent:=⟨259,3,[.r 0 .I,.r 1 .I,.r 2 .I],1,[.r 0 .Tval],Val,some [],none,fun x=>F4 n x.1 x.2.1 x.2.2,fun r=>r⟩
def FM n:=E0 309 1 [.r 0 .Lvals] 1 [.r 0 .Lval] fun x=>oh n x
def WG n:=E0 308 2 [.r 0 .Tval,.r 1 (.ptr 0 0),.w (.box [.Lval])] 1 [.r 0 .B] fun x=>vN n x.1 x.2
def Rh n:=E0 156 2 [.r 0 .Lval,.r 1 (.func 308 [.ptr 0 0]),.w (.box [.Lval])] 1 [.r 0 .Lval] fun x=>WA n x.1 x.2
def Xe n:=E0 310 2 [.r 0 .Tval,.r 1 (.ptr 0 0),.w (.box [.func 308 [.ptr 1 0]]),.w (.box [.Lval])] 1 [.r 0 .B] fun x=>RP n x.1 x.2
def Qa n:=E0 156 2 [.r 0 .Lval,.r 1 (.func 310 [.ptr 0 0]),.w (.box [.func 308 [.ptr 1 0]]),.w (.box [.Lval])] 1 [.r 0 .Lval] fun x=>Xw n x.1 x.2
def Xm n:=E0 311 2 [.r 0 .Tval,.r 1 (.ptr 0 0),.w (.box [.Lval])] 1 [.r 0 .B] fun x=>JF n x.1 x.2
def Qk n:=E0 156 2 [.r 0 .Lval,.r 1 (.func 311 [.ptr 0 0]),.w (.box [.Lval])] 1 [.r 0 .Lval] fun x=>WI n x.1 x.2
def Ww n:=E0 307 2 [.r 0 .Tval,.r 1 (.ptr 0 0),.w (.box [.Lval])] 1 [.r 0 .B] fun x=>R8 n x.1 x.2
def WB n:=E0 312 2 [.r 0 .Tval,.r 1 (.ptr 0 0),.w (.box [.func 307 [.ptr 1 0]]),.w (.box [.Lval])] 1 [.r 0 .B] fun x=>JD n x.1 x.2
def Qw n:=E0 156 2 [.r 0 .Lval,.r 1 (.func 312 [.ptr 0 0]),.w (.box [.func 307 [.ptr 1 0]]),.w (.box [.Lval])] 1 [.r 0 .Lval] fun x=>WH n x.1 x.2
def Xr n:=E0 313 2 [.r 0 .Tval,.r 1 (.ptr 0 0),.w (.box [.func 307 [.ptr 1 0]]),.w (.box [.Lval])] 1 [.r 0 .B] fun x=>JI n x.1 x.2
def QN n:=E0 156 2 [.r 0 .Lval,.r 1 (.func 313 [.ptr 0 0]),.w (.box [.func 307 [.ptr 1 0]]),.w (.box [.Lval])] 1 [.r 0 .Lval] fun x=>Wq n x.1 x.2
def Xp n:=E0 314 2 [.r 0 .Tval,.r 1 (.ptr 0 0),.w (.box [.func 308 [.ptr 1 0]]),.w (.box [.Lval])] 1 [.r 0 .B] fun x=>JE n x.1 x.2
def Pd n:=E0 156 2 [.r 0 .Lval,.r 1 (.func 314 [.ptr 0 0]),.w (.box [.func 308 [.ptr 1 0]]),.w (.box [.Lval])] 1 [.r 0 .Lval] fun x=>SQ n x.1 x.2
def Xn n:=E0 315 2 [.r 0 .Tval,.r 1 (.ptr 0 0),.w (.box [.func 308 [.ptr 1 0]]),.w (.box [.Lval])] 1 [.r 0 .B] fun x=>JY n x.1 x.2
def Oe n:=E0 156 2 [.r 0 .Lval,.r 1 (.func 315 [.ptr 0 0]),.w (.box [.func 308 [.ptr 1 0]]),.w (.box [.Lval])] 1 [.r 0 .Lval] fun x=>Ul n x.1 x.2
def Sv n:=E0 316 1 [.r 0 .Lval] 1 [.r 0 .Lvals] fun x=>He n x
def WS n:=E0 317 2 [.r 0 .Tval,.r 1 (.ptr 0 0),.w (.box [.func 308 [.ptr 1 0]]),.w (.box [.Lval])] 1 [.r 0 .B] fun x=>J9 n x.1 x.2
def ND n:=E0 156 2 [.r 0 .Lval,.r 1 (.func 317 [.ptr 0 0]),.w (.box [.func 308 [.ptr 1 0]]),.w (.box [.Lval])] 1 [.r 0 .Lval] fun x=>Ux n x.1 x.2
def acH n:=E0 337 3 [.r 0 .I,.r 1 .I,.r 2 .I] 1 [.r 0 .B] fun x=>Ke n x.1 x.2.1 x.2.2
def Tj n:=E0 336 3 [.r 0 .I,.r 1 .I,.r 2 .I] 1 [.r 0 .B] fun x=>Bh n x.1 x.2.1 x.2.2
def Kv n:=E0 338 7 [.r 0 .I,.r 1 .Lval,.r 2 (.ptr 0 0),.r 3 (.ptr 1 0),.r 4 (.ptr 2 0),.r 5 (.ptr 3 0),.r 6 (.ptr 5 0),.w (.box [.Lval]),.w (.box [.I]),.w (.box [.Lval]),.w (.box [.psl 4 4]),.w (.arr .val),.w (.box [.func 338 [.ptr 0 0,.ptr 1 0,.ptr 2 0,.ptr 3 0,.ptr 5 0]])] 0 [.w (.arr .val),.o 3 (.bx [(0,.psl 6 4)]),.o 4 .dead] fun x=>fT n x.1 x.2.1 x.2.2.1 x.2.2.2.1 x.2.2.2.2.1 x.2.2.2.2.2
def Oy(n:Nat):Ent:=⟨318,3,[.r 0 .I,.r 1 .Lval,.r 2 .Lval],1,[.r 0 .Lval],List Val,some [],none,fun x=>BL n x.1 x.2.1 x.2.2,fun r=>r⟩
def acn(n:Nat):Ent:=⟨260,3,[.r 0 .I,.r 1 .Tval,.r 2 .Tval],1,[.r 0 .Tval],Val,some [],none,fun x=>PV n x.1 x.2.1 x.2.2,fun r=>r⟩
def Yq(n:Nat):Ent:=⟨158,3,[.r 0 .I,.r 1 .Tval,.r 2 .Tval],1,[.r 0 .Tval],Val,some [],none,fun x=>nK n x.1 x.2.1 x.2.2,fun r=>r⟩
def sS(n:Nat):Ent:=⟨155,2,[.r 0 (.ptr 0 0),.r 1 .Ttm,.w (.box [.Lcar,.Ldec,.Li,.mapr 1,.psl 2 5]),.w (.mp .val),.w (.arr .bnd)],1,[.r 0 (.func 256 [.eptr [.I,.S,.I,.I,.S,.Lty,.Ltm],.eptr [.Lval],.eptr [.Lval]]),.w (.arr .bnd),.o 0 (.bx [(4,.psl 3 5)]),.o 2 .dead],Int×Str×Int×Int×Str×List Ty×List Tm×List Val×List Val×List Bound,some [.w (.arr .bnd),.o 0 (.bx [(4,.psl 3 5)]),.o 2 .dead],none,fun x=>bf n x.2.1 x.2.2.1 x.2.2.2.1 x.2.2.2.2.1 x.2.2.2.2.2 x.1,fun r=>r⟩
def sK(n:Nat):Ent:=⟨155,2,[.r 0 (.ptr 0 0),.r 1 .Ttm,.w (.box [.Lcar,.Ldec,.Li,.mapr 1,.psl 2 5]),.w (.mp .val),.w (.arr .bnd)],1,[.r 0 (.func 254 [.eptr [.Lval]]),.w (.arr .bnd),.o 0 (.bx [(4,.psl 3 5)]),.o 2 .dead],List Val×List Bound,some [.w (.arr .bnd),.o 0 (.bx [(4,.psl 3 5)]),.o 2 .dead],some fun x=>x.1.op==46,fun x=>bg n x.2.1 x.2.2.1 x.2.2.2.1 x.2.2.2.2.1 x.2.2.2.2.2 x.1,fun r=>r⟩
def sM(n:Nat):Ent:=⟨155,2,[.r 0 (.ptr 0 0),.r 1 .Ttm,.w (.box [.Lcar,.Ldec,.Li,.mapr 1,.psl 2 5]),.w (.mp .val),.w (.arr .bnd)],1,[.r 0 (.func 252 [.eptr [.Lval]]),.w (.arr .bnd),.o 0 (.bx [(4,.psl 3 5)]),.o 2 .dead],List Val×List Bound,some [.w (.arr .bnd),.o 0 (.bx [(4,.psl 3 5)]),.o 2 .dead],some fun x=>decide (x.1.op<41) ||decide (46<x.1.op),fun x=>bq n x.2.1 x.2.2.1 x.2.2.2.1 x.2.2.2.2.1 x.2.2.2.2.2 x.1,fun r=>r⟩
def Bl(n:Nat):Ent:=⟨248,3,[.r 0 (.ptr 0 0),.r 1 .Ttm,.r 2 (.func 249 [.ptr 3 0,.ptr 4 0,.ptr 6 0,.ptr 7 0]),.w (.box [.Lcar,.Ldec,.Li,.mapr 1,.psl 2 5]),.w (.mp .val),.w (.arr .bnd),.w (.box [.I,.S,.I,.I,.S,.Lty,.Ltm]),.w (.box [.psl 5 4]),.w (.arr .val),.w (.box [.B]),.w (.box [.B])],0,[.w (.arr .bnd),.w (.arr .val),.o 0 (.bx [(4,.psl 8 5)]),.o 2 .dead,.o 4 (.bx [(0,.psl 9 4)]),.o 5 .dead,.o 6 (.bx [(0,.lf .b)]),.o 7 (.bx [(0,.lf .b)])],(List Bound)×(List Val)×Bool×Bool,some [.w (.arr .bnd),.w (.arr .val),.o 0 (.bx [(4,.psl 8 5)]),.o 4 (.bx [(0,.psl 9 4)]),.o 2 .dead,.o 5 .dead,.o 6 .dead,.o 7 .dead],none,fun x=>bP n x.2.1 x.2.2.1 x.2.2.2.1 x.2.2.2.2.1 x.2.2.2.2.2.1 x.1 x.2.2.2.2.2.2.1 x.2.2.2.2.2.2.2.1 x.2.2.2.2.2.2.2.2.1 x.2.2.2.2.2.2.2.2.2.1 x.2.2.2.2.2.2.2.2.2.2.1 x.2.2.2.2.2.2.2.2.2.2.2.1 x.2.2.2.2.2.2.2.2.2.2.2.2.1 x.2.2.2.2.2.2.2.2.2.2.2.2.2.1 x.2.2.2.2.2.2.2.2.2.2.2.2.2.2.1 x.2.2.2.2.2.2.2.2.2.2.2.2.2.2.2,fun r=>r⟩
def yI(n:Nat):Ent:=⟨154,2,[.r 0 (.ptr 0 0),.r 1 .Ttm,.w (.box [.Lcar,.Ldec,.Li,.mapr 1,.psl 2 5]),.w (.mp .val),.w (.arr .bnd)],1,[.r 0 .Tval,.w (.arr .bnd),.o 0 (.bx [(4,.psl 3 5)]),.o 2 .dead],Val×List Bound,some [.w (.arr .bnd),.o 0 (.bx [(4,.psl 3 5)]),.o 2 .dead],none,fun x=>bW n x.2.1 x.2.2.1 x.2.2.2.1 x.2.2.2.2.1 x.2.2.2.2.2 x.1,fun r=>r⟩
def lX(n:Nat):Ent:=⟨73,2,[.r 0 (.ptr 0 0),.r 1 .Ttm,.w (.box [.Lcar,.Ldec,.Li,.mapr 1,.psl 2 5]),.w (.mp .val),.w (.arr .bnd)],1,[.r 0 .Tval,.w (.arr .bnd),.o 0 (.bx [(4,.psl 3 5)]),.o 2 .dead],Val×List Bound,some [.w (.arr .bnd),.o 0 (.bx [(4,.psl 3 5)]),.o 2 .dead],none,fun x=>aH n x.2.1 x.2.2.1 x.2.2.2.1 x.2.2.2.2.1 x.2.2.2.2.2 x.1,fun r=>r⟩
def vD(n:Nat):Ent:=⟨153,2,[.r 0 (.ptr 0 0),.r 1 .Ttm,.w (.box [.Lcar,.Ldec,.Li,.mapr 1,.psl 2 5]),.w (.mp .val),.w (.arr .bnd)],1,[.r 0 .Tval,.w (.arr .bnd),.o 0 (.bx [(4,.psl 3 5)]),.o 2 .dead],Val×List Bound,some [.w (.arr .bnd),.o 0 (.bx [(4,.psl 3 5)]),.o 2 .dead],none,fun x=>bQ n x.2.1 x.2.2.1 x.2.2.2.1 x.2.2.2.2.1 x.2.2.2.2.2 x.1,fun r=>r⟩
def iE n:=E0 35 2 [.r 0 (.ptr 0 0),.r 1 .Ttm,.w (.box [.Lcar,.Ldec,.Li,.mapr 1,.psl 2 5]),.w (.mp .val),.w (.arr .bnd)] 2 [.r 0 .Tval,.r 1 .I,.w (.arr .bnd),.o 0 (.bx [(4,.psl 3 5)]),.o 2 .dead] fun x=>mV n x.2.1 x.2.2.1 x.2.2.2.1 x.2.2.2.2.1 x.2.2.2.2.2 x.1
def WX n:=E0 36 1 [.r 0 .Tval] 1 [.r 0 .Tval] fun x=>rU n x
def aci n:=E0 12 2 [.r 0 (.agg [.Lcar,.Ldec,.Li,.Lval]),.r 1 .Ttm] 2 [.r 0 .Tval,.r 1 .I] fun x=>kU n (S_api_World.mk (Env.mk x.1 x.2.1) x.2.2.1 x.2.2.2.1) x.2.2.2.2
def an0 n:=E0 28 0 [] 1 [.r 0 .Tty] fun x=>aCx n
def acG n:=E0 29 1 [.r 0 .I] 1 [.r 0 .Tval] fun x=>av1 n x
def FV n:=E0 42 2 [.r 0 .Lval,.r 1 .Lval] 1 [.r 0 .B] fun x=>uq n x.1 x.2
def Jh n:=E0 16 2 [.r 0 .Tval,.r 1 .Tval] 1 [.r 0 .B] fun x=>fq n x.1 x.2
def Ko n:=E0 40 2 [.r 0 .Tenv,.r 1 .Ttm] 1 [.r 0 .I] fun x=>yP n x.1 x.2
def e_eval_interp_holds n:=E0 41 2 [.r 0 (.ptr 0 0),.r 1 .Ttm,.w (.box [.Lcar,.Ldec,.Li,.mapr 1,.psl 2 5]),.w (.mp .val),.w (.arr .bnd)] 2 [.r 0 .B,.r 1 .I,.w (.arr .bnd),.o 0 (.bx [(4,.psl 3 5)]),.o 2 .dead] fun x=>eval_interp_holds n x.2.1 x.2.2.1 x.2.2.2.1 x.2.2.2.2.1 x.2.2.2.2.2 x.1
def ZR n:=E0 14 2 [.r 0 (.agg [.Lcar,.Ldec,.Li,.Lval]),.r 1 .Ttm] 2 [.r 0 .B,.r 1 .I] fun x=>kE n (S_api_World.mk (Env.mk x.1 x.2.1) x.2.2.1 x.2.2.2.1) x.2.2.2.2
def ao0 n:=E0 21 3 [.r 0 .I,.r 1 .Ttm,.r 2 .Ttm] 1 [.r 0 .Ttm] fun x=>aDu n x.1 x.2.1 x.2.2
def Sg n:=E0 26 1 [.r 0 .Lval] 2 [.r 0 .Tval,.r 1 .I] fun x=>GY n x
def Xj n:=E0 8 3 [.r 0 (.agg [.Lcar,.Ldec,.Li,.Lval]),.r 1 .Ttm,.r 2 .Ttm] 1 [.r 0 .B] fun x=>RB n (S_api_World.mk (Env.mk x.1 x.2.1) x.2.2.1 x.2.2.2.1) x.2.2.2.2.1 x.2.2.2.2.2
def akt n:=E0 126 1 [.r 0 .U] 1 [.r 0 .B] fun x=>asN n x
def RQ n:=E0 130 1 [.r 0 .S] 1 [.r 0 .I] fun x=>aj0 n x
def ako n:=E0 131 2 [.r 0 .S,.r 1 .I] 1 [.r 0 .S] fun x=>asu n x.1 x.2
def adT(n:Nat):Ent:=⟨63,2,[.r 0 .S,.r 1 .I],1,[.r 0 (.agg [.I,.S,.I])],S_refinementref01_token,none,none,fun x=>anp n x.1 x.2,fun r=>(r.kind,r.s,r.at_)⟩
def IG n:=E0 66 1 [.r 0 (.ptr 0 0),.w (.box [.S,.I,.S,.I,.I,.I,.I])] 1 [.r 0 .B] fun x=>amV n x.1 x.2.1 x.2.2.1 x.2.2.2.1 x.2.2.2.2.1 x.2.2.2.2.2.1 x.2.2.2.2.2.2
def Ju n:=E0 132 2 [.r 0 (.ptr 0 0),.r 1 .S,.w (.box [.S,.I,.S,.I,.I,.I,.I])] 1 [.r 0 .B] fun x=>YN n x.2.1 x.2.2.1 x.2.2.2.1 x.2.2.2.2.1 x.2.2.2.2.2.1 x.2.2.2.2.2.2.1 x.2.2.2.2.2.2.2 x.1
def Pm n:=E0 201 3 [.r 0 (.ptr 0 0),.r 1 .I,.r 2 .I,.w (.box [.S,.I,.S,.I,.I,.I,.I])] 0 [.o 0 (.bx [(5,.lf (.n .i64)),(6,.lf (.n .i64))])] fun x=>II n x.2.2.1 x.2.2.2.1 x.2.2.2.2.1 x.2.2.2.2.2.1 x.2.2.2.2.2.2.1 x.2.2.2.2.2.2.2.1 x.2.2.2.2.2.2.2.2 x.1 x.2.1
def EB n:=E0 133 1 [.r 0 (.ptr 0 0),.w (.box [.S,.I,.S,.I,.I,.I,.I])] 0 [.o 0 (.bx [(1,.lf (.n .i64)),(2,.lf .s),(3,.lf (.n .i64)),(4,.lf (.n .i64)),(5,.lf (.n .i64)),(6,.lf (.n .i64))])] fun x=>Jq n x.1 x.2.1 x.2.2.1 x.2.2.2.1 x.2.2.2.2.1 x.2.2.2.2.2.1 x.2.2.2.2.2.2
def Dr n:=E0 136 1 [.r 0 (.ptr 0 0),.w (.box [.S,.I,.S,.I,.I,.I,.I])] 0 [.o 0 (.bx [(5,.lf (.n .i64)),(6,.lf (.n .i64))])] fun x=>Av n x.1 x.2.1 x.2.2.1 x.2.2.2.1 x.2.2.2.2.1 x.2.2.2.2.2.1 x.2.2.2.2.2.2
def EU n:=E0 291 2 [.r 0 (.ptr 0 0),.r 1 .S,.w (.box [.S,.I,.S,.I,.I,.I,.I])] 0 [.o 0 (.bx [(1,.lf (.n .i64)),(2,.lf .s),(3,.lf (.n .i64)),(4,.lf (.n .i64)),(5,.lf (.n .i64)),(6,.lf (.n .i64))])] fun x=>ahq n x.2.1 x.2.2.1 x.2.2.2.1 x.2.2.2.2.1 x.2.2.2.2.2.1 x.2.2.2.2.2.2.1 x.2.2.2.2.2.2.2 x.1
def yD n:=E0 329 1 [.r 0 (.ptr 0 0),.w (.box [.S,.I,.S,.I,.I,.I,.I])] 1 [.r 0 .B] fun x=>Zm n x.1 x.2.1 x.2.2.1 x.2.2.2.1 x.2.2.2.2.1 x.2.2.2.2.2.1 x.2.2.2.2.2.2
def WM n:=E0 331 1 [.r 0 .S] 1 [.r 0 .I] fun x=>abZ n x
def TQ n:=E0 332 1 [.r 0 .S] 1 [.r 0 .I] fun x=>aaB n x
def akO n:=E0 333 1 [.r 0 .S] 1 [.r 0 .I] fun x=>asQ n x
def ab0 n:=E0 292 1 [.r 0 .S] 2 [.r 0 .I,.r 1 .I] fun x=>akv n x
def yx n:=E0 204 2 [.r 0 (.ptr 0 0),.r 1 .I,.w (.box [.S,.I,.S,.I,.I,.I,.I])] 1 [.r 0 .I] fun x=>YT n x.2.1 x.2.2.1 x.2.2.2.1 x.2.2.2.2.1 x.2.2.2.2.2.1 x.2.2.2.2.2.2.1 x.2.2.2.2.2.2.2 x.1
def EN n:=E0 330 1 [.r 0 (.ptr 0 0),.w (.box [.S,.I,.S,.I,.I,.I,.I])] 1 [.r 0 .S,.o 0 (.bx [(1,.lf (.n .i64)),(2,.lf .s),(3,.lf (.n .i64)),(4,.lf (.n .i64)),(5,.lf (.n .i64)),(6,.lf (.n .i64))])] fun x=>ahk n x.1 x.2.1 x.2.2.1 x.2.2.2.1 x.2.2.2.2.1 x.2.2.2.2.2.1 x.2.2.2.2.2.2
def RZ n:=E0 290 1 [.r 0 .S] 1 [.r 0 .I] fun x=>axf n x
def Gx n:=E0 65 1 [.r 0 (.ptr 0 0),.w (.box [.S,.I,.S,.I,.I,.I,.I])] 0 [.o 0 (.bx [(5,.lf (.n .i64)),(6,.lf (.n .i64))])] fun x=>akS n x.1 x.2.1 x.2.2.1 x.2.2.2.1 x.2.2.2.2.1 x.2.2.2.2.2.1 x.2.2.2.2.2.2
abbrev EkO(e:Ent):Prop:=ah Tryz.prog TE e
theorem mk m hs {E}{fn}{e}{inn}(hE:EOs Tryz.prog TE E)(hf:Tryz.prog.funcs[e.f]? =some fn)(hc:ahs Tryz.prog fn e=true:=by kernel_rfl)(hinn:∀z y,inn z=some y→e.out y=z:=by exact sm)(q:∀x,ait τ θ m hs E TE fn e inn x=e.F x:=by intro _;kernel_rfl):ah Tryz.prog TE e:=mkE lG (by kernel_rfl) (by kernel_rfl) hE hf hc hinn q
end
section
open Go Go.Proofs
theorem Sim.KQ{C}{κ}{s}{a}{w}(h:Sim C κ s a w) D:Sim {C with ds:=D} κ s {a with defers:=D} w:=
 {h with defers:=rfl}
theorem Ql{fn:Func}{args:List AV}{H:List AObj}{κ:aL}{aj:bJ}{w:World}{vs:List Value}(hen:Entry κ aj H w)(hvl:vs.length=args.length)(hr:∀j,j<args.length→Rel w κ (aD aj κ H) (args.getD j .unk) (vs.getD j undef)):
  Sim (bodyC κ aj H w []) κ ⟨args++List.replicate (fn.ntmps - args.length) (.tup []),H⟩ {tmps:=vs.toArray++Array.replicate (fn.ntmps - vs.toArray.size) undef,defers:=[]} w:=by
 refine⟨rfl,by simp[hvl],?_,hen.klen,cK.refl _,hen.resv,hen.obj,hen.apart,fun l b h1 h2 ho=>ho.2 l h1 h2,hen.bound,fun b o h=>⟨hen.pvlt b o h,fun l hl=>hen.pvdis b o l h hl⟩,fun b hb=>hb.1,fun _ _=>rfl,rfl,rfl,rfl,qAd _,fun _ _ h _=>h,Evo.refl _ _⟩
 intro n hn
 by_cases hlt:n<args.length
 ·have e1:(args++List.replicate (fn.ntmps - args.length) (AV.tup [])).getD n .unk=args.getD n .unk:=by simp[qAi hlt]
  have e2:(vs.toArray++Array.replicate (fn.ntmps - vs.toArray.size) undef).getD n undef=vs.getD n undef:=by
   simp_all
  rw[e1,e2];exact hr n hlt
 ·have e1:(args++List.replicate (fn.ntmps - args.length) (AV.tup [])).getD n .unk=.tup []:=by
   grind
  have e2:(vs.toArray++Array.replicate (fn.ntmps - vs.toArray.size) undef).getD n undef=undef:=by
   simp_all
  rw[e1,e2];exact j6
end
section
open Go
theorem Sim.entry{C:Ctx}{κ:aL}{s:ASt}{a:Act}{w:World}(h:Sim C κ s a w):Entry κ C.aj s.heap w where
 klen:=h.klen
 resv:=h.resv
 obj:=h.obj
 apart:=h.apart
 bound:=h.bound
 pvlt:=fun b o hp=>qAG (h.oldlt b (h.pvold b o hp)) h.size
 pvdis:=fun b o l hp hl hv=>h.own l b hl hv (h.pvold b o hp)
theorem Sim.through{C:Ctx}{κ κ':aL}{s:ASt}{a:Act}{w w':World}{H':List AObj}(h:Sim C κ s a w)(hl:Leave κ κ' C.aj s.heap H' w w'):Sim C κ' ⟨s.tmps,H'⟩ a w' where
 defers:=h.defers
 len:=h.len
 slot:=fun n hn=>(h.slot n hn).mono hl.kH hl.kext hl.pvsub
 klen:=hl.klen
 kext:=h.kext.trans hl.kext
 resv:=hl.resv
 obj:=hl.obj
 apart:=hl.apart
 own:=fun l b h1 h2 ho=>by
  rcases hl.stay l b h1 h2 with h3 | ⟨l0,h3,h4⟩
  ·have:=h.oldlt b ho;have:=h.size;omega
  ·exact h.own l0 b h3 h4 ho
 bound:=hl.bound
 pvold:=h.pvold
 oldlt:=h.oldlt
 old:=fun b hb=>(hl.kept b (qAG (h.oldlt b hb) h.size) fun l h3 h4=>h.own l b h3 h4 hb).trans (h.old b hb)
 os:=hl.os.trans h.os
 tape:=hl.tape.trans h.tape
 output:=hl.output.trans h.output
 size:=qAs h.size hl.kH.size
 pvsub:=fun b o hp hlt=>h.pvsub b o (hl.pvsub b o hp (qAG hlt h.size)) hlt
 kH:=h.kH.trans hl.kH fun x o hp hlt=>h.pvsub x o hp hlt
theorem Wn{P}{fn}{H}{T}{hJ}{κ}{aj}{w}(hen:Entry κ aj H w)(hJl:H.length≤hJ.length) ds {s}{κf}{a}{w'}
  (hq:BG P fn.results.toList H.length T hJ s.tmps s.heap) (hs:Sim (bodyC κ aj H w ds) κf s a w'):∃v,(results fn a.tmps).run P w'=.ok v w'∧∃v' κ',Ending.returned v=.returned v'∧Leave κ κ' aj H (aA hJ) w w'∧Rel w' κ' (aD aj κ' (aA hJ)) (av hJ (res1 T)) v':=by
 have hkl:(bodyC κ aj H w ds).k0.length≤H.length:=qBj hen.klen
 obtain⟨t1,h1,xs,q1,q2,q3⟩:=hq
 obtain⟨κ1,hs1⟩:=q1 _ κf a w' hkl hs
 obtain⟨us,u1,u2,u3⟩:=JH hs1 _ _ q2
 have hsX:Sim (bodyC κ aj H w ds) κ1 ⟨xs,h1⟩ {tmps:=us.toArray,defers:=a.defers} w':={hs1 with
  len:=by simp[u1]
  slot:=fun n hn=>by have:=u2 n hn;simpa[qAq,List.getD] using this}
 obtain⟨κ',hs2⟩:=q3 _ κ1 _ w' hkl hsX
 have hleave:Leave κ κ' aj H (aA hJ) w w':=by
  refine⟨hs2.klen,by simp only[aA,qAh];exact hJl,hs2.kext,hs2.resv,hs2.obj,?_,hs2.apart,hs2.bound,fun b hb hnl=>hs2.old b ⟨hb,hnl⟩,hs2.kH,hs2.pvsub,hs2.os,hs2.tape,hs2.output⟩
  intro l b h1 h2
  have hno:=hs2.own l b h1 h2
  by_cases hlt:b<w.heap.size
  ·right
   apply qAp
   intro hne
   exact hno ⟨hlt,fun l0 h0 hlv=>hne ⟨l0,h0,hlv⟩⟩
  grind
 have hT:us.length=(aR hJ T).length:=by have:=hs2.len;simpa using this
 have hslot:∀n,n<(aR hJ T).length→Rel w' κ' (aD aj κ' (aA hJ)) ((aR hJ T).getD n .unk) (us.getD n undef):=fun n hn=>by
  have:Rel w' κ' (aD aj κ' (aA hJ)) ((aR hJ T).getD n .unk) (us.toArray.getD n undef):=hs2.slot n hn
  simp_all
 have hm:(fn.results.mapM (RJ a.tmps)).run P w'=.ok us.toArray w':=by
  rw[qCb]
  simp_all
 rw[MK]
 simp only[Sem.run_bind,hm]
 by_cases h1:us.length=1
 ·match us,h1 with
  | [u],_=>
   match T,hT with
   | [x],_=>
    refine⟨u,by simp,u,κ',rfl,hleave,?_⟩
    have:=hslot 0 (by simp[aR])
    simpa[aR,res1] using this
 ·refine⟨.tuple us.toArray,by simp[h1],_,κ',rfl,hleave,?_⟩
  have hx:av hJ (res1 T)=.tup (aR hJ T):=by
   match T,hT with
   | [],_=>rfl
   | [x],h=>exact(h1 (by simpa[aR] using h)).elim
   | _::_::_,_=>rfl
  rw[hx]
  exact .tup hT hslot
def nrm(m:Nat)(T:List AV)(H:List AObj):QT:=fun e t h=>e=.normal∧Le m t h T H
theorem ath{P}{te}{θ}{E}{m id}{l}{s s'}{v}{τ:Nat→TI}(hτ:τ=TI.of P)(hE:∀e∈E,ah P te e)(hi:Inv s)
  (h:Gd s.h 0 (fun n'=>Vb τ θ E (fun v s=>some (v,s)) l l n' [] {s with h:=s.h++xC (yY l)} fun _ _=>none)=some (v,s')):
  AW P m (.region id l.toArray false) (fun e t h=>e=oO (Bu te v)∧t=aR s'.h s'.t∧h=aA s'.h) (aR s.h s.t) (aA s.h):=by
 subst hτ
 rw[Wi] at h
 have hres:gy {s with h:=s.h++xC (yY l)}=(gy s).reserve (yY l):=by
  unfold gy ASt.reserve
  simp only[aie,adL]
 rcases ahF hE l _ _ _ _ (show Inv {s with h:=s.h++xC (yY l)} from⟨hi.up,hi.rl,hi.cp⟩) h with⟨es',res,s1,g1,g2,g3,g4,g5,g6⟩ | ⟨l1,op,l2,s1,s2,c,g0,g1,g2,g3,g4,g5,g6,g7⟩
 ·cases g2
 ·cases g4
  rw[hres] at g1
  subst g0
  intro C κ a w hk hs
  exact wp_region_lit (M8 g1 g2 g3 C _ a w (hs.reserve (yY (l1++op::l2))) fun κ' a' w' hs'=>⟨gy s',κ',⟨rfl,rfl,rfl⟩,hs'⟩)
theorem aAB{P}{te}{θ}{n}{hs}{E}{m}{h0}{c}{p}{s}{τ:Nat→TI}{γ}{f:DS→γ}{y}(hτ:τ=TI.of P)(hE:∀e∈E,ah P te e)(hte:wM P te=true)(hmix:P.follows .mixedOrders=true)(hst:St m h0 s)
  (h:exe ⟨τ,θ,n,Unit,hs,m,te,fun _ _=>none⟩ E (fun _=>none) c γ p s (fun _=>none) (fun e s=>match e with | .normal=>some (f s) | _=>none)=some y):AW P m c (fun e t h=>e=.normal∧∃s,f s=y∧Le m t h (aR s.h s.t) (aA s.h)) (aR s.h s.t) (aA s.h):=by
 subst hτ
 refine(aak (n:=n) (hs:=hs) (te:=te) (pn:=fun _ _=>none) (ret:=fun _=>none) (m:=m) (h0:=h0) hE hte hmix c _ p s _ _ y hst h).mono fun e t hh ho=>?_
 cases ho with
 | ret g1 g2 g3 g4=>cases g3
 | oO g1 g2 g3 g4=>cases g3
 | @go _ s1 _ _ g1 g2 g3 g4=>
  grind
theorem aa2{P}{te}{θ}{n}{hs}{E}{m}{h0}{c}{p}{s}{τ:Nat→TI}{T}{H}(hτ:τ=TI.of P)(hE:∀e∈E,ah P te e)(hte:wM P te=true)(hmix:P.follows .mixedOrders=true)(hst:St m h0 s)
  (h:exe ⟨τ,θ,n,Unit,hs,m,te,fun _ _=>none⟩ E (fun _=>none) c (List TV×List TObj) p s (fun _=>none) (fun e s=>match e with | .normal=>some (s.t,s.h) | _=>none)=some (T,H)):AW P m c (nrm m (aR H T) (aA H)) (aR s.h s.t) (aA s.h):=
 (aAB (f:=fun s=>(s.t,s.h)) hτ hE hte hmix hst h).mono fun e t h ⟨h1,s1,h2,h3⟩=>by
  cases h2
  exact⟨h1,h3⟩
theorem Lj{m}{t}{h}(hm:m≤h.length):St m h ⟨t,h,[],[],[],[],[],[]⟩:=
 ⟨⟨fun i k c h1=>(by cases h1),fun d i j h1=>(by cases h1),fun d x h1=>(by cases h1)⟩,hm,fun l _ _=>.inl rfl⟩
theorem aAT{P}{te}{θ}{n}{hs}{E}{m}{h0}{c}{p}{s}{rvs}{R}{T}{hJ}{f:DS→Option R}{y}{τ:Nat→TI}(hτ:τ=TI.of P)(hE:∀e∈E,ah P te e)(hte:wM P te=true)(hmix:P.follows .mixedOrders=true)(hst:St m h0 s)
  (h:exe ⟨τ,θ,n,R,hs,m,te,fun _ _=>none⟩ E f c R p s some (fun e s=>match e with | .normal=>f s | _=>none)=some y) (hf:∀s,St m h0 s→f s=some y→BG P rvs m T hJ (aR s.h s.t) (aA s.h)):
  AW P m c (amE P rvs m T hJ) (aR s.h s.t) (aA s.h):=by
 subst hτ
 have down:∀{t t':List AV} {h h':List AObj},Le m t h t' h'→BG P rvs m T hJ t' h'→BG P rvs m T hJ t h:=fun hl ⟨t1,h1,xs,q1,q2,q3⟩=>⟨t1,h1,xs,hl.trans q1,q2,q3⟩
 refine(aak (n:=n) (hs:=hs) (te:=te) (pn:=fun _ _=>none) (ret:=f) (m:=m) (h0:=h0) hE hte hmix c _ p s _ _ y hst h).mono fun e t hh ho=>?_
 cases ho with
 | ret g1 g2 g3 g4=>cases g4;exact down g1 (hf _ g2 g3)
 | oO g1 g2 g3 g4=>cases g3
 | go g1 g2 g3 g4=>
  cases e with
  | normal=>exact down g1 (hf _ g2 g4)
  | exit id=>cases g4
  | goto l=>cases g4
  | ret=>cases g4
  | panic c=>cases g4
  | outgrown=>cases g4
section
variable {P:Program}{f d n:Nat}{r0 r1 r3:Code}{id:Nat}{o1 o2:Oper}{args:List AV}{H:List AObj}{T:List TV}{hJ:List TObj}{fn:Func}{capO:Array Operand}{TA TB:List AV}{HA HB:List AObj}
theorem W9
  (hf:P.funcs[f]? =some fn) (hb:fn.body=some (r0.seq (r1.seq ((Code.region id #[o1,o2] false).seq r3)))) (hlen:args.length≤fn.ntmps)
  (h1:o1.op=.makeFunc (.func d) #[] capO) (g1:o1.guard=none) (d1:o1.dst=some n) (h2:o2.op=.defer {callee:=.value (.tmp n),args:=#[],argTypes:=#[]}) (g2:o2.guard=none) (d2:o2.dst=none) (h12:n<TB.length)
  (hr0:AW P H.length r0 (nrm H.length TA HA) (args++List.replicate (fn.ntmps - args.length) (.tup [])) H)
  (hr1:AW P H.length r1 (nrm H.length TB HB) TA HA)
  (hr3:∀(κ:aL) (aj:bJ) (w:World),Entry κ aj H w→∀(κ2:aL) (a:Act) (w2:World),Sim (bodyC κ aj H w []) κ2 ⟨TB,HB⟩ a w2→
   ∀D,D=[({target:=.fn (.func d) (capO.map a.eval),args:=#[]}:Deferred)]→∀a',a'=({tmps:=a.tmps.setIfInBounds n (.func (.func d) #[] (capO.map a.eval)),defers:=D}:Act)→Sim (bodyC κ aj H w D) κ2 ⟨TB.set n .unk,HB⟩ a' w2→
   r3.wp P (bodyPostD P fn fun e w'=>∃v' κ',e=Ending.returned v'∧Leave κ κ' aj H (aA hJ) w w'∧Rel w' κ' (aD aj κ' (aA hJ)) (av hJ (res1 T)) v') a' w2):cZ P f args H (av hJ (res1 T)) (aA hJ):=by
 intro κ aj w vs hen hvl hr
 refine calls_of_wp_defers hf hb ?_
 have hkl:(bodyC κ aj H w []).k0.length≤H.length:=qBj hen.klen
 have hsim:Sim (bodyC κ aj H w []) κ ⟨args++List.replicate (fn.ntmps - args.length) (.tup []),H⟩ {tmps:=vs.toArray++Array.replicate (fn.ntmps - vs.toArray.size) undef,defers:=[]} w:=Ql hen hvl hr
 refine wp_seq (wp_mono (hr0 _ κ _ w hkl hsim) ?_)
 rintro e a w1 ⟨s,κ1,⟨rfl,hl⟩,hs1⟩
 obtain⟨κ1,hs1⟩:=hl _ κ1 _ _ hkl hs1
 refine wp_seq (wp_mono (hr1 _ κ1 _ w1 hkl hs1) ?_)
 rintro e a w2 ⟨s,κ2,⟨rfl,hl⟩,hs2⟩
 obtain⟨κ2,hs2⟩:=hl _ κ2 _ _ hkl hs2
 refine wp_seq (wp_region ?_)
 obtain⟨_,_,ty1,ps1,af1,_⟩:=o1
 obtain⟨_,_,ty2,ps2,af2,_⟩:=o2
 simp only at h1 g1 d1 h2 g2 d2
 subst h1 g1 d1 h2 g2 d2
 have h12':n<a.tmps.size:=by rw[hs2.len];exact h12
 have hmf:∀(fn:Fn) (first cap:Array Value) (w:World),(Instr.makeFunc fn first cap).run P w=.ok (.func fn first cap) w:=fun _ _ _ _=>rfl
 simp only[wpOps,Region.wanted,Array.size,List.range,List.range.loop,qDo,qAm,qAK]
 simp[hmf,go_sem,h12']
 refine .inl ?_
 have hd0:a.defers=[]:=hs2.defers
 have hs3:=(hs2.au (some n) (v:=.unk) (u:=.func (.func d) #[] (capO.map a.eval)) (.unk _)).KQ [{target:=.fn (.func d) (capO.map a.eval),args:=#[]}]
 have h:=hr3 κ aj w hen κ2 a w2 hs2 _ rfl _ rfl hs3
 rw[hd0]
 simp[go_sem] at h
 exact .inl h
theorem alQ
  (hf:P.funcs[f]? =some fn) (hb:fn.body=some (r0.seq (r1.seq ((Code.region id #[o1,o2] false).seq r3)))) (hlen:args.length≤fn.ntmps)
  (h1:o1.op=.makeFunc (.func d) #[] capO) (g1:o1.guard=none) (d1:o1.dst=some n) (h2:o2.op=.defer {callee:=.value (.tmp n),args:=#[],argTypes:=#[]}) (g2:o2.guard=none) (d2:o2.dst=none) (h12:n<TB.length) (hokd:j4 P d=true)
  (hidle:∀(xs:Array Value) (w:World),xs.size=capO.size→CallsD P d xs .returning w fun e u' w'=>e=.returned (.tuple #[])∧u'=.returning∧w'=w)
  (hr0:AW P H.length r0 (nrm H.length TA HA) (args++List.replicate (fn.ntmps - args.length) (.tup [])) H)
  (hr1:AW P H.length r1 (nrm H.length TB HB) TA HA) (hJl:H.length≤hJ.length)
  (hr3:AW P H.length r3 (amE P fn.results.toList H.length T hJ) (TB.set n .unk) HB):cZ P f args H (av hJ (res1 T)) (aA hJ):=by
 refine W9 hf hb hlen h1 g1 d1 h2 g2 d2 h12 hr0 hr1 fun κ aj w hen κ2 a w2 hs2 D hD a' ha' hs3=>?_
 have hkl:(bodyC κ aj H w D).k0.length≤H.length:=qBj hen.klen
 refine wp_mono (hr3 _ κ2 _ w2 hkl hs3) ?_
 have fin2:∀(s':ASt) (κ':aL) (a':Act) (w':World),BG P fn.results.toList H.length T hJ s'.tmps s'.heap→Sim (bodyC κ aj H w D) κ' s' a' w'→Leaves P fn a'.tmps (fun e w'=>∃v' κ',e=Ending.returned v'∧Leave κ κ' aj H (aA hJ) w w'∧Rel w' κ' (aD aj κ' (aA hJ)) (av hJ (res1 T)) v') a'.defers .returning w':=by
  intro s' κ' a' w' hq hs'
  rw[hs'.defers]
  rw[hD]
  refine leaves_cons (f:=d) (args:=capO.map a.eval) (by simp) (by simp[go_sem,AQ hokd]) ?_
  refine(hidle _ w' (by simp)).mono ?_
  rintro e u w'' ⟨rfl,rfl,rfl⟩
  obtain⟨v,hv1,v',κ'',e1,h1,h2⟩:=Wn hen hJl D hq hs'
  exact⟨v,hv1,v',κ'',e1,h1,h2⟩
 rintro e a' w' ⟨s',κ',hq,hs'⟩
 cases e with
 | normal=>exact fin2 s' κ' a' w' hq hs'
 | ret=>exact fin2 s' κ' a' w' hq hs'
 | exit id=>exact hq.elim
 | goto l=>exact hq.elim
 | panic c=>exact hq.elim
 | outgrown=>exact hq.elim
end
def ajJ(P)(d:Nat)(args:List AV)H(v)H':=
 ∀κ aj w (vs:List Value),Entry κ aj H w→vs.length=args.length→(∀j,j<args.length→Rel w κ (aD aj κ H) (args.getD j .unk) (vs.getD j undef))→
  CallsD P d vs.toArray (.panicking [{v,recovered:=false}]) w fun e u' w'=>e=.returned (.tuple #[])∧settle u'=.returning∧∃κ',Leave κ κ' aj H H' w w'
def Ctx.rt(C:Ctx)κ(s:ASt)w:={C with w0:=w,k0:=κ,pvE:=aD C.aj κ s.heap}
theorem Sim.rt{C:Ctx}{κ:aL}{s:ASt}{a:Act}{w:World}(h:Sim C κ s a w):Sim (C.rt κ s w) κ s a w where
 defers:=h.defers
 len:=h.len
 slot:=h.slot
 klen:=h.klen
 kext:=cK.refl _
 resv:=h.resv
 obj:=h.obj
 apart:=h.apart
 own:=h.own
 bound:=h.bound
 pvold:=h.pvold
 oldlt:=fun b hb=>qAG (h.oldlt b hb) h.size
 old:=fun _ _=>rfl
 os:=rfl
 tape:=rfl
 output:=rfl
 size:=qAd _
 pvsub:=fun _ _ hp _=>hp
 kH:=Evo.refl _ _
theorem Sim.aG9{C:Ctx}{κ:aL}{s:ASt}{a:Act}{w:World}(h:Sim C κ s a w){κ':aL}{s':ASt}{a':Act}{w':World}(h':Sim (C.rt κ s w) κ' s' a' w'):Sim C κ' s' a' w' where
 defers:=h'.defers
 len:=h'.len
 slot:=h'.slot
 klen:=h'.klen
 kext:=h.kext.trans h'.kext
 resv:=h'.resv
 obj:=h'.obj
 apart:=h'.apart
 own:=h'.own
 bound:=h'.bound
 pvold:=h.pvold
 oldlt:=h.oldlt
 old:=fun b hb=>(h'.old b hb).trans (h.old b hb)
 os:=h'.os.trans h.os
 tape:=h'.tape.trans h.tape
 output:=h'.output.trans h.output
 size:=qAs h.size h'.size
 pvsub:=fun b o hp hlt=>h.pvsub b o (h'.pvsub b o hp (qAG hlt h.size)) hlt
 kH:=h.kH.trans h'.kH fun x o hp hlt=>h.pvsub x o hp hlt
section
variable {P:Program}{f d n:Nat}{r0 r1 r3:Code}{id:Nat}{o1 o2:Oper}{args:List AV}{H:List AObj}{T:List TV}{hJ:List TObj}{fn:Func}{capO:Array Operand}{TA TB TP:List AV}{HA HB HP HP':List AObj}{v:Value}
theorem alz
  (hf:P.funcs[f]? =some fn) (hb:fn.body=some (r0.seq (r1.seq ((Code.region id #[o1,o2] false).seq r3)))) (hlen:args.length≤fn.ntmps)
  (h1:o1.op=.makeFunc (.func d) #[] capO) (g1:o1.guard=none) (d1:o1.dst=some n) (h2:o2.op=.defer {callee:=.value (.tmp n),args:=#[],argTypes:=#[]}) (g2:o2.guard=none) (d2:o2.dst=none) (h12:n<TB.length) (hokd:j4 P d=true)
  (hr0:AW P H.length r0 (nrm H.length TA HA) (args++List.replicate (fn.ntmps - args.length) (.tup [])) H)
  (hr1:AW P H.length r1 (nrm H.length TB HB) TA HA) (hJl:H.length≤hJ.length)
  (hr3:AW P HB.length r3 (fun e t h=>e=oO v∧Le HB.length t h TP HP) (TB.set n .unk) HB)
  (hrec:ajJ P d (capO.toList.map (bA TB)) HP v HP') (hret:BG P fn.results.toList H.length T hJ TP HP'):cZ P f args H (av hJ (res1 T)) (aA hJ):=by
 refine W9 hf hb hlen h1 g1 d1 h2 g2 d2 h12 hr0 hr1 fun κ aj w hen κ2 a w2 hs2 D hD a' ha' hs3=>?_
 have hkl:((bodyC κ aj H w D).rt κ2 ⟨TB.set n .unk,HB⟩ w2).k0.length≤HB.length:=qBj hs3.klen
 refine wp_mono (hr3 _ κ2 _ w2 hkl hs3.rt) ?_
 rintro e a' w' ⟨s',κ',⟨rfl,hle⟩,hs'⟩
 obtain⟨κ',hs'⟩:=hle _ κ' _ _ hkl hs'
 have hs4:=hs3.aG9 hs'
 show Leaves P fn a'.tmps _ a'.defers _ w'
 rw[hs4.defers]
 rw[hD]
 refine leaves_cons (f:=d) (args:=capO.map a.eval) (by simp) (by simp[go_sem,AQ hokd]) ?_
 refine CallsD.mono (hrec κ' aj w' (capO.map a.eval).toList hs4.entry (by simp) fun j hj=>?_) ?_
 ·simp at hj
  have x1:(capO.toList.map (bA TB)).getD j .unk=bA TB capO.toList[j]:=by
   grind
  have x2:(capO.map a.eval).toList.getD j undef=a.eval capO.toList[j]:=by
   grind
  rw[x1,x2]
  exact(hs2.ev capO.toList[j]).mono hs'.kH hs'.kext fun b o hb hlt=>hs'.pvsub b o hb hlt
 ·rintro e u w'' ⟨rfl,hu,κr,hlv⟩
  show Leaves P fn a'.tmps _ [] (settle u) w''
  rw[hu]
  obtain⟨v',hv1,v'',κ'',e1,h1,h2⟩:=Wn hen hJl D (s:=⟨TP,HP'⟩) hret (hs4.through hlv)
  exact⟨v',hv1,v'',κ'',e1,h1,h2⟩
end
end
section
open Go Go.Proofs
theorem awE:j4 Tryz.prog 72=true:=by kernel_rfl
theorem aDl xs w (hx:xs.size=4):CallsD Tryz.prog 72 xs .returning w fun e u' w'=>e=.returned (.tuple #[])∧u'=.returning∧w'=w:=by
 obtain⟨l⟩:=xs
 match l,hx with
 | [x0,x1,x2,x3],_=>
 refine callsD_of_wpS Tryz.func72 rfl fun c₀ cs hu=>?_
 apply wpS_seq
 apply wpS_region
 simp[wpOpsS,go_sem,recoverD,hu,Tryz.ntmps72,Exit.thenS]
 refine wpS_of_wp ?_
 refine wp_block ?_
 refine wp_seq ?_
 apply wp_region
 simp[wpOps,go_sem,Exit.then]
 first
  | refine wp_cond_true (by simp[Act.eval,go_sem]) ?_
  | refine .inl (wp_cond_true (by simp[Act.eval,go_sem]) ?_)
 apply wp_region
 cases c₀
 simp_all [wpOps,go_sem,Exit.inBlock,bodyPostS,results,Tryz.results72]
def cL:Code→Code | .seq a _=>a | c=>c
def cR:Code→Code | .seq _ b=>b | c=>c
def cD:Code→Code | .cond _ _ b=>b | c=>c
def cA:Code→Code | .cond _ a _=>a | c=>c
def cB:Code→Code | .block _ a=>a | c=>c
noncomputable def bdy(fn:Func):=match fn.body with | some c=>c | none=>.skip
noncomputable def opsOf:Code→List Oper | .region _ o _=>o.toList | _=>[]
noncomputable def c72:Code:=cA (cR (cD (cR (cB (cR (bdy Tryz.f72))))))
section
variable (tm:Tm)(cs:List Carrier)(ds:List Decl)(sz:List Int)(mp:List (Str×Val))(bs z:List Bound)(c:Nat)(v:Int)
def hP:List TObj:=[.box [.lf (.l .car) cs,.lf (.l .dec) ds,.lf (.l .i) sz,.mapr 1,.psl 8 5 none],.mp .val mp,.gon bs.length,.box [.ptr 0 0],.box [.lf (.t .tm) tm],.box [.lf (.n .i64) 0,.lf (.n .i64) 0,.lf .s [],.nils],.box [.lf (.n .i64) 0],.box [.lf (.n .i64) (bs.length:Int)],.arr .bnd z]
def hC:List TObj:=[.box [.lf (.l .car) cs,.lf (.l .dec) ds,.lf (.l .i) sz,.mapr 1,.psl 8 5 none],.mp .val mp,.gon bs.length,.box [.ptr 0 0],.box [.lf (.t .tm) tm],.box [.lf (.n .i64) 0,.lf (.n .i64) 0,.lf .s [],.nils],.box [.lf (.n .i64) v],.box [.lf (.n .i64) (bs.length:Int)],.arr .bnd (z.take c)]
noncomputable def s72:DS:=⟨[.ptr 3 0,.ptr 7 0,.ptr 5 0,.ptr 6 0,.tup [],.tup [],.tup [],.unk,.tup [],.unk,.unk,.unk,.lf (.n .i64) v,.tup [],.tup [],.tup [],.tup [],.tup [],.tup [],.tup [],.tup [],.tup [],.tup [],.tup []],hP tm cs ds sz mp bs z,[],[],[],[],[],[]⟩
theorem q72:exe ⟨τ,θ,0,Unit,[(6,.ca 8 0 4)],9,TE,fun _ _=>none⟩ [] (fun _=>none) c72 (List TObj) 1 (s72 tm cs ds sz mp bs z v) (fun _=>none) (fun e s=>match e with | .normal=>some s.h | _=>none)=
  (Dm z.length bs.length).bind fun c=>bif Nat.ble c z.length then some (hC tm cs ds sz mp bs z c v) else none:=by kernel_rfl
theorem aGl(hc:Dm z.length (bs.length:Int)=some c)(hb:Nat.ble c z.length=true):
  AW Tryz.prog 9 c72 (fun e t h=>e=.normal∧∃s:DS,s.h=hC tm cs ds sz mp bs z c v∧Le 9 t h (aR s.h s.t) (aA s.h)) (aR (hP tm cs ds sz mp bs z) (s72 tm cs ds sz mp bs z v).t) (aA (hP tm cs ds sz mp bs z)):=
 aAB (n:=0) (h0:=hP tm cs ds sz mp bs z) (f:=fun s=>s.h) lG (fun e he=>by cases he) (by kernel_rfl) (by kernel_rfl) (s:=s72 tm cs ds sz mp bs z v) (Lj (qAd _)) ((q72 tm cs ds sz mp bs z v).trans (by rw[hc];simp only[qAb];rw[hb];rfl))
theorem aDS v w:(Instr.typeAssert (.iface TE (.int .i64 v)) 20 41 true).run Tryz.prog w=.ok (.tuple #[.int .i64 v,.bool true]) w:=by
 have h:Tryz.prog.underlying 41=some (.int .i64):=by kernel_rfl
 simp[Instr.typeAssert,run_underlying h,go_sem,Result.andThen,TE]
set_option maxHeartbeats 2000000 in
theorem aEP(hv:0≤v∧v≤1000)(hc:Dm z.length (bs.length:Int)=some c)(hb:Nat.ble c z.length=true):
  ajJ Tryz.prog 72 [.ptr 3 0,.ptr 7 0,.ptr 5 0,.ptr 6 0] (aA (hP tm cs ds sz mp bs z)) (Bu TE v) (aA (hC tm cs ds sz mp bs z c v)):=by
 obtain⟨HP,hHP⟩:∃H,H=aA (hP tm cs ds sz mp bs z):=⟨_,rfl⟩
 obtain⟨HC,hHC⟩:∃H,H=aA (hC tm cs ds sz mp bs z c v):=⟨_,rfl⟩
 rw[←hHP,←hHC]
 intro κ aj w vs hen hvl hr
 have hsim:=Ql (fn:=Tryz.f72) hen hvl hr
 match vs,hvl with
 | [x0,x1,x2,x3],_=>
 refine callsD_of_wpS Tryz.func72 rfl fun c₀ fr hu=>?_
 apply wpS_seq
 apply wpS_region
 simp[wpOpsS,go_sem,recoverD,hu,Tryz.ntmps72,Exit.thenS]
 refine wpS_of_wp ?_
 refine wp_block ?_
 refine wp_seq ?_
 apply wp_region
 simp[wpOps,go_sem,Exit.then,Bu]
 first
  | refine wp_cond_false (by simp[Act.eval,go_sem]) ?_
  | refine .inl (wp_cond_false (by simp[Act.eval,go_sem]) ?_)
 refine wp_seq ?_
 apply wp_region
 simp[wpOps,go_sem,Exit.then,aDS]
 have h1:=(((((hsim.au (some 7) (v:=.unk) (u:=Bu TE v) (.unk _)).au (some 9) (v:=.unk) (u:=.bool false) (.unk _)).au (some 10) (v:=.unk) (u:=.tuple #[.int .i64 v,.bool true]) (.unk _)).au (some 11) (v:=.unk) (u:=.bool true) (.unk _)).au (some 12) (v:=.int .i64 v) (u:=.int .i64 v) (.int (by simp[qy,IntKind.min,IntKind.max,IntKind.signed,IntKind.bits];omega)))
 rw[hHP] at h1
 have h2:=aGl tm cs ds sz mp bs z c v hc hb _ _ _ _ (qBj (by rw[←hHP];exact hen.klen.trans (by rw[hHP];rfl))) h1
 rw[←hHP] at h2
 first
  | refine wp_cond_true (by simp[Act.eval,go_sem]) ?_
  | refine .inl (wp_cond_true (by simp[Act.eval,go_sem]) ?_)
  | refine .inl (.inl (wp_cond_true (by simp[Act.eval,go_sem]) ?_))
  | refine .inl (.inl (.inl (wp_cond_true (by simp[Act.eval,go_sem]) ?_)))
 have hact:(((((({tmps:=#[x0,x1,x2,x3]++Array.replicate (Tryz.f72.ntmps - #[x0,x1,x2,x3].size) undef,defers:=[]}:Act).put (some 7) (Bu TE v)).put (some 9) (.bool false)).put (some 10) (.tuple #[.int .i64 v,.bool true])).put (some 11) (.bool true)).put (some 12) (.int .i64 v))=
   {tmps:=#[x0,x1,x2,x3]++(((((Array.replicate 20 undef).setIfInBounds 3 (Value.iface TE (Value.int IntKind.i64 v))).setIfInBounds 5 (Value.bool false)).setIfInBounds 6 (Value.tuple #[Value.int IntKind.i64 v,Value.bool true])).setIfInBounds 7 (Value.bool true)).setIfInBounds 8 (Value.int IntKind.i64 v),defers:=[]}:=by
  simp[Act.put,Tryz.ntmps72,Bu]
 rw[hact] at h2
 refine wp_mono (c:=c72) h2 ?_
 rintro e a' w' ⟨s',κ',⟨rfl,s1,hs1,hle⟩,hs'⟩
 have hl9:HP.length=9:=by rw[hHP];rfl
 have hq:BG Tryz.prog Tryz.f72.results.toList HP.length [] (hC tm cs ds sz mp bs z c v) s'.tmps s'.heap:=by
  rw[hl9]
  exact⟨_,_,[],hle,rfl,by rw[hs1];exact Le.refl _ _ _⟩
 obtain⟨v1,hv1,v2,κ2,e1,hleave,_⟩:=Wn (fn:=Tryz.f72) hen (by rw[hl9];exact qAd 9) [] hq hs'
 rw[←hHC] at hleave
 have hd:a'.defers=[]:=hs'.defers
 exact⟨hd,.panicking [{v:=Value.iface TE (Value.int IntKind.i64 v),recovered:=true}],rfl,.tuple #[],by simp[results,Tryz.results72,go_sem],rfl,by simp[settle],κ2,hleave⟩
end
end
end Abs
end Go.Proofs.YtneeginmfjageaaGreat
