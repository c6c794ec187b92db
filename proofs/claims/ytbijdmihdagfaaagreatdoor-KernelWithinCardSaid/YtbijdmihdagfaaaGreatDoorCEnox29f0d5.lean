/-
  Printed by gend.py. Conditions: none.
-/
import Derived.KernelRfl
import Derived.Shelf.SlGeneric
import Derived.Shelf.SlIter.Nil
import Derived.Shelf.SortM.Plain
import Derived.Shelf.SortM.SortNone
import Derived.Ground.GgzProg
import Derived.Ground.SlgmProg
import Derived.Test.YtbijdmihdagfaaaGreatDoorProg
import Derived.Test.YtbijdmihdagfaaaGreatDoorCFnox9e2681
import Derived.Test.YtbijdmihdagfaaaGreatDoorCD28ox9bd91f
set_option linter.all false
namespace Go.Proofs.YtbijdmihdagfaaaGreatDoor
namespace Abs
open Go Go.Proofs
set_option maxRecDepth 100000
abbrev Sk.I:Sk:=.lf (.n .i64)
abbrev Sk.U:Sk:=.lf (.n .u8)
abbrev Sk.S:Sk:=.lf .s
abbrev Sk.B:Sk:=.lf .b
abbrev Sk.Li:Sk:=.lf (.l .i)
abbrev Sk.Lu:Sk:=.lf (.l .u)
abbrev Sk.Ls:Sk:=.lf (.l .s)
abbrev Sk.Lb:Sk:=.lf (.l .b)
abbrev Sk.Lcar:Sk:=.lf (.l .car)
abbrev Sk.Ldec:Sk:=.lf (.l .dec)
abbrev Sk.Lty:Sk:=.lf (.l .ty)
abbrev Sk.Ltm:Sk:=.lf (.l .tm)
abbrev Sk.Lenv:Sk:=.lf (.l .env)
abbrev Sk.Lval:Sk:=.lf (.l .val)
abbrev Sk.Lbnd:Sk:=.lf (.l .bnd)
abbrev Sk.Lvals:Sk:=.lf (.l .vals)
abbrev Sk.Ltms:Sk:=.lf (.l .tms)
abbrev Sk.Ti:Sk:=.lf (.t .i)
abbrev Sk.Tu:Sk:=.lf (.t .u)
abbrev Sk.Ts:Sk:=.lf (.t .s)
abbrev Sk.Tb:Sk:=.lf (.t .b)
abbrev Sk.Tcar:Sk:=.lf (.t .car)
abbrev Sk.Tdec:Sk:=.lf (.t .dec)
abbrev Sk.Tty:Sk:=.lf (.t .ty)
abbrev Sk.Ttm:Sk:=.lf (.t .tm)
abbrev Sk.Tenv:Sk:=.lf (.t .env)
abbrev Sk.Tval:Sk:=.lf (.t .val)
abbrev Sk.Tbnd:Sk:=.lf (.t .bnd)
abbrev Sk.Tvals:Sk:=.lf (.t .vals)
abbrev Sk.Ttms:Sk:=.lf (.t .tms)
abbrev Sk.Fd:Sk:=.lf (.f .dec)
def E0(f na:Nat)(ps:List Ed)(nr:Nat)(rs:List Ed)(F:fU (aY ps)→Option (fU (aY rs))):Ent:=⟨f,na,ps,nr,rs,fU (aY rs),none,none,F,fun r=>r⟩
def TE:Nat:=36
def θl:List (Nat×ET):=[(2,.i),(3,.i),(4,.b),(5,.u),(6,.u),(9,.s),(10,.s),(11,.s),(25,.env),(26,.tms),(29,.ty),(31,.tm),(36,.i),(42,.dec),(61,.car),(278,.i),(341,.u),(342,.u)]
noncomputable def θ(t:Nat):Option ET:=List.rec (motive:=fun _=>Option ET) none (fun p _ ih=>bif Nat.beq p.1 t then some p.2 else ih) θl
def IY(r:List Sk):List Sk:=.nilF:: .func 313 [.eptr [.k (.n .i64 2),.k (.s ([]:Str)),.k (.l .ty)]]:: .func 313 [.eptr [.k (.n .i64 2),.k (.s ([]:Str)),.k (.l .ty)]]:: .func 307 [.eptr [.k (.n .i64 2),.k (.s ([]:Str)),.k (.l .ty)],.eptr [.k (.n .i64 2)]]:: .func 307 [.eptr [.k (.n .i64 2),.k (.s ([]:Str)),.k (.l .ty)],.eptr [.k (.n .i64 2)]]:: .func 307 [.eptr [.k (.n .i64 2),.k (.s ([]:Str)),.k (.l .ty)],.eptr [.k (.n .i64 2)]]:: .func 307 [.eptr [.k (.n .i64 2),.k (.s ([]:Str)),.k (.l .ty)],.eptr [.k (.n .i64 2)]]:: .func 307 [.eptr [.k (.n .i64 2),.k (.s ([]:Str)),.k (.l .ty)],.eptr [.k (.n .i64 2)]]:: .func 314 [.eptr [.func 248 []]]:: .func 314 [.eptr [.func 248 []]]:: .func 235 []:: .func 235 []:: .func 307 [.eptr [.k (.n .i64 2),.k (.s ([]:Str)),.k (.l .ty)],.eptr [.k (.n .i64 1)]]:: .func 307 [.eptr [.k (.n .i64 2),.k (.s ([]:Str)),.k (.l .ty)],.eptr [.k (.n .i64 1)]]:: .func 307 [.eptr [.k (.n .i64 2),.k (.s ([]:Str)),.k (.l .ty)],.eptr [.k (.n .i64 1)]]:: .func 307 [.eptr [.k (.n .i64 2),.k (.s ([]:Str)),.k (.l .ty)],.eptr [.k (.n .i64 1)]]:: .func 250 []:: .func 250 []:: .func 315 [.eptr [.func 248 []]]:: .func 313 [.eptr [.k (.n .i64 1),.k (.s ([]:Str)),.k (.l .ty)]]:: .nilF:: .func 307 [.eptr [.k (.n .i64 1),.k (.s ([]:Str)),.k (.l .ty)],.eptr [.k (.n .i64 1)]]:: .func 307 [.eptr [.k (.n .i64 1),.k (.s ([]:Str)),.k (.l .ty)],.eptr [.k (.n .i64 1)]]:: .func 307 [.eptr [.k (.n .i64 1),.k (.s ([]:Str)),.k (.l .ty)],.eptr [.k (.n .i64 1)]]:: .func 307 [.eptr [.k (.n .i64 1),.k (.s ([]:Str)),.k (.l .ty)],.eptr [.k (.n .i64 1)]]:: .func 307 [.eptr [.k (.n .i64 1),.k (.s ([]:Str)),.k (.l .ty)],.eptr [.k (.n .i64 1)]]:: .func 307 [.eptr [.k (.n .i64 1),.k (.s ([]:Str)),.k (.l .ty)],.eptr [.k (.n .i64 1)]]:: .func 252 []:: .func 254 []:: .nilF:: .func 307 [.eptr [.k (.n .i64 5),.k (.s ([]:Str)),.k (.ly ([(Ty.mk 1 ([]:Str) ([]))]))],.eptr [.k (.n .i64 1)]]:: .func 315 [.eptr [.func 249 []]]:: .func 315 [.eptr [.func 249 []]]:: .func 315 [.eptr [.func 249 []]]:: .func 310 [.eptr [.func 239 []]]:: .func 311 [.eptr [.func 255 []]]:: .func 311 [.eptr [.func 256 []]]:: .func 240 []:: .func 240 []:: .func 311 [.eptr [.func 243 []]]:: .func 311 [.eptr [.func 243 []]]:: .func 310 [.eptr [.func 238 []]]:: .func 310 [.eptr [.func 238 []]]:: .func 310 [.eptr [.func 238 []]]:: .func 310 [.eptr [.func 238 []]]:: .func 310 [.eptr [.func 238 []]]:: .func 312 [.eptr [.func 257 []]]:: .func 312 [.eptr [.func 258 []]]:: .func 312 [.eptr [.func 245 []]]:: .func 312 [.eptr [.func 245 []]]:: .func 311 [.eptr [.func 259 []]]:: .func 311 [.eptr [.func 260 []]]:: .func 311 [.eptr [.func 261 []]]:: .func 311 [.eptr [.func 262 []]]:: .func 311 [.eptr [.func 263 []]]:: .func 314 [.eptr [.func 249 []]]:: .func 264 []::r
def ah9(n:Nat):Ent:=E0 6 0 [] 1 [.r 0 .B] fun x=>Ie n
def TF(n:Nat):Ent:=E0 16 1 [.r 0 (.agg [.Lcar,.Ldec,.Ltm,.I,.S,.I,.I,.S,.Lty,.Ltm])] 1 [.r 0 .Ltm] fun x=>iV n (S_api_Sequent.mk (Env.mk x.1 x.2.1) x.2.2.1 (Tm.mk x.2.2.2.1 x.2.2.2.2.1 x.2.2.2.2.2.1 (Ty.mk x.2.2.2.2.2.2.1 x.2.2.2.2.2.2.2.1 x.2.2.2.2.2.2.2.2.1) x.2.2.2.2.2.2.2.2.2))
def Ke(n:Nat):Ent:=E0 171 1 [.r 0 (.func 231 [.ptr 0 0]),.w (.box [.mapr 1]),.w (.mp .b)] 1 [.r 0 .Ls] fun x=>jY n x
def Qw(n:Nat):Ent:=E0 103 1 [.r 0 .Li] 1 [.r 0 .Li] fun x=>slices_Clone_int n x
def tQ(n:Nat):Ent:=E0 116 2 [.r 0 .Ls,.r 1 .S] 1 [.r 0 .I] fun x=>oN n x.1 x.2
def IK(n:Nat):Ent:=E0 85 1 [.r 0 .Ls] 1 [.r 0 (.own 0),.w (.own .s)] fun x=>fK n x
def XB(n:Nat):Ent:=E0 5 1 [.r 0 (.agg [.Lcar,.Ldec,.Ltm,.I,.S,.I,.I,.S,.Lty,.Ltm])] 1 [.r 0 .B] fun x=>vE n (S_api_Sequent.mk (Env.mk x.1 x.2.1) x.2.2.1 (Tm.mk x.2.2.2.1 x.2.2.2.2.1 x.2.2.2.2.2.1 (Ty.mk x.2.2.2.2.2.2.1 x.2.2.2.2.2.2.2.1 x.2.2.2.2.2.2.2.2.1) x.2.2.2.2.2.2.2.2.2))
def Ox(n:Nat):Ent:=E0 88 1 [.r 0 .U] 1 [.r 0 .B] fun x=>xP n x
def KA(n:Nat):Ent:=E0 89 1 [.r 0 .S] 1 [.r 0 .B] fun x=>zV n x
def QC(n:Nat):Ent:=E0 164 1 [.r 0 .U] 1 [.r 0 .B] fun x=>Fx n x
def N7(n:Nat):Ent:=E0 90 1 [.r 0 .U] 1 [.r 0 .B] fun x=>Ck n x
def Ez(n:Nat):Ent:=E0 47 1 [.r 0 .S] 1 [.r 0 .B] fun x=>dO n x
def nD(n:Nat):Ent:=E0 226 2 [.r 0 .S,.r 1 .S] 1 [.r 0 .B] fun x=>jV n x.1 x.2
def mO(n:Nat):Ent:=E0 165 2 [.r 0 .S,.r 1 .S] 1 [.r 0 .S] fun x=>jB n x.1 x.2
def zQ(n:Nat):Ent:=E0 91 2 [.r 0 .S,.r 1 .S] 1 [.r 0 .S] fun x=>strings_TrimSuffix n x.1 x.2
def EG(n:Nat):Ent:=E0 48 1 [.r 0 .S] 1 [.r 0 .B] fun x=>oz n x
def Ab(n:Nat):Ent:=E0 98 2 [.r 0 (.ptr 0 0),.r 1 .I,.w (.box [.I,.I,.I])] 1 [.r 0 .B,.o 0 (.bx [(0,.lf (.n .i64))])] fun x=>iI n x.2.1 x.2.2.1 x.2.2.2 x.1
def nU(n:Nat):Ent:=E0 228 2 [.r 0 .Lty,.r 1 (.func 227 [.ptr 0 0,.ptr 2 0]),.w (.box [.ptr 1 0]),.w (.box [.I,.I,.I]),.w (.box [.I])] 1 [.r 0 .I,.o 1 (.bx [(0,.lf (.n .i64))])] fun x=>iy n x.1 x.2.1 x.2.2.1 x.2.2.2.1 x.2.2.2.2
def lV(n:Nat):Ent:=E0 167 2 [.r 0 .Lty,.r 1 (.func 227 [.ptr 0 0,.ptr 2 0]),.w (.box [.ptr 1 0]),.w (.box [.I,.I,.I]),.w (.box [.I])] 1 [.r 0 .B,.o 1 (.bx [(0,.lf (.n .i64))])] fun x=>cO n x.1 x.2.1 x.2.2.1 x.2.2.2.1 x.2.2.2.2
def nQ(n:Nat):Ent:=E0 166 4 [.r 0 (.ptr 0 0),.r 1 .Tty,.r 2 .I,.r 3 .B,.w (.box [.I,.I,.I])] 1 [.r 0 .B,.o 0 (.bx [(0,.lf (.n .i64))])] fun x=>eG n x.2.2.2.1 x.2.2.2.2.1 x.2.2.2.2.2 x.1 x.2.1 x.2.2.1
def mF(n:Nat):Ent:=E0 227 3 [.r 0 .Tty,.r 1 (.ptr 0 0),.r 2 (.ptr 2 0),.w (.box [.ptr 1 0]),.w (.box [.I,.I,.I]),.w (.box [.I])] 1 [.r 0 .B,.o 1 (.bx [(0,.lf (.n .i64))])] fun x=>dB n x.1 x.2.1 x.2.2.1 x.2.2.2.1 x.2.2.2.2
def Gb(n:Nat):Ent:=E0 92 1 [.r 0 .Tty] 1 [.r 0 .B] fun x=>jw n x
def mI(n:Nat):Ent:=E0 228 2 [.r 0 .Lty,.r 1 (.func 168 [.ptr 0 0]),.w (.box [.I])] 1 [.r 0 .I] fun x=>iQ n x.1 x.2
def kQ(n:Nat):Ent:=E0 167 2 [.r 0 .Lty,.r 1 (.func 168 [.ptr 0 0]),.w (.box [.I])] 1 [.r 0 .B] fun x=>eU n x.1 x.2
def xg(n:Nat):Ent:=E0 93 2 [.r 0 .Tty,.r 1 .I] 1 [.r 0 .B] fun x=>jK n x.1 x.2
def tY(n:Nat):Ent:=E0 168 2 [.r 0 .Tty,.r 1 (.ptr 0 0),.w (.box [.I])] 1 [.r 0 .B] fun x=>iT n x.1 x.2
def AL(n:Nat):Ent:=E0 49 1 [.r 0 .Tty] 1 [.r 0 .B] fun x=>pV n x
def F6(n:Nat):Ent:=E0 170 2 [.r 0 .Tty,.r 1 (.mapr 0),.w (.mp .b)] 0 [.o 0 (.mp .b)] fun x=>kH n x.1 x.2
def H8(n:Nat):Ent:=E0 172 1 [.r 0 (.mapr 0),.w (.mp .b)] 1 [.r 0 (.func 231 [.ptr 1 0]),.w (.box [.mapr 0])] fun x=>ZB n x
def EM(n:Nat):Ent:=E0 95 1 [.r 0 .Tty] 1 [.r 0 .Ls] fun x=>uL n x
def y7(n:Nat):Ent:=E0 173 2 [.r 0 .Tcar,.r 1 (.ptr 0 0),.w (.box [.S])] 1 [.r 0 .B] fun x=>O7 n x.1 x.2
def su(n:Nat):Ent:=E0 70 2 [.r 0 .Lcar,.r 1 (.func 173 [.ptr 0 0]),.w (.box [.S])] 1 [.r 0 .I] fun x=>uR n x.1 x.2
def pI(n:Nat):Ent:=E0 31 2 [.r 0 .Lcar,.r 1 (.func 173 [.ptr 0 0]),.w (.box [.S])] 1 [.r 0 .B] fun x=>qO n x.1 x.2
def Ap(n:Nat):Ent:=E0 97 2 [.r 0 .Tenv,.r 1 .S] 1 [.r 0 .B] fun x=>wZ n x.1 x.2
def Au(n:Nat):Ent:=E0 96 2 [.r 0 .S,.r 1 (.ptr 0 0),.w (.box [.Lcar,.Ldec])] 1 [.r 0 .B] fun x=>wY n x.1 x.2.1 x.2.2
def uE(n:Nat):Ent:=E0 169 2 [.r 0 .Ls,.r 1 (.func 96 [.ptr 0 0]),.w (.box [.Lcar,.Ldec])] 1 [.r 0 .I] fun x=>wJ n x.1 x.2.1 x.2.2
def qx(n:Nat):Ent:=E0 94 2 [.r 0 .Ls,.r 1 (.func 96 [.ptr 0 0]),.w (.box [.Lcar,.Ldec])] 1 [.r 0 .B] fun x=>sM n x.1 x.2.1 x.2.2
def EB(n:Nat):Ent:=E0 50 2 [.r 0 .Tenv,.r 1 .Tty] 1 [.r 0 .B] fun x=>uw n x.1 x.2
def Er(n:Nat):Ent:=E0 52 1 [.r 0 .Tenv] 1 [.r 0 (.own 0),.w (.own .s)] fun x=>uj n x
def El(n:Nat):Ent:=E0 51 1 [.r 0 .Ls] 1 [.r 0 .B] fun x=>uo n x
def Es(n:Nat):Ent:=E0 17 1 [.r 0 .Tenv] 1 [.r 0 .B] fun x=>oH n x
def Uj(n:Nat):Ent:=E0 174 1 [.r 0 .I] 2 [.r 0 .I,.r 1 .B] fun x=>IV n x
def Rt(n:Nat):Ent:=E0 175 1 [.r 0 .S] 1 [.r 0 .B] fun x=>MN n x
def Ot(n:Nat):Ent:=E0 117 1 [.r 0 .I] 1 [.r 0 .B] fun x=>pz n x
def J3(n:Nat):Ent:=E0 176 1 [.r 0 .Tty] 1 [.r 0 .B] fun x=>xW n x
def Oz(n:Nat):Ent:=E0 99 1 [.r 0 .Ttm] 1 [.r 0 .B] fun x=>Cj n x
def mq(n:Nat):Ent:=E0 53 2 [.r 0 .Ltm,.r 1 (.func 100 [.ptr 0 0,.ptr 2 0]),.w (.box [.ptr 1 0]),.w (.box [.I,.I,.I]),.w (.box [.I])] 1 [.r 0 .I,.o 1 (.bx [(0,.lf (.n .i64))])] fun x=>gB n x.1 x.2.1 x.2.2.1 x.2.2.2.1 x.2.2.2.2
def kN(n:Nat):Ent:=E0 18 2 [.r 0 .Ltm,.r 1 (.func 100 [.ptr 0 0,.ptr 2 0]),.w (.box [.ptr 1 0]),.w (.box [.I,.I,.I]),.w (.box [.I])] 1 [.r 0 .B,.o 1 (.bx [(0,.lf (.n .i64))])] fun x=>dQ n x.1 x.2.1 x.2.2.1 x.2.2.2.1 x.2.2.2.2
def uh(n:Nat):Ent:=E0 54 3 [.r 0 (.ptr 0 0),.r 1 .Ttm,.r 2 .I,.w (.box [.I,.I,.I])] 1 [.r 0 .B,.o 0 (.bx [(0,.lf (.n .i64))])] fun x=>gX n x.2.2.1 x.2.2.2.1 x.2.2.2.2 x.1 x.2.1
def pY(n:Nat):Ent:=E0 100 3 [.r 0 .Ttm,.r 1 (.ptr 0 0),.r 2 (.ptr 2 0),.w (.box [.ptr 1 0]),.w (.box [.I,.I,.I]),.w (.box [.I])] 1 [.r 0 .B,.o 1 (.bx [(0,.lf (.n .i64))])] fun x=>eF n x.1 x.2.1 x.2.2.1 x.2.2.2.1 x.2.2.2.2
def P5(n:Nat):Ent:=E0 20 1 [.r 0 .Ttm] 1 [.r 0 .B] fun x=>Ah n x
def HZ(n:Nat):Ent:=E0 19 1 [.r 0 .Ttm] 1 [.r 0 .B] fun x=>AX n x
def wM(n:Nat):Ent:=E0 53 2 [.r 0 .Ltm,.r 1 (.func 19 [])] 1 [.r 0 .I] fun x=>yP n x
def sK(n:Nat):Ent:=E0 18 2 [.r 0 .Ltm,.r 1 (.func 19 [])] 1 [.r 0 .B] fun x=>vI n x
def Mg(n:Nat):Ent:=E0 185 1 [.r 0 .Tty] 1 [.r 0 .Tty] fun x=>ac0 n x
def KZ(n:Nat):Ent:=E0 177 1 [.r 0 .Tenv] 1 [.r 0 (.mapr 0),.w (.mp .ty)] fun x=>zK n x
def Mf(n:Nat):Ent:=E0 233 0 [] 1 [.r 0 .Tty] fun x=>aeC n
def Ov(n:Nat):Ent:=E0 232 2 [.r 0 .I,.r 1 .Tty] 1 [.r 0 (.func 307 [.eptr [.I,.S,.Lty],.eptr [.I]])] fun x=>(afK n x.1 x.2).bind fun r=>some (x.2.kind,x.2.name,x.2.kids,x.1)
def H7(n:Nat):Ent:=E0 234 0 [] 1 [.r 0 .Tty] fun x=>aaf n
def Rz(n:Nat):Ent:=E0 237 1 [.r 0 (.func 238 [])] 1 [.r 0 (.func 310 [.eptr [.func 238 []]])] fun x=>ahE n
def Ar(n:Nat):Ent:=E0 242 1 [.r 0 (.func 243 [])] 1 [.r 0 (.func 311 [.eptr [.func 243 []]])] fun x=>Tc n
def KI(n:Nat):Ent:=E0 244 1 [.r 0 (.func 245 [])] 1 [.r 0 (.func 312 [.eptr [.func 245 []]])] fun x=>acu n
def EI(n:Nat):Ent:=E0 246 1 [.r 0 .Tty] 1 [.r 0 (.func 313 [.eptr [.I,.S,.Lty]])] fun x=>(Xt n x).bind fun r=>some (x.kind,x.name,x.kids)
def N9(n:Nat):Ent:=E0 247 1 [.r 0 (.func 248 [])] 1 [.r 0 (.func 314 [.eptr [.func 248 []]])] fun x=>ae7 n
def Ji(n:Nat):Ent:=E0 247 1 [.r 0 (.func 249 [])] 1 [.r 0 (.func 314 [.eptr [.func 249 []]])] fun x=>abg n
def OC(n:Nat):Ent:=E0 251 1 [.r 0 (.func 248 [])] 1 [.r 0 (.func 315 [.eptr [.func 248 []]])] fun x=>afe n
def Jh(n:Nat):Ent:=E0 251 1 [.r 0 (.func 249 [])] 1 [.r 0 (.func 315 [.eptr [.func 249 []]])] fun x=>abm n
def Ms(n:Nat):Ent:=E0 237 1 [.r 0 (.func 239 [])] 1 [.r 0 (.func 310 [.eptr [.func 239 []]])] fun x=>adu n
def yN(n:Nat):Ent:=E0 242 1 [.r 0 (.func 255 [])] 1 [.r 0 (.func 311 [.eptr [.func 255 []]])] fun x=>Pp n
def yO(n:Nat):Ent:=E0 242 1 [.r 0 (.func 256 [])] 1 [.r 0 (.func 311 [.eptr [.func 256 []]])] fun x=>O8 n
def Gh(n:Nat):Ent:=E0 244 1 [.r 0 (.func 257 [])] 1 [.r 0 (.func 312 [.eptr [.func 257 []]])] fun x=>ZO n
def G9(n:Nat):Ent:=E0 244 1 [.r 0 (.func 258 [])] 1 [.r 0 (.func 312 [.eptr [.func 258 []]])] fun x=>Zc n
def yZ(n:Nat):Ent:=E0 242 1 [.r 0 (.func 259 [])] 1 [.r 0 (.func 311 [.eptr [.func 259 []]])] fun x=>Ph n
def yT(n:Nat):Ent:=E0 242 1 [.r 0 (.func 260 [])] 1 [.r 0 (.func 311 [.eptr [.func 260 []]])] fun x=>OI n
def y8(n:Nat):Ent:=E0 242 1 [.r 0 (.func 261 [])] 1 [.r 0 (.func 311 [.eptr [.func 261 []]])] fun x=>OJ n
def yV(n:Nat):Ent:=E0 242 1 [.r 0 (.func 262 [])] 1 [.r 0 (.func 311 [.eptr [.func 262 []]])] fun x=>OO n
def zn(n:Nat):Ent:=E0 242 1 [.r 0 (.func 263 [])] 1 [.r 0 (.func 311 [.eptr [.func 263 []]])] fun x=>OP n
def Oq(n:Nat):Ent:=E0 178 0 [] 1 [.r 0 (.agg (IY []))] fun x=>ae1 n
def Aq(n:Nat):Ent:=⟨101,1,[.r 0 .Tenv],1,[.r 0 (.ptr 1 0),.w (.arr .i),.w (.box (.mapr 2:: .mapr 3::(IY [.psl 0 1]))),.w (.mp .ty),.w (.mp .b)],((List (Str×Ty))×(List (Str×Bool))),none,none,fun x=>xk n x,fun r=>([],r.1,r.2)⟩
def JZ(n:Nat):Ent:=E0 180 1 [.r 0 .I] 1 [.r 0 .B] fun x=>sS n x
def DR(n:Nat):Ent:=E0 181 1 [.r 0 .Tty] 2 [.r 0 .Tty,.r 1 .B] fun x=>bI n x
def yM(n:Nat):Ent:=E0 182 2 [.r 0 .Fd,.r 1 .S] 2 [.r 0 .Tty,.r 1 .B] fun x=>nL n x.1 x.2
def vD(n:Nat):Ent:=E0 265 2 [.r 0 .S,.r 1 (.ptr 0 0),.w (.box [.ptr 1 0]),.w (.box (.mapr 2:: .mapr 3::(IY [.psl 4 1]))),.w (.mp .ty),.w (.mp .b),.w (.arr .i)] 1 [.r 0 .B] fun x=>kV n x.1 x.2.1 x.2.2.1 x.2.2.2
def qC(n:Nat):Ent:=E0 169 2 [.r 0 .Ls,.r 1 (.func 265 [.ptr 0 0]),.w (.box [.ptr 1 0]),.w (.box (.mapr 2:: .mapr 3::(IY [.psl 4 1]))),.w (.mp .ty),.w (.mp .b),.w (.arr .i)] 1 [.r 0 .I] fun x=>sI n x.1 x.2.1 x.2.2.1 x.2.2.2
def nN(n:Nat):Ent:=E0 94 2 [.r 0 .Ls,.r 1 (.func 265 [.ptr 0 0]),.w (.box [.ptr 1 0]),.w (.box (.mapr 2:: .mapr 3::(IY [.psl 4 1]))),.w (.mp .ty),.w (.mp .b),.w (.arr .i)] 1 [.r 0 .B] fun x=>pJ n x.1 x.2.1 x.2.2.1 x.2.2.2
def xQ(n:Nat):Ent:=E0 183 2 [.r 0 (.ptr 0 0),.r 1 .Tty,.w (.box (.mapr 1:: .mapr 2::(IY [.psl 3 1]))),.w (.mp .ty),.w (.mp .b),.w (.arr .i)] 1 [.r 0 .B] fun x=>mK n x.2.1 x.2.2.1 x.2.2.2 x.1
def GX(n:Nat):Ent:=E0 184 1 [.r 0 .Tty] 2 [.r 0 .Tty,.r 1 .I] fun x=>mU n x
def Aw(n:Nat):Ent:=E0 313 2 [.r 0 .Lty,.r 1 (.eptr [.I,.S,.Lty])] 2 [.r 0 .Tty,.r 1 .B] fun x=>SF n x.1 x.2.1 x.2.2.1 x.2.2.2
def ER(n:Nat):Ent:=E0 308 2 [.r 0 .Tty,.r 1 (.eptr [.I])] 1 [.r 0 .B] fun x=>Yq n x.1 x.2
def uF(n:Nat):Ent:=E0 228 2 [.r 0 .Lty,.r 1 (.func 308 [.eptr [.I]])] 1 [.r 0 .I] fun x=>wF n x.1 x.2
def qH(n:Nat):Ent:=E0 167 2 [.r 0 .Lty,.r 1 (.func 308 [.eptr [.I]])] 1 [.r 0 .B] fun x=>sG n x.1 x.2
def J2(n:Nat):Ent:=E0 307 3 [.r 0 .Lty,.r 1 (.eptr [.I,.S,.Lty]),.r 2 (.eptr [.I])] 2 [.r 0 .Tty,.r 1 .B] fun x=>aP n x.1 x.2.1 x.2.2.1 x.2.2.2.1 x.2.2.2.2
def Jq(n:Nat):Ent:=E0 248 1 [.r 0 .Tty] 1 [.r 0 .Tty] fun x=>abF n x
def EO(n:Nat):Ent:=E0 314 2 [.r 0 .Lty,.r 1 (.eptr [.func 248 []])] 2 [.r 0 .Tty,.r 1 .B] fun x=>oM n x
def nS(n:Nat):Ent:=E0 191 3 [.r 0 .Lty,.r 1 .Lty,.r 2 (.func 121 [])] 1 [.r 0 .B] fun x=>lM n x.1 x.2
def Bv(n:Nat):Ent:=E0 121 2 [.r 0 .Tty,.r 1 .Tty] 1 [.r 0 .B] fun x=>eZ n x.1 x.2
def Hg(n:Nat):Ent:=E0 309 2 [.r 0 .Tty,.r 1 (.ptr 0 0),.w (.box [.Lty])] 1 [.r 0 .B] fun x=>wE n x.1 x.2
def uq(n:Nat):Ent:=E0 228 2 [.r 0 .Lty,.r 1 (.func 309 [.ptr 0 0]),.w (.box [.Lty])] 1 [.r 0 .I] fun x=>nV n x.1 x.2
def qg(n:Nat):Ent:=E0 167 2 [.r 0 .Lty,.r 1 (.func 309 [.ptr 0 0]),.w (.box [.Lty])] 1 [.r 0 .B] fun x=>lW n x.1 x.2
def Me(n:Nat):Ent:=E0 236 1 [.r 0 .Lty] 1 [.r 0 .B] fun x=>jL n x
def JA(n:Nat):Ent:=E0 235 1 [.r 0 .Lty] 2 [.r 0 .Tty,.r 1 .B] fun x=>tF n x
def Jg(n:Nat):Ent:=E0 250 1 [.r 0 .Lty] 2 [.r 0 .Tty,.r 1 .B] fun x=>sW n x
def EL(n:Nat):Ent:=E0 315 2 [.r 0 .Lty,.r 1 (.eptr [.func 248 []])] 2 [.r 0 .Tty,.r 1 .B] fun x=>zW n x
def Jd(n:Nat):Ent:=E0 253 2 [.r 0 .Tty,.r 1 .Tty] 1 [.r 0 .Tty] fun x=>abj n x.1 x.2
def JB(n:Nat):Ent:=E0 252 1 [.r 0 .Lty] 2 [.r 0 .Tty,.r 1 .B] fun x=>D7 n x
def JQ(n:Nat):Ent:=E0 254 1 [.r 0 .Lty] 2 [.r 0 .Tty,.r 1 .B] fun x=>rY n x
def I6(n:Nat):Ent:=E0 249 1 [.r 0 .Tty] 1 [.r 0 .Tty] fun x=>abw n x
def Ew(n:Nat):Ent:=E0 315 2 [.r 0 .Lty,.r 1 (.eptr [.func 249 []])] 2 [.r 0 .Tty,.r 1 .B] fun x=>jZ n x
def EC(n:Nat):Ent:=E0 239 2 [.r 0 .Tty,.r 1 .Tty] 1 [.r 0 .Tty] fun x=>XQ n x.1 x.2
def GN(n:Nat):Ent:=E0 310 2 [.r 0 .Lty,.r 1 (.eptr [.func 239 []])] 2 [.r 0 .Tty,.r 1 .B] fun x=>Bg n x
def Lx(n:Nat):Ent:=E0 241 1 [.r 0 .Tty] 3 [.r 0 .Tty,.r 1 .Tty,.r 2 .B] fun x=>fM n x
def JX(n:Nat):Ent:=E0 255 3 [.r 0 .Tty,.r 1 .Tty,.r 2 .Lty] 2 [.r 0 .Tty,.r 1 .B] fun x=>OE n x.1 x.2.1 x.2.2
def wS(n:Nat):Ent:=E0 311 2 [.r 0 .Lty,.r 1 (.eptr [.func 255 []])] 2 [.r 0 .Tty,.r 1 .B] fun x=>qw n x
def Jj(n:Nat):Ent:=E0 256 3 [.r 0 .Tty,.r 1 .Tty,.r 2 .Lty] 2 [.r 0 .Tty,.r 1 .B] fun x=>Oy n x.1 x.2.1 x.2.2
def wG(n:Nat):Ent:=E0 311 2 [.r 0 .Lty,.r 1 (.eptr [.func 256 []])] 2 [.r 0 .Tty,.r 1 .B] fun x=>qD n x
def J4(n:Nat):Ent:=E0 240 1 [.r 0 .Lty] 2 [.r 0 .Tty,.r 1 .B] fun x=>sF n x
def Jm(n:Nat):Ent:=E0 243 3 [.r 0 .Tty,.r 1 .Tty,.r 2 .Lty] 2 [.r 0 .Tty,.r 1 .B] fun x=>Oo n x.1 x.2.1 x.2.2
def wO(n:Nat):Ent:=E0 311 2 [.r 0 .Lty,.r 1 (.eptr [.func 243 []])] 2 [.r 0 .Tty,.r 1 .B] fun x=>jq n x
def JN(n:Nat):Ent:=E0 238 2 [.r 0 .Tty,.r 1 .Tty] 1 [.r 0 .Tty] fun x=>aby n x.1 x.2
def Gj(n:Nat):Ent:=E0 310 2 [.r 0 .Lty,.r 1 (.eptr [.func 238 []])] 2 [.r 0 .Tty,.r 1 .B] fun x=>fO n x
def Hu(n:Nat):Ent:=E0 257 1 [.r 0 .Tty] 2 [.r 0 .Tty,.r 1 .B] fun x=>ZT n x
def DN(n:Nat):Ent:=E0 312 2 [.r 0 .Lty,.r 1 (.eptr [.func 257 []])] 2 [.r 0 .Tty,.r 1 .B] fun x=>yE n x
def Ii(n:Nat):Ent:=E0 258 1 [.r 0 .Tty] 2 [.r 0 .Tty,.r 1 .B] fun x=>Y8 n x
def CY(n:Nat):Ent:=E0 312 2 [.r 0 .Lty,.r 1 (.eptr [.func 258 []])] 2 [.r 0 .Tty,.r 1 .B] fun x=>yH n x
def JH(n:Nat):Ent:=E0 245 1 [.r 0 .Tty] 2 [.r 0 .Tty,.r 1 .B] fun x=>abe n x
def DF(n:Nat):Ent:=E0 312 2 [.r 0 .Lty,.r 1 (.eptr [.func 245 []])] 2 [.r 0 .Tty,.r 1 .B] fun x=>mW n x
def Gd(n:Nat):Ent:=E0 259 3 [.r 0 .Tty,.r 1 .Tty,.r 2 .Lty] 2 [.r 0 .Tty,.r 1 .B] fun x=>Zo n x.1 x.2.1 x.2.2
def wN(n:Nat):Ent:=E0 311 2 [.r 0 .Lty,.r 1 (.eptr [.func 259 []])] 2 [.r 0 .Tty,.r 1 .B] fun x=>qb n x
def F8(n:Nat):Ent:=E0 260 3 [.r 0 .Tty,.r 1 .Tty,.r 2 .Lty] 2 [.r 0 .Tty,.r 1 .B] fun x=>Zz n x.1 x.2.1 x.2.2
def wT(n:Nat):Ent:=E0 311 2 [.r 0 .Lty,.r 1 (.eptr [.func 260 []])] 2 [.r 0 .Tty,.r 1 .B] fun x=>pW n x
def Gs(n:Nat):Ent:=E0 261 3 [.r 0 .Tty,.r 1 .Tty,.r 2 .Lty] 2 [.r 0 .Tty,.r 1 .B] fun x=>ZV n x.1 x.2.1 x.2.2
def wL(n:Nat):Ent:=E0 311 2 [.r 0 .Lty,.r 1 (.eptr [.func 261 []])] 2 [.r 0 .Tty,.r 1 .B] fun x=>qG n x
def Gz(n:Nat):Ent:=E0 262 3 [.r 0 .Tty,.r 1 .Tty,.r 2 .Lty] 2 [.r 0 .Tty,.r 1 .B] fun x=>Mq n x.1 x.2.1 x.2.2
def wQ(n:Nat):Ent:=E0 311 2 [.r 0 .Lty,.r 1 (.eptr [.func 262 []])] 2 [.r 0 .Tty,.r 1 .B] fun x=>p8 n x
def Hy(n:Nat):Ent:=E0 263 3 [.r 0 .Tty,.r 1 .Tty,.r 2 .Lty] 2 [.r 0 .Tty,.r 1 .B] fun x=>KO n x.1 x.2.1 x.2.2
def wU(n:Nat):Ent:=E0 311 2 [.r 0 .Lty,.r 1 (.eptr [.func 263 []])] 2 [.r 0 .Tty,.r 1 .B] fun x=>p9 n x
def EH(n:Nat):Ent:=E0 314 2 [.r 0 .Lty,.r 1 (.eptr [.func 249 []])] 2 [.r 0 .Tty,.r 1 .B] fun x=>Ai n x
def Ht(n:Nat):Ent:=E0 264 1 [.r 0 .Lty] 2 [.r 0 .Tty,.r 1 .B] fun x=>Bt n x
def ug(n:Nat):Ent:=E0 102 3 [.r 0 (.ptr 0 0),.r 1 .Ttm,.r 2 .Fd,.w (.box (.mapr 1:: .mapr 2::(IY [.psl 3 1]))),.w (.mp .ty),.w (.mp .b),.w (.arr .i)] 2 [.r 0 .Tty,.r 1 .I,.w (.arr .i),.o 0 (.bx [(59,.psl 4 1)]),.o 3 (.dead)] fun x=>iR n x.2.2.1 x.2.2.2.1 x.2.2.2.2 x.1 x.2.1
def pF(n:Nat):Ent:=E0 179 4 [.r 0 (.ptr 0 0),.r 1 .Ttm,.r 2 .I,.r 3 .Fd,.w (.box (.mapr 1:: .mapr 2::(IY [.psl 3 1]))),.w (.mp .ty),.w (.mp .b),.w (.arr .i)] 2 [.r 0 .Tty,.r 1 .I,.w (.arr .i),.o 0 (.bx [(59,.psl 4 1)]),.o 3 (.dead)] fun x=>gH n x.2.2.2.1 x.2.2.2.2.1 x.2.2.2.2.2 x.1 x.2.1 x.2.2.1
def Em(n:Nat):Ent:=E0 104 1 [.r 0 .Tty] 1 [.r 0 .Tty] fun x=>lF n x
def J6(n:Nat):Ent:=E0 55 2 [.r 0 .Tenv,.r 1 .Ttm] 3 [.r 0 .Tty,.r 1 .Li,.r 2 .I] fun x=>xU n x.1 x.2
def Dp(n:Nat):Ent:=E0 21 2 [.r 0 .Tenv,.r 1 .Ttm] 1 [.r 0 .I] fun x=>ni n x.1 x.2
def K6(n:Nat):Ent:=E0 7 1 [.r 0 (.agg [.Lcar,.Ldec,.Ltm,.I,.S,.I,.I,.S,.Lty,.Ltm])] 1 [.r 0 .I] fun x=>lC n (S_api_Sequent.mk (Env.mk x.1 x.2.1) x.2.2.1 (Tm.mk x.2.2.2.1 x.2.2.2.2.1 x.2.2.2.2.2.1 (Ty.mk x.2.2.2.2.2.2.1 x.2.2.2.2.2.2.2.1 x.2.2.2.2.2.2.2.2.1) x.2.2.2.2.2.2.2.2.2))
def Uc(n:Nat):Ent:=E0 105 1 [.r 0 .U] 1 [.r 0 .B] fun x=>Di n x
def agh(n:Nat):Ent:=E0 62 2 [.r 0 .S,.r 1 .Ls] 1 [.r 0 .B] fun x=>M4 n x.1 x.2
def QH(n:Nat):Ent:=E0 106 1 [.r 0 .S] 1 [.r 0 .B] fun x=>FP n x
def WA(n:Nat):Ent:=E0 107 1 [.r 0 .U] 1 [.r 0 .B] fun x=>Ny n x
def Jc(n:Nat):Ent:=E0 56 1 [.r 0 .S] 1 [.r 0 .B] fun x=>eX n x
def Ua(n:Nat):Ent:=E0 108 1 [.r 0 .S] 1 [.r 0 .B] fun x=>I7 n x
def X6(n:Nat):Ent:=E0 57 1 [.r 0 .S] 1 [.r 0 .B] fun x=>Bn n x
def Yp(n:Nat):Ent:=E0 109 3 [.r 0 .Tty,.r 1 .I,.r 2 .I] 1 [.r 0 .I] fun x=>rE n x.1 x.2.1 x.2.2
def L6(n:Nat):Ent:=E0 58 1 [.r 0 .Tty] 1 [.r 0 .B] fun x=>qy n x
def Mh(n:Nat):Ent:=E0 59 1 [.r 0 .Tty] 1 [.r 0 .B] fun x=>nk n x
def Oj(n:Nat):Ent:=E0 110 1 [.r 0 .Tty] 1 [.r 0 .Ls] fun x=>tO n x
def H9(n:Nat):Ent:=E0 38 2 [.r 0 .Tenv,.r 1 .S] 1 [.r 0 .I] fun x=>iM n x.1 x.2
def Wn(n:Nat):Ent:=E0 60 2 [.r 0 .Tenv,.r 1 .Tty] 1 [.r 0 .B] fun x=>Ik n x.1 x.2
def OG(n:Nat):Ent:=E0 61 1 [.r 0 .Tenv] 1 [.r 0 (.own 0),.w (.own .s)] fun x=>Co n x
def Oc(n:Nat):Ent:=E0 22 1 [.r 0 .Tenv] 1 [.r 0 .B] fun x=>xL n x
def aai(n:Nat):Ent:=E0 186 1 [.r 0 .I] 1 [.r 0 .I] fun x=>Sn n x
def Um(n:Nat):Ent:=E0 119 1 [.r 0 .I] 1 [.r 0 .B] fun x=>nZ n x
def NU(n:Nat):Ent:=E0 187 1 [.r 0 .Tty] 1 [.r 0 .B] fun x=>Cr n x
def aa7(n:Nat):Ent:=E0 111 1 [.r 0 .Ttm] 1 [.r 0 .B] fun x=>R6 n x
def Xd(n:Nat):Ent:=E0 63 3 [.r 0 .Ttm,.r 1 .I,.r 2 .I] 1 [.r 0 .I] fun x=>yx n x.1 x.2.1 x.2.2
def YB(n:Nat):Ent:=E0 24 1 [.r 0 .Ttm] 1 [.r 0 .B] fun x=>uP n x
def Uz(n:Nat):Ent:=E0 23 1 [.r 0 .Ltm] 1 [.r 0 .B] fun x=>JG n x
def Ob(n:Nat):Ent:=E0 40 2 [.r 0 .Tenv,.r 1 .S] 1 [.r 0 .I] fun x=>o8 n x.1 x.2
def Ra(n:Nat):Ent:=E0 267 1 [.r 0 .S] 1 [.r 0 .Tty] fun x=>ahe n x
def ada(n:Nat):Ent:=E0 266 1 [.r 0 .Tty] 1 [.r 0 .Tty] fun x=>apC n x
def GJ(n:Nat):Ent:=E0 268 2 [.r 0 .Tenv,.r 1 .S] 2 [.r 0 .I,.r 1 .I] fun x=>qm n x.1 x.2
def Q9(n:Nat):Ent:=E0 188 3 [.r 0 .Tenv,.r 1 .Ldec,.r 2 .S] 2 [.r 0 .Tty,.r 1 .B] fun x=>zZ n x.1 x.2.1 x.2.2
def XR(n:Nat):Ent:=E0 189 1 [.r 0 .Tty] 1 [.r 0 .B] fun x=>jf n x
def adh(n:Nat):Ent:=E0 13 0 [] 1 [.r 0 .Tty] fun x=>ap0 n
def Oh(n:Nat):Ent:=E0 41 2 [.r 0 .Tty,.r 1 .Tty] 1 [.r 0 .B] fun x=>bq n x.1 x.2
def acd(n:Nat):Ent:=E0 269 2 [.r 0 .Lty,.r 1 .Tty] 1 [.r 0 .B] fun x=>Dw n x.1 x.2
def aaI(n:Nat):Ent:=E0 270 2 [.r 0 .Tty,.r 1 .Tty] 1 [.r 0 .Tty] fun x=>anf n x.1 x.2
def aaY(n:Nat):Ent:=E0 316 0 [] 1 [.r 0 .Tty] fun x=>am3 n
def Yk(n:Nat):Ent:=E0 271 2 [.r 0 .I,.r 1 .Lty] 2 [.r 0 .Tty,.r 1 .B] fun x=>ad7 n x.1 x.2
def YA(n:Nat):Ent:=E0 317 1 [.r 0 .Tty] 1 [.r 0 .B] fun x=>Hr n x
def Ul(n:Nat):Ent:=E0 318 1 [.r 0 .Tty] 1 [.r 0 .Tty] fun x=>qJ n x
def Yh(n:Nat):Ent:=E0 319 1 [.r 0 .Tty] 1 [.r 0 .Tty] fun x=>vH n x
def NZ(n:Nat):Ent:=E0 272 2 [.r 0 .I,.r 1 .Lty] 2 [.r 0 .Tty,.r 1 .B] fun x=>TW n x.1 x.2
def ady(n:Nat):Ent:=E0 190 2 [.r 0 .Ttm,.r 1 .Lty] 2 [.r 0 .Tty,.r 1 .B] fun x=>lY n x.1 x.2
def Uo(n:Nat):Ent:=E0 112 3 [.r 0 .Tenv,.r 1 .Ldec,.r 2 .Ttm] 3 [.r 0 .Tty,.r 1 .Li,.r 2 .I] fun x=>uQ n x.1 x.2.1 x.2.2
def OD(n:Nat):Ent:=E0 113 1 [.r 0 .Tty] 1 [.r 0 .Tty] fun x=>tL n x
def Ut(n:Nat):Ent:=E0 64 2 [.r 0 .Tenv,.r 1 .Ttm] 3 [.r 0 .Tty,.r 1 .Li,.r 2 .I] fun x=>JL n x.1 x.2
def LA(n:Nat):Ent:=E0 25 2 [.r 0 .Tenv,.r 1 .Ttm] 1 [.r 0 .I] fun x=>qp n x.1 x.2
def WJ(n:Nat):Ent:=E0 8 1 [.r 0 (.agg [.Lcar,.Ldec,.Ltm,.I,.S,.I,.I,.S,.Lty,.Ltm])] 1 [.r 0 .I] fun x=>oU n (S_api_Sequent.mk (Env.mk x.1 x.2.1) x.2.2.1 (Tm.mk x.2.2.2.1 x.2.2.2.2.1 x.2.2.2.2.2.1 (Ty.mk x.2.2.2.2.2.2.1 x.2.2.2.2.2.2.2.1 x.2.2.2.2.2.2.2.2.1) x.2.2.2.2.2.2.2.2.2))
def za(n:Nat):Ent:=E0 71 2 [.r 0 .Ls,.r 1 .Ls] 1 [.r 0 .B] fun x=>slices_Equal_string n x.1 x.2
def zB(n:Nat):Ent:=E0 33 2 [.r 0 .Tcar,.r 1 .Tcar] 1 [.r 0 .B] fun x=>jl n x.1 x.2
def rV(n:Nat):Ent:=E0 65 3 [.r 0 .Lcar,.r 1 .Lcar,.r 2 (.func 33 [])] 1 [.r 0 .B] fun x=>vN n x.1 x.2
def En(n:Nat):Ent:=E0 73 2 [.r 0 .Tty,.r 1 .Tty] 1 [.r 0 .B] fun x=>Af n x.1 x.2
def ED(n:Nat):Ent:=E0 36 2 [.r 0 .Tdec,.r 1 .Tdec] 1 [.r 0 .B] fun x=>lG n x.1 x.2
def wI(n:Nat):Ent:=E0 66 3 [.r 0 .Ldec,.r 1 .Ldec,.r 2 (.func 36 [])] 1 [.r 0 .B] fun x=>yL n x.1 x.2
def Gt(n:Nat):Ent:=E0 26 2 [.r 0 .Tenv,.r 1 .Tenv] 1 [.r 0 .B] fun x=>vU n x.1 x.2
def Ld(n:Nat):Ent:=E0 114 1 [.r 0 .Ttm] 1 [.r 0 .B] fun x=>Ic n x
def uM(n:Nat):Ent:=E0 53 2 [.r 0 .Ltm,.r 1 (.func 114 [])] 1 [.r 0 .I] fun x=>wH n x
def qF(n:Nat):Ent:=E0 18 2 [.r 0 .Ltm,.r 1 (.func 114 [])] 1 [.r 0 .B] fun x=>sN n x
def Rl(n:Nat):Ent:=E0 67 1 [.r 0 .Ltm] 1 [.r 0 .B] fun x=>Fp n x
def Ae(n:Nat):Ent:=E0 115 2 [.r 0 .Tty,.r 1 .Tty] 1 [.r 0 .B] fun x=>ko n x.1 x.2
def mG(n:Nat):Ent:=E0 191 3 [.r 0 .Lty,.r 1 .Lty,.r 2 (.func 115 [])] 1 [.r 0 .B] fun x=>kD n x.1 x.2
def DT(n:Nat):Ent:=E0 68 3 [.r 0 (.agg [.Ls,.Ls]),.r 1 .Ttm,.r 2 .Ttm] 1 [.r 0 .B] fun x=>jg n (S_term_scope.mk x.1 x.2.1) x.2.2.1 x.2.2.2
def Q0(n:Nat):Ent:=E0 28 2 [.r 0 .Ttm,.r 1 .Ttm] 1 [.r 0 .B] fun x=>rz n x.1 x.2
def wP(n:Nat):Ent:=E0 27 3 [.r 0 .Ltm,.r 1 .Ltm,.r 2 (.func 28 [])] 1 [.r 0 .B] fun x=>zi n x.1 x.2
def Og(n:Nat):Ent:=E0 9 2 [.r 0 (.agg [.Lcar,.Ldec,.Ltm,.I,.S,.I,.I,.S,.Lty,.Ltm]),.r 1 (.agg [.Lcar,.Ldec,.Ltm,.I,.S,.I,.I,.S,.Lty,.Ltm])] 1 [.r 0 .B] fun x=>pq n (S_api_Sequent.mk (Env.mk x.1 x.2.1) x.2.2.1 (Tm.mk x.2.2.2.1 x.2.2.2.2.1 x.2.2.2.2.2.1 (Ty.mk x.2.2.2.2.2.2.1 x.2.2.2.2.2.2.2.1 x.2.2.2.2.2.2.2.2.1) x.2.2.2.2.2.2.2.2.2.1)) (S_api_Sequent.mk (Env.mk x.2.2.2.2.2.2.2.2.2.2.1 x.2.2.2.2.2.2.2.2.2.2.2.1) x.2.2.2.2.2.2.2.2.2.2.2.2.1 (Tm.mk x.2.2.2.2.2.2.2.2.2.2.2.2.2.1 x.2.2.2.2.2.2.2.2.2.2.2.2.2.2.1 x.2.2.2.2.2.2.2.2.2.2.2.2.2.2.2.1 (Ty.mk x.2.2.2.2.2.2.2.2.2.2.2.2.2.2.2.2.1 x.2.2.2.2.2.2.2.2.2.2.2.2.2.2.2.2.2.1 x.2.2.2.2.2.2.2.2.2.2.2.2.2.2.2.2.2.2.1) x.2.2.2.2.2.2.2.2.2.2.2.2.2.2.2.2.2.2.2))
def Ej(n:Nat):Ent:=E0 32 2 [.r 0 .Tcar,.r 1 (.ptr 0 0),.w (.box [.S,.Ls])] 1 [.r 0 .B] fun x=>zI n x.1 x.2.1 x.2.2
def pQ(n:Nat):Ent:=E0 70 2 [.r 0 .Lcar,.r 1 (.func 32 [.ptr 0 0]),.w (.box [.S,.Ls])] 1 [.r 0 .I] fun x=>qR n x.1 x.2.1 x.2.2
def nO(n:Nat):Ent:=E0 31 2 [.r 0 .Lcar,.r 1 (.func 32 [.ptr 0 0]),.w (.box [.S,.Ls])] 1 [.r 0 .B] fun x=>kr n x.1 x.2.1 x.2.2
def EP(n:Nat):Ent:=E0 35 2 [.r 0 .Tdec,.r 1 (.ptr 0 0),.w (.box [.S,.I,.S,.Lty])] 1 [.r 0 .B] fun x=>Ac n x.1 x.2.1 x.2.2.1 x.2.2.2.1 x.2.2.2.2
def wK(n:Nat):Ent:=E0 72 2 [.r 0 .Ldec,.r 1 (.func 35 [.ptr 0 0]),.w (.box [.S,.I,.S,.Lty])] 1 [.r 0 .I] fun x=>ze n x.1 x.2.1 x.2.2.1 x.2.2.2.1 x.2.2.2.2
def rT(n:Nat):Ent:=E0 34 2 [.r 0 .Ldec,.r 1 (.func 35 [.ptr 0 0]),.w (.box [.S,.I,.S,.Lty])] 1 [.r 0 .B] fun x=>nA n x.1 x.2.1 x.2.2.1 x.2.2.2.1 x.2.2.2.2
def Az(n:Nat):Ent:=E0 74 2 [.r 0 .Ttm,.r 1 (.ptr 0 0),.w (.box [.I,.S,.I,.I,.S,.Lty,.Ltm])] 1 [.r 0 .B] fun x=>xA n x.1 x.2.1 x.2.2.1 x.2.2.2.1 x.2.2.2.2.1 x.2.2.2.2.2.1 x.2.2.2.2.2.2.1 x.2.2.2.2.2.2.2
def uK(n:Nat):Ent:=E0 53 2 [.r 0 .Ltm,.r 1 (.func 74 [.ptr 0 0]),.w (.box [.I,.S,.I,.I,.S,.Lty,.Ltm])] 1 [.r 0 .I] fun x=>wR n x.1 x.2.1 x.2.2.1 x.2.2.2.1 x.2.2.2.2.1 x.2.2.2.2.2.1 x.2.2.2.2.2.2.1 x.2.2.2.2.2.2.2
def qz(n:Nat):Ent:=E0 18 2 [.r 0 .Ltm,.r 1 (.func 74 [.ptr 0 0]),.w (.box [.I,.S,.I,.I,.S,.Lty,.Ltm])] 1 [.r 0 .B] fun x=>sZ n x.1 x.2.1 x.2.2.1 x.2.2.2.1 x.2.2.2.2.1 x.2.2.2.2.2.1 x.2.2.2.2.2.2.1 x.2.2.2.2.2.2.2
def EK(n:Nat):Ent:=E0 37 2 [.r 0 .Ltm,.r 1 .Ttm] 1 [.r 0 .B] fun x=>oL n x.1 x.2
def Jz(n:Nat):Ent:=E0 11 2 [.r 0 (.agg [.Lcar,.Ldec,.Ltm,.I,.S,.I,.I,.S,.Lty,.Ltm]),.r 1 (.agg [.Lcar,.Ldec,.Ltm,.I,.S,.I,.I,.S,.Lty,.Ltm])] 1 [.r 0 .B] fun x=>fH n (S_api_Sequent.mk (Env.mk x.1 x.2.1) x.2.2.1 (Tm.mk x.2.2.2.1 x.2.2.2.2.1 x.2.2.2.2.2.1 (Ty.mk x.2.2.2.2.2.2.1 x.2.2.2.2.2.2.2.1 x.2.2.2.2.2.2.2.2.1) x.2.2.2.2.2.2.2.2.2.1)) (S_api_Sequent.mk (Env.mk x.2.2.2.2.2.2.2.2.2.2.1 x.2.2.2.2.2.2.2.2.2.2.2.1) x.2.2.2.2.2.2.2.2.2.2.2.2.1 (Tm.mk x.2.2.2.2.2.2.2.2.2.2.2.2.2.1 x.2.2.2.2.2.2.2.2.2.2.2.2.2.2.1 x.2.2.2.2.2.2.2.2.2.2.2.2.2.2.2.1 (Ty.mk x.2.2.2.2.2.2.2.2.2.2.2.2.2.2.2.2.1 x.2.2.2.2.2.2.2.2.2.2.2.2.2.2.2.2.2.1 x.2.2.2.2.2.2.2.2.2.2.2.2.2.2.2.2.2.2.1) x.2.2.2.2.2.2.2.2.2.2.2.2.2.2.2.2.2.2.2))
def Eo(n:Nat):Ent:=E0 4 3 [.r 0 (.agg [.Lcar,.Ldec,.Ltm,.I,.S,.I,.I,.S,.Lty,.Ltm]),.r 1 (.agg [.Lcar,.Ldec,.Ltm,.I,.S,.I,.I,.S,.Lty,.Ltm]),.r 2 (.agg [.Lcar,.Ldec,.Ltm,.I,.S,.I,.I,.S,.Lty,.Ltm])] 1 [.r 0 .B] fun x=>zH n (S_api_Sequent.mk (Env.mk x.1 x.2.1) x.2.2.1 (Tm.mk x.2.2.2.1 x.2.2.2.2.1 x.2.2.2.2.2.1 (Ty.mk x.2.2.2.2.2.2.1 x.2.2.2.2.2.2.2.1 x.2.2.2.2.2.2.2.2.1) x.2.2.2.2.2.2.2.2.2.1)) (S_api_Sequent.mk (Env.mk x.2.2.2.2.2.2.2.2.2.2.1 x.2.2.2.2.2.2.2.2.2.2.2.1) x.2.2.2.2.2.2.2.2.2.2.2.2.1 (Tm.mk x.2.2.2.2.2.2.2.2.2.2.2.2.2.1 x.2.2.2.2.2.2.2.2.2.2.2.2.2.2.1 x.2.2.2.2.2.2.2.2.2.2.2.2.2.2.2.1 (Ty.mk x.2.2.2.2.2.2.2.2.2.2.2.2.2.2.2.2.1 x.2.2.2.2.2.2.2.2.2.2.2.2.2.2.2.2.2.1 x.2.2.2.2.2.2.2.2.2.2.2.2.2.2.2.2.2.2.1) x.2.2.2.2.2.2.2.2.2.2.2.2.2.2.2.2.2.2.2.1)) (S_api_Sequent.mk (Env.mk x.2.2.2.2.2.2.2.2.2.2.2.2.2.2.2.2.2.2.2.2.1 x.2.2.2.2.2.2.2.2.2.2.2.2.2.2.2.2.2.2.2.2.2.1) x.2.2.2.2.2.2.2.2.2.2.2.2.2.2.2.2.2.2.2.2.2.2.1 (Tm.mk x.2.2.2.2.2.2.2.2.2.2.2.2.2.2.2.2.2.2.2.2.2.2.2.1 x.2.2.2.2.2.2.2.2.2.2.2.2.2.2.2.2.2.2.2.2.2.2.2.2.1 x.2.2.2.2.2.2.2.2.2.2.2.2.2.2.2.2.2.2.2.2.2.2.2.2.2.1 (Ty.mk x.2.2.2.2.2.2.2.2.2.2.2.2.2.2.2.2.2.2.2.2.2.2.2.2.2.2.1 x.2.2.2.2.2.2.2.2.2.2.2.2.2.2.2.2.2.2.2.2.2.2.2.2.2.2.2.1 x.2.2.2.2.2.2.2.2.2.2.2.2.2.2.2.2.2.2.2.2.2.2.2.2.2.2.2.2.1) x.2.2.2.2.2.2.2.2.2.2.2.2.2.2.2.2.2.2.2.2.2.2.2.2.2.2.2.2.2))
theorem mk(m:Nat)(hs:List (Nat×Hn)){E:List Ent}{fn:Func}{e:Ent}{inn:fU (aY e.rs)→Option e.R}(hE:EOs Tryz.prog TE E)(hf:Tryz.prog.funcs[e.f]? =some fn)(hc:acK Tryz.prog fn e=true:=by kernel_rfl)(hinn:∀z y,inn z=some y→e.out y=z:=by exact sm)(q:∀x,adg τ θ m hs E TE fn e inn x=e.F x:=by intro _;kernel_rfl):aj Tryz.prog TE e:=mkE rG (by kernel_rfl) (by kernel_rfl) hE hf hc hinn q
theorem MKS m hs{E fn f na ps nr rs F}(hE:EOs Tryz.prog TE E)(hf:Tryz.prog.funcs[f]? =some fn)(hc:acK Tryz.prog fn (E0 f na ps nr rs F)=true:=by kernel_rfl)(q:∀x,adg τ θ m hs E TE fn (E0 f na ps nr rs F) some x=F x:=by intro _;kernel_rfl):aj Tryz.prog TE (E0 f na ps nr rs F):=mk m hs (e:=(E0 f na ps nr rs F)) hE hf hc (fun _ _ h=>by cases h;rfl) q
end Abs
end Go.Proofs.YtbijdmihdagfaaaGreatDoor
namespace Go.Proofs
open Go.Shelf
def Tryz.Ug:Go.Shelf.Ren:=⟨fun|7=>172|10=>231|n=>n,fun|23=>122|26=>9|3=>4|28=>155|0=>0|27=>154|33=>76|4=>4|n=>n,fun|n=>n⟩
set_option maxRecDepth 100000 in
theorem Tryz.amR:Go.Proofs.SlLaysZ.n7 Tryz.prog Tryz.Ug:={
 mixed:=by kernel_rfl
 f7:=⟨Tryz.f172.name,by decide,Tryz.func172.trans (congrArg some (by kernel_rfl))⟩
 f10:=⟨Tryz.f231.name,by decide,Tryz.func231.trans (congrArg some (by kernel_rfl))⟩
 t0:=Tryz.underlying0
 a0:=Tryz.isAgg0
 z0:=Tryz.sizeOf0
 v0:=Tryz.zeroValue0
 t4:=Tryz.underlying4
 a4:=Tryz.isAgg4
 z4:=Tryz.sizeOf4
 v4:=Tryz.zeroValue4
 t23:=Tryz.underlying122
 a23:=Tryz.isAgg122
 z23:=Tryz.sizeOf122
 v23:=Tryz.zeroValue122
 t26:=Tryz.underlying9
 a26:=Tryz.isAgg9
 z26:=Tryz.sizeOf9
 v26:=Tryz.zeroValue9
 t27:=Tryz.underlying154
 a27:=Tryz.isAgg154
 z27:=Tryz.sizeOf154
 v27:=Tryz.zeroValue154
 t28:=Tryz.underlying155
 a28:=Tryz.isAgg155
 z28:=Tryz.sizeOf155
 v28:=Tryz.zeroValue155
 t33:=Tryz.underlying76
 a33:=Tryz.isAgg76
 z33:=Tryz.sizeOf76
 v33:=Tryz.zeroValue76}
def Tryz.OB:Go.Shelf.Ren:=⟨fun|6=>171|8=>229|9=>230|11=>304|13=>306|12=>305|23=>368|24=>369|14=>359|15=>360|16=>361|17=>362|18=>363|19=>364|20=>365|21=>366|22=>367|25=>398|26=>399|27=>400|28=>401|29=>402|30=>403|31=>418|n=>n,fun|26=>9|28=>155|24=>59|0=>0|3=>3|37=>247|48=>285|50=>287|4=>4|40=>279|39=>278|45=>157|5=>5|9=>9|51=>306|55=>310|57=>321|58=>218|33=>76|n=>n,fun|n=>n⟩
set_option maxRecDepth 100000 in
theorem Tryz.ajL:Go.Proofs.SlLaysZ.n6 Tryz.prog Tryz.OB:={
 mixed:=by kernel_rfl
 f6:=⟨Tryz.f171.name,by decide,Tryz.func171.trans (congrArg some (by kernel_rfl))⟩
 f8:=⟨Tryz.f229.name,by decide,Tryz.func229.trans (congrArg some (by kernel_rfl))⟩
 f11:=⟨Tryz.f304.name,by decide,Tryz.func304.trans (congrArg some (by kernel_rfl))⟩
 t0:=Tryz.underlying0
 a0:=Tryz.isAgg0
 z0:=Tryz.sizeOf0
 v0:=Tryz.zeroValue0
 t24:=Tryz.underlying59
 a24:=Tryz.isAgg59
 z24:=Tryz.sizeOf59
 v24:=Tryz.zeroValue59
 t26:=Tryz.underlying9
 a26:=Tryz.isAgg9
 z26:=Tryz.sizeOf9
 v26:=Tryz.zeroValue9
 t28:=Tryz.underlying155
 a28:=Tryz.isAgg155
 z28:=Tryz.sizeOf155
 v28:=Tryz.zeroValue155
 i26:=by kernel_rfl}
def Tryz.afC:Go.Shelf.Ren:=⟨fun|6=>230|8=>306|9=>305|19=>368|20=>369|21=>359|22=>360|23=>361|24=>362|25=>363|26=>364|27=>365|28=>366|29=>367|36=>398|31=>399|32=>400|37=>401|38=>402|39=>403|41=>418|n=>n,fun|27=>59|29=>9|3=>3|32=>247|26=>59|0=>0|44=>285|46=>287|4=>4|36=>279|35=>278|41=>157|5=>5|9=>9|53=>306|57=>310|63=>321|64=>218|n=>n,fun|n=>n⟩
set_option maxRecDepth 100000 in
theorem Tryz.afP:Go.Proofs.SlLaysM.n6 Tryz.prog Tryz.afC:={
 mixed:=by kernel_rfl
 f6:=⟨Tryz.f230.name,by decide,Tryz.func230.trans (congrArg some (by kernel_rfl))⟩
 f8:=Tryz.func306.trans (congrArg some (by kernel_rfl))
 f9:=⟨Tryz.f305.name,by decide,Tryz.func305.trans (congrArg some (by kernel_rfl))⟩
 f19:=Tryz.func368.trans (congrArg some (by kernel_rfl))
 f20:=Tryz.func369.trans (congrArg some (by kernel_rfl))
 f21:=⟨Tryz.f359.name,by decide,Tryz.func359.trans (congrArg some (by kernel_rfl))⟩
 f22:=⟨Tryz.f360.name,by decide,Tryz.func360.trans (congrArg some (by kernel_rfl))⟩
 f23:=⟨Tryz.f361.name,by decide,Tryz.func361.trans (congrArg some (by kernel_rfl))⟩
 f24:=⟨Tryz.f362.name,by decide,Tryz.func362.trans (congrArg some (by kernel_rfl))⟩
 f25:=⟨Tryz.f363.name,by decide,Tryz.func363.trans (congrArg some (by kernel_rfl))⟩
 f26:=⟨Tryz.f364.name,by decide,Tryz.func364.trans (congrArg some (by kernel_rfl))⟩
 f27:=⟨Tryz.f365.name,by decide,Tryz.func365.trans (congrArg some (by kernel_rfl))⟩
 f28:=⟨Tryz.f366.name,by decide,Tryz.func366.trans (congrArg some (by kernel_rfl))⟩
 f29:=⟨Tryz.f367.name,by decide,Tryz.func367.trans (congrArg some (by kernel_rfl))⟩
 f31:=Tryz.func399.trans (congrArg some (by kernel_rfl))
 f32:=Tryz.func400.trans (congrArg some (by kernel_rfl))
 f36:=⟨Tryz.f398.name,by decide,Tryz.func398.trans (congrArg some (by kernel_rfl))⟩
 f37:=⟨Tryz.f401.name,by decide,Tryz.func401.trans (congrArg some (by kernel_rfl))⟩
 f38:=⟨Tryz.f402.name,by decide,Tryz.func402.trans (congrArg some (by kernel_rfl))⟩
 f39:=⟨Tryz.f403.name,by decide,Tryz.func403.trans (congrArg some (by kernel_rfl))⟩
 f41:=⟨Tryz.f418.name,by decide,Tryz.func418.trans (congrArg some (by kernel_rfl))⟩
 t0:=Tryz.underlying0
 a0:=Tryz.isAgg0
 z0:=Tryz.sizeOf0
 v0:=Tryz.zeroValue0
 t3:=Tryz.underlying3
 a3:=Tryz.isAgg3
 z3:=Tryz.sizeOf3
 v3:=Tryz.zeroValue3
 t4:=Tryz.underlying4
 a4:=Tryz.isAgg4
 z4:=Tryz.sizeOf4
 v4:=Tryz.zeroValue4
 t5:=Tryz.underlying5
 a5:=Tryz.isAgg5
 z5:=Tryz.sizeOf5
 v5:=Tryz.zeroValue5
 t9:=Tryz.underlying9
 a9:=Tryz.isAgg9
 z9:=Tryz.sizeOf9
 v9:=Tryz.zeroValue9
 t26:=Tryz.underlying59
 a26:=Tryz.isAgg59
 z26:=Tryz.sizeOf59
 v26:=Tryz.zeroValue59
 t27:=Tryz.underlying59
 a27:=Tryz.isAgg59
 z27:=Tryz.sizeOf59
 v27:=Tryz.zeroValue59
 t29:=Tryz.underlying9
 a29:=Tryz.isAgg9
 z29:=Tryz.sizeOf9
 v29:=Tryz.zeroValue9
 t32:=Tryz.underlying247
 a32:=Tryz.isAgg247
 z32:=Tryz.sizeOf247
 v32:=Tryz.zeroValue247
 t35:=Tryz.underlying278
 a35:=Tryz.isAgg278
 z35:=Tryz.sizeOf278
 v35:=Tryz.zeroValue278
 t36:=Tryz.underlying279
 a36:=Tryz.isAgg279
 z36:=Tryz.sizeOf279
 v36:=Tryz.zeroValue279
 t41:=Tryz.underlying157
 a41:=Tryz.isAgg157
 z41:=Tryz.sizeOf157
 v41:=Tryz.zeroValue157
 t44:=Tryz.underlying285
 a44:=Tryz.isAgg285
 z44:=Tryz.sizeOf285
 v44:=Tryz.zeroValue285
 t46:=Tryz.underlying287
 a46:=Tryz.isAgg287
 z46:=Tryz.sizeOf287
 v46:=Tryz.zeroValue287
 t53:=Tryz.underlying306
 a53:=Tryz.isAgg306
 z53:=Tryz.sizeOf306
 v53:=Tryz.zeroValue306
 t57:=Tryz.underlying310
 a57:=Tryz.isAgg310
 z57:=Tryz.sizeOf310
 v57:=Tryz.zeroValue310
 t63:=Tryz.underlying321
 a63:=Tryz.isAgg321
 z63:=Tryz.sizeOf321
 v63:=Tryz.zeroValue321
 t64:=Tryz.underlying218
 a64:=Tryz.isAgg218
 z64:=Tryz.sizeOf218
 v64:=Tryz.zeroValue218}
end Go.Proofs
namespace Go.Proofs.YtbijdmihdagfaaaGreatDoor
namespace Abs
open Go
def amb:Tag→List Nat
 | .tip l _=>[l]
 | .shared=>[]
 | .nils=>[]
 | .full _=>[]
mutual
def refs:AV→List Nat
 | .ptr l _=>[l]
 | .mapr l=>[l]
 | .eptr cs=>vS cs
 | .slice es t=>KG es++amb t
 | .agg cs=>vS cs
 | .tup cs=>vS cs
 | .func _ cs=>vS cs
 | .psl l _ _=>[l]
 | .flist ns=>KG ns
 | .unk=>[]
 | .int _ _=>[]
 | .bool _=>[]
 | .str _=>[]
 | .nilp=>[]
 | .ifc _ _=>[]
 | .nilFunc=>[]
def vS:List AV→List Nat
 |[]=>[]
 |c::cs=>refs c++vS cs
def KG:List (List AV)→List Nat
 |[]=>[]
 |c::cs=>vS c++KG cs
end
def JR:AObj→List Nat
 | .box cs=>vS cs
 | .mp es=>es.flatMap fun p=>refs p.2
 | .arr _ es=>KG es
 | .tip _=>[]
 | .dead=>[]
 | .res=>[]
mutual
theorem VZ{g h:Nat→Nat}:∀x:AV,(∀l∈refs x,g (h l)=l)→ren g (ren h x)=x
 | .ptr l o,hx=>by simp only[ren];rw[hx l (by simp[refs])]
 | .mapr l,hx=>by simp only[ren];rw[hx l (by simp[refs])]
 | .eptr cs,hx=>by simp only[ren];rw[qN cs (by simpa[refs]using hx)]
 | .slice es t,hx=>by
  simp only[refs,qAA]at hx
  simp only[ren];rw[Fe es (fun l hl=>hx l (.inl hl))]
  cases t with
  |tip l z=>simp only[nP];rw[hx l (.inr (by simp[amb]))]
  |shared=>rfl
  |nils=>rfl
  |full n=>rfl
 | .agg cs,hx=>by simp only[ren];rw[qN cs (by simpa[refs]using hx)]
 | .tup cs,hx=>by simp only[ren];rw[qN cs (by simpa[refs]using hx)]
 | .func f cs,hx=>by simp only[ren];rw[qN cs (by simpa[refs]using hx)]
 | .psl l z n,hx=>by simp only[ren];rw[hx l (by simp[refs])]
 | .flist ns,hx=>by simp only[ren];rw[Fe ns (by simpa[refs]using hx)]
 | .unk,_=>rfl
 | .int _ _,_=>rfl
 | .bool _,_=>rfl
 | .str _,_=>rfl
 | .nilp,_=>rfl
 | .ifc _ _,_=>rfl
 | .nilFunc,_=>rfl
theorem qN{g h:Nat→Nat}:∀cs:List AV,(∀l∈vS cs,g (h l)=l)→bS g (bS h cs)=cs
 |[],_=>rfl
 |c::cs,hx=>by
  simp only[vS,qAA]at hx
  simp only[bS];rw[VZ c (fun l hl=>hx l (.inl hl)),qN cs (fun l hl=>hx l (.inr hl))]
theorem Fe{g h:Nat→Nat}:∀es:List (List AV),(∀l∈KG es,g (h l)=l)→bR g (bR h es)=es
 |[],_=>rfl
 |c::cs,hx=>by
  simp only[KG,qAA]at hx
  simp only[bR];rw[qN c (fun l hl=>hx l (.inl hl)),Fe cs (fun l hl=>hx l (.inr hl))]
end
theorem aaN{g h:Nat→Nat}(o:AObj)(hx:∀l∈JR o,g (h l)=l):bO g (bO h o)=o:=by
 cases o with
 |box cs=>simp only[bO];rw[qN cs hx]
 |mp es=>
  simp only[bO,qBt,AObj.mp.injEq]
  simp only[JR,qCC]at hx
  conv=>rhs;rw[←List.map_id es]
  refine qBi fun p hp=>?_
  simp only[Function.comp]
  rw[VZ p.2 (fun l hl=>hx l ⟨p,hp,hl⟩)];rfl
 |arr z es=>simp only[bO];rw[Fe es hx]
 |tip n=>rfl
 |dead=>rfl
 |res=>rfl
def posOf:List Nat→Nat→Nat
 |[],_=>0
 |x::xs,l=>bif Nat.beq x l then 0 else posOf xs l+1
theorem QG:∀{L:List Nat} {l:Nat},l∈L→L[posOf L l]? =some l
 |x::xs,l,h=>by
  unfold posOf
  cases hb:Nat.beq x l with
  |true=>have:=qAc hb;subst this;rfl
  |false=>
   simp only[cond_false,qBo]
   refine QG ?_
   rcases qAh.1 h with rfl|h
   ·rw[qDc l]at hb;cases hb
   ·exact h
def has:List Nat→Nat→Bool
 |[],_=>false
 |x::xs,l=>bif Nat.beq x l then true else has xs l
theorem FV:∀{L:List Nat} {l:Nat},has L l=true→l∈L
 |x::xs,l,h=>by
  unfold has at h
  cases hb:Nat.beq x l with
  |true=>rw[qAc hb];simp
  |false=>rw[hb]at h;exact qAk _ (FV h)
def LX:List Nat→Bool
 |[]=>true
 |x::xs=>bif has xs x then false else LX xs
theorem has_of_mem:∀{L:List Nat} {l:Nat},l∈L→has L l=true
 |x::xs,l,h=>by
  unfold has
  cases hb:Nat.beq x l with
  |true=>rfl
  |false=>
   rcases qAh.1 h with rfl|h
   ·rw[qDc l]at hb;cases hb
   ·exact has_of_mem h
theorem Qx:∀{L:List Nat},LX L=true→L.Nodup
 |[],_=>qDn
 |x::xs,h=>by
  unfold LX at h
  cases hb:has xs x with
  |true=>rw[hb]at h;cases h
  |false=>rw[hb]at h;exact qBP.2 ⟨fun hm=>(by rw[has_of_mem hm]at hb;cases hb),Qx h⟩
def reach(h:List AObj):Nat→List Nat→List Nat→List Nat
 |0,_,seen=>seen
 |_+1,[],seen=>seen
 |n+1,l::todo,seen=>bif has seen l then reach h n todo seen else reach h n (JR (obj? h l)++todo) (seen++[l])
abbrev fD:=Nat→List AV→List AObj→Option (AV×List AObj)
def Si(h:List AObj)(ρ ks:List Nat)(vs:List AV):Bool:=
 LX (ρ++ks)&&(ρ.all (fun l=>Nat.blt l h.length)&&(ks.all (fun l=>bD (obj? h l))&&(ρ.all (fun l=>(JR (obj? h l)).all (has ρ))&&(vS vs).all (has ρ))))
def adF(call:fD)(h:List AObj)(k fid:Nat)(vs:List AV):Option (Nat×List Nat×List Wr×AV):=
 let ρ:=reach h 2000 (vS vs) []
 match call fid (bS (posOf ρ) vs) (ρ.map fun l=>bO (posOf ρ) (obj? h l))with
 |none=>none
 |some (res,H')=>
  let ks:=List.range' k (H'.length - ρ.length)
  bif Si h ρ ks vs&&Nat.beq H'.length (ρ++ks).length then some (k+ks.length,ρ++ks,fI (ρ++ks) (H'.map (bO (nm (ρ++ks) h.length))),ren (nm (ρ++ks) h.length) res)else none
theorem ajk{ρ ks:List Nat}{big l:Nat}(h:l∈ρ):nm (ρ++ks) big (posOf ρ l)=l:=by
 have:=QG h
 have hlt:=(qAp.1 this).1
 simp only[nm,qAe hlt,this,qAq]
theorem aj1{P:Program}{call:fD}(hc:∀f args H r,call f args H=some r→aR P f args H r.1 r.2){s:ASt}{k fid:Nat}{vs:List AV}{k':Nat}{ro:List Nat}{wo:List Wr}{res:AV}{dst:Option Tmp}{K:Nat→List Nat→List Wr→Prop}
  (hok:ah P fid=true) (h:adF call s.heap k fid vs=some (k',ro,wo,res)) (hK:K k' ro (wo++aA dst res)):zx P fid vs dst s k K .mk:=by
 unfold adF at h
 generalize hρ:reach s.heap 2000 (vS vs) []=ρ at h
 dsimp only at h
 split at h
 ·cases h
 ·rename_i r H' hcall
  generalize hks:List.range' k (H'.length - ρ.length)=ks at h
  cases hb:(Si s.heap ρ ks vs&&Nat.beq H'.length (ρ++ks).length)with
  |false=>rw[hb]at h;cases h
  |true=>
   rw[hb]at h
   simp only[cond_true,Option.some.injEq,Prod.mk.injEq]at h
   obtain⟨rfl,rfl,rfl,rfl⟩:=h
   simp only[Si,qAa,qAC]at hb
   obtain⟨⟨h1,h2,h3,h4,h5⟩,h6⟩:=hb
   have hlen:=qAc h6
   refine⟨hok,ρ,ks,bS (posOf ρ) vs,_,r,H',⟨Qx h1,by simp,fun l hl=>?_,h3,fun i l hi=>?_⟩,hlen,?_,hc _ _ _ _ hcall,hK⟩
   ·exact qAf (h2 l hl)
   ·have hlm:=qAB hi
    have e:obj? (ρ.map fun l=>bO (posOf ρ) (obj? s.heap l)) i=bO (posOf ρ) (obj? s.heap l):=by
     simp only[obj?,qAD,hi,qAw,qAq]
    rw[e,aaN _ fun x hx=>ajk (FV (h4 l hlm x hx))]
   ·rw[←jG,qN _ fun x hx=>ajk (FV (h5 x hx))]
    exact SWs.refl _
noncomputable def akL{α β:Type}(l:List α):Nat→α→(List α→β)→β:=
 List.rec (motive:=fun _=>Nat→α→(List α→β)→β) (fun _ _ K=>K []) (fun x xs ih n v K=>Nat.rec (motive:=fun _=>β) (K (v::xs)) (fun m _=>ih m v fun ys=>K (x::ys)) n) l
noncomputable def TJ{α β:Type}(l:List α):(List α→β)→β:=
 List.rec (motive:=fun _=>(List α→β)→β) (fun K=>K []) (fun x _ ih K=>ih fun ys=>K (x::ys)) l
noncomputable def alT(l:List AV):Nat→AV:=List.rec (motive:=fun _=>Nat→AV) (fun _=>.unk) (fun x _ ih n=>Nat.rec (motive:=fun _=>AV) x (fun m _=>ih m) n) l
noncomputable def ad9(l:List AObj):Nat→AObj:=List.rec (motive:=fun _=>Nat→AObj) (fun _=>.dead) (fun x _ ih n=>Nat.rec (motive:=fun _=>AObj) x (fun m _=>ih m) n) l
theorem Zd:∀(l:List AV) (n:Nat),alT l n=l.getD n .unk
 |[],_=>rfl
 |_::_,0=>rfl
 |_::xs,n+1=>(Zd xs n).trans (by simp[List.getD])
theorem Y4:∀(l:List AObj) (n:Nat),ad9 l n=obj? l n
 |[],_=>rfl
 |_::_,0=>rfl
 |_::xs,n+1=>(Y4 xs n).trans (by simp[obj?])
noncomputable def ael(t:List AV):Operand→AV
 | .tmp n=>alT t n
 | .const v=>ofConst v
 | .func f=>.func f []
 | .global _=>.unk
theorem afN(t:List AV):ael t=aS t:=by funext x;cases x<;>first|rfl|exact Zd _ _
noncomputable def acz(ops:Array Oper)(t:List AV):Option (Nat×Bool)→Option Bool
 |none=>some true
 |some (j,want)=>match(ops[j]?).bind (·.dst)with
  |none=>none
  |some d=>match alT t d with
   | .bool b=>some (b==want)
   | .tup []=>some false
   |_=>none
theorem aiV(ops:Array Oper)(t:List AV)(o:Oper):acz ops t o.guard=bN ops t o:=by
 unfold acz bN
 cases o.guard with
 |none=>rfl
 |some p=>simp only[Zd];rfl
def ah1(P:Program)(k:Nat)(o:Oper)(ρ:Operand→AV)(σ:Nat→AObj):Option (List Nat×List Wr):=
 match o.op with
 | .move x=>some ([],aA o.dst (ρ x))
 | .assign x=>some ([],aA o.dst (ρ x))
 | .binOp op t x y _=>(jD P op t (ρ x) (ρ y)).elim ((eqNil P op t (ρ x) y).elim none fun v=>some ([],aA o.dst (.bool v))) fun v=>some ([],aA o.dst v)
 |_=>aH P k o ρ σ
theorem akP(P:Program)(k:Nat)(o:Oper)(ρ:Operand→AV)(σ:Nat→AObj):ah1 P k o ρ σ=aH P k o ρ σ:=by
 unfold ah1
 split
 ·rename_i x h;simp only[aH,h,au]
 ·rename_i x h;simp only[aH,h,au]
 ·rename_i op t x y t2 h
  simp only[aH,h,au]
  cases jD P op t (ρ x) (ρ y)with
  |none=>cases eqNil P op t (ρ x) y<;>rfl
  |some v=>rfl
 ·rfl
def aoh{β:Type}(K:Nat→β):Nat→β
 |0=>K 0
 |n+1=>K (n+1)
def atd{β:Type}(K:Int→β):Int→β
 | .ofNat n=>K (.ofNat n)
 | .negSucc n=>K (.negSucc n)
def aq4{β:Type}(K:Bool→β):Bool→β
 |true=>K true
 |false=>K false
noncomputable def fVS{β:Type}(K:AV→β):AV→β
 | .agg cs=>TJ cs fun cs=>K (.agg cs)
 | .eptr cs=>TJ cs fun cs=>K (.eptr cs)
 | .tup cs=>TJ cs fun cs=>K (.tup cs)
 | .func f cs=>TJ cs fun cs=>K (.func f cs)
 | .int k n=>atd (fun n=>K (.int k n)) n
 | .bool b=>aq4 (fun b=>K (.bool b)) b
 | .str s=>TJ s fun s=>K (.str s)
 | .slice es t=>TJ es fun es=>K (.slice es t)
 | .unk=>K .unk
 | .nilp=>K .nilp
 | .ifc t v=>K (.ifc t v)
 | .ptr l o=>K (.ptr l o)
 | .mapr l=>K (.mapr l)
 | .nilFunc=>K .nilFunc
 | .psl l z n=>K (.psl l z n)
 | .flist ns=>K (.flist ns)
noncomputable def fOS{β:Type}(K:AObj→β):AObj→β
 | .box cs=>TJ cs fun cs=>K (.box cs)
 | .tip n=>K (.tip n)
 | .mp es=>TJ es fun es=>K (.mp es)
 | .dead=>K .dead
 | .res=>K .res
 | .arr z es=>TJ es fun es=>K (.arr z es)
noncomputable def wrS{β:Type}:List Wr→List AV→List AObj→(List AV→List AObj→β)→β
 |[],t,h,K=>K t h
 | .slot n v::ws,t,h,K=>fVS (fun v=>akL t n v fun t=>wrS ws t h K) v
 | .obj n o::ws,t,h,K=>fOS (fun o=>akL h n o fun h=>wrS ws t h K) o
theorem YI{α β:Type}:∀(l:List α) (n:Nat) (v:α) (K:List α→β),akL l n v K=K (l.set n v)
 |[],_,_,_=>rfl
 |_::_,0,_,_=>rfl
 |x::xs,n+1,v,K=>(YI xs n v fun ys=>K (x::ys)).trans rfl
theorem acp{α β:Type}:∀(l:List α) (K:List α→β),TJ l K=K l
 |[],_=>rfl
 |x::xs,K=>acp xs fun ys=>K (x::ys)
theorem amY{β:Type}(K:Nat→β)(n:Nat):aoh K n=K n:=by cases n<;>rfl
theorem aon{β:Type}(K:AV→β)(v:AV):fVS K v=K v:=by
 cases v<;>simp only[fVS,acp]
 ·rename_i k n;cases n<;>rfl
 ·rename_i b;cases b<;>rfl
theorem apT{β:Type}(K:AObj→β)(o:AObj):fOS K o=K o:=by cases o<;>simp only[fOS,acp]
theorem QD{β:Type}:∀(ws:List Wr) (t:List AV) (h:List AObj) (K:List AV→List AObj→β),wrS ws t h K=K (ASt.wr ⟨t,h⟩ ws).tmps (ASt.wr ⟨t,h⟩ ws).heap
 |[],_,_,_=>rfl
 | .slot n v::ws,t,h,K=>by simp only[wrS,aon,YI];rw[QD ws];rfl
 | .obj n v::ws,t,h,K=>by simp only[wrS,apT,YI];rw[QD ws];rfl
def need(big:List Nat):List Oper→Nat
 |[]=>0
 |o::l=>(match gu o.op with
  |some (.func f,_)=>(bif has big f then 40 else 3)
  |some _=>3
  |none=>eu o.op)+need big l
noncomputable def akY(P:Program)(call:fD)(ok:Nat→Bool)(ops:Array Oper)(o:Oper)(go:Nat→List Eff→List AV→List AObj→Option (List Eff×ASt))(k:Nat)(es:List Eff)(t:List AV)(h:List AObj):Option (List Eff×ASt):=
 match acz ops t o.guard with
  |none=>none
  |some false=>wrS (aA o.dst (.tup [])) t h (go k (⟨aJ ops o,[],aA o.dst (.tup [])⟩::es))
  |some true=>match gu o.op with
   |some (f,args)=>match ael t f with
    | .func fid caps=>bif ok fid then(match adF call h k fid (args.toList.map (ael t)++caps)with
     |some (k',ro,wo,res)=>wrS (wo++aA o.dst res) t h (go k' (⟨aJ ops o,ro,wo++aA o.dst res⟩::es))
     |none=>none)else none
    |_=>none
   |none=>match ah1 P k o (ael t) (ad9 h)with
    |some (rd,ws)=>wrS ws t h (go (k+eu o.op) (⟨aJ ops o,rd,ws⟩::es))
    |none=>none
noncomputable def aic(P:Program)(call:fD)(ok:Nat→Bool)(ops:Array Oper)(l:List Oper):Nat→List Eff→List AV→List AObj→Option (List Eff×ASt):=
 List.rec (motive:=fun _=>Nat→List Eff→List AV→List AObj→Option (List Eff×ASt)) (fun _ es t h=>some (es.reverse,⟨t,h⟩)) (fun o _ ih=>akY P call ok ops o ih) l
theorem aiX(P:Program)(call:fD)(ok:Nat→Bool)(ops:Array Oper)(o:Oper)(l:List Oper)(k:Nat)(es:List Eff)(t:List AV)(h:List AObj):aic P call ok ops (o::l) k es t h=akY P call ok ops o (aic P call ok ops l) k es t h:=rfl
theorem agO{P:Program}{call:fD}{ok:Nat→Bool}{ops:Array Oper}(hc:∀f args H r,call f args H=some r→aR P f args H r.1 r.2)(hok:∀f,ok f=true→ah P f=true){K:List Eff→ASt→Prop}:
  ∀(l:List Oper) (k:Nat) (es:List Eff) (s:ASt) (es':List Eff) (s':ASt),aic P call ok ops l k es s.tmps s.heap=some (es',s')→K es' s'→uH P ops l k es s K:=by
 intro l
 induction l with
 |nil=>
  intro k es s es' s' h hK
  have h:some (es.reverse,s)=some (es',s'):=h
  simp only[Option.some.injEq,Prod.mk.injEq]at h
  obtain⟨rfl,rfl⟩:=h
  exact hK
 |cons o l ih=>
  intro k es s es' s' h hK
  rw[aiX]at h
  unfold akY at h
  rw[aiV,afN,show ad9 s.heap=obj? s.heap from funext (Y4 _),akP]at h
  split at h
  ·cases h
  ·rename_i hw
   rw[QD]at h
   exact⟨false,hw,fun e=>(by cases e),fun _=>ih _ _ _ _ _ h hK⟩
  ·rename_i hw
   refine⟨true,hw,fun _=>?_,fun e=>(by cases e)⟩
   split at h
   ·rename_i f args hcall
    split at h
    ·rename_i fid caps hf
     cases hb:ok fid with
     |false=>rw[hb]at h;cases h
     |true=>
      rw[hb]at h
      simp only[cond_true]at h
      split at h
      ·rename_i k' ro wo res hen
       rw[hcall]
       rw[QD]at h
       exact⟨fid,caps,hf,aj1 hc (hok _ hb) hen (ih _ _ _ _ _ h hK)⟩
      ·cases h
    ·cases h
   ·rename_i hcall
    rw[hcall]
    split at h
    ·rename_i rd ws hh
     rw[QD]at h
     exact⟨rd,ws,hh,ih _ _ _ _ _ h hK⟩
    ·cases h
def abV(o:AObj):List AObj→List AObj
 |[]=>bif bD o then[]else[o]
 |x::xs=>o::x::xs
noncomputable def trim(l:List AObj):List AObj:=List.rec (motive:=fun _=>List AObj) [] (fun o _ ih=>abV o ih) l
theorem aaH:∀H:List AObj,∃n,H=trim H++List.replicate n .res
 |[]=>⟨0,rfl⟩
 |o::os=>by
  obtain⟨n,hn⟩:=aaH os
  show ∃n,o::os=abV o (trim os)++List.replicate n .res
  unfold abV
  split
  ·rename_i e
   rw[e]at hn
   cases ho:bD o with
   |true=>
    have:o=.res:=by cases o<;>simp[bD]at ho⊢
    subst this
    exact⟨n+1,by rw[hn];rfl⟩
   |false=>exact⟨n,by rw[hn];rfl⟩
  ·rename_i x xs e
   rw[e]at hn
   exact⟨n,by rw[hn];rfl⟩
theorem Sim.trim{C:Ctx}{κ:aK}{s:ASt}{a:Act}{w:World}(h:Sim C κ s a w):∃κ',Sim C κ' {s with heap:=Abs.trim s.heap} a w:=by
 obtain⟨n,hn⟩:=aaH s.heap
 generalize Abs.trim s.heap=H at hn
 have hat:∀l,at? (κ.take H.length) l=at? κ l:=fun l=>by
  by_cases hl:l<H.length
  ·unfold at?;rw[qBm,if_pos hl]
  ·have e1:at? (κ.take H.length) l=none:=at?_none_of_le (by simp;omega)
   rw[e1]
   by_cases h2:l<s.heap.length
   ·refine(h.resv l ?_).symm
    simp only[obj?,hn]
    rw[qAi (by omega),qBp]
    rw[hn,qAg,qAV]at h2
    rw[if_pos (by omega)];rfl
   ·exact(at?_none_of_le (by rw[h.klen];omega)).symm
 have hob:∀l b,at? κ l=some b→obj? H l=obj? s.heap l:=fun l b hb=>by
  by_cases hl:l<H.length
  ·simp only[obj?,hn,qAe hl]
  ·rw[←hat,at?_none_of_le (by simp;omega)]at hb;cases hb
 refine⟨κ.take H.length,?_⟩
 refine h.step (κ':=κ.take H.length) (H':=H) (Evo.refl _ _) (fun l b hb=>by rw[hat];exact hb) (by rw[qAx,h.klen,hn];simp) ?_ ?_ ?_ ?_ ?_ (fun _ _=>rfl) rfl rfl rfl
 ·rintro b o (hb|⟨l,h1,h2⟩) _
  ·exact .inl hb
  ·rw[hat]at h1;rw[hob l b h1]at h2;exact .inr ⟨l,h1,h2⟩
 ·intro l b h1 h2
  rw[hat]at h1
  exact .inl ⟨h1,hob l b h1,rfl⟩
 ·intro l l' b h1 h2 h3 h4
  rw[hat]at h1 h2;rw[hob l b h1]at h3;rw[hob l' b h2]at h4
  exact h.apart l l' b h1 h2 h3 h4
 ·intro l b h1;rw[hat]at h1;exact h.bound l b h1
 ·intro l h1
  rw[hat]
  by_cases hl:l<H.length
  ·refine h.resv l ?_
   rw[←h1];simp only[obj?,hn,qAe hl]
  ·rw[←hat];exact at?_none_of_le (by simp;omega)
def Wy(hint:List (Nat×Nat×Nat))(h:List AObj)(l:Nat):List AObj:=
 match obj? h l with
 | .box cs=>match hint.find? (fun p=>Nat.beq p.1 cs.length)with
  |some (_,i,z)=>(match cs[i]? with
   |some (.slice [] .nils)=>h.set l (.box (cs.set i (.psl h.length z 0)))++[.arr z []]
   |_=>h)
  |none=>h
 |_=>h
theorem Sim.Wy{C:Ctx}{κ:aK}{s:ASt}{a:Act}{w:World}(h:Sim C κ s a w)(hint:List (Nat×Nat×Nat))(l:Nat):∃κ',Sim C κ' {s with heap:=Abs.Wy hint s.heap l} a w:=by
 unfold Abs.Wy
 split
 ·rename_i cs ho
  split
  ·rename_i i z _
   split
   ·rename_i hi
    have hll:l<s.heap.length:=by
     apply qAl;intro hn
     simp only[obj?,qAn (qAP hn)]at ho;cases ho
    let H':=s.heap.set l (.box (cs.set i (.psl s.heap.length z 0)))++[AObj.arr z []]
    have hat:∀x,at? (κ++[none]) x=at? κ x:=fun x=>by
     unfold at?
     by_cases hx:x<κ.length
     ·rw[qAe hx]
     ·rw[qAi (qAP hx),qAn (qAP hx)]
      cases hxx:x - κ.length<;>rfl
    have hlt:∀x b,at? κ x=some b→x<s.heap.length:=fun x b hb=>by rw[←h.klen];exact lt_of_at? hb
    have hob:∀x,x<s.heap.length→x≠l→obj? H' x=obj? s.heap x:=fun x hx hne=>by
     simp only[obj?,H',qAe (show x<(s.heap.set l _).length by simpa using hx),qBM (qBl hne)]
    have hol:obj? H' l=.box (cs.set i (.psl s.heap.length z 0)):=by
     simp only[obj?,H',qAe (show l<(s.heap.set l _).length by simpa using hll),qCh hll,qAq]
    have hlv:∀x b,at? κ x=some b→live (obj? H' x)→live (obj? s.heap x):=fun x b hb hl=>by
     by_cases e:x=l
     ·subst e;rw[ho];trivial
     ·rw[hob x (hlt x b hb) e]at hl;exact hl
    have hp:∀b o,aG C.aB (κ++[none]) H' b o→b<w.heap.size→aG C.aB κ s.heap b o:=by
     rintro b o (hb|⟨x,h1,h2⟩) _
     ·exact .inl hb
     ·rw[hat]at h1
      refine .inr ⟨x,h1,?_⟩
      by_cases e:x=l
      ·subst e;rw[ho];trivial
      ·rw[hob x (hlt x b h1) e]at h2;exact h2
    refine⟨κ++[none],?_⟩
    refine h.step (κ':=κ++[none]) (H':=H') (Evo.refl _ _) (fun x b hb=>by rw[hat];exact hb) (by simp[H',h.klen]) hp ?_ ?_ ?_ ?_ (fun _ _=>rfl) rfl rfl rfl
    ·intro x b h1 h2
     rw[hat]at h1
     by_cases e:x=l
     ·subst e
      refine .inr ⟨h.bound x b h1,h.own x b h1 (by rw[ho];trivial),?_⟩
      rw[hol]
      have hr:=h.obj x b h1 (by rw[ho];trivial)
      rw[ho]at hr
      obtain⟨c,el,g1,g2,g3⟩:=hr
      refine⟨c,el,g1,by simp[g2],fun j hj=>?_⟩
      simp only[qAK]at hj
      have hg:=(g3 j hj).mono (κ':=κ++[none]) (Evo.refl _ _) (fun y b hb=>by rw[hat];exact hb) hp
      by_cases ej:i=j
      ·subst ej
       rw[iJ hj]
       rw[List.getD,hi,qAq]at hg
       generalize c.getD i undef=u at hg
       cases hg with
       |slice b' off sz y q1 q2 q3 q3' q4 q5 q6 gt=>exact .psl (qBe _) (by omega) ⟨rfl,.inl gt⟩
      ·rw[kI ej];exact hg
     ·exact .inl ⟨h1,hob x (hlt x b h1) e,rfl⟩
    ·intro x y b h1 h2 h3 h4
     rw[hat]at h1 h2
     exact h.apart x y b h1 h2 (hlv x b h1 h3) (hlv y b h2 h4)
    ·intro x b h1;rw[hat]at h1;exact h.bound x b h1
    ·intro x h1
     rw[hat]
     by_cases hx:x<s.heap.length
     ·by_cases e:x=l
      ·subst e;rw[hol]at h1;cases h1
      ·rw[hob x hx e]at h1;exact h.resv x h1
     ·exact at?_none_of_le (by rw[h.klen];omega)
   ·exact⟨κ,h⟩
  ·exact⟨κ,h⟩
 ·exact⟨κ,h⟩
def Nf(hint:List (Nat×Nat×Nat)):List Nat→List AObj→List AObj
 |[],h=>h
 |l::ls,h=>Nf hint ls (Wy hint h l)
theorem Sim.Nf{C:Ctx}{a:Act}{w:World}(hint:List (Nat×Nat×Nat)):∀(ls:List Nat) {κ:aK} {s:ASt},Sim C κ s a w→∃κ',Sim C κ' {s with heap:=Abs.Nf hint ls s.heap} a w
 |[],κ,s,h=>⟨κ,h⟩
 |l::ls,κ,s,h=>by
  obtain⟨κ1,h1⟩:=h.Wy hint l
  exact Sim.Nf hint ls h1
noncomputable def tidy(hint:List (Nat×Nat×Nat))(n:Nat)(s:ASt):ASt:=
 let h:=trim s.heap
 ⟨s.tmps,Nf hint (List.range' n (h.length - n)) h⟩
theorem bF.tidy{P:Program}{c:Code}{Q:Exit→ASt→Prop}{s:ASt}(hint:List (Nat×Nat×Nat))(n:Nat)(h:bF P c (fun e s'=>Q e (Abs.tidy hint n s')) s):bF P c Q s:=fun C κ a w hs=>
 wp_mono (h C κ a w hs) fun _ _ _ ⟨s',κ',h1,h2⟩=>by
  obtain⟨κ1,g1⟩:=h2.trim
  obtain⟨κ2,g2⟩:=g1.Nf hint (List.range' n ((Abs.trim s'.heap).length - n))
  exact⟨_,κ2,h1,g2⟩
noncomputable def Wo(P:Program)(call:fD)(ok:Nat→Bool)(hint:List (Nat×Nat×Nat))(big:List Nat)(go:Code→ASt→Option (Exit×ASt))(c:Code)(s:ASt):Option (Exit×ASt):=
 match c with
  | .skip=>some (.normal,s)
  | .ret=>some (.ret,s)
  | .exit id=>some (.exit id,s)
  | .seq x y=>match go x s with
   |some (.normal,s')=>go y s'
   |r=>r
  | .cond c x y=>match ael s.tmps c with
   | .bool true=>go x s
   | .bool false=>go y s
   |_=>none
  | .block id c=>match go c s with
   |some (.exit id',s')=>bif Nat.beq id' id then some (.normal,s')else some (.exit id',s')
   |r=>r
  | .loop c=>match go c s with
   |some (.normal,s')=>go (.loop c) s'
   |r=>r
  | .region _ ops draw=>aoh (fun m=>match aic P call ok ops ops.toList s.heap.length [] s.tmps (s.heap++List.replicate m .res)with
   |some (es,s')=>bif !draw ||fC ops.toList es then some (.normal,bif Nat.beq m 0 then s' else tidy hint s.heap.length s')else none
   |none=>none) (need big ops.toList)
  |_=>none
noncomputable def ME(P:Program)(call:fD)(ok:Nat→Bool)(hint:List (Nat×Nat×Nat))(big:List Nat)(n:Nat):Code→ASt→Option (Exit×ASt):=
 Nat.rec (motive:=fun _=>Code→ASt→Option (Exit×ASt)) (fun _ _=>none) (fun _ ih=>Wo P call ok hint big ih) n
theorem WE(P:Program)(call:fD)(ok:Nat→Bool)(hint:List (Nat×Nat×Nat))(big:List Nat)(c:Code)(s:ASt):ME P call ok hint big 0 c s=none:=rfl
theorem XL(P:Program)(call:fD)(ok:Nat→Bool)(hint:List (Nat×Nat×Nat))(big:List Nat)(n:Nat)(c:Code)(s:ASt):ME P call ok hint big (n+1) c s=Wo P call ok hint big (ME P call ok hint big n) c s:=rfl
theorem Vw{P:Program}{call:fD}{ok:Nat→Bool}{hint:List (Nat×Nat×Nat)}{big:List Nat}(hm:P.follows .mixedOrders=true)(hc:∀f args H r,call f args H=some r→aR P f args H r.1 r.2)(hok:∀f,ok f=true→ah P f=true):
  ∀(n:Nat) (c:Code) (s:ASt) (e:Exit) (s':ASt) (Q:Exit→ASt→Prop),ME P call ok hint big n c s=some (e,s')→Q e s'→bF P c Q s:=by
 intro n
 induction n using Nat.strongRecOn with
 |_ n ih=>
  intro c s e s' Q h hQ
  cases n with
  |zero=>rw[WE]at h;cases h
  |succ n=>
   have ih1:=ih n (qCD n)
   rw[XL]at h
   have h0:=h
   unfold Wo at h
   rw[afN]at h
   split at h
   ·cases h;exact .skip hQ
   ·cases h;exact .ret hQ
   ·cases h;exact .exit hQ
   ·rename_i x y
    split at h
    ·rename_i s1 hx
     exact .seq (ih1 _ _ _ _ _ hx (ih1 _ _ _ _ _ h hQ))
    ·rename_i hne
     refine .seq (ih1 _ _ _ _ _ h ?_)
     cases e with
     |normal=>exact(hne _ h).elim
     |exit id=>exact hQ
     |goto l=>exact hQ
     |ret=>exact hQ
     |panic c=>exact hQ
     |outgrown=>exact hQ
   ·rename_i cd x y
    split at h
    ·rename_i hb
     exact .cond hb (fun _=>ih1 _ _ _ _ _ h hQ) (fun e=>by cases e)
    ·rename_i hb
     exact .cond hb (fun e=>by cases e) (fun _=>ih1 _ _ _ _ _ h hQ)
    ·cases h
   ·rename_i id c
    split at h
    ·rename_i id' s1 hx
     refine .block (ih1 _ _ _ _ _ hx ?_)
     simp only[uT]
     cases hb:Nat.beq id' id with
     |true=>
      rw[hb]at h;cases h
      rw[if_pos (qAc hb)];exact hQ
     |false=>
      rw[hb]at h;cases h
      rw[if_neg (fun e=>by rw[e,qDc id]at hb;cases hb)];exact hQ
    ·rename_i hne
     refine .block (ih1 _ _ _ _ _ h ?_)
     cases e with
     |exit id=>exact(hne _ _ h).elim
     |normal=>exact hQ
     |goto l=>exact hQ
     |ret=>exact hQ
     |panic c=>exact hQ
     |outgrown=>exact hQ
   ·rename_i c
    refine bF.loop (fun m s=>m≤n+1∧ME P call ok hint big m (.loop c) s=some (e,s')) (n:=n+1) ⟨qAr _,h0⟩ ?_
    rintro m s ⟨hle,hr⟩
    cases m with
    |zero=>rw[WE]at hr;cases hr
    |succ m=>
     have ih2:=ih m (by omega)
     rw[XL]at hr
     unfold Wo at hr
     dsimp only at hr
     split at hr
     ·rename_i s1 hx
      exact ih2 _ _ _ _ _ hx ⟨m,qCD m,by omega,hr⟩
     ·rename_i hne
      refine ih2 _ _ _ _ _ hr ?_
      cases e with
      |normal=>exact(hne _ hr).elim
      |exit id=>exact hQ
      |goto l=>exact hQ
      |ret=>exact hQ
      |panic c=>exact hQ
      |outgrown=>exact hQ
   ·rename_i id ops draw
    rw[amY]at h
    generalize need big ops.toList=m at h
    split at h
    ·rename_i es s1 hx
     cases hb:(!draw ||fC ops.toList es)with
     |false=>rw[hb]at h;cases h
     |true=>
      rw[hb]at h
      simp only[cond_true,Option.some.injEq,Prod.mk.injEq]at h
      obtain⟨rfl,hs1⟩:=h
      have key:∀Q':Exit→ASt→Prop,Q' .normal s1→bF P (.region id ops draw) Q' s:=fun Q' hQ'=>by
       have eops:ops=ops.toList.toArray:=by simp
       rw[eops]at hx⊢
       simp only[List.toList_toArray]at hx
       cases draw with
       |true=>exact bF.apI m hm (agO hc hok _ _ _ (s.reserve m) _ _ hx ⟨by simpa using hb,hQ'⟩)
       |false=>
        have:=agO (K:=fun _ s'=>Q' .normal s') hc hok _ _ _ (s.reserve m) _ _ hx hQ'
        obtain⟨es',s2,g1,g2⟩:=Uw _ _ _ _ _ this
        exact bF.region m g1.steps g2
      cases hm0:Nat.beq m 0 with
      |true=>rw[hm0]at hs1;simp only[cond_true]at hs1;subst hs1;exact key Q hQ
      |false=>
       rw[hm0]at hs1;simp only[cond_false]at hs1;subst hs1
       exact bF.tidy hint s.heap.length (key _ hQ)
    ·cases h
   ·cases h
def Dm(P:Program)(rs:List ResultVar)(m:Nat)(s:ASt):Option (AV×List AObj):=
 match pX P s rs with
 |none=>none
 |some xs=>
  let v:=zF false xs
  let L:=reach s.heap 2000 (refs v++(List.range m).flatMap fun l=>JR (obj? s.heap l)) (List.range m)
  bif LX L&&((List.range m).all (fun i=>match L[i]? with|some l=>Nat.beq l i|none=>false)&&(L.all (fun l=>Nat.blt l s.heap.length)&&((refs v).all (has L)&&L.all (fun l=>(JR (obj? s.heap l)).all (has L)))))
  then some (ren (posOf L) v,L.map fun l=>bO (posOf L) (obj? s.heap l))else none
theorem Jw{P:Program}{rs:List ResultVar}{H:List AObj}{s:ASt}{res:AV}{H':List AObj}(h:Dm P rs H.length s=some (res,H')):∃L,zA P rs false L H res H' s:=by
 unfold Dm at h
 split at h
 ·cases h
 ·rename_i xs hxs
  dsimp only at h
  generalize reach s.heap 2000 (refs (zF false xs)++(List.range H.length).flatMap fun l=>JR (obj? s.heap l)) (List.range H.length)=L at h
  cases hb:(LX L&&((List.range H.length).all (fun i=>match L[i]? with|some l=>Nat.beq l i|none=>false)&&(L.all (fun l=>Nat.blt l s.heap.length)&&((refs (zF false xs)).all (has L)&&L.all (fun l=>(JR (obj? s.heap l)).all (has L))))))with
  |false=>rw[hb]at h;cases h
  |true=>
   rw[hb]at h
   simp only[cond_true,Option.some.injEq,Prod.mk.injEq]at h
   obtain⟨rfl,rfl⟩:=h
   simp only[qAa,qAC,qBZ]at hb
   obtain⟨h1,h2,h3,h4,h5⟩:=hb
   have hL:∀i,i<H.length→L[i]? =some i:=fun i hi=>by
    have:=h2 i hi
    split at this
    ·rename_i l hl;rw[hl,qAc this]
    ·cases this
   have hnm:∀l,l∈L→nm L s.heap.length (posOf L l)=l:=fun l hl=>by simp only[nm,QG hl,qAq]
   refine⟨L,xs,hxs,?_,Qx h1,by simp,?_,hL,fun l hl=>?_,fun i l hi=>?_⟩
   ·rw[VZ _ fun x hx=>hnm x (FV (h4 x hx))]
   ·cases hn:H.length with
    |zero=>exact qBe _
    |succ n=>have:=(qAp.1 (hL n (by omega))).1;omega
   ·exact qAf (h3 l hl)
   ·have e:obj? (L.map fun l=>bO (posOf L) (obj? s.heap l)) i=bO (posOf L) (obj? s.heap l):=by
     simp only[obj?,qAD,hi,qAw,qAq]
    rw[e,aaN _ fun x hx=>hnm x (FV (h5 l (qAB hi) x hx))]
end Abs
end Go.Proofs.YtbijdmihdagfaaaGreatDoor
