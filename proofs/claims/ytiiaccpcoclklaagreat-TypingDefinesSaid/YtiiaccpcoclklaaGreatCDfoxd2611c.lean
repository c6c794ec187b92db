/-
  The plain functions of the program (printed by gen.py). Conditions: none.
-/
import Derived.KernelRfl
import Derived.Test.YtiiaccpcoclklaaGreatCDfx63d821
import Derived.Test.YtiiaccpcoclklaaGreatCTDx025997
import Derived.Test.YtiiaccpcoclklaaGreatCAbs34oxb97233
set_option linter.unusedSimpArgs false
set_option linter.unusedVariables false
namespace Go.Proofs.YtiiaccpcoclklaaGreat
namespace Abs
open Go Go.Proofs
set_option maxRecDepth 100000
set_option maxHeartbeats 40000000
def uS (n : Nat) (rec_R2_holdsBool : Ty → Option Bool) (p0 : Ty) : Nat → Int → Option (LR Unit Bool)
 | 0, _ => none
 | k + 1, s1 => (cond (decide (s1 < (p0.kids.length : Int))) ((idx p0.kids s1).bind fun x1 => ((rec_R2_holdsBool x1).bind fun x2 => (cond x2 (some (.rt true)) (uS n rec_R2_holdsBool p0 k (s1 + 1))))) (some (.nx ())))
def sD (n : Nat) (rec_R2_holdsBool : Ty → Option Bool) (p0 : Ty) : Option Bool := (cond (p0.kind == 2) (some true) ((uS n rec_R2_holdsBool p0 n 0).bind (LR.el (fun s2 => some false) (fun r => some r))))
def j5 : Nat → Ty → Option Bool
 | 0, _ => none
 | n + 1, p0 => sD n (fun p0 => j5 n p0) p0
def wY (n : Nat) (rec_R2_carriers : Ty → Option (List Str)) (p0 : Ty) : Nat → ((List Str) × Int) → Option (LR (List Str) (List Str))
 | 0, _ => none
 | k + 1, s1 => (cond (decide (s1.2 < (p0.kids.length : Int))) ((idx p0.kids s1.2).bind fun x1 => ((rec_R2_carriers x1).bind fun x2 => ((app 16 s1.1 x2).bind fun x3 => wY n rec_R2_carriers p0 k (x3, (s1.2 + 1))))) (some (.nx s1.1)))
def tO (n : Nat) (rec_R2_carriers : Ty → Option (List Str)) (p0 : Ty) : Option (List Str) := (cond (p0.kind == 3) (some ([p0.name])) ((wY n rec_R2_carriers p0 n (([] : List Str), 0)).bind (LR.el (fun s2 => some s2) (fun r => some r))))
def og : Nat → Ty → Option (List Str)
 | 0, _ => none
 | n + 1, p0 => tO n (fun p0 => og n p0) p0
def rZ (n : Nat) (p0 : Env) (p1 : Str) : Nat → Int → Option (LR Unit Int)
 | 0, _ => none
 | k + 1, s1 => (cond (decide (s1 < (p0.carriers.length : Int))) ((idx p0.carriers s1).bind fun x1 => (cond (x1.name == p1) (some (.rt s1)) (rZ n p0 p1 k (s1 + 1)))) (some (.nx ())))
def kH (n : Nat) (p0 : Env) (p1 : Str) : Option Int := ((rZ n p0 p1 n 0).bind (LR.el (fun s2 => some (-1)) (fun r => some r)))
def Bl (n : Nat) (p0 : Env) (x1 : List Str) : Nat → Int → Option (LR Unit Bool)
 | 0, _ => none
 | k + 1, s1 => (cond (decide (s1 < (x1.length : Int))) ((idx x1 s1).bind fun x2 => ((kH n p0 x2).bind fun x3 => (cond (decide (x3 < 0)) (some (.rt false)) (Bl n p0 x1 k (s1 + 1))))) (some (.nx ())))
def xH (n : Nat) (p0 : Env) (p1 : Ty) : Option Bool := ((og n p1).bind fun x1 => ((Bl n p0 x1 n 0).bind (LR.el (fun s2 => some true) (fun r => some r))))
def wP (n : Nat) (p0 : Env) : Nat → ((List Str) × Int) → Option (LR (List Str) (List Str))
 | 0, _ => none
 | k + 1, s1 => (cond (decide (s1.2 < (p0.carriers.length : Int))) ((idx p0.carriers s1.2).bind fun x5 => ((app 16 s1.1 ([x5.name])).bind fun x6 => wP n p0 k (x6, (s1.2 + 1)))) (some (.nx s1.1)))
def wK (n : Nat) (p0 : Env) : Nat → ((List Str) × Int) → Option (LR (List Str) (List Str))
 | 0, _ => none
 | k + 1, s3 => (cond (decide (s3.2 < (p0.carriers.length : Int))) ((idx p0.carriers s3.2).bind fun x3 => ((app 16 s3.1 x3.elems).bind fun x4 => wK n p0 k (x4, (s3.2 + 1)))) (some (.nx s3.1)))
def wm (n : Nat) (p0 : Env) : Nat → ((List Str) × Int) → Option (LR (List Str) (List Str))
 | 0, _ => none
 | k + 1, s5 => (cond (decide (s5.2 < (p0.names.length : Int))) ((idx p0.names s5.2).bind fun x1 => ((app 16 s5.1 ([x1.name])).bind fun x2 => wm n p0 k (x2, (s5.2 + 1)))) (some (.nx s5.1)))
def qw (n : Nat) (p0 : Env) : Option (List Str) := ((wP n p0 n (([] : List Str), 0)).bind (LR.el (fun s2 => ((wK n p0 n (s2, 0)).bind (LR.el (fun s4 => ((wm n p0 n (s4, 0)).bind (LR.el (fun s6 => some s6) (fun r => some r)))) (fun r => some r)))) (fun r => some r)))
def pX (n : Nat) (x10 : Carrier) : Nat → Int → Option (LR Unit Bool)
 | 0, _ => none
 | k + 1, s10 => (cond (decide (s10 < (x10.elems.length : Int))) ((idx x10.elems s10).bind fun x11 => ((gV n x11).bind fun x12 => (cond (!x12) (some (.rt false)) (pX n x10 k (s10 + 1))))) (some (.nx ())))
def wh (n : Nat) (p0 : Env) : Nat → Int → Option (LR Unit Bool)
 | 0, _ => none
 | k + 1, s2 => (cond (decide (s2 < (p0.carriers.length : Int))) ((idx p0.carriers s2).bind fun x10 => ((((gV n x10.name).bind fun x13 => (cond (!x13) (some true) (some (decide (8 < (x10.elems.length : Int)))))) : Option Bool).bind fun s9 => (cond s9 (some (.rt false)) ((pX n x10 n 0).bind (LR.el (fun s11 => wh n p0 k (s2 + 1)) (fun r => some (.rt r))))))) (some (.nx ())))
def wz (n : Nat) (p0 : Env) : Nat → Int → Option (LR Unit Bool)
 | 0, _ => none
 | k + 1, s4 => (cond (decide (s4 < (p0.names.length : Int))) ((idx p0.names s4).bind fun x5 => ((((xM n x5.name).bind fun x6 => (cond (!x6) (some true) ((iC n x5.ty).bind fun x7 => (cond (!x7) (some true) ((j5 n x5.ty).bind fun x8 => (cond x8 (some true) ((xH n p0 x5.ty).bind fun x9 => some (!x9)))))))) : Option Bool).bind fun s8 => (cond s8 (some (.rt false)) (wz n p0 k (s4 + 1))))) (some (.nx ())))
def tJ (n : Nat) (x1 : List Str) : Nat → Int → Option (LR Unit Bool)
 | 0, _ => none
 | k + 1, s6 => (cond (decide (s6 < (x1.length : Int))) ((idx x1 s6).bind fun x2 => ((mZ x1 0 s6).bind fun x3 => ((mq n x2 x3).bind fun x4 => (cond x4 (some (.rt false)) (tJ n x1 k (s6 + 1)))))) (some (.nx ())))
def lS (n : Nat) (p0 : Env) : Option Bool := (((cond (decide (8 < (p0.carriers.length : Int))) (some true) (some (decide (64 < (p0.names.length : Int))))) : Option Bool).bind fun s1 => (cond s1 (some false) ((wh n p0 n 0).bind (LR.el (fun s3 => ((wz n p0 n 0).bind (LR.el (fun s5 => ((qw n p0).bind fun x1 => ((tJ n x1 n 0).bind (LR.el (fun s7 => some true) (fun r => some r))))) (fun r => some r)))) (fun r => some r)))))
def wX (n : Nat) (p0 : Env) (p1 : Str) : Nat → Int → Option (LR Unit Int)
 | 0, _ => none
 | k + 1, s1 => (cond (decide (s1 < (p0.names.length : Int))) ((idx p0.names s1).bind fun x1 => (cond (x1.name == p1) (some (.rt s1)) (wX n p0 p1 k (s1 + 1)))) (some (.nx ())))
def sU (n : Nat) (p0 : Env) (p1 : Str) : Option Int := ((wX n p0 p1 n 0).bind (LR.el (fun s2 => some (-1)) (fun r => some r)))
def Y3 (n : Nat) (p0 : Str) : Option Ty := some (Ty.mk 3 p0 ([]))
def alW (n : Nat) (p0 : Ty) : Option Ty := some (Ty.mk 5 ([] : Str) ([p0]))
def kL (n : Nat) (p0 : Env) (p1 : Str) (s1 : Int) : Nat → Int → Option (LR Unit (Int × Int))
 | 0, _ => none
 | k + 1, s3 => ((idx p0.carriers s1).bind fun x1 => (cond (decide (s3 < (x1.elems.length : Int))) ((idx p0.carriers s1).bind fun x2 => ((idx x2.elems s3).bind fun x3 => (cond (x3 == p1) (some (.rt (s1, s3))) (kL n p0 p1 s1 k (s3 + 1))))) (some (.nx ()))))
def su (n : Nat) (p0 : Env) (p1 : Str) : Nat → Int → Option (LR Unit (Int × Int))
 | 0, _ => none
 | k + 1, s1 => (cond (decide (s1 < (p0.carriers.length : Int))) ((kL n p0 p1 s1 n 0).bind (LR.el (fun s4 => su n p0 p1 k (s1 + 1)) (fun r => some (.rt r)))) (some (.nx ())))
def tu (n : Nat) (p0 : Env) (p1 : Str) : Option (Int × Int) := ((su n p0 p1 n 0).bind (LR.el (fun s2 => some ((-1), (-1))) (fun r => some r)))
def rE (n : Nat) (p1 : List Decl) (p2 : Str) : Nat → Int → Option (LR Unit (Ty × Bool))
 | 0, _ => none
 | k + 1, s1 => (cond (decide (0 ≤ s1)) ((idx p1 s1).bind fun x6 => (cond (x6.name == p2) ((idx p1 s1).bind fun x7 => some (.rt (x7.ty, true))) (rE n p1 p2 k (s1 - 1)))) (some (.nx ())))
def uV (n : Nat) (p0 : Env) (p1 : List Decl) (p2 : Str) : Option (Ty × Bool) := ((rE n p1 p2 n ((p1.length : Int) - 1)).bind (LR.el (fun s2 => ((sU n p0 p2).bind fun x1 => (cond (decide (0 ≤ x1)) ((idx p0.names x1).bind fun x2 => some (x2.ty, true)) ((kH n p0 p2).bind fun x3 => (cond (decide (0 ≤ x3)) (some ((Ty.mk 5 ([] : Str) ([(Ty.mk 3 p2 ([]))])), true)) ((tu n p0 p2).bind fun x4 => (cond (decide (0 ≤ x4.1)) ((idx p0.carriers x4.1).bind fun x5 => some ((Ty.mk 3 x5.name ([])), true)) (some ((Ty.mk 0 ([] : Str) ([])), false))))))))) (fun r => some r)))
def gD (n : Nat) (p0 : Ty) : Option Bool := (((cond (p0.kind == 5) ((idx p0.kids 0).bind fun x1 => some (x1.kind != 2)) (some false)) : Option Bool).bind fun s1 => some s1)
def alX (n : Nat) : Option Ty := some (Ty.mk 1 ([] : Str) ([]))
def Fp (n : Nat) (p0 : List Ty) (p1 : Ty) : Nat → Int → Option (LR Unit Bool)
 | 0, _ => none
 | k + 1, s1 => (cond (decide (s1 < (p0.length : Int))) ((idx p0 s1).bind fun x1 => ((bL n x1 p1).bind fun x2 => (cond (!x2) (some (.rt false)) (Fp n p0 p1 k (s1 + 1))))) (some (.nx ())))
def u6 (n : Nat) (p0 : List Ty) (p1 : Ty) : Option Bool := ((Fp n p0 p1 n 0).bind (LR.el (fun s2 => some true) (fun r => some r)))
def ahg (n : Nat) (p0 : Ty) (p1 : Ty) : Option Ty := some (Ty.mk 4 ([] : Str) ([p0, p1]))
def aha (n : Nat) : Option Ty := some (Ty.mk 2 ([] : Str) ([]))
def xV (n : Nat) (p0 : Int) (p1 : List Ty) : Option (Ty × Bool) := (((cond (p0 == 1) (some (p0 == 1)) (some (p0 == 2))) : Option Bool).bind fun s1 => (cond s1 (some ((Ty.mk 2 ([] : Str) ([])), true)) (((cond (p0 == 3) (some (p0 == 3)) (cond (p0 == 4) (some (p0 == 4)) (cond (p0 == 5) (some (p0 == 5)) (cond (p0 == 6) (some (p0 == 6)) (some (p0 == 7)))))) : Option Bool).bind fun s2 => (cond s2 ((u6 n p1 (Ty.mk 2 ([] : Str) ([]))).bind fun x1 => some ((Ty.mk 2 ([] : Str) ([])), x1)) (((cond (p0 == 8) (some (p0 == 8)) (some (p0 == 9))) : Option Bool).bind fun s3 => (cond s3 ((((idx p1 0).bind fun x2 => ((gD n x2).bind fun x3 => (cond x3 ((idx p1 1).bind fun x4 => some (x4.kind == 2)) (some false)))) : Option Bool).bind fun s4 => some ((Ty.mk 2 ([] : Str) ([])), s4)) (((cond (p0 == 10) (some (p0 == 10)) (some (p0 == 11))) : Option Bool).bind fun s5 => (cond s5 ((((idx p1 0).bind fun x5 => (cond (x5.kind != 2) ((idx p1 0).bind fun x6 => ((idx p1 1).bind fun x7 => ((bL n x6 x7).bind fun x8 => some x8))) (some false))) : Option Bool).bind fun s6 => some ((Ty.mk 2 ([] : Str) ([])), s6)) (((cond (p0 == 12) (some (p0 == 12)) (cond (p0 == 13) (some (p0 == 13)) (cond (p0 == 14) (some (p0 == 14)) (some (p0 == 15))))) : Option Bool).bind fun s7 => (cond s7 ((u6 n p1 (Ty.mk 1 ([] : Str) ([]))).bind fun x9 => some ((Ty.mk 2 ([] : Str) ([])), x9)) (((cond (p0 == 16) (some (p0 == 16)) (some (p0 == 17))) : Option Bool).bind fun s8 => (cond s8 ((((idx p1 0).bind fun x10 => (cond (x10.kind != 2) ((idx p1 0).bind fun x11 => ((idx p1 1).bind fun x12 => ((bL n (Ty.mk 5 ([] : Str) ([x11])) x12).bind fun x13 => some x13))) (some false))) : Option Bool).bind fun s9 => some ((Ty.mk 2 ([] : Str) ([])), s9)) (cond (p0 == 18) ((((idx p1 0).bind fun x14 => ((gD n x14).bind fun x15 => (cond x15 ((idx p1 0).bind fun x16 => ((idx p1 1).bind fun x17 => ((bL n x16 x17).bind fun x18 => some x18))) (some false)))) : Option Bool).bind fun s10 => some ((Ty.mk 2 ([] : Str) ([])), s10)) (some ((Ty.mk 0 ([] : Str) ([])), false)))))))))))))))
def EN (n : Nat) (p0 : Ty) : Option Bool := (((cond (p0.kind == 5) ((idx p0.kids 0).bind fun x1 => some (x1.kind == 4)) (some false)) : Option Bool).bind fun s1 => some s1)
def sP (n : Nat) (p0 : Ty) : Option Ty := ((idx p0.kids 0).bind fun x1 => ((idx x1.kids 1).bind fun x2 => some x2))
def vO (n : Nat) (p0 : Ty) : Option Ty := ((idx p0.kids 0).bind fun x1 => ((idx x1.kids 0).bind fun x2 => some x2))
def fJ (n : Nat) (p0 : Int) (p1 : List Ty) : Option (Ty × Bool) := ((idx p1 0).bind fun x1 => (((((cond (p0 == 37) (some true) (some (p0 == 38))) : Option Bool).bind fun s5 => (cond s5 ((idx p1 1).bind fun x32 => some (x32.kind, x32.name, x32.kids)) (some (x1.kind, x1.name, x1.kids)))) : Option (Int × Str × (List Ty))).bind fun s1 => ((EN n (Ty.mk s1.1 s1.2.1 s1.2.2)).bind fun x2 => (cond (!x2) (some ((Ty.mk 0 ([] : Str) ([])), false)) (cond (p0 == 35) ((idx p1 1).bind fun x3 => ((bL n (Ty.mk s1.1 s1.2.1 s1.2.2) x3).bind fun x4 => some ((Ty.mk s1.1 s1.2.1 s1.2.2), x4))) (cond (p0 == 36) ((((idx p1 1).bind fun x8 => ((EN n x8).bind fun x9 => (cond (!x9) (some true) ((sP n (Ty.mk s1.1 s1.2.1 s1.2.2)).bind fun x10 => ((idx p1 1).bind fun x11 => ((vO n x11).bind fun x12 => ((bL n x10 x12).bind fun x13 => some (!x13)))))))) : Option Bool).bind fun s2 => (cond s2 (some ((Ty.mk 0 ([] : Str) ([])), false)) ((vO n (Ty.mk s1.1 s1.2.1 s1.2.2)).bind fun x5 => ((idx p1 1).bind fun x6 => ((sP n x6).bind fun x7 => some ((Ty.mk 5 ([] : Str) ([(Ty.mk 4 ([] : Str) ([x5, x7]))])), true)))))) (((cond (p0 == 37) (some (p0 == 37)) (some (p0 == 38))) : Option Bool).bind fun s3 => (cond s3 ((idx p1 0).bind fun x14 => ((vO n (Ty.mk s1.1 s1.2.1 s1.2.2)).bind fun x15 => ((bL n x14 (Ty.mk 5 ([] : Str) ([x15]))).bind fun x16 => some ((Ty.mk s1.1 s1.2.1 s1.2.2), x16)))) (((cond (p0 == 39) (some (p0 == 39)) (some (p0 == 40))) : Option Bool).bind fun s4 => (cond s4 ((idx p1 1).bind fun x17 => ((sP n (Ty.mk s1.1 s1.2.1 s1.2.2)).bind fun x18 => ((bL n x17 (Ty.mk 5 ([] : Str) ([x18]))).bind fun x19 => some ((Ty.mk s1.1 s1.2.1 s1.2.2), x19)))) (cond (p0 == 50) ((vO n (Ty.mk s1.1 s1.2.1 s1.2.2)).bind fun x20 => some ((Ty.mk 5 ([] : Str) ([x20])), true)) (cond (p0 == 51) ((sP n (Ty.mk s1.1 s1.2.1 s1.2.2)).bind fun x21 => some ((Ty.mk 5 ([] : Str) ([x21])), true)) (cond (p0 == 52) ((sP n (Ty.mk s1.1 s1.2.1 s1.2.2)).bind fun x22 => ((vO n (Ty.mk s1.1 s1.2.1 s1.2.2)).bind fun x23 => some ((Ty.mk 5 ([] : Str) ([(Ty.mk 4 ([] : Str) ([x22, x23]))])), true))) (cond (p0 == 53) ((sP n (Ty.mk s1.1 s1.2.1 s1.2.2)).bind fun x24 => ((idx p1 1).bind fun x25 => ((vO n (Ty.mk s1.1 s1.2.1 s1.2.2)).bind fun x26 => ((bL n x25 (Ty.mk 5 ([] : Str) ([x26]))).bind fun x27 => some ((Ty.mk 5 ([] : Str) ([x24])), x27))))) (cond (p0 == 54) ((sP n (Ty.mk s1.1 s1.2.1 s1.2.2)).bind fun x28 => ((idx p1 1).bind fun x29 => ((vO n (Ty.mk s1.1 s1.2.1 s1.2.2)).bind fun x30 => ((bL n x29 x30).bind fun x31 => some (x28, x31))))) (some ((Ty.mk 0 ([] : Str) ([])), false)))))))))))))))))
def gL (n : Nat) (p0 : Tm) (p1 : List Ty) : Option (Ty × Bool) := (cond (p0.op == 19) (some ((Ty.mk 1 ([] : Str) ([])), true)) (((cond (p0.op == 21) (some (p0.op == 21)) (cond (p0.op == 22) (some (p0.op == 22)) (cond (p0.op == 23) (some (p0.op == 23)) (cond (p0.op == 24) (some (p0.op == 24)) (cond (p0.op == 25) (some (p0.op == 25)) (some (p0.op == 26))))))) : Option Bool).bind fun s1 => (cond s1 ((u6 n p1 (Ty.mk 1 ([] : Str) ([]))).bind fun x1 => some ((Ty.mk 1 ([] : Str) ([])), x1)) (cond (p0.op == 27) ((((idx p1 0).bind fun x2 => ((idx p1 1).bind fun x3 => ((idx p1 0).bind fun x4 => (cond (x4.kind != 2) ((idx p1 1).bind fun x5 => some ((x5.kind != 2), ([x2, x3]))) (some (false, ([x2, x3]))))))) : Option (Bool × (List Ty))).bind fun s2 => some ((Ty.mk 4 ([] : Str) s2.2), s2.1)) (cond (p0.op == 28) ((((idx p1 0).bind fun x6 => ((idx p1 0).bind fun x7 => (cond (x7.kind != 2) ((idx p1 0).bind fun x8 => ((u6 n p1 x8).bind fun x9 => some (x9, ([x6])))) (some (false, ([x6])))))) : Option (Bool × (List Ty))).bind fun s3 => some ((Ty.mk 5 ([] : Str) s3.2), s3.1)) (cond (p0.op == 29) (some ((Ty.mk 5 ([] : Str) ([p0.ty])), true)) (cond (p0.op == 30) ((u6 n p1 (Ty.mk 1 ([] : Str) ([]))).bind fun x10 => some ((Ty.mk 5 ([] : Str) ([(Ty.mk 1 ([] : Str) ([]))])), x10)) (cond (p0.op == 55) ((((idx p1 0).bind fun x11 => ((idx p1 0).bind fun x12 => ((gD n x12).bind fun x13 => (cond x13 ((idx p1 1).bind fun x14 => some ((x14.kind == 2), x11.kind, x11.name, x11.kids)) (some (false, x11.kind, x11.name, x11.kids)))))) : Option (Bool × Int × Str × (List Ty))).bind fun s4 => some ((Ty.mk s4.2.1 s4.2.2.1 s4.2.2.2), s4.1)) (cond (p0.op == 56) ((((idx p1 0).bind fun x18 => ((gD n x18).bind fun x19 => (cond (!x19) (some true) ((idx p1 1).bind fun x20 => some (x20.kind == 2))))) : Option Bool).bind fun s5 => (cond s5 (some ((Ty.mk 0 ([] : Str) ([])), false)) ((idx p1 0).bind fun x15 => ((idx x15.kids 0).bind fun x16 => ((idx p1 1).bind fun x17 => some ((Ty.mk 5 ([] : Str) ([(Ty.mk 4 ([] : Str) ([x16, x17]))])), true)))))) (cond (p0.op == 47) ((idx p1 0).bind fun x21 => ((gD n x21).bind fun x22 => some ((Ty.mk 1 ([] : Str) ([])), x22))) (((cond (p0.op == 48) (some (p0.op == 48)) (some (p0.op == 49))) : Option Bool).bind fun s6 => (cond s6 ((idx p1 0).bind fun x23 => ((bL n x23 (Ty.mk 5 ([] : Str) ([(Ty.mk 1 ([] : Str) ([]))]))).bind fun x24 => some ((Ty.mk 1 ([] : Str) ([])), x24))) (cond (p0.op == 46) ((idx p1 0).bind fun x25 => ((idx p1 0).bind fun x26 => ((gD n x26).bind fun x27 => some ((Ty.mk 5 ([] : Str) ([x25])), x27)))) (((cond (p0.op == 31) (some (p0.op == 31)) (cond (p0.op == 32) (some (p0.op == 32)) (some (p0.op == 33)))) : Option Bool).bind fun s7 => (cond s7 ((((idx p1 0).bind fun x28 => ((idx p1 0).bind fun x29 => ((gD n x29).bind fun x30 => (cond x30 ((idx p1 0).bind fun x31 => ((idx p1 1).bind fun x32 => ((bL n x31 x32).bind fun x33 => some (x33, x28.kind, x28.name, x28.kids)))) (some (false, x28.kind, x28.name, x28.kids)))))) : Option (Bool × Int × Str × (List Ty))).bind fun s8 => some ((Ty.mk s8.2.1 s8.2.2.1 s8.2.2.2), s8.1)) (((cond (p0.op == 34) (some (p0.op == 34)) (cond (p0.op == 41) (some (p0.op == 41)) (cond (p0.op == 42) (some (p0.op == 42)) (cond (p0.op == 43) (some (p0.op == 43)) (cond (p0.op == 44) (some (p0.op == 44)) (some (p0.op == 45))))))) : Option Bool).bind fun s9 => (cond s9 ((((idx p1 0).bind fun x38 => ((gD n x38).bind fun x39 => (cond (!x39) (some true) ((idx p1 1).bind fun x40 => ((gD n x40).bind fun x41 => some (!x41)))))) : Option Bool).bind fun s10 => (cond s10 (some ((Ty.mk 0 ([] : Str) ([])), false)) ((idx p1 0).bind fun x34 => ((idx x34.kids 0).bind fun x35 => ((idx p1 1).bind fun x36 => ((idx x36.kids 0).bind fun x37 => (((cond (p0.op != 34) (some ([(Ty.mk 5 ([] : Str) ([(Ty.mk 4 ([] : Str) ([x35, x37]))]))])) (some ([(Ty.mk 4 ([] : Str) ([x35, x37]))]))) : Option (List Ty)).bind fun s11 => some ((Ty.mk 5 ([] : Str) s11), true)))))))) (cond (decide (p0.op < 35)) ((xV n p0.op p1).bind fun x42 => some (x42.1, x42.2)) ((fJ n p0.op p1).bind fun x43 => some (x43.1, x43.2))))))))))))))))))))
def zI (n : Nat) (rec_R2_typeOf : Env → (List Decl) → Tm → Option (Ty × (List Int) × Int)) (p0 : Env) (p1 : List Decl) (p2 : Tm) : Nat → ((List Ty) × Int) → Option (LR (List Ty) (Ty × (List Int) × Int))
 | 0, _ => none
 | k + 1, s2 => (cond (decide (s2.2 < (p2.kids.length : Int))) ((((((jh n p2.op).bind fun x14 => (cond x14 (some (s2.2 == 1)) (some false))) : Option Bool).bind fun s5 => (cond s5 ((idx s2.1 0).bind fun x8 => ((gD n x8).bind fun x9 => (cond (!x9) (some (.rt ((Ty.mk 0 ([] : Str) ([])), ([] : List Int), 7))) ((app 64 ([] : List Decl) p1).bind fun x10 => ((idx s2.1 0).bind fun x11 => ((idx x11.kids 0).bind fun x12 => ((app 64 x10 ([(Decl.mk p2.name x12)])).bind fun x13 => some (.nx x13)))))))) (some (.nx p1)))) : Option (LR (List Decl) (Ty × (List Int) × Int))).bind (LR.el (fun s4 => ((idx p2.kids s2.2).bind fun x4 => ((rec_R2_typeOf p0 s4 x4).bind fun x5 => (cond (x5.2.2 != 0) ((app 8 ([s2.2]) x5.2.1).bind fun x6 => some (.rt ((Ty.mk 0 ([] : Str) ([])), x6, x5.2.2))) ((app 48 s2.1 ([x5.1])).bind fun x7 => zI n rec_R2_typeOf p0 p1 p2 k (x7, (s2.2 + 1))))))) (fun r => some (.rt r)))) (some (.nx s2.1)))
def wQ (n : Nat) (rec_R2_typeOf : Env → (List Decl) → Tm → Option (Ty × (List Int) × Int)) (p0 : Env) (p1 : List Decl) (p2 : Tm) : Option (Ty × (List Int) × Int) := (cond (p2.op == 20) ((uV n p0 p1 p2.name).bind fun x1 => (cond (!x1.2) (some ((Ty.mk 0 ([] : Str) ([])), ([] : List Int), 6)) (some (x1.1, ([] : List Int), 0)))) (((cond (p2.op == 29) ((xH n p0 p2.ty).bind fun x15 => some (!x15)) (some false)) : Option Bool).bind fun s1 => (cond s1 (some ((Ty.mk 0 ([] : Str) ([])), ([] : List Int), 6)) ((zI n rec_R2_typeOf p0 p1 p2 n (([] : List Ty), 0)).bind (LR.el (fun s3 => ((gL n p2 s3).bind fun x2 => (cond (!x2.2) (some ((Ty.mk 0 ([] : Str) ([])), ([] : List Int), 7)) ((iC n x2.1).bind fun x3 => (cond (!x3) (some ((Ty.mk 0 ([] : Str) ([])), ([] : List Int), 5)) (some (x2.1, ([] : List Int), 0))))))) (fun r => some r))))))
def sO : Nat → Env → (List Decl) → Tm → Option (Ty × (List Int) × Int)
 | 0, _, _, _ => none
 | n + 1, p0, p1, p2 => wQ n (fun p0 p1 p2 => sO n p0 p1 p2) p0 p1 p2
def xw (n : Nat) (p0 : Env) (p1 : Tm) : Option (Ty × (List Int) × Int) := ((((lS n p0).bind fun x3 => (cond (!x3) (some true) ((jS n p1).bind fun x4 => some (!x4)))) : Option Bool).bind fun s1 => (cond s1 (some ((Ty.mk 0 ([] : Str) ([])), ([] : List Int), 1)) ((sO n p0 ([] : List Decl) p1).bind fun x1 => ((iA n x1.1).bind fun x2 => some (x2, x1.2.1, x1.2.2)))))
end Abs
end Go.Proofs.YtiiaccpcoclklaaGreat
namespace Go.Proofs.YtiiaccpcoclklaaGreat
namespace Abs
open Go Go.Proofs
theorem Wz : aF Tryz.prog 19 = true := by kernel_rfl
theorem nS : aF Tryz.prog 48 = true := by kernel_rfl
theorem Fy : aF Tryz.prog 56 = true := by kernel_rfl
theorem Pb : aF Tryz.prog 62 = true := by kernel_rfl
theorem akb : aF Tryz.prog 63 = true := by kernel_rfl
theorem Qu : aF Tryz.prog 64 = true := by kernel_rfl
theorem Dt : aF Tryz.prog 65 = true := by kernel_rfl
theorem amm : aF Tryz.prog 71 = true := by kernel_rfl
theorem Xv : aF Tryz.prog 99 = true := by kernel_rfl
theorem Rw : aF Tryz.prog 101 = true := by kernel_rfl
theorem ab5 : aF Tryz.prog 107 = true := by kernel_rfl
theorem ag1 : aF Tryz.prog 111 = true := by kernel_rfl
theorem ab0 : aF Tryz.prog 128 = true := by kernel_rfl
theorem aiz : aF Tryz.prog 129 = true := by kernel_rfl
theorem yT : aF Tryz.prog 139 = true := by kernel_rfl
theorem apm : aF Tryz.prog 140 = true := by kernel_rfl
theorem ape : aF Tryz.prog 186 = true := by kernel_rfl
theorem KE : aF Tryz.prog 232 = true := by kernel_rfl
theorem aol : aF Tryz.prog 233 = true := by kernel_rfl
theorem aoh : aF Tryz.prog 234 = true := by kernel_rfl
theorem CJ : aF Tryz.prog 268 = true := by kernel_rfl
theorem ahD : aF Tryz.prog 269 = true := by kernel_rfl
theorem EB : aF Tryz.prog 270 = true := by kernel_rfl
theorem EH : aF Tryz.prog 271 = true := by kernel_rfl
end Abs
end Go.Proofs.YtiiaccpcoclklaaGreat
