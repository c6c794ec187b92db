/-
  The plain functions of the program (printed by gen.py). Conditions: none.
-/
import Derived.Test.YtkopaeklihhdlaaGreatCAbs38oxaced69
set_option linter.unusedSimpArgs false
set_option linter.unusedVariables false
namespace Go.Proofs.YtkopaeklihhdlaaGreat
namespace Abs
open Go Go.Proofs
set_option maxRecDepth 100000
set_option maxHeartbeats 40000000
def sK (n : Nat) (p0 : Int) : Option Bool := (((cond (decide (97 ≤ p0)) (cond (decide (p0 ≤ 122)) (some true) (cond (decide (65 ≤ p0)) (some (decide (p0 ≤ 90))) (some false))) (cond (decide (65 ≤ p0)) (some (decide (p0 ≤ 90))) (some false))) : Option Bool).bind fun s1 => some s1)
def tN (n : Nat) (p0 : Str) : Option Bool := (((cond (p0 == ([116, 114, 117, 101] : Str)) (some (p0 == ([116, 114, 117, 101] : Str))) (cond (p0 == ([102, 97, 108, 115, 101] : Str)) (some (p0 == ([102, 97, 108, 115, 101] : Str))) (cond (p0 == ([110, 111, 116] : Str)) (some (p0 == ([110, 111, 116] : Str))) (cond (p0 == ([111, 114] : Str)) (some (p0 == ([111, 114] : Str))) (cond (p0 == ([102, 111, 114, 97, 108, 108] : Str)) (some (p0 == ([102, 111, 114, 97, 108, 108] : Str))) (cond (p0 == ([101, 120, 105, 115, 116, 115] : Str)) (some (p0 == ([101, 120, 105, 115, 116, 115] : Str))) (cond (p0 == ([105, 110] : Str)) (some (p0 == ([105, 110] : Str))) (cond (p0 == ([110, 111, 116, 105, 110] : Str)) (some (p0 == ([110, 111, 116, 105, 110] : Str))) (cond (p0 == ([115, 117, 98] : Str)) (some (p0 == ([115, 117, 98] : Str))) (cond (p0 == ([109, 111, 100] : Str)) (some (p0 == ([109, 111, 100] : Str))) (cond (p0 == ([102, 117, 110] : Str)) (some (p0 == ([102, 117, 110] : Str))) (cond (p0 == ([99, 97, 114, 100] : Str)) (some (p0 == ([99, 97, 114, 100] : Str))) (cond (p0 == ([109, 105, 110] : Str)) (some (p0 == ([109, 105, 110] : Str))) (cond (p0 == ([109, 97, 120] : Str)) (some (p0 == ([109, 97, 120] : Str))) (cond (p0 == ([100, 111, 109] : Str)) (some (p0 == ([100, 111, 109] : Str))) (cond (p0 == ([114, 97, 110] : Str)) (some (p0 == ([114, 97, 110] : Str))) (cond (p0 == ([80, 79, 87] : Str)) (some (p0 == ([80, 79, 87] : Str))) (cond (p0 == ([105, 110, 116] : Str)) (some (p0 == ([105, 110, 116] : Str))) (cond (p0 == ([98, 111, 111, 108] : Str)) (some (p0 == ([98, 111, 111, 108] : Str))) (cond (p0 == ([115, 101, 116] : Str)) (some (p0 == ([115, 101, 116] : Str))) (some (p0 == ([112, 97, 105, 114] : Str))))))))))))))))))))))) : Option Bool).bind fun s1 => (cond s1 (some true) (some false)))
def xI (n : Nat) (p0 : Int) : Option Bool := (((cond (decide (48 ≤ p0)) (some (decide (p0 ≤ 57))) (some false)) : Option Bool).bind fun s1 => some s1)
def vR (n : Nat) (p0 : Int) : Option Bool := ((((sK n p0).bind fun x1 => (cond x1 (some true) ((xI n p0).bind fun x2 => (cond x2 (some true) (some (p0 == 95)))))) : Option Bool).bind fun s1 => some s1)
def jO (n : Nat) (p0 : Str) : Nat → Int → Option (LR Unit Bool)
 | 0, _ => none
 | k + 1, s2 => (cond (decide (s2 < (p0.length : Int))) ((iQ p0 s2).bind fun x1 => ((vR n x1).bind fun x2 => (cond (!x2) (some (.rt false)) (jO n p0 k (s2 + 1))))) (some (.nx ())))
def dV (n : Nat) (p0 : Str) : Option Bool := (((cond (p0 == ([] : Str)) (some true) (cond (decide (16 < (p0.length : Int))) (some true) ((iQ p0 0).bind fun x3 => ((sK n x3).bind fun x4 => (cond (!x4) (some true) ((tN n p0).bind fun x5 => some x5)))))) : Option Bool).bind fun s1 => (cond s1 (some false) ((jO n p0 n 0).bind (LR.el (fun s3 => some true) (fun r => some r)))))
def iF (n : Nat) (p0 : Str) (p1 : Str) : Option Bool := (((cond (decide ((p1.length : Int) ≤ (p0.length : Int))) ((fO p0 (IntKind.wrap .i64 ((p0.length : Int) - (p1.length : Int))) (p0.length : Int)).bind fun x1 => some (x1 == p1)) (some false)) : Option Bool).bind fun s1 => some s1)
def gZ (n : Nat) (p0 : Str) (p1 : Str) : Option Str := ((iF n p0 p1).bind fun x1 => (cond x1 ((fO p0 0 (IntKind.wrap .i64 ((p0.length : Int) - (p1.length : Int)))).bind fun x2 => some x2) (some p0)))
def strings_TrimSuffix (n : Nat) (p0 : Str) (p1 : Str) : Option Str := ((gZ n p0 p1).bind fun x1 => some x1)
def kI (n : Nat) (p0 : Str) : Option Bool := ((strings_TrimSuffix n p0 ([39] : Str)).bind fun x1 => ((dV n x1).bind fun x2 => some x2))
def jP (n : Nat) (p0 : Int) (p1 : Int) (p2 : Int) (p3 : Int) : Option (Bool × Int) := (((cond (decide ((IntKind.wrap .i64 (p0 + 1)) ≤ p1)) (some (decide (p3 ≤ p2))) (some false)) : Option Bool).bind fun s1 => some (s1, (IntKind.wrap .i64 (p0 + 1))))
def iK (n : Nat) (qd7 : (List Ty) → Int → Int → Int → Int → Option (Int × Int)) (qd3 : (List Ty) → Int → Int → Int → Int → Option (Bool × Int)) (qeb : Int → Int → Int → Ty → Int → Bool → Option (Bool × Int)) (qec : Ty → Int → Int → Int → Int → Option (Bool × Int)) (p0 : List Ty) (p2 : Int) (p3 : Int) (p4 : Int) : Nat → (Int × Int) → Option (LR Int (Int × Int))
 | 0, _ => none
 | k + 1, s1 => (cond (decide (s1.1 < (p0.length : Int))) ((idx p0 s1.1).bind fun x1 => ((qec x1 s1.2 p2 p3 p4).bind fun x2 => (cond x2.1 (some (.rt (s1.1, x2.2))) (iK n qd7 qd3 qeb qec p0 p2 p3 p4 k ((s1.1 + 1), x2.2))))) (some (.nx s1.2)))
def dX (n : Nat) (qd7 : (List Ty) → Int → Int → Int → Int → Option (Int × Int)) (qd3 : (List Ty) → Int → Int → Int → Int → Option (Bool × Int)) (qeb : Int → Int → Int → Ty → Int → Bool → Option (Bool × Int)) (qec : Ty → Int → Int → Int → Int → Option (Bool × Int)) (p0 : List Ty) (p1 : Int) (p2 : Int) (p3 : Int) (p4 : Int) : Option (Int × Int) := ((iK n qd7 qd3 qeb qec p0 p2 p3 p4 n (0, p1)).bind (LR.el (fun s2 => some ((-1), s2)) (fun r => some r)))
def fQ (n : Nat) (qd7 : (List Ty) → Int → Int → Int → Int → Option (Int × Int)) (qd3 : (List Ty) → Int → Int → Int → Int → Option (Bool × Int)) (qeb : Int → Int → Int → Ty → Int → Bool → Option (Bool × Int)) (qec : Ty → Int → Int → Int → Int → Option (Bool × Int)) (p0 : List Ty) (p1 : Int) (p2 : Int) (p3 : Int) (p4 : Int) : Option (Bool × Int) := ((qd7 p0 p1 p2 p3 p4).bind fun x1 => some ((decide (0 ≤ x1.1)), x1.2))
def gT (n : Nat) (qd7 : (List Ty) → Int → Int → Int → Int → Option (Int × Int)) (qd3 : (List Ty) → Int → Int → Int → Int → Option (Bool × Int)) (qeb : Int → Int → Int → Ty → Int → Bool → Option (Bool × Int)) (qec : Ty → Int → Int → Int → Int → Option (Bool × Int)) (p0 : Int) (p1 : Int) (p2 : Int) (p3 : Ty) (p4 : Int) (p5 : Bool) : Option (Bool × Int) := ((jP n p0 p1 p2 p4).bind fun x1 => (cond (!x1.1) (some (false, x1.2)) (((cond (p3.kind == 1) (some (.nx 0)) (cond (p3.kind == 2) (cond p5 (some (.rt (false, x1.2))) (some (.nx 0))) (cond (p3.kind == 3) ((dV n p3.name).bind fun x3 => (cond (!x3) (some (.rt (false, x1.2))) (some (.nx 0)))) (cond (p3.kind == 4) (some (.nx 2)) (cond (p3.kind == 5) (some (.nx 1)) (some (.rt (false, x1.2)))))))) : Option (LR Int (Bool × Int))).bind (LR.el (fun s1 => (((cond ((p3.kids.length : Int) != s1) (some true) (cond (p3.kind != 3) (some (!(p3.name == ([] : Str)))) (some false))) : Option Bool).bind fun s2 => (cond s2 (some (false, x1.2)) ((qd3 p3.kids x1.2 p1 p2 p4).bind fun x2 => some ((!x2.1), x2.2))))) (fun r => some r)))))
def fZ (n : Nat) (qd7 : (List Ty) → Int → Int → Int → Int → Option (Int × Int)) (qd3 : (List Ty) → Int → Int → Int → Int → Option (Bool × Int)) (qeb : Int → Int → Int → Ty → Int → Bool → Option (Bool × Int)) (qec : Ty → Int → Int → Int → Int → Option (Bool × Int)) (p0 : Ty) (p1 : Int) (p2 : Int) (p3 : Int) (p4 : Int) : Option (Bool × Int) := ((qeb p1 p2 p3 p0 (IntKind.wrap .i64 (p4 + 1)) true).bind fun x1 => some ((!x1.1), x1.2))
mutual
def dU : Nat → (List Ty) → Int → Int → Int → Int → Option (Int × Int)
 | 0, _, _, _, _, _ => none
 | n + 1, p0, p1, p2, p3, p4 => dX n (fun p0 p1 p2 p3 p4 => dU n p0 p1 p2 p3 p4) (fun p0 p1 p2 p3 p4 => bO n p0 p1 p2 p3 p4) (fun p0 p1 p2 p3 p4 p5 => dh n p0 p1 p2 p3 p4 p5) (fun p0 p1 p2 p3 p4 => bV n p0 p1 p2 p3 p4) p0 p1 p2 p3 p4
def bO : Nat → (List Ty) → Int → Int → Int → Int → Option (Bool × Int)
 | 0, _, _, _, _, _ => none
 | n + 1, p0, p1, p2, p3, p4 => fQ n (fun p0 p1 p2 p3 p4 => dU n p0 p1 p2 p3 p4) (fun p0 p1 p2 p3 p4 => bO n p0 p1 p2 p3 p4) (fun p0 p1 p2 p3 p4 p5 => dh n p0 p1 p2 p3 p4 p5) (fun p0 p1 p2 p3 p4 => bV n p0 p1 p2 p3 p4) p0 p1 p2 p3 p4
def dh : Nat → Int → Int → Int → Ty → Int → Bool → Option (Bool × Int)
 | 0, _, _, _, _, _, _ => none
 | n + 1, p0, p1, p2, p3, p4, p5 => gT n (fun p0 p1 p2 p3 p4 => dU n p0 p1 p2 p3 p4) (fun p0 p1 p2 p3 p4 => bO n p0 p1 p2 p3 p4) (fun p0 p1 p2 p3 p4 p5 => dh n p0 p1 p2 p3 p4 p5) (fun p0 p1 p2 p3 p4 => bV n p0 p1 p2 p3 p4) p0 p1 p2 p3 p4 p5
def bV : Nat → Ty → Int → Int → Int → Int → Option (Bool × Int)
 | 0, _, _, _, _, _ => none
 | n + 1, p0, p1, p2, p3, p4 => fZ n (fun p0 p1 p2 p3 p4 => dU n p0 p1 p2 p3 p4) (fun p0 p1 p2 p3 p4 => bO n p0 p1 p2 p3 p4) (fun p0 p1 p2 p3 p4 p5 => dh n p0 p1 p2 p3 p4 p5) (fun p0 p1 p2 p3 p4 => bV n p0 p1 p2 p3 p4) p0 p1 p2 p3 p4
end
def gy (n : Nat) (p0 : Ty) : Option Bool := ((dh n 0 16 6 p0 1 false).bind fun x1 => some x1.1)
def gU (n : Nat) (qd8 : (List Ty) → Int → Option Int) (qd4 : (List Ty) → Int → Option Bool) (qeh : Ty → Int → Option Bool) (qei : Ty → Int → Option Bool) (p0 : List Ty) (p1 : Int) : Nat → Int → Option (LR Unit Int)
 | 0, _ => none
 | k + 1, s1 => (cond (decide (s1 < (p0.length : Int))) ((idx p0 s1).bind fun x1 => ((qei x1 p1).bind fun x2 => (cond x2 (some (.rt s1)) (gU n qd8 qd4 qeh qei p0 p1 k (s1 + 1))))) (some (.nx ())))
def gD (n : Nat) (qd8 : (List Ty) → Int → Option Int) (qd4 : (List Ty) → Int → Option Bool) (qeh : Ty → Int → Option Bool) (qei : Ty → Int → Option Bool) (p0 : List Ty) (p1 : Int) : Option Int := ((gU n qd8 qd4 qeh qei p0 p1 n 0).bind (LR.el (fun s2 => some (-1)) (fun r => some r)))
def fq (n : Nat) (qd8 : (List Ty) → Int → Option Int) (qd4 : (List Ty) → Int → Option Bool) (qeh : Ty → Int → Option Bool) (qei : Ty → Int → Option Bool) (p0 : List Ty) (p1 : Int) : Option Bool := ((qd8 p0 p1).bind fun x1 => some (decide (0 ≤ x1)))
def kg (n : Nat) (qd8 : (List Ty) → Int → Option Int) (qd4 : (List Ty) → Int → Option Bool) (qeh : Ty → Int → Option Bool) (qei : Ty → Int → Option Bool) (p0 : Ty) (p1 : Int) : Option Bool := (((cond (p0.kind == p1) (some true) ((qd4 p0.kids p1).bind fun x1 => some x1)) : Option Bool).bind fun s1 => some s1)
def jm (n : Nat) (qd8 : (List Ty) → Int → Option Int) (qd4 : (List Ty) → Int → Option Bool) (qeh : Ty → Int → Option Bool) (qei : Ty → Int → Option Bool) (p0 : Ty) (p1 : Int) : Option Bool := ((qeh p0 p1).bind fun x1 => some x1)
mutual
def dZ : Nat → (List Ty) → Int → Option Int
 | 0, _, _ => none
 | n + 1, p0, p1 => gD n (fun p0 p1 => dZ n p0 p1) (fun p0 p1 => cO n p0 p1) (fun p0 p1 => fJ n p0 p1) (fun p0 p1 => eZ n p0 p1) p0 p1
def cO : Nat → (List Ty) → Int → Option Bool
 | 0, _, _ => none
 | n + 1, p0, p1 => fq n (fun p0 p1 => dZ n p0 p1) (fun p0 p1 => cO n p0 p1) (fun p0 p1 => fJ n p0 p1) (fun p0 p1 => eZ n p0 p1) p0 p1
def fJ : Nat → Ty → Int → Option Bool
 | 0, _, _ => none
 | n + 1, p0, p1 => kg n (fun p0 p1 => dZ n p0 p1) (fun p0 p1 => cO n p0 p1) (fun p0 p1 => fJ n p0 p1) (fun p0 p1 => eZ n p0 p1) p0 p1
def eZ : Nat → Ty → Int → Option Bool
 | 0, _, _ => none
 | n + 1, p0, p1 => jm n (fun p0 p1 => dZ n p0 p1) (fun p0 p1 => cO n p0 p1) (fun p0 p1 => fJ n p0 p1) (fun p0 p1 => eZ n p0 p1) p0 p1
end
def iA (n : Nat) (p0 : Ty) : Option Bool := ((((gy n p0).bind fun x1 => (cond x1 ((fJ n p0 2).bind fun x2 => some (!x2)) (some false))) : Option Bool).bind fun s1 => some s1)
def kN (n : Nat) (qeg : Ty → (List (Str × Bool)) → Option (List (Str × Bool))) (p0 : Ty) : Nat → (Int × (List (Str × Bool))) → Option (LR (List (Str × Bool)) (List (Str × Bool)))
 | 0, _ => none
 | k + 1, s2 => (cond (decide (s2.1 < (p0.kids.length : Int))) ((idx p0.kids s2.1).bind fun x1 => ((qeg x1 s2.2).bind fun x2 => kN n qeg p0 k ((s2.1 + 1), x2))) (some (.nx s2.2)))
def lq (n : Nat) (qeg : Ty → (List (Str × Bool)) → Option (List (Str × Bool))) (p0 : Ty) (p1 : List (Str × Bool)) : Option (List (Str × Bool)) := (((cond (p0.kind == 3) ((uZ p1 p0.name true).bind fun x3 => some x3) (some p1)) : Option (List (Str × Bool))).bind fun s1 => ((kN n qeg p0 n (0, s1)).bind (LR.el (fun s3 => some s3) (fun r => some r))))
def iy : Nat → Ty → (List (Str × Bool)) → Option (List (Str × Bool))
 | 0, _, _ => none
 | n + 1, p0, p1 => lq n (fun p0 p1 => iy n p0 p1) p0 p1
def jf (n : Nat) (p0 : Ty) : Option (List Str) := ((gy n p0).bind fun x1 => (cond (!x1) (some ([] : List Str)) ((iy n p0 ([] : List (Str × Bool))).bind fun x2 => ((nA n x2).bind fun x3 => some x3))))
def yJ (n : Nat) (p0 : Carrier) (p1 : Str) : Option Bool := some (p0.name == p1)
def gL (n : Nat) (p0 : List Carrier) (p1 : Str) : Nat → Int → Option (LR Unit Int)
 | 0, _ => none
 | k + 1, s1 => (cond (decide (s1 < (p0.length : Int))) ((idx p0 s1).bind fun x1 => (cond (x1.name == p1) (some (.rt s1)) (gL n p0 p1 k (s1 + 1)))) (some (.nx ())))
def kC (n : Nat) (p0 : List Carrier) (p1 : Str) : Option Int := ((gL n p0 p1 n 0).bind (LR.el (fun s2 => some (-1)) (fun r => some r)))
def jg (n : Nat) (p0 : List Carrier) (p1 : Str) : Option Bool := ((kC n p0 p1).bind fun x1 => some (decide (0 ≤ x1)))
def ng (n : Nat) (p0 : Env) (p1 : Str) : Option Bool := ((jg n p0.carriers p1).bind fun x1 => some x1)
def mZ (n : Nat) (p0 : Str) (p1 : List Carrier) (p2 : List Decl) : Option Bool := ((ng n (Env.mk p1 p2) p0).bind fun x1 => some (!x1))
def gX (n : Nat) (p0 : List Str) (p1 : List Carrier) (p2 : List Decl) : Nat → Int → Option (LR Unit Int)
 | 0, _ => none
 | k + 1, s1 => (cond (decide (s1 < (p0.length : Int))) ((idx p0 s1).bind fun x1 => ((mZ n x1 p1 p2).bind fun x2 => (cond x2 (some (.rt s1)) (gX n p0 p1 p2 k (s1 + 1))))) (some (.nx ())))
def kY (n : Nat) (p0 : List Str) (p1 : List Carrier) (p2 : List Decl) : Option Int := ((gX n p0 p1 p2 n 0).bind (LR.el (fun s2 => some (-1)) (fun r => some r)))
def jA (n : Nat) (p0 : List Str) (p1 : List Carrier) (p2 : List Decl) : Option Bool := ((kY n p0 p1 p2).bind fun x1 => some (decide (0 ≤ x1)))
def ji (n : Nat) (p0 : Env) (p1 : Ty) : Option Bool := ((jf n p1).bind fun x1 => ((jA n x1 p0.carriers p0.names).bind fun x2 => some (!x2)))
def l5 (n : Nat) (p0 : Env) : Nat → ((List Str) × Int) → Option (LR (List Str) (List Str))
 | 0, _ => none
 | k + 1, s1 => (cond (decide (s1.2 < (p0.carriers.length : Int))) ((idx p0.carriers s1.2).bind fun x3 => ((app 16 s1.1 ([x3.name])).bind fun x4 => ((app 16 x4 x3.elems).bind fun x5 => l5 n p0 k (x5, (s1.2 + 1))))) (some (.nx s1.1)))
def mo (n : Nat) (p0 : Env) : Nat → ((List Str) × Int) → Option (LR (List Str) (List Str))
 | 0, _ => none
 | k + 1, s3 => (cond (decide (s3.2 < (p0.names.length : Int))) ((idx p0.names s3.2).bind fun x1 => ((app 16 s3.1 ([x1.name])).bind fun x2 => mo n p0 k (x2, (s3.2 + 1)))) (some (.nx s3.1)))
def jZ (n : Nat) (p0 : Env) : Option (List Str) := ((l5 n p0 n (([] : List Str), 0)).bind (LR.el (fun s2 => ((mo n p0 n (s2, 0)).bind (LR.el (fun s4 => some s4) (fun r => some r)))) (fun r => some r)))
def lX (n : Nat) (p0 : List Str) : Nat → (Int × (List (Str × Bool))) → Option (LR Unit Bool)
 | 0, _ => none
 | k + 1, s1 => (cond (decide (s1.1 < (p0.length : Int))) ((idx p0 s1.1).bind fun x1 => (((Q6 (dR s1.2 x1) (some false) (fun x3 => some x3)) : Option Bool).bind fun s3 => (cond s3 (some (.rt false)) ((uZ s1.2 x1 true).bind fun x2 => lX n p0 k ((s1.1 + 1), x2))))) (some (.nx ())))
def mG (n : Nat) (p0 : List Str) : Option Bool := ((lX n p0 n (0, ([] : List (Str × Bool)))).bind (LR.el (fun s2 => some true) (fun r => some r)))
def iM (n : Nat) (x7 : Carrier) : Nat → Int → Option (LR Unit Bool)
 | 0, _ => none
 | k + 1, s8 => (cond (decide (s8 < (x7.elems.length : Int))) ((idx x7.elems s8).bind fun x8 => ((dV n x8).bind fun x9 => (cond (!x9) (some (.rt false)) (iM n x7 k (s8 + 1))))) (some (.nx ())))
def mq (n : Nat) (p0 : Env) : Nat → Int → Option (LR Unit Bool)
 | 0, _ => none
 | k + 1, s2 => (cond (decide (s2 < (p0.carriers.length : Int))) ((idx p0.carriers s2).bind fun x7 => ((((dV n x7.name).bind fun x10 => (cond (!x10) (some true) (some (decide (8 < (x7.elems.length : Int)))))) : Option Bool).bind fun s7 => (cond s7 (some (.rt false)) ((iM n x7 n 0).bind (LR.el (fun s9 => mq n p0 k (s2 + 1)) (fun r => some (.rt r))))))) (some (.nx ())))
def mh (n : Nat) (p0 : Env) : Nat → Int → Option (LR Unit Bool)
 | 0, _ => none
 | k + 1, s4 => (cond (decide (s4 < (p0.names.length : Int))) ((idx p0.names s4).bind fun x3 => ((((kI n x3.name).bind fun x4 => (cond (!x4) (some true) ((iA n x3.ty).bind fun x5 => (cond (!x5) (some true) ((ji n p0 x3.ty).bind fun x6 => some (!x6)))))) : Option Bool).bind fun s6 => (cond s6 (some (.rt false)) (mh n p0 k (s4 + 1))))) (some (.nx ())))
def dF (n : Nat) (p0 : Env) : Option Bool := (((cond (decide (8 < (p0.carriers.length : Int))) (some true) (some (decide (64 < (p0.names.length : Int))))) : Option Bool).bind fun s1 => (cond s1 (some false) ((mq n p0 n 0).bind (LR.el (fun s3 => ((mh n p0 n 0).bind (LR.el (fun s5 => ((jZ n p0).bind fun x1 => ((mG n x1).bind fun x2 => some x2))) (fun r => some r)))) (fun r => some r)))))
def nL (n : Nat) (p0 : Int) : Option Bool := (((cond (decide (97 ≤ p0)) (cond (decide (p0 ≤ 122)) (some true) (cond (decide (65 ≤ p0)) (some (decide (p0 ≤ 90))) (some false))) (cond (decide (65 ≤ p0)) (some (decide (p0 ≤ 90))) (some false))) : Option Bool).bind fun s1 => some s1)
def BN (n : Nat) (p0 : Str) (p1 : List Str) : Nat → Int → Option (LR Unit Bool)
 | 0, _ => none
 | k + 1, s1 => (cond (decide (s1 < (p1.length : Int))) ((idx p1 s1).bind fun x1 => (cond (x1 == p0) (some (.rt true)) (BN n p0 p1 k (s1 + 1)))) (some (.nx ())))
def kZ (n : Nat) (p0 : Str) (p1 : List Str) : Option Bool := ((BN n p0 p1 n 0).bind (LR.el (fun s2 => some false) (fun r => some r)))
def uJ (n : Nat) (p0 : Str) : Option Bool := ((kZ n p0 ([([116, 114, 117, 101] : Str), ([102, 97, 108, 115, 101] : Str), ([110, 111, 116] : Str), ([111, 114] : Str), ([102, 111, 114, 97, 108, 108] : Str), ([101, 120, 105, 115, 116, 115] : Str), ([105, 110] : Str), ([110, 111, 116, 105, 110] : Str), ([115, 117, 98] : Str), ([109, 111, 100] : Str), ([102, 117, 110] : Str), ([99, 97, 114, 100] : Str), ([109, 105, 110] : Str), ([109, 97, 120] : Str), ([100, 111, 109] : Str), ([114, 97, 110] : Str), ([80, 79, 87] : Str), ([105, 110, 116] : Str), ([98, 111, 111, 108] : Str), ([115, 101, 116] : Str), ([112, 97, 105, 114] : Str)])).bind fun x1 => some x1)
def pU (n : Nat) (p0 : Int) : Option Bool := (((cond (decide (48 ≤ p0)) (some (decide (p0 ≤ 57))) (some false)) : Option Bool).bind fun s1 => some s1)
def lG (n : Nat) (p0 : Str) : Nat → Int → Option (LR Unit Bool)
 | 0, _ => none
 | k + 1, s2 => (cond (decide (s2 < (p0.length : Int))) ((((iQ p0 s2).bind fun x1 => ((nL n x1).bind fun x2 => (cond (!x2) ((iQ p0 s2).bind fun x3 => ((pU n x3).bind fun x4 => (cond (!x4) ((iQ p0 s2).bind fun x5 => some (x5 != 95)) (some false)))) (some false)))) : Option Bool).bind fun s4 => (cond s4 (some (.rt false)) (lG n p0 k (s2 + 1)))) (some (.nx ())))
def dY (n : Nat) (p0 : Str) : Option Bool := (((cond (decide ((p0.length : Int) < 1)) (some true) (cond (decide (16 < (p0.length : Int))) (some true) ((iQ p0 0).bind fun x6 => ((nL n x6).bind fun x7 => (cond (!x7) (some true) ((uJ n p0).bind fun x8 => some x8)))))) : Option Bool).bind fun s1 => (cond s1 (some false) ((lG n p0 n 1).bind (LR.el (fun s3 => some true) (fun r => some r)))))
def pz (n : Nat) (p0 : Str) : Option Bool := (((cond (decide (1 < (p0.length : Int))) ((iQ p0 ((p0.length : Int) - 1)).bind fun x1 => (cond (x1 == 39) ((fO p0 0 ((p0.length : Int) - 1)).bind fun x2 => ((dY n x2).bind fun x3 => some x3)) (some false))) (some false)) : Option Bool).bind fun s1 => some s1)
def rz (n : Nat) (p0 : Str) : Option Bool := ((((dY n p0).bind fun x1 => (cond x1 (some true) ((pz n p0).bind fun x2 => some x2))) : Option Bool).bind fun s1 => some s1)
def pI (n : Nat) (qdd : Ty → Int → Int → Option Int) (p0 : Ty) (p1 : Int) : Nat → (Int × Int) → Option (LR Int Int)
 | 0, _ => none
 | k + 1, s4 => (cond (decide (s4.2 < (p0.kids.length : Int))) ((idx p0.kids s4.2).bind fun x1 => ((qdd x1 (IntKind.wrap .i64 (p1 + 1)) s4.1).bind fun x2 => (cond (decide (x2 < 0)) (some (.rt (-1))) (pI n qdd p0 p1 k (x2, (s4.2 + 1)))))) (some (.nx s4.1)))
def sG (n : Nat) (qdd : Ty → Int → Int → Option Int) (p0 : Ty) (p1 : Int) (p2 : Int) : Option Int := (((cond (decide (6 < p1)) (some true) (cond (decide (16 < (IntKind.wrap .i64 (p2 + 1)))) (some true) (cond (p0.kind == 2) (some (decide (1 < p1))) (some false)))) : Option Bool).bind fun s1 => (cond s1 (some (-1)) (((((cond (p0.kind == 1) (some (p0.kind == 1)) (cond (p0.kind == 2) (some (p0.kind == 2)) (some (p0.kind == 3)))) : Option Bool).bind fun s6 => (cond s6 (some (.nx 0)) (cond (p0.kind == 5) (some (.nx 1)) (cond (p0.kind == 4) (some (.nx 2)) (some (.rt (-1))))))) : Option (LR Int Int)).bind (LR.el (fun s2 => (((cond ((p0.kids.length : Int) != s2) (some true) (cond (p0.kind == 3) ((dY n p0.name).bind fun x3 => (cond (!x3) (some true) (cond (p0.kind != 3) (some (!(p0.name == ([] : Str)))) (some false)))) (cond (p0.kind != 3) (some (!(p0.name == ([] : Str)))) (some false)))) : Option Bool).bind fun s3 => (cond s3 (some (-1)) ((pI n qdd p0 p1 n ((IntKind.wrap .i64 (p2 + 1)), 0)).bind (LR.el (fun s5 => some s5) (fun r => some r)))))) (fun r => some r)))))
def mQ : Nat → Ty → Int → Int → Option Int
 | 0, _, _, _ => none
 | n + 1, p0, p1, p2 => sG n (fun p0 p1 p2 => mQ n p0 p1 p2) p0 p1 p2
def eB (n : Nat) (p0 : Ty) : Option Bool := ((mQ n p0 1 0).bind fun x1 => some (decide (0 < x1)))
def oV (n : Nat) (qdi : Ty → Option Bool) (p0 : Ty) : Nat → Int → Option (LR Unit Bool)
 | 0, _ => none
 | k + 1, s1 => (cond (decide (s1 < (p0.kids.length : Int))) ((idx p0.kids s1).bind fun x1 => ((qdi x1).bind fun x2 => (cond x2 (some (.rt true)) (oV n qdi p0 k (s1 + 1))))) (some (.nx ())))
def mY (n : Nat) (qdi : Ty → Option Bool) (p0 : Ty) : Option Bool := (cond (p0.kind == 2) (some true) ((oV n qdi p0 n 0).bind (LR.el (fun s2 => some false) (fun r => some r))))
def gW : Nat → Ty → Option Bool
 | 0, _ => none
 | n + 1, p0 => mY n (fun p0 => gW n p0) p0
def qU (n : Nat) (qdg : Ty → Option (List Str)) (p0 : Ty) : Nat → ((List Str) × Int) → Option (LR (List Str) (List Str))
 | 0, _ => none
 | k + 1, s1 => (cond (decide (s1.2 < (p0.kids.length : Int))) ((idx p0.kids s1.2).bind fun x1 => ((qdg x1).bind fun x2 => ((app 16 s1.1 x2).bind fun x3 => qU n qdg p0 k (x3, (s1.2 + 1))))) (some (.nx s1.1)))
def nZ (n : Nat) (qdg : Ty → Option (List Str)) (p0 : Ty) : Option (List Str) := (cond (p0.kind == 3) (some ([p0.name])) ((qU n qdg p0 n (([] : List Str), 0)).bind (LR.el (fun s2 => some s2) (fun r => some r))))
def jX : Nat → Ty → Option (List Str)
 | 0, _ => none
 | n + 1, p0 => nZ n (fun p0 => jX n p0) p0
def mX (n : Nat) (p0 : Env) (p1 : Str) : Nat → Int → Option (LR Unit Int)
 | 0, _ => none
 | k + 1, s1 => (cond (decide (s1 < (p0.carriers.length : Int))) ((idx p0.carriers s1).bind fun x1 => (cond (x1.name == p1) (some (.rt s1)) (mX n p0 p1 k (s1 + 1)))) (some (.nx ())))
def fD (n : Nat) (p0 : Env) (p1 : Str) : Option Int := ((mX n p0 p1 n 0).bind (LR.el (fun s2 => some (-1)) (fun r => some r)))
def vW (n : Nat) (p0 : Env) (x1 : List Str) : Nat → Int → Option (LR Unit Bool)
 | 0, _ => none
 | k + 1, s1 => (cond (decide (s1 < (x1.length : Int))) ((idx x1 s1).bind fun x2 => ((fD n p0 x2).bind fun x3 => (cond (decide (x3 < 0)) (some (.rt false)) (vW n p0 x1 k (s1 + 1))))) (some (.nx ())))
def pV (n : Nat) (p0 : Env) (p1 : Ty) : Option Bool := ((jX n p1).bind fun x1 => ((vW n p0 x1 n 0).bind (LR.el (fun s2 => some true) (fun r => some r))))
def qm (n : Nat) (p0 : Env) : Nat → ((List Str) × Int) → Option (LR (List Str) (List Str))
 | 0, _ => none
 | k + 1, s1 => (cond (decide (s1.2 < (p0.carriers.length : Int))) ((idx p0.carriers s1.2).bind fun x5 => ((app 16 s1.1 ([x5.name])).bind fun x6 => qm n p0 k (x6, (s1.2 + 1)))) (some (.nx s1.1)))
def qD (n : Nat) (p0 : Env) : Nat → ((List Str) × Int) → Option (LR (List Str) (List Str))
 | 0, _ => none
 | k + 1, s3 => (cond (decide (s3.2 < (p0.carriers.length : Int))) ((idx p0.carriers s3.2).bind fun x3 => ((app 16 s3.1 x3.elems).bind fun x4 => qD n p0 k (x4, (s3.2 + 1)))) (some (.nx s3.1)))
def qL (n : Nat) (p0 : Env) : Nat → ((List Str) × Int) → Option (LR (List Str) (List Str))
 | 0, _ => none
 | k + 1, s5 => (cond (decide (s5.2 < (p0.names.length : Int))) ((idx p0.names s5.2).bind fun x1 => ((app 16 s5.1 ([x1.name])).bind fun x2 => qL n p0 k (x2, (s5.2 + 1)))) (some (.nx s5.1)))
def lV (n : Nat) (p0 : Env) : Option (List Str) := ((qm n p0 n (([] : List Str), 0)).bind (LR.el (fun s2 => ((qD n p0 n (s2, 0)).bind (LR.el (fun s4 => ((qL n p0 n (s4, 0)).bind (LR.el (fun s6 => some s6) (fun r => some r)))) (fun r => some r)))) (fun r => some r)))
def lH (n : Nat) (x10 : Carrier) : Nat → Int → Option (LR Unit Bool)
 | 0, _ => none
 | k + 1, s10 => (cond (decide (s10 < (x10.elems.length : Int))) ((idx x10.elems s10).bind fun x11 => ((dY n x11).bind fun x12 => (cond (!x12) (some (.rt false)) (lH n x10 k (s10 + 1))))) (some (.nx ())))
def qy (n : Nat) (p0 : Env) : Nat → Int → Option (LR Unit Bool)
 | 0, _ => none
 | k + 1, s2 => (cond (decide (s2 < (p0.carriers.length : Int))) ((idx p0.carriers s2).bind fun x10 => ((((dY n x10.name).bind fun x13 => (cond (!x13) (some true) (some (decide (8 < (x10.elems.length : Int)))))) : Option Bool).bind fun s9 => (cond s9 (some (.rt false)) ((lH n x10 n 0).bind (LR.el (fun s11 => qy n p0 k (s2 + 1)) (fun r => some (.rt r))))))) (some (.nx ())))
def qO (n : Nat) (p0 : Env) : Nat → Int → Option (LR Unit Bool)
 | 0, _ => none
 | k + 1, s4 => (cond (decide (s4 < (p0.names.length : Int))) ((idx p0.names s4).bind fun x5 => ((((rz n x5.name).bind fun x6 => (cond (!x6) (some true) ((eB n x5.ty).bind fun x7 => (cond (!x7) (some true) ((gW n x5.ty).bind fun x8 => (cond x8 (some true) ((pV n p0 x5.ty).bind fun x9 => some (!x9)))))))) : Option Bool).bind fun s8 => (cond s8 (some (.rt false)) (qO n p0 k (s4 + 1))))) (some (.nx ())))
def nT (n : Nat) (x1 : List Str) : Nat → Int → Option (LR Unit Bool)
 | 0, _ => none
 | k + 1, s6 => (cond (decide (s6 < (x1.length : Int))) ((idx x1 s6).bind fun x2 => ((fO x1 0 s6).bind fun x3 => ((kZ n x2 x3).bind fun x4 => (cond x4 (some (.rt false)) (nT n x1 k (s6 + 1)))))) (some (.nx ())))
def fK (n : Nat) (p0 : Env) : Option Bool := (((cond (decide (8 < (p0.carriers.length : Int))) (some true) (some (decide (64 < (p0.names.length : Int))))) : Option Bool).bind fun s1 => (cond s1 (some false) ((qy n p0 n 0).bind (LR.el (fun s3 => ((qO n p0 n 0).bind (LR.el (fun s5 => ((lV n p0).bind fun x1 => ((nT n x1 n 0).bind (LR.el (fun s7 => some true) (fun r => some r))))) (fun r => some r)))) (fun r => some r)))))
def nQ (n : Nat) (qcp : Ty → Ty → Option Bool) (p0 : Ty) (p1 : Ty) : Nat → Int → Option (LR Unit Bool)
 | 0, _ => none
 | k + 1, s2 => (cond (decide (s2 < (p0.kids.length : Int))) ((idx p0.kids s2).bind fun x1 => ((idx p1.kids s2).bind fun x2 => ((qcp x1 x2).bind fun x3 => (cond (!x3) (some (.rt false)) (nQ n qcp p0 p1 k (s2 + 1)))))) (some (.nx ())))
def jI (n : Nat) (qcp : Ty → Ty → Option Bool) (p0 : Ty) (p1 : Ty) : Option Bool := (((cond (p0.kind != p1.kind) (some true) (cond (!(p0.name == p1.name)) (some true) (some ((p0.kids.length : Int) != (p1.kids.length : Int))))) : Option Bool).bind fun s1 => (cond s1 (some false) ((nQ n qcp p0 p1 n 0).bind (LR.el (fun s3 => some true) (fun r => some r)))))
def bg : Nat → Ty → Ty → Option Bool
 | 0, _, _ => none
 | n + 1, p0, p1 => jI n (fun p0 p1 => bg n p0 p1) p0 p1
def qJ (n : Nat) (qcl : Ty → Option Ty) (p0 : Ty) : Nat → (Int × (List Ty)) → Option (LR (List Ty) Ty)
 | 0, _ => none
 | k + 1, s1 => (cond (decide (s1.1 < (p0.kids.length : Int))) ((idx p0.kids s1.1).bind fun x1 => ((qcl x1).bind fun x2 => ((app 48 s1.2 ([x2])).bind fun x3 => qJ n qcl p0 k ((s1.1 + 1), x3)))) (some (.nx s1.2)))
def nV (n : Nat) (qcl : Ty → Option Ty) (p0 : Ty) : Option Ty := ((qJ n qcl p0 n (0, ([] : List Ty))).bind (LR.el (fun s2 => some (Ty.mk p0.kind p0.name s2)) (fun r => some r)))
def eD : Nat → Ty → Option Ty
 | 0, _ => none
 | n + 1, p0 => nV n (fun p0 => eD n p0) p0
def rY (n : Nat) (p0 : Env) : Nat → (Int × (List Carrier)) → Option (LR (List Carrier) ((List Carrier) × (List Decl)))
 | 0, _ => none
 | k + 1, s1 => (cond (decide (s1.1 < (p0.carriers.length : Int))) ((idx p0.carriers s1.1).bind fun x4 => ((app 16 ([] : List Str) x4.elems).bind fun x5 => ((app 40 s1.2 ([(Carrier.mk x4.name x5)])).bind fun x6 => rY n p0 k ((s1.1 + 1), x6)))) (some (.nx s1.2)))
def rX (n : Nat) (p0 : Env) : Nat → (Int × (List Decl)) → Option (LR (List Decl) ((List Carrier) × (List Decl)))
 | 0, _ => none
 | k + 1, s3 => (cond (decide (s3.1 < (p0.names.length : Int))) ((idx p0.names s3.1).bind fun x1 => ((eD n x1.ty).bind fun x2 => ((app 64 s3.2 ([(Decl.mk x1.name x2)])).bind fun x3 => rX n p0 k ((s3.1 + 1), x3)))) (some (.nx s3.2)))
def nI (n : Nat) (p0 : Env) : Option ((List Carrier) × (List Decl)) := ((rY n p0 n (0, ([] : List Carrier))).bind (LR.el (fun s2 => ((rX n p0 n (0, ([] : List Decl))).bind (LR.el (fun s4 => some (s2, s4)) (fun r => some r)))) (fun r => some r)))
def uR (n : Nat) (p0 : List Str) (p1 : List Str) : Nat → Int → Option (LR Unit Bool)
 | 0, _ => none
 | k + 1, s1 => (cond (decide (s1 < (p0.length : Int))) ((idx p0 s1).bind fun x1 => ((idx p1 s1).bind fun x2 => (cond (!(x1 == x2)) (some (.rt false)) (uR n p0 p1 k (s1 + 1))))) (some (.nx ())))
def wR (n : Nat) (p0 : List Str) (p1 : List Str) : Option Bool := (cond ((p0.length : Int) != (p1.length : Int)) (some false) ((uR n p0 p1 n 0).bind (LR.el (fun s2 => some true) (fun r => some r))))
def jL (n : Nat) (p0 : Carrier) (p1 : Carrier) : Option Bool := (((cond (p0.name == p1.name) ((wR n p0.elems p1.elems).bind fun x1 => some x1) (some false)) : Option Bool).bind fun s1 => some s1)
def sD (n : Nat) (p0 : Env) (p1 : Env) : Nat → Int → Option (LR Unit Bool)
 | 0, _ => none
 | k + 1, s2 => (cond (decide (s2 < (p0.carriers.length : Int))) ((idx p0.carriers s2).bind fun x6 => ((idx p1.carriers s2).bind fun x7 => ((jL n x6 x7).bind fun x8 => (cond (!x8) (some (.rt false)) (sD n p0 p1 k (s2 + 1)))))) (some (.nx ())))
def sw (n : Nat) (p0 : Env) (p1 : Env) : Nat → Int → Option (LR Unit Bool)
 | 0, _ => none
 | k + 1, s4 => (cond (decide (s4 < (p0.names.length : Int))) ((((idx p0.names s4).bind fun x1 => ((idx p1.names s4).bind fun x2 => (cond (!(x1.name == x2.name)) (some true) ((idx p0.names s4).bind fun x3 => ((idx p1.names s4).bind fun x4 => ((bg n x3.ty x4.ty).bind fun x5 => some (!x5))))))) : Option Bool).bind fun s6 => (cond s6 (some (.rt false)) (sw n p0 p1 k (s4 + 1)))) (some (.nx ())))
def rH (n : Nat) (p0 : Env) (p1 : Env) : Option Bool := (((cond ((p0.carriers.length : Int) != (p1.carriers.length : Int)) (some true) (some ((p0.names.length : Int) != (p1.names.length : Int)))) : Option Bool).bind fun s1 => (cond s1 (some false) ((sD n p0 p1 n 0).bind (LR.el (fun s3 => ((sw n p0 p1 n 0).bind (LR.el (fun s5 => some true) (fun r => some r)))) (fun r => some r)))))
structure S_refinementlaw02_Binding where
  env : Env
  body : Tm
  domain : Tm
  name : Str
structure S_api_Binding where
  name : Str
  term : Tm
structure S_refinementlaw02_Put where
  path : List Int
  term : Tm
structure S_refinementref01_token where
  kind : Int
  s : Str
  at_ : Int
structure S_api_World where
  env : Env
  sizes : List Int
  values : List Val
structure S_refinementlaw03_Typed where
  sizes : List Int
  v : Val
  t : Ty
structure S_api_Scope where
  sizes : List Int
  lo : Int
  hi : Int
def uh (n : Nat) (p0 : Env) : Option Bool := (((cond (decide ((p0.carriers.length : Int) ≤ 100)) (some (decide ((p0.names.length : Int) ≤ 100))) (some false)) : Option Bool).bind fun s1 => some s1)
def jG (n : Nat) (p0 : Env) (p1 : List Int) : Nat → Int → Option (LR Unit Bool)
 | 0, _ => none
 | k + 1, s1 => (cond (decide (s1 < (p0.carriers.length : Int))) ((idx p0.carriers s1).bind fun x1 => ((((idx p1 s1).bind fun x2 => (cond (decide (x2 < 1)) (some true) ((idx p1 s1).bind fun x3 => (cond (decide (8 < x3)) (some true) (cond (decide (0 < (x1.elems.length : Int))) ((idx p1 s1).bind fun x4 => some (x4 != (x1.elems.length : Int))) (some false)))))) : Option Bool).bind fun s3 => (cond s3 (some (.rt false)) (jG n p0 p1 k (s1 + 1))))) (some (.nx ())))
def mR (n : Nat) (p0 : Env) (p1 : List Int) : Option Bool := (cond ((p1.length : Int) != (p0.carriers.length : Int)) (some false) ((jG n p0 p1 n 0).bind (LR.el (fun s2 => some true) (fun r => some r))))
def Gv (n : Nat) (p0 : Carrier) (p1 : Str) : Option Bool := some (p0.name == p1)
def fH (n : Nat) (p0 : List Carrier) (p1 : Str) : Nat → Int → Option (LR Unit Int)
 | 0, _ => none
 | k + 1, s1 => (cond (decide (s1 < (p0.length : Int))) ((idx p0 s1).bind fun x1 => (cond (x1.name == p1) (some (.rt s1)) (fH n p0 p1 k (s1 + 1)))) (some (.nx ())))
def iX (n : Nat) (p0 : List Carrier) (p1 : Str) : Option Int := ((fH n p0 p1 n 0).bind (LR.el (fun s2 => some (-1)) (fun r => some r)))
def rJ (n : Nat) (p0 : Env) (p1 : Str) : Option Int := ((iX n p0.carriers p1).bind fun x1 => some x1)
def cmp_isNaN_int (n : Nat) (p0 : Int) : Option Bool := some (p0 != p0)
def cmp_Compare_int (n : Nat) (p0 : Int) (p1 : Int) : Option Int := (cond (p0 != p0) (cond (p1 != p1) (some 0) (some (-1))) (cond (p1 != p1) (some 1) (cond (decide (p0 < p1)) (some (-1)) (cond (decide (p1 < p0)) (some 1) (some 0)))))
def oJ (n : Nat) (p0 : List Int) : Nat → Int → Option (LR Unit Int)
 | 0, _ => none
 | k + 1, s1 => (cond (decide (s1 < (p0.length : Int))) ((idx p0 s1).bind fun x1 => (cond (x1 != 0) (some (.rt x1)) (oJ n p0 k (s1 + 1)))) (some (.nx ())))
def Aw (n : Nat) (p0 : List Int) : Option Int := ((oJ n p0 n 0).bind (LR.el (fun s2 => some 0) (fun r => some r)))
def dA (n : Nat) (qd1 : (List Val) → (List Val) → Option Int) (qdv : Val → Val → Option Int) (p0 : List Val) (p1 : List Val) : Nat → Int → Option (LR Unit Int)
 | 0, _ => none
 | k + 1, s1 => (cond (decide (s1 < (p0.length : Int))) ((idx p0 s1).bind fun x1 => (cond (decide ((p1.length : Int) ≤ s1)) (some (.rt 1)) ((idx p1 s1).bind fun x2 => ((qdv x1 x2).bind fun x3 => (cond (x3 != 0) (some (.rt x3)) (dA n qd1 qdv p0 p1 k (s1 + 1))))))) (some (.nx ())))
def fT (n : Nat) (qd1 : (List Val) → (List Val) → Option Int) (qdv : Val → Val → Option Int) (p0 : List Val) (p1 : List Val) : Option Int := ((dA n qd1 qdv p0 p1 n 0).bind (LR.el (fun s2 => (cond (decide ((p0.length : Int) < (p1.length : Int))) (some (-1)) (some 0))) (fun r => some r)))
def nu (n : Nat) (qd1 : (List Val) → (List Val) → Option Int) (qdv : Val → Val → Option Int) (p0 : Val) (p1 : Val) : Option Int := ((cmp_Compare_int n p0.kind p1.kind).bind fun x1 => ((cmp_Compare_int n p0.n p1.n).bind fun x2 => ((strings_Compare n p0.name p1.name).bind fun x3 => ((Aw n ([x1, x2, x3])).bind fun x4 => (cond (x4 != 0) (some x4) ((qd1 p0.kids p1.kids).bind fun x5 => some x5))))))
mutual
def dQ : Nat → (List Val) → (List Val) → Option Int
 | 0, _, _ => none
 | n + 1, p0, p1 => fT n (fun p0 p1 => dQ n p0 p1) (fun p0 p1 => dL n p0 p1) p0 p1
def dL : Nat → Val → Val → Option Int
 | 0, _, _ => none
 | n + 1, p0, p1 => nu n (fun p0 p1 => dQ n p0 p1) (fun p0 p1 => dL n p0 p1) p0 p1
end
def lU (n : Nat) (qdz : Env → (List Int) → Val → Ty → Option Bool) (qd0 : (List Ty) → Int → Int → Str → (List Val) → (List Carrier) → (List Decl) → (List Int) → Option Bool) (p2 : Val) : Nat → Int → Option (LR Unit Bool)
 | 0, _ => none
 | k + 1, s6 => (cond (decide (s6 < (p2.kids.length : Int))) ((idx p2.kids (IntKind.wrap .i64 (s6 - 1))).bind fun x4 => ((idx p2.kids s6).bind fun x5 => ((dL n x4 x5).bind fun x6 => (cond (decide (0 ≤ x6)) (some (.rt false)) (lU n qdz qd0 p2 k (s6 + 1)))))) (some (.nx ())))
def fE (n : Nat) (qdz : Env → (List Int) → Val → Ty → Option Bool) (qd0 : (List Ty) → Int → Int → Str → (List Val) → (List Carrier) → (List Decl) → (List Int) → Option Bool) (p0 : Env) (p1 : List Int) (p2 : Val) (p3 : Ty) : Option Bool := (cond (p3.kind == 1) (((cond (p2.kind == 1) (cond (decide ((-1000000000) ≤ p2.n)) (cond (decide (p2.n ≤ 1000000000)) (cond (p2.name == ([] : Str)) (some ((p2.kids.length : Int) == 0)) (some false)) (some false)) (some false)) (some false)) : Option Bool).bind fun s1 => some s1) (cond (p3.kind == 2) (((cond (p2.kind == 2) (cond (p2.n == 0) (cond (p2.name == ([] : Str)) (some ((p2.kids.length : Int) == 0)) (some false)) (cond (p2.n == 1) (cond (p2.name == ([] : Str)) (some ((p2.kids.length : Int) == 0)) (some false)) (some false))) (some false)) : Option Bool).bind fun s2 => some s2) (cond (p3.kind == 3) ((rJ n p0 p3.name).bind fun x1 => (((cond (decide (0 ≤ x1)) (cond (p2.kind == 3) (cond (p2.name == p3.name) (cond (decide (0 ≤ p2.n)) ((idx p1 x1).bind fun x2 => (cond (decide (p2.n < x2)) (some ((p2.kids.length : Int) == 0)) (some false))) (some false)) (some false)) (some false)) (some false)) : Option Bool).bind fun s3 => some s3)) (cond (p3.kind == 4) (((cond (p2.kind == 4) (cond (p2.n == 0) (cond (p2.name == ([] : Str)) (cond ((p2.kids.length : Int) == 2) ((qd0 p3.kids p2.kind p2.n p2.name p2.kids p0.carriers p0.names p1).bind fun x3 => some x3) (some false)) (some false)) (some false)) (some false)) : Option Bool).bind fun s4 => some s4) (cond (p3.kind == 5) (((cond (p2.kind != 5) (some true) (cond (p2.n != 0) (some true) (cond (!(p2.name == ([] : Str))) (some true) (cond (decide (256 < (p2.kids.length : Int))) (some true) ((qd0 p3.kids p2.kind p2.n p2.name p2.kids p0.carriers p0.names p1).bind fun x7 => some (!x7)))))) : Option Bool).bind fun s5 => (cond s5 (some false) ((lU n qdz qd0 p2 n 1).bind (LR.el (fun s7 => some true) (fun r => some r))))) (some false))))))
def jr (n : Nat) (qdz : Env → (List Int) → Val → Ty → Option Bool) (qd0 : (List Ty) → Int → Int → Str → (List Val) → (List Carrier) → (List Decl) → (List Int) → Option Bool) (p0 : List Ty) (p4 : List Val) (p5 : List Carrier) (p6 : List Decl) (p7 : List Int) : Nat → Int → Option (LR Unit Bool)
 | 0, _ => none
 | k + 1, s1 => (cond (decide (s1 < (p4.length : Int))) ((idx p4 s1).bind fun x1 => ((idx p0 (if ((p0.length : Int) - 1) < s1 then ((p0.length : Int) - 1) else s1)).bind fun x2 => ((qdz (Env.mk p5 p6) p7 x1 x2).bind fun x3 => (cond (!x3) (some (.rt false)) (jr n qdz qd0 p0 p4 p5 p6 p7 k (s1 + 1)))))) (some (.nx ())))
def j4 (n : Nat) (qdz : Env → (List Int) → Val → Ty → Option Bool) (qd0 : (List Ty) → Int → Int → Str → (List Val) → (List Carrier) → (List Decl) → (List Int) → Option Bool) (p0 : List Ty) (p1 : Int) (p2 : Int) (p3 : Str) (p4 : List Val) (p5 : List Carrier) (p6 : List Decl) (p7 : List Int) : Option Bool := ((jr n qdz qd0 p0 p4 p5 p6 p7 n 0).bind (LR.el (fun s2 => some true) (fun r => some r)))
mutual
def fB : Nat → Env → (List Int) → Val → Ty → Option Bool
 | 0, _, _, _, _ => none
 | n + 1, p0, p1, p2, p3 => fE n (fun p0 p1 p2 p3 => fB n p0 p1 p2 p3) (fun p0 p1 p2 p3 p4 p5 p6 p7 => ko n p0 p1 p2 p3 p4 p5 p6 p7) p0 p1 p2 p3
def ko : Nat → (List Ty) → Int → Int → Str → (List Val) → (List Carrier) → (List Decl) → (List Int) → Option Bool
 | 0, _, _, _, _, _, _, _, _ => none
 | n + 1, p0, p1, p2, p3, p4, p5, p6, p7 => j4 n (fun p0 p1 p2 p3 => fB n p0 p1 p2 p3) (fun p0 p1 p2 p3 p4 p5 p6 p7 => ko n p0 p1 p2 p3 p4 p5 p6 p7) p0 p1 p2 p3 p4 p5 p6 p7
end
def rC (n : Nat) (p0 : Env) (p1 : List Int) : Nat → Int → Option (LR Unit Bool)
 | 0, _ => none
 | k + 1, s1 => (cond (decide (s1 < (p1.length : Int))) ((idx p0.carriers s1).bind fun x1 => ((((idx p1 s1).bind fun x2 => (cond (decide (x2 < 1)) (some true) ((idx p1 s1).bind fun x3 => (cond (decide (8 < x3)) (some true) (cond (decide (0 < (x1.elems.length : Int))) ((idx p1 s1).bind fun x4 => some (x4 != (x1.elems.length : Int))) (some false)))))) : Option Bool).bind fun s3 => (cond s3 (some (.rt false)) (rC n p0 p1 k (s1 + 1))))) (some (.nx ())))
def za (n : Nat) (p0 : Env) (p1 : List Int) : Option Bool := (cond ((p1.length : Int) != (p0.carriers.length : Int)) (some false) ((rC n p0 p1 n 0).bind (LR.el (fun s2 => some true) (fun r => some r))))
def wS (n : Nat) (p0 : Int) (p1 : Int) : Option Int := (cond (decide (p0 < p1)) (some (-1)) (cond (decide (p1 < p0)) (some 1) (some 0)))
def kR (n : Nat) (qdn : Val → Val → Option Int) (p0 : Val) (p1 : Val) : Nat → Int → Option (LR Unit Int)
 | 0, _ => none
 | k + 1, s1 => (((cond (decide (s1 < (p0.kids.length : Int))) (some (decide (s1 < (p1.kids.length : Int)))) (some false)) : Option Bool).bind fun s3 => (cond s3 ((idx p0.kids s1).bind fun x4 => ((idx p1.kids s1).bind fun x5 => ((qdn x4 x5).bind fun x6 => (cond (x6 != 0) (some (.rt x6)) (kR n qdn p0 p1 k (IntKind.wrap .i64 (s1 + 1))))))) (some (.nx ()))))
def oU (n : Nat) (qdn : Val → Val → Option Int) (p0 : Val) (p1 : Val) : Option Int := (cond (p0.kind != p1.kind) ((wS n p0.kind p1.kind).bind fun x1 => some x1) (cond (p0.n != p1.n) ((wS n p0.n p1.n).bind fun x2 => some x2) (cond (Op.bytesLess p0.name p1.name) (some (-1)) (cond (!(Op.bytesLess p0.name p1.name || p0.name == p1.name)) (some 1) ((kR n qdn p0 p1 n 0).bind (LR.el (fun s2 => ((wS n (p0.kids.length : Int) (p1.kids.length : Int)).bind fun x3 => some x3)) (fun r => some r)))))))
def fU : Nat → Val → Val → Option Int
 | 0, _, _ => none
 | n + 1, p0, p1 => oU n (fun p0 p1 => fU n p0 p1) p0 p1
def kU (n : Nat) (qdu : Env → (List Int) → Val → Ty → Option Bool) (p0 : Env) (p1 : List Int) (p2 : Val) (p3 : Ty) : Nat → Int → Option (LR Unit Bool)
 | 0, _ => none
 | k + 1, s6 => (cond (decide (s6 < (p2.kids.length : Int))) ((((idx p2.kids s6).bind fun x9 => ((idx p3.kids 0).bind fun x10 => ((qdu p0 p1 x9 x10).bind fun x11 => (cond (!x11) (some true) (cond (decide (0 < s6)) ((idx p2.kids (s6 - 1)).bind fun x12 => ((idx p2.kids s6).bind fun x13 => ((fU n x12 x13).bind fun x14 => some (decide (0 ≤ x14))))) (some false)))))) : Option Bool).bind fun s8 => (cond s8 (some (.rt false)) (kU n qdu p0 p1 p2 p3 k (s6 + 1)))) (some (.nx ())))
def ig (n : Nat) (qdu : Env → (List Int) → Val → Ty → Option Bool) (p0 : Env) (p1 : List Int) (p2 : Val) (p3 : Ty) : Option Bool := (cond (p3.kind == 1) (((cond (p2.kind == 1) (cond (p2.name == ([] : Str)) (cond ((p2.kids.length : Int) == 0) (cond (decide ((-1000000000) ≤ p2.n)) (some (decide (p2.n ≤ 1000000000))) (some false)) (some false)) (some false)) (some false)) : Option Bool).bind fun s1 => some s1) (cond (p3.kind == 2) (((cond (p2.kind == 2) (cond (p2.name == ([] : Str)) (cond ((p2.kids.length : Int) == 0) (cond (p2.n == 0) (some true) (some (p2.n == 1))) (some false)) (some false)) (some false)) : Option Bool).bind fun s2 => some s2) (cond (p3.kind == 3) (((cond (p2.kind == 3) (cond (p2.name == p3.name) (cond ((p2.kids.length : Int) == 0) (cond (decide (0 ≤ p2.n)) ((fD n p0 p3.name).bind fun x1 => ((idx p1 x1).bind fun x2 => some (decide (p2.n < x2)))) (some false)) (some false)) (some false)) (some false)) : Option Bool).bind fun s3 => some s3) (cond (p3.kind == 4) (((cond (p2.kind == 4) (cond (p2.n == 0) (cond (p2.name == ([] : Str)) (cond ((p2.kids.length : Int) == 2) ((idx p2.kids 0).bind fun x3 => ((idx p3.kids 0).bind fun x4 => ((qdu p0 p1 x3 x4).bind fun x5 => (cond x5 ((idx p2.kids 1).bind fun x6 => ((idx p3.kids 1).bind fun x7 => ((qdu p0 p1 x6 x7).bind fun x8 => some x8))) (some false))))) (some false)) (some false)) (some false)) (some false)) : Option Bool).bind fun s4 => some s4) (((cond (p2.kind != 5) (some true) (cond (p2.n != 0) (some true) (cond (!(p2.name == ([] : Str))) (some true) (some (decide (256 < (p2.kids.length : Int))))))) : Option Bool).bind fun s5 => (cond s5 (some false) ((kU n qdu p0 p1 p2 p3 n 0).bind (LR.el (fun s7 => some true) (fun r => some r)))))))))
def lu : Nat → Env → (List Int) → Val → Ty → Option Bool
 | 0, _, _, _, _ => none
 | n + 1, p0, p1, p2, p3 => ig n (fun p0 p1 p2 p3 => lu n p0 p1 p2 p3) p0 p1 p2 p3
def l8 (n : Nat) (p0 : S_api_World) : Nat → Int → Option (LR Unit Bool)
 | 0, _ => none
 | k + 1, s2 => (cond (decide (s2 < (p0.env.names.length : Int))) ((idx p0.env.names s2).bind fun x1 => ((idx p0.values s2).bind fun x2 => ((fB n p0.env p0.sizes x2 x1.ty).bind fun x3 => (cond (!x3) (some (.rt false)) (l8 n p0 k (s2 + 1)))))) (some (.nx ())))
def je (n : Nat) (p0 : S_api_World) : Option Bool := ((((dF n p0.env).bind fun x4 => (cond (!x4) (some true) ((mR n p0.env p0.sizes).bind fun x5 => (cond (!x5) (some true) (some ((p0.values.length : Int) != (p0.env.names.length : Int))))))) : Option Bool).bind fun s1 => (cond s1 (some false) ((l8 n p0 n 0).bind (LR.el (fun s3 => some true) (fun r => some r)))))
def lJ (n : Nat) (p0 : S_api_World) : Nat → Int → Option (LR Unit Bool)
 | 0, _ => none
 | k + 1, s2 => (cond (decide (s2 < (p0.values.length : Int))) ((idx p0.values s2).bind fun x1 => ((idx p0.env.names s2).bind fun x2 => ((lu n p0.env p0.sizes x1 x2.ty).bind fun x3 => (cond (!x3) (some (.rt false)) (lJ n p0 k (s2 + 1)))))) (some (.nx ())))
def fV (n : Nat) (p0 : S_api_World) : Option Bool := ((((fK n p0.env).bind fun x4 => (cond (!x4) (some true) ((za n p0.env p0.sizes).bind fun x5 => (cond (!x5) (some true) (some ((p0.values.length : Int) != (p0.env.names.length : Int))))))) : Option Bool).bind fun s1 => (cond s1 (some false) ((lJ n p0 n 0).bind (LR.el (fun s3 => some true) (fun r => some r)))))
end Abs
end Go.Proofs.YtkopaeklihhdlaaGreat
