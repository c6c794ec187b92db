/-
  The plain functions of the program (printed by gen.py). Conditions: none.
-/
import Derived.Test.YtkopaeklihhdlaaGreatCAbs38oxf333e6
set_option linter.unusedSimpArgs false
set_option linter.unusedVariables false
namespace Go.Proofs.YtkopaeklihhdlaaGreat
namespace Abs
open Go Go.Proofs
set_option maxRecDepth 100000
set_option maxHeartbeats 40000000
def q9 (n : Nat) (p0 : Int) : Option Bool := (((cond (decide (97 ≤ p0)) (cond (decide (p0 ≤ 122)) (some true) (cond (decide (65 ≤ p0)) (some (decide (p0 ≤ 90))) (some false))) (cond (decide (65 ≤ p0)) (some (decide (p0 ≤ 90))) (some false))) : Option Bool).bind fun s1 => some s1)
def rR (n : Nat) (p0 : Str) : Option Bool := (((cond (p0 == ([116, 114, 117, 101] : Str)) (some (p0 == ([116, 114, 117, 101] : Str))) (cond (p0 == ([102, 97, 108, 115, 101] : Str)) (some (p0 == ([102, 97, 108, 115, 101] : Str))) (cond (p0 == ([110, 111, 116] : Str)) (some (p0 == ([110, 111, 116] : Str))) (cond (p0 == ([111, 114] : Str)) (some (p0 == ([111, 114] : Str))) (cond (p0 == ([102, 111, 114, 97, 108, 108] : Str)) (some (p0 == ([102, 111, 114, 97, 108, 108] : Str))) (cond (p0 == ([101, 120, 105, 115, 116, 115] : Str)) (some (p0 == ([101, 120, 105, 115, 116, 115] : Str))) (cond (p0 == ([105, 110] : Str)) (some (p0 == ([105, 110] : Str))) (cond (p0 == ([110, 111, 116, 105, 110] : Str)) (some (p0 == ([110, 111, 116, 105, 110] : Str))) (cond (p0 == ([115, 117, 98] : Str)) (some (p0 == ([115, 117, 98] : Str))) (cond (p0 == ([109, 111, 100] : Str)) (some (p0 == ([109, 111, 100] : Str))) (cond (p0 == ([102, 117, 110] : Str)) (some (p0 == ([102, 117, 110] : Str))) (cond (p0 == ([99, 97, 114, 100] : Str)) (some (p0 == ([99, 97, 114, 100] : Str))) (cond (p0 == ([109, 105, 110] : Str)) (some (p0 == ([109, 105, 110] : Str))) (cond (p0 == ([109, 97, 120] : Str)) (some (p0 == ([109, 97, 120] : Str))) (cond (p0 == ([100, 111, 109] : Str)) (some (p0 == ([100, 111, 109] : Str))) (cond (p0 == ([114, 97, 110] : Str)) (some (p0 == ([114, 97, 110] : Str))) (cond (p0 == ([80, 79, 87] : Str)) (some (p0 == ([80, 79, 87] : Str))) (cond (p0 == ([105, 110, 116] : Str)) (some (p0 == ([105, 110, 116] : Str))) (cond (p0 == ([98, 111, 111, 108] : Str)) (some (p0 == ([98, 111, 111, 108] : Str))) (cond (p0 == ([115, 101, 116] : Str)) (some (p0 == ([115, 101, 116] : Str))) (some (p0 == ([112, 97, 105, 114] : Str))))))))))))))))))))))) : Option Bool).bind fun s1 => (cond s1 (some true) (some false)))
def wN (n : Nat) (p0 : Int) : Option Bool := (((cond (decide (48 ≤ p0)) (some (decide (p0 ≤ 57))) (some false)) : Option Bool).bind fun s1 => some s1)
def uS (n : Nat) (p0 : Int) : Option Bool := ((((q9 n p0).bind fun x1 => (cond x1 (some true) ((wN n p0).bind fun x2 => (cond x2 (some true) (some (p0 == 95)))))) : Option Bool).bind fun s1 => some s1)
def jC (n : Nat) (p0 : Str) : Nat → Int → Option (LR Unit Bool)
 | 0, _ => none
 | k + 1, s2 => (cond (decide (s2 < (p0.length : Int))) ((iJ p0 s2).bind fun x1 => ((uS n x1).bind fun x2 => (cond (!x2) (some (.rt false)) (jC n p0 k (s2 + 1))))) (some (.nx ())))
def dP (n : Nat) (p0 : Str) : Option Bool := (((cond (p0 == ([] : Str)) (some true) (cond (decide (16 < (p0.length : Int))) (some true) ((iJ p0 0).bind fun x3 => ((q9 n x3).bind fun x4 => (cond (!x4) (some true) ((rR n p0).bind fun x5 => some x5)))))) : Option Bool).bind fun s1 => (cond s1 (some false) ((jC n p0 n 0).bind (LR.el (fun s3 => some true) (fun r => some r)))))
def iw (n : Nat) (p0 : Str) (p1 : Str) : Option Bool := (((cond (decide ((p1.length : Int) ≤ (p0.length : Int))) ((fH p0 (IntKind.wrap .i64 ((p0.length : Int) - (p1.length : Int))) (p0.length : Int)).bind fun x1 => some (x1 == p1)) (some false)) : Option Bool).bind fun s1 => some s1)
def gN (n : Nat) (p0 : Str) (p1 : Str) : Option Str := ((iw n p0 p1).bind fun x1 => (cond x1 ((fH p0 0 (IntKind.wrap .i64 ((p0.length : Int) - (p1.length : Int)))).bind fun x2 => some x2) (some p0)))
def strings_TrimSuffix (n : Nat) (p0 : Str) (p1 : Str) : Option Str := ((gN n p0 p1).bind fun x1 => some x1)
def jR (n : Nat) (p0 : Str) : Option Bool := ((strings_TrimSuffix n p0 ([39] : Str)).bind fun x1 => ((dP n x1).bind fun x2 => some x2))
def jF (n : Nat) (p0 : Int) (p1 : Int) (p2 : Int) (p3 : Int) : Option (Bool × Int) := (((cond (decide ((IntKind.wrap .i64 (p0 + 1)) ≤ p1)) (some (decide (p3 ≤ p2))) (some false)) : Option Bool).bind fun s1 => some (s1, (IntKind.wrap .i64 (p0 + 1))))
def iE (n : Nat) (qdy : (List Ty) → Int → Int → Int → Int → Option (Int × Int)) (qdu : (List Ty) → Int → Int → Int → Int → Option (Bool × Int)) (qd2 : Int → Int → Int → Ty → Int → Bool → Option (Bool × Int)) (qd3 : Ty → Int → Int → Int → Int → Option (Bool × Int)) (p0 : List Ty) (p2 : Int) (p3 : Int) (p4 : Int) : Nat → (Int × Int) → Option (LR Int (Int × Int))
 | 0, _ => none
 | k + 1, s1 => (cond (decide (s1.1 < (p0.length : Int))) ((idx p0 s1.1).bind fun x1 => ((qd3 x1 s1.2 p2 p3 p4).bind fun x2 => (cond x2.1 (some (.rt (s1.1, x2.2))) (iE n qdy qdu qd2 qd3 p0 p2 p3 p4 k ((s1.1 + 1), x2.2))))) (some (.nx s1.2)))
def dV (n : Nat) (qdy : (List Ty) → Int → Int → Int → Int → Option (Int × Int)) (qdu : (List Ty) → Int → Int → Int → Int → Option (Bool × Int)) (qd2 : Int → Int → Int → Ty → Int → Bool → Option (Bool × Int)) (qd3 : Ty → Int → Int → Int → Int → Option (Bool × Int)) (p0 : List Ty) (p1 : Int) (p2 : Int) (p3 : Int) (p4 : Int) : Option (Int × Int) := ((iE n qdy qdu qd2 qd3 p0 p2 p3 p4 n (0, p1)).bind (LR.el (fun s2 => some ((-1), s2)) (fun r => some r)))
def fK (n : Nat) (qdy : (List Ty) → Int → Int → Int → Int → Option (Int × Int)) (qdu : (List Ty) → Int → Int → Int → Int → Option (Bool × Int)) (qd2 : Int → Int → Int → Ty → Int → Bool → Option (Bool × Int)) (qd3 : Ty → Int → Int → Int → Int → Option (Bool × Int)) (p0 : List Ty) (p1 : Int) (p2 : Int) (p3 : Int) (p4 : Int) : Option (Bool × Int) := ((qdy p0 p1 p2 p3 p4).bind fun x1 => some ((decide (0 ≤ x1.1)), x1.2))
def gI (n : Nat) (qdy : (List Ty) → Int → Int → Int → Int → Option (Int × Int)) (qdu : (List Ty) → Int → Int → Int → Int → Option (Bool × Int)) (qd2 : Int → Int → Int → Ty → Int → Bool → Option (Bool × Int)) (qd3 : Ty → Int → Int → Int → Int → Option (Bool × Int)) (p0 : Int) (p1 : Int) (p2 : Int) (p3 : Ty) (p4 : Int) (p5 : Bool) : Option (Bool × Int) := ((jF n p0 p1 p2 p4).bind fun x1 => (cond (!x1.1) (some (false, x1.2)) (((cond (p3.kind == 1) (some (.nx 0)) (cond (p3.kind == 2) (cond p5 (some (.rt (false, x1.2))) (some (.nx 0))) (cond (p3.kind == 3) ((dP n p3.name).bind fun x3 => (cond (!x3) (some (.rt (false, x1.2))) (some (.nx 0)))) (cond (p3.kind == 4) (some (.nx 2)) (cond (p3.kind == 5) (some (.nx 1)) (some (.rt (false, x1.2)))))))) : Option (LR Int (Bool × Int))).bind (LR.el (fun s1 => (((cond ((p3.kids.length : Int) != s1) (some true) (cond (p3.kind != 3) (some (!(p3.name == ([] : Str)))) (some false))) : Option Bool).bind fun s2 => (cond s2 (some (false, x1.2)) ((qdu p3.kids x1.2 p1 p2 p4).bind fun x2 => some ((!x2.1), x2.2))))) (fun r => some r)))))
def fV (n : Nat) (qdy : (List Ty) → Int → Int → Int → Int → Option (Int × Int)) (qdu : (List Ty) → Int → Int → Int → Int → Option (Bool × Int)) (qd2 : Int → Int → Int → Ty → Int → Bool → Option (Bool × Int)) (qd3 : Ty → Int → Int → Int → Int → Option (Bool × Int)) (p0 : Ty) (p1 : Int) (p2 : Int) (p3 : Int) (p4 : Int) : Option (Bool × Int) := ((qd2 p1 p2 p3 p0 (IntKind.wrap .i64 (p4 + 1)) true).bind fun x1 => some ((!x1.1), x1.2))
mutual
def dS : Nat → (List Ty) → Int → Int → Int → Int → Option (Int × Int)
 | 0, _, _, _, _, _ => none
 | n + 1, p0, p1, p2, p3, p4 => dV n (fun p0 p1 p2 p3 p4 => dS n p0 p1 p2 p3 p4) (fun p0 p1 p2 p3 p4 => bL n p0 p1 p2 p3 p4) (fun p0 p1 p2 p3 p4 p5 => cZ n p0 p1 p2 p3 p4 p5) (fun p0 p1 p2 p3 p4 => bT n p0 p1 p2 p3 p4) p0 p1 p2 p3 p4
def bL : Nat → (List Ty) → Int → Int → Int → Int → Option (Bool × Int)
 | 0, _, _, _, _, _ => none
 | n + 1, p0, p1, p2, p3, p4 => fK n (fun p0 p1 p2 p3 p4 => dS n p0 p1 p2 p3 p4) (fun p0 p1 p2 p3 p4 => bL n p0 p1 p2 p3 p4) (fun p0 p1 p2 p3 p4 p5 => cZ n p0 p1 p2 p3 p4 p5) (fun p0 p1 p2 p3 p4 => bT n p0 p1 p2 p3 p4) p0 p1 p2 p3 p4
def cZ : Nat → Int → Int → Int → Ty → Int → Bool → Option (Bool × Int)
 | 0, _, _, _, _, _, _ => none
 | n + 1, p0, p1, p2, p3, p4, p5 => gI n (fun p0 p1 p2 p3 p4 => dS n p0 p1 p2 p3 p4) (fun p0 p1 p2 p3 p4 => bL n p0 p1 p2 p3 p4) (fun p0 p1 p2 p3 p4 p5 => cZ n p0 p1 p2 p3 p4 p5) (fun p0 p1 p2 p3 p4 => bT n p0 p1 p2 p3 p4) p0 p1 p2 p3 p4 p5
def bT : Nat → Ty → Int → Int → Int → Int → Option (Bool × Int)
 | 0, _, _, _, _, _ => none
 | n + 1, p0, p1, p2, p3, p4 => fV n (fun p0 p1 p2 p3 p4 => dS n p0 p1 p2 p3 p4) (fun p0 p1 p2 p3 p4 => bL n p0 p1 p2 p3 p4) (fun p0 p1 p2 p3 p4 p5 => cZ n p0 p1 p2 p3 p4 p5) (fun p0 p1 p2 p3 p4 => bT n p0 p1 p2 p3 p4) p0 p1 p2 p3 p4
end
def fT (n : Nat) (p0 : Ty) : Option Bool := ((cZ n 0 16 6 p0 1 false).bind fun x1 => some x1.1)
def gH (n : Nat) (qdz : (List Ty) → Int → Option Int) (qdv : (List Ty) → Int → Option Bool) (qd7 : Ty → Int → Option Bool) (qd8 : Ty → Int → Option Bool) (p0 : List Ty) (p1 : Int) : Nat → Int → Option (LR Unit Int)
 | 0, _ => none
 | k + 1, s1 => (cond (decide (s1 < (p0.length : Int))) ((idx p0 s1).bind fun x1 => ((qd8 x1 p1).bind fun x2 => (cond x2 (some (.rt s1)) (gH n qdz qdv qd7 qd8 p0 p1 k (s1 + 1))))) (some (.nx ())))
def fU (n : Nat) (qdz : (List Ty) → Int → Option Int) (qdv : (List Ty) → Int → Option Bool) (qd7 : Ty → Int → Option Bool) (qd8 : Ty → Int → Option Bool) (p0 : List Ty) (p1 : Int) : Option Int := ((gH n qdz qdv qd7 qd8 p0 p1 n 0).bind (LR.el (fun s2 => some (-1)) (fun r => some r)))
def eY (n : Nat) (qdz : (List Ty) → Int → Option Int) (qdv : (List Ty) → Int → Option Bool) (qd7 : Ty → Int → Option Bool) (qd8 : Ty → Int → Option Bool) (p0 : List Ty) (p1 : Int) : Option Bool := ((qdz p0 p1).bind fun x1 => some (decide (0 ≤ x1)))
def jN (n : Nat) (qdz : (List Ty) → Int → Option Int) (qdv : (List Ty) → Int → Option Bool) (qd7 : Ty → Int → Option Bool) (qd8 : Ty → Int → Option Bool) (p0 : Ty) (p1 : Int) : Option Bool := (((cond (p0.kind == p1) (some true) ((qdv p0.kids p1).bind fun x1 => some x1)) : Option Bool).bind fun s1 => some s1)
def je (n : Nat) (qdz : (List Ty) → Int → Option Int) (qdv : (List Ty) → Int → Option Bool) (qd7 : Ty → Int → Option Bool) (qd8 : Ty → Int → Option Bool) (p0 : Ty) (p1 : Int) : Option Bool := ((qd7 p0 p1).bind fun x1 => some x1)
mutual
def dW : Nat → (List Ty) → Int → Option Int
 | 0, _, _ => none
 | n + 1, p0, p1 => fU n (fun p0 p1 => dW n p0 p1) (fun p0 p1 => cK n p0 p1) (fun p0 p1 => fG n p0 p1) (fun p0 p1 => eU n p0 p1) p0 p1
def cK : Nat → (List Ty) → Int → Option Bool
 | 0, _, _ => none
 | n + 1, p0, p1 => eY n (fun p0 p1 => dW n p0 p1) (fun p0 p1 => cK n p0 p1) (fun p0 p1 => fG n p0 p1) (fun p0 p1 => eU n p0 p1) p0 p1
def fG : Nat → Ty → Int → Option Bool
 | 0, _, _ => none
 | n + 1, p0, p1 => jN n (fun p0 p1 => dW n p0 p1) (fun p0 p1 => cK n p0 p1) (fun p0 p1 => fG n p0 p1) (fun p0 p1 => eU n p0 p1) p0 p1
def eU : Nat → Ty → Int → Option Bool
 | 0, _, _ => none
 | n + 1, p0, p1 => je n (fun p0 p1 => dW n p0 p1) (fun p0 p1 => cK n p0 p1) (fun p0 p1 => fG n p0 p1) (fun p0 p1 => eU n p0 p1) p0 p1
end
def gW (n : Nat) (p0 : Ty) : Option Bool := ((((fT n p0).bind fun x1 => (cond x1 ((fG n p0 2).bind fun x2 => some (!x2)) (some false))) : Option Bool).bind fun s1 => some s1)
def ku (n : Nat) (qd6 : Ty → (List (Str × Bool)) → Option (List (Str × Bool))) (p0 : Ty) : Nat → (Int × (List (Str × Bool))) → Option (LR (List (Str × Bool)) (List (Str × Bool)))
 | 0, _ => none
 | k + 1, s2 => (cond (decide (s2.1 < (p0.kids.length : Int))) ((idx p0.kids s2.1).bind fun x1 => ((qd6 x1 s2.2).bind fun x2 => ku n qd6 p0 k ((s2.1 + 1), x2))) (some (.nx s2.2)))
def kT (n : Nat) (qd6 : Ty → (List (Str × Bool)) → Option (List (Str × Bool))) (p0 : Ty) (p1 : List (Str × Bool)) : Option (List (Str × Bool)) := (((cond (p0.kind == 3) ((um p1 p0.name true).bind fun x3 => some x3) (some p1)) : Option (List (Str × Bool))).bind fun s1 => ((ku n qd6 p0 n (0, s1)).bind (LR.el (fun s3 => some s3) (fun r => some r))))
def gQ : Nat → Ty → (List (Str × Bool)) → Option (List (Str × Bool))
 | 0, _, _ => none
 | n + 1, p0, p1 => kT n (fun p0 p1 => gQ n p0 p1) p0 p1
def iU (n : Nat) (p0 : Ty) : Option (List Str) := ((fT n p0).bind fun x1 => (cond (!x1) (some ([] : List Str)) ((gQ n p0 ([] : List (Str × Bool))).bind fun x2 => ((mX n x2).bind fun x3 => some x3))))
def xq (n : Nat) (p0 : Carrier) (p1 : Str) : Option Bool := some (p0.name == p1)
def gD (n : Nat) (p0 : List Carrier) (p1 : Str) : Nat → Int → Option (LR Unit Int)
 | 0, _ => none
 | k + 1, s1 => (cond (decide (s1 < (p0.length : Int))) ((idx p0 s1).bind fun x1 => (cond (x1.name == p1) (some (.rt s1)) (gD n p0 p1 k (s1 + 1)))) (some (.nx ())))
def j4 (n : Nat) (p0 : List Carrier) (p1 : Str) : Option Int := ((gD n p0 p1 n 0).bind (LR.el (fun s2 => some (-1)) (fun r => some r)))
def iR (n : Nat) (p0 : List Carrier) (p1 : Str) : Option Bool := ((j4 n p0 p1).bind fun x1 => some (decide (0 ≤ x1)))
def mF (n : Nat) (p0 : Env) (p1 : Str) : Option Bool := ((iR n p0.carriers p1).bind fun x1 => some x1)
def mD (n : Nat) (p0 : Str) (p1 : List Carrier) (p2 : List Decl) : Option Bool := ((mF n (Env.mk p1 p2) p0).bind fun x1 => some (!x1))
def gG (n : Nat) (p0 : List Str) (p1 : List Carrier) (p2 : List Decl) : Nat → Int → Option (LR Unit Int)
 | 0, _ => none
 | k + 1, s1 => (cond (decide (s1 < (p0.length : Int))) ((idx p0 s1).bind fun x1 => ((mD n x1 p1 p2).bind fun x2 => (cond x2 (some (.rt s1)) (gG n p0 p1 p2 k (s1 + 1))))) (some (.nx ())))
def kP (n : Nat) (p0 : List Str) (p1 : List Carrier) (p2 : List Decl) : Option Int := ((gG n p0 p1 p2 n 0).bind (LR.el (fun s2 => some (-1)) (fun r => some r)))
def jf (n : Nat) (p0 : List Str) (p1 : List Carrier) (p2 : List Decl) : Option Bool := ((kP n p0 p1 p2).bind fun x1 => some (decide (0 ≤ x1)))
def iY (n : Nat) (p0 : Env) (p1 : Ty) : Option Bool := ((iU n p1).bind fun x1 => ((jf n x1 p0.carriers p0.names).bind fun x2 => some (!x2)))
def lJ (n : Nat) (p0 : Env) : Nat → ((List Str) × Int) → Option (LR (List Str) (List Str))
 | 0, _ => none
 | k + 1, s1 => (cond (decide (s1.2 < (p0.carriers.length : Int))) ((idx p0.carriers s1.2).bind fun x3 => ((app 16 s1.1 ([x3.name])).bind fun x4 => ((app 16 x4 x3.elems).bind fun x5 => lJ n p0 k (x5, (s1.2 + 1))))) (some (.nx s1.1)))
def lS (n : Nat) (p0 : Env) : Nat → ((List Str) × Int) → Option (LR (List Str) (List Str))
 | 0, _ => none
 | k + 1, s3 => (cond (decide (s3.2 < (p0.names.length : Int))) ((idx p0.names s3.2).bind fun x1 => ((app 16 s3.1 ([x1.name])).bind fun x2 => lS n p0 k (x2, (s3.2 + 1)))) (some (.nx s3.1)))
def jW (n : Nat) (p0 : Env) : Option (List Str) := ((lJ n p0 n (([] : List Str), 0)).bind (LR.el (fun s2 => ((lS n p0 n (s2, 0)).bind (LR.el (fun s4 => some s4) (fun r => some r)))) (fun r => some r)))
def lI (n : Nat) (p0 : List Str) : Nat → (Int × (List (Str × Bool))) → Option (LR Unit Bool)
 | 0, _ => none
 | k + 1, s1 => (cond (decide (s1.1 < (p0.length : Int))) ((idx p0 s1.1).bind fun x1 => (((OY (dO s1.2 x1) (some false) (fun x3 => some x3)) : Option Bool).bind fun s3 => (cond s3 (some (.rt false)) ((um s1.2 x1 true).bind fun x2 => lI n p0 k ((s1.1 + 1), x2))))) (some (.nx ())))
def l6 (n : Nat) (p0 : List Str) : Option Bool := ((lI n p0 n (0, ([] : List (Str × Bool)))).bind (LR.el (fun s2 => some true) (fun r => some r)))
def iF (n : Nat) (x7 : Carrier) : Nat → Int → Option (LR Unit Bool)
 | 0, _ => none
 | k + 1, s8 => (cond (decide (s8 < (x7.elems.length : Int))) ((idx x7.elems s8).bind fun x8 => ((dP n x8).bind fun x9 => (cond (!x9) (some (.rt false)) (iF n x7 k (s8 + 1))))) (some (.nx ())))
def lU (n : Nat) (p0 : Env) : Nat → Int → Option (LR Unit Bool)
 | 0, _ => none
 | k + 1, s2 => (cond (decide (s2 < (p0.carriers.length : Int))) ((idx p0.carriers s2).bind fun x7 => ((((dP n x7.name).bind fun x10 => (cond (!x10) (some true) (some (decide (8 < (x7.elems.length : Int)))))) : Option Bool).bind fun s7 => (cond s7 (some (.rt false)) ((iF n x7 n 0).bind (LR.el (fun s9 => lU n p0 k (s2 + 1)) (fun r => some (.rt r))))))) (some (.nx ())))
def lM (n : Nat) (p0 : Env) : Nat → Int → Option (LR Unit Bool)
 | 0, _ => none
 | k + 1, s4 => (cond (decide (s4 < (p0.names.length : Int))) ((idx p0.names s4).bind fun x3 => ((((jR n x3.name).bind fun x4 => (cond (!x4) (some true) ((gW n x3.ty).bind fun x5 => (cond (!x5) (some true) ((iY n p0 x3.ty).bind fun x6 => some (!x6)))))) : Option Bool).bind fun s6 => (cond s6 (some (.rt false)) (lM n p0 k (s4 + 1))))) (some (.nx ())))
def dz (n : Nat) (p0 : Env) : Option Bool := (((cond (decide (8 < (p0.carriers.length : Int))) (some true) (some (decide (64 < (p0.names.length : Int))))) : Option Bool).bind fun s1 => (cond s1 (some false) ((lU n p0 n 0).bind (LR.el (fun s3 => ((lM n p0 n 0).bind (LR.el (fun s5 => ((jW n p0).bind fun x1 => ((l6 n x1).bind fun x2 => some x2))) (fun r => some r)))) (fun r => some r)))))
def ni (n : Nat) (p0 : Int) : Option Bool := (((cond (decide (97 ≤ p0)) (cond (decide (p0 ≤ 122)) (some true) (cond (decide (65 ≤ p0)) (some (decide (p0 ≤ 90))) (some false))) (cond (decide (65 ≤ p0)) (some (decide (p0 ≤ 90))) (some false))) : Option Bool).bind fun s1 => some s1)
def Ak (n : Nat) (p0 : Str) (p1 : List Str) : Nat → Int → Option (LR Unit Bool)
 | 0, _ => none
 | k + 1, s1 => (cond (decide (s1 < (p1.length : Int))) ((idx p1 s1).bind fun x1 => (cond (x1 == p0) (some (.rt true)) (Ak n p0 p1 k (s1 + 1)))) (some (.nx ())))
def kM (n : Nat) (p0 : Str) (p1 : List Str) : Option Bool := ((Ak n p0 p1 n 0).bind (LR.el (fun s2 => some false) (fun r => some r)))
def tJ (n : Nat) (p0 : Str) : Option Bool := ((kM n p0 ([([116, 114, 117, 101] : Str), ([102, 97, 108, 115, 101] : Str), ([110, 111, 116] : Str), ([111, 114] : Str), ([102, 111, 114, 97, 108, 108] : Str), ([101, 120, 105, 115, 116, 115] : Str), ([105, 110] : Str), ([110, 111, 116, 105, 110] : Str), ([115, 117, 98] : Str), ([109, 111, 100] : Str), ([102, 117, 110] : Str), ([99, 97, 114, 100] : Str), ([109, 105, 110] : Str), ([109, 97, 120] : Str), ([100, 111, 109] : Str), ([114, 97, 110] : Str), ([80, 79, 87] : Str), ([105, 110, 116] : Str), ([98, 111, 111, 108] : Str), ([115, 101, 116] : Str), ([112, 97, 105, 114] : Str)])).bind fun x1 => some x1)
def oN (n : Nat) (p0 : Int) : Option Bool := (((cond (decide (48 ≤ p0)) (some (decide (p0 ≤ 57))) (some false)) : Option Bool).bind fun s1 => some s1)
def lu (n : Nat) (p0 : Str) : Nat → Int → Option (LR Unit Bool)
 | 0, _ => none
 | k + 1, s2 => (cond (decide (s2 < (p0.length : Int))) ((((iJ p0 s2).bind fun x1 => ((ni n x1).bind fun x2 => (cond (!x2) ((iJ p0 s2).bind fun x3 => ((oN n x3).bind fun x4 => (cond (!x4) ((iJ p0 s2).bind fun x5 => some (x5 != 95)) (some false)))) (some false)))) : Option Bool).bind fun s4 => (cond s4 (some (.rt false)) (lu n p0 k (s2 + 1)))) (some (.nx ())))
def dU (n : Nat) (p0 : Str) : Option Bool := (((cond (decide ((p0.length : Int) < 1)) (some true) (cond (decide (16 < (p0.length : Int))) (some true) ((iJ p0 0).bind fun x6 => ((ni n x6).bind fun x7 => (cond (!x7) (some true) ((tJ n p0).bind fun x8 => some x8)))))) : Option Bool).bind fun s1 => (cond s1 (some false) ((lu n p0 n 1).bind (LR.el (fun s3 => some true) (fun r => some r)))))
def oo (n : Nat) (p0 : Str) : Option Bool := (((cond (decide (1 < (p0.length : Int))) ((iJ p0 ((p0.length : Int) - 1)).bind fun x1 => (cond (x1 == 39) ((fH p0 0 ((p0.length : Int) - 1)).bind fun x2 => ((dU n x2).bind fun x3 => some x3)) (some false))) (some false)) : Option Bool).bind fun s1 => some s1)
def qI (n : Nat) (p0 : Str) : Option Bool := ((((dU n p0).bind fun x1 => (cond x1 (some true) ((oo n p0).bind fun x2 => some x2))) : Option Bool).bind fun s1 => some s1)
def oI (n : Nat) (qc0 : Ty → Int → Int → Option Int) (p0 : Ty) (p1 : Int) : Nat → (Int × Int) → Option (LR Int Int)
 | 0, _ => none
 | k + 1, s4 => (cond (decide (s4.2 < (p0.kids.length : Int))) ((idx p0.kids s4.2).bind fun x1 => ((qc0 x1 (IntKind.wrap .i64 (p1 + 1)) s4.1).bind fun x2 => (cond (decide (x2 < 0)) (some (.rt (-1))) (oI n qc0 p0 p1 k (x2, (s4.2 + 1)))))) (some (.nx s4.1)))
def qV (n : Nat) (qc0 : Ty → Int → Int → Option Int) (p0 : Ty) (p1 : Int) (p2 : Int) : Option Int := (((cond (decide (6 < p1)) (some true) (cond (decide (16 < (IntKind.wrap .i64 (p2 + 1)))) (some true) (cond (p0.kind == 2) (some (decide (1 < p1))) (some false)))) : Option Bool).bind fun s1 => (cond s1 (some (-1)) (((((cond (p0.kind == 1) (some (p0.kind == 1)) (cond (p0.kind == 2) (some (p0.kind == 2)) (some (p0.kind == 3)))) : Option Bool).bind fun s6 => (cond s6 (some (.nx 0)) (cond (p0.kind == 5) (some (.nx 1)) (cond (p0.kind == 4) (some (.nx 2)) (some (.rt (-1))))))) : Option (LR Int Int)).bind (LR.el (fun s2 => (((cond ((p0.kids.length : Int) != s2) (some true) (cond (p0.kind == 3) ((dU n p0.name).bind fun x3 => (cond (!x3) (some true) (cond (p0.kind != 3) (some (!(p0.name == ([] : Str)))) (some false)))) (cond (p0.kind != 3) (some (!(p0.name == ([] : Str)))) (some false)))) : Option Bool).bind fun s3 => (cond s3 (some (-1)) ((oI n qc0 p0 p1 n ((IntKind.wrap .i64 (p2 + 1)), 0)).bind (LR.el (fun s5 => some s5) (fun r => some r)))))) (fun r => some r)))))
def l8 : Nat → Ty → Int → Int → Option Int
 | 0, _, _, _ => none
 | n + 1, p0, p1, p2 => qV n (fun p0 p1 p2 => l8 n p0 p1 p2) p0 p1 p2
def dY (n : Nat) (p0 : Ty) : Option Bool := ((l8 n p0 1 0).bind fun x1 => some (decide (0 < x1)))
def nY (n : Nat) (qdb : Ty → Option Bool) (p0 : Ty) : Nat → Int → Option (LR Unit Bool)
 | 0, _ => none
 | k + 1, s1 => (cond (decide (s1 < (p0.kids.length : Int))) ((idx p0.kids s1).bind fun x1 => ((qdb x1).bind fun x2 => (cond x2 (some (.rt true)) (nY n qdb p0 k (s1 + 1))))) (some (.nx ())))
def mI (n : Nat) (qdb : Ty → Option Bool) (p0 : Ty) : Option Bool := (cond (p0.kind == 2) (some true) ((nY n qdb p0 n 0).bind (LR.el (fun s2 => some false) (fun r => some r))))
def gK : Nat → Ty → Option Bool
 | 0, _ => none
 | n + 1, p0 => mI n (fun p0 => gK n p0) p0
def pX (n : Nat) (qc9 : Ty → Option (List Str)) (p0 : Ty) : Nat → ((List Str) × Int) → Option (LR (List Str) (List Str))
 | 0, _ => none
 | k + 1, s1 => (cond (decide (s1.2 < (p0.kids.length : Int))) ((idx p0.kids s1.2).bind fun x1 => ((qc9 x1).bind fun x2 => ((app 16 s1.1 x2).bind fun x3 => pX n qc9 p0 k (x3, (s1.2 + 1))))) (some (.nx s1.1)))
def nL (n : Nat) (qc9 : Ty → Option (List Str)) (p0 : Ty) : Option (List Str) := (cond (p0.kind == 3) (some ([p0.name])) ((pX n qc9 p0 n (([] : List Str), 0)).bind (LR.el (fun s2 => some s2) (fun r => some r))))
def jM : Nat → Ty → Option (List Str)
 | 0, _ => none
 | n + 1, p0 => nL n (fun p0 => jM n p0) p0
def mJ (n : Nat) (p0 : Env) (p1 : Str) : Nat → Int → Option (LR Unit Int)
 | 0, _ => none
 | k + 1, s1 => (cond (decide (s1 < (p0.carriers.length : Int))) ((idx p0.carriers s1).bind fun x1 => (cond (x1.name == p1) (some (.rt s1)) (mJ n p0 p1 k (s1 + 1)))) (some (.nx ())))
def fZ (n : Nat) (p0 : Env) (p1 : Str) : Option Int := ((mJ n p0 p1 n 0).bind (LR.el (fun s2 => some (-1)) (fun r => some r)))
def uO (n : Nat) (p0 : Env) (x1 : List Str) : Nat → Int → Option (LR Unit Bool)
 | 0, _ => none
 | k + 1, s1 => (cond (decide (s1 < (x1.length : Int))) ((idx x1 s1).bind fun x2 => ((fZ n p0 x2).bind fun x3 => (cond (decide (x3 < 0)) (some (.rt false)) (uO n p0 x1 k (s1 + 1))))) (some (.nx ())))
def oO (n : Nat) (p0 : Env) (p1 : Ty) : Option Bool := ((jM n p1).bind fun x1 => ((uO n p0 x1 n 0).bind (LR.el (fun s2 => some true) (fun r => some r))))
def pK (n : Nat) (p0 : Env) : Nat → ((List Str) × Int) → Option (LR (List Str) (List Str))
 | 0, _ => none
 | k + 1, s1 => (cond (decide (s1.2 < (p0.carriers.length : Int))) ((idx p0.carriers s1.2).bind fun x5 => ((app 16 s1.1 ([x5.name])).bind fun x6 => pK n p0 k (x6, (s1.2 + 1)))) (some (.nx s1.1)))
def pO (n : Nat) (p0 : Env) : Nat → ((List Str) × Int) → Option (LR (List Str) (List Str))
 | 0, _ => none
 | k + 1, s3 => (cond (decide (s3.2 < (p0.carriers.length : Int))) ((idx p0.carriers s3.2).bind fun x3 => ((app 16 s3.1 x3.elems).bind fun x4 => pO n p0 k (x4, (s3.2 + 1)))) (some (.nx s3.1)))
def pI (n : Nat) (p0 : Env) : Nat → ((List Str) × Int) → Option (LR (List Str) (List Str))
 | 0, _ => none
 | k + 1, s5 => (cond (decide (s5.2 < (p0.names.length : Int))) ((idx p0.names s5.2).bind fun x1 => ((app 16 s5.1 ([x1.name])).bind fun x2 => pI n p0 k (x2, (s5.2 + 1)))) (some (.nx s5.1)))
def lG (n : Nat) (p0 : Env) : Option (List Str) := ((pK n p0 n (([] : List Str), 0)).bind (LR.el (fun s2 => ((pO n p0 n (s2, 0)).bind (LR.el (fun s4 => ((pI n p0 n (s4, 0)).bind (LR.el (fun s6 => some s6) (fun r => some r)))) (fun r => some r)))) (fun r => some r)))
def kY (n : Nat) (x10 : Carrier) : Nat → Int → Option (LR Unit Bool)
 | 0, _ => none
 | k + 1, s10 => (cond (decide (s10 < (x10.elems.length : Int))) ((idx x10.elems s10).bind fun x11 => ((dU n x11).bind fun x12 => (cond (!x12) (some (.rt false)) (kY n x10 k (s10 + 1))))) (some (.nx ())))
def qj (n : Nat) (p0 : Env) : Nat → Int → Option (LR Unit Bool)
 | 0, _ => none
 | k + 1, s2 => (cond (decide (s2 < (p0.carriers.length : Int))) ((idx p0.carriers s2).bind fun x10 => ((((dU n x10.name).bind fun x13 => (cond (!x13) (some true) (some (decide (8 < (x10.elems.length : Int)))))) : Option Bool).bind fun s9 => (cond s9 (some (.rt false)) ((kY n x10 n 0).bind (LR.el (fun s11 => qj n p0 k (s2 + 1)) (fun r => some (.rt r))))))) (some (.nx ())))
def pq (n : Nat) (p0 : Env) : Nat → Int → Option (LR Unit Bool)
 | 0, _ => none
 | k + 1, s4 => (cond (decide (s4 < (p0.names.length : Int))) ((idx p0.names s4).bind fun x5 => ((((qI n x5.name).bind fun x6 => (cond (!x6) (some true) ((dY n x5.ty).bind fun x7 => (cond (!x7) (some true) ((gK n x5.ty).bind fun x8 => (cond x8 (some true) ((oO n p0 x5.ty).bind fun x9 => some (!x9)))))))) : Option Bool).bind fun s8 => (cond s8 (some (.rt false)) (pq n p0 k (s4 + 1))))) (some (.nx ())))
def ny (n : Nat) (x1 : List Str) : Nat → Int → Option (LR Unit Bool)
 | 0, _ => none
 | k + 1, s6 => (cond (decide (s6 < (x1.length : Int))) ((idx x1 s6).bind fun x2 => ((fH x1 0 s6).bind fun x3 => ((kM n x2 x3).bind fun x4 => (cond x4 (some (.rt false)) (ny n x1 k (s6 + 1)))))) (some (.nx ())))
def fI (n : Nat) (p0 : Env) : Option Bool := (((cond (decide (8 < (p0.carriers.length : Int))) (some true) (some (decide (64 < (p0.names.length : Int))))) : Option Bool).bind fun s1 => (cond s1 (some false) ((qj n p0 n 0).bind (LR.el (fun s3 => ((pq n p0 n 0).bind (LR.el (fun s5 => ((lG n p0).bind fun x1 => ((ny n x1 n 0).bind (LR.el (fun s7 => some true) (fun r => some r))))) (fun r => some r)))) (fun r => some r)))))
def qh (n : Nat) (p0 : Env) (p1 : Str) : Nat → Int → Option (LR Unit Int)
 | 0, _ => none
 | k + 1, s1 => (cond (decide (s1 < (p0.names.length : Int))) ((idx p0.names s1).bind fun x1 => (cond (x1.name == p1) (some (.rt s1)) (qh n p0 p1 k (s1 + 1)))) (some (.nx ())))
def jL (n : Nat) (p0 : Env) (p1 : Str) : Option Int := ((qh n p0 p1 n 0).bind (LR.el (fun s2 => some (-1)) (fun r => some r)))
def nA (n : Nat) (qci : Ty → Ty → Option Bool) (p0 : Ty) (p1 : Ty) : Nat → Int → Option (LR Unit Bool)
 | 0, _ => none
 | k + 1, s2 => (cond (decide (s2 < (p0.kids.length : Int))) ((idx p0.kids s2).bind fun x1 => ((idx p1.kids s2).bind fun x2 => ((qci x1 x2).bind fun x3 => (cond (!x3) (some (.rt false)) (nA n qci p0 p1 k (s2 + 1)))))) (some (.nx ())))
def jr (n : Nat) (qci : Ty → Ty → Option Bool) (p0 : Ty) (p1 : Ty) : Option Bool := (((cond (p0.kind != p1.kind) (some true) (cond (!(p0.name == p1.name)) (some true) (some ((p0.kids.length : Int) != (p1.kids.length : Int))))) : Option Bool).bind fun s1 => (cond s1 (some false) ((nA n qci p0 p1 n 0).bind (LR.el (fun s3 => some true) (fun r => some r)))))
def bf : Nat → Ty → Ty → Option Bool
 | 0, _, _ => none
 | n + 1, p0, p1 => jr n (fun p0 p1 => bf n p0 p1) p0 p1
def o7 (n : Nat) (qce : Ty → Option Ty) (p0 : Ty) : Nat → (Int × (List Ty)) → Option (LR (List Ty) Ty)
 | 0, _ => none
 | k + 1, s1 => (cond (decide (s1.1 < (p0.kids.length : Int))) ((idx p0.kids s1.1).bind fun x1 => ((qce x1).bind fun x2 => ((app 48 s1.2 ([x2])).bind fun x3 => o7 n qce p0 k ((s1.1 + 1), x3)))) (some (.nx s1.2)))
def nQ (n : Nat) (qce : Ty → Option Ty) (p0 : Ty) : Option Ty := ((o7 n qce p0 n (0, ([] : List Ty))).bind (LR.el (fun s2 => some (Ty.mk p0.kind p0.name s2)) (fun r => some r)))
def d9 : Nat → Ty → Option Ty
 | 0, _ => none
 | n + 1, p0 => nQ n (fun p0 => d9 n p0) p0
def qO (n : Nat) (p0 : Env) : Nat → (Int × (List Carrier)) → Option (LR (List Carrier) ((List Carrier) × (List Decl)))
 | 0, _ => none
 | k + 1, s1 => (cond (decide (s1.1 < (p0.carriers.length : Int))) ((idx p0.carriers s1.1).bind fun x4 => ((app 16 ([] : List Str) x4.elems).bind fun x5 => ((app 40 s1.2 ([(Carrier.mk x4.name x5)])).bind fun x6 => qO n p0 k ((s1.1 + 1), x6)))) (some (.nx s1.2)))
def qY (n : Nat) (p0 : Env) : Nat → (Int × (List Decl)) → Option (LR (List Decl) ((List Carrier) × (List Decl)))
 | 0, _ => none
 | k + 1, s3 => (cond (decide (s3.1 < (p0.names.length : Int))) ((idx p0.names s3.1).bind fun x1 => ((d9 n x1.ty).bind fun x2 => ((app 64 s3.2 ([(Decl.mk x1.name x2)])).bind fun x3 => qY n p0 k ((s3.1 + 1), x3)))) (some (.nx s3.2)))
def mQ (n : Nat) (p0 : Env) : Option ((List Carrier) × (List Decl)) := ((qO n p0 n (0, ([] : List Carrier))).bind (LR.el (fun s2 => ((qY n p0 n (0, ([] : List Decl))).bind (LR.el (fun s4 => some (s2, s4)) (fun r => some r)))) (fun r => some r)))
def tQ (n : Nat) (p0 : List Str) (p1 : List Str) : Nat → Int → Option (LR Unit Bool)
 | 0, _ => none
 | k + 1, s1 => (cond (decide (s1 < (p0.length : Int))) ((idx p0 s1).bind fun x1 => ((idx p1 s1).bind fun x2 => (cond (!(x1 == x2)) (some (.rt false)) (tQ n p0 p1 k (s1 + 1))))) (some (.nx ())))
def vN (n : Nat) (p0 : List Str) (p1 : List Str) : Option Bool := (cond ((p0.length : Int) != (p1.length : Int)) (some false) ((tQ n p0 p1 n 0).bind (LR.el (fun s2 => some true) (fun r => some r))))
def jH (n : Nat) (p0 : Carrier) (p1 : Carrier) : Option Bool := (((cond (p0.name == p1.name) ((vN n p0.elems p1.elems).bind fun x1 => some x1) (some false)) : Option Bool).bind fun s1 => some s1)
def qX (n : Nat) (p0 : Env) (p1 : Env) : Nat → Int → Option (LR Unit Bool)
 | 0, _ => none
 | k + 1, s2 => (cond (decide (s2 < (p0.carriers.length : Int))) ((idx p0.carriers s2).bind fun x6 => ((idx p1.carriers s2).bind fun x7 => ((jH n x6 x7).bind fun x8 => (cond (!x8) (some (.rt false)) (qX n p0 p1 k (s2 + 1)))))) (some (.nx ())))
def qM (n : Nat) (p0 : Env) (p1 : Env) : Nat → Int → Option (LR Unit Bool)
 | 0, _ => none
 | k + 1, s4 => (cond (decide (s4 < (p0.names.length : Int))) ((((idx p0.names s4).bind fun x1 => ((idx p1.names s4).bind fun x2 => (cond (!(x1.name == x2.name)) (some true) ((idx p0.names s4).bind fun x3 => ((idx p1.names s4).bind fun x4 => ((bf n x3.ty x4.ty).bind fun x5 => some (!x5))))))) : Option Bool).bind fun s6 => (cond s6 (some (.rt false)) (qM n p0 p1 k (s4 + 1)))) (some (.nx ())))
def qC (n : Nat) (p0 : Env) (p1 : Env) : Option Bool := (((cond ((p0.carriers.length : Int) != (p1.carriers.length : Int)) (some true) (some ((p0.names.length : Int) != (p1.names.length : Int)))) : Option Bool).bind fun s1 => (cond s1 (some false) ((qX n p0 p1 n 0).bind (LR.el (fun s3 => ((qM n p0 p1 n 0).bind (LR.el (fun s5 => some true) (fun r => some r)))) (fun r => some r)))))
def eF (n : Nat) (p0 : List Decl) (p1 : Str) : Nat → Int → Option (LR Unit Int)
 | 0, _ => none
 | k + 1, s1 => (cond (decide (s1 < (p0.length : Int))) ((idx p0 s1).bind fun x1 => (cond (x1.name == p1) (some (.rt s1)) (eF n p0 p1 k (s1 + 1)))) (some (.nx ())))
structure S_refinementlaw02_Binding where
  env : Env
  body : Tm
  domain : Tm
  name : Str
structure S_api_Binding where
  name : Str
  term : Tm
structure S_refinementlaw02_Put where
  path : List Int
  term : Tm
structure S_refinementref01_token where
  kind : Int
  s : Str
  at_ : Int
structure S_api_World where
  env : Env
  sizes : List Int
  values : List Val
structure S_refinementlaw03_Typed where
  sizes : List Int
  v : Val
  t : Ty
structure S_api_Scope where
  sizes : List Int
  lo : Int
  hi : Int
def xI (n : Nat) (p0 : Env) : Option Bool := (((cond (decide ((p0.carriers.length : Int) ≤ 100)) (some (decide ((p0.names.length : Int) ≤ 100))) (some false)) : Option Bool).bind fun s1 => some s1)
def jo (n : Nat) (p0 : Env) (p1 : List Int) : Nat → Int → Option (LR Unit Bool)
 | 0, _ => none
 | k + 1, s1 => (cond (decide (s1 < (p0.carriers.length : Int))) ((idx p0.carriers s1).bind fun x1 => ((((idx p1 s1).bind fun x2 => (cond (decide (x2 < 1)) (some true) ((idx p1 s1).bind fun x3 => (cond (decide (8 < x3)) (some true) (cond (decide (0 < (x1.elems.length : Int))) ((idx p1 s1).bind fun x4 => some (x4 != (x1.elems.length : Int))) (some false)))))) : Option Bool).bind fun s3 => (cond s3 (some (.rt false)) (jo n p0 p1 k (s1 + 1))))) (some (.nx ())))
def mg (n : Nat) (p0 : Env) (p1 : List Int) : Option Bool := (cond ((p1.length : Int) != (p0.carriers.length : Int)) (some false) ((jo n p0 p1 n 0).bind (LR.el (fun s2 => some true) (fun r => some r))))
def He (n : Nat) (p0 : Carrier) (p1 : Str) : Option Bool := some (p0.name == p1)
def fF (n : Nat) (p0 : List Carrier) (p1 : Str) : Nat → Int → Option (LR Unit Int)
 | 0, _ => none
 | k + 1, s1 => (cond (decide (s1 < (p0.length : Int))) ((idx p0 s1).bind fun x1 => (cond (x1.name == p1) (some (.rt s1)) (fF n p0 p1 k (s1 + 1)))) (some (.nx ())))
def iT (n : Nat) (p0 : List Carrier) (p1 : Str) : Option Int := ((fF n p0 p1 n 0).bind (LR.el (fun s2 => some (-1)) (fun r => some r)))
def tu (n : Nat) (p0 : Env) (p1 : Str) : Option Int := ((iT n p0.carriers p1).bind fun x1 => some x1)
def cmp_isNaN_int (n : Nat) (p0 : Int) : Option Bool := some (p0 != p0)
def cmp_Compare_int (n : Nat) (p0 : Int) (p1 : Int) : Option Int := (cond (p0 != p0) (cond (p1 != p1) (some 0) (some (-1))) (cond (p1 != p1) (some 1) (cond (decide (p0 < p1)) (some (-1)) (cond (decide (p1 < p0)) (some 1) (some 0)))))
def nV (n : Nat) (p0 : List Int) : Nat → Int → Option (LR Unit Int)
 | 0, _ => none
 | k + 1, s1 => (cond (decide (s1 < (p0.length : Int))) ((idx p0 s1).bind fun x1 => (cond (x1 != 0) (some (.rt x1)) (nV n p0 k (s1 + 1)))) (some (.nx ())))
def zH (n : Nat) (p0 : List Int) : Option Int := ((nV n p0 n 0).bind (LR.el (fun s2 => some 0) (fun r => some r)))
def dw (n : Nat) (qds : (List Val) → (List Val) → Option Int) (qdn : Val → Val → Option Int) (p0 : List Val) (p1 : List Val) : Nat → Int → Option (LR Unit Int)
 | 0, _ => none
 | k + 1, s1 => (cond (decide (s1 < (p0.length : Int))) ((idx p0 s1).bind fun x1 => (cond (decide ((p1.length : Int) ≤ s1)) (some (.rt 1)) ((idx p1 s1).bind fun x2 => ((qdn x1 x2).bind fun x3 => (cond (x3 != 0) (some (.rt x3)) (dw n qds qdn p0 p1 k (s1 + 1))))))) (some (.nx ())))
def fM (n : Nat) (qds : (List Val) → (List Val) → Option Int) (qdn : Val → Val → Option Int) (p0 : List Val) (p1 : List Val) : Option Int := ((dw n qds qdn p0 p1 n 0).bind (LR.el (fun s2 => (cond (decide ((p0.length : Int) < (p1.length : Int))) (some (-1)) (some 0))) (fun r => some r)))
def mK (n : Nat) (qds : (List Val) → (List Val) → Option Int) (qdn : Val → Val → Option Int) (p0 : Val) (p1 : Val) : Option Int := ((cmp_Compare_int n p0.kind p1.kind).bind fun x1 => ((cmp_Compare_int n p0.n p1.n).bind fun x2 => ((strings_Compare n p0.name p1.name).bind fun x3 => ((zH n ([x1, x2, x3])).bind fun x4 => (cond (x4 != 0) (some x4) ((qds p0.kids p1.kids).bind fun x5 => some x5))))))
mutual
def dM : Nat → (List Val) → (List Val) → Option Int
 | 0, _, _ => none
 | n + 1, p0, p1 => fM n (fun p0 p1 => dM n p0 p1) (fun p0 p1 => dI n p0 p1) p0 p1
def dI : Nat → Val → Val → Option Int
 | 0, _, _ => none
 | n + 1, p0, p1 => mK n (fun p0 p1 => dM n p0 p1) (fun p0 p1 => dI n p0 p1) p0 p1
end
def lH (n : Nat) (qdq : Env → (List Int) → Val → Ty → Option Bool) (qdr : (List Ty) → Int → Int → Str → (List Val) → (List Carrier) → (List Decl) → (List Int) → Option Bool) (p2 : Val) : Nat → Int → Option (LR Unit Bool)
 | 0, _ => none
 | k + 1, s6 => (cond (decide (s6 < (p2.kids.length : Int))) ((idx p2.kids (IntKind.wrap .i64 (s6 - 1))).bind fun x4 => ((idx p2.kids s6).bind fun x5 => ((dI n x4 x5).bind fun x6 => (cond (decide (0 ≤ x6)) (some (.rt false)) (lH n qdq qdr p2 k (s6 + 1)))))) (some (.nx ())))
def fB (n : Nat) (qdq : Env → (List Int) → Val → Ty → Option Bool) (qdr : (List Ty) → Int → Int → Str → (List Val) → (List Carrier) → (List Decl) → (List Int) → Option Bool) (p0 : Env) (p1 : List Int) (p2 : Val) (p3 : Ty) : Option Bool := (cond (p3.kind == 1) (((cond (p2.kind == 1) (cond (decide ((-1000000000) ≤ p2.n)) (cond (decide (p2.n ≤ 1000000000)) (cond (p2.name == ([] : Str)) (some ((p2.kids.length : Int) == 0)) (some false)) (some false)) (some false)) (some false)) : Option Bool).bind fun s1 => some s1) (cond (p3.kind == 2) (((cond (p2.kind == 2) (cond (p2.n == 0) (cond (p2.name == ([] : Str)) (some ((p2.kids.length : Int) == 0)) (some false)) (cond (p2.n == 1) (cond (p2.name == ([] : Str)) (some ((p2.kids.length : Int) == 0)) (some false)) (some false))) (some false)) : Option Bool).bind fun s2 => some s2) (cond (p3.kind == 3) ((tu n p0 p3.name).bind fun x1 => (((cond (decide (0 ≤ x1)) (cond (p2.kind == 3) (cond (p2.name == p3.name) (cond (decide (0 ≤ p2.n)) ((idx p1 x1).bind fun x2 => (cond (decide (p2.n < x2)) (some ((p2.kids.length : Int) == 0)) (some false))) (some false)) (some false)) (some false)) (some false)) : Option Bool).bind fun s3 => some s3)) (cond (p3.kind == 4) (((cond (p2.kind == 4) (cond (p2.n == 0) (cond (p2.name == ([] : Str)) (cond ((p2.kids.length : Int) == 2) ((qdr p3.kids p2.kind p2.n p2.name p2.kids p0.carriers p0.names p1).bind fun x3 => some x3) (some false)) (some false)) (some false)) (some false)) : Option Bool).bind fun s4 => some s4) (cond (p3.kind == 5) (((cond (p2.kind != 5) (some true) (cond (p2.n != 0) (some true) (cond (!(p2.name == ([] : Str))) (some true) (cond (decide (256 < (p2.kids.length : Int))) (some true) ((qdr p3.kids p2.kind p2.n p2.name p2.kids p0.carriers p0.names p1).bind fun x7 => some (!x7)))))) : Option Bool).bind fun s5 => (cond s5 (some false) ((lH n qdq qdr p2 n 1).bind (LR.el (fun s7 => some true) (fun r => some r))))) (some false))))))
def ji (n : Nat) (qdq : Env → (List Int) → Val → Ty → Option Bool) (qdr : (List Ty) → Int → Int → Str → (List Val) → (List Carrier) → (List Decl) → (List Int) → Option Bool) (p0 : List Ty) (p4 : List Val) (p5 : List Carrier) (p6 : List Decl) (p7 : List Int) : Nat → Int → Option (LR Unit Bool)
 | 0, _ => none
 | k + 1, s1 => (cond (decide (s1 < (p4.length : Int))) ((idx p4 s1).bind fun x1 => ((idx p0 (if ((p0.length : Int) - 1) < s1 then ((p0.length : Int) - 1) else s1)).bind fun x2 => ((qdq (Env.mk p5 p6) p7 x1 x2).bind fun x3 => (cond (!x3) (some (.rt false)) (ji n qdq qdr p0 p4 p5 p6 p7 k (s1 + 1)))))) (some (.nx ())))
def j5 (n : Nat) (qdq : Env → (List Int) → Val → Ty → Option Bool) (qdr : (List Ty) → Int → Int → Str → (List Val) → (List Carrier) → (List Decl) → (List Int) → Option Bool) (p0 : List Ty) (p1 : Int) (p2 : Int) (p3 : Str) (p4 : List Val) (p5 : List Carrier) (p6 : List Decl) (p7 : List Int) : Option Bool := ((ji n qdq qdr p0 p4 p5 p6 p7 n 0).bind (LR.el (fun s2 => some true) (fun r => some r)))
mutual
def fu : Nat → Env → (List Int) → Val → Ty → Option Bool
 | 0, _, _, _, _ => none
 | n + 1, p0, p1, p2, p3 => fB n (fun p0 p1 p2 p3 => fu n p0 p1 p2 p3) (fun p0 p1 p2 p3 p4 p5 p6 p7 => jV n p0 p1 p2 p3 p4 p5 p6 p7) p0 p1 p2 p3
def jV : Nat → (List Ty) → Int → Int → Str → (List Val) → (List Carrier) → (List Decl) → (List Int) → Option Bool
 | 0, _, _, _, _, _, _, _, _ => none
 | n + 1, p0, p1, p2, p3, p4, p5, p6, p7 => j5 n (fun p0 p1 p2 p3 => fu n p0 p1 p2 p3) (fun p0 p1 p2 p3 p4 p5 p6 p7 => jV n p0 p1 p2 p3 p4 p5 p6 p7) p0 p1 p2 p3 p4 p5 p6 p7
end
def qB (n : Nat) (p0 : Env) (p1 : List Int) : Nat → Int → Option (LR Unit Bool)
 | 0, _ => none
 | k + 1, s1 => (cond (decide (s1 < (p1.length : Int))) ((idx p0.carriers s1).bind fun x1 => ((((idx p1 s1).bind fun x2 => (cond (decide (x2 < 1)) (some true) ((idx p1 s1).bind fun x3 => (cond (decide (8 < x3)) (some true) (cond (decide (0 < (x1.elems.length : Int))) ((idx p1 s1).bind fun x4 => some (x4 != (x1.elems.length : Int))) (some false)))))) : Option Bool).bind fun s3 => (cond s3 (some (.rt false)) (qB n p0 p1 k (s1 + 1))))) (some (.nx ())))
def xR (n : Nat) (p0 : Env) (p1 : List Int) : Option Bool := (cond ((p1.length : Int) != (p0.carriers.length : Int)) (some false) ((qB n p0 p1 n 0).bind (LR.el (fun s2 => some true) (fun r => some r))))
def vL (n : Nat) (p0 : Int) (p1 : Int) : Option Int := (cond (decide (p0 < p1)) (some (-1)) (cond (decide (p1 < p0)) (some 1) (some 0)))
def kI (n : Nat) (qdg : Val → Val → Option Int) (p0 : Val) (p1 : Val) : Nat → Int → Option (LR Unit Int)
 | 0, _ => none
 | k + 1, s1 => (((cond (decide (s1 < (p0.kids.length : Int))) (some (decide (s1 < (p1.kids.length : Int)))) (some false)) : Option Bool).bind fun s3 => (cond s3 ((idx p0.kids s1).bind fun x4 => ((idx p1.kids s1).bind fun x5 => ((qdg x4 x5).bind fun x6 => (cond (x6 != 0) (some (.rt x6)) (kI n qdg p0 p1 k (IntKind.wrap .i64 (s1 + 1))))))) (some (.nx ()))))
def oD (n : Nat) (qdg : Val → Val → Option Int) (p0 : Val) (p1 : Val) : Option Int := (cond (p0.kind != p1.kind) ((vL n p0.kind p1.kind).bind fun x1 => some x1) (cond (p0.n != p1.n) ((vL n p0.n p1.n).bind fun x2 => some x2) (cond (Op.bytesLess p0.name p1.name) (some (-1)) (cond (!(Op.bytesLess p0.name p1.name || p0.name == p1.name)) (some 1) ((kI n qdg p0 p1 n 0).bind (LR.el (fun s2 => ((vL n (p0.kids.length : Int) (p1.kids.length : Int)).bind fun x3 => some x3)) (fun r => some r)))))))
def fP : Nat → Val → Val → Option Int
 | 0, _, _ => none
 | n + 1, p0, p1 => oD n (fun p0 p1 => fP n p0 p1) p0 p1
def kJ (n : Nat) (qdm : Env → (List Int) → Val → Ty → Option Bool) (p0 : Env) (p1 : List Int) (p2 : Val) (p3 : Ty) : Nat → Int → Option (LR Unit Bool)
 | 0, _ => none
 | k + 1, s6 => (cond (decide (s6 < (p2.kids.length : Int))) ((((idx p2.kids s6).bind fun x9 => ((idx p3.kids 0).bind fun x10 => ((qdm p0 p1 x9 x10).bind fun x11 => (cond (!x11) (some true) (cond (decide (0 < s6)) ((idx p2.kids (s6 - 1)).bind fun x12 => ((idx p2.kids s6).bind fun x13 => ((fP n x12 x13).bind fun x14 => some (decide (0 ≤ x14))))) (some false)))))) : Option Bool).bind fun s8 => (cond s8 (some (.rt false)) (kJ n qdm p0 p1 p2 p3 k (s6 + 1)))) (some (.nx ())))
def gU (n : Nat) (qdm : Env → (List Int) → Val → Ty → Option Bool) (p0 : Env) (p1 : List Int) (p2 : Val) (p3 : Ty) : Option Bool := (cond (p3.kind == 1) (((cond (p2.kind == 1) (cond (p2.name == ([] : Str)) (cond ((p2.kids.length : Int) == 0) (cond (decide ((-1000000000) ≤ p2.n)) (some (decide (p2.n ≤ 1000000000))) (some false)) (some false)) (some false)) (some false)) : Option Bool).bind fun s1 => some s1) (cond (p3.kind == 2) (((cond (p2.kind == 2) (cond (p2.name == ([] : Str)) (cond ((p2.kids.length : Int) == 0) (cond (p2.n == 0) (some true) (some (p2.n == 1))) (some false)) (some false)) (some false)) : Option Bool).bind fun s2 => some s2) (cond (p3.kind == 3) (((cond (p2.kind == 3) (cond (p2.name == p3.name) (cond ((p2.kids.length : Int) == 0) (cond (decide (0 ≤ p2.n)) ((fZ n p0 p3.name).bind fun x1 => ((idx p1 x1).bind fun x2 => some (decide (p2.n < x2)))) (some false)) (some false)) (some false)) (some false)) : Option Bool).bind fun s3 => some s3) (cond (p3.kind == 4) (((cond (p2.kind == 4) (cond (p2.n == 0) (cond (p2.name == ([] : Str)) (cond ((p2.kids.length : Int) == 2) ((idx p2.kids 0).bind fun x3 => ((idx p3.kids 0).bind fun x4 => ((qdm p0 p1 x3 x4).bind fun x5 => (cond x5 ((idx p2.kids 1).bind fun x6 => ((idx p3.kids 1).bind fun x7 => ((qdm p0 p1 x6 x7).bind fun x8 => some x8))) (some false))))) (some false)) (some false)) (some false)) (some false)) : Option Bool).bind fun s4 => some s4) (((cond (p2.kind != 5) (some true) (cond (p2.n != 0) (some true) (cond (!(p2.name == ([] : Str))) (some true) (some (decide (256 < (p2.kids.length : Int))))))) : Option Bool).bind fun s5 => (cond s5 (some false) ((kJ n qdm p0 p1 p2 p3 n 0).bind (LR.el (fun s7 => some true) (fun r => some r)))))))))
def kS : Nat → Env → (List Int) → Val → Ty → Option Bool
 | 0, _, _, _, _ => none
 | n + 1, p0, p1, p2, p3 => gU n (fun p0 p1 p2 p3 => kS n p0 p1 p2 p3) p0 p1 p2 p3
def lX (n : Nat) (p0 : S_api_World) : Nat → Int → Option (LR Unit Bool)
 | 0, _ => none
 | k + 1, s2 => (cond (decide (s2 < (p0.env.names.length : Int))) ((idx p0.env.names s2).bind fun x1 => ((idx p0.values s2).bind fun x2 => ((fu n p0.env p0.sizes x2 x1.ty).bind fun x3 => (cond (!x3) (some (.rt false)) (lX n p0 k (s2 + 1)))))) (some (.nx ())))
def jQ (n : Nat) (p0 : S_api_World) : Option Bool := ((((dz n p0.env).bind fun x4 => (cond (!x4) (some true) ((mg n p0.env p0.sizes).bind fun x5 => (cond (!x5) (some true) (some ((p0.values.length : Int) != (p0.env.names.length : Int))))))) : Option Bool).bind fun s1 => (cond s1 (some false) ((lX n p0 n 0).bind (LR.el (fun s3 => some true) (fun r => some r)))))
def lg (n : Nat) (p0 : S_api_World) : Nat → Int → Option (LR Unit Bool)
 | 0, _ => none
 | k + 1, s2 => (cond (decide (s2 < (p0.values.length : Int))) ((idx p0.values s2).bind fun x1 => ((idx p0.env.names s2).bind fun x2 => ((kS n p0.env p0.sizes x1 x2.ty).bind fun x3 => (cond (!x3) (some (.rt false)) (lg n p0 k (s2 + 1)))))) (some (.nx ())))
def kE (n : Nat) (p0 : S_api_World) : Option Bool := ((((fI n p0.env).bind fun x4 => (cond (!x4) (some true) ((xR n p0.env p0.sizes).bind fun x5 => (cond (!x5) (some true) (some ((p0.values.length : Int) != (p0.env.names.length : Int))))))) : Option Bool).bind fun s1 => (cond s1 (some false) ((lg n p0 n 0).bind (LR.el (fun s3 => some true) (fun r => some r)))))
end Abs
end Go.Proofs.YtkopaeklihhdlaaGreat
