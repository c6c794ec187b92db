/-
  The plain functions of the program (printed by gen.py). Conditions: none.
-/
import Derived.KernelRfl
import Derived.Test.YtkopaeklihhdlaaGreatCData2ox80ea00
set_option linter.unusedSimpArgs false
set_option linter.unusedVariables false
namespace Go.Proofs.YtkopaeklihhdlaaGreat
namespace Abs
open Go Go.Proofs
set_option maxRecDepth 100000
set_option maxHeartbeats 40000000
def oU (n : Nat) (p0 : Int) : Option Bool := (((cond (decide (97 ≤ p0)) (cond (decide (p0 ≤ 122)) (some true) (cond (decide (65 ≤ p0)) (some (decide (p0 ≤ 90))) (some false))) (cond (decide (65 ≤ p0)) (some (decide (p0 ≤ 90))) (some false))) : Option Bool).bind fun s1 => some s1)
def pG (n : Nat) (p0 : Str) : Option Bool := (((cond (p0 == ([116, 114, 117, 101] : Str)) (some (p0 == ([116, 114, 117, 101] : Str))) (cond (p0 == ([102, 97, 108, 115, 101] : Str)) (some (p0 == ([102, 97, 108, 115, 101] : Str))) (cond (p0 == ([110, 111, 116] : Str)) (some (p0 == ([110, 111, 116] : Str))) (cond (p0 == ([111, 114] : Str)) (some (p0 == ([111, 114] : Str))) (cond (p0 == ([102, 111, 114, 97, 108, 108] : Str)) (some (p0 == ([102, 111, 114, 97, 108, 108] : Str))) (cond (p0 == ([101, 120, 105, 115, 116, 115] : Str)) (some (p0 == ([101, 120, 105, 115, 116, 115] : Str))) (cond (p0 == ([105, 110] : Str)) (some (p0 == ([105, 110] : Str))) (cond (p0 == ([110, 111, 116, 105, 110] : Str)) (some (p0 == ([110, 111, 116, 105, 110] : Str))) (cond (p0 == ([115, 117, 98] : Str)) (some (p0 == ([115, 117, 98] : Str))) (cond (p0 == ([109, 111, 100] : Str)) (some (p0 == ([109, 111, 100] : Str))) (cond (p0 == ([102, 117, 110] : Str)) (some (p0 == ([102, 117, 110] : Str))) (cond (p0 == ([99, 97, 114, 100] : Str)) (some (p0 == ([99, 97, 114, 100] : Str))) (cond (p0 == ([109, 105, 110] : Str)) (some (p0 == ([109, 105, 110] : Str))) (cond (p0 == ([109, 97, 120] : Str)) (some (p0 == ([109, 97, 120] : Str))) (cond (p0 == ([100, 111, 109] : Str)) (some (p0 == ([100, 111, 109] : Str))) (cond (p0 == ([114, 97, 110] : Str)) (some (p0 == ([114, 97, 110] : Str))) (cond (p0 == ([80, 79, 87] : Str)) (some (p0 == ([80, 79, 87] : Str))) (cond (p0 == ([105, 110, 116] : Str)) (some (p0 == ([105, 110, 116] : Str))) (cond (p0 == ([98, 111, 111, 108] : Str)) (some (p0 == ([98, 111, 111, 108] : Str))) (cond (p0 == ([115, 101, 116] : Str)) (some (p0 == ([115, 101, 116] : Str))) (some (p0 == ([112, 97, 105, 114] : Str))))))))))))))))))))))) : Option Bool).bind fun s1 => (cond s1 (some true) (some false)))
def sU (n : Nat) (p0 : Int) : Option Bool := (((cond (decide (48 ≤ p0)) (some (decide (p0 ≤ 57))) (some false)) : Option Bool).bind fun s1 => some s1)
def qL (n : Nat) (p0 : Int) : Option Bool := ((((oU n p0).bind fun x1 => (cond x1 (some true) ((sU n p0).bind fun x2 => (cond x2 (some true) (some (p0 == 95)))))) : Option Bool).bind fun s1 => some s1)
def je (n : Nat) (p0 : Str) : Nat → Int → Option (LR Unit Bool)
 | 0, _ => none
 | k + 1, s2 => (cond (decide (s2 < (p0.length : Int))) ((gQ p0 s2).bind fun x1 => ((qL n x1).bind fun x2 => (cond (!x2) (some (.rt false)) (je n p0 k (s2 + 1))))) (some (.nx ())))
def dI (n : Nat) (p0 : Str) : Option Bool := (((cond (p0 == ([] : Str)) (some true) (cond (decide (16 < (p0.length : Int))) (some true) ((gQ p0 0).bind fun x3 => ((oU n x3).bind fun x4 => (cond (!x4) (some true) ((pG n p0).bind fun x5 => some x5)))))) : Option Bool).bind fun s1 => (cond s1 (some false) ((je n p0 n 0).bind (LR.el (fun s3 => some true) (fun r => some r)))))
def gG (n : Nat) (p0 : Str) (p1 : Str) : Option Bool := (((cond (decide ((p1.length : Int) ≤ (p0.length : Int))) ((ig p0 (IntKind.wrap .i64 ((p0.length : Int) - (p1.length : Int))) (p0.length : Int)).bind fun x1 => some (x1 == p1)) (some false)) : Option Bool).bind fun s1 => some s1)
def fT (n : Nat) (p0 : Str) (p1 : Str) : Option Str := ((gG n p0 p1).bind fun x1 => (cond x1 ((ig p0 0 (IntKind.wrap .i64 ((p0.length : Int) - (p1.length : Int)))).bind fun x2 => some x2) (some p0)))
def strings_TrimSuffix (n : Nat) (p0 : Str) (p1 : Str) : Option Str := ((fT n p0 p1).bind fun x1 => some x1)
def jy (n : Nat) (p0 : Str) : Option Bool := ((strings_TrimSuffix n p0 ([39] : Str)).bind fun x1 => ((dI n x1).bind fun x2 => some x2))
def iZ (n : Nat) (p0 : Int) (p1 : Int) (p2 : Int) (p3 : Int) : Option (Bool × Int) := (((cond (decide ((IntKind.wrap .i64 (p0 + 1)) ≤ p1)) (some (decide (p3 ≤ p2))) (some false)) : Option Bool).bind fun s1 => some (s1, (IntKind.wrap .i64 (p0 + 1))))
def gM (n : Nat) (qdb : (List Ty) → Int → Int → Int → Int → Option (Int × Int)) (qc7 : (List Ty) → Int → Int → Int → Int → Option (Bool × Int)) (qdf : Int → Int → Int → Ty → Int → Bool → Option (Bool × Int)) (qdg : Ty → Int → Int → Int → Int → Option (Bool × Int)) (p0 : List Ty) (p2 : Int) (p3 : Int) (p4 : Int) : Nat → (Int × Int) → Option (LR Int (Int × Int))
 | 0, _ => none
 | k + 1, s1 => (cond (decide (s1.1 < (p0.length : Int))) ((idx p0 s1.1).bind fun x1 => ((qdg x1 s1.2 p2 p3 p4).bind fun x2 => (cond x2.1 (some (.rt (s1.1, x2.2))) (gM n qdb qc7 qdf qdg p0 p2 p3 p4 k ((s1.1 + 1), x2.2))))) (some (.nx s1.2)))
def dK (n : Nat) (qdb : (List Ty) → Int → Int → Int → Int → Option (Int × Int)) (qc7 : (List Ty) → Int → Int → Int → Int → Option (Bool × Int)) (qdf : Int → Int → Int → Ty → Int → Bool → Option (Bool × Int)) (qdg : Ty → Int → Int → Int → Int → Option (Bool × Int)) (p0 : List Ty) (p1 : Int) (p2 : Int) (p3 : Int) (p4 : Int) : Option (Int × Int) := ((gM n qdb qc7 qdf qdg p0 p2 p3 p4 n (0, p1)).bind (LR.el (fun s2 => some ((-1), s2)) (fun r => some r)))
def eY (n : Nat) (qdb : (List Ty) → Int → Int → Int → Int → Option (Int × Int)) (qc7 : (List Ty) → Int → Int → Int → Int → Option (Bool × Int)) (qdf : Int → Int → Int → Ty → Int → Bool → Option (Bool × Int)) (qdg : Ty → Int → Int → Int → Int → Option (Bool × Int)) (p0 : List Ty) (p1 : Int) (p2 : Int) (p3 : Int) (p4 : Int) : Option (Bool × Int) := ((qdb p0 p1 p2 p3 p4).bind fun x1 => some ((decide (0 ≤ x1.1)), x1.2))
def fM (n : Nat) (qdb : (List Ty) → Int → Int → Int → Int → Option (Int × Int)) (qc7 : (List Ty) → Int → Int → Int → Int → Option (Bool × Int)) (qdf : Int → Int → Int → Ty → Int → Bool → Option (Bool × Int)) (qdg : Ty → Int → Int → Int → Int → Option (Bool × Int)) (p0 : Int) (p1 : Int) (p2 : Int) (p3 : Ty) (p4 : Int) (p5 : Bool) : Option (Bool × Int) := ((iZ n p0 p1 p2 p4).bind fun x1 => (cond (!x1.1) (some (false, x1.2)) (((cond (p3.kind == 1) (some (.nx 0)) (cond (p3.kind == 2) (cond p5 (some (.rt (false, x1.2))) (some (.nx 0))) (cond (p3.kind == 3) ((dI n p3.name).bind fun x3 => (cond (!x3) (some (.rt (false, x1.2))) (some (.nx 0)))) (cond (p3.kind == 4) (some (.nx 2)) (cond (p3.kind == 5) (some (.nx 1)) (some (.rt (false, x1.2)))))))) : Option (LR Int (Bool × Int))).bind (LR.el (fun s1 => (((cond ((p3.kids.length : Int) != s1) (some true) (cond (p3.kind != 3) (some (!(p3.name == ([] : Str)))) (some false))) : Option Bool).bind fun s2 => (cond s2 (some (false, x1.2)) ((qc7 p3.kids x1.2 p1 p2 p4).bind fun x2 => some ((!x2.1), x2.2))))) (fun r => some r)))))
def fD (n : Nat) (qdb : (List Ty) → Int → Int → Int → Int → Option (Int × Int)) (qc7 : (List Ty) → Int → Int → Int → Int → Option (Bool × Int)) (qdf : Int → Int → Int → Ty → Int → Bool → Option (Bool × Int)) (qdg : Ty → Int → Int → Int → Int → Option (Bool × Int)) (p0 : Ty) (p1 : Int) (p2 : Int) (p3 : Int) (p4 : Int) : Option (Bool × Int) := ((qdf p1 p2 p3 p0 (IntKind.wrap .i64 (p4 + 1)) true).bind fun x1 => some ((!x1.1), x1.2))
mutual
def dJ : Nat → (List Ty) → Int → Int → Int → Int → Option (Int × Int)
 | 0, _, _, _, _, _ => none
 | n + 1, p0, p1, p2, p3, p4 => dK n (fun p0 p1 p2 p3 p4 => dJ n p0 p1 p2 p3 p4) (fun p0 p1 p2 p3 p4 => bE n p0 p1 p2 p3 p4) (fun p0 p1 p2 p3 p4 p5 => bV n p0 p1 p2 p3 p4 p5) (fun p0 p1 p2 p3 p4 => bM n p0 p1 p2 p3 p4) p0 p1 p2 p3 p4
def bE : Nat → (List Ty) → Int → Int → Int → Int → Option (Bool × Int)
 | 0, _, _, _, _, _ => none
 | n + 1, p0, p1, p2, p3, p4 => eY n (fun p0 p1 p2 p3 p4 => dJ n p0 p1 p2 p3 p4) (fun p0 p1 p2 p3 p4 => bE n p0 p1 p2 p3 p4) (fun p0 p1 p2 p3 p4 p5 => bV n p0 p1 p2 p3 p4 p5) (fun p0 p1 p2 p3 p4 => bM n p0 p1 p2 p3 p4) p0 p1 p2 p3 p4
def bV : Nat → Int → Int → Int → Ty → Int → Bool → Option (Bool × Int)
 | 0, _, _, _, _, _, _ => none
 | n + 1, p0, p1, p2, p3, p4, p5 => fM n (fun p0 p1 p2 p3 p4 => dJ n p0 p1 p2 p3 p4) (fun p0 p1 p2 p3 p4 => bE n p0 p1 p2 p3 p4) (fun p0 p1 p2 p3 p4 p5 => bV n p0 p1 p2 p3 p4 p5) (fun p0 p1 p2 p3 p4 => bM n p0 p1 p2 p3 p4) p0 p1 p2 p3 p4 p5
def bM : Nat → Ty → Int → Int → Int → Int → Option (Bool × Int)
 | 0, _, _, _, _, _ => none
 | n + 1, p0, p1, p2, p3, p4 => fD n (fun p0 p1 p2 p3 p4 => dJ n p0 p1 p2 p3 p4) (fun p0 p1 p2 p3 p4 => bE n p0 p1 p2 p3 p4) (fun p0 p1 p2 p3 p4 p5 => bV n p0 p1 p2 p3 p4 p5) (fun p0 p1 p2 p3 p4 => bM n p0 p1 p2 p3 p4) p0 p1 p2 p3 p4
end
def fC (n : Nat) (p0 : Ty) : Option Bool := ((bV n 0 16 6 p0 1 false).bind fun x1 => some x1.1)
def fK (n : Nat) (qdc : (List Ty) → Int → Option Int) (qc8 : (List Ty) → Int → Option Bool) (qdk : Ty → Int → Option Bool) (qdl : Ty → Int → Option Bool) (p0 : List Ty) (p1 : Int) : Nat → Int → Option (LR Unit Int)
 | 0, _ => none
 | k + 1, s1 => (cond (decide (s1 < (p0.length : Int))) ((idx p0 s1).bind fun x1 => ((qdl x1 p1).bind fun x2 => (cond x2 (some (.rt s1)) (fK n qdc qc8 qdk qdl p0 p1 k (s1 + 1))))) (some (.nx ())))
def fB (n : Nat) (qdc : (List Ty) → Int → Option Int) (qc8 : (List Ty) → Int → Option Bool) (qdk : Ty → Int → Option Bool) (qdl : Ty → Int → Option Bool) (p0 : List Ty) (p1 : Int) : Option Int := ((fK n qdc qc8 qdk qdl p0 p1 n 0).bind (LR.el (fun s2 => some (-1)) (fun r => some r)))
def dY (n : Nat) (qdc : (List Ty) → Int → Option Int) (qc8 : (List Ty) → Int → Option Bool) (qdk : Ty → Int → Option Bool) (qdl : Ty → Int → Option Bool) (p0 : List Ty) (p1 : Int) : Option Bool := ((qdc p0 p1).bind fun x1 => some (decide (0 ≤ x1)))
def jo (n : Nat) (qdc : (List Ty) → Int → Option Int) (qc8 : (List Ty) → Int → Option Bool) (qdk : Ty → Int → Option Bool) (qdl : Ty → Int → Option Bool) (p0 : Ty) (p1 : Int) : Option Bool := (((cond (p0.kind == p1) (some true) ((qc8 p0.kids p1).bind fun x1 => some x1)) : Option Bool).bind fun s1 => some s1)
def iH (n : Nat) (qdc : (List Ty) → Int → Option Int) (qc8 : (List Ty) → Int → Option Bool) (qdk : Ty → Int → Option Bool) (qdl : Ty → Int → Option Bool) (p0 : Ty) (p1 : Int) : Option Bool := ((qdk p0 p1).bind fun x1 => some x1)
mutual
def dM : Nat → (List Ty) → Int → Option Int
 | 0, _, _ => none
 | n + 1, p0, p1 => fB n (fun p0 p1 => dM n p0 p1) (fun p0 p1 => bS n p0 p1) (fun p0 p1 => eO n p0 p1) (fun p0 p1 => dX n p0 p1) p0 p1
def bS : Nat → (List Ty) → Int → Option Bool
 | 0, _, _ => none
 | n + 1, p0, p1 => dY n (fun p0 p1 => dM n p0 p1) (fun p0 p1 => bS n p0 p1) (fun p0 p1 => eO n p0 p1) (fun p0 p1 => dX n p0 p1) p0 p1
def eO : Nat → Ty → Int → Option Bool
 | 0, _, _ => none
 | n + 1, p0, p1 => jo n (fun p0 p1 => dM n p0 p1) (fun p0 p1 => bS n p0 p1) (fun p0 p1 => eO n p0 p1) (fun p0 p1 => dX n p0 p1) p0 p1
def dX : Nat → Ty → Int → Option Bool
 | 0, _, _ => none
 | n + 1, p0, p1 => iH n (fun p0 p1 => dM n p0 p1) (fun p0 p1 => bS n p0 p1) (fun p0 p1 => eO n p0 p1) (fun p0 p1 => dX n p0 p1) p0 p1
end
def gq (n : Nat) (p0 : Ty) : Option Bool := ((((fC n p0).bind fun x1 => (cond x1 ((eO n p0 2).bind fun x2 => some (!x2)) (some false))) : Option Bool).bind fun s1 => some s1)
def jL (n : Nat) (qdj : Ty → (List (Str × Bool)) → Option (List (Str × Bool))) (p0 : Ty) : Nat → (Int × (List (Str × Bool))) → Option (LR (List (Str × Bool)) (List (Str × Bool)))
 | 0, _ => none
 | k + 1, s2 => (cond (decide (s2.1 < (p0.kids.length : Int))) ((idx p0.kids s2.1).bind fun x1 => ((qdj x1 s2.2).bind fun x2 => jL n qdj p0 k ((s2.1 + 1), x2))) (some (.nx s2.2)))
def jW (n : Nat) (qdj : Ty → (List (Str × Bool)) → Option (List (Str × Bool))) (p0 : Ty) (p1 : List (Str × Bool)) : Option (List (Str × Bool)) := (((cond (p0.kind == 3) ((qI p1 p0.name true).bind fun x3 => some x3) (some p1)) : Option (List (Str × Bool))).bind fun s1 => ((jL n qdj p0 n (0, s1)).bind (LR.el (fun s3 => some s3) (fun r => some r))))
def fU : Nat → Ty → (List (Str × Bool)) → Option (List (Str × Bool))
 | 0, _, _ => none
 | n + 1, p0, p1 => jW n (fun p0 p1 => fU n p0 p1) p0 p1
def iA (n : Nat) (p0 : Ty) : Option (List Str) := ((fC n p0).bind fun x1 => (cond (!x1) (some ([] : List Str)) ((fU n p0 ([] : List (Str × Bool))).bind fun x2 => ((lH n x2).bind fun x3 => some x3))))
def tV (n : Nat) (p0 : Carrier) (p1 : Str) : Option Bool := some (p0.name == p1)
def fG (n : Nat) (p0 : List Carrier) (p1 : Str) : Nat → Int → Option (LR Unit Int)
 | 0, _ => none
 | k + 1, s1 => (cond (decide (s1 < (p0.length : Int))) ((idx p0 s1).bind fun x1 => (cond (x1.name == p1) (some (.rt s1)) (fG n p0 p1 k (s1 + 1)))) (some (.nx ())))
def jw (n : Nat) (p0 : List Carrier) (p1 : Str) : Option Int := ((fG n p0 p1 n 0).bind (LR.el (fun s2 => some (-1)) (fun r => some r)))
def iw (n : Nat) (p0 : List Carrier) (p1 : Str) : Option Bool := ((jw n p0 p1).bind fun x1 => some (decide (0 ≤ x1)))
def lg (n : Nat) (p0 : Env) (p1 : Str) : Option Bool := ((iw n p0.carriers p1).bind fun x1 => some x1)
def lG (n : Nat) (p0 : Str) (p1 : List Carrier) (p2 : List Decl) : Option Bool := ((lg n (Env.mk p1 p2) p0).bind fun x1 => some (!x1))
def fO (n : Nat) (p0 : List Str) (p1 : List Carrier) (p2 : List Decl) : Nat → Int → Option (LR Unit Int)
 | 0, _ => none
 | k + 1, s1 => (cond (decide (s1 < (p0.length : Int))) ((idx p0 s1).bind fun x1 => ((lG n x1 p1 p2).bind fun x2 => (cond x2 (some (.rt s1)) (fO n p0 p1 p2 k (s1 + 1))))) (some (.nx ())))
def jS (n : Nat) (p0 : List Str) (p1 : List Carrier) (p2 : List Decl) : Option Int := ((fO n p0 p1 p2 n 0).bind (LR.el (fun s2 => some (-1)) (fun r => some r)))
def iM (n : Nat) (p0 : List Str) (p1 : List Carrier) (p2 : List Decl) : Option Bool := ((jS n p0 p1 p2).bind fun x1 => some (decide (0 ≤ x1)))
def iC (n : Nat) (p0 : Env) (p1 : Ty) : Option Bool := ((iA n p1).bind fun x1 => ((iM n x1 p0.carriers p0.names).bind fun x2 => some (!x2)))
def kG (n : Nat) (p0 : Env) : Nat → ((List Str) × Int) → Option (LR (List Str) (List Str))
 | 0, _ => none
 | k + 1, s1 => (cond (decide (s1.2 < (p0.carriers.length : Int))) ((idx p0.carriers s1.2).bind fun x3 => ((app 16 s1.1 ([x3.name])).bind fun x4 => ((app 16 x4 x3.elems).bind fun x5 => kG n p0 k (x5, (s1.2 + 1))))) (some (.nx s1.1)))
def kK (n : Nat) (p0 : Env) : Nat → ((List Str) × Int) → Option (LR (List Str) (List Str))
 | 0, _ => none
 | k + 1, s3 => (cond (decide (s3.2 < (p0.names.length : Int))) ((idx p0.names s3.2).bind fun x1 => ((app 16 s3.1 ([x1.name])).bind fun x2 => kK n p0 k (x2, (s3.2 + 1)))) (some (.nx s3.1)))
def jv (n : Nat) (p0 : Env) : Option (List Str) := ((kG n p0 n (([] : List Str), 0)).bind (LR.el (fun s2 => ((kK n p0 n (s2, 0)).bind (LR.el (fun s4 => some s4) (fun r => some r)))) (fun r => some r)))
def kI (n : Nat) (p0 : List Str) : Nat → (Int × (List (Str × Bool))) → Option (LR Unit Bool)
 | 0, _ => none
 | k + 1, s1 => (cond (decide (s1.1 < (p0.length : Int))) ((idx p0 s1.1).bind fun x1 => (((JB (dG s1.2 x1) (some false) (fun x3 => some x3)) : Option Bool).bind fun s3 => (cond s3 (some (.rt false)) ((qI s1.2 x1 true).bind fun x2 => kI n p0 k ((s1.1 + 1), x2))))) (some (.nx ())))
def kR (n : Nat) (p0 : List Str) : Option Bool := ((kI n p0 n (0, ([] : List (Str × Bool)))).bind (LR.el (fun s2 => some true) (fun r => some r)))
def gK (n : Nat) (x7 : Carrier) : Nat → Int → Option (LR Unit Bool)
 | 0, _ => none
 | k + 1, s8 => (cond (decide (s8 < (x7.elems.length : Int))) ((idx x7.elems s8).bind fun x8 => ((dI n x8).bind fun x9 => (cond (!x9) (some (.rt false)) (gK n x7 k (s8 + 1))))) (some (.nx ())))
def kE (n : Nat) (p0 : Env) : Nat → Int → Option (LR Unit Bool)
 | 0, _ => none
 | k + 1, s2 => (cond (decide (s2 < (p0.carriers.length : Int))) ((idx p0.carriers s2).bind fun x7 => ((((dI n x7.name).bind fun x10 => (cond (!x10) (some true) (some (decide (8 < (x7.elems.length : Int)))))) : Option Bool).bind fun s7 => (cond s7 (some (.rt false)) ((gK n x7 n 0).bind (LR.el (fun s9 => kE n p0 k (s2 + 1)) (fun r => some (.rt r))))))) (some (.nx ())))
def kL (n : Nat) (p0 : Env) : Nat → Int → Option (LR Unit Bool)
 | 0, _ => none
 | k + 1, s4 => (cond (decide (s4 < (p0.names.length : Int))) ((idx p0.names s4).bind fun x3 => ((((jy n x3.name).bind fun x4 => (cond (!x4) (some true) ((gq n x3.ty).bind fun x5 => (cond (!x5) (some true) ((iC n p0 x3.ty).bind fun x6 => some (!x6)))))) : Option Bool).bind fun s6 => (cond s6 (some (.rt false)) (kL n p0 k (s4 + 1))))) (some (.nx ())))
def cB (n : Nat) (p0 : Env) : Option Bool := (((cond (decide (8 < (p0.carriers.length : Int))) (some true) (some (decide (64 < (p0.names.length : Int))))) : Option Bool).bind fun s1 => (cond s1 (some false) ((kE n p0 n 0).bind (LR.el (fun s3 => ((kL n p0 n 0).bind (LR.el (fun s5 => ((jv n p0).bind fun x1 => ((kR n x1).bind fun x2 => some x2))) (fun r => some r)))) (fun r => some r)))))
def lQ (n : Nat) (p0 : Int) : Option Bool := (((cond (decide (97 ≤ p0)) (cond (decide (p0 ≤ 122)) (some true) (cond (decide (65 ≤ p0)) (some (decide (p0 ≤ 90))) (some false))) (cond (decide (65 ≤ p0)) (some (decide (p0 ≤ 90))) (some false))) : Option Bool).bind fun s1 => some s1)
def wS (n : Nat) (p0 : Str) (p1 : List Str) : Nat → Int → Option (LR Unit Bool)
 | 0, _ => none
 | k + 1, s1 => (cond (decide (s1 < (p1.length : Int))) ((idx p1 s1).bind fun x1 => (cond (x1 == p0) (some (.rt true)) (wS n p0 p1 k (s1 + 1)))) (some (.nx ())))
def jT (n : Nat) (p0 : Str) (p1 : List Str) : Option Bool := ((wS n p0 p1 n 0).bind (LR.el (fun s2 => some false) (fun r => some r)))
def qp (n : Nat) (p0 : Str) : Option Bool := ((jT n p0 ([([116, 114, 117, 101] : Str), ([102, 97, 108, 115, 101] : Str), ([110, 111, 116] : Str), ([111, 114] : Str), ([102, 111, 114, 97, 108, 108] : Str), ([101, 120, 105, 115, 116, 115] : Str), ([105, 110] : Str), ([110, 111, 116, 105, 110] : Str), ([115, 117, 98] : Str), ([109, 111, 100] : Str), ([102, 117, 110] : Str), ([99, 97, 114, 100] : Str), ([109, 105, 110] : Str), ([109, 97, 120] : Str), ([100, 111, 109] : Str), ([114, 97, 110] : Str), ([80, 79, 87] : Str), ([105, 110, 116] : Str), ([98, 111, 111, 108] : Str), ([115, 101, 116] : Str), ([112, 97, 105, 114] : Str)])).bind fun x1 => some x1)
def mX (n : Nat) (p0 : Int) : Option Bool := (((cond (decide (48 ≤ p0)) (some (decide (p0 ≤ 57))) (some false)) : Option Bool).bind fun s1 => some s1)
def j3 (n : Nat) (p0 : Str) : Nat → Int → Option (LR Unit Bool)
 | 0, _ => none
 | k + 1, s2 => (cond (decide (s2 < (p0.length : Int))) ((((gQ p0 s2).bind fun x1 => ((lQ n x1).bind fun x2 => (cond (!x2) ((gQ p0 s2).bind fun x3 => ((mX n x3).bind fun x4 => (cond (!x4) ((gQ p0 s2).bind fun x5 => some (x5 != 95)) (some false)))) (some false)))) : Option Bool).bind fun s4 => (cond s4 (some (.rt false)) (j3 n p0 k (s2 + 1)))) (some (.nx ())))
def dL (n : Nat) (p0 : Str) : Option Bool := (((cond (decide ((p0.length : Int) < 1)) (some true) (cond (decide (16 < (p0.length : Int))) (some true) ((gQ p0 0).bind fun x6 => ((lQ n x6).bind fun x7 => (cond (!x7) (some true) ((qp n p0).bind fun x8 => some x8)))))) : Option Bool).bind fun s1 => (cond s1 (some false) ((j3 n p0 n 1).bind (LR.el (fun s3 => some true) (fun r => some r)))))
def mR (n : Nat) (p0 : Str) : Option Bool := (((cond (decide (1 < (p0.length : Int))) ((gQ p0 ((p0.length : Int) - 1)).bind fun x1 => (cond (x1 == 39) ((ig p0 0 ((p0.length : Int) - 1)).bind fun x2 => ((dL n x2).bind fun x3 => some x3)) (some false))) (some false)) : Option Bool).bind fun s1 => some s1)
def oF (n : Nat) (p0 : Str) : Option Bool := ((((dL n p0).bind fun x1 => (cond x1 (some true) ((mR n p0).bind fun x2 => some x2))) : Option Bool).bind fun s1 => some s1)
def mW (n : Nat) (qck : Ty → Int → Int → Option Int) (p0 : Ty) (p1 : Int) : Nat → (Int × Int) → Option (LR Int Int)
 | 0, _ => none
 | k + 1, s4 => (cond (decide (s4.2 < (p0.kids.length : Int))) ((idx p0.kids s4.2).bind fun x1 => ((qck x1 (IntKind.wrap .i64 (p1 + 1)) s4.1).bind fun x2 => (cond (decide (x2 < 0)) (some (.rt (-1))) (mW n qck p0 p1 k (x2, (s4.2 + 1)))))) (some (.nx s4.1)))
def oM (n : Nat) (qck : Ty → Int → Int → Option Int) (p0 : Ty) (p1 : Int) (p2 : Int) : Option Int := (((cond (decide (6 < p1)) (some true) (cond (decide (16 < (IntKind.wrap .i64 (p2 + 1)))) (some true) (cond (p0.kind == 2) (some (decide (1 < p1))) (some false)))) : Option Bool).bind fun s1 => (cond s1 (some (-1)) (((((cond (p0.kind == 1) (some (p0.kind == 1)) (cond (p0.kind == 2) (some (p0.kind == 2)) (some (p0.kind == 3)))) : Option Bool).bind fun s6 => (cond s6 (some (.nx 0)) (cond (p0.kind == 5) (some (.nx 1)) (cond (p0.kind == 4) (some (.nx 2)) (some (.rt (-1))))))) : Option (LR Int Int)).bind (LR.el (fun s2 => (((cond ((p0.kids.length : Int) != s2) (some true) (cond (p0.kind == 3) ((dL n p0.name).bind fun x3 => (cond (!x3) (some true) (cond (p0.kind != 3) (some (!(p0.name == ([] : Str)))) (some false)))) (cond (p0.kind != 3) (some (!(p0.name == ([] : Str)))) (some false)))) : Option Bool).bind fun s3 => (cond s3 (some (-1)) ((mW n qck p0 p1 n ((IntKind.wrap .i64 (p2 + 1)), 0)).bind (LR.el (fun s5 => some s5) (fun r => some r)))))) (fun r => some r)))))
def kW : Nat → Ty → Int → Int → Option Int
 | 0, _, _, _ => none
 | n + 1, p0, p1, p2 => oM n (fun p0 p1 p2 => kW n p0 p1 p2) p0 p1 p2
def dO (n : Nat) (p0 : Ty) : Option Bool := ((kW n p0 1 0).bind fun x1 => some (decide (0 < x1)))
def mK (n : Nat) (qcp : Ty → Option Bool) (p0 : Ty) : Nat → Int → Option (LR Unit Bool)
 | 0, _ => none
 | k + 1, s1 => (cond (decide (s1 < (p0.kids.length : Int))) ((idx p0.kids s1).bind fun x1 => ((qcp x1).bind fun x2 => (cond x2 (some (.rt true)) (mK n qcp p0 k (s1 + 1))))) (some (.nx ())))
def lF (n : Nat) (qcp : Ty → Option Bool) (p0 : Ty) : Option Bool := (cond (p0.kind == 2) (some true) ((mK n qcp p0 n 0).bind (LR.el (fun s2 => some false) (fun r => some r))))
def fJ : Nat → Ty → Option Bool
 | 0, _ => none
 | n + 1, p0 => lF n (fun p0 => fJ n p0) p0
def nH (n : Nat) (qcn : Ty → Option (List Str)) (p0 : Ty) : Nat → ((List Str) × Int) → Option (LR (List Str) (List Str))
 | 0, _ => none
 | k + 1, s1 => (cond (decide (s1.2 < (p0.kids.length : Int))) ((idx p0.kids s1.2).bind fun x1 => ((qcn x1).bind fun x2 => ((app 16 s1.1 x2).bind fun x3 => nH n qcn p0 k (x3, (s1.2 + 1))))) (some (.nx s1.1)))
def l5 (n : Nat) (qcn : Ty → Option (List Str)) (p0 : Ty) : Option (List Str) := (cond (p0.kind == 3) (some ([p0.name])) ((nH n qcn p0 n (([] : List Str), 0)).bind (LR.el (fun s2 => some s2) (fun r => some r))))
def ji : Nat → Ty → Option (List Str)
 | 0, _ => none
 | n + 1, p0 => l5 n (fun p0 => ji n p0) p0
def lC (n : Nat) (p0 : Env) (p1 : Str) : Nat → Int → Option (LR Unit Int)
 | 0, _ => none
 | k + 1, s1 => (cond (decide (s1 < (p0.carriers.length : Int))) ((idx p0.carriers s1).bind fun x1 => (cond (x1.name == p1) (some (.rt s1)) (lC n p0 p1 k (s1 + 1)))) (some (.nx ())))
def fA (n : Nat) (p0 : Env) (p1 : Str) : Option Int := ((lC n p0 p1 n 0).bind (LR.el (fun s2 => some (-1)) (fun r => some r)))
def qO (n : Nat) (p0 : Env) (x1 : List Str) : Nat → Int → Option (LR Unit Bool)
 | 0, _ => none
 | k + 1, s1 => (cond (decide (s1 < (x1.length : Int))) ((idx x1 s1).bind fun x2 => ((fA n p0 x2).bind fun x3 => (cond (decide (x3 < 0)) (some (.rt false)) (qO n p0 x1 k (s1 + 1))))) (some (.nx ())))
def nu (n : Nat) (p0 : Env) (p1 : Ty) : Option Bool := ((ji n p1).bind fun x1 => ((qO n p0 x1 n 0).bind (LR.el (fun s2 => some true) (fun r => some r))))
def nR (n : Nat) (p0 : Env) : Nat → ((List Str) × Int) → Option (LR (List Str) (List Str))
 | 0, _ => none
 | k + 1, s1 => (cond (decide (s1.2 < (p0.carriers.length : Int))) ((idx p0.carriers s1.2).bind fun x5 => ((app 16 s1.1 ([x5.name])).bind fun x6 => nR n p0 k (x6, (s1.2 + 1)))) (some (.nx s1.1)))
def nT (n : Nat) (p0 : Env) : Nat → ((List Str) × Int) → Option (LR (List Str) (List Str))
 | 0, _ => none
 | k + 1, s3 => (cond (decide (s3.2 < (p0.carriers.length : Int))) ((idx p0.carriers s3.2).bind fun x3 => ((app 16 s3.1 x3.elems).bind fun x4 => nT n p0 k (x4, (s3.2 + 1)))) (some (.nx s3.1)))
def nD (n : Nat) (p0 : Env) : Nat → ((List Str) × Int) → Option (LR (List Str) (List Str))
 | 0, _ => none
 | k + 1, s5 => (cond (decide (s5.2 < (p0.names.length : Int))) ((idx p0.names s5.2).bind fun x1 => ((app 16 s5.1 ([x1.name])).bind fun x2 => nD n p0 k (x2, (s5.2 + 1)))) (some (.nx s5.1)))
def kC (n : Nat) (p0 : Env) : Option (List Str) := ((nR n p0 n (([] : List Str), 0)).bind (LR.el (fun s2 => ((nT n p0 n (s2, 0)).bind (LR.el (fun s4 => ((nD n p0 n (s4, 0)).bind (LR.el (fun s6 => some s6) (fun r => some r)))) (fun r => some r)))) (fun r => some r)))
def jY (n : Nat) (x10 : Carrier) : Nat → Int → Option (LR Unit Bool)
 | 0, _ => none
 | k + 1, s10 => (cond (decide (s10 < (x10.elems.length : Int))) ((idx x10.elems s10).bind fun x11 => ((dL n x11).bind fun x12 => (cond (!x12) (some (.rt false)) (jY n x10 k (s10 + 1))))) (some (.nx ())))
def nY (n : Nat) (p0 : Env) : Nat → Int → Option (LR Unit Bool)
 | 0, _ => none
 | k + 1, s2 => (cond (decide (s2 < (p0.carriers.length : Int))) ((idx p0.carriers s2).bind fun x10 => ((((dL n x10.name).bind fun x13 => (cond (!x13) (some true) (some (decide (8 < (x10.elems.length : Int)))))) : Option Bool).bind fun s9 => (cond s9 (some (.rt false)) ((jY n x10 n 0).bind (LR.el (fun s11 => nY n p0 k (s2 + 1)) (fun r => some (.rt r))))))) (some (.nx ())))
def nL (n : Nat) (p0 : Env) : Nat → Int → Option (LR Unit Bool)
 | 0, _ => none
 | k + 1, s4 => (cond (decide (s4 < (p0.names.length : Int))) ((idx p0.names s4).bind fun x5 => ((((oF n x5.name).bind fun x6 => (cond (!x6) (some true) ((dO n x5.ty).bind fun x7 => (cond (!x7) (some true) ((fJ n x5.ty).bind fun x8 => (cond x8 (some true) ((nu n p0 x5.ty).bind fun x9 => some (!x9)))))))) : Option Bool).bind fun s8 => (cond s8 (some (.rt false)) (nL n p0 k (s4 + 1))))) (some (.nx ())))
def lW (n : Nat) (x1 : List Str) : Nat → Int → Option (LR Unit Bool)
 | 0, _ => none
 | k + 1, s6 => (cond (decide (s6 < (x1.length : Int))) ((idx x1 s6).bind fun x2 => ((ig x1 0 s6).bind fun x3 => ((jT n x2 x3).bind fun x4 => (cond x4 (some (.rt false)) (lW n x1 k (s6 + 1)))))) (some (.nx ())))
def eU (n : Nat) (p0 : Env) : Option Bool := (((cond (decide (8 < (p0.carriers.length : Int))) (some true) (some (decide (64 < (p0.names.length : Int))))) : Option Bool).bind fun s1 => (cond s1 (some false) ((nY n p0 n 0).bind (LR.el (fun s3 => ((nL n p0 n 0).bind (LR.el (fun s5 => ((kC n p0).bind fun x1 => ((lW n x1 n 0).bind (LR.el (fun s7 => some true) (fun r => some r))))) (fun r => some r)))) (fun r => some r)))))
structure S_refinementlaw02_Binding where
  env : Env
  body : Tm
  domain : Tm
  name : Str
structure S_api_Binding where
  name : Str
  term : Tm
structure S_refinementlaw02_Put where
  path : List Int
  term : Tm
structure S_refinementref01_token where
  kind : Int
  s : Str
  at_ : Int
structure S_api_World where
  env : Env
  sizes : List Int
  values : List Val
structure S_refinementlaw03_Typed where
  sizes : List Int
  v : Val
  t : Ty
structure S_api_Scope where
  sizes : List Int
  lo : Int
  hi : Int
def Az (n : Nat) (p0 : Env) : Option Bool := (((cond (decide ((p0.carriers.length : Int) ≤ 100)) (some (decide ((p0.names.length : Int) ≤ 100))) (some false)) : Option Bool).bind fun s1 => some s1)
def iN (n : Nat) (p0 : Env) (p1 : List Int) : Nat → Int → Option (LR Unit Bool)
 | 0, _ => none
 | k + 1, s1 => (cond (decide (s1 < (p0.carriers.length : Int))) ((idx p0.carriers s1).bind fun x1 => ((((idx p1 s1).bind fun x2 => (cond (decide (x2 < 1)) (some true) ((idx p1 s1).bind fun x3 => (cond (decide (8 < x3)) (some true) (cond (decide (0 < (x1.elems.length : Int))) ((idx p1 s1).bind fun x4 => some (x4 != (x1.elems.length : Int))) (some false)))))) : Option Bool).bind fun s3 => (cond s3 (some (.rt false)) (iN n p0 p1 k (s1 + 1))))) (some (.nx ())))
def kV (n : Nat) (p0 : Env) (p1 : List Int) : Option Bool := (cond ((p1.length : Int) != (p0.carriers.length : Int)) (some false) ((iN n p0 p1 n 0).bind (LR.el (fun s2 => some true) (fun r => some r))))
def Ch (n : Nat) (p0 : Carrier) (p1 : Str) : Option Bool := some (p0.name == p1)
def eG (n : Nat) (p0 : List Carrier) (p1 : Str) : Nat → Int → Option (LR Unit Int)
 | 0, _ => none
 | k + 1, s1 => (cond (decide (s1 < (p0.length : Int))) ((idx p0 s1).bind fun x1 => (cond (x1.name == p1) (some (.rt s1)) (eG n p0 p1 k (s1 + 1)))) (some (.nx ())))
def iD (n : Nat) (p0 : List Carrier) (p1 : Str) : Option Int := ((eG n p0 p1 n 0).bind (LR.el (fun s2 => some (-1)) (fun r => some r)))
def qg (n : Nat) (p0 : Env) (p1 : Str) : Option Int := ((iD n p0.carriers p1).bind fun x1 => some x1)
def pQ (n : Nat) (p0 : Str) (p1 : List Carrier) (p2 : List Decl) : Option Bool := ((qg n (Env.mk p1 p2) p0).bind fun x1 => some (decide (x1 < 0)))
def eZ (n : Nat) (p0 : List Str) (p1 : List Carrier) (p2 : List Decl) : Nat → Int → Option (LR Unit Int)
 | 0, _ => none
 | k + 1, s1 => (cond (decide (s1 < (p0.length : Int))) ((idx p0 s1).bind fun x1 => ((pQ n x1 p1 p2).bind fun x2 => (cond x2 (some (.rt s1)) (eZ n p0 p1 p2 k (s1 + 1))))) (some (.nx ())))
def iL (n : Nat) (p0 : List Str) (p1 : List Carrier) (p2 : List Decl) : Option Int := ((eZ n p0 p1 p2 n 0).bind (LR.el (fun s2 => some (-1)) (fun r => some r)))
def gJ (n : Nat) (p0 : List Str) (p1 : List Carrier) (p2 : List Decl) : Option Bool := ((iL n p0 p1 p2).bind fun x1 => some (decide (0 ≤ x1)))
def sQ (n : Nat) (p0 : Env) (p1 : Ty) : Option Bool := ((((fC n p1).bind fun x1 => (cond x1 ((iA n p1).bind fun x2 => ((gJ n x2 p0.carriers p0.names).bind fun x3 => some (!x3))) (some false))) : Option Bool).bind fun s1 => some s1)
def cmp_isNaN_int (n : Nat) (p0 : Int) : Option Bool := some (p0 != p0)
def cmp_Compare_int (n : Nat) (p0 : Int) (p1 : Int) : Option Int := (cond (p0 != p0) (cond (p1 != p1) (some 0) (some (-1))) (cond (p1 != p1) (some 1) (cond (decide (p0 < p1)) (some (-1)) (cond (decide (p1 < p0)) (some 1) (some 0)))))
def mD (n : Nat) (p0 : List Int) : Nat → Int → Option (LR Unit Int)
 | 0, _ => none
 | k + 1, s1 => (cond (decide (s1 < (p0.length : Int))) ((idx p0 s1).bind fun x1 => (cond (x1 != 0) (some (.rt x1)) (mD n p0 k (s1 + 1)))) (some (.nx ())))
def wz (n : Nat) (p0 : List Int) : Option Int := ((mD n p0 n 0).bind (LR.el (fun s2 => some 0) (fun r => some r)))
def bY (n : Nat) (qcz : (List Val) → (List Val) → Option Int) (qcw : Val → Val → Option Int) (p0 : List Val) (p1 : List Val) : Nat → Int → Option (LR Unit Int)
 | 0, _ => none
 | k + 1, s1 => (cond (decide (s1 < (p0.length : Int))) ((idx p0 s1).bind fun x1 => (cond (decide ((p1.length : Int) ≤ s1)) (some (.rt 1)) ((idx p1 s1).bind fun x2 => ((qcw x1 x2).bind fun x3 => (cond (x3 != 0) (some (.rt x3)) (bY n qcz qcw p0 p1 k (s1 + 1))))))) (some (.nx ())))
def eX (n : Nat) (qcz : (List Val) → (List Val) → Option Int) (qcw : Val → Val → Option Int) (p0 : List Val) (p1 : List Val) : Option Int := ((bY n qcz qcw p0 p1 n 0).bind (LR.el (fun s2 => (cond (decide ((p0.length : Int) < (p1.length : Int))) (some (-1)) (some 0))) (fun r => some r)))
def lD (n : Nat) (qcz : (List Val) → (List Val) → Option Int) (qcw : Val → Val → Option Int) (p0 : Val) (p1 : Val) : Option Int := ((cmp_Compare_int n p0.kind p1.kind).bind fun x1 => ((cmp_Compare_int n p0.n p1.n).bind fun x2 => ((strings_Compare n p0.name p1.name).bind fun x3 => ((wz n ([x1, x2, x3])).bind fun x4 => (cond (x4 != 0) (some x4) ((qcz p0.kids p1.kids).bind fun x5 => some x5))))))
mutual
def dF : Nat → (List Val) → (List Val) → Option Int
 | 0, _, _ => none
 | n + 1, p0, p1 => eX n (fun p0 p1 => dF n p0 p1) (fun p0 p1 => fq n p0 p1) p0 p1
def fq : Nat → Val → Val → Option Int
 | 0, _, _ => none
 | n + 1, p0, p1 => lD n (fun p0 p1 => dF n p0 p1) (fun p0 p1 => fq n p0 p1) p0 p1
end
def ku (n : Nat) (qcx : Env → (List Int) → Val → Ty → Option Bool) (qcy : (List Ty) → Int → Int → Str → (List Val) → (List Carrier) → (List Decl) → (List Int) → Option Bool) (p2 : Val) : Nat → Int → Option (LR Unit Bool)
 | 0, _ => none
 | k + 1, s6 => (cond (decide (s6 < (p2.kids.length : Int))) ((idx p2.kids (IntKind.wrap .i64 (s6 - 1))).bind fun x4 => ((idx p2.kids s6).bind fun x5 => ((fq n x4 x5).bind fun x6 => (cond (decide (0 ≤ x6)) (some (.rt false)) (ku n qcx qcy p2 k (s6 + 1)))))) (some (.nx ())))
def d9 (n : Nat) (qcx : Env → (List Int) → Val → Ty → Option Bool) (qcy : (List Ty) → Int → Int → Str → (List Val) → (List Carrier) → (List Decl) → (List Int) → Option Bool) (p0 : Env) (p1 : List Int) (p2 : Val) (p3 : Ty) : Option Bool := (cond (p3.kind == 1) (((cond (p2.kind == 1) (cond (decide ((-1000000000) ≤ p2.n)) (cond (decide (p2.n ≤ 1000000000)) (cond (p2.name == ([] : Str)) (some ((p2.kids.length : Int) == 0)) (some false)) (some false)) (some false)) (some false)) : Option Bool).bind fun s1 => some s1) (cond (p3.kind == 2) (((cond (p2.kind == 2) (cond (p2.n == 0) (cond (p2.name == ([] : Str)) (some ((p2.kids.length : Int) == 0)) (some false)) (cond (p2.n == 1) (cond (p2.name == ([] : Str)) (some ((p2.kids.length : Int) == 0)) (some false)) (some false))) (some false)) : Option Bool).bind fun s2 => some s2) (cond (p3.kind == 3) ((qg n p0 p3.name).bind fun x1 => (((cond (decide (0 ≤ x1)) (cond (p2.kind == 3) (cond (p2.name == p3.name) (cond (decide (0 ≤ p2.n)) ((idx p1 x1).bind fun x2 => (cond (decide (p2.n < x2)) (some ((p2.kids.length : Int) == 0)) (some false))) (some false)) (some false)) (some false)) (some false)) : Option Bool).bind fun s3 => some s3)) (cond (p3.kind == 4) (((cond (p2.kind == 4) (cond (p2.n == 0) (cond (p2.name == ([] : Str)) (cond ((p2.kids.length : Int) == 2) ((qcy p3.kids p2.kind p2.n p2.name p2.kids p0.carriers p0.names p1).bind fun x3 => some x3) (some false)) (some false)) (some false)) (some false)) : Option Bool).bind fun s4 => some s4) (cond (p3.kind == 5) (((cond (p2.kind != 5) (some true) (cond (p2.n != 0) (some true) (cond (!(p2.name == ([] : Str))) (some true) (cond (decide (256 < (p2.kids.length : Int))) (some true) ((qcy p3.kids p2.kind p2.n p2.name p2.kids p0.carriers p0.names p1).bind fun x7 => some (!x7)))))) : Option Bool).bind fun s5 => (cond s5 (some false) ((ku n qcx qcy p2 n 1).bind (LR.el (fun s7 => some true) (fun r => some r))))) (some false))))))
def iJ (n : Nat) (qcx : Env → (List Int) → Val → Ty → Option Bool) (qcy : (List Ty) → Int → Int → Str → (List Val) → (List Carrier) → (List Decl) → (List Int) → Option Bool) (p0 : List Ty) (p4 : List Val) (p5 : List Carrier) (p6 : List Decl) (p7 : List Int) : Nat → Int → Option (LR Unit Bool)
 | 0, _ => none
 | k + 1, s1 => (cond (decide (s1 < (p4.length : Int))) ((idx p4 s1).bind fun x1 => ((idx p0 (if ((p0.length : Int) - 1) < s1 then ((p0.length : Int) - 1) else s1)).bind fun x2 => ((qcx (Env.mk p5 p6) p7 x1 x2).bind fun x3 => (cond (!x3) (some (.rt false)) (iJ n qcx qcy p0 p4 p5 p6 p7 k (s1 + 1)))))) (some (.nx ())))
def jH (n : Nat) (qcx : Env → (List Int) → Val → Ty → Option Bool) (qcy : (List Ty) → Int → Int → Str → (List Val) → (List Carrier) → (List Decl) → (List Int) → Option Bool) (p0 : List Ty) (p1 : Int) (p2 : Int) (p3 : Str) (p4 : List Val) (p5 : List Carrier) (p6 : List Decl) (p7 : List Int) : Option Bool := ((iJ n qcx qcy p0 p4 p5 p6 p7 n 0).bind (LR.el (fun s2 => some true) (fun r => some r)))
mutual
def eP : Nat → Env → (List Int) → Val → Ty → Option Bool
 | 0, _, _, _, _ => none
 | n + 1, p0, p1, p2, p3 => d9 n (fun p0 p1 p2 p3 => eP n p0 p1 p2 p3) (fun p0 p1 p2 p3 p4 p5 p6 p7 => jE n p0 p1 p2 p3 p4 p5 p6 p7) p0 p1 p2 p3
def jE : Nat → (List Ty) → Int → Int → Str → (List Val) → (List Carrier) → (List Decl) → (List Int) → Option Bool
 | 0, _, _, _, _, _, _, _, _ => none
 | n + 1, p0, p1, p2, p3, p4, p5, p6, p7 => jH n (fun p0 p1 p2 p3 => eP n p0 p1 p2 p3) (fun p0 p1 p2 p3 p4 p5 p6 p7 => jE n p0 p1 p2 p3 p4 p5 p6 p7) p0 p1 p2 p3 p4 p5 p6 p7
end
def xJ (n : Nat) (p0 : Env) (p1 : List Int) (p2 : Val) (p3 : Ty) : Option Bool := ((((cB n p0).bind fun x1 => (cond x1 ((kV n p0 p1).bind fun x2 => (cond x2 ((sQ n p0 p3).bind fun x3 => (cond x3 ((eP n p0 p1 p2 p3).bind fun x4 => some x4) (some false))) (some false))) (some false))) : Option Bool).bind fun s1 => some s1)
def oG (n : Nat) (p0 : Env) (p1 : List Int) : Nat → Int → Option (LR Unit Bool)
 | 0, _ => none
 | k + 1, s1 => (cond (decide (s1 < (p1.length : Int))) ((idx p0.carriers s1).bind fun x1 => ((((idx p1 s1).bind fun x2 => (cond (decide (x2 < 1)) (some true) ((idx p1 s1).bind fun x3 => (cond (decide (8 < x3)) (some true) (cond (decide (0 < (x1.elems.length : Int))) ((idx p1 s1).bind fun x4 => some (x4 != (x1.elems.length : Int))) (some false)))))) : Option Bool).bind fun s3 => (cond s3 (some (.rt false)) (oG n p0 p1 k (s1 + 1))))) (some (.nx ())))
def uE (n : Nat) (p0 : Env) (p1 : List Int) : Option Bool := (cond ((p1.length : Int) != (p0.carriers.length : Int)) (some false) ((oG n p0 p1 n 0).bind (LR.el (fun s2 => some true) (fun r => some r))))
def rX (n : Nat) (p0 : Int) (p1 : Int) : Option Int := (cond (decide (p0 < p1)) (some (-1)) (cond (decide (p1 < p0)) (some 1) (some 0)))
def jO (n : Nat) (qcu : Val → Val → Option Int) (p0 : Val) (p1 : Val) : Nat → Int → Option (LR Unit Int)
 | 0, _ => none
 | k + 1, s1 => (((cond (decide (s1 < (p0.kids.length : Int))) (some (decide (s1 < (p1.kids.length : Int)))) (some false)) : Option Bool).bind fun s3 => (cond s3 ((idx p0.kids s1).bind fun x4 => ((idx p1.kids s1).bind fun x5 => ((qcu x4 x5).bind fun x6 => (cond (x6 != 0) (some (.rt x6)) (jO n qcu p0 p1 k (IntKind.wrap .i64 (s1 + 1))))))) (some (.nx ()))))
def mP (n : Nat) (qcu : Val → Val → Option Int) (p0 : Val) (p1 : Val) : Option Int := (cond (p0.kind != p1.kind) ((rX n p0.kind p1.kind).bind fun x1 => some x1) (cond (p0.n != p1.n) ((rX n p0.n p1.n).bind fun x2 => some x2) (cond (Op.bytesLess p0.name p1.name) (some (-1)) (cond (!(Op.bytesLess p0.name p1.name || p0.name == p1.name)) (some 1) ((jO n qcu p0 p1 n 0).bind (LR.el (fun s2 => ((rX n (p0.kids.length : Int) (p1.kids.length : Int)).bind fun x3 => some x3)) (fun r => some r)))))))
def jF : Nat → Val → Val → Option Int
 | 0, _, _ => none
 | n + 1, p0, p1 => mP n (fun p0 p1 => jF n p0 p1) p0 p1
def jN (n : Nat) (qcv : Env → (List Int) → Val → Ty → Option Bool) (p0 : Env) (p1 : List Int) (p2 : Val) (p3 : Ty) : Nat → Int → Option (LR Unit Bool)
 | 0, _ => none
 | k + 1, s6 => (cond (decide (s6 < (p2.kids.length : Int))) ((((idx p2.kids s6).bind fun x9 => ((idx p3.kids 0).bind fun x10 => ((qcv p0 p1 x9 x10).bind fun x11 => (cond (!x11) (some true) (cond (decide (0 < s6)) ((idx p2.kids (s6 - 1)).bind fun x12 => ((idx p2.kids s6).bind fun x13 => ((jF n x12 x13).bind fun x14 => some (decide (0 ≤ x14))))) (some false)))))) : Option Bool).bind fun s8 => (cond s8 (some (.rt false)) (jN n qcv p0 p1 p2 p3 k (s6 + 1)))) (some (.nx ())))
def fV (n : Nat) (qcv : Env → (List Int) → Val → Ty → Option Bool) (p0 : Env) (p1 : List Int) (p2 : Val) (p3 : Ty) : Option Bool := (cond (p3.kind == 1) (((cond (p2.kind == 1) (cond (p2.name == ([] : Str)) (cond ((p2.kids.length : Int) == 0) (cond (decide ((-1000000000) ≤ p2.n)) (some (decide (p2.n ≤ 1000000000))) (some false)) (some false)) (some false)) (some false)) : Option Bool).bind fun s1 => some s1) (cond (p3.kind == 2) (((cond (p2.kind == 2) (cond (p2.name == ([] : Str)) (cond ((p2.kids.length : Int) == 0) (cond (p2.n == 0) (some true) (some (p2.n == 1))) (some false)) (some false)) (some false)) : Option Bool).bind fun s2 => some s2) (cond (p3.kind == 3) (((cond (p2.kind == 3) (cond (p2.name == p3.name) (cond ((p2.kids.length : Int) == 0) (cond (decide (0 ≤ p2.n)) ((fA n p0 p3.name).bind fun x1 => ((idx p1 x1).bind fun x2 => some (decide (p2.n < x2)))) (some false)) (some false)) (some false)) (some false)) : Option Bool).bind fun s3 => some s3) (cond (p3.kind == 4) (((cond (p2.kind == 4) (cond (p2.n == 0) (cond (p2.name == ([] : Str)) (cond ((p2.kids.length : Int) == 2) ((idx p2.kids 0).bind fun x3 => ((idx p3.kids 0).bind fun x4 => ((qcv p0 p1 x3 x4).bind fun x5 => (cond x5 ((idx p2.kids 1).bind fun x6 => ((idx p3.kids 1).bind fun x7 => ((qcv p0 p1 x6 x7).bind fun x8 => some x8))) (some false))))) (some false)) (some false)) (some false)) (some false)) : Option Bool).bind fun s4 => some s4) (((cond (p2.kind != 5) (some true) (cond (p2.n != 0) (some true) (cond (!(p2.name == ([] : Str))) (some true) (some (decide (256 < (p2.kids.length : Int))))))) : Option Bool).bind fun s5 => (cond s5 (some false) ((jN n qcv p0 p1 p2 p3 n 0).bind (LR.el (fun s7 => some true) (fun r => some r)))))))))
def kP : Nat → Env → (List Int) → Val → Ty → Option Bool
 | 0, _, _, _, _ => none
 | n + 1, p0, p1, p2, p3 => fV n (fun p0 p1 p2 p3 => kP n p0 p1 p2 p3) p0 p1 p2 p3
def Cn (n : Nat) (p0 : Env) (p1 : List Int) (p2 : Val) (p3 : Ty) : Option Bool := ((((eU n p0).bind fun x1 => (cond x1 ((dO n p3).bind fun x2 => (cond x2 ((nu n p0 p3).bind fun x3 => (cond x3 ((uE n p0 p1).bind fun x4 => (cond x4 ((kP n p0 p1 p2 p3).bind fun x5 => some x5) (some false))) (some false))) (some false))) (some false))) : Option Bool).bind fun s1 => some s1)
def kN (n : Nat) (p0 : S_api_World) : Nat → Int → Option (LR Unit Bool)
 | 0, _ => none
 | k + 1, s2 => (cond (decide (s2 < (p0.env.names.length : Int))) ((idx p0.env.names s2).bind fun x1 => ((idx p0.values s2).bind fun x2 => ((eP n p0.env p0.sizes x2 x1.ty).bind fun x3 => (cond (!x3) (some (.rt false)) (kN n p0 k (s2 + 1)))))) (some (.nx ())))
def mU (n : Nat) (p0 : S_api_World) : Option Bool := ((((cB n p0.env).bind fun x4 => (cond (!x4) (some true) ((kV n p0.env p0.sizes).bind fun x5 => (cond (!x5) (some true) (some ((p0.values.length : Int) != (p0.env.names.length : Int))))))) : Option Bool).bind fun s1 => (cond s1 (some false) ((kN n p0 n 0).bind (LR.el (fun s3 => some true) (fun r => some r)))))
def j4 (n : Nat) (p0 : S_api_World) : Nat → Int → Option (LR Unit Bool)
 | 0, _ => none
 | k + 1, s2 => (cond (decide (s2 < (p0.values.length : Int))) ((idx p0.values s2).bind fun x1 => ((idx p0.env.names s2).bind fun x2 => ((kP n p0.env p0.sizes x1 x2.ty).bind fun x3 => (cond (!x3) (some (.rt false)) (j4 n p0 k (s2 + 1)))))) (some (.nx ())))
def oJ (n : Nat) (p0 : S_api_World) : Option Bool := ((((eU n p0.env).bind fun x4 => (cond (!x4) (some true) ((uE n p0.env p0.sizes).bind fun x5 => (cond (!x5) (some true) (some ((p0.values.length : Int) != (p0.env.names.length : Int))))))) : Option Bool).bind fun s1 => (cond s1 (some false) ((j4 n p0 n 0).bind (LR.el (fun s3 => some true) (fun r => some r)))))
def mM (n : Nat) (p0 : Env) (p1 : S_api_Scope) : Option Bool := ((((cB n p0).bind fun x1 => (cond x1 ((kV n p0 p1.sizes).bind fun x2 => (cond x2 (cond (decide ((-1000000000) ≤ p1.lo)) (cond (decide (p1.lo ≤ p1.hi)) (some (decide (p1.hi ≤ 1000000000))) (some false)) (some false)) (some false))) (some false))) : Option Bool).bind fun s1 => some s1)
def oK (n : Nat) (p0 : Env) (p1 : S_api_Scope) : Option Bool := ((((eU n p0).bind fun x1 => (cond x1 ((uE n p0 p1.sizes).bind fun x2 => (cond x2 (cond (decide ((-1000000000) ≤ p1.lo)) (cond (decide (p1.lo ≤ p1.hi)) (some (decide (p1.hi ≤ 1000000000))) (some false)) (some false)) (some false))) (some false))) : Option Bool).bind fun s1 => some s1)
def vV (n : Nat) (p0 : S_api_World) (p1 : S_refinementlaw03_Typed) (p2 : S_api_Scope) : Option Bool := ((Az n p0.env).bind fun x1 => (cond (!x1) ((Bp n).bind fun x2 => some x2) ((((xJ n p0.env p1.sizes p1.v p1.t).bind fun x3 => ((Cn n p0.env p1.sizes p1.v p1.t).bind fun x4 => (cond (x3 == x4) ((mU n p0).bind fun x5 => ((oJ n p0).bind fun x6 => (cond (x5 == x6) ((mM n p0.env p2).bind fun x7 => ((oK n p0.env p2).bind fun x8 => (cond (x7 == x8) ((Bp n).bind fun x9 => some x9) (some false)))) (some false)))) (some false)))) : Option Bool).bind fun s1 => some s1)))
end Abs
end Go.Proofs.YtkopaeklihhdlaaGreat
namespace Go.Proofs.YtkopaeklihhdlaaGreat
namespace Abs
open Go Go.Proofs
def gT (x : S_api_World) : List AV := [.slice (List.map ah x.env.carriers) .shared, .slice (List.map aA x.env.names) .shared, .slice (List.map encI x.sizes) .shared, .slice (List.map ak x.values) .shared]
theorem aO (g : Nat → Nat) (l : List S_api_World) : aV g (l.map gT) = l.map gT := rQ (fun g x => by simp only [gT, aZ, ren, bX, bB, bf, bK, bq, bJ, aF, aN, aR]) g l
def dh (x : S_refinementlaw03_Typed) : List AV := [.slice (List.map encI x.sizes) .shared, .int .i64 x.v.kind, .int .i64 x.v.n, .str x.v.name, .slice (List.map ak x.v.kids) .shared, .int .i64 x.t.kind, .str x.t.name, .slice (List.map aC x.t.kids) .shared]
theorem au (g : Nat → Nat) (l : List S_refinementlaw03_Typed) : aV g (l.map dh) = l.map dh := rQ (fun g x => by simp only [dh, aZ, ren, bX, bB, bf, bK, bq, bJ, aF, aN, aR, aO]) g l
def lX (x : S_api_Scope) : List AV := [.slice (List.map encI x.sizes) .shared, .int .i64 x.lo, .int .i64 x.hi]
theorem aP (g : Nat → Nat) (l : List S_api_Scope) : aV g (l.map lX) = l.map lX := rQ (fun g x => by simp only [lX, aZ, ren, bX, bB, bf, bK, bq, bJ, aF, aN, aR, aO, au]) g l
theorem aaO : aY Tryz.prog 9 = true := by kernel_rfl
theorem Zl : aY Tryz.prog 11 = true := by kernel_rfl
theorem YQ : aY Tryz.prog 12 = true := by kernel_rfl
theorem ZF : aY Tryz.prog 13 = true := by kernel_rfl
theorem Yj : aY Tryz.prog 14 = true := by kernel_rfl
theorem Zt : aY Tryz.prog 15 = true := by kernel_rfl
theorem Yh : aY Tryz.prog 16 = true := by kernel_rfl
theorem Uw : aY Tryz.prog 23 = true := by kernel_rfl
theorem UF : aY Tryz.prog 26 = true := by kernel_rfl
theorem M7 : aY Tryz.prog 42 = true := by kernel_rfl
theorem Ni : aY Tryz.prog 43 = true := by kernel_rfl
theorem Ze : aY Tryz.prog 44 = true := by kernel_rfl
theorem NK : aY Tryz.prog 45 = true := by kernel_rfl
theorem LY : aY Tryz.prog 46 = true := by kernel_rfl
theorem Tx : aY Tryz.prog 47 = true := by kernel_rfl
theorem Uk : aY Tryz.prog 48 = true := by kernel_rfl
theorem LX : aY Tryz.prog 49 = true := by kernel_rfl
theorem DZ : aY Tryz.prog 50 = true := by kernel_rfl
theorem Zv : aY Tryz.prog 59 = true := by kernel_rfl
theorem Ur : aY Tryz.prog 60 = true := by kernel_rfl
theorem Y5 : aY Tryz.prog 62 = true := by kernel_rfl
theorem MO : aY Tryz.prog 66 = true := by kernel_rfl
theorem Uf : aY Tryz.prog 67 = true := by kernel_rfl
theorem TN : aY Tryz.prog 68 = true := by kernel_rfl
theorem G7 : aY Tryz.prog 87 = true := by kernel_rfl
theorem YR : aY Tryz.prog 88 = true := by kernel_rfl
theorem YJ : aY Tryz.prog 89 = true := by kernel_rfl
theorem YP : aY Tryz.prog 90 = true := by kernel_rfl
theorem Yt : aY Tryz.prog 91 = true := by kernel_rfl
theorem Y4 : aY Tryz.prog 92 = true := by kernel_rfl
theorem MP : aY Tryz.prog 93 = true := by kernel_rfl
theorem TQ : aY Tryz.prog 94 = true := by kernel_rfl
theorem Ux : aY Tryz.prog 95 = true := by kernel_rfl
theorem Zx : aY Tryz.prog 96 = true := by kernel_rfl
theorem UA : aY Tryz.prog 97 = true := by kernel_rfl
theorem DC : aY Tryz.prog 98 = true := by kernel_rfl
theorem Ye : aY Tryz.prog 99 = true := by kernel_rfl
theorem Qm : aY Tryz.prog 100 = true := by kernel_rfl
theorem Xo : aY Tryz.prog 101 = true := by kernel_rfl
theorem Qf : aY Tryz.prog 102 = true := by kernel_rfl
theorem Q0 : aY Tryz.prog 103 = true := by kernel_rfl
theorem QB : aY Tryz.prog 104 = true := by kernel_rfl
theorem Qs : aY Tryz.prog 114 = true := by kernel_rfl
theorem Qx : aY Tryz.prog 119 = true := by kernel_rfl
theorem Xk : aY Tryz.prog 120 = true := by kernel_rfl
theorem QI : aY Tryz.prog 133 = true := by kernel_rfl
theorem Xz : aY Tryz.prog 134 = true := by kernel_rfl
theorem WI : aY Tryz.prog 135 = true := by kernel_rfl
theorem Qe : aY Tryz.prog 150 = true := by kernel_rfl
theorem Xj : aY Tryz.prog 151 = true := by kernel_rfl
theorem WM : aY Tryz.prog 152 = true := by kernel_rfl
theorem XC : aY Tryz.prog 153 = true := by kernel_rfl
theorem QW : aY Tryz.prog 154 = true := by kernel_rfl
theorem Xq : aY Tryz.prog 155 = true := by kernel_rfl
theorem X0 : aY Tryz.prog 156 = true := by kernel_rfl
theorem Qp : aY Tryz.prog 157 = true := by kernel_rfl
theorem Qk : aY Tryz.prog 158 = true := by kernel_rfl
theorem QY : aY Tryz.prog 159 = true := by kernel_rfl
theorem Xn : aY Tryz.prog 162 = true := by kernel_rfl
theorem XW : aY Tryz.prog 182 = true := by kernel_rfl
theorem XP : aY Tryz.prog 203 = true := by kernel_rfl
theorem WC : aY Tryz.prog 204 = true := by kernel_rfl
theorem QZ : aY Tryz.prog 205 = true := by kernel_rfl
theorem WG : aY Tryz.prog 206 = true := by kernel_rfl
theorem XU : aY Tryz.prog 207 = true := by kernel_rfl
theorem XO : aY Tryz.prog 208 = true := by kernel_rfl
theorem XI : aY Tryz.prog 209 = true := by kernel_rfl
theorem XQ : aY Tryz.prog 287 = true := by kernel_rfl
theorem QU : aY Tryz.prog 288 = true := by kernel_rfl
theorem rg {m id : Nat} {l : Array Oper} {dr : Bool} {Q : QT} {t : List AV} {h : List AObj} (r : Nat) (hr : rep r h fun h2 => FL h 0 fun k => xg Tryz.prog τ l.toList l.toList k [] t h2 fun es t h => eF dr (nW l.toList es = true ∧ Q .normal t h) (Q .normal t h)) : AW Tryz.prog m (.region id l dr) Q t h := AW.region aI fP r hr
attribute [simp] ren aZ aV bX JJ JW Zh YD WL Oh Tj bD bB bf bK bq bJ aF aN aR aO au aP
end Abs
end Go.Proofs.YtkopaeklihhdlaaGreat
