/-
  The plain functions of the program (printed by gen.py). Conditions: none.
-/
import Derived.Test.YtiiaccpcoclklaaGreatCData2ox2b18fc
set_option linter.unusedSimpArgs false
set_option linter.unusedVariables false
namespace Go.Proofs.YtiiaccpcoclklaaGreat
namespace Abs
open Go Go.Proofs
set_option maxRecDepth 100000
set_option maxHeartbeats 40000000
def Ew (n : Nat) (p0 : Env) : Nat → Int → Option (LR Unit Bool)
 | 0, _ => none
 | k + 1, s2 => (cond (decide (s2 < (p0.carriers.length : Int))) ((idx p0.carriers s2).bind fun x1 => (cond (decide (200 < (x1.elems.length : Int))) (some (.rt false)) (Ew n p0 k (s2 + 1)))) (some (.nx ())))
def kQ (n : Nat) (p0 : Env) : Option Bool := (((cond (decide (200 < (p0.carriers.length : Int))) (some true) (some (decide (200 < (p0.names.length : Int))))) : Option Bool).bind fun s1 => (cond s1 (some false) ((Ew n p0 n 0).bind (LR.el (fun s3 => some true) (fun r => some r)))))
def BF (n : Nat) (p0 : Int) : Option Bool := (((cond (decide (97 ≤ p0)) (cond (decide (p0 ≤ 122)) (some true) (cond (decide (65 ≤ p0)) (some (decide (p0 ≤ 90))) (some false))) (cond (decide (65 ≤ p0)) (some (decide (p0 ≤ 90))) (some false))) : Option Bool).bind fun s1 => some s1)
def CF (n : Nat) (p0 : Str) : Option Bool := (((cond (p0 == ([116, 114, 117, 101] : Str)) (some (p0 == ([116, 114, 117, 101] : Str))) (cond (p0 == ([102, 97, 108, 115, 101] : Str)) (some (p0 == ([102, 97, 108, 115, 101] : Str))) (cond (p0 == ([110, 111, 116] : Str)) (some (p0 == ([110, 111, 116] : Str))) (cond (p0 == ([111, 114] : Str)) (some (p0 == ([111, 114] : Str))) (cond (p0 == ([102, 111, 114, 97, 108, 108] : Str)) (some (p0 == ([102, 111, 114, 97, 108, 108] : Str))) (cond (p0 == ([101, 120, 105, 115, 116, 115] : Str)) (some (p0 == ([101, 120, 105, 115, 116, 115] : Str))) (cond (p0 == ([105, 110] : Str)) (some (p0 == ([105, 110] : Str))) (cond (p0 == ([110, 111, 116, 105, 110] : Str)) (some (p0 == ([110, 111, 116, 105, 110] : Str))) (cond (p0 == ([115, 117, 98] : Str)) (some (p0 == ([115, 117, 98] : Str))) (cond (p0 == ([109, 111, 100] : Str)) (some (p0 == ([109, 111, 100] : Str))) (cond (p0 == ([102, 117, 110] : Str)) (some (p0 == ([102, 117, 110] : Str))) (cond (p0 == ([99, 97, 114, 100] : Str)) (some (p0 == ([99, 97, 114, 100] : Str))) (cond (p0 == ([109, 105, 110] : Str)) (some (p0 == ([109, 105, 110] : Str))) (cond (p0 == ([109, 97, 120] : Str)) (some (p0 == ([109, 97, 120] : Str))) (cond (p0 == ([100, 111, 109] : Str)) (some (p0 == ([100, 111, 109] : Str))) (cond (p0 == ([114, 97, 110] : Str)) (some (p0 == ([114, 97, 110] : Str))) (cond (p0 == ([80, 79, 87] : Str)) (some (p0 == ([80, 79, 87] : Str))) (cond (p0 == ([105, 110, 116] : Str)) (some (p0 == ([105, 110, 116] : Str))) (cond (p0 == ([98, 111, 111, 108] : Str)) (some (p0 == ([98, 111, 111, 108] : Str))) (cond (p0 == ([115, 101, 116] : Str)) (some (p0 == ([115, 101, 116] : Str))) (some (p0 == ([112, 97, 105, 114] : Str))))))))))))))))))))))) : Option Bool).bind fun s1 => (cond s1 (some true) (some false)))
def GA (n : Nat) (p0 : Int) : Option Bool := (((cond (decide (48 ≤ p0)) (some (decide (p0 ≤ 57))) (some false)) : Option Bool).bind fun s1 => some s1)
def Et (n : Nat) (p0 : Int) : Option Bool := ((((BF n p0).bind fun x1 => (cond x1 (some true) ((GA n p0).bind fun x2 => (cond x2 (some true) (some (p0 == 95)))))) : Option Bool).bind fun s1 => some s1)
def qE (n : Nat) (p0 : Str) : Nat → Int → Option (LR Unit Bool)
 | 0, _ => none
 | k + 1, s2 => (cond (decide (s2 < (p0.length : Int))) ((jl p0 s2).bind fun x1 => ((Et n x1).bind fun x2 => (cond (!x2) (some (.rt false)) (qE n p0 k (s2 + 1))))) (some (.nx ())))
def gY (n : Nat) (p0 : Str) : Option Bool := (((cond (p0 == ([] : Str)) (some true) (cond (decide (16 < (p0.length : Int))) (some true) ((jl p0 0).bind fun x3 => ((BF n x3).bind fun x4 => (cond (!x4) (some true) ((CF n p0).bind fun x5 => some x5)))))) : Option Bool).bind fun s1 => (cond s1 (some false) ((qE n p0 n 0).bind (LR.el (fun s3 => some true) (fun r => some r)))))
def mX (n : Nat) (p0 p1 : Str) : Option Bool := (((cond (decide ((p1.length : Int) ≤ (p0.length : Int))) ((iX p0 (IntKind.wrap .i64 ((p0.length : Int) - (p1.length : Int))) (p0.length : Int)).bind fun x1 => some (x1 == p1)) (some false)) : Option Bool).bind fun s1 => some s1)
def mF (n : Nat) (p0 p1 : Str) : Option Str := ((mX n p0 p1).bind fun x1 => (cond x1 ((iX p0 0 (IntKind.wrap .i64 ((p0.length : Int) - (p1.length : Int)))).bind fun x2 => some x2) (some p0)))
def strings_TrimSuffix (n : Nat) (p0 p1 : Str) : Option Str := ((mF n p0 p1).bind fun x1 => some x1)
def rG (n : Nat) (p0 : Str) : Option Bool := ((strings_TrimSuffix n p0 ([39] : Str)).bind fun x1 => ((gY n x1).bind fun x2 => some x2))
def lG (n : Nat) (p0 p1 : Int) (p2 p3 : Int) : Option (Bool × Int) := (((cond (decide ((IntKind.wrap .i64 (p0 + 1)) ≤ p1)) (some (decide (p3 ≤ p2))) (some false)) : Option Bool).bind fun s1 => some (s1, (IntKind.wrap .i64 (p0 + 1))))
def nM (n : Nat) (qd2 : (List Ty) → Int → Int → Int → Int → Option (Int × Int)) (qdy : (List Ty) → Int → Int → Int → Int → Option (Bool × Int)) (qd6 : Int → Int → Int → Ty → Int → Bool → Option (Bool × Int)) (qd7 : Ty → Int → Int → Int → Int → Option (Bool × Int)) (p0 : List Ty) (p2 p3 p4 : Int) : Nat → (Int × Int) → Option (LR Int (Int × Int))
 | 0, _ => none
 | k + 1, s1 => (cond (decide (s1.1 < (p0.length : Int))) ((idx p0 s1.1).bind fun x1 => ((qd7 x1 s1.2 p2 p3 p4).bind fun x2 => (cond x2.1 (some (.rt (s1.1, x2.2))) (nM n qd2 qdy qd6 qd7 p0 p2 p3 p4 k ((s1.1 + 1), x2.2))))) (some (.nx s1.2)))
def iO (n : Nat) (qd2 : (List Ty) → Int → Int → Int → Int → Option (Int × Int)) (qdy : (List Ty) → Int → Int → Int → Int → Option (Bool × Int)) (qd6 : Int → Int → Int → Ty → Int → Bool → Option (Bool × Int)) (qd7 : Ty → Int → Int → Int → Int → Option (Bool × Int)) (p0 : List Ty) (p1 p2 : Int) (p3 p4 : Int) : Option (Int × Int) := ((nM n qd2 qdy qd6 qd7 p0 p2 p3 p4 n (0, p1)).bind (LR.el (fun s2 => some ((-1), s2)) (fun r => some r)))
def kr (n : Nat) (qd2 : (List Ty) → Int → Int → Int → Int → Option (Int × Int)) (qdy : (List Ty) → Int → Int → Int → Int → Option (Bool × Int)) (qd6 : Int → Int → Int → Ty → Int → Bool → Option (Bool × Int)) (qd7 : Ty → Int → Int → Int → Int → Option (Bool × Int)) (p0 : List Ty) (p1 p2 : Int) (p3 p4 : Int) : Option (Bool × Int) := ((qd2 p0 p1 p2 p3 p4).bind fun x1 => some ((decide (0 ≤ x1.1)), x1.2))
def l8 (n : Nat) (qd2 : (List Ty) → Int → Int → Int → Int → Option (Int × Int)) (qdy : (List Ty) → Int → Int → Int → Int → Option (Bool × Int)) (qd6 : Int → Int → Int → Ty → Int → Bool → Option (Bool × Int)) (qd7 : Ty → Int → Int → Int → Int → Option (Bool × Int)) (p0 p1 p2 : Int) (p3 : Ty) (p4 : Int) (p5 : Bool) : Option (Bool × Int) := ((lG n p0 p1 p2 p4).bind fun x1 => (cond (!x1.1) (some (false, x1.2)) (((cond (p3.kind == 1) (some (.nx 0)) (cond (p3.kind == 2) (cond p5 (some (.rt (false, x1.2))) (some (.nx 0))) (cond (p3.kind == 3) ((gY n p3.name).bind fun x3 => (cond (!x3) (some (.rt (false, x1.2))) (some (.nx 0)))) (cond (p3.kind == 4) (some (.nx 2)) (cond (p3.kind == 5) (some (.nx 1)) (some (.rt (false, x1.2)))))))) : Option (LR Int (Bool × Int))).bind (LR.el (fun s1 => (((cond ((p3.kids.length : Int) != s1) (some true) (cond (p3.kind != 3) (some (!(p3.name == ([] : Str)))) (some false))) : Option Bool).bind fun s2 => (cond s2 (some (false, x1.2)) ((qdy p3.kids x1.2 p1 p2 p4).bind fun x2 => some ((!x2.1), x2.2))))) (fun r => some r)))))
def kR (n : Nat) (qd2 : (List Ty) → Int → Int → Int → Int → Option (Int × Int)) (qdy : (List Ty) → Int → Int → Int → Int → Option (Bool × Int)) (qd6 : Int → Int → Int → Ty → Int → Bool → Option (Bool × Int)) (qd7 : Ty → Int → Int → Int → Int → Option (Bool × Int)) (p0 : Ty) (p1 p2 : Int) (p3 p4 : Int) : Option (Bool × Int) := ((qd6 p1 p2 p3 p0 (IntKind.wrap .i64 (p4 + 1)) true).bind fun x1 => some ((!x1.1), x1.2))
mutual
def iC : Nat → (List Ty) → Int → Int → Int → Int → Option (Int × Int)
 | 0, _, _, _, _, _ => none
 | n + 1, p0, p1, p2, p3, p4 => iO n (fun p0 p1 p2 p3 p4 => iC n p0 p1 p2 p3 p4) (fun p0 p1 p2 p3 p4 => eB n p0 p1 p2 p3 p4) (fun p0 p1 p2 p3 p4 p5 => gD n p0 p1 p2 p3 p4 p5) (fun p0 p1 p2 p3 p4 => eP n p0 p1 p2 p3 p4) p0 p1 p2 p3 p4
def eB : Nat → (List Ty) → Int → Int → Int → Int → Option (Bool × Int)
 | 0, _, _, _, _, _ => none
 | n + 1, p0, p1, p2, p3, p4 => kr n (fun p0 p1 p2 p3 p4 => iC n p0 p1 p2 p3 p4) (fun p0 p1 p2 p3 p4 => eB n p0 p1 p2 p3 p4) (fun p0 p1 p2 p3 p4 p5 => gD n p0 p1 p2 p3 p4 p5) (fun p0 p1 p2 p3 p4 => eP n p0 p1 p2 p3 p4) p0 p1 p2 p3 p4
def gD : Nat → Int → Int → Int → Ty → Int → Bool → Option (Bool × Int)
 | 0, _, _, _, _, _, _ => none
 | n + 1, p0, p1, p2, p3, p4, p5 => l8 n (fun p0 p1 p2 p3 p4 => iC n p0 p1 p2 p3 p4) (fun p0 p1 p2 p3 p4 => eB n p0 p1 p2 p3 p4) (fun p0 p1 p2 p3 p4 p5 => gD n p0 p1 p2 p3 p4 p5) (fun p0 p1 p2 p3 p4 => eP n p0 p1 p2 p3 p4) p0 p1 p2 p3 p4 p5
def eP : Nat → Ty → Int → Int → Int → Int → Option (Bool × Int)
 | 0, _, _, _, _, _ => none
 | n + 1, p0, p1, p2, p3, p4 => kR n (fun p0 p1 p2 p3 p4 => iC n p0 p1 p2 p3 p4) (fun p0 p1 p2 p3 p4 => eB n p0 p1 p2 p3 p4) (fun p0 p1 p2 p3 p4 p5 => gD n p0 p1 p2 p3 p4 p5) (fun p0 p1 p2 p3 p4 => eP n p0 p1 p2 p3 p4) p0 p1 p2 p3 p4
end
def mJ (n : Nat) (p0 : Ty) : Option Bool := ((gD n 0 16 6 p0 1 false).bind fun x1 => some x1.1)
def mg (n : Nat) (qd3 : (List Ty) → Int → Option Int) (qdz : (List Ty) → Int → Option Bool) (qeb : Ty → Int → Option Bool) (qec : Ty → Int → Option Bool) (p0 : List Ty) (p1 : Int) : Nat → Int → Option (LR Unit Int)
 | 0, _ => none
 | k + 1, s1 => (cond (decide (s1 < (p0.length : Int))) ((idx p0 s1).bind fun x1 => ((qec x1 p1).bind fun x2 => (cond x2 (some (.rt s1)) (mg n qd3 qdz qeb qec p0 p1 k (s1 + 1))))) (some (.nx ())))
def kM (n : Nat) (qd3 : (List Ty) → Int → Option Int) (qdz : (List Ty) → Int → Option Bool) (qeb : Ty → Int → Option Bool) (qec : Ty → Int → Option Bool) (p0 : List Ty) (p1 : Int) : Option Int := ((mg n qd3 qdz qeb qec p0 p1 n 0).bind (LR.el (fun s2 => some (-1)) (fun r => some r)))
def jG (n : Nat) (qd3 : (List Ty) → Int → Option Int) (qdz : (List Ty) → Int → Option Bool) (qeb : Ty → Int → Option Bool) (qec : Ty → Int → Option Bool) (p0 : List Ty) (p1 : Int) : Option Bool := ((qd3 p0 p1).bind fun x1 => some (decide (0 ≤ x1)))
def qX (n : Nat) (qd3 : (List Ty) → Int → Option Int) (qdz : (List Ty) → Int → Option Bool) (qeb : Ty → Int → Option Bool) (qec : Ty → Int → Option Bool) (p0 : Ty) (p1 : Int) : Option Bool := (((cond (p0.kind == p1) (some true) ((qdz p0.kids p1).bind fun x1 => some x1)) : Option Bool).bind fun s1 => some s1)
def pF (n : Nat) (qd3 : (List Ty) → Int → Option Int) (qdz : (List Ty) → Int → Option Bool) (qeb : Ty → Int → Option Bool) (qec : Ty → Int → Option Bool) (p0 : Ty) (p1 : Int) : Option Bool := ((qeb p0 p1).bind fun x1 => some x1)
mutual
def iP : Nat → (List Ty) → Int → Option Int
 | 0, _, _ => none
 | n + 1, p0, p1 => kM n (fun p0 p1 => iP n p0 p1) (fun p0 p1 => fQ n p0 p1) (fun p0 p1 => jP n p0 p1) (fun p0 p1 => jF n p0 p1) p0 p1
def fQ : Nat → (List Ty) → Int → Option Bool
 | 0, _, _ => none
 | n + 1, p0, p1 => jG n (fun p0 p1 => iP n p0 p1) (fun p0 p1 => fQ n p0 p1) (fun p0 p1 => jP n p0 p1) (fun p0 p1 => jF n p0 p1) p0 p1
def jP : Nat → Ty → Int → Option Bool
 | 0, _, _ => none
 | n + 1, p0, p1 => qX n (fun p0 p1 => iP n p0 p1) (fun p0 p1 => fQ n p0 p1) (fun p0 p1 => jP n p0 p1) (fun p0 p1 => jF n p0 p1) p0 p1
def jF : Nat → Ty → Int → Option Bool
 | 0, _, _ => none
 | n + 1, p0, p1 => pF n (fun p0 p1 => iP n p0 p1) (fun p0 p1 => fQ n p0 p1) (fun p0 p1 => jP n p0 p1) (fun p0 p1 => jF n p0 p1) p0 p1
end
def jC (n : Nat) (p0 : Ty) : Option Bool := ((((mJ n p0).bind fun x1 => (cond x1 ((jP n p0 2).bind fun x2 => some (!x2)) (some false))) : Option Bool).bind fun s1 => some s1)
def rV (n : Nat) (qea : Ty → (List (Str × Bool)) → Option (List (Str × Bool))) (p0 : Ty) : Nat → (Int × (List (Str × Bool))) → Option (LR (List (Str × Bool)) (List (Str × Bool)))
 | 0, _ => none
 | k + 1, s2 => (cond (decide (s2.1 < (p0.kids.length : Int))) ((idx p0.kids s2.1).bind fun x1 => ((qea x1 s2.2).bind fun x2 => rV n qea p0 k ((s2.1 + 1), x2))) (some (.nx s2.2)))
def sU (n : Nat) (qea : Ty → (List (Str × Bool)) → Option (List (Str × Bool))) (p0 : Ty) (p1 : List (Str × Bool)) : Option (List (Str × Bool)) := (((cond (p0.kind == 3) ((CJ p1 p0.name true).bind fun x3 => some x3) (some p1)) : Option (List (Str × Bool))).bind fun s1 => ((rV n qea p0 n (0, s1)).bind (LR.el (fun s3 => some s3) (fun r => some r))))
def mH : Nat → Ty → (List (Str × Bool)) → Option (List (Str × Bool))
 | 0, _, _ => none
 | n + 1, p0, p1 => sU n (fun p0 p1 => mH n p0 p1) p0 p1
def mV (n : Nat) (p0 : Ty) : Option (List Str) := ((mJ n p0).bind fun x1 => (cond (!x1) (some ([] : List Str)) ((mH n p0 ([] : List (Str × Bool))).bind fun x2 => ((vZ n x2).bind fun x3 => some x3))))
def G9 (n : Nat) (p0 : Carrier) (p1 : Str) : Option Bool := some (p0.name == p1)
def lD (n : Nat) (p0 : List Carrier) (p1 : Str) : Nat → Int → Option (LR Unit Int)
 | 0, _ => none
 | k + 1, s1 => (cond (decide (s1 < (p0.length : Int))) ((idx p0 s1).bind fun x1 => (cond (x1.name == p1) (some (.rt s1)) (lD n p0 p1 k (s1 + 1)))) (some (.nx ())))
def qV (n : Nat) (p0 : List Carrier) (p1 : Str) : Option Int := ((lD n p0 p1 n 0).bind (LR.el (fun s2 => some (-1)) (fun r => some r)))
def oO (n : Nat) (p0 : List Carrier) (p1 : Str) : Option Bool := ((qV n p0 p1).bind fun x1 => some (decide (0 ≤ x1)))
def vN (n : Nat) (p0 : Env) (p1 : Str) : Option Bool := ((oO n p0.carriers p1).bind fun x1 => some x1)
def vI (n : Nat) (p0 : Str) (p1 : List Carrier) (p2 : List Decl) : Option Bool := ((vN n (Env.mk p1 p2) p0).bind fun x1 => some (!x1))
def mh (n : Nat) (p0 : List Str) (p1 : List Carrier) (p2 : List Decl) : Nat → Int → Option (LR Unit Int)
 | 0, _ => none
 | k + 1, s1 => (cond (decide (s1 < (p0.length : Int))) ((idx p0 s1).bind fun x1 => ((vI n x1 p1 p2).bind fun x2 => (cond x2 (some (.rt s1)) (mh n p0 p1 p2 k (s1 + 1))))) (some (.nx ())))
def sK (n : Nat) (p0 : List Str) (p1 : List Carrier) (p2 : List Decl) : Option Int := ((mh n p0 p1 p2 n 0).bind (LR.el (fun s2 => some (-1)) (fun r => some r)))
def pY (n : Nat) (p0 : List Str) (p1 : List Carrier) (p2 : List Decl) : Option Bool := ((sK n p0 p1 p2).bind fun x1 => some (decide (0 ≤ x1)))
def oN (n : Nat) (p0 : Env) (p1 : Ty) : Option Bool := ((mV n p1).bind fun x1 => ((pY n x1 p0.carriers p0.names).bind fun x2 => some (!x2)))
def uJ (n : Nat) (p0 : Env) : Nat → ((List Str) × Int) → Option (LR (List Str) (List Str))
 | 0, _ => none
 | k + 1, s1 => (cond (decide (s1.2 < (p0.carriers.length : Int))) ((idx p0.carriers s1.2).bind fun x3 => ((app 16 s1.1 ([x3.name])).bind fun x4 => ((app 16 x4 x3.elems).bind fun x5 => uJ n p0 k (x5, (s1.2 + 1))))) (some (.nx s1.1)))
def uq (n : Nat) (p0 : Env) : Nat → ((List Str) × Int) → Option (LR (List Str) (List Str))
 | 0, _ => none
 | k + 1, s3 => (cond (decide (s3.2 < (p0.names.length : Int))) ((idx p0.names s3.2).bind fun x1 => ((app 16 s3.1 ([x1.name])).bind fun x2 => uq n p0 k (x2, (s3.2 + 1)))) (some (.nx s3.1)))
def rz (n : Nat) (p0 : Env) : Option (List Str) := ((uJ n p0 n (([] : List Str), 0)).bind (LR.el (fun s2 => ((uq n p0 n (s2, 0)).bind (LR.el (fun s4 => some s4) (fun r => some r)))) (fun r => some r)))
def uP (n : Nat) (p0 : List Str) : Nat → (Int × (List (Str × Bool))) → Option (LR Unit Bool)
 | 0, _ => none
 | k + 1, s1 => (cond (decide (s1.1 < (p0.length : Int))) ((idx p0 s1.1).bind fun x1 => (((mel (gq s1.2 x1) (some false) (fun x3 => some x3)) : Option Bool).bind fun s3 => (cond s3 (some (.rt false)) ((CJ s1.2 x1 true).bind fun x2 => uP n p0 k ((s1.1 + 1), x2))))) (some (.nx ())))
def uX (n : Nat) (p0 : List Str) : Option Bool := ((uP n p0 n (0, ([] : List (Str × Bool)))).bind (LR.el (fun s2 => some true) (fun r => some r)))
def nY (n : Nat) (x7 : Carrier) : Nat → Int → Option (LR Unit Bool)
 | 0, _ => none
 | k + 1, s8 => (cond (decide (s8 < (x7.elems.length : Int))) ((idx x7.elems s8).bind fun x8 => ((gY n x8).bind fun x9 => (cond (!x9) (some (.rt false)) (nY n x7 k (s8 + 1))))) (some (.nx ())))
def uG (n : Nat) (p0 : Env) : Nat → Int → Option (LR Unit Bool)
 | 0, _ => none
 | k + 1, s2 => (cond (decide (s2 < (p0.carriers.length : Int))) ((idx p0.carriers s2).bind fun x7 => ((((gY n x7.name).bind fun x10 => (cond (!x10) (some true) (some (decide (8 < (x7.elems.length : Int)))))) : Option Bool).bind fun s7 => (cond s7 (some (.rt false)) ((nY n x7 n 0).bind (LR.el (fun s9 => uG n p0 k (s2 + 1)) (fun r => some (.rt r))))))) (some (.nx ())))
def uT (n : Nat) (p0 : Env) : Nat → Int → Option (LR Unit Bool)
 | 0, _ => none
 | k + 1, s4 => (cond (decide (s4 < (p0.names.length : Int))) ((idx p0.names s4).bind fun x3 => ((((rG n x3.name).bind fun x4 => (cond (!x4) (some true) ((jC n x3.ty).bind fun x5 => (cond (!x5) (some true) ((oN n p0 x3.ty).bind fun x6 => some (!x6)))))) : Option Bool).bind fun s6 => (cond s6 (some (.rt false)) (uT n p0 k (s4 + 1))))) (some (.nx ())))
def jh (n : Nat) (p0 : Env) : Option Bool := (((cond (decide (8 < (p0.carriers.length : Int))) (some true) (some (decide (64 < (p0.names.length : Int))))) : Option Bool).bind fun s1 => (cond s1 (some false) ((uG n p0 n 0).bind (LR.el (fun s3 => ((uT n p0 n 0).bind (LR.el (fun s5 => ((rz n p0).bind fun x1 => ((uX n x1).bind fun x2 => some x2))) (fun r => some r)))) (fun r => some r)))))
def IZ (n : Nat) (p0 : Int) : Option (Int × Bool) := (((cond (p0 == 1) (some (p0 == 1)) (cond (p0 == 2) (some (p0 == 2)) (cond (p0 == 19) (some (p0 == 19)) (cond (p0 == 20) (some (p0 == 20)) (some (p0 == 29)))))) : Option Bool).bind fun s1 => (cond s1 (some (0, true)) (((cond (p0 == 3) (some (p0 == 3)) (cond (p0 == 21) (some (p0 == 21)) (((cond (decide (46 ≤ p0)) (some (decide (p0 ≤ 51))) (some false)) : Option Bool).bind fun s4 => (cond s4 (some s4) (some (p0 == 52)))))) : Option Bool).bind fun s2 => (cond s2 (some (1, true)) (cond (p0 == 28) (some ((-1), true)) (((cond (decide (1 ≤ p0)) (some (decide (p0 ≤ 56))) (some false)) : Option Bool).bind fun s3 => (cond s3 (some (2, true)) (some (0, false)))))))))
def JW (n : Nat) (p0 : Str) : Option Bool := ((strings_TrimSuffix n p0 ([39] : Str)).bind fun x1 => ((gY n x1).bind fun x2 => some x2))
def BN (n : Nat) (p0 : Int) : Option Bool := (((cond (p0 == 8) (some true) (cond (p0 == 9) (some true) (cond (p0 == 55) (some true) (some (p0 == 56))))) : Option Bool).bind fun s1 => some s1)
def Bz (n : Nat) (p0 : Ty) : Option Bool := (((cond (p0.kind == 0) (cond (p0.name == ([] : Str)) (some ((p0.kids.length : Int) == 0)) (some false)) (some false)) : Option Bool).bind fun s1 => some s1)
def EF (n : Nat) (p0 : Tm) : Option Bool := ((IZ n p0.op).bind fun x1 => (((((cond (!x1.2) (some (!x1.2)) (((cond (x1.1 == (-1)) (some ((p0.kids.length : Int) == 0)) (some false)) : Option Bool).bind fun s6 => (cond s6 (some s6) (cond (x1.1 != (-1)) (some ((p0.kids.length : Int) != x1.1)) (some false))))) : Option Bool).bind fun s5 => (cond s5 (some (.rt false)) (cond (p0.op == 20) ((JW n p0.name).bind fun x4 => some (.nx x4)) ((BN n p0.op).bind fun x5 => (cond x5 ((gY n p0.name).bind fun x6 => some (.nx x6)) (some (.nx (p0.name == ([] : Str))))))))) : Option (LR Bool Bool)).bind (LR.el (fun s1 => (((cond (p0.op == 19) (cond s1 (cond (decide (0 ≤ p0.n)) (some (decide (p0.n ≤ 1000000000))) (some false)) (some false)) (cond s1 (some (p0.n == 0)) (some false))) : Option Bool).bind fun s2 => (cond (p0.op == 29) (((cond s2 (cond (p0.ty.kind != 2) ((mJ n p0.ty).bind fun x2 => some x2) (some false)) (some false)) : Option Bool).bind fun s3 => some s3) (((cond s2 ((Bz n p0.ty).bind fun x3 => some x3) (some false)) : Option Bool).bind fun s4 => some s4)))) (fun r => some r))))
def nS (n : Nat) (qd1 : (List Tm) → Int → Int → Int → Int → Option (Int × Int)) (qdx : (List Tm) → Int → Int → Int → Int → Option (Bool × Int)) (qd4 : Int → Int → Int → Tm → Int → Option (Bool × Int)) (qd5 : Tm → Int → Int → Int → Int → Option (Bool × Int)) (p0 : List Tm) (p2 p3 p4 : Int) : Nat → (Int × Int) → Option (LR Int (Int × Int))
 | 0, _ => none
 | k + 1, s1 => (cond (decide (s1.1 < (p0.length : Int))) ((idx p0 s1.1).bind fun x1 => ((qd5 x1 s1.2 p2 p3 p4).bind fun x2 => (cond x2.1 (some (.rt (s1.1, x2.2))) (nS n qd1 qdx qd4 qd5 p0 p2 p3 p4 k ((s1.1 + 1), x2.2))))) (some (.nx s1.2)))
def iN (n : Nat) (qd1 : (List Tm) → Int → Int → Int → Int → Option (Int × Int)) (qdx : (List Tm) → Int → Int → Int → Int → Option (Bool × Int)) (qd4 : Int → Int → Int → Tm → Int → Option (Bool × Int)) (qd5 : Tm → Int → Int → Int → Int → Option (Bool × Int)) (p0 : List Tm) (p1 p2 : Int) (p3 p4 : Int) : Option (Int × Int) := ((nS n qd1 qdx qd4 qd5 p0 p2 p3 p4 n (0, p1)).bind (LR.el (fun s2 => some ((-1), s2)) (fun r => some r)))
def ko (n : Nat) (qd1 : (List Tm) → Int → Int → Int → Int → Option (Int × Int)) (qdx : (List Tm) → Int → Int → Int → Int → Option (Bool × Int)) (qd4 : Int → Int → Int → Tm → Int → Option (Bool × Int)) (qd5 : Tm → Int → Int → Int → Int → Option (Bool × Int)) (p0 : List Tm) (p1 p2 : Int) (p3 p4 : Int) : Option (Bool × Int) := ((qd1 p0 p1 p2 p3 p4).bind fun x1 => some ((decide (0 ≤ x1.1)), x1.2))
def o9 (n : Nat) (qd1 : (List Tm) → Int → Int → Int → Int → Option (Int × Int)) (qdx : (List Tm) → Int → Int → Int → Int → Option (Bool × Int)) (qd4 : Int → Int → Int → Tm → Int → Option (Bool × Int)) (qd5 : Tm → Int → Int → Int → Int → Option (Bool × Int)) (p0 p1 p2 : Int) (p3 : Tm) (p4 : Int) : Option (Bool × Int) := ((((lG n p0 p1 p2 p4).bind fun x2 => (cond (!x2.1) (some (true, x2.2)) ((EF n p3).bind fun x3 => some ((!x3), x2.2)))) : Option (Bool × Int)).bind fun s1 => (cond s1.1 (some (false, s1.2)) ((qdx p3.kids s1.2 p1 p2 p4).bind fun x1 => some ((!x1.1), x1.2))))
def nL (n : Nat) (qd1 : (List Tm) → Int → Int → Int → Int → Option (Int × Int)) (qdx : (List Tm) → Int → Int → Int → Int → Option (Bool × Int)) (qd4 : Int → Int → Int → Tm → Int → Option (Bool × Int)) (qd5 : Tm → Int → Int → Int → Int → Option (Bool × Int)) (p0 : Tm) (p1 p2 : Int) (p3 p4 : Int) : Option (Bool × Int) := ((qd4 p1 p2 p3 p0 (IntKind.wrap .i64 (p4 + 1))).bind fun x1 => some ((!x1.1), x1.2))
mutual
def iF : Nat → (List Tm) → Int → Int → Int → Int → Option (Int × Int)
 | 0, _, _, _, _, _ => none
 | n + 1, p0, p1, p2, p3, p4 => iN n (fun p0 p1 p2 p3 p4 => iF n p0 p1 p2 p3 p4) (fun p0 p1 p2 p3 p4 => fP n p0 p1 p2 p3 p4) (fun p0 p1 p2 p3 p4 => iU n p0 p1 p2 p3 p4) (fun p0 p1 p2 p3 p4 => gG n p0 p1 p2 p3 p4) p0 p1 p2 p3 p4
def fP : Nat → (List Tm) → Int → Int → Int → Int → Option (Bool × Int)
 | 0, _, _, _, _, _ => none
 | n + 1, p0, p1, p2, p3, p4 => ko n (fun p0 p1 p2 p3 p4 => iF n p0 p1 p2 p3 p4) (fun p0 p1 p2 p3 p4 => fP n p0 p1 p2 p3 p4) (fun p0 p1 p2 p3 p4 => iU n p0 p1 p2 p3 p4) (fun p0 p1 p2 p3 p4 => gG n p0 p1 p2 p3 p4) p0 p1 p2 p3 p4
def iU : Nat → Int → Int → Int → Tm → Int → Option (Bool × Int)
 | 0, _, _, _, _, _ => none
 | n + 1, p0, p1, p2, p3, p4 => o9 n (fun p0 p1 p2 p3 p4 => iF n p0 p1 p2 p3 p4) (fun p0 p1 p2 p3 p4 => fP n p0 p1 p2 p3 p4) (fun p0 p1 p2 p3 p4 => iU n p0 p1 p2 p3 p4) (fun p0 p1 p2 p3 p4 => gG n p0 p1 p2 p3 p4) p0 p1 p2 p3 p4
def gG : Nat → Tm → Int → Int → Int → Int → Option (Bool × Int)
 | 0, _, _, _, _, _ => none
 | n + 1, p0, p1, p2, p3, p4 => nL n (fun p0 p1 p2 p3 p4 => iF n p0 p1 p2 p3 p4) (fun p0 p1 p2 p3 p4 => fP n p0 p1 p2 p3 p4) (fun p0 p1 p2 p3 p4 => iU n p0 p1 p2 p3 p4) (fun p0 p1 p2 p3 p4 => gG n p0 p1 p2 p3 p4) p0 p1 p2 p3 p4
end
def Ak (n : Nat) (p0 : Tm) : Option Bool := ((iU n 0 2000 64 p0 1).bind fun x1 => some x1.1)
def Uu (n : Nat) (p0 : Ty) : Option Ty := some (Ty.mk 5 ([] : Str) ([p0]))
def oQ (n : Nat) (x3 : Carrier) : Nat → (Int × (List (Str × Ty))) → Option (LR (List (Str × Ty)) (List (Str × Ty)))
 | 0, _ => none
 | k + 1, s5 => (cond (decide (s5.1 < (x3.elems.length : Int))) ((idx x3.elems s5.1).bind fun x5 => ((CJ s5.2 x5 (Ty.mk 3 x3.name ([]))).bind fun x6 => oQ n x3 k ((s5.1 + 1), x6))) (some (.nx s5.2)))
def yE (n : Nat) (p0 : Env) : Nat → (Int × (List (Str × Ty))) → Option (LR (List (Str × Ty)) (List (Str × Ty)))
 | 0, _ => none
 | k + 1, s1 => (cond (decide (s1.1 < (p0.carriers.length : Int))) ((idx p0.carriers s1.1).bind fun x3 => ((CJ s1.2 x3.name (Ty.mk 5 ([] : Str) ([(Ty.mk 3 x3.name ([]))]))).bind fun x4 => ((oQ n x3 n (0, x4)).bind (LR.el (fun s6 => yE n p0 k ((s1.1 + 1), s6)) (fun r => some (.rt r)))))) (some (.nx s1.2)))
def yu (n : Nat) (p0 : Env) : Nat → (Int × (List (Str × Ty))) → Option (LR (List (Str × Ty)) (List (Str × Ty)))
 | 0, _ => none
 | k + 1, s3 => (cond (decide (s3.1 < (p0.names.length : Int))) ((idx p0.names s3.1).bind fun x1 => ((CJ s3.2 x1.name x1.ty).bind fun x2 => yu n p0 k ((s3.1 + 1), x2))) (some (.nx s3.2)))
def zF (n : Nat) (p0 : Env) : Option (List (Str × Ty)) := ((yE n p0 n (0, ([] : List (Str × Ty)))).bind (LR.el (fun s2 => ((yu n p0 n (0, s2)).bind (LR.el (fun s4 => some s4) (fun r => some r)))) (fun r => some r)))
def Ud (n : Nat) : Option Ty := some (Ty.mk 2 ([] : Str) ([]))
def Yw (n : Nat) (p0 : Int) (p1 : Ty) : Option Unit := some ()
def O8 (n : Nat) : Option Ty := some (Ty.mk 1 ([] : Str) ([]))
def acp (n : Nat) : Option Unit := some ()
def JA (n : Nat) : Option Unit := some ()
def Um (n : Nat) : Option Unit := some ()
def Mt (n : Nat) (p0 : Ty) : Option Unit := some ()
def Yu (n : Nat) : Option Unit := some ()
def Rh (n : Nat) : Option Unit := some ()
def X5 (n : Nat) : Option Unit := some ()
def Rp (n : Nat) : Option Unit := some ()
def UM (n : Nat) : Option Unit := some ()
def Hu (n : Nat) : Option Unit := some ()
def Hq (n : Nat) : Option Unit := some ()
def OV (n : Nat) : Option Unit := some ()
def O5 (n : Nat) : Option Unit := some ()
def Ht (n : Nat) : Option Unit := some ()
def Hg (n : Nat) : Option Unit := some ()
def Hl (n : Nat) : Option Unit := some ()
def Hr (n : Nat) : Option Unit := some ()
def Ho (n : Nat) : Option Unit := some ()
def Ym (n : Nat) : Option Unit := some ()
def qP (n : Nat) (p0 : Env) : Nat → (Int × (List (Str × Bool))) → Option (LR (List (Str × Bool)) ((List (Str × Ty)) × (List (Str × Bool))))
 | 0, _ => none
 | k + 1, s1 => (cond (decide (s1.1 < (p0.carriers.length : Int))) ((idx p0.carriers s1.1).bind fun x2 => ((CJ s1.2 x2.name true).bind fun x3 => qP n p0 k ((s1.1 + 1), x3))) (some (.nx s1.2)))
def vL (n : Nat) (p0 : Env) : Option ((List (Str × Ty)) × (List (Str × Bool))) := ((zF n p0).bind fun x1 => ((qP n p0 n (0, ([] : List (Str × Bool)))).bind (LR.el (fun s2 => some (x1, s2)) (fun r => some r))))
def xP (n : Nat) (p0 : Int) : Option Bool := (((cond (p0 == 8) (some true) (cond (p0 == 9) (some true) (cond (p0 == 55) (some true) (some (p0 == 56))))) : Option Bool).bind fun s1 => some s1)
def dW (n : Nat) (p0 : Ty) : Option (Ty × Bool) := (cond (p0.kind != 5) (some ((Ty.mk 0 ([] : Str) ([])), false)) ((idx p0.kids 0).bind fun x1 => some (x1, true)))
def jZ (n : Nat) (p1 : Str) : Nat → (List Decl) → Option (LR Unit (Ty × Bool))
 | 0, _ => none
 | k + 1, s1 => (cond (true != List.isEmpty s1) ((unc s1).bind fun x1 => (cond (x1.1.name == p1) ((unc s1).bind fun x2 => some (.rt (x2.1.ty, true))) ((unc s1).bind fun x3 => jZ n p1 k x3.2))) (some (.nx ())))
def o7 (n : Nat) (p0 : List Decl) (p1 : Str) : Option (Ty × Bool) := ((jZ n p1 n p0).bind (LR.el (fun s2 => some ((Ty.mk 0 ([] : Str) ([])), false)) (fun r => some r)))
def pU (n : Nat) (p0 : Str) (p1 : List (Str × Ty)) (p2 : List (Str × Bool)) (p3 : List Int) : Option Bool := (((mel (gq p2 p0) (some true) (fun x1 => some (!x1))) : Option Bool).bind fun s1 => some s1)
def kJ (n : Nat) (p0 : List Str) (p1 : List (Str × Ty)) (p2 : List (Str × Bool)) (p3 : List Int) : Nat → Int → Option (LR Unit Int)
 | 0, _ => none
 | k + 1, s1 => (cond (decide (s1 < (p0.length : Int))) ((idx p0 s1).bind fun x1 => ((pU n x1 p1 p2 p3).bind fun x2 => (cond x2 (some (.rt s1)) (kJ n p0 p1 p2 p3 k (s1 + 1))))) (some (.nx ())))
def qG (n : Nat) (p0 : List Str) (p1 : List (Str × Ty)) (p2 : List (Str × Bool)) (p3 : List Int) : Option Int := ((kJ n p0 p1 p2 p3 n 0).bind (LR.el (fun s2 => some (-1)) (fun r => some r)))
def om (n : Nat) (p0 : List Str) (p1 : List (Str × Ty)) (p2 : List (Str × Bool)) (p3 : List Int) : Option Bool := ((qG n p0 p1 p2 p3).bind fun x1 => some (decide (0 ≤ x1)))
def ow (n : Nat) (p0 : List (Str × Ty)) (p1 : List (Str × Bool)) (p2 : List Int) (p3 : Ty) : Option Bool := ((mV n p3).bind fun x1 => ((om n x1 p0 p1 p2).bind fun x2 => some (!x2)))
def ql (n : Nat) (p0 : Ty) : Option (Ty × Int) := ((mJ n p0).bind fun x1 => (cond (!x1) (some ((Ty.mk 0 ([] : Str) ([])), 5)) (some (p0, 0))))
def JE (n : Nat) (p0 : List Ty) (p1 : Int) (p2 : Str) (p3 : List Ty) : Option (Ty × Bool) := some ((Ty.mk p1 p2 p3), true)
def MH (n : Nat) (p0 : Ty) (p1 : Int) : Option Bool := some (p0.kind != p1)
def l6 (n : Nat) (p0 : List Ty) (p1 : Int) : Nat → Int → Option (LR Unit Int)
 | 0, _ => none
 | k + 1, s1 => (cond (decide (s1 < (p0.length : Int))) ((idx p0 s1).bind fun x1 => (cond (x1.kind != p1) (some (.rt s1)) (l6 n p0 p1 k (s1 + 1)))) (some (.nx ())))
def sM (n : Nat) (p0 : List Ty) (p1 : Int) : Option Int := ((l6 n p0 p1 n 0).bind (LR.el (fun s2 => some (-1)) (fun r => some r)))
def pW (n : Nat) (p0 : List Ty) (p1 : Int) : Option Bool := ((sM n p0 p1).bind fun x1 => some (decide (0 ≤ x1)))
def bU (n : Nat) (p0 : List Ty) (p1 : Int) (p2 : Str) (p3 : List Ty) (p4 : Int) : Option (Ty × Bool) := ((pW n p0 p4).bind fun x1 => some ((Ty.mk p1 p2 p3), (!x1)))
def Ru (n : Nat) (p0 : Ty) : Option Ty := some (Ty.mk 2 ([] : Str) ([]))
def rR (n : Nat) (p0 : List Ty) : Option (Ty × Bool) := ((idx p0 0).bind fun x1 => ((idx p0 1).bind fun x2 => some ((Ty.mk 2 ([] : Str) ([])), (x2.kind == 2))))
def nR (n : Nat) (qd0 : (List Ty) → (List Ty) → Option Bool) (qeh : Ty → Ty → Option Bool) (p0 : List Ty) (p1 : List Ty) : Nat → Int → Option (LR Unit Bool)
 | 0, _ => none
 | k + 1, s1 => (cond (decide (s1 < (p0.length : Int))) ((idx p0 s1).bind fun x1 => ((idx p1 s1).bind fun x2 => ((qeh x1 x2).bind fun x3 => (cond (!x3) (some (.rt false)) (nR n qd0 qeh p0 p1 k (s1 + 1)))))) (some (.nx ())))
def l9 (n : Nat) (qd0 : (List Ty) → (List Ty) → Option Bool) (qeh : Ty → Ty → Option Bool) (p0 : List Ty) (p1 : List Ty) : Option Bool := (cond ((p0.length : Int) != (p1.length : Int)) (some false) ((nR n qd0 qeh p0 p1 n 0).bind (LR.el (fun s2 => some true) (fun r => some r))))
def vS (n : Nat) (qd0 : (List Ty) → (List Ty) → Option Bool) (qeh : Ty → Ty → Option Bool) (p0 p1 : Ty) : Option Bool := (((cond (p0.kind == p1.kind) (cond (p0.name == p1.name) ((qd0 p0.kids p1.kids).bind fun x1 => some x1) (some false)) (some false)) : Option Bool).bind fun s1 => some s1)
mutual
def kP : Nat → (List Ty) → (List Ty) → Option Bool
 | 0, _, _ => none
 | n + 1, p0, p1 => l9 n (fun p0 p1 => kP n p0 p1) (fun p0 p1 => gL n p0 p1) p0 p1
def gL : Nat → Ty → Ty → Option Bool
 | 0, _, _ => none
 | n + 1, p0, p1 => vS n (fun p0 p1 => kP n p0 p1) (fun p0 p1 => gL n p0 p1) p0 p1
end
def z8 (n : Nat) (p0 : Ty) (p1 : List Ty) : Option Bool := ((idx p1 0).bind fun x1 => ((gL n p0 x1).bind fun x2 => some (!x2)))
def mo (n : Nat) (p0 : List Ty) (p1 : List Ty) : Nat → Int → Option (LR Unit Int)
 | 0, _ => none
 | k + 1, s1 => (cond (decide (s1 < (p0.length : Int))) ((idx p0 s1).bind fun x1 => ((z8 n x1 p1).bind fun x2 => (cond x2 (some (.rt s1)) (mo n p0 p1 k (s1 + 1))))) (some (.nx ())))
def sJ (n : Nat) (p0 : List Ty) (p1 : List Ty) : Option Int := ((mo n p0 p1 n 0).bind (LR.el (fun s2 => some (-1)) (fun r => some r)))
def pX (n : Nat) (p0 : List Ty) (p1 : List Ty) : Option Bool := ((sJ n p0 p1).bind fun x1 => some (decide (0 ≤ x1)))
def nV (n : Nat) (p0 : List Ty) : Option Bool := ((((idx p0 0).bind fun x1 => (cond (x1.kind != 2) ((pX n p0 p0).bind fun x2 => some (!x2)) (some false))) : Option Bool).bind fun s1 => some s1)
def vC (n : Nat) (p0 : List Ty) : Option (Ty × Bool) := ((nV n p0).bind fun x1 => some ((Ty.mk 2 ([] : Str) ([])), x1))
def sw (n : Nat) (p0 : List Ty) : Option (Ty × Bool) := ((idx p0 1).bind fun x1 => ((dW n x1).bind fun x2 => (((cond x2.2 ((idx p0 0).bind fun x3 => ((gL n x3 x2.1).bind fun x4 => some x4)) (some false)) : Option Bool).bind fun s1 => some ((Ty.mk 2 ([] : Str) ([])), s1))))
def vw (n : Nat) (p0 : List Ty) : Option (Ty × Bool) := ((((idx p0 0).bind fun x1 => ((idx p0 0).bind fun x2 => (cond (x2.kind == 5) ((nV n p0).bind fun x3 => some x3) (some false)))) : Option Bool).bind fun s1 => some ((Ty.mk 2 ([] : Str) ([])), s1))
def Rm (n : Nat) (p0 p1 : Ty) : Option Ty := some (Ty.mk 4 ([] : Str) ([p0, p1]))
def xL (n : Nat) (p0 : List Ty) : Option (Ty × Bool) := ((((idx p0 0).bind fun x1 => ((idx p0 1).bind fun x2 => ((idx p0 0).bind fun x3 => (cond (x3.kind != 2) ((idx p0 1).bind fun x4 => some ((x4.kind != 2), ([x1, x2]))) (some (false, ([x1, x2]))))))) : Option (Bool × (List Ty))).bind fun s1 => some ((Ty.mk 4 ([] : Str) s1.2), s1.1))
def xO (n : Nat) (p0 : List Ty) : Option (Ty × Bool) := ((idx p0 0).bind fun x1 => ((nV n p0).bind fun x2 => some ((Ty.mk 5 ([] : Str) ([x1])), x2)))
def Rl (n : Nat) (p0 : Ty) : Option Ty := some p0
def kW (n : Nat) (p0 : List Ty) : Option (Ty × Bool) := ((((idx p0 0).bind fun x1 => ((idx p0 0).bind fun x2 => (cond (x2.kind == 5) ((nV n p0).bind fun x3 => some (x3, x1.kind, x1.name, x1.kids)) (some (false, x1.kind, x1.name, x1.kids))))) : Option (Bool × Int × Str × (List Ty))).bind fun s1 => some ((Ty.mk s1.2.1 s1.2.2.1 s1.2.2.2), s1.1))
def MC (n : Nat) (p0 p1 : Ty) : Option Ty := some (Ty.mk 5 ([] : Str) ([(Ty.mk 4 ([] : Str) ([p0, p1]))]))
def wJ (n : Nat) (p0 : List Ty) : Option (Ty × Bool) := ((idx p0 0).bind fun x1 => ((dW n x1).bind fun x2 => ((idx p0 1).bind fun x3 => ((dW n x3).bind fun x4 => (((cond (!x2.2) (some true) (some (!x4.2))) : Option Bool).bind fun s1 => (cond s1 (some ((Ty.mk 0 ([] : Str) ([])), false)) (some ((Ty.mk 5 ([] : Str) ([(Ty.mk 4 ([] : Str) ([x2.1, x4.1]))])), true))))))))
def jQ (n : Nat) (p0 : Ty) : Option (Ty × Ty × Bool) := ((dW n p0).bind fun x1 => (((cond (!x1.2) (some true) (some (x1.1.kind != 4))) : Option Bool).bind fun s1 => (cond s1 (some ((Ty.mk 0 ([] : Str) ([])), (Ty.mk 0 ([] : Str) ([])), false)) ((idx x1.1.kids 0).bind fun x2 => ((idx x1.1.kids 1).bind fun x3 => some (x2, x3, true))))))
def Jg (n : Nat) (p0 p1 : Ty) (p2 : List Ty) : Option (Ty × Bool) := ((idx p2 0).bind fun x1 => ((nV n p2).bind fun x2 => some (x1, x2)))
def nC (n : Nat) (p0 : List Ty) : Option (Ty × Bool) := ((idx p0 0).bind fun x1 => ((jQ n x1).bind fun x2 => (cond (!x2.2.2) (some ((Ty.mk 0 ([] : Str) ([])), false)) ((Jg n x2.1 x2.2.1 p0).bind fun x3 => some (x3.1, x3.2)))))
def EL (n : Nat) (p0 p1 : Ty) (p2 : List Ty) : Option (Ty × Bool) := ((idx p2 1).bind fun x1 => ((jQ n x1).bind fun x2 => (((cond x2.2.2 ((gL n p1 x2.1).bind fun x3 => some x3) (some false)) : Option Bool).bind fun s1 => some ((Ty.mk 5 ([] : Str) ([(Ty.mk 4 ([] : Str) ([p0, x2.2.1]))])), s1))))
def nE (n : Nat) (p0 : List Ty) : Option (Ty × Bool) := ((idx p0 0).bind fun x1 => ((jQ n x1).bind fun x2 => (cond (!x2.2.2) (some ((Ty.mk 0 ([] : Str) ([])), false)) ((EL n x2.1 x2.2.1 p0).bind fun x3 => some (x3.1, x3.2)))))
def sH (n : Nat) (p0 : List Ty) : Option (Ty × Bool) := ((idx p0 0).bind fun x1 => ((dW n x1).bind fun x2 => ((idx p0 1).bind fun x3 => ((jQ n x3).bind fun x4 => ((((idx p0 1).bind fun x5 => (cond x2.2 (cond x4.2.2 ((gL n x2.1 x4.1).bind fun x6 => some (x6, x5.kind, x5.name, x5.kids)) (some (false, x5.kind, x5.name, x5.kids))) (some (false, x5.kind, x5.name, x5.kids)))) : Option (Bool × Int × Str × (List Ty))).bind fun s1 => some ((Ty.mk s1.2.1 s1.2.2.1 s1.2.2.2), s1.1))))))
def EU (n : Nat) (p0 p1 : Ty) (p2 : List Ty) : Option (Ty × Bool) := ((idx p2 1).bind fun x1 => ((dW n x1).bind fun x2 => ((((idx p2 0).bind fun x3 => (cond x2.2 ((gL n x2.1 p1).bind fun x4 => some (x4, x3.kind, x3.name, x3.kids)) (some (false, x3.kind, x3.name, x3.kids)))) : Option (Bool × Int × Str × (List Ty))).bind fun s1 => some ((Ty.mk s1.2.1 s1.2.2.1 s1.2.2.2), s1.1))))
def jw (n : Nat) (p0 : List Ty) : Option (Ty × Bool) := ((idx p0 0).bind fun x1 => ((jQ n x1).bind fun x2 => (cond (!x2.2.2) (some ((Ty.mk 0 ([] : Str) ([])), false)) ((EU n x2.1 x2.2.1 p0).bind fun x3 => some (x3.1, x3.2)))))
def Rv (n : Nat) (p0 p1 : Ty) : Option Ty := some (Ty.mk 5 ([] : Str) ([(Ty.mk 5 ([] : Str) ([(Ty.mk 4 ([] : Str) ([p0, p1]))]))]))
def iI (n : Nat) (p0 : List Ty) : Option (Ty × Bool) := ((idx p0 0).bind fun x1 => ((dW n x1).bind fun x2 => ((idx p0 1).bind fun x3 => ((dW n x3).bind fun x4 => (((cond (!x2.2) (some true) (some (!x4.2))) : Option Bool).bind fun s1 => (cond s1 (some ((Ty.mk 0 ([] : Str) ([])), false)) (some ((Ty.mk 5 ([] : Str) ([(Ty.mk 5 ([] : Str) ([(Ty.mk 4 ([] : Str) ([x2.1, x4.1]))]))])), true))))))))
def Oo (n : Nat) (p0 : Ty) : Option (Ty × Bool) := some ((Ty.mk 5 ([] : Str) ([(Ty.mk 5 ([] : Str) ([p0]))])), true)
def tq (n : Nat) (p0 : List Ty) : Option (Ty × Bool) := ((idx p0 0).bind fun x1 => ((dW n x1).bind fun x2 => (cond (!x2.2) (some ((Ty.mk 0 ([] : Str) ([])), false)) (some ((((Ty.mk 5 ([] : Str) ([(Ty.mk 5 ([] : Str) ([x2.1]))])), true).1), ((Ty.mk 5 ([] : Str) ([(Ty.mk 5 ([] : Str) ([x2.1]))])), true).2)))))
def Od (n : Nat) (p0 : Ty) : Option (Ty × Bool) := some ((Ty.mk 1 ([] : Str) ([])), true)
def tJ (n : Nat) (p0 : List Ty) : Option (Ty × Bool) := ((idx p0 0).bind fun x1 => ((dW n x1).bind fun x2 => (cond (!x2.2) (some ((Ty.mk 0 ([] : Str) ([])), false)) (some ((((Ty.mk 1 ([] : Str) ([])), true).1), ((Ty.mk 1 ([] : Str) ([])), true).2)))))
def Ri (n : Nat) (p0 : Ty) : Option (Ty × Bool) := some ((Ty.mk 1 ([] : Str) ([])), (p0.kind == 1))
def nQ (n : Nat) (p0 : List Ty) : Option (Ty × Bool) := ((idx p0 0).bind fun x1 => ((dW n x1).bind fun x2 => (cond (!x2.2) (some ((Ty.mk 0 ([] : Str) ([])), false)) (some ((((Ty.mk 1 ([] : Str) ([])), (x2.1.kind == 1)).1), ((Ty.mk 1 ([] : Str) ([])), (x2.1.kind == 1)).2)))))
def Ph (n : Nat) (p0 p1 : Ty) (p2 : List Ty) : Option (Ty × Bool) := some ((Ty.mk 5 ([] : Str) ([p0])), true)
def nA (n : Nat) (p0 : List Ty) : Option (Ty × Bool) := ((idx p0 0).bind fun x1 => ((jQ n x1).bind fun x2 => (cond (!x2.2.2) (some ((Ty.mk 0 ([] : Str) ([])), false)) (some ((((Ty.mk 5 ([] : Str) ([x2.1])), true).1), ((Ty.mk 5 ([] : Str) ([x2.1])), true).2)))))
def O7 (n : Nat) (p0 p1 : Ty) (p2 : List Ty) : Option (Ty × Bool) := some ((Ty.mk 5 ([] : Str) ([p1])), true)
def ny (n : Nat) (p0 : List Ty) : Option (Ty × Bool) := ((idx p0 0).bind fun x1 => ((jQ n x1).bind fun x2 => (cond (!x2.2.2) (some ((Ty.mk 0 ([] : Str) ([])), false)) (some ((((Ty.mk 5 ([] : Str) ([x2.2.1])), true).1), ((Ty.mk 5 ([] : Str) ([x2.2.1])), true).2)))))
def Oq (n : Nat) (p0 p1 : Ty) (p2 : List Ty) : Option (Ty × Bool) := some ((Ty.mk 5 ([] : Str) ([(Ty.mk 4 ([] : Str) ([p1, p0]))])), true)
def nG (n : Nat) (p0 : List Ty) : Option (Ty × Bool) := ((idx p0 0).bind fun x1 => ((jQ n x1).bind fun x2 => (cond (!x2.2.2) (some ((Ty.mk 0 ([] : Str) ([])), false)) (some ((((Ty.mk 5 ([] : Str) ([(Ty.mk 4 ([] : Str) ([x2.2.1, x2.1]))])), true).1), ((Ty.mk 5 ([] : Str) ([(Ty.mk 4 ([] : Str) ([x2.2.1, x2.1]))])), true).2)))))
def DK (n : Nat) (p0 p1 : Ty) (p2 : List Ty) : Option (Ty × Bool) := ((idx p2 1).bind fun x1 => ((dW n x1).bind fun x2 => (((cond x2.2 ((gL n x2.1 p0).bind fun x3 => some x3) (some false)) : Option Bool).bind fun s1 => some ((Ty.mk 5 ([] : Str) ([p1])), s1))))
def nD (n : Nat) (p0 : List Ty) : Option (Ty × Bool) := ((idx p0 0).bind fun x1 => ((jQ n x1).bind fun x2 => (cond (!x2.2.2) (some ((Ty.mk 0 ([] : Str) ([])), false)) ((DK n x2.1 x2.2.1 p0).bind fun x3 => some (x3.1, x3.2)))))
def Dr (n : Nat) (p0 p1 : Ty) (p2 : List Ty) : Option (Ty × Bool) := ((idx p2 1).bind fun x1 => ((gL n x1 p0).bind fun x2 => some (p1, x2)))
def nH (n : Nat) (p0 : List Ty) : Option (Ty × Bool) := ((idx p0 0).bind fun x1 => ((jQ n x1).bind fun x2 => (cond (!x2.2.2) (some ((Ty.mk 0 ([] : Str) ([])), false)) ((Dr n x2.1 x2.2.1 p0).bind fun x3 => some (x3.1, x3.2)))))
def yK (n : Nat) (p0 : List Ty) : Option (Ty × Bool) := ((idx p0 0).bind fun x1 => ((idx p0 1).bind fun x2 => some (x1, (x2.kind == 2))))
def wK (n : Nat) (p0 : List Ty) : Option (Ty × Bool) := ((idx p0 0).bind fun x1 => ((dW n x1).bind fun x2 => ((((idx p0 1).bind fun x3 => (cond x2.2 ((idx p0 1).bind fun x4 => some ((x4.kind != 2), ([(Ty.mk 4 ([] : Str) ([x2.1, x3]))]))) (some (false, ([(Ty.mk 4 ([] : Str) ([x2.1, x3]))]))))) : Option (Bool × (List Ty))).bind fun s1 => some ((Ty.mk 5 ([] : Str) s1.2), s1.1))))
def oq (n : Nat) (qd9 : (List (Str × Ty)) → (List (Str × Bool)) → (List Int) → Tm → (List Decl) → Option (Ty × Int × (List Int))) (qd8 : (List (Str × Ty)) → (List (Str × Bool)) → (List Int) → Tm → Int → (List Decl) → Option (Ty × Int × (List Int))) (p0 : List (Str × Ty)) (p1 : List (Str × Bool)) (p3 : Tm) : Nat → ((List Decl) × (List Ty) × Int × (List Int)) → Option (LR ((List Decl) × (List Ty) × (List Int)) (Ty × Int × (List Int)))
 | 0, _ => none
 | k + 1, s1 => (cond (decide (s1.2.2.1 < (p3.kids.length : Int))) ((((qd8 p0 p1 s1.2.2.2 p3 s1.2.2.1 s1.1).bind fun x57 => (cond (x57.2.1 != 0) (some (.rt ((Ty.mk 0 ([] : Str) ([])), x57.2.1, x57.2.2))) ((app 48 s1.2.1 ([x57.1])).bind fun x58 => (((cond (s1.2.2.1 == 0) ((xP n p3.op).bind fun x60 => some x60) (some false)) : Option Bool).bind fun s6 => (cond s6 ((dW n x57.1).bind fun x59 => (cond (!x59.2) (some (.rt ((Ty.mk 0 ([] : Str) ([])), 7, x57.2.2))) (some (.nx (((Decl.mk p3.name x59.1) :: s1.1), x58, x57.2.2))))) (some (.nx (s1.1, x58, x57.2.2)))))))) : Option (LR ((List Decl) × (List Ty) × (List Int)) (Ty × Int × (List Int)))).bind (LR.el (fun s5 => oq n qd9 qd8 p0 p1 p3 k (s5.1, s5.2.1, (s1.2.2.1 + 1), s5.2.2)) (fun r => some (.rt r)))) (some (.nx (s1.1, s1.2.1, s1.2.2.2))))
def pE (n : Nat) (qd9 : (List (Str × Ty)) → (List (Str × Bool)) → (List Int) → Tm → (List Decl) → Option (Ty × Int × (List Int))) (qd8 : (List (Str × Ty)) → (List (Str × Bool)) → (List Int) → Tm → Int → (List Decl) → Option (Ty × Int × (List Int))) (p0 : List (Str × Ty)) (p1 : List (Str × Bool)) (p2 : List Int) (p3 : Tm) (p4 : List Decl) : Option (Ty × Int × (List Int)) := ((oq n qd9 qd8 p0 p1 p3 n (p4, ([] : List Ty), 0, p2)).bind (LR.el (fun s2 => (cond (p3.op == 20) ((o7 n s2.1 p3.name).bind fun x1 => (cond x1.2 (some (x1.1, 0, s2.2.2)) (((mel (gq p0 p3.name) (some (false, 0, ([] : Str), ([] : List Ty))) (fun x2 => some (true, x2.kind, x2.name, x2.kids))) : Option (Bool × Int × Str × (List Ty))).bind fun s3 => (cond (!s3.1) (some ((Ty.mk 0 ([] : Str) ([])), 6, s2.2.2)) (some ((Ty.mk s3.2.1 s3.2.2.1 s3.2.2.2), 0, s2.2.2)))))) (cond (p3.op == 29) ((ow n p0 p1 s2.2.2 p3.ty).bind fun x3 => (cond (!x3) (some ((Ty.mk 0 ([] : Str) ([])), 6, s2.2.2)) ((ql n (Ty.mk 5 ([] : Str) ([p3.ty]))).bind fun x4 => some (x4.1, x4.2, s2.2.2)))) (((cond (p3.op == 0) none (cond (p3.op == 1) (some (((Ty.mk 2 ([] : Str) ([])), true).2, (((Ty.mk 2 ([] : Str) ([])), true).1).kind, (((Ty.mk 2 ([] : Str) ([])), true).1).name, (((Ty.mk 2 ([] : Str) ([])), true).1).kids)) (cond (p3.op == 2) (some (((Ty.mk 2 ([] : Str) ([])), true).2, (((Ty.mk 2 ([] : Str) ([])), true).1).kind, (((Ty.mk 2 ([] : Str) ([])), true).1).name, (((Ty.mk 2 ([] : Str) ([])), true).1).kids)) (cond (p3.op == 3) ((bU n s2.2.1 2 ([] : Str) ([]) 2).bind fun x6 => some (x6.2, x6.1.kind, x6.1.name, x6.1.kids)) (cond (p3.op == 4) ((bU n s2.2.1 2 ([] : Str) ([]) 2).bind fun x7 => some (x7.2, x7.1.kind, x7.1.name, x7.1.kids)) (cond (p3.op == 5) ((bU n s2.2.1 2 ([] : Str) ([]) 2).bind fun x8 => some (x8.2, x8.1.kind, x8.1.name, x8.1.kids)) (cond (p3.op == 6) ((bU n s2.2.1 2 ([] : Str) ([]) 2).bind fun x9 => some (x9.2, x9.1.kind, x9.1.name, x9.1.kids)) (cond (p3.op == 7) ((bU n s2.2.1 2 ([] : Str) ([]) 2).bind fun x10 => some (x10.2, x10.1.kind, x10.1.name, x10.1.kids)) (cond (p3.op == 8) ((rR n s2.2.1).bind fun x11 => some (x11.2, x11.1.kind, x11.1.name, x11.1.kids)) (cond (p3.op == 9) ((rR n s2.2.1).bind fun x12 => some (x12.2, x12.1.kind, x12.1.name, x12.1.kids)) (cond (p3.op == 10) ((vC n s2.2.1).bind fun x13 => some (x13.2, x13.1.kind, x13.1.name, x13.1.kids)) (cond (p3.op == 11) ((vC n s2.2.1).bind fun x14 => some (x14.2, x14.1.kind, x14.1.name, x14.1.kids)) (cond (p3.op == 12) ((bU n s2.2.1 2 ([] : Str) ([]) 1).bind fun x15 => some (x15.2, x15.1.kind, x15.1.name, x15.1.kids)) (cond (p3.op == 13) ((bU n s2.2.1 2 ([] : Str) ([]) 1).bind fun x16 => some (x16.2, x16.1.kind, x16.1.name, x16.1.kids)) (cond (p3.op == 14) ((bU n s2.2.1 2 ([] : Str) ([]) 1).bind fun x17 => some (x17.2, x17.1.kind, x17.1.name, x17.1.kids)) (cond (p3.op == 15) ((bU n s2.2.1 2 ([] : Str) ([]) 1).bind fun x18 => some (x18.2, x18.1.kind, x18.1.name, x18.1.kids)) (cond (p3.op == 16) ((sw n s2.2.1).bind fun x19 => some (x19.2, x19.1.kind, x19.1.name, x19.1.kids)) (cond (p3.op == 17) ((sw n s2.2.1).bind fun x20 => some (x20.2, x20.1.kind, x20.1.name, x20.1.kids)) (cond (p3.op == 18) ((vw n s2.2.1).bind fun x21 => some (x21.2, x21.1.kind, x21.1.name, x21.1.kids)) (cond (p3.op == 19) (some (((Ty.mk 1 ([] : Str) ([])), true).2, (((Ty.mk 1 ([] : Str) ([])), true).1).kind, (((Ty.mk 1 ([] : Str) ([])), true).1).name, (((Ty.mk 1 ([] : Str) ([])), true).1).kids)) (cond (p3.op == 20) none (cond (p3.op == 21) ((bU n s2.2.1 1 ([] : Str) ([]) 1).bind fun x22 => some (x22.2, x22.1.kind, x22.1.name, x22.1.kids)) (cond (p3.op == 22) ((bU n s2.2.1 1 ([] : Str) ([]) 1).bind fun x23 => some (x23.2, x23.1.kind, x23.1.name, x23.1.kids)) (cond (p3.op == 23) ((bU n s2.2.1 1 ([] : Str) ([]) 1).bind fun x24 => some (x24.2, x24.1.kind, x24.1.name, x24.1.kids)) (cond (p3.op == 24) ((bU n s2.2.1 1 ([] : Str) ([]) 1).bind fun x25 => some (x25.2, x25.1.kind, x25.1.name, x25.1.kids)) (cond (p3.op == 25) ((bU n s2.2.1 1 ([] : Str) ([]) 1).bind fun x26 => some (x26.2, x26.1.kind, x26.1.name, x26.1.kids)) (cond (p3.op == 26) ((bU n s2.2.1 1 ([] : Str) ([]) 1).bind fun x27 => some (x27.2, x27.1.kind, x27.1.name, x27.1.kids)) (cond (p3.op == 27) ((xL n s2.2.1).bind fun x28 => some (x28.2, x28.1.kind, x28.1.name, x28.1.kids)) (cond (p3.op == 28) ((xO n s2.2.1).bind fun x29 => some (x29.2, x29.1.kind, x29.1.name, x29.1.kids)) (cond (p3.op == 29) none (cond (p3.op == 30) ((bU n s2.2.1 5 ([] : Str) ([(Ty.mk 1 ([] : Str) ([]))]) 1).bind fun x30 => some (x30.2, x30.1.kind, x30.1.name, x30.1.kids)) (cond (p3.op == 31) ((kW n s2.2.1).bind fun x31 => some (x31.2, x31.1.kind, x31.1.name, x31.1.kids)) (cond (p3.op == 32) ((kW n s2.2.1).bind fun x32 => some (x32.2, x32.1.kind, x32.1.name, x32.1.kids)) (cond (p3.op == 33) ((kW n s2.2.1).bind fun x33 => some (x33.2, x33.1.kind, x33.1.name, x33.1.kids)) (cond (p3.op == 34) ((wJ n s2.2.1).bind fun x34 => some (x34.2, x34.1.kind, x34.1.name, x34.1.kids)) (cond (p3.op == 35) ((nC n s2.2.1).bind fun x35 => some (x35.2, x35.1.kind, x35.1.name, x35.1.kids)) (cond (p3.op == 36) ((nE n s2.2.1).bind fun x36 => some (x36.2, x36.1.kind, x36.1.name, x36.1.kids)) (cond (p3.op == 37) ((sH n s2.2.1).bind fun x37 => some (x37.2, x37.1.kind, x37.1.name, x37.1.kids)) (cond (p3.op == 38) ((sH n s2.2.1).bind fun x38 => some (x38.2, x38.1.kind, x38.1.name, x38.1.kids)) (cond (p3.op == 39) ((jw n s2.2.1).bind fun x39 => some (x39.2, x39.1.kind, x39.1.name, x39.1.kids)) (cond (p3.op == 40) ((jw n s2.2.1).bind fun x40 => some (x40.2, x40.1.kind, x40.1.name, x40.1.kids)) (cond (p3.op == 41) ((iI n s2.2.1).bind fun x41 => some (x41.2, x41.1.kind, x41.1.name, x41.1.kids)) (cond (p3.op == 42) ((iI n s2.2.1).bind fun x42 => some (x42.2, x42.1.kind, x42.1.name, x42.1.kids)) (cond (p3.op == 43) ((iI n s2.2.1).bind fun x43 => some (x43.2, x43.1.kind, x43.1.name, x43.1.kids)) (cond (p3.op == 44) ((iI n s2.2.1).bind fun x44 => some (x44.2, x44.1.kind, x44.1.name, x44.1.kids)) (cond (p3.op == 45) ((iI n s2.2.1).bind fun x45 => some (x45.2, x45.1.kind, x45.1.name, x45.1.kids)) (cond (p3.op == 46) ((tq n s2.2.1).bind fun x46 => some (x46.2, x46.1.kind, x46.1.name, x46.1.kids)) (cond (p3.op == 47) ((tJ n s2.2.1).bind fun x47 => some (x47.2, x47.1.kind, x47.1.name, x47.1.kids)) (cond (p3.op == 48) ((nQ n s2.2.1).bind fun x48 => some (x48.2, x48.1.kind, x48.1.name, x48.1.kids)) (cond (p3.op == 49) ((nQ n s2.2.1).bind fun x49 => some (x49.2, x49.1.kind, x49.1.name, x49.1.kids)) (cond (p3.op == 50) ((nA n s2.2.1).bind fun x50 => some (x50.2, x50.1.kind, x50.1.name, x50.1.kids)) (cond (p3.op == 51) ((ny n s2.2.1).bind fun x51 => some (x51.2, x51.1.kind, x51.1.name, x51.1.kids)) (cond (p3.op == 52) ((nG n s2.2.1).bind fun x52 => some (x52.2, x52.1.kind, x52.1.name, x52.1.kids)) (cond (p3.op == 53) ((nD n s2.2.1).bind fun x53 => some (x53.2, x53.1.kind, x53.1.name, x53.1.kids)) (cond (p3.op == 54) ((nH n s2.2.1).bind fun x54 => some (x54.2, x54.1.kind, x54.1.name, x54.1.kids)) (cond (p3.op == 55) ((yK n s2.2.1).bind fun x55 => some (x55.2, x55.1.kind, x55.1.name, x55.1.kids)) (cond (p3.op == 56) ((wK n s2.2.1).bind fun x56 => some (x56.2, x56.1.kind, x56.1.name, x56.1.kids)) none))))))))))))))))))))))))))))))))))))))))))))))))))))))))) : Option (Bool × Int × Str × (List Ty))).bind fun s4 => (cond (!s4.1) (some ((Ty.mk 0 ([] : Str) ([])), 7, s2.2.2)) ((ql n (Ty.mk s4.2.1 s4.2.2.1 s4.2.2.2)).bind fun x5 => some (x5.1, x5.2, s2.2.2))))))) (fun r => some r)))
def ng (n : Nat) (qd9 : (List (Str × Ty)) → (List (Str × Bool)) → (List Int) → Tm → (List Decl) → Option (Ty × Int × (List Int))) (qd8 : (List (Str × Ty)) → (List (Str × Bool)) → (List Int) → Tm → Int → (List Decl) → Option (Ty × Int × (List Int))) (p0 : List (Str × Ty)) (p1 : List (Str × Bool)) (p2 : List Int) (p3 : Tm) (p4 : Int) (p5 : List Decl) : Option (Ty × Int × (List Int)) := ((app 8 p2 ([p4])).bind fun x1 => ((idx p3.kids p4).bind fun x2 => ((qd9 p0 p1 x1 x2 p5).bind fun x3 => (((cond (x3.2.1 == 0) ((iX x3.2.2 0 (IntKind.wrap .i64 ((x3.2.2.length : Int) - 1))).bind fun x4 => some x4) (some x3.2.2)) : Option (List Int)).bind fun s1 => some (x3.1, x3.2.1, s1)))))
mutual
def jE : Nat → (List (Str × Ty)) → (List (Str × Bool)) → (List Int) → Tm → (List Decl) → Option (Ty × Int × (List Int))
 | 0, _, _, _, _, _ => none
 | n + 1, p0, p1, p2, p3, p4 => pE n (fun p0 p1 p2 p3 p4 => jE n p0 p1 p2 p3 p4) (fun p0 p1 p2 p3 p4 p5 => iq n p0 p1 p2 p3 p4 p5) p0 p1 p2 p3 p4
def iq : Nat → (List (Str × Ty)) → (List (Str × Bool)) → (List Int) → Tm → Int → (List Decl) → Option (Ty × Int × (List Int))
 | 0, _, _, _, _, _, _ => none
 | n + 1, p0, p1, p2, p3, p4, p5 => ng n (fun p0 p1 p2 p3 p4 => jE n p0 p1 p2 p3 p4) (fun p0 p1 p2 p3 p4 p5 => iq n p0 p1 p2 p3 p4 p5) p0 p1 p2 p3 p4 p5
end
def uD (n : Nat) (qef : Ty → Option Ty) (p0 : Ty) : Nat → (Int × (List Ty)) → Option (LR (List Ty) Ty)
 | 0, _ => none
 | k + 1, s1 => (cond (decide (s1.1 < (p0.kids.length : Int))) ((idx p0.kids s1.1).bind fun x1 => ((qef x1).bind fun x2 => ((app 48 s1.2 ([x2])).bind fun x3 => uD n qef p0 k ((s1.1 + 1), x3)))) (some (.nx s1.2)))
def rH (n : Nat) (qef : Ty → Option Ty) (p0 : Ty) : Option Ty := ((uD n qef p0 n (0, ([] : List Ty))).bind (LR.el (fun s2 => some (Ty.mk p0.kind p0.name s2)) (fun r => some r)))
def gX : Nat → Ty → Option Ty
 | 0, _ => none
 | n + 1, p0 => rH n (fun p0 => gX n p0) p0
def eT (n : Nat) (p0 : Env) (p1 : Tm) : Option (Ty × (List Int) × Int) := ((((jh n p0).bind fun x5 => (cond (!x5) (some true) ((Ak n p1).bind fun x6 => some (!x6)))) : Option Bool).bind fun s1 => (cond s1 (some ((Ty.mk 0 ([] : Str) ([])), ([] : List Int), 1)) ((vL n p0).bind fun x1 => ((jE n x1.1 x1.2 ([] : List Int) p1 ([] : List Decl)).bind fun x2 => (cond (x2.2.1 != 0) ((slices_Clone_int n x2.2.2).bind fun x3 => some ((Ty.mk 0 ([] : Str) ([])), x3, x2.2.1)) ((gX n x2.1).bind fun x4 => some (x4, ([] : List Int), 0)))))))
def wD (n : Nat) (p0 : Int) : Option Bool := (((cond (decide (97 ≤ p0)) (cond (decide (p0 ≤ 122)) (some true) (cond (decide (65 ≤ p0)) (some (decide (p0 ≤ 90))) (some false))) (cond (decide (65 ≤ p0)) (some (decide (p0 ≤ 90))) (some false))) : Option Bool).bind fun s1 => some s1)
def Lp (n : Nat) (p0 : Str) (p1 : List Str) : Nat → Int → Option (LR Unit Bool)
 | 0, _ => none
 | k + 1, s1 => (cond (decide (s1 < (p1.length : Int))) ((idx p1 s1).bind fun x1 => (cond (x1 == p0) (some (.rt true)) (Lp n p0 p1 k (s1 + 1)))) (some (.nx ())))
def mZ (n : Nat) (p0 : Str) (p1 : List Str) : Option Bool := ((Lp n p0 p1 n 0).bind (LR.el (fun s2 => some false) (fun r => some r)))
def DC (n : Nat) (p0 : Str) : Option Bool := ((mZ n p0 ([([116, 114, 117, 101] : Str), ([102, 97, 108, 115, 101] : Str), ([110, 111, 116] : Str), ([111, 114] : Str), ([102, 111, 114, 97, 108, 108] : Str), ([101, 120, 105, 115, 116, 115] : Str), ([105, 110] : Str), ([110, 111, 116, 105, 110] : Str), ([115, 117, 98] : Str), ([109, 111, 100] : Str), ([102, 117, 110] : Str), ([99, 97, 114, 100] : Str), ([109, 105, 110] : Str), ([109, 97, 120] : Str), ([100, 111, 109] : Str), ([114, 97, 110] : Str), ([80, 79, 87] : Str), ([105, 110, 116] : Str), ([98, 111, 111, 108] : Str), ([115, 101, 116] : Str), ([112, 97, 105, 114] : Str)])).bind fun x1 => some x1)
def yO (n : Nat) (p0 : Int) : Option Bool := (((cond (decide (48 ≤ p0)) (some (decide (p0 ≤ 57))) (some false)) : Option Bool).bind fun s1 => some s1)
def tQ (n : Nat) (p0 : Str) : Nat → Int → Option (LR Unit Bool)
 | 0, _ => none
 | k + 1, s2 => (cond (decide (s2 < (p0.length : Int))) ((((jl p0 s2).bind fun x1 => ((wD n x1).bind fun x2 => (cond (!x2) ((jl p0 s2).bind fun x3 => ((yO n x3).bind fun x4 => (cond (!x4) ((jl p0 s2).bind fun x5 => some (x5 != 95)) (some false)))) (some false)))) : Option Bool).bind fun s4 => (cond s4 (some (.rt false)) (tQ n p0 k (s2 + 1)))) (some (.nx ())))
def iM (n : Nat) (p0 : Str) : Option Bool := (((cond (decide ((p0.length : Int) < 1)) (some true) (cond (decide (16 < (p0.length : Int))) (some true) ((jl p0 0).bind fun x6 => ((wD n x6).bind fun x7 => (cond (!x7) (some true) ((DC n p0).bind fun x8 => some x8)))))) : Option Bool).bind fun s1 => (cond s1 (some false) ((tQ n p0 n 1).bind (LR.el (fun s3 => some true) (fun r => some r)))))
def nW (n : Nat) (p0 : Str) : Option Bool := (((cond (decide (1 < (p0.length : Int))) ((jl p0 ((p0.length : Int) - 1)).bind fun x1 => (cond (x1 == 39) ((iX p0 0 ((p0.length : Int) - 1)).bind fun x2 => ((iM n x2).bind fun x3 => some x3)) (some false))) (some false)) : Option Bool).bind fun s1 => some s1)
def A9 (n : Nat) (p0 : Str) : Option Bool := ((((iM n p0).bind fun x1 => (cond x1 (some true) ((nW n p0).bind fun x2 => some x2))) : Option Bool).bind fun s1 => some s1)
def y9 (n : Nat) (qdn : Ty → Int → Int → Option Int) (p0 : Ty) (p1 : Int) : Nat → (Int × Int) → Option (LR Int Int)
 | 0, _ => none
 | k + 1, s4 => (cond (decide (s4.2 < (p0.kids.length : Int))) ((idx p0.kids s4.2).bind fun x1 => ((qdn x1 (IntKind.wrap .i64 (p1 + 1)) s4.1).bind fun x2 => (cond (decide (x2 < 0)) (some (.rt (-1))) (y9 n qdn p0 p1 k (x2, (s4.2 + 1)))))) (some (.nx s4.1)))
def Bq (n : Nat) (qdn : Ty → Int → Int → Option Int) (p0 : Ty) (p1 p2 : Int) : Option Int := (((cond (decide (6 < p1)) (some true) (cond (decide (16 < (IntKind.wrap .i64 (p2 + 1)))) (some true) (cond (p0.kind == 2) (some (decide (1 < p1))) (some false)))) : Option Bool).bind fun s1 => (cond s1 (some (-1)) (((((cond (p0.kind == 1) (some (p0.kind == 1)) (cond (p0.kind == 2) (some (p0.kind == 2)) (some (p0.kind == 3)))) : Option Bool).bind fun s6 => (cond s6 (some (.nx 0)) (cond (p0.kind == 5) (some (.nx 1)) (cond (p0.kind == 4) (some (.nx 2)) (some (.rt (-1))))))) : Option (LR Int Int)).bind (LR.el (fun s2 => (((cond ((p0.kids.length : Int) != s2) (some true) (cond (p0.kind == 3) ((iM n p0.name).bind fun x3 => (cond (!x3) (some true) (cond (p0.kind != 3) (some (!(p0.name == ([] : Str)))) (some false)))) (cond (p0.kind != 3) (some (!(p0.name == ([] : Str)))) (some false)))) : Option Bool).bind fun s3 => (cond s3 (some (-1)) ((y9 n qdn p0 p1 n ((IntKind.wrap .i64 (p2 + 1)), 0)).bind (LR.el (fun s5 => some s5) (fun r => some r)))))) (fun r => some r)))))
def vE : Nat → Ty → Int → Int → Option Int
 | 0, _, _, _ => none
 | n + 1, p0, p1, p2 => Bq n (fun p0 p1 p2 => vE n p0 p1 p2) p0 p1 p2
def jk (n : Nat) (p0 : Ty) : Option Bool := ((vE n p0 1 0).bind fun x1 => some (decide (0 < x1)))
def Pt (n : Nat) (p0 : Int) : Option Int := (((cond (p0 == 1) (some true) (cond (p0 == 2) (some true) (cond (p0 == 19) (some true) (cond (p0 == 20) (some true) (some (p0 == 29)))))) : Option Bool).bind fun s1 => (cond s1 (some 0) (((cond (p0 == 3) (some true) (cond (p0 == 21) (some true) (cond (decide (46 ≤ p0)) (some (decide (p0 ≤ 52))) (some false)))) : Option Bool).bind fun s2 => (cond s2 (some 1) (cond (p0 == 28) (some (-1)) (((cond (decide (4 ≤ p0)) (some (decide (p0 ≤ 56))) (some false)) : Option Bool).bind fun s3 => (cond s3 (some 2) (some (-2)))))))))
def kG (n : Nat) (p0 : Int) : Option Bool := (((cond (p0 == 8) (some true) (cond (p0 == 9) (some true) (cond (p0 == 55) (some true) (some (p0 == 56))))) : Option Bool).bind fun s1 => some s1)
def Eh (n : Nat) (p0 : Ty) : Option Bool := (((cond (p0.kind == 0) (cond (p0.name == ([] : Str)) (some ((p0.kids.length : Int) == 0)) (some false)) (some false)) : Option Bool).bind fun s1 => some s1)
def Pm (n : Nat) (p0 : Tm) : Option Bool := ((Pt n p0.op).bind fun x1 => (((cond (x1 == (-2)) (some true) (cond (x1 == (-1)) (cond ((p0.kids.length : Int) == 0) (some true) (cond (decide (0 ≤ x1)) (some ((p0.kids.length : Int) != x1)) (some false))) (cond (decide (0 ≤ x1)) (some ((p0.kids.length : Int) != x1)) (some false)))) : Option Bool).bind fun s1 => (cond s1 (some false) (((cond (p0.op == 20) ((A9 n p0.name).bind fun x4 => (cond (!x4) (some (.rt false)) (some (.nx ())))) ((kG n p0.op).bind fun x5 => (cond x5 ((iM n p0.name).bind fun x6 => (cond (!x6) (some (.rt false)) (some (.nx ())))) (cond (!(p0.name == ([] : Str))) (some (.rt false)) (some (.nx ())))))) : Option (LR Unit Bool)).bind (LR.el (fun s2 => (((cond (p0.op == 19) (cond (decide (p0.n < 0)) (some true) (cond (decide (1000000000 < p0.n)) (some true) (cond (p0.op != 19) (some (p0.n != 0)) (some false)))) (cond (p0.op != 19) (some (p0.n != 0)) (some false))) : Option Bool).bind fun s3 => (cond s3 (some false) (cond (p0.op == 29) ((((jk n p0.ty).bind fun x2 => (cond x2 (some (p0.ty.kind != 2)) (some false))) : Option Bool).bind fun s4 => some s4) ((Eh n p0.ty).bind fun x3 => some x3))))) (fun r => some r))))))
def EJ (n : Nat) (qda : Tm → Int → Int → Option Int) (p0 : Tm) (p1 : Int) : Nat → (Int × Int) → Option (LR Int Int)
 | 0, _ => none
 | k + 1, s2 => (cond (decide (s2.2 < (p0.kids.length : Int))) ((idx p0.kids s2.2).bind fun x1 => ((qda x1 (IntKind.wrap .i64 (p1 + 1)) s2.1).bind fun x2 => (cond (decide (x2 < 0)) (some (.rt (-1))) (EJ n qda p0 p1 k (x2, (s2.2 + 1)))))) (some (.nx s2.1)))
def Bw (n : Nat) (qda : Tm → Int → Int → Option Int) (p0 : Tm) (p1 p2 : Int) : Option Int := (((cond (decide (64 < p1)) (some true) (cond (decide (2000 < (IntKind.wrap .i64 (p2 + 1)))) (some true) ((Pm n p0).bind fun x3 => some (!x3)))) : Option Bool).bind fun s1 => (cond s1 (some (-1)) ((EJ n qda p0 p1 n ((IntKind.wrap .i64 (p2 + 1)), 0)).bind (LR.el (fun s3 => some s3) (fun r => some r)))))
def xk : Nat → Tm → Int → Int → Option Int
 | 0, _, _, _ => none
 | n + 1, p0, p1, p2 => Bw n (fun p0 p1 p2 => xk n p0 p1 p2) p0 p1 p2
def iA (n : Nat) (p0 : Tm) : Option Bool := ((xk n p0 1 0).bind fun x1 => some (decide (0 < x1)))
def wO (n : Nat) (qcz : Ty → Ty → Option Bool) (p0 p1 : Ty) : Nat → Int → Option (LR Unit Bool)
 | 0, _ => none
 | k + 1, s2 => (cond (decide (s2 < (p0.kids.length : Int))) ((idx p0.kids s2).bind fun x1 => ((idx p1.kids s2).bind fun x2 => ((qcz x1 x2).bind fun x3 => (cond (!x3) (some (.rt false)) (wO n qcz p0 p1 k (s2 + 1)))))) (some (.nx ())))
def qd (n : Nat) (qcz : Ty → Ty → Option Bool) (p0 p1 : Ty) : Option Bool := (((cond (p0.kind != p1.kind) (some true) (cond (!(p0.name == p1.name)) (some true) (some ((p0.kids.length : Int) != (p1.kids.length : Int))))) : Option Bool).bind fun s1 => (cond s1 (some false) ((wO n qcz p0 p1 n 0).bind (LR.el (fun s3 => some true) (fun r => some r)))))
def bL : Nat → Ty → Ty → Option Bool
 | 0, _, _ => none
 | n + 1, p0, p1 => qd n (fun p0 p1 => bL n p0 p1) p0 p1
end Abs
end Go.Proofs.YtiiaccpcoclklaaGreat
