/-
  The plain functions of the program (printed by gen.py). Conditions: none.
-/
import Derived.Test.YtiiaccpcoclklaaGreatCAbs38xf5d4b8
set_option linter.unusedSimpArgs false
set_option linter.unusedVariables false
namespace Go.Proofs.YtiiaccpcoclklaaGreat
namespace Abs
open Go Go.Proofs
set_option maxRecDepth 100000
set_option maxHeartbeats 40000000
def qW (n : Nat) (p0 : Env) : Nat → Int → Option (LR Unit Bool)
 | 0, _ => none
 | k + 1, s2 => (cond (decide (s2 < (p0.carriers.length : Int))) ((idx p0.carriers s2).bind fun x1 => (cond (decide (200 < (x1.elems.length : Int))) (some (.rt false)) (qW n p0 k (s2 + 1)))) (some (.nx ())))
def yC (n : Nat) (p0 : Env) : Option Bool := (((cond (decide (200 < (p0.carriers.length : Int))) (some true) (some (decide (200 < (p0.names.length : Int))))) : Option Bool).bind fun s1 => (cond s1 (some false) ((qW n p0 n 0).bind (LR.el (fun s3 => some true) (fun r => some r)))))
def pU (n : Nat) (p0 : Int) : Option Bool := (((cond (decide (97 ≤ p0)) (cond (decide (p0 ≤ 122)) (some true) (cond (decide (65 ≤ p0)) (some (decide (p0 ≤ 90))) (some false))) (cond (decide (65 ≤ p0)) (some (decide (p0 ≤ 90))) (some false))) : Option Bool).bind fun s1 => some s1)
def qz (n : Nat) (p0 : Str) : Option Bool := (((cond (p0 == ([116, 114, 117, 101] : Str)) (some (p0 == ([116, 114, 117, 101] : Str))) (cond (p0 == ([102, 97, 108, 115, 101] : Str)) (some (p0 == ([102, 97, 108, 115, 101] : Str))) (cond (p0 == ([110, 111, 116] : Str)) (some (p0 == ([110, 111, 116] : Str))) (cond (p0 == ([111, 114] : Str)) (some (p0 == ([111, 114] : Str))) (cond (p0 == ([102, 111, 114, 97, 108, 108] : Str)) (some (p0 == ([102, 111, 114, 97, 108, 108] : Str))) (cond (p0 == ([101, 120, 105, 115, 116, 115] : Str)) (some (p0 == ([101, 120, 105, 115, 116, 115] : Str))) (cond (p0 == ([105, 110] : Str)) (some (p0 == ([105, 110] : Str))) (cond (p0 == ([110, 111, 116, 105, 110] : Str)) (some (p0 == ([110, 111, 116, 105, 110] : Str))) (cond (p0 == ([115, 117, 98] : Str)) (some (p0 == ([115, 117, 98] : Str))) (cond (p0 == ([109, 111, 100] : Str)) (some (p0 == ([109, 111, 100] : Str))) (cond (p0 == ([102, 117, 110] : Str)) (some (p0 == ([102, 117, 110] : Str))) (cond (p0 == ([99, 97, 114, 100] : Str)) (some (p0 == ([99, 97, 114, 100] : Str))) (cond (p0 == ([109, 105, 110] : Str)) (some (p0 == ([109, 105, 110] : Str))) (cond (p0 == ([109, 97, 120] : Str)) (some (p0 == ([109, 97, 120] : Str))) (cond (p0 == ([100, 111, 109] : Str)) (some (p0 == ([100, 111, 109] : Str))) (cond (p0 == ([114, 97, 110] : Str)) (some (p0 == ([114, 97, 110] : Str))) (cond (p0 == ([80, 79, 87] : Str)) (some (p0 == ([80, 79, 87] : Str))) (cond (p0 == ([105, 110, 116] : Str)) (some (p0 == ([105, 110, 116] : Str))) (cond (p0 == ([98, 111, 111, 108] : Str)) (some (p0 == ([98, 111, 111, 108] : Str))) (cond (p0 == ([115, 101, 116] : Str)) (some (p0 == ([115, 101, 116] : Str))) (some (p0 == ([112, 97, 105, 114] : Str))))))))))))))))))))))) : Option Bool).bind fun s1 => (cond s1 (some true) (some false)))
def tL (n : Nat) (p0 : Int) : Option Bool := (((cond (decide (48 ≤ p0)) (some (decide (p0 ≤ 57))) (some false)) : Option Bool).bind fun s1 => some s1)
def rD (n : Nat) (p0 : Int) : Option Bool := ((((pU n p0).bind fun x1 => (cond x1 (some true) ((tL n p0).bind fun x2 => (cond x2 (some true) (some (p0 == 95)))))) : Option Bool).bind fun s1 => some s1)
def jV (n : Nat) (p0 : Str) : Nat → Int → Option (LR Unit Bool)
 | 0, _ => none
 | k + 1, s2 => (cond (decide (s2 < (p0.length : Int))) ((sZ p0 s2).bind fun x1 => ((rD n x1).bind fun x2 => (cond (!x2) (some (.rt false)) (jV n p0 k (s2 + 1))))) (some (.nx ())))
def dI (n : Nat) (p0 : Str) : Option Bool := (((cond (p0 == ([] : Str)) (some true) (cond (decide (16 < (p0.length : Int))) (some true) ((sZ p0 0).bind fun x3 => ((pU n x3).bind fun x4 => (cond (!x4) (some true) ((qz n p0).bind fun x5 => some x5)))))) : Option Bool).bind fun s1 => (cond s1 (some false) ((jV n p0 n 0).bind (LR.el (fun s3 => some true) (fun r => some r)))))
def iA (n : Nat) (p0 : Str) (p1 : Str) : Option Bool := (((cond (decide ((p1.length : Int) ≤ (p0.length : Int))) ((qx p0 (IntKind.wrap .i64 ((p0.length : Int) - (p1.length : Int))) (p0.length : Int)).bind fun x1 => some (x1 == p1)) (some false)) : Option Bool).bind fun s1 => some s1)
def ig (n : Nat) (p0 : Str) (p1 : Str) : Option Str := ((iA n p0 p1).bind fun x1 => (cond x1 ((qx p0 0 (IntKind.wrap .i64 ((p0.length : Int) - (p1.length : Int)))).bind fun x2 => some x2) (some p0)))
def strings_TrimSuffix (n : Nat) (p0 : Str) (p1 : Str) : Option Str := ((ig n p0 p1).bind fun x1 => some x1)
def lW (n : Nat) (p0 : Str) : Option Bool := ((strings_TrimSuffix n p0 ([39] : Str)).bind fun x1 => ((dI n x1).bind fun x2 => some x2))
def gH (n : Nat) (p0 : Int) (p1 : Int) (p2 : Int) (p3 : Int) : Option (Bool × Int) := (((cond (decide ((IntKind.wrap .i64 (p0 + 1)) ≤ p1)) (some (decide (p3 ≤ p2))) (some false)) : Option Bool).bind fun s1 => some (s1, (IntKind.wrap .i64 (p0 + 1))))
def iV (n : Nat) (rec_slices_IndexFunc_Type : (List Ty) → Int → Int → Int → Int → Option (Int × Int)) (rec_slices_ContainsFunc_Type : (List Ty) → Int → Int → Int → Int → Option (Bool × Int)) (rec_term_measure_typeFits : Int → Int → Int → Ty → Int → Bool → Option (Bool × Int)) (rec_term_measure_typeFits_1 : Ty → Int → Int → Int → Int → Option (Bool × Int)) (p0 : List Ty) (p2 : Int) (p3 : Int) (p4 : Int) : Nat → (Int × Int) → Option (LR Int (Int × Int))
 | 0, _ => none
 | k + 1, s1 => (cond (decide (s1.1 < (p0.length : Int))) ((idx p0 s1.1).bind fun x1 => ((rec_term_measure_typeFits_1 x1 s1.2 p2 p3 p4).bind fun x2 => (cond x2.1 (some (.rt (s1.1, x2.2))) (iV n rec_slices_IndexFunc_Type rec_slices_ContainsFunc_Type rec_term_measure_typeFits rec_term_measure_typeFits_1 p0 p2 p3 p4 k ((s1.1 + 1), x2.2))))) (some (.nx s1.2)))
def dP (n : Nat) (rec_slices_IndexFunc_Type : (List Ty) → Int → Int → Int → Int → Option (Int × Int)) (rec_slices_ContainsFunc_Type : (List Ty) → Int → Int → Int → Int → Option (Bool × Int)) (rec_term_measure_typeFits : Int → Int → Int → Ty → Int → Bool → Option (Bool × Int)) (rec_term_measure_typeFits_1 : Ty → Int → Int → Int → Int → Option (Bool × Int)) (p0 : List Ty) (p1 : Int) (p2 : Int) (p3 : Int) (p4 : Int) : Option (Int × Int) := ((iV n rec_slices_IndexFunc_Type rec_slices_ContainsFunc_Type rec_term_measure_typeFits rec_term_measure_typeFits_1 p0 p2 p3 p4 n (0, p1)).bind (LR.el (fun s2 => some ((-1), s2)) (fun r => some r)))
def fK (n : Nat) (rec_slices_IndexFunc_Type : (List Ty) → Int → Int → Int → Int → Option (Int × Int)) (rec_slices_ContainsFunc_Type : (List Ty) → Int → Int → Int → Int → Option (Bool × Int)) (rec_term_measure_typeFits : Int → Int → Int → Ty → Int → Bool → Option (Bool × Int)) (rec_term_measure_typeFits_1 : Ty → Int → Int → Int → Int → Option (Bool × Int)) (p0 : List Ty) (p1 : Int) (p2 : Int) (p3 : Int) (p4 : Int) : Option (Bool × Int) := ((rec_slices_IndexFunc_Type p0 p1 p2 p3 p4).bind fun x1 => some ((decide (0 ≤ x1.1)), x1.2))
def gQ (n : Nat) (rec_slices_IndexFunc_Type : (List Ty) → Int → Int → Int → Int → Option (Int × Int)) (rec_slices_ContainsFunc_Type : (List Ty) → Int → Int → Int → Int → Option (Bool × Int)) (rec_term_measure_typeFits : Int → Int → Int → Ty → Int → Bool → Option (Bool × Int)) (rec_term_measure_typeFits_1 : Ty → Int → Int → Int → Int → Option (Bool × Int)) (p0 : Int) (p1 : Int) (p2 : Int) (p3 : Ty) (p4 : Int) (p5 : Bool) : Option (Bool × Int) := ((gH n p0 p1 p2 p4).bind fun x1 => (cond (!x1.1) (some (false, x1.2)) (((cond (p3.kind == 1) (some (.nx 0)) (cond (p3.kind == 2) (cond p5 (some (.rt (false, x1.2))) (some (.nx 0))) (cond (p3.kind == 3) ((dI n p3.name).bind fun x3 => (cond (!x3) (some (.rt (false, x1.2))) (some (.nx 0)))) (cond (p3.kind == 4) (some (.nx 2)) (cond (p3.kind == 5) (some (.nx 1)) (some (.rt (false, x1.2)))))))) : Option (LR Int (Bool × Int))).bind (LR.el (fun s1 => (((cond ((p3.kids.length : Int) != s1) (some true) (cond (p3.kind != 3) (some (!(p3.name == ([] : Str)))) (some false))) : Option Bool).bind fun s2 => (cond s2 (some (false, x1.2)) ((rec_slices_ContainsFunc_Type p3.kids x1.2 p1 p2 p4).bind fun x2 => some ((!x2.1), x2.2))))) (fun r => some r)))))
def fP (n : Nat) (rec_slices_IndexFunc_Type : (List Ty) → Int → Int → Int → Int → Option (Int × Int)) (rec_slices_ContainsFunc_Type : (List Ty) → Int → Int → Int → Int → Option (Bool × Int)) (rec_term_measure_typeFits : Int → Int → Int → Ty → Int → Bool → Option (Bool × Int)) (rec_term_measure_typeFits_1 : Ty → Int → Int → Int → Int → Option (Bool × Int)) (p0 : Ty) (p1 : Int) (p2 : Int) (p3 : Int) (p4 : Int) : Option (Bool × Int) := ((rec_term_measure_typeFits p1 p2 p3 p0 (IntKind.wrap .i64 (p4 + 1)) true).bind fun x1 => some ((!x1.1), x1.2))
mutual
def eO : Nat → (List Ty) → Int → Int → Int → Int → Option (Int × Int)
 | 0, _, _, _, _, _ => none
 | n + 1, p0, p1, p2, p3, p4 => dP n (fun p0 p1 p2 p3 p4 => eO n p0 p1 p2 p3 p4) (fun p0 p1 p2 p3 p4 => bT n p0 p1 p2 p3 p4) (fun p0 p1 p2 p3 p4 p5 => dh n p0 p1 p2 p3 p4 p5) (fun p0 p1 p2 p3 p4 => bW n p0 p1 p2 p3 p4) p0 p1 p2 p3 p4
def bT : Nat → (List Ty) → Int → Int → Int → Int → Option (Bool × Int)
 | 0, _, _, _, _, _ => none
 | n + 1, p0, p1, p2, p3, p4 => fK n (fun p0 p1 p2 p3 p4 => eO n p0 p1 p2 p3 p4) (fun p0 p1 p2 p3 p4 => bT n p0 p1 p2 p3 p4) (fun p0 p1 p2 p3 p4 p5 => dh n p0 p1 p2 p3 p4 p5) (fun p0 p1 p2 p3 p4 => bW n p0 p1 p2 p3 p4) p0 p1 p2 p3 p4
def dh : Nat → Int → Int → Int → Ty → Int → Bool → Option (Bool × Int)
 | 0, _, _, _, _, _, _ => none
 | n + 1, p0, p1, p2, p3, p4, p5 => gQ n (fun p0 p1 p2 p3 p4 => eO n p0 p1 p2 p3 p4) (fun p0 p1 p2 p3 p4 => bT n p0 p1 p2 p3 p4) (fun p0 p1 p2 p3 p4 p5 => dh n p0 p1 p2 p3 p4 p5) (fun p0 p1 p2 p3 p4 => bW n p0 p1 p2 p3 p4) p0 p1 p2 p3 p4 p5
def bW : Nat → Ty → Int → Int → Int → Int → Option (Bool × Int)
 | 0, _, _, _, _, _ => none
 | n + 1, p0, p1, p2, p3, p4 => fP n (fun p0 p1 p2 p3 p4 => eO n p0 p1 p2 p3 p4) (fun p0 p1 p2 p3 p4 => bT n p0 p1 p2 p3 p4) (fun p0 p1 p2 p3 p4 p5 => dh n p0 p1 p2 p3 p4 p5) (fun p0 p1 p2 p3 p4 => bW n p0 p1 p2 p3 p4) p0 p1 p2 p3 p4
end
def jM (n : Nat) (p0 : Ty) : Option Bool := ((dh n 0 16 6 p0 1 false).bind fun x1 => some x1.1)
def gP (n : Nat) (rec_slices_IndexFunc_Type_1 : (List Ty) → Int → Option Int) (rec_slices_ContainsFunc_Type_1 : (List Ty) → Int → Option Bool) (rec_typing_contains : Ty → Int → Option Bool) (rec_typing_contains_1 : Ty → Int → Option Bool) (p0 : List Ty) (p1 : Int) : Nat → Int → Option (LR Unit Int)
 | 0, _ => none
 | k + 1, s1 => (cond (decide (s1 < (p0.length : Int))) ((idx p0 s1).bind fun x1 => ((rec_typing_contains_1 x1 p1).bind fun x2 => (cond x2 (some (.rt s1)) (gP n rec_slices_IndexFunc_Type_1 rec_slices_ContainsFunc_Type_1 rec_typing_contains rec_typing_contains_1 p0 p1 k (s1 + 1))))) (some (.nx ())))
def fQ (n : Nat) (rec_slices_IndexFunc_Type_1 : (List Ty) → Int → Option Int) (rec_slices_ContainsFunc_Type_1 : (List Ty) → Int → Option Bool) (rec_typing_contains : Ty → Int → Option Bool) (rec_typing_contains_1 : Ty → Int → Option Bool) (p0 : List Ty) (p1 : Int) : Option Int := ((gP n rec_slices_IndexFunc_Type_1 rec_slices_ContainsFunc_Type_1 rec_typing_contains rec_typing_contains_1 p0 p1 n 0).bind (LR.el (fun s2 => some (-1)) (fun r => some r)))
def eY (n : Nat) (rec_slices_IndexFunc_Type_1 : (List Ty) → Int → Option Int) (rec_slices_ContainsFunc_Type_1 : (List Ty) → Int → Option Bool) (rec_typing_contains : Ty → Int → Option Bool) (rec_typing_contains_1 : Ty → Int → Option Bool) (p0 : List Ty) (p1 : Int) : Option Bool := ((rec_slices_IndexFunc_Type_1 p0 p1).bind fun x1 => some (decide (0 ≤ x1)))
def j5 (n : Nat) (rec_slices_IndexFunc_Type_1 : (List Ty) → Int → Option Int) (rec_slices_ContainsFunc_Type_1 : (List Ty) → Int → Option Bool) (rec_typing_contains : Ty → Int → Option Bool) (rec_typing_contains_1 : Ty → Int → Option Bool) (p0 : Ty) (p1 : Int) : Option Bool := (((cond (p0.kind == p1) (some true) ((rec_slices_ContainsFunc_Type_1 p0.kids p1).bind fun x1 => some x1)) : Option Bool).bind fun s1 => some s1)
def jr (n : Nat) (rec_slices_IndexFunc_Type_1 : (List Ty) → Int → Option Int) (rec_slices_ContainsFunc_Type_1 : (List Ty) → Int → Option Bool) (rec_typing_contains : Ty → Int → Option Bool) (rec_typing_contains_1 : Ty → Int → Option Bool) (p0 : Ty) (p1 : Int) : Option Bool := ((rec_typing_contains p0 p1).bind fun x1 => some x1)
mutual
def eZ : Nat → (List Ty) → Int → Option Int
 | 0, _, _ => none
 | n + 1, p0, p1 => fQ n (fun p0 p1 => eZ n p0 p1) (fun p0 p1 => dD n p0 p1) (fun p0 p1 => gG n p0 p1) (fun p0 p1 => fO n p0 p1) p0 p1
def dD : Nat → (List Ty) → Int → Option Bool
 | 0, _, _ => none
 | n + 1, p0, p1 => eY n (fun p0 p1 => eZ n p0 p1) (fun p0 p1 => dD n p0 p1) (fun p0 p1 => gG n p0 p1) (fun p0 p1 => fO n p0 p1) p0 p1
def gG : Nat → Ty → Int → Option Bool
 | 0, _, _ => none
 | n + 1, p0, p1 => j5 n (fun p0 p1 => eZ n p0 p1) (fun p0 p1 => dD n p0 p1) (fun p0 p1 => gG n p0 p1) (fun p0 p1 => fO n p0 p1) p0 p1
def fO : Nat → Ty → Int → Option Bool
 | 0, _, _ => none
 | n + 1, p0, p1 => jr n (fun p0 p1 => eZ n p0 p1) (fun p0 p1 => dD n p0 p1) (fun p0 p1 => gG n p0 p1) (fun p0 p1 => fO n p0 p1) p0 p1
end
def mo (n : Nat) (p0 : Ty) : Option Bool := ((((jM n p0).bind fun x1 => (cond x1 ((gG n p0 2).bind fun x2 => some (!x2)) (some false))) : Option Bool).bind fun s1 => some s1)
def kE (n : Nat) (rec_typing_collect : Ty → (List (Str × Bool)) → Option (List (Str × Bool))) (p0 : Ty) : Nat → (Int × (List (Str × Bool))) → Option (LR (List (Str × Bool)) (List (Str × Bool)))
 | 0, _ => none
 | k + 1, s2 => (cond (decide (s2.1 < (p0.kids.length : Int))) ((idx p0.kids s2.1).bind fun x1 => ((rec_typing_collect x1 s2.2).bind fun x2 => kE n rec_typing_collect p0 k ((s2.1 + 1), x2))) (some (.nx s2.2)))
def kN (n : Nat) (rec_typing_collect : Ty → (List (Str × Bool)) → Option (List (Str × Bool))) (p0 : Ty) (p1 : List (Str × Bool)) : Option (List (Str × Bool)) := (((cond (p0.kind == 3) ((qb p1 p0.name true).bind fun x3 => some x3) (some p1)) : Option (List (Str × Bool))).bind fun s1 => ((kE n rec_typing_collect p0 n (0, s1)).bind (LR.el (fun s3 => some s3) (fun r => some r))))
def iq : Nat → Ty → (List (Str × Bool)) → Option (List (Str × Bool))
 | 0, _, _ => none
 | n + 1, p0, p1 => kN n (fun p0 p1 => iq n p0 p1) p0 p1
def lS (n : Nat) (p0 : Ty) : Option (List Str) := ((jM n p0).bind fun x1 => (cond (!x1) (some ([] : List Str)) ((iq n p0 ([] : List (Str × Bool))).bind fun x2 => ((mH n x2).bind fun x3 => some x3))))
def uI (n : Nat) (p0 : Carrier) (p1 : Str) : Option Bool := some (p0.name == p1)
def gI (n : Nat) (p0 : List Carrier) (p1 : Str) : Nat → Int → Option (LR Unit Int)
 | 0, _ => none
 | k + 1, s1 => (cond (decide (s1 < (p0.length : Int))) ((idx p0 s1).bind fun x1 => (cond (x1.name == p1) (some (.rt s1)) (gI n p0 p1 k (s1 + 1)))) (some (.nx ())))
def kg (n : Nat) (p0 : List Carrier) (p1 : Str) : Option Int := ((gI n p0 p1 n 0).bind (LR.el (fun s2 => some (-1)) (fun r => some r)))
def jl (n : Nat) (p0 : List Carrier) (p1 : Str) : Option Bool := ((kg n p0 p1).bind fun x1 => some (decide (0 ≤ x1)))
def l6 (n : Nat) (p0 : Env) (p1 : Str) : Option Bool := ((jl n p0.carriers p1).bind fun x1 => some x1)
def mg (n : Nat) (p0 : Str) (p1 : List Carrier) (p2 : List Decl) : Option Bool := ((l6 n (Env.mk p1 p2) p0).bind fun x1 => some (!x1))
def gN (n : Nat) (p0 : List Str) (p1 : List Carrier) (p2 : List Decl) : Nat → Int → Option (LR Unit Int)
 | 0, _ => none
 | k + 1, s1 => (cond (decide (s1 < (p0.length : Int))) ((idx p0 s1).bind fun x1 => ((mg n x1 p1 p2).bind fun x2 => (cond x2 (some (.rt s1)) (gN n p0 p1 p2 k (s1 + 1))))) (some (.nx ())))
def kK (n : Nat) (p0 : List Str) (p1 : List Carrier) (p2 : List Decl) : Option Int := ((gN n p0 p1 p2 n 0).bind (LR.el (fun s2 => some (-1)) (fun r => some r)))
def jG (n : Nat) (p0 : List Str) (p1 : List Carrier) (p2 : List Decl) : Option Bool := ((kK n p0 p1 p2).bind fun x1 => some (decide (0 ≤ x1)))
def lM (n : Nat) (p0 : Env) (p1 : Ty) : Option Bool := ((lS n p1).bind fun x1 => ((jG n x1 p0.carriers p0.names).bind fun x2 => some (!x2)))
def lK (n : Nat) (p0 : Env) : Nat → ((List Str) × Int) → Option (LR (List Str) (List Str))
 | 0, _ => none
 | k + 1, s1 => (cond (decide (s1.2 < (p0.carriers.length : Int))) ((idx p0.carriers s1.2).bind fun x3 => ((app 16 s1.1 ([x3.name])).bind fun x4 => ((app 16 x4 x3.elems).bind fun x5 => lK n p0 k (x5, (s1.2 + 1))))) (some (.nx s1.1)))
def lH (n : Nat) (p0 : Env) : Nat → ((List Str) × Int) → Option (LR (List Str) (List Str))
 | 0, _ => none
 | k + 1, s3 => (cond (decide (s3.2 < (p0.names.length : Int))) ((idx p0.names s3.2).bind fun x1 => ((app 16 s3.1 ([x1.name])).bind fun x2 => lH n p0 k (x2, (s3.2 + 1)))) (some (.nx s3.1)))
def nM (n : Nat) (p0 : Env) : Option (List Str) := ((lK n p0 n (([] : List Str), 0)).bind (LR.el (fun s2 => ((lH n p0 n (s2, 0)).bind (LR.el (fun s4 => some s4) (fun r => some r)))) (fun r => some r)))
def lI (n : Nat) (p0 : List Str) : Nat → (Int × (List (Str × Bool))) → Option (LR Unit Bool)
 | 0, _ => none
 | k + 1, s1 => (cond (decide (s1.1 < (p0.length : Int))) ((idx p0 s1.1).bind fun x1 => (((JE (dY s1.2 x1) (some false) (fun x3 => some x3)) : Option Bool).bind fun s3 => (cond s3 (some (.rt false)) ((qb s1.2 x1 true).bind fun x2 => lI n p0 k ((s1.1 + 1), x2))))) (some (.nx ())))
def nS (n : Nat) (p0 : List Str) : Option Bool := ((lI n p0 n (0, ([] : List (Str × Bool)))).bind (LR.el (fun s2 => some true) (fun r => some r)))
def iU (n : Nat) (x7 : Carrier) : Nat → Int → Option (LR Unit Bool)
 | 0, _ => none
 | k + 1, s8 => (cond (decide (s8 < (x7.elems.length : Int))) ((idx x7.elems s8).bind fun x8 => ((dI n x8).bind fun x9 => (cond (!x9) (some (.rt false)) (iU n x7 k (s8 + 1))))) (some (.nx ())))
def lJ (n : Nat) (p0 : Env) : Nat → Int → Option (LR Unit Bool)
 | 0, _ => none
 | k + 1, s2 => (cond (decide (s2 < (p0.carriers.length : Int))) ((idx p0.carriers s2).bind fun x7 => ((((dI n x7.name).bind fun x10 => (cond (!x10) (some true) (some (decide (8 < (x7.elems.length : Int)))))) : Option Bool).bind fun s7 => (cond s7 (some (.rt false)) ((iU n x7 n 0).bind (LR.el (fun s9 => lJ n p0 k (s2 + 1)) (fun r => some (.rt r))))))) (some (.nx ())))
def kZ (n : Nat) (p0 : Env) : Nat → Int → Option (LR Unit Bool)
 | 0, _ => none
 | k + 1, s4 => (cond (decide (s4 < (p0.names.length : Int))) ((idx p0.names s4).bind fun x3 => ((((lW n x3.name).bind fun x4 => (cond (!x4) (some true) ((mo n x3.ty).bind fun x5 => (cond (!x5) (some true) ((lM n p0 x3.ty).bind fun x6 => some (!x6)))))) : Option Bool).bind fun s6 => (cond s6 (some (.rt false)) (kZ n p0 k (s4 + 1))))) (some (.nx ())))
def nL (n : Nat) (p0 : Env) : Option Bool := (((cond (decide (8 < (p0.carriers.length : Int))) (some true) (some (decide (64 < (p0.names.length : Int))))) : Option Bool).bind fun s1 => (cond s1 (some false) ((lJ n p0 n 0).bind (LR.el (fun s3 => ((kZ n p0 n 0).bind (LR.el (fun s5 => ((nM n p0).bind fun x1 => ((nS n x1).bind fun x2 => some x2))) (fun r => some r)))) (fun r => some r)))))
def vI (n : Nat) (p0 : Int) : Option (Int × Bool) := (((cond (p0 == 1) (some (p0 == 1)) (cond (p0 == 2) (some (p0 == 2)) (cond (p0 == 19) (some (p0 == 19)) (cond (p0 == 20) (some (p0 == 20)) (some (p0 == 29)))))) : Option Bool).bind fun s1 => (cond s1 (some (0, true)) (((cond (p0 == 3) (some (p0 == 3)) (cond (p0 == 21) (some (p0 == 21)) (((cond (decide (46 ≤ p0)) (some (decide (p0 ≤ 51))) (some false)) : Option Bool).bind fun s4 => (cond s4 (some s4) (some (p0 == 52)))))) : Option Bool).bind fun s2 => (cond s2 (some (1, true)) (cond (p0 == 28) (some ((-1), true)) (((cond (decide (1 ≤ p0)) (some (decide (p0 ≤ 56))) (some false)) : Option Bool).bind fun s3 => (cond s3 (some (2, true)) (some (0, false)))))))))
def wO (n : Nat) (p0 : Str) : Option Bool := ((strings_TrimSuffix n p0 ([39] : Str)).bind fun x1 => ((dI n x1).bind fun x2 => some x2))
def pK (n : Nat) (p0 : Int) : Option Bool := (((cond (p0 == 8) (some true) (cond (p0 == 9) (some true) (cond (p0 == 55) (some true) (some (p0 == 56))))) : Option Bool).bind fun s1 => some s1)
def pF (n : Nat) (p0 : Ty) : Option Bool := (((cond (p0.kind == 0) (cond (p0.name == ([] : Str)) (some ((p0.kids.length : Int) == 0)) (some false)) (some false)) : Option Bool).bind fun s1 => some s1)
def ru (n : Nat) (p0 : Tm) : Option Bool := ((vI n p0.op).bind fun x1 => (((((cond (!x1.2) (some (!x1.2)) (((cond (x1.1 == (-1)) (some ((p0.kids.length : Int) == 0)) (some false)) : Option Bool).bind fun s6 => (cond s6 (some s6) (cond (x1.1 != (-1)) (some ((p0.kids.length : Int) != x1.1)) (some false))))) : Option Bool).bind fun s5 => (cond s5 (some (.rt false)) (cond (p0.op == 20) ((wO n p0.name).bind fun x4 => some (.nx x4)) ((pK n p0.op).bind fun x5 => (cond x5 ((dI n p0.name).bind fun x6 => some (.nx x6)) (some (.nx (p0.name == ([] : Str))))))))) : Option (LR Bool Bool)).bind (LR.el (fun s1 => (((cond (p0.op == 19) (cond s1 (cond (decide (0 ≤ p0.n)) (some (decide (p0.n ≤ 1000000000))) (some false)) (some false)) (cond s1 (some (p0.n == 0)) (some false))) : Option Bool).bind fun s2 => (cond (p0.op == 29) (((cond s2 (cond (p0.ty.kind != 2) ((jM n p0.ty).bind fun x2 => some x2) (some false)) (some false)) : Option Bool).bind fun s3 => some s3) (((cond s2 ((pF n p0.ty).bind fun x3 => some x3) (some false)) : Option Bool).bind fun s4 => some s4)))) (fun r => some r))))
def iT (n : Nat) (rec_slices_IndexFunc_Term : (List Tm) → Int → Int → Int → Int → Option (Int × Int)) (rec_slices_ContainsFunc_Term : (List Tm) → Int → Int → Int → Int → Option (Bool × Int)) (rec_term_measure_fits : Int → Int → Int → Tm → Int → Option (Bool × Int)) (rec_term_measure_fits_1 : Tm → Int → Int → Int → Int → Option (Bool × Int)) (p0 : List Tm) (p2 : Int) (p3 : Int) (p4 : Int) : Nat → (Int × Int) → Option (LR Int (Int × Int))
 | 0, _ => none
 | k + 1, s1 => (cond (decide (s1.1 < (p0.length : Int))) ((idx p0 s1.1).bind fun x1 => ((rec_term_measure_fits_1 x1 s1.2 p2 p3 p4).bind fun x2 => (cond x2.1 (some (.rt (s1.1, x2.2))) (iT n rec_slices_IndexFunc_Term rec_slices_ContainsFunc_Term rec_term_measure_fits rec_term_measure_fits_1 p0 p2 p3 p4 k ((s1.1 + 1), x2.2))))) (some (.nx s1.2)))
def dO (n : Nat) (rec_slices_IndexFunc_Term : (List Tm) → Int → Int → Int → Int → Option (Int × Int)) (rec_slices_ContainsFunc_Term : (List Tm) → Int → Int → Int → Int → Option (Bool × Int)) (rec_term_measure_fits : Int → Int → Int → Tm → Int → Option (Bool × Int)) (rec_term_measure_fits_1 : Tm → Int → Int → Int → Int → Option (Bool × Int)) (p0 : List Tm) (p1 : Int) (p2 : Int) (p3 : Int) (p4 : Int) : Option (Int × Int) := ((iT n rec_slices_IndexFunc_Term rec_slices_ContainsFunc_Term rec_term_measure_fits rec_term_measure_fits_1 p0 p2 p3 p4 n (0, p1)).bind (LR.el (fun s2 => some ((-1), s2)) (fun r => some r)))
def fJ (n : Nat) (rec_slices_IndexFunc_Term : (List Tm) → Int → Int → Int → Int → Option (Int × Int)) (rec_slices_ContainsFunc_Term : (List Tm) → Int → Int → Int → Int → Option (Bool × Int)) (rec_term_measure_fits : Int → Int → Int → Tm → Int → Option (Bool × Int)) (rec_term_measure_fits_1 : Tm → Int → Int → Int → Int → Option (Bool × Int)) (p0 : List Tm) (p1 : Int) (p2 : Int) (p3 : Int) (p4 : Int) : Option (Bool × Int) := ((rec_slices_IndexFunc_Term p0 p1 p2 p3 p4).bind fun x1 => some ((decide (0 ≤ x1.1)), x1.2))
def jC (n : Nat) (rec_slices_IndexFunc_Term : (List Tm) → Int → Int → Int → Int → Option (Int × Int)) (rec_slices_ContainsFunc_Term : (List Tm) → Int → Int → Int → Int → Option (Bool × Int)) (rec_term_measure_fits : Int → Int → Int → Tm → Int → Option (Bool × Int)) (rec_term_measure_fits_1 : Tm → Int → Int → Int → Int → Option (Bool × Int)) (p0 : Int) (p1 : Int) (p2 : Int) (p3 : Tm) (p4 : Int) : Option (Bool × Int) := ((((gH n p0 p1 p2 p4).bind fun x2 => (cond (!x2.1) (some (true, x2.2)) ((ru n p3).bind fun x3 => some ((!x3), x2.2)))) : Option (Bool × Int)).bind fun s1 => (cond s1.1 (some (false, s1.2)) ((rec_slices_ContainsFunc_Term p3.kids s1.2 p1 p2 p4).bind fun x1 => some ((!x1.1), x1.2))))
def iN (n : Nat) (rec_slices_IndexFunc_Term : (List Tm) → Int → Int → Int → Int → Option (Int × Int)) (rec_slices_ContainsFunc_Term : (List Tm) → Int → Int → Int → Int → Option (Bool × Int)) (rec_term_measure_fits : Int → Int → Int → Tm → Int → Option (Bool × Int)) (rec_term_measure_fits_1 : Tm → Int → Int → Int → Int → Option (Bool × Int)) (p0 : Tm) (p1 : Int) (p2 : Int) (p3 : Int) (p4 : Int) : Option (Bool × Int) := ((rec_term_measure_fits p1 p2 p3 p0 (IntKind.wrap .i64 (p4 + 1))).bind fun x1 => some ((!x1.1), x1.2))
mutual
def eH : Nat → (List Tm) → Int → Int → Int → Int → Option (Int × Int)
 | 0, _, _, _, _, _ => none
 | n + 1, p0, p1, p2, p3, p4 => dO n (fun p0 p1 p2 p3 p4 => eH n p0 p1 p2 p3 p4) (fun p0 p1 p2 p3 p4 => dz n p0 p1 p2 p3 p4) (fun p0 p1 p2 p3 p4 => dV n p0 p1 p2 p3 p4) (fun p0 p1 p2 p3 p4 => dH n p0 p1 p2 p3 p4) p0 p1 p2 p3 p4
def dz : Nat → (List Tm) → Int → Int → Int → Int → Option (Bool × Int)
 | 0, _, _, _, _, _ => none
 | n + 1, p0, p1, p2, p3, p4 => fJ n (fun p0 p1 p2 p3 p4 => eH n p0 p1 p2 p3 p4) (fun p0 p1 p2 p3 p4 => dz n p0 p1 p2 p3 p4) (fun p0 p1 p2 p3 p4 => dV n p0 p1 p2 p3 p4) (fun p0 p1 p2 p3 p4 => dH n p0 p1 p2 p3 p4) p0 p1 p2 p3 p4
def dV : Nat → Int → Int → Int → Tm → Int → Option (Bool × Int)
 | 0, _, _, _, _, _ => none
 | n + 1, p0, p1, p2, p3, p4 => jC n (fun p0 p1 p2 p3 p4 => eH n p0 p1 p2 p3 p4) (fun p0 p1 p2 p3 p4 => dz n p0 p1 p2 p3 p4) (fun p0 p1 p2 p3 p4 => dV n p0 p1 p2 p3 p4) (fun p0 p1 p2 p3 p4 => dH n p0 p1 p2 p3 p4) p0 p1 p2 p3 p4
def dH : Nat → Tm → Int → Int → Int → Int → Option (Bool × Int)
 | 0, _, _, _, _, _ => none
 | n + 1, p0, p1, p2, p3, p4 => iN n (fun p0 p1 p2 p3 p4 => eH n p0 p1 p2 p3 p4) (fun p0 p1 p2 p3 p4 => dz n p0 p1 p2 p3 p4) (fun p0 p1 p2 p3 p4 => dV n p0 p1 p2 p3 p4) (fun p0 p1 p2 p3 p4 => dH n p0 p1 p2 p3 p4) p0 p1 p2 p3 p4
end
def oZ (n : Nat) (p0 : Tm) : Option Bool := ((dV n 0 2000 64 p0 1).bind fun x1 => some x1.1)
def DT (n : Nat) (p0 : Ty) : Option Ty := some (Ty.mk 5 ([] : Str) ([p0]))
def jk (n : Nat) (x3 : Carrier) : Nat → (Int × (List (Str × Ty))) → Option (LR (List (Str × Ty)) (List (Str × Ty)))
 | 0, _ => none
 | k + 1, s5 => (cond (decide (s5.1 < (x3.elems.length : Int))) ((idx x3.elems s5.1).bind fun x5 => ((qb s5.2 x5 (Ty.mk 3 x3.name ([]))).bind fun x6 => jk n x3 k ((s5.1 + 1), x6))) (some (.nx s5.2)))
def nN (n : Nat) (p0 : Env) : Nat → (Int × (List (Str × Ty))) → Option (LR (List (Str × Ty)) (List (Str × Ty)))
 | 0, _ => none
 | k + 1, s1 => (cond (decide (s1.1 < (p0.carriers.length : Int))) ((idx p0.carriers s1.1).bind fun x3 => ((qb s1.2 x3.name (Ty.mk 5 ([] : Str) ([(Ty.mk 3 x3.name ([]))]))).bind fun x4 => ((jk n x3 n (0, x4)).bind (LR.el (fun s6 => nN n p0 k ((s1.1 + 1), s6)) (fun r => some (.rt r)))))) (some (.nx s1.2)))
def nR (n : Nat) (p0 : Env) : Nat → (Int × (List (Str × Ty))) → Option (LR (List (Str × Ty)) (List (Str × Ty)))
 | 0, _ => none
 | k + 1, s3 => (cond (decide (s3.1 < (p0.names.length : Int))) ((idx p0.names s3.1).bind fun x1 => ((qb s3.2 x1.name x1.ty).bind fun x2 => nR n p0 k ((s3.1 + 1), x2))) (some (.nx s3.2)))
def qg (n : Nat) (p0 : Env) : Option (List (Str × Ty)) := ((nN n p0 n (0, ([] : List (Str × Ty)))).bind (LR.el (fun s2 => ((nR n p0 n (0, s2)).bind (LR.el (fun s4 => some s4) (fun r => some r)))) (fun r => some r)))
def Ee (n : Nat) : Option Ty := some (Ty.mk 2 ([] : Str) ([]))
def EU (n : Nat) (p0 : Int) (p1 : Ty) : Option Unit := some ()
def zS (n : Nat) : Option Ty := some (Ty.mk 1 ([] : Str) ([]))
def G9 (n : Nat) : Option Unit := some ()
def vZ (n : Nat) : Option Unit := some ()
def Eb (n : Nat) : Option Unit := some ()
def yZ (n : Nat) (p0 : Ty) : Option Unit := some ()
def Fg (n : Nat) : Option Unit := some ()
def Cm (n : Nat) : Option Unit := some ()
def Fe (n : Nat) : Option Unit := some ()
def Cj (n : Nat) : Option Unit := some ()
def Di (n : Nat) : Option Unit := some ()
def uJ (n : Nat) : Option Unit := some ()
def uL (n : Nat) : Option Unit := some ()
def zN (n : Nat) : Option Unit := some ()
def zM (n : Nat) : Option Unit := some ()
def uF (n : Nat) : Option Unit := some ()
def uE (n : Nat) : Option Unit := some ()
def uK (n : Nat) : Option Unit := some ()
def uM (n : Nat) : Option Unit := some ()
def uG (n : Nat) : Option Unit := some ()
def Fq (n : Nat) : Option Unit := some ()
def ku (n : Nat) (p0 : Env) : Nat → (Int × (List (Str × Bool))) → Option (LR (List (Str × Bool)) ((List (Str × Ty)) × (List (Str × Bool))))
 | 0, _ => none
 | k + 1, s1 => (cond (decide (s1.1 < (p0.carriers.length : Int))) ((idx p0.carriers s1.1).bind fun x2 => ((qb s1.2 x2.name true).bind fun x3 => ku n p0 k ((s1.1 + 1), x3))) (some (.nx s1.2)))
def mh (n : Nat) (p0 : Env) : Option ((List (Str × Ty)) × (List (Str × Bool))) := ((qg n p0).bind fun x1 => ((ku n p0 n (0, ([] : List (Str × Bool)))).bind (LR.el (fun s2 => some (x1, s2)) (fun r => some r))))
def nH (n : Nat) (p0 : Int) : Option Bool := (((cond (p0 == 8) (some true) (cond (p0 == 9) (some true) (cond (p0 == 55) (some true) (some (p0 == 56))))) : Option Bool).bind fun s1 => some s1)
def bJ (n : Nat) (p0 : Ty) : Option (Ty × Bool) := (cond (p0.kind != 5) (some ((Ty.mk 0 ([] : Str) ([])), false)) ((idx p0.kids 0).bind fun x1 => some (x1, true)))
def fG (n : Nat) (p1 : Str) : Nat → (List Decl) → Option (LR Unit (Ty × Bool))
 | 0, _ => none
 | k + 1, s1 => (cond (true != List.isEmpty s1) ((SL s1).bind fun x1 => (cond (x1.1.name == p1) ((SL s1).bind fun x2 => some (.rt (x2.1.ty, true))) ((SL s1).bind fun x3 => fG n p1 k x3.2))) (some (.nx ())))
def jm (n : Nat) (p0 : List Decl) (p1 : Str) : Option (Ty × Bool) := ((fG n p1 n p0).bind (LR.el (fun s2 => some ((Ty.mk 0 ([] : Str) ([])), false)) (fun r => some r)))
def jw (n : Nat) (p0 : Str) (p1 : List (Str × Ty)) (p2 : List (Str × Bool)) (p3 : List Int) : Option Bool := (((JE (dY p2 p0) (some true) (fun x1 => some (!x1))) : Option Bool).bind fun s1 => some s1)
def fU (n : Nat) (p0 : List Str) (p1 : List (Str × Ty)) (p2 : List (Str × Bool)) (p3 : List Int) : Nat → Int → Option (LR Unit Int)
 | 0, _ => none
 | k + 1, s1 => (cond (decide (s1 < (p0.length : Int))) ((idx p0 s1).bind fun x1 => ((jw n x1 p1 p2 p3).bind fun x2 => (cond x2 (some (.rt s1)) (fU n p0 p1 p2 p3 k (s1 + 1))))) (some (.nx ())))
def jW (n : Nat) (p0 : List Str) (p1 : List (Str × Ty)) (p2 : List (Str × Bool)) (p3 : List Int) : Option Int := ((fU n p0 p1 p2 p3 n 0).bind (LR.el (fun s2 => some (-1)) (fun r => some r)))
def iZ (n : Nat) (p0 : List Str) (p1 : List (Str × Ty)) (p2 : List (Str × Bool)) (p3 : List Int) : Option Bool := ((jW n p0 p1 p2 p3).bind fun x1 => some (decide (0 ≤ x1)))
def jc (n : Nat) (p0 : List (Str × Ty)) (p1 : List (Str × Bool)) (p2 : List Int) (p3 : Ty) : Option Bool := ((lS n p3).bind fun x1 => ((iZ n x1 p0 p1 p2).bind fun x2 => some (!x2)))
def jS (n : Nat) (p0 : Ty) : Option (Ty × Int) := ((jM n p0).bind fun x1 => (cond (!x1) (some ((Ty.mk 0 ([] : Str) ([])), 5)) (some (p0, 0))))
def wh (n : Nat) (p0 : List Ty) (p1 : Int) (p2 : Str) (p3 : List Ty) : Option (Ty × Bool) := some ((Ty.mk p1 p2 p3), true)
def yO (n : Nat) (p0 : Ty) (p1 : Int) : Option Bool := some (p0.kind != p1)
def gX (n : Nat) (p0 : List Ty) (p1 : Int) : Nat → Int → Option (LR Unit Int)
 | 0, _ => none
 | k + 1, s1 => (cond (decide (s1 < (p0.length : Int))) ((idx p0 s1).bind fun x1 => (cond (x1.kind != p1) (some (.rt s1)) (gX n p0 p1 k (s1 + 1)))) (some (.nx ())))
def kL (n : Nat) (p0 : List Ty) (p1 : Int) : Option Int := ((gX n p0 p1 n 0).bind (LR.el (fun s2 => some (-1)) (fun r => some r)))
def jE (n : Nat) (p0 : List Ty) (p1 : Int) : Option Bool := ((kL n p0 p1).bind fun x1 => some (decide (0 ≤ x1)))
def aV (n : Nat) (p0 : List Ty) (p1 : Int) (p2 : Str) (p3 : List Ty) (p4 : Int) : Option (Ty × Bool) := ((jE n p0 p4).bind fun x1 => some ((Ty.mk p1 p2 p3), (!x1)))
def Ci (n : Nat) (p0 : Ty) : Option Ty := some (Ty.mk 2 ([] : Str) ([]))
def ko (n : Nat) (p0 : List Ty) : Option (Ty × Bool) := ((idx p0 0).bind fun x1 => ((idx p0 1).bind fun x2 => some ((Ty.mk 2 ([] : Str) ([])), (x2.kind == 2))))
def iP (n : Nat) (rec_slices_EqualFunc_Type : (List Ty) → (List Ty) → Option Bool) (rec_typing_equal : Ty → Ty → Option Bool) (p0 : List Ty) (p1 : List Ty) : Nat → Int → Option (LR Unit Bool)
 | 0, _ => none
 | k + 1, s1 => (cond (decide (s1 < (p0.length : Int))) ((idx p0 s1).bind fun x1 => ((idx p1 s1).bind fun x2 => ((rec_typing_equal x1 x2).bind fun x3 => (cond (!x3) (some (.rt false)) (iP n rec_slices_EqualFunc_Type rec_typing_equal p0 p1 k (s1 + 1)))))) (some (.nx ())))
def gT (n : Nat) (rec_slices_EqualFunc_Type : (List Ty) → (List Ty) → Option Bool) (rec_typing_equal : Ty → Ty → Option Bool) (p0 : List Ty) (p1 : List Ty) : Option Bool := (cond ((p0.length : Int) != (p1.length : Int)) (some false) ((iP n rec_slices_EqualFunc_Type rec_typing_equal p0 p1 n 0).bind (LR.el (fun s2 => some true) (fun r => some r))))
def mD (n : Nat) (rec_slices_EqualFunc_Type : (List Ty) → (List Ty) → Option Bool) (rec_typing_equal : Ty → Ty → Option Bool) (p0 : Ty) (p1 : Ty) : Option Bool := (((cond (p0.kind == p1.kind) (cond (p0.name == p1.name) ((rec_slices_EqualFunc_Type p0.kids p1.kids).bind fun x1 => some x1) (some false)) (some false)) : Option Bool).bind fun s1 => some s1)
mutual
def iH : Nat → (List Ty) → (List Ty) → Option Bool
 | 0, _, _ => none
 | n + 1, p0, p1 => gT n (fun p0 p1 => iH n p0 p1) (fun p0 p1 => dR n p0 p1) p0 p1
def dR : Nat → Ty → Ty → Option Bool
 | 0, _, _ => none
 | n + 1, p0, p1 => mD n (fun p0 p1 => iH n p0 p1) (fun p0 p1 => dR n p0 p1) p0 p1
end
def oJ (n : Nat) (p0 : Ty) (p1 : List Ty) : Option Bool := ((idx p1 0).bind fun x1 => ((dR n p0 x1).bind fun x2 => some (!x2)))
def gV (n : Nat) (p0 : List Ty) (p1 : List Ty) : Nat → Int → Option (LR Unit Int)
 | 0, _ => none
 | k + 1, s1 => (cond (decide (s1 < (p0.length : Int))) ((idx p0 s1).bind fun x1 => ((oJ n x1 p1).bind fun x2 => (cond x2 (some (.rt s1)) (gV n p0 p1 k (s1 + 1))))) (some (.nx ())))
def kM (n : Nat) (p0 : List Ty) (p1 : List Ty) : Option Int := ((gV n p0 p1 n 0).bind (LR.el (fun s2 => some (-1)) (fun r => some r)))
def jD (n : Nat) (p0 : List Ty) (p1 : List Ty) : Option Bool := ((kM n p0 p1).bind fun x1 => some (decide (0 ≤ x1)))
def iR (n : Nat) (p0 : List Ty) : Option Bool := ((((idx p0 0).bind fun x1 => (cond (x1.kind != 2) ((jD n p0 p0).bind fun x2 => some (!x2)) (some false))) : Option Bool).bind fun s1 => some s1)
def lY (n : Nat) (p0 : List Ty) : Option (Ty × Bool) := ((iR n p0).bind fun x1 => some ((Ty.mk 2 ([] : Str) ([])), x1))
def kI (n : Nat) (p0 : List Ty) : Option (Ty × Bool) := ((idx p0 1).bind fun x1 => ((bJ n x1).bind fun x2 => (((cond x2.2 ((idx p0 0).bind fun x3 => ((dR n x3 x2.1).bind fun x4 => some x4)) (some false)) : Option Bool).bind fun s1 => some ((Ty.mk 2 ([] : Str) ([])), s1))))
def lQ (n : Nat) (p0 : List Ty) : Option (Ty × Bool) := ((((idx p0 0).bind fun x1 => ((idx p0 0).bind fun x2 => (cond (x2.kind == 5) ((iR n p0).bind fun x3 => some x3) (some false)))) : Option Bool).bind fun s1 => some ((Ty.mk 2 ([] : Str) ([])), s1))
def Ct (n : Nat) (p0 : Ty) (p1 : Ty) : Option Ty := some (Ty.mk 4 ([] : Str) ([p0, p1]))
def nI (n : Nat) (p0 : List Ty) : Option (Ty × Bool) := ((((idx p0 0).bind fun x1 => ((idx p0 1).bind fun x2 => ((idx p0 0).bind fun x3 => (cond (x3.kind != 2) ((idx p0 1).bind fun x4 => some ((x4.kind != 2), ([x1, x2]))) (some (false, ([x1, x2]))))))) : Option (Bool × (List Ty))).bind fun s1 => some ((Ty.mk 4 ([] : Str) s1.2), s1.1))
def nG (n : Nat) (p0 : List Ty) : Option (Ty × Bool) := ((idx p0 0).bind fun x1 => ((iR n p0).bind fun x2 => some ((Ty.mk 5 ([] : Str) ([x1])), x2)))
def Co (n : Nat) (p0 : Ty) : Option Ty := some p0
def fZ (n : Nat) (p0 : List Ty) : Option (Ty × Bool) := ((((idx p0 0).bind fun x1 => ((idx p0 0).bind fun x2 => (cond (x2.kind == 5) ((iR n p0).bind fun x3 => some (x3, x1.kind, x1.name, x1.kids)) (some (false, x1.kind, x1.name, x1.kids))))) : Option (Bool × Int × Str × (List Ty))).bind fun s1 => some ((Ty.mk s1.2.1 s1.2.2.1 s1.2.2.2), s1.1))
def yX (n : Nat) (p0 : Ty) (p1 : Ty) : Option Ty := some (Ty.mk 5 ([] : Str) ([(Ty.mk 4 ([] : Str) ([p0, p1]))]))
def mU (n : Nat) (p0 : List Ty) : Option (Ty × Bool) := ((idx p0 0).bind fun x1 => ((bJ n x1).bind fun x2 => ((idx p0 1).bind fun x3 => ((bJ n x3).bind fun x4 => (((cond (!x2.2) (some true) (some (!x4.2))) : Option Bool).bind fun s1 => (cond s1 (some ((Ty.mk 0 ([] : Str) ([])), false)) (some ((Ty.mk 5 ([] : Str) ([(Ty.mk 4 ([] : Str) ([x2.1, x4.1]))])), true))))))))
def fA (n : Nat) (p0 : Ty) : Option (Ty × Ty × Bool) := ((bJ n p0).bind fun x1 => (((cond (!x1.2) (some true) (some (x1.1.kind != 4))) : Option Bool).bind fun s1 => (cond s1 (some ((Ty.mk 0 ([] : Str) ([])), (Ty.mk 0 ([] : Str) ([])), false)) ((idx x1.1.kids 0).bind fun x2 => ((idx x1.1.kids 1).bind fun x3 => some (x2, x3, true))))))
def vW (n : Nat) (p0 : Ty) (p1 : Ty) (p2 : List Ty) : Option (Ty × Bool) := ((idx p2 0).bind fun x1 => ((iR n p2).bind fun x2 => some (x1, x2)))
def iE (n : Nat) (p0 : List Ty) : Option (Ty × Bool) := ((idx p0 0).bind fun x1 => ((fA n x1).bind fun x2 => (cond (!x2.2.2) (some ((Ty.mk 0 ([] : Str) ([])), false)) ((vW n x2.1 x2.2.1 p0).bind fun x3 => some (x3.1, x3.2)))))
def rJ (n : Nat) (p0 : Ty) (p1 : Ty) (p2 : List Ty) : Option (Ty × Bool) := ((idx p2 1).bind fun x1 => ((fA n x1).bind fun x2 => (((cond x2.2.2 ((dR n p1 x2.1).bind fun x3 => some x3) (some false)) : Option Bool).bind fun s1 => some ((Ty.mk 5 ([] : Str) ([(Ty.mk 4 ([] : Str) ([p0, x2.2.1]))])), s1))))
def iG (n : Nat) (p0 : List Ty) : Option (Ty × Bool) := ((idx p0 0).bind fun x1 => ((fA n x1).bind fun x2 => (cond (!x2.2.2) (some ((Ty.mk 0 ([] : Str) ([])), false)) ((rJ n x2.1 x2.2.1 p0).bind fun x3 => some (x3.1, x3.2)))))
def kJ (n : Nat) (p0 : List Ty) : Option (Ty × Bool) := ((idx p0 0).bind fun x1 => ((bJ n x1).bind fun x2 => ((idx p0 1).bind fun x3 => ((fA n x3).bind fun x4 => ((((idx p0 1).bind fun x5 => (cond x2.2 (cond x4.2.2 ((dR n x2.1 x4.1).bind fun x6 => some (x6, x5.kind, x5.name, x5.kids)) (some (false, x5.kind, x5.name, x5.kids))) (some (false, x5.kind, x5.name, x5.kids)))) : Option (Bool × Int × Str × (List Ty))).bind fun s1 => some ((Ty.mk s1.2.1 s1.2.2.1 s1.2.2.2), s1.1))))))
def rO (n : Nat) (p0 : Ty) (p1 : Ty) (p2 : List Ty) : Option (Ty × Bool) := ((idx p2 1).bind fun x1 => ((bJ n x1).bind fun x2 => ((((idx p2 0).bind fun x3 => (cond x2.2 ((dR n x2.1 p1).bind fun x4 => some (x4, x3.kind, x3.name, x3.kids)) (some (false, x3.kind, x3.name, x3.kids)))) : Option (Bool × Int × Str × (List Ty))).bind fun s1 => some ((Ty.mk s1.2.1 s1.2.2.1 s1.2.2.2), s1.1))))
def eG (n : Nat) (p0 : List Ty) : Option (Ty × Bool) := ((idx p0 0).bind fun x1 => ((fA n x1).bind fun x2 => (cond (!x2.2.2) (some ((Ty.mk 0 ([] : Str) ([])), false)) ((rO n x2.1 x2.2.1 p0).bind fun x3 => some (x3.1, x3.2)))))
def Cn (n : Nat) (p0 : Ty) (p1 : Ty) : Option Ty := some (Ty.mk 5 ([] : Str) ([(Ty.mk 5 ([] : Str) ([(Ty.mk 4 ([] : Str) ([p0, p1]))]))]))
def dM (n : Nat) (p0 : List Ty) : Option (Ty × Bool) := ((idx p0 0).bind fun x1 => ((bJ n x1).bind fun x2 => ((idx p0 1).bind fun x3 => ((bJ n x3).bind fun x4 => (((cond (!x2.2) (some true) (some (!x4.2))) : Option Bool).bind fun s1 => (cond s1 (some ((Ty.mk 0 ([] : Str) ([])), false)) (some ((Ty.mk 5 ([] : Str) ([(Ty.mk 5 ([] : Str) ([(Ty.mk 4 ([] : Str) ([x2.1, x4.1]))]))])), true))))))))
def Aw (n : Nat) (p0 : Ty) : Option (Ty × Bool) := some ((Ty.mk 5 ([] : Str) ([(Ty.mk 5 ([] : Str) ([p0]))])), true)
def kS (n : Nat) (p0 : List Ty) : Option (Ty × Bool) := ((idx p0 0).bind fun x1 => ((bJ n x1).bind fun x2 => (cond (!x2.2) (some ((Ty.mk 0 ([] : Str) ([])), false)) (some ((((Ty.mk 5 ([] : Str) ([(Ty.mk 5 ([] : Str) ([x2.1]))])), true).1), ((Ty.mk 5 ([] : Str) ([(Ty.mk 5 ([] : Str) ([x2.1]))])), true).2)))))
def Af (n : Nat) (p0 : Ty) : Option (Ty × Bool) := some ((Ty.mk 1 ([] : Str) ([])), true)
def kR (n : Nat) (p0 : List Ty) : Option (Ty × Bool) := ((idx p0 0).bind fun x1 => ((bJ n x1).bind fun x2 => (cond (!x2.2) (some ((Ty.mk 0 ([] : Str) ([])), false)) (some ((((Ty.mk 1 ([] : Str) ([])), true).1), ((Ty.mk 1 ([] : Str) ([])), true).2)))))
def Cu (n : Nat) (p0 : Ty) : Option (Ty × Bool) := some ((Ty.mk 1 ([] : Str) ([])), (p0.kind == 1))
def iQ (n : Nat) (p0 : List Ty) : Option (Ty × Bool) := ((idx p0 0).bind fun x1 => ((bJ n x1).bind fun x2 => (cond (!x2.2) (some ((Ty.mk 0 ([] : Str) ([])), false)) (some ((((Ty.mk 1 ([] : Str) ([])), (x2.1.kind == 1)).1), ((Ty.mk 1 ([] : Str) ([])), (x2.1.kind == 1)).2)))))
def Az (n : Nat) (p0 : Ty) (p1 : Ty) (p2 : List Ty) : Option (Ty × Bool) := some ((Ty.mk 5 ([] : Str) ([p0])), true)
def iF (n : Nat) (p0 : List Ty) : Option (Ty × Bool) := ((idx p0 0).bind fun x1 => ((fA n x1).bind fun x2 => (cond (!x2.2.2) (some ((Ty.mk 0 ([] : Str) ([])), false)) (some ((((Ty.mk 5 ([] : Str) ([x2.1])), true).1), ((Ty.mk 5 ([] : Str) ([x2.1])), true).2)))))
def Au (n : Nat) (p0 : Ty) (p1 : Ty) (p2 : List Ty) : Option (Ty × Bool) := some ((Ty.mk 5 ([] : Str) ([p1])), true)
def iI (n : Nat) (p0 : List Ty) : Option (Ty × Bool) := ((idx p0 0).bind fun x1 => ((fA n x1).bind fun x2 => (cond (!x2.2.2) (some ((Ty.mk 0 ([] : Str) ([])), false)) (some ((((Ty.mk 5 ([] : Str) ([x2.2.1])), true).1), ((Ty.mk 5 ([] : Str) ([x2.2.1])), true).2)))))
def zP (n : Nat) (p0 : Ty) (p1 : Ty) (p2 : List Ty) : Option (Ty × Bool) := some ((Ty.mk 5 ([] : Str) ([(Ty.mk 4 ([] : Str) ([p1, p0]))])), true)
def iL (n : Nat) (p0 : List Ty) : Option (Ty × Bool) := ((idx p0 0).bind fun x1 => ((fA n x1).bind fun x2 => (cond (!x2.2.2) (some ((Ty.mk 0 ([] : Str) ([])), false)) (some ((((Ty.mk 5 ([] : Str) ([(Ty.mk 4 ([] : Str) ([x2.2.1, x2.1]))])), true).1), ((Ty.mk 5 ([] : Str) ([(Ty.mk 4 ([] : Str) ([x2.2.1, x2.1]))])), true).2)))))
def qJ (n : Nat) (p0 : Ty) (p1 : Ty) (p2 : List Ty) : Option (Ty × Bool) := ((idx p2 1).bind fun x1 => ((bJ n x1).bind fun x2 => (((cond x2.2 ((dR n x2.1 p0).bind fun x3 => some x3) (some false)) : Option Bool).bind fun s1 => some ((Ty.mk 5 ([] : Str) ([p1])), s1))))
def iJ (n : Nat) (p0 : List Ty) : Option (Ty × Bool) := ((idx p0 0).bind fun x1 => ((fA n x1).bind fun x2 => (cond (!x2.2.2) (some ((Ty.mk 0 ([] : Str) ([])), false)) ((qJ n x2.1 x2.2.1 p0).bind fun x3 => some (x3.1, x3.2)))))
def qD (n : Nat) (p0 : Ty) (p1 : Ty) (p2 : List Ty) : Option (Ty × Bool) := ((idx p2 1).bind fun x1 => ((dR n x1 p0).bind fun x2 => some (p1, x2)))
def iK (n : Nat) (p0 : List Ty) : Option (Ty × Bool) := ((idx p0 0).bind fun x1 => ((fA n x1).bind fun x2 => (cond (!x2.2.2) (some ((Ty.mk 0 ([] : Str) ([])), false)) ((qD n x2.1 x2.2.1 p0).bind fun x3 => some (x3.1, x3.2)))))
def nU (n : Nat) (p0 : List Ty) : Option (Ty × Bool) := ((idx p0 0).bind fun x1 => ((idx p0 1).bind fun x2 => some (x1, (x2.kind == 2))))
def mQ (n : Nat) (p0 : List Ty) : Option (Ty × Bool) := ((idx p0 0).bind fun x1 => ((bJ n x1).bind fun x2 => ((((idx p0 1).bind fun x3 => (cond x2.2 ((idx p0 1).bind fun x4 => some ((x4.kind != 2), ([(Ty.mk 4 ([] : Str) ([x2.1, x3]))]))) (some (false, ([(Ty.mk 4 ([] : Str) ([x2.1, x3]))]))))) : Option (Bool × (List Ty))).bind fun s1 => some ((Ty.mk 5 ([] : Str) s1.2), s1.1))))
def iY (n : Nat) (rec_typing_checker_of : (List (Str × Ty)) → (List (Str × Bool)) → (List Int) → Tm → (List Decl) → Option (Ty × Int × (List Int))) (rec_typing_checker_child : (List (Str × Ty)) → (List (Str × Bool)) → (List Int) → Tm → Int → (List Decl) → Option (Ty × Int × (List Int))) (p0 : List (Str × Ty)) (p1 : List (Str × Bool)) (p3 : Tm) : Nat → ((List Decl) × (List Ty) × Int × (List Int)) → Option (LR ((List Decl) × (List Ty) × (List Int)) (Ty × Int × (List Int)))
 | 0, _ => none
 | k + 1, s1 => (cond (decide (s1.2.2.1 < (p3.kids.length : Int))) ((((rec_typing_checker_child p0 p1 s1.2.2.2 p3 s1.2.2.1 s1.1).bind fun x57 => (cond (x57.2.1 != 0) (some (.rt ((Ty.mk 0 ([] : Str) ([])), x57.2.1, x57.2.2))) ((app 48 s1.2.1 ([x57.1])).bind fun x58 => (((cond (s1.2.2.1 == 0) ((nH n p3.op).bind fun x60 => some x60) (some false)) : Option Bool).bind fun s6 => (cond s6 ((bJ n x57.1).bind fun x59 => (cond (!x59.2) (some (.rt ((Ty.mk 0 ([] : Str) ([])), 7, x57.2.2))) (some (.nx (((Decl.mk p3.name x59.1) :: s1.1), x58, x57.2.2))))) (some (.nx (s1.1, x58, x57.2.2)))))))) : Option (LR ((List Decl) × (List Ty) × (List Int)) (Ty × Int × (List Int)))).bind (LR.el (fun s5 => iY n rec_typing_checker_of rec_typing_checker_child p0 p1 p3 k (s5.1, s5.2.1, (s1.2.2.1 + 1), s5.2.2)) (fun r => some (.rt r)))) (some (.nx (s1.1, s1.2.1, s1.2.2.2))))
def jA (n : Nat) (rec_typing_checker_of : (List (Str × Ty)) → (List (Str × Bool)) → (List Int) → Tm → (List Decl) → Option (Ty × Int × (List Int))) (rec_typing_checker_child : (List (Str × Ty)) → (List (Str × Bool)) → (List Int) → Tm → Int → (List Decl) → Option (Ty × Int × (List Int))) (p0 : List (Str × Ty)) (p1 : List (Str × Bool)) (p2 : List Int) (p3 : Tm) (p4 : List Decl) : Option (Ty × Int × (List Int)) := ((iY n rec_typing_checker_of rec_typing_checker_child p0 p1 p3 n (p4, ([] : List Ty), 0, p2)).bind (LR.el (fun s2 => (cond (p3.op == 20) ((jm n s2.1 p3.name).bind fun x1 => (cond x1.2 (some (x1.1, 0, s2.2.2)) (((JE (dY p0 p3.name) (some (false, 0, ([] : Str), ([] : List Ty))) (fun x2 => some (true, x2.kind, x2.name, x2.kids))) : Option (Bool × Int × Str × (List Ty))).bind fun s3 => (cond (!s3.1) (some ((Ty.mk 0 ([] : Str) ([])), 6, s2.2.2)) (some ((Ty.mk s3.2.1 s3.2.2.1 s3.2.2.2), 0, s2.2.2)))))) (cond (p3.op == 29) ((jc n p0 p1 s2.2.2 p3.ty).bind fun x3 => (cond (!x3) (some ((Ty.mk 0 ([] : Str) ([])), 6, s2.2.2)) ((jS n (Ty.mk 5 ([] : Str) ([p3.ty]))).bind fun x4 => some (x4.1, x4.2, s2.2.2)))) (((cond (p3.op == 0) none (cond (p3.op == 1) (some (((Ty.mk 2 ([] : Str) ([])), true).2, (((Ty.mk 2 ([] : Str) ([])), true).1).kind, (((Ty.mk 2 ([] : Str) ([])), true).1).name, (((Ty.mk 2 ([] : Str) ([])), true).1).kids)) (cond (p3.op == 2) (some (((Ty.mk 2 ([] : Str) ([])), true).2, (((Ty.mk 2 ([] : Str) ([])), true).1).kind, (((Ty.mk 2 ([] : Str) ([])), true).1).name, (((Ty.mk 2 ([] : Str) ([])), true).1).kids)) (cond (p3.op == 3) ((aV n s2.2.1 2 ([] : Str) ([]) 2).bind fun x6 => some (x6.2, x6.1.kind, x6.1.name, x6.1.kids)) (cond (p3.op == 4) ((aV n s2.2.1 2 ([] : Str) ([]) 2).bind fun x7 => some (x7.2, x7.1.kind, x7.1.name, x7.1.kids)) (cond (p3.op == 5) ((aV n s2.2.1 2 ([] : Str) ([]) 2).bind fun x8 => some (x8.2, x8.1.kind, x8.1.name, x8.1.kids)) (cond (p3.op == 6) ((aV n s2.2.1 2 ([] : Str) ([]) 2).bind fun x9 => some (x9.2, x9.1.kind, x9.1.name, x9.1.kids)) (cond (p3.op == 7) ((aV n s2.2.1 2 ([] : Str) ([]) 2).bind fun x10 => some (x10.2, x10.1.kind, x10.1.name, x10.1.kids)) (cond (p3.op == 8) ((ko n s2.2.1).bind fun x11 => some (x11.2, x11.1.kind, x11.1.name, x11.1.kids)) (cond (p3.op == 9) ((ko n s2.2.1).bind fun x12 => some (x12.2, x12.1.kind, x12.1.name, x12.1.kids)) (cond (p3.op == 10) ((lY n s2.2.1).bind fun x13 => some (x13.2, x13.1.kind, x13.1.name, x13.1.kids)) (cond (p3.op == 11) ((lY n s2.2.1).bind fun x14 => some (x14.2, x14.1.kind, x14.1.name, x14.1.kids)) (cond (p3.op == 12) ((aV n s2.2.1 2 ([] : Str) ([]) 1).bind fun x15 => some (x15.2, x15.1.kind, x15.1.name, x15.1.kids)) (cond (p3.op == 13) ((aV n s2.2.1 2 ([] : Str) ([]) 1).bind fun x16 => some (x16.2, x16.1.kind, x16.1.name, x16.1.kids)) (cond (p3.op == 14) ((aV n s2.2.1 2 ([] : Str) ([]) 1).bind fun x17 => some (x17.2, x17.1.kind, x17.1.name, x17.1.kids)) (cond (p3.op == 15) ((aV n s2.2.1 2 ([] : Str) ([]) 1).bind fun x18 => some (x18.2, x18.1.kind, x18.1.name, x18.1.kids)) (cond (p3.op == 16) ((kI n s2.2.1).bind fun x19 => some (x19.2, x19.1.kind, x19.1.name, x19.1.kids)) (cond (p3.op == 17) ((kI n s2.2.1).bind fun x20 => some (x20.2, x20.1.kind, x20.1.name, x20.1.kids)) (cond (p3.op == 18) ((lQ n s2.2.1).bind fun x21 => some (x21.2, x21.1.kind, x21.1.name, x21.1.kids)) (cond (p3.op == 19) (some (((Ty.mk 1 ([] : Str) ([])), true).2, (((Ty.mk 1 ([] : Str) ([])), true).1).kind, (((Ty.mk 1 ([] : Str) ([])), true).1).name, (((Ty.mk 1 ([] : Str) ([])), true).1).kids)) (cond (p3.op == 20) none (cond (p3.op == 21) ((aV n s2.2.1 1 ([] : Str) ([]) 1).bind fun x22 => some (x22.2, x22.1.kind, x22.1.name, x22.1.kids)) (cond (p3.op == 22) ((aV n s2.2.1 1 ([] : Str) ([]) 1).bind fun x23 => some (x23.2, x23.1.kind, x23.1.name, x23.1.kids)) (cond (p3.op == 23) ((aV n s2.2.1 1 ([] : Str) ([]) 1).bind fun x24 => some (x24.2, x24.1.kind, x24.1.name, x24.1.kids)) (cond (p3.op == 24) ((aV n s2.2.1 1 ([] : Str) ([]) 1).bind fun x25 => some (x25.2, x25.1.kind, x25.1.name, x25.1.kids)) (cond (p3.op == 25) ((aV n s2.2.1 1 ([] : Str) ([]) 1).bind fun x26 => some (x26.2, x26.1.kind, x26.1.name, x26.1.kids)) (cond (p3.op == 26) ((aV n s2.2.1 1 ([] : Str) ([]) 1).bind fun x27 => some (x27.2, x27.1.kind, x27.1.name, x27.1.kids)) (cond (p3.op == 27) ((nI n s2.2.1).bind fun x28 => some (x28.2, x28.1.kind, x28.1.name, x28.1.kids)) (cond (p3.op == 28) ((nG n s2.2.1).bind fun x29 => some (x29.2, x29.1.kind, x29.1.name, x29.1.kids)) (cond (p3.op == 29) none (cond (p3.op == 30) ((aV n s2.2.1 5 ([] : Str) ([(Ty.mk 1 ([] : Str) ([]))]) 1).bind fun x30 => some (x30.2, x30.1.kind, x30.1.name, x30.1.kids)) (cond (p3.op == 31) ((fZ n s2.2.1).bind fun x31 => some (x31.2, x31.1.kind, x31.1.name, x31.1.kids)) (cond (p3.op == 32) ((fZ n s2.2.1).bind fun x32 => some (x32.2, x32.1.kind, x32.1.name, x32.1.kids)) (cond (p3.op == 33) ((fZ n s2.2.1).bind fun x33 => some (x33.2, x33.1.kind, x33.1.name, x33.1.kids)) (cond (p3.op == 34) ((mU n s2.2.1).bind fun x34 => some (x34.2, x34.1.kind, x34.1.name, x34.1.kids)) (cond (p3.op == 35) ((iE n s2.2.1).bind fun x35 => some (x35.2, x35.1.kind, x35.1.name, x35.1.kids)) (cond (p3.op == 36) ((iG n s2.2.1).bind fun x36 => some (x36.2, x36.1.kind, x36.1.name, x36.1.kids)) (cond (p3.op == 37) ((kJ n s2.2.1).bind fun x37 => some (x37.2, x37.1.kind, x37.1.name, x37.1.kids)) (cond (p3.op == 38) ((kJ n s2.2.1).bind fun x38 => some (x38.2, x38.1.kind, x38.1.name, x38.1.kids)) (cond (p3.op == 39) ((eG n s2.2.1).bind fun x39 => some (x39.2, x39.1.kind, x39.1.name, x39.1.kids)) (cond (p3.op == 40) ((eG n s2.2.1).bind fun x40 => some (x40.2, x40.1.kind, x40.1.name, x40.1.kids)) (cond (p3.op == 41) ((dM n s2.2.1).bind fun x41 => some (x41.2, x41.1.kind, x41.1.name, x41.1.kids)) (cond (p3.op == 42) ((dM n s2.2.1).bind fun x42 => some (x42.2, x42.1.kind, x42.1.name, x42.1.kids)) (cond (p3.op == 43) ((dM n s2.2.1).bind fun x43 => some (x43.2, x43.1.kind, x43.1.name, x43.1.kids)) (cond (p3.op == 44) ((dM n s2.2.1).bind fun x44 => some (x44.2, x44.1.kind, x44.1.name, x44.1.kids)) (cond (p3.op == 45) ((dM n s2.2.1).bind fun x45 => some (x45.2, x45.1.kind, x45.1.name, x45.1.kids)) (cond (p3.op == 46) ((kS n s2.2.1).bind fun x46 => some (x46.2, x46.1.kind, x46.1.name, x46.1.kids)) (cond (p3.op == 47) ((kR n s2.2.1).bind fun x47 => some (x47.2, x47.1.kind, x47.1.name, x47.1.kids)) (cond (p3.op == 48) ((iQ n s2.2.1).bind fun x48 => some (x48.2, x48.1.kind, x48.1.name, x48.1.kids)) (cond (p3.op == 49) ((iQ n s2.2.1).bind fun x49 => some (x49.2, x49.1.kind, x49.1.name, x49.1.kids)) (cond (p3.op == 50) ((iF n s2.2.1).bind fun x50 => some (x50.2, x50.1.kind, x50.1.name, x50.1.kids)) (cond (p3.op == 51) ((iI n s2.2.1).bind fun x51 => some (x51.2, x51.1.kind, x51.1.name, x51.1.kids)) (cond (p3.op == 52) ((iL n s2.2.1).bind fun x52 => some (x52.2, x52.1.kind, x52.1.name, x52.1.kids)) (cond (p3.op == 53) ((iJ n s2.2.1).bind fun x53 => some (x53.2, x53.1.kind, x53.1.name, x53.1.kids)) (cond (p3.op == 54) ((iK n s2.2.1).bind fun x54 => some (x54.2, x54.1.kind, x54.1.name, x54.1.kids)) (cond (p3.op == 55) ((nU n s2.2.1).bind fun x55 => some (x55.2, x55.1.kind, x55.1.name, x55.1.kids)) (cond (p3.op == 56) ((mQ n s2.2.1).bind fun x56 => some (x56.2, x56.1.kind, x56.1.name, x56.1.kids)) none))))))))))))))))))))))))))))))))))))))))))))))))))))))))) : Option (Bool × Int × Str × (List Ty))).bind fun s4 => (cond (!s4.1) (some ((Ty.mk 0 ([] : Str) ([])), 7, s2.2.2)) ((jS n (Ty.mk s4.2.1 s4.2.2.1 s4.2.2.2)).bind fun x5 => some (x5.1, x5.2, s2.2.2))))))) (fun r => some r)))
def iy (n : Nat) (rec_typing_checker_of : (List (Str × Ty)) → (List (Str × Bool)) → (List Int) → Tm → (List Decl) → Option (Ty × Int × (List Int))) (rec_typing_checker_child : (List (Str × Ty)) → (List (Str × Bool)) → (List Int) → Tm → Int → (List Decl) → Option (Ty × Int × (List Int))) (p0 : List (Str × Ty)) (p1 : List (Str × Bool)) (p2 : List Int) (p3 : Tm) (p4 : Int) (p5 : List Decl) : Option (Ty × Int × (List Int)) := ((app 8 p2 ([p4])).bind fun x1 => ((idx p3.kids p4).bind fun x2 => ((rec_typing_checker_of p0 p1 x1 x2 p5).bind fun x3 => (((cond (x3.2.1 == 0) ((qx x3.2.2 0 (IntKind.wrap .i64 ((x3.2.2.length : Int) - 1))).bind fun x4 => some x4) (some x3.2.2)) : Option (List Int)).bind fun s1 => some (x3.1, x3.2.1, s1)))))
mutual
def eU : Nat → (List (Str × Ty)) → (List (Str × Bool)) → (List Int) → Tm → (List Decl) → Option (Ty × Int × (List Int))
 | 0, _, _, _, _, _ => none
 | n + 1, p0, p1, p2, p3, p4 => jA n (fun p0 p1 p2 p3 p4 => eU n p0 p1 p2 p3 p4) (fun p0 p1 p2 p3 p4 p5 => dX n p0 p1 p2 p3 p4 p5) p0 p1 p2 p3 p4
def dX : Nat → (List (Str × Ty)) → (List (Str × Bool)) → (List Int) → Tm → Int → (List Decl) → Option (Ty × Int × (List Int))
 | 0, _, _, _, _, _, _ => none
 | n + 1, p0, p1, p2, p3, p4, p5 => iy n (fun p0 p1 p2 p3 p4 => eU n p0 p1 p2 p3 p4) (fun p0 p1 p2 p3 p4 p5 => dX n p0 p1 p2 p3 p4 p5) p0 p1 p2 p3 p4 p5
end
def lG (n : Nat) (rec_typing_copyType : Ty → Option Ty) (p0 : Ty) : Nat → (Int × (List Ty)) → Option (LR (List Ty) Ty)
 | 0, _ => none
 | k + 1, s1 => (cond (decide (s1.1 < (p0.kids.length : Int))) ((idx p0.kids s1.1).bind fun x1 => ((rec_typing_copyType x1).bind fun x2 => ((app 48 s1.2 ([x2])).bind fun x3 => lG n rec_typing_copyType p0 k ((s1.1 + 1), x3)))) (some (.nx s1.2)))
def j4 (n : Nat) (rec_typing_copyType : Ty → Option Ty) (p0 : Ty) : Option Ty := ((lG n rec_typing_copyType p0 n (0, ([] : List Ty))).bind (LR.el (fun s2 => some (Ty.mk p0.kind p0.name s2)) (fun r => some r)))
def gB : Nat → Ty → Option Ty
 | 0, _ => none
 | n + 1, p0 => j4 n (fun p0 => gB n p0) p0
def nD (n : Nat) (p0 : Env) (p1 : Tm) : Option (Ty × (List Int) × Int) := ((((nL n p0).bind fun x5 => (cond (!x5) (some true) ((oZ n p1).bind fun x6 => some (!x6)))) : Option Bool).bind fun s1 => (cond s1 (some ((Ty.mk 0 ([] : Str) ([])), ([] : List Int), 1)) ((mh n p0).bind fun x1 => ((eU n x1.1 x1.2 ([] : List Int) p1 ([] : List Decl)).bind fun x2 => (cond (x2.2.1 != 0) ((slices_Clone_int n x2.2.2).bind fun x3 => some ((Ty.mk 0 ([] : Str) ([])), x3, x2.2.1)) ((gB n x2.1).bind fun x4 => some (x4, ([] : List Int), 0)))))))
def sF (n : Nat) (p0 : Int) : Option Bool := (((cond (decide (97 ≤ p0)) (cond (decide (p0 ≤ 122)) (some true) (cond (decide (65 ≤ p0)) (some (decide (p0 ≤ 90))) (some false))) (cond (decide (65 ≤ p0)) (some (decide (p0 ≤ 90))) (some false))) : Option Bool).bind fun s1 => some s1)
def yg (n : Nat) (p0 : Str) (p1 : List Str) : Nat → Int → Option (LR Unit Bool)
 | 0, _ => none
 | k + 1, s1 => (cond (decide (s1 < (p1.length : Int))) ((idx p1 s1).bind fun x1 => (cond (x1 == p0) (some (.rt true)) (yg n p0 p1 k (s1 + 1)))) (some (.nx ())))
def y5 (n : Nat) (p0 : Str) (p1 : List Str) : Option Bool := ((yg n p0 p1 n 0).bind (LR.el (fun s2 => some false) (fun r => some r)))
def tZ (n : Nat) (p0 : Str) : Option Bool := ((y5 n p0 ([([116, 114, 117, 101] : Str), ([102, 97, 108, 115, 101] : Str), ([110, 111, 116] : Str), ([111, 114] : Str), ([102, 111, 114, 97, 108, 108] : Str), ([101, 120, 105, 115, 116, 115] : Str), ([105, 110] : Str), ([110, 111, 116, 105, 110] : Str), ([115, 117, 98] : Str), ([109, 111, 100] : Str), ([102, 117, 110] : Str), ([99, 97, 114, 100] : Str), ([109, 105, 110] : Str), ([109, 97, 120] : Str), ([100, 111, 109] : Str), ([114, 97, 110] : Str), ([80, 79, 87] : Str), ([105, 110, 116] : Str), ([98, 111, 111, 108] : Str), ([115, 101, 116] : Str), ([112, 97, 105, 114] : Str)])).bind fun x1 => some x1)
def yu (n : Nat) (p0 : Int) : Option Bool := (((cond (decide (48 ≤ p0)) (some (decide (p0 ≤ 57))) (some false)) : Option Bool).bind fun s1 => some s1)
def kV (n : Nat) (p0 : Str) : Nat → Int → Option (LR Unit Bool)
 | 0, _ => none
 | k + 1, s2 => (cond (decide (s2 < (p0.length : Int))) ((((sZ p0 s2).bind fun x1 => ((sF n x1).bind fun x2 => (cond (!x2) ((sZ p0 s2).bind fun x3 => ((yu n x3).bind fun x4 => (cond (!x4) ((sZ p0 s2).bind fun x5 => some (x5 != 95)) (some false)))) (some false)))) : Option Bool).bind fun s4 => (cond s4 (some (.rt false)) (kV n p0 k (s2 + 1)))) (some (.nx ())))
def jF (n : Nat) (p0 : Str) : Option Bool := (((cond (decide ((p0.length : Int) < 1)) (some true) (cond (decide (16 < (p0.length : Int))) (some true) ((sZ p0 0).bind fun x6 => ((sF n x6).bind fun x7 => (cond (!x7) (some true) ((tZ n p0).bind fun x8 => some x8)))))) : Option Bool).bind fun s1 => (cond s1 (some false) ((kV n p0 n 1).bind (LR.el (fun s3 => some true) (fun r => some r)))))
def vv (n : Nat) (p0 : Str) : Option Bool := (((cond (decide (1 < (p0.length : Int))) ((sZ p0 ((p0.length : Int) - 1)).bind fun x1 => (cond (x1 == 39) ((qx p0 0 ((p0.length : Int) - 1)).bind fun x2 => ((jF n x2).bind fun x3 => some x3)) (some false))) (some false)) : Option Bool).bind fun s1 => some s1)
def xX (n : Nat) (p0 : Str) : Option Bool := ((((jF n p0).bind fun x1 => (cond x1 (some true) ((vv n p0).bind fun x2 => some x2))) : Option Bool).bind fun s1 => some s1)
def oh (n : Nat) (rec_R1_typed : Ty → Int → Int → Option Int) (p0 : Ty) (p1 : Int) : Nat → (Int × Int) → Option (LR Int Int)
 | 0, _ => none
 | k + 1, s4 => (cond (decide (s4.2 < (p0.kids.length : Int))) ((idx p0.kids s4.2).bind fun x1 => ((rec_R1_typed x1 (IntKind.wrap .i64 (p1 + 1)) s4.1).bind fun x2 => (cond (decide (x2 < 0)) (some (.rt (-1))) (oh n rec_R1_typed p0 p1 k (x2, (s4.2 + 1)))))) (some (.nx s4.1)))
def o8 (n : Nat) (rec_R1_typed : Ty → Int → Int → Option Int) (p0 : Ty) (p1 : Int) (p2 : Int) : Option Int := (((cond (decide (6 < p1)) (some true) (cond (decide (16 < (IntKind.wrap .i64 (p2 + 1)))) (some true) (cond (p0.kind == 2) (some (decide (1 < p1))) (some false)))) : Option Bool).bind fun s1 => (cond s1 (some (-1)) (((((cond (p0.kind == 1) (some (p0.kind == 1)) (cond (p0.kind == 2) (some (p0.kind == 2)) (some (p0.kind == 3)))) : Option Bool).bind fun s6 => (cond s6 (some (.nx 0)) (cond (p0.kind == 5) (some (.nx 1)) (cond (p0.kind == 4) (some (.nx 2)) (some (.rt (-1))))))) : Option (LR Int Int)).bind (LR.el (fun s2 => (((cond ((p0.kids.length : Int) != s2) (some true) (cond (p0.kind == 3) ((jF n p0.name).bind fun x3 => (cond (!x3) (some true) (cond (p0.kind != 3) (some (!(p0.name == ([] : Str)))) (some false)))) (cond (p0.kind != 3) (some (!(p0.name == ([] : Str)))) (some false)))) : Option Bool).bind fun s3 => (cond s3 (some (-1)) ((oh n rec_R1_typed p0 p1 n ((IntKind.wrap .i64 (p2 + 1)), 0)).bind (LR.el (fun s5 => some s5) (fun r => some r)))))) (fun r => some r)))))
def lZ : Nat → Ty → Int → Int → Option Int
 | 0, _, _, _ => none
 | n + 1, p0, p1, p2 => o8 n (fun p0 p1 p2 => lZ n p0 p1 p2) p0 p1 p2
def qc (n : Nat) (p0 : Ty) : Option Bool := ((lZ n p0 1 0).bind fun x1 => some (decide (0 < x1)))
def Al (n : Nat) (p0 : Int) : Option Int := (((cond (p0 == 1) (some true) (cond (p0 == 2) (some true) (cond (p0 == 19) (some true) (cond (p0 == 20) (some true) (some (p0 == 29)))))) : Option Bool).bind fun s1 => (cond s1 (some 0) (((cond (p0 == 3) (some true) (cond (p0 == 21) (some true) (cond (decide (46 ≤ p0)) (some (decide (p0 ≤ 52))) (some false)))) : Option Bool).bind fun s2 => (cond s2 (some 1) (cond (p0 == 28) (some (-1)) (((cond (decide (4 ≤ p0)) (some (decide (p0 ≤ 56))) (some false)) : Option Bool).bind fun s3 => (cond s3 (some 2) (some (-2)))))))))
def qw (n : Nat) (p0 : Int) : Option Bool := (((cond (p0 == 8) (some true) (cond (p0 == 9) (some true) (cond (p0 == 55) (some true) (some (p0 == 56))))) : Option Bool).bind fun s1 => some s1)
def rE (n : Nat) (p0 : Ty) : Option Bool := (((cond (p0.kind == 0) (cond (p0.name == ([] : Str)) (some ((p0.kids.length : Int) == 0)) (some false)) (some false)) : Option Bool).bind fun s1 => some s1)
def zX (n : Nat) (p0 : Tm) : Option Bool := ((Al n p0.op).bind fun x1 => (((cond (x1 == (-2)) (some true) (cond (x1 == (-1)) (cond ((p0.kids.length : Int) == 0) (some true) (cond (decide (0 ≤ x1)) (some ((p0.kids.length : Int) != x1)) (some false))) (cond (decide (0 ≤ x1)) (some ((p0.kids.length : Int) != x1)) (some false)))) : Option Bool).bind fun s1 => (cond s1 (some false) (((cond (p0.op == 20) ((xX n p0.name).bind fun x4 => (cond (!x4) (some (.rt false)) (some (.nx ())))) ((qw n p0.op).bind fun x5 => (cond x5 ((jF n p0.name).bind fun x6 => (cond (!x6) (some (.rt false)) (some (.nx ())))) (cond (!(p0.name == ([] : Str))) (some (.rt false)) (some (.nx ())))))) : Option (LR Unit Bool)).bind (LR.el (fun s2 => (((cond (p0.op == 19) (cond (decide (p0.n < 0)) (some true) (cond (decide (1000000000 < p0.n)) (some true) (cond (p0.op != 19) (some (p0.n != 0)) (some false)))) (cond (p0.op != 19) (some (p0.n != 0)) (some false))) : Option Bool).bind fun s3 => (cond s3 (some false) (cond (p0.op == 29) ((((qc n p0.ty).bind fun x2 => (cond x2 (some (p0.ty.kind != 2)) (some false))) : Option Bool).bind fun s4 => some s4) ((rE n p0.ty).bind fun x3 => some x3))))) (fun r => some r))))))
def qZ (n : Nat) (rec_R1_nodes : Tm → Int → Int → Option Int) (p0 : Tm) (p1 : Int) : Nat → (Int × Int) → Option (LR Int Int)
 | 0, _ => none
 | k + 1, s2 => (cond (decide (s2.2 < (p0.kids.length : Int))) ((idx p0.kids s2.2).bind fun x1 => ((rec_R1_nodes x1 (IntKind.wrap .i64 (p1 + 1)) s2.1).bind fun x2 => (cond (decide (x2 < 0)) (some (.rt (-1))) (qZ n rec_R1_nodes p0 p1 k (x2, (s2.2 + 1)))))) (some (.nx s2.1)))
def pG (n : Nat) (rec_R1_nodes : Tm → Int → Int → Option Int) (p0 : Tm) (p1 : Int) (p2 : Int) : Option Int := (((cond (decide (64 < p1)) (some true) (cond (decide (2000 < (IntKind.wrap .i64 (p2 + 1)))) (some true) ((zX n p0).bind fun x3 => some (!x3)))) : Option Bool).bind fun s1 => (cond s1 (some (-1)) ((qZ n rec_R1_nodes p0 p1 n ((IntKind.wrap .i64 (p2 + 1)), 0)).bind (LR.el (fun s3 => some s3) (fun r => some r)))))
def nX : Nat → Tm → Int → Int → Option Int
 | 0, _, _, _ => none
 | n + 1, p0, p1, p2 => pG n (fun p0 p1 p2 => nX n p0 p1 p2) p0 p1 p2
def xI (n : Nat) (p0 : Tm) : Option Bool := ((nX n p0 1 0).bind fun x1 => some (decide (0 < x1)))
def mZ (n : Nat) (p0 : Env) (p1 : Tm) : Option Int := ((nD n p0 p1).bind fun x1 => (((cond (x1.2.2 == 0) (some (x1.1.kind != 2)) (some false)) : Option Bool).bind fun s1 => (cond s1 (some 7) (some x1.2.2))))
end Abs
end Go.Proofs.YtiiaccpcoclklaaGreat
