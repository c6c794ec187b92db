/-
  The plain functions of the program (printed by gen.py). Conditions: none.
-/
import Derived.Test.YtiiaccpcoclklaaGreatCAbs38x04b7ad
set_option linter.unusedSimpArgs false
set_option linter.unusedVariables false
namespace Go.Proofs.YtiiaccpcoclklaaGreat
namespace Abs
open Go Go.Proofs
set_option maxRecDepth 100000
set_option maxHeartbeats 40000000
def zf (n : Nat) (p0 : Env) : Nat → Int → Option (LR Unit Bool)
 | 0, _ => none
 | k + 1, s2 => (cond (decide (s2 < (p0.carriers.length : Int))) ((idx p0.carriers s2).bind fun x1 => (cond (decide (200 < (x1.elems.length : Int))) (some (.rt false)) (zf n p0 k (s2 + 1)))) (some (.nx ())))
def tZ (n : Nat) (p0 : Env) : Option Bool := (((cond (decide (200 < (p0.carriers.length : Int))) (some true) (some (decide (200 < (p0.names.length : Int))))) : Option Bool).bind fun s1 => (cond s1 (some false) ((zf n p0 n 0).bind (LR.el (fun s3 => some true) (fun r => some r)))))
def wC (n : Nat) (p0 : Int) : Option Bool := (((cond (decide (97 ≤ p0)) (cond (decide (p0 ≤ 122)) (some true) (cond (decide (65 ≤ p0)) (some (decide (p0 ≤ 90))) (some false))) (cond (decide (65 ≤ p0)) (some (decide (p0 ≤ 90))) (some false))) : Option Bool).bind fun s1 => some s1)
def wV (n : Nat) (p0 : Str) : Option Bool := (((cond (p0 == ([116, 114, 117, 101] : Str)) (some (p0 == ([116, 114, 117, 101] : Str))) (cond (p0 == ([102, 97, 108, 115, 101] : Str)) (some (p0 == ([102, 97, 108, 115, 101] : Str))) (cond (p0 == ([110, 111, 116] : Str)) (some (p0 == ([110, 111, 116] : Str))) (cond (p0 == ([111, 114] : Str)) (some (p0 == ([111, 114] : Str))) (cond (p0 == ([102, 111, 114, 97, 108, 108] : Str)) (some (p0 == ([102, 111, 114, 97, 108, 108] : Str))) (cond (p0 == ([101, 120, 105, 115, 116, 115] : Str)) (some (p0 == ([101, 120, 105, 115, 116, 115] : Str))) (cond (p0 == ([105, 110] : Str)) (some (p0 == ([105, 110] : Str))) (cond (p0 == ([110, 111, 116, 105, 110] : Str)) (some (p0 == ([110, 111, 116, 105, 110] : Str))) (cond (p0 == ([115, 117, 98] : Str)) (some (p0 == ([115, 117, 98] : Str))) (cond (p0 == ([109, 111, 100] : Str)) (some (p0 == ([109, 111, 100] : Str))) (cond (p0 == ([102, 117, 110] : Str)) (some (p0 == ([102, 117, 110] : Str))) (cond (p0 == ([99, 97, 114, 100] : Str)) (some (p0 == ([99, 97, 114, 100] : Str))) (cond (p0 == ([109, 105, 110] : Str)) (some (p0 == ([109, 105, 110] : Str))) (cond (p0 == ([109, 97, 120] : Str)) (some (p0 == ([109, 97, 120] : Str))) (cond (p0 == ([100, 111, 109] : Str)) (some (p0 == ([100, 111, 109] : Str))) (cond (p0 == ([114, 97, 110] : Str)) (some (p0 == ([114, 97, 110] : Str))) (cond (p0 == ([80, 79, 87] : Str)) (some (p0 == ([80, 79, 87] : Str))) (cond (p0 == ([105, 110, 116] : Str)) (some (p0 == ([105, 110, 116] : Str))) (cond (p0 == ([98, 111, 111, 108] : Str)) (some (p0 == ([98, 111, 111, 108] : Str))) (cond (p0 == ([115, 101, 116] : Str)) (some (p0 == ([115, 101, 116] : Str))) (some (p0 == ([112, 97, 105, 114] : Str))))))))))))))))))))))) : Option Bool).bind fun s1 => (cond s1 (some true) (some false)))
def Bc (n : Nat) (p0 : Int) : Option Bool := (((cond (decide (48 ≤ p0)) (some (decide (p0 ≤ 57))) (some false)) : Option Bool).bind fun s1 => some s1)
def yM (n : Nat) (p0 : Int) : Option Bool := ((((wC n p0).bind fun x1 => (cond x1 (some true) ((Bc n p0).bind fun x2 => (cond x2 (some true) (some (p0 == 95)))))) : Option Bool).bind fun s1 => some s1)
def mG (n : Nat) (p0 : Str) : Nat → Int → Option (LR Unit Bool)
 | 0, _ => none
 | k + 1, s2 => (cond (decide (s2 < (p0.length : Int))) ((vE p0 s2).bind fun x1 => ((yM n x1).bind fun x2 => (cond (!x2) (some (.rt false)) (mG n p0 k (s2 + 1))))) (some (.nx ())))
def fA (n : Nat) (p0 : Str) : Option Bool := (((cond (p0 == ([] : Str)) (some true) (cond (decide (16 < (p0.length : Int))) (some true) ((vE p0 0).bind fun x3 => ((wC n x3).bind fun x4 => (cond (!x4) (some true) ((wV n p0).bind fun x5 => some x5)))))) : Option Bool).bind fun s1 => (cond s1 (some false) ((mG n p0 n 0).bind (LR.el (fun s3 => some true) (fun r => some r)))))
def jO (n : Nat) (p0 : Str) (p1 : Str) : Option Bool := (((cond (decide ((p1.length : Int) ≤ (p0.length : Int))) ((ny p0 (IntKind.wrap .i64 ((p0.length : Int) - (p1.length : Int))) (p0.length : Int)).bind fun x1 => some (x1 == p1)) (some false)) : Option Bool).bind fun s1 => some s1)
def jE (n : Nat) (p0 : Str) (p1 : Str) : Option Str := ((jO n p0 p1).bind fun x1 => (cond x1 ((ny p0 0 (IntKind.wrap .i64 ((p0.length : Int) - (p1.length : Int)))).bind fun x2 => some x2) (some p0)))
def strings_TrimSuffix (n : Nat) (p0 : Str) (p1 : Str) : Option Str := ((jE n p0 p1).bind fun x1 => some x1)
def pJ (n : Nat) (p0 : Str) : Option Bool := ((strings_TrimSuffix n p0 ([39] : Str)).bind fun x1 => ((fA n x1).bind fun x2 => some x2))
def je (n : Nat) (p0 : Int) (p1 : Int) (p2 : Int) (p3 : Int) : Option (Bool × Int) := (((cond (decide ((IntKind.wrap .i64 (p0 + 1)) ≤ p1)) (some (decide (p3 ≤ p2))) (some false)) : Option Bool).bind fun s1 => some (s1, (IntKind.wrap .i64 (p0 + 1))))
def kC (n : Nat) (rec_slices_IndexFunc_Type : (List Ty) → Int → Int → Int → Int → Option (Int × Int)) (rec_slices_ContainsFunc_Type : (List Ty) → Int → Int → Int → Int → Option (Bool × Int)) (rec_term_measure_typeFits : Int → Int → Int → Ty → Int → Bool → Option (Bool × Int)) (rec_term_measure_typeFits_1 : Ty → Int → Int → Int → Int → Option (Bool × Int)) (p0 : List Ty) (p2 : Int) (p3 : Int) (p4 : Int) : Nat → (Int × Int) → Option (LR Int (Int × Int))
 | 0, _ => none
 | k + 1, s1 => (cond (decide (s1.1 < (p0.length : Int))) ((idx p0 s1.1).bind fun x1 => ((rec_term_measure_typeFits_1 x1 s1.2 p2 p3 p4).bind fun x2 => (cond x2.1 (some (.rt (s1.1, x2.2))) (kC n rec_slices_IndexFunc_Type rec_slices_ContainsFunc_Type rec_term_measure_typeFits rec_term_measure_typeFits_1 p0 p2 p3 p4 k ((s1.1 + 1), x2.2))))) (some (.nx s1.2)))
def fO (n : Nat) (rec_slices_IndexFunc_Type : (List Ty) → Int → Int → Int → Int → Option (Int × Int)) (rec_slices_ContainsFunc_Type : (List Ty) → Int → Int → Int → Int → Option (Bool × Int)) (rec_term_measure_typeFits : Int → Int → Int → Ty → Int → Bool → Option (Bool × Int)) (rec_term_measure_typeFits_1 : Ty → Int → Int → Int → Int → Option (Bool × Int)) (p0 : List Ty) (p1 : Int) (p2 : Int) (p3 : Int) (p4 : Int) : Option (Int × Int) := ((kC n rec_slices_IndexFunc_Type rec_slices_ContainsFunc_Type rec_term_measure_typeFits rec_term_measure_typeFits_1 p0 p2 p3 p4 n (0, p1)).bind (LR.el (fun s2 => some ((-1), s2)) (fun r => some r)))
def iM (n : Nat) (rec_slices_IndexFunc_Type : (List Ty) → Int → Int → Int → Int → Option (Int × Int)) (rec_slices_ContainsFunc_Type : (List Ty) → Int → Int → Int → Int → Option (Bool × Int)) (rec_term_measure_typeFits : Int → Int → Int → Ty → Int → Bool → Option (Bool × Int)) (rec_term_measure_typeFits_1 : Ty → Int → Int → Int → Int → Option (Bool × Int)) (p0 : List Ty) (p1 : Int) (p2 : Int) (p3 : Int) (p4 : Int) : Option (Bool × Int) := ((rec_slices_IndexFunc_Type p0 p1 p2 p3 p4).bind fun x1 => some ((decide (0 ≤ x1.1)), x1.2))
def jA (n : Nat) (rec_slices_IndexFunc_Type : (List Ty) → Int → Int → Int → Int → Option (Int × Int)) (rec_slices_ContainsFunc_Type : (List Ty) → Int → Int → Int → Int → Option (Bool × Int)) (rec_term_measure_typeFits : Int → Int → Int → Ty → Int → Bool → Option (Bool × Int)) (rec_term_measure_typeFits_1 : Ty → Int → Int → Int → Int → Option (Bool × Int)) (p0 : Int) (p1 : Int) (p2 : Int) (p3 : Ty) (p4 : Int) (p5 : Bool) : Option (Bool × Int) := ((je n p0 p1 p2 p4).bind fun x1 => (cond (!x1.1) (some (false, x1.2)) (((cond (p3.kind == 1) (some (.nx 0)) (cond (p3.kind == 2) (cond p5 (some (.rt (false, x1.2))) (some (.nx 0))) (cond (p3.kind == 3) ((fA n p3.name).bind fun x3 => (cond (!x3) (some (.rt (false, x1.2))) (some (.nx 0)))) (cond (p3.kind == 4) (some (.nx 2)) (cond (p3.kind == 5) (some (.nx 1)) (some (.rt (false, x1.2)))))))) : Option (LR Int (Bool × Int))).bind (LR.el (fun s1 => (((cond ((p3.kids.length : Int) != s1) (some true) (cond (p3.kind != 3) (some (!(p3.name == ([] : Str)))) (some false))) : Option Bool).bind fun s2 => (cond s2 (some (false, x1.2)) ((rec_slices_ContainsFunc_Type p3.kids x1.2 p1 p2 p4).bind fun x2 => some ((!x2.1), x2.2))))) (fun r => some r)))))
def iT (n : Nat) (rec_slices_IndexFunc_Type : (List Ty) → Int → Int → Int → Int → Option (Int × Int)) (rec_slices_ContainsFunc_Type : (List Ty) → Int → Int → Int → Int → Option (Bool × Int)) (rec_term_measure_typeFits : Int → Int → Int → Ty → Int → Bool → Option (Bool × Int)) (rec_term_measure_typeFits_1 : Ty → Int → Int → Int → Int → Option (Bool × Int)) (p0 : Ty) (p1 : Int) (p2 : Int) (p3 : Int) (p4 : Int) : Option (Bool × Int) := ((rec_term_measure_typeFits p1 p2 p3 p0 (IntKind.wrap .i64 (p4 + 1)) true).bind fun x1 => some ((!x1.1), x1.2))
mutual
def gT : Nat → (List Ty) → Int → Int → Int → Int → Option (Int × Int)
 | 0, _, _, _, _, _ => none
 | n + 1, p0, p1, p2, p3, p4 => fO n (fun p0 p1 p2 p3 p4 => gT n p0 p1 p2 p3 p4) (fun p0 p1 p2 p3 p4 => dL n p0 p1 p2 p3 p4) (fun p0 p1 p2 p3 p4 p5 => d9 n p0 p1 p2 p3 p4 p5) (fun p0 p1 p2 p3 p4 => dP n p0 p1 p2 p3 p4) p0 p1 p2 p3 p4
def dL : Nat → (List Ty) → Int → Int → Int → Int → Option (Bool × Int)
 | 0, _, _, _, _, _ => none
 | n + 1, p0, p1, p2, p3, p4 => iM n (fun p0 p1 p2 p3 p4 => gT n p0 p1 p2 p3 p4) (fun p0 p1 p2 p3 p4 => dL n p0 p1 p2 p3 p4) (fun p0 p1 p2 p3 p4 p5 => d9 n p0 p1 p2 p3 p4 p5) (fun p0 p1 p2 p3 p4 => dP n p0 p1 p2 p3 p4) p0 p1 p2 p3 p4
def d9 : Nat → Int → Int → Int → Ty → Int → Bool → Option (Bool × Int)
 | 0, _, _, _, _, _, _ => none
 | n + 1, p0, p1, p2, p3, p4, p5 => jA n (fun p0 p1 p2 p3 p4 => gT n p0 p1 p2 p3 p4) (fun p0 p1 p2 p3 p4 => dL n p0 p1 p2 p3 p4) (fun p0 p1 p2 p3 p4 p5 => d9 n p0 p1 p2 p3 p4 p5) (fun p0 p1 p2 p3 p4 => dP n p0 p1 p2 p3 p4) p0 p1 p2 p3 p4 p5
def dP : Nat → Ty → Int → Int → Int → Int → Option (Bool × Int)
 | 0, _, _, _, _, _ => none
 | n + 1, p0, p1, p2, p3, p4 => iT n (fun p0 p1 p2 p3 p4 => gT n p0 p1 p2 p3 p4) (fun p0 p1 p2 p3 p4 => dL n p0 p1 p2 p3 p4) (fun p0 p1 p2 p3 p4 p5 => d9 n p0 p1 p2 p3 p4 p5) (fun p0 p1 p2 p3 p4 => dP n p0 p1 p2 p3 p4) p0 p1 p2 p3 p4
end
def jH (n : Nat) (p0 : Ty) : Option Bool := ((d9 n 0 16 6 p0 1 false).bind fun x1 => some x1.1)
def jo (n : Nat) (rec_slices_IndexFunc_Type_1 : (List Ty) → Int → Option Int) (rec_slices_ContainsFunc_Type_1 : (List Ty) → Int → Option Bool) (rec_typing_contains : Ty → Int → Option Bool) (rec_typing_contains_1 : Ty → Int → Option Bool) (p0 : List Ty) (p1 : Int) : Nat → Int → Option (LR Unit Int)
 | 0, _ => none
 | k + 1, s1 => (cond (decide (s1 < (p0.length : Int))) ((idx p0 s1).bind fun x1 => ((rec_typing_contains_1 x1 p1).bind fun x2 => (cond x2 (some (.rt s1)) (jo n rec_slices_IndexFunc_Type_1 rec_slices_ContainsFunc_Type_1 rec_typing_contains rec_typing_contains_1 p0 p1 k (s1 + 1))))) (some (.nx ())))
def iP (n : Nat) (rec_slices_IndexFunc_Type_1 : (List Ty) → Int → Option Int) (rec_slices_ContainsFunc_Type_1 : (List Ty) → Int → Option Bool) (rec_typing_contains : Ty → Int → Option Bool) (rec_typing_contains_1 : Ty → Int → Option Bool) (p0 : List Ty) (p1 : Int) : Option Int := ((jo n rec_slices_IndexFunc_Type_1 rec_slices_ContainsFunc_Type_1 rec_typing_contains rec_typing_contains_1 p0 p1 n 0).bind (LR.el (fun s2 => some (-1)) (fun r => some r)))
def gZ (n : Nat) (rec_slices_IndexFunc_Type_1 : (List Ty) → Int → Option Int) (rec_slices_ContainsFunc_Type_1 : (List Ty) → Int → Option Bool) (rec_typing_contains : Ty → Int → Option Bool) (rec_typing_contains_1 : Ty → Int → Option Bool) (p0 : List Ty) (p1 : Int) : Option Bool := ((rec_slices_IndexFunc_Type_1 p0 p1).bind fun x1 => some (decide (0 ≤ x1)))
def nH (n : Nat) (rec_slices_IndexFunc_Type_1 : (List Ty) → Int → Option Int) (rec_slices_ContainsFunc_Type_1 : (List Ty) → Int → Option Bool) (rec_typing_contains : Ty → Int → Option Bool) (rec_typing_contains_1 : Ty → Int → Option Bool) (p0 : Ty) (p1 : Int) : Option Bool := (((cond (p0.kind == p1) (some true) ((rec_slices_ContainsFunc_Type_1 p0.kids p1).bind fun x1 => some x1)) : Option Bool).bind fun s1 => some s1)
def lS (n : Nat) (rec_slices_IndexFunc_Type_1 : (List Ty) → Int → Option Int) (rec_slices_ContainsFunc_Type_1 : (List Ty) → Int → Option Bool) (rec_typing_contains : Ty → Int → Option Bool) (rec_typing_contains_1 : Ty → Int → Option Bool) (p0 : Ty) (p1 : Int) : Option Bool := ((rec_typing_contains p0 p1).bind fun x1 => some x1)
mutual
def iq : Nat → (List Ty) → Int → Option Int
 | 0, _, _ => none
 | n + 1, p0, p1 => iP n (fun p0 p1 => iq n p0 p1) (fun p0 p1 => eZ n p0 p1) (fun p0 p1 => iB n p0 p1) (fun p0 p1 => iO n p0 p1) p0 p1
def eZ : Nat → (List Ty) → Int → Option Bool
 | 0, _, _ => none
 | n + 1, p0, p1 => gZ n (fun p0 p1 => iq n p0 p1) (fun p0 p1 => eZ n p0 p1) (fun p0 p1 => iB n p0 p1) (fun p0 p1 => iO n p0 p1) p0 p1
def iB : Nat → Ty → Int → Option Bool
 | 0, _, _ => none
 | n + 1, p0, p1 => nH n (fun p0 p1 => iq n p0 p1) (fun p0 p1 => eZ n p0 p1) (fun p0 p1 => iB n p0 p1) (fun p0 p1 => iO n p0 p1) p0 p1
def iO : Nat → Ty → Int → Option Bool
 | 0, _, _ => none
 | n + 1, p0, p1 => lS n (fun p0 p1 => iq n p0 p1) (fun p0 p1 => eZ n p0 p1) (fun p0 p1 => iB n p0 p1) (fun p0 p1 => iO n p0 p1) p0 p1
end
def jI (n : Nat) (p0 : Ty) : Option Bool := ((((jH n p0).bind fun x1 => (cond x1 ((iB n p0 2).bind fun x2 => some (!x2)) (some false))) : Option Bool).bind fun s1 => some s1)
def nK (n : Nat) (rec_typing_collect : Ty → (List (Str × Bool)) → Option (List (Str × Bool))) (p0 : Ty) : Nat → (Int × (List (Str × Bool))) → Option (LR (List (Str × Bool)) (List (Str × Bool)))
 | 0, _ => none
 | k + 1, s2 => (cond (decide (s2.1 < (p0.kids.length : Int))) ((idx p0.kids s2.1).bind fun x1 => ((rec_typing_collect x1 s2.2).bind fun x2 => nK n rec_typing_collect p0 k ((s2.1 + 1), x2))) (some (.nx s2.2)))
def oh (n : Nat) (rec_typing_collect : Ty → (List (Str × Bool)) → Option (List (Str × Bool))) (p0 : Ty) (p1 : List (Str × Bool)) : Option (List (Str × Bool)) := (((cond (p0.kind == 3) ((xC p1 p0.name true).bind fun x3 => some x3) (some p1)) : Option (List (Str × Bool))).bind fun s1 => ((nK n rec_typing_collect p0 n (0, s1)).bind (LR.el (fun s3 => some s3) (fun r => some r))))
def jG : Nat → Ty → (List (Str × Bool)) → Option (List (Str × Bool))
 | 0, _, _ => none
 | n + 1, p0, p1 => oh n (fun p0 p1 => jG n p0 p1) p0 p1
def jV (n : Nat) (p0 : Ty) : Option (List Str) := ((jH n p0).bind fun x1 => (cond (!x1) (some ([] : List Str)) ((jG n p0 ([] : List (Str × Bool))).bind fun x2 => ((qJ n x2).bind fun x3 => some x3))))
def BL (n : Nat) (p0 : Carrier) (p1 : Str) : Option Bool := some (p0.name == p1)
def jf (n : Nat) (p0 : List Carrier) (p1 : Str) : Nat → Int → Option (LR Unit Int)
 | 0, _ => none
 | k + 1, s1 => (cond (decide (s1 < (p0.length : Int))) ((idx p0 s1).bind fun x1 => (cond (x1.name == p1) (some (.rt s1)) (jf n p0 p1 k (s1 + 1)))) (some (.nx ())))
def mZ (n : Nat) (p0 : List Carrier) (p1 : Str) : Option Int := ((jf n p0 p1 n 0).bind (LR.el (fun s2 => some (-1)) (fun r => some r)))
def lC (n : Nat) (p0 : List Carrier) (p1 : Str) : Option Bool := ((mZ n p0 p1).bind fun x1 => some (decide (0 ≤ x1)))
def qA (n : Nat) (p0 : Env) (p1 : Str) : Option Bool := ((lC n p0.carriers p1).bind fun x1 => some x1)
def qz (n : Nat) (p0 : Str) (p1 : List Carrier) (p2 : List Decl) : Option Bool := ((qA n (Env.mk p1 p2) p0).bind fun x1 => some (!x1))
def jw (n : Nat) (p0 : List Str) (p1 : List Carrier) (p2 : List Decl) : Nat → Int → Option (LR Unit Int)
 | 0, _ => none
 | k + 1, s1 => (cond (decide (s1 < (p0.length : Int))) ((idx p0 s1).bind fun x1 => ((qz n x1 p1 p2).bind fun x2 => (cond x2 (some (.rt s1)) (jw n p0 p1 p2 k (s1 + 1))))) (some (.nx ())))
def nX (n : Nat) (p0 : List Str) (p1 : List Carrier) (p2 : List Decl) : Option Int := ((jw n p0 p1 p2 n 0).bind (LR.el (fun s2 => some (-1)) (fun r => some r)))
def lV (n : Nat) (p0 : List Str) (p1 : List Carrier) (p2 : List Decl) : Option Bool := ((nX n p0 p1 p2).bind fun x1 => some (decide (0 ≤ x1)))
def nG (n : Nat) (p0 : Env) (p1 : Ty) : Option Bool := ((jV n p1).bind fun x1 => ((lV n x1 p0.carriers p0.names).bind fun x2 => some (!x2)))
def oP (n : Nat) (p0 : Env) : Nat → ((List Str) × Int) → Option (LR (List Str) (List Str))
 | 0, _ => none
 | k + 1, s1 => (cond (decide (s1.2 < (p0.carriers.length : Int))) ((idx p0.carriers s1.2).bind fun x3 => ((app 16 s1.1 ([x3.name])).bind fun x4 => ((app 16 x4 x3.elems).bind fun x5 => oP n p0 k (x5, (s1.2 + 1))))) (some (.nx s1.1)))
def o9 (n : Nat) (p0 : Env) : Nat → ((List Str) × Int) → Option (LR (List Str) (List Str))
 | 0, _ => none
 | k + 1, s3 => (cond (decide (s3.2 < (p0.names.length : Int))) ((idx p0.names s3.2).bind fun x1 => ((app 16 s3.1 ([x1.name])).bind fun x2 => o9 n p0 k (x2, (s3.2 + 1)))) (some (.nx s3.1)))
def sV (n : Nat) (p0 : Env) : Option (List Str) := ((oP n p0 n (([] : List Str), 0)).bind (LR.el (fun s2 => ((o9 n p0 n (s2, 0)).bind (LR.el (fun s4 => some s4) (fun r => some r)))) (fun r => some r)))
def oL (n : Nat) (p0 : List Str) : Nat → (Int × (List (Str × Bool))) → Option (LR Unit Bool)
 | 0, _ => none
 | k + 1, s1 => (cond (decide (s1.1 < (p0.length : Int))) ((idx p0 s1.1).bind fun x1 => (((Zb (eP s1.2 x1) (some false) (fun x3 => some x3)) : Option Bool).bind fun s3 => (cond s3 (some (.rt false)) ((xC s1.2 x1 true).bind fun x2 => oL n p0 k ((s1.1 + 1), x2))))) (some (.nx ())))
def tu (n : Nat) (p0 : List Str) : Option Bool := ((oL n p0 n (0, ([] : List (Str × Bool)))).bind (LR.el (fun s2 => some true) (fun r => some r)))
def ku (n : Nat) (x7 : Carrier) : Nat → Int → Option (LR Unit Bool)
 | 0, _ => none
 | k + 1, s8 => (cond (decide (s8 < (x7.elems.length : Int))) ((idx x7.elems s8).bind fun x8 => ((fA n x8).bind fun x9 => (cond (!x9) (some (.rt false)) (ku n x7 k (s8 + 1))))) (some (.nx ())))
def oZ (n : Nat) (p0 : Env) : Nat → Int → Option (LR Unit Bool)
 | 0, _ => none
 | k + 1, s2 => (cond (decide (s2 < (p0.carriers.length : Int))) ((idx p0.carriers s2).bind fun x7 => ((((fA n x7.name).bind fun x10 => (cond (!x10) (some true) (some (decide (8 < (x7.elems.length : Int)))))) : Option Bool).bind fun s7 => (cond s7 (some (.rt false)) ((ku n x7 n 0).bind (LR.el (fun s9 => oZ n p0 k (s2 + 1)) (fun r => some (.rt r))))))) (some (.nx ())))
def o8 (n : Nat) (p0 : Env) : Nat → Int → Option (LR Unit Bool)
 | 0, _ => none
 | k + 1, s4 => (cond (decide (s4 < (p0.names.length : Int))) ((idx p0.names s4).bind fun x3 => ((((pJ n x3.name).bind fun x4 => (cond (!x4) (some true) ((jI n x3.ty).bind fun x5 => (cond (!x5) (some true) ((nG n p0 x3.ty).bind fun x6 => some (!x6)))))) : Option Bool).bind fun s6 => (cond s6 (some (.rt false)) (o8 n p0 k (s4 + 1))))) (some (.nx ())))
def pW (n : Nat) (p0 : Env) : Option Bool := (((cond (decide (8 < (p0.carriers.length : Int))) (some true) (some (decide (64 < (p0.names.length : Int))))) : Option Bool).bind fun s1 => (cond s1 (some false) ((oZ n p0 n 0).bind (LR.el (fun s3 => ((o8 n p0 n 0).bind (LR.el (fun s5 => ((sV n p0).bind fun x1 => ((tu n x1).bind fun x2 => some x2))) (fun r => some r)))) (fun r => some r)))))
def CW (n : Nat) (p0 : Int) : Option (Int × Bool) := (((cond (p0 == 1) (some (p0 == 1)) (cond (p0 == 2) (some (p0 == 2)) (cond (p0 == 19) (some (p0 == 19)) (cond (p0 == 20) (some (p0 == 20)) (some (p0 == 29)))))) : Option Bool).bind fun s1 => (cond s1 (some (0, true)) (((cond (p0 == 3) (some (p0 == 3)) (cond (p0 == 21) (some (p0 == 21)) (((cond (decide (46 ≤ p0)) (some (decide (p0 ≤ 51))) (some false)) : Option Bool).bind fun s4 => (cond s4 (some s4) (some (p0 == 52)))))) : Option Bool).bind fun s2 => (cond s2 (some (1, true)) (cond (p0 == 28) (some ((-1), true)) (((cond (decide (1 ≤ p0)) (some (decide (p0 ≤ 56))) (some false)) : Option Bool).bind fun s3 => (cond s3 (some (2, true)) (some (0, false)))))))))
def DY (n : Nat) (p0 : Str) : Option Bool := ((strings_TrimSuffix n p0 ([39] : Str)).bind fun x1 => ((fA n x1).bind fun x2 => some x2))
def wG (n : Nat) (p0 : Int) : Option Bool := (((cond (p0 == 8) (some true) (cond (p0 == 9) (some true) (cond (p0 == 55) (some true) (some (p0 == 56))))) : Option Bool).bind fun s1 => some s1)
def vZ (n : Nat) (p0 : Ty) : Option Bool := (((cond (p0.kind == 0) (cond (p0.name == ([] : Str)) (some ((p0.kids.length : Int) == 0)) (some false)) (some false)) : Option Bool).bind fun s1 => some s1)
def y8 (n : Nat) (p0 : Tm) : Option Bool := ((CW n p0.op).bind fun x1 => (((((cond (!x1.2) (some (!x1.2)) (((cond (x1.1 == (-1)) (some ((p0.kids.length : Int) == 0)) (some false)) : Option Bool).bind fun s6 => (cond s6 (some s6) (cond (x1.1 != (-1)) (some ((p0.kids.length : Int) != x1.1)) (some false))))) : Option Bool).bind fun s5 => (cond s5 (some (.rt false)) (cond (p0.op == 20) ((DY n p0.name).bind fun x4 => some (.nx x4)) ((wG n p0.op).bind fun x5 => (cond x5 ((fA n p0.name).bind fun x6 => some (.nx x6)) (some (.nx (p0.name == ([] : Str))))))))) : Option (LR Bool Bool)).bind (LR.el (fun s1 => (((cond (p0.op == 19) (cond s1 (cond (decide (0 ≤ p0.n)) (some (decide (p0.n ≤ 1000000000))) (some false)) (some false)) (cond s1 (some (p0.n == 0)) (some false))) : Option Bool).bind fun s2 => (cond (p0.op == 29) (((cond s2 (cond (p0.ty.kind != 2) ((jH n p0.ty).bind fun x2 => some x2) (some false)) (some false)) : Option Bool).bind fun s3 => some s3) (((cond s2 ((vZ n p0.ty).bind fun x3 => some x3) (some false)) : Option Bool).bind fun s4 => some s4)))) (fun r => some r))))
def kF (n : Nat) (rec_slices_IndexFunc_Term : (List Tm) → Int → Int → Int → Int → Option (Int × Int)) (rec_slices_ContainsFunc_Term : (List Tm) → Int → Int → Int → Int → Option (Bool × Int)) (rec_term_measure_fits : Int → Int → Int → Tm → Int → Option (Bool × Int)) (rec_term_measure_fits_1 : Tm → Int → Int → Int → Int → Option (Bool × Int)) (p0 : List Tm) (p2 : Int) (p3 : Int) (p4 : Int) : Nat → (Int × Int) → Option (LR Int (Int × Int))
 | 0, _ => none
 | k + 1, s1 => (cond (decide (s1.1 < (p0.length : Int))) ((idx p0 s1.1).bind fun x1 => ((rec_term_measure_fits_1 x1 s1.2 p2 p3 p4).bind fun x2 => (cond x2.1 (some (.rt (s1.1, x2.2))) (kF n rec_slices_IndexFunc_Term rec_slices_ContainsFunc_Term rec_term_measure_fits rec_term_measure_fits_1 p0 p2 p3 p4 k ((s1.1 + 1), x2.2))))) (some (.nx s1.2)))
def fQ (n : Nat) (rec_slices_IndexFunc_Term : (List Tm) → Int → Int → Int → Int → Option (Int × Int)) (rec_slices_ContainsFunc_Term : (List Tm) → Int → Int → Int → Int → Option (Bool × Int)) (rec_term_measure_fits : Int → Int → Int → Tm → Int → Option (Bool × Int)) (rec_term_measure_fits_1 : Tm → Int → Int → Int → Int → Option (Bool × Int)) (p0 : List Tm) (p1 : Int) (p2 : Int) (p3 : Int) (p4 : Int) : Option (Int × Int) := ((kF n rec_slices_IndexFunc_Term rec_slices_ContainsFunc_Term rec_term_measure_fits rec_term_measure_fits_1 p0 p2 p3 p4 n (0, p1)).bind (LR.el (fun s2 => some ((-1), s2)) (fun r => some r)))
def iL (n : Nat) (rec_slices_IndexFunc_Term : (List Tm) → Int → Int → Int → Int → Option (Int × Int)) (rec_slices_ContainsFunc_Term : (List Tm) → Int → Int → Int → Int → Option (Bool × Int)) (rec_term_measure_fits : Int → Int → Int → Tm → Int → Option (Bool × Int)) (rec_term_measure_fits_1 : Tm → Int → Int → Int → Int → Option (Bool × Int)) (p0 : List Tm) (p1 : Int) (p2 : Int) (p3 : Int) (p4 : Int) : Option (Bool × Int) := ((rec_slices_IndexFunc_Term p0 p1 p2 p3 p4).bind fun x1 => some ((decide (0 ≤ x1.1)), x1.2))
def lM (n : Nat) (rec_slices_IndexFunc_Term : (List Tm) → Int → Int → Int → Int → Option (Int × Int)) (rec_slices_ContainsFunc_Term : (List Tm) → Int → Int → Int → Int → Option (Bool × Int)) (rec_term_measure_fits : Int → Int → Int → Tm → Int → Option (Bool × Int)) (rec_term_measure_fits_1 : Tm → Int → Int → Int → Int → Option (Bool × Int)) (p0 : Int) (p1 : Int) (p2 : Int) (p3 : Tm) (p4 : Int) : Option (Bool × Int) := ((((je n p0 p1 p2 p4).bind fun x2 => (cond (!x2.1) (some (true, x2.2)) ((y8 n p3).bind fun x3 => some ((!x3), x2.2)))) : Option (Bool × Int)).bind fun s1 => (cond s1.1 (some (false, s1.2)) ((rec_slices_ContainsFunc_Term p3.kids s1.2 p1 p2 p4).bind fun x1 => some ((!x1.1), x1.2))))
def kM (n : Nat) (rec_slices_IndexFunc_Term : (List Tm) → Int → Int → Int → Int → Option (Int × Int)) (rec_slices_ContainsFunc_Term : (List Tm) → Int → Int → Int → Int → Option (Bool × Int)) (rec_term_measure_fits : Int → Int → Int → Tm → Int → Option (Bool × Int)) (rec_term_measure_fits_1 : Tm → Int → Int → Int → Int → Option (Bool × Int)) (p0 : Tm) (p1 : Int) (p2 : Int) (p3 : Int) (p4 : Int) : Option (Bool × Int) := ((rec_term_measure_fits p1 p2 p3 p0 (IntKind.wrap .i64 (p4 + 1))).bind fun x1 => some ((!x1.1), x1.2))
mutual
def gV : Nat → (List Tm) → Int → Int → Int → Int → Option (Int × Int)
 | 0, _, _, _, _, _ => none
 | n + 1, p0, p1, p2, p3, p4 => fQ n (fun p0 p1 p2 p3 p4 => gV n p0 p1 p2 p3 p4) (fun p0 p1 p2 p3 p4 => eO n p0 p1 p2 p3 p4) (fun p0 p1 p2 p3 p4 => fT n p0 p1 p2 p3 p4) (fun p0 p1 p2 p3 p4 => fq n p0 p1 p2 p3 p4) p0 p1 p2 p3 p4
def eO : Nat → (List Tm) → Int → Int → Int → Int → Option (Bool × Int)
 | 0, _, _, _, _, _ => none
 | n + 1, p0, p1, p2, p3, p4 => iL n (fun p0 p1 p2 p3 p4 => gV n p0 p1 p2 p3 p4) (fun p0 p1 p2 p3 p4 => eO n p0 p1 p2 p3 p4) (fun p0 p1 p2 p3 p4 => fT n p0 p1 p2 p3 p4) (fun p0 p1 p2 p3 p4 => fq n p0 p1 p2 p3 p4) p0 p1 p2 p3 p4
def fT : Nat → Int → Int → Int → Tm → Int → Option (Bool × Int)
 | 0, _, _, _, _, _ => none
 | n + 1, p0, p1, p2, p3, p4 => lM n (fun p0 p1 p2 p3 p4 => gV n p0 p1 p2 p3 p4) (fun p0 p1 p2 p3 p4 => eO n p0 p1 p2 p3 p4) (fun p0 p1 p2 p3 p4 => fT n p0 p1 p2 p3 p4) (fun p0 p1 p2 p3 p4 => fq n p0 p1 p2 p3 p4) p0 p1 p2 p3 p4
def fq : Nat → Tm → Int → Int → Int → Int → Option (Bool × Int)
 | 0, _, _, _, _, _ => none
 | n + 1, p0, p1, p2, p3, p4 => kM n (fun p0 p1 p2 p3 p4 => gV n p0 p1 p2 p3 p4) (fun p0 p1 p2 p3 p4 => eO n p0 p1 p2 p3 p4) (fun p0 p1 p2 p3 p4 => fT n p0 p1 p2 p3 p4) (fun p0 p1 p2 p3 p4 => fq n p0 p1 p2 p3 p4) p0 p1 p2 p3 p4
end
def vM (n : Nat) (p0 : Tm) : Option Bool := ((fT n 0 2000 64 p0 1).bind fun x1 => some x1.1)
def MF (n : Nat) (p0 : Ty) : Option Ty := some (Ty.mk 5 ([] : Str) ([p0]))
def lF (n : Nat) (x3 : Carrier) : Nat → (Int × (List (Str × Ty))) → Option (LR (List (Str × Ty)) (List (Str × Ty)))
 | 0, _ => none
 | k + 1, s5 => (cond (decide (s5.1 < (x3.elems.length : Int))) ((idx x3.elems s5.1).bind fun x5 => ((xC s5.2 x5 (Ty.mk 3 x3.name ([]))).bind fun x6 => lF n x3 k ((s5.1 + 1), x6))) (some (.nx s5.2)))
def tL (n : Nat) (p0 : Env) : Nat → (Int × (List (Str × Ty))) → Option (LR (List (Str × Ty)) (List (Str × Ty)))
 | 0, _ => none
 | k + 1, s1 => (cond (decide (s1.1 < (p0.carriers.length : Int))) ((idx p0.carriers s1.1).bind fun x3 => ((xC s1.2 x3.name (Ty.mk 5 ([] : Str) ([(Ty.mk 3 x3.name ([]))]))).bind fun x4 => ((lF n x3 n (0, x4)).bind (LR.el (fun s6 => tL n p0 k ((s1.1 + 1), s6)) (fun r => some (.rt r)))))) (some (.nx s1.2)))
def tJ (n : Nat) (p0 : Env) : Nat → (Int × (List (Str × Ty))) → Option (LR (List (Str × Ty)) (List (Str × Ty)))
 | 0, _ => none
 | k + 1, s3 => (cond (decide (s3.1 < (p0.names.length : Int))) ((idx p0.names s3.1).bind fun x1 => ((xC s3.2 x1.name x1.ty).bind fun x2 => tJ n p0 k ((s3.1 + 1), x2))) (some (.nx s3.2)))
def xM (n : Nat) (p0 : Env) : Option (List (Str × Ty)) := ((tL n p0 n (0, ([] : List (Str × Ty)))).bind (LR.el (fun s2 => ((tJ n p0 n (0, s2)).bind (LR.el (fun s4 => some s4) (fun r => some r)))) (fun r => some r)))
def Ny (n : Nat) : Option Ty := some (Ty.mk 2 ([] : Str) ([]))
def Rn (n : Nat) (p0 : Int) (p1 : Ty) : Option Unit := some ()
def I4 (n : Nat) : Option Ty := some (Ty.mk 1 ([] : Str) ([]))
def V4 (n : Nat) : Option Unit := some ()
def DT (n : Nat) : Option Unit := some ()
def Mg (n : Nat) : Option Unit := some ()
def Gq (n : Nat) (p0 : Ty) : Option Unit := some ()
def Q6 (n : Nat) : Option Unit := some ()
def La (n : Nat) : Option Unit := some ()
def Rk (n : Nat) : Option Unit := some ()
def Ll (n : Nat) : Option Unit := some ()
def Oc (n : Nat) : Option Unit := some ()
def BO (n : Nat) : Option Unit := some ()
def BU (n : Nat) : Option Unit := some ()
def JA (n : Nat) : Option Unit := some ()
def Ju (n : Nat) : Option Unit := some ()
def BM (n : Nat) : Option Unit := some ()
def BS (n : Nat) : Option Unit := some ()
def BR (n : Nat) : Option Unit := some ()
def BN (n : Nat) : Option Unit := some ()
def BP (n : Nat) : Option Unit := some ()
def Rh (n : Nat) : Option Unit := some ()
def nk (n : Nat) (p0 : Env) : Nat → (Int × (List (Str × Bool))) → Option (LR (List (Str × Bool)) ((List (Str × Ty)) × (List (Str × Bool))))
 | 0, _ => none
 | k + 1, s1 => (cond (decide (s1.1 < (p0.carriers.length : Int))) ((idx p0.carriers s1.1).bind fun x2 => ((xC s1.2 x2.name true).bind fun x3 => nk n p0 k ((s1.1 + 1), x3))) (some (.nx s1.2)))
def qp (n : Nat) (p0 : Env) : Option ((List (Str × Ty)) × (List (Str × Bool))) := ((xM n p0).bind fun x1 => ((nk n p0 n (0, ([] : List (Str × Bool)))).bind (LR.el (fun s2 => some (x1, s2)) (fun r => some r))))
def sF (n : Nat) (p0 : Int) : Option Bool := (((cond (p0 == 8) (some true) (cond (p0 == 9) (some true) (cond (p0 == 55) (some true) (some (p0 == 56))))) : Option Bool).bind fun s1 => some s1)
def dn (n : Nat) (p0 : Ty) : Option (Ty × Bool) := (cond (p0.kind != 5) (some ((Ty.mk 0 ([] : Str) ([])), false)) ((idx p0.kids 0).bind fun x1 => some (x1, true)))
def iI (n : Nat) (p1 : Str) : Nat → (List Decl) → Option (LR Unit (Ty × Bool))
 | 0, _ => none
 | k + 1, s1 => (cond (true != List.isEmpty s1) ((unc s1).bind fun x1 => (cond (x1.1.name == p1) ((unc s1).bind fun x2 => some (.rt (x2.1.ty, true))) ((unc s1).bind fun x3 => iI n p1 k x3.2))) (some (.nx ())))
def lG (n : Nat) (p0 : List Decl) (p1 : Str) : Option (Ty × Bool) := ((iI n p1 n p0).bind (LR.el (fun s2 => some ((Ty.mk 0 ([] : Str) ([])), false)) (fun r => some r)))
def lN (n : Nat) (p0 : Str) (p1 : List (Str × Ty)) (p2 : List (Str × Bool)) (p3 : List Int) : Option Bool := (((Zb (eP p2 p0) (some true) (fun x1 => some (!x1))) : Option Bool).bind fun s1 => some s1)
def iQ (n : Nat) (p0 : List Str) (p1 : List (Str × Ty)) (p2 : List (Str × Bool)) (p3 : List Int) : Nat → Int → Option (LR Unit Int)
 | 0, _ => none
 | k + 1, s1 => (cond (decide (s1 < (p0.length : Int))) ((idx p0 s1).bind fun x1 => ((lN n x1 p1 p2 p3).bind fun x2 => (cond x2 (some (.rt s1)) (iQ n p0 p1 p2 p3 k (s1 + 1))))) (some (.nx ())))
def mM (n : Nat) (p0 : List Str) (p1 : List (Str × Ty)) (p2 : List (Str × Bool)) (p3 : List Int) : Option Int := ((iQ n p0 p1 p2 p3 n 0).bind (LR.el (fun s2 => some (-1)) (fun r => some r)))
def kW (n : Nat) (p0 : List Str) (p1 : List (Str × Ty)) (p2 : List (Str × Bool)) (p3 : List Int) : Option Bool := ((mM n p0 p1 p2 p3).bind fun x1 => some (decide (0 ≤ x1)))
def kV (n : Nat) (p0 : List (Str × Ty)) (p1 : List (Str × Bool)) (p2 : List Int) (p3 : Ty) : Option Bool := ((jV n p3).bind fun x1 => ((kW n x1 p0 p1 p2).bind fun x2 => some (!x2)))
def mo (n : Nat) (p0 : Ty) : Option (Ty × Int) := ((jH n p0).bind fun x1 => (cond (!x1) (some ((Ty.mk 0 ([] : Str) ([])), 5)) (some (p0, 0))))
def DR (n : Nat) (p0 : List Ty) (p1 : Int) (p2 : Str) (p3 : List Ty) : Option (Ty × Bool) := some ((Ty.mk p1 p2 p3), true)
def FX (n : Nat) (p0 : Ty) (p1 : Int) : Option Bool := some (p0.kind != p1)
def jD (n : Nat) (p0 : List Ty) (p1 : Int) : Nat → Int → Option (LR Unit Int)
 | 0, _ => none
 | k + 1, s1 => (cond (decide (s1 < (p0.length : Int))) ((idx p0 s1).bind fun x1 => (cond (x1.kind != p1) (some (.rt s1)) (jD n p0 p1 k (s1 + 1)))) (some (.nx ())))
def nY (n : Nat) (p0 : List Ty) (p1 : Int) : Option Int := ((jD n p0 p1 n 0).bind (LR.el (fun s2 => some (-1)) (fun r => some r)))
def lX (n : Nat) (p0 : List Ty) (p1 : Int) : Option Bool := ((nY n p0 p1).bind fun x1 => some (decide (0 ≤ x1)))
def bF (n : Nat) (p0 : List Ty) (p1 : Int) (p2 : Str) (p3 : List Ty) (p4 : Int) : Option (Ty × Bool) := ((lX n p0 p4).bind fun x1 => some ((Ty.mk p1 p2 p3), (!x1)))
def Lm (n : Nat) (p0 : Ty) : Option Ty := some (Ty.mk 2 ([] : Str) ([]))
def nE (n : Nat) (p0 : List Ty) : Option (Ty × Bool) := ((idx p0 0).bind fun x1 => ((idx p0 1).bind fun x2 => some ((Ty.mk 2 ([] : Str) ([])), (x2.kind == 2))))
def kE (n : Nat) (rec_slices_EqualFunc_Type : (List Ty) → (List Ty) → Option Bool) (rec_typing_equal : Ty → Ty → Option Bool) (p0 : List Ty) (p1 : List Ty) : Nat → Int → Option (LR Unit Bool)
 | 0, _ => none
 | k + 1, s1 => (cond (decide (s1 < (p0.length : Int))) ((idx p0 s1).bind fun x1 => ((idx p1 s1).bind fun x2 => ((rec_typing_equal x1 x2).bind fun x3 => (cond (!x3) (some (.rt false)) (kE n rec_slices_EqualFunc_Type rec_typing_equal p0 p1 k (s1 + 1)))))) (some (.nx ())))
def jv (n : Nat) (rec_slices_EqualFunc_Type : (List Ty) → (List Ty) → Option Bool) (rec_typing_equal : Ty → Ty → Option Bool) (p0 : List Ty) (p1 : List Ty) : Option Bool := (cond ((p0.length : Int) != (p1.length : Int)) (some false) ((kE n rec_slices_EqualFunc_Type rec_typing_equal p0 p1 n 0).bind (LR.el (fun s2 => some true) (fun r => some r))))
def ql (n : Nat) (rec_slices_EqualFunc_Type : (List Ty) → (List Ty) → Option Bool) (rec_typing_equal : Ty → Ty → Option Bool) (p0 : Ty) (p1 : Ty) : Option Bool := (((cond (p0.kind == p1.kind) (cond (p0.name == p1.name) ((rec_slices_EqualFunc_Type p0.kids p1.kids).bind fun x1 => some x1) (some false)) (some false)) : Option Bool).bind fun s1 => some s1)
mutual
def ko : Nat → (List Ty) → (List Ty) → Option Bool
 | 0, _, _ => none
 | n + 1, p0, p1 => jv n (fun p0 p1 => ko n p0 p1) (fun p0 p1 => fH n p0 p1) p0 p1
def fH : Nat → Ty → Ty → Option Bool
 | 0, _, _ => none
 | n + 1, p0, p1 => ql n (fun p0 p1 => ko n p0 p1) (fun p0 p1 => fH n p0 p1) p0 p1
end
def uU (n : Nat) (p0 : Ty) (p1 : List Ty) : Option Bool := ((idx p1 0).bind fun x1 => ((fH n p0 x1).bind fun x2 => some (!x2)))
def jC (n : Nat) (p0 : List Ty) (p1 : List Ty) : Nat → Int → Option (LR Unit Int)
 | 0, _ => none
 | k + 1, s1 => (cond (decide (s1 < (p0.length : Int))) ((idx p0 s1).bind fun x1 => ((uU n x1 p1).bind fun x2 => (cond x2 (some (.rt s1)) (jC n p0 p1 k (s1 + 1))))) (some (.nx ())))
def nU (n : Nat) (p0 : List Ty) (p1 : List Ty) : Option Int := ((jC n p0 p1 n 0).bind (LR.el (fun s2 => some (-1)) (fun r => some r)))
def lY (n : Nat) (p0 : List Ty) (p1 : List Ty) : Option Bool := ((nU n p0 p1).bind fun x1 => some (decide (0 ≤ x1)))
def kH (n : Nat) (p0 : List Ty) : Option Bool := ((((idx p0 0).bind fun x1 => (cond (x1.kind != 2) ((lY n p0 p0).bind fun x2 => some (!x2)) (some false))) : Option Bool).bind fun s1 => some s1)
def p8 (n : Nat) (p0 : List Ty) : Option (Ty × Bool) := ((kH n p0).bind fun x1 => some ((Ty.mk 2 ([] : Str) ([])), x1))
def nQ (n : Nat) (p0 : List Ty) : Option (Ty × Bool) := ((idx p0 1).bind fun x1 => ((dn n x1).bind fun x2 => (((cond x2.2 ((idx p0 0).bind fun x3 => ((fH n x3 x2.1).bind fun x4 => some x4)) (some false)) : Option Bool).bind fun s1 => some ((Ty.mk 2 ([] : Str) ([])), s1))))
def pK (n : Nat) (p0 : List Ty) : Option (Ty × Bool) := ((((idx p0 0).bind fun x1 => ((idx p0 0).bind fun x2 => (cond (x2.kind == 5) ((kH n p0).bind fun x3 => some x3) (some false)))) : Option Bool).bind fun s1 => some ((Ty.mk 2 ([] : Str) ([])), s1))
def Lc (n : Nat) (p0 : Ty) (p1 : Ty) : Option Ty := some (Ty.mk 4 ([] : Str) ([p0, p1]))
def rZ (n : Nat) (p0 : List Ty) : Option (Ty × Bool) := ((((idx p0 0).bind fun x1 => ((idx p0 1).bind fun x2 => ((idx p0 0).bind fun x3 => (cond (x3.kind != 2) ((idx p0 1).bind fun x4 => some ((x4.kind != 2), ([x1, x2]))) (some (false, ([x1, x2]))))))) : Option (Bool × (List Ty))).bind fun s1 => some ((Ty.mk 4 ([] : Str) s1.2), s1.1))
def sG (n : Nat) (p0 : List Ty) : Option (Ty × Bool) := ((idx p0 0).bind fun x1 => ((kH n p0).bind fun x2 => some ((Ty.mk 5 ([] : Str) ([x1])), x2)))
def KZ (n : Nat) (p0 : Ty) : Option Ty := some p0
def iV (n : Nat) (p0 : List Ty) : Option (Ty × Bool) := ((((idx p0 0).bind fun x1 => ((idx p0 0).bind fun x2 => (cond (x2.kind == 5) ((kH n p0).bind fun x3 => some (x3, x1.kind, x1.name, x1.kids)) (some (false, x1.kind, x1.name, x1.kids))))) : Option (Bool × Int × Str × (List Ty))).bind fun s1 => some ((Ty.mk s1.2.1 s1.2.2.1 s1.2.2.2), s1.1))
def Gg (n : Nat) (p0 : Ty) (p1 : Ty) : Option Ty := some (Ty.mk 5 ([] : Str) ([(Ty.mk 4 ([] : Str) ([p0, p1]))]))
def qU (n : Nat) (p0 : List Ty) : Option (Ty × Bool) := ((idx p0 0).bind fun x1 => ((dn n x1).bind fun x2 => ((idx p0 1).bind fun x3 => ((dn n x3).bind fun x4 => (((cond (!x2.2) (some true) (some (!x4.2))) : Option Bool).bind fun s1 => (cond s1 (some ((Ty.mk 0 ([] : Str) ([])), false)) (some ((Ty.mk 5 ([] : Str) ([(Ty.mk 4 ([] : Str) ([x2.1, x4.1]))])), true))))))))
def iA (n : Nat) (p0 : Ty) : Option (Ty × Ty × Bool) := ((dn n p0).bind fun x1 => (((cond (!x1.2) (some true) (some (x1.1.kind != 4))) : Option Bool).bind fun s1 => (cond s1 (some ((Ty.mk 0 ([] : Str) ([])), (Ty.mk 0 ([] : Str) ([])), false)) ((idx x1.1.kids 0).bind fun x2 => ((idx x1.1.kids 1).bind fun x3 => some (x2, x3, true))))))
def Dr (n : Nat) (p0 : Ty) (p1 : Ty) (p2 : List Ty) : Option (Ty × Bool) := ((idx p2 0).bind fun x1 => ((kH n p2).bind fun x2 => some (x1, x2)))
def j5 (n : Nat) (p0 : List Ty) : Option (Ty × Bool) := ((idx p0 0).bind fun x1 => ((iA n x1).bind fun x2 => (cond (!x2.2.2) (some ((Ty.mk 0 ([] : Str) ([])), false)) ((Dr n x2.1 x2.2.1 p0).bind fun x3 => some (x3.1, x3.2)))))
def zw (n : Nat) (p0 : Ty) (p1 : Ty) (p2 : List Ty) : Option (Ty × Bool) := ((idx p2 1).bind fun x1 => ((iA n x1).bind fun x2 => (((cond x2.2.2 ((fH n p1 x2.1).bind fun x3 => some x3) (some false)) : Option Bool).bind fun s1 => some ((Ty.mk 5 ([] : Str) ([(Ty.mk 4 ([] : Str) ([p0, x2.2.1]))])), s1))))
def j4 (n : Nat) (p0 : List Ty) : Option (Ty × Bool) := ((idx p0 0).bind fun x1 => ((iA n x1).bind fun x2 => (cond (!x2.2.2) (some ((Ty.mk 0 ([] : Str) ([])), false)) ((zw n x2.1 x2.2.1 p0).bind fun x3 => some (x3.1, x3.2)))))
def nT (n : Nat) (p0 : List Ty) : Option (Ty × Bool) := ((idx p0 0).bind fun x1 => ((dn n x1).bind fun x2 => ((idx p0 1).bind fun x3 => ((iA n x3).bind fun x4 => ((((idx p0 1).bind fun x5 => (cond x2.2 (cond x4.2.2 ((fH n x2.1 x4.1).bind fun x6 => some (x6, x5.kind, x5.name, x5.kids)) (some (false, x5.kind, x5.name, x5.kids))) (some (false, x5.kind, x5.name, x5.kids)))) : Option (Bool × Int × Str × (List Ty))).bind fun s1 => some ((Ty.mk s1.2.1 s1.2.2.1 s1.2.2.2), s1.1))))))
def zu (n : Nat) (p0 : Ty) (p1 : Ty) (p2 : List Ty) : Option (Ty × Bool) := ((idx p2 1).bind fun x1 => ((dn n x1).bind fun x2 => ((((idx p2 0).bind fun x3 => (cond x2.2 ((fH n x2.1 p1).bind fun x4 => some (x4, x3.kind, x3.name, x3.kids)) (some (false, x3.kind, x3.name, x3.kids)))) : Option (Bool × Int × Str × (List Ty))).bind fun s1 => some ((Ty.mk s1.2.1 s1.2.2.1 s1.2.2.2), s1.1))))
def gP (n : Nat) (p0 : List Ty) : Option (Ty × Bool) := ((idx p0 0).bind fun x1 => ((iA n x1).bind fun x2 => (cond (!x2.2.2) (some ((Ty.mk 0 ([] : Str) ([])), false)) ((zu n x2.1 x2.2.1 p0).bind fun x3 => some (x3.1, x3.2)))))
def Lp (n : Nat) (p0 : Ty) (p1 : Ty) : Option Ty := some (Ty.mk 5 ([] : Str) ([(Ty.mk 5 ([] : Str) ([(Ty.mk 4 ([] : Str) ([p0, p1]))]))]))
def fM (n : Nat) (p0 : List Ty) : Option (Ty × Bool) := ((idx p0 0).bind fun x1 => ((dn n x1).bind fun x2 => ((idx p0 1).bind fun x3 => ((dn n x3).bind fun x4 => (((cond (!x2.2) (some true) (some (!x4.2))) : Option Bool).bind fun s1 => (cond s1 (some ((Ty.mk 0 ([] : Str) ([])), false)) (some ((Ty.mk 5 ([] : Str) ([(Ty.mk 5 ([] : Str) ([(Ty.mk 4 ([] : Str) ([x2.1, x4.1]))]))])), true))))))))
def Je (n : Nat) (p0 : Ty) : Option (Ty × Bool) := some ((Ty.mk 5 ([] : Str) ([(Ty.mk 5 ([] : Str) ([p0]))])), true)
def oo (n : Nat) (p0 : List Ty) : Option (Ty × Bool) := ((idx p0 0).bind fun x1 => ((dn n x1).bind fun x2 => (cond (!x2.2) (some ((Ty.mk 0 ([] : Str) ([])), false)) (some ((((Ty.mk 5 ([] : Str) ([(Ty.mk 5 ([] : Str) ([x2.1]))])), true).1), ((Ty.mk 5 ([] : Str) ([(Ty.mk 5 ([] : Str) ([x2.1]))])), true).2)))))
def Jc (n : Nat) (p0 : Ty) : Option (Ty × Bool) := some ((Ty.mk 1 ([] : Str) ([])), true)
def oC (n : Nat) (p0 : List Ty) : Option (Ty × Bool) := ((idx p0 0).bind fun x1 => ((dn n x1).bind fun x2 => (cond (!x2.2) (some ((Ty.mk 0 ([] : Str) ([])), false)) (some ((((Ty.mk 1 ([] : Str) ([])), true).1), ((Ty.mk 1 ([] : Str) ([])), true).2)))))
def Li (n : Nat) (p0 : Ty) : Option (Ty × Bool) := some ((Ty.mk 1 ([] : Str) ([])), (p0.kind == 1))
def kL (n : Nat) (p0 : List Ty) : Option (Ty × Bool) := ((idx p0 0).bind fun x1 => ((dn n x1).bind fun x2 => (cond (!x2.2) (some ((Ty.mk 0 ([] : Str) ([])), false)) (some ((((Ty.mk 1 ([] : Str) ([])), (x2.1.kind == 1)).1), ((Ty.mk 1 ([] : Str) ([])), (x2.1.kind == 1)).2)))))
def Jp (n : Nat) (p0 : Ty) (p1 : Ty) (p2 : List Ty) : Option (Ty × Bool) := some ((Ty.mk 5 ([] : Str) ([p0])), true)
def jY (n : Nat) (p0 : List Ty) : Option (Ty × Bool) := ((idx p0 0).bind fun x1 => ((iA n x1).bind fun x2 => (cond (!x2.2.2) (some ((Ty.mk 0 ([] : Str) ([])), false)) (some ((((Ty.mk 5 ([] : Str) ([x2.1])), true).1), ((Ty.mk 5 ([] : Str) ([x2.1])), true).2)))))
def Ja (n : Nat) (p0 : Ty) (p1 : Ty) (p2 : List Ty) : Option (Ty × Bool) := some ((Ty.mk 5 ([] : Str) ([p1])), true)
def kg (n : Nat) (p0 : List Ty) : Option (Ty × Bool) := ((idx p0 0).bind fun x1 => ((iA n x1).bind fun x2 => (cond (!x2.2.2) (some ((Ty.mk 0 ([] : Str) ([])), false)) (some ((((Ty.mk 5 ([] : Str) ([x2.2.1])), true).1), ((Ty.mk 5 ([] : Str) ([x2.2.1])), true).2)))))
def Jd (n : Nat) (p0 : Ty) (p1 : Ty) (p2 : List Ty) : Option (Ty × Bool) := some ((Ty.mk 5 ([] : Str) ([(Ty.mk 4 ([] : Str) ([p1, p0]))])), true)
def j6 (n : Nat) (p0 : List Ty) : Option (Ty × Bool) := ((idx p0 0).bind fun x1 => ((iA n x1).bind fun x2 => (cond (!x2.2.2) (some ((Ty.mk 0 ([] : Str) ([])), false)) (some ((((Ty.mk 5 ([] : Str) ([(Ty.mk 4 ([] : Str) ([x2.2.1, x2.1]))])), true).1), ((Ty.mk 5 ([] : Str) ([(Ty.mk 4 ([] : Str) ([x2.2.1, x2.1]))])), true).2)))))
def xW (n : Nat) (p0 : Ty) (p1 : Ty) (p2 : List Ty) : Option (Ty × Bool) := ((idx p2 1).bind fun x1 => ((dn n x1).bind fun x2 => (((cond x2.2 ((fH n x2.1 p0).bind fun x3 => some x3) (some false)) : Option Bool).bind fun s1 => some ((Ty.mk 5 ([] : Str) ([p1])), s1))))
def jZ (n : Nat) (p0 : List Ty) : Option (Ty × Bool) := ((idx p0 0).bind fun x1 => ((iA n x1).bind fun x2 => (cond (!x2.2.2) (some ((Ty.mk 0 ([] : Str) ([])), false)) ((xW n x2.1 x2.2.1 p0).bind fun x3 => some (x3.1, x3.2)))))
def yh (n : Nat) (p0 : Ty) (p1 : Ty) (p2 : List Ty) : Option (Ty × Bool) := ((idx p2 1).bind fun x1 => ((fH n x1 p0).bind fun x2 => some (p1, x2)))
def kr (n : Nat) (p0 : List Ty) : Option (Ty × Bool) := ((idx p0 0).bind fun x1 => ((iA n x1).bind fun x2 => (cond (!x2.2.2) (some ((Ty.mk 0 ([] : Str) ([])), false)) ((yh n x2.1 x2.2.1 p0).bind fun x3 => some (x3.1, x3.2)))))
def sH (n : Nat) (p0 : List Ty) : Option (Ty × Bool) := ((idx p0 0).bind fun x1 => ((idx p0 1).bind fun x2 => some (x1, (x2.kind == 2))))
def qR (n : Nat) (p0 : List Ty) : Option (Ty × Bool) := ((idx p0 0).bind fun x1 => ((dn n x1).bind fun x2 => ((((idx p0 1).bind fun x3 => (cond x2.2 ((idx p0 1).bind fun x4 => some ((x4.kind != 2), ([(Ty.mk 4 ([] : Str) ([x2.1, x3]))]))) (some (false, ([(Ty.mk 4 ([] : Str) ([x2.1, x3]))]))))) : Option (Bool × (List Ty))).bind fun s1 => some ((Ty.mk 5 ([] : Str) s1.2), s1.1))))
def kR (n : Nat) (rec_typing_checker_of : (List (Str × Ty)) → (List (Str × Bool)) → (List Int) → Tm → (List Decl) → Option (Ty × Int × (List Int))) (rec_typing_checker_child : (List (Str × Ty)) → (List (Str × Bool)) → (List Int) → Tm → Int → (List Decl) → Option (Ty × Int × (List Int))) (p0 : List (Str × Ty)) (p1 : List (Str × Bool)) (p3 : Tm) : Nat → ((List Decl) × (List Ty) × Int × (List Int)) → Option (LR ((List Decl) × (List Ty) × (List Int)) (Ty × Int × (List Int)))
 | 0, _ => none
 | k + 1, s1 => (cond (decide (s1.2.2.1 < (p3.kids.length : Int))) ((((rec_typing_checker_child p0 p1 s1.2.2.2 p3 s1.2.2.1 s1.1).bind fun x57 => (cond (x57.2.1 != 0) (some (.rt ((Ty.mk 0 ([] : Str) ([])), x57.2.1, x57.2.2))) ((app 48 s1.2.1 ([x57.1])).bind fun x58 => (((cond (s1.2.2.1 == 0) ((sF n p3.op).bind fun x60 => some x60) (some false)) : Option Bool).bind fun s6 => (cond s6 ((dn n x57.1).bind fun x59 => (cond (!x59.2) (some (.rt ((Ty.mk 0 ([] : Str) ([])), 7, x57.2.2))) (some (.nx (((Decl.mk p3.name x59.1) :: s1.1), x58, x57.2.2))))) (some (.nx (s1.1, x58, x57.2.2)))))))) : Option (LR ((List Decl) × (List Ty) × (List Int)) (Ty × Int × (List Int)))).bind (LR.el (fun s5 => kR n rec_typing_checker_of rec_typing_checker_child p0 p1 p3 k (s5.1, s5.2.1, (s1.2.2.1 + 1), s5.2.2)) (fun r => some (.rt r)))) (some (.nx (s1.1, s1.2.1, s1.2.2.2))))
def lK (n : Nat) (rec_typing_checker_of : (List (Str × Ty)) → (List (Str × Bool)) → (List Int) → Tm → (List Decl) → Option (Ty × Int × (List Int))) (rec_typing_checker_child : (List (Str × Ty)) → (List (Str × Bool)) → (List Int) → Tm → Int → (List Decl) → Option (Ty × Int × (List Int))) (p0 : List (Str × Ty)) (p1 : List (Str × Bool)) (p2 : List Int) (p3 : Tm) (p4 : List Decl) : Option (Ty × Int × (List Int)) := ((kR n rec_typing_checker_of rec_typing_checker_child p0 p1 p3 n (p4, ([] : List Ty), 0, p2)).bind (LR.el (fun s2 => (cond (p3.op == 20) ((lG n s2.1 p3.name).bind fun x1 => (cond x1.2 (some (x1.1, 0, s2.2.2)) (((Zb (eP p0 p3.name) (some (false, 0, ([] : Str), ([] : List Ty))) (fun x2 => some (true, x2.kind, x2.name, x2.kids))) : Option (Bool × Int × Str × (List Ty))).bind fun s3 => (cond (!s3.1) (some ((Ty.mk 0 ([] : Str) ([])), 6, s2.2.2)) (some ((Ty.mk s3.2.1 s3.2.2.1 s3.2.2.2), 0, s2.2.2)))))) (cond (p3.op == 29) ((kV n p0 p1 s2.2.2 p3.ty).bind fun x3 => (cond (!x3) (some ((Ty.mk 0 ([] : Str) ([])), 6, s2.2.2)) ((mo n (Ty.mk 5 ([] : Str) ([p3.ty]))).bind fun x4 => some (x4.1, x4.2, s2.2.2)))) (((cond (p3.op == 0) none (cond (p3.op == 1) (some (((Ty.mk 2 ([] : Str) ([])), true).2, (((Ty.mk 2 ([] : Str) ([])), true).1).kind, (((Ty.mk 2 ([] : Str) ([])), true).1).name, (((Ty.mk 2 ([] : Str) ([])), true).1).kids)) (cond (p3.op == 2) (some (((Ty.mk 2 ([] : Str) ([])), true).2, (((Ty.mk 2 ([] : Str) ([])), true).1).kind, (((Ty.mk 2 ([] : Str) ([])), true).1).name, (((Ty.mk 2 ([] : Str) ([])), true).1).kids)) (cond (p3.op == 3) ((bF n s2.2.1 2 ([] : Str) ([]) 2).bind fun x6 => some (x6.2, x6.1.kind, x6.1.name, x6.1.kids)) (cond (p3.op == 4) ((bF n s2.2.1 2 ([] : Str) ([]) 2).bind fun x7 => some (x7.2, x7.1.kind, x7.1.name, x7.1.kids)) (cond (p3.op == 5) ((bF n s2.2.1 2 ([] : Str) ([]) 2).bind fun x8 => some (x8.2, x8.1.kind, x8.1.name, x8.1.kids)) (cond (p3.op == 6) ((bF n s2.2.1 2 ([] : Str) ([]) 2).bind fun x9 => some (x9.2, x9.1.kind, x9.1.name, x9.1.kids)) (cond (p3.op == 7) ((bF n s2.2.1 2 ([] : Str) ([]) 2).bind fun x10 => some (x10.2, x10.1.kind, x10.1.name, x10.1.kids)) (cond (p3.op == 8) ((nE n s2.2.1).bind fun x11 => some (x11.2, x11.1.kind, x11.1.name, x11.1.kids)) (cond (p3.op == 9) ((nE n s2.2.1).bind fun x12 => some (x12.2, x12.1.kind, x12.1.name, x12.1.kids)) (cond (p3.op == 10) ((p8 n s2.2.1).bind fun x13 => some (x13.2, x13.1.kind, x13.1.name, x13.1.kids)) (cond (p3.op == 11) ((p8 n s2.2.1).bind fun x14 => some (x14.2, x14.1.kind, x14.1.name, x14.1.kids)) (cond (p3.op == 12) ((bF n s2.2.1 2 ([] : Str) ([]) 1).bind fun x15 => some (x15.2, x15.1.kind, x15.1.name, x15.1.kids)) (cond (p3.op == 13) ((bF n s2.2.1 2 ([] : Str) ([]) 1).bind fun x16 => some (x16.2, x16.1.kind, x16.1.name, x16.1.kids)) (cond (p3.op == 14) ((bF n s2.2.1 2 ([] : Str) ([]) 1).bind fun x17 => some (x17.2, x17.1.kind, x17.1.name, x17.1.kids)) (cond (p3.op == 15) ((bF n s2.2.1 2 ([] : Str) ([]) 1).bind fun x18 => some (x18.2, x18.1.kind, x18.1.name, x18.1.kids)) (cond (p3.op == 16) ((nQ n s2.2.1).bind fun x19 => some (x19.2, x19.1.kind, x19.1.name, x19.1.kids)) (cond (p3.op == 17) ((nQ n s2.2.1).bind fun x20 => some (x20.2, x20.1.kind, x20.1.name, x20.1.kids)) (cond (p3.op == 18) ((pK n s2.2.1).bind fun x21 => some (x21.2, x21.1.kind, x21.1.name, x21.1.kids)) (cond (p3.op == 19) (some (((Ty.mk 1 ([] : Str) ([])), true).2, (((Ty.mk 1 ([] : Str) ([])), true).1).kind, (((Ty.mk 1 ([] : Str) ([])), true).1).name, (((Ty.mk 1 ([] : Str) ([])), true).1).kids)) (cond (p3.op == 20) none (cond (p3.op == 21) ((bF n s2.2.1 1 ([] : Str) ([]) 1).bind fun x22 => some (x22.2, x22.1.kind, x22.1.name, x22.1.kids)) (cond (p3.op == 22) ((bF n s2.2.1 1 ([] : Str) ([]) 1).bind fun x23 => some (x23.2, x23.1.kind, x23.1.name, x23.1.kids)) (cond (p3.op == 23) ((bF n s2.2.1 1 ([] : Str) ([]) 1).bind fun x24 => some (x24.2, x24.1.kind, x24.1.name, x24.1.kids)) (cond (p3.op == 24) ((bF n s2.2.1 1 ([] : Str) ([]) 1).bind fun x25 => some (x25.2, x25.1.kind, x25.1.name, x25.1.kids)) (cond (p3.op == 25) ((bF n s2.2.1 1 ([] : Str) ([]) 1).bind fun x26 => some (x26.2, x26.1.kind, x26.1.name, x26.1.kids)) (cond (p3.op == 26) ((bF n s2.2.1 1 ([] : Str) ([]) 1).bind fun x27 => some (x27.2, x27.1.kind, x27.1.name, x27.1.kids)) (cond (p3.op == 27) ((rZ n s2.2.1).bind fun x28 => some (x28.2, x28.1.kind, x28.1.name, x28.1.kids)) (cond (p3.op == 28) ((sG n s2.2.1).bind fun x29 => some (x29.2, x29.1.kind, x29.1.name, x29.1.kids)) (cond (p3.op == 29) none (cond (p3.op == 30) ((bF n s2.2.1 5 ([] : Str) ([(Ty.mk 1 ([] : Str) ([]))]) 1).bind fun x30 => some (x30.2, x30.1.kind, x30.1.name, x30.1.kids)) (cond (p3.op == 31) ((iV n s2.2.1).bind fun x31 => some (x31.2, x31.1.kind, x31.1.name, x31.1.kids)) (cond (p3.op == 32) ((iV n s2.2.1).bind fun x32 => some (x32.2, x32.1.kind, x32.1.name, x32.1.kids)) (cond (p3.op == 33) ((iV n s2.2.1).bind fun x33 => some (x33.2, x33.1.kind, x33.1.name, x33.1.kids)) (cond (p3.op == 34) ((qU n s2.2.1).bind fun x34 => some (x34.2, x34.1.kind, x34.1.name, x34.1.kids)) (cond (p3.op == 35) ((j5 n s2.2.1).bind fun x35 => some (x35.2, x35.1.kind, x35.1.name, x35.1.kids)) (cond (p3.op == 36) ((j4 n s2.2.1).bind fun x36 => some (x36.2, x36.1.kind, x36.1.name, x36.1.kids)) (cond (p3.op == 37) ((nT n s2.2.1).bind fun x37 => some (x37.2, x37.1.kind, x37.1.name, x37.1.kids)) (cond (p3.op == 38) ((nT n s2.2.1).bind fun x38 => some (x38.2, x38.1.kind, x38.1.name, x38.1.kids)) (cond (p3.op == 39) ((gP n s2.2.1).bind fun x39 => some (x39.2, x39.1.kind, x39.1.name, x39.1.kids)) (cond (p3.op == 40) ((gP n s2.2.1).bind fun x40 => some (x40.2, x40.1.kind, x40.1.name, x40.1.kids)) (cond (p3.op == 41) ((fM n s2.2.1).bind fun x41 => some (x41.2, x41.1.kind, x41.1.name, x41.1.kids)) (cond (p3.op == 42) ((fM n s2.2.1).bind fun x42 => some (x42.2, x42.1.kind, x42.1.name, x42.1.kids)) (cond (p3.op == 43) ((fM n s2.2.1).bind fun x43 => some (x43.2, x43.1.kind, x43.1.name, x43.1.kids)) (cond (p3.op == 44) ((fM n s2.2.1).bind fun x44 => some (x44.2, x44.1.kind, x44.1.name, x44.1.kids)) (cond (p3.op == 45) ((fM n s2.2.1).bind fun x45 => some (x45.2, x45.1.kind, x45.1.name, x45.1.kids)) (cond (p3.op == 46) ((oo n s2.2.1).bind fun x46 => some (x46.2, x46.1.kind, x46.1.name, x46.1.kids)) (cond (p3.op == 47) ((oC n s2.2.1).bind fun x47 => some (x47.2, x47.1.kind, x47.1.name, x47.1.kids)) (cond (p3.op == 48) ((kL n s2.2.1).bind fun x48 => some (x48.2, x48.1.kind, x48.1.name, x48.1.kids)) (cond (p3.op == 49) ((kL n s2.2.1).bind fun x49 => some (x49.2, x49.1.kind, x49.1.name, x49.1.kids)) (cond (p3.op == 50) ((jY n s2.2.1).bind fun x50 => some (x50.2, x50.1.kind, x50.1.name, x50.1.kids)) (cond (p3.op == 51) ((kg n s2.2.1).bind fun x51 => some (x51.2, x51.1.kind, x51.1.name, x51.1.kids)) (cond (p3.op == 52) ((j6 n s2.2.1).bind fun x52 => some (x52.2, x52.1.kind, x52.1.name, x52.1.kids)) (cond (p3.op == 53) ((jZ n s2.2.1).bind fun x53 => some (x53.2, x53.1.kind, x53.1.name, x53.1.kids)) (cond (p3.op == 54) ((kr n s2.2.1).bind fun x54 => some (x54.2, x54.1.kind, x54.1.name, x54.1.kids)) (cond (p3.op == 55) ((sH n s2.2.1).bind fun x55 => some (x55.2, x55.1.kind, x55.1.name, x55.1.kids)) (cond (p3.op == 56) ((qR n s2.2.1).bind fun x56 => some (x56.2, x56.1.kind, x56.1.name, x56.1.kids)) none))))))))))))))))))))))))))))))))))))))))))))))))))))))))) : Option (Bool × Int × Str × (List Ty))).bind fun s4 => (cond (!s4.1) (some ((Ty.mk 0 ([] : Str) ([])), 7, s2.2.2)) ((mo n (Ty.mk s4.2.1 s4.2.2.1 s4.2.2.2)).bind fun x5 => some (x5.1, x5.2, s2.2.2))))))) (fun r => some r)))
def jW (n : Nat) (rec_typing_checker_of : (List (Str × Ty)) → (List (Str × Bool)) → (List Int) → Tm → (List Decl) → Option (Ty × Int × (List Int))) (rec_typing_checker_child : (List (Str × Ty)) → (List (Str × Bool)) → (List Int) → Tm → Int → (List Decl) → Option (Ty × Int × (List Int))) (p0 : List (Str × Ty)) (p1 : List (Str × Bool)) (p2 : List Int) (p3 : Tm) (p4 : Int) (p5 : List Decl) : Option (Ty × Int × (List Int)) := ((app 8 p2 ([p4])).bind fun x1 => ((idx p3.kids p4).bind fun x2 => ((rec_typing_checker_of p0 p1 x1 x2 p5).bind fun x3 => (((cond (x3.2.1 == 0) ((ny x3.2.2 0 (IntKind.wrap .i64 ((x3.2.2.length : Int) - 1))).bind fun x4 => some x4) (some x3.2.2)) : Option (List Int)).bind fun s1 => some (x3.1, x3.2.1, s1)))))
mutual
def gW : Nat → (List (Str × Ty)) → (List (Str × Bool)) → (List Int) → Tm → (List Decl) → Option (Ty × Int × (List Int))
 | 0, _, _, _, _, _ => none
 | n + 1, p0, p1, p2, p3, p4 => lK n (fun p0 p1 p2 p3 p4 => gW n p0 p1 p2 p3 p4) (fun p0 p1 p2 p3 p4 p5 => gH n p0 p1 p2 p3 p4 p5) p0 p1 p2 p3 p4
def gH : Nat → (List (Str × Ty)) → (List (Str × Bool)) → (List Int) → Tm → Int → (List Decl) → Option (Ty × Int × (List Int))
 | 0, _, _, _, _, _, _ => none
 | n + 1, p0, p1, p2, p3, p4, p5 => jW n (fun p0 p1 p2 p3 p4 => gW n p0 p1 p2 p3 p4) (fun p0 p1 p2 p3 p4 p5 => gH n p0 p1 p2 p3 p4 p5) p0 p1 p2 p3 p4 p5
end
def oU (n : Nat) (rec_typing_copyType : Ty → Option Ty) (p0 : Ty) : Nat → (Int × (List Ty)) → Option (LR (List Ty) Ty)
 | 0, _ => none
 | k + 1, s1 => (cond (decide (s1.1 < (p0.kids.length : Int))) ((idx p0.kids s1.1).bind fun x1 => ((rec_typing_copyType x1).bind fun x2 => ((app 48 s1.2 ([x2])).bind fun x3 => oU n rec_typing_copyType p0 k ((s1.1 + 1), x3)))) (some (.nx s1.2)))
def mW (n : Nat) (rec_typing_copyType : Ty → Option Ty) (p0 : Ty) : Option Ty := ((oU n rec_typing_copyType p0 n (0, ([] : List Ty))).bind (LR.el (fun s2 => some (Ty.mk p0.kind p0.name s2)) (fun r => some r)))
def jc : Nat → Ty → Option Ty
 | 0, _ => none
 | n + 1, p0 => mW n (fun p0 => jc n p0) p0
def iy (n : Nat) (p0 : Env) (p1 : Tm) : Option (Ty × (List Int) × Int) := ((((pW n p0).bind fun x5 => (cond (!x5) (some true) ((vM n p1).bind fun x6 => some (!x6)))) : Option Bool).bind fun s1 => (cond s1 (some ((Ty.mk 0 ([] : Str) ([])), ([] : List Int), 1)) ((qp n p0).bind fun x1 => ((gW n x1.1 x1.2 ([] : List Int) p1 ([] : List Decl)).bind fun x2 => (cond (x2.2.1 != 0) ((slices_Clone_int n x2.2.2).bind fun x3 => some ((Ty.mk 0 ([] : Str) ([])), x3, x2.2.1)) ((jc n x2.1).bind fun x4 => some (x4, ([] : List Int), 0)))))))
def Al (n : Nat) (p0 : Int) : Option Bool := (((cond (decide (97 ≤ p0)) (cond (decide (p0 ≤ 122)) (some true) (cond (decide (65 ≤ p0)) (some (decide (p0 ≤ 90))) (some false))) (cond (decide (65 ≤ p0)) (some (decide (p0 ≤ 90))) (some false))) : Option Bool).bind fun s1 => some s1)
def EH (n : Nat) (p0 : Str) (p1 : List Str) : Nat → Int → Option (LR Unit Bool)
 | 0, _ => none
 | k + 1, s1 => (cond (decide (s1 < (p1.length : Int))) ((idx p1 s1).bind fun x1 => (cond (x1 == p0) (some (.rt true)) (EH n p0 p1 k (s1 + 1)))) (some (.nx ())))
def nZ (n : Nat) (p0 : Str) (p1 : List Str) : Option Bool := ((EH n p0 p1 n 0).bind (LR.el (fun s2 => some false) (fun r => some r)))
def Bl (n : Nat) (p0 : Str) : Option Bool := ((nZ n p0 ([([116, 114, 117, 101] : Str), ([102, 97, 108, 115, 101] : Str), ([110, 111, 116] : Str), ([111, 114] : Str), ([102, 111, 114, 97, 108, 108] : Str), ([101, 120, 105, 115, 116, 115] : Str), ([105, 110] : Str), ([110, 111, 116, 105, 110] : Str), ([115, 117, 98] : Str), ([109, 111, 100] : Str), ([102, 117, 110] : Str), ([99, 97, 114, 100] : Str), ([109, 105, 110] : Str), ([109, 97, 120] : Str), ([100, 111, 109] : Str), ([114, 97, 110] : Str), ([80, 79, 87] : Str), ([105, 110, 116] : Str), ([98, 111, 111, 108] : Str), ([115, 101, 116] : Str), ([112, 97, 105, 114] : Str)])).bind fun x1 => some x1)
def Ch (n : Nat) (p0 : Int) : Option Bool := (((cond (decide (48 ≤ p0)) (some (decide (p0 ≤ 57))) (some false)) : Option Bool).bind fun s1 => some s1)
def oq (n : Nat) (p0 : Str) : Nat → Int → Option (LR Unit Bool)
 | 0, _ => none
 | k + 1, s2 => (cond (decide (s2 < (p0.length : Int))) ((((vE p0 s2).bind fun x1 => ((Al n x1).bind fun x2 => (cond (!x2) ((vE p0 s2).bind fun x3 => ((Ch n x3).bind fun x4 => (cond (!x4) ((vE p0 s2).bind fun x5 => some (x5 != 95)) (some false)))) (some false)))) : Option Bool).bind fun s4 => (cond s4 (some (.rt false)) (oq n p0 k (s2 + 1)))) (some (.nx ())))
def gJ (n : Nat) (p0 : Str) : Option Bool := (((cond (decide ((p0.length : Int) < 1)) (some true) (cond (decide (16 < (p0.length : Int))) (some true) ((vE p0 0).bind fun x6 => ((Al n x6).bind fun x7 => (cond (!x7) (some true) ((Bl n p0).bind fun x8 => some x8)))))) : Option Bool).bind fun s1 => (cond s1 (some false) ((oq n p0 n 1).bind (LR.el (fun s3 => some true) (fun r => some r)))))
def vB (n : Nat) (p0 : Str) : Option Bool := (((cond (decide (1 < (p0.length : Int))) ((vE p0 ((p0.length : Int) - 1)).bind fun x1 => (cond (x1 == 39) ((ny p0 0 ((p0.length : Int) - 1)).bind fun x2 => ((gJ n x2).bind fun x3 => some x3)) (some false))) (some false)) : Option Bool).bind fun s1 => some s1)
def wW (n : Nat) (p0 : Str) : Option Bool := ((((gJ n p0).bind fun x1 => (cond x1 (some true) ((vB n p0).bind fun x2 => some x2))) : Option Bool).bind fun s1 => some s1)
def tQ (n : Nat) (rec_R1_typed : Ty → Int → Int → Option Int) (p0 : Ty) (p1 : Int) : Nat → (Int × Int) → Option (LR Int Int)
 | 0, _ => none
 | k + 1, s4 => (cond (decide (s4.2 < (p0.kids.length : Int))) ((idx p0.kids s4.2).bind fun x1 => ((rec_R1_typed x1 (IntKind.wrap .i64 (p1 + 1)) s4.1).bind fun x2 => (cond (decide (x2 < 0)) (some (.rt (-1))) (tQ n rec_R1_typed p0 p1 k (x2, (s4.2 + 1)))))) (some (.nx s4.1)))
def wz (n : Nat) (rec_R1_typed : Ty → Int → Int → Option Int) (p0 : Ty) (p1 : Int) (p2 : Int) : Option Int := (((cond (decide (6 < p1)) (some true) (cond (decide (16 < (IntKind.wrap .i64 (p2 + 1)))) (some true) (cond (p0.kind == 2) (some (decide (1 < p1))) (some false)))) : Option Bool).bind fun s1 => (cond s1 (some (-1)) (((((cond (p0.kind == 1) (some (p0.kind == 1)) (cond (p0.kind == 2) (some (p0.kind == 2)) (some (p0.kind == 3)))) : Option Bool).bind fun s6 => (cond s6 (some (.nx 0)) (cond (p0.kind == 5) (some (.nx 1)) (cond (p0.kind == 4) (some (.nx 2)) (some (.rt (-1))))))) : Option (LR Int Int)).bind (LR.el (fun s2 => (((cond ((p0.kids.length : Int) != s2) (some true) (cond (p0.kind == 3) ((gJ n p0.name).bind fun x3 => (cond (!x3) (some true) (cond (p0.kind != 3) (some (!(p0.name == ([] : Str)))) (some false)))) (cond (p0.kind != 3) (some (!(p0.name == ([] : Str)))) (some false)))) : Option Bool).bind fun s3 => (cond s3 (some (-1)) ((tQ n rec_R1_typed p0 p1 n ((IntKind.wrap .i64 (p2 + 1)), 0)).bind (LR.el (fun s5 => some s5) (fun r => some r)))))) (fun r => some r)))))
def p9 : Nat → Ty → Int → Int → Option Int
 | 0, _, _, _ => none
 | n + 1, p0, p1, p2 => wz n (fun p0 p1 p2 => p9 n p0 p1 p2) p0 p1 p2
def iF (n : Nat) (p0 : Ty) : Option Bool := ((p9 n p0 1 0).bind fun x1 => some (decide (0 < x1)))
def Jo (n : Nat) (p0 : Int) : Option Int := (((cond (p0 == 1) (some true) (cond (p0 == 2) (some true) (cond (p0 == 19) (some true) (cond (p0 == 20) (some true) (some (p0 == 29)))))) : Option Bool).bind fun s1 => (cond s1 (some 0) (((cond (p0 == 3) (some true) (cond (p0 == 21) (some true) (cond (decide (46 ≤ p0)) (some (decide (p0 ≤ 52))) (some false)))) : Option Bool).bind fun s2 => (cond s2 (some 1) (cond (p0 == 28) (some (-1)) (((cond (decide (4 ≤ p0)) (some (decide (p0 ≤ 56))) (some false)) : Option Bool).bind fun s3 => (cond s3 (some 2) (some (-2)))))))))
def kI (n : Nat) (p0 : Int) : Option Bool := (((cond (p0 == 8) (some true) (cond (p0 == 9) (some true) (cond (p0 == 55) (some true) (some (p0 == 56))))) : Option Bool).bind fun s1 => some s1)
def yN (n : Nat) (p0 : Ty) : Option Bool := (((cond (p0.kind == 0) (cond (p0.name == ([] : Str)) (some ((p0.kids.length : Int) == 0)) (some false)) (some false)) : Option Bool).bind fun s1 => some s1)
def IW (n : Nat) (p0 : Tm) : Option Bool := ((Jo n p0.op).bind fun x1 => (((cond (x1 == (-2)) (some true) (cond (x1 == (-1)) (cond ((p0.kids.length : Int) == 0) (some true) (cond (decide (0 ≤ x1)) (some ((p0.kids.length : Int) != x1)) (some false))) (cond (decide (0 ≤ x1)) (some ((p0.kids.length : Int) != x1)) (some false)))) : Option Bool).bind fun s1 => (cond s1 (some false) (((cond (p0.op == 20) ((wW n p0.name).bind fun x4 => (cond (!x4) (some (.rt false)) (some (.nx ())))) ((kI n p0.op).bind fun x5 => (cond x5 ((gJ n p0.name).bind fun x6 => (cond (!x6) (some (.rt false)) (some (.nx ())))) (cond (!(p0.name == ([] : Str))) (some (.rt false)) (some (.nx ())))))) : Option (LR Unit Bool)).bind (LR.el (fun s2 => (((cond (p0.op == 19) (cond (decide (p0.n < 0)) (some true) (cond (decide (1000000000 < p0.n)) (some true) (cond (p0.op != 19) (some (p0.n != 0)) (some false)))) (cond (p0.op != 19) (some (p0.n != 0)) (some false))) : Option Bool).bind fun s3 => (cond s3 (some false) (cond (p0.op == 29) ((((iF n p0.ty).bind fun x2 => (cond x2 (some (p0.ty.kind != 2)) (some false))) : Option Bool).bind fun s4 => some s4) ((yN n p0.ty).bind fun x3 => some x3))))) (fun r => some r))))))
def y9 (n : Nat) (rec_R1_nodes : Tm → Int → Int → Option Int) (p0 : Tm) (p1 : Int) : Nat → (Int × Int) → Option (LR Int Int)
 | 0, _ => none
 | k + 1, s2 => (cond (decide (s2.2 < (p0.kids.length : Int))) ((idx p0.kids s2.2).bind fun x1 => ((rec_R1_nodes x1 (IntKind.wrap .i64 (p1 + 1)) s2.1).bind fun x2 => (cond (decide (x2 < 0)) (some (.rt (-1))) (y9 n rec_R1_nodes p0 p1 k (x2, (s2.2 + 1)))))) (some (.nx s2.1)))
def wu (n : Nat) (rec_R1_nodes : Tm → Int → Int → Option Int) (p0 : Tm) (p1 : Int) (p2 : Int) : Option Int := (((cond (decide (64 < p1)) (some true) (cond (decide (2000 < (IntKind.wrap .i64 (p2 + 1)))) (some true) ((IW n p0).bind fun x3 => some (!x3)))) : Option Bool).bind fun s1 => (cond s1 (some (-1)) ((y9 n rec_R1_nodes p0 p1 n ((IntKind.wrap .i64 (p2 + 1)), 0)).bind (LR.el (fun s3 => some s3) (fun r => some r)))))
def rz : Nat → Tm → Int → Int → Option Int
 | 0, _, _, _ => none
 | n + 1, p0, p1, p2 => wu n (fun p0 p1 p2 => rz n p0 p1 p2) p0 p1 p2
def l6 (n : Nat) (p0 : Tm) : Option Bool := ((rz n p0 1 0).bind fun x1 => some (decide (0 < x1)))
def qZ (n : Nat) (rec_R1_SameType : Ty → Ty → Option Bool) (p0 : Ty) (p1 : Ty) : Nat → Int → Option (LR Unit Bool)
 | 0, _ => none
 | k + 1, s2 => (cond (decide (s2 < (p0.kids.length : Int))) ((idx p0.kids s2).bind fun x1 => ((idx p1.kids s2).bind fun x2 => ((rec_R1_SameType x1 x2).bind fun x3 => (cond (!x3) (some (.rt false)) (qZ n rec_R1_SameType p0 p1 k (s2 + 1)))))) (some (.nx ())))
def lZ (n : Nat) (rec_R1_SameType : Ty → Ty → Option Bool) (p0 : Ty) (p1 : Ty) : Option Bool := (((cond (p0.kind != p1.kind) (some true) (cond (!(p0.name == p1.name)) (some true) (some ((p0.kids.length : Int) != (p1.kids.length : Int))))) : Option Bool).bind fun s1 => (cond s1 (some false) ((qZ n rec_R1_SameType p0 p1 n 0).bind (LR.el (fun s3 => some true) (fun r => some r)))))
def bO : Nat → Ty → Ty → Option Bool
 | 0, _, _ => none
 | n + 1, p0, p1 => lZ n (fun p0 p1 => bO n p0 p1) p0 p1
def uO (n : Nat) (rec_R1_CopyType : Ty → Option Ty) (p0 : Ty) : Nat → (Int × (List Ty)) → Option (LR (List Ty) Ty)
 | 0, _ => none
 | k + 1, s1 => (cond (decide (s1.1 < (p0.kids.length : Int))) ((idx p0.kids s1.1).bind fun x1 => ((rec_R1_CopyType x1).bind fun x2 => ((app 48 s1.2 ([x2])).bind fun x3 => uO n rec_R1_CopyType p0 k ((s1.1 + 1), x3)))) (some (.nx s1.2)))
def rM (n : Nat) (rec_R1_CopyType : Ty → Option Ty) (p0 : Ty) : Option Ty := ((uO n rec_R1_CopyType p0 n (0, ([] : List Ty))).bind (LR.el (fun s2 => some (Ty.mk p0.kind p0.name s2)) (fun r => some r)))
def kN : Nat → Ty → Option Ty
 | 0, _ => none
 | n + 1, p0 => rM n (fun p0 => kN n p0) p0
def typing_Expression (n : Nat) (p0 : Env) (p1 : Tm) : Option (Ty × Int) := ((iy n p0 p1).bind fun x1 => (((cond (x1.2.2 == 0) (some (x1.1.kind == 2)) (some false)) : Option Bool).bind fun s1 => (cond s1 (some ((Ty.mk 0 ([] : Str) ([])), 7)) (some (x1.1, x1.2.2)))))
end Abs
end Go.Proofs.YtiiaccpcoclklaaGreat
