/-
  The plain functions of the program (printed by gen.py). Conditions: none.
-/
import Derived.Test.YtiiaccpcoclklaaGreatCAbs35x3c9c9d
set_option linter.unusedSimpArgs false
set_option linter.unusedVariables false
namespace Go.Proofs.YtiiaccpcoclklaaGreat
namespace Abs
open Go Go.Proofs
set_option maxRecDepth 100000
set_option maxHeartbeats 40000000
def Bc (n : Nat) (p0 : Env) : Nat → Int → Option (LR Unit Bool)
 | 0, _ => none
 | k + 1, s2 => (cond (decide (s2 < (p0.carriers.length : Int))) ((idx p0.carriers s2).bind fun x1 => (cond (decide (200 < (x1.elems.length : Int))) (some (.rt false)) (Bc n p0 k (s2 + 1)))) (some (.nx ())))
def jW (n : Nat) (p0 : Env) : Option Bool := (((cond (decide (200 < (p0.carriers.length : Int))) (some true) (some (decide (200 < (p0.names.length : Int))))) : Option Bool).bind fun s1 => (cond s1 (some false) ((Bc n p0 n 0).bind (LR.el (fun s3 => some true) (fun r => some r)))))
def y5 (n : Nat) (p0 : Int) : Option Bool := (((cond (decide (97 ≤ p0)) (cond (decide (p0 ≤ 122)) (some true) (cond (decide (65 ≤ p0)) (some (decide (p0 ≤ 90))) (some false))) (cond (decide (65 ≤ p0)) (some (decide (p0 ≤ 90))) (some false))) : Option Bool).bind fun s1 => some s1)
def zD (n : Nat) (p0 : Str) : Option Bool := (((cond (p0 == ([116, 114, 117, 101] : Str)) (some (p0 == ([116, 114, 117, 101] : Str))) (cond (p0 == ([102, 97, 108, 115, 101] : Str)) (some (p0 == ([102, 97, 108, 115, 101] : Str))) (cond (p0 == ([110, 111, 116] : Str)) (some (p0 == ([110, 111, 116] : Str))) (cond (p0 == ([111, 114] : Str)) (some (p0 == ([111, 114] : Str))) (cond (p0 == ([102, 111, 114, 97, 108, 108] : Str)) (some (p0 == ([102, 111, 114, 97, 108, 108] : Str))) (cond (p0 == ([101, 120, 105, 115, 116, 115] : Str)) (some (p0 == ([101, 120, 105, 115, 116, 115] : Str))) (cond (p0 == ([105, 110] : Str)) (some (p0 == ([105, 110] : Str))) (cond (p0 == ([110, 111, 116, 105, 110] : Str)) (some (p0 == ([110, 111, 116, 105, 110] : Str))) (cond (p0 == ([115, 117, 98] : Str)) (some (p0 == ([115, 117, 98] : Str))) (cond (p0 == ([109, 111, 100] : Str)) (some (p0 == ([109, 111, 100] : Str))) (cond (p0 == ([102, 117, 110] : Str)) (some (p0 == ([102, 117, 110] : Str))) (cond (p0 == ([99, 97, 114, 100] : Str)) (some (p0 == ([99, 97, 114, 100] : Str))) (cond (p0 == ([109, 105, 110] : Str)) (some (p0 == ([109, 105, 110] : Str))) (cond (p0 == ([109, 97, 120] : Str)) (some (p0 == ([109, 97, 120] : Str))) (cond (p0 == ([100, 111, 109] : Str)) (some (p0 == ([100, 111, 109] : Str))) (cond (p0 == ([114, 97, 110] : Str)) (some (p0 == ([114, 97, 110] : Str))) (cond (p0 == ([80, 79, 87] : Str)) (some (p0 == ([80, 79, 87] : Str))) (cond (p0 == ([105, 110, 116] : Str)) (some (p0 == ([105, 110, 116] : Str))) (cond (p0 == ([98, 111, 111, 108] : Str)) (some (p0 == ([98, 111, 111, 108] : Str))) (cond (p0 == ([115, 101, 116] : Str)) (some (p0 == ([115, 101, 116] : Str))) (some (p0 == ([112, 97, 105, 114] : Str))))))))))))))))))))))) : Option Bool).bind fun s1 => (cond s1 (some true) (some false)))
def Dv (n : Nat) (p0 : Int) : Option Bool := (((cond (decide (48 ≤ p0)) (some (decide (p0 ≤ 57))) (some false)) : Option Bool).bind fun s1 => some s1)
def Bb (n : Nat) (p0 : Int) : Option Bool := ((((y5 n p0).bind fun x1 => (cond x1 (some true) ((Dv n p0).bind fun x2 => (cond x2 (some true) (some (p0 == 95)))))) : Option Bool).bind fun s1 => some s1)
def nJ (n : Nat) (p0 : Str) : Nat → Int → Option (LR Unit Bool)
 | 0, _ => none
 | k + 1, s2 => (cond (decide (s2 < (p0.length : Int))) ((xG p0 s2).bind fun x1 => ((Bb n x1).bind fun x2 => (cond (!x2) (some (.rt false)) (nJ n p0 k (s2 + 1))))) (some (.nx ())))
def gu (n : Nat) (p0 : Str) : Option Bool := (((cond (p0 == ([] : Str)) (some true) (cond (decide (16 < (p0.length : Int))) (some true) ((xG p0 0).bind fun x3 => ((y5 n x3).bind fun x4 => (cond (!x4) (some true) ((zD n p0).bind fun x5 => some x5)))))) : Option Bool).bind fun s1 => (cond s1 (some false) ((nJ n p0 n 0).bind (LR.el (fun s3 => some true) (fun r => some r)))))
def kS (n : Nat) (p0 : Str) (p1 : Str) : Option Bool := (((cond (decide ((p1.length : Int) ≤ (p0.length : Int))) ((mZ p0 (IntKind.wrap .i64 ((p0.length : Int) - (p1.length : Int))) (p0.length : Int)).bind fun x1 => some (x1 == p1)) (some false)) : Option Bool).bind fun s1 => some s1)
def kE (n : Nat) (p0 : Str) (p1 : Str) : Option Str := ((kS n p0 p1).bind fun x1 => (cond x1 ((mZ p0 0 (IntKind.wrap .i64 ((p0.length : Int) - (p1.length : Int)))).bind fun x2 => some x2) (some p0)))
def strings_TrimSuffix (n : Nat) (p0 : Str) (p1 : Str) : Option Str := ((kE n p0 p1).bind fun x1 => some x1)
def oC (n : Nat) (p0 : Str) : Option Bool := ((strings_TrimSuffix n p0 ([39] : Str)).bind fun x1 => ((gu n x1).bind fun x2 => some x2))
def jP (n : Nat) (p0 : Int) (p1 : Int) (p2 : Int) (p3 : Int) : Option (Bool × Int) := (((cond (decide ((IntKind.wrap .i64 (p0 + 1)) ≤ p1)) (some (decide (p3 ≤ p2))) (some false)) : Option Bool).bind fun s1 => some (s1, (IntKind.wrap .i64 (p0 + 1))))
def lJ (n : Nat) (rec_slices_IndexFunc_Type : (List Ty) → Int → Int → Int → Int → Option (Int × Int)) (rec_slices_ContainsFunc_Type : (List Ty) → Int → Int → Int → Int → Option (Bool × Int)) (rec_term_measure_typeFits : Int → Int → Int → Ty → Int → Bool → Option (Bool × Int)) (rec_term_measure_typeFits_1 : Ty → Int → Int → Int → Int → Option (Bool × Int)) (p0 : List Ty) (p2 : Int) (p3 : Int) (p4 : Int) : Nat → (Int × Int) → Option (LR Int (Int × Int))
 | 0, _ => none
 | k + 1, s1 => (cond (decide (s1.1 < (p0.length : Int))) ((idx p0 s1.1).bind fun x1 => ((rec_term_measure_typeFits_1 x1 s1.2 p2 p3 p4).bind fun x2 => (cond x2.1 (some (.rt (s1.1, x2.2))) (lJ n rec_slices_IndexFunc_Type rec_slices_ContainsFunc_Type rec_term_measure_typeFits rec_term_measure_typeFits_1 p0 p2 p3 p4 k ((s1.1 + 1), x2.2))))) (some (.nx s1.2)))
def gQ (n : Nat) (rec_slices_IndexFunc_Type : (List Ty) → Int → Int → Int → Int → Option (Int × Int)) (rec_slices_ContainsFunc_Type : (List Ty) → Int → Int → Int → Int → Option (Bool × Int)) (rec_term_measure_typeFits : Int → Int → Int → Ty → Int → Bool → Option (Bool × Int)) (rec_term_measure_typeFits_1 : Ty → Int → Int → Int → Int → Option (Bool × Int)) (p0 : List Ty) (p1 : Int) (p2 : Int) (p3 : Int) (p4 : Int) : Option (Int × Int) := ((lJ n rec_slices_IndexFunc_Type rec_slices_ContainsFunc_Type rec_term_measure_typeFits rec_term_measure_typeFits_1 p0 p2 p3 p4 n (0, p1)).bind (LR.el (fun s2 => some ((-1), s2)) (fun r => some r)))
def jg (n : Nat) (rec_slices_IndexFunc_Type : (List Ty) → Int → Int → Int → Int → Option (Int × Int)) (rec_slices_ContainsFunc_Type : (List Ty) → Int → Int → Int → Int → Option (Bool × Int)) (rec_term_measure_typeFits : Int → Int → Int → Ty → Int → Bool → Option (Bool × Int)) (rec_term_measure_typeFits_1 : Ty → Int → Int → Int → Int → Option (Bool × Int)) (p0 : List Ty) (p1 : Int) (p2 : Int) (p3 : Int) (p4 : Int) : Option (Bool × Int) := ((rec_slices_IndexFunc_Type p0 p1 p2 p3 p4).bind fun x1 => some ((decide (0 ≤ x1.1)), x1.2))
def kg (n : Nat) (rec_slices_IndexFunc_Type : (List Ty) → Int → Int → Int → Int → Option (Int × Int)) (rec_slices_ContainsFunc_Type : (List Ty) → Int → Int → Int → Int → Option (Bool × Int)) (rec_term_measure_typeFits : Int → Int → Int → Ty → Int → Bool → Option (Bool × Int)) (rec_term_measure_typeFits_1 : Ty → Int → Int → Int → Int → Option (Bool × Int)) (p0 : Int) (p1 : Int) (p2 : Int) (p3 : Ty) (p4 : Int) (p5 : Bool) : Option (Bool × Int) := ((jP n p0 p1 p2 p4).bind fun x1 => (cond (!x1.1) (some (false, x1.2)) (((cond (p3.kind == 1) (some (.nx 0)) (cond (p3.kind == 2) (cond p5 (some (.rt (false, x1.2))) (some (.nx 0))) (cond (p3.kind == 3) ((gu n p3.name).bind fun x3 => (cond (!x3) (some (.rt (false, x1.2))) (some (.nx 0)))) (cond (p3.kind == 4) (some (.nx 2)) (cond (p3.kind == 5) (some (.nx 1)) (some (.rt (false, x1.2)))))))) : Option (LR Int (Bool × Int))).bind (LR.el (fun s1 => (((cond ((p3.kids.length : Int) != s1) (some true) (cond (p3.kind != 3) (some (!(p3.name == ([] : Str)))) (some false))) : Option Bool).bind fun s2 => (cond s2 (some (false, x1.2)) ((rec_slices_ContainsFunc_Type p3.kids x1.2 p1 p2 p4).bind fun x2 => some ((!x2.1), x2.2))))) (fun r => some r)))))
def jr (n : Nat) (rec_slices_IndexFunc_Type : (List Ty) → Int → Int → Int → Int → Option (Int × Int)) (rec_slices_ContainsFunc_Type : (List Ty) → Int → Int → Int → Int → Option (Bool × Int)) (rec_term_measure_typeFits : Int → Int → Int → Ty → Int → Bool → Option (Bool × Int)) (rec_term_measure_typeFits_1 : Ty → Int → Int → Int → Int → Option (Bool × Int)) (p0 : Ty) (p1 : Int) (p2 : Int) (p3 : Int) (p4 : Int) : Option (Bool × Int) := ((rec_term_measure_typeFits p1 p2 p3 p0 (IntKind.wrap .i64 (p4 + 1)) true).bind fun x1 => some ((!x1.1), x1.2))
mutual
def gN : Nat → (List Ty) → Int → Int → Int → Int → Option (Int × Int)
 | 0, _, _, _, _, _ => none
 | n + 1, p0, p1, p2, p3, p4 => gQ n (fun p0 p1 p2 p3 p4 => gN n p0 p1 p2 p3 p4) (fun p0 p1 p2 p3 p4 => dU n p0 p1 p2 p3 p4) (fun p0 p1 p2 p3 p4 p5 => fF n p0 p1 p2 p3 p4 p5) (fun p0 p1 p2 p3 p4 => dX n p0 p1 p2 p3 p4) p0 p1 p2 p3 p4
def dU : Nat → (List Ty) → Int → Int → Int → Int → Option (Bool × Int)
 | 0, _, _, _, _, _ => none
 | n + 1, p0, p1, p2, p3, p4 => jg n (fun p0 p1 p2 p3 p4 => gN n p0 p1 p2 p3 p4) (fun p0 p1 p2 p3 p4 => dU n p0 p1 p2 p3 p4) (fun p0 p1 p2 p3 p4 p5 => fF n p0 p1 p2 p3 p4 p5) (fun p0 p1 p2 p3 p4 => dX n p0 p1 p2 p3 p4) p0 p1 p2 p3 p4
def fF : Nat → Int → Int → Int → Ty → Int → Bool → Option (Bool × Int)
 | 0, _, _, _, _, _, _ => none
 | n + 1, p0, p1, p2, p3, p4, p5 => kg n (fun p0 p1 p2 p3 p4 => gN n p0 p1 p2 p3 p4) (fun p0 p1 p2 p3 p4 => dU n p0 p1 p2 p3 p4) (fun p0 p1 p2 p3 p4 p5 => fF n p0 p1 p2 p3 p4 p5) (fun p0 p1 p2 p3 p4 => dX n p0 p1 p2 p3 p4) p0 p1 p2 p3 p4 p5
def dX : Nat → Ty → Int → Int → Int → Int → Option (Bool × Int)
 | 0, _, _, _, _, _ => none
 | n + 1, p0, p1, p2, p3, p4 => jr n (fun p0 p1 p2 p3 p4 => gN n p0 p1 p2 p3 p4) (fun p0 p1 p2 p3 p4 => dU n p0 p1 p2 p3 p4) (fun p0 p1 p2 p3 p4 p5 => fF n p0 p1 p2 p3 p4 p5) (fun p0 p1 p2 p3 p4 => dX n p0 p1 p2 p3 p4) p0 p1 p2 p3 p4
end
def kJ (n : Nat) (p0 : Ty) : Option Bool := ((fF n 0 16 6 p0 1 false).bind fun x1 => some x1.1)
def ku (n : Nat) (rec_slices_IndexFunc_Type_1 : (List Ty) → Int → Option Int) (rec_slices_ContainsFunc_Type_1 : (List Ty) → Int → Option Bool) (rec_typing_contains : Ty → Int → Option Bool) (rec_typing_contains_1 : Ty → Int → Option Bool) (p0 : List Ty) (p1 : Int) : Nat → Int → Option (LR Unit Int)
 | 0, _ => none
 | k + 1, s1 => (cond (decide (s1 < (p0.length : Int))) ((idx p0 s1).bind fun x1 => ((rec_typing_contains_1 x1 p1).bind fun x2 => (cond x2 (some (.rt s1)) (ku n rec_slices_IndexFunc_Type_1 rec_slices_ContainsFunc_Type_1 rec_typing_contains rec_typing_contains_1 p0 p1 k (s1 + 1))))) (some (.nx ())))
def jo (n : Nat) (rec_slices_IndexFunc_Type_1 : (List Ty) → Int → Option Int) (rec_slices_ContainsFunc_Type_1 : (List Ty) → Int → Option Bool) (rec_typing_contains : Ty → Int → Option Bool) (rec_typing_contains_1 : Ty → Int → Option Bool) (p0 : List Ty) (p1 : Int) : Option Int := ((ku n rec_slices_IndexFunc_Type_1 rec_slices_ContainsFunc_Type_1 rec_typing_contains rec_typing_contains_1 p0 p1 n 0).bind (LR.el (fun s2 => some (-1)) (fun r => some r)))
def iM (n : Nat) (rec_slices_IndexFunc_Type_1 : (List Ty) → Int → Option Int) (rec_slices_ContainsFunc_Type_1 : (List Ty) → Int → Option Bool) (rec_typing_contains : Ty → Int → Option Bool) (rec_typing_contains_1 : Ty → Int → Option Bool) (p0 : List Ty) (p1 : Int) : Option Bool := ((rec_slices_IndexFunc_Type_1 p0 p1).bind fun x1 => some (decide (0 ≤ x1)))
def oO (n : Nat) (rec_slices_IndexFunc_Type_1 : (List Ty) → Int → Option Int) (rec_slices_ContainsFunc_Type_1 : (List Ty) → Int → Option Bool) (rec_typing_contains : Ty → Int → Option Bool) (rec_typing_contains_1 : Ty → Int → Option Bool) (p0 : Ty) (p1 : Int) : Option Bool := (((cond (p0.kind == p1) (some true) ((rec_slices_ContainsFunc_Type_1 p0.kids p1).bind fun x1 => some x1)) : Option Bool).bind fun s1 => some s1)
def mY (n : Nat) (rec_slices_IndexFunc_Type_1 : (List Ty) → Int → Option Int) (rec_slices_ContainsFunc_Type_1 : (List Ty) → Int → Option Bool) (rec_typing_contains : Ty → Int → Option Bool) (rec_typing_contains_1 : Ty → Int → Option Bool) (p0 : Ty) (p1 : Int) : Option Bool := ((rec_typing_contains p0 p1).bind fun x1 => some x1)
mutual
def gX : Nat → (List Ty) → Int → Option Int
 | 0, _, _ => none
 | n + 1, p0, p1 => jo n (fun p0 p1 => gX n p0 p1) (fun p0 p1 => eZ n p0 p1) (fun p0 p1 => iU n p0 p1) (fun p0 p1 => iK n p0 p1) p0 p1
def eZ : Nat → (List Ty) → Int → Option Bool
 | 0, _, _ => none
 | n + 1, p0, p1 => iM n (fun p0 p1 => gX n p0 p1) (fun p0 p1 => eZ n p0 p1) (fun p0 p1 => iU n p0 p1) (fun p0 p1 => iK n p0 p1) p0 p1
def iU : Nat → Ty → Int → Option Bool
 | 0, _, _ => none
 | n + 1, p0, p1 => oO n (fun p0 p1 => gX n p0 p1) (fun p0 p1 => eZ n p0 p1) (fun p0 p1 => iU n p0 p1) (fun p0 p1 => iK n p0 p1) p0 p1
def iK : Nat → Ty → Int → Option Bool
 | 0, _, _ => none
 | n + 1, p0, p1 => mY n (fun p0 p1 => gX n p0 p1) (fun p0 p1 => eZ n p0 p1) (fun p0 p1 => iU n p0 p1) (fun p0 p1 => iK n p0 p1) p0 p1
end
def iJ (n : Nat) (p0 : Ty) : Option Bool := ((((kJ n p0).bind fun x1 => (cond x1 ((iU n p0 2).bind fun x2 => some (!x2)) (some false))) : Option Bool).bind fun s1 => some s1)
def o7 (n : Nat) (rec_typing_collect : Ty → (List (Str × Bool)) → Option (List (Str × Bool))) (p0 : Ty) : Nat → (Int × (List (Str × Bool))) → Option (LR (List (Str × Bool)) (List (Str × Bool)))
 | 0, _ => none
 | k + 1, s2 => (cond (decide (s2.1 < (p0.kids.length : Int))) ((idx p0.kids s2.1).bind fun x1 => ((rec_typing_collect x1 s2.2).bind fun x2 => o7 n rec_typing_collect p0 k ((s2.1 + 1), x2))) (some (.nx s2.2)))
def pQ (n : Nat) (rec_typing_collect : Ty → (List (Str × Bool)) → Option (List (Str × Bool))) (p0 : Ty) (p1 : List (Str × Bool)) : Option (List (Str × Bool)) := (((cond (p0.kind == 3) ((zR p1 p0.name true).bind fun x3 => some x3) (some p1)) : Option (List (Str × Bool))).bind fun s1 => ((o7 n rec_typing_collect p0 n (0, s1)).bind (LR.el (fun s3 => some s3) (fun r => some r))))
def kG : Nat → Ty → (List (Str × Bool)) → Option (List (Str × Bool))
 | 0, _, _ => none
 | n + 1, p0, p1 => pQ n (fun p0 p1 => kG n p0 p1) p0 p1
def kR (n : Nat) (p0 : Ty) : Option (List Str) := ((kJ n p0).bind fun x1 => (cond (!x1) (some ([] : List Str)) ((kG n p0 ([] : List (Str × Bool))).bind fun x2 => ((sM n x2).bind fun x3 => some x3))))
def En (n : Nat) (p0 : Carrier) (p1 : Str) : Option Bool := some (p0.name == p1)
def jQ (n : Nat) (p0 : List Carrier) (p1 : Str) : Nat → Int → Option (LR Unit Int)
 | 0, _ => none
 | k + 1, s1 => (cond (decide (s1 < (p0.length : Int))) ((idx p0 s1).bind fun x1 => (cond (x1.name == p1) (some (.rt s1)) (jQ n p0 p1 k (s1 + 1)))) (some (.nx ())))
def oU (n : Nat) (p0 : List Carrier) (p1 : Str) : Option Int := ((jQ n p0 p1 n 0).bind (LR.el (fun s2 => some (-1)) (fun r => some r)))
def mF (n : Nat) (p0 : List Carrier) (p1 : Str) : Option Bool := ((oU n p0 p1).bind fun x1 => some (decide (0 ≤ x1)))
def rW (n : Nat) (p0 : Env) (p1 : Str) : Option Bool := ((mF n p0.carriers p1).bind fun x1 => some x1)
def rP (n : Nat) (p0 : Str) (p1 : List Carrier) (p2 : List Decl) : Option Bool := ((rW n (Env.mk p1 p2) p0).bind fun x1 => some (!x1))
def ko (n : Nat) (p0 : List Str) (p1 : List Carrier) (p2 : List Decl) : Nat → Int → Option (LR Unit Int)
 | 0, _ => none
 | k + 1, s1 => (cond (decide (s1 < (p0.length : Int))) ((idx p0 s1).bind fun x1 => ((rP n x1 p1 p2).bind fun x2 => (cond x2 (some (.rt s1)) (ko n p0 p1 p2 k (s1 + 1))))) (some (.nx ())))
def pK (n : Nat) (p0 : List Str) (p1 : List Carrier) (p2 : List Decl) : Option Int := ((ko n p0 p1 p2 n 0).bind (LR.el (fun s2 => some (-1)) (fun r => some r)))
def nu (n : Nat) (p0 : List Str) (p1 : List Carrier) (p2 : List Decl) : Option Bool := ((pK n p0 p1 p2).bind fun x1 => some (decide (0 ≤ x1)))
def mH (n : Nat) (p0 : Env) (p1 : Ty) : Option Bool := ((kR n p1).bind fun x1 => ((nu n x1 p0.carriers p0.names).bind fun x2 => some (!x2)))
def qC (n : Nat) (p0 : Env) : Nat → ((List Str) × Int) → Option (LR (List Str) (List Str))
 | 0, _ => none
 | k + 1, s1 => (cond (decide (s1.2 < (p0.carriers.length : Int))) ((idx p0.carriers s1.2).bind fun x3 => ((app 16 s1.1 ([x3.name])).bind fun x4 => ((app 16 x4 x3.elems).bind fun x5 => qC n p0 k (x5, (s1.2 + 1))))) (some (.nx s1.1)))
def qx (n : Nat) (p0 : Env) : Nat → ((List Str) × Int) → Option (LR (List Str) (List Str))
 | 0, _ => none
 | k + 1, s3 => (cond (decide (s3.2 < (p0.names.length : Int))) ((idx p0.names s3.2).bind fun x1 => ((app 16 s3.1 ([x1.name])).bind fun x2 => qx n p0 k (x2, (s3.2 + 1)))) (some (.nx s3.1)))
def oq (n : Nat) (p0 : Env) : Option (List Str) := ((qC n p0 n (([] : List Str), 0)).bind (LR.el (fun s2 => ((qx n p0 n (s2, 0)).bind (LR.el (fun s4 => some s4) (fun r => some r)))) (fun r => some r)))
def qH (n : Nat) (p0 : List Str) : Nat → (Int × (List (Str × Bool))) → Option (LR Unit Bool)
 | 0, _ => none
 | k + 1, s1 => (cond (decide (s1.1 < (p0.length : Int))) ((idx p0 s1.1).bind fun x1 => (((Zy (fC s1.2 x1) (some false) (fun x3 => some x3)) : Option Bool).bind fun s3 => (cond s3 (some (.rt false)) ((zR s1.2 x1 true).bind fun x2 => qH n p0 k ((s1.1 + 1), x2))))) (some (.nx ())))
def qZ (n : Nat) (p0 : List Str) : Option Bool := ((qH n p0 n (0, ([] : List (Str × Bool)))).bind (LR.el (fun s2 => some true) (fun r => some r)))
def lI (n : Nat) (x7 : Carrier) : Nat → Int → Option (LR Unit Bool)
 | 0, _ => none
 | k + 1, s8 => (cond (decide (s8 < (x7.elems.length : Int))) ((idx x7.elems s8).bind fun x8 => ((gu n x8).bind fun x9 => (cond (!x9) (some (.rt false)) (lI n x7 k (s8 + 1))))) (some (.nx ())))
def qy (n : Nat) (p0 : Env) : Nat → Int → Option (LR Unit Bool)
 | 0, _ => none
 | k + 1, s2 => (cond (decide (s2 < (p0.carriers.length : Int))) ((idx p0.carriers s2).bind fun x7 => ((((gu n x7.name).bind fun x10 => (cond (!x10) (some true) (some (decide (8 < (x7.elems.length : Int)))))) : Option Bool).bind fun s7 => (cond s7 (some (.rt false)) ((lI n x7 n 0).bind (LR.el (fun s9 => qy n p0 k (s2 + 1)) (fun r => some (.rt r))))))) (some (.nx ())))
def qN (n : Nat) (p0 : Env) : Nat → Int → Option (LR Unit Bool)
 | 0, _ => none
 | k + 1, s4 => (cond (decide (s4 < (p0.names.length : Int))) ((idx p0.names s4).bind fun x3 => ((((oC n x3.name).bind fun x4 => (cond (!x4) (some true) ((iJ n x3.ty).bind fun x5 => (cond (!x5) (some true) ((mH n p0 x3.ty).bind fun x6 => some (!x6)))))) : Option Bool).bind fun s6 => (cond s6 (some (.rt false)) (qN n p0 k (s4 + 1))))) (some (.nx ())))
def iB (n : Nat) (p0 : Env) : Option Bool := (((cond (decide (8 < (p0.carriers.length : Int))) (some true) (some (decide (64 < (p0.names.length : Int))))) : Option Bool).bind fun s1 => (cond s1 (some false) ((qy n p0 n 0).bind (LR.el (fun s3 => ((qN n p0 n 0).bind (LR.el (fun s5 => ((oq n p0).bind fun x1 => ((qZ n x1).bind fun x2 => some x2))) (fun r => some r)))) (fun r => some r)))))
def E9 (n : Nat) (p0 : Int) : Option (Int × Bool) := (((cond (p0 == 1) (some (p0 == 1)) (cond (p0 == 2) (some (p0 == 2)) (cond (p0 == 19) (some (p0 == 19)) (cond (p0 == 20) (some (p0 == 20)) (some (p0 == 29)))))) : Option Bool).bind fun s1 => (cond s1 (some (0, true)) (((cond (p0 == 3) (some (p0 == 3)) (cond (p0 == 21) (some (p0 == 21)) (((cond (decide (46 ≤ p0)) (some (decide (p0 ≤ 51))) (some false)) : Option Bool).bind fun s4 => (cond s4 (some s4) (some (p0 == 52)))))) : Option Bool).bind fun s2 => (cond s2 (some (1, true)) (cond (p0 == 28) (some ((-1), true)) (((cond (decide (1 ≤ p0)) (some (decide (p0 ≤ 56))) (some false)) : Option Bool).bind fun s3 => (cond s3 (some (2, true)) (some (0, false)))))))))
def Gw (n : Nat) (p0 : Str) : Option Bool := ((strings_TrimSuffix n p0 ([39] : Str)).bind fun x1 => ((gu n x1).bind fun x2 => some x2))
def yU (n : Nat) (p0 : Int) : Option Bool := (((cond (p0 == 8) (some true) (cond (p0 == 9) (some true) (cond (p0 == 55) (some true) (some (p0 == 56))))) : Option Bool).bind fun s1 => some s1)
def yB (n : Nat) (p0 : Ty) : Option Bool := (((cond (p0.kind == 0) (cond (p0.name == ([] : Str)) (some ((p0.kids.length : Int) == 0)) (some false)) (some false)) : Option Bool).bind fun s1 => some s1)
def BG (n : Nat) (p0 : Tm) : Option Bool := ((E9 n p0.op).bind fun x1 => (((((cond (!x1.2) (some (!x1.2)) (((cond (x1.1 == (-1)) (some ((p0.kids.length : Int) == 0)) (some false)) : Option Bool).bind fun s6 => (cond s6 (some s6) (cond (x1.1 != (-1)) (some ((p0.kids.length : Int) != x1.1)) (some false))))) : Option Bool).bind fun s5 => (cond s5 (some (.rt false)) (cond (p0.op == 20) ((Gw n p0.name).bind fun x4 => some (.nx x4)) ((yU n p0.op).bind fun x5 => (cond x5 ((gu n p0.name).bind fun x6 => some (.nx x6)) (some (.nx (p0.name == ([] : Str))))))))) : Option (LR Bool Bool)).bind (LR.el (fun s1 => (((cond (p0.op == 19) (cond s1 (cond (decide (0 ≤ p0.n)) (some (decide (p0.n ≤ 1000000000))) (some false)) (some false)) (cond s1 (some (p0.n == 0)) (some false))) : Option Bool).bind fun s2 => (cond (p0.op == 29) (((cond s2 (cond (p0.ty.kind != 2) ((kJ n p0.ty).bind fun x2 => some x2) (some false)) (some false)) : Option Bool).bind fun s3 => some s3) (((cond s2 ((yB n p0.ty).bind fun x3 => some x3) (some false)) : Option Bool).bind fun s4 => some s4)))) (fun r => some r))))
def lH (n : Nat) (rec_slices_IndexFunc_Term : (List Tm) → Int → Int → Int → Int → Option (Int × Int)) (rec_slices_ContainsFunc_Term : (List Tm) → Int → Int → Int → Int → Option (Bool × Int)) (rec_term_measure_fits : Int → Int → Int → Tm → Int → Option (Bool × Int)) (rec_term_measure_fits_1 : Tm → Int → Int → Int → Int → Option (Bool × Int)) (p0 : List Tm) (p2 : Int) (p3 : Int) (p4 : Int) : Nat → (Int × Int) → Option (LR Int (Int × Int))
 | 0, _ => none
 | k + 1, s1 => (cond (decide (s1.1 < (p0.length : Int))) ((idx p0 s1.1).bind fun x1 => ((rec_term_measure_fits_1 x1 s1.2 p2 p3 p4).bind fun x2 => (cond x2.1 (some (.rt (s1.1, x2.2))) (lH n rec_slices_IndexFunc_Term rec_slices_ContainsFunc_Term rec_term_measure_fits rec_term_measure_fits_1 p0 p2 p3 p4 k ((s1.1 + 1), x2.2))))) (some (.nx s1.2)))
def gU (n : Nat) (rec_slices_IndexFunc_Term : (List Tm) → Int → Int → Int → Int → Option (Int × Int)) (rec_slices_ContainsFunc_Term : (List Tm) → Int → Int → Int → Int → Option (Bool × Int)) (rec_term_measure_fits : Int → Int → Int → Tm → Int → Option (Bool × Int)) (rec_term_measure_fits_1 : Tm → Int → Int → Int → Int → Option (Bool × Int)) (p0 : List Tm) (p1 : Int) (p2 : Int) (p3 : Int) (p4 : Int) : Option (Int × Int) := ((lH n rec_slices_IndexFunc_Term rec_slices_ContainsFunc_Term rec_term_measure_fits rec_term_measure_fits_1 p0 p2 p3 p4 n (0, p1)).bind (LR.el (fun s2 => some ((-1), s2)) (fun r => some r)))
def jf (n : Nat) (rec_slices_IndexFunc_Term : (List Tm) → Int → Int → Int → Int → Option (Int × Int)) (rec_slices_ContainsFunc_Term : (List Tm) → Int → Int → Int → Int → Option (Bool × Int)) (rec_term_measure_fits : Int → Int → Int → Tm → Int → Option (Bool × Int)) (rec_term_measure_fits_1 : Tm → Int → Int → Int → Int → Option (Bool × Int)) (p0 : List Tm) (p1 : Int) (p2 : Int) (p3 : Int) (p4 : Int) : Option (Bool × Int) := ((rec_slices_IndexFunc_Term p0 p1 p2 p3 p4).bind fun x1 => some ((decide (0 ≤ x1.1)), x1.2))
def mK (n : Nat) (rec_slices_IndexFunc_Term : (List Tm) → Int → Int → Int → Int → Option (Int × Int)) (rec_slices_ContainsFunc_Term : (List Tm) → Int → Int → Int → Int → Option (Bool × Int)) (rec_term_measure_fits : Int → Int → Int → Tm → Int → Option (Bool × Int)) (rec_term_measure_fits_1 : Tm → Int → Int → Int → Int → Option (Bool × Int)) (p0 : Int) (p1 : Int) (p2 : Int) (p3 : Tm) (p4 : Int) : Option (Bool × Int) := ((((jP n p0 p1 p2 p4).bind fun x2 => (cond (!x2.1) (some (true, x2.2)) ((BG n p3).bind fun x3 => some ((!x3), x2.2)))) : Option (Bool × Int)).bind fun s1 => (cond s1.1 (some (false, s1.2)) ((rec_slices_ContainsFunc_Term p3.kids s1.2 p1 p2 p4).bind fun x1 => some ((!x1.1), x1.2))))
def lG (n : Nat) (rec_slices_IndexFunc_Term : (List Tm) → Int → Int → Int → Int → Option (Int × Int)) (rec_slices_ContainsFunc_Term : (List Tm) → Int → Int → Int → Int → Option (Bool × Int)) (rec_term_measure_fits : Int → Int → Int → Tm → Int → Option (Bool × Int)) (rec_term_measure_fits_1 : Tm → Int → Int → Int → Int → Option (Bool × Int)) (p0 : Tm) (p1 : Int) (p2 : Int) (p3 : Int) (p4 : Int) : Option (Bool × Int) := ((rec_term_measure_fits p1 p2 p3 p0 (IntKind.wrap .i64 (p4 + 1))).bind fun x1 => some ((!x1.1), x1.2))
mutual
def gM : Nat → (List Tm) → Int → Int → Int → Int → Option (Int × Int)
 | 0, _, _, _, _, _ => none
 | n + 1, p0, p1, p2, p3, p4 => gU n (fun p0 p1 p2 p3 p4 => gM n p0 p1 p2 p3 p4) (fun p0 p1 p2 p3 p4 => eU n p0 p1 p2 p3 p4) (fun p0 p1 p2 p3 p4 => gZ n p0 p1 p2 p3 p4) (fun p0 p1 p2 p3 p4 => fH n p0 p1 p2 p3 p4) p0 p1 p2 p3 p4
def eU : Nat → (List Tm) → Int → Int → Int → Int → Option (Bool × Int)
 | 0, _, _, _, _, _ => none
 | n + 1, p0, p1, p2, p3, p4 => jf n (fun p0 p1 p2 p3 p4 => gM n p0 p1 p2 p3 p4) (fun p0 p1 p2 p3 p4 => eU n p0 p1 p2 p3 p4) (fun p0 p1 p2 p3 p4 => gZ n p0 p1 p2 p3 p4) (fun p0 p1 p2 p3 p4 => fH n p0 p1 p2 p3 p4) p0 p1 p2 p3 p4
def gZ : Nat → Int → Int → Int → Tm → Int → Option (Bool × Int)
 | 0, _, _, _, _, _ => none
 | n + 1, p0, p1, p2, p3, p4 => mK n (fun p0 p1 p2 p3 p4 => gM n p0 p1 p2 p3 p4) (fun p0 p1 p2 p3 p4 => eU n p0 p1 p2 p3 p4) (fun p0 p1 p2 p3 p4 => gZ n p0 p1 p2 p3 p4) (fun p0 p1 p2 p3 p4 => fH n p0 p1 p2 p3 p4) p0 p1 p2 p3 p4
def fH : Nat → Tm → Int → Int → Int → Int → Option (Bool × Int)
 | 0, _, _, _, _, _ => none
 | n + 1, p0, p1, p2, p3, p4 => lG n (fun p0 p1 p2 p3 p4 => gM n p0 p1 p2 p3 p4) (fun p0 p1 p2 p3 p4 => eU n p0 p1 p2 p3 p4) (fun p0 p1 p2 p3 p4 => gZ n p0 p1 p2 p3 p4) (fun p0 p1 p2 p3 p4 => fH n p0 p1 p2 p3 p4) p0 p1 p2 p3 p4
end
def xI (n : Nat) (p0 : Tm) : Option Bool := ((gZ n 0 2000 64 p0 1).bind fun x1 => some x1.1)
def Qa (n : Nat) (p0 : Ty) : Option Ty := some (Ty.mk 5 ([] : Str) ([p0]))
def mI (n : Nat) (x3 : Carrier) : Nat → (Int × (List (Str × Ty))) → Option (LR (List (Str × Ty)) (List (Str × Ty)))
 | 0, _ => none
 | k + 1, s5 => (cond (decide (s5.1 < (x3.elems.length : Int))) ((idx x3.elems s5.1).bind fun x5 => ((zR s5.2 x5 (Ty.mk 3 x3.name ([]))).bind fun x6 => mI n x3 k ((s5.1 + 1), x6))) (some (.nx s5.2)))
def vv (n : Nat) (p0 : Env) : Nat → (Int × (List (Str × Ty))) → Option (LR (List (Str × Ty)) (List (Str × Ty)))
 | 0, _ => none
 | k + 1, s1 => (cond (decide (s1.1 < (p0.carriers.length : Int))) ((idx p0.carriers s1.1).bind fun x3 => ((zR s1.2 x3.name (Ty.mk 5 ([] : Str) ([(Ty.mk 3 x3.name ([]))]))).bind fun x4 => ((mI n x3 n (0, x4)).bind (LR.el (fun s6 => vv n p0 k ((s1.1 + 1), s6)) (fun r => some (.rt r)))))) (some (.nx s1.2)))
def uU (n : Nat) (p0 : Env) : Nat → (Int × (List (Str × Ty))) → Option (LR (List (Str × Ty)) (List (Str × Ty)))
 | 0, _ => none
 | k + 1, s3 => (cond (decide (s3.1 < (p0.names.length : Int))) ((idx p0.names s3.1).bind fun x1 => ((zR s3.2 x1.name x1.ty).bind fun x2 => uU n p0 k ((s3.1 + 1), x2))) (some (.nx s3.2)))
def wB (n : Nat) (p0 : Env) : Option (List (Str × Ty)) := ((vv n p0 n (0, ([] : List (Str × Ty)))).bind (LR.el (fun s2 => ((uU n p0 n (0, s2)).bind (LR.el (fun s4 => some s4) (fun r => some r)))) (fun r => some r)))
def PG (n : Nat) : Option Ty := some (Ty.mk 2 ([] : Str) ([]))
def UD (n : Nat) (p0 : Int) (p1 : Ty) : Option Unit := some ()
def LK (n : Nat) : Option Ty := some (Ty.mk 1 ([] : Str) ([]))
def Yx (n : Nat) : Option Unit := some ()
def F7 (n : Nat) : Option Unit := some ()
def QZ (n : Nat) : Option Unit := some ()
def Jc (n : Nat) (p0 : Ty) : Option Unit := some ()
def Uy (n : Nat) : Option Unit := some ()
def NY (n : Nat) : Option Unit := some ()
def Um (n : Nat) : Option Unit := some ()
def NQ (n : Nat) : Option Unit := some ()
def P9 (n : Nat) : Option Unit := some ()
def Ej (n : Nat) : Option Unit := some ()
def Ei (n : Nat) : Option Unit := some ()
def KN (n : Nat) : Option Unit := some ()
def LU (n : Nat) : Option Unit := some ()
def Es (n : Nat) : Option Unit := some ()
def Eo (n : Nat) : Option Unit := some ()
def Er (n : Nat) : Option Unit := some ()
def Eh (n : Nat) : Option Unit := some ()
def Ep (n : Nat) : Option Unit := some ()
def Ul (n : Nat) : Option Unit := some ()
def oG (n : Nat) (p0 : Env) : Nat → (Int × (List (Str × Bool))) → Option (LR (List (Str × Bool)) ((List (Str × Ty)) × (List (Str × Bool))))
 | 0, _ => none
 | k + 1, s1 => (cond (decide (s1.1 < (p0.carriers.length : Int))) ((idx p0.carriers s1.1).bind fun x2 => ((zR s1.2 x2.name true).bind fun x3 => oG n p0 k ((s1.1 + 1), x3))) (some (.nx s1.2)))
def rU (n : Nat) (p0 : Env) : Option ((List (Str × Ty)) × (List (Str × Bool))) := ((wB n p0).bind fun x1 => ((oG n p0 n (0, ([] : List (Str × Bool)))).bind (LR.el (fun s2 => some (x1, s2)) (fun r => some r))))
def uL (n : Nat) (p0 : Int) : Option Bool := (((cond (p0 == 8) (some true) (cond (p0 == 9) (some true) (cond (p0 == 55) (some true) (some (p0 == 56))))) : Option Bool).bind fun s1 => some s1)
def dN (n : Nat) (p0 : Ty) : Option (Ty × Bool) := (cond (p0.kind != 5) (some ((Ty.mk 0 ([] : Str) ([])), false)) ((idx p0.kids 0).bind fun x1 => some (x1, true)))
def iY (n : Nat) (p1 : Str) : Nat → (List Decl) → Option (LR Unit (Ty × Bool))
 | 0, _ => none
 | k + 1, s1 => (cond (true != List.isEmpty s1) ((unc s1).bind fun x1 => (cond (x1.1.name == p1) ((unc s1).bind fun x2 => some (.rt (x2.1.ty, true))) ((unc s1).bind fun x3 => iY n p1 k x3.2))) (some (.nx ())))
def mJ (n : Nat) (p0 : List Decl) (p1 : Str) : Option (Ty × Bool) := ((iY n p1 n p0).bind (LR.el (fun s2 => some ((Ty.mk 0 ([] : Str) ([])), false)) (fun r => some r)))
def mW (n : Nat) (p0 : Str) (p1 : List (Str × Ty)) (p2 : List (Str × Bool)) (p3 : List Int) : Option Bool := (((Zy (fC p2 p0) (some true) (fun x1 => some (!x1))) : Option Bool).bind fun s1 => some s1)
def jv (n : Nat) (p0 : List Str) (p1 : List (Str × Ty)) (p2 : List (Str × Bool)) (p3 : List Int) : Nat → Int → Option (LR Unit Int)
 | 0, _ => none
 | k + 1, s1 => (cond (decide (s1 < (p0.length : Int))) ((idx p0 s1).bind fun x1 => ((mW n x1 p1 p2 p3).bind fun x2 => (cond x2 (some (.rt s1)) (jv n p0 p1 p2 p3 k (s1 + 1))))) (some (.nx ())))
def nW (n : Nat) (p0 : List Str) (p1 : List (Str × Ty)) (p2 : List (Str × Bool)) (p3 : List Int) : Option Int := ((jv n p0 p1 p2 p3 n 0).bind (LR.el (fun s2 => some (-1)) (fun r => some r)))
def lX (n : Nat) (p0 : List Str) (p1 : List (Str × Ty)) (p2 : List (Str × Bool)) (p3 : List Int) : Option Bool := ((nW n p0 p1 p2 p3).bind fun x1 => some (decide (0 ≤ x1)))
def lY (n : Nat) (p0 : List (Str × Ty)) (p1 : List (Str × Bool)) (p2 : List Int) (p3 : Ty) : Option Bool := ((kR n p3).bind fun x1 => ((lX n x1 p0 p1 p2).bind fun x2 => some (!x2)))
def nR (n : Nat) (p0 : Ty) : Option (Ty × Int) := ((kJ n p0).bind fun x1 => (cond (!x1) (some ((Ty.mk 0 ([] : Str) ([])), 5)) (some (p0, 0))))
def F5 (n : Nat) (p0 : List Ty) (p1 : Int) (p2 : Str) (p3 : List Ty) : Option (Ty × Bool) := some ((Ty.mk p1 p2 p3), true)
def I7 (n : Nat) (p0 : Ty) (p1 : Int) : Option Bool := some (p0.kind != p1)
def j6 (n : Nat) (p0 : List Ty) (p1 : Int) : Nat → Int → Option (LR Unit Int)
 | 0, _ => none
 | k + 1, s1 => (cond (decide (s1 < (p0.length : Int))) ((idx p0 s1).bind fun x1 => (cond (x1.kind != p1) (some (.rt s1)) (j6 n p0 p1 k (s1 + 1)))) (some (.nx ())))
def pG (n : Nat) (p0 : List Ty) (p1 : Int) : Option Int := ((j6 n p0 p1 n 0).bind (LR.el (fun s2 => some (-1)) (fun r => some r)))
def ng (n : Nat) (p0 : List Ty) (p1 : Int) : Option Bool := ((pG n p0 p1).bind fun x1 => some (decide (0 ≤ x1)))
def bV (n : Nat) (p0 : List Ty) (p1 : Int) (p2 : Str) (p3 : List Ty) (p4 : Int) : Option (Ty × Bool) := ((ng n p0 p4).bind fun x1 => some ((Ty.mk p1 p2 p3), (!x1)))
def Nz (n : Nat) (p0 : Ty) : Option Ty := some (Ty.mk 2 ([] : Str) ([]))
def ou (n : Nat) (p0 : List Ty) : Option (Ty × Bool) := ((idx p0 0).bind fun x1 => ((idx p0 1).bind fun x2 => some ((Ty.mk 2 ([] : Str) ([])), (x2.kind == 2))))
def lQ (n : Nat) (rec_slices_EqualFunc_Type : (List Ty) → (List Ty) → Option Bool) (rec_typing_equal : Ty → Ty → Option Bool) (p0 : List Ty) (p1 : List Ty) : Nat → Int → Option (LR Unit Bool)
 | 0, _ => none
 | k + 1, s1 => (cond (decide (s1 < (p0.length : Int))) ((idx p0 s1).bind fun x1 => ((idx p1 s1).bind fun x2 => ((rec_typing_equal x1 x2).bind fun x3 => (cond (!x3) (some (.rt false)) (lQ n rec_slices_EqualFunc_Type rec_typing_equal p0 p1 k (s1 + 1)))))) (some (.nx ())))
def jZ (n : Nat) (rec_slices_EqualFunc_Type : (List Ty) → (List Ty) → Option Bool) (rec_typing_equal : Ty → Ty → Option Bool) (p0 : List Ty) (p1 : List Ty) : Option Bool := (cond ((p0.length : Int) != (p1.length : Int)) (some false) ((lQ n rec_slices_EqualFunc_Type rec_typing_equal p0 p1 n 0).bind (LR.el (fun s2 => some true) (fun r => some r))))
def rX (n : Nat) (rec_slices_EqualFunc_Type : (List Ty) → (List Ty) → Option Bool) (rec_typing_equal : Ty → Ty → Option Bool) (p0 : Ty) (p1 : Ty) : Option Bool := (((cond (p0.kind == p1.kind) (cond (p0.name == p1.name) ((rec_slices_EqualFunc_Type p0.kids p1.kids).bind fun x1 => some x1) (some false)) (some false)) : Option Bool).bind fun s1 => some s1)
mutual
def jq : Nat → (List Ty) → (List Ty) → Option Bool
 | 0, _, _ => none
 | n + 1, p0, p1 => jZ n (fun p0 p1 => jq n p0 p1) (fun p0 p1 => fO n p0 p1) p0 p1
def fO : Nat → Ty → Ty → Option Bool
 | 0, _, _ => none
 | n + 1, p0, p1 => rX n (fun p0 p1 => jq n p0 p1) (fun p0 p1 => fO n p0 p1) p0 p1
end
def wW (n : Nat) (p0 : Ty) (p1 : List Ty) : Option Bool := ((idx p1 0).bind fun x1 => ((fO n p0 x1).bind fun x2 => some (!x2)))
def j4 (n : Nat) (p0 : List Ty) (p1 : List Ty) : Nat → Int → Option (LR Unit Int)
 | 0, _ => none
 | k + 1, s1 => (cond (decide (s1 < (p0.length : Int))) ((idx p0 s1).bind fun x1 => ((wW n x1 p1).bind fun x2 => (cond x2 (some (.rt s1)) (j4 n p0 p1 k (s1 + 1))))) (some (.nx ())))
def pI (n : Nat) (p0 : List Ty) (p1 : List Ty) : Option Int := ((j4 n p0 p1 n 0).bind (LR.el (fun s2 => some (-1)) (fun r => some r)))
def nk (n : Nat) (p0 : List Ty) (p1 : List Ty) : Option Bool := ((pI n p0 p1).bind fun x1 => some (decide (0 ≤ x1)))
def lK (n : Nat) (p0 : List Ty) : Option Bool := ((((idx p0 0).bind fun x1 => (cond (x1.kind != 2) ((nk n p0 p0).bind fun x2 => some (!x2)) (some false))) : Option Bool).bind fun s1 => some s1)
def rD (n : Nat) (p0 : List Ty) : Option (Ty × Bool) := ((lK n p0).bind fun x1 => some ((Ty.mk 2 ([] : Str) ([])), x1))
def pz (n : Nat) (p0 : List Ty) : Option (Ty × Bool) := ((idx p0 1).bind fun x1 => ((dN n x1).bind fun x2 => (((cond x2.2 ((idx p0 0).bind fun x3 => ((fO n x3 x2.1).bind fun x4 => some x4)) (some false)) : Option Bool).bind fun s1 => some ((Ty.mk 2 ([] : Str) ([])), s1))))
def rz (n : Nat) (p0 : List Ty) : Option (Ty × Bool) := ((((idx p0 0).bind fun x1 => ((idx p0 0).bind fun x2 => (cond (x2.kind == 5) ((lK n p0).bind fun x3 => some x3) (some false)))) : Option Bool).bind fun s1 => some ((Ty.mk 2 ([] : Str) ([])), s1))
def NR (n : Nat) (p0 : Ty) (p1 : Ty) : Option Ty := some (Ty.mk 4 ([] : Str) ([p0, p1]))
def uM (n : Nat) (p0 : List Ty) : Option (Ty × Bool) := ((((idx p0 0).bind fun x1 => ((idx p0 1).bind fun x2 => ((idx p0 0).bind fun x3 => (cond (x3.kind != 2) ((idx p0 1).bind fun x4 => some ((x4.kind != 2), ([x1, x2]))) (some (false, ([x1, x2]))))))) : Option (Bool × (List Ty))).bind fun s1 => some ((Ty.mk 4 ([] : Str) s1.2), s1.1))
def uJ (n : Nat) (p0 : List Ty) : Option (Ty × Bool) := ((idx p0 0).bind fun x1 => ((lK n p0).bind fun x2 => some ((Ty.mk 5 ([] : Str) ([x1])), x2)))
def NJ (n : Nat) (p0 : Ty) : Option Ty := some p0
def jB (n : Nat) (p0 : List Ty) : Option (Ty × Bool) := ((((idx p0 0).bind fun x1 => ((idx p0 0).bind fun x2 => (cond (x2.kind == 5) ((lK n p0).bind fun x3 => some (x3, x1.kind, x1.name, x1.kids)) (some (false, x1.kind, x1.name, x1.kids))))) : Option (Bool × Int × Str × (List Ty))).bind fun s1 => some ((Ty.mk s1.2.1 s1.2.2.1 s1.2.2.2), s1.1))
def I9 (n : Nat) (p0 : Ty) (p1 : Ty) : Option Ty := some (Ty.mk 5 ([] : Str) ([(Ty.mk 4 ([] : Str) ([p0, p1]))]))
def sZ (n : Nat) (p0 : List Ty) : Option (Ty × Bool) := ((idx p0 0).bind fun x1 => ((dN n x1).bind fun x2 => ((idx p0 1).bind fun x3 => ((dN n x3).bind fun x4 => (((cond (!x2.2) (some true) (some (!x4.2))) : Option Bool).bind fun s1 => (cond s1 (some ((Ty.mk 0 ([] : Str) ([])), false)) (some ((Ty.mk 5 ([] : Str) ([(Ty.mk 4 ([] : Str) ([x2.1, x4.1]))])), true))))))))
def iV (n : Nat) (p0 : Ty) : Option (Ty × Ty × Bool) := ((dN n p0).bind fun x1 => (((cond (!x1.2) (some true) (some (x1.1.kind != 4))) : Option Bool).bind fun s1 => (cond s1 (some ((Ty.mk 0 ([] : Str) ([])), (Ty.mk 0 ([] : Str) ([])), false)) ((idx x1.1.kids 0).bind fun x2 => ((idx x1.1.kids 1).bind fun x3 => some (x2, x3, true))))))
def FR (n : Nat) (p0 : Ty) (p1 : Ty) (p2 : List Ty) : Option (Ty × Bool) := ((idx p2 0).bind fun x1 => ((lK n p2).bind fun x2 => some (x1, x2)))
def kW (n : Nat) (p0 : List Ty) : Option (Ty × Bool) := ((idx p0 0).bind fun x1 => ((iV n x1).bind fun x2 => (cond (!x2.2.2) (some ((Ty.mk 0 ([] : Str) ([])), false)) ((FR n x2.1 x2.2.1 p0).bind fun x3 => some (x3.1, x3.2)))))
def BP (n : Nat) (p0 : Ty) (p1 : Ty) (p2 : List Ty) : Option (Ty × Bool) := ((idx p2 1).bind fun x1 => ((iV n x1).bind fun x2 => (((cond x2.2.2 ((fO n p1 x2.1).bind fun x3 => some x3) (some false)) : Option Bool).bind fun s1 => some ((Ty.mk 5 ([] : Str) ([(Ty.mk 4 ([] : Str) ([p0, x2.2.1]))])), s1))))
def kU (n : Nat) (p0 : List Ty) : Option (Ty × Bool) := ((idx p0 0).bind fun x1 => ((iV n x1).bind fun x2 => (cond (!x2.2.2) (some ((Ty.mk 0 ([] : Str) ([])), false)) ((BP n x2.1 x2.2.1 p0).bind fun x3 => some (x3.1, x3.2)))))
def pF (n : Nat) (p0 : List Ty) : Option (Ty × Bool) := ((idx p0 0).bind fun x1 => ((dN n x1).bind fun x2 => ((idx p0 1).bind fun x3 => ((iV n x3).bind fun x4 => ((((idx p0 1).bind fun x5 => (cond x2.2 (cond x4.2.2 ((fO n x2.1 x4.1).bind fun x6 => some (x6, x5.kind, x5.name, x5.kids)) (some (false, x5.kind, x5.name, x5.kids))) (some (false, x5.kind, x5.name, x5.kids)))) : Option (Bool × Int × Str × (List Ty))).bind fun s1 => some ((Ty.mk s1.2.1 s1.2.2.1 s1.2.2.2), s1.1))))))
def BN (n : Nat) (p0 : Ty) (p1 : Ty) (p2 : List Ty) : Option (Ty × Bool) := ((idx p2 1).bind fun x1 => ((dN n x1).bind fun x2 => ((((idx p2 0).bind fun x3 => (cond x2.2 ((fO n x2.1 p1).bind fun x4 => some (x4, x3.kind, x3.name, x3.kids)) (some (false, x3.kind, x3.name, x3.kids)))) : Option (Bool × Int × Str × (List Ty))).bind fun s1 => some ((Ty.mk s1.2.1 s1.2.2.1 s1.2.2.2), s1.1))))
def iH (n : Nat) (p0 : List Ty) : Option (Ty × Bool) := ((idx p0 0).bind fun x1 => ((iV n x1).bind fun x2 => (cond (!x2.2.2) (some ((Ty.mk 0 ([] : Str) ([])), false)) ((BN n x2.1 x2.2.1 p0).bind fun x3 => some (x3.1, x3.2)))))
def NW (n : Nat) (p0 : Ty) (p1 : Ty) : Option Ty := some (Ty.mk 5 ([] : Str) ([(Ty.mk 5 ([] : Str) ([(Ty.mk 4 ([] : Str) ([p0, p1]))]))]))
def gP (n : Nat) (p0 : List Ty) : Option (Ty × Bool) := ((idx p0 0).bind fun x1 => ((dN n x1).bind fun x2 => ((idx p0 1).bind fun x3 => ((dN n x3).bind fun x4 => (((cond (!x2.2) (some true) (some (!x4.2))) : Option Bool).bind fun s1 => (cond s1 (some ((Ty.mk 0 ([] : Str) ([])), false)) (some ((Ty.mk 5 ([] : Str) ([(Ty.mk 5 ([] : Str) ([(Ty.mk 4 ([] : Str) ([x2.1, x4.1]))]))])), true))))))))
def Ll (n : Nat) (p0 : Ty) : Option (Ty × Bool) := some ((Ty.mk 5 ([] : Str) ([(Ty.mk 5 ([] : Str) ([p0]))])), true)
def p9 (n : Nat) (p0 : List Ty) : Option (Ty × Bool) := ((idx p0 0).bind fun x1 => ((dN n x1).bind fun x2 => (cond (!x2.2) (some ((Ty.mk 0 ([] : Str) ([])), false)) (some ((((Ty.mk 5 ([] : Str) ([(Ty.mk 5 ([] : Str) ([x2.1]))])), true).1), ((Ty.mk 5 ([] : Str) ([(Ty.mk 5 ([] : Str) ([x2.1]))])), true).2)))))
def KC (n : Nat) (p0 : Ty) : Option (Ty × Bool) := some ((Ty.mk 1 ([] : Str) ([])), true)
def pY (n : Nat) (p0 : List Ty) : Option (Ty × Bool) := ((idx p0 0).bind fun x1 => ((dN n x1).bind fun x2 => (cond (!x2.2) (some ((Ty.mk 0 ([] : Str) ([])), false)) (some ((((Ty.mk 1 ([] : Str) ([])), true).1), ((Ty.mk 1 ([] : Str) ([])), true).2)))))
def NA (n : Nat) (p0 : Ty) : Option (Ty × Bool) := some ((Ty.mk 1 ([] : Str) ([])), (p0.kind == 1))
def lM (n : Nat) (p0 : List Ty) : Option (Ty × Bool) := ((idx p0 0).bind fun x1 => ((dN n x1).bind fun x2 => (cond (!x2.2) (some ((Ty.mk 0 ([] : Str) ([])), false)) (some ((((Ty.mk 1 ([] : Str) ([])), (x2.1.kind == 1)).1), ((Ty.mk 1 ([] : Str) ([])), (x2.1.kind == 1)).2)))))
def LC (n : Nat) (p0 : Ty) (p1 : Ty) (p2 : List Ty) : Option (Ty × Bool) := some ((Ty.mk 5 ([] : Str) ([p0])), true)
def kZ (n : Nat) (p0 : List Ty) : Option (Ty × Bool) := ((idx p0 0).bind fun x1 => ((iV n x1).bind fun x2 => (cond (!x2.2.2) (some ((Ty.mk 0 ([] : Str) ([])), false)) (some ((((Ty.mk 5 ([] : Str) ([x2.1])), true).1), ((Ty.mk 5 ([] : Str) ([x2.1])), true).2)))))
def KM (n : Nat) (p0 : Ty) (p1 : Ty) (p2 : List Ty) : Option (Ty × Bool) := some ((Ty.mk 5 ([] : Str) ([p1])), true)
def kV (n : Nat) (p0 : List Ty) : Option (Ty × Bool) := ((idx p0 0).bind fun x1 => ((iV n x1).bind fun x2 => (cond (!x2.2.2) (some ((Ty.mk 0 ([] : Str) ([])), false)) (some ((((Ty.mk 5 ([] : Str) ([x2.2.1])), true).1), ((Ty.mk 5 ([] : Str) ([x2.2.1])), true).2)))))
def KZ (n : Nat) (p0 : Ty) (p1 : Ty) (p2 : List Ty) : Option (Ty × Bool) := some ((Ty.mk 5 ([] : Str) ([(Ty.mk 4 ([] : Str) ([p1, p0]))])), true)
def kY (n : Nat) (p0 : List Ty) : Option (Ty × Bool) := ((idx p0 0).bind fun x1 => ((iV n x1).bind fun x2 => (cond (!x2.2.2) (some ((Ty.mk 0 ([] : Str) ([])), false)) (some ((((Ty.mk 5 ([] : Str) ([(Ty.mk 4 ([] : Str) ([x2.2.1, x2.1]))])), true).1), ((Ty.mk 5 ([] : Str) ([(Ty.mk 4 ([] : Str) ([x2.2.1, x2.1]))])), true).2)))))
def Aq (n : Nat) (p0 : Ty) (p1 : Ty) (p2 : List Ty) : Option (Ty × Bool) := ((idx p2 1).bind fun x1 => ((dN n x1).bind fun x2 => (((cond x2.2 ((fO n x2.1 p0).bind fun x3 => some x3) (some false)) : Option Bool).bind fun s1 => some ((Ty.mk 5 ([] : Str) ([p1])), s1))))
def lq (n : Nat) (p0 : List Ty) : Option (Ty × Bool) := ((idx p0 0).bind fun x1 => ((iV n x1).bind fun x2 => (cond (!x2.2.2) (some ((Ty.mk 0 ([] : Str) ([])), false)) ((Aq n x2.1 x2.2.1 p0).bind fun x3 => some (x3.1, x3.2)))))
def Ai (n : Nat) (p0 : Ty) (p1 : Ty) (p2 : List Ty) : Option (Ty × Bool) := ((idx p2 1).bind fun x1 => ((fO n x1 p0).bind fun x2 => some (p1, x2)))
def lg (n : Nat) (p0 : List Ty) : Option (Ty × Bool) := ((idx p0 0).bind fun x1 => ((iV n x1).bind fun x2 => (cond (!x2.2.2) (some ((Ty.mk 0 ([] : Str) ([])), false)) ((Ai n x2.1 x2.2.1 p0).bind fun x3 => some (x3.1, x3.2)))))
def vF (n : Nat) (p0 : List Ty) : Option (Ty × Bool) := ((idx p0 0).bind fun x1 => ((idx p0 1).bind fun x2 => some (x1, (x2.kind == 2))))
def tC (n : Nat) (p0 : List Ty) : Option (Ty × Bool) := ((idx p0 0).bind fun x1 => ((dN n x1).bind fun x2 => ((((idx p0 1).bind fun x3 => (cond x2.2 ((idx p0 1).bind fun x4 => some ((x4.kind != 2), ([(Ty.mk 4 ([] : Str) ([x2.1, x3]))]))) (some (false, ([(Ty.mk 4 ([] : Str) ([x2.1, x3]))]))))) : Option (Bool × (List Ty))).bind fun s1 => some ((Ty.mk 5 ([] : Str) s1.2), s1.1))))
def lU (n : Nat) (rec_typing_checker_of : (List (Str × Ty)) → (List (Str × Bool)) → (List Int) → Tm → (List Decl) → Option (Ty × Int × (List Int))) (rec_typing_checker_child : (List (Str × Ty)) → (List (Str × Bool)) → (List Int) → Tm → Int → (List Decl) → Option (Ty × Int × (List Int))) (p0 : List (Str × Ty)) (p1 : List (Str × Bool)) (p3 : Tm) : Nat → ((List Decl) × (List Ty) × Int × (List Int)) → Option (LR ((List Decl) × (List Ty) × (List Int)) (Ty × Int × (List Int)))
 | 0, _ => none
 | k + 1, s1 => (cond (decide (s1.2.2.1 < (p3.kids.length : Int))) ((((rec_typing_checker_child p0 p1 s1.2.2.2 p3 s1.2.2.1 s1.1).bind fun x57 => (cond (x57.2.1 != 0) (some (.rt ((Ty.mk 0 ([] : Str) ([])), x57.2.1, x57.2.2))) ((app 48 s1.2.1 ([x57.1])).bind fun x58 => (((cond (s1.2.2.1 == 0) ((uL n p3.op).bind fun x60 => some x60) (some false)) : Option Bool).bind fun s6 => (cond s6 ((dN n x57.1).bind fun x59 => (cond (!x59.2) (some (.rt ((Ty.mk 0 ([] : Str) ([])), 7, x57.2.2))) (some (.nx (((Decl.mk p3.name x59.1) :: s1.1), x58, x57.2.2))))) (some (.nx (s1.1, x58, x57.2.2)))))))) : Option (LR ((List Decl) × (List Ty) × (List Int)) (Ty × Int × (List Int)))).bind (LR.el (fun s5 => lU n rec_typing_checker_of rec_typing_checker_child p0 p1 p3 k (s5.1, s5.2.1, (s1.2.2.1 + 1), s5.2.2)) (fun r => some (.rt r)))) (some (.nx (s1.1, s1.2.1, s1.2.2.2))))
def mO (n : Nat) (rec_typing_checker_of : (List (Str × Ty)) → (List (Str × Bool)) → (List Int) → Tm → (List Decl) → Option (Ty × Int × (List Int))) (rec_typing_checker_child : (List (Str × Ty)) → (List (Str × Bool)) → (List Int) → Tm → Int → (List Decl) → Option (Ty × Int × (List Int))) (p0 : List (Str × Ty)) (p1 : List (Str × Bool)) (p2 : List Int) (p3 : Tm) (p4 : List Decl) : Option (Ty × Int × (List Int)) := ((lU n rec_typing_checker_of rec_typing_checker_child p0 p1 p3 n (p4, ([] : List Ty), 0, p2)).bind (LR.el (fun s2 => (cond (p3.op == 20) ((mJ n s2.1 p3.name).bind fun x1 => (cond x1.2 (some (x1.1, 0, s2.2.2)) (((Zy (fC p0 p3.name) (some (false, 0, ([] : Str), ([] : List Ty))) (fun x2 => some (true, x2.kind, x2.name, x2.kids))) : Option (Bool × Int × Str × (List Ty))).bind fun s3 => (cond (!s3.1) (some ((Ty.mk 0 ([] : Str) ([])), 6, s2.2.2)) (some ((Ty.mk s3.2.1 s3.2.2.1 s3.2.2.2), 0, s2.2.2)))))) (cond (p3.op == 29) ((lY n p0 p1 s2.2.2 p3.ty).bind fun x3 => (cond (!x3) (some ((Ty.mk 0 ([] : Str) ([])), 6, s2.2.2)) ((nR n (Ty.mk 5 ([] : Str) ([p3.ty]))).bind fun x4 => some (x4.1, x4.2, s2.2.2)))) (((cond (p3.op == 0) none (cond (p3.op == 1) (some (((Ty.mk 2 ([] : Str) ([])), true).2, (((Ty.mk 2 ([] : Str) ([])), true).1).kind, (((Ty.mk 2 ([] : Str) ([])), true).1).name, (((Ty.mk 2 ([] : Str) ([])), true).1).kids)) (cond (p3.op == 2) (some (((Ty.mk 2 ([] : Str) ([])), true).2, (((Ty.mk 2 ([] : Str) ([])), true).1).kind, (((Ty.mk 2 ([] : Str) ([])), true).1).name, (((Ty.mk 2 ([] : Str) ([])), true).1).kids)) (cond (p3.op == 3) ((bV n s2.2.1 2 ([] : Str) ([]) 2).bind fun x6 => some (x6.2, x6.1.kind, x6.1.name, x6.1.kids)) (cond (p3.op == 4) ((bV n s2.2.1 2 ([] : Str) ([]) 2).bind fun x7 => some (x7.2, x7.1.kind, x7.1.name, x7.1.kids)) (cond (p3.op == 5) ((bV n s2.2.1 2 ([] : Str) ([]) 2).bind fun x8 => some (x8.2, x8.1.kind, x8.1.name, x8.1.kids)) (cond (p3.op == 6) ((bV n s2.2.1 2 ([] : Str) ([]) 2).bind fun x9 => some (x9.2, x9.1.kind, x9.1.name, x9.1.kids)) (cond (p3.op == 7) ((bV n s2.2.1 2 ([] : Str) ([]) 2).bind fun x10 => some (x10.2, x10.1.kind, x10.1.name, x10.1.kids)) (cond (p3.op == 8) ((ou n s2.2.1).bind fun x11 => some (x11.2, x11.1.kind, x11.1.name, x11.1.kids)) (cond (p3.op == 9) ((ou n s2.2.1).bind fun x12 => some (x12.2, x12.1.kind, x12.1.name, x12.1.kids)) (cond (p3.op == 10) ((rD n s2.2.1).bind fun x13 => some (x13.2, x13.1.kind, x13.1.name, x13.1.kids)) (cond (p3.op == 11) ((rD n s2.2.1).bind fun x14 => some (x14.2, x14.1.kind, x14.1.name, x14.1.kids)) (cond (p3.op == 12) ((bV n s2.2.1 2 ([] : Str) ([]) 1).bind fun x15 => some (x15.2, x15.1.kind, x15.1.name, x15.1.kids)) (cond (p3.op == 13) ((bV n s2.2.1 2 ([] : Str) ([]) 1).bind fun x16 => some (x16.2, x16.1.kind, x16.1.name, x16.1.kids)) (cond (p3.op == 14) ((bV n s2.2.1 2 ([] : Str) ([]) 1).bind fun x17 => some (x17.2, x17.1.kind, x17.1.name, x17.1.kids)) (cond (p3.op == 15) ((bV n s2.2.1 2 ([] : Str) ([]) 1).bind fun x18 => some (x18.2, x18.1.kind, x18.1.name, x18.1.kids)) (cond (p3.op == 16) ((pz n s2.2.1).bind fun x19 => some (x19.2, x19.1.kind, x19.1.name, x19.1.kids)) (cond (p3.op == 17) ((pz n s2.2.1).bind fun x20 => some (x20.2, x20.1.kind, x20.1.name, x20.1.kids)) (cond (p3.op == 18) ((rz n s2.2.1).bind fun x21 => some (x21.2, x21.1.kind, x21.1.name, x21.1.kids)) (cond (p3.op == 19) (some (((Ty.mk 1 ([] : Str) ([])), true).2, (((Ty.mk 1 ([] : Str) ([])), true).1).kind, (((Ty.mk 1 ([] : Str) ([])), true).1).name, (((Ty.mk 1 ([] : Str) ([])), true).1).kids)) (cond (p3.op == 20) none (cond (p3.op == 21) ((bV n s2.2.1 1 ([] : Str) ([]) 1).bind fun x22 => some (x22.2, x22.1.kind, x22.1.name, x22.1.kids)) (cond (p3.op == 22) ((bV n s2.2.1 1 ([] : Str) ([]) 1).bind fun x23 => some (x23.2, x23.1.kind, x23.1.name, x23.1.kids)) (cond (p3.op == 23) ((bV n s2.2.1 1 ([] : Str) ([]) 1).bind fun x24 => some (x24.2, x24.1.kind, x24.1.name, x24.1.kids)) (cond (p3.op == 24) ((bV n s2.2.1 1 ([] : Str) ([]) 1).bind fun x25 => some (x25.2, x25.1.kind, x25.1.name, x25.1.kids)) (cond (p3.op == 25) ((bV n s2.2.1 1 ([] : Str) ([]) 1).bind fun x26 => some (x26.2, x26.1.kind, x26.1.name, x26.1.kids)) (cond (p3.op == 26) ((bV n s2.2.1 1 ([] : Str) ([]) 1).bind fun x27 => some (x27.2, x27.1.kind, x27.1.name, x27.1.kids)) (cond (p3.op == 27) ((uM n s2.2.1).bind fun x28 => some (x28.2, x28.1.kind, x28.1.name, x28.1.kids)) (cond (p3.op == 28) ((uJ n s2.2.1).bind fun x29 => some (x29.2, x29.1.kind, x29.1.name, x29.1.kids)) (cond (p3.op == 29) none (cond (p3.op == 30) ((bV n s2.2.1 5 ([] : Str) ([(Ty.mk 1 ([] : Str) ([]))]) 1).bind fun x30 => some (x30.2, x30.1.kind, x30.1.name, x30.1.kids)) (cond (p3.op == 31) ((jB n s2.2.1).bind fun x31 => some (x31.2, x31.1.kind, x31.1.name, x31.1.kids)) (cond (p3.op == 32) ((jB n s2.2.1).bind fun x32 => some (x32.2, x32.1.kind, x32.1.name, x32.1.kids)) (cond (p3.op == 33) ((jB n s2.2.1).bind fun x33 => some (x33.2, x33.1.kind, x33.1.name, x33.1.kids)) (cond (p3.op == 34) ((sZ n s2.2.1).bind fun x34 => some (x34.2, x34.1.kind, x34.1.name, x34.1.kids)) (cond (p3.op == 35) ((kW n s2.2.1).bind fun x35 => some (x35.2, x35.1.kind, x35.1.name, x35.1.kids)) (cond (p3.op == 36) ((kU n s2.2.1).bind fun x36 => some (x36.2, x36.1.kind, x36.1.name, x36.1.kids)) (cond (p3.op == 37) ((pF n s2.2.1).bind fun x37 => some (x37.2, x37.1.kind, x37.1.name, x37.1.kids)) (cond (p3.op == 38) ((pF n s2.2.1).bind fun x38 => some (x38.2, x38.1.kind, x38.1.name, x38.1.kids)) (cond (p3.op == 39) ((iH n s2.2.1).bind fun x39 => some (x39.2, x39.1.kind, x39.1.name, x39.1.kids)) (cond (p3.op == 40) ((iH n s2.2.1).bind fun x40 => some (x40.2, x40.1.kind, x40.1.name, x40.1.kids)) (cond (p3.op == 41) ((gP n s2.2.1).bind fun x41 => some (x41.2, x41.1.kind, x41.1.name, x41.1.kids)) (cond (p3.op == 42) ((gP n s2.2.1).bind fun x42 => some (x42.2, x42.1.kind, x42.1.name, x42.1.kids)) (cond (p3.op == 43) ((gP n s2.2.1).bind fun x43 => some (x43.2, x43.1.kind, x43.1.name, x43.1.kids)) (cond (p3.op == 44) ((gP n s2.2.1).bind fun x44 => some (x44.2, x44.1.kind, x44.1.name, x44.1.kids)) (cond (p3.op == 45) ((gP n s2.2.1).bind fun x45 => some (x45.2, x45.1.kind, x45.1.name, x45.1.kids)) (cond (p3.op == 46) ((p9 n s2.2.1).bind fun x46 => some (x46.2, x46.1.kind, x46.1.name, x46.1.kids)) (cond (p3.op == 47) ((pY n s2.2.1).bind fun x47 => some (x47.2, x47.1.kind, x47.1.name, x47.1.kids)) (cond (p3.op == 48) ((lM n s2.2.1).bind fun x48 => some (x48.2, x48.1.kind, x48.1.name, x48.1.kids)) (cond (p3.op == 49) ((lM n s2.2.1).bind fun x49 => some (x49.2, x49.1.kind, x49.1.name, x49.1.kids)) (cond (p3.op == 50) ((kZ n s2.2.1).bind fun x50 => some (x50.2, x50.1.kind, x50.1.name, x50.1.kids)) (cond (p3.op == 51) ((kV n s2.2.1).bind fun x51 => some (x51.2, x51.1.kind, x51.1.name, x51.1.kids)) (cond (p3.op == 52) ((kY n s2.2.1).bind fun x52 => some (x52.2, x52.1.kind, x52.1.name, x52.1.kids)) (cond (p3.op == 53) ((lq n s2.2.1).bind fun x53 => some (x53.2, x53.1.kind, x53.1.name, x53.1.kids)) (cond (p3.op == 54) ((lg n s2.2.1).bind fun x54 => some (x54.2, x54.1.kind, x54.1.name, x54.1.kids)) (cond (p3.op == 55) ((vF n s2.2.1).bind fun x55 => some (x55.2, x55.1.kind, x55.1.name, x55.1.kids)) (cond (p3.op == 56) ((tC n s2.2.1).bind fun x56 => some (x56.2, x56.1.kind, x56.1.name, x56.1.kids)) none))))))))))))))))))))))))))))))))))))))))))))))))))))))))) : Option (Bool × Int × Str × (List Ty))).bind fun s4 => (cond (!s4.1) (some ((Ty.mk 0 ([] : Str) ([])), 7, s2.2.2)) ((nR n (Ty.mk s4.2.1 s4.2.2.1 s4.2.2.2)).bind fun x5 => some (x5.1, x5.2, s2.2.2))))))) (fun r => some r)))
def kQ (n : Nat) (rec_typing_checker_of : (List (Str × Ty)) → (List (Str × Bool)) → (List Int) → Tm → (List Decl) → Option (Ty × Int × (List Int))) (rec_typing_checker_child : (List (Str × Ty)) → (List (Str × Bool)) → (List Int) → Tm → Int → (List Decl) → Option (Ty × Int × (List Int))) (p0 : List (Str × Ty)) (p1 : List (Str × Bool)) (p2 : List Int) (p3 : Tm) (p4 : Int) (p5 : List Decl) : Option (Ty × Int × (List Int)) := ((app 8 p2 ([p4])).bind fun x1 => ((idx p3.kids p4).bind fun x2 => ((rec_typing_checker_of p0 p1 x1 x2 p5).bind fun x3 => (((cond (x3.2.1 == 0) ((mZ x3.2.2 0 (IntKind.wrap .i64 ((x3.2.2.length : Int) - 1))).bind fun x4 => some x4) (some x3.2.2)) : Option (List Int)).bind fun s1 => some (x3.1, x3.2.1, s1)))))
mutual
def iL : Nat → (List (Str × Ty)) → (List (Str × Bool)) → (List Int) → Tm → (List Decl) → Option (Ty × Int × (List Int))
 | 0, _, _, _, _, _ => none
 | n + 1, p0, p1, p2, p3, p4 => mO n (fun p0 p1 p2 p3 p4 => iL n p0 p1 p2 p3 p4) (fun p0 p1 p2 p3 p4 p5 => gH n p0 p1 p2 p3 p4 p5) p0 p1 p2 p3 p4
def gH : Nat → (List (Str × Ty)) → (List (Str × Bool)) → (List Int) → Tm → Int → (List Decl) → Option (Ty × Int × (List Int))
 | 0, _, _, _, _, _, _ => none
 | n + 1, p0, p1, p2, p3, p4, p5 => kQ n (fun p0 p1 p2 p3 p4 => iL n p0 p1 p2 p3 p4) (fun p0 p1 p2 p3 p4 p5 => gH n p0 p1 p2 p3 p4 p5) p0 p1 p2 p3 p4 p5
end
def qA (n : Nat) (rec_typing_copyType : Ty → Option Ty) (p0 : Ty) : Nat → (Int × (List Ty)) → Option (LR (List Ty) Ty)
 | 0, _ => none
 | k + 1, s1 => (cond (decide (s1.1 < (p0.kids.length : Int))) ((idx p0.kids s1.1).bind fun x1 => ((rec_typing_copyType x1).bind fun x2 => ((app 48 s1.2 ([x2])).bind fun x3 => qA n rec_typing_copyType p0 k ((s1.1 + 1), x3)))) (some (.nx s1.2)))
def oP (n : Nat) (rec_typing_copyType : Ty → Option Ty) (p0 : Ty) : Option Ty := ((qA n rec_typing_copyType p0 n (0, ([] : List Ty))).bind (LR.el (fun s2 => some (Ty.mk p0.kind p0.name s2)) (fun r => some r)))
def gB : Nat → Ty → Option Ty
 | 0, _ => none
 | n + 1, p0 => oP n (fun p0 => gB n p0) p0
def eH (n : Nat) (p0 : Env) (p1 : Tm) : Option (Ty × (List Int) × Int) := ((((iB n p0).bind fun x5 => (cond (!x5) (some true) ((xI n p1).bind fun x6 => some (!x6)))) : Option Bool).bind fun s1 => (cond s1 (some ((Ty.mk 0 ([] : Str) ([])), ([] : List Int), 1)) ((rU n p0).bind fun x1 => ((iL n x1.1 x1.2 ([] : List Int) p1 ([] : List Decl)).bind fun x2 => (cond (x2.2.1 != 0) ((slices_Clone_int n x2.2.2).bind fun x3 => some ((Ty.mk 0 ([] : Str) ([])), x3, x2.2.1)) ((gB n x2.1).bind fun x4 => some (x4, ([] : List Int), 0)))))))
def CK (n : Nat) (p0 : Int) : Option Bool := (((cond (decide (97 ≤ p0)) (cond (decide (p0 ≤ 122)) (some true) (cond (decide (65 ≤ p0)) (some (decide (p0 ≤ 90))) (some false))) (cond (decide (65 ≤ p0)) (some (decide (p0 ≤ 90))) (some false))) : Option Bool).bind fun s1 => some s1)
def Ho (n : Nat) (p0 : Str) (p1 : List Str) : Nat → Int → Option (LR Unit Bool)
 | 0, _ => none
 | k + 1, s1 => (cond (decide (s1 < (p1.length : Int))) ((idx p1 s1).bind fun x1 => (cond (x1 == p0) (some (.rt true)) (Ho n p0 p1 k (s1 + 1)))) (some (.nx ())))
def mq (n : Nat) (p0 : Str) (p1 : List Str) : Option Bool := ((Ho n p0 p1 n 0).bind (LR.el (fun s2 => some false) (fun r => some r)))
def DV (n : Nat) (p0 : Str) : Option Bool := ((mq n p0 ([([116, 114, 117, 101] : Str), ([102, 97, 108, 115, 101] : Str), ([110, 111, 116] : Str), ([111, 114] : Str), ([102, 111, 114, 97, 108, 108] : Str), ([101, 120, 105, 115, 116, 115] : Str), ([105, 110] : Str), ([110, 111, 116, 105, 110] : Str), ([115, 117, 98] : Str), ([109, 111, 100] : Str), ([102, 117, 110] : Str), ([99, 97, 114, 100] : Str), ([109, 105, 110] : Str), ([109, 97, 120] : Str), ([100, 111, 109] : Str), ([114, 97, 110] : Str), ([80, 79, 87] : Str), ([105, 110, 116] : Str), ([98, 111, 111, 108] : Str), ([115, 101, 116] : Str), ([112, 97, 105, 114] : Str)])).bind fun x1 => some x1)
def EF (n : Nat) (p0 : Int) : Option Bool := (((cond (decide (48 ≤ p0)) (some (decide (p0 ≤ 57))) (some false)) : Option Bool).bind fun s1 => some s1)
def qb (n : Nat) (p0 : Str) : Nat → Int → Option (LR Unit Bool)
 | 0, _ => none
 | k + 1, s2 => (cond (decide (s2 < (p0.length : Int))) ((((xG p0 s2).bind fun x1 => ((CK n x1).bind fun x2 => (cond (!x2) ((xG p0 s2).bind fun x3 => ((EF n x3).bind fun x4 => (cond (!x4) ((xG p0 s2).bind fun x5 => some (x5 != 95)) (some false)))) (some false)))) : Option Bool).bind fun s4 => (cond s4 (some (.rt false)) (qb n p0 k (s2 + 1)))) (some (.nx ())))
def gV (n : Nat) (p0 : Str) : Option Bool := (((cond (decide ((p0.length : Int) < 1)) (some true) (cond (decide (16 < (p0.length : Int))) (some true) ((xG p0 0).bind fun x6 => ((CK n x6).bind fun x7 => (cond (!x7) (some true) ((DV n p0).bind fun x8 => some x8)))))) : Option Bool).bind fun s1 => (cond s1 (some false) ((qb n p0 n 1).bind (LR.el (fun s3 => some true) (fun r => some r)))))
def xu (n : Nat) (p0 : Str) : Option Bool := (((cond (decide (1 < (p0.length : Int))) ((xG p0 ((p0.length : Int) - 1)).bind fun x1 => (cond (x1 == 39) ((mZ p0 0 ((p0.length : Int) - 1)).bind fun x2 => ((gV n x2).bind fun x3 => some x3)) (some false))) (some false)) : Option Bool).bind fun s1 => some s1)
def xM (n : Nat) (p0 : Str) : Option Bool := ((((gV n p0).bind fun x1 => (cond x1 (some true) ((xu n p0).bind fun x2 => some x2))) : Option Bool).bind fun s1 => some s1)
def vK (n : Nat) (rec_R1_typed : Ty → Int → Int → Option Int) (p0 : Ty) (p1 : Int) : Nat → (Int × Int) → Option (LR Int Int)
 | 0, _ => none
 | k + 1, s4 => (cond (decide (s4.2 < (p0.kids.length : Int))) ((idx p0.kids s4.2).bind fun x1 => ((rec_R1_typed x1 (IntKind.wrap .i64 (p1 + 1)) s4.1).bind fun x2 => (cond (decide (x2 < 0)) (some (.rt (-1))) (vK n rec_R1_typed p0 p1 k (x2, (s4.2 + 1)))))) (some (.nx s4.1)))
def yw (n : Nat) (rec_R1_typed : Ty → Int → Int → Option Int) (p0 : Ty) (p1 : Int) (p2 : Int) : Option Int := (((cond (decide (6 < p1)) (some true) (cond (decide (16 < (IntKind.wrap .i64 (p2 + 1)))) (some true) (cond (p0.kind == 2) (some (decide (1 < p1))) (some false)))) : Option Bool).bind fun s1 => (cond s1 (some (-1)) (((((cond (p0.kind == 1) (some (p0.kind == 1)) (cond (p0.kind == 2) (some (p0.kind == 2)) (some (p0.kind == 3)))) : Option Bool).bind fun s6 => (cond s6 (some (.nx 0)) (cond (p0.kind == 5) (some (.nx 1)) (cond (p0.kind == 4) (some (.nx 2)) (some (.rt (-1))))))) : Option (LR Int Int)).bind (LR.el (fun s2 => (((cond ((p0.kids.length : Int) != s2) (some true) (cond (p0.kind == 3) ((gV n p0.name).bind fun x3 => (cond (!x3) (some true) (cond (p0.kind != 3) (some (!(p0.name == ([] : Str)))) (some false)))) (cond (p0.kind != 3) (some (!(p0.name == ([] : Str)))) (some false)))) : Option Bool).bind fun s3 => (cond s3 (some (-1)) ((vK n rec_R1_typed p0 p1 n ((IntKind.wrap .i64 (p2 + 1)), 0)).bind (LR.el (fun s5 => some s5) (fun r => some r)))))) (fun r => some r)))))
def rG : Nat → Ty → Int → Int → Option Int
 | 0, _, _, _ => none
 | n + 1, p0, p1, p2 => yw n (fun p0 p1 p2 => rG n p0 p1 p2) p0 p1 p2
def iC (n : Nat) (p0 : Ty) : Option Bool := ((rG n p0 1 0).bind fun x1 => some (decide (0 < x1)))
def LY (n : Nat) (p0 : Int) : Option Int := (((cond (p0 == 1) (some true) (cond (p0 == 2) (some true) (cond (p0 == 19) (some true) (cond (p0 == 20) (some true) (some (p0 == 29)))))) : Option Bool).bind fun s1 => (cond s1 (some 0) (((cond (p0 == 3) (some true) (cond (p0 == 21) (some true) (cond (decide (46 ≤ p0)) (some (decide (p0 ≤ 52))) (some false)))) : Option Bool).bind fun s2 => (cond s2 (some 1) (cond (p0 == 28) (some (-1)) (((cond (decide (4 ≤ p0)) (some (decide (p0 ≤ 56))) (some false)) : Option Bool).bind fun s3 => (cond s3 (some 2) (some (-2)))))))))
def jh (n : Nat) (p0 : Int) : Option Bool := (((cond (p0 == 8) (some true) (cond (p0 == 9) (some true) (cond (p0 == 55) (some true) (some (p0 == 56))))) : Option Bool).bind fun s1 => some s1)
def Ba (n : Nat) (p0 : Ty) : Option Bool := (((cond (p0.kind == 0) (cond (p0.name == ([] : Str)) (some ((p0.kids.length : Int) == 0)) (some false)) (some false)) : Option Bool).bind fun s1 => some s1)
def L6 (n : Nat) (p0 : Tm) : Option Bool := ((LY n p0.op).bind fun x1 => (((cond (x1 == (-2)) (some true) (cond (x1 == (-1)) (cond ((p0.kids.length : Int) == 0) (some true) (cond (decide (0 ≤ x1)) (some ((p0.kids.length : Int) != x1)) (some false))) (cond (decide (0 ≤ x1)) (some ((p0.kids.length : Int) != x1)) (some false)))) : Option Bool).bind fun s1 => (cond s1 (some false) (((cond (p0.op == 20) ((xM n p0.name).bind fun x4 => (cond (!x4) (some (.rt false)) (some (.nx ())))) ((jh n p0.op).bind fun x5 => (cond x5 ((gV n p0.name).bind fun x6 => (cond (!x6) (some (.rt false)) (some (.nx ())))) (cond (!(p0.name == ([] : Str))) (some (.rt false)) (some (.nx ())))))) : Option (LR Unit Bool)).bind (LR.el (fun s2 => (((cond (p0.op == 19) (cond (decide (p0.n < 0)) (some true) (cond (decide (1000000000 < p0.n)) (some true) (cond (p0.op != 19) (some (p0.n != 0)) (some false)))) (cond (p0.op != 19) (some (p0.n != 0)) (some false))) : Option Bool).bind fun s3 => (cond s3 (some false) (cond (p0.op == 29) ((((iC n p0.ty).bind fun x2 => (cond x2 (some (p0.ty.kind != 2)) (some false))) : Option Bool).bind fun s4 => some s4) ((Ba n p0.ty).bind fun x3 => some x3))))) (fun r => some r))))))
def Bw (n : Nat) (rec_R1_nodes : Tm → Int → Int → Option Int) (p0 : Tm) (p1 : Int) : Nat → (Int × Int) → Option (LR Int Int)
 | 0, _ => none
 | k + 1, s2 => (cond (decide (s2.2 < (p0.kids.length : Int))) ((idx p0.kids s2.2).bind fun x1 => ((rec_R1_nodes x1 (IntKind.wrap .i64 (p1 + 1)) s2.1).bind fun x2 => (cond (decide (x2 < 0)) (some (.rt (-1))) (Bw n rec_R1_nodes p0 p1 k (x2, (s2.2 + 1)))))) (some (.nx s2.1)))
def yP (n : Nat) (rec_R1_nodes : Tm → Int → Int → Option Int) (p0 : Tm) (p1 : Int) (p2 : Int) : Option Int := (((cond (decide (64 < p1)) (some true) (cond (decide (2000 < (IntKind.wrap .i64 (p2 + 1)))) (some true) ((L6 n p0).bind fun x3 => some (!x3)))) : Option Bool).bind fun s1 => (cond s1 (some (-1)) ((Bw n rec_R1_nodes p0 p1 n ((IntKind.wrap .i64 (p2 + 1)), 0)).bind (LR.el (fun s3 => some s3) (fun r => some r)))))
def tL : Nat → Tm → Int → Int → Option Int
 | 0, _, _, _ => none
 | n + 1, p0, p1, p2 => yP n (fun p0 p1 p2 => tL n p0 p1 p2) p0 p1 p2
def jS (n : Nat) (p0 : Tm) : Option Bool := ((tL n p0 1 0).bind fun x1 => some (decide (0 < x1)))
def tq (n : Nat) (rec_R1_SameType : Ty → Ty → Option Bool) (p0 : Ty) (p1 : Ty) : Nat → Int → Option (LR Unit Bool)
 | 0, _ => none
 | k + 1, s2 => (cond (decide (s2 < (p0.kids.length : Int))) ((idx p0.kids s2).bind fun x1 => ((idx p1.kids s2).bind fun x2 => ((rec_R1_SameType x1 x2).bind fun x3 => (cond (!x3) (some (.rt false)) (tq n rec_R1_SameType p0 p1 k (s2 + 1)))))) (some (.nx ())))
def ny (n : Nat) (rec_R1_SameType : Ty → Ty → Option Bool) (p0 : Ty) (p1 : Ty) : Option Bool := (((cond (p0.kind != p1.kind) (some true) (cond (!(p0.name == p1.name)) (some true) (some ((p0.kids.length : Int) != (p1.kids.length : Int))))) : Option Bool).bind fun s1 => (cond s1 (some false) ((tq n rec_R1_SameType p0 p1 n 0).bind (LR.el (fun s3 => some true) (fun r => some r)))))
def bL : Nat → Ty → Ty → Option Bool
 | 0, _, _ => none
 | n + 1, p0, p1 => ny n (fun p0 p1 => bL n p0 p1) p0 p1
def wR (n : Nat) (rec_R1_CopyType : Ty → Option Ty) (p0 : Ty) : Nat → (Int × (List Ty)) → Option (LR (List Ty) Ty)
 | 0, _ => none
 | k + 1, s1 => (cond (decide (s1.1 < (p0.kids.length : Int))) ((idx p0.kids s1.1).bind fun x1 => ((rec_R1_CopyType x1).bind fun x2 => ((app 48 s1.2 ([x2])).bind fun x3 => wR n rec_R1_CopyType p0 k ((s1.1 + 1), x3)))) (some (.nx s1.2)))
def uw (n : Nat) (rec_R1_CopyType : Ty → Option Ty) (p0 : Ty) : Option Ty := ((wR n rec_R1_CopyType p0 n (0, ([] : List Ty))).bind (LR.el (fun s2 => some (Ty.mk p0.kind p0.name s2)) (fun r => some r)))
def iA : Nat → Ty → Option Ty
 | 0, _ => none
 | n + 1, p0 => uw n (fun p0 => iA n p0) p0
end Abs
end Go.Proofs.YtiiaccpcoclklaaGreat
