/-
  The plain functions of the program (printed by gen.py). Conditions: none.
-/
import Derived.Test.YtiiaccpcoclklaaGreatCDix50535f
set_option linter.unusedSimpArgs false
set_option linter.unusedVariables false
namespace Go.Proofs.YtiiaccpcoclklaaGreat
namespace Abs
open Go Go.Proofs
set_option maxRecDepth 100000
set_option maxHeartbeats 40000000
structure S_refinementlaw02_Put where
  path : List Int
  term : Tm
def EF (n : Nat) (p1 : List Int) : Nat → (Int × Int × Str × Int × Int × Str × (List Ty) × (List Tm)) → Option (LR (Int × Str × Int × Int × Str × (List Ty) × (List Tm)) (Tm × Int))
 | 0, _ => none
 | k + 1, s1 => (cond (decide (s1.1 < (p1.length : Int))) ((((idx p1 s1.1).bind fun (x5 : Int) => (cond (decide (x5 < 0)) (some true) ((idx p1 s1.1).bind fun (x6 : Int) => some (decide ((s1.2.2.2.2.2.2.2.length : Int) ≤ x6))))) : Option Bool).bind fun (s3 : Bool) => (cond s3 (some (.rt ((Tm.mk 0 ([] : Str) 0 (Ty.mk 0 ([] : Str) ([])) ([])), 12))) ((idx p1 s1.1).bind fun (x3 : Int) => ((idx s1.2.2.2.2.2.2.2 x3).bind fun (x4 : Tm) => EF n p1 k ((s1.1 + 1), x4.op, x4.name, x4.n, x4.ty.kind, x4.ty.name, x4.ty.kids, x4.kids))))) (some (.nx (s1.2.1, s1.2.2.1, s1.2.2.2.1, s1.2.2.2.2.1, s1.2.2.2.2.2.1, s1.2.2.2.2.2.2.1, s1.2.2.2.2.2.2.2))))
def JX (n : Nat) (p0 : Tm) (p1 : List Int) : Option (Tm × Int) := ((l6 n p0).bind fun (x1 : Bool) => (cond (!x1) (some ((Tm.mk 0 ([] : Str) 0 (Ty.mk 0 ([] : Str) ([])) ([])), 1)) ((EF n p1 n (0, p0.op, p0.name, p0.n, p0.ty.kind, p0.ty.name, p0.ty.kids, p0.kids)).bind (LR.el (fun (s2 : Int × Str × Int × Int × Str × (List Ty) × (List Tm)) => ((mh n (Tm.mk s2.1 s2.2.1 s2.2.2.1 (Ty.mk s2.2.2.2.1 s2.2.2.2.2.1 s2.2.2.2.2.2.1) s2.2.2.2.2.2.2)).bind fun (x2 : Tm) => some (x2, 0))) (fun r => some r)))))
def yO (n : Nat) (p1 : List Int) : Nat → ((List Str) × Int × Int × Str × Int × Int × Str × (List Ty) × (List Tm)) → Option (LR (List Str) ((List Str) × Int))
 | 0, _ => none
 | k + 1, s1 => (cond (decide (s1.2.1 < (p1.length : Int))) ((((((kI n s1.2.2.1).bind fun (x5 : Bool) => (cond x5 ((idx p1 s1.2.1).bind fun (x6 : Int) => some (x6 == 1)) (some false))) : Option Bool).bind fun (s4 : Bool) => (cond s4 ((app 16 s1.1 ([s1.2.2.2.1])).bind fun (x4 : List Str) => some x4) (some s1.1))) : Option (List Str)).bind fun (s3 : List Str) => ((idx p1 s1.2.1).bind fun (x2 : Int) => ((idx s1.2.2.2.2.2.2.2.2 x2).bind fun (x3 : Tm) => yO n p1 k (s3, (s1.2.1 + 1), x3.op, x3.name, x3.n, x3.ty.kind, x3.ty.name, x3.ty.kids, x3.kids)))) (some (.nx s1.1)))
def FB (n : Nat) (p0 : Tm) (p1 : List Int) : Option ((List Str) × Int) := ((JX n p0 p1).bind fun (x1 : Tm × Int) => (cond (x1.2 != 0) (some (([] : List Str), x1.2)) ((yO n p1 n (([] : List Str), 0, p0.op, p0.name, p0.n, p0.ty.kind, p0.ty.name, p0.ty.kids, p0.kids)).bind (LR.el (fun (s2 : List Str) => some (s2, 0)) (fun r => some r)))))
def uQ (n : Nat) (p0 : List Tm) : Nat → ((List Tm) × Int) → Option (LR (List Tm) (List Tm))
 | 0, _ => none
 | k + 1, s1 => (cond (decide (s1.2 < (p0.length : Int))) ((idx p0 s1.2).bind fun (x1 : Tm) => ((mh n x1).bind fun (x2 : Tm) => ((app 104 s1.1 ([x2])).bind fun (x3 : List Tm) => uQ n p0 k (x3, (s1.2 + 1))))) (some (.nx s1.1)))
def y7 (n : Nat) (p0 : List Tm) : Option (List Tm) := ((uQ n p0 n (([] : List Tm), 0)).bind (LR.el (fun (s2 : List Tm) => some s2) (fun r => some r)))
def Af (n : Nat) (p0 : Tm) : Option (Int × Str × (List Ty) × (List Tm)) := ((kN n p0.ty).bind fun (x1 : Ty) => ((y7 n p0.kids).bind fun (x2 : List Tm) => some (x1.kind, x1.name, x1.kids, x2)))
def tY (n : Nat) (rec_R1_put : Tm → (List Int) → Tm → Option Tm) (p0 : Tm) (p1 : List Int) (p2 : Tm) : Option Tm := (cond ((p1.length : Int) == 0) ((Af n p2).bind fun (x1 : Int × Str × (List Ty) × (List Tm)) => some (Tm.mk p2.op p2.name p2.n (Ty.mk x1.1 x1.2.1 x1.2.2.1) x1.2.2.2)) ((Af n p0).bind fun (x2 : Int × Str × (List Ty) × (List Tm)) => ((idx p1 0).bind fun (x3 : Int) => ((idx p1 0).bind fun (x4 : Int) => ((idx p0.kids x4).bind fun (x5 : Tm) => ((ny p1 1 (p1.length : Int)).bind fun (x6 : List Int) => ((rec_R1_put x5 x6 p2).bind fun (x7 : Tm) => ((idx x2.2.2.2 x3).bind fun (x8 : Tm) => some (Tm.mk p0.op p0.name p0.n (Ty.mk x2.1 x2.2.1 x2.2.2.1) (upd x2.2.2.2 x3 x7))))))))))
def AZ : Nat → Tm → (List Int) → Tm → Option Tm
 | 0, _, _, _ => none
 | n + 1, p0, p1, p2 => tY n (fun p0 p1 p2 => AZ n p0 p1 p2) p0 p1 p2
def AY (n : Nat) (p0 : Tm) (p1 : List Int) (p2 : Tm) : Option (Tm × Int) := ((((l6 n p0).bind fun (x4 : Bool) => (cond (!x4) (some true) ((l6 n p2).bind fun (x5 : Bool) => some (!x5)))) : Option Bool).bind fun (s1 : Bool) => (cond s1 (some ((Tm.mk 0 ([] : Str) 0 (Ty.mk 0 ([] : Str) ([])) ([])), 1)) ((JX n p0 p1).bind fun (x1 : Tm × Int) => (cond (x1.2 != 0) (some ((Tm.mk 0 ([] : Str) 0 (Ty.mk 0 ([] : Str) ([])) ([])), x1.2)) ((AZ n p0 p1 p2).bind fun (x2 : Tm) => ((l6 n x2).bind fun (x3 : Bool) => (cond (!x3) (some ((Tm.mk 0 ([] : Str) 0 (Ty.mk 0 ([] : Str) ([])) ([])), 5)) (some (x2, 0)))))))))
def uE (n : Nat) (p0 : Env) (p1 : Tm) (p2 : S_refinementlaw02_Put) : Option Bool := ((tZ n p0).bind fun (x1 : Bool) => (cond (!x1) ((gu n).bind fun (x2 : Bool) => some x2) ((iy n p0 p1).bind fun (x3 : Ty × (List Int) × Int) => ((JX n p1 p2.path).bind fun (x4 : Tm × Int) => ((FB n p1 p2.path).bind fun (x5 : (List Str) × Int) => (((cond (x3.2.2 != 0) (some true) (cond (x4.2 != 0) (some true) (some (decide (0 < (x5.1.length : Int)))))) : Option Bool).bind fun (s1 : Bool) => (cond s1 ((gu n).bind fun (x6 : Bool) => some x6) ((iy n p0 x4.1).bind fun (x7 : Ty × (List Int) × Int) => ((iy n p0 p2.term).bind fun (x8 : Ty × (List Int) × Int) => (cond (x7.2.2 != 0) (some false) ((AY n p1 p2.path p2.term).bind fun (x9 : Tm × Int) => (((cond (x8.2.2 != 0) (some true) (cond (x9.2 != 0) (some true) ((bO n x7.1 x8.1).bind fun (x14 : Bool) => some (!x14)))) : Option Bool).bind fun (s2 : Bool) => (cond s2 ((gu n).bind fun (x10 : Bool) => some x10) ((iy n p0 x9.1).bind fun (x11 : Ty × (List Int) × Int) => (((cond (x11.2.2 == 0) ((bO n x3.1 x11.1).bind fun (x12 : Bool) => (cond x12 ((gu n).bind fun (x13 : Bool) => some x13) (some false))) (some false)) : Option Bool).bind fun (s3 : Bool) => some s3)))))))))))))))
end Abs
end Go.Proofs.YtiiaccpcoclklaaGreat
