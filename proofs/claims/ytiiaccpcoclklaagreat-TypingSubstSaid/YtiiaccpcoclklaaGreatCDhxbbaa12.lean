/-
  The plain functions of the program (printed by gen.py). Conditions: none.
-/
import Derived.Test.YtiiaccpcoclklaaGreatCDgx5c904c
set_option linter.unusedSimpArgs false
set_option linter.unusedVariables false
namespace Go.Proofs.YtiiaccpcoclklaaGreat
namespace Abs
open Go Go.Proofs
set_option maxRecDepth 100000
set_option maxHeartbeats 40000000
def Ac (n : Nat) (p0 : List Str) (p1 : Str) : Option (List Str) := ((app 16 ([] : List Str) p0).bind fun x1 => ((app 16 x1 ([p1])).bind fun x2 => some x2))
def Bu (n : Nat) (rec_R1_free : Tm → (List Str) → Option (List Str)) (p0 : Tm) (p1 : List Str) : Nat → ((List Str) × Int) → Option (LR (List Str) (List Str))
 | 0, _ => none
 | k + 1, s1 => (cond (decide (s1.2 < (p0.kids.length : Int))) ((((((kI n p0.op).bind fun x6 => (cond x6 (some (s1.2 == 1)) (some false))) : Option Bool).bind fun s4 => (cond s4 ((Ac n p1 p0.name).bind fun x5 => some x5) (some p1))) : Option (List Str)).bind fun s3 => ((idx p0.kids s1.2).bind fun x2 => ((rec_R1_free x2 s3).bind fun x3 => ((app 16 s1.1 x3).bind fun x4 => Bu n rec_R1_free p0 p1 k (x4, (s1.2 + 1)))))) (some (.nx s1.1)))
def xu (n : Nat) (rec_R1_free : Tm → (List Str) → Option (List Str)) (p0 : Tm) (p1 : List Str) : Option (List Str) := (cond (p0.op == 20) ((nZ n p0.name p1).bind fun x1 => (cond x1 (some ([] : List Str)) (some ([p0.name])))) ((Bu n rec_R1_free p0 p1 n (([] : List Str), 0)).bind (LR.el (fun s2 => some s2) (fun r => some r))))
def oG : Nat → Tm → (List Str) → Option (List Str)
 | 0, _, _ => none
 | n + 1, p0, p1 => xu n (fun p0 p1 => oG n p0 p1) p0 p1
end Abs
end Go.Proofs.YtiiaccpcoclklaaGreat
