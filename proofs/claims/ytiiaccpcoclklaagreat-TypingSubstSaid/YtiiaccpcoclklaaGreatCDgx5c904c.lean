/-
  The plain functions of the program (printed by gen.py). Conditions: none.
-/
import Derived.Test.YtiiaccpcoclklaaGreatCDfxa6bced
set_option linter.unusedSimpArgs false
set_option linter.unusedVariables false
namespace Go.Proofs.YtiiaccpcoclklaaGreat
namespace Abs
open Go Go.Proofs
set_option maxRecDepth 100000
set_option maxHeartbeats 40000000
structure S_refinementlaw02_Binding where
  env : Env
  body : Tm
  domain : Tm
  name : Str
def xB (n : Nat) (rec_R1_Copy : Tm → Option Tm) (rec_R1_Copies : (List Tm) → Option (List Tm)) (p0 : Tm) : Option Tm := ((kN n p0.ty).bind fun x1 => ((rec_R1_Copies p0.kids).bind fun x2 => some (Tm.mk p0.op p0.name p0.n x1 x2)))
def xq (n : Nat) (rec_R1_Copy : Tm → Option Tm) (rec_R1_Copies : (List Tm) → Option (List Tm)) (p0 : List Tm) : Nat → ((List Tm) × Int) → Option (LR (List Tm) (List Tm))
 | 0, _ => none
 | k + 1, s1 => (cond (decide (s1.2 < (p0.length : Int))) ((idx p0 s1.2).bind fun x1 => ((rec_R1_Copy x1).bind fun x2 => ((app 104 s1.1 ([x2])).bind fun x3 => xq n rec_R1_Copy rec_R1_Copies p0 k (x3, (s1.2 + 1))))) (some (.nx s1.1)))
def uP (n : Nat) (rec_R1_Copy : Tm → Option Tm) (rec_R1_Copies : (List Tm) → Option (List Tm)) (p0 : List Tm) : Option (List Tm) := ((xq n rec_R1_Copy rec_R1_Copies p0 n (([] : List Tm), 0)).bind (LR.el (fun s2 => some s2) (fun r => some r)))
mutual
def mh : Nat → Tm → Option Tm
 | 0, _ => none
 | n + 1, p0 => xB n (fun p0 => mh n p0) (fun p0 => vC n p0) p0
def vC : Nat → (List Tm) → Option (List Tm)
 | 0, _ => none
 | n + 1, p0 => uP n (fun p0 => mh n p0) (fun p0 => vC n p0) p0
end
end Abs
end Go.Proofs.YtiiaccpcoclklaaGreat
