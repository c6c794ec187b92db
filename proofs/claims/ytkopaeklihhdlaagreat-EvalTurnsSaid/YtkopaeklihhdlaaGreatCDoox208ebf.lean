/-
  The plain functions of the program (printed by gen.py). Conditions: none.
-/
import Derived.Test.YtkopaeklihhdlaaGreatCDnox6c6596
import Derived.Test.YtkopaeklihhdlaaGreatCExtJoxd17ac8
set_option linter.unusedSimpArgs false
set_option linter.unusedVariables false
namespace Go.Proofs.YtkopaeklihhdlaaGreat
namespace Abs
open Go Go.Proofs
set_option maxRecDepth 100000
set_option maxHeartbeats 40000000
def oF (n : Nat) (qdy : Ty → Option Ty) (p0 : Ty) : Nat → ((List Ty) × Int) → Option (LR (List Ty) Ty)
 | 0, _ => none
 | k + 1, s1 => (cond (decide (s1.2 < (p0.kids.length : Int))) ((idx s1.1 s1.2).bind fun x3 => ((qdy x3).bind fun x4 => ((idx s1.1 s1.2).bind fun x5 => oF n qdy p0 k ((upd s1.1 s1.2 x4), (s1.2 + 1))))) (some (.nx s1.1)))
def mg (n : Nat) (qdy : Ty → Option Ty) (p0 : Ty) : Option Ty := ((vv n p0.kids).bind fun x1 => ((wu n p0.kids).bind fun x2 => ((oF n qdy p0 n (p0.kids, 0)).bind (LR.el (fun s2 => some (Ty.mk p0.kind p0.name s2)) (fun r => some r)))))
def gV : Nat → Ty → Option Ty
 | 0, _ => none
 | n + 1, p0 => mg n (fun p0 => gV n p0) p0
def oQ (n : Nat) (p0 : Env) : Nat → ((List Carrier) × Int) → Option (LR (List Carrier) Env)
 | 0, _ => none
 | k + 1, s1 => (cond (decide (s1.2 < (p0.carriers.length : Int))) ((idx s1.1 s1.2).bind fun x8 => ((slices_Clone_string n x8.elems).bind fun x9 => ((kL n x9).bind fun x10 => ((idx s1.1 s1.2).bind fun x11 => oQ n p0 k ((upd s1.1 s1.2 (Carrier.mk x11.name x10)), (s1.2 + 1)))))) (some (.nx s1.1)))
def pG (n : Nat) (p0 : Env) : Nat → ((List Decl) × Int) → Option (LR (List Decl) Env)
 | 0, _ => none
 | k + 1, s3 => (cond (decide (s3.2 < (p0.names.length : Int))) ((idx s3.1 s3.2).bind fun x5 => ((gV n x5.ty).bind fun x6 => ((idx s3.1 s3.2).bind fun x7 => pG n p0 k ((upd s3.1 s3.2 (Decl.mk x7.name x6)), (s3.2 + 1))))) (some (.nx s3.1)))
def uj (n : Nat) (p0 : Env) : Option Env := ((rF n p0.carriers).bind fun x1 => ((sM n p0.carriers).bind fun x2 => ((uY n p0.names).bind fun x3 => ((wB n p0.names).bind fun x4 => ((oQ n p0 n (p0.carriers, 0)).bind (LR.el (fun s2 => ((pG n p0 n (p0.names, 0)).bind (LR.el (fun s4 => some (Env.mk s2 s4)) (fun r => some r)))) (fun r => some r)))))))
def lg (n : Nat) (p0 : S_api_World) : Nat → (Int × (List Val)) → Option (LR (List Val) ((List Carrier) × (List Decl) × (List Int) × (List Val)))
 | 0, _ => none
 | k + 1, s1 => (cond (decide (s1.1 < (p0.values.length : Int))) ((idx p0.values s1.1).bind fun x5 => ((gG n x5).bind fun x6 => ((app 56 s1.2 ([x6])).bind fun x7 => lg n p0 k ((s1.1 + 1), x7)))) (some (.nx s1.2)))
def lQ (n : Nat) (p0 : S_api_World) : Option ((List Carrier) × (List Decl) × (List Int) × (List Val)) := ((uj n p0.env).bind fun x1 => ((slices_Clone_int n p0.sizes).bind fun x2 => ((p9 n x2).bind fun x3 => ((lg n p0 n (0, ([] : List Val))).bind (LR.el (fun s2 => ((mV n s2).bind fun x4 => some (x1.carriers, x1.names, x3, s2))) (fun r => some r))))))
def qG (n : Nat) (p0 : List Val) : Nat → ((List Val) × Int) → Option (LR (List Val) (List Val))
 | 0, _ => none
 | k + 1, s1 => (cond (decide (s1.2 < (p0.length : Int))) ((idx p0 s1.2).bind fun x1 => ((kM n x1).bind fun x2 => ((app 56 s1.1 ([x2])).bind fun x3 => qG n p0 k (x3, (s1.2 + 1))))) (some (.nx s1.1)))
def zi (n : Nat) (p0 : List Val) : Option (List Val) := ((qG n p0 n (([] : List Val), 0)).bind (LR.el (fun s2 => some s2) (fun r => some r)))
def nS (n : Nat) (p0 : S_api_World) : Option ((List Carrier) × (List Decl) × (List Int) × (List Val)) := ((nI n p0.env).bind fun x1 => ((app 8 ([] : List Int) p0.sizes).bind fun x2 => ((zi n p0.values).bind fun x3 => some (x1.1, x1.2, x2, x3))))
def qw (n : Nat) (p0 : List Int) (p1 : List Int) : Nat → Int → Option (LR Unit Bool)
 | 0, _ => none
 | k + 1, s1 => (cond (decide (s1 < (p0.length : Int))) ((idx p0 s1).bind fun x1 => ((idx p1 s1).bind fun x2 => (cond (x1 != x2) (some (.rt false)) (qw n p0 p1 k (s1 + 1))))) (some (.nx ())))
def vQ (n : Nat) (p0 : List Int) (p1 : List Int) : Option Bool := (cond ((p0.length : Int) != (p1.length : Int)) (some false) ((qw n p0 p1 n 0).bind (LR.el (fun s2 => some true) (fun r => some r))))
def oD (n : Nat) (p0 : S_api_World) (p1 : S_api_World) : Option Bool := ((((rH n p0.env p1.env).bind fun x1 => (cond x1 ((vQ n p0.sizes p1.sizes).bind fun x2 => (cond x2 ((iN n p0.values p1.values).bind fun x3 => some x3) (some false))) (some false))) : Option Bool).bind fun s1 => some s1)
end Abs
end Go.Proofs.YtkopaeklihhdlaaGreat
