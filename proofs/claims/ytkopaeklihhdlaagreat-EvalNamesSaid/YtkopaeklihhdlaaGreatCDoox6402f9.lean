/-
  The plain functions of the program (printed by gen.py). Conditions: none.
-/
import Derived.Test.YtkopaeklihhdlaaGreatCDnox4fa3fa
import Derived.Test.YtkopaeklihhdlaaGreatCExtJoxf4ba54
set_option linter.unusedSimpArgs false
set_option linter.unusedVariables false
namespace Go.Proofs.YtkopaeklihhdlaaGreat
namespace Abs
open Go Go.Proofs
set_option maxRecDepth 100000
set_option maxHeartbeats 40000000
def Ga (n : Nat) (p0 : Decl) (p1 : Str) : Option Bool := some (p0.name == p1)
def jZ (n : Nat) (p0 : List Decl) (p1 : Str) : Option Int := ((eF n p0 p1 n 0).bind (LR.el (fun s2 => some (-1)) (fun r => some r)))
def tq (n : Nat) (p0 : S_api_World) (p1 : Str) : Option Int := ((jZ n p0.env.names p1).bind fun x1 => some x1)
def sU (n : Nat) (p0 : S_api_World) (p1 : Str) : Option (Val × Bool) := ((jQ n p0).bind fun x1 => (cond (!x1) (some ((Val.mk 0 0 ([] : Str) ([])), false)) ((tq n p0 p1).bind fun x2 => (cond (decide (x2 < 0)) (some ((Val.mk 0 0 ([] : Str) ([])), false)) ((idx p0.values x2).bind fun x3 => ((gu n x3).bind fun x4 => some (x4, true)))))))
def zY (n : Nat) (p0 : S_api_World) (p1 : Str) : Option (Val × Bool) := ((jL n p0.env p1).bind fun x1 => ((((kE n p0).bind fun x4 => (cond (!x4) (some true) (some (decide (x1 < 0))))) : Option Bool).bind fun s1 => (cond s1 (some ((Val.mk 0 0 ([] : Str) ([])), false)) ((idx p0.values x1).bind fun x2 => ((kC n x2).bind fun x3 => some (x3, true))))))
def nE (n : Nat) (qdp : Ty → Option Ty) (p0 : Ty) : Nat → ((List Ty) × Int) → Option (LR (List Ty) Ty)
 | 0, _ => none
 | k + 1, s1 => (cond (decide (s1.2 < (p0.kids.length : Int))) ((idx s1.1 s1.2).bind fun x3 => ((qdp x3).bind fun x4 => ((idx s1.1 s1.2).bind fun x5 => nE n qdp p0 k ((upd s1.1 s1.2 x4), (s1.2 + 1))))) (some (.nx s1.1)))
def lW (n : Nat) (qdp : Ty → Option Ty) (p0 : Ty) : Option Ty := ((uE n p0.kids).bind fun x1 => ((vg n p0.kids).bind fun x2 => ((nE n qdp p0 n (p0.kids, 0)).bind (LR.el (fun s2 => some (Ty.mk p0.kind p0.name s2)) (fun r => some r)))))
def gJ : Nat → Ty → Option Ty
 | 0, _ => none
 | n + 1, p0 => lW n (fun p0 => gJ n p0) p0
def nZ (n : Nat) (p0 : Env) : Nat → ((List Carrier) × Int) → Option (LR (List Carrier) Env)
 | 0, _ => none
 | k + 1, s1 => (cond (decide (s1.2 < (p0.carriers.length : Int))) ((idx s1.1 s1.2).bind fun x8 => ((slices_Clone_string n x8.elems).bind fun x9 => ((ko n x9).bind fun x10 => ((idx s1.1 s1.2).bind fun x11 => nZ n p0 k ((upd s1.1 s1.2 (Carrier.mk x11.name x10)), (s1.2 + 1)))))) (some (.nx s1.1)))
def og (n : Nat) (p0 : Env) : Nat → ((List Decl) × Int) → Option (LR (List Decl) Env)
 | 0, _ => none
 | k + 1, s3 => (cond (decide (s3.2 < (p0.names.length : Int))) ((idx s3.1 s3.2).bind fun x5 => ((gJ n x5.ty).bind fun x6 => ((idx s3.1 s3.2).bind fun x7 => og n p0 k ((upd s3.1 s3.2 (Decl.mk x7.name x6)), (s3.2 + 1))))) (some (.nx s3.1)))
def rU (n : Nat) (p0 : Env) : Option Env := ((qF n p0.carriers).bind fun x1 => ((ru n p0.carriers).bind fun x2 => ((uo n p0.names).bind fun x3 => ((uY n p0.names).bind fun x4 => ((nZ n p0 n (p0.carriers, 0)).bind (LR.el (fun s2 => ((og n p0 n (p0.names, 0)).bind (LR.el (fun s4 => some (Env.mk s2 s4)) (fun r => some r)))) (fun r => some r)))))))
def kU (n : Nat) (p0 : S_api_World) : Nat → (Int × (List Val)) → Option (LR (List Val) ((List Carrier) × (List Decl) × (List Int) × (List Val)))
 | 0, _ => none
 | k + 1, s1 => (cond (decide (s1.1 < (p0.values.length : Int))) ((idx p0.values s1.1).bind fun x5 => ((gu n x5).bind fun x6 => ((app 56 s1.2 ([x6])).bind fun x7 => kU n p0 k ((s1.1 + 1), x7)))) (some (.nx s1.2)))
def nR (n : Nat) (p0 : S_api_World) : Option ((List Carrier) × (List Decl) × (List Int) × (List Val)) := ((rU n p0.env).bind fun x1 => ((slices_Clone_int n p0.sizes).bind fun x2 => ((oU n x2).bind fun x3 => ((kU n p0 n (0, ([] : List Val))).bind (LR.el (fun s2 => ((mG n s2).bind fun x4 => some (x1.carriers, x1.names, x3, s2))) (fun r => some r))))))
def xU (n : Nat) (p0 : S_api_World) (p1 : Str) (p2 : Val) : Option (S_api_World × Int) := ((jQ n p0).bind fun x1 => (cond (!x1) (some ((S_api_World.mk (Env.mk ([]) ([])) ([]) ([])), 1)) ((tq n p0 p1).bind fun x2 => (cond (decide (x2 < 0)) (some ((S_api_World.mk (Env.mk ([]) ([])) ([]) ([])), 6)) ((idx p0.env.names x2).bind fun x3 => ((fu n p0.env p0.sizes p2 x3.ty).bind fun x4 => (cond (!x4) (some ((S_api_World.mk (Env.mk ([]) ([])) ([]) ([])), 7)) ((nR n p0).bind fun x5 => ((gu n p2).bind fun x6 => ((idx x5.2.2.2 x2).bind fun x7 => some ((S_api_World.mk (Env.mk x5.1 x5.2.1) x5.2.2.1 (upd x5.2.2.2 x2 x6)), 0)))))))))))
def ql (n : Nat) (p0 : List Val) : Nat → ((List Val) × Int) → Option (LR (List Val) (List Val))
 | 0, _ => none
 | k + 1, s1 => (cond (decide (s1.2 < (p0.length : Int))) ((idx p0 s1.2).bind fun x1 => ((kC n x1).bind fun x2 => ((app 56 s1.1 ([x2])).bind fun x3 => ql n p0 k (x3, (s1.2 + 1))))) (some (.nx s1.1)))
def yh (n : Nat) (p0 : List Val) : Option (List Val) := ((ql n p0 n (([] : List Val), 0)).bind (LR.el (fun s2 => some s2) (fun r => some r)))
def pV (n : Nat) (p0 : S_api_World) : Option ((List Carrier) × (List Decl) × (List Int) × (List Val)) := ((mQ n p0.env).bind fun x1 => ((app 8 ([] : List Int) p0.sizes).bind fun x2 => ((yh n p0.values).bind fun x3 => some (x1.1, x1.2, x2, x3))))
def GD (n : Nat) (p0 : S_api_World) (p1 : Str) (p2 : Val) : Option (S_api_World × Int) := ((kE n p0).bind fun x1 => (cond (!x1) (some ((S_api_World.mk (Env.mk ([]) ([])) ([]) ([])), 1)) ((jL n p0.env p1).bind fun x2 => (cond (decide (x2 < 0)) (some ((S_api_World.mk (Env.mk ([]) ([])) ([]) ([])), 6)) ((idx p0.env.names x2).bind fun x3 => ((kS n p0.env p0.sizes p2 x3.ty).bind fun x4 => (cond (!x4) (some ((S_api_World.mk (Env.mk ([]) ([])) ([]) ([])), 7)) ((pV n p0).bind fun x5 => ((kC n p2).bind fun x6 => ((idx x5.2.2.2 x2).bind fun x7 => some ((S_api_World.mk (Env.mk x5.1 x5.2.1) x5.2.2.1 (upd x5.2.2.2 x2 x6)), 0)))))))))))
def pU (n : Nat) (p0 : List Int) (p1 : List Int) : Nat → Int → Option (LR Unit Bool)
 | 0, _ => none
 | k + 1, s1 => (cond (decide (s1 < (p0.length : Int))) ((idx p0 s1).bind fun x1 => ((idx p1 s1).bind fun x2 => (cond (x1 != x2) (some (.rt false)) (pU n p0 p1 k (s1 + 1))))) (some (.nx ())))
def uJ (n : Nat) (p0 : List Int) (p1 : List Int) : Option Bool := (cond ((p0.length : Int) != (p1.length : Int)) (some false) ((pU n p0 p1 n 0).bind (LR.el (fun s2 => some true) (fun r => some r))))
def qm (n : Nat) (p0 : S_api_World) (p1 : S_api_World) : Option Bool := ((((qC n p0.env p1.env).bind fun x1 => (cond x1 ((uJ n p0.sizes p1.sizes).bind fun x2 => (cond x2 ((iI n p0.values p1.values).bind fun x3 => some x3) (some false))) (some false))) : Option Bool).bind fun s1 => some s1)
def vT (n : Nat) (p0 : S_api_World) (p1 : Str) (p2 : Val) : Option Bool := ((xI n p0.env).bind fun x1 => (cond (!x1) ((nI n).bind fun x2 => some x2) ((sU n p0 p1).bind fun x3 => ((zY n p0 p1).bind fun x4 => ((xU n p0 p1 p2).bind fun x5 => ((GD n p0 p1 p2).bind fun x6 => (((cond (!(x3.2 == x4.2)) (some true) (cond (x5.2 != x6.2) (some true) ((dN n x3.1 x4.1).bind fun x13 => (cond (!x13) (some true) ((qm n x5.1 x6.1).bind fun x14 => some (!x14)))))) : Option Bool).bind fun s1 => (cond s1 (some false) (cond (x5.2 != 0) ((nI n).bind fun x7 => some x7) ((sU n x5.1 p1).bind fun x8 => ((xU n x5.1 p1 x3.1).bind fun x9 => (((cond x8.2 ((dN n x8.1 p2).bind fun x10 => (cond x10 (cond (x9.2 == 0) ((qm n x9.1 p0).bind fun x11 => (cond x11 ((nI n).bind fun x12 => some x12) (some false))) (some false)) (some false))) (some false)) : Option Bool).bind fun s2 => some s2))))))))))))
end Abs
end Go.Proofs.YtkopaeklihhdlaaGreat
