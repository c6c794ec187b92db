/-
  The plain functions of the program (printed by gen.py). Conditions: none.
-/
import Derived.Test.YtkopaeklihhdlaaGreatCDoox208ebf
import Derived.Test.YtkopaeklihhdlaaGreatCExtMoxcccb3b
set_option linter.unusedSimpArgs false
set_option linter.unusedVariables false
namespace Go.Proofs.YtkopaeklihhdlaaGreat
namespace Abs
open Go Go.Proofs
set_option maxRecDepth 100000
set_option maxHeartbeats 40000000
structure S_refinementlaw03_Turned where
  carrier : Str
  perm : List Int
def tu (n : Nat) (qdw : Val → Str → (List Int) → Option Val) (p0 : Val) (p1 : Str) (p2 : List Int) : Nat → ((List Val) × Int) → Option (LR (List Val) Val)
 | 0, _ => none
 | k + 1, s2 => (cond (decide (s2.2 < (p0.kids.length : Int))) ((idx p0.kids s2.2).bind fun x3 => ((qdw x3 p1 p2).bind fun x4 => ((app 56 s2.1 ([x4])).bind fun x5 => tu n qdw p0 p1 p2 k (x5, (s2.2 + 1))))) (some (.nx s2.1)))
def qN (n : Nat) (qdw : Val → Str → (List Int) → Option Val) (p0 : Val) (p1 : Str) (p2 : List Int) : Option Val := (((((cond (p0.kind == 3) (cond (p0.name == p1) (cond (decide (0 ≤ p0.n)) (some (decide (p0.n < (p2.length : Int)))) (some false)) (some false)) (some false)) : Option Bool).bind fun s5 => (cond s5 ((idx p2 p0.n).bind fun x6 => some x6) (some p0.n))) : Option Int).bind fun s1 => ((tu n qdw p0 p1 p2 n (([] : List Val), 0)).bind (LR.el (fun s3 => (((cond (p0.kind == 5) ((pX n s3).bind fun x2 => some x2) (some s3)) : Option (List Val)).bind fun s4 => ((lD n s4).bind fun x1 => some (Val.mk p0.kind s1 p0.name x1)))) (fun r => some r))))
def iY : Nat → Val → Str → (List Int) → Option Val
 | 0, _, _, _ => none
 | n + 1, p0, p1, p2 => qN n (fun p0 p1 p2 => iY n p0 p1 p2) p0 p1 p2
def mF (n : Nat) (p2 : List Int) : Nat → ((List Bool) × Int) → Option (LR (List Bool) (S_api_World × Int))
 | 0, _ => none
 | k + 1, s1 => (cond (decide (s1.2 < (p2.length : Int))) ((idx p2 s1.2).bind fun x10 => (((cond (decide (x10 < 0)) (some true) (cond (decide ((s1.1.length : Int) ≤ x10)) (some true) ((idx s1.1 x10).bind fun x12 => some x12))) : Option Bool).bind fun s5 => (cond s5 (some (.rt ((S_api_World.mk (Env.mk ([]) ([])) ([]) ([])), 12))) ((idx s1.1 x10).bind fun x11 => mF n p2 k ((upd s1.1 x10 true), (s1.2 + 1)))))) (some (.nx s1.1)))
def o8 (n : Nat) (p1 : Str) (p2 : List Int) (x6 : (List Carrier) × (List Decl) × (List Int) × (List Val)) : Nat → ((List Val) × Int) → Option (LR (List Val) (S_api_World × Int))
 | 0, _ => none
 | k + 1, s3 => (cond (decide (s3.2 < (x6.2.2.2.length : Int))) ((idx s3.1 s3.2).bind fun x7 => ((iY n x7 p1 p2).bind fun x8 => ((idx s3.1 s3.2).bind fun x9 => o8 n p1 p2 x6 k ((upd s3.1 s3.2 x8), (s3.2 + 1))))) (some (.nx s3.1)))
def uD (n : Nat) (p0 : S_api_World) (p1 : Str) (p2 : List Int) : Option (S_api_World × Int) := ((je n p0).bind fun x1 => (cond (!x1) (some ((S_api_World.mk (Env.mk ([]) ([])) ([]) ([])), 1)) ((rJ n p0.env p1).bind fun x2 => (cond (decide (x2 < 0)) (some ((S_api_World.mk (Env.mk ([]) ([])) ([]) ([])), 6)) ((idx p0.env.carriers x2).bind fun x3 => (cond (decide (0 < (x3.elems.length : Int))) (some ((S_api_World.mk (Env.mk ([]) ([])) ([]) ([])), 31)) ((idx p0.sizes x2).bind fun x4 => ((ZH x4 false).bind fun x5 => ((mF n p2 n (x5, 0)).bind (LR.el (fun s2 => (cond ((p2.length : Int) != (s2.length : Int)) (some ((S_api_World.mk (Env.mk ([]) ([])) ([]) ([])), 12)) ((lQ n p0).bind fun x6 => ((o8 n p1 p2 x6 n (x6.2.2.2, 0)).bind (LR.el (fun s4 => some ((S_api_World.mk (Env.mk x6.1 x6.2.1) x6.2.2.1 s4), 0)) (fun r => some r)))))) (fun r => some r)))))))))))
def nO (n : Nat) (p0 : List Int) (p1 : Int) : Nat → ((List Bool) × Int) → Option (LR Unit Bool)
 | 0, _ => none
 | k + 1, s1 => (cond (decide (s1.2 < p1)) ((((idx p0 s1.2).bind fun x4 => (cond (decide (x4 < 0)) (some true) ((idx p0 s1.2).bind fun x5 => (cond (decide (p1 ≤ x5)) (some true) ((idx p0 s1.2).bind fun x6 => ((idx s1.1 x6).bind fun x7 => some x7)))))) : Option Bool).bind fun s3 => (cond s3 (some (.rt false)) ((idx p0 s1.2).bind fun x2 => ((idx s1.1 x2).bind fun x3 => nO n p0 p1 k ((upd s1.1 x2 true), (s1.2 + 1)))))) (some (.nx ())))
def vS (n : Nat) (p0 : List Int) (p1 : Int) : Option Bool := (cond ((p0.length : Int) != p1) (some false) ((ZH p1 false).bind fun x1 => ((nO n p0 p1 n (x1, 0)).bind (LR.el (fun s2 => some true) (fun r => some r)))))
def xC (n : Nat) (qdt : Val → Str → (List Int) → Option Val) (p0 : Val) (p1 : Str) (p2 : List Int) : Nat → (Int × (List Val)) → Option (LR (List Val) Val)
 | 0, _ => none
 | k + 1, s2 => (cond (decide (s2.1 < (p0.kids.length : Int))) ((idx p0.kids s2.1).bind fun x2 => ((qdt x2 p1 p2).bind fun x3 => ((app 56 s2.2 ([x3])).bind fun x4 => xC n qdt p0 p1 p2 k ((s2.1 + 1), x4)))) (some (.nx s2.2)))
def uf (n : Nat) (qdt : Val → Str → (List Int) → Option Val) (p0 : Val) (p1 : Str) (p2 : List Int) : Option Val := (((((cond (p0.kind == 3) (cond (p0.name == p1) (cond (decide (0 ≤ p0.n)) (some (decide (p0.n < (p2.length : Int)))) (some false)) (some false)) (some false)) : Option Bool).bind fun s5 => (cond s5 ((idx p2 p0.n).bind fun x5 => some x5) (some p0.n))) : Option Int).bind fun s1 => ((xC n qdt p0 p1 p2 n (0, ([] : List Val))).bind (LR.el (fun s3 => (((cond (p0.kind == 5) ((nM n s3).bind fun x1 => some x1) (some s3)) : Option (List Val)).bind fun s4 => some (Val.mk p0.kind s1 p0.name s4))) (fun r => some r))))
def mJ : Nat → Val → Str → (List Int) → Option Val
 | 0, _, _, _ => none
 | n + 1, p0, p1, p2 => uf n (fun p0 p1 p2 => mJ n p0 p1 p2) p0 p1 p2
def rU (n : Nat) (p1 : Str) (p2 : List Int) : Nat → (Int × (List Val)) → Option (LR (List Val) (S_api_World × Int))
 | 0, _ => none
 | k + 1, s1 => (cond (decide (s1.1 < (s1.2.length : Int))) ((idx s1.2 s1.1).bind fun x7 => ((mJ n x7 p1 p2).bind fun x8 => ((idx s1.2 s1.1).bind fun x9 => rU n p1 p2 k ((s1.1 + 1), (upd s1.2 s1.1 x8))))) (some (.nx s1.2)))
def xZ (n : Nat) (p0 : S_api_World) (p1 : Str) (p2 : List Int) : Option (S_api_World × Int) := ((fV n p0).bind fun x1 => (cond (!x1) (some ((S_api_World.mk (Env.mk ([]) ([])) ([]) ([])), 1)) ((fD n p0.env p1).bind fun x2 => (cond (decide (x2 < 0)) (some ((S_api_World.mk (Env.mk ([]) ([])) ([]) ([])), 6)) ((idx p0.env.carriers x2).bind fun x3 => (cond (decide (0 < (x3.elems.length : Int))) (some ((S_api_World.mk (Env.mk ([]) ([])) ([]) ([])), 31)) ((idx p0.sizes x2).bind fun x4 => ((vS n p2 x4).bind fun x5 => (cond (!x5) (some ((S_api_World.mk (Env.mk ([]) ([])) ([]) ([])), 12)) ((nS n p0).bind fun x6 => ((rU n p1 p2 n (0, x6.2.2.2)).bind (LR.el (fun s2 => some ((S_api_World.mk (Env.mk x6.1 x6.2.1) x6.2.2.1 s2), 0)) (fun r => some r)))))))))))))
def vV (n : Nat) (qci : Val → Option Bool) (p0 : Val) : Nat → Int → Option (LR Unit Bool)
 | 0, _ => none
 | k + 1, s3 => (cond (decide (s3 < (p0.kids.length : Int))) ((idx p0.kids s3).bind fun x5 => ((qci x5).bind fun x6 => (cond (!x6) (some (.rt false)) (vV n qci p0 k (s3 + 1))))) (some (.nx ())))
def su (n : Nat) (qci : Val → Option Bool) (p0 : Val) : Option Bool := (((cond (p0.kind == 1) (some (p0.kind == 1)) (cond (p0.kind == 2) (some (p0.kind == 2)) (some (p0.kind == 3)))) : Option Bool).bind fun s1 => (cond s1 (some ((p0.kids.length : Int) == 0)) (cond (p0.kind == 4) (((cond ((p0.kids.length : Int) == 2) ((idx p0.kids 0).bind fun x1 => ((qci x1).bind fun x2 => (cond x2 ((idx p0.kids 1).bind fun x3 => ((qci x3).bind fun x4 => some x4)) (some false)))) (some false)) : Option Bool).bind fun s2 => some s2) ((vV n qci p0 n 0).bind (LR.el (fun s4 => some (p0.kind == 5)) (fun r => some r))))))
def ku : Nat → Val → Option Bool
 | 0, _ => none
 | n + 1, p0 => su n (fun p0 => ku n p0) p0
def gK (n : Nat) (p0 : S_api_World) (p2 : S_refinementlaw03_Turned) : Nat → Int → Option (LR Unit Bool)
 | 0, _ => none
 | k + 1, s3 => (((cond (decide (s3 < (p0.values.length : Int))) ((fV n p0).bind fun x15 => some x15) (some false)) : Option Bool).bind fun s6 => (cond s6 ((idx p0.values s3).bind fun x10 => ((iY n x10 p2.carrier p2.perm).bind fun x11 => ((idx p0.values s3).bind fun x12 => ((mJ n x12 p2.carrier p2.perm).bind fun x13 => ((dn n x11 x13).bind fun x14 => (cond (!x14) (some (.rt false)) (gK n p0 p2 k (IntKind.wrap .i64 (s3 + 1))))))))) (some (.nx ()))))
def xR (n : Nat) (p0 : S_api_World) (p1 : Val) (p2 : S_refinementlaw03_Turned) : Option Bool := ((((uh n p0.env).bind fun x17 => (cond (!x17) (some true) (some (decide (1000 < (p2.perm.length : Int)))))) : Option Bool).bind fun s1 => (cond s1 ((kH n).bind fun x1 => some x1) ((uD n p0 p2.carrier p2.perm).bind fun x2 => ((xZ n p0 p2.carrier p2.perm).bind fun x3 => (((cond (x2.2 != x3.2) (some true) ((oD n x2.1 x3.1).bind fun x16 => some (!x16))) : Option Bool).bind fun s2 => (cond s2 (some false) ((gK n p0 p2 n 0).bind (LR.el (fun s4 => ((((ku n p1).bind fun x4 => (cond (!x4) ((kH n).bind fun x5 => some x5) ((iY n p1 p2.carrier p2.perm).bind fun x6 => ((mJ n p1 p2.carrier p2.perm).bind fun x7 => ((dn n x6 x7).bind fun x8 => (cond x8 ((kH n).bind fun x9 => some x9) (some false))))))) : Option Bool).bind fun s5 => some s5)) (fun r => some r)))))))))
end Abs
end Go.Proofs.YtkopaeklihhdlaaGreat
