/-
  The plain functions of the program (printed by gen.py). Conditions: none.
-/
import Derived.Test.YtkopaeklihhdlaaGreatCDlx082694
set_option linter.unusedSimpArgs false
set_option linter.unusedVariables false
namespace Go.Proofs.YtkopaeklihhdlaaGreat
namespace Abs
open Go Go.Proofs
set_option maxRecDepth 100000
set_option maxHeartbeats 40000000
structure S_api_World where
  env : Env
  sizes : List Int
  values : List Val
structure S_refinementlaw03_Typed where
  sizes : List Int
  v : Val
  t : Ty
structure S_api_Scope where
  sizes : List Int
  lo : Int
  hi : Int
def cmp_isNaN_int (n : Nat) (p0 : Int) : Option Bool := some (p0 != p0)
def cmp_Compare_int (n : Nat) (p0 : Int) (p1 : Int) : Option Int := (cond (p0 != p0) (cond (p1 != p1) (some 0) (some (-1))) (cond (p1 != p1) (some 1) (cond (decide (p0 < p1)) (some (-1)) (cond (decide (p1 < p0)) (some 1) (some 0)))))
def mY (n : Nat) (p0 : List Int) : Nat → Int → Option (LR Unit Int)
 | 0, _ => none
 | k + 1, s1 => (cond (decide (s1 < (p0.length : Int))) ((idx p0 s1).bind fun x1 => (cond (x1 != 0) (some (.rt x1)) (mY n p0 k (s1 + 1)))) (some (.nx ())))
def xQ (n : Nat) (p0 : List Int) : Option Int := ((mY n p0 n 0).bind (LR.el (fun s2 => some 0) (fun r => some r)))
def cO (n : Nat) (qdn : (List Val) → (List Val) → Option Int) (qdj : Val → Val → Option Int) (p0 : List Val) (p1 : List Val) : Nat → Int → Option (LR Unit Int)
 | 0, _ => none
 | k + 1, s1 => (cond (decide (s1 < (p0.length : Int))) ((idx p0 s1).bind fun x1 => (cond (decide ((p1.length : Int) ≤ s1)) (some (.rt 1)) ((idx p1 s1).bind fun x2 => ((qdj x1 x2).bind fun x3 => (cond (x3 != 0) (some (.rt x3)) (cO n qdn qdj p0 p1 k (s1 + 1))))))) (some (.nx ())))
def fC (n : Nat) (qdn : (List Val) → (List Val) → Option Int) (qdj : Val → Val → Option Int) (p0 : List Val) (p1 : List Val) : Option Int := ((cO n qdn qdj p0 p1 n 0).bind (LR.el (fun s2 => (cond (decide ((p0.length : Int) < (p1.length : Int))) (some (-1)) (some 0))) (fun r => some r)))
def lX (n : Nat) (qdn : (List Val) → (List Val) → Option Int) (qdj : Val → Val → Option Int) (p0 : Val) (p1 : Val) : Option Int := ((cmp_Compare_int n p0.kind p1.kind).bind fun x1 => ((cmp_Compare_int n p0.n p1.n).bind fun x2 => ((strings_Compare n p0.name p1.name).bind fun x3 => ((xQ n ([x1, x2, x3])).bind fun x4 => (cond (x4 != 0) (some x4) ((qdn p0.kids p1.kids).bind fun x5 => some x5))))))
mutual
def dI : Nat → (List Val) → (List Val) → Option Int
 | 0, _, _ => none
 | n + 1, p0, p1 => fC n (fun p0 p1 => dI n p0 p1) (fun p0 p1 => dG n p0 p1) p0 p1
def dG : Nat → Val → Val → Option Int
 | 0, _, _ => none
 | n + 1, p0, p1 => lX n (fun p0 p1 => dI n p0 p1) (fun p0 p1 => dG n p0 p1) p0 p1
end
end Abs
end Go.Proofs.YtkopaeklihhdlaaGreat
