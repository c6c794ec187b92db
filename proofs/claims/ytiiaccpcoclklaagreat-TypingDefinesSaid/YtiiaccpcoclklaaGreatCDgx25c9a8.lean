/-
  The plain functions of the program (printed by gen.py). Conditions: none.
-/
import Derived.Test.YtiiaccpcoclklaaGreatCDfx63d821
set_option linter.unusedSimpArgs false
set_option linter.unusedVariables false
namespace Go.Proofs.YtiiaccpcoclklaaGreat
namespace Abs
open Go Go.Proofs
set_option maxRecDepth 100000
set_option maxHeartbeats 40000000
structure S_refinementlaw02_Binding where
  env : Env
  body : Tm
  domain : Tm
  name : Str
def Qs (n : Nat) (p0 : Tm) : Option Bool := some (p0.op == 1)
def UK (n : Nat) (p0 : Int) (p1 : List Tm) : Option Tm := some (Tm.mk p0 ([] : Str) 0 (Ty.mk 0 ([] : Str) ([])) p1)
def wL (n : Nat) (p0 : Tm) (p1 : Tm) : Option Tm := (cond (p1.op == 1) (some p1) (some (Tm.mk 6 ([] : Str) 0 ((Ty.mk 0 ([] : Str) ([]))) ([p0, p1]))))
def kM (n : Nat) (p0 : Tm) (p1 : Tm) : Option Tm := (cond (p0.op == 1) (some p1) (cond (p1.op == 1) (some p0) (some (Tm.mk 4 ([] : Str) 0 ((Ty.mk 0 ([] : Str) ([]))) ([p0, p1])))))
def Fq (n : Nat) (p0 : Tm) (p1 : Tm) : Option Tm := (cond (p1.op == 1) (some p1) (some (Tm.mk 5 ([] : Str) 0 ((Ty.mk 0 ([] : Str) ([]))) ([p0, p1]))))
def DF (n : Nat) (p0 : Str) (p1 : Tm) (p2 : Tm) : Option Tm := (cond (p2.op == 1) (some p2) (some (Tm.mk 8 p0 0 (Ty.mk 0 ([] : Str) ([])) ([p1, p2]))))
def Yr (n : Nat) : Option Tm := some (Tm.mk 1 ([] : Str) 0 (Ty.mk 0 ([] : Str) ([])) ([]))
def NT (n : Nat) (p0 : Int) : Option Tm := some (Tm.mk 19 ([] : Str) p0 (Ty.mk 0 ([] : Str) ([])) ([]))
def nU (n : Nat) (rec_typing_definedness : Tm → Option Tm) (p0 : Tm) : Nat → (Int × Int × Str × Int × Int × Str × (List Ty) × (List Tm)) → Option (LR (Int × Str × Int × Int × Str × (List Ty) × (List Tm)) Tm)
 | 0, _ => none
 | k + 1, s3 => (cond (decide (s3.1 < (p0.kids.length : Int))) ((idx p0.kids s3.1).bind fun x33 => ((rec_typing_definedness x33).bind fun x34 => ((kM n (Tm.mk s3.2.1 s3.2.2.1 s3.2.2.2.1 (Ty.mk s3.2.2.2.2.1 s3.2.2.2.2.2.1 s3.2.2.2.2.2.2.1) s3.2.2.2.2.2.2.2) x34).bind fun x35 => nU n rec_typing_definedness p0 k ((s3.1 + 1), x35.op, x35.name, x35.n, x35.ty.kind, x35.ty.name, x35.ty.kids, x35.kids)))) (some (.nx (s3.2.1, s3.2.2.1, s3.2.2.2.1, s3.2.2.2.2.1, s3.2.2.2.2.2.1, s3.2.2.2.2.2.2.1, s3.2.2.2.2.2.2.2))))
def lZ (n : Nat) (rec_typing_definedness : Tm → Option Tm) (p0 : Tm) : Option Tm := (((cond (p0.op == 4) (some (p0.op == 4)) (some (p0.op == 6))) : Option Bool).bind fun s1 => (cond s1 ((idx p0.kids 0).bind fun x1 => ((rec_typing_definedness x1).bind fun x2 => ((idx p0.kids 0).bind fun x3 => ((idx p0.kids 1).bind fun x4 => ((rec_typing_definedness x4).bind fun x5 => ((wL n x3 x5).bind fun x6 => ((kM n x2 x6).bind fun x7 => some x7))))))) (cond (p0.op == 5) ((idx p0.kids 0).bind fun x8 => ((rec_typing_definedness x8).bind fun x9 => ((idx p0.kids 0).bind fun x10 => ((idx p0.kids 1).bind fun x11 => ((rec_typing_definedness x11).bind fun x12 => ((Fq n x10 x12).bind fun x13 => ((kM n x9 x13).bind fun x14 => some x14))))))) (((cond (p0.op == 8) (some (p0.op == 8)) (cond (p0.op == 9) (some (p0.op == 9)) (cond (p0.op == 55) (some (p0.op == 55)) (some (p0.op == 56))))) : Option Bool).bind fun s2 => (cond s2 ((idx p0.kids 0).bind fun x15 => ((rec_typing_definedness x15).bind fun x16 => ((idx p0.kids 0).bind fun x17 => ((idx p0.kids 1).bind fun x18 => ((rec_typing_definedness x18).bind fun x19 => ((DF n p0.name x17 x19).bind fun x20 => ((kM n x16 x20).bind fun x21 => some x21))))))) ((nU n rec_typing_definedness p0 n (0, 1, ([] : Str), 0, ((Ty.mk 0 ([] : Str) ([]))).kind, ((Ty.mk 0 ([] : Str) ([]))).name, ((Ty.mk 0 ([] : Str) ([]))).kids, ([]))).bind (LR.el (fun s4 => (cond (p0.op == 25) ((idx p0.kids 1).bind fun x22 => ((kM n (Tm.mk s4.1 s4.2.1 s4.2.2.1 (Ty.mk s4.2.2.2.1 s4.2.2.2.2.1 s4.2.2.2.2.2.1) s4.2.2.2.2.2.2) (Tm.mk 11 ([] : Str) 0 ((Ty.mk 0 ([] : Str) ([]))) ([x22, (Tm.mk 19 ([] : Str) 0 ((Ty.mk 0 ([] : Str) ([]))) ([]))]))).bind fun x23 => some x23)) (cond (p0.op == 26) ((idx p0.kids 0).bind fun x24 => ((kM n (Tm.mk s4.1 s4.2.1 s4.2.2.1 (Ty.mk s4.2.2.2.1 s4.2.2.2.2.1 s4.2.2.2.2.2.1) s4.2.2.2.2.2.2) (Tm.mk 13 ([] : Str) 0 ((Ty.mk 0 ([] : Str) ([]))) ([(Tm.mk 19 ([] : Str) 0 ((Ty.mk 0 ([] : Str) ([]))) ([])), x24]))).bind fun x25 => ((idx p0.kids 1).bind fun x26 => ((kM n x25 (Tm.mk 12 ([] : Str) 0 ((Ty.mk 0 ([] : Str) ([]))) ([(Tm.mk 19 ([] : Str) 0 ((Ty.mk 0 ([] : Str) ([]))) ([])), x26]))).bind fun x27 => some x27)))) (((cond (p0.op == 48) (some (p0.op == 48)) (some (p0.op == 49))) : Option Bool).bind fun s5 => (cond s5 ((idx p0.kids 0).bind fun x28 => ((kM n (Tm.mk s4.1 s4.2.1 s4.2.2.1 (Ty.mk s4.2.2.2.1 s4.2.2.2.2.1 s4.2.2.2.2.2.1) s4.2.2.2.2.2.2) (Tm.mk 12 ([] : Str) 0 ((Ty.mk 0 ([] : Str) ([]))) ([(Tm.mk 19 ([] : Str) 0 ((Ty.mk 0 ([] : Str) ([]))) ([])), (Tm.mk 47 ([] : Str) 0 ((Ty.mk 0 ([] : Str) ([]))) ([x28]))]))).bind fun x29 => some x29)) (cond (p0.op == 54) ((idx p0.kids 0).bind fun x30 => ((idx p0.kids 1).bind fun x31 => ((kM n (Tm.mk s4.1 s4.2.1 s4.2.2.1 (Ty.mk s4.2.2.2.1 s4.2.2.2.2.1 s4.2.2.2.2.2.1) s4.2.2.2.2.2.2) (Tm.mk 10 ([] : Str) 0 ((Ty.mk 0 ([] : Str) ([]))) ([(Tm.mk 47 ([] : Str) 0 ((Ty.mk 0 ([] : Str) ([]))) ([(Tm.mk 53 ([] : Str) 0 ((Ty.mk 0 ([] : Str) ([]))) ([x30, (Tm.mk 28 ([] : Str) 0 ((Ty.mk 0 ([] : Str) ([]))) ([x31]))]))])), (Tm.mk 19 ([] : Str) 1 ((Ty.mk 0 ([] : Str) ([]))) ([]))]))).bind fun x32 => some x32))) (some (Tm.mk s4.1 s4.2.1 s4.2.2.1 (Ty.mk s4.2.2.2.1 s4.2.2.2.2.1 s4.2.2.2.2.2.1) s4.2.2.2.2.2.2)))))))) (fun r => some r))))))))
def gI : Nat → Tm → Option Tm
 | 0, _ => none
 | n + 1, p0 => lZ n (fun p0 => gI n p0) p0
def qP (n : Nat) (rec_typing_copyTerm : Tm → Option Tm) (p0 : Tm) : Nat → (Int × (List Tm)) → Option (LR (List Tm) Tm)
 | 0, _ => none
 | k + 1, s1 => (cond (decide (s1.1 < (p0.kids.length : Int))) ((idx p0.kids s1.1).bind fun x2 => ((rec_typing_copyTerm x2).bind fun x3 => ((app 104 s1.2 ([x3])).bind fun x4 => qP n rec_typing_copyTerm p0 k ((s1.1 + 1), x4)))) (some (.nx s1.2)))
def ow (n : Nat) (rec_typing_copyTerm : Tm → Option Tm) (p0 : Tm) : Option Tm := ((gB n p0.ty).bind fun x1 => ((qP n rec_typing_copyTerm p0 n (0, ([] : List Tm))).bind (LR.el (fun s2 => some (Tm.mk p0.op p0.name p0.n x1 s2)) (fun r => some r))))
def jG : Nat → Tm → Option Tm
 | 0, _ => none
 | n + 1, p0 => ow n (fun p0 => jG n p0) p0
def jw (n : Nat) (p0 : Env) (p1 : Tm) : Option (Tm × Int) := ((eH n p0 p1).bind fun x1 => (cond (x1.2.2 != 0) (some ((Tm.mk 0 ([] : Str) 0 (Ty.mk 0 ([] : Str) ([])) ([])), x1.2.2)) ((gI n p1).bind fun x2 => ((xI n x2).bind fun x3 => (cond (!x3) (some ((Tm.mk 0 ([] : Str) 0 (Ty.mk 0 ([] : Str) ([])) ([])), 5)) ((jG n x2).bind fun x4 => some (x4, 0)))))))
def zJ (n : Nat) (rec_R1_Copy : Tm → Option Tm) (rec_R1_Copies : (List Tm) → Option (List Tm)) (p0 : Tm) : Option Tm := ((iA n p0.ty).bind fun x1 => ((rec_R1_Copies p0.kids).bind fun x2 => some (Tm.mk p0.op p0.name p0.n x1 x2)))
def zx (n : Nat) (rec_R1_Copy : Tm → Option Tm) (rec_R1_Copies : (List Tm) → Option (List Tm)) (p0 : List Tm) : Nat → ((List Tm) × Int) → Option (LR (List Tm) (List Tm))
 | 0, _ => none
 | k + 1, s1 => (cond (decide (s1.2 < (p0.length : Int))) ((idx p0 s1.2).bind fun x1 => ((rec_R1_Copy x1).bind fun x2 => ((app 104 s1.1 ([x2])).bind fun x3 => zx n rec_R1_Copy rec_R1_Copies p0 k (x3, (s1.2 + 1))))) (some (.nx s1.1)))
def wO (n : Nat) (rec_R1_Copy : Tm → Option Tm) (rec_R1_Copies : (List Tm) → Option (List Tm)) (p0 : List Tm) : Option (List Tm) := ((zx n rec_R1_Copy rec_R1_Copies p0 n (([] : List Tm), 0)).bind (LR.el (fun s2 => some s2) (fun r => some r)))
mutual
def nH : Nat → Tm → Option Tm
 | 0, _ => none
 | n + 1, p0 => zJ n (fun p0 => nH n p0) (fun p0 => vo n p0) p0
def vo : Nat → (List Tm) → Option (List Tm)
 | 0, _ => none
 | n + 1, p0 => wO n (fun p0 => nH n p0) (fun p0 => vo n p0) p0
end
end Abs
end Go.Proofs.YtiiaccpcoclklaaGreat
