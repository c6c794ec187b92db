/-
  The plain functions of the program (printed by gen.py). Conditions: none. Structures of the program (printed by gen.py). Conditions: none. More structures of the program (printed by gen.py). Conditions: none.
-/
import Derived.KernelRfl
import Derived.Test.YtiiaccpcoclklaaGreatCAbs38xf5d4b8
import Derived.Test.YtiiaccpcoclklaaGreatCDfx70d822
set_option linter.unusedSimpArgs false
set_option linter.unusedVariables false
namespace Go.Proofs.YtiiaccpcoclklaaGreat
namespace Abs
open Go Go.Proofs
set_option maxRecDepth 100000
set_option maxHeartbeats 40000000
structure S_refinementlaw02_Binding where
  env : Env
  body : Tm
  domain : Tm
  name : Str
def DV (n : Nat) (p0 : Tm) : Option Bool := some (p0.op == 1)
def EY (n : Nat) (p0 : Int) (p1 : List Tm) : Option Tm := some (Tm.mk p0 ([] : Str) 0 (Ty.mk 0 ([] : Str) ([])) p1)
def oI (n : Nat) (p0 : Tm) (p1 : Tm) : Option Tm := (cond (p1.op == 1) (some p1) (some (Tm.mk 6 ([] : Str) 0 ((Ty.mk 0 ([] : Str) ([]))) ([p0, p1]))))
def iD (n : Nat) (p0 : Tm) (p1 : Tm) : Option Tm := (cond (p0.op == 1) (some p1) (cond (p1.op == 1) (some p0) (some (Tm.mk 4 ([] : Str) 0 ((Ty.mk 0 ([] : Str) ([]))) ([p0, p1])))))
def vM (n : Nat) (p0 : Tm) (p1 : Tm) : Option Tm := (cond (p1.op == 1) (some p1) (some (Tm.mk 5 ([] : Str) 0 ((Ty.mk 0 ([] : Str) ([]))) ([p0, p1]))))
def uf (n : Nat) (p0 : Str) (p1 : Tm) (p2 : Tm) : Option Tm := (cond (p2.op == 1) (some p2) (some (Tm.mk 8 p0 0 (Ty.mk 0 ([] : Str) ([])) ([p1, p2]))))
def Gw (n : Nat) : Option Tm := some (Tm.mk 1 ([] : Str) 0 (Ty.mk 0 ([] : Str) ([])) ([]))
def Cg (n : Nat) (p0 : Int) : Option Tm := some (Tm.mk 19 ([] : Str) p0 (Ty.mk 0 ([] : Str) ([])) ([]))
def jO (n : Nat) (rec_typing_definedness : Tm → Option Tm) (p0 : Tm) : Nat → (Int × Int × Str × Int × Int × Str × (List Ty) × (List Tm)) → Option (LR (Int × Str × Int × Int × Str × (List Ty) × (List Tm)) Tm)
 | 0, _ => none
 | k + 1, s3 => (cond (decide (s3.1 < (p0.kids.length : Int))) ((idx p0.kids s3.1).bind fun x33 => ((rec_typing_definedness x33).bind fun x34 => ((iD n (Tm.mk s3.2.1 s3.2.2.1 s3.2.2.2.1 (Ty.mk s3.2.2.2.2.1 s3.2.2.2.2.2.1 s3.2.2.2.2.2.2.1) s3.2.2.2.2.2.2.2) x34).bind fun x35 => jO n rec_typing_definedness p0 k ((s3.1 + 1), x35.op, x35.name, x35.n, x35.ty.kind, x35.ty.name, x35.ty.kids, x35.kids)))) (some (.nx (s3.2.1, s3.2.2.1, s3.2.2.2.1, s3.2.2.2.2.1, s3.2.2.2.2.2.1, s3.2.2.2.2.2.2.1, s3.2.2.2.2.2.2.2))))
def je (n : Nat) (rec_typing_definedness : Tm → Option Tm) (p0 : Tm) : Option Tm := (((cond (p0.op == 4) (some (p0.op == 4)) (some (p0.op == 6))) : Option Bool).bind fun s1 => (cond s1 ((idx p0.kids 0).bind fun x1 => ((rec_typing_definedness x1).bind fun x2 => ((idx p0.kids 0).bind fun x3 => ((idx p0.kids 1).bind fun x4 => ((rec_typing_definedness x4).bind fun x5 => ((oI n x3 x5).bind fun x6 => ((iD n x2 x6).bind fun x7 => some x7))))))) (cond (p0.op == 5) ((idx p0.kids 0).bind fun x8 => ((rec_typing_definedness x8).bind fun x9 => ((idx p0.kids 0).bind fun x10 => ((idx p0.kids 1).bind fun x11 => ((rec_typing_definedness x11).bind fun x12 => ((vM n x10 x12).bind fun x13 => ((iD n x9 x13).bind fun x14 => some x14))))))) (((cond (p0.op == 8) (some (p0.op == 8)) (cond (p0.op == 9) (some (p0.op == 9)) (cond (p0.op == 55) (some (p0.op == 55)) (some (p0.op == 56))))) : Option Bool).bind fun s2 => (cond s2 ((idx p0.kids 0).bind fun x15 => ((rec_typing_definedness x15).bind fun x16 => ((idx p0.kids 0).bind fun x17 => ((idx p0.kids 1).bind fun x18 => ((rec_typing_definedness x18).bind fun x19 => ((uf n p0.name x17 x19).bind fun x20 => ((iD n x16 x20).bind fun x21 => some x21))))))) ((jO n rec_typing_definedness p0 n (0, 1, ([] : Str), 0, ((Ty.mk 0 ([] : Str) ([]))).kind, ((Ty.mk 0 ([] : Str) ([]))).name, ((Ty.mk 0 ([] : Str) ([]))).kids, ([]))).bind (LR.el (fun s4 => (cond (p0.op == 25) ((idx p0.kids 1).bind fun x22 => ((iD n (Tm.mk s4.1 s4.2.1 s4.2.2.1 (Ty.mk s4.2.2.2.1 s4.2.2.2.2.1 s4.2.2.2.2.2.1) s4.2.2.2.2.2.2) (Tm.mk 11 ([] : Str) 0 ((Ty.mk 0 ([] : Str) ([]))) ([x22, (Tm.mk 19 ([] : Str) 0 ((Ty.mk 0 ([] : Str) ([]))) ([]))]))).bind fun x23 => some x23)) (cond (p0.op == 26) ((idx p0.kids 0).bind fun x24 => ((iD n (Tm.mk s4.1 s4.2.1 s4.2.2.1 (Ty.mk s4.2.2.2.1 s4.2.2.2.2.1 s4.2.2.2.2.2.1) s4.2.2.2.2.2.2) (Tm.mk 13 ([] : Str) 0 ((Ty.mk 0 ([] : Str) ([]))) ([(Tm.mk 19 ([] : Str) 0 ((Ty.mk 0 ([] : Str) ([]))) ([])), x24]))).bind fun x25 => ((idx p0.kids 1).bind fun x26 => ((iD n x25 (Tm.mk 12 ([] : Str) 0 ((Ty.mk 0 ([] : Str) ([]))) ([(Tm.mk 19 ([] : Str) 0 ((Ty.mk 0 ([] : Str) ([]))) ([])), x26]))).bind fun x27 => some x27)))) (((cond (p0.op == 48) (some (p0.op == 48)) (some (p0.op == 49))) : Option Bool).bind fun s5 => (cond s5 ((idx p0.kids 0).bind fun x28 => ((iD n (Tm.mk s4.1 s4.2.1 s4.2.2.1 (Ty.mk s4.2.2.2.1 s4.2.2.2.2.1 s4.2.2.2.2.2.1) s4.2.2.2.2.2.2) (Tm.mk 12 ([] : Str) 0 ((Ty.mk 0 ([] : Str) ([]))) ([(Tm.mk 19 ([] : Str) 0 ((Ty.mk 0 ([] : Str) ([]))) ([])), (Tm.mk 47 ([] : Str) 0 ((Ty.mk 0 ([] : Str) ([]))) ([x28]))]))).bind fun x29 => some x29)) (cond (p0.op == 54) ((idx p0.kids 0).bind fun x30 => ((idx p0.kids 1).bind fun x31 => ((iD n (Tm.mk s4.1 s4.2.1 s4.2.2.1 (Ty.mk s4.2.2.2.1 s4.2.2.2.2.1 s4.2.2.2.2.2.1) s4.2.2.2.2.2.2) (Tm.mk 10 ([] : Str) 0 ((Ty.mk 0 ([] : Str) ([]))) ([(Tm.mk 47 ([] : Str) 0 ((Ty.mk 0 ([] : Str) ([]))) ([(Tm.mk 53 ([] : Str) 0 ((Ty.mk 0 ([] : Str) ([]))) ([x30, (Tm.mk 28 ([] : Str) 0 ((Ty.mk 0 ([] : Str) ([]))) ([x31]))]))])), (Tm.mk 19 ([] : Str) 1 ((Ty.mk 0 ([] : Str) ([]))) ([]))]))).bind fun x32 => some x32))) (some (Tm.mk s4.1 s4.2.1 s4.2.2.1 (Ty.mk s4.2.2.2.1 s4.2.2.2.2.1 s4.2.2.2.2.2.1) s4.2.2.2.2.2.2)))))))) (fun r => some r))))))))
def dK : Nat → Tm → Option Tm
 | 0, _ => none
 | n + 1, p0 => je n (fun p0 => dK n p0) p0
def lC (n : Nat) (rec_typing_copyTerm : Tm → Option Tm) (p0 : Tm) : Nat → (Int × (List Tm)) → Option (LR (List Tm) Tm)
 | 0, _ => none
 | k + 1, s1 => (cond (decide (s1.1 < (p0.kids.length : Int))) ((idx p0.kids s1.1).bind fun x2 => ((rec_typing_copyTerm x2).bind fun x3 => ((app 104 s1.2 ([x3])).bind fun x4 => lC n rec_typing_copyTerm p0 k ((s1.1 + 1), x4)))) (some (.nx s1.2)))
def jY (n : Nat) (rec_typing_copyTerm : Tm → Option Tm) (p0 : Tm) : Option Tm := ((gB n p0.ty).bind fun x1 => ((lC n rec_typing_copyTerm p0 n (0, ([] : List Tm))).bind (LR.el (fun s2 => some (Tm.mk p0.op p0.name p0.n x1 s2)) (fun r => some r))))
def gu : Nat → Tm → Option Tm
 | 0, _ => none
 | n + 1, p0 => jY n (fun p0 => gu n p0) p0
def mR (n : Nat) (p0 : Env) (p1 : Tm) : Option (Tm × Int) := ((nD n p0 p1).bind fun x1 => (cond (x1.2.2 != 0) (some ((Tm.mk 0 ([] : Str) 0 (Ty.mk 0 ([] : Str) ([])) ([])), x1.2.2)) ((dK n p1).bind fun x2 => ((oZ n x2).bind fun x3 => (cond (!x3) (some ((Tm.mk 0 ([] : Str) 0 (Ty.mk 0 ([] : Str) ([])) ([])), 5)) ((gu n x2).bind fun x4 => some (x4, 0)))))))
def nW (n : Nat) (rec_typing_total : Tm → Option Bool) (p0 : Tm) : Nat → Int → Option (LR Unit Bool)
 | 0, _ => none
 | k + 1, s2 => (cond (decide (s2 < (p0.kids.length : Int))) ((idx p0.kids s2).bind fun x1 => ((rec_typing_total x1).bind fun x2 => (cond (!x2) (some (.rt false)) (nW n rec_typing_total p0 k (s2 + 1))))) (some (.nx ())))
def l8 (n : Nat) (rec_typing_total : Tm → Option Bool) (p0 : Tm) : Option Bool := (((cond (p0.op == 25) (some (p0.op == 25)) (cond (p0.op == 26) (some (p0.op == 26)) (cond (p0.op == 48) (some (p0.op == 48)) (cond (p0.op == 49) (some (p0.op == 49)) (some (p0.op == 54)))))) : Option Bool).bind fun s1 => (cond s1 (some false) ((nW n rec_typing_total p0 n 0).bind (LR.el (fun s3 => some true) (fun r => some r)))))
def jv : Nat → Tm → Option Bool
 | 0, _ => none
 | n + 1, p0 => l8 n (fun p0 => jv n p0) p0
def p9 (n : Nat) (p0 : Tm) : Option Bool := ((((oZ n p0).bind fun x1 => (cond x1 ((jv n p0).bind fun x2 => some x2) (some false))) : Option Bool).bind fun s1 => some s1)
end Abs
end Go.Proofs.YtiiaccpcoclklaaGreat
namespace Go.Proofs.YtiiaccpcoclklaaGreat
namespace Abs
open Go Go.Proofs
set_option maxRecDepth 100000
set_option maxHeartbeats 40000000
def lD (n : Nat) (p0 : List Str) (s1 : (List Str) × Int) : Nat → Int → Option (LR Int (List Str))
 | 0, _ => none
 | k + 1, s4 => (((cond (decide (s4 < (s1.1.length : Int))) ((idx s1.1 s4).bind fun x8 => ((idx p0 s1.2).bind fun x9 => some (Op.bytesLess x8 x9))) (some false)) : Option Bool).bind fun s9 => (cond s9 (lD n p0 s1 k (IntKind.wrap .i64 (s4 + 1))) (some (.nx s4))))
def lq (n : Nat) (s5 : Int) : Nat → ((List Str) × Int) → Option (LR (List Str) (List Str))
 | 0, _ => none
 | k + 1, s7 => (cond (decide (s5 < s7.2)) ((idx s7.1 (IntKind.wrap .i64 (s7.2 - 1))).bind fun x4 => ((idx s7.1 s7.2).bind fun x5 => lq n s5 k ((upd s7.1 s7.2 x4), (IntKind.wrap .i64 (s7.2 - 1))))) (some (.nx s7.1)))
def qj (n : Nat) (p0 : List Str) : Nat → ((List Str) × Int) → Option (LR (List Str) (List Str))
 | 0, _ => none
 | k + 1, s1 => (cond (decide (s1.2 < (p0.length : Int))) ((((lD n p0 s1 n 0).bind (LR.el (fun s5 => (((cond (decide (s5 < (s1.1.length : Int))) ((idx s1.1 s5).bind fun x6 => ((idx p0 s1.2).bind fun x7 => some (x6 == x7))) (some false)) : Option Bool).bind fun s6 => (cond s6 (some s1.1) ((app 16 s1.1 ([([] : Str)])).bind fun x1 => ((lq n s5 n (x1, (IntKind.wrap .i64 ((x1.length : Int) - 1)))).bind (LR.el (fun s8 => ((idx p0 s1.2).bind fun x2 => ((idx s8 s5).bind fun x3 => some (upd s8 s5 x2)))) (fun r => none))))))) (fun r => none))) : Option (List Str)).bind fun s3 => qj n p0 k (s3, (s1.2 + 1))) (some (.nx s1.1)))
def vD (n : Nat) (p0 : List Str) : Option (List Str) := ((qj n p0 n (([] : List Str), 0)).bind (LR.el (fun s2 => some s2) (fun r => some r)))
def wR (n : Nat) (p0 : List Str) (p1 : Str) : Option (List Str) := ((app 16 ([] : List Str) p0).bind fun x1 => ((app 16 x1 ([p1])).bind fun x2 => some x2))
def tq (n : Nat) (rec_R1_free : Tm → (List Str) → Option (List Str)) (p0 : Tm) (p1 : List Str) : Nat → ((List Str) × Int) → Option (LR (List Str) (List Str))
 | 0, _ => none
 | k + 1, s1 => (cond (decide (s1.2 < (p0.kids.length : Int))) ((((((qw n p0.op).bind fun x6 => (cond x6 (some (s1.2 == 1)) (some false))) : Option Bool).bind fun s4 => (cond s4 ((wR n p1 p0.name).bind fun x5 => some x5) (some p1))) : Option (List Str)).bind fun s3 => ((idx p0.kids s1.2).bind fun x2 => ((rec_R1_free x2 s3).bind fun x3 => ((app 16 s1.1 x3).bind fun x4 => tq n rec_R1_free p0 p1 k (x4, (s1.2 + 1)))))) (some (.nx s1.1)))
def qo (n : Nat) (rec_R1_free : Tm → (List Str) → Option (List Str)) (p0 : Tm) (p1 : List Str) : Option (List Str) := (cond (p0.op == 20) ((y5 n p0.name p1).bind fun x1 => (cond x1 (some ([] : List Str)) (some ([p0.name])))) ((tq n rec_R1_free p0 p1 n (([] : List Str), 0)).bind (LR.el (fun s2 => some s2) (fun r => some r))))
def pI : Nat → Tm → (List Str) → Option (List Str)
 | 0, _, _ => none
 | n + 1, p0, p1 => qo n (fun p0 p1 => pI n p0 p1) p0 p1
def wT (n : Nat) (p0 : Tm) : Option (List Str) := ((xI n p0).bind fun x1 => (cond (!x1) (some ([] : List Str)) ((pI n p0 ([] : List Str)).bind fun x2 => ((vD n x2).bind fun x3 => some x3))))
def jB (n : Nat) (x5 : List Str) (x6 : List Str) : Nat → Int → Option (LR Unit Bool)
 | 0, _ => none
 | k + 1, s2 => (cond (decide (s2 < (x5.length : Int))) ((idx x5 s2).bind fun x11 => ((y5 n x11 x6).bind fun x12 => (cond (!x12) (some (.rt false)) (jB n x5 x6 k (s2 + 1))))) (some (.nx ())))
def ny (n : Nat) (p0 : Env) (p1 : Tm) : Option Bool := ((yC n p0).bind fun x1 => (cond (!x1) ((xW n).bind fun x2 => some x2) ((mR n p0 p1).bind fun x3 => (cond (x3.2 != 0) (((cond (x3.1.op == 0) ((xW n).bind fun x4 => some x4) (some false)) : Option Bool).bind fun s1 => some s1) ((wT n x3.1).bind fun x5 => ((wT n p1).bind fun x6 => ((jB n x5 x6 n 0).bind (LR.el (fun s3 => ((mR n p0 x3.1).bind fun x7 => (((cond (x7.2 != 0) (cond (x7.2 != 5) (some true) (some (x7.1.op != 0))) (some false)) : Option Bool).bind fun s4 => (cond s4 (some false) ((((mZ n p0 x3.1).bind fun x8 => (cond (x8 == 0) ((p9 n p1).bind fun x9 => (cond (x9 == (x3.1.op == 1)) ((xW n).bind fun x10 => some x10) (some false))) (some false))) : Option Bool).bind fun s5 => some s5))))) (fun r => some r)))))))))
end Abs
end Go.Proofs.YtiiaccpcoclklaaGreat
namespace Go.Proofs.YtiiaccpcoclklaaGreat
namespace Abs
open Go Go.Proofs
def bR : List AV := [.nilFunc, .func 265 [.eptr [.int .i64 2, .str ([] : Str), .slice (List.map aG ([])) .shared]], .func 265 [.eptr [.int .i64 2, .str ([] : Str), .slice (List.map aG ([])) .shared]], .func 259 [.eptr [.int .i64 2, .str ([] : Str), .slice (List.map aG ([])) .shared], .eptr [.int .i64 2]], .func 259 [.eptr [.int .i64 2, .str ([] : Str), .slice (List.map aG ([])) .shared], .eptr [.int .i64 2]], .func 259 [.eptr [.int .i64 2, .str ([] : Str), .slice (List.map aG ([])) .shared], .eptr [.int .i64 2]], .func 259 [.eptr [.int .i64 2, .str ([] : Str), .slice (List.map aG ([])) .shared], .eptr [.int .i64 2]], .func 259 [.eptr [.int .i64 2, .str ([] : Str), .slice (List.map aG ([])) .shared], .eptr [.int .i64 2]], .func 266 [.eptr [.func 214 []]], .func 266 [.eptr [.func 214 []]], .func 201 [], .func 201 [], .func 259 [.eptr [.int .i64 2, .str ([] : Str), .slice (List.map aG ([])) .shared], .eptr [.int .i64 1]], .func 259 [.eptr [.int .i64 2, .str ([] : Str), .slice (List.map aG ([])) .shared], .eptr [.int .i64 1]], .func 259 [.eptr [.int .i64 2, .str ([] : Str), .slice (List.map aG ([])) .shared], .eptr [.int .i64 1]], .func 259 [.eptr [.int .i64 2, .str ([] : Str), .slice (List.map aG ([])) .shared], .eptr [.int .i64 1]], .func 216 [], .func 216 [], .func 267 [.eptr [.func 214 []]], .func 265 [.eptr [.int .i64 1, .str ([] : Str), .slice (List.map aG ([])) .shared]], .nilFunc, .func 259 [.eptr [.int .i64 1, .str ([] : Str), .slice (List.map aG ([])) .shared], .eptr [.int .i64 1]], .func 259 [.eptr [.int .i64 1, .str ([] : Str), .slice (List.map aG ([])) .shared], .eptr [.int .i64 1]], .func 259 [.eptr [.int .i64 1, .str ([] : Str), .slice (List.map aG ([])) .shared], .eptr [.int .i64 1]], .func 259 [.eptr [.int .i64 1, .str ([] : Str), .slice (List.map aG ([])) .shared], .eptr [.int .i64 1]], .func 259 [.eptr [.int .i64 1, .str ([] : Str), .slice (List.map aG ([])) .shared], .eptr [.int .i64 1]], .func 259 [.eptr [.int .i64 1, .str ([] : Str), .slice (List.map aG ([])) .shared], .eptr [.int .i64 1]], .func 218 [], .func 220 [], .nilFunc, .func 259 [.eptr [.int .i64 5, .str ([] : Str), .slice (List.map aG ([(Ty.mk 1 ([] : Str) ([]))])) .shared], .eptr [.int .i64 1]], .func 267 [.eptr [.func 215 []]], .func 267 [.eptr [.func 215 []]], .func 267 [.eptr [.func 215 []]], .func 262 [.eptr [.func 205 []]], .func 263 [.eptr [.func 221 []]], .func 263 [.eptr [.func 222 []]], .func 206 [], .func 206 [], .func 263 [.eptr [.func 209 []]], .func 263 [.eptr [.func 209 []]], .func 262 [.eptr [.func 204 []]], .func 262 [.eptr [.func 204 []]], .func 262 [.eptr [.func 204 []]], .func 262 [.eptr [.func 204 []]], .func 262 [.eptr [.func 204 []]], .func 264 [.eptr [.func 223 []]], .func 264 [.eptr [.func 224 []]], .func 264 [.eptr [.func 211 []]], .func 264 [.eptr [.func 211 []]], .func 263 [.eptr [.func 225 []]], .func 263 [.eptr [.func 226 []]], .func 263 [.eptr [.func 227 []]], .func 263 [.eptr [.func 228 []]], .func 263 [.eptr [.func 229 []]], .func 266 [.eptr [.func 215 []]], .func 230 []]
theorem aI (g : Nat → Nat) : bn g bR = bR := by simp only [bR, ren, bn, aW, cB, aL, aU, bA, aF, aT, aC, aK]
theorem Vn : aM Tryz.prog 16 = true := by kernel_rfl
theorem Pq : aM Tryz.prog 18 = true := by kernel_rfl
theorem Wm : aM Tryz.prog 21 = true := by kernel_rfl
theorem VG : aM Tryz.prog 38 = true := by kernel_rfl
theorem Vu : aM Tryz.prog 42 = true := by kernel_rfl
theorem QI : aM Tryz.prog 45 = true := by kernel_rfl
theorem LD : aM Tryz.prog 50 = true := by kernel_rfl
theorem WH : aM Tryz.prog 55 = true := by kernel_rfl
theorem GK : aM Tryz.prog 58 = true := by kernel_rfl
theorem Lv : aM Tryz.prog 66 = true := by kernel_rfl
theorem V7 : aM Tryz.prog 67 = true := by kernel_rfl
theorem PZ : aM Tryz.prog 68 = true := by kernel_rfl
theorem Kg : aM Tryz.prog 70 = true := by kernel_rfl
theorem Qt : aM Tryz.prog 73 = true := by kernel_rfl
theorem QU : aM Tryz.prog 79 = true := by kernel_rfl
theorem Gp : aM Tryz.prog 92 = true := by kernel_rfl
theorem u7 : aM Tryz.prog 93 = true := by kernel_rfl
theorem Pt : aM Tryz.prog 94 = true := by kernel_rfl
theorem V5 : aM Tryz.prog 95 = true := by kernel_rfl
theorem Pz : aM Tryz.prog 96 = true := by kernel_rfl
theorem Vy : aM Tryz.prog 97 = true := by kernel_rfl
theorem MV : aM Tryz.prog 103 = true := by kernel_rfl
theorem Ua : aM Tryz.prog 110 = true := by kernel_rfl
theorem Un : aM Tryz.prog 112 = true := by kernel_rfl
theorem TN : aM Tryz.prog 114 = true := by kernel_rfl
theorem TF : aM Tryz.prog 116 = true := by kernel_rfl
theorem wQ : aM Tryz.prog 117 = true := by kernel_rfl
theorem U0 : aM Tryz.prog 118 = true := by kernel_rfl
theorem Ng : aM Tryz.prog 120 = true := by kernel_rfl
theorem TK : aM Tryz.prog 121 = true := by kernel_rfl
theorem TU : aM Tryz.prog 122 = true := by kernel_rfl
theorem Uo : aM Tryz.prog 123 = true := by kernel_rfl
theorem Nf : aM Tryz.prog 130 = true := by kernel_rfl
theorem U5 : aM Tryz.prog 131 = true := by kernel_rfl
theorem TV : aM Tryz.prog 132 = true := by kernel_rfl
theorem Tv : aM Tryz.prog 133 = true := by kernel_rfl
theorem lV : aM Tryz.prog 134 = true := by kernel_rfl
theorem Ve : aM Tryz.prog 135 = true := by kernel_rfl
theorem Ub : aM Tryz.prog 136 = true := by kernel_rfl
theorem NR : aM Tryz.prog 137 = true := by kernel_rfl
theorem oD : aM Tryz.prog 138 = true := by kernel_rfl
theorem TH : aM Tryz.prog 141 = true := by kernel_rfl
theorem M0 : aM Tryz.prog 176 = true := by kernel_rfl
theorem TD : aM Tryz.prog 177 = true := by kernel_rfl
theorem EB : aM Tryz.prog 178 = true := by kernel_rfl
theorem UC : aM Tryz.prog 179 = true := by kernel_rfl
theorem Nt : aM Tryz.prog 180 = true := by kernel_rfl
theorem Vi : aM Tryz.prog 181 = true := by kernel_rfl
theorem U7 : aM Tryz.prog 182 = true := by kernel_rfl
theorem Nj : aM Tryz.prog 187 = true := by kernel_rfl
theorem Vg : aM Tryz.prog 190 = true := by kernel_rfl
theorem Na : aM Tryz.prog 191 = true := by kernel_rfl
theorem Ta : aM Tryz.prog 192 = true := by kernel_rfl
theorem UF : aM Tryz.prog 193 = true := by kernel_rfl
theorem NV : aM Tryz.prog 194 = true := by kernel_rfl
theorem UA : aM Tryz.prog 195 = true := by kernel_rfl
theorem UO : aM Tryz.prog 196 = true := by kernel_rfl
theorem Uj : aM Tryz.prog 197 = true := by kernel_rfl
theorem EC : aM Tryz.prog 198 = true := by kernel_rfl
theorem uX : aM Tryz.prog 199 = true := by kernel_rfl
theorem zU : aM Tryz.prog 200 = true := by kernel_rfl
theorem NZ : aM Tryz.prog 201 = true := by kernel_rfl
theorem Ar : aM Tryz.prog 202 = true := by kernel_rfl
theorem M4 : aM Tryz.prog 203 = true := by kernel_rfl
theorem Tg : aM Tryz.prog 204 = true := by kernel_rfl
theorem Av : aM Tryz.prog 205 = true := by kernel_rfl
theorem NH : aM Tryz.prog 206 = true := by kernel_rfl
theorem pQ : aM Tryz.prog 207 = true := by kernel_rfl
theorem sN : aM Tryz.prog 208 = true := by kernel_rfl
theorem Ui : aM Tryz.prog 209 = true := by kernel_rfl
theorem H6 : aM Tryz.prog 210 = true := by kernel_rfl
theorem Te : aM Tryz.prog 211 = true := by kernel_rfl
theorem HV : aM Tryz.prog 212 = true := by kernel_rfl
theorem IE : aM Tryz.prog 213 = true := by kernel_rfl
theorem NW : aM Tryz.prog 214 = true := by kernel_rfl
theorem MZ : aM Tryz.prog 215 = true := by kernel_rfl
theorem Ob : aM Tryz.prog 216 = true := by kernel_rfl
theorem Em : aM Tryz.prog 217 = true := by kernel_rfl
theorem Us : aM Tryz.prog 218 = true := by kernel_rfl
theorem Nh : aM Tryz.prog 219 = true := by kernel_rfl
theorem Ti : aM Tryz.prog 220 = true := by kernel_rfl
theorem Uq : aM Tryz.prog 221 = true := by kernel_rfl
theorem Ud : aM Tryz.prog 222 = true := by kernel_rfl
theorem Vf : aM Tryz.prog 223 = true := by kernel_rfl
theorem Tq : aM Tryz.prog 224 = true := by kernel_rfl
theorem Vb : aM Tryz.prog 225 = true := by kernel_rfl
theorem TP : aM Tryz.prog 226 = true := by kernel_rfl
theorem UE : aM Tryz.prog 227 = true := by kernel_rfl
theorem UJ : aM Tryz.prog 228 = true := by kernel_rfl
theorem Tn : aM Tryz.prog 229 = true := by kernel_rfl
theorem U2 : aM Tryz.prog 230 = true := by kernel_rfl
theorem UH : aM Tryz.prog 231 = true := by kernel_rfl
theorem Vd : aM Tryz.prog 235 = true := by kernel_rfl
theorem TY : aM Tryz.prog 236 = true := by kernel_rfl
theorem UZ : aM Tryz.prog 244 = true := by kernel_rfl
theorem Es : aM Tryz.prog 245 = true := by kernel_rfl
theorem NI : aM Tryz.prog 246 = true := by kernel_rfl
theorem Uw : aM Tryz.prog 247 = true := by kernel_rfl
theorem Tk : aM Tryz.prog 248 = true := by kernel_rfl
theorem U8 : aM Tryz.prog 252 = true := by kernel_rfl
theorem UG : aM Tryz.prog 253 = true := by kernel_rfl
theorem Ux : aM Tryz.prog 254 = true := by kernel_rfl
theorem TW : aM Tryz.prog 255 = true := by kernel_rfl
theorem Uv : aM Tryz.prog 256 = true := by kernel_rfl
theorem Uf : aM Tryz.prog 257 = true := by kernel_rfl
theorem U9 : aM Tryz.prog 258 = true := by kernel_rfl
theorem kG : aM Tryz.prog 259 = true := by kernel_rfl
theorem TS : aM Tryz.prog 260 = true := by kernel_rfl
theorem Tj : aM Tryz.prog 261 = true := by kernel_rfl
theorem wS : aM Tryz.prog 262 = true := by kernel_rfl
theorem qN : aM Tryz.prog 263 = true := by kernel_rfl
theorem Et : aM Tryz.prog 264 = true := by kernel_rfl
theorem Iq : aM Tryz.prog 265 = true := by kernel_rfl
theorem Iu : aM Tryz.prog 266 = true := by kernel_rfl
theorem Ez : aM Tryz.prog 267 = true := by kernel_rfl
theorem UN : aM Tryz.prog 288 = true := by kernel_rfl
theorem rg {m id : Nat} {l : Array Oper} {dr : Bool} {Q : QT} {t : List AV} {h : List AObj} (r : Nat) (hr : rep r h fun h2 => Ic h 0 fun k => xB Tryz.prog τ l.toList l.toList k [] t h2 fun es t h => gq dr (sJ l.toList es = true ∧ Q .normal t h) (Q .normal t h)) : AW Tryz.prog m (.region id l dr) Q t h := AW.region au yh r hr
attribute [simp] ren bn aW cB I8 I9 VH Wi TM KF Qn bf aL aU bA aF aT aC aK aI
abbrev AV.i (n : Int) : AV := .int .i64 n
abbrev aJ (l : List Ty) : AV := .slice (List.map aG l) .shared
abbrev dN (l : List Tm) : AV := .slice (List.map aY l) .shared
abbrev eP (l : List Str) : AV := .slice (List.map encS l) .shared
abbrev Xz (l : List Int) : AV := .slice (List.map encI l) .shared
abbrev jJ (l : List Decl) : AV := .slice (List.map bD l) .shared
abbrev gD (l : List Carrier) : AV := .slice (List.map cO l) .shared
abbrev pW (x : Env) : AV := .agg [gD x.carriers, jJ x.names]
abbrev dZ (m : List (Str × Ty)) : List (List UInt8 × AV) := List.map (fun p => (p.1, aQ p.2)) m
abbrev dL (m : List (Str × Bool)) : List (List UInt8 × AV) := List.map (fun p => (p.1, AV.bool p.2)) m
theorem OW.mT {h : List AObj} {L : List (Option Nat)} {m : List (Str × Ty)} : OW h L (.mp (dZ m)) (.mp (dZ m)) := .same rfl (congrArg AObj.mp (bK (f := aQ) (fun g x => by simp) _ _))
theorem OW.mB {h : List AObj} {L : List (Option Nat)} {m : List (Str × Bool)} : OW h L (.mp (dL m)) (.mp (dL m)) := .same rfl (congrArg AObj.mp (bK (f := AV.bool) (fun g x => rfl) _ _))
theorem nt {a b c : Nat} (e : a = b) (h : Nat.ble c b = true) : c ≤ a := e ▸ Nat.le_of_ble_eq_true h
theorem cp {P : Program} {f : Nat} {args : List AV} {dst : Option Tmp} {t : List AV} {h : List AObj} {k : Nat} {K : Nat → List Nat → List Wr → Prop} {aargs : List AV} {res : AV} (hc : ak P f aargs [] res []) (hok : aM P f = true) (hs : SWs args aargs) (hK : K k [] (aH dst res)) (ha : ∀ g, bn g aargs = aargs := by intro g; simp) (hr : ∀ g, ren g res = res := by intro g; simp) : ACallU P f args dst t h k K := aD hc hok hs ha hr hK
end Abs
end Go.Proofs.YtiiaccpcoclklaaGreat
namespace Go.Proofs.YtiiaccpcoclklaaGreat
namespace Abs
open Go Go.Proofs
theorem P5 : aM Tryz.prog 49 = true := by kernel_rfl
theorem UW : aM Tryz.prog 106 = true := by kernel_rfl
theorem MQ : aM Tryz.prog 109 = true := by kernel_rfl
theorem Uk : aM Tryz.prog 152 = true := by kernel_rfl
end Abs
end Go.Proofs.YtiiaccpcoclklaaGreat
