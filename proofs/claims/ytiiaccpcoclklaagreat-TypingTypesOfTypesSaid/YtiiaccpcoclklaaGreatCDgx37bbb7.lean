/-
  The plain functions of the program (printed by gen.py). Conditions: none. Structures of the program (printed by gen.py). Conditions: none. More structures of the program (printed by gen.py). Conditions: none.
-/
import Derived.KernelRfl
import Derived.Test.YtiiaccpcoclklaaGreatCAbs38xf390fb
import Derived.Test.YtiiaccpcoclklaaGreatCDfxb0d24e
set_option linter.unusedSimpArgs false
set_option linter.unusedVariables false
namespace Go.Proofs.YtiiaccpcoclklaaGreat
namespace Abs
open Go Go.Proofs
set_option maxRecDepth 100000
set_option maxHeartbeats 40000000
structure S_refinementlaw02_Binding where
  env : Env
  body : Tm
  domain : Tm
  name : Str
def typing_node (n : Nat) (p0 : Int) (p1 : List Tm) : Option Tm := some (Tm.mk p0 ([] : Str) 0 (Ty.mk 0 ([] : Str) ([])) p1)
def R1_SameTerm_body (n : Nat) (rec_R1_SameTerm : Tm → Tm → Option Bool) (rec_R1_SameTerms : (List Tm) → (List Tm) → Option Bool) (p0 : Tm) (p1 : Tm) : Option Bool := (((cond (p0.op == p1.op) (cond (p0.name == p1.name) (cond (p0.n == p1.n) ((R1_SameType n p0.ty p1.ty).bind fun x1 => (cond x1 ((rec_R1_SameTerms p0.kids p1.kids).bind fun x2 => some x2) (some false))) (some false)) (some false)) (some false)) : Option Bool).bind fun s1 => some s1)
def R1_SameTerms_L0 (n : Nat) (rec_R1_SameTerm : Tm → Tm → Option Bool) (rec_R1_SameTerms : (List Tm) → (List Tm) → Option Bool) (p0 : List Tm) (p1 : List Tm) : Nat → Int → Option (LR Unit Bool)
 | 0, _ => none
 | k + 1, s1 => (cond (decide (s1 < (p0.length : Int))) ((idx p0 s1).bind fun x1 => ((idx p1 s1).bind fun x2 => ((rec_R1_SameTerm x1 x2).bind fun x3 => (cond (!x3) (some (.rt false)) (R1_SameTerms_L0 n rec_R1_SameTerm rec_R1_SameTerms p0 p1 k (s1 + 1)))))) (some (.nx ())))
def R1_SameTerms_body (n : Nat) (rec_R1_SameTerm : Tm → Tm → Option Bool) (rec_R1_SameTerms : (List Tm) → (List Tm) → Option Bool) (p0 : List Tm) (p1 : List Tm) : Option Bool := (cond ((p0.length : Int) != (p1.length : Int)) (some false) ((R1_SameTerms_L0 n rec_R1_SameTerm rec_R1_SameTerms p0 p1 n 0).bind (LR.el (fun s2 => some true) (fun r => some r))))
mutual
def R1_SameTerm : Nat → Tm → Tm → Option Bool
 | 0, _, _ => none
 | n + 1, p0, p1 => R1_SameTerm_body n (fun p0 p1 => R1_SameTerm n p0 p1) (fun p0 p1 => R1_SameTerms n p0 p1) p0 p1
def R1_SameTerms : Nat → (List Tm) → (List Tm) → Option Bool
 | 0, _, _ => none
 | n + 1, p0, p1 => R1_SameTerms_body n (fun p0 p1 => R1_SameTerm n p0 p1) (fun p0 p1 => R1_SameTerms n p0 p1) p0 p1
end
end Abs
end Go.Proofs.YtiiaccpcoclklaaGreat
namespace Go.Proofs.YtiiaccpcoclklaaGreat
namespace Abs
open Go Go.Proofs
set_option maxRecDepth 100000
set_option maxHeartbeats 40000000
def typing_SameType (n : Nat) (p0 : Ty) (p1 : Ty) : Option Bool := ((((term_ValidType n p0).bind fun x1 => (cond x1 ((term_ValidType n p1).bind fun x2 => (cond x2 ((typing_equal n p0 p1).bind fun x3 => some x3) (some false))) (some false))) : Option Bool).bind fun s1 => some s1)
def R2_SameType (n : Nat) (p0 : Ty) (p1 : Ty) : Option Bool := ((((R1_ValidType n p0).bind fun x1 => (cond x1 ((R1_ValidType n p1).bind fun x2 => (cond x2 ((R1_SameType n p0 p1).bind fun x3 => some x3) (some false))) (some false))) : Option Bool).bind fun s1 => some s1)
def typing_universe_body (n : Nat) (rec_typing_universe : Ty → Option Tm) (p0 : Ty) : Option Tm := (cond (p0.kind == 4) ((idx p0.kids 0).bind fun x1 => ((rec_typing_universe x1).bind fun x2 => ((idx p0.kids 1).bind fun x3 => ((rec_typing_universe x3).bind fun x4 => some (Tm.mk 34 ([] : Str) 0 ((Ty.mk 0 ([] : Str) ([]))) ([x2, x4])))))) (cond (p0.kind == 5) ((idx p0.kids 0).bind fun x5 => ((rec_typing_universe x5).bind fun x6 => some (Tm.mk 46 ([] : Str) 0 ((Ty.mk 0 ([] : Str) ([]))) ([x6])))) (some (Tm.mk 20 p0.name 0 (Ty.mk 0 ([] : Str) ([])) ([])))))
def typing_universe : Nat → Ty → Option Tm
 | 0, _ => none
 | n + 1, p0 => typing_universe_body n (fun p0 => typing_universe n p0) p0
def typing_Universe (n : Nat) (p0 : Env) (p1 : Ty) : Option (Tm × Bool) := ((((typing_ValidEnv n p0).bind fun x2 => (cond (!x2) (some true) ((typing_declarable n p1).bind fun x3 => (cond (!x3) (some true) ((typing_contains n p1 1).bind fun x4 => (cond x4 (some true) ((typing_mentions n p0 p1).bind fun x5 => some (!x5)))))))) : Option Bool).bind fun s1 => (cond s1 (some ((Tm.mk 0 ([] : Str) 0 (Ty.mk 0 ([] : Str) ([])) ([])), false)) ((typing_universe n p1).bind fun x1 => some (x1, true))))
def R2_holdsInt_L0 (n : Nat) (rec_R2_holdsInt : Ty → Option Bool) (p0 : Ty) : Nat → Int → Option (LR Unit Bool)
 | 0, _ => none
 | k + 1, s1 => (cond (decide (s1 < (p0.kids.length : Int))) ((idx p0.kids s1).bind fun x1 => ((rec_R2_holdsInt x1).bind fun x2 => (cond x2 (some (.rt true)) (R2_holdsInt_L0 n rec_R2_holdsInt p0 k (s1 + 1))))) (some (.nx ())))
def R2_holdsInt_body (n : Nat) (rec_R2_holdsInt : Ty → Option Bool) (p0 : Ty) : Option Bool := (cond (p0.kind == 1) (some true) ((R2_holdsInt_L0 n rec_R2_holdsInt p0 n 0).bind (LR.el (fun s2 => some false) (fun r => some r))))
def R2_holdsInt : Nat → Ty → Option Bool
 | 0, _ => none
 | n + 1, p0 => R2_holdsInt_body n (fun p0 => R2_holdsInt n p0) p0
def R2_universe_body (n : Nat) (rec_R2_universe : Ty → Option Tm) (p0 : Ty) : Option Tm := (cond (p0.kind == 4) ((idx p0.kids 0).bind fun x1 => ((rec_R2_universe x1).bind fun x2 => ((idx p0.kids 1).bind fun x3 => ((rec_R2_universe x3).bind fun x4 => some (Tm.mk 34 ([] : Str) 0 (Ty.mk 0 ([] : Str) ([])) ([x2, x4])))))) (cond (p0.kind == 5) ((idx p0.kids 0).bind fun x5 => ((rec_R2_universe x5).bind fun x6 => some (Tm.mk 46 ([] : Str) 0 (Ty.mk 0 ([] : Str) ([])) ([x6])))) (some (Tm.mk 20 p0.name 0 (Ty.mk 0 ([] : Str) ([])) ([])))))
def R2_universe : Nat → Ty → Option Tm
 | 0, _ => none
 | n + 1, p0 => R2_universe_body n (fun p0 => R2_universe n p0) p0
def R2_Universe (n : Nat) (p0 : Env) (p1 : Ty) : Option (Tm × Bool) := ((((R2_ValidEnv n p0).bind fun x2 => (cond (!x2) (some true) ((R1_ValidType n p1).bind fun x3 => (cond (!x3) (some true) ((R2_holdsBool n p1).bind fun x4 => (cond x4 (some true) ((R2_holdsInt n p1).bind fun x5 => (cond x5 (some true) ((R2_Knows n p0 p1).bind fun x6 => some (!x6)))))))))) : Option Bool).bind fun s1 => (cond s1 (some ((Tm.mk 0 ([] : Str) 0 (Ty.mk 0 ([] : Str) ([])) ([])), false)) ((R2_universe n p1).bind fun x1 => some (x1, true))))
def R1_Sorted_L2 (n : Nat) (p0 : List Str) (s1 : (List Str) × Int) : Nat → Int → Option (LR Int (List Str))
 | 0, _ => none
 | k + 1, s4 => (((cond (decide (s4 < (s1.1.length : Int))) ((idx s1.1 s4).bind fun x8 => ((idx p0 s1.2).bind fun x9 => some (Op.bytesLess x8 x9))) (some false)) : Option Bool).bind fun s9 => (cond s9 (R1_Sorted_L2 n p0 s1 k (IntKind.wrap .i64 (s4 + 1))) (some (.nx s4))))
def R1_Sorted_L1 (n : Nat) (s5 : Int) : Nat → ((List Str) × Int) → Option (LR (List Str) (List Str))
 | 0, _ => none
 | k + 1, s7 => (cond (decide (s5 < s7.2)) ((idx s7.1 (IntKind.wrap .i64 (s7.2 - 1))).bind fun x4 => ((idx s7.1 s7.2).bind fun x5 => R1_Sorted_L1 n s5 k ((upd s7.1 s7.2 x4), (IntKind.wrap .i64 (s7.2 - 1))))) (some (.nx s7.1)))
def R1_Sorted_L0 (n : Nat) (p0 : List Str) : Nat → ((List Str) × Int) → Option (LR (List Str) (List Str))
 | 0, _ => none
 | k + 1, s1 => (cond (decide (s1.2 < (p0.length : Int))) ((((R1_Sorted_L2 n p0 s1 n 0).bind (LR.el (fun s5 => (((cond (decide (s5 < (s1.1.length : Int))) ((idx s1.1 s5).bind fun x6 => ((idx p0 s1.2).bind fun x7 => some (x6 == x7))) (some false)) : Option Bool).bind fun s6 => (cond s6 (some s1.1) ((app 16 s1.1 ([([] : Str)])).bind fun x1 => ((R1_Sorted_L1 n s5 n (x1, (IntKind.wrap .i64 ((x1.length : Int) - 1)))).bind (LR.el (fun s8 => ((idx p0 s1.2).bind fun x2 => ((idx s8 s5).bind fun x3 => some (upd s8 s5 x2)))) (fun r => none))))))) (fun r => none))) : Option (List Str)).bind fun s3 => R1_Sorted_L0 n p0 k (s3, (s1.2 + 1))) (some (.nx s1.1)))
def R1_Sorted (n : Nat) (p0 : List Str) : Option (List Str) := ((R1_Sorted_L0 n p0 n (([] : List Str), 0)).bind (LR.el (fun s2 => some s2) (fun r => some r)))
def R2_Carriers (n : Nat) (p0 : Ty) : Option (List Str) := ((R1_ValidType n p0).bind fun x1 => (cond (!x1) (some ([] : List Str)) ((R2_carriers n p0).bind fun x2 => ((R1_Sorted n x2).bind fun x3 => some x3))))
def R2_SameStrings (n : Nat) (p0 : List Str) (p1 : List Str) : Option Bool := ((R2_same n p0 p1).bind fun x1 => some x1)
def L2_TypingTypesOfTypes (n : Nat) (p0 : Env) (p1 : Ty) (p2 : Ty) : Option Bool := ((((L2_small n p0).bind fun x15 => (cond (!x15) (some true) ((typing_SameType n p1 p2).bind fun x16 => ((R2_SameType n p1 p2).bind fun x17 => (cond (!(x16 == x17)) (some true) ((typing_SameType n p1 p1).bind fun x18 => (cond (!x18) ((R1_ValidType n p1).bind fun x19 => some x19) (some false)))))))) : Option Bool).bind fun s1 => (cond s1 ((((L2_small n p0).bind fun x1 => (cond (!x1) ((L2_awake n).bind fun x2 => some x2) (some false))) : Option Bool).bind fun s2 => some s2) ((typing_Universe n p0 p1).bind fun x3 => ((R2_Universe n p0 p1).bind fun x4 => ((typing_Carriers n p1).bind fun x5 => ((R2_Carriers n p1).bind fun x6 => (((cond (!(x3.2 == x4.2)) (some true) ((R1_SameTerm n x3.1 x4.1).bind fun x13 => (cond (!x13) (some true) ((R2_SameStrings n x5 x6).bind fun x14 => some (!x14))))) : Option Bool).bind fun s3 => (cond s3 (some false) (cond (!x3.2) ((L2_awake n).bind fun x7 => some x7) ((typing_TypeOf n p0 x3.1).bind fun x8 => (cond (x8.2.2 != 0) (((cond (x8.2.2 == 5) ((R1_ValidType n (Ty.mk 5 ([] : Str) ([p1]))).bind fun x9 => (cond (!x9) ((L2_awake n).bind fun x10 => some x10) (some false))) (some false)) : Option Bool).bind fun s4 => some s4) ((((R1_SameType n x8.1 (Ty.mk 5 ([] : Str) ([p1]))).bind fun x11 => (cond x11 ((L2_awake n).bind fun x12 => some x12) (some false))) : Option Bool).bind fun s5 => some s5))))))))))))
end Abs
end Go.Proofs.YtiiaccpcoclklaaGreat
namespace Go.Proofs.YtiiaccpcoclklaaGreat
namespace Abs
open Go Go.Proofs
def rowC0 : List AV := [.nilFunc, .func 265 [.eptr [.int .i64 2, .str ([] : Str), .slice (List.map encTy ([])) .shared]], .func 265 [.eptr [.int .i64 2, .str ([] : Str), .slice (List.map encTy ([])) .shared]], .func 259 [.eptr [.int .i64 2, .str ([] : Str), .slice (List.map encTy ([])) .shared], .eptr [.int .i64 2]], .func 259 [.eptr [.int .i64 2, .str ([] : Str), .slice (List.map encTy ([])) .shared], .eptr [.int .i64 2]], .func 259 [.eptr [.int .i64 2, .str ([] : Str), .slice (List.map encTy ([])) .shared], .eptr [.int .i64 2]], .func 259 [.eptr [.int .i64 2, .str ([] : Str), .slice (List.map encTy ([])) .shared], .eptr [.int .i64 2]], .func 259 [.eptr [.int .i64 2, .str ([] : Str), .slice (List.map encTy ([])) .shared], .eptr [.int .i64 2]], .func 266 [.eptr [.func 214 []]], .func 266 [.eptr [.func 214 []]], .func 201 [], .func 201 [], .func 259 [.eptr [.int .i64 2, .str ([] : Str), .slice (List.map encTy ([])) .shared], .eptr [.int .i64 1]], .func 259 [.eptr [.int .i64 2, .str ([] : Str), .slice (List.map encTy ([])) .shared], .eptr [.int .i64 1]], .func 259 [.eptr [.int .i64 2, .str ([] : Str), .slice (List.map encTy ([])) .shared], .eptr [.int .i64 1]], .func 259 [.eptr [.int .i64 2, .str ([] : Str), .slice (List.map encTy ([])) .shared], .eptr [.int .i64 1]], .func 216 [], .func 216 [], .func 267 [.eptr [.func 214 []]], .func 265 [.eptr [.int .i64 1, .str ([] : Str), .slice (List.map encTy ([])) .shared]], .nilFunc, .func 259 [.eptr [.int .i64 1, .str ([] : Str), .slice (List.map encTy ([])) .shared], .eptr [.int .i64 1]], .func 259 [.eptr [.int .i64 1, .str ([] : Str), .slice (List.map encTy ([])) .shared], .eptr [.int .i64 1]], .func 259 [.eptr [.int .i64 1, .str ([] : Str), .slice (List.map encTy ([])) .shared], .eptr [.int .i64 1]], .func 259 [.eptr [.int .i64 1, .str ([] : Str), .slice (List.map encTy ([])) .shared], .eptr [.int .i64 1]], .func 259 [.eptr [.int .i64 1, .str ([] : Str), .slice (List.map encTy ([])) .shared], .eptr [.int .i64 1]], .func 259 [.eptr [.int .i64 1, .str ([] : Str), .slice (List.map encTy ([])) .shared], .eptr [.int .i64 1]], .func 218 [], .func 220 [], .nilFunc, .func 259 [.eptr [.int .i64 5, .str ([] : Str), .slice (List.map encTy ([(Ty.mk 1 ([] : Str) ([]))])) .shared], .eptr [.int .i64 1]], .func 267 [.eptr [.func 215 []]], .func 267 [.eptr [.func 215 []]], .func 267 [.eptr [.func 215 []]], .func 262 [.eptr [.func 205 []]], .func 263 [.eptr [.func 221 []]], .func 263 [.eptr [.func 222 []]], .func 206 [], .func 206 [], .func 263 [.eptr [.func 209 []]], .func 263 [.eptr [.func 209 []]], .func 262 [.eptr [.func 204 []]], .func 262 [.eptr [.func 204 []]], .func 262 [.eptr [.func 204 []]], .func 262 [.eptr [.func 204 []]], .func 262 [.eptr [.func 204 []]], .func 264 [.eptr [.func 223 []]], .func 264 [.eptr [.func 224 []]], .func 264 [.eptr [.func 211 []]], .func 264 [.eptr [.func 211 []]], .func 263 [.eptr [.func 225 []]], .func 263 [.eptr [.func 226 []]], .func 263 [.eptr [.func 227 []]], .func 263 [.eptr [.func 228 []]], .func 263 [.eptr [.func 229 []]], .func 266 [.eptr [.func 215 []]], .func 230 []]
theorem rowC0_ren (g : Nat → Nat) : renL g rowC0 = rowC0 := by simp only [rowC0, ren, renL, renLL, renT, renl_I, renl_S, renl_U8, renl_Ty, renl_Tm, renl_Carrier, renl_Decl]
theorem okF_16 : okFn Tryz.prog 16 = true := by kernel_rfl
theorem okF_18 : okFn Tryz.prog 18 = true := by kernel_rfl
theorem okF_20 : okFn Tryz.prog 20 = true := by kernel_rfl
theorem okF_42 : okFn Tryz.prog 42 = true := by kernel_rfl
theorem okF_45 : okFn Tryz.prog 45 = true := by kernel_rfl
theorem okF_48 : okFn Tryz.prog 48 = true := by kernel_rfl
theorem okF_50 : okFn Tryz.prog 50 = true := by kernel_rfl
theorem okF_55 : okFn Tryz.prog 55 = true := by kernel_rfl
theorem okF_56 : okFn Tryz.prog 56 = true := by kernel_rfl
theorem okF_58 : okFn Tryz.prog 58 = true := by kernel_rfl
theorem okF_62 : okFn Tryz.prog 62 = true := by kernel_rfl
theorem okF_66 : okFn Tryz.prog 66 = true := by kernel_rfl
theorem okF_67 : okFn Tryz.prog 67 = true := by kernel_rfl
theorem okF_68 : okFn Tryz.prog 68 = true := by kernel_rfl
theorem okF_70 : okFn Tryz.prog 70 = true := by kernel_rfl
theorem okF_92 : okFn Tryz.prog 92 = true := by kernel_rfl
theorem okF_93 : okFn Tryz.prog 93 = true := by kernel_rfl
theorem okF_94 : okFn Tryz.prog 94 = true := by kernel_rfl
theorem okF_95 : okFn Tryz.prog 95 = true := by kernel_rfl
theorem okF_96 : okFn Tryz.prog 96 = true := by kernel_rfl
theorem okF_97 : okFn Tryz.prog 97 = true := by kernel_rfl
theorem okF_99 : okFn Tryz.prog 99 = true := by kernel_rfl
theorem okF_101 : okFn Tryz.prog 101 = true := by kernel_rfl
theorem okF_103 : okFn Tryz.prog 103 = true := by kernel_rfl
theorem okF_107 : okFn Tryz.prog 107 = true := by kernel_rfl
theorem okF_108 : okFn Tryz.prog 108 = true := by kernel_rfl
theorem okF_110 : okFn Tryz.prog 110 = true := by kernel_rfl
theorem okF_112 : okFn Tryz.prog 112 = true := by kernel_rfl
theorem okF_114 : okFn Tryz.prog 114 = true := by kernel_rfl
theorem okF_116 : okFn Tryz.prog 116 = true := by kernel_rfl
theorem okF_117 : okFn Tryz.prog 117 = true := by kernel_rfl
theorem okF_118 : okFn Tryz.prog 118 = true := by kernel_rfl
theorem okF_120 : okFn Tryz.prog 120 = true := by kernel_rfl
theorem okF_121 : okFn Tryz.prog 121 = true := by kernel_rfl
theorem okF_122 : okFn Tryz.prog 122 = true := by kernel_rfl
theorem okF_123 : okFn Tryz.prog 123 = true := by kernel_rfl
theorem okF_128 : okFn Tryz.prog 128 = true := by kernel_rfl
theorem okF_130 : okFn Tryz.prog 130 = true := by kernel_rfl
theorem okF_131 : okFn Tryz.prog 131 = true := by kernel_rfl
theorem okF_132 : okFn Tryz.prog 132 = true := by kernel_rfl
theorem okF_133 : okFn Tryz.prog 133 = true := by kernel_rfl
theorem okF_134 : okFn Tryz.prog 134 = true := by kernel_rfl
theorem okF_135 : okFn Tryz.prog 135 = true := by kernel_rfl
theorem okF_136 : okFn Tryz.prog 136 = true := by kernel_rfl
theorem okF_137 : okFn Tryz.prog 137 = true := by kernel_rfl
theorem okF_138 : okFn Tryz.prog 138 = true := by kernel_rfl
theorem okF_176 : okFn Tryz.prog 176 = true := by kernel_rfl
theorem okF_177 : okFn Tryz.prog 177 = true := by kernel_rfl
theorem okF_178 : okFn Tryz.prog 178 = true := by kernel_rfl
theorem okF_179 : okFn Tryz.prog 179 = true := by kernel_rfl
theorem okF_180 : okFn Tryz.prog 180 = true := by kernel_rfl
theorem okF_181 : okFn Tryz.prog 181 = true := by kernel_rfl
theorem okF_182 : okFn Tryz.prog 182 = true := by kernel_rfl
theorem okF_187 : okFn Tryz.prog 187 = true := by kernel_rfl
theorem okF_190 : okFn Tryz.prog 190 = true := by kernel_rfl
theorem okF_191 : okFn Tryz.prog 191 = true := by kernel_rfl
theorem okF_192 : okFn Tryz.prog 192 = true := by kernel_rfl
theorem okF_193 : okFn Tryz.prog 193 = true := by kernel_rfl
theorem okF_194 : okFn Tryz.prog 194 = true := by kernel_rfl
theorem okF_195 : okFn Tryz.prog 195 = true := by kernel_rfl
theorem okF_196 : okFn Tryz.prog 196 = true := by kernel_rfl
theorem okF_197 : okFn Tryz.prog 197 = true := by kernel_rfl
theorem okF_198 : okFn Tryz.prog 198 = true := by kernel_rfl
theorem okF_199 : okFn Tryz.prog 199 = true := by kernel_rfl
theorem okF_200 : okFn Tryz.prog 200 = true := by kernel_rfl
theorem okF_201 : okFn Tryz.prog 201 = true := by kernel_rfl
theorem okF_202 : okFn Tryz.prog 202 = true := by kernel_rfl
theorem okF_203 : okFn Tryz.prog 203 = true := by kernel_rfl
theorem okF_204 : okFn Tryz.prog 204 = true := by kernel_rfl
theorem okF_205 : okFn Tryz.prog 205 = true := by kernel_rfl
theorem okF_206 : okFn Tryz.prog 206 = true := by kernel_rfl
theorem okF_207 : okFn Tryz.prog 207 = true := by kernel_rfl
theorem okF_208 : okFn Tryz.prog 208 = true := by kernel_rfl
theorem okF_209 : okFn Tryz.prog 209 = true := by kernel_rfl
theorem okF_210 : okFn Tryz.prog 210 = true := by kernel_rfl
theorem okF_211 : okFn Tryz.prog 211 = true := by kernel_rfl
theorem okF_212 : okFn Tryz.prog 212 = true := by kernel_rfl
theorem okF_213 : okFn Tryz.prog 213 = true := by kernel_rfl
theorem okF_214 : okFn Tryz.prog 214 = true := by kernel_rfl
theorem okF_215 : okFn Tryz.prog 215 = true := by kernel_rfl
theorem okF_216 : okFn Tryz.prog 216 = true := by kernel_rfl
theorem okF_217 : okFn Tryz.prog 217 = true := by kernel_rfl
theorem okF_218 : okFn Tryz.prog 218 = true := by kernel_rfl
theorem okF_219 : okFn Tryz.prog 219 = true := by kernel_rfl
theorem okF_220 : okFn Tryz.prog 220 = true := by kernel_rfl
theorem okF_221 : okFn Tryz.prog 221 = true := by kernel_rfl
theorem okF_222 : okFn Tryz.prog 222 = true := by kernel_rfl
theorem okF_223 : okFn Tryz.prog 223 = true := by kernel_rfl
theorem okF_224 : okFn Tryz.prog 224 = true := by kernel_rfl
theorem okF_225 : okFn Tryz.prog 225 = true := by kernel_rfl
theorem okF_226 : okFn Tryz.prog 226 = true := by kernel_rfl
theorem okF_227 : okFn Tryz.prog 227 = true := by kernel_rfl
theorem okF_228 : okFn Tryz.prog 228 = true := by kernel_rfl
theorem okF_229 : okFn Tryz.prog 229 = true := by kernel_rfl
theorem okF_230 : okFn Tryz.prog 230 = true := by kernel_rfl
theorem okF_231 : okFn Tryz.prog 231 = true := by kernel_rfl
theorem okF_244 : okFn Tryz.prog 244 = true := by kernel_rfl
theorem okF_245 : okFn Tryz.prog 245 = true := by kernel_rfl
theorem okF_246 : okFn Tryz.prog 246 = true := by kernel_rfl
theorem okF_247 : okFn Tryz.prog 247 = true := by kernel_rfl
theorem okF_248 : okFn Tryz.prog 248 = true := by kernel_rfl
theorem okF_252 : okFn Tryz.prog 252 = true := by kernel_rfl
theorem okF_253 : okFn Tryz.prog 253 = true := by kernel_rfl
theorem okF_254 : okFn Tryz.prog 254 = true := by kernel_rfl
theorem okF_255 : okFn Tryz.prog 255 = true := by kernel_rfl
theorem okF_256 : okFn Tryz.prog 256 = true := by kernel_rfl
theorem okF_257 : okFn Tryz.prog 257 = true := by kernel_rfl
theorem okF_258 : okFn Tryz.prog 258 = true := by kernel_rfl
theorem okF_259 : okFn Tryz.prog 259 = true := by kernel_rfl
theorem okF_260 : okFn Tryz.prog 260 = true := by kernel_rfl
theorem okF_261 : okFn Tryz.prog 261 = true := by kernel_rfl
theorem okF_262 : okFn Tryz.prog 262 = true := by kernel_rfl
theorem okF_263 : okFn Tryz.prog 263 = true := by kernel_rfl
theorem okF_264 : okFn Tryz.prog 264 = true := by kernel_rfl
theorem okF_265 : okFn Tryz.prog 265 = true := by kernel_rfl
theorem okF_266 : okFn Tryz.prog 266 = true := by kernel_rfl
theorem okF_267 : okFn Tryz.prog 267 = true := by kernel_rfl
theorem okF_288 : okFn Tryz.prog 288 = true := by kernel_rfl
theorem rg {m id : Nat} {l : Array Oper} {dr : Bool} {Q : QT} {t : List AV} {h : List AObj} (r : Nat) (hr : rep r h fun h2 => fLen h 0 fun k => runU Tryz.prog τ l.toList l.toList k [] t h2 fun es t h => onB dr (okOrder l.toList es = true ∧ Q .normal t h) (Q .normal t h)) : AW Tryz.prog m (.region id l dr) Q t h := AW.region τ_ok mixedO r hr
attribute [simp] ren renL renLL renT ren_encTy ren_encTm renE_I renE_S renE_U8 renE_Carrier renE_Decl renL_app renl_I renl_S renl_U8 renl_Ty renl_Tm renl_Carrier renl_Decl rowC0_ren
abbrev AV.i (n : Int) : AV := .int .i64 n
abbrev sTy (l : List Ty) : AV := .slice (List.map encTy l) .shared
abbrev sTm (l : List Tm) : AV := .slice (List.map encTm l) .shared
abbrev sSt (l : List Str) : AV := .slice (List.map encS l) .shared
abbrev sIn (l : List Int) : AV := .slice (List.map encI l) .shared
abbrev sDe (l : List Decl) : AV := .slice (List.map encDecl l) .shared
abbrev sCa (l : List Carrier) : AV := .slice (List.map encCarrier l) .shared
abbrev aEnv (x : Env) : AV := .agg [sCa x.carriers, sDe x.names]
abbrev mTy (m : List (Str × Ty)) : List (List UInt8 × AV) := List.map (fun p => (p.1, aTy p.2)) m
abbrev mBo (m : List (Str × Bool)) : List (List UInt8 × AV) := List.map (fun p => (p.1, AV.bool p.2)) m
theorem OW.mT {h : List AObj} {L : List (Option Nat)} {m : List (Str × Ty)} : OW h L (.mp (mTy m)) (.mp (mTy m)) := .same rfl (congrArg AObj.mp (renm (f := aTy) (fun g x => by simp) _ _))
theorem OW.mB {h : List AObj} {L : List (Option Nat)} {m : List (Str × Bool)} : OW h L (.mp (mBo m)) (.mp (mBo m)) := .same rfl (congrArg AObj.mp (renm (f := AV.bool) (fun g x => rfl) _ _))
theorem nt {a b c : Nat} (e : a = b) (h : Nat.ble c b = true) : c ≤ a := e ▸ Nat.le_of_ble_eq_true h
theorem cp {P : Program} {f : Nat} {args : List AV} {dst : Option Tmp} {t : List AV} {h : List AObj} {k : Nat} {K : Nat → List Nat → List Wr → Prop} {aargs : List AV} {res : AV} (hc : ACalls P f aargs [] res []) (hok : okFn P f = true) (hs : SWs args aargs) (hK : K k [] (toDst dst res)) (ha : ∀ g, renL g aargs = aargs := by intro g; simp) (hr : ∀ g, ren g res = res := by intro g; simp) : ACallU P f args dst t h k K := call_pur hc hok hs ha hr hK
end Abs
end Go.Proofs.YtiiaccpcoclklaaGreat
namespace Go.Proofs.YtiiaccpcoclklaaGreat
namespace Abs
open Go Go.Proofs
theorem okF_40 : okFn Tryz.prog 40 = true := by kernel_rfl
theorem okF_41 : okFn Tryz.prog 41 = true := by kernel_rfl
theorem okF_43 : okFn Tryz.prog 43 = true := by kernel_rfl
theorem okF_44 : okFn Tryz.prog 44 = true := by kernel_rfl
theorem okF_46 : okFn Tryz.prog 46 = true := by kernel_rfl
theorem okF_47 : okFn Tryz.prog 47 = true := by kernel_rfl
theorem okF_98 : okFn Tryz.prog 98 = true := by kernel_rfl
theorem okF_100 : okFn Tryz.prog 100 = true := by kernel_rfl
theorem okF_102 : okFn Tryz.prog 102 = true := by kernel_rfl
theorem okF_106 : okFn Tryz.prog 106 = true := by kernel_rfl
end Abs
end Go.Proofs.YtiiaccpcoclklaaGreat
