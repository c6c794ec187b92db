/-
  The plain functions of the program (printed by gen.py). Conditions: none.
-/
import Derived.KernelRfl
import Derived.Test.YtiiaccpcoclklaaGreatCAwx41e80c
import Derived.Test.YtiiaccpcoclklaaGreatCUDx009bf0
import Derived.Test.YtiiaccpcoclklaaGreatCAbs38ox0dd06a
set_option linter.unusedSimpArgs false
set_option linter.unusedVariables false
namespace Go.Proofs.YtiiaccpcoclklaaGreat
namespace Abs
open Go Go.Proofs
set_option maxRecDepth 100000
set_option maxHeartbeats 40000000
def qG (n : Nat) (p0 : List Str) (s1 : (List Str) × Int) : Nat → Int → Option (LR Int (List Str))
 | 0, _ => none
 | k + 1, s4 => (((cond (decide (s4 < (s1.1.length : Int))) ((idx s1.1 s4).bind fun x8 => ((idx p0 s1.2).bind fun x9 => some (Op.bytesLess x8 x9))) (some false)) : Option Bool).bind fun s9 => (cond s9 (qG n p0 s1 k (IntKind.wrap .i64 (s4 + 1))) (some (.nx s4))))
def qz (n : Nat) (s5 : Int) : Nat → ((List Str) × Int) → Option (LR (List Str) (List Str))
 | 0, _ => none
 | k + 1, s7 => (cond (decide (s5 < s7.2)) ((idx s7.1 (IntKind.wrap .i64 (s7.2 - 1))).bind fun x4 => ((idx s7.1 s7.2).bind fun x5 => qz n s5 k ((upd s7.1 s7.2 x4), (IntKind.wrap .i64 (s7.2 - 1))))) (some (.nx s7.1)))
def zH (n : Nat) (p0 : List Str) : Nat → ((List Str) × Int) → Option (LR (List Str) (List Str))
 | 0, _ => none
 | k + 1, s1 => (cond (decide (s1.2 < (p0.length : Int))) ((((qG n p0 s1 n 0).bind (LR.el (fun s5 => (((cond (decide (s5 < (s1.1.length : Int))) ((idx s1.1 s5).bind fun x6 => ((idx p0 s1.2).bind fun x7 => some (x6 == x7))) (some false)) : Option Bool).bind fun s6 => (cond s6 (some s1.1) ((app 16 s1.1 ([([] : Str)])).bind fun x1 => ((qz n s5 n (x1, (IntKind.wrap .i64 ((x1.length : Int) - 1)))).bind (LR.el (fun s8 => ((idx p0 s1.2).bind fun x2 => ((idx s8 s5).bind fun x3 => some (upd s8 s5 x2)))) (fun r => none))))))) (fun r => none))) : Option (List Str)).bind fun s3 => zH n p0 k (s3, (s1.2 + 1))) (some (.nx s1.1)))
def CU (n : Nat) (p0 : List Str) : Option (List Str) := ((zH n p0 n (([] : List Str), 0)).bind (LR.el (fun s2 => some s2) (fun r => some r)))
def uN (n : Nat) (p0 : List Str) (p1 : Str) : Option (List Str) := ((app 16 ([] : List Str) p0).bind fun x1 => ((app 16 x1 ([p1])).bind fun x2 => some x2))
def D5 (n : Nat) (rec_R1_free : Tm → (List Str) → Option (List Str)) (p0 : Tm) (p1 : List Str) : Nat → ((List Str) × Int) → Option (LR (List Str) (List Str))
 | 0, _ => none
 | k + 1, s1 => (cond (decide (s1.2 < (p0.kids.length : Int))) ((((((jh n p0.op).bind fun x6 => (cond x6 (some (s1.2 == 1)) (some false))) : Option Bool).bind fun s4 => (cond s4 ((uN n p1 p0.name).bind fun x5 => some x5) (some p1))) : Option (List Str)).bind fun s3 => ((idx p0.kids s1.2).bind fun x2 => ((rec_R1_free x2 s3).bind fun x3 => ((app 16 s1.1 x3).bind fun x4 => D5 n rec_R1_free p0 p1 k (x4, (s1.2 + 1)))))) (some (.nx s1.1)))
def zN (n : Nat) (rec_R1_free : Tm → (List Str) → Option (List Str)) (p0 : Tm) (p1 : List Str) : Option (List Str) := (cond (p0.op == 20) ((mq n p0.name p1).bind fun x1 => (cond x1 (some ([] : List Str)) (some ([p0.name])))) ((D5 n rec_R1_free p0 p1 n (([] : List Str), 0)).bind (LR.el (fun s2 => some s2) (fun r => some r))))
def p8 : Nat → Tm → (List Str) → Option (List Str)
 | 0, _, _ => none
 | n + 1, p0, p1 => zN n (fun p0 p1 => p8 n p0 p1) p0 p1
def CX (n : Nat) (p0 : Tm) : Option (List Str) := ((jS n p0).bind fun x1 => (cond (!x1) (some ([] : List Str)) ((p8 n p0 ([] : List Str)).bind fun x2 => ((CU n x2).bind fun x3 => some x3))))
structure S_api_Binding where
  name : Str
  term : Tm
def uR (n : Nat) (p0 : List S_api_Binding) (p1 : Str) : Nat → Int → Option (LR Unit (Tm × Bool))
 | 0, _ => none
 | k + 1, s1 => (cond (decide (s1 < (p0.length : Int))) ((idx p0 s1).bind fun x1 => (cond (x1.name == p1) ((idx p0 s1).bind fun x2 => some (.rt (x2.term, true))) (uR n p0 p1 k (s1 + 1)))) (some (.nx ())))
def oJ (n : Nat) (p0 : List S_api_Binding) (p1 : Str) : Option (Tm × Bool) := ((uR n p0 p1 n 0).bind (LR.el (fun s2 => some ((Tm.mk 0 ([] : Str) 0 (Ty.mk 0 ([] : Str) ([])) ([])), false)) (fun r => some r)))
def vg (n : Nat) (p0 : List S_api_Binding) (p1 : Str) (x1 : List Str) : Nat → ((List S_api_Binding) × Int) → Option (LR (List S_api_Binding) (List S_api_Binding))
 | 0, _ => none
 | k + 1, s1 => (cond (decide (s1.2 < (p0.length : Int))) ((((idx p0 s1.2).bind fun x2 => ((oJ n s1.1 x2.name).bind fun x3 => (((cond x3.2 (some true) ((idx p0 s1.2).bind fun x6 => (cond (x6.name == p1) (some true) ((idx p0 s1.2).bind fun x7 => ((mq n x7.name x1).bind fun x8 => some (!x8)))))) : Option Bool).bind fun s4 => (cond s4 (some s1.1) ((idx p0 s1.2).bind fun x4 => ((app 120 s1.1 ([x4])).bind fun x5 => some x5)))))) : Option (List S_api_Binding)).bind fun s3 => vg n p0 p1 x1 k (s3, (s1.2 + 1))) (some (.nx s1.1)))
def zw (n : Nat) (p0 : List S_api_Binding) (p1 : Str) (p2 : Tm) : Option (List S_api_Binding) := ((p8 n p2 ([] : List Str)).bind fun x1 => ((vg n p0 p1 x1 n (([] : List S_api_Binding), 0)).bind (LR.el (fun s2 => some s2) (fun r => some r))))
def vB (n : Nat) (rec_R1_Decimal : Int → Option Str) (p0 : Int) : Option Str := (cond (p0 == (-9223372036854775808)) (some ([45, 57, 50, 50, 51, 51, 55, 50, 48, 51, 54, 56, 53, 52, 55, 55, 53, 56, 48, 56] : Str)) (cond (decide (p0 < 0)) ((rec_R1_Decimal (IntKind.wrap .i64 (0 - p0))).bind fun x1 => ((OY ([45] : Str) x1).bind fun x2 => some x2)) (cond (decide (p0 < 10)) (some (List.map toByte ([(IntKind.wrap .u8 (IntKind.wrap .i64 (48 + p0)))]))) ((rec_R1_Decimal (IntKind.wrap .i64 (Int.tdiv p0 10))).bind fun x3 => ((OY x3 (List.map toByte ([(IntKind.wrap .u8 (IntKind.wrap .i64 (48 + (Int.tmod p0 10))))]))).bind fun x4 => some x4)))))
def ql : Nat → Int → Option Str
 | 0, _ => none
 | n + 1, p0 => vB n (fun p0 => ql n p0) p0
def y9 (n : Nat) : Nat → Str → Option (LR Str Str)
 | 0, _ => none
 | k + 1, s3 => ((xG s3 ((s3.length : Int) - 1)).bind fun x7 => ((EF n x7).bind fun x8 => (cond x8 ((mZ s3 0 ((s3.length : Int) - 1)).bind fun x9 => y9 n k x9) (some (.nx s3)))))
def sV (n : Nat) (p1 : List Str) (s4 : Str) : Nat → Int → Option (LR Unit Str)
 | 0, _ => none
 | k + 1, s5 => ((ql n s5).bind fun x2 => (((cond (decide (16 < (IntKind.wrap .i64 ((s4.length : Int) + (x2.length : Int))))) ((mZ s4 0 (IntKind.wrap .i64 (16 - (x2.length : Int)))).bind fun x6 => some x6) (some s4)) : Option Str).bind fun s6 => ((OY s6 x2).bind fun x3 => ((mq n x3 p1).bind fun x4 => (cond (!x4) ((OY s6 x2).bind fun x5 => some (.rt x5)) (sV n p1 s4 k (IntKind.wrap .i64 (s5 + 1))))))))
def xR (n : Nat) (p0 : Str) (p1 : List Str) : Option Str := ((((xM n p0).bind fun x12 => (cond (!x12) (some ([120] : Str)) (some p0))) : Option Str).bind fun s1 => ((mq n s1 p1).bind fun x1 => (cond (!x1) (some s1) ((((xu n s1).bind fun x10 => (cond x10 ((mZ s1 0 ((s1.length : Int) - 1)).bind fun x11 => some x11) (some s1))) : Option Str).bind fun s2 => ((y9 n n s2).bind (LR.el (fun s4 => ((sV n p1 s4 n 1).bind (LR.el (fun _ => none) (fun r => some r)))) (fun r => some r)))))))
def yV (n : Nat) (rec_R1_subst : Tm → (List S_api_Binding) → Option Tm) (x12 : List S_api_Binding) : Nat → ((List Str) × Int) → Option (LR (List Str) Tm)
 | 0, _ => none
 | k + 1, s3 => (cond (decide (s3.2 < (x12.length : Int))) ((idx x12 s3.2).bind fun x19 => ((p8 n x19.term ([] : List Str)).bind fun x20 => ((app 16 s3.1 x20).bind fun x21 => yV n rec_R1_subst x12 k (x21, (s3.2 + 1))))) (some (.nx s3.1)))
def BI (n : Nat) (rec_R1_subst : Tm → (List S_api_Binding) → Option Tm) (p0 : Tm) (p1 : List S_api_Binding) : Nat → (Int × (List Tm)) → Option (LR (List Tm) Tm)
 | 0, _ => none
 | k + 1, s1 => (cond (decide (s1.1 < (p0.kids.length : Int))) ((idx p0.kids s1.1).bind fun x6 => ((rec_R1_subst x6 p1).bind fun x7 => ((app 104 s1.2 ([x7])).bind fun x8 => BI n rec_R1_subst p0 p1 k ((s1.1 + 1), x8)))) (some (.nx s1.2)))
def pq (n : Nat) (rec_R1_subst : Tm → (List S_api_Binding) → Option Tm) (p0 : Tm) (p1 : List S_api_Binding) : Option Tm := (cond (p0.op == 20) ((oJ n p1 p0.name).bind fun x1 => (cond x1.2 ((nH n x1.1).bind fun x2 => some x2) ((nH n p0).bind fun x3 => some x3))) ((iA n p0.ty).bind fun x4 => ((jh n p0.op).bind fun x5 => (cond (!x5) ((BI n rec_R1_subst p0 p1 n (0, ([] : List Tm))).bind (LR.el (fun s2 => some (Tm.mk p0.op p0.name p0.n x4 s2)) (fun r => some r))) ((idx p0.kids 0).bind fun x9 => ((rec_R1_subst x9 p1).bind fun x10 => ((idx p0.kids 1).bind fun x11 => ((zw n p1 p0.name x11).bind fun x12 => ((yV n rec_R1_subst x12 n (([] : List Str), 0)).bind (LR.el (fun s4 => ((((mq n p0.name s4).bind fun x14 => (cond x14 ((p8 n x11 ([] : List Str)).bind fun x15 => ((app 16 x15 s4).bind fun x16 => ((xR n p0.name x16).bind fun x17 => ((app 120 x12 ([(S_api_Binding.mk p0.name (Tm.mk 20 x17 0 (Ty.mk 0 ([] : Str) ([])) ([])))])).bind fun x18 => some (x18, x17))))) (some (x12, p0.name)))) : Option ((List S_api_Binding) × Str)).bind fun s5 => ((rec_R1_subst x11 s5.1).bind fun x13 => some (Tm.mk p0.op s5.2 p0.n x4 ([x10, x13]))))) (fun r => some r)))))))))))
def mg : Nat → Tm → (List S_api_Binding) → Option Tm
 | 0, _, _ => none
 | n + 1, p0, p1 => pq n (fun p0 p1 => mg n p0 p1) p0 p1
structure S_refinementlaw02_Put where
  path : List Int
  term : Tm
def zo (n : Nat) (p0 : List Str) (p1 : Str) : Nat → ((List Str) × Int) → Option (LR (List Str) (List Str))
 | 0, _ => none
 | k + 1, s1 => (cond (decide (s1.2 < (p0.length : Int))) ((((idx p0 s1.2).bind fun x1 => (cond (!(x1 == p1)) ((idx p0 s1.2).bind fun x2 => ((app 16 s1.1 ([x2])).bind fun x3 => some x3)) (some s1.1))) : Option (List Str)).bind fun s3 => zo n p0 p1 k (s3, (s1.2 + 1))) (some (.nx s1.1)))
def C9 (n : Nat) (p0 : List Str) (p1 : Str) : Option (List Str) := ((zo n p0 p1 n (([] : List Str), 0)).bind (LR.el (fun s2 => some s2) (fun r => some r)))
def xO (n : Nat) (rec_R1_vary : Tm → (List Int) → Int → Option (Tm × Int)) (p1 : List Int) (s1 : Int × (List Tm) × Str) : Nat → (Int × Int × (List Tm)) → Option (LR (Int × (List Tm)) (Tm × Int))
 | 0, _ => none
 | k + 1, s2 => (cond (decide (s2.2.1 < (s1.2.1.length : Int))) ((idx s1.2.1 s2.2.1).bind fun x3 => ((rec_R1_vary x3 p1 s2.1).bind fun x4 => ((app 104 s2.2.2 ([x4.1])).bind fun x5 => xO n rec_R1_vary p1 s1 k (x4.2, (s2.2.1 + 1), x5)))) (some (.nx (s2.1, s2.2.2))))
def w9 (n : Nat) (rec_R1_vary : Tm → (List Int) → Int → Option (Tm × Int)) (p0 : Tm) (p1 : List Int) (p2 : Int) : Option (Tm × Int) := ((iA n p0.ty).bind fun x1 => ((app 104 ([] : List Tm) p0.kids).bind fun x2 => ((((jh n p0.op).bind fun x6 => (cond x6 (((cond (decide (0 < (p1.length : Int))) ((J2 p2 (p1.length : Int)).bind fun x15 => ((idx p1 x15).bind fun x16 => ((J2 (IntKind.wrap .u64 x16) (IntKind.wrap .u64 (([p0.name, ([120] : Str), ([121] : Str), ([122] : Str), ([110] : Str), ([120, 49] : Str), ([97] : Str), ([102] : Str)]).length : Int))).bind fun x17 => some (IntKind.wrap .i64 x17)))) (some 0)) : Option Int).bind fun s4 => ((idx ([p0.name, ([120] : Str), ([121] : Str), ([122] : Str), ([110] : Str), ([120, 49] : Str), ([97] : Str), ([102] : Str)]) s4).bind fun x7 => ((idx x2 1).bind fun x8 => ((CX n x8).bind fun x9 => ((C9 n x9 p0.name).bind fun x10 => ((xR n x7 x10).bind fun x11 => ((idx x2 1).bind fun x12 => ((mg n x12 ([(S_api_Binding.mk p0.name (Tm.mk 20 x11 0 (Ty.mk 0 ([] : Str) ([])) ([])))])).bind fun x13 => ((idx x2 1).bind fun x14 => some ((IntKind.wrap .i64 (p2 + 1)), (upd x2 1 x13), x11)))))))))) (some (p2, x2, p0.name)))) : Option (Int × (List Tm) × Str)).bind fun s1 => ((xO n rec_R1_vary p1 s1 n (s1.1, 0, ([] : List Tm))).bind (LR.el (fun s3 => some ((Tm.mk p0.op s1.2.2 p0.n x1 s3.2), s3.1)) (fun r => some r))))))
def o8 : Nat → Tm → (List Int) → Int → Option (Tm × Int)
 | 0, _, _, _ => none
 | n + 1, p0, p1, p2 => w9 n (fun p0 p1 p2 => o8 n p0 p1 p2) p0 p1 p2
def RH (n : Nat) (p0 : Tm) (p1 : List Int) : Option Tm := ((o8 n p0 p1 0).bind fun x1 => some x1.1)
def Ae (n : Nat) (p0 : Str) (p1 : List Str) : Nat → Int → Option (LR Unit Int)
 | 0, _ => none
 | k + 1, s1 => (cond (decide (0 ≤ s1)) ((idx p1 s1).bind fun x1 => (cond (x1 == p0) (some (.rt s1)) (Ae n p0 p1 k (s1 - 1)))) (some (.nx ())))
def CV (n : Nat) (p0 : Str) (p1 : List Str) : Option Int := ((Ae n p0 p1 n ((p1.length : Int) - 1)).bind (LR.el (fun s2 => some (-1)) (fun r => some r)))
def qh (n : Nat) (rec_R1_alike : Tm → Tm → (List Str) → (List Str) → Option Bool) (p0 : Tm) (p1 : Tm) (p2 : List Str) (p3 : List Str) : Nat → Int → Option (LR Unit Bool)
 | 0, _ => none
 | k + 1, s3 => (cond (decide (s3 < (p0.kids.length : Int))) ((((((jh n p0.op).bind fun x8 => (cond x8 (some (s3 == 1)) (some false))) : Option Bool).bind fun s6 => (cond s6 ((uN n p2 p0.name).bind fun x6 => ((uN n p3 p1.name).bind fun x7 => some (x6, x7))) (some (p2, p3)))) : Option ((List Str) × (List Str))).bind fun s5 => ((idx p0.kids s3).bind fun x3 => ((idx p1.kids s3).bind fun x4 => ((rec_R1_alike x3 x4 s5.1 s5.2).bind fun x5 => (cond (!x5) (some (.rt false)) (qh n rec_R1_alike p0 p1 p2 p3 k (s3 + 1))))))) (some (.nx ())))
def yu (n : Nat) (rec_R1_alike : Tm → Tm → (List Str) → (List Str) → Option Bool) (p0 : Tm) (p1 : Tm) (p2 : List Str) (p3 : List Str) : Option Bool := (((cond (p0.op != p1.op) (some true) (cond (p0.n != p1.n) (some true) ((bL n p0.ty p1.ty).bind fun x9 => (cond (!x9) (some true) (some ((p0.kids.length : Int) != (p1.kids.length : Int))))))) : Option Bool).bind fun s1 => (cond s1 (some false) (cond (p0.op == 20) ((CV n p0.name p2).bind fun x1 => ((CV n p1.name p3).bind fun x2 => (((cond (x1 == x2) (cond (decide (0 ≤ x1)) (some true) (some (p0.name == p1.name))) (some false)) : Option Bool).bind fun s2 => some s2))) ((qh n rec_R1_alike p0 p1 p2 p3 n 0).bind (LR.el (fun s4 => some true) (fun r => some r))))))
def l9 : Nat → Tm → Tm → (List Str) → (List Str) → Option Bool
 | 0, _, _, _, _ => none
 | n + 1, p0, p1, p2, p3 => yu n (fun p0 p1 p2 p3 => l9 n p0 p1 p2 p3) p0 p1 p2 p3
def MK (n : Nat) (p0 : Tm) (p1 : Tm) : Option Bool := ((((jS n p0).bind fun x1 => (cond x1 ((jS n p1).bind fun x2 => (cond x2 ((l9 n p0 p1 ([] : List Str) ([] : List Str)).bind fun x3 => some x3) (some false))) (some false))) : Option Bool).bind fun s1 => some s1)
def Aj (n : Nat) (p0 : Env) (p1 : Tm) (p2 : List Int) : Option Bool := ((((jW n p0).bind fun x11 => (cond (!x11) (some true) ((jS n p1).bind fun x12 => some (!x12)))) : Option Bool).bind fun s1 => (cond s1 ((dh n).bind fun x1 => some x1) ((RH n p1 p2).bind fun x2 => ((eH n p0 p1).bind fun x3 => ((eH n p0 x2).bind fun x4 => (((cond (x3.2.2 != x4.2.2) (some true) (cond ((x3.2.1.length : Int) != (x4.2.1.length : Int)) (some true) ((bL n x3.1 x4.1).bind fun x10 => some (!x10)))) : Option Bool).bind fun s2 => (cond s2 (some false) ((jw n p0 p1).bind fun x5 => ((jw n p0 x2).bind fun x6 => (((cond (x5.2 == x6.2) (cond (x5.2 != 0) ((dh n).bind fun x7 => some x7) ((MK n x5.1 x6.1).bind fun x8 => (cond x8 ((dh n).bind fun x9 => some x9) (some false)))) (some false)) : Option Bool).bind fun s3 => some s3))))))))))
end Abs
end Go.Proofs.YtiiaccpcoclklaaGreat
namespace Go.Proofs.YtiiaccpcoclklaaGreat
namespace Abs
open Go Go.Proofs
theorem aqp : aF Tryz.prog 22 = true := by kernel_rfl
theorem aq8 : aF Tryz.prog 24 = true := by kernel_rfl
theorem alV : aF Tryz.prog 74 = true := by kernel_rfl
theorem alF : aF Tryz.prog 77 = true := by kernel_rfl
theorem apT : aF Tryz.prog 143 = true := by kernel_rfl
theorem ahT : aF Tryz.prog 151 = true := by kernel_rfl
theorem ad6 : aF Tryz.prog 49 = true := by kernel_rfl
theorem ahe : aF Tryz.prog 106 = true := by kernel_rfl
theorem KU : aF Tryz.prog 109 = true := by kernel_rfl
theorem RD : aF Tryz.prog 152 = true := by kernel_rfl
end Abs
end Go.Proofs.YtiiaccpcoclklaaGreat
namespace Go.Proofs.YtiiaccpcoclklaaGreat
namespace Abs
open Go Go.Proofs
set_option maxRecDepth 100000
set_option maxHeartbeats 40000000
theorem Pd (n : Nat) (p0 : List Str) (r : List Str) (h : CU n p0 = some r) : ak Tryz.prog 106 [bQ p0] [] (bQ r) [] := by
 unfold CU at h
 refine ah true Tryz.func106 rfl (nt Tryz.ntmps106 rfl) fun Q hQ t ht => ?_
 conv at ht => whnf
 subst ht
 refine .q fun K1 k1 => rg 0 ?_
 refine k1 _ _ ?_
 refine .q fun K2 k2 => rg 0 ?_
 refine k2 _ _ ?_
 refine .q fun K3 k3 => .q fun K4 k4 => rg 0 ?_
 refine k4 _ _ ?_
 refine .block ?_
 obtain ⟨o1, ho1, h⟩ := ob h
 have hR1 : ∀ s2 : List Str, o1 = .nx s2 → ∀ t9 h9, Le 0 t9 h9 (u2 (.unk :: (.psl 0 1 (List.length s2) :: (u64 (u4 []))))) [.arr 1 (List.map encS s2)] → K3 t9 h9 := by
  intro s2 ho
  subst ho
  dsimp only [LR.el] at h
  intro t9 h9 hw
  refine k3 _ _ (AW.le hw ?_)
  refine .q fun K5 k5 => rg 0 ?_
  refine k5 _ _ ?_
  refine .le (t' := (u2 (bQ s2 :: (bQ s2 :: (u64 (u2 (.unk :: (bQ s2 :: [])))))))) (h' := []) (wk [] (.u2 (.cons (.Dz aZ (aT _) rfl rfl) (.cons (.Dz aZ (aT _) rfl rfl) (.u64 (.u2 (.u (.cons (.Dz aZ (aT _) rfl rfl) .nil))))))) .nil rfl) ?_
  refine .ret ?_
  have e9 := sj h
  subst e9
  refine hQ _ _ _ (aj aD (fun g => by simp) ?_)
  conv => whnf
  try rfl
 refine .loopS (zH n p0) (fun (s1 : (List Str) × Int) => (bQ p0 :: (u2 (.psl 0 1 (List.length s1.1) :: (.i s1.2 :: (u64 (u2 (.unk :: [])))))))) (fun (s1 : (List Str) × Int) => [.arr 1 (List.map encS s1.1)]) ho1 (fun _ => rfl) (wk [none] (.e aZ (.u2 (.cons (.nilP _ _) (.c rfl (.u64 (.u2 (.u .nil))))))) (.w rfl .nil) rfl) ?_
 intro n1 s1 hs1 KL1 hKL1
 unfold zH at hs1
 refine .q fun K6 k6 => .q fun K7 k7 => rg 0 ?_
 refine aW (l := p0) (f := encS) ?_
 refine k7 _ _ ?_
 refine .aC rfl hs1 (fun hc1 hs1 => ?_) (fun hc1 hs1 => ?_)
 ·refine .skip ?_
  refine k6 _ _ ?_
  refine .q fun K8 k8 => ?_
  obtain ⟨s3, hj1, hs1⟩ := ob hs1
  have hR2 : ∀ t9 h9, Le 0 t9 h9 (bQ p0 :: (u2 (.psl 0 1 (List.length s3) :: (.i s1.2 :: (u64 (u2 (.unk :: []))))))) [.arr 1 (List.map encS s3)] → K8 t9 h9 := by
   intro t9 h9 hw
   refine k8 _ _ (AW.le hw ?_)
   clear hw
   refine .know 4 0 fun hv1 => ?_
   refine .know 0 0 fun hv2 => ?_
   refine rg 0 ?_
   refine ⟨(s1.2 + 1), by have := dn hv1; have := eP hv2; have h8 := of_decide_eq_true hc1; exact bG (by omega) (by omega), ?_⟩
   exact hKL1 _ _ _ hs1 (wk [some 0] (.e aZ (.u2 (.c rfl (.c rfl (.u64 (.u2 (.u .nil))))))) (.old (.arr' aZ (aT _)) .nil) rfl)
  refine .block ?_
  refine .q fun K9 k9 => rg 0 ?_
  refine k9 _ _ ?_
  refine .q fun K10 k10 => ?_
  refine .block ?_
  obtain ⟨o2, ho2, hj1⟩ := ob hj1
  have hR3 : ∀ s5 : Int, o2 = .nx s5 → ∀ t9 h9, Le 0 t9 h9 (bQ p0 :: (u2 (.psl 0 1 (List.length s1.1) :: (.i s1.2 :: (.i s5 :: (u64 (u2 []))))))) [.arr 1 (List.map encS s1.1)] → K10 t9 h9 := by
   intro s5 ho
   subst ho
   dsimp only [LR.el] at hj1
   intro t9 h9 hw
   refine k10 _ _ (AW.le hw ?_)
   refine .q fun K11 k11 => .q fun K12 k12 => ?_
   obtain ⟨s6, hj2, hj1⟩ := ob hj1
   have hR4 : ∀ t9 h9, Le 0 t9 h9 (bQ p0 :: (u2 (.psl 0 1 (List.length s1.1) :: (.i s1.2 :: (.i s5 :: (u32 (u4 (u2 (.bool s6 :: (u16 (u8 (u2 (.unk :: []))))))))))))) [.arr 1 (List.map encS s1.1)] → K12 t9 h9 := by
    intro t9 h9 hw
    refine k12 _ _ (AW.le hw ?_)
    clear hw
    refine .aC rfl hj1 (fun hc2 hj1 => ?_) (fun hc2 hj1 => ?_)
    ·refine .exit ?_
     cases hj1
     exact hR2 _ _ (wk [some 0] (.e aZ (.u2 (.c rfl (.c rfl (.u64 (.u2 (.u .nil))))))) (.old (.arr' aZ (aT _)) .nil) rfl)
    refine .skip ?_
    refine k11 _ _ ?_
    refine .q fun K13 k13 => rg 2 ?_
    refine ⟨List.map encS ([([] : Str)]), rfl, ?_⟩
    obtain ⟨x1, hx1, hj1⟩ := ob hj1
    refine RN (l := s1.1) (l' := s1.1) (ys := ([([] : Str)])) (f := encS) hx1 (aT _) wU ?_
    refine k13 _ _ ?_
    refine .q fun K14 k14 => .q fun K15 k15 => rg 0 ?_
    refine ⟨(IntKind.wrap .i64 ((x1.length : Int) - 1)), rfl, ?_⟩
    refine k15 _ _ ?_
    refine .block ?_
    obtain ⟨o3, ho3, hj1⟩ := ob hj1
    have hR5 : ∀ s8 : List Str, o3 = .nx s8 → ∀ t9 h9, Le 0 t9 h9 (bQ p0 :: (u2 (.psl 0 1 (List.length s8) :: (.i s1.2 :: (.i s5 :: (u64 (u2 []))))))) [.arr 1 (List.map encS s8)] → K14 t9 h9 := by
     intro s8 ho
     subst ho
     dsimp only [LR.el] at hj1
     intro t9 h9 hw
     refine k14 _ _ (AW.le hw ?_)
     refine rg 0 ?_
     obtain ⟨x2, hx2, hj1⟩ := ob hj1
     refine aJ (l := p0) (f := encS) (cs := [.str (x2)]) hx2 (rfl) rfl ?_
     obtain ⟨x3, hx3, hj1⟩ := ob hj1
     refine Uk (l := s8) (l0 := s8) hx3 (by simp [upd]) ?_
     refine stp (l := s8) (f := encS) (v := x2) hx3 (rfl) (by decide) ?_
     cases hj1
     exact hR2 _ _ (wk [some 0] (.e aZ (.u2 (.cons (.same (am0 (by simp [upd]) rfl)) (.c rfl (.u64 (.u2 (.u .nil))))))) (.old (.arr' aZ (aT _)) .nil) rfl)
    refine .loopS (qz n s5) (fun (s7 : (List Str) × Int) => (bQ p0 :: (u2 (.psl 0 1 (List.length s7.1) :: (.i s1.2 :: (.i s5 :: (.i s7.2 :: (u64 (.unk :: []))))))))) (fun (s7 : (List Str) × Int) => [.arr 1 (List.map encS s7.1)]) ho3 (fun _ => rfl) (wk [some 2] (.e aZ (.u2 (.c rfl (.c rfl (.c rfl (.c rfl (.u64 (.u .nil)))))))) (.old (.arr' aZ (aT _)) .nil) rfl) ?_
    intro n3 s7 hs3 KL3 hKL3
    unfold qz at hs3
    refine .q fun K16 k16 => .q fun K17 k17 => rg 0 ?_
    refine k17 _ _ ?_
    refine .aC rfl hs3 (fun hc3 hs3 => ?_) (fun hc3 hs3 => ?_)
    ·refine .skip ?_
     refine k16 _ _ ?_
     refine .q fun K18 k18 => ?_
     refine .block ?_
     refine .know 6 0 fun hv3 => ?_
     refine rg 0 ?_
     refine ⟨(IntKind.wrap .i64 (s7.2 - 1)), rfl, ?_⟩
     obtain ⟨x4, hx4, hs3⟩ := ob hs3
     refine Uk (l := s7.1) (l0 := s7.1) hx4 (by simp [upd]) ?_
     refine ldp (l := s7.1) (f := encS) (cs := [.str x4]) hx4 (rfl) (by decide) ?_
     obtain ⟨x5, hx5, hs3⟩ := ob hs3
     refine Uk (l := s7.1) (l0 := s7.1) hx5 (by simp [upd]) ?_
     refine stp (l := s7.1) (f := encS) (v := x4) hx5 (rfl) (by decide) ?_
     refine k18 _ _ ?_
     refine .know 6 0 fun hv4 => ?_
     refine rg 0 ?_
     refine ⟨(IntKind.wrap .i64 (s7.2 - 1)), rfl, ?_⟩
     exact hKL3 _ _ _ hs3 (wk [some 0] (.e aZ (.u2 (.cons (.same (am0 (by simp [upd]) rfl)) (.c rfl (.c rfl (.c rfl (.u64 (.u .nil)))))))) (.old (.arr' aZ (aT _)) .nil) rfl)
    refine .exit ?_
    exact hR5 _ (sj hs3).symm _ _ (wk [some 0] (.e aZ (.u2 (.c rfl (.c rfl (.c rfl (.u64 (.u2 .nil))))))) (.old (.arr' aZ (aT _)) .nil) rfl)
   refine rg 0 ?_
   refine aH hj2 (fun hc4 hj2 => ?_) (fun hc4 hj2 => ?_)
   ·obtain ⟨x6, hx6, hj2⟩ := ob hj2
    refine Uk (l := s1.1) (l0 := s1.1) hx6 (by simp [upd]) ?_
    refine ldp (l := s1.1) (f := encS) (cs := [.str x6]) hx6 (rfl) (by decide) ?_
    obtain ⟨x7, hx7, hj2⟩ := ob hj2
    refine aJ (l := p0) (f := encS) (cs := [.str (x7)]) hx7 (rfl) rfl ?_
    refine ⟨rfl, ?_⟩
    cases hj2
    exact hR4 _ _ (li (.s (.u2 (.s (.s (.s (.u16 (.u16 (.u4 (.u2 (.s (.u16 (.u8 (.u2 (.u .n)))))))))))))))
   refine ⟨rfl, ?_⟩
   cases hj2
   exact hR4 _ _ (li (.s (.u2 (.s (.s (.s (.u16 (.u16 (.u4 (.u2 (.s (.u16 (.u8 (.u2 (.u .n)))))))))))))))
  refine .loopS (qG n p0 s1) (fun (s4 : Int) => (bQ p0 :: (u2 (.psl 0 1 (List.length s1.1) :: (.i s1.2 :: (.i s4 :: (u64 (u2 [])))))))) (fun (s4 : Int) => [.arr 1 (List.map encS s1.1)]) ho2 (fun _ => rfl) (li (.s (.u2 (.s (.s (.s (.u16 (.u16 (.u16 (.u16 (.u2 .n))))))))))) ?_
  intro n2 s4 hs2 KL2 hKL2
  unfold qG at hs2
  refine .q fun K19 k19 => .q fun K20 k20 => ?_
  obtain ⟨s9, hj3, hs2⟩ := ob hs2
  have hR6 : ∀ t9 h9, Le 0 t9 h9 (bQ p0 :: (u2 (.psl 0 1 (List.length s1.1) :: (.i s1.2 :: (.i s4 :: (u16 (u4 (.unk :: (.bool s9 :: (u32 (u8 (u4 [])))))))))))) [.arr 1 (List.map encS s1.1)] → K20 t9 h9 := by
   intro t9 h9 hw
   refine k20 _ _ (AW.le hw ?_)
   clear hw
   refine .aC rfl hs2 (fun hc5 hs2 => ?_) (fun hc5 hs2 => ?_)
   ·refine .skip ?_
    refine k19 _ _ ?_
    refine .block ?_
    refine rg 0 ?_
    refine ⟨(IntKind.wrap .i64 (s4 + 1)), rfl, ?_⟩
    exact hKL2 _ _ _ hs2 (li (.s (.u2 (.s (.s (.s (.u16 (.u16 (.u16 (.u16 (.u2 .n)))))))))))
   refine .exit ?_
   exact hR3 _ (sj hs2).symm _ _ (li (.s (.u2 (.s (.s (.s (.u16 (.u16 (.u16 (.u16 (.u2 .n)))))))))))
  refine rg 0 ?_
  refine aH hj3 (fun hc6 hj3 => ?_) (fun hc6 hj3 => ?_)
  ·obtain ⟨x8, hx8, hj3⟩ := ob hj3
   refine Uk (l := s1.1) (l0 := s1.1) hx8 (by simp [upd]) ?_
   refine ldp (l := s1.1) (f := encS) (cs := [.str x8]) hx8 (rfl) (by decide) ?_
   obtain ⟨x9, hx9, hj3⟩ := ob hj3
   refine aJ (l := p0) (f := encS) (cs := [.str (x9)]) hx9 (rfl) rfl ?_
   refine ⟨rfl, ?_⟩
   cases hj3
   exact hR6 _ _ (li (.s (.u2 (.s (.s (.s (.u16 (.u4 (.u (.s (.u16 (.u16 (.u8 (.u4 .n))))))))))))))
  refine ⟨rfl, ?_⟩
  cases hj3
  exact hR6 _ _ (li (.s (.u2 (.s (.s (.s (.u16 (.u4 (.u (.s (.u16 (.u16 (.u8 (.u4 .n))))))))))))))
 refine .exit ?_
 exact hR1 _ (sj hs1).symm _ _ (wk [some 0] (.u2 (.u (.c rfl (.u64 (.u4 .nil))))) (.old (.arr' aZ (aT _)) .nil) rfl)
end Abs
end Go.Proofs.YtiiaccpcoclklaaGreat
