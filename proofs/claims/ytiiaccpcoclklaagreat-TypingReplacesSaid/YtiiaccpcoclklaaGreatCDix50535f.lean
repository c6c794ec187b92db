/-
  The plain functions of the program (printed by gen.py). Conditions: none.
-/
import Derived.Test.YtiiaccpcoclklaaGreatCDhxbbaa12
set_option linter.unusedSimpArgs false
set_option linter.unusedVariables false
namespace Go.Proofs.YtiiaccpcoclklaaGreat
namespace Abs
open Go Go.Proofs
set_option maxRecDepth 100000
set_option maxHeartbeats 40000000
structure S_api_Binding where
  name : Str
  term : Tm
def tO (n : Nat) (p0 : List S_api_Binding) (p1 : Str) : Nat → Int → Option (LR Unit (Tm × Bool))
 | 0, _ => none
 | k + 1, s1 => (cond (decide (s1 < (p0.length : Int))) ((idx p0 s1).bind fun (x1 : S_api_Binding) => (cond (x1.name == p1) ((idx p0 s1).bind fun (x2 : S_api_Binding) => some (.rt (x2.term, true))) (tO n p0 p1 k (s1 + 1)))) (some (.nx ())))
def nD (n : Nat) (p0 : List S_api_Binding) (p1 : Str) : Option (Tm × Bool) := ((tO n p0 p1 n 0).bind (LR.el (fun (s2 : Unit) => some ((Tm.mk 0 ([] : Str) 0 (Ty.mk 0 ([] : Str) ([])) ([])), false)) (fun r => some r)))
def yZ (n : Nat) (rec_R1_depth : Tm → Option Int) (p0 : Tm) : Nat → (Int × Int) → Option (LR Int Int)
 | 0, _ => none
 | k + 1, s1 => (cond (decide (s1.2 < (p0.kids.length : Int))) ((idx p0.kids s1.2).bind fun (x1 : Tm) => ((rec_R1_depth x1).bind fun (x2 : Int) => yZ n rec_R1_depth p0 k ((if x2 > s1.1 then x2 else s1.1), (s1.2 + 1)))) (some (.nx s1.1)))
def wm (n : Nat) (rec_R1_depth : Tm → Option Int) (p0 : Tm) : Option Int := ((yZ n rec_R1_depth p0 n (0, 0)).bind (LR.el (fun (s2 : Int) => some (IntKind.wrap .i64 (s2 + 1))) (fun r => some r)))
def uq : Nat → Tm → Option Int
 | 0, _ => none
 | n + 1, p0 => wm n (fun p0 => uq n p0) p0
def Ey (n : Nat) (p0 : Tm) : Option (Int × Int) := ((rz n p0 1 0).bind fun (x1 : Int) => (cond (decide (x1 < 0)) (some (0, 0)) ((uq n p0).bind fun (x2 : Int) => some (x1, x2))))
def yQ (n : Nat) (rec_R1_weigh : Tm → (List S_api_Binding) → (List Str) → Int → Int → Option Int) (p0 : Tm) (p1 : List S_api_Binding) (p2 : List Str) (p4 : Int) : Nat → (Int × Int) → Option (LR Int Int)
 | 0, _ => none
 | k + 1, s3 => (cond (decide (s3.2 < (p0.kids.length : Int))) ((((((kI n p0.op).bind fun (x4 : Bool) => (cond x4 (some (s3.2 == 1)) (some false))) : Option Bool).bind fun (s6 : Bool) => (cond s6 ((Ac n p2 p0.name).bind fun (x3 : List Str) => some x3) (some p2))) : Option (List Str)).bind fun (s5 : List Str) => ((idx p0.kids s3.2).bind fun (x1 : Tm) => ((rec_R1_weigh x1 p1 s5 s3.1 (IntKind.wrap .i64 (p4 + 1))).bind fun (x2 : Int) => (cond (decide (x2 < 0)) (some (.rt (-1))) (yQ n rec_R1_weigh p0 p1 p2 p4 k (x2, (s3.2 + 1))))))) (some (.nx s3.1)))
def vT (n : Nat) (rec_R1_weigh : Tm → (List S_api_Binding) → (List Str) → Int → Int → Option Int) (p0 : Tm) (p1 : List S_api_Binding) (p2 : List Str) (p3 : Int) (p4 : Int) : Option Int := (((((cond (p0.op == 20) ((nZ n p0.name p2).bind fun (x7 : Bool) => some (!x7)) (some false)) : Option Bool).bind fun (s7 : Bool) => (cond s7 ((nD n p1 p0.name).bind fun (x5 : Tm × Bool) => (cond x5.2 ((Ey n x5.1).bind fun (x6 : Int × Int) => (((cond (decide (2000 < (IntKind.wrap .i64 (p3 + x6.1)))) (some true) (some (decide (64 < (IntKind.wrap .i64 ((IntKind.wrap .i64 (p4 + x6.2)) - 1)))))) : Option Bool).bind fun (s8 : Bool) => (cond s8 (some (.rt (-1))) (some (.rt (IntKind.wrap .i64 (p3 + x6.1))))))) (some (.nx ())))) (some (.nx ())))) : Option (LR Unit Int)).bind (LR.el (fun (s1 : Unit) => (((cond (decide (2000 < (IntKind.wrap .i64 (p3 + 1)))) (some true) (some (decide (64 < p4)))) : Option Bool).bind fun (s2 : Bool) => (cond s2 (some (-1)) ((yQ n rec_R1_weigh p0 p1 p2 p4 n ((IntKind.wrap .i64 (p3 + 1)), 0)).bind (LR.el (fun (s4 : Int) => some s4) (fun r => some r)))))) (fun r => some r)))
def rO : Nat → Tm → (List S_api_Binding) → (List Str) → Int → Int → Option Int
 | 0, _, _, _, _, _ => none
 | n + 1, p0, p1, p2, p3, p4 => vT n (fun p0 p1 p2 p3 p4 => rO n p0 p1 p2 p3 p4) p0 p1 p2 p3 p4
def sM (n : Nat) (p0 : List S_api_Binding) (p1 : Str) (x1 : List Str) : Nat → ((List S_api_Binding) × Int) → Option (LR (List S_api_Binding) (List S_api_Binding))
 | 0, _ => none
 | k + 1, s1 => (cond (decide (s1.2 < (p0.length : Int))) ((((idx p0 s1.2).bind fun (x2 : S_api_Binding) => ((nD n s1.1 x2.name).bind fun (x3 : Tm × Bool) => (((cond x3.2 (some true) ((idx p0 s1.2).bind fun (x6 : S_api_Binding) => (cond (x6.name == p1) (some true) ((idx p0 s1.2).bind fun (x7 : S_api_Binding) => ((nZ n x7.name x1).bind fun (x8 : Bool) => some (!x8)))))) : Option Bool).bind fun (s4 : Bool) => (cond s4 (some s1.1) ((idx p0 s1.2).bind fun (x4 : S_api_Binding) => ((app 120 s1.1 ([x4])).bind fun (x5 : List S_api_Binding) => some x5)))))) : Option (List S_api_Binding)).bind fun (s3 : List S_api_Binding) => sM n p0 p1 x1 k (s3, (s1.2 + 1))) (some (.nx s1.1)))
def wX (n : Nat) (p0 : List S_api_Binding) (p1 : Str) (p2 : Tm) : Option (List S_api_Binding) := ((oG n p2 ([] : List Str)).bind fun (x1 : List Str) => ((sM n p0 p1 x1 n (([] : List S_api_Binding), 0)).bind (LR.el (fun (s2 : List S_api_Binding) => some s2) (fun r => some r))))
def sQ (n : Nat) (rec_R1_Decimal : Int → Option Str) (p0 : Int) : Option Str := (cond (p0 == (-9223372036854775808)) (some ([45, 57, 50, 50, 51, 51, 55, 50, 48, 51, 54, 56, 53, 52, 55, 55, 53, 56, 48, 56] : Str)) (cond (decide (p0 < 0)) ((rec_R1_Decimal (IntKind.wrap .i64 (0 - p0))).bind fun (x1 : Str) => ((scat ([45] : Str) x1).bind fun (x2 : Str) => some x2)) (cond (decide (p0 < 10)) (some (List.map toByte ([(IntKind.wrap .u8 (IntKind.wrap .i64 (48 + p0)))]))) ((rec_R1_Decimal (IntKind.wrap .i64 (Int.tdiv p0 10))).bind fun (x3 : Str) => ((scat x3 (List.map toByte ([(IntKind.wrap .u8 (IntKind.wrap .i64 (48 + (Int.tmod p0 10))))]))).bind fun (x4 : Str) => some x4)))))
def oJ : Nat → Int → Option Str
 | 0, _ => none
 | n + 1, p0 => sQ n (fun p0 => oJ n p0) p0
def wJ (n : Nat) : Nat → Str → Option (LR Str Str)
 | 0, _ => none
 | k + 1, s3 => ((vE s3 ((s3.length : Int) - 1)).bind fun (x7 : Int) => ((Ch n x7).bind fun (x8 : Bool) => (cond x8 ((ny s3 0 ((s3.length : Int) - 1)).bind fun (x9 : Str) => wJ n k x9) (some (.nx s3)))))
def qM (n : Nat) (p1 : List Str) (s4 : Str) : Nat → Int → Option (LR Unit Str)
 | 0, _ => none
 | k + 1, s5 => ((oJ n s5).bind fun (x2 : Str) => (((cond (decide (16 < (IntKind.wrap .i64 ((s4.length : Int) + (x2.length : Int))))) ((ny s4 0 (IntKind.wrap .i64 (16 - (x2.length : Int)))).bind fun (x6 : Str) => some x6) (some s4)) : Option Str).bind fun (s6 : Str) => ((scat s6 x2).bind fun (x3 : Str) => ((nZ n x3 p1).bind fun (x4 : Bool) => (cond (!x4) ((scat s6 x2).bind fun (x5 : Str) => some (.rt x5)) (qM n p1 s4 k (IntKind.wrap .i64 (s5 + 1))))))))
def zH (n : Nat) (p0 : Str) (p1 : List Str) : Option Str := ((((wW n p0).bind fun (x12 : Bool) => (cond (!x12) (some ([120] : Str)) (some p0))) : Option Str).bind fun (s1 : Str) => ((nZ n s1 p1).bind fun (x1 : Bool) => (cond (!x1) (some s1) ((((vB n s1).bind fun (x10 : Bool) => (cond x10 ((ny s1 0 ((s1.length : Int) - 1)).bind fun (x11 : Str) => some x11) (some s1))) : Option Str).bind fun (s2 : Str) => ((wJ n n s2).bind (LR.el (fun (s4 : Str) => ((qM n p1 s4 n 1).bind (LR.el (fun (_ : Unit) => none) (fun r => some r)))) (fun r => some r)))))))
def wL (n : Nat) (rec_R1_subst : Tm → (List S_api_Binding) → Option Tm) (x12 : List S_api_Binding) : Nat → ((List Str) × Int) → Option (LR (List Str) Tm)
 | 0, _ => none
 | k + 1, s3 => (cond (decide (s3.2 < (x12.length : Int))) ((idx x12 s3.2).bind fun (x19 : S_api_Binding) => ((oG n x19.term ([] : List Str)).bind fun (x20 : List Str) => ((app 16 s3.1 x20).bind fun (x21 : List Str) => wL n rec_R1_subst x12 k (x21, (s3.2 + 1))))) (some (.nx s3.1)))
def yU (n : Nat) (rec_R1_subst : Tm → (List S_api_Binding) → Option Tm) (p0 : Tm) (p1 : List S_api_Binding) : Nat → (Int × (List Tm)) → Option (LR (List Tm) Tm)
 | 0, _ => none
 | k + 1, s1 => (cond (decide (s1.1 < (p0.kids.length : Int))) ((idx p0.kids s1.1).bind fun (x6 : Tm) => ((rec_R1_subst x6 p1).bind fun (x7 : Tm) => ((app 104 s1.2 ([x7])).bind fun (x8 : List Tm) => yU n rec_R1_subst p0 p1 k ((s1.1 + 1), x8)))) (some (.nx s1.2)))
def nS (n : Nat) (rec_R1_subst : Tm → (List S_api_Binding) → Option Tm) (p0 : Tm) (p1 : List S_api_Binding) : Option Tm := (cond (p0.op == 20) ((nD n p1 p0.name).bind fun (x1 : Tm × Bool) => (cond x1.2 ((mh n x1.1).bind fun (x2 : Tm) => some x2) ((mh n p0).bind fun (x3 : Tm) => some x3))) ((kN n p0.ty).bind fun (x4 : Ty) => ((kI n p0.op).bind fun (x5 : Bool) => (cond (!x5) ((yU n rec_R1_subst p0 p1 n (0, ([] : List Tm))).bind (LR.el (fun (s2 : List Tm) => some (Tm.mk p0.op p0.name p0.n x4 s2)) (fun r => some r))) ((idx p0.kids 0).bind fun (x9 : Tm) => ((rec_R1_subst x9 p1).bind fun (x10 : Tm) => ((idx p0.kids 1).bind fun (x11 : Tm) => ((wX n p1 p0.name x11).bind fun (x12 : List S_api_Binding) => ((wL n rec_R1_subst x12 n (([] : List Str), 0)).bind (LR.el (fun (s4 : List Str) => ((((nZ n p0.name s4).bind fun (x14 : Bool) => (cond x14 ((oG n x11 ([] : List Str)).bind fun (x15 : List Str) => ((app 16 x15 s4).bind fun (x16 : List Str) => ((zH n p0.name x16).bind fun (x17 : Str) => ((app 120 x12 ([(S_api_Binding.mk p0.name (Tm.mk 20 x17 0 (Ty.mk 0 ([] : Str) ([])) ([])))])).bind fun (x18 : List S_api_Binding) => some (x18, x17))))) (some (x12, p0.name)))) : Option ((List S_api_Binding) × Str)).bind fun (s5 : (List S_api_Binding) × Str) => ((rec_R1_subst x11 s5.1).bind fun (x13 : Tm) => some (Tm.mk p0.op s5.2 p0.n x4 ([x10, x13]))))) (fun r => some r)))))))))))
def nu : Nat → Tm → (List S_api_Binding) → Option Tm
 | 0, _, _ => none
 | n + 1, p0, p1 => nS n (fun p0 p1 => nu n p0 p1) p0 p1
def wM (n : Nat) (p1 : List S_api_Binding) : Nat → Int → Option (LR Unit (Tm × Int))
 | 0, _ => none
 | k + 1, s1 => (cond (decide (s1 < (p1.length : Int))) ((idx p1 s1).bind fun (x4 : S_api_Binding) => ((l6 n x4.term).bind fun (x5 : Bool) => (cond (!x5) (some (.rt ((Tm.mk 0 ([] : Str) 0 (Ty.mk 0 ([] : Str) ([])) ([])), 1))) (wM n p1 k (s1 + 1))))) (some (.nx ())))
def zG (n : Nat) (p0 : Tm) (p1 : List S_api_Binding) : Option (Tm × Int) := ((l6 n p0).bind fun (x1 : Bool) => (cond (!x1) (some ((Tm.mk 0 ([] : Str) 0 (Ty.mk 0 ([] : Str) ([])) ([])), 1)) ((wM n p1 n 0).bind (LR.el (fun (s2 : Unit) => ((rO n p0 p1 ([] : List Str) 0 1).bind fun (x2 : Int) => (cond (decide (x2 < 0)) (some ((Tm.mk 0 ([] : Str) 0 (Ty.mk 0 ([] : Str) ([])) ([])), 5)) ((nu n p0 p1).bind fun (x3 : Tm) => some (x3, 0))))) (fun r => some r)))))
def qj (n : Nat) (p0 : Env) (p1 : Tm) (p2 : Tm) (x3 : Ty × (List Int) × Int) (x4 : Ty × Int) : Nat → Int → Option (LR Unit Bool)
 | 0, _ => none
 | k + 1, s2 => (cond (decide (s2 < (p0.names.length : Int))) ((((idx p0.names s2).bind fun (x7 : Decl) => ((bO n x7.ty x4.1).bind fun (x8 : Bool) => (cond (!x8) (some (.nx ())) ((zG n p1 ([(S_api_Binding.mk x7.name p2)])).bind fun (x9 : Tm × Int) => (cond (x9.2 != 0) (some (.nx ())) ((iy n p0 x9.1).bind fun (x10 : Ty × (List Int) × Int) => (((cond (x10.2.2 != 0) (some true) ((bO n x3.1 x10.1).bind fun (x11 : Bool) => some (!x11))) : Option Bool).bind fun (s5 : Bool) => (cond s5 (some (.rt false)) (some (.nx ())))))))))) : Option (LR Unit Bool)).bind (LR.el (fun (s4 : Unit) => qj n p0 p1 p2 x3 x4 k (s2 + 1)) (fun r => some (.rt r)))) (some (.nx ())))
def yC (n : Nat) (p0 : Env) (p1 : Tm) (p2 : Tm) : Option Bool := ((tZ n p0).bind fun (x1 : Bool) => (cond (!x1) ((gu n).bind fun (x2 : Bool) => some x2) ((iy n p0 p1).bind fun (x3 : Ty × (List Int) × Int) => ((typing_Expression n p0 p2).bind fun (x4 : Ty × Int) => (((cond (x3.2.2 != 0) (some true) (some (x4.2 != 0))) : Option Bool).bind fun (s1 : Bool) => (cond s1 ((gu n).bind fun (x5 : Bool) => some x5) ((qj n p0 p1 p2 x3 x4 n 0).bind (LR.el (fun (s3 : Unit) => ((gu n).bind fun (x6 : Bool) => some x6)) (fun r => some r)))))))))
end Abs
end Go.Proofs.YtiiaccpcoclklaaGreat
