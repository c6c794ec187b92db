/-
  The plain functions of the program (printed by gen.py). Conditions: none. More structures of the program (printed by gen.py). Conditions: none. Plain functions and the contracts of Go functions by them (printed by gen.py). Conditions: none.
-/
import Derived.KernelRfl
import Derived.Test.YtiiaccpcoclklaaGreatCData2x772da3
import Derived.Test.YtiiaccpcoclklaaGreatCDfxef68f6
import Derived.Test.YtiiaccpcoclklaaGreatCTDx68fdcf
set_option linter.unusedSimpArgs false
set_option linter.unusedVariables false
namespace Go.Proofs.YtiiaccpcoclklaaGreat
namespace Abs
open Go Go.Proofs
set_option maxRecDepth 100000
set_option maxHeartbeats 40000000
structure S_refinementlaw02_Binding where
  env : Env
  body : Tm
  domain : Tm
  name : Str
def typing_isTop (n : Nat) (p0 : Tm) : Option Bool := some (p0.op == 1)
def typing_node (n : Nat) (p0 : Int) (p1 : List Tm) : Option Tm := some (Tm.mk p0 ([] : Str) 0 (Ty.mk 0 ([] : Str) ([])) p1)
def typing_implies (n : Nat) (p0 : Tm) (p1 : Tm) : Option Tm := (cond (p1.op == 1) (some p1) (some (Tm.mk 6 ([] : Str) 0 ((Ty.mk 0 ([] : Str) ([]))) ([p0, p1]))))
def typing_and (n : Nat) (p0 : Tm) (p1 : Tm) : Option Tm := (cond (p0.op == 1) (some p1) (cond (p1.op == 1) (some p0) (some (Tm.mk 4 ([] : Str) 0 ((Ty.mk 0 ([] : Str) ([]))) ([p0, p1])))))
def typing_or (n : Nat) (p0 : Tm) (p1 : Tm) : Option Tm := (cond (p1.op == 1) (some p1) (some (Tm.mk 5 ([] : Str) 0 ((Ty.mk 0 ([] : Str) ([]))) ([p0, p1]))))
def typing_all (n : Nat) (p0 : Str) (p1 : Tm) (p2 : Tm) : Option Tm := (cond (p2.op == 1) (some p2) (some (Tm.mk 8 p0 0 (Ty.mk 0 ([] : Str) ([])) ([p1, p2]))))
def typing_top (n : Nat) : Option Tm := some (Tm.mk 1 ([] : Str) 0 (Ty.mk 0 ([] : Str) ([])) ([]))
def typing_number (n : Nat) (p0 : Int) : Option Tm := some (Tm.mk 19 ([] : Str) p0 (Ty.mk 0 ([] : Str) ([])) ([]))
def typing_definedness_L0 (n : Nat) (rec_typing_definedness : Tm → Option Tm) (p0 : Tm) : Nat → (Int × Int × Str × Int × Int × Str × (List Ty) × (List Tm)) → Option (LR (Int × Str × Int × Int × Str × (List Ty) × (List Tm)) Tm)
 | 0, _ => none
 | k + 1, s3 => (cond (decide (s3.1 < (p0.kids.length : Int))) ((idx p0.kids s3.1).bind fun x33 => ((rec_typing_definedness x33).bind fun x34 => ((typing_and n (Tm.mk s3.2.1 s3.2.2.1 s3.2.2.2.1 (Ty.mk s3.2.2.2.2.1 s3.2.2.2.2.2.1 s3.2.2.2.2.2.2.1) s3.2.2.2.2.2.2.2) x34).bind fun x35 => typing_definedness_L0 n rec_typing_definedness p0 k ((s3.1 + 1), x35.op, x35.name, x35.n, x35.ty.kind, x35.ty.name, x35.ty.kids, x35.kids)))) (some (.nx (s3.2.1, s3.2.2.1, s3.2.2.2.1, s3.2.2.2.2.1, s3.2.2.2.2.2.1, s3.2.2.2.2.2.2.1, s3.2.2.2.2.2.2.2))))
def typing_definedness_body (n : Nat) (rec_typing_definedness : Tm → Option Tm) (p0 : Tm) : Option Tm := (((cond (p0.op == 4) (some (p0.op == 4)) (some (p0.op == 6))) : Option Bool).bind fun s1 => (cond s1 ((idx p0.kids 0).bind fun x1 => ((rec_typing_definedness x1).bind fun x2 => ((idx p0.kids 0).bind fun x3 => ((idx p0.kids 1).bind fun x4 => ((rec_typing_definedness x4).bind fun x5 => ((typing_implies n x3 x5).bind fun x6 => ((typing_and n x2 x6).bind fun x7 => some x7))))))) (cond (p0.op == 5) ((idx p0.kids 0).bind fun x8 => ((rec_typing_definedness x8).bind fun x9 => ((idx p0.kids 0).bind fun x10 => ((idx p0.kids 1).bind fun x11 => ((rec_typing_definedness x11).bind fun x12 => ((typing_or n x10 x12).bind fun x13 => ((typing_and n x9 x13).bind fun x14 => some x14))))))) (((cond (p0.op == 8) (some (p0.op == 8)) (cond (p0.op == 9) (some (p0.op == 9)) (cond (p0.op == 55) (some (p0.op == 55)) (some (p0.op == 56))))) : Option Bool).bind fun s2 => (cond s2 ((idx p0.kids 0).bind fun x15 => ((rec_typing_definedness x15).bind fun x16 => ((idx p0.kids 0).bind fun x17 => ((idx p0.kids 1).bind fun x18 => ((rec_typing_definedness x18).bind fun x19 => ((typing_all n p0.name x17 x19).bind fun x20 => ((typing_and n x16 x20).bind fun x21 => some x21))))))) ((typing_definedness_L0 n rec_typing_definedness p0 n (0, 1, ([] : Str), 0, ((Ty.mk 0 ([] : Str) ([]))).kind, ((Ty.mk 0 ([] : Str) ([]))).name, ((Ty.mk 0 ([] : Str) ([]))).kids, ([]))).bind (LR.el (fun s4 => (cond (p0.op == 25) ((idx p0.kids 1).bind fun x22 => ((typing_and n (Tm.mk s4.1 s4.2.1 s4.2.2.1 (Ty.mk s4.2.2.2.1 s4.2.2.2.2.1 s4.2.2.2.2.2.1) s4.2.2.2.2.2.2) (Tm.mk 11 ([] : Str) 0 ((Ty.mk 0 ([] : Str) ([]))) ([x22, (Tm.mk 19 ([] : Str) 0 ((Ty.mk 0 ([] : Str) ([]))) ([]))]))).bind fun x23 => some x23)) (cond (p0.op == 26) ((idx p0.kids 0).bind fun x24 => ((typing_and n (Tm.mk s4.1 s4.2.1 s4.2.2.1 (Ty.mk s4.2.2.2.1 s4.2.2.2.2.1 s4.2.2.2.2.2.1) s4.2.2.2.2.2.2) (Tm.mk 13 ([] : Str) 0 ((Ty.mk 0 ([] : Str) ([]))) ([(Tm.mk 19 ([] : Str) 0 ((Ty.mk 0 ([] : Str) ([]))) ([])), x24]))).bind fun x25 => ((idx p0.kids 1).bind fun x26 => ((typing_and n x25 (Tm.mk 12 ([] : Str) 0 ((Ty.mk 0 ([] : Str) ([]))) ([(Tm.mk 19 ([] : Str) 0 ((Ty.mk 0 ([] : Str) ([]))) ([])), x26]))).bind fun x27 => some x27)))) (((cond (p0.op == 48) (some (p0.op == 48)) (some (p0.op == 49))) : Option Bool).bind fun s5 => (cond s5 ((idx p0.kids 0).bind fun x28 => ((typing_and n (Tm.mk s4.1 s4.2.1 s4.2.2.1 (Ty.mk s4.2.2.2.1 s4.2.2.2.2.1 s4.2.2.2.2.2.1) s4.2.2.2.2.2.2) (Tm.mk 12 ([] : Str) 0 ((Ty.mk 0 ([] : Str) ([]))) ([(Tm.mk 19 ([] : Str) 0 ((Ty.mk 0 ([] : Str) ([]))) ([])), (Tm.mk 47 ([] : Str) 0 ((Ty.mk 0 ([] : Str) ([]))) ([x28]))]))).bind fun x29 => some x29)) (cond (p0.op == 54) ((idx p0.kids 0).bind fun x30 => ((idx p0.kids 1).bind fun x31 => ((typing_and n (Tm.mk s4.1 s4.2.1 s4.2.2.1 (Ty.mk s4.2.2.2.1 s4.2.2.2.2.1 s4.2.2.2.2.2.1) s4.2.2.2.2.2.2) (Tm.mk 10 ([] : Str) 0 ((Ty.mk 0 ([] : Str) ([]))) ([(Tm.mk 47 ([] : Str) 0 ((Ty.mk 0 ([] : Str) ([]))) ([(Tm.mk 53 ([] : Str) 0 ((Ty.mk 0 ([] : Str) ([]))) ([x30, (Tm.mk 28 ([] : Str) 0 ((Ty.mk 0 ([] : Str) ([]))) ([x31]))]))])), (Tm.mk 19 ([] : Str) 1 ((Ty.mk 0 ([] : Str) ([]))) ([]))]))).bind fun x32 => some x32))) (some (Tm.mk s4.1 s4.2.1 s4.2.2.1 (Ty.mk s4.2.2.2.1 s4.2.2.2.2.1 s4.2.2.2.2.2.1) s4.2.2.2.2.2.2)))))))) (fun r => some r))))))))
def typing_definedness : Nat → Tm → Option Tm
 | 0, _ => none
 | n + 1, p0 => typing_definedness_body n (fun p0 => typing_definedness n p0) p0
def typing_copyTerm_L0 (n : Nat) (rec_typing_copyTerm : Tm → Option Tm) (p0 : Tm) : Nat → (Int × (List Tm)) → Option (LR (List Tm) Tm)
 | 0, _ => none
 | k + 1, s1 => (cond (decide (s1.1 < (p0.kids.length : Int))) ((idx p0.kids s1.1).bind fun x2 => ((rec_typing_copyTerm x2).bind fun x3 => ((app 104 s1.2 ([x3])).bind fun x4 => typing_copyTerm_L0 n rec_typing_copyTerm p0 k ((s1.1 + 1), x4)))) (some (.nx s1.2)))
def typing_copyTerm_body (n : Nat) (rec_typing_copyTerm : Tm → Option Tm) (p0 : Tm) : Option Tm := ((typing_copyType n p0.ty).bind fun x1 => ((typing_copyTerm_L0 n rec_typing_copyTerm p0 n (0, ([] : List Tm))).bind (LR.el (fun s2 => some (Tm.mk p0.op p0.name p0.n x1 s2)) (fun r => some r))))
def typing_copyTerm : Nat → Tm → Option Tm
 | 0, _ => none
 | n + 1, p0 => typing_copyTerm_body n (fun p0 => typing_copyTerm n p0) p0
def typing_Defined (n : Nat) (p0 : Env) (p1 : Tm) : Option (Tm × Int) := ((typing_TypeOf n p0 p1).bind fun x1 => (cond (x1.2.2 != 0) (some ((Tm.mk 0 ([] : Str) 0 (Ty.mk 0 ([] : Str) ([])) ([])), x1.2.2)) ((typing_definedness n p1).bind fun x2 => ((term_Valid n x2).bind fun x3 => (cond (!x3) (some ((Tm.mk 0 ([] : Str) 0 (Ty.mk 0 ([] : Str) ([])) ([])), 5)) ((typing_copyTerm n x2).bind fun x4 => some (x4, 0)))))))
def R1_SameTerm_body (n : Nat) (rec_R1_SameTerm : Tm → Tm → Option Bool) (rec_R1_SameTerms : (List Tm) → (List Tm) → Option Bool) (p0 : Tm) (p1 : Tm) : Option Bool := (((cond (p0.op == p1.op) (cond (p0.name == p1.name) (cond (p0.n == p1.n) ((R1_SameType n p0.ty p1.ty).bind fun x1 => (cond x1 ((rec_R1_SameTerms p0.kids p1.kids).bind fun x2 => some x2) (some false))) (some false)) (some false)) (some false)) : Option Bool).bind fun s1 => some s1)
def R1_SameTerms_L0 (n : Nat) (rec_R1_SameTerm : Tm → Tm → Option Bool) (rec_R1_SameTerms : (List Tm) → (List Tm) → Option Bool) (p0 : List Tm) (p1 : List Tm) : Nat → Int → Option (LR Unit Bool)
 | 0, _ => none
 | k + 1, s1 => (cond (decide (s1 < (p0.length : Int))) ((idx p0 s1).bind fun x1 => ((idx p1 s1).bind fun x2 => ((rec_R1_SameTerm x1 x2).bind fun x3 => (cond (!x3) (some (.rt false)) (R1_SameTerms_L0 n rec_R1_SameTerm rec_R1_SameTerms p0 p1 k (s1 + 1)))))) (some (.nx ())))
def R1_SameTerms_body (n : Nat) (rec_R1_SameTerm : Tm → Tm → Option Bool) (rec_R1_SameTerms : (List Tm) → (List Tm) → Option Bool) (p0 : List Tm) (p1 : List Tm) : Option Bool := (cond ((p0.length : Int) != (p1.length : Int)) (some false) ((R1_SameTerms_L0 n rec_R1_SameTerm rec_R1_SameTerms p0 p1 n 0).bind (LR.el (fun s2 => some true) (fun r => some r))))
mutual
def R1_SameTerm : Nat → Tm → Tm → Option Bool
 | 0, _, _ => none
 | n + 1, p0, p1 => R1_SameTerm_body n (fun p0 p1 => R1_SameTerm n p0 p1) (fun p0 p1 => R1_SameTerms n p0 p1) p0 p1
def R1_SameTerms : Nat → (List Tm) → (List Tm) → Option Bool
 | 0, _, _ => none
 | n + 1, p0, p1 => R1_SameTerms_body n (fun p0 p1 => R1_SameTerm n p0 p1) (fun p0 p1 => R1_SameTerms n p0 p1) p0 p1
end
def L2_TypingMore (n : Nat) (p0 : Env) (p1 : Env) (p2 : Tm) : Option Bool := ((((L2_small n p0).bind fun x11 => (cond (!x11) (some true) ((L2_small n p1).bind fun x12 => some (!x12)))) : Option Bool).bind fun s1 => (cond s1 ((L2_awake n).bind fun x1 => some x1) ((typing_TypeOf n p0 p2).bind fun x2 => ((typing_Union n p0 p1).bind fun x3 => (((cond (x2.2.2 != 0) (some true) (some (x3.2 != 0))) : Option Bool).bind fun s2 => (cond s2 ((L2_awake n).bind fun x4 => some x4) ((typing_TypeOf n x3.1 p2).bind fun x5 => ((typing_Defined n p0 p2).bind fun x6 => ((typing_Defined n x3.1 p2).bind fun x7 => (((cond (x5.2.2 == 0) ((R1_SameType n x2.1 x5.1).bind fun x8 => (cond x8 (cond (x6.2 == x7.2) ((R1_SameTerm n x6.1 x7.1).bind fun x9 => (cond x9 ((L2_awake n).bind fun x10 => some x10) (some false))) (some false)) (some false))) (some false)) : Option Bool).bind fun s3 => some s3))))))))))
end Abs
end Go.Proofs.YtiiaccpcoclklaaGreat
namespace Go.Proofs.YtiiaccpcoclklaaGreat
namespace Abs
open Go Go.Proofs
def encS_refinementlaw02_Binding (x : S_refinementlaw02_Binding) : List AV := [.slice (List.map encCarrier x.env.carriers) .shared, .slice (List.map encDecl x.env.names) .shared, .int .i64 x.body.op, .str x.body.name, .int .i64 x.body.n, .int .i64 x.body.ty.kind, .str x.body.ty.name, .slice (List.map encTy x.body.ty.kids) .shared, .slice (List.map encTm x.body.kids) .shared, .int .i64 x.domain.op, .str x.domain.name, .int .i64 x.domain.n, .int .i64 x.domain.ty.kind, .str x.domain.ty.name, .slice (List.map encTy x.domain.ty.kids) .shared, .slice (List.map encTm x.domain.kids) .shared, .str x.name]
theorem renl_S_refinementlaw02_Binding (g : Nat → Nat) (l : List S_refinementlaw02_Binding) : renLL g (l.map encS_refinementlaw02_Binding) = l.map encS_refinementlaw02_Binding := ren_map (fun g x => by simp only [encS_refinementlaw02_Binding, renL, ren, renT, renl_I, renl_S, renl_U8, renl_Ty, renl_Tm, renl_Carrier, renl_Decl]) g l
theorem okF_23 : okFn Tryz.prog 23 = true := by kernel_rfl
theorem okF_34 : okFn Tryz.prog 34 = true := by kernel_rfl
theorem okF_75 : okFn Tryz.prog 75 = true := by kernel_rfl
theorem okF_76 : okFn Tryz.prog 76 = true := by kernel_rfl
theorem okF_89 : okFn Tryz.prog 89 = true := by kernel_rfl
theorem okF_144 : okFn Tryz.prog 144 = true := by kernel_rfl
theorem okF_145 : okFn Tryz.prog 145 = true := by kernel_rfl
theorem okF_146 : okFn Tryz.prog 146 = true := by kernel_rfl
theorem okF_147 : okFn Tryz.prog 147 = true := by kernel_rfl
theorem okF_148 : okFn Tryz.prog 148 = true := by kernel_rfl
theorem okF_149 : okFn Tryz.prog 149 = true := by kernel_rfl
theorem okF_150 : okFn Tryz.prog 150 = true := by kernel_rfl
theorem okF_237 : okFn Tryz.prog 237 = true := by kernel_rfl
attribute [simp] renl_S_refinementlaw02_Binding
end Abs
end Go.Proofs.YtiiaccpcoclklaaGreat
namespace Go.Proofs.YtiiaccpcoclklaaGreat
namespace Abs
open Go Go.Proofs
set_option maxRecDepth 100000
set_option maxHeartbeats 40000000
theorem typing_isTop_ok (n : Nat) (p0 : Tm) (r : Bool) (h : typing_isTop n p0 = some r) : ACalls Tryz.prog 237 [aTm p0] [] (.bool r) [] := by
 unfold typing_isTop at h
 refine acalls_start true Tryz.func237 rfl (nt Tryz.ntmps237 rfl) fun Q hQ t ht => ?_
 conv at ht => whnf
 subst ht
 refine .q fun K1 k1 => rg 1 ?_
 refine k1 _ _ ?_
 refine .q fun K2 k2 => rg 0 ?_
 refine k2 _ _ ?_
 refine .ret ?_
 have e9 := sj h
 subst e9
 refine hQ _ _ _ (retPure τ_ok (fun g => rfl) ?_)
 conv => whnf
theorem typing_node_ok (n : Nat) (p0 : Int) (p1 : List Tm) (r : Tm) (h : typing_node n p0 p1 = some r) : ACalls Tryz.prog 149 [.i p0, sTm p1] [] (aTm r) [] := by
 unfold typing_node at h
 refine acalls_start true Tryz.func149 rfl (nt Tryz.ntmps149 rfl) fun Q hQ t ht => ?_
 conv at ht => whnf
 subst ht
 refine .q fun K1 k1 => rg 1 ?_
 refine k1 _ _ ?_
 refine .q fun K2 k2 => rg 0 ?_
 refine k2 _ _ ?_
 refine .ret ?_
 have e9 := sj h
 subst e9
 refine hQ _ _ _ (retPure τ_ok (fun g => by simp) ?_)
 conv => whnf
 try rfl
theorem typing_implies_ok (n : Nat) (p0 : Tm) (p1 : Tm) (r : Tm) (h : typing_implies n p0 p1 = some r) : ACalls Tryz.prog 145 [aTm p0, aTm p1] [] (aTm r) [] := by
 unfold typing_implies at h
 refine acalls_start true Tryz.func145 rfl (nt Tryz.ntmps145 rfl) fun Q hQ t ht => ?_
 conv at ht => whnf
 subst ht
 refine .q fun K1 k1 => rg 3 ?_
 refine k1 _ _ ?_
 refine .q fun K2 k2 => .q fun K3 k3 => rg 0 ?_
 refine call_pur (typing_isTop_ok 0 p1 _ rfl) okF_237 (.cons (.same _) .nil) (fun g => by simp) (fun g => rfl) ?_
 refine k3 _ _ ?_
 refine .condS rfl h (fun hc1 h => ?_) (fun hc1 h => ?_)
 ·refine .q fun K4 k4 => rg 0 ?_
  refine k4 _ _ ?_
  refine .ret ?_
  have e9 := sj h
  subst e9
  refine hQ _ _ _ (retPure τ_ok (fun g => by simp) ?_)
  conv => whnf
  try rfl
 ·refine .skip ?_
  refine k2 _ _ ?_
  refine .q fun K5 k5 => rg 1 ?_
  refine ⟨List.map encTm ([p0, p1]), by simp only [List.map_cons, List.map_nil, encTm_eq]; rfl, ?_⟩
  refine cp (typing_node_ok 0 6 ([p0, p1]) _ rfl) okF_149 (.cons (.same _) (.cons (.share _ _) .nil)) ?_
  refine k5 _ _ ?_
  refine .ret ?_
  have e9 := sj h
  subst e9
  refine hQ _ _ _ (retPure τ_ok (fun g => by simp) ?_)
  conv => whnf
  try rfl
theorem typing_and_ok (n : Nat) (p0 : Tm) (p1 : Tm) (r : Tm) (h : typing_and n p0 p1 = some r) : ACalls Tryz.prog 144 [aTm p0, aTm p1] [] (aTm r) [] := by
 unfold typing_and at h
 refine acalls_start true Tryz.func144 rfl (nt Tryz.ntmps144 rfl) fun Q hQ t ht => ?_
 conv at ht => whnf
 subst ht
 refine .q fun K1 k1 => rg 3 ?_
 refine k1 _ _ ?_
 refine .q fun K2 k2 => ?_
 refine .block ?_
 refine .q fun K3 k3 => rg 0 ?_
 refine call_pur (typing_isTop_ok 0 p0 _ rfl) okF_237 (.cons (.same _) .nil) (fun g => by simp) (fun g => rfl) ?_
 refine k3 _ _ ?_
 refine .condS rfl h (fun hc1 h => ?_) (fun hc1 h => ?_)
 ·refine .q fun K4 k4 => rg 0 ?_
  refine k4 _ _ ?_
  refine .ret ?_
  have e9 := sj h
  subst e9
  refine hQ _ _ _ (retPure τ_ok (fun g => by simp) ?_)
  conv => whnf
  try rfl
 ·refine .q fun K5 k5 => rg 0 ?_
  refine call_pur (typing_isTop_ok 0 p1 _ rfl) okF_237 (.cons (.same _) .nil) (fun g => by simp) (fun g => rfl) ?_
  refine k5 _ _ ?_
  refine .condS rfl h (fun hc2 h => ?_) (fun hc2 h => ?_)
  ·refine .q fun K6 k6 => rg 0 ?_
   refine k6 _ _ ?_
   refine .ret ?_
   have e9 := sj h
   subst e9
   refine hQ _ _ _ (retPure τ_ok (fun g => by simp) ?_)
   conv => whnf
   try rfl
  ·refine .skip ?_
   refine k2 _ _ ?_
   refine .q fun K7 k7 => rg 1 ?_
   refine ⟨List.map encTm ([p0, p1]), by simp only [List.map_cons, List.map_nil, encTm_eq]; rfl, ?_⟩
   refine cp (typing_node_ok 0 4 ([p0, p1]) _ rfl) okF_149 (.cons (.same _) (.cons (.share _ _) .nil)) ?_
   refine k7 _ _ ?_
   refine .ret ?_
   have e9 := sj h
   subst e9
   refine hQ _ _ _ (retPure τ_ok (fun g => by simp) ?_)
   conv => whnf
   try rfl
theorem typing_or_ok (n : Nat) (p0 : Tm) (p1 : Tm) (r : Tm) (h : typing_or n p0 p1 = some r) : ACalls Tryz.prog 146 [aTm p0, aTm p1] [] (aTm r) [] := by
 unfold typing_or at h
 refine acalls_start true Tryz.func146 rfl (nt Tryz.ntmps146 rfl) fun Q hQ t ht => ?_
 conv at ht => whnf
 subst ht
 refine .q fun K1 k1 => rg 3 ?_
 refine k1 _ _ ?_
 refine .q fun K2 k2 => .q fun K3 k3 => rg 0 ?_
 refine call_pur (typing_isTop_ok 0 p1 _ rfl) okF_237 (.cons (.same _) .nil) (fun g => by simp) (fun g => rfl) ?_
 refine k3 _ _ ?_
 refine .condS rfl h (fun hc1 h => ?_) (fun hc1 h => ?_)
 ·refine .q fun K4 k4 => rg 0 ?_
  refine k4 _ _ ?_
  refine .ret ?_
  have e9 := sj h
  subst e9
  refine hQ _ _ _ (retPure τ_ok (fun g => by simp) ?_)
  conv => whnf
  try rfl
 ·refine .skip ?_
  refine k2 _ _ ?_
  refine .q fun K5 k5 => rg 1 ?_
  refine ⟨List.map encTm ([p0, p1]), by simp only [List.map_cons, List.map_nil, encTm_eq]; rfl, ?_⟩
  refine cp (typing_node_ok 0 5 ([p0, p1]) _ rfl) okF_149 (.cons (.same _) (.cons (.share _ _) .nil)) ?_
  refine k5 _ _ ?_
  refine .ret ?_
  have e9 := sj h
  subst e9
  refine hQ _ _ _ (retPure τ_ok (fun g => by simp) ?_)
  conv => whnf
  try rfl
theorem typing_all_ok (n : Nat) (p0 : Str) (p1 : Tm) (p2 : Tm) (r : Tm) (h : typing_all n p0 p1 p2 = some r) : ACalls Tryz.prog 147 [.str p0, aTm p1, aTm p2] [] (aTm r) [] := by
 unfold typing_all at h
 refine acalls_start true Tryz.func147 rfl (nt Tryz.ntmps147 rfl) fun Q hQ t ht => ?_
 conv at ht => whnf
 subst ht
 refine .q fun K1 k1 => rg 3 ?_
 refine k1 _ _ ?_
 refine .q fun K2 k2 => .q fun K3 k3 => rg 0 ?_
 refine call_pur (typing_isTop_ok 0 p2 _ rfl) okF_237 (.cons (.same _) .nil) (fun g => by simp) (fun g => rfl) ?_
 refine k3 _ _ ?_
 refine .condS rfl h (fun hc1 h => ?_) (fun hc1 h => ?_)
 ·refine .q fun K4 k4 => rg 0 ?_
  refine k4 _ _ ?_
  refine .ret ?_
  have e9 := sj h
  subst e9
  refine hQ _ _ _ (retPure τ_ok (fun g => by simp) ?_)
  conv => whnf
  try rfl
 ·refine .skip ?_
  refine k2 _ _ ?_
  refine .q fun K5 k5 => rg 1 ?_
  refine ⟨List.map encTm ([p1, p2]), by simp only [List.map_cons, List.map_nil, encTm_eq]; rfl, ?_⟩
  refine k5 _ _ ?_
  refine .ret ?_
  have e9 := sj h
  subst e9
  refine hQ _ _ _ (retPure τ_ok (fun g => by simp) ?_)
  conv => whnf
  try rfl
theorem typing_top_ok (n : Nat) (r : Tm) (h : typing_top n = some r) : ACalls Tryz.prog 148 [] [] (aTm r) [] := by
 unfold typing_top at h
 refine acalls_start true Tryz.func148 rfl (nt Tryz.ntmps148 rfl) fun Q hQ t ht => ?_
 conv at ht => whnf
 subst ht
 refine .q fun K1 k1 => rg 1 ?_
 refine k1 _ _ ?_
 refine .q fun K2 k2 => rg 0 ?_
 refine k2 _ _ ?_
 refine .ret ?_
 have e9 := sj h
 subst e9
 refine hQ _ _ _ (retPure τ_ok (fun g => by simp) ?_)
 conv => whnf
 try rfl
theorem typing_number_ok (n : Nat) (p0 : Int) (r : Tm) (h : typing_number n p0 = some r) : ACalls Tryz.prog 150 [.i p0] [] (aTm r) [] := by
 unfold typing_number at h
 refine acalls_start true Tryz.func150 rfl (nt Tryz.ntmps150 rfl) fun Q hQ t ht => ?_
 conv at ht => whnf
 subst ht
 refine .q fun K1 k1 => rg 1 ?_
 refine k1 _ _ ?_
 refine .q fun K2 k2 => rg 0 ?_
 refine k2 _ _ ?_
 refine .ret ?_
 have e9 := sj h
 subst e9
 refine hQ _ _ _ (retPure τ_ok (fun g => by simp) ?_)
 conv => whnf
 try rfl
end Abs
end Go.Proofs.YtiiaccpcoclklaaGreat
