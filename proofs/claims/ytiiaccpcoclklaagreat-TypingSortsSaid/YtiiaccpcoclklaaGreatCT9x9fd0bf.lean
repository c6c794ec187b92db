/-
  Plain functions and the contracts of Go functions by them (printed by gen.py). Conditions: none.
-/
import Derived.KernelRfl
import Derived.Test.YtiiaccpcoclklaaGreatCData2x72b33f
import Derived.Test.YtiiaccpcoclklaaGreatCDfx223ef1
import Derived.Test.YtiiaccpcoclklaaGreatCTDx112680
import Derived.Test.YtiiaccpcoclklaaGreatCT6x66e337
import Derived.Test.YtiiaccpcoclklaaGreatCT8xcd56ab
set_option linter.unusedSimpArgs false
set_option linter.unusedVariables false
namespace Go.Proofs.YtiiaccpcoclklaaGreat
namespace Abs
open Go Go.Proofs
set_option maxRecDepth 100000
set_option maxHeartbeats 40000000
theorem typing_onRelation_5_ok (n : Nat) (r : Unit) (h : typing_onRelation_5 n = some r) : ACalls Tryz.prog 208 [.func 227 []] [] (.func 263 [.eptr [.func 227 []]]) [] := by
 unfold typing_onRelation_5 at h
 refine acalls_start false Tryz.func208 rfl (nt Tryz.ntmps208 rfl) fun Q hQ t ht => ?_
 conv at ht => whnf
 subst ht
 refine .q fun K1 k1 => rg 1 ?_
 refine k1 _ _ ?_
 refine .q fun K2 k2 => rg 0 ?_
 refine k2 _ _ ?_
 refine .ret ?_
 have e9 := sj h
 subst e9
 refine hQ _ _ _ (retW (u2 (.func 263 [.eptr [.func 227 []]] :: (.unk :: []))) [] (wk [] (.u2 (.cons (.func' (.cons (.frz0 rfl rfl (.cons (.func' .nil) .nil)) .nil)) (.u .nil))) .nil rfl) (retObj τ_ok [] rfl .nil ?_))
 conv => whnf
 first | rfl | (simp; done) | (simp; rfl) | (simp; constructor <;> rfl)
theorem typing_onRelation_6_ok (n : Nat) (r : Unit) (h : typing_onRelation_6 n = some r) : ACalls Tryz.prog 208 [.func 228 []] [] (.func 263 [.eptr [.func 228 []]]) [] := by
 unfold typing_onRelation_6 at h
 refine acalls_start false Tryz.func208 rfl (nt Tryz.ntmps208 rfl) fun Q hQ t ht => ?_
 conv at ht => whnf
 subst ht
 refine .q fun K1 k1 => rg 1 ?_
 refine k1 _ _ ?_
 refine .q fun K2 k2 => rg 0 ?_
 refine k2 _ _ ?_
 refine .ret ?_
 have e9 := sj h
 subst e9
 refine hQ _ _ _ (retW (u2 (.func 263 [.eptr [.func 228 []]] :: (.unk :: []))) [] (wk [] (.u2 (.cons (.func' (.cons (.frz0 rfl rfl (.cons (.func' .nil) .nil)) .nil)) (.u .nil))) .nil rfl) (retObj τ_ok [] rfl .nil ?_))
 conv => whnf
 first | rfl | (simp; done) | (simp; rfl) | (simp; constructor <;> rfl)
theorem typing_onRelation_7_ok (n : Nat) (r : Unit) (h : typing_onRelation_7 n = some r) : ACalls Tryz.prog 208 [.func 229 []] [] (.func 263 [.eptr [.func 229 []]]) [] := by
 unfold typing_onRelation_7 at h
 refine acalls_start false Tryz.func208 rfl (nt Tryz.ntmps208 rfl) fun Q hQ t ht => ?_
 conv at ht => whnf
 subst ht
 refine .q fun K1 k1 => rg 1 ?_
 refine k1 _ _ ?_
 refine .q fun K2 k2 => rg 0 ?_
 refine k2 _ _ ?_
 refine .ret ?_
 have e9 := sj h
 subst e9
 refine hQ _ _ _ (retW (u2 (.func 263 [.eptr [.func 229 []]] :: (.unk :: []))) [] (wk [] (.u2 (.cons (.func' (.cons (.frz0 rfl rfl (.cons (.func' .nil) .nil)) .nil)) (.u .nil))) .nil rfl) (retObj τ_ok [] rfl .nil ?_))
 conv => whnf
 first | rfl | (simp; done) | (simp; rfl) | (simp; constructor <;> rfl)
theorem typing_rows_ok (n : Nat) (r : Unit) (h : typing_rows n = some r) : ACalls Tryz.prog 131 [] [] (.agg (rowC0 ++ [])) [] := by
 unfold typing_rows at h
 refine acalls_start false Tryz.func131 rfl (nt Tryz.ntmps131 rfl) fun Q hQ t ht => ?_
 conv at ht => whnf
 subst ht
 refine .q fun K1 k1 => rg 1 ?_
 refine k1 _ _ ?_
 refine .q fun K2 k2 => rg 0 ?_
 refine call_pur (typing_truth_ok 0 _ rfl) okF_199 .nil (fun g => rfl) (fun g => by simp) ?_
 refine cp (typing_each_ok 0 2 (Ty.mk 2 ([] : Str) ([])) _ rfl) okF_198 (.cons (.same _) (.cons (.same _) .nil)) ?_
 refine call_pur (typing_integer_ok 0 _ rfl) okF_200 .nil (fun g => rfl) (fun g => by simp) ?_
 refine cp (typing_each_ok 0 1 (Ty.mk 1 ([] : Str) ([])) _ rfl) okF_198 (.cons (.same _) (.cons (.same _) .nil)) ?_
 refine call_pur (typing_truth_ok 0 _ rfl) okF_199 .nil (fun g => rfl) (fun g => by simp) ?_
 refine cp (typing_each_ok 0 1 (Ty.mk 2 ([] : Str) ([])) _ rfl) okF_198 (.cons (.same _) (.cons (.same _) .nil)) ?_
 refine k2 _ _ ?_
 refine .q fun K3 k3 => rg 0 ?_
 refine k3 _ _ ?_
 refine .q fun K4 k4 => rg 0 ?_
 refine cp (typing_two_ok 0 _ rfl) okF_203 (.cons (.same _) .nil) ?_
 refine k4 _ _ ?_
 refine .q fun K5 k5 => rg 0 ?_
 refine k5 _ _ ?_
 refine .q fun K6 k6 => rg 0 ?_
 refine cp (typing_onRelation_ok 0 _ rfl) okF_208 (.cons (.same _) .nil) ?_
 refine k6 _ _ ?_
 refine .q fun K7 k7 => rg 0 ?_
 refine cp (typing_onSet_ok 0 _ rfl) okF_210 (.cons (.same _) .nil) ?_
 refine k7 _ _ ?_
 refine .q fun K8 k8 => rg 0 ?_
 refine call_pur (typing_truth_ok 0 _ rfl) okF_199 .nil (fun g => rfl) (fun g => by simp) ?_
 refine cp (typing_constant_ok 0 (Ty.mk 2 ([] : Str) ([])) _ rfl) okF_212 (.cons (.same _) .nil) ?_
 refine call_pur (typing_truth_ok 0 _ rfl) okF_199 .nil (fun g => rfl) (fun g => by simp) ?_
 refine cp (typing_constant_ok 0 (Ty.mk 2 ([] : Str) ([])) _ rfl) okF_212 (.cons (.same _) .nil) ?_
 refine call_pur (typing_integer_ok 0 _ rfl) okF_200 .nil (fun g => rfl) (fun g => by simp) ?_
 refine cp (typing_constant_ok 0 (Ty.mk 1 ([] : Str) ([])) _ rfl) okF_212 (.cons (.same _) .nil) ?_
 refine cp (typing_body_ok 0 _ rfl) okF_213 (.cons (.same _) .nil) ?_
 refine cp (typing_body_ok 0 _ rfl) okF_213 (.cons (.same _) .nil) ?_
 refine cp (typing_body_1_ok 0 _ rfl) okF_213 (.cons (.same _) .nil) ?_
 refine cp (typing_sets_ok 0 _ rfl) okF_217 (.cons (.same _) .nil) ?_
 refine call_pur (typing_integer_ok 0 _ rfl) okF_200 .nil (fun g => rfl) (fun g => by simp) ?_
 refine cp (typing_setOf_ok 0 (Ty.mk 1 ([] : Str) ([])) _ rfl) okF_138 (.cons (.same _) .nil) ?_
 refine cp (typing_each_ok 0 1 (Ty.mk 5 ([] : Str) ([(Ty.mk 1 ([] : Str) ([]))])) _ rfl) okF_198 (.cons (.same _) (.cons (.same _) .nil)) ?_
 refine cp (typing_sets_1_ok 0 _ rfl) okF_217 (.cons (.same _) .nil) ?_
 refine cp (typing_sets_1_ok 0 _ rfl) okF_217 (.cons (.same _) .nil) ?_
 refine cp (typing_sets_1_ok 0 _ rfl) okF_217 (.cons (.same _) .nil) ?_
 refine cp (typing_two_1_ok 0 _ rfl) okF_203 (.cons (.same _) .nil) ?_
 refine cp (typing_onRelation_1_ok 0 _ rfl) okF_208 (.cons (.same _) .nil) ?_
 refine cp (typing_onRelation_2_ok 0 _ rfl) okF_208 (.cons (.same _) .nil) ?_
 refine cp (typing_onSet_1_ok 0 _ rfl) okF_210 (.cons (.same _) .nil) ?_
 refine cp (typing_onSet_2_ok 0 _ rfl) okF_210 (.cons (.same _) .nil) ?_
 refine cp (typing_onRelation_3_ok 0 _ rfl) okF_208 (.cons (.same _) .nil) ?_
 refine cp (typing_onRelation_4_ok 0 _ rfl) okF_208 (.cons (.same _) .nil) ?_
 refine cp (typing_onRelation_5_ok 0 _ rfl) okF_208 (.cons (.same _) .nil) ?_
 refine cp (typing_onRelation_6_ok 0 _ rfl) okF_208 (.cons (.same _) .nil) ?_
 refine cp (typing_onRelation_7_ok 0 _ rfl) okF_208 (.cons (.same _) .nil) ?_
 refine k8 _ _ ?_
 refine .ret ?_
 have e9 := sj h
 subst e9
 refine hQ _ _ _ (retPure τ_ok (fun g => by simp) ?_)
 conv => whnf
 try rfl
theorem typing_newChecker_ok (n : Nat) (p0 : Env) (r : (List (Str × Ty)) × (List (Str × Bool))) (h : typing_newChecker n p0 = some r) : ACalls Tryz.prog 67 [aEnv p0] [] (.ptr 0 0) [.box (.mapr 1 :: (.mapr 2 :: (rowC0 ++ (.psl 3 1 (List.length ([] : List Int)) :: [])))), .mp (mTy r.1), .mp (mBo r.2), .arr 1 (List.map encI ([] : List Int))] := by
 unfold typing_newChecker at h
 refine acalls_start false Tryz.func67 rfl (nt Tryz.ntmps67 rfl) fun Q hQ t ht => ?_
 conv at ht => whnf
 subst ht
 refine .q fun K1 k1 => rg 1 ?_
 refine k1 _ _ ?_
 refine .q fun K2 k2 => rg 3 ?_
 obtain ⟨x1, hx1, h⟩ := ob h
 refine call_gen [] [1] [aEnv p0] [aEnv p0] (typing_names_ok _ _ _ hx1) okF_110 rfl .nil (by simp; try decide) (.cons (.same _) .nil) (rn := .mapr 1) (by simp; try decide) (Hn := [.mp (mTy x1)]) ((rcons (congrArg AObj.mp (renm (f := aTy) (fun g x => by simp) _ _)) rfl)) ?_
 refine call_pur (typing_rows_ok 0 _ rfl) okF_131 .nil (fun g => rfl) (fun g => by simp) ?_
 refine k2 _ _ ?_
 refine .q fun K3 k3 => .q fun K4 k4 => rg 0 ?_
 refine len_of (l := p0.carriers) (f := encCarrier) ?_
 refine k4 _ _ ?_
 refine .block ?_
 obtain ⟨o1, ho1, h⟩ := ob h
 have hR1 : ∀ s2 : List (Str × Bool), o1 = .nx s2 → ∀ t9 h9, Le 0 t9 h9 (u2 (.unk :: (.ptr 0 0 :: (u16 (u4 (u2 (.unk :: []))))))) [.box (.mapr 1 :: (.mapr 2 :: (rowC0 ++ (.slice (List.map encI ([] : List Int)) .nils :: [])))), .mp (mTy x1), .mp (mBo s2)] → K3 t9 h9 := by
  intro s2 ho
  subst ho
  dsimp only [LR.el] at h
  intro t9 h9 hw
  refine k3 _ _ (AW.le hw ?_)
  refine .q fun K5 k5 => rg 0 ?_
  refine k5 _ _ ?_
  refine .ret ?_
  have e9 := sj h
  subst e9
  refine hQ _ _ _ (retW (u2 (.ptr 0 0 :: (u16 (u8 [])))) [.box (.mapr 1 :: (.mapr 2 :: (rowC0 ++ (.psl 3 1 (List.length ([] : List Int)) :: [])))), .mp (mTy x1), .mp (mBo s2), .arr 1 (List.map encI ([] : List Int))] (wk [some 0, some 1, some 2, none] (.u2 (.c rfl (.u16 (.u8 .nil)))) (.b rfl (.c rfl (.c rfl (.appC rowC0_ren (.cons (.nilP _ _) .nil)))) (.old .mT (.old .mB (.w rfl .nil)))) rfl) (retObj τ_ok [0, 1, 2, 3] rfl (.cons (by simp only [renO, ren, renL, renLL, renT, renL_app, renl_I, renl_S, renl_U8, renl_Ty, renl_Tm, renl_Carrier, renl_Decl, rowC0_ren]; try rfl) (.cons (congrArg AObj.mp (renm (f := aTy) (fun g x => by simp) _ _)) (.cons (congrArg AObj.mp (renm (f := (fun (x : Bool) => .bool x)) (fun g x => rfl) _ _)) (.cons (congrArg (AObj.arr _) (renl_I _ _)) .nil)))) ?_))
  conv => whnf
  first | rfl | (simp; done) | (simp; rfl) | (simp; constructor <;> rfl)
 refine .loopS (typing_newChecker_L0 n p0) (fun (s1 : Int × (List (Str × Bool))) => (u2 (.unk :: (.ptr 0 0 :: (u8 (.unk :: (sCa p0.carriers :: (.i (p0.carriers.length : Int) :: (.i s1.1 :: (u8 (u2 (.unk :: [])))))))))))) (fun (s1 : Int × (List (Str × Bool))) => [.box (.mapr 1 :: (.mapr 2 :: (rowC0 ++ (.slice (List.map encI ([] : List Int)) .nils :: [])))), .mp (mTy x1), .mp (mBo s1.2)]) ho1 (fun _ => rfl) (wk [some 3, some 1, some 2] (.u2 (.u (.c rfl (.u8 (.u (.e renl_Carrier (.c rfl (.c rfl (.u8 (.u2 (.u .nil))))))))))) (.b rfl (.c rfl (.c rfl (.appC rowC0_ren (.c rfl .nil)))) (.old .mT (.old .mB .nil))) rfl) ?_
 intro n1 s1 hs1 KL1 hKL1
 unfold typing_newChecker_L0 at hs1
 refine .q fun K6 k6 => rg 0 ?_
 refine k6 _ _ ?_
 refine .q fun K7 k7 => ?_
 refine .condS rfl hs1 (fun hc1 hs1 => ?_) (fun hc1 hs1 => ?_)
 ·refine .skip ?_
  refine k7 _ _ ?_
  refine .q fun K8 k8 => ?_
  refine .block ?_
  refine .q fun K9 k9 => rg 1 ?_
  obtain ⟨x2, hx2, hs1⟩ := ob hs1
  refine idx_of (l := p0.carriers) (f := encCarrier) (cs := [.str ((x2).name), sSt ((x2).elems)]) hx2 (rfl) rfl ?_
  refine k9 _ _ ?_
  refine rg 0 ?_
  obtain ⟨x3, hx3, hs1⟩ := ob hs1
  refine put_of (m := s1.2) (f := (fun (x : Bool) => .bool x)) hx3 rfl ?_
  refine ⟨rfl, ?_⟩
  refine k8 _ _ ?_
  refine .know 15 0 fun hv1 => ?_
  refine .know 13 0 fun hv2 => ?_
  refine rg 0 ?_
  refine ⟨(s1.1 + 1), by have := wf64 hv1; have := vfl hv2; have h8 := of_decide_eq_true hc1; exact w64_id (by omega) (by omega), ?_⟩
  exact hKL1 _ _ _ hs1 (wk [some 0, some 1, some 2] (.u2 (.u (.c rfl (.u8 (.u (.e renl_Carrier (.c rfl (.c rfl (.u8 (.u2 (.u .nil))))))))))) (.b rfl (.c rfl (.c rfl (.appC rowC0_ren (.c rfl .nil)))) (.old .mT (.old .mB .nil))) rfl)
 ·refine .exit ?_
  exact hR1 _ (sj hs1).symm _ _ (li (.u2 (.u (.s (.u16 (.u4 (.u2 (.u .n))))))))
theorem typing_binder_ok (n : Nat) (p0 : Int) (r : Bool) (h : typing_binder n p0 = some r) : ACalls Tryz.prog 133 [.i p0] [] (.bool r) [] := by
 unfold typing_binder at h
 refine acalls_start true Tryz.func133 rfl (nt Tryz.ntmps133 rfl) fun Q hQ t ht => ?_
 conv at ht => whnf
 subst ht
 refine .q fun K1 k1 => rg 0 ?_
 refine k1 _ _ ?_
 refine .q fun K2 k2 => ?_
 obtain ⟨s1, hj1, h⟩ := ob h
 have hR1 : ∀ t9 h9, Le 0 t9 h9 (u2 (.bool s1 :: (u8 (u4 (u2 []))))) [] → K2 t9 h9 := by
  intro t9 h9 hw
  refine k2 _ _ (AW.le hw ?_)
  clear hw
  refine .ret ?_
  have e9 := sj h
  subst e9
  refine hQ _ _ _ (retPure τ_ok (fun g => rfl) ?_)
  conv => whnf
 refine rg 0 ?_
 refine onB_cond hj1 (fun hc1 hj1 => ?_) (fun hc1 hj1 => ?_)
 ·cases hj1
  exact hR1 _ _ (li (.u2 (.s (.u8 (.u4 (.u2 .n))))))
 ·refine onB_cond hj1 (fun hc2 hj1 => ?_) (fun hc2 hj1 => ?_)
  ·cases hj1
   exact hR1 _ _ (li (.u2 (.s (.u8 (.u4 (.u2 .n))))))
  ·refine onB_cond hj1 (fun hc3 hj1 => ?_) (fun hc3 hj1 => ?_)
   ·cases hj1
    exact hR1 _ _ (li (.u2 (.s (.u8 (.u4 (.u2 .n))))))
   ·cases hj1
    exact hR1 _ _ (li (.u2 (.s (.u8 (.u4 (.u2 .n))))))
theorem typing_elementOf_ok (n : Nat) (p0 : Ty) (r : Ty × Bool) (h : typing_elementOf n p0 = some r) : ACalls Tryz.prog 134 [aTy p0] [] (.tup [aTy r.1, .bool r.2]) [] := by
 unfold typing_elementOf at h
 refine acalls_start true Tryz.func134 rfl (nt Tryz.ntmps134 rfl) fun Q hQ t ht => ?_
 conv at ht => whnf
 subst ht
 refine .q fun K1 k1 => rg 2 ?_
 refine k1 _ _ ?_
 refine .q fun K2 k2 => .q fun K3 k3 => rg 0 ?_
 refine k3 _ _ ?_
 refine .condS rfl h (fun hc1 h => ?_) (fun hc1 h => ?_)
 ·refine .q fun K4 k4 => rg 0 ?_
  refine k4 _ _ ?_
  refine .ret ?_
  have e9 := sj h
  subst e9
  refine hQ _ _ _ (retPure τ_ok (fun g => by simp) ?_)
  conv => whnf
  try rfl
 ·refine .skip ?_
  refine k2 _ _ ?_
  refine .q fun K5 k5 => rg 0 ?_
  obtain ⟨x1, hx1, h⟩ := ob h
  refine idx_of (l := p0.kids) (f := encTy) (cs := [.i ((x1).kind), .str ((x1).name), sTy ((x1).kids)]) hx1 (encTy_eq x1) rfl ?_
  refine k5 _ _ ?_
  refine .ret ?_
  have e9 := sj h
  subst e9
  refine hQ _ _ _ (retPure τ_ok (fun g => by simp) ?_)
  conv => whnf
  try rfl
theorem typing_scope_lookup_ok (n : Nat) (p0 : List Decl) (p1 : Str) (r : Ty × Bool) (h : typing_scope_lookup n p0 p1 = some r) : ACalls Tryz.prog 135 [.flist (List.map encDecl p0), .str p1] [] (.tup [aTy r.1, .bool r.2]) [] := by
 unfold typing_scope_lookup at h
 refine acalls_start true Tryz.func135 rfl (nt Tryz.ntmps135 rfl) fun Q hQ t ht => ?_
 conv at ht => whnf
 subst ht
 refine .q fun K1 k1 => rg 1 ?_
 refine k1 _ _ ?_
 refine .q fun K2 k2 => ?_
 refine .block ?_
 obtain ⟨o1, ho1, h⟩ := ob h
 have hR1 : ∀ s2 : Unit, o1 = .nx s2 → ∀ t9 h9, Le 0 t9 h9 (u4 (.ptr 0 0 :: (u16 (u2 [])))) [.box [.i 0, .str ([] : Str), .slice (List.map encTy ([] : List Ty)) .nils]] → K2 t9 h9 := by
  intro s2 ho
  subst ho
  dsimp only [LR.el] at h
  intro t9 h9 hw
  refine k2 _ _ (AW.le hw ?_)
  refine .q fun K3 k3 => rg 0 ?_
  refine k3 _ _ ?_
  refine .ret ?_
  have e9 := sj h
  subst e9
  refine hQ _ _ _ (retPure τ_ok (fun g => by simp) ?_)
  conv => whnf
  try rfl
 refine .loopS (typing_scope_lookup_L0 n p1) (fun (s1 : List Decl) => (.flist (List.map encDecl s1) :: (.str p1 :: (u2 (.ptr 0 0 :: (u16 (u2 []))))))) (fun (s1 : List Decl) => [.box [.i 0, .str ([] : Str), .slice (List.map encTy ([] : List Ty)) .nils]]) ho1 (fun _ => rfl) (li (.s (.s (.u2 (.s (.u16 (.u2 .n))))))) ?_
 intro n1 s1 hs1 KL1 hKL1
 unfold typing_scope_lookup_L0 at hs1
 refine .q fun K4 k4 => .q fun K5 k5 => rg 0 ?_
 refine nil_of (l := s1) (f := encDecl) ?_
 refine k5 _ _ ?_
 refine .condS rfl hs1 (fun hc1 hs1 => ?_) (fun hc1 hs1 => ?_)
 ·refine .skip ?_
  refine k4 _ _ ?_
  refine .q fun K6 k6 => ?_
  refine .block ?_
  refine .q fun K7 k7 => rg 0 ?_
  obtain ⟨x1, hx1, hs1⟩ := ob hs1
  refine cons_of (f := encDecl) (cells := [.str ((x1.1).name), .i (((x1.1).ty).kind), .str (((x1.1).ty).name), sTy (((x1.1).ty).kids), .flist (List.map encDecl (x1.2))]) hx1 rfl ?_
  refine k7 _ _ ?_
  refine .condS rfl hs1 (fun hc2 hs1 => ?_) (fun hc2 hs1 => ?_)
  ·refine .q fun K8 k8 => rg 0 ?_
   obtain ⟨x2, hx2, hs1⟩ := ob hs1
   refine cons_of (f := encDecl) (cells := [.str ((x2.1).name), .i (((x2.1).ty).kind), .str (((x2.1).ty).name), sTy (((x2.1).ty).kids), .flist (List.map encDecl (x2.2))]) hx2 rfl ?_
   refine k8 _ _ ?_
   refine .ret ?_
   have e9 := sj hs1
   subst e9
   dsimp only [LR.el] at h
   have e9 := sj h
   subst e9
   refine hQ _ _ _ (retPure τ_ok (fun g => by simp) ?_)
   conv => whnf
   try rfl
  ·refine .skip ?_
   refine k6 _ _ ?_
   refine rg 0 ?_
   obtain ⟨x3, hx3, hs1⟩ := ob hs1
   refine cons_of (f := encDecl) (cells := [.str ((x3.1).name), .i (((x3.1).ty).kind), .str (((x3.1).ty).name), sTy (((x3.1).ty).kids), .flist (List.map encDecl (x3.2))]) hx3 rfl ?_
   exact hKL1 _ _ _ hs1 (li (.s (.s (.u2 (.s (.u16 (.u2 .n)))))))
 ·refine .exit ?_
  exact hR1 _ (sj hs1).symm _ _ (li (.u4 (.s (.u16 (.u2 .n)))))
end Abs
end Go.Proofs.YtiiaccpcoclklaaGreat
