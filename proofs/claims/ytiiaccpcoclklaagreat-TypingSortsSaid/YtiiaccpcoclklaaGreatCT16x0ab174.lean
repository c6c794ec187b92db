/-
  Plain functions and the contracts of Go functions by them (printed by gen.py). Conditions: none.
-/
import Derived.KernelRfl
import Derived.Test.YtiiaccpcoclklaaGreatCData2x72b33f
import Derived.Test.YtiiaccpcoclklaaGreatCDfx223ef1
import Derived.Test.YtiiaccpcoclklaaGreatCTDx112680
import Derived.Test.YtiiaccpcoclklaaGreatCNilx4de15b
import Derived.Test.YtiiaccpcoclklaaGreatCT5x6b892d
import Derived.Test.YtiiaccpcoclklaaGreatCT6x66e337
import Derived.Test.YtiiaccpcoclklaaGreatCT9x9fd0bf
import Derived.Test.YtiiaccpcoclklaaGreatCT15xb3c4c8
set_option linter.unusedSimpArgs false
set_option linter.unusedVariables false
namespace Go.Proofs.YtiiaccpcoclklaaGreat
namespace Abs
open Go Go.Proofs
set_option maxRecDepth 100000
set_option maxHeartbeats 40000000
abbrev typing_copyType_S (rec_typing_copyType : Ty → Option Ty) : Prop := ∀ (p0 : Ty) (r : Ty), rec_typing_copyType p0 = some r → ACalls Tryz.prog 70 [aTy p0] [] (aTy r) []
theorem typing_copyType_body_ok (n : Nat) (rec_typing_copyType : Ty → Option Ty) (hrec_typing_copyType : typing_copyType_S rec_typing_copyType) (p0 : Ty) (r : Ty) (h : typing_copyType_body n rec_typing_copyType p0 = some r) : ACalls Tryz.prog 70 [aTy p0] [] (aTy r) [] := by
 unfold typing_copyType_body at h
 refine acalls_start true Tryz.func70 rfl (nt Tryz.ntmps70 rfl) fun Q hQ t ht => ?_
 conv at ht => whnf
 subst ht
 refine .q fun K1 k1 => rg 2 ?_
 refine k1 _ _ ?_
 refine .q fun K2 k2 => rg 1 ?_
 refine k2 _ _ ?_
 refine .q fun K3 k3 => .q fun K4 k4 => rg 0 ?_
 refine len_of (l := p0.kids) (f := encTy) ?_
 refine k4 _ _ ?_
 refine .block ?_
 obtain ⟨o1, ho1, h⟩ := ob h
 have hR1 : ∀ s2 : List Ty, o1 = .nx s2 → ∀ t9 h9, Le 0 t9 h9 (u2 (.ptr 0 0 :: (.ptr 1 0 :: (u16 (u4 (u2 (.unk :: []))))))) [.box [.i 0, .str ([] : Str), .slice (List.map encTy ([] : List Ty)) .nils], .box [.i p0.kind, .str p0.name, .slice (List.map encTy s2) (.tip 2 3)], .tip (List.length s2 * 3)] → K3 t9 h9 := by
  intro s2 ho
  subst ho
  dsimp only [LR.el] at h
  intro t9 h9 hw
  refine k3 _ _ (AW.le hw ?_)
  refine .q fun K5 k5 => rg 0 ?_
  refine k5 _ _ ?_
  refine .ret ?_
  have e9 := sj h
  subst e9
  refine hQ _ _ _ (retPure τ_ok (fun g => by simp) ?_)
  conv => whnf
  try rfl
 refine .loopS (typing_copyType_L0 n rec_typing_copyType p0) (fun (s1 : Int × (List Ty)) => (u2 (.ptr 0 0 :: (.ptr 1 0 :: (u8 (sTy p0.kids :: (.i (p0.kids.length : Int) :: (.i s1.1 :: (u8 (u4 [])))))))))) (fun (s1 : Int × (List Ty)) => [.box [.i 0, .str ([] : Str), .slice (List.map encTy ([] : List Ty)) .nils], .box [.i p0.kind, .str p0.name, .slice (List.map encTy s1.2) (.tip 2 3)], .tip (List.length s1.2 * 3)]) ho1 (fun _ => rfl) (wk [some 1, some 2, none] (.u2 (.c rfl (.c rfl (.u8 (.e renl_Ty (.c rfl (.c rfl (.u8 (.u4 .nil))))))))) (.b rfl (.c rfl (.c rfl (.c rfl .nil))) (.b rfl (.c rfl (.c rfl (.cons (.nils _ _) .nil))) (.w rfl .nil))) rfl) ?_
 intro n1 s1 hs1 KL1 hKL1
 unfold typing_copyType_L0 at hs1
 refine .q fun K6 k6 => rg 0 ?_
 refine k6 _ _ ?_
 refine .q fun K7 k7 => ?_
 refine .condS rfl hs1 (fun hc1 hs1 => ?_) (fun hc1 hs1 => ?_)
 ·refine .skip ?_
  refine k7 _ _ ?_
  refine .q fun K8 k8 => ?_
  refine .block ?_
  refine .q fun K9 k9 => rg 1 ?_
  obtain ⟨x1, hx1, hs1⟩ := ob hs1
  refine idx_of (l := p0.kids) (f := encTy) (cs := [.i ((x1).kind), .str ((x1).name), sTy ((x1).kids)]) hx1 (encTy_eq x1) rfl ?_
  refine k9 _ _ ?_
  refine rg 2 ?_
  obtain ⟨x2, hx2, hs1⟩ := ob hs1
  refine cp (hrec_typing_copyType _ _ hx2) okF_70 (.cons (.same _) .nil) ?_
  refine ⟨List.map encTy ([x2]), by simp only [List.map_cons, List.map_nil, encTy_eq]; rfl, ?_⟩
  obtain ⟨x3, hx3, hs1⟩ := ob hs1
  refine app_tip (l := s1.2) (ys := [x2]) (f := encTy) hx3 ok_Ty rfl rfl rfl ?_
  refine ⟨rfl, ?_⟩
  refine k8 _ _ ?_
  refine .know 14 0 fun hv1 => ?_
  refine .know 12 0 fun hv2 => ?_
  refine rg 0 ?_
  refine ⟨(s1.1 + 1), by have := wf64 hv1; have := vfl hv2; have h8 := of_decide_eq_true hc1; exact w64_id (by omega) (by omega), ?_⟩
  exact hKL1 _ _ _ hs1 (wk [some 0, some 1, some 5] (.u2 (.c rfl (.c rfl (.u8 (.e renl_Ty (.c rfl (.c rfl (.u8 (.u4 .nil))))))))) (.b rfl (.c rfl (.c rfl (.c rfl .nil))) (.b rfl (.c rfl (.c rfl (.cons (.tipS (renl_Ty _ _) rfl) .nil))) (.t rfl .nil))) rfl)
 ·refine .exit ?_
  exact hR1 _ (sj hs1).symm _ _ (li (.u2 (.s (.s (.u16 (.u4 (.u2 (.u .n))))))))
theorem typing_copyType_all (n : Nat) : typing_copyType_S (typing_copyType n) := by
 induction n with
 | zero => exact (fun p0 r h => by unfold typing_copyType at h; cases h)
 | succ n ih =>
  exact (fun p0 r h => typing_copyType_body_ok n _ ih p0 r (by unfold typing_copyType at h; exact h))
theorem typing_copyType_ok (n : Nat) : typing_copyType_S (typing_copyType n) := (typing_copyType_all n)
theorem typing_TypeOf_ok (n : Nat) (p0 : Env) (p1 : Tm) (r : Ty × (List Int) × Int) (h : typing_TypeOf n p0 p1 = some r) : ACalls Tryz.prog 18 [aEnv p0, aTm p1] [] (.tup [aTy r.1, sIn r.2.1, .i r.2.2]) [] := by
 unfold typing_TypeOf at h
 refine acalls_start true Tryz.func18 rfl (nt Tryz.ntmps18 rfl) fun Q hQ t ht => ?_
 conv at ht => whnf
 subst ht
 refine .q fun K1 k1 => rg 3 ?_
 refine k1 _ _ ?_
 refine .q fun K2 k2 => .q fun K3 k3 => ?_
 obtain ⟨s1, hj1, h⟩ := ob h
 have hR1 : ∀ t9 h9, Le 0 t9 h9 (u2 (.ptr 0 0 :: (.ptr 1 0 :: (.ptr 2 0 :: (u8 (u2 (.bool s1 :: (u16 (u4 []))))))))) [.box [sCa p0.carriers, sDe p0.names], .box [.i p1.op, .str p1.name, .i p1.n, .i p1.ty.kind, .str p1.ty.name, sTy p1.ty.kids, sTm p1.kids], .box [.i 0, .str ([] : Str), .slice (List.map encTy ([] : List Ty)) .nils]] → K3 t9 h9 := by
  intro t9 h9 hw
  refine k3 _ _ (AW.le hw ?_)
  clear hw
  refine .condS rfl h (fun hc1 h => ?_) (fun hc1 h => ?_)
  ·refine .q fun K4 k4 => rg 0 ?_
   refine k4 _ _ ?_
   refine .ret ?_
   have e9 := sj h
   subst e9
   refine hQ _ _ _ (retPure τ_ok (fun g => by simp) ?_)
   conv => whnf
   try rfl
  ·refine .skip ?_
   refine k2 _ _ ?_
   refine .q fun K5 k5 => rg 4 ?_
   obtain ⟨x1, hx1, h⟩ := ob h
   refine call_gen [] [3, 4, 5, 6] [aEnv p0] [aEnv p0] (typing_newChecker_ok _ _ _ hx1) okF_67 rfl .nil (by simp; try decide) (.cons (.same _) .nil) (rn := .ptr 3 0) (rfl) (Hn := [.box (.mapr 4 :: (.mapr 5 :: (rowC0 ++ (.psl 6 1 (List.length ([] : List Int)) :: [])))), .mp (mTy x1.1), .mp (mBo x1.2), .arr 1 (List.map encI ([] : List Int))]) ((rcons (by simp only [renO, ren, renL, renLL, renT, renL_app, renl_I, renl_S, renl_U8, renl_Ty, renl_Tm, renl_Carrier, renl_Decl, rowC0_ren]; try rfl) (rcons (congrArg AObj.mp (renm (f := aTy) (fun g x => by simp) _ _)) (rcons (congrArg AObj.mp (renm (f := (fun (x : Bool) => .bool x)) (fun g x => rfl) _ _)) (rcons (congrArg (AObj.arr _) (renl_I _ _)) rfl))))) ?_
   refine k5 _ _ ?_
   refine .q fun K6 k6 => rg 1 ?_
   obtain ⟨x2, hx2, h⟩ := ob h
   refine call_gen [3, 4, 5, 6] [7] [.ptr 0 0, aTm p1, .flist (List.map encDecl ([] : List Decl))] [.ptr 3 0, aTm p1, .flist (List.map encDecl ([] : List Decl))] (typing_checker_of_ok _ _ _ _ _ _ _ hx2) okF_68 rfl (.cons (by simp only [renO, ren, renL, renLL, renT, renL_app, renl_I, renl_S, renl_U8, renl_Ty, renl_Tm, renl_Carrier, renl_Decl, rowC0_ren]; try rfl) (.cons (congrArg AObj.mp (renm (f := aTy) (fun g x => by simp) _ _)) (.cons (congrArg AObj.mp (renm (f := (fun (x : Bool) => .bool x)) (fun g x => rfl) _ _)) (.cons (congrArg (AObj.arr _) (renl_I _ _)) .nil)))) (by simp; try decide) (.cons (.same _) (.cons (.same _) (.cons .nilF .nil))) (rn := .tup [aTy x2.1, .i x2.2.1]) (by simp; try decide) (Hn := [.box (.mapr 4 :: (.mapr 5 :: (rowC0 ++ (.psl 7 1 (List.length x2.2.2) :: [])))), .mp (mTy x1.1), .mp (mBo x1.2), .dead, .arr 1 (List.map encI x2.2.2)]) ((rcons (by simp only [renO, ren, renL, renLL, renT, renL_app, renl_I, renl_S, renl_U8, renl_Ty, renl_Tm, renl_Carrier, renl_Decl, rowC0_ren]; try rfl) (rcons (congrArg AObj.mp (renm (f := aTy) (fun g x => by simp) _ _)) (rcons (congrArg AObj.mp (renm (f := (fun (x : Bool) => .bool x)) (fun g x => rfl) _ _)) (rcons (rfl) (rcons (congrArg (AObj.arr _) (renl_I _ _)) rfl)))))) ?_
   refine k6 _ _ ?_
   refine .q fun K7 k7 => .q fun K8 k8 => rg 0 ?_
   refine k8 _ _ ?_
   refine .condS rfl h (fun hc2 h => ?_) (fun hc2 h => ?_)
   ·refine .q fun K9 k9 => ?_
    refine .le (t' := (u2 (.ptr 0 0 :: (.ptr 1 0 :: (.ptr 2 0 :: (.unk :: (.i x2.2.1 :: (.ptr 3 0 :: (u4 (u2 (.unk :: (.bool s1 :: (.unk :: (aEnv p0 :: (.ptr 3 0 :: (.tup [aTy x2.1, .i x2.2.1] :: (.ptr 3 0 :: (aTm p1 :: (.tup [aTy x2.1, .i x2.2.1] :: (aTy x2.1 :: (.i x2.2.1 :: (.i x2.2.1 :: (.bool (x2.2.1 != 0) :: (u8 (.unk :: []))))))))))))))))))))))))) (h' := [.box [sCa p0.carriers, sDe p0.names], .box [.i p1.op, .str p1.name, .i p1.n, .i p1.ty.kind, .str p1.ty.name, sTy p1.ty.kids, sTm p1.kids], .box [.i x2.1.kind, .str x2.1.name, sTy x2.1.kids], .box (.mapr 4 :: (.mapr 5 :: (rowC0 ++ (sIn x2.2.2 :: [])))), .mp (mTy x1.1), .mp (mBo x1.2), .dead]) (wk [some 0, some 1, some 2, some 3, some 4, some 5, some 6] (.u2 (.c rfl (.c rfl (.c rfl (.u (.c rfl (.c rfl (.u4 (.u2 (.u (.c rfl (.u (.cons (.agg' (.e renl_Carrier (.e renl_Decl .nil))) (.c rfl (.cons (.tup' (.cons (.agg' (.c rfl (.c rfl (.e renl_Ty .nil)))) (.c rfl .nil))) (.c rfl (.cons (.agg' (.c rfl (.c rfl (.c rfl (.c rfl (.c rfl (.e renl_Ty (.e renl_Tm .nil)))))))) (.cons (.tup' (.cons (.agg' (.c rfl (.c rfl (.e renl_Ty .nil)))) (.c rfl .nil))) (.cons (.agg' (.c rfl (.c rfl (.e renl_Ty .nil)))) (.c rfl (.c rfl (.c rfl (.u8 (.u .nil)))))))))))))))))))))))) (.b rfl (.e renl_Carrier (.e renl_Decl .nil)) (.b rfl (.c rfl (.c rfl (.c rfl (.c rfl (.c rfl (.e renl_Ty (.e renl_Tm .nil))))))) (.b rfl (.c rfl (.c rfl (.e renl_Ty .nil))) (.b rfl (.c rfl (.c rfl (.appC rowC0_ren (.cons (.frzP' renl_I (take_self _) rfl rfl) .nil)))) (.old .mT (.old .mB (.old (.dead _) .nil))))))) rfl) ?_
    refine rg 0 ?_
    obtain ⟨x3, hx3, h⟩ := ob h
    refine cp (slices_Clone_int_ok _ _ _ hx3) okF_69 (.cons (.same _) .nil) ?_
    refine k9 _ _ ?_
    refine .ret ?_
    have e9 := sj h
    subst e9
    refine hQ _ _ _ (retPure τ_ok (fun g => by simp) ?_)
    conv => whnf
    try rfl
   ·refine .skip ?_
    refine k7 _ _ ?_
    refine .q fun K10 k10 => rg 0 ?_
    obtain ⟨x4, hx4, h⟩ := ob h
    refine cp (typing_copyType_ok _ _ _ hx4) okF_70 (.cons (.same _) .nil) ?_
    refine k10 _ _ ?_
    refine .ret ?_
    have e9 := sj h
    subst e9
    refine hQ _ _ _ (retPure τ_ok (fun g => by simp) ?_)
    conv => whnf
    try rfl
 refine rg 0 ?_
 obtain ⟨x5, hx5, hj1⟩ := ob hj1
 refine call_pur (typing_ValidEnv_ok _ _ _ hx5) okF_55 (.cons (.same _) .nil) (fun g => by simp) (fun g => rfl) ?_
 refine onB_cond hj1 (fun hc3 hj1 => ?_) (fun hc3 hj1 => ?_)
 ·cases hj1
  exact hR1 _ _ (li (.u2 (.s (.s (.s (.u8 (.u2 (.s (.u16 (.u4 .n))))))))))
 ·obtain ⟨x6, hx6, hj1⟩ := ob hj1
  refine call_pur (term_Valid_ok _ _ _ hx6) okF_66 (.cons (.same _) .nil) (fun g => by simp) (fun g => rfl) ?_
  cases hj1
  exact hR1 _ _ (li (.u2 (.s (.s (.s (.u8 (.u2 (.s (.u16 (.u4 .n))))))))))
theorem R1_letter_ok (n : Nat) (p0 : Int) (r : Bool) (h : R1_letter n p0 = some r) : ACalls Tryz.prog 120 [.int .u8 p0] [] (.bool r) [] := by
 unfold R1_letter at h
 refine acalls_start true Tryz.func120 rfl (nt Tryz.ntmps120 rfl) fun Q hQ t ht => ?_
 conv at ht => whnf
 subst ht
 refine .q fun K1 k1 => rg 0 ?_
 refine k1 _ _ ?_
 refine .q fun K2 k2 => ?_
 obtain ⟨s1, hj1, h⟩ := ob h
 have hR1 : ∀ t9 h9, Le 0 t9 h9 (u2 (.bool s1 :: (u8 (u4 (u2 []))))) [] → K2 t9 h9 := by
  intro t9 h9 hw
  refine k2 _ _ (AW.le hw ?_)
  clear hw
  refine .ret ?_
  have e9 := sj h
  subst e9
  refine hQ _ _ _ (retPure τ_ok (fun g => rfl) ?_)
  conv => whnf
 refine rg 0 ?_
 refine onB_cond hj1 (fun hc1 hj1 => ?_) (fun hc1 hj1 => ?_)
 ·refine onB_cond hj1 (fun hc2 hj1 => ?_) (fun hc2 hj1 => ?_)
  ·cases hj1
   exact hR1 _ _ (li (.u2 (.s (.u8 (.u4 (.u2 .n))))))
  ·refine onB_cond hj1 (fun hc3 hj1 => ?_) (fun hc3 hj1 => ?_)
   ·cases hj1
    exact hR1 _ _ (li (.u2 (.s (.u8 (.u4 (.u2 .n))))))
   ·cases hj1
    exact hR1 _ _ (li (.u2 (.s (.u8 (.u4 (.u2 .n))))))
 ·refine onB_cond hj1 (fun hc4 hj1 => ?_) (fun hc4 hj1 => ?_)
  ·cases hj1
   exact hR1 _ _ (li (.u2 (.s (.u8 (.u4 (.u2 .n))))))
  ·cases hj1
   exact hR1 _ _ (li (.u2 (.s (.u8 (.u4 (.u2 .n))))))
theorem R1_In_ok (n : Nat) (p0 : Str) (p1 : List Str) (r : Bool) (h : R1_In n p0 p1 = some r) : ACalls Tryz.prog 50 [.str p0, sSt p1] [] (.bool r) [] := by
 unfold R1_In at h
 refine acalls_start true Tryz.func50 rfl (nt Tryz.ntmps50 rfl) fun Q hQ t ht => ?_
 conv at ht => whnf
 subst ht
 refine .q fun K1 k1 => rg 0 ?_
 refine k1 _ _ ?_
 refine .q fun K2 k2 => .q fun K3 k3 => rg 0 ?_
 refine k3 _ _ ?_
 refine .block ?_
 obtain ⟨o1, ho1, h⟩ := ob h
 have hR1 : ∀ s2 : Unit, o1 = .nx s2 → ∀ t9 h9, Le 0 t9 h9 (u16 (u2 [])) [] → K2 t9 h9 := by
  intro s2 ho
  subst ho
  dsimp only [LR.el] at h
  intro t9 h9 hw
  refine k2 _ _ (AW.le hw ?_)
  refine .q fun K4 k4 => rg 0 ?_
  refine k4 _ _ ?_
  refine .ret ?_
  have e9 := sj h
  subst e9
  refine hQ _ _ _ (retPure τ_ok (fun g => rfl) ?_)
  conv => whnf
 refine .loopS (R1_In_L0 n p0 p1) (fun (s1 : Int) => (.str p0 :: (sSt p1 :: (u2 (.unk :: (.i s1 :: (u8 (u4 [])))))))) (fun (s1 : Int) => []) ho1 (fun _ => rfl) (li (.s (.s (.u2 (.u (.s (.u8 (.u4 .n)))))))) ?_
 intro n1 s1 hs1 KL1 hKL1
 unfold R1_In_L0 at hs1
 refine .q fun K5 k5 => .q fun K6 k6 => rg 0 ?_
 refine len_of (l := p1) (f := encS) ?_
 refine k6 _ _ ?_
 refine .condS rfl hs1 (fun hc1 hs1 => ?_) (fun hc1 hs1 => ?_)
 ·refine .skip ?_
  refine k5 _ _ ?_
  refine .q fun K7 k7 => ?_
  refine .block ?_
  refine .q fun K8 k8 => rg 0 ?_
  obtain ⟨x1, hx1, hs1⟩ := ob hs1
  refine idx_of (l := p1) (f := encS) (cs := [.str (x1)]) hx1 (rfl) rfl ?_
  refine k8 _ _ ?_
  refine .condS rfl hs1 (fun hc2 hs1 => ?_) (fun hc2 hs1 => ?_)
  ·refine .q fun K9 k9 => rg 0 ?_
   refine k9 _ _ ?_
   refine .ret ?_
   have e9 := sj hs1
   subst e9
   dsimp only [LR.el] at h
   have e9 := sj h
   subst e9
   refine hQ _ _ _ (retPure τ_ok (fun g => rfl) ?_)
   conv => whnf
  ·refine .skip ?_
   refine k7 _ _ ?_
   refine .know 5 0 fun hv1 => ?_
   refine .know 1 0 fun hv2 => ?_
   refine rg 0 ?_
   refine ⟨(s1 + 1), by have := wf64 hv1; have := vfl hv2; have h8 := of_decide_eq_true hc1; exact w64_id (by omega) (by omega), ?_⟩
   exact hKL1 _ _ _ hs1 (li (.s (.s (.u2 (.u (.s (.u8 (.u4 .n))))))))
 ·refine .exit ?_
  exact hR1 _ (sj hs1).symm _ _ (li (.u16 (.u2 .n)))
theorem R1_Keyword_ok (n : Nat) (p0 : Str) (r : Bool) (h : R1_Keyword n p0 = some r) : ACalls Tryz.prog 121 [.str p0] [] (.bool r) [] := by
 unfold R1_Keyword at h
 refine acalls_start true Tryz.func121 rfl (nt Tryz.ntmps121 rfl) fun Q hQ t ht => ?_
 conv at ht => whnf
 subst ht
 refine .q fun K1 k1 => rg 0 ?_
 refine k1 _ _ ?_
 refine .q fun K2 k2 => rg 1 ?_
 refine ⟨List.map encS ([([116, 114, 117, 101] : Str), ([102, 97, 108, 115, 101] : Str), ([110, 111, 116] : Str), ([111, 114] : Str), ([102, 111, 114, 97, 108, 108] : Str), ([101, 120, 105, 115, 116, 115] : Str), ([105, 110] : Str), ([110, 111, 116, 105, 110] : Str), ([115, 117, 98] : Str), ([109, 111, 100] : Str), ([102, 117, 110] : Str), ([99, 97, 114, 100] : Str), ([109, 105, 110] : Str), ([109, 97, 120] : Str), ([100, 111, 109] : Str), ([114, 97, 110] : Str), ([80, 79, 87] : Str), ([105, 110, 116] : Str), ([98, 111, 111, 108] : Str), ([115, 101, 116] : Str), ([112, 97, 105, 114] : Str)]), by kernel_rfl, ?_⟩
 refine k2 _ _ ?_
 refine .q fun K3 k3 => rg 0 ?_
 obtain ⟨x1, hx1, h⟩ := ob h
 refine call_pur (R1_In_ok _ _ _ _ hx1) okF_50 (.cons (.same _) (.cons (.share _ _) .nil)) (fun g => by simp) (fun g => rfl) ?_
 refine k3 _ _ ?_
 refine .ret ?_
 have e9 := sj h
 subst e9
 refine hQ _ _ _ (retPure τ_ok (fun g => rfl) ?_)
 conv => whnf
theorem R1_digit_ok (n : Nat) (p0 : Int) (r : Bool) (h : R1_digit n p0 = some r) : ACalls Tryz.prog 122 [.int .u8 p0] [] (.bool r) [] := by
 unfold R1_digit at h
 refine acalls_start true Tryz.func122 rfl (nt Tryz.ntmps122 rfl) fun Q hQ t ht => ?_
 conv at ht => whnf
 subst ht
 refine .q fun K1 k1 => rg 0 ?_
 refine k1 _ _ ?_
 refine .q fun K2 k2 => ?_
 obtain ⟨s1, hj1, h⟩ := ob h
 have hR1 : ∀ t9 h9, Le 0 t9 h9 (u2 (.bool s1 :: (u4 (u2 [])))) [] → K2 t9 h9 := by
  intro t9 h9 hw
  refine k2 _ _ (AW.le hw ?_)
  clear hw
  refine .ret ?_
  have e9 := sj h
  subst e9
  refine hQ _ _ _ (retPure τ_ok (fun g => rfl) ?_)
  conv => whnf
 refine rg 0 ?_
 refine onB_cond hj1 (fun hc1 hj1 => ?_) (fun hc1 hj1 => ?_)
 ·cases hj1
  exact hR1 _ _ (li (.u2 (.s (.u4 (.u2 .n)))))
 ·cases hj1
  exact hR1 _ _ (li (.u2 (.s (.u4 (.u2 .n)))))
theorem R1_Identifier_ok (n : Nat) (p0 : Str) (r : Bool) (h : R1_Identifier n p0 = some r) : ACalls Tryz.prog 58 [.str p0] [] (.bool r) [] := by
 unfold R1_Identifier at h
 refine acalls_start true Tryz.func58 rfl (nt Tryz.ntmps58 rfl) fun Q hQ t ht => ?_
 conv at ht => whnf
 subst ht
 refine .q fun K1 k1 => rg 0 ?_
 refine k1 _ _ ?_
 refine .q fun K2 k2 => .q fun K3 k3 => ?_
 obtain ⟨s1, hj1, h⟩ := ob h
 have hR1 : ∀ t9 h9, Le 0 t9 h9 (.str p0 :: (u16 (u4 (.bool s1 :: (u16 (u8 [])))))) [] → K3 t9 h9 := by
  intro t9 h9 hw
  refine k3 _ _ (AW.le hw ?_)
  clear hw
  refine .condS rfl h (fun hc1 h => ?_) (fun hc1 h => ?_)
  ·refine .q fun K4 k4 => rg 0 ?_
   refine k4 _ _ ?_
   refine .ret ?_
   have e9 := sj h
   subst e9
   refine hQ _ _ _ (retPure τ_ok (fun g => rfl) ?_)
   conv => whnf
  ·refine .skip ?_
   refine k2 _ _ ?_
   refine .q fun K5 k5 => .q fun K6 k6 => rg 0 ?_
   refine k6 _ _ ?_
   refine .block ?_
   obtain ⟨o1, ho1, h⟩ := ob h
   have hR2 : ∀ s3 : Unit, o1 = .nx s3 → ∀ t9 h9, Le 0 t9 h9 (u32 (u8 (u4 (u2 [])))) [] → K5 t9 h9 := by
    intro s3 ho
    subst ho
    dsimp only [LR.el] at h
    intro t9 h9 hw
    refine k5 _ _ (AW.le hw ?_)
    refine .q fun K7 k7 => rg 0 ?_
    refine k7 _ _ ?_
    refine .ret ?_
    have e9 := sj h
    subst e9
    refine hQ _ _ _ (retPure τ_ok (fun g => rfl) ?_)
    conv => whnf
   refine .loopS (R1_Identifier_L0 n p0) (fun (s2 : Int) => (.str p0 :: (u2 (.i s2 :: (u32 (u8 (u2 []))))))) (fun (s2 : Int) => []) ho1 (fun _ => rfl) (li (.s (.u2 (.s (.u16 (.u16 (.u8 (.u2 .n)))))))) ?_
   intro n1 s2 hs1 KL1 hKL1
   unfold R1_Identifier_L0 at hs1
   refine .q fun K8 k8 => .q fun K9 k9 => rg 0 ?_
   refine k9 _ _ ?_
   refine .condS rfl hs1 (fun hc2 hs1 => ?_) (fun hc2 hs1 => ?_)
   ·refine .skip ?_
    refine k8 _ _ ?_
    refine .q fun K10 k10 => ?_
    refine .block ?_
    refine .q fun K11 k11 => ?_
    obtain ⟨s4, hj2, hs1⟩ := ob hs1
    have hR3 : ∀ t9 h9, Le 0 t9 h9 (.str p0 :: (u2 (.i s2 :: (u32 (u8 (.unk :: (.bool s4 :: []))))))) [] → K11 t9 h9 := by
     intro t9 h9 hw
     refine k11 _ _ (AW.le hw ?_)
     clear hw
     refine .condS rfl hs1 (fun hc3 hs1 => ?_) (fun hc3 hs1 => ?_)
     ·refine .q fun K12 k12 => rg 0 ?_
      refine k12 _ _ ?_
      refine .ret ?_
      have e9 := sj hs1
      subst e9
      dsimp only [LR.el] at h
      have e9 := sj h
      subst e9
      refine hQ _ _ _ (retPure τ_ok (fun g => rfl) ?_)
      conv => whnf
     ·refine .skip ?_
      refine k10 _ _ ?_
      refine .know 3 0 fun hv1 => ?_
      refine .know 0 0 fun hv2 => ?_
      refine rg 0 ?_
      refine ⟨(s2 + 1), by have := wf64 hv1; have := vfs hv2; have h8 := of_decide_eq_true hc2; exact w64_id (by omega) (by omega), ?_⟩
      exact hKL1 _ _ _ hs1 (li (.s (.u2 (.s (.u16 (.u16 (.u8 (.u2 .n))))))))
    refine rg 0 ?_
    obtain ⟨x1, hx1, hj2⟩ := ob hj2
    refine sidx_of hx1 ?_
    obtain ⟨x2, hx2, hj2⟩ := ob hj2
    refine call_pur (R1_letter_ok _ _ _ hx2) okF_120 (.cons (.same _) .nil) (fun g => rfl) (fun g => rfl) ?_
    refine onB_cond hj2 (fun hc4 hj2 => ?_) (fun hc4 hj2 => ?_)
    ·obtain ⟨x3, hx3, hj2⟩ := ob hj2
     refine sidx_of hx3 ?_
     obtain ⟨x4, hx4, hj2⟩ := ob hj2
     refine call_pur (R1_digit_ok _ _ _ hx4) okF_122 (.cons (.same _) .nil) (fun g => rfl) (fun g => rfl) ?_
     refine onB_cond hj2 (fun hc5 hj2 => ?_) (fun hc5 hj2 => ?_)
     ·obtain ⟨x5, hx5, hj2⟩ := ob hj2
      refine sidx_of hx5 ?_
      cases hj2
      exact hR3 _ _ (li (.s (.u2 (.s (.u16 (.u16 (.u8 (.u (.s .n)))))))))
     ·cases hj2
      exact hR3 _ _ (li (.s (.u2 (.s (.u16 (.u16 (.u8 (.u (.s .n)))))))))
    ·cases hj2
     exact hR3 _ _ (li (.s (.u2 (.s (.u16 (.u16 (.u8 (.u (.s .n)))))))))
   ·refine .exit ?_
    exact hR2 _ (sj hs1).symm _ _ (li (.u16 (.u16 (.u8 (.u4 (.u2 .n))))))
 refine rg 0 ?_
 refine onB_cond hj1 (fun hc6 hj1 => ?_) (fun hc6 hj1 => ?_)
 ·cases hj1
  exact hR1 _ _ (li (.s (.u16 (.u4 (.s (.u16 (.u8 .n)))))))
 ·refine onB_cond hj1 (fun hc7 hj1 => ?_) (fun hc7 hj1 => ?_)
  ·cases hj1
   exact hR1 _ _ (li (.s (.u16 (.u4 (.s (.u16 (.u8 .n)))))))
  ·obtain ⟨x6, hx6, hj1⟩ := ob hj1
   refine sidx_of hx6 ?_
   obtain ⟨x7, hx7, hj1⟩ := ob hj1
   refine call_pur (R1_letter_ok _ _ _ hx7) okF_120 (.cons (.same _) .nil) (fun g => rfl) (fun g => rfl) ?_
   refine onB_cond hj1 (fun hc8 hj1 => ?_) (fun hc8 hj1 => ?_)
   ·cases hj1
    exact hR1 _ _ (li (.s (.u16 (.u4 (.s (.u16 (.u8 .n)))))))
   ·obtain ⟨x8, hx8, hj1⟩ := ob hj1
    refine call_pur (R1_Keyword_ok _ _ _ hx8) okF_121 (.cons (.same _) .nil) (fun g => rfl) (fun g => rfl) ?_
    cases hj1
    exact hR1 _ _ (li (.s (.u16 (.u4 (.s (.u16 (.u8 .n)))))))
theorem R1_Primed_ok (n : Nat) (p0 : Str) (r : Bool) (h : R1_Primed n p0 = some r) : ACalls Tryz.prog 190 [.str p0] [] (.bool r) [] := by
 unfold R1_Primed at h
 refine acalls_start true Tryz.func190 rfl (nt Tryz.ntmps190 rfl) fun Q hQ t ht => ?_
 conv at ht => whnf
 subst ht
 refine .q fun K1 k1 => rg 0 ?_
 refine k1 _ _ ?_
 refine .q fun K2 k2 => ?_
 obtain ⟨s1, hj1, h⟩ := ob h
 have hR1 : ∀ t9 h9, Le 0 t9 h9 (u2 (.bool s1 :: (u16 (u2 (.unk :: []))))) [] → K2 t9 h9 := by
  intro t9 h9 hw
  refine k2 _ _ (AW.le hw ?_)
  clear hw
  refine .ret ?_
  have e9 := sj h
  subst e9
  refine hQ _ _ _ (retPure τ_ok (fun g => rfl) ?_)
  conv => whnf
 refine .know 0 0 fun hv1 => ?_
 refine rg 0 ?_
 refine onB_cond hj1 (fun hc1 hj1 => ?_) (fun hc1 hj1 => ?_)
 ·refine ⟨((p0.length : Int) - 1), by have := vfs hv1; exact w64_id (by omega) (by omega), ?_⟩
  obtain ⟨x1, hx1, hj1⟩ := ob hj1
  refine sidx_of hx1 ?_
  refine onB_cond hj1 (fun hc2 hj1 => ?_) (fun hc2 hj1 => ?_)
  ·refine ⟨((p0.length : Int) - 1), by have := vfs hv1; exact w64_id (by omega) (by omega), ?_⟩
   obtain ⟨x2, hx2, hj1⟩ := ob hj1
   refine cut_s hx2 (.none _) (.int _ _ _) ?_
   obtain ⟨x3, hx3, hj1⟩ := ob hj1
   refine call_pur (R1_Identifier_ok _ _ _ hx3) okF_58 (.cons (.same _) .nil) (fun g => rfl) (fun g => rfl) ?_
   cases hj1
   exact hR1 _ _ (li (.u2 (.s (.u16 (.u2 (.u .n))))))
  ·cases hj1
   exact hR1 _ _ (li (.u2 (.s (.u16 (.u2 (.u .n))))))
 ·cases hj1
  exact hR1 _ _ (li (.u2 (.s (.u16 (.u2 (.u .n))))))
end Abs
end Go.Proofs.YtiiaccpcoclklaaGreat
