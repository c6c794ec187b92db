/-
  Plain functions and the contracts of Go functions by them (printed by gen.py). Conditions: none.
-/
import Derived.KernelRfl
import Derived.Test.YtiiaccpcoclklaaGreatCData2x772da3
import Derived.Test.YtiiaccpcoclklaaGreatCDfxef68f6
import Derived.Test.YtiiaccpcoclklaaGreatCTDx68fdcf
import Derived.Test.YtiiaccpcoclklaaGreatCT1xa5fb9e
import Derived.Test.YtiiaccpcoclklaaGreatCT3xd04784
import Derived.Test.YtiiaccpcoclklaaGreatCT4x156658
import Derived.Test.YtiiaccpcoclklaaGreatCT5xc4705b
import Derived.Test.YtiiaccpcoclklaaGreatCT6x78208b
import Derived.Test.YtiiaccpcoclklaaGreatCT8x61dacb
import Derived.Test.YtiiaccpcoclklaaGreatCT9xc6bee6
import Derived.Test.YtiiaccpcoclklaaGreatCT15xe543cf
import Derived.Test.YtiiaccpcoclklaaGreatCAwxaffe0d
set_option linter.unusedSimpArgs false
set_option linter.unusedVariables false
namespace Go.Proofs.YtiiaccpcoclklaaGreat
namespace Abs
open Go Go.Proofs
set_option maxRecDepth 100000
set_option maxHeartbeats 40000000
abbrev typing_copyType_S (rec_typing_copyType : Ty → Option Ty) : Prop := ∀ (p0 : Ty) (r : Ty), rec_typing_copyType p0 = some r → ACalls Tryz.prog 70 [aTy p0] [] (aTy r) []
theorem typing_copyType_body_ok (n : Nat) (rec_typing_copyType : Ty → Option Ty) (hrec_typing_copyType : typing_copyType_S rec_typing_copyType) (p0 : Ty) (r : Ty) (h : typing_copyType_body n rec_typing_copyType p0 = some r) : ACalls Tryz.prog 70 [aTy p0] [] (aTy r) [] := by
 unfold typing_copyType_body at h
 refine acalls_start true Tryz.func70 rfl (nt Tryz.ntmps70 rfl) fun Q hQ t ht => ?_
 conv at ht => whnf
 subst ht
 refine .q fun K1 k1 => rg 2 ?_
 refine k1 _ _ ?_
 refine .q fun K2 k2 => rg 1 ?_
 refine k2 _ _ ?_
 refine .q fun K3 k3 => .q fun K4 k4 => rg 0 ?_
 refine len_of (l := p0.kids) (f := encTy) ?_
 refine k4 _ _ ?_
 refine .block ?_
 obtain ⟨o1, ho1, h⟩ := ob h
 have hR1 : ∀ s2 : List Ty, o1 = .nx s2 → ∀ t9 h9, Le 0 t9 h9 (u2 (.ptr 0 0 :: (.ptr 1 0 :: (u16 (u4 (u2 (.unk :: []))))))) [.box [.i 0, .str ([] : Str), .slice (List.map encTy ([] : List Ty)) .nils], .box [.i p0.kind, .str p0.name, .slice (List.map encTy s2) (.tip 2 3)], .tip (List.length s2 * 3)] → K3 t9 h9 := by
  intro s2 ho
  subst ho
  dsimp only [LR.el] at h
  intro t9 h9 hw
  refine k3 _ _ (AW.le hw ?_)
  refine .q fun K5 k5 => rg 0 ?_
  refine k5 _ _ ?_
  refine .ret ?_
  have e9 := sj h
  subst e9
  refine hQ _ _ _ (retPure τ_ok (fun g => by simp) ?_)
  conv => whnf
  try rfl
 refine .loopS (typing_copyType_L0 n rec_typing_copyType p0) (fun (s1 : Int × (List Ty)) => (u2 (.ptr 0 0 :: (.ptr 1 0 :: (u8 (sTy p0.kids :: (.i (p0.kids.length : Int) :: (.i s1.1 :: (u8 (u4 [])))))))))) (fun (s1 : Int × (List Ty)) => [.box [.i 0, .str ([] : Str), .slice (List.map encTy ([] : List Ty)) .nils], .box [.i p0.kind, .str p0.name, .slice (List.map encTy s1.2) (.tip 2 3)], .tip (List.length s1.2 * 3)]) ho1 (fun _ => rfl) (wk [some 1, some 2, none] (.u2 (.c rfl (.c rfl (.u8 (.e renl_Ty (.c rfl (.c rfl (.u8 (.u4 .nil))))))))) (.b rfl (.c rfl (.c rfl (.c rfl .nil))) (.b rfl (.c rfl (.c rfl (.cons (.nils _ _) .nil))) (.w rfl .nil))) rfl) ?_
 intro n1 s1 hs1 KL1 hKL1
 unfold typing_copyType_L0 at hs1
 refine .q fun K6 k6 => rg 0 ?_
 refine k6 _ _ ?_
 refine .q fun K7 k7 => ?_
 refine .condS rfl hs1 (fun hc1 hs1 => ?_) (fun hc1 hs1 => ?_)
 ·refine .skip ?_
  refine k7 _ _ ?_
  refine .q fun K8 k8 => ?_
  refine .block ?_
  refine .q fun K9 k9 => rg 1 ?_
  obtain ⟨x1, hx1, hs1⟩ := ob hs1
  refine idx_of (l := p0.kids) (f := encTy) (cs := [.i ((x1).kind), .str ((x1).name), sTy ((x1).kids)]) hx1 (encTy_eq x1) rfl ?_
  refine k9 _ _ ?_
  refine rg 2 ?_
  obtain ⟨x2, hx2, hs1⟩ := ob hs1
  refine cp (hrec_typing_copyType _ _ hx2) okF_70 (.cons (.same _) .nil) ?_
  refine ⟨List.map encTy ([x2]), by simp only [List.map_cons, List.map_nil, encTy_eq]; rfl, ?_⟩
  obtain ⟨x3, hx3, hs1⟩ := ob hs1
  refine app_tip (l := s1.2) (ys := [x2]) (f := encTy) hx3 ok_Ty rfl rfl rfl ?_
  refine ⟨rfl, ?_⟩
  refine k8 _ _ ?_
  refine .know 14 0 fun hv1 => ?_
  refine .know 12 0 fun hv2 => ?_
  refine rg 0 ?_
  refine ⟨(s1.1 + 1), by have := wf64 hv1; have := vfl hv2; have h8 := of_decide_eq_true hc1; exact w64_id (by omega) (by omega), ?_⟩
  exact hKL1 _ _ _ hs1 (wk [some 0, some 1, some 5] (.u2 (.c rfl (.c rfl (.u8 (.e renl_Ty (.c rfl (.c rfl (.u8 (.u4 .nil))))))))) (.b rfl (.c rfl (.c rfl (.c rfl .nil))) (.b rfl (.c rfl (.c rfl (.cons (.tipS (renl_Ty _ _) rfl) .nil))) (.t rfl .nil))) rfl)
 ·refine .exit ?_
  exact hR1 _ (sj hs1).symm _ _ (li (.u2 (.s (.s (.u16 (.u4 (.u2 (.u .n))))))))
theorem typing_copyType_all (n : Nat) : typing_copyType_S (typing_copyType n) := by
 induction n with
 | zero => exact (fun p0 r h => by unfold typing_copyType at h; cases h)
 | succ n ih =>
  exact (fun p0 r h => typing_copyType_body_ok n _ ih p0 r (by unfold typing_copyType at h; exact h))
theorem typing_copyType_ok (n : Nat) : typing_copyType_S (typing_copyType n) := (typing_copyType_all n)
theorem typing_TypeOf_ok (n : Nat) (p0 : Env) (p1 : Tm) (r : Ty × (List Int) × Int) (h : typing_TypeOf n p0 p1 = some r) : ACalls Tryz.prog 18 [aEnv p0, aTm p1] [] (.tup [aTy r.1, sIn r.2.1, .i r.2.2]) [] := by
 unfold typing_TypeOf at h
 refine acalls_start true Tryz.func18 rfl (nt Tryz.ntmps18 rfl) fun Q hQ t ht => ?_
 conv at ht => whnf
 subst ht
 refine .q fun K1 k1 => rg 3 ?_
 refine k1 _ _ ?_
 refine .q fun K2 k2 => .q fun K3 k3 => ?_
 obtain ⟨s1, hj1, h⟩ := ob h
 have hR1 : ∀ t9 h9, Le 0 t9 h9 (u2 (.ptr 0 0 :: (.ptr 1 0 :: (.ptr 2 0 :: (u8 (u2 (.bool s1 :: (u16 (u4 []))))))))) [.box [sCa p0.carriers, sDe p0.names], .box [.i p1.op, .str p1.name, .i p1.n, .i p1.ty.kind, .str p1.ty.name, sTy p1.ty.kids, sTm p1.kids], .box [.i 0, .str ([] : Str), .slice (List.map encTy ([] : List Ty)) .nils]] → K3 t9 h9 := by
  intro t9 h9 hw
  refine k3 _ _ (AW.le hw ?_)
  clear hw
  refine .condS rfl h (fun hc1 h => ?_) (fun hc1 h => ?_)
  ·refine .q fun K4 k4 => rg 0 ?_
   refine k4 _ _ ?_
   refine .ret ?_
   have e9 := sj h
   subst e9
   refine hQ _ _ _ (retPure τ_ok (fun g => by simp) ?_)
   conv => whnf
   try rfl
  ·refine .skip ?_
   refine k2 _ _ ?_
   refine .q fun K5 k5 => rg 4 ?_
   obtain ⟨x1, hx1, h⟩ := ob h
   refine call_gen [] [3, 4, 5, 6] [aEnv p0] [aEnv p0] (typing_newChecker_ok _ _ _ hx1) okF_67 rfl .nil (by simp; try decide) (.cons (.same _) .nil) (rn := .ptr 3 0) (rfl) (Hn := [.box (.mapr 4 :: (.mapr 5 :: (rowC0 ++ (.psl 6 1 (List.length ([] : List Int)) :: [])))), .mp (mTy x1.1), .mp (mBo x1.2), .arr 1 (List.map encI ([] : List Int))]) ((rcons (by simp only [renO, ren, renL, renLL, renT, renL_app, renl_I, renl_S, renl_U8, renl_Ty, renl_Tm, renl_Carrier, renl_Decl, rowC0_ren]; try rfl) (rcons (congrArg AObj.mp (renm (f := aTy) (fun g x => by simp) _ _)) (rcons (congrArg AObj.mp (renm (f := (fun (x : Bool) => .bool x)) (fun g x => rfl) _ _)) (rcons (congrArg (AObj.arr _) (renl_I _ _)) rfl))))) ?_
   refine k5 _ _ ?_
   refine .q fun K6 k6 => rg 1 ?_
   obtain ⟨x2, hx2, h⟩ := ob h
   refine call_gen [3, 4, 5, 6] [7] [.ptr 0 0, aTm p1, .flist (List.map encDecl ([] : List Decl))] [.ptr 3 0, aTm p1, .flist (List.map encDecl ([] : List Decl))] (typing_checker_of_ok _ _ _ _ _ _ _ hx2) okF_68 rfl (.cons (by simp only [renO, ren, renL, renLL, renT, renL_app, renl_I, renl_S, renl_U8, renl_Ty, renl_Tm, renl_Carrier, renl_Decl, rowC0_ren]; try rfl) (.cons (congrArg AObj.mp (renm (f := aTy) (fun g x => by simp) _ _)) (.cons (congrArg AObj.mp (renm (f := (fun (x : Bool) => .bool x)) (fun g x => rfl) _ _)) (.cons (congrArg (AObj.arr _) (renl_I _ _)) .nil)))) (by simp; try decide) (.cons (.same _) (.cons (.same _) (.cons .nilF .nil))) (rn := .tup [aTy x2.1, .i x2.2.1]) (by simp; try decide) (Hn := [.box (.mapr 4 :: (.mapr 5 :: (rowC0 ++ (.psl 7 1 (List.length x2.2.2) :: [])))), .mp (mTy x1.1), .mp (mBo x1.2), .dead, .arr 1 (List.map encI x2.2.2)]) ((rcons (by simp only [renO, ren, renL, renLL, renT, renL_app, renl_I, renl_S, renl_U8, renl_Ty, renl_Tm, renl_Carrier, renl_Decl, rowC0_ren]; try rfl) (rcons (congrArg AObj.mp (renm (f := aTy) (fun g x => by simp) _ _)) (rcons (congrArg AObj.mp (renm (f := (fun (x : Bool) => .bool x)) (fun g x => rfl) _ _)) (rcons (rfl) (rcons (congrArg (AObj.arr _) (renl_I _ _)) rfl)))))) ?_
   refine k6 _ _ ?_
   refine .q fun K7 k7 => .q fun K8 k8 => rg 0 ?_
   refine k8 _ _ ?_
   refine .condS rfl h (fun hc2 h => ?_) (fun hc2 h => ?_)
   ·refine .q fun K9 k9 => ?_
    refine .le (t' := (u2 (.ptr 0 0 :: (.ptr 1 0 :: (.ptr 2 0 :: (.unk :: (.i x2.2.1 :: (.ptr 3 0 :: (u4 (u2 (.unk :: (.bool s1 :: (.unk :: (aEnv p0 :: (.ptr 3 0 :: (.tup [aTy x2.1, .i x2.2.1] :: (.ptr 3 0 :: (aTm p1 :: (.tup [aTy x2.1, .i x2.2.1] :: (aTy x2.1 :: (.i x2.2.1 :: (.i x2.2.1 :: (.bool (x2.2.1 != 0) :: (u8 (.unk :: []))))))))))))))))))))))))) (h' := [.box [sCa p0.carriers, sDe p0.names], .box [.i p1.op, .str p1.name, .i p1.n, .i p1.ty.kind, .str p1.ty.name, sTy p1.ty.kids, sTm p1.kids], .box [.i x2.1.kind, .str x2.1.name, sTy x2.1.kids], .box (.mapr 4 :: (.mapr 5 :: (rowC0 ++ (sIn x2.2.2 :: [])))), .mp (mTy x1.1), .mp (mBo x1.2), .dead]) (wk [some 0, some 1, some 2, some 3, some 4, some 5, some 6] (.u2 (.c rfl (.c rfl (.c rfl (.u (.c rfl (.c rfl (.u4 (.u2 (.u (.c rfl (.u (.cons (.agg' (.e renl_Carrier (.e renl_Decl .nil))) (.c rfl (.cons (.tup' (.cons (.agg' (.c rfl (.c rfl (.e renl_Ty .nil)))) (.c rfl .nil))) (.c rfl (.cons (.agg' (.c rfl (.c rfl (.c rfl (.c rfl (.c rfl (.e renl_Ty (.e renl_Tm .nil)))))))) (.cons (.tup' (.cons (.agg' (.c rfl (.c rfl (.e renl_Ty .nil)))) (.c rfl .nil))) (.cons (.agg' (.c rfl (.c rfl (.e renl_Ty .nil)))) (.c rfl (.c rfl (.c rfl (.u8 (.u .nil)))))))))))))))))))))))) (.b rfl (.e renl_Carrier (.e renl_Decl .nil)) (.b rfl (.c rfl (.c rfl (.c rfl (.c rfl (.c rfl (.e renl_Ty (.e renl_Tm .nil))))))) (.b rfl (.c rfl (.c rfl (.e renl_Ty .nil))) (.b rfl (.c rfl (.c rfl (.appC rowC0_ren (.cons (.frzP' renl_I (take_self _) rfl rfl) .nil)))) (.old .mT (.old .mB (.old (.dead _) .nil))))))) rfl) ?_
    refine rg 0 ?_
    obtain ⟨x3, hx3, h⟩ := ob h
    refine cp (slices_Clone_int_ok _ _ _ hx3) okF_69 (.cons (.same _) .nil) ?_
    refine k9 _ _ ?_
    refine .ret ?_
    have e9 := sj h
    subst e9
    refine hQ _ _ _ (retPure τ_ok (fun g => by simp) ?_)
    conv => whnf
    try rfl
   ·refine .skip ?_
    refine k7 _ _ ?_
    refine .q fun K10 k10 => rg 0 ?_
    obtain ⟨x4, hx4, h⟩ := ob h
    refine cp (typing_copyType_ok _ _ _ hx4) okF_70 (.cons (.same _) .nil) ?_
    refine k10 _ _ ?_
    refine .ret ?_
    have e9 := sj h
    subst e9
    refine hQ _ _ _ (retPure τ_ok (fun g => by simp) ?_)
    conv => whnf
    try rfl
 refine rg 0 ?_
 obtain ⟨x5, hx5, hj1⟩ := ob hj1
 refine call_pur (typing_ValidEnv_ok _ _ _ hx5) okF_55 (.cons (.same _) .nil) (fun g => by simp) (fun g => rfl) ?_
 refine onB_cond hj1 (fun hc3 hj1 => ?_) (fun hc3 hj1 => ?_)
 ·cases hj1
  exact hR1 _ _ (li (.u2 (.s (.s (.s (.u8 (.u2 (.s (.u16 (.u4 .n))))))))))
 ·obtain ⟨x6, hx6, hj1⟩ := ob hj1
  refine call_pur (term_Valid_ok _ _ _ hx6) okF_66 (.cons (.same _) .nil) (fun g => by simp) (fun g => rfl) ?_
  cases hj1
  exact hR1 _ _ (li (.u2 (.s (.s (.s (.u8 (.u2 (.s (.u16 (.u4 .n))))))))))
end Abs
end Go.Proofs.YtiiaccpcoclklaaGreat
namespace Go.Proofs.YtiiaccpcoclklaaGreat
namespace Abs
open Go Go.Proofs
set_option maxRecDepth 100000
set_option maxHeartbeats 40000000
end Abs
end Go.Proofs.YtiiaccpcoclklaaGreat
namespace Go.Proofs.YtiiaccpcoclklaaGreat
namespace Abs
open Go Go.Proofs
set_option maxRecDepth 100000
set_option maxHeartbeats 40000000
end Abs
end Go.Proofs.YtiiaccpcoclklaaGreat
namespace Go.Proofs.YtiiaccpcoclklaaGreat
namespace Abs
open Go Go.Proofs
set_option maxRecDepth 100000
set_option maxHeartbeats 40000000
end Abs
end Go.Proofs.YtiiaccpcoclklaaGreat
namespace Go.Proofs.YtiiaccpcoclklaaGreat
namespace Abs
open Go Go.Proofs
set_option maxRecDepth 100000
set_option maxHeartbeats 40000000
abbrev R1_SameType_S (rec_R1_SameType : Ty → Ty → Option Bool) : Prop := ∀ (p0 : Ty) (p1 : Ty) (r : Bool), rec_R1_SameType p0 p1 = some r → ACalls Tryz.prog 20 [aTy p0, aTy p1] [] (.bool r) []
theorem R1_SameType_body_ok (n : Nat) (rec_R1_SameType : Ty → Ty → Option Bool) (hrec_R1_SameType : R1_SameType_S rec_R1_SameType) (p0 : Ty) (p1 : Ty) (r : Bool) (h : R1_SameType_body n rec_R1_SameType p0 p1 = some r) : ACalls Tryz.prog 20 [aTy p0, aTy p1] [] (.bool r) [] := by
 unfold R1_SameType_body at h
 refine acalls_start true Tryz.func20 rfl (nt Tryz.ntmps20 rfl) fun Q hQ t ht => ?_
 conv at ht => whnf
 subst ht
 refine .q fun K1 k1 => rg 2 ?_
 refine k1 _ _ ?_
 refine .q fun K2 k2 => .q fun K3 k3 => ?_
 obtain ⟨s1, hj1, h⟩ := ob h
 have hR1 : ∀ t9 h9, Le 0 t9 h9 (u2 (.ptr 0 0 :: (.ptr 1 0 :: (u16 (u4 (u2 (.bool s1 :: (u16 (u2 (.unk :: [])))))))))) [.box [.i p0.kind, .str p0.name, sTy p0.kids], .box [.i p1.kind, .str p1.name, sTy p1.kids]] → K3 t9 h9 := by
  intro t9 h9 hw
  refine k3 _ _ (AW.le hw ?_)
  clear hw
  refine .condS rfl h (fun hc1 h => ?_) (fun hc1 h => ?_)
  ·refine .q fun K4 k4 => rg 0 ?_
   refine k4 _ _ ?_
   refine .ret ?_
   have e9 := sj h
   subst e9
   refine hQ _ _ _ (retPure τ_ok (fun g => rfl) ?_)
   conv => whnf
  ·refine .skip ?_
   refine k2 _ _ ?_
   refine .q fun K5 k5 => .q fun K6 k6 => rg 0 ?_
   refine k6 _ _ ?_
   refine .block ?_
   obtain ⟨o1, ho1, h⟩ := ob h
   have hR2 : ∀ s3 : Unit, o1 = .nx s3 → ∀ t9 h9, Le 0 t9 h9 (u32 (u8 (u4 (u2 [])))) [] → K5 t9 h9 := by
    intro s3 ho
    subst ho
    dsimp only [LR.el] at h
    intro t9 h9 hw
    refine k5 _ _ (AW.le hw ?_)
    refine .q fun K7 k7 => rg 0 ?_
    refine k7 _ _ ?_
    refine .ret ?_
    have e9 := sj h
    subst e9
    refine hQ _ _ _ (retPure τ_ok (fun g => rfl) ?_)
    conv => whnf
   refine .loopS (R1_SameType_L0 n rec_R1_SameType p0 p1) (fun (s2 : Int) => (u2 (.ptr 0 0 :: (.ptr 1 0 :: (.unk :: (.i s2 :: (u32 (u8 [])))))))) (fun (s2 : Int) => [.box [.i p0.kind, .str p0.name, sTy p0.kids], .box [.i p1.kind, .str p1.name, sTy p1.kids]]) ho1 (fun _ => rfl) (li (.u2 (.s (.s (.u (.s (.u16 (.u16 (.u8 .n))))))))) ?_
   intro n1 s2 hs1 KL1 hKL1
   unfold R1_SameType_L0 at hs1
   refine .q fun K8 k8 => .q fun K9 k9 => rg 0 ?_
   refine len_of (l := p0.kids) (f := encTy) ?_
   refine k9 _ _ ?_
   refine .condS rfl hs1 (fun hc2 hs1 => ?_) (fun hc2 hs1 => ?_)
   ·refine .skip ?_
    refine k8 _ _ ?_
    refine .q fun K10 k10 => ?_
    refine .block ?_
    refine .q fun K11 k11 => rg 0 ?_
    obtain ⟨x1, hx1, hs1⟩ := ob hs1
    refine idx_of (l := p0.kids) (f := encTy) (cs := [.i ((x1).kind), .str ((x1).name), sTy ((x1).kids)]) hx1 (encTy_eq x1) rfl ?_
    obtain ⟨x2, hx2, hs1⟩ := ob hs1
    refine idx_of (l := p1.kids) (f := encTy) (cs := [.i ((x2).kind), .str ((x2).name), sTy ((x2).kids)]) hx2 (encTy_eq x2) rfl ?_
    obtain ⟨x3, hx3, hs1⟩ := ob hs1
    refine call_pur (hrec_R1_SameType _ _ _ hx3) okF_20 (.cons (.same _) (.cons (.same _) .nil)) (fun g => by simp) (fun g => rfl) ?_
    refine ⟨rfl, ?_⟩
    refine k11 _ _ ?_
    refine .condS rfl hs1 (fun hc3 hs1 => ?_) (fun hc3 hs1 => ?_)
    ·refine .q fun K12 k12 => rg 0 ?_
     refine k12 _ _ ?_
     refine .ret ?_
     have e9 := sj hs1
     subst e9
     dsimp only [LR.el] at h
     have e9 := sj h
     subst e9
     refine hQ _ _ _ (retPure τ_ok (fun g => rfl) ?_)
     conv => whnf
    ·refine .skip ?_
     refine k10 _ _ ?_
     refine .know 5 0 fun hv1 => ?_
     refine .know 29 0 fun hv2 => ?_
     refine rg 0 ?_
     refine ⟨(s2 + 1), by have := wf64 hv1; have := vfl hv2; have h8 := of_decide_eq_true hc2; exact w64_id (by omega) (by omega), ?_⟩
     exact hKL1 _ _ _ hs1 (li (.u2 (.s (.s (.u (.s (.u16 (.u16 (.u8 .n)))))))))
   ·refine .exit ?_
    exact hR2 _ (sj hs1).symm _ _ (wk [] (.u32 (.u8 (.u4 (.u2 .nil)))) .nil rfl)
 refine rg 0 ?_
 refine onB_cond hj1 (fun hc4 hj1 => ?_) (fun hc4 hj1 => ?_)
 ·cases hj1
  exact hR1 _ _ (li (.u2 (.s (.s (.u16 (.u4 (.u2 (.s (.u16 (.u2 (.u .n)))))))))))
 ·refine onB_cond hj1 (fun hc5 hj1 => ?_) (fun hc5 hj1 => ?_)
  ·cases hj1
   exact hR1 _ _ (li (.u2 (.s (.s (.u16 (.u4 (.u2 (.s (.u16 (.u2 (.u .n)))))))))))
  ·refine len_of (l := p0.kids) (f := encTy) ?_
   refine len_of (l := p1.kids) (f := encTy) ?_
   cases hj1
   exact hR1 _ _ (li (.u2 (.s (.s (.u16 (.u4 (.u2 (.s (.u16 (.u2 (.u .n)))))))))))
theorem R1_SameType_all (n : Nat) : R1_SameType_S (R1_SameType n) := by
 induction n with
 | zero => exact (fun p0 p1 r h => by unfold R1_SameType at h; cases h)
 | succ n ih =>
  exact (fun p0 p1 r h => R1_SameType_body_ok n _ ih p0 p1 r (by unfold R1_SameType at h; exact h))
theorem R1_SameType_ok (n : Nat) : R1_SameType_S (R1_SameType n) := (R1_SameType_all n)
end Abs
end Go.Proofs.YtiiaccpcoclklaaGreat
namespace Go.Proofs.YtiiaccpcoclklaaGreat
namespace Abs
open Go Go.Proofs
set_option maxRecDepth 100000
set_option maxHeartbeats 40000000
end Abs
end Go.Proofs.YtiiaccpcoclklaaGreat
namespace Go.Proofs.YtiiaccpcoclklaaGreat
namespace Abs
open Go Go.Proofs
set_option maxRecDepth 100000
set_option maxHeartbeats 40000000
end Abs
end Go.Proofs.YtiiaccpcoclklaaGreat
namespace Go.Proofs.YtiiaccpcoclklaaGreat
namespace Abs
open Go Go.Proofs
set_option maxRecDepth 100000
set_option maxHeartbeats 40000000
end Abs
end Go.Proofs.YtiiaccpcoclklaaGreat
namespace Go.Proofs.YtiiaccpcoclklaaGreat
namespace Abs
open Go Go.Proofs
set_option maxRecDepth 100000
set_option maxHeartbeats 40000000
end Abs
end Go.Proofs.YtiiaccpcoclklaaGreat
namespace Go.Proofs.YtiiaccpcoclklaaGreat
namespace Abs
open Go Go.Proofs
set_option maxRecDepth 100000
set_option maxHeartbeats 40000000
end Abs
end Go.Proofs.YtiiaccpcoclklaaGreat
namespace Go.Proofs.YtiiaccpcoclklaaGreat
namespace Abs
open Go Go.Proofs
set_option maxRecDepth 100000
set_option maxHeartbeats 40000000
theorem typing_copyEnv_ok (n : Nat) (p0 : Env) (r : (List Carrier) × (List Decl)) (h : typing_copyEnv n p0 = some r) : ACalls Tryz.prog 115 [aEnv p0] [] (.agg [.slice (List.map encCarrier r.1) (.tip 0 2), .slice (List.map encDecl r.2) (.tip 1 4)]) [.tip (List.length r.1 * 2), .tip (List.length r.2 * 4)] := by
 unfold typing_copyEnv at h
 refine acalls_start false Tryz.func115 rfl (nt Tryz.ntmps115 rfl) fun Q hQ t ht => ?_
 conv at ht => whnf
 subst ht
 refine .q fun K1 k1 => rg 2 ?_
 refine k1 _ _ ?_
 refine .q fun K2 k2 => rg 1 ?_
 refine k2 _ _ ?_
 refine .q fun K3 k3 => .q fun K4 k4 => rg 0 ?_
 refine len_of (l := p0.carriers) (f := encCarrier) ?_
 refine k4 _ _ ?_
 refine .block ?_
 obtain ⟨o1, ho1, h⟩ := ob h
 have hR1 : ∀ s2 : List Carrier, o1 = .nx s2 → ∀ t9 h9, Le 0 t9 h9 (.unk :: (.ptr 0 0 :: (.ptr 1 0 :: (.ptr 2 0 :: (u32 (u8 (u2 (.unk :: [])))))))) [.box [sCa p0.carriers, sDe p0.names], .box [.slice (List.map encCarrier ([] : List Carrier)) .nils, .slice (List.map encDecl ([] : List Decl)) .nils], .box [.slice (List.map encCarrier s2) (.tip 3 2), .slice (List.map encDecl ([] : List Decl)) .nils], .tip (List.length s2 * 2)] → K3 t9 h9 := by
  intro s2 ho
  subst ho
  dsimp only [LR.el] at h
  intro t9 h9 hw
  refine k3 _ _ (AW.le hw ?_)
  refine .q fun K5 k5 => .q fun K6 k6 => rg 0 ?_
  refine len_of (l := p0.names) (f := encDecl) ?_
  refine k6 _ _ ?_
  refine .block ?_
  obtain ⟨o2, ho2, h⟩ := ob h
  have hR2 : ∀ s4 : List Decl, o2 = .nx s4 → ∀ t9 h9, Le 0 t9 h9 (u2 (.ptr 0 0 :: (.ptr 1 0 :: (u32 (u8 (u2 (.unk :: []))))))) [.box [.slice (List.map encCarrier ([] : List Carrier)) .nils, .slice (List.map encDecl ([] : List Decl)) .nils], .box [.slice (List.map encCarrier s2) (.tip 2 2), .slice (List.map encDecl s4) (.tip 3 4)], .tip (List.length s2 * 2), .tip (List.length s4 * 4)] → K5 t9 h9 := by
   intro s4 ho
   subst ho
   dsimp only [LR.el] at h
   intro t9 h9 hw
   refine k5 _ _ (AW.le hw ?_)
   refine .q fun K7 k7 => rg 0 ?_
   refine k7 _ _ ?_
   refine .ret ?_
   have e9 := sj h
   subst e9
   refine hQ _ _ _ (retW (u2 (.ptr 0 0 :: (u32 (u8 (u4 []))))) [.box [.slice (List.map encCarrier s2) (.tip 1 2), .slice (List.map encDecl s4) (.tip 2 4)], .tip (List.length s2 * 2), .tip (List.length s4 * 4)] (wk [some 0, some 2, some 3] (.u2 (.c rfl (.u32 (.u8 (.u4 .nil))))) (.b rfl (.cons (.tipS (renl_Carrier _ _) rfl) (.cons (.tipS (renl_Decl _ _) rfl) .nil)) (.t rfl (.t rfl .nil))) rfl) (retObj τ_ok [1, 2] rfl (.cons (rfl) (.cons (rfl) .nil)) ?_))
   conv => whnf
   first | rfl | (simp; done) | (simp; rfl) | (simp; constructor <;> rfl)
  refine .loopS (typing_copyEnv_L0 n p0) (fun (s3 : Int × (List Decl)) => (u2 (.ptr 0 0 :: (.ptr 1 0 :: (u16 (u8 (sDe p0.names :: (.i (p0.names.length : Int) :: (.i s3.1 :: (u16 [])))))))))) (fun (s3 : Int × (List Decl)) => [.box [.slice (List.map encCarrier ([] : List Carrier)) .nils, .slice (List.map encDecl ([] : List Decl)) .nils], .box [.slice (List.map encCarrier s2) (.tip 2 2), .slice (List.map encDecl s3.2) (.tip 3 4)], .tip (List.length s2 * 2), .tip (List.length s3.2 * 4)]) ho2 (fun _ => rfl) (wk [some 1, some 2, some 3, none] (.u2 (.c rfl (.c rfl (.u16 (.u8 (.e renl_Decl (.c rfl (.c rfl (.u16 .nil))))))))) (.b rfl (.c rfl (.c rfl .nil)) (.b rfl (.cons (.tipS (renl_Carrier _ _) rfl) (.cons (.nils _ _) .nil)) (.t rfl (.w rfl .nil)))) rfl) ?_
  intro n2 s3 hs2 KL2 hKL2
  unfold typing_copyEnv_L0 at hs2
  refine .q fun K8 k8 => rg 0 ?_
  refine k8 _ _ ?_
  refine .q fun K9 k9 => ?_
  refine .condS rfl hs2 (fun hc1 hs2 => ?_) (fun hc1 hs2 => ?_)
  ·refine .skip ?_
   refine k9 _ _ ?_
   refine .q fun K10 k10 => ?_
   refine .block ?_
   refine .q fun K11 k11 => rg 1 ?_
   obtain ⟨x1, hx1, hs2⟩ := ob hs2
   refine idx_of (l := p0.names) (f := encDecl) (cs := [.str ((x1).name), .i (((x1).ty).kind), .str (((x1).ty).name), sTy (((x1).ty).kids)]) hx1 (rfl) rfl ?_
   refine k11 _ _ ?_
   refine rg 2 ?_
   obtain ⟨x2, hx2, hs2⟩ := ob hs2
   refine cp (typing_copyType_ok _ _ _ hx2) okF_70 (.cons (.same _) .nil) ?_
   refine ⟨List.map encDecl ([(Decl.mk x1.name x2)]), rfl, ?_⟩
   obtain ⟨x3, hx3, hs2⟩ := ob hs2
   refine app_tip (l := s3.2) (ys := [(Decl.mk x1.name x2)]) (f := encDecl) hx3 ok_Decl rfl rfl rfl ?_
   refine ⟨rfl, ?_⟩
   refine k10 _ _ ?_
   refine .know 30 0 fun hv1 => ?_
   refine .know 28 0 fun hv2 => ?_
   refine rg 0 ?_
   refine ⟨(s3.1 + 1), by have := wf64 hv1; have := vfl hv2; have h8 := of_decide_eq_true hc1; exact w64_id (by omega) (by omega), ?_⟩
   exact hKL2 _ _ _ hs2 (wk [some 0, some 1, some 2, some 6] (.u2 (.c rfl (.c rfl (.u16 (.u8 (.e renl_Decl (.c rfl (.c rfl (.u16 .nil))))))))) (.b rfl (.c rfl (.c rfl .nil)) (.b rfl (.cons (.tipS (renl_Carrier _ _) rfl) (.cons (.tipS (renl_Decl _ _) rfl) .nil)) (.t rfl (.t rfl .nil)))) rfl)
  ·refine .exit ?_
   exact hR2 _ (sj hs2).symm _ _ (li (.u2 (.s (.s (.u16 (.u16 (.u8 (.u2 (.u .n)))))))))
 refine .loopS (typing_copyEnv_L1 n p0) (fun (s1 : Int × (List Carrier)) => (.unk :: (.ptr 0 0 :: (.ptr 1 0 :: (.ptr 2 0 :: (u4 (.unk :: (sCa p0.carriers :: (.i (p0.carriers.length : Int) :: (.i s1.1 :: (u32 (u2 (.unk :: []))))))))))))) (fun (s1 : Int × (List Carrier)) => [.box [sCa p0.carriers, sDe p0.names], .box [.slice (List.map encCarrier ([] : List Carrier)) .nils, .slice (List.map encDecl ([] : List Decl)) .nils], .box [.slice (List.map encCarrier s1.2) (.tip 3 2), .slice (List.map encDecl ([] : List Decl)) .nils], .tip (List.length s1.2 * 2)]) ho1 (fun _ => rfl) (wk [some 0, some 1, some 2, none] (.u (.c rfl (.c rfl (.c rfl (.u4 (.u (.e renl_Carrier (.c rfl (.c rfl (.u32 (.u2 (.u .nil)))))))))))) (.b rfl (.e renl_Carrier (.e renl_Decl .nil)) (.b rfl (.c rfl (.c rfl .nil)) (.b rfl (.cons (.nils _ _) (.c rfl .nil)) (.w rfl .nil)))) rfl) ?_
 intro n1 s1 hs1 KL1 hKL1
 unfold typing_copyEnv_L1 at hs1
 refine .q fun K12 k12 => rg 0 ?_
 refine k12 _ _ ?_
 refine .q fun K13 k13 => ?_
 refine .condS rfl hs1 (fun hc2 hs1 => ?_) (fun hc2 hs1 => ?_)
 ·refine .skip ?_
  refine k13 _ _ ?_
  refine .q fun K14 k14 => ?_
  refine .block ?_
  refine .q fun K15 k15 => rg 1 ?_
  obtain ⟨x4, hx4, hs1⟩ := ob hs1
  refine idx_of (l := p0.carriers) (f := encCarrier) (cs := [.str ((x4).name), sSt ((x4).elems)]) hx4 (rfl) rfl ?_
  refine k15 _ _ ?_
  refine rg 2 ?_
  obtain ⟨x5, hx5, hs1⟩ := ob hs1
  refine cp (slices_Clone_string_ok _ _ _ hx5) okF_189 (.cons (.same _) .nil) ?_
  refine ⟨List.map encCarrier ([(Carrier.mk x4.name x5)]), rfl, ?_⟩
  obtain ⟨x6, hx6, hs1⟩ := ob hs1
  refine app_tip (l := s1.2) (ys := [(Carrier.mk x4.name x5)]) (f := encCarrier) hx6 ok_Carrier rfl rfl rfl ?_
  refine ⟨rfl, ?_⟩
  refine k14 _ _ ?_
  refine .know 11 0 fun hv3 => ?_
  refine .know 9 0 fun hv4 => ?_
  refine rg 0 ?_
  refine ⟨(s1.1 + 1), by have := wf64 hv3; have := vfl hv4; have h8 := of_decide_eq_true hc2; exact w64_id (by omega) (by omega), ?_⟩
  exact hKL1 _ _ _ hs1 (wk [some 0, some 1, some 2, some 6] (.u (.c rfl (.c rfl (.c rfl (.u4 (.u (.e renl_Carrier (.c rfl (.c rfl (.u32 (.u2 (.u .nil)))))))))))) (.b rfl (.e renl_Carrier (.e renl_Decl .nil)) (.b rfl (.c rfl (.c rfl .nil)) (.b rfl (.cons (.tipS (renl_Carrier _ _) rfl) (.c rfl .nil)) (.t rfl .nil)))) rfl)
 ·refine .exit ?_
  exact hR1 _ (sj hs1).symm _ _ (li (.u (.s (.s (.s (.u16 (.u16 (.u8 (.u2 (.u .n))))))))))
end Abs
end Go.Proofs.YtiiaccpcoclklaaGreat
namespace Go.Proofs.YtiiaccpcoclklaaGreat
namespace Abs
open Go Go.Proofs
set_option maxRecDepth 100000
set_option maxHeartbeats 40000000
theorem typing_Union_1_ok (n : Nat) (p0 : Carrier) (p1 : Str) (p2 : List Str) (r : Bool) (h : typing_Union_1 n p0 p1 p2 = some r) : ACalls Tryz.prog 124 [.agg [.str p0.name, sSt p0.elems], .ptr 0 0] [.box [.str p1, sSt p2]] (.bool r) [.box [.str p1, sSt p2]] := by
 unfold typing_Union_1 at h
 refine acalls_start true Tryz.func124 rfl (nt Tryz.ntmps124 rfl) fun Q hQ t ht => ?_
 conv at ht => whnf
 subst ht
 refine .q fun K1 k1 => rg 1 ?_
 refine k1 _ _ ?_
 refine .q fun K2 k2 => rg 0 ?_
 refine k2 _ _ ?_
 refine .ret ?_
 have e9 := sj h
 subst e9
 refine hQ _ _ _ (retW (u2 (.unk :: (.bool (p0.name == p1) :: (u4 (.unk :: []))))) [.box [.str p1, sSt p2]] (wk [some 0] (.u2 (.u (.c rfl (.u4 (.u .nil))))) (.b rfl (.c rfl (.e renl_S .nil)) .nil) rfl) (retObj τ_ok [0] rfl (.cons (by simp only [renO, ren, renL, renLL, renT, renL_app, renl_I, renl_S, renl_U8, renl_Ty, renl_Tm, renl_Carrier, renl_Decl, rowC0_ren]; try rfl) .nil) ?_))
 conv => whnf
 first | rfl | (simp; done) | (simp; rfl) | (simp; constructor <;> rfl)
end Abs
end Go.Proofs.YtiiaccpcoclklaaGreat
