/-
  Plain functions and the contracts of Go functions by them (printed by gen.py). Conditions: none. All texts of the functions. Conditions: none.
-/
import Derived.KernelRfl
import Derived.Test.YtiiaccpcoclklaaGreatCData2x772da3
import Derived.Test.YtiiaccpcoclklaaGreatCDfxef68f6
import Derived.Test.YtiiaccpcoclklaaGreatCTDx68fdcf
import Derived.Test.YtiiaccpcoclklaaGreatCT1xa5fb9e
import Derived.Test.YtiiaccpcoclklaaGreatCT2x3b35ab
import Derived.Test.YtiiaccpcoclklaaGreatCT3xd04784
import Derived.Test.YtiiaccpcoclklaaGreatCT4x156658
import Derived.Test.YtiiaccpcoclklaaGreatCT5xc4705b
import Derived.Test.YtiiaccpcoclklaaGreatCT6x78208b
import Derived.Test.YtiiaccpcoclklaaGreatCT8x61dacb
import Derived.Test.YtiiaccpcoclklaaGreatCT9xc6bee6
import Derived.Test.YtiiaccpcoclklaaGreatCT10xa9b126
import Derived.Test.YtiiaccpcoclklaaGreatCT11x56c2d0
import Derived.Test.YtiiaccpcoclklaaGreatCT12x261558
import Derived.Test.YtiiaccpcoclklaaGreatCT13xbcb936
import Derived.Test.YtiiaccpcoclklaaGreatCT15xe543cf
import Derived.Test.YtiiaccpcoclklaaGreatCT16x1b3ad6
import Derived.Test.YtiiaccpcoclklaaGreatCAwxaffe0d
import Derived.Test.YtiiaccpcoclklaaGreatCT28xae70f5
set_option linter.unusedSimpArgs false
set_option linter.unusedVariables false
namespace Go.Proofs.YtiiaccpcoclklaaGreat
namespace Abs
open Go Go.Proofs
set_option maxRecDepth 100000
set_option maxHeartbeats 40000000
theorem typing_Union_ok (n : Nat) (p0 : Env) (p1 : Env) (r : Env × Int) (h : typing_Union n p0 p1 = some r) : ACalls Tryz.prog 60 [aEnv p0, aEnv p1] [] (.tup [aEnv r.1, .i r.2]) [] := by
 unfold typing_Union at h
 refine acalls_start true Tryz.func60 rfl (nt Tryz.ntmps60 rfl) fun Q hQ t ht => ?_
 conv at ht => whnf
 subst ht
 refine .q fun K1 k1 => rg 3 ?_
 refine k1 _ _ ?_
 refine .q fun K2 k2 => .q fun K3 k3 => ?_
 obtain ⟨s1, hj1, h⟩ := ob h
 have hR1 : ∀ t9 h9, Le 0 t9 h9 (u2 (.ptr 0 0 :: (.ptr 1 0 :: (.ptr 2 0 :: (u16 (.bool s1 :: (u64 (u16 (u8 (u2 [])))))))))) [.box [sCa p0.carriers, sDe p0.names], .box [sCa p1.carriers, sDe p1.names], .box [.slice (List.map encCarrier ([] : List Carrier)) .nils, .slice (List.map encDecl ([] : List Decl)) .nils]] → K3 t9 h9 := by
  intro t9 h9 hw
  refine k3 _ _ (AW.le hw ?_)
  clear hw
  refine .condS rfl h (fun hc1 h => ?_) (fun hc1 h => ?_)
  ·refine .q fun K4 k4 => rg 0 ?_
   refine k4 _ _ ?_
   refine .ret ?_
   have e9 := sj h
   subst e9
   refine hQ _ _ _ (retPure τ_ok (fun g => by simp) ?_)
   conv => whnf
   try rfl
  ·refine .skip ?_
   refine k2 _ _ ?_
   refine .q fun K5 k5 => rg 6 ?_
   obtain ⟨x1, hx1, h⟩ := ob h
   refine call_gen [] [3, 4] [aEnv p0] [aEnv p0] (typing_copyEnv_ok _ _ _ hx1) okF_115 rfl .nil (by simp; try decide) (.cons (.same _) .nil) (rn := .agg [.slice (List.map encCarrier x1.1) (.tip 3 2), .slice (List.map encDecl x1.2) (.tip 4 4)]) (by simp; try decide) (Hn := [.tip (List.length x1.1 * 2), .tip (List.length x1.2 * 4)]) ((rcons (rfl) (rcons (rfl) rfl))) ?_
   obtain ⟨x2, hx2, h⟩ := ob h
   refine call_gen [] [5, 6] [aEnv p1] [aEnv p1] (typing_copyEnv_ok _ _ _ hx2) okF_115 rfl .nil (by simp; try decide) (.cons (.same _) .nil) (rn := .agg [.slice (List.map encCarrier x2.1) (.tip 5 2), .slice (List.map encDecl x2.2) (.tip 6 4)]) (by simp; try decide) (Hn := [.tip (List.length x2.1 * 2), .tip (List.length x2.2 * 4)]) ((rcons (rfl) (rcons (rfl) rfl))) ?_
   refine ⟨rfl, ?_⟩
   refine k5 _ _ ?_
   refine .q fun K6 k6 => .q fun K7 k7 => rg 0 ?_
   refine len_of (l := x2.1) (f := encCarrier) ?_
   refine k7 _ _ ?_
   refine .block ?_
   obtain ⟨o1, ho1, h⟩ := ob h
   have hR2 : ∀ s3 : List Carrier, o1 = .nx s3 → ∀ t9 h9, Le 0 t9 h9 (u2 (.ptr 0 0 :: (.unk :: (.ptr 1 0 :: (.unk :: (.ptr 2 0 :: (.ptr 3 0 :: (u64 (u32 (u8 [])))))))))) [.box [sCa p0.carriers, sDe p0.names], .box [.slice (List.map encCarrier ([] : List Carrier)) .nils, .slice (List.map encDecl ([] : List Decl)) .nils], .box [.slice (List.map encCarrier s3) (.tip 4 2), .slice (List.map encDecl x1.2) (.tip 5 4)], .box [.slice (List.map encCarrier x2.1) (.tip 6 2), .slice (List.map encDecl x2.2) (.tip 7 4)], .tip (List.length s3 * 2), .tip (List.length x1.2 * 4), .tip (List.length x2.1 * 2), .tip (List.length x2.2 * 4)] → K6 t9 h9 := by
    intro s3 ho
    subst ho
    dsimp only [LR.el] at h
    intro t9 h9 hw
    refine k6 _ _ (AW.le hw ?_)
    refine .q fun K8 k8 => .q fun K9 k9 => rg 0 ?_
    refine len_of (l := x2.2) (f := encDecl) ?_
    refine k9 _ _ ?_
    refine .block ?_
    obtain ⟨o2, ho2, h⟩ := ob h
    have hR3 : ∀ s5 : List Decl, o2 = .nx s5 → ∀ t9 h9, Le 0 t9 h9 (u4 (.ptr 0 0 :: (.unk :: (.ptr 1 0 :: (u64 (u32 (u8 (.unk :: [])))))))) [.box [.slice (List.map encCarrier ([] : List Carrier)) .nils, .slice (List.map encDecl ([] : List Decl)) .nils], .box [.slice (List.map encCarrier s3) (.tip 2 2), .slice (List.map encDecl s5) (.tip 3 4)], .tip (List.length s3 * 2), .tip (List.length s5 * 4)] → K8 t9 h9 := by
     intro s5 ho
     subst ho
     dsimp only [LR.el] at h
     intro t9 h9 hw
     refine k8 _ _ (AW.le hw ?_)
     refine .q fun K10 k10 => ?_
     refine .block ?_
     refine .q fun K11 k11 => rg 1 ?_
     obtain ⟨x3, hx3, h⟩ := ob h
     refine call_gen [] [4] [.agg [sCa s3, sDe s5]] [.agg [sCa s3, sDe s5]] (typing_declared_ok _ _ _ hx3) okF_114 rfl .nil (by simp; try decide) (.cons (.agg' (.cons (.share _ _) (.cons (.share _ _) .nil))) .nil) (rn := .slice (List.map encS x3) (.tip 4 1)) (by simp; try decide) (Hn := [.tip (List.length x3 * 1)]) ((rcons (rfl) rfl)) ?_
     obtain ⟨x4, hx4, h⟩ := ob h
     refine call_pur (typing_distinct_ok _ _ _ hx4) okF_118 (.cons (.share _ _) .nil) (fun g => by simp) (fun g => rfl) ?_
     refine k11 _ _ ?_
     refine .condS rfl h (fun hc2 h => ?_) (fun hc2 h => ?_)
     ·refine .q fun K12 k12 => rg 0 ?_
      refine k12 _ _ ?_
      refine .ret ?_
      have e9 := sj h
      subst e9
      refine hQ _ _ _ (retPure τ_ok (fun g => by simp) ?_)
      conv => whnf
      try rfl
     ·refine .q fun K13 k13 => ?_
      obtain ⟨s6, hj2, h⟩ := ob h
      have hR4 : ∀ t9 h9, Le 0 t9 h9 (u4 (.ptr 0 0 :: (.unk :: (.ptr 1 0 :: (u64 (u16 (u8 (u4 (.bool s6 :: (u8 (u4 []))))))))))) [.box [.slice (List.map encCarrier ([] : List Carrier)) .nils, .slice (List.map encDecl ([] : List Decl)) .nils], .box [.slice (List.map encCarrier s3) (.tip 2 2), .slice (List.map encDecl s5) (.tip 3 4)], .tip (List.length s3 * 2), .tip (List.length s5 * 4)] → K13 t9 h9 := by
       intro t9 h9 hw
       refine k13 _ _ (AW.le hw ?_)
       clear hw
       refine .condS rfl h (fun hc3 h => ?_) (fun hc3 h => ?_)
       ·refine .q fun K14 k14 => rg 0 ?_
        refine k14 _ _ ?_
        refine .ret ?_
        have e9 := sj h
        subst e9
        refine hQ _ _ _ (retPure τ_ok (fun g => by simp) ?_)
        conv => whnf
        try rfl
       ·refine .skip ?_
        refine k10 _ _ ?_
        refine .q fun K15 k15 => rg 0 ?_
        refine k15 _ _ ?_
        refine .ret ?_
        have e9 := sj h
        subst e9
        refine hQ _ _ _ (retPure τ_ok (fun g => by simp) ?_)
        conv => whnf
        try rfl
      refine rg 0 ?_
      refine len_of (l := s3) (f := encCarrier) ?_
      refine onB_cond hj2 (fun hc4 hj2 => ?_) (fun hc4 hj2 => ?_)
      ·cases hj2
       exact hR4 _ _ (wk [some 0, some 1, some 2, some 3] (.u4 (.c rfl (.u (.c rfl (.u64 (.u16 (.u8 (.u4 (.c rfl (.u8 (.u4 .nil))))))))))) (.b rfl (.c rfl (.c rfl .nil)) (.b rfl (.cons (.tipS (renl_Carrier _ _) rfl) (.cons (.tipS (renl_Decl _ _) rfl) .nil)) (.t rfl (.t rfl .nil)))) rfl)
      ·refine len_of (l := s5) (f := encDecl) ?_
       cases hj2
       exact hR4 _ _ (wk [some 0, some 1, some 2, some 3] (.u4 (.c rfl (.u (.c rfl (.u64 (.u16 (.u8 (.u4 (.c rfl (.u8 (.u4 .nil))))))))))) (.b rfl (.c rfl (.c rfl .nil)) (.b rfl (.cons (.tipS (renl_Carrier _ _) rfl) (.cons (.tipS (renl_Decl _ _) rfl) .nil)) (.t rfl (.t rfl .nil)))) rfl)
    refine .loopS (typing_Union_L0 n p0 x2) (fun (s4 : Int × (List Decl)) => (u2 (.ptr 0 0 :: (.unk :: (.ptr 1 0 :: (.unk :: (.ptr 2 0 :: (u32 (u16 (u4 (u2 (.slice (List.map encDecl x2.2) (.tip 3 4) :: (.i (x2.2.length : Int) :: (.i s4.1 :: (u32 (u16 [])))))))))))))))) (fun (s4 : Int × (List Decl)) => [.box [sCa p0.carriers, sDe p0.names], .box [.slice (List.map encCarrier ([] : List Carrier)) .nils, .slice (List.map encDecl ([] : List Decl)) .nils], .box [.slice (List.map encCarrier s3) (.tip 4 2), .slice (List.map encDecl s4.2) (.tip 5 4)], .tip (List.length x2.2 * 4), .tip (List.length s3 * 2), .tip (List.length s4.2 * 4)]) ho2 (fun _ => rfl) (wk [some 0, some 1, some 2, some 7, some 4, some 5] (.u2 (.c rfl (.u (.c rfl (.u (.c rfl (.u32 (.u16 (.u4 (.u2 (.cons (.tipS (renl_Decl _ _) rfl) (.c rfl (.c rfl (.u32 (.u16 .nil))))))))))))))) (.b rfl (.e renl_Carrier (.e renl_Decl .nil)) (.b rfl (.c rfl (.c rfl .nil)) (.b rfl (.cons (.tipS (renl_Carrier _ _) rfl) (.cons (.tipS (renl_Decl _ _) rfl) .nil)) (.t rfl (.t rfl (.t rfl .nil)))))) rfl) ?_
    intro n2 s4 hs2 KL2 hKL2
    unfold typing_Union_L0 at hs2
    refine .q fun K16 k16 => rg 0 ?_
    refine k16 _ _ ?_
    refine .q fun K17 k17 => ?_
    refine .condS rfl hs2 (fun hc5 hs2 => ?_) (fun hc5 hs2 => ?_)
    ·refine .skip ?_
     refine k17 _ _ ?_
     refine .q fun K18 k18 => ?_
     obtain ⟨o3, hj3, hs2⟩ := ob hs2
     have hR5 : ∀ s7 : List Decl, o3 = .nx s7 → ∀ t9 h9, Le 0 t9 h9 (u2 (.ptr 0 0 :: (.unk :: (.ptr 1 0 :: (.unk :: (.ptr 2 0 :: (u32 (u16 (u4 (u2 (.slice (List.map encDecl x2.2) (.tip 3 4) :: (.i (x2.2.length : Int) :: (.i s4.1 :: (u32 (u16 []))))))))))))))) [.box [sCa p0.carriers, sDe p0.names], .box [.slice (List.map encCarrier ([] : List Carrier)) .nils, .slice (List.map encDecl ([] : List Decl)) .nils], .box [.slice (List.map encCarrier s3) (.tip 4 2), .slice (List.map encDecl s7) (.tip 5 4)], .tip (List.length x2.2 * 4), .tip (List.length s3 * 2), .tip (List.length s7 * 4)] → K18 t9 h9 := by
      intro s7 ho
      subst ho
      dsimp only [LR.el] at hs2
      intro t9 h9 hw
      refine k18 _ _ (AW.le hw ?_)
      clear hw
      refine .know 63 0 fun hv1 => ?_
      refine .know 61 0 fun hv2 => ?_
      refine rg 0 ?_
      refine ⟨(s4.1 + 1), by have := wf64 hv1; have := vfl hv2; have h8 := of_decide_eq_true hc5; exact w64_id (by omega) (by omega), ?_⟩
      exact hKL2 _ _ _ hs2 (li (.u2 (.s (.u (.s (.u (.s (.u16 (.u16 (.u16 (.u4 (.u2 (.s (.s (.s (.u16 (.u16 (.u16 .n))))))))))))))))))
     refine .block ?_
     refine .q fun K19 k19 => rg 1 ?_
     obtain ⟨x5, hx5, hj3⟩ := ob hj3
     refine idx_of (l := x2.2) (f := encDecl) (cs := [.str ((x5).name), .i (((x5).ty).kind), .str (((x5).ty).name), sTy (((x5).ty).kids)]) hx5 (rfl) rfl ?_
     refine k19 _ _ ?_
     refine .q fun K20 k20 => rg 0 ?_
     obtain ⟨x6, hx6, hj3⟩ := ob hj3
     refine call_gen [6] [] [sDe p0.names, .func 127 [.ptr 0 0]] [sDe p0.names, .func 127 [.ptr 6 0]] (slices_IndexFunc_Decl_ok _ _ _ _ _ _ _ hx6) okF_126 rfl (.cons (by simp only [renO, ren, renL, renLL, renT, renL_app, renl_I, renl_S, renl_U8, renl_Ty, renl_Tm, renl_Carrier, renl_Decl, rowC0_ren]; try rfl) .nil) (by simp; try decide) (.cons (.same _) (.cons (.same _) .nil)) (rn := .i x6) (rfl) (Hn := [.box [.str x5.name, .i x5.ty.kind, .str x5.ty.name, sTy x5.ty.kids]]) ((rcons (by simp only [renO, ren, renL, renLL, renT, renL_app, renl_I, renl_S, renl_U8, renl_Ty, renl_Tm, renl_Carrier, renl_Decl, rowC0_ren]; try rfl) rfl)) ?_
     refine k20 _ _ ?_
     refine .block ?_
     refine .q fun K21 k21 => rg 0 ?_
     refine k21 _ _ ?_
     refine .condS rfl hj3 (fun hc6 hj3 => ?_) (fun hc6 hj3 => ?_)
     ·refine rg 2 ?_
      refine ⟨List.map encDecl ([x5]), rfl, ?_⟩
      obtain ⟨x7, hx7, hj3⟩ := ob hj3
      refine app_tip (l := s4.2) (ys := [x5]) (f := encDecl) hx7 ok_Decl rfl rfl rfl ?_
      exact hR5 _ (sj hj3).symm _ _ (wk [some 0, some 1, some 2, some 3, some 4, some 8] (.u2 (.c rfl (.u (.c rfl (.u (.c rfl (.u32 (.u16 (.u4 (.u2 (.cons (.tipS (renl_Decl _ _) rfl) (.c rfl (.c rfl (.u32 (.u16 .nil))))))))))))))) (.b rfl (.e renl_Carrier (.e renl_Decl .nil)) (.b rfl (.c rfl (.c rfl .nil)) (.b rfl (.cons (.tipS (renl_Carrier _ _) rfl) (.cons (.tipS (renl_Decl _ _) rfl) .nil)) (.t rfl (.t rfl (.t rfl .nil)))))) rfl)
     ·refine .q fun K22 k22 => rg 0 ?_
      obtain ⟨x8, hx8, hj3⟩ := ob hj3
      refine idx_of (l := p0.names) (f := encDecl) (cs := [.str ((x8).name), .i (((x8).ty).kind), .str (((x8).ty).name), sTy (((x8).ty).kids)]) hx8 (rfl) rfl ?_
      obtain ⟨x9, hx9, hj3⟩ := ob hj3
      refine call_pur (typing_equal_ok _ _ _ _ hx9) okF_93 (.cons (.same _) (.cons (.same _) .nil)) (fun g => by simp) (fun g => rfl) ?_
      refine ⟨rfl, ?_⟩
      refine k22 _ _ ?_
      refine .condS rfl hj3 (fun hc7 hj3 => ?_) (fun hc7 hj3 => ?_)
      ·refine .q fun K23 k23 => rg 0 ?_
       refine k23 _ _ ?_
       refine .ret ?_
       have e9 := sj hj3
       subst e9
       dsimp only [LR.el] at hs2
       have e9 := sj hs2
       subst e9
       dsimp only [LR.el] at h
       have e9 := sj h
       subst e9
       refine hQ _ _ _ (retPure τ_ok (fun g => by simp) ?_)
       conv => whnf
       try rfl
      ·refine .skip ?_
       exact hR5 _ (sj hj3).symm _ _ (wk [some 0, some 1, some 2, some 3, some 4, some 5] (.u2 (.c rfl (.u (.c rfl (.u (.c rfl (.u32 (.u16 (.u4 (.u2 (.cons (.tipS (renl_Decl _ _) rfl) (.c rfl (.c rfl (.u32 (.u16 .nil))))))))))))))) (.b rfl (.e renl_Carrier (.e renl_Decl .nil)) (.b rfl (.c rfl (.c rfl .nil)) (.b rfl (.cons (.tipS (renl_Carrier _ _) rfl) (.cons (.tipS (renl_Decl _ _) rfl) .nil)) (.t rfl (.t rfl (.t rfl .nil)))))) rfl)
    ·refine .exit ?_
     exact hR3 _ (sj hs2).symm _ _ (wk [some 1, some 2, some 4, some 5] (.u4 (.c rfl (.u (.c rfl (.u64 (.u32 (.u8 (.u .nil)))))))) (.b rfl (.c rfl (.c rfl .nil)) (.b rfl (.cons (.tipS (renl_Carrier _ _) rfl) (.cons (.tipS (renl_Decl _ _) rfl) .nil)) (.t rfl (.t rfl .nil)))) rfl)
   refine .loopS (typing_Union_L1 n p0 x2) (fun (s2 : Int × (List Carrier)) => (u2 (.ptr 0 0 :: (.unk :: (.ptr 1 0 :: (.unk :: (.ptr 2 0 :: (.ptr 3 0 :: (u16 (u4 (.slice (List.map encCarrier x2.1) (.tip 4 2) :: (.i (x2.1.length : Int) :: (.i s2.1 :: (u64 (u16 (.unk :: [])))))))))))))))) (fun (s2 : Int × (List Carrier)) => [.box [sCa p0.carriers, sDe p0.names], .box [.slice (List.map encCarrier ([] : List Carrier)) .nils, .slice (List.map encDecl ([] : List Decl)) .nils], .box [.slice (List.map encCarrier s2.2) (.tip 5 2), .slice (List.map encDecl x1.2) (.tip 6 4)], .box [.slice (List.map encCarrier x2.1) (.tip 4 2), .slice (List.map encDecl x2.2) (.tip 7 4)], .tip (List.length x2.1 * 2), .tip (List.length s2.2 * 2), .tip (List.length x1.2 * 4), .tip (List.length x2.2 * 4)]) ho1 (fun _ => rfl) (wk [some 0, some 2, some 7, some 8, some 5, some 3, some 4, some 6] (.u2 (.c rfl (.u (.c rfl (.u (.c rfl (.c rfl (.u16 (.u4 (.cons (.tipS (renl_Carrier _ _) rfl) (.c rfl (.c rfl (.u64 (.u16 (.u .nil))))))))))))))) (.b rfl (.e renl_Carrier (.e renl_Decl .nil)) (.b rfl (.c rfl (.c rfl .nil)) (.b rfl (.cons (.tipS (renl_Carrier _ _) rfl) (.cons (.tipS (renl_Decl _ _) rfl) .nil)) (.b rfl (.cons (.tipS (renl_Carrier _ _) rfl) (.cons (.tipS (renl_Decl _ _) rfl) .nil)) (.t rfl (.t rfl (.t rfl (.t rfl .nil)))))))) rfl) ?_
   intro n1 s2 hs1 KL1 hKL1
   unfold typing_Union_L1 at hs1
   refine .q fun K24 k24 => rg 0 ?_
   refine k24 _ _ ?_
   refine .q fun K25 k25 => ?_
   refine .condS rfl hs1 (fun hc8 hs1 => ?_) (fun hc8 hs1 => ?_)
   ·refine .skip ?_
    refine k25 _ _ ?_
    refine .q fun K26 k26 => ?_
    obtain ⟨o4, hj4, hs1⟩ := ob hs1
    have hR6 : ∀ s8 : List Carrier, o4 = .nx s8 → ∀ t9 h9, Le 0 t9 h9 (u2 (.ptr 0 0 :: (.unk :: (.ptr 1 0 :: (.unk :: (.ptr 2 0 :: (.ptr 3 0 :: (u16 (u4 (.slice (List.map encCarrier x2.1) (.tip 4 2) :: (.i (x2.1.length : Int) :: (.i s2.1 :: (u64 (u16 (.unk :: []))))))))))))))) [.box [sCa p0.carriers, sDe p0.names], .box [.slice (List.map encCarrier ([] : List Carrier)) .nils, .slice (List.map encDecl ([] : List Decl)) .nils], .box [.slice (List.map encCarrier s8) (.tip 5 2), .slice (List.map encDecl x1.2) (.tip 6 4)], .box [.slice (List.map encCarrier x2.1) (.tip 4 2), .slice (List.map encDecl x2.2) (.tip 7 4)], .tip (List.length x2.1 * 2), .tip (List.length s8 * 2), .tip (List.length x1.2 * 4), .tip (List.length x2.2 * 4)] → K26 t9 h9 := by
     intro s8 ho
     subst ho
     dsimp only [LR.el] at hs1
     intro t9 h9 hw
     refine k26 _ _ (AW.le hw ?_)
     clear hw
     refine .know 30 0 fun hv3 => ?_
     refine .know 28 0 fun hv4 => ?_
     refine rg 0 ?_
     refine ⟨(s2.1 + 1), by have := wf64 hv3; have := vfl hv4; have h8 := of_decide_eq_true hc8; exact w64_id (by omega) (by omega), ?_⟩
     exact hKL1 _ _ _ hs1 (li (.u2 (.s (.u (.s (.u (.s (.s (.u16 (.u4 (.s (.s (.s (.u16 (.u16 (.u16 (.u16 (.u16 (.u .n)))))))))))))))))))
    refine .block ?_
    refine .q fun K27 k27 => rg 1 ?_
    obtain ⟨x10, hx10, hj4⟩ := ob hj4
    refine idx_of (l := x2.1) (f := encCarrier) (cs := [.str ((x10).name), sSt ((x10).elems)]) hx10 (rfl) rfl ?_
    refine k27 _ _ ?_
    refine .q fun K28 k28 => rg 0 ?_
    obtain ⟨x11, hx11, hj4⟩ := ob hj4
    refine call_gen [8] [] [sCa p0.carriers, .func 124 [.ptr 0 0]] [sCa p0.carriers, .func 124 [.ptr 8 0]] (slices_IndexFunc_Carrier_1_ok _ _ _ _ _ hx11) okF_123 rfl (.cons (by simp only [renO, ren, renL, renLL, renT, renL_app, renl_I, renl_S, renl_U8, renl_Ty, renl_Tm, renl_Carrier, renl_Decl, rowC0_ren]; try rfl) .nil) (by simp; try decide) (.cons (.same _) (.cons (.same _) .nil)) (rn := .i x11) (rfl) (Hn := [.box [.str x10.name, sSt x10.elems]]) ((rcons (by simp only [renO, ren, renL, renLL, renT, renL_app, renl_I, renl_S, renl_U8, renl_Ty, renl_Tm, renl_Carrier, renl_Decl, rowC0_ren]; try rfl) rfl)) ?_
    refine k28 _ _ ?_
    refine .block ?_
    refine .q fun K29 k29 => rg 0 ?_
    refine k29 _ _ ?_
    refine .condS rfl hj4 (fun hc9 hj4 => ?_) (fun hc9 hj4 => ?_)
    ·refine rg 2 ?_
     refine ⟨List.map encCarrier ([x10]), rfl, ?_⟩
     obtain ⟨x12, hx12, hj4⟩ := ob hj4
     refine app_tip (l := s2.2) (ys := [x10]) (f := encCarrier) hx12 ok_Carrier rfl rfl rfl ?_
     exact hR6 _ (sj hj4).symm _ _ (wk [some 0, some 1, some 2, some 3, some 4, some 10, some 6, some 7] (.u2 (.c rfl (.u (.c rfl (.u (.c rfl (.c rfl (.u16 (.u4 (.cons (.tipS (renl_Carrier _ _) rfl) (.c rfl (.c rfl (.u64 (.u16 (.u .nil))))))))))))))) (.b rfl (.e renl_Carrier (.e renl_Decl .nil)) (.b rfl (.c rfl (.c rfl .nil)) (.b rfl (.cons (.tipS (renl_Carrier _ _) rfl) (.cons (.tipS (renl_Decl _ _) rfl) .nil)) (.b rfl (.cons (.tipS (renl_Carrier _ _) rfl) (.cons (.tipS (renl_Decl _ _) rfl) .nil)) (.t rfl (.t rfl (.t rfl (.t rfl .nil)))))))) rfl)
    ·refine .q fun K30 k30 => rg 0 ?_
     obtain ⟨x13, hx13, hj4⟩ := ob hj4
     refine idx_of (l := p0.carriers) (f := encCarrier) (cs := [.str ((x13).name), sSt ((x13).elems)]) hx13 (rfl) rfl ?_
     obtain ⟨x14, hx14, hj4⟩ := ob hj4
     refine call_pur (slices_Equal_string_ok _ _ _ _ hx14) okF_125 (.cons (.same _) (.cons (.same _) .nil)) (fun g => by simp) (fun g => rfl) ?_
     refine ⟨rfl, ?_⟩
     refine k30 _ _ ?_
     refine .condS rfl hj4 (fun hc10 hj4 => ?_) (fun hc10 hj4 => ?_)
     ·refine .q fun K31 k31 => rg 0 ?_
      refine k31 _ _ ?_
      refine .ret ?_
      have e9 := sj hj4
      subst e9
      dsimp only [LR.el] at hs1
      have e9 := sj hs1
      subst e9
      dsimp only [LR.el] at h
      have e9 := sj h
      subst e9
      refine hQ _ _ _ (retPure τ_ok (fun g => by simp) ?_)
      conv => whnf
      try rfl
     ·refine .skip ?_
      exact hR6 _ (sj hj4).symm _ _ (wk [some 0, some 1, some 2, some 3, some 4, some 5, some 6, some 7] (.u2 (.c rfl (.u (.c rfl (.u (.c rfl (.c rfl (.u16 (.u4 (.cons (.tipS (renl_Carrier _ _) rfl) (.c rfl (.c rfl (.u64 (.u16 (.u .nil))))))))))))))) (.b rfl (.e renl_Carrier (.e renl_Decl .nil)) (.b rfl (.c rfl (.c rfl .nil)) (.b rfl (.cons (.tipS (renl_Carrier _ _) rfl) (.cons (.tipS (renl_Decl _ _) rfl) .nil)) (.b rfl (.cons (.tipS (renl_Carrier _ _) rfl) (.cons (.tipS (renl_Decl _ _) rfl) .nil)) (.t rfl (.t rfl (.t rfl (.t rfl .nil)))))))) rfl)
   ·refine .exit ?_
    exact hR2 _ (sj hs1).symm _ _ (wk [some 0, some 1, some 2, some 3, some 5, some 6, some 4, some 7] (.u2 (.c rfl (.u (.c rfl (.u (.c rfl (.c rfl (.u64 (.u32 (.u8 .nil)))))))))) (.b rfl (.e renl_Carrier (.e renl_Decl .nil)) (.b rfl (.c rfl (.c rfl .nil)) (.b rfl (.cons (.tipS (renl_Carrier _ _) rfl) (.cons (.tipS (renl_Decl _ _) rfl) .nil)) (.b rfl (.cons (.tipS (renl_Carrier _ _) rfl) (.cons (.tipS (renl_Decl _ _) rfl) .nil)) (.t rfl (.t rfl (.t rfl (.t rfl .nil)))))))) rfl)
 refine rg 0 ?_
 obtain ⟨x15, hx15, hj1⟩ := ob hj1
 refine call_pur (typing_ValidEnv_ok _ _ _ hx15) okF_55 (.cons (.same _) .nil) (fun g => by simp) (fun g => rfl) ?_
 refine onB_cond hj1 (fun hc11 hj1 => ?_) (fun hc11 hj1 => ?_)
 ·cases hj1
  exact hR1 _ _ (li (.u2 (.s (.s (.s (.u16 (.s (.u16 (.u16 (.u16 (.u16 (.u16 (.u8 (.u2 .n))))))))))))))
 ·obtain ⟨x16, hx16, hj1⟩ := ob hj1
  refine call_pur (typing_ValidEnv_ok _ _ _ hx16) okF_55 (.cons (.same _) .nil) (fun g => by simp) (fun g => rfl) ?_
  cases hj1
  exact hR1 _ _ (li (.u2 (.s (.s (.s (.u16 (.s (.u16 (.u16 (.u16 (.u16 (.u16 (.u8 (.u2 .n))))))))))))))
end Abs
end Go.Proofs.YtiiaccpcoclklaaGreat
namespace Go.Proofs.YtiiaccpcoclklaaGreat
namespace Abs
open Go Go.Proofs
set_option maxRecDepth 100000
set_option maxHeartbeats 40000000
end Abs
end Go.Proofs.YtiiaccpcoclklaaGreat
namespace Go.Proofs.YtiiaccpcoclklaaGreat
namespace Abs
open Go Go.Proofs
set_option maxRecDepth 100000
set_option maxHeartbeats 40000000
end Abs
end Go.Proofs.YtiiaccpcoclklaaGreat
namespace Go.Proofs.YtiiaccpcoclklaaGreat
end Go.Proofs.YtiiaccpcoclklaaGreat
