/-
  Plain functions and the contracts of Go functions by them (printed by gen.py). Conditions: none.
-/
import Derived.KernelRfl
import Derived.Test.YtiiaccpcoclklaaGreatCData2x72b33f
import Derived.Test.YtiiaccpcoclklaaGreatCDfx223ef1
import Derived.Test.YtiiaccpcoclklaaGreatCTDx112680
import Derived.Test.YtiiaccpcoclklaaGreatCT17xfab891
import Derived.Test.YtiiaccpcoclklaaGreatCT18x0ccb54
import Derived.Test.YtiiaccpcoclklaaGreatCT19xb3e98f
import Derived.Test.YtiiaccpcoclklaaGreatCT20x05df30
import Derived.Test.YtiiaccpcoclklaaGreatCT23x345714
set_option linter.unusedSimpArgs false
set_option linter.unusedVariables false
namespace Go.Proofs.YtiiaccpcoclklaaGreat
namespace Abs
open Go Go.Proofs
set_option maxRecDepth 100000
set_option maxHeartbeats 40000000
abbrev R2_typeOf_S (rec_R2_typeOf : Env → (List Decl) → Tm → Option (Ty × (List Int) × Int)) : Prop := ∀ (p0 : Env) (p1 : List Decl) (p2 : Tm) (r : Ty × (List Int) × Int), rec_R2_typeOf p0 p1 p2 = some r → ACalls Tryz.prog 71 [aEnv p0, sDe p1, aTm p2] [] (.tup [aTy r.1, sIn r.2.1, .i r.2.2]) []
theorem R2_typeOf_body_ok (n : Nat) (rec_R2_typeOf : Env → (List Decl) → Tm → Option (Ty × (List Int) × Int)) (hrec_R2_typeOf : R2_typeOf_S rec_R2_typeOf) (p0 : Env) (p1 : List Decl) (p2 : Tm) (r : Ty × (List Int) × Int) (h : R2_typeOf_body n rec_R2_typeOf p0 p1 p2 = some r) : ACalls Tryz.prog 71 [aEnv p0, sDe p1, aTm p2] [] (.tup [aTy r.1, sIn r.2.1, .i r.2.2]) [] := by
 unfold R2_typeOf_body at h
 refine acalls_start true Tryz.func71 rfl (nt Tryz.ntmps71 rfl) fun Q hQ t ht => ?_
 conv at ht => whnf
 subst ht
 refine .q fun K1 k1 => rg 3 ?_
 refine k1 _ _ ?_
 refine .q fun K2 k2 => rg 1 ?_
 refine k2 _ _ ?_
 refine .q fun K3 k3 => .q fun K4 k4 => rg 0 ?_
 refine k4 _ _ ?_
 refine .condS rfl h (fun hc1 h => ?_) (fun hc1 h => ?_)
 ·refine .q fun K5 k5 => rg 1 ?_
  obtain ⟨x1, hx1, h⟩ := ob h
  refine cp (R2_denotes_ok _ _ _ _ _ hx1) okF_111 (.cons (.same _) (.cons (.same _) (.cons (.same _) .nil))) ?_
  refine k5 _ _ ?_
  refine .q fun K6 k6 => .q fun K7 k7 => rg 0 ?_
  refine k7 _ _ ?_
  refine .condS rfl h (fun hc2 h => ?_) (fun hc2 h => ?_)
  ·refine .q fun K8 k8 => rg 0 ?_
   refine k8 _ _ ?_
   refine .ret ?_
   have e9 := sj h
   subst e9
   refine hQ _ _ _ (retPure τ_ok (fun g => by simp) ?_)
   conv => whnf
   try rfl
  ·refine .skip ?_
   refine k6 _ _ ?_
   refine .q fun K9 k9 => rg 0 ?_
   refine k9 _ _ ?_
   refine .ret ?_
   have e9 := sj h
   subst e9
   refine hQ _ _ _ (retPure τ_ok (fun g => by simp) ?_)
   conv => whnf
   try rfl
 ·refine .skip ?_
  refine k3 _ _ ?_
  refine .q fun K10 k10 => .q fun K11 k11 => ?_
  obtain ⟨s1, hj1, h⟩ := ob h
  have hR1 : ∀ t9 h9, Le 0 t9 h9 (.unk :: (sDe p1 :: (.unk :: (.ptr 0 0 :: (.unk :: (.ptr 1 0 :: (.ptr 2 0 :: (u2 (.ptr 3 0 :: (u32 (u2 (.bool s1 :: (u64 (u8 (u2 []))))))))))))))) [.box [sCa p0.carriers, sDe p0.names], .box [.i p2.op, .str p2.name, .i p2.n, .i p2.ty.kind, .str p2.ty.name, sTy p2.ty.kids, sTm p2.kids], .box [.i 0, .str ([] : Str), .slice (List.map encTy ([] : List Ty)) .nils], .box [.i 0, .str ([] : Str), .slice (List.map encTy ([] : List Ty)) .nils]] → K11 t9 h9 := by
   intro t9 h9 hw
   refine k11 _ _ (AW.le hw ?_)
   clear hw
   refine .condS rfl h (fun hc3 h => ?_) (fun hc3 h => ?_)
   ·refine .q fun K12 k12 => rg 0 ?_
    refine k12 _ _ ?_
    refine .ret ?_
    have e9 := sj h
    subst e9
    refine hQ _ _ _ (retPure τ_ok (fun g => by simp) ?_)
    conv => whnf
    try rfl
   ·refine .skip ?_
    refine k10 _ _ ?_
    refine .q fun K13 k13 => rg 0 ?_
    refine k13 _ _ ?_
    refine .q fun K14 k14 => .q fun K15 k15 => rg 0 ?_
    refine k15 _ _ ?_
    refine .block ?_
    obtain ⟨o1, ho1, h⟩ := ob h
    have hR2 : ∀ s3 : List Ty, o1 = .nx s3 → ∀ t9 h9, Le 0 t9 h9 (u4 (.unk :: (.ptr 0 0 :: (.ptr 1 0 :: (u2 (.ptr 2 0 :: (u2 (.slice (List.map encTy s3) (.tip 3 3) :: (u64 (u32 (u8 (u2 [])))))))))))) [.box [.i p2.op, .str p2.name, .i p2.n, .i p2.ty.kind, .str p2.ty.name, sTy p2.ty.kids, sTm p2.kids], .box [.i 0, .str ([] : Str), .slice (List.map encTy ([] : List Ty)) .nils], .box [.i 0, .str ([] : Str), .slice (List.map encTy ([] : List Ty)) .nils], .tip (List.length s3 * 3)] → K14 t9 h9 := by
     intro s3 ho
     subst ho
     dsimp only [LR.el] at h
     intro t9 h9 hw
     refine k14 _ _ (AW.le hw ?_)
     refine .q fun K16 k16 => rg 1 ?_
     obtain ⟨x2, hx2, h⟩ := ob h
     refine cp (R2_row_ok _ _ _ _ hx2) okF_140 (.cons (.same _) (.cons (.share _ _) .nil)) ?_
     refine k16 _ _ ?_
     refine .q fun K17 k17 => .q fun K18 k18 => rg 0 ?_
     refine k18 _ _ ?_
     refine .condS rfl h (fun hc4 h => ?_) (fun hc4 h => ?_)
     ·refine .q fun K19 k19 => rg 0 ?_
      refine k19 _ _ ?_
      refine .ret ?_
      have e9 := sj h
      subst e9
      refine hQ _ _ _ (retPure τ_ok (fun g => by simp) ?_)
      conv => whnf
      try rfl
     ·refine .skip ?_
      refine k17 _ _ ?_
      refine .q fun K20 k20 => .q fun K21 k21 => rg 0 ?_
      obtain ⟨x3, hx3, h⟩ := ob h
      refine call_pur (R1_ValidType_ok _ _ _ hx3) okF_42 (.cons (.same _) .nil) (fun g => by simp) (fun g => rfl) ?_
      refine k21 _ _ ?_
      refine .condS rfl h (fun hc5 h => ?_) (fun hc5 h => ?_)
      ·refine .q fun K22 k22 => rg 0 ?_
       refine k22 _ _ ?_
       refine .ret ?_
       have e9 := sj h
       subst e9
       refine hQ _ _ _ (retPure τ_ok (fun g => by simp) ?_)
       conv => whnf
       try rfl
      ·refine .skip ?_
       refine k20 _ _ ?_
       refine .q fun K23 k23 => rg 0 ?_
       refine k23 _ _ ?_
       refine .ret ?_
       have e9 := sj h
       subst e9
       refine hQ _ _ _ (retPure τ_ok (fun g => by simp) ?_)
       conv => whnf
       try rfl
    refine .loopS (R2_typeOf_L0 n rec_R2_typeOf p0 p1 p2) (fun (s2 : (List Ty) × Int) => (.unk :: (sDe p1 :: (.unk :: (.ptr 0 0 :: (.unk :: (.ptr 1 0 :: (.ptr 2 0 :: (u2 (.ptr 3 0 :: (u2 (.slice (List.map encTy s2.1) (.tip 4 3) :: (.i s2.2 :: (u64 (u32 (u8 (.unk :: []))))))))))))))))) (fun (s2 : (List Ty) × Int) => [.box [sCa p0.carriers, sDe p0.names], .box [.i p2.op, .str p2.name, .i p2.n, .i p2.ty.kind, .str p2.ty.name, sTy p2.ty.kids, sTm p2.kids], .box [.i 0, .str ([] : Str), .slice (List.map encTy ([] : List Ty)) .nils], .box [.i 0, .str ([] : Str), .slice (List.map encTy ([] : List Ty)) .nils], .tip (List.length s2.1 * 3)]) ho1 (fun _ => rfl) (wk [some 0, some 1, some 2, some 3, none] (.u (.e renl_Decl (.u (.c rfl (.u (.c rfl (.c rfl (.u2 (.c rfl (.u2 (.cons (.nils _ _) (.c rfl (.u64 (.u32 (.u8 (.u .nil)))))))))))))))) (.b rfl (.e renl_Carrier (.e renl_Decl .nil)) (.b rfl (.c rfl (.c rfl (.c rfl (.c rfl (.c rfl (.e renl_Ty (.e renl_Tm .nil))))))) (.b rfl (.c rfl (.c rfl (.c rfl .nil))) (.b rfl (.c rfl (.c rfl (.c rfl .nil))) (.w rfl .nil))))) rfl) ?_
    intro n1 s2 hs1 KL1 hKL1
    unfold R2_typeOf_L0 at hs1
    refine .q fun K24 k24 => .q fun K25 k25 => rg 0 ?_
    refine len_of (l := p2.kids) (f := encTm) ?_
    refine k25 _ _ ?_
    refine .condS rfl hs1 (fun hc6 hs1 => ?_) (fun hc6 hs1 => ?_)
    ·refine .skip ?_
     refine k24 _ _ ?_
     refine .q fun K26 k26 => ?_
     refine .block ?_
     refine .q fun K27 k27 => rg 0 ?_
     refine k27 _ _ ?_
     refine .q fun K28 k28 => ?_
     obtain ⟨o2, hj2, hs1⟩ := ob hs1
     have hR3 : ∀ s4 : List Decl, o2 = .nx s4 → ∀ t9 h9, Le 0 t9 h9 (.unk :: (sDe p1 :: (.unk :: (.ptr 0 0 :: (.unk :: (.ptr 1 0 :: (.ptr 2 0 :: (u2 (.ptr 3 0 :: (u2 (.slice (List.map encTy s2.1) (.tip 4 3) :: (.i s2.2 :: (sDe s4 :: (u64 (u32 (u8 [])))))))))))))))) [.box [sCa p0.carriers, sDe p0.names], .box [.i p2.op, .str p2.name, .i p2.n, .i p2.ty.kind, .str p2.ty.name, sTy p2.ty.kids, sTm p2.kids], .box [.i 0, .str ([] : Str), .slice (List.map encTy ([] : List Ty)) .nils], .box [.i 0, .str ([] : Str), .slice (List.map encTy ([] : List Ty)) .nils], .tip (List.length s2.1 * 3)] → K28 t9 h9 := by
      intro s4 ho
      subst ho
      dsimp only [LR.el] at hs1
      intro t9 h9 hw
      refine k28 _ _ (AW.le hw ?_)
      clear hw
      refine .q fun K29 k29 => rg 1 ?_
      obtain ⟨x4, hx4, hs1⟩ := ob hs1
      refine idx_of (l := p2.kids) (f := encTm) (cs := [.i ((x4).op), .str ((x4).name), .i ((x4).n), .i (((x4).ty).kind), .str (((x4).ty).name), sTy (((x4).ty).kids), sTm ((x4).kids)]) hx4 (encTm_eq x4) rfl ?_
      obtain ⟨x5, hx5, hs1⟩ := ob hs1
      refine cp (hrec_R2_typeOf _ _ _ _ hx5) okF_71 (.cons (.same _) (.cons (.same _) (.cons (.same _) .nil))) ?_
      refine ⟨rfl, ?_⟩
      refine k29 _ _ ?_
      refine .q fun K30 k30 => .q fun K31 k31 => rg 0 ?_
      refine k31 _ _ ?_
      refine .condS rfl hs1 (fun hc7 hs1 => ?_) (fun hc7 hs1 => ?_)
      ·refine .q fun K32 k32 => rg 2 ?_
       refine ⟨List.map encI ([s2.2]), rfl, ?_⟩
       obtain ⟨x6, hx6, hs1⟩ := ob hs1
       refine app_tip (l := [s2.2]) (ys := x5.2.1) (f := encI) hx6 ok_I rfl rfl rfl ?_
       refine ⟨rfl, ?_⟩
       refine k32 _ _ ?_
       refine .ret ?_
       have e9 := sj hs1
       subst e9
       dsimp only [LR.el] at h
       have e9 := sj h
       subst e9
       refine hQ _ _ _ (retPure τ_ok (fun g => by simp) ?_)
       conv => whnf
       try rfl
      ·refine .skip ?_
       refine k30 _ _ ?_
       refine rg 2 ?_
       refine ⟨List.map encTy ([x5.1]), by simp only [List.map_cons, List.map_nil, encTy_eq]; rfl, ?_⟩
       obtain ⟨x7, hx7, hs1⟩ := ob hs1
       refine app_tip (l := s2.1) (ys := [x5.1]) (f := encTy) hx7 ok_Ty rfl rfl rfl ?_
       refine k26 _ _ ?_
       refine .know 13 0 fun hv1 => ?_
       refine .know 85 0 fun hv2 => ?_
       refine rg 0 ?_
       refine ⟨(s2.2 + 1), by have := wf64 hv1; have := vfl hv2; have h8 := of_decide_eq_true hc6; exact w64_id (by omega) (by omega), ?_⟩
       exact hKL1 _ _ _ hs1 (wk [some 0, some 1, some 2, some 3, some 7] (.u (.e renl_Decl (.u (.c rfl (.u (.c rfl (.c rfl (.u2 (.c rfl (.u2 (.cons (.tipS (renl_Ty _ _) rfl) (.c rfl (.u64 (.u32 (.u8 (.u .nil)))))))))))))))) (.b rfl (.e renl_Carrier (.e renl_Decl .nil)) (.b rfl (.c rfl (.c rfl (.c rfl (.c rfl (.c rfl (.e renl_Ty (.e renl_Tm .nil))))))) (.b rfl (.c rfl (.c rfl (.c rfl .nil))) (.b rfl (.c rfl (.c rfl (.c rfl .nil))) (.t rfl .nil))))) rfl)
     refine .q fun K33 k33 => ?_
     obtain ⟨s5, hj3, hj2⟩ := ob hj2
     have hR4 : ∀ t9 h9, Le 0 t9 h9 (.unk :: (sDe p1 :: (.unk :: (.ptr 0 0 :: (.unk :: (.ptr 1 0 :: (.ptr 2 0 :: (u2 (.ptr 3 0 :: (u2 (.slice (List.map encTy s2.1) (.tip 4 3) :: (.i s2.2 :: (sDe p1 :: (u32 (u8 (u4 (.unk :: (.bool s5 :: (u32 (u16 (u8 (u2 [])))))))))))))))))))))) [.box [sCa p0.carriers, sDe p0.names], .box [.i p2.op, .str p2.name, .i p2.n, .i p2.ty.kind, .str p2.ty.name, sTy p2.ty.kids, sTm p2.kids], .box [.i 0, .str ([] : Str), .slice (List.map encTy ([] : List Ty)) .nils], .box [.i 0, .str ([] : Str), .slice (List.map encTy ([] : List Ty)) .nils], .tip (List.length s2.1 * 3)] → K33 t9 h9 := by
      intro t9 h9 hw
      refine k33 _ _ (AW.le hw ?_)
      clear hw
      refine .condS rfl hj2 (fun hc8 hj2 => ?_) (fun hc8 hj2 => ?_)
      ·refine .q fun K34 k34 => .q fun K35 k35 => rg 0 ?_
       obtain ⟨x8, hx8, hj2⟩ := ob hj2
       refine idx_of (l := s2.1) (f := encTy) (cs := [.i ((x8).kind), .str ((x8).name), sTy ((x8).kids)]) hx8 (encTy_eq x8) rfl ?_
       obtain ⟨x9, hx9, hj2⟩ := ob hj2
       refine call_pur (R2_isSet_ok _ _ _ hx9) okF_139 (.cons (.same _) .nil) (fun g => by simp) (fun g => rfl) ?_
       refine k35 _ _ ?_
       refine .condS rfl hj2 (fun hc9 hj2 => ?_) (fun hc9 hj2 => ?_)
       ·refine .q fun K36 k36 => rg 0 ?_
        refine k36 _ _ ?_
        refine .ret ?_
        have e9 := sj hj2
        subst e9
        dsimp only [LR.el] at hs1
        have e9 := sj hs1
        subst e9
        dsimp only [LR.el] at h
        have e9 := sj h
        subst e9
        refine hQ _ _ _ (retPure τ_ok (fun g => by simp) ?_)
        conv => whnf
        try rfl
       ·refine .skip ?_
        refine k34 _ _ ?_
        refine rg 4 ?_
        refine ⟨List.map encDecl ([] : List Decl), rfl, ?_⟩
        obtain ⟨x10, hx10, hj2⟩ := ob hj2
        refine app_tip (l := ([] : List Decl)) (ys := p1) (f := encDecl) hx10 ok_Decl rfl rfl rfl ?_
        obtain ⟨x11, hx11, hj2⟩ := ob hj2
        refine idx_of (l := s2.1) (f := encTy) (cs := [.i ((x11).kind), .str ((x11).name), sTy ((x11).kids)]) hx11 (encTy_eq x11) rfl ?_
        obtain ⟨x12, hx12, hj2⟩ := ob hj2
        refine idx_of (l := x11.kids) (f := encTy) (cs := [.i ((x12).kind), .str ((x12).name), sTy ((x12).kids)]) hx12 (encTy_eq x12) rfl ?_
        refine ⟨List.map encDecl ([(Decl.mk p2.name x12)]), rfl, ?_⟩
        obtain ⟨x13, hx13, hj2⟩ := ob hj2
        refine app_tip (l := x10) (ys := [(Decl.mk p2.name x12)]) (f := encDecl) hx13 ok_Decl rfl rfl rfl ?_
        refine ⟨rfl, ?_⟩
        exact hR3 _ (sj hj2).symm _ _ (wk [some 0, some 1, some 2, some 3, some 4] (.u (.e renl_Decl (.u (.c rfl (.u (.c rfl (.c rfl (.u2 (.c rfl (.u2 (.cons (.tipS (renl_Ty _ _) rfl) (.c rfl (.e renl_Decl (.u64 (.u32 (.u8 .nil)))))))))))))))) (.b rfl (.e renl_Carrier (.e renl_Decl .nil)) (.b rfl (.c rfl (.c rfl (.c rfl (.c rfl (.c rfl (.e renl_Ty (.e renl_Tm .nil))))))) (.b rfl (.c rfl (.c rfl (.c rfl .nil))) (.b rfl (.c rfl (.c rfl (.c rfl .nil))) (.t rfl .nil))))) rfl)
      ·refine .skip ?_
       exact hR3 _ (sj hj2).symm _ _ (li (.u (.s (.u (.s (.u (.s (.s (.u2 (.s (.u2 (.s (.s (.s (.u16 (.u16 (.u16 (.u16 (.u16 (.u16 (.u8 .n)))))))))))))))))))))
     refine rg 0 ?_
     obtain ⟨x14, hx14, hj3⟩ := ob hj3
     refine call_pur (R1_Binder_ok _ _ _ hx14) okF_79 (.cons (.same _) .nil) (fun g => rfl) (fun g => rfl) ?_
     refine onB_cond hj3 (fun hc10 hj3 => ?_) (fun hc10 hj3 => ?_)
     ·cases hj3
      exact hR4 _ _ (li (.u (.s (.u (.s (.u (.s (.s (.u2 (.s (.u2 (.s (.s (.s (.u16 (.u16 (.u8 (.u4 (.u (.s (.u16 (.u16 (.u16 (.u8 (.u2 .n)))))))))))))))))))))))))
     ·cases hj3
      exact hR4 _ _ (li (.u (.s (.u (.s (.u (.s (.s (.u2 (.s (.u2 (.s (.s (.s (.u16 (.u16 (.u8 (.u4 (.u (.s (.u16 (.u16 (.u16 (.u8 (.u2 .n)))))))))))))))))))))))))
    ·refine .exit ?_
     exact hR2 _ (sj hs1).symm _ _ (wk [some 1, some 2, some 3, some 4] (.u4 (.u (.c rfl (.c rfl (.u2 (.c rfl (.u2 (.cons (.tipS (renl_Ty _ _) rfl) (.u64 (.u32 (.u8 (.u2 .nil)))))))))))) (.b rfl (.c rfl (.c rfl (.c rfl (.c rfl (.c rfl (.e renl_Ty (.e renl_Tm .nil))))))) (.b rfl (.c rfl (.c rfl (.c rfl .nil))) (.b rfl (.c rfl (.c rfl (.c rfl .nil))) (.t rfl .nil)))) rfl)
  refine rg 0 ?_
  refine onB_cond hj1 (fun hc11 hj1 => ?_) (fun hc11 hj1 => ?_)
  ·obtain ⟨x15, hx15, hj1⟩ := ob hj1
   refine call_pur (R2_Knows_ok _ _ _ _ hx15) okF_101 (.cons (.same _) (.cons (.same _) .nil)) (fun g => by simp) (fun g => rfl) ?_
   cases hj1
   exact hR1 _ _ (li (.u (.s (.u (.s (.u (.s (.s (.u2 (.s (.u16 (.u16 (.u2 (.s (.u16 (.u16 (.u16 (.u16 (.u8 (.u2 .n))))))))))))))))))))
  ·cases hj1
   exact hR1 _ _ (li (.u (.s (.u (.s (.u (.s (.s (.u2 (.s (.u16 (.u16 (.u2 (.s (.u16 (.u16 (.u16 (.u16 (.u8 (.u2 .n))))))))))))))))))))
theorem R2_typeOf_all (n : Nat) : R2_typeOf_S (R2_typeOf n) := by
 induction n with
 | zero => exact (fun p0 p1 p2 r h => by unfold R2_typeOf at h; cases h)
 | succ n ih =>
  exact (fun p0 p1 p2 r h => R2_typeOf_body_ok n _ ih p0 p1 p2 r (by unfold R2_typeOf at h; exact h))
theorem R2_typeOf_ok (n : Nat) : R2_typeOf_S (R2_typeOf n) := (R2_typeOf_all n)
abbrev R1_CopyType_S (rec_R1_CopyType : Ty → Option Ty) : Prop := ∀ (p0 : Ty) (r : Ty), rec_R1_CopyType p0 = some r → ACalls Tryz.prog 72 [aTy p0] [] (aTy r) []
theorem R1_CopyType_body_ok (n : Nat) (rec_R1_CopyType : Ty → Option Ty) (hrec_R1_CopyType : R1_CopyType_S rec_R1_CopyType) (p0 : Ty) (r : Ty) (h : R1_CopyType_body n rec_R1_CopyType p0 = some r) : ACalls Tryz.prog 72 [aTy p0] [] (aTy r) [] := by
 unfold R1_CopyType_body at h
 refine acalls_start true Tryz.func72 rfl (nt Tryz.ntmps72 rfl) fun Q hQ t ht => ?_
 conv at ht => whnf
 subst ht
 refine .q fun K1 k1 => rg 2 ?_
 refine k1 _ _ ?_
 refine .q fun K2 k2 => rg 1 ?_
 refine k2 _ _ ?_
 refine .q fun K3 k3 => .q fun K4 k4 => rg 0 ?_
 refine k4 _ _ ?_
 refine .block ?_
 obtain ⟨o1, ho1, h⟩ := ob h
 have hR1 : ∀ s2 : List Ty, o1 = .nx s2 → ∀ t9 h9, Le 0 t9 h9 (u2 (.ptr 0 0 :: (.ptr 1 0 :: (u16 (u8 (.unk :: [])))))) [.box [.i 0, .str ([] : Str), .slice (List.map encTy ([] : List Ty)) .nils], .box [.i p0.kind, .str p0.name, .slice (List.map encTy s2) (.tip 2 3)], .tip (List.length s2 * 3)] → K3 t9 h9 := by
  intro s2 ho
  subst ho
  dsimp only [LR.el] at h
  intro t9 h9 hw
  refine k3 _ _ (AW.le hw ?_)
  refine .q fun K5 k5 => rg 0 ?_
  refine k5 _ _ ?_
  refine .ret ?_
  have e9 := sj h
  subst e9
  refine hQ _ _ _ (retPure τ_ok (fun g => by simp) ?_)
  conv => whnf
  try rfl
 refine .loopS (R1_CopyType_L0 n rec_R1_CopyType p0) (fun (s1 : Int × (List Ty)) => (.unk :: (.ptr 0 0 :: (.ptr 1 0 :: (.ptr 2 0 :: (.i s1.1 :: (u16 (u8 [])))))))) (fun (s1 : Int × (List Ty)) => [.box [.i p0.kind, .str p0.name, sTy p0.kids], .box [.i 0, .str ([] : Str), .slice (List.map encTy ([] : List Ty)) .nils], .box [.i p0.kind, .str p0.name, .slice (List.map encTy s1.2) (.tip 3 3)], .tip (List.length s1.2 * 3)]) ho1 (fun _ => rfl) (wk [some 0, some 1, some 2, none] (.u (.c rfl (.c rfl (.c rfl (.c rfl (.u16 (.u8 .nil))))))) (.b rfl (.c rfl (.c rfl (.e renl_Ty .nil))) (.b rfl (.c rfl (.c rfl (.c rfl .nil))) (.b rfl (.c rfl (.c rfl (.cons (.nils _ _) .nil))) (.w rfl .nil)))) rfl) ?_
 intro n1 s1 hs1 KL1 hKL1
 unfold R1_CopyType_L0 at hs1
 refine .q fun K6 k6 => .q fun K7 k7 => rg 0 ?_
 refine len_of (l := p0.kids) (f := encTy) ?_
 refine k7 _ _ ?_
 refine .condS rfl hs1 (fun hc1 hs1 => ?_) (fun hc1 hs1 => ?_)
 ·refine .skip ?_
  refine k6 _ _ ?_
  refine .q fun K8 k8 => ?_
  refine .block ?_
  refine rg 2 ?_
  obtain ⟨x1, hx1, hs1⟩ := ob hs1
  refine idx_of (l := p0.kids) (f := encTy) (cs := [.i ((x1).kind), .str ((x1).name), sTy ((x1).kids)]) hx1 (encTy_eq x1) rfl ?_
  obtain ⟨x2, hx2, hs1⟩ := ob hs1
  refine cp (hrec_R1_CopyType _ _ hx2) okF_72 (.cons (.same _) .nil) ?_
  refine ⟨List.map encTy ([x2]), by simp only [List.map_cons, List.map_nil, encTy_eq]; rfl, ?_⟩
  obtain ⟨x3, hx3, hs1⟩ := ob hs1
  refine app_tip (l := s1.2) (ys := [x2]) (f := encTy) hx3 ok_Ty rfl rfl rfl ?_
  refine ⟨rfl, ?_⟩
  refine k8 _ _ ?_
  refine .know 4 0 fun hv1 => ?_
  refine .know 12 0 fun hv2 => ?_
  refine rg 0 ?_
  refine ⟨(s1.1 + 1), by have := wf64 hv1; have := vfl hv2; have h8 := of_decide_eq_true hc1; exact w64_id (by omega) (by omega), ?_⟩
  exact hKL1 _ _ _ hs1 (wk [some 0, some 1, some 2, some 5] (.u (.c rfl (.c rfl (.c rfl (.c rfl (.u16 (.u8 .nil))))))) (.b rfl (.c rfl (.c rfl (.e renl_Ty .nil))) (.b rfl (.c rfl (.c rfl (.c rfl .nil))) (.b rfl (.c rfl (.c rfl (.cons (.tipS (renl_Ty _ _) rfl) .nil))) (.t rfl .nil)))) rfl)
 ·refine .exit ?_
  exact hR1 _ (sj hs1).symm _ _ (wk [some 1, some 2, some 3] (.u2 (.c rfl (.c rfl (.u16 (.u8 (.u .nil)))))) (.b rfl (.c rfl (.c rfl (.c rfl .nil))) (.b rfl (.c rfl (.c rfl (.cons (.tipS (renl_Ty _ _) rfl) .nil))) (.t rfl .nil))) rfl)
theorem R1_CopyType_all (n : Nat) : R1_CopyType_S (R1_CopyType n) := by
 induction n with
 | zero => exact (fun p0 r h => by unfold R1_CopyType at h; cases h)
 | succ n ih =>
  exact (fun p0 r h => R1_CopyType_body_ok n _ ih p0 r (by unfold R1_CopyType at h; exact h))
theorem R1_CopyType_ok (n : Nat) : R1_CopyType_S (R1_CopyType n) := (R1_CopyType_all n)
theorem R2_TypeOf_ok (n : Nat) (p0 : Env) (p1 : Tm) (r : Ty × (List Int) × Int) (h : R2_TypeOf n p0 p1 = some r) : ACalls Tryz.prog 19 [aEnv p0, aTm p1] [] (.tup [aTy r.1, sIn r.2.1, .i r.2.2]) [] := by
 unfold R2_TypeOf at h
 refine acalls_start true Tryz.func19 rfl (nt Tryz.ntmps19 rfl) fun Q hQ t ht => ?_
 conv at ht => whnf
 subst ht
 refine .q fun K1 k1 => rg 3 ?_
 refine k1 _ _ ?_
 refine .q fun K2 k2 => .q fun K3 k3 => ?_
 obtain ⟨s1, hj1, h⟩ := ob h
 have hR1 : ∀ t9 h9, Le 0 t9 h9 (u2 (.ptr 0 0 :: (.ptr 1 0 :: (.ptr 2 0 :: (u8 (u4 (.bool s1 :: (u8 (u4 []))))))))) [.box [sCa p0.carriers, sDe p0.names], .box [.i p1.op, .str p1.name, .i p1.n, .i p1.ty.kind, .str p1.ty.name, sTy p1.ty.kids, sTm p1.kids], .box [.i 0, .str ([] : Str), .slice (List.map encTy ([] : List Ty)) .nils]] → K3 t9 h9 := by
  intro t9 h9 hw
  refine k3 _ _ (AW.le hw ?_)
  clear hw
  refine .condS rfl h (fun hc1 h => ?_) (fun hc1 h => ?_)
  ·refine .q fun K4 k4 => rg 0 ?_
   refine k4 _ _ ?_
   refine .ret ?_
   have e9 := sj h
   subst e9
   refine hQ _ _ _ (retPure τ_ok (fun g => by simp) ?_)
   conv => whnf
   try rfl
  ·refine .skip ?_
   refine k2 _ _ ?_
   refine .q fun K5 k5 => rg 1 ?_
   obtain ⟨x1, hx1, h⟩ := ob h
   refine cp (R2_typeOf_ok _ _ _ _ _ hx1) okF_71 (.cons (.same _) (.cons (.share _ _) (.cons (.same _) .nil))) ?_
   refine k5 _ _ ?_
   refine .q fun K6 k6 => rg 0 ?_
   obtain ⟨x2, hx2, h⟩ := ob h
   refine cp (R1_CopyType_ok _ _ _ hx2) okF_72 (.cons (.same _) .nil) ?_
   refine k6 _ _ ?_
   refine .ret ?_
   have e9 := sj h
   subst e9
   refine hQ _ _ _ (retPure τ_ok (fun g => by simp) ?_)
   conv => whnf
   try rfl
 refine rg 0 ?_
 obtain ⟨x3, hx3, hj1⟩ := ob hj1
 refine call_pur (R2_ValidEnv_ok _ _ _ hx3) okF_56 (.cons (.same _) .nil) (fun g => by simp) (fun g => rfl) ?_
 refine onB_cond hj1 (fun hc2 hj1 => ?_) (fun hc2 hj1 => ?_)
 ·cases hj1
  exact hR1 _ _ (li (.u2 (.s (.s (.s (.u8 (.u4 (.s (.u8 (.u4 .n))))))))))
 ·obtain ⟨x4, hx4, hj1⟩ := ob hj1
  refine call_pur (R1_Valid_ok _ _ _ hx4) okF_21 (.cons (.same _) .nil) (fun g => by simp) (fun g => rfl) ?_
  cases hj1
  exact hR1 _ _ (li (.u2 (.s (.s (.s (.u8 (.u4 (.s (.u8 (.u4 .n))))))))))
end Abs
end Go.Proofs.YtiiaccpcoclklaaGreat
