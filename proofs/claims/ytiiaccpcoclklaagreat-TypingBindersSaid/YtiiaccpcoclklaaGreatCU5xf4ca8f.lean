/-
  Plain functions and the contracts of Go functions by them (printed by gen.py). Conditions: none. All texts of the functions. Conditions: none.
-/
import Derived.KernelRfl
import Derived.Test.YtiiaccpcoclklaaGreatCData2x8e6344
import Derived.Test.YtiiaccpcoclklaaGreatCT1x9b470d
import Derived.Test.YtiiaccpcoclklaaGreatCT6x2cd585
import Derived.Test.YtiiaccpcoclklaaGreatCT16xd4fd4e
import Derived.Test.YtiiaccpcoclklaaGreatCT18x71d9d5
import Derived.Test.YtiiaccpcoclklaaGreatCT19xb2d40d
import Derived.Test.YtiiaccpcoclklaaGreatCAwxd7d9e0
import Derived.Test.YtiiaccpcoclklaaGreatCT26x683c2f
import Derived.Test.YtiiaccpcoclklaaGreatCU2x1f64eb
import Derived.Test.YtiiaccpcoclklaaGreatCU3x27f31b
import Derived.Test.YtiiaccpcoclklaaGreatCU4xb3fc1d
set_option linter.unusedSimpArgs false
set_option linter.unusedVariables false
namespace Go.Proofs.YtiiaccpcoclklaaGreat
namespace Abs
open Go Go.Proofs
set_option maxRecDepth 100000
set_option maxHeartbeats 40000000
end Abs
end Go.Proofs.YtiiaccpcoclklaaGreat
namespace Go.Proofs.YtiiaccpcoclklaaGreat
namespace Abs
open Go Go.Proofs
set_option maxRecDepth 100000
set_option maxHeartbeats 40000000
end Abs
end Go.Proofs.YtiiaccpcoclklaaGreat
namespace Go.Proofs.YtiiaccpcoclklaaGreat
namespace Abs
open Go Go.Proofs
set_option maxRecDepth 100000
set_option maxHeartbeats 40000000
theorem L2_TypingBinders_ok (n : Nat) (p0 : S_refinementlaw02_Binding) (r : Bool) (h : L2_TypingBinders n p0 = some r) : ACalls Tryz.prog 13 [.agg [sCa p0.env.carriers, sDe p0.env.names, .i p0.body.op, .str p0.body.name, .i p0.body.n, .i p0.body.ty.kind, .str p0.body.ty.name, sTy p0.body.ty.kids, sTm p0.body.kids, .i p0.domain.op, .str p0.domain.name, .i p0.domain.n, .i p0.domain.ty.kind, .str p0.domain.ty.name, sTy p0.domain.ty.kids, sTm p0.domain.kids, .str p0.name]] [] (.bool r) [] := by
 unfold L2_TypingBinders at h
 refine acalls_start true Tryz.func13 rfl (nt Tryz.ntmps13 rfl) fun Q hQ t ht => ?_
 conv at ht => whnf
 subst ht
 refine .q fun K1 k1 => rg 1 ?_
 refine k1 _ _ ?_
 refine .q fun K2 k2 => rg 3 ?_
 refine ⟨rfl, ?_⟩
 refine k2 _ _ ?_
 refine .q fun K3 k3 => .q fun K4 k4 => ?_
 obtain ⟨s1, hj1, h⟩ := ob h
 have hR1 : ∀ t9 h9, Le 0 t9 h9 (u2 (.unk :: (.ptr 0 0 :: (.ptr 1 0 :: (.ptr 2 0 :: (.str p0.name :: (u16 (u8 (u2 (.unk :: (.bool s1 :: (u64 (u8 (u4 (u2 (.unk :: [])))))))))))))))) [.box [sCa p0.env.carriers, sDe p0.env.names], .box [.i p0.body.op, .str p0.body.name, .i p0.body.n, .i p0.body.ty.kind, .str p0.body.ty.name, sTy p0.body.ty.kids, sTm p0.body.kids], .box [.i p0.domain.op, .str p0.domain.name, .i p0.domain.n, .i p0.domain.ty.kind, .str p0.domain.ty.name, sTy p0.domain.ty.kids, sTm p0.domain.kids]] → K4 t9 h9 := by
  intro t9 h9 hw
  refine k4 _ _ (AW.le hw ?_)
  clear hw
  refine .condS rfl h (fun hc1 h => ?_) (fun hc1 h => ?_)
  ·refine .q fun K5 k5 => rg 0 ?_
   obtain ⟨x1, hx1, h⟩ := ob h
   refine call_pur (L2_awake_ok _ _ hx1) okF_17 .nil (fun g => rfl) (fun g => rfl) ?_
   refine k5 _ _ ?_
   refine .ret ?_
   have e9 := sj h
   subst e9
   refine hQ _ _ _ (retPure τ_ok (fun g => rfl) ?_)
   conv => whnf
  ·refine .skip ?_
   refine k3 _ _ ?_
   refine .q fun K6 k6 => rg 1 ?_
   obtain ⟨x2, hx2, h⟩ := ob h
   refine cp (typing_Expression_ok _ _ _ _ hx2) okF_31 (.cons (.same _) (.cons (.same _) .nil)) ?_
   refine k6 _ _ ?_
   refine .q fun K7 k7 => .q fun K8 k8 => ?_
   obtain ⟨s2, hj2, h⟩ := ob h
   have hR2 : ∀ t9 h9, Le 0 t9 h9 (u2 (.unk :: (.ptr 0 0 :: (.ptr 1 0 :: (.ptr 2 0 :: (.str p0.name :: (.ptr 3 0 :: (u32 (u8 (.bool s2 :: (u64 (.unk :: [])))))))))))) [.box [sCa p0.env.carriers, sDe p0.env.names], .box [.i p0.body.op, .str p0.body.name, .i p0.body.n, .i p0.body.ty.kind, .str p0.body.ty.name, sTy p0.body.ty.kids, sTm p0.body.kids], .box [.i p0.domain.op, .str p0.domain.name, .i p0.domain.n, .i p0.domain.ty.kind, .str p0.domain.ty.name, sTy p0.domain.ty.kids, sTm p0.domain.kids], .box [.i x2.1.kind, .str x2.1.name, sTy x2.1.kids]] → K8 t9 h9 := by
    intro t9 h9 hw
    refine k8 _ _ (AW.le hw ?_)
    clear hw
    refine .condS rfl h (fun hc2 h => ?_) (fun hc2 h => ?_)
    ·refine .q fun K9 k9 => rg 0 ?_
     obtain ⟨x3, hx3, h⟩ := ob h
     refine call_pur (L2_awake_ok _ _ hx3) okF_17 .nil (fun g => rfl) (fun g => rfl) ?_
     refine k9 _ _ ?_
     refine .ret ?_
     have e9 := sj h
     subst e9
     refine hQ _ _ _ (retPure τ_ok (fun g => rfl) ?_)
     conv => whnf
    ·refine .skip ?_
     refine k7 _ _ ?_
     refine .q fun K10 k10 => rg 1 ?_
     refine k10 _ _ ?_
     refine .q fun K11 k11 => rg 2 ?_
     obtain ⟨x4, hx4, h⟩ := ob h
     refine call_gen [] [5, 6] [aEnv p0.env] [aEnv p0.env] (R2_CopyEnv_ok _ _ _ hx4) okF_59 rfl .nil (by simp; try decide) (.cons (.same _) .nil) (rn := .agg [.slice (List.map encCarrier x4.1) (.tip 5 2), .slice (List.map encDecl x4.2) (.tip 6 4)]) (by simp; try decide) (Hn := [.tip (List.length x4.1 * 2), .tip (List.length x4.2 * 4)]) ((rcons (rfl) (rcons (rfl) rfl))) ?_
     refine k11 _ _ ?_
     refine .q fun K12 k12 => .q fun K13 k13 => rg 0 ?_
     refine k13 _ _ ?_
     refine .block ?_
     obtain ⟨o1, ho1, h⟩ := ob h
     have hR3 : ∀ s4 : List Decl, o1 = .nx s4 → ∀ t9 h9, Le 0 t9 h9 (u2 (.unk :: (.ptr 0 0 :: (.ptr 1 0 :: (.ptr 2 0 :: (.str p0.name :: (.ptr 3 0 :: (.unk :: (.ptr 4 0 :: (u64 (u32 (u8 [])))))))))))) [.box [sCa p0.env.carriers, sDe p0.env.names], .box [.i p0.body.op, .str p0.body.name, .i p0.body.n, .i p0.body.ty.kind, .str p0.body.ty.name, sTy p0.body.ty.kids, sTm p0.body.kids], .box [.i p0.domain.op, .str p0.domain.name, .i p0.domain.n, .i p0.domain.ty.kind, .str p0.domain.ty.name, sTy p0.domain.ty.kids, sTm p0.domain.kids], .box [.i x2.1.kind, .str x2.1.name, sTy x2.1.kids], .box [.slice (List.map encCarrier x4.1) (.tip 5 2), .slice (List.map encDecl s4) (.tip 6 4)], .tip (List.length x4.1 * 2), .tip (List.length s4 * 4)] → K12 t9 h9 := by
      intro s4 ho
      subst ho
      dsimp only [LR.el] at h
      intro t9 h9 hw
      refine k12 _ _ (AW.le hw ?_)
      refine .q fun K14 k14 => rg 1 ?_
      obtain ⟨x5, hx5, h⟩ := ob h
      refine idx_of (l := x2.1.kids) (f := encTy) (cs := [.i ((x5).kind), .str ((x5).name), sTy ((x5).kids)]) hx5 (encTy_eq x5) rfl ?_
      obtain ⟨x6, hx6, h⟩ := ob h
      refine cp (typing_With_ok _ _ _ _ _ hx6) okF_53 (.cons (.agg' (.cons (.share _ _) (.cons (.share _ _) .nil))) (.cons (.same _) (.cons (.same _) .nil))) ?_
      refine ⟨rfl, ?_⟩
      refine k14 _ _ ?_
      refine .q fun K15 k15 => rg 2 ?_
      refine ⟨List.map encTm ([p0.domain, p0.body]), by simp only [List.map_cons, List.map_nil, encTm_eq]; rfl, ?_⟩
      refine k15 _ _ ?_
      refine .q fun K16 k16 => .q fun K17 k17 => ?_
      obtain ⟨s5, hj3, h⟩ := ob h
      have hR4 : ∀ t9 h9, Le 0 t9 h9 (u2 (.unk :: (.ptr 0 0 :: (.ptr 1 0 :: (u4 (u2 (.ptr 2 0 :: (.unk :: (.ptr 3 0 :: (u64 (u16 (u4 (u2 (.bool s5 :: (u8 (u4 (.unk :: []))))))))))))))))) [.box [sCa p0.env.carriers, sDe p0.env.names], .box [.i p0.body.op, .str p0.body.name, .i p0.body.n, .i p0.body.ty.kind, .str p0.body.ty.name, sTy p0.body.ty.kids, sTm p0.body.kids], .box [sCa x6.1.carriers, sDe x6.1.names], .box [.i 9, .str p0.name, .i 0, .i 0, .str ([] : Str), .slice (List.map encTy ([] : List Ty)) .nils, .slice (List.map encTm ([p0.domain, p0.body])) (.tip 4 7)], .tip (List.length ([p0.domain, p0.body]) * 7)] → K17 t9 h9 := by
       intro t9 h9 hw
       refine k17 _ _ (AW.le hw ?_)
       clear hw
       refine .condS rfl h (fun hc3 h => ?_) (fun hc3 h => ?_)
       ·refine .q fun K18 k18 => rg 0 ?_
        obtain ⟨x7, hx7, h⟩ := ob h
        refine call_pur (L2_awake_ok _ _ hx7) okF_17 .nil (fun g => rfl) (fun g => rfl) ?_
        refine k18 _ _ ?_
        refine .ret ?_
        have e9 := sj h
        subst e9
        refine hQ _ _ _ (retPure τ_ok (fun g => rfl) ?_)
        conv => whnf
       ·refine .skip ?_
        refine k16 _ _ ?_
        refine .q fun K19 k19 => ?_
        obtain ⟨s6, hj4, h⟩ := ob h
        have hR5 : ∀ t9 h9, Le 0 t9 h9 (u2 (.bool s6 :: (u64 (u32 (u8 (u4 (u2 (.unk :: [])))))))) [] → K19 t9 h9 := by
         intro t9 h9 hw
         refine k19 _ _ (AW.le hw ?_)
         clear hw
         refine .ret ?_
         have e9 := sj h
         subst e9
         refine hQ _ _ _ (retPure τ_ok (fun g => rfl) ?_)
         conv => whnf
        refine rg 0 ?_
        obtain ⟨x8, hx8, hj4⟩ := ob hj4
        refine call_pur (typing_Predicate_ok _ _ _ _ hx8) okF_38 (.cons (.same _) (.cons (.same _) .nil)) (fun g => by simp) (fun g => rfl) ?_
        obtain ⟨x9, hx9, hj4⟩ := ob hj4
        refine call_pur (typing_Predicate_ok _ _ _ _ hx9) okF_38 (.cons (.same _) (.cons (.agg' (.cons (.same _) (.cons (.same _) (.cons (.same _) (.cons (.same _) (.cons (.same _) (.cons (.share _ _) (.cons (.share _ _) .nil)))))))) .nil)) (fun g => by simp) (fun g => rfl) ?_
        refine onB_cond hj4 (fun hc4 hj4 => ?_) (fun hc4 hj4 => ?_)
        ·obtain ⟨x10, hx10, hj4⟩ := ob hj4
         refine call_pur (L2_awake_ok _ _ hx10) okF_17 .nil (fun g => rfl) (fun g => rfl) ?_
         refine ⟨rfl, ?_⟩
         cases hj4
         exact hR5 _ _ (wk [] (.u2 (.c rfl (.u64 (.u32 (.u8 (.u4 (.u2 (.u .nil)))))))) .nil rfl)
        ·refine ⟨rfl, ?_⟩
         cases hj4
         exact hR5 _ _ (wk [] (.u2 (.c rfl (.u64 (.u32 (.u8 (.u4 (.u2 (.u .nil)))))))) .nil rfl)
      refine rg 0 ?_
      refine onB_cond hj3 (fun hc5 hj3 => ?_) (fun hc5 hj3 => ?_)
      ·cases hj3
       exact hR4 _ _ (wk [some 0, some 1, some 7, some 9, some 8] (.u2 (.u (.c rfl (.c rfl (.u4 (.u2 (.c rfl (.u (.c rfl (.u64 (.u16 (.u4 (.u2 (.c rfl (.u8 (.u4 (.u .nil))))))))))))))))) (.b rfl (.e renl_Carrier (.e renl_Decl .nil)) (.b rfl (.c rfl (.c rfl (.c rfl (.c rfl (.c rfl (.e renl_Ty (.e renl_Tm .nil))))))) (.b rfl (.e renl_Carrier (.e renl_Decl .nil)) (.b rfl (.c rfl (.c rfl (.c rfl (.c rfl (.c rfl (.c rfl (.cons (.tipS (renl_Tm _ _) rfl) .nil))))))) (.t rfl .nil))))) rfl)
      ·obtain ⟨x11, hx11, hj3⟩ := ob hj3
       refine call_pur (R1_Valid_ok _ _ _ hx11) okF_21 (.cons (.agg' (.cons (.same _) (.cons (.same _) (.cons (.same _) (.cons (.same _) (.cons (.same _) (.cons (.share _ _) (.cons (.share _ _) .nil)))))))) .nil) (fun g => by simp) (fun g => rfl) ?_
       cases hj3
       exact hR4 _ _ (wk [some 0, some 1, some 7, some 9, some 8] (.u2 (.u (.c rfl (.c rfl (.u4 (.u2 (.c rfl (.u (.c rfl (.u64 (.u16 (.u4 (.u2 (.c rfl (.u8 (.u4 (.u .nil))))))))))))))))) (.b rfl (.e renl_Carrier (.e renl_Decl .nil)) (.b rfl (.c rfl (.c rfl (.c rfl (.c rfl (.c rfl (.e renl_Ty (.e renl_Tm .nil))))))) (.b rfl (.e renl_Carrier (.e renl_Decl .nil)) (.b rfl (.c rfl (.c rfl (.c rfl (.c rfl (.c rfl (.c rfl (.cons (.tipS (renl_Tm _ _) rfl) .nil))))))) (.t rfl .nil))))) rfl)
     refine .loopS (L2_TypingBinders_L0 n p0) (fun (s3 : Int × (List Decl)) => (u2 (.unk :: (.ptr 0 0 :: (.ptr 1 0 :: (.ptr 2 0 :: (.str p0.name :: (.ptr 3 0 :: (.unk :: (.ptr 4 0 :: (.i s3.1 :: (u64 (u32 (u4 (u2 (.unk :: [])))))))))))))))) (fun (s3 : Int × (List Decl)) => [.box [sCa p0.env.carriers, sDe p0.env.names], .box [.i p0.body.op, .str p0.body.name, .i p0.body.n, .i p0.body.ty.kind, .str p0.body.ty.name, sTy p0.body.ty.kids, sTm p0.body.kids], .box [.i p0.domain.op, .str p0.domain.name, .i p0.domain.n, .i p0.domain.ty.kind, .str p0.domain.ty.name, sTy p0.domain.ty.kids, sTm p0.domain.kids], .box [.i x2.1.kind, .str x2.1.name, sTy x2.1.kids], .box [.slice (List.map encCarrier x4.1) (.tip 5 2), .slice (List.map encDecl s3.2) (.tip 6 4)], .tip (List.length x4.1 * 2), .tip (List.length s3.2 * 4)]) ho1 (fun _ => rfl) (wk [some 0, some 1, some 2, some 3, some 4, some 5, none] (.u2 (.u (.c rfl (.c rfl (.c rfl (.c rfl (.c rfl (.u (.c rfl (.c rfl (.u64 (.u32 (.u4 (.u2 (.u .nil))))))))))))))) (.b rfl (.e renl_Carrier (.e renl_Decl .nil)) (.b rfl (.c rfl (.c rfl (.c rfl (.c rfl (.c rfl (.e renl_Ty (.e renl_Tm .nil))))))) (.b rfl (.c rfl (.c rfl (.c rfl (.c rfl (.c rfl (.e renl_Ty (.e renl_Tm .nil))))))) (.b rfl (.c rfl (.c rfl (.e renl_Ty .nil))) (.b rfl (.cons (.tipS (renl_Carrier _ _) rfl) (.cons (.nils _ _) .nil)) (.t rfl (.w rfl .nil))))))) rfl) ?_
     intro n1 s3 hs1 KL1 hKL1
     unfold L2_TypingBinders_L0 at hs1
     refine .q fun K20 k20 => .q fun K21 k21 => rg 0 ?_
     refine len_of (l := p0.env.names) (f := encDecl) ?_
     refine k21 _ _ ?_
     refine .condS rfl hs1 (fun hc6 hs1 => ?_) (fun hc6 hs1 => ?_)
     ·refine .skip ?_
      refine k20 _ _ ?_
      refine .q fun K22 k22 => ?_
      obtain ⟨s7, hj5, hs1⟩ := ob hs1
      have hR6 : ∀ t9 h9, Le 0 t9 h9 (u2 (.unk :: (.ptr 0 0 :: (.ptr 1 0 :: (.ptr 2 0 :: (.str p0.name :: (.ptr 3 0 :: (.unk :: (.ptr 4 0 :: (.i s3.1 :: (u64 (u32 (u4 (u2 (.unk :: []))))))))))))))) [.box [sCa p0.env.carriers, sDe p0.env.names], .box [.i p0.body.op, .str p0.body.name, .i p0.body.n, .i p0.body.ty.kind, .str p0.body.ty.name, sTy p0.body.ty.kids, sTm p0.body.kids], .box [.i p0.domain.op, .str p0.domain.name, .i p0.domain.n, .i p0.domain.ty.kind, .str p0.domain.ty.name, sTy p0.domain.ty.kids, sTm p0.domain.kids], .box [.i x2.1.kind, .str x2.1.name, sTy x2.1.kids], .box [.slice (List.map encCarrier x4.1) (.tip 5 2), .slice (List.map encDecl s7) (.tip 6 4)], .tip (List.length x4.1 * 2), .tip (List.length s7 * 4)] → K22 t9 h9 := by
       intro t9 h9 hw
       refine k22 _ _ (AW.le hw ?_)
       clear hw
       refine .know 10 0 fun hv1 => ?_
       refine .knowB 0 1 (fun hv2 => ?_) ⟨3, 0, rfl⟩
       refine rg 0 ?_
       refine ⟨(s3.1 + 1), by have := wf64 hv1; have := vfl hv2; have h8 := of_decide_eq_true hc6; exact w64_id (by omega) (by omega), ?_⟩
       exact hKL1 _ _ _ hs1 (li (.u2 (.u (.s (.s (.s (.s (.s (.u (.s (.s (.u16 (.u16 (.u16 (.u16 (.u16 (.u16 (.u4 (.u2 (.u .n))))))))))))))))))))
      refine .block ?_
      refine .q fun K23 k23 => rg 0 ?_
      obtain ⟨x12, hx12, hj5⟩ := ob hj5
      refine idx_of (l := p0.env.names) (f := encDecl) (cs := [.str ((x12).name), .i (((x12).ty).kind), .str (((x12).ty).name), sTy (((x12).ty).kids)]) hx12 (rfl) rfl ?_
      refine k23 _ _ ?_
      refine .condS rfl hj5 (fun hc7 hj5 => ?_) (fun hc7 hj5 => ?_)
      ·refine rg 2 ?_
       obtain ⟨x13, hx13, hj5⟩ := ob hj5
       refine idx_of (l := p0.env.names) (f := encDecl) (cs := [.str ((x13).name), .i (((x13).ty).kind), .str (((x13).ty).name), sTy (((x13).ty).kids)]) hx13 (rfl) rfl ?_
       refine ⟨List.map encDecl ([x13]), rfl, ?_⟩
       obtain ⟨x14, hx14, hj5⟩ := ob hj5
       refine app_tip (l := s3.2) (ys := [x13]) (f := encDecl) hx14 ok_Decl rfl rfl rfl ?_
       refine ⟨rfl, ?_⟩
       cases hj5
       exact hR6 _ _ (wk [some 0, some 1, some 2, some 3, some 4, some 5, some 8] (.u2 (.u (.c rfl (.c rfl (.c rfl (.c rfl (.c rfl (.u (.c rfl (.c rfl (.u64 (.u32 (.u4 (.u2 (.u .nil))))))))))))))) (.b rfl (.e renl_Carrier (.e renl_Decl .nil)) (.b rfl (.c rfl (.c rfl (.c rfl (.c rfl (.c rfl (.e renl_Ty (.e renl_Tm .nil))))))) (.b rfl (.c rfl (.c rfl (.c rfl (.c rfl (.c rfl (.e renl_Ty (.e renl_Tm .nil))))))) (.b rfl (.c rfl (.c rfl (.e renl_Ty .nil))) (.b rfl (.cons (.tipS (renl_Carrier _ _) rfl) (.cons (.tipS (renl_Decl _ _) rfl) .nil)) (.t rfl (.t rfl .nil))))))) rfl)
      ·refine .skip ?_
       cases hj5
       exact hR6 _ _ (li (.u2 (.u (.s (.s (.s (.s (.s (.u (.s (.s (.u16 (.u16 (.u16 (.u16 (.u16 (.u16 (.u4 (.u2 (.u .n))))))))))))))))))))
     ·refine .exit ?_
      exact hR3 _ (sj hs1).symm _ _ (li (.u2 (.u (.s (.s (.s (.s (.s (.u (.s (.u16 (.u16 (.u16 (.u16 (.u16 (.u16 (.u8 .n)))))))))))))))))
   refine rg 0 ?_
   refine onB_cond hj2 (fun hc8 hj2 => ?_) (fun hc8 hj2 => ?_)
   ·cases hj2
    exact hR2 _ _ (li (.u2 (.u (.s (.s (.s (.s (.s (.u16 (.u16 (.u8 (.s (.u16 (.u16 (.u16 (.u16 (.u .n)))))))))))))))))
   ·cases hj2
    exact hR2 _ _ (li (.u2 (.u (.s (.s (.s (.s (.s (.u16 (.u16 (.u8 (.s (.u16 (.u16 (.u16 (.u16 (.u .n)))))))))))))))))
 refine rg 0 ?_
 obtain ⟨x15, hx15, hj1⟩ := ob hj1
 refine call_pur (L2_small_ok _ _ _ hx15) okF_16 (.cons (.same _) .nil) (fun g => by simp) (fun g => rfl) ?_
 refine onB_cond hj1 (fun hc9 hj1 => ?_) (fun hc9 hj1 => ?_)
 ·cases hj1
  exact hR1 _ _ (wk [some 1, some 2, some 3] (.u2 (.u (.c rfl (.c rfl (.c rfl (.c rfl (.u16 (.u8 (.u2 (.u (.c rfl (.u64 (.u8 (.u4 (.u2 (.u .nil)))))))))))))))) (.b rfl (.e renl_Carrier (.e renl_Decl .nil)) (.b rfl (.c rfl (.c rfl (.c rfl (.c rfl (.c rfl (.e renl_Ty (.e renl_Tm .nil))))))) (.b rfl (.c rfl (.c rfl (.c rfl (.c rfl (.c rfl (.e renl_Ty (.e renl_Tm .nil))))))) .nil))) rfl)
 ·obtain ⟨x16, hx16, hj1⟩ := ob hj1
  refine call_pur (R1_Identifier_ok _ _ _ hx16) okF_58 (.cons (.same _) .nil) (fun g => rfl) (fun g => rfl) ?_
  refine onB_cond hj1 (fun hc10 hj1 => ?_) (fun hc10 hj1 => ?_)
  ·cases hj1
   exact hR1 _ _ (wk [some 1, some 2, some 3] (.u2 (.u (.c rfl (.c rfl (.c rfl (.c rfl (.u16 (.u8 (.u2 (.u (.c rfl (.u64 (.u8 (.u4 (.u2 (.u .nil)))))))))))))))) (.b rfl (.e renl_Carrier (.e renl_Decl .nil)) (.b rfl (.c rfl (.c rfl (.c rfl (.c rfl (.c rfl (.e renl_Ty (.e renl_Tm .nil))))))) (.b rfl (.c rfl (.c rfl (.c rfl (.c rfl (.c rfl (.e renl_Ty (.e renl_Tm .nil))))))) .nil))) rfl)
  ·obtain ⟨x17, hx17, hj1⟩ := ob hj1
   refine call_pur (R2_ValidEnv_ok _ _ _ hx17) okF_56 (.cons (.same _) .nil) (fun g => by simp) (fun g => rfl) ?_
   cases hj1
   exact hR1 _ _ (wk [some 1, some 2, some 3] (.u2 (.u (.c rfl (.c rfl (.c rfl (.c rfl (.u16 (.u8 (.u2 (.u (.c rfl (.u64 (.u8 (.u4 (.u2 (.u .nil)))))))))))))))) (.b rfl (.e renl_Carrier (.e renl_Decl .nil)) (.b rfl (.c rfl (.c rfl (.c rfl (.c rfl (.c rfl (.e renl_Ty (.e renl_Tm .nil))))))) (.b rfl (.c rfl (.c rfl (.c rfl (.c rfl (.c rfl (.e renl_Ty (.e renl_Tm .nil))))))) .nil))) rfl)
end Abs
end Go.Proofs.YtiiaccpcoclklaaGreat
namespace Go.Proofs.YtiiaccpcoclklaaGreat
end Go.Proofs.YtiiaccpcoclklaaGreat
