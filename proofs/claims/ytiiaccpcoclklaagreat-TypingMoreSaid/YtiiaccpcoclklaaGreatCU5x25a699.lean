/-
  Plain functions and the contracts of Go functions by them (printed by gen.py). Conditions: none. All texts of the functions. Conditions: none.
-/
import Derived.KernelRfl
import Derived.Test.YtiiaccpcoclklaaGreatCData2x772da3
import Derived.Test.YtiiaccpcoclklaaGreatCT1xa5fb9e
import Derived.Test.YtiiaccpcoclklaaGreatCT6x78208b
import Derived.Test.YtiiaccpcoclklaaGreatCT16x1b3ad6
import Derived.Test.YtiiaccpcoclklaaGreatCAwxaffe0d
import Derived.Test.YtiiaccpcoclklaaGreatCT29x9f3811
import Derived.Test.YtiiaccpcoclklaaGreatCDgx2c6638
import Derived.Test.YtiiaccpcoclklaaGreatCU2x30e072
import Derived.Test.YtiiaccpcoclklaaGreatCU3x2e23a9
import Derived.Test.YtiiaccpcoclklaaGreatCU4xcfd6e0
set_option linter.unusedSimpArgs false
set_option linter.unusedVariables false
namespace Go.Proofs.YtiiaccpcoclklaaGreat
namespace Abs
open Go Go.Proofs
set_option maxRecDepth 100000
set_option maxHeartbeats 40000000
abbrev R1_SameTerm_S (rec_R1_SameTerm : Tm → Tm → Option Bool) : Prop := ∀ (p0 : Tm) (p1 : Tm) (r : Bool), rec_R1_SameTerm p0 p1 = some r → ACalls Tryz.prog 34 [aTm p0, aTm p1] [] (.bool r) []
abbrev R1_SameTerms_S (rec_R1_SameTerms : (List Tm) → (List Tm) → Option Bool) : Prop := ∀ (p0 : List Tm) (p1 : List Tm) (r : Bool), rec_R1_SameTerms p0 p1 = some r → ACalls Tryz.prog 89 [sTm p0, sTm p1] [] (.bool r) []
theorem R1_SameTerm_body_ok (n : Nat) (rec_R1_SameTerm : Tm → Tm → Option Bool) (rec_R1_SameTerms : (List Tm) → (List Tm) → Option Bool) (hrec_R1_SameTerm : R1_SameTerm_S rec_R1_SameTerm) (hrec_R1_SameTerms : R1_SameTerms_S rec_R1_SameTerms) (p0 : Tm) (p1 : Tm) (r : Bool) (h : R1_SameTerm_body n rec_R1_SameTerm rec_R1_SameTerms p0 p1 = some r) : ACalls Tryz.prog 34 [aTm p0, aTm p1] [] (.bool r) [] := by
 unfold R1_SameTerm_body at h
 refine acalls_start true Tryz.func34 rfl (nt Tryz.ntmps34 rfl) fun Q hQ t ht => ?_
 conv at ht => whnf
 subst ht
 refine .q fun K1 k1 => rg 2 ?_
 refine k1 _ _ ?_
 refine .q fun K2 k2 => ?_
 obtain ⟨s1, hj1, h⟩ := ob h
 have hR1 : ∀ t9 h9, Le 0 t9 h9 (u4 (.bool s1 :: (u32 (.unk :: [])))) [] → K2 t9 h9 := by
  intro t9 h9 hw
  refine k2 _ _ (AW.le hw ?_)
  clear hw
  refine .ret ?_
  have e9 := sj h
  subst e9
  refine hQ _ _ _ (retPure τ_ok (fun g => rfl) ?_)
  conv => whnf
 refine rg 0 ?_
 refine onB_cond hj1 (fun hc1 hj1 => ?_) (fun hc1 hj1 => ?_)
 ·refine onB_cond hj1 (fun hc2 hj1 => ?_) (fun hc2 hj1 => ?_)
  ·refine onB_cond hj1 (fun hc3 hj1 => ?_) (fun hc3 hj1 => ?_)
   ·obtain ⟨x1, hx1, hj1⟩ := ob hj1
    refine call_pur (R1_SameType_ok _ _ _ _ hx1) okF_20 (.cons (.same _) (.cons (.same _) .nil)) (fun g => by simp) (fun g => rfl) ?_
    refine onB_cond hj1 (fun hc4 hj1 => ?_) (fun hc4 hj1 => ?_)
    ·obtain ⟨x2, hx2, hj1⟩ := ob hj1
     refine call_pur (hrec_R1_SameTerms _ _ _ hx2) okF_89 (.cons (.same _) (.cons (.same _) .nil)) (fun g => by simp) (fun g => rfl) ?_
     cases hj1
     exact hR1 _ _ (wk [] (.u4 (.c rfl (.u32 (.u .nil)))) .nil rfl)
    ·cases hj1
     exact hR1 _ _ (wk [] (.u4 (.c rfl (.u32 (.u .nil)))) .nil rfl)
   ·cases hj1
    exact hR1 _ _ (wk [] (.u4 (.c rfl (.u32 (.u .nil)))) .nil rfl)
  ·cases hj1
   exact hR1 _ _ (wk [] (.u4 (.c rfl (.u32 (.u .nil)))) .nil rfl)
 ·cases hj1
  exact hR1 _ _ (wk [] (.u4 (.c rfl (.u32 (.u .nil)))) .nil rfl)
theorem R1_SameTerms_body_ok (n : Nat) (rec_R1_SameTerm : Tm → Tm → Option Bool) (rec_R1_SameTerms : (List Tm) → (List Tm) → Option Bool) (hrec_R1_SameTerm : R1_SameTerm_S rec_R1_SameTerm) (hrec_R1_SameTerms : R1_SameTerms_S rec_R1_SameTerms) (p0 : List Tm) (p1 : List Tm) (r : Bool) (h : R1_SameTerms_body n rec_R1_SameTerm rec_R1_SameTerms p0 p1 = some r) : ACalls Tryz.prog 89 [sTm p0, sTm p1] [] (.bool r) [] := by
 unfold R1_SameTerms_body at h
 refine acalls_start true Tryz.func89 rfl (nt Tryz.ntmps89 rfl) fun Q hQ t ht => ?_
 conv at ht => whnf
 subst ht
 refine .q fun K1 k1 => rg 0 ?_
 refine k1 _ _ ?_
 refine .q fun K2 k2 => .q fun K3 k3 => rg 0 ?_
 refine len_of (l := p0) (f := encTm) ?_
 refine len_of (l := p1) (f := encTm) ?_
 refine k3 _ _ ?_
 refine .condS rfl h (fun hc1 h => ?_) (fun hc1 h => ?_)
 ·refine .q fun K4 k4 => rg 0 ?_
  refine k4 _ _ ?_
  refine .ret ?_
  have e9 := sj h
  subst e9
  refine hQ _ _ _ (retPure τ_ok (fun g => rfl) ?_)
  conv => whnf
 ·refine .skip ?_
  refine k2 _ _ ?_
  refine .q fun K5 k5 => .q fun K6 k6 => rg 0 ?_
  refine k6 _ _ ?_
  refine .block ?_
  obtain ⟨o1, ho1, h⟩ := ob h
  have hR1 : ∀ s2 : Unit, o1 = .nx s2 → ∀ t9 h9, Le 0 t9 h9 (u16 (u8 (u2 (.unk :: [])))) [] → K5 t9 h9 := by
   intro s2 ho
   subst ho
   dsimp only [LR.el] at h
   intro t9 h9 hw
   refine k5 _ _ (AW.le hw ?_)
   refine .q fun K7 k7 => rg 0 ?_
   refine k7 _ _ ?_
   refine .ret ?_
   have e9 := sj h
   subst e9
   refine hQ _ _ _ (retPure τ_ok (fun g => rfl) ?_)
   conv => whnf
  refine .loopS (R1_SameTerms_L0 n rec_R1_SameTerm rec_R1_SameTerms p0 p1) (fun (s1 : Int) => (sTm p0 :: (sTm p1 :: (u2 (.unk :: (.i s1 :: (u16 (u4 (.unk :: []))))))))) (fun (s1 : Int) => []) ho1 (fun _ => rfl) (li (.s (.s (.u2 (.u (.s (.u16 (.u4 (.u .n))))))))) ?_
  intro n1 s1 hs1 KL1 hKL1
  unfold R1_SameTerms_L0 at hs1
  refine .q fun K8 k8 => .q fun K9 k9 => rg 0 ?_
  refine len_of (l := p0) (f := encTm) ?_
  refine k9 _ _ ?_
  refine .condS rfl hs1 (fun hc2 hs1 => ?_) (fun hc2 hs1 => ?_)
  ·refine .skip ?_
   refine k8 _ _ ?_
   refine .q fun K10 k10 => ?_
   refine .block ?_
   refine .q fun K11 k11 => rg 0 ?_
   obtain ⟨x1, hx1, hs1⟩ := ob hs1
   refine idx_of (l := p0) (f := encTm) (cs := [.i ((x1).op), .str ((x1).name), .i ((x1).n), .i (((x1).ty).kind), .str (((x1).ty).name), sTy (((x1).ty).kids), sTm ((x1).kids)]) hx1 (encTm_eq x1) rfl ?_
   obtain ⟨x2, hx2, hs1⟩ := ob hs1
   refine idx_of (l := p1) (f := encTm) (cs := [.i ((x2).op), .str ((x2).name), .i ((x2).n), .i (((x2).ty).kind), .str (((x2).ty).name), sTy (((x2).ty).kids), sTm ((x2).kids)]) hx2 (encTm_eq x2) rfl ?_
   obtain ⟨x3, hx3, hs1⟩ := ob hs1
   refine call_pur (hrec_R1_SameTerm _ _ _ hx3) okF_34 (.cons (.same _) (.cons (.same _) .nil)) (fun g => by simp) (fun g => rfl) ?_
   refine ⟨rfl, ?_⟩
   refine k11 _ _ ?_
   refine .condS rfl hs1 (fun hc3 hs1 => ?_) (fun hc3 hs1 => ?_)
   ·refine .q fun K12 k12 => rg 0 ?_
    refine k12 _ _ ?_
    refine .ret ?_
    have e9 := sj hs1
    subst e9
    dsimp only [LR.el] at h
    have e9 := sj h
    subst e9
    refine hQ _ _ _ (retPure τ_ok (fun g => rfl) ?_)
    conv => whnf
   ·refine .skip ?_
    refine k10 _ _ ?_
    refine .know 5 0 fun hv1 => ?_
    refine .know 0 0 fun hv2 => ?_
    refine rg 0 ?_
    refine ⟨(s1 + 1), by have := wf64 hv1; have := vfl hv2; have h8 := of_decide_eq_true hc2; exact w64_id (by omega) (by omega), ?_⟩
    exact hKL1 _ _ _ hs1 (li (.s (.s (.u2 (.u (.s (.u16 (.u4 (.u .n)))))))))
  ·refine .exit ?_
   exact hR1 _ (sj hs1).symm _ _ (li (.u16 (.u8 (.u2 (.u .n)))))
theorem R1_SameTerm_all (n : Nat) : R1_SameTerm_S (R1_SameTerm n) ∧ R1_SameTerms_S (R1_SameTerms n) := by
 induction n with
 | zero => exact ⟨(fun p0 p1 r h => by unfold R1_SameTerm at h; cases h), (fun p0 p1 r h => by unfold R1_SameTerms at h; cases h)⟩
 | succ n ih =>
  exact ⟨(fun p0 p1 r h => R1_SameTerm_body_ok n _ _ ih.1 ih.2 p0 p1 r (by unfold R1_SameTerm at h; exact h)), (fun p0 p1 r h => R1_SameTerms_body_ok n _ _ ih.1 ih.2 p0 p1 r (by unfold R1_SameTerms at h; exact h))⟩
theorem R1_SameTerm_ok (n : Nat) : R1_SameTerm_S (R1_SameTerm n) := (R1_SameTerm_all n).1
end Abs
end Go.Proofs.YtiiaccpcoclklaaGreat
namespace Go.Proofs.YtiiaccpcoclklaaGreat
namespace Abs
open Go Go.Proofs
set_option maxRecDepth 100000
set_option maxHeartbeats 40000000
theorem L2_TypingMore_ok (n : Nat) (p0 : Env) (p1 : Env) (p2 : Tm) (r : Bool) (h : L2_TypingMore n p0 p1 p2 = some r) : ACalls Tryz.prog 14 [aEnv p0, aEnv p1, aTm p2] [] (.bool r) [] := by
 unfold L2_TypingMore at h
 refine acalls_start true Tryz.func14 rfl (nt Tryz.ntmps14 rfl) fun Q hQ t ht => ?_
 conv at ht => whnf
 subst ht
 refine .q fun K1 k1 => rg 3 ?_
 refine k1 _ _ ?_
 refine .q fun K2 k2 => .q fun K3 k3 => ?_
 obtain ⟨s1, hj1, h⟩ := ob h
 have hR1 : ∀ t9 h9, Le 0 t9 h9 (u2 (.unk :: (.ptr 0 0 :: (.ptr 1 0 :: (.ptr 2 0 :: (u16 (u4 (.bool s1 :: (u32 (u16 (u8 (u4 [])))))))))))) [.box [sCa p0.carriers, sDe p0.names], .box [sCa p1.carriers, sDe p1.names], .box [.i p2.op, .str p2.name, .i p2.n, .i p2.ty.kind, .str p2.ty.name, sTy p2.ty.kids, sTm p2.kids]] → K3 t9 h9 := by
  intro t9 h9 hw
  refine k3 _ _ (AW.le hw ?_)
  clear hw
  refine .condS rfl h (fun hc1 h => ?_) (fun hc1 h => ?_)
  ·refine .q fun K4 k4 => rg 0 ?_
   obtain ⟨x1, hx1, h⟩ := ob h
   refine call_pur (L2_awake_ok _ _ hx1) okF_17 .nil (fun g => rfl) (fun g => rfl) ?_
   refine k4 _ _ ?_
   refine .ret ?_
   have e9 := sj h
   subst e9
   refine hQ _ _ _ (retPure τ_ok (fun g => rfl) ?_)
   conv => whnf
  ·refine .skip ?_
   refine k2 _ _ ?_
   refine .q fun K5 k5 => rg 1 ?_
   obtain ⟨x2, hx2, h⟩ := ob h
   refine cp (typing_TypeOf_ok _ _ _ _ hx2) okF_18 (.cons (.same _) (.cons (.same _) .nil)) ?_
   refine k5 _ _ ?_
   refine .q fun K6 k6 => rg 1 ?_
   obtain ⟨x3, hx3, h⟩ := ob h
   refine cp (typing_Union_ok _ _ _ _ hx3) okF_60 (.cons (.same _) (.cons (.same _) .nil)) ?_
   refine k6 _ _ ?_
   refine .q fun K7 k7 => .q fun K8 k8 => ?_
   obtain ⟨s2, hj2, h⟩ := ob h
   have hR2 : ∀ t9 h9, Le 0 t9 h9 (u2 (.unk :: (.ptr 0 0 :: (.unk :: (.ptr 1 0 :: (.unk :: (.ptr 2 0 :: (u2 (.ptr 3 0 :: (u32 (u2 (.unk :: (.bool s2 :: (u32 (u8 []))))))))))))))) [.box [sCa p0.carriers, sDe p0.names], .box [.i p2.op, .str p2.name, .i p2.n, .i p2.ty.kind, .str p2.ty.name, sTy p2.ty.kids, sTm p2.kids], .box [.i x2.1.kind, .str x2.1.name, sTy x2.1.kids], .box [sCa x3.1.carriers, sDe x3.1.names]] → K8 t9 h9 := by
    intro t9 h9 hw
    refine k8 _ _ (AW.le hw ?_)
    clear hw
    refine .condS rfl h (fun hc2 h => ?_) (fun hc2 h => ?_)
    ·refine .q fun K9 k9 => rg 0 ?_
     obtain ⟨x4, hx4, h⟩ := ob h
     refine call_pur (L2_awake_ok _ _ hx4) okF_17 .nil (fun g => rfl) (fun g => rfl) ?_
     refine k9 _ _ ?_
     refine .ret ?_
     have e9 := sj h
     subst e9
     refine hQ _ _ _ (retPure τ_ok (fun g => rfl) ?_)
     conv => whnf
    ·refine .skip ?_
     refine k7 _ _ ?_
     refine .q fun K10 k10 => rg 1 ?_
     obtain ⟨x5, hx5, h⟩ := ob h
     refine cp (typing_TypeOf_ok _ _ _ _ hx5) okF_18 (.cons (.same _) (.cons (.same _) .nil)) ?_
     refine k10 _ _ ?_
     refine .q fun K11 k11 => rg 1 ?_
     obtain ⟨x6, hx6, h⟩ := ob h
     refine cp (typing_Defined_ok _ _ _ _ hx6) okF_23 (.cons (.same _) (.cons (.same _) .nil)) ?_
     refine k11 _ _ ?_
     refine .q fun K12 k12 => rg 1 ?_
     obtain ⟨x7, hx7, h⟩ := ob h
     refine cp (typing_Defined_ok _ _ _ _ hx7) okF_23 (.cons (.same _) (.cons (.same _) .nil)) ?_
     refine k12 _ _ ?_
     refine .q fun K13 k13 => ?_
     obtain ⟨s3, hj3, h⟩ := ob h
     have hR3 : ∀ t9 h9, Le 0 t9 h9 (u4 (u2 (.bool s3 :: (u64 (u16 []))))) [] → K13 t9 h9 := by
      intro t9 h9 hw
      refine k13 _ _ (AW.le hw ?_)
      clear hw
      refine .ret ?_
      have e9 := sj h
      subst e9
      refine hQ _ _ _ (retPure τ_ok (fun g => rfl) ?_)
      conv => whnf
     refine rg 0 ?_
     refine onB_cond hj3 (fun hc3 hj3 => ?_) (fun hc3 hj3 => ?_)
     ·obtain ⟨x8, hx8, hj3⟩ := ob hj3
      refine call_pur (R1_SameType_ok _ _ _ _ hx8) okF_20 (.cons (.same _) (.cons (.same _) .nil)) (fun g => by simp) (fun g => rfl) ?_
      refine onB_cond hj3 (fun hc4 hj3 => ?_) (fun hc4 hj3 => ?_)
      ·refine onB_cond hj3 (fun hc5 hj3 => ?_) (fun hc5 hj3 => ?_)
       ·obtain ⟨x9, hx9, hj3⟩ := ob hj3
        refine call_pur (R1_SameTerm_ok _ _ _ _ hx9) okF_34 (.cons (.same _) (.cons (.same _) .nil)) (fun g => by simp) (fun g => rfl) ?_
        refine onB_cond hj3 (fun hc6 hj3 => ?_) (fun hc6 hj3 => ?_)
        ·obtain ⟨x10, hx10, hj3⟩ := ob hj3
         refine call_pur (L2_awake_ok _ _ hx10) okF_17 .nil (fun g => rfl) (fun g => rfl) ?_
         cases hj3
         exact hR3 _ _ (wk [] (.u4 (.u2 (.c rfl (.u64 (.u16 .nil))))) .nil rfl)
        ·cases hj3
         exact hR3 _ _ (wk [] (.u4 (.u2 (.c rfl (.u64 (.u16 .nil))))) .nil rfl)
       ·cases hj3
        exact hR3 _ _ (wk [] (.u4 (.u2 (.c rfl (.u64 (.u16 .nil))))) .nil rfl)
      ·cases hj3
       exact hR3 _ _ (wk [] (.u4 (.u2 (.c rfl (.u64 (.u16 .nil))))) .nil rfl)
     ·cases hj3
      exact hR3 _ _ (wk [] (.u4 (.u2 (.c rfl (.u64 (.u16 .nil))))) .nil rfl)
   refine rg 0 ?_
   refine onB_cond hj2 (fun hc7 hj2 => ?_) (fun hc7 hj2 => ?_)
   ·cases hj2
    exact hR2 _ _ (wk [some 0, some 2, some 3, some 4] (.u2 (.u (.c rfl (.u (.c rfl (.u (.c rfl (.u2 (.c rfl (.u32 (.u2 (.u (.c rfl (.u32 (.u8 .nil))))))))))))))) (.b rfl (.e renl_Carrier (.e renl_Decl .nil)) (.b rfl (.c rfl (.c rfl (.c rfl (.c rfl (.c rfl (.e renl_Ty (.e renl_Tm .nil))))))) (.b rfl (.c rfl (.c rfl (.e renl_Ty .nil))) (.b rfl (.e renl_Carrier (.e renl_Decl .nil)) .nil)))) rfl)
   ·cases hj2
    exact hR2 _ _ (wk [some 0, some 2, some 3, some 4] (.u2 (.u (.c rfl (.u (.c rfl (.u (.c rfl (.u2 (.c rfl (.u32 (.u2 (.u (.c rfl (.u32 (.u8 .nil))))))))))))))) (.b rfl (.e renl_Carrier (.e renl_Decl .nil)) (.b rfl (.c rfl (.c rfl (.c rfl (.c rfl (.c rfl (.e renl_Ty (.e renl_Tm .nil))))))) (.b rfl (.c rfl (.c rfl (.e renl_Ty .nil))) (.b rfl (.e renl_Carrier (.e renl_Decl .nil)) .nil)))) rfl)
 refine rg 0 ?_
 obtain ⟨x11, hx11, hj1⟩ := ob hj1
 refine call_pur (L2_small_ok _ _ _ hx11) okF_16 (.cons (.same _) .nil) (fun g => by simp) (fun g => rfl) ?_
 refine onB_cond hj1 (fun hc8 hj1 => ?_) (fun hc8 hj1 => ?_)
 ·cases hj1
  exact hR1 _ _ (li (.u2 (.u (.s (.s (.s (.u16 (.u4 (.s (.u16 (.u16 (.u16 (.u8 (.u4 .n))))))))))))))
 ·obtain ⟨x12, hx12, hj1⟩ := ob hj1
  refine call_pur (L2_small_ok _ _ _ hx12) okF_16 (.cons (.same _) .nil) (fun g => by simp) (fun g => rfl) ?_
  cases hj1
  exact hR1 _ _ (li (.u2 (.u (.s (.s (.s (.u16 (.u4 (.s (.u16 (.u16 (.u16 (.u8 (.u4 .n))))))))))))))
end Abs
end Go.Proofs.YtiiaccpcoclklaaGreat
namespace Go.Proofs.YtiiaccpcoclklaaGreat
namespace Abs
open Go Go.Proofs
set_option maxRecDepth 100000
set_option maxHeartbeats 40000000
end Abs
end Go.Proofs.YtiiaccpcoclklaaGreat
namespace Go.Proofs.YtiiaccpcoclklaaGreat
end Go.Proofs.YtiiaccpcoclklaaGreat
