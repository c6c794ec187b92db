/-
  Plain functions and the contracts of Go functions by them (printed by gen.py). Conditions: none.
-/
import Derived.KernelRfl
import Derived.Test.YtiiaccpcoclklaaGreatCAbs38xf390fb
import Derived.Test.YtiiaccpcoclklaaGreatCDgx37bbb7
import Derived.Test.YtiiaccpcoclklaaGreatCAwx239760
import Derived.Test.YtiiaccpcoclklaaGreatCT1x630449
import Derived.Test.YtiiaccpcoclklaaGreatCT4xfe1715
import Derived.Test.YtiiaccpcoclklaaGreatCT16x7693fd
import Derived.Test.YtiiaccpcoclklaaGreatCT17xc5e087
import Derived.Test.YtiiaccpcoclklaaGreatCV1xa4d231
import Derived.Test.YtiiaccpcoclklaaGreatCT18xcfcc45
import Derived.Test.YtiiaccpcoclklaaGreatCV2xce1b6e
import Derived.Test.YtiiaccpcoclklaaGreatCU4x37dcc3
set_option linter.unusedSimpArgs false
set_option linter.unusedVariables false
namespace Go.Proofs.YtiiaccpcoclklaaGreat
namespace Abs
open Go Go.Proofs
set_option maxRecDepth 100000
set_option maxHeartbeats 40000000
abbrev R1_SameTerm_S (rec_R1_SameTerm : Tm → Tm → Option Bool) : Prop := ∀ (p0 : Tm) (p1 : Tm) (r : Bool), rec_R1_SameTerm p0 p1 = some r → ACalls Tryz.prog 34 [aTm p0, aTm p1] [] (.bool r) []
abbrev R1_SameTerms_S (rec_R1_SameTerms : (List Tm) → (List Tm) → Option Bool) : Prop := ∀ (p0 : List Tm) (p1 : List Tm) (r : Bool), rec_R1_SameTerms p0 p1 = some r → ACalls Tryz.prog 89 [sTm p0, sTm p1] [] (.bool r) []
theorem R1_SameTerm_body_ok (n : Nat) (rec_R1_SameTerm : Tm → Tm → Option Bool) (rec_R1_SameTerms : (List Tm) → (List Tm) → Option Bool) (hrec_R1_SameTerm : R1_SameTerm_S rec_R1_SameTerm) (hrec_R1_SameTerms : R1_SameTerms_S rec_R1_SameTerms) (p0 : Tm) (p1 : Tm) (r : Bool) (h : R1_SameTerm_body n rec_R1_SameTerm rec_R1_SameTerms p0 p1 = some r) : ACalls Tryz.prog 34 [aTm p0, aTm p1] [] (.bool r) [] := by
 unfold R1_SameTerm_body at h
 refine acalls_start true Tryz.func34 rfl (nt Tryz.ntmps34 rfl) fun Q hQ t ht => ?_
 conv at ht => whnf
 subst ht
 refine .q fun K1 k1 => rg 2 ?_
 refine k1 _ _ ?_
 refine .q fun K2 k2 => ?_
 obtain ⟨s1, hj1, h⟩ := ob h
 have hR1 : ∀ t9 h9, Le 0 t9 h9 (u4 (.bool s1 :: (u32 (.unk :: [])))) [] → K2 t9 h9 := by
  intro t9 h9 hw
  refine k2 _ _ (AW.le hw ?_)
  clear hw
  refine .ret ?_
  have e9 := sj h
  subst e9
  refine hQ _ _ _ (retPure τ_ok (fun g => rfl) ?_)
  conv => whnf
 refine rg 0 ?_
 refine onB_cond hj1 (fun hc1 hj1 => ?_) (fun hc1 hj1 => ?_)
 ·refine onB_cond hj1 (fun hc2 hj1 => ?_) (fun hc2 hj1 => ?_)
  ·refine onB_cond hj1 (fun hc3 hj1 => ?_) (fun hc3 hj1 => ?_)
   ·obtain ⟨x1, hx1, hj1⟩ := ob hj1
    refine call_pur (R1_SameType_ok _ _ _ _ hx1) okF_20 (.cons (.same _) (.cons (.same _) .nil)) (fun g => by simp) (fun g => rfl) ?_
    refine onB_cond hj1 (fun hc4 hj1 => ?_) (fun hc4 hj1 => ?_)
    ·obtain ⟨x2, hx2, hj1⟩ := ob hj1
     refine call_pur (hrec_R1_SameTerms _ _ _ hx2) okF_89 (.cons (.same _) (.cons (.same _) .nil)) (fun g => by simp) (fun g => rfl) ?_
     cases hj1
     exact hR1 _ _ (wk [] (.u4 (.c rfl (.u32 (.u .nil)))) .nil rfl)
    ·cases hj1
     exact hR1 _ _ (wk [] (.u4 (.c rfl (.u32 (.u .nil)))) .nil rfl)
   ·cases hj1
    exact hR1 _ _ (wk [] (.u4 (.c rfl (.u32 (.u .nil)))) .nil rfl)
  ·cases hj1
   exact hR1 _ _ (wk [] (.u4 (.c rfl (.u32 (.u .nil)))) .nil rfl)
 ·cases hj1
  exact hR1 _ _ (wk [] (.u4 (.c rfl (.u32 (.u .nil)))) .nil rfl)
theorem R1_SameTerms_body_ok (n : Nat) (rec_R1_SameTerm : Tm → Tm → Option Bool) (rec_R1_SameTerms : (List Tm) → (List Tm) → Option Bool) (hrec_R1_SameTerm : R1_SameTerm_S rec_R1_SameTerm) (hrec_R1_SameTerms : R1_SameTerms_S rec_R1_SameTerms) (p0 : List Tm) (p1 : List Tm) (r : Bool) (h : R1_SameTerms_body n rec_R1_SameTerm rec_R1_SameTerms p0 p1 = some r) : ACalls Tryz.prog 89 [sTm p0, sTm p1] [] (.bool r) [] := by
 unfold R1_SameTerms_body at h
 refine acalls_start true Tryz.func89 rfl (nt Tryz.ntmps89 rfl) fun Q hQ t ht => ?_
 conv at ht => whnf
 subst ht
 refine .q fun K1 k1 => rg 0 ?_
 refine k1 _ _ ?_
 refine .q fun K2 k2 => .q fun K3 k3 => rg 0 ?_
 refine len_of (l := p0) (f := encTm) ?_
 refine len_of (l := p1) (f := encTm) ?_
 refine k3 _ _ ?_
 refine .condS rfl h (fun hc1 h => ?_) (fun hc1 h => ?_)
 ·refine .q fun K4 k4 => rg 0 ?_
  refine k4 _ _ ?_
  refine .ret ?_
  have e9 := sj h
  subst e9
  refine hQ _ _ _ (retPure τ_ok (fun g => rfl) ?_)
  conv => whnf
 ·refine .skip ?_
  refine k2 _ _ ?_
  refine .q fun K5 k5 => .q fun K6 k6 => rg 0 ?_
  refine k6 _ _ ?_
  refine .block ?_
  obtain ⟨o1, ho1, h⟩ := ob h
  have hR1 : ∀ s2 : Unit, o1 = .nx s2 → ∀ t9 h9, Le 0 t9 h9 (u16 (u8 (u2 (.unk :: [])))) [] → K5 t9 h9 := by
   intro s2 ho
   subst ho
   dsimp only [LR.el] at h
   intro t9 h9 hw
   refine k5 _ _ (AW.le hw ?_)
   refine .q fun K7 k7 => rg 0 ?_
   refine k7 _ _ ?_
   refine .ret ?_
   have e9 := sj h
   subst e9
   refine hQ _ _ _ (retPure τ_ok (fun g => rfl) ?_)
   conv => whnf
  refine .loopS (R1_SameTerms_L0 n rec_R1_SameTerm rec_R1_SameTerms p0 p1) (fun (s1 : Int) => (sTm p0 :: (sTm p1 :: (u2 (.unk :: (.i s1 :: (u16 (u4 (.unk :: []))))))))) (fun (s1 : Int) => []) ho1 (fun _ => rfl) (li (.s (.s (.u2 (.u (.s (.u16 (.u4 (.u .n))))))))) ?_
  intro n1 s1 hs1 KL1 hKL1
  unfold R1_SameTerms_L0 at hs1
  refine .q fun K8 k8 => .q fun K9 k9 => rg 0 ?_
  refine len_of (l := p0) (f := encTm) ?_
  refine k9 _ _ ?_
  refine .condS rfl hs1 (fun hc2 hs1 => ?_) (fun hc2 hs1 => ?_)
  ·refine .skip ?_
   refine k8 _ _ ?_
   refine .q fun K10 k10 => ?_
   refine .block ?_
   refine .q fun K11 k11 => rg 0 ?_
   obtain ⟨x1, hx1, hs1⟩ := ob hs1
   refine idx_of (l := p0) (f := encTm) (cs := [.i ((x1).op), .str ((x1).name), .i ((x1).n), .i (((x1).ty).kind), .str (((x1).ty).name), sTy (((x1).ty).kids), sTm ((x1).kids)]) hx1 (encTm_eq x1) rfl ?_
   obtain ⟨x2, hx2, hs1⟩ := ob hs1
   refine idx_of (l := p1) (f := encTm) (cs := [.i ((x2).op), .str ((x2).name), .i ((x2).n), .i (((x2).ty).kind), .str (((x2).ty).name), sTy (((x2).ty).kids), sTm ((x2).kids)]) hx2 (encTm_eq x2) rfl ?_
   obtain ⟨x3, hx3, hs1⟩ := ob hs1
   refine call_pur (hrec_R1_SameTerm _ _ _ hx3) okF_34 (.cons (.same _) (.cons (.same _) .nil)) (fun g => by simp) (fun g => rfl) ?_
   refine ⟨rfl, ?_⟩
   refine k11 _ _ ?_
   refine .condS rfl hs1 (fun hc3 hs1 => ?_) (fun hc3 hs1 => ?_)
   ·refine .q fun K12 k12 => rg 0 ?_
    refine k12 _ _ ?_
    refine .ret ?_
    have e9 := sj hs1
    subst e9
    dsimp only [LR.el] at h
    have e9 := sj h
    subst e9
    refine hQ _ _ _ (retPure τ_ok (fun g => rfl) ?_)
    conv => whnf
   ·refine .skip ?_
    refine k10 _ _ ?_
    refine .know 5 0 fun hv1 => ?_
    refine .know 0 0 fun hv2 => ?_
    refine rg 0 ?_
    refine ⟨(s1 + 1), by have := wf64 hv1; have := vfl hv2; have h8 := of_decide_eq_true hc2; exact w64_id (by omega) (by omega), ?_⟩
    exact hKL1 _ _ _ hs1 (li (.s (.s (.u2 (.u (.s (.u16 (.u4 (.u .n)))))))))
  ·refine .exit ?_
   exact hR1 _ (sj hs1).symm _ _ (li (.u16 (.u8 (.u2 (.u .n)))))
theorem R1_SameTerm_all (n : Nat) : R1_SameTerm_S (R1_SameTerm n) ∧ R1_SameTerms_S (R1_SameTerms n) := by
 induction n with
 | zero => exact ⟨(fun p0 p1 r h => by unfold R1_SameTerm at h; cases h), (fun p0 p1 r h => by unfold R1_SameTerms at h; cases h)⟩
 | succ n ih =>
  exact ⟨(fun p0 p1 r h => R1_SameTerm_body_ok n _ _ ih.1 ih.2 p0 p1 r (by unfold R1_SameTerm at h; exact h)), (fun p0 p1 r h => R1_SameTerms_body_ok n _ _ ih.1 ih.2 p0 p1 r (by unfold R1_SameTerms at h; exact h))⟩
theorem R1_SameTerm_ok (n : Nat) : R1_SameTerm_S (R1_SameTerm n) := (R1_SameTerm_all n).1
end Abs
end Go.Proofs.YtiiaccpcoclklaaGreat
namespace Go.Proofs.YtiiaccpcoclklaaGreat
namespace Abs
open Go Go.Proofs
set_option maxRecDepth 100000
set_option maxHeartbeats 40000000
theorem L2_TypingTypesOfTypes_ok (n : Nat) (p0 : Env) (p1 : Ty) (p2 : Ty) (r : Bool) (h : L2_TypingTypesOfTypes n p0 p1 p2 = some r) : ACalls Tryz.prog 10 [aEnv p0, aTy p1, aTy p2] [] (.bool r) [] := by
 unfold L2_TypingTypesOfTypes at h
 refine acalls_start true Tryz.func10 rfl (nt Tryz.ntmps10 rfl) fun Q hQ t ht => ?_
 conv at ht => whnf
 subst ht
 refine .q fun K1 k1 => rg 3 ?_
 refine k1 _ _ ?_
 refine .q fun K2 k2 => .q fun K3 k3 => ?_
 obtain ⟨s1, hj1, h⟩ := ob h
 have hR1 : ∀ t9 h9, Le 0 t9 h9 (u2 (.unk :: (.ptr 0 0 :: (.ptr 1 0 :: (u32 (.bool s1 :: (u64 (u2 (.unk :: []))))))))) [.box [sCa p0.carriers, sDe p0.names], .box [.i p1.kind, .str p1.name, sTy p1.kids]] → K3 t9 h9 := by
  intro t9 h9 hw
  refine k3 _ _ (AW.le hw ?_)
  clear hw
  refine .condS rfl h (fun hc1 h => ?_) (fun hc1 h => ?_)
  ·refine .q fun K4 k4 => ?_
   obtain ⟨s2, hj2, h⟩ := ob h
   have hR2 : ∀ t9 h9, Le 0 t9 h9 (u4 (u2 (.bool s2 :: (u64 (u32 (u2 [])))))) [] → K4 t9 h9 := by
    intro t9 h9 hw
    refine k4 _ _ (AW.le hw ?_)
    clear hw
    refine .ret ?_
    have e9 := sj h
    subst e9
    refine hQ _ _ _ (retPure τ_ok (fun g => rfl) ?_)
    conv => whnf
   refine rg 0 ?_
   obtain ⟨x1, hx1, hj2⟩ := ob hj2
   refine call_pur (L2_small_ok _ _ _ hx1) okF_16 (.cons (.same _) .nil) (fun g => by simp) (fun g => rfl) ?_
   refine onB_cond hj2 (fun hc2 hj2 => ?_) (fun hc2 hj2 => ?_)
   ·obtain ⟨x2, hx2, hj2⟩ := ob hj2
    refine call_pur (L2_awake_ok _ _ hx2) okF_17 .nil (fun g => rfl) (fun g => rfl) ?_
    cases hj2
    exact hR2 _ _ (wk [] (.u4 (.u2 (.c rfl (.u64 (.u32 (.u2 .nil)))))) .nil rfl)
   ·cases hj2
    exact hR2 _ _ (wk [] (.u4 (.u2 (.c rfl (.u64 (.u32 (.u2 .nil)))))) .nil rfl)
  ·refine .skip ?_
   refine k2 _ _ ?_
   refine .q fun K5 k5 => rg 1 ?_
   obtain ⟨x3, hx3, h⟩ := ob h
   refine cp (typing_Universe_ok _ _ _ _ hx3) okF_43 (.cons (.same _) (.cons (.same _) .nil)) ?_
   refine k5 _ _ ?_
   refine .q fun K6 k6 => rg 1 ?_
   obtain ⟨x4, hx4, h⟩ := ob h
   refine cp (R2_Universe_ok _ _ _ _ hx4) okF_44 (.cons (.same _) (.cons (.same _) .nil)) ?_
   refine k6 _ _ ?_
   refine .q fun K7 k7 => rg 0 ?_
   obtain ⟨x5, hx5, h⟩ := ob h
   refine cp (typing_Carriers_ok _ _ _ hx5) okF_45 (.cons (.same _) .nil) ?_
   obtain ⟨x6, hx6, h⟩ := ob h
   refine cp (R2_Carriers_ok _ _ _ hx6) okF_46 (.cons (.same _) .nil) ?_
   refine ⟨rfl, ?_⟩
   refine k7 _ _ ?_
   refine .q fun K8 k8 => .q fun K9 k9 => ?_
   obtain ⟨s3, hj3, h⟩ := ob h
   have hR3 : ∀ t9 h9, Le 0 t9 h9 (u2 (.unk :: (.ptr 0 0 :: (.ptr 1 0 :: (u2 (.ptr 2 0 :: (.bool x3.2 :: (u64 (.unk :: (.bool s3 :: (u16 (u8 (u4 (u2 [])))))))))))))) [.box [sCa p0.carriers, sDe p0.names], .box [.i p1.kind, .str p1.name, sTy p1.kids], .box [.i x3.1.op, .str x3.1.name, .i x3.1.n, .i x3.1.ty.kind, .str x3.1.ty.name, sTy x3.1.ty.kids, sTm x3.1.kids]] → K9 t9 h9 := by
    intro t9 h9 hw
    refine k9 _ _ (AW.le hw ?_)
    clear hw
    refine .condS rfl h (fun hc3 h => ?_) (fun hc3 h => ?_)
    ·refine .q fun K10 k10 => rg 0 ?_
     refine k10 _ _ ?_
     refine .ret ?_
     have e9 := sj h
     subst e9
     refine hQ _ _ _ (retPure τ_ok (fun g => rfl) ?_)
     conv => whnf
    ·refine .skip ?_
     refine k8 _ _ ?_
     refine .q fun K11 k11 => .q fun K12 k12 => rg 0 ?_
     refine k12 _ _ ?_
     refine .condS rfl h (fun hc4 h => ?_) (fun hc4 h => ?_)
     ·refine .q fun K13 k13 => rg 0 ?_
      obtain ⟨x7, hx7, h⟩ := ob h
      refine call_pur (L2_awake_ok _ _ hx7) okF_17 .nil (fun g => rfl) (fun g => rfl) ?_
      refine k13 _ _ ?_
      refine .ret ?_
      have e9 := sj h
      subst e9
      refine hQ _ _ _ (retPure τ_ok (fun g => rfl) ?_)
      conv => whnf
     ·refine .skip ?_
      refine k11 _ _ ?_
      refine .q fun K14 k14 => rg 1 ?_
      obtain ⟨x8, hx8, h⟩ := ob h
      refine cp (typing_TypeOf_ok _ _ _ _ hx8) okF_18 (.cons (.same _) (.cons (.same _) .nil)) ?_
      refine k14 _ _ ?_
      refine .q fun K15 k15 => .q fun K16 k16 => rg 0 ?_
      refine k16 _ _ ?_
      refine .condS rfl h (fun hc5 h => ?_) (fun hc5 h => ?_)
      ·refine .q fun K17 k17 => ?_
       obtain ⟨s4, hj4, h⟩ := ob h
       have hR4 : ∀ t9 h9, Le 0 t9 h9 (u4 (u2 (.bool s4 :: (u64 (u32 (u2 [])))))) [] → K17 t9 h9 := by
        intro t9 h9 hw
        refine k17 _ _ (AW.le hw ?_)
        clear hw
        refine .ret ?_
        have e9 := sj h
        subst e9
        refine hQ _ _ _ (retPure τ_ok (fun g => rfl) ?_)
        conv => whnf
       refine rg 0 ?_
       refine onB_cond hj4 (fun hc6 hj4 => ?_) (fun hc6 hj4 => ?_)
       ·refine cp (R2_Set_ok 0 p1 _ rfl) okF_48 (.cons (.same _) .nil) ?_
        obtain ⟨x9, hx9, hj4⟩ := ob hj4
        refine call_pur (R1_ValidType_ok _ _ _ hx9) okF_42 (.cons (.same _) .nil) (fun g => by simp) (fun g => rfl) ?_
        refine onB_cond hj4 (fun hc7 hj4 => ?_) (fun hc7 hj4 => ?_)
        ·obtain ⟨x10, hx10, hj4⟩ := ob hj4
         refine call_pur (L2_awake_ok _ _ hx10) okF_17 .nil (fun g => rfl) (fun g => rfl) ?_
         cases hj4
         exact hR4 _ _ (wk [] (.u4 (.u2 (.c rfl (.u64 (.u32 (.u2 .nil)))))) .nil rfl)
        ·cases hj4
         exact hR4 _ _ (wk [] (.u4 (.u2 (.c rfl (.u64 (.u32 (.u2 .nil)))))) .nil rfl)
       ·cases hj4
        exact hR4 _ _ (wk [] (.u4 (.u2 (.c rfl (.u64 (.u32 (.u2 .nil)))))) .nil rfl)
      ·refine .skip ?_
       refine k15 _ _ ?_
       refine .q fun K18 k18 => ?_
       obtain ⟨s5, hj5, h⟩ := ob h
       have hR5 : ∀ t9 h9, Le 0 t9 h9 (u4 (u2 (.bool s5 :: (u64 (u32 (u2 [])))))) [] → K18 t9 h9 := by
        intro t9 h9 hw
        refine k18 _ _ (AW.le hw ?_)
        clear hw
        refine .ret ?_
        have e9 := sj h
        subst e9
        refine hQ _ _ _ (retPure τ_ok (fun g => rfl) ?_)
        conv => whnf
       refine rg 0 ?_
       refine cp (R2_Set_ok 0 p1 _ rfl) okF_48 (.cons (.same _) .nil) ?_
       obtain ⟨x11, hx11, hj5⟩ := ob hj5
       refine call_pur (R1_SameType_ok _ _ _ _ hx11) okF_20 (.cons (.same _) (.cons (.same _) .nil)) (fun g => by simp) (fun g => rfl) ?_
       refine onB_cond hj5 (fun hc8 hj5 => ?_) (fun hc8 hj5 => ?_)
       ·obtain ⟨x12, hx12, hj5⟩ := ob hj5
        refine call_pur (L2_awake_ok _ _ hx12) okF_17 .nil (fun g => rfl) (fun g => rfl) ?_
        refine ⟨rfl, ?_⟩
        cases hj5
        exact hR5 _ _ (wk [] (.u4 (.u2 (.c rfl (.u64 (.u32 (.u2 .nil)))))) .nil rfl)
       ·refine ⟨rfl, ?_⟩
        cases hj5
        exact hR5 _ _ (wk [] (.u4 (.u2 (.c rfl (.u64 (.u32 (.u2 .nil)))))) .nil rfl)
   refine rg 0 ?_
   refine onB_cond hj3 (fun hc9 hj3 => ?_) (fun hc9 hj3 => ?_)
   ·cases hj3
    exact hR3 _ _ (wk [some 0, some 1, some 2] (.u2 (.u (.c rfl (.c rfl (.u2 (.c rfl (.c rfl (.u64 (.u (.c rfl (.u16 (.u8 (.u4 (.u2 .nil)))))))))))))) (.b rfl (.e renl_Carrier (.e renl_Decl .nil)) (.b rfl (.c rfl (.c rfl (.e renl_Ty .nil))) (.b rfl (.c rfl (.c rfl (.c rfl (.c rfl (.c rfl (.e renl_Ty (.e renl_Tm .nil))))))) .nil))) rfl)
   ·obtain ⟨x13, hx13, hj3⟩ := ob hj3
    refine call_pur (R1_SameTerm_ok _ _ _ _ hx13) okF_34 (.cons (.same _) (.cons (.same _) .nil)) (fun g => by simp) (fun g => rfl) ?_
    refine onB_cond hj3 (fun hc10 hj3 => ?_) (fun hc10 hj3 => ?_)
    ·cases hj3
     exact hR3 _ _ (wk [some 0, some 1, some 2] (.u2 (.u (.c rfl (.c rfl (.u2 (.c rfl (.c rfl (.u64 (.u (.c rfl (.u16 (.u8 (.u4 (.u2 .nil)))))))))))))) (.b rfl (.e renl_Carrier (.e renl_Decl .nil)) (.b rfl (.c rfl (.c rfl (.e renl_Ty .nil))) (.b rfl (.c rfl (.c rfl (.c rfl (.c rfl (.c rfl (.e renl_Ty (.e renl_Tm .nil))))))) .nil))) rfl)
    ·obtain ⟨x14, hx14, hj3⟩ := ob hj3
     refine call_pur (R2_SameStrings_ok _ _ _ _ hx14) okF_47 (.cons (.same _) (.cons (.same _) .nil)) (fun g => by simp) (fun g => rfl) ?_
     cases hj3
     exact hR3 _ _ (wk [some 0, some 1, some 2] (.u2 (.u (.c rfl (.c rfl (.u2 (.c rfl (.c rfl (.u64 (.u (.c rfl (.u16 (.u8 (.u4 (.u2 .nil)))))))))))))) (.b rfl (.e renl_Carrier (.e renl_Decl .nil)) (.b rfl (.c rfl (.c rfl (.e renl_Ty .nil))) (.b rfl (.c rfl (.c rfl (.c rfl (.c rfl (.c rfl (.e renl_Ty (.e renl_Tm .nil))))))) .nil))) rfl)
 refine rg 0 ?_
 obtain ⟨x15, hx15, hj1⟩ := ob hj1
 refine call_pur (L2_small_ok _ _ _ hx15) okF_16 (.cons (.same _) .nil) (fun g => by simp) (fun g => rfl) ?_
 refine onB_cond hj1 (fun hc11 hj1 => ?_) (fun hc11 hj1 => ?_)
 ·refine ⟨rfl, ?_⟩
  cases hj1
  exact hR1 _ _ (wk [some 0, some 1] (.u2 (.u (.c rfl (.c rfl (.u32 (.c rfl (.u64 (.u2 (.u .nil))))))))) (.b rfl (.e renl_Carrier (.e renl_Decl .nil)) (.b rfl (.c rfl (.c rfl (.e renl_Ty .nil))) .nil)) rfl)
 ·obtain ⟨x16, hx16, hj1⟩ := ob hj1
  refine call_pur (typing_SameType_ok _ _ _ _ hx16) okF_40 (.cons (.same _) (.cons (.same _) .nil)) (fun g => by simp) (fun g => rfl) ?_
  obtain ⟨x17, hx17, hj1⟩ := ob hj1
  refine call_pur (R2_SameType_ok _ _ _ _ hx17) okF_41 (.cons (.same _) (.cons (.same _) .nil)) (fun g => by simp) (fun g => rfl) ?_
  refine onB_cond hj1 (fun hc12 hj1 => ?_) (fun hc12 hj1 => ?_)
  ·refine ⟨rfl, ?_⟩
   cases hj1
   exact hR1 _ _ (wk [some 0, some 1] (.u2 (.u (.c rfl (.c rfl (.u32 (.c rfl (.u64 (.u2 (.u .nil))))))))) (.b rfl (.e renl_Carrier (.e renl_Decl .nil)) (.b rfl (.c rfl (.c rfl (.e renl_Ty .nil))) .nil)) rfl)
  ·obtain ⟨x18, hx18, hj1⟩ := ob hj1
   refine call_pur (typing_SameType_ok _ _ _ _ hx18) okF_40 (.cons (.same _) (.cons (.same _) .nil)) (fun g => by simp) (fun g => rfl) ?_
   refine onB_cond hj1 (fun hc13 hj1 => ?_) (fun hc13 hj1 => ?_)
   ·obtain ⟨x19, hx19, hj1⟩ := ob hj1
    refine call_pur (R1_ValidType_ok _ _ _ hx19) okF_42 (.cons (.same _) .nil) (fun g => by simp) (fun g => rfl) ?_
    refine ⟨rfl, ?_⟩
    cases hj1
    exact hR1 _ _ (wk [some 0, some 1] (.u2 (.u (.c rfl (.c rfl (.u32 (.c rfl (.u64 (.u2 (.u .nil))))))))) (.b rfl (.e renl_Carrier (.e renl_Decl .nil)) (.b rfl (.c rfl (.c rfl (.e renl_Ty .nil))) .nil)) rfl)
   ·refine ⟨rfl, ?_⟩
    cases hj1
    exact hR1 _ _ (wk [some 0, some 1] (.u2 (.u (.c rfl (.c rfl (.u32 (.c rfl (.u64 (.u2 (.u .nil))))))))) (.b rfl (.e renl_Carrier (.e renl_Decl .nil)) (.b rfl (.c rfl (.c rfl (.e renl_Ty .nil))) .nil)) rfl)
end Abs
end Go.Proofs.YtiiaccpcoclklaaGreat
