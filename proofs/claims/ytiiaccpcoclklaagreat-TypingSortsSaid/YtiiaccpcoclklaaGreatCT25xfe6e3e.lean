/-
  Plain functions and the contracts of Go functions by them (printed by gen.py). Conditions: none.
-/
import Derived.KernelRfl
import Derived.Test.YtiiaccpcoclklaaGreatCData2x72b33f
import Derived.Test.YtiiaccpcoclklaaGreatCDfx223ef1
import Derived.Test.YtiiaccpcoclklaaGreatCTDx112680
import Derived.Test.YtiiaccpcoclklaaGreatCAwx1c7e20
import Derived.Test.YtiiaccpcoclklaaGreatCT1x4344bb
import Derived.Test.YtiiaccpcoclklaaGreatCT5x6b892d
import Derived.Test.YtiiaccpcoclklaaGreatCT8xcd56ab
import Derived.Test.YtiiaccpcoclklaaGreatCT16x0ab174
import Derived.Test.YtiiaccpcoclklaaGreatCT18x0ccb54
import Derived.Test.YtiiaccpcoclklaaGreatCT20x05df30
import Derived.Test.YtiiaccpcoclklaaGreatCT24x1ccd96
set_option linter.unusedSimpArgs false
set_option linter.unusedVariables false
namespace Go.Proofs.YtiiaccpcoclklaaGreat
namespace Abs
open Go Go.Proofs
set_option maxRecDepth 100000
set_option maxHeartbeats 40000000
theorem typing_Expression_ok (n : Nat) (p0 : Env) (p1 : Tm) (r : Ty × Int) (h : typing_Expression n p0 p1 = some r) : ACalls Tryz.prog 31 [aEnv p0, aTm p1] [] (.tup [aTy r.1, .i r.2]) [] := by
 unfold typing_Expression at h
 refine acalls_start true Tryz.func31 rfl (nt Tryz.ntmps31 rfl) fun Q hQ t ht => ?_
 conv at ht => whnf
 subst ht
 refine .q fun K1 k1 => rg 3 ?_
 refine k1 _ _ ?_
 refine .q fun K2 k2 => rg 1 ?_
 obtain ⟨x1, hx1, h⟩ := ob h
 refine cp (typing_TypeOf_ok _ _ _ _ hx1) okF_18 (.cons (.same _) (.cons (.same _) .nil)) ?_
 refine k2 _ _ ?_
 refine .q fun K3 k3 => .q fun K4 k4 => ?_
 obtain ⟨s1, hj1, h⟩ := ob h
 have hR1 : ∀ t9 h9, Le 0 t9 h9 (u4 (.ptr 0 0 :: (.unk :: (.ptr 1 0 :: (.unk :: (.i x1.2.2 :: (u8 (u4 (.unk :: (.bool s1 :: (u2 (.unk :: [])))))))))))) [.box [.i 0, .str ([] : Str), .slice (List.map encTy ([] : List Ty)) .nils], .box [.i x1.1.kind, .str x1.1.name, sTy x1.1.kids]] → K4 t9 h9 := by
  intro t9 h9 hw
  refine k4 _ _ (AW.le hw ?_)
  clear hw
  refine .condS rfl h (fun hc1 h => ?_) (fun hc1 h => ?_)
  ·refine .q fun K5 k5 => rg 0 ?_
   refine k5 _ _ ?_
   refine .ret ?_
   have e9 := sj h
   subst e9
   refine hQ _ _ _ (retPure τ_ok (fun g => by simp) ?_)
   conv => whnf
   try rfl
  ·refine .skip ?_
   refine k3 _ _ ?_
   refine .q fun K6 k6 => rg 0 ?_
   refine k6 _ _ ?_
   refine .ret ?_
   have e9 := sj h
   subst e9
   refine hQ _ _ _ (retPure τ_ok (fun g => by simp) ?_)
   conv => whnf
   try rfl
 refine rg 0 ?_
 refine onB_cond hj1 (fun hc2 hj1 => ?_) (fun hc2 hj1 => ?_)
 ·cases hj1
  exact hR1 _ _ (wk [some 2, some 3] (.u4 (.c rfl (.u (.c rfl (.u (.c rfl (.u8 (.u4 (.u (.c rfl (.u2 (.u .nil)))))))))))) (.b rfl (.c rfl (.c rfl (.c rfl .nil))) (.b rfl (.c rfl (.c rfl (.e renl_Ty .nil))) .nil)) rfl)
 ·cases hj1
  exact hR1 _ _ (wk [some 2, some 3] (.u4 (.c rfl (.u (.c rfl (.u (.c rfl (.u8 (.u4 (.u (.c rfl (.u2 (.u .nil)))))))))))) (.b rfl (.c rfl (.c rfl (.c rfl .nil))) (.b rfl (.c rfl (.c rfl (.e renl_Ty .nil))) .nil)) rfl)
theorem R2_Expression_ok (n : Nat) (p0 : Env) (p1 : Tm) (r : Ty × Int) (h : R2_Expression n p0 p1 = some r) : ACalls Tryz.prog 37 [aEnv p0, aTm p1] [] (.tup [aTy r.1, .i r.2]) [] := by
 unfold R2_Expression at h
 refine acalls_start true Tryz.func37 rfl (nt Tryz.ntmps37 rfl) fun Q hQ t ht => ?_
 conv at ht => whnf
 subst ht
 refine .q fun K1 k1 => rg 3 ?_
 refine k1 _ _ ?_
 refine .q fun K2 k2 => rg 1 ?_
 obtain ⟨x1, hx1, h⟩ := ob h
 refine cp (R2_TypeOf_ok _ _ _ _ hx1) okF_19 (.cons (.same _) (.cons (.same _) .nil)) ?_
 refine k2 _ _ ?_
 refine .q fun K3 k3 => .q fun K4 k4 => ?_
 obtain ⟨s1, hj1, h⟩ := ob h
 have hR1 : ∀ t9 h9, Le 0 t9 h9 (u4 (.ptr 0 0 :: (.unk :: (.ptr 1 0 :: (.unk :: (.i x1.2.2 :: (u8 (u4 (.unk :: (.bool s1 :: (u2 (.unk :: [])))))))))))) [.box [.i 0, .str ([] : Str), .slice (List.map encTy ([] : List Ty)) .nils], .box [.i x1.1.kind, .str x1.1.name, sTy x1.1.kids]] → K4 t9 h9 := by
  intro t9 h9 hw
  refine k4 _ _ (AW.le hw ?_)
  clear hw
  refine .condS rfl h (fun hc1 h => ?_) (fun hc1 h => ?_)
  ·refine .q fun K5 k5 => rg 0 ?_
   refine k5 _ _ ?_
   refine .ret ?_
   have e9 := sj h
   subst e9
   refine hQ _ _ _ (retPure τ_ok (fun g => by simp) ?_)
   conv => whnf
   try rfl
  ·refine .skip ?_
   refine k3 _ _ ?_
   refine .q fun K6 k6 => rg 0 ?_
   refine k6 _ _ ?_
   refine .ret ?_
   have e9 := sj h
   subst e9
   refine hQ _ _ _ (retPure τ_ok (fun g => by simp) ?_)
   conv => whnf
   try rfl
 refine rg 0 ?_
 refine onB_cond hj1 (fun hc2 hj1 => ?_) (fun hc2 hj1 => ?_)
 ·cases hj1
  exact hR1 _ _ (wk [some 2, some 3] (.u4 (.c rfl (.u (.c rfl (.u (.c rfl (.u8 (.u4 (.u (.c rfl (.u2 (.u .nil)))))))))))) (.b rfl (.c rfl (.c rfl (.c rfl .nil))) (.b rfl (.c rfl (.c rfl (.e renl_Ty .nil))) .nil)) rfl)
 ·cases hj1
  exact hR1 _ _ (wk [some 2, some 3] (.u4 (.c rfl (.u (.c rfl (.u (.c rfl (.u8 (.u4 (.u (.c rfl (.u2 (.u .nil)))))))))))) (.b rfl (.c rfl (.c rfl (.c rfl .nil))) (.b rfl (.c rfl (.c rfl (.e renl_Ty .nil))) .nil)) rfl)
theorem typing_Predicate_ok (n : Nat) (p0 : Env) (p1 : Tm) (r : Int) (h : typing_Predicate n p0 p1 = some r) : ACalls Tryz.prog 38 [aEnv p0, aTm p1] [] (.i r) [] := by
 unfold typing_Predicate at h
 refine acalls_start true Tryz.func38 rfl (nt Tryz.ntmps38 rfl) fun Q hQ t ht => ?_
 conv at ht => whnf
 subst ht
 refine .q fun K1 k1 => rg 2 ?_
 refine k1 _ _ ?_
 refine .q fun K2 k2 => rg 1 ?_
 obtain ⟨x1, hx1, h⟩ := ob h
 refine cp (typing_TypeOf_ok _ _ _ _ hx1) okF_18 (.cons (.same _) (.cons (.same _) .nil)) ?_
 refine k2 _ _ ?_
 refine .q fun K3 k3 => .q fun K4 k4 => ?_
 obtain ⟨s1, hj1, h⟩ := ob h
 have hR1 : ∀ t9 h9, Le 0 t9 h9 (u4 (u2 (.unk :: (.i x1.2.2 :: (u8 (u4 (.unk :: (.bool s1 :: (.unk :: []))))))))) [] → K4 t9 h9 := by
  intro t9 h9 hw
  refine k4 _ _ (AW.le hw ?_)
  clear hw
  refine .condS rfl h (fun hc1 h => ?_) (fun hc1 h => ?_)
  ·refine .q fun K5 k5 => rg 0 ?_
   refine k5 _ _ ?_
   refine .ret ?_
   have e9 := sj h
   subst e9
   refine hQ _ _ _ (retPure τ_ok (fun g => rfl) ?_)
   conv => whnf
  ·refine .skip ?_
   refine k3 _ _ ?_
   refine .q fun K6 k6 => rg 0 ?_
   refine k6 _ _ ?_
   refine .ret ?_
   have e9 := sj h
   subst e9
   refine hQ _ _ _ (retPure τ_ok (fun g => rfl) ?_)
   conv => whnf
 refine rg 0 ?_
 refine onB_cond hj1 (fun hc2 hj1 => ?_) (fun hc2 hj1 => ?_)
 ·cases hj1
  exact hR1 _ _ (wk [] (.u4 (.u2 (.u (.c rfl (.u8 (.u4 (.u (.c rfl (.u .nil))))))))) .nil rfl)
 ·cases hj1
  exact hR1 _ _ (wk [] (.u4 (.u2 (.u (.c rfl (.u8 (.u4 (.u (.c rfl (.u .nil))))))))) .nil rfl)
theorem R2_Predicate_ok (n : Nat) (p0 : Env) (p1 : Tm) (r : Int) (h : R2_Predicate n p0 p1 = some r) : ACalls Tryz.prog 39 [aEnv p0, aTm p1] [] (.i r) [] := by
 unfold R2_Predicate at h
 refine acalls_start true Tryz.func39 rfl (nt Tryz.ntmps39 rfl) fun Q hQ t ht => ?_
 conv at ht => whnf
 subst ht
 refine .q fun K1 k1 => rg 2 ?_
 refine k1 _ _ ?_
 refine .q fun K2 k2 => rg 1 ?_
 obtain ⟨x1, hx1, h⟩ := ob h
 refine cp (R2_TypeOf_ok _ _ _ _ hx1) okF_19 (.cons (.same _) (.cons (.same _) .nil)) ?_
 refine k2 _ _ ?_
 refine .q fun K3 k3 => .q fun K4 k4 => ?_
 obtain ⟨s1, hj1, h⟩ := ob h
 have hR1 : ∀ t9 h9, Le 0 t9 h9 (u4 (u2 (.unk :: (.i x1.2.2 :: (u8 (u4 (.unk :: (.bool s1 :: (.unk :: []))))))))) [] → K4 t9 h9 := by
  intro t9 h9 hw
  refine k4 _ _ (AW.le hw ?_)
  clear hw
  refine .condS rfl h (fun hc1 h => ?_) (fun hc1 h => ?_)
  ·refine .q fun K5 k5 => rg 0 ?_
   refine k5 _ _ ?_
   refine .ret ?_
   have e9 := sj h
   subst e9
   refine hQ _ _ _ (retPure τ_ok (fun g => rfl) ?_)
   conv => whnf
  ·refine .skip ?_
   refine k3 _ _ ?_
   refine .q fun K6 k6 => rg 0 ?_
   refine k6 _ _ ?_
   refine .ret ?_
   have e9 := sj h
   subst e9
   refine hQ _ _ _ (retPure τ_ok (fun g => rfl) ?_)
   conv => whnf
 refine rg 0 ?_
 refine onB_cond hj1 (fun hc2 hj1 => ?_) (fun hc2 hj1 => ?_)
 ·cases hj1
  exact hR1 _ _ (wk [] (.u4 (.u2 (.u (.c rfl (.u8 (.u4 (.u (.c rfl (.u .nil))))))))) .nil rfl)
 ·cases hj1
  exact hR1 _ _ (wk [] (.u4 (.u2 (.u (.c rfl (.u8 (.u4 (.u (.c rfl (.u .nil))))))))) .nil rfl)
theorem L2_TypingSorts_ok (n : Nat) (p0 : Env) (p1 : Tm) (r : Bool) (h : L2_TypingSorts n p0 p1 = some r) : ACalls Tryz.prog 9 [aEnv p0, aTm p1] [] (.bool r) [] := by
 unfold L2_TypingSorts at h
 refine acalls_start true Tryz.func9 rfl (nt Tryz.ntmps9 rfl) fun Q hQ t ht => ?_
 conv at ht => whnf
 subst ht
 refine .q fun K1 k1 => rg 2 ?_
 refine k1 _ _ ?_
 refine .q fun K2 k2 => .q fun K3 k3 => rg 0 ?_
 obtain ⟨x1, hx1, h⟩ := ob h
 refine call_pur (L2_small_ok _ _ _ hx1) okF_16 (.cons (.same _) .nil) (fun g => by simp) (fun g => rfl) ?_
 refine k3 _ _ ?_
 refine .condS rfl h (fun hc1 h => ?_) (fun hc1 h => ?_)
 ·refine .q fun K4 k4 => rg 0 ?_
  obtain ⟨x2, hx2, h⟩ := ob h
  refine call_pur (L2_awake_ok _ _ hx2) okF_17 .nil (fun g => rfl) (fun g => rfl) ?_
  refine k4 _ _ ?_
  refine .ret ?_
  have e9 := sj h
  subst e9
  refine hQ _ _ _ (retPure τ_ok (fun g => rfl) ?_)
  conv => whnf
 ·refine .skip ?_
  refine k2 _ _ ?_
  refine .q fun K5 k5 => rg 1 ?_
  obtain ⟨x3, hx3, h⟩ := ob h
  refine cp (typing_Expression_ok _ _ _ _ hx3) okF_31 (.cons (.same _) (.cons (.same _) .nil)) ?_
  refine k5 _ _ ?_
  refine .q fun K6 k6 => rg 1 ?_
  obtain ⟨x4, hx4, h⟩ := ob h
  refine cp (R2_Expression_ok _ _ _ _ hx4) okF_37 (.cons (.same _) (.cons (.same _) .nil)) ?_
  refine k6 _ _ ?_
  refine .q fun K7 k7 => ?_
  obtain ⟨s1, hj1, h⟩ := ob h
  have hR1 : ∀ t9 h9, Le 0 t9 h9 (u4 (.bool s1 :: (u32 (u8 [])))) [] → K7 t9 h9 := by
   intro t9 h9 hw
   refine k7 _ _ (AW.le hw ?_)
   clear hw
   refine .ret ?_
   have e9 := sj h
   subst e9
   refine hQ _ _ _ (retPure τ_ok (fun g => rfl) ?_)
   conv => whnf
  refine rg 0 ?_
  obtain ⟨x5, hx5, hj1⟩ := ob hj1
  refine call_pur (typing_Predicate_ok _ _ _ _ hx5) okF_38 (.cons (.same _) (.cons (.same _) .nil)) (fun g => by simp) (fun g => rfl) ?_
  obtain ⟨x6, hx6, hj1⟩ := ob hj1
  refine call_pur (R2_Predicate_ok _ _ _ _ hx6) okF_39 (.cons (.same _) (.cons (.same _) .nil)) (fun g => by simp) (fun g => rfl) ?_
  refine onB_cond hj1 (fun hc2 hj1 => ?_) (fun hc2 hj1 => ?_)
  ·refine onB_cond hj1 (fun hc3 hj1 => ?_) (fun hc3 hj1 => ?_)
   ·obtain ⟨x7, hx7, hj1⟩ := ob hj1
    refine call_pur (R1_SameType_ok _ _ _ _ hx7) okF_20 (.cons (.same _) (.cons (.same _) .nil)) (fun g => by simp) (fun g => rfl) ?_
    refine onB_cond hj1 (fun hc4 hj1 => ?_) (fun hc4 hj1 => ?_)
    ·obtain ⟨x8, hx8, hj1⟩ := ob hj1
     refine call_pur (L2_awake_ok _ _ hx8) okF_17 .nil (fun g => rfl) (fun g => rfl) ?_
     refine ⟨rfl, ?_⟩
     cases hj1
     exact hR1 _ _ (wk [] (.u4 (.c rfl (.u32 (.u8 .nil)))) .nil rfl)
    ·refine ⟨rfl, ?_⟩
     cases hj1
     exact hR1 _ _ (wk [] (.u4 (.c rfl (.u32 (.u8 .nil)))) .nil rfl)
   ·refine ⟨rfl, ?_⟩
    cases hj1
    exact hR1 _ _ (wk [] (.u4 (.c rfl (.u32 (.u8 .nil)))) .nil rfl)
  ·refine ⟨rfl, ?_⟩
   cases hj1
   exact hR1 _ _ (wk [] (.u4 (.c rfl (.u32 (.u8 .nil)))) .nil rfl)
end Abs
end Go.Proofs.YtiiaccpcoclklaaGreat
