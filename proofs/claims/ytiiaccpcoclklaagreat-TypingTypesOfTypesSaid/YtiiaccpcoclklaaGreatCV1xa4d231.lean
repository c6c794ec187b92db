/-
  Plain functions and the contracts of Go functions by them (printed by gen.py). Conditions: none.
-/
import Derived.KernelRfl
import Derived.Test.YtiiaccpcoclklaaGreatCAbs38xf390fb
import Derived.Test.YtiiaccpcoclklaaGreatCDgx37bbb7
import Derived.Test.YtiiaccpcoclklaaGreatCT3x154ffd
import Derived.Test.YtiiaccpcoclklaaGreatCT4xfe1715
import Derived.Test.YtiiaccpcoclklaaGreatCT5x55044c
import Derived.Test.YtiiaccpcoclklaaGreatCT11x722f94
import Derived.Test.YtiiaccpcoclklaaGreatCT17xc5e087
set_option linter.unusedSimpArgs false
set_option linter.unusedVariables false
namespace Go.Proofs.YtiiaccpcoclklaaGreat
namespace Abs
open Go Go.Proofs
set_option maxRecDepth 100000
set_option maxHeartbeats 40000000
theorem typing_SameType_ok (n : Nat) (p0 : Ty) (p1 : Ty) (r : Bool) (h : typing_SameType n p0 p1 = some r) : ACalls Tryz.prog 40 [aTy p0, aTy p1] [] (.bool r) [] := by
 unfold typing_SameType at h
 refine acalls_start true Tryz.func40 rfl (nt Tryz.ntmps40 rfl) fun Q hQ t ht => ?_
 conv at ht => whnf
 subst ht
 refine .q fun K1 k1 => rg 2 ?_
 refine k1 _ _ ?_
 refine .q fun K2 k2 => ?_
 obtain ⟨s1, hj1, h⟩ := ob h
 have hR1 : ∀ t9 h9, Le 0 t9 h9 (u4 (.bool s1 :: (u8 (u2 (.unk :: []))))) [] → K2 t9 h9 := by
  intro t9 h9 hw
  refine k2 _ _ (AW.le hw ?_)
  clear hw
  refine .ret ?_
  have e9 := sj h
  subst e9
  refine hQ _ _ _ (retPure τ_ok (fun g => rfl) ?_)
  conv => whnf
 refine rg 0 ?_
 obtain ⟨x1, hx1, hj1⟩ := ob hj1
 refine call_pur (term_ValidType_ok _ _ _ hx1) okF_92 (.cons (.same _) .nil) (fun g => by simp) (fun g => rfl) ?_
 refine onB_cond hj1 (fun hc1 hj1 => ?_) (fun hc1 hj1 => ?_)
 ·obtain ⟨x2, hx2, hj1⟩ := ob hj1
  refine call_pur (term_ValidType_ok _ _ _ hx2) okF_92 (.cons (.same _) .nil) (fun g => by simp) (fun g => rfl) ?_
  refine onB_cond hj1 (fun hc2 hj1 => ?_) (fun hc2 hj1 => ?_)
  ·obtain ⟨x3, hx3, hj1⟩ := ob hj1
   refine call_pur (typing_equal_ok _ _ _ _ hx3) okF_93 (.cons (.same _) (.cons (.same _) .nil)) (fun g => by simp) (fun g => rfl) ?_
   cases hj1
   exact hR1 _ _ (wk [] (.u4 (.c rfl (.u8 (.u2 (.u .nil))))) .nil rfl)
  ·cases hj1
   exact hR1 _ _ (wk [] (.u4 (.c rfl (.u8 (.u2 (.u .nil))))) .nil rfl)
 ·cases hj1
  exact hR1 _ _ (wk [] (.u4 (.c rfl (.u8 (.u2 (.u .nil))))) .nil rfl)
theorem R2_SameType_ok (n : Nat) (p0 : Ty) (p1 : Ty) (r : Bool) (h : R2_SameType n p0 p1 = some r) : ACalls Tryz.prog 41 [aTy p0, aTy p1] [] (.bool r) [] := by
 unfold R2_SameType at h
 refine acalls_start true Tryz.func41 rfl (nt Tryz.ntmps41 rfl) fun Q hQ t ht => ?_
 conv at ht => whnf
 subst ht
 refine .q fun K1 k1 => rg 2 ?_
 refine k1 _ _ ?_
 refine .q fun K2 k2 => ?_
 obtain ⟨s1, hj1, h⟩ := ob h
 have hR1 : ∀ t9 h9, Le 0 t9 h9 (u4 (.bool s1 :: (u8 (u2 (.unk :: []))))) [] → K2 t9 h9 := by
  intro t9 h9 hw
  refine k2 _ _ (AW.le hw ?_)
  clear hw
  refine .ret ?_
  have e9 := sj h
  subst e9
  refine hQ _ _ _ (retPure τ_ok (fun g => rfl) ?_)
  conv => whnf
 refine rg 0 ?_
 obtain ⟨x1, hx1, hj1⟩ := ob hj1
 refine call_pur (R1_ValidType_ok _ _ _ hx1) okF_42 (.cons (.same _) .nil) (fun g => by simp) (fun g => rfl) ?_
 refine onB_cond hj1 (fun hc1 hj1 => ?_) (fun hc1 hj1 => ?_)
 ·obtain ⟨x2, hx2, hj1⟩ := ob hj1
  refine call_pur (R1_ValidType_ok _ _ _ hx2) okF_42 (.cons (.same _) .nil) (fun g => by simp) (fun g => rfl) ?_
  refine onB_cond hj1 (fun hc2 hj1 => ?_) (fun hc2 hj1 => ?_)
  ·obtain ⟨x3, hx3, hj1⟩ := ob hj1
   refine call_pur (R1_SameType_ok _ _ _ _ hx3) okF_20 (.cons (.same _) (.cons (.same _) .nil)) (fun g => by simp) (fun g => rfl) ?_
   cases hj1
   exact hR1 _ _ (wk [] (.u4 (.c rfl (.u8 (.u2 (.u .nil))))) .nil rfl)
  ·cases hj1
   exact hR1 _ _ (wk [] (.u4 (.c rfl (.u8 (.u2 (.u .nil))))) .nil rfl)
 ·cases hj1
  exact hR1 _ _ (wk [] (.u4 (.c rfl (.u8 (.u2 (.u .nil))))) .nil rfl)
abbrev typing_universe_S (rec_typing_universe : Ty → Option Tm) : Prop := ∀ (p0 : Ty) (r : Tm), rec_typing_universe p0 = some r → ACalls Tryz.prog 98 [aTy p0] [] (aTm r) []
theorem typing_universe_body_ok (n : Nat) (rec_typing_universe : Ty → Option Tm) (hrec_typing_universe : typing_universe_S rec_typing_universe) (p0 : Ty) (r : Tm) (h : typing_universe_body n rec_typing_universe p0 = some r) : ACalls Tryz.prog 98 [aTy p0] [] (aTm r) [] := by
 unfold typing_universe_body at h
 refine acalls_start true Tryz.func98 rfl (nt Tryz.ntmps98 rfl) fun Q hQ t ht => ?_
 conv at ht => whnf
 subst ht
 refine .q fun K1 k1 => rg 2 ?_
 refine k1 _ _ ?_
 refine .q fun K2 k2 => .q fun K3 k3 => rg 0 ?_
 refine k3 _ _ ?_
 refine .block ?_
 refine .q fun K4 k4 => rg 0 ?_
 refine k4 _ _ ?_
 refine .condS rfl h (fun hc1 h => ?_) (fun hc1 h => ?_)
 ·refine .q fun K5 k5 => rg 1 ?_
  obtain ⟨x1, hx1, h⟩ := ob h
  refine idx_of (l := p0.kids) (f := encTy) (cs := [.i ((x1).kind), .str ((x1).name), sTy ((x1).kids)]) hx1 (encTy_eq x1) rfl ?_
  obtain ⟨x2, hx2, h⟩ := ob h
  refine cp (hrec_typing_universe _ _ hx2) okF_98 (.cons (.same _) .nil) ?_
  obtain ⟨x3, hx3, h⟩ := ob h
  refine idx_of (l := p0.kids) (f := encTy) (cs := [.i ((x3).kind), .str ((x3).name), sTy ((x3).kids)]) hx3 (encTy_eq x3) rfl ?_
  obtain ⟨x4, hx4, h⟩ := ob h
  refine cp (hrec_typing_universe _ _ hx4) okF_98 (.cons (.same _) .nil) ?_
  refine ⟨List.map encTm ([x2, x4]), by simp only [List.map_cons, List.map_nil, encTm_eq]; rfl, ?_⟩
  refine cp (typing_node_ok 0 34 ([x2, x4]) _ rfl) okF_149 (.cons (.same _) (.cons (.share _ _) .nil)) ?_
  refine ⟨rfl, ?_⟩
  refine k5 _ _ ?_
  refine .ret ?_
  have e9 := sj h
  subst e9
  refine hQ _ _ _ (retPure τ_ok (fun g => by simp) ?_)
  conv => whnf
  try rfl
 ·refine .q fun K6 k6 => rg 0 ?_
  refine k6 _ _ ?_
  refine .condS rfl h (fun hc2 h => ?_) (fun hc2 h => ?_)
  ·refine .q fun K7 k7 => rg 1 ?_
   obtain ⟨x5, hx5, h⟩ := ob h
   refine idx_of (l := p0.kids) (f := encTy) (cs := [.i ((x5).kind), .str ((x5).name), sTy ((x5).kids)]) hx5 (encTy_eq x5) rfl ?_
   obtain ⟨x6, hx6, h⟩ := ob h
   refine cp (hrec_typing_universe _ _ hx6) okF_98 (.cons (.same _) .nil) ?_
   refine ⟨List.map encTm ([x6]), by simp only [List.map_cons, List.map_nil, encTm_eq]; rfl, ?_⟩
   refine cp (typing_node_ok 0 46 ([x6]) _ rfl) okF_149 (.cons (.same _) (.cons (.share _ _) .nil)) ?_
   refine k7 _ _ ?_
   refine .ret ?_
   have e9 := sj h
   subst e9
   refine hQ _ _ _ (retPure τ_ok (fun g => by simp) ?_)
   conv => whnf
   try rfl
  ·refine .skip ?_
   refine k2 _ _ ?_
   refine .q fun K8 k8 => rg 0 ?_
   refine k8 _ _ ?_
   refine .ret ?_
   have e9 := sj h
   subst e9
   refine hQ _ _ _ (retPure τ_ok (fun g => by simp) ?_)
   conv => whnf
   try rfl
theorem typing_universe_all (n : Nat) : typing_universe_S (typing_universe n) := by
 induction n with
 | zero => exact (fun p0 r h => by unfold typing_universe at h; cases h)
 | succ n ih =>
  exact (fun p0 r h => typing_universe_body_ok n _ ih p0 r (by unfold typing_universe at h; exact h))
theorem typing_universe_ok (n : Nat) : typing_universe_S (typing_universe n) := (typing_universe_all n)
theorem typing_Universe_ok (n : Nat) (p0 : Env) (p1 : Ty) (r : Tm × Bool) (h : typing_Universe n p0 p1 = some r) : ACalls Tryz.prog 43 [aEnv p0, aTy p1] [] (.tup [aTm r.1, .bool r.2]) [] := by
 unfold typing_Universe at h
 refine acalls_start true Tryz.func43 rfl (nt Tryz.ntmps43 rfl) fun Q hQ t ht => ?_
 conv at ht => whnf
 subst ht
 refine .q fun K1 k1 => rg 3 ?_
 refine k1 _ _ ?_
 refine .q fun K2 k2 => .q fun K3 k3 => ?_
 obtain ⟨s1, hj1, h⟩ := ob h
 have hR1 : ∀ t9 h9, Le 0 t9 h9 (u2 (.unk :: (.ptr 0 0 :: (.ptr 1 0 :: (u16 (u2 (.bool s1 :: (u2 (.unk :: []))))))))) [.box [.i p1.kind, .str p1.name, sTy p1.kids], .box [.i 0, .str ([] : Str), .i 0, .i 0, .str ([] : Str), .slice (List.map encTy ([] : List Ty)) .nils, .slice (List.map encTm ([] : List Tm)) .nils]] → K3 t9 h9 := by
  intro t9 h9 hw
  refine k3 _ _ (AW.le hw ?_)
  clear hw
  refine .condS rfl h (fun hc1 h => ?_) (fun hc1 h => ?_)
  ·refine .q fun K4 k4 => rg 0 ?_
   refine k4 _ _ ?_
   refine .ret ?_
   have e9 := sj h
   subst e9
   refine hQ _ _ _ (retPure τ_ok (fun g => by simp) ?_)
   conv => whnf
   try rfl
  ·refine .skip ?_
   refine k2 _ _ ?_
   refine .q fun K5 k5 => rg 0 ?_
   obtain ⟨x1, hx1, h⟩ := ob h
   refine cp (typing_universe_ok _ _ _ hx1) okF_98 (.cons (.same _) .nil) ?_
   refine k5 _ _ ?_
   refine .ret ?_
   have e9 := sj h
   subst e9
   refine hQ _ _ _ (retPure τ_ok (fun g => by simp) ?_)
   conv => whnf
   try rfl
 refine rg 0 ?_
 obtain ⟨x2, hx2, hj1⟩ := ob hj1
 refine call_pur (typing_ValidEnv_ok _ _ _ hx2) okF_55 (.cons (.same _) .nil) (fun g => by simp) (fun g => rfl) ?_
 refine onB_cond hj1 (fun hc2 hj1 => ?_) (fun hc2 hj1 => ?_)
 ·cases hj1
  exact hR1 _ _ (wk [some 1, some 2] (.u2 (.u (.c rfl (.c rfl (.u16 (.u2 (.c rfl (.u2 (.u .nil))))))))) (.b rfl (.c rfl (.c rfl (.e renl_Ty .nil))) (.b rfl (.c rfl (.c rfl (.c rfl (.c rfl (.c rfl (.c rfl (.c rfl .nil))))))) .nil)) rfl)
 ·obtain ⟨x3, hx3, hj1⟩ := ob hj1
  refine call_pur (typing_declarable_ok _ _ _ hx3) okF_95 (.cons (.same _) .nil) (fun g => by simp) (fun g => rfl) ?_
  refine onB_cond hj1 (fun hc3 hj1 => ?_) (fun hc3 hj1 => ?_)
  ·cases hj1
   exact hR1 _ _ (wk [some 1, some 2] (.u2 (.u (.c rfl (.c rfl (.u16 (.u2 (.c rfl (.u2 (.u .nil))))))))) (.b rfl (.c rfl (.c rfl (.e renl_Ty .nil))) (.b rfl (.c rfl (.c rfl (.c rfl (.c rfl (.c rfl (.c rfl (.c rfl .nil))))))) .nil)) rfl)
  ·obtain ⟨x4, hx4, hj1⟩ := ob hj1
   refine call_pur (typing_contains_ok _ _ _ _ hx4) okF_96 (.cons (.same _) (.cons (.same _) .nil)) (fun g => by simp) (fun g => rfl) ?_
   refine onB_cond hj1 (fun hc4 hj1 => ?_) (fun hc4 hj1 => ?_)
   ·cases hj1
    exact hR1 _ _ (wk [some 1, some 2] (.u2 (.u (.c rfl (.c rfl (.u16 (.u2 (.c rfl (.u2 (.u .nil))))))))) (.b rfl (.c rfl (.c rfl (.e renl_Ty .nil))) (.b rfl (.c rfl (.c rfl (.c rfl (.c rfl (.c rfl (.c rfl (.c rfl .nil))))))) .nil)) rfl)
   ·obtain ⟨x5, hx5, hj1⟩ := ob hj1
    refine call_pur (typing_mentions_ok _ _ _ _ hx5) okF_97 (.cons (.same _) (.cons (.same _) .nil)) (fun g => by simp) (fun g => rfl) ?_
    cases hj1
    exact hR1 _ _ (wk [some 1, some 2] (.u2 (.u (.c rfl (.c rfl (.u16 (.u2 (.c rfl (.u2 (.u .nil))))))))) (.b rfl (.c rfl (.c rfl (.e renl_Ty .nil))) (.b rfl (.c rfl (.c rfl (.c rfl (.c rfl (.c rfl (.c rfl (.c rfl .nil))))))) .nil)) rfl)
abbrev R2_holdsInt_S (rec_R2_holdsInt : Ty → Option Bool) : Prop := ∀ (p0 : Ty) (r : Bool), rec_R2_holdsInt p0 = some r → ACalls Tryz.prog 100 [aTy p0] [] (.bool r) []
theorem R2_holdsInt_body_ok (n : Nat) (rec_R2_holdsInt : Ty → Option Bool) (hrec_R2_holdsInt : R2_holdsInt_S rec_R2_holdsInt) (p0 : Ty) (r : Bool) (h : R2_holdsInt_body n rec_R2_holdsInt p0 = some r) : ACalls Tryz.prog 100 [aTy p0] [] (.bool r) [] := by
 unfold R2_holdsInt_body at h
 refine acalls_start true Tryz.func100 rfl (nt Tryz.ntmps100 rfl) fun Q hQ t ht => ?_
 conv at ht => whnf
 subst ht
 refine .q fun K1 k1 => rg 1 ?_
 refine k1 _ _ ?_
 refine .q fun K2 k2 => .q fun K3 k3 => rg 0 ?_
 refine k3 _ _ ?_
 refine .condS rfl h (fun hc1 h => ?_) (fun hc1 h => ?_)
 ·refine .q fun K4 k4 => rg 0 ?_
  refine k4 _ _ ?_
  refine .ret ?_
  have e9 := sj h
  subst e9
  refine hQ _ _ _ (retPure τ_ok (fun g => rfl) ?_)
  conv => whnf
 ·refine .skip ?_
  refine k2 _ _ ?_
  refine .q fun K5 k5 => .q fun K6 k6 => rg 0 ?_
  refine k6 _ _ ?_
  refine .block ?_
  obtain ⟨o1, ho1, h⟩ := ob h
  have hR1 : ∀ s2 : Unit, o1 = .nx s2 → ∀ t9 h9, Le 0 t9 h9 (u16 (u4 [])) [] → K5 t9 h9 := by
   intro s2 ho
   subst ho
   dsimp only [LR.el] at h
   intro t9 h9 hw
   refine k5 _ _ (AW.le hw ?_)
   refine .q fun K7 k7 => rg 0 ?_
   refine k7 _ _ ?_
   refine .ret ?_
   have e9 := sj h
   subst e9
   refine hQ _ _ _ (retPure τ_ok (fun g => rfl) ?_)
   conv => whnf
  refine .loopS (R2_holdsInt_L0 n rec_R2_holdsInt p0) (fun (s1 : Int) => (.unk :: (.ptr 0 0 :: (.unk :: (.i s1 :: (u16 [])))))) (fun (s1 : Int) => [.box [.i p0.kind, .str p0.name, sTy p0.kids]]) ho1 (fun _ => rfl) (li (.u (.s (.u (.s (.u16 .n)))))) ?_
  intro n1 s1 hs1 KL1 hKL1
  unfold R2_holdsInt_L0 at hs1
  refine .q fun K8 k8 => .q fun K9 k9 => rg 0 ?_
  refine len_of (l := p0.kids) (f := encTy) ?_
  refine k9 _ _ ?_
  refine .condS rfl hs1 (fun hc2 hs1 => ?_) (fun hc2 hs1 => ?_)
  ·refine .skip ?_
   refine k8 _ _ ?_
   refine .q fun K10 k10 => ?_
   refine .block ?_
   refine .q fun K11 k11 => rg 0 ?_
   obtain ⟨x1, hx1, hs1⟩ := ob hs1
   refine idx_of (l := p0.kids) (f := encTy) (cs := [.i ((x1).kind), .str ((x1).name), sTy ((x1).kids)]) hx1 (encTy_eq x1) rfl ?_
   obtain ⟨x2, hx2, hs1⟩ := ob hs1
   refine call_pur (hrec_R2_holdsInt _ _ hx2) okF_100 (.cons (.same _) .nil) (fun g => by simp) (fun g => rfl) ?_
   refine k11 _ _ ?_
   refine .condS rfl hs1 (fun hc3 hs1 => ?_) (fun hc3 hs1 => ?_)
   ·refine .q fun K12 k12 => rg 0 ?_
    refine k12 _ _ ?_
    refine .ret ?_
    have e9 := sj hs1
    subst e9
    dsimp only [LR.el] at h
    have e9 := sj h
    subst e9
    refine hQ _ _ _ (retPure τ_ok (fun g => rfl) ?_)
    conv => whnf
   ·refine .skip ?_
    refine k10 _ _ ?_
    refine .know 3 0 fun hv1 => ?_
    refine .know 9 0 fun hv2 => ?_
    refine rg 0 ?_
    refine ⟨(s1 + 1), by have := wf64 hv1; have := vfl hv2; have h8 := of_decide_eq_true hc2; exact w64_id (by omega) (by omega), ?_⟩
    exact hKL1 _ _ _ hs1 (li (.u (.s (.u (.s (.u16 .n))))))
  ·refine .exit ?_
   exact hR1 _ (sj hs1).symm _ _ (wk [] (.u16 (.u4 .nil)) .nil rfl)
theorem R2_holdsInt_all (n : Nat) : R2_holdsInt_S (R2_holdsInt n) := by
 induction n with
 | zero => exact (fun p0 r h => by unfold R2_holdsInt at h; cases h)
 | succ n ih =>
  exact (fun p0 r h => R2_holdsInt_body_ok n _ ih p0 r (by unfold R2_holdsInt at h; exact h))
theorem R2_holdsInt_ok (n : Nat) : R2_holdsInt_S (R2_holdsInt n) := (R2_holdsInt_all n)
abbrev R2_universe_S (rec_R2_universe : Ty → Option Tm) : Prop := ∀ (p0 : Ty) (r : Tm), rec_R2_universe p0 = some r → ACalls Tryz.prog 102 [aTy p0] [] (aTm r) []
theorem R2_universe_body_ok (n : Nat) (rec_R2_universe : Ty → Option Tm) (hrec_R2_universe : R2_universe_S rec_R2_universe) (p0 : Ty) (r : Tm) (h : R2_universe_body n rec_R2_universe p0 = some r) : ACalls Tryz.prog 102 [aTy p0] [] (aTm r) [] := by
 unfold R2_universe_body at h
 refine acalls_start true Tryz.func102 rfl (nt Tryz.ntmps102 rfl) fun Q hQ t ht => ?_
 conv at ht => whnf
 subst ht
 refine .q fun K1 k1 => rg 2 ?_
 refine k1 _ _ ?_
 refine .q fun K2 k2 => .q fun K3 k3 => rg 0 ?_
 refine k3 _ _ ?_
 refine .block ?_
 refine .q fun K4 k4 => rg 0 ?_
 refine k4 _ _ ?_
 refine .condS rfl h (fun hc1 h => ?_) (fun hc1 h => ?_)
 ·refine .q fun K5 k5 => rg 1 ?_
  obtain ⟨x1, hx1, h⟩ := ob h
  refine idx_of (l := p0.kids) (f := encTy) (cs := [.i ((x1).kind), .str ((x1).name), sTy ((x1).kids)]) hx1 (encTy_eq x1) rfl ?_
  obtain ⟨x2, hx2, h⟩ := ob h
  refine cp (hrec_R2_universe _ _ hx2) okF_102 (.cons (.same _) .nil) ?_
  refine k5 _ _ ?_
  refine .q fun K6 k6 => rg 1 ?_
  obtain ⟨x3, hx3, h⟩ := ob h
  refine idx_of (l := p0.kids) (f := encTy) (cs := [.i ((x3).kind), .str ((x3).name), sTy ((x3).kids)]) hx3 (encTy_eq x3) rfl ?_
  obtain ⟨x4, hx4, h⟩ := ob h
  refine cp (hrec_R2_universe _ _ hx4) okF_102 (.cons (.same _) .nil) ?_
  refine ⟨List.map encTm ([x2, x4]), by simp only [List.map_cons, List.map_nil, encTm_eq]; rfl, ?_⟩
  refine ⟨rfl, ?_⟩
  refine k6 _ _ ?_
  refine .ret ?_
  have e9 := sj h
  subst e9
  refine hQ _ _ _ (retPure τ_ok (fun g => by simp) ?_)
  conv => whnf
  try rfl
 ·refine .q fun K7 k7 => rg 0 ?_
  refine k7 _ _ ?_
  refine .condS rfl h (fun hc2 h => ?_) (fun hc2 h => ?_)
  ·refine .q fun K8 k8 => rg 1 ?_
   obtain ⟨x5, hx5, h⟩ := ob h
   refine idx_of (l := p0.kids) (f := encTy) (cs := [.i ((x5).kind), .str ((x5).name), sTy ((x5).kids)]) hx5 (encTy_eq x5) rfl ?_
   obtain ⟨x6, hx6, h⟩ := ob h
   refine cp (hrec_R2_universe _ _ hx6) okF_102 (.cons (.same _) .nil) ?_
   refine ⟨List.map encTm ([x6]), by simp only [List.map_cons, List.map_nil, encTm_eq]; rfl, ?_⟩
   refine k8 _ _ ?_
   refine .ret ?_
   have e9 := sj h
   subst e9
   refine hQ _ _ _ (retPure τ_ok (fun g => by simp) ?_)
   conv => whnf
   try rfl
  ·refine .skip ?_
   refine k2 _ _ ?_
   refine .q fun K9 k9 => rg 0 ?_
   refine k9 _ _ ?_
   refine .ret ?_
   have e9 := sj h
   subst e9
   refine hQ _ _ _ (retPure τ_ok (fun g => by simp) ?_)
   conv => whnf
   try rfl
theorem R2_universe_all (n : Nat) : R2_universe_S (R2_universe n) := by
 induction n with
 | zero => exact (fun p0 r h => by unfold R2_universe at h; cases h)
 | succ n ih =>
  exact (fun p0 r h => R2_universe_body_ok n _ ih p0 r (by unfold R2_universe at h; exact h))
theorem R2_universe_ok (n : Nat) : R2_universe_S (R2_universe n) := (R2_universe_all n)
end Abs
end Go.Proofs.YtiiaccpcoclklaaGreat
