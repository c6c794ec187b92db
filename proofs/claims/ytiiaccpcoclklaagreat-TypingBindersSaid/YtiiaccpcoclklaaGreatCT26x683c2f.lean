/-
  Plain functions and the contracts of Go functions by them (printed by gen.py). Conditions: none. All texts of the functions. Conditions: none. The plain functions of the program (printed by gen.py). Conditions: none. More structures of the program (printed by gen.py). Conditions: none.
-/
import Derived.KernelRfl
import Derived.Test.YtiiaccpcoclklaaGreatCData2x8e6344
import Derived.Test.YtiiaccpcoclklaaGreatCDfx4245f1
import Derived.Test.YtiiaccpcoclklaaGreatCTDxfe9999
import Derived.Test.YtiiaccpcoclklaaGreatCT1x9b470d
import Derived.Test.YtiiaccpcoclklaaGreatCT2xdae1dc
import Derived.Test.YtiiaccpcoclklaaGreatCT3x35e249
import Derived.Test.YtiiaccpcoclklaaGreatCT4x4338d1
import Derived.Test.YtiiaccpcoclklaaGreatCT5x424765
import Derived.Test.YtiiaccpcoclklaaGreatCT6x2cd585
import Derived.Test.YtiiaccpcoclklaaGreatCT8x0f030b
import Derived.Test.YtiiaccpcoclklaaGreatCT9xaa686f
import Derived.Test.YtiiaccpcoclklaaGreatCT10xd4f8ce
import Derived.Test.YtiiaccpcoclklaaGreatCT11xdc9bb0
import Derived.Test.YtiiaccpcoclklaaGreatCT12xe8affc
import Derived.Test.YtiiaccpcoclklaaGreatCT13x3eb114
import Derived.Test.YtiiaccpcoclklaaGreatCT15x15c4ef
import Derived.Test.YtiiaccpcoclklaaGreatCT16xd4fd4e
import Derived.Test.YtiiaccpcoclklaaGreatCT17x47975d
import Derived.Test.YtiiaccpcoclklaaGreatCT18x71d9d5
import Derived.Test.YtiiaccpcoclklaaGreatCT19xb2d40d
import Derived.Test.YtiiaccpcoclklaaGreatCAwxd7d9e0
set_option linter.unusedSimpArgs false
set_option linter.unusedVariables false
namespace Go.Proofs.YtiiaccpcoclklaaGreat
namespace Abs
open Go Go.Proofs
set_option maxRecDepth 100000
set_option maxHeartbeats 40000000
theorem slices_Index_string_ok (n : Nat) (p0 : List Str) (p1 : Str) (r : Int) (h : slices_Index_string n p0 p1 = some r) : ACalls Tryz.prog 188 [sSt p0, .str p1] [] (.i r) [] := by
 unfold slices_Index_string at h
 refine acalls_start true Tryz.func188 rfl (nt Tryz.ntmps188 rfl) fun Q hQ t ht => ?_
 conv at ht => whnf
 subst ht
 refine .q fun K1 k1 => rg 0 ?_
 refine k1 _ _ ?_
 refine .q fun K2 k2 => .q fun K3 k3 => rg 0 ?_
 refine len_of (l := p0) (f := encS) ?_
 refine k3 _ _ ?_
 refine .block ?_
 obtain ⟨o1, ho1, h⟩ := ob h
 have hR1 : ∀ s2 : Unit, o1 = .nx s2 → ∀ t9 h9, Le 0 t9 h9 (u16 (u2 (.unk :: []))) [] → K2 t9 h9 := by
  intro s2 ho
  subst ho
  dsimp only [LR.el] at h
  intro t9 h9 hw
  refine k2 _ _ (AW.le hw ?_)
  refine .q fun K4 k4 => rg 0 ?_
  refine k4 _ _ ?_
  refine .ret ?_
  have e9 := sj h
  subst e9
  refine hQ _ _ _ (retPure τ_ok (fun g => rfl) ?_)
  conv => whnf
 refine .loopS (slices_Index_string_L0 n p0 p1) (fun (s1 : Int) => (sSt p0 :: (.str p1 :: (u4 (.unk :: (.i (p0.length : Int) :: (.i s1 :: (u8 (u2 []))))))))) (fun (s1 : Int) => []) ho1 (fun _ => rfl) (li (.s (.s (.u4 (.u (.s (.s (.u8 (.u2 .n))))))))) ?_
 intro n1 s1 hs1 KL1 hKL1
 unfold slices_Index_string_L0 at hs1
 refine .q fun K5 k5 => rg 0 ?_
 refine k5 _ _ ?_
 refine .q fun K6 k6 => ?_
 refine .condS rfl hs1 (fun hc1 hs1 => ?_) (fun hc1 hs1 => ?_)
 ·refine .skip ?_
  refine k6 _ _ ?_
  refine .q fun K7 k7 => ?_
  refine .block ?_
  refine .q fun K8 k8 => rg 0 ?_
  refine k8 _ _ ?_
  refine .q fun K9 k9 => rg 0 ?_
  obtain ⟨x1, hx1, hs1⟩ := ob hs1
  refine idx_of (l := p0) (f := encS) (cs := [.str (x1)]) hx1 (rfl) rfl ?_
  refine k9 _ _ ?_
  refine .condS rfl hs1 (fun hc2 hs1 => ?_) (fun hc2 hs1 => ?_)
  ·refine .q fun K10 k10 => rg 0 ?_
   refine k10 _ _ ?_
   refine .ret ?_
   have e9 := sj hs1
   subst e9
   dsimp only [LR.el] at h
   have e9 := sj h
   subst e9
   refine hQ _ _ _ (retPure τ_ok (fun g => rfl) ?_)
   conv => whnf
  ·refine .skip ?_
   refine k7 _ _ ?_
   refine .know 5 0 fun hv1 => ?_
   refine .know 0 0 fun hv2 => ?_
   refine rg 0 ?_
   refine ⟨(s1 + 1), by have := wf64 hv1; have := vfl hv2; have h8 := of_decide_eq_true hc1; exact w64_id (by omega) (by omega), ?_⟩
   exact hKL1 _ _ _ hs1 (li (.s (.s (.u4 (.u (.s (.s (.u8 (.u2 .n)))))))))
 ·refine .exit ?_
  exact hR1 _ (sj hs1).symm _ _ (li (.u16 (.u2 (.u .n))))
theorem slices_Contains_string_ok (n : Nat) (p0 : List Str) (p1 : Str) (r : Bool) (h : slices_Contains_string n p0 p1 = some r) : ACalls Tryz.prog 113 [sSt p0, .str p1] [] (.bool r) [] := by
 unfold slices_Contains_string at h
 refine acalls_start true Tryz.func113 rfl (nt Tryz.ntmps113 rfl) fun Q hQ t ht => ?_
 conv at ht => whnf
 subst ht
 refine .q fun K1 k1 => rg 0 ?_
 refine k1 _ _ ?_
 refine .q fun K2 k2 => rg 0 ?_
 obtain ⟨x1, hx1, h⟩ := ob h
 refine call_pur (slices_Index_string_ok _ _ _ _ hx1) okF_188 (.cons (.same _) (.cons (.same _) .nil)) (fun g => by simp) (fun g => rfl) ?_
 refine k2 _ _ ?_
 refine .ret ?_
 have e9 := sj h
 subst e9
 refine hQ _ _ _ (retPure τ_ok (fun g => rfl) ?_)
 conv => whnf
theorem typing_copyEnv_ok (n : Nat) (p0 : Env) (r : (List Carrier) × (List Decl)) (h : typing_copyEnv n p0 = some r) : ACalls Tryz.prog 115 [aEnv p0] [] (.agg [.slice (List.map encCarrier r.1) (.tip 0 2), .slice (List.map encDecl r.2) (.tip 1 4)]) [.tip (List.length r.1 * 2), .tip (List.length r.2 * 4)] := by
 unfold typing_copyEnv at h
 refine acalls_start false Tryz.func115 rfl (nt Tryz.ntmps115 rfl) fun Q hQ t ht => ?_
 conv at ht => whnf
 subst ht
 refine .q fun K1 k1 => rg 2 ?_
 refine k1 _ _ ?_
 refine .q fun K2 k2 => rg 1 ?_
 refine k2 _ _ ?_
 refine .q fun K3 k3 => .q fun K4 k4 => rg 0 ?_
 refine len_of (l := p0.carriers) (f := encCarrier) ?_
 refine k4 _ _ ?_
 refine .block ?_
 obtain ⟨o1, ho1, h⟩ := ob h
 have hR1 : ∀ s2 : List Carrier, o1 = .nx s2 → ∀ t9 h9, Le 0 t9 h9 (.unk :: (.ptr 0 0 :: (.ptr 1 0 :: (.ptr 2 0 :: (u32 (u8 (u2 (.unk :: [])))))))) [.box [sCa p0.carriers, sDe p0.names], .box [.slice (List.map encCarrier ([] : List Carrier)) .nils, .slice (List.map encDecl ([] : List Decl)) .nils], .box [.slice (List.map encCarrier s2) (.tip 3 2), .slice (List.map encDecl ([] : List Decl)) .nils], .tip (List.length s2 * 2)] → K3 t9 h9 := by
  intro s2 ho
  subst ho
  dsimp only [LR.el] at h
  intro t9 h9 hw
  refine k3 _ _ (AW.le hw ?_)
  refine .q fun K5 k5 => .q fun K6 k6 => rg 0 ?_
  refine len_of (l := p0.names) (f := encDecl) ?_
  refine k6 _ _ ?_
  refine .block ?_
  obtain ⟨o2, ho2, h⟩ := ob h
  have hR2 : ∀ s4 : List Decl, o2 = .nx s4 → ∀ t9 h9, Le 0 t9 h9 (u2 (.ptr 0 0 :: (.ptr 1 0 :: (u32 (u8 (u2 (.unk :: []))))))) [.box [.slice (List.map encCarrier ([] : List Carrier)) .nils, .slice (List.map encDecl ([] : List Decl)) .nils], .box [.slice (List.map encCarrier s2) (.tip 2 2), .slice (List.map encDecl s4) (.tip 3 4)], .tip (List.length s2 * 2), .tip (List.length s4 * 4)] → K5 t9 h9 := by
   intro s4 ho
   subst ho
   dsimp only [LR.el] at h
   intro t9 h9 hw
   refine k5 _ _ (AW.le hw ?_)
   refine .q fun K7 k7 => rg 0 ?_
   refine k7 _ _ ?_
   refine .ret ?_
   have e9 := sj h
   subst e9
   refine hQ _ _ _ (retW (u2 (.ptr 0 0 :: (u32 (u8 (u4 []))))) [.box [.slice (List.map encCarrier s2) (.tip 1 2), .slice (List.map encDecl s4) (.tip 2 4)], .tip (List.length s2 * 2), .tip (List.length s4 * 4)] (wk [some 0, some 2, some 3] (.u2 (.c rfl (.u32 (.u8 (.u4 .nil))))) (.b rfl (.cons (.tipS (renl_Carrier _ _) rfl) (.cons (.tipS (renl_Decl _ _) rfl) .nil)) (.t rfl (.t rfl .nil))) rfl) (retObj τ_ok [1, 2] rfl (.cons (rfl) (.cons (rfl) .nil)) ?_))
   conv => whnf
   first | rfl | (simp; done) | (simp; rfl) | (simp; constructor <;> rfl)
  refine .loopS (typing_copyEnv_L0 n p0) (fun (s3 : Int × (List Decl)) => (u2 (.ptr 0 0 :: (.ptr 1 0 :: (u16 (u8 (sDe p0.names :: (.i (p0.names.length : Int) :: (.i s3.1 :: (u16 [])))))))))) (fun (s3 : Int × (List Decl)) => [.box [.slice (List.map encCarrier ([] : List Carrier)) .nils, .slice (List.map encDecl ([] : List Decl)) .nils], .box [.slice (List.map encCarrier s2) (.tip 2 2), .slice (List.map encDecl s3.2) (.tip 3 4)], .tip (List.length s2 * 2), .tip (List.length s3.2 * 4)]) ho2 (fun _ => rfl) (wk [some 1, some 2, some 3, none] (.u2 (.c rfl (.c rfl (.u16 (.u8 (.e renl_Decl (.c rfl (.c rfl (.u16 .nil))))))))) (.b rfl (.c rfl (.c rfl .nil)) (.b rfl (.cons (.tipS (renl_Carrier _ _) rfl) (.cons (.nils _ _) .nil)) (.t rfl (.w rfl .nil)))) rfl) ?_
  intro n2 s3 hs2 KL2 hKL2
  unfold typing_copyEnv_L0 at hs2
  refine .q fun K8 k8 => rg 0 ?_
  refine k8 _ _ ?_
  refine .q fun K9 k9 => ?_
  refine .condS rfl hs2 (fun hc1 hs2 => ?_) (fun hc1 hs2 => ?_)
  ·refine .skip ?_
   refine k9 _ _ ?_
   refine .q fun K10 k10 => ?_
   refine .block ?_
   refine .q fun K11 k11 => rg 1 ?_
   obtain ⟨x1, hx1, hs2⟩ := ob hs2
   refine idx_of (l := p0.names) (f := encDecl) (cs := [.str ((x1).name), .i (((x1).ty).kind), .str (((x1).ty).name), sTy (((x1).ty).kids)]) hx1 (rfl) rfl ?_
   refine k11 _ _ ?_
   refine rg 2 ?_
   obtain ⟨x2, hx2, hs2⟩ := ob hs2
   refine cp (typing_copyType_ok _ _ _ hx2) okF_70 (.cons (.same _) .nil) ?_
   refine ⟨List.map encDecl ([(Decl.mk x1.name x2)]), rfl, ?_⟩
   obtain ⟨x3, hx3, hs2⟩ := ob hs2
   refine app_tip (l := s3.2) (ys := [(Decl.mk x1.name x2)]) (f := encDecl) hx3 ok_Decl rfl rfl rfl ?_
   refine ⟨rfl, ?_⟩
   refine k10 _ _ ?_
   refine .know 30 0 fun hv1 => ?_
   refine .know 28 0 fun hv2 => ?_
   refine rg 0 ?_
   refine ⟨(s3.1 + 1), by have := wf64 hv1; have := vfl hv2; have h8 := of_decide_eq_true hc1; exact w64_id (by omega) (by omega), ?_⟩
   exact hKL2 _ _ _ hs2 (wk [some 0, some 1, some 2, some 6] (.u2 (.c rfl (.c rfl (.u16 (.u8 (.e renl_Decl (.c rfl (.c rfl (.u16 .nil))))))))) (.b rfl (.c rfl (.c rfl .nil)) (.b rfl (.cons (.tipS (renl_Carrier _ _) rfl) (.cons (.tipS (renl_Decl _ _) rfl) .nil)) (.t rfl (.t rfl .nil)))) rfl)
  ·refine .exit ?_
   exact hR2 _ (sj hs2).symm _ _ (li (.u2 (.s (.s (.u16 (.u16 (.u8 (.u2 (.u .n)))))))))
 refine .loopS (typing_copyEnv_L1 n p0) (fun (s1 : Int × (List Carrier)) => (.unk :: (.ptr 0 0 :: (.ptr 1 0 :: (.ptr 2 0 :: (u4 (.unk :: (sCa p0.carriers :: (.i (p0.carriers.length : Int) :: (.i s1.1 :: (u32 (u2 (.unk :: []))))))))))))) (fun (s1 : Int × (List Carrier)) => [.box [sCa p0.carriers, sDe p0.names], .box [.slice (List.map encCarrier ([] : List Carrier)) .nils, .slice (List.map encDecl ([] : List Decl)) .nils], .box [.slice (List.map encCarrier s1.2) (.tip 3 2), .slice (List.map encDecl ([] : List Decl)) .nils], .tip (List.length s1.2 * 2)]) ho1 (fun _ => rfl) (wk [some 0, some 1, some 2, none] (.u (.c rfl (.c rfl (.c rfl (.u4 (.u (.e renl_Carrier (.c rfl (.c rfl (.u32 (.u2 (.u .nil)))))))))))) (.b rfl (.e renl_Carrier (.e renl_Decl .nil)) (.b rfl (.c rfl (.c rfl .nil)) (.b rfl (.cons (.nils _ _) (.c rfl .nil)) (.w rfl .nil)))) rfl) ?_
 intro n1 s1 hs1 KL1 hKL1
 unfold typing_copyEnv_L1 at hs1
 refine .q fun K12 k12 => rg 0 ?_
 refine k12 _ _ ?_
 refine .q fun K13 k13 => ?_
 refine .condS rfl hs1 (fun hc2 hs1 => ?_) (fun hc2 hs1 => ?_)
 ·refine .skip ?_
  refine k13 _ _ ?_
  refine .q fun K14 k14 => ?_
  refine .block ?_
  refine .q fun K15 k15 => rg 1 ?_
  obtain ⟨x4, hx4, hs1⟩ := ob hs1
  refine idx_of (l := p0.carriers) (f := encCarrier) (cs := [.str ((x4).name), sSt ((x4).elems)]) hx4 (rfl) rfl ?_
  refine k15 _ _ ?_
  refine rg 2 ?_
  obtain ⟨x5, hx5, hs1⟩ := ob hs1
  refine cp (slices_Clone_string_ok _ _ _ hx5) okF_189 (.cons (.same _) .nil) ?_
  refine ⟨List.map encCarrier ([(Carrier.mk x4.name x5)]), rfl, ?_⟩
  obtain ⟨x6, hx6, hs1⟩ := ob hs1
  refine app_tip (l := s1.2) (ys := [(Carrier.mk x4.name x5)]) (f := encCarrier) hx6 ok_Carrier rfl rfl rfl ?_
  refine ⟨rfl, ?_⟩
  refine k14 _ _ ?_
  refine .know 11 0 fun hv3 => ?_
  refine .know 9 0 fun hv4 => ?_
  refine rg 0 ?_
  refine ⟨(s1.1 + 1), by have := wf64 hv3; have := vfl hv4; have h8 := of_decide_eq_true hc2; exact w64_id (by omega) (by omega), ?_⟩
  exact hKL1 _ _ _ hs1 (wk [some 0, some 1, some 2, some 6] (.u (.c rfl (.c rfl (.c rfl (.u4 (.u (.e renl_Carrier (.c rfl (.c rfl (.u32 (.u2 (.u .nil)))))))))))) (.b rfl (.e renl_Carrier (.e renl_Decl .nil)) (.b rfl (.c rfl (.c rfl .nil)) (.b rfl (.cons (.tipS (renl_Carrier _ _) rfl) (.c rfl .nil)) (.t rfl .nil)))) rfl)
 ·refine .exit ?_
  exact hR1 _ (sj hs1).symm _ _ (li (.u (.s (.s (.s (.u16 (.u16 (.u8 (.u2 (.u .n))))))))))
theorem typing_With_ok (n : Nat) (p0 : Env) (p1 : Str) (p2 : Ty) (r : Env × Int) (h : typing_With n p0 p1 p2 = some r) : ACalls Tryz.prog 53 [aEnv p0, .str p1, aTy p2] [] (.tup [aEnv r.1, .i r.2]) [] := by
 unfold typing_With at h
 refine acalls_start true Tryz.func53 rfl (nt Tryz.ntmps53 rfl) fun Q hQ t ht => ?_
 conv at ht => whnf
 subst ht
 refine .q fun K1 k1 => rg 3 ?_
 refine k1 _ _ ?_
 refine .q fun K2 k2 => ?_
 refine .block ?_
 refine .q fun K3 k3 => ?_
 obtain ⟨s1, hj1, h⟩ := ob h
 have hR1 : ∀ t9 h9, Le 0 t9 h9 (.unk :: (.str p1 :: (.unk :: (.ptr 0 0 :: (.unk :: (.ptr 1 0 :: (.ptr 2 0 :: (u2 (.bool s1 :: (u32 (u8 (u4 [])))))))))))) [.box [sCa p0.carriers, sDe p0.names], .box [.i p2.kind, .str p2.name, sTy p2.kids], .box [.slice (List.map encCarrier ([] : List Carrier)) .nils, .slice (List.map encDecl ([] : List Decl)) .nils]] → K3 t9 h9 := by
  intro t9 h9 hw
  refine k3 _ _ (AW.le hw ?_)
  clear hw
  refine .condS rfl h (fun hc1 h => ?_) (fun hc1 h => ?_)
  ·refine .q fun K4 k4 => rg 0 ?_
   refine k4 _ _ ?_
   refine .ret ?_
   have e9 := sj h
   subst e9
   refine hQ _ _ _ (retPure τ_ok (fun g => by simp) ?_)
   conv => whnf
   try rfl
  ·refine .q fun K5 k5 => rg 1 ?_
   obtain ⟨x1, hx1, h⟩ := ob h
   refine call_gen [] [3] [aEnv p0] [aEnv p0] (typing_declared_ok _ _ _ hx1) okF_114 rfl .nil (by simp; try decide) (.cons (.same _) .nil) (rn := .slice (List.map encS x1) (.tip 3 1)) (by simp; try decide) (Hn := [.tip (List.length x1 * 1)]) ((rcons (rfl) rfl)) ?_
   obtain ⟨x2, hx2, h⟩ := ob h
   refine call_pur (slices_Contains_string_ok _ _ _ _ hx2) okF_113 (.cons (.share _ _) (.cons (.same _) .nil)) (fun g => by simp) (fun g => rfl) ?_
   refine k5 _ _ ?_
   refine .condS rfl h (fun hc2 h => ?_) (fun hc2 h => ?_)
   ·refine .q fun K6 k6 => rg 0 ?_
    refine k6 _ _ ?_
    refine .ret ?_
    have e9 := sj h
    subst e9
    refine hQ _ _ _ (retPure τ_ok (fun g => by simp) ?_)
    conv => whnf
    try rfl
   ·refine .q fun K7 k7 => rg 0 ?_
    obtain ⟨x3, hx3, h⟩ := ob h
    refine call_pur (typing_mentions_ok _ _ _ _ hx3) okF_97 (.cons (.same _) (.cons (.same _) .nil)) (fun g => by simp) (fun g => rfl) ?_
    refine k7 _ _ ?_
    refine .condS rfl h (fun hc3 h => ?_) (fun hc3 h => ?_)
    ·refine .q fun K8 k8 => rg 0 ?_
     refine k8 _ _ ?_
     refine .ret ?_
     have e9 := sj h
     subst e9
     refine hQ _ _ _ (retPure τ_ok (fun g => by simp) ?_)
     conv => whnf
     try rfl
    ·refine .q fun K9 k9 => rg 0 ?_
     refine len_of (l := p0.names) (f := encDecl) ?_
     refine k9 _ _ ?_
     refine .condS rfl h (fun hc4 h => ?_) (fun hc4 h => ?_)
     ·refine .q fun K10 k10 => rg 0 ?_
      refine k10 _ _ ?_
      refine .ret ?_
      have e9 := sj h
      subst e9
      refine hQ _ _ _ (retPure τ_ok (fun g => by simp) ?_)
      conv => whnf
      try rfl
     ·refine .skip ?_
      refine k2 _ _ ?_
      refine .q fun K11 k11 => rg 3 ?_
      obtain ⟨x4, hx4, h⟩ := ob h
      refine call_gen [] [4, 5] [aEnv p0] [aEnv p0] (typing_copyEnv_ok _ _ _ hx4) okF_115 rfl .nil (by simp; try decide) (.cons (.same _) .nil) (rn := .agg [.slice (List.map encCarrier x4.1) (.tip 4 2), .slice (List.map encDecl x4.2) (.tip 5 4)]) (by simp; try decide) (Hn := [.tip (List.length x4.1 * 2), .tip (List.length x4.2 * 4)]) ((rcons (rfl) (rcons (rfl) rfl))) ?_
      refine k11 _ _ ?_
      refine .q fun K12 k12 => rg 2 ?_
      obtain ⟨x5, hx5, h⟩ := ob h
      refine cp (typing_copyType_ok _ _ _ hx5) okF_70 (.cons (.same _) .nil) ?_
      refine ⟨List.map encDecl ([(Decl.mk p1 x5)]), rfl, ?_⟩
      obtain ⟨x6, hx6, h⟩ := ob h
      refine app_tip (l := x4.2) (ys := [(Decl.mk p1 x5)]) (f := encDecl) hx6 ok_Decl rfl rfl rfl ?_
      refine ⟨rfl, ?_⟩
      refine k12 _ _ ?_
      refine .q fun K13 k13 => rg 0 ?_
      refine k13 _ _ ?_
      refine .ret ?_
      have e9 := sj h
      subst e9
      refine hQ _ _ _ (retPure τ_ok (fun g => by simp) ?_)
      conv => whnf
      try rfl
 refine rg 0 ?_
 obtain ⟨x7, hx7, hj1⟩ := ob hj1
 refine call_pur (typing_ValidEnv_ok _ _ _ hx7) okF_55 (.cons (.same _) .nil) (fun g => by simp) (fun g => rfl) ?_
 refine onB_cond hj1 (fun hc5 hj1 => ?_) (fun hc5 hj1 => ?_)
 ·cases hj1
  exact hR1 _ _ (li (.u (.s (.u (.s (.u (.s (.s (.u2 (.s (.u16 (.u16 (.u8 (.u4 .n))))))))))))))
 ·obtain ⟨x8, hx8, hj1⟩ := ob hj1
  refine call_pur (typing_nameable_ok _ _ _ hx8) okF_112 (.cons (.same _) .nil) (fun g => rfl) (fun g => rfl) ?_
  refine onB_cond hj1 (fun hc6 hj1 => ?_) (fun hc6 hj1 => ?_)
  ·cases hj1
   exact hR1 _ _ (li (.u (.s (.u (.s (.u (.s (.s (.u2 (.s (.u16 (.u16 (.u8 (.u4 .n))))))))))))))
  ·obtain ⟨x9, hx9, hj1⟩ := ob hj1
   refine call_pur (typing_declarable_ok _ _ _ hx9) okF_95 (.cons (.same _) .nil) (fun g => by simp) (fun g => rfl) ?_
   cases hj1
   exact hR1 _ _ (li (.u (.s (.u (.s (.u (.s (.s (.u2 (.s (.u16 (.u16 (.u8 (.u4 .n))))))))))))))
theorem R2_CopyEnv_ok (n : Nat) (p0 : Env) (r : (List Carrier) × (List Decl)) (h : R2_CopyEnv n p0 = some r) : ACalls Tryz.prog 59 [aEnv p0] [] (.agg [.slice (List.map encCarrier r.1) (.tip 0 2), .slice (List.map encDecl r.2) (.tip 1 4)]) [.tip (List.length r.1 * 2), .tip (List.length r.2 * 4)] := by
 unfold R2_CopyEnv at h
 refine acalls_start false Tryz.func59 rfl (nt Tryz.ntmps59 rfl) fun Q hQ t ht => ?_
 conv at ht => whnf
 subst ht
 refine .q fun K1 k1 => rg 2 ?_
 refine k1 _ _ ?_
 refine .q fun K2 k2 => rg 1 ?_
 refine k2 _ _ ?_
 refine .q fun K3 k3 => .q fun K4 k4 => rg 0 ?_
 refine k4 _ _ ?_
 refine .block ?_
 obtain ⟨o1, ho1, h⟩ := ob h
 have hR1 : ∀ s2 : List Carrier, o1 = .nx s2 → ∀ t9 h9, Le 0 t9 h9 (.unk :: (.ptr 0 0 :: (.ptr 1 0 :: (.ptr 2 0 :: (u32 (u16 (u4 []))))))) [.box [sCa p0.carriers, sDe p0.names], .box [.slice (List.map encCarrier ([] : List Carrier)) .nils, .slice (List.map encDecl ([] : List Decl)) .nils], .box [.slice (List.map encCarrier s2) (.tip 3 2), .slice (List.map encDecl ([] : List Decl)) .nils], .tip (List.length s2 * 2)] → K3 t9 h9 := by
  intro s2 ho
  subst ho
  dsimp only [LR.el] at h
  intro t9 h9 hw
  refine k3 _ _ (AW.le hw ?_)
  refine .q fun K5 k5 => .q fun K6 k6 => rg 0 ?_
  refine k6 _ _ ?_
  refine .block ?_
  obtain ⟨o2, ho2, h⟩ := ob h
  have hR2 : ∀ s4 : List Decl, o2 = .nx s4 → ∀ t9 h9, Le 0 t9 h9 (u2 (.ptr 0 0 :: (.ptr 1 0 :: (u32 (u16 (u4 [])))))) [.box [.slice (List.map encCarrier ([] : List Carrier)) .nils, .slice (List.map encDecl ([] : List Decl)) .nils], .box [.slice (List.map encCarrier s2) (.tip 2 2), .slice (List.map encDecl s4) (.tip 3 4)], .tip (List.length s2 * 2), .tip (List.length s4 * 4)] → K5 t9 h9 := by
   intro s4 ho
   subst ho
   dsimp only [LR.el] at h
   intro t9 h9 hw
   refine k5 _ _ (AW.le hw ?_)
   refine .q fun K7 k7 => rg 0 ?_
   refine k7 _ _ ?_
   refine .ret ?_
   have e9 := sj h
   subst e9
   refine hQ _ _ _ (retW (u2 (.ptr 0 0 :: (u32 (u16 (u4 (.unk :: [])))))) [.box [.slice (List.map encCarrier s2) (.tip 1 2), .slice (List.map encDecl s4) (.tip 2 4)], .tip (List.length s2 * 2), .tip (List.length s4 * 4)] (wk [some 0, some 2, some 3] (.u2 (.c rfl (.u32 (.u16 (.u4 (.u .nil)))))) (.b rfl (.cons (.tipS (renl_Carrier _ _) rfl) (.cons (.tipS (renl_Decl _ _) rfl) .nil)) (.t rfl (.t rfl .nil))) rfl) (retObj τ_ok [1, 2] rfl (.cons (rfl) (.cons (rfl) .nil)) ?_))
   conv => whnf
   first | rfl | (simp; done) | (simp; rfl) | (simp; constructor <;> rfl)
  refine .loopS (R2_CopyEnv_L0 n p0) (fun (s3 : Int × (List Decl)) => (.unk :: (.ptr 0 0 :: (.ptr 1 0 :: (.ptr 2 0 :: (u2 (.i s3.1 :: (u32 (u16 (.unk :: [])))))))))) (fun (s3 : Int × (List Decl)) => [.box [sCa p0.carriers, sDe p0.names], .box [.slice (List.map encCarrier ([] : List Carrier)) .nils, .slice (List.map encDecl ([] : List Decl)) .nils], .box [.slice (List.map encCarrier s2) (.tip 3 2), .slice (List.map encDecl s3.2) (.tip 4 4)], .tip (List.length s2 * 2), .tip (List.length s3.2 * 4)]) ho2 (fun _ => rfl) (wk [some 0, some 1, some 2, some 3, none] (.u (.c rfl (.c rfl (.c rfl (.u2 (.c rfl (.u32 (.u16 (.u .nil))))))))) (.b rfl (.e renl_Carrier (.e renl_Decl .nil)) (.b rfl (.c rfl (.c rfl .nil)) (.b rfl (.cons (.tipS (renl_Carrier _ _) rfl) (.cons (.nils _ _) .nil)) (.t rfl (.w rfl .nil))))) rfl) ?_
  intro n2 s3 hs2 KL2 hKL2
  unfold R2_CopyEnv_L0 at hs2
  refine .q fun K8 k8 => .q fun K9 k9 => rg 0 ?_
  refine len_of (l := p0.names) (f := encDecl) ?_
  refine k9 _ _ ?_
  refine .condS rfl hs2 (fun hc1 hs2 => ?_) (fun hc1 hs2 => ?_)
  ·refine .skip ?_
   refine k8 _ _ ?_
   refine .q fun K10 k10 => ?_
   refine .block ?_
   refine .q fun K11 k11 => rg 1 ?_
   obtain ⟨x1, hx1, hs2⟩ := ob hs2
   refine idx_of (l := p0.names) (f := encDecl) (cs := [.str ((x1).name), .i (((x1).ty).kind), .str (((x1).ty).name), sTy (((x1).ty).kids)]) hx1 (rfl) rfl ?_
   refine k11 _ _ ?_
   refine rg 2 ?_
   obtain ⟨x2, hx2, hs2⟩ := ob hs2
   refine cp (R1_CopyType_ok _ _ _ hx2) okF_72 (.cons (.same _) .nil) ?_
   refine ⟨List.map encDecl ([(Decl.mk x1.name x2)]), rfl, ?_⟩
   obtain ⟨x3, hx3, hs2⟩ := ob hs2
   refine app_tip (l := s3.2) (ys := [(Decl.mk x1.name x2)]) (f := encDecl) hx3 ok_Decl rfl rfl rfl ?_
   refine ⟨rfl, ?_⟩
   refine k10 _ _ ?_
   refine .know 6 0 fun hv1 => ?_
   refine .know 34 0 fun hv2 => ?_
   refine rg 0 ?_
   refine ⟨(s3.1 + 1), by have := wf64 hv1; have := vfl hv2; have h8 := of_decide_eq_true hc1; exact w64_id (by omega) (by omega), ?_⟩
   exact hKL2 _ _ _ hs2 (wk [some 0, some 1, some 2, some 3, some 7] (.u (.c rfl (.c rfl (.c rfl (.u2 (.c rfl (.u32 (.u16 (.u .nil))))))))) (.b rfl (.e renl_Carrier (.e renl_Decl .nil)) (.b rfl (.c rfl (.c rfl .nil)) (.b rfl (.cons (.tipS (renl_Carrier _ _) rfl) (.cons (.tipS (renl_Decl _ _) rfl) .nil)) (.t rfl (.t rfl .nil))))) rfl)
  ·refine .exit ?_
   exact hR2 _ (sj hs2).symm _ _ (wk [some 1, some 2, some 3, some 4] (.u2 (.c rfl (.c rfl (.u32 (.u16 (.u4 .nil)))))) (.b rfl (.c rfl (.c rfl .nil)) (.b rfl (.cons (.tipS (renl_Carrier _ _) rfl) (.cons (.tipS (renl_Decl _ _) rfl) .nil)) (.t rfl (.t rfl .nil)))) rfl)
 refine .loopS (R2_CopyEnv_L1 n p0) (fun (s1 : Int × (List Carrier)) => (.unk :: (.ptr 0 0 :: (.ptr 1 0 :: (.ptr 2 0 :: (.i s1.1 :: (u32 (u16 (u2 (.unk :: [])))))))))) (fun (s1 : Int × (List Carrier)) => [.box [sCa p0.carriers, sDe p0.names], .box [.slice (List.map encCarrier ([] : List Carrier)) .nils, .slice (List.map encDecl ([] : List Decl)) .nils], .box [.slice (List.map encCarrier s1.2) (.tip 3 2), .slice (List.map encDecl ([] : List Decl)) .nils], .tip (List.length s1.2 * 2)]) ho1 (fun _ => rfl) (wk [some 0, some 1, some 2, none] (.u (.c rfl (.c rfl (.c rfl (.c rfl (.u32 (.u16 (.u2 (.u .nil))))))))) (.b rfl (.e renl_Carrier (.e renl_Decl .nil)) (.b rfl (.c rfl (.c rfl .nil)) (.b rfl (.cons (.nils _ _) (.c rfl .nil)) (.w rfl .nil)))) rfl) ?_
 intro n1 s1 hs1 KL1 hKL1
 unfold R2_CopyEnv_L1 at hs1
 refine .q fun K12 k12 => .q fun K13 k13 => rg 0 ?_
 refine len_of (l := p0.carriers) (f := encCarrier) ?_
 refine k13 _ _ ?_
 refine .condS rfl hs1 (fun hc2 hs1 => ?_) (fun hc2 hs1 => ?_)
 ·refine .skip ?_
  refine k12 _ _ ?_
  refine .q fun K14 k14 => ?_
  refine .block ?_
  refine .q fun K15 k15 => rg 1 ?_
  obtain ⟨x4, hx4, hs1⟩ := ob hs1
  refine idx_of (l := p0.carriers) (f := encCarrier) (cs := [.str ((x4).name), sSt ((x4).elems)]) hx4 (rfl) rfl ?_
  refine k15 _ _ ?_
  refine rg 4 ?_
  refine ⟨List.map encS ([] : List Str), rfl, ?_⟩
  obtain ⟨x5, hx5, hs1⟩ := ob hs1
  refine app_tip (l := ([] : List Str)) (ys := x4.elems) (f := encS) hx5 ok_S rfl rfl rfl ?_
  refine ⟨List.map encCarrier ([(Carrier.mk x4.name x5)]), rfl, ?_⟩
  obtain ⟨x6, hx6, hs1⟩ := ob hs1
  refine app_tip (l := s1.2) (ys := [(Carrier.mk x4.name x5)]) (f := encCarrier) hx6 ok_Carrier rfl rfl rfl ?_
  refine ⟨rfl, ?_⟩
  refine k14 _ _ ?_
  refine .know 4 0 fun hv3 => ?_
  refine .know 10 0 fun hv4 => ?_
  refine rg 0 ?_
  refine ⟨(s1.1 + 1), by have := wf64 hv3; have := vfl hv4; have h8 := of_decide_eq_true hc2; exact w64_id (by omega) (by omega), ?_⟩
  exact hKL1 _ _ _ hs1 (wk [some 0, some 1, some 2, some 8] (.u (.c rfl (.c rfl (.c rfl (.c rfl (.u32 (.u16 (.u2 (.u .nil))))))))) (.b rfl (.e renl_Carrier (.e renl_Decl .nil)) (.b rfl (.c rfl (.c rfl .nil)) (.b rfl (.cons (.tipS (renl_Carrier _ _) rfl) (.c rfl .nil)) (.t rfl .nil)))) rfl)
 ·refine .exit ?_
  exact hR1 _ (sj hs1).symm _ _ (li (.u (.s (.s (.s (.u16 (.u16 (.u16 (.u4 .n)))))))))
end Abs
end Go.Proofs.YtiiaccpcoclklaaGreat
namespace Go.Proofs.YtiiaccpcoclklaaGreat
namespace Abs
open Go Go.Proofs
set_option maxRecDepth 100000
set_option maxHeartbeats 40000000
end Abs
end Go.Proofs.YtiiaccpcoclklaaGreat
namespace Go.Proofs.YtiiaccpcoclklaaGreat
namespace Abs
open Go Go.Proofs
set_option maxRecDepth 100000
set_option maxHeartbeats 40000000
end Abs
end Go.Proofs.YtiiaccpcoclklaaGreat
namespace Go.Proofs.YtiiaccpcoclklaaGreat
namespace Abs
open Go Go.Proofs
set_option maxRecDepth 100000
set_option maxHeartbeats 40000000
end Abs
end Go.Proofs.YtiiaccpcoclklaaGreat
namespace Go.Proofs.YtiiaccpcoclklaaGreat
namespace Abs
open Go Go.Proofs
set_option maxRecDepth 100000
set_option maxHeartbeats 40000000
end Abs
end Go.Proofs.YtiiaccpcoclklaaGreat
namespace Go.Proofs.YtiiaccpcoclklaaGreat
namespace Abs
open Go Go.Proofs
set_option maxRecDepth 100000
set_option maxHeartbeats 40000000
end Abs
end Go.Proofs.YtiiaccpcoclklaaGreat
namespace Go.Proofs.YtiiaccpcoclklaaGreat
end Go.Proofs.YtiiaccpcoclklaaGreat
namespace Go.Proofs.YtiiaccpcoclklaaGreat
namespace Abs
open Go Go.Proofs
set_option maxRecDepth 100000
set_option maxHeartbeats 40000000
structure S_refinementlaw02_Binding where
  env : Env
  body : Tm
  domain : Tm
  name : Str
def L2_TypingBinders_L0 (n : Nat) (p0 : S_refinementlaw02_Binding) : Nat → (Int × (List Decl)) → Option (LR (List Decl) Bool)
 | 0, _ => none
 | k + 1, s3 => (cond (decide (s3.1 < (p0.env.names.length : Int))) ((((idx p0.env.names s3.1).bind fun x12 => (cond (!(x12.name == p0.name)) ((idx p0.env.names s3.1).bind fun x13 => ((app 64 s3.2 ([x13])).bind fun x14 => some x14)) (some s3.2))) : Option (List Decl)).bind fun s7 => L2_TypingBinders_L0 n p0 k ((s3.1 + 1), s7)) (some (.nx s3.2)))
def L2_TypingBinders (n : Nat) (p0 : S_refinementlaw02_Binding) : Option Bool := ((((L2_small n p0.env).bind fun x15 => (cond (!x15) (some true) ((R1_Identifier n p0.name).bind fun x16 => (cond (!x16) (some true) ((R2_ValidEnv n p0.env).bind fun x17 => some (!x17)))))) : Option Bool).bind fun s1 => (cond s1 ((L2_awake n).bind fun x1 => some x1) ((typing_Expression n p0.env p0.domain).bind fun x2 => (((cond (x2.2 != 0) (some true) (some (x2.1.kind != 5))) : Option Bool).bind fun s2 => (cond s2 ((L2_awake n).bind fun x3 => some x3) ((R2_CopyEnv n p0.env).bind fun x4 => ((L2_TypingBinders_L0 n p0 n (0, ([] : List Decl))).bind (LR.el (fun s4 => ((idx x2.1.kids 0).bind fun x5 => ((typing_With n (Env.mk x4.1 s4) p0.name x5).bind fun x6 => (((cond (x6.2 != 0) (some true) ((R1_Valid n (Tm.mk 9 p0.name 0 (Ty.mk 0 ([] : Str) ([])) ([p0.domain, p0.body]))).bind fun x11 => some (!x11))) : Option Bool).bind fun s5 => (cond s5 ((L2_awake n).bind fun x7 => some x7) ((((typing_Predicate n x6.1 p0.body).bind fun x8 => ((typing_Predicate n p0.env (Tm.mk 9 p0.name 0 (Ty.mk 0 ([] : Str) ([])) ([p0.domain, p0.body]))).bind fun x9 => (cond ((x8 == 0) == (x9 == 0)) ((L2_awake n).bind fun x10 => some x10) (some false)))) : Option Bool).bind fun s6 => some s6)))))) (fun r => some r)))))))))
end Abs
end Go.Proofs.YtiiaccpcoclklaaGreat
namespace Go.Proofs.YtiiaccpcoclklaaGreat
namespace Abs
open Go Go.Proofs
def encS_refinementlaw02_Binding (x : S_refinementlaw02_Binding) : List AV := [.slice (List.map encCarrier x.env.carriers) .shared, .slice (List.map encDecl x.env.names) .shared, .int .i64 x.body.op, .str x.body.name, .int .i64 x.body.n, .int .i64 x.body.ty.kind, .str x.body.ty.name, .slice (List.map encTy x.body.ty.kids) .shared, .slice (List.map encTm x.body.kids) .shared, .int .i64 x.domain.op, .str x.domain.name, .int .i64 x.domain.n, .int .i64 x.domain.ty.kind, .str x.domain.ty.name, .slice (List.map encTy x.domain.ty.kids) .shared, .slice (List.map encTm x.domain.kids) .shared, .str x.name]
theorem renl_S_refinementlaw02_Binding (g : Nat → Nat) (l : List S_refinementlaw02_Binding) : renLL g (l.map encS_refinementlaw02_Binding) = l.map encS_refinementlaw02_Binding := ren_map (fun g x => by simp only [encS_refinementlaw02_Binding, renL, ren, renT, renl_I, renl_S, renl_U8, renl_Ty, renl_Tm, renl_Carrier, renl_Decl]) g l
attribute [simp] renl_S_refinementlaw02_Binding
end Abs
end Go.Proofs.YtiiaccpcoclklaaGreat
namespace Go.Proofs.YtiiaccpcoclklaaGreat
namespace Abs
open Go Go.Proofs
set_option maxRecDepth 100000
set_option maxHeartbeats 40000000
end Abs
end Go.Proofs.YtiiaccpcoclklaaGreat
