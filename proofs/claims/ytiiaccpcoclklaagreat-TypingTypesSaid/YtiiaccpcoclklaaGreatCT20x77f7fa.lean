/-
  Plain functions and the contracts of Go functions by them (printed by gen.py). Conditions: none.
-/
import Derived.KernelRfl
import Derived.Test.YtiiaccpcoclklaaGreatCData2x72b33f
import Derived.Test.YtiiaccpcoclklaaGreatCDfx3b4a26
import Derived.Test.YtiiaccpcoclklaaGreatCTDx6f8f78
import Derived.Test.YtiiaccpcoclklaaGreatCT17x3c3f7c
import Derived.Test.YtiiaccpcoclklaaGreatCT19xdbebd9
set_option linter.unusedSimpArgs false
set_option linter.unusedVariables false
namespace Go.Proofs.YtiiaccpcoclklaaGreat
namespace Abs
open Go Go.Proofs
set_option maxRecDepth 100000
set_option maxHeartbeats 40000000
theorem R2_FindElement_ok (n : Nat) (p0 : Env) (p1 : Str) (r : Int × Int) (h : R2_FindElement n p0 p1 = some r) : ACalls Tryz.prog 186 [aEnv p0, .str p1] [] (.tup [.i r.1, .i r.2]) [] := by
 unfold R2_FindElement at h
 refine acalls_start true Tryz.func186 rfl (nt Tryz.ntmps186 rfl) fun Q hQ t ht => ?_
 conv at ht => whnf
 subst ht
 refine .q fun K1 k1 => rg 1 ?_
 refine k1 _ _ ?_
 refine .q fun K2 k2 => .q fun K3 k3 => rg 0 ?_
 refine k3 _ _ ?_
 refine .block ?_
 obtain ⟨o1, ho1, h⟩ := ob h
 have hR1 : ∀ s2 : Unit, o1 = .nx s2 → ∀ t9 h9, Le 0 t9 h9 (u32 (u4 (u2 (.unk :: [])))) [] → K2 t9 h9 := by
  intro s2 ho
  subst ho
  dsimp only [LR.el] at h
  intro t9 h9 hw
  refine k2 _ _ (AW.le hw ?_)
  refine .q fun K4 k4 => rg 0 ?_
  refine k4 _ _ ?_
  refine .ret ?_
  have e9 := sj h
  subst e9
  refine hQ _ _ _ (retPure τ_ok (fun g => by simp) ?_)
  conv => whnf
  try rfl
 refine .loopS (R2_FindElement_L0 n p0 p1) (fun (s1 : Int) => (.unk :: (.str p1 :: (.ptr 0 0 :: (u2 (.unk :: (.i s1 :: (u32 [])))))))) (fun (s1 : Int) => [.box [sCa p0.carriers, sDe p0.names]]) ho1 (fun _ => rfl) (li (.u (.s (.s (.u2 (.u (.s (.u16 (.u16 .n))))))))) ?_
 intro n1 s1 hs1 KL1 hKL1
 unfold R2_FindElement_L0 at hs1
 refine .q fun K5 k5 => .q fun K6 k6 => rg 0 ?_
 refine len_of (l := p0.carriers) (f := encCarrier) ?_
 refine k6 _ _ ?_
 refine .condS rfl hs1 (fun hc1 hs1 => ?_) (fun hc1 hs1 => ?_)
 ·refine .skip ?_
  refine k5 _ _ ?_
  refine .q fun K7 k7 => ?_
  refine .block ?_
  refine .q fun K8 k8 => rg 0 ?_
  refine k8 _ _ ?_
  refine .block ?_
  obtain ⟨o2, ho2, hs1⟩ := ob hs1
  have hR2 : ∀ s4 : Unit, o2 = .nx s4 → ∀ t9 h9, Le 0 t9 h9 (.unk :: (.str p1 :: (.ptr 0 0 :: (u2 (.unk :: (.i s1 :: (u32 []))))))) [.box [sCa p0.carriers, sDe p0.names]] → K7 t9 h9 := by
   intro s4 ho
   subst ho
   dsimp only [LR.el] at hs1
   intro t9 h9 hw
   refine k7 _ _ (AW.le hw ?_)
   refine .know 6 0 fun hv1 => ?_
   refine .knowB 0 0 (fun hv2 => ?_) ⟨2, 0, rfl⟩
   refine rg 0 ?_
   refine ⟨(s1 + 1), by have := wf64 hv1; have := vfl hv2; have h8 := of_decide_eq_true hc1; exact w64_id (by omega) (by omega), ?_⟩
   exact hKL1 _ _ _ hs1 (li (.u (.s (.s (.u2 (.u (.s (.u16 (.u16 .n)))))))))
  refine .loopS (R2_FindElement_L1 n p0 p1 s1) (fun (s3 : Int) => (.unk :: (.str p1 :: (.ptr 0 0 :: (u2 (.unk :: (.i s1 :: (.i s3 :: (u16 (u8 (u4 (u2 (.unk :: []))))))))))))) (fun (s3 : Int) => [.box [sCa p0.carriers, sDe p0.names]]) ho2 (fun _ => rfl) (li (.u (.s (.s (.u2 (.u (.s (.s (.u16 (.u8 (.u4 (.u2 (.u .n))))))))))))) ?_
  intro n2 s3 hs2 KL2 hKL2
  unfold R2_FindElement_L1 at hs2
  refine .q fun K9 k9 => .q fun K10 k10 => rg 0 ?_
  obtain ⟨x1, hx1, hs2⟩ := ob hs2
  refine idx_of (l := p0.carriers) (f := encCarrier) (cs := [.str ((x1).name), sSt ((x1).elems)]) hx1 (rfl) rfl ?_
  refine len_of (l := x1.elems) (f := encS) ?_
  refine k10 _ _ ?_
  refine .condS rfl hs2 (fun hc2 hs2 => ?_) (fun hc2 hs2 => ?_)
  ·refine .skip ?_
   refine k9 _ _ ?_
   refine .q fun K11 k11 => ?_
   refine .block ?_
   refine .q fun K12 k12 => rg 0 ?_
   obtain ⟨x2, hx2, hs2⟩ := ob hs2
   refine idx_of (l := p0.carriers) (f := encCarrier) (cs := [.str ((x2).name), sSt ((x2).elems)]) hx2 (rfl) rfl ?_
   obtain ⟨x3, hx3, hs2⟩ := ob hs2
   refine idx_of (l := x2.elems) (f := encS) (cs := [.str (x3)]) hx3 (rfl) rfl ?_
   refine k12 _ _ ?_
   refine .condS rfl hs2 (fun hc3 hs2 => ?_) (fun hc3 hs2 => ?_)
   ·refine .q fun K13 k13 => rg 0 ?_
    refine k13 _ _ ?_
    refine .ret ?_
    have e9 := sj hs2
    subst e9
    dsimp only [LR.el] at hs1
    have e9 := sj hs1
    subst e9
    dsimp only [LR.el] at h
    have e9 := sj h
    subst e9
    refine hQ _ _ _ (retPure τ_ok (fun g => by simp) ?_)
    conv => whnf
    try rfl
   ·refine .skip ?_
    refine k11 _ _ ?_
    refine .know 7 0 fun hv3 => ?_
    refine .know 19 1 fun hv4 => ?_
    refine rg 0 ?_
    refine ⟨(s3 + 1), by have := wf64 hv3; have := vfl hv4; have h8 := of_decide_eq_true hc2; exact w64_id (by omega) (by omega), ?_⟩
    exact hKL2 _ _ _ hs2 (li (.u (.s (.s (.u2 (.u (.s (.s (.u16 (.u8 (.u4 (.u2 (.u .n)))))))))))))
  ·refine .exit ?_
   exact hR2 _ (sj hs2).symm _ _ (li (.u (.s (.s (.u2 (.u (.s (.u16 (.u16 .n)))))))))
 ·refine .exit ?_
  exact hR1 _ (sj hs1).symm _ _ (wk [] (.u32 (.u4 (.u2 (.u .nil)))) .nil rfl)
theorem R2_denotes_ok (n : Nat) (p0 : Env) (p1 : List Decl) (p2 : Str) (r : Ty × Bool) (h : R2_denotes n p0 p1 p2 = some r) : ACalls Tryz.prog 111 [aEnv p0, sDe p1, .str p2] [] (.tup [aTy r.1, .bool r.2]) [] := by
 unfold R2_denotes at h
 refine acalls_start true Tryz.func111 rfl (nt Tryz.ntmps111 rfl) fun Q hQ t ht => ?_
 conv at ht => whnf
 subst ht
 refine .q fun K1 k1 => rg 2 ?_
 refine k1 _ _ ?_
 refine .q fun K2 k2 => .q fun K3 k3 => ?_
 refine .know 1 0 fun hv1 => ?_
 refine rg 0 ?_
 refine len_of (l := p1) (f := encDecl) ?_
 refine ⟨((p1.length : Int) - 1), by have := vfl hv1; exact w64_id (by omega) (by omega), ?_⟩
 refine k3 _ _ ?_
 refine .block ?_
 obtain ⟨o1, ho1, h⟩ := ob h
 have hR1 : ∀ s2 : Unit, o1 = .nx s2 → ∀ t9 h9, Le 0 t9 h9 (u2 (.str p2 :: (.ptr 0 0 :: (u2 (.ptr 1 0 :: (u32 (u16 (u8 (u2 []))))))))) [.box [sCa p0.carriers, sDe p0.names], .box [.i 0, .str ([] : Str), .slice (List.map encTy ([] : List Ty)) .nils]] → K2 t9 h9 := by
  intro s2 ho
  subst ho
  dsimp only [LR.el] at h
  intro t9 h9 hw
  refine k2 _ _ (AW.le hw ?_)
  refine .q fun K4 k4 => .q fun K5 k5 => rg 0 ?_
  obtain ⟨x1, hx1, h⟩ := ob h
  refine call_pur (R2_FindName_ok _ _ _ _ hx1) okF_129 (.cons (.same _) (.cons (.same _) .nil)) (fun g => by simp) (fun g => rfl) ?_
  refine k5 _ _ ?_
  refine .q fun K6 k6 => rg 0 ?_
  refine k6 _ _ ?_
  refine .condS rfl h (fun hc1 h => ?_) (fun hc1 h => ?_)
  ·refine .q fun K7 k7 => rg 0 ?_
   obtain ⟨x2, hx2, h⟩ := ob h
   refine idx_of (l := p0.names) (f := encDecl) (cs := [.str ((x2).name), .i (((x2).ty).kind), .str (((x2).ty).name), sTy (((x2).ty).kids)]) hx2 (rfl) rfl ?_
   refine k7 _ _ ?_
   refine .ret ?_
   have e9 := sj h
   subst e9
   refine hQ _ _ _ (retPure τ_ok (fun g => by simp) ?_)
   conv => whnf
   try rfl
  ·refine .skip ?_
   refine k4 _ _ ?_
   refine .q fun K8 k8 => .q fun K9 k9 => rg 0 ?_
   obtain ⟨x3, hx3, h⟩ := ob h
   refine call_pur (R2_FindCarrier_ok _ _ _ _ hx3) okF_128 (.cons (.same _) (.cons (.same _) .nil)) (fun g => by simp) (fun g => rfl) ?_
   refine k9 _ _ ?_
   refine .condS rfl h (fun hc2 h => ?_) (fun hc2 h => ?_)
   ·refine .q fun K10 k10 => rg 0 ?_
    refine call_pur (R2_Carrier_ok 0 p2 _ rfl) okF_63 (.cons (.same _) .nil) (fun g => rfl) (fun g => by simp) ?_
    refine cp (R2_Set_ok 0 (Ty.mk 3 p2 ([])) _ rfl) okF_48 (.cons (.same _) .nil) ?_
    refine k10 _ _ ?_
    refine .ret ?_
    have e9 := sj h
    subst e9
    refine hQ _ _ _ (retPure τ_ok (fun g => by simp) ?_)
    conv => whnf
    try rfl
   ·refine .skip ?_
    refine k8 _ _ ?_
    refine .q fun K11 k11 => .q fun K12 k12 => rg 0 ?_
    obtain ⟨x4, hx4, h⟩ := ob h
    refine cp (R2_FindElement_ok _ _ _ _ hx4) okF_186 (.cons (.same _) (.cons (.same _) .nil)) ?_
    refine k12 _ _ ?_
    refine .q fun K13 k13 => rg 0 ?_
    refine k13 _ _ ?_
    refine .condS rfl h (fun hc3 h => ?_) (fun hc3 h => ?_)
    ·refine .q fun K14 k14 => rg 0 ?_
     obtain ⟨x5, hx5, h⟩ := ob h
     refine idx_of (l := p0.carriers) (f := encCarrier) (cs := [.str ((x5).name), sSt ((x5).elems)]) hx5 (rfl) rfl ?_
     refine call_pur (R2_Carrier_ok 0 x5.name _ rfl) okF_63 (.cons (.same _) .nil) (fun g => rfl) (fun g => by simp) ?_
     refine k14 _ _ ?_
     refine .ret ?_
     have e9 := sj h
     subst e9
     refine hQ _ _ _ (retPure τ_ok (fun g => by simp) ?_)
     conv => whnf
     try rfl
    ·refine .skip ?_
     refine k11 _ _ ?_
     refine .q fun K15 k15 => rg 0 ?_
     refine k15 _ _ ?_
     refine .ret ?_
     have e9 := sj h
     subst e9
     refine hQ _ _ _ (retPure τ_ok (fun g => by simp) ?_)
     conv => whnf
     try rfl
 refine .loopS (R2_denotes_L0 n p1 p2) (fun (s1 : Int) => (.unk :: (sDe p1 :: (.str p2 :: (.ptr 0 0 :: (u2 (.ptr 1 0 :: (.unk :: (.i s1 :: (u32 (u16 (u8 [])))))))))))) (fun (s1 : Int) => [.box [sCa p0.carriers, sDe p0.names], .box [.i 0, .str ([] : Str), .slice (List.map encTy ([] : List Ty)) .nils]]) ho1 (fun _ => rfl) (li (.u (.s (.s (.s (.u2 (.s (.u (.s (.u16 (.u16 (.u16 (.u8 .n))))))))))))) ?_
 intro n1 s1 hs1 KL1 hKL1
 unfold R2_denotes_L0 at hs1
 refine .q fun K16 k16 => .q fun K17 k17 => rg 0 ?_
 refine k17 _ _ ?_
 refine .condS rfl hs1 (fun hc4 hs1 => ?_) (fun hc4 hs1 => ?_)
 ·refine .skip ?_
  refine k16 _ _ ?_
  refine .q fun K18 k18 => ?_
  refine .block ?_
  refine .q fun K19 k19 => rg 0 ?_
  obtain ⟨x6, hx6, hs1⟩ := ob hs1
  refine idx_of (l := p1) (f := encDecl) (cs := [.str ((x6).name), .i (((x6).ty).kind), .str (((x6).ty).name), sTy (((x6).ty).kids)]) hx6 (rfl) rfl ?_
  refine k19 _ _ ?_
  refine .condS rfl hs1 (fun hc5 hs1 => ?_) (fun hc5 hs1 => ?_)
  ·refine .q fun K20 k20 => rg 0 ?_
   obtain ⟨x7, hx7, hs1⟩ := ob hs1
   refine idx_of (l := p1) (f := encDecl) (cs := [.str ((x7).name), .i (((x7).ty).kind), .str (((x7).ty).name), sTy (((x7).ty).kids)]) hx7 (rfl) rfl ?_
   refine k20 _ _ ?_
   refine .ret ?_
   have e9 := sj hs1
   subst e9
   dsimp only [LR.el] at h
   have e9 := sj h
   subst e9
   refine hQ _ _ _ (retPure τ_ok (fun g => by simp) ?_)
   conv => whnf
   try rfl
  ·refine .skip ?_
   refine k18 _ _ ?_
   refine .know 8 0 fun hv2 => ?_
   refine rg 0 ?_
   refine ⟨(s1 - 1), by have := wf64 hv2; have h8 := of_decide_eq_true hc4; exact w64_id (by omega) (by omega), ?_⟩
   exact hKL1 _ _ _ hs1 (li (.u (.s (.s (.s (.u2 (.s (.u (.s (.u16 (.u16 (.u16 (.u8 .n)))))))))))))
 ·refine .exit ?_
  exact hR1 _ (sj hs1).symm _ _ (li (.u2 (.s (.s (.u2 (.s (.u16 (.u16 (.u16 (.u8 (.u2 .n)))))))))))
theorem R2_isSet_ok (n : Nat) (p0 : Ty) (r : Bool) (h : R2_isSet n p0 = some r) : ACalls Tryz.prog 139 [aTy p0] [] (.bool r) [] := by
 unfold R2_isSet at h
 refine acalls_start true Tryz.func139 rfl (nt Tryz.ntmps139 rfl) fun Q hQ t ht => ?_
 conv at ht => whnf
 subst ht
 refine .q fun K1 k1 => rg 1 ?_
 refine k1 _ _ ?_
 refine .q fun K2 k2 => ?_
 obtain ⟨s1, hj1, h⟩ := ob h
 have hR1 : ∀ t9 h9, Le 0 t9 h9 (u2 (.bool s1 :: (u8 (u2 (.unk :: []))))) [] → K2 t9 h9 := by
  intro t9 h9 hw
  refine k2 _ _ (AW.le hw ?_)
  clear hw
  refine .ret ?_
  have e9 := sj h
  subst e9
  refine hQ _ _ _ (retPure τ_ok (fun g => rfl) ?_)
  conv => whnf
 refine rg 0 ?_
 refine onB_cond hj1 (fun hc1 hj1 => ?_) (fun hc1 hj1 => ?_)
 ·obtain ⟨x1, hx1, hj1⟩ := ob hj1
  refine idx_of (l := p0.kids) (f := encTy) (cs := [.i ((x1).kind), .str ((x1).name), sTy ((x1).kids)]) hx1 (encTy_eq x1) rfl ?_
  cases hj1
  exact hR1 _ _ (wk [] (.u2 (.c rfl (.u8 (.u2 (.u .nil))))) .nil rfl)
 ·cases hj1
  exact hR1 _ _ (wk [] (.u2 (.c rfl (.u8 (.u2 (.u .nil))))) .nil rfl)
theorem R2_Int_ok (n : Nat) (r : Ty) (h : R2_Int n = some r) : ACalls Tryz.prog 65 [] [] (aTy r) [] := by
 unfold R2_Int at h
 refine acalls_start true Tryz.func65 rfl (nt Tryz.ntmps65 rfl) fun Q hQ t ht => ?_
 conv at ht => whnf
 subst ht
 refine .q fun K1 k1 => rg 1 ?_
 refine k1 _ _ ?_
 refine .q fun K2 k2 => rg 0 ?_
 refine k2 _ _ ?_
 refine .ret ?_
 have e9 := sj h
 subst e9
 refine hQ _ _ _ (retPure τ_ok (fun g => by simp) ?_)
 conv => whnf
 try rfl
abbrev R1_SameType_S (rec_R1_SameType : Ty → Ty → Option Bool) : Prop := ∀ (p0 : Ty) (p1 : Ty) (r : Bool), rec_R1_SameType p0 p1 = some r → ACalls Tryz.prog 20 [aTy p0, aTy p1] [] (.bool r) []
theorem R1_SameType_body_ok (n : Nat) (rec_R1_SameType : Ty → Ty → Option Bool) (hrec_R1_SameType : R1_SameType_S rec_R1_SameType) (p0 : Ty) (p1 : Ty) (r : Bool) (h : R1_SameType_body n rec_R1_SameType p0 p1 = some r) : ACalls Tryz.prog 20 [aTy p0, aTy p1] [] (.bool r) [] := by
 unfold R1_SameType_body at h
 refine acalls_start true Tryz.func20 rfl (nt Tryz.ntmps20 rfl) fun Q hQ t ht => ?_
 conv at ht => whnf
 subst ht
 refine .q fun K1 k1 => rg 2 ?_
 refine k1 _ _ ?_
 refine .q fun K2 k2 => .q fun K3 k3 => ?_
 obtain ⟨s1, hj1, h⟩ := ob h
 have hR1 : ∀ t9 h9, Le 0 t9 h9 (u2 (.ptr 0 0 :: (.ptr 1 0 :: (u16 (u4 (u2 (.bool s1 :: (u16 (u2 (.unk :: [])))))))))) [.box [.i p0.kind, .str p0.name, sTy p0.kids], .box [.i p1.kind, .str p1.name, sTy p1.kids]] → K3 t9 h9 := by
  intro t9 h9 hw
  refine k3 _ _ (AW.le hw ?_)
  clear hw
  refine .condS rfl h (fun hc1 h => ?_) (fun hc1 h => ?_)
  ·refine .q fun K4 k4 => rg 0 ?_
   refine k4 _ _ ?_
   refine .ret ?_
   have e9 := sj h
   subst e9
   refine hQ _ _ _ (retPure τ_ok (fun g => rfl) ?_)
   conv => whnf
  ·refine .skip ?_
   refine k2 _ _ ?_
   refine .q fun K5 k5 => .q fun K6 k6 => rg 0 ?_
   refine k6 _ _ ?_
   refine .block ?_
   obtain ⟨o1, ho1, h⟩ := ob h
   have hR2 : ∀ s3 : Unit, o1 = .nx s3 → ∀ t9 h9, Le 0 t9 h9 (u32 (u8 (u4 (u2 [])))) [] → K5 t9 h9 := by
    intro s3 ho
    subst ho
    dsimp only [LR.el] at h
    intro t9 h9 hw
    refine k5 _ _ (AW.le hw ?_)
    refine .q fun K7 k7 => rg 0 ?_
    refine k7 _ _ ?_
    refine .ret ?_
    have e9 := sj h
    subst e9
    refine hQ _ _ _ (retPure τ_ok (fun g => rfl) ?_)
    conv => whnf
   refine .loopS (R1_SameType_L0 n rec_R1_SameType p0 p1) (fun (s2 : Int) => (u2 (.ptr 0 0 :: (.ptr 1 0 :: (.unk :: (.i s2 :: (u32 (u8 [])))))))) (fun (s2 : Int) => [.box [.i p0.kind, .str p0.name, sTy p0.kids], .box [.i p1.kind, .str p1.name, sTy p1.kids]]) ho1 (fun _ => rfl) (li (.u2 (.s (.s (.u (.s (.u16 (.u16 (.u8 .n))))))))) ?_
   intro n1 s2 hs1 KL1 hKL1
   unfold R1_SameType_L0 at hs1
   refine .q fun K8 k8 => .q fun K9 k9 => rg 0 ?_
   refine len_of (l := p0.kids) (f := encTy) ?_
   refine k9 _ _ ?_
   refine .condS rfl hs1 (fun hc2 hs1 => ?_) (fun hc2 hs1 => ?_)
   ·refine .skip ?_
    refine k8 _ _ ?_
    refine .q fun K10 k10 => ?_
    refine .block ?_
    refine .q fun K11 k11 => rg 0 ?_
    obtain ⟨x1, hx1, hs1⟩ := ob hs1
    refine idx_of (l := p0.kids) (f := encTy) (cs := [.i ((x1).kind), .str ((x1).name), sTy ((x1).kids)]) hx1 (encTy_eq x1) rfl ?_
    obtain ⟨x2, hx2, hs1⟩ := ob hs1
    refine idx_of (l := p1.kids) (f := encTy) (cs := [.i ((x2).kind), .str ((x2).name), sTy ((x2).kids)]) hx2 (encTy_eq x2) rfl ?_
    obtain ⟨x3, hx3, hs1⟩ := ob hs1
    refine call_pur (hrec_R1_SameType _ _ _ hx3) okF_20 (.cons (.same _) (.cons (.same _) .nil)) (fun g => by simp) (fun g => rfl) ?_
    refine ⟨rfl, ?_⟩
    refine k11 _ _ ?_
    refine .condS rfl hs1 (fun hc3 hs1 => ?_) (fun hc3 hs1 => ?_)
    ·refine .q fun K12 k12 => rg 0 ?_
     refine k12 _ _ ?_
     refine .ret ?_
     have e9 := sj hs1
     subst e9
     dsimp only [LR.el] at h
     have e9 := sj h
     subst e9
     refine hQ _ _ _ (retPure τ_ok (fun g => rfl) ?_)
     conv => whnf
    ·refine .skip ?_
     refine k10 _ _ ?_
     refine .know 5 0 fun hv1 => ?_
     refine .know 29 0 fun hv2 => ?_
     refine rg 0 ?_
     refine ⟨(s2 + 1), by have := wf64 hv1; have := vfl hv2; have h8 := of_decide_eq_true hc2; exact w64_id (by omega) (by omega), ?_⟩
     exact hKL1 _ _ _ hs1 (li (.u2 (.s (.s (.u (.s (.u16 (.u16 (.u8 .n)))))))))
   ·refine .exit ?_
    exact hR2 _ (sj hs1).symm _ _ (wk [] (.u32 (.u8 (.u4 (.u2 .nil)))) .nil rfl)
 refine rg 0 ?_
 refine onB_cond hj1 (fun hc4 hj1 => ?_) (fun hc4 hj1 => ?_)
 ·cases hj1
  exact hR1 _ _ (li (.u2 (.s (.s (.u16 (.u4 (.u2 (.s (.u16 (.u2 (.u .n)))))))))))
 ·refine onB_cond hj1 (fun hc5 hj1 => ?_) (fun hc5 hj1 => ?_)
  ·cases hj1
   exact hR1 _ _ (li (.u2 (.s (.s (.u16 (.u4 (.u2 (.s (.u16 (.u2 (.u .n)))))))))))
  ·refine len_of (l := p0.kids) (f := encTy) ?_
   refine len_of (l := p1.kids) (f := encTy) ?_
   cases hj1
   exact hR1 _ _ (li (.u2 (.s (.s (.u16 (.u4 (.u2 (.s (.u16 (.u2 (.u .n)))))))))))
theorem R1_SameType_all (n : Nat) : R1_SameType_S (R1_SameType n) := by
 induction n with
 | zero => exact (fun p0 p1 r h => by unfold R1_SameType at h; cases h)
 | succ n ih =>
  exact (fun p0 p1 r h => R1_SameType_body_ok n _ ih p0 p1 r (by unfold R1_SameType at h; exact h))
theorem R1_SameType_ok (n : Nat) : R1_SameType_S (R1_SameType n) := (R1_SameType_all n)
theorem R2_all_ok (n : Nat) (p0 : List Ty) (p1 : Ty) (r : Bool) (h : R2_all n p0 p1 = some r) : ACalls Tryz.prog 232 [sTy p0, aTy p1] [] (.bool r) [] := by
 unfold R2_all at h
 refine acalls_start true Tryz.func232 rfl (nt Tryz.ntmps232 rfl) fun Q hQ t ht => ?_
 conv at ht => whnf
 subst ht
 refine .q fun K1 k1 => rg 1 ?_
 refine k1 _ _ ?_
 refine .q fun K2 k2 => .q fun K3 k3 => rg 0 ?_
 refine k3 _ _ ?_
 refine .block ?_
 obtain ⟨o1, ho1, h⟩ := ob h
 have hR1 : ∀ s2 : Unit, o1 = .nx s2 → ∀ t9 h9, Le 0 t9 h9 (u16 (u2 (.unk :: []))) [] → K2 t9 h9 := by
  intro s2 ho
  subst ho
  dsimp only [LR.el] at h
  intro t9 h9 hw
  refine k2 _ _ (AW.le hw ?_)
  refine .q fun K4 k4 => rg 0 ?_
  refine k4 _ _ ?_
  refine .ret ?_
  have e9 := sj h
  subst e9
  refine hQ _ _ _ (retPure τ_ok (fun g => rfl) ?_)
  conv => whnf
 refine .loopS (R2_all_L0 n p0 p1) (fun (s1 : Int) => (sTy p0 :: (u2 (.ptr 0 0 :: (.unk :: (.i s1 :: (u8 (u4 (.unk :: []))))))))) (fun (s1 : Int) => [.box [.i p1.kind, .str p1.name, sTy p1.kids]]) ho1 (fun _ => rfl) (li (.s (.u2 (.s (.u (.s (.u8 (.u4 (.u .n))))))))) ?_
 intro n1 s1 hs1 KL1 hKL1
 unfold R2_all_L0 at hs1
 refine .q fun K5 k5 => .q fun K6 k6 => rg 0 ?_
 refine len_of (l := p0) (f := encTy) ?_
 refine k6 _ _ ?_
 refine .condS rfl hs1 (fun hc1 hs1 => ?_) (fun hc1 hs1 => ?_)
 ·refine .skip ?_
  refine k5 _ _ ?_
  refine .q fun K7 k7 => ?_
  refine .block ?_
  refine .q fun K8 k8 => rg 0 ?_
  obtain ⟨x1, hx1, hs1⟩ := ob hs1
  refine idx_of (l := p0) (f := encTy) (cs := [.i ((x1).kind), .str ((x1).name), sTy ((x1).kids)]) hx1 (encTy_eq x1) rfl ?_
  obtain ⟨x2, hx2, hs1⟩ := ob hs1
  refine call_pur (R1_SameType_ok _ _ _ _ hx2) okF_20 (.cons (.same _) (.cons (.same _) .nil)) (fun g => by simp) (fun g => rfl) ?_
  refine ⟨rfl, ?_⟩
  refine k8 _ _ ?_
  refine .condS rfl hs1 (fun hc2 hs1 => ?_) (fun hc2 hs1 => ?_)
  ·refine .q fun K9 k9 => rg 0 ?_
   refine k9 _ _ ?_
   refine .ret ?_
   have e9 := sj hs1
   subst e9
   dsimp only [LR.el] at h
   have e9 := sj h
   subst e9
   refine hQ _ _ _ (retPure τ_ok (fun g => rfl) ?_)
   conv => whnf
  ·refine .skip ?_
   refine k7 _ _ ?_
   refine .know 5 0 fun hv1 => ?_
   refine .know 0 0 fun hv2 => ?_
   refine rg 0 ?_
   refine ⟨(s1 + 1), by have := wf64 hv1; have := vfl hv2; have h8 := of_decide_eq_true hc1; exact w64_id (by omega) (by omega), ?_⟩
   exact hKL1 _ _ _ hs1 (li (.s (.u2 (.s (.u (.s (.u8 (.u4 (.u .n)))))))))
 ·refine .exit ?_
  exact hR1 _ (sj hs1).symm _ _ (wk [] (.u16 (.u2 (.u .nil))) .nil rfl)
theorem R2_Pair_ok (n : Nat) (p0 : Ty) (p1 : Ty) (r : Ty) (h : R2_Pair n p0 p1 = some r) : ACalls Tryz.prog 64 [aTy p0, aTy p1] [] (aTy r) [] := by
 unfold R2_Pair at h
 refine acalls_start true Tryz.func64 rfl (nt Tryz.ntmps64 rfl) fun Q hQ t ht => ?_
 conv at ht => whnf
 subst ht
 refine .q fun K1 k1 => rg 3 ?_
 refine k1 _ _ ?_
 refine .q fun K2 k2 => rg 1 ?_
 refine ⟨List.map encTy ([p0, p1]), by simp only [List.map_cons, List.map_nil, encTy_eq]; rfl, ?_⟩
 refine k2 _ _ ?_
 refine .ret ?_
 have e9 := sj h
 subst e9
 refine hQ _ _ _ (retPure τ_ok (fun g => by simp) ?_)
 conv => whnf
 try rfl
theorem R2_Bool_ok (n : Nat) (r : Ty) (h : R2_Bool n = some r) : ACalls Tryz.prog 268 [] [] (aTy r) [] := by
 unfold R2_Bool at h
 refine acalls_start true Tryz.func268 rfl (nt Tryz.ntmps268 rfl) fun Q hQ t ht => ?_
 conv at ht => whnf
 subst ht
 refine .q fun K1 k1 => rg 1 ?_
 refine k1 _ _ ?_
 refine .q fun K2 k2 => rg 0 ?_
 refine k2 _ _ ?_
 refine .ret ?_
 have e9 := sj h
 subst e9
 refine hQ _ _ _ (retPure τ_ok (fun g => by simp) ?_)
 conv => whnf
 try rfl
end Abs
end Go.Proofs.YtiiaccpcoclklaaGreat
