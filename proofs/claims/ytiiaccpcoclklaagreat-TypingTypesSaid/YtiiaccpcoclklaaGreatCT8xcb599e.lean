/-
  Plain functions and the contracts of Go functions by them (printed by gen.py). Conditions: none.
-/
import Derived.KernelRfl
import Derived.Test.YtiiaccpcoclklaaGreatCData2x72b33f
import Derived.Test.YtiiaccpcoclklaaGreatCDfx3b4a26
import Derived.Test.YtiiaccpcoclklaaGreatCTDx6f8f78
import Derived.Test.YtiiaccpcoclklaaGreatCT6x5c86cd
set_option linter.unusedSimpArgs false
set_option linter.unusedVariables false
namespace Go.Proofs.YtiiaccpcoclklaaGreat
namespace Abs
open Go Go.Proofs
set_option maxRecDepth 100000
set_option maxHeartbeats 40000000
theorem typing_names_ok (n : Nat) (p0 : Env) (r : List (Str × Ty)) (h : typing_names n p0 = some r) : ACalls Tryz.prog 110 [aEnv p0] [] (.mapr 0) [.mp (mTy r)] := by
 unfold typing_names at h
 refine acalls_start false Tryz.func110 rfl (nt Tryz.ntmps110 rfl) fun Q hQ t ht => ?_
 conv at ht => whnf
 subst ht
 refine .q fun K1 k1 => rg 1 ?_
 refine k1 _ _ ?_
 refine .q fun K2 k2 => rg 1 ?_
 refine k2 _ _ ?_
 refine .q fun K3 k3 => .q fun K4 k4 => rg 0 ?_
 refine len_of (l := p0.carriers) (f := encCarrier) ?_
 refine k4 _ _ ?_
 refine .block ?_
 obtain ⟨o1, ho1, h⟩ := ob h
 have hR1 : ∀ s2 : List (Str × Ty), o1 = .nx s2 → ∀ t9 h9, Le 0 t9 h9 (.unk :: (.ptr 0 0 :: (.unk :: (.mapr 1 :: (u32 (u16 (.unk :: []))))))) [.box [sCa p0.carriers, sDe p0.names], .mp (mTy s2)] → K3 t9 h9 := by
  intro s2 ho
  subst ho
  dsimp only [LR.el] at h
  intro t9 h9 hw
  refine k3 _ _ (AW.le hw ?_)
  refine .q fun K5 k5 => .q fun K6 k6 => rg 0 ?_
  refine len_of (l := p0.names) (f := encDecl) ?_
  refine k6 _ _ ?_
  refine .block ?_
  obtain ⟨o2, ho2, h⟩ := ob h
  have hR2 : ∀ s4 : List (Str × Ty), o2 = .nx s4 → ∀ t9 h9, Le 0 t9 h9 (u2 (.unk :: (.mapr 0 :: (u32 (u16 (.unk :: [])))))) [.mp (mTy s4)] → K5 t9 h9 := by
   intro s4 ho
   subst ho
   dsimp only [LR.el] at h
   intro t9 h9 hw
   refine k5 _ _ (AW.le hw ?_)
   refine .q fun K7 k7 => rg 0 ?_
   refine k7 _ _ ?_
   refine .ret ?_
   have e9 := sj h
   subst e9
   refine hQ _ _ _ (retW (u2 (.mapr 0 :: (u32 (u16 (u2 []))))) [.mp (mTy s4)] (wk [some 0] (.u2 (.c rfl (.u32 (.u16 (.u2 .nil))))) (.old .mT .nil) rfl) (retObj τ_ok [0] rfl (.cons (congrArg AObj.mp (renm (f := aTy) (fun g x => by simp) _ _)) .nil) ?_))
   conv => whnf
   first | rfl | (simp; done) | (simp; rfl) | (simp; constructor <;> rfl)
  refine .loopS (typing_names_L0 n p0) (fun (s3 : Int × (List (Str × Ty))) => (u2 (.unk :: (.mapr 0 :: (u32 (u4 (sDe p0.names :: (.i (p0.names.length : Int) :: (.i s3.1 :: (u8 (u2 []))))))))))) (fun (s3 : Int × (List (Str × Ty))) => [.mp (mTy s3.2)]) ho2 (fun _ => rfl) (wk [some 1] (.u2 (.u (.c rfl (.u32 (.u4 (.e renl_Decl (.c rfl (.c rfl (.u8 (.u2 .nil)))))))))) (.old .mT .nil) rfl) ?_
  intro n2 s3 hs2 KL2 hKL2
  unfold typing_names_L0 at hs2
  refine .q fun K8 k8 => rg 0 ?_
  refine k8 _ _ ?_
  refine .q fun K9 k9 => ?_
  refine .condS rfl hs2 (fun hc1 hs2 => ?_) (fun hc1 hs2 => ?_)
  ·refine .skip ?_
   refine k9 _ _ ?_
   refine .q fun K10 k10 => ?_
   refine .block ?_
   refine .q fun K11 k11 => rg 1 ?_
   obtain ⟨x1, hx1, hs2⟩ := ob hs2
   refine idx_of (l := p0.names) (f := encDecl) (cs := [.str ((x1).name), .i (((x1).ty).kind), .str (((x1).ty).name), sTy (((x1).ty).kids)]) hx1 (rfl) rfl ?_
   refine k11 _ _ ?_
   refine rg 0 ?_
   obtain ⟨x2, hx2, hs2⟩ := ob hs2
   refine put_of (m := s3.2) (f := aTy) hx2 rfl ?_
   refine k10 _ _ ?_
   refine .know 42 0 fun hv1 => ?_
   refine .know 40 0 fun hv2 => ?_
   refine rg 0 ?_
   refine ⟨(s3.1 + 1), by have := wf64 hv1; have := vfl hv2; have h8 := of_decide_eq_true hc1; exact w64_id (by omega) (by omega), ?_⟩
   exact hKL2 _ _ _ hs2 (wk [some 0] (.u2 (.u (.c rfl (.u32 (.u4 (.e renl_Decl (.c rfl (.c rfl (.u8 (.u2 .nil)))))))))) (.old .mT .nil) rfl)
  ·refine .exit ?_
   exact hR2 _ (sj hs2).symm _ _ (li (.u2 (.u (.s (.u16 (.u16 (.u16 (.u .n))))))))
 refine .loopS (typing_names_L1 n p0) (fun (s1 : Int × (List (Str × Ty))) => (.unk :: (.ptr 0 0 :: (.unk :: (.mapr 1 :: (u8 (.unk :: (sCa p0.carriers :: (.i (p0.carriers.length : Int) :: (.i s1.1 :: (u32 (u4 (.unk :: []))))))))))))) (fun (s1 : Int × (List (Str × Ty))) => [.box [sCa p0.carriers, sDe p0.names], .mp (mTy s1.2)]) ho1 (fun _ => rfl) (li (.u (.s (.u (.s (.u8 (.u (.s (.s (.s (.u16 (.u16 (.u4 (.u .n)))))))))))))) ?_
 intro n1 s1 hs1 KL1 hKL1
 unfold typing_names_L1 at hs1
 refine .q fun K12 k12 => rg 0 ?_
 refine k12 _ _ ?_
 refine .q fun K13 k13 => ?_
 refine .condS rfl hs1 (fun hc2 hs1 => ?_) (fun hc2 hs1 => ?_)
 ·refine .skip ?_
  refine k13 _ _ ?_
  refine .q fun K14 k14 => ?_
  refine .block ?_
  refine .q fun K15 k15 => rg 1 ?_
  obtain ⟨x3, hx3, hs1⟩ := ob hs1
  refine idx_of (l := p0.carriers) (f := encCarrier) (cs := [.str ((x3).name), sSt ((x3).elems)]) hx3 (rfl) rfl ?_
  refine k15 _ _ ?_
  refine .q fun K16 k16 => rg 1 ?_
  refine k16 _ _ ?_
  refine .q fun K17 k17 => rg 0 ?_
  refine cp (typing_setOf_ok 0 (Ty.mk 3 x3.name ([])) _ rfl) okF_138 (.cons (.agg' (.cons (.same _) (.cons (.same _) (.cons (.share _ _) .nil)))) .nil) ?_
  obtain ⟨x4, hx4, hs1⟩ := ob hs1
  refine put_of (m := s1.2) (f := aTy) hx4 rfl ?_
  refine ⟨rfl, ?_⟩
  refine k17 _ _ ?_
  refine .q fun K18 k18 => rg 0 ?_
  refine len_of (l := x3.elems) (f := encS) ?_
  refine k18 _ _ ?_
  refine .block ?_
  obtain ⟨o3, ho3, hs1⟩ := ob hs1
  have hR3 : ∀ s6 : List (Str × Ty), o3 = .nx s6 → ∀ t9 h9, Le 0 t9 h9 (.unk :: (.ptr 0 0 :: (.unk :: (.mapr 1 :: (u8 (.unk :: (sCa p0.carriers :: (.i (p0.carriers.length : Int) :: (.i s1.1 :: (u32 (u4 (.unk :: [])))))))))))) [.box [sCa p0.carriers, sDe p0.names], .mp (mTy s6)] → K14 t9 h9 := by
   intro s6 ho
   subst ho
   dsimp only [LR.el] at hs1
   intro t9 h9 hw
   refine k14 _ _ (AW.le hw ?_)
   refine .know 15 0 fun hv3 => ?_
   refine .know 13 0 fun hv4 => ?_
   refine rg 0 ?_
   refine ⟨(s1.1 + 1), by have := wf64 hv3; have := vfl hv4; have h8 := of_decide_eq_true hc2; exact w64_id (by omega) (by omega), ?_⟩
   exact hKL1 _ _ _ hs1 (li (.u (.s (.u (.s (.u8 (.u (.s (.s (.s (.u16 (.u16 (.u4 (.u .n))))))))))))))
  refine .loopS (typing_names_L2 n x3) (fun (s5 : Int × (List (Str × Ty))) => (.unk :: (.ptr 0 0 :: (.unk :: (.mapr 1 :: (u2 (.ptr 2 0 :: (u4 (u2 (sCa p0.carriers :: (.i (p0.carriers.length : Int) :: (.i s1.1 :: (u8 (u4 (sSt x3.elems :: (.i (x3.elems.length : Int) :: (.i s5.1 :: (u16 (u4 (u2 [])))))))))))))))))))) (fun (s5 : Int × (List (Str × Ty))) => [.box [sCa p0.carriers, sDe p0.names], .mp (mTy s5.2), .box [.i 3, .str x3.name, .slice (List.map encTy ([] : List Ty)) .nils]]) ho3 (fun _ => rfl) (wk [some 0, some 1, some 3] (.u (.c rfl (.u (.c rfl (.u2 (.c rfl (.u4 (.u2 (.e renl_Carrier (.c rfl (.c rfl (.u8 (.u4 (.e renl_S (.c rfl (.c rfl (.u16 (.u4 (.u2 .nil))))))))))))))))))) (.b rfl (.e renl_Carrier (.e renl_Decl .nil)) (.old .mT (.b rfl (.c rfl (.c rfl (.c rfl .nil))) .nil))) rfl) ?_
  intro n3 s5 hs3 KL3 hKL3
  unfold typing_names_L2 at hs3
  refine .q fun K19 k19 => rg 0 ?_
  refine k19 _ _ ?_
  refine .q fun K20 k20 => ?_
  refine .condS rfl hs3 (fun hc3 hs3 => ?_) (fun hc3 hs3 => ?_)
  ·refine .skip ?_
   refine k20 _ _ ?_
   refine .q fun K21 k21 => ?_
   refine .block ?_
   refine .q fun K22 k22 => rg 0 ?_
   obtain ⟨x5, hx5, hs3⟩ := ob hs3
   refine idx_of (l := x3.elems) (f := encS) (cs := [.str (x5)]) hx5 (rfl) rfl ?_
   refine k22 _ _ ?_
   refine rg 0 ?_
   obtain ⟨x6, hx6, hs3⟩ := ob hs3
   refine put_of (m := s5.2) (f := aTy) hx6 rfl ?_
   refine k21 _ _ ?_
   refine .know 30 0 fun hv5 => ?_
   refine .know 28 0 fun hv6 => ?_
   refine rg 0 ?_
   refine ⟨(s5.1 + 1), by have := wf64 hv5; have := vfl hv6; have h8 := of_decide_eq_true hc3; exact w64_id (by omega) (by omega), ?_⟩
   exact hKL3 _ _ _ hs3 (li (.u (.s (.u (.s (.u2 (.s (.u4 (.u2 (.s (.s (.s (.u8 (.u4 (.s (.s (.s (.u16 (.u4 (.u2 .n))))))))))))))))))))
  ·refine .exit ?_
   exact hR3 _ (sj hs3).symm _ _ (wk [some 0, some 1] (.u (.c rfl (.u (.c rfl (.u8 (.u (.e renl_Carrier (.c rfl (.c rfl (.u32 (.u4 (.u .nil)))))))))))) (.b rfl (.e renl_Carrier (.e renl_Decl .nil)) (.old .mT .nil)) rfl)
 ·refine .exit ?_
  exact hR1 _ (sj hs1).symm _ _ (li (.u (.s (.u (.s (.u16 (.u16 (.u16 (.u .n)))))))))
theorem typing_truth_ok (n : Nat) (r : Ty) (h : typing_truth n = some r) : ACalls Tryz.prog 199 [] [] (aTy r) [] := by
 unfold typing_truth at h
 refine acalls_start true Tryz.func199 rfl (nt Tryz.ntmps199 rfl) fun Q hQ t ht => ?_
 conv at ht => whnf
 subst ht
 refine .q fun K1 k1 => rg 1 ?_
 refine k1 _ _ ?_
 refine .q fun K2 k2 => rg 0 ?_
 refine k2 _ _ ?_
 refine .ret ?_
 have e9 := sj h
 subst e9
 refine hQ _ _ _ (retPure τ_ok (fun g => by simp) ?_)
 conv => whnf
 try rfl
theorem typing_each_ok (n : Nat) (p0 : Int) (p1 : Ty) (r : Unit) (h : typing_each n p0 p1 = some r) : ACalls Tryz.prog 198 [.i p0, aTy p1] [] (.func 259 [.eptr [.i p1.kind, .str p1.name, sTy p1.kids], .eptr [.i p0]]) [] := by
 unfold typing_each at h
 refine acalls_start false Tryz.func198 rfl (nt Tryz.ntmps198 rfl) fun Q hQ t ht => ?_
 conv at ht => whnf
 subst ht
 refine .q fun K1 k1 => rg 2 ?_
 refine k1 _ _ ?_
 refine .q fun K2 k2 => rg 0 ?_
 refine k2 _ _ ?_
 refine .ret ?_
 have e9 := sj h
 subst e9
 refine hQ _ _ _ (retW (u4 (.func 259 [.eptr [.i p1.kind, .str p1.name, sTy p1.kids], .eptr [.i p0]] :: (.unk :: []))) [] (wk [] (.u4 (.cons (.func' (.cons (.frz0 rfl rfl (.c rfl (.c rfl (.e renl_Ty .nil)))) (.cons (.frz0 rfl rfl (.c rfl .nil)) .nil))) (.u .nil))) .nil rfl) (retObj τ_ok [] rfl .nil ?_))
 conv => whnf
 first | rfl | (simp; done) | (simp; rfl) | (simp; constructor <;> rfl)
theorem typing_integer_ok (n : Nat) (r : Ty) (h : typing_integer n = some r) : ACalls Tryz.prog 200 [] [] (aTy r) [] := by
 unfold typing_integer at h
 refine acalls_start true Tryz.func200 rfl (nt Tryz.ntmps200 rfl) fun Q hQ t ht => ?_
 conv at ht => whnf
 subst ht
 refine .q fun K1 k1 => rg 1 ?_
 refine k1 _ _ ?_
 refine .q fun K2 k2 => rg 0 ?_
 refine k2 _ _ ?_
 refine .ret ?_
 have e9 := sj h
 subst e9
 refine hQ _ _ _ (retPure τ_ok (fun g => by simp) ?_)
 conv => whnf
 try rfl
theorem typing_two_ok (n : Nat) (r : Unit) (h : typing_two n = some r) : ACalls Tryz.prog 203 [.func 204 []] [] (.func 262 [.eptr [.func 204 []]]) [] := by
 unfold typing_two at h
 refine acalls_start false Tryz.func203 rfl (nt Tryz.ntmps203 rfl) fun Q hQ t ht => ?_
 conv at ht => whnf
 subst ht
 refine .q fun K1 k1 => rg 1 ?_
 refine k1 _ _ ?_
 refine .q fun K2 k2 => rg 0 ?_
 refine k2 _ _ ?_
 refine .ret ?_
 have e9 := sj h
 subst e9
 refine hQ _ _ _ (retW (u2 (.func 262 [.eptr [.func 204 []]] :: (.unk :: []))) [] (wk [] (.u2 (.cons (.func' (.cons (.frz0 rfl rfl (.cons (.func' .nil) .nil)) .nil)) (.u .nil))) .nil rfl) (retObj τ_ok [] rfl .nil ?_))
 conv => whnf
 first | rfl | (simp; done) | (simp; rfl) | (simp; constructor <;> rfl)
theorem typing_onRelation_ok (n : Nat) (r : Unit) (h : typing_onRelation n = some r) : ACalls Tryz.prog 208 [.func 209 []] [] (.func 263 [.eptr [.func 209 []]]) [] := by
 unfold typing_onRelation at h
 refine acalls_start false Tryz.func208 rfl (nt Tryz.ntmps208 rfl) fun Q hQ t ht => ?_
 conv at ht => whnf
 subst ht
 refine .q fun K1 k1 => rg 1 ?_
 refine k1 _ _ ?_
 refine .q fun K2 k2 => rg 0 ?_
 refine k2 _ _ ?_
 refine .ret ?_
 have e9 := sj h
 subst e9
 refine hQ _ _ _ (retW (u2 (.func 263 [.eptr [.func 209 []]] :: (.unk :: []))) [] (wk [] (.u2 (.cons (.func' (.cons (.frz0 rfl rfl (.cons (.func' .nil) .nil)) .nil)) (.u .nil))) .nil rfl) (retObj τ_ok [] rfl .nil ?_))
 conv => whnf
 first | rfl | (simp; done) | (simp; rfl) | (simp; constructor <;> rfl)
theorem typing_onSet_ok (n : Nat) (r : Unit) (h : typing_onSet n = some r) : ACalls Tryz.prog 210 [.func 211 []] [] (.func 264 [.eptr [.func 211 []]]) [] := by
 unfold typing_onSet at h
 refine acalls_start false Tryz.func210 rfl (nt Tryz.ntmps210 rfl) fun Q hQ t ht => ?_
 conv at ht => whnf
 subst ht
 refine .q fun K1 k1 => rg 1 ?_
 refine k1 _ _ ?_
 refine .q fun K2 k2 => rg 0 ?_
 refine k2 _ _ ?_
 refine .ret ?_
 have e9 := sj h
 subst e9
 refine hQ _ _ _ (retW (u2 (.func 264 [.eptr [.func 211 []]] :: (.unk :: []))) [] (wk [] (.u2 (.cons (.func' (.cons (.frz0 rfl rfl (.cons (.func' .nil) .nil)) .nil)) (.u .nil))) .nil rfl) (retObj τ_ok [] rfl .nil ?_))
 conv => whnf
 first | rfl | (simp; done) | (simp; rfl) | (simp; constructor <;> rfl)
theorem typing_constant_ok (n : Nat) (p0 : Ty) (r : Unit) (h : typing_constant n p0 = some r) : ACalls Tryz.prog 212 [aTy p0] [] (.func 265 [.eptr [.i p0.kind, .str p0.name, sTy p0.kids]]) [] := by
 unfold typing_constant at h
 refine acalls_start false Tryz.func212 rfl (nt Tryz.ntmps212 rfl) fun Q hQ t ht => ?_
 conv at ht => whnf
 subst ht
 refine .q fun K1 k1 => rg 1 ?_
 refine k1 _ _ ?_
 refine .q fun K2 k2 => rg 0 ?_
 refine k2 _ _ ?_
 refine .ret ?_
 have e9 := sj h
 subst e9
 refine hQ _ _ _ (retW (u2 (.func 265 [.eptr [.i p0.kind, .str p0.name, sTy p0.kids]] :: (.unk :: []))) [] (wk [] (.u2 (.cons (.func' (.cons (.frz0 rfl rfl (.c rfl (.c rfl (.e renl_Ty .nil)))) .nil)) (.u .nil))) .nil rfl) (retObj τ_ok [] rfl .nil ?_))
 conv => whnf
 first | rfl | (simp; done) | (simp; rfl) | (simp; constructor <;> rfl)
theorem typing_body_ok (n : Nat) (r : Unit) (h : typing_body n = some r) : ACalls Tryz.prog 213 [.func 214 []] [] (.func 266 [.eptr [.func 214 []]]) [] := by
 unfold typing_body at h
 refine acalls_start false Tryz.func213 rfl (nt Tryz.ntmps213 rfl) fun Q hQ t ht => ?_
 conv at ht => whnf
 subst ht
 refine .q fun K1 k1 => rg 1 ?_
 refine k1 _ _ ?_
 refine .q fun K2 k2 => rg 0 ?_
 refine k2 _ _ ?_
 refine .ret ?_
 have e9 := sj h
 subst e9
 refine hQ _ _ _ (retW (u2 (.func 266 [.eptr [.func 214 []]] :: (.unk :: []))) [] (wk [] (.u2 (.cons (.func' (.cons (.frz0 rfl rfl (.cons (.func' .nil) .nil)) .nil)) (.u .nil))) .nil rfl) (retObj τ_ok [] rfl .nil ?_))
 conv => whnf
 first | rfl | (simp; done) | (simp; rfl) | (simp; constructor <;> rfl)
theorem typing_body_1_ok (n : Nat) (r : Unit) (h : typing_body_1 n = some r) : ACalls Tryz.prog 213 [.func 215 []] [] (.func 266 [.eptr [.func 215 []]]) [] := by
 unfold typing_body_1 at h
 refine acalls_start false Tryz.func213 rfl (nt Tryz.ntmps213 rfl) fun Q hQ t ht => ?_
 conv at ht => whnf
 subst ht
 refine .q fun K1 k1 => rg 1 ?_
 refine k1 _ _ ?_
 refine .q fun K2 k2 => rg 0 ?_
 refine k2 _ _ ?_
 refine .ret ?_
 have e9 := sj h
 subst e9
 refine hQ _ _ _ (retW (u2 (.func 266 [.eptr [.func 215 []]] :: (.unk :: []))) [] (wk [] (.u2 (.cons (.func' (.cons (.frz0 rfl rfl (.cons (.func' .nil) .nil)) .nil)) (.u .nil))) .nil rfl) (retObj τ_ok [] rfl .nil ?_))
 conv => whnf
 first | rfl | (simp; done) | (simp; rfl) | (simp; constructor <;> rfl)
theorem typing_sets_ok (n : Nat) (r : Unit) (h : typing_sets n = some r) : ACalls Tryz.prog 217 [.func 214 []] [] (.func 267 [.eptr [.func 214 []]]) [] := by
 unfold typing_sets at h
 refine acalls_start false Tryz.func217 rfl (nt Tryz.ntmps217 rfl) fun Q hQ t ht => ?_
 conv at ht => whnf
 subst ht
 refine .q fun K1 k1 => rg 1 ?_
 refine k1 _ _ ?_
 refine .q fun K2 k2 => rg 0 ?_
 refine k2 _ _ ?_
 refine .ret ?_
 have e9 := sj h
 subst e9
 refine hQ _ _ _ (retW (u2 (.func 267 [.eptr [.func 214 []]] :: (.unk :: []))) [] (wk [] (.u2 (.cons (.func' (.cons (.frz0 rfl rfl (.cons (.func' .nil) .nil)) .nil)) (.u .nil))) .nil rfl) (retObj τ_ok [] rfl .nil ?_))
 conv => whnf
 first | rfl | (simp; done) | (simp; rfl) | (simp; constructor <;> rfl)
theorem typing_sets_1_ok (n : Nat) (r : Unit) (h : typing_sets_1 n = some r) : ACalls Tryz.prog 217 [.func 215 []] [] (.func 267 [.eptr [.func 215 []]]) [] := by
 unfold typing_sets_1 at h
 refine acalls_start false Tryz.func217 rfl (nt Tryz.ntmps217 rfl) fun Q hQ t ht => ?_
 conv at ht => whnf
 subst ht
 refine .q fun K1 k1 => rg 1 ?_
 refine k1 _ _ ?_
 refine .q fun K2 k2 => rg 0 ?_
 refine k2 _ _ ?_
 refine .ret ?_
 have e9 := sj h
 subst e9
 refine hQ _ _ _ (retW (u2 (.func 267 [.eptr [.func 215 []]] :: (.unk :: []))) [] (wk [] (.u2 (.cons (.func' (.cons (.frz0 rfl rfl (.cons (.func' .nil) .nil)) .nil)) (.u .nil))) .nil rfl) (retObj τ_ok [] rfl .nil ?_))
 conv => whnf
 first | rfl | (simp; done) | (simp; rfl) | (simp; constructor <;> rfl)
theorem typing_two_1_ok (n : Nat) (r : Unit) (h : typing_two_1 n = some r) : ACalls Tryz.prog 203 [.func 205 []] [] (.func 262 [.eptr [.func 205 []]]) [] := by
 unfold typing_two_1 at h
 refine acalls_start false Tryz.func203 rfl (nt Tryz.ntmps203 rfl) fun Q hQ t ht => ?_
 conv at ht => whnf
 subst ht
 refine .q fun K1 k1 => rg 1 ?_
 refine k1 _ _ ?_
 refine .q fun K2 k2 => rg 0 ?_
 refine k2 _ _ ?_
 refine .ret ?_
 have e9 := sj h
 subst e9
 refine hQ _ _ _ (retW (u2 (.func 262 [.eptr [.func 205 []]] :: (.unk :: []))) [] (wk [] (.u2 (.cons (.func' (.cons (.frz0 rfl rfl (.cons (.func' .nil) .nil)) .nil)) (.u .nil))) .nil rfl) (retObj τ_ok [] rfl .nil ?_))
 conv => whnf
 first | rfl | (simp; done) | (simp; rfl) | (simp; constructor <;> rfl)
theorem typing_onRelation_1_ok (n : Nat) (r : Unit) (h : typing_onRelation_1 n = some r) : ACalls Tryz.prog 208 [.func 221 []] [] (.func 263 [.eptr [.func 221 []]]) [] := by
 unfold typing_onRelation_1 at h
 refine acalls_start false Tryz.func208 rfl (nt Tryz.ntmps208 rfl) fun Q hQ t ht => ?_
 conv at ht => whnf
 subst ht
 refine .q fun K1 k1 => rg 1 ?_
 refine k1 _ _ ?_
 refine .q fun K2 k2 => rg 0 ?_
 refine k2 _ _ ?_
 refine .ret ?_
 have e9 := sj h
 subst e9
 refine hQ _ _ _ (retW (u2 (.func 263 [.eptr [.func 221 []]] :: (.unk :: []))) [] (wk [] (.u2 (.cons (.func' (.cons (.frz0 rfl rfl (.cons (.func' .nil) .nil)) .nil)) (.u .nil))) .nil rfl) (retObj τ_ok [] rfl .nil ?_))
 conv => whnf
 first | rfl | (simp; done) | (simp; rfl) | (simp; constructor <;> rfl)
theorem typing_onRelation_2_ok (n : Nat) (r : Unit) (h : typing_onRelation_2 n = some r) : ACalls Tryz.prog 208 [.func 222 []] [] (.func 263 [.eptr [.func 222 []]]) [] := by
 unfold typing_onRelation_2 at h
 refine acalls_start false Tryz.func208 rfl (nt Tryz.ntmps208 rfl) fun Q hQ t ht => ?_
 conv at ht => whnf
 subst ht
 refine .q fun K1 k1 => rg 1 ?_
 refine k1 _ _ ?_
 refine .q fun K2 k2 => rg 0 ?_
 refine k2 _ _ ?_
 refine .ret ?_
 have e9 := sj h
 subst e9
 refine hQ _ _ _ (retW (u2 (.func 263 [.eptr [.func 222 []]] :: (.unk :: []))) [] (wk [] (.u2 (.cons (.func' (.cons (.frz0 rfl rfl (.cons (.func' .nil) .nil)) .nil)) (.u .nil))) .nil rfl) (retObj τ_ok [] rfl .nil ?_))
 conv => whnf
 first | rfl | (simp; done) | (simp; rfl) | (simp; constructor <;> rfl)
theorem typing_onSet_1_ok (n : Nat) (r : Unit) (h : typing_onSet_1 n = some r) : ACalls Tryz.prog 210 [.func 223 []] [] (.func 264 [.eptr [.func 223 []]]) [] := by
 unfold typing_onSet_1 at h
 refine acalls_start false Tryz.func210 rfl (nt Tryz.ntmps210 rfl) fun Q hQ t ht => ?_
 conv at ht => whnf
 subst ht
 refine .q fun K1 k1 => rg 1 ?_
 refine k1 _ _ ?_
 refine .q fun K2 k2 => rg 0 ?_
 refine k2 _ _ ?_
 refine .ret ?_
 have e9 := sj h
 subst e9
 refine hQ _ _ _ (retW (u2 (.func 264 [.eptr [.func 223 []]] :: (.unk :: []))) [] (wk [] (.u2 (.cons (.func' (.cons (.frz0 rfl rfl (.cons (.func' .nil) .nil)) .nil)) (.u .nil))) .nil rfl) (retObj τ_ok [] rfl .nil ?_))
 conv => whnf
 first | rfl | (simp; done) | (simp; rfl) | (simp; constructor <;> rfl)
theorem typing_onSet_2_ok (n : Nat) (r : Unit) (h : typing_onSet_2 n = some r) : ACalls Tryz.prog 210 [.func 224 []] [] (.func 264 [.eptr [.func 224 []]]) [] := by
 unfold typing_onSet_2 at h
 refine acalls_start false Tryz.func210 rfl (nt Tryz.ntmps210 rfl) fun Q hQ t ht => ?_
 conv at ht => whnf
 subst ht
 refine .q fun K1 k1 => rg 1 ?_
 refine k1 _ _ ?_
 refine .q fun K2 k2 => rg 0 ?_
 refine k2 _ _ ?_
 refine .ret ?_
 have e9 := sj h
 subst e9
 refine hQ _ _ _ (retW (u2 (.func 264 [.eptr [.func 224 []]] :: (.unk :: []))) [] (wk [] (.u2 (.cons (.func' (.cons (.frz0 rfl rfl (.cons (.func' .nil) .nil)) .nil)) (.u .nil))) .nil rfl) (retObj τ_ok [] rfl .nil ?_))
 conv => whnf
 first | rfl | (simp; done) | (simp; rfl) | (simp; constructor <;> rfl)
theorem typing_onRelation_3_ok (n : Nat) (r : Unit) (h : typing_onRelation_3 n = some r) : ACalls Tryz.prog 208 [.func 225 []] [] (.func 263 [.eptr [.func 225 []]]) [] := by
 unfold typing_onRelation_3 at h
 refine acalls_start false Tryz.func208 rfl (nt Tryz.ntmps208 rfl) fun Q hQ t ht => ?_
 conv at ht => whnf
 subst ht
 refine .q fun K1 k1 => rg 1 ?_
 refine k1 _ _ ?_
 refine .q fun K2 k2 => rg 0 ?_
 refine k2 _ _ ?_
 refine .ret ?_
 have e9 := sj h
 subst e9
 refine hQ _ _ _ (retW (u2 (.func 263 [.eptr [.func 225 []]] :: (.unk :: []))) [] (wk [] (.u2 (.cons (.func' (.cons (.frz0 rfl rfl (.cons (.func' .nil) .nil)) .nil)) (.u .nil))) .nil rfl) (retObj τ_ok [] rfl .nil ?_))
 conv => whnf
 first | rfl | (simp; done) | (simp; rfl) | (simp; constructor <;> rfl)
theorem typing_onRelation_4_ok (n : Nat) (r : Unit) (h : typing_onRelation_4 n = some r) : ACalls Tryz.prog 208 [.func 226 []] [] (.func 263 [.eptr [.func 226 []]]) [] := by
 unfold typing_onRelation_4 at h
 refine acalls_start false Tryz.func208 rfl (nt Tryz.ntmps208 rfl) fun Q hQ t ht => ?_
 conv at ht => whnf
 subst ht
 refine .q fun K1 k1 => rg 1 ?_
 refine k1 _ _ ?_
 refine .q fun K2 k2 => rg 0 ?_
 refine k2 _ _ ?_
 refine .ret ?_
 have e9 := sj h
 subst e9
 refine hQ _ _ _ (retW (u2 (.func 263 [.eptr [.func 226 []]] :: (.unk :: []))) [] (wk [] (.u2 (.cons (.func' (.cons (.frz0 rfl rfl (.cons (.func' .nil) .nil)) .nil)) (.u .nil))) .nil rfl) (retObj τ_ok [] rfl .nil ?_))
 conv => whnf
 first | rfl | (simp; done) | (simp; rfl) | (simp; constructor <;> rfl)
end Abs
end Go.Proofs.YtiiaccpcoclklaaGreat
