/-
  Plain functions and the contracts of Go functions by them (printed by gen.py). Conditions: none. Plain functions and the contracts of Go functions by them (printed by gen.py). Conditions: none. Calls whose contracts stand already, kept in a list, for the run by 'xcall'. Conditions: none; over any program. What the run of 'awake' takes for granted: slices.Sorted's contract; that the functions have bodies. Conditions: none. The run of Parse that 'awake' asks for. Conditions: none. The run of TypeOf that 'awake' asks for. Conditions: none. The contract of 'awake': it returns true. Conditions: none.
-/
import Derived.Test.YtiiaccpcoclklaaGreatBTypingUnionsProof5
import Derived.Test.YtiiaccpcoclklaaGreatBTypingUnionsProof7
import Derived.Test.YtiiaccpcoclklaaGreatBTypingUnionsProof6
import Derived.Test.YtiiaccpcoclklaaGreatBTypingUnionsProof8
import Derived.Test.YtiiaccpcoclklaaGreatBTypingUnionsProof9
import Derived.Test.YtiiaccpcoclklaaGreatBTypingUnionsProof10
import Derived.KernelRfl
set_option linter.unusedSimpArgs false
set_option linter.unusedVariables false
namespace Go.Proofs.YtiiaccpcoclklaaGreat
namespace Abs
open Go Go.Proofs
def typing_copyEnv_L1 (n : Nat) (p0 : Env) : Nat → (Int × (List Carrier)) → Option (LR (List Carrier) ((List Carrier) × (List Decl)))
  | 0, _ => none
  | k + 1, s1 => (cond (decide (s1.1 < (p0.carriers.length : Int))) ((idx p0.carriers s1.1).bind fun (x4 : Carrier) => ((slices_Clone_string n x4.elems).bind fun (x5 : List Str) => ((app 40 s1.2 ([(Carrier.mk x4.name x5)])).bind fun (x6 : List Carrier) => typing_copyEnv_L1 n p0 k ((s1.1 + 1), x6)))) (some (.nx s1.2)))
def typing_copyEnv_L0 (n : Nat) (p0 : Env) : Nat → (Int × (List Decl)) → Option (LR (List Decl) ((List Carrier) × (List Decl)))
  | 0, _ => none
  | k + 1, s3 => (cond (decide (s3.1 < (p0.names.length : Int))) ((idx p0.names s3.1).bind fun (x1 : Decl) => ((typing_copyType n x1.ty).bind fun (x2 : Ty) => ((app 64 s3.2 ([(Decl.mk x1.name x2)])).bind fun (x3 : List Decl) => typing_copyEnv_L0 n p0 k ((s3.1 + 1), x3)))) (some (.nx s3.2)))
def typing_copyEnv (n : Nat) (p0 : Env) : Option ((List Carrier) × (List Decl)) := ((typing_copyEnv_L1 n p0 n (0, ([] : List Carrier))).bind (LR.el (fun (s2 : List Carrier) => ((typing_copyEnv_L0 n p0 n (0, ([] : List Decl))).bind (LR.el (fun (s4 : List Decl) => some (s2, s4)) (fun r => some r)))) (fun r => some r)))
set_option maxRecDepth 100000 in
set_option maxHeartbeats 40000000 in
theorem typing_copyEnv_ok (n : Nat) (p0 : Env) (r : (List Carrier) × (List Decl)) (h : typing_copyEnv n p0 = some r) : ACalls Tryz.prog 115 [.agg [.slice (List.map encCarrier p0.carriers) .shared, .slice (List.map encDecl p0.names) .shared]] [] (.agg [.slice (List.map encCarrier r.1) (.tip 0 2), .slice (List.map encDecl r.2) (.tip 1 4)]) [.tip (List.length r.1 * 2), .tip (List.length r.2 * 4)] := by
  unfold typing_copyEnv at h
  refine acalls_start false Tryz.func115 rfl (by rw [Tryz.ntmps115]; exact Nat.le_of_ble_eq_true rfl) fun Q hQ t ht => ?_
  conv at ht => whnf
  subst ht
  refine AW.seqK fun K1 hK1 => ?_
  refine AW.region τ_ok mixedO 2 ?_
  conv => whnf
  refine hK1 _ _ ?_
  refine AW.seqK fun K2 hK2 => ?_
  refine AW.region τ_ok mixedO 1 ?_
  conv => whnf
  refine hK2 _ _ ?_
  refine AW.seqK fun K3 hK3 => ?_
  refine AW.seqK fun K4 hK4 => ?_
  refine AW.region τ_ok mixedO 0 ?_
  conv => whnf
  refine len_of (l := p0.carriers) (f := encCarrier) ?_
  conv => whnf
  refine hK4 _ _ ?_
  refine AW.block ?_
  obtain ⟨o1, ho1, h⟩ := ob h
  have hR1 : ∀ s2 : List Carrier, o1 = .nx s2 → ∀ t9 h9, Le 0 t9 h9 (.unk :: (.ptr 0 0 :: (.ptr 1 0 :: (.ptr 2 0 :: (u32 (u8 (u2 (.unk :: [])))))))) [.box [.slice (List.map encCarrier p0.carriers) .shared, .slice (List.map encDecl p0.names) .shared], .box [.slice (List.map encCarrier ([] : List Carrier)) .nils, .slice (List.map encDecl ([] : List Decl)) .nils], .box [.slice (List.map encCarrier s2) (.tip 3 2), .slice (List.map encDecl ([] : List Decl)) .nils], .tip (List.length s2 * 2)] → K3 t9 h9 := by
    intro s2 ho
    subst ho
    dsimp only [LR.el] at h
    intro t9 h9 hw
    refine hK3 _ _ (AW.le hw ?_)
    refine AW.seqK fun K5 hK5 => ?_
    refine AW.seqK fun K6 hK6 => ?_
    refine AW.region τ_ok mixedO 0 ?_
    conv => whnf
    refine len_of (l := p0.names) (f := encDecl) ?_
    conv => whnf
    refine hK6 _ _ ?_
    refine AW.block ?_
    obtain ⟨o2, ho2, h⟩ := ob h
    have hR2 : ∀ s4 : List Decl, o2 = .nx s4 → ∀ t9 h9, Le 0 t9 h9 (u2 (.ptr 0 0 :: (.ptr 1 0 :: (u32 (u8 (u2 (.unk :: []))))))) [.box [.slice (List.map encCarrier ([] : List Carrier)) .nils, .slice (List.map encDecl ([] : List Decl)) .nils], .box [.slice (List.map encCarrier s2) (.tip 2 2), .slice (List.map encDecl s4) (.tip 3 4)], .tip (List.length s2 * 2), .tip (List.length s4 * 4)] → K5 t9 h9 := by
      intro s4 ho
      subst ho
      dsimp only [LR.el] at h
      intro t9 h9 hw
      refine hK5 _ _ (AW.le hw ?_)
      refine AW.seqK fun K7 hK7 => ?_
      refine AW.region τ_ok mixedO 0 ?_
      conv => whnf
      refine hK7 _ _ ?_
      refine AW.ret ?_
      conv => whnf
      have e9 := Option.some.inj h
      subst e9
      refine hQ _ _ _ (retW (u2 (.ptr 0 0 :: (u32 (u8 (u4 []))))) [.box [.slice (List.map encCarrier s2) (.tip 1 2), .slice (List.map encDecl s4) (.tip 2 4)], .tip (List.length s2 * 2), .tip (List.length s4 * 4)] (Le.of [some 0, some 2, some 3] (Weak.mk' rfl (.u2 (.cons (.same rfl) (.u32 (.u8 (.u4 .nil))))) (.old (.box' (.cons (.tipS (renl_Carrier _ _) rfl) (.cons (.tipS (renl_Decl _ _) rfl) .nil))) (.old (.tip _) (.old (.tip _) .nil))))) (retObj τ_ok [1, 2] rfl (.cons (rfl) (.cons (rfl) .nil)) ?_))
      conv => whnf
      first | rfl | (simp only [ren, renL, renLL, renT, renL_app, renl_I, renl_S, renl_U8, renl_Ty, renl_Tm, renl_Carrier, renl_Decl]; done) | (simp only [ren, renL, renLL, renT, renL_app, renl_I, renl_S, renl_U8, renl_Ty, renl_Tm, renl_Carrier, renl_Decl]; rfl)
    refine AW.loopS (typing_copyEnv_L0 n p0) (fun (s3 : Int × (List Decl)) => (u2 (.ptr 0 0 :: (.ptr 1 0 :: (u16 (u8 (.slice (List.map encDecl p0.names) .shared :: (.int .i64 (p0.names.length : Int) :: (.int .i64 s3.1 :: (u16 [])))))))))) (fun (s3 : Int × (List Decl)) => [.box [.slice (List.map encCarrier ([] : List Carrier)) .nils, .slice (List.map encDecl ([] : List Decl)) .nils], .box [.slice (List.map encCarrier s2) (.tip 2 2), .slice (List.map encDecl s3.2) (.tip 3 4)], .tip (List.length s2 * 2), .tip (List.length s3.2 * 4)]) ho2 (fun _ => rfl) (Le.of [some 1, some 2, some 3, none] (Weak.mk' rfl (.u2 (.cons (.same rfl) (.cons (.same rfl) (.u16 (.u8 (.cons (.share (renl_Decl _ _)) (.cons (.same rfl) (.cons (.same rfl) (.u16 .nil))))))))) (.old (.box' (.cons (.same rfl) (.cons (.same rfl) .nil))) (.old (.box' (.cons (.tipS (renl_Carrier _ _) rfl) (.cons (.nils _ _) .nil))) (.old (.tip _) (.new rfl .nil)))))) ?_
    intro n2 s3 hs2 KL2 hKL2
    unfold typing_copyEnv_L0 at hs2
    refine AW.seqK fun K8 hK8 => ?_
    refine AW.region τ_ok mixedO 0 ?_
    conv => whnf
    refine hK8 _ _ ?_
    refine AW.seqK fun K9 hK9 => ?_
    refine AW.condS rfl hs2 (fun hc1 hs2 => ?_) (fun hc1 hs2 => ?_)
    · refine AW.skip ?_
      conv => whnf
      refine hK9 _ _ ?_
      refine AW.seqK fun K10 hK10 => ?_
      refine AW.block ?_
      refine AW.seqK fun K11 hK11 => ?_
      refine AW.region τ_ok mixedO 1 ?_
      conv => whnf
      obtain ⟨x1, hx1, hs2⟩ := ob hs2
      refine idx_of (l := p0.names) (f := encDecl) (cs := [.str ((x1).name), .int .i64 (((x1).ty).kind), .str (((x1).ty).name), .slice (List.map encTy (((x1).ty).kids)) .shared]) hx1 (rfl) rfl ?_
      conv => whnf
      refine hK11 _ _ ?_
      refine AW.region τ_ok mixedO 2 ?_
      conv => whnf
      obtain ⟨x2, hx2, hs2⟩ := ob hs2
      refine call_pur (typing_copyType_ok _ _ _ hx2) okF_70 (.cons (.same _) .nil) (fun g => by simp only [ren, renL, renLL, renT, renL_app, renl_I, renl_S, renl_U8, renl_Ty, renl_Tm, renl_Carrier, renl_Decl]) (fun g => by simp only [ren, renL, renLL, renT, renL_app, renl_I, renl_S, renl_U8, renl_Ty, renl_Tm, renl_Carrier, renl_Decl]) ?_
      conv => whnf
      refine ⟨List.map encDecl ([(Decl.mk x1.name x2)]), rfl, ?_⟩
      conv => whnf
      obtain ⟨x3, hx3, hs2⟩ := ob hs2
      refine app_tip (l := s3.2) (ys := [(Decl.mk x1.name x2)]) (f := encDecl) hx3 ok_Decl rfl rfl rfl ?_
      conv => whnf
      refine ⟨rfl, ?_⟩
      conv => whnf
      refine hK10 _ _ ?_
      refine AW.know 30 0 fun hv1 => ?_
      refine AW.know 28 0 fun hv2 => ?_
      refine AW.region τ_ok mixedO 0 ?_
      conv => whnf
      refine ⟨(s3.1 + 1), by have := wf64 hv1; have := vfl hv2; have h8 := of_decide_eq_true hc1; exact w64_id (by omega) (by omega), ?_⟩
      conv => whnf
      exact hKL2 _ _ _ hs2 (Le.of [some 0, some 1, some 2, some 6] (Weak.mk' rfl (.u2 (.cons (.same rfl) (.cons (.same rfl) (.u16 (.u8 (.cons (.share (renl_Decl _ _)) (.cons (.same rfl) (.cons (.same rfl) (.u16 .nil))))))))) (.old (.box' (.cons (.same rfl) (.cons (.same rfl) .nil))) (.old (.box' (.cons (.tipS (renl_Carrier _ _) rfl) (.cons (.tipS (renl_Decl _ _) rfl) .nil))) (.old (.tip _) (.old (.tip _) .nil))))))
    · refine AW.exit ?_
      conv => whnf
      exact hR2 _ (Option.some.inj hs2).symm _ _ (Le.of [some 0, some 1, some 2, some 3] (Weak.mk' rfl (.u2 (.cons (.same rfl) (.cons (.same rfl) (.u32 (.u8 (.u2 (.cons (.unk _) .nil))))))) (.old (.box' (.cons (.same rfl) (.cons (.same rfl) .nil))) (.old (.box' (.cons (.tipS (renl_Carrier _ _) rfl) (.cons (.tipS (renl_Decl _ _) rfl) .nil))) (.old (.tip _) (.old (.tip _) .nil))))))
  refine AW.loopS (typing_copyEnv_L1 n p0) (fun (s1 : Int × (List Carrier)) => (.unk :: (.ptr 0 0 :: (.ptr 1 0 :: (.ptr 2 0 :: (u4 (.unk :: (.slice (List.map encCarrier p0.carriers) .shared :: (.int .i64 (p0.carriers.length : Int) :: (.int .i64 s1.1 :: (u32 (u2 (.unk :: []))))))))))))) (fun (s1 : Int × (List Carrier)) => [.box [.slice (List.map encCarrier p0.carriers) .shared, .slice (List.map encDecl p0.names) .shared], .box [.slice (List.map encCarrier ([] : List Carrier)) .nils, .slice (List.map encDecl ([] : List Decl)) .nils], .box [.slice (List.map encCarrier s1.2) (.tip 3 2), .slice (List.map encDecl ([] : List Decl)) .nils], .tip (List.length s1.2 * 2)]) ho1 (fun _ => rfl) (Le.of [some 0, some 1, some 2, none] (Weak.mk' rfl (.cons (.unk _) (.cons (.same rfl) (.cons (.same rfl) (.cons (.same rfl) (.u4 (.cons (.unk _) (.cons (.share (renl_Carrier _ _)) (.cons (.same rfl) (.cons (.same rfl) (.u32 (.u2 (.cons (.unk _) .nil)))))))))))) (.old (.box' (.cons (.share (renl_Carrier _ _)) (.cons (.share (renl_Decl _ _)) .nil))) (.old (.box' (.cons (.same rfl) (.cons (.same rfl) .nil))) (.old (.box' (.cons (.nils _ _) (.cons (.same rfl) .nil))) (.new rfl .nil)))))) ?_
  intro n1 s1 hs1 KL1 hKL1
  unfold typing_copyEnv_L1 at hs1
  refine AW.seqK fun K12 hK12 => ?_
  refine AW.region τ_ok mixedO 0 ?_
  conv => whnf
  refine hK12 _ _ ?_
  refine AW.seqK fun K13 hK13 => ?_
  refine AW.condS rfl hs1 (fun hc2 hs1 => ?_) (fun hc2 hs1 => ?_)
  · refine AW.skip ?_
    conv => whnf
    refine hK13 _ _ ?_
    refine AW.seqK fun K14 hK14 => ?_
    refine AW.block ?_
    refine AW.seqK fun K15 hK15 => ?_
    refine AW.region τ_ok mixedO 1 ?_
    conv => whnf
    obtain ⟨x4, hx4, hs1⟩ := ob hs1
    refine idx_of (l := p0.carriers) (f := encCarrier) (cs := [.str ((x4).name), .slice (List.map encS ((x4).elems)) .shared]) hx4 (rfl) rfl ?_
    conv => whnf
    refine hK15 _ _ ?_
    refine AW.region τ_ok mixedO 2 ?_
    conv => whnf
    obtain ⟨x5, hx5, hs1⟩ := ob hs1
    refine call_pur (slices_Clone_string_ok _ _ _ hx5) okF_189 (.cons (.same _) .nil) (fun g => by simp only [ren, renL, renLL, renT, renL_app, renl_I, renl_S, renl_U8, renl_Ty, renl_Tm, renl_Carrier, renl_Decl]) (fun g => by simp only [ren, renL, renLL, renT, renL_app, renl_I, renl_S, renl_U8, renl_Ty, renl_Tm, renl_Carrier, renl_Decl]) ?_
    conv => whnf
    refine ⟨List.map encCarrier ([(Carrier.mk x4.name x5)]), rfl, ?_⟩
    conv => whnf
    obtain ⟨x6, hx6, hs1⟩ := ob hs1
    refine app_tip (l := s1.2) (ys := [(Carrier.mk x4.name x5)]) (f := encCarrier) hx6 ok_Carrier rfl rfl rfl ?_
    conv => whnf
    refine ⟨rfl, ?_⟩
    conv => whnf
    refine hK14 _ _ ?_
    refine AW.know 11 0 fun hv3 => ?_
    refine AW.know 9 0 fun hv4 => ?_
    refine AW.region τ_ok mixedO 0 ?_
    conv => whnf
    refine ⟨(s1.1 + 1), by have := wf64 hv3; have := vfl hv4; have h8 := of_decide_eq_true hc2; exact w64_id (by omega) (by omega), ?_⟩
    conv => whnf
    exact hKL1 _ _ _ hs1 (Le.of [some 0, some 1, some 2, some 6] (Weak.mk' rfl (.cons (.unk _) (.cons (.same rfl) (.cons (.same rfl) (.cons (.same rfl) (.u4 (.cons (.unk _) (.cons (.share (renl_Carrier _ _)) (.cons (.same rfl) (.cons (.same rfl) (.u32 (.u2 (.cons (.unk _) .nil)))))))))))) (.old (.box' (.cons (.share (renl_Carrier _ _)) (.cons (.share (renl_Decl _ _)) .nil))) (.old (.box' (.cons (.same rfl) (.cons (.same rfl) .nil))) (.old (.box' (.cons (.tipS (renl_Carrier _ _) rfl) (.cons (.same rfl) .nil))) (.old (.tip _) .nil))))))
  · refine AW.exit ?_
    conv => whnf
    exact hR1 _ (Option.some.inj hs1).symm _ _ (Le.of [some 0, some 1, some 2, some 3] (Weak.mk' rfl (.cons (.unk _) (.cons (.same rfl) (.cons (.same rfl) (.cons (.same rfl) (.u32 (.u8 (.u2 (.cons (.unk _) .nil)))))))) (.old (.box' (.cons (.share (renl_Carrier _ _)) (.cons (.share (renl_Decl _ _)) .nil))) (.old (.box' (.cons (.same rfl) (.cons (.same rfl) .nil))) (.old (.box' (.cons (.tipS (renl_Carrier _ _) rfl) (.cons (.same rfl) .nil))) (.old (.tip _) .nil))))))
def typing_With (n : Nat) (p0 : Env) (p1 : Str) (p2 : Ty) : Option (Env × Int) := ((((typing_ValidEnv n p0).bind fun (x7 : Bool) => (cond (!x7) (some true) ((typing_nameable n p1).bind fun (x8 : Bool) => (cond (!x8) (some true) ((typing_declarable n p2).bind fun (x9 : Bool) => some (!x9)))))) : Option Bool).bind fun (s1 : Bool) => (cond s1 (some ((Env.mk ([]) ([])), 1)) ((typing_declared n p0).bind fun (x1 : List Str) => ((slices_Contains_string n x1 p1).bind fun (x2 : Bool) => (cond x2 (some ((Env.mk ([]) ([])), 8)) ((typing_mentions n p0 p2).bind fun (x3 : Bool) => (cond (!x3) (some ((Env.mk ([]) ([])), 6)) (cond (decide (64 ≤ (p0.names.length : Int))) (some ((Env.mk ([]) ([])), 5)) ((typing_copyEnv n p0).bind fun (x4 : (List Carrier) × (List Decl)) => ((typing_copyType n p2).bind fun (x5 : Ty) => ((app 64 x4.2 ([(Decl.mk p1 x5)])).bind fun (x6 : List Decl) => some ((Env.mk x4.1 x6), 0))))))))))))
set_option maxRecDepth 100000 in
set_option maxHeartbeats 40000000 in
theorem typing_With_ok (n : Nat) (p0 : Env) (p1 : Str) (p2 : Ty) (r : Env × Int) (h : typing_With n p0 p1 p2 = some r) : ACalls Tryz.prog 53 [.agg [.slice (List.map encCarrier p0.carriers) .shared, .slice (List.map encDecl p0.names) .shared], .str p1, .agg [.int .i64 p2.kind, .str p2.name, .slice (List.map encTy p2.kids) .shared]] [] (.tup [.agg [.slice (List.map encCarrier r.1.carriers) .shared, .slice (List.map encDecl r.1.names) .shared], .int .i64 r.2]) [] := by
  unfold typing_With at h
  refine acalls_start true Tryz.func53 rfl (by rw [Tryz.ntmps53]; exact Nat.le_of_ble_eq_true rfl) fun Q hQ t ht => ?_
  conv at ht => whnf
  subst ht
  refine AW.seqK fun K1 hK1 => ?_
  refine AW.region τ_ok mixedO 3 ?_
  conv => whnf
  refine hK1 _ _ ?_
  refine AW.seqK fun K2 hK2 => ?_
  refine AW.block ?_
  refine AW.seqK fun K3 hK3 => ?_
  obtain ⟨s1, hj1, h⟩ := ob h
  have hR1 : ∀ t9 h9, Le 0 t9 h9 (.unk :: (.str p1 :: (.unk :: (.ptr 0 0 :: (.unk :: (.ptr 1 0 :: (.ptr 2 0 :: (u2 (.bool s1 :: (u32 (u8 (u4 [])))))))))))) [.box [.slice (List.map encCarrier p0.carriers) .shared, .slice (List.map encDecl p0.names) .shared], .box [.int .i64 p2.kind, .str p2.name, .slice (List.map encTy p2.kids) .shared], .box [.slice (List.map encCarrier ([] : List Carrier)) .nils, .slice (List.map encDecl ([] : List Decl)) .nils]] → K3 t9 h9 := by
    intro t9 h9 hw
    refine hK3 _ _ (AW.le hw ?_)
    clear hw
    refine AW.condS rfl h (fun hc1 h => ?_) (fun hc1 h => ?_)
    · refine AW.seqK fun K4 hK4 => ?_
      refine AW.region τ_ok mixedO 0 ?_
      conv => whnf
      refine hK4 _ _ ?_
      refine AW.ret ?_
      conv => whnf
      have e9 := Option.some.inj h
      subst e9
      refine hQ _ _ _ (retPure τ_ok (fun g => by simp only [ren, renL, renLL, renT, renL_app, renl_I, renl_S, renl_U8, renl_Ty, renl_Tm, renl_Carrier, renl_Decl]) ?_)
      conv => whnf
      try rfl
    · refine AW.seqK fun K5 hK5 => ?_
      refine AW.region τ_ok mixedO 1 ?_
      conv => whnf
      obtain ⟨x1, hx1, h⟩ := ob h
      refine call_gen [] [3] [.agg [.slice (List.map encCarrier p0.carriers) .shared, .slice (List.map encDecl p0.names) .shared]] [.agg [.slice (List.map encCarrier p0.carriers) .shared, .slice (List.map encDecl p0.names) .shared]] (typing_declared_ok _ _ _ hx1) okF_114 rfl .nil (by simp only [ren, renL, renLL, renT, renL_app, renl_I, renl_S, renl_U8, renl_Ty, renl_Tm, renl_Carrier, renl_Decl]; try rfl) (.cons (.same _) .nil) (rn := .slice (List.map encS x1) (.tip 3 1)) (by simp only [ren, renL, renLL, renT, renL_app, renl_I, renl_S, renl_U8, renl_Ty, renl_Tm, renl_Carrier, renl_Decl]; try rfl) (Hn := [.tip (List.length x1 * 1)]) ((rcons (rfl) rfl)) ?_
      conv => whnf
      obtain ⟨x2, hx2, h⟩ := ob h
      refine call_pur (slices_Contains_string_ok _ _ _ _ hx2) okF_113 (.cons (.share _ _) (.cons (.same _) .nil)) (fun g => by simp only [ren, renL, renLL, renT, renL_app, renl_I, renl_S, renl_U8, renl_Ty, renl_Tm, renl_Carrier, renl_Decl]) (fun g => rfl) ?_
      conv => whnf
      refine hK5 _ _ ?_
      refine AW.condS rfl h (fun hc2 h => ?_) (fun hc2 h => ?_)
      · refine AW.seqK fun K6 hK6 => ?_
        refine AW.region τ_ok mixedO 0 ?_
        conv => whnf
        refine hK6 _ _ ?_
        refine AW.ret ?_
        conv => whnf
        have e9 := Option.some.inj h
        subst e9
        refine hQ _ _ _ (retPure τ_ok (fun g => by simp only [ren, renL, renLL, renT, renL_app, renl_I, renl_S, renl_U8, renl_Ty, renl_Tm, renl_Carrier, renl_Decl]) ?_)
        conv => whnf
        try rfl
      · refine AW.seqK fun K7 hK7 => ?_
        refine AW.region τ_ok mixedO 0 ?_
        conv => whnf
        obtain ⟨x3, hx3, h⟩ := ob h
        refine call_pur (typing_mentions_ok _ _ _ _ hx3) okF_97 (.cons (.same _) (.cons (.same _) .nil)) (fun g => by simp only [ren, renL, renLL, renT, renL_app, renl_I, renl_S, renl_U8, renl_Ty, renl_Tm, renl_Carrier, renl_Decl]) (fun g => rfl) ?_
        conv => whnf
        refine hK7 _ _ ?_
        refine AW.condS rfl h (fun hc3 h => ?_) (fun hc3 h => ?_)
        · refine AW.seqK fun K8 hK8 => ?_
          refine AW.region τ_ok mixedO 0 ?_
          conv => whnf
          refine hK8 _ _ ?_
          refine AW.ret ?_
          conv => whnf
          have e9 := Option.some.inj h
          subst e9
          refine hQ _ _ _ (retPure τ_ok (fun g => by simp only [ren, renL, renLL, renT, renL_app, renl_I, renl_S, renl_U8, renl_Ty, renl_Tm, renl_Carrier, renl_Decl]) ?_)
          conv => whnf
          try rfl
        · refine AW.seqK fun K9 hK9 => ?_
          refine AW.region τ_ok mixedO 0 ?_
          conv => whnf
          refine len_of (l := p0.names) (f := encDecl) ?_
          conv => whnf
          refine hK9 _ _ ?_
          refine AW.condS rfl h (fun hc4 h => ?_) (fun hc4 h => ?_)
          · refine AW.seqK fun K10 hK10 => ?_
            refine AW.region τ_ok mixedO 0 ?_
            conv => whnf
            refine hK10 _ _ ?_
            refine AW.ret ?_
            conv => whnf
            have e9 := Option.some.inj h
            subst e9
            refine hQ _ _ _ (retPure τ_ok (fun g => by simp only [ren, renL, renLL, renT, renL_app, renl_I, renl_S, renl_U8, renl_Ty, renl_Tm, renl_Carrier, renl_Decl]) ?_)
            conv => whnf
            try rfl
          · refine AW.skip ?_
            conv => whnf
            refine hK2 _ _ ?_
            refine AW.seqK fun K11 hK11 => ?_
            refine AW.region τ_ok mixedO 3 ?_
            conv => whnf
            obtain ⟨x4, hx4, h⟩ := ob h
            refine call_gen [] [4, 5] [.agg [.slice (List.map encCarrier p0.carriers) .shared, .slice (List.map encDecl p0.names) .shared]] [.agg [.slice (List.map encCarrier p0.carriers) .shared, .slice (List.map encDecl p0.names) .shared]] (typing_copyEnv_ok _ _ _ hx4) okF_115 rfl .nil (by simp only [ren, renL, renLL, renT, renL_app, renl_I, renl_S, renl_U8, renl_Ty, renl_Tm, renl_Carrier, renl_Decl]; try rfl) (.cons (.same _) .nil) (rn := .agg [.slice (List.map encCarrier x4.1) (.tip 4 2), .slice (List.map encDecl x4.2) (.tip 5 4)]) (by simp only [ren, renL, renLL, renT, renL_app, renl_I, renl_S, renl_U8, renl_Ty, renl_Tm, renl_Carrier, renl_Decl]; try rfl) (Hn := [.tip (List.length x4.1 * 2), .tip (List.length x4.2 * 4)]) ((rcons (rfl) (rcons (rfl) rfl))) ?_
            conv => whnf
            refine hK11 _ _ ?_
            refine AW.seqK fun K12 hK12 => ?_
            refine AW.region τ_ok mixedO 2 ?_
            conv => whnf
            obtain ⟨x5, hx5, h⟩ := ob h
            refine call_pur (typing_copyType_ok _ _ _ hx5) okF_70 (.cons (.same _) .nil) (fun g => by simp only [ren, renL, renLL, renT, renL_app, renl_I, renl_S, renl_U8, renl_Ty, renl_Tm, renl_Carrier, renl_Decl]) (fun g => by simp only [ren, renL, renLL, renT, renL_app, renl_I, renl_S, renl_U8, renl_Ty, renl_Tm, renl_Carrier, renl_Decl]) ?_
            conv => whnf
            refine ⟨List.map encDecl ([(Decl.mk p1 x5)]), rfl, ?_⟩
            conv => whnf
            obtain ⟨x6, hx6, h⟩ := ob h
            refine app_tip (l := x4.2) (ys := [(Decl.mk p1 x5)]) (f := encDecl) hx6 ok_Decl rfl rfl rfl ?_
            conv => whnf
            refine ⟨rfl, ?_⟩
            conv => whnf
            refine hK12 _ _ ?_
            refine AW.seqK fun K13 hK13 => ?_
            refine AW.region τ_ok mixedO 0 ?_
            conv => whnf
            refine hK13 _ _ ?_
            refine AW.ret ?_
            conv => whnf
            have e9 := Option.some.inj h
            subst e9
            refine hQ _ _ _ (retPure τ_ok (fun g => by simp only [ren, renL, renLL, renT, renL_app, renl_I, renl_S, renl_U8, renl_Ty, renl_Tm, renl_Carrier, renl_Decl]) ?_)
            conv => whnf
            try rfl
  refine AW.region τ_ok mixedO 0 ?_
  conv => whnf
  obtain ⟨x7, hx7, hj1⟩ := ob hj1
  refine call_pur (typing_ValidEnv_ok _ _ _ hx7) okF_55 (.cons (.same _) .nil) (fun g => by simp only [ren, renL, renLL, renT, renL_app, renl_I, renl_S, renl_U8, renl_Ty, renl_Tm, renl_Carrier, renl_Decl]) (fun g => rfl) ?_
  conv => whnf
  refine onB_cond hj1 (fun hc5 hj1 => ?_) (fun hc5 hj1 => ?_)
  · conv => whnf
    cases hj1
    exact hR1 _ _ (Le.of [some 0, some 1, some 2] (Weak.mk' rfl (.cons (.unk _) (.cons (.same rfl) (.cons (.unk _) (.cons (.same rfl) (.cons (.unk _) (.cons (.same rfl) (.cons (.same rfl) (.u2 (.cons (.same rfl) (.u32 (.u8 (.u4 .nil)))))))))))) (.old (.box' (.cons (.share (renl_Carrier _ _)) (.cons (.share (renl_Decl _ _)) .nil))) (.old (.box' (.cons (.same rfl) (.cons (.same rfl) (.cons (.share (renl_Ty _ _)) .nil)))) (.old (.box' (.cons (.same rfl) (.cons (.same rfl) .nil))) .nil)))))
  · conv => whnf
    obtain ⟨x8, hx8, hj1⟩ := ob hj1
    refine call_pur (typing_nameable_ok _ _ _ hx8) okF_112 (.cons (.same _) .nil) (fun g => rfl) (fun g => rfl) ?_
    conv => whnf
    refine onB_cond hj1 (fun hc6 hj1 => ?_) (fun hc6 hj1 => ?_)
    · conv => whnf
      cases hj1
      exact hR1 _ _ (Le.of [some 0, some 1, some 2] (Weak.mk' rfl (.cons (.unk _) (.cons (.same rfl) (.cons (.unk _) (.cons (.same rfl) (.cons (.unk _) (.cons (.same rfl) (.cons (.same rfl) (.u2 (.cons (.same rfl) (.u32 (.u8 (.u4 .nil)))))))))))) (.old (.box' (.cons (.share (renl_Carrier _ _)) (.cons (.share (renl_Decl _ _)) .nil))) (.old (.box' (.cons (.same rfl) (.cons (.same rfl) (.cons (.share (renl_Ty _ _)) .nil)))) (.old (.box' (.cons (.same rfl) (.cons (.same rfl) .nil))) .nil)))))
    · conv => whnf
      obtain ⟨x9, hx9, hj1⟩ := ob hj1
      refine call_pur (typing_declarable_ok _ _ _ hx9) okF_95 (.cons (.same _) .nil) (fun g => by simp only [ren, renL, renLL, renT, renL_app, renl_I, renl_S, renl_U8, renl_Ty, renl_Tm, renl_Carrier, renl_Decl]) (fun g => rfl) ?_
      conv => whnf
      cases hj1
      exact hR1 _ _ (Le.of [some 0, some 1, some 2] (Weak.mk' rfl (.cons (.unk _) (.cons (.same rfl) (.cons (.unk _) (.cons (.same rfl) (.cons (.unk _) (.cons (.same rfl) (.cons (.same rfl) (.u2 (.cons (.same rfl) (.u32 (.u8 (.u4 .nil)))))))))))) (.old (.box' (.cons (.share (renl_Carrier _ _)) (.cons (.share (renl_Decl _ _)) .nil))) (.old (.box' (.cons (.same rfl) (.cons (.same rfl) (.cons (.share (renl_Ty _ _)) .nil)))) (.old (.box' (.cons (.same rfl) (.cons (.same rfl) .nil))) .nil)))))
def R2_CopyEnv_L1 (n : Nat) (p0 : Env) : Nat → (Int × (List Carrier)) → Option (LR (List Carrier) ((List Carrier) × (List Decl)))
  | 0, _ => none
  | k + 1, s1 => (cond (decide (s1.1 < (p0.carriers.length : Int))) ((idx p0.carriers s1.1).bind fun (x4 : Carrier) => ((app 16 ([] : List Str) x4.elems).bind fun (x5 : List Str) => ((app 40 s1.2 ([(Carrier.mk x4.name x5)])).bind fun (x6 : List Carrier) => R2_CopyEnv_L1 n p0 k ((s1.1 + 1), x6)))) (some (.nx s1.2)))
def R2_CopyEnv_L0 (n : Nat) (p0 : Env) : Nat → (Int × (List Decl)) → Option (LR (List Decl) ((List Carrier) × (List Decl)))
  | 0, _ => none
  | k + 1, s3 => (cond (decide (s3.1 < (p0.names.length : Int))) ((idx p0.names s3.1).bind fun (x1 : Decl) => ((R1_CopyType n x1.ty).bind fun (x2 : Ty) => ((app 64 s3.2 ([(Decl.mk x1.name x2)])).bind fun (x3 : List Decl) => R2_CopyEnv_L0 n p0 k ((s3.1 + 1), x3)))) (some (.nx s3.2)))
def R2_CopyEnv (n : Nat) (p0 : Env) : Option ((List Carrier) × (List Decl)) := ((R2_CopyEnv_L1 n p0 n (0, ([] : List Carrier))).bind (LR.el (fun (s2 : List Carrier) => ((R2_CopyEnv_L0 n p0 n (0, ([] : List Decl))).bind (LR.el (fun (s4 : List Decl) => some (s2, s4)) (fun r => some r)))) (fun r => some r)))
set_option maxRecDepth 100000 in
set_option maxHeartbeats 40000000 in
theorem R2_CopyEnv_ok (n : Nat) (p0 : Env) (r : (List Carrier) × (List Decl)) (h : R2_CopyEnv n p0 = some r) : ACalls Tryz.prog 59 [.agg [.slice (List.map encCarrier p0.carriers) .shared, .slice (List.map encDecl p0.names) .shared]] [] (.agg [.slice (List.map encCarrier r.1) (.tip 0 2), .slice (List.map encDecl r.2) (.tip 1 4)]) [.tip (List.length r.1 * 2), .tip (List.length r.2 * 4)] := by
  unfold R2_CopyEnv at h
  refine acalls_start false Tryz.func59 rfl (by rw [Tryz.ntmps59]; exact Nat.le_of_ble_eq_true rfl) fun Q hQ t ht => ?_
  conv at ht => whnf
  subst ht
  refine AW.seqK fun K1 hK1 => ?_
  refine AW.region τ_ok mixedO 2 ?_
  conv => whnf
  refine hK1 _ _ ?_
  refine AW.seqK fun K2 hK2 => ?_
  refine AW.region τ_ok mixedO 1 ?_
  conv => whnf
  refine hK2 _ _ ?_
  refine AW.seqK fun K3 hK3 => ?_
  refine AW.seqK fun K4 hK4 => ?_
  refine AW.region τ_ok mixedO 0 ?_
  conv => whnf
  refine hK4 _ _ ?_
  refine AW.block ?_
  obtain ⟨o1, ho1, h⟩ := ob h
  have hR1 : ∀ s2 : List Carrier, o1 = .nx s2 → ∀ t9 h9, Le 0 t9 h9 (.unk :: (.ptr 0 0 :: (.ptr 1 0 :: (.ptr 2 0 :: (u32 (u16 (u4 []))))))) [.box [.slice (List.map encCarrier p0.carriers) .shared, .slice (List.map encDecl p0.names) .shared], .box [.slice (List.map encCarrier ([] : List Carrier)) .nils, .slice (List.map encDecl ([] : List Decl)) .nils], .box [.slice (List.map encCarrier s2) (.tip 3 2), .slice (List.map encDecl ([] : List Decl)) .nils], .tip (List.length s2 * 2)] → K3 t9 h9 := by
    intro s2 ho
    subst ho
    dsimp only [LR.el] at h
    intro t9 h9 hw
    refine hK3 _ _ (AW.le hw ?_)
    refine AW.seqK fun K5 hK5 => ?_
    refine AW.seqK fun K6 hK6 => ?_
    refine AW.region τ_ok mixedO 0 ?_
    conv => whnf
    refine hK6 _ _ ?_
    refine AW.block ?_
    obtain ⟨o2, ho2, h⟩ := ob h
    have hR2 : ∀ s4 : List Decl, o2 = .nx s4 → ∀ t9 h9, Le 0 t9 h9 (u2 (.ptr 0 0 :: (.ptr 1 0 :: (u32 (u16 (u4 [])))))) [.box [.slice (List.map encCarrier ([] : List Carrier)) .nils, .slice (List.map encDecl ([] : List Decl)) .nils], .box [.slice (List.map encCarrier s2) (.tip 2 2), .slice (List.map encDecl s4) (.tip 3 4)], .tip (List.length s2 * 2), .tip (List.length s4 * 4)] → K5 t9 h9 := by
      intro s4 ho
      subst ho
      dsimp only [LR.el] at h
      intro t9 h9 hw
      refine hK5 _ _ (AW.le hw ?_)
      refine AW.seqK fun K7 hK7 => ?_
      refine AW.region τ_ok mixedO 0 ?_
      conv => whnf
      refine hK7 _ _ ?_
      refine AW.ret ?_
      conv => whnf
      have e9 := Option.some.inj h
      subst e9
      refine hQ _ _ _ (retW (u2 (.ptr 0 0 :: (u32 (u16 (u4 (.unk :: [])))))) [.box [.slice (List.map encCarrier s2) (.tip 1 2), .slice (List.map encDecl s4) (.tip 2 4)], .tip (List.length s2 * 2), .tip (List.length s4 * 4)] (Le.of [some 0, some 2, some 3] (Weak.mk' rfl (.u2 (.cons (.same rfl) (.u32 (.u16 (.u4 (.cons (.unk _) .nil)))))) (.old (.box' (.cons (.tipS (renl_Carrier _ _) rfl) (.cons (.tipS (renl_Decl _ _) rfl) .nil))) (.old (.tip _) (.old (.tip _) .nil))))) (retObj τ_ok [1, 2] rfl (.cons (rfl) (.cons (rfl) .nil)) ?_))
      conv => whnf
      first | rfl | (simp only [ren, renL, renLL, renT, renL_app, renl_I, renl_S, renl_U8, renl_Ty, renl_Tm, renl_Carrier, renl_Decl]; done) | (simp only [ren, renL, renLL, renT, renL_app, renl_I, renl_S, renl_U8, renl_Ty, renl_Tm, renl_Carrier, renl_Decl]; rfl)
    refine AW.loopS (R2_CopyEnv_L0 n p0) (fun (s3 : Int × (List Decl)) => (.unk :: (.ptr 0 0 :: (.ptr 1 0 :: (.ptr 2 0 :: (u2 (.int .i64 s3.1 :: (u32 (u16 (.unk :: [])))))))))) (fun (s3 : Int × (List Decl)) => [.box [.slice (List.map encCarrier p0.carriers) .shared, .slice (List.map encDecl p0.names) .shared], .box [.slice (List.map encCarrier ([] : List Carrier)) .nils, .slice (List.map encDecl ([] : List Decl)) .nils], .box [.slice (List.map encCarrier s2) (.tip 3 2), .slice (List.map encDecl s3.2) (.tip 4 4)], .tip (List.length s2 * 2), .tip (List.length s3.2 * 4)]) ho2 (fun _ => rfl) (Le.of [some 0, some 1, some 2, some 3, none] (Weak.mk' rfl (.cons (.unk _) (.cons (.same rfl) (.cons (.same rfl) (.cons (.same rfl) (.u2 (.cons (.same rfl) (.u32 (.u16 (.cons (.unk _) .nil))))))))) (.old (.box' (.cons (.share (renl_Carrier _ _)) (.cons (.share (renl_Decl _ _)) .nil))) (.old (.box' (.cons (.same rfl) (.cons (.same rfl) .nil))) (.old (.box' (.cons (.tipS (renl_Carrier _ _) rfl) (.cons (.nils _ _) .nil))) (.old (.tip _) (.new rfl .nil))))))) ?_
    intro n2 s3 hs2 KL2 hKL2
    unfold R2_CopyEnv_L0 at hs2
    refine AW.seqK fun K8 hK8 => ?_
    refine AW.seqK fun K9 hK9 => ?_
    refine AW.region τ_ok mixedO 0 ?_
    conv => whnf
    refine len_of (l := p0.names) (f := encDecl) ?_
    conv => whnf
    refine hK9 _ _ ?_
    refine AW.condS rfl hs2 (fun hc1 hs2 => ?_) (fun hc1 hs2 => ?_)
    · refine AW.skip ?_
      conv => whnf
      refine hK8 _ _ ?_
      refine AW.seqK fun K10 hK10 => ?_
      refine AW.block ?_
      refine AW.seqK fun K11 hK11 => ?_
      refine AW.region τ_ok mixedO 1 ?_
      conv => whnf
      obtain ⟨x1, hx1, hs2⟩ := ob hs2
      refine idx_of (l := p0.names) (f := encDecl) (cs := [.str ((x1).name), .int .i64 (((x1).ty).kind), .str (((x1).ty).name), .slice (List.map encTy (((x1).ty).kids)) .shared]) hx1 (rfl) rfl ?_
      conv => whnf
      refine hK11 _ _ ?_
      refine AW.region τ_ok mixedO 2 ?_
      conv => whnf
      obtain ⟨x2, hx2, hs2⟩ := ob hs2
      refine call_pur (R1_CopyType_ok _ _ _ hx2) okF_72 (.cons (.same _) .nil) (fun g => by simp only [ren, renL, renLL, renT, renL_app, renl_I, renl_S, renl_U8, renl_Ty, renl_Tm, renl_Carrier, renl_Decl]) (fun g => by simp only [ren, renL, renLL, renT, renL_app, renl_I, renl_S, renl_U8, renl_Ty, renl_Tm, renl_Carrier, renl_Decl]) ?_
      conv => whnf
      refine ⟨List.map encDecl ([(Decl.mk x1.name x2)]), rfl, ?_⟩
      conv => whnf
      obtain ⟨x3, hx3, hs2⟩ := ob hs2
      refine app_tip (l := s3.2) (ys := [(Decl.mk x1.name x2)]) (f := encDecl) hx3 ok_Decl rfl rfl rfl ?_
      conv => whnf
      refine ⟨rfl, ?_⟩
      conv => whnf
      refine hK10 _ _ ?_
      refine AW.know 6 0 fun hv1 => ?_
      refine AW.know 34 0 fun hv2 => ?_
      refine AW.region τ_ok mixedO 0 ?_
      conv => whnf
      refine ⟨(s3.1 + 1), by have := wf64 hv1; have := vfl hv2; have h8 := of_decide_eq_true hc1; exact w64_id (by omega) (by omega), ?_⟩
      conv => whnf
      exact hKL2 _ _ _ hs2 (Le.of [some 0, some 1, some 2, some 3, some 7] (Weak.mk' rfl (.cons (.unk _) (.cons (.same rfl) (.cons (.same rfl) (.cons (.same rfl) (.u2 (.cons (.same rfl) (.u32 (.u16 (.cons (.unk _) .nil))))))))) (.old (.box' (.cons (.share (renl_Carrier _ _)) (.cons (.share (renl_Decl _ _)) .nil))) (.old (.box' (.cons (.same rfl) (.cons (.same rfl) .nil))) (.old (.box' (.cons (.tipS (renl_Carrier _ _) rfl) (.cons (.tipS (renl_Decl _ _) rfl) .nil))) (.old (.tip _) (.old (.tip _) .nil)))))))
    · refine AW.exit ?_
      conv => whnf
      exact hR2 _ (Option.some.inj hs2).symm _ _ (Le.of [some 1, some 2, some 3, some 4] (Weak.mk' rfl (.u2 (.cons (.same rfl) (.cons (.same rfl) (.u32 (.u16 (.u4 .nil)))))) (.old (.box' (.cons (.same rfl) (.cons (.same rfl) .nil))) (.old (.box' (.cons (.tipS (renl_Carrier _ _) rfl) (.cons (.tipS (renl_Decl _ _) rfl) .nil))) (.old (.tip _) (.old (.tip _) .nil))))))
  refine AW.loopS (R2_CopyEnv_L1 n p0) (fun (s1 : Int × (List Carrier)) => (.unk :: (.ptr 0 0 :: (.ptr 1 0 :: (.ptr 2 0 :: (.int .i64 s1.1 :: (u32 (u16 (u2 (.unk :: [])))))))))) (fun (s1 : Int × (List Carrier)) => [.box [.slice (List.map encCarrier p0.carriers) .shared, .slice (List.map encDecl p0.names) .shared], .box [.slice (List.map encCarrier ([] : List Carrier)) .nils, .slice (List.map encDecl ([] : List Decl)) .nils], .box [.slice (List.map encCarrier s1.2) (.tip 3 2), .slice (List.map encDecl ([] : List Decl)) .nils], .tip (List.length s1.2 * 2)]) ho1 (fun _ => rfl) (Le.of [some 0, some 1, some 2, none] (Weak.mk' rfl (.cons (.unk _) (.cons (.same rfl) (.cons (.same rfl) (.cons (.same rfl) (.cons (.same rfl) (.u32 (.u16 (.u2 (.cons (.unk _) .nil))))))))) (.old (.box' (.cons (.share (renl_Carrier _ _)) (.cons (.share (renl_Decl _ _)) .nil))) (.old (.box' (.cons (.same rfl) (.cons (.same rfl) .nil))) (.old (.box' (.cons (.nils _ _) (.cons (.same rfl) .nil))) (.new rfl .nil)))))) ?_
  intro n1 s1 hs1 KL1 hKL1
  unfold R2_CopyEnv_L1 at hs1
  refine AW.seqK fun K12 hK12 => ?_
  refine AW.seqK fun K13 hK13 => ?_
  refine AW.region τ_ok mixedO 0 ?_
  conv => whnf
  refine len_of (l := p0.carriers) (f := encCarrier) ?_
  conv => whnf
  refine hK13 _ _ ?_
  refine AW.condS rfl hs1 (fun hc2 hs1 => ?_) (fun hc2 hs1 => ?_)
  · refine AW.skip ?_
    conv => whnf
    refine hK12 _ _ ?_
    refine AW.seqK fun K14 hK14 => ?_
    refine AW.block ?_
    refine AW.seqK fun K15 hK15 => ?_
    refine AW.region τ_ok mixedO 1 ?_
    conv => whnf
    obtain ⟨x4, hx4, hs1⟩ := ob hs1
    refine idx_of (l := p0.carriers) (f := encCarrier) (cs := [.str ((x4).name), .slice (List.map encS ((x4).elems)) .shared]) hx4 (rfl) rfl ?_
    conv => whnf
    refine hK15 _ _ ?_
    refine AW.region τ_ok mixedO 4 ?_
    conv => whnf
    refine ⟨List.map encS ([] : List Str), rfl, ?_⟩
    conv => whnf
    obtain ⟨x5, hx5, hs1⟩ := ob hs1
    refine app_tip (l := ([] : List Str)) (ys := x4.elems) (f := encS) hx5 ok_S rfl rfl rfl ?_
    conv => whnf
    refine ⟨List.map encCarrier ([(Carrier.mk x4.name x5)]), rfl, ?_⟩
    conv => whnf
    obtain ⟨x6, hx6, hs1⟩ := ob hs1
    refine app_tip (l := s1.2) (ys := [(Carrier.mk x4.name x5)]) (f := encCarrier) hx6 ok_Carrier rfl rfl rfl ?_
    conv => whnf
    refine ⟨rfl, ?_⟩
    conv => whnf
    refine hK14 _ _ ?_
    refine AW.know 4 0 fun hv3 => ?_
    refine AW.know 10 0 fun hv4 => ?_
    refine AW.region τ_ok mixedO 0 ?_
    conv => whnf
    refine ⟨(s1.1 + 1), by have := wf64 hv3; have := vfl hv4; have h8 := of_decide_eq_true hc2; exact w64_id (by omega) (by omega), ?_⟩
    conv => whnf
    exact hKL1 _ _ _ hs1 (Le.of [some 0, some 1, some 2, some 8] (Weak.mk' rfl (.cons (.unk _) (.cons (.same rfl) (.cons (.same rfl) (.cons (.same rfl) (.cons (.same rfl) (.u32 (.u16 (.u2 (.cons (.unk _) .nil))))))))) (.old (.box' (.cons (.share (renl_Carrier _ _)) (.cons (.share (renl_Decl _ _)) .nil))) (.old (.box' (.cons (.same rfl) (.cons (.same rfl) .nil))) (.old (.box' (.cons (.tipS (renl_Carrier _ _) rfl) (.cons (.same rfl) .nil))) (.old (.tip _) .nil))))))
  · refine AW.exit ?_
    conv => whnf
    exact hR1 _ (Option.some.inj hs1).symm _ _ (Le.of [some 0, some 1, some 2, some 3] (Weak.mk' rfl (.cons (.unk _) (.cons (.same rfl) (.cons (.same rfl) (.cons (.same rfl) (.u32 (.u16 (.u4 .nil))))))) (.old (.box' (.cons (.share (renl_Carrier _ _)) (.cons (.share (renl_Decl _ _)) .nil))) (.old (.box' (.cons (.same rfl) (.cons (.same rfl) .nil))) (.old (.box' (.cons (.tipS (renl_Carrier _ _) rfl) (.cons (.same rfl) .nil))) (.old (.tip _) .nil))))))
end Abs
end Go.Proofs.YtiiaccpcoclklaaGreat
namespace Go.Proofs.YtiiaccpcoclklaaGreat
namespace Abs
open Go Go.Proofs
def R2_With (n : Nat) (p0 : Env) (p1 : Str) (p2 : Ty) : Option (Env × Int) := ((((R2_ValidEnv n p0).bind fun (x7 : Bool) => (cond (!x7) (some true) ((R1_Named n p1).bind fun (x8 : Bool) => (cond (!x8) (some true) ((R1_ValidType n p2).bind fun (x9 : Bool) => (cond (!x9) (some true) ((R2_holdsBool n p2).bind fun (x10 : Bool) => some x10))))))) : Option Bool).bind fun (s1 : Bool) => (cond s1 (some ((Env.mk ([]) ([])), 1)) ((R2_AllNames n p0).bind fun (x1 : List Str) => ((R1_In n p1 x1).bind fun (x2 : Bool) => (cond x2 (some ((Env.mk ([]) ([])), 8)) ((R2_Knows n p0 p2).bind fun (x3 : Bool) => (cond (!x3) (some ((Env.mk ([]) ([])), 6)) (cond (decide (64 ≤ (p0.names.length : Int))) (some ((Env.mk ([]) ([])), 5)) ((R2_CopyEnv n p0).bind fun (x4 : (List Carrier) × (List Decl)) => ((R1_CopyType n p2).bind fun (x5 : Ty) => ((app 64 x4.2 ([(Decl.mk p1 x5)])).bind fun (x6 : List Decl) => some ((Env.mk x4.1 x6), 0))))))))))))
set_option maxRecDepth 100000 in
set_option maxHeartbeats 40000000 in
theorem R2_With_ok (n : Nat) (p0 : Env) (p1 : Str) (p2 : Ty) (r : Env × Int) (h : R2_With n p0 p1 p2 = some r) : ACalls Tryz.prog 54 [.agg [.slice (List.map encCarrier p0.carriers) .shared, .slice (List.map encDecl p0.names) .shared], .str p1, .agg [.int .i64 p2.kind, .str p2.name, .slice (List.map encTy p2.kids) .shared]] [] (.tup [.agg [.slice (List.map encCarrier r.1.carriers) .shared, .slice (List.map encDecl r.1.names) .shared], .int .i64 r.2]) [] := by
  unfold R2_With at h
  refine acalls_start true Tryz.func54 rfl (by rw [Tryz.ntmps54]; exact Nat.le_of_ble_eq_true rfl) fun Q hQ t ht => ?_
  conv at ht => whnf
  subst ht
  refine AW.seqK fun K1 hK1 => ?_
  refine AW.region τ_ok mixedO 3 ?_
  conv => whnf
  refine hK1 _ _ ?_
  refine AW.seqK fun K2 hK2 => ?_
  refine AW.block ?_
  refine AW.seqK fun K3 hK3 => ?_
  obtain ⟨s1, hj1, h⟩ := ob h
  have hR1 : ∀ t9 h9, Le 0 t9 h9 (.unk :: (.str p1 :: (.unk :: (.ptr 0 0 :: (.unk :: (.ptr 1 0 :: (.ptr 2 0 :: (u2 (.bool s1 :: (u32 (u16 []))))))))))) [.box [.slice (List.map encCarrier p0.carriers) .shared, .slice (List.map encDecl p0.names) .shared], .box [.int .i64 p2.kind, .str p2.name, .slice (List.map encTy p2.kids) .shared], .box [.slice (List.map encCarrier ([] : List Carrier)) .nils, .slice (List.map encDecl ([] : List Decl)) .nils]] → K3 t9 h9 := by
    intro t9 h9 hw
    refine hK3 _ _ (AW.le hw ?_)
    clear hw
    refine AW.condS rfl h (fun hc1 h => ?_) (fun hc1 h => ?_)
    · refine AW.seqK fun K4 hK4 => ?_
      refine AW.region τ_ok mixedO 0 ?_
      conv => whnf
      refine hK4 _ _ ?_
      refine AW.ret ?_
      conv => whnf
      have e9 := Option.some.inj h
      subst e9
      refine hQ _ _ _ (retPure τ_ok (fun g => by simp only [ren, renL, renLL, renT, renL_app, renl_I, renl_S, renl_U8, renl_Ty, renl_Tm, renl_Carrier, renl_Decl]) ?_)
      conv => whnf
      try rfl
    · refine AW.seqK fun K5 hK5 => ?_
      refine AW.region τ_ok mixedO 1 ?_
      conv => whnf
      obtain ⟨x1, hx1, h⟩ := ob h
      refine call_gen [] [3] [.agg [.slice (List.map encCarrier p0.carriers) .shared, .slice (List.map encDecl p0.names) .shared]] [.agg [.slice (List.map encCarrier p0.carriers) .shared, .slice (List.map encDecl p0.names) .shared]] (R2_AllNames_ok _ _ _ hx1) okF_62 rfl .nil (by simp only [ren, renL, renLL, renT, renL_app, renl_I, renl_S, renl_U8, renl_Ty, renl_Tm, renl_Carrier, renl_Decl]; try rfl) (.cons (.same _) .nil) (rn := .slice (List.map encS x1) (.tip 3 1)) (by simp only [ren, renL, renLL, renT, renL_app, renl_I, renl_S, renl_U8, renl_Ty, renl_Tm, renl_Carrier, renl_Decl]; try rfl) (Hn := [.tip (List.length x1 * 1)]) ((rcons (rfl) rfl)) ?_
      conv => whnf
      obtain ⟨x2, hx2, h⟩ := ob h
      refine call_pur (R1_In_ok _ _ _ _ hx2) okF_50 (.cons (.same _) (.cons (.share _ _) .nil)) (fun g => by simp only [ren, renL, renLL, renT, renL_app, renl_I, renl_S, renl_U8, renl_Ty, renl_Tm, renl_Carrier, renl_Decl]) (fun g => rfl) ?_
      conv => whnf
      refine hK5 _ _ ?_
      refine AW.condS rfl h (fun hc2 h => ?_) (fun hc2 h => ?_)
      · refine AW.seqK fun K6 hK6 => ?_
        refine AW.region τ_ok mixedO 0 ?_
        conv => whnf
        refine hK6 _ _ ?_
        refine AW.ret ?_
        conv => whnf
        have e9 := Option.some.inj h
        subst e9
        refine hQ _ _ _ (retPure τ_ok (fun g => by simp only [ren, renL, renLL, renT, renL_app, renl_I, renl_S, renl_U8, renl_Ty, renl_Tm, renl_Carrier, renl_Decl]) ?_)
        conv => whnf
        try rfl
      · refine AW.seqK fun K7 hK7 => ?_
        refine AW.region τ_ok mixedO 0 ?_
        conv => whnf
        obtain ⟨x3, hx3, h⟩ := ob h
        refine call_pur (R2_Knows_ok _ _ _ _ hx3) okF_101 (.cons (.same _) (.cons (.same _) .nil)) (fun g => by simp only [ren, renL, renLL, renT, renL_app, renl_I, renl_S, renl_U8, renl_Ty, renl_Tm, renl_Carrier, renl_Decl]) (fun g => rfl) ?_
        conv => whnf
        refine hK7 _ _ ?_
        refine AW.condS rfl h (fun hc3 h => ?_) (fun hc3 h => ?_)
        · refine AW.seqK fun K8 hK8 => ?_
          refine AW.region τ_ok mixedO 0 ?_
          conv => whnf
          refine hK8 _ _ ?_
          refine AW.ret ?_
          conv => whnf
          have e9 := Option.some.inj h
          subst e9
          refine hQ _ _ _ (retPure τ_ok (fun g => by simp only [ren, renL, renLL, renT, renL_app, renl_I, renl_S, renl_U8, renl_Ty, renl_Tm, renl_Carrier, renl_Decl]) ?_)
          conv => whnf
          try rfl
        · refine AW.seqK fun K9 hK9 => ?_
          refine AW.region τ_ok mixedO 0 ?_
          conv => whnf
          refine len_of (l := p0.names) (f := encDecl) ?_
          conv => whnf
          refine hK9 _ _ ?_
          refine AW.condS rfl h (fun hc4 h => ?_) (fun hc4 h => ?_)
          · refine AW.seqK fun K10 hK10 => ?_
            refine AW.region τ_ok mixedO 0 ?_
            conv => whnf
            refine hK10 _ _ ?_
            refine AW.ret ?_
            conv => whnf
            have e9 := Option.some.inj h
            subst e9
            refine hQ _ _ _ (retPure τ_ok (fun g => by simp only [ren, renL, renLL, renT, renL_app, renl_I, renl_S, renl_U8, renl_Ty, renl_Tm, renl_Carrier, renl_Decl]) ?_)
            conv => whnf
            try rfl
          · refine AW.skip ?_
            conv => whnf
            refine hK2 _ _ ?_
            refine AW.seqK fun K11 hK11 => ?_
            refine AW.region τ_ok mixedO 3 ?_
            conv => whnf
            obtain ⟨x4, hx4, h⟩ := ob h
            refine call_gen [] [4, 5] [.agg [.slice (List.map encCarrier p0.carriers) .shared, .slice (List.map encDecl p0.names) .shared]] [.agg [.slice (List.map encCarrier p0.carriers) .shared, .slice (List.map encDecl p0.names) .shared]] (R2_CopyEnv_ok _ _ _ hx4) okF_59 rfl .nil (by simp only [ren, renL, renLL, renT, renL_app, renl_I, renl_S, renl_U8, renl_Ty, renl_Tm, renl_Carrier, renl_Decl]; try rfl) (.cons (.same _) .nil) (rn := .agg [.slice (List.map encCarrier x4.1) (.tip 4 2), .slice (List.map encDecl x4.2) (.tip 5 4)]) (by simp only [ren, renL, renLL, renT, renL_app, renl_I, renl_S, renl_U8, renl_Ty, renl_Tm, renl_Carrier, renl_Decl]; try rfl) (Hn := [.tip (List.length x4.1 * 2), .tip (List.length x4.2 * 4)]) ((rcons (rfl) (rcons (rfl) rfl))) ?_
            conv => whnf
            refine hK11 _ _ ?_
            refine AW.seqK fun K12 hK12 => ?_
            refine AW.region τ_ok mixedO 2 ?_
            conv => whnf
            obtain ⟨x5, hx5, h⟩ := ob h
            refine call_pur (R1_CopyType_ok _ _ _ hx5) okF_72 (.cons (.same _) .nil) (fun g => by simp only [ren, renL, renLL, renT, renL_app, renl_I, renl_S, renl_U8, renl_Ty, renl_Tm, renl_Carrier, renl_Decl]) (fun g => by simp only [ren, renL, renLL, renT, renL_app, renl_I, renl_S, renl_U8, renl_Ty, renl_Tm, renl_Carrier, renl_Decl]) ?_
            conv => whnf
            refine ⟨List.map encDecl ([(Decl.mk p1 x5)]), rfl, ?_⟩
            conv => whnf
            obtain ⟨x6, hx6, h⟩ := ob h
            refine app_tip (l := x4.2) (ys := [(Decl.mk p1 x5)]) (f := encDecl) hx6 ok_Decl rfl rfl rfl ?_
            conv => whnf
            refine ⟨rfl, ?_⟩
            conv => whnf
            refine hK12 _ _ ?_
            refine AW.seqK fun K13 hK13 => ?_
            refine AW.region τ_ok mixedO 0 ?_
            conv => whnf
            refine hK13 _ _ ?_
            refine AW.ret ?_
            conv => whnf
            have e9 := Option.some.inj h
            subst e9
            refine hQ _ _ _ (retPure τ_ok (fun g => by simp only [ren, renL, renLL, renT, renL_app, renl_I, renl_S, renl_U8, renl_Ty, renl_Tm, renl_Carrier, renl_Decl]) ?_)
            conv => whnf
            try rfl
  refine AW.region τ_ok mixedO 0 ?_
  conv => whnf
  obtain ⟨x7, hx7, hj1⟩ := ob hj1
  refine call_pur (R2_ValidEnv_ok _ _ _ hx7) okF_56 (.cons (.same _) .nil) (fun g => by simp only [ren, renL, renLL, renT, renL_app, renl_I, renl_S, renl_U8, renl_Ty, renl_Tm, renl_Carrier, renl_Decl]) (fun g => rfl) ?_
  conv => whnf
  refine onB_cond hj1 (fun hc5 hj1 => ?_) (fun hc5 hj1 => ?_)
  · conv => whnf
    cases hj1
    exact hR1 _ _ (Le.of [some 0, some 1, some 2] (Weak.mk' rfl (.cons (.unk _) (.cons (.same rfl) (.cons (.unk _) (.cons (.same rfl) (.cons (.unk _) (.cons (.same rfl) (.cons (.same rfl) (.u2 (.cons (.same rfl) (.u32 (.u16 .nil))))))))))) (.old (.box' (.cons (.share (renl_Carrier _ _)) (.cons (.share (renl_Decl _ _)) .nil))) (.old (.box' (.cons (.same rfl) (.cons (.same rfl) (.cons (.share (renl_Ty _ _)) .nil)))) (.old (.box' (.cons (.same rfl) (.cons (.same rfl) .nil))) .nil)))))
  · conv => whnf
    obtain ⟨x8, hx8, hj1⟩ := ob hj1
    refine call_pur (R1_Named_ok _ _ _ hx8) okF_116 (.cons (.same _) .nil) (fun g => rfl) (fun g => rfl) ?_
    conv => whnf
    refine onB_cond hj1 (fun hc6 hj1 => ?_) (fun hc6 hj1 => ?_)
    · conv => whnf
      cases hj1
      exact hR1 _ _ (Le.of [some 0, some 1, some 2] (Weak.mk' rfl (.cons (.unk _) (.cons (.same rfl) (.cons (.unk _) (.cons (.same rfl) (.cons (.unk _) (.cons (.same rfl) (.cons (.same rfl) (.u2 (.cons (.same rfl) (.u32 (.u16 .nil))))))))))) (.old (.box' (.cons (.share (renl_Carrier _ _)) (.cons (.share (renl_Decl _ _)) .nil))) (.old (.box' (.cons (.same rfl) (.cons (.same rfl) (.cons (.share (renl_Ty _ _)) .nil)))) (.old (.box' (.cons (.same rfl) (.cons (.same rfl) .nil))) .nil)))))
    · conv => whnf
      obtain ⟨x9, hx9, hj1⟩ := ob hj1
      refine call_pur (R1_ValidType_ok _ _ _ hx9) okF_42 (.cons (.same _) .nil) (fun g => by simp only [ren, renL, renLL, renT, renL_app, renl_I, renl_S, renl_U8, renl_Ty, renl_Tm, renl_Carrier, renl_Decl]) (fun g => rfl) ?_
      conv => whnf
      refine onB_cond hj1 (fun hc7 hj1 => ?_) (fun hc7 hj1 => ?_)
      · conv => whnf
        cases hj1
        exact hR1 _ _ (Le.of [some 0, some 1, some 2] (Weak.mk' rfl (.cons (.unk _) (.cons (.same rfl) (.cons (.unk _) (.cons (.same rfl) (.cons (.unk _) (.cons (.same rfl) (.cons (.same rfl) (.u2 (.cons (.same rfl) (.u32 (.u16 .nil))))))))))) (.old (.box' (.cons (.share (renl_Carrier _ _)) (.cons (.share (renl_Decl _ _)) .nil))) (.old (.box' (.cons (.same rfl) (.cons (.same rfl) (.cons (.share (renl_Ty _ _)) .nil)))) (.old (.box' (.cons (.same rfl) (.cons (.same rfl) .nil))) .nil)))))
      · conv => whnf
        obtain ⟨x10, hx10, hj1⟩ := ob hj1
        refine call_pur (R2_holdsBool_ok _ _ _ hx10) okF_99 (.cons (.same _) .nil) (fun g => by simp only [ren, renL, renLL, renT, renL_app, renl_I, renl_S, renl_U8, renl_Ty, renl_Tm, renl_Carrier, renl_Decl]) (fun g => rfl) ?_
        conv => whnf
        cases hj1
        exact hR1 _ _ (Le.of [some 0, some 1, some 2] (Weak.mk' rfl (.cons (.unk _) (.cons (.same rfl) (.cons (.unk _) (.cons (.same rfl) (.cons (.unk _) (.cons (.same rfl) (.cons (.same rfl) (.u2 (.cons (.same rfl) (.u32 (.u16 .nil))))))))))) (.old (.box' (.cons (.share (renl_Carrier _ _)) (.cons (.share (renl_Decl _ _)) .nil))) (.old (.box' (.cons (.same rfl) (.cons (.same rfl) (.cons (.share (renl_Ty _ _)) .nil)))) (.old (.box' (.cons (.same rfl) (.cons (.same rfl) .nil))) .nil)))))
def R1_SameType_L0 (n : Nat) (rec_R1_SameType : Ty → Ty → Option Bool) (p0 : Ty) (p1 : Ty) : Nat → Int → Option (LR Unit Bool)
  | 0, _ => none
  | k + 1, s2 => (cond (decide (s2 < (p0.kids.length : Int))) ((idx p0.kids s2).bind fun (x1 : Ty) => ((idx p1.kids s2).bind fun (x2 : Ty) => ((rec_R1_SameType x1 x2).bind fun (x3 : Bool) => (cond (!x3) (some (.rt false)) (R1_SameType_L0 n rec_R1_SameType p0 p1 k (s2 + 1)))))) (some (.nx ())))
def R1_SameType_body (n : Nat) (rec_R1_SameType : Ty → Ty → Option Bool) (p0 : Ty) (p1 : Ty) : Option Bool := (((cond (p0.kind != p1.kind) (some true) (cond (!(p0.name == p1.name)) (some true) (some ((p0.kids.length : Int) != (p1.kids.length : Int))))) : Option Bool).bind fun (s1 : Bool) => (cond s1 (some false) ((R1_SameType_L0 n rec_R1_SameType p0 p1 n 0).bind (LR.el (fun (s3 : Unit) => some true) (fun r => some r)))))
def R1_SameType : Nat → Ty → Ty → Option Bool
  | 0, _, _ => none
  | n + 1, p0, p1 => R1_SameType_body n (fun p0 p1 => R1_SameType n p0 p1) p0 p1
set_option maxRecDepth 100000 in
set_option maxHeartbeats 40000000 in
theorem R1_SameType_body_ok (n : Nat) (rec_R1_SameType : Ty → Ty → Option Bool) (hrec_R1_SameType : ∀ (p0 : Ty) (p1 : Ty) (r : Bool), rec_R1_SameType p0 p1 = some r → ACalls Tryz.prog 20 [.agg [.int .i64 p0.kind, .str p0.name, .slice (List.map encTy p0.kids) .shared], .agg [.int .i64 p1.kind, .str p1.name, .slice (List.map encTy p1.kids) .shared]] [] (.bool r) []) (p0 : Ty) (p1 : Ty) (r : Bool) (h : R1_SameType_body n rec_R1_SameType p0 p1 = some r) : ACalls Tryz.prog 20 [.agg [.int .i64 p0.kind, .str p0.name, .slice (List.map encTy p0.kids) .shared], .agg [.int .i64 p1.kind, .str p1.name, .slice (List.map encTy p1.kids) .shared]] [] (.bool r) [] := by
  unfold R1_SameType_body at h
  refine acalls_start true Tryz.func20 rfl (by rw [Tryz.ntmps20]; exact Nat.le_of_ble_eq_true rfl) fun Q hQ t ht => ?_
  conv at ht => whnf
  subst ht
  refine AW.seqK fun K1 hK1 => ?_
  refine AW.region τ_ok mixedO 2 ?_
  conv => whnf
  refine hK1 _ _ ?_
  refine AW.seqK fun K2 hK2 => ?_
  refine AW.seqK fun K3 hK3 => ?_
  obtain ⟨s1, hj1, h⟩ := ob h
  have hR1 : ∀ t9 h9, Le 0 t9 h9 (u2 (.ptr 0 0 :: (.ptr 1 0 :: (u16 (u4 (u2 (.bool s1 :: (u16 (u2 (.unk :: [])))))))))) [.box [.int .i64 p0.kind, .str p0.name, .slice (List.map encTy p0.kids) .shared], .box [.int .i64 p1.kind, .str p1.name, .slice (List.map encTy p1.kids) .shared]] → K3 t9 h9 := by
    intro t9 h9 hw
    refine hK3 _ _ (AW.le hw ?_)
    clear hw
    refine AW.condS rfl h (fun hc1 h => ?_) (fun hc1 h => ?_)
    · refine AW.seqK fun K4 hK4 => ?_
      refine AW.region τ_ok mixedO 0 ?_
      conv => whnf
      refine hK4 _ _ ?_
      refine AW.ret ?_
      conv => whnf
      have e9 := Option.some.inj h
      subst e9
      refine hQ _ _ _ (retPure τ_ok (fun g => rfl) ?_)
      conv => whnf
    · refine AW.skip ?_
      conv => whnf
      refine hK2 _ _ ?_
      refine AW.seqK fun K5 hK5 => ?_
      refine AW.seqK fun K6 hK6 => ?_
      refine AW.region τ_ok mixedO 0 ?_
      conv => whnf
      refine hK6 _ _ ?_
      refine AW.block ?_
      obtain ⟨o1, ho1, h⟩ := ob h
      have hR2 : ∀ s3 : Unit, o1 = .nx s3 → ∀ t9 h9, Le 0 t9 h9 (u32 (u8 (u4 (u2 [])))) [] → K5 t9 h9 := by
        intro s3 ho
        subst ho
        dsimp only [LR.el] at h
        intro t9 h9 hw
        refine hK5 _ _ (AW.le hw ?_)
        refine AW.seqK fun K7 hK7 => ?_
        refine AW.region τ_ok mixedO 0 ?_
        conv => whnf
        refine hK7 _ _ ?_
        refine AW.ret ?_
        conv => whnf
        have e9 := Option.some.inj h
        subst e9
        refine hQ _ _ _ (retPure τ_ok (fun g => rfl) ?_)
        conv => whnf
      refine AW.loopS (R1_SameType_L0 n rec_R1_SameType p0 p1) (fun (s2 : Int) => (u2 (.ptr 0 0 :: (.ptr 1 0 :: (.unk :: (.int .i64 s2 :: (u32 (u8 [])))))))) (fun (s2 : Int) => [.box [.int .i64 p0.kind, .str p0.name, .slice (List.map encTy p0.kids) .shared], .box [.int .i64 p1.kind, .str p1.name, .slice (List.map encTy p1.kids) .shared]]) ho1 (fun _ => rfl) (Le.of [some 0, some 1] (Weak.mk' rfl (.u2 (.cons (.same rfl) (.cons (.same rfl) (.cons (.unk _) (.cons (.same rfl) (.u32 (.u8 .nil))))))) (.old (.box' (.cons (.same rfl) (.cons (.same rfl) (.cons (.share (renl_Ty _ _)) .nil)))) (.old (.box' (.cons (.same rfl) (.cons (.same rfl) (.cons (.share (renl_Ty _ _)) .nil)))) .nil)))) ?_
      intro n1 s2 hs1 KL1 hKL1
      unfold R1_SameType_L0 at hs1
      refine AW.seqK fun K8 hK8 => ?_
      refine AW.seqK fun K9 hK9 => ?_
      refine AW.region τ_ok mixedO 0 ?_
      conv => whnf
      refine len_of (l := p0.kids) (f := encTy) ?_
      conv => whnf
      refine hK9 _ _ ?_
      refine AW.condS rfl hs1 (fun hc2 hs1 => ?_) (fun hc2 hs1 => ?_)
      · refine AW.skip ?_
        conv => whnf
        refine hK8 _ _ ?_
        refine AW.seqK fun K10 hK10 => ?_
        refine AW.block ?_
        refine AW.seqK fun K11 hK11 => ?_
        refine AW.region τ_ok mixedO 0 ?_
        conv => whnf
        obtain ⟨x1, hx1, hs1⟩ := ob hs1
        refine idx_of (l := p0.kids) (f := encTy) (cs := [.int .i64 ((x1).kind), .str ((x1).name), .slice (List.map encTy ((x1).kids)) .shared]) hx1 (encTy_eq x1) rfl ?_
        conv => whnf
        obtain ⟨x2, hx2, hs1⟩ := ob hs1
        refine idx_of (l := p1.kids) (f := encTy) (cs := [.int .i64 ((x2).kind), .str ((x2).name), .slice (List.map encTy ((x2).kids)) .shared]) hx2 (encTy_eq x2) rfl ?_
        conv => whnf
        obtain ⟨x3, hx3, hs1⟩ := ob hs1
        refine call_pur (hrec_R1_SameType _ _ _ hx3) okF_20 (.cons (.same _) (.cons (.same _) .nil)) (fun g => by simp only [ren, renL, renLL, renT, renL_app, renl_I, renl_S, renl_U8, renl_Ty, renl_Tm, renl_Carrier, renl_Decl]) (fun g => rfl) ?_
        conv => whnf
        refine ⟨rfl, ?_⟩
        conv => whnf
        refine hK11 _ _ ?_
        refine AW.condS rfl hs1 (fun hc3 hs1 => ?_) (fun hc3 hs1 => ?_)
        · refine AW.seqK fun K12 hK12 => ?_
          refine AW.region τ_ok mixedO 0 ?_
          conv => whnf
          refine hK12 _ _ ?_
          refine AW.ret ?_
          conv => whnf
          have e9 := Option.some.inj hs1
          subst e9
          dsimp only [LR.el] at h
          have e9 := Option.some.inj h
          subst e9
          refine hQ _ _ _ (retPure τ_ok (fun g => rfl) ?_)
          conv => whnf
        · refine AW.skip ?_
          conv => whnf
          refine hK10 _ _ ?_
          refine AW.know 5 0 fun hv1 => ?_
          refine AW.know 29 0 fun hv2 => ?_
          refine AW.region τ_ok mixedO 0 ?_
          conv => whnf
          refine ⟨(s2 + 1), by have := wf64 hv1; have := vfl hv2; have h8 := of_decide_eq_true hc2; exact w64_id (by omega) (by omega), ?_⟩
          conv => whnf
          exact hKL1 _ _ _ hs1 (Le.of [some 0, some 1] (Weak.mk' rfl (.u2 (.cons (.same rfl) (.cons (.same rfl) (.cons (.unk _) (.cons (.same rfl) (.u32 (.u8 .nil))))))) (.old (.box' (.cons (.same rfl) (.cons (.same rfl) (.cons (.share (renl_Ty _ _)) .nil)))) (.old (.box' (.cons (.same rfl) (.cons (.same rfl) (.cons (.share (renl_Ty _ _)) .nil)))) .nil))))
      · refine AW.exit ?_
        conv => whnf
        exact hR2 _ (Option.some.inj hs1).symm _ _ (Le.of [] (Weak.mk' rfl (.u32 (.u8 (.u4 (.u2 .nil)))) .nil))
  refine AW.region τ_ok mixedO 0 ?_
  conv => whnf
  refine onB_cond hj1 (fun hc4 hj1 => ?_) (fun hc4 hj1 => ?_)
  · conv => whnf
    cases hj1
    exact hR1 _ _ (Le.of [some 0, some 1] (Weak.mk' rfl (.u2 (.cons (.same rfl) (.cons (.same rfl) (.u16 (.u4 (.u2 (.cons (.same rfl) (.u16 (.u2 (.cons (.unk _) .nil)))))))))) (.old (.box' (.cons (.same rfl) (.cons (.same rfl) (.cons (.share (renl_Ty _ _)) .nil)))) (.old (.box' (.cons (.same rfl) (.cons (.same rfl) (.cons (.share (renl_Ty _ _)) .nil)))) .nil))))
  · conv => whnf
    refine onB_cond hj1 (fun hc5 hj1 => ?_) (fun hc5 hj1 => ?_)
    · conv => whnf
      cases hj1
      exact hR1 _ _ (Le.of [some 0, some 1] (Weak.mk' rfl (.u2 (.cons (.same rfl) (.cons (.same rfl) (.u16 (.u4 (.u2 (.cons (.same rfl) (.u16 (.u2 (.cons (.unk _) .nil)))))))))) (.old (.box' (.cons (.same rfl) (.cons (.same rfl) (.cons (.share (renl_Ty _ _)) .nil)))) (.old (.box' (.cons (.same rfl) (.cons (.same rfl) (.cons (.share (renl_Ty _ _)) .nil)))) .nil))))
    · conv => whnf
      refine len_of (l := p0.kids) (f := encTy) ?_
      conv => whnf
      refine len_of (l := p1.kids) (f := encTy) ?_
      conv => whnf
      cases hj1
      exact hR1 _ _ (Le.of [some 0, some 1] (Weak.mk' rfl (.u2 (.cons (.same rfl) (.cons (.same rfl) (.u16 (.u4 (.u2 (.cons (.same rfl) (.u16 (.u2 (.cons (.unk _) .nil)))))))))) (.old (.box' (.cons (.same rfl) (.cons (.same rfl) (.cons (.share (renl_Ty _ _)) .nil)))) (.old (.box' (.cons (.same rfl) (.cons (.same rfl) (.cons (.share (renl_Ty _ _)) .nil)))) .nil))))
theorem R1_SameType_all (n : Nat) : (∀ (p0 : Ty) (p1 : Ty) (r : Bool), R1_SameType n p0 p1 = some r → ACalls Tryz.prog 20 [.agg [.int .i64 p0.kind, .str p0.name, .slice (List.map encTy p0.kids) .shared], .agg [.int .i64 p1.kind, .str p1.name, .slice (List.map encTy p1.kids) .shared]] [] (.bool r) []) := by
  induction n with
  | zero => exact (fun p0 p1 r h => by unfold R1_SameType at h; cases h)
  | succ n ih =>
    exact (fun p0 p1 r h => R1_SameType_body_ok n _ ih p0 p1 r (by unfold R1_SameType at h; exact h))
theorem R1_SameType_ok (n : Nat) (p0 : Ty) (p1 : Ty) (r : Bool) (h : R1_SameType n p0 p1 = some r) : ACalls Tryz.prog 20 [.agg [.int .i64 p0.kind, .str p0.name, .slice (List.map encTy p0.kids) .shared], .agg [.int .i64 p1.kind, .str p1.name, .slice (List.map encTy p1.kids) .shared]] [] (.bool r) [] := (R1_SameType_all n) p0 p1 r h
def R2_same_L0 (n : Nat) (p0 : List Str) (p1 : List Str) : Nat → Int → Option (LR Unit Bool)
  | 0, _ => none
  | k + 1, s1 => (cond (decide (s1 < (p0.length : Int))) ((idx p0 s1).bind fun (x1 : Str) => ((idx p1 s1).bind fun (x2 : Str) => (cond (!(x1 == x2)) (some (.rt false)) (R2_same_L0 n p0 p1 k (s1 + 1))))) (some (.nx ())))
def R2_same (n : Nat) (p0 : List Str) (p1 : List Str) : Option Bool := (cond ((p0.length : Int) != (p1.length : Int)) (some false) ((R2_same_L0 n p0 p1 n 0).bind (LR.el (fun (s2 : Unit) => some true) (fun r => some r))))
set_option maxRecDepth 100000 in
set_option maxHeartbeats 40000000 in
theorem R2_same_ok (n : Nat) (p0 : List Str) (p1 : List Str) (r : Bool) (h : R2_same n p0 p1 = some r) : ACalls Tryz.prog 108 [.slice (List.map encS p0) .shared, .slice (List.map encS p1) .shared] [] (.bool r) [] := by
  unfold R2_same at h
  refine acalls_start true Tryz.func108 rfl (by rw [Tryz.ntmps108]; exact Nat.le_of_ble_eq_true rfl) fun Q hQ t ht => ?_
  conv at ht => whnf
  subst ht
  refine AW.seqK fun K1 hK1 => ?_
  refine AW.region τ_ok mixedO 0 ?_
  conv => whnf
  refine hK1 _ _ ?_
  refine AW.seqK fun K2 hK2 => ?_
  refine AW.seqK fun K3 hK3 => ?_
  refine AW.region τ_ok mixedO 0 ?_
  conv => whnf
  refine len_of (l := p0) (f := encS) ?_
  conv => whnf
  refine len_of (l := p1) (f := encS) ?_
  conv => whnf
  refine hK3 _ _ ?_
  refine AW.condS rfl h (fun hc1 h => ?_) (fun hc1 h => ?_)
  · refine AW.seqK fun K4 hK4 => ?_
    refine AW.region τ_ok mixedO 0 ?_
    conv => whnf
    refine hK4 _ _ ?_
    refine AW.ret ?_
    conv => whnf
    have e9 := Option.some.inj h
    subst e9
    refine hQ _ _ _ (retPure τ_ok (fun g => rfl) ?_)
    conv => whnf
  · refine AW.skip ?_
    conv => whnf
    refine hK2 _ _ ?_
    refine AW.seqK fun K5 hK5 => ?_
    refine AW.seqK fun K6 hK6 => ?_
    refine AW.region τ_ok mixedO 0 ?_
    conv => whnf
    refine hK6 _ _ ?_
    refine AW.block ?_
    obtain ⟨o1, ho1, h⟩ := ob h
    have hR1 : ∀ s2 : Unit, o1 = .nx s2 → ∀ t9 h9, Le 0 t9 h9 (u16 (u8 (u2 []))) [] → K5 t9 h9 := by
      intro s2 ho
      subst ho
      dsimp only [LR.el] at h
      intro t9 h9 hw
      refine hK5 _ _ (AW.le hw ?_)
      refine AW.seqK fun K7 hK7 => ?_
      refine AW.region τ_ok mixedO 0 ?_
      conv => whnf
      refine hK7 _ _ ?_
      refine AW.ret ?_
      conv => whnf
      have e9 := Option.some.inj h
      subst e9
      refine hQ _ _ _ (retPure τ_ok (fun g => rfl) ?_)
      conv => whnf
    refine AW.loopS (R2_same_L0 n p0 p1) (fun (s1 : Int) => (.slice (List.map encS p0) .shared :: (.slice (List.map encS p1) .shared :: (u2 (.unk :: (.int .i64 s1 :: (u16 (u4 [])))))))) (fun (s1 : Int) => []) ho1 (fun _ => rfl) (Le.of [] (Weak.mk' rfl (.cons (.share (renl_S _ _)) (.cons (.share (renl_S _ _)) (.u2 (.cons (.unk _) (.cons (.same rfl) (.u16 (.u4 .nil))))))) .nil)) ?_
    intro n1 s1 hs1 KL1 hKL1
    unfold R2_same_L0 at hs1
    refine AW.seqK fun K8 hK8 => ?_
    refine AW.seqK fun K9 hK9 => ?_
    refine AW.region τ_ok mixedO 0 ?_
    conv => whnf
    refine len_of (l := p0) (f := encS) ?_
    conv => whnf
    refine hK9 _ _ ?_
    refine AW.condS rfl hs1 (fun hc2 hs1 => ?_) (fun hc2 hs1 => ?_)
    · refine AW.skip ?_
      conv => whnf
      refine hK8 _ _ ?_
      refine AW.seqK fun K10 hK10 => ?_
      refine AW.block ?_
      refine AW.seqK fun K11 hK11 => ?_
      refine AW.region τ_ok mixedO 0 ?_
      conv => whnf
      obtain ⟨x1, hx1, hs1⟩ := ob hs1
      refine idx_of (l := p0) (f := encS) (cs := [.str (x1)]) hx1 (rfl) rfl ?_
      conv => whnf
      obtain ⟨x2, hx2, hs1⟩ := ob hs1
      refine idx_of (l := p1) (f := encS) (cs := [.str (x2)]) hx2 (rfl) rfl ?_
      conv => whnf
      refine ⟨rfl, ?_⟩
      conv => whnf
      refine hK11 _ _ ?_
      refine AW.condS rfl hs1 (fun hc3 hs1 => ?_) (fun hc3 hs1 => ?_)
      · refine AW.seqK fun K12 hK12 => ?_
        refine AW.region τ_ok mixedO 0 ?_
        conv => whnf
        refine hK12 _ _ ?_
        refine AW.ret ?_
        conv => whnf
        have e9 := Option.some.inj hs1
        subst e9
        dsimp only [LR.el] at h
        have e9 := Option.some.inj h
        subst e9
        refine hQ _ _ _ (retPure τ_ok (fun g => rfl) ?_)
        conv => whnf
      · refine AW.skip ?_
        conv => whnf
        refine hK10 _ _ ?_
        refine AW.know 5 0 fun hv1 => ?_
        refine AW.know 0 0 fun hv2 => ?_
        refine AW.region τ_ok mixedO 0 ?_
        conv => whnf
        refine ⟨(s1 + 1), by have := wf64 hv1; have := vfl hv2; have h8 := of_decide_eq_true hc2; exact w64_id (by omega) (by omega), ?_⟩
        conv => whnf
        exact hKL1 _ _ _ hs1 (Le.of [] (Weak.mk' rfl (.cons (.share (renl_S _ _)) (.cons (.share (renl_S _ _)) (.u2 (.cons (.unk _) (.cons (.same rfl) (.u16 (.u4 .nil))))))) .nil))
    · refine AW.exit ?_
      conv => whnf
      exact hR1 _ (Option.some.inj hs1).symm _ _ (Le.of [] (Weak.mk' rfl (.u16 (.u8 (.u2 .nil))) .nil))
def R2_SameCarrier (n : Nat) (p0 : Carrier) (p1 : Carrier) : Option Bool := (((cond (p0.name == p1.name) ((R2_same n p0.elems p1.elems).bind fun (x1 : Bool) => some x1) (some false)) : Option Bool).bind fun (s1 : Bool) => some s1)
set_option maxRecDepth 100000 in
set_option maxHeartbeats 40000000 in
theorem R2_SameCarrier_ok (n : Nat) (p0 : Carrier) (p1 : Carrier) (r : Bool) (h : R2_SameCarrier n p0 p1 = some r) : ACalls Tryz.prog 119 [.agg [.str p0.name, .slice (List.map encS p0.elems) .shared], .agg [.str p1.name, .slice (List.map encS p1.elems) .shared]] [] (.bool r) [] := by
  unfold R2_SameCarrier at h
  refine acalls_start true Tryz.func119 rfl (by rw [Tryz.ntmps119]; exact Nat.le_of_ble_eq_true rfl) fun Q hQ t ht => ?_
  conv at ht => whnf
  subst ht
  refine AW.seqK fun K1 hK1 => ?_
  refine AW.region τ_ok mixedO 2 ?_
  conv => whnf
  refine hK1 _ _ ?_
  refine AW.seqK fun K2 hK2 => ?_
  obtain ⟨s1, hj1, h⟩ := ob h
  have hR1 : ∀ t9 h9, Le 0 t9 h9 (u4 (.bool s1 :: (u8 (u4 [])))) [] → K2 t9 h9 := by
    intro t9 h9 hw
    refine hK2 _ _ (AW.le hw ?_)
    clear hw
    refine AW.ret ?_
    conv => whnf
    have e9 := Option.some.inj h
    subst e9
    refine hQ _ _ _ (retPure τ_ok (fun g => rfl) ?_)
    conv => whnf
  refine AW.region τ_ok mixedO 0 ?_
  conv => whnf
  refine onB_cond hj1 (fun hc1 hj1 => ?_) (fun hc1 hj1 => ?_)
  · conv => whnf
    obtain ⟨x1, hx1, hj1⟩ := ob hj1
    refine call_pur (R2_same_ok _ _ _ _ hx1) okF_108 (.cons (.same _) (.cons (.same _) .nil)) (fun g => by simp only [ren, renL, renLL, renT, renL_app, renl_I, renl_S, renl_U8, renl_Ty, renl_Tm, renl_Carrier, renl_Decl]) (fun g => rfl) ?_
    conv => whnf
    cases hj1
    exact hR1 _ _ (Le.of [] (Weak.mk' rfl (.u4 (.cons (.same rfl) (.u8 (.u4 .nil)))) .nil))
  · conv => whnf
    cases hj1
    exact hR1 _ _ (Le.of [] (Weak.mk' rfl (.u4 (.cons (.same rfl) (.u8 (.u4 .nil)))) .nil))
end Abs
end Go.Proofs.YtiiaccpcoclklaaGreat
namespace Go.Proofs.YtiiaccpcoclklaaGreat
namespace Abs
open Go

def eqT : Tag → Tag → Bool
  | .shared, .shared => true
  | .nils, .nils => true
  | .tip l z, .tip l' z' => Nat.beq l l' && Nat.beq z z'
  | _, _ => false
def eqB : List UInt8 → List UInt8 → Bool
  | [], [] => true
  | a :: s, b :: t => Nat.beq a.toNat b.toNat && eqB s t
  | _, _ => false
mutual
def eqV : AV → AV → Bool
  | .unk, .unk => true
  | .int k n, .int k' n' => decide (k = k') && decide (n = n')
  | .bool b, .bool b' => b == b'
  | .str s, .str s' => eqB s s'
  | .nilp, .nilp => true
  | .ptr l o, .ptr l' o' => Nat.beq l l' && Nat.beq o o'
  | .slice es t, .slice es' t' => eqT t t' && eqLL es es'
  | .agg cs, .agg cs' => eqL cs cs'
  | .tup cs, .tup cs' => eqL cs cs'
  | .func f cs, .func f' cs' => Nat.beq f f' && eqL cs cs'
  | .mapr l, .mapr l' => Nat.beq l l'
  | .nilFunc, .nilFunc => true
  | _, _ => false
def eqL : List AV → List AV → Bool
  | [], [] => true
  | c :: cs, c' :: cs' => eqV c c' && eqL cs cs'
  | _, _ => false
def eqLL : List (List AV) → List (List AV) → Bool
  | [], [] => true
  | c :: cs, c' :: cs' => eqL c c' && eqLL cs cs'
  | _, _ => false
end
def eqO : AObj → AObj → Bool
  | .box cs, .box cs' => eqL cs cs'
  | .tip n, .tip n' => Nat.beq n n'
  | .dead, .dead => true
  | _, _ => false
def eqOs : List AObj → List AObj → Bool
  | [], [] => true
  | c :: cs, c' :: cs' => eqO c c' && eqOs cs cs'
  | _, _ => false

theorem eqT_ok {x y : Tag} (h : eqT x y = true) : x = y := by
  cases x <;> cases y <;> simp only [eqT, Bool.and_eq_true, Bool.false_eq_true] at h
  · rfl
  · rfl
  · rw [Nat.eq_of_beq_eq_true h.1, Nat.eq_of_beq_eq_true h.2]
theorem eqB_ok : ∀ {x y : List UInt8}, eqB x y = true → x = y
  | [], [], _ => rfl
  | a :: s, b :: t, h => by
    simp only [eqB, Bool.and_eq_true] at h
    rw [eqB_ok h.2, UInt8.toNat_inj.1 (Nat.eq_of_beq_eq_true h.1)]
mutual
theorem eqV_ok : ∀ {x y : AV}, eqV x y = true → x = y
  | .unk, y, h => by cases y <;> simp [eqV] at h ⊢
  | .int k n, y, h => by cases y <;> simp [eqV] at h ⊢; exact h
  | .bool b, y, h => by cases y <;> simp [eqV] at h ⊢; exact h
  | .str s, y, h => by cases y <;> simp only [eqV, Bool.false_eq_true] at h; rw [eqB_ok h]
  | .nilp, y, h => by cases y <;> simp [eqV] at h ⊢
  | .ptr l o, y, h => by
    cases y <;> simp only [eqV, Bool.false_eq_true, Bool.and_eq_true] at h
    rw [Nat.eq_of_beq_eq_true h.1, Nat.eq_of_beq_eq_true h.2]
  | .slice es t, y, h => by
    cases y <;> simp only [eqV, Bool.false_eq_true, Bool.and_eq_true] at h
    rw [eqT_ok h.1, eqLL_ok h.2]
  | .agg cs, y, h => by cases y <;> simp only [eqV, Bool.false_eq_true] at h; rw [eqL_ok h]
  | .tup cs, y, h => by cases y <;> simp only [eqV, Bool.false_eq_true] at h; rw [eqL_ok h]
  | .func f cs, y, h => by
    cases y <;> simp only [eqV, Bool.false_eq_true, Bool.and_eq_true] at h
    rw [Nat.eq_of_beq_eq_true h.1, eqL_ok h.2]
  | .mapr l, y, h => by cases y <;> simp only [eqV, Bool.false_eq_true] at h; rw [Nat.eq_of_beq_eq_true h]
  | .nilFunc, y, h => by cases y <;> simp [eqV] at h ⊢
  | .eptr _, y, h => by cases y <;> simp [eqV] at h
  | .psl _ _ _, y, h => by cases y <;> simp [eqV] at h
  | .flist _, y, h => by cases y <;> simp [eqV] at h
theorem eqL_ok : ∀ {x y : List AV}, eqL x y = true → x = y
  | [], y, h => by cases y <;> simp [eqL] at h ⊢
  | c :: cs, y, h => by
    cases y <;> simp only [eqL, Bool.false_eq_true, Bool.and_eq_true] at h
    rw [eqV_ok h.1, eqL_ok h.2]
theorem eqLL_ok : ∀ {x y : List (List AV)}, eqLL x y = true → x = y
  | [], y, h => by cases y <;> simp [eqLL] at h ⊢
  | c :: cs, y, h => by
    cases y <;> simp only [eqLL, Bool.false_eq_true, Bool.and_eq_true] at h
    rw [eqL_ok h.1, eqLL_ok h.2]
end
theorem eqO_ok {x y : AObj} (h : eqO x y = true) : x = y := by
  cases x <;> cases y <;> simp only [eqO, Bool.false_eq_true] at h
  · rw [eqL_ok h]
  · rw [Nat.eq_of_beq_eq_true h]
  · rfl
theorem eqOs_ok : ∀ {x y : List AObj}, eqOs x y = true → x = y
  | [], y, h => by cases y <;> simp [eqOs] at h ⊢
  | c :: cs, y, h => by
    cases y <;> simp only [eqOs, Bool.false_eq_true, Bool.and_eq_true] at h
    rw [eqO_ok h.1, eqOs_ok h.2]

structure Known where
  f : Nat
  args : List AV
  H : List AObj
  res : AV
  H' : List AObj

def known : List Known → CallT → CallT
  | [], E, f, args, H => E f args H
  | e :: m, E, f, args, H => bif Nat.beq e.f f && (eqL e.args args && eqOs e.H H) then some (e.res, e.H') else known m E f args H

theorem known_ok {P : Program} {E : CallT} (hE : ∀ f args H r, E f args H = some r → ACalls P f args H r.1 r.2) : ∀ (m : List Known), (∀ e ∈ m, ACalls P e.f e.args e.H e.res e.H') → ∀ f args H r, known m E f args H = some r → ACalls P f args H r.1 r.2
  | [], _, f, args, H, r, h => hE f args H r h
  | e :: m, hm, f, args, H, r, h => by
    unfold known at h
    cases hb : (Nat.beq e.f f && (eqL e.args args && eqOs e.H H)) with
    | false => rw [hb] at h; exact known_ok hE m (fun e he => hm e (List.mem_cons_of_mem _ he)) f args H r h
    | true =>
      rw [hb] at h
      simp only [cond_true, Option.some.injEq] at h
      subst h
      simp only [Bool.and_eq_true] at hb
      have := hm e (by simp)
      rw [Nat.eq_of_beq_eq_true hb.1, eqL_ok hb.2.1, eqOs_ok hb.2.2] at this
      exact this

end Abs
end Go.Proofs.YtiiaccpcoclklaaGreat
namespace Go.Proofs.YtiiaccpcoclklaaGreat
namespace Abs
open Go Go.Proofs

noncomputable def sort3 (H : List AObj) : AObj → Option (AV × List AObj)
  | .mp es => bif Nat.ble (es.length * 16) 140737488355328 then some (.slice (((es.map (·.1)).mergeSort leS).map encS) .shared, H) else none
  | _ => none
noncomputable def sort2 (H : List AObj) : AObj → Option (AV × List AObj)
  | .box [.mapr m] => sort3 H (nthO H m)
  | _ => none
noncomputable def sort1 (H : List AObj) : List AV → Option (AV × List AObj)
  | [.func g [.ptr p o]] => bif Nat.beq g 185 && Nat.beq o 0 then sort2 H (nthO H p) else none
  | _ => none
noncomputable def sortE : CallT := fun f args H => bif Nat.beq f 104 then sort1 H args else none

theorem sortE_ok : ∀ f args H r, sortE f args H = some r → ACalls Tryz.prog f args H r.1 r.2 := by
  intro f args H r h
  unfold sortE at h
  cases hf : Nat.beq f 104 with
  | false => rw [hf] at h; cases h
  | true =>
    rw [hf] at h
    simp only [cond_true] at h
    rw [Nat.eq_of_beq_eq_true hf]
    unfold sort1 at h
    split at h
    · rename_i g p o
      cases hb : (Nat.beq g 185 && Nat.beq o 0) with
      | false => rw [hb] at h; cases h
      | true =>
        rw [hb] at h
        simp only [cond_true] at h
        simp only [Bool.and_eq_true] at hb
        rw [Nat.eq_of_beq_eq_true hb.1, Nat.eq_of_beq_eq_true hb.2]
        unfold sort2 at h
        split at h
        · rename_i m hp
          unfold sort3 at h
          split at h
          · rename_i es hm
            cases hl : Nat.ble (es.length * 16) 140737488355328 with
            | false => rw [hl] at h; cases h
            | true =>
              rw [hl] at h
              simp only [cond_true, Option.some.injEq] at h
              subst h
              rw [nthO_eq] at hp hm
              exact sorted_calls H p m es hp hm (Nat.le_of_ble_eq_true hl)
          · cases h
        · cases h
    · cases h

def okB (f : Nat) : Bool := Nat.blt 1 f && Nat.blt f 302
theorem okB_all : ((List.range 302).all fun f => !(Nat.blt 1 f) || okFn Tryz.prog f) = true := by kernel_rfl
theorem okB_ok : ∀ f, okB f = true → okFn Tryz.prog f = true := by
  intro f h
  simp only [okB, Bool.and_eq_true] at h
  have := List.all_eq_true.1 okB_all f (List.mem_range.2 (Nat.le_of_ble_eq_true h.2))
  simpa [h.1] using this

/-- The run of the program, with what is known already. -/
noncomputable def runK (m : List Known) (f : Nat) (args : List AV) (H : List AObj) : Option (AV × List AObj) := xcall Tryz.prog (known m sortE) okB [(60, 59, 1)] [67, 131] 200 f args H
theorem runK_ok {m : List Known} (hm : ∀ e ∈ m, ACalls Tryz.prog e.f e.args e.H e.res e.H') {f : Nat} {args : List AV} {H : List AObj} {r : AV} {H' : List AObj} (h : runK m f args H = some (r, H')) : ACalls Tryz.prog f args H r H' :=
  xcall_ok mixedO (known_ok sortE_ok m hm) okB_ok _ _ _ _ _ h
end Abs
end Go.Proofs.YtiiaccpcoclklaaGreat
namespace Go.Proofs.YtiiaccpcoclklaaGreat
namespace Abs
open Go Go.Proofs
def awZ : AV := .slice [] .shared
def awN (s : List UInt8) : List AV := [.int .i64 20, .str s, .int .i64 0, .int .i64 0, .str [], awZ, awZ]
def awT : AV := .agg [.int .i64 22, .str [], .int .i64 0, .int .i64 0, .str [], .slice [] .nils, .slice [[.int .i64 54, .str [], .int .i64 0, .int .i64 0, .str [], awZ, .slice [awN [102], awN [97]] .shared], [.int .i64 19, .str [], .int .i64 1, .int .i64 0, .str [], awZ, awZ]] (.tip 0 7)]
def kParse : Known := ⟨29, [.str [102, 40, 97, 41, 32, 43, 32, 49]], [], .tup [awT, .int .i64 0, .int .i64 0], [.tip 14]⟩
theorem kParse_run : runK [] kParse.f kParse.args kParse.H = some (kParse.res, kParse.H') := by kernel_rfl
theorem kParse_ok : ACalls Tryz.prog kParse.f kParse.args kParse.H kParse.res kParse.H' := runK_ok (fun _ h => by cases h) kParse_run
end Abs
end Go.Proofs.YtiiaccpcoclklaaGreat
namespace Go.Proofs.YtiiaccpcoclklaaGreat
namespace Abs
open Go Go.Proofs
def awEnv : AV := .agg [.slice [[.str [65], awZ]] (.tip 0 2), .slice [[.str [97], .int .i64 3, .str [65], awZ], [.str [102], .int .i64 5, .str [], .slice [[.int .i64 4, .str [], .slice [[.int .i64 3, .str [65], awZ], [.int .i64 1, .str [], awZ]] .shared]] .shared]] (.tip 1 4)]
def awT2 : AV := .agg [.int .i64 22, .str [], .int .i64 0, .int .i64 0, .str [], .slice [] .nils, .slice [[.int .i64 54, .str [], .int .i64 0, .int .i64 0, .str [], awZ, .slice [awN [102], awN [97]] .shared], [.int .i64 19, .str [], .int .i64 1, .int .i64 0, .str [], awZ, awZ]] (.tip 2 7)]
def kTypeOf : Known := ⟨18, [awEnv, awT2], [.tip 2, .tip 8, .tip 14], .tup [.agg [.int .i64 1, .str [], .slice [] .nils], .slice [] .nils, .int .i64 0], [.tip 2, .tip 8, .tip 14]⟩
theorem kTypeOf_run : runK [] kTypeOf.f kTypeOf.args kTypeOf.H = some (kTypeOf.res, kTypeOf.H') := by kernel_rfl
theorem kTypeOf_ok : ACalls Tryz.prog kTypeOf.f kTypeOf.args kTypeOf.H kTypeOf.res kTypeOf.H' := runK_ok (fun _ h => by cases h) kTypeOf_run
end Abs
end Go.Proofs.YtiiaccpcoclklaaGreat
namespace Go.Proofs.YtiiaccpcoclklaaGreat
namespace Abs
open Go Go.Proofs
theorem awake_run : runK [kParse, kTypeOf] 17 [] [] = some (.bool true, []) := by kernel_rfl
theorem awake_calls : ACalls Tryz.prog 17 [] [] (.bool true) [] := runK_ok (m := [kParse, kTypeOf]) (fun e h => by
  rcases List.mem_cons.1 h with rfl | h
  · exact kParse_ok
  · rcases List.mem_cons.1 h with rfl | h
    · exact kTypeOf_ok
    · cases h) awake_run
theorem okF_17 : okFn Tryz.prog 17 = true := by kernel_rfl
def L2_awake (_ : Nat) : Option Bool := some true
theorem L2_awake_ok (n : Nat) (r : Bool) (h : L2_awake n = some r) : ACalls Tryz.prog 17 [] [] (.bool r) [] := by
  have e := Option.some.inj h
  subst e
  exact awake_calls
end Abs
end Go.Proofs.YtiiaccpcoclklaaGreat
