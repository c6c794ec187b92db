/-
  Plain functions and the contracts of Go functions by them (printed by gen.py). Conditions: none. Plain functions and the contracts of Go functions by them (printed by gen.py). Conditions: none. Plain functions and the contracts of Go functions by them (printed by gen.py). Conditions: none.
-/
import Derived.Test.YtiiaccpcoclklaaGreatBTypingUnionsProof5
import Derived.KernelRfl
import Derived.Test.YtiiaccpcoclklaaGreatBTypingUnionsProof9
set_option linter.unusedSimpArgs false
set_option linter.unusedVariables false
namespace Go.Proofs.YtiiaccpcoclklaaGreat
namespace Abs
open Go Go.Proofs
def R2_holdsBool_L0 (n : Nat) (rec_R2_holdsBool : Ty → Option Bool) (p0 : Ty) : Nat → Int → Option (LR Unit Bool)
  | 0, _ => none
  | k + 1, s1 => (cond (decide (s1 < (p0.kids.length : Int))) ((idx p0.kids s1).bind fun (x1 : Ty) => ((rec_R2_holdsBool x1).bind fun (x2 : Bool) => (cond x2 (some (.rt true)) (R2_holdsBool_L0 n rec_R2_holdsBool p0 k (s1 + 1))))) (some (.nx ())))
def R2_holdsBool_body (n : Nat) (rec_R2_holdsBool : Ty → Option Bool) (p0 : Ty) : Option Bool := (cond (p0.kind == 2) (some true) ((R2_holdsBool_L0 n rec_R2_holdsBool p0 n 0).bind (LR.el (fun (s2 : Unit) => some false) (fun r => some r))))
def R2_holdsBool : Nat → Ty → Option Bool
  | 0, _ => none
  | n + 1, p0 => R2_holdsBool_body n (fun p0 => R2_holdsBool n p0) p0
set_option maxRecDepth 100000 in
set_option maxHeartbeats 40000000 in
theorem R2_holdsBool_body_ok (n : Nat) (rec_R2_holdsBool : Ty → Option Bool) (hrec_R2_holdsBool : ∀ (p0 : Ty) (r : Bool), rec_R2_holdsBool p0 = some r → ACalls Tryz.prog 99 [.agg [.int .i64 p0.kind, .str p0.name, .slice (List.map encTy p0.kids) .shared]] [] (.bool r) []) (p0 : Ty) (r : Bool) (h : R2_holdsBool_body n rec_R2_holdsBool p0 = some r) : ACalls Tryz.prog 99 [.agg [.int .i64 p0.kind, .str p0.name, .slice (List.map encTy p0.kids) .shared]] [] (.bool r) [] := by
  unfold R2_holdsBool_body at h
  refine acalls_start true Tryz.func99 rfl (by rw [Tryz.ntmps99]; exact Nat.le_of_ble_eq_true rfl) fun Q hQ t ht => ?_
  conv at ht => whnf
  subst ht
  refine AW.seqK fun K1 hK1 => ?_
  refine AW.region τ_ok mixedO 1 ?_
  conv => whnf
  refine hK1 _ _ ?_
  refine AW.seqK fun K2 hK2 => ?_
  refine AW.seqK fun K3 hK3 => ?_
  refine AW.region τ_ok mixedO 0 ?_
  conv => whnf
  refine hK3 _ _ ?_
  refine AW.condS rfl h (fun hc1 h => ?_) (fun hc1 h => ?_)
  · refine AW.seqK fun K4 hK4 => ?_
    refine AW.region τ_ok mixedO 0 ?_
    conv => whnf
    refine hK4 _ _ ?_
    refine AW.ret ?_
    conv => whnf
    have e9 := Option.some.inj h
    subst e9
    refine hQ _ _ _ (retPure τ_ok (fun g => rfl) ?_)
    conv => whnf
  · refine AW.skip ?_
    conv => whnf
    refine hK2 _ _ ?_
    refine AW.seqK fun K5 hK5 => ?_
    refine AW.seqK fun K6 hK6 => ?_
    refine AW.region τ_ok mixedO 0 ?_
    conv => whnf
    refine hK6 _ _ ?_
    refine AW.block ?_
    obtain ⟨o1, ho1, h⟩ := ob h
    have hR1 : ∀ s2 : Unit, o1 = .nx s2 → ∀ t9 h9, Le 0 t9 h9 (u16 (u4 [])) [] → K5 t9 h9 := by
      intro s2 ho
      subst ho
      dsimp only [LR.el] at h
      intro t9 h9 hw
      refine hK5 _ _ (AW.le hw ?_)
      refine AW.seqK fun K7 hK7 => ?_
      refine AW.region τ_ok mixedO 0 ?_
      conv => whnf
      refine hK7 _ _ ?_
      refine AW.ret ?_
      conv => whnf
      have e9 := Option.some.inj h
      subst e9
      refine hQ _ _ _ (retPure τ_ok (fun g => rfl) ?_)
      conv => whnf
    refine AW.loopS (R2_holdsBool_L0 n rec_R2_holdsBool p0) (fun (s1 : Int) => (.unk :: (.ptr 0 0 :: (.unk :: (.int .i64 s1 :: (u16 [])))))) (fun (s1 : Int) => [.box [.int .i64 p0.kind, .str p0.name, .slice (List.map encTy p0.kids) .shared]]) ho1 (fun _ => rfl) (Le.of [some 0] (Weak.mk' rfl (.cons (.unk _) (.cons (.same rfl) (.cons (.unk _) (.cons (.same rfl) (.u16 .nil))))) (.old (.box' (.cons (.same rfl) (.cons (.same rfl) (.cons (.share (renl_Ty _ _)) .nil)))) .nil))) ?_
    intro n1 s1 hs1 KL1 hKL1
    unfold R2_holdsBool_L0 at hs1
    refine AW.seqK fun K8 hK8 => ?_
    refine AW.seqK fun K9 hK9 => ?_
    refine AW.region τ_ok mixedO 0 ?_
    conv => whnf
    refine len_of (l := p0.kids) (f := encTy) ?_
    conv => whnf
    refine hK9 _ _ ?_
    refine AW.condS rfl hs1 (fun hc2 hs1 => ?_) (fun hc2 hs1 => ?_)
    · refine AW.skip ?_
      conv => whnf
      refine hK8 _ _ ?_
      refine AW.seqK fun K10 hK10 => ?_
      refine AW.block ?_
      refine AW.seqK fun K11 hK11 => ?_
      refine AW.region τ_ok mixedO 0 ?_
      conv => whnf
      obtain ⟨x1, hx1, hs1⟩ := ob hs1
      refine idx_of (l := p0.kids) (f := encTy) (cs := [.int .i64 ((x1).kind), .str ((x1).name), .slice (List.map encTy ((x1).kids)) .shared]) hx1 (encTy_eq x1) rfl ?_
      conv => whnf
      obtain ⟨x2, hx2, hs1⟩ := ob hs1
      refine call_pur (hrec_R2_holdsBool _ _ hx2) okF_99 (.cons (.same _) .nil) (fun g => by simp only [ren, renL, renLL, renT, renL_app, renl_I, renl_S, renl_U8, renl_Ty, renl_Tm, renl_Carrier, renl_Decl]) (fun g => rfl) ?_
      conv => whnf
      refine hK11 _ _ ?_
      refine AW.condS rfl hs1 (fun hc3 hs1 => ?_) (fun hc3 hs1 => ?_)
      · refine AW.seqK fun K12 hK12 => ?_
        refine AW.region τ_ok mixedO 0 ?_
        conv => whnf
        refine hK12 _ _ ?_
        refine AW.ret ?_
        conv => whnf
        have e9 := Option.some.inj hs1
        subst e9
        dsimp only [LR.el] at h
        have e9 := Option.some.inj h
        subst e9
        refine hQ _ _ _ (retPure τ_ok (fun g => rfl) ?_)
        conv => whnf
      · refine AW.skip ?_
        conv => whnf
        refine hK10 _ _ ?_
        refine AW.know 3 0 fun hv1 => ?_
        refine AW.know 9 0 fun hv2 => ?_
        refine AW.region τ_ok mixedO 0 ?_
        conv => whnf
        refine ⟨(s1 + 1), by have := wf64 hv1; have := vfl hv2; have h8 := of_decide_eq_true hc2; exact w64_id (by omega) (by omega), ?_⟩
        conv => whnf
        exact hKL1 _ _ _ hs1 (Le.of [some 0] (Weak.mk' rfl (.cons (.unk _) (.cons (.same rfl) (.cons (.unk _) (.cons (.same rfl) (.u16 .nil))))) (.old (.box' (.cons (.same rfl) (.cons (.same rfl) (.cons (.share (renl_Ty _ _)) .nil)))) .nil)))
    · refine AW.exit ?_
      conv => whnf
      exact hR1 _ (Option.some.inj hs1).symm _ _ (Le.of [] (Weak.mk' rfl (.u16 (.u4 .nil)) .nil))
theorem R2_holdsBool_all (n : Nat) : (∀ (p0 : Ty) (r : Bool), R2_holdsBool n p0 = some r → ACalls Tryz.prog 99 [.agg [.int .i64 p0.kind, .str p0.name, .slice (List.map encTy p0.kids) .shared]] [] (.bool r) []) := by
  induction n with
  | zero => exact (fun p0 r h => by unfold R2_holdsBool at h; cases h)
  | succ n ih =>
    exact (fun p0 r h => R2_holdsBool_body_ok n _ ih p0 r (by unfold R2_holdsBool at h; exact h))
theorem R2_holdsBool_ok (n : Nat) (p0 : Ty) (r : Bool) (h : R2_holdsBool n p0 = some r) : ACalls Tryz.prog 99 [.agg [.int .i64 p0.kind, .str p0.name, .slice (List.map encTy p0.kids) .shared]] [] (.bool r) [] := (R2_holdsBool_all n) p0 r h
def R2_carriers_L0 (n : Nat) (rec_R2_carriers : Ty → Option (List Str)) (p0 : Ty) : Nat → ((List Str) × Int) → Option (LR (List Str) (List Str))
  | 0, _ => none
  | k + 1, s1 => (cond (decide (s1.2 < (p0.kids.length : Int))) ((idx p0.kids s1.2).bind fun (x1 : Ty) => ((rec_R2_carriers x1).bind fun (x2 : List Str) => ((app 16 s1.1 x2).bind fun (x3 : List Str) => R2_carriers_L0 n rec_R2_carriers p0 k (x3, (s1.2 + 1))))) (some (.nx s1.1)))
def R2_carriers_body (n : Nat) (rec_R2_carriers : Ty → Option (List Str)) (p0 : Ty) : Option (List Str) := (cond (p0.kind == 3) (some ([p0.name])) ((R2_carriers_L0 n rec_R2_carriers p0 n (([] : List Str), 0)).bind (LR.el (fun (s2 : List Str) => some s2) (fun r => some r))))
def R2_carriers : Nat → Ty → Option (List Str)
  | 0, _ => none
  | n + 1, p0 => R2_carriers_body n (fun p0 => R2_carriers n p0) p0
set_option maxRecDepth 100000 in
set_option maxHeartbeats 40000000 in
theorem R2_carriers_body_ok (n : Nat) (rec_R2_carriers : Ty → Option (List Str)) (hrec_R2_carriers : ∀ (p0 : Ty) (r : List Str), rec_R2_carriers p0 = some r → ACalls Tryz.prog 107 [.agg [.int .i64 p0.kind, .str p0.name, .slice (List.map encTy p0.kids) .shared]] [] (.slice (List.map encS r) .shared) []) (p0 : Ty) (r : List Str) (h : R2_carriers_body n rec_R2_carriers p0 = some r) : ACalls Tryz.prog 107 [.agg [.int .i64 p0.kind, .str p0.name, .slice (List.map encTy p0.kids) .shared]] [] (.slice (List.map encS r) .shared) [] := by
  unfold R2_carriers_body at h
  refine acalls_start true Tryz.func107 rfl (by rw [Tryz.ntmps107]; exact Nat.le_of_ble_eq_true rfl) fun Q hQ t ht => ?_
  conv at ht => whnf
  subst ht
  refine AW.seqK fun K1 hK1 => ?_
  refine AW.region τ_ok mixedO 1 ?_
  conv => whnf
  refine hK1 _ _ ?_
  refine AW.seqK fun K2 hK2 => ?_
  refine AW.seqK fun K3 hK3 => ?_
  refine AW.region τ_ok mixedO 0 ?_
  conv => whnf
  refine hK3 _ _ ?_
  refine AW.condS rfl h (fun hc1 h => ?_) (fun hc1 h => ?_)
  · refine AW.seqK fun K4 hK4 => ?_
    refine AW.region τ_ok mixedO 1 ?_
    conv => whnf
    refine ⟨List.map encS ([p0.name]), rfl, ?_⟩
    conv => whnf
    refine hK4 _ _ ?_
    refine AW.ret ?_
    conv => whnf
    have e9 := Option.some.inj h
    subst e9
    refine hQ _ _ _ (retPure τ_ok (fun g => by simp only [ren, renL, renLL, renT, renL_app, renl_I, renl_S, renl_U8, renl_Ty, renl_Tm, renl_Carrier, renl_Decl]) ?_)
    conv => whnf
    try rfl
  · refine AW.skip ?_
    conv => whnf
    refine hK2 _ _ ?_
    refine AW.seqK fun K5 hK5 => ?_
    refine AW.region τ_ok mixedO 0 ?_
    conv => whnf
    refine hK5 _ _ ?_
    refine AW.seqK fun K6 hK6 => ?_
    refine AW.seqK fun K7 hK7 => ?_
    refine AW.region τ_ok mixedO 0 ?_
    conv => whnf
    refine hK7 _ _ ?_
    refine AW.block ?_
    obtain ⟨o1, ho1, h⟩ := ob h
    have hR1 : ∀ s2 : List Str, o1 = .nx s2 → ∀ t9 h9, Le 0 t9 h9 (u2 (.unk :: (.slice (List.map encS s2) (.tip 0 1) :: (u16 (u4 (u2 (.unk :: []))))))) [.tip (List.length s2 * 1)] → K6 t9 h9 := by
      intro s2 ho
      subst ho
      dsimp only [LR.el] at h
      intro t9 h9 hw
      refine hK6 _ _ (AW.le hw ?_)
      refine AW.seqK fun K8 hK8 => ?_
      refine AW.region τ_ok mixedO 0 ?_
      conv => whnf
      refine hK8 _ _ ?_
      refine AW.ret ?_
      conv => whnf
      have e9 := Option.some.inj h
      subst e9
      refine hQ _ _ _ (retPure τ_ok (fun g => by simp only [ren, renL, renLL, renT, renL_app, renl_I, renl_S, renl_U8, renl_Ty, renl_Tm, renl_Carrier, renl_Decl]) ?_)
      conv => whnf
      try rfl
    refine AW.loopS (R2_carriers_L0 n rec_R2_carriers p0) (fun (s1 : (List Str) × Int) => (.unk :: (.ptr 0 0 :: (.unk :: (.slice (List.map encS s1.1) (.tip 1 1) :: (.int .i64 s1.2 :: (u16 (u4 (u2 []))))))))) (fun (s1 : (List Str) × Int) => [.box [.int .i64 p0.kind, .str p0.name, .slice (List.map encTy p0.kids) .shared], .tip (List.length s1.1 * 1)]) ho1 (fun _ => rfl) (Le.of [some 0, none] (Weak.mk' rfl (.cons (.unk _) (.cons (.same rfl) (.cons (.unk _) (.cons (.nils _ _) (.cons (.same rfl) (.u16 (.u4 (.u2 .nil)))))))) (.old (.box' (.cons (.same rfl) (.cons (.same rfl) (.cons (.share (renl_Ty _ _)) .nil)))) (.new rfl .nil)))) ?_
    intro n1 s1 hs1 KL1 hKL1
    unfold R2_carriers_L0 at hs1
    refine AW.seqK fun K9 hK9 => ?_
    refine AW.seqK fun K10 hK10 => ?_
    refine AW.region τ_ok mixedO 0 ?_
    conv => whnf
    refine len_of (l := p0.kids) (f := encTy) ?_
    conv => whnf
    refine hK10 _ _ ?_
    refine AW.condS rfl hs1 (fun hc2 hs1 => ?_) (fun hc2 hs1 => ?_)
    · refine AW.skip ?_
      conv => whnf
      refine hK9 _ _ ?_
      refine AW.seqK fun K11 hK11 => ?_
      refine AW.block ?_
      refine AW.region τ_ok mixedO 1 ?_
      conv => whnf
      obtain ⟨x1, hx1, hs1⟩ := ob hs1
      refine idx_of (l := p0.kids) (f := encTy) (cs := [.int .i64 ((x1).kind), .str ((x1).name), .slice (List.map encTy ((x1).kids)) .shared]) hx1 (encTy_eq x1) rfl ?_
      conv => whnf
      obtain ⟨x2, hx2, hs1⟩ := ob hs1
      refine call_pur (hrec_R2_carriers _ _ hx2) okF_107 (.cons (.same _) .nil) (fun g => by simp only [ren, renL, renLL, renT, renL_app, renl_I, renl_S, renl_U8, renl_Ty, renl_Tm, renl_Carrier, renl_Decl]) (fun g => by simp only [ren, renL, renLL, renT, renL_app, renl_I, renl_S, renl_U8, renl_Ty, renl_Tm, renl_Carrier, renl_Decl]) ?_
      conv => whnf
      obtain ⟨x3, hx3, hs1⟩ := ob hs1
      refine app_tip (l := s1.1) (ys := x2) (f := encS) hx3 ok_S rfl rfl rfl ?_
      conv => whnf
      refine hK11 _ _ ?_
      refine AW.know 4 0 fun hv1 => ?_
      refine AW.know 13 0 fun hv2 => ?_
      refine AW.region τ_ok mixedO 0 ?_
      conv => whnf
      refine ⟨(s1.2 + 1), by have := wf64 hv1; have := vfl hv2; have h8 := of_decide_eq_true hc2; exact w64_id (by omega) (by omega), ?_⟩
      conv => whnf
      exact hKL1 _ _ _ hs1 (Le.of [some 0, some 2] (Weak.mk' rfl (.cons (.unk _) (.cons (.same rfl) (.cons (.unk _) (.cons (.tipS (renl_S _ _) rfl) (.cons (.same rfl) (.u16 (.u4 (.u2 .nil)))))))) (.old (.box' (.cons (.same rfl) (.cons (.same rfl) (.cons (.share (renl_Ty _ _)) .nil)))) (.old (.tip _) .nil))))
    · refine AW.exit ?_
      conv => whnf
      exact hR1 _ (Option.some.inj hs1).symm _ _ (Le.of [some 1] (Weak.mk' rfl (.u2 (.cons (.unk _) (.cons (.tipS (renl_S _ _) rfl) (.u16 (.u4 (.u2 (.cons (.unk _) .nil))))))) (.old (.tip _) .nil)))
theorem R2_carriers_all (n : Nat) : (∀ (p0 : Ty) (r : List Str), R2_carriers n p0 = some r → ACalls Tryz.prog 107 [.agg [.int .i64 p0.kind, .str p0.name, .slice (List.map encTy p0.kids) .shared]] [] (.slice (List.map encS r) .shared) []) := by
  induction n with
  | zero => exact (fun p0 r h => by unfold R2_carriers at h; cases h)
  | succ n ih =>
    exact (fun p0 r h => R2_carriers_body_ok n _ ih p0 r (by unfold R2_carriers at h; exact h))
theorem R2_carriers_ok (n : Nat) (p0 : Ty) (r : List Str) (h : R2_carriers n p0 = some r) : ACalls Tryz.prog 107 [.agg [.int .i64 p0.kind, .str p0.name, .slice (List.map encTy p0.kids) .shared]] [] (.slice (List.map encS r) .shared) [] := (R2_carriers_all n) p0 r h
def R2_FindCarrier_L0 (n : Nat) (p0 : Env) (p1 : Str) : Nat → Int → Option (LR Unit Int)
  | 0, _ => none
  | k + 1, s1 => (cond (decide (s1 < (p0.carriers.length : Int))) ((idx p0.carriers s1).bind fun (x1 : Carrier) => (cond (x1.name == p1) (some (.rt s1)) (R2_FindCarrier_L0 n p0 p1 k (s1 + 1)))) (some (.nx ())))
def R2_FindCarrier (n : Nat) (p0 : Env) (p1 : Str) : Option Int := ((R2_FindCarrier_L0 n p0 p1 n 0).bind (LR.el (fun (s2 : Unit) => some (-1)) (fun r => some r)))
set_option maxRecDepth 100000 in
set_option maxHeartbeats 40000000 in
theorem R2_FindCarrier_ok (n : Nat) (p0 : Env) (p1 : Str) (r : Int) (h : R2_FindCarrier n p0 p1 = some r) : ACalls Tryz.prog 128 [.agg [.slice (List.map encCarrier p0.carriers) .shared, .slice (List.map encDecl p0.names) .shared], .str p1] [] (.int .i64 r) [] := by
  unfold R2_FindCarrier at h
  refine acalls_start true Tryz.func128 rfl (by rw [Tryz.ntmps128]; exact Nat.le_of_ble_eq_true rfl) fun Q hQ t ht => ?_
  conv at ht => whnf
  subst ht
  refine AW.seqK fun K1 hK1 => ?_
  refine AW.region τ_ok mixedO 1 ?_
  conv => whnf
  refine hK1 _ _ ?_
  refine AW.seqK fun K2 hK2 => ?_
  refine AW.seqK fun K3 hK3 => ?_
  refine AW.region τ_ok mixedO 0 ?_
  conv => whnf
  refine hK3 _ _ ?_
  refine AW.block ?_
  obtain ⟨o1, ho1, h⟩ := ob h
  have hR1 : ∀ s2 : Unit, o1 = .nx s2 → ∀ t9 h9, Le 0 t9 h9 (u16 (u4 (u2 []))) [] → K2 t9 h9 := by
    intro s2 ho
    subst ho
    dsimp only [LR.el] at h
    intro t9 h9 hw
    refine hK2 _ _ (AW.le hw ?_)
    refine AW.seqK fun K4 hK4 => ?_
    refine AW.region τ_ok mixedO 0 ?_
    conv => whnf
    refine hK4 _ _ ?_
    refine AW.ret ?_
    conv => whnf
    have e9 := Option.some.inj h
    subst e9
    refine hQ _ _ _ (retPure τ_ok (fun g => rfl) ?_)
    conv => whnf
  refine AW.loopS (R2_FindCarrier_L0 n p0 p1) (fun (s1 : Int) => (.unk :: (.str p1 :: (.ptr 0 0 :: (u2 (.int .i64 s1 :: (u16 []))))))) (fun (s1 : Int) => [.box [.slice (List.map encCarrier p0.carriers) .shared, .slice (List.map encDecl p0.names) .shared]]) ho1 (fun _ => rfl) (Le.of [some 0] (Weak.mk' rfl (.cons (.unk _) (.cons (.same rfl) (.cons (.same rfl) (.u2 (.cons (.same rfl) (.u16 .nil)))))) (.old (.box' (.cons (.share (renl_Carrier _ _)) (.cons (.share (renl_Decl _ _)) .nil))) .nil))) ?_
  intro n1 s1 hs1 KL1 hKL1
  unfold R2_FindCarrier_L0 at hs1
  refine AW.seqK fun K5 hK5 => ?_
  refine AW.seqK fun K6 hK6 => ?_
  refine AW.region τ_ok mixedO 0 ?_
  conv => whnf
  refine len_of (l := p0.carriers) (f := encCarrier) ?_
  conv => whnf
  refine hK6 _ _ ?_
  refine AW.condS rfl hs1 (fun hc1 hs1 => ?_) (fun hc1 hs1 => ?_)
  · refine AW.skip ?_
    conv => whnf
    refine hK5 _ _ ?_
    refine AW.seqK fun K7 hK7 => ?_
    refine AW.block ?_
    refine AW.seqK fun K8 hK8 => ?_
    refine AW.region τ_ok mixedO 0 ?_
    conv => whnf
    obtain ⟨x1, hx1, hs1⟩ := ob hs1
    refine idx_of (l := p0.carriers) (f := encCarrier) (cs := [.str ((x1).name), .slice (List.map encS ((x1).elems)) .shared]) hx1 (rfl) rfl ?_
    conv => whnf
    refine hK8 _ _ ?_
    refine AW.condS rfl hs1 (fun hc2 hs1 => ?_) (fun hc2 hs1 => ?_)
    · refine AW.seqK fun K9 hK9 => ?_
      refine AW.region τ_ok mixedO 0 ?_
      conv => whnf
      refine hK9 _ _ ?_
      refine AW.ret ?_
      conv => whnf
      have e9 := Option.some.inj hs1
      subst e9
      dsimp only [LR.el] at h
      have e9 := Option.some.inj h
      subst e9
      refine hQ _ _ _ (retPure τ_ok (fun g => rfl) ?_)
      conv => whnf
    · refine AW.skip ?_
      conv => whnf
      refine hK7 _ _ ?_
      refine AW.know 5 0 fun hv1 => ?_
      refine AW.know 8 0 fun hv2 => ?_
      refine AW.region τ_ok mixedO 0 ?_
      conv => whnf
      refine ⟨(s1 + 1), by have := wf64 hv1; have := vfl hv2; have h8 := of_decide_eq_true hc1; exact w64_id (by omega) (by omega), ?_⟩
      conv => whnf
      exact hKL1 _ _ _ hs1 (Le.of [some 0] (Weak.mk' rfl (.cons (.unk _) (.cons (.same rfl) (.cons (.same rfl) (.u2 (.cons (.same rfl) (.u16 .nil)))))) (.old (.box' (.cons (.share (renl_Carrier _ _)) (.cons (.share (renl_Decl _ _)) .nil))) .nil)))
  · refine AW.exit ?_
    conv => whnf
    exact hR1 _ (Option.some.inj hs1).symm _ _ (Le.of [] (Weak.mk' rfl (.u16 (.u4 (.u2 .nil))) .nil))
def R2_Knows_L0 (n : Nat) (p0 : Env) (x1 : List Str) : Nat → Int → Option (LR Unit Bool)
  | 0, _ => none
  | k + 1, s1 => (cond (decide (s1 < (x1.length : Int))) ((idx x1 s1).bind fun (x2 : Str) => ((R2_FindCarrier n p0 x2).bind fun (x3 : Int) => (cond (decide (x3 < 0)) (some (.rt false)) (R2_Knows_L0 n p0 x1 k (s1 + 1))))) (some (.nx ())))
def R2_Knows (n : Nat) (p0 : Env) (p1 : Ty) : Option Bool := ((R2_carriers n p1).bind fun (x1 : List Str) => ((R2_Knows_L0 n p0 x1 n 0).bind (LR.el (fun (s2 : Unit) => some true) (fun r => some r))))
set_option maxRecDepth 100000 in
set_option maxHeartbeats 40000000 in
theorem R2_Knows_ok (n : Nat) (p0 : Env) (p1 : Ty) (r : Bool) (h : R2_Knows n p0 p1 = some r) : ACalls Tryz.prog 101 [.agg [.slice (List.map encCarrier p0.carriers) .shared, .slice (List.map encDecl p0.names) .shared], .agg [.int .i64 p1.kind, .str p1.name, .slice (List.map encTy p1.kids) .shared]] [] (.bool r) [] := by
  unfold R2_Knows at h
  refine acalls_start true Tryz.func101 rfl (by rw [Tryz.ntmps101]; exact Nat.le_of_ble_eq_true rfl) fun Q hQ t ht => ?_
  conv at ht => whnf
  subst ht
  refine AW.seqK fun K1 hK1 => ?_
  refine AW.region τ_ok mixedO 2 ?_
  conv => whnf
  refine hK1 _ _ ?_
  refine AW.seqK fun K2 hK2 => ?_
  refine AW.region τ_ok mixedO 0 ?_
  conv => whnf
  obtain ⟨x1, hx1, h⟩ := ob h
  refine call_pur (R2_carriers_ok _ _ _ hx1) okF_107 (.cons (.same _) .nil) (fun g => by simp only [ren, renL, renLL, renT, renL_app, renl_I, renl_S, renl_U8, renl_Ty, renl_Tm, renl_Carrier, renl_Decl]) (fun g => by simp only [ren, renL, renLL, renT, renL_app, renl_I, renl_S, renl_U8, renl_Ty, renl_Tm, renl_Carrier, renl_Decl]) ?_
  conv => whnf
  refine hK2 _ _ ?_
  refine AW.seqK fun K3 hK3 => ?_
  refine AW.seqK fun K4 hK4 => ?_
  refine AW.region τ_ok mixedO 0 ?_
  conv => whnf
  refine hK4 _ _ ?_
  refine AW.block ?_
  obtain ⟨o1, ho1, h⟩ := ob h
  have hR1 : ∀ s2 : Unit, o1 = .nx s2 → ∀ t9 h9, Le 0 t9 h9 (u16 (u4 (u2 []))) [] → K3 t9 h9 := by
    intro s2 ho
    subst ho
    dsimp only [LR.el] at h
    intro t9 h9 hw
    refine hK3 _ _ (AW.le hw ?_)
    refine AW.seqK fun K5 hK5 => ?_
    refine AW.region τ_ok mixedO 0 ?_
    conv => whnf
    refine hK5 _ _ ?_
    refine AW.ret ?_
    conv => whnf
    have e9 := Option.some.inj h
    subst e9
    refine hQ _ _ _ (retPure τ_ok (fun g => rfl) ?_)
    conv => whnf
  refine AW.loopS (R2_Knows_L0 n p0 x1) (fun (s1 : Int) => (u2 (.ptr 0 0 :: (u2 (.slice (List.map encS x1) .shared :: (.int .i64 s1 :: (u8 (u4 (u2 (.unk :: [])))))))))) (fun (s1 : Int) => [.box [.slice (List.map encCarrier p0.carriers) .shared, .slice (List.map encDecl p0.names) .shared]]) ho1 (fun _ => rfl) (Le.of [some 0] (Weak.mk' rfl (.u2 (.cons (.same rfl) (.u2 (.cons (.share (renl_S _ _)) (.cons (.same rfl) (.u8 (.u4 (.u2 (.cons (.unk _) .nil))))))))) (.old (.box' (.cons (.share (renl_Carrier _ _)) (.cons (.share (renl_Decl _ _)) .nil))) .nil))) ?_
  intro n1 s1 hs1 KL1 hKL1
  unfold R2_Knows_L0 at hs1
  refine AW.seqK fun K6 hK6 => ?_
  refine AW.seqK fun K7 hK7 => ?_
  refine AW.region τ_ok mixedO 0 ?_
  conv => whnf
  refine len_of (l := x1) (f := encS) ?_
  conv => whnf
  refine hK7 _ _ ?_
  refine AW.condS rfl hs1 (fun hc1 hs1 => ?_) (fun hc1 hs1 => ?_)
  · refine AW.skip ?_
    conv => whnf
    refine hK6 _ _ ?_
    refine AW.seqK fun K8 hK8 => ?_
    refine AW.block ?_
    refine AW.seqK fun K9 hK9 => ?_
    refine AW.region τ_ok mixedO 0 ?_
    conv => whnf
    obtain ⟨x2, hx2, hs1⟩ := ob hs1
    refine idx_of (l := x1) (f := encS) (cs := [.str (x2)]) hx2 (rfl) rfl ?_
    conv => whnf
    obtain ⟨x3, hx3, hs1⟩ := ob hs1
    refine call_pur (R2_FindCarrier_ok _ _ _ _ hx3) okF_128 (.cons (.same _) (.cons (.same _) .nil)) (fun g => by simp only [ren, renL, renLL, renT, renL_app, renl_I, renl_S, renl_U8, renl_Ty, renl_Tm, renl_Carrier, renl_Decl]) (fun g => rfl) ?_
    conv => whnf
    refine ⟨rfl, ?_⟩
    conv => whnf
    refine hK9 _ _ ?_
    refine AW.condS rfl hs1 (fun hc2 hs1 => ?_) (fun hc2 hs1 => ?_)
    · refine AW.seqK fun K10 hK10 => ?_
      refine AW.region τ_ok mixedO 0 ?_
      conv => whnf
      refine hK10 _ _ ?_
      refine AW.ret ?_
      conv => whnf
      have e9 := Option.some.inj hs1
      subst e9
      dsimp only [LR.el] at h
      have e9 := Option.some.inj h
      subst e9
      refine hQ _ _ _ (retPure τ_ok (fun g => rfl) ?_)
      conv => whnf
    · refine AW.skip ?_
      conv => whnf
      refine hK8 _ _ ?_
      refine AW.know 6 0 fun hv1 => ?_
      refine AW.know 5 0 fun hv2 => ?_
      refine AW.region τ_ok mixedO 0 ?_
      conv => whnf
      refine ⟨(s1 + 1), by have := wf64 hv1; have := vfl hv2; have h8 := of_decide_eq_true hc1; exact w64_id (by omega) (by omega), ?_⟩
      conv => whnf
      exact hKL1 _ _ _ hs1 (Le.of [some 0] (Weak.mk' rfl (.u2 (.cons (.same rfl) (.u2 (.cons (.share (renl_S _ _)) (.cons (.same rfl) (.u8 (.u4 (.u2 (.cons (.unk _) .nil))))))))) (.old (.box' (.cons (.share (renl_Carrier _ _)) (.cons (.share (renl_Decl _ _)) .nil))) .nil)))
  · refine AW.exit ?_
    conv => whnf
    exact hR1 _ (Option.some.inj hs1).symm _ _ (Le.of [] (Weak.mk' rfl (.u16 (.u4 (.u2 .nil))) .nil))
def R2_AllNames_L2 (n : Nat) (p0 : Env) : Nat → ((List Str) × Int) → Option (LR (List Str) (List Str))
  | 0, _ => none
  | k + 1, s1 => (cond (decide (s1.2 < (p0.carriers.length : Int))) ((idx p0.carriers s1.2).bind fun (x5 : Carrier) => ((app 16 s1.1 ([x5.name])).bind fun (x6 : List Str) => R2_AllNames_L2 n p0 k (x6, (s1.2 + 1)))) (some (.nx s1.1)))
def R2_AllNames_L1 (n : Nat) (p0 : Env) : Nat → ((List Str) × Int) → Option (LR (List Str) (List Str))
  | 0, _ => none
  | k + 1, s3 => (cond (decide (s3.2 < (p0.carriers.length : Int))) ((idx p0.carriers s3.2).bind fun (x3 : Carrier) => ((app 16 s3.1 x3.elems).bind fun (x4 : List Str) => R2_AllNames_L1 n p0 k (x4, (s3.2 + 1)))) (some (.nx s3.1)))
def R2_AllNames_L0 (n : Nat) (p0 : Env) : Nat → ((List Str) × Int) → Option (LR (List Str) (List Str))
  | 0, _ => none
  | k + 1, s5 => (cond (decide (s5.2 < (p0.names.length : Int))) ((idx p0.names s5.2).bind fun (x1 : Decl) => ((app 16 s5.1 ([x1.name])).bind fun (x2 : List Str) => R2_AllNames_L0 n p0 k (x2, (s5.2 + 1)))) (some (.nx s5.1)))
def R2_AllNames (n : Nat) (p0 : Env) : Option (List Str) := ((R2_AllNames_L2 n p0 n (([] : List Str), 0)).bind (LR.el (fun (s2 : List Str) => ((R2_AllNames_L1 n p0 n (s2, 0)).bind (LR.el (fun (s4 : List Str) => ((R2_AllNames_L0 n p0 n (s4, 0)).bind (LR.el (fun (s6 : List Str) => some s6) (fun r => some r)))) (fun r => some r)))) (fun r => some r)))
set_option maxRecDepth 100000 in
set_option maxHeartbeats 40000000 in
theorem R2_AllNames_ok (n : Nat) (p0 : Env) (r : List Str) (h : R2_AllNames n p0 = some r) : ACalls Tryz.prog 62 [.agg [.slice (List.map encCarrier p0.carriers) .shared, .slice (List.map encDecl p0.names) .shared]] [] (.slice (List.map encS r) (.tip 0 1)) [.tip (List.length r * 1)] := by
  unfold R2_AllNames at h
  refine acalls_start false Tryz.func62 rfl (by rw [Tryz.ntmps62]; exact Nat.le_of_ble_eq_true rfl) fun Q hQ t ht => ?_
  conv at ht => whnf
  subst ht
  refine AW.seqK fun K1 hK1 => ?_
  refine AW.region τ_ok mixedO 1 ?_
  conv => whnf
  refine hK1 _ _ ?_
  refine AW.seqK fun K2 hK2 => ?_
  refine AW.region τ_ok mixedO 0 ?_
  conv => whnf
  refine hK2 _ _ ?_
  refine AW.seqK fun K3 hK3 => ?_
  refine AW.seqK fun K4 hK4 => ?_
  refine AW.region τ_ok mixedO 0 ?_
  conv => whnf
  refine hK4 _ _ ?_
  refine AW.block ?_
  obtain ⟨o1, ho1, h⟩ := ob h
  have hR1 : ∀ s2 : List Str, o1 = .nx s2 → ∀ t9 h9, Le 0 t9 h9 (.unk :: (.ptr 0 0 :: (.unk :: (.slice (List.map encS s2) (.tip 1 1) :: (u32 (u16 (u2 (.unk :: [])))))))) [.box [.slice (List.map encCarrier p0.carriers) .shared, .slice (List.map encDecl p0.names) .shared], .tip (List.length s2 * 1)] → K3 t9 h9 := by
    intro s2 ho
    subst ho
    dsimp only [LR.el] at h
    intro t9 h9 hw
    refine hK3 _ _ (AW.le hw ?_)
    refine AW.seqK fun K5 hK5 => ?_
    refine AW.seqK fun K6 hK6 => ?_
    refine AW.region τ_ok mixedO 0 ?_
    conv => whnf
    refine hK6 _ _ ?_
    refine AW.block ?_
    obtain ⟨o2, ho2, h⟩ := ob h
    have hR2 : ∀ s4 : List Str, o2 = .nx s4 → ∀ t9 h9, Le 0 t9 h9 (.unk :: (.ptr 0 0 :: (.unk :: (.slice (List.map encS s4) (.tip 1 1) :: (u32 (u16 (u2 (.unk :: [])))))))) [.box [.slice (List.map encCarrier p0.carriers) .shared, .slice (List.map encDecl p0.names) .shared], .tip (List.length s4 * 1)] → K5 t9 h9 := by
      intro s4 ho
      subst ho
      dsimp only [LR.el] at h
      intro t9 h9 hw
      refine hK5 _ _ (AW.le hw ?_)
      refine AW.seqK fun K7 hK7 => ?_
      refine AW.seqK fun K8 hK8 => ?_
      refine AW.region τ_ok mixedO 0 ?_
      conv => whnf
      refine hK8 _ _ ?_
      refine AW.block ?_
      obtain ⟨o3, ho3, h⟩ := ob h
      have hR3 : ∀ s6 : List Str, o3 = .nx s6 → ∀ t9 h9, Le 0 t9 h9 (u2 (.unk :: (.slice (List.map encS s6) (.tip 0 1) :: (u32 (u16 (u2 (.unk :: []))))))) [.tip (List.length s6 * 1)] → K7 t9 h9 := by
        intro s6 ho
        subst ho
        dsimp only [LR.el] at h
        intro t9 h9 hw
        refine hK7 _ _ (AW.le hw ?_)
        refine AW.seqK fun K9 hK9 => ?_
        refine AW.region τ_ok mixedO 0 ?_
        conv => whnf
        refine hK9 _ _ ?_
        refine AW.ret ?_
        conv => whnf
        have e9 := Option.some.inj h
        subst e9
        refine hQ _ _ _ (retW (u2 (.slice (List.map encS s6) (.tip 0 1) :: (u32 (u16 (u4 []))))) [.tip (List.length s6 * 1)] (Le.of [some 0] (Weak.mk' rfl (.u2 (.cons (.tipS (renl_S _ _) rfl) (.u32 (.u16 (.u4 .nil))))) (.old (.tip _) .nil))) (retObj τ_ok [0] rfl (.cons (rfl) .nil) ?_))
        conv => whnf
        first | rfl | (simp only [ren, renL, renLL, renT, renL_app, renl_I, renl_S, renl_U8, renl_Ty, renl_Tm, renl_Carrier, renl_Decl]; done) | (simp only [ren, renL, renLL, renT, renL_app, renl_I, renl_S, renl_U8, renl_Ty, renl_Tm, renl_Carrier, renl_Decl]; rfl)
      refine AW.loopS (R2_AllNames_L0 n p0) (fun (s5 : (List Str) × Int) => (.unk :: (.ptr 0 0 :: (.unk :: (.slice (List.map encS s5.1) (.tip 1 1) :: (u2 (.int .i64 s5.2 :: (u32 (u16 []))))))))) (fun (s5 : (List Str) × Int) => [.box [.slice (List.map encCarrier p0.carriers) .shared, .slice (List.map encDecl p0.names) .shared], .tip (List.length s5.1 * 1)]) ho3 (fun _ => rfl) (Le.of [some 0, some 1] (Weak.mk' rfl (.cons (.unk _) (.cons (.same rfl) (.cons (.unk _) (.cons (.tipS (renl_S _ _) rfl) (.u2 (.cons (.same rfl) (.u32 (.u16 .nil)))))))) (.old (.box' (.cons (.share (renl_Carrier _ _)) (.cons (.share (renl_Decl _ _)) .nil))) (.old (.tip _) .nil)))) ?_
      intro n3 s5 hs3 KL3 hKL3
      unfold R2_AllNames_L0 at hs3
      refine AW.seqK fun K10 hK10 => ?_
      refine AW.seqK fun K11 hK11 => ?_
      refine AW.region τ_ok mixedO 0 ?_
      conv => whnf
      refine len_of (l := p0.names) (f := encDecl) ?_
      conv => whnf
      refine hK11 _ _ ?_
      refine AW.condS rfl hs3 (fun hc1 hs3 => ?_) (fun hc1 hs3 => ?_)
      · refine AW.skip ?_
        conv => whnf
        refine hK10 _ _ ?_
        refine AW.seqK fun K12 hK12 => ?_
        refine AW.block ?_
        refine AW.region τ_ok mixedO 2 ?_
        conv => whnf
        obtain ⟨x1, hx1, hs3⟩ := ob hs3
        refine idx_of (l := p0.names) (f := encDecl) (cs := [.str ((x1).name), .int .i64 (((x1).ty).kind), .str (((x1).ty).name), .slice (List.map encTy (((x1).ty).kids)) .shared]) hx1 (rfl) rfl ?_
        conv => whnf
        refine ⟨List.map encS ([x1.name]), rfl, ?_⟩
        conv => whnf
        obtain ⟨x2, hx2, hs3⟩ := ob hs3
        refine app_tip (l := s5.1) (ys := [x1.name]) (f := encS) hx2 ok_S rfl rfl rfl ?_
        conv => whnf
        refine hK12 _ _ ?_
        refine AW.know 6 0 fun hv1 => ?_
        refine AW.know 40 0 fun hv2 => ?_
        refine AW.region τ_ok mixedO 0 ?_
        conv => whnf
        refine ⟨(s5.2 + 1), by have := wf64 hv1; have := vfl hv2; have h8 := of_decide_eq_true hc1; exact w64_id (by omega) (by omega), ?_⟩
        conv => whnf
        exact hKL3 _ _ _ hs3 (Le.of [some 0, some 3] (Weak.mk' rfl (.cons (.unk _) (.cons (.same rfl) (.cons (.unk _) (.cons (.tipS (renl_S _ _) rfl) (.u2 (.cons (.same rfl) (.u32 (.u16 .nil)))))))) (.old (.box' (.cons (.share (renl_Carrier _ _)) (.cons (.share (renl_Decl _ _)) .nil))) (.old (.tip _) .nil))))
      · refine AW.exit ?_
        conv => whnf
        exact hR3 _ (Option.some.inj hs3).symm _ _ (Le.of [some 1] (Weak.mk' rfl (.u2 (.cons (.unk _) (.cons (.tipS (renl_S _ _) rfl) (.u32 (.u16 (.u2 (.cons (.unk _) .nil))))))) (.old (.tip _) .nil)))
    refine AW.loopS (R2_AllNames_L1 n p0) (fun (s3 : (List Str) × Int) => (.unk :: (.ptr 0 0 :: (.unk :: (.slice (List.map encS s3.1) (.tip 1 1) :: (.unk :: (.int .i64 s3.2 :: (u32 (u16 (.unk :: [])))))))))) (fun (s3 : (List Str) × Int) => [.box [.slice (List.map encCarrier p0.carriers) .shared, .slice (List.map encDecl p0.names) .shared], .tip (List.length s3.1 * 1)]) ho2 (fun _ => rfl) (Le.of [some 0, some 1] (Weak.mk' rfl (.cons (.unk _) (.cons (.same rfl) (.cons (.unk _) (.cons (.tipS (renl_S _ _) rfl) (.cons (.unk _) (.cons (.same rfl) (.u32 (.u16 (.cons (.unk _) .nil))))))))) (.old (.box' (.cons (.share (renl_Carrier _ _)) (.cons (.share (renl_Decl _ _)) .nil))) (.old (.tip _) .nil)))) ?_
    intro n2 s3 hs2 KL2 hKL2
    unfold R2_AllNames_L1 at hs2
    refine AW.seqK fun K13 hK13 => ?_
    refine AW.seqK fun K14 hK14 => ?_
    refine AW.region τ_ok mixedO 0 ?_
    conv => whnf
    refine len_of (l := p0.carriers) (f := encCarrier) ?_
    conv => whnf
    refine hK14 _ _ ?_
    refine AW.condS rfl hs2 (fun hc2 hs2 => ?_) (fun hc2 hs2 => ?_)
    · refine AW.skip ?_
      conv => whnf
      refine hK13 _ _ ?_
      refine AW.seqK fun K15 hK15 => ?_
      refine AW.block ?_
      refine AW.region τ_ok mixedO 1 ?_
      conv => whnf
      obtain ⟨x3, hx3, hs2⟩ := ob hs2
      refine idx_of (l := p0.carriers) (f := encCarrier) (cs := [.str ((x3).name), .slice (List.map encS ((x3).elems)) .shared]) hx3 (rfl) rfl ?_
      conv => whnf
      obtain ⟨x4, hx4, hs2⟩ := ob hs2
      refine app_tip (l := s3.1) (ys := x3.elems) (f := encS) hx4 ok_S rfl rfl rfl ?_
      conv => whnf
      refine hK15 _ _ ?_
      refine AW.know 5 0 fun hv3 => ?_
      refine AW.know 25 0 fun hv4 => ?_
      refine AW.region τ_ok mixedO 0 ?_
      conv => whnf
      refine ⟨(s3.2 + 1), by have := wf64 hv3; have := vfl hv4; have h8 := of_decide_eq_true hc2; exact w64_id (by omega) (by omega), ?_⟩
      conv => whnf
      exact hKL2 _ _ _ hs2 (Le.of [some 0, some 2] (Weak.mk' rfl (.cons (.unk _) (.cons (.same rfl) (.cons (.unk _) (.cons (.tipS (renl_S _ _) rfl) (.cons (.unk _) (.cons (.same rfl) (.u32 (.u16 (.cons (.unk _) .nil))))))))) (.old (.box' (.cons (.share (renl_Carrier _ _)) (.cons (.share (renl_Decl _ _)) .nil))) (.old (.tip _) .nil))))
    · refine AW.exit ?_
      conv => whnf
      exact hR2 _ (Option.some.inj hs2).symm _ _ (Le.of [some 0, some 1] (Weak.mk' rfl (.cons (.unk _) (.cons (.same rfl) (.cons (.unk _) (.cons (.tipS (renl_S _ _) rfl) (.u32 (.u16 (.u2 (.cons (.unk _) .nil)))))))) (.old (.box' (.cons (.share (renl_Carrier _ _)) (.cons (.share (renl_Decl _ _)) .nil))) (.old (.tip _) .nil))))
  refine AW.loopS (R2_AllNames_L2 n p0) (fun (s1 : (List Str) × Int) => (.unk :: (.ptr 0 0 :: (.unk :: (.slice (List.map encS s1.1) (.tip 1 1) :: (.int .i64 s1.2 :: (u32 (u16 (u2 []))))))))) (fun (s1 : (List Str) × Int) => [.box [.slice (List.map encCarrier p0.carriers) .shared, .slice (List.map encDecl p0.names) .shared], .tip (List.length s1.1 * 1)]) ho1 (fun _ => rfl) (Le.of [some 0, none] (Weak.mk' rfl (.cons (.unk _) (.cons (.same rfl) (.cons (.unk _) (.cons (.nils _ _) (.cons (.same rfl) (.u32 (.u16 (.u2 .nil)))))))) (.old (.box' (.cons (.share (renl_Carrier _ _)) (.cons (.share (renl_Decl _ _)) .nil))) (.new rfl .nil)))) ?_
  intro n1 s1 hs1 KL1 hKL1
  unfold R2_AllNames_L2 at hs1
  refine AW.seqK fun K16 hK16 => ?_
  refine AW.seqK fun K17 hK17 => ?_
  refine AW.region τ_ok mixedO 0 ?_
  conv => whnf
  refine len_of (l := p0.carriers) (f := encCarrier) ?_
  conv => whnf
  refine hK17 _ _ ?_
  refine AW.condS rfl hs1 (fun hc3 hs1 => ?_) (fun hc3 hs1 => ?_)
  · refine AW.skip ?_
    conv => whnf
    refine hK16 _ _ ?_
    refine AW.seqK fun K18 hK18 => ?_
    refine AW.block ?_
    refine AW.region τ_ok mixedO 2 ?_
    conv => whnf
    obtain ⟨x5, hx5, hs1⟩ := ob hs1
    refine idx_of (l := p0.carriers) (f := encCarrier) (cs := [.str ((x5).name), .slice (List.map encS ((x5).elems)) .shared]) hx5 (rfl) rfl ?_
    conv => whnf
    refine ⟨List.map encS ([x5.name]), rfl, ?_⟩
    conv => whnf
    obtain ⟨x6, hx6, hs1⟩ := ob hs1
    refine app_tip (l := s1.1) (ys := [x5.name]) (f := encS) hx6 ok_S rfl rfl rfl ?_
    conv => whnf
    refine hK18 _ _ ?_
    refine AW.know 4 0 fun hv5 => ?_
    refine AW.know 9 0 fun hv6 => ?_
    refine AW.region τ_ok mixedO 0 ?_
    conv => whnf
    refine ⟨(s1.2 + 1), by have := wf64 hv5; have := vfl hv6; have h8 := of_decide_eq_true hc3; exact w64_id (by omega) (by omega), ?_⟩
    conv => whnf
    exact hKL1 _ _ _ hs1 (Le.of [some 0, some 3] (Weak.mk' rfl (.cons (.unk _) (.cons (.same rfl) (.cons (.unk _) (.cons (.tipS (renl_S _ _) rfl) (.cons (.same rfl) (.u32 (.u16 (.u2 .nil)))))))) (.old (.box' (.cons (.share (renl_Carrier _ _)) (.cons (.share (renl_Decl _ _)) .nil))) (.old (.tip _) .nil))))
  · refine AW.exit ?_
    conv => whnf
    exact hR1 _ (Option.some.inj hs1).symm _ _ (Le.of [some 0, some 1] (Weak.mk' rfl (.cons (.unk _) (.cons (.same rfl) (.cons (.unk _) (.cons (.tipS (renl_S _ _) rfl) (.u32 (.u16 (.u2 (.cons (.unk _) .nil)))))))) (.old (.box' (.cons (.share (renl_Carrier _ _)) (.cons (.share (renl_Decl _ _)) .nil))) (.old (.tip _) .nil))))
end Abs
end Go.Proofs.YtiiaccpcoclklaaGreat
namespace Go.Proofs.YtiiaccpcoclklaaGreat
namespace Abs
open Go Go.Proofs
def R2_ValidEnv_L3 (n : Nat) (x10 : Carrier) : Nat → Int → Option (LR Unit Bool)
  | 0, _ => none
  | k + 1, s10 => (cond (decide (s10 < (x10.elems.length : Int))) ((idx x10.elems s10).bind fun (x11 : Str) => ((R1_Identifier n x11).bind fun (x12 : Bool) => (cond (!x12) (some (.rt false)) (R2_ValidEnv_L3 n x10 k (s10 + 1))))) (some (.nx ())))
def R2_ValidEnv_L2 (n : Nat) (p0 : Env) : Nat → Int → Option (LR Unit Bool)
  | 0, _ => none
  | k + 1, s2 => (cond (decide (s2 < (p0.carriers.length : Int))) ((idx p0.carriers s2).bind fun (x10 : Carrier) => ((((R1_Identifier n x10.name).bind fun (x13 : Bool) => (cond (!x13) (some true) (some (decide (8 < (x10.elems.length : Int)))))) : Option Bool).bind fun (s9 : Bool) => (cond s9 (some (.rt false)) ((R2_ValidEnv_L3 n x10 n 0).bind (LR.el (fun (s11 : Unit) => R2_ValidEnv_L2 n p0 k (s2 + 1)) (fun r => some (.rt r))))))) (some (.nx ())))
def R2_ValidEnv_L1 (n : Nat) (p0 : Env) : Nat → Int → Option (LR Unit Bool)
  | 0, _ => none
  | k + 1, s4 => (cond (decide (s4 < (p0.names.length : Int))) ((idx p0.names s4).bind fun (x5 : Decl) => ((((R1_Named n x5.name).bind fun (x6 : Bool) => (cond (!x6) (some true) ((R1_ValidType n x5.ty).bind fun (x7 : Bool) => (cond (!x7) (some true) ((R2_holdsBool n x5.ty).bind fun (x8 : Bool) => (cond x8 (some true) ((R2_Knows n p0 x5.ty).bind fun (x9 : Bool) => some (!x9)))))))) : Option Bool).bind fun (s8 : Bool) => (cond s8 (some (.rt false)) (R2_ValidEnv_L1 n p0 k (s4 + 1))))) (some (.nx ())))
def R2_ValidEnv_L0 (n : Nat) (x1 : List Str) : Nat → Int → Option (LR Unit Bool)
  | 0, _ => none
  | k + 1, s6 => (cond (decide (s6 < (x1.length : Int))) ((idx x1 s6).bind fun (x2 : Str) => ((scut x1 0 s6).bind fun (x3 : List Str) => ((R1_In n x2 x3).bind fun (x4 : Bool) => (cond x4 (some (.rt false)) (R2_ValidEnv_L0 n x1 k (s6 + 1)))))) (some (.nx ())))
def R2_ValidEnv (n : Nat) (p0 : Env) : Option Bool := (((cond (decide (8 < (p0.carriers.length : Int))) (some true) (some (decide (64 < (p0.names.length : Int))))) : Option Bool).bind fun (s1 : Bool) => (cond s1 (some false) ((R2_ValidEnv_L2 n p0 n 0).bind (LR.el (fun (s3 : Unit) => ((R2_ValidEnv_L1 n p0 n 0).bind (LR.el (fun (s5 : Unit) => ((R2_AllNames n p0).bind fun (x1 : List Str) => ((R2_ValidEnv_L0 n x1 n 0).bind (LR.el (fun (s7 : Unit) => some true) (fun r => some r))))) (fun r => some r)))) (fun r => some r)))))
set_option maxRecDepth 100000 in
set_option maxHeartbeats 40000000 in
theorem R2_ValidEnv_ok (n : Nat) (p0 : Env) (r : Bool) (h : R2_ValidEnv n p0 = some r) : ACalls Tryz.prog 56 [.agg [.slice (List.map encCarrier p0.carriers) .shared, .slice (List.map encDecl p0.names) .shared]] [] (.bool r) [] := by
  unfold R2_ValidEnv at h
  refine acalls_start true Tryz.func56 rfl (by rw [Tryz.ntmps56]; exact Nat.le_of_ble_eq_true rfl) fun Q hQ t ht => ?_
  conv at ht => whnf
  subst ht
  refine AW.seqK fun K1 hK1 => ?_
  refine AW.region τ_ok mixedO 1 ?_
  conv => whnf
  refine hK1 _ _ ?_
  refine AW.seqK fun K2 hK2 => ?_
  refine AW.seqK fun K3 hK3 => ?_
  obtain ⟨s1, hj1, h⟩ := ob h
  have hR1 : ∀ t9 h9, Le 0 t9 h9 (.unk :: (.ptr 0 0 :: (u16 (.unk :: (.bool s1 :: (u64 (u16 (u4 (u2 []))))))))) [.box [.slice (List.map encCarrier p0.carriers) .shared, .slice (List.map encDecl p0.names) .shared]] → K3 t9 h9 := by
    intro t9 h9 hw
    refine hK3 _ _ (AW.le hw ?_)
    clear hw
    refine AW.condS rfl h (fun hc1 h => ?_) (fun hc1 h => ?_)
    · refine AW.seqK fun K4 hK4 => ?_
      refine AW.region τ_ok mixedO 0 ?_
      conv => whnf
      refine hK4 _ _ ?_
      refine AW.ret ?_
      conv => whnf
      have e9 := Option.some.inj h
      subst e9
      refine hQ _ _ _ (retPure τ_ok (fun g => rfl) ?_)
      conv => whnf
    · refine AW.skip ?_
      conv => whnf
      refine hK2 _ _ ?_
      refine AW.seqK fun K5 hK5 => ?_
      refine AW.seqK fun K6 hK6 => ?_
      refine AW.region τ_ok mixedO 0 ?_
      conv => whnf
      refine hK6 _ _ ?_
      refine AW.block ?_
      obtain ⟨o1, ho1, h⟩ := ob h
      have hR2 : ∀ s3 : Unit, o1 = .nx s3 → ∀ t9 h9, Le 0 t9 h9 (.unk :: (.ptr 0 0 :: (u64 (u32 (u8 []))))) [.box [.slice (List.map encCarrier p0.carriers) .shared, .slice (List.map encDecl p0.names) .shared]] → K5 t9 h9 := by
        intro s3 ho
        subst ho
        dsimp only [LR.el] at h
        intro t9 h9 hw
        refine hK5 _ _ (AW.le hw ?_)
        refine AW.seqK fun K7 hK7 => ?_
        refine AW.seqK fun K8 hK8 => ?_
        refine AW.region τ_ok mixedO 0 ?_
        conv => whnf
        refine hK8 _ _ ?_
        refine AW.block ?_
        obtain ⟨o2, ho2, h⟩ := ob h
        have hR3 : ∀ s5 : Unit, o2 = .nx s5 → ∀ t9 h9, Le 0 t9 h9 (.unk :: (.ptr 0 0 :: (u64 (u32 (u8 []))))) [.box [.slice (List.map encCarrier p0.carriers) .shared, .slice (List.map encDecl p0.names) .shared]] → K7 t9 h9 := by
          intro s5 ho
          subst ho
          dsimp only [LR.el] at h
          intro t9 h9 hw
          refine hK7 _ _ (AW.le hw ?_)
          refine AW.seqK fun K9 hK9 => ?_
          refine AW.region τ_ok mixedO 1 ?_
          conv => whnf
          obtain ⟨x1, hx1, h⟩ := ob h
          refine call_gen [] [1] [.agg [.slice (List.map encCarrier p0.carriers) .shared, .slice (List.map encDecl p0.names) .shared]] [.agg [.slice (List.map encCarrier p0.carriers) .shared, .slice (List.map encDecl p0.names) .shared]] (R2_AllNames_ok _ _ _ hx1) okF_62 rfl .nil (by simp only [ren, renL, renLL, renT, renL_app, renl_I, renl_S, renl_U8, renl_Ty, renl_Tm, renl_Carrier, renl_Decl]; try rfl) (.cons (.same _) .nil) (rn := .slice (List.map encS x1) (.tip 1 1)) (by simp only [ren, renL, renLL, renT, renL_app, renl_I, renl_S, renl_U8, renl_Ty, renl_Tm, renl_Carrier, renl_Decl]; try rfl) (Hn := [.tip (List.length x1 * 1)]) ((rcons (rfl) rfl)) ?_
          conv => whnf
          refine hK9 _ _ ?_
          refine AW.seqK fun K10 hK10 => ?_
          refine AW.seqK fun K11 hK11 => ?_
          refine AW.region τ_ok mixedO 0 ?_
          conv => whnf
          refine hK11 _ _ ?_
          refine AW.block ?_
          obtain ⟨o3, ho3, h⟩ := ob h
          have hR4 : ∀ s7 : Unit, o3 = .nx s7 → ∀ t9 h9, Le 0 t9 h9 (u64 (u32 (u8 (u2 [])))) [] → K10 t9 h9 := by
            intro s7 ho
            subst ho
            dsimp only [LR.el] at h
            intro t9 h9 hw
            refine hK10 _ _ (AW.le hw ?_)
            refine AW.seqK fun K12 hK12 => ?_
            refine AW.region τ_ok mixedO 0 ?_
            conv => whnf
            refine hK12 _ _ ?_
            refine AW.ret ?_
            conv => whnf
            have e9 := Option.some.inj h
            subst e9
            refine hQ _ _ _ (retPure τ_ok (fun g => rfl) ?_)
            conv => whnf
          refine AW.loopS (R2_ValidEnv_L0 n x1) (fun (s6 : Int) => (u8 (.slice (List.map encS x1) (.tip 0 1) :: (.int .i64 s6 :: (u64 (u32 [])))))) (fun (s6 : Int) => [.tip (List.length x1 * 1)]) ho3 (fun _ => rfl) (Le.of [some 1] (Weak.mk' rfl (.u8 (.cons (.tipS (renl_S _ _) rfl) (.cons (.same rfl) (.u64 (.u32 .nil))))) (.old (.tip _) .nil))) ?_
          intro n3 s6 hs3 KL3 hKL3
          unfold R2_ValidEnv_L0 at hs3
          refine AW.seqK fun K13 hK13 => ?_
          refine AW.seqK fun K14 hK14 => ?_
          refine AW.region τ_ok mixedO 0 ?_
          conv => whnf
          refine len_of (l := x1) (f := encS) ?_
          conv => whnf
          refine hK14 _ _ ?_
          refine AW.condS rfl hs3 (fun hc2 hs3 => ?_) (fun hc2 hs3 => ?_)
          · refine AW.skip ?_
            conv => whnf
            refine hK13 _ _ ?_
            refine AW.seqK fun K15 hK15 => ?_
            refine AW.block ?_
            refine AW.seqK fun K16 hK16 => ?_
            refine AW.region τ_ok mixedO 0 ?_
            conv => whnf
            obtain ⟨x2, hx2, hs3⟩ := ob hs3
            refine idx_of (l := x1) (f := encS) (cs := [.str (x2)]) hx2 (rfl) rfl ?_
            conv => whnf
            obtain ⟨x3, hx3, hs3⟩ := ob hs3
            refine cut_l (l := x1) (f := encS) hx3 (.none _) (.int _ _ _) ok_S ?_
            conv => whnf
            obtain ⟨x4, hx4, hs3⟩ := ob hs3
            refine call_pur (R1_In_ok _ _ _ _ hx4) okF_50 (.cons (.same _) (.cons (.same _) .nil)) (fun g => by simp only [ren, renL, renLL, renT, renL_app, renl_I, renl_S, renl_U8, renl_Ty, renl_Tm, renl_Carrier, renl_Decl]) (fun g => rfl) ?_
            conv => whnf
            refine ⟨rfl, ?_⟩
            conv => whnf
            refine hK16 _ _ ?_
            refine AW.condS rfl hs3 (fun hc3 hs3 => ?_) (fun hc3 hs3 => ?_)
            · refine AW.seqK fun K17 hK17 => ?_
              refine AW.region τ_ok mixedO 0 ?_
              conv => whnf
              refine hK17 _ _ ?_
              refine AW.ret ?_
              conv => whnf
              have e9 := Option.some.inj hs3
              subst e9
              dsimp only [LR.el] at h
              have e9 := Option.some.inj h
              subst e9
              refine hQ _ _ _ (retPure τ_ok (fun g => rfl) ?_)
              conv => whnf
            · refine AW.skip ?_
              conv => whnf
              refine hK15 _ _ ?_
              refine AW.know 9 0 fun hv1 => ?_
              refine AW.know 8 0 fun hv2 => ?_
              refine AW.region τ_ok mixedO 0 ?_
              conv => whnf
              refine ⟨(s6 + 1), by have := wf64 hv1; have := vfl hv2; have h8 := of_decide_eq_true hc2; exact w64_id (by omega) (by omega), ?_⟩
              conv => whnf
              exact hKL3 _ _ _ hs3 (Le.of [some 0] (Weak.mk' rfl (.u8 (.cons (.tipS (renl_S _ _) rfl) (.cons (.same rfl) (.u64 (.u32 .nil))))) (.old (.tip _) .nil)))
          · refine AW.exit ?_
            conv => whnf
            exact hR4 _ (Option.some.inj hs3).symm _ _ (Le.of [] (Weak.mk' rfl (.u64 (.u32 (.u8 (.u2 .nil)))) .nil))
        refine AW.loopS (R2_ValidEnv_L1 n p0) (fun (s4 : Int) => (.unk :: (.ptr 0 0 :: (u4 (.int .i64 s4 :: (u64 (u32 (u2 (.unk :: []))))))))) (fun (s4 : Int) => [.box [.slice (List.map encCarrier p0.carriers) .shared, .slice (List.map encDecl p0.names) .shared]]) ho2 (fun _ => rfl) (Le.of [some 0] (Weak.mk' rfl (.cons (.unk _) (.cons (.same rfl) (.u4 (.cons (.same rfl) (.u64 (.u32 (.u2 (.cons (.unk _) .nil)))))))) (.old (.box' (.cons (.share (renl_Carrier _ _)) (.cons (.share (renl_Decl _ _)) .nil))) .nil))) ?_
        intro n2 s4 hs2 KL2 hKL2
        unfold R2_ValidEnv_L1 at hs2
        refine AW.seqK fun K18 hK18 => ?_
        refine AW.seqK fun K19 hK19 => ?_
        refine AW.region τ_ok mixedO 0 ?_
        conv => whnf
        refine len_of (l := p0.names) (f := encDecl) ?_
        conv => whnf
        refine hK19 _ _ ?_
        refine AW.condS rfl hs2 (fun hc4 hs2 => ?_) (fun hc4 hs2 => ?_)
        · refine AW.skip ?_
          conv => whnf
          refine hK18 _ _ ?_
          refine AW.seqK fun K20 hK20 => ?_
          refine AW.block ?_
          refine AW.seqK fun K21 hK21 => ?_
          refine AW.region τ_ok mixedO 1 ?_
          conv => whnf
          obtain ⟨x5, hx5, hs2⟩ := ob hs2
          refine idx_of (l := p0.names) (f := encDecl) (cs := [.str ((x5).name), .int .i64 (((x5).ty).kind), .str (((x5).ty).name), .slice (List.map encTy (((x5).ty).kids)) .shared]) hx5 (rfl) rfl ?_
          conv => whnf
          refine hK21 _ _ ?_
          refine AW.seqK fun K22 hK22 => ?_
          obtain ⟨s8, hj2, hs2⟩ := ob hs2
          have hR5 : ∀ t9 h9, Le 0 t9 h9 (.unk :: (.ptr 0 0 :: (u4 (.int .i64 s4 :: (u64 (u16 (u2 (.bool s8 :: (u16 []))))))))) [.box [.slice (List.map encCarrier p0.carriers) .shared, .slice (List.map encDecl p0.names) .shared]] → K22 t9 h9 := by
            intro t9 h9 hw
            refine hK22 _ _ (AW.le hw ?_)
            clear hw
            refine AW.condS rfl hs2 (fun hc5 hs2 => ?_) (fun hc5 hs2 => ?_)
            · refine AW.seqK fun K23 hK23 => ?_
              refine AW.region τ_ok mixedO 0 ?_
              conv => whnf
              refine hK23 _ _ ?_
              refine AW.ret ?_
              conv => whnf
              have e9 := Option.some.inj hs2
              subst e9
              dsimp only [LR.el] at h
              have e9 := Option.some.inj h
              subst e9
              refine hQ _ _ _ (retPure τ_ok (fun g => rfl) ?_)
              conv => whnf
            · refine AW.skip ?_
              conv => whnf
              refine hK20 _ _ ?_
              refine AW.know 6 0 fun hv3 => ?_
              refine AW.knowB 0 1 (fun hv4 => ?_) ⟨1, 0, rfl⟩
              refine AW.region τ_ok mixedO 0 ?_
              conv => whnf
              refine ⟨(s4 + 1), by have := wf64 hv3; have := vfl hv4; have h8 := of_decide_eq_true hc4; exact w64_id (by omega) (by omega), ?_⟩
              conv => whnf
              exact hKL2 _ _ _ hs2 (Le.of [some 0] (Weak.mk' rfl (.cons (.unk _) (.cons (.same rfl) (.u4 (.cons (.same rfl) (.u64 (.u32 (.u2 (.cons (.unk _) .nil)))))))) (.old (.box' (.cons (.share (renl_Carrier _ _)) (.cons (.share (renl_Decl _ _)) .nil))) .nil)))
          refine AW.region τ_ok mixedO 0 ?_
          conv => whnf
          obtain ⟨x6, hx6, hj2⟩ := ob hj2
          refine call_pur (R1_Named_ok _ _ _ hx6) okF_116 (.cons (.same _) .nil) (fun g => rfl) (fun g => rfl) ?_
          conv => whnf
          refine onB_cond hj2 (fun hc6 hj2 => ?_) (fun hc6 hj2 => ?_)
          · conv => whnf
            cases hj2
            exact hR5 _ _ (Le.of [some 0] (Weak.mk' rfl (.cons (.unk _) (.cons (.same rfl) (.u4 (.cons (.same rfl) (.u64 (.u16 (.u2 (.cons (.same rfl) (.u16 .nil))))))))) (.old (.box' (.cons (.share (renl_Carrier _ _)) (.cons (.share (renl_Decl _ _)) .nil))) .nil)))
          · conv => whnf
            obtain ⟨x7, hx7, hj2⟩ := ob hj2
            refine call_pur (R1_ValidType_ok _ _ _ hx7) okF_42 (.cons (.same _) .nil) (fun g => by simp only [ren, renL, renLL, renT, renL_app, renl_I, renl_S, renl_U8, renl_Ty, renl_Tm, renl_Carrier, renl_Decl]) (fun g => rfl) ?_
            conv => whnf
            refine onB_cond hj2 (fun hc7 hj2 => ?_) (fun hc7 hj2 => ?_)
            · conv => whnf
              cases hj2
              exact hR5 _ _ (Le.of [some 0] (Weak.mk' rfl (.cons (.unk _) (.cons (.same rfl) (.u4 (.cons (.same rfl) (.u64 (.u16 (.u2 (.cons (.same rfl) (.u16 .nil))))))))) (.old (.box' (.cons (.share (renl_Carrier _ _)) (.cons (.share (renl_Decl _ _)) .nil))) .nil)))
            · conv => whnf
              obtain ⟨x8, hx8, hj2⟩ := ob hj2
              refine call_pur (R2_holdsBool_ok _ _ _ hx8) okF_99 (.cons (.same _) .nil) (fun g => by simp only [ren, renL, renLL, renT, renL_app, renl_I, renl_S, renl_U8, renl_Ty, renl_Tm, renl_Carrier, renl_Decl]) (fun g => rfl) ?_
              conv => whnf
              refine onB_cond hj2 (fun hc8 hj2 => ?_) (fun hc8 hj2 => ?_)
              · conv => whnf
                cases hj2
                exact hR5 _ _ (Le.of [some 0] (Weak.mk' rfl (.cons (.unk _) (.cons (.same rfl) (.u4 (.cons (.same rfl) (.u64 (.u16 (.u2 (.cons (.same rfl) (.u16 .nil))))))))) (.old (.box' (.cons (.share (renl_Carrier _ _)) (.cons (.share (renl_Decl _ _)) .nil))) .nil)))
              · conv => whnf
                obtain ⟨x9, hx9, hj2⟩ := ob hj2
                refine call_pur (R2_Knows_ok _ _ _ _ hx9) okF_101 (.cons (.same _) (.cons (.same _) .nil)) (fun g => by simp only [ren, renL, renLL, renT, renL_app, renl_I, renl_S, renl_U8, renl_Ty, renl_Tm, renl_Carrier, renl_Decl]) (fun g => rfl) ?_
                conv => whnf
                cases hj2
                exact hR5 _ _ (Le.of [some 0] (Weak.mk' rfl (.cons (.unk _) (.cons (.same rfl) (.u4 (.cons (.same rfl) (.u64 (.u16 (.u2 (.cons (.same rfl) (.u16 .nil))))))))) (.old (.box' (.cons (.share (renl_Carrier _ _)) (.cons (.share (renl_Decl _ _)) .nil))) .nil)))
        · refine AW.exit ?_
          conv => whnf
          exact hR3 _ (Option.some.inj hs2).symm _ _ (Le.of [some 0] (Weak.mk' rfl (.cons (.unk _) (.cons (.same rfl) (.u64 (.u32 (.u8 .nil))))) (.old (.box' (.cons (.share (renl_Carrier _ _)) (.cons (.share (renl_Decl _ _)) .nil))) .nil)))
      refine AW.loopS (R2_ValidEnv_L2 n p0) (fun (s2 : Int) => (.unk :: (.ptr 0 0 :: (.unk :: (.int .i64 s2 :: (u64 (u32 (u4 (u2 []))))))))) (fun (s2 : Int) => [.box [.slice (List.map encCarrier p0.carriers) .shared, .slice (List.map encDecl p0.names) .shared]]) ho1 (fun _ => rfl) (Le.of [some 0] (Weak.mk' rfl (.cons (.unk _) (.cons (.same rfl) (.cons (.unk _) (.cons (.same rfl) (.u64 (.u32 (.u4 (.u2 .nil)))))))) (.old (.box' (.cons (.share (renl_Carrier _ _)) (.cons (.share (renl_Decl _ _)) .nil))) .nil))) ?_
      intro n1 s2 hs1 KL1 hKL1
      unfold R2_ValidEnv_L2 at hs1
      refine AW.seqK fun K24 hK24 => ?_
      refine AW.seqK fun K25 hK25 => ?_
      refine AW.region τ_ok mixedO 0 ?_
      conv => whnf
      refine len_of (l := p0.carriers) (f := encCarrier) ?_
      conv => whnf
      refine hK25 _ _ ?_
      refine AW.condS rfl hs1 (fun hc9 hs1 => ?_) (fun hc9 hs1 => ?_)
      · refine AW.skip ?_
        conv => whnf
        refine hK24 _ _ ?_
        refine AW.seqK fun K26 hK26 => ?_
        refine AW.block ?_
        refine AW.seqK fun K27 hK27 => ?_
        refine AW.region τ_ok mixedO 1 ?_
        conv => whnf
        obtain ⟨x10, hx10, hs1⟩ := ob hs1
        refine idx_of (l := p0.carriers) (f := encCarrier) (cs := [.str ((x10).name), .slice (List.map encS ((x10).elems)) .shared]) hx10 (rfl) rfl ?_
        conv => whnf
        refine hK27 _ _ ?_
        refine AW.seqK fun K28 hK28 => ?_
        refine AW.seqK fun K29 hK29 => ?_
        obtain ⟨s9, hj3, hs1⟩ := ob hs1
        have hR6 : ∀ t9 h9, Le 0 t9 h9 (.unk :: (.ptr 0 0 :: (.unk :: (.int .i64 s2 :: (.ptr 1 0 :: (u32 (u4 (.bool s9 :: (u64 []))))))))) [.box [.slice (List.map encCarrier p0.carriers) .shared, .slice (List.map encDecl p0.names) .shared], .box [.str x10.name, .slice (List.map encS x10.elems) .shared]] → K29 t9 h9 := by
          intro t9 h9 hw
          refine hK29 _ _ (AW.le hw ?_)
          clear hw
          refine AW.condS rfl hs1 (fun hc10 hs1 => ?_) (fun hc10 hs1 => ?_)
          · refine AW.seqK fun K30 hK30 => ?_
            refine AW.region τ_ok mixedO 0 ?_
            conv => whnf
            refine hK30 _ _ ?_
            refine AW.ret ?_
            conv => whnf
            have e9 := Option.some.inj hs1
            subst e9
            dsimp only [LR.el] at h
            have e9 := Option.some.inj h
            subst e9
            refine hQ _ _ _ (retPure τ_ok (fun g => rfl) ?_)
            conv => whnf
          · refine AW.skip ?_
            conv => whnf
            refine hK28 _ _ ?_
            refine AW.seqK fun K31 hK31 => ?_
            refine AW.region τ_ok mixedO 0 ?_
            conv => whnf
            refine hK31 _ _ ?_
            refine AW.block ?_
            obtain ⟨o4, ho4, hs1⟩ := ob hs1
            have hR7 : ∀ s11 : Unit, o4 = .nx s11 → ∀ t9 h9, Le 0 t9 h9 (.unk :: (.ptr 0 0 :: (.unk :: (.int .i64 s2 :: (u64 (u32 (u4 (u2 [])))))))) [.box [.slice (List.map encCarrier p0.carriers) .shared, .slice (List.map encDecl p0.names) .shared]] → K26 t9 h9 := by
              intro s11 ho
              subst ho
              dsimp only [LR.el] at hs1
              intro t9 h9 hw
              refine hK26 _ _ (AW.le hw ?_)
              refine AW.know 3 0 fun hv5 => ?_
              refine AW.knowB 0 0 (fun hv6 => ?_) ⟨1, 0, rfl⟩
              refine AW.region τ_ok mixedO 0 ?_
              conv => whnf
              refine ⟨(s2 + 1), by have := wf64 hv5; have := vfl hv6; have h8 := of_decide_eq_true hc9; exact w64_id (by omega) (by omega), ?_⟩
              conv => whnf
              exact hKL1 _ _ _ hs1 (Le.of [some 0] (Weak.mk' rfl (.cons (.unk _) (.cons (.same rfl) (.cons (.unk _) (.cons (.same rfl) (.u64 (.u32 (.u4 (.u2 .nil)))))))) (.old (.box' (.cons (.share (renl_Carrier _ _)) (.cons (.share (renl_Decl _ _)) .nil))) .nil)))
            refine AW.loopS (R2_ValidEnv_L3 n x10) (fun (s10 : Int) => (.unk :: (.ptr 0 0 :: (.unk :: (.int .i64 s2 :: (.ptr 1 0 :: (.int .i64 s10 :: (u64 (u32 (u4 [])))))))))) (fun (s10 : Int) => [.box [.slice (List.map encCarrier p0.carriers) .shared, .slice (List.map encDecl p0.names) .shared], .box [.str x10.name, .slice (List.map encS x10.elems) .shared]]) ho4 (fun _ => rfl) (Le.of [some 0, some 1] (Weak.mk' rfl (.cons (.unk _) (.cons (.same rfl) (.cons (.unk _) (.cons (.same rfl) (.cons (.same rfl) (.cons (.same rfl) (.u64 (.u32 (.u4 .nil))))))))) (.old (.box' (.cons (.share (renl_Carrier _ _)) (.cons (.share (renl_Decl _ _)) .nil))) (.old (.box' (.cons (.same rfl) (.cons (.share (renl_S _ _)) .nil))) .nil)))) ?_
            intro n4 s10 hs4 KL4 hKL4
            unfold R2_ValidEnv_L3 at hs4
            refine AW.seqK fun K32 hK32 => ?_
            refine AW.seqK fun K33 hK33 => ?_
            refine AW.region τ_ok mixedO 0 ?_
            conv => whnf
            refine len_of (l := x10.elems) (f := encS) ?_
            conv => whnf
            refine hK33 _ _ ?_
            refine AW.condS rfl hs4 (fun hc11 hs4 => ?_) (fun hc11 hs4 => ?_)
            · refine AW.skip ?_
              conv => whnf
              refine hK32 _ _ ?_
              refine AW.seqK fun K34 hK34 => ?_
              refine AW.block ?_
              refine AW.seqK fun K35 hK35 => ?_
              refine AW.region τ_ok mixedO 0 ?_
              conv => whnf
              obtain ⟨x11, hx11, hs4⟩ := ob hs4
              refine idx_of (l := x10.elems) (f := encS) (cs := [.str (x11)]) hx11 (rfl) rfl ?_
              conv => whnf
              obtain ⟨x12, hx12, hs4⟩ := ob hs4
              refine call_pur (R1_Identifier_ok _ _ _ hx12) okF_58 (.cons (.same _) .nil) (fun g => rfl) (fun g => rfl) ?_
              conv => whnf
              refine hK35 _ _ ?_
              refine AW.condS rfl hs4 (fun hc12 hs4 => ?_) (fun hc12 hs4 => ?_)
              · refine AW.seqK fun K36 hK36 => ?_
                refine AW.region τ_ok mixedO 0 ?_
                conv => whnf
                refine hK36 _ _ ?_
                refine AW.ret ?_
                conv => whnf
                have e9 := Option.some.inj hs4
                subst e9
                dsimp only [LR.el] at hs1
                have e9 := Option.some.inj hs1
                subst e9
                dsimp only [LR.el] at h
                have e9 := Option.some.inj h
                subst e9
                refine hQ _ _ _ (retPure τ_ok (fun g => rfl) ?_)
                conv => whnf
              · refine AW.skip ?_
                conv => whnf
                refine hK34 _ _ ?_
                refine AW.know 5 0 fun hv7 => ?_
                refine AW.know 44 0 fun hv8 => ?_
                refine AW.region τ_ok mixedO 0 ?_
                conv => whnf
                refine ⟨(s10 + 1), by have := wf64 hv7; have := vfl hv8; have h8 := of_decide_eq_true hc11; exact w64_id (by omega) (by omega), ?_⟩
                conv => whnf
                exact hKL4 _ _ _ hs4 (Le.of [some 0, some 1] (Weak.mk' rfl (.cons (.unk _) (.cons (.same rfl) (.cons (.unk _) (.cons (.same rfl) (.cons (.same rfl) (.cons (.same rfl) (.u64 (.u32 (.u4 .nil))))))))) (.old (.box' (.cons (.share (renl_Carrier _ _)) (.cons (.share (renl_Decl _ _)) .nil))) (.old (.box' (.cons (.same rfl) (.cons (.share (renl_S _ _)) .nil))) .nil))))
            · refine AW.exit ?_
              conv => whnf
              exact hR7 _ (Option.some.inj hs4).symm _ _ (Le.of [some 0] (Weak.mk' rfl (.cons (.unk _) (.cons (.same rfl) (.cons (.unk _) (.cons (.same rfl) (.u64 (.u32 (.u4 (.u2 .nil)))))))) (.old (.box' (.cons (.share (renl_Carrier _ _)) (.cons (.share (renl_Decl _ _)) .nil))) .nil)))
        refine AW.region τ_ok mixedO 0 ?_
        conv => whnf
        obtain ⟨x13, hx13, hj3⟩ := ob hj3
        refine call_pur (R1_Identifier_ok _ _ _ hx13) okF_58 (.cons (.same _) .nil) (fun g => rfl) (fun g => rfl) ?_
        conv => whnf
        refine onB_cond hj3 (fun hc13 hj3 => ?_) (fun hc13 hj3 => ?_)
        · conv => whnf
          cases hj3
          exact hR6 _ _ (Le.of [some 0, some 1] (Weak.mk' rfl (.cons (.unk _) (.cons (.same rfl) (.cons (.unk _) (.cons (.same rfl) (.cons (.same rfl) (.u32 (.u4 (.cons (.same rfl) (.u64 .nil))))))))) (.old (.box' (.cons (.share (renl_Carrier _ _)) (.cons (.share (renl_Decl _ _)) .nil))) (.old (.box' (.cons (.same rfl) (.cons (.share (renl_S _ _)) .nil))) .nil))))
        · conv => whnf
          refine len_of (l := x10.elems) (f := encS) ?_
          conv => whnf
          cases hj3
          exact hR6 _ _ (Le.of [some 0, some 1] (Weak.mk' rfl (.cons (.unk _) (.cons (.same rfl) (.cons (.unk _) (.cons (.same rfl) (.cons (.same rfl) (.u32 (.u4 (.cons (.same rfl) (.u64 .nil))))))))) (.old (.box' (.cons (.share (renl_Carrier _ _)) (.cons (.share (renl_Decl _ _)) .nil))) (.old (.box' (.cons (.same rfl) (.cons (.share (renl_S _ _)) .nil))) .nil))))
      · refine AW.exit ?_
        conv => whnf
        exact hR2 _ (Option.some.inj hs1).symm _ _ (Le.of [some 0] (Weak.mk' rfl (.cons (.unk _) (.cons (.same rfl) (.u64 (.u32 (.u8 .nil))))) (.old (.box' (.cons (.share (renl_Carrier _ _)) (.cons (.share (renl_Decl _ _)) .nil))) .nil)))
  refine AW.region τ_ok mixedO 0 ?_
  conv => whnf
  refine len_of (l := p0.carriers) (f := encCarrier) ?_
  conv => whnf
  refine onB_cond hj1 (fun hc14 hj1 => ?_) (fun hc14 hj1 => ?_)
  · conv => whnf
    cases hj1
    exact hR1 _ _ (Le.of [some 0] (Weak.mk' rfl (.cons (.unk _) (.cons (.same rfl) (.u16 (.cons (.unk _) (.cons (.same rfl) (.u64 (.u16 (.u4 (.u2 .nil))))))))) (.old (.box' (.cons (.share (renl_Carrier _ _)) (.cons (.share (renl_Decl _ _)) .nil))) .nil)))
  · conv => whnf
    refine len_of (l := p0.names) (f := encDecl) ?_
    conv => whnf
    cases hj1
    exact hR1 _ _ (Le.of [some 0] (Weak.mk' rfl (.cons (.unk _) (.cons (.same rfl) (.u16 (.cons (.unk _) (.cons (.same rfl) (.u64 (.u16 (.u4 (.u2 .nil))))))))) (.old (.box' (.cons (.share (renl_Carrier _ _)) (.cons (.share (renl_Decl _ _)) .nil))) .nil)))
def R2_FindName_L0 (n : Nat) (p0 : Env) (p1 : Str) : Nat → Int → Option (LR Unit Int)
  | 0, _ => none
  | k + 1, s1 => (cond (decide (s1 < (p0.names.length : Int))) ((idx p0.names s1).bind fun (x1 : Decl) => (cond (x1.name == p1) (some (.rt s1)) (R2_FindName_L0 n p0 p1 k (s1 + 1)))) (some (.nx ())))
def R2_FindName (n : Nat) (p0 : Env) (p1 : Str) : Option Int := ((R2_FindName_L0 n p0 p1 n 0).bind (LR.el (fun (s2 : Unit) => some (-1)) (fun r => some r)))
set_option maxRecDepth 100000 in
set_option maxHeartbeats 40000000 in
theorem R2_FindName_ok (n : Nat) (p0 : Env) (p1 : Str) (r : Int) (h : R2_FindName n p0 p1 = some r) : ACalls Tryz.prog 129 [.agg [.slice (List.map encCarrier p0.carriers) .shared, .slice (List.map encDecl p0.names) .shared], .str p1] [] (.int .i64 r) [] := by
  unfold R2_FindName at h
  refine acalls_start true Tryz.func129 rfl (by rw [Tryz.ntmps129]; exact Nat.le_of_ble_eq_true rfl) fun Q hQ t ht => ?_
  conv at ht => whnf
  subst ht
  refine AW.seqK fun K1 hK1 => ?_
  refine AW.region τ_ok mixedO 1 ?_
  conv => whnf
  refine hK1 _ _ ?_
  refine AW.seqK fun K2 hK2 => ?_
  refine AW.seqK fun K3 hK3 => ?_
  refine AW.region τ_ok mixedO 0 ?_
  conv => whnf
  refine hK3 _ _ ?_
  refine AW.block ?_
  obtain ⟨o1, ho1, h⟩ := ob h
  have hR1 : ∀ s2 : Unit, o1 = .nx s2 → ∀ t9 h9, Le 0 t9 h9 (u16 (u4 (u2 []))) [] → K2 t9 h9 := by
    intro s2 ho
    subst ho
    dsimp only [LR.el] at h
    intro t9 h9 hw
    refine hK2 _ _ (AW.le hw ?_)
    refine AW.seqK fun K4 hK4 => ?_
    refine AW.region τ_ok mixedO 0 ?_
    conv => whnf
    refine hK4 _ _ ?_
    refine AW.ret ?_
    conv => whnf
    have e9 := Option.some.inj h
    subst e9
    refine hQ _ _ _ (retPure τ_ok (fun g => rfl) ?_)
    conv => whnf
  refine AW.loopS (R2_FindName_L0 n p0 p1) (fun (s1 : Int) => (.unk :: (.str p1 :: (.ptr 0 0 :: (u2 (.int .i64 s1 :: (u16 []))))))) (fun (s1 : Int) => [.box [.slice (List.map encCarrier p0.carriers) .shared, .slice (List.map encDecl p0.names) .shared]]) ho1 (fun _ => rfl) (Le.of [some 0] (Weak.mk' rfl (.cons (.unk _) (.cons (.same rfl) (.cons (.same rfl) (.u2 (.cons (.same rfl) (.u16 .nil)))))) (.old (.box' (.cons (.share (renl_Carrier _ _)) (.cons (.share (renl_Decl _ _)) .nil))) .nil))) ?_
  intro n1 s1 hs1 KL1 hKL1
  unfold R2_FindName_L0 at hs1
  refine AW.seqK fun K5 hK5 => ?_
  refine AW.seqK fun K6 hK6 => ?_
  refine AW.region τ_ok mixedO 0 ?_
  conv => whnf
  refine len_of (l := p0.names) (f := encDecl) ?_
  conv => whnf
  refine hK6 _ _ ?_
  refine AW.condS rfl hs1 (fun hc1 hs1 => ?_) (fun hc1 hs1 => ?_)
  · refine AW.skip ?_
    conv => whnf
    refine hK5 _ _ ?_
    refine AW.seqK fun K7 hK7 => ?_
    refine AW.block ?_
    refine AW.seqK fun K8 hK8 => ?_
    refine AW.region τ_ok mixedO 0 ?_
    conv => whnf
    obtain ⟨x1, hx1, hs1⟩ := ob hs1
    refine idx_of (l := p0.names) (f := encDecl) (cs := [.str ((x1).name), .int .i64 (((x1).ty).kind), .str (((x1).ty).name), .slice (List.map encTy (((x1).ty).kids)) .shared]) hx1 (rfl) rfl ?_
    conv => whnf
    refine hK8 _ _ ?_
    refine AW.condS rfl hs1 (fun hc2 hs1 => ?_) (fun hc2 hs1 => ?_)
    · refine AW.seqK fun K9 hK9 => ?_
      refine AW.region τ_ok mixedO 0 ?_
      conv => whnf
      refine hK9 _ _ ?_
      refine AW.ret ?_
      conv => whnf
      have e9 := Option.some.inj hs1
      subst e9
      dsimp only [LR.el] at h
      have e9 := Option.some.inj h
      subst e9
      refine hQ _ _ _ (retPure τ_ok (fun g => rfl) ?_)
      conv => whnf
    · refine AW.skip ?_
      conv => whnf
      refine hK7 _ _ ?_
      refine AW.know 5 0 fun hv1 => ?_
      refine AW.know 8 0 fun hv2 => ?_
      refine AW.region τ_ok mixedO 0 ?_
      conv => whnf
      refine ⟨(s1 + 1), by have := wf64 hv1; have := vfl hv2; have h8 := of_decide_eq_true hc1; exact w64_id (by omega) (by omega), ?_⟩
      conv => whnf
      exact hKL1 _ _ _ hs1 (Le.of [some 0] (Weak.mk' rfl (.cons (.unk _) (.cons (.same rfl) (.cons (.same rfl) (.u2 (.cons (.same rfl) (.u16 .nil)))))) (.old (.box' (.cons (.share (renl_Carrier _ _)) (.cons (.share (renl_Decl _ _)) .nil))) .nil)))
  · refine AW.exit ?_
    conv => whnf
    exact hR1 _ (Option.some.inj hs1).symm _ _ (Le.of [] (Weak.mk' rfl (.u16 (.u4 (.u2 .nil))) .nil))
def R2_Carrier (n : Nat) (p0 : Str) : Option Ty := some (Ty.mk 3 p0 ([]))
set_option maxRecDepth 100000 in
set_option maxHeartbeats 40000000 in
theorem R2_Carrier_ok (n : Nat) (p0 : Str) (r : Ty) (h : R2_Carrier n p0 = some r) : ACalls Tryz.prog 63 [.str p0] [] (.agg [.int .i64 r.kind, .str r.name, .slice (List.map encTy r.kids) .shared]) [] := by
  unfold R2_Carrier at h
  refine acalls_start true Tryz.func63 rfl (by rw [Tryz.ntmps63]; exact Nat.le_of_ble_eq_true rfl) fun Q hQ t ht => ?_
  conv at ht => whnf
  subst ht
  refine AW.seqK fun K1 hK1 => ?_
  refine AW.region τ_ok mixedO 1 ?_
  conv => whnf
  refine hK1 _ _ ?_
  refine AW.seqK fun K2 hK2 => ?_
  refine AW.region τ_ok mixedO 0 ?_
  conv => whnf
  refine hK2 _ _ ?_
  refine AW.ret ?_
  conv => whnf
  have e9 := Option.some.inj h
  subst e9
  refine hQ _ _ _ (retPure τ_ok (fun g => by simp only [ren, renL, renLL, renT, renL_app, renl_I, renl_S, renl_U8, renl_Ty, renl_Tm, renl_Carrier, renl_Decl]) ?_)
  conv => whnf
  try rfl
def R2_Set (n : Nat) (p0 : Ty) : Option Ty := some (Ty.mk 5 ([] : Str) ([p0]))
set_option maxRecDepth 100000 in
set_option maxHeartbeats 40000000 in
theorem R2_Set_ok (n : Nat) (p0 : Ty) (r : Ty) (h : R2_Set n p0 = some r) : ACalls Tryz.prog 48 [.agg [.int .i64 p0.kind, .str p0.name, .slice (List.map encTy p0.kids) .shared]] [] (.agg [.int .i64 r.kind, .str r.name, .slice (List.map encTy r.kids) .shared]) [] := by
  unfold R2_Set at h
  refine acalls_start true Tryz.func48 rfl (by rw [Tryz.ntmps48]; exact Nat.le_of_ble_eq_true rfl) fun Q hQ t ht => ?_
  conv at ht => whnf
  subst ht
  refine AW.seqK fun K1 hK1 => ?_
  refine AW.region τ_ok mixedO 2 ?_
  conv => whnf
  refine hK1 _ _ ?_
  refine AW.seqK fun K2 hK2 => ?_
  refine AW.region τ_ok mixedO 1 ?_
  conv => whnf
  refine ⟨List.map encTy ([p0]), by simp only [List.map_cons, List.map_nil, encTy_eq]; rfl, ?_⟩
  conv => whnf
  refine hK2 _ _ ?_
  refine AW.ret ?_
  conv => whnf
  have e9 := Option.some.inj h
  subst e9
  refine hQ _ _ _ (retPure τ_ok (fun g => by simp only [ren, renL, renLL, renT, renL_app, renl_I, renl_S, renl_U8, renl_Ty, renl_Tm, renl_Carrier, renl_Decl]) ?_)
  conv => whnf
  try rfl
end Abs
end Go.Proofs.YtiiaccpcoclklaaGreat
namespace Go.Proofs.YtiiaccpcoclklaaGreat
namespace Abs
open Go Go.Proofs
def R2_FindElement_L1 (n : Nat) (p0 : Env) (p1 : Str) (s1 : Int) : Nat → Int → Option (LR Unit (Int × Int))
  | 0, _ => none
  | k + 1, s3 => ((idx p0.carriers s1).bind fun (x1 : Carrier) => (cond (decide (s3 < (x1.elems.length : Int))) ((idx p0.carriers s1).bind fun (x2 : Carrier) => ((idx x2.elems s3).bind fun (x3 : Str) => (cond (x3 == p1) (some (.rt (s1, s3))) (R2_FindElement_L1 n p0 p1 s1 k (s3 + 1))))) (some (.nx ()))))
def R2_FindElement_L0 (n : Nat) (p0 : Env) (p1 : Str) : Nat → Int → Option (LR Unit (Int × Int))
  | 0, _ => none
  | k + 1, s1 => (cond (decide (s1 < (p0.carriers.length : Int))) ((R2_FindElement_L1 n p0 p1 s1 n 0).bind (LR.el (fun (s4 : Unit) => R2_FindElement_L0 n p0 p1 k (s1 + 1)) (fun r => some (.rt r)))) (some (.nx ())))
def R2_FindElement (n : Nat) (p0 : Env) (p1 : Str) : Option (Int × Int) := ((R2_FindElement_L0 n p0 p1 n 0).bind (LR.el (fun (s2 : Unit) => some ((-1), (-1))) (fun r => some r)))
set_option maxRecDepth 100000 in
set_option maxHeartbeats 40000000 in
theorem R2_FindElement_ok (n : Nat) (p0 : Env) (p1 : Str) (r : Int × Int) (h : R2_FindElement n p0 p1 = some r) : ACalls Tryz.prog 186 [.agg [.slice (List.map encCarrier p0.carriers) .shared, .slice (List.map encDecl p0.names) .shared], .str p1] [] (.tup [.int .i64 r.1, .int .i64 r.2]) [] := by
  unfold R2_FindElement at h
  refine acalls_start true Tryz.func186 rfl (by rw [Tryz.ntmps186]; exact Nat.le_of_ble_eq_true rfl) fun Q hQ t ht => ?_
  conv at ht => whnf
  subst ht
  refine AW.seqK fun K1 hK1 => ?_
  refine AW.region τ_ok mixedO 1 ?_
  conv => whnf
  refine hK1 _ _ ?_
  refine AW.seqK fun K2 hK2 => ?_
  refine AW.seqK fun K3 hK3 => ?_
  refine AW.region τ_ok mixedO 0 ?_
  conv => whnf
  refine hK3 _ _ ?_
  refine AW.block ?_
  obtain ⟨o1, ho1, h⟩ := ob h
  have hR1 : ∀ s2 : Unit, o1 = .nx s2 → ∀ t9 h9, Le 0 t9 h9 (u32 (u4 (u2 (.unk :: [])))) [] → K2 t9 h9 := by
    intro s2 ho
    subst ho
    dsimp only [LR.el] at h
    intro t9 h9 hw
    refine hK2 _ _ (AW.le hw ?_)
    refine AW.seqK fun K4 hK4 => ?_
    refine AW.region τ_ok mixedO 0 ?_
    conv => whnf
    refine hK4 _ _ ?_
    refine AW.ret ?_
    conv => whnf
    have e9 := Option.some.inj h
    subst e9
    refine hQ _ _ _ (retPure τ_ok (fun g => by simp only [ren, renL, renLL, renT, renL_app, renl_I, renl_S, renl_U8, renl_Ty, renl_Tm, renl_Carrier, renl_Decl]) ?_)
    conv => whnf
    try rfl
  refine AW.loopS (R2_FindElement_L0 n p0 p1) (fun (s1 : Int) => (.unk :: (.str p1 :: (.ptr 0 0 :: (u2 (.unk :: (.int .i64 s1 :: (u32 [])))))))) (fun (s1 : Int) => [.box [.slice (List.map encCarrier p0.carriers) .shared, .slice (List.map encDecl p0.names) .shared]]) ho1 (fun _ => rfl) (Le.of [some 0] (Weak.mk' rfl (.cons (.unk _) (.cons (.same rfl) (.cons (.same rfl) (.u2 (.cons (.unk _) (.cons (.same rfl) (.u32 .nil))))))) (.old (.box' (.cons (.share (renl_Carrier _ _)) (.cons (.share (renl_Decl _ _)) .nil))) .nil))) ?_
  intro n1 s1 hs1 KL1 hKL1
  unfold R2_FindElement_L0 at hs1
  refine AW.seqK fun K5 hK5 => ?_
  refine AW.seqK fun K6 hK6 => ?_
  refine AW.region τ_ok mixedO 0 ?_
  conv => whnf
  refine len_of (l := p0.carriers) (f := encCarrier) ?_
  conv => whnf
  refine hK6 _ _ ?_
  refine AW.condS rfl hs1 (fun hc1 hs1 => ?_) (fun hc1 hs1 => ?_)
  · refine AW.skip ?_
    conv => whnf
    refine hK5 _ _ ?_
    refine AW.seqK fun K7 hK7 => ?_
    refine AW.block ?_
    refine AW.seqK fun K8 hK8 => ?_
    refine AW.region τ_ok mixedO 0 ?_
    conv => whnf
    refine hK8 _ _ ?_
    refine AW.block ?_
    obtain ⟨o2, ho2, hs1⟩ := ob hs1
    have hR2 : ∀ s4 : Unit, o2 = .nx s4 → ∀ t9 h9, Le 0 t9 h9 (.unk :: (.str p1 :: (.ptr 0 0 :: (u2 (.unk :: (.int .i64 s1 :: (u32 []))))))) [.box [.slice (List.map encCarrier p0.carriers) .shared, .slice (List.map encDecl p0.names) .shared]] → K7 t9 h9 := by
      intro s4 ho
      subst ho
      dsimp only [LR.el] at hs1
      intro t9 h9 hw
      refine hK7 _ _ (AW.le hw ?_)
      refine AW.know 6 0 fun hv1 => ?_
      refine AW.knowB 0 0 (fun hv2 => ?_) ⟨2, 0, rfl⟩
      refine AW.region τ_ok mixedO 0 ?_
      conv => whnf
      refine ⟨(s1 + 1), by have := wf64 hv1; have := vfl hv2; have h8 := of_decide_eq_true hc1; exact w64_id (by omega) (by omega), ?_⟩
      conv => whnf
      exact hKL1 _ _ _ hs1 (Le.of [some 0] (Weak.mk' rfl (.cons (.unk _) (.cons (.same rfl) (.cons (.same rfl) (.u2 (.cons (.unk _) (.cons (.same rfl) (.u32 .nil))))))) (.old (.box' (.cons (.share (renl_Carrier _ _)) (.cons (.share (renl_Decl _ _)) .nil))) .nil)))
    refine AW.loopS (R2_FindElement_L1 n p0 p1 s1) (fun (s3 : Int) => (.unk :: (.str p1 :: (.ptr 0 0 :: (u2 (.unk :: (.int .i64 s1 :: (.int .i64 s3 :: (u16 (u8 (u4 (u2 (.unk :: []))))))))))))) (fun (s3 : Int) => [.box [.slice (List.map encCarrier p0.carriers) .shared, .slice (List.map encDecl p0.names) .shared]]) ho2 (fun _ => rfl) (Le.of [some 0] (Weak.mk' rfl (.cons (.unk _) (.cons (.same rfl) (.cons (.same rfl) (.u2 (.cons (.unk _) (.cons (.same rfl) (.cons (.same rfl) (.u16 (.u8 (.u4 (.u2 (.cons (.unk _) .nil)))))))))))) (.old (.box' (.cons (.share (renl_Carrier _ _)) (.cons (.share (renl_Decl _ _)) .nil))) .nil))) ?_
    intro n2 s3 hs2 KL2 hKL2
    unfold R2_FindElement_L1 at hs2
    refine AW.seqK fun K9 hK9 => ?_
    refine AW.seqK fun K10 hK10 => ?_
    refine AW.region τ_ok mixedO 0 ?_
    conv => whnf
    obtain ⟨x1, hx1, hs2⟩ := ob hs2
    refine idx_of (l := p0.carriers) (f := encCarrier) (cs := [.str ((x1).name), .slice (List.map encS ((x1).elems)) .shared]) hx1 (rfl) rfl ?_
    conv => whnf
    refine len_of (l := x1.elems) (f := encS) ?_
    conv => whnf
    refine hK10 _ _ ?_
    refine AW.condS rfl hs2 (fun hc2 hs2 => ?_) (fun hc2 hs2 => ?_)
    · refine AW.skip ?_
      conv => whnf
      refine hK9 _ _ ?_
      refine AW.seqK fun K11 hK11 => ?_
      refine AW.block ?_
      refine AW.seqK fun K12 hK12 => ?_
      refine AW.region τ_ok mixedO 0 ?_
      conv => whnf
      obtain ⟨x2, hx2, hs2⟩ := ob hs2
      refine idx_of (l := p0.carriers) (f := encCarrier) (cs := [.str ((x2).name), .slice (List.map encS ((x2).elems)) .shared]) hx2 (rfl) rfl ?_
      conv => whnf
      obtain ⟨x3, hx3, hs2⟩ := ob hs2
      refine idx_of (l := x2.elems) (f := encS) (cs := [.str (x3)]) hx3 (rfl) rfl ?_
      conv => whnf
      refine hK12 _ _ ?_
      refine AW.condS rfl hs2 (fun hc3 hs2 => ?_) (fun hc3 hs2 => ?_)
      · refine AW.seqK fun K13 hK13 => ?_
        refine AW.region τ_ok mixedO 0 ?_
        conv => whnf
        refine hK13 _ _ ?_
        refine AW.ret ?_
        conv => whnf
        have e9 := Option.some.inj hs2
        subst e9
        dsimp only [LR.el] at hs1
        have e9 := Option.some.inj hs1
        subst e9
        dsimp only [LR.el] at h
        have e9 := Option.some.inj h
        subst e9
        refine hQ _ _ _ (retPure τ_ok (fun g => by simp only [ren, renL, renLL, renT, renL_app, renl_I, renl_S, renl_U8, renl_Ty, renl_Tm, renl_Carrier, renl_Decl]) ?_)
        conv => whnf
        try rfl
      · refine AW.skip ?_
        conv => whnf
        refine hK11 _ _ ?_
        refine AW.know 7 0 fun hv3 => ?_
        refine AW.know 19 1 fun hv4 => ?_
        refine AW.region τ_ok mixedO 0 ?_
        conv => whnf
        refine ⟨(s3 + 1), by have := wf64 hv3; have := vfl hv4; have h8 := of_decide_eq_true hc2; exact w64_id (by omega) (by omega), ?_⟩
        conv => whnf
        exact hKL2 _ _ _ hs2 (Le.of [some 0] (Weak.mk' rfl (.cons (.unk _) (.cons (.same rfl) (.cons (.same rfl) (.u2 (.cons (.unk _) (.cons (.same rfl) (.cons (.same rfl) (.u16 (.u8 (.u4 (.u2 (.cons (.unk _) .nil)))))))))))) (.old (.box' (.cons (.share (renl_Carrier _ _)) (.cons (.share (renl_Decl _ _)) .nil))) .nil)))
    · refine AW.exit ?_
      conv => whnf
      exact hR2 _ (Option.some.inj hs2).symm _ _ (Le.of [some 0] (Weak.mk' rfl (.cons (.unk _) (.cons (.same rfl) (.cons (.same rfl) (.u2 (.cons (.unk _) (.cons (.same rfl) (.u32 .nil))))))) (.old (.box' (.cons (.share (renl_Carrier _ _)) (.cons (.share (renl_Decl _ _)) .nil))) .nil)))
  · refine AW.exit ?_
    conv => whnf
    exact hR1 _ (Option.some.inj hs1).symm _ _ (Le.of [] (Weak.mk' rfl (.u32 (.u4 (.u2 (.cons (.unk _) .nil)))) .nil))
def R2_denotes_L0 (n : Nat) (p1 : List Decl) (p2 : Str) : Nat → Int → Option (LR Unit (Ty × Bool))
  | 0, _ => none
  | k + 1, s1 => (cond (decide (0 ≤ s1)) ((idx p1 s1).bind fun (x6 : Decl) => (cond (x6.name == p2) ((idx p1 s1).bind fun (x7 : Decl) => some (.rt (x7.ty, true))) (R2_denotes_L0 n p1 p2 k (s1 - 1)))) (some (.nx ())))
def R2_denotes (n : Nat) (p0 : Env) (p1 : List Decl) (p2 : Str) : Option (Ty × Bool) := ((R2_denotes_L0 n p1 p2 n ((p1.length : Int) - 1)).bind (LR.el (fun (s2 : Unit) => ((R2_FindName n p0 p2).bind fun (x1 : Int) => (cond (decide (0 ≤ x1)) ((idx p0.names x1).bind fun (x2 : Decl) => some (x2.ty, true)) ((R2_FindCarrier n p0 p2).bind fun (x3 : Int) => (cond (decide (0 ≤ x3)) (some ((Ty.mk 5 ([] : Str) ([(Ty.mk 3 p2 ([]))])), true)) ((R2_FindElement n p0 p2).bind fun (x4 : Int × Int) => (cond (decide (0 ≤ x4.1)) ((idx p0.carriers x4.1).bind fun (x5 : Carrier) => some ((Ty.mk 3 x5.name ([])), true)) (some ((Ty.mk 0 ([] : Str) ([])), false))))))))) (fun r => some r)))
set_option maxRecDepth 100000 in
set_option maxHeartbeats 40000000 in
theorem R2_denotes_ok (n : Nat) (p0 : Env) (p1 : List Decl) (p2 : Str) (r : Ty × Bool) (h : R2_denotes n p0 p1 p2 = some r) : ACalls Tryz.prog 111 [.agg [.slice (List.map encCarrier p0.carriers) .shared, .slice (List.map encDecl p0.names) .shared], .slice (List.map encDecl p1) .shared, .str p2] [] (.tup [.agg [.int .i64 r.1.kind, .str r.1.name, .slice (List.map encTy r.1.kids) .shared], .bool r.2]) [] := by
  unfold R2_denotes at h
  refine acalls_start true Tryz.func111 rfl (by rw [Tryz.ntmps111]; exact Nat.le_of_ble_eq_true rfl) fun Q hQ t ht => ?_
  conv at ht => whnf
  subst ht
  refine AW.seqK fun K1 hK1 => ?_
  refine AW.region τ_ok mixedO 2 ?_
  conv => whnf
  refine hK1 _ _ ?_
  refine AW.seqK fun K2 hK2 => ?_
  refine AW.seqK fun K3 hK3 => ?_
  refine AW.know 1 0 fun hv1 => ?_
  refine AW.region τ_ok mixedO 0 ?_
  conv => whnf
  refine len_of (l := p1) (f := encDecl) ?_
  conv => whnf
  refine ⟨((p1.length : Int) - 1), by have := vfl hv1; exact w64_id (by omega) (by omega), ?_⟩
  conv => whnf
  refine hK3 _ _ ?_
  refine AW.block ?_
  obtain ⟨o1, ho1, h⟩ := ob h
  have hR1 : ∀ s2 : Unit, o1 = .nx s2 → ∀ t9 h9, Le 0 t9 h9 (u2 (.str p2 :: (.ptr 0 0 :: (u2 (.ptr 1 0 :: (u32 (u16 (u8 (u2 []))))))))) [.box [.slice (List.map encCarrier p0.carriers) .shared, .slice (List.map encDecl p0.names) .shared], .box [.int .i64 0, .str ([] : Str), .slice (List.map encTy ([] : List Ty)) .nils]] → K2 t9 h9 := by
    intro s2 ho
    subst ho
    dsimp only [LR.el] at h
    intro t9 h9 hw
    refine hK2 _ _ (AW.le hw ?_)
    refine AW.seqK fun K4 hK4 => ?_
    refine AW.seqK fun K5 hK5 => ?_
    refine AW.region τ_ok mixedO 0 ?_
    conv => whnf
    obtain ⟨x1, hx1, h⟩ := ob h
    refine call_pur (R2_FindName_ok _ _ _ _ hx1) okF_129 (.cons (.same _) (.cons (.same _) .nil)) (fun g => by simp only [ren, renL, renLL, renT, renL_app, renl_I, renl_S, renl_U8, renl_Ty, renl_Tm, renl_Carrier, renl_Decl]) (fun g => rfl) ?_
    conv => whnf
    refine hK5 _ _ ?_
    refine AW.seqK fun K6 hK6 => ?_
    refine AW.region τ_ok mixedO 0 ?_
    conv => whnf
    refine hK6 _ _ ?_
    refine AW.condS rfl h (fun hc1 h => ?_) (fun hc1 h => ?_)
    · refine AW.seqK fun K7 hK7 => ?_
      refine AW.region τ_ok mixedO 0 ?_
      conv => whnf
      obtain ⟨x2, hx2, h⟩ := ob h
      refine idx_of (l := p0.names) (f := encDecl) (cs := [.str ((x2).name), .int .i64 (((x2).ty).kind), .str (((x2).ty).name), .slice (List.map encTy (((x2).ty).kids)) .shared]) hx2 (rfl) rfl ?_
      conv => whnf
      refine hK7 _ _ ?_
      refine AW.ret ?_
      conv => whnf
      have e9 := Option.some.inj h
      subst e9
      refine hQ _ _ _ (retPure τ_ok (fun g => by simp only [ren, renL, renLL, renT, renL_app, renl_I, renl_S, renl_U8, renl_Ty, renl_Tm, renl_Carrier, renl_Decl]) ?_)
      conv => whnf
      try rfl
    · refine AW.skip ?_
      conv => whnf
      refine hK4 _ _ ?_
      refine AW.seqK fun K8 hK8 => ?_
      refine AW.seqK fun K9 hK9 => ?_
      refine AW.region τ_ok mixedO 0 ?_
      conv => whnf
      obtain ⟨x3, hx3, h⟩ := ob h
      refine call_pur (R2_FindCarrier_ok _ _ _ _ hx3) okF_128 (.cons (.same _) (.cons (.same _) .nil)) (fun g => by simp only [ren, renL, renLL, renT, renL_app, renl_I, renl_S, renl_U8, renl_Ty, renl_Tm, renl_Carrier, renl_Decl]) (fun g => rfl) ?_
      conv => whnf
      refine hK9 _ _ ?_
      refine AW.condS rfl h (fun hc2 h => ?_) (fun hc2 h => ?_)
      · refine AW.seqK fun K10 hK10 => ?_
        refine AW.region τ_ok mixedO 0 ?_
        conv => whnf
        refine call_pur (R2_Carrier_ok 0 p2 _ rfl) okF_63 (.cons (.same _) .nil) (fun g => rfl) (fun g => by simp only [ren, renL, renLL, renT, renL_app, renl_I, renl_S, renl_U8, renl_Ty, renl_Tm, renl_Carrier, renl_Decl]) ?_
        conv => whnf
        refine call_pur (R2_Set_ok 0 (Ty.mk 3 p2 ([])) _ rfl) okF_48 (.cons (.same _) .nil) (fun g => by simp only [ren, renL, renLL, renT, renL_app, renl_I, renl_S, renl_U8, renl_Ty, renl_Tm, renl_Carrier, renl_Decl]) (fun g => by simp only [ren, renL, renLL, renT, renL_app, renl_I, renl_S, renl_U8, renl_Ty, renl_Tm, renl_Carrier, renl_Decl]) ?_
        conv => whnf
        refine hK10 _ _ ?_
        refine AW.ret ?_
        conv => whnf
        have e9 := Option.some.inj h
        subst e9
        refine hQ _ _ _ (retPure τ_ok (fun g => by simp only [ren, renL, renLL, renT, renL_app, renl_I, renl_S, renl_U8, renl_Ty, renl_Tm, renl_Carrier, renl_Decl]) ?_)
        conv => whnf
        try rfl
      · refine AW.skip ?_
        conv => whnf
        refine hK8 _ _ ?_
        refine AW.seqK fun K11 hK11 => ?_
        refine AW.seqK fun K12 hK12 => ?_
        refine AW.region τ_ok mixedO 0 ?_
        conv => whnf
        obtain ⟨x4, hx4, h⟩ := ob h
        refine call_pur (R2_FindElement_ok _ _ _ _ hx4) okF_186 (.cons (.same _) (.cons (.same _) .nil)) (fun g => by simp only [ren, renL, renLL, renT, renL_app, renl_I, renl_S, renl_U8, renl_Ty, renl_Tm, renl_Carrier, renl_Decl]) (fun g => by simp only [ren, renL, renLL, renT, renL_app, renl_I, renl_S, renl_U8, renl_Ty, renl_Tm, renl_Carrier, renl_Decl]) ?_
        conv => whnf
        refine hK12 _ _ ?_
        refine AW.seqK fun K13 hK13 => ?_
        refine AW.region τ_ok mixedO 0 ?_
        conv => whnf
        refine hK13 _ _ ?_
        refine AW.condS rfl h (fun hc3 h => ?_) (fun hc3 h => ?_)
        · refine AW.seqK fun K14 hK14 => ?_
          refine AW.region τ_ok mixedO 0 ?_
          conv => whnf
          obtain ⟨x5, hx5, h⟩ := ob h
          refine idx_of (l := p0.carriers) (f := encCarrier) (cs := [.str ((x5).name), .slice (List.map encS ((x5).elems)) .shared]) hx5 (rfl) rfl ?_
          conv => whnf
          refine call_pur (R2_Carrier_ok 0 x5.name _ rfl) okF_63 (.cons (.same _) .nil) (fun g => rfl) (fun g => by simp only [ren, renL, renLL, renT, renL_app, renl_I, renl_S, renl_U8, renl_Ty, renl_Tm, renl_Carrier, renl_Decl]) ?_
          conv => whnf
          refine hK14 _ _ ?_
          refine AW.ret ?_
          conv => whnf
          have e9 := Option.some.inj h
          subst e9
          refine hQ _ _ _ (retPure τ_ok (fun g => by simp only [ren, renL, renLL, renT, renL_app, renl_I, renl_S, renl_U8, renl_Ty, renl_Tm, renl_Carrier, renl_Decl]) ?_)
          conv => whnf
          try rfl
        · refine AW.skip ?_
          conv => whnf
          refine hK11 _ _ ?_
          refine AW.seqK fun K15 hK15 => ?_
          refine AW.region τ_ok mixedO 0 ?_
          conv => whnf
          refine hK15 _ _ ?_
          refine AW.ret ?_
          conv => whnf
          have e9 := Option.some.inj h
          subst e9
          refine hQ _ _ _ (retPure τ_ok (fun g => by simp only [ren, renL, renLL, renT, renL_app, renl_I, renl_S, renl_U8, renl_Ty, renl_Tm, renl_Carrier, renl_Decl]) ?_)
          conv => whnf
          try rfl
  refine AW.loopS (R2_denotes_L0 n p1 p2) (fun (s1 : Int) => (.unk :: (.slice (List.map encDecl p1) .shared :: (.str p2 :: (.ptr 0 0 :: (u2 (.ptr 1 0 :: (.unk :: (.int .i64 s1 :: (u32 (u16 (u8 [])))))))))))) (fun (s1 : Int) => [.box [.slice (List.map encCarrier p0.carriers) .shared, .slice (List.map encDecl p0.names) .shared], .box [.int .i64 0, .str ([] : Str), .slice (List.map encTy ([] : List Ty)) .nils]]) ho1 (fun _ => rfl) (Le.of [some 0, some 1] (Weak.mk' rfl (.cons (.unk _) (.cons (.share (renl_Decl _ _)) (.cons (.same rfl) (.cons (.same rfl) (.u2 (.cons (.same rfl) (.cons (.unk _) (.cons (.same rfl) (.u32 (.u16 (.u8 .nil))))))))))) (.old (.box' (.cons (.share (renl_Carrier _ _)) (.cons (.share (renl_Decl _ _)) .nil))) (.old (.box' (.cons (.same rfl) (.cons (.same rfl) (.cons (.same rfl) .nil)))) .nil)))) ?_
  intro n1 s1 hs1 KL1 hKL1
  unfold R2_denotes_L0 at hs1
  refine AW.seqK fun K16 hK16 => ?_
  refine AW.seqK fun K17 hK17 => ?_
  refine AW.region τ_ok mixedO 0 ?_
  conv => whnf
  refine hK17 _ _ ?_
  refine AW.condS rfl hs1 (fun hc4 hs1 => ?_) (fun hc4 hs1 => ?_)
  · refine AW.skip ?_
    conv => whnf
    refine hK16 _ _ ?_
    refine AW.seqK fun K18 hK18 => ?_
    refine AW.block ?_
    refine AW.seqK fun K19 hK19 => ?_
    refine AW.region τ_ok mixedO 0 ?_
    conv => whnf
    obtain ⟨x6, hx6, hs1⟩ := ob hs1
    refine idx_of (l := p1) (f := encDecl) (cs := [.str ((x6).name), .int .i64 (((x6).ty).kind), .str (((x6).ty).name), .slice (List.map encTy (((x6).ty).kids)) .shared]) hx6 (rfl) rfl ?_
    conv => whnf
    refine hK19 _ _ ?_
    refine AW.condS rfl hs1 (fun hc5 hs1 => ?_) (fun hc5 hs1 => ?_)
    · refine AW.seqK fun K20 hK20 => ?_
      refine AW.region τ_ok mixedO 0 ?_
      conv => whnf
      obtain ⟨x7, hx7, hs1⟩ := ob hs1
      refine idx_of (l := p1) (f := encDecl) (cs := [.str ((x7).name), .int .i64 (((x7).ty).kind), .str (((x7).ty).name), .slice (List.map encTy (((x7).ty).kids)) .shared]) hx7 (rfl) rfl ?_
      conv => whnf
      refine hK20 _ _ ?_
      refine AW.ret ?_
      conv => whnf
      have e9 := Option.some.inj hs1
      subst e9
      dsimp only [LR.el] at h
      have e9 := Option.some.inj h
      subst e9
      refine hQ _ _ _ (retPure τ_ok (fun g => by simp only [ren, renL, renLL, renT, renL_app, renl_I, renl_S, renl_U8, renl_Ty, renl_Tm, renl_Carrier, renl_Decl]) ?_)
      conv => whnf
      try rfl
    · refine AW.skip ?_
      conv => whnf
      refine hK18 _ _ ?_
      refine AW.know 8 0 fun hv2 => ?_
      refine AW.region τ_ok mixedO 0 ?_
      conv => whnf
      refine ⟨(s1 - 1), by have := wf64 hv2; have h8 := of_decide_eq_true hc4; exact w64_id (by omega) (by omega), ?_⟩
      conv => whnf
      exact hKL1 _ _ _ hs1 (Le.of [some 0, some 1] (Weak.mk' rfl (.cons (.unk _) (.cons (.share (renl_Decl _ _)) (.cons (.same rfl) (.cons (.same rfl) (.u2 (.cons (.same rfl) (.cons (.unk _) (.cons (.same rfl) (.u32 (.u16 (.u8 .nil))))))))))) (.old (.box' (.cons (.share (renl_Carrier _ _)) (.cons (.share (renl_Decl _ _)) .nil))) (.old (.box' (.cons (.same rfl) (.cons (.same rfl) (.cons (.same rfl) .nil)))) .nil))))
  · refine AW.exit ?_
    conv => whnf
    exact hR1 _ (Option.some.inj hs1).symm _ _ (Le.of [some 0, some 1] (Weak.mk' rfl (.u2 (.cons (.same rfl) (.cons (.same rfl) (.u2 (.cons (.same rfl) (.u32 (.u16 (.u8 (.u2 .nil))))))))) (.old (.box' (.cons (.share (renl_Carrier _ _)) (.cons (.share (renl_Decl _ _)) .nil))) (.old (.box' (.cons (.same rfl) (.cons (.same rfl) (.cons (.same rfl) .nil)))) .nil))))
def R1_CopyType_L0 (n : Nat) (rec_R1_CopyType : Ty → Option Ty) (p0 : Ty) : Nat → (Int × (List Ty)) → Option (LR (List Ty) Ty)
  | 0, _ => none
  | k + 1, s1 => (cond (decide (s1.1 < (p0.kids.length : Int))) ((idx p0.kids s1.1).bind fun (x1 : Ty) => ((rec_R1_CopyType x1).bind fun (x2 : Ty) => ((app 48 s1.2 ([x2])).bind fun (x3 : List Ty) => R1_CopyType_L0 n rec_R1_CopyType p0 k ((s1.1 + 1), x3)))) (some (.nx s1.2)))
def R1_CopyType_body (n : Nat) (rec_R1_CopyType : Ty → Option Ty) (p0 : Ty) : Option Ty := ((R1_CopyType_L0 n rec_R1_CopyType p0 n (0, ([] : List Ty))).bind (LR.el (fun (s2 : List Ty) => some (Ty.mk p0.kind p0.name s2)) (fun r => some r)))
def R1_CopyType : Nat → Ty → Option Ty
  | 0, _ => none
  | n + 1, p0 => R1_CopyType_body n (fun p0 => R1_CopyType n p0) p0
set_option maxRecDepth 100000 in
set_option maxHeartbeats 40000000 in
theorem R1_CopyType_body_ok (n : Nat) (rec_R1_CopyType : Ty → Option Ty) (hrec_R1_CopyType : ∀ (p0 : Ty) (r : Ty), rec_R1_CopyType p0 = some r → ACalls Tryz.prog 72 [.agg [.int .i64 p0.kind, .str p0.name, .slice (List.map encTy p0.kids) .shared]] [] (.agg [.int .i64 r.kind, .str r.name, .slice (List.map encTy r.kids) .shared]) []) (p0 : Ty) (r : Ty) (h : R1_CopyType_body n rec_R1_CopyType p0 = some r) : ACalls Tryz.prog 72 [.agg [.int .i64 p0.kind, .str p0.name, .slice (List.map encTy p0.kids) .shared]] [] (.agg [.int .i64 r.kind, .str r.name, .slice (List.map encTy r.kids) .shared]) [] := by
  unfold R1_CopyType_body at h
  refine acalls_start true Tryz.func72 rfl (by rw [Tryz.ntmps72]; exact Nat.le_of_ble_eq_true rfl) fun Q hQ t ht => ?_
  conv at ht => whnf
  subst ht
  refine AW.seqK fun K1 hK1 => ?_
  refine AW.region τ_ok mixedO 2 ?_
  conv => whnf
  refine hK1 _ _ ?_
  refine AW.seqK fun K2 hK2 => ?_
  refine AW.region τ_ok mixedO 1 ?_
  conv => whnf
  refine hK2 _ _ ?_
  refine AW.seqK fun K3 hK3 => ?_
  refine AW.seqK fun K4 hK4 => ?_
  refine AW.region τ_ok mixedO 0 ?_
  conv => whnf
  refine hK4 _ _ ?_
  refine AW.block ?_
  obtain ⟨o1, ho1, h⟩ := ob h
  have hR1 : ∀ s2 : List Ty, o1 = .nx s2 → ∀ t9 h9, Le 0 t9 h9 (u2 (.ptr 0 0 :: (.ptr 1 0 :: (u16 (u8 (.unk :: [])))))) [.box [.int .i64 0, .str ([] : Str), .slice (List.map encTy ([] : List Ty)) .nils], .box [.int .i64 p0.kind, .str p0.name, .slice (List.map encTy s2) (.tip 2 3)], .tip (List.length s2 * 3)] → K3 t9 h9 := by
    intro s2 ho
    subst ho
    dsimp only [LR.el] at h
    intro t9 h9 hw
    refine hK3 _ _ (AW.le hw ?_)
    refine AW.seqK fun K5 hK5 => ?_
    refine AW.region τ_ok mixedO 0 ?_
    conv => whnf
    refine hK5 _ _ ?_
    refine AW.ret ?_
    conv => whnf
    have e9 := Option.some.inj h
    subst e9
    refine hQ _ _ _ (retPure τ_ok (fun g => by simp only [ren, renL, renLL, renT, renL_app, renl_I, renl_S, renl_U8, renl_Ty, renl_Tm, renl_Carrier, renl_Decl]) ?_)
    conv => whnf
    try rfl
  refine AW.loopS (R1_CopyType_L0 n rec_R1_CopyType p0) (fun (s1 : Int × (List Ty)) => (.unk :: (.ptr 0 0 :: (.ptr 1 0 :: (.ptr 2 0 :: (.int .i64 s1.1 :: (u16 (u8 [])))))))) (fun (s1 : Int × (List Ty)) => [.box [.int .i64 p0.kind, .str p0.name, .slice (List.map encTy p0.kids) .shared], .box [.int .i64 0, .str ([] : Str), .slice (List.map encTy ([] : List Ty)) .nils], .box [.int .i64 p0.kind, .str p0.name, .slice (List.map encTy s1.2) (.tip 3 3)], .tip (List.length s1.2 * 3)]) ho1 (fun _ => rfl) (Le.of [some 0, some 1, some 2, none] (Weak.mk' rfl (.cons (.unk _) (.cons (.same rfl) (.cons (.same rfl) (.cons (.same rfl) (.cons (.same rfl) (.u16 (.u8 .nil))))))) (.old (.box' (.cons (.same rfl) (.cons (.same rfl) (.cons (.share (renl_Ty _ _)) .nil)))) (.old (.box' (.cons (.same rfl) (.cons (.same rfl) (.cons (.same rfl) .nil)))) (.old (.box' (.cons (.same rfl) (.cons (.same rfl) (.cons (.nils _ _) .nil)))) (.new rfl .nil)))))) ?_
  intro n1 s1 hs1 KL1 hKL1
  unfold R1_CopyType_L0 at hs1
  refine AW.seqK fun K6 hK6 => ?_
  refine AW.seqK fun K7 hK7 => ?_
  refine AW.region τ_ok mixedO 0 ?_
  conv => whnf
  refine len_of (l := p0.kids) (f := encTy) ?_
  conv => whnf
  refine hK7 _ _ ?_
  refine AW.condS rfl hs1 (fun hc1 hs1 => ?_) (fun hc1 hs1 => ?_)
  · refine AW.skip ?_
    conv => whnf
    refine hK6 _ _ ?_
    refine AW.seqK fun K8 hK8 => ?_
    refine AW.block ?_
    refine AW.region τ_ok mixedO 2 ?_
    conv => whnf
    obtain ⟨x1, hx1, hs1⟩ := ob hs1
    refine idx_of (l := p0.kids) (f := encTy) (cs := [.int .i64 ((x1).kind), .str ((x1).name), .slice (List.map encTy ((x1).kids)) .shared]) hx1 (encTy_eq x1) rfl ?_
    conv => whnf
    obtain ⟨x2, hx2, hs1⟩ := ob hs1
    refine call_pur (hrec_R1_CopyType _ _ hx2) okF_72 (.cons (.same _) .nil) (fun g => by simp only [ren, renL, renLL, renT, renL_app, renl_I, renl_S, renl_U8, renl_Ty, renl_Tm, renl_Carrier, renl_Decl]) (fun g => by simp only [ren, renL, renLL, renT, renL_app, renl_I, renl_S, renl_U8, renl_Ty, renl_Tm, renl_Carrier, renl_Decl]) ?_
    conv => whnf
    refine ⟨List.map encTy ([x2]), by simp only [List.map_cons, List.map_nil, encTy_eq]; rfl, ?_⟩
    conv => whnf
    obtain ⟨x3, hx3, hs1⟩ := ob hs1
    refine app_tip (l := s1.2) (ys := [x2]) (f := encTy) hx3 ok_Ty rfl rfl rfl ?_
    conv => whnf
    refine ⟨rfl, ?_⟩
    conv => whnf
    refine hK8 _ _ ?_
    refine AW.know 4 0 fun hv1 => ?_
    refine AW.know 12 0 fun hv2 => ?_
    refine AW.region τ_ok mixedO 0 ?_
    conv => whnf
    refine ⟨(s1.1 + 1), by have := wf64 hv1; have := vfl hv2; have h8 := of_decide_eq_true hc1; exact w64_id (by omega) (by omega), ?_⟩
    conv => whnf
    exact hKL1 _ _ _ hs1 (Le.of [some 0, some 1, some 2, some 5] (Weak.mk' rfl (.cons (.unk _) (.cons (.same rfl) (.cons (.same rfl) (.cons (.same rfl) (.cons (.same rfl) (.u16 (.u8 .nil))))))) (.old (.box' (.cons (.same rfl) (.cons (.same rfl) (.cons (.share (renl_Ty _ _)) .nil)))) (.old (.box' (.cons (.same rfl) (.cons (.same rfl) (.cons (.same rfl) .nil)))) (.old (.box' (.cons (.same rfl) (.cons (.same rfl) (.cons (.tipS (renl_Ty _ _) rfl) .nil)))) (.old (.tip _) .nil))))))
  · refine AW.exit ?_
    conv => whnf
    exact hR1 _ (Option.some.inj hs1).symm _ _ (Le.of [some 1, some 2, some 3] (Weak.mk' rfl (.u2 (.cons (.same rfl) (.cons (.same rfl) (.u16 (.u8 (.cons (.unk _) .nil)))))) (.old (.box' (.cons (.same rfl) (.cons (.same rfl) (.cons (.same rfl) .nil)))) (.old (.box' (.cons (.same rfl) (.cons (.same rfl) (.cons (.tipS (renl_Ty _ _) rfl) .nil)))) (.old (.tip _) .nil)))))
theorem R1_CopyType_all (n : Nat) : (∀ (p0 : Ty) (r : Ty), R1_CopyType n p0 = some r → ACalls Tryz.prog 72 [.agg [.int .i64 p0.kind, .str p0.name, .slice (List.map encTy p0.kids) .shared]] [] (.agg [.int .i64 r.kind, .str r.name, .slice (List.map encTy r.kids) .shared]) []) := by
  induction n with
  | zero => exact (fun p0 r h => by unfold R1_CopyType at h; cases h)
  | succ n ih =>
    exact (fun p0 r h => R1_CopyType_body_ok n _ ih p0 r (by unfold R1_CopyType at h; exact h))
theorem R1_CopyType_ok (n : Nat) (p0 : Ty) (r : Ty) (h : R1_CopyType n p0 = some r) : ACalls Tryz.prog 72 [.agg [.int .i64 p0.kind, .str p0.name, .slice (List.map encTy p0.kids) .shared]] [] (.agg [.int .i64 r.kind, .str r.name, .slice (List.map encTy r.kids) .shared]) [] := (R1_CopyType_all n) p0 r h
def R2_Lookup (n : Nat) (p0 : Env) (p1 : Str) : Option (Ty × Bool) := ((R2_ValidEnv n p0).bind fun (x1 : Bool) => (cond (!x1) (some ((Ty.mk 0 ([] : Str) ([])), false)) ((R2_denotes n p0 ([] : List Decl) p1).bind fun (x2 : Ty × Bool) => ((R1_CopyType n x2.1).bind fun (x3 : Ty) => some (x3, x2.2)))))
set_option maxRecDepth 100000 in
set_option maxHeartbeats 40000000 in
theorem R2_Lookup_ok (n : Nat) (p0 : Env) (p1 : Str) (r : Ty × Bool) (h : R2_Lookup n p0 p1 = some r) : ACalls Tryz.prog 52 [.agg [.slice (List.map encCarrier p0.carriers) .shared, .slice (List.map encDecl p0.names) .shared], .str p1] [] (.tup [.agg [.int .i64 r.1.kind, .str r.1.name, .slice (List.map encTy r.1.kids) .shared], .bool r.2]) [] := by
  unfold R2_Lookup at h
  refine acalls_start true Tryz.func52 rfl (by rw [Tryz.ntmps52]; exact Nat.le_of_ble_eq_true rfl) fun Q hQ t ht => ?_
  conv at ht => whnf
  subst ht
  refine AW.seqK fun K1 hK1 => ?_
  refine AW.region τ_ok mixedO 2 ?_
  conv => whnf
  refine hK1 _ _ ?_
  refine AW.seqK fun K2 hK2 => ?_
  refine AW.seqK fun K3 hK3 => ?_
  refine AW.region τ_ok mixedO 0 ?_
  conv => whnf
  obtain ⟨x1, hx1, h⟩ := ob h
  refine call_pur (R2_ValidEnv_ok _ _ _ hx1) okF_56 (.cons (.same _) .nil) (fun g => by simp only [ren, renL, renLL, renT, renL_app, renl_I, renl_S, renl_U8, renl_Ty, renl_Tm, renl_Carrier, renl_Decl]) (fun g => rfl) ?_
  conv => whnf
  refine hK3 _ _ ?_
  refine AW.condS rfl h (fun hc1 h => ?_) (fun hc1 h => ?_)
  · refine AW.seqK fun K4 hK4 => ?_
    refine AW.region τ_ok mixedO 0 ?_
    conv => whnf
    refine hK4 _ _ ?_
    refine AW.ret ?_
    conv => whnf
    have e9 := Option.some.inj h
    subst e9
    refine hQ _ _ _ (retPure τ_ok (fun g => by simp only [ren, renL, renLL, renT, renL_app, renl_I, renl_S, renl_U8, renl_Ty, renl_Tm, renl_Carrier, renl_Decl]) ?_)
    conv => whnf
    try rfl
  · refine AW.skip ?_
    conv => whnf
    refine hK2 _ _ ?_
    refine AW.seqK fun K5 hK5 => ?_
    refine AW.region τ_ok mixedO 1 ?_
    conv => whnf
    obtain ⟨x2, hx2, h⟩ := ob h
    refine call_pur (R2_denotes_ok _ _ _ _ _ hx2) okF_111 (.cons (.same _) (.cons (.share _ _) (.cons (.same _) .nil))) (fun g => by simp only [ren, renL, renLL, renT, renL_app, renl_I, renl_S, renl_U8, renl_Ty, renl_Tm, renl_Carrier, renl_Decl]) (fun g => by simp only [ren, renL, renLL, renT, renL_app, renl_I, renl_S, renl_U8, renl_Ty, renl_Tm, renl_Carrier, renl_Decl]) ?_
    conv => whnf
    refine hK5 _ _ ?_
    refine AW.seqK fun K6 hK6 => ?_
    refine AW.region τ_ok mixedO 0 ?_
    conv => whnf
    obtain ⟨x3, hx3, h⟩ := ob h
    refine call_pur (R1_CopyType_ok _ _ _ hx3) okF_72 (.cons (.same _) .nil) (fun g => by simp only [ren, renL, renLL, renT, renL_app, renl_I, renl_S, renl_U8, renl_Ty, renl_Tm, renl_Carrier, renl_Decl]) (fun g => by simp only [ren, renL, renLL, renT, renL_app, renl_I, renl_S, renl_U8, renl_Ty, renl_Tm, renl_Carrier, renl_Decl]) ?_
    conv => whnf
    refine hK6 _ _ ?_
    refine AW.ret ?_
    conv => whnf
    have e9 := Option.some.inj h
    subst e9
    refine hQ _ _ _ (retPure τ_ok (fun g => by simp only [ren, renL, renLL, renT, renL_app, renl_I, renl_S, renl_U8, renl_Ty, renl_Tm, renl_Carrier, renl_Decl]) ?_)
    conv => whnf
    try rfl
def slices_Index_string_L0 (n : Nat) (p0 : List Str) (p1 : Str) : Nat → Int → Option (LR Unit Int)
  | 0, _ => none
  | k + 1, s1 => (cond (decide (s1 < (p0.length : Int))) ((idx p0 s1).bind fun (x1 : Str) => (cond (p1 == x1) (some (.rt s1)) (slices_Index_string_L0 n p0 p1 k (s1 + 1)))) (some (.nx ())))
def slices_Index_string (n : Nat) (p0 : List Str) (p1 : Str) : Option Int := ((slices_Index_string_L0 n p0 p1 n 0).bind (LR.el (fun (s2 : Unit) => some (-1)) (fun r => some r)))
set_option maxRecDepth 100000 in
set_option maxHeartbeats 40000000 in
theorem slices_Index_string_ok (n : Nat) (p0 : List Str) (p1 : Str) (r : Int) (h : slices_Index_string n p0 p1 = some r) : ACalls Tryz.prog 188 [.slice (List.map encS p0) .shared, .str p1] [] (.int .i64 r) [] := by
  unfold slices_Index_string at h
  refine acalls_start true Tryz.func188 rfl (by rw [Tryz.ntmps188]; exact Nat.le_of_ble_eq_true rfl) fun Q hQ t ht => ?_
  conv at ht => whnf
  subst ht
  refine AW.seqK fun K1 hK1 => ?_
  refine AW.region τ_ok mixedO 0 ?_
  conv => whnf
  refine hK1 _ _ ?_
  refine AW.seqK fun K2 hK2 => ?_
  refine AW.seqK fun K3 hK3 => ?_
  refine AW.region τ_ok mixedO 0 ?_
  conv => whnf
  refine len_of (l := p0) (f := encS) ?_
  conv => whnf
  refine hK3 _ _ ?_
  refine AW.block ?_
  obtain ⟨o1, ho1, h⟩ := ob h
  have hR1 : ∀ s2 : Unit, o1 = .nx s2 → ∀ t9 h9, Le 0 t9 h9 (u16 (u2 (.unk :: []))) [] → K2 t9 h9 := by
    intro s2 ho
    subst ho
    dsimp only [LR.el] at h
    intro t9 h9 hw
    refine hK2 _ _ (AW.le hw ?_)
    refine AW.seqK fun K4 hK4 => ?_
    refine AW.region τ_ok mixedO 0 ?_
    conv => whnf
    refine hK4 _ _ ?_
    refine AW.ret ?_
    conv => whnf
    have e9 := Option.some.inj h
    subst e9
    refine hQ _ _ _ (retPure τ_ok (fun g => rfl) ?_)
    conv => whnf
  refine AW.loopS (slices_Index_string_L0 n p0 p1) (fun (s1 : Int) => (.slice (List.map encS p0) .shared :: (.str p1 :: (u4 (.unk :: (.int .i64 (p0.length : Int) :: (.int .i64 s1 :: (u8 (u2 []))))))))) (fun (s1 : Int) => []) ho1 (fun _ => rfl) (Le.of [] (Weak.mk' rfl (.cons (.share (renl_S _ _)) (.cons (.same rfl) (.u4 (.cons (.unk _) (.cons (.same rfl) (.cons (.same rfl) (.u8 (.u2 .nil)))))))) .nil)) ?_
  intro n1 s1 hs1 KL1 hKL1
  unfold slices_Index_string_L0 at hs1
  refine AW.seqK fun K5 hK5 => ?_
  refine AW.region τ_ok mixedO 0 ?_
  conv => whnf
  refine hK5 _ _ ?_
  refine AW.seqK fun K6 hK6 => ?_
  refine AW.condS rfl hs1 (fun hc1 hs1 => ?_) (fun hc1 hs1 => ?_)
  · refine AW.skip ?_
    conv => whnf
    refine hK6 _ _ ?_
    refine AW.seqK fun K7 hK7 => ?_
    refine AW.block ?_
    refine AW.seqK fun K8 hK8 => ?_
    refine AW.region τ_ok mixedO 0 ?_
    conv => whnf
    refine hK8 _ _ ?_
    refine AW.seqK fun K9 hK9 => ?_
    refine AW.region τ_ok mixedO 0 ?_
    conv => whnf
    obtain ⟨x1, hx1, hs1⟩ := ob hs1
    refine idx_of (l := p0) (f := encS) (cs := [.str (x1)]) hx1 (rfl) rfl ?_
    conv => whnf
    refine hK9 _ _ ?_
    refine AW.condS rfl hs1 (fun hc2 hs1 => ?_) (fun hc2 hs1 => ?_)
    · refine AW.seqK fun K10 hK10 => ?_
      refine AW.region τ_ok mixedO 0 ?_
      conv => whnf
      refine hK10 _ _ ?_
      refine AW.ret ?_
      conv => whnf
      have e9 := Option.some.inj hs1
      subst e9
      dsimp only [LR.el] at h
      have e9 := Option.some.inj h
      subst e9
      refine hQ _ _ _ (retPure τ_ok (fun g => rfl) ?_)
      conv => whnf
    · refine AW.skip ?_
      conv => whnf
      refine hK7 _ _ ?_
      refine AW.know 5 0 fun hv1 => ?_
      refine AW.know 0 0 fun hv2 => ?_
      refine AW.region τ_ok mixedO 0 ?_
      conv => whnf
      refine ⟨(s1 + 1), by have := wf64 hv1; have := vfl hv2; have h8 := of_decide_eq_true hc1; exact w64_id (by omega) (by omega), ?_⟩
      conv => whnf
      exact hKL1 _ _ _ hs1 (Le.of [] (Weak.mk' rfl (.cons (.share (renl_S _ _)) (.cons (.same rfl) (.u4 (.cons (.unk _) (.cons (.same rfl) (.cons (.same rfl) (.u8 (.u2 .nil)))))))) .nil))
  · refine AW.exit ?_
    conv => whnf
    exact hR1 _ (Option.some.inj hs1).symm _ _ (Le.of [] (Weak.mk' rfl (.u16 (.u2 (.cons (.unk _) .nil))) .nil))
def slices_Contains_string (n : Nat) (p0 : List Str) (p1 : Str) : Option Bool := ((slices_Index_string n p0 p1).bind fun (x1 : Int) => some (decide (0 ≤ x1)))
set_option maxRecDepth 100000 in
set_option maxHeartbeats 40000000 in
theorem slices_Contains_string_ok (n : Nat) (p0 : List Str) (p1 : Str) (r : Bool) (h : slices_Contains_string n p0 p1 = some r) : ACalls Tryz.prog 113 [.slice (List.map encS p0) .shared, .str p1] [] (.bool r) [] := by
  unfold slices_Contains_string at h
  refine acalls_start true Tryz.func113 rfl (by rw [Tryz.ntmps113]; exact Nat.le_of_ble_eq_true rfl) fun Q hQ t ht => ?_
  conv at ht => whnf
  subst ht
  refine AW.seqK fun K1 hK1 => ?_
  refine AW.region τ_ok mixedO 0 ?_
  conv => whnf
  refine hK1 _ _ ?_
  refine AW.seqK fun K2 hK2 => ?_
  refine AW.region τ_ok mixedO 0 ?_
  conv => whnf
  obtain ⟨x1, hx1, h⟩ := ob h
  refine call_pur (slices_Index_string_ok _ _ _ _ hx1) okF_188 (.cons (.same _) (.cons (.same _) .nil)) (fun g => by simp only [ren, renL, renLL, renT, renL_app, renl_I, renl_S, renl_U8, renl_Ty, renl_Tm, renl_Carrier, renl_Decl]) (fun g => rfl) ?_
  conv => whnf
  refine hK2 _ _ ?_
  refine AW.ret ?_
  conv => whnf
  have e9 := Option.some.inj h
  subst e9
  refine hQ _ _ _ (retPure τ_ok (fun g => rfl) ?_)
  conv => whnf
end Abs
end Go.Proofs.YtiiaccpcoclklaaGreat
