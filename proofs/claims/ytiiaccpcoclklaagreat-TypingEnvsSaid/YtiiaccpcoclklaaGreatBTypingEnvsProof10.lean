/-
  Plain functions and the contracts of Go functions by them (printed by gen.py). Conditions: none. Valid types: the program's functions and the document's come to the same plain answer. Conditions: none; lemmas without a program. Calls whose contracts stand already, kept in a list, for the run by 'xcall'. Conditions: none; over any program. What the run of 'awake' takes for granted: slices.Sorted's contract; that the functions have bodies. Conditions: none. The run of Parse that 'awake' asks for. Conditions: none. The run of TypeOf that 'awake' asks for. Conditions: none. The contract of 'awake': it returns true. Conditions: none. Plain functions and the contracts of Go functions by them (printed by gen.py). Conditions: none.
-/
import Derived.Test.YtiiaccpcoclklaaGreatBTypingEnvsProof5
import Derived.KernelRfl
import Derived.Test.YtiiaccpcoclklaaGreatBTypingEnvsProof9
import Derived.Test.YtiiaccpcoclklaaGreatBTypingEnvsProof7
set_option linter.unusedSimpArgs false
set_option linter.unusedVariables false
namespace Go.Proofs.YtiiaccpcoclklaaGreat
namespace Abs
open Go Go.Proofs
def R2_holdsBool_L0 (n : Nat) (rec_R2_holdsBool : Ty → Option Bool) (p0 : Ty) : Nat → Int → Option (LR Unit Bool)
  | 0, _ => none
  | k + 1, s1 => (cond (decide (s1 < (p0.kids.length : Int))) ((idx p0.kids s1).bind fun (x1 : Ty) => ((rec_R2_holdsBool x1).bind fun (x2 : Bool) => (cond x2 (some (.rt true)) (R2_holdsBool_L0 n rec_R2_holdsBool p0 k (s1 + 1))))) (some (.nx ())))
def R2_holdsBool_body (n : Nat) (rec_R2_holdsBool : Ty → Option Bool) (p0 : Ty) : Option Bool := (cond (p0.kind == 2) (some true) ((R2_holdsBool_L0 n rec_R2_holdsBool p0 n 0).bind (LR.el (fun (s2 : Unit) => some false) (fun r => some r))))
def R2_holdsBool : Nat → Ty → Option Bool
  | 0, _ => none
  | n + 1, p0 => R2_holdsBool_body n (fun p0 => R2_holdsBool n p0) p0
set_option maxRecDepth 100000 in
set_option maxHeartbeats 40000000 in
theorem R2_holdsBool_body_ok (n : Nat) (rec_R2_holdsBool : Ty → Option Bool) (hrec_R2_holdsBool : ∀ (p0 : Ty) (r : Bool), rec_R2_holdsBool p0 = some r → ACalls Tryz.prog 99 [.agg [.int .i64 p0.kind, .str p0.name, .slice (List.map encTy p0.kids) .shared]] [] (.bool r) []) (p0 : Ty) (r : Bool) (h : R2_holdsBool_body n rec_R2_holdsBool p0 = some r) : ACalls Tryz.prog 99 [.agg [.int .i64 p0.kind, .str p0.name, .slice (List.map encTy p0.kids) .shared]] [] (.bool r) [] := by
  unfold R2_holdsBool_body at h
  refine acalls_start true Tryz.func99 rfl (by rw [Tryz.ntmps99]; exact Nat.le_of_ble_eq_true rfl) fun Q hQ t ht => ?_
  conv at ht => whnf
  subst ht
  refine AW.seqK fun K1 hK1 => ?_
  refine AW.region τ_ok mixedO 1 ?_
  conv => whnf
  refine hK1 _ _ ?_
  refine AW.seqK fun K2 hK2 => ?_
  refine AW.seqK fun K3 hK3 => ?_
  refine AW.region τ_ok mixedO 0 ?_
  conv => whnf
  refine hK3 _ _ ?_
  refine AW.condS rfl h (fun hc1 h => ?_) (fun hc1 h => ?_)
  · refine AW.seqK fun K4 hK4 => ?_
    refine AW.region τ_ok mixedO 0 ?_
    conv => whnf
    refine hK4 _ _ ?_
    refine AW.ret ?_
    conv => whnf
    have e9 := Option.some.inj h
    subst e9
    refine hQ _ _ _ (retPure τ_ok (fun g => rfl) ?_)
    conv => whnf
  · refine AW.skip ?_
    conv => whnf
    refine hK2 _ _ ?_
    refine AW.seqK fun K5 hK5 => ?_
    refine AW.seqK fun K6 hK6 => ?_
    refine AW.region τ_ok mixedO 0 ?_
    conv => whnf
    refine hK6 _ _ ?_
    refine AW.block ?_
    obtain ⟨o1, ho1, h⟩ := ob h
    have hR1 : ∀ s2 : Unit, o1 = .nx s2 → ∀ t9 h9, Le 0 t9 h9 (u16 (u4 [])) [] → K5 t9 h9 := by
      intro s2 ho
      subst ho
      dsimp only [LR.el] at h
      intro t9 h9 hw
      refine hK5 _ _ (AW.le hw ?_)
      refine AW.seqK fun K7 hK7 => ?_
      refine AW.region τ_ok mixedO 0 ?_
      conv => whnf
      refine hK7 _ _ ?_
      refine AW.ret ?_
      conv => whnf
      have e9 := Option.some.inj h
      subst e9
      refine hQ _ _ _ (retPure τ_ok (fun g => rfl) ?_)
      conv => whnf
    refine AW.loopS (R2_holdsBool_L0 n rec_R2_holdsBool p0) (fun (s1 : Int) => (.unk :: (.ptr 0 0 :: (.unk :: (.int .i64 s1 :: (u16 [])))))) (fun (s1 : Int) => [.box [.int .i64 p0.kind, .str p0.name, .slice (List.map encTy p0.kids) .shared]]) ho1 (fun _ => rfl) (Le.of [some 0] (Weak.mk' rfl (.cons (.unk _) (.cons (.same rfl) (.cons (.unk _) (.cons (.same rfl) (.u16 .nil))))) (.old (.box' (.cons (.same rfl) (.cons (.same rfl) (.cons (.share (renl_Ty _ _)) .nil)))) .nil))) ?_
    intro n1 s1 hs1 KL1 hKL1
    unfold R2_holdsBool_L0 at hs1
    refine AW.seqK fun K8 hK8 => ?_
    refine AW.seqK fun K9 hK9 => ?_
    refine AW.region τ_ok mixedO 0 ?_
    conv => whnf
    refine len_of (l := p0.kids) (f := encTy) ?_
    conv => whnf
    refine hK9 _ _ ?_
    refine AW.condS rfl hs1 (fun hc2 hs1 => ?_) (fun hc2 hs1 => ?_)
    · refine AW.skip ?_
      conv => whnf
      refine hK8 _ _ ?_
      refine AW.seqK fun K10 hK10 => ?_
      refine AW.block ?_
      refine AW.seqK fun K11 hK11 => ?_
      refine AW.region τ_ok mixedO 0 ?_
      conv => whnf
      obtain ⟨x1, hx1, hs1⟩ := ob hs1
      refine idx_of (l := p0.kids) (f := encTy) (cs := [.int .i64 ((x1).kind), .str ((x1).name), .slice (List.map encTy ((x1).kids)) .shared]) hx1 (encTy_eq x1) rfl ?_
      conv => whnf
      obtain ⟨x2, hx2, hs1⟩ := ob hs1
      refine call_pur (hrec_R2_holdsBool _ _ hx2) okF_99 (.cons (.same _) .nil) (fun g => by simp only [ren, renL, renLL, renT, renL_app, renl_I, renl_S, renl_U8, renl_Ty, renl_Tm, renl_Carrier, renl_Decl]) (fun g => rfl) ?_
      conv => whnf
      refine hK11 _ _ ?_
      refine AW.condS rfl hs1 (fun hc3 hs1 => ?_) (fun hc3 hs1 => ?_)
      · refine AW.seqK fun K12 hK12 => ?_
        refine AW.region τ_ok mixedO 0 ?_
        conv => whnf
        refine hK12 _ _ ?_
        refine AW.ret ?_
        conv => whnf
        have e9 := Option.some.inj hs1
        subst e9
        dsimp only [LR.el] at h
        have e9 := Option.some.inj h
        subst e9
        refine hQ _ _ _ (retPure τ_ok (fun g => rfl) ?_)
        conv => whnf
      · refine AW.skip ?_
        conv => whnf
        refine hK10 _ _ ?_
        refine AW.know 3 0 fun hv1 => ?_
        refine AW.know 9 0 fun hv2 => ?_
        refine AW.region τ_ok mixedO 0 ?_
        conv => whnf
        refine ⟨(s1 + 1), by have := wf64 hv1; have := vfl hv2; have h8 := of_decide_eq_true hc2; exact w64_id (by omega) (by omega), ?_⟩
        conv => whnf
        exact hKL1 _ _ _ hs1 (Le.of [some 0] (Weak.mk' rfl (.cons (.unk _) (.cons (.same rfl) (.cons (.unk _) (.cons (.same rfl) (.u16 .nil))))) (.old (.box' (.cons (.same rfl) (.cons (.same rfl) (.cons (.share (renl_Ty _ _)) .nil)))) .nil)))
    · refine AW.exit ?_
      conv => whnf
      exact hR1 _ (Option.some.inj hs1).symm _ _ (Le.of [] (Weak.mk' rfl (.u16 (.u4 .nil)) .nil))
theorem R2_holdsBool_all (n : Nat) : (∀ (p0 : Ty) (r : Bool), R2_holdsBool n p0 = some r → ACalls Tryz.prog 99 [.agg [.int .i64 p0.kind, .str p0.name, .slice (List.map encTy p0.kids) .shared]] [] (.bool r) []) := by
  induction n with
  | zero => exact (fun p0 r h => by unfold R2_holdsBool at h; cases h)
  | succ n ih =>
    exact (fun p0 r h => R2_holdsBool_body_ok n _ ih p0 r (by unfold R2_holdsBool at h; exact h))
theorem R2_holdsBool_ok (n : Nat) (p0 : Ty) (r : Bool) (h : R2_holdsBool n p0 = some r) : ACalls Tryz.prog 99 [.agg [.int .i64 p0.kind, .str p0.name, .slice (List.map encTy p0.kids) .shared]] [] (.bool r) [] := (R2_holdsBool_all n) p0 r h
def R2_carriers_L0 (n : Nat) (rec_R2_carriers : Ty → Option (List Str)) (p0 : Ty) : Nat → ((List Str) × Int) → Option (LR (List Str) (List Str))
  | 0, _ => none
  | k + 1, s1 => (cond (decide (s1.2 < (p0.kids.length : Int))) ((idx p0.kids s1.2).bind fun (x1 : Ty) => ((rec_R2_carriers x1).bind fun (x2 : List Str) => ((app 16 s1.1 x2).bind fun (x3 : List Str) => R2_carriers_L0 n rec_R2_carriers p0 k (x3, (s1.2 + 1))))) (some (.nx s1.1)))
def R2_carriers_body (n : Nat) (rec_R2_carriers : Ty → Option (List Str)) (p0 : Ty) : Option (List Str) := (cond (p0.kind == 3) (some ([p0.name])) ((R2_carriers_L0 n rec_R2_carriers p0 n (([] : List Str), 0)).bind (LR.el (fun (s2 : List Str) => some s2) (fun r => some r))))
def R2_carriers : Nat → Ty → Option (List Str)
  | 0, _ => none
  | n + 1, p0 => R2_carriers_body n (fun p0 => R2_carriers n p0) p0
set_option maxRecDepth 100000 in
set_option maxHeartbeats 40000000 in
theorem R2_carriers_body_ok (n : Nat) (rec_R2_carriers : Ty → Option (List Str)) (hrec_R2_carriers : ∀ (p0 : Ty) (r : List Str), rec_R2_carriers p0 = some r → ACalls Tryz.prog 107 [.agg [.int .i64 p0.kind, .str p0.name, .slice (List.map encTy p0.kids) .shared]] [] (.slice (List.map encS r) .shared) []) (p0 : Ty) (r : List Str) (h : R2_carriers_body n rec_R2_carriers p0 = some r) : ACalls Tryz.prog 107 [.agg [.int .i64 p0.kind, .str p0.name, .slice (List.map encTy p0.kids) .shared]] [] (.slice (List.map encS r) .shared) [] := by
  unfold R2_carriers_body at h
  refine acalls_start true Tryz.func107 rfl (by rw [Tryz.ntmps107]; exact Nat.le_of_ble_eq_true rfl) fun Q hQ t ht => ?_
  conv at ht => whnf
  subst ht
  refine AW.seqK fun K1 hK1 => ?_
  refine AW.region τ_ok mixedO 1 ?_
  conv => whnf
  refine hK1 _ _ ?_
  refine AW.seqK fun K2 hK2 => ?_
  refine AW.seqK fun K3 hK3 => ?_
  refine AW.region τ_ok mixedO 0 ?_
  conv => whnf
  refine hK3 _ _ ?_
  refine AW.condS rfl h (fun hc1 h => ?_) (fun hc1 h => ?_)
  · refine AW.seqK fun K4 hK4 => ?_
    refine AW.region τ_ok mixedO 1 ?_
    conv => whnf
    refine ⟨List.map encS ([p0.name]), rfl, ?_⟩
    conv => whnf
    refine hK4 _ _ ?_
    refine AW.ret ?_
    conv => whnf
    have e9 := Option.some.inj h
    subst e9
    refine hQ _ _ _ (retPure τ_ok (fun g => by simp only [ren, renL, renLL, renT, renL_app, renl_I, renl_S, renl_U8, renl_Ty, renl_Tm, renl_Carrier, renl_Decl]) ?_)
    conv => whnf
    try rfl
  · refine AW.skip ?_
    conv => whnf
    refine hK2 _ _ ?_
    refine AW.seqK fun K5 hK5 => ?_
    refine AW.region τ_ok mixedO 0 ?_
    conv => whnf
    refine hK5 _ _ ?_
    refine AW.seqK fun K6 hK6 => ?_
    refine AW.seqK fun K7 hK7 => ?_
    refine AW.region τ_ok mixedO 0 ?_
    conv => whnf
    refine hK7 _ _ ?_
    refine AW.block ?_
    obtain ⟨o1, ho1, h⟩ := ob h
    have hR1 : ∀ s2 : List Str, o1 = .nx s2 → ∀ t9 h9, Le 0 t9 h9 (u2 (.unk :: (.slice (List.map encS s2) (.tip 0 1) :: (u16 (u4 (u2 (.unk :: []))))))) [.tip (List.length s2 * 1)] → K6 t9 h9 := by
      intro s2 ho
      subst ho
      dsimp only [LR.el] at h
      intro t9 h9 hw
      refine hK6 _ _ (AW.le hw ?_)
      refine AW.seqK fun K8 hK8 => ?_
      refine AW.region τ_ok mixedO 0 ?_
      conv => whnf
      refine hK8 _ _ ?_
      refine AW.ret ?_
      conv => whnf
      have e9 := Option.some.inj h
      subst e9
      refine hQ _ _ _ (retPure τ_ok (fun g => by simp only [ren, renL, renLL, renT, renL_app, renl_I, renl_S, renl_U8, renl_Ty, renl_Tm, renl_Carrier, renl_Decl]) ?_)
      conv => whnf
      try rfl
    refine AW.loopS (R2_carriers_L0 n rec_R2_carriers p0) (fun (s1 : (List Str) × Int) => (.unk :: (.ptr 0 0 :: (.unk :: (.slice (List.map encS s1.1) (.tip 1 1) :: (.int .i64 s1.2 :: (u16 (u4 (u2 []))))))))) (fun (s1 : (List Str) × Int) => [.box [.int .i64 p0.kind, .str p0.name, .slice (List.map encTy p0.kids) .shared], .tip (List.length s1.1 * 1)]) ho1 (fun _ => rfl) (Le.of [some 0, none] (Weak.mk' rfl (.cons (.unk _) (.cons (.same rfl) (.cons (.unk _) (.cons (.nils _ _) (.cons (.same rfl) (.u16 (.u4 (.u2 .nil)))))))) (.old (.box' (.cons (.same rfl) (.cons (.same rfl) (.cons (.share (renl_Ty _ _)) .nil)))) (.new rfl .nil)))) ?_
    intro n1 s1 hs1 KL1 hKL1
    unfold R2_carriers_L0 at hs1
    refine AW.seqK fun K9 hK9 => ?_
    refine AW.seqK fun K10 hK10 => ?_
    refine AW.region τ_ok mixedO 0 ?_
    conv => whnf
    refine len_of (l := p0.kids) (f := encTy) ?_
    conv => whnf
    refine hK10 _ _ ?_
    refine AW.condS rfl hs1 (fun hc2 hs1 => ?_) (fun hc2 hs1 => ?_)
    · refine AW.skip ?_
      conv => whnf
      refine hK9 _ _ ?_
      refine AW.seqK fun K11 hK11 => ?_
      refine AW.block ?_
      refine AW.region τ_ok mixedO 1 ?_
      conv => whnf
      obtain ⟨x1, hx1, hs1⟩ := ob hs1
      refine idx_of (l := p0.kids) (f := encTy) (cs := [.int .i64 ((x1).kind), .str ((x1).name), .slice (List.map encTy ((x1).kids)) .shared]) hx1 (encTy_eq x1) rfl ?_
      conv => whnf
      obtain ⟨x2, hx2, hs1⟩ := ob hs1
      refine call_pur (hrec_R2_carriers _ _ hx2) okF_107 (.cons (.same _) .nil) (fun g => by simp only [ren, renL, renLL, renT, renL_app, renl_I, renl_S, renl_U8, renl_Ty, renl_Tm, renl_Carrier, renl_Decl]) (fun g => by simp only [ren, renL, renLL, renT, renL_app, renl_I, renl_S, renl_U8, renl_Ty, renl_Tm, renl_Carrier, renl_Decl]) ?_
      conv => whnf
      obtain ⟨x3, hx3, hs1⟩ := ob hs1
      refine app_tip (l := s1.1) (ys := x2) (f := encS) hx3 ok_S rfl rfl rfl ?_
      conv => whnf
      refine hK11 _ _ ?_
      refine AW.know 4 0 fun hv1 => ?_
      refine AW.know 13 0 fun hv2 => ?_
      refine AW.region τ_ok mixedO 0 ?_
      conv => whnf
      refine ⟨(s1.2 + 1), by have := wf64 hv1; have := vfl hv2; have h8 := of_decide_eq_true hc2; exact w64_id (by omega) (by omega), ?_⟩
      conv => whnf
      exact hKL1 _ _ _ hs1 (Le.of [some 0, some 2] (Weak.mk' rfl (.cons (.unk _) (.cons (.same rfl) (.cons (.unk _) (.cons (.tipS (renl_S _ _) rfl) (.cons (.same rfl) (.u16 (.u4 (.u2 .nil)))))))) (.old (.box' (.cons (.same rfl) (.cons (.same rfl) (.cons (.share (renl_Ty _ _)) .nil)))) (.old (.tip _) .nil))))
    · refine AW.exit ?_
      conv => whnf
      exact hR1 _ (Option.some.inj hs1).symm _ _ (Le.of [some 1] (Weak.mk' rfl (.u2 (.cons (.unk _) (.cons (.tipS (renl_S _ _) rfl) (.u16 (.u4 (.u2 (.cons (.unk _) .nil))))))) (.old (.tip _) .nil)))
theorem R2_carriers_all (n : Nat) : (∀ (p0 : Ty) (r : List Str), R2_carriers n p0 = some r → ACalls Tryz.prog 107 [.agg [.int .i64 p0.kind, .str p0.name, .slice (List.map encTy p0.kids) .shared]] [] (.slice (List.map encS r) .shared) []) := by
  induction n with
  | zero => exact (fun p0 r h => by unfold R2_carriers at h; cases h)
  | succ n ih =>
    exact (fun p0 r h => R2_carriers_body_ok n _ ih p0 r (by unfold R2_carriers at h; exact h))
theorem R2_carriers_ok (n : Nat) (p0 : Ty) (r : List Str) (h : R2_carriers n p0 = some r) : ACalls Tryz.prog 107 [.agg [.int .i64 p0.kind, .str p0.name, .slice (List.map encTy p0.kids) .shared]] [] (.slice (List.map encS r) .shared) [] := (R2_carriers_all n) p0 r h
def R2_FindCarrier_L0 (n : Nat) (p0 : Env) (p1 : Str) : Nat → Int → Option (LR Unit Int)
  | 0, _ => none
  | k + 1, s1 => (cond (decide (s1 < (p0.carriers.length : Int))) ((idx p0.carriers s1).bind fun (x1 : Carrier) => (cond (x1.name == p1) (some (.rt s1)) (R2_FindCarrier_L0 n p0 p1 k (s1 + 1)))) (some (.nx ())))
def R2_FindCarrier (n : Nat) (p0 : Env) (p1 : Str) : Option Int := ((R2_FindCarrier_L0 n p0 p1 n 0).bind (LR.el (fun (s2 : Unit) => some (-1)) (fun r => some r)))
set_option maxRecDepth 100000 in
set_option maxHeartbeats 40000000 in
theorem R2_FindCarrier_ok (n : Nat) (p0 : Env) (p1 : Str) (r : Int) (h : R2_FindCarrier n p0 p1 = some r) : ACalls Tryz.prog 128 [.agg [.slice (List.map encCarrier p0.carriers) .shared, .slice (List.map encDecl p0.names) .shared], .str p1] [] (.int .i64 r) [] := by
  unfold R2_FindCarrier at h
  refine acalls_start true Tryz.func128 rfl (by rw [Tryz.ntmps128]; exact Nat.le_of_ble_eq_true rfl) fun Q hQ t ht => ?_
  conv at ht => whnf
  subst ht
  refine AW.seqK fun K1 hK1 => ?_
  refine AW.region τ_ok mixedO 1 ?_
  conv => whnf
  refine hK1 _ _ ?_
  refine AW.seqK fun K2 hK2 => ?_
  refine AW.seqK fun K3 hK3 => ?_
  refine AW.region τ_ok mixedO 0 ?_
  conv => whnf
  refine hK3 _ _ ?_
  refine AW.block ?_
  obtain ⟨o1, ho1, h⟩ := ob h
  have hR1 : ∀ s2 : Unit, o1 = .nx s2 → ∀ t9 h9, Le 0 t9 h9 (u16 (u4 (u2 []))) [] → K2 t9 h9 := by
    intro s2 ho
    subst ho
    dsimp only [LR.el] at h
    intro t9 h9 hw
    refine hK2 _ _ (AW.le hw ?_)
    refine AW.seqK fun K4 hK4 => ?_
    refine AW.region τ_ok mixedO 0 ?_
    conv => whnf
    refine hK4 _ _ ?_
    refine AW.ret ?_
    conv => whnf
    have e9 := Option.some.inj h
    subst e9
    refine hQ _ _ _ (retPure τ_ok (fun g => rfl) ?_)
    conv => whnf
  refine AW.loopS (R2_FindCarrier_L0 n p0 p1) (fun (s1 : Int) => (.unk :: (.str p1 :: (.ptr 0 0 :: (u2 (.int .i64 s1 :: (u16 []))))))) (fun (s1 : Int) => [.box [.slice (List.map encCarrier p0.carriers) .shared, .slice (List.map encDecl p0.names) .shared]]) ho1 (fun _ => rfl) (Le.of [some 0] (Weak.mk' rfl (.cons (.unk _) (.cons (.same rfl) (.cons (.same rfl) (.u2 (.cons (.same rfl) (.u16 .nil)))))) (.old (.box' (.cons (.share (renl_Carrier _ _)) (.cons (.share (renl_Decl _ _)) .nil))) .nil))) ?_
  intro n1 s1 hs1 KL1 hKL1
  unfold R2_FindCarrier_L0 at hs1
  refine AW.seqK fun K5 hK5 => ?_
  refine AW.seqK fun K6 hK6 => ?_
  refine AW.region τ_ok mixedO 0 ?_
  conv => whnf
  refine len_of (l := p0.carriers) (f := encCarrier) ?_
  conv => whnf
  refine hK6 _ _ ?_
  refine AW.condS rfl hs1 (fun hc1 hs1 => ?_) (fun hc1 hs1 => ?_)
  · refine AW.skip ?_
    conv => whnf
    refine hK5 _ _ ?_
    refine AW.seqK fun K7 hK7 => ?_
    refine AW.block ?_
    refine AW.seqK fun K8 hK8 => ?_
    refine AW.region τ_ok mixedO 0 ?_
    conv => whnf
    obtain ⟨x1, hx1, hs1⟩ := ob hs1
    refine idx_of (l := p0.carriers) (f := encCarrier) (cs := [.str ((x1).name), .slice (List.map encS ((x1).elems)) .shared]) hx1 (rfl) rfl ?_
    conv => whnf
    refine hK8 _ _ ?_
    refine AW.condS rfl hs1 (fun hc2 hs1 => ?_) (fun hc2 hs1 => ?_)
    · refine AW.seqK fun K9 hK9 => ?_
      refine AW.region τ_ok mixedO 0 ?_
      conv => whnf
      refine hK9 _ _ ?_
      refine AW.ret ?_
      conv => whnf
      have e9 := Option.some.inj hs1
      subst e9
      dsimp only [LR.el] at h
      have e9 := Option.some.inj h
      subst e9
      refine hQ _ _ _ (retPure τ_ok (fun g => rfl) ?_)
      conv => whnf
    · refine AW.skip ?_
      conv => whnf
      refine hK7 _ _ ?_
      refine AW.know 5 0 fun hv1 => ?_
      refine AW.know 8 0 fun hv2 => ?_
      refine AW.region τ_ok mixedO 0 ?_
      conv => whnf
      refine ⟨(s1 + 1), by have := wf64 hv1; have := vfl hv2; have h8 := of_decide_eq_true hc1; exact w64_id (by omega) (by omega), ?_⟩
      conv => whnf
      exact hKL1 _ _ _ hs1 (Le.of [some 0] (Weak.mk' rfl (.cons (.unk _) (.cons (.same rfl) (.cons (.same rfl) (.u2 (.cons (.same rfl) (.u16 .nil)))))) (.old (.box' (.cons (.share (renl_Carrier _ _)) (.cons (.share (renl_Decl _ _)) .nil))) .nil)))
  · refine AW.exit ?_
    conv => whnf
    exact hR1 _ (Option.some.inj hs1).symm _ _ (Le.of [] (Weak.mk' rfl (.u16 (.u4 (.u2 .nil))) .nil))
def R2_Knows_L0 (n : Nat) (p0 : Env) (x1 : List Str) : Nat → Int → Option (LR Unit Bool)
  | 0, _ => none
  | k + 1, s1 => (cond (decide (s1 < (x1.length : Int))) ((idx x1 s1).bind fun (x2 : Str) => ((R2_FindCarrier n p0 x2).bind fun (x3 : Int) => (cond (decide (x3 < 0)) (some (.rt false)) (R2_Knows_L0 n p0 x1 k (s1 + 1))))) (some (.nx ())))
def R2_Knows (n : Nat) (p0 : Env) (p1 : Ty) : Option Bool := ((R2_carriers n p1).bind fun (x1 : List Str) => ((R2_Knows_L0 n p0 x1 n 0).bind (LR.el (fun (s2 : Unit) => some true) (fun r => some r))))
set_option maxRecDepth 100000 in
set_option maxHeartbeats 40000000 in
theorem R2_Knows_ok (n : Nat) (p0 : Env) (p1 : Ty) (r : Bool) (h : R2_Knows n p0 p1 = some r) : ACalls Tryz.prog 101 [.agg [.slice (List.map encCarrier p0.carriers) .shared, .slice (List.map encDecl p0.names) .shared], .agg [.int .i64 p1.kind, .str p1.name, .slice (List.map encTy p1.kids) .shared]] [] (.bool r) [] := by
  unfold R2_Knows at h
  refine acalls_start true Tryz.func101 rfl (by rw [Tryz.ntmps101]; exact Nat.le_of_ble_eq_true rfl) fun Q hQ t ht => ?_
  conv at ht => whnf
  subst ht
  refine AW.seqK fun K1 hK1 => ?_
  refine AW.region τ_ok mixedO 2 ?_
  conv => whnf
  refine hK1 _ _ ?_
  refine AW.seqK fun K2 hK2 => ?_
  refine AW.region τ_ok mixedO 0 ?_
  conv => whnf
  obtain ⟨x1, hx1, h⟩ := ob h
  refine call_pur (R2_carriers_ok _ _ _ hx1) okF_107 (.cons (.same _) .nil) (fun g => by simp only [ren, renL, renLL, renT, renL_app, renl_I, renl_S, renl_U8, renl_Ty, renl_Tm, renl_Carrier, renl_Decl]) (fun g => by simp only [ren, renL, renLL, renT, renL_app, renl_I, renl_S, renl_U8, renl_Ty, renl_Tm, renl_Carrier, renl_Decl]) ?_
  conv => whnf
  refine hK2 _ _ ?_
  refine AW.seqK fun K3 hK3 => ?_
  refine AW.seqK fun K4 hK4 => ?_
  refine AW.region τ_ok mixedO 0 ?_
  conv => whnf
  refine hK4 _ _ ?_
  refine AW.block ?_
  obtain ⟨o1, ho1, h⟩ := ob h
  have hR1 : ∀ s2 : Unit, o1 = .nx s2 → ∀ t9 h9, Le 0 t9 h9 (u16 (u4 (u2 []))) [] → K3 t9 h9 := by
    intro s2 ho
    subst ho
    dsimp only [LR.el] at h
    intro t9 h9 hw
    refine hK3 _ _ (AW.le hw ?_)
    refine AW.seqK fun K5 hK5 => ?_
    refine AW.region τ_ok mixedO 0 ?_
    conv => whnf
    refine hK5 _ _ ?_
    refine AW.ret ?_
    conv => whnf
    have e9 := Option.some.inj h
    subst e9
    refine hQ _ _ _ (retPure τ_ok (fun g => rfl) ?_)
    conv => whnf
  refine AW.loopS (R2_Knows_L0 n p0 x1) (fun (s1 : Int) => (u2 (.ptr 0 0 :: (u2 (.slice (List.map encS x1) .shared :: (.int .i64 s1 :: (u8 (u4 (u2 (.unk :: [])))))))))) (fun (s1 : Int) => [.box [.slice (List.map encCarrier p0.carriers) .shared, .slice (List.map encDecl p0.names) .shared]]) ho1 (fun _ => rfl) (Le.of [some 0] (Weak.mk' rfl (.u2 (.cons (.same rfl) (.u2 (.cons (.share (renl_S _ _)) (.cons (.same rfl) (.u8 (.u4 (.u2 (.cons (.unk _) .nil))))))))) (.old (.box' (.cons (.share (renl_Carrier _ _)) (.cons (.share (renl_Decl _ _)) .nil))) .nil))) ?_
  intro n1 s1 hs1 KL1 hKL1
  unfold R2_Knows_L0 at hs1
  refine AW.seqK fun K6 hK6 => ?_
  refine AW.seqK fun K7 hK7 => ?_
  refine AW.region τ_ok mixedO 0 ?_
  conv => whnf
  refine len_of (l := x1) (f := encS) ?_
  conv => whnf
  refine hK7 _ _ ?_
  refine AW.condS rfl hs1 (fun hc1 hs1 => ?_) (fun hc1 hs1 => ?_)
  · refine AW.skip ?_
    conv => whnf
    refine hK6 _ _ ?_
    refine AW.seqK fun K8 hK8 => ?_
    refine AW.block ?_
    refine AW.seqK fun K9 hK9 => ?_
    refine AW.region τ_ok mixedO 0 ?_
    conv => whnf
    obtain ⟨x2, hx2, hs1⟩ := ob hs1
    refine idx_of (l := x1) (f := encS) (cs := [.str (x2)]) hx2 (rfl) rfl ?_
    conv => whnf
    obtain ⟨x3, hx3, hs1⟩ := ob hs1
    refine call_pur (R2_FindCarrier_ok _ _ _ _ hx3) okF_128 (.cons (.same _) (.cons (.same _) .nil)) (fun g => by simp only [ren, renL, renLL, renT, renL_app, renl_I, renl_S, renl_U8, renl_Ty, renl_Tm, renl_Carrier, renl_Decl]) (fun g => rfl) ?_
    conv => whnf
    refine ⟨rfl, ?_⟩
    conv => whnf
    refine hK9 _ _ ?_
    refine AW.condS rfl hs1 (fun hc2 hs1 => ?_) (fun hc2 hs1 => ?_)
    · refine AW.seqK fun K10 hK10 => ?_
      refine AW.region τ_ok mixedO 0 ?_
      conv => whnf
      refine hK10 _ _ ?_
      refine AW.ret ?_
      conv => whnf
      have e9 := Option.some.inj hs1
      subst e9
      dsimp only [LR.el] at h
      have e9 := Option.some.inj h
      subst e9
      refine hQ _ _ _ (retPure τ_ok (fun g => rfl) ?_)
      conv => whnf
    · refine AW.skip ?_
      conv => whnf
      refine hK8 _ _ ?_
      refine AW.know 6 0 fun hv1 => ?_
      refine AW.know 5 0 fun hv2 => ?_
      refine AW.region τ_ok mixedO 0 ?_
      conv => whnf
      refine ⟨(s1 + 1), by have := wf64 hv1; have := vfl hv2; have h8 := of_decide_eq_true hc1; exact w64_id (by omega) (by omega), ?_⟩
      conv => whnf
      exact hKL1 _ _ _ hs1 (Le.of [some 0] (Weak.mk' rfl (.u2 (.cons (.same rfl) (.u2 (.cons (.share (renl_S _ _)) (.cons (.same rfl) (.u8 (.u4 (.u2 (.cons (.unk _) .nil))))))))) (.old (.box' (.cons (.share (renl_Carrier _ _)) (.cons (.share (renl_Decl _ _)) .nil))) .nil)))
  · refine AW.exit ?_
    conv => whnf
    exact hR1 _ (Option.some.inj hs1).symm _ _ (Le.of [] (Weak.mk' rfl (.u16 (.u4 (.u2 .nil))) .nil))
def R2_AllNames_L2 (n : Nat) (p0 : Env) : Nat → ((List Str) × Int) → Option (LR (List Str) (List Str))
  | 0, _ => none
  | k + 1, s1 => (cond (decide (s1.2 < (p0.carriers.length : Int))) ((idx p0.carriers s1.2).bind fun (x5 : Carrier) => ((app 16 s1.1 ([x5.name])).bind fun (x6 : List Str) => R2_AllNames_L2 n p0 k (x6, (s1.2 + 1)))) (some (.nx s1.1)))
def R2_AllNames_L1 (n : Nat) (p0 : Env) : Nat → ((List Str) × Int) → Option (LR (List Str) (List Str))
  | 0, _ => none
  | k + 1, s3 => (cond (decide (s3.2 < (p0.carriers.length : Int))) ((idx p0.carriers s3.2).bind fun (x3 : Carrier) => ((app 16 s3.1 x3.elems).bind fun (x4 : List Str) => R2_AllNames_L1 n p0 k (x4, (s3.2 + 1)))) (some (.nx s3.1)))
def R2_AllNames_L0 (n : Nat) (p0 : Env) : Nat → ((List Str) × Int) → Option (LR (List Str) (List Str))
  | 0, _ => none
  | k + 1, s5 => (cond (decide (s5.2 < (p0.names.length : Int))) ((idx p0.names s5.2).bind fun (x1 : Decl) => ((app 16 s5.1 ([x1.name])).bind fun (x2 : List Str) => R2_AllNames_L0 n p0 k (x2, (s5.2 + 1)))) (some (.nx s5.1)))
def R2_AllNames (n : Nat) (p0 : Env) : Option (List Str) := ((R2_AllNames_L2 n p0 n (([] : List Str), 0)).bind (LR.el (fun (s2 : List Str) => ((R2_AllNames_L1 n p0 n (s2, 0)).bind (LR.el (fun (s4 : List Str) => ((R2_AllNames_L0 n p0 n (s4, 0)).bind (LR.el (fun (s6 : List Str) => some s6) (fun r => some r)))) (fun r => some r)))) (fun r => some r)))
set_option maxRecDepth 100000 in
set_option maxHeartbeats 40000000 in
theorem R2_AllNames_ok (n : Nat) (p0 : Env) (r : List Str) (h : R2_AllNames n p0 = some r) : ACalls Tryz.prog 62 [.agg [.slice (List.map encCarrier p0.carriers) .shared, .slice (List.map encDecl p0.names) .shared]] [] (.slice (List.map encS r) (.tip 0 1)) [.tip (List.length r * 1)] := by
  unfold R2_AllNames at h
  refine acalls_start false Tryz.func62 rfl (by rw [Tryz.ntmps62]; exact Nat.le_of_ble_eq_true rfl) fun Q hQ t ht => ?_
  conv at ht => whnf
  subst ht
  refine AW.seqK fun K1 hK1 => ?_
  refine AW.region τ_ok mixedO 1 ?_
  conv => whnf
  refine hK1 _ _ ?_
  refine AW.seqK fun K2 hK2 => ?_
  refine AW.region τ_ok mixedO 0 ?_
  conv => whnf
  refine hK2 _ _ ?_
  refine AW.seqK fun K3 hK3 => ?_
  refine AW.seqK fun K4 hK4 => ?_
  refine AW.region τ_ok mixedO 0 ?_
  conv => whnf
  refine hK4 _ _ ?_
  refine AW.block ?_
  obtain ⟨o1, ho1, h⟩ := ob h
  have hR1 : ∀ s2 : List Str, o1 = .nx s2 → ∀ t9 h9, Le 0 t9 h9 (.unk :: (.ptr 0 0 :: (.unk :: (.slice (List.map encS s2) (.tip 1 1) :: (u32 (u16 (u2 (.unk :: [])))))))) [.box [.slice (List.map encCarrier p0.carriers) .shared, .slice (List.map encDecl p0.names) .shared], .tip (List.length s2 * 1)] → K3 t9 h9 := by
    intro s2 ho
    subst ho
    dsimp only [LR.el] at h
    intro t9 h9 hw
    refine hK3 _ _ (AW.le hw ?_)
    refine AW.seqK fun K5 hK5 => ?_
    refine AW.seqK fun K6 hK6 => ?_
    refine AW.region τ_ok mixedO 0 ?_
    conv => whnf
    refine hK6 _ _ ?_
    refine AW.block ?_
    obtain ⟨o2, ho2, h⟩ := ob h
    have hR2 : ∀ s4 : List Str, o2 = .nx s4 → ∀ t9 h9, Le 0 t9 h9 (.unk :: (.ptr 0 0 :: (.unk :: (.slice (List.map encS s4) (.tip 1 1) :: (u32 (u16 (u2 (.unk :: [])))))))) [.box [.slice (List.map encCarrier p0.carriers) .shared, .slice (List.map encDecl p0.names) .shared], .tip (List.length s4 * 1)] → K5 t9 h9 := by
      intro s4 ho
      subst ho
      dsimp only [LR.el] at h
      intro t9 h9 hw
      refine hK5 _ _ (AW.le hw ?_)
      refine AW.seqK fun K7 hK7 => ?_
      refine AW.seqK fun K8 hK8 => ?_
      refine AW.region τ_ok mixedO 0 ?_
      conv => whnf
      refine hK8 _ _ ?_
      refine AW.block ?_
      obtain ⟨o3, ho3, h⟩ := ob h
      have hR3 : ∀ s6 : List Str, o3 = .nx s6 → ∀ t9 h9, Le 0 t9 h9 (u2 (.unk :: (.slice (List.map encS s6) (.tip 0 1) :: (u32 (u16 (u2 (.unk :: []))))))) [.tip (List.length s6 * 1)] → K7 t9 h9 := by
        intro s6 ho
        subst ho
        dsimp only [LR.el] at h
        intro t9 h9 hw
        refine hK7 _ _ (AW.le hw ?_)
        refine AW.seqK fun K9 hK9 => ?_
        refine AW.region τ_ok mixedO 0 ?_
        conv => whnf
        refine hK9 _ _ ?_
        refine AW.ret ?_
        conv => whnf
        have e9 := Option.some.inj h
        subst e9
        refine hQ _ _ _ (retW (u2 (.slice (List.map encS s6) (.tip 0 1) :: (u32 (u16 (u4 []))))) [.tip (List.length s6 * 1)] (Le.of [some 0] (Weak.mk' rfl (.u2 (.cons (.tipS (renl_S _ _) rfl) (.u32 (.u16 (.u4 .nil))))) (.old (.tip _) .nil))) (retObj τ_ok [0] rfl (.cons (rfl) .nil) ?_))
        conv => whnf
        first | rfl | (simp only [ren, renL, renLL, renT, renL_app, renl_I, renl_S, renl_U8, renl_Ty, renl_Tm, renl_Carrier, renl_Decl]; done) | (simp only [ren, renL, renLL, renT, renL_app, renl_I, renl_S, renl_U8, renl_Ty, renl_Tm, renl_Carrier, renl_Decl]; rfl)
      refine AW.loopS (R2_AllNames_L0 n p0) (fun (s5 : (List Str) × Int) => (.unk :: (.ptr 0 0 :: (.unk :: (.slice (List.map encS s5.1) (.tip 1 1) :: (u2 (.int .i64 s5.2 :: (u32 (u16 []))))))))) (fun (s5 : (List Str) × Int) => [.box [.slice (List.map encCarrier p0.carriers) .shared, .slice (List.map encDecl p0.names) .shared], .tip (List.length s5.1 * 1)]) ho3 (fun _ => rfl) (Le.of [some 0, some 1] (Weak.mk' rfl (.cons (.unk _) (.cons (.same rfl) (.cons (.unk _) (.cons (.tipS (renl_S _ _) rfl) (.u2 (.cons (.same rfl) (.u32 (.u16 .nil)))))))) (.old (.box' (.cons (.share (renl_Carrier _ _)) (.cons (.share (renl_Decl _ _)) .nil))) (.old (.tip _) .nil)))) ?_
      intro n3 s5 hs3 KL3 hKL3
      unfold R2_AllNames_L0 at hs3
      refine AW.seqK fun K10 hK10 => ?_
      refine AW.seqK fun K11 hK11 => ?_
      refine AW.region τ_ok mixedO 0 ?_
      conv => whnf
      refine len_of (l := p0.names) (f := encDecl) ?_
      conv => whnf
      refine hK11 _ _ ?_
      refine AW.condS rfl hs3 (fun hc1 hs3 => ?_) (fun hc1 hs3 => ?_)
      · refine AW.skip ?_
        conv => whnf
        refine hK10 _ _ ?_
        refine AW.seqK fun K12 hK12 => ?_
        refine AW.block ?_
        refine AW.region τ_ok mixedO 2 ?_
        conv => whnf
        obtain ⟨x1, hx1, hs3⟩ := ob hs3
        refine idx_of (l := p0.names) (f := encDecl) (cs := [.str ((x1).name), .int .i64 (((x1).ty).kind), .str (((x1).ty).name), .slice (List.map encTy (((x1).ty).kids)) .shared]) hx1 (rfl) rfl ?_
        conv => whnf
        refine ⟨List.map encS ([x1.name]), rfl, ?_⟩
        conv => whnf
        obtain ⟨x2, hx2, hs3⟩ := ob hs3
        refine app_tip (l := s5.1) (ys := [x1.name]) (f := encS) hx2 ok_S rfl rfl rfl ?_
        conv => whnf
        refine hK12 _ _ ?_
        refine AW.know 6 0 fun hv1 => ?_
        refine AW.know 40 0 fun hv2 => ?_
        refine AW.region τ_ok mixedO 0 ?_
        conv => whnf
        refine ⟨(s5.2 + 1), by have := wf64 hv1; have := vfl hv2; have h8 := of_decide_eq_true hc1; exact w64_id (by omega) (by omega), ?_⟩
        conv => whnf
        exact hKL3 _ _ _ hs3 (Le.of [some 0, some 3] (Weak.mk' rfl (.cons (.unk _) (.cons (.same rfl) (.cons (.unk _) (.cons (.tipS (renl_S _ _) rfl) (.u2 (.cons (.same rfl) (.u32 (.u16 .nil)))))))) (.old (.box' (.cons (.share (renl_Carrier _ _)) (.cons (.share (renl_Decl _ _)) .nil))) (.old (.tip _) .nil))))
      · refine AW.exit ?_
        conv => whnf
        exact hR3 _ (Option.some.inj hs3).symm _ _ (Le.of [some 1] (Weak.mk' rfl (.u2 (.cons (.unk _) (.cons (.tipS (renl_S _ _) rfl) (.u32 (.u16 (.u2 (.cons (.unk _) .nil))))))) (.old (.tip _) .nil)))
    refine AW.loopS (R2_AllNames_L1 n p0) (fun (s3 : (List Str) × Int) => (.unk :: (.ptr 0 0 :: (.unk :: (.slice (List.map encS s3.1) (.tip 1 1) :: (.unk :: (.int .i64 s3.2 :: (u32 (u16 (.unk :: [])))))))))) (fun (s3 : (List Str) × Int) => [.box [.slice (List.map encCarrier p0.carriers) .shared, .slice (List.map encDecl p0.names) .shared], .tip (List.length s3.1 * 1)]) ho2 (fun _ => rfl) (Le.of [some 0, some 1] (Weak.mk' rfl (.cons (.unk _) (.cons (.same rfl) (.cons (.unk _) (.cons (.tipS (renl_S _ _) rfl) (.cons (.unk _) (.cons (.same rfl) (.u32 (.u16 (.cons (.unk _) .nil))))))))) (.old (.box' (.cons (.share (renl_Carrier _ _)) (.cons (.share (renl_Decl _ _)) .nil))) (.old (.tip _) .nil)))) ?_
    intro n2 s3 hs2 KL2 hKL2
    unfold R2_AllNames_L1 at hs2
    refine AW.seqK fun K13 hK13 => ?_
    refine AW.seqK fun K14 hK14 => ?_
    refine AW.region τ_ok mixedO 0 ?_
    conv => whnf
    refine len_of (l := p0.carriers) (f := encCarrier) ?_
    conv => whnf
    refine hK14 _ _ ?_
    refine AW.condS rfl hs2 (fun hc2 hs2 => ?_) (fun hc2 hs2 => ?_)
    · refine AW.skip ?_
      conv => whnf
      refine hK13 _ _ ?_
      refine AW.seqK fun K15 hK15 => ?_
      refine AW.block ?_
      refine AW.region τ_ok mixedO 1 ?_
      conv => whnf
      obtain ⟨x3, hx3, hs2⟩ := ob hs2
      refine idx_of (l := p0.carriers) (f := encCarrier) (cs := [.str ((x3).name), .slice (List.map encS ((x3).elems)) .shared]) hx3 (rfl) rfl ?_
      conv => whnf
      obtain ⟨x4, hx4, hs2⟩ := ob hs2
      refine app_tip (l := s3.1) (ys := x3.elems) (f := encS) hx4 ok_S rfl rfl rfl ?_
      conv => whnf
      refine hK15 _ _ ?_
      refine AW.know 5 0 fun hv3 => ?_
      refine AW.know 25 0 fun hv4 => ?_
      refine AW.region τ_ok mixedO 0 ?_
      conv => whnf
      refine ⟨(s3.2 + 1), by have := wf64 hv3; have := vfl hv4; have h8 := of_decide_eq_true hc2; exact w64_id (by omega) (by omega), ?_⟩
      conv => whnf
      exact hKL2 _ _ _ hs2 (Le.of [some 0, some 2] (Weak.mk' rfl (.cons (.unk _) (.cons (.same rfl) (.cons (.unk _) (.cons (.tipS (renl_S _ _) rfl) (.cons (.unk _) (.cons (.same rfl) (.u32 (.u16 (.cons (.unk _) .nil))))))))) (.old (.box' (.cons (.share (renl_Carrier _ _)) (.cons (.share (renl_Decl _ _)) .nil))) (.old (.tip _) .nil))))
    · refine AW.exit ?_
      conv => whnf
      exact hR2 _ (Option.some.inj hs2).symm _ _ (Le.of [some 0, some 1] (Weak.mk' rfl (.cons (.unk _) (.cons (.same rfl) (.cons (.unk _) (.cons (.tipS (renl_S _ _) rfl) (.u32 (.u16 (.u2 (.cons (.unk _) .nil)))))))) (.old (.box' (.cons (.share (renl_Carrier _ _)) (.cons (.share (renl_Decl _ _)) .nil))) (.old (.tip _) .nil))))
  refine AW.loopS (R2_AllNames_L2 n p0) (fun (s1 : (List Str) × Int) => (.unk :: (.ptr 0 0 :: (.unk :: (.slice (List.map encS s1.1) (.tip 1 1) :: (.int .i64 s1.2 :: (u32 (u16 (u2 []))))))))) (fun (s1 : (List Str) × Int) => [.box [.slice (List.map encCarrier p0.carriers) .shared, .slice (List.map encDecl p0.names) .shared], .tip (List.length s1.1 * 1)]) ho1 (fun _ => rfl) (Le.of [some 0, none] (Weak.mk' rfl (.cons (.unk _) (.cons (.same rfl) (.cons (.unk _) (.cons (.nils _ _) (.cons (.same rfl) (.u32 (.u16 (.u2 .nil)))))))) (.old (.box' (.cons (.share (renl_Carrier _ _)) (.cons (.share (renl_Decl _ _)) .nil))) (.new rfl .nil)))) ?_
  intro n1 s1 hs1 KL1 hKL1
  unfold R2_AllNames_L2 at hs1
  refine AW.seqK fun K16 hK16 => ?_
  refine AW.seqK fun K17 hK17 => ?_
  refine AW.region τ_ok mixedO 0 ?_
  conv => whnf
  refine len_of (l := p0.carriers) (f := encCarrier) ?_
  conv => whnf
  refine hK17 _ _ ?_
  refine AW.condS rfl hs1 (fun hc3 hs1 => ?_) (fun hc3 hs1 => ?_)
  · refine AW.skip ?_
    conv => whnf
    refine hK16 _ _ ?_
    refine AW.seqK fun K18 hK18 => ?_
    refine AW.block ?_
    refine AW.region τ_ok mixedO 2 ?_
    conv => whnf
    obtain ⟨x5, hx5, hs1⟩ := ob hs1
    refine idx_of (l := p0.carriers) (f := encCarrier) (cs := [.str ((x5).name), .slice (List.map encS ((x5).elems)) .shared]) hx5 (rfl) rfl ?_
    conv => whnf
    refine ⟨List.map encS ([x5.name]), rfl, ?_⟩
    conv => whnf
    obtain ⟨x6, hx6, hs1⟩ := ob hs1
    refine app_tip (l := s1.1) (ys := [x5.name]) (f := encS) hx6 ok_S rfl rfl rfl ?_
    conv => whnf
    refine hK18 _ _ ?_
    refine AW.know 4 0 fun hv5 => ?_
    refine AW.know 9 0 fun hv6 => ?_
    refine AW.region τ_ok mixedO 0 ?_
    conv => whnf
    refine ⟨(s1.2 + 1), by have := wf64 hv5; have := vfl hv6; have h8 := of_decide_eq_true hc3; exact w64_id (by omega) (by omega), ?_⟩
    conv => whnf
    exact hKL1 _ _ _ hs1 (Le.of [some 0, some 3] (Weak.mk' rfl (.cons (.unk _) (.cons (.same rfl) (.cons (.unk _) (.cons (.tipS (renl_S _ _) rfl) (.cons (.same rfl) (.u32 (.u16 (.u2 .nil)))))))) (.old (.box' (.cons (.share (renl_Carrier _ _)) (.cons (.share (renl_Decl _ _)) .nil))) (.old (.tip _) .nil))))
  · refine AW.exit ?_
    conv => whnf
    exact hR1 _ (Option.some.inj hs1).symm _ _ (Le.of [some 0, some 1] (Weak.mk' rfl (.cons (.unk _) (.cons (.same rfl) (.cons (.unk _) (.cons (.tipS (renl_S _ _) rfl) (.u32 (.u16 (.u2 (.cons (.unk _) .nil)))))))) (.old (.box' (.cons (.share (renl_Carrier _ _)) (.cons (.share (renl_Decl _ _)) .nil))) (.old (.tip _) .nil))))
end Abs
end Go.Proofs.YtiiaccpcoclklaaGreat
namespace Go.Proofs.YtiiaccpcoclklaaGreat
namespace Abs
open Go

theorem Ty.ind {P : Ty → Prop} (h : ∀ k n ks, (∀ t ∈ ks, P t) → P (.mk k n ks)) (t : Ty) : P t := by
  match t with
  | .mk k n ks => exact h k n ks fun u _ => Ty.ind h u
termination_by SizeOf.sizeOf t
decreasing_by
  rename_i hu
  have := List.sizeOf_lt_of_mem hu
  simp only [Ty.mk.sizeOf_spec]
  omega

/-- Whether a node may stand at depth d. -/
def headT (k : Int) (nm : Str) (len : Nat) (d : Int) : Bool :=
  !(k == 2 && decide (1 < d)) && ((((k == 1 || (k == 2 || k == 3)) && len == 0) || ((k == 4 && len == 2) || (k == 5 && len == 1))) && cond (k == 3) (ident nm) (nm == []))

mutual
/-- Whether the type fits at depth d behind c nodes, and how many nodes were counted then. -/
def pf : Ty → Int → Int → Bool × Int
  | .mk k nm ks, d, c => cond ((decide (c + 1 ≤ 16) && decide (d ≤ 6)) && headT k nm ks.length d) (pfs ks (d + 1) (c + 1)) (false, c + 1)
def pfs : List Ty → Int → Int → Bool × Int
  | [], _, c => (true, c)
  | t :: ts, d, c => cond (pf t d c).1 (pfs ts d (pf t d c).2) (false, (pf t d c).2)
end

mutual
theorem pf_le : ∀ (t : Ty) (d c : Int), (pf t d c).1 = true → c < (pf t d c).2 ∧ (pf t d c).2 ≤ 16
  | .mk k nm ks, d, c, h => by
    simp only [pf] at h ⊢
    cases hb : ((decide (c + 1 ≤ 16) && decide (d ≤ 6)) && headT k nm ks.length d) with
    | false => rw [hb] at h; cases h
    | true =>
      rw [hb] at h
      simp only [cond_true] at h ⊢
      simp only [Bool.and_eq_true, decide_eq_true_eq] at hb
      have := pfs_le ks (d + 1) (c + 1) h
      omega
theorem pfs_le : ∀ (ts : List Ty) (d c : Int), (pfs ts d c).1 = true → c ≤ (pfs ts d c).2 ∧ (c ≤ 16 → (pfs ts d c).2 ≤ 16)
  | [], _, c, _ => by simp [pfs]
  | t :: ts, d, c, h => by
    simp only [pfs] at h ⊢
    cases hb : (pf t d c).1 with
    | false => rw [hb] at h; cases h
    | true =>
      rw [hb] at h
      simp only [cond_true] at h ⊢
      have h1 := pf_le t d c hb
      have h2 := pfs_le ts d _ h
      exact ⟨by omega, fun _ => h2.2 h1.2⟩
end

theorem enter_eq (n : Nat) (c d : Int) (h0 : 0 ≤ c) (h1 : c ≤ 16) : term_measure_enter n c 16 6 d = some (decide (c + 1 ≤ 16) && decide (d ≤ 6), c + 1) := by
  unfold term_measure_enter
  rw [wrap64 (by omega) (by omega)]
  cases decide (c + 1 ≤ 16) <;> rfl

def FitE (t : Ty) : Prop := ∀ d c : Int, 1 ≤ d → d ≤ 7 → 0 ≤ c → c ≤ 16 → Ev (fun n => term_measure_typeFits n c 16 6 t d (decide (1 < d))) (pf t d c)

theorem pfs_run (d : Int) : ∀ (ts : List Ty) (i c : Int), 0 ≤ i → (∃ j, 0 ≤ j ∧ (pfs ts d c).1 = false ∧ runI (τ := Int) (fun i x s => cond (!(pf x d s).1) (.rt (i, (pf x d s).2)) (.nx (pf x d s).2)) (fun s => s) i ts c = .rt (j, (pfs ts d c).2)) ∨ ((pfs ts d c).1 = true ∧ runI (ρ := Int × Int) (fun i x s => cond (!(pf x d s).1) (.rt (i, (pf x d s).2)) (.nx (pf x d s).2)) (fun s => s) i ts c = .nx (pfs ts d c).2)
  | [], i, c, _ => .inr ⟨rfl, rfl⟩
  | t :: ts, i, c, hi => by
    simp only [pfs, runI]
    cases hb : (pf t d c).1 with
    | false => exact .inl ⟨i, hi, rfl, rfl⟩
    | true => exact pfs_run d ts (i + 1) _ (by omega)

theorem fits_kids (ts : List Ty) (h : ∀ t ∈ ts, FitE t) (d c : Int) (hd : 1 ≤ d) (hd6 : d ≤ 6) (h0 : 0 ≤ c) (h1 : c ≤ 16) : Ev (fun n => slices_ContainsFunc_Type n ts c 16 6 d) (!(pfs ts (d + 1) c).1, (pfs ts (d + 1) c).2) := by
  refine Ev.succ ?_
  show Ev (fun n => slices_ContainsFunc_Type_body n _ _ _ _ ts c 16 6 d) _
  unfold slices_ContainsFunc_Type_body
  have hloop := loopEvI ts (fun n k i s => slices_IndexFunc_Type_L0 n (fun p0 p1 p2 p3 p4 => slices_IndexFunc_Type n p0 p1 p2 p3 p4) (fun p0 p1 p2 p3 p4 => slices_ContainsFunc_Type n p0 p1 p2 p3 p4) (fun p0 p1 p2 p3 p4 p5 => term_measure_typeFits n p0 p1 p2 p3 p4 p5) (fun p0 p1 p2 p3 p4 => term_measure_typeFits_1 n p0 p1 p2 p3 p4) ts 16 6 d k (i, s))
    (fun n i x s => (term_measure_typeFits_1 n x s 16 6 d).bind fun x2 => cond x2.1 (some (.rt (i, x2.2))) (some (.nx x2.2))) (fun i x s => cond (!(pf x (d + 1) s).1) (.rt (i, (pf x (d + 1) s).2)) (.nx (pf x (d + 1) s).2)) (fun s => s) (fun _ _ s => 0 ≤ s ∧ s ≤ 16)
    (fun n k i s => by
      show cond _ _ _ = _
      congr 1
      congr 1
      funext x
      dsimp only
      cases term_measure_typeFits_1 n x s 16 6 d with
      | none => rfl
      | some b => obtain ⟨b, e⟩ := b; cases b <;> rfl)
    (fun i x suf s hx hs => ⟨by
      have hfit : Ev (fun n => term_measure_typeFits_1 n x s 16 6 d) (!(pf x (d + 1) s).1, (pf x (d + 1) s).2) := by
        refine Ev.succ ?_
        show Ev (fun n => term_measure_typeFits_1_body n _ _ _ _ x s 16 6 d) _
        unfold term_measure_typeFits_1_body
        have := h x hx (d + 1) s (by omega) (by omega) hs.1 hs.2
        rw [decide_eq_true (show 1 < d + 1 by omega)] at this
        rw [wrap64 (by omega) (by omega)]
        exact Ev.bind this (Ev.ret _)
      refine Ev.bind hfit ?_
      cases (pf x (d + 1) s).1
      · exact Ev.ret _
      · exact Ev.ret _, fun s' he => by
        cases hb : (pf x (d + 1) s).1 with
        | false => rw [hb] at he; cases he
        | true =>
          rw [hb] at he
          simp only [Bool.not_true, cond_false, LR.nx.injEq] at he
          have := pf_le x (d + 1) s hb
          omega⟩) (s0 := c) ⟨h0, h1⟩
  rcases pfs_run (d + 1) ts 0 c (Int.le_refl _) with ⟨j, hj, hf, hr⟩ | ⟨ht, hr⟩
  · rw [hr] at hloop
    refine Ev.bind (a := (j, (pfs ts (d + 1) c).2)) (Ev.succ ?_) ?_
    · show Ev (fun n => slices_IndexFunc_Type_body n _ _ _ _ ts c 16 6 d) _
      unfold slices_IndexFunc_Type_body
      exact Ev.bind hloop (Ev.ret _)
    · rw [hf]
      simp only [decide_eq_true hj]
      exact Ev.ret _
  · rw [hr] at hloop
    refine Ev.bind (a := (-1, (pfs ts (d + 1) c).2)) (Ev.succ ?_) ?_
    · show Ev (fun n => slices_IndexFunc_Type_body n _ _ _ _ ts c 16 6 d) _
      unfold slices_IndexFunc_Type_body
      exact Ev.bind hloop (Ev.ret _)
    · rw [ht]
      exact Ev.ret _

theorem len_ne (len : Nat) (m : Nat) : (((len : Int) != (m : Int))) = !(len == m) := by
  rw [bne]
  congr 1
  by_cases h : len = m
  · subst h; simp
  · rw [beq_false_of_ne h, beq_false_of_ne (by omega)]

theorem fits : ∀ t : Ty, FitE t := Ty.ind fun k nm ks ih d c hd hd7 h0 h1 => by
  refine Ev.succ ?_
  show Ev (fun n => term_measure_typeFits_body n _ _ _ _ c 16 6 (.mk k nm ks) d (decide (1 < d))) _
  unfold term_measure_typeFits_body
  simp only [enter_eq _ c d h0 h1, Option.bind_some, pf, Ty.kind, Ty.name, Ty.kids]
  cases hb : (decide (c + 1 ≤ 16) && decide (d ≤ 6)) with
  | false => exact Ev.ret _
  | true =>
    simp only [Bool.and_eq_true, decide_eq_true_eq] at hb
    have hk := fits_kids ks ih d (c + 1) hd hb.2 (by omega) hb.1
    simp only [Bool.not_true, cond_false, Bool.true_and]
    -- the end: the number of kids, the name, the kids
    have hend : ∀ m : Nat, Ev (fun n => (((cond ((ks.length : Int) != (m : Int)) (some true) (cond (k != 3) (some (!(nm == ([] : Str)))) (some false))) : Option Bool).bind fun (s2 : Bool) => (cond s2 (some (false, c + 1)) ((slices_ContainsFunc_Type n ks (c + 1) 16 6 d).bind fun (x2 : Bool × Int) => some ((!x2.1), x2.2)))))
        (cond ((ks.length == m) && cond (k == 3) true (nm == [])) (pfs ks (d + 1) (c + 1)) (false, c + 1)) := fun m => by
      rw [len_ne]
      cases ks.length == m with
      | false => exact Ev.ret _
      | true =>
        simp only [Bool.not_true, cond_false, Bool.true_and, bne]
        have hkids : Ev (fun n => (slices_ContainsFunc_Type n ks (c + 1) 16 6 d).bind fun (x2 : Bool × Int) => some ((!x2.1), x2.2)) (pfs ks (d + 1) (c + 1)) := by
          refine Ev.bind hk ?_
          simp only [Bool.not_not]
          exact Ev.ret _
        cases k == 3 with
        | true => exact hkids
        | false =>
          simp only [Bool.not_false, cond_true, Option.bind_some, cond_false]
          cases nm == ([] : Str) with
          | false => exact Ev.ret _
          | true => exact hkids
    by_cases e1 : k = 1
    · subst e1
      have := hend 0
      simpa [headT] using this
    by_cases e2 : k = 2
    · subst e2
      cases hf : decide (1 < d) with
      | true =>
        have : headT 2 nm ks.length d = false := by simp [headT, hf]
        simp only [this, cond_false]
        exact Ev.of fun n => by simp
      | false =>
        have := hend 0
        simpa [headT, hf] using this
    by_cases e3 : k = 3
    · subst e3
      simp only [show ((3 : Int) == 1) = false from rfl, show ((3 : Int) == 2) = false from rfl, show ((3 : Int) == 3) = true from rfl, cond_false, cond_true]
      refine Ev.bind (a := cond (ident nm) (.nx 0) (.rt (false, c + 1))) (Ev.bind (term_Identifier_ev nm) ?_) ?_
      · cases ident nm
        · exact Ev.ret _
        · exact Ev.ret _
      · cases hi : ident nm with
        | false =>
          have : headT 3 nm ks.length d = false := by simp [headT, hi]
          rw [this]
          exact Ev.ret _
        | true =>
          have := hend 0
          simpa [headT, hi] using this
    by_cases e4 : k = 4
    · subst e4
      have := hend 2
      simpa [headT] using this
    by_cases e5 : k = 5
    · subst e5
      have := hend 1
      simpa [headT] using this
    · have : headT k nm ks.length d = false := by simp [headT, e1, e2, e3, e4, e5]
      rw [this]
      refine Ev.of fun n => ?_
      have b1 := beq_false_of_ne e1
      have b2 := beq_false_of_ne e2
      have b3 := beq_false_of_ne e3
      have b4 := beq_false_of_ne e4
      have b5 := beq_false_of_ne e5
      simp only [b1, b2, b3, b4, b5, cond_false, Option.bind_some, LR.el]

/-- Valid types. -/
def validT (t : Ty) : Bool := (pf t 1 0).1
theorem term_ValidType_ev (t : Ty) : Ev (fun n => term_ValidType n t) (validT t) := by
  unfold term_ValidType
  have := fits t 1 0 (by omega) (by omega) (by omega) (by omega)
  rw [show decide ((1 : Int) < 1) = false from rfl] at this
  exact Ev.bind this (Ev.ret _)

/-! ### The document's -/

def pt (t : Ty) (d c : Int) : Int := cond (pf t d c).1 (pf t d c).2 (-1)
def TypedE (t : Ty) : Prop := ∀ d c : Int, 1 ≤ d → d ≤ 7 → 0 ≤ c → c ≤ 16 → Ev (fun n => R1_typed n t d c) (pt t d c)

theorem pts_run (d : Int) : ∀ (ts : List Ty) (c : Int), 0 ≤ c → runL (τ := Int) (fun x s => cond (decide (pt x d s < 0)) (.rt (-1)) (.nx (pt x d s))) (fun s => s) ts c = cond (pfs ts d c).1 (.nx (pfs ts d c).2) (.rt (-1))
  | [], c, _ => rfl
  | t :: ts, c, h0 => by
    simp only [pfs, runL]
    by_cases hb : (pf t d c).1 = true
    · have h1 := pf_le t d c hb
      have h2 : pt t d c = (pf t d c).2 := by simp only [pt, hb, cond_true]
      have h3 : decide ((pf t d c).2 < 0) = false := decide_eq_false (by omega)
      simp only [h2, h3, hb, cond_true, cond_false]
      exact pts_run d ts (pf t d c).2 (by omega)
    · have hb' : (pf t d c).1 = false := by simpa using hb
      have h2 : pt t d c = -1 := by simp only [pt, hb', cond_false]
      have h3 : decide (pt t d c < 0) = true := decide_eq_true (by omega)
      simp only [h3, hb', cond_true, cond_false]

theorem typed : ∀ t : Ty, TypedE t := Ty.ind fun k nm ks ih d c hd hd7 h0 h1 => by
  refine Ev.succ ?_
  show Ev (fun n => R1_typed_body n _ (.mk k nm ks) d c) _
  unfold R1_typed_body
  simp only [pt, pf, Ty.kind, Ty.name, Ty.kids]
  rw [wrap64 (by omega) (by omega)]
  by_cases hd6 : d ≤ 6
  case neg =>
    rw [decide_eq_true (show 6 < d by omega), decide_eq_false hd6]
    simp only [Bool.and_false, Bool.false_and, cond_false]
    exact Ev.ret _
  by_cases hc : c + 1 ≤ 16
  case neg =>
    rw [decide_eq_false (show ¬ 6 < d by omega), decide_eq_true (show 16 < c + 1 by omega), decide_eq_false hc]
    simp only [Bool.false_and, cond_false, cond_true]
    exact Ev.ret _
  rw [decide_eq_false (show ¬ 6 < d by omega), decide_eq_false (show ¬ 16 < c + 1 by omega), decide_eq_true hd6, decide_eq_true hc]
  simp only [cond_false, Bool.true_and]
  have hloop := loopEv ks (fun n k' i s => R1_typed_L0 n (fun p0 p1 p2 => R1_typed n p0 p1 p2) (.mk k nm ks) d k' (s, i)) (fun n x s => (R1_typed n x (IntKind.wrap .i64 (d + 1)) s).bind fun x2 => cond (decide (x2 < 0)) (some (.rt (-1))) (some (.nx x2)))
    (fun x s => cond (decide (pt x (d + 1) s < 0)) (.rt (-1)) (.nx (pt x (d + 1) s))) (fun s => s) (fun _ s => 0 ≤ s ∧ s ≤ 16)
    (fun n k' i s => by
      show cond _ _ _ = _
      congr 1
      show (idx ks i).bind _ = _
      congr 1
      funext x
      dsimp only
      cases R1_typed n x (IntKind.wrap .i64 (d + 1)) s with
      | none => rfl
      | some b => simp only [Option.bind_some]; cases decide (b < 0) <;> rfl)
    (fun x suf s hx hs => ⟨by
      rw [wrap64 (by omega) (by omega)]
      refine Ev.bind (ih x hx (d + 1) s (by omega) (by omega) hs.1 hs.2) ?_
      cases decide (pt x (d + 1) s < 0)
      · exact Ev.ret _
      · exact Ev.ret _, fun s' he => by
        cases hb : decide (pt x (d + 1) s < 0) with
        | true => rw [hb] at he; cases he
        | false =>
          rw [hb] at he
          simp only [cond_false, LR.nx.injEq] at he
          have hneg : ¬ pt x (d + 1) s < 0 := of_decide_eq_false hb
          subst he
          unfold pt at hneg ⊢
          cases hb2 : (pf x (d + 1) s).1 with
          | false => rw [hb2] at hneg; simp at hneg
          | true => have := pf_le x (d + 1) s hb2; simp only [cond_true]; omega⟩) (s0 := c + 1) ⟨by omega, hc⟩
  rw [pts_run _ _ _ (by omega)] at hloop
  have hkids : Ev (fun n => (R1_typed_L0 n (fun p0 p1 p2 => R1_typed n p0 p1 p2) (.mk k nm ks) d n (c + 1, 0)).bind (LR.el (fun (s5 : Int) => some s5) (fun r => some r))) (cond (pfs ks (d + 1) (c + 1)).1 (pfs ks (d + 1) (c + 1)).2 (-1)) := by
    refine Ev.bind hloop ?_
    cases (pfs ks (d + 1) (c + 1)).1
    · exact Ev.ret _
    · exact Ev.ret _
  have hend : ∀ m : Nat, Ev (fun n => (((cond ((ks.length : Int) != (m : Int)) (some true) (cond (k == 3) ((R1_Identifier n nm).bind fun (x3 : Bool) => (cond (!x3) (some true) (cond (k != 3) (some (!(nm == ([] : Str)))) (some false)))) (cond (k != 3) (some (!(nm == ([] : Str)))) (some false)))) : Option Bool).bind fun (s3 : Bool) => (cond s3 (some (-1)) ((R1_typed_L0 n (fun p0 p1 p2 => R1_typed n p0 p1 p2) (.mk k nm ks) d n (c + 1, 0)).bind (LR.el (fun (s5 : Int) => some s5) (fun r => some r))))))
      (cond ((ks.length == m) && cond (k == 3) (ident nm) (nm == [])) (cond (pfs ks (d + 1) (c + 1)).1 (pfs ks (d + 1) (c + 1)).2 (-1)) (-1)) := fun m => by
    rw [len_ne]
    cases ks.length == m with
    | false => exact Ev.ret _
    | true =>
      simp only [Bool.not_true, cond_false, Bool.true_and, bne]
      cases k == 3 with
      | true =>
        simp only [cond_true, Bool.not_true, cond_false]
        refine Ev.bind (a := !(ident nm)) (Ev.bind (R1_Identifier_ev nm) ?_) ?_
        · cases ident nm
          · exact Ev.ret _
          · exact Ev.ret _
        · cases ident nm
          · exact Ev.ret _
          · exact hkids
      | false =>
        simp only [cond_false, Bool.not_false, cond_true, Option.bind_some]
        cases nm == ([] : Str) with
        | false => exact Ev.ret _
        | true => exact hkids
  have hpair : ∀ b : Bool, (cond (cond b (pfs ks (d + 1) (c + 1)) (false, c + 1)).1 (cond b (pfs ks (d + 1) (c + 1)) (false, c + 1)).2 (-1) : Int) = cond b (cond (pfs ks (d + 1) (c + 1)).1 (pfs ks (d + 1) (c + 1)).2 (-1)) (-1) := fun b => by cases b <;> rfl
  rw [hpair]
  by_cases e1 : k = 1
  · subst e1
    have := hend 0
    simpa [headT] using this
  by_cases e2 : k = 2
  · subst e2
    cases hf : decide (1 < d) with
    | true =>
      have : headT 2 nm ks.length d = false := by simp [headT, hf]
      rw [this]
      exact Ev.of fun n => by simp
    | false =>
      have := hend 0
      simpa [headT, hf] using this
  by_cases e3 : k = 3
  · subst e3
    have := hend 0
    simpa [headT] using this
  by_cases e4 : k = 4
  · subst e4
    have := hend 2
    simpa [headT] using this
  by_cases e5 : k = 5
  · subst e5
    have := hend 1
    simpa [headT] using this
  · have : headT k nm ks.length d = false := by simp [headT, e1, e2, e3, e4, e5]
    rw [this]
    refine Ev.of fun n => ?_
    have b1 := beq_false_of_ne e1
    have b2 := beq_false_of_ne e2
    have b3 := beq_false_of_ne e3
    have b4 := beq_false_of_ne e4
    have b5 := beq_false_of_ne e5
    simp only [b1, b2, b3, b4, b5, cond_false, Option.bind_some, LR.el]

theorem R1_ValidType_ev (t : Ty) : Ev (fun n => R1_ValidType n t) (validT t) := by
  unfold R1_ValidType
  refine Ev.bind (typed t 1 0 (by omega) (by omega) (by omega) (by omega)) ?_
  unfold pt validT
  cases hb : (pf t 1 0).1 with
  | false => exact Ev.ret _
  | true =>
    have := pf_le t 1 0 hb
    simp only [cond_true]
    rw [decide_eq_true (by omega)]
    exact Ev.ret _
end Abs
end Go.Proofs.YtiiaccpcoclklaaGreat
namespace Go.Proofs.YtiiaccpcoclklaaGreat
namespace Abs
open Go

def eqT : Tag → Tag → Bool
  | .shared, .shared => true
  | .nils, .nils => true
  | .tip l z, .tip l' z' => Nat.beq l l' && Nat.beq z z'
  | _, _ => false
def eqB : List UInt8 → List UInt8 → Bool
  | [], [] => true
  | a :: s, b :: t => Nat.beq a.toNat b.toNat && eqB s t
  | _, _ => false
mutual
def eqV : AV → AV → Bool
  | .unk, .unk => true
  | .int k n, .int k' n' => decide (k = k') && decide (n = n')
  | .bool b, .bool b' => b == b'
  | .str s, .str s' => eqB s s'
  | .nilp, .nilp => true
  | .ptr l o, .ptr l' o' => Nat.beq l l' && Nat.beq o o'
  | .slice es t, .slice es' t' => eqT t t' && eqLL es es'
  | .agg cs, .agg cs' => eqL cs cs'
  | .tup cs, .tup cs' => eqL cs cs'
  | .func f cs, .func f' cs' => Nat.beq f f' && eqL cs cs'
  | .mapr l, .mapr l' => Nat.beq l l'
  | .nilFunc, .nilFunc => true
  | _, _ => false
def eqL : List AV → List AV → Bool
  | [], [] => true
  | c :: cs, c' :: cs' => eqV c c' && eqL cs cs'
  | _, _ => false
def eqLL : List (List AV) → List (List AV) → Bool
  | [], [] => true
  | c :: cs, c' :: cs' => eqL c c' && eqLL cs cs'
  | _, _ => false
end
def eqO : AObj → AObj → Bool
  | .box cs, .box cs' => eqL cs cs'
  | .tip n, .tip n' => Nat.beq n n'
  | .dead, .dead => true
  | _, _ => false
def eqOs : List AObj → List AObj → Bool
  | [], [] => true
  | c :: cs, c' :: cs' => eqO c c' && eqOs cs cs'
  | _, _ => false

theorem eqT_ok {x y : Tag} (h : eqT x y = true) : x = y := by
  cases x <;> cases y <;> simp only [eqT, Bool.and_eq_true, Bool.false_eq_true] at h
  · rfl
  · rfl
  · rw [Nat.eq_of_beq_eq_true h.1, Nat.eq_of_beq_eq_true h.2]
theorem eqB_ok : ∀ {x y : List UInt8}, eqB x y = true → x = y
  | [], [], _ => rfl
  | a :: s, b :: t, h => by
    simp only [eqB, Bool.and_eq_true] at h
    rw [eqB_ok h.2, UInt8.toNat_inj.1 (Nat.eq_of_beq_eq_true h.1)]
mutual
theorem eqV_ok : ∀ {x y : AV}, eqV x y = true → x = y
  | .unk, y, h => by cases y <;> simp [eqV] at h ⊢
  | .int k n, y, h => by cases y <;> simp [eqV] at h ⊢; exact h
  | .bool b, y, h => by cases y <;> simp [eqV] at h ⊢; exact h
  | .str s, y, h => by cases y <;> simp only [eqV, Bool.false_eq_true] at h; rw [eqB_ok h]
  | .nilp, y, h => by cases y <;> simp [eqV] at h ⊢
  | .ptr l o, y, h => by
    cases y <;> simp only [eqV, Bool.false_eq_true, Bool.and_eq_true] at h
    rw [Nat.eq_of_beq_eq_true h.1, Nat.eq_of_beq_eq_true h.2]
  | .slice es t, y, h => by
    cases y <;> simp only [eqV, Bool.false_eq_true, Bool.and_eq_true] at h
    rw [eqT_ok h.1, eqLL_ok h.2]
  | .agg cs, y, h => by cases y <;> simp only [eqV, Bool.false_eq_true] at h; rw [eqL_ok h]
  | .tup cs, y, h => by cases y <;> simp only [eqV, Bool.false_eq_true] at h; rw [eqL_ok h]
  | .func f cs, y, h => by
    cases y <;> simp only [eqV, Bool.false_eq_true, Bool.and_eq_true] at h
    rw [Nat.eq_of_beq_eq_true h.1, eqL_ok h.2]
  | .mapr l, y, h => by cases y <;> simp only [eqV, Bool.false_eq_true] at h; rw [Nat.eq_of_beq_eq_true h]
  | .nilFunc, y, h => by cases y <;> simp [eqV] at h ⊢
  | .eptr _, y, h => by cases y <;> simp [eqV] at h
  | .psl _ _ _, y, h => by cases y <;> simp [eqV] at h
  | .flist _, y, h => by cases y <;> simp [eqV] at h
theorem eqL_ok : ∀ {x y : List AV}, eqL x y = true → x = y
  | [], y, h => by cases y <;> simp [eqL] at h ⊢
  | c :: cs, y, h => by
    cases y <;> simp only [eqL, Bool.false_eq_true, Bool.and_eq_true] at h
    rw [eqV_ok h.1, eqL_ok h.2]
theorem eqLL_ok : ∀ {x y : List (List AV)}, eqLL x y = true → x = y
  | [], y, h => by cases y <;> simp [eqLL] at h ⊢
  | c :: cs, y, h => by
    cases y <;> simp only [eqLL, Bool.false_eq_true, Bool.and_eq_true] at h
    rw [eqL_ok h.1, eqLL_ok h.2]
end
theorem eqO_ok {x y : AObj} (h : eqO x y = true) : x = y := by
  cases x <;> cases y <;> simp only [eqO, Bool.false_eq_true] at h
  · rw [eqL_ok h]
  · rw [Nat.eq_of_beq_eq_true h]
  · rfl
theorem eqOs_ok : ∀ {x y : List AObj}, eqOs x y = true → x = y
  | [], y, h => by cases y <;> simp [eqOs] at h ⊢
  | c :: cs, y, h => by
    cases y <;> simp only [eqOs, Bool.false_eq_true, Bool.and_eq_true] at h
    rw [eqO_ok h.1, eqOs_ok h.2]

structure Known where
  f : Nat
  args : List AV
  H : List AObj
  res : AV
  H' : List AObj

def known : List Known → CallT → CallT
  | [], E, f, args, H => E f args H
  | e :: m, E, f, args, H => bif Nat.beq e.f f && (eqL e.args args && eqOs e.H H) then some (e.res, e.H') else known m E f args H

theorem known_ok {P : Program} {E : CallT} (hE : ∀ f args H r, E f args H = some r → ACalls P f args H r.1 r.2) : ∀ (m : List Known), (∀ e ∈ m, ACalls P e.f e.args e.H e.res e.H') → ∀ f args H r, known m E f args H = some r → ACalls P f args H r.1 r.2
  | [], _, f, args, H, r, h => hE f args H r h
  | e :: m, hm, f, args, H, r, h => by
    unfold known at h
    cases hb : (Nat.beq e.f f && (eqL e.args args && eqOs e.H H)) with
    | false => rw [hb] at h; exact known_ok hE m (fun e he => hm e (List.mem_cons_of_mem _ he)) f args H r h
    | true =>
      rw [hb] at h
      simp only [cond_true, Option.some.injEq] at h
      subst h
      simp only [Bool.and_eq_true] at hb
      have := hm e (by simp)
      rw [Nat.eq_of_beq_eq_true hb.1, eqL_ok hb.2.1, eqOs_ok hb.2.2] at this
      exact this

end Abs
end Go.Proofs.YtiiaccpcoclklaaGreat
namespace Go.Proofs.YtiiaccpcoclklaaGreat
namespace Abs
open Go Go.Proofs

noncomputable def sort3 (H : List AObj) : AObj → Option (AV × List AObj)
  | .mp es => bif Nat.ble (es.length * 16) 140737488355328 then some (.slice (((es.map (·.1)).mergeSort leS).map encS) .shared, H) else none
  | _ => none
noncomputable def sort2 (H : List AObj) : AObj → Option (AV × List AObj)
  | .box [.mapr m] => sort3 H (nthO H m)
  | _ => none
noncomputable def sort1 (H : List AObj) : List AV → Option (AV × List AObj)
  | [.func g [.ptr p o]] => bif Nat.beq g 185 && Nat.beq o 0 then sort2 H (nthO H p) else none
  | _ => none
noncomputable def sortE : CallT := fun f args H => bif Nat.beq f 104 then sort1 H args else none

theorem sortE_ok : ∀ f args H r, sortE f args H = some r → ACalls Tryz.prog f args H r.1 r.2 := by
  intro f args H r h
  unfold sortE at h
  cases hf : Nat.beq f 104 with
  | false => rw [hf] at h; cases h
  | true =>
    rw [hf] at h
    simp only [cond_true] at h
    rw [Nat.eq_of_beq_eq_true hf]
    unfold sort1 at h
    split at h
    · rename_i g p o
      cases hb : (Nat.beq g 185 && Nat.beq o 0) with
      | false => rw [hb] at h; cases h
      | true =>
        rw [hb] at h
        simp only [cond_true] at h
        simp only [Bool.and_eq_true] at hb
        rw [Nat.eq_of_beq_eq_true hb.1, Nat.eq_of_beq_eq_true hb.2]
        unfold sort2 at h
        split at h
        · rename_i m hp
          unfold sort3 at h
          split at h
          · rename_i es hm
            cases hl : Nat.ble (es.length * 16) 140737488355328 with
            | false => rw [hl] at h; cases h
            | true =>
              rw [hl] at h
              simp only [cond_true, Option.some.injEq] at h
              subst h
              rw [nthO_eq] at hp hm
              exact sorted_calls H p m es hp hm (Nat.le_of_ble_eq_true hl)
          · cases h
        · cases h
    · cases h

def okB (f : Nat) : Bool := Nat.blt 1 f && Nat.blt f 302
theorem okB_all : ((List.range 302).all fun f => !(Nat.blt 1 f) || okFn Tryz.prog f) = true := by kernel_rfl
theorem okB_ok : ∀ f, okB f = true → okFn Tryz.prog f = true := by
  intro f h
  simp only [okB, Bool.and_eq_true] at h
  have := List.all_eq_true.1 okB_all f (List.mem_range.2 (Nat.le_of_ble_eq_true h.2))
  simpa [h.1] using this

/-- The run of the program, with what is known already. -/
noncomputable def runK (m : List Known) (f : Nat) (args : List AV) (H : List AObj) : Option (AV × List AObj) := xcall Tryz.prog (known m sortE) okB [(60, 59, 1)] [67, 131] 200 f args H
theorem runK_ok {m : List Known} (hm : ∀ e ∈ m, ACalls Tryz.prog e.f e.args e.H e.res e.H') {f : Nat} {args : List AV} {H : List AObj} {r : AV} {H' : List AObj} (h : runK m f args H = some (r, H')) : ACalls Tryz.prog f args H r H' :=
  xcall_ok mixedO (known_ok sortE_ok m hm) okB_ok _ _ _ _ _ h
end Abs
end Go.Proofs.YtiiaccpcoclklaaGreat
namespace Go.Proofs.YtiiaccpcoclklaaGreat
namespace Abs
open Go Go.Proofs
def awZ : AV := .slice [] .shared
def awN (s : List UInt8) : List AV := [.int .i64 20, .str s, .int .i64 0, .int .i64 0, .str [], awZ, awZ]
def awT : AV := .agg [.int .i64 22, .str [], .int .i64 0, .int .i64 0, .str [], .slice [] .nils, .slice [[.int .i64 54, .str [], .int .i64 0, .int .i64 0, .str [], awZ, .slice [awN [102], awN [97]] .shared], [.int .i64 19, .str [], .int .i64 1, .int .i64 0, .str [], awZ, awZ]] (.tip 0 7)]
def kParse : Known := ⟨29, [.str [102, 40, 97, 41, 32, 43, 32, 49]], [], .tup [awT, .int .i64 0, .int .i64 0], [.tip 14]⟩
theorem kParse_run : runK [] kParse.f kParse.args kParse.H = some (kParse.res, kParse.H') := by kernel_rfl
theorem kParse_ok : ACalls Tryz.prog kParse.f kParse.args kParse.H kParse.res kParse.H' := runK_ok (fun _ h => by cases h) kParse_run
end Abs
end Go.Proofs.YtiiaccpcoclklaaGreat
namespace Go.Proofs.YtiiaccpcoclklaaGreat
namespace Abs
open Go Go.Proofs
def awEnv : AV := .agg [.slice [[.str [65], awZ]] (.tip 0 2), .slice [[.str [97], .int .i64 3, .str [65], awZ], [.str [102], .int .i64 5, .str [], .slice [[.int .i64 4, .str [], .slice [[.int .i64 3, .str [65], awZ], [.int .i64 1, .str [], awZ]] .shared]] .shared]] (.tip 1 4)]
def awT2 : AV := .agg [.int .i64 22, .str [], .int .i64 0, .int .i64 0, .str [], .slice [] .nils, .slice [[.int .i64 54, .str [], .int .i64 0, .int .i64 0, .str [], awZ, .slice [awN [102], awN [97]] .shared], [.int .i64 19, .str [], .int .i64 1, .int .i64 0, .str [], awZ, awZ]] (.tip 2 7)]
def kTypeOf : Known := ⟨18, [awEnv, awT2], [.tip 2, .tip 8, .tip 14], .tup [.agg [.int .i64 1, .str [], .slice [] .nils], .slice [] .nils, .int .i64 0], [.tip 2, .tip 8, .tip 14]⟩
theorem kTypeOf_run : runK [] kTypeOf.f kTypeOf.args kTypeOf.H = some (kTypeOf.res, kTypeOf.H') := by kernel_rfl
theorem kTypeOf_ok : ACalls Tryz.prog kTypeOf.f kTypeOf.args kTypeOf.H kTypeOf.res kTypeOf.H' := runK_ok (fun _ h => by cases h) kTypeOf_run
end Abs
end Go.Proofs.YtiiaccpcoclklaaGreat
namespace Go.Proofs.YtiiaccpcoclklaaGreat
namespace Abs
open Go Go.Proofs
theorem awake_run : runK [kParse, kTypeOf] 17 [] [] = some (.bool true, []) := by kernel_rfl
theorem awake_calls : ACalls Tryz.prog 17 [] [] (.bool true) [] := runK_ok (m := [kParse, kTypeOf]) (fun e h => by
  rcases List.mem_cons.1 h with rfl | h
  · exact kParse_ok
  · rcases List.mem_cons.1 h with rfl | h
    · exact kTypeOf_ok
    · cases h) awake_run
theorem okF_17 : okFn Tryz.prog 17 = true := by kernel_rfl
def L2_awake (_ : Nat) : Option Bool := some true
theorem L2_awake_ok (n : Nat) (r : Bool) (h : L2_awake n = some r) : ACalls Tryz.prog 17 [] [] (.bool r) [] := by
  have e := Option.some.inj h
  subst e
  exact awake_calls
end Abs
end Go.Proofs.YtiiaccpcoclklaaGreat
namespace Go.Proofs.YtiiaccpcoclklaaGreat
namespace Abs
open Go Go.Proofs
def R2_ValidEnv_L3 (n : Nat) (x10 : Carrier) : Nat → Int → Option (LR Unit Bool)
  | 0, _ => none
  | k + 1, s10 => (cond (decide (s10 < (x10.elems.length : Int))) ((idx x10.elems s10).bind fun (x11 : Str) => ((R1_Identifier n x11).bind fun (x12 : Bool) => (cond (!x12) (some (.rt false)) (R2_ValidEnv_L3 n x10 k (s10 + 1))))) (some (.nx ())))
def R2_ValidEnv_L2 (n : Nat) (p0 : Env) : Nat → Int → Option (LR Unit Bool)
  | 0, _ => none
  | k + 1, s2 => (cond (decide (s2 < (p0.carriers.length : Int))) ((idx p0.carriers s2).bind fun (x10 : Carrier) => ((((R1_Identifier n x10.name).bind fun (x13 : Bool) => (cond (!x13) (some true) (some (decide (8 < (x10.elems.length : Int)))))) : Option Bool).bind fun (s9 : Bool) => (cond s9 (some (.rt false)) ((R2_ValidEnv_L3 n x10 n 0).bind (LR.el (fun (s11 : Unit) => R2_ValidEnv_L2 n p0 k (s2 + 1)) (fun r => some (.rt r))))))) (some (.nx ())))
def R2_ValidEnv_L1 (n : Nat) (p0 : Env) : Nat → Int → Option (LR Unit Bool)
  | 0, _ => none
  | k + 1, s4 => (cond (decide (s4 < (p0.names.length : Int))) ((idx p0.names s4).bind fun (x5 : Decl) => ((((R1_Named n x5.name).bind fun (x6 : Bool) => (cond (!x6) (some true) ((R1_ValidType n x5.ty).bind fun (x7 : Bool) => (cond (!x7) (some true) ((R2_holdsBool n x5.ty).bind fun (x8 : Bool) => (cond x8 (some true) ((R2_Knows n p0 x5.ty).bind fun (x9 : Bool) => some (!x9)))))))) : Option Bool).bind fun (s8 : Bool) => (cond s8 (some (.rt false)) (R2_ValidEnv_L1 n p0 k (s4 + 1))))) (some (.nx ())))
def R2_ValidEnv_L0 (n : Nat) (x1 : List Str) : Nat → Int → Option (LR Unit Bool)
  | 0, _ => none
  | k + 1, s6 => (cond (decide (s6 < (x1.length : Int))) ((idx x1 s6).bind fun (x2 : Str) => ((scut x1 0 s6).bind fun (x3 : List Str) => ((R1_In n x2 x3).bind fun (x4 : Bool) => (cond x4 (some (.rt false)) (R2_ValidEnv_L0 n x1 k (s6 + 1)))))) (some (.nx ())))
def R2_ValidEnv (n : Nat) (p0 : Env) : Option Bool := (((cond (decide (8 < (p0.carriers.length : Int))) (some true) (some (decide (64 < (p0.names.length : Int))))) : Option Bool).bind fun (s1 : Bool) => (cond s1 (some false) ((R2_ValidEnv_L2 n p0 n 0).bind (LR.el (fun (s3 : Unit) => ((R2_ValidEnv_L1 n p0 n 0).bind (LR.el (fun (s5 : Unit) => ((R2_AllNames n p0).bind fun (x1 : List Str) => ((R2_ValidEnv_L0 n x1 n 0).bind (LR.el (fun (s7 : Unit) => some true) (fun r => some r))))) (fun r => some r)))) (fun r => some r)))))
set_option maxRecDepth 100000 in
set_option maxHeartbeats 40000000 in
theorem R2_ValidEnv_ok (n : Nat) (p0 : Env) (r : Bool) (h : R2_ValidEnv n p0 = some r) : ACalls Tryz.prog 56 [.agg [.slice (List.map encCarrier p0.carriers) .shared, .slice (List.map encDecl p0.names) .shared]] [] (.bool r) [] := by
  unfold R2_ValidEnv at h
  refine acalls_start true Tryz.func56 rfl (by rw [Tryz.ntmps56]; exact Nat.le_of_ble_eq_true rfl) fun Q hQ t ht => ?_
  conv at ht => whnf
  subst ht
  refine AW.seqK fun K1 hK1 => ?_
  refine AW.region τ_ok mixedO 1 ?_
  conv => whnf
  refine hK1 _ _ ?_
  refine AW.seqK fun K2 hK2 => ?_
  refine AW.seqK fun K3 hK3 => ?_
  obtain ⟨s1, hj1, h⟩ := ob h
  have hR1 : ∀ t9 h9, Le 0 t9 h9 (.unk :: (.ptr 0 0 :: (u16 (.unk :: (.bool s1 :: (u64 (u16 (u4 (u2 []))))))))) [.box [.slice (List.map encCarrier p0.carriers) .shared, .slice (List.map encDecl p0.names) .shared]] → K3 t9 h9 := by
    intro t9 h9 hw
    refine hK3 _ _ (AW.le hw ?_)
    clear hw
    refine AW.condS rfl h (fun hc1 h => ?_) (fun hc1 h => ?_)
    · refine AW.seqK fun K4 hK4 => ?_
      refine AW.region τ_ok mixedO 0 ?_
      conv => whnf
      refine hK4 _ _ ?_
      refine AW.ret ?_
      conv => whnf
      have e9 := Option.some.inj h
      subst e9
      refine hQ _ _ _ (retPure τ_ok (fun g => rfl) ?_)
      conv => whnf
    · refine AW.skip ?_
      conv => whnf
      refine hK2 _ _ ?_
      refine AW.seqK fun K5 hK5 => ?_
      refine AW.seqK fun K6 hK6 => ?_
      refine AW.region τ_ok mixedO 0 ?_
      conv => whnf
      refine hK6 _ _ ?_
      refine AW.block ?_
      obtain ⟨o1, ho1, h⟩ := ob h
      have hR2 : ∀ s3 : Unit, o1 = .nx s3 → ∀ t9 h9, Le 0 t9 h9 (.unk :: (.ptr 0 0 :: (u64 (u32 (u8 []))))) [.box [.slice (List.map encCarrier p0.carriers) .shared, .slice (List.map encDecl p0.names) .shared]] → K5 t9 h9 := by
        intro s3 ho
        subst ho
        dsimp only [LR.el] at h
        intro t9 h9 hw
        refine hK5 _ _ (AW.le hw ?_)
        refine AW.seqK fun K7 hK7 => ?_
        refine AW.seqK fun K8 hK8 => ?_
        refine AW.region τ_ok mixedO 0 ?_
        conv => whnf
        refine hK8 _ _ ?_
        refine AW.block ?_
        obtain ⟨o2, ho2, h⟩ := ob h
        have hR3 : ∀ s5 : Unit, o2 = .nx s5 → ∀ t9 h9, Le 0 t9 h9 (.unk :: (.ptr 0 0 :: (u64 (u32 (u8 []))))) [.box [.slice (List.map encCarrier p0.carriers) .shared, .slice (List.map encDecl p0.names) .shared]] → K7 t9 h9 := by
          intro s5 ho
          subst ho
          dsimp only [LR.el] at h
          intro t9 h9 hw
          refine hK7 _ _ (AW.le hw ?_)
          refine AW.seqK fun K9 hK9 => ?_
          refine AW.region τ_ok mixedO 1 ?_
          conv => whnf
          obtain ⟨x1, hx1, h⟩ := ob h
          refine call_gen [] [1] [.agg [.slice (List.map encCarrier p0.carriers) .shared, .slice (List.map encDecl p0.names) .shared]] [.agg [.slice (List.map encCarrier p0.carriers) .shared, .slice (List.map encDecl p0.names) .shared]] (R2_AllNames_ok _ _ _ hx1) okF_62 rfl .nil (by simp only [ren, renL, renLL, renT, renL_app, renl_I, renl_S, renl_U8, renl_Ty, renl_Tm, renl_Carrier, renl_Decl]; try rfl) (.cons (.same _) .nil) (rn := .slice (List.map encS x1) (.tip 1 1)) (by simp only [ren, renL, renLL, renT, renL_app, renl_I, renl_S, renl_U8, renl_Ty, renl_Tm, renl_Carrier, renl_Decl]; try rfl) (Hn := [.tip (List.length x1 * 1)]) ((rcons (rfl) rfl)) ?_
          conv => whnf
          refine hK9 _ _ ?_
          refine AW.seqK fun K10 hK10 => ?_
          refine AW.seqK fun K11 hK11 => ?_
          refine AW.region τ_ok mixedO 0 ?_
          conv => whnf
          refine hK11 _ _ ?_
          refine AW.block ?_
          obtain ⟨o3, ho3, h⟩ := ob h
          have hR4 : ∀ s7 : Unit, o3 = .nx s7 → ∀ t9 h9, Le 0 t9 h9 (u64 (u32 (u8 (u2 [])))) [] → K10 t9 h9 := by
            intro s7 ho
            subst ho
            dsimp only [LR.el] at h
            intro t9 h9 hw
            refine hK10 _ _ (AW.le hw ?_)
            refine AW.seqK fun K12 hK12 => ?_
            refine AW.region τ_ok mixedO 0 ?_
            conv => whnf
            refine hK12 _ _ ?_
            refine AW.ret ?_
            conv => whnf
            have e9 := Option.some.inj h
            subst e9
            refine hQ _ _ _ (retPure τ_ok (fun g => rfl) ?_)
            conv => whnf
          refine AW.loopS (R2_ValidEnv_L0 n x1) (fun (s6 : Int) => (u8 (.slice (List.map encS x1) (.tip 0 1) :: (.int .i64 s6 :: (u64 (u32 [])))))) (fun (s6 : Int) => [.tip (List.length x1 * 1)]) ho3 (fun _ => rfl) (Le.of [some 1] (Weak.mk' rfl (.u8 (.cons (.tipS (renl_S _ _) rfl) (.cons (.same rfl) (.u64 (.u32 .nil))))) (.old (.tip _) .nil))) ?_
          intro n3 s6 hs3 KL3 hKL3
          unfold R2_ValidEnv_L0 at hs3
          refine AW.seqK fun K13 hK13 => ?_
          refine AW.seqK fun K14 hK14 => ?_
          refine AW.region τ_ok mixedO 0 ?_
          conv => whnf
          refine len_of (l := x1) (f := encS) ?_
          conv => whnf
          refine hK14 _ _ ?_
          refine AW.condS rfl hs3 (fun hc2 hs3 => ?_) (fun hc2 hs3 => ?_)
          · refine AW.skip ?_
            conv => whnf
            refine hK13 _ _ ?_
            refine AW.seqK fun K15 hK15 => ?_
            refine AW.block ?_
            refine AW.seqK fun K16 hK16 => ?_
            refine AW.region τ_ok mixedO 0 ?_
            conv => whnf
            obtain ⟨x2, hx2, hs3⟩ := ob hs3
            refine idx_of (l := x1) (f := encS) (cs := [.str (x2)]) hx2 (rfl) rfl ?_
            conv => whnf
            obtain ⟨x3, hx3, hs3⟩ := ob hs3
            refine cut_l (l := x1) (f := encS) hx3 (.none _) (.int _ _ _) ok_S ?_
            conv => whnf
            obtain ⟨x4, hx4, hs3⟩ := ob hs3
            refine call_pur (R1_In_ok _ _ _ _ hx4) okF_50 (.cons (.same _) (.cons (.same _) .nil)) (fun g => by simp only [ren, renL, renLL, renT, renL_app, renl_I, renl_S, renl_U8, renl_Ty, renl_Tm, renl_Carrier, renl_Decl]) (fun g => rfl) ?_
            conv => whnf
            refine ⟨rfl, ?_⟩
            conv => whnf
            refine hK16 _ _ ?_
            refine AW.condS rfl hs3 (fun hc3 hs3 => ?_) (fun hc3 hs3 => ?_)
            · refine AW.seqK fun K17 hK17 => ?_
              refine AW.region τ_ok mixedO 0 ?_
              conv => whnf
              refine hK17 _ _ ?_
              refine AW.ret ?_
              conv => whnf
              have e9 := Option.some.inj hs3
              subst e9
              dsimp only [LR.el] at h
              have e9 := Option.some.inj h
              subst e9
              refine hQ _ _ _ (retPure τ_ok (fun g => rfl) ?_)
              conv => whnf
            · refine AW.skip ?_
              conv => whnf
              refine hK15 _ _ ?_
              refine AW.know 9 0 fun hv1 => ?_
              refine AW.know 8 0 fun hv2 => ?_
              refine AW.region τ_ok mixedO 0 ?_
              conv => whnf
              refine ⟨(s6 + 1), by have := wf64 hv1; have := vfl hv2; have h8 := of_decide_eq_true hc2; exact w64_id (by omega) (by omega), ?_⟩
              conv => whnf
              exact hKL3 _ _ _ hs3 (Le.of [some 0] (Weak.mk' rfl (.u8 (.cons (.tipS (renl_S _ _) rfl) (.cons (.same rfl) (.u64 (.u32 .nil))))) (.old (.tip _) .nil)))
          · refine AW.exit ?_
            conv => whnf
            exact hR4 _ (Option.some.inj hs3).symm _ _ (Le.of [] (Weak.mk' rfl (.u64 (.u32 (.u8 (.u2 .nil)))) .nil))
        refine AW.loopS (R2_ValidEnv_L1 n p0) (fun (s4 : Int) => (.unk :: (.ptr 0 0 :: (u4 (.int .i64 s4 :: (u64 (u32 (u2 (.unk :: []))))))))) (fun (s4 : Int) => [.box [.slice (List.map encCarrier p0.carriers) .shared, .slice (List.map encDecl p0.names) .shared]]) ho2 (fun _ => rfl) (Le.of [some 0] (Weak.mk' rfl (.cons (.unk _) (.cons (.same rfl) (.u4 (.cons (.same rfl) (.u64 (.u32 (.u2 (.cons (.unk _) .nil)))))))) (.old (.box' (.cons (.share (renl_Carrier _ _)) (.cons (.share (renl_Decl _ _)) .nil))) .nil))) ?_
        intro n2 s4 hs2 KL2 hKL2
        unfold R2_ValidEnv_L1 at hs2
        refine AW.seqK fun K18 hK18 => ?_
        refine AW.seqK fun K19 hK19 => ?_
        refine AW.region τ_ok mixedO 0 ?_
        conv => whnf
        refine len_of (l := p0.names) (f := encDecl) ?_
        conv => whnf
        refine hK19 _ _ ?_
        refine AW.condS rfl hs2 (fun hc4 hs2 => ?_) (fun hc4 hs2 => ?_)
        · refine AW.skip ?_
          conv => whnf
          refine hK18 _ _ ?_
          refine AW.seqK fun K20 hK20 => ?_
          refine AW.block ?_
          refine AW.seqK fun K21 hK21 => ?_
          refine AW.region τ_ok mixedO 1 ?_
          conv => whnf
          obtain ⟨x5, hx5, hs2⟩ := ob hs2
          refine idx_of (l := p0.names) (f := encDecl) (cs := [.str ((x5).name), .int .i64 (((x5).ty).kind), .str (((x5).ty).name), .slice (List.map encTy (((x5).ty).kids)) .shared]) hx5 (rfl) rfl ?_
          conv => whnf
          refine hK21 _ _ ?_
          refine AW.seqK fun K22 hK22 => ?_
          obtain ⟨s8, hj2, hs2⟩ := ob hs2
          have hR5 : ∀ t9 h9, Le 0 t9 h9 (.unk :: (.ptr 0 0 :: (u4 (.int .i64 s4 :: (u64 (u16 (u2 (.bool s8 :: (u16 []))))))))) [.box [.slice (List.map encCarrier p0.carriers) .shared, .slice (List.map encDecl p0.names) .shared]] → K22 t9 h9 := by
            intro t9 h9 hw
            refine hK22 _ _ (AW.le hw ?_)
            clear hw
            refine AW.condS rfl hs2 (fun hc5 hs2 => ?_) (fun hc5 hs2 => ?_)
            · refine AW.seqK fun K23 hK23 => ?_
              refine AW.region τ_ok mixedO 0 ?_
              conv => whnf
              refine hK23 _ _ ?_
              refine AW.ret ?_
              conv => whnf
              have e9 := Option.some.inj hs2
              subst e9
              dsimp only [LR.el] at h
              have e9 := Option.some.inj h
              subst e9
              refine hQ _ _ _ (retPure τ_ok (fun g => rfl) ?_)
              conv => whnf
            · refine AW.skip ?_
              conv => whnf
              refine hK20 _ _ ?_
              refine AW.know 6 0 fun hv3 => ?_
              refine AW.knowB 0 1 (fun hv4 => ?_) ⟨1, 0, rfl⟩
              refine AW.region τ_ok mixedO 0 ?_
              conv => whnf
              refine ⟨(s4 + 1), by have := wf64 hv3; have := vfl hv4; have h8 := of_decide_eq_true hc4; exact w64_id (by omega) (by omega), ?_⟩
              conv => whnf
              exact hKL2 _ _ _ hs2 (Le.of [some 0] (Weak.mk' rfl (.cons (.unk _) (.cons (.same rfl) (.u4 (.cons (.same rfl) (.u64 (.u32 (.u2 (.cons (.unk _) .nil)))))))) (.old (.box' (.cons (.share (renl_Carrier _ _)) (.cons (.share (renl_Decl _ _)) .nil))) .nil)))
          refine AW.region τ_ok mixedO 0 ?_
          conv => whnf
          obtain ⟨x6, hx6, hj2⟩ := ob hj2
          refine call_pur (R1_Named_ok _ _ _ hx6) okF_116 (.cons (.same _) .nil) (fun g => rfl) (fun g => rfl) ?_
          conv => whnf
          refine onB_cond hj2 (fun hc6 hj2 => ?_) (fun hc6 hj2 => ?_)
          · conv => whnf
            cases hj2
            exact hR5 _ _ (Le.of [some 0] (Weak.mk' rfl (.cons (.unk _) (.cons (.same rfl) (.u4 (.cons (.same rfl) (.u64 (.u16 (.u2 (.cons (.same rfl) (.u16 .nil))))))))) (.old (.box' (.cons (.share (renl_Carrier _ _)) (.cons (.share (renl_Decl _ _)) .nil))) .nil)))
          · conv => whnf
            obtain ⟨x7, hx7, hj2⟩ := ob hj2
            refine call_pur (R1_ValidType_ok _ _ _ hx7) okF_42 (.cons (.same _) .nil) (fun g => by simp only [ren, renL, renLL, renT, renL_app, renl_I, renl_S, renl_U8, renl_Ty, renl_Tm, renl_Carrier, renl_Decl]) (fun g => rfl) ?_
            conv => whnf
            refine onB_cond hj2 (fun hc7 hj2 => ?_) (fun hc7 hj2 => ?_)
            · conv => whnf
              cases hj2
              exact hR5 _ _ (Le.of [some 0] (Weak.mk' rfl (.cons (.unk _) (.cons (.same rfl) (.u4 (.cons (.same rfl) (.u64 (.u16 (.u2 (.cons (.same rfl) (.u16 .nil))))))))) (.old (.box' (.cons (.share (renl_Carrier _ _)) (.cons (.share (renl_Decl _ _)) .nil))) .nil)))
            · conv => whnf
              obtain ⟨x8, hx8, hj2⟩ := ob hj2
              refine call_pur (R2_holdsBool_ok _ _ _ hx8) okF_99 (.cons (.same _) .nil) (fun g => by simp only [ren, renL, renLL, renT, renL_app, renl_I, renl_S, renl_U8, renl_Ty, renl_Tm, renl_Carrier, renl_Decl]) (fun g => rfl) ?_
              conv => whnf
              refine onB_cond hj2 (fun hc8 hj2 => ?_) (fun hc8 hj2 => ?_)
              · conv => whnf
                cases hj2
                exact hR5 _ _ (Le.of [some 0] (Weak.mk' rfl (.cons (.unk _) (.cons (.same rfl) (.u4 (.cons (.same rfl) (.u64 (.u16 (.u2 (.cons (.same rfl) (.u16 .nil))))))))) (.old (.box' (.cons (.share (renl_Carrier _ _)) (.cons (.share (renl_Decl _ _)) .nil))) .nil)))
              · conv => whnf
                obtain ⟨x9, hx9, hj2⟩ := ob hj2
                refine call_pur (R2_Knows_ok _ _ _ _ hx9) okF_101 (.cons (.same _) (.cons (.same _) .nil)) (fun g => by simp only [ren, renL, renLL, renT, renL_app, renl_I, renl_S, renl_U8, renl_Ty, renl_Tm, renl_Carrier, renl_Decl]) (fun g => rfl) ?_
                conv => whnf
                cases hj2
                exact hR5 _ _ (Le.of [some 0] (Weak.mk' rfl (.cons (.unk _) (.cons (.same rfl) (.u4 (.cons (.same rfl) (.u64 (.u16 (.u2 (.cons (.same rfl) (.u16 .nil))))))))) (.old (.box' (.cons (.share (renl_Carrier _ _)) (.cons (.share (renl_Decl _ _)) .nil))) .nil)))
        · refine AW.exit ?_
          conv => whnf
          exact hR3 _ (Option.some.inj hs2).symm _ _ (Le.of [some 0] (Weak.mk' rfl (.cons (.unk _) (.cons (.same rfl) (.u64 (.u32 (.u8 .nil))))) (.old (.box' (.cons (.share (renl_Carrier _ _)) (.cons (.share (renl_Decl _ _)) .nil))) .nil)))
      refine AW.loopS (R2_ValidEnv_L2 n p0) (fun (s2 : Int) => (.unk :: (.ptr 0 0 :: (.unk :: (.int .i64 s2 :: (u64 (u32 (u4 (u2 []))))))))) (fun (s2 : Int) => [.box [.slice (List.map encCarrier p0.carriers) .shared, .slice (List.map encDecl p0.names) .shared]]) ho1 (fun _ => rfl) (Le.of [some 0] (Weak.mk' rfl (.cons (.unk _) (.cons (.same rfl) (.cons (.unk _) (.cons (.same rfl) (.u64 (.u32 (.u4 (.u2 .nil)))))))) (.old (.box' (.cons (.share (renl_Carrier _ _)) (.cons (.share (renl_Decl _ _)) .nil))) .nil))) ?_
      intro n1 s2 hs1 KL1 hKL1
      unfold R2_ValidEnv_L2 at hs1
      refine AW.seqK fun K24 hK24 => ?_
      refine AW.seqK fun K25 hK25 => ?_
      refine AW.region τ_ok mixedO 0 ?_
      conv => whnf
      refine len_of (l := p0.carriers) (f := encCarrier) ?_
      conv => whnf
      refine hK25 _ _ ?_
      refine AW.condS rfl hs1 (fun hc9 hs1 => ?_) (fun hc9 hs1 => ?_)
      · refine AW.skip ?_
        conv => whnf
        refine hK24 _ _ ?_
        refine AW.seqK fun K26 hK26 => ?_
        refine AW.block ?_
        refine AW.seqK fun K27 hK27 => ?_
        refine AW.region τ_ok mixedO 1 ?_
        conv => whnf
        obtain ⟨x10, hx10, hs1⟩ := ob hs1
        refine idx_of (l := p0.carriers) (f := encCarrier) (cs := [.str ((x10).name), .slice (List.map encS ((x10).elems)) .shared]) hx10 (rfl) rfl ?_
        conv => whnf
        refine hK27 _ _ ?_
        refine AW.seqK fun K28 hK28 => ?_
        refine AW.seqK fun K29 hK29 => ?_
        obtain ⟨s9, hj3, hs1⟩ := ob hs1
        have hR6 : ∀ t9 h9, Le 0 t9 h9 (.unk :: (.ptr 0 0 :: (.unk :: (.int .i64 s2 :: (.ptr 1 0 :: (u32 (u4 (.bool s9 :: (u64 []))))))))) [.box [.slice (List.map encCarrier p0.carriers) .shared, .slice (List.map encDecl p0.names) .shared], .box [.str x10.name, .slice (List.map encS x10.elems) .shared]] → K29 t9 h9 := by
          intro t9 h9 hw
          refine hK29 _ _ (AW.le hw ?_)
          clear hw
          refine AW.condS rfl hs1 (fun hc10 hs1 => ?_) (fun hc10 hs1 => ?_)
          · refine AW.seqK fun K30 hK30 => ?_
            refine AW.region τ_ok mixedO 0 ?_
            conv => whnf
            refine hK30 _ _ ?_
            refine AW.ret ?_
            conv => whnf
            have e9 := Option.some.inj hs1
            subst e9
            dsimp only [LR.el] at h
            have e9 := Option.some.inj h
            subst e9
            refine hQ _ _ _ (retPure τ_ok (fun g => rfl) ?_)
            conv => whnf
          · refine AW.skip ?_
            conv => whnf
            refine hK28 _ _ ?_
            refine AW.seqK fun K31 hK31 => ?_
            refine AW.region τ_ok mixedO 0 ?_
            conv => whnf
            refine hK31 _ _ ?_
            refine AW.block ?_
            obtain ⟨o4, ho4, hs1⟩ := ob hs1
            have hR7 : ∀ s11 : Unit, o4 = .nx s11 → ∀ t9 h9, Le 0 t9 h9 (.unk :: (.ptr 0 0 :: (.unk :: (.int .i64 s2 :: (u64 (u32 (u4 (u2 [])))))))) [.box [.slice (List.map encCarrier p0.carriers) .shared, .slice (List.map encDecl p0.names) .shared]] → K26 t9 h9 := by
              intro s11 ho
              subst ho
              dsimp only [LR.el] at hs1
              intro t9 h9 hw
              refine hK26 _ _ (AW.le hw ?_)
              refine AW.know 3 0 fun hv5 => ?_
              refine AW.knowB 0 0 (fun hv6 => ?_) ⟨1, 0, rfl⟩
              refine AW.region τ_ok mixedO 0 ?_
              conv => whnf
              refine ⟨(s2 + 1), by have := wf64 hv5; have := vfl hv6; have h8 := of_decide_eq_true hc9; exact w64_id (by omega) (by omega), ?_⟩
              conv => whnf
              exact hKL1 _ _ _ hs1 (Le.of [some 0] (Weak.mk' rfl (.cons (.unk _) (.cons (.same rfl) (.cons (.unk _) (.cons (.same rfl) (.u64 (.u32 (.u4 (.u2 .nil)))))))) (.old (.box' (.cons (.share (renl_Carrier _ _)) (.cons (.share (renl_Decl _ _)) .nil))) .nil)))
            refine AW.loopS (R2_ValidEnv_L3 n x10) (fun (s10 : Int) => (.unk :: (.ptr 0 0 :: (.unk :: (.int .i64 s2 :: (.ptr 1 0 :: (.int .i64 s10 :: (u64 (u32 (u4 [])))))))))) (fun (s10 : Int) => [.box [.slice (List.map encCarrier p0.carriers) .shared, .slice (List.map encDecl p0.names) .shared], .box [.str x10.name, .slice (List.map encS x10.elems) .shared]]) ho4 (fun _ => rfl) (Le.of [some 0, some 1] (Weak.mk' rfl (.cons (.unk _) (.cons (.same rfl) (.cons (.unk _) (.cons (.same rfl) (.cons (.same rfl) (.cons (.same rfl) (.u64 (.u32 (.u4 .nil))))))))) (.old (.box' (.cons (.share (renl_Carrier _ _)) (.cons (.share (renl_Decl _ _)) .nil))) (.old (.box' (.cons (.same rfl) (.cons (.share (renl_S _ _)) .nil))) .nil)))) ?_
            intro n4 s10 hs4 KL4 hKL4
            unfold R2_ValidEnv_L3 at hs4
            refine AW.seqK fun K32 hK32 => ?_
            refine AW.seqK fun K33 hK33 => ?_
            refine AW.region τ_ok mixedO 0 ?_
            conv => whnf
            refine len_of (l := x10.elems) (f := encS) ?_
            conv => whnf
            refine hK33 _ _ ?_
            refine AW.condS rfl hs4 (fun hc11 hs4 => ?_) (fun hc11 hs4 => ?_)
            · refine AW.skip ?_
              conv => whnf
              refine hK32 _ _ ?_
              refine AW.seqK fun K34 hK34 => ?_
              refine AW.block ?_
              refine AW.seqK fun K35 hK35 => ?_
              refine AW.region τ_ok mixedO 0 ?_
              conv => whnf
              obtain ⟨x11, hx11, hs4⟩ := ob hs4
              refine idx_of (l := x10.elems) (f := encS) (cs := [.str (x11)]) hx11 (rfl) rfl ?_
              conv => whnf
              obtain ⟨x12, hx12, hs4⟩ := ob hs4
              refine call_pur (R1_Identifier_ok _ _ _ hx12) okF_58 (.cons (.same _) .nil) (fun g => rfl) (fun g => rfl) ?_
              conv => whnf
              refine hK35 _ _ ?_
              refine AW.condS rfl hs4 (fun hc12 hs4 => ?_) (fun hc12 hs4 => ?_)
              · refine AW.seqK fun K36 hK36 => ?_
                refine AW.region τ_ok mixedO 0 ?_
                conv => whnf
                refine hK36 _ _ ?_
                refine AW.ret ?_
                conv => whnf
                have e9 := Option.some.inj hs4
                subst e9
                dsimp only [LR.el] at hs1
                have e9 := Option.some.inj hs1
                subst e9
                dsimp only [LR.el] at h
                have e9 := Option.some.inj h
                subst e9
                refine hQ _ _ _ (retPure τ_ok (fun g => rfl) ?_)
                conv => whnf
              · refine AW.skip ?_
                conv => whnf
                refine hK34 _ _ ?_
                refine AW.know 5 0 fun hv7 => ?_
                refine AW.know 44 0 fun hv8 => ?_
                refine AW.region τ_ok mixedO 0 ?_
                conv => whnf
                refine ⟨(s10 + 1), by have := wf64 hv7; have := vfl hv8; have h8 := of_decide_eq_true hc11; exact w64_id (by omega) (by omega), ?_⟩
                conv => whnf
                exact hKL4 _ _ _ hs4 (Le.of [some 0, some 1] (Weak.mk' rfl (.cons (.unk _) (.cons (.same rfl) (.cons (.unk _) (.cons (.same rfl) (.cons (.same rfl) (.cons (.same rfl) (.u64 (.u32 (.u4 .nil))))))))) (.old (.box' (.cons (.share (renl_Carrier _ _)) (.cons (.share (renl_Decl _ _)) .nil))) (.old (.box' (.cons (.same rfl) (.cons (.share (renl_S _ _)) .nil))) .nil))))
            · refine AW.exit ?_
              conv => whnf
              exact hR7 _ (Option.some.inj hs4).symm _ _ (Le.of [some 0] (Weak.mk' rfl (.cons (.unk _) (.cons (.same rfl) (.cons (.unk _) (.cons (.same rfl) (.u64 (.u32 (.u4 (.u2 .nil)))))))) (.old (.box' (.cons (.share (renl_Carrier _ _)) (.cons (.share (renl_Decl _ _)) .nil))) .nil)))
        refine AW.region τ_ok mixedO 0 ?_
        conv => whnf
        obtain ⟨x13, hx13, hj3⟩ := ob hj3
        refine call_pur (R1_Identifier_ok _ _ _ hx13) okF_58 (.cons (.same _) .nil) (fun g => rfl) (fun g => rfl) ?_
        conv => whnf
        refine onB_cond hj3 (fun hc13 hj3 => ?_) (fun hc13 hj3 => ?_)
        · conv => whnf
          cases hj3
          exact hR6 _ _ (Le.of [some 0, some 1] (Weak.mk' rfl (.cons (.unk _) (.cons (.same rfl) (.cons (.unk _) (.cons (.same rfl) (.cons (.same rfl) (.u32 (.u4 (.cons (.same rfl) (.u64 .nil))))))))) (.old (.box' (.cons (.share (renl_Carrier _ _)) (.cons (.share (renl_Decl _ _)) .nil))) (.old (.box' (.cons (.same rfl) (.cons (.share (renl_S _ _)) .nil))) .nil))))
        · conv => whnf
          refine len_of (l := x10.elems) (f := encS) ?_
          conv => whnf
          cases hj3
          exact hR6 _ _ (Le.of [some 0, some 1] (Weak.mk' rfl (.cons (.unk _) (.cons (.same rfl) (.cons (.unk _) (.cons (.same rfl) (.cons (.same rfl) (.u32 (.u4 (.cons (.same rfl) (.u64 .nil))))))))) (.old (.box' (.cons (.share (renl_Carrier _ _)) (.cons (.share (renl_Decl _ _)) .nil))) (.old (.box' (.cons (.same rfl) (.cons (.share (renl_S _ _)) .nil))) .nil))))
      · refine AW.exit ?_
        conv => whnf
        exact hR2 _ (Option.some.inj hs1).symm _ _ (Le.of [some 0] (Weak.mk' rfl (.cons (.unk _) (.cons (.same rfl) (.u64 (.u32 (.u8 .nil))))) (.old (.box' (.cons (.share (renl_Carrier _ _)) (.cons (.share (renl_Decl _ _)) .nil))) .nil)))
  refine AW.region τ_ok mixedO 0 ?_
  conv => whnf
  refine len_of (l := p0.carriers) (f := encCarrier) ?_
  conv => whnf
  refine onB_cond hj1 (fun hc14 hj1 => ?_) (fun hc14 hj1 => ?_)
  · conv => whnf
    cases hj1
    exact hR1 _ _ (Le.of [some 0] (Weak.mk' rfl (.cons (.unk _) (.cons (.same rfl) (.u16 (.cons (.unk _) (.cons (.same rfl) (.u64 (.u16 (.u4 (.u2 .nil))))))))) (.old (.box' (.cons (.share (renl_Carrier _ _)) (.cons (.share (renl_Decl _ _)) .nil))) .nil)))
  · conv => whnf
    refine len_of (l := p0.names) (f := encDecl) ?_
    conv => whnf
    cases hj1
    exact hR1 _ _ (Le.of [some 0] (Weak.mk' rfl (.cons (.unk _) (.cons (.same rfl) (.u16 (.cons (.unk _) (.cons (.same rfl) (.u64 (.u16 (.u4 (.u2 .nil))))))))) (.old (.box' (.cons (.share (renl_Carrier _ _)) (.cons (.share (renl_Decl _ _)) .nil))) .nil)))
def R2_FindName_L0 (n : Nat) (p0 : Env) (p1 : Str) : Nat → Int → Option (LR Unit Int)
  | 0, _ => none
  | k + 1, s1 => (cond (decide (s1 < (p0.names.length : Int))) ((idx p0.names s1).bind fun (x1 : Decl) => (cond (x1.name == p1) (some (.rt s1)) (R2_FindName_L0 n p0 p1 k (s1 + 1)))) (some (.nx ())))
def R2_FindName (n : Nat) (p0 : Env) (p1 : Str) : Option Int := ((R2_FindName_L0 n p0 p1 n 0).bind (LR.el (fun (s2 : Unit) => some (-1)) (fun r => some r)))
set_option maxRecDepth 100000 in
set_option maxHeartbeats 40000000 in
theorem R2_FindName_ok (n : Nat) (p0 : Env) (p1 : Str) (r : Int) (h : R2_FindName n p0 p1 = some r) : ACalls Tryz.prog 129 [.agg [.slice (List.map encCarrier p0.carriers) .shared, .slice (List.map encDecl p0.names) .shared], .str p1] [] (.int .i64 r) [] := by
  unfold R2_FindName at h
  refine acalls_start true Tryz.func129 rfl (by rw [Tryz.ntmps129]; exact Nat.le_of_ble_eq_true rfl) fun Q hQ t ht => ?_
  conv at ht => whnf
  subst ht
  refine AW.seqK fun K1 hK1 => ?_
  refine AW.region τ_ok mixedO 1 ?_
  conv => whnf
  refine hK1 _ _ ?_
  refine AW.seqK fun K2 hK2 => ?_
  refine AW.seqK fun K3 hK3 => ?_
  refine AW.region τ_ok mixedO 0 ?_
  conv => whnf
  refine hK3 _ _ ?_
  refine AW.block ?_
  obtain ⟨o1, ho1, h⟩ := ob h
  have hR1 : ∀ s2 : Unit, o1 = .nx s2 → ∀ t9 h9, Le 0 t9 h9 (u16 (u4 (u2 []))) [] → K2 t9 h9 := by
    intro s2 ho
    subst ho
    dsimp only [LR.el] at h
    intro t9 h9 hw
    refine hK2 _ _ (AW.le hw ?_)
    refine AW.seqK fun K4 hK4 => ?_
    refine AW.region τ_ok mixedO 0 ?_
    conv => whnf
    refine hK4 _ _ ?_
    refine AW.ret ?_
    conv => whnf
    have e9 := Option.some.inj h
    subst e9
    refine hQ _ _ _ (retPure τ_ok (fun g => rfl) ?_)
    conv => whnf
  refine AW.loopS (R2_FindName_L0 n p0 p1) (fun (s1 : Int) => (.unk :: (.str p1 :: (.ptr 0 0 :: (u2 (.int .i64 s1 :: (u16 []))))))) (fun (s1 : Int) => [.box [.slice (List.map encCarrier p0.carriers) .shared, .slice (List.map encDecl p0.names) .shared]]) ho1 (fun _ => rfl) (Le.of [some 0] (Weak.mk' rfl (.cons (.unk _) (.cons (.same rfl) (.cons (.same rfl) (.u2 (.cons (.same rfl) (.u16 .nil)))))) (.old (.box' (.cons (.share (renl_Carrier _ _)) (.cons (.share (renl_Decl _ _)) .nil))) .nil))) ?_
  intro n1 s1 hs1 KL1 hKL1
  unfold R2_FindName_L0 at hs1
  refine AW.seqK fun K5 hK5 => ?_
  refine AW.seqK fun K6 hK6 => ?_
  refine AW.region τ_ok mixedO 0 ?_
  conv => whnf
  refine len_of (l := p0.names) (f := encDecl) ?_
  conv => whnf
  refine hK6 _ _ ?_
  refine AW.condS rfl hs1 (fun hc1 hs1 => ?_) (fun hc1 hs1 => ?_)
  · refine AW.skip ?_
    conv => whnf
    refine hK5 _ _ ?_
    refine AW.seqK fun K7 hK7 => ?_
    refine AW.block ?_
    refine AW.seqK fun K8 hK8 => ?_
    refine AW.region τ_ok mixedO 0 ?_
    conv => whnf
    obtain ⟨x1, hx1, hs1⟩ := ob hs1
    refine idx_of (l := p0.names) (f := encDecl) (cs := [.str ((x1).name), .int .i64 (((x1).ty).kind), .str (((x1).ty).name), .slice (List.map encTy (((x1).ty).kids)) .shared]) hx1 (rfl) rfl ?_
    conv => whnf
    refine hK8 _ _ ?_
    refine AW.condS rfl hs1 (fun hc2 hs1 => ?_) (fun hc2 hs1 => ?_)
    · refine AW.seqK fun K9 hK9 => ?_
      refine AW.region τ_ok mixedO 0 ?_
      conv => whnf
      refine hK9 _ _ ?_
      refine AW.ret ?_
      conv => whnf
      have e9 := Option.some.inj hs1
      subst e9
      dsimp only [LR.el] at h
      have e9 := Option.some.inj h
      subst e9
      refine hQ _ _ _ (retPure τ_ok (fun g => rfl) ?_)
      conv => whnf
    · refine AW.skip ?_
      conv => whnf
      refine hK7 _ _ ?_
      refine AW.know 5 0 fun hv1 => ?_
      refine AW.know 8 0 fun hv2 => ?_
      refine AW.region τ_ok mixedO 0 ?_
      conv => whnf
      refine ⟨(s1 + 1), by have := wf64 hv1; have := vfl hv2; have h8 := of_decide_eq_true hc1; exact w64_id (by omega) (by omega), ?_⟩
      conv => whnf
      exact hKL1 _ _ _ hs1 (Le.of [some 0] (Weak.mk' rfl (.cons (.unk _) (.cons (.same rfl) (.cons (.same rfl) (.u2 (.cons (.same rfl) (.u16 .nil)))))) (.old (.box' (.cons (.share (renl_Carrier _ _)) (.cons (.share (renl_Decl _ _)) .nil))) .nil)))
  · refine AW.exit ?_
    conv => whnf
    exact hR1 _ (Option.some.inj hs1).symm _ _ (Le.of [] (Weak.mk' rfl (.u16 (.u4 (.u2 .nil))) .nil))
def R2_Carrier (n : Nat) (p0 : Str) : Option Ty := some (Ty.mk 3 p0 ([]))
set_option maxRecDepth 100000 in
set_option maxHeartbeats 40000000 in
theorem R2_Carrier_ok (n : Nat) (p0 : Str) (r : Ty) (h : R2_Carrier n p0 = some r) : ACalls Tryz.prog 63 [.str p0] [] (.agg [.int .i64 r.kind, .str r.name, .slice (List.map encTy r.kids) .shared]) [] := by
  unfold R2_Carrier at h
  refine acalls_start true Tryz.func63 rfl (by rw [Tryz.ntmps63]; exact Nat.le_of_ble_eq_true rfl) fun Q hQ t ht => ?_
  conv at ht => whnf
  subst ht
  refine AW.seqK fun K1 hK1 => ?_
  refine AW.region τ_ok mixedO 1 ?_
  conv => whnf
  refine hK1 _ _ ?_
  refine AW.seqK fun K2 hK2 => ?_
  refine AW.region τ_ok mixedO 0 ?_
  conv => whnf
  refine hK2 _ _ ?_
  refine AW.ret ?_
  conv => whnf
  have e9 := Option.some.inj h
  subst e9
  refine hQ _ _ _ (retPure τ_ok (fun g => by simp only [ren, renL, renLL, renT, renL_app, renl_I, renl_S, renl_U8, renl_Ty, renl_Tm, renl_Carrier, renl_Decl]) ?_)
  conv => whnf
  try rfl
def R2_Set (n : Nat) (p0 : Ty) : Option Ty := some (Ty.mk 5 ([] : Str) ([p0]))
set_option maxRecDepth 100000 in
set_option maxHeartbeats 40000000 in
theorem R2_Set_ok (n : Nat) (p0 : Ty) (r : Ty) (h : R2_Set n p0 = some r) : ACalls Tryz.prog 48 [.agg [.int .i64 p0.kind, .str p0.name, .slice (List.map encTy p0.kids) .shared]] [] (.agg [.int .i64 r.kind, .str r.name, .slice (List.map encTy r.kids) .shared]) [] := by
  unfold R2_Set at h
  refine acalls_start true Tryz.func48 rfl (by rw [Tryz.ntmps48]; exact Nat.le_of_ble_eq_true rfl) fun Q hQ t ht => ?_
  conv at ht => whnf
  subst ht
  refine AW.seqK fun K1 hK1 => ?_
  refine AW.region τ_ok mixedO 2 ?_
  conv => whnf
  refine hK1 _ _ ?_
  refine AW.seqK fun K2 hK2 => ?_
  refine AW.region τ_ok mixedO 1 ?_
  conv => whnf
  refine ⟨List.map encTy ([p0]), by simp only [List.map_cons, List.map_nil, encTy_eq]; rfl, ?_⟩
  conv => whnf
  refine hK2 _ _ ?_
  refine AW.ret ?_
  conv => whnf
  have e9 := Option.some.inj h
  subst e9
  refine hQ _ _ _ (retPure τ_ok (fun g => by simp only [ren, renL, renLL, renT, renL_app, renl_I, renl_S, renl_U8, renl_Ty, renl_Tm, renl_Carrier, renl_Decl]) ?_)
  conv => whnf
  try rfl
end Abs
end Go.Proofs.YtiiaccpcoclklaaGreat
