/-
  Plain functions and the contracts of Go functions by them (printed by gen.py). Conditions: none. Plain functions and the contracts of Go functions by them (printed by gen.py). Conditions: none. Plain functions and the contracts of Go functions by them (printed by gen.py). Conditions: none.
-/
import Derived.Test.YtiiaccpcoclklaaGreatBTypingUnionsProof5
import Derived.Test.YtiiaccpcoclklaaGreatBTypingUnionsProof11
import Derived.Test.YtiiaccpcoclklaaGreatBTypingUnionsProof6
import Derived.Test.YtiiaccpcoclklaaGreatBTypingUnionsProof8
import Derived.Test.YtiiaccpcoclklaaGreatBTypingUnionsProof9
import Derived.Test.YtiiaccpcoclklaaGreatBTypingUnionsProof10
import Derived.KernelRfl
set_option linter.unusedSimpArgs false
set_option linter.unusedVariables false
namespace Go.Proofs.YtiiaccpcoclklaaGreat
namespace Abs
open Go Go.Proofs
def R2_SameEnv_L1 (n : Nat) (p0 : Env) (p1 : Env) : Nat → Int → Option (LR Unit Bool)
  | 0, _ => none
  | k + 1, s2 => (cond (decide (s2 < (p0.carriers.length : Int))) ((idx p0.carriers s2).bind fun (x6 : Carrier) => ((idx p1.carriers s2).bind fun (x7 : Carrier) => ((R2_SameCarrier n x6 x7).bind fun (x8 : Bool) => (cond (!x8) (some (.rt false)) (R2_SameEnv_L1 n p0 p1 k (s2 + 1)))))) (some (.nx ())))
def R2_SameEnv_L0 (n : Nat) (p0 : Env) (p1 : Env) : Nat → Int → Option (LR Unit Bool)
  | 0, _ => none
  | k + 1, s4 => (cond (decide (s4 < (p0.names.length : Int))) ((((idx p0.names s4).bind fun (x1 : Decl) => ((idx p1.names s4).bind fun (x2 : Decl) => (cond (!(x1.name == x2.name)) (some true) ((idx p0.names s4).bind fun (x3 : Decl) => ((idx p1.names s4).bind fun (x4 : Decl) => ((R1_SameType n x3.ty x4.ty).bind fun (x5 : Bool) => some (!x5))))))) : Option Bool).bind fun (s6 : Bool) => (cond s6 (some (.rt false)) (R2_SameEnv_L0 n p0 p1 k (s4 + 1)))) (some (.nx ())))
def R2_SameEnv (n : Nat) (p0 : Env) (p1 : Env) : Option Bool := (((cond ((p0.carriers.length : Int) != (p1.carriers.length : Int)) (some true) (some ((p0.names.length : Int) != (p1.names.length : Int)))) : Option Bool).bind fun (s1 : Bool) => (cond s1 (some false) ((R2_SameEnv_L1 n p0 p1 n 0).bind (LR.el (fun (s3 : Unit) => ((R2_SameEnv_L0 n p0 p1 n 0).bind (LR.el (fun (s5 : Unit) => some true) (fun r => some r)))) (fun r => some r)))))
set_option maxRecDepth 100000 in
set_option maxHeartbeats 40000000 in
theorem R2_SameEnv_ok (n : Nat) (p0 : Env) (p1 : Env) (r : Bool) (h : R2_SameEnv n p0 p1 = some r) : ACalls Tryz.prog 57 [.agg [.slice (List.map encCarrier p0.carriers) .shared, .slice (List.map encDecl p0.names) .shared], .agg [.slice (List.map encCarrier p1.carriers) .shared, .slice (List.map encDecl p1.names) .shared]] [] (.bool r) [] := by
  unfold R2_SameEnv at h
  refine acalls_start true Tryz.func57 rfl (by rw [Tryz.ntmps57]; exact Nat.le_of_ble_eq_true rfl) fun Q hQ t ht => ?_
  conv at ht => whnf
  subst ht
  refine AW.seqK fun K1 hK1 => ?_
  refine AW.region τ_ok mixedO 2 ?_
  conv => whnf
  refine hK1 _ _ ?_
  refine AW.seqK fun K2 hK2 => ?_
  refine AW.seqK fun K3 hK3 => ?_
  obtain ⟨s1, hj1, h⟩ := ob h
  have hR1 : ∀ t9 h9, Le 0 t9 h9 (u2 (.ptr 0 0 :: (.ptr 1 0 :: (u16 (u2 (.bool s1 :: (u32 (u16 (u4 (u2 (.unk :: []))))))))))) [.box [.slice (List.map encCarrier p0.carriers) .shared, .slice (List.map encDecl p0.names) .shared], .box [.slice (List.map encCarrier p1.carriers) .shared, .slice (List.map encDecl p1.names) .shared]] → K3 t9 h9 := by
    intro t9 h9 hw
    refine hK3 _ _ (AW.le hw ?_)
    clear hw
    refine AW.condS rfl h (fun hc1 h => ?_) (fun hc1 h => ?_)
    · refine AW.seqK fun K4 hK4 => ?_
      refine AW.region τ_ok mixedO 0 ?_
      conv => whnf
      refine hK4 _ _ ?_
      refine AW.ret ?_
      conv => whnf
      have e9 := Option.some.inj h
      subst e9
      refine hQ _ _ _ (retPure τ_ok (fun g => rfl) ?_)
      conv => whnf
    · refine AW.skip ?_
      conv => whnf
      refine hK2 _ _ ?_
      refine AW.seqK fun K5 hK5 => ?_
      refine AW.seqK fun K6 hK6 => ?_
      refine AW.region τ_ok mixedO 0 ?_
      conv => whnf
      refine hK6 _ _ ?_
      refine AW.block ?_
      obtain ⟨o1, ho1, h⟩ := ob h
      have hR2 : ∀ s3 : Unit, o1 = .nx s3 → ∀ t9 h9, Le 0 t9 h9 (u2 (.ptr 0 0 :: (.ptr 1 0 :: (u64 (u8 (u2 [])))))) [.box [.slice (List.map encCarrier p0.carriers) .shared, .slice (List.map encDecl p0.names) .shared], .box [.slice (List.map encCarrier p1.carriers) .shared, .slice (List.map encDecl p1.names) .shared]] → K5 t9 h9 := by
        intro s3 ho
        subst ho
        dsimp only [LR.el] at h
        intro t9 h9 hw
        refine hK5 _ _ (AW.le hw ?_)
        refine AW.seqK fun K7 hK7 => ?_
        refine AW.seqK fun K8 hK8 => ?_
        refine AW.region τ_ok mixedO 0 ?_
        conv => whnf
        refine hK8 _ _ ?_
        refine AW.block ?_
        obtain ⟨o2, ho2, h⟩ := ob h
        have hR3 : ∀ s5 : Unit, o2 = .nx s5 → ∀ t9 h9, Le 0 t9 h9 (u64 (u8 (u4 (u2 [])))) [] → K7 t9 h9 := by
          intro s5 ho
          subst ho
          dsimp only [LR.el] at h
          intro t9 h9 hw
          refine hK7 _ _ (AW.le hw ?_)
          refine AW.seqK fun K9 hK9 => ?_
          refine AW.region τ_ok mixedO 0 ?_
          conv => whnf
          refine hK9 _ _ ?_
          refine AW.ret ?_
          conv => whnf
          have e9 := Option.some.inj h
          subst e9
          refine hQ _ _ _ (retPure τ_ok (fun g => rfl) ?_)
          conv => whnf
        refine AW.loopS (R2_SameEnv_L0 n p0 p1) (fun (s4 : Int) => (u2 (.ptr 0 0 :: (.ptr 1 0 :: (u2 (.int .i64 s4 :: (u64 (u4 (u2 (.unk :: [])))))))))) (fun (s4 : Int) => [.box [.slice (List.map encCarrier p0.carriers) .shared, .slice (List.map encDecl p0.names) .shared], .box [.slice (List.map encCarrier p1.carriers) .shared, .slice (List.map encDecl p1.names) .shared]]) ho2 (fun _ => rfl) (Le.of [some 0, some 1] (Weak.mk' rfl (.u2 (.cons (.same rfl) (.cons (.same rfl) (.u2 (.cons (.same rfl) (.u64 (.u4 (.u2 (.cons (.unk _) .nil))))))))) (.old (.box' (.cons (.share (renl_Carrier _ _)) (.cons (.share (renl_Decl _ _)) .nil))) (.old (.box' (.cons (.share (renl_Carrier _ _)) (.cons (.share (renl_Decl _ _)) .nil))) .nil)))) ?_
        intro n2 s4 hs2 KL2 hKL2
        unfold R2_SameEnv_L0 at hs2
        refine AW.seqK fun K10 hK10 => ?_
        refine AW.seqK fun K11 hK11 => ?_
        refine AW.region τ_ok mixedO 0 ?_
        conv => whnf
        refine len_of (l := p0.names) (f := encDecl) ?_
        conv => whnf
        refine hK11 _ _ ?_
        refine AW.condS rfl hs2 (fun hc2 hs2 => ?_) (fun hc2 hs2 => ?_)
        · refine AW.skip ?_
          conv => whnf
          refine hK10 _ _ ?_
          refine AW.seqK fun K12 hK12 => ?_
          refine AW.block ?_
          refine AW.seqK fun K13 hK13 => ?_
          obtain ⟨s6, hj2, hs2⟩ := ob hs2
          have hR4 : ∀ t9 h9, Le 0 t9 h9 (u2 (.ptr 0 0 :: (.ptr 1 0 :: (u2 (.int .i64 s4 :: (u64 (u4 (u2 (.bool s6 :: []))))))))) [.box [.slice (List.map encCarrier p0.carriers) .shared, .slice (List.map encDecl p0.names) .shared], .box [.slice (List.map encCarrier p1.carriers) .shared, .slice (List.map encDecl p1.names) .shared]] → K13 t9 h9 := by
            intro t9 h9 hw
            refine hK13 _ _ (AW.le hw ?_)
            clear hw
            refine AW.condS rfl hs2 (fun hc3 hs2 => ?_) (fun hc3 hs2 => ?_)
            · refine AW.seqK fun K14 hK14 => ?_
              refine AW.region τ_ok mixedO 0 ?_
              conv => whnf
              refine hK14 _ _ ?_
              refine AW.ret ?_
              conv => whnf
              have e9 := Option.some.inj hs2
              subst e9
              dsimp only [LR.el] at h
              have e9 := Option.some.inj h
              subst e9
              refine hQ _ _ _ (retPure τ_ok (fun g => rfl) ?_)
              conv => whnf
            · refine AW.skip ?_
              conv => whnf
              refine hK12 _ _ ?_
              refine AW.know 6 0 fun hv1 => ?_
              refine AW.knowB 0 1 (fun hv2 => ?_) ⟨2, 0, rfl⟩
              refine AW.region τ_ok mixedO 0 ?_
              conv => whnf
              refine ⟨(s4 + 1), by have := wf64 hv1; have := vfl hv2; have h8 := of_decide_eq_true hc2; exact w64_id (by omega) (by omega), ?_⟩
              conv => whnf
              exact hKL2 _ _ _ hs2 (Le.of [some 0, some 1] (Weak.mk' rfl (.u2 (.cons (.same rfl) (.cons (.same rfl) (.u2 (.cons (.same rfl) (.u64 (.u4 (.u2 (.cons (.unk _) .nil))))))))) (.old (.box' (.cons (.share (renl_Carrier _ _)) (.cons (.share (renl_Decl _ _)) .nil))) (.old (.box' (.cons (.share (renl_Carrier _ _)) (.cons (.share (renl_Decl _ _)) .nil))) .nil))))
          refine AW.region τ_ok mixedO 0 ?_
          conv => whnf
          obtain ⟨x1, hx1, hj2⟩ := ob hj2
          refine idx_of (l := p0.names) (f := encDecl) (cs := [.str ((x1).name), .int .i64 (((x1).ty).kind), .str (((x1).ty).name), .slice (List.map encTy (((x1).ty).kids)) .shared]) hx1 (rfl) rfl ?_
          conv => whnf
          obtain ⟨x2, hx2, hj2⟩ := ob hj2
          refine idx_of (l := p1.names) (f := encDecl) (cs := [.str ((x2).name), .int .i64 (((x2).ty).kind), .str (((x2).ty).name), .slice (List.map encTy (((x2).ty).kids)) .shared]) hx2 (rfl) rfl ?_
          conv => whnf
          refine onB_cond hj2 (fun hc4 hj2 => ?_) (fun hc4 hj2 => ?_)
          · conv => whnf
            refine ⟨rfl, ?_⟩
            conv => whnf
            cases hj2
            exact hR4 _ _ (Le.of [some 0, some 1] (Weak.mk' rfl (.u2 (.cons (.same rfl) (.cons (.same rfl) (.u2 (.cons (.same rfl) (.u64 (.u4 (.u2 (.cons (.same rfl) .nil))))))))) (.old (.box' (.cons (.share (renl_Carrier _ _)) (.cons (.share (renl_Decl _ _)) .nil))) (.old (.box' (.cons (.share (renl_Carrier _ _)) (.cons (.share (renl_Decl _ _)) .nil))) .nil))))
          · conv => whnf
            obtain ⟨x3, hx3, hj2⟩ := ob hj2
            refine idx_of (l := p0.names) (f := encDecl) (cs := [.str ((x3).name), .int .i64 (((x3).ty).kind), .str (((x3).ty).name), .slice (List.map encTy (((x3).ty).kids)) .shared]) hx3 (rfl) rfl ?_
            conv => whnf
            obtain ⟨x4, hx4, hj2⟩ := ob hj2
            refine idx_of (l := p1.names) (f := encDecl) (cs := [.str ((x4).name), .int .i64 (((x4).ty).kind), .str (((x4).ty).name), .slice (List.map encTy (((x4).ty).kids)) .shared]) hx4 (rfl) rfl ?_
            conv => whnf
            obtain ⟨x5, hx5, hj2⟩ := ob hj2
            refine call_pur (R1_SameType_ok _ _ _ _ hx5) okF_20 (.cons (.same _) (.cons (.same _) .nil)) (fun g => by simp only [ren, renL, renLL, renT, renL_app, renl_I, renl_S, renl_U8, renl_Ty, renl_Tm, renl_Carrier, renl_Decl]) (fun g => rfl) ?_
            conv => whnf
            refine ⟨rfl, ?_⟩
            conv => whnf
            cases hj2
            exact hR4 _ _ (Le.of [some 0, some 1] (Weak.mk' rfl (.u2 (.cons (.same rfl) (.cons (.same rfl) (.u2 (.cons (.same rfl) (.u64 (.u4 (.u2 (.cons (.same rfl) .nil))))))))) (.old (.box' (.cons (.share (renl_Carrier _ _)) (.cons (.share (renl_Decl _ _)) .nil))) (.old (.box' (.cons (.share (renl_Carrier _ _)) (.cons (.share (renl_Decl _ _)) .nil))) .nil))))
        · refine AW.exit ?_
          conv => whnf
          exact hR3 _ (Option.some.inj hs2).symm _ _ (Le.of [] (Weak.mk' rfl (.u64 (.u8 (.u4 (.u2 .nil)))) .nil))
      refine AW.loopS (R2_SameEnv_L1 n p0 p1) (fun (s2 : Int) => (u2 (.ptr 0 0 :: (.ptr 1 0 :: (.unk :: (.int .i64 s2 :: (u64 (u8 [])))))))) (fun (s2 : Int) => [.box [.slice (List.map encCarrier p0.carriers) .shared, .slice (List.map encDecl p0.names) .shared], .box [.slice (List.map encCarrier p1.carriers) .shared, .slice (List.map encDecl p1.names) .shared]]) ho1 (fun _ => rfl) (Le.of [some 0, some 1] (Weak.mk' rfl (.u2 (.cons (.same rfl) (.cons (.same rfl) (.cons (.unk _) (.cons (.same rfl) (.u64 (.u8 .nil))))))) (.old (.box' (.cons (.share (renl_Carrier _ _)) (.cons (.share (renl_Decl _ _)) .nil))) (.old (.box' (.cons (.share (renl_Carrier _ _)) (.cons (.share (renl_Decl _ _)) .nil))) .nil)))) ?_
      intro n1 s2 hs1 KL1 hKL1
      unfold R2_SameEnv_L1 at hs1
      refine AW.seqK fun K15 hK15 => ?_
      refine AW.seqK fun K16 hK16 => ?_
      refine AW.region τ_ok mixedO 0 ?_
      conv => whnf
      refine len_of (l := p0.carriers) (f := encCarrier) ?_
      conv => whnf
      refine hK16 _ _ ?_
      refine AW.condS rfl hs1 (fun hc5 hs1 => ?_) (fun hc5 hs1 => ?_)
      · refine AW.skip ?_
        conv => whnf
        refine hK15 _ _ ?_
        refine AW.seqK fun K17 hK17 => ?_
        refine AW.block ?_
        refine AW.seqK fun K18 hK18 => ?_
        refine AW.region τ_ok mixedO 0 ?_
        conv => whnf
        obtain ⟨x6, hx6, hs1⟩ := ob hs1
        refine idx_of (l := p0.carriers) (f := encCarrier) (cs := [.str ((x6).name), .slice (List.map encS ((x6).elems)) .shared]) hx6 (rfl) rfl ?_
        conv => whnf
        obtain ⟨x7, hx7, hs1⟩ := ob hs1
        refine idx_of (l := p1.carriers) (f := encCarrier) (cs := [.str ((x7).name), .slice (List.map encS ((x7).elems)) .shared]) hx7 (rfl) rfl ?_
        conv => whnf
        obtain ⟨x8, hx8, hs1⟩ := ob hs1
        refine call_pur (R2_SameCarrier_ok _ _ _ _ hx8) okF_119 (.cons (.same _) (.cons (.same _) .nil)) (fun g => by simp only [ren, renL, renLL, renT, renL_app, renl_I, renl_S, renl_U8, renl_Ty, renl_Tm, renl_Carrier, renl_Decl]) (fun g => rfl) ?_
        conv => whnf
        refine ⟨rfl, ?_⟩
        conv => whnf
        refine hK18 _ _ ?_
        refine AW.condS rfl hs1 (fun hc6 hs1 => ?_) (fun hc6 hs1 => ?_)
        · refine AW.seqK fun K19 hK19 => ?_
          refine AW.region τ_ok mixedO 0 ?_
          conv => whnf
          refine hK19 _ _ ?_
          refine AW.ret ?_
          conv => whnf
          have e9 := Option.some.inj hs1
          subst e9
          dsimp only [LR.el] at h
          have e9 := Option.some.inj h
          subst e9
          refine hQ _ _ _ (retPure τ_ok (fun g => rfl) ?_)
          conv => whnf
        · refine AW.skip ?_
          conv => whnf
          refine hK17 _ _ ?_
          refine AW.know 5 0 fun hv3 => ?_
          refine AW.know 25 0 fun hv4 => ?_
          refine AW.region τ_ok mixedO 0 ?_
          conv => whnf
          refine ⟨(s2 + 1), by have := wf64 hv3; have := vfl hv4; have h8 := of_decide_eq_true hc5; exact w64_id (by omega) (by omega), ?_⟩
          conv => whnf
          exact hKL1 _ _ _ hs1 (Le.of [some 0, some 1] (Weak.mk' rfl (.u2 (.cons (.same rfl) (.cons (.same rfl) (.cons (.unk _) (.cons (.same rfl) (.u64 (.u8 .nil))))))) (.old (.box' (.cons (.share (renl_Carrier _ _)) (.cons (.share (renl_Decl _ _)) .nil))) (.old (.box' (.cons (.share (renl_Carrier _ _)) (.cons (.share (renl_Decl _ _)) .nil))) .nil))))
      · refine AW.exit ?_
        conv => whnf
        exact hR2 _ (Option.some.inj hs1).symm _ _ (Le.of [some 0, some 1] (Weak.mk' rfl (.u2 (.cons (.same rfl) (.cons (.same rfl) (.u64 (.u8 (.u2 .nil)))))) (.old (.box' (.cons (.share (renl_Carrier _ _)) (.cons (.share (renl_Decl _ _)) .nil))) (.old (.box' (.cons (.share (renl_Carrier _ _)) (.cons (.share (renl_Decl _ _)) .nil))) .nil))))
  refine AW.region τ_ok mixedO 0 ?_
  conv => whnf
  refine len_of (l := p0.carriers) (f := encCarrier) ?_
  conv => whnf
  refine len_of (l := p1.carriers) (f := encCarrier) ?_
  conv => whnf
  refine onB_cond hj1 (fun hc7 hj1 => ?_) (fun hc7 hj1 => ?_)
  · conv => whnf
    cases hj1
    exact hR1 _ _ (Le.of [some 0, some 1] (Weak.mk' rfl (.u2 (.cons (.same rfl) (.cons (.same rfl) (.u16 (.u2 (.cons (.same rfl) (.u32 (.u16 (.u4 (.u2 (.cons (.unk _) .nil))))))))))) (.old (.box' (.cons (.share (renl_Carrier _ _)) (.cons (.share (renl_Decl _ _)) .nil))) (.old (.box' (.cons (.share (renl_Carrier _ _)) (.cons (.share (renl_Decl _ _)) .nil))) .nil))))
  · conv => whnf
    refine len_of (l := p0.names) (f := encDecl) ?_
    conv => whnf
    refine len_of (l := p1.names) (f := encDecl) ?_
    conv => whnf
    cases hj1
    exact hR1 _ _ (Le.of [some 0, some 1] (Weak.mk' rfl (.u2 (.cons (.same rfl) (.cons (.same rfl) (.u16 (.u2 (.cons (.same rfl) (.u32 (.u16 (.u4 (.u2 (.cons (.unk _) .nil))))))))))) (.old (.box' (.cons (.share (renl_Carrier _ _)) (.cons (.share (renl_Decl _ _)) .nil))) (.old (.box' (.cons (.share (renl_Carrier _ _)) (.cons (.share (renl_Decl _ _)) .nil))) .nil))))
def L2_TypingEnvs (n : Nat) (p0 : Env) (p1 : Str) (p2 : Ty) : Option Bool := ((L2_small n p0).bind fun (x1 : Bool) => (cond (!x1) ((L2_awake n).bind fun (x2 : Bool) => some x2) ((typing_Lookup n p0 p1).bind fun (x3 : Ty × Bool) => ((R2_Lookup n p0 p1).bind fun (x4 : Ty × Bool) => ((typing_With n p0 p1 p2).bind fun (x5 : Env × Int) => ((R2_With n p0 p1 p2).bind fun (x6 : Env × Int) => ((((typing_ValidEnv n p0).bind fun (x7 : Bool) => ((R2_ValidEnv n p0).bind fun (x8 : Bool) => (cond (x7 == x8) (cond (x3.2 == x4.2) ((R1_SameType n x3.1 x4.1).bind fun (x9 : Bool) => (cond x9 (cond (x5.2 == x6.2) ((R2_SameEnv n x5.1 x6.1).bind fun (x10 : Bool) => (cond x10 ((L2_awake n).bind fun (x11 : Bool) => some x11) (some false))) (some false)) (some false))) (some false)) (some false)))) : Option Bool).bind fun (s1 : Bool) => some s1)))))))
set_option maxRecDepth 100000 in
set_option maxHeartbeats 40000000 in
theorem L2_TypingEnvs_ok (n : Nat) (p0 : Env) (p1 : Str) (p2 : Ty) (r : Bool) (h : L2_TypingEnvs n p0 p1 p2 = some r) : ACalls Tryz.prog 12 [.agg [.slice (List.map encCarrier p0.carriers) .shared, .slice (List.map encDecl p0.names) .shared], .str p1, .agg [.int .i64 p2.kind, .str p2.name, .slice (List.map encTy p2.kids) .shared]] [] (.bool r) [] := by
  unfold L2_TypingEnvs at h
  refine acalls_start true Tryz.func12 rfl (by rw [Tryz.ntmps12]; exact Nat.le_of_ble_eq_true rfl) fun Q hQ t ht => ?_
  conv at ht => whnf
  subst ht
  refine AW.seqK fun K1 hK1 => ?_
  refine AW.region τ_ok mixedO 2 ?_
  conv => whnf
  refine hK1 _ _ ?_
  refine AW.seqK fun K2 hK2 => ?_
  refine AW.seqK fun K3 hK3 => ?_
  refine AW.region τ_ok mixedO 0 ?_
  conv => whnf
  obtain ⟨x1, hx1, h⟩ := ob h
  refine call_pur (L2_small_ok _ _ _ hx1) okF_16 (.cons (.same _) .nil) (fun g => by simp only [ren, renL, renLL, renT, renL_app, renl_I, renl_S, renl_U8, renl_Ty, renl_Tm, renl_Carrier, renl_Decl]) (fun g => rfl) ?_
  conv => whnf
  refine hK3 _ _ ?_
  refine AW.condS rfl h (fun hc1 h => ?_) (fun hc1 h => ?_)
  · refine AW.seqK fun K4 hK4 => ?_
    refine AW.region τ_ok mixedO 0 ?_
    conv => whnf
    obtain ⟨x2, hx2, h⟩ := ob h
    refine call_pur (L2_awake_ok _ _ hx2) okF_17 .nil (fun g => rfl) (fun g => rfl) ?_
    conv => whnf
    refine hK4 _ _ ?_
    refine AW.ret ?_
    conv => whnf
    have e9 := Option.some.inj h
    subst e9
    refine hQ _ _ _ (retPure τ_ok (fun g => rfl) ?_)
    conv => whnf
  · refine AW.skip ?_
    conv => whnf
    refine hK2 _ _ ?_
    refine AW.seqK fun K5 hK5 => ?_
    refine AW.region τ_ok mixedO 1 ?_
    conv => whnf
    obtain ⟨x3, hx3, h⟩ := ob h
    refine call_pur (typing_Lookup_ok _ _ _ _ hx3) okF_51 (.cons (.same _) (.cons (.same _) .nil)) (fun g => by simp only [ren, renL, renLL, renT, renL_app, renl_I, renl_S, renl_U8, renl_Ty, renl_Tm, renl_Carrier, renl_Decl]) (fun g => by simp only [ren, renL, renLL, renT, renL_app, renl_I, renl_S, renl_U8, renl_Ty, renl_Tm, renl_Carrier, renl_Decl]) ?_
    conv => whnf
    refine hK5 _ _ ?_
    refine AW.seqK fun K6 hK6 => ?_
    refine AW.region τ_ok mixedO 1 ?_
    conv => whnf
    obtain ⟨x4, hx4, h⟩ := ob h
    refine call_pur (R2_Lookup_ok _ _ _ _ hx4) okF_52 (.cons (.same _) (.cons (.same _) .nil)) (fun g => by simp only [ren, renL, renLL, renT, renL_app, renl_I, renl_S, renl_U8, renl_Ty, renl_Tm, renl_Carrier, renl_Decl]) (fun g => by simp only [ren, renL, renLL, renT, renL_app, renl_I, renl_S, renl_U8, renl_Ty, renl_Tm, renl_Carrier, renl_Decl]) ?_
    conv => whnf
    refine hK6 _ _ ?_
    refine AW.seqK fun K7 hK7 => ?_
    refine AW.region τ_ok mixedO 1 ?_
    conv => whnf
    obtain ⟨x5, hx5, h⟩ := ob h
    refine call_pur (typing_With_ok _ _ _ _ _ hx5) okF_53 (.cons (.same _) (.cons (.same _) (.cons (.same _) .nil))) (fun g => by simp only [ren, renL, renLL, renT, renL_app, renl_I, renl_S, renl_U8, renl_Ty, renl_Tm, renl_Carrier, renl_Decl]) (fun g => by simp only [ren, renL, renLL, renT, renL_app, renl_I, renl_S, renl_U8, renl_Ty, renl_Tm, renl_Carrier, renl_Decl]) ?_
    conv => whnf
    refine hK7 _ _ ?_
    refine AW.seqK fun K8 hK8 => ?_
    refine AW.region τ_ok mixedO 1 ?_
    conv => whnf
    obtain ⟨x6, hx6, h⟩ := ob h
    refine call_pur (R2_With_ok _ _ _ _ _ hx6) okF_54 (.cons (.same _) (.cons (.same _) (.cons (.same _) .nil))) (fun g => by simp only [ren, renL, renLL, renT, renL_app, renl_I, renl_S, renl_U8, renl_Ty, renl_Tm, renl_Carrier, renl_Decl]) (fun g => by simp only [ren, renL, renLL, renT, renL_app, renl_I, renl_S, renl_U8, renl_Ty, renl_Tm, renl_Carrier, renl_Decl]) ?_
    conv => whnf
    refine hK8 _ _ ?_
    refine AW.seqK fun K9 hK9 => ?_
    obtain ⟨s1, hj1, h⟩ := ob h
    have hR1 : ∀ t9 h9, Le 0 t9 h9 (u4 (u2 (.bool s1 :: (u64 (u2 []))))) [] → K9 t9 h9 := by
      intro t9 h9 hw
      refine hK9 _ _ (AW.le hw ?_)
      clear hw
      refine AW.ret ?_
      conv => whnf
      have e9 := Option.some.inj h
      subst e9
      refine hQ _ _ _ (retPure τ_ok (fun g => rfl) ?_)
      conv => whnf
    refine AW.region τ_ok mixedO 0 ?_
    conv => whnf
    obtain ⟨x7, hx7, hj1⟩ := ob hj1
    refine call_pur (typing_ValidEnv_ok _ _ _ hx7) okF_55 (.cons (.same _) .nil) (fun g => by simp only [ren, renL, renLL, renT, renL_app, renl_I, renl_S, renl_U8, renl_Ty, renl_Tm, renl_Carrier, renl_Decl]) (fun g => rfl) ?_
    conv => whnf
    obtain ⟨x8, hx8, hj1⟩ := ob hj1
    refine call_pur (R2_ValidEnv_ok _ _ _ hx8) okF_56 (.cons (.same _) .nil) (fun g => by simp only [ren, renL, renLL, renT, renL_app, renl_I, renl_S, renl_U8, renl_Ty, renl_Tm, renl_Carrier, renl_Decl]) (fun g => rfl) ?_
    conv => whnf
    refine onB_cond hj1 (fun hc2 hj1 => ?_) (fun hc2 hj1 => ?_)
    · conv => whnf
      refine onB_cond hj1 (fun hc3 hj1 => ?_) (fun hc3 hj1 => ?_)
      · conv => whnf
        obtain ⟨x9, hx9, hj1⟩ := ob hj1
        refine call_pur (R1_SameType_ok _ _ _ _ hx9) okF_20 (.cons (.same _) (.cons (.same _) .nil)) (fun g => by simp only [ren, renL, renLL, renT, renL_app, renl_I, renl_S, renl_U8, renl_Ty, renl_Tm, renl_Carrier, renl_Decl]) (fun g => rfl) ?_
        conv => whnf
        refine onB_cond hj1 (fun hc4 hj1 => ?_) (fun hc4 hj1 => ?_)
        · conv => whnf
          refine onB_cond hj1 (fun hc5 hj1 => ?_) (fun hc5 hj1 => ?_)
          · conv => whnf
            obtain ⟨x10, hx10, hj1⟩ := ob hj1
            refine call_pur (R2_SameEnv_ok _ _ _ _ hx10) okF_57 (.cons (.same _) (.cons (.same _) .nil)) (fun g => by simp only [ren, renL, renLL, renT, renL_app, renl_I, renl_S, renl_U8, renl_Ty, renl_Tm, renl_Carrier, renl_Decl]) (fun g => rfl) ?_
            conv => whnf
            refine onB_cond hj1 (fun hc6 hj1 => ?_) (fun hc6 hj1 => ?_)
            · conv => whnf
              obtain ⟨x11, hx11, hj1⟩ := ob hj1
              refine call_pur (L2_awake_ok _ _ hx11) okF_17 .nil (fun g => rfl) (fun g => rfl) ?_
              conv => whnf
              refine ⟨rfl, ?_⟩
              conv => whnf
              cases hj1
              exact hR1 _ _ (Le.of [] (Weak.mk' rfl (.u4 (.u2 (.cons (.same rfl) (.u64 (.u2 .nil))))) .nil))
            · conv => whnf
              refine ⟨rfl, ?_⟩
              conv => whnf
              cases hj1
              exact hR1 _ _ (Le.of [] (Weak.mk' rfl (.u4 (.u2 (.cons (.same rfl) (.u64 (.u2 .nil))))) .nil))
          · conv => whnf
            refine ⟨rfl, ?_⟩
            conv => whnf
            cases hj1
            exact hR1 _ _ (Le.of [] (Weak.mk' rfl (.u4 (.u2 (.cons (.same rfl) (.u64 (.u2 .nil))))) .nil))
        · conv => whnf
          refine ⟨rfl, ?_⟩
          conv => whnf
          cases hj1
          exact hR1 _ _ (Le.of [] (Weak.mk' rfl (.u4 (.u2 (.cons (.same rfl) (.u64 (.u2 .nil))))) .nil))
      · conv => whnf
        refine ⟨rfl, ?_⟩
        conv => whnf
        cases hj1
        exact hR1 _ _ (Le.of [] (Weak.mk' rfl (.u4 (.u2 (.cons (.same rfl) (.u64 (.u2 .nil))))) .nil))
    · conv => whnf
      refine ⟨rfl, ?_⟩
      conv => whnf
      cases hj1
      exact hR1 _ _ (Le.of [] (Weak.mk' rfl (.u4 (.u2 (.cons (.same rfl) (.u64 (.u2 .nil))))) .nil))
def typing_Union_1 (n : Nat) (p0 : Carrier) (p1 : Str) (p2 : List Str) : Option Bool := some (p0.name == p1)
set_option maxRecDepth 100000 in
set_option maxHeartbeats 40000000 in
theorem typing_Union_1_ok (n : Nat) (p0 : Carrier) (p1 : Str) (p2 : List Str) (r : Bool) (h : typing_Union_1 n p0 p1 p2 = some r) : ACalls Tryz.prog 124 [.agg [.str p0.name, .slice (List.map encS p0.elems) .shared], .ptr 0 0] [.box [.str p1, .slice (List.map encS p2) .shared]] (.bool r) [.box [.str p1, .slice (List.map encS p2) .shared]] := by
  unfold typing_Union_1 at h
  refine acalls_start true Tryz.func124 rfl (by rw [Tryz.ntmps124]; exact Nat.le_of_ble_eq_true rfl) fun Q hQ t ht => ?_
  conv at ht => whnf
  subst ht
  refine AW.seqK fun K1 hK1 => ?_
  refine AW.region τ_ok mixedO 1 ?_
  conv => whnf
  refine hK1 _ _ ?_
  refine AW.seqK fun K2 hK2 => ?_
  refine AW.region τ_ok mixedO 0 ?_
  conv => whnf
  refine hK2 _ _ ?_
  refine AW.ret ?_
  conv => whnf
  have e9 := Option.some.inj h
  subst e9
  refine hQ _ _ _ (retW (u2 (.unk :: (.bool (p0.name == p1) :: (u4 (.unk :: []))))) [.box [.str p1, .slice (List.map encS p2) .shared]] (Le.of [some 0] (Weak.mk' rfl (.u2 (.cons (.unk _) (.cons (.same rfl) (.u4 (.cons (.unk _) .nil))))) (.old (.box' (.cons (.same rfl) (.cons (.share (renl_S _ _)) .nil))) .nil))) (retObj τ_ok [0] rfl (.cons (by simp only [renO, ren, renL, renLL, renT, renL_app, renl_I, renl_S, renl_U8, renl_Ty, renl_Tm, renl_Carrier, renl_Decl]; try rfl) .nil) ?_))
  conv => whnf
  first | rfl | (simp only [ren, renL, renLL, renT, renL_app, renl_I, renl_S, renl_U8, renl_Ty, renl_Tm, renl_Carrier, renl_Decl]; done) | (simp only [ren, renL, renLL, renT, renL_app, renl_I, renl_S, renl_U8, renl_Ty, renl_Tm, renl_Carrier, renl_Decl]; rfl)
def slices_IndexFunc_Carrier_1_L0 (n : Nat) (p0 : List Carrier) (p1 : Str) : Nat → Int → Option (LR Unit Int)
  | 0, _ => none
  | k + 1, s1 => (cond (decide (s1 < (p0.length : Int))) ((idx p0 s1).bind fun (x1 : Carrier) => (cond (x1.name == p1) (some (.rt s1)) (slices_IndexFunc_Carrier_1_L0 n p0 p1 k (s1 + 1)))) (some (.nx ())))
def slices_IndexFunc_Carrier_1 (n : Nat) (p0 : List Carrier) (p1 : Str) (p2 : List Str) : Option Int := ((slices_IndexFunc_Carrier_1_L0 n p0 p1 n 0).bind (LR.el (fun (s2 : Unit) => some (-1)) (fun r => some r)))
set_option maxRecDepth 100000 in
set_option maxHeartbeats 40000000 in
theorem slices_IndexFunc_Carrier_1_ok (n : Nat) (p0 : List Carrier) (p1 : Str) (p2 : List Str) (r : Int) (h : slices_IndexFunc_Carrier_1 n p0 p1 p2 = some r) : ACalls Tryz.prog 123 [.slice (List.map encCarrier p0) .shared, .func 124 [.ptr 0 0]] [.box [.str p1, .slice (List.map encS p2) .shared]] (.int .i64 r) [.box [.str p1, .slice (List.map encS p2) .shared]] := by
  unfold slices_IndexFunc_Carrier_1 at h
  refine acalls_start true Tryz.func123 rfl (by rw [Tryz.ntmps123]; exact Nat.le_of_ble_eq_true rfl) fun Q hQ t ht => ?_
  conv at ht => whnf
  subst ht
  refine AW.seqK fun K1 hK1 => ?_
  refine AW.region τ_ok mixedO 0 ?_
  conv => whnf
  refine hK1 _ _ ?_
  refine AW.seqK fun K2 hK2 => ?_
  refine AW.seqK fun K3 hK3 => ?_
  refine AW.region τ_ok mixedO 0 ?_
  conv => whnf
  refine len_of (l := p0) (f := encCarrier) ?_
  conv => whnf
  refine hK3 _ _ ?_
  refine AW.block ?_
  obtain ⟨o1, ho1, h⟩ := ob h
  have hR1 : ∀ s2 : Unit, o1 = .nx s2 → ∀ t9 h9, Le 1 t9 h9 (u16 (u2 (.unk :: []))) [.box [.str p1, .slice (List.map encS p2) .shared]] → K2 t9 h9 := by
    intro s2 ho
    subst ho
    dsimp only [LR.el] at h
    intro t9 h9 hw
    refine hK2 _ _ (AW.le hw ?_)
    refine AW.seqK fun K4 hK4 => ?_
    refine AW.region τ_ok mixedO 0 ?_
    conv => whnf
    refine hK4 _ _ ?_
    refine AW.ret ?_
    conv => whnf
    have e9 := Option.some.inj h
    subst e9
    refine hQ _ _ _ (retW (u4 (.int .i64 (-1) :: (u8 (u4 (u2 []))))) [.box [.str p1, .slice (List.map encS p2) .shared]] (Le.of [some 0] (Weak.mk' rfl (.u4 (.cons (.same rfl) (.u8 (.u4 (.u2 .nil))))) (.old (.box' (.cons (.same rfl) (.cons (.share (renl_S _ _)) .nil))) .nil))) (retObj τ_ok [0] rfl (.cons (by simp only [renO, ren, renL, renLL, renT, renL_app, renl_I, renl_S, renl_U8, renl_Ty, renl_Tm, renl_Carrier, renl_Decl]; try rfl) .nil) ?_))
    conv => whnf
    first | rfl | (simp only [ren, renL, renLL, renT, renL_app, renl_I, renl_S, renl_U8, renl_Ty, renl_Tm, renl_Carrier, renl_Decl]; done) | (simp only [ren, renL, renLL, renT, renL_app, renl_I, renl_S, renl_U8, renl_Ty, renl_Tm, renl_Carrier, renl_Decl]; rfl)
  refine AW.loopS (slices_IndexFunc_Carrier_1_L0 n p0 p1) (fun (s1 : Int) => (.slice (List.map encCarrier p0) .shared :: (.func 124 [.ptr 0 0] :: (u4 (.unk :: (.int .i64 (p0.length : Int) :: (.int .i64 s1 :: (u8 (u2 []))))))))) (fun (s1 : Int) => [.box [.str p1, .slice (List.map encS p2) .shared]]) ho1 (fun _ => rfl) (Le.of [some 0] (Weak.mk' rfl (.cons (.share (renl_Carrier _ _)) (.cons (.func' (.cons (.same rfl) .nil)) (.u4 (.cons (.unk _) (.cons (.same rfl) (.cons (.same rfl) (.u8 (.u2 .nil)))))))) (.old (.box' (.cons (.same rfl) (.cons (.share (renl_S _ _)) .nil))) .nil))) ?_
  intro n1 s1 hs1 KL1 hKL1
  unfold slices_IndexFunc_Carrier_1_L0 at hs1
  refine AW.seqK fun K5 hK5 => ?_
  refine AW.region τ_ok mixedO 0 ?_
  conv => whnf
  refine hK5 _ _ ?_
  refine AW.seqK fun K6 hK6 => ?_
  refine AW.condS rfl hs1 (fun hc1 hs1 => ?_) (fun hc1 hs1 => ?_)
  · refine AW.skip ?_
    conv => whnf
    refine hK6 _ _ ?_
    refine AW.seqK fun K7 hK7 => ?_
    refine AW.block ?_
    refine AW.seqK fun K8 hK8 => ?_
    refine AW.region τ_ok mixedO 0 ?_
    conv => whnf
    refine hK8 _ _ ?_
    refine AW.seqK fun K9 hK9 => ?_
    refine AW.region τ_ok mixedO 0 ?_
    conv => whnf
    obtain ⟨x1, hx1, hs1⟩ := ob hs1
    refine idx_of (l := p0) (f := encCarrier) (cs := [.str ((x1).name), .slice (List.map encS ((x1).elems)) .shared]) hx1 (rfl) rfl ?_
    conv => whnf
    refine call_gen [0] [] [.agg [.str x1.name, .slice (List.map encS x1.elems) .shared], .ptr 0 0] [.agg [.str x1.name, .slice (List.map encS x1.elems) .shared], .ptr 0 0] (typing_Union_1_ok 0 x1 p1 p2 _ rfl) okF_124 rfl (.cons (by simp only [renO, ren, renL, renLL, renT, renL_app, renl_I, renl_S, renl_U8, renl_Ty, renl_Tm, renl_Carrier, renl_Decl]; try rfl) .nil) (by simp only [ren, renL, renLL, renT, renL_app, renl_I, renl_S, renl_U8, renl_Ty, renl_Tm, renl_Carrier, renl_Decl]; try rfl) (.cons (.same _) (.cons (.same _) .nil)) (rn := .bool (x1.name == p1)) (rfl) (Hn := [.box [.str p1, .slice (List.map encS p2) .shared]]) ((rcons (by simp only [renO, ren, renL, renLL, renT, renL_app, renl_I, renl_S, renl_U8, renl_Ty, renl_Tm, renl_Carrier, renl_Decl]; try rfl) rfl)) ?_
    conv => whnf
    refine hK9 _ _ ?_
    refine AW.condS rfl hs1 (fun hc2 hs1 => ?_) (fun hc2 hs1 => ?_)
    · refine AW.seqK fun K10 hK10 => ?_
      refine AW.region τ_ok mixedO 0 ?_
      conv => whnf
      refine hK10 _ _ ?_
      refine AW.ret ?_
      conv => whnf
      have e9 := Option.some.inj hs1
      subst e9
      dsimp only [LR.el] at h
      have e9 := Option.some.inj h
      subst e9
      refine hQ _ _ _ (retW (u4 (.int .i64 s1 :: (u8 (u4 (u2 []))))) [.box [.str p1, .slice (List.map encS p2) .shared]] (Le.of [some 0] (Weak.mk' rfl (.u4 (.cons (.same rfl) (.u8 (.u4 (.u2 .nil))))) (.old (.box' (.cons (.same rfl) (.cons (.share (renl_S _ _)) .nil))) .nil))) (retObj τ_ok [0] rfl (.cons (by simp only [renO, ren, renL, renLL, renT, renL_app, renl_I, renl_S, renl_U8, renl_Ty, renl_Tm, renl_Carrier, renl_Decl]; try rfl) .nil) ?_))
      conv => whnf
      first | rfl | (simp only [ren, renL, renLL, renT, renL_app, renl_I, renl_S, renl_U8, renl_Ty, renl_Tm, renl_Carrier, renl_Decl]; done) | (simp only [ren, renL, renLL, renT, renL_app, renl_I, renl_S, renl_U8, renl_Ty, renl_Tm, renl_Carrier, renl_Decl]; rfl)
    · refine AW.skip ?_
      conv => whnf
      refine hK7 _ _ ?_
      refine AW.know 5 0 fun hv1 => ?_
      refine AW.know 0 0 fun hv2 => ?_
      refine AW.region τ_ok mixedO 0 ?_
      conv => whnf
      refine ⟨(s1 + 1), by have := wf64 hv1; have := vfl hv2; have h8 := of_decide_eq_true hc1; exact w64_id (by omega) (by omega), ?_⟩
      conv => whnf
      exact hKL1 _ _ _ hs1 (Le.of [some 0] (Weak.mk' rfl (.cons (.share (renl_Carrier _ _)) (.cons (.func' (.cons (.same rfl) .nil)) (.u4 (.cons (.unk _) (.cons (.same rfl) (.cons (.same rfl) (.u8 (.u2 .nil)))))))) (.old (.box' (.cons (.same rfl) (.cons (.share (renl_S _ _)) .nil))) .nil)))
  · refine AW.exit ?_
    conv => whnf
    exact hR1 _ (Option.some.inj hs1).symm _ _ (Le.of [some 0] (Weak.mk' rfl (.u16 (.u2 (.cons (.unk _) .nil))) (.old (.box' (.cons (.same rfl) (.cons (.share (renl_S _ _)) .nil))) .nil)))
def slices_Equal_string_L0 (n : Nat) (p0 : List Str) (p1 : List Str) : Nat → Int → Option (LR Unit Bool)
  | 0, _ => none
  | k + 1, s1 => (cond (decide (s1 < (p0.length : Int))) ((idx p0 s1).bind fun (x1 : Str) => ((idx p1 s1).bind fun (x2 : Str) => (cond (!(x1 == x2)) (some (.rt false)) (slices_Equal_string_L0 n p0 p1 k (s1 + 1))))) (some (.nx ())))
def slices_Equal_string (n : Nat) (p0 : List Str) (p1 : List Str) : Option Bool := (cond ((p0.length : Int) != (p1.length : Int)) (some false) ((slices_Equal_string_L0 n p0 p1 n 0).bind (LR.el (fun (s2 : Unit) => some true) (fun r => some r))))
set_option maxRecDepth 100000 in
set_option maxHeartbeats 40000000 in
theorem slices_Equal_string_ok (n : Nat) (p0 : List Str) (p1 : List Str) (r : Bool) (h : slices_Equal_string n p0 p1 = some r) : ACalls Tryz.prog 125 [.slice (List.map encS p0) .shared, .slice (List.map encS p1) .shared] [] (.bool r) [] := by
  unfold slices_Equal_string at h
  refine acalls_start true Tryz.func125 rfl (by rw [Tryz.ntmps125]; exact Nat.le_of_ble_eq_true rfl) fun Q hQ t ht => ?_
  conv at ht => whnf
  subst ht
  refine AW.seqK fun K1 hK1 => ?_
  refine AW.region τ_ok mixedO 0 ?_
  conv => whnf
  refine hK1 _ _ ?_
  refine AW.seqK fun K2 hK2 => ?_
  refine AW.seqK fun K3 hK3 => ?_
  refine AW.region τ_ok mixedO 0 ?_
  conv => whnf
  refine len_of (l := p0) (f := encS) ?_
  conv => whnf
  refine len_of (l := p1) (f := encS) ?_
  conv => whnf
  refine hK3 _ _ ?_
  refine AW.condS rfl h (fun hc1 h => ?_) (fun hc1 h => ?_)
  · refine AW.seqK fun K4 hK4 => ?_
    refine AW.region τ_ok mixedO 0 ?_
    conv => whnf
    refine hK4 _ _ ?_
    refine AW.ret ?_
    conv => whnf
    have e9 := Option.some.inj h
    subst e9
    refine hQ _ _ _ (retPure τ_ok (fun g => rfl) ?_)
    conv => whnf
  · refine AW.skip ?_
    conv => whnf
    refine hK2 _ _ ?_
    refine AW.seqK fun K5 hK5 => ?_
    refine AW.seqK fun K6 hK6 => ?_
    refine AW.region τ_ok mixedO 0 ?_
    conv => whnf
    refine len_of (l := p0) (f := encS) ?_
    conv => whnf
    refine hK6 _ _ ?_
    refine AW.block ?_
    obtain ⟨o1, ho1, h⟩ := ob h
    have hR1 : ∀ s2 : Unit, o1 = .nx s2 → ∀ t9 h9, Le 0 t9 h9 (u16 (u8 (u2 []))) [] → K5 t9 h9 := by
      intro s2 ho
      subst ho
      dsimp only [LR.el] at h
      intro t9 h9 hw
      refine hK5 _ _ (AW.le hw ?_)
      refine AW.seqK fun K7 hK7 => ?_
      refine AW.region τ_ok mixedO 0 ?_
      conv => whnf
      refine hK7 _ _ ?_
      refine AW.ret ?_
      conv => whnf
      have e9 := Option.some.inj h
      subst e9
      refine hQ _ _ _ (retPure τ_ok (fun g => rfl) ?_)
      conv => whnf
    refine AW.loopS (slices_Equal_string_L0 n p0 p1) (fun (s1 : Int) => (.slice (List.map encS p0) .shared :: (.slice (List.map encS p1) .shared :: (u8 (u2 (.int .i64 (p0.length : Int) :: (.int .i64 s1 :: (u8 (u4 []))))))))) (fun (s1 : Int) => []) ho1 (fun _ => rfl) (Le.of [] (Weak.mk' rfl (.cons (.share (renl_S _ _)) (.cons (.share (renl_S _ _)) (.u8 (.u2 (.cons (.same rfl) (.cons (.same rfl) (.u8 (.u4 .nil)))))))) .nil)) ?_
    intro n1 s1 hs1 KL1 hKL1
    unfold slices_Equal_string_L0 at hs1
    refine AW.seqK fun K8 hK8 => ?_
    refine AW.region τ_ok mixedO 0 ?_
    conv => whnf
    refine hK8 _ _ ?_
    refine AW.seqK fun K9 hK9 => ?_
    refine AW.condS rfl hs1 (fun hc2 hs1 => ?_) (fun hc2 hs1 => ?_)
    · refine AW.skip ?_
      conv => whnf
      refine hK9 _ _ ?_
      refine AW.seqK fun K10 hK10 => ?_
      refine AW.block ?_
      refine AW.seqK fun K11 hK11 => ?_
      refine AW.region τ_ok mixedO 0 ?_
      conv => whnf
      refine hK11 _ _ ?_
      refine AW.seqK fun K12 hK12 => ?_
      refine AW.region τ_ok mixedO 0 ?_
      conv => whnf
      obtain ⟨x1, hx1, hs1⟩ := ob hs1
      refine idx_of (l := p0) (f := encS) (cs := [.str (x1)]) hx1 (rfl) rfl ?_
      conv => whnf
      obtain ⟨x2, hx2, hs1⟩ := ob hs1
      refine idx_of (l := p1) (f := encS) (cs := [.str (x2)]) hx2 (rfl) rfl ?_
      conv => whnf
      refine ⟨rfl, ?_⟩
      conv => whnf
      refine hK12 _ _ ?_
      refine AW.condS rfl hs1 (fun hc3 hs1 => ?_) (fun hc3 hs1 => ?_)
      · refine AW.seqK fun K13 hK13 => ?_
        refine AW.region τ_ok mixedO 0 ?_
        conv => whnf
        refine hK13 _ _ ?_
        refine AW.ret ?_
        conv => whnf
        have e9 := Option.some.inj hs1
        subst e9
        dsimp only [LR.el] at h
        have e9 := Option.some.inj h
        subst e9
        refine hQ _ _ _ (retPure τ_ok (fun g => rfl) ?_)
        conv => whnf
      · refine AW.skip ?_
        conv => whnf
        refine hK10 _ _ ?_
        refine AW.know 5 0 fun hv1 => ?_
        refine AW.know 0 0 fun hv2 => ?_
        refine AW.region τ_ok mixedO 0 ?_
        conv => whnf
        refine ⟨(s1 + 1), by have := wf64 hv1; have := vfl hv2; have h8 := of_decide_eq_true hc2; exact w64_id (by omega) (by omega), ?_⟩
        conv => whnf
        exact hKL1 _ _ _ hs1 (Le.of [] (Weak.mk' rfl (.cons (.share (renl_S _ _)) (.cons (.share (renl_S _ _)) (.u8 (.u2 (.cons (.same rfl) (.cons (.same rfl) (.u8 (.u4 .nil)))))))) .nil))
    · refine AW.exit ?_
      conv => whnf
      exact hR1 _ (Option.some.inj hs1).symm _ _ (Le.of [] (Weak.mk' rfl (.u16 (.u8 (.u2 .nil))) .nil))
def typing_Union_2 (n : Nat) (p0 : Decl) (p1 : Str) (p2 : Int) (p3 : Str) (p4 : List Ty) : Option Bool := some (p0.name == p1)
set_option maxRecDepth 100000 in
set_option maxHeartbeats 40000000 in
theorem typing_Union_2_ok (n : Nat) (p0 : Decl) (p1 : Str) (p2 : Int) (p3 : Str) (p4 : List Ty) (r : Bool) (h : typing_Union_2 n p0 p1 p2 p3 p4 = some r) : ACalls Tryz.prog 127 [.agg [.str p0.name, .int .i64 p0.ty.kind, .str p0.ty.name, .slice (List.map encTy p0.ty.kids) .shared], .ptr 0 0] [.box [.str p1, .int .i64 p2, .str p3, .slice (List.map encTy p4) .shared]] (.bool r) [.box [.str p1, .int .i64 p2, .str p3, .slice (List.map encTy p4) .shared]] := by
  unfold typing_Union_2 at h
  refine acalls_start true Tryz.func127 rfl (by rw [Tryz.ntmps127]; exact Nat.le_of_ble_eq_true rfl) fun Q hQ t ht => ?_
  conv at ht => whnf
  subst ht
  refine AW.seqK fun K1 hK1 => ?_
  refine AW.region τ_ok mixedO 1 ?_
  conv => whnf
  refine hK1 _ _ ?_
  refine AW.seqK fun K2 hK2 => ?_
  refine AW.region τ_ok mixedO 0 ?_
  conv => whnf
  refine hK2 _ _ ?_
  refine AW.ret ?_
  conv => whnf
  have e9 := Option.some.inj h
  subst e9
  refine hQ _ _ _ (retW (u2 (.unk :: (.bool (p0.name == p1) :: (u4 (.unk :: []))))) [.box [.str p1, .int .i64 p2, .str p3, .slice (List.map encTy p4) .shared]] (Le.of [some 0] (Weak.mk' rfl (.u2 (.cons (.unk _) (.cons (.same rfl) (.u4 (.cons (.unk _) .nil))))) (.old (.box' (.cons (.same rfl) (.cons (.same rfl) (.cons (.same rfl) (.cons (.share (renl_Ty _ _)) .nil))))) .nil))) (retObj τ_ok [0] rfl (.cons (by simp only [renO, ren, renL, renLL, renT, renL_app, renl_I, renl_S, renl_U8, renl_Ty, renl_Tm, renl_Carrier, renl_Decl]; try rfl) .nil) ?_))
  conv => whnf
  first | rfl | (simp only [ren, renL, renLL, renT, renL_app, renl_I, renl_S, renl_U8, renl_Ty, renl_Tm, renl_Carrier, renl_Decl]; done) | (simp only [ren, renL, renLL, renT, renL_app, renl_I, renl_S, renl_U8, renl_Ty, renl_Tm, renl_Carrier, renl_Decl]; rfl)
end Abs
end Go.Proofs.YtiiaccpcoclklaaGreat
namespace Go.Proofs.YtiiaccpcoclklaaGreat
namespace Abs
open Go Go.Proofs
def slices_IndexFunc_Decl_L0 (n : Nat) (p0 : List Decl) (p1 : Str) : Nat → Int → Option (LR Unit Int)
  | 0, _ => none
  | k + 1, s1 => (cond (decide (s1 < (p0.length : Int))) ((idx p0 s1).bind fun (x1 : Decl) => (cond (x1.name == p1) (some (.rt s1)) (slices_IndexFunc_Decl_L0 n p0 p1 k (s1 + 1)))) (some (.nx ())))
def slices_IndexFunc_Decl (n : Nat) (p0 : List Decl) (p1 : Str) (p2 : Int) (p3 : Str) (p4 : List Ty) : Option Int := ((slices_IndexFunc_Decl_L0 n p0 p1 n 0).bind (LR.el (fun (s2 : Unit) => some (-1)) (fun r => some r)))
set_option maxRecDepth 100000 in
set_option maxHeartbeats 40000000 in
theorem slices_IndexFunc_Decl_ok (n : Nat) (p0 : List Decl) (p1 : Str) (p2 : Int) (p3 : Str) (p4 : List Ty) (r : Int) (h : slices_IndexFunc_Decl n p0 p1 p2 p3 p4 = some r) : ACalls Tryz.prog 126 [.slice (List.map encDecl p0) .shared, .func 127 [.ptr 0 0]] [.box [.str p1, .int .i64 p2, .str p3, .slice (List.map encTy p4) .shared]] (.int .i64 r) [.box [.str p1, .int .i64 p2, .str p3, .slice (List.map encTy p4) .shared]] := by
  unfold slices_IndexFunc_Decl at h
  refine acalls_start true Tryz.func126 rfl (by rw [Tryz.ntmps126]; exact Nat.le_of_ble_eq_true rfl) fun Q hQ t ht => ?_
  conv at ht => whnf
  subst ht
  refine AW.seqK fun K1 hK1 => ?_
  refine AW.region τ_ok mixedO 0 ?_
  conv => whnf
  refine hK1 _ _ ?_
  refine AW.seqK fun K2 hK2 => ?_
  refine AW.seqK fun K3 hK3 => ?_
  refine AW.region τ_ok mixedO 0 ?_
  conv => whnf
  refine len_of (l := p0) (f := encDecl) ?_
  conv => whnf
  refine hK3 _ _ ?_
  refine AW.block ?_
  obtain ⟨o1, ho1, h⟩ := ob h
  have hR1 : ∀ s2 : Unit, o1 = .nx s2 → ∀ t9 h9, Le 1 t9 h9 (u16 (u2 (.unk :: []))) [.box [.str p1, .int .i64 p2, .str p3, .slice (List.map encTy p4) .shared]] → K2 t9 h9 := by
    intro s2 ho
    subst ho
    dsimp only [LR.el] at h
    intro t9 h9 hw
    refine hK2 _ _ (AW.le hw ?_)
    refine AW.seqK fun K4 hK4 => ?_
    refine AW.region τ_ok mixedO 0 ?_
    conv => whnf
    refine hK4 _ _ ?_
    refine AW.ret ?_
    conv => whnf
    have e9 := Option.some.inj h
    subst e9
    refine hQ _ _ _ (retW (u4 (.int .i64 (-1) :: (u8 (u4 (u2 []))))) [.box [.str p1, .int .i64 p2, .str p3, .slice (List.map encTy p4) .shared]] (Le.of [some 0] (Weak.mk' rfl (.u4 (.cons (.same rfl) (.u8 (.u4 (.u2 .nil))))) (.old (.box' (.cons (.same rfl) (.cons (.same rfl) (.cons (.same rfl) (.cons (.share (renl_Ty _ _)) .nil))))) .nil))) (retObj τ_ok [0] rfl (.cons (by simp only [renO, ren, renL, renLL, renT, renL_app, renl_I, renl_S, renl_U8, renl_Ty, renl_Tm, renl_Carrier, renl_Decl]; try rfl) .nil) ?_))
    conv => whnf
    first | rfl | (simp only [ren, renL, renLL, renT, renL_app, renl_I, renl_S, renl_U8, renl_Ty, renl_Tm, renl_Carrier, renl_Decl]; done) | (simp only [ren, renL, renLL, renT, renL_app, renl_I, renl_S, renl_U8, renl_Ty, renl_Tm, renl_Carrier, renl_Decl]; rfl)
  refine AW.loopS (slices_IndexFunc_Decl_L0 n p0 p1) (fun (s1 : Int) => (.slice (List.map encDecl p0) .shared :: (.func 127 [.ptr 0 0] :: (u4 (.unk :: (.int .i64 (p0.length : Int) :: (.int .i64 s1 :: (u8 (u2 []))))))))) (fun (s1 : Int) => [.box [.str p1, .int .i64 p2, .str p3, .slice (List.map encTy p4) .shared]]) ho1 (fun _ => rfl) (Le.of [some 0] (Weak.mk' rfl (.cons (.share (renl_Decl _ _)) (.cons (.func' (.cons (.same rfl) .nil)) (.u4 (.cons (.unk _) (.cons (.same rfl) (.cons (.same rfl) (.u8 (.u2 .nil)))))))) (.old (.box' (.cons (.same rfl) (.cons (.same rfl) (.cons (.same rfl) (.cons (.share (renl_Ty _ _)) .nil))))) .nil))) ?_
  intro n1 s1 hs1 KL1 hKL1
  unfold slices_IndexFunc_Decl_L0 at hs1
  refine AW.seqK fun K5 hK5 => ?_
  refine AW.region τ_ok mixedO 0 ?_
  conv => whnf
  refine hK5 _ _ ?_
  refine AW.seqK fun K6 hK6 => ?_
  refine AW.condS rfl hs1 (fun hc1 hs1 => ?_) (fun hc1 hs1 => ?_)
  · refine AW.skip ?_
    conv => whnf
    refine hK6 _ _ ?_
    refine AW.seqK fun K7 hK7 => ?_
    refine AW.block ?_
    refine AW.seqK fun K8 hK8 => ?_
    refine AW.region τ_ok mixedO 0 ?_
    conv => whnf
    refine hK8 _ _ ?_
    refine AW.seqK fun K9 hK9 => ?_
    refine AW.region τ_ok mixedO 0 ?_
    conv => whnf
    obtain ⟨x1, hx1, hs1⟩ := ob hs1
    refine idx_of (l := p0) (f := encDecl) (cs := [.str ((x1).name), .int .i64 (((x1).ty).kind), .str (((x1).ty).name), .slice (List.map encTy (((x1).ty).kids)) .shared]) hx1 (rfl) rfl ?_
    conv => whnf
    refine call_gen [0] [] [.agg [.str x1.name, .int .i64 x1.ty.kind, .str x1.ty.name, .slice (List.map encTy x1.ty.kids) .shared], .ptr 0 0] [.agg [.str x1.name, .int .i64 x1.ty.kind, .str x1.ty.name, .slice (List.map encTy x1.ty.kids) .shared], .ptr 0 0] (typing_Union_2_ok 0 x1 p1 p2 p3 p4 _ rfl) okF_127 rfl (.cons (by simp only [renO, ren, renL, renLL, renT, renL_app, renl_I, renl_S, renl_U8, renl_Ty, renl_Tm, renl_Carrier, renl_Decl]; try rfl) .nil) (by simp only [ren, renL, renLL, renT, renL_app, renl_I, renl_S, renl_U8, renl_Ty, renl_Tm, renl_Carrier, renl_Decl]; try rfl) (.cons (.same _) (.cons (.same _) .nil)) (rn := .bool (x1.name == p1)) (rfl) (Hn := [.box [.str p1, .int .i64 p2, .str p3, .slice (List.map encTy p4) .shared]]) ((rcons (by simp only [renO, ren, renL, renLL, renT, renL_app, renl_I, renl_S, renl_U8, renl_Ty, renl_Tm, renl_Carrier, renl_Decl]; try rfl) rfl)) ?_
    conv => whnf
    refine hK9 _ _ ?_
    refine AW.condS rfl hs1 (fun hc2 hs1 => ?_) (fun hc2 hs1 => ?_)
    · refine AW.seqK fun K10 hK10 => ?_
      refine AW.region τ_ok mixedO 0 ?_
      conv => whnf
      refine hK10 _ _ ?_
      refine AW.ret ?_
      conv => whnf
      have e9 := Option.some.inj hs1
      subst e9
      dsimp only [LR.el] at h
      have e9 := Option.some.inj h
      subst e9
      refine hQ _ _ _ (retW (u4 (.int .i64 s1 :: (u8 (u4 (u2 []))))) [.box [.str p1, .int .i64 p2, .str p3, .slice (List.map encTy p4) .shared]] (Le.of [some 0] (Weak.mk' rfl (.u4 (.cons (.same rfl) (.u8 (.u4 (.u2 .nil))))) (.old (.box' (.cons (.same rfl) (.cons (.same rfl) (.cons (.same rfl) (.cons (.share (renl_Ty _ _)) .nil))))) .nil))) (retObj τ_ok [0] rfl (.cons (by simp only [renO, ren, renL, renLL, renT, renL_app, renl_I, renl_S, renl_U8, renl_Ty, renl_Tm, renl_Carrier, renl_Decl]; try rfl) .nil) ?_))
      conv => whnf
      first | rfl | (simp only [ren, renL, renLL, renT, renL_app, renl_I, renl_S, renl_U8, renl_Ty, renl_Tm, renl_Carrier, renl_Decl]; done) | (simp only [ren, renL, renLL, renT, renL_app, renl_I, renl_S, renl_U8, renl_Ty, renl_Tm, renl_Carrier, renl_Decl]; rfl)
    · refine AW.skip ?_
      conv => whnf
      refine hK7 _ _ ?_
      refine AW.know 5 0 fun hv1 => ?_
      refine AW.know 0 0 fun hv2 => ?_
      refine AW.region τ_ok mixedO 0 ?_
      conv => whnf
      refine ⟨(s1 + 1), by have := wf64 hv1; have := vfl hv2; have h8 := of_decide_eq_true hc1; exact w64_id (by omega) (by omega), ?_⟩
      conv => whnf
      exact hKL1 _ _ _ hs1 (Le.of [some 0] (Weak.mk' rfl (.cons (.share (renl_Decl _ _)) (.cons (.func' (.cons (.same rfl) .nil)) (.u4 (.cons (.unk _) (.cons (.same rfl) (.cons (.same rfl) (.u8 (.u2 .nil)))))))) (.old (.box' (.cons (.same rfl) (.cons (.same rfl) (.cons (.same rfl) (.cons (.share (renl_Ty _ _)) .nil))))) .nil)))
  · refine AW.exit ?_
    conv => whnf
    exact hR1 _ (Option.some.inj hs1).symm _ _ (Le.of [some 0] (Weak.mk' rfl (.u16 (.u2 (.cons (.unk _) .nil))) (.old (.box' (.cons (.same rfl) (.cons (.same rfl) (.cons (.same rfl) (.cons (.share (renl_Ty _ _)) .nil))))) .nil)))
def typing_equal_body (n : Nat) (rec_typing_equal : Ty → Ty → Option Bool) (rec_slices_EqualFunc_Type : (List Ty) → (List Ty) → Option Bool) (p0 : Ty) (p1 : Ty) : Option Bool := (((cond (p0.kind == p1.kind) (cond (p0.name == p1.name) ((rec_slices_EqualFunc_Type p0.kids p1.kids).bind fun (x1 : Bool) => some x1) (some false)) (some false)) : Option Bool).bind fun (s1 : Bool) => some s1)
def slices_EqualFunc_Type_L0 (n : Nat) (rec_typing_equal : Ty → Ty → Option Bool) (rec_slices_EqualFunc_Type : (List Ty) → (List Ty) → Option Bool) (p0 : List Ty) (p1 : List Ty) : Nat → Int → Option (LR Unit Bool)
  | 0, _ => none
  | k + 1, s1 => (cond (decide (s1 < (p0.length : Int))) ((idx p0 s1).bind fun (x1 : Ty) => ((idx p1 s1).bind fun (x2 : Ty) => ((rec_typing_equal x1 x2).bind fun (x3 : Bool) => (cond (!x3) (some (.rt false)) (slices_EqualFunc_Type_L0 n rec_typing_equal rec_slices_EqualFunc_Type p0 p1 k (s1 + 1)))))) (some (.nx ())))
def slices_EqualFunc_Type_body (n : Nat) (rec_typing_equal : Ty → Ty → Option Bool) (rec_slices_EqualFunc_Type : (List Ty) → (List Ty) → Option Bool) (p0 : List Ty) (p1 : List Ty) : Option Bool := (cond ((p0.length : Int) != (p1.length : Int)) (some false) ((slices_EqualFunc_Type_L0 n rec_typing_equal rec_slices_EqualFunc_Type p0 p1 n 0).bind (LR.el (fun (s2 : Unit) => some true) (fun r => some r))))
mutual
def typing_equal : Nat → Ty → Ty → Option Bool
  | 0, _, _ => none
  | n + 1, p0, p1 => typing_equal_body n (fun p0 p1 => typing_equal n p0 p1) (fun p0 p1 => slices_EqualFunc_Type n p0 p1) p0 p1
def slices_EqualFunc_Type : Nat → (List Ty) → (List Ty) → Option Bool
  | 0, _, _ => none
  | n + 1, p0, p1 => slices_EqualFunc_Type_body n (fun p0 p1 => typing_equal n p0 p1) (fun p0 p1 => slices_EqualFunc_Type n p0 p1) p0 p1
end
set_option maxRecDepth 100000 in
set_option maxHeartbeats 40000000 in
theorem typing_equal_body_ok (n : Nat) (rec_typing_equal : Ty → Ty → Option Bool) (rec_slices_EqualFunc_Type : (List Ty) → (List Ty) → Option Bool) (hrec_typing_equal : ∀ (p0 : Ty) (p1 : Ty) (r : Bool), rec_typing_equal p0 p1 = some r → ACalls Tryz.prog 93 [.agg [.int .i64 p0.kind, .str p0.name, .slice (List.map encTy p0.kids) .shared], .agg [.int .i64 p1.kind, .str p1.name, .slice (List.map encTy p1.kids) .shared]] [] (.bool r) []) (hrec_slices_EqualFunc_Type : ∀ (p0 : List Ty) (p1 : List Ty) (r : Bool), rec_slices_EqualFunc_Type p0 p1 = some r → ACalls Tryz.prog 177 [.slice (List.map encTy p0) .shared, .slice (List.map encTy p1) .shared, .func 93 []] [] (.bool r) []) (p0 : Ty) (p1 : Ty) (r : Bool) (h : typing_equal_body n rec_typing_equal rec_slices_EqualFunc_Type p0 p1 = some r) : ACalls Tryz.prog 93 [.agg [.int .i64 p0.kind, .str p0.name, .slice (List.map encTy p0.kids) .shared], .agg [.int .i64 p1.kind, .str p1.name, .slice (List.map encTy p1.kids) .shared]] [] (.bool r) [] := by
  unfold typing_equal_body at h
  refine acalls_start true Tryz.func93 rfl (by rw [Tryz.ntmps93]; exact Nat.le_of_ble_eq_true rfl) fun Q hQ t ht => ?_
  conv at ht => whnf
  subst ht
  refine AW.seqK fun K1 hK1 => ?_
  refine AW.region τ_ok mixedO 2 ?_
  conv => whnf
  refine hK1 _ _ ?_
  refine AW.seqK fun K2 hK2 => ?_
  obtain ⟨s1, hj1, h⟩ := ob h
  have hR1 : ∀ t9 h9, Le 0 t9 h9 (u4 (.bool s1 :: (u16 (u2 (.unk :: []))))) [] → K2 t9 h9 := by
    intro t9 h9 hw
    refine hK2 _ _ (AW.le hw ?_)
    clear hw
    refine AW.ret ?_
    conv => whnf
    have e9 := Option.some.inj h
    subst e9
    refine hQ _ _ _ (retPure τ_ok (fun g => rfl) ?_)
    conv => whnf
  refine AW.region τ_ok mixedO 0 ?_
  conv => whnf
  refine onB_cond hj1 (fun hc1 hj1 => ?_) (fun hc1 hj1 => ?_)
  · conv => whnf
    refine onB_cond hj1 (fun hc2 hj1 => ?_) (fun hc2 hj1 => ?_)
    · conv => whnf
      obtain ⟨x1, hx1, hj1⟩ := ob hj1
      refine call_pur (hrec_slices_EqualFunc_Type _ _ _ hx1) okF_177 (.cons (.same _) (.cons (.same _) (.cons (.same _) .nil))) (fun g => by simp only [ren, renL, renLL, renT, renL_app, renl_I, renl_S, renl_U8, renl_Ty, renl_Tm, renl_Carrier, renl_Decl]) (fun g => rfl) ?_
      conv => whnf
      cases hj1
      exact hR1 _ _ (Le.of [] (Weak.mk' rfl (.u4 (.cons (.same rfl) (.u16 (.u2 (.cons (.unk _) .nil))))) .nil))
    · conv => whnf
      cases hj1
      exact hR1 _ _ (Le.of [] (Weak.mk' rfl (.u4 (.cons (.same rfl) (.u16 (.u2 (.cons (.unk _) .nil))))) .nil))
  · conv => whnf
    cases hj1
    exact hR1 _ _ (Le.of [] (Weak.mk' rfl (.u4 (.cons (.same rfl) (.u16 (.u2 (.cons (.unk _) .nil))))) .nil))
set_option maxRecDepth 100000 in
set_option maxHeartbeats 40000000 in
theorem slices_EqualFunc_Type_body_ok (n : Nat) (rec_typing_equal : Ty → Ty → Option Bool) (rec_slices_EqualFunc_Type : (List Ty) → (List Ty) → Option Bool) (hrec_typing_equal : ∀ (p0 : Ty) (p1 : Ty) (r : Bool), rec_typing_equal p0 p1 = some r → ACalls Tryz.prog 93 [.agg [.int .i64 p0.kind, .str p0.name, .slice (List.map encTy p0.kids) .shared], .agg [.int .i64 p1.kind, .str p1.name, .slice (List.map encTy p1.kids) .shared]] [] (.bool r) []) (hrec_slices_EqualFunc_Type : ∀ (p0 : List Ty) (p1 : List Ty) (r : Bool), rec_slices_EqualFunc_Type p0 p1 = some r → ACalls Tryz.prog 177 [.slice (List.map encTy p0) .shared, .slice (List.map encTy p1) .shared, .func 93 []] [] (.bool r) []) (p0 : List Ty) (p1 : List Ty) (r : Bool) (h : slices_EqualFunc_Type_body n rec_typing_equal rec_slices_EqualFunc_Type p0 p1 = some r) : ACalls Tryz.prog 177 [.slice (List.map encTy p0) .shared, .slice (List.map encTy p1) .shared, .func 93 []] [] (.bool r) [] := by
  unfold slices_EqualFunc_Type_body at h
  refine acalls_start true Tryz.func177 rfl (by rw [Tryz.ntmps177]; exact Nat.le_of_ble_eq_true rfl) fun Q hQ t ht => ?_
  conv at ht => whnf
  subst ht
  refine AW.seqK fun K1 hK1 => ?_
  refine AW.region τ_ok mixedO 0 ?_
  conv => whnf
  refine hK1 _ _ ?_
  refine AW.seqK fun K2 hK2 => ?_
  refine AW.seqK fun K3 hK3 => ?_
  refine AW.region τ_ok mixedO 0 ?_
  conv => whnf
  refine len_of (l := p0) (f := encTy) ?_
  conv => whnf
  refine len_of (l := p1) (f := encTy) ?_
  conv => whnf
  refine hK3 _ _ ?_
  refine AW.condS rfl h (fun hc1 h => ?_) (fun hc1 h => ?_)
  · refine AW.seqK fun K4 hK4 => ?_
    refine AW.region τ_ok mixedO 0 ?_
    conv => whnf
    refine hK4 _ _ ?_
    refine AW.ret ?_
    conv => whnf
    have e9 := Option.some.inj h
    subst e9
    refine hQ _ _ _ (retPure τ_ok (fun g => rfl) ?_)
    conv => whnf
  · refine AW.skip ?_
    conv => whnf
    refine hK2 _ _ ?_
    refine AW.seqK fun K5 hK5 => ?_
    refine AW.seqK fun K6 hK6 => ?_
    refine AW.region τ_ok mixedO 0 ?_
    conv => whnf
    refine len_of (l := p0) (f := encTy) ?_
    conv => whnf
    refine hK6 _ _ ?_
    refine AW.block ?_
    obtain ⟨o1, ho1, h⟩ := ob h
    have hR1 : ∀ s2 : Unit, o1 = .nx s2 → ∀ t9 h9, Le 0 t9 h9 (u32 []) [] → K5 t9 h9 := by
      intro s2 ho
      subst ho
      dsimp only [LR.el] at h
      intro t9 h9 hw
      refine hK5 _ _ (AW.le hw ?_)
      refine AW.seqK fun K7 hK7 => ?_
      refine AW.region τ_ok mixedO 0 ?_
      conv => whnf
      refine hK7 _ _ ?_
      refine AW.ret ?_
      conv => whnf
      have e9 := Option.some.inj h
      subst e9
      refine hQ _ _ _ (retPure τ_ok (fun g => rfl) ?_)
      conv => whnf
    refine AW.loopS (slices_EqualFunc_Type_L0 n rec_typing_equal rec_slices_EqualFunc_Type p0 p1) (fun (s1 : Int) => (.unk :: (.slice (List.map encTy p1) .shared :: (.func 93 [] :: (u8 (u4 (.slice (List.map encTy p0) .shared :: (.int .i64 (p0.length : Int) :: (.int .i64 s1 :: (u8 (u4 (u2 [])))))))))))) (fun (s1 : Int) => []) ho1 (fun _ => rfl) (Le.of [] (Weak.mk' rfl (.cons (.unk _) (.cons (.share (renl_Ty _ _)) (.cons (.func' .nil) (.u8 (.u4 (.cons (.share (renl_Ty _ _)) (.cons (.same rfl) (.cons (.same rfl) (.u8 (.u4 (.u2 .nil))))))))))) .nil)) ?_
    intro n1 s1 hs1 KL1 hKL1
    unfold slices_EqualFunc_Type_L0 at hs1
    refine AW.seqK fun K8 hK8 => ?_
    refine AW.region τ_ok mixedO 0 ?_
    conv => whnf
    refine hK8 _ _ ?_
    refine AW.seqK fun K9 hK9 => ?_
    refine AW.condS rfl hs1 (fun hc2 hs1 => ?_) (fun hc2 hs1 => ?_)
    · refine AW.skip ?_
      conv => whnf
      refine hK9 _ _ ?_
      refine AW.seqK fun K10 hK10 => ?_
      refine AW.block ?_
      refine AW.seqK fun K11 hK11 => ?_
      refine AW.region τ_ok mixedO 1 ?_
      conv => whnf
      obtain ⟨x1, hx1, hs1⟩ := ob hs1
      refine idx_of (l := p0) (f := encTy) (cs := [.int .i64 ((x1).kind), .str ((x1).name), .slice (List.map encTy ((x1).kids)) .shared]) hx1 (encTy_eq x1) rfl ?_
      conv => whnf
      refine hK11 _ _ ?_
      refine AW.seqK fun K12 hK12 => ?_
      refine AW.region τ_ok mixedO 1 ?_
      conv => whnf
      obtain ⟨x2, hx2, hs1⟩ := ob hs1
      refine idx_of (l := p1) (f := encTy) (cs := [.int .i64 ((x2).kind), .str ((x2).name), .slice (List.map encTy ((x2).kids)) .shared]) hx2 (encTy_eq x2) rfl ?_
      conv => whnf
      refine hK12 _ _ ?_
      refine AW.seqK fun K13 hK13 => ?_
      refine AW.region τ_ok mixedO 0 ?_
      conv => whnf
      obtain ⟨x3, hx3, hs1⟩ := ob hs1
      refine call_pur (hrec_typing_equal _ _ _ hx3) okF_93 (.cons (.same _) (.cons (.same _) .nil)) (fun g => by simp only [ren, renL, renLL, renT, renL_app, renl_I, renl_S, renl_U8, renl_Ty, renl_Tm, renl_Carrier, renl_Decl]) (fun g => rfl) ?_
      conv => whnf
      refine hK13 _ _ ?_
      refine AW.condS rfl hs1 (fun hc3 hs1 => ?_) (fun hc3 hs1 => ?_)
      · refine AW.seqK fun K14 hK14 => ?_
        refine AW.region τ_ok mixedO 0 ?_
        conv => whnf
        refine hK14 _ _ ?_
        refine AW.ret ?_
        conv => whnf
        have e9 := Option.some.inj hs1
        subst e9
        dsimp only [LR.el] at h
        have e9 := Option.some.inj h
        subst e9
        refine hQ _ _ _ (retPure τ_ok (fun g => rfl) ?_)
        conv => whnf
      · refine AW.skip ?_
        conv => whnf
        refine hK10 _ _ ?_
        refine AW.know 7 0 fun hv1 => ?_
        refine AW.know 15 0 fun hv2 => ?_
        refine AW.region τ_ok mixedO 0 ?_
        conv => whnf
        refine ⟨(s1 + 1), by have := wf64 hv1; have := vfl hv2; have h8 := of_decide_eq_true hc2; exact w64_id (by omega) (by omega), ?_⟩
        conv => whnf
        exact hKL1 _ _ _ hs1 (Le.of [] (Weak.mk' rfl (.cons (.unk _) (.cons (.share (renl_Ty _ _)) (.cons (.func' .nil) (.u8 (.u4 (.cons (.share (renl_Ty _ _)) (.cons (.same rfl) (.cons (.same rfl) (.u8 (.u4 (.u2 .nil))))))))))) .nil))
    · refine AW.exit ?_
      conv => whnf
      exact hR1 _ (Option.some.inj hs1).symm _ _ (Le.of [] (Weak.mk' rfl (.u32 .nil) .nil))
theorem typing_equal_all (n : Nat) : (∀ (p0 : Ty) (p1 : Ty) (r : Bool), typing_equal n p0 p1 = some r → ACalls Tryz.prog 93 [.agg [.int .i64 p0.kind, .str p0.name, .slice (List.map encTy p0.kids) .shared], .agg [.int .i64 p1.kind, .str p1.name, .slice (List.map encTy p1.kids) .shared]] [] (.bool r) []) ∧ (∀ (p0 : List Ty) (p1 : List Ty) (r : Bool), slices_EqualFunc_Type n p0 p1 = some r → ACalls Tryz.prog 177 [.slice (List.map encTy p0) .shared, .slice (List.map encTy p1) .shared, .func 93 []] [] (.bool r) []) := by
  induction n with
  | zero => exact ⟨(fun p0 p1 r h => by unfold typing_equal at h; cases h), (fun p0 p1 r h => by unfold slices_EqualFunc_Type at h; cases h)⟩
  | succ n ih =>
    exact ⟨(fun p0 p1 r h => typing_equal_body_ok n _ _ ih.1 ih.2 p0 p1 r (by unfold typing_equal at h; exact h)), (fun p0 p1 r h => slices_EqualFunc_Type_body_ok n _ _ ih.1 ih.2 p0 p1 r (by unfold slices_EqualFunc_Type at h; exact h))⟩
theorem typing_equal_ok (n : Nat) (p0 : Ty) (p1 : Ty) (r : Bool) (h : typing_equal n p0 p1 = some r) : ACalls Tryz.prog 93 [.agg [.int .i64 p0.kind, .str p0.name, .slice (List.map encTy p0.kids) .shared], .agg [.int .i64 p1.kind, .str p1.name, .slice (List.map encTy p1.kids) .shared]] [] (.bool r) [] := (typing_equal_all n).1 p0 p1 r h
theorem slices_EqualFunc_Type_ok (n : Nat) (p0 : List Ty) (p1 : List Ty) (r : Bool) (h : slices_EqualFunc_Type n p0 p1 = some r) : ACalls Tryz.prog 177 [.slice (List.map encTy p0) .shared, .slice (List.map encTy p1) .shared, .func 93 []] [] (.bool r) [] := (typing_equal_all n).2 p0 p1 r h
end Abs
end Go.Proofs.YtiiaccpcoclklaaGreat
namespace Go.Proofs.YtiiaccpcoclklaaGreat
namespace Abs
open Go Go.Proofs
def typing_Union_L1 (n : Nat) (p0 : Env) (x2 : (List Carrier) × (List Decl)) : Nat → (Int × (List Carrier)) → Option (LR (List Carrier) (Env × Int))
  | 0, _ => none
  | k + 1, s2 => (cond (decide (s2.1 < (x2.1.length : Int))) ((((idx x2.1 s2.1).bind fun (x10 : Carrier) => ((slices_IndexFunc_Carrier_1 n p0.carriers x10.name x10.elems).bind fun (x11 : Int) => (cond (decide (x11 < 0)) ((app 40 s2.2 ([x10])).bind fun (x12 : List Carrier) => some (.nx x12)) ((idx p0.carriers x11).bind fun (x13 : Carrier) => ((slices_Equal_string n x13.elems x10.elems).bind fun (x14 : Bool) => (cond (!x14) (some (.rt ((Env.mk ([]) ([])), 8))) (some (.nx s2.2)))))))) : Option (LR (List Carrier) (Env × Int))).bind (LR.el (fun (s8 : List Carrier) => typing_Union_L1 n p0 x2 k ((s2.1 + 1), s8)) (fun r => some (.rt r)))) (some (.nx s2.2)))
def typing_Union_L0 (n : Nat) (p0 : Env) (x2 : (List Carrier) × (List Decl)) : Nat → (Int × (List Decl)) → Option (LR (List Decl) (Env × Int))
  | 0, _ => none
  | k + 1, s4 => (cond (decide (s4.1 < (x2.2.length : Int))) ((((idx x2.2 s4.1).bind fun (x5 : Decl) => ((slices_IndexFunc_Decl n p0.names x5.name x5.ty.kind x5.ty.name x5.ty.kids).bind fun (x6 : Int) => (cond (decide (x6 < 0)) ((app 64 s4.2 ([x5])).bind fun (x7 : List Decl) => some (.nx x7)) ((idx p0.names x6).bind fun (x8 : Decl) => ((typing_equal n x8.ty x5.ty).bind fun (x9 : Bool) => (cond (!x9) (some (.rt ((Env.mk ([]) ([])), 8))) (some (.nx s4.2)))))))) : Option (LR (List Decl) (Env × Int))).bind (LR.el (fun (s7 : List Decl) => typing_Union_L0 n p0 x2 k ((s4.1 + 1), s7)) (fun r => some (.rt r)))) (some (.nx s4.2)))
def typing_Union (n : Nat) (p0 : Env) (p1 : Env) : Option (Env × Int) := ((((typing_ValidEnv n p0).bind fun (x15 : Bool) => (cond (!x15) (some true) ((typing_ValidEnv n p1).bind fun (x16 : Bool) => some (!x16)))) : Option Bool).bind fun (s1 : Bool) => (cond s1 (some ((Env.mk ([]) ([])), 1)) ((typing_copyEnv n p0).bind fun (x1 : (List Carrier) × (List Decl)) => ((typing_copyEnv n p1).bind fun (x2 : (List Carrier) × (List Decl)) => ((typing_Union_L1 n p0 x2 n (0, x1.1)).bind (LR.el (fun (s3 : List Carrier) => ((typing_Union_L0 n p0 x2 n (0, x1.2)).bind (LR.el (fun (s5 : List Decl) => ((typing_declared n (Env.mk s3 s5)).bind fun (x3 : List Str) => ((typing_distinct n x3).bind fun (x4 : Bool) => (cond (!x4) (some ((Env.mk ([]) ([])), 8)) (((cond (decide (8 < (s3.length : Int))) (some true) (some (decide (64 < (s5.length : Int))))) : Option Bool).bind fun (s6 : Bool) => (cond s6 (some ((Env.mk ([]) ([])), 5)) (some ((Env.mk s3 s5), 0)))))))) (fun r => some r)))) (fun r => some r)))))))
set_option maxRecDepth 100000 in
set_option maxHeartbeats 40000000 in
theorem typing_Union_ok (n : Nat) (p0 : Env) (p1 : Env) (r : Env × Int) (h : typing_Union n p0 p1 = some r) : ACalls Tryz.prog 60 [.agg [.slice (List.map encCarrier p0.carriers) .shared, .slice (List.map encDecl p0.names) .shared], .agg [.slice (List.map encCarrier p1.carriers) .shared, .slice (List.map encDecl p1.names) .shared]] [] (.tup [.agg [.slice (List.map encCarrier r.1.carriers) .shared, .slice (List.map encDecl r.1.names) .shared], .int .i64 r.2]) [] := by
  unfold typing_Union at h
  refine acalls_start true Tryz.func60 rfl (by rw [Tryz.ntmps60]; exact Nat.le_of_ble_eq_true rfl) fun Q hQ t ht => ?_
  conv at ht => whnf
  subst ht
  refine AW.seqK fun K1 hK1 => ?_
  refine AW.region τ_ok mixedO 3 ?_
  conv => whnf
  refine hK1 _ _ ?_
  refine AW.seqK fun K2 hK2 => ?_
  refine AW.seqK fun K3 hK3 => ?_
  obtain ⟨s1, hj1, h⟩ := ob h
  have hR1 : ∀ t9 h9, Le 0 t9 h9 (u2 (.ptr 0 0 :: (.ptr 1 0 :: (.ptr 2 0 :: (u16 (.bool s1 :: (u64 (u16 (u8 (u2 [])))))))))) [.box [.slice (List.map encCarrier p0.carriers) .shared, .slice (List.map encDecl p0.names) .shared], .box [.slice (List.map encCarrier p1.carriers) .shared, .slice (List.map encDecl p1.names) .shared], .box [.slice (List.map encCarrier ([] : List Carrier)) .nils, .slice (List.map encDecl ([] : List Decl)) .nils]] → K3 t9 h9 := by
    intro t9 h9 hw
    refine hK3 _ _ (AW.le hw ?_)
    clear hw
    refine AW.condS rfl h (fun hc1 h => ?_) (fun hc1 h => ?_)
    · refine AW.seqK fun K4 hK4 => ?_
      refine AW.region τ_ok mixedO 0 ?_
      conv => whnf
      refine hK4 _ _ ?_
      refine AW.ret ?_
      conv => whnf
      have e9 := Option.some.inj h
      subst e9
      refine hQ _ _ _ (retPure τ_ok (fun g => by simp only [ren, renL, renLL, renT, renL_app, renl_I, renl_S, renl_U8, renl_Ty, renl_Tm, renl_Carrier, renl_Decl]) ?_)
      conv => whnf
      try rfl
    · refine AW.skip ?_
      conv => whnf
      refine hK2 _ _ ?_
      refine AW.seqK fun K5 hK5 => ?_
      refine AW.region τ_ok mixedO 6 ?_
      conv => whnf
      obtain ⟨x1, hx1, h⟩ := ob h
      refine call_gen [] [3, 4] [.agg [.slice (List.map encCarrier p0.carriers) .shared, .slice (List.map encDecl p0.names) .shared]] [.agg [.slice (List.map encCarrier p0.carriers) .shared, .slice (List.map encDecl p0.names) .shared]] (typing_copyEnv_ok _ _ _ hx1) okF_115 rfl .nil (by simp only [ren, renL, renLL, renT, renL_app, renl_I, renl_S, renl_U8, renl_Ty, renl_Tm, renl_Carrier, renl_Decl]; try rfl) (.cons (.same _) .nil) (rn := .agg [.slice (List.map encCarrier x1.1) (.tip 3 2), .slice (List.map encDecl x1.2) (.tip 4 4)]) (by simp only [ren, renL, renLL, renT, renL_app, renl_I, renl_S, renl_U8, renl_Ty, renl_Tm, renl_Carrier, renl_Decl]; try rfl) (Hn := [.tip (List.length x1.1 * 2), .tip (List.length x1.2 * 4)]) ((rcons (rfl) (rcons (rfl) rfl))) ?_
      conv => whnf
      obtain ⟨x2, hx2, h⟩ := ob h
      refine call_gen [] [5, 6] [.agg [.slice (List.map encCarrier p1.carriers) .shared, .slice (List.map encDecl p1.names) .shared]] [.agg [.slice (List.map encCarrier p1.carriers) .shared, .slice (List.map encDecl p1.names) .shared]] (typing_copyEnv_ok _ _ _ hx2) okF_115 rfl .nil (by simp only [ren, renL, renLL, renT, renL_app, renl_I, renl_S, renl_U8, renl_Ty, renl_Tm, renl_Carrier, renl_Decl]; try rfl) (.cons (.same _) .nil) (rn := .agg [.slice (List.map encCarrier x2.1) (.tip 5 2), .slice (List.map encDecl x2.2) (.tip 6 4)]) (by simp only [ren, renL, renLL, renT, renL_app, renl_I, renl_S, renl_U8, renl_Ty, renl_Tm, renl_Carrier, renl_Decl]; try rfl) (Hn := [.tip (List.length x2.1 * 2), .tip (List.length x2.2 * 4)]) ((rcons (rfl) (rcons (rfl) rfl))) ?_
      conv => whnf
      refine ⟨rfl, ?_⟩
      conv => whnf
      refine hK5 _ _ ?_
      refine AW.seqK fun K6 hK6 => ?_
      refine AW.seqK fun K7 hK7 => ?_
      refine AW.region τ_ok mixedO 0 ?_
      conv => whnf
      refine len_of (l := x2.1) (f := encCarrier) ?_
      conv => whnf
      refine hK7 _ _ ?_
      refine AW.block ?_
      obtain ⟨o1, ho1, h⟩ := ob h
      have hR2 : ∀ s3 : List Carrier, o1 = .nx s3 → ∀ t9 h9, Le 0 t9 h9 (u2 (.ptr 0 0 :: (.unk :: (.ptr 1 0 :: (.unk :: (.ptr 2 0 :: (.ptr 3 0 :: (u64 (u32 (u8 [])))))))))) [.box [.slice (List.map encCarrier p0.carriers) .shared, .slice (List.map encDecl p0.names) .shared], .box [.slice (List.map encCarrier ([] : List Carrier)) .nils, .slice (List.map encDecl ([] : List Decl)) .nils], .box [.slice (List.map encCarrier s3) (.tip 4 2), .slice (List.map encDecl x1.2) (.tip 5 4)], .box [.slice (List.map encCarrier x2.1) (.tip 6 2), .slice (List.map encDecl x2.2) (.tip 7 4)], .tip (List.length s3 * 2), .tip (List.length x1.2 * 4), .tip (List.length x2.1 * 2), .tip (List.length x2.2 * 4)] → K6 t9 h9 := by
        intro s3 ho
        subst ho
        dsimp only [LR.el] at h
        intro t9 h9 hw
        refine hK6 _ _ (AW.le hw ?_)
        refine AW.seqK fun K8 hK8 => ?_
        refine AW.seqK fun K9 hK9 => ?_
        refine AW.region τ_ok mixedO 0 ?_
        conv => whnf
        refine len_of (l := x2.2) (f := encDecl) ?_
        conv => whnf
        refine hK9 _ _ ?_
        refine AW.block ?_
        obtain ⟨o2, ho2, h⟩ := ob h
        have hR3 : ∀ s5 : List Decl, o2 = .nx s5 → ∀ t9 h9, Le 0 t9 h9 (u4 (.ptr 0 0 :: (.unk :: (.ptr 1 0 :: (u64 (u32 (u8 (.unk :: [])))))))) [.box [.slice (List.map encCarrier ([] : List Carrier)) .nils, .slice (List.map encDecl ([] : List Decl)) .nils], .box [.slice (List.map encCarrier s3) (.tip 2 2), .slice (List.map encDecl s5) (.tip 3 4)], .tip (List.length s3 * 2), .tip (List.length s5 * 4)] → K8 t9 h9 := by
          intro s5 ho
          subst ho
          dsimp only [LR.el] at h
          intro t9 h9 hw
          refine hK8 _ _ (AW.le hw ?_)
          refine AW.seqK fun K10 hK10 => ?_
          refine AW.block ?_
          refine AW.seqK fun K11 hK11 => ?_
          refine AW.region τ_ok mixedO 1 ?_
          conv => whnf
          obtain ⟨x3, hx3, h⟩ := ob h
          refine call_gen [] [4] [.agg [.slice (List.map encCarrier s3) .shared, .slice (List.map encDecl s5) .shared]] [.agg [.slice (List.map encCarrier s3) .shared, .slice (List.map encDecl s5) .shared]] (typing_declared_ok _ _ _ hx3) okF_114 rfl .nil (by simp only [ren, renL, renLL, renT, renL_app, renl_I, renl_S, renl_U8, renl_Ty, renl_Tm, renl_Carrier, renl_Decl]; try rfl) (.cons (.agg' (.cons (.share _ _) (.cons (.share _ _) .nil))) .nil) (rn := .slice (List.map encS x3) (.tip 4 1)) (by simp only [ren, renL, renLL, renT, renL_app, renl_I, renl_S, renl_U8, renl_Ty, renl_Tm, renl_Carrier, renl_Decl]; try rfl) (Hn := [.tip (List.length x3 * 1)]) ((rcons (rfl) rfl)) ?_
          conv => whnf
          obtain ⟨x4, hx4, h⟩ := ob h
          refine call_pur (typing_distinct_ok _ _ _ hx4) okF_118 (.cons (.share _ _) .nil) (fun g => by simp only [ren, renL, renLL, renT, renL_app, renl_I, renl_S, renl_U8, renl_Ty, renl_Tm, renl_Carrier, renl_Decl]) (fun g => rfl) ?_
          conv => whnf
          refine hK11 _ _ ?_
          refine AW.condS rfl h (fun hc2 h => ?_) (fun hc2 h => ?_)
          · refine AW.seqK fun K12 hK12 => ?_
            refine AW.region τ_ok mixedO 0 ?_
            conv => whnf
            refine hK12 _ _ ?_
            refine AW.ret ?_
            conv => whnf
            have e9 := Option.some.inj h
            subst e9
            refine hQ _ _ _ (retPure τ_ok (fun g => by simp only [ren, renL, renLL, renT, renL_app, renl_I, renl_S, renl_U8, renl_Ty, renl_Tm, renl_Carrier, renl_Decl]) ?_)
            conv => whnf
            try rfl
          · refine AW.seqK fun K13 hK13 => ?_
            obtain ⟨s6, hj2, h⟩ := ob h
            have hR4 : ∀ t9 h9, Le 0 t9 h9 (u4 (.ptr 0 0 :: (.unk :: (.ptr 1 0 :: (u64 (u16 (u8 (u4 (.bool s6 :: (u8 (u4 []))))))))))) [.box [.slice (List.map encCarrier ([] : List Carrier)) .nils, .slice (List.map encDecl ([] : List Decl)) .nils], .box [.slice (List.map encCarrier s3) (.tip 2 2), .slice (List.map encDecl s5) (.tip 3 4)], .tip (List.length s3 * 2), .tip (List.length s5 * 4)] → K13 t9 h9 := by
              intro t9 h9 hw
              refine hK13 _ _ (AW.le hw ?_)
              clear hw
              refine AW.condS rfl h (fun hc3 h => ?_) (fun hc3 h => ?_)
              · refine AW.seqK fun K14 hK14 => ?_
                refine AW.region τ_ok mixedO 0 ?_
                conv => whnf
                refine hK14 _ _ ?_
                refine AW.ret ?_
                conv => whnf
                have e9 := Option.some.inj h
                subst e9
                refine hQ _ _ _ (retPure τ_ok (fun g => by simp only [ren, renL, renLL, renT, renL_app, renl_I, renl_S, renl_U8, renl_Ty, renl_Tm, renl_Carrier, renl_Decl]) ?_)
                conv => whnf
                try rfl
              · refine AW.skip ?_
                conv => whnf
                refine hK10 _ _ ?_
                refine AW.seqK fun K15 hK15 => ?_
                refine AW.region τ_ok mixedO 0 ?_
                conv => whnf
                refine hK15 _ _ ?_
                refine AW.ret ?_
                conv => whnf
                have e9 := Option.some.inj h
                subst e9
                refine hQ _ _ _ (retPure τ_ok (fun g => by simp only [ren, renL, renLL, renT, renL_app, renl_I, renl_S, renl_U8, renl_Ty, renl_Tm, renl_Carrier, renl_Decl]) ?_)
                conv => whnf
                try rfl
            refine AW.region τ_ok mixedO 0 ?_
            conv => whnf
            refine len_of (l := s3) (f := encCarrier) ?_
            conv => whnf
            refine onB_cond hj2 (fun hc4 hj2 => ?_) (fun hc4 hj2 => ?_)
            · conv => whnf
              cases hj2
              exact hR4 _ _ (Le.of [some 0, some 1, some 2, some 3] (Weak.mk' rfl (.u4 (.cons (.same rfl) (.cons (.unk _) (.cons (.same rfl) (.u64 (.u16 (.u8 (.u4 (.cons (.same rfl) (.u8 (.u4 .nil))))))))))) (.old (.box' (.cons (.same rfl) (.cons (.same rfl) .nil))) (.old (.box' (.cons (.tipS (renl_Carrier _ _) rfl) (.cons (.tipS (renl_Decl _ _) rfl) .nil))) (.old (.tip _) (.old (.tip _) .nil))))))
            · conv => whnf
              refine len_of (l := s5) (f := encDecl) ?_
              conv => whnf
              cases hj2
              exact hR4 _ _ (Le.of [some 0, some 1, some 2, some 3] (Weak.mk' rfl (.u4 (.cons (.same rfl) (.cons (.unk _) (.cons (.same rfl) (.u64 (.u16 (.u8 (.u4 (.cons (.same rfl) (.u8 (.u4 .nil))))))))))) (.old (.box' (.cons (.same rfl) (.cons (.same rfl) .nil))) (.old (.box' (.cons (.tipS (renl_Carrier _ _) rfl) (.cons (.tipS (renl_Decl _ _) rfl) .nil))) (.old (.tip _) (.old (.tip _) .nil))))))
        refine AW.loopS (typing_Union_L0 n p0 x2) (fun (s4 : Int × (List Decl)) => (u2 (.ptr 0 0 :: (.unk :: (.ptr 1 0 :: (.unk :: (.ptr 2 0 :: (u32 (u16 (u4 (u2 (.slice (List.map encDecl x2.2) (.tip 3 4) :: (.int .i64 (x2.2.length : Int) :: (.int .i64 s4.1 :: (u32 (u16 [])))))))))))))))) (fun (s4 : Int × (List Decl)) => [.box [.slice (List.map encCarrier p0.carriers) .shared, .slice (List.map encDecl p0.names) .shared], .box [.slice (List.map encCarrier ([] : List Carrier)) .nils, .slice (List.map encDecl ([] : List Decl)) .nils], .box [.slice (List.map encCarrier s3) (.tip 4 2), .slice (List.map encDecl s4.2) (.tip 5 4)], .tip (List.length x2.2 * 4), .tip (List.length s3 * 2), .tip (List.length s4.2 * 4)]) ho2 (fun _ => rfl) (Le.of [some 0, some 1, some 2, some 7, some 4, some 5] (Weak.mk' rfl (.u2 (.cons (.same rfl) (.cons (.unk _) (.cons (.same rfl) (.cons (.unk _) (.cons (.same rfl) (.u32 (.u16 (.u4 (.u2 (.cons (.tipS (renl_Decl _ _) rfl) (.cons (.same rfl) (.cons (.same rfl) (.u32 (.u16 .nil))))))))))))))) (.old (.box' (.cons (.share (renl_Carrier _ _)) (.cons (.share (renl_Decl _ _)) .nil))) (.old (.box' (.cons (.same rfl) (.cons (.same rfl) .nil))) (.old (.box' (.cons (.tipS (renl_Carrier _ _) rfl) (.cons (.tipS (renl_Decl _ _) rfl) .nil))) (.old (.tip _) (.old (.tip _) (.old (.tip _) .nil)))))))) ?_
        intro n2 s4 hs2 KL2 hKL2
        unfold typing_Union_L0 at hs2
        refine AW.seqK fun K16 hK16 => ?_
        refine AW.region τ_ok mixedO 0 ?_
        conv => whnf
        refine hK16 _ _ ?_
        refine AW.seqK fun K17 hK17 => ?_
        refine AW.condS rfl hs2 (fun hc5 hs2 => ?_) (fun hc5 hs2 => ?_)
        · refine AW.skip ?_
          conv => whnf
          refine hK17 _ _ ?_
          refine AW.seqK fun K18 hK18 => ?_
          obtain ⟨o3, hj3, hs2⟩ := ob hs2
          have hR5 : ∀ s7 : List Decl, o3 = .nx s7 → ∀ t9 h9, Le 0 t9 h9 (u2 (.ptr 0 0 :: (.unk :: (.ptr 1 0 :: (.unk :: (.ptr 2 0 :: (u32 (u16 (u4 (u2 (.slice (List.map encDecl x2.2) (.tip 3 4) :: (.int .i64 (x2.2.length : Int) :: (.int .i64 s4.1 :: (u32 (u16 []))))))))))))))) [.box [.slice (List.map encCarrier p0.carriers) .shared, .slice (List.map encDecl p0.names) .shared], .box [.slice (List.map encCarrier ([] : List Carrier)) .nils, .slice (List.map encDecl ([] : List Decl)) .nils], .box [.slice (List.map encCarrier s3) (.tip 4 2), .slice (List.map encDecl s7) (.tip 5 4)], .tip (List.length x2.2 * 4), .tip (List.length s3 * 2), .tip (List.length s7 * 4)] → K18 t9 h9 := by
            intro s7 ho
            subst ho
            dsimp only [LR.el] at hs2
            intro t9 h9 hw
            refine hK18 _ _ (AW.le hw ?_)
            clear hw
            refine AW.know 63 0 fun hv1 => ?_
            refine AW.know 61 0 fun hv2 => ?_
            refine AW.region τ_ok mixedO 0 ?_
            conv => whnf
            refine ⟨(s4.1 + 1), by have := wf64 hv1; have := vfl hv2; have h8 := of_decide_eq_true hc5; exact w64_id (by omega) (by omega), ?_⟩
            conv => whnf
            exact hKL2 _ _ _ hs2 (Le.of [some 0, some 1, some 2, some 3, some 4, some 5] (Weak.mk' rfl (.u2 (.cons (.same rfl) (.cons (.unk _) (.cons (.same rfl) (.cons (.unk _) (.cons (.same rfl) (.u32 (.u16 (.u4 (.u2 (.cons (.tipS (renl_Decl _ _) rfl) (.cons (.same rfl) (.cons (.same rfl) (.u32 (.u16 .nil))))))))))))))) (.old (.box' (.cons (.share (renl_Carrier _ _)) (.cons (.share (renl_Decl _ _)) .nil))) (.old (.box' (.cons (.same rfl) (.cons (.same rfl) .nil))) (.old (.box' (.cons (.tipS (renl_Carrier _ _) rfl) (.cons (.tipS (renl_Decl _ _) rfl) .nil))) (.old (.tip _) (.old (.tip _) (.old (.tip _) .nil))))))))
          refine AW.block ?_
          refine AW.seqK fun K19 hK19 => ?_
          refine AW.region τ_ok mixedO 1 ?_
          conv => whnf
          obtain ⟨x5, hx5, hj3⟩ := ob hj3
          refine idx_of (l := x2.2) (f := encDecl) (cs := [.str ((x5).name), .int .i64 (((x5).ty).kind), .str (((x5).ty).name), .slice (List.map encTy (((x5).ty).kids)) .shared]) hx5 (rfl) rfl ?_
          conv => whnf
          refine hK19 _ _ ?_
          refine AW.seqK fun K20 hK20 => ?_
          refine AW.region τ_ok mixedO 0 ?_
          conv => whnf
          obtain ⟨x6, hx6, hj3⟩ := ob hj3
          refine call_gen [6] [] [.slice (List.map encDecl p0.names) .shared, .func 127 [.ptr 0 0]] [.slice (List.map encDecl p0.names) .shared, .func 127 [.ptr 6 0]] (slices_IndexFunc_Decl_ok _ _ _ _ _ _ _ hx6) okF_126 rfl (.cons (by simp only [renO, ren, renL, renLL, renT, renL_app, renl_I, renl_S, renl_U8, renl_Ty, renl_Tm, renl_Carrier, renl_Decl]; try rfl) .nil) (by simp only [ren, renL, renLL, renT, renL_app, renl_I, renl_S, renl_U8, renl_Ty, renl_Tm, renl_Carrier, renl_Decl]; try rfl) (.cons (.same _) (.cons (.same _) .nil)) (rn := .int .i64 x6) (rfl) (Hn := [.box [.str x5.name, .int .i64 x5.ty.kind, .str x5.ty.name, .slice (List.map encTy x5.ty.kids) .shared]]) ((rcons (by simp only [renO, ren, renL, renLL, renT, renL_app, renl_I, renl_S, renl_U8, renl_Ty, renl_Tm, renl_Carrier, renl_Decl]; try rfl) rfl)) ?_
          conv => whnf
          refine hK20 _ _ ?_
          refine AW.block ?_
          refine AW.seqK fun K21 hK21 => ?_
          refine AW.region τ_ok mixedO 0 ?_
          conv => whnf
          refine hK21 _ _ ?_
          refine AW.condS rfl hj3 (fun hc6 hj3 => ?_) (fun hc6 hj3 => ?_)
          · refine AW.region τ_ok mixedO 2 ?_
            conv => whnf
            refine ⟨List.map encDecl ([x5]), rfl, ?_⟩
            conv => whnf
            obtain ⟨x7, hx7, hj3⟩ := ob hj3
            refine app_tip (l := s4.2) (ys := [x5]) (f := encDecl) hx7 ok_Decl rfl rfl rfl ?_
            conv => whnf
            exact hR5 _ (Option.some.inj hj3).symm _ _ (Le.of [some 0, some 1, some 2, some 3, some 4, some 8] (Weak.mk' rfl (.u2 (.cons (.same rfl) (.cons (.unk _) (.cons (.same rfl) (.cons (.unk _) (.cons (.same rfl) (.u32 (.u16 (.u4 (.u2 (.cons (.tipS (renl_Decl _ _) rfl) (.cons (.same rfl) (.cons (.same rfl) (.u32 (.u16 .nil))))))))))))))) (.old (.box' (.cons (.share (renl_Carrier _ _)) (.cons (.share (renl_Decl _ _)) .nil))) (.old (.box' (.cons (.same rfl) (.cons (.same rfl) .nil))) (.old (.box' (.cons (.tipS (renl_Carrier _ _) rfl) (.cons (.tipS (renl_Decl _ _) rfl) .nil))) (.old (.tip _) (.old (.tip _) (.old (.tip _) .nil))))))))
          · refine AW.seqK fun K22 hK22 => ?_
            refine AW.region τ_ok mixedO 0 ?_
            conv => whnf
            obtain ⟨x8, hx8, hj3⟩ := ob hj3
            refine idx_of (l := p0.names) (f := encDecl) (cs := [.str ((x8).name), .int .i64 (((x8).ty).kind), .str (((x8).ty).name), .slice (List.map encTy (((x8).ty).kids)) .shared]) hx8 (rfl) rfl ?_
            conv => whnf
            obtain ⟨x9, hx9, hj3⟩ := ob hj3
            refine call_pur (typing_equal_ok _ _ _ _ hx9) okF_93 (.cons (.same _) (.cons (.same _) .nil)) (fun g => by simp only [ren, renL, renLL, renT, renL_app, renl_I, renl_S, renl_U8, renl_Ty, renl_Tm, renl_Carrier, renl_Decl]) (fun g => rfl) ?_
            conv => whnf
            refine ⟨rfl, ?_⟩
            conv => whnf
            refine hK22 _ _ ?_
            refine AW.condS rfl hj3 (fun hc7 hj3 => ?_) (fun hc7 hj3 => ?_)
            · refine AW.seqK fun K23 hK23 => ?_
              refine AW.region τ_ok mixedO 0 ?_
              conv => whnf
              refine hK23 _ _ ?_
              refine AW.ret ?_
              conv => whnf
              have e9 := Option.some.inj hj3
              subst e9
              dsimp only [LR.el] at hs2
              have e9 := Option.some.inj hs2
              subst e9
              dsimp only [LR.el] at h
              have e9 := Option.some.inj h
              subst e9
              refine hQ _ _ _ (retPure τ_ok (fun g => by simp only [ren, renL, renLL, renT, renL_app, renl_I, renl_S, renl_U8, renl_Ty, renl_Tm, renl_Carrier, renl_Decl]) ?_)
              conv => whnf
              try rfl
            · refine AW.skip ?_
              conv => whnf
              exact hR5 _ (Option.some.inj hj3).symm _ _ (Le.of [some 0, some 1, some 2, some 3, some 4, some 5] (Weak.mk' rfl (.u2 (.cons (.same rfl) (.cons (.unk _) (.cons (.same rfl) (.cons (.unk _) (.cons (.same rfl) (.u32 (.u16 (.u4 (.u2 (.cons (.tipS (renl_Decl _ _) rfl) (.cons (.same rfl) (.cons (.same rfl) (.u32 (.u16 .nil))))))))))))))) (.old (.box' (.cons (.share (renl_Carrier _ _)) (.cons (.share (renl_Decl _ _)) .nil))) (.old (.box' (.cons (.same rfl) (.cons (.same rfl) .nil))) (.old (.box' (.cons (.tipS (renl_Carrier _ _) rfl) (.cons (.tipS (renl_Decl _ _) rfl) .nil))) (.old (.tip _) (.old (.tip _) (.old (.tip _) .nil))))))))
        · refine AW.exit ?_
          conv => whnf
          exact hR3 _ (Option.some.inj hs2).symm _ _ (Le.of [some 1, some 2, some 4, some 5] (Weak.mk' rfl (.u4 (.cons (.same rfl) (.cons (.unk _) (.cons (.same rfl) (.u64 (.u32 (.u8 (.cons (.unk _) .nil)))))))) (.old (.box' (.cons (.same rfl) (.cons (.same rfl) .nil))) (.old (.box' (.cons (.tipS (renl_Carrier _ _) rfl) (.cons (.tipS (renl_Decl _ _) rfl) .nil))) (.old (.tip _) (.old (.tip _) .nil))))))
      refine AW.loopS (typing_Union_L1 n p0 x2) (fun (s2 : Int × (List Carrier)) => (u2 (.ptr 0 0 :: (.unk :: (.ptr 1 0 :: (.unk :: (.ptr 2 0 :: (.ptr 3 0 :: (u16 (u4 (.slice (List.map encCarrier x2.1) (.tip 4 2) :: (.int .i64 (x2.1.length : Int) :: (.int .i64 s2.1 :: (u64 (u16 (.unk :: [])))))))))))))))) (fun (s2 : Int × (List Carrier)) => [.box [.slice (List.map encCarrier p0.carriers) .shared, .slice (List.map encDecl p0.names) .shared], .box [.slice (List.map encCarrier ([] : List Carrier)) .nils, .slice (List.map encDecl ([] : List Decl)) .nils], .box [.slice (List.map encCarrier s2.2) (.tip 5 2), .slice (List.map encDecl x1.2) (.tip 6 4)], .box [.slice (List.map encCarrier x2.1) (.tip 4 2), .slice (List.map encDecl x2.2) (.tip 7 4)], .tip (List.length x2.1 * 2), .tip (List.length s2.2 * 2), .tip (List.length x1.2 * 4), .tip (List.length x2.2 * 4)]) ho1 (fun _ => rfl) (Le.of [some 0, some 2, some 7, some 8, some 5, some 3, some 4, some 6] (Weak.mk' rfl (.u2 (.cons (.same rfl) (.cons (.unk _) (.cons (.same rfl) (.cons (.unk _) (.cons (.same rfl) (.cons (.same rfl) (.u16 (.u4 (.cons (.tipS (renl_Carrier _ _) rfl) (.cons (.same rfl) (.cons (.same rfl) (.u64 (.u16 (.cons (.unk _) .nil))))))))))))))) (.old (.box' (.cons (.share (renl_Carrier _ _)) (.cons (.share (renl_Decl _ _)) .nil))) (.old (.box' (.cons (.same rfl) (.cons (.same rfl) .nil))) (.old (.box' (.cons (.tipS (renl_Carrier _ _) rfl) (.cons (.tipS (renl_Decl _ _) rfl) .nil))) (.old (.box' (.cons (.tipS (renl_Carrier _ _) rfl) (.cons (.tipS (renl_Decl _ _) rfl) .nil))) (.old (.tip _) (.old (.tip _) (.old (.tip _) (.old (.tip _) .nil)))))))))) ?_
      intro n1 s2 hs1 KL1 hKL1
      unfold typing_Union_L1 at hs1
      refine AW.seqK fun K24 hK24 => ?_
      refine AW.region τ_ok mixedO 0 ?_
      conv => whnf
      refine hK24 _ _ ?_
      refine AW.seqK fun K25 hK25 => ?_
      refine AW.condS rfl hs1 (fun hc8 hs1 => ?_) (fun hc8 hs1 => ?_)
      · refine AW.skip ?_
        conv => whnf
        refine hK25 _ _ ?_
        refine AW.seqK fun K26 hK26 => ?_
        obtain ⟨o4, hj4, hs1⟩ := ob hs1
        have hR6 : ∀ s8 : List Carrier, o4 = .nx s8 → ∀ t9 h9, Le 0 t9 h9 (u2 (.ptr 0 0 :: (.unk :: (.ptr 1 0 :: (.unk :: (.ptr 2 0 :: (.ptr 3 0 :: (u16 (u4 (.slice (List.map encCarrier x2.1) (.tip 4 2) :: (.int .i64 (x2.1.length : Int) :: (.int .i64 s2.1 :: (u64 (u16 (.unk :: []))))))))))))))) [.box [.slice (List.map encCarrier p0.carriers) .shared, .slice (List.map encDecl p0.names) .shared], .box [.slice (List.map encCarrier ([] : List Carrier)) .nils, .slice (List.map encDecl ([] : List Decl)) .nils], .box [.slice (List.map encCarrier s8) (.tip 5 2), .slice (List.map encDecl x1.2) (.tip 6 4)], .box [.slice (List.map encCarrier x2.1) (.tip 4 2), .slice (List.map encDecl x2.2) (.tip 7 4)], .tip (List.length x2.1 * 2), .tip (List.length s8 * 2), .tip (List.length x1.2 * 4), .tip (List.length x2.2 * 4)] → K26 t9 h9 := by
          intro s8 ho
          subst ho
          dsimp only [LR.el] at hs1
          intro t9 h9 hw
          refine hK26 _ _ (AW.le hw ?_)
          clear hw
          refine AW.know 30 0 fun hv3 => ?_
          refine AW.know 28 0 fun hv4 => ?_
          refine AW.region τ_ok mixedO 0 ?_
          conv => whnf
          refine ⟨(s2.1 + 1), by have := wf64 hv3; have := vfl hv4; have h8 := of_decide_eq_true hc8; exact w64_id (by omega) (by omega), ?_⟩
          conv => whnf
          exact hKL1 _ _ _ hs1 (Le.of [some 0, some 1, some 2, some 3, some 4, some 5, some 6, some 7] (Weak.mk' rfl (.u2 (.cons (.same rfl) (.cons (.unk _) (.cons (.same rfl) (.cons (.unk _) (.cons (.same rfl) (.cons (.same rfl) (.u16 (.u4 (.cons (.tipS (renl_Carrier _ _) rfl) (.cons (.same rfl) (.cons (.same rfl) (.u64 (.u16 (.cons (.unk _) .nil))))))))))))))) (.old (.box' (.cons (.share (renl_Carrier _ _)) (.cons (.share (renl_Decl _ _)) .nil))) (.old (.box' (.cons (.same rfl) (.cons (.same rfl) .nil))) (.old (.box' (.cons (.tipS (renl_Carrier _ _) rfl) (.cons (.tipS (renl_Decl _ _) rfl) .nil))) (.old (.box' (.cons (.tipS (renl_Carrier _ _) rfl) (.cons (.tipS (renl_Decl _ _) rfl) .nil))) (.old (.tip _) (.old (.tip _) (.old (.tip _) (.old (.tip _) .nil))))))))))
        refine AW.block ?_
        refine AW.seqK fun K27 hK27 => ?_
        refine AW.region τ_ok mixedO 1 ?_
        conv => whnf
        obtain ⟨x10, hx10, hj4⟩ := ob hj4
        refine idx_of (l := x2.1) (f := encCarrier) (cs := [.str ((x10).name), .slice (List.map encS ((x10).elems)) .shared]) hx10 (rfl) rfl ?_
        conv => whnf
        refine hK27 _ _ ?_
        refine AW.seqK fun K28 hK28 => ?_
        refine AW.region τ_ok mixedO 0 ?_
        conv => whnf
        obtain ⟨x11, hx11, hj4⟩ := ob hj4
        refine call_gen [8] [] [.slice (List.map encCarrier p0.carriers) .shared, .func 124 [.ptr 0 0]] [.slice (List.map encCarrier p0.carriers) .shared, .func 124 [.ptr 8 0]] (slices_IndexFunc_Carrier_1_ok _ _ _ _ _ hx11) okF_123 rfl (.cons (by simp only [renO, ren, renL, renLL, renT, renL_app, renl_I, renl_S, renl_U8, renl_Ty, renl_Tm, renl_Carrier, renl_Decl]; try rfl) .nil) (by simp only [ren, renL, renLL, renT, renL_app, renl_I, renl_S, renl_U8, renl_Ty, renl_Tm, renl_Carrier, renl_Decl]; try rfl) (.cons (.same _) (.cons (.same _) .nil)) (rn := .int .i64 x11) (rfl) (Hn := [.box [.str x10.name, .slice (List.map encS x10.elems) .shared]]) ((rcons (by simp only [renO, ren, renL, renLL, renT, renL_app, renl_I, renl_S, renl_U8, renl_Ty, renl_Tm, renl_Carrier, renl_Decl]; try rfl) rfl)) ?_
        conv => whnf
        refine hK28 _ _ ?_
        refine AW.block ?_
        refine AW.seqK fun K29 hK29 => ?_
        refine AW.region τ_ok mixedO 0 ?_
        conv => whnf
        refine hK29 _ _ ?_
        refine AW.condS rfl hj4 (fun hc9 hj4 => ?_) (fun hc9 hj4 => ?_)
        · refine AW.region τ_ok mixedO 2 ?_
          conv => whnf
          refine ⟨List.map encCarrier ([x10]), rfl, ?_⟩
          conv => whnf
          obtain ⟨x12, hx12, hj4⟩ := ob hj4
          refine app_tip (l := s2.2) (ys := [x10]) (f := encCarrier) hx12 ok_Carrier rfl rfl rfl ?_
          conv => whnf
          exact hR6 _ (Option.some.inj hj4).symm _ _ (Le.of [some 0, some 1, some 2, some 3, some 4, some 10, some 6, some 7] (Weak.mk' rfl (.u2 (.cons (.same rfl) (.cons (.unk _) (.cons (.same rfl) (.cons (.unk _) (.cons (.same rfl) (.cons (.same rfl) (.u16 (.u4 (.cons (.tipS (renl_Carrier _ _) rfl) (.cons (.same rfl) (.cons (.same rfl) (.u64 (.u16 (.cons (.unk _) .nil))))))))))))))) (.old (.box' (.cons (.share (renl_Carrier _ _)) (.cons (.share (renl_Decl _ _)) .nil))) (.old (.box' (.cons (.same rfl) (.cons (.same rfl) .nil))) (.old (.box' (.cons (.tipS (renl_Carrier _ _) rfl) (.cons (.tipS (renl_Decl _ _) rfl) .nil))) (.old (.box' (.cons (.tipS (renl_Carrier _ _) rfl) (.cons (.tipS (renl_Decl _ _) rfl) .nil))) (.old (.tip _) (.old (.tip _) (.old (.tip _) (.old (.tip _) .nil))))))))))
        · refine AW.seqK fun K30 hK30 => ?_
          refine AW.region τ_ok mixedO 0 ?_
          conv => whnf
          obtain ⟨x13, hx13, hj4⟩ := ob hj4
          refine idx_of (l := p0.carriers) (f := encCarrier) (cs := [.str ((x13).name), .slice (List.map encS ((x13).elems)) .shared]) hx13 (rfl) rfl ?_
          conv => whnf
          obtain ⟨x14, hx14, hj4⟩ := ob hj4
          refine call_pur (slices_Equal_string_ok _ _ _ _ hx14) okF_125 (.cons (.same _) (.cons (.same _) .nil)) (fun g => by simp only [ren, renL, renLL, renT, renL_app, renl_I, renl_S, renl_U8, renl_Ty, renl_Tm, renl_Carrier, renl_Decl]) (fun g => rfl) ?_
          conv => whnf
          refine ⟨rfl, ?_⟩
          conv => whnf
          refine hK30 _ _ ?_
          refine AW.condS rfl hj4 (fun hc10 hj4 => ?_) (fun hc10 hj4 => ?_)
          · refine AW.seqK fun K31 hK31 => ?_
            refine AW.region τ_ok mixedO 0 ?_
            conv => whnf
            refine hK31 _ _ ?_
            refine AW.ret ?_
            conv => whnf
            have e9 := Option.some.inj hj4
            subst e9
            dsimp only [LR.el] at hs1
            have e9 := Option.some.inj hs1
            subst e9
            dsimp only [LR.el] at h
            have e9 := Option.some.inj h
            subst e9
            refine hQ _ _ _ (retPure τ_ok (fun g => by simp only [ren, renL, renLL, renT, renL_app, renl_I, renl_S, renl_U8, renl_Ty, renl_Tm, renl_Carrier, renl_Decl]) ?_)
            conv => whnf
            try rfl
          · refine AW.skip ?_
            conv => whnf
            exact hR6 _ (Option.some.inj hj4).symm _ _ (Le.of [some 0, some 1, some 2, some 3, some 4, some 5, some 6, some 7] (Weak.mk' rfl (.u2 (.cons (.same rfl) (.cons (.unk _) (.cons (.same rfl) (.cons (.unk _) (.cons (.same rfl) (.cons (.same rfl) (.u16 (.u4 (.cons (.tipS (renl_Carrier _ _) rfl) (.cons (.same rfl) (.cons (.same rfl) (.u64 (.u16 (.cons (.unk _) .nil))))))))))))))) (.old (.box' (.cons (.share (renl_Carrier _ _)) (.cons (.share (renl_Decl _ _)) .nil))) (.old (.box' (.cons (.same rfl) (.cons (.same rfl) .nil))) (.old (.box' (.cons (.tipS (renl_Carrier _ _) rfl) (.cons (.tipS (renl_Decl _ _) rfl) .nil))) (.old (.box' (.cons (.tipS (renl_Carrier _ _) rfl) (.cons (.tipS (renl_Decl _ _) rfl) .nil))) (.old (.tip _) (.old (.tip _) (.old (.tip _) (.old (.tip _) .nil))))))))))
      · refine AW.exit ?_
        conv => whnf
        exact hR2 _ (Option.some.inj hs1).symm _ _ (Le.of [some 0, some 1, some 2, some 3, some 5, some 6, some 4, some 7] (Weak.mk' rfl (.u2 (.cons (.same rfl) (.cons (.unk _) (.cons (.same rfl) (.cons (.unk _) (.cons (.same rfl) (.cons (.same rfl) (.u64 (.u32 (.u8 .nil)))))))))) (.old (.box' (.cons (.share (renl_Carrier _ _)) (.cons (.share (renl_Decl _ _)) .nil))) (.old (.box' (.cons (.same rfl) (.cons (.same rfl) .nil))) (.old (.box' (.cons (.tipS (renl_Carrier _ _) rfl) (.cons (.tipS (renl_Decl _ _) rfl) .nil))) (.old (.box' (.cons (.tipS (renl_Carrier _ _) rfl) (.cons (.tipS (renl_Decl _ _) rfl) .nil))) (.old (.tip _) (.old (.tip _) (.old (.tip _) (.old (.tip _) .nil))))))))))
  refine AW.region τ_ok mixedO 0 ?_
  conv => whnf
  obtain ⟨x15, hx15, hj1⟩ := ob hj1
  refine call_pur (typing_ValidEnv_ok _ _ _ hx15) okF_55 (.cons (.same _) .nil) (fun g => by simp only [ren, renL, renLL, renT, renL_app, renl_I, renl_S, renl_U8, renl_Ty, renl_Tm, renl_Carrier, renl_Decl]) (fun g => rfl) ?_
  conv => whnf
  refine onB_cond hj1 (fun hc11 hj1 => ?_) (fun hc11 hj1 => ?_)
  · conv => whnf
    cases hj1
    exact hR1 _ _ (Le.of [some 0, some 1, some 2] (Weak.mk' rfl (.u2 (.cons (.same rfl) (.cons (.same rfl) (.cons (.same rfl) (.u16 (.cons (.same rfl) (.u64 (.u16 (.u8 (.u2 .nil)))))))))) (.old (.box' (.cons (.share (renl_Carrier _ _)) (.cons (.share (renl_Decl _ _)) .nil))) (.old (.box' (.cons (.share (renl_Carrier _ _)) (.cons (.share (renl_Decl _ _)) .nil))) (.old (.box' (.cons (.same rfl) (.cons (.same rfl) .nil))) .nil)))))
  · conv => whnf
    obtain ⟨x16, hx16, hj1⟩ := ob hj1
    refine call_pur (typing_ValidEnv_ok _ _ _ hx16) okF_55 (.cons (.same _) .nil) (fun g => by simp only [ren, renL, renLL, renT, renL_app, renl_I, renl_S, renl_U8, renl_Ty, renl_Tm, renl_Carrier, renl_Decl]) (fun g => rfl) ?_
    conv => whnf
    cases hj1
    exact hR1 _ _ (Le.of [some 0, some 1, some 2] (Weak.mk' rfl (.u2 (.cons (.same rfl) (.cons (.same rfl) (.cons (.same rfl) (.u16 (.cons (.same rfl) (.u64 (.u16 (.u8 (.u2 .nil)))))))))) (.old (.box' (.cons (.share (renl_Carrier _ _)) (.cons (.share (renl_Decl _ _)) .nil))) (.old (.box' (.cons (.share (renl_Carrier _ _)) (.cons (.share (renl_Decl _ _)) .nil))) (.old (.box' (.cons (.same rfl) (.cons (.same rfl) .nil))) .nil)))))
end Abs
end Go.Proofs.YtiiaccpcoclklaaGreat
