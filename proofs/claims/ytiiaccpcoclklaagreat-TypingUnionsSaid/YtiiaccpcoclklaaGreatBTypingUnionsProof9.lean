/-
  Plain functions and the contracts of Go functions by them (printed by gen.py). Conditions: none. Plain functions and the contracts of Go functions by them (printed by gen.py). Conditions: none.
-/
import Derived.Test.YtiiaccpcoclklaaGreatBTypingUnionsProof5
import Derived.Test.YtiiaccpcoclklaaGreatBTypingUnionsProof8
import Derived.KernelRfl
set_option linter.unusedSimpArgs false
set_option linter.unusedVariables false
namespace Go.Proofs.YtiiaccpcoclklaaGreat
namespace Abs
open Go Go.Proofs
def typing_names_L2 (n : Nat) (x3 : Carrier) : Nat → (Int × (List (Str × Ty))) → Option (LR (List (Str × Ty)) (List (Str × Ty)))
  | 0, _ => none
  | k + 1, s5 => (cond (decide (s5.1 < (x3.elems.length : Int))) ((idx x3.elems s5.1).bind fun (x5 : Str) => ((mput s5.2 x5 (Ty.mk 3 x3.name ([]))).bind fun (x6 : List (Str × Ty)) => typing_names_L2 n x3 k ((s5.1 + 1), x6))) (some (.nx s5.2)))
def typing_names_L1 (n : Nat) (p0 : Env) : Nat → (Int × (List (Str × Ty))) → Option (LR (List (Str × Ty)) (List (Str × Ty)))
  | 0, _ => none
  | k + 1, s1 => (cond (decide (s1.1 < (p0.carriers.length : Int))) ((idx p0.carriers s1.1).bind fun (x3 : Carrier) => ((mput s1.2 x3.name (Ty.mk 5 ([] : Str) ([(Ty.mk 3 x3.name ([]))]))).bind fun (x4 : List (Str × Ty)) => ((typing_names_L2 n x3 n (0, x4)).bind (LR.el (fun (s6 : List (Str × Ty)) => typing_names_L1 n p0 k ((s1.1 + 1), s6)) (fun r => some (.rt r)))))) (some (.nx s1.2)))
def typing_names_L0 (n : Nat) (p0 : Env) : Nat → (Int × (List (Str × Ty))) → Option (LR (List (Str × Ty)) (List (Str × Ty)))
  | 0, _ => none
  | k + 1, s3 => (cond (decide (s3.1 < (p0.names.length : Int))) ((idx p0.names s3.1).bind fun (x1 : Decl) => ((mput s3.2 x1.name x1.ty).bind fun (x2 : List (Str × Ty)) => typing_names_L0 n p0 k ((s3.1 + 1), x2))) (some (.nx s3.2)))
def typing_names (n : Nat) (p0 : Env) : Option (List (Str × Ty)) := ((typing_names_L1 n p0 n (0, ([] : List (Str × Ty)))).bind (LR.el (fun (s2 : List (Str × Ty)) => ((typing_names_L0 n p0 n (0, s2)).bind (LR.el (fun (s4 : List (Str × Ty)) => some s4) (fun r => some r)))) (fun r => some r)))
set_option maxRecDepth 100000 in
set_option maxHeartbeats 40000000 in
theorem typing_names_ok (n : Nat) (p0 : Env) (r : List (Str × Ty)) (h : typing_names n p0 = some r) : ACalls Tryz.prog 110 [.agg [.slice (List.map encCarrier p0.carriers) .shared, .slice (List.map encDecl p0.names) .shared]] [] (.mapr 0) [.mp (List.map (fun p => (p.1, (fun (x : Ty) => .agg [.int .i64 x.kind, .str x.name, .slice (List.map encTy x.kids) .shared]) p.2)) r)] := by
  unfold typing_names at h
  refine acalls_start false Tryz.func110 rfl (by rw [Tryz.ntmps110]; exact Nat.le_of_ble_eq_true rfl) fun Q hQ t ht => ?_
  conv at ht => whnf
  subst ht
  refine AW.seqK fun K1 hK1 => ?_
  refine AW.region τ_ok mixedO 1 ?_
  conv => whnf
  refine hK1 _ _ ?_
  refine AW.seqK fun K2 hK2 => ?_
  refine AW.region τ_ok mixedO 1 ?_
  conv => whnf
  refine hK2 _ _ ?_
  refine AW.seqK fun K3 hK3 => ?_
  refine AW.seqK fun K4 hK4 => ?_
  refine AW.region τ_ok mixedO 0 ?_
  conv => whnf
  refine len_of (l := p0.carriers) (f := encCarrier) ?_
  conv => whnf
  refine hK4 _ _ ?_
  refine AW.block ?_
  obtain ⟨o1, ho1, h⟩ := ob h
  have hR1 : ∀ s2 : List (Str × Ty), o1 = .nx s2 → ∀ t9 h9, Le 0 t9 h9 (.unk :: (.ptr 0 0 :: (.unk :: (.mapr 1 :: (u32 (u16 (.unk :: []))))))) [.box [.slice (List.map encCarrier p0.carriers) .shared, .slice (List.map encDecl p0.names) .shared], .mp (List.map (fun p => (p.1, (fun (x : Ty) => .agg [.int .i64 x.kind, .str x.name, .slice (List.map encTy x.kids) .shared]) p.2)) s2)] → K3 t9 h9 := by
    intro s2 ho
    subst ho
    dsimp only [LR.el] at h
    intro t9 h9 hw
    refine hK3 _ _ (AW.le hw ?_)
    refine AW.seqK fun K5 hK5 => ?_
    refine AW.seqK fun K6 hK6 => ?_
    refine AW.region τ_ok mixedO 0 ?_
    conv => whnf
    refine len_of (l := p0.names) (f := encDecl) ?_
    conv => whnf
    refine hK6 _ _ ?_
    refine AW.block ?_
    obtain ⟨o2, ho2, h⟩ := ob h
    have hR2 : ∀ s4 : List (Str × Ty), o2 = .nx s4 → ∀ t9 h9, Le 0 t9 h9 (u2 (.unk :: (.mapr 0 :: (u32 (u16 (.unk :: [])))))) [.mp (List.map (fun p => (p.1, (fun (x : Ty) => .agg [.int .i64 x.kind, .str x.name, .slice (List.map encTy x.kids) .shared]) p.2)) s4)] → K5 t9 h9 := by
      intro s4 ho
      subst ho
      dsimp only [LR.el] at h
      intro t9 h9 hw
      refine hK5 _ _ (AW.le hw ?_)
      refine AW.seqK fun K7 hK7 => ?_
      refine AW.region τ_ok mixedO 0 ?_
      conv => whnf
      refine hK7 _ _ ?_
      refine AW.ret ?_
      conv => whnf
      have e9 := Option.some.inj h
      subst e9
      refine hQ _ _ _ (retW (u2 (.mapr 0 :: (u32 (u16 (u2 []))))) [.mp (List.map (fun p => (p.1, (fun (x : Ty) => .agg [.int .i64 x.kind, .str x.name, .slice (List.map encTy x.kids) .shared]) p.2)) s4)] (Le.of [some 0] (Weak.mk' rfl (.u2 (.cons (.same rfl) (.u32 (.u16 (.u2 .nil))))) (.old (.same rfl (congrArg AObj.mp (renm (f := (fun (x : Ty) => .agg [.int .i64 x.kind, .str x.name, .slice (List.map encTy x.kids) .shared])) (fun g x => by simp only [ren, renL, renLL, renT, renL_app, renl_I, renl_S, renl_U8, renl_Ty, renl_Tm, renl_Carrier, renl_Decl]) _ _))) .nil))) (retObj τ_ok [0] rfl (.cons (congrArg AObj.mp (renm (f := (fun (x : Ty) => .agg [.int .i64 x.kind, .str x.name, .slice (List.map encTy x.kids) .shared])) (fun g x => by simp only [ren, renL, renLL, renT, renL_app, renl_I, renl_S, renl_U8, renl_Ty, renl_Tm, renl_Carrier, renl_Decl]) _ _)) .nil) ?_))
      conv => whnf
      first | rfl | (simp only [ren, renL, renLL, renT, renL_app, renl_I, renl_S, renl_U8, renl_Ty, renl_Tm, renl_Carrier, renl_Decl]; done) | (simp only [ren, renL, renLL, renT, renL_app, renl_I, renl_S, renl_U8, renl_Ty, renl_Tm, renl_Carrier, renl_Decl]; rfl)
    refine AW.loopS (typing_names_L0 n p0) (fun (s3 : Int × (List (Str × Ty))) => (u2 (.unk :: (.mapr 0 :: (u32 (u4 (.slice (List.map encDecl p0.names) .shared :: (.int .i64 (p0.names.length : Int) :: (.int .i64 s3.1 :: (u8 (u2 []))))))))))) (fun (s3 : Int × (List (Str × Ty))) => [.mp (List.map (fun p => (p.1, (fun (x : Ty) => .agg [.int .i64 x.kind, .str x.name, .slice (List.map encTy x.kids) .shared]) p.2)) s3.2)]) ho2 (fun _ => rfl) (Le.of [some 1] (Weak.mk' rfl (.u2 (.cons (.unk _) (.cons (.same rfl) (.u32 (.u4 (.cons (.share (renl_Decl _ _)) (.cons (.same rfl) (.cons (.same rfl) (.u8 (.u2 .nil)))))))))) (.old (.same rfl (congrArg AObj.mp (renm (f := (fun (x : Ty) => .agg [.int .i64 x.kind, .str x.name, .slice (List.map encTy x.kids) .shared])) (fun g x => by simp only [ren, renL, renLL, renT, renL_app, renl_I, renl_S, renl_U8, renl_Ty, renl_Tm, renl_Carrier, renl_Decl]) _ _))) .nil))) ?_
    intro n2 s3 hs2 KL2 hKL2
    unfold typing_names_L0 at hs2
    refine AW.seqK fun K8 hK8 => ?_
    refine AW.region τ_ok mixedO 0 ?_
    conv => whnf
    refine hK8 _ _ ?_
    refine AW.seqK fun K9 hK9 => ?_
    refine AW.condS rfl hs2 (fun hc1 hs2 => ?_) (fun hc1 hs2 => ?_)
    · refine AW.skip ?_
      conv => whnf
      refine hK9 _ _ ?_
      refine AW.seqK fun K10 hK10 => ?_
      refine AW.block ?_
      refine AW.seqK fun K11 hK11 => ?_
      refine AW.region τ_ok mixedO 1 ?_
      conv => whnf
      obtain ⟨x1, hx1, hs2⟩ := ob hs2
      refine idx_of (l := p0.names) (f := encDecl) (cs := [.str ((x1).name), .int .i64 (((x1).ty).kind), .str (((x1).ty).name), .slice (List.map encTy (((x1).ty).kids)) .shared]) hx1 (rfl) rfl ?_
      conv => whnf
      refine hK11 _ _ ?_
      refine AW.region τ_ok mixedO 0 ?_
      conv => whnf
      obtain ⟨x2, hx2, hs2⟩ := ob hs2
      refine put_of (m := s3.2) (f := (fun (x : Ty) => .agg [.int .i64 x.kind, .str x.name, .slice (List.map encTy x.kids) .shared])) hx2 rfl ?_
      conv => whnf
      refine hK10 _ _ ?_
      refine AW.know 42 0 fun hv1 => ?_
      refine AW.know 40 0 fun hv2 => ?_
      refine AW.region τ_ok mixedO 0 ?_
      conv => whnf
      refine ⟨(s3.1 + 1), by have := wf64 hv1; have := vfl hv2; have h8 := of_decide_eq_true hc1; exact w64_id (by omega) (by omega), ?_⟩
      conv => whnf
      exact hKL2 _ _ _ hs2 (Le.of [some 0] (Weak.mk' rfl (.u2 (.cons (.unk _) (.cons (.same rfl) (.u32 (.u4 (.cons (.share (renl_Decl _ _)) (.cons (.same rfl) (.cons (.same rfl) (.u8 (.u2 .nil)))))))))) (.old (.same rfl (congrArg AObj.mp (renm (f := (fun (x : Ty) => .agg [.int .i64 x.kind, .str x.name, .slice (List.map encTy x.kids) .shared])) (fun g x => by simp only [ren, renL, renLL, renT, renL_app, renl_I, renl_S, renl_U8, renl_Ty, renl_Tm, renl_Carrier, renl_Decl]) _ _))) .nil)))
    · refine AW.exit ?_
      conv => whnf
      exact hR2 _ (Option.some.inj hs2).symm _ _ (Le.of [some 0] (Weak.mk' rfl (.u2 (.cons (.unk _) (.cons (.same rfl) (.u32 (.u16 (.cons (.unk _) .nil)))))) (.old (.same rfl (congrArg AObj.mp (renm (f := (fun (x : Ty) => .agg [.int .i64 x.kind, .str x.name, .slice (List.map encTy x.kids) .shared])) (fun g x => by simp only [ren, renL, renLL, renT, renL_app, renl_I, renl_S, renl_U8, renl_Ty, renl_Tm, renl_Carrier, renl_Decl]) _ _))) .nil)))
  refine AW.loopS (typing_names_L1 n p0) (fun (s1 : Int × (List (Str × Ty))) => (.unk :: (.ptr 0 0 :: (.unk :: (.mapr 1 :: (u8 (.unk :: (.slice (List.map encCarrier p0.carriers) .shared :: (.int .i64 (p0.carriers.length : Int) :: (.int .i64 s1.1 :: (u32 (u4 (.unk :: []))))))))))))) (fun (s1 : Int × (List (Str × Ty))) => [.box [.slice (List.map encCarrier p0.carriers) .shared, .slice (List.map encDecl p0.names) .shared], .mp (List.map (fun p => (p.1, (fun (x : Ty) => .agg [.int .i64 x.kind, .str x.name, .slice (List.map encTy x.kids) .shared]) p.2)) s1.2)]) ho1 (fun _ => rfl) (Le.of [some 0, some 1] (Weak.mk' rfl (.cons (.unk _) (.cons (.same rfl) (.cons (.unk _) (.cons (.same rfl) (.u8 (.cons (.unk _) (.cons (.share (renl_Carrier _ _)) (.cons (.same rfl) (.cons (.same rfl) (.u32 (.u4 (.cons (.unk _) .nil)))))))))))) (.old (.box' (.cons (.share (renl_Carrier _ _)) (.cons (.share (renl_Decl _ _)) .nil))) (.old (.same rfl (congrArg AObj.mp (renm (f := (fun (x : Ty) => .agg [.int .i64 x.kind, .str x.name, .slice (List.map encTy x.kids) .shared])) (fun g x => by simp only [ren, renL, renLL, renT, renL_app, renl_I, renl_S, renl_U8, renl_Ty, renl_Tm, renl_Carrier, renl_Decl]) _ _))) .nil)))) ?_
  intro n1 s1 hs1 KL1 hKL1
  unfold typing_names_L1 at hs1
  refine AW.seqK fun K12 hK12 => ?_
  refine AW.region τ_ok mixedO 0 ?_
  conv => whnf
  refine hK12 _ _ ?_
  refine AW.seqK fun K13 hK13 => ?_
  refine AW.condS rfl hs1 (fun hc2 hs1 => ?_) (fun hc2 hs1 => ?_)
  · refine AW.skip ?_
    conv => whnf
    refine hK13 _ _ ?_
    refine AW.seqK fun K14 hK14 => ?_
    refine AW.block ?_
    refine AW.seqK fun K15 hK15 => ?_
    refine AW.region τ_ok mixedO 1 ?_
    conv => whnf
    obtain ⟨x3, hx3, hs1⟩ := ob hs1
    refine idx_of (l := p0.carriers) (f := encCarrier) (cs := [.str ((x3).name), .slice (List.map encS ((x3).elems)) .shared]) hx3 (rfl) rfl ?_
    conv => whnf
    refine hK15 _ _ ?_
    refine AW.seqK fun K16 hK16 => ?_
    refine AW.region τ_ok mixedO 1 ?_
    conv => whnf
    refine hK16 _ _ ?_
    refine AW.seqK fun K17 hK17 => ?_
    refine AW.region τ_ok mixedO 0 ?_
    conv => whnf
    refine call_pur (typing_setOf_ok 0 (Ty.mk 3 x3.name ([])) _ rfl) okF_138 (.cons (.agg' (.cons (.same _) (.cons (.same _) (.cons (.share _ _) .nil)))) .nil) (fun g => by simp only [ren, renL, renLL, renT, renL_app, renl_I, renl_S, renl_U8, renl_Ty, renl_Tm, renl_Carrier, renl_Decl]) (fun g => by simp only [ren, renL, renLL, renT, renL_app, renl_I, renl_S, renl_U8, renl_Ty, renl_Tm, renl_Carrier, renl_Decl]) ?_
    conv => whnf
    obtain ⟨x4, hx4, hs1⟩ := ob hs1
    refine put_of (m := s1.2) (f := (fun (x : Ty) => .agg [.int .i64 x.kind, .str x.name, .slice (List.map encTy x.kids) .shared])) hx4 rfl ?_
    conv => whnf
    refine ⟨rfl, ?_⟩
    conv => whnf
    refine hK17 _ _ ?_
    refine AW.seqK fun K18 hK18 => ?_
    refine AW.region τ_ok mixedO 0 ?_
    conv => whnf
    refine len_of (l := x3.elems) (f := encS) ?_
    conv => whnf
    refine hK18 _ _ ?_
    refine AW.block ?_
    obtain ⟨o3, ho3, hs1⟩ := ob hs1
    have hR3 : ∀ s6 : List (Str × Ty), o3 = .nx s6 → ∀ t9 h9, Le 0 t9 h9 (.unk :: (.ptr 0 0 :: (.unk :: (.mapr 1 :: (u8 (.unk :: (.slice (List.map encCarrier p0.carriers) .shared :: (.int .i64 (p0.carriers.length : Int) :: (.int .i64 s1.1 :: (u32 (u4 (.unk :: [])))))))))))) [.box [.slice (List.map encCarrier p0.carriers) .shared, .slice (List.map encDecl p0.names) .shared], .mp (List.map (fun p => (p.1, (fun (x : Ty) => .agg [.int .i64 x.kind, .str x.name, .slice (List.map encTy x.kids) .shared]) p.2)) s6)] → K14 t9 h9 := by
      intro s6 ho
      subst ho
      dsimp only [LR.el] at hs1
      intro t9 h9 hw
      refine hK14 _ _ (AW.le hw ?_)
      refine AW.know 15 0 fun hv3 => ?_
      refine AW.know 13 0 fun hv4 => ?_
      refine AW.region τ_ok mixedO 0 ?_
      conv => whnf
      refine ⟨(s1.1 + 1), by have := wf64 hv3; have := vfl hv4; have h8 := of_decide_eq_true hc2; exact w64_id (by omega) (by omega), ?_⟩
      conv => whnf
      exact hKL1 _ _ _ hs1 (Le.of [some 0, some 1] (Weak.mk' rfl (.cons (.unk _) (.cons (.same rfl) (.cons (.unk _) (.cons (.same rfl) (.u8 (.cons (.unk _) (.cons (.share (renl_Carrier _ _)) (.cons (.same rfl) (.cons (.same rfl) (.u32 (.u4 (.cons (.unk _) .nil)))))))))))) (.old (.box' (.cons (.share (renl_Carrier _ _)) (.cons (.share (renl_Decl _ _)) .nil))) (.old (.same rfl (congrArg AObj.mp (renm (f := (fun (x : Ty) => .agg [.int .i64 x.kind, .str x.name, .slice (List.map encTy x.kids) .shared])) (fun g x => by simp only [ren, renL, renLL, renT, renL_app, renl_I, renl_S, renl_U8, renl_Ty, renl_Tm, renl_Carrier, renl_Decl]) _ _))) .nil))))
    refine AW.loopS (typing_names_L2 n x3) (fun (s5 : Int × (List (Str × Ty))) => (.unk :: (.ptr 0 0 :: (.unk :: (.mapr 1 :: (u2 (.ptr 2 0 :: (u4 (u2 (.slice (List.map encCarrier p0.carriers) .shared :: (.int .i64 (p0.carriers.length : Int) :: (.int .i64 s1.1 :: (u8 (u4 (.slice (List.map encS x3.elems) .shared :: (.int .i64 (x3.elems.length : Int) :: (.int .i64 s5.1 :: (u16 (u4 (u2 [])))))))))))))))))))) (fun (s5 : Int × (List (Str × Ty))) => [.box [.slice (List.map encCarrier p0.carriers) .shared, .slice (List.map encDecl p0.names) .shared], .mp (List.map (fun p => (p.1, (fun (x : Ty) => .agg [.int .i64 x.kind, .str x.name, .slice (List.map encTy x.kids) .shared]) p.2)) s5.2), .box [.int .i64 3, .str x3.name, .slice (List.map encTy ([] : List Ty)) .nils]]) ho3 (fun _ => rfl) (Le.of [some 0, some 1, some 3] (Weak.mk' rfl (.cons (.unk _) (.cons (.same rfl) (.cons (.unk _) (.cons (.same rfl) (.u2 (.cons (.same rfl) (.u4 (.u2 (.cons (.share (renl_Carrier _ _)) (.cons (.same rfl) (.cons (.same rfl) (.u8 (.u4 (.cons (.share (renl_S _ _)) (.cons (.same rfl) (.cons (.same rfl) (.u16 (.u4 (.u2 .nil))))))))))))))))))) (.old (.box' (.cons (.share (renl_Carrier _ _)) (.cons (.share (renl_Decl _ _)) .nil))) (.old (.same rfl (congrArg AObj.mp (renm (f := (fun (x : Ty) => .agg [.int .i64 x.kind, .str x.name, .slice (List.map encTy x.kids) .shared])) (fun g x => by simp only [ren, renL, renLL, renT, renL_app, renl_I, renl_S, renl_U8, renl_Ty, renl_Tm, renl_Carrier, renl_Decl]) _ _))) (.old (.box' (.cons (.same rfl) (.cons (.same rfl) (.cons (.same rfl) .nil)))) .nil))))) ?_
    intro n3 s5 hs3 KL3 hKL3
    unfold typing_names_L2 at hs3
    refine AW.seqK fun K19 hK19 => ?_
    refine AW.region τ_ok mixedO 0 ?_
    conv => whnf
    refine hK19 _ _ ?_
    refine AW.seqK fun K20 hK20 => ?_
    refine AW.condS rfl hs3 (fun hc3 hs3 => ?_) (fun hc3 hs3 => ?_)
    · refine AW.skip ?_
      conv => whnf
      refine hK20 _ _ ?_
      refine AW.seqK fun K21 hK21 => ?_
      refine AW.block ?_
      refine AW.seqK fun K22 hK22 => ?_
      refine AW.region τ_ok mixedO 0 ?_
      conv => whnf
      obtain ⟨x5, hx5, hs3⟩ := ob hs3
      refine idx_of (l := x3.elems) (f := encS) (cs := [.str (x5)]) hx5 (rfl) rfl ?_
      conv => whnf
      refine hK22 _ _ ?_
      refine AW.region τ_ok mixedO 0 ?_
      conv => whnf
      obtain ⟨x6, hx6, hs3⟩ := ob hs3
      refine put_of (m := s5.2) (f := (fun (x : Ty) => .agg [.int .i64 x.kind, .str x.name, .slice (List.map encTy x.kids) .shared])) hx6 rfl ?_
      conv => whnf
      refine hK21 _ _ ?_
      refine AW.know 30 0 fun hv5 => ?_
      refine AW.know 28 0 fun hv6 => ?_
      refine AW.region τ_ok mixedO 0 ?_
      conv => whnf
      refine ⟨(s5.1 + 1), by have := wf64 hv5; have := vfl hv6; have h8 := of_decide_eq_true hc3; exact w64_id (by omega) (by omega), ?_⟩
      conv => whnf
      exact hKL3 _ _ _ hs3 (Le.of [some 0, some 1, some 2] (Weak.mk' rfl (.cons (.unk _) (.cons (.same rfl) (.cons (.unk _) (.cons (.same rfl) (.u2 (.cons (.same rfl) (.u4 (.u2 (.cons (.share (renl_Carrier _ _)) (.cons (.same rfl) (.cons (.same rfl) (.u8 (.u4 (.cons (.share (renl_S _ _)) (.cons (.same rfl) (.cons (.same rfl) (.u16 (.u4 (.u2 .nil))))))))))))))))))) (.old (.box' (.cons (.share (renl_Carrier _ _)) (.cons (.share (renl_Decl _ _)) .nil))) (.old (.same rfl (congrArg AObj.mp (renm (f := (fun (x : Ty) => .agg [.int .i64 x.kind, .str x.name, .slice (List.map encTy x.kids) .shared])) (fun g x => by simp only [ren, renL, renLL, renT, renL_app, renl_I, renl_S, renl_U8, renl_Ty, renl_Tm, renl_Carrier, renl_Decl]) _ _))) (.old (.box' (.cons (.same rfl) (.cons (.same rfl) (.cons (.same rfl) .nil)))) .nil)))))
    · refine AW.exit ?_
      conv => whnf
      exact hR3 _ (Option.some.inj hs3).symm _ _ (Le.of [some 0, some 1] (Weak.mk' rfl (.cons (.unk _) (.cons (.same rfl) (.cons (.unk _) (.cons (.same rfl) (.u8 (.cons (.unk _) (.cons (.share (renl_Carrier _ _)) (.cons (.same rfl) (.cons (.same rfl) (.u32 (.u4 (.cons (.unk _) .nil)))))))))))) (.old (.box' (.cons (.share (renl_Carrier _ _)) (.cons (.share (renl_Decl _ _)) .nil))) (.old (.same rfl (congrArg AObj.mp (renm (f := (fun (x : Ty) => .agg [.int .i64 x.kind, .str x.name, .slice (List.map encTy x.kids) .shared])) (fun g x => by simp only [ren, renL, renLL, renT, renL_app, renl_I, renl_S, renl_U8, renl_Ty, renl_Tm, renl_Carrier, renl_Decl]) _ _))) .nil))))
  · refine AW.exit ?_
    conv => whnf
    exact hR1 _ (Option.some.inj hs1).symm _ _ (Le.of [some 0, some 1] (Weak.mk' rfl (.cons (.unk _) (.cons (.same rfl) (.cons (.unk _) (.cons (.same rfl) (.u32 (.u16 (.cons (.unk _) .nil))))))) (.old (.box' (.cons (.share (renl_Carrier _ _)) (.cons (.share (renl_Decl _ _)) .nil))) (.old (.same rfl (congrArg AObj.mp (renm (f := (fun (x : Ty) => .agg [.int .i64 x.kind, .str x.name, .slice (List.map encTy x.kids) .shared])) (fun g x => by simp only [ren, renL, renLL, renT, renL_app, renl_I, renl_S, renl_U8, renl_Ty, renl_Tm, renl_Carrier, renl_Decl]) _ _))) .nil))))
def typing_copyType_L0 (n : Nat) (rec_typing_copyType : Ty → Option Ty) (p0 : Ty) : Nat → (Int × (List Ty)) → Option (LR (List Ty) Ty)
  | 0, _ => none
  | k + 1, s1 => (cond (decide (s1.1 < (p0.kids.length : Int))) ((idx p0.kids s1.1).bind fun (x1 : Ty) => ((rec_typing_copyType x1).bind fun (x2 : Ty) => ((app 48 s1.2 ([x2])).bind fun (x3 : List Ty) => typing_copyType_L0 n rec_typing_copyType p0 k ((s1.1 + 1), x3)))) (some (.nx s1.2)))
def typing_copyType_body (n : Nat) (rec_typing_copyType : Ty → Option Ty) (p0 : Ty) : Option Ty := ((typing_copyType_L0 n rec_typing_copyType p0 n (0, ([] : List Ty))).bind (LR.el (fun (s2 : List Ty) => some (Ty.mk p0.kind p0.name s2)) (fun r => some r)))
def typing_copyType : Nat → Ty → Option Ty
  | 0, _ => none
  | n + 1, p0 => typing_copyType_body n (fun p0 => typing_copyType n p0) p0
set_option maxRecDepth 100000 in
set_option maxHeartbeats 40000000 in
theorem typing_copyType_body_ok (n : Nat) (rec_typing_copyType : Ty → Option Ty) (hrec_typing_copyType : ∀ (p0 : Ty) (r : Ty), rec_typing_copyType p0 = some r → ACalls Tryz.prog 70 [.agg [.int .i64 p0.kind, .str p0.name, .slice (List.map encTy p0.kids) .shared]] [] (.agg [.int .i64 r.kind, .str r.name, .slice (List.map encTy r.kids) .shared]) []) (p0 : Ty) (r : Ty) (h : typing_copyType_body n rec_typing_copyType p0 = some r) : ACalls Tryz.prog 70 [.agg [.int .i64 p0.kind, .str p0.name, .slice (List.map encTy p0.kids) .shared]] [] (.agg [.int .i64 r.kind, .str r.name, .slice (List.map encTy r.kids) .shared]) [] := by
  unfold typing_copyType_body at h
  refine acalls_start true Tryz.func70 rfl (by rw [Tryz.ntmps70]; exact Nat.le_of_ble_eq_true rfl) fun Q hQ t ht => ?_
  conv at ht => whnf
  subst ht
  refine AW.seqK fun K1 hK1 => ?_
  refine AW.region τ_ok mixedO 2 ?_
  conv => whnf
  refine hK1 _ _ ?_
  refine AW.seqK fun K2 hK2 => ?_
  refine AW.region τ_ok mixedO 1 ?_
  conv => whnf
  refine hK2 _ _ ?_
  refine AW.seqK fun K3 hK3 => ?_
  refine AW.seqK fun K4 hK4 => ?_
  refine AW.region τ_ok mixedO 0 ?_
  conv => whnf
  refine len_of (l := p0.kids) (f := encTy) ?_
  conv => whnf
  refine hK4 _ _ ?_
  refine AW.block ?_
  obtain ⟨o1, ho1, h⟩ := ob h
  have hR1 : ∀ s2 : List Ty, o1 = .nx s2 → ∀ t9 h9, Le 0 t9 h9 (u2 (.ptr 0 0 :: (.ptr 1 0 :: (u16 (u4 (u2 (.unk :: []))))))) [.box [.int .i64 0, .str ([] : Str), .slice (List.map encTy ([] : List Ty)) .nils], .box [.int .i64 p0.kind, .str p0.name, .slice (List.map encTy s2) (.tip 2 3)], .tip (List.length s2 * 3)] → K3 t9 h9 := by
    intro s2 ho
    subst ho
    dsimp only [LR.el] at h
    intro t9 h9 hw
    refine hK3 _ _ (AW.le hw ?_)
    refine AW.seqK fun K5 hK5 => ?_
    refine AW.region τ_ok mixedO 0 ?_
    conv => whnf
    refine hK5 _ _ ?_
    refine AW.ret ?_
    conv => whnf
    have e9 := Option.some.inj h
    subst e9
    refine hQ _ _ _ (retPure τ_ok (fun g => by simp only [ren, renL, renLL, renT, renL_app, renl_I, renl_S, renl_U8, renl_Ty, renl_Tm, renl_Carrier, renl_Decl]) ?_)
    conv => whnf
    try rfl
  refine AW.loopS (typing_copyType_L0 n rec_typing_copyType p0) (fun (s1 : Int × (List Ty)) => (u2 (.ptr 0 0 :: (.ptr 1 0 :: (u8 (.slice (List.map encTy p0.kids) .shared :: (.int .i64 (p0.kids.length : Int) :: (.int .i64 s1.1 :: (u8 (u4 [])))))))))) (fun (s1 : Int × (List Ty)) => [.box [.int .i64 0, .str ([] : Str), .slice (List.map encTy ([] : List Ty)) .nils], .box [.int .i64 p0.kind, .str p0.name, .slice (List.map encTy s1.2) (.tip 2 3)], .tip (List.length s1.2 * 3)]) ho1 (fun _ => rfl) (Le.of [some 1, some 2, none] (Weak.mk' rfl (.u2 (.cons (.same rfl) (.cons (.same rfl) (.u8 (.cons (.share (renl_Ty _ _)) (.cons (.same rfl) (.cons (.same rfl) (.u8 (.u4 .nil))))))))) (.old (.box' (.cons (.same rfl) (.cons (.same rfl) (.cons (.same rfl) .nil)))) (.old (.box' (.cons (.same rfl) (.cons (.same rfl) (.cons (.nils _ _) .nil)))) (.new rfl .nil))))) ?_
  intro n1 s1 hs1 KL1 hKL1
  unfold typing_copyType_L0 at hs1
  refine AW.seqK fun K6 hK6 => ?_
  refine AW.region τ_ok mixedO 0 ?_
  conv => whnf
  refine hK6 _ _ ?_
  refine AW.seqK fun K7 hK7 => ?_
  refine AW.condS rfl hs1 (fun hc1 hs1 => ?_) (fun hc1 hs1 => ?_)
  · refine AW.skip ?_
    conv => whnf
    refine hK7 _ _ ?_
    refine AW.seqK fun K8 hK8 => ?_
    refine AW.block ?_
    refine AW.seqK fun K9 hK9 => ?_
    refine AW.region τ_ok mixedO 1 ?_
    conv => whnf
    obtain ⟨x1, hx1, hs1⟩ := ob hs1
    refine idx_of (l := p0.kids) (f := encTy) (cs := [.int .i64 ((x1).kind), .str ((x1).name), .slice (List.map encTy ((x1).kids)) .shared]) hx1 (encTy_eq x1) rfl ?_
    conv => whnf
    refine hK9 _ _ ?_
    refine AW.region τ_ok mixedO 2 ?_
    conv => whnf
    obtain ⟨x2, hx2, hs1⟩ := ob hs1
    refine call_pur (hrec_typing_copyType _ _ hx2) okF_70 (.cons (.same _) .nil) (fun g => by simp only [ren, renL, renLL, renT, renL_app, renl_I, renl_S, renl_U8, renl_Ty, renl_Tm, renl_Carrier, renl_Decl]) (fun g => by simp only [ren, renL, renLL, renT, renL_app, renl_I, renl_S, renl_U8, renl_Ty, renl_Tm, renl_Carrier, renl_Decl]) ?_
    conv => whnf
    refine ⟨List.map encTy ([x2]), by simp only [List.map_cons, List.map_nil, encTy_eq]; rfl, ?_⟩
    conv => whnf
    obtain ⟨x3, hx3, hs1⟩ := ob hs1
    refine app_tip (l := s1.2) (ys := [x2]) (f := encTy) hx3 ok_Ty rfl rfl rfl ?_
    conv => whnf
    refine ⟨rfl, ?_⟩
    conv => whnf
    refine hK8 _ _ ?_
    refine AW.know 14 0 fun hv1 => ?_
    refine AW.know 12 0 fun hv2 => ?_
    refine AW.region τ_ok mixedO 0 ?_
    conv => whnf
    refine ⟨(s1.1 + 1), by have := wf64 hv1; have := vfl hv2; have h8 := of_decide_eq_true hc1; exact w64_id (by omega) (by omega), ?_⟩
    conv => whnf
    exact hKL1 _ _ _ hs1 (Le.of [some 0, some 1, some 5] (Weak.mk' rfl (.u2 (.cons (.same rfl) (.cons (.same rfl) (.u8 (.cons (.share (renl_Ty _ _)) (.cons (.same rfl) (.cons (.same rfl) (.u8 (.u4 .nil))))))))) (.old (.box' (.cons (.same rfl) (.cons (.same rfl) (.cons (.same rfl) .nil)))) (.old (.box' (.cons (.same rfl) (.cons (.same rfl) (.cons (.tipS (renl_Ty _ _) rfl) .nil)))) (.old (.tip _) .nil)))))
  · refine AW.exit ?_
    conv => whnf
    exact hR1 _ (Option.some.inj hs1).symm _ _ (Le.of [some 0, some 1, some 2] (Weak.mk' rfl (.u2 (.cons (.same rfl) (.cons (.same rfl) (.u16 (.u4 (.u2 (.cons (.unk _) .nil))))))) (.old (.box' (.cons (.same rfl) (.cons (.same rfl) (.cons (.same rfl) .nil)))) (.old (.box' (.cons (.same rfl) (.cons (.same rfl) (.cons (.tipS (renl_Ty _ _) rfl) .nil)))) (.old (.tip _) .nil)))))
theorem typing_copyType_all (n : Nat) : (∀ (p0 : Ty) (r : Ty), typing_copyType n p0 = some r → ACalls Tryz.prog 70 [.agg [.int .i64 p0.kind, .str p0.name, .slice (List.map encTy p0.kids) .shared]] [] (.agg [.int .i64 r.kind, .str r.name, .slice (List.map encTy r.kids) .shared]) []) := by
  induction n with
  | zero => exact (fun p0 r h => by unfold typing_copyType at h; cases h)
  | succ n ih =>
    exact (fun p0 r h => typing_copyType_body_ok n _ ih p0 r (by unfold typing_copyType at h; exact h))
theorem typing_copyType_ok (n : Nat) (p0 : Ty) (r : Ty) (h : typing_copyType n p0 = some r) : ACalls Tryz.prog 70 [.agg [.int .i64 p0.kind, .str p0.name, .slice (List.map encTy p0.kids) .shared]] [] (.agg [.int .i64 r.kind, .str r.name, .slice (List.map encTy r.kids) .shared]) [] := (typing_copyType_all n) p0 r h
def typing_Lookup (n : Nat) (p0 : Env) (p1 : Str) : Option (Ty × Bool) := ((typing_ValidEnv n p0).bind fun (x1 : Bool) => (cond (!x1) (some ((Ty.mk 0 ([] : Str) ([])), false)) ((((typing_names n p0).bind fun (x3 : List (Str × Ty)) => (mel (mfind x3 p1) (some (false, 0, ([] : Str), ([] : List Ty))) (fun (x4 : Ty) => some (true, x4.kind, x4.name, x4.kids)))) : Option (Bool × Int × Str × (List Ty))).bind fun (s1 : Bool × Int × Str × (List Ty)) => ((typing_copyType n (Ty.mk s1.2.1 s1.2.2.1 s1.2.2.2)).bind fun (x2 : Ty) => some (x2, s1.1)))))
set_option maxRecDepth 100000 in
set_option maxHeartbeats 40000000 in
theorem typing_Lookup_ok (n : Nat) (p0 : Env) (p1 : Str) (r : Ty × Bool) (h : typing_Lookup n p0 p1 = some r) : ACalls Tryz.prog 51 [.agg [.slice (List.map encCarrier p0.carriers) .shared, .slice (List.map encDecl p0.names) .shared], .str p1] [] (.tup [.agg [.int .i64 r.1.kind, .str r.1.name, .slice (List.map encTy r.1.kids) .shared], .bool r.2]) [] := by
  unfold typing_Lookup at h
  refine acalls_start true Tryz.func51 rfl (by rw [Tryz.ntmps51]; exact Nat.le_of_ble_eq_true rfl) fun Q hQ t ht => ?_
  conv at ht => whnf
  subst ht
  refine AW.seqK fun K1 hK1 => ?_
  refine AW.region τ_ok mixedO 2 ?_
  conv => whnf
  refine hK1 _ _ ?_
  refine AW.seqK fun K2 hK2 => ?_
  refine AW.seqK fun K3 hK3 => ?_
  refine AW.region τ_ok mixedO 0 ?_
  conv => whnf
  obtain ⟨x1, hx1, h⟩ := ob h
  refine call_pur (typing_ValidEnv_ok _ _ _ hx1) okF_55 (.cons (.same _) .nil) (fun g => by simp only [ren, renL, renLL, renT, renL_app, renl_I, renl_S, renl_U8, renl_Ty, renl_Tm, renl_Carrier, renl_Decl]) (fun g => rfl) ?_
  conv => whnf
  refine hK3 _ _ ?_
  refine AW.condS rfl h (fun hc1 h => ?_) (fun hc1 h => ?_)
  · refine AW.seqK fun K4 hK4 => ?_
    refine AW.region τ_ok mixedO 0 ?_
    conv => whnf
    refine hK4 _ _ ?_
    refine AW.ret ?_
    conv => whnf
    have e9 := Option.some.inj h
    subst e9
    refine hQ _ _ _ (retPure τ_ok (fun g => by simp only [ren, renL, renLL, renT, renL_app, renl_I, renl_S, renl_U8, renl_Ty, renl_Tm, renl_Carrier, renl_Decl]) ?_)
    conv => whnf
    try rfl
  · refine AW.skip ?_
    conv => whnf
    refine hK2 _ _ ?_
    refine AW.seqK fun K5 hK5 => ?_
    obtain ⟨s1, hj1, h⟩ := ob h
    have hR1 : ∀ t9 h9, Le 0 t9 h9 (u4 (.ptr 0 0 :: (.unk :: (.ptr 1 0 :: (.bool s1.1 :: (u8 (u4 (u2 [])))))))) [.box [.int .i64 0, .str ([] : Str), .slice (List.map encTy ([] : List Ty)) .nils], .box [.int .i64 s1.2.1, .str s1.2.2.1, .slice (List.map encTy s1.2.2.2) .shared]] → K5 t9 h9 := by
      intro t9 h9 hw
      refine hK5 _ _ (AW.le hw ?_)
      clear hw
      refine AW.seqK fun K6 hK6 => ?_
      refine AW.region τ_ok mixedO 0 ?_
      conv => whnf
      obtain ⟨x2, hx2, h⟩ := ob h
      refine call_pur (typing_copyType_ok _ _ _ hx2) okF_70 (.cons (.same _) .nil) (fun g => by simp only [ren, renL, renLL, renT, renL_app, renl_I, renl_S, renl_U8, renl_Ty, renl_Tm, renl_Carrier, renl_Decl]) (fun g => by simp only [ren, renL, renLL, renT, renL_app, renl_I, renl_S, renl_U8, renl_Ty, renl_Tm, renl_Carrier, renl_Decl]) ?_
      conv => whnf
      refine hK6 _ _ ?_
      refine AW.ret ?_
      conv => whnf
      have e9 := Option.some.inj h
      subst e9
      refine hQ _ _ _ (retPure τ_ok (fun g => by simp only [ren, renL, renLL, renT, renL_app, renl_I, renl_S, renl_U8, renl_Ty, renl_Tm, renl_Carrier, renl_Decl]) ?_)
      conv => whnf
      try rfl
    refine AW.region τ_ok mixedO 2 ?_
    conv => whnf
    obtain ⟨x3, hx3, hj1⟩ := ob hj1
    refine call_gen [] [2] [.agg [.slice (List.map encCarrier p0.carriers) .shared, .slice (List.map encDecl p0.names) .shared]] [.agg [.slice (List.map encCarrier p0.carriers) .shared, .slice (List.map encDecl p0.names) .shared]] (typing_names_ok _ _ _ hx3) okF_110 rfl .nil (by simp only [ren, renL, renLL, renT, renL_app, renl_I, renl_S, renl_U8, renl_Ty, renl_Tm, renl_Carrier, renl_Decl]; try rfl) (.cons (.same _) .nil) (rn := .mapr 2) (by simp only [ren, renL, renLL, renT, renL_app, renl_I, renl_S, renl_U8, renl_Ty, renl_Tm, renl_Carrier, renl_Decl]; try rfl) (Hn := [.mp (List.map (fun p => (p.1, (fun (x : Ty) => .agg [.int .i64 x.kind, .str x.name, .slice (List.map encTy x.kids) .shared]) p.2)) x3)]) ((rcons (congrArg AObj.mp (renm (f := (fun (x : Ty) => .agg [.int .i64 x.kind, .str x.name, .slice (List.map encTy x.kids) .shared])) (fun g x => by simp only [ren, renL, renLL, renT, renL_app, renl_I, renl_S, renl_U8, renl_Ty, renl_Tm, renl_Carrier, renl_Decl]) _ _)) rfl)) ?_
    conv => whnf
    refine find_of (m := x3) (f := (fun (x : Ty) => .agg [.int .i64 x.kind, .str x.name, .slice (List.map encTy x.kids) .shared])) hj1 (fun x4 hx4 hj1 => ?_) (fun hx4 hj1 => ?_)
    · conv => whnf
      cases hj1
      exact hR1 _ _ (Le.of [some 1, some 3] (Weak.mk' rfl (.u4 (.cons (.same rfl) (.cons (.unk _) (.cons (.same rfl) (.cons (.same rfl) (.u8 (.u4 (.u2 .nil)))))))) (.old (.box' (.cons (.same rfl) (.cons (.same rfl) (.cons (.same rfl) .nil)))) (.old (.box' (.cons (.same rfl) (.cons (.same rfl) (.cons (.share (renl_Ty _ _)) .nil)))) .nil))))
    · conv => whnf
      cases hj1
      exact hR1 _ _ (Le.of [some 1, some 3] (Weak.mk' rfl (.u4 (.cons (.same rfl) (.cons (.unk _) (.cons (.same rfl) (.cons (.same rfl) (.u8 (.u4 (.u2 .nil)))))))) (.old (.box' (.cons (.same rfl) (.cons (.same rfl) (.cons (.same rfl) .nil)))) (.old (.box' (.cons (.same rfl) (.cons (.same rfl) (.cons (.share rfl) .nil)))) .nil))))
def R1_letter (n : Nat) (p0 : Int) : Option Bool := (((cond (decide (97 ≤ p0)) (cond (decide (p0 ≤ 122)) (some true) (cond (decide (65 ≤ p0)) (some (decide (p0 ≤ 90))) (some false))) (cond (decide (65 ≤ p0)) (some (decide (p0 ≤ 90))) (some false))) : Option Bool).bind fun (s1 : Bool) => some s1)
set_option maxRecDepth 100000 in
set_option maxHeartbeats 40000000 in
theorem R1_letter_ok (n : Nat) (p0 : Int) (r : Bool) (h : R1_letter n p0 = some r) : ACalls Tryz.prog 120 [.int .u8 p0] [] (.bool r) [] := by
  unfold R1_letter at h
  refine acalls_start true Tryz.func120 rfl (by rw [Tryz.ntmps120]; exact Nat.le_of_ble_eq_true rfl) fun Q hQ t ht => ?_
  conv at ht => whnf
  subst ht
  refine AW.seqK fun K1 hK1 => ?_
  refine AW.region τ_ok mixedO 0 ?_
  conv => whnf
  refine hK1 _ _ ?_
  refine AW.seqK fun K2 hK2 => ?_
  obtain ⟨s1, hj1, h⟩ := ob h
  have hR1 : ∀ t9 h9, Le 0 t9 h9 (u2 (.bool s1 :: (u8 (u4 (u2 []))))) [] → K2 t9 h9 := by
    intro t9 h9 hw
    refine hK2 _ _ (AW.le hw ?_)
    clear hw
    refine AW.ret ?_
    conv => whnf
    have e9 := Option.some.inj h
    subst e9
    refine hQ _ _ _ (retPure τ_ok (fun g => rfl) ?_)
    conv => whnf
  refine AW.region τ_ok mixedO 0 ?_
  conv => whnf
  refine onB_cond hj1 (fun hc1 hj1 => ?_) (fun hc1 hj1 => ?_)
  · conv => whnf
    refine onB_cond hj1 (fun hc2 hj1 => ?_) (fun hc2 hj1 => ?_)
    · conv => whnf
      cases hj1
      exact hR1 _ _ (Le.of [] (Weak.mk' rfl (.u2 (.cons (.same rfl) (.u8 (.u4 (.u2 .nil))))) .nil))
    · conv => whnf
      refine onB_cond hj1 (fun hc3 hj1 => ?_) (fun hc3 hj1 => ?_)
      · conv => whnf
        cases hj1
        exact hR1 _ _ (Le.of [] (Weak.mk' rfl (.u2 (.cons (.same rfl) (.u8 (.u4 (.u2 .nil))))) .nil))
      · conv => whnf
        cases hj1
        exact hR1 _ _ (Le.of [] (Weak.mk' rfl (.u2 (.cons (.same rfl) (.u8 (.u4 (.u2 .nil))))) .nil))
  · conv => whnf
    refine onB_cond hj1 (fun hc4 hj1 => ?_) (fun hc4 hj1 => ?_)
    · conv => whnf
      cases hj1
      exact hR1 _ _ (Le.of [] (Weak.mk' rfl (.u2 (.cons (.same rfl) (.u8 (.u4 (.u2 .nil))))) .nil))
    · conv => whnf
      cases hj1
      exact hR1 _ _ (Le.of [] (Weak.mk' rfl (.u2 (.cons (.same rfl) (.u8 (.u4 (.u2 .nil))))) .nil))
def R1_In_L0 (n : Nat) (p0 : Str) (p1 : List Str) : Nat → Int → Option (LR Unit Bool)
  | 0, _ => none
  | k + 1, s1 => (cond (decide (s1 < (p1.length : Int))) ((idx p1 s1).bind fun (x1 : Str) => (cond (x1 == p0) (some (.rt true)) (R1_In_L0 n p0 p1 k (s1 + 1)))) (some (.nx ())))
def R1_In (n : Nat) (p0 : Str) (p1 : List Str) : Option Bool := ((R1_In_L0 n p0 p1 n 0).bind (LR.el (fun (s2 : Unit) => some false) (fun r => some r)))
set_option maxRecDepth 100000 in
set_option maxHeartbeats 40000000 in
theorem R1_In_ok (n : Nat) (p0 : Str) (p1 : List Str) (r : Bool) (h : R1_In n p0 p1 = some r) : ACalls Tryz.prog 50 [.str p0, .slice (List.map encS p1) .shared] [] (.bool r) [] := by
  unfold R1_In at h
  refine acalls_start true Tryz.func50 rfl (by rw [Tryz.ntmps50]; exact Nat.le_of_ble_eq_true rfl) fun Q hQ t ht => ?_
  conv at ht => whnf
  subst ht
  refine AW.seqK fun K1 hK1 => ?_
  refine AW.region τ_ok mixedO 0 ?_
  conv => whnf
  refine hK1 _ _ ?_
  refine AW.seqK fun K2 hK2 => ?_
  refine AW.seqK fun K3 hK3 => ?_
  refine AW.region τ_ok mixedO 0 ?_
  conv => whnf
  refine hK3 _ _ ?_
  refine AW.block ?_
  obtain ⟨o1, ho1, h⟩ := ob h
  have hR1 : ∀ s2 : Unit, o1 = .nx s2 → ∀ t9 h9, Le 0 t9 h9 (u16 (u2 [])) [] → K2 t9 h9 := by
    intro s2 ho
    subst ho
    dsimp only [LR.el] at h
    intro t9 h9 hw
    refine hK2 _ _ (AW.le hw ?_)
    refine AW.seqK fun K4 hK4 => ?_
    refine AW.region τ_ok mixedO 0 ?_
    conv => whnf
    refine hK4 _ _ ?_
    refine AW.ret ?_
    conv => whnf
    have e9 := Option.some.inj h
    subst e9
    refine hQ _ _ _ (retPure τ_ok (fun g => rfl) ?_)
    conv => whnf
  refine AW.loopS (R1_In_L0 n p0 p1) (fun (s1 : Int) => (.str p0 :: (.slice (List.map encS p1) .shared :: (u2 (.unk :: (.int .i64 s1 :: (u8 (u4 [])))))))) (fun (s1 : Int) => []) ho1 (fun _ => rfl) (Le.of [] (Weak.mk' rfl (.cons (.same rfl) (.cons (.share (renl_S _ _)) (.u2 (.cons (.unk _) (.cons (.same rfl) (.u8 (.u4 .nil))))))) .nil)) ?_
  intro n1 s1 hs1 KL1 hKL1
  unfold R1_In_L0 at hs1
  refine AW.seqK fun K5 hK5 => ?_
  refine AW.seqK fun K6 hK6 => ?_
  refine AW.region τ_ok mixedO 0 ?_
  conv => whnf
  refine len_of (l := p1) (f := encS) ?_
  conv => whnf
  refine hK6 _ _ ?_
  refine AW.condS rfl hs1 (fun hc1 hs1 => ?_) (fun hc1 hs1 => ?_)
  · refine AW.skip ?_
    conv => whnf
    refine hK5 _ _ ?_
    refine AW.seqK fun K7 hK7 => ?_
    refine AW.block ?_
    refine AW.seqK fun K8 hK8 => ?_
    refine AW.region τ_ok mixedO 0 ?_
    conv => whnf
    obtain ⟨x1, hx1, hs1⟩ := ob hs1
    refine idx_of (l := p1) (f := encS) (cs := [.str (x1)]) hx1 (rfl) rfl ?_
    conv => whnf
    refine hK8 _ _ ?_
    refine AW.condS rfl hs1 (fun hc2 hs1 => ?_) (fun hc2 hs1 => ?_)
    · refine AW.seqK fun K9 hK9 => ?_
      refine AW.region τ_ok mixedO 0 ?_
      conv => whnf
      refine hK9 _ _ ?_
      refine AW.ret ?_
      conv => whnf
      have e9 := Option.some.inj hs1
      subst e9
      dsimp only [LR.el] at h
      have e9 := Option.some.inj h
      subst e9
      refine hQ _ _ _ (retPure τ_ok (fun g => rfl) ?_)
      conv => whnf
    · refine AW.skip ?_
      conv => whnf
      refine hK7 _ _ ?_
      refine AW.know 5 0 fun hv1 => ?_
      refine AW.know 1 0 fun hv2 => ?_
      refine AW.region τ_ok mixedO 0 ?_
      conv => whnf
      refine ⟨(s1 + 1), by have := wf64 hv1; have := vfl hv2; have h8 := of_decide_eq_true hc1; exact w64_id (by omega) (by omega), ?_⟩
      conv => whnf
      exact hKL1 _ _ _ hs1 (Le.of [] (Weak.mk' rfl (.cons (.same rfl) (.cons (.share (renl_S _ _)) (.u2 (.cons (.unk _) (.cons (.same rfl) (.u8 (.u4 .nil))))))) .nil))
  · refine AW.exit ?_
    conv => whnf
    exact hR1 _ (Option.some.inj hs1).symm _ _ (Le.of [] (Weak.mk' rfl (.u16 (.u2 .nil)) .nil))
def R1_Keyword (n : Nat) (p0 : Str) : Option Bool := ((R1_In n p0 ([([116, 114, 117, 101] : Str), ([102, 97, 108, 115, 101] : Str), ([110, 111, 116] : Str), ([111, 114] : Str), ([102, 111, 114, 97, 108, 108] : Str), ([101, 120, 105, 115, 116, 115] : Str), ([105, 110] : Str), ([110, 111, 116, 105, 110] : Str), ([115, 117, 98] : Str), ([109, 111, 100] : Str), ([102, 117, 110] : Str), ([99, 97, 114, 100] : Str), ([109, 105, 110] : Str), ([109, 97, 120] : Str), ([100, 111, 109] : Str), ([114, 97, 110] : Str), ([80, 79, 87] : Str), ([105, 110, 116] : Str), ([98, 111, 111, 108] : Str), ([115, 101, 116] : Str), ([112, 97, 105, 114] : Str)])).bind fun (x1 : Bool) => some x1)
set_option maxRecDepth 100000 in
set_option maxHeartbeats 40000000 in
theorem R1_Keyword_ok (n : Nat) (p0 : Str) (r : Bool) (h : R1_Keyword n p0 = some r) : ACalls Tryz.prog 121 [.str p0] [] (.bool r) [] := by
  unfold R1_Keyword at h
  refine acalls_start true Tryz.func121 rfl (by rw [Tryz.ntmps121]; exact Nat.le_of_ble_eq_true rfl) fun Q hQ t ht => ?_
  conv at ht => whnf
  subst ht
  refine AW.seqK fun K1 hK1 => ?_
  refine AW.region τ_ok mixedO 0 ?_
  conv => whnf
  refine hK1 _ _ ?_
  refine AW.seqK fun K2 hK2 => ?_
  refine AW.region τ_ok mixedO 1 ?_
  conv => whnf
  refine ⟨List.map encS ([([116, 114, 117, 101] : Str), ([102, 97, 108, 115, 101] : Str), ([110, 111, 116] : Str), ([111, 114] : Str), ([102, 111, 114, 97, 108, 108] : Str), ([101, 120, 105, 115, 116, 115] : Str), ([105, 110] : Str), ([110, 111, 116, 105, 110] : Str), ([115, 117, 98] : Str), ([109, 111, 100] : Str), ([102, 117, 110] : Str), ([99, 97, 114, 100] : Str), ([109, 105, 110] : Str), ([109, 97, 120] : Str), ([100, 111, 109] : Str), ([114, 97, 110] : Str), ([80, 79, 87] : Str), ([105, 110, 116] : Str), ([98, 111, 111, 108] : Str), ([115, 101, 116] : Str), ([112, 97, 105, 114] : Str)]), by kernel_rfl, ?_⟩
  conv => whnf
  refine hK2 _ _ ?_
  refine AW.seqK fun K3 hK3 => ?_
  refine AW.region τ_ok mixedO 0 ?_
  conv => whnf
  obtain ⟨x1, hx1, h⟩ := ob h
  refine call_pur (R1_In_ok _ _ _ _ hx1) okF_50 (.cons (.same _) (.cons (.share _ _) .nil)) (fun g => by simp only [ren, renL, renLL, renT, renL_app, renl_I, renl_S, renl_U8, renl_Ty, renl_Tm, renl_Carrier, renl_Decl]) (fun g => rfl) ?_
  conv => whnf
  refine hK3 _ _ ?_
  refine AW.ret ?_
  conv => whnf
  have e9 := Option.some.inj h
  subst e9
  refine hQ _ _ _ (retPure τ_ok (fun g => rfl) ?_)
  conv => whnf
end Abs
end Go.Proofs.YtiiaccpcoclklaaGreat
namespace Go.Proofs.YtiiaccpcoclklaaGreat
namespace Abs
open Go Go.Proofs
def R1_digit (n : Nat) (p0 : Int) : Option Bool := (((cond (decide (48 ≤ p0)) (some (decide (p0 ≤ 57))) (some false)) : Option Bool).bind fun (s1 : Bool) => some s1)
set_option maxRecDepth 100000 in
set_option maxHeartbeats 40000000 in
theorem R1_digit_ok (n : Nat) (p0 : Int) (r : Bool) (h : R1_digit n p0 = some r) : ACalls Tryz.prog 122 [.int .u8 p0] [] (.bool r) [] := by
  unfold R1_digit at h
  refine acalls_start true Tryz.func122 rfl (by rw [Tryz.ntmps122]; exact Nat.le_of_ble_eq_true rfl) fun Q hQ t ht => ?_
  conv at ht => whnf
  subst ht
  refine AW.seqK fun K1 hK1 => ?_
  refine AW.region τ_ok mixedO 0 ?_
  conv => whnf
  refine hK1 _ _ ?_
  refine AW.seqK fun K2 hK2 => ?_
  obtain ⟨s1, hj1, h⟩ := ob h
  have hR1 : ∀ t9 h9, Le 0 t9 h9 (u2 (.bool s1 :: (u4 (u2 [])))) [] → K2 t9 h9 := by
    intro t9 h9 hw
    refine hK2 _ _ (AW.le hw ?_)
    clear hw
    refine AW.ret ?_
    conv => whnf
    have e9 := Option.some.inj h
    subst e9
    refine hQ _ _ _ (retPure τ_ok (fun g => rfl) ?_)
    conv => whnf
  refine AW.region τ_ok mixedO 0 ?_
  conv => whnf
  refine onB_cond hj1 (fun hc1 hj1 => ?_) (fun hc1 hj1 => ?_)
  · conv => whnf
    cases hj1
    exact hR1 _ _ (Le.of [] (Weak.mk' rfl (.u2 (.cons (.same rfl) (.u4 (.u2 .nil)))) .nil))
  · conv => whnf
    cases hj1
    exact hR1 _ _ (Le.of [] (Weak.mk' rfl (.u2 (.cons (.same rfl) (.u4 (.u2 .nil)))) .nil))
def R1_Identifier_L0 (n : Nat) (p0 : Str) : Nat → Int → Option (LR Unit Bool)
  | 0, _ => none
  | k + 1, s2 => (cond (decide (s2 < (p0.length : Int))) ((((sidx p0 s2).bind fun (x1 : Int) => ((R1_letter n x1).bind fun (x2 : Bool) => (cond (!x2) ((sidx p0 s2).bind fun (x3 : Int) => ((R1_digit n x3).bind fun (x4 : Bool) => (cond (!x4) ((sidx p0 s2).bind fun (x5 : Int) => some (x5 != 95)) (some false)))) (some false)))) : Option Bool).bind fun (s4 : Bool) => (cond s4 (some (.rt false)) (R1_Identifier_L0 n p0 k (s2 + 1)))) (some (.nx ())))
def R1_Identifier (n : Nat) (p0 : Str) : Option Bool := (((cond (decide ((p0.length : Int) < 1)) (some true) (cond (decide (16 < (p0.length : Int))) (some true) ((sidx p0 0).bind fun (x6 : Int) => ((R1_letter n x6).bind fun (x7 : Bool) => (cond (!x7) (some true) ((R1_Keyword n p0).bind fun (x8 : Bool) => some x8)))))) : Option Bool).bind fun (s1 : Bool) => (cond s1 (some false) ((R1_Identifier_L0 n p0 n 1).bind (LR.el (fun (s3 : Unit) => some true) (fun r => some r)))))
set_option maxRecDepth 100000 in
set_option maxHeartbeats 40000000 in
theorem R1_Identifier_ok (n : Nat) (p0 : Str) (r : Bool) (h : R1_Identifier n p0 = some r) : ACalls Tryz.prog 58 [.str p0] [] (.bool r) [] := by
  unfold R1_Identifier at h
  refine acalls_start true Tryz.func58 rfl (by rw [Tryz.ntmps58]; exact Nat.le_of_ble_eq_true rfl) fun Q hQ t ht => ?_
  conv at ht => whnf
  subst ht
  refine AW.seqK fun K1 hK1 => ?_
  refine AW.region τ_ok mixedO 0 ?_
  conv => whnf
  refine hK1 _ _ ?_
  refine AW.seqK fun K2 hK2 => ?_
  refine AW.seqK fun K3 hK3 => ?_
  obtain ⟨s1, hj1, h⟩ := ob h
  have hR1 : ∀ t9 h9, Le 0 t9 h9 (.str p0 :: (u16 (u4 (.bool s1 :: (u16 (u8 [])))))) [] → K3 t9 h9 := by
    intro t9 h9 hw
    refine hK3 _ _ (AW.le hw ?_)
    clear hw
    refine AW.condS rfl h (fun hc1 h => ?_) (fun hc1 h => ?_)
    · refine AW.seqK fun K4 hK4 => ?_
      refine AW.region τ_ok mixedO 0 ?_
      conv => whnf
      refine hK4 _ _ ?_
      refine AW.ret ?_
      conv => whnf
      have e9 := Option.some.inj h
      subst e9
      refine hQ _ _ _ (retPure τ_ok (fun g => rfl) ?_)
      conv => whnf
    · refine AW.skip ?_
      conv => whnf
      refine hK2 _ _ ?_
      refine AW.seqK fun K5 hK5 => ?_
      refine AW.seqK fun K6 hK6 => ?_
      refine AW.region τ_ok mixedO 0 ?_
      conv => whnf
      refine hK6 _ _ ?_
      refine AW.block ?_
      obtain ⟨o1, ho1, h⟩ := ob h
      have hR2 : ∀ s3 : Unit, o1 = .nx s3 → ∀ t9 h9, Le 0 t9 h9 (u32 (u8 (u4 (u2 [])))) [] → K5 t9 h9 := by
        intro s3 ho
        subst ho
        dsimp only [LR.el] at h
        intro t9 h9 hw
        refine hK5 _ _ (AW.le hw ?_)
        refine AW.seqK fun K7 hK7 => ?_
        refine AW.region τ_ok mixedO 0 ?_
        conv => whnf
        refine hK7 _ _ ?_
        refine AW.ret ?_
        conv => whnf
        have e9 := Option.some.inj h
        subst e9
        refine hQ _ _ _ (retPure τ_ok (fun g => rfl) ?_)
        conv => whnf
      refine AW.loopS (R1_Identifier_L0 n p0) (fun (s2 : Int) => (.str p0 :: (u2 (.int .i64 s2 :: (u32 (u8 (u2 []))))))) (fun (s2 : Int) => []) ho1 (fun _ => rfl) (Le.of [] (Weak.mk' rfl (.cons (.same rfl) (.u2 (.cons (.same rfl) (.u32 (.u8 (.u2 .nil)))))) .nil)) ?_
      intro n1 s2 hs1 KL1 hKL1
      unfold R1_Identifier_L0 at hs1
      refine AW.seqK fun K8 hK8 => ?_
      refine AW.seqK fun K9 hK9 => ?_
      refine AW.region τ_ok mixedO 0 ?_
      conv => whnf
      refine hK9 _ _ ?_
      refine AW.condS rfl hs1 (fun hc2 hs1 => ?_) (fun hc2 hs1 => ?_)
      · refine AW.skip ?_
        conv => whnf
        refine hK8 _ _ ?_
        refine AW.seqK fun K10 hK10 => ?_
        refine AW.block ?_
        refine AW.seqK fun K11 hK11 => ?_
        obtain ⟨s4, hj2, hs1⟩ := ob hs1
        have hR3 : ∀ t9 h9, Le 0 t9 h9 (.str p0 :: (u2 (.int .i64 s2 :: (u32 (u8 (.unk :: (.bool s4 :: []))))))) [] → K11 t9 h9 := by
          intro t9 h9 hw
          refine hK11 _ _ (AW.le hw ?_)
          clear hw
          refine AW.condS rfl hs1 (fun hc3 hs1 => ?_) (fun hc3 hs1 => ?_)
          · refine AW.seqK fun K12 hK12 => ?_
            refine AW.region τ_ok mixedO 0 ?_
            conv => whnf
            refine hK12 _ _ ?_
            refine AW.ret ?_
            conv => whnf
            have e9 := Option.some.inj hs1
            subst e9
            dsimp only [LR.el] at h
            have e9 := Option.some.inj h
            subst e9
            refine hQ _ _ _ (retPure τ_ok (fun g => rfl) ?_)
            conv => whnf
          · refine AW.skip ?_
            conv => whnf
            refine hK10 _ _ ?_
            refine AW.know 3 0 fun hv1 => ?_
            refine AW.know 0 0 fun hv2 => ?_
            refine AW.region τ_ok mixedO 0 ?_
            conv => whnf
            refine ⟨(s2 + 1), by have := wf64 hv1; have := vfs hv2; have h8 := of_decide_eq_true hc2; exact w64_id (by omega) (by omega), ?_⟩
            conv => whnf
            exact hKL1 _ _ _ hs1 (Le.of [] (Weak.mk' rfl (.cons (.same rfl) (.u2 (.cons (.same rfl) (.u32 (.u8 (.u2 .nil)))))) .nil))
        refine AW.region τ_ok mixedO 0 ?_
        conv => whnf
        obtain ⟨x1, hx1, hj2⟩ := ob hj2
        refine sidx_of hx1 ?_
        conv => whnf
        obtain ⟨x2, hx2, hj2⟩ := ob hj2
        refine call_pur (R1_letter_ok _ _ _ hx2) okF_120 (.cons (.same _) .nil) (fun g => rfl) (fun g => rfl) ?_
        conv => whnf
        refine onB_cond hj2 (fun hc4 hj2 => ?_) (fun hc4 hj2 => ?_)
        · conv => whnf
          obtain ⟨x3, hx3, hj2⟩ := ob hj2
          refine sidx_of hx3 ?_
          conv => whnf
          obtain ⟨x4, hx4, hj2⟩ := ob hj2
          refine call_pur (R1_digit_ok _ _ _ hx4) okF_122 (.cons (.same _) .nil) (fun g => rfl) (fun g => rfl) ?_
          conv => whnf
          refine onB_cond hj2 (fun hc5 hj2 => ?_) (fun hc5 hj2 => ?_)
          · conv => whnf
            obtain ⟨x5, hx5, hj2⟩ := ob hj2
            refine sidx_of hx5 ?_
            conv => whnf
            cases hj2
            exact hR3 _ _ (Le.of [] (Weak.mk' rfl (.cons (.same rfl) (.u2 (.cons (.same rfl) (.u32 (.u8 (.cons (.unk _) (.cons (.same rfl) .nil))))))) .nil))
          · conv => whnf
            cases hj2
            exact hR3 _ _ (Le.of [] (Weak.mk' rfl (.cons (.same rfl) (.u2 (.cons (.same rfl) (.u32 (.u8 (.cons (.unk _) (.cons (.same rfl) .nil))))))) .nil))
        · conv => whnf
          cases hj2
          exact hR3 _ _ (Le.of [] (Weak.mk' rfl (.cons (.same rfl) (.u2 (.cons (.same rfl) (.u32 (.u8 (.cons (.unk _) (.cons (.same rfl) .nil))))))) .nil))
      · refine AW.exit ?_
        conv => whnf
        exact hR2 _ (Option.some.inj hs1).symm _ _ (Le.of [] (Weak.mk' rfl (.u32 (.u8 (.u4 (.u2 .nil)))) .nil))
  refine AW.region τ_ok mixedO 0 ?_
  conv => whnf
  refine onB_cond hj1 (fun hc6 hj1 => ?_) (fun hc6 hj1 => ?_)
  · conv => whnf
    cases hj1
    exact hR1 _ _ (Le.of [] (Weak.mk' rfl (.cons (.same rfl) (.u16 (.u4 (.cons (.same rfl) (.u16 (.u8 .nil)))))) .nil))
  · conv => whnf
    refine onB_cond hj1 (fun hc7 hj1 => ?_) (fun hc7 hj1 => ?_)
    · conv => whnf
      cases hj1
      exact hR1 _ _ (Le.of [] (Weak.mk' rfl (.cons (.same rfl) (.u16 (.u4 (.cons (.same rfl) (.u16 (.u8 .nil)))))) .nil))
    · conv => whnf
      obtain ⟨x6, hx6, hj1⟩ := ob hj1
      refine sidx_of hx6 ?_
      conv => whnf
      obtain ⟨x7, hx7, hj1⟩ := ob hj1
      refine call_pur (R1_letter_ok _ _ _ hx7) okF_120 (.cons (.same _) .nil) (fun g => rfl) (fun g => rfl) ?_
      conv => whnf
      refine onB_cond hj1 (fun hc8 hj1 => ?_) (fun hc8 hj1 => ?_)
      · conv => whnf
        cases hj1
        exact hR1 _ _ (Le.of [] (Weak.mk' rfl (.cons (.same rfl) (.u16 (.u4 (.cons (.same rfl) (.u16 (.u8 .nil)))))) .nil))
      · conv => whnf
        obtain ⟨x8, hx8, hj1⟩ := ob hj1
        refine call_pur (R1_Keyword_ok _ _ _ hx8) okF_121 (.cons (.same _) .nil) (fun g => rfl) (fun g => rfl) ?_
        conv => whnf
        cases hj1
        exact hR1 _ _ (Le.of [] (Weak.mk' rfl (.cons (.same rfl) (.u16 (.u4 (.cons (.same rfl) (.u16 (.u8 .nil)))))) .nil))
def R1_Primed (n : Nat) (p0 : Str) : Option Bool := (((cond (decide (1 < (p0.length : Int))) ((sidx p0 ((p0.length : Int) - 1)).bind fun (x1 : Int) => (cond (x1 == 39) ((scut p0 0 ((p0.length : Int) - 1)).bind fun (x2 : Str) => ((R1_Identifier n x2).bind fun (x3 : Bool) => some x3)) (some false))) (some false)) : Option Bool).bind fun (s1 : Bool) => some s1)
set_option maxRecDepth 100000 in
set_option maxHeartbeats 40000000 in
theorem R1_Primed_ok (n : Nat) (p0 : Str) (r : Bool) (h : R1_Primed n p0 = some r) : ACalls Tryz.prog 190 [.str p0] [] (.bool r) [] := by
  unfold R1_Primed at h
  refine acalls_start true Tryz.func190 rfl (by rw [Tryz.ntmps190]; exact Nat.le_of_ble_eq_true rfl) fun Q hQ t ht => ?_
  conv at ht => whnf
  subst ht
  refine AW.seqK fun K1 hK1 => ?_
  refine AW.region τ_ok mixedO 0 ?_
  conv => whnf
  refine hK1 _ _ ?_
  refine AW.seqK fun K2 hK2 => ?_
  obtain ⟨s1, hj1, h⟩ := ob h
  have hR1 : ∀ t9 h9, Le 0 t9 h9 (u2 (.bool s1 :: (u16 (u2 (.unk :: []))))) [] → K2 t9 h9 := by
    intro t9 h9 hw
    refine hK2 _ _ (AW.le hw ?_)
    clear hw
    refine AW.ret ?_
    conv => whnf
    have e9 := Option.some.inj h
    subst e9
    refine hQ _ _ _ (retPure τ_ok (fun g => rfl) ?_)
    conv => whnf
  refine AW.know 0 0 fun hv1 => ?_
  refine AW.region τ_ok mixedO 0 ?_
  conv => whnf
  refine onB_cond hj1 (fun hc1 hj1 => ?_) (fun hc1 hj1 => ?_)
  · conv => whnf
    refine ⟨((p0.length : Int) - 1), by have := vfs hv1; exact w64_id (by omega) (by omega), ?_⟩
    conv => whnf
    obtain ⟨x1, hx1, hj1⟩ := ob hj1
    refine sidx_of hx1 ?_
    conv => whnf
    refine onB_cond hj1 (fun hc2 hj1 => ?_) (fun hc2 hj1 => ?_)
    · conv => whnf
      refine ⟨((p0.length : Int) - 1), by have := vfs hv1; exact w64_id (by omega) (by omega), ?_⟩
      conv => whnf
      obtain ⟨x2, hx2, hj1⟩ := ob hj1
      refine cut_s hx2 (.none _) (.int _ _ _) ?_
      conv => whnf
      obtain ⟨x3, hx3, hj1⟩ := ob hj1
      refine call_pur (R1_Identifier_ok _ _ _ hx3) okF_58 (.cons (.same _) .nil) (fun g => rfl) (fun g => rfl) ?_
      conv => whnf
      cases hj1
      exact hR1 _ _ (Le.of [] (Weak.mk' rfl (.u2 (.cons (.same rfl) (.u16 (.u2 (.cons (.unk _) .nil))))) .nil))
    · conv => whnf
      cases hj1
      exact hR1 _ _ (Le.of [] (Weak.mk' rfl (.u2 (.cons (.same rfl) (.u16 (.u2 (.cons (.unk _) .nil))))) .nil))
  · conv => whnf
    cases hj1
    exact hR1 _ _ (Le.of [] (Weak.mk' rfl (.u2 (.cons (.same rfl) (.u16 (.u2 (.cons (.unk _) .nil))))) .nil))
def R1_Named (n : Nat) (p0 : Str) : Option Bool := ((((R1_Identifier n p0).bind fun (x1 : Bool) => (cond x1 (some true) ((R1_Primed n p0).bind fun (x2 : Bool) => some x2))) : Option Bool).bind fun (s1 : Bool) => some s1)
set_option maxRecDepth 100000 in
set_option maxHeartbeats 40000000 in
theorem R1_Named_ok (n : Nat) (p0 : Str) (r : Bool) (h : R1_Named n p0 = some r) : ACalls Tryz.prog 116 [.str p0] [] (.bool r) [] := by
  unfold R1_Named at h
  refine acalls_start true Tryz.func116 rfl (by rw [Tryz.ntmps116]; exact Nat.le_of_ble_eq_true rfl) fun Q hQ t ht => ?_
  conv at ht => whnf
  subst ht
  refine AW.seqK fun K1 hK1 => ?_
  refine AW.region τ_ok mixedO 0 ?_
  conv => whnf
  refine hK1 _ _ ?_
  refine AW.seqK fun K2 hK2 => ?_
  obtain ⟨s1, hj1, h⟩ := ob h
  have hR1 : ∀ t9 h9, Le 0 t9 h9 (u2 (.bool s1 :: (u4 (u2 [])))) [] → K2 t9 h9 := by
    intro t9 h9 hw
    refine hK2 _ _ (AW.le hw ?_)
    clear hw
    refine AW.ret ?_
    conv => whnf
    have e9 := Option.some.inj h
    subst e9
    refine hQ _ _ _ (retPure τ_ok (fun g => rfl) ?_)
    conv => whnf
  refine AW.region τ_ok mixedO 0 ?_
  conv => whnf
  obtain ⟨x1, hx1, hj1⟩ := ob hj1
  refine call_pur (R1_Identifier_ok _ _ _ hx1) okF_58 (.cons (.same _) .nil) (fun g => rfl) (fun g => rfl) ?_
  conv => whnf
  refine onB_cond hj1 (fun hc1 hj1 => ?_) (fun hc1 hj1 => ?_)
  · conv => whnf
    cases hj1
    exact hR1 _ _ (Le.of [] (Weak.mk' rfl (.u2 (.cons (.same rfl) (.u4 (.u2 .nil)))) .nil))
  · conv => whnf
    obtain ⟨x2, hx2, hj1⟩ := ob hj1
    refine call_pur (R1_Primed_ok _ _ _ hx2) okF_190 (.cons (.same _) .nil) (fun g => rfl) (fun g => rfl) ?_
    conv => whnf
    cases hj1
    exact hR1 _ _ (Le.of [] (Weak.mk' rfl (.u2 (.cons (.same rfl) (.u4 (.u2 .nil)))) .nil))
def R1_typed_L0 (n : Nat) (rec_R1_typed : Ty → Int → Int → Option Int) (p0 : Ty) (p1 : Int) : Nat → (Int × Int) → Option (LR Int Int)
  | 0, _ => none
  | k + 1, s4 => (cond (decide (s4.2 < (p0.kids.length : Int))) ((idx p0.kids s4.2).bind fun (x1 : Ty) => ((rec_R1_typed x1 (IntKind.wrap .i64 (p1 + 1)) s4.1).bind fun (x2 : Int) => (cond (decide (x2 < 0)) (some (.rt (-1))) (R1_typed_L0 n rec_R1_typed p0 p1 k (x2, (s4.2 + 1)))))) (some (.nx s4.1)))
def R1_typed_body (n : Nat) (rec_R1_typed : Ty → Int → Int → Option Int) (p0 : Ty) (p1 : Int) (p2 : Int) : Option Int := (((cond (decide (6 < p1)) (some true) (cond (decide (16 < (IntKind.wrap .i64 (p2 + 1)))) (some true) (cond (p0.kind == 2) (some (decide (1 < p1))) (some false)))) : Option Bool).bind fun (s1 : Bool) => (cond s1 (some (-1)) (((((cond (p0.kind == 1) (some (p0.kind == 1)) (cond (p0.kind == 2) (some (p0.kind == 2)) (some (p0.kind == 3)))) : Option Bool).bind fun (s6 : Bool) => (cond s6 (some (.nx 0)) (cond (p0.kind == 5) (some (.nx 1)) (cond (p0.kind == 4) (some (.nx 2)) (some (.rt (-1))))))) : Option (LR Int Int)).bind (LR.el (fun (s2 : Int) => (((cond ((p0.kids.length : Int) != s2) (some true) (cond (p0.kind == 3) ((R1_Identifier n p0.name).bind fun (x3 : Bool) => (cond (!x3) (some true) (cond (p0.kind != 3) (some (!(p0.name == ([] : Str)))) (some false)))) (cond (p0.kind != 3) (some (!(p0.name == ([] : Str)))) (some false)))) : Option Bool).bind fun (s3 : Bool) => (cond s3 (some (-1)) ((R1_typed_L0 n rec_R1_typed p0 p1 n ((IntKind.wrap .i64 (p2 + 1)), 0)).bind (LR.el (fun (s5 : Int) => some s5) (fun r => some r)))))) (fun r => some r)))))
def R1_typed : Nat → Ty → Int → Int → Option Int
  | 0, _, _, _ => none
  | n + 1, p0, p1, p2 => R1_typed_body n (fun p0 p1 p2 => R1_typed n p0 p1 p2) p0 p1 p2
set_option maxRecDepth 100000 in
set_option maxHeartbeats 40000000 in
theorem R1_typed_body_ok (n : Nat) (rec_R1_typed : Ty → Int → Int → Option Int) (hrec_R1_typed : ∀ (p0 : Ty) (p1 : Int) (p2 : Int) (r : Int), rec_R1_typed p0 p1 p2 = some r → ACalls Tryz.prog 94 [.agg [.int .i64 p0.kind, .str p0.name, .slice (List.map encTy p0.kids) .shared], .int .i64 p1, .int .i64 p2] [] (.int .i64 r) []) (p0 : Ty) (p1 : Int) (p2 : Int) (r : Int) (h : R1_typed_body n rec_R1_typed p0 p1 p2 = some r) : ACalls Tryz.prog 94 [.agg [.int .i64 p0.kind, .str p0.name, .slice (List.map encTy p0.kids) .shared], .int .i64 p1, .int .i64 p2] [] (.int .i64 r) [] := by
  unfold R1_typed_body at h
  refine acalls_start true Tryz.func94 rfl (by rw [Tryz.ntmps94]; exact Nat.le_of_ble_eq_true rfl) fun Q hQ t ht => ?_
  conv at ht => whnf
  subst ht
  refine AW.seqK fun K1 hK1 => ?_
  refine AW.region τ_ok mixedO 1 ?_
  conv => whnf
  refine hK1 _ _ ?_
  refine AW.seqK fun K2 hK2 => ?_
  refine AW.region τ_ok mixedO 0 ?_
  conv => whnf
  refine ⟨(IntKind.wrap .i64 (p2 + 1)), rfl, ?_⟩
  conv => whnf
  refine hK2 _ _ ?_
  refine AW.seqK fun K3 hK3 => ?_
  refine AW.seqK fun K4 hK4 => ?_
  obtain ⟨s1, hj1, h⟩ := ob h
  have hR1 : ∀ t9 h9, Le 0 t9 h9 (.unk :: (.int .i64 p1 :: (.int .i64 (IntKind.wrap .i64 (p2 + 1)) :: (.ptr 0 0 :: (u16 (u4 (.unk :: (.bool s1 :: (u32 (u16 (u4 (u2 (.unk :: []))))))))))))) [.box [.int .i64 p0.kind, .str p0.name, .slice (List.map encTy p0.kids) .shared]] → K4 t9 h9 := by
    intro t9 h9 hw
    refine hK4 _ _ (AW.le hw ?_)
    clear hw
    refine AW.condS rfl h (fun hc1 h => ?_) (fun hc1 h => ?_)
    · refine AW.seqK fun K5 hK5 => ?_
      refine AW.region τ_ok mixedO 0 ?_
      conv => whnf
      refine hK5 _ _ ?_
      refine AW.ret ?_
      conv => whnf
      have e9 := Option.some.inj h
      subst e9
      refine hQ _ _ _ (retPure τ_ok (fun g => rfl) ?_)
      conv => whnf
    · refine AW.skip ?_
      conv => whnf
      refine hK3 _ _ ?_
      refine AW.seqK fun K6 hK6 => ?_
      refine AW.region τ_ok mixedO 0 ?_
      conv => whnf
      refine hK6 _ _ ?_
      refine AW.seqK fun K7 hK7 => ?_
      obtain ⟨o2, hj2, h⟩ := ob h
      have hR2 : ∀ s2 : Int, o2 = .nx s2 → ∀ t9 h9, Le 0 t9 h9 (.unk :: (.int .i64 p1 :: (.int .i64 (IntKind.wrap .i64 (p2 + 1)) :: (.ptr 0 0 :: (u2 (.unk :: (.int .i64 s2 :: (u64 (u8 (.unk :: [])))))))))) [.box [.int .i64 p0.kind, .str p0.name, .slice (List.map encTy p0.kids) .shared]] → K7 t9 h9 := by
        intro s2 ho
        subst ho
        dsimp only [LR.el] at h
        intro t9 h9 hw
        refine hK7 _ _ (AW.le hw ?_)
        clear hw
        refine AW.seqK fun K8 hK8 => ?_
        refine AW.seqK fun K9 hK9 => ?_
        obtain ⟨s3, hj3, h⟩ := ob h
        have hR3 : ∀ t9 h9, Le 0 t9 h9 (.unk :: (.int .i64 p1 :: (.int .i64 (IntKind.wrap .i64 (p2 + 1)) :: (.ptr 0 0 :: (u32 (u16 (u8 (.unk :: (.bool s3 :: (u16 (u2 (.unk :: [])))))))))))) [.box [.int .i64 p0.kind, .str p0.name, .slice (List.map encTy p0.kids) .shared]] → K9 t9 h9 := by
          intro t9 h9 hw
          refine hK9 _ _ (AW.le hw ?_)
          clear hw
          refine AW.condS rfl h (fun hc2 h => ?_) (fun hc2 h => ?_)
          · refine AW.seqK fun K10 hK10 => ?_
            refine AW.region τ_ok mixedO 0 ?_
            conv => whnf
            refine hK10 _ _ ?_
            refine AW.ret ?_
            conv => whnf
            have e9 := Option.some.inj h
            subst e9
            refine hQ _ _ _ (retPure τ_ok (fun g => rfl) ?_)
            conv => whnf
          · refine AW.skip ?_
            conv => whnf
            refine hK8 _ _ ?_
            refine AW.seqK fun K11 hK11 => ?_
            refine AW.seqK fun K12 hK12 => ?_
            refine AW.region τ_ok mixedO 0 ?_
            conv => whnf
            refine hK12 _ _ ?_
            refine AW.block ?_
            obtain ⟨o1, ho1, h⟩ := ob h
            have hR4 : ∀ s5 : Int, o1 = .nx s5 → ∀ t9 h9, Le 0 t9 h9 (u2 (.int .i64 s5 :: (u64 (u8 (u4 (u2 [])))))) [] → K11 t9 h9 := by
              intro s5 ho
              subst ho
              dsimp only [LR.el] at h
              intro t9 h9 hw
              refine hK11 _ _ (AW.le hw ?_)
              refine AW.seqK fun K13 hK13 => ?_
              refine AW.region τ_ok mixedO 0 ?_
              conv => whnf
              refine hK13 _ _ ?_
              refine AW.ret ?_
              conv => whnf
              have e9 := Option.some.inj h
              subst e9
              refine hQ _ _ _ (retPure τ_ok (fun g => rfl) ?_)
              conv => whnf
            refine AW.loopS (R1_typed_L0 n rec_R1_typed p0 p1) (fun (s4 : Int × Int) => (.unk :: (.int .i64 p1 :: (.int .i64 s4.1 :: (.ptr 0 0 :: (u4 (.int .i64 s4.2 :: (u64 (u8 []))))))))) (fun (s4 : Int × Int) => [.box [.int .i64 p0.kind, .str p0.name, .slice (List.map encTy p0.kids) .shared]]) ho1 (fun _ => rfl) (Le.of [some 0] (Weak.mk' rfl (.cons (.unk _) (.cons (.same rfl) (.cons (.same rfl) (.cons (.same rfl) (.u4 (.cons (.same rfl) (.u64 (.u8 .nil)))))))) (.old (.box' (.cons (.same rfl) (.cons (.same rfl) (.cons (.share (renl_Ty _ _)) .nil)))) .nil))) ?_
            intro n1 s4 hs1 KL1 hKL1
            unfold R1_typed_L0 at hs1
            refine AW.seqK fun K14 hK14 => ?_
            refine AW.seqK fun K15 hK15 => ?_
            refine AW.region τ_ok mixedO 0 ?_
            conv => whnf
            refine len_of (l := p0.kids) (f := encTy) ?_
            conv => whnf
            refine hK15 _ _ ?_
            refine AW.condS rfl hs1 (fun hc3 hs1 => ?_) (fun hc3 hs1 => ?_)
            · refine AW.skip ?_
              conv => whnf
              refine hK14 _ _ ?_
              refine AW.seqK fun K16 hK16 => ?_
              refine AW.block ?_
              refine AW.seqK fun K17 hK17 => ?_
              refine AW.region τ_ok mixedO 0 ?_
              conv => whnf
              obtain ⟨x1, hx1, hs1⟩ := ob hs1
              refine idx_of (l := p0.kids) (f := encTy) (cs := [.int .i64 ((x1).kind), .str ((x1).name), .slice (List.map encTy ((x1).kids)) .shared]) hx1 (encTy_eq x1) rfl ?_
              conv => whnf
              refine ⟨(IntKind.wrap .i64 (p1 + 1)), rfl, ?_⟩
              conv => whnf
              obtain ⟨x2, hx2, hs1⟩ := ob hs1
              refine call_pur (hrec_R1_typed _ _ _ _ hx2) okF_94 (.cons (.same _) (.cons (.same _) (.cons (.same _) .nil))) (fun g => by simp only [ren, renL, renLL, renT, renL_app, renl_I, renl_S, renl_U8, renl_Ty, renl_Tm, renl_Carrier, renl_Decl]) (fun g => rfl) ?_
              conv => whnf
              refine hK17 _ _ ?_
              refine AW.seqK fun K18 hK18 => ?_
              refine AW.region τ_ok mixedO 0 ?_
              conv => whnf
              refine hK18 _ _ ?_
              refine AW.condS rfl hs1 (fun hc4 hs1 => ?_) (fun hc4 hs1 => ?_)
              · refine AW.seqK fun K19 hK19 => ?_
                refine AW.region τ_ok mixedO 0 ?_
                conv => whnf
                refine hK19 _ _ ?_
                refine AW.ret ?_
                conv => whnf
                have e9 := Option.some.inj hs1
                subst e9
                dsimp only [LR.el] at h
                have e9 := Option.some.inj h
                subst e9
                refine hQ _ _ _ (retPure τ_ok (fun g => rfl) ?_)
                conv => whnf
              · refine AW.skip ?_
                conv => whnf
                refine hK16 _ _ ?_
                refine AW.know 8 0 fun hv1 => ?_
                refine AW.know 64 0 fun hv2 => ?_
                refine AW.region τ_ok mixedO 0 ?_
                conv => whnf
                refine ⟨(s4.2 + 1), by have := wf64 hv1; have := vfl hv2; have h8 := of_decide_eq_true hc3; exact w64_id (by omega) (by omega), ?_⟩
                conv => whnf
                exact hKL1 _ _ _ hs1 (Le.of [some 0] (Weak.mk' rfl (.cons (.unk _) (.cons (.same rfl) (.cons (.same rfl) (.cons (.same rfl) (.u4 (.cons (.same rfl) (.u64 (.u8 .nil)))))))) (.old (.box' (.cons (.same rfl) (.cons (.same rfl) (.cons (.share (renl_Ty _ _)) .nil)))) .nil)))
            · refine AW.exit ?_
              conv => whnf
              exact hR4 _ (Option.some.inj hs1).symm _ _ (Le.of [] (Weak.mk' rfl (.u2 (.cons (.same rfl) (.u64 (.u8 (.u4 (.u2 .nil)))))) .nil))
        refine AW.region τ_ok mixedO 0 ?_
        conv => whnf
        refine len_of (l := p0.kids) (f := encTy) ?_
        conv => whnf
        refine onB_cond hj3 (fun hc5 hj3 => ?_) (fun hc5 hj3 => ?_)
        · conv => whnf
          cases hj3
          exact hR3 _ _ (Le.of [some 0] (Weak.mk' rfl (.cons (.unk _) (.cons (.same rfl) (.cons (.same rfl) (.cons (.same rfl) (.u32 (.u16 (.u8 (.cons (.unk _) (.cons (.same rfl) (.u16 (.u2 (.cons (.unk _) .nil)))))))))))) (.old (.box' (.cons (.same rfl) (.cons (.same rfl) (.cons (.share (renl_Ty _ _)) .nil)))) .nil)))
        · conv => whnf
          refine onB_cond hj3 (fun hc6 hj3 => ?_) (fun hc6 hj3 => ?_)
          · conv => whnf
            obtain ⟨x3, hx3, hj3⟩ := ob hj3
            refine call_pur (R1_Identifier_ok _ _ _ hx3) okF_58 (.cons (.same _) .nil) (fun g => rfl) (fun g => rfl) ?_
            conv => whnf
            refine onB_cond hj3 (fun hc7 hj3 => ?_) (fun hc7 hj3 => ?_)
            · conv => whnf
              cases hj3
              exact hR3 _ _ (Le.of [some 0] (Weak.mk' rfl (.cons (.unk _) (.cons (.same rfl) (.cons (.same rfl) (.cons (.same rfl) (.u32 (.u16 (.u8 (.cons (.unk _) (.cons (.same rfl) (.u16 (.u2 (.cons (.unk _) .nil)))))))))))) (.old (.box' (.cons (.same rfl) (.cons (.same rfl) (.cons (.share (renl_Ty _ _)) .nil)))) .nil)))
            · conv => whnf
              refine onB_cond hj3 (fun hc8 hj3 => ?_) (fun hc8 hj3 => ?_)
              · conv => whnf
                cases hj3
                exact hR3 _ _ (Le.of [some 0] (Weak.mk' rfl (.cons (.unk _) (.cons (.same rfl) (.cons (.same rfl) (.cons (.same rfl) (.u32 (.u16 (.u8 (.cons (.unk _) (.cons (.same rfl) (.u16 (.u2 (.cons (.unk _) .nil)))))))))))) (.old (.box' (.cons (.same rfl) (.cons (.same rfl) (.cons (.share (renl_Ty _ _)) .nil)))) .nil)))
              · conv => whnf
                cases hj3
                exact hR3 _ _ (Le.of [some 0] (Weak.mk' rfl (.cons (.unk _) (.cons (.same rfl) (.cons (.same rfl) (.cons (.same rfl) (.u32 (.u16 (.u8 (.cons (.unk _) (.cons (.same rfl) (.u16 (.u2 (.cons (.unk _) .nil)))))))))))) (.old (.box' (.cons (.same rfl) (.cons (.same rfl) (.cons (.share (renl_Ty _ _)) .nil)))) .nil)))
          · conv => whnf
            refine onB_cond hj3 (fun hc9 hj3 => ?_) (fun hc9 hj3 => ?_)
            · conv => whnf
              cases hj3
              exact hR3 _ _ (Le.of [some 0] (Weak.mk' rfl (.cons (.unk _) (.cons (.same rfl) (.cons (.same rfl) (.cons (.same rfl) (.u32 (.u16 (.u8 (.cons (.unk _) (.cons (.same rfl) (.u16 (.u2 (.cons (.unk _) .nil)))))))))))) (.old (.box' (.cons (.same rfl) (.cons (.same rfl) (.cons (.share (renl_Ty _ _)) .nil)))) .nil)))
            · conv => whnf
              cases hj3
              exact hR3 _ _ (Le.of [some 0] (Weak.mk' rfl (.cons (.unk _) (.cons (.same rfl) (.cons (.same rfl) (.cons (.same rfl) (.u32 (.u16 (.u8 (.cons (.unk _) (.cons (.same rfl) (.u16 (.u2 (.cons (.unk _) .nil)))))))))))) (.old (.box' (.cons (.same rfl) (.cons (.same rfl) (.cons (.share (renl_Ty _ _)) .nil)))) .nil)))
      refine AW.seqK fun K20 hK20 => ?_
      refine AW.region τ_ok mixedO 0 ?_
      conv => whnf
      refine hK20 _ _ ?_
      refine AW.block ?_
      refine AW.seqK fun K21 hK21 => ?_
      obtain ⟨s6, hj4, hj2⟩ := ob hj2
      have hR5 : ∀ t9 h9, Le 0 t9 h9 (.unk :: (.int .i64 p1 :: (.int .i64 (IntKind.wrap .i64 (p2 + 1)) :: (.ptr 0 0 :: (u2 (.unk :: (.int .i64 0 :: (u16 (u2 (.unk :: (.int .i64 p0.kind :: (.bool s6 :: (u32 (u16 (u4 []))))))))))))))) [.box [.int .i64 p0.kind, .str p0.name, .slice (List.map encTy p0.kids) .shared]] → K21 t9 h9 := by
        intro t9 h9 hw
        refine hK21 _ _ (AW.le hw ?_)
        clear hw
        refine AW.condS rfl hj2 (fun hc10 hj2 => ?_) (fun hc10 hj2 => ?_)
        · refine AW.skip ?_
          conv => whnf
          exact hR2 _ (Option.some.inj hj2).symm _ _ (Le.of [some 0] (Weak.mk' rfl (.cons (.unk _) (.cons (.same rfl) (.cons (.same rfl) (.cons (.same rfl) (.u2 (.cons (.unk _) (.cons (.same rfl) (.u64 (.u8 (.cons (.unk _) .nil)))))))))) (.old (.box' (.cons (.same rfl) (.cons (.same rfl) (.cons (.share (renl_Ty _ _)) .nil)))) .nil)))
        · refine AW.seqK fun K22 hK22 => ?_
          refine AW.region τ_ok mixedO 0 ?_
          conv => whnf
          refine hK22 _ _ ?_
          refine AW.condS rfl hj2 (fun hc11 hj2 => ?_) (fun hc11 hj2 => ?_)
          · refine AW.region τ_ok mixedO 0 ?_
            conv => whnf
            exact hR2 _ (Option.some.inj hj2).symm _ _ (Le.of [some 0] (Weak.mk' rfl (.cons (.unk _) (.cons (.same rfl) (.cons (.same rfl) (.cons (.same rfl) (.u2 (.cons (.unk _) (.cons (.same rfl) (.u64 (.u8 (.cons (.unk _) .nil)))))))))) (.old (.box' (.cons (.same rfl) (.cons (.same rfl) (.cons (.share (renl_Ty _ _)) .nil)))) .nil)))
          · refine AW.seqK fun K23 hK23 => ?_
            refine AW.region τ_ok mixedO 0 ?_
            conv => whnf
            refine hK23 _ _ ?_
            refine AW.condS rfl hj2 (fun hc12 hj2 => ?_) (fun hc12 hj2 => ?_)
            · refine AW.region τ_ok mixedO 0 ?_
              conv => whnf
              exact hR2 _ (Option.some.inj hj2).symm _ _ (Le.of [some 0] (Weak.mk' rfl (.cons (.unk _) (.cons (.same rfl) (.cons (.same rfl) (.cons (.same rfl) (.u2 (.cons (.unk _) (.cons (.same rfl) (.u64 (.u8 (.cons (.unk _) .nil)))))))))) (.old (.box' (.cons (.same rfl) (.cons (.same rfl) (.cons (.share (renl_Ty _ _)) .nil)))) .nil)))
            · refine AW.seqK fun K24 hK24 => ?_
              refine AW.region τ_ok mixedO 0 ?_
              conv => whnf
              refine hK24 _ _ ?_
              refine AW.ret ?_
              conv => whnf
              have e9 := Option.some.inj hj2
              subst e9
              dsimp only [LR.el] at h
              have e9 := Option.some.inj h
              subst e9
              refine hQ _ _ _ (retPure τ_ok (fun g => rfl) ?_)
              conv => whnf
      refine AW.seqK fun K25 hK25 => ?_
      refine AW.region τ_ok mixedO 0 ?_
      conv => whnf
      refine hK25 _ _ ?_
      refine AW.condS rfl hj4 (fun hc13 hj4 => ?_) (fun hc13 hj4 => ?_)
      · refine AW.skip ?_
        conv => whnf
        cases hj4
        exact hR5 _ _ (Le.of [some 0] (Weak.mk' rfl (.cons (.unk _) (.cons (.same rfl) (.cons (.same rfl) (.cons (.same rfl) (.u2 (.cons (.unk _) (.cons (.same rfl) (.u16 (.u2 (.cons (.unk _) (.cons (.same rfl) (.cons (.same rfl) (.u32 (.u16 (.u4 .nil))))))))))))))) (.old (.box' (.cons (.same rfl) (.cons (.same rfl) (.cons (.share (renl_Ty _ _)) .nil)))) .nil)))
      · refine AW.seqK fun K26 hK26 => ?_
        refine AW.region τ_ok mixedO 0 ?_
        conv => whnf
        refine hK26 _ _ ?_
        refine AW.condS rfl hj4 (fun hc14 hj4 => ?_) (fun hc14 hj4 => ?_)
        · refine AW.skip ?_
          conv => whnf
          cases hj4
          exact hR5 _ _ (Le.of [some 0] (Weak.mk' rfl (.cons (.unk _) (.cons (.same rfl) (.cons (.same rfl) (.cons (.same rfl) (.u2 (.cons (.unk _) (.cons (.same rfl) (.u16 (.u2 (.cons (.unk _) (.cons (.same rfl) (.cons (.same rfl) (.u32 (.u16 (.u4 .nil))))))))))))))) (.old (.box' (.cons (.same rfl) (.cons (.same rfl) (.cons (.share (renl_Ty _ _)) .nil)))) .nil)))
        · refine AW.region τ_ok mixedO 0 ?_
          conv => whnf
          cases hj4
          exact hR5 _ _ (Le.of [some 0] (Weak.mk' rfl (.cons (.unk _) (.cons (.same rfl) (.cons (.same rfl) (.cons (.same rfl) (.u2 (.cons (.unk _) (.cons (.same rfl) (.u16 (.u2 (.cons (.unk _) (.cons (.same rfl) (.cons (.same rfl) (.u32 (.u16 (.u4 .nil))))))))))))))) (.old (.box' (.cons (.same rfl) (.cons (.same rfl) (.cons (.share (renl_Ty _ _)) .nil)))) .nil)))
  refine AW.region τ_ok mixedO 0 ?_
  conv => whnf
  refine onB_cond hj1 (fun hc15 hj1 => ?_) (fun hc15 hj1 => ?_)
  · conv => whnf
    cases hj1
    exact hR1 _ _ (Le.of [some 0] (Weak.mk' rfl (.cons (.unk _) (.cons (.same rfl) (.cons (.same rfl) (.cons (.same rfl) (.u16 (.u4 (.cons (.unk _) (.cons (.same rfl) (.u32 (.u16 (.u4 (.u2 (.cons (.unk _) .nil))))))))))))) (.old (.box' (.cons (.same rfl) (.cons (.same rfl) (.cons (.share (renl_Ty _ _)) .nil)))) .nil)))
  · conv => whnf
    refine onB_cond hj1 (fun hc16 hj1 => ?_) (fun hc16 hj1 => ?_)
    · conv => whnf
      cases hj1
      exact hR1 _ _ (Le.of [some 0] (Weak.mk' rfl (.cons (.unk _) (.cons (.same rfl) (.cons (.same rfl) (.cons (.same rfl) (.u16 (.u4 (.cons (.unk _) (.cons (.same rfl) (.u32 (.u16 (.u4 (.u2 (.cons (.unk _) .nil))))))))))))) (.old (.box' (.cons (.same rfl) (.cons (.same rfl) (.cons (.share (renl_Ty _ _)) .nil)))) .nil)))
    · conv => whnf
      refine onB_cond hj1 (fun hc17 hj1 => ?_) (fun hc17 hj1 => ?_)
      · conv => whnf
        cases hj1
        exact hR1 _ _ (Le.of [some 0] (Weak.mk' rfl (.cons (.unk _) (.cons (.same rfl) (.cons (.same rfl) (.cons (.same rfl) (.u16 (.u4 (.cons (.unk _) (.cons (.same rfl) (.u32 (.u16 (.u4 (.u2 (.cons (.unk _) .nil))))))))))))) (.old (.box' (.cons (.same rfl) (.cons (.same rfl) (.cons (.share (renl_Ty _ _)) .nil)))) .nil)))
      · conv => whnf
        cases hj1
        exact hR1 _ _ (Le.of [some 0] (Weak.mk' rfl (.cons (.unk _) (.cons (.same rfl) (.cons (.same rfl) (.cons (.same rfl) (.u16 (.u4 (.cons (.unk _) (.cons (.same rfl) (.u32 (.u16 (.u4 (.u2 (.cons (.unk _) .nil))))))))))))) (.old (.box' (.cons (.same rfl) (.cons (.same rfl) (.cons (.share (renl_Ty _ _)) .nil)))) .nil)))
theorem R1_typed_all (n : Nat) : (∀ (p0 : Ty) (p1 : Int) (p2 : Int) (r : Int), R1_typed n p0 p1 p2 = some r → ACalls Tryz.prog 94 [.agg [.int .i64 p0.kind, .str p0.name, .slice (List.map encTy p0.kids) .shared], .int .i64 p1, .int .i64 p2] [] (.int .i64 r) []) := by
  induction n with
  | zero => exact (fun p0 p1 p2 r h => by unfold R1_typed at h; cases h)
  | succ n ih =>
    exact (fun p0 p1 p2 r h => R1_typed_body_ok n _ ih p0 p1 p2 r (by unfold R1_typed at h; exact h))
theorem R1_typed_ok (n : Nat) (p0 : Ty) (p1 : Int) (p2 : Int) (r : Int) (h : R1_typed n p0 p1 p2 = some r) : ACalls Tryz.prog 94 [.agg [.int .i64 p0.kind, .str p0.name, .slice (List.map encTy p0.kids) .shared], .int .i64 p1, .int .i64 p2] [] (.int .i64 r) [] := (R1_typed_all n) p0 p1 p2 r h
def R1_ValidType (n : Nat) (p0 : Ty) : Option Bool := ((R1_typed n p0 1 0).bind fun (x1 : Int) => some (decide (0 < x1)))
set_option maxRecDepth 100000 in
set_option maxHeartbeats 40000000 in
theorem R1_ValidType_ok (n : Nat) (p0 : Ty) (r : Bool) (h : R1_ValidType n p0 = some r) : ACalls Tryz.prog 42 [.agg [.int .i64 p0.kind, .str p0.name, .slice (List.map encTy p0.kids) .shared]] [] (.bool r) [] := by
  unfold R1_ValidType at h
  refine acalls_start true Tryz.func42 rfl (by rw [Tryz.ntmps42]; exact Nat.le_of_ble_eq_true rfl) fun Q hQ t ht => ?_
  conv at ht => whnf
  subst ht
  refine AW.seqK fun K1 hK1 => ?_
  refine AW.region τ_ok mixedO 1 ?_
  conv => whnf
  refine hK1 _ _ ?_
  refine AW.seqK fun K2 hK2 => ?_
  refine AW.region τ_ok mixedO 0 ?_
  conv => whnf
  obtain ⟨x1, hx1, h⟩ := ob h
  refine call_pur (R1_typed_ok _ _ _ _ _ hx1) okF_94 (.cons (.same _) (.cons (.same _) (.cons (.same _) .nil))) (fun g => by simp only [ren, renL, renLL, renT, renL_app, renl_I, renl_S, renl_U8, renl_Ty, renl_Tm, renl_Carrier, renl_Decl]) (fun g => rfl) ?_
  conv => whnf
  refine hK2 _ _ ?_
  refine AW.ret ?_
  conv => whnf
  have e9 := Option.some.inj h
  subst e9
  refine hQ _ _ _ (retPure τ_ok (fun g => rfl) ?_)
  conv => whnf
end Abs
end Go.Proofs.YtiiaccpcoclklaaGreat
