/-
  Plain functions and the contracts of Go functions by them (printed by gen.py). Conditions: none. Plain functions and the contracts of Go functions by them (printed by gen.py). Conditions: none. All texts of the functions. Conditions: none. Identifiers and names: the program's functions and the document's come to the same plain answer. Conditions: none; lemmas without a program. Valid types: the program's functions and the document's come to the same plain answer. Conditions: none; lemmas without a program.
-/
import Derived.Test.YtiiaccpcoclklaaGreatBTypingUnionsProof5
import Derived.Test.YtiiaccpcoclklaaGreatBTypingUnionsProof9
import Derived.Test.YtiiaccpcoclklaaGreatBTypingUnionsProof10
import Derived.Test.YtiiaccpcoclklaaGreatBTypingUnionsProof11
import Derived.KernelRfl
import Derived.Test.YtiiaccpcoclklaaGreatBTypingUnionsProof6
import Derived.Test.YtiiaccpcoclklaaGreatBTypingUnionsProof8
import Derived.Test.YtiiaccpcoclklaaGreatBTypingUnionsProof12
import Derived.Test.YtiiaccpcoclklaaGreatBTypingUnionsProof7
set_option linter.unusedSimpArgs false
set_option linter.unusedVariables false
namespace Go.Proofs.YtiiaccpcoclklaaGreat
namespace Abs
open Go Go.Proofs
def R2_Union_L2 (n : Nat) (p0 : Env) (x2 : (List Carrier) × (List Decl)) : Nat → (Int × (List Carrier)) → Option (LR (List Carrier) (Env × Int))
  | 0, _ => none
  | k + 1, s2 => (cond (decide (s2.1 < (x2.1.length : Int))) ((((idx x2.1 s2.1).bind fun (x12 : Carrier) => ((R2_FindCarrier n p0 x12.name).bind fun (x13 : Int) => (((cond (decide (0 ≤ x13)) ((idx p0.carriers x13).bind fun (x15 : Carrier) => ((R2_SameCarrier n x15 x12).bind fun (x16 : Bool) => some (!x16))) (some false)) : Option Bool).bind fun (s12 : Bool) => (cond s12 (some (.rt ((Env.mk ([]) ([])), 8))) (cond (decide (x13 < 0)) ((app 40 s2.2 ([x12])).bind fun (x14 : List Carrier) => some (.nx x14)) (some (.nx s2.2))))))) : Option (LR (List Carrier) (Env × Int))).bind (LR.el (fun (s11 : List Carrier) => R2_Union_L2 n p0 x2 k ((s2.1 + 1), s11)) (fun r => some (.rt r)))) (some (.nx s2.2)))
def R2_Union_L1 (n : Nat) (p0 : Env) (x2 : (List Carrier) × (List Decl)) : Nat → (Int × (List Decl)) → Option (LR (List Decl) (Env × Int))
  | 0, _ => none
  | k + 1, s4 => (cond (decide (s4.1 < (x2.2.length : Int))) ((((idx x2.2 s4.1).bind fun (x7 : Decl) => ((R2_FindName n p0 x7.name).bind fun (x8 : Int) => (((cond (decide (0 ≤ x8)) ((idx p0.names x8).bind fun (x10 : Decl) => ((R1_SameType n x10.ty x7.ty).bind fun (x11 : Bool) => some (!x11))) (some false)) : Option Bool).bind fun (s10 : Bool) => (cond s10 (some (.rt ((Env.mk ([]) ([])), 8))) (cond (decide (x8 < 0)) ((app 64 s4.2 ([x7])).bind fun (x9 : List Decl) => some (.nx x9)) (some (.nx s4.2))))))) : Option (LR (List Decl) (Env × Int))).bind (LR.el (fun (s9 : List Decl) => R2_Union_L1 n p0 x2 k ((s4.1 + 1), s9)) (fun r => some (.rt r)))) (some (.nx s4.2)))
def R2_Union_L0 (n : Nat) (x3 : List Str) : Nat → Int → Option (LR Unit (Env × Int))
  | 0, _ => none
  | k + 1, s6 => (cond (decide (s6 < (x3.length : Int))) ((idx x3 s6).bind fun (x4 : Str) => ((scut x3 0 s6).bind fun (x5 : List Str) => ((R1_In n x4 x5).bind fun (x6 : Bool) => (cond x6 (some (.rt ((Env.mk ([]) ([])), 8))) (R2_Union_L0 n x3 k (s6 + 1)))))) (some (.nx ())))
def R2_Union (n : Nat) (p0 : Env) (p1 : Env) : Option (Env × Int) := ((((R2_ValidEnv n p0).bind fun (x17 : Bool) => (cond (!x17) (some true) ((R2_ValidEnv n p1).bind fun (x18 : Bool) => some (!x18)))) : Option Bool).bind fun (s1 : Bool) => (cond s1 (some ((Env.mk ([]) ([])), 1)) ((R2_CopyEnv n p0).bind fun (x1 : (List Carrier) × (List Decl)) => ((R2_CopyEnv n p1).bind fun (x2 : (List Carrier) × (List Decl)) => ((R2_Union_L2 n p0 x2 n (0, x1.1)).bind (LR.el (fun (s3 : List Carrier) => ((R2_Union_L1 n p0 x2 n (0, x1.2)).bind (LR.el (fun (s5 : List Decl) => ((R2_AllNames n (Env.mk s3 s5)).bind fun (x3 : List Str) => ((R2_Union_L0 n x3 n 0).bind (LR.el (fun (s7 : Unit) => (((cond (decide (8 < (s3.length : Int))) (some true) (some (decide (64 < (s5.length : Int))))) : Option Bool).bind fun (s8 : Bool) => (cond s8 (some ((Env.mk ([]) ([])), 5)) (some ((Env.mk s3 s5), 0))))) (fun r => some r))))) (fun r => some r)))) (fun r => some r)))))))
set_option maxRecDepth 100000 in
set_option maxHeartbeats 40000000 in
theorem R2_Union_ok (n : Nat) (p0 : Env) (p1 : Env) (r : Env × Int) (h : R2_Union n p0 p1 = some r) : ACalls Tryz.prog 61 [.agg [.slice (List.map encCarrier p0.carriers) .shared, .slice (List.map encDecl p0.names) .shared], .agg [.slice (List.map encCarrier p1.carriers) .shared, .slice (List.map encDecl p1.names) .shared]] [] (.tup [.agg [.slice (List.map encCarrier r.1.carriers) .shared, .slice (List.map encDecl r.1.names) .shared], .int .i64 r.2]) [] := by
  unfold R2_Union at h
  refine acalls_start true Tryz.func61 rfl (by rw [Tryz.ntmps61]; exact Nat.le_of_ble_eq_true rfl) fun Q hQ t ht => ?_
  conv at ht => whnf
  subst ht
  refine AW.seqK fun K1 hK1 => ?_
  refine AW.region τ_ok mixedO 3 ?_
  conv => whnf
  refine hK1 _ _ ?_
  refine AW.seqK fun K2 hK2 => ?_
  refine AW.seqK fun K3 hK3 => ?_
  obtain ⟨s1, hj1, h⟩ := ob h
  have hR1 : ∀ t9 h9, Le 0 t9 h9 (u2 (.ptr 0 0 :: (.ptr 1 0 :: (.ptr 2 0 :: (u16 (u2 (.bool s1 :: (u64 (u32 (u8 (u4 (u2 [])))))))))))) [.box [.slice (List.map encCarrier p0.carriers) .shared, .slice (List.map encDecl p0.names) .shared], .box [.slice (List.map encCarrier p1.carriers) .shared, .slice (List.map encDecl p1.names) .shared], .box [.slice (List.map encCarrier ([] : List Carrier)) .nils, .slice (List.map encDecl ([] : List Decl)) .nils]] → K3 t9 h9 := by
    intro t9 h9 hw
    refine hK3 _ _ (AW.le hw ?_)
    clear hw
    refine AW.condS rfl h (fun hc1 h => ?_) (fun hc1 h => ?_)
    · refine AW.seqK fun K4 hK4 => ?_
      refine AW.region τ_ok mixedO 0 ?_
      conv => whnf
      refine hK4 _ _ ?_
      refine AW.ret ?_
      conv => whnf
      have e9 := Option.some.inj h
      subst e9
      refine hQ _ _ _ (retPure τ_ok (fun g => by simp only [ren, renL, renLL, renT, renL_app, renl_I, renl_S, renl_U8, renl_Ty, renl_Tm, renl_Carrier, renl_Decl]) ?_)
      conv => whnf
      try rfl
    · refine AW.skip ?_
      conv => whnf
      refine hK2 _ _ ?_
      refine AW.seqK fun K5 hK5 => ?_
      refine AW.region τ_ok mixedO 3 ?_
      conv => whnf
      obtain ⟨x1, hx1, h⟩ := ob h
      refine call_gen [] [3, 4] [.agg [.slice (List.map encCarrier p0.carriers) .shared, .slice (List.map encDecl p0.names) .shared]] [.agg [.slice (List.map encCarrier p0.carriers) .shared, .slice (List.map encDecl p0.names) .shared]] (R2_CopyEnv_ok _ _ _ hx1) okF_59 rfl .nil (by simp only [ren, renL, renLL, renT, renL_app, renl_I, renl_S, renl_U8, renl_Ty, renl_Tm, renl_Carrier, renl_Decl]; try rfl) (.cons (.same _) .nil) (rn := .agg [.slice (List.map encCarrier x1.1) (.tip 3 2), .slice (List.map encDecl x1.2) (.tip 4 4)]) (by simp only [ren, renL, renLL, renT, renL_app, renl_I, renl_S, renl_U8, renl_Ty, renl_Tm, renl_Carrier, renl_Decl]; try rfl) (Hn := [.tip (List.length x1.1 * 2), .tip (List.length x1.2 * 4)]) ((rcons (rfl) (rcons (rfl) rfl))) ?_
      conv => whnf
      refine hK5 _ _ ?_
      refine AW.seqK fun K6 hK6 => ?_
      refine AW.region τ_ok mixedO 3 ?_
      conv => whnf
      obtain ⟨x2, hx2, h⟩ := ob h
      refine call_gen [] [6, 7] [.agg [.slice (List.map encCarrier p1.carriers) .shared, .slice (List.map encDecl p1.names) .shared]] [.agg [.slice (List.map encCarrier p1.carriers) .shared, .slice (List.map encDecl p1.names) .shared]] (R2_CopyEnv_ok _ _ _ hx2) okF_59 rfl .nil (by simp only [ren, renL, renLL, renT, renL_app, renl_I, renl_S, renl_U8, renl_Ty, renl_Tm, renl_Carrier, renl_Decl]; try rfl) (.cons (.same _) .nil) (rn := .agg [.slice (List.map encCarrier x2.1) (.tip 6 2), .slice (List.map encDecl x2.2) (.tip 7 4)]) (by simp only [ren, renL, renLL, renT, renL_app, renl_I, renl_S, renl_U8, renl_Ty, renl_Tm, renl_Carrier, renl_Decl]; try rfl) (Hn := [.tip (List.length x2.1 * 2), .tip (List.length x2.2 * 4)]) ((rcons (rfl) (rcons (rfl) rfl))) ?_
      conv => whnf
      refine hK6 _ _ ?_
      refine AW.seqK fun K7 hK7 => ?_
      refine AW.seqK fun K8 hK8 => ?_
      refine AW.region τ_ok mixedO 0 ?_
      conv => whnf
      refine hK8 _ _ ?_
      refine AW.block ?_
      obtain ⟨o1, ho1, h⟩ := ob h
      have hR2 : ∀ s3 : List Carrier, o1 = .nx s3 → ∀ t9 h9, Le 0 t9 h9 (u2 (.ptr 0 0 :: (.unk :: (.ptr 1 0 :: (.unk :: (.ptr 2 0 :: (.ptr 3 0 :: (u64 (u32 (u16 (u8 (u4 (u2 []))))))))))))) [.box [.slice (List.map encCarrier p0.carriers) .shared, .slice (List.map encDecl p0.names) .shared], .box [.slice (List.map encCarrier ([] : List Carrier)) .nils, .slice (List.map encDecl ([] : List Decl)) .nils], .box [.slice (List.map encCarrier s3) (.tip 4 2), .slice (List.map encDecl x1.2) (.tip 5 4)], .box [.slice (List.map encCarrier x2.1) (.tip 6 2), .slice (List.map encDecl x2.2) (.tip 7 4)], .tip (List.length s3 * 2), .tip (List.length x1.2 * 4), .tip (List.length x2.1 * 2), .tip (List.length x2.2 * 4)] → K7 t9 h9 := by
        intro s3 ho
        subst ho
        dsimp only [LR.el] at h
        intro t9 h9 hw
        refine hK7 _ _ (AW.le hw ?_)
        refine AW.seqK fun K9 hK9 => ?_
        refine AW.seqK fun K10 hK10 => ?_
        refine AW.region τ_ok mixedO 0 ?_
        conv => whnf
        refine hK10 _ _ ?_
        refine AW.block ?_
        obtain ⟨o2, ho2, h⟩ := ob h
        have hR3 : ∀ s5 : List Decl, o2 = .nx s5 → ∀ t9 h9, Le 0 t9 h9 (u4 (.ptr 0 0 :: (.unk :: (.ptr 1 0 :: (u64 (u32 (u16 (u8 (u4 (u2 (.unk :: []))))))))))) [.box [.slice (List.map encCarrier ([] : List Carrier)) .nils, .slice (List.map encDecl ([] : List Decl)) .nils], .box [.slice (List.map encCarrier s3) (.tip 2 2), .slice (List.map encDecl s5) (.tip 3 4)], .tip (List.length s3 * 2), .tip (List.length s5 * 4)] → K9 t9 h9 := by
          intro s5 ho
          subst ho
          dsimp only [LR.el] at h
          intro t9 h9 hw
          refine hK9 _ _ (AW.le hw ?_)
          refine AW.seqK fun K11 hK11 => ?_
          refine AW.region τ_ok mixedO 1 ?_
          conv => whnf
          obtain ⟨x3, hx3, h⟩ := ob h
          refine call_gen [] [4] [.agg [.slice (List.map encCarrier s3) .shared, .slice (List.map encDecl s5) .shared]] [.agg [.slice (List.map encCarrier s3) .shared, .slice (List.map encDecl s5) .shared]] (R2_AllNames_ok _ _ _ hx3) okF_62 rfl .nil (by simp only [ren, renL, renLL, renT, renL_app, renl_I, renl_S, renl_U8, renl_Ty, renl_Tm, renl_Carrier, renl_Decl]; try rfl) (.cons (.agg' (.cons (.share _ _) (.cons (.share _ _) .nil))) .nil) (rn := .slice (List.map encS x3) (.tip 4 1)) (by simp only [ren, renL, renLL, renT, renL_app, renl_I, renl_S, renl_U8, renl_Ty, renl_Tm, renl_Carrier, renl_Decl]; try rfl) (Hn := [.tip (List.length x3 * 1)]) ((rcons (rfl) rfl)) ?_
          conv => whnf
          refine hK11 _ _ ?_
          refine AW.seqK fun K12 hK12 => ?_
          refine AW.seqK fun K13 hK13 => ?_
          refine AW.region τ_ok mixedO 0 ?_
          conv => whnf
          refine hK13 _ _ ?_
          refine AW.block ?_
          obtain ⟨o3, ho3, h⟩ := ob h
          have hR4 : ∀ s7 : Unit, o3 = .nx s7 → ∀ t9 h9, Le 0 t9 h9 (u4 (.ptr 0 0 :: (.unk :: (.ptr 1 0 :: (u64 (u32 (u16 (u8 (u4 (u2 (.unk :: []))))))))))) [.box [.slice (List.map encCarrier ([] : List Carrier)) .nils, .slice (List.map encDecl ([] : List Decl)) .nils], .box [.slice (List.map encCarrier s3) (.tip 2 2), .slice (List.map encDecl s5) (.tip 3 4)], .tip (List.length s3 * 2), .tip (List.length s5 * 4)] → K12 t9 h9 := by
            intro s7 ho
            subst ho
            dsimp only [LR.el] at h
            intro t9 h9 hw
            refine hK12 _ _ (AW.le hw ?_)
            refine AW.seqK fun K14 hK14 => ?_
            refine AW.seqK fun K15 hK15 => ?_
            obtain ⟨s8, hj2, h⟩ := ob h
            have hR5 : ∀ t9 h9, Le 0 t9 h9 (u4 (.ptr 0 0 :: (.unk :: (.ptr 1 0 :: (u64 (u32 (u16 (u8 (u4 (.bool s8 :: (u2 []))))))))))) [.box [.slice (List.map encCarrier ([] : List Carrier)) .nils, .slice (List.map encDecl ([] : List Decl)) .nils], .box [.slice (List.map encCarrier s3) (.tip 2 2), .slice (List.map encDecl s5) (.tip 3 4)], .tip (List.length s3 * 2), .tip (List.length s5 * 4)] → K15 t9 h9 := by
              intro t9 h9 hw
              refine hK15 _ _ (AW.le hw ?_)
              clear hw
              refine AW.condS rfl h (fun hc2 h => ?_) (fun hc2 h => ?_)
              · refine AW.seqK fun K16 hK16 => ?_
                refine AW.region τ_ok mixedO 0 ?_
                conv => whnf
                refine hK16 _ _ ?_
                refine AW.ret ?_
                conv => whnf
                have e9 := Option.some.inj h
                subst e9
                refine hQ _ _ _ (retPure τ_ok (fun g => by simp only [ren, renL, renLL, renT, renL_app, renl_I, renl_S, renl_U8, renl_Ty, renl_Tm, renl_Carrier, renl_Decl]) ?_)
                conv => whnf
                try rfl
              · refine AW.skip ?_
                conv => whnf
                refine hK14 _ _ ?_
                refine AW.seqK fun K17 hK17 => ?_
                refine AW.region τ_ok mixedO 0 ?_
                conv => whnf
                refine hK17 _ _ ?_
                refine AW.ret ?_
                conv => whnf
                have e9 := Option.some.inj h
                subst e9
                refine hQ _ _ _ (retPure τ_ok (fun g => by simp only [ren, renL, renLL, renT, renL_app, renl_I, renl_S, renl_U8, renl_Ty, renl_Tm, renl_Carrier, renl_Decl]) ?_)
                conv => whnf
                try rfl
            refine AW.region τ_ok mixedO 0 ?_
            conv => whnf
            refine len_of (l := s3) (f := encCarrier) ?_
            conv => whnf
            refine onB_cond hj2 (fun hc3 hj2 => ?_) (fun hc3 hj2 => ?_)
            · conv => whnf
              cases hj2
              exact hR5 _ _ (Le.of [some 0, some 1, some 2, some 3] (Weak.mk' rfl (.u4 (.cons (.same rfl) (.cons (.unk _) (.cons (.same rfl) (.u64 (.u32 (.u16 (.u8 (.u4 (.cons (.same rfl) (.u2 .nil))))))))))) (.old (.box' (.cons (.same rfl) (.cons (.same rfl) .nil))) (.old (.box' (.cons (.tipS (renl_Carrier _ _) rfl) (.cons (.tipS (renl_Decl _ _) rfl) .nil))) (.old (.tip _) (.old (.tip _) .nil))))))
            · conv => whnf
              refine len_of (l := s5) (f := encDecl) ?_
              conv => whnf
              cases hj2
              exact hR5 _ _ (Le.of [some 0, some 1, some 2, some 3] (Weak.mk' rfl (.u4 (.cons (.same rfl) (.cons (.unk _) (.cons (.same rfl) (.u64 (.u32 (.u16 (.u8 (.u4 (.cons (.same rfl) (.u2 .nil))))))))))) (.old (.box' (.cons (.same rfl) (.cons (.same rfl) .nil))) (.old (.box' (.cons (.tipS (renl_Carrier _ _) rfl) (.cons (.tipS (renl_Decl _ _) rfl) .nil))) (.old (.tip _) (.old (.tip _) .nil))))))
          refine AW.loopS (R2_Union_L0 n x3) (fun (s6 : Int) => (u4 (.ptr 0 0 :: (.unk :: (.ptr 1 0 :: (u4 (u2 (.unk :: (.slice (List.map encS x3) (.tip 2 1) :: (.int .i64 s6 :: (u64 (u32 (u16 (u4 (u2 []))))))))))))))) (fun (s6 : Int) => [.box [.slice (List.map encCarrier ([] : List Carrier)) .nils, .slice (List.map encDecl ([] : List Decl)) .nils], .box [.slice (List.map encCarrier s3) (.tip 3 2), .slice (List.map encDecl s5) (.tip 4 4)], .tip (List.length x3 * 1), .tip (List.length s3 * 2), .tip (List.length s5 * 4)]) ho3 (fun _ => rfl) (Le.of [some 0, some 1, some 4, some 2, some 3] (Weak.mk' rfl (.u4 (.cons (.same rfl) (.cons (.unk _) (.cons (.same rfl) (.u4 (.u2 (.cons (.unk _) (.cons (.tipS (renl_S _ _) rfl) (.cons (.same rfl) (.u64 (.u32 (.u16 (.u4 (.u2 .nil)))))))))))))) (.old (.box' (.cons (.same rfl) (.cons (.same rfl) .nil))) (.old (.box' (.cons (.tipS (renl_Carrier _ _) rfl) (.cons (.tipS (renl_Decl _ _) rfl) .nil))) (.old (.tip _) (.old (.tip _) (.old (.tip _) .nil))))))) ?_
          intro n3 s6 hs3 KL3 hKL3
          unfold R2_Union_L0 at hs3
          refine AW.seqK fun K18 hK18 => ?_
          refine AW.seqK fun K19 hK19 => ?_
          refine AW.region τ_ok mixedO 0 ?_
          conv => whnf
          refine len_of (l := x3) (f := encS) ?_
          conv => whnf
          refine hK19 _ _ ?_
          refine AW.condS rfl hs3 (fun hc4 hs3 => ?_) (fun hc4 hs3 => ?_)
          · refine AW.skip ?_
            conv => whnf
            refine hK18 _ _ ?_
            refine AW.seqK fun K20 hK20 => ?_
            refine AW.block ?_
            refine AW.seqK fun K21 hK21 => ?_
            refine AW.region τ_ok mixedO 0 ?_
            conv => whnf
            obtain ⟨x4, hx4, hs3⟩ := ob hs3
            refine idx_of (l := x3) (f := encS) (cs := [.str (x4)]) hx4 (rfl) rfl ?_
            conv => whnf
            obtain ⟨x5, hx5, hs3⟩ := ob hs3
            refine cut_l (l := x3) (f := encS) hx5 (.none _) (.int _ _ _) ok_S ?_
            conv => whnf
            obtain ⟨x6, hx6, hs3⟩ := ob hs3
            refine call_pur (R1_In_ok _ _ _ _ hx6) okF_50 (.cons (.same _) (.cons (.same _) .nil)) (fun g => by simp only [ren, renL, renLL, renT, renL_app, renl_I, renl_S, renl_U8, renl_Ty, renl_Tm, renl_Carrier, renl_Decl]) (fun g => rfl) ?_
            conv => whnf
            refine ⟨rfl, ?_⟩
            conv => whnf
            refine hK21 _ _ ?_
            refine AW.condS rfl hs3 (fun hc5 hs3 => ?_) (fun hc5 hs3 => ?_)
            · refine AW.seqK fun K22 hK22 => ?_
              refine AW.region τ_ok mixedO 0 ?_
              conv => whnf
              refine hK22 _ _ ?_
              refine AW.ret ?_
              conv => whnf
              have e9 := Option.some.inj hs3
              subst e9
              dsimp only [LR.el] at h
              have e9 := Option.some.inj h
              subst e9
              refine hQ _ _ _ (retPure τ_ok (fun g => by simp only [ren, renL, renLL, renT, renL_app, renl_I, renl_S, renl_U8, renl_Ty, renl_Tm, renl_Carrier, renl_Decl]) ?_)
              conv => whnf
              try rfl
            · refine AW.skip ?_
              conv => whnf
              refine hK20 _ _ ?_
              refine AW.know 15 0 fun hv1 => ?_
              refine AW.know 14 0 fun hv2 => ?_
              refine AW.region τ_ok mixedO 0 ?_
              conv => whnf
              refine ⟨(s6 + 1), by have := wf64 hv1; have := vfl hv2; have h8 := of_decide_eq_true hc4; exact w64_id (by omega) (by omega), ?_⟩
              conv => whnf
              exact hKL3 _ _ _ hs3 (Le.of [some 0, some 1, some 2, some 3, some 4] (Weak.mk' rfl (.u4 (.cons (.same rfl) (.cons (.unk _) (.cons (.same rfl) (.u4 (.u2 (.cons (.unk _) (.cons (.tipS (renl_S _ _) rfl) (.cons (.same rfl) (.u64 (.u32 (.u16 (.u4 (.u2 .nil)))))))))))))) (.old (.box' (.cons (.same rfl) (.cons (.same rfl) .nil))) (.old (.box' (.cons (.tipS (renl_Carrier _ _) rfl) (.cons (.tipS (renl_Decl _ _) rfl) .nil))) (.old (.tip _) (.old (.tip _) (.old (.tip _) .nil)))))))
          · refine AW.exit ?_
            conv => whnf
            exact hR4 _ (Option.some.inj hs3).symm _ _ (Le.of [some 0, some 1, some 3, some 4] (Weak.mk' rfl (.u4 (.cons (.same rfl) (.cons (.unk _) (.cons (.same rfl) (.u64 (.u32 (.u16 (.u8 (.u4 (.u2 (.cons (.unk _) .nil))))))))))) (.old (.box' (.cons (.same rfl) (.cons (.same rfl) .nil))) (.old (.box' (.cons (.tipS (renl_Carrier _ _) rfl) (.cons (.tipS (renl_Decl _ _) rfl) .nil))) (.old (.tip _) (.old (.tip _) .nil))))))
        refine AW.loopS (R2_Union_L1 n p0 x2) (fun (s4 : Int × (List Decl)) => (u2 (.ptr 0 0 :: (.unk :: (.ptr 1 0 :: (.unk :: (.ptr 2 0 :: (.ptr 3 0 :: (u2 (.unk :: (.int .i64 s4.1 :: (u64 (u32 (u16 (u8 (u2 [])))))))))))))))) (fun (s4 : Int × (List Decl)) => [.box [.slice (List.map encCarrier p0.carriers) .shared, .slice (List.map encDecl p0.names) .shared], .box [.slice (List.map encCarrier ([] : List Carrier)) .nils, .slice (List.map encDecl ([] : List Decl)) .nils], .box [.slice (List.map encCarrier s3) (.tip 4 2), .slice (List.map encDecl s4.2) (.tip 5 4)], .box [.slice (List.map encCarrier x2.1) (.tip 6 2), .slice (List.map encDecl x2.2) (.tip 7 4)], .tip (List.length s3 * 2), .tip (List.length s4.2 * 4), .tip (List.length x2.1 * 2), .tip (List.length x2.2 * 4)]) ho2 (fun _ => rfl) (Le.of [some 0, some 1, some 2, some 3, some 4, some 5, some 6, some 7] (Weak.mk' rfl (.u2 (.cons (.same rfl) (.cons (.unk _) (.cons (.same rfl) (.cons (.unk _) (.cons (.same rfl) (.cons (.same rfl) (.u2 (.cons (.unk _) (.cons (.same rfl) (.u64 (.u32 (.u16 (.u8 (.u2 .nil))))))))))))))) (.old (.box' (.cons (.share (renl_Carrier _ _)) (.cons (.share (renl_Decl _ _)) .nil))) (.old (.box' (.cons (.same rfl) (.cons (.same rfl) .nil))) (.old (.box' (.cons (.tipS (renl_Carrier _ _) rfl) (.cons (.tipS (renl_Decl _ _) rfl) .nil))) (.old (.box' (.cons (.tipS (renl_Carrier _ _) rfl) (.cons (.tipS (renl_Decl _ _) rfl) .nil))) (.old (.tip _) (.old (.tip _) (.old (.tip _) (.old (.tip _) .nil)))))))))) ?_
        intro n2 s4 hs2 KL2 hKL2
        unfold R2_Union_L1 at hs2
        refine AW.seqK fun K23 hK23 => ?_
        refine AW.seqK fun K24 hK24 => ?_
        refine AW.region τ_ok mixedO 0 ?_
        conv => whnf
        refine len_of (l := x2.2) (f := encDecl) ?_
        conv => whnf
        refine hK24 _ _ ?_
        refine AW.condS rfl hs2 (fun hc6 hs2 => ?_) (fun hc6 hs2 => ?_)
        · refine AW.skip ?_
          conv => whnf
          refine hK23 _ _ ?_
          refine AW.seqK fun K25 hK25 => ?_
          obtain ⟨o4, hj3, hs2⟩ := ob hs2
          have hR6 : ∀ s9 : List Decl, o4 = .nx s9 → ∀ t9 h9, Le 0 t9 h9 (u2 (.ptr 0 0 :: (.unk :: (.ptr 1 0 :: (.unk :: (.ptr 2 0 :: (.ptr 3 0 :: (u2 (.unk :: (.int .i64 s4.1 :: (u64 (u32 (u16 (u8 (u2 []))))))))))))))) [.box [.slice (List.map encCarrier p0.carriers) .shared, .slice (List.map encDecl p0.names) .shared], .box [.slice (List.map encCarrier ([] : List Carrier)) .nils, .slice (List.map encDecl ([] : List Decl)) .nils], .box [.slice (List.map encCarrier s3) (.tip 4 2), .slice (List.map encDecl s9) (.tip 5 4)], .box [.slice (List.map encCarrier x2.1) (.tip 6 2), .slice (List.map encDecl x2.2) (.tip 7 4)], .tip (List.length s3 * 2), .tip (List.length s9 * 4), .tip (List.length x2.1 * 2), .tip (List.length x2.2 * 4)] → K25 t9 h9 := by
            intro s9 ho
            subst ho
            dsimp only [LR.el] at hs2
            intro t9 h9 hw
            refine hK25 _ _ (AW.le hw ?_)
            clear hw
            refine AW.know 11 0 fun hv3 => ?_
            refine AW.knowB 3 1 (fun hv4 => ?_) ⟨7, 0, rfl⟩
            refine AW.region τ_ok mixedO 0 ?_
            conv => whnf
            refine ⟨(s4.1 + 1), by have := wf64 hv3; have := vfl hv4; have h8 := of_decide_eq_true hc6; exact w64_id (by omega) (by omega), ?_⟩
            conv => whnf
            exact hKL2 _ _ _ hs2 (Le.of [some 0, some 1, some 2, some 3, some 4, some 5, some 6, some 7] (Weak.mk' rfl (.u2 (.cons (.same rfl) (.cons (.unk _) (.cons (.same rfl) (.cons (.unk _) (.cons (.same rfl) (.cons (.same rfl) (.u2 (.cons (.unk _) (.cons (.same rfl) (.u64 (.u32 (.u16 (.u8 (.u2 .nil))))))))))))))) (.old (.box' (.cons (.share (renl_Carrier _ _)) (.cons (.share (renl_Decl _ _)) .nil))) (.old (.box' (.cons (.same rfl) (.cons (.same rfl) .nil))) (.old (.box' (.cons (.tipS (renl_Carrier _ _) rfl) (.cons (.tipS (renl_Decl _ _) rfl) .nil))) (.old (.box' (.cons (.tipS (renl_Carrier _ _) rfl) (.cons (.tipS (renl_Decl _ _) rfl) .nil))) (.old (.tip _) (.old (.tip _) (.old (.tip _) (.old (.tip _) .nil))))))))))
          refine AW.block ?_
          refine AW.seqK fun K26 hK26 => ?_
          refine AW.region τ_ok mixedO 1 ?_
          conv => whnf
          obtain ⟨x7, hx7, hj3⟩ := ob hj3
          refine idx_of (l := x2.2) (f := encDecl) (cs := [.str ((x7).name), .int .i64 (((x7).ty).kind), .str (((x7).ty).name), .slice (List.map encTy (((x7).ty).kids)) .shared]) hx7 (rfl) rfl ?_
          conv => whnf
          refine hK26 _ _ ?_
          refine AW.seqK fun K27 hK27 => ?_
          refine AW.region τ_ok mixedO 0 ?_
          conv => whnf
          obtain ⟨x8, hx8, hj3⟩ := ob hj3
          refine call_pur (R2_FindName_ok _ _ _ _ hx8) okF_129 (.cons (.same _) (.cons (.same _) .nil)) (fun g => by simp only [ren, renL, renLL, renT, renL_app, renl_I, renl_S, renl_U8, renl_Ty, renl_Tm, renl_Carrier, renl_Decl]) (fun g => rfl) ?_
          conv => whnf
          refine hK27 _ _ ?_
          refine AW.seqK fun K28 hK28 => ?_
          refine AW.seqK fun K29 hK29 => ?_
          obtain ⟨s10, hj4, hj3⟩ := ob hj3
          have hR7 : ∀ t9 h9, Le 0 t9 h9 (u2 (.ptr 0 0 :: (.unk :: (.ptr 1 0 :: (.unk :: (.ptr 2 0 :: (.ptr 3 0 :: (u2 (.unk :: (.int .i64 s4.1 :: (.ptr 4 0 :: (.int .i64 x8 :: (u64 (u16 (.unk :: (.bool s10 :: (u32 (u4 (u2 []))))))))))))))))))) [.box [.slice (List.map encCarrier p0.carriers) .shared, .slice (List.map encDecl p0.names) .shared], .box [.slice (List.map encCarrier ([] : List Carrier)) .nils, .slice (List.map encDecl ([] : List Decl)) .nils], .box [.slice (List.map encCarrier s3) (.tip 5 2), .slice (List.map encDecl s4.2) (.tip 6 4)], .box [.slice (List.map encCarrier x2.1) (.tip 7 2), .slice (List.map encDecl x2.2) (.tip 8 4)], .box [.str x7.name, .int .i64 x7.ty.kind, .str x7.ty.name, .slice (List.map encTy x7.ty.kids) .shared], .tip (List.length s3 * 2), .tip (List.length s4.2 * 4), .tip (List.length x2.1 * 2), .tip (List.length x2.2 * 4)] → K29 t9 h9 := by
            intro t9 h9 hw
            refine hK29 _ _ (AW.le hw ?_)
            clear hw
            refine AW.condS rfl hj3 (fun hc7 hj3 => ?_) (fun hc7 hj3 => ?_)
            · refine AW.seqK fun K30 hK30 => ?_
              refine AW.region τ_ok mixedO 0 ?_
              conv => whnf
              refine hK30 _ _ ?_
              refine AW.ret ?_
              conv => whnf
              have e9 := Option.some.inj hj3
              subst e9
              dsimp only [LR.el] at hs2
              have e9 := Option.some.inj hs2
              subst e9
              dsimp only [LR.el] at h
              have e9 := Option.some.inj h
              subst e9
              refine hQ _ _ _ (retPure τ_ok (fun g => by simp only [ren, renL, renLL, renT, renL_app, renl_I, renl_S, renl_U8, renl_Ty, renl_Tm, renl_Carrier, renl_Decl]) ?_)
              conv => whnf
              try rfl
            · refine AW.skip ?_
              conv => whnf
              refine hK28 _ _ ?_
              refine AW.seqK fun K31 hK31 => ?_
              refine AW.region τ_ok mixedO 0 ?_
              conv => whnf
              refine hK31 _ _ ?_
              refine AW.condS rfl hj3 (fun hc8 hj3 => ?_) (fun hc8 hj3 => ?_)
              · refine AW.region τ_ok mixedO 2 ?_
                conv => whnf
                refine ⟨List.map encDecl ([x7]), rfl, ?_⟩
                conv => whnf
                obtain ⟨x9, hx9, hj3⟩ := ob hj3
                refine app_tip (l := s4.2) (ys := [x7]) (f := encDecl) hx9 ok_Decl rfl rfl rfl ?_
                conv => whnf
                exact hR6 _ (Option.some.inj hj3).symm _ _ (Le.of [some 0, some 1, some 2, some 3, some 5, some 10, some 7, some 8] (Weak.mk' rfl (.u2 (.cons (.same rfl) (.cons (.unk _) (.cons (.same rfl) (.cons (.unk _) (.cons (.same rfl) (.cons (.same rfl) (.u2 (.cons (.unk _) (.cons (.same rfl) (.u64 (.u32 (.u16 (.u8 (.u2 .nil))))))))))))))) (.old (.box' (.cons (.share (renl_Carrier _ _)) (.cons (.share (renl_Decl _ _)) .nil))) (.old (.box' (.cons (.same rfl) (.cons (.same rfl) .nil))) (.old (.box' (.cons (.tipS (renl_Carrier _ _) rfl) (.cons (.tipS (renl_Decl _ _) rfl) .nil))) (.old (.box' (.cons (.tipS (renl_Carrier _ _) rfl) (.cons (.tipS (renl_Decl _ _) rfl) .nil))) (.old (.tip _) (.old (.tip _) (.old (.tip _) (.old (.tip _) .nil))))))))))
              · refine AW.skip ?_
                conv => whnf
                exact hR6 _ (Option.some.inj hj3).symm _ _ (Le.of [some 0, some 1, some 2, some 3, some 5, some 6, some 7, some 8] (Weak.mk' rfl (.u2 (.cons (.same rfl) (.cons (.unk _) (.cons (.same rfl) (.cons (.unk _) (.cons (.same rfl) (.cons (.same rfl) (.u2 (.cons (.unk _) (.cons (.same rfl) (.u64 (.u32 (.u16 (.u8 (.u2 .nil))))))))))))))) (.old (.box' (.cons (.share (renl_Carrier _ _)) (.cons (.share (renl_Decl _ _)) .nil))) (.old (.box' (.cons (.same rfl) (.cons (.same rfl) .nil))) (.old (.box' (.cons (.tipS (renl_Carrier _ _) rfl) (.cons (.tipS (renl_Decl _ _) rfl) .nil))) (.old (.box' (.cons (.tipS (renl_Carrier _ _) rfl) (.cons (.tipS (renl_Decl _ _) rfl) .nil))) (.old (.tip _) (.old (.tip _) (.old (.tip _) (.old (.tip _) .nil))))))))))
          refine AW.region τ_ok mixedO 0 ?_
          conv => whnf
          refine onB_cond hj4 (fun hc9 hj4 => ?_) (fun hc9 hj4 => ?_)
          · conv => whnf
            obtain ⟨x10, hx10, hj4⟩ := ob hj4
            refine idx_of (l := p0.names) (f := encDecl) (cs := [.str ((x10).name), .int .i64 (((x10).ty).kind), .str (((x10).ty).name), .slice (List.map encTy (((x10).ty).kids)) .shared]) hx10 (rfl) rfl ?_
            conv => whnf
            obtain ⟨x11, hx11, hj4⟩ := ob hj4
            refine call_pur (R1_SameType_ok _ _ _ _ hx11) okF_20 (.cons (.same _) (.cons (.same _) .nil)) (fun g => by simp only [ren, renL, renLL, renT, renL_app, renl_I, renl_S, renl_U8, renl_Ty, renl_Tm, renl_Carrier, renl_Decl]) (fun g => rfl) ?_
            conv => whnf
            refine ⟨rfl, ?_⟩
            conv => whnf
            cases hj4
            exact hR7 _ _ (Le.of [some 0, some 1, some 2, some 3, some 8, some 4, some 5, some 6, some 7] (Weak.mk' rfl (.u2 (.cons (.same rfl) (.cons (.unk _) (.cons (.same rfl) (.cons (.unk _) (.cons (.same rfl) (.cons (.same rfl) (.u2 (.cons (.unk _) (.cons (.same rfl) (.cons (.same rfl) (.cons (.same rfl) (.u64 (.u16 (.cons (.unk _) (.cons (.same rfl) (.u32 (.u4 (.u2 .nil))))))))))))))))))) (.old (.box' (.cons (.share (renl_Carrier _ _)) (.cons (.share (renl_Decl _ _)) .nil))) (.old (.box' (.cons (.same rfl) (.cons (.same rfl) .nil))) (.old (.box' (.cons (.tipS (renl_Carrier _ _) rfl) (.cons (.tipS (renl_Decl _ _) rfl) .nil))) (.old (.box' (.cons (.tipS (renl_Carrier _ _) rfl) (.cons (.tipS (renl_Decl _ _) rfl) .nil))) (.old (.box' (.cons (.same rfl) (.cons (.same rfl) (.cons (.same rfl) (.cons (.share (renl_Ty _ _)) .nil))))) (.old (.tip _) (.old (.tip _) (.old (.tip _) (.old (.tip _) .nil)))))))))))
          · conv => whnf
            refine ⟨rfl, ?_⟩
            conv => whnf
            cases hj4
            exact hR7 _ _ (Le.of [some 0, some 1, some 2, some 3, some 8, some 4, some 5, some 6, some 7] (Weak.mk' rfl (.u2 (.cons (.same rfl) (.cons (.unk _) (.cons (.same rfl) (.cons (.unk _) (.cons (.same rfl) (.cons (.same rfl) (.u2 (.cons (.unk _) (.cons (.same rfl) (.cons (.same rfl) (.cons (.same rfl) (.u64 (.u16 (.cons (.unk _) (.cons (.same rfl) (.u32 (.u4 (.u2 .nil))))))))))))))))))) (.old (.box' (.cons (.share (renl_Carrier _ _)) (.cons (.share (renl_Decl _ _)) .nil))) (.old (.box' (.cons (.same rfl) (.cons (.same rfl) .nil))) (.old (.box' (.cons (.tipS (renl_Carrier _ _) rfl) (.cons (.tipS (renl_Decl _ _) rfl) .nil))) (.old (.box' (.cons (.tipS (renl_Carrier _ _) rfl) (.cons (.tipS (renl_Decl _ _) rfl) .nil))) (.old (.box' (.cons (.same rfl) (.cons (.same rfl) (.cons (.same rfl) (.cons (.share (renl_Ty _ _)) .nil))))) (.old (.tip _) (.old (.tip _) (.old (.tip _) (.old (.tip _) .nil)))))))))))
        · refine AW.exit ?_
          conv => whnf
          exact hR3 _ (Option.some.inj hs2).symm _ _ (Le.of [some 1, some 2, some 4, some 5] (Weak.mk' rfl (.u4 (.cons (.same rfl) (.cons (.unk _) (.cons (.same rfl) (.u64 (.u32 (.u16 (.u8 (.u4 (.u2 (.cons (.unk _) .nil))))))))))) (.old (.box' (.cons (.same rfl) (.cons (.same rfl) .nil))) (.old (.box' (.cons (.tipS (renl_Carrier _ _) rfl) (.cons (.tipS (renl_Decl _ _) rfl) .nil))) (.old (.tip _) (.old (.tip _) .nil))))))
      refine AW.loopS (R2_Union_L2 n p0 x2) (fun (s2 : Int × (List Carrier)) => (u2 (.ptr 0 0 :: (.unk :: (.ptr 1 0 :: (.unk :: (.ptr 2 0 :: (.ptr 3 0 :: (.int .i64 s2.1 :: (u64 (u32 (u16 (u8 (u4 (.unk :: []))))))))))))))) (fun (s2 : Int × (List Carrier)) => [.box [.slice (List.map encCarrier p0.carriers) .shared, .slice (List.map encDecl p0.names) .shared], .box [.slice (List.map encCarrier ([] : List Carrier)) .nils, .slice (List.map encDecl ([] : List Decl)) .nils], .box [.slice (List.map encCarrier s2.2) (.tip 4 2), .slice (List.map encDecl x1.2) (.tip 5 4)], .box [.slice (List.map encCarrier x2.1) (.tip 6 2), .slice (List.map encDecl x2.2) (.tip 7 4)], .tip (List.length s2.2 * 2), .tip (List.length x1.2 * 4), .tip (List.length x2.1 * 2), .tip (List.length x2.2 * 4)]) ho1 (fun _ => rfl) (Le.of [some 0, some 2, some 5, some 8, some 3, some 4, some 6, some 7] (Weak.mk' rfl (.u2 (.cons (.same rfl) (.cons (.unk _) (.cons (.same rfl) (.cons (.unk _) (.cons (.same rfl) (.cons (.same rfl) (.cons (.same rfl) (.u64 (.u32 (.u16 (.u8 (.u4 (.cons (.unk _) .nil)))))))))))))) (.old (.box' (.cons (.share (renl_Carrier _ _)) (.cons (.share (renl_Decl _ _)) .nil))) (.old (.box' (.cons (.same rfl) (.cons (.same rfl) .nil))) (.old (.box' (.cons (.tipS (renl_Carrier _ _) rfl) (.cons (.tipS (renl_Decl _ _) rfl) .nil))) (.old (.box' (.cons (.tipS (renl_Carrier _ _) rfl) (.cons (.tipS (renl_Decl _ _) rfl) .nil))) (.old (.tip _) (.old (.tip _) (.old (.tip _) (.old (.tip _) .nil)))))))))) ?_
      intro n1 s2 hs1 KL1 hKL1
      unfold R2_Union_L2 at hs1
      refine AW.seqK fun K32 hK32 => ?_
      refine AW.seqK fun K33 hK33 => ?_
      refine AW.region τ_ok mixedO 0 ?_
      conv => whnf
      refine len_of (l := x2.1) (f := encCarrier) ?_
      conv => whnf
      refine hK33 _ _ ?_
      refine AW.condS rfl hs1 (fun hc10 hs1 => ?_) (fun hc10 hs1 => ?_)
      · refine AW.skip ?_
        conv => whnf
        refine hK32 _ _ ?_
        refine AW.seqK fun K34 hK34 => ?_
        obtain ⟨o5, hj5, hs1⟩ := ob hs1
        have hR8 : ∀ s11 : List Carrier, o5 = .nx s11 → ∀ t9 h9, Le 0 t9 h9 (u2 (.ptr 0 0 :: (.unk :: (.ptr 1 0 :: (.unk :: (.ptr 2 0 :: (.ptr 3 0 :: (.int .i64 s2.1 :: (u64 (u32 (u16 (u8 (u4 (.unk :: [])))))))))))))) [.box [.slice (List.map encCarrier p0.carriers) .shared, .slice (List.map encDecl p0.names) .shared], .box [.slice (List.map encCarrier ([] : List Carrier)) .nils, .slice (List.map encDecl ([] : List Decl)) .nils], .box [.slice (List.map encCarrier s11) (.tip 4 2), .slice (List.map encDecl x1.2) (.tip 5 4)], .box [.slice (List.map encCarrier x2.1) (.tip 6 2), .slice (List.map encDecl x2.2) (.tip 7 4)], .tip (List.length s11 * 2), .tip (List.length x1.2 * 4), .tip (List.length x2.1 * 2), .tip (List.length x2.2 * 4)] → K34 t9 h9 := by
          intro s11 ho
          subst ho
          dsimp only [LR.el] at hs1
          intro t9 h9 hw
          refine hK34 _ _ (AW.le hw ?_)
          clear hw
          refine AW.know 8 0 fun hv5 => ?_
          refine AW.knowB 3 0 (fun hv6 => ?_) ⟨7, 0, rfl⟩
          refine AW.region τ_ok mixedO 0 ?_
          conv => whnf
          refine ⟨(s2.1 + 1), by have := wf64 hv5; have := vfl hv6; have h8 := of_decide_eq_true hc10; exact w64_id (by omega) (by omega), ?_⟩
          conv => whnf
          exact hKL1 _ _ _ hs1 (Le.of [some 0, some 1, some 2, some 3, some 4, some 5, some 6, some 7] (Weak.mk' rfl (.u2 (.cons (.same rfl) (.cons (.unk _) (.cons (.same rfl) (.cons (.unk _) (.cons (.same rfl) (.cons (.same rfl) (.cons (.same rfl) (.u64 (.u32 (.u16 (.u8 (.u4 (.cons (.unk _) .nil)))))))))))))) (.old (.box' (.cons (.share (renl_Carrier _ _)) (.cons (.share (renl_Decl _ _)) .nil))) (.old (.box' (.cons (.same rfl) (.cons (.same rfl) .nil))) (.old (.box' (.cons (.tipS (renl_Carrier _ _) rfl) (.cons (.tipS (renl_Decl _ _) rfl) .nil))) (.old (.box' (.cons (.tipS (renl_Carrier _ _) rfl) (.cons (.tipS (renl_Decl _ _) rfl) .nil))) (.old (.tip _) (.old (.tip _) (.old (.tip _) (.old (.tip _) .nil))))))))))
        refine AW.block ?_
        refine AW.seqK fun K35 hK35 => ?_
        refine AW.region τ_ok mixedO 1 ?_
        conv => whnf
        obtain ⟨x12, hx12, hj5⟩ := ob hj5
        refine idx_of (l := x2.1) (f := encCarrier) (cs := [.str ((x12).name), .slice (List.map encS ((x12).elems)) .shared]) hx12 (rfl) rfl ?_
        conv => whnf
        refine hK35 _ _ ?_
        refine AW.seqK fun K36 hK36 => ?_
        refine AW.region τ_ok mixedO 0 ?_
        conv => whnf
        obtain ⟨x13, hx13, hj5⟩ := ob hj5
        refine call_pur (R2_FindCarrier_ok _ _ _ _ hx13) okF_128 (.cons (.same _) (.cons (.same _) .nil)) (fun g => by simp only [ren, renL, renLL, renT, renL_app, renl_I, renl_S, renl_U8, renl_Ty, renl_Tm, renl_Carrier, renl_Decl]) (fun g => rfl) ?_
        conv => whnf
        refine hK36 _ _ ?_
        refine AW.seqK fun K37 hK37 => ?_
        refine AW.seqK fun K38 hK38 => ?_
        obtain ⟨s12, hj6, hj5⟩ := ob hj5
        have hR9 : ∀ t9 h9, Le 0 t9 h9 (u2 (.ptr 0 0 :: (.unk :: (.ptr 1 0 :: (.unk :: (.ptr 2 0 :: (.ptr 3 0 :: (.int .i64 s2.1 :: (.ptr 4 0 :: (.int .i64 x13 :: (u32 (u8 (u4 (.unk :: (.bool s12 :: (u64 (u8 (u4 (.unk :: []))))))))))))))))))) [.box [.slice (List.map encCarrier p0.carriers) .shared, .slice (List.map encDecl p0.names) .shared], .box [.slice (List.map encCarrier ([] : List Carrier)) .nils, .slice (List.map encDecl ([] : List Decl)) .nils], .box [.slice (List.map encCarrier s2.2) (.tip 5 2), .slice (List.map encDecl x1.2) (.tip 6 4)], .box [.slice (List.map encCarrier x2.1) (.tip 7 2), .slice (List.map encDecl x2.2) (.tip 8 4)], .box [.str x12.name, .slice (List.map encS x12.elems) .shared], .tip (List.length s2.2 * 2), .tip (List.length x1.2 * 4), .tip (List.length x2.1 * 2), .tip (List.length x2.2 * 4)] → K38 t9 h9 := by
          intro t9 h9 hw
          refine hK38 _ _ (AW.le hw ?_)
          clear hw
          refine AW.condS rfl hj5 (fun hc11 hj5 => ?_) (fun hc11 hj5 => ?_)
          · refine AW.seqK fun K39 hK39 => ?_
            refine AW.region τ_ok mixedO 0 ?_
            conv => whnf
            refine hK39 _ _ ?_
            refine AW.ret ?_
            conv => whnf
            have e9 := Option.some.inj hj5
            subst e9
            dsimp only [LR.el] at hs1
            have e9 := Option.some.inj hs1
            subst e9
            dsimp only [LR.el] at h
            have e9 := Option.some.inj h
            subst e9
            refine hQ _ _ _ (retPure τ_ok (fun g => by simp only [ren, renL, renLL, renT, renL_app, renl_I, renl_S, renl_U8, renl_Ty, renl_Tm, renl_Carrier, renl_Decl]) ?_)
            conv => whnf
            try rfl
          · refine AW.skip ?_
            conv => whnf
            refine hK37 _ _ ?_
            refine AW.seqK fun K40 hK40 => ?_
            refine AW.region τ_ok mixedO 0 ?_
            conv => whnf
            refine hK40 _ _ ?_
            refine AW.condS rfl hj5 (fun hc12 hj5 => ?_) (fun hc12 hj5 => ?_)
            · refine AW.region τ_ok mixedO 2 ?_
              conv => whnf
              refine ⟨List.map encCarrier ([x12]), rfl, ?_⟩
              conv => whnf
              obtain ⟨x14, hx14, hj5⟩ := ob hj5
              refine app_tip (l := s2.2) (ys := [x12]) (f := encCarrier) hx14 ok_Carrier rfl rfl rfl ?_
              conv => whnf
              exact hR8 _ (Option.some.inj hj5).symm _ _ (Le.of [some 0, some 1, some 2, some 3, some 10, some 6, some 7, some 8] (Weak.mk' rfl (.u2 (.cons (.same rfl) (.cons (.unk _) (.cons (.same rfl) (.cons (.unk _) (.cons (.same rfl) (.cons (.same rfl) (.cons (.same rfl) (.u64 (.u32 (.u16 (.u8 (.u4 (.cons (.unk _) .nil)))))))))))))) (.old (.box' (.cons (.share (renl_Carrier _ _)) (.cons (.share (renl_Decl _ _)) .nil))) (.old (.box' (.cons (.same rfl) (.cons (.same rfl) .nil))) (.old (.box' (.cons (.tipS (renl_Carrier _ _) rfl) (.cons (.tipS (renl_Decl _ _) rfl) .nil))) (.old (.box' (.cons (.tipS (renl_Carrier _ _) rfl) (.cons (.tipS (renl_Decl _ _) rfl) .nil))) (.old (.tip _) (.old (.tip _) (.old (.tip _) (.old (.tip _) .nil))))))))))
            · refine AW.skip ?_
              conv => whnf
              exact hR8 _ (Option.some.inj hj5).symm _ _ (Le.of [some 0, some 1, some 2, some 3, some 5, some 6, some 7, some 8] (Weak.mk' rfl (.u2 (.cons (.same rfl) (.cons (.unk _) (.cons (.same rfl) (.cons (.unk _) (.cons (.same rfl) (.cons (.same rfl) (.cons (.same rfl) (.u64 (.u32 (.u16 (.u8 (.u4 (.cons (.unk _) .nil)))))))))))))) (.old (.box' (.cons (.share (renl_Carrier _ _)) (.cons (.share (renl_Decl _ _)) .nil))) (.old (.box' (.cons (.same rfl) (.cons (.same rfl) .nil))) (.old (.box' (.cons (.tipS (renl_Carrier _ _) rfl) (.cons (.tipS (renl_Decl _ _) rfl) .nil))) (.old (.box' (.cons (.tipS (renl_Carrier _ _) rfl) (.cons (.tipS (renl_Decl _ _) rfl) .nil))) (.old (.tip _) (.old (.tip _) (.old (.tip _) (.old (.tip _) .nil))))))))))
        refine AW.region τ_ok mixedO 0 ?_
        conv => whnf
        refine onB_cond hj6 (fun hc13 hj6 => ?_) (fun hc13 hj6 => ?_)
        · conv => whnf
          obtain ⟨x15, hx15, hj6⟩ := ob hj6
          refine idx_of (l := p0.carriers) (f := encCarrier) (cs := [.str ((x15).name), .slice (List.map encS ((x15).elems)) .shared]) hx15 (rfl) rfl ?_
          conv => whnf
          obtain ⟨x16, hx16, hj6⟩ := ob hj6
          refine call_pur (R2_SameCarrier_ok _ _ _ _ hx16) okF_119 (.cons (.same _) (.cons (.same _) .nil)) (fun g => by simp only [ren, renL, renLL, renT, renL_app, renl_I, renl_S, renl_U8, renl_Ty, renl_Tm, renl_Carrier, renl_Decl]) (fun g => rfl) ?_
          conv => whnf
          refine ⟨rfl, ?_⟩
          conv => whnf
          cases hj6
          exact hR9 _ _ (Le.of [some 0, some 1, some 2, some 3, some 8, some 4, some 5, some 6, some 7] (Weak.mk' rfl (.u2 (.cons (.same rfl) (.cons (.unk _) (.cons (.same rfl) (.cons (.unk _) (.cons (.same rfl) (.cons (.same rfl) (.cons (.same rfl) (.cons (.same rfl) (.cons (.same rfl) (.u32 (.u8 (.u4 (.cons (.unk _) (.cons (.same rfl) (.u64 (.u8 (.u4 (.cons (.unk _) .nil))))))))))))))))))) (.old (.box' (.cons (.share (renl_Carrier _ _)) (.cons (.share (renl_Decl _ _)) .nil))) (.old (.box' (.cons (.same rfl) (.cons (.same rfl) .nil))) (.old (.box' (.cons (.tipS (renl_Carrier _ _) rfl) (.cons (.tipS (renl_Decl _ _) rfl) .nil))) (.old (.box' (.cons (.tipS (renl_Carrier _ _) rfl) (.cons (.tipS (renl_Decl _ _) rfl) .nil))) (.old (.box' (.cons (.same rfl) (.cons (.share (renl_S _ _)) .nil))) (.old (.tip _) (.old (.tip _) (.old (.tip _) (.old (.tip _) .nil)))))))))))
        · conv => whnf
          refine ⟨rfl, ?_⟩
          conv => whnf
          cases hj6
          exact hR9 _ _ (Le.of [some 0, some 1, some 2, some 3, some 8, some 4, some 5, some 6, some 7] (Weak.mk' rfl (.u2 (.cons (.same rfl) (.cons (.unk _) (.cons (.same rfl) (.cons (.unk _) (.cons (.same rfl) (.cons (.same rfl) (.cons (.same rfl) (.cons (.same rfl) (.cons (.same rfl) (.u32 (.u8 (.u4 (.cons (.unk _) (.cons (.same rfl) (.u64 (.u8 (.u4 (.cons (.unk _) .nil))))))))))))))))))) (.old (.box' (.cons (.share (renl_Carrier _ _)) (.cons (.share (renl_Decl _ _)) .nil))) (.old (.box' (.cons (.same rfl) (.cons (.same rfl) .nil))) (.old (.box' (.cons (.tipS (renl_Carrier _ _) rfl) (.cons (.tipS (renl_Decl _ _) rfl) .nil))) (.old (.box' (.cons (.tipS (renl_Carrier _ _) rfl) (.cons (.tipS (renl_Decl _ _) rfl) .nil))) (.old (.box' (.cons (.same rfl) (.cons (.share (renl_S _ _)) .nil))) (.old (.tip _) (.old (.tip _) (.old (.tip _) (.old (.tip _) .nil)))))))))))
      · refine AW.exit ?_
        conv => whnf
        exact hR2 _ (Option.some.inj hs1).symm _ _ (Le.of [some 0, some 1, some 2, some 3, some 4, some 5, some 6, some 7] (Weak.mk' rfl (.u2 (.cons (.same rfl) (.cons (.unk _) (.cons (.same rfl) (.cons (.unk _) (.cons (.same rfl) (.cons (.same rfl) (.u64 (.u32 (.u16 (.u8 (.u4 (.u2 .nil))))))))))))) (.old (.box' (.cons (.share (renl_Carrier _ _)) (.cons (.share (renl_Decl _ _)) .nil))) (.old (.box' (.cons (.same rfl) (.cons (.same rfl) .nil))) (.old (.box' (.cons (.tipS (renl_Carrier _ _) rfl) (.cons (.tipS (renl_Decl _ _) rfl) .nil))) (.old (.box' (.cons (.tipS (renl_Carrier _ _) rfl) (.cons (.tipS (renl_Decl _ _) rfl) .nil))) (.old (.tip _) (.old (.tip _) (.old (.tip _) (.old (.tip _) .nil))))))))))
  refine AW.region τ_ok mixedO 0 ?_
  conv => whnf
  obtain ⟨x17, hx17, hj1⟩ := ob hj1
  refine call_pur (R2_ValidEnv_ok _ _ _ hx17) okF_56 (.cons (.same _) .nil) (fun g => by simp only [ren, renL, renLL, renT, renL_app, renl_I, renl_S, renl_U8, renl_Ty, renl_Tm, renl_Carrier, renl_Decl]) (fun g => rfl) ?_
  conv => whnf
  refine onB_cond hj1 (fun hc14 hj1 => ?_) (fun hc14 hj1 => ?_)
  · conv => whnf
    cases hj1
    exact hR1 _ _ (Le.of [some 0, some 1, some 2] (Weak.mk' rfl (.u2 (.cons (.same rfl) (.cons (.same rfl) (.cons (.same rfl) (.u16 (.u2 (.cons (.same rfl) (.u64 (.u32 (.u8 (.u4 (.u2 .nil)))))))))))) (.old (.box' (.cons (.share (renl_Carrier _ _)) (.cons (.share (renl_Decl _ _)) .nil))) (.old (.box' (.cons (.share (renl_Carrier _ _)) (.cons (.share (renl_Decl _ _)) .nil))) (.old (.box' (.cons (.same rfl) (.cons (.same rfl) .nil))) .nil)))))
  · conv => whnf
    obtain ⟨x18, hx18, hj1⟩ := ob hj1
    refine call_pur (R2_ValidEnv_ok _ _ _ hx18) okF_56 (.cons (.same _) .nil) (fun g => by simp only [ren, renL, renLL, renT, renL_app, renl_I, renl_S, renl_U8, renl_Ty, renl_Tm, renl_Carrier, renl_Decl]) (fun g => rfl) ?_
    conv => whnf
    cases hj1
    exact hR1 _ _ (Le.of [some 0, some 1, some 2] (Weak.mk' rfl (.u2 (.cons (.same rfl) (.cons (.same rfl) (.cons (.same rfl) (.u16 (.u2 (.cons (.same rfl) (.u64 (.u32 (.u8 (.u4 (.u2 .nil)))))))))))) (.old (.box' (.cons (.share (renl_Carrier _ _)) (.cons (.share (renl_Decl _ _)) .nil))) (.old (.box' (.cons (.share (renl_Carrier _ _)) (.cons (.share (renl_Decl _ _)) .nil))) (.old (.box' (.cons (.same rfl) (.cons (.same rfl) .nil))) .nil)))))
end Abs
end Go.Proofs.YtiiaccpcoclklaaGreat
namespace Go.Proofs.YtiiaccpcoclklaaGreat
namespace Abs
open Go Go.Proofs
def L2_TypingUnions_L0 (n : Nat) (p0 : Env) (p1 : Env) (x2 : Env × Int) (x7 : List Str) : Nat → Int → Option (LR Unit Bool)
  | 0, _ => none
  | k + 1, s3 => (cond (decide (s3 < (x7.length : Int))) ((idx x7 s3).bind fun (x10 : Str) => ((typing_Lookup n x2.1 x10).bind fun (x11 : Ty × Bool) => ((idx x7 s3).bind fun (x12 : Str) => ((typing_Lookup n p0 x12).bind fun (x13 : Ty × Bool) => (((cond (!x13.2) ((idx x7 s3).bind fun (x15 : Str) => ((typing_Lookup n p1 x15).bind fun (x16 : Ty × Bool) => some (x16.2, x16.1.kind, x16.1.name, x16.1.kids))) (some (x13.2, x13.1.kind, x13.1.name, x13.1.kids))) : Option (Bool × Int × Str × (List Ty))).bind fun (s6 : Bool × Int × Str × (List Ty)) => (((cond (!x11.2) (some true) (cond (!s6.1) (some true) ((R1_SameType n x11.1 (Ty.mk s6.2.1 s6.2.2.1 s6.2.2.2)).bind fun (x14 : Bool) => some (!x14)))) : Option Bool).bind fun (s7 : Bool) => (cond s7 (some (.rt false)) (L2_TypingUnions_L0 n p0 p1 x2 x7 k (s3 + 1))))))))) (some (.nx ())))
def L2_TypingUnions (n : Nat) (p0 : Env) (p1 : Env) : Option Bool := ((((L2_small n p0).bind fun (x18 : Bool) => (cond (!x18) (some true) ((L2_small n p1).bind fun (x19 : Bool) => some (!x19)))) : Option Bool).bind fun (s1 : Bool) => (cond s1 ((L2_awake n).bind fun (x1 : Bool) => some x1) ((typing_Union n p0 p1).bind fun (x2 : Env × Int) => ((R2_Union n p0 p1).bind fun (x3 : Env × Int) => (((cond (x2.2 != x3.2) (some true) ((R2_SameEnv n x2.1 x3.1).bind fun (x17 : Bool) => some (!x17))) : Option Bool).bind fun (s2 : Bool) => (cond s2 (some false) (cond (x2.2 != 0) ((L2_awake n).bind fun (x4 : Bool) => some x4) ((R2_AllNames n p0).bind fun (x5 : List Str) => ((R2_AllNames n p1).bind fun (x6 : List Str) => ((app 16 x5 x6).bind fun (x7 : List Str) => ((L2_TypingUnions_L0 n p0 p1 x2 x7 n 0).bind (LR.el (fun (s4 : Unit) => ((((typing_ValidEnv n x2.1).bind fun (x8 : Bool) => (cond x8 ((L2_awake n).bind fun (x9 : Bool) => some x9) (some false))) : Option Bool).bind fun (s5 : Bool) => some s5)) (fun r => some r)))))))))))))
set_option maxRecDepth 100000 in
set_option maxHeartbeats 40000000 in
theorem L2_TypingUnions_ok (n : Nat) (p0 : Env) (p1 : Env) (r : Bool) (h : L2_TypingUnions n p0 p1 = some r) : ACalls Tryz.prog 15 [.agg [.slice (List.map encCarrier p0.carriers) .shared, .slice (List.map encDecl p0.names) .shared], .agg [.slice (List.map encCarrier p1.carriers) .shared, .slice (List.map encDecl p1.names) .shared]] [] (.bool r) [] := by
  unfold L2_TypingUnions at h
  refine acalls_start true Tryz.func15 rfl (by rw [Tryz.ntmps15]; exact Nat.le_of_ble_eq_true rfl) fun Q hQ t ht => ?_
  conv at ht => whnf
  subst ht
  refine AW.seqK fun K1 hK1 => ?_
  refine AW.region τ_ok mixedO 2 ?_
  conv => whnf
  refine hK1 _ _ ?_
  refine AW.seqK fun K2 hK2 => ?_
  refine AW.seqK fun K3 hK3 => ?_
  obtain ⟨s1, hj1, h⟩ := ob h
  have hR1 : ∀ t9 h9, Le 0 t9 h9 (u2 (.ptr 0 0 :: (.ptr 1 0 :: (u16 (u2 (.bool s1 :: (u64 (u16 (u2 []))))))))) [.box [.slice (List.map encCarrier p0.carriers) .shared, .slice (List.map encDecl p0.names) .shared], .box [.slice (List.map encCarrier p1.carriers) .shared, .slice (List.map encDecl p1.names) .shared]] → K3 t9 h9 := by
    intro t9 h9 hw
    refine hK3 _ _ (AW.le hw ?_)
    clear hw
    refine AW.condS rfl h (fun hc1 h => ?_) (fun hc1 h => ?_)
    · refine AW.seqK fun K4 hK4 => ?_
      refine AW.region τ_ok mixedO 0 ?_
      conv => whnf
      obtain ⟨x1, hx1, h⟩ := ob h
      refine call_pur (L2_awake_ok _ _ hx1) okF_17 .nil (fun g => rfl) (fun g => rfl) ?_
      conv => whnf
      refine hK4 _ _ ?_
      refine AW.ret ?_
      conv => whnf
      have e9 := Option.some.inj h
      subst e9
      refine hQ _ _ _ (retPure τ_ok (fun g => rfl) ?_)
      conv => whnf
    · refine AW.skip ?_
      conv => whnf
      refine hK2 _ _ ?_
      refine AW.seqK fun K5 hK5 => ?_
      refine AW.region τ_ok mixedO 1 ?_
      conv => whnf
      obtain ⟨x2, hx2, h⟩ := ob h
      refine call_pur (typing_Union_ok _ _ _ _ hx2) okF_60 (.cons (.same _) (.cons (.same _) .nil)) (fun g => by simp only [ren, renL, renLL, renT, renL_app, renl_I, renl_S, renl_U8, renl_Ty, renl_Tm, renl_Carrier, renl_Decl]) (fun g => by simp only [ren, renL, renLL, renT, renL_app, renl_I, renl_S, renl_U8, renl_Ty, renl_Tm, renl_Carrier, renl_Decl]) ?_
      conv => whnf
      refine hK5 _ _ ?_
      refine AW.seqK fun K6 hK6 => ?_
      refine AW.region τ_ok mixedO 1 ?_
      conv => whnf
      obtain ⟨x3, hx3, h⟩ := ob h
      refine call_pur (R2_Union_ok _ _ _ _ hx3) okF_61 (.cons (.same _) (.cons (.same _) .nil)) (fun g => by simp only [ren, renL, renLL, renT, renL_app, renl_I, renl_S, renl_U8, renl_Ty, renl_Tm, renl_Carrier, renl_Decl]) (fun g => by simp only [ren, renL, renLL, renT, renL_app, renl_I, renl_S, renl_U8, renl_Ty, renl_Tm, renl_Carrier, renl_Decl]) ?_
      conv => whnf
      refine hK6 _ _ ?_
      refine AW.seqK fun K7 hK7 => ?_
      refine AW.seqK fun K8 hK8 => ?_
      obtain ⟨s2, hj2, h⟩ := ob h
      have hR2 : ∀ t9 h9, Le 0 t9 h9 (u2 (.ptr 0 0 :: (.ptr 1 0 :: (.unk :: (.ptr 2 0 :: (.int .i64 x2.2 :: (u32 (u4 (.unk :: (.bool s2 :: (u32 (u16 (u8 (u4 [])))))))))))))) [.box [.slice (List.map encCarrier p0.carriers) .shared, .slice (List.map encDecl p0.names) .shared], .box [.slice (List.map encCarrier p1.carriers) .shared, .slice (List.map encDecl p1.names) .shared], .box [.slice (List.map encCarrier x2.1.carriers) .shared, .slice (List.map encDecl x2.1.names) .shared]] → K8 t9 h9 := by
        intro t9 h9 hw
        refine hK8 _ _ (AW.le hw ?_)
        clear hw
        refine AW.condS rfl h (fun hc2 h => ?_) (fun hc2 h => ?_)
        · refine AW.seqK fun K9 hK9 => ?_
          refine AW.region τ_ok mixedO 0 ?_
          conv => whnf
          refine hK9 _ _ ?_
          refine AW.ret ?_
          conv => whnf
          have e9 := Option.some.inj h
          subst e9
          refine hQ _ _ _ (retPure τ_ok (fun g => rfl) ?_)
          conv => whnf
        · refine AW.skip ?_
          conv => whnf
          refine hK7 _ _ ?_
          refine AW.seqK fun K10 hK10 => ?_
          refine AW.seqK fun K11 hK11 => ?_
          refine AW.region τ_ok mixedO 0 ?_
          conv => whnf
          refine hK11 _ _ ?_
          refine AW.condS rfl h (fun hc3 h => ?_) (fun hc3 h => ?_)
          · refine AW.seqK fun K12 hK12 => ?_
            refine AW.region τ_ok mixedO 0 ?_
            conv => whnf
            obtain ⟨x4, hx4, h⟩ := ob h
            refine call_pur (L2_awake_ok _ _ hx4) okF_17 .nil (fun g => rfl) (fun g => rfl) ?_
            conv => whnf
            refine hK12 _ _ ?_
            refine AW.ret ?_
            conv => whnf
            have e9 := Option.some.inj h
            subst e9
            refine hQ _ _ _ (retPure τ_ok (fun g => rfl) ?_)
            conv => whnf
          · refine AW.skip ?_
            conv => whnf
            refine hK10 _ _ ?_
            refine AW.seqK fun K13 hK13 => ?_
            refine AW.region τ_ok mixedO 3 ?_
            conv => whnf
            obtain ⟨x5, hx5, h⟩ := ob h
            refine call_gen [] [3] [.agg [.slice (List.map encCarrier p0.carriers) .shared, .slice (List.map encDecl p0.names) .shared]] [.agg [.slice (List.map encCarrier p0.carriers) .shared, .slice (List.map encDecl p0.names) .shared]] (R2_AllNames_ok _ _ _ hx5) okF_62 rfl .nil (by simp only [ren, renL, renLL, renT, renL_app, renl_I, renl_S, renl_U8, renl_Ty, renl_Tm, renl_Carrier, renl_Decl]; try rfl) (.cons (.same _) .nil) (rn := .slice (List.map encS x5) (.tip 3 1)) (by simp only [ren, renL, renLL, renT, renL_app, renl_I, renl_S, renl_U8, renl_Ty, renl_Tm, renl_Carrier, renl_Decl]; try rfl) (Hn := [.tip (List.length x5 * 1)]) ((rcons (rfl) rfl)) ?_
            conv => whnf
            obtain ⟨x6, hx6, h⟩ := ob h
            refine call_gen [] [4] [.agg [.slice (List.map encCarrier p1.carriers) .shared, .slice (List.map encDecl p1.names) .shared]] [.agg [.slice (List.map encCarrier p1.carriers) .shared, .slice (List.map encDecl p1.names) .shared]] (R2_AllNames_ok _ _ _ hx6) okF_62 rfl .nil (by simp only [ren, renL, renLL, renT, renL_app, renl_I, renl_S, renl_U8, renl_Ty, renl_Tm, renl_Carrier, renl_Decl]; try rfl) (.cons (.same _) .nil) (rn := .slice (List.map encS x6) (.tip 4 1)) (by simp only [ren, renL, renLL, renT, renL_app, renl_I, renl_S, renl_U8, renl_Ty, renl_Tm, renl_Carrier, renl_Decl]; try rfl) (Hn := [.tip (List.length x6 * 1)]) ((rcons (rfl) rfl)) ?_
            conv => whnf
            obtain ⟨x7, hx7, h⟩ := ob h
            refine app_tip (l := x5) (ys := x6) (f := encS) hx7 ok_S rfl rfl rfl ?_
            conv => whnf
            refine ⟨rfl, ?_⟩
            conv => whnf
            refine hK13 _ _ ?_
            refine AW.seqK fun K14 hK14 => ?_
            refine AW.seqK fun K15 hK15 => ?_
            refine AW.region τ_ok mixedO 0 ?_
            conv => whnf
            refine hK15 _ _ ?_
            refine AW.block ?_
            obtain ⟨o1, ho1, h⟩ := ob h
            have hR3 : ∀ s4 : Unit, o1 = .nx s4 → ∀ t9 h9, Le 0 t9 h9 (u4 (.unk :: (.ptr 0 0 :: (u64 (u32 (u2 (.unk :: []))))))) [.box [.slice (List.map encCarrier x2.1.carriers) .shared, .slice (List.map encDecl x2.1.names) .shared]] → K14 t9 h9 := by
              intro s4 ho
              subst ho
              dsimp only [LR.el] at h
              intro t9 h9 hw
              refine hK14 _ _ (AW.le hw ?_)
              refine AW.seqK fun K16 hK16 => ?_
              obtain ⟨s5, hj3, h⟩ := ob h
              have hR4 : ∀ t9 h9, Le 0 t9 h9 (u4 (.bool s5 :: (u64 (u32 (u4 []))))) [] → K16 t9 h9 := by
                intro t9 h9 hw
                refine hK16 _ _ (AW.le hw ?_)
                clear hw
                refine AW.ret ?_
                conv => whnf
                have e9 := Option.some.inj h
                subst e9
                refine hQ _ _ _ (retPure τ_ok (fun g => rfl) ?_)
                conv => whnf
              refine AW.region τ_ok mixedO 0 ?_
              conv => whnf
              obtain ⟨x8, hx8, hj3⟩ := ob hj3
              refine call_pur (typing_ValidEnv_ok _ _ _ hx8) okF_55 (.cons (.same _) .nil) (fun g => by simp only [ren, renL, renLL, renT, renL_app, renl_I, renl_S, renl_U8, renl_Ty, renl_Tm, renl_Carrier, renl_Decl]) (fun g => rfl) ?_
              conv => whnf
              refine onB_cond hj3 (fun hc4 hj3 => ?_) (fun hc4 hj3 => ?_)
              · conv => whnf
                obtain ⟨x9, hx9, hj3⟩ := ob hj3
                refine call_pur (L2_awake_ok _ _ hx9) okF_17 .nil (fun g => rfl) (fun g => rfl) ?_
                conv => whnf
                cases hj3
                exact hR4 _ _ (Le.of [] (Weak.mk' rfl (.u4 (.cons (.same rfl) (.u64 (.u32 (.u4 .nil))))) .nil))
              · conv => whnf
                cases hj3
                exact hR4 _ _ (Le.of [] (Weak.mk' rfl (.u4 (.cons (.same rfl) (.u64 (.u32 (.u4 .nil))))) .nil))
            refine AW.loopS (L2_TypingUnions_L0 n p0 p1 x2 x7) (fun (s3 : Int) => (u2 (.ptr 0 0 :: (.ptr 1 0 :: (.unk :: (.ptr 2 0 :: (u2 (.unk :: (.slice (List.map encS x7) (.tip 3 1) :: (.int .i64 s3 :: (u64 (u16 (u8 (u4 (u2 []))))))))))))))) (fun (s3 : Int) => [.box [.slice (List.map encCarrier p0.carriers) .shared, .slice (List.map encDecl p0.names) .shared], .box [.slice (List.map encCarrier p1.carriers) .shared, .slice (List.map encDecl p1.names) .shared], .box [.slice (List.map encCarrier x2.1.carriers) .shared, .slice (List.map encDecl x2.1.names) .shared], .tip (List.length x7 * 1)]) ho1 (fun _ => rfl) (Le.of [some 0, some 1, some 2, some 5] (Weak.mk' rfl (.u2 (.cons (.same rfl) (.cons (.same rfl) (.cons (.unk _) (.cons (.same rfl) (.u2 (.cons (.unk _) (.cons (.tipS (renl_S _ _) rfl) (.cons (.same rfl) (.u64 (.u16 (.u8 (.u4 (.u2 .nil)))))))))))))) (.old (.box' (.cons (.share (renl_Carrier _ _)) (.cons (.share (renl_Decl _ _)) .nil))) (.old (.box' (.cons (.share (renl_Carrier _ _)) (.cons (.share (renl_Decl _ _)) .nil))) (.old (.box' (.cons (.share (renl_Carrier _ _)) (.cons (.share (renl_Decl _ _)) .nil))) (.old (.tip _) .nil)))))) ?_
            intro n1 s3 hs1 KL1 hKL1
            unfold L2_TypingUnions_L0 at hs1
            refine AW.seqK fun K17 hK17 => ?_
            refine AW.seqK fun K18 hK18 => ?_
            refine AW.region τ_ok mixedO 0 ?_
            conv => whnf
            refine len_of (l := x7) (f := encS) ?_
            conv => whnf
            refine hK18 _ _ ?_
            refine AW.condS rfl hs1 (fun hc5 hs1 => ?_) (fun hc5 hs1 => ?_)
            · refine AW.skip ?_
              conv => whnf
              refine hK17 _ _ ?_
              refine AW.seqK fun K19 hK19 => ?_
              refine AW.block ?_
              refine AW.seqK fun K20 hK20 => ?_
              refine AW.region τ_ok mixedO 1 ?_
              conv => whnf
              obtain ⟨x10, hx10, hs1⟩ := ob hs1
              refine idx_of (l := x7) (f := encS) (cs := [.str (x10)]) hx10 (rfl) rfl ?_
              conv => whnf
              obtain ⟨x11, hx11, hs1⟩ := ob hs1
              refine call_pur (typing_Lookup_ok _ _ _ _ hx11) okF_51 (.cons (.same _) (.cons (.same _) .nil)) (fun g => by simp only [ren, renL, renLL, renT, renL_app, renl_I, renl_S, renl_U8, renl_Ty, renl_Tm, renl_Carrier, renl_Decl]) (fun g => by simp only [ren, renL, renLL, renT, renL_app, renl_I, renl_S, renl_U8, renl_Ty, renl_Tm, renl_Carrier, renl_Decl]) ?_
              conv => whnf
              refine ⟨rfl, ?_⟩
              conv => whnf
              refine hK20 _ _ ?_
              refine AW.seqK fun K21 hK21 => ?_
              refine AW.region τ_ok mixedO 1 ?_
              conv => whnf
              obtain ⟨x12, hx12, hs1⟩ := ob hs1
              refine idx_of (l := x7) (f := encS) (cs := [.str (x12)]) hx12 (rfl) rfl ?_
              conv => whnf
              obtain ⟨x13, hx13, hs1⟩ := ob hs1
              refine call_pur (typing_Lookup_ok _ _ _ _ hx13) okF_51 (.cons (.same _) (.cons (.same _) .nil)) (fun g => by simp only [ren, renL, renLL, renT, renL_app, renl_I, renl_S, renl_U8, renl_Ty, renl_Tm, renl_Carrier, renl_Decl]) (fun g => by simp only [ren, renL, renLL, renT, renL_app, renl_I, renl_S, renl_U8, renl_Ty, renl_Tm, renl_Carrier, renl_Decl]) ?_
              conv => whnf
              refine ⟨rfl, ?_⟩
              conv => whnf
              refine hK21 _ _ ?_
              refine AW.seqK fun K22 hK22 => ?_
              obtain ⟨s6, hj4, hs1⟩ := ob hs1
              have hR5 : ∀ t9 h9, Le 0 t9 h9 (u2 (.ptr 0 0 :: (.ptr 1 0 :: (.unk :: (.ptr 2 0 :: (u2 (.unk :: (.slice (List.map encS x7) (.tip 3 1) :: (.int .i64 s3 :: (.ptr 4 0 :: (.bool x11.2 :: (.ptr 5 0 :: (.bool s6.1 :: (u64 (u16 (u8 (u2 []))))))))))))))))) [.box [.slice (List.map encCarrier p0.carriers) .shared, .slice (List.map encDecl p0.names) .shared], .box [.slice (List.map encCarrier p1.carriers) .shared, .slice (List.map encDecl p1.names) .shared], .box [.slice (List.map encCarrier x2.1.carriers) .shared, .slice (List.map encDecl x2.1.names) .shared], .tip (List.length x7 * 1), .box [.int .i64 x11.1.kind, .str x11.1.name, .slice (List.map encTy x11.1.kids) .shared], .box [.int .i64 s6.2.1, .str s6.2.2.1, .slice (List.map encTy s6.2.2.2) .shared]] → K22 t9 h9 := by
                intro t9 h9 hw
                refine hK22 _ _ (AW.le hw ?_)
                clear hw
                refine AW.seqK fun K23 hK23 => ?_
                obtain ⟨s7, hj5, hs1⟩ := ob hs1
                have hR6 : ∀ t9 h9, Le 0 t9 h9 (u2 (.ptr 0 0 :: (.ptr 1 0 :: (.unk :: (.ptr 2 0 :: (u2 (.unk :: (.slice (List.map encS x7) (.tip 3 1) :: (.int .i64 s3 :: (u64 (u16 (u8 (.bool s7 :: (u4 (.unk :: []))))))))))))))) [.box [.slice (List.map encCarrier p0.carriers) .shared, .slice (List.map encDecl p0.names) .shared], .box [.slice (List.map encCarrier p1.carriers) .shared, .slice (List.map encDecl p1.names) .shared], .box [.slice (List.map encCarrier x2.1.carriers) .shared, .slice (List.map encDecl x2.1.names) .shared], .tip (List.length x7 * 1)] → K23 t9 h9 := by
                  intro t9 h9 hw
                  refine hK23 _ _ (AW.le hw ?_)
                  clear hw
                  refine AW.condS rfl hs1 (fun hc6 hs1 => ?_) (fun hc6 hs1 => ?_)
                  · refine AW.seqK fun K24 hK24 => ?_
                    refine AW.region τ_ok mixedO 0 ?_
                    conv => whnf
                    refine hK24 _ _ ?_
                    refine AW.ret ?_
                    conv => whnf
                    have e9 := Option.some.inj hs1
                    subst e9
                    dsimp only [LR.el] at h
                    have e9 := Option.some.inj h
                    subst e9
                    refine hQ _ _ _ (retPure τ_ok (fun g => rfl) ?_)
                    conv => whnf
                  · refine AW.skip ?_
                    conv => whnf
                    refine hK19 _ _ ?_
                    refine AW.know 10 0 fun hv1 => ?_
                    refine AW.know 9 0 fun hv2 => ?_
                    refine AW.region τ_ok mixedO 0 ?_
                    conv => whnf
                    refine ⟨(s3 + 1), by have := wf64 hv1; have := vfl hv2; have h8 := of_decide_eq_true hc5; exact w64_id (by omega) (by omega), ?_⟩
                    conv => whnf
                    exact hKL1 _ _ _ hs1 (Le.of [some 0, some 1, some 2, some 3] (Weak.mk' rfl (.u2 (.cons (.same rfl) (.cons (.same rfl) (.cons (.unk _) (.cons (.same rfl) (.u2 (.cons (.unk _) (.cons (.tipS (renl_S _ _) rfl) (.cons (.same rfl) (.u64 (.u16 (.u8 (.u4 (.u2 .nil)))))))))))))) (.old (.box' (.cons (.share (renl_Carrier _ _)) (.cons (.share (renl_Decl _ _)) .nil))) (.old (.box' (.cons (.share (renl_Carrier _ _)) (.cons (.share (renl_Decl _ _)) .nil))) (.old (.box' (.cons (.share (renl_Carrier _ _)) (.cons (.share (renl_Decl _ _)) .nil))) (.old (.tip _) .nil))))))
                refine AW.region τ_ok mixedO 0 ?_
                conv => whnf
                refine onB_cond hj5 (fun hc7 hj5 => ?_) (fun hc7 hj5 => ?_)
                · conv => whnf
                  cases hj5
                  exact hR6 _ _ (Le.of [some 0, some 1, some 2, some 3] (Weak.mk' rfl (.u2 (.cons (.same rfl) (.cons (.same rfl) (.cons (.unk _) (.cons (.same rfl) (.u2 (.cons (.unk _) (.cons (.tipS (renl_S _ _) rfl) (.cons (.same rfl) (.u64 (.u16 (.u8 (.cons (.same rfl) (.u4 (.cons (.unk _) .nil))))))))))))))) (.old (.box' (.cons (.share (renl_Carrier _ _)) (.cons (.share (renl_Decl _ _)) .nil))) (.old (.box' (.cons (.share (renl_Carrier _ _)) (.cons (.share (renl_Decl _ _)) .nil))) (.old (.box' (.cons (.share (renl_Carrier _ _)) (.cons (.share (renl_Decl _ _)) .nil))) (.old (.tip _) .nil))))))
                · conv => whnf
                  refine onB_cond hj5 (fun hc8 hj5 => ?_) (fun hc8 hj5 => ?_)
                  · conv => whnf
                    cases hj5
                    exact hR6 _ _ (Le.of [some 0, some 1, some 2, some 3] (Weak.mk' rfl (.u2 (.cons (.same rfl) (.cons (.same rfl) (.cons (.unk _) (.cons (.same rfl) (.u2 (.cons (.unk _) (.cons (.tipS (renl_S _ _) rfl) (.cons (.same rfl) (.u64 (.u16 (.u8 (.cons (.same rfl) (.u4 (.cons (.unk _) .nil))))))))))))))) (.old (.box' (.cons (.share (renl_Carrier _ _)) (.cons (.share (renl_Decl _ _)) .nil))) (.old (.box' (.cons (.share (renl_Carrier _ _)) (.cons (.share (renl_Decl _ _)) .nil))) (.old (.box' (.cons (.share (renl_Carrier _ _)) (.cons (.share (renl_Decl _ _)) .nil))) (.old (.tip _) .nil))))))
                  · conv => whnf
                    obtain ⟨x14, hx14, hj5⟩ := ob hj5
                    refine call_pur (R1_SameType_ok _ _ _ _ hx14) okF_20 (.cons (.same _) (.cons (.same _) .nil)) (fun g => by simp only [ren, renL, renLL, renT, renL_app, renl_I, renl_S, renl_U8, renl_Ty, renl_Tm, renl_Carrier, renl_Decl]) (fun g => rfl) ?_
                    conv => whnf
                    cases hj5
                    exact hR6 _ _ (Le.of [some 0, some 1, some 2, some 3] (Weak.mk' rfl (.u2 (.cons (.same rfl) (.cons (.same rfl) (.cons (.unk _) (.cons (.same rfl) (.u2 (.cons (.unk _) (.cons (.tipS (renl_S _ _) rfl) (.cons (.same rfl) (.u64 (.u16 (.u8 (.cons (.same rfl) (.u4 (.cons (.unk _) .nil))))))))))))))) (.old (.box' (.cons (.share (renl_Carrier _ _)) (.cons (.share (renl_Decl _ _)) .nil))) (.old (.box' (.cons (.share (renl_Carrier _ _)) (.cons (.share (renl_Decl _ _)) .nil))) (.old (.box' (.cons (.share (renl_Carrier _ _)) (.cons (.share (renl_Decl _ _)) .nil))) (.old (.tip _) .nil))))))
              refine AW.seqK fun K25 hK25 => ?_
              refine AW.region τ_ok mixedO 0 ?_
              conv => whnf
              refine hK25 _ _ ?_
              refine AW.condS rfl hj4 (fun hc9 hj4 => ?_) (fun hc9 hj4 => ?_)
              · refine AW.region τ_ok mixedO 0 ?_
                conv => whnf
                obtain ⟨x15, hx15, hj4⟩ := ob hj4
                refine idx_of (l := x7) (f := encS) (cs := [.str (x15)]) hx15 (rfl) rfl ?_
                conv => whnf
                obtain ⟨x16, hx16, hj4⟩ := ob hj4
                refine call_pur (typing_Lookup_ok _ _ _ _ hx16) okF_51 (.cons (.same _) (.cons (.same _) .nil)) (fun g => by simp only [ren, renL, renLL, renT, renL_app, renl_I, renl_S, renl_U8, renl_Ty, renl_Tm, renl_Carrier, renl_Decl]) (fun g => by simp only [ren, renL, renLL, renT, renL_app, renl_I, renl_S, renl_U8, renl_Ty, renl_Tm, renl_Carrier, renl_Decl]) ?_
                conv => whnf
                refine ⟨rfl, ?_⟩
                conv => whnf
                cases hj4
                exact hR5 _ _ (Le.of [some 0, some 1, some 2, some 3, some 4, some 5] (Weak.mk' rfl (.u2 (.cons (.same rfl) (.cons (.same rfl) (.cons (.unk _) (.cons (.same rfl) (.u2 (.cons (.unk _) (.cons (.tipS (renl_S _ _) rfl) (.cons (.same rfl) (.cons (.same rfl) (.cons (.same rfl) (.cons (.same rfl) (.cons (.same rfl) (.u64 (.u16 (.u8 (.u2 .nil))))))))))))))))) (.old (.box' (.cons (.share (renl_Carrier _ _)) (.cons (.share (renl_Decl _ _)) .nil))) (.old (.box' (.cons (.share (renl_Carrier _ _)) (.cons (.share (renl_Decl _ _)) .nil))) (.old (.box' (.cons (.share (renl_Carrier _ _)) (.cons (.share (renl_Decl _ _)) .nil))) (.old (.tip _) (.old (.box' (.cons (.same rfl) (.cons (.same rfl) (.cons (.share (renl_Ty _ _)) .nil)))) (.old (.box' (.cons (.same rfl) (.cons (.same rfl) (.cons (.share (renl_Ty _ _)) .nil)))) .nil))))))))
              · refine AW.skip ?_
                conv => whnf
                cases hj4
                exact hR5 _ _ (Le.of [some 0, some 1, some 2, some 3, some 4, some 5] (Weak.mk' rfl (.u2 (.cons (.same rfl) (.cons (.same rfl) (.cons (.unk _) (.cons (.same rfl) (.u2 (.cons (.unk _) (.cons (.tipS (renl_S _ _) rfl) (.cons (.same rfl) (.cons (.same rfl) (.cons (.same rfl) (.cons (.same rfl) (.cons (.same rfl) (.u64 (.u16 (.u8 (.u2 .nil))))))))))))))))) (.old (.box' (.cons (.share (renl_Carrier _ _)) (.cons (.share (renl_Decl _ _)) .nil))) (.old (.box' (.cons (.share (renl_Carrier _ _)) (.cons (.share (renl_Decl _ _)) .nil))) (.old (.box' (.cons (.share (renl_Carrier _ _)) (.cons (.share (renl_Decl _ _)) .nil))) (.old (.tip _) (.old (.box' (.cons (.same rfl) (.cons (.same rfl) (.cons (.share (renl_Ty _ _)) .nil)))) (.old (.box' (.cons (.same rfl) (.cons (.same rfl) (.cons (.share (renl_Ty _ _)) .nil)))) .nil))))))))
            · refine AW.exit ?_
              conv => whnf
              exact hR3 _ (Option.some.inj hs1).symm _ _ (Le.of [some 2] (Weak.mk' rfl (.u4 (.cons (.unk _) (.cons (.same rfl) (.u64 (.u32 (.u2 (.cons (.unk _) .nil))))))) (.old (.box' (.cons (.share (renl_Carrier _ _)) (.cons (.share (renl_Decl _ _)) .nil))) .nil)))
      refine AW.region τ_ok mixedO 0 ?_
      conv => whnf
      refine onB_cond hj2 (fun hc10 hj2 => ?_) (fun hc10 hj2 => ?_)
      · conv => whnf
        cases hj2
        exact hR2 _ _ (Le.of [some 0, some 1, some 2] (Weak.mk' rfl (.u2 (.cons (.same rfl) (.cons (.same rfl) (.cons (.unk _) (.cons (.same rfl) (.cons (.same rfl) (.u32 (.u4 (.cons (.unk _) (.cons (.same rfl) (.u32 (.u16 (.u8 (.u4 .nil)))))))))))))) (.old (.box' (.cons (.share (renl_Carrier _ _)) (.cons (.share (renl_Decl _ _)) .nil))) (.old (.box' (.cons (.share (renl_Carrier _ _)) (.cons (.share (renl_Decl _ _)) .nil))) (.old (.box' (.cons (.share (renl_Carrier _ _)) (.cons (.share (renl_Decl _ _)) .nil))) .nil)))))
      · conv => whnf
        obtain ⟨x17, hx17, hj2⟩ := ob hj2
        refine call_pur (R2_SameEnv_ok _ _ _ _ hx17) okF_57 (.cons (.same _) (.cons (.same _) .nil)) (fun g => by simp only [ren, renL, renLL, renT, renL_app, renl_I, renl_S, renl_U8, renl_Ty, renl_Tm, renl_Carrier, renl_Decl]) (fun g => rfl) ?_
        conv => whnf
        cases hj2
        exact hR2 _ _ (Le.of [some 0, some 1, some 2] (Weak.mk' rfl (.u2 (.cons (.same rfl) (.cons (.same rfl) (.cons (.unk _) (.cons (.same rfl) (.cons (.same rfl) (.u32 (.u4 (.cons (.unk _) (.cons (.same rfl) (.u32 (.u16 (.u8 (.u4 .nil)))))))))))))) (.old (.box' (.cons (.share (renl_Carrier _ _)) (.cons (.share (renl_Decl _ _)) .nil))) (.old (.box' (.cons (.share (renl_Carrier _ _)) (.cons (.share (renl_Decl _ _)) .nil))) (.old (.box' (.cons (.share (renl_Carrier _ _)) (.cons (.share (renl_Decl _ _)) .nil))) .nil)))))
  refine AW.region τ_ok mixedO 0 ?_
  conv => whnf
  obtain ⟨x18, hx18, hj1⟩ := ob hj1
  refine call_pur (L2_small_ok _ _ _ hx18) okF_16 (.cons (.same _) .nil) (fun g => by simp only [ren, renL, renLL, renT, renL_app, renl_I, renl_S, renl_U8, renl_Ty, renl_Tm, renl_Carrier, renl_Decl]) (fun g => rfl) ?_
  conv => whnf
  refine onB_cond hj1 (fun hc11 hj1 => ?_) (fun hc11 hj1 => ?_)
  · conv => whnf
    cases hj1
    exact hR1 _ _ (Le.of [some 0, some 1] (Weak.mk' rfl (.u2 (.cons (.same rfl) (.cons (.same rfl) (.u16 (.u2 (.cons (.same rfl) (.u64 (.u16 (.u2 .nil))))))))) (.old (.box' (.cons (.share (renl_Carrier _ _)) (.cons (.share (renl_Decl _ _)) .nil))) (.old (.box' (.cons (.share (renl_Carrier _ _)) (.cons (.share (renl_Decl _ _)) .nil))) .nil))))
  · conv => whnf
    obtain ⟨x19, hx19, hj1⟩ := ob hj1
    refine call_pur (L2_small_ok _ _ _ hx19) okF_16 (.cons (.same _) .nil) (fun g => by simp only [ren, renL, renLL, renT, renL_app, renl_I, renl_S, renl_U8, renl_Ty, renl_Tm, renl_Carrier, renl_Decl]) (fun g => rfl) ?_
    conv => whnf
    cases hj1
    exact hR1 _ _ (Le.of [some 0, some 1] (Weak.mk' rfl (.u2 (.cons (.same rfl) (.cons (.same rfl) (.u16 (.u2 (.cons (.same rfl) (.u64 (.u16 (.u2 .nil))))))))) (.old (.box' (.cons (.share (renl_Carrier _ _)) (.cons (.share (renl_Decl _ _)) .nil))) (.old (.box' (.cons (.share (renl_Carrier _ _)) (.cons (.share (renl_Decl _ _)) .nil))) .nil))))
end Abs
end Go.Proofs.YtiiaccpcoclklaaGreat
namespace Go.Proofs.YtiiaccpcoclklaaGreat
end Go.Proofs.YtiiaccpcoclklaaGreat
namespace Go.Proofs.YtiiaccpcoclklaaGreat
namespace Abs
open Go

def letB (c : Int) : Bool := (decide (97 ≤ c) && decide (c ≤ 122)) || (decide (65 ≤ c) && decide (c ≤ 90))
def digB (c : Int) : Bool := decide (48 ≤ c) && decide (c ≤ 57)
def wordB (c : Int) : Bool := letB c || (digB c || c == 95)
theorem term_letter_eq (n : Nat) (c : Int) : term_letter n c = some (letB c) := by
  unfold term_letter letB
  cases decide (97 ≤ c) <;> cases decide (c ≤ 122) <;> cases decide (65 ≤ c) <;> rfl
theorem R1_letter_eq (n : Nat) (c : Int) : R1_letter n c = some (letB c) := by
  unfold R1_letter letB
  cases decide (97 ≤ c) <;> cases decide (c ≤ 122) <;> cases decide (65 ≤ c) <;> rfl
theorem term_digit_eq (n : Nat) (c : Int) : term_digit n c = some (digB c) := by
  unfold term_digit digB
  cases decide (48 ≤ c) <;> rfl
theorem R1_digit_eq (n : Nat) (c : Int) : R1_digit n c = some (digB c) := by
  unfold R1_digit digB
  cases decide (48 ≤ c) <;> rfl
theorem term_inWord_eq (n : Nat) (c : Int) : term_inWord n c = some (wordB c) := by
  unfold term_inWord wordB
  rw [term_letter_eq, term_digit_eq]
  cases letB c <;> cases digB c <;> rfl

theorem R1_In_ev (p0 : Str) (l : List Str) : Ev (fun n => R1_In n p0 l) (l.any fun x => x == p0) := by
  unfold R1_In
  have h := loopStop l (fun n k i => R1_In_L0 n p0 l k i) (fun _ x => some (x == p0)) (fun x => x == p0) true (fun n k i => rfl) (fun x _ => Ev.ret _)
  refine Ev.bind h ?_
  cases l.any fun x => x == p0
  · exact Ev.ret _
  · exact Ev.ret _

def kws : List Str := [[116, 114, 117, 101], [102, 97, 108, 115, 101], [110, 111, 116], [111, 114], [102, 111, 114, 97, 108, 108], [101, 120, 105, 115, 116, 115], [105, 110], [110, 111, 116, 105, 110], [115, 117, 98], [109, 111, 100], [102, 117, 110], [99, 97, 114, 100], [109, 105, 110], [109, 97, 120], [100, 111, 109], [114, 97, 110], [80, 79, 87], [105, 110, 116], [98, 111, 111, 108], [115, 101, 116], [112, 97, 105, 114]]
def kwB (s : Str) : Bool := kws.any fun x => x == s
theorem R1_Keyword_ev (s : Str) : Ev (fun n => R1_Keyword n s) (kwB s) := by
  unfold R1_Keyword
  exact Ev.bind (R1_In_ev s _) (Ev.ret _)
theorem chainB (a b : Bool) : cond a (some a) (some b) = some (a || b) := by cases a <;> rfl
theorem term_keyword_eq (n : Nat) (s : Str) : term_keyword n s = some (kwB s) := by
  unfold term_keyword
  simp only [chainB, Option.bind_some]
  have h : ∀ b : Bool, cond b (some true) (some false) = some b := fun b => by cases b <;> rfl
  rw [h]
  simp only [kwB, kws, List.any_cons, List.any_nil, Bool.or_false]
  simp only [BEq.comm (a := s)]

/-- An identifier. -/
def ident (s : Str) : Bool := match s with
  | [] => false
  | c :: cs => decide (cs.length < 16) && (letB (c.toNat : Int) && (!(kwB (c :: cs)) && cs.all fun c => wordB (c.toNat : Int)))

theorem any_not {α : Type} (p : α → Bool) (l : List α) : l.any (fun x => !(p x)) = !(l.all p) := by
  induction l with
  | nil => rfl
  | cons x l ih => simp [ih]

theorem term_Identifier_ev (s : Str) : Ev (fun n => term_Identifier n s) (ident s) := by
  unfold term_Identifier
  cases s with
  | nil => exact Ev.of fun n => rfl
  | cons c cs =>
    have hloop : Ev (fun n => term_Identifier_L0 n (c :: cs) n 0) (cond ((c :: cs).any fun c => !(wordB (c.toNat : Int))) (.rt false) (.nx ())) := by
      refine loopStop (c :: cs) (fun n k i => term_Identifier_L0 n (c :: cs) k i) (fun _ x => some (!(wordB (x.toNat : Int)))) (fun x => !(wordB (x.toNat : Int))) false (fun n k i => ?_) (fun x _ => Ev.ret _)
      show cond _ _ _ = _
      congr 1
      rw [sidx_idx]
      cases idx (c :: cs) i with
      | none => rfl
      | some x =>
        simp only [Option.map_some, Option.bind_some, term_inWord_eq]
    have hs0 : sidx (c :: cs) 0 = some (c.toNat : Int) := by rw [sidx_idx]; rfl
    have hne : ((c :: cs) == ([] : Str)) = false := by simp
    simp only [hne, cond_false, hs0, Option.bind_some, term_letter_eq, term_keyword_eq]
    by_cases hl : cs.length < 16
    · have h1 : decide (16 < ((c :: cs).length : Int)) = false := decide_eq_false (by simp; omega)
      simp only [h1, cond_false, ident, decide_eq_true hl, Bool.true_and]
      cases hlet : letB (c.toNat : Int) with
      | false => exact Ev.ret _
      | true =>
        cases hk : kwB (c :: cs) with
        | true => exact Ev.ret _
        | false =>
          simp only [Bool.not_true, cond_false, Option.bind_some, Bool.true_and, Bool.not_false]
          refine Ev.bind hloop ?_
          rw [any_not]
          simp only [List.all_cons, wordB, hlet, Bool.true_or, Bool.true_and]
          cases cs.all fun c => letB (c.toNat : Int) || (digB (c.toNat : Int) || (c.toNat : Int) == 95)
          · exact Ev.ret _
          · exact Ev.ret _
    · have h1 : decide (16 < ((c :: cs).length : Int)) = true := decide_eq_true (by simp; omega)
      simp only [h1, cond_true, Option.bind_some, ident, decide_eq_false hl, Bool.false_and]
      exact Ev.ret _

theorem R1_Identifier_ev (s : Str) : Ev (fun n => R1_Identifier n s) (ident s) := by
  unfold R1_Identifier
  cases s with
  | nil => exact Ev.of fun n => rfl
  | cons c cs =>
    have hloop : Ev (fun n => R1_Identifier_L0 n (c :: cs) n 1) (cond (cs.any fun c => !(wordB (c.toNat : Int))) (.rt false) (.nx ())) := by
      refine loopStopAt (c :: cs) (fun n k i => R1_Identifier_L0 n (c :: cs) k i) (fun _ x => some (!(wordB (x.toNat : Int)))) (fun x => !(wordB (x.toNat : Int))) false (fun n k i => ?_) (fun x _ => Ev.ret _) [c] cs rfl
      show cond _ _ _ = _
      congr 1
      rw [sidx_idx]
      cases idx (c :: cs) i with
      | none => rfl
      | some x =>
        simp only [Option.map_some, Option.bind_some, R1_letter_eq, R1_digit_eq, wordB]
        cases letB (x.toNat : Int) <;> cases digB (x.toNat : Int) <;> rfl
    have hs0 : sidx (c :: cs) 0 = some (c.toNat : Int) := by rw [sidx_idx]; rfl
    have hne : decide (((c :: cs).length : Int) < 1) = false := decide_eq_false (by simp; omega)
    simp only [hne, cond_false, hs0, Option.bind_some, R1_letter_eq]
    by_cases hl : cs.length < 16
    · have h1 : decide (16 < ((c :: cs).length : Int)) = false := decide_eq_false (by simp; omega)
      simp only [h1, cond_false, ident, decide_eq_true hl, Bool.true_and]
      cases hlet : letB (c.toNat : Int) with
      | false => exact Ev.ret _
      | true =>
        simp only [Bool.not_true, cond_false, Bool.true_and]
        refine Ev.bind (a := kwB (c :: cs)) (Ev.bind (R1_Keyword_ev _) (Ev.ret _)) ?_
        cases hk : kwB (c :: cs) with
        | true => exact Ev.ret _
        | false =>
          simp only [cond_false, Bool.true_and, Bool.not_false]
          refine Ev.bind hloop ?_
          rw [any_not]
          cases cs.all fun c => wordB (c.toNat : Int)
          · exact Ev.ret _
          · exact Ev.ret _
    · have h1 : decide (16 < ((c :: cs).length : Int)) = true := decide_eq_true (by simp; omega)
      simp only [h1, cond_true, Option.bind_some, ident, decide_eq_false hl, Bool.false_and]
      exact Ev.ret _

/-! ### Primed names -/

/-- The string without a prime at its end. -/
def unprime (s : Str) : Str := if s.getLast? = some 39 then s.dropLast else s

theorem scut_all {α : Type} (s : List α) (k : Nat) (h : k ≤ s.length) : scut s 0 (k : Int) = some (s.take k) := by
  unfold scut
  rw [if_pos (by omega)]
  simp

theorem TrimSuffix_eq (n : Nat) (s : Str) (hs : s.length ≤ 9223372036854775807) : strings_TrimSuffix n s [39] = some (unprime s) := by
  unfold strings_TrimSuffix internal_stringslite_TrimSuffix internal_stringslite_HasSuffix
  rcases List.eq_nil_or_concat s with rfl | ⟨t, c, rfl⟩
  · rfl
  · have hl : ((t ++ [c]).length : Int) - (([39] : Str).length : Int) = (t.length : Int) := by simp
    have hd : decide ((([39] : Str).length : Int) ≤ ((t ++ [c]).length : Int)) = true := decide_eq_true (by simp; omega)
    simp only [List.concat_eq_append] at hs ⊢
    rw [hl, hd, wrap64 (by omega) (by simp at hs; omega)]
    have h1 : scut (t ++ [c]) (t.length : Int) ((t ++ [c]).length : Int) = some [c] := by
      unfold scut
      rw [if_pos (by simp; omega)]
      simp
    have h2 : scut (t ++ [c]) 0 (t.length : Int) = some t := by rw [scut_all _ _ (by simp)]; simp
    simp only [cond_true, h1, h2, Option.bind_some]
    unfold unprime
    rw [List.getLast?_concat, List.dropLast_concat]
    by_cases hc : c = 39
    · subst hc; simp
    · have : (([c] : Str) == [39]) = false := by simp [hc]
      rw [this, if_neg (by simpa using hc)]; rfl

/-- A name that may be declared. -/
def named (s : Str) : Bool := ident (unprime s)
theorem nameable_ev (s : Str) (hs : s.length ≤ 9223372036854775807) : Ev (fun n => typing_nameable n s) (named s) := by
  unfold typing_nameable
  simp only [TrimSuffix_eq _ s hs, Option.bind_some]
  exact Ev.bind (term_Identifier_ev _) (Ev.ret _)

theorem ident_word {s : Str} (h : ident s = true) : ∀ c ∈ s, wordB (c.toNat : Int) = true := by
  cases s with
  | nil => cases h
  | cons c cs =>
    simp only [ident, Bool.and_eq_true, decide_eq_true_eq, List.all_eq_true] at h
    intro x hx
    rcases List.mem_cons.1 hx with rfl | hx
    · simp [wordB, h.2.1]
    · exact h.2.2.2 x hx

theorem R1_Named_ev (s : Str) : Ev (fun n => R1_Named n s) (named s) := by
  unfold R1_Named
  have hp : Ev (fun n => R1_Primed n s) (decide (s.getLast? = some 39) && ident s.dropLast) := by
    unfold R1_Primed
    rcases List.eq_nil_or_concat s with rfl | ⟨t, c, rfl⟩
    · exact Ev.ret _
    · simp only [List.concat_eq_append, List.getLast?_concat, List.dropLast_concat]
      cases t with
      | nil =>
        have h1 : decide (1 < (([] ++ [c] : Str).length : Int)) = false := rfl
        simp only [h1, cond_false, Option.bind_some]
        have : ident ([] : Str) = false := rfl
        rw [this, Bool.and_false]; exact Ev.ret _
      | cons d t =>
        have h1 : decide (1 < ((d :: t ++ [c] : Str).length : Int)) = true := decide_eq_true (by simp; omega)
        have hlen : (((d :: t ++ [c] : Str).length : Int) - 1) = ((d :: t).length : Int) := by simp
        have h2 : sidx (d :: t ++ [c]) (((d :: t ++ [c] : Str).length : Int) - 1) = some (c.toNat : Int) := by
          rw [hlen, sidx_idx, show (d :: t ++ [c] : Str) = (d :: t) ++ c :: [] from rfl, idx_at]; rfl
        have h3 : scut (d :: t ++ [c]) 0 (((d :: t ++ [c] : Str).length : Int) - 1) = some (d :: t) := by rw [hlen, scut_all _ _ (by simp)]; simp
        simp only [h1, cond_true, h2, h3, Option.bind_some]
        by_cases hc : c = 39
        · subst hc
          simp only [show ((((39 : UInt8).toNat : Nat) : Int) == 39) = true from rfl, cond_true, decide_true, Bool.true_and]
          exact Ev.bind (Ev.bind (R1_Identifier_ev _) (Ev.ret _)) (Ev.ret _)
        · have e : (((c.toNat : Nat) : Int) == 39) = false := by
            apply beq_false_of_ne
            intro h
            apply hc
            have : c.toNat = 39 := by omega
            exact UInt8.toNat_inj.1 this
          rw [e]
          have e2 : decide (some c = some (39 : UInt8)) = false := decide_eq_false (by simpa using hc)
          simp only [cond_false, Option.bind_some, e2, Bool.false_and]
          exact Ev.ret _
  refine Ev.bind (a := named s) ?_ (Ev.ret _)
  refine Ev.bind (R1_Identifier_ev s) ?_
  unfold named unprime
  by_cases hq : s.getLast? = some 39
  · have hi : ident s = false := by
      cases h : ident s with
      | false => rfl
      | true =>
        have := ident_word h 39 (List.mem_of_getLast? hq)
        cases this
    rw [hi, if_pos hq]
    rw [decide_eq_true hq, Bool.true_and] at hp
    exact Ev.bind hp (Ev.ret _)
  · rw [if_neg hq]
    rw [decide_eq_false hq, Bool.false_and] at hp
    cases ident s
    · exact Ev.bind hp (Ev.ret _)
    · exact Ev.ret _
end Abs
end Go.Proofs.YtiiaccpcoclklaaGreat
namespace Go.Proofs.YtiiaccpcoclklaaGreat
namespace Abs
open Go

theorem Ty.ind {P : Ty → Prop} (h : ∀ k n ks, (∀ t ∈ ks, P t) → P (.mk k n ks)) (t : Ty) : P t := by
  match t with
  | .mk k n ks => exact h k n ks fun u _ => Ty.ind h u
termination_by SizeOf.sizeOf t
decreasing_by
  rename_i hu
  have := List.sizeOf_lt_of_mem hu
  simp only [Ty.mk.sizeOf_spec]
  omega

/-- Whether a node may stand at depth d. -/
def headT (k : Int) (nm : Str) (len : Nat) (d : Int) : Bool :=
  !(k == 2 && decide (1 < d)) && ((((k == 1 || (k == 2 || k == 3)) && len == 0) || ((k == 4 && len == 2) || (k == 5 && len == 1))) && cond (k == 3) (ident nm) (nm == []))

mutual
/-- Whether the type fits at depth d behind c nodes, and how many nodes were counted then. -/
def pf : Ty → Int → Int → Bool × Int
  | .mk k nm ks, d, c => cond ((decide (c + 1 ≤ 16) && decide (d ≤ 6)) && headT k nm ks.length d) (pfs ks (d + 1) (c + 1)) (false, c + 1)
def pfs : List Ty → Int → Int → Bool × Int
  | [], _, c => (true, c)
  | t :: ts, d, c => cond (pf t d c).1 (pfs ts d (pf t d c).2) (false, (pf t d c).2)
end

mutual
theorem pf_le : ∀ (t : Ty) (d c : Int), (pf t d c).1 = true → c < (pf t d c).2 ∧ (pf t d c).2 ≤ 16
  | .mk k nm ks, d, c, h => by
    simp only [pf] at h ⊢
    cases hb : ((decide (c + 1 ≤ 16) && decide (d ≤ 6)) && headT k nm ks.length d) with
    | false => rw [hb] at h; cases h
    | true =>
      rw [hb] at h
      simp only [cond_true] at h ⊢
      simp only [Bool.and_eq_true, decide_eq_true_eq] at hb
      have := pfs_le ks (d + 1) (c + 1) h
      omega
theorem pfs_le : ∀ (ts : List Ty) (d c : Int), (pfs ts d c).1 = true → c ≤ (pfs ts d c).2 ∧ (c ≤ 16 → (pfs ts d c).2 ≤ 16)
  | [], _, c, _ => by simp [pfs]
  | t :: ts, d, c, h => by
    simp only [pfs] at h ⊢
    cases hb : (pf t d c).1 with
    | false => rw [hb] at h; cases h
    | true =>
      rw [hb] at h
      simp only [cond_true] at h ⊢
      have h1 := pf_le t d c hb
      have h2 := pfs_le ts d _ h
      exact ⟨by omega, fun _ => h2.2 h1.2⟩
end

theorem enter_eq (n : Nat) (c d : Int) (h0 : 0 ≤ c) (h1 : c ≤ 16) : term_measure_enter n c 16 6 d = some (decide (c + 1 ≤ 16) && decide (d ≤ 6), c + 1) := by
  unfold term_measure_enter
  rw [wrap64 (by omega) (by omega)]
  cases decide (c + 1 ≤ 16) <;> rfl

def FitE (t : Ty) : Prop := ∀ d c : Int, 1 ≤ d → d ≤ 7 → 0 ≤ c → c ≤ 16 → Ev (fun n => term_measure_typeFits n c 16 6 t d (decide (1 < d))) (pf t d c)

theorem pfs_run (d : Int) : ∀ (ts : List Ty) (i c : Int), 0 ≤ i → (∃ j, 0 ≤ j ∧ (pfs ts d c).1 = false ∧ runI (τ := Int) (fun i x s => cond (!(pf x d s).1) (.rt (i, (pf x d s).2)) (.nx (pf x d s).2)) (fun s => s) i ts c = .rt (j, (pfs ts d c).2)) ∨ ((pfs ts d c).1 = true ∧ runI (ρ := Int × Int) (fun i x s => cond (!(pf x d s).1) (.rt (i, (pf x d s).2)) (.nx (pf x d s).2)) (fun s => s) i ts c = .nx (pfs ts d c).2)
  | [], i, c, _ => .inr ⟨rfl, rfl⟩
  | t :: ts, i, c, hi => by
    simp only [pfs, runI]
    cases hb : (pf t d c).1 with
    | false => exact .inl ⟨i, hi, rfl, rfl⟩
    | true => exact pfs_run d ts (i + 1) _ (by omega)

theorem fits_kids (ts : List Ty) (h : ∀ t ∈ ts, FitE t) (d c : Int) (hd : 1 ≤ d) (hd6 : d ≤ 6) (h0 : 0 ≤ c) (h1 : c ≤ 16) : Ev (fun n => slices_ContainsFunc_Type n ts c 16 6 d) (!(pfs ts (d + 1) c).1, (pfs ts (d + 1) c).2) := by
  refine Ev.succ ?_
  show Ev (fun n => slices_ContainsFunc_Type_body n _ _ _ _ ts c 16 6 d) _
  unfold slices_ContainsFunc_Type_body
  have hloop := loopEvI ts (fun n k i s => slices_IndexFunc_Type_L0 n (fun p0 p1 p2 p3 p4 => slices_IndexFunc_Type n p0 p1 p2 p3 p4) (fun p0 p1 p2 p3 p4 => slices_ContainsFunc_Type n p0 p1 p2 p3 p4) (fun p0 p1 p2 p3 p4 p5 => term_measure_typeFits n p0 p1 p2 p3 p4 p5) (fun p0 p1 p2 p3 p4 => term_measure_typeFits_1 n p0 p1 p2 p3 p4) ts 16 6 d k (i, s))
    (fun n i x s => (term_measure_typeFits_1 n x s 16 6 d).bind fun x2 => cond x2.1 (some (.rt (i, x2.2))) (some (.nx x2.2))) (fun i x s => cond (!(pf x (d + 1) s).1) (.rt (i, (pf x (d + 1) s).2)) (.nx (pf x (d + 1) s).2)) (fun s => s) (fun _ _ s => 0 ≤ s ∧ s ≤ 16)
    (fun n k i s => by
      show cond _ _ _ = _
      congr 1
      congr 1
      funext x
      dsimp only
      cases term_measure_typeFits_1 n x s 16 6 d with
      | none => rfl
      | some b => obtain ⟨b, e⟩ := b; cases b <;> rfl)
    (fun i x suf s hx hs => ⟨by
      have hfit : Ev (fun n => term_measure_typeFits_1 n x s 16 6 d) (!(pf x (d + 1) s).1, (pf x (d + 1) s).2) := by
        refine Ev.succ ?_
        show Ev (fun n => term_measure_typeFits_1_body n _ _ _ _ x s 16 6 d) _
        unfold term_measure_typeFits_1_body
        have := h x hx (d + 1) s (by omega) (by omega) hs.1 hs.2
        rw [decide_eq_true (show 1 < d + 1 by omega)] at this
        rw [wrap64 (by omega) (by omega)]
        exact Ev.bind this (Ev.ret _)
      refine Ev.bind hfit ?_
      cases (pf x (d + 1) s).1
      · exact Ev.ret _
      · exact Ev.ret _, fun s' he => by
        cases hb : (pf x (d + 1) s).1 with
        | false => rw [hb] at he; cases he
        | true =>
          rw [hb] at he
          simp only [Bool.not_true, cond_false, LR.nx.injEq] at he
          have := pf_le x (d + 1) s hb
          omega⟩) (s0 := c) ⟨h0, h1⟩
  rcases pfs_run (d + 1) ts 0 c (Int.le_refl _) with ⟨j, hj, hf, hr⟩ | ⟨ht, hr⟩
  · rw [hr] at hloop
    refine Ev.bind (a := (j, (pfs ts (d + 1) c).2)) (Ev.succ ?_) ?_
    · show Ev (fun n => slices_IndexFunc_Type_body n _ _ _ _ ts c 16 6 d) _
      unfold slices_IndexFunc_Type_body
      exact Ev.bind hloop (Ev.ret _)
    · rw [hf]
      simp only [decide_eq_true hj]
      exact Ev.ret _
  · rw [hr] at hloop
    refine Ev.bind (a := (-1, (pfs ts (d + 1) c).2)) (Ev.succ ?_) ?_
    · show Ev (fun n => slices_IndexFunc_Type_body n _ _ _ _ ts c 16 6 d) _
      unfold slices_IndexFunc_Type_body
      exact Ev.bind hloop (Ev.ret _)
    · rw [ht]
      exact Ev.ret _

theorem len_ne (len : Nat) (m : Nat) : (((len : Int) != (m : Int))) = !(len == m) := by
  rw [bne]
  congr 1
  by_cases h : len = m
  · subst h; simp
  · rw [beq_false_of_ne h, beq_false_of_ne (by omega)]

theorem fits : ∀ t : Ty, FitE t := Ty.ind fun k nm ks ih d c hd hd7 h0 h1 => by
  refine Ev.succ ?_
  show Ev (fun n => term_measure_typeFits_body n _ _ _ _ c 16 6 (.mk k nm ks) d (decide (1 < d))) _
  unfold term_measure_typeFits_body
  simp only [enter_eq _ c d h0 h1, Option.bind_some, pf, Ty.kind, Ty.name, Ty.kids]
  cases hb : (decide (c + 1 ≤ 16) && decide (d ≤ 6)) with
  | false => exact Ev.ret _
  | true =>
    simp only [Bool.and_eq_true, decide_eq_true_eq] at hb
    have hk := fits_kids ks ih d (c + 1) hd hb.2 (by omega) hb.1
    simp only [Bool.not_true, cond_false, Bool.true_and]
    -- the end: the number of kids, the name, the kids
    have hend : ∀ m : Nat, Ev (fun n => (((cond ((ks.length : Int) != (m : Int)) (some true) (cond (k != 3) (some (!(nm == ([] : Str)))) (some false))) : Option Bool).bind fun (s2 : Bool) => (cond s2 (some (false, c + 1)) ((slices_ContainsFunc_Type n ks (c + 1) 16 6 d).bind fun (x2 : Bool × Int) => some ((!x2.1), x2.2)))))
        (cond ((ks.length == m) && cond (k == 3) true (nm == [])) (pfs ks (d + 1) (c + 1)) (false, c + 1)) := fun m => by
      rw [len_ne]
      cases ks.length == m with
      | false => exact Ev.ret _
      | true =>
        simp only [Bool.not_true, cond_false, Bool.true_and, bne]
        have hkids : Ev (fun n => (slices_ContainsFunc_Type n ks (c + 1) 16 6 d).bind fun (x2 : Bool × Int) => some ((!x2.1), x2.2)) (pfs ks (d + 1) (c + 1)) := by
          refine Ev.bind hk ?_
          simp only [Bool.not_not]
          exact Ev.ret _
        cases k == 3 with
        | true => exact hkids
        | false =>
          simp only [Bool.not_false, cond_true, Option.bind_some, cond_false]
          cases nm == ([] : Str) with
          | false => exact Ev.ret _
          | true => exact hkids
    by_cases e1 : k = 1
    · subst e1
      have := hend 0
      simpa [headT] using this
    by_cases e2 : k = 2
    · subst e2
      cases hf : decide (1 < d) with
      | true =>
        have : headT 2 nm ks.length d = false := by simp [headT, hf]
        simp only [this, cond_false]
        exact Ev.of fun n => by simp
      | false =>
        have := hend 0
        simpa [headT, hf] using this
    by_cases e3 : k = 3
    · subst e3
      simp only [show ((3 : Int) == 1) = false from rfl, show ((3 : Int) == 2) = false from rfl, show ((3 : Int) == 3) = true from rfl, cond_false, cond_true]
      refine Ev.bind (a := cond (ident nm) (.nx 0) (.rt (false, c + 1))) (Ev.bind (term_Identifier_ev nm) ?_) ?_
      · cases ident nm
        · exact Ev.ret _
        · exact Ev.ret _
      · cases hi : ident nm with
        | false =>
          have : headT 3 nm ks.length d = false := by simp [headT, hi]
          rw [this]
          exact Ev.ret _
        | true =>
          have := hend 0
          simpa [headT, hi] using this
    by_cases e4 : k = 4
    · subst e4
      have := hend 2
      simpa [headT] using this
    by_cases e5 : k = 5
    · subst e5
      have := hend 1
      simpa [headT] using this
    · have : headT k nm ks.length d = false := by simp [headT, e1, e2, e3, e4, e5]
      rw [this]
      refine Ev.of fun n => ?_
      have b1 := beq_false_of_ne e1
      have b2 := beq_false_of_ne e2
      have b3 := beq_false_of_ne e3
      have b4 := beq_false_of_ne e4
      have b5 := beq_false_of_ne e5
      simp only [b1, b2, b3, b4, b5, cond_false, Option.bind_some, LR.el]

/-- Valid types. -/
def validT (t : Ty) : Bool := (pf t 1 0).1
theorem term_ValidType_ev (t : Ty) : Ev (fun n => term_ValidType n t) (validT t) := by
  unfold term_ValidType
  have := fits t 1 0 (by omega) (by omega) (by omega) (by omega)
  rw [show decide ((1 : Int) < 1) = false from rfl] at this
  exact Ev.bind this (Ev.ret _)

/-! ### The document's -/

def pt (t : Ty) (d c : Int) : Int := cond (pf t d c).1 (pf t d c).2 (-1)
def TypedE (t : Ty) : Prop := ∀ d c : Int, 1 ≤ d → d ≤ 7 → 0 ≤ c → c ≤ 16 → Ev (fun n => R1_typed n t d c) (pt t d c)

theorem pts_run (d : Int) : ∀ (ts : List Ty) (c : Int), 0 ≤ c → runL (τ := Int) (fun x s => cond (decide (pt x d s < 0)) (.rt (-1)) (.nx (pt x d s))) (fun s => s) ts c = cond (pfs ts d c).1 (.nx (pfs ts d c).2) (.rt (-1))
  | [], c, _ => rfl
  | t :: ts, c, h0 => by
    simp only [pfs, runL]
    by_cases hb : (pf t d c).1 = true
    · have h1 := pf_le t d c hb
      have h2 : pt t d c = (pf t d c).2 := by simp only [pt, hb, cond_true]
      have h3 : decide ((pf t d c).2 < 0) = false := decide_eq_false (by omega)
      simp only [h2, h3, hb, cond_true, cond_false]
      exact pts_run d ts (pf t d c).2 (by omega)
    · have hb' : (pf t d c).1 = false := by simpa using hb
      have h2 : pt t d c = -1 := by simp only [pt, hb', cond_false]
      have h3 : decide (pt t d c < 0) = true := decide_eq_true (by omega)
      simp only [h3, hb', cond_true, cond_false]

theorem typed : ∀ t : Ty, TypedE t := Ty.ind fun k nm ks ih d c hd hd7 h0 h1 => by
  refine Ev.succ ?_
  show Ev (fun n => R1_typed_body n _ (.mk k nm ks) d c) _
  unfold R1_typed_body
  simp only [pt, pf, Ty.kind, Ty.name, Ty.kids]
  rw [wrap64 (by omega) (by omega)]
  by_cases hd6 : d ≤ 6
  case neg =>
    rw [decide_eq_true (show 6 < d by omega), decide_eq_false hd6]
    simp only [Bool.and_false, Bool.false_and, cond_false]
    exact Ev.ret _
  by_cases hc : c + 1 ≤ 16
  case neg =>
    rw [decide_eq_false (show ¬ 6 < d by omega), decide_eq_true (show 16 < c + 1 by omega), decide_eq_false hc]
    simp only [Bool.false_and, cond_false, cond_true]
    exact Ev.ret _
  rw [decide_eq_false (show ¬ 6 < d by omega), decide_eq_false (show ¬ 16 < c + 1 by omega), decide_eq_true hd6, decide_eq_true hc]
  simp only [cond_false, Bool.true_and]
  have hloop := loopEv ks (fun n k' i s => R1_typed_L0 n (fun p0 p1 p2 => R1_typed n p0 p1 p2) (.mk k nm ks) d k' (s, i)) (fun n x s => (R1_typed n x (IntKind.wrap .i64 (d + 1)) s).bind fun x2 => cond (decide (x2 < 0)) (some (.rt (-1))) (some (.nx x2)))
    (fun x s => cond (decide (pt x (d + 1) s < 0)) (.rt (-1)) (.nx (pt x (d + 1) s))) (fun s => s) (fun _ s => 0 ≤ s ∧ s ≤ 16)
    (fun n k' i s => by
      show cond _ _ _ = _
      congr 1
      show (idx ks i).bind _ = _
      congr 1
      funext x
      dsimp only
      cases R1_typed n x (IntKind.wrap .i64 (d + 1)) s with
      | none => rfl
      | some b => simp only [Option.bind_some]; cases decide (b < 0) <;> rfl)
    (fun x suf s hx hs => ⟨by
      rw [wrap64 (by omega) (by omega)]
      refine Ev.bind (ih x hx (d + 1) s (by omega) (by omega) hs.1 hs.2) ?_
      cases decide (pt x (d + 1) s < 0)
      · exact Ev.ret _
      · exact Ev.ret _, fun s' he => by
        cases hb : decide (pt x (d + 1) s < 0) with
        | true => rw [hb] at he; cases he
        | false =>
          rw [hb] at he
          simp only [cond_false, LR.nx.injEq] at he
          have hneg : ¬ pt x (d + 1) s < 0 := of_decide_eq_false hb
          subst he
          unfold pt at hneg ⊢
          cases hb2 : (pf x (d + 1) s).1 with
          | false => rw [hb2] at hneg; simp at hneg
          | true => have := pf_le x (d + 1) s hb2; simp only [cond_true]; omega⟩) (s0 := c + 1) ⟨by omega, hc⟩
  rw [pts_run _ _ _ (by omega)] at hloop
  have hkids : Ev (fun n => (R1_typed_L0 n (fun p0 p1 p2 => R1_typed n p0 p1 p2) (.mk k nm ks) d n (c + 1, 0)).bind (LR.el (fun (s5 : Int) => some s5) (fun r => some r))) (cond (pfs ks (d + 1) (c + 1)).1 (pfs ks (d + 1) (c + 1)).2 (-1)) := by
    refine Ev.bind hloop ?_
    cases (pfs ks (d + 1) (c + 1)).1
    · exact Ev.ret _
    · exact Ev.ret _
  have hend : ∀ m : Nat, Ev (fun n => (((cond ((ks.length : Int) != (m : Int)) (some true) (cond (k == 3) ((R1_Identifier n nm).bind fun (x3 : Bool) => (cond (!x3) (some true) (cond (k != 3) (some (!(nm == ([] : Str)))) (some false)))) (cond (k != 3) (some (!(nm == ([] : Str)))) (some false)))) : Option Bool).bind fun (s3 : Bool) => (cond s3 (some (-1)) ((R1_typed_L0 n (fun p0 p1 p2 => R1_typed n p0 p1 p2) (.mk k nm ks) d n (c + 1, 0)).bind (LR.el (fun (s5 : Int) => some s5) (fun r => some r))))))
      (cond ((ks.length == m) && cond (k == 3) (ident nm) (nm == [])) (cond (pfs ks (d + 1) (c + 1)).1 (pfs ks (d + 1) (c + 1)).2 (-1)) (-1)) := fun m => by
    rw [len_ne]
    cases ks.length == m with
    | false => exact Ev.ret _
    | true =>
      simp only [Bool.not_true, cond_false, Bool.true_and, bne]
      cases k == 3 with
      | true =>
        simp only [cond_true, Bool.not_true, cond_false]
        refine Ev.bind (a := !(ident nm)) (Ev.bind (R1_Identifier_ev nm) ?_) ?_
        · cases ident nm
          · exact Ev.ret _
          · exact Ev.ret _
        · cases ident nm
          · exact Ev.ret _
          · exact hkids
      | false =>
        simp only [cond_false, Bool.not_false, cond_true, Option.bind_some]
        cases nm == ([] : Str) with
        | false => exact Ev.ret _
        | true => exact hkids
  have hpair : ∀ b : Bool, (cond (cond b (pfs ks (d + 1) (c + 1)) (false, c + 1)).1 (cond b (pfs ks (d + 1) (c + 1)) (false, c + 1)).2 (-1) : Int) = cond b (cond (pfs ks (d + 1) (c + 1)).1 (pfs ks (d + 1) (c + 1)).2 (-1)) (-1) := fun b => by cases b <;> rfl
  rw [hpair]
  by_cases e1 : k = 1
  · subst e1
    have := hend 0
    simpa [headT] using this
  by_cases e2 : k = 2
  · subst e2
    cases hf : decide (1 < d) with
    | true =>
      have : headT 2 nm ks.length d = false := by simp [headT, hf]
      rw [this]
      exact Ev.of fun n => by simp
    | false =>
      have := hend 0
      simpa [headT, hf] using this
  by_cases e3 : k = 3
  · subst e3
    have := hend 0
    simpa [headT] using this
  by_cases e4 : k = 4
  · subst e4
    have := hend 2
    simpa [headT] using this
  by_cases e5 : k = 5
  · subst e5
    have := hend 1
    simpa [headT] using this
  · have : headT k nm ks.length d = false := by simp [headT, e1, e2, e3, e4, e5]
    rw [this]
    refine Ev.of fun n => ?_
    have b1 := beq_false_of_ne e1
    have b2 := beq_false_of_ne e2
    have b3 := beq_false_of_ne e3
    have b4 := beq_false_of_ne e4
    have b5 := beq_false_of_ne e5
    simp only [b1, b2, b3, b4, b5, cond_false, Option.bind_some, LR.el]

theorem R1_ValidType_ev (t : Ty) : Ev (fun n => R1_ValidType n t) (validT t) := by
  unfold R1_ValidType
  refine Ev.bind (typed t 1 0 (by omega) (by omega) (by omega) (by omega)) ?_
  unfold pt validT
  cases hb : (pf t 1 0).1 with
  | false => exact Ev.ret _
  | true =>
    have := pf_le t 1 0 hb
    simp only [cond_true]
    rw [decide_eq_true (by omega)]
    exact Ev.ret _
end Abs
end Go.Proofs.YtiiaccpcoclklaaGreat
