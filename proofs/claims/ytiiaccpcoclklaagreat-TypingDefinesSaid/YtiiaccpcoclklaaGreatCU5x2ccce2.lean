/-
  Contracts of Go functions (printed). Conditions: none.
-/
import Derived.KernelRfl
import Derived.Test.YtiiaccpcoclklaaGreatCT20x0984ed
import Derived.Test.YtiiaccpcoclklaaGreatCUDx009bf0
set_option linter.unusedSimpArgs false
set_option linter.unusedVariables false
namespace Go.Proofs.YtiiaccpcoclklaaGreat
namespace Abs
open Go Go.Proofs
set_option maxRecDepth 100000
set_option maxHeartbeats 40000000
abbrev R1_Copy_S (rec_R1_Copy : Tm → Option Tm) : Prop := ∀ (p0 : Tm) (r : Tm), rec_R1_Copy p0 = some r → ak Tryz.prog 78 [bg p0] [] (bg r) []
abbrev R1_Copies_S (rec_R1_Copies : (List Tm) → Option (List Tm)) : Prop := ∀ (p0 : List Tm) (r : List Tm), rec_R1_Copies p0 = some r → ak Tryz.prog 153 [bn p0] [] (bn r) []
theorem WW (n : Nat) (rec_R1_Copy : Tm → Option Tm) (rec_R1_Copies : (List Tm) → Option (List Tm)) (hrec_R1_Copy : R1_Copy_S rec_R1_Copy) (hrec_R1_Copies : R1_Copies_S rec_R1_Copies) (p0 : Tm) (r : Tm) (h : zJ n rec_R1_Copy rec_R1_Copies p0 = some r) : ak Tryz.prog 78 [bg p0] [] (bg r) [] := by
 unfold zJ at h
 refine ah true Tryz.func78 rfl (nt Tryz.ntmps78 rfl) fun Q hQ t ht => ?_
 conv at ht => whnf
 subst ht
 refine .q fun K1 k1 => rg 2 ?_
 refine k1 _ _ ?_
 refine .q fun K2 k2 => rg 1 ?_
 obtain ⟨x1, hx1, h⟩ := ob h
 refine cp (nN _ _ _ hx1) Dp (.cons (.same _) .nil) ?_
 refine ⟨rfl, ?_⟩
 refine k2 _ _ ?_
 refine .q fun K3 k3 => rg 0 ?_
 obtain ⟨x2, hx2, h⟩ := ob h
 refine cp (hrec_R1_Copies _ _ hx2) ahI (.cons (.same _) .nil) ?_
 refine k3 _ _ ?_
 refine .q fun K4 k4 => rg 0 ?_
 refine k4 _ _ ?_
 refine .ret ?_
 have e9 := sj h
 subst e9
 refine hQ _ _ _ (aj aD (fun g => by simp) ?_)
 conv => whnf
 try rfl
theorem Tw (n : Nat) (rec_R1_Copy : Tm → Option Tm) (rec_R1_Copies : (List Tm) → Option (List Tm)) (hrec_R1_Copy : R1_Copy_S rec_R1_Copy) (hrec_R1_Copies : R1_Copies_S rec_R1_Copies) (p0 : List Tm) (r : List Tm) (h : wO n rec_R1_Copy rec_R1_Copies p0 = some r) : ak Tryz.prog 153 [bn p0] [] (bn r) [] := by
 unfold wO at h
 refine ah true Tryz.func153 rfl (nt Tryz.ntmps153 rfl) fun Q hQ t ht => ?_
 conv at ht => whnf
 subst ht
 refine .q fun K1 k1 => rg 0 ?_
 refine k1 _ _ ?_
 refine .q fun K2 k2 => rg 0 ?_
 refine k2 _ _ ?_
 refine .q fun K3 k3 => .q fun K4 k4 => rg 0 ?_
 refine k4 _ _ ?_
 refine .block ?_
 obtain ⟨o1, ho1, h⟩ := ob h
 have hR1 : ∀ s2 : List Tm, o1 = .nx s2 → ∀ t9 h9, Le 0 t9 h9 (u2 (.unk :: (.slice (List.map aS s2) (.tip 0 7) :: (u16 [])))) [.tip (List.length s2 * 7)] → K3 t9 h9 := by
  intro s2 ho
  subst ho
  dsimp only [LR.el] at h
  intro t9 h9 hw
  refine k3 _ _ (AW.le hw ?_)
  refine .q fun K5 k5 => rg 0 ?_
  refine k5 _ _ ?_
  refine .ret ?_
  have e9 := sj h
  subst e9
  refine hQ _ _ _ (aj aD (fun g => by simp) ?_)
  conv => whnf
  try rfl
 refine .loopS (zx n rec_R1_Copy rec_R1_Copies p0) (fun (s1 : (List Tm) × Int) => (bn p0 :: (u2 (.slice (List.map aS s1.1) (.tip 0 7) :: (.i s1.2 :: (u8 (u4 (u2 (.unk :: []))))))))) (fun (s1 : (List Tm) × Int) => [.tip (List.length s1.1 * 7)]) ho1 (fun _ => rfl) (wk [none] (.e aN (.u2 (.cons (.nils _ _) (.c rfl (.u8 (.u4 (.u2 (.u .nil)))))))) (.w rfl .nil) rfl) ?_
 intro n1 s1 hs1 KL1 hKL1
 unfold zx at hs1
 refine .q fun K6 k6 => .q fun K7 k7 => rg 0 ?_
 refine aW (l := p0) (f := aS) ?_
 refine k7 _ _ ?_
 refine .aC rfl hs1 (fun hc1 hs1 => ?_) (fun hc1 hs1 => ?_)
 ·refine .skip ?_
  refine k6 _ _ ?_
  refine .q fun K8 k8 => ?_
  refine .block ?_
  refine rg 2 ?_
  obtain ⟨x1, hx1, hs1⟩ := ob hs1
  refine aJ (l := p0) (f := aS) (cs := [.i ((x1).op), .str ((x1).name), .i ((x1).n), .i (((x1).ty).kind), .str (((x1).ty).name), aI (((x1).ty).kids), bn ((x1).kids)]) hx1 (aX x1) rfl ?_
  obtain ⟨x2, hx2, hs1⟩ := ob hs1
  refine cp (hrec_R1_Copy _ _ hx2) Fg (.cons (.same _) .nil) ?_
  refine ⟨List.map aS ([x2]), by simp only [List.map_cons, List.map_nil, aX]; rfl, ?_⟩
  obtain ⟨x3, hx3, hs1⟩ := ob hs1
  refine dW (l := s1.1) (ys := [x2]) (f := aS) hx3 Rk rfl rfl rfl ?_
  refine k8 _ _ ?_
  refine .know 4 0 fun hv1 => ?_
  refine .know 0 0 fun hv2 => ?_
  refine rg 0 ?_
  refine ⟨(s1.2 + 1), by have := dn hv1; have := eP hv2; have h8 := of_decide_eq_true hc1; exact bG (by omega) (by omega), ?_⟩
  exact hKL1 _ _ _ hs1 (wk [some 2] (.e aN (.u2 (.cons (.bF (aN _ _) rfl) (.c rfl (.u8 (.u4 (.u2 (.u .nil)))))))) (.t rfl .nil) rfl)
 refine .exit ?_
 exact hR1 _ (sj hs1).symm _ _ (li (.u2 (.u (.s (.u16 .n)))))
theorem Ur (n : Nat) : R1_Copy_S (nH n) ∧ R1_Copies_S (vo n) := by
 induction n with
 | zero => exact ⟨(fun p0 r h => by unfold nH at h; cases h), (fun p0 r h => by unfold vo at h; cases h)⟩
 | succ n ih =>
  exact ⟨(fun p0 r h => WW n _ _ ih.1 ih.2 p0 r (by unfold nH at h; exact h)), (fun p0 r h => Tw n _ _ ih.1 ih.2 p0 r (by unfold vo at h; exact h))⟩
theorem D7 (n : Nat) : R1_Copy_S (nH n) := (Ur n).1
end Abs
end Go.Proofs.YtiiaccpcoclklaaGreat
