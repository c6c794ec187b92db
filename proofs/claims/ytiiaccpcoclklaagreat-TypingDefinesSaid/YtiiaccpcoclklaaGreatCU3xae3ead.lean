/-
  Contracts of Go functions (printed). Conditions: none.
-/
import Derived.KernelRfl
import Derived.Test.YtiiaccpcoclklaaGreatCT16x09bcee
import Derived.Test.YtiiaccpcoclklaaGreatCU2xf2f493
set_option linter.unusedSimpArgs false
set_option linter.unusedVariables false
namespace Go.Proofs.YtiiaccpcoclklaaGreat
namespace Abs
open Go Go.Proofs
set_option maxRecDepth 100000
set_option maxHeartbeats 40000000
abbrev typing_copyTerm_S (rec_typing_copyTerm : Tm → Option Tm) : Prop := ∀ (p0 : Tm) (r : Tm), rec_typing_copyTerm p0 = some r → ak Tryz.prog 76 [bg p0] [] (bg r) []
theorem IQ (n : Nat) (rec_typing_copyTerm : Tm → Option Tm) (hrec_typing_copyTerm : typing_copyTerm_S rec_typing_copyTerm) (p0 : Tm) (r : Tm) (h : ow n rec_typing_copyTerm p0 = some r) : ak Tryz.prog 76 [bg p0] [] (bg r) [] := by
 unfold ow at h
 refine ah true Tryz.func76 rfl (nt Tryz.ntmps76 rfl) fun Q hQ t ht => ?_
 conv at ht => whnf
 subst ht
 refine .q fun K1 k1 => rg 2 ?_
 refine k1 _ _ ?_
 refine .q fun K2 k2 => rg 1 ?_
 refine k2 _ _ ?_
 refine .q fun K3 k3 => rg 0 ?_
 obtain ⟨x1, hx1, h⟩ := ob h
 refine cp (qB _ _ _ hx1) KG (.cons (.same _) .nil) ?_
 refine k3 _ _ ?_
 refine .q fun K4 k4 => .q fun K5 k5 => rg 0 ?_
 refine aW (l := p0.kids) (f := aS) ?_
 refine k5 _ _ ?_
 refine .block ?_
 obtain ⟨o1, ho1, h⟩ := ob h
 have hR1 : ∀ s2 : List Tm, o1 = .nx s2 → ∀ t9 h9, Le 0 t9 h9 (u2 (.ptr 0 0 :: (.ptr 1 0 :: (u16 (u8 []))))) [.box [.i 0, .str ([] : Str), .i 0, .i 0, .str ([] : Str), .slice (List.map aK ([] : List Ty)) .nils, .slice (List.map aS ([] : List Tm)) .nils], .box [.i p0.op, .str p0.name, .i p0.n, .i x1.kind, .str x1.name, aI x1.kids, .slice (List.map aS s2) (.tip 2 7)], .tip (List.length s2 * 7)] → K4 t9 h9 := by
  intro s2 ho
  subst ho
  dsimp only [LR.el] at h
  intro t9 h9 hw
  refine k4 _ _ (AW.le hw ?_)
  refine .q fun K6 k6 => rg 0 ?_
  refine k6 _ _ ?_
  refine .ret ?_
  have e9 := sj h
  subst e9
  refine hQ _ _ _ (aj aD (fun g => by simp) ?_)
  conv => whnf
  try rfl
 refine .loopS (qP n rec_typing_copyTerm p0) (fun (s1 : Int × (List Tm)) => (u2 (.ptr 0 0 :: (.ptr 1 0 :: (u8 (.unk :: (bn p0.kids :: (.i (p0.kids.length : Int) :: (.i s1.1 :: (u8 (u4 []))))))))))) (fun (s1 : Int × (List Tm)) => [.box [.i 0, .str ([] : Str), .i 0, .i 0, .str ([] : Str), .slice (List.map aK ([] : List Ty)) .nils, .slice (List.map aS ([] : List Tm)) .nils], .box [.i p0.op, .str p0.name, .i p0.n, .i x1.kind, .str x1.name, aI x1.kids, .slice (List.map aS s1.2) (.tip 2 7)], .tip (List.length s1.2 * 7)]) ho1 (fun _ => rfl) (wk [some 1, some 2, none] (.u2 (.c rfl (.c rfl (.u8 (.u (.e aN (.c rfl (.c rfl (.u8 (.u4 .nil)))))))))) (.b rfl (.c rfl (.c rfl (.c rfl (.c rfl (.c rfl (.c rfl (.c rfl .nil))))))) (.b rfl (.c rfl (.c rfl (.c rfl (.c rfl (.c rfl (.e aB (.cons (.nils _ _) .nil))))))) (.w rfl .nil))) rfl) ?_
 intro n1 s1 hs1 KL1 hKL1
 unfold qP at hs1
 refine .q fun K7 k7 => rg 0 ?_
 refine k7 _ _ ?_
 refine .q fun K8 k8 => ?_
 refine .aC rfl hs1 (fun hc1 hs1 => ?_) (fun hc1 hs1 => ?_)
 ·refine .skip ?_
  refine k8 _ _ ?_
  refine .q fun K9 k9 => ?_
  refine .block ?_
  refine .q fun K10 k10 => rg 1 ?_
  obtain ⟨x2, hx2, hs1⟩ := ob hs1
  refine aJ (l := p0.kids) (f := aS) (cs := [.i ((x2).op), .str ((x2).name), .i ((x2).n), .i (((x2).ty).kind), .str (((x2).ty).name), aI (((x2).ty).kids), bn ((x2).kids)]) hx2 (aX x2) rfl ?_
  refine k10 _ _ ?_
  refine rg 2 ?_
  obtain ⟨x3, hx3, hs1⟩ := ob hs1
  refine cp (hrec_typing_copyTerm _ _ hx3) alU (.cons (.same _) .nil) ?_
  refine ⟨List.map aS ([x3]), by simp only [List.map_cons, List.map_nil, aX]; rfl, ?_⟩
  obtain ⟨x4, hx4, hs1⟩ := ob hs1
  refine dW (l := s1.2) (ys := [x3]) (f := aS) hx4 Rk rfl rfl rfl ?_
  refine ⟨rfl, ?_⟩
  refine k9 _ _ ?_
  refine .know 15 0 fun hv1 => ?_
  refine .know 13 0 fun hv2 => ?_
  refine rg 0 ?_
  refine ⟨(s1.1 + 1), by have := dn hv1; have := eP hv2; have h8 := of_decide_eq_true hc1; exact bG (by omega) (by omega), ?_⟩
  exact hKL1 _ _ _ hs1 (wk [some 0, some 1, some 5] (.u2 (.c rfl (.c rfl (.u8 (.u (.e aN (.c rfl (.c rfl (.u8 (.u4 .nil)))))))))) (.b rfl (.c rfl (.c rfl (.c rfl (.c rfl (.c rfl (.c rfl (.c rfl .nil))))))) (.b rfl (.c rfl (.c rfl (.c rfl (.c rfl (.c rfl (.e aB (.cons (.bF (aN _ _) rfl) .nil))))))) (.t rfl .nil))) rfl)
 refine .exit ?_
 exact hR1 _ (sj hs1).symm _ _ (li (.u2 (.s (.s (.u16 (.u8 .n))))))
theorem Oo (n : Nat) : typing_copyTerm_S (jG n) := by
 induction n with
 | zero => exact (fun p0 r h => by unfold jG at h; cases h)
 | succ n ih =>
  exact (fun p0 r h => IQ n _ ih p0 r (by unfold jG at h; exact h))
theorem QV (n : Nat) : typing_copyTerm_S (jG n) := (Oo n)
theorem l7 (n : Nat) (p0 : Env) (p1 : Tm) (r : Tm × Int) (h : jw n p0 p1 = some r) : ak Tryz.prog 23 [dz p0, bg p1] [] (.bq [bg r.1, .i r.2]) [] := by
 unfold jw at h
 refine ah true Tryz.func23 rfl (nt Tryz.ntmps23 rfl) fun Q hQ t ht => ?_
 conv at ht => whnf
 subst ht
 refine .q fun K1 k1 => rg 3 ?_
 refine k1 _ _ ?_
 refine .q fun K2 k2 => .q fun K3 k3 => rg 1 ?_
 obtain ⟨x1, hx1, h⟩ := ob h
 refine cp (fu _ _ _ _ hx1) tX (.cons (.same _) (.cons (.same _) .nil)) ?_
 refine k3 _ _ ?_
 refine .q fun K4 k4 => rg 0 ?_
 refine k4 _ _ ?_
 refine .aC rfl h (fun hc1 h => ?_) (fun hc1 h => ?_)
 ·refine .q fun K5 k5 => rg 0 ?_
  refine k5 _ _ ?_
  refine .ret ?_
  have e9 := sj h
  subst e9
  refine hQ _ _ _ (aj aD (fun g => by simp) ?_)
  conv => whnf
  try rfl
 refine .skip ?_
 refine k2 _ _ ?_
 refine .q fun K6 k6 => rg 1 ?_
 obtain ⟨x2, hx2, h⟩ := ob h
 refine cp (KX _ _ _ hx2) Fv (.cons (.same _) .nil) ?_
 refine k6 _ _ ?_
 refine .q fun K7 k7 => .q fun K8 k8 => rg 0 ?_
 obtain ⟨x3, hx3, h⟩ := ob h
 refine au (FV _ _ _ hx3) ae0 (.cons (.same _) .nil) (fun g => by simp) (fun g => rfl) ?_
 refine k8 _ _ ?_
 refine .aC rfl h (fun hc2 h => ?_) (fun hc2 h => ?_)
 ·refine .q fun K9 k9 => rg 0 ?_
  refine k9 _ _ ?_
  refine .ret ?_
  have e9 := sj h
  subst e9
  refine hQ _ _ _ (aj aD (fun g => by simp) ?_)
  conv => whnf
  try rfl
 refine .skip ?_
 refine k7 _ _ ?_
 refine .q fun K10 k10 => rg 0 ?_
 obtain ⟨x4, hx4, h⟩ := ob h
 refine cp (QV _ _ _ hx4) alU (.cons (.same _) .nil) ?_
 refine k10 _ _ ?_
 refine .ret ?_
 have e9 := sj h
 subst e9
 refine hQ _ _ _ (aj aD (fun g => by simp) ?_)
 conv => whnf
 try rfl
end Abs
end Go.Proofs.YtiiaccpcoclklaaGreat
