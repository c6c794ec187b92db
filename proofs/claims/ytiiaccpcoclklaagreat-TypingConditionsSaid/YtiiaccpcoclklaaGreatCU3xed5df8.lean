/-
  Plain functions and the contracts of Go functions by them (printed by gen.py). Conditions: none.
-/
import Derived.KernelRfl
import Derived.Test.YtiiaccpcoclklaaGreatCAbs38xf5d4b8
import Derived.Test.YtiiaccpcoclklaaGreatCDgx5ff6e3
import Derived.Test.YtiiaccpcoclklaaGreatCT6x32a01b
import Derived.Test.YtiiaccpcoclklaaGreatCT16x39cf98
import Derived.Test.YtiiaccpcoclklaaGreatCT19xe6117e
import Derived.Test.YtiiaccpcoclklaaGreatCU2x32187c
set_option linter.unusedSimpArgs false
set_option linter.unusedVariables false
namespace Go.Proofs.YtiiaccpcoclklaaGreat
namespace Abs
open Go Go.Proofs
set_option maxRecDepth 100000
set_option maxHeartbeats 40000000
abbrev qR (rec_typing_copyTerm : Tm → Option Tm) : Prop := ∀ (p0 : Tm) (r : Tm), rec_typing_copyTerm p0 = some r → ak Tryz.prog 76 [dW p0] [] (dW r) []
theorem yF (n : Nat) (rec_typing_copyTerm : Tm → Option Tm) (hrec_typing_copyTerm : qR rec_typing_copyTerm) (p0 : Tm) (r : Tm) (h : jY n rec_typing_copyTerm p0 = some r) : ak Tryz.prog 76 [dW p0] [] (dW r) [] := by
 unfold jY at h
 refine ah true Tryz.func76 rfl (nt Tryz.ntmps76 rfl) fun Q hQ t ht => ?_
 conv at ht => whnf
 subst ht
 refine .q fun K1 k1 => rg 2 ?_
 refine k1 _ _ ?_
 refine .q fun K2 k2 => rg 1 ?_
 refine k2 _ _ ?_
 refine .q fun K3 k3 => rg 0 ?_
 obtain ⟨x1, hx1, h⟩ := ob h
 refine cp (vF _ _ _ hx1) Kg (.cons (.same _) .nil) ?_
 refine k3 _ _ ?_
 refine .q fun K4 k4 => .q fun K5 k5 => rg 0 ?_
 refine bO (l := p0.kids) (f := aY) ?_
 refine k5 _ _ ?_
 refine .block ?_
 obtain ⟨o1, ho1, h⟩ := ob h
 have hR1 : ∀ s2 : List Tm, o1 = .nx s2 → ∀ t9 h9, Le 0 t9 h9 (u2 (.ptr 0 0 :: (.ptr 1 0 :: (u16 (u8 []))))) [.box [.i 0, .str ([] : Str), .i 0, .i 0, .str ([] : Str), .slice (List.map aG ([] : List Ty)) .nils, .slice (List.map aY ([] : List Tm)) .nils], .box [.i p0.op, .str p0.name, .i p0.n, .i x1.kind, .str x1.name, aJ x1.kids, .slice (List.map aY s2) (.tip 2 7)], .tip (List.length s2 * 7)] → K4 t9 h9 := by
  intro s2 ho
  subst ho
  dsimp only [LR.el] at h
  intro t9 h9 hw
  refine k4 _ _ (AW.le hw ?_)
  refine .q fun K6 k6 => rg 0 ?_
  refine k6 _ _ ?_
  refine .ret ?_
  have e9 := sj h
  subst e9
  refine hQ _ _ _ (aj au (fun g => by simp) ?_)
  conv => whnf
  try rfl
 refine .loopS (lC n rec_typing_copyTerm p0) (fun (s1 : Int × (List Tm)) => (u2 (.ptr 0 0 :: (.ptr 1 0 :: (u8 (.unk :: (dN p0.kids :: (.i (p0.kids.length : Int) :: (.i s1.1 :: (u8 (u4 []))))))))))) (fun (s1 : Int × (List Tm)) => [.box [.i 0, .str ([] : Str), .i 0, .i 0, .str ([] : Str), .slice (List.map aG ([] : List Ty)) .nils, .slice (List.map aY ([] : List Tm)) .nils], .box [.i p0.op, .str p0.name, .i p0.n, .i x1.kind, .str x1.name, aJ x1.kids, .slice (List.map aY s1.2) (.tip 2 7)], .tip (List.length s1.2 * 7)]) ho1 (fun _ => rfl) (wk [some 1, some 2, none] (.u2 (.c rfl (.c rfl (.u8 (.u (.e aT (.c rfl (.c rfl (.u8 (.u4 .nil)))))))))) (.b rfl (.c rfl (.c rfl (.c rfl (.c rfl (.c rfl (.c rfl (.c rfl .nil))))))) (.b rfl (.c rfl (.c rfl (.c rfl (.c rfl (.c rfl (.e aF (.cons (.nils _ _) .nil))))))) (.w rfl .nil))) rfl) ?_
 intro n1 s1 hs1 KL1 hKL1
 unfold lC at hs1
 refine .q fun K7 k7 => rg 0 ?_
 refine k7 _ _ ?_
 refine .q fun K8 k8 => ?_
 refine .aA rfl hs1 (fun hc1 hs1 => ?_) (fun hc1 hs1 => ?_)
 ·refine .skip ?_
  refine k8 _ _ ?_
  refine .q fun K9 k9 => ?_
  refine .block ?_
  refine .q fun K10 k10 => rg 1 ?_
  obtain ⟨x2, hx2, hs1⟩ := ob hs1
  refine aN (l := p0.kids) (f := aY) (cs := [.i ((x2).op), .str ((x2).name), .i ((x2).n), .i (((x2).ty).kind), .str (((x2).ty).name), aJ (((x2).ty).kids), dN ((x2).kids)]) hx2 (bG x2) rfl ?_
  refine k10 _ _ ?_
  refine rg 2 ?_
  obtain ⟨x3, hx3, hs1⟩ := ob hs1
  refine cp (hrec_typing_copyTerm _ _ hx3) PG (.cons (.same _) .nil) ?_
  refine ⟨List.map aY ([x3]), by simp only [List.map_cons, List.map_nil, bG]; rfl, ?_⟩
  obtain ⟨x4, hx4, hs1⟩ := ob hs1
  refine pR (l := s1.2) (ys := [x3]) (f := aY) hx4 Xq rfl rfl rfl ?_
  refine ⟨rfl, ?_⟩
  refine k9 _ _ ?_
  refine .know 15 0 fun hv1 => ?_
  refine .know 13 0 fun hv2 => ?_
  refine rg 0 ?_
  refine ⟨(s1.1 + 1), by have := iW hv1; have := ng hv2; have h8 := of_decide_eq_true hc1; exact dG (by omega) (by omega), ?_⟩
  exact hKL1 _ _ _ hs1 (wk [some 0, some 1, some 5] (.u2 (.c rfl (.c rfl (.u8 (.u (.e aT (.c rfl (.c rfl (.u8 (.u4 .nil)))))))))) (.b rfl (.c rfl (.c rfl (.c rfl (.c rfl (.c rfl (.c rfl (.c rfl .nil))))))) (.b rfl (.c rfl (.c rfl (.c rfl (.c rfl (.c rfl (.e aF (.cons (.su (aT _ _) rfl) .nil))))))) (.t rfl .nil))) rfl)
 refine .exit ?_
 exact hR1 _ (sj hs1).symm _ _ (li (.u2 (.s (.s (.u16 (.u8 .n))))))
theorem Cy (n : Nat) : qR (gu n) := by
 induction n with
 | zero => exact (fun p0 r h => by unfold gu at h; cases h)
 | succ n ih =>
  exact (fun p0 r h => yF n _ ih p0 r (by unfold gu at h; exact h))
theorem CV (n : Nat) : qR (gu n) := (Cy n)
theorem vY (n : Nat) (p0 : Env) (p1 : Tm) (r : Tm × Int) (h : mR n p0 p1 = some r) : ak Tryz.prog 23 [pW p0, dW p1] [] (.tup [dW r.1, .i r.2]) [] := by
 unfold mR at h
 refine ah true Tryz.func23 rfl (nt Tryz.ntmps23 rfl) fun Q hQ t ht => ?_
 conv at ht => whnf
 subst ht
 refine .q fun K1 k1 => rg 3 ?_
 refine k1 _ _ ?_
 refine .q fun K2 k2 => .q fun K3 k3 => rg 1 ?_
 obtain ⟨x1, hx1, h⟩ := ob h
 refine cp (xw _ _ _ _ hx1) Pq (.cons (.same _) (.cons (.same _) .nil)) ?_
 refine k3 _ _ ?_
 refine .q fun K4 k4 => rg 0 ?_
 refine k4 _ _ ?_
 refine .aA rfl h (fun hc1 h => ?_) (fun hc1 h => ?_)
 ·refine .q fun K5 k5 => rg 0 ?_
  refine k5 _ _ ?_
  refine .ret ?_
  have e9 := sj h
  subst e9
  refine hQ _ _ _ (aj au (fun g => by simp) ?_)
  conv => whnf
  try rfl
 refine .skip ?_
 refine k2 _ _ ?_
 refine .q fun K6 k6 => rg 1 ?_
 obtain ⟨x2, hx2, h⟩ := ob h
 refine cp (Ap _ _ _ hx2) vB (.cons (.same _) .nil) ?_
 refine k6 _ _ ?_
 refine .q fun K7 k7 => .q fun K8 k8 => rg 0 ?_
 obtain ⟨x3, hx3, h⟩ := ob h
 refine aD (vS _ _ _ hx3) Lv (.cons (.same _) .nil) (fun g => by simp) (fun g => rfl) ?_
 refine k8 _ _ ?_
 refine .aA rfl h (fun hc2 h => ?_) (fun hc2 h => ?_)
 ·refine .q fun K9 k9 => rg 0 ?_
  refine k9 _ _ ?_
  refine .ret ?_
  have e9 := sj h
  subst e9
  refine hQ _ _ _ (aj au (fun g => by simp) ?_)
  conv => whnf
  try rfl
 refine .skip ?_
 refine k7 _ _ ?_
 refine .q fun K10 k10 => rg 0 ?_
 obtain ⟨x4, hx4, h⟩ := ob h
 refine cp (CV _ _ _ hx4) PG (.cons (.same _) .nil) ?_
 refine k10 _ _ ?_
 refine .ret ?_
 have e9 := sj h
 subst e9
 refine hQ _ _ _ (aj au (fun g => by simp) ?_)
 conv => whnf
 try rfl
end Abs
end Go.Proofs.YtiiaccpcoclklaaGreat
