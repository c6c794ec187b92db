/-
  Contracts of Go functions (printed). Conditions: none.
-/
import Derived.KernelRfl
import Derived.Test.YtiiaccpcoclklaaGreatCU3xae3ead
import Derived.Test.YtiiaccpcoclklaaGreatCT24oxa6e04d
set_option linter.unusedSimpArgs false
set_option linter.unusedVariables false
namespace Go.Proofs.YtiiaccpcoclklaaGreat
namespace Abs
open Go Go.Proofs
set_option maxRecDepth 100000
set_option maxHeartbeats 40000000
theorem xB (n : Nat) (p0 : Int) (p1 : Tm) (p2 : Tm) (r : Tm) (h : amf n p0 p1 p2 = some r) : ak Tryz.prog 173 [.i p0, bg p1, bg p2] [] (bg r) [] := by
 unfold amf at h
 refine ah true Tryz.func173 rfl (nt Tryz.ntmps173 rfl) fun Q hQ t ht => ?_
 conv at ht => whnf
 subst ht
 refine .q fun K1 k1 => rg 3 ?_
 refine k1 _ _ ?_
 refine .q fun K2 k2 => rg 1 ?_
 refine ⟨List.map aS ([p1, p2]), by simp only [List.map_cons, List.map_nil, aX]; rfl, ?_⟩
 refine k2 _ _ ?_
 refine .ret ?_
 have e9 := sj h
 subst e9
 refine hQ _ _ _ (aj aD (fun g => by simp) ?_)
 conv => whnf
 try rfl
theorem Pv (n : Nat) (p0 : Int) (p1 : Tm) (p2 : Tm) (r : Tm) (h : CF n p0 p1 p2 = some r) : ak Tryz.prog 170 [.i p0, bg p1, bg p2] [] (bg r) [] := by
 unfold CF at h
 refine ah true Tryz.func170 rfl (nt Tryz.ntmps170 rfl) fun Q hQ t ht => ?_
 conv at ht => whnf
 subst ht
 refine .q fun K1 k1 => rg 3 ?_
 refine k1 _ _ ?_
 refine .q fun K2 k2 => .q fun K3 k3 => rg 0 ?_
 refine k3 _ _ ?_
 refine .aC rfl h (fun hc1 h => ?_) (fun hc1 h => ?_)
 ·refine .q fun K4 k4 => rg 0 ?_
  refine k4 _ _ ?_
  refine .ret ?_
  have e9 := sj h
  subst e9
  refine hQ _ _ _ (aj aD (fun g => by simp) ?_)
  conv => whnf
  try rfl
 refine .skip ?_
 refine k2 _ _ ?_
 refine .q fun K5 k5 => rg 0 ?_
 refine cp (xB 0 p0 p1 p2 _ rfl) Cy (.cons (.same _) (.cons (.same _) (.cons (.same _) .nil))) ?_
 refine k5 _ _ ?_
 refine .ret ?_
 have e9 := sj h
 subst e9
 refine hQ _ _ _ (aj aD (fun g => by simp) ?_)
 conv => whnf
 try rfl
theorem sJ (n : Nat) (p0 : Tm) (p1 : Tm) (r : Tm) (h : q9 n p0 p1 = some r) : ak Tryz.prog 169 [bg p0, bg p1] [] (bg r) [] := by
 unfold q9 at h
 refine ah true Tryz.func169 rfl (nt Tryz.ntmps169 rfl) fun Q hQ t ht => ?_
 conv at ht => whnf
 subst ht
 refine .q fun K1 k1 => rg 3 ?_
 refine k1 _ _ ?_
 refine .q fun K2 k2 => .q fun K3 k3 => rg 0 ?_
 refine k3 _ _ ?_
 refine .aC rfl h (fun hc1 h => ?_) (fun hc1 h => ?_)
 ·refine .q fun K4 k4 => rg 0 ?_
  refine k4 _ _ ?_
  refine .ret ?_
  have e9 := sj h
  subst e9
  refine hQ _ _ _ (aj aD (fun g => by simp) ?_)
  conv => whnf
  try rfl
 refine .skip ?_
 refine k2 _ _ ?_
 refine .q fun K5 k5 => .q fun K6 k6 => rg 0 ?_
 refine k6 _ _ ?_
 refine .aC rfl h (fun hc2 h => ?_) (fun hc2 h => ?_)
 ·refine .q fun K7 k7 => rg 0 ?_
  refine k7 _ _ ?_
  refine .ret ?_
  have e9 := sj h
  subst e9
  refine hQ _ _ _ (aj aD (fun g => by simp) ?_)
  conv => whnf
  try rfl
 refine .skip ?_
 refine k5 _ _ ?_
 refine .q fun K8 k8 => rg 0 ?_
 refine cp (xB 0 4 p0 p1 _ rfl) Cy (.cons (.same _) (.cons (.same _) (.cons (.same _) .nil))) ?_
 refine k8 _ _ ?_
 refine .ret ?_
 have e9 := sj h
 subst e9
 refine hQ _ _ _ (aj aD (fun g => by simp) ?_)
 conv => whnf
 try rfl
theorem agw (n : Nat) (p0 : Str) (p1 : Tm) (p2 : Tm) (r : Tm) (h : G8 n p0 p1 p2 = some r) : ak Tryz.prog 171 [.str p0, bg p1, bg p2] [] (bg r) [] := by
 unfold G8 at h
 refine ah true Tryz.func171 rfl (nt Tryz.ntmps171 rfl) fun Q hQ t ht => ?_
 conv at ht => whnf
 subst ht
 refine .q fun K1 k1 => rg 3 ?_
 refine k1 _ _ ?_
 refine .q fun K2 k2 => .q fun K3 k3 => rg 0 ?_
 refine k3 _ _ ?_
 refine .aC rfl h (fun hc1 h => ?_) (fun hc1 h => ?_)
 ·refine .q fun K4 k4 => rg 0 ?_
  refine k4 _ _ ?_
  refine .ret ?_
  have e9 := sj h
  subst e9
  refine hQ _ _ _ (aj aD (fun g => by simp) ?_)
  conv => whnf
  try rfl
 refine .skip ?_
 refine k2 _ _ ?_
 refine .q fun K5 k5 => rg 1 ?_
 refine ⟨List.map aS ([p1, p2]), by simp only [List.map_cons, List.map_nil, aX]; rfl, ?_⟩
 refine k5 _ _ ?_
 refine .ret ?_
 have e9 := sj h
 subst e9
 refine hQ _ _ _ (aj aD (fun g => by simp) ?_)
 conv => whnf
 try rfl
theorem agI (n : Nat) (r : Tm) (h : afd n = some r) : ak Tryz.prog 172 [] [] (bg r) [] := by
 unfold afd at h
 refine ah true Tryz.func172 rfl (nt Tryz.ntmps172 rfl) fun Q hQ t ht => ?_
 conv at ht => whnf
 subst ht
 refine .q fun K1 k1 => rg 1 ?_
 refine k1 _ _ ?_
 refine .q fun K2 k2 => rg 0 ?_
 refine k2 _ _ ?_
 refine .ret ?_
 have e9 := sj h
 subst e9
 refine hQ _ _ _ (aj aD (fun g => by simp) ?_)
 conv => whnf
 try rfl
theorem zX (n : Nat) (p0 : Int) (r : Tm) (h : acZ n p0 = some r) : ak Tryz.prog 174 [.i p0] [] (bg r) [] := by
 unfold acZ at h
 refine ah true Tryz.func174 rfl (nt Tryz.ntmps174 rfl) fun Q hQ t ht => ?_
 conv at ht => whnf
 subst ht
 refine .q fun K1 k1 => rg 1 ?_
 refine k1 _ _ ?_
 refine .q fun K2 k2 => rg 0 ?_
 refine k2 _ _ ?_
 refine .ret ?_
 have e9 := sj h
 subst e9
 refine hQ _ _ _ (aj aD (fun g => by simp) ?_)
 conv => whnf
 try rfl
theorem OT (n : Nat) (p0 : Int) (p1 : Tm) (r : Tm) (h : akz n p0 p1 = some r) : ak Tryz.prog 175 [.i p0, bg p1] [] (bg r) [] := by
 unfold akz at h
 refine ah true Tryz.func175 rfl (nt Tryz.ntmps175 rfl) fun Q hQ t ht => ?_
 conv at ht => whnf
 subst ht
 refine .q fun K1 k1 => rg 2 ?_
 refine k1 _ _ ?_
 refine .q fun K2 k2 => rg 1 ?_
 refine ⟨List.map aS ([p1]), by simp only [List.map_cons, List.map_nil, aX]; rfl, ?_⟩
 refine k2 _ _ ?_
 refine .ret ?_
 have e9 := sj h
 subst e9
 refine hQ _ _ _ (aj aD (fun g => by simp) ?_)
 conv => whnf
 try rfl
end Abs
end Go.Proofs.YtiiaccpcoclklaaGreat
