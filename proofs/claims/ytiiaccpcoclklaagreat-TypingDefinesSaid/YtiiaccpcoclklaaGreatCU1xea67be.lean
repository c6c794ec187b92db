/-
  Contracts of Go functions (printed). Conditions: none.
-/
import Derived.KernelRfl
import Derived.Test.YtiiaccpcoclklaaGreatCUDx009bf0
set_option linter.unusedSimpArgs false
set_option linter.unusedVariables false
namespace Go.Proofs.YtiiaccpcoclklaaGreat
namespace Abs
open Go Go.Proofs
set_option maxRecDepth 100000
set_option maxHeartbeats 40000000
theorem uQ (n : Nat) (p0 : Tm) (r : Bool) (h : Qs n p0 = some r) : ak Tryz.prog 237 [bg p0] [] (.bool r) [] := by
 unfold Qs at h
 refine ah true Tryz.func237 rfl (nt Tryz.ntmps237 rfl) fun Q hQ t ht => ?_
 conv at ht => whnf
 subst ht
 refine .q fun K1 k1 => rg 1 ?_
 refine k1 _ _ ?_
 refine .q fun K2 k2 => rg 0 ?_
 refine k2 _ _ ?_
 refine .ret ?_
 have e9 := sj h
 subst e9
 refine hQ _ _ _ (aj aD (fun g => rfl) ?_)
 conv => whnf
theorem gK (n : Nat) (p0 : Int) (p1 : List Tm) (r : Tm) (h : UK n p0 p1 = some r) : ak Tryz.prog 149 [.i p0, bn p1] [] (bg r) [] := by
 unfold UK at h
 refine ah true Tryz.func149 rfl (nt Tryz.ntmps149 rfl) fun Q hQ t ht => ?_
 conv at ht => whnf
 subst ht
 refine .q fun K1 k1 => rg 1 ?_
 refine k1 _ _ ?_
 refine .q fun K2 k2 => rg 0 ?_
 refine k2 _ _ ?_
 refine .ret ?_
 have e9 := sj h
 subst e9
 refine hQ _ _ _ (aj aD (fun g => by simp) ?_)
 conv => whnf
 try rfl
theorem SG (n : Nat) (p0 : Tm) (p1 : Tm) (r : Tm) (h : wL n p0 p1 = some r) : ak Tryz.prog 145 [bg p0, bg p1] [] (bg r) [] := by
 unfold wL at h
 refine ah true Tryz.func145 rfl (nt Tryz.ntmps145 rfl) fun Q hQ t ht => ?_
 conv at ht => whnf
 subst ht
 refine .q fun K1 k1 => rg 3 ?_
 refine k1 _ _ ?_
 refine .q fun K2 k2 => .q fun K3 k3 => rg 0 ?_
 refine au (uQ 0 p1 _ rfl) KW (.cons (.same _) .nil) (fun g => by simp) (fun g => rfl) ?_
 refine k3 _ _ ?_
 refine .aC rfl h (fun hc1 h => ?_) (fun hc1 h => ?_)
 ·refine .q fun K4 k4 => rg 0 ?_
  refine k4 _ _ ?_
  refine .ret ?_
  have e9 := sj h
  subst e9
  refine hQ _ _ _ (aj aD (fun g => by simp) ?_)
  conv => whnf
  try rfl
 refine .skip ?_
 refine k2 _ _ ?_
 refine .q fun K5 k5 => rg 1 ?_
 refine ⟨List.map aS ([p0, p1]), by simp only [List.map_cons, List.map_nil, aX]; rfl, ?_⟩
 refine cp (gK 0 6 ([p0, p1]) _ rfl) qR (.cons (.same _) (.cons (.share _ _) .nil)) ?_
 refine k5 _ _ ?_
 refine .ret ?_
 have e9 := sj h
 subst e9
 refine hQ _ _ _ (aj aD (fun g => by simp) ?_)
 conv => whnf
 try rfl
theorem ni (n : Nat) (p0 : Tm) (p1 : Tm) (r : Tm) (h : kM n p0 p1 = some r) : ak Tryz.prog 144 [bg p0, bg p1] [] (bg r) [] := by
 unfold kM at h
 refine ah true Tryz.func144 rfl (nt Tryz.ntmps144 rfl) fun Q hQ t ht => ?_
 conv at ht => whnf
 subst ht
 refine .q fun K1 k1 => rg 3 ?_
 refine k1 _ _ ?_
 refine .q fun K2 k2 => ?_
 refine .block ?_
 refine .q fun K3 k3 => rg 0 ?_
 refine au (uQ 0 p0 _ rfl) KW (.cons (.same _) .nil) (fun g => by simp) (fun g => rfl) ?_
 refine k3 _ _ ?_
 refine .aC rfl h (fun hc1 h => ?_) (fun hc1 h => ?_)
 ·refine .q fun K4 k4 => rg 0 ?_
  refine k4 _ _ ?_
  refine .ret ?_
  have e9 := sj h
  subst e9
  refine hQ _ _ _ (aj aD (fun g => by simp) ?_)
  conv => whnf
  try rfl
 refine .q fun K5 k5 => rg 0 ?_
 refine au (uQ 0 p1 _ rfl) KW (.cons (.same _) .nil) (fun g => by simp) (fun g => rfl) ?_
 refine k5 _ _ ?_
 refine .aC rfl h (fun hc2 h => ?_) (fun hc2 h => ?_)
 ·refine .q fun K6 k6 => rg 0 ?_
  refine k6 _ _ ?_
  refine .ret ?_
  have e9 := sj h
  subst e9
  refine hQ _ _ _ (aj aD (fun g => by simp) ?_)
  conv => whnf
  try rfl
 refine .skip ?_
 refine k2 _ _ ?_
 refine .q fun K7 k7 => rg 1 ?_
 refine ⟨List.map aS ([p0, p1]), by simp only [List.map_cons, List.map_nil, aX]; rfl, ?_⟩
 refine cp (gK 0 4 ([p0, p1]) _ rfl) qR (.cons (.same _) (.cons (.share _ _) .nil)) ?_
 refine k7 _ _ ?_
 refine .ret ?_
 have e9 := sj h
 subst e9
 refine hQ _ _ _ (aj aD (fun g => by simp) ?_)
 conv => whnf
 try rfl
theorem afG (n : Nat) (p0 : Tm) (p1 : Tm) (r : Tm) (h : Fq n p0 p1 = some r) : ak Tryz.prog 146 [bg p0, bg p1] [] (bg r) [] := by
 unfold Fq at h
 refine ah true Tryz.func146 rfl (nt Tryz.ntmps146 rfl) fun Q hQ t ht => ?_
 conv at ht => whnf
 subst ht
 refine .q fun K1 k1 => rg 3 ?_
 refine k1 _ _ ?_
 refine .q fun K2 k2 => .q fun K3 k3 => rg 0 ?_
 refine au (uQ 0 p1 _ rfl) KW (.cons (.same _) .nil) (fun g => by simp) (fun g => rfl) ?_
 refine k3 _ _ ?_
 refine .aC rfl h (fun hc1 h => ?_) (fun hc1 h => ?_)
 ·refine .q fun K4 k4 => rg 0 ?_
  refine k4 _ _ ?_
  refine .ret ?_
  have e9 := sj h
  subst e9
  refine hQ _ _ _ (aj aD (fun g => by simp) ?_)
  conv => whnf
  try rfl
 refine .skip ?_
 refine k2 _ _ ?_
 refine .q fun K5 k5 => rg 1 ?_
 refine ⟨List.map aS ([p0, p1]), by simp only [List.map_cons, List.map_nil, aX]; rfl, ?_⟩
 refine cp (gK 0 5 ([p0, p1]) _ rfl) qR (.cons (.same _) (.cons (.share _ _) .nil)) ?_
 refine k5 _ _ ?_
 refine .ret ?_
 have e9 := sj h
 subst e9
 refine hQ _ _ _ (aj aD (fun g => by simp) ?_)
 conv => whnf
 try rfl
theorem adt (n : Nat) (p0 : Str) (p1 : Tm) (p2 : Tm) (r : Tm) (h : DF n p0 p1 p2 = some r) : ak Tryz.prog 147 [.str p0, bg p1, bg p2] [] (bg r) [] := by
 unfold DF at h
 refine ah true Tryz.func147 rfl (nt Tryz.ntmps147 rfl) fun Q hQ t ht => ?_
 conv at ht => whnf
 subst ht
 refine .q fun K1 k1 => rg 3 ?_
 refine k1 _ _ ?_
 refine .q fun K2 k2 => .q fun K3 k3 => rg 0 ?_
 refine au (uQ 0 p2 _ rfl) KW (.cons (.same _) .nil) (fun g => by simp) (fun g => rfl) ?_
 refine k3 _ _ ?_
 refine .aC rfl h (fun hc1 h => ?_) (fun hc1 h => ?_)
 ·refine .q fun K4 k4 => rg 0 ?_
  refine k4 _ _ ?_
  refine .ret ?_
  have e9 := sj h
  subst e9
  refine hQ _ _ _ (aj aD (fun g => by simp) ?_)
  conv => whnf
  try rfl
 refine .skip ?_
 refine k2 _ _ ?_
 refine .q fun K5 k5 => rg 1 ?_
 refine ⟨List.map aS ([p1, p2]), by simp only [List.map_cons, List.map_nil, aX]; rfl, ?_⟩
 refine k5 _ _ ?_
 refine .ret ?_
 have e9 := sj h
 subst e9
 refine hQ _ _ _ (aj aD (fun g => by simp) ?_)
 conv => whnf
 try rfl
theorem adJ (n : Nat) (r : Tm) (h : Yr n = some r) : ak Tryz.prog 148 [] [] (bg r) [] := by
 unfold Yr at h
 refine ah true Tryz.func148 rfl (nt Tryz.ntmps148 rfl) fun Q hQ t ht => ?_
 conv at ht => whnf
 subst ht
 refine .q fun K1 k1 => rg 1 ?_
 refine k1 _ _ ?_
 refine .q fun K2 k2 => rg 0 ?_
 refine k2 _ _ ?_
 refine .ret ?_
 have e9 := sj h
 subst e9
 refine hQ _ _ _ (aj aD (fun g => by simp) ?_)
 conv => whnf
 try rfl
theorem um (n : Nat) (p0 : Int) (r : Tm) (h : NT n p0 = some r) : ak Tryz.prog 150 [.i p0] [] (bg r) [] := by
 unfold NT at h
 refine ah true Tryz.func150 rfl (nt Tryz.ntmps150 rfl) fun Q hQ t ht => ?_
 conv at ht => whnf
 subst ht
 refine .q fun K1 k1 => rg 1 ?_
 refine k1 _ _ ?_
 refine .q fun K2 k2 => rg 0 ?_
 refine k2 _ _ ?_
 refine .ret ?_
 have e9 := sj h
 subst e9
 refine hQ _ _ _ (aj aD (fun g => by simp) ?_)
 conv => whnf
 try rfl
end Abs
end Go.Proofs.YtiiaccpcoclklaaGreat
