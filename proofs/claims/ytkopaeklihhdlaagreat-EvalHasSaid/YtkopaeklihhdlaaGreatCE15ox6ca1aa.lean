/-
  Contracts of Go functions (printed). Conditions: none.
-/
import Derived.KernelRfl
import Derived.Test.YtkopaeklihhdlaaGreatCAwox27781f
import Derived.Test.YtkopaeklihhdlaaGreatCE12ox9c3d70
set_option linter.unusedSimpArgs false
set_option linter.unusedVariables false
namespace Go.Proofs.YtkopaeklihhdlaaGreat
namespace Abs
open Go Go.Proofs
set_option maxRecDepth 100000
set_option maxHeartbeats 40000000
theorem Lr (n : Nat) (p0 : S_api_World) (p1 : S_refinementlaw03_Typed) (p2 : S_api_Scope) (r : Bool) (h : vV n p0 p1 p2 = some r) : aj Tryz.prog 3 [.agg [.slice (List.map ah p0.env.carriers) .shared, .slice (List.map aA p0.env.names) .shared, .slice (List.map encI p0.sizes) .shared, .slice (List.map ak p0.values) .shared], .agg [.slice (List.map encI p1.sizes) .shared, .int .i64 p1.v.kind, .int .i64 p1.v.n, .str p1.v.name, .slice (List.map ak p1.v.kids) .shared, .int .i64 p1.t.kind, .str p1.t.name, .slice (List.map aC p1.t.kids) .shared], .agg [.slice (List.map encI p2.sizes) .shared, .int .i64 p2.lo, .int .i64 p2.hi]] [] (.bool r) [] := by
 unfold vV at h
 refine aB true Tryz.func3 rfl (by rw [Tryz.ntmps3]; exact Nat.le_of_ble_eq_true rfl) fun Q hQ t ht => ?_
 conv at ht => whnf
 subst ht
 refine .q fun K1 k1 => ?_
 refine rg 3 ?_
 conv => whnf
 refine k1 _ _ ?_
 refine .q fun K2 k2 => ?_
 refine .q fun K3 k3 => ?_
 refine rg 0 ?_
 conv => whnf
 obtain ⟨x1, hx1, h⟩ := ob h
 refine aJ (O4 _ _ _ hx1) aaO (.cons (.same _) .nil) (fun g => by simp) (fun g => rfl) ?_
 conv => whnf
 refine k3 _ _ ?_
 refine .aM rfl h (fun hc1 h => ?_) (fun hc1 h => ?_)
 ·refine .q fun K4 k4 => ?_
  refine rg 0 ?_
  conv => whnf
  obtain ⟨x2, hx2, h⟩ := ob h
  refine aJ (Fe _ _ hx2) Te .nil (fun g => rfl) (fun g => rfl) ?_
  conv => whnf
  refine k4 _ _ ?_
  refine .ret ?_
  conv => whnf
  have e9 := sj h
  subst e9
  refine hQ _ _ _ (aH aI (fun g => rfl) ?_)
  conv => whnf
 refine .skip ?_
 conv => whnf
 refine k2 _ _ ?_
 refine .q fun K5 k5 => ?_
 obtain ⟨s1, hj1, h⟩ := ob h
 have hR1 : ∀ t9 h9, Le 0 t9 h9 (u4 (u2 (.bool s1 :: (u32 (u8 (u4 (.unk :: []))))))) [] → K5 t9 h9 := by
  intro t9 h9 hw
  refine k5 _ _ (AW.le hw ?_)
  clear hw
  refine .ret ?_
  conv => whnf
  have e9 := sj h
  subst e9
  refine hQ _ _ _ (aH aI (fun g => rfl) ?_)
  conv => whnf
 refine rg 0 ?_
 conv => whnf
 obtain ⟨x3, hx3, hj1⟩ := ob hj1
 refine aJ (Oq _ _ _ _ _ _ hx3) Zl (.cons (.same _) (.cons (.same _) (.cons (.same _) (.cons (.same _) .nil)))) (fun g => by simp) (fun g => rfl) ?_
 conv => whnf
 obtain ⟨x4, hx4, hj1⟩ := ob hj1
 refine aJ (TM _ _ _ _ _ _ hx4) YQ (.cons (.same _) (.cons (.same _) (.cons (.same _) (.cons (.same _) .nil)))) (fun g => by simp) (fun g => rfl) ?_
 conv => whnf
 refine aD hj1 (fun hc2 hj1 => ?_) (fun hc2 hj1 => ?_)
 ·conv => whnf
  obtain ⟨x5, hx5, hj1⟩ := ob hj1
  refine aJ (CY _ _ _ hx5) ZF (.cons (.same _) .nil) (fun g => by simp) (fun g => rfl) ?_
  conv => whnf
  obtain ⟨x6, hx6, hj1⟩ := ob hj1
  refine aJ (FX _ _ _ hx6) Yj (.cons (.same _) .nil) (fun g => by simp) (fun g => rfl) ?_
  conv => whnf
  refine aD hj1 (fun hc3 hj1 => ?_) (fun hc3 hj1 => ?_)
  ·conv => whnf
   obtain ⟨x7, hx7, hj1⟩ := ob hj1
   refine aJ (Cw _ _ _ _ hx7) Zt (.cons (.same _) (.cons (.same _) .nil)) (fun g => by simp) (fun g => rfl) ?_
   conv => whnf
   obtain ⟨x8, hx8, hj1⟩ := ob hj1
   refine aJ (FY _ _ _ _ hx8) Yh (.cons (.same _) (.cons (.same _) .nil)) (fun g => by simp) (fun g => rfl) ?_
   conv => whnf
   refine aD hj1 (fun hc4 hj1 => ?_) (fun hc4 hj1 => ?_)
   ·conv => whnf
    obtain ⟨x9, hx9, hj1⟩ := ob hj1
    refine aJ (Fe _ _ hx9) Te .nil (fun g => rfl) (fun g => rfl) ?_
    conv => whnf
    refine ⟨by kernel_rfl, ?_⟩
    conv => whnf
    cases hj1
    exact hR1 _ _ (wk [] (.u4 (.u2 (.c rfl (.u32 (.u8 (.u4 (.u .nil))))))) .nil rfl)
   conv => whnf
   refine ⟨by kernel_rfl, ?_⟩
   conv => whnf
   cases hj1
   exact hR1 _ _ (wk [] (.u4 (.u2 (.c rfl (.u32 (.u8 (.u4 (.u .nil))))))) .nil rfl)
  conv => whnf
  refine ⟨by kernel_rfl, ?_⟩
  conv => whnf
  cases hj1
  exact hR1 _ _ (wk [] (.u4 (.u2 (.c rfl (.u32 (.u8 (.u4 (.u .nil))))))) .nil rfl)
 conv => whnf
 refine ⟨by kernel_rfl, ?_⟩
 conv => whnf
 cases hj1
 exact hR1 _ _ (wk [] (.u4 (.u2 (.c rfl (.u32 (.u8 (.u4 (.u .nil))))))) .nil rfl)
end Abs
end Go.Proofs.YtkopaeklihhdlaaGreat
