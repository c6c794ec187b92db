/-
  Contracts of Go functions (printed). Conditions: none.
-/
import Derived.KernelRfl
import Derived.Test.YtkopaeklihhdlaaGreatCH1xfa2d8b
import Derived.Test.YtkopaeklihhdlaaGreatCDnoxf07cdd
set_option linter.unusedSimpArgs false
set_option linter.unusedVariables false
namespace Go.Proofs.YtkopaeklihhdlaaGreat
namespace Abs
open Go Go.Proofs
set_option maxRecDepth 100000
set_option maxHeartbeats 40000000
theorem h2x0 {p q : Prop} (f : p → q) (h : p := by exact li (.u2 (.u (.s (.s (.s (.u16 (.u16 (.u16 (.u2 (.s (.u16 (.u16 (.u8 (.u4 .n))))))))))))))) : q := f h
theorem h2x1 {p q : Prop} (f : p → q) (h : p := by exact wk [] (.u4 (.u2 (.c rfl (.u64 (.u16 (.u8 (.u4 (.u2 .nil)))))))) .nil rfl) : q := f h
theorem JU (n : Nat) (p0 : Val) (p1 : Val) (p2 : Val) (r : Bool) (h : uL n p0 p1 p2 = some r) : ak Tryz.prog 5 [.agg [.int .i64 p0.kind, .int .i64 p0.n, .str p0.name, .slice (List.map ah p0.kids) .shared], .agg [.int .i64 p1.kind, .int .i64 p1.n, .str p1.name, .slice (List.map ah p1.kids) .shared], .agg [.int .i64 p2.kind, .int .i64 p2.n, .str p2.name, .slice (List.map ah p2.kids) .shared]] [] (.bool r) [] := by
 unfold uL at h
 refine au true Tryz.func5 rfl (by rw [Tryz.ntmps5]; exact Nat.le_of_ble_eq_true rfl) fun Q hQ t ht => ?_
 conv at ht => whnf
 subst ht
 refine .q fun K1 k1 => ?_
 refine rg 3 ?_
 conv => whnf
 refine k1 _ _ ?_
 refine .q fun K2 k2 => ?_
 refine rg 0 ?_
 conv => whnf
 obtain ⟨x1, hx1, h⟩ := ob h
 refine aD (jK _ _ _ _ hx1) yX (.cons (.same _) (.cons (.same _) .nil)) (fun g => by simp) (fun g => rfl) ?_
 conv => whnf
 obtain ⟨x2, hx2, h⟩ := ob h
 refine aD (jK _ _ _ _ hx2) yX (.cons (.same _) (.cons (.same _) .nil)) (fun g => by simp) (fun g => rfl) ?_
 conv => whnf
 obtain ⟨x3, hx3, h⟩ := ob h
 refine aD (jK _ _ _ _ hx3) yX (.cons (.same _) (.cons (.same _) .nil)) (fun g => by simp) (fun g => rfl) ?_
 conv => whnf
 refine ⟨by kernel_rfl, ?_⟩
 conv => whnf
 refine k2 _ _ ?_
 refine .q fun K3 k3 => ?_
 refine .q fun K4 k4 => ?_
 obtain ⟨s1, hj1, h⟩ := ob h
 have hR1 : ∀ t9 h9, Le 0 t9 h9 (u2 (.unk :: (.ptr 0 0 :: (.ptr 1 0 :: (.ptr 2 0 :: (u32 (u16 (u2 (.bool s1 :: (u32 (u8 (u4 [])))))))))))) [.box [.int .i64 p0.kind, .int .i64 p0.n, .str p0.name, .slice (List.map ah p0.kids) .shared], .box [.int .i64 p1.kind, .int .i64 p1.n, .str p1.name, .slice (List.map ah p1.kids) .shared], .box [.int .i64 p2.kind, .int .i64 p2.n, .str p2.name, .slice (List.map ah p2.kids) .shared]] → K4 t9 h9 := by
  intro t9 h9 hw
  refine k4 _ _ (AW.le hw ?_)
  clear hw
  refine .aK rfl h (fun hc1 h => ?_) (fun hc1 h => ?_)
  ·refine .q fun K5 k5 => ?_
   refine rg 0 ?_
   conv => whnf
   refine k5 _ _ ?_
   refine .ret ?_
   conv => whnf
   have e9 := sj h
   subst e9
   refine hQ _ _ _ (aF aJ (fun g => rfl) ?_)
   conv => whnf
  refine .skip ?_
  conv => whnf
  refine k3 _ _ ?_
  refine .q fun K6 k6 => ?_
  refine rg 2 ?_
  conv => whnf
  refine ⟨List.map ah ([p0, p1, p2]), by simp only [List.map_cons, List.map_nil, bf]; try rfl, ?_⟩
  conv => whnf
  obtain ⟨x4, hx4, h⟩ := ob h
  refine aD (uw _ _ _ hx4) Q6 (.cons (.share _ _) .nil) (fun g => by simp [xX]) (fun g => by simp) ?_
  conv => whnf
  refine k6 _ _ ?_
  refine .q fun K7 k7 => ?_
  refine rg 2 ?_
  conv => whnf
  refine ⟨List.map ah ([p2, p0, p1, p0, p2]), by simp only [List.map_cons, List.map_nil, bf]; try rfl, ?_⟩
  conv => whnf
  obtain ⟨x5, hx5, h⟩ := ob h
  refine aD (uw _ _ _ hx5) Q6 (.cons (.share _ _) .nil) (fun g => by simp [xX]) (fun g => by simp) ?_
  conv => whnf
  refine k7 _ _ ?_
  refine .q fun K8 k8 => ?_
  obtain ⟨s2, hj2, h⟩ := ob h
  have hR2 : ∀ t9 h9, Le 0 t9 h9 (u4 (u2 (.bool s2 :: (u64 (u16 (u8 (u4 (u2 [])))))))) [] → K8 t9 h9 := by
   intro t9 h9 hw
   refine k8 _ _ (AW.le hw ?_)
   clear hw
   refine .ret ?_
   conv => whnf
   have e9 := sj h
   subst e9
   refine hQ _ _ _ (aF aJ (fun g => rfl) ?_)
   conv => whnf
  refine rg 0 ?_
  conv => whnf
  refine aB hj2 (fun hc2 hj2 => ?_) (fun hc2 hj2 => ?_)
  ·conv => whnf
   refine aB hj2 (fun hc3 hj2 => ?_) (fun hc3 hj2 => ?_)
   ·conv => whnf
    obtain ⟨x6, hx6, hj2⟩ := ob hj2
    refine aD (uI _ _ _ _ hx6) JO (.cons (.same _) (.cons (.same _) .nil)) (fun g => by simp) (fun g => rfl) ?_
    conv => whnf
    refine aB hj2 (fun hc4 hj2 => ?_) (fun hc4 hj2 => ?_)
    ·conv => whnf
     refine aS (l := x4.1.kids) (f := ah) ?_
     conv => whnf
     refine aB hj2 (fun hc5 hj2 => ?_) (fun hc5 hj2 => ?_)
     ·conv => whnf
      refine aS (l := x4.1.kids) (f := ah) ?_
      conv => whnf
      refine aB hj2 (fun hc6 hj2 => ?_) (fun hc6 hj2 => ?_)
      ·conv => whnf
       obtain ⟨x7, hx7, hj2⟩ := ob hj2
       refine aD (sF _ _ hx7) FB .nil (fun g => rfl) (fun g => rfl) ?_
       conv => whnf
       cases hj2
       exact h2x1 (hR2 _ _)
      conv => whnf
      cases hj2
      exact h2x1 (hR2 _ _)
     conv => whnf
     cases hj2
     exact h2x1 (hR2 _ _)
    conv => whnf
    cases hj2
    exact h2x1 (hR2 _ _)
   conv => whnf
   cases hj2
   exact h2x1 (hR2 _ _)
  conv => whnf
  cases hj2
  exact h2x1 (hR2 _ _)
 refine rg 0 ?_
 conv => whnf
 obtain ⟨x8, hx8, hj1⟩ := ob hj1
 refine aD (jK _ _ _ _ hx8) yX (.cons (.same _) (.cons (.same _) .nil)) (fun g => by simp) (fun g => rfl) ?_
 conv => whnf
 refine aB hj1 (fun hc7 hj1 => ?_) (fun hc7 hj1 => ?_)
 ·conv => whnf
  cases hj1
  exact h2x0 (hR1 _ _)
 conv => whnf
 obtain ⟨x9, hx9, hj1⟩ := ob hj1
 refine aD (uI _ _ _ _ hx9) JO (.cons (.same _) (.cons (.same _) .nil)) (fun g => by simp) (fun g => rfl) ?_
 conv => whnf
 refine aB hj1 (fun hc8 hj1 => ?_) (fun hc8 hj1 => ?_)
 ·conv => whnf
  cases hj1
  exact h2x0 (hR1 _ _)
 conv => whnf
 refine aB hj1 (fun hc9 hj1 => ?_) (fun hc9 hj1 => ?_)
 ·conv => whnf
  refine aB hj1 (fun hc10 hj1 => ?_) (fun hc10 hj1 => ?_)
  ·conv => whnf
   refine aB hj1 (fun hc11 hj1 => ?_) (fun hc11 hj1 => ?_)
   ·conv => whnf
    cases hj1
    exact h2x0 (hR1 _ _)
   conv => whnf
   refine aB hj1 (fun hc12 hj1 => ?_) (fun hc12 hj1 => ?_)
   ·conv => whnf
    cases hj1
    exact h2x0 (hR1 _ _)
   conv => whnf
   cases hj1
   exact h2x0 (hR1 _ _)
  conv => whnf
  refine aB hj1 (fun hc13 hj1 => ?_) (fun hc13 hj1 => ?_)
  ·conv => whnf
   cases hj1
   exact h2x0 (hR1 _ _)
  conv => whnf
  cases hj1
  exact h2x0 (hR1 _ _)
 conv => whnf
 refine aB hj1 (fun hc14 hj1 => ?_) (fun hc14 hj1 => ?_)
 ·conv => whnf
  cases hj1
  exact h2x0 (hR1 _ _)
 conv => whnf
 cases hj1
 exact h2x0 (hR1 _ _)
end Abs
end Go.Proofs.YtkopaeklihhdlaaGreat
