/-
  Contracts of Go functions (printed). Conditions: none.
-/
import Derived.KernelRfl
import Derived.Test.YtkopaeklihhdlaaGreatCE1x3d8f65
import Derived.Test.YtkopaeklihhdlaaGreatCEDox047739
set_option linter.unusedSimpArgs false
set_option linter.unusedVariables false
namespace Go.Proofs.YtkopaeklihhdlaaGreat
namespace Abs
open Go Go.Proofs
set_option maxRecDepth 100000
set_option maxHeartbeats 40000000
theorem CS (n : Nat) (p0 : Int) (p1 : Int) (r : Int) (h : um n p0 p1 = some r) : ak Tryz.prog 66 [.int .i64 p0, .int .i64 p1] [] (.int .i64 r) [] := by
 unfold um at h
 refine au true Tryz.func66 rfl (by rw [Tryz.ntmps66]; exact Nat.le_of_ble_eq_true rfl) fun Q hQ t ht => ?_
 conv at ht => whnf
 subst ht
 refine .q fun K1 k1 => ?_
 refine rg 0 ?_
 conv => whnf
 refine k1 _ _ ?_
 refine .q fun K2 k2 => ?_
 refine .block ?_
 refine .q fun K3 k3 => ?_
 refine rg 0 ?_
 conv => whnf
 refine k3 _ _ ?_
 refine .aK rfl h (fun hc1 h => ?_) (fun hc1 h => ?_)
 ·refine .q fun K4 k4 => ?_
  refine rg 0 ?_
  conv => whnf
  refine k4 _ _ ?_
  refine .ret ?_
  conv => whnf
  have e9 := sj h
  subst e9
  refine hQ _ _ _ (aF aJ (fun g => rfl) ?_)
  conv => whnf
 refine .q fun K5 k5 => ?_
 refine rg 0 ?_
 conv => whnf
 refine k5 _ _ ?_
 refine .aK rfl h (fun hc2 h => ?_) (fun hc2 h => ?_)
 ·refine .q fun K6 k6 => ?_
  refine rg 0 ?_
  conv => whnf
  refine k6 _ _ ?_
  refine .ret ?_
  conv => whnf
  have e9 := sj h
  subst e9
  refine hQ _ _ _ (aF aJ (fun g => rfl) ?_)
  conv => whnf
 refine .skip ?_
 conv => whnf
 refine k2 _ _ ?_
 refine .q fun K7 k7 => ?_
 refine rg 0 ?_
 conv => whnf
 refine k7 _ _ ?_
 refine .ret ?_
 conv => whnf
 have e9 := sj h
 subst e9
 refine hQ _ _ _ (aF aJ (fun g => rfl) ?_)
 conv => whnf
abbrev qa8 (qdc : Val → Val → Option Int) : Prop := ∀ (p0 : Val) (p1 : Val) (r : Int), qdc p0 p1 = some r → ak Tryz.prog 26 [.agg [.int .i64 p0.kind, .int .i64 p0.n, .str p0.name, .slice (List.map ah p0.kids) .shared], .agg [.int .i64 p1.kind, .int .i64 p1.n, .str p1.name, .slice (List.map ah p1.kids) .shared]] [] (.int .i64 r) []
theorem EC (n : Nat) (qdc : Val → Val → Option Int) (qbm : qa8 qdc) (p0 : Val) (p1 : Val) (r : Int) (h : ng n qdc p0 p1 = some r) : ak Tryz.prog 26 [.agg [.int .i64 p0.kind, .int .i64 p0.n, .str p0.name, .slice (List.map ah p0.kids) .shared], .agg [.int .i64 p1.kind, .int .i64 p1.n, .str p1.name, .slice (List.map ah p1.kids) .shared]] [] (.int .i64 r) [] := by
 unfold ng at h
 refine au true Tryz.func26 rfl (by rw [Tryz.ntmps26]; exact Nat.le_of_ble_eq_true rfl) fun Q hQ t ht => ?_
 conv at ht => whnf
 subst ht
 refine .q fun K1 k1 => ?_
 refine rg 2 ?_
 conv => whnf
 refine k1 _ _ ?_
 refine .q fun K2 k2 => ?_
 refine .q fun K3 k3 => ?_
 refine rg 0 ?_
 conv => whnf
 refine k3 _ _ ?_
 refine .aK rfl h (fun hc1 h => ?_) (fun hc1 h => ?_)
 ·refine .q fun K4 k4 => ?_
  refine rg 0 ?_
  conv => whnf
  obtain ⟨x1, hx1, h⟩ := ob h
  refine aD (CS _ _ _ _ hx1) Ro (.cons (.same _) (.cons (.same _) .nil)) (fun g => rfl) (fun g => rfl) ?_
  conv => whnf
  refine k4 _ _ ?_
  refine .ret ?_
  conv => whnf
  have e9 := sj h
  subst e9
  refine hQ _ _ _ (aF aJ (fun g => rfl) ?_)
  conv => whnf
 refine .skip ?_
 conv => whnf
 refine k2 _ _ ?_
 refine .q fun K5 k5 => ?_
 refine .q fun K6 k6 => ?_
 refine rg 0 ?_
 conv => whnf
 refine k6 _ _ ?_
 refine .aK rfl h (fun hc2 h => ?_) (fun hc2 h => ?_)
 ·refine .q fun K7 k7 => ?_
  refine rg 0 ?_
  conv => whnf
  obtain ⟨x2, hx2, h⟩ := ob h
  refine aD (CS _ _ _ _ hx2) Ro (.cons (.same _) (.cons (.same _) .nil)) (fun g => rfl) (fun g => rfl) ?_
  conv => whnf
  refine k7 _ _ ?_
  refine .ret ?_
  conv => whnf
  have e9 := sj h
  subst e9
  refine hQ _ _ _ (aF aJ (fun g => rfl) ?_)
  conv => whnf
 refine .skip ?_
 conv => whnf
 refine k5 _ _ ?_
 refine .q fun K8 k8 => ?_
 refine .q fun K9 k9 => ?_
 refine rg 0 ?_
 conv => whnf
 refine k9 _ _ ?_
 refine .aK rfl h (fun hc3 h => ?_) (fun hc3 h => ?_)
 ·refine .q fun K10 k10 => ?_
  refine rg 0 ?_
  conv => whnf
  refine k10 _ _ ?_
  refine .ret ?_
  conv => whnf
  have e9 := sj h
  subst e9
  refine hQ _ _ _ (aF aJ (fun g => rfl) ?_)
  conv => whnf
 refine .skip ?_
 conv => whnf
 refine k8 _ _ ?_
 refine .q fun K11 k11 => ?_
 refine .q fun K12 k12 => ?_
 refine rg 0 ?_
 conv => whnf
 refine k12 _ _ ?_
 refine .aK rfl h (fun hc4 h => ?_) (fun hc4 h => ?_)
 ·refine .q fun K13 k13 => ?_
  refine rg 0 ?_
  conv => whnf
  refine k13 _ _ ?_
  refine .ret ?_
  conv => whnf
  have e9 := sj h
  subst e9
  refine hQ _ _ _ (aF aJ (fun g => rfl) ?_)
  conv => whnf
 refine .skip ?_
 conv => whnf
 refine k11 _ _ ?_
 refine .q fun K14 k14 => ?_
 refine .q fun K15 k15 => ?_
 refine rg 0 ?_
 conv => whnf
 refine k15 _ _ ?_
 refine .block ?_
 obtain ⟨o1, ho1, h⟩ := ob h
 have hR1 : ∀ s2 : Unit, o1 = .nx s2 → ∀ t9 h9, Le 0 t9 h9 (u2 (.ptr 0 0 :: (.ptr 1 0 :: (u64 (u4 []))))) [.box [.int .i64 p0.kind, .int .i64 p0.n, .str p0.name, .slice (List.map ah p0.kids) .shared], .box [.int .i64 p1.kind, .int .i64 p1.n, .str p1.name, .slice (List.map ah p1.kids) .shared]] → K14 t9 h9 := by
  intro s2 ho
  subst ho
  dsimp only [LR.el] at h
  intro t9 h9 hw
  refine k14 _ _ (AW.le hw ?_)
  refine .q fun K16 k16 => ?_
  refine rg 0 ?_
  conv => whnf
  refine aS (l := p0.kids) (f := ah) ?_
  conv => whnf
  refine aS (l := p1.kids) (f := ah) ?_
  conv => whnf
  obtain ⟨x3, hx3, h⟩ := ob h
  refine aD (CS _ _ _ _ hx3) Ro (.cons (.same _) (.cons (.same _) .nil)) (fun g => rfl) (fun g => rfl) ?_
  conv => whnf
  refine k16 _ _ ?_
  refine .ret ?_
  conv => whnf
  have e9 := sj h
  subst e9
  refine hQ _ _ _ (aF aJ (fun g => rfl) ?_)
  conv => whnf
 refine .loopS (jX n qdc p0 p1) (fun (s1 : Int) => (u2 (.ptr 0 0 :: (.ptr 1 0 :: (.unk :: (.int .i64 s1 :: (u64 (u2 [])))))))) (fun (s1 : Int) => [.box [.int .i64 p0.kind, .int .i64 p0.n, .str p0.name, .slice (List.map ah p0.kids) .shared], .box [.int .i64 p1.kind, .int .i64 p1.n, .str p1.name, .slice (List.map ah p1.kids) .shared]]) ho1 (fun _ => rfl) (li (.u2 (.s (.s (.u (.s (.u16 (.u16 (.u16 (.u16 (.u2 .n))))))))))) ?_
 intro n1 s1 hs1 KL1 hKL1
 unfold jX at hs1
 refine .q fun K17 k17 => ?_
 refine .q fun K18 k18 => ?_
 obtain ⟨s3, hj1, hs1⟩ := ob hs1
 have hR2 : ∀ t9 h9, Le 0 t9 h9 (u2 (.ptr 0 0 :: (.ptr 1 0 :: (.unk :: (.int .i64 s1 :: (u32 (u8 (u2 (.bool s3 :: (u16 (u4 (u2 (.unk :: []))))))))))))) [.box [.int .i64 p0.kind, .int .i64 p0.n, .str p0.name, .slice (List.map ah p0.kids) .shared], .box [.int .i64 p1.kind, .int .i64 p1.n, .str p1.name, .slice (List.map ah p1.kids) .shared]] → K18 t9 h9 := by
  intro t9 h9 hw
  refine k18 _ _ (AW.le hw ?_)
  clear hw
  refine .aK rfl hs1 (fun hc5 hs1 => ?_) (fun hc5 hs1 => ?_)
  ·refine .skip ?_
   conv => whnf
   refine k17 _ _ ?_
   refine .q fun K19 k19 => ?_
   refine .block ?_
   refine .q fun K20 k20 => ?_
   refine rg 0 ?_
   conv => whnf
   obtain ⟨x4, hx4, hs1⟩ := ob hs1
   refine aZ (l := p0.kids) (f := ah) (cs := [.int .i64 ((x4).kind), .int .i64 ((x4).n), .str ((x4).name), .slice (List.map ah ((x4).kids)) .shared]) hx4 (bf x4) rfl ?_
   conv => whnf
   obtain ⟨x5, hx5, hs1⟩ := ob hs1
   refine aZ (l := p1.kids) (f := ah) (cs := [.int .i64 ((x5).kind), .int .i64 ((x5).n), .str ((x5).name), .slice (List.map ah ((x5).kids)) .shared]) hx5 (bf x5) rfl ?_
   conv => whnf
   obtain ⟨x6, hx6, hs1⟩ := ob hs1
   refine aD (qbm _ _ _ hx6) Jf (.cons (.same _) (.cons (.same _) .nil)) (fun g => by simp) (fun g => rfl) ?_
   conv => whnf
   refine ⟨by kernel_rfl, ?_⟩
   conv => whnf
   refine k20 _ _ ?_
   refine .q fun K21 k21 => ?_
   refine rg 0 ?_
   conv => whnf
   refine k21 _ _ ?_
   refine .aK rfl hs1 (fun hc6 hs1 => ?_) (fun hc6 hs1 => ?_)
   ·refine .q fun K22 k22 => ?_
    refine rg 0 ?_
    conv => whnf
    refine k22 _ _ ?_
    refine .ret ?_
    conv => whnf
    have e9 := sj hs1
    subst e9
    dsimp only [LR.el] at h
    have e9 := sj h
    subst e9
    refine hQ _ _ _ (aF aJ (fun g => rfl) ?_)
    conv => whnf
   refine .skip ?_
   conv => whnf
   refine k19 _ _ ?_
   refine rg 0 ?_
   conv => whnf
   refine ⟨(IntKind.wrap .i64 (s1 + 1)), rfl, ?_⟩
   conv => whnf
   exact hKL1 _ _ _ hs1 (li (.u2 (.s (.s (.u (.s (.u16 (.u16 (.u16 (.u16 (.u2 .n)))))))))))
  refine .exit ?_
  conv => whnf
  exact hR1 _ (sj hs1).symm _ _ (li (.u2 (.s (.s (.u16 (.u16 (.u16 (.u16 (.u4 .n)))))))))
 refine rg 0 ?_
 conv => whnf
 refine aS (l := p0.kids) (f := ah) ?_
 conv => whnf
 refine aB hj1 (fun hc7 hj1 => ?_) (fun hc7 hj1 => ?_)
 ·conv => whnf
  refine aS (l := p1.kids) (f := ah) ?_
  conv => whnf
  cases hj1
  exact hR2 _ _ (li (.u2 (.s (.s (.u (.s (.u16 (.u16 (.u8 (.u2 (.s (.u16 (.u4 (.u2 (.u .n)))))))))))))))
 conv => whnf
 cases hj1
 exact hR2 _ _ (li (.u2 (.s (.s (.u (.s (.u16 (.u16 (.u8 (.u2 (.s (.u16 (.u4 (.u2 (.u .n)))))))))))))))
theorem KD (n : Nat) : qa8 (fE n) := by
 induction n with
 | zero => exact (fun p0 p1 r h => by unfold fE at h; cases h)
 | succ n ih =>
  exact (fun p0 p1 r h => EC n _ ih p0 p1 r (by unfold fE at h; exact h))
theorem wZ (n : Nat) : qa8 (fE n) := (KD n)
end Abs
end Go.Proofs.YtkopaeklihhdlaaGreat
