/-
  Contracts of Go functions (printed). Conditions: none.
-/
import Derived.KernelRfl
import Derived.Test.YtiiaccpcoclklaaGreatCAbs38x04b7ad
import Derived.Test.YtiiaccpcoclklaaGreatCDfxa6bced
import Derived.Test.YtiiaccpcoclklaaGreatCTDx83fdfc
import Derived.Test.YtiiaccpcoclklaaGreatCT17x62aad0
import Derived.Test.YtiiaccpcoclklaaGreatCT19x57a74c
set_option linter.unusedSimpArgs false
set_option linter.unusedVariables false
namespace Go.Proofs.YtiiaccpcoclklaaGreat
namespace Abs
open Go Go.Proofs
set_option maxRecDepth 100000
set_option maxHeartbeats 40000000
abbrev Dv (rec_R1_SameType : Ty → Ty → Option Bool) : Prop := ∀ (p0 : Ty) (p1 : Ty) (r : Bool), rec_R1_SameType p0 p1 = some r → aA Tryz.prog 20 [aU p0, aU p1] [] (.bool r) []
theorem LA (n : Nat) (rec_R1_SameType : Ty → Ty → Option Bool) (hrec_R1_SameType : Dv rec_R1_SameType) (p0 : Ty) (p1 : Ty) (r : Bool) (h : lZ n rec_R1_SameType p0 p1 = some r) : aA Tryz.prog 20 [aU p0, aU p1] [] (.bool r) [] := by
 unfold lZ at h
 refine ah true Tryz.func20 rfl (nt Tryz.ntmps20 rfl) fun Q hQ t ht => ?_
 conv at ht => whnf
 subst ht
 refine .q fun K1 k1 => rg 2 ?_
 refine k1 _ _ ?_
 refine .q fun K2 k2 => .q fun K3 k3 => ?_
 obtain ⟨s1, hj1, h⟩ := ob h
 have hR1 : ∀ t9 h9, Le 0 t9 h9 (u2 (.ptr 0 0 :: (.ptr 1 0 :: (u16 (u4 (u2 (.bool s1 :: (u16 (u2 (.unk :: [])))))))))) [.box [.i p0.kind, .str p0.name, aH p0.kids], .box [.i p1.kind, .str p1.name, aH p1.kids]] → K3 t9 h9 := by
  intro t9 h9 hw
  refine k3 _ _ (AW.le hw ?_)
  clear hw
  refine .aB rfl h (fun hc1 h => ?_) (fun hc1 h => ?_)
  ·refine .q fun K4 k4 => rg 0 ?_
   refine k4 _ _ ?_
   refine .ret ?_
   have e9 := sj h
   subst e9
   refine hQ _ _ _ (aj aC (fun g => rfl) ?_)
   conv => whnf
  refine .skip ?_
  refine k2 _ _ ?_
  refine .q fun K5 k5 => .q fun K6 k6 => rg 0 ?_
  refine k6 _ _ ?_
  refine .block ?_
  obtain ⟨o1, ho1, h⟩ := ob h
  have hR2 : ∀ s3 : Unit, o1 = .nx s3 → ∀ t9 h9, Le 0 t9 h9 (u32 (u8 (u4 (u2 [])))) [] → K5 t9 h9 := by
   intro s3 ho
   subst ho
   dsimp only [LR.el] at h
   intro t9 h9 hw
   refine k5 _ _ (AW.le hw ?_)
   refine .q fun K7 k7 => rg 0 ?_
   refine k7 _ _ ?_
   refine .ret ?_
   have e9 := sj h
   subst e9
   refine hQ _ _ _ (aj aC (fun g => rfl) ?_)
   conv => whnf
  refine .loopS (qZ n rec_R1_SameType p0 p1) (fun (s2 : Int) => (u2 (.ptr 0 0 :: (.ptr 1 0 :: (.unk :: (.i s2 :: (u32 (u8 [])))))))) (fun (s2 : Int) => [.box [.i p0.kind, .str p0.name, aH p0.kids], .box [.i p1.kind, .str p1.name, aH p1.kids]]) ho1 (fun _ => rfl) (li (.u2 (.s (.s (.u (.s (.u16 (.u16 (.u8 .n))))))))) ?_
  intro n1 s2 hs1 KL1 hKL1
  unfold qZ at hs1
  refine .q fun K8 k8 => .q fun K9 k9 => rg 0 ?_
  refine bB (l := p0.kids) (f := aF) ?_
  refine k9 _ _ ?_
  refine .aB rfl hs1 (fun hc2 hs1 => ?_) (fun hc2 hs1 => ?_)
  ·refine .skip ?_
   refine k8 _ _ ?_
   refine .q fun K10 k10 => ?_
   refine .block ?_
   refine .q fun K11 k11 => rg 0 ?_
   obtain ⟨x1, hx1, hs1⟩ := ob hs1
   refine aI (l := p0.kids) (f := aF) (cs := [.i ((x1).kind), .str ((x1).name), aH ((x1).kids)]) hx1 (aL x1) rfl ?_
   obtain ⟨x2, hx2, hs1⟩ := ob hs1
   refine aI (l := p1.kids) (f := aF) (cs := [.i ((x2).kind), .str ((x2).name), aH ((x2).kids)]) hx2 (aL x2) rfl ?_
   obtain ⟨x3, hx3, hs1⟩ := ob hs1
   refine ak (hrec_R1_SameType _ _ _ hx3) mH (.cons (.same _) (.cons (.same _) .nil)) (fun g => by simp) (fun g => rfl) ?_
   refine ⟨rfl, ?_⟩
   refine k11 _ _ ?_
   refine .aB rfl hs1 (fun hc3 hs1 => ?_) (fun hc3 hs1 => ?_)
   ·refine .q fun K12 k12 => rg 0 ?_
    refine k12 _ _ ?_
    refine .ret ?_
    have e9 := sj hs1
    subst e9
    dsimp only [LR.el] at h
    have e9 := sj h
    subst e9
    refine hQ _ _ _ (aj aC (fun g => rfl) ?_)
    conv => whnf
   refine .skip ?_
   refine k10 _ _ ?_
   refine .know 5 0 fun hv1 => ?_
   refine .know 29 0 fun hv2 => ?_
   refine rg 0 ?_
   refine ⟨(s2 + 1), by have := dK hv1; have := fU hv2; have h8 := of_decide_eq_true hc2; exact bI (by omega) (by omega), ?_⟩
   exact hKL1 _ _ _ hs1 (li (.u2 (.s (.s (.u (.s (.u16 (.u16 (.u8 .n)))))))))
  refine .exit ?_
  exact hR2 _ (sj hs1).symm _ _ (wk [] (.u32 (.u8 (.u4 (.u2 .nil)))) .nil rfl)
 refine rg 0 ?_
 refine aG hj1 (fun hc4 hj1 => ?_) (fun hc4 hj1 => ?_)
 ·cases hj1
  exact hR1 _ _ (li (.u2 (.s (.s (.u16 (.u4 (.u2 (.s (.u16 (.u2 (.u .n)))))))))))
 refine aG hj1 (fun hc5 hj1 => ?_) (fun hc5 hj1 => ?_)
 ·cases hj1
  exact hR1 _ _ (li (.u2 (.s (.s (.u16 (.u4 (.u2 (.s (.u16 (.u2 (.u .n)))))))))))
 refine bB (l := p0.kids) (f := aF) ?_
 refine bB (l := p1.kids) (f := aF) ?_
 cases hj1
 exact hR1 _ _ (li (.u2 (.s (.s (.u16 (.u4 (.u2 (.s (.u16 (.u2 (.u .n)))))))))))
theorem TJ (n : Nat) : Dv (bO n) := by
 induction n with
 | zero => exact (fun p0 p1 r h => by unfold bO at h; cases h)
 | succ n ih =>
  exact (fun p0 p1 r h => LA n _ ih p0 p1 r (by unfold bO at h; exact h))
theorem dN (n : Nat) : Dv (bO n) := (TJ n)
end Abs
end Go.Proofs.YtiiaccpcoclklaaGreat
