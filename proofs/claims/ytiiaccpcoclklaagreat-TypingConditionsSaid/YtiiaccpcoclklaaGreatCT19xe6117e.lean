/-
  Plain functions and the contracts of Go functions by them (printed by gen.py). Conditions: none. More structures of the program (printed by gen.py). Conditions: none.
-/
import Derived.KernelRfl
import Derived.Test.YtiiaccpcoclklaaGreatCAbs38xf5d4b8
import Derived.Test.YtiiaccpcoclklaaGreatCDfx70d822
import Derived.Test.YtiiaccpcoclklaaGreatCDgx5ff6e3
import Derived.Test.YtiiaccpcoclklaaGreatCT3x9ae258
import Derived.Test.YtiiaccpcoclklaaGreatCT4xe22024
import Derived.Test.YtiiaccpcoclklaaGreatCT5x5135bf
import Derived.Test.YtiiaccpcoclklaaGreatCT11xbc19cd
import Derived.Test.YtiiaccpcoclklaaGreatCT16x39cf98
import Derived.Test.YtiiaccpcoclklaaGreatCT17x91c7ad
set_option linter.unusedSimpArgs false
set_option linter.unusedVariables false
namespace Go.Proofs.YtiiaccpcoclklaaGreat
namespace Abs
open Go Go.Proofs
set_option maxRecDepth 100000
set_option maxHeartbeats 40000000
theorem Ej {p q : Prop} (f : p → q) (h : p := by exact li (.u (.s (.u16 (.u16 (.u16 (.u16 (.u4 (.u2 (.s (.u8 (.u4 (.u2 (.u .n)))))))))))))) : q := f h
theorem Ep {p q : Prop} (f : p → q) (h : p := by exact li (.u (.s (.u16 (.u8 (.u2 (.u (.s (.u16 (.u16 (.u16 (.u8 (.u2 .n))))))))))))) : q := f h
theorem Pm (n : Nat) (p0 : Int) (r : Int) (h : Al n p0 = some r) : ak Tryz.prog 235 [.i p0] [] (.i r) [] := by
 unfold Al at h
 refine ah true Tryz.func235 rfl (nt Tryz.ntmps235 rfl) fun Q hQ t ht => ?_
 conv at ht => whnf
 subst ht
 refine .q fun K1 k1 => rg 0 ?_
 refine k1 _ _ ?_
 refine .q fun K2 k2 => ?_
 refine .block ?_
 refine .q fun K3 k3 => ?_
 obtain ⟨s1, hj1, h⟩ := ob h
 have hR1 : ∀ t9 h9, Le 0 t9 h9 (.i p0 :: (u2 (.bool s1 :: (u32 (u8 (u2 (.unk :: []))))))) [] → K3 t9 h9 := by
  intro t9 h9 hw
  refine k3 _ _ (AW.le hw ?_)
  clear hw
  refine .aA rfl h (fun hc1 h => ?_) (fun hc1 h => ?_)
  ·refine .q fun K4 k4 => rg 0 ?_
   refine k4 _ _ ?_
   refine .ret ?_
   have e9 := sj h
   subst e9
   refine hQ _ _ _ (aj au (fun g => rfl) ?_)
   conv => whnf
  refine .q fun K5 k5 => ?_
  obtain ⟨s2, hj2, h⟩ := ob h
  have hR2 : ∀ t9 h9, Le 0 t9 h9 (.i p0 :: (u16 (u4 (.unk :: (.bool s2 :: (u16 (u8 []))))))) [] → K5 t9 h9 := by
   intro t9 h9 hw
   refine k5 _ _ (AW.le hw ?_)
   clear hw
   refine .aA rfl h (fun hc2 h => ?_) (fun hc2 h => ?_)
   ·refine .q fun K6 k6 => rg 0 ?_
    refine k6 _ _ ?_
    refine .ret ?_
    have e9 := sj h
    subst e9
    refine hQ _ _ _ (aj au (fun g => rfl) ?_)
    conv => whnf
   refine .q fun K7 k7 => rg 0 ?_
   refine k7 _ _ ?_
   refine .aA rfl h (fun hc3 h => ?_) (fun hc3 h => ?_)
   ·refine .q fun K8 k8 => rg 0 ?_
    refine k8 _ _ ?_
    refine .ret ?_
    have e9 := sj h
    subst e9
    refine hQ _ _ _ (aj au (fun g => rfl) ?_)
    conv => whnf
   refine .q fun K9 k9 => ?_
   obtain ⟨s3, hj3, h⟩ := ob h
   have hR3 : ∀ t9 h9, Le 0 t9 h9 (u32 (u8 (.bool s3 :: (u4 (u2 []))))) [] → K9 t9 h9 := by
    intro t9 h9 hw
    refine k9 _ _ (AW.le hw ?_)
    clear hw
    refine .aA rfl h (fun hc4 h => ?_) (fun hc4 h => ?_)
    ·refine .q fun K10 k10 => rg 0 ?_
     refine k10 _ _ ?_
     refine .ret ?_
     have e9 := sj h
     subst e9
     refine hQ _ _ _ (aj au (fun g => rfl) ?_)
     conv => whnf
    refine .skip ?_
    refine k2 _ _ ?_
    refine .q fun K11 k11 => rg 0 ?_
    refine k11 _ _ ?_
    refine .ret ?_
    have e9 := sj h
    subst e9
    refine hQ _ _ _ (aj au (fun g => rfl) ?_)
    conv => whnf
   refine rg 0 ?_
   refine aB hj3 (fun hc5 hj3 => ?_) (fun hc5 hj3 => ?_)
   ·cases hj3
    exact hR3 _ _ (li (.u16 (.u16 (.u8 (.s (.u4 (.u2 .n)))))))
   cases hj3
   exact hR3 _ _ (li (.u16 (.u16 (.u8 (.s (.u4 (.u2 .n)))))))
  refine rg 0 ?_
  refine aB hj2 (fun hc6 hj2 => ?_) (fun hc6 hj2 => ?_)
  ·cases hj2
   exact hR2 _ _ (li (.s (.u16 (.u4 (.u (.s (.u16 (.u8 .n))))))))
  refine aB hj2 (fun hc7 hj2 => ?_) (fun hc7 hj2 => ?_)
  ·cases hj2
   exact hR2 _ _ (li (.s (.u16 (.u4 (.u (.s (.u16 (.u8 .n))))))))
  refine aB hj2 (fun hc8 hj2 => ?_) (fun hc8 hj2 => ?_)
  ·cases hj2
   exact hR2 _ _ (li (.s (.u16 (.u4 (.u (.s (.u16 (.u8 .n))))))))
  cases hj2
  exact hR2 _ _ (li (.s (.u16 (.u4 (.u (.s (.u16 (.u8 .n))))))))
 refine rg 0 ?_
 refine aB hj1 (fun hc9 hj1 => ?_) (fun hc9 hj1 => ?_)
 ·cases hj1
  exact hR1 _ _ (li (.s (.u2 (.s (.u16 (.u16 (.u8 (.u2 (.u .n)))))))))
 refine aB hj1 (fun hc10 hj1 => ?_) (fun hc10 hj1 => ?_)
 ·cases hj1
  exact hR1 _ _ (li (.s (.u2 (.s (.u16 (.u16 (.u8 (.u2 (.u .n)))))))))
 refine aB hj1 (fun hc11 hj1 => ?_) (fun hc11 hj1 => ?_)
 ·cases hj1
  exact hR1 _ _ (li (.s (.u2 (.s (.u16 (.u16 (.u8 (.u2 (.u .n)))))))))
 refine aB hj1 (fun hc12 hj1 => ?_) (fun hc12 hj1 => ?_)
 ·cases hj1
  exact hR1 _ _ (li (.s (.u2 (.s (.u16 (.u16 (.u8 (.u2 (.u .n)))))))))
 cases hj1
 exact hR1 _ _ (li (.s (.u2 (.s (.u16 (.u16 (.u8 (.u2 (.u .n)))))))))
theorem Dy (n : Nat) (p0 : Int) (r : Bool) (h : qw n p0 = some r) : ak Tryz.prog 79 [.i p0] [] (.bool r) [] := by
 unfold qw at h
 refine ah true Tryz.func79 rfl (nt Tryz.ntmps79 rfl) fun Q hQ t ht => ?_
 conv at ht => whnf
 subst ht
 refine .q fun K1 k1 => rg 0 ?_
 refine k1 _ _ ?_
 refine .q fun K2 k2 => ?_
 obtain ⟨s1, hj1, h⟩ := ob h
 have hR1 : ∀ t9 h9, Le 0 t9 h9 (u2 (.bool s1 :: (u8 (u4 (u2 []))))) [] → K2 t9 h9 := by
  intro t9 h9 hw
  refine k2 _ _ (AW.le hw ?_)
  clear hw
  refine .ret ?_
  have e9 := sj h
  subst e9
  refine hQ _ _ _ (aj au (fun g => rfl) ?_)
  conv => whnf
 refine rg 0 ?_
 refine aB hj1 (fun hc1 hj1 => ?_) (fun hc1 hj1 => ?_)
 ·cases hj1
  exact hR1 _ _ (li (.u2 (.s (.u8 (.u4 (.u2 .n))))))
 refine aB hj1 (fun hc2 hj1 => ?_) (fun hc2 hj1 => ?_)
 ·cases hj1
  exact hR1 _ _ (li (.u2 (.s (.u8 (.u4 (.u2 .n))))))
 refine aB hj1 (fun hc3 hj1 => ?_) (fun hc3 hj1 => ?_)
 ·cases hj1
  exact hR1 _ _ (li (.u2 (.s (.u8 (.u4 (.u2 .n))))))
 cases hj1
 exact hR1 _ _ (li (.u2 (.s (.u8 (.u4 (.u2 .n))))))
theorem IJ (n : Nat) (p0 : Ty) (r : Bool) (h : rE n p0 = some r) : ak Tryz.prog 236 [aQ p0] [] (.bool r) [] := by
 unfold rE at h
 refine ah true Tryz.func236 rfl (nt Tryz.ntmps236 rfl) fun Q hQ t ht => ?_
 conv at ht => whnf
 subst ht
 refine .q fun K1 k1 => rg 1 ?_
 refine k1 _ _ ?_
 refine .q fun K2 k2 => ?_
 obtain ⟨s1, hj1, h⟩ := ob h
 have hR1 : ∀ t9 h9, Le 0 t9 h9 (u2 (.bool s1 :: (u8 (u4 (u2 []))))) [] → K2 t9 h9 := by
  intro t9 h9 hw
  refine k2 _ _ (AW.le hw ?_)
  clear hw
  refine .ret ?_
  have e9 := sj h
  subst e9
  refine hQ _ _ _ (aj au (fun g => rfl) ?_)
  conv => whnf
 refine rg 0 ?_
 refine aB hj1 (fun hc1 hj1 => ?_) (fun hc1 hj1 => ?_)
 ·refine aB hj1 (fun hc2 hj1 => ?_) (fun hc2 hj1 => ?_)
  ·refine bO (l := p0.kids) (f := aG) ?_
   cases hj1
   exact hR1 _ _ (wk [] (.u2 (.c rfl (.u8 (.u4 (.u2 .nil))))) .nil rfl)
  cases hj1
  exact hR1 _ _ (wk [] (.u2 (.c rfl (.u8 (.u4 (.u2 .nil))))) .nil rfl)
 cases hj1
 exact hR1 _ _ (wk [] (.u2 (.c rfl (.u8 (.u4 (.u2 .nil))))) .nil rfl)
theorem Oh (n : Nat) (p0 : Tm) (r : Bool) (h : zX n p0 = some r) : ak Tryz.prog 141 [dW p0] [] (.bool r) [] := by
 unfold zX at h
 refine ah true Tryz.func141 rfl (nt Tryz.ntmps141 rfl) fun Q hQ t ht => ?_
 conv at ht => whnf
 subst ht
 refine .q fun K1 k1 => rg 1 ?_
 refine k1 _ _ ?_
 refine .q fun K2 k2 => rg 0 ?_
 obtain ⟨x1, hx1, h⟩ := ob h
 refine aD (Pm _ _ _ hx1) Vd (.cons (.same _) .nil) (fun g => rfl) (fun g => rfl) ?_
 refine k2 _ _ ?_
 refine .q fun K3 k3 => .q fun K4 k4 => ?_
 obtain ⟨s1, hj1, h⟩ := ob h
 have hR1 : ∀ t9 h9, Le 0 t9 h9 (.unk :: (.ptr 0 0 :: (u16 (u8 (u2 (.unk :: (.bool s1 :: (u32 (u16 (u8 (u2 []))))))))))) [.box [.i p0.op, .str p0.name, .i p0.n, .i p0.ty.kind, .str p0.ty.name, aJ p0.ty.kids, dN p0.kids]] → K4 t9 h9 := by
  intro t9 h9 hw
  refine k4 _ _ (AW.le hw ?_)
  clear hw
  refine .aA rfl h (fun hc1 h => ?_) (fun hc1 h => ?_)
  ·refine .q fun K5 k5 => rg 0 ?_
   refine k5 _ _ ?_
   refine .ret ?_
   have e9 := sj h
   subst e9
   refine hQ _ _ _ (aj au (fun g => rfl) ?_)
   conv => whnf
  refine .skip ?_
  refine k3 _ _ ?_
  refine .q fun K6 k6 => ?_
  obtain ⟨o1, hj2, h⟩ := ob h
  have hR2 : ∀ s2 : Unit, o1 = .nx s2 → ∀ t9 h9, Le 0 t9 h9 (.unk :: (.ptr 0 0 :: (u64 (u16 (u4 (u2 [])))))) [.box [.i p0.op, .str p0.name, .i p0.n, .i p0.ty.kind, .str p0.ty.name, aJ p0.ty.kids, dN p0.kids]] → K6 t9 h9 := by
   intro s2 ho
   subst ho
   dsimp only [LR.el] at h
   intro t9 h9 hw
   refine k6 _ _ (AW.le hw ?_)
   clear hw
   refine .q fun K7 k7 => .q fun K8 k8 => ?_
   obtain ⟨s3, hj3, h⟩ := ob h
   have hR3 : ∀ t9 h9, Le 0 t9 h9 (.unk :: (.ptr 0 0 :: (u64 (u4 (u2 (.bool s3 :: (u8 (u4 (u2 (.unk :: [])))))))))) [.box [.i p0.op, .str p0.name, .i p0.n, .i p0.ty.kind, .str p0.ty.name, aJ p0.ty.kids, dN p0.kids]] → K8 t9 h9 := by
    intro t9 h9 hw
    refine k8 _ _ (AW.le hw ?_)
    clear hw
    refine .aA rfl h (fun hc2 h => ?_) (fun hc2 h => ?_)
    ·refine .q fun K9 k9 => rg 0 ?_
     refine k9 _ _ ?_
     refine .ret ?_
     have e9 := sj h
     subst e9
     refine hQ _ _ _ (aj au (fun g => rfl) ?_)
     conv => whnf
    refine .skip ?_
    refine k7 _ _ ?_
    refine .q fun K10 k10 => .q fun K11 k11 => rg 0 ?_
    refine k11 _ _ ?_
    refine .aA rfl h (fun hc3 h => ?_) (fun hc3 h => ?_)
    ·refine .q fun K12 k12 => ?_
     obtain ⟨s4, hj4, h⟩ := ob h
     have hR4 : ∀ t9 h9, Le 0 t9 h9 (u2 (.bool s4 :: (u64 (u16 (u4 (.unk :: [])))))) [] → K12 t9 h9 := by
      intro t9 h9 hw
      refine k12 _ _ (AW.le hw ?_)
      clear hw
      refine .ret ?_
      have e9 := sj h
      subst e9
      refine hQ _ _ _ (aj au (fun g => rfl) ?_)
      conv => whnf
     refine rg 0 ?_
     obtain ⟨x2, hx2, hj4⟩ := ob hj4
     refine aD (He _ _ _ hx2) Vu (.cons (.same _) .nil) (fun g => by simp) (fun g => rfl) ?_
     refine aB hj4 (fun hc4 hj4 => ?_) (fun hc4 hj4 => ?_)
     ·cases hj4
      exact hR4 _ _ (wk [] (.u2 (.c rfl (.u64 (.u16 (.u4 (.u .nil)))))) .nil rfl)
     cases hj4
     exact hR4 _ _ (wk [] (.u2 (.c rfl (.u64 (.u16 (.u4 (.u .nil)))))) .nil rfl)
    refine .skip ?_
    refine k10 _ _ ?_
    refine .q fun K13 k13 => rg 0 ?_
    obtain ⟨x3, hx3, h⟩ := ob h
    refine aD (IJ _ _ _ hx3) TY (.cons (.same _) .nil) (fun g => by simp) (fun g => rfl) ?_
    refine k13 _ _ ?_
    refine .ret ?_
    have e9 := sj h
    subst e9
    refine hQ _ _ _ (aj au (fun g => rfl) ?_)
    conv => whnf
   refine rg 0 ?_
   refine aB hj3 (fun hc5 hj3 => ?_) (fun hc5 hj3 => ?_)
   ·refine aB hj3 (fun hc6 hj3 => ?_) (fun hc6 hj3 => ?_)
    ·cases hj3
     exact Ej (hR3 _ _)
    refine aB hj3 (fun hc7 hj3 => ?_) (fun hc7 hj3 => ?_)
    ·cases hj3
     exact Ej (hR3 _ _)
    refine aB hj3 (fun hc8 hj3 => ?_) (fun hc8 hj3 => ?_)
    ·cases hj3
     exact Ej (hR3 _ _)
    cases hj3
    exact Ej (hR3 _ _)
   refine aB hj3 (fun hc9 hj3 => ?_) (fun hc9 hj3 => ?_)
   ·cases hj3
    exact Ej (hR3 _ _)
   cases hj3
   exact Ej (hR3 _ _)
  refine .block ?_
  refine .q fun K14 k14 => rg 0 ?_
  refine k14 _ _ ?_
  refine .aA rfl hj2 (fun hc10 hj2 => ?_) (fun hc10 hj2 => ?_)
  ·refine .q fun K15 k15 => rg 0 ?_
   obtain ⟨x4, hx4, hj2⟩ := ob hj2
   refine aD (LX _ _ _ hx4) TF (.cons (.same _) .nil) (fun g => rfl) (fun g => rfl) ?_
   refine k15 _ _ ?_
   refine .aA rfl hj2 (fun hc11 hj2 => ?_) (fun hc11 hj2 => ?_)
   ·refine .q fun K16 k16 => rg 0 ?_
    refine k16 _ _ ?_
    refine .ret ?_
    have e9 := sj hj2
    subst e9
    dsimp only [LR.el] at h
    have e9 := sj h
    subst e9
    refine hQ _ _ _ (aj au (fun g => rfl) ?_)
    conv => whnf
   refine .skip ?_
   exact hR2 _ (sj hj2).symm _ _ (li (.u (.s (.u16 (.u16 (.u16 (.u16 (.u16 (.u4 (.u2 .n))))))))))
  refine .q fun K17 k17 => rg 0 ?_
  obtain ⟨x5, hx5, hj2⟩ := ob hj2
  refine aD (Dy _ _ _ hx5) QU (.cons (.same _) .nil) (fun g => rfl) (fun g => rfl) ?_
  refine k17 _ _ ?_
  refine .aA rfl hj2 (fun hc12 hj2 => ?_) (fun hc12 hj2 => ?_)
  ·refine .q fun K18 k18 => rg 0 ?_
   obtain ⟨x6, hx6, hj2⟩ := ob hj2
   refine aD (oW _ _ _ hx6) GK (.cons (.same _) .nil) (fun g => rfl) (fun g => rfl) ?_
   refine k18 _ _ ?_
   refine .aA rfl hj2 (fun hc13 hj2 => ?_) (fun hc13 hj2 => ?_)
   ·refine .q fun K19 k19 => rg 0 ?_
    refine k19 _ _ ?_
    refine .ret ?_
    have e9 := sj hj2
    subst e9
    dsimp only [LR.el] at h
    have e9 := sj h
    subst e9
    refine hQ _ _ _ (aj au (fun g => rfl) ?_)
    conv => whnf
   refine .skip ?_
   exact hR2 _ (sj hj2).symm _ _ (li (.u (.s (.u16 (.u16 (.u16 (.u16 (.u16 (.u4 (.u2 .n))))))))))
  refine .q fun K20 k20 => rg 0 ?_
  refine k20 _ _ ?_
  refine .aA rfl hj2 (fun hc14 hj2 => ?_) (fun hc14 hj2 => ?_)
  ·refine .q fun K21 k21 => rg 0 ?_
   refine k21 _ _ ?_
   refine .ret ?_
   have e9 := sj hj2
   subst e9
   dsimp only [LR.el] at h
   have e9 := sj h
   subst e9
   refine hQ _ _ _ (aj au (fun g => rfl) ?_)
   conv => whnf
  refine .skip ?_
  exact hR2 _ (sj hj2).symm _ _ (li (.u (.s (.u16 (.u16 (.u16 (.u16 (.u16 (.u4 (.u2 .n))))))))))
 refine rg 0 ?_
 refine aB hj1 (fun hc15 hj1 => ?_) (fun hc15 hj1 => ?_)
 ·cases hj1
  exact Ep (hR1 _ _)
 refine aB hj1 (fun hc16 hj1 => ?_) (fun hc16 hj1 => ?_)
 ·refine bO (l := p0.kids) (f := aY) ?_
  refine aB hj1 (fun hc17 hj1 => ?_) (fun hc17 hj1 => ?_)
  ·cases hj1
   exact Ep (hR1 _ _)
  refine aB hj1 (fun hc18 hj1 => ?_) (fun hc18 hj1 => ?_)
  ·refine bO (l := p0.kids) (f := aY) ?_
   cases hj1
   exact Ep (hR1 _ _)
  cases hj1
  exact Ep (hR1 _ _)
 refine aB hj1 (fun hc19 hj1 => ?_) (fun hc19 hj1 => ?_)
 ·refine bO (l := p0.kids) (f := aY) ?_
  cases hj1
  exact Ep (hR1 _ _)
 cases hj1
 exact Ep (hR1 _ _)
abbrev BI (rec_R1_nodes : Tm → Int → Int → Option Int) : Prop := ∀ (p0 : Tm) (p1 : Int) (p2 : Int) (r : Int), rec_R1_nodes p0 p1 p2 = some r → ak Tryz.prog 73 [dW p0, .i p1, .i p2] [] (.i r) []
theorem FI (n : Nat) (rec_R1_nodes : Tm → Int → Int → Option Int) (hrec_R1_nodes : BI rec_R1_nodes) (p0 : Tm) (p1 : Int) (p2 : Int) (r : Int) (h : pG n rec_R1_nodes p0 p1 p2 = some r) : ak Tryz.prog 73 [dW p0, .i p1, .i p2] [] (.i r) [] := by
 unfold pG at h
 refine ah true Tryz.func73 rfl (nt Tryz.ntmps73 rfl) fun Q hQ t ht => ?_
 conv at ht => whnf
 subst ht
 refine .q fun K1 k1 => rg 1 ?_
 refine k1 _ _ ?_
 refine .q fun K2 k2 => rg 0 ?_
 refine ⟨(IntKind.wrap .i64 (p2 + 1)), rfl, ?_⟩
 refine k2 _ _ ?_
 refine .q fun K3 k3 => .q fun K4 k4 => ?_
 obtain ⟨s1, hj1, h⟩ := ob h
 have hR1 : ∀ t9 h9, Le 0 t9 h9 (.unk :: (.i p1 :: (.i (IntKind.wrap .i64 (p2 + 1)) :: (.ptr 0 0 :: (u16 (.bool s1 :: (u16 (u2 (.unk :: []))))))))) [.box [.i p0.op, .str p0.name, .i p0.n, .i p0.ty.kind, .str p0.ty.name, aJ p0.ty.kids, dN p0.kids]] → K4 t9 h9 := by
  intro t9 h9 hw
  refine k4 _ _ (AW.le hw ?_)
  clear hw
  refine .aA rfl h (fun hc1 h => ?_) (fun hc1 h => ?_)
  ·refine .q fun K5 k5 => rg 0 ?_
   refine k5 _ _ ?_
   refine .ret ?_
   have e9 := sj h
   subst e9
   refine hQ _ _ _ (aj au (fun g => rfl) ?_)
   conv => whnf
  refine .skip ?_
  refine k3 _ _ ?_
  refine .q fun K6 k6 => .q fun K7 k7 => rg 0 ?_
  refine k7 _ _ ?_
  refine .block ?_
  obtain ⟨o1, ho1, h⟩ := ob h
  have hR2 : ∀ s3 : Int, o1 = .nx s3 → ∀ t9 h9, Le 0 t9 h9 (u2 (.i s3 :: (u32 (u4 (.unk :: []))))) [] → K6 t9 h9 := by
   intro s3 ho
   subst ho
   dsimp only [LR.el] at h
   intro t9 h9 hw
   refine k6 _ _ (AW.le hw ?_)
   refine .q fun K8 k8 => rg 0 ?_
   refine k8 _ _ ?_
   refine .ret ?_
   have e9 := sj h
   subst e9
   refine hQ _ _ _ (aj au (fun g => rfl) ?_)
   conv => whnf
  refine .loopS (qZ n rec_R1_nodes p0 p1) (fun (s2 : Int × Int) => (.unk :: (.i p1 :: (.i s2.1 :: (.ptr 0 0 :: (u2 (.unk :: (.i s2.2 :: (u32 []))))))))) (fun (s2 : Int × Int) => [.box [.i p0.op, .str p0.name, .i p0.n, .i p0.ty.kind, .str p0.ty.name, aJ p0.ty.kids, dN p0.kids]]) ho1 (fun _ => rfl) (li (.u (.s (.s (.s (.u2 (.u (.s (.u16 (.u16 .n)))))))))) ?_
  intro n1 s2 hs1 KL1 hKL1
  unfold qZ at hs1
  refine .q fun K9 k9 => .q fun K10 k10 => rg 0 ?_
  refine bO (l := p0.kids) (f := aY) ?_
  refine k10 _ _ ?_
  refine .aA rfl hs1 (fun hc2 hs1 => ?_) (fun hc2 hs1 => ?_)
  ·refine .skip ?_
   refine k9 _ _ ?_
   refine .q fun K11 k11 => ?_
   refine .block ?_
   refine .q fun K12 k12 => rg 0 ?_
   obtain ⟨x1, hx1, hs1⟩ := ob hs1
   refine aN (l := p0.kids) (f := aY) (cs := [.i ((x1).op), .str ((x1).name), .i ((x1).n), .i (((x1).ty).kind), .str (((x1).ty).name), aJ (((x1).ty).kids), dN ((x1).kids)]) hx1 (bG x1) rfl ?_
   refine ⟨(IntKind.wrap .i64 (p1 + 1)), rfl, ?_⟩
   obtain ⟨x2, hx2, hs1⟩ := ob hs1
   refine aD (hrec_R1_nodes _ _ _ _ hx2) Qt (.cons (.same _) (.cons (.same _) (.cons (.same _) .nil))) (fun g => by simp) (fun g => rfl) ?_
   refine k12 _ _ ?_
   refine .q fun K13 k13 => rg 0 ?_
   refine k13 _ _ ?_
   refine .aA rfl hs1 (fun hc3 hs1 => ?_) (fun hc3 hs1 => ?_)
   ·refine .q fun K14 k14 => rg 0 ?_
    refine k14 _ _ ?_
    refine .ret ?_
    have e9 := sj hs1
    subst e9
    dsimp only [LR.el] at h
    have e9 := sj h
    subst e9
    refine hQ _ _ _ (aj au (fun g => rfl) ?_)
    conv => whnf
   refine .skip ?_
   refine k11 _ _ ?_
   refine .know 7 0 fun hv1 => ?_
   refine .know 23 0 fun hv2 => ?_
   refine rg 0 ?_
   refine ⟨(s2.2 + 1), by have := iW hv1; have := ng hv2; have h8 := of_decide_eq_true hc2; exact dG (by omega) (by omega), ?_⟩
   exact hKL1 _ _ _ hs1 (li (.u (.s (.s (.s (.u2 (.u (.s (.u16 (.u16 .n))))))))))
  refine .exit ?_
  exact hR2 _ (sj hs1).symm _ _ (wk [] (.u2 (.c rfl (.u32 (.u4 (.u .nil))))) .nil rfl)
 refine rg 0 ?_
 refine aB hj1 (fun hc4 hj1 => ?_) (fun hc4 hj1 => ?_)
 ·cases hj1
  exact hR1 _ _ (li (.u (.s (.s (.s (.u16 (.s (.u16 (.u2 (.u .n))))))))))
 refine aB hj1 (fun hc5 hj1 => ?_) (fun hc5 hj1 => ?_)
 ·cases hj1
  exact hR1 _ _ (li (.u (.s (.s (.s (.u16 (.s (.u16 (.u2 (.u .n))))))))))
 obtain ⟨x3, hx3, hj1⟩ := ob hj1
 refine aD (Oh _ _ _ hx3) TH (.cons (.same _) .nil) (fun g => by simp) (fun g => rfl) ?_
 cases hj1
 exact hR1 _ _ (li (.u (.s (.s (.s (.u16 (.s (.u16 (.u2 (.u .n))))))))))
theorem KX (n : Nat) : BI (nX n) := by
 induction n with
 | zero => exact (fun p0 p1 p2 r h => by unfold nX at h; cases h)
 | succ n ih =>
  exact (fun p0 p1 p2 r h => FI n _ ih p0 p1 p2 r (by unfold nX at h; exact h))
theorem Mq (n : Nat) : BI (nX n) := (KX n)
theorem Mc (n : Nat) (p0 : Tm) (r : Bool) (h : xI n p0 = some r) : ak Tryz.prog 21 [dW p0] [] (.bool r) [] := by
 unfold xI at h
 refine ah true Tryz.func21 rfl (nt Tryz.ntmps21 rfl) fun Q hQ t ht => ?_
 conv at ht => whnf
 subst ht
 refine .q fun K1 k1 => rg 1 ?_
 refine k1 _ _ ?_
 refine .q fun K2 k2 => rg 0 ?_
 obtain ⟨x1, hx1, h⟩ := ob h
 refine aD (Mq _ _ _ _ _ hx1) Qt (.cons (.same _) (.cons (.same _) (.cons (.same _) .nil))) (fun g => by simp) (fun g => rfl) ?_
 refine k2 _ _ ?_
 refine .ret ?_
 have e9 := sj h
 subst e9
 refine hQ _ _ _ (aj au (fun g => rfl) ?_)
 conv => whnf
end Abs
end Go.Proofs.YtiiaccpcoclklaaGreat
namespace Go.Proofs.YtiiaccpcoclklaaGreat
namespace Abs
open Go Go.Proofs
set_option maxRecDepth 100000
set_option maxHeartbeats 40000000
end Abs
end Go.Proofs.YtiiaccpcoclklaaGreat
namespace Go.Proofs.YtiiaccpcoclklaaGreat
namespace Abs
open Go Go.Proofs
def kW (x : S_refinementlaw02_Binding) : List AV := [.slice (List.map cO x.env.carriers) .shared, .slice (List.map bD x.env.names) .shared, .int .i64 x.body.op, .str x.body.name, .int .i64 x.body.n, .int .i64 x.body.ty.kind, .str x.body.ty.name, .slice (List.map aG x.body.ty.kids) .shared, .slice (List.map aY x.body.kids) .shared, .int .i64 x.domain.op, .str x.domain.name, .int .i64 x.domain.n, .int .i64 x.domain.ty.kind, .str x.domain.ty.name, .slice (List.map aG x.domain.ty.kids) .shared, .slice (List.map aY x.domain.kids) .shared, .str x.name]
theorem tu (g : Nat → Nat) (l : List S_refinementlaw02_Binding) : aW g (l.map kW) = l.map kW := wV (fun g x => by simp only [kW, bn, ren, cB, aL, aU, bA, aF, aT, aC, aK]) g l
theorem Q0 : aM Tryz.prog 23 = true := by kernel_rfl
theorem Wx : aM Tryz.prog 35 = true := by kernel_rfl
theorem vB : aM Tryz.prog 75 = true := by kernel_rfl
theorem PG : aM Tryz.prog 76 = true := by kernel_rfl
theorem Qe : aM Tryz.prog 90 = true := by kernel_rfl
theorem qL : aM Tryz.prog 144 = true := by kernel_rfl
theorem TT : aM Tryz.prog 145 = true := by kernel_rfl
theorem Uc : aM Tryz.prog 146 = true := by kernel_rfl
theorem Ut : aM Tryz.prog 147 = true := by kernel_rfl
theorem UQ : aM Tryz.prog 148 = true := by kernel_rfl
theorem nC : aM Tryz.prog 149 = true := by kernel_rfl
theorem zY : aM Tryz.prog 150 = true := by kernel_rfl
theorem Ay : aM Tryz.prog 237 = true := by kernel_rfl
attribute [simp] tu
end Abs
end Go.Proofs.YtiiaccpcoclklaaGreat
namespace Go.Proofs.YtiiaccpcoclklaaGreat
namespace Abs
open Go Go.Proofs
set_option maxRecDepth 100000
set_option maxHeartbeats 40000000
theorem nK (n : Nat) (p0 : Tm) (r : Bool) (h : DV n p0 = some r) : ak Tryz.prog 237 [dW p0] [] (.bool r) [] := by
 unfold DV at h
 refine ah true Tryz.func237 rfl (nt Tryz.ntmps237 rfl) fun Q hQ t ht => ?_
 conv at ht => whnf
 subst ht
 refine .q fun K1 k1 => rg 1 ?_
 refine k1 _ _ ?_
 refine .q fun K2 k2 => rg 0 ?_
 refine k2 _ _ ?_
 refine .ret ?_
 have e9 := sj h
 subst e9
 refine hQ _ _ _ (aj au (fun g => rfl) ?_)
 conv => whnf
theorem fu (n : Nat) (p0 : Int) (p1 : List Tm) (r : Tm) (h : EY n p0 p1 = some r) : ak Tryz.prog 149 [.i p0, dN p1] [] (dW r) [] := by
 unfold EY at h
 refine ah true Tryz.func149 rfl (nt Tryz.ntmps149 rfl) fun Q hQ t ht => ?_
 conv at ht => whnf
 subst ht
 refine .q fun K1 k1 => rg 1 ?_
 refine k1 _ _ ?_
 refine .q fun K2 k2 => rg 0 ?_
 refine k2 _ _ ?_
 refine .ret ?_
 have e9 := sj h
 subst e9
 refine hQ _ _ _ (aj au (fun g => by simp) ?_)
 conv => whnf
 try rfl
theorem EP (n : Nat) (p0 : Tm) (p1 : Tm) (r : Tm) (h : oI n p0 p1 = some r) : ak Tryz.prog 145 [dW p0, dW p1] [] (dW r) [] := by
 unfold oI at h
 refine ah true Tryz.func145 rfl (nt Tryz.ntmps145 rfl) fun Q hQ t ht => ?_
 conv at ht => whnf
 subst ht
 refine .q fun K1 k1 => rg 3 ?_
 refine k1 _ _ ?_
 refine .q fun K2 k2 => .q fun K3 k3 => rg 0 ?_
 refine aD (nK 0 p1 _ rfl) Ay (.cons (.same _) .nil) (fun g => by simp) (fun g => rfl) ?_
 refine k3 _ _ ?_
 refine .aA rfl h (fun hc1 h => ?_) (fun hc1 h => ?_)
 ·refine .q fun K4 k4 => rg 0 ?_
  refine k4 _ _ ?_
  refine .ret ?_
  have e9 := sj h
  subst e9
  refine hQ _ _ _ (aj au (fun g => by simp) ?_)
  conv => whnf
  try rfl
 refine .skip ?_
 refine k2 _ _ ?_
 refine .q fun K5 k5 => rg 1 ?_
 refine ⟨List.map aY ([p0, p1]), by simp only [List.map_cons, List.map_nil, bG]; rfl, ?_⟩
 refine cp (fu 0 6 ([p0, p1]) _ rfl) nC (.cons (.same _) (.cons (.share _ _) .nil)) ?_
 refine k5 _ _ ?_
 refine .ret ?_
 have e9 := sj h
 subst e9
 refine hQ _ _ _ (aj au (fun g => by simp) ?_)
 conv => whnf
 try rfl
theorem jH (n : Nat) (p0 : Tm) (p1 : Tm) (r : Tm) (h : iD n p0 p1 = some r) : ak Tryz.prog 144 [dW p0, dW p1] [] (dW r) [] := by
 unfold iD at h
 refine ah true Tryz.func144 rfl (nt Tryz.ntmps144 rfl) fun Q hQ t ht => ?_
 conv at ht => whnf
 subst ht
 refine .q fun K1 k1 => rg 3 ?_
 refine k1 _ _ ?_
 refine .q fun K2 k2 => ?_
 refine .block ?_
 refine .q fun K3 k3 => rg 0 ?_
 refine aD (nK 0 p0 _ rfl) Ay (.cons (.same _) .nil) (fun g => by simp) (fun g => rfl) ?_
 refine k3 _ _ ?_
 refine .aA rfl h (fun hc1 h => ?_) (fun hc1 h => ?_)
 ·refine .q fun K4 k4 => rg 0 ?_
  refine k4 _ _ ?_
  refine .ret ?_
  have e9 := sj h
  subst e9
  refine hQ _ _ _ (aj au (fun g => by simp) ?_)
  conv => whnf
  try rfl
 refine .q fun K5 k5 => rg 0 ?_
 refine aD (nK 0 p1 _ rfl) Ay (.cons (.same _) .nil) (fun g => by simp) (fun g => rfl) ?_
 refine k5 _ _ ?_
 refine .aA rfl h (fun hc2 h => ?_) (fun hc2 h => ?_)
 ·refine .q fun K6 k6 => rg 0 ?_
  refine k6 _ _ ?_
  refine .ret ?_
  have e9 := sj h
  subst e9
  refine hQ _ _ _ (aj au (fun g => by simp) ?_)
  conv => whnf
  try rfl
 refine .skip ?_
 refine k2 _ _ ?_
 refine .q fun K7 k7 => rg 1 ?_
 refine ⟨List.map aY ([p0, p1]), by simp only [List.map_cons, List.map_nil, bG]; rfl, ?_⟩
 refine cp (fu 0 4 ([p0, p1]) _ rfl) nC (.cons (.same _) (.cons (.share _ _) .nil)) ?_
 refine k7 _ _ ?_
 refine .ret ?_
 have e9 := sj h
 subst e9
 refine hQ _ _ _ (aj au (fun g => by simp) ?_)
 conv => whnf
 try rfl
theorem LA (n : Nat) (p0 : Tm) (p1 : Tm) (r : Tm) (h : vM n p0 p1 = some r) : ak Tryz.prog 146 [dW p0, dW p1] [] (dW r) [] := by
 unfold vM at h
 refine ah true Tryz.func146 rfl (nt Tryz.ntmps146 rfl) fun Q hQ t ht => ?_
 conv at ht => whnf
 subst ht
 refine .q fun K1 k1 => rg 3 ?_
 refine k1 _ _ ?_
 refine .q fun K2 k2 => .q fun K3 k3 => rg 0 ?_
 refine aD (nK 0 p1 _ rfl) Ay (.cons (.same _) .nil) (fun g => by simp) (fun g => rfl) ?_
 refine k3 _ _ ?_
 refine .aA rfl h (fun hc1 h => ?_) (fun hc1 h => ?_)
 ·refine .q fun K4 k4 => rg 0 ?_
  refine k4 _ _ ?_
  refine .ret ?_
  have e9 := sj h
  subst e9
  refine hQ _ _ _ (aj au (fun g => by simp) ?_)
  conv => whnf
  try rfl
 refine .skip ?_
 refine k2 _ _ ?_
 refine .q fun K5 k5 => rg 1 ?_
 refine ⟨List.map aY ([p0, p1]), by simp only [List.map_cons, List.map_nil, bG]; rfl, ?_⟩
 refine cp (fu 0 5 ([p0, p1]) _ rfl) nC (.cons (.same _) (.cons (.share _ _) .nil)) ?_
 refine k5 _ _ ?_
 refine .ret ?_
 have e9 := sj h
 subst e9
 refine hQ _ _ _ (aj au (fun g => by simp) ?_)
 conv => whnf
 try rfl
theorem JN (n : Nat) (p0 : Str) (p1 : Tm) (p2 : Tm) (r : Tm) (h : uf n p0 p1 p2 = some r) : ak Tryz.prog 147 [.str p0, dW p1, dW p2] [] (dW r) [] := by
 unfold uf at h
 refine ah true Tryz.func147 rfl (nt Tryz.ntmps147 rfl) fun Q hQ t ht => ?_
 conv at ht => whnf
 subst ht
 refine .q fun K1 k1 => rg 3 ?_
 refine k1 _ _ ?_
 refine .q fun K2 k2 => .q fun K3 k3 => rg 0 ?_
 refine aD (nK 0 p2 _ rfl) Ay (.cons (.same _) .nil) (fun g => by simp) (fun g => rfl) ?_
 refine k3 _ _ ?_
 refine .aA rfl h (fun hc1 h => ?_) (fun hc1 h => ?_)
 ·refine .q fun K4 k4 => rg 0 ?_
  refine k4 _ _ ?_
  refine .ret ?_
  have e9 := sj h
  subst e9
  refine hQ _ _ _ (aj au (fun g => by simp) ?_)
  conv => whnf
  try rfl
 refine .skip ?_
 refine k2 _ _ ?_
 refine .q fun K5 k5 => rg 1 ?_
 refine ⟨List.map aY ([p1, p2]), by simp only [List.map_cons, List.map_nil, bG]; rfl, ?_⟩
 refine k5 _ _ ?_
 refine .ret ?_
 have e9 := sj h
 subst e9
 refine hQ _ _ _ (aj au (fun g => by simp) ?_)
 conv => whnf
 try rfl
theorem JJ (n : Nat) (r : Tm) (h : Gw n = some r) : ak Tryz.prog 148 [] [] (dW r) [] := by
 unfold Gw at h
 refine ah true Tryz.func148 rfl (nt Tryz.ntmps148 rfl) fun Q hQ t ht => ?_
 conv at ht => whnf
 subst ht
 refine .q fun K1 k1 => rg 1 ?_
 refine k1 _ _ ?_
 refine .q fun K2 k2 => rg 0 ?_
 refine k2 _ _ ?_
 refine .ret ?_
 have e9 := sj h
 subst e9
 refine hQ _ _ _ (aj au (fun g => by simp) ?_)
 conv => whnf
 try rfl
theorem mY (n : Nat) (p0 : Int) (r : Tm) (h : Cg n p0 = some r) : ak Tryz.prog 150 [.i p0] [] (dW r) [] := by
 unfold Cg at h
 refine ah true Tryz.func150 rfl (nt Tryz.ntmps150 rfl) fun Q hQ t ht => ?_
 conv at ht => whnf
 subst ht
 refine .q fun K1 k1 => rg 1 ?_
 refine k1 _ _ ?_
 refine .q fun K2 k2 => rg 0 ?_
 refine k2 _ _ ?_
 refine .ret ?_
 have e9 := sj h
 subst e9
 refine hQ _ _ _ (aj au (fun g => by simp) ?_)
 conv => whnf
 try rfl
end Abs
end Go.Proofs.YtiiaccpcoclklaaGreat
namespace Go.Proofs.YtiiaccpcoclklaaGreat
namespace Abs
open Go Go.Proofs
set_option maxRecDepth 100000
set_option maxHeartbeats 40000000
end Abs
end Go.Proofs.YtiiaccpcoclklaaGreat
namespace Go.Proofs.YtiiaccpcoclklaaGreat
namespace Abs
open Go Go.Proofs
set_option maxRecDepth 100000
set_option maxHeartbeats 40000000
end Abs
end Go.Proofs.YtiiaccpcoclklaaGreat
namespace Go.Proofs.YtiiaccpcoclklaaGreat
namespace Abs
open Go Go.Proofs
set_option maxRecDepth 100000
set_option maxHeartbeats 40000000
end Abs
end Go.Proofs.YtiiaccpcoclklaaGreat
namespace Go.Proofs.YtiiaccpcoclklaaGreat
namespace Abs
open Go Go.Proofs
set_option maxRecDepth 100000
set_option maxHeartbeats 40000000
end Abs
end Go.Proofs.YtiiaccpcoclklaaGreat
namespace Go.Proofs.YtiiaccpcoclklaaGreat
namespace Abs
open Go Go.Proofs
set_option maxRecDepth 100000
set_option maxHeartbeats 40000000
end Abs
end Go.Proofs.YtiiaccpcoclklaaGreat
namespace Go.Proofs.YtiiaccpcoclklaaGreat
namespace Abs
open Go Go.Proofs
set_option maxRecDepth 100000
set_option maxHeartbeats 40000000
end Abs
end Go.Proofs.YtiiaccpcoclklaaGreat
