/-
  Contracts of Go functions (printed). Conditions: none.
-/
import Derived.KernelRfl
import Derived.Test.YtiiaccpcoclklaaGreatCAbs38x04b7ad
import Derived.Test.YtiiaccpcoclklaaGreatCDfxa6bced
import Derived.Test.YtiiaccpcoclklaaGreatCTDx83fdfc
import Derived.Test.YtiiaccpcoclklaaGreatCT16xc0b479
import Derived.Test.YtiiaccpcoclklaaGreatCT17x62aad0
set_option linter.unusedSimpArgs false
set_option linter.unusedVariables false
namespace Go.Proofs.YtiiaccpcoclklaaGreat
namespace Abs
open Go Go.Proofs
set_option maxRecDepth 100000
set_option maxHeartbeats 40000000
theorem OU {p q : Prop} (f : p → q) (h : p := by exact li (.u (.s (.u16 (.u16 (.u16 (.u16 (.u4 (.u2 (.s (.u8 (.u4 (.u2 (.u .n)))))))))))))) : q := f h
theorem OJ {p q : Prop} (f : p → q) (h : p := by exact li (.u (.s (.u16 (.u8 (.u2 (.u (.s (.u16 (.u16 (.u16 (.u8 (.u2 .n))))))))))))) : q := f h
theorem afv (n : Nat) (p0 : Int) (r : Int) (h : Jo n p0 = some r) : aA Tryz.prog 235 [.i p0] [] (.i r) [] := by
 unfold Jo at h
 refine ah true Tryz.func235 rfl (nt Tryz.ntmps235 rfl) fun Q hQ t ht => ?_
 conv at ht => whnf
 subst ht
 refine .q fun K1 k1 => rg 0 ?_
 refine k1 _ _ ?_
 refine .q fun K2 k2 => ?_
 refine .block ?_
 refine .q fun K3 k3 => ?_
 obtain ⟨s1, hj1, h⟩ := ob h
 have hR1 : ∀ t9 h9, Le 0 t9 h9 (.i p0 :: (u2 (.bool s1 :: (u32 (u8 (u2 (.unk :: []))))))) [] → K3 t9 h9 := by
  intro t9 h9 hw
  refine k3 _ _ (AW.le hw ?_)
  clear hw
  refine .aB rfl h (fun hc1 h => ?_) (fun hc1 h => ?_)
  ·refine .q fun K4 k4 => rg 0 ?_
   refine k4 _ _ ?_
   refine .ret ?_
   have e9 := sj h
   subst e9
   refine hQ _ _ _ (aj aC (fun g => rfl) ?_)
   conv => whnf
  refine .q fun K5 k5 => ?_
  obtain ⟨s2, hj2, h⟩ := ob h
  have hR2 : ∀ t9 h9, Le 0 t9 h9 (.i p0 :: (u16 (u4 (.unk :: (.bool s2 :: (u16 (u8 []))))))) [] → K5 t9 h9 := by
   intro t9 h9 hw
   refine k5 _ _ (AW.le hw ?_)
   clear hw
   refine .aB rfl h (fun hc2 h => ?_) (fun hc2 h => ?_)
   ·refine .q fun K6 k6 => rg 0 ?_
    refine k6 _ _ ?_
    refine .ret ?_
    have e9 := sj h
    subst e9
    refine hQ _ _ _ (aj aC (fun g => rfl) ?_)
    conv => whnf
   refine .q fun K7 k7 => rg 0 ?_
   refine k7 _ _ ?_
   refine .aB rfl h (fun hc3 h => ?_) (fun hc3 h => ?_)
   ·refine .q fun K8 k8 => rg 0 ?_
    refine k8 _ _ ?_
    refine .ret ?_
    have e9 := sj h
    subst e9
    refine hQ _ _ _ (aj aC (fun g => rfl) ?_)
    conv => whnf
   refine .q fun K9 k9 => ?_
   obtain ⟨s3, hj3, h⟩ := ob h
   have hR3 : ∀ t9 h9, Le 0 t9 h9 (u32 (u8 (.bool s3 :: (u4 (u2 []))))) [] → K9 t9 h9 := by
    intro t9 h9 hw
    refine k9 _ _ (AW.le hw ?_)
    clear hw
    refine .aB rfl h (fun hc4 h => ?_) (fun hc4 h => ?_)
    ·refine .q fun K10 k10 => rg 0 ?_
     refine k10 _ _ ?_
     refine .ret ?_
     have e9 := sj h
     subst e9
     refine hQ _ _ _ (aj aC (fun g => rfl) ?_)
     conv => whnf
    refine .skip ?_
    refine k2 _ _ ?_
    refine .q fun K11 k11 => rg 0 ?_
    refine k11 _ _ ?_
    refine .ret ?_
    have e9 := sj h
    subst e9
    refine hQ _ _ _ (aj aC (fun g => rfl) ?_)
    conv => whnf
   refine rg 0 ?_
   refine aG hj3 (fun hc5 hj3 => ?_) (fun hc5 hj3 => ?_)
   ·cases hj3
    exact hR3 _ _ (li (.u16 (.u16 (.u8 (.s (.u4 (.u2 .n)))))))
   cases hj3
   exact hR3 _ _ (li (.u16 (.u16 (.u8 (.s (.u4 (.u2 .n)))))))
  refine rg 0 ?_
  refine aG hj2 (fun hc6 hj2 => ?_) (fun hc6 hj2 => ?_)
  ·cases hj2
   exact hR2 _ _ (li (.s (.u16 (.u4 (.u (.s (.u16 (.u8 .n))))))))
  refine aG hj2 (fun hc7 hj2 => ?_) (fun hc7 hj2 => ?_)
  ·cases hj2
   exact hR2 _ _ (li (.s (.u16 (.u4 (.u (.s (.u16 (.u8 .n))))))))
  refine aG hj2 (fun hc8 hj2 => ?_) (fun hc8 hj2 => ?_)
  ·cases hj2
   exact hR2 _ _ (li (.s (.u16 (.u4 (.u (.s (.u16 (.u8 .n))))))))
  cases hj2
  exact hR2 _ _ (li (.s (.u16 (.u4 (.u (.s (.u16 (.u8 .n))))))))
 refine rg 0 ?_
 refine aG hj1 (fun hc9 hj1 => ?_) (fun hc9 hj1 => ?_)
 ·cases hj1
  exact hR1 _ _ (li (.s (.u2 (.s (.u16 (.u16 (.u8 (.u2 (.u .n)))))))))
 refine aG hj1 (fun hc10 hj1 => ?_) (fun hc10 hj1 => ?_)
 ·cases hj1
  exact hR1 _ _ (li (.s (.u2 (.s (.u16 (.u16 (.u8 (.u2 (.u .n)))))))))
 refine aG hj1 (fun hc11 hj1 => ?_) (fun hc11 hj1 => ?_)
 ·cases hj1
  exact hR1 _ _ (li (.s (.u2 (.s (.u16 (.u16 (.u8 (.u2 (.u .n)))))))))
 refine aG hj1 (fun hc12 hj1 => ?_) (fun hc12 hj1 => ?_)
 ·cases hj1
  exact hR1 _ _ (li (.s (.u2 (.s (.u16 (.u16 (.u8 (.u2 (.u .n)))))))))
 cases hj1
 exact hR1 _ _ (li (.s (.u2 (.s (.u16 (.u16 (.u8 (.u2 (.u .n)))))))))
theorem uS (n : Nat) (p0 : Int) (r : Bool) (h : kI n p0 = some r) : aA Tryz.prog 79 [.i p0] [] (.bool r) [] := by
 unfold kI at h
 refine ah true Tryz.func79 rfl (nt Tryz.ntmps79 rfl) fun Q hQ t ht => ?_
 conv at ht => whnf
 subst ht
 refine .q fun K1 k1 => rg 0 ?_
 refine k1 _ _ ?_
 refine .q fun K2 k2 => ?_
 obtain ⟨s1, hj1, h⟩ := ob h
 have hR1 : ∀ t9 h9, Le 0 t9 h9 (u2 (.bool s1 :: (u8 (u4 (u2 []))))) [] → K2 t9 h9 := by
  intro t9 h9 hw
  refine k2 _ _ (AW.le hw ?_)
  clear hw
  refine .ret ?_
  have e9 := sj h
  subst e9
  refine hQ _ _ _ (aj aC (fun g => rfl) ?_)
  conv => whnf
 refine rg 0 ?_
 refine aG hj1 (fun hc1 hj1 => ?_) (fun hc1 hj1 => ?_)
 ·cases hj1
  exact hR1 _ _ (li (.u2 (.s (.u8 (.u4 (.u2 .n))))))
 refine aG hj1 (fun hc2 hj1 => ?_) (fun hc2 hj1 => ?_)
 ·cases hj1
  exact hR1 _ _ (li (.u2 (.s (.u8 (.u4 (.u2 .n))))))
 refine aG hj1 (fun hc3 hj1 => ?_) (fun hc3 hj1 => ?_)
 ·cases hj1
  exact hR1 _ _ (li (.u2 (.s (.u8 (.u4 (.u2 .n))))))
 cases hj1
 exact hR1 _ _ (li (.u2 (.s (.u8 (.u4 (.u2 .n))))))
theorem Yo (n : Nat) (p0 : Ty) (r : Bool) (h : yN n p0 = some r) : aA Tryz.prog 236 [aU p0] [] (.bool r) [] := by
 unfold yN at h
 refine ah true Tryz.func236 rfl (nt Tryz.ntmps236 rfl) fun Q hQ t ht => ?_
 conv at ht => whnf
 subst ht
 refine .q fun K1 k1 => rg 1 ?_
 refine k1 _ _ ?_
 refine .q fun K2 k2 => ?_
 obtain ⟨s1, hj1, h⟩ := ob h
 have hR1 : ∀ t9 h9, Le 0 t9 h9 (u2 (.bool s1 :: (u8 (u4 (u2 []))))) [] → K2 t9 h9 := by
  intro t9 h9 hw
  refine k2 _ _ (AW.le hw ?_)
  clear hw
  refine .ret ?_
  have e9 := sj h
  subst e9
  refine hQ _ _ _ (aj aC (fun g => rfl) ?_)
  conv => whnf
 refine rg 0 ?_
 refine aG hj1 (fun hc1 hj1 => ?_) (fun hc1 hj1 => ?_)
 ·refine aG hj1 (fun hc2 hj1 => ?_) (fun hc2 hj1 => ?_)
  ·refine bB (l := p0.kids) (f := aF) ?_
   cases hj1
   exact hR1 _ _ (wk [] (.u2 (.c rfl (.u8 (.u4 (.u2 .nil))))) .nil rfl)
  cases hj1
  exact hR1 _ _ (wk [] (.u2 (.c rfl (.u8 (.u4 (.u2 .nil))))) .nil rfl)
 cases hj1
 exact hR1 _ _ (wk [] (.u2 (.c rfl (.u8 (.u4 (.u2 .nil))))) .nil rfl)
theorem aeY (n : Nat) (p0 : Tm) (r : Bool) (h : IW n p0 = some r) : aA Tryz.prog 141 [bC p0] [] (.bool r) [] := by
 unfold IW at h
 refine ah true Tryz.func141 rfl (nt Tryz.ntmps141 rfl) fun Q hQ t ht => ?_
 conv at ht => whnf
 subst ht
 refine .q fun K1 k1 => rg 1 ?_
 refine k1 _ _ ?_
 refine .q fun K2 k2 => rg 0 ?_
 obtain ⟨x1, hx1, h⟩ := ob h
 refine ak (afv _ _ _ hx1) akX (.cons (.same _) .nil) (fun g => rfl) (fun g => rfl) ?_
 refine k2 _ _ ?_
 refine .q fun K3 k3 => .q fun K4 k4 => ?_
 obtain ⟨s1, hj1, h⟩ := ob h
 have hR1 : ∀ t9 h9, Le 0 t9 h9 (.unk :: (.ptr 0 0 :: (u16 (u8 (u2 (.unk :: (.bool s1 :: (u32 (u16 (u8 (u2 []))))))))))) [.box [.i p0.op, .str p0.name, .i p0.n, .i p0.ty.kind, .str p0.ty.name, aH p0.ty.kids, bn p0.kids]] → K4 t9 h9 := by
  intro t9 h9 hw
  refine k4 _ _ (AW.le hw ?_)
  clear hw
  refine .aB rfl h (fun hc1 h => ?_) (fun hc1 h => ?_)
  ·refine .q fun K5 k5 => rg 0 ?_
   refine k5 _ _ ?_
   refine .ret ?_
   have e9 := sj h
   subst e9
   refine hQ _ _ _ (aj aC (fun g => rfl) ?_)
   conv => whnf
  refine .skip ?_
  refine k3 _ _ ?_
  refine .q fun K6 k6 => ?_
  obtain ⟨o1, hj2, h⟩ := ob h
  have hR2 : ∀ s2 : Unit, o1 = .nx s2 → ∀ t9 h9, Le 0 t9 h9 (.unk :: (.ptr 0 0 :: (u64 (u16 (u4 (u2 [])))))) [.box [.i p0.op, .str p0.name, .i p0.n, .i p0.ty.kind, .str p0.ty.name, aH p0.ty.kids, bn p0.kids]] → K6 t9 h9 := by
   intro s2 ho
   subst ho
   dsimp only [LR.el] at h
   intro t9 h9 hw
   refine k6 _ _ (AW.le hw ?_)
   clear hw
   refine .q fun K7 k7 => .q fun K8 k8 => ?_
   obtain ⟨s3, hj3, h⟩ := ob h
   have hR3 : ∀ t9 h9, Le 0 t9 h9 (.unk :: (.ptr 0 0 :: (u64 (u4 (u2 (.bool s3 :: (u8 (u4 (u2 (.unk :: [])))))))))) [.box [.i p0.op, .str p0.name, .i p0.n, .i p0.ty.kind, .str p0.ty.name, aH p0.ty.kids, bn p0.kids]] → K8 t9 h9 := by
    intro t9 h9 hw
    refine k8 _ _ (AW.le hw ?_)
    clear hw
    refine .aB rfl h (fun hc2 h => ?_) (fun hc2 h => ?_)
    ·refine .q fun K9 k9 => rg 0 ?_
     refine k9 _ _ ?_
     refine .ret ?_
     have e9 := sj h
     subst e9
     refine hQ _ _ _ (aj aC (fun g => rfl) ?_)
     conv => whnf
    refine .skip ?_
    refine k7 _ _ ?_
    refine .q fun K10 k10 => .q fun K11 k11 => rg 0 ?_
    refine k11 _ _ ?_
    refine .aB rfl h (fun hc3 h => ?_) (fun hc3 h => ?_)
    ·refine .q fun K12 k12 => ?_
     obtain ⟨s4, hj4, h⟩ := ob h
     have hR4 : ∀ t9 h9, Le 0 t9 h9 (u2 (.bool s4 :: (u64 (u16 (u4 (.unk :: [])))))) [] → K12 t9 h9 := by
      intro t9 h9 hw
      refine k12 _ _ (AW.le hw ?_)
      clear hw
      refine .ret ?_
      have e9 := sj h
      subst e9
      refine hQ _ _ _ (aj aC (fun g => rfl) ?_)
      conv => whnf
     refine rg 0 ?_
     obtain ⟨x2, hx2, hj4⟩ := ob hj4
     refine ak (jU _ _ _ hx2) AB (.cons (.same _) .nil) (fun g => by simp) (fun g => rfl) ?_
     refine aG hj4 (fun hc4 hj4 => ?_) (fun hc4 hj4 => ?_)
     ·cases hj4
      exact hR4 _ _ (wk [] (.u2 (.c rfl (.u64 (.u16 (.u4 (.u .nil)))))) .nil rfl)
     cases hj4
     exact hR4 _ _ (wk [] (.u2 (.c rfl (.u64 (.u16 (.u4 (.u .nil)))))) .nil rfl)
    refine .skip ?_
    refine k10 _ _ ?_
    refine .q fun K13 k13 => rg 0 ?_
    obtain ⟨x3, hx3, h⟩ := ob h
    refine ak (Yo _ _ _ hx3) akA (.cons (.same _) .nil) (fun g => by simp) (fun g => rfl) ?_
    refine k13 _ _ ?_
    refine .ret ?_
    have e9 := sj h
    subst e9
    refine hQ _ _ _ (aj aC (fun g => rfl) ?_)
    conv => whnf
   refine rg 0 ?_
   refine aG hj3 (fun hc5 hj3 => ?_) (fun hc5 hj3 => ?_)
   ·refine aG hj3 (fun hc6 hj3 => ?_) (fun hc6 hj3 => ?_)
    ·cases hj3
     exact OU (hR3 _ _)
    refine aG hj3 (fun hc7 hj3 => ?_) (fun hc7 hj3 => ?_)
    ·cases hj3
     exact OU (hR3 _ _)
    refine aG hj3 (fun hc8 hj3 => ?_) (fun hc8 hj3 => ?_)
    ·cases hj3
     exact OU (hR3 _ _)
    cases hj3
    exact OU (hR3 _ _)
   refine aG hj3 (fun hc9 hj3 => ?_) (fun hc9 hj3 => ?_)
   ·cases hj3
    exact OU (hR3 _ _)
   cases hj3
   exact OU (hR3 _ _)
  refine .block ?_
  refine .q fun K14 k14 => rg 0 ?_
  refine k14 _ _ ?_
  refine .aB rfl hj2 (fun hc10 hj2 => ?_) (fun hc10 hj2 => ?_)
  ·refine .q fun K15 k15 => rg 0 ?_
   obtain ⟨x4, hx4, hj2⟩ := ob hj2
   refine ak (HZ _ _ _ hx4) Xe (.cons (.same _) .nil) (fun g => rfl) (fun g => rfl) ?_
   refine k15 _ _ ?_
   refine .aB rfl hj2 (fun hc11 hj2 => ?_) (fun hc11 hj2 => ?_)
   ·refine .q fun K16 k16 => rg 0 ?_
    refine k16 _ _ ?_
    refine .ret ?_
    have e9 := sj hj2
    subst e9
    dsimp only [LR.el] at h
    have e9 := sj h
    subst e9
    refine hQ _ _ _ (aj aC (fun g => rfl) ?_)
    conv => whnf
   refine .skip ?_
   exact hR2 _ (sj hj2).symm _ _ (li (.u (.s (.u16 (.u16 (.u16 (.u16 (.u16 (.u4 (.u2 .n))))))))))
  refine .q fun K17 k17 => rg 0 ?_
  obtain ⟨x5, hx5, hj2⟩ := ob hj2
  refine ak (uS _ _ _ hx5) Jq (.cons (.same _) .nil) (fun g => rfl) (fun g => rfl) ?_
  refine k17 _ _ ?_
  refine .aB rfl hj2 (fun hc12 hj2 => ?_) (fun hc12 hj2 => ?_)
  ·refine .q fun K18 k18 => rg 0 ?_
   obtain ⟨x6, hx6, hj2⟩ := ob hj2
   refine ak (ou _ _ _ hx6) Ip (.cons (.same _) .nil) (fun g => rfl) (fun g => rfl) ?_
   refine k18 _ _ ?_
   refine .aB rfl hj2 (fun hc13 hj2 => ?_) (fun hc13 hj2 => ?_)
   ·refine .q fun K19 k19 => rg 0 ?_
    refine k19 _ _ ?_
    refine .ret ?_
    have e9 := sj hj2
    subst e9
    dsimp only [LR.el] at h
    have e9 := sj h
    subst e9
    refine hQ _ _ _ (aj aC (fun g => rfl) ?_)
    conv => whnf
   refine .skip ?_
   exact hR2 _ (sj hj2).symm _ _ (li (.u (.s (.u16 (.u16 (.u16 (.u16 (.u16 (.u4 (.u2 .n))))))))))
  refine .q fun K20 k20 => rg 0 ?_
  refine k20 _ _ ?_
  refine .aB rfl hj2 (fun hc14 hj2 => ?_) (fun hc14 hj2 => ?_)
  ·refine .q fun K21 k21 => rg 0 ?_
   refine k21 _ _ ?_
   refine .ret ?_
   have e9 := sj hj2
   subst e9
   dsimp only [LR.el] at h
   have e9 := sj h
   subst e9
   refine hQ _ _ _ (aj aC (fun g => rfl) ?_)
   conv => whnf
  refine .skip ?_
  exact hR2 _ (sj hj2).symm _ _ (li (.u (.s (.u16 (.u16 (.u16 (.u16 (.u16 (.u4 (.u2 .n))))))))))
 refine rg 0 ?_
 refine aG hj1 (fun hc15 hj1 => ?_) (fun hc15 hj1 => ?_)
 ·cases hj1
  exact OJ (hR1 _ _)
 refine aG hj1 (fun hc16 hj1 => ?_) (fun hc16 hj1 => ?_)
 ·refine bB (l := p0.kids) (f := aO) ?_
  refine aG hj1 (fun hc17 hj1 => ?_) (fun hc17 hj1 => ?_)
  ·cases hj1
   exact OJ (hR1 _ _)
  refine aG hj1 (fun hc18 hj1 => ?_) (fun hc18 hj1 => ?_)
  ·refine bB (l := p0.kids) (f := aO) ?_
   cases hj1
   exact OJ (hR1 _ _)
  cases hj1
  exact OJ (hR1 _ _)
 refine aG hj1 (fun hc19 hj1 => ?_) (fun hc19 hj1 => ?_)
 ·refine bB (l := p0.kids) (f := aO) ?_
  cases hj1
  exact OJ (hR1 _ _)
 cases hj1
 exact OJ (hR1 _ _)
abbrev J5 (rec_R1_nodes : Tm → Int → Int → Option Int) : Prop := ∀ (p0 : Tm) (p1 : Int) (p2 : Int) (r : Int), rec_R1_nodes p0 p1 p2 = some r → aA Tryz.prog 73 [bC p0, .i p1, .i p2] [] (.i r) []
theorem R9 (n : Nat) (rec_R1_nodes : Tm → Int → Int → Option Int) (hrec_R1_nodes : J5 rec_R1_nodes) (p0 : Tm) (p1 : Int) (p2 : Int) (r : Int) (h : wu n rec_R1_nodes p0 p1 p2 = some r) : aA Tryz.prog 73 [bC p0, .i p1, .i p2] [] (.i r) [] := by
 unfold wu at h
 refine ah true Tryz.func73 rfl (nt Tryz.ntmps73 rfl) fun Q hQ t ht => ?_
 conv at ht => whnf
 subst ht
 refine .q fun K1 k1 => rg 1 ?_
 refine k1 _ _ ?_
 refine .q fun K2 k2 => rg 0 ?_
 refine ⟨(IntKind.wrap .i64 (p2 + 1)), rfl, ?_⟩
 refine k2 _ _ ?_
 refine .q fun K3 k3 => .q fun K4 k4 => ?_
 obtain ⟨s1, hj1, h⟩ := ob h
 have hR1 : ∀ t9 h9, Le 0 t9 h9 (.unk :: (.i p1 :: (.i (IntKind.wrap .i64 (p2 + 1)) :: (.ptr 0 0 :: (u16 (.bool s1 :: (u16 (u2 (.unk :: []))))))))) [.box [.i p0.op, .str p0.name, .i p0.n, .i p0.ty.kind, .str p0.ty.name, aH p0.ty.kids, bn p0.kids]] → K4 t9 h9 := by
  intro t9 h9 hw
  refine k4 _ _ (AW.le hw ?_)
  clear hw
  refine .aB rfl h (fun hc1 h => ?_) (fun hc1 h => ?_)
  ·refine .q fun K5 k5 => rg 0 ?_
   refine k5 _ _ ?_
   refine .ret ?_
   have e9 := sj h
   subst e9
   refine hQ _ _ _ (aj aC (fun g => rfl) ?_)
   conv => whnf
  refine .skip ?_
  refine k3 _ _ ?_
  refine .q fun K6 k6 => .q fun K7 k7 => rg 0 ?_
  refine k7 _ _ ?_
  refine .block ?_
  obtain ⟨o1, ho1, h⟩ := ob h
  have hR2 : ∀ s3 : Int, o1 = .nx s3 → ∀ t9 h9, Le 0 t9 h9 (u2 (.i s3 :: (u32 (u4 (.unk :: []))))) [] → K6 t9 h9 := by
   intro s3 ho
   subst ho
   dsimp only [LR.el] at h
   intro t9 h9 hw
   refine k6 _ _ (AW.le hw ?_)
   refine .q fun K8 k8 => rg 0 ?_
   refine k8 _ _ ?_
   refine .ret ?_
   have e9 := sj h
   subst e9
   refine hQ _ _ _ (aj aC (fun g => rfl) ?_)
   conv => whnf
  refine .loopS (y9 n rec_R1_nodes p0 p1) (fun (s2 : Int × Int) => (.unk :: (.i p1 :: (.i s2.1 :: (.ptr 0 0 :: (u2 (.unk :: (.i s2.2 :: (u32 []))))))))) (fun (s2 : Int × Int) => [.box [.i p0.op, .str p0.name, .i p0.n, .i p0.ty.kind, .str p0.ty.name, aH p0.ty.kids, bn p0.kids]]) ho1 (fun _ => rfl) (li (.u (.s (.s (.s (.u2 (.u (.s (.u16 (.u16 .n)))))))))) ?_
  intro n1 s2 hs1 KL1 hKL1
  unfold y9 at hs1
  refine .q fun K9 k9 => .q fun K10 k10 => rg 0 ?_
  refine bB (l := p0.kids) (f := aO) ?_
  refine k10 _ _ ?_
  refine .aB rfl hs1 (fun hc2 hs1 => ?_) (fun hc2 hs1 => ?_)
  ·refine .skip ?_
   refine k9 _ _ ?_
   refine .q fun K11 k11 => ?_
   refine .block ?_
   refine .q fun K12 k12 => rg 0 ?_
   obtain ⟨x1, hx1, hs1⟩ := ob hs1
   refine aI (l := p0.kids) (f := aO) (cs := [.i ((x1).op), .str ((x1).name), .i ((x1).n), .i (((x1).ty).kind), .str (((x1).ty).name), aH (((x1).ty).kids), bn ((x1).kids)]) hx1 (aR x1) rfl ?_
   refine ⟨(IntKind.wrap .i64 (p1 + 1)), rfl, ?_⟩
   obtain ⟨x2, hx2, hs1⟩ := ob hs1
   refine ak (hrec_R1_nodes _ _ _ _ hx2) abL (.cons (.same _) (.cons (.same _) (.cons (.same _) .nil))) (fun g => by simp) (fun g => rfl) ?_
   refine k12 _ _ ?_
   refine .q fun K13 k13 => rg 0 ?_
   refine k13 _ _ ?_
   refine .aB rfl hs1 (fun hc3 hs1 => ?_) (fun hc3 hs1 => ?_)
   ·refine .q fun K14 k14 => rg 0 ?_
    refine k14 _ _ ?_
    refine .ret ?_
    have e9 := sj hs1
    subst e9
    dsimp only [LR.el] at h
    have e9 := sj h
    subst e9
    refine hQ _ _ _ (aj aC (fun g => rfl) ?_)
    conv => whnf
   refine .skip ?_
   refine k11 _ _ ?_
   refine .know 7 0 fun hv1 => ?_
   refine .know 23 0 fun hv2 => ?_
   refine rg 0 ?_
   refine ⟨(s2.2 + 1), by have := dK hv1; have := fU hv2; have h8 := of_decide_eq_true hc2; exact bI (by omega) (by omega), ?_⟩
   exact hKL1 _ _ _ hs1 (li (.u (.s (.s (.s (.u2 (.u (.s (.u16 (.u16 .n))))))))))
  refine .exit ?_
  exact hR2 _ (sj hs1).symm _ _ (wk [] (.u2 (.c rfl (.u32 (.u4 (.u .nil))))) .nil rfl)
 refine rg 0 ?_
 refine aG hj1 (fun hc4 hj1 => ?_) (fun hc4 hj1 => ?_)
 ·cases hj1
  exact hR1 _ _ (li (.u (.s (.s (.s (.u16 (.s (.u16 (.u2 (.u .n))))))))))
 refine aG hj1 (fun hc5 hj1 => ?_) (fun hc5 hj1 => ?_)
 ·cases hj1
  exact hR1 _ _ (li (.u (.s (.s (.s (.u16 (.s (.u16 (.u2 (.u .n))))))))))
 obtain ⟨x3, hx3, hj1⟩ := ob hj1
 refine ak (aeY _ _ _ hx3) akn (.cons (.same _) .nil) (fun g => by simp) (fun g => rfl) ?_
 cases hj1
 exact hR1 _ _ (li (.u (.s (.s (.s (.u16 (.s (.u16 (.u2 (.u .n))))))))))
theorem abA (n : Nat) : J5 (rz n) := by
 induction n with
 | zero => exact (fun p0 p1 p2 r h => by unfold rz at h; cases h)
 | succ n ih =>
  exact (fun p0 p1 p2 r h => R9 n _ ih p0 p1 p2 r (by unfold rz at h; exact h))
theorem Rq (n : Nat) : J5 (rz n) := (abA n)
theorem mR (n : Nat) (p0 : Tm) (r : Bool) (h : l6 n p0 = some r) : aA Tryz.prog 21 [bC p0] [] (.bool r) [] := by
 unfold l6 at h
 refine ah true Tryz.func21 rfl (nt Tryz.ntmps21 rfl) fun Q hQ t ht => ?_
 conv at ht => whnf
 subst ht
 refine .q fun K1 k1 => rg 1 ?_
 refine k1 _ _ ?_
 refine .q fun K2 k2 => rg 0 ?_
 obtain ⟨x1, hx1, h⟩ := ob h
 refine ak (Rq _ _ _ _ _ hx1) abL (.cons (.same _) (.cons (.same _) (.cons (.same _) .nil))) (fun g => by simp) (fun g => rfl) ?_
 refine k2 _ _ ?_
 refine .ret ?_
 have e9 := sj h
 subst e9
 refine hQ _ _ _ (aj aC (fun g => rfl) ?_)
 conv => whnf
abbrev Dv (rec_R1_SameType : Ty → Ty → Option Bool) : Prop := ∀ (p0 : Ty) (p1 : Ty) (r : Bool), rec_R1_SameType p0 p1 = some r → aA Tryz.prog 20 [aU p0, aU p1] [] (.bool r) []
theorem LA (n : Nat) (rec_R1_SameType : Ty → Ty → Option Bool) (hrec_R1_SameType : Dv rec_R1_SameType) (p0 : Ty) (p1 : Ty) (r : Bool) (h : lZ n rec_R1_SameType p0 p1 = some r) : aA Tryz.prog 20 [aU p0, aU p1] [] (.bool r) [] := by
 unfold lZ at h
 refine ah true Tryz.func20 rfl (nt Tryz.ntmps20 rfl) fun Q hQ t ht => ?_
 conv at ht => whnf
 subst ht
 refine .q fun K1 k1 => rg 2 ?_
 refine k1 _ _ ?_
 refine .q fun K2 k2 => .q fun K3 k3 => ?_
 obtain ⟨s1, hj1, h⟩ := ob h
 have hR1 : ∀ t9 h9, Le 0 t9 h9 (u2 (.ptr 0 0 :: (.ptr 1 0 :: (u16 (u4 (u2 (.bool s1 :: (u16 (u2 (.unk :: [])))))))))) [.box [.i p0.kind, .str p0.name, aH p0.kids], .box [.i p1.kind, .str p1.name, aH p1.kids]] → K3 t9 h9 := by
  intro t9 h9 hw
  refine k3 _ _ (AW.le hw ?_)
  clear hw
  refine .aB rfl h (fun hc1 h => ?_) (fun hc1 h => ?_)
  ·refine .q fun K4 k4 => rg 0 ?_
   refine k4 _ _ ?_
   refine .ret ?_
   have e9 := sj h
   subst e9
   refine hQ _ _ _ (aj aC (fun g => rfl) ?_)
   conv => whnf
  refine .skip ?_
  refine k2 _ _ ?_
  refine .q fun K5 k5 => .q fun K6 k6 => rg 0 ?_
  refine k6 _ _ ?_
  refine .block ?_
  obtain ⟨o1, ho1, h⟩ := ob h
  have hR2 : ∀ s3 : Unit, o1 = .nx s3 → ∀ t9 h9, Le 0 t9 h9 (u32 (u8 (u4 (u2 [])))) [] → K5 t9 h9 := by
   intro s3 ho
   subst ho
   dsimp only [LR.el] at h
   intro t9 h9 hw
   refine k5 _ _ (AW.le hw ?_)
   refine .q fun K7 k7 => rg 0 ?_
   refine k7 _ _ ?_
   refine .ret ?_
   have e9 := sj h
   subst e9
   refine hQ _ _ _ (aj aC (fun g => rfl) ?_)
   conv => whnf
  refine .loopS (qZ n rec_R1_SameType p0 p1) (fun (s2 : Int) => (u2 (.ptr 0 0 :: (.ptr 1 0 :: (.unk :: (.i s2 :: (u32 (u8 [])))))))) (fun (s2 : Int) => [.box [.i p0.kind, .str p0.name, aH p0.kids], .box [.i p1.kind, .str p1.name, aH p1.kids]]) ho1 (fun _ => rfl) (li (.u2 (.s (.s (.u (.s (.u16 (.u16 (.u8 .n))))))))) ?_
  intro n1 s2 hs1 KL1 hKL1
  unfold qZ at hs1
  refine .q fun K8 k8 => .q fun K9 k9 => rg 0 ?_
  refine bB (l := p0.kids) (f := aF) ?_
  refine k9 _ _ ?_
  refine .aB rfl hs1 (fun hc2 hs1 => ?_) (fun hc2 hs1 => ?_)
  ·refine .skip ?_
   refine k8 _ _ ?_
   refine .q fun K10 k10 => ?_
   refine .block ?_
   refine .q fun K11 k11 => rg 0 ?_
   obtain ⟨x1, hx1, hs1⟩ := ob hs1
   refine aI (l := p0.kids) (f := aF) (cs := [.i ((x1).kind), .str ((x1).name), aH ((x1).kids)]) hx1 (aL x1) rfl ?_
   obtain ⟨x2, hx2, hs1⟩ := ob hs1
   refine aI (l := p1.kids) (f := aF) (cs := [.i ((x2).kind), .str ((x2).name), aH ((x2).kids)]) hx2 (aL x2) rfl ?_
   obtain ⟨x3, hx3, hs1⟩ := ob hs1
   refine ak (hrec_R1_SameType _ _ _ hx3) mH (.cons (.same _) (.cons (.same _) .nil)) (fun g => by simp) (fun g => rfl) ?_
   refine ⟨rfl, ?_⟩
   refine k11 _ _ ?_
   refine .aB rfl hs1 (fun hc3 hs1 => ?_) (fun hc3 hs1 => ?_)
   ·refine .q fun K12 k12 => rg 0 ?_
    refine k12 _ _ ?_
    refine .ret ?_
    have e9 := sj hs1
    subst e9
    dsimp only [LR.el] at h
    have e9 := sj h
    subst e9
    refine hQ _ _ _ (aj aC (fun g => rfl) ?_)
    conv => whnf
   refine .skip ?_
   refine k10 _ _ ?_
   refine .know 5 0 fun hv1 => ?_
   refine .know 29 0 fun hv2 => ?_
   refine rg 0 ?_
   refine ⟨(s2 + 1), by have := dK hv1; have := fU hv2; have h8 := of_decide_eq_true hc2; exact bI (by omega) (by omega), ?_⟩
   exact hKL1 _ _ _ hs1 (li (.u2 (.s (.s (.u (.s (.u16 (.u16 (.u8 .n)))))))))
  refine .exit ?_
  exact hR2 _ (sj hs1).symm _ _ (wk [] (.u32 (.u8 (.u4 (.u2 .nil)))) .nil rfl)
 refine rg 0 ?_
 refine aG hj1 (fun hc4 hj1 => ?_) (fun hc4 hj1 => ?_)
 ·cases hj1
  exact hR1 _ _ (li (.u2 (.s (.s (.u16 (.u4 (.u2 (.s (.u16 (.u2 (.u .n)))))))))))
 refine aG hj1 (fun hc5 hj1 => ?_) (fun hc5 hj1 => ?_)
 ·cases hj1
  exact hR1 _ _ (li (.u2 (.s (.s (.u16 (.u4 (.u2 (.s (.u16 (.u2 (.u .n)))))))))))
 refine bB (l := p0.kids) (f := aF) ?_
 refine bB (l := p1.kids) (f := aF) ?_
 cases hj1
 exact hR1 _ _ (li (.u2 (.s (.s (.u16 (.u4 (.u2 (.s (.u16 (.u2 (.u .n)))))))))))
theorem TJ (n : Nat) : Dv (bO n) := by
 induction n with
 | zero => exact (fun p0 p1 r h => by unfold bO at h; cases h)
 | succ n ih =>
  exact (fun p0 p1 r h => LA n _ ih p0 p1 r (by unfold bO at h; exact h))
theorem dN (n : Nat) : Dv (bO n) := (TJ n)
abbrev Dz (rec_R1_CopyType : Ty → Option Ty) : Prop := ∀ (p0 : Ty) (r : Ty), rec_R1_CopyType p0 = some r → aA Tryz.prog 72 [aU p0] [] (aU r) []
theorem Lu (n : Nat) (rec_R1_CopyType : Ty → Option Ty) (hrec_R1_CopyType : Dz rec_R1_CopyType) (p0 : Ty) (r : Ty) (h : rM n rec_R1_CopyType p0 = some r) : aA Tryz.prog 72 [aU p0] [] (aU r) [] := by
 unfold rM at h
 refine ah true Tryz.func72 rfl (nt Tryz.ntmps72 rfl) fun Q hQ t ht => ?_
 conv at ht => whnf
 subst ht
 refine .q fun K1 k1 => rg 2 ?_
 refine k1 _ _ ?_
 refine .q fun K2 k2 => rg 1 ?_
 refine k2 _ _ ?_
 refine .q fun K3 k3 => .q fun K4 k4 => rg 0 ?_
 refine k4 _ _ ?_
 refine .block ?_
 obtain ⟨o1, ho1, h⟩ := ob h
 have hR1 : ∀ s2 : List Ty, o1 = .nx s2 → ∀ t9 h9, Le 0 t9 h9 (u2 (.ptr 0 0 :: (.ptr 1 0 :: (u16 (u8 (.unk :: [])))))) [.box [.i 0, .str ([] : Str), .slice (List.map aF ([] : List Ty)) .nils], .box [.i p0.kind, .str p0.name, .slice (List.map aF s2) (.tip 2 3)], .tip (List.length s2 * 3)] → K3 t9 h9 := by
  intro s2 ho
  subst ho
  dsimp only [LR.el] at h
  intro t9 h9 hw
  refine k3 _ _ (AW.le hw ?_)
  refine .q fun K5 k5 => rg 0 ?_
  refine k5 _ _ ?_
  refine .ret ?_
  have e9 := sj h
  subst e9
  refine hQ _ _ _ (aj aC (fun g => by simp) ?_)
  conv => whnf
  try rfl
 refine .loopS (uO n rec_R1_CopyType p0) (fun (s1 : Int × (List Ty)) => (.unk :: (.ptr 0 0 :: (.ptr 1 0 :: (.ptr 2 0 :: (.i s1.1 :: (u16 (u8 [])))))))) (fun (s1 : Int × (List Ty)) => [.box [.i p0.kind, .str p0.name, aH p0.kids], .box [.i 0, .str ([] : Str), .slice (List.map aF ([] : List Ty)) .nils], .box [.i p0.kind, .str p0.name, .slice (List.map aF s1.2) (.tip 3 3)], .tip (List.length s1.2 * 3)]) ho1 (fun _ => rfl) (wk [some 0, some 1, some 2, none] (.u (.c rfl (.c rfl (.c rfl (.c rfl (.u16 (.u8 .nil))))))) (.b rfl (.c rfl (.c rfl (.e aD .nil))) (.b rfl (.c rfl (.c rfl (.c rfl .nil))) (.b rfl (.c rfl (.c rfl (.cons (.nils _ _) .nil))) (.w rfl .nil)))) rfl) ?_
 intro n1 s1 hs1 KL1 hKL1
 unfold uO at hs1
 refine .q fun K6 k6 => .q fun K7 k7 => rg 0 ?_
 refine bB (l := p0.kids) (f := aF) ?_
 refine k7 _ _ ?_
 refine .aB rfl hs1 (fun hc1 hs1 => ?_) (fun hc1 hs1 => ?_)
 ·refine .skip ?_
  refine k6 _ _ ?_
  refine .q fun K8 k8 => ?_
  refine .block ?_
  refine rg 2 ?_
  obtain ⟨x1, hx1, hs1⟩ := ob hs1
  refine aI (l := p0.kids) (f := aF) (cs := [.i ((x1).kind), .str ((x1).name), aH ((x1).kids)]) hx1 (aL x1) rfl ?_
  obtain ⟨x2, hx2, hs1⟩ := ob hs1
  refine cp (hrec_R1_CopyType _ _ hx2) Om (.cons (.same _) .nil) ?_
  refine ⟨List.map aF ([x2]), by simp only [List.map_cons, List.map_nil, aL]; rfl, ?_⟩
  obtain ⟨x3, hx3, hs1⟩ := ob hs1
  refine gN (l := s1.2) (ys := [x2]) (f := aF) hx3 aaJ rfl rfl rfl ?_
  refine ⟨rfl, ?_⟩
  refine k8 _ _ ?_
  refine .know 4 0 fun hv1 => ?_
  refine .know 12 0 fun hv2 => ?_
  refine rg 0 ?_
  refine ⟨(s1.1 + 1), by have := dK hv1; have := fU hv2; have h8 := of_decide_eq_true hc1; exact bI (by omega) (by omega), ?_⟩
  exact hKL1 _ _ _ hs1 (wk [some 0, some 1, some 2, some 5] (.u (.c rfl (.c rfl (.c rfl (.c rfl (.u16 (.u8 .nil))))))) (.b rfl (.c rfl (.c rfl (.e aD .nil))) (.b rfl (.c rfl (.c rfl (.c rfl .nil))) (.b rfl (.c rfl (.c rfl (.cons (.gB (aD _ _) rfl) .nil))) (.t rfl .nil)))) rfl)
 refine .exit ?_
 exact hR1 _ (sj hs1).symm _ _ (wk [some 1, some 2, some 3] (.u2 (.c rfl (.c rfl (.u16 (.u8 (.u .nil)))))) (.b rfl (.c rfl (.c rfl (.c rfl .nil))) (.b rfl (.c rfl (.c rfl (.cons (.gB (aD _ _) rfl) .nil))) (.t rfl .nil))) rfl)
theorem Vm (n : Nat) : Dz (kN n) := by
 induction n with
 | zero => exact (fun p0 r h => by unfold kN at h; cases h)
 | succ n ih =>
  exact (fun p0 r h => Lu n _ ih p0 r (by unfold kN at h; exact h))
theorem yg (n : Nat) : Dz (kN n) := (Vm n)
end Abs
end Go.Proofs.YtiiaccpcoclklaaGreat
