/-
  Contracts of Go functions (printed). Conditions: none.
-/
import Derived.KernelRfl
import Derived.Test.YtiiaccpcoclklaaGreatCDfx63d821
import Derived.Test.YtiiaccpcoclklaaGreatCTDx025997
set_option linter.unusedSimpArgs false
set_option linter.unusedVariables false
namespace Go.Proofs.YtiiaccpcoclklaaGreat
namespace Abs
open Go Go.Proofs
set_option maxRecDepth 100000
set_option maxHeartbeats 40000000
theorem t1x0 {p q : Prop} (f : p → q) (h : p := by exact li (.u4 (.s (.u16 (.u4 (.u .n)))))) : q := f h
theorem iZ (n : Nat) (p0 : Env) (r : Bool) (h : jW n p0 = some r) : ak Tryz.prog 16 [dz p0] [] (.bool r) [] := by
 unfold jW at h
 refine ah true Tryz.func16 rfl (nt Tryz.ntmps16 rfl) fun Q hQ t ht => ?_
 conv at ht => whnf
 subst ht
 refine .q fun K1 k1 => rg 1 ?_
 refine k1 _ _ ?_
 refine .q fun K2 k2 => .q fun K3 k3 => ?_
 obtain ⟨s1, hj1, h⟩ := ob h
 have hR1 : ∀ t9 h9, Le 0 t9 h9 (.unk :: (.ptr 0 0 :: (u8 (u2 (.unk :: (.bool s1 :: (u8 (u4 (u2 (.unk :: [])))))))))) [.box [bT p0.carriers, bU p0.names]] → K3 t9 h9 := by
  intro t9 h9 hw
  refine k3 _ _ (AW.le hw ?_)
  clear hw
  refine .aC rfl h (fun hc1 h => ?_) (fun hc1 h => ?_)
  ·refine .q fun K4 k4 => rg 0 ?_
   refine k4 _ _ ?_
   refine .ret ?_
   have e9 := sj h
   subst e9
   refine hQ _ _ _ (aj aD (fun g => rfl) ?_)
   conv => whnf
  refine .skip ?_
  refine k2 _ _ ?_
  refine .q fun K5 k5 => .q fun K6 k6 => rg 0 ?_
  refine k6 _ _ ?_
  refine .block ?_
  obtain ⟨o1, ho1, h⟩ := ob h
  have hR2 : ∀ s3 : Unit, o1 = .nx s3 → ∀ t9 h9, Le 0 t9 h9 (u16 (u8 (u4 (.unk :: [])))) [] → K5 t9 h9 := by
   intro s3 ho
   subst ho
   dsimp only [LR.el] at h
   intro t9 h9 hw
   refine k5 _ _ (AW.le hw ?_)
   refine .q fun K7 k7 => rg 0 ?_
   refine k7 _ _ ?_
   refine .ret ?_
   have e9 := sj h
   subst e9
   refine hQ _ _ _ (aj aD (fun g => rfl) ?_)
   conv => whnf
  refine .loopS (Bc n p0) (fun (s2 : Int) => (.unk :: (.ptr 0 0 :: (.unk :: (.i s2 :: (u16 (u8 (.unk :: [])))))))) (fun (s2 : Int) => [.box [bT p0.carriers, bU p0.names]]) ho1 (fun _ => rfl) (li (.u (.s (.u (.s (.u16 (.u8 (.u .n)))))))) ?_
  intro n1 s2 hs1 KL1 hKL1
  unfold Bc at hs1
  refine .q fun K8 k8 => .q fun K9 k9 => rg 0 ?_
  refine aW (l := p0.carriers) (f := aL) ?_
  refine k9 _ _ ?_
  refine .aC rfl hs1 (fun hc2 hs1 => ?_) (fun hc2 hs1 => ?_)
  ·refine .skip ?_
   refine k8 _ _ ?_
   refine .q fun K10 k10 => ?_
   refine .block ?_
   refine .q fun K11 k11 => rg 0 ?_
   obtain ⟨x1, hx1, hs1⟩ := ob hs1
   refine aJ (l := p0.carriers) (f := aL) (cs := [.str ((x1).name), bQ ((x1).elems)]) hx1 (rfl) rfl ?_
   refine aW (l := x1.elems) (f := encS) ?_
   refine k11 _ _ ?_
   refine .aC rfl hs1 (fun hc3 hs1 => ?_) (fun hc3 hs1 => ?_)
   ·refine .q fun K12 k12 => rg 0 ?_
    refine k12 _ _ ?_
    refine .ret ?_
    have e9 := sj hs1
    subst e9
    dsimp only [LR.el] at h
    have e9 := sj h
    subst e9
    refine hQ _ _ _ (aj aD (fun g => rfl) ?_)
    conv => whnf
   refine .skip ?_
   refine k10 _ _ ?_
   refine .know 3 0 fun hv1 => ?_
   refine .know 16 0 fun hv2 => ?_
   refine rg 0 ?_
   refine ⟨(s2 + 1), by have := dn hv1; have := eP hv2; have h8 := of_decide_eq_true hc2; exact bG (by omega) (by omega), ?_⟩
   exact hKL1 _ _ _ hs1 (li (.u (.s (.u (.s (.u16 (.u8 (.u .n))))))))
  refine .exit ?_
  exact hR2 _ (sj hs1).symm _ _ (wk [] (.u16 (.u8 (.u4 (.u .nil)))) .nil rfl)
 refine rg 0 ?_
 refine aW (l := p0.carriers) (f := aL) ?_
 refine aH hj1 (fun hc4 hj1 => ?_) (fun hc4 hj1 => ?_)
 ·cases hj1
  exact hR1 _ _ (li (.u (.s (.u8 (.u2 (.u (.s (.u8 (.u4 (.u2 (.u .n)))))))))))
 refine aW (l := p0.names) (f := aO) ?_
 cases hj1
 exact hR1 _ _ (li (.u (.s (.u8 (.u2 (.u (.s (.u8 (.u4 (.u2 (.u .n)))))))))))
theorem KQ (n : Nat) (p0 : Int) (r : Bool) (h : y5 n p0 = some r) : ak Tryz.prog 191 [.int .u8 p0] [] (.bool r) [] := by
 unfold y5 at h
 refine ah true Tryz.func191 rfl (nt Tryz.ntmps191 rfl) fun Q hQ t ht => ?_
 conv at ht => whnf
 subst ht
 refine .q fun K1 k1 => rg 0 ?_
 refine k1 _ _ ?_
 refine .q fun K2 k2 => ?_
 obtain ⟨s1, hj1, h⟩ := ob h
 have hR1 : ∀ t9 h9, Le 0 t9 h9 (u2 (.bool s1 :: (u8 (u4 (u2 []))))) [] → K2 t9 h9 := by
  intro t9 h9 hw
  refine k2 _ _ (AW.le hw ?_)
  clear hw
  refine .ret ?_
  have e9 := sj h
  subst e9
  refine hQ _ _ _ (aj aD (fun g => rfl) ?_)
  conv => whnf
 refine rg 0 ?_
 refine aH hj1 (fun hc1 hj1 => ?_) (fun hc1 hj1 => ?_)
 ·refine aH hj1 (fun hc2 hj1 => ?_) (fun hc2 hj1 => ?_)
  ·cases hj1
   exact hR1 _ _ (li (.u2 (.s (.u8 (.u4 (.u2 .n))))))
  refine aH hj1 (fun hc3 hj1 => ?_) (fun hc3 hj1 => ?_)
  ·cases hj1
   exact hR1 _ _ (li (.u2 (.s (.u8 (.u4 (.u2 .n))))))
  cases hj1
  exact hR1 _ _ (li (.u2 (.s (.u8 (.u4 (.u2 .n))))))
 refine aH hj1 (fun hc4 hj1 => ?_) (fun hc4 hj1 => ?_)
 ·cases hj1
  exact hR1 _ _ (li (.u2 (.s (.u8 (.u4 (.u2 .n))))))
 cases hj1
 exact hR1 _ _ (li (.u2 (.s (.u8 (.u4 (.u2 .n))))))
theorem Xr (n : Nat) (p0 : Str) (r : Bool) (h : zD n p0 = some r) : ak Tryz.prog 192 [.str p0] [] (.bool r) [] := by
 unfold zD at h
 refine ah true Tryz.func192 rfl (nt Tryz.ntmps192 rfl) fun Q hQ t ht => ?_
 conv at ht => whnf
 subst ht
 refine .q fun K1 k1 => rg 0 ?_
 refine k1 _ _ ?_
 refine .q fun K2 k2 => .q fun K3 k3 => rg 0 ?_
 refine k3 _ _ ?_
 refine .block ?_
 refine .q fun K4 k4 => ?_
 obtain ⟨s1, hj1, h⟩ := ob h
 have hR1 : ∀ t9 h9, Le 0 t9 h9 (u4 (.bool s1 :: (u16 (u4 (.unk :: []))))) [] → K4 t9 h9 := by
  intro t9 h9 hw
  refine k4 _ _ (AW.le hw ?_)
  clear hw
  refine .aC rfl h (fun hc1 h => ?_) (fun hc1 h => ?_)
  ·refine .q fun K5 k5 => rg 0 ?_
   refine k5 _ _ ?_
   refine .ret ?_
   have e9 := sj h
   subst e9
   refine hQ _ _ _ (aj aD (fun g => rfl) ?_)
   conv => whnf
  refine .skip ?_
  refine k2 _ _ ?_
  refine .q fun K6 k6 => rg 0 ?_
  refine k6 _ _ ?_
  refine .ret ?_
  have e9 := sj h
  subst e9
  refine hQ _ _ _ (aj aD (fun g => rfl) ?_)
  conv => whnf
 refine .q fun K7 k7 => rg 0 ?_
 refine k7 _ _ ?_
 refine .aC rfl hj1 (fun hc2 hj1 => ?_) (fun hc2 hj1 => ?_)
 ·refine .skip ?_
  cases hj1
  exact t1x0 (hR1 _ _)
 refine .q fun K8 k8 => rg 0 ?_
 refine k8 _ _ ?_
 refine .aC rfl hj1 (fun hc3 hj1 => ?_) (fun hc3 hj1 => ?_)
 ·refine .skip ?_
  cases hj1
  exact t1x0 (hR1 _ _)
 refine .q fun K9 k9 => rg 0 ?_
 refine k9 _ _ ?_
 refine .aC rfl hj1 (fun hc4 hj1 => ?_) (fun hc4 hj1 => ?_)
 ·refine .skip ?_
  cases hj1
  exact t1x0 (hR1 _ _)
 refine .q fun K10 k10 => rg 0 ?_
 refine k10 _ _ ?_
 refine .aC rfl hj1 (fun hc5 hj1 => ?_) (fun hc5 hj1 => ?_)
 ·refine .skip ?_
  cases hj1
  exact t1x0 (hR1 _ _)
 refine .q fun K11 k11 => rg 0 ?_
 refine k11 _ _ ?_
 refine .aC rfl hj1 (fun hc6 hj1 => ?_) (fun hc6 hj1 => ?_)
 ·refine .skip ?_
  cases hj1
  exact t1x0 (hR1 _ _)
 refine .q fun K12 k12 => rg 0 ?_
 refine k12 _ _ ?_
 refine .aC rfl hj1 (fun hc7 hj1 => ?_) (fun hc7 hj1 => ?_)
 ·refine .skip ?_
  cases hj1
  exact t1x0 (hR1 _ _)
 refine .q fun K13 k13 => rg 0 ?_
 refine k13 _ _ ?_
 refine .aC rfl hj1 (fun hc8 hj1 => ?_) (fun hc8 hj1 => ?_)
 ·refine .skip ?_
  cases hj1
  exact t1x0 (hR1 _ _)
 refine .q fun K14 k14 => rg 0 ?_
 refine k14 _ _ ?_
 refine .aC rfl hj1 (fun hc9 hj1 => ?_) (fun hc9 hj1 => ?_)
 ·refine .skip ?_
  cases hj1
  exact t1x0 (hR1 _ _)
 refine .q fun K15 k15 => rg 0 ?_
 refine k15 _ _ ?_
 refine .aC rfl hj1 (fun hc10 hj1 => ?_) (fun hc10 hj1 => ?_)
 ·refine .skip ?_
  cases hj1
  exact t1x0 (hR1 _ _)
 refine .q fun K16 k16 => rg 0 ?_
 refine k16 _ _ ?_
 refine .aC rfl hj1 (fun hc11 hj1 => ?_) (fun hc11 hj1 => ?_)
 ·refine .skip ?_
  cases hj1
  exact t1x0 (hR1 _ _)
 refine .q fun K17 k17 => rg 0 ?_
 refine k17 _ _ ?_
 refine .aC rfl hj1 (fun hc12 hj1 => ?_) (fun hc12 hj1 => ?_)
 ·refine .skip ?_
  cases hj1
  exact t1x0 (hR1 _ _)
 refine .q fun K18 k18 => rg 0 ?_
 refine k18 _ _ ?_
 refine .aC rfl hj1 (fun hc13 hj1 => ?_) (fun hc13 hj1 => ?_)
 ·refine .skip ?_
  cases hj1
  exact t1x0 (hR1 _ _)
 refine .q fun K19 k19 => rg 0 ?_
 refine k19 _ _ ?_
 refine .aC rfl hj1 (fun hc14 hj1 => ?_) (fun hc14 hj1 => ?_)
 ·refine .skip ?_
  cases hj1
  exact t1x0 (hR1 _ _)
 refine .q fun K20 k20 => rg 0 ?_
 refine k20 _ _ ?_
 refine .aC rfl hj1 (fun hc15 hj1 => ?_) (fun hc15 hj1 => ?_)
 ·refine .skip ?_
  cases hj1
  exact t1x0 (hR1 _ _)
 refine .q fun K21 k21 => rg 0 ?_
 refine k21 _ _ ?_
 refine .aC rfl hj1 (fun hc16 hj1 => ?_) (fun hc16 hj1 => ?_)
 ·refine .skip ?_
  cases hj1
  exact t1x0 (hR1 _ _)
 refine .q fun K22 k22 => rg 0 ?_
 refine k22 _ _ ?_
 refine .aC rfl hj1 (fun hc17 hj1 => ?_) (fun hc17 hj1 => ?_)
 ·refine .skip ?_
  cases hj1
  exact t1x0 (hR1 _ _)
 refine .q fun K23 k23 => rg 0 ?_
 refine k23 _ _ ?_
 refine .aC rfl hj1 (fun hc18 hj1 => ?_) (fun hc18 hj1 => ?_)
 ·refine .skip ?_
  cases hj1
  exact t1x0 (hR1 _ _)
 refine .q fun K24 k24 => rg 0 ?_
 refine k24 _ _ ?_
 refine .aC rfl hj1 (fun hc19 hj1 => ?_) (fun hc19 hj1 => ?_)
 ·refine .skip ?_
  cases hj1
  exact t1x0 (hR1 _ _)
 refine .q fun K25 k25 => rg 0 ?_
 refine k25 _ _ ?_
 refine .aC rfl hj1 (fun hc20 hj1 => ?_) (fun hc20 hj1 => ?_)
 ·refine .skip ?_
  cases hj1
  exact t1x0 (hR1 _ _)
 refine .q fun K26 k26 => rg 0 ?_
 refine k26 _ _ ?_
 refine .aC rfl hj1 (fun hc21 hj1 => ?_) (fun hc21 hj1 => ?_)
 ·refine .skip ?_
  cases hj1
  exact t1x0 (hR1 _ _)
 refine rg 0 ?_
 cases hj1
 exact t1x0 (hR1 _ _)
theorem adn (n : Nat) (p0 : Int) (r : Bool) (h : Dv n p0 = some r) : ak Tryz.prog 253 [.int .u8 p0] [] (.bool r) [] := by
 unfold Dv at h
 refine ah true Tryz.func253 rfl (nt Tryz.ntmps253 rfl) fun Q hQ t ht => ?_
 conv at ht => whnf
 subst ht
 refine .q fun K1 k1 => rg 0 ?_
 refine k1 _ _ ?_
 refine .q fun K2 k2 => ?_
 obtain ⟨s1, hj1, h⟩ := ob h
 have hR1 : ∀ t9 h9, Le 0 t9 h9 (u2 (.bool s1 :: (u4 (u2 [])))) [] → K2 t9 h9 := by
  intro t9 h9 hw
  refine k2 _ _ (AW.le hw ?_)
  clear hw
  refine .ret ?_
  have e9 := sj h
  subst e9
  refine hQ _ _ _ (aj aD (fun g => rfl) ?_)
  conv => whnf
 refine rg 0 ?_
 refine aH hj1 (fun hc1 hj1 => ?_) (fun hc1 hj1 => ?_)
 ·cases hj1
  exact hR1 _ _ (li (.u2 (.s (.u4 (.u2 .n)))))
 cases hj1
 exact hR1 _ _ (li (.u2 (.s (.u4 (.u2 .n)))))
theorem Z9 (n : Nat) (p0 : Int) (r : Bool) (h : Bb n p0 = some r) : ak Tryz.prog 193 [.int .u8 p0] [] (.bool r) [] := by
 unfold Bb at h
 refine ah true Tryz.func193 rfl (nt Tryz.ntmps193 rfl) fun Q hQ t ht => ?_
 conv at ht => whnf
 subst ht
 refine .q fun K1 k1 => rg 0 ?_
 refine k1 _ _ ?_
 refine .q fun K2 k2 => ?_
 obtain ⟨s1, hj1, h⟩ := ob h
 have hR1 : ∀ t9 h9, Le 0 t9 h9 (u2 (.bool s1 :: (u8 (u2 [])))) [] → K2 t9 h9 := by
  intro t9 h9 hw
  refine k2 _ _ (AW.le hw ?_)
  clear hw
  refine .ret ?_
  have e9 := sj h
  subst e9
  refine hQ _ _ _ (aj aD (fun g => rfl) ?_)
  conv => whnf
 refine rg 0 ?_
 obtain ⟨x1, hx1, hj1⟩ := ob hj1
 refine au (KQ _ _ _ hx1) ahc (.cons (.same _) .nil) (fun g => rfl) (fun g => rfl) ?_
 refine aH hj1 (fun hc1 hj1 => ?_) (fun hc1 hj1 => ?_)
 ·cases hj1
  exact hR1 _ _ (li (.u2 (.s (.u8 (.u2 .n)))))
 obtain ⟨x2, hx2, hj1⟩ := ob hj1
 refine au (adn _ _ _ hx2) aog (.cons (.same _) .nil) (fun g => rfl) (fun g => rfl) ?_
 refine aH hj1 (fun hc2 hj1 => ?_) (fun hc2 hj1 => ?_)
 ·cases hj1
  exact hR1 _ _ (li (.u2 (.s (.u8 (.u2 .n)))))
 cases hj1
 exact hR1 _ _ (li (.u2 (.s (.u8 (.u2 .n)))))
theorem nL (n : Nat) (p0 : Str) (r : Bool) (h : gu n p0 = some r) : ak Tryz.prog 117 [.str p0] [] (.bool r) [] := by
 unfold gu at h
 refine ah true Tryz.func117 rfl (nt Tryz.ntmps117 rfl) fun Q hQ t ht => ?_
 conv at ht => whnf
 subst ht
 refine .q fun K1 k1 => rg 0 ?_
 refine k1 _ _ ?_
 refine .q fun K2 k2 => .q fun K3 k3 => ?_
 obtain ⟨s1, hj1, h⟩ := ob h
 have hR1 : ∀ t9 h9, Le 0 t9 h9 (.str p0 :: (u16 (u2 (.unk :: (.bool s1 :: (u8 (u2 (.unk :: [])))))))) [] → K3 t9 h9 := by
  intro t9 h9 hw
  refine k3 _ _ (AW.le hw ?_)
  clear hw
  refine .aC rfl h (fun hc1 h => ?_) (fun hc1 h => ?_)
  ·refine .q fun K4 k4 => rg 0 ?_
   refine k4 _ _ ?_
   refine .ret ?_
   have e9 := sj h
   subst e9
   refine hQ _ _ _ (aj aD (fun g => rfl) ?_)
   conv => whnf
  refine .skip ?_
  refine k2 _ _ ?_
  refine .q fun K5 k5 => .q fun K6 k6 => rg 0 ?_
  refine k6 _ _ ?_
  refine .block ?_
  obtain ⟨o1, ho1, h⟩ := ob h
  have hR2 : ∀ s3 : Unit, o1 = .nx s3 → ∀ t9 h9, Le 0 t9 h9 (u32 []) [] → K5 t9 h9 := by
   intro s3 ho
   subst ho
   dsimp only [LR.el] at h
   intro t9 h9 hw
   refine k5 _ _ (AW.le hw ?_)
   refine .q fun K7 k7 => rg 0 ?_
   refine k7 _ _ ?_
   refine .ret ?_
   have e9 := sj h
   subst e9
   refine hQ _ _ _ (aj aD (fun g => rfl) ?_)
   conv => whnf
  refine .loopS (nJ n p0) (fun (s2 : Int) => (.str p0 :: (u16 (u4 (.unk :: (.i (p0.length : Int) :: (.i s2 :: (u8 [])))))))) (fun (s2 : Int) => []) ho1 (fun _ => rfl) (li (.s (.u16 (.u4 (.u (.s (.s (.u8 .n)))))))) ?_
  intro n1 s2 hs1 KL1 hKL1
  unfold nJ at hs1
  refine .q fun K8 k8 => rg 0 ?_
  refine k8 _ _ ?_
  refine .q fun K9 k9 => ?_
  refine .aC rfl hs1 (fun hc2 hs1 => ?_) (fun hc2 hs1 => ?_)
  ·refine .skip ?_
   refine k9 _ _ ?_
   refine .q fun K10 k10 => ?_
   refine .block ?_
   refine .q fun K11 k11 => rg 0 ?_
   refine k11 _ _ ?_
   refine .q fun K12 k12 => rg 0 ?_
   obtain ⟨x1, hx1, hs1⟩ := ob hs1
   refine CO hx1 ?_
   obtain ⟨x2, hx2, hs1⟩ := ob hs1
   refine au (Z9 _ _ _ hx2) apS (.cons (.same _) .nil) (fun g => rfl) (fun g => rfl) ?_
   refine k12 _ _ ?_
   refine .aC rfl hs1 (fun hc3 hs1 => ?_) (fun hc3 hs1 => ?_)
   ·refine .q fun K13 k13 => rg 0 ?_
    refine k13 _ _ ?_
    refine .ret ?_
    have e9 := sj hs1
    subst e9
    dsimp only [LR.el] at h
    have e9 := sj h
    subst e9
    refine hQ _ _ _ (aj aD (fun g => rfl) ?_)
    conv => whnf
   refine .skip ?_
   refine k10 _ _ ?_
   refine .know 3 0 fun hv1 => ?_
   refine .know 0 0 fun hv2 => ?_
   refine rg 0 ?_
   refine ⟨(s2 + 1), by have := dn hv1; have := vfs hv2; have h8 := of_decide_eq_true hc2; exact bG (by omega) (by omega), ?_⟩
   exact hKL1 _ _ _ hs1 (li (.s (.u16 (.u4 (.u (.s (.s (.u8 .n))))))))
  refine .exit ?_
  exact hR2 _ (sj hs1).symm _ _ (li (.u16 (.u16 .n)))
 refine rg 0 ?_
 refine aH hj1 (fun hc4 hj1 => ?_) (fun hc4 hj1 => ?_)
 ·cases hj1
  exact hR1 _ _ (li (.s (.u16 (.u2 (.u (.s (.u8 (.u2 (.u .n)))))))))
 refine aH hj1 (fun hc5 hj1 => ?_) (fun hc5 hj1 => ?_)
 ·cases hj1
  exact hR1 _ _ (li (.s (.u16 (.u2 (.u (.s (.u8 (.u2 (.u .n)))))))))
 obtain ⟨x3, hx3, hj1⟩ := ob hj1
 refine CO hx3 ?_
 obtain ⟨x4, hx4, hj1⟩ := ob hj1
 refine au (KQ _ _ _ hx4) ahc (.cons (.same _) .nil) (fun g => rfl) (fun g => rfl) ?_
 refine aH hj1 (fun hc6 hj1 => ?_) (fun hc6 hj1 => ?_)
 ·cases hj1
  exact hR1 _ _ (li (.s (.u16 (.u2 (.u (.s (.u8 (.u2 (.u .n)))))))))
 obtain ⟨x5, hx5, hj1⟩ := ob hj1
 refine au (Xr _ _ _ hx5) apo (.cons (.same _) .nil) (fun g => rfl) (fun g => rfl) ?_
 cases hj1
 exact hR1 _ _ (li (.s (.u16 (.u2 (.u (.s (.u8 (.u2 (.u .n)))))))))
theorem Bn (n : Nat) (p0 : Str) (p1 : Str) (r : Bool) (h : kS n p0 p1 = some r) : ak Tryz.prog 288 [.str p0, .str p1] [] (.bool r) [] := by
 unfold kS at h
 refine ah true Tryz.func288 rfl (nt Tryz.ntmps288 rfl) fun Q hQ t ht => ?_
 conv at ht => whnf
 subst ht
 refine .q fun K1 k1 => rg 0 ?_
 refine k1 _ _ ?_
 refine .q fun K2 k2 => ?_
 obtain ⟨s1, hj1, h⟩ := ob h
 have hR1 : ∀ t9 h9, Le 0 t9 h9 (u4 (.bool s1 :: (u16 []))) [] → K2 t9 h9 := by
  intro t9 h9 hw
  refine k2 _ _ (AW.le hw ?_)
  clear hw
  refine .ret ?_
  have e9 := sj h
  subst e9
  refine hQ _ _ _ (aj aD (fun g => rfl) ?_)
  conv => whnf
 refine rg 0 ?_
 refine aH hj1 (fun hc1 hj1 => ?_) (fun hc1 hj1 => ?_)
 ·refine ⟨(IntKind.wrap .i64 ((p0.length : Int) - (p1.length : Int))), rfl, ?_⟩
  obtain ⟨x1, hx1, hj1⟩ := ob hj1
  refine RJ hx1 (.int _ _ _) (.none _) ?_
  cases hj1
  exact hR1 _ _ (li (.u4 (.s (.u16 .n))))
 cases hj1
 exact hR1 _ _ (li (.u4 (.s (.u16 .n))))
theorem AY (n : Nat) (p0 : Str) (p1 : Str) (r : Str) (h : kE n p0 p1 = some r) : ak Tryz.prog 252 [.str p0, .str p1] [] (.str r) [] := by
 unfold kE at h
 refine ah true Tryz.func252 rfl (nt Tryz.ntmps252 rfl) fun Q hQ t ht => ?_
 conv at ht => whnf
 subst ht
 refine .q fun K1 k1 => rg 0 ?_
 refine k1 _ _ ?_
 refine .q fun K2 k2 => .q fun K3 k3 => rg 0 ?_
 obtain ⟨x1, hx1, h⟩ := ob h
 refine au (Bn _ _ _ _ hx1) apU (.cons (.same _) (.cons (.same _) .nil)) (fun g => rfl) (fun g => rfl) ?_
 refine k3 _ _ ?_
 refine .aC rfl h (fun hc1 h => ?_) (fun hc1 h => ?_)
 ·refine .q fun K4 k4 => rg 0 ?_
  refine ⟨(IntKind.wrap .i64 ((p0.length : Int) - (p1.length : Int))), rfl, ?_⟩
  obtain ⟨x2, hx2, h⟩ := ob h
  refine RJ hx2 (.none _) (.int _ _ _) ?_
  refine k4 _ _ ?_
  refine .ret ?_
  have e9 := sj h
  subst e9
  refine hQ _ _ _ (aj aD (fun g => rfl) ?_)
  conv => whnf
 refine .skip ?_
 refine k2 _ _ ?_
 refine .q fun K5 k5 => rg 0 ?_
 refine k5 _ _ ?_
 refine .ret ?_
 have e9 := sj h
 subst e9
 refine hQ _ _ _ (aj aD (fun g => rfl) ?_)
 conv => whnf
theorem CP (n : Nat) (p0 : Str) (p1 : Str) (r : Str) (h : strings_TrimSuffix n p0 p1 = some r) : ak Tryz.prog 187 [.str p0, .str p1] [] (.str r) [] := by
 unfold strings_TrimSuffix at h
 refine ah true Tryz.func187 rfl (nt Tryz.ntmps187 rfl) fun Q hQ t ht => ?_
 conv at ht => whnf
 subst ht
 refine .q fun K1 k1 => rg 0 ?_
 refine k1 _ _ ?_
 refine .q fun K2 k2 => rg 0 ?_
 obtain ⟨x1, hx1, h⟩ := ob h
 refine au (AY _ _ _ _ hx1) apQ (.cons (.same _) (.cons (.same _) .nil)) (fun g => rfl) (fun g => rfl) ?_
 refine k2 _ _ ?_
 refine .ret ?_
 have e9 := sj h
 subst e9
 refine hQ _ _ _ (aj aD (fun g => rfl) ?_)
 conv => whnf
theorem Fe (n : Nat) (p0 : Str) (r : Bool) (h : oC n p0 = some r) : ak Tryz.prog 112 [.str p0] [] (.bool r) [] := by
 unfold oC at h
 refine ah true Tryz.func112 rfl (nt Tryz.ntmps112 rfl) fun Q hQ t ht => ?_
 conv at ht => whnf
 subst ht
 refine .q fun K1 k1 => rg 0 ?_
 refine k1 _ _ ?_
 refine .q fun K2 k2 => rg 0 ?_
 obtain ⟨x1, hx1, h⟩ := ob h
 refine au (CP _ _ _ _ hx1) ah1 (.cons (.same _) (.cons (.same _) .nil)) (fun g => rfl) (fun g => rfl) ?_
 obtain ⟨x2, hx2, h⟩ := ob h
 refine au (nL _ _ _ hx2) GH (.cons (.same _) .nil) (fun g => rfl) (fun g => rfl) ?_
 refine k2 _ _ ?_
 refine .ret ?_
 have e9 := sj h
 subst e9
 refine hQ _ _ _ (aj aD (fun g => rfl) ?_)
 conv => whnf
theorem Cw (n : Nat) (p0 : Int) (p1 : Int) (p2 : Int) (p3 : Int) (r : Bool × Int) (h : jP n p0 p1 p2 p3 = some r) : ak Tryz.prog 194 [.ptr 0 0, .i p3] [.box [.i p0, .i p1, .i p2]] (.bool r.1) [.box [.i r.2, .i p1, .i p2]] := by
 unfold jP at h
 refine ah true Tryz.func194 rfl (nt Tryz.ntmps194 rfl) fun Q hQ t ht => ?_
 conv at ht => whnf
 subst ht
 refine .q fun K1 k1 => rg 0 ?_
 refine k1 _ _ ?_
 refine .q fun K2 k2 => rg 0 ?_
 refine ⟨(IntKind.wrap .i64 (p0 + 1)), rfl, ?_⟩
 refine k2 _ _ ?_
 refine .q fun K3 k3 => ?_
 obtain ⟨s1, hj1, h⟩ := ob h
 have hR1 : ∀ t9 h9, Le 1 t9 h9 (u4 (.bool s1 :: (u16 (u8 [])))) [.box [.i (IntKind.wrap .i64 (p0 + 1)), .i p1, .i p2]] → K3 t9 h9 := by
  intro t9 h9 hw
  refine k3 _ _ (AW.le hw ?_)
  clear hw
  refine .ret ?_
  have e9 := sj h
  subst e9
  refine hQ _ _ _ (dI (u4 (.bool s1 :: (u16 (u8 [])))) [.box [.i (IntKind.wrap .i64 (p0 + 1)), .i p1, .i p2]] (wk [some 0] (.u4 (.c rfl (.u16 (.u8 .nil)))) (.b rfl (.c rfl (.c rfl (.c rfl .nil))) .nil) rfl) (bP aD [0] rfl (.cons (rfl) .nil) ?_))
  conv => whnf
  first | rfl | (simp; done) | (simp; rfl) | (simp; constructor <;> rfl)
 refine rg 0 ?_
 refine aH hj1 (fun hc1 hj1 => ?_) (fun hc1 hj1 => ?_)
 ·refine ⟨rfl, ?_⟩
  cases hj1
  exact hR1 _ _ (li (.u4 (.s (.u16 (.u8 .n)))))
 refine ⟨rfl, ?_⟩
 cases hj1
 exact hR1 _ _ (li (.u4 (.s (.u16 (.u8 .n)))))
end Abs
end Go.Proofs.YtiiaccpcoclklaaGreat
