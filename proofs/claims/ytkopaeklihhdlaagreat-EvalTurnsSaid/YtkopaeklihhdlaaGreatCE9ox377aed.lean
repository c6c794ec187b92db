/-
  Contracts of Go functions (printed). Conditions: none.
-/
import Derived.KernelRfl
import Derived.Test.YtkopaeklihhdlaaGreatCEDoxca9dbf
import Derived.Test.YtkopaeklihhdlaaGreatCDrnox069603
set_option linter.unusedSimpArgs false
set_option linter.unusedVariables false
namespace Go.Proofs.YtkopaeklihhdlaaGreat
namespace Abs
open Go Go.Proofs
set_option maxRecDepth 100000
set_option maxHeartbeats 40000000
theorem Hz (n : Nat) (p0 : Int) (r : Bool) (h : nL n p0 = some r) : aA Tryz.prog 133 [.int .u8 p0] [] (.bool r) [] := by
 unfold nL at h
 refine aC true Tryz.func133 rfl (by rw [Tryz.ntmps133]; exact Nat.le_of_ble_eq_true rfl) fun Q hQ t ht => ?_
 conv at ht => whnf
 subst ht
 refine .q fun K1 k1 => ?_
 refine rg 0 ?_
 conv => whnf
 refine k1 _ _ ?_
 refine .q fun K2 k2 => ?_
 obtain ⟨s1, hj1, h⟩ := ob h
 have hR1 : ∀ t9 h9, Le 0 t9 h9 (u2 (.bool s1 :: (u8 (u4 (u2 []))))) [] → K2 t9 h9 := by
  intro t9 h9 hw
  refine k2 _ _ (AW.le hw ?_)
  clear hw
  refine .ret ?_
  conv => whnf
  have e9 := sj h
  subst e9
  refine hQ _ _ _ (aG aJ (fun g => rfl) ?_)
  conv => whnf
 refine rg 0 ?_
 conv => whnf
 refine aI hj1 (fun hc1 hj1 => ?_) (fun hc1 hj1 => ?_)
 ·conv => whnf
  refine aI hj1 (fun hc2 hj1 => ?_) (fun hc2 hj1 => ?_)
  ·conv => whnf
   cases hj1
   exact hR1 _ _ (li (.u2 (.s (.u8 (.u4 (.u2 .n))))))
  conv => whnf
  refine aI hj1 (fun hc3 hj1 => ?_) (fun hc3 hj1 => ?_)
  ·conv => whnf
   cases hj1
   exact hR1 _ _ (li (.u2 (.s (.u8 (.u4 (.u2 .n))))))
  conv => whnf
  cases hj1
  exact hR1 _ _ (li (.u2 (.s (.u8 (.u4 (.u2 .n))))))
 conv => whnf
 refine aI hj1 (fun hc4 hj1 => ?_) (fun hc4 hj1 => ?_)
 ·conv => whnf
  cases hj1
  exact hR1 _ _ (li (.u2 (.s (.u8 (.u4 (.u2 .n))))))
 conv => whnf
 cases hj1
 exact hR1 _ _ (li (.u2 (.s (.u8 (.u4 (.u2 .n))))))
theorem Wy (n : Nat) (p0 : Str) (p1 : List Str) (r : Bool) (h : kZ n p0 p1 = some r) : aA Tryz.prog 102 [.str p0, .slice (List.map encS p1) .shared] [] (.bool r) [] := by
 unfold kZ at h
 refine aC true Tryz.func102 rfl (by rw [Tryz.ntmps102]; exact Nat.le_of_ble_eq_true rfl) fun Q hQ t ht => ?_
 conv at ht => whnf
 subst ht
 refine .q fun K1 k1 => ?_
 refine rg 0 ?_
 conv => whnf
 refine k1 _ _ ?_
 refine .q fun K2 k2 => ?_
 refine .q fun K3 k3 => ?_
 refine rg 0 ?_
 conv => whnf
 refine k3 _ _ ?_
 refine .block ?_
 obtain ⟨o1, ho1, h⟩ := ob h
 have hR1 : ∀ s2 : Unit, o1 = .nx s2 → ∀ t9 h9, Le 0 t9 h9 (u16 (u2 [])) [] → K2 t9 h9 := by
  intro s2 ho
  subst ho
  dsimp only [LR.el] at h
  intro t9 h9 hw
  refine k2 _ _ (AW.le hw ?_)
  refine .q fun K4 k4 => ?_
  refine rg 0 ?_
  conv => whnf
  refine k4 _ _ ?_
  refine .ret ?_
  conv => whnf
  have e9 := sj h
  subst e9
  refine hQ _ _ _ (aG aJ (fun g => rfl) ?_)
  conv => whnf
 refine .loopS (BN n p0 p1) (fun (s1 : Int) => (.str p0 :: (.slice (List.map encS p1) .shared :: (u2 (.unk :: (.int .i64 s1 :: (u8 (u4 [])))))))) (fun (s1 : Int) => []) ho1 (fun _ => rfl) (li (.s (.s (.u2 (.u (.s (.u8 (.u4 .n)))))))) ?_
 intro n1 s1 hs1 KL1 hKL1
 unfold BN at hs1
 refine .q fun K5 k5 => ?_
 refine .q fun K6 k6 => ?_
 refine rg 0 ?_
 conv => whnf
 refine aQ (l := p1) (f := encS) ?_
 conv => whnf
 refine k6 _ _ ?_
 refine .aK rfl hs1 (fun hc1 hs1 => ?_) (fun hc1 hs1 => ?_)
 ·refine .skip ?_
  conv => whnf
  refine k5 _ _ ?_
  refine .q fun K7 k7 => ?_
  refine .block ?_
  refine .q fun K8 k8 => ?_
  refine rg 0 ?_
  conv => whnf
  obtain ⟨x1, hx1, hs1⟩ := ob hs1
  refine aU (l := p1) (f := encS) (cs := [.str (x1)]) hx1 (rfl) rfl ?_
  conv => whnf
  refine k8 _ _ ?_
  refine .aK rfl hs1 (fun hc2 hs1 => ?_) (fun hc2 hs1 => ?_)
  ·refine .q fun K9 k9 => ?_
   refine rg 0 ?_
   conv => whnf
   refine k9 _ _ ?_
   refine .ret ?_
   conv => whnf
   have e9 := sj hs1
   subst e9
   dsimp only [LR.el] at h
   have e9 := sj h
   subst e9
   refine hQ _ _ _ (aG aJ (fun g => rfl) ?_)
   conv => whnf
  refine .skip ?_
  conv => whnf
  refine k7 _ _ ?_
  refine .know 5 0 fun hv1 => ?_
  refine .know 1 0 fun hv2 => ?_
  refine rg 0 ?_
  conv => whnf
  refine ⟨(s1 + 1), by have := bY hv1; have := gI hv2; have h8 := of_decide_eq_true hc1; exact bB (by omega) (by omega), ?_⟩
  conv => whnf
  exact hKL1 _ _ _ hs1 (li (.s (.s (.u2 (.u (.s (.u8 (.u4 .n))))))))
 refine .exit ?_
 conv => whnf
 exact hR1 _ (sj hs1).symm _ _ (li (.u16 (.u2 .n)))
theorem SI (n : Nat) (p0 : Str) (r : Bool) (h : uJ n p0 = some r) : aA Tryz.prog 134 [.str p0] [] (.bool r) [] := by
 unfold uJ at h
 refine aC true Tryz.func134 rfl (by rw [Tryz.ntmps134]; exact Nat.le_of_ble_eq_true rfl) fun Q hQ t ht => ?_
 conv at ht => whnf
 subst ht
 refine .q fun K1 k1 => ?_
 refine rg 0 ?_
 conv => whnf
 refine k1 _ _ ?_
 refine .q fun K2 k2 => ?_
 refine rg 1 ?_
 conv => whnf
 refine ⟨List.map encS ([([116, 114, 117, 101] : Str), ([102, 97, 108, 115, 101] : Str), ([110, 111, 116] : Str), ([111, 114] : Str), ([102, 111, 114, 97, 108, 108] : Str), ([101, 120, 105, 115, 116, 115] : Str), ([105, 110] : Str), ([110, 111, 116, 105, 110] : Str), ([115, 117, 98] : Str), ([109, 111, 100] : Str), ([102, 117, 110] : Str), ([99, 97, 114, 100] : Str), ([109, 105, 110] : Str), ([109, 97, 120] : Str), ([100, 111, 109] : Str), ([114, 97, 110] : Str), ([80, 79, 87] : Str), ([105, 110, 116] : Str), ([98, 111, 111, 108] : Str), ([115, 101, 116] : Str), ([112, 97, 105, 114] : Str)]), by kernel_rfl, ?_⟩
 conv => whnf
 refine k2 _ _ ?_
 refine .q fun K3 k3 => ?_
 refine rg 0 ?_
 conv => whnf
 obtain ⟨x1, hx1, h⟩ := ob h
 refine aB (Wy _ _ _ _ hx1) Zo (.cons (.same _) (.cons (.share _ _) .nil)) (fun g => by simp) (fun g => rfl) ?_
 conv => whnf
 refine k3 _ _ ?_
 refine .ret ?_
 conv => whnf
 have e9 := sj h
 subst e9
 refine hQ _ _ _ (aG aJ (fun g => rfl) ?_)
 conv => whnf
theorem Yq (n : Nat) (p0 : Int) (r : Bool) (h : pU n p0 = some r) : aA Tryz.prog 135 [.int .u8 p0] [] (.bool r) [] := by
 unfold pU at h
 refine aC true Tryz.func135 rfl (by rw [Tryz.ntmps135]; exact Nat.le_of_ble_eq_true rfl) fun Q hQ t ht => ?_
 conv at ht => whnf
 subst ht
 refine .q fun K1 k1 => ?_
 refine rg 0 ?_
 conv => whnf
 refine k1 _ _ ?_
 refine .q fun K2 k2 => ?_
 obtain ⟨s1, hj1, h⟩ := ob h
 have hR1 : ∀ t9 h9, Le 0 t9 h9 (u2 (.bool s1 :: (u4 (u2 [])))) [] → K2 t9 h9 := by
  intro t9 h9 hw
  refine k2 _ _ (AW.le hw ?_)
  clear hw
  refine .ret ?_
  conv => whnf
  have e9 := sj h
  subst e9
  refine hQ _ _ _ (aG aJ (fun g => rfl) ?_)
  conv => whnf
 refine rg 0 ?_
 conv => whnf
 refine aI hj1 (fun hc1 hj1 => ?_) (fun hc1 hj1 => ?_)
 ·conv => whnf
  cases hj1
  exact hR1 _ _ (li (.u2 (.s (.u4 (.u2 .n)))))
 conv => whnf
 cases hj1
 exact hR1 _ _ (li (.u2 (.s (.u4 (.u2 .n)))))
theorem oC (n : Nat) (p0 : Str) (r : Bool) (h : dY n p0 = some r) : aA Tryz.prog 98 [.str p0] [] (.bool r) [] := by
 unfold dY at h
 refine aC true Tryz.func98 rfl (by rw [Tryz.ntmps98]; exact Nat.le_of_ble_eq_true rfl) fun Q hQ t ht => ?_
 conv at ht => whnf
 subst ht
 refine .q fun K1 k1 => ?_
 refine rg 0 ?_
 conv => whnf
 refine k1 _ _ ?_
 refine .q fun K2 k2 => ?_
 refine .q fun K3 k3 => ?_
 obtain ⟨s1, hj1, h⟩ := ob h
 have hR1 : ∀ t9 h9, Le 0 t9 h9 (.str p0 :: (u16 (u4 (.bool s1 :: (u16 (u8 [])))))) [] → K3 t9 h9 := by
  intro t9 h9 hw
  refine k3 _ _ (AW.le hw ?_)
  clear hw
  refine .aK rfl h (fun hc1 h => ?_) (fun hc1 h => ?_)
  ·refine .q fun K4 k4 => ?_
   refine rg 0 ?_
   conv => whnf
   refine k4 _ _ ?_
   refine .ret ?_
   conv => whnf
   have e9 := sj h
   subst e9
   refine hQ _ _ _ (aG aJ (fun g => rfl) ?_)
   conv => whnf
  refine .skip ?_
  conv => whnf
  refine k2 _ _ ?_
  refine .q fun K5 k5 => ?_
  refine .q fun K6 k6 => ?_
  refine rg 0 ?_
  conv => whnf
  refine k6 _ _ ?_
  refine .block ?_
  obtain ⟨o1, ho1, h⟩ := ob h
  have hR2 : ∀ s3 : Unit, o1 = .nx s3 → ∀ t9 h9, Le 0 t9 h9 (u32 (u8 (u4 (u2 [])))) [] → K5 t9 h9 := by
   intro s3 ho
   subst ho
   dsimp only [LR.el] at h
   intro t9 h9 hw
   refine k5 _ _ (AW.le hw ?_)
   refine .q fun K7 k7 => ?_
   refine rg 0 ?_
   conv => whnf
   refine k7 _ _ ?_
   refine .ret ?_
   conv => whnf
   have e9 := sj h
   subst e9
   refine hQ _ _ _ (aG aJ (fun g => rfl) ?_)
   conv => whnf
  refine .loopS (lG n p0) (fun (s2 : Int) => (.str p0 :: (u2 (.int .i64 s2 :: (u32 (u8 (u2 []))))))) (fun (s2 : Int) => []) ho1 (fun _ => rfl) (li (.s (.u2 (.s (.u16 (.u16 (.u8 (.u2 .n)))))))) ?_
  intro n1 s2 hs1 KL1 hKL1
  unfold lG at hs1
  refine .q fun K8 k8 => ?_
  refine .q fun K9 k9 => ?_
  refine rg 0 ?_
  conv => whnf
  refine k9 _ _ ?_
  refine .aK rfl hs1 (fun hc2 hs1 => ?_) (fun hc2 hs1 => ?_)
  ·refine .skip ?_
   conv => whnf
   refine k8 _ _ ?_
   refine .q fun K10 k10 => ?_
   refine .block ?_
   refine .q fun K11 k11 => ?_
   obtain ⟨s4, hj2, hs1⟩ := ob hs1
   have hR3 : ∀ t9 h9, Le 0 t9 h9 (.str p0 :: (u2 (.int .i64 s2 :: (u32 (u8 (.unk :: (.bool s4 :: []))))))) [] → K11 t9 h9 := by
    intro t9 h9 hw
    refine k11 _ _ (AW.le hw ?_)
    clear hw
    refine .aK rfl hs1 (fun hc3 hs1 => ?_) (fun hc3 hs1 => ?_)
    ·refine .q fun K12 k12 => ?_
     refine rg 0 ?_
     conv => whnf
     refine k12 _ _ ?_
     refine .ret ?_
     conv => whnf
     have e9 := sj hs1
     subst e9
     dsimp only [LR.el] at h
     have e9 := sj h
     subst e9
     refine hQ _ _ _ (aG aJ (fun g => rfl) ?_)
     conv => whnf
    refine .skip ?_
    conv => whnf
    refine k10 _ _ ?_
    refine .know 3 0 fun hv1 => ?_
    refine .know 0 0 fun hv2 => ?_
    refine rg 0 ?_
    conv => whnf
    refine ⟨(s2 + 1), by have := bY hv1; have := vfs hv2; have h8 := of_decide_eq_true hc2; exact bB (by omega) (by omega), ?_⟩
    conv => whnf
    exact hKL1 _ _ _ hs1 (li (.s (.u2 (.s (.u16 (.u16 (.u8 (.u2 .n))))))))
   refine rg 0 ?_
   conv => whnf
   obtain ⟨x1, hx1, hj2⟩ := ob hj2
   refine yV hx1 ?_
   conv => whnf
   obtain ⟨x2, hx2, hj2⟩ := ob hj2
   refine aB (Hz _ _ _ hx2) Zf (.cons (.same _) .nil) (fun g => rfl) (fun g => rfl) ?_
   conv => whnf
   refine aI hj2 (fun hc4 hj2 => ?_) (fun hc4 hj2 => ?_)
   ·conv => whnf
    obtain ⟨x3, hx3, hj2⟩ := ob hj2
    refine yV hx3 ?_
    conv => whnf
    obtain ⟨x4, hx4, hj2⟩ := ob hj2
    refine aB (Yq _ _ _ hx4) aeU (.cons (.same _) .nil) (fun g => rfl) (fun g => rfl) ?_
    conv => whnf
    refine aI hj2 (fun hc5 hj2 => ?_) (fun hc5 hj2 => ?_)
    ·conv => whnf
     obtain ⟨x5, hx5, hj2⟩ := ob hj2
     refine yV hx5 ?_
     conv => whnf
     cases hj2
     exact hR3 _ _ (li (.s (.u2 (.s (.u16 (.u16 (.u8 (.u (.s .n)))))))))
    conv => whnf
    cases hj2
    exact hR3 _ _ (li (.s (.u2 (.s (.u16 (.u16 (.u8 (.u (.s .n)))))))))
   conv => whnf
   cases hj2
   exact hR3 _ _ (li (.s (.u2 (.s (.u16 (.u16 (.u8 (.u (.s .n)))))))))
  refine .exit ?_
  conv => whnf
  exact hR2 _ (sj hs1).symm _ _ (li (.u16 (.u16 (.u8 (.u4 (.u2 .n))))))
 refine rg 0 ?_
 conv => whnf
 refine aI hj1 (fun hc6 hj1 => ?_) (fun hc6 hj1 => ?_)
 ·conv => whnf
  cases hj1
  exact hR1 _ _ (li (.s (.u16 (.u4 (.s (.u16 (.u8 .n)))))))
 conv => whnf
 refine aI hj1 (fun hc7 hj1 => ?_) (fun hc7 hj1 => ?_)
 ·conv => whnf
  cases hj1
  exact hR1 _ _ (li (.s (.u16 (.u4 (.s (.u16 (.u8 .n)))))))
 conv => whnf
 obtain ⟨x6, hx6, hj1⟩ := ob hj1
 refine yV hx6 ?_
 conv => whnf
 obtain ⟨x7, hx7, hj1⟩ := ob hj1
 refine aB (Hz _ _ _ hx7) Zf (.cons (.same _) .nil) (fun g => rfl) (fun g => rfl) ?_
 conv => whnf
 refine aI hj1 (fun hc8 hj1 => ?_) (fun hc8 hj1 => ?_)
 ·conv => whnf
  cases hj1
  exact hR1 _ _ (li (.s (.u16 (.u4 (.s (.u16 (.u8 .n)))))))
 conv => whnf
 obtain ⟨x8, hx8, hj1⟩ := ob hj1
 refine aB (SI _ _ _ hx8) afZ (.cons (.same _) .nil) (fun g => rfl) (fun g => rfl) ?_
 conv => whnf
 cases hj1
 exact hR1 _ _ (li (.s (.u16 (.u4 (.s (.u16 (.u8 .n)))))))
theorem WU (n : Nat) (p0 : Str) (r : Bool) (h : pz n p0 = some r) : aA Tryz.prog 162 [.str p0] [] (.bool r) [] := by
 unfold pz at h
 refine aC true Tryz.func162 rfl (by rw [Tryz.ntmps162]; exact Nat.le_of_ble_eq_true rfl) fun Q hQ t ht => ?_
 conv at ht => whnf
 subst ht
 refine .q fun K1 k1 => ?_
 refine rg 0 ?_
 conv => whnf
 refine k1 _ _ ?_
 refine .q fun K2 k2 => ?_
 obtain ⟨s1, hj1, h⟩ := ob h
 have hR1 : ∀ t9 h9, Le 0 t9 h9 (u2 (.bool s1 :: (u16 (u2 (.unk :: []))))) [] → K2 t9 h9 := by
  intro t9 h9 hw
  refine k2 _ _ (AW.le hw ?_)
  clear hw
  refine .ret ?_
  conv => whnf
  have e9 := sj h
  subst e9
  refine hQ _ _ _ (aG aJ (fun g => rfl) ?_)
  conv => whnf
 refine .know 0 0 fun hv1 => ?_
 refine rg 0 ?_
 conv => whnf
 refine aI hj1 (fun hc1 hj1 => ?_) (fun hc1 hj1 => ?_)
 ·conv => whnf
  refine ⟨((p0.length : Int) - 1), by have := vfs hv1; exact bB (by omega) (by omega), ?_⟩
  conv => whnf
  obtain ⟨x1, hx1, hj1⟩ := ob hj1
  refine yV hx1 ?_
  conv => whnf
  refine aI hj1 (fun hc2 hj1 => ?_) (fun hc2 hj1 => ?_)
  ·conv => whnf
   refine ⟨((p0.length : Int) - 1), by have := vfs hv1; exact bB (by omega) (by omega), ?_⟩
   conv => whnf
   obtain ⟨x2, hx2, hj1⟩ := ob hj1
   refine aaY hx2 (.none _) (.int _ _ _) ?_
   conv => whnf
   obtain ⟨x3, hx3, hj1⟩ := ob hj1
   refine aB (oC _ _ _ hx3) Hg (.cons (.same _) .nil) (fun g => rfl) (fun g => rfl) ?_
   conv => whnf
   cases hj1
   exact hR1 _ _ (li (.u2 (.s (.u16 (.u2 (.u .n))))))
  conv => whnf
  cases hj1
  exact hR1 _ _ (li (.u2 (.s (.u16 (.u2 (.u .n))))))
 conv => whnf
 cases hj1
 exact hR1 _ _ (li (.u2 (.s (.u16 (.u2 (.u .n))))))
theorem X6 (n : Nat) (p0 : Str) (r : Bool) (h : rz n p0 = some r) : aA Tryz.prog 99 [.str p0] [] (.bool r) [] := by
 unfold rz at h
 refine aC true Tryz.func99 rfl (by rw [Tryz.ntmps99]; exact Nat.le_of_ble_eq_true rfl) fun Q hQ t ht => ?_
 conv at ht => whnf
 subst ht
 refine .q fun K1 k1 => ?_
 refine rg 0 ?_
 conv => whnf
 refine k1 _ _ ?_
 refine .q fun K2 k2 => ?_
 obtain ⟨s1, hj1, h⟩ := ob h
 have hR1 : ∀ t9 h9, Le 0 t9 h9 (u2 (.bool s1 :: (u4 (u2 [])))) [] → K2 t9 h9 := by
  intro t9 h9 hw
  refine k2 _ _ (AW.le hw ?_)
  clear hw
  refine .ret ?_
  conv => whnf
  have e9 := sj h
  subst e9
  refine hQ _ _ _ (aG aJ (fun g => rfl) ?_)
  conv => whnf
 refine rg 0 ?_
 conv => whnf
 obtain ⟨x1, hx1, hj1⟩ := ob hj1
 refine aB (oC _ _ _ hx1) Hg (.cons (.same _) .nil) (fun g => rfl) (fun g => rfl) ?_
 conv => whnf
 refine aI hj1 (fun hc1 hj1 => ?_) (fun hc1 hj1 => ?_)
 ·conv => whnf
  cases hj1
  exact hR1 _ _ (li (.u2 (.s (.u4 (.u2 .n)))))
 conv => whnf
 obtain ⟨x2, hx2, hj1⟩ := ob hj1
 refine aB (WU _ _ _ hx2) aeW (.cons (.same _) .nil) (fun g => rfl) (fun g => rfl) ?_
 conv => whnf
 cases hj1
 exact hR1 _ _ (li (.u2 (.s (.u4 (.u2 .n)))))
theorem e10x0 {p q : Prop} (f : p → q) (h : p := by exact li (.u (.s (.s (.s (.u16 (.u16 (.u16 (.u8 (.u (.s (.u16 (.u2 (.u .n)))))))))))))) : q := f h
abbrev qaz (qdd : Ty → Int → Int → Option Int) : Prop := ∀ (p0 : Ty) (p1 : Int) (p2 : Int) (r : Int), qdd p0 p1 p2 = some r → aA Tryz.prog 103 [.agg [.int .i64 p0.kind, .str p0.name, .slice (List.map aH p0.kids) .shared], .int .i64 p1, .int .i64 p2] [] (.int .i64 r) []
theorem Mt (n : Nat) (qdd : Ty → Int → Int → Option Int) (qbq : qaz qdd) (p0 : Ty) (p1 : Int) (p2 : Int) (r : Int) (h : sG n qdd p0 p1 p2 = some r) : aA Tryz.prog 103 [.agg [.int .i64 p0.kind, .str p0.name, .slice (List.map aH p0.kids) .shared], .int .i64 p1, .int .i64 p2] [] (.int .i64 r) [] := by
 unfold sG at h
 refine aC true Tryz.func103 rfl (by rw [Tryz.ntmps103]; exact Nat.le_of_ble_eq_true rfl) fun Q hQ t ht => ?_
 conv at ht => whnf
 subst ht
 refine .q fun K1 k1 => ?_
 refine rg 1 ?_
 conv => whnf
 refine k1 _ _ ?_
 refine .q fun K2 k2 => ?_
 refine rg 0 ?_
 conv => whnf
 refine ⟨(IntKind.wrap .i64 (p2 + 1)), rfl, ?_⟩
 conv => whnf
 refine k2 _ _ ?_
 refine .q fun K3 k3 => ?_
 refine .q fun K4 k4 => ?_
 obtain ⟨s1, hj1, h⟩ := ob h
 have hR1 : ∀ t9 h9, Le 0 t9 h9 (.unk :: (.int .i64 p1 :: (.int .i64 (IntKind.wrap .i64 (p2 + 1)) :: (.ptr 0 0 :: (u16 (u4 (.unk :: (.bool s1 :: (u32 (u16 (u4 (u2 (.unk :: []))))))))))))) [.box [.int .i64 p0.kind, .str p0.name, .slice (List.map aH p0.kids) .shared]] → K4 t9 h9 := by
  intro t9 h9 hw
  refine k4 _ _ (AW.le hw ?_)
  clear hw
  refine .aK rfl h (fun hc1 h => ?_) (fun hc1 h => ?_)
  ·refine .q fun K5 k5 => ?_
   refine rg 0 ?_
   conv => whnf
   refine k5 _ _ ?_
   refine .ret ?_
   conv => whnf
   have e9 := sj h
   subst e9
   refine hQ _ _ _ (aG aJ (fun g => rfl) ?_)
   conv => whnf
  refine .skip ?_
  conv => whnf
  refine k3 _ _ ?_
  refine .q fun K6 k6 => ?_
  refine rg 0 ?_
  conv => whnf
  refine k6 _ _ ?_
  refine .q fun K7 k7 => ?_
  obtain ⟨o2, hj2, h⟩ := ob h
  have hR2 : ∀ s2 : Int, o2 = .nx s2 → ∀ t9 h9, Le 0 t9 h9 (.unk :: (.int .i64 p1 :: (.int .i64 (IntKind.wrap .i64 (p2 + 1)) :: (.ptr 0 0 :: (u2 (.unk :: (.int .i64 s2 :: (u64 (u8 (.unk :: [])))))))))) [.box [.int .i64 p0.kind, .str p0.name, .slice (List.map aH p0.kids) .shared]] → K7 t9 h9 := by
   intro s2 ho
   subst ho
   dsimp only [LR.el] at h
   intro t9 h9 hw
   refine k7 _ _ (AW.le hw ?_)
   clear hw
   refine .q fun K8 k8 => ?_
   refine .q fun K9 k9 => ?_
   obtain ⟨s3, hj3, h⟩ := ob h
   have hR3 : ∀ t9 h9, Le 0 t9 h9 (.unk :: (.int .i64 p1 :: (.int .i64 (IntKind.wrap .i64 (p2 + 1)) :: (.ptr 0 0 :: (u32 (u16 (u8 (.unk :: (.bool s3 :: (u16 (u2 (.unk :: [])))))))))))) [.box [.int .i64 p0.kind, .str p0.name, .slice (List.map aH p0.kids) .shared]] → K9 t9 h9 := by
    intro t9 h9 hw
    refine k9 _ _ (AW.le hw ?_)
    clear hw
    refine .aK rfl h (fun hc2 h => ?_) (fun hc2 h => ?_)
    ·refine .q fun K10 k10 => ?_
     refine rg 0 ?_
     conv => whnf
     refine k10 _ _ ?_
     refine .ret ?_
     conv => whnf
     have e9 := sj h
     subst e9
     refine hQ _ _ _ (aG aJ (fun g => rfl) ?_)
     conv => whnf
    refine .skip ?_
    conv => whnf
    refine k8 _ _ ?_
    refine .q fun K11 k11 => ?_
    refine .q fun K12 k12 => ?_
    refine rg 0 ?_
    conv => whnf
    refine k12 _ _ ?_
    refine .block ?_
    obtain ⟨o1, ho1, h⟩ := ob h
    have hR4 : ∀ s5 : Int, o1 = .nx s5 → ∀ t9 h9, Le 0 t9 h9 (u2 (.int .i64 s5 :: (u64 (u8 (u4 (u2 [])))))) [] → K11 t9 h9 := by
     intro s5 ho
     subst ho
     dsimp only [LR.el] at h
     intro t9 h9 hw
     refine k11 _ _ (AW.le hw ?_)
     refine .q fun K13 k13 => ?_
     refine rg 0 ?_
     conv => whnf
     refine k13 _ _ ?_
     refine .ret ?_
     conv => whnf
     have e9 := sj h
     subst e9
     refine hQ _ _ _ (aG aJ (fun g => rfl) ?_)
     conv => whnf
    refine .loopS (pI n qdd p0 p1) (fun (s4 : Int × Int) => (.unk :: (.int .i64 p1 :: (.int .i64 s4.1 :: (.ptr 0 0 :: (u4 (.int .i64 s4.2 :: (u64 (u8 []))))))))) (fun (s4 : Int × Int) => [.box [.int .i64 p0.kind, .str p0.name, .slice (List.map aH p0.kids) .shared]]) ho1 (fun _ => rfl) (li (.u (.s (.s (.s (.u4 (.s (.u16 (.u16 (.u16 (.u16 (.u8 .n)))))))))))) ?_
    intro n1 s4 hs1 KL1 hKL1
    unfold pI at hs1
    refine .q fun K14 k14 => ?_
    refine .q fun K15 k15 => ?_
    refine rg 0 ?_
    conv => whnf
    refine aQ (l := p0.kids) (f := aH) ?_
    conv => whnf
    refine k15 _ _ ?_
    refine .aK rfl hs1 (fun hc3 hs1 => ?_) (fun hc3 hs1 => ?_)
    ·refine .skip ?_
     conv => whnf
     refine k14 _ _ ?_
     refine .q fun K16 k16 => ?_
     refine .block ?_
     refine .q fun K17 k17 => ?_
     refine rg 0 ?_
     conv => whnf
     obtain ⟨x1, hx1, hs1⟩ := ob hs1
     refine aU (l := p0.kids) (f := aH) (cs := [.int .i64 ((x1).kind), .str ((x1).name), .slice (List.map aH ((x1).kids)) .shared]) hx1 (fC x1) rfl ?_
     conv => whnf
     refine ⟨(IntKind.wrap .i64 (p1 + 1)), rfl, ?_⟩
     conv => whnf
     obtain ⟨x2, hx2, hs1⟩ := ob hs1
     refine aB (qbq _ _ _ _ hx2) Zm (.cons (.same _) (.cons (.same _) (.cons (.same _) .nil))) (fun g => by simp) (fun g => rfl) ?_
     conv => whnf
     refine k17 _ _ ?_
     refine .q fun K18 k18 => ?_
     refine rg 0 ?_
     conv => whnf
     refine k18 _ _ ?_
     refine .aK rfl hs1 (fun hc4 hs1 => ?_) (fun hc4 hs1 => ?_)
     ·refine .q fun K19 k19 => ?_
      refine rg 0 ?_
      conv => whnf
      refine k19 _ _ ?_
      refine .ret ?_
      conv => whnf
      have e9 := sj hs1
      subst e9
      dsimp only [LR.el] at h
      have e9 := sj h
      subst e9
      refine hQ _ _ _ (aG aJ (fun g => rfl) ?_)
      conv => whnf
     refine .skip ?_
     conv => whnf
     refine k16 _ _ ?_
     refine .know 8 0 fun hv1 => ?_
     refine .know 64 0 fun hv2 => ?_
     refine rg 0 ?_
     conv => whnf
     refine ⟨(s4.2 + 1), by have := bY hv1; have := gI hv2; have h8 := of_decide_eq_true hc3; exact bB (by omega) (by omega), ?_⟩
     conv => whnf
     exact hKL1 _ _ _ hs1 (li (.u (.s (.s (.s (.u4 (.s (.u16 (.u16 (.u16 (.u16 (.u8 .n))))))))))))
    refine .exit ?_
    conv => whnf
    exact hR4 _ (sj hs1).symm _ _ (wk [] (.u2 (.c rfl (.u64 (.u8 (.u4 (.u2 .nil)))))) .nil rfl)
   refine rg 0 ?_
   conv => whnf
   refine aQ (l := p0.kids) (f := aH) ?_
   conv => whnf
   refine aI hj3 (fun hc5 hj3 => ?_) (fun hc5 hj3 => ?_)
   ·conv => whnf
    cases hj3
    exact e10x0 (hR3 _ _)
   conv => whnf
   refine aI hj3 (fun hc6 hj3 => ?_) (fun hc6 hj3 => ?_)
   ·conv => whnf
    obtain ⟨x3, hx3, hj3⟩ := ob hj3
    refine aB (oC _ _ _ hx3) Hg (.cons (.same _) .nil) (fun g => rfl) (fun g => rfl) ?_
    conv => whnf
    refine aI hj3 (fun hc7 hj3 => ?_) (fun hc7 hj3 => ?_)
    ·conv => whnf
     cases hj3
     exact e10x0 (hR3 _ _)
    conv => whnf
    refine aI hj3 (fun hc8 hj3 => ?_) (fun hc8 hj3 => ?_)
    ·conv => whnf
     cases hj3
     exact e10x0 (hR3 _ _)
    conv => whnf
    cases hj3
    exact e10x0 (hR3 _ _)
   conv => whnf
   refine aI hj3 (fun hc9 hj3 => ?_) (fun hc9 hj3 => ?_)
   ·conv => whnf
    cases hj3
    exact e10x0 (hR3 _ _)
   conv => whnf
   cases hj3
   exact e10x0 (hR3 _ _)
  refine .q fun K20 k20 => ?_
  refine rg 0 ?_
  conv => whnf
  refine k20 _ _ ?_
  refine .block ?_
  refine .q fun K21 k21 => ?_
  obtain ⟨s6, hj4, hj2⟩ := ob hj2
  have hR5 : ∀ t9 h9, Le 0 t9 h9 (.unk :: (.int .i64 p1 :: (.int .i64 (IntKind.wrap .i64 (p2 + 1)) :: (.ptr 0 0 :: (u2 (.unk :: (.int .i64 0 :: (u16 (u2 (.unk :: (.int .i64 p0.kind :: (.bool s6 :: (u32 (u16 (u4 []))))))))))))))) [.box [.int .i64 p0.kind, .str p0.name, .slice (List.map aH p0.kids) .shared]] → K21 t9 h9 := by
   intro t9 h9 hw
   refine k21 _ _ (AW.le hw ?_)
   clear hw
   refine .aK rfl hj2 (fun hc10 hj2 => ?_) (fun hc10 hj2 => ?_)
   ·refine .skip ?_
    conv => whnf
    exact hR2 _ (sj hj2).symm _ _ (li (.u (.s (.s (.s (.u2 (.u (.s (.u16 (.u16 (.u16 (.u16 (.u8 (.u .n))))))))))))))
   refine .q fun K22 k22 => ?_
   refine rg 0 ?_
   conv => whnf
   refine k22 _ _ ?_
   refine .aK rfl hj2 (fun hc11 hj2 => ?_) (fun hc11 hj2 => ?_)
   ·refine rg 0 ?_
    conv => whnf
    exact hR2 _ (sj hj2).symm _ _ (li (.u (.s (.s (.s (.u2 (.u (.s (.u16 (.u16 (.u16 (.u16 (.u8 (.u .n))))))))))))))
   refine .q fun K23 k23 => ?_
   refine rg 0 ?_
   conv => whnf
   refine k23 _ _ ?_
   refine .aK rfl hj2 (fun hc12 hj2 => ?_) (fun hc12 hj2 => ?_)
   ·refine rg 0 ?_
    conv => whnf
    exact hR2 _ (sj hj2).symm _ _ (li (.u (.s (.s (.s (.u2 (.u (.s (.u16 (.u16 (.u16 (.u16 (.u8 (.u .n))))))))))))))
   refine .q fun K24 k24 => ?_
   refine rg 0 ?_
   conv => whnf
   refine k24 _ _ ?_
   refine .ret ?_
   conv => whnf
   have e9 := sj hj2
   subst e9
   dsimp only [LR.el] at h
   have e9 := sj h
   subst e9
   refine hQ _ _ _ (aG aJ (fun g => rfl) ?_)
   conv => whnf
  refine .q fun K25 k25 => ?_
  refine rg 0 ?_
  conv => whnf
  refine k25 _ _ ?_
  refine .aK rfl hj4 (fun hc13 hj4 => ?_) (fun hc13 hj4 => ?_)
  ·refine .skip ?_
   conv => whnf
   cases hj4
   exact hR5 _ _ (li (.u (.s (.s (.s (.u2 (.u (.s (.u16 (.u2 (.u (.s (.s (.u16 (.u16 (.u16 (.u4 .n)))))))))))))))))
  refine .q fun K26 k26 => ?_
  refine rg 0 ?_
  conv => whnf
  refine k26 _ _ ?_
  refine .aK rfl hj4 (fun hc14 hj4 => ?_) (fun hc14 hj4 => ?_)
  ·refine .skip ?_
   conv => whnf
   cases hj4
   exact hR5 _ _ (li (.u (.s (.s (.s (.u2 (.u (.s (.u16 (.u2 (.u (.s (.s (.u16 (.u16 (.u16 (.u4 .n)))))))))))))))))
  refine rg 0 ?_
  conv => whnf
  cases hj4
  exact hR5 _ _ (li (.u (.s (.s (.s (.u2 (.u (.s (.u16 (.u2 (.u (.s (.s (.u16 (.u16 (.u16 (.u4 .n)))))))))))))))))
 refine rg 0 ?_
 conv => whnf
 refine aI hj1 (fun hc15 hj1 => ?_) (fun hc15 hj1 => ?_)
 ·conv => whnf
  cases hj1
  exact hR1 _ _ (li (.u (.s (.s (.s (.u16 (.u4 (.u (.s (.u16 (.u16 (.u16 (.u4 (.u2 (.u .n)))))))))))))))
 conv => whnf
 refine aI hj1 (fun hc16 hj1 => ?_) (fun hc16 hj1 => ?_)
 ·conv => whnf
  cases hj1
  exact hR1 _ _ (li (.u (.s (.s (.s (.u16 (.u4 (.u (.s (.u16 (.u16 (.u16 (.u4 (.u2 (.u .n)))))))))))))))
 conv => whnf
 refine aI hj1 (fun hc17 hj1 => ?_) (fun hc17 hj1 => ?_)
 ·conv => whnf
  cases hj1
  exact hR1 _ _ (li (.u (.s (.s (.s (.u16 (.u4 (.u (.s (.u16 (.u16 (.u16 (.u4 (.u2 (.u .n)))))))))))))))
 conv => whnf
 cases hj1
 exact hR1 _ _ (li (.u (.s (.s (.s (.u16 (.u4 (.u (.s (.u16 (.u16 (.u16 (.u4 (.u2 (.u .n)))))))))))))))
theorem Xh (n : Nat) : qaz (mQ n) := by
 induction n with
 | zero => exact (fun p0 p1 p2 r h => by unfold mQ at h; cases h)
 | succ n ih =>
  exact (fun p0 p1 p2 r h => Mt n _ ih p0 p1 p2 r (by unfold mQ at h; exact h))
theorem YR (n : Nat) : qaz (mQ n) := (Xh n)
theorem Cn (n : Nat) (p0 : Ty) (r : Bool) (h : eB n p0 = some r) : aA Tryz.prog 47 [.agg [.int .i64 p0.kind, .str p0.name, .slice (List.map aH p0.kids) .shared]] [] (.bool r) [] := by
 unfold eB at h
 refine aC true Tryz.func47 rfl (by rw [Tryz.ntmps47]; exact Nat.le_of_ble_eq_true rfl) fun Q hQ t ht => ?_
 conv at ht => whnf
 subst ht
 refine .q fun K1 k1 => ?_
 refine rg 1 ?_
 conv => whnf
 refine k1 _ _ ?_
 refine .q fun K2 k2 => ?_
 refine rg 0 ?_
 conv => whnf
 obtain ⟨x1, hx1, h⟩ := ob h
 refine aB (YR _ _ _ _ _ hx1) Zm (.cons (.same _) (.cons (.same _) (.cons (.same _) .nil))) (fun g => by simp) (fun g => rfl) ?_
 conv => whnf
 refine k2 _ _ ?_
 refine .ret ?_
 conv => whnf
 have e9 := sj h
 subst e9
 refine hQ _ _ _ (aG aJ (fun g => rfl) ?_)
 conv => whnf
abbrev qa4 (qdi : Ty → Option Bool) : Prop := ∀ (p0 : Ty) (r : Bool), qdi p0 = some r → aA Tryz.prog 100 [.agg [.int .i64 p0.kind, .str p0.name, .slice (List.map aH p0.kids) .shared]] [] (.bool r) []
theorem E5 (n : Nat) (qdi : Ty → Option Bool) (qbs : qa4 qdi) (p0 : Ty) (r : Bool) (h : mY n qdi p0 = some r) : aA Tryz.prog 100 [.agg [.int .i64 p0.kind, .str p0.name, .slice (List.map aH p0.kids) .shared]] [] (.bool r) [] := by
 unfold mY at h
 refine aC true Tryz.func100 rfl (by rw [Tryz.ntmps100]; exact Nat.le_of_ble_eq_true rfl) fun Q hQ t ht => ?_
 conv at ht => whnf
 subst ht
 refine .q fun K1 k1 => ?_
 refine rg 1 ?_
 conv => whnf
 refine k1 _ _ ?_
 refine .q fun K2 k2 => ?_
 refine .q fun K3 k3 => ?_
 refine rg 0 ?_
 conv => whnf
 refine k3 _ _ ?_
 refine .aK rfl h (fun hc1 h => ?_) (fun hc1 h => ?_)
 ·refine .q fun K4 k4 => ?_
  refine rg 0 ?_
  conv => whnf
  refine k4 _ _ ?_
  refine .ret ?_
  conv => whnf
  have e9 := sj h
  subst e9
  refine hQ _ _ _ (aG aJ (fun g => rfl) ?_)
  conv => whnf
 refine .skip ?_
 conv => whnf
 refine k2 _ _ ?_
 refine .q fun K5 k5 => ?_
 refine .q fun K6 k6 => ?_
 refine rg 0 ?_
 conv => whnf
 refine k6 _ _ ?_
 refine .block ?_
 obtain ⟨o1, ho1, h⟩ := ob h
 have hR1 : ∀ s2 : Unit, o1 = .nx s2 → ∀ t9 h9, Le 0 t9 h9 (u16 (u4 [])) [] → K5 t9 h9 := by
  intro s2 ho
  subst ho
  dsimp only [LR.el] at h
  intro t9 h9 hw
  refine k5 _ _ (AW.le hw ?_)
  refine .q fun K7 k7 => ?_
  refine rg 0 ?_
  conv => whnf
  refine k7 _ _ ?_
  refine .ret ?_
  conv => whnf
  have e9 := sj h
  subst e9
  refine hQ _ _ _ (aG aJ (fun g => rfl) ?_)
  conv => whnf
 refine .loopS (oV n qdi p0) (fun (s1 : Int) => (.unk :: (.ptr 0 0 :: (.unk :: (.int .i64 s1 :: (u16 [])))))) (fun (s1 : Int) => [.box [.int .i64 p0.kind, .str p0.name, .slice (List.map aH p0.kids) .shared]]) ho1 (fun _ => rfl) (li (.u (.s (.u (.s (.u16 .n)))))) ?_
 intro n1 s1 hs1 KL1 hKL1
 unfold oV at hs1
 refine .q fun K8 k8 => ?_
 refine .q fun K9 k9 => ?_
 refine rg 0 ?_
 conv => whnf
 refine aQ (l := p0.kids) (f := aH) ?_
 conv => whnf
 refine k9 _ _ ?_
 refine .aK rfl hs1 (fun hc2 hs1 => ?_) (fun hc2 hs1 => ?_)
 ·refine .skip ?_
  conv => whnf
  refine k8 _ _ ?_
  refine .q fun K10 k10 => ?_
  refine .block ?_
  refine .q fun K11 k11 => ?_
  refine rg 0 ?_
  conv => whnf
  obtain ⟨x1, hx1, hs1⟩ := ob hs1
  refine aU (l := p0.kids) (f := aH) (cs := [.int .i64 ((x1).kind), .str ((x1).name), .slice (List.map aH ((x1).kids)) .shared]) hx1 (fC x1) rfl ?_
  conv => whnf
  obtain ⟨x2, hx2, hs1⟩ := ob hs1
  refine aB (qbs _ _ hx2) Y5 (.cons (.same _) .nil) (fun g => by simp) (fun g => rfl) ?_
  conv => whnf
  refine k11 _ _ ?_
  refine .aK rfl hs1 (fun hc3 hs1 => ?_) (fun hc3 hs1 => ?_)
  ·refine .q fun K12 k12 => ?_
   refine rg 0 ?_
   conv => whnf
   refine k12 _ _ ?_
   refine .ret ?_
   conv => whnf
   have e9 := sj hs1
   subst e9
   dsimp only [LR.el] at h
   have e9 := sj h
   subst e9
   refine hQ _ _ _ (aG aJ (fun g => rfl) ?_)
   conv => whnf
  refine .skip ?_
  conv => whnf
  refine k10 _ _ ?_
  refine .know 3 0 fun hv1 => ?_
  refine .know 9 0 fun hv2 => ?_
  refine rg 0 ?_
  conv => whnf
  refine ⟨(s1 + 1), by have := bY hv1; have := gI hv2; have h8 := of_decide_eq_true hc2; exact bB (by omega) (by omega), ?_⟩
  conv => whnf
  exact hKL1 _ _ _ hs1 (li (.u (.s (.u (.s (.u16 .n))))))
 refine .exit ?_
 conv => whnf
 exact hR1 _ (sj hs1).symm _ _ (wk [] (.u16 (.u4 .nil)) .nil rfl)
theorem LD (n : Nat) : qa4 (gW n) := by
 induction n with
 | zero => exact (fun p0 r h => by unfold gW at h; cases h)
 | succ n ih =>
  exact (fun p0 r h => E5 n _ ih p0 r (by unfold gW at h; exact h))
theorem NC (n : Nat) : qa4 (gW n) := (LD n)
abbrev qa2 (qdg : Ty → Option (List Str)) : Prop := ∀ (p0 : Ty) (r : List Str), qdg p0 = some r → aA Tryz.prog 104 [.agg [.int .i64 p0.kind, .str p0.name, .slice (List.map aH p0.kids) .shared]] [] (.slice (List.map encS r) .shared) []
theorem Gp (n : Nat) (qdg : Ty → Option (List Str)) (qbr : qa2 qdg) (p0 : Ty) (r : List Str) (h : nZ n qdg p0 = some r) : aA Tryz.prog 104 [.agg [.int .i64 p0.kind, .str p0.name, .slice (List.map aH p0.kids) .shared]] [] (.slice (List.map encS r) .shared) [] := by
 unfold nZ at h
 refine aC true Tryz.func104 rfl (by rw [Tryz.ntmps104]; exact Nat.le_of_ble_eq_true rfl) fun Q hQ t ht => ?_
 conv at ht => whnf
 subst ht
 refine .q fun K1 k1 => ?_
 refine rg 1 ?_
 conv => whnf
 refine k1 _ _ ?_
 refine .q fun K2 k2 => ?_
 refine .q fun K3 k3 => ?_
 refine rg 0 ?_
 conv => whnf
 refine k3 _ _ ?_
 refine .aK rfl h (fun hc1 h => ?_) (fun hc1 h => ?_)
 ·refine .q fun K4 k4 => ?_
  refine rg 1 ?_
  conv => whnf
  refine ⟨List.map encS ([p0.name]), rfl, ?_⟩
  conv => whnf
  refine k4 _ _ ?_
  refine .ret ?_
  conv => whnf
  have e9 := sj h
  subst e9
  refine hQ _ _ _ (aG aJ (fun g => by simp) ?_)
  conv => whnf
  try rfl
 refine .skip ?_
 conv => whnf
 refine k2 _ _ ?_
 refine .q fun K5 k5 => ?_
 refine rg 0 ?_
 conv => whnf
 refine k5 _ _ ?_
 refine .q fun K6 k6 => ?_
 refine .q fun K7 k7 => ?_
 refine rg 0 ?_
 conv => whnf
 refine k7 _ _ ?_
 refine .block ?_
 obtain ⟨o1, ho1, h⟩ := ob h
 have hR1 : ∀ s2 : List Str, o1 = .nx s2 → ∀ t9 h9, Le 0 t9 h9 (u2 (.unk :: (.slice (List.map encS s2) (.tip 0 1) :: (u16 (u4 (u2 (.unk :: []))))))) [.tip (List.length s2 * 1)] → K6 t9 h9 := by
  intro s2 ho
  subst ho
  dsimp only [LR.el] at h
  intro t9 h9 hw
  refine k6 _ _ (AW.le hw ?_)
  refine .q fun K8 k8 => ?_
  refine rg 0 ?_
  conv => whnf
  refine k8 _ _ ?_
  refine .ret ?_
  conv => whnf
  have e9 := sj h
  subst e9
  refine hQ _ _ _ (aG aJ (fun g => by simp) ?_)
  conv => whnf
  try rfl
 refine .loopS (qU n qdg p0) (fun (s1 : (List Str) × Int) => (.unk :: (.ptr 0 0 :: (.unk :: (.slice (List.map encS s1.1) (.tip 1 1) :: (.int .i64 s1.2 :: (u16 (u4 (u2 []))))))))) (fun (s1 : (List Str) × Int) => [.box [.int .i64 p0.kind, .str p0.name, .slice (List.map aH p0.kids) .shared], .tip (List.length s1.1 * 1)]) ho1 (fun _ => rfl) (wk [some 0, none] (.u (.c rfl (.u (.cons (.nils _ _) (.c rfl (.u16 (.u4 (.u2 .nil)))))))) (.b rfl (.c rfl (.c rfl (.e bf .nil))) (.w rfl .nil)) rfl) ?_
 intro n1 s1 hs1 KL1 hKL1
 unfold qU at hs1
 refine .q fun K9 k9 => ?_
 refine .q fun K10 k10 => ?_
 refine rg 0 ?_
 conv => whnf
 refine aQ (l := p0.kids) (f := aH) ?_
 conv => whnf
 refine k10 _ _ ?_
 refine .aK rfl hs1 (fun hc2 hs1 => ?_) (fun hc2 hs1 => ?_)
 ·refine .skip ?_
  conv => whnf
  refine k9 _ _ ?_
  refine .q fun K11 k11 => ?_
  refine .block ?_
  refine rg 1 ?_
  conv => whnf
  obtain ⟨x1, hx1, hs1⟩ := ob hs1
  refine aU (l := p0.kids) (f := aH) (cs := [.int .i64 ((x1).kind), .str ((x1).name), .slice (List.map aH ((x1).kids)) .shared]) hx1 (fC x1) rfl ?_
  conv => whnf
  obtain ⟨x2, hx2, hs1⟩ := ob hs1
  refine aB (qbr _ _ hx2) Zd (.cons (.same _) .nil) (fun g => by simp) (fun g => by simp) ?_
  conv => whnf
  obtain ⟨x3, hx3, hs1⟩ := ob hs1
  refine gq (l := s1.1) (ys := x2) (f := encS) hx3 Dj rfl rfl rfl ?_
  conv => whnf
  refine k11 _ _ ?_
  refine .know 4 0 fun hv1 => ?_
  refine .know 13 0 fun hv2 => ?_
  refine rg 0 ?_
  conv => whnf
  refine ⟨(s1.2 + 1), by have := bY hv1; have := gI hv2; have h8 := of_decide_eq_true hc2; exact bB (by omega) (by omega), ?_⟩
  conv => whnf
  exact hKL1 _ _ _ hs1 (wk [some 0, some 2] (.u (.c rfl (.u (.cons (.dz (bE _ _) rfl) (.c rfl (.u16 (.u4 (.u2 .nil)))))))) (.b rfl (.c rfl (.c rfl (.e bf .nil))) (.t rfl .nil)) rfl)
 refine .exit ?_
 conv => whnf
 exact hR1 _ (sj hs1).symm _ _ (wk [some 1] (.u2 (.u (.cons (.dz (bE _ _) rfl) (.u16 (.u4 (.u2 (.u .nil))))))) (.t rfl .nil) rfl)
theorem MZ (n : Nat) : qa2 (jX n) := by
 induction n with
 | zero => exact (fun p0 r h => by unfold jX at h; cases h)
 | succ n ih =>
  exact (fun p0 r h => Gp n _ ih p0 r (by unfold jX at h; exact h))
theorem Py (n : Nat) : qa2 (jX n) := (MZ n)
theorem vE (n : Nat) (p0 : Env) (p1 : Str) (r : Int) (h : fD n p0 p1 = some r) : aA Tryz.prog 68 [.agg [.slice (List.map aj p0.carriers) .shared, .slice (List.map ak p0.names) .shared], .str p1] [] (.int .i64 r) [] := by
 unfold fD at h
 refine aC true Tryz.func68 rfl (by rw [Tryz.ntmps68]; exact Nat.le_of_ble_eq_true rfl) fun Q hQ t ht => ?_
 conv at ht => whnf
 subst ht
 refine .q fun K1 k1 => ?_
 refine rg 1 ?_
 conv => whnf
 refine k1 _ _ ?_
 refine .q fun K2 k2 => ?_
 refine .q fun K3 k3 => ?_
 refine rg 0 ?_
 conv => whnf
 refine k3 _ _ ?_
 refine .block ?_
 obtain ⟨o1, ho1, h⟩ := ob h
 have hR1 : ∀ s2 : Unit, o1 = .nx s2 → ∀ t9 h9, Le 0 t9 h9 (u16 (u4 (u2 []))) [] → K2 t9 h9 := by
  intro s2 ho
  subst ho
  dsimp only [LR.el] at h
  intro t9 h9 hw
  refine k2 _ _ (AW.le hw ?_)
  refine .q fun K4 k4 => ?_
  refine rg 0 ?_
  conv => whnf
  refine k4 _ _ ?_
  refine .ret ?_
  conv => whnf
  have e9 := sj h
  subst e9
  refine hQ _ _ _ (aG aJ (fun g => rfl) ?_)
  conv => whnf
 refine .loopS (mX n p0 p1) (fun (s1 : Int) => (.unk :: (.str p1 :: (.ptr 0 0 :: (u2 (.int .i64 s1 :: (u16 []))))))) (fun (s1 : Int) => [.box [.slice (List.map aj p0.carriers) .shared, .slice (List.map ak p0.names) .shared]]) ho1 (fun _ => rfl) (li (.u (.s (.s (.u2 (.s (.u16 .n))))))) ?_
 intro n1 s1 hs1 KL1 hKL1
 unfold mX at hs1
 refine .q fun K5 k5 => ?_
 refine .q fun K6 k6 => ?_
 refine rg 0 ?_
 conv => whnf
 refine aQ (l := p0.carriers) (f := aj) ?_
 conv => whnf
 refine k6 _ _ ?_
 refine .aK rfl hs1 (fun hc1 hs1 => ?_) (fun hc1 hs1 => ?_)
 ·refine .skip ?_
  conv => whnf
  refine k5 _ _ ?_
  refine .q fun K7 k7 => ?_
  refine .block ?_
  refine .q fun K8 k8 => ?_
  refine rg 0 ?_
  conv => whnf
  obtain ⟨x1, hx1, hs1⟩ := ob hs1
  refine aU (l := p0.carriers) (f := aj) (cs := [.str ((x1).name), .slice (List.map encS ((x1).elems)) .shared]) hx1 (rfl) rfl ?_
  conv => whnf
  refine k8 _ _ ?_
  refine .aK rfl hs1 (fun hc2 hs1 => ?_) (fun hc2 hs1 => ?_)
  ·refine .q fun K9 k9 => ?_
   refine rg 0 ?_
   conv => whnf
   refine k9 _ _ ?_
   refine .ret ?_
   conv => whnf
   have e9 := sj hs1
   subst e9
   dsimp only [LR.el] at h
   have e9 := sj h
   subst e9
   refine hQ _ _ _ (aG aJ (fun g => rfl) ?_)
   conv => whnf
  refine .skip ?_
  conv => whnf
  refine k7 _ _ ?_
  refine .know 5 0 fun hv1 => ?_
  refine .know 8 0 fun hv2 => ?_
  refine rg 0 ?_
  conv => whnf
  refine ⟨(s1 + 1), by have := bY hv1; have := gI hv2; have h8 := of_decide_eq_true hc1; exact bB (by omega) (by omega), ?_⟩
  conv => whnf
  exact hKL1 _ _ _ hs1 (li (.u (.s (.s (.u2 (.s (.u16 .n)))))))
 refine .exit ?_
 conv => whnf
 exact hR1 _ (sj hs1).symm _ _ (wk [] (.u16 (.u4 (.u2 .nil))) .nil rfl)
theorem Ke (n : Nat) (p0 : Env) (p1 : Ty) (r : Bool) (h : pV n p0 p1 = some r) : aA Tryz.prog 48 [.agg [.slice (List.map aj p0.carriers) .shared, .slice (List.map ak p0.names) .shared], .agg [.int .i64 p1.kind, .str p1.name, .slice (List.map aH p1.kids) .shared]] [] (.bool r) [] := by
 unfold pV at h
 refine aC true Tryz.func48 rfl (by rw [Tryz.ntmps48]; exact Nat.le_of_ble_eq_true rfl) fun Q hQ t ht => ?_
 conv at ht => whnf
 subst ht
 refine .q fun K1 k1 => ?_
 refine rg 2 ?_
 conv => whnf
 refine k1 _ _ ?_
 refine .q fun K2 k2 => ?_
 refine rg 0 ?_
 conv => whnf
 obtain ⟨x1, hx1, h⟩ := ob h
 refine aB (Py _ _ _ hx1) Zd (.cons (.same _) .nil) (fun g => by simp) (fun g => by simp) ?_
 conv => whnf
 refine k2 _ _ ?_
 refine .q fun K3 k3 => ?_
 refine .q fun K4 k4 => ?_
 refine rg 0 ?_
 conv => whnf
 refine k4 _ _ ?_
 refine .block ?_
 obtain ⟨o1, ho1, h⟩ := ob h
 have hR1 : ∀ s2 : Unit, o1 = .nx s2 → ∀ t9 h9, Le 0 t9 h9 (u16 (u4 (u2 []))) [] → K3 t9 h9 := by
  intro s2 ho
  subst ho
  dsimp only [LR.el] at h
  intro t9 h9 hw
  refine k3 _ _ (AW.le hw ?_)
  refine .q fun K5 k5 => ?_
  refine rg 0 ?_
  conv => whnf
  refine k5 _ _ ?_
  refine .ret ?_
  conv => whnf
  have e9 := sj h
  subst e9
  refine hQ _ _ _ (aG aJ (fun g => rfl) ?_)
  conv => whnf
 refine .loopS (vW n p0 x1) (fun (s1 : Int) => (u2 (.ptr 0 0 :: (u2 (.slice (List.map encS x1) .shared :: (.int .i64 s1 :: (u8 (u4 (u2 (.unk :: [])))))))))) (fun (s1 : Int) => [.box [.slice (List.map aj p0.carriers) .shared, .slice (List.map ak p0.names) .shared]]) ho1 (fun _ => rfl) (wk [some 0] (.u2 (.c rfl (.u2 (.e bE (.c rfl (.u8 (.u4 (.u2 (.u .nil))))))))) (.b rfl (.e au (.e aF .nil)) .nil) rfl) ?_
 intro n1 s1 hs1 KL1 hKL1
 unfold vW at hs1
 refine .q fun K6 k6 => ?_
 refine .q fun K7 k7 => ?_
 refine rg 0 ?_
 conv => whnf
 refine aQ (l := x1) (f := encS) ?_
 conv => whnf
 refine k7 _ _ ?_
 refine .aK rfl hs1 (fun hc1 hs1 => ?_) (fun hc1 hs1 => ?_)
 ·refine .skip ?_
  conv => whnf
  refine k6 _ _ ?_
  refine .q fun K8 k8 => ?_
  refine .block ?_
  refine .q fun K9 k9 => ?_
  refine rg 0 ?_
  conv => whnf
  obtain ⟨x2, hx2, hs1⟩ := ob hs1
  refine aU (l := x1) (f := encS) (cs := [.str (x2)]) hx2 (rfl) rfl ?_
  conv => whnf
  obtain ⟨x3, hx3, hs1⟩ := ob hs1
  refine aB (vE _ _ _ _ hx3) VA (.cons (.same _) (.cons (.same _) .nil)) (fun g => by simp) (fun g => rfl) ?_
  conv => whnf
  refine ⟨by kernel_rfl, ?_⟩
  conv => whnf
  refine k9 _ _ ?_
  refine .aK rfl hs1 (fun hc2 hs1 => ?_) (fun hc2 hs1 => ?_)
  ·refine .q fun K10 k10 => ?_
   refine rg 0 ?_
   conv => whnf
   refine k10 _ _ ?_
   refine .ret ?_
   conv => whnf
   have e9 := sj hs1
   subst e9
   dsimp only [LR.el] at h
   have e9 := sj h
   subst e9
   refine hQ _ _ _ (aG aJ (fun g => rfl) ?_)
   conv => whnf
  refine .skip ?_
  conv => whnf
  refine k8 _ _ ?_
  refine .know 6 0 fun hv1 => ?_
  refine .know 5 0 fun hv2 => ?_
  refine rg 0 ?_
  conv => whnf
  refine ⟨(s1 + 1), by have := bY hv1; have := gI hv2; have h8 := of_decide_eq_true hc1; exact bB (by omega) (by omega), ?_⟩
  conv => whnf
  exact hKL1 _ _ _ hs1 (li (.u2 (.s (.u2 (.s (.s (.u8 (.u4 (.u2 (.u .n))))))))))
 refine .exit ?_
 conv => whnf
 exact hR1 _ (sj hs1).symm _ _ (wk [] (.u16 (.u4 (.u2 .nil))) .nil rfl)
end Abs
end Go.Proofs.YtkopaeklihhdlaaGreat
