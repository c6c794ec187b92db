/-
  Contracts of Go functions (printed). Conditions: none.
-/
import Derived.KernelRfl
import Derived.Test.YtkopaeklihhdlaaGreatCEDoxca9dbf
set_option linter.unusedSimpArgs false
set_option linter.unusedVariables false
namespace Go.Proofs.YtkopaeklihhdlaaGreat
namespace Abs
open Go Go.Proofs
set_option maxRecDepth 100000
set_option maxHeartbeats 40000000
theorem e1x0 {p q : Prop} (f : p → q) (h : p := by exact li (.u4 (.s (.u16 (.u4 (.u .n)))))) : q := f h
theorem Dp (n : Nat) (p0 : Env) (r : Bool) (h : uh n p0 = some r) : aA Tryz.prog 9 [.agg [.slice (List.map aj p0.carriers) .shared, .slice (List.map ak p0.names) .shared]] [] (.bool r) [] := by
 unfold uh at h
 refine aC true Tryz.func9 rfl (by rw [Tryz.ntmps9]; exact Nat.le_of_ble_eq_true rfl) fun Q hQ t ht => ?_
 conv at ht => whnf
 subst ht
 refine .q fun K1 k1 => ?_
 refine rg 1 ?_
 conv => whnf
 refine k1 _ _ ?_
 refine .q fun K2 k2 => ?_
 obtain ⟨s1, hj1, h⟩ := ob h
 have hR1 : ∀ t9 h9, Le 0 t9 h9 (u2 (.bool s1 :: (u8 (u2 [])))) [] → K2 t9 h9 := by
  intro t9 h9 hw
  refine k2 _ _ (AW.le hw ?_)
  clear hw
  refine .ret ?_
  conv => whnf
  have e9 := sj h
  subst e9
  refine hQ _ _ _ (aG aJ (fun g => rfl) ?_)
  conv => whnf
 refine rg 0 ?_
 conv => whnf
 refine aQ (l := p0.carriers) (f := aj) ?_
 conv => whnf
 refine aI hj1 (fun hc1 hj1 => ?_) (fun hc1 hj1 => ?_)
 ·conv => whnf
  refine aQ (l := p0.names) (f := ak) ?_
  conv => whnf
  cases hj1
  exact hR1 _ _ (wk [] (.u2 (.c rfl (.u8 (.u2 .nil)))) .nil rfl)
 conv => whnf
 cases hj1
 exact hR1 _ _ (wk [] (.u2 (.c rfl (.u8 (.u2 .nil)))) .nil rfl)
theorem Ed (n : Nat) (p0 : Int) (r : Bool) (h : sK n p0 = some r) : aA Tryz.prog 150 [.int .u8 p0] [] (.bool r) [] := by
 unfold sK at h
 refine aC true Tryz.func150 rfl (by rw [Tryz.ntmps150]; exact Nat.le_of_ble_eq_true rfl) fun Q hQ t ht => ?_
 conv at ht => whnf
 subst ht
 refine .q fun K1 k1 => ?_
 refine rg 0 ?_
 conv => whnf
 refine k1 _ _ ?_
 refine .q fun K2 k2 => ?_
 obtain ⟨s1, hj1, h⟩ := ob h
 have hR1 : ∀ t9 h9, Le 0 t9 h9 (u2 (.bool s1 :: (u8 (u4 (u2 []))))) [] → K2 t9 h9 := by
  intro t9 h9 hw
  refine k2 _ _ (AW.le hw ?_)
  clear hw
  refine .ret ?_
  conv => whnf
  have e9 := sj h
  subst e9
  refine hQ _ _ _ (aG aJ (fun g => rfl) ?_)
  conv => whnf
 refine rg 0 ?_
 conv => whnf
 refine aI hj1 (fun hc1 hj1 => ?_) (fun hc1 hj1 => ?_)
 ·conv => whnf
  refine aI hj1 (fun hc2 hj1 => ?_) (fun hc2 hj1 => ?_)
  ·conv => whnf
   cases hj1
   exact hR1 _ _ (li (.u2 (.s (.u8 (.u4 (.u2 .n))))))
  conv => whnf
  refine aI hj1 (fun hc3 hj1 => ?_) (fun hc3 hj1 => ?_)
  ·conv => whnf
   cases hj1
   exact hR1 _ _ (li (.u2 (.s (.u8 (.u4 (.u2 .n))))))
  conv => whnf
  cases hj1
  exact hR1 _ _ (li (.u2 (.s (.u8 (.u4 (.u2 .n))))))
 conv => whnf
 refine aI hj1 (fun hc4 hj1 => ?_) (fun hc4 hj1 => ?_)
 ·conv => whnf
  cases hj1
  exact hR1 _ _ (li (.u2 (.s (.u8 (.u4 (.u2 .n))))))
 conv => whnf
 cases hj1
 exact hR1 _ _ (li (.u2 (.s (.u8 (.u4 (.u2 .n))))))
theorem M4 (n : Nat) (p0 : Str) (r : Bool) (h : tN n p0 = some r) : aA Tryz.prog 151 [.str p0] [] (.bool r) [] := by
 unfold tN at h
 refine aC true Tryz.func151 rfl (by rw [Tryz.ntmps151]; exact Nat.le_of_ble_eq_true rfl) fun Q hQ t ht => ?_
 conv at ht => whnf
 subst ht
 refine .q fun K1 k1 => ?_
 refine rg 0 ?_
 conv => whnf
 refine k1 _ _ ?_
 refine .q fun K2 k2 => ?_
 refine .q fun K3 k3 => ?_
 refine rg 0 ?_
 conv => whnf
 refine k3 _ _ ?_
 refine .block ?_
 refine .q fun K4 k4 => ?_
 obtain ⟨s1, hj1, h⟩ := ob h
 have hR1 : ∀ t9 h9, Le 0 t9 h9 (u4 (.bool s1 :: (u16 (u4 (.unk :: []))))) [] → K4 t9 h9 := by
  intro t9 h9 hw
  refine k4 _ _ (AW.le hw ?_)
  clear hw
  refine .aK rfl h (fun hc1 h => ?_) (fun hc1 h => ?_)
  ·refine .q fun K5 k5 => ?_
   refine rg 0 ?_
   conv => whnf
   refine k5 _ _ ?_
   refine .ret ?_
   conv => whnf
   have e9 := sj h
   subst e9
   refine hQ _ _ _ (aG aJ (fun g => rfl) ?_)
   conv => whnf
  refine .skip ?_
  conv => whnf
  refine k2 _ _ ?_
  refine .q fun K6 k6 => ?_
  refine rg 0 ?_
  conv => whnf
  refine k6 _ _ ?_
  refine .ret ?_
  conv => whnf
  have e9 := sj h
  subst e9
  refine hQ _ _ _ (aG aJ (fun g => rfl) ?_)
  conv => whnf
 refine .q fun K7 k7 => ?_
 refine rg 0 ?_
 conv => whnf
 refine k7 _ _ ?_
 refine .aK rfl hj1 (fun hc2 hj1 => ?_) (fun hc2 hj1 => ?_)
 ·refine .skip ?_
  conv => whnf
  cases hj1
  exact e1x0 (hR1 _ _)
 refine .q fun K8 k8 => ?_
 refine rg 0 ?_
 conv => whnf
 refine k8 _ _ ?_
 refine .aK rfl hj1 (fun hc3 hj1 => ?_) (fun hc3 hj1 => ?_)
 ·refine .skip ?_
  conv => whnf
  cases hj1
  exact e1x0 (hR1 _ _)
 refine .q fun K9 k9 => ?_
 refine rg 0 ?_
 conv => whnf
 refine k9 _ _ ?_
 refine .aK rfl hj1 (fun hc4 hj1 => ?_) (fun hc4 hj1 => ?_)
 ·refine .skip ?_
  conv => whnf
  cases hj1
  exact e1x0 (hR1 _ _)
 refine .q fun K10 k10 => ?_
 refine rg 0 ?_
 conv => whnf
 refine k10 _ _ ?_
 refine .aK rfl hj1 (fun hc5 hj1 => ?_) (fun hc5 hj1 => ?_)
 ·refine .skip ?_
  conv => whnf
  cases hj1
  exact e1x0 (hR1 _ _)
 refine .q fun K11 k11 => ?_
 refine rg 0 ?_
 conv => whnf
 refine k11 _ _ ?_
 refine .aK rfl hj1 (fun hc6 hj1 => ?_) (fun hc6 hj1 => ?_)
 ·refine .skip ?_
  conv => whnf
  cases hj1
  exact e1x0 (hR1 _ _)
 refine .q fun K12 k12 => ?_
 refine rg 0 ?_
 conv => whnf
 refine k12 _ _ ?_
 refine .aK rfl hj1 (fun hc7 hj1 => ?_) (fun hc7 hj1 => ?_)
 ·refine .skip ?_
  conv => whnf
  cases hj1
  exact e1x0 (hR1 _ _)
 refine .q fun K13 k13 => ?_
 refine rg 0 ?_
 conv => whnf
 refine k13 _ _ ?_
 refine .aK rfl hj1 (fun hc8 hj1 => ?_) (fun hc8 hj1 => ?_)
 ·refine .skip ?_
  conv => whnf
  cases hj1
  exact e1x0 (hR1 _ _)
 refine .q fun K14 k14 => ?_
 refine rg 0 ?_
 conv => whnf
 refine k14 _ _ ?_
 refine .aK rfl hj1 (fun hc9 hj1 => ?_) (fun hc9 hj1 => ?_)
 ·refine .skip ?_
  conv => whnf
  cases hj1
  exact e1x0 (hR1 _ _)
 refine .q fun K15 k15 => ?_
 refine rg 0 ?_
 conv => whnf
 refine k15 _ _ ?_
 refine .aK rfl hj1 (fun hc10 hj1 => ?_) (fun hc10 hj1 => ?_)
 ·refine .skip ?_
  conv => whnf
  cases hj1
  exact e1x0 (hR1 _ _)
 refine .q fun K16 k16 => ?_
 refine rg 0 ?_
 conv => whnf
 refine k16 _ _ ?_
 refine .aK rfl hj1 (fun hc11 hj1 => ?_) (fun hc11 hj1 => ?_)
 ·refine .skip ?_
  conv => whnf
  cases hj1
  exact e1x0 (hR1 _ _)
 refine .q fun K17 k17 => ?_
 refine rg 0 ?_
 conv => whnf
 refine k17 _ _ ?_
 refine .aK rfl hj1 (fun hc12 hj1 => ?_) (fun hc12 hj1 => ?_)
 ·refine .skip ?_
  conv => whnf
  cases hj1
  exact e1x0 (hR1 _ _)
 refine .q fun K18 k18 => ?_
 refine rg 0 ?_
 conv => whnf
 refine k18 _ _ ?_
 refine .aK rfl hj1 (fun hc13 hj1 => ?_) (fun hc13 hj1 => ?_)
 ·refine .skip ?_
  conv => whnf
  cases hj1
  exact e1x0 (hR1 _ _)
 refine .q fun K19 k19 => ?_
 refine rg 0 ?_
 conv => whnf
 refine k19 _ _ ?_
 refine .aK rfl hj1 (fun hc14 hj1 => ?_) (fun hc14 hj1 => ?_)
 ·refine .skip ?_
  conv => whnf
  cases hj1
  exact e1x0 (hR1 _ _)
 refine .q fun K20 k20 => ?_
 refine rg 0 ?_
 conv => whnf
 refine k20 _ _ ?_
 refine .aK rfl hj1 (fun hc15 hj1 => ?_) (fun hc15 hj1 => ?_)
 ·refine .skip ?_
  conv => whnf
  cases hj1
  exact e1x0 (hR1 _ _)
 refine .q fun K21 k21 => ?_
 refine rg 0 ?_
 conv => whnf
 refine k21 _ _ ?_
 refine .aK rfl hj1 (fun hc16 hj1 => ?_) (fun hc16 hj1 => ?_)
 ·refine .skip ?_
  conv => whnf
  cases hj1
  exact e1x0 (hR1 _ _)
 refine .q fun K22 k22 => ?_
 refine rg 0 ?_
 conv => whnf
 refine k22 _ _ ?_
 refine .aK rfl hj1 (fun hc17 hj1 => ?_) (fun hc17 hj1 => ?_)
 ·refine .skip ?_
  conv => whnf
  cases hj1
  exact e1x0 (hR1 _ _)
 refine .q fun K23 k23 => ?_
 refine rg 0 ?_
 conv => whnf
 refine k23 _ _ ?_
 refine .aK rfl hj1 (fun hc18 hj1 => ?_) (fun hc18 hj1 => ?_)
 ·refine .skip ?_
  conv => whnf
  cases hj1
  exact e1x0 (hR1 _ _)
 refine .q fun K24 k24 => ?_
 refine rg 0 ?_
 conv => whnf
 refine k24 _ _ ?_
 refine .aK rfl hj1 (fun hc19 hj1 => ?_) (fun hc19 hj1 => ?_)
 ·refine .skip ?_
  conv => whnf
  cases hj1
  exact e1x0 (hR1 _ _)
 refine .q fun K25 k25 => ?_
 refine rg 0 ?_
 conv => whnf
 refine k25 _ _ ?_
 refine .aK rfl hj1 (fun hc20 hj1 => ?_) (fun hc20 hj1 => ?_)
 ·refine .skip ?_
  conv => whnf
  cases hj1
  exact e1x0 (hR1 _ _)
 refine .q fun K26 k26 => ?_
 refine rg 0 ?_
 conv => whnf
 refine k26 _ _ ?_
 refine .aK rfl hj1 (fun hc21 hj1 => ?_) (fun hc21 hj1 => ?_)
 ·refine .skip ?_
  conv => whnf
  cases hj1
  exact e1x0 (hR1 _ _)
 refine rg 0 ?_
 conv => whnf
 cases hj1
 exact e1x0 (hR1 _ _)
theorem TM (n : Nat) (p0 : Int) (r : Bool) (h : xI n p0 = some r) : aA Tryz.prog 203 [.int .u8 p0] [] (.bool r) [] := by
 unfold xI at h
 refine aC true Tryz.func203 rfl (by rw [Tryz.ntmps203]; exact Nat.le_of_ble_eq_true rfl) fun Q hQ t ht => ?_
 conv at ht => whnf
 subst ht
 refine .q fun K1 k1 => ?_
 refine rg 0 ?_
 conv => whnf
 refine k1 _ _ ?_
 refine .q fun K2 k2 => ?_
 obtain ⟨s1, hj1, h⟩ := ob h
 have hR1 : ∀ t9 h9, Le 0 t9 h9 (u2 (.bool s1 :: (u4 (u2 [])))) [] → K2 t9 h9 := by
  intro t9 h9 hw
  refine k2 _ _ (AW.le hw ?_)
  clear hw
  refine .ret ?_
  conv => whnf
  have e9 := sj h
  subst e9
  refine hQ _ _ _ (aG aJ (fun g => rfl) ?_)
  conv => whnf
 refine rg 0 ?_
 conv => whnf
 refine aI hj1 (fun hc1 hj1 => ?_) (fun hc1 hj1 => ?_)
 ·conv => whnf
  cases hj1
  exact hR1 _ _ (li (.u2 (.s (.u4 (.u2 .n)))))
 conv => whnf
 cases hj1
 exact hR1 _ _ (li (.u2 (.s (.u4 (.u2 .n)))))
theorem OY (n : Nat) (p0 : Int) (r : Bool) (h : vR n p0 = some r) : aA Tryz.prog 152 [.int .u8 p0] [] (.bool r) [] := by
 unfold vR at h
 refine aC true Tryz.func152 rfl (by rw [Tryz.ntmps152]; exact Nat.le_of_ble_eq_true rfl) fun Q hQ t ht => ?_
 conv at ht => whnf
 subst ht
 refine .q fun K1 k1 => ?_
 refine rg 0 ?_
 conv => whnf
 refine k1 _ _ ?_
 refine .q fun K2 k2 => ?_
 obtain ⟨s1, hj1, h⟩ := ob h
 have hR1 : ∀ t9 h9, Le 0 t9 h9 (u2 (.bool s1 :: (u8 (u2 [])))) [] → K2 t9 h9 := by
  intro t9 h9 hw
  refine k2 _ _ (AW.le hw ?_)
  clear hw
  refine .ret ?_
  conv => whnf
  have e9 := sj h
  subst e9
  refine hQ _ _ _ (aG aJ (fun g => rfl) ?_)
  conv => whnf
 refine rg 0 ?_
 conv => whnf
 obtain ⟨x1, hx1, hj1⟩ := ob hj1
 refine aB (Ed _ _ _ hx1) Zl (.cons (.same _) .nil) (fun g => rfl) (fun g => rfl) ?_
 conv => whnf
 refine aI hj1 (fun hc1 hj1 => ?_) (fun hc1 hj1 => ?_)
 ·conv => whnf
  cases hj1
  exact hR1 _ _ (li (.u2 (.s (.u8 (.u2 .n)))))
 conv => whnf
 obtain ⟨x2, hx2, hj1⟩ := ob hj1
 refine aB (TM _ _ _ hx2) afR (.cons (.same _) .nil) (fun g => rfl) (fun g => rfl) ?_
 conv => whnf
 refine aI hj1 (fun hc2 hj1 => ?_) (fun hc2 hj1 => ?_)
 ·conv => whnf
  cases hj1
  exact hR1 _ _ (li (.u2 (.s (.u8 (.u2 .n)))))
 conv => whnf
 cases hj1
 exact hR1 _ _ (li (.u2 (.s (.u8 (.u2 .n)))))
theorem oW (n : Nat) (p0 : Str) (r : Bool) (h : dV n p0 = some r) : aA Tryz.prog 87 [.str p0] [] (.bool r) [] := by
 unfold dV at h
 refine aC true Tryz.func87 rfl (by rw [Tryz.ntmps87]; exact Nat.le_of_ble_eq_true rfl) fun Q hQ t ht => ?_
 conv at ht => whnf
 subst ht
 refine .q fun K1 k1 => ?_
 refine rg 0 ?_
 conv => whnf
 refine k1 _ _ ?_
 refine .q fun K2 k2 => ?_
 refine .q fun K3 k3 => ?_
 obtain ⟨s1, hj1, h⟩ := ob h
 have hR1 : ∀ t9 h9, Le 0 t9 h9 (.str p0 :: (u16 (u2 (.unk :: (.bool s1 :: (u8 (u2 (.unk :: [])))))))) [] → K3 t9 h9 := by
  intro t9 h9 hw
  refine k3 _ _ (AW.le hw ?_)
  clear hw
  refine .aK rfl h (fun hc1 h => ?_) (fun hc1 h => ?_)
  ·refine .q fun K4 k4 => ?_
   refine rg 0 ?_
   conv => whnf
   refine k4 _ _ ?_
   refine .ret ?_
   conv => whnf
   have e9 := sj h
   subst e9
   refine hQ _ _ _ (aG aJ (fun g => rfl) ?_)
   conv => whnf
  refine .skip ?_
  conv => whnf
  refine k2 _ _ ?_
  refine .q fun K5 k5 => ?_
  refine .q fun K6 k6 => ?_
  refine rg 0 ?_
  conv => whnf
  refine k6 _ _ ?_
  refine .block ?_
  obtain ⟨o1, ho1, h⟩ := ob h
  have hR2 : ∀ s3 : Unit, o1 = .nx s3 → ∀ t9 h9, Le 0 t9 h9 (u32 []) [] → K5 t9 h9 := by
   intro s3 ho
   subst ho
   dsimp only [LR.el] at h
   intro t9 h9 hw
   refine k5 _ _ (AW.le hw ?_)
   refine .q fun K7 k7 => ?_
   refine rg 0 ?_
   conv => whnf
   refine k7 _ _ ?_
   refine .ret ?_
   conv => whnf
   have e9 := sj h
   subst e9
   refine hQ _ _ _ (aG aJ (fun g => rfl) ?_)
   conv => whnf
  refine .loopS (jO n p0) (fun (s2 : Int) => (.str p0 :: (u16 (u4 (.unk :: (.int .i64 (p0.length : Int) :: (.int .i64 s2 :: (u8 [])))))))) (fun (s2 : Int) => []) ho1 (fun _ => rfl) (li (.s (.u16 (.u4 (.u (.s (.s (.u8 .n)))))))) ?_
  intro n1 s2 hs1 KL1 hKL1
  unfold jO at hs1
  refine .q fun K8 k8 => ?_
  refine rg 0 ?_
  conv => whnf
  refine k8 _ _ ?_
  refine .q fun K9 k9 => ?_
  refine .aK rfl hs1 (fun hc2 hs1 => ?_) (fun hc2 hs1 => ?_)
  ·refine .skip ?_
   conv => whnf
   refine k9 _ _ ?_
   refine .q fun K10 k10 => ?_
   refine .block ?_
   refine .q fun K11 k11 => ?_
   refine rg 0 ?_
   conv => whnf
   refine k11 _ _ ?_
   refine .q fun K12 k12 => ?_
   refine rg 0 ?_
   conv => whnf
   obtain ⟨x1, hx1, hs1⟩ := ob hs1
   refine yV hx1 ?_
   conv => whnf
   obtain ⟨x2, hx2, hs1⟩ := ob hs1
   refine aB (OY _ _ _ hx2) ae8 (.cons (.same _) .nil) (fun g => rfl) (fun g => rfl) ?_
   conv => whnf
   refine k12 _ _ ?_
   refine .aK rfl hs1 (fun hc3 hs1 => ?_) (fun hc3 hs1 => ?_)
   ·refine .q fun K13 k13 => ?_
    refine rg 0 ?_
    conv => whnf
    refine k13 _ _ ?_
    refine .ret ?_
    conv => whnf
    have e9 := sj hs1
    subst e9
    dsimp only [LR.el] at h
    have e9 := sj h
    subst e9
    refine hQ _ _ _ (aG aJ (fun g => rfl) ?_)
    conv => whnf
   refine .skip ?_
   conv => whnf
   refine k10 _ _ ?_
   refine .know 3 0 fun hv1 => ?_
   refine .know 0 0 fun hv2 => ?_
   refine rg 0 ?_
   conv => whnf
   refine ⟨(s2 + 1), by have := bY hv1; have := vfs hv2; have h8 := of_decide_eq_true hc2; exact bB (by omega) (by omega), ?_⟩
   conv => whnf
   exact hKL1 _ _ _ hs1 (li (.s (.u16 (.u4 (.u (.s (.s (.u8 .n))))))))
  refine .exit ?_
  conv => whnf
  exact hR2 _ (sj hs1).symm _ _ (li (.u16 (.u16 .n)))
 refine rg 0 ?_
 conv => whnf
 refine aI hj1 (fun hc4 hj1 => ?_) (fun hc4 hj1 => ?_)
 ·conv => whnf
  cases hj1
  exact hR1 _ _ (li (.s (.u16 (.u2 (.u (.s (.u8 (.u2 (.u .n)))))))))
 conv => whnf
 refine aI hj1 (fun hc5 hj1 => ?_) (fun hc5 hj1 => ?_)
 ·conv => whnf
  cases hj1
  exact hR1 _ _ (li (.s (.u16 (.u2 (.u (.s (.u8 (.u2 (.u .n)))))))))
 conv => whnf
 obtain ⟨x3, hx3, hj1⟩ := ob hj1
 refine yV hx3 ?_
 conv => whnf
 obtain ⟨x4, hx4, hj1⟩ := ob hj1
 refine aB (Ed _ _ _ hx4) Zl (.cons (.same _) .nil) (fun g => rfl) (fun g => rfl) ?_
 conv => whnf
 refine aI hj1 (fun hc6 hj1 => ?_) (fun hc6 hj1 => ?_)
 ·conv => whnf
  cases hj1
  exact hR1 _ _ (li (.s (.u16 (.u2 (.u (.s (.u8 (.u2 (.u .n)))))))))
 conv => whnf
 obtain ⟨x5, hx5, hj1⟩ := ob hj1
 refine aB (M4 _ _ _ hx5) afV (.cons (.same _) .nil) (fun g => rfl) (fun g => rfl) ?_
 conv => whnf
 cases hj1
 exact hR1 _ _ (li (.s (.u16 (.u2 (.u (.s (.u8 (.u2 (.u .n)))))))))
theorem vT (n : Nat) (p0 : Str) (p1 : Str) (r : Bool) (h : iF n p0 p1 = some r) : aA Tryz.prog 287 [.str p0, .str p1] [] (.bool r) [] := by
 unfold iF at h
 refine aC true Tryz.func287 rfl (by rw [Tryz.ntmps287]; exact Nat.le_of_ble_eq_true rfl) fun Q hQ t ht => ?_
 conv at ht => whnf
 subst ht
 refine .q fun K1 k1 => ?_
 refine rg 0 ?_
 conv => whnf
 refine k1 _ _ ?_
 refine .q fun K2 k2 => ?_
 obtain ⟨s1, hj1, h⟩ := ob h
 have hR1 : ∀ t9 h9, Le 0 t9 h9 (u4 (.bool s1 :: (u16 []))) [] → K2 t9 h9 := by
  intro t9 h9 hw
  refine k2 _ _ (AW.le hw ?_)
  clear hw
  refine .ret ?_
  conv => whnf
  have e9 := sj h
  subst e9
  refine hQ _ _ _ (aG aJ (fun g => rfl) ?_)
  conv => whnf
 refine rg 0 ?_
 conv => whnf
 refine aI hj1 (fun hc1 hj1 => ?_) (fun hc1 hj1 => ?_)
 ·conv => whnf
  refine ⟨(IntKind.wrap .i64 ((p0.length : Int) - (p1.length : Int))), rfl, ?_⟩
  conv => whnf
  obtain ⟨x1, hx1, hj1⟩ := ob hj1
  refine aaY hx1 (.int _ _ _) (.none _) ?_
  conv => whnf
  cases hj1
  exact hR1 _ _ (li (.u4 (.s (.u16 .n))))
 conv => whnf
 cases hj1
 exact hR1 _ _ (li (.u4 (.s (.u16 .n))))
theorem vF (n : Nat) (p0 : Str) (p1 : Str) (r : Str) (h : gZ n p0 p1 = some r) : aA Tryz.prog 204 [.str p0, .str p1] [] (.str r) [] := by
 unfold gZ at h
 refine aC true Tryz.func204 rfl (by rw [Tryz.ntmps204]; exact Nat.le_of_ble_eq_true rfl) fun Q hQ t ht => ?_
 conv at ht => whnf
 subst ht
 refine .q fun K1 k1 => ?_
 refine rg 0 ?_
 conv => whnf
 refine k1 _ _ ?_
 refine .q fun K2 k2 => ?_
 refine .q fun K3 k3 => ?_
 refine rg 0 ?_
 conv => whnf
 obtain ⟨x1, hx1, h⟩ := ob h
 refine aB (vT _ _ _ _ hx1) afM (.cons (.same _) (.cons (.same _) .nil)) (fun g => rfl) (fun g => rfl) ?_
 conv => whnf
 refine k3 _ _ ?_
 refine .aK rfl h (fun hc1 h => ?_) (fun hc1 h => ?_)
 ·refine .q fun K4 k4 => ?_
  refine rg 0 ?_
  conv => whnf
  refine ⟨(IntKind.wrap .i64 ((p0.length : Int) - (p1.length : Int))), rfl, ?_⟩
  conv => whnf
  obtain ⟨x2, hx2, h⟩ := ob h
  refine aaY hx2 (.none _) (.int _ _ _) ?_
  conv => whnf
  refine k4 _ _ ?_
  refine .ret ?_
  conv => whnf
  have e9 := sj h
  subst e9
  refine hQ _ _ _ (aG aJ (fun g => rfl) ?_)
  conv => whnf
 refine .skip ?_
 conv => whnf
 refine k2 _ _ ?_
 refine .q fun K5 k5 => ?_
 refine rg 0 ?_
 conv => whnf
 refine k5 _ _ ?_
 refine .ret ?_
 conv => whnf
 have e9 := sj h
 subst e9
 refine hQ _ _ _ (aG aJ (fun g => rfl) ?_)
 conv => whnf
theorem Ea (n : Nat) (p0 : Str) (p1 : Str) (r : Str) (h : strings_TrimSuffix n p0 p1 = some r) : aA Tryz.prog 153 [.str p0, .str p1] [] (.str r) [] := by
 unfold strings_TrimSuffix at h
 refine aC true Tryz.func153 rfl (by rw [Tryz.ntmps153]; exact Nat.le_of_ble_eq_true rfl) fun Q hQ t ht => ?_
 conv at ht => whnf
 subst ht
 refine .q fun K1 k1 => ?_
 refine rg 0 ?_
 conv => whnf
 refine k1 _ _ ?_
 refine .q fun K2 k2 => ?_
 refine rg 0 ?_
 conv => whnf
 obtain ⟨x1, hx1, h⟩ := ob h
 refine aB (vF _ _ _ _ hx1) afz (.cons (.same _) (.cons (.same _) .nil)) (fun g => rfl) (fun g => rfl) ?_
 conv => whnf
 refine k2 _ _ ?_
 refine .ret ?_
 conv => whnf
 have e9 := sj h
 subst e9
 refine hQ _ _ _ (aG aJ (fun g => rfl) ?_)
 conv => whnf
theorem Iu (n : Nat) (p0 : Str) (r : Bool) (h : kI n p0 = some r) : aA Tryz.prog 88 [.str p0] [] (.bool r) [] := by
 unfold kI at h
 refine aC true Tryz.func88 rfl (by rw [Tryz.ntmps88]; exact Nat.le_of_ble_eq_true rfl) fun Q hQ t ht => ?_
 conv at ht => whnf
 subst ht
 refine .q fun K1 k1 => ?_
 refine rg 0 ?_
 conv => whnf
 refine k1 _ _ ?_
 refine .q fun K2 k2 => ?_
 refine rg 0 ?_
 conv => whnf
 obtain ⟨x1, hx1, h⟩ := ob h
 refine aB (Ea _ _ _ _ hx1) aeH (.cons (.same _) (.cons (.same _) .nil)) (fun g => rfl) (fun g => rfl) ?_
 conv => whnf
 obtain ⟨x2, hx2, h⟩ := ob h
 refine aB (oW _ _ _ hx2) NP (.cons (.same _) .nil) (fun g => rfl) (fun g => rfl) ?_
 conv => whnf
 refine k2 _ _ ?_
 refine .ret ?_
 conv => whnf
 have e9 := sj h
 subst e9
 refine hQ _ _ _ (aG aJ (fun g => rfl) ?_)
 conv => whnf
theorem DX (n : Nat) (p0 : Int) (p1 : Int) (p2 : Int) (p3 : Int) (r : Bool × Int) (h : jP n p0 p1 p2 p3 = some r) : aA Tryz.prog 182 [.ptr 0 0, .int .i64 p3] [.box [.int .i64 p0, .int .i64 p1, .int .i64 p2]] (.bool r.1) [.box [.int .i64 r.2, .int .i64 p1, .int .i64 p2]] := by
 unfold jP at h
 refine aC true Tryz.func182 rfl (by rw [Tryz.ntmps182]; exact Nat.le_of_ble_eq_true rfl) fun Q hQ t ht => ?_
 conv at ht => whnf
 subst ht
 refine .q fun K1 k1 => ?_
 refine rg 0 ?_
 conv => whnf
 refine k1 _ _ ?_
 refine .q fun K2 k2 => ?_
 refine rg 0 ?_
 conv => whnf
 refine ⟨(IntKind.wrap .i64 (p0 + 1)), rfl, ?_⟩
 conv => whnf
 refine k2 _ _ ?_
 refine .q fun K3 k3 => ?_
 obtain ⟨s1, hj1, h⟩ := ob h
 have hR1 : ∀ t9 h9, Le 1 t9 h9 (u4 (.bool s1 :: (u16 (u8 [])))) [.box [.int .i64 (IntKind.wrap .i64 (p0 + 1)), .int .i64 p1, .int .i64 p2]] → K3 t9 h9 := by
  intro t9 h9 hw
  refine k3 _ _ (AW.le hw ?_)
  clear hw
  refine .ret ?_
  conv => whnf
  have e9 := sj h
  subst e9
  refine hQ _ _ _ (d9 (u4 (.bool s1 :: (u16 (u8 [])))) [.box [.int .i64 (IntKind.wrap .i64 (p0 + 1)), .int .i64 p1, .int .i64 p2]] (wk [some 0] (.u4 (.c rfl (.u16 (.u8 .nil)))) (.b rfl (.c rfl (.c rfl (.c rfl .nil))) .nil) rfl) (bH aJ [0] rfl (.cons (rfl) .nil) ?_))
  conv => whnf
  first | rfl | (simp; done) | (simp; rfl) | (simp; and_intros <;> rfl)
 refine rg 0 ?_
 conv => whnf
 refine aI hj1 (fun hc1 hj1 => ?_) (fun hc1 hj1 => ?_)
 ·conv => whnf
  refine ⟨by kernel_rfl, ?_⟩
  conv => whnf
  cases hj1
  exact hR1 _ _ (li (.u4 (.s (.u16 (.u8 .n)))))
 conv => whnf
 refine ⟨by kernel_rfl, ?_⟩
 conv => whnf
 cases hj1
 exact hR1 _ _ (li (.u4 (.s (.u16 (.u8 .n)))))
abbrev qew (qd7 : (List Ty) → Int → Int → Int → Int → Option (Int × Int)) : Prop := ∀ (p0 : List Ty) (p1 : Int) (p2 : Int) (p3 : Int) (p4 : Int) (r : Int × Int), qd7 p0 p1 p2 p3 p4 = some r → aA Tryz.prog 288 [.slice (List.map aH p0) .shared, .func 209 [.ptr 0 0, .ptr 2 0]] [.box [.ptr 1 0], .box [.int .i64 p1, .int .i64 p2, .int .i64 p3], .box [.int .i64 p4]] (.int .i64 r.1) [.box [.ptr 1 0], .box [.int .i64 r.2, .int .i64 p2, .int .i64 p3], .box [.int .i64 p4]]
abbrev qes (qd3 : (List Ty) → Int → Int → Int → Int → Option (Bool × Int)) : Prop := ∀ (p0 : List Ty) (p1 : Int) (p2 : Int) (p3 : Int) (p4 : Int) (r : Bool × Int), qd3 p0 p1 p2 p3 p4 = some r → aA Tryz.prog 205 [.slice (List.map aH p0) .shared, .func 209 [.ptr 0 0, .ptr 2 0]] [.box [.ptr 1 0], .box [.int .i64 p1, .int .i64 p2, .int .i64 p3], .box [.int .i64 p4]] (.bool r.1) [.box [.ptr 1 0], .box [.int .i64 r.2, .int .i64 p2, .int .i64 p3], .box [.int .i64 p4]]
abbrev qe0 (qeb : Int → Int → Int → Ty → Int → Bool → Option (Bool × Int)) : Prop := ∀ (p0 : Int) (p1 : Int) (p2 : Int) (p3 : Ty) (p4 : Int) (p5 : Bool) (r : Bool × Int), qeb p0 p1 p2 p3 p4 p5 = some r → aA Tryz.prog 157 [.ptr 0 0, .agg [.int .i64 p3.kind, .str p3.name, .slice (List.map aH p3.kids) .shared], .int .i64 p4, .bool p5] [.box [.int .i64 p0, .int .i64 p1, .int .i64 p2]] (.bool r.1) [.box [.int .i64 r.2, .int .i64 p1, .int .i64 p2]]
abbrev qez (qec : Ty → Int → Int → Int → Int → Option (Bool × Int)) : Prop := ∀ (p0 : Ty) (p1 : Int) (p2 : Int) (p3 : Int) (p4 : Int) (r : Bool × Int), qec p0 p1 p2 p3 p4 = some r → aA Tryz.prog 209 [.agg [.int .i64 p0.kind, .str p0.name, .slice (List.map aH p0.kids) .shared], .ptr 0 0, .ptr 2 0] [.box [.ptr 1 0], .box [.int .i64 p1, .int .i64 p2, .int .i64 p3], .box [.int .i64 p4]] (.bool r.1) [.box [.ptr 1 0], .box [.int .i64 r.2, .int .i64 p2, .int .i64 p3], .box [.int .i64 p4]]
theorem yA (n : Nat) (qd7 : (List Ty) → Int → Int → Int → Int → Option (Int × Int)) (qd3 : (List Ty) → Int → Int → Int → Int → Option (Bool × Int)) (qeb : Int → Int → Int → Ty → Int → Bool → Option (Bool × Int)) (qec : Ty → Int → Int → Int → Int → Option (Bool × Int)) (qcb : qew qd7) (qb9 : qes qd3) (qcd : qe0 qeb) (qce : qez qec) (p0 : List Ty) (p1 : Int) (p2 : Int) (p3 : Int) (p4 : Int) (r : Int × Int) (h : dX n qd7 qd3 qeb qec p0 p1 p2 p3 p4 = some r) : aA Tryz.prog 288 [.slice (List.map aH p0) .shared, .func 209 [.ptr 0 0, .ptr 2 0]] [.box [.ptr 1 0], .box [.int .i64 p1, .int .i64 p2, .int .i64 p3], .box [.int .i64 p4]] (.int .i64 r.1) [.box [.ptr 1 0], .box [.int .i64 r.2, .int .i64 p2, .int .i64 p3], .box [.int .i64 p4]] := by
 unfold dX at h
 refine aC true Tryz.func288 rfl (by rw [Tryz.ntmps288]; exact Nat.le_of_ble_eq_true rfl) fun Q hQ t ht => ?_
 conv at ht => whnf
 subst ht
 refine .q fun K1 k1 => ?_
 refine rg 0 ?_
 conv => whnf
 refine k1 _ _ ?_
 refine .q fun K2 k2 => ?_
 refine .q fun K3 k3 => ?_
 refine rg 0 ?_
 conv => whnf
 refine aQ (l := p0) (f := aH) ?_
 conv => whnf
 refine k3 _ _ ?_
 refine .block ?_
 obtain ⟨o1, ho1, h⟩ := ob h
 have hR1 : ∀ s2 : Int, o1 = .nx s2 → ∀ t9 h9, Le 3 t9 h9 (u16 (u2 (.unk :: []))) [.box [.ptr 1 0], .box [.int .i64 s2, .int .i64 p2, .int .i64 p3], .box [.int .i64 p4]] → K2 t9 h9 := by
  intro s2 ho
  subst ho
  dsimp only [LR.el] at h
  intro t9 h9 hw
  refine k2 _ _ (AW.le hw ?_)
  refine .q fun K4 k4 => ?_
  refine rg 0 ?_
  conv => whnf
  refine k4 _ _ ?_
  refine .ret ?_
  conv => whnf
  have e9 := sj h
  subst e9
  refine hQ _ _ _ (d9 (u4 (.int .i64 (-1) :: (u8 (u4 (u2 []))))) [.box [.ptr 1 0], .box [.int .i64 s2, .int .i64 p2, .int .i64 p3], .box [.int .i64 p4]] (wk [some 0, some 1, some 2] (.u4 (.c rfl (.u8 (.u4 (.u2 .nil))))) (.b rfl (.c rfl .nil) (.b rfl (.c rfl (.c rfl (.c rfl .nil))) (.b rfl (.c rfl .nil) .nil))) rfl) (bH aJ [0, 1, 2] rfl (.cons (rfl) (.cons (rfl) (.cons (rfl) .nil))) ?_))
  conv => whnf
  first | rfl | (simp; done) | (simp; rfl) | (simp; and_intros <;> rfl)
 refine .loopS (iK n qd7 qd3 qeb qec p0 p2 p3 p4) (fun (s1 : Int × Int) => (.slice (List.map aH p0) .shared :: (.func 209 [.ptr 0 0, .ptr 2 0] :: (u4 (.unk :: (.int .i64 (p0.length : Int) :: (.int .i64 s1.1 :: (u8 (u2 []))))))))) (fun (s1 : Int × Int) => [.box [.ptr 1 0], .box [.int .i64 s1.2, .int .i64 p2, .int .i64 p3], .box [.int .i64 p4]]) ho1 (fun _ => rfl) (li (.s (.s (.u4 (.u (.s (.s (.u8 (.u2 .n))))))))) ?_
 intro n1 s1 hs1 KL1 hKL1
 unfold iK at hs1
 refine .q fun K5 k5 => ?_
 refine rg 0 ?_
 conv => whnf
 refine k5 _ _ ?_
 refine .q fun K6 k6 => ?_
 refine .aK rfl hs1 (fun hc1 hs1 => ?_) (fun hc1 hs1 => ?_)
 ·refine .skip ?_
  conv => whnf
  refine k6 _ _ ?_
  refine .q fun K7 k7 => ?_
  refine .block ?_
  refine .q fun K8 k8 => ?_
  refine rg 0 ?_
  conv => whnf
  refine k8 _ _ ?_
  refine .q fun K9 k9 => ?_
  refine rg 0 ?_
  conv => whnf
  obtain ⟨x1, hx1, hs1⟩ := ob hs1
  refine aU (l := p0) (f := aH) (cs := [.int .i64 ((x1).kind), .str ((x1).name), .slice (List.map aH ((x1).kids)) .shared]) hx1 (fC x1) rfl ?_
  conv => whnf
  obtain ⟨x2, hx2, hs1⟩ := ob hs1
  refine bF [0, 1, 2] [] [.agg [.int .i64 x1.kind, .str x1.name, .slice (List.map aH x1.kids) .shared], .ptr 0 0, .ptr 2 0] [.agg [.int .i64 x1.kind, .str x1.name, .slice (List.map aH x1.kids) .shared], .ptr 0 0, .ptr 2 0] (qce _ _ _ _ _ _ hx2) afj rfl (.cons (rfl) (.cons (rfl) (.cons (rfl) .nil))) (by simp; try decide) (.cons (.same _) (.cons (.same _) (.cons (.same _) .nil))) (rn := .bool x2.1) (rfl) (Hn := [.box [.ptr 1 0], .box [.int .i64 x2.2, .int .i64 p2, .int .i64 p3], .box [.int .i64 p4]]) ((bJ (rfl) (bJ (rfl) (bJ (rfl) rfl)))) ?_
  conv => whnf
  refine k9 _ _ ?_
  refine .aK rfl hs1 (fun hc2 hs1 => ?_) (fun hc2 hs1 => ?_)
  ·refine .q fun K10 k10 => ?_
   refine rg 0 ?_
   conv => whnf
   refine k10 _ _ ?_
   refine .ret ?_
   conv => whnf
   have e9 := sj hs1
   subst e9
   dsimp only [LR.el] at h
   have e9 := sj h
   subst e9
   refine hQ _ _ _ (d9 (u4 (.int .i64 s1.1 :: (u8 (u4 (u2 []))))) [.box [.ptr 1 0], .box [.int .i64 x2.2, .int .i64 p2, .int .i64 p3], .box [.int .i64 p4]] (wk [some 0, some 1, some 2] (.u4 (.c rfl (.u8 (.u4 (.u2 .nil))))) (.b rfl (.c rfl .nil) (.b rfl (.c rfl (.c rfl (.c rfl .nil))) (.b rfl (.c rfl .nil) .nil))) rfl) (bH aJ [0, 1, 2] rfl (.cons (rfl) (.cons (rfl) (.cons (rfl) .nil))) ?_))
   conv => whnf
   first | rfl | (simp; done) | (simp; rfl) | (simp; and_intros <;> rfl)
  refine .skip ?_
  conv => whnf
  refine k7 _ _ ?_
  refine .know 5 0 fun hv1 => ?_
  refine .know 0 0 fun hv2 => ?_
  refine rg 0 ?_
  conv => whnf
  refine ⟨(s1.1 + 1), by have := bY hv1; have := gI hv2; have h8 := of_decide_eq_true hc1; exact bB (by omega) (by omega), ?_⟩
  conv => whnf
  exact hKL1 _ _ _ hs1 (li (.s (.s (.u4 (.u (.s (.s (.u8 (.u2 .n)))))))))
 refine .exit ?_
 conv => whnf
 exact hR1 _ (sj hs1).symm _ _ (li (.u16 (.u2 (.u .n))))
theorem wC (n : Nat) (qd7 : (List Ty) → Int → Int → Int → Int → Option (Int × Int)) (qd3 : (List Ty) → Int → Int → Int → Int → Option (Bool × Int)) (qeb : Int → Int → Int → Ty → Int → Bool → Option (Bool × Int)) (qec : Ty → Int → Int → Int → Int → Option (Bool × Int)) (qcb : qew qd7) (qb9 : qes qd3) (qcd : qe0 qeb) (qce : qez qec) (p0 : List Ty) (p1 : Int) (p2 : Int) (p3 : Int) (p4 : Int) (r : Bool × Int) (h : fQ n qd7 qd3 qeb qec p0 p1 p2 p3 p4 = some r) : aA Tryz.prog 205 [.slice (List.map aH p0) .shared, .func 209 [.ptr 0 0, .ptr 2 0]] [.box [.ptr 1 0], .box [.int .i64 p1, .int .i64 p2, .int .i64 p3], .box [.int .i64 p4]] (.bool r.1) [.box [.ptr 1 0], .box [.int .i64 r.2, .int .i64 p2, .int .i64 p3], .box [.int .i64 p4]] := by
 unfold fQ at h
 refine aC true Tryz.func205 rfl (by rw [Tryz.ntmps205]; exact Nat.le_of_ble_eq_true rfl) fun Q hQ t ht => ?_
 conv at ht => whnf
 subst ht
 refine .q fun K1 k1 => ?_
 refine rg 0 ?_
 conv => whnf
 refine k1 _ _ ?_
 refine .q fun K2 k2 => ?_
 refine rg 0 ?_
 conv => whnf
 obtain ⟨x1, hx1, h⟩ := ob h
 refine bF [0, 1, 2] [] [.slice (List.map aH p0) .shared, .func 209 [.ptr 0 0, .ptr 2 0]] [.slice (List.map aH p0) .shared, .func 209 [.ptr 0 0, .ptr 2 0]] (qcb _ _ _ _ _ _ hx1) ZI rfl (.cons (rfl) (.cons (rfl) (.cons (rfl) .nil))) (by simp; try decide) (.cons (.same _) (.cons (.same _) .nil)) (rn := .int .i64 x1.1) (rfl) (Hn := [.box [.ptr 1 0], .box [.int .i64 x1.2, .int .i64 p2, .int .i64 p3], .box [.int .i64 p4]]) ((bJ (rfl) (bJ (rfl) (bJ (rfl) rfl)))) ?_
 conv => whnf
 refine k2 _ _ ?_
 refine .ret ?_
 conv => whnf
 have e9 := sj h
 subst e9
 refine hQ _ _ _ (d9 (u4 (.bool (decide (0 ≤ x1.1)) :: (u4 []))) [.box [.ptr 1 0], .box [.int .i64 x1.2, .int .i64 p2, .int .i64 p3], .box [.int .i64 p4]] (wk [some 0, some 1, some 2] (.u4 (.c rfl (.u4 .nil))) (.b rfl (.c rfl .nil) (.b rfl (.c rfl (.c rfl (.c rfl .nil))) (.b rfl (.c rfl .nil) .nil))) rfl) (bH aJ [0, 1, 2] rfl (.cons (rfl) (.cons (rfl) (.cons (rfl) .nil))) ?_))
 conv => whnf
 first | rfl | (simp; done) | (simp; rfl) | (simp; and_intros <;> rfl)
theorem yt (n : Nat) (qd7 : (List Ty) → Int → Int → Int → Int → Option (Int × Int)) (qd3 : (List Ty) → Int → Int → Int → Int → Option (Bool × Int)) (qeb : Int → Int → Int → Ty → Int → Bool → Option (Bool × Int)) (qec : Ty → Int → Int → Int → Int → Option (Bool × Int)) (qcb : qew qd7) (qb9 : qes qd3) (qcd : qe0 qeb) (qce : qez qec) (p0 : Int) (p1 : Int) (p2 : Int) (p3 : Ty) (p4 : Int) (p5 : Bool) (r : Bool × Int) (h : gT n qd7 qd3 qeb qec p0 p1 p2 p3 p4 p5 = some r) : aA Tryz.prog 157 [.ptr 0 0, .agg [.int .i64 p3.kind, .str p3.name, .slice (List.map aH p3.kids) .shared], .int .i64 p4, .bool p5] [.box [.int .i64 p0, .int .i64 p1, .int .i64 p2]] (.bool r.1) [.box [.int .i64 r.2, .int .i64 p1, .int .i64 p2]] := by
 unfold gT at h
 refine aC true Tryz.func157 rfl (by rw [Tryz.ntmps157]; exact Nat.le_of_ble_eq_true rfl) fun Q hQ t ht => ?_
 conv at ht => whnf
 subst ht
 refine .q fun K1 k1 => ?_
 refine rg 3 ?_
 conv => whnf
 refine k1 _ _ ?_
 refine .q fun K2 k2 => ?_
 refine .q fun K3 k3 => ?_
 refine rg 0 ?_
 conv => whnf
 obtain ⟨x1, hx1, h⟩ := ob h
 refine bF [0] [] [.ptr 0 0, .int .i64 p4] [.ptr 0 0, .int .i64 p4] (DX _ _ _ _ _ _ hx1) afp rfl (.cons (rfl) .nil) (rfl) (.cons (.same _) (.cons (.same _) .nil)) (rn := .bool x1.1) (rfl) (Hn := [.box [.int .i64 x1.2, .int .i64 p1, .int .i64 p2]]) ((bJ (rfl) rfl)) ?_
 conv => whnf
 refine k3 _ _ ?_
 refine .aK rfl h (fun hc1 h => ?_) (fun hc1 h => ?_)
 ·refine .q fun K4 k4 => ?_
  refine rg 0 ?_
  conv => whnf
  refine k4 _ _ ?_
  refine .ret ?_
  conv => whnf
  have e9 := sj h
  subst e9
  refine hQ _ _ _ (d9 (u8 (.bool false :: (u32 (u8 (u2 []))))) [.box [.int .i64 x1.2, .int .i64 p1, .int .i64 p2]] (wk [some 0] (.u8 (.c rfl (.u32 (.u8 (.u2 .nil))))) (.b rfl (.c rfl (.c rfl (.c rfl .nil))) .nil) rfl) (bH aJ [0] rfl (.cons (rfl) .nil) ?_))
  conv => whnf
  first | rfl | (simp; done) | (simp; rfl) | (simp; and_intros <;> rfl)
 refine .skip ?_
 conv => whnf
 refine k2 _ _ ?_
 refine .q fun K5 k5 => ?_
 refine rg 0 ?_
 conv => whnf
 refine k5 _ _ ?_
 refine .q fun K6 k6 => ?_
 obtain ⟨o1, hj1, h⟩ := ob h
 have hR1 : ∀ s1 : Int, o1 = .nx s1 → ∀ t9 h9, Le 1 t9 h9 (u4 (.ptr 1 0 :: (.ptr 2 0 :: (.ptr 3 0 :: (u2 (.int .i64 s1 :: (u32 (u8 (.unk :: []))))))))) [.box [.int .i64 x1.2, .int .i64 p1, .int .i64 p2], .box [.ptr 0 0], .box [.int .i64 p3.kind, .str p3.name, .slice (List.map aH p3.kids) .shared], .box [.int .i64 p4]] → K6 t9 h9 := by
  intro s1 ho
  subst ho
  dsimp only [LR.el] at h
  intro t9 h9 hw
  refine k6 _ _ (AW.le hw ?_)
  clear hw
  refine .q fun K7 k7 => ?_
  refine .q fun K8 k8 => ?_
  obtain ⟨s2, hj2, h⟩ := ob h
  have hR2 : ∀ t9 h9, Le 1 t9 h9 (u4 (.ptr 1 0 :: (.ptr 2 0 :: (.ptr 3 0 :: (u32 (u4 (u2 (.bool s2 :: (u4 (.unk :: [])))))))))) [.box [.int .i64 x1.2, .int .i64 p1, .int .i64 p2], .box [.ptr 0 0], .box [.int .i64 p3.kind, .str p3.name, .slice (List.map aH p3.kids) .shared], .box [.int .i64 p4]] → K8 t9 h9 := by
   intro t9 h9 hw
   refine k8 _ _ (AW.le hw ?_)
   clear hw
   refine .aK rfl h (fun hc2 h => ?_) (fun hc2 h => ?_)
   ·refine .q fun K9 k9 => ?_
    refine rg 0 ?_
    conv => whnf
    refine k9 _ _ ?_
    refine .ret ?_
    conv => whnf
    have e9 := sj h
    subst e9
    refine hQ _ _ _ (d9 (u8 (.bool false :: (u32 (u8 (u2 []))))) [.box [.int .i64 x1.2, .int .i64 p1, .int .i64 p2]] (wk [some 0] (.u8 (.c rfl (.u32 (.u8 (.u2 .nil))))) (.b rfl (.c rfl (.c rfl (.c rfl .nil))) .nil) rfl) (bH aJ [0] rfl (.cons (rfl) .nil) ?_))
    conv => whnf
    first | rfl | (simp; done) | (simp; rfl) | (simp; and_intros <;> rfl)
   refine .skip ?_
   conv => whnf
   refine k7 _ _ ?_
   refine .q fun K10 k10 => ?_
   refine rg 0 ?_
   conv => whnf
   obtain ⟨x2, hx2, h⟩ := ob h
   refine bF [1, 0, 3] [] [.slice (List.map aH p3.kids) .shared, .func 209 [.ptr 0 0, .ptr 2 0]] [.slice (List.map aH p3.kids) .shared, .func 209 [.ptr 1 0, .ptr 3 0]] (qb9 _ _ _ _ _ _ hx2) YX rfl (.cons (rfl) (.cons (rfl) (.cons (rfl) .nil))) (by simp; try decide) (.cons (.same _) (.cons (.same _) .nil)) (rn := .bool x2.1) (rfl) (Hn := [.box [.ptr 0 0], .box [.int .i64 x2.2, .int .i64 p1, .int .i64 p2], .box [.int .i64 p4]]) ((bJ (rfl) (bJ (rfl) (bJ (rfl) rfl)))) ?_
   conv => whnf
   refine k10 _ _ ?_
   refine .ret ?_
   conv => whnf
   have e9 := sj h
   subst e9
   refine hQ _ _ _ (d9 (u8 (.bool (!x2.1) :: (u32 (u8 (u2 []))))) [.box [.int .i64 x2.2, .int .i64 p1, .int .i64 p2]] (wk [some 0] (.u8 (.c rfl (.u32 (.u8 (.u2 .nil))))) (.b rfl (.c rfl (.c rfl (.c rfl .nil))) .nil) rfl) (bH aJ [0] rfl (.cons (rfl) .nil) ?_))
   conv => whnf
   first | rfl | (simp; done) | (simp; rfl) | (simp; and_intros <;> rfl)
  refine rg 0 ?_
  conv => whnf
  refine aQ (l := p3.kids) (f := aH) ?_
  conv => whnf
  refine aI hj2 (fun hc3 hj2 => ?_) (fun hc3 hj2 => ?_)
  ·conv => whnf
   cases hj2
   exact hR2 _ _ (li (.u4 (.s (.s (.s (.u16 (.u16 (.u4 (.u2 (.s (.u4 (.u .n))))))))))))
  conv => whnf
  refine aI hj2 (fun hc4 hj2 => ?_) (fun hc4 hj2 => ?_)
  ·conv => whnf
   cases hj2
   exact hR2 _ _ (li (.u4 (.s (.s (.s (.u16 (.u16 (.u4 (.u2 (.s (.u4 (.u .n))))))))))))
  conv => whnf
  cases hj2
  exact hR2 _ _ (li (.u4 (.s (.s (.s (.u16 (.u16 (.u4 (.u2 (.s (.u4 (.u .n))))))))))))
 refine .q fun K11 k11 => ?_
 refine rg 0 ?_
 conv => whnf
 refine k11 _ _ ?_
 refine .block ?_
 refine .q fun K12 k12 => ?_
 refine rg 0 ?_
 conv => whnf
 refine k12 _ _ ?_
 refine .aK rfl hj1 (fun hc5 hj1 => ?_) (fun hc5 hj1 => ?_)
 ·refine .skip ?_
  conv => whnf
  exact hR1 _ (sj hj1).symm _ _ (li (.u4 (.s (.s (.s (.u2 (.s (.u16 (.u16 (.u8 (.u .n)))))))))))
 refine .q fun K13 k13 => ?_
 refine rg 0 ?_
 conv => whnf
 refine k13 _ _ ?_
 refine .aK rfl hj1 (fun hc6 hj1 => ?_) (fun hc6 hj1 => ?_)
 ·refine .q fun K14 k14 => ?_
  refine rg 0 ?_
  conv => whnf
  refine k14 _ _ ?_
  refine .aK rfl hj1 (fun hc7 hj1 => ?_) (fun hc7 hj1 => ?_)
  ·refine .q fun K15 k15 => ?_
   refine rg 0 ?_
   conv => whnf
   refine k15 _ _ ?_
   refine .ret ?_
   conv => whnf
   have e9 := sj hj1
   subst e9
   dsimp only [LR.el] at h
   have e9 := sj h
   subst e9
   refine hQ _ _ _ (d9 (u8 (.bool false :: (u32 (u8 (u2 []))))) [.box [.int .i64 x1.2, .int .i64 p1, .int .i64 p2]] (wk [some 0] (.u8 (.c rfl (.u32 (.u8 (.u2 .nil))))) (.b rfl (.c rfl (.c rfl (.c rfl .nil))) .nil) rfl) (bH aJ [0] rfl (.cons (rfl) .nil) ?_))
   conv => whnf
   first | rfl | (simp; done) | (simp; rfl) | (simp; and_intros <;> rfl)
  refine .skip ?_
  conv => whnf
  exact hR1 _ (sj hj1).symm _ _ (li (.u4 (.s (.s (.s (.u2 (.s (.u16 (.u16 (.u8 (.u .n)))))))))))
 refine .q fun K16 k16 => ?_
 refine rg 0 ?_
 conv => whnf
 refine k16 _ _ ?_
 refine .aK rfl hj1 (fun hc8 hj1 => ?_) (fun hc8 hj1 => ?_)
 ·refine .q fun K17 k17 => ?_
  refine rg 0 ?_
  conv => whnf
  obtain ⟨x3, hx3, hj1⟩ := ob hj1
  refine aB (oW _ _ _ hx3) NP (.cons (.same _) .nil) (fun g => rfl) (fun g => rfl) ?_
  conv => whnf
  refine k17 _ _ ?_
  refine .aK rfl hj1 (fun hc9 hj1 => ?_) (fun hc9 hj1 => ?_)
  ·refine .q fun K18 k18 => ?_
   refine rg 0 ?_
   conv => whnf
   refine k18 _ _ ?_
   refine .ret ?_
   conv => whnf
   have e9 := sj hj1
   subst e9
   dsimp only [LR.el] at h
   have e9 := sj h
   subst e9
   refine hQ _ _ _ (d9 (u8 (.bool false :: (u32 (u8 (u2 []))))) [.box [.int .i64 x1.2, .int .i64 p1, .int .i64 p2]] (wk [some 0] (.u8 (.c rfl (.u32 (.u8 (.u2 .nil))))) (.b rfl (.c rfl (.c rfl (.c rfl .nil))) .nil) rfl) (bH aJ [0] rfl (.cons (rfl) .nil) ?_))
   conv => whnf
   first | rfl | (simp; done) | (simp; rfl) | (simp; and_intros <;> rfl)
  refine .skip ?_
  conv => whnf
  exact hR1 _ (sj hj1).symm _ _ (li (.u4 (.s (.s (.s (.u2 (.s (.u16 (.u16 (.u8 (.u .n)))))))))))
 refine .q fun K19 k19 => ?_
 refine rg 0 ?_
 conv => whnf
 refine k19 _ _ ?_
 refine .aK rfl hj1 (fun hc10 hj1 => ?_) (fun hc10 hj1 => ?_)
 ·refine rg 0 ?_
  conv => whnf
  exact hR1 _ (sj hj1).symm _ _ (li (.u4 (.s (.s (.s (.u2 (.s (.u16 (.u16 (.u8 (.u .n)))))))))))
 refine .q fun K20 k20 => ?_
 refine rg 0 ?_
 conv => whnf
 refine k20 _ _ ?_
 refine .aK rfl hj1 (fun hc11 hj1 => ?_) (fun hc11 hj1 => ?_)
 ·refine rg 0 ?_
  conv => whnf
  exact hR1 _ (sj hj1).symm _ _ (li (.u4 (.s (.s (.s (.u2 (.s (.u16 (.u16 (.u8 (.u .n)))))))))))
 refine .q fun K21 k21 => ?_
 refine rg 0 ?_
 conv => whnf
 refine k21 _ _ ?_
 refine .ret ?_
 conv => whnf
 have e9 := sj hj1
 subst e9
 dsimp only [LR.el] at h
 have e9 := sj h
 subst e9
 refine hQ _ _ _ (d9 (u8 (.bool false :: (u32 (u8 (u2 []))))) [.box [.int .i64 x1.2, .int .i64 p1, .int .i64 p2]] (wk [some 0] (.u8 (.c rfl (.u32 (.u8 (.u2 .nil))))) (.b rfl (.c rfl (.c rfl (.c rfl .nil))) .nil) rfl) (bH aJ [0] rfl (.cons (rfl) .nil) ?_))
 conv => whnf
 first | rfl | (simp; done) | (simp; rfl) | (simp; and_intros <;> rfl)
theorem wU (n : Nat) (qd7 : (List Ty) → Int → Int → Int → Int → Option (Int × Int)) (qd3 : (List Ty) → Int → Int → Int → Int → Option (Bool × Int)) (qeb : Int → Int → Int → Ty → Int → Bool → Option (Bool × Int)) (qec : Ty → Int → Int → Int → Int → Option (Bool × Int)) (qcb : qew qd7) (qb9 : qes qd3) (qcd : qe0 qeb) (qce : qez qec) (p0 : Ty) (p1 : Int) (p2 : Int) (p3 : Int) (p4 : Int) (r : Bool × Int) (h : fZ n qd7 qd3 qeb qec p0 p1 p2 p3 p4 = some r) : aA Tryz.prog 209 [.agg [.int .i64 p0.kind, .str p0.name, .slice (List.map aH p0.kids) .shared], .ptr 0 0, .ptr 2 0] [.box [.ptr 1 0], .box [.int .i64 p1, .int .i64 p2, .int .i64 p3], .box [.int .i64 p4]] (.bool r.1) [.box [.ptr 1 0], .box [.int .i64 r.2, .int .i64 p2, .int .i64 p3], .box [.int .i64 p4]] := by
 unfold fZ at h
 refine aC true Tryz.func209 rfl (by rw [Tryz.ntmps209]; exact Nat.le_of_ble_eq_true rfl) fun Q hQ t ht => ?_
 conv at ht => whnf
 subst ht
 refine .q fun K1 k1 => ?_
 refine rg 1 ?_
 conv => whnf
 refine k1 _ _ ?_
 refine .q fun K2 k2 => ?_
 refine rg 0 ?_
 conv => whnf
 refine ⟨(IntKind.wrap .i64 (p4 + 1)), rfl, ?_⟩
 conv => whnf
 obtain ⟨x1, hx1, h⟩ := ob h
 refine bF [1] [] [.ptr 0 0, .agg [.int .i64 p0.kind, .str p0.name, .slice (List.map aH p0.kids) .shared], .int .i64 (IntKind.wrap .i64 (p4 + 1)), .bool true] [.ptr 1 0, .agg [.int .i64 p0.kind, .str p0.name, .slice (List.map aH p0.kids) .shared], .int .i64 (IntKind.wrap .i64 (p4 + 1)), .bool true] (qcd _ _ _ _ _ _ _ hx1) Zj rfl (.cons (rfl) .nil) (by simp; try decide) (.cons (.same _) (.cons (.same _) (.cons (.same _) (.cons (.same _) .nil)))) (rn := .bool x1.1) (rfl) (Hn := [.box [.int .i64 x1.2, .int .i64 p2, .int .i64 p3]]) ((bJ (rfl) rfl)) ?_
 conv => whnf
 refine k2 _ _ ?_
 refine .ret ?_
 conv => whnf
 have e9 := sj h
 subst e9
 refine hQ _ _ _ (d9 (u4 (.bool (!x1.1) :: (u4 (u2 [])))) [.box [.ptr 1 0], .box [.int .i64 x1.2, .int .i64 p2, .int .i64 p3], .box [.int .i64 p4]] (wk [some 0, some 1, some 2] (.u4 (.c rfl (.u4 (.u2 .nil)))) (.b rfl (.c rfl .nil) (.b rfl (.c rfl (.c rfl (.c rfl .nil))) (.b rfl (.c rfl .nil) .nil))) rfl) (bH aJ [0, 1, 2] rfl (.cons (rfl) (.cons (rfl) (.cons (rfl) .nil))) ?_))
 conv => whnf
 first | rfl | (simp; done) | (simp; rfl) | (simp; and_intros <;> rfl)
theorem jU (n : Nat) : qew (dU n) ∧ qes (bO n) ∧ qe0 (dh n) ∧ qez (bV n) := by
 induction n with
 | zero => exact ⟨(fun p0 p1 p2 p3 p4 r h => by unfold dU at h; cases h), (fun p0 p1 p2 p3 p4 r h => by unfold bO at h; cases h), (fun p0 p1 p2 p3 p4 p5 r h => by unfold dh at h; cases h), (fun p0 p1 p2 p3 p4 r h => by unfold bV at h; cases h)⟩
 | succ n ih =>
  exact ⟨(fun p0 p1 p2 p3 p4 r h => yA n _ _ _ _ ih.1 ih.2.1 ih.2.2.1 ih.2.2.2 p0 p1 p2 p3 p4 r (by unfold dU at h; exact h)), (fun p0 p1 p2 p3 p4 r h => wC n _ _ _ _ ih.1 ih.2.1 ih.2.2.1 ih.2.2.2 p0 p1 p2 p3 p4 r (by unfold bO at h; exact h)), (fun p0 p1 p2 p3 p4 p5 r h => yt n _ _ _ _ ih.1 ih.2.1 ih.2.2.1 ih.2.2.2 p0 p1 p2 p3 p4 p5 r (by unfold dh at h; exact h)), (fun p0 p1 p2 p3 p4 r h => wU n _ _ _ _ ih.1 ih.2.1 ih.2.2.1 ih.2.2.2 p0 p1 p2 p3 p4 r (by unfold bV at h; exact h))⟩
theorem BO (n : Nat) : qe0 (dh n) := (jU n).2.2.1
end Abs
end Go.Proofs.YtkopaeklihhdlaaGreat
