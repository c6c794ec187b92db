/-
  Contracts of Go functions (printed). Conditions: none.
-/
import Derived.KernelRfl
import Derived.Test.YtiiaccpcoclklaaGreatCT16x09bcee
set_option linter.unusedSimpArgs false
set_option linter.unusedVariables false
namespace Go.Proofs.YtiiaccpcoclklaaGreat
namespace Abs
open Go Go.Proofs
set_option maxRecDepth 100000
set_option maxHeartbeats 40000000
theorem t17x0 {p q : Prop} (f : p → q) (h : p := by exact li (.u (.s (.s (.s (.u16 (.u16 (.u16 (.u8 (.u (.s (.u16 (.u2 (.u .n)))))))))))))) : q := f h
theorem EU (n : Nat) (p0 : Str) (r : Bool) (h : xM n p0 = some r) : ak Tryz.prog 116 [.str p0] [] (.bool r) [] := by
 unfold xM at h
 refine ah true Tryz.func116 rfl (nt Tryz.ntmps116 rfl) fun Q hQ t ht => ?_
 conv at ht => whnf
 subst ht
 refine .q fun K1 k1 => rg 0 ?_
 refine k1 _ _ ?_
 refine .q fun K2 k2 => ?_
 obtain ⟨s1, hj1, h⟩ := ob h
 have hR1 : ∀ t9 h9, Le 0 t9 h9 (u2 (.bool s1 :: (u4 (u2 [])))) [] → K2 t9 h9 := by
  intro t9 h9 hw
  refine k2 _ _ (AW.le hw ?_)
  clear hw
  refine .ret ?_
  have e9 := sj h
  subst e9
  refine hQ _ _ _ (aj aD (fun g => rfl) ?_)
  conv => whnf
 refine rg 0 ?_
 obtain ⟨x1, hx1, hj1⟩ := ob hj1
 refine au (nD _ _ _ hx1) H7 (.cons (.same _) .nil) (fun g => rfl) (fun g => rfl) ?_
 refine aH hj1 (fun hc1 hj1 => ?_) (fun hc1 hj1 => ?_)
 ·cases hj1
  exact hR1 _ _ (li (.u2 (.s (.u4 (.u2 .n)))))
 obtain ⟨x2, hx2, hj1⟩ := ob hj1
 refine au (Pf _ _ _ hx2) ahU (.cons (.same _) .nil) (fun g => rfl) (fun g => rfl) ?_
 cases hj1
 exact hR1 _ _ (li (.u2 (.s (.u4 (.u2 .n)))))
abbrev R1_typed_S (rec_R1_typed : Ty → Int → Int → Option Int) : Prop := ∀ (p0 : Ty) (p1 : Int) (p2 : Int) (r : Int), rec_R1_typed p0 p1 p2 = some r → ak Tryz.prog 94 [aV p0, .i p1, .i p2] [] (.i r) []
theorem Wt (n : Nat) (rec_R1_typed : Ty → Int → Int → Option Int) (hrec_R1_typed : R1_typed_S rec_R1_typed) (p0 : Ty) (p1 : Int) (p2 : Int) (r : Int) (h : yw n rec_R1_typed p0 p1 p2 = some r) : ak Tryz.prog 94 [aV p0, .i p1, .i p2] [] (.i r) [] := by
 unfold yw at h
 refine ah true Tryz.func94 rfl (nt Tryz.ntmps94 rfl) fun Q hQ t ht => ?_
 conv at ht => whnf
 subst ht
 refine .q fun K1 k1 => rg 1 ?_
 refine k1 _ _ ?_
 refine .q fun K2 k2 => rg 0 ?_
 refine ⟨(IntKind.wrap .i64 (p2 + 1)), rfl, ?_⟩
 refine k2 _ _ ?_
 refine .q fun K3 k3 => .q fun K4 k4 => ?_
 obtain ⟨s1, hj1, h⟩ := ob h
 have hR1 : ∀ t9 h9, Le 0 t9 h9 (.unk :: (.i p1 :: (.i (IntKind.wrap .i64 (p2 + 1)) :: (.ptr 0 0 :: (u16 (u4 (.unk :: (.bool s1 :: (u32 (u16 (u4 (u2 (.unk :: []))))))))))))) [.box [.i p0.kind, .str p0.name, aI p0.kids]] → K4 t9 h9 := by
  intro t9 h9 hw
  refine k4 _ _ (AW.le hw ?_)
  clear hw
  refine .aC rfl h (fun hc1 h => ?_) (fun hc1 h => ?_)
  ·refine .q fun K5 k5 => rg 0 ?_
   refine k5 _ _ ?_
   refine .ret ?_
   have e9 := sj h
   subst e9
   refine hQ _ _ _ (aj aD (fun g => rfl) ?_)
   conv => whnf
  refine .skip ?_
  refine k3 _ _ ?_
  refine .q fun K6 k6 => rg 0 ?_
  refine k6 _ _ ?_
  refine .q fun K7 k7 => ?_
  obtain ⟨o2, hj2, h⟩ := ob h
  have hR2 : ∀ s2 : Int, o2 = .nx s2 → ∀ t9 h9, Le 0 t9 h9 (.unk :: (.i p1 :: (.i (IntKind.wrap .i64 (p2 + 1)) :: (.ptr 0 0 :: (u2 (.unk :: (.i s2 :: (u64 (u8 (.unk :: [])))))))))) [.box [.i p0.kind, .str p0.name, aI p0.kids]] → K7 t9 h9 := by
   intro s2 ho
   subst ho
   dsimp only [LR.el] at h
   intro t9 h9 hw
   refine k7 _ _ (AW.le hw ?_)
   clear hw
   refine .q fun K8 k8 => .q fun K9 k9 => ?_
   obtain ⟨s3, hj3, h⟩ := ob h
   have hR3 : ∀ t9 h9, Le 0 t9 h9 (.unk :: (.i p1 :: (.i (IntKind.wrap .i64 (p2 + 1)) :: (.ptr 0 0 :: (u32 (u16 (u8 (.unk :: (.bool s3 :: (u16 (u2 (.unk :: [])))))))))))) [.box [.i p0.kind, .str p0.name, aI p0.kids]] → K9 t9 h9 := by
    intro t9 h9 hw
    refine k9 _ _ (AW.le hw ?_)
    clear hw
    refine .aC rfl h (fun hc2 h => ?_) (fun hc2 h => ?_)
    ·refine .q fun K10 k10 => rg 0 ?_
     refine k10 _ _ ?_
     refine .ret ?_
     have e9 := sj h
     subst e9
     refine hQ _ _ _ (aj aD (fun g => rfl) ?_)
     conv => whnf
    refine .skip ?_
    refine k8 _ _ ?_
    refine .q fun K11 k11 => .q fun K12 k12 => rg 0 ?_
    refine k12 _ _ ?_
    refine .block ?_
    obtain ⟨o1, ho1, h⟩ := ob h
    have hR4 : ∀ s5 : Int, o1 = .nx s5 → ∀ t9 h9, Le 0 t9 h9 (u2 (.i s5 :: (u64 (u8 (u4 (u2 [])))))) [] → K11 t9 h9 := by
     intro s5 ho
     subst ho
     dsimp only [LR.el] at h
     intro t9 h9 hw
     refine k11 _ _ (AW.le hw ?_)
     refine .q fun K13 k13 => rg 0 ?_
     refine k13 _ _ ?_
     refine .ret ?_
     have e9 := sj h
     subst e9
     refine hQ _ _ _ (aj aD (fun g => rfl) ?_)
     conv => whnf
    refine .loopS (vK n rec_R1_typed p0 p1) (fun (s4 : Int × Int) => (.unk :: (.i p1 :: (.i s4.1 :: (.ptr 0 0 :: (u4 (.i s4.2 :: (u64 (u8 []))))))))) (fun (s4 : Int × Int) => [.box [.i p0.kind, .str p0.name, aI p0.kids]]) ho1 (fun _ => rfl) (li (.u (.s (.s (.s (.u4 (.s (.u16 (.u16 (.u16 (.u16 (.u8 .n)))))))))))) ?_
    intro n1 s4 hs1 KL1 hKL1
    unfold vK at hs1
    refine .q fun K14 k14 => .q fun K15 k15 => rg 0 ?_
    refine aW (l := p0.kids) (f := aK) ?_
    refine k15 _ _ ?_
    refine .aC rfl hs1 (fun hc3 hs1 => ?_) (fun hc3 hs1 => ?_)
    ·refine .skip ?_
     refine k14 _ _ ?_
     refine .q fun K16 k16 => ?_
     refine .block ?_
     refine .q fun K17 k17 => rg 0 ?_
     obtain ⟨x1, hx1, hs1⟩ := ob hs1
     refine aJ (l := p0.kids) (f := aK) (cs := [.i ((x1).kind), .str ((x1).name), aI ((x1).kids)]) hx1 (aR x1) rfl ?_
     refine ⟨(IntKind.wrap .i64 (p1 + 1)), rfl, ?_⟩
     obtain ⟨x2, hx2, hs1⟩ := ob hs1
     refine au (hrec_R1_typed _ _ _ _ hx2) ald (.cons (.same _) (.cons (.same _) (.cons (.same _) .nil))) (fun g => by simp) (fun g => rfl) ?_
     refine k17 _ _ ?_
     refine .q fun K18 k18 => rg 0 ?_
     refine k18 _ _ ?_
     refine .aC rfl hs1 (fun hc4 hs1 => ?_) (fun hc4 hs1 => ?_)
     ·refine .q fun K19 k19 => rg 0 ?_
      refine k19 _ _ ?_
      refine .ret ?_
      have e9 := sj hs1
      subst e9
      dsimp only [LR.el] at h
      have e9 := sj h
      subst e9
      refine hQ _ _ _ (aj aD (fun g => rfl) ?_)
      conv => whnf
     refine .skip ?_
     refine k16 _ _ ?_
     refine .know 8 0 fun hv1 => ?_
     refine .know 64 0 fun hv2 => ?_
     refine rg 0 ?_
     refine ⟨(s4.2 + 1), by have := dn hv1; have := eP hv2; have h8 := of_decide_eq_true hc3; exact bG (by omega) (by omega), ?_⟩
     exact hKL1 _ _ _ hs1 (li (.u (.s (.s (.s (.u4 (.s (.u16 (.u16 (.u16 (.u16 (.u8 .n))))))))))))
    refine .exit ?_
    exact hR4 _ (sj hs1).symm _ _ (wk [] (.u2 (.c rfl (.u64 (.u8 (.u4 (.u2 .nil)))))) .nil rfl)
   refine rg 0 ?_
   refine aW (l := p0.kids) (f := aK) ?_
   refine aH hj3 (fun hc5 hj3 => ?_) (fun hc5 hj3 => ?_)
   ·cases hj3
    exact t17x0 (hR3 _ _)
   refine aH hj3 (fun hc6 hj3 => ?_) (fun hc6 hj3 => ?_)
   ·obtain ⟨x3, hx3, hj3⟩ := ob hj3
    refine au (nD _ _ _ hx3) H7 (.cons (.same _) .nil) (fun g => rfl) (fun g => rfl) ?_
    refine aH hj3 (fun hc7 hj3 => ?_) (fun hc7 hj3 => ?_)
    ·cases hj3
     exact t17x0 (hR3 _ _)
    refine aH hj3 (fun hc8 hj3 => ?_) (fun hc8 hj3 => ?_)
    ·cases hj3
     exact t17x0 (hR3 _ _)
    cases hj3
    exact t17x0 (hR3 _ _)
   refine aH hj3 (fun hc9 hj3 => ?_) (fun hc9 hj3 => ?_)
   ·cases hj3
    exact t17x0 (hR3 _ _)
   cases hj3
   exact t17x0 (hR3 _ _)
  refine .q fun K20 k20 => rg 0 ?_
  refine k20 _ _ ?_
  refine .block ?_
  refine .q fun K21 k21 => ?_
  obtain ⟨s6, hj4, hj2⟩ := ob hj2
  have hR5 : ∀ t9 h9, Le 0 t9 h9 (.unk :: (.i p1 :: (.i (IntKind.wrap .i64 (p2 + 1)) :: (.ptr 0 0 :: (u2 (.unk :: (.i 0 :: (u16 (u2 (.unk :: (.i p0.kind :: (.bool s6 :: (u32 (u16 (u4 []))))))))))))))) [.box [.i p0.kind, .str p0.name, aI p0.kids]] → K21 t9 h9 := by
   intro t9 h9 hw
   refine k21 _ _ (AW.le hw ?_)
   clear hw
   refine .aC rfl hj2 (fun hc10 hj2 => ?_) (fun hc10 hj2 => ?_)
   ·refine .skip ?_
    exact hR2 _ (sj hj2).symm _ _ (li (.u (.s (.s (.s (.u2 (.u (.s (.u16 (.u16 (.u16 (.u16 (.u8 (.u .n))))))))))))))
   refine .q fun K22 k22 => rg 0 ?_
   refine k22 _ _ ?_
   refine .aC rfl hj2 (fun hc11 hj2 => ?_) (fun hc11 hj2 => ?_)
   ·refine rg 0 ?_
    exact hR2 _ (sj hj2).symm _ _ (li (.u (.s (.s (.s (.u2 (.u (.s (.u16 (.u16 (.u16 (.u16 (.u8 (.u .n))))))))))))))
   refine .q fun K23 k23 => rg 0 ?_
   refine k23 _ _ ?_
   refine .aC rfl hj2 (fun hc12 hj2 => ?_) (fun hc12 hj2 => ?_)
   ·refine rg 0 ?_
    exact hR2 _ (sj hj2).symm _ _ (li (.u (.s (.s (.s (.u2 (.u (.s (.u16 (.u16 (.u16 (.u16 (.u8 (.u .n))))))))))))))
   refine .q fun K24 k24 => rg 0 ?_
   refine k24 _ _ ?_
   refine .ret ?_
   have e9 := sj hj2
   subst e9
   dsimp only [LR.el] at h
   have e9 := sj h
   subst e9
   refine hQ _ _ _ (aj aD (fun g => rfl) ?_)
   conv => whnf
  refine .q fun K25 k25 => rg 0 ?_
  refine k25 _ _ ?_
  refine .aC rfl hj4 (fun hc13 hj4 => ?_) (fun hc13 hj4 => ?_)
  ·refine .skip ?_
   cases hj4
   exact hR5 _ _ (li (.u (.s (.s (.s (.u2 (.u (.s (.u16 (.u2 (.u (.s (.s (.u16 (.u16 (.u16 (.u4 .n)))))))))))))))))
  refine .q fun K26 k26 => rg 0 ?_
  refine k26 _ _ ?_
  refine .aC rfl hj4 (fun hc14 hj4 => ?_) (fun hc14 hj4 => ?_)
  ·refine .skip ?_
   cases hj4
   exact hR5 _ _ (li (.u (.s (.s (.s (.u2 (.u (.s (.u16 (.u2 (.u (.s (.s (.u16 (.u16 (.u16 (.u4 .n)))))))))))))))))
  refine rg 0 ?_
  cases hj4
  exact hR5 _ _ (li (.u (.s (.s (.s (.u2 (.u (.s (.u16 (.u2 (.u (.s (.s (.u16 (.u16 (.u16 (.u4 .n)))))))))))))))))
 refine rg 0 ?_
 refine aH hj1 (fun hc15 hj1 => ?_) (fun hc15 hj1 => ?_)
 ·cases hj1
  exact hR1 _ _ (li (.u (.s (.s (.s (.u16 (.u4 (.u (.s (.u16 (.u16 (.u16 (.u4 (.u2 (.u .n)))))))))))))))
 refine aH hj1 (fun hc16 hj1 => ?_) (fun hc16 hj1 => ?_)
 ·cases hj1
  exact hR1 _ _ (li (.u (.s (.s (.s (.u16 (.u4 (.u (.s (.u16 (.u16 (.u16 (.u4 (.u2 (.u .n)))))))))))))))
 refine aH hj1 (fun hc17 hj1 => ?_) (fun hc17 hj1 => ?_)
 ·cases hj1
  exact hR1 _ _ (li (.u (.s (.s (.s (.u16 (.u4 (.u (.s (.u16 (.u16 (.u16 (.u4 (.u2 (.u .n)))))))))))))))
 cases hj1
 exact hR1 _ _ (li (.u (.s (.s (.s (.u16 (.u4 (.u (.s (.u16 (.u16 (.u16 (.u4 (.u2 (.u .n)))))))))))))))
theorem ad5 (n : Nat) : R1_typed_S (rG n) := by
 induction n with
 | zero => exact (fun p0 p1 p2 r h => by unfold rG at h; cases h)
 | succ n ih =>
  exact (fun p0 p1 p2 r h => Wt n _ ih p0 p1 p2 r (by unfold rG at h; exact h))
theorem agd (n : Nat) : R1_typed_S (rG n) := (ad5 n)
theorem jD (n : Nat) (p0 : Ty) (r : Bool) (h : iC n p0 = some r) : ak Tryz.prog 42 [aV p0] [] (.bool r) [] := by
 unfold iC at h
 refine ah true Tryz.func42 rfl (nt Tryz.ntmps42 rfl) fun Q hQ t ht => ?_
 conv at ht => whnf
 subst ht
 refine .q fun K1 k1 => rg 1 ?_
 refine k1 _ _ ?_
 refine .q fun K2 k2 => rg 0 ?_
 obtain ⟨x1, hx1, h⟩ := ob h
 refine au (agd _ _ _ _ _ hx1) ald (.cons (.same _) (.cons (.same _) (.cons (.same _) .nil))) (fun g => by simp) (fun g => rfl) ?_
 refine k2 _ _ ?_
 refine .ret ?_
 have e9 := sj h
 subst e9
 refine hQ _ _ _ (aj aD (fun g => rfl) ?_)
 conv => whnf
theorem t19x0 {p q : Prop} (f : p → q) (h : p := by exact li (.u (.s (.u16 (.u16 (.u16 (.u16 (.u4 (.u2 (.s (.u8 (.u4 (.u2 (.u .n)))))))))))))) : q := f h
theorem t19x1 {p q : Prop} (f : p → q) (h : p := by exact li (.u (.s (.u16 (.u8 (.u2 (.u (.s (.u16 (.u16 (.u16 (.u8 (.u2 .n))))))))))))) : q := f h
theorem ai1 (n : Nat) (p0 : Int) (r : Int) (h : LY n p0 = some r) : ak Tryz.prog 235 [.i p0] [] (.i r) [] := by
 unfold LY at h
 refine ah true Tryz.func235 rfl (nt Tryz.ntmps235 rfl) fun Q hQ t ht => ?_
 conv at ht => whnf
 subst ht
 refine .q fun K1 k1 => rg 0 ?_
 refine k1 _ _ ?_
 refine .q fun K2 k2 => ?_
 refine .block ?_
 refine .q fun K3 k3 => ?_
 obtain ⟨s1, hj1, h⟩ := ob h
 have hR1 : ∀ t9 h9, Le 0 t9 h9 (.i p0 :: (u2 (.bool s1 :: (u32 (u8 (u2 (.unk :: []))))))) [] → K3 t9 h9 := by
  intro t9 h9 hw
  refine k3 _ _ (AW.le hw ?_)
  clear hw
  refine .aC rfl h (fun hc1 h => ?_) (fun hc1 h => ?_)
  ·refine .q fun K4 k4 => rg 0 ?_
   refine k4 _ _ ?_
   refine .ret ?_
   have e9 := sj h
   subst e9
   refine hQ _ _ _ (aj aD (fun g => rfl) ?_)
   conv => whnf
  refine .q fun K5 k5 => ?_
  obtain ⟨s2, hj2, h⟩ := ob h
  have hR2 : ∀ t9 h9, Le 0 t9 h9 (.i p0 :: (u16 (u4 (.unk :: (.bool s2 :: (u16 (u8 []))))))) [] → K5 t9 h9 := by
   intro t9 h9 hw
   refine k5 _ _ (AW.le hw ?_)
   clear hw
   refine .aC rfl h (fun hc2 h => ?_) (fun hc2 h => ?_)
   ·refine .q fun K6 k6 => rg 0 ?_
    refine k6 _ _ ?_
    refine .ret ?_
    have e9 := sj h
    subst e9
    refine hQ _ _ _ (aj aD (fun g => rfl) ?_)
    conv => whnf
   refine .q fun K7 k7 => rg 0 ?_
   refine k7 _ _ ?_
   refine .aC rfl h (fun hc3 h => ?_) (fun hc3 h => ?_)
   ·refine .q fun K8 k8 => rg 0 ?_
    refine k8 _ _ ?_
    refine .ret ?_
    have e9 := sj h
    subst e9
    refine hQ _ _ _ (aj aD (fun g => rfl) ?_)
    conv => whnf
   refine .q fun K9 k9 => ?_
   obtain ⟨s3, hj3, h⟩ := ob h
   have hR3 : ∀ t9 h9, Le 0 t9 h9 (u32 (u8 (.bool s3 :: (u4 (u2 []))))) [] → K9 t9 h9 := by
    intro t9 h9 hw
    refine k9 _ _ (AW.le hw ?_)
    clear hw
    refine .aC rfl h (fun hc4 h => ?_) (fun hc4 h => ?_)
    ·refine .q fun K10 k10 => rg 0 ?_
     refine k10 _ _ ?_
     refine .ret ?_
     have e9 := sj h
     subst e9
     refine hQ _ _ _ (aj aD (fun g => rfl) ?_)
     conv => whnf
    refine .skip ?_
    refine k2 _ _ ?_
    refine .q fun K11 k11 => rg 0 ?_
    refine k11 _ _ ?_
    refine .ret ?_
    have e9 := sj h
    subst e9
    refine hQ _ _ _ (aj aD (fun g => rfl) ?_)
    conv => whnf
   refine rg 0 ?_
   refine aH hj3 (fun hc5 hj3 => ?_) (fun hc5 hj3 => ?_)
   ·cases hj3
    exact hR3 _ _ (li (.u16 (.u16 (.u8 (.s (.u4 (.u2 .n)))))))
   cases hj3
   exact hR3 _ _ (li (.u16 (.u16 (.u8 (.s (.u4 (.u2 .n)))))))
  refine rg 0 ?_
  refine aH hj2 (fun hc6 hj2 => ?_) (fun hc6 hj2 => ?_)
  ·cases hj2
   exact hR2 _ _ (li (.s (.u16 (.u4 (.u (.s (.u16 (.u8 .n))))))))
  refine aH hj2 (fun hc7 hj2 => ?_) (fun hc7 hj2 => ?_)
  ·cases hj2
   exact hR2 _ _ (li (.s (.u16 (.u4 (.u (.s (.u16 (.u8 .n))))))))
  refine aH hj2 (fun hc8 hj2 => ?_) (fun hc8 hj2 => ?_)
  ·cases hj2
   exact hR2 _ _ (li (.s (.u16 (.u4 (.u (.s (.u16 (.u8 .n))))))))
  cases hj2
  exact hR2 _ _ (li (.s (.u16 (.u4 (.u (.s (.u16 (.u8 .n))))))))
 refine rg 0 ?_
 refine aH hj1 (fun hc9 hj1 => ?_) (fun hc9 hj1 => ?_)
 ·cases hj1
  exact hR1 _ _ (li (.s (.u2 (.s (.u16 (.u16 (.u8 (.u2 (.u .n)))))))))
 refine aH hj1 (fun hc10 hj1 => ?_) (fun hc10 hj1 => ?_)
 ·cases hj1
  exact hR1 _ _ (li (.s (.u2 (.s (.u16 (.u16 (.u8 (.u2 (.u .n)))))))))
 refine aH hj1 (fun hc11 hj1 => ?_) (fun hc11 hj1 => ?_)
 ·cases hj1
  exact hR1 _ _ (li (.s (.u2 (.s (.u16 (.u16 (.u8 (.u2 (.u .n)))))))))
 refine aH hj1 (fun hc12 hj1 => ?_) (fun hc12 hj1 => ?_)
 ·cases hj1
  exact hR1 _ _ (li (.s (.u2 (.s (.u16 (.u16 (.u8 (.u2 (.u .n)))))))))
 cases hj1
 exact hR1 _ _ (li (.s (.u2 (.s (.u16 (.u16 (.u8 (.u2 (.u .n)))))))))
theorem qD (n : Nat) (p0 : Int) (r : Bool) (h : jh n p0 = some r) : ak Tryz.prog 79 [.i p0] [] (.bool r) [] := by
 unfold jh at h
 refine ah true Tryz.func79 rfl (nt Tryz.ntmps79 rfl) fun Q hQ t ht => ?_
 conv at ht => whnf
 subst ht
 refine .q fun K1 k1 => rg 0 ?_
 refine k1 _ _ ?_
 refine .q fun K2 k2 => ?_
 obtain ⟨s1, hj1, h⟩ := ob h
 have hR1 : ∀ t9 h9, Le 0 t9 h9 (u2 (.bool s1 :: (u8 (u4 (u2 []))))) [] → K2 t9 h9 := by
  intro t9 h9 hw
  refine k2 _ _ (AW.le hw ?_)
  clear hw
  refine .ret ?_
  have e9 := sj h
  subst e9
  refine hQ _ _ _ (aj aD (fun g => rfl) ?_)
  conv => whnf
 refine rg 0 ?_
 refine aH hj1 (fun hc1 hj1 => ?_) (fun hc1 hj1 => ?_)
 ·cases hj1
  exact hR1 _ _ (li (.u2 (.s (.u8 (.u4 (.u2 .n))))))
 refine aH hj1 (fun hc2 hj1 => ?_) (fun hc2 hj1 => ?_)
 ·cases hj1
  exact hR1 _ _ (li (.u2 (.s (.u8 (.u4 (.u2 .n))))))
 refine aH hj1 (fun hc3 hj1 => ?_) (fun hc3 hj1 => ?_)
 ·cases hj1
  exact hR1 _ _ (li (.u2 (.s (.u8 (.u4 (.u2 .n))))))
 cases hj1
 exact hR1 _ _ (li (.u2 (.s (.u8 (.u4 (.u2 .n))))))
theorem ab6 (n : Nat) (p0 : Ty) (r : Bool) (h : Ba n p0 = some r) : ak Tryz.prog 236 [aV p0] [] (.bool r) [] := by
 unfold Ba at h
 refine ah true Tryz.func236 rfl (nt Tryz.ntmps236 rfl) fun Q hQ t ht => ?_
 conv at ht => whnf
 subst ht
 refine .q fun K1 k1 => rg 1 ?_
 refine k1 _ _ ?_
 refine .q fun K2 k2 => ?_
 obtain ⟨s1, hj1, h⟩ := ob h
 have hR1 : ∀ t9 h9, Le 0 t9 h9 (u2 (.bool s1 :: (u8 (u4 (u2 []))))) [] → K2 t9 h9 := by
  intro t9 h9 hw
  refine k2 _ _ (AW.le hw ?_)
  clear hw
  refine .ret ?_
  have e9 := sj h
  subst e9
  refine hQ _ _ _ (aj aD (fun g => rfl) ?_)
  conv => whnf
 refine rg 0 ?_
 refine aH hj1 (fun hc1 hj1 => ?_) (fun hc1 hj1 => ?_)
 ·refine aH hj1 (fun hc2 hj1 => ?_) (fun hc2 hj1 => ?_)
  ·refine aW (l := p0.kids) (f := aK) ?_
   cases hj1
   exact hR1 _ _ (wk [] (.u2 (.c rfl (.u8 (.u4 (.u2 .nil))))) .nil rfl)
  cases hj1
  exact hR1 _ _ (wk [] (.u2 (.c rfl (.u8 (.u4 (.u2 .nil))))) .nil rfl)
 cases hj1
 exact hR1 _ _ (wk [] (.u2 (.c rfl (.u8 (.u4 (.u2 .nil))))) .nil rfl)
theorem ajN (n : Nat) (p0 : Tm) (r : Bool) (h : L6 n p0 = some r) : ak Tryz.prog 141 [bg p0] [] (.bool r) [] := by
 unfold L6 at h
 refine ah true Tryz.func141 rfl (nt Tryz.ntmps141 rfl) fun Q hQ t ht => ?_
 conv at ht => whnf
 subst ht
 refine .q fun K1 k1 => rg 1 ?_
 refine k1 _ _ ?_
 refine .q fun K2 k2 => rg 0 ?_
 obtain ⟨x1, hx1, h⟩ := ob h
 refine au (ai1 _ _ _ hx1) aoW (.cons (.same _) .nil) (fun g => rfl) (fun g => rfl) ?_
 refine k2 _ _ ?_
 refine .q fun K3 k3 => .q fun K4 k4 => ?_
 obtain ⟨s1, hj1, h⟩ := ob h
 have hR1 : ∀ t9 h9, Le 0 t9 h9 (.unk :: (.ptr 0 0 :: (u16 (u8 (u2 (.unk :: (.bool s1 :: (u32 (u16 (u8 (u2 []))))))))))) [.box [.i p0.op, .str p0.name, .i p0.n, .i p0.ty.kind, .str p0.ty.name, aI p0.ty.kids, bn p0.kids]] → K4 t9 h9 := by
  intro t9 h9 hw
  refine k4 _ _ (AW.le hw ?_)
  clear hw
  refine .aC rfl h (fun hc1 h => ?_) (fun hc1 h => ?_)
  ·refine .q fun K5 k5 => rg 0 ?_
   refine k5 _ _ ?_
   refine .ret ?_
   have e9 := sj h
   subst e9
   refine hQ _ _ _ (aj aD (fun g => rfl) ?_)
   conv => whnf
  refine .skip ?_
  refine k3 _ _ ?_
  refine .q fun K6 k6 => ?_
  obtain ⟨o1, hj2, h⟩ := ob h
  have hR2 : ∀ s2 : Unit, o1 = .nx s2 → ∀ t9 h9, Le 0 t9 h9 (.unk :: (.ptr 0 0 :: (u64 (u16 (u4 (u2 [])))))) [.box [.i p0.op, .str p0.name, .i p0.n, .i p0.ty.kind, .str p0.ty.name, aI p0.ty.kids, bn p0.kids]] → K6 t9 h9 := by
   intro s2 ho
   subst ho
   dsimp only [LR.el] at h
   intro t9 h9 hw
   refine k6 _ _ (AW.le hw ?_)
   clear hw
   refine .q fun K7 k7 => .q fun K8 k8 => ?_
   obtain ⟨s3, hj3, h⟩ := ob h
   have hR3 : ∀ t9 h9, Le 0 t9 h9 (.unk :: (.ptr 0 0 :: (u64 (u4 (u2 (.bool s3 :: (u8 (u4 (u2 (.unk :: [])))))))))) [.box [.i p0.op, .str p0.name, .i p0.n, .i p0.ty.kind, .str p0.ty.name, aI p0.ty.kids, bn p0.kids]] → K8 t9 h9 := by
    intro t9 h9 hw
    refine k8 _ _ (AW.le hw ?_)
    clear hw
    refine .aC rfl h (fun hc2 h => ?_) (fun hc2 h => ?_)
    ·refine .q fun K9 k9 => rg 0 ?_
     refine k9 _ _ ?_
     refine .ret ?_
     have e9 := sj h
     subst e9
     refine hQ _ _ _ (aj aD (fun g => rfl) ?_)
     conv => whnf
    refine .skip ?_
    refine k7 _ _ ?_
    refine .q fun K10 k10 => .q fun K11 k11 => rg 0 ?_
    refine k11 _ _ ?_
    refine .aC rfl h (fun hc3 h => ?_) (fun hc3 h => ?_)
    ·refine .q fun K12 k12 => ?_
     obtain ⟨s4, hj4, h⟩ := ob h
     have hR4 : ∀ t9 h9, Le 0 t9 h9 (u2 (.bool s4 :: (u64 (u16 (u4 (.unk :: [])))))) [] → K12 t9 h9 := by
      intro t9 h9 hw
      refine k12 _ _ (AW.le hw ?_)
      clear hw
      refine .ret ?_
      have e9 := sj h
      subst e9
      refine hQ _ _ _ (aj aD (fun g => rfl) ?_)
      conv => whnf
     refine rg 0 ?_
     obtain ⟨x2, hx2, hj4⟩ := ob hj4
     refine au (jD _ _ _ hx2) BH (.cons (.same _) .nil) (fun g => by simp) (fun g => rfl) ?_
     refine aH hj4 (fun hc4 hj4 => ?_) (fun hc4 hj4 => ?_)
     ·cases hj4
      exact hR4 _ _ (wk [] (.u2 (.c rfl (.u64 (.u16 (.u4 (.u .nil)))))) .nil rfl)
     cases hj4
     exact hR4 _ _ (wk [] (.u2 (.c rfl (.u64 (.u16 (.u4 (.u .nil)))))) .nil rfl)
    refine .skip ?_
    refine k10 _ _ ?_
    refine .q fun K13 k13 => rg 0 ?_
    obtain ⟨x3, hx3, h⟩ := ob h
    refine au (ab6 _ _ _ hx3) apO (.cons (.same _) .nil) (fun g => by simp) (fun g => rfl) ?_
    refine k13 _ _ ?_
    refine .ret ?_
    have e9 := sj h
    subst e9
    refine hQ _ _ _ (aj aD (fun g => rfl) ?_)
    conv => whnf
   refine rg 0 ?_
   refine aH hj3 (fun hc5 hj3 => ?_) (fun hc5 hj3 => ?_)
   ·refine aH hj3 (fun hc6 hj3 => ?_) (fun hc6 hj3 => ?_)
    ·cases hj3
     exact t19x0 (hR3 _ _)
    refine aH hj3 (fun hc7 hj3 => ?_) (fun hc7 hj3 => ?_)
    ·cases hj3
     exact t19x0 (hR3 _ _)
    refine aH hj3 (fun hc8 hj3 => ?_) (fun hc8 hj3 => ?_)
    ·cases hj3
     exact t19x0 (hR3 _ _)
    cases hj3
    exact t19x0 (hR3 _ _)
   refine aH hj3 (fun hc9 hj3 => ?_) (fun hc9 hj3 => ?_)
   ·cases hj3
    exact t19x0 (hR3 _ _)
   cases hj3
   exact t19x0 (hR3 _ _)
  refine .block ?_
  refine .q fun K14 k14 => rg 0 ?_
  refine k14 _ _ ?_
  refine .aC rfl hj2 (fun hc10 hj2 => ?_) (fun hc10 hj2 => ?_)
  ·refine .q fun K15 k15 => rg 0 ?_
   obtain ⟨x4, hx4, hj2⟩ := ob hj2
   refine au (EU _ _ _ hx4) Rt (.cons (.same _) .nil) (fun g => rfl) (fun g => rfl) ?_
   refine k15 _ _ ?_
   refine .aC rfl hj2 (fun hc11 hj2 => ?_) (fun hc11 hj2 => ?_)
   ·refine .q fun K16 k16 => rg 0 ?_
    refine k16 _ _ ?_
    refine .ret ?_
    have e9 := sj hj2
    subst e9
    dsimp only [LR.el] at h
    have e9 := sj h
    subst e9
    refine hQ _ _ _ (aj aD (fun g => rfl) ?_)
    conv => whnf
   refine .skip ?_
   exact hR2 _ (sj hj2).symm _ _ (li (.u (.s (.u16 (.u16 (.u16 (.u16 (.u16 (.u4 (.u2 .n))))))))))
  refine .q fun K17 k17 => rg 0 ?_
  obtain ⟨x5, hx5, hj2⟩ := ob hj2
  refine au (qD _ _ _ hx5) E8 (.cons (.same _) .nil) (fun g => rfl) (fun g => rfl) ?_
  refine k17 _ _ ?_
  refine .aC rfl hj2 (fun hc12 hj2 => ?_) (fun hc12 hj2 => ?_)
  ·refine .q fun K18 k18 => rg 0 ?_
   obtain ⟨x6, hx6, hj2⟩ := ob hj2
   refine au (nD _ _ _ hx6) H7 (.cons (.same _) .nil) (fun g => rfl) (fun g => rfl) ?_
   refine k18 _ _ ?_
   refine .aC rfl hj2 (fun hc13 hj2 => ?_) (fun hc13 hj2 => ?_)
   ·refine .q fun K19 k19 => rg 0 ?_
    refine k19 _ _ ?_
    refine .ret ?_
    have e9 := sj hj2
    subst e9
    dsimp only [LR.el] at h
    have e9 := sj h
    subst e9
    refine hQ _ _ _ (aj aD (fun g => rfl) ?_)
    conv => whnf
   refine .skip ?_
   exact hR2 _ (sj hj2).symm _ _ (li (.u (.s (.u16 (.u16 (.u16 (.u16 (.u16 (.u4 (.u2 .n))))))))))
  refine .q fun K20 k20 => rg 0 ?_
  refine k20 _ _ ?_
  refine .aC rfl hj2 (fun hc14 hj2 => ?_) (fun hc14 hj2 => ?_)
  ·refine .q fun K21 k21 => rg 0 ?_
   refine k21 _ _ ?_
   refine .ret ?_
   have e9 := sj hj2
   subst e9
   dsimp only [LR.el] at h
   have e9 := sj h
   subst e9
   refine hQ _ _ _ (aj aD (fun g => rfl) ?_)
   conv => whnf
  refine .skip ?_
  exact hR2 _ (sj hj2).symm _ _ (li (.u (.s (.u16 (.u16 (.u16 (.u16 (.u16 (.u4 (.u2 .n))))))))))
 refine rg 0 ?_
 refine aH hj1 (fun hc15 hj1 => ?_) (fun hc15 hj1 => ?_)
 ·cases hj1
  exact t19x1 (hR1 _ _)
 refine aH hj1 (fun hc16 hj1 => ?_) (fun hc16 hj1 => ?_)
 ·refine aW (l := p0.kids) (f := aS) ?_
  refine aH hj1 (fun hc17 hj1 => ?_) (fun hc17 hj1 => ?_)
  ·cases hj1
   exact t19x1 (hR1 _ _)
  refine aH hj1 (fun hc18 hj1 => ?_) (fun hc18 hj1 => ?_)
  ·refine aW (l := p0.kids) (f := aS) ?_
   cases hj1
   exact t19x1 (hR1 _ _)
  cases hj1
  exact t19x1 (hR1 _ _)
 refine aH hj1 (fun hc19 hj1 => ?_) (fun hc19 hj1 => ?_)
 ·refine aW (l := p0.kids) (f := aS) ?_
  cases hj1
  exact t19x1 (hR1 _ _)
 cases hj1
 exact t19x1 (hR1 _ _)
abbrev R1_nodes_S (rec_R1_nodes : Tm → Int → Int → Option Int) : Prop := ∀ (p0 : Tm) (p1 : Int) (p2 : Int) (r : Int), rec_R1_nodes p0 p1 p2 = some r → ak Tryz.prog 73 [bg p0, .i p1, .i p2] [] (.i r) []
theorem VD (n : Nat) (rec_R1_nodes : Tm → Int → Int → Option Int) (hrec_R1_nodes : R1_nodes_S rec_R1_nodes) (p0 : Tm) (p1 : Int) (p2 : Int) (r : Int) (h : yP n rec_R1_nodes p0 p1 p2 = some r) : ak Tryz.prog 73 [bg p0, .i p1, .i p2] [] (.i r) [] := by
 unfold yP at h
 refine ah true Tryz.func73 rfl (nt Tryz.ntmps73 rfl) fun Q hQ t ht => ?_
 conv at ht => whnf
 subst ht
 refine .q fun K1 k1 => rg 1 ?_
 refine k1 _ _ ?_
 refine .q fun K2 k2 => rg 0 ?_
 refine ⟨(IntKind.wrap .i64 (p2 + 1)), rfl, ?_⟩
 refine k2 _ _ ?_
 refine .q fun K3 k3 => .q fun K4 k4 => ?_
 obtain ⟨s1, hj1, h⟩ := ob h
 have hR1 : ∀ t9 h9, Le 0 t9 h9 (.unk :: (.i p1 :: (.i (IntKind.wrap .i64 (p2 + 1)) :: (.ptr 0 0 :: (u16 (.bool s1 :: (u16 (u2 (.unk :: []))))))))) [.box [.i p0.op, .str p0.name, .i p0.n, .i p0.ty.kind, .str p0.ty.name, aI p0.ty.kids, bn p0.kids]] → K4 t9 h9 := by
  intro t9 h9 hw
  refine k4 _ _ (AW.le hw ?_)
  clear hw
  refine .aC rfl h (fun hc1 h => ?_) (fun hc1 h => ?_)
  ·refine .q fun K5 k5 => rg 0 ?_
   refine k5 _ _ ?_
   refine .ret ?_
   have e9 := sj h
   subst e9
   refine hQ _ _ _ (aj aD (fun g => rfl) ?_)
   conv => whnf
  refine .skip ?_
  refine k3 _ _ ?_
  refine .q fun K6 k6 => .q fun K7 k7 => rg 0 ?_
  refine k7 _ _ ?_
  refine .block ?_
  obtain ⟨o1, ho1, h⟩ := ob h
  have hR2 : ∀ s3 : Int, o1 = .nx s3 → ∀ t9 h9, Le 0 t9 h9 (u2 (.i s3 :: (u32 (u4 (.unk :: []))))) [] → K6 t9 h9 := by
   intro s3 ho
   subst ho
   dsimp only [LR.el] at h
   intro t9 h9 hw
   refine k6 _ _ (AW.le hw ?_)
   refine .q fun K8 k8 => rg 0 ?_
   refine k8 _ _ ?_
   refine .ret ?_
   have e9 := sj h
   subst e9
   refine hQ _ _ _ (aj aD (fun g => rfl) ?_)
   conv => whnf
  refine .loopS (Bw n rec_R1_nodes p0 p1) (fun (s2 : Int × Int) => (.unk :: (.i p1 :: (.i s2.1 :: (.ptr 0 0 :: (u2 (.unk :: (.i s2.2 :: (u32 []))))))))) (fun (s2 : Int × Int) => [.box [.i p0.op, .str p0.name, .i p0.n, .i p0.ty.kind, .str p0.ty.name, aI p0.ty.kids, bn p0.kids]]) ho1 (fun _ => rfl) (li (.u (.s (.s (.s (.u2 (.u (.s (.u16 (.u16 .n)))))))))) ?_
  intro n1 s2 hs1 KL1 hKL1
  unfold Bw at hs1
  refine .q fun K9 k9 => .q fun K10 k10 => rg 0 ?_
  refine aW (l := p0.kids) (f := aS) ?_
  refine k10 _ _ ?_
  refine .aC rfl hs1 (fun hc2 hs1 => ?_) (fun hc2 hs1 => ?_)
  ·refine .skip ?_
   refine k9 _ _ ?_
   refine .q fun K11 k11 => ?_
   refine .block ?_
   refine .q fun K12 k12 => rg 0 ?_
   obtain ⟨x1, hx1, hs1⟩ := ob hs1
   refine aJ (l := p0.kids) (f := aS) (cs := [.i ((x1).op), .str ((x1).name), .i ((x1).n), .i (((x1).ty).kind), .str (((x1).ty).name), aI (((x1).ty).kids), bn ((x1).kids)]) hx1 (aX x1) rfl ?_
   refine ⟨(IntKind.wrap .i64 (p1 + 1)), rfl, ?_⟩
   obtain ⟨x2, hx2, hs1⟩ := ob hs1
   refine au (hrec_R1_nodes _ _ _ _ hx2) ae8 (.cons (.same _) (.cons (.same _) (.cons (.same _) .nil))) (fun g => by simp) (fun g => rfl) ?_
   refine k12 _ _ ?_
   refine .q fun K13 k13 => rg 0 ?_
   refine k13 _ _ ?_
   refine .aC rfl hs1 (fun hc3 hs1 => ?_) (fun hc3 hs1 => ?_)
   ·refine .q fun K14 k14 => rg 0 ?_
    refine k14 _ _ ?_
    refine .ret ?_
    have e9 := sj hs1
    subst e9
    dsimp only [LR.el] at h
    have e9 := sj h
    subst e9
    refine hQ _ _ _ (aj aD (fun g => rfl) ?_)
    conv => whnf
   refine .skip ?_
   refine k11 _ _ ?_
   refine .know 7 0 fun hv1 => ?_
   refine .know 23 0 fun hv2 => ?_
   refine rg 0 ?_
   refine ⟨(s2.2 + 1), by have := dn hv1; have := eP hv2; have h8 := of_decide_eq_true hc2; exact bG (by omega) (by omega), ?_⟩
   exact hKL1 _ _ _ hs1 (li (.u (.s (.s (.s (.u2 (.u (.s (.u16 (.u16 .n))))))))))
  refine .exit ?_
  exact hR2 _ (sj hs1).symm _ _ (wk [] (.u2 (.c rfl (.u32 (.u4 (.u .nil))))) .nil rfl)
 refine rg 0 ?_
 refine aH hj1 (fun hc4 hj1 => ?_) (fun hc4 hj1 => ?_)
 ·cases hj1
  exact hR1 _ _ (li (.u (.s (.s (.s (.u16 (.s (.u16 (.u2 (.u .n))))))))))
 refine aH hj1 (fun hc5 hj1 => ?_) (fun hc5 hj1 => ?_)
 ·cases hj1
  exact hR1 _ _ (li (.u (.s (.s (.s (.u16 (.s (.u16 (.u2 (.u .n))))))))))
 obtain ⟨x3, hx3, hj1⟩ := ob hj1
 refine au (ajN _ _ _ hx3) aoM (.cons (.same _) .nil) (fun g => by simp) (fun g => rfl) ?_
 cases hj1
 exact hR1 _ _ (li (.u (.s (.s (.s (.u16 (.s (.u16 (.u2 (.u .n))))))))))
theorem aem (n : Nat) : R1_nodes_S (tL n) := by
 induction n with
 | zero => exact (fun p0 p1 p2 r h => by unfold tL at h; cases h)
 | succ n ih =>
  exact (fun p0 p1 p2 r h => VD n _ ih p0 p1 p2 r (by unfold tL at h; exact h))
theorem UE (n : Nat) : R1_nodes_S (tL n) := (aem n)
theorem jE (n : Nat) (p0 : Tm) (r : Bool) (h : jS n p0 = some r) : ak Tryz.prog 21 [bg p0] [] (.bool r) [] := by
 unfold jS at h
 refine ah true Tryz.func21 rfl (nt Tryz.ntmps21 rfl) fun Q hQ t ht => ?_
 conv at ht => whnf
 subst ht
 refine .q fun K1 k1 => rg 1 ?_
 refine k1 _ _ ?_
 refine .q fun K2 k2 => rg 0 ?_
 obtain ⟨x1, hx1, h⟩ := ob h
 refine au (UE _ _ _ _ _ hx1) ae8 (.cons (.same _) (.cons (.same _) (.cons (.same _) .nil))) (fun g => by simp) (fun g => rfl) ?_
 refine k2 _ _ ?_
 refine .ret ?_
 have e9 := sj h
 subst e9
 refine hQ _ _ _ (aj aD (fun g => rfl) ?_)
 conv => whnf
end Abs
end Go.Proofs.YtiiaccpcoclklaaGreat
