/-
  Contracts of Go functions (printed). Conditions: none.
-/
import Derived.KernelRfl
import Derived.Test.YtiiaccpcoclklaaGreatCT20ox0adcb1
set_option linter.unusedSimpArgs false
set_option linter.unusedVariables false
namespace Go.Proofs.YtiiaccpcoclklaaGreat
namespace Abs
open Go Go.Proofs
set_option maxRecDepth 100000
set_option maxHeartbeats 40000000
theorem t21x0 {p q : Prop} (f : p → q) (h : p := by exact li (.u4 (.s (.s (.u16 (.u16 (.u16 (.u16 (.u16 (.u8 (.u4 (.u .n)))))))))))) : q := f h
theorem t21x1 {p q : Prop} (f : p → q) (h : p := by exact li (.u (.s (.u2 (.s (.u (.s (.u4 (.s (.u16 (.u16 (.u16 (.u16 (.u16 (.u4 (.u2 (.u .n))))))))))))))))) : q := f h
theorem t21x2 {p q : Prop} (f : p → q) (h : p := by exact li (.u (.s (.u2 (.s (.u (.s (.u16 (.u16 (.u8 (.u4 (.u2 (.u (.s (.u16 (.u16 (.u8 (.u4 .n)))))))))))))))))) : q := f h
theorem agj (n : Nat) (p0 : Int) (p1 : List Ty) (r : Ty × Bool) (h : xV n p0 p1 = some r) : ak Tryz.prog 233 [.i p0, aI p1] [] (.bq [aV r.1, .bool r.2]) [] := by
 unfold xV at h
 refine ah true Tryz.func233 rfl (nt Tryz.ntmps233 rfl) fun Q hQ t ht => ?_
 conv at ht => whnf
 subst ht
 refine .q fun K1 k1 => rg 1 ?_
 refine k1 _ _ ?_
 refine .q fun K2 k2 => .q fun K3 k3 => rg 0 ?_
 refine k3 _ _ ?_
 refine .block ?_
 refine .q fun K4 k4 => ?_
 obtain ⟨s1, hj1, h⟩ := ob h
 have hR1 : ∀ t9 h9, Le 0 t9 h9 (.unk :: (aI p1 :: (u2 (.ptr 0 0 :: (.unk :: (.i p0 :: (.bool s1 :: (u64 (u16 (u8 (u2 (.unk :: [])))))))))))) [.box [.i 0, .str ([] : Str), .slice (List.map aK ([] : List Ty)) .nils]] → K4 t9 h9 := by
  intro t9 h9 hw
  refine k4 _ _ (AW.le hw ?_)
  clear hw
  refine .aC rfl h (fun hc1 h => ?_) (fun hc1 h => ?_)
  ·refine .q fun K5 k5 => rg 0 ?_
   refine au (u7 0 _ rfl) CJ .nil (fun g => rfl) (fun g => by simp) ?_
   refine k5 _ _ ?_
   refine .ret ?_
   have e9 := sj h
   subst e9
   refine hQ _ _ _ (aj aD (fun g => by simp) ?_)
   conv => whnf
   try rfl
  refine .q fun K6 k6 => ?_
  obtain ⟨s2, hj2, h⟩ := ob h
  have hR2 : ∀ t9 h9, Le 0 t9 h9 (.unk :: (aI p1 :: (u2 (.ptr 0 0 :: (.unk :: (.i p0 :: (u4 (.bool s2 :: (u64 (u16 (u4 (u2 (.unk :: []))))))))))))) [.box [.i 0, .str ([] : Str), .slice (List.map aK ([] : List Ty)) .nils]] → K6 t9 h9 := by
   intro t9 h9 hw
   refine k6 _ _ (AW.le hw ?_)
   clear hw
   refine .aC rfl h (fun hc2 h => ?_) (fun hc2 h => ?_)
   ·refine .q fun K7 k7 => rg 0 ?_
    refine au (u7 0 _ rfl) CJ .nil (fun g => rfl) (fun g => by simp) ?_
    refine au (u7 0 _ rfl) CJ .nil (fun g => rfl) (fun g => by simp) ?_
    obtain ⟨x1, hx1, h⟩ := ob h
    refine au (Fx _ _ _ _ hx1) KE (.cons (.same _) (.cons (.same _) .nil)) (fun g => by simp) (fun g => rfl) ?_
    refine k7 _ _ ?_
    refine .ret ?_
    have e9 := sj h
    subst e9
    refine hQ _ _ _ (aj aD (fun g => by simp) ?_)
    conv => whnf
    try rfl
   refine .q fun K8 k8 => ?_
   obtain ⟨s3, hj3, h⟩ := ob h
   have hR3 : ∀ t9 h9, Le 0 t9 h9 (.unk :: (aI p1 :: (u2 (.ptr 0 0 :: (.unk :: (.i p0 :: (u8 (u4 (u2 (.bool s3 :: (u64 (u8 (u4 (.unk :: [])))))))))))))) [.box [.i 0, .str ([] : Str), .slice (List.map aK ([] : List Ty)) .nils]] → K8 t9 h9 := by
    intro t9 h9 hw
    refine k8 _ _ (AW.le hw ?_)
    clear hw
    refine .aC rfl h (fun hc3 h => ?_) (fun hc3 h => ?_)
    ·refine .q fun K9 k9 => ?_
     obtain ⟨s4, hj4, h⟩ := ob h
     have hR4 : ∀ t9 h9, Le 0 t9 h9 (u4 (.ptr 0 0 :: (.bool s4 :: (u64 (u16 (u8 (u4 (.unk :: [])))))))) [.box [.i 2, .str ([] : Str), aI ([])]] → K9 t9 h9 := by
      intro t9 h9 hw
      refine k9 _ _ (AW.le hw ?_)
      clear hw
      refine .ret ?_
      have e9 := sj h
      subst e9
      refine hQ _ _ _ (aj aD (fun g => by simp) ?_)
      conv => whnf
      try rfl
     refine rg 0 ?_
     refine au (u7 0 _ rfl) CJ .nil (fun g => rfl) (fun g => by simp) ?_
     obtain ⟨x2, hx2, hj4⟩ := ob hj4
     refine aJ (l := p1) (f := aK) (cs := [.i ((x2).kind), .str ((x2).name), aI ((x2).kids)]) hx2 (aR x2) rfl ?_
     obtain ⟨x3, hx3, hj4⟩ := ob hj4
     refine au (nZ _ _ _ hx3) yT (.cons (.same _) .nil) (fun g => by simp) (fun g => rfl) ?_
     refine aH hj4 (fun hc4 hj4 => ?_) (fun hc4 hj4 => ?_)
     ·obtain ⟨x4, hx4, hj4⟩ := ob hj4
      refine aJ (l := p1) (f := aK) (cs := [.i ((x4).kind), .str ((x4).name), aI ((x4).kids)]) hx4 (aR x4) rfl ?_
      refine ⟨rfl, ?_⟩
      cases hj4
      exact t21x0 (hR4 _ _)
     refine ⟨rfl, ?_⟩
     cases hj4
     exact t21x0 (hR4 _ _)
    refine .q fun K10 k10 => ?_
    obtain ⟨s5, hj5, h⟩ := ob h
    have hR5 : ∀ t9 h9, Le 0 t9 h9 (.unk :: (aI p1 :: (u2 (.ptr 0 0 :: (.unk :: (.i p0 :: (u16 (u8 (u4 (.unk :: (.bool s5 :: (u32 (u16 (u8 (u4 (u2 [])))))))))))))))) [.box [.i 0, .str ([] : Str), .slice (List.map aK ([] : List Ty)) .nils]] → K10 t9 h9 := by
     intro t9 h9 hw
     refine k10 _ _ (AW.le hw ?_)
     clear hw
     refine .aC rfl h (fun hc5 h => ?_) (fun hc5 h => ?_)
     ·refine .q fun K11 k11 => ?_
      obtain ⟨s6, hj6, h⟩ := ob h
      have hR6 : ∀ t9 h9, Le 0 t9 h9 (u4 (.ptr 0 0 :: (.bool s6 :: (u64 (u16 (u8 (u4 (.unk :: [])))))))) [.box [.i 2, .str ([] : Str), aI ([])]] → K11 t9 h9 := by
       intro t9 h9 hw
       refine k11 _ _ (AW.le hw ?_)
       clear hw
       refine .ret ?_
       have e9 := sj h
       subst e9
       refine hQ _ _ _ (aj aD (fun g => by simp) ?_)
       conv => whnf
       try rfl
      refine rg 0 ?_
      refine au (u7 0 _ rfl) CJ .nil (fun g => rfl) (fun g => by simp) ?_
      obtain ⟨x5, hx5, hj6⟩ := ob hj6
      refine aJ (l := p1) (f := aK) (cs := [.i ((x5).kind), .str ((x5).name), aI ((x5).kids)]) hx5 (aR x5) rfl ?_
      refine aH hj6 (fun hc6 hj6 => ?_) (fun hc6 hj6 => ?_)
      ·obtain ⟨x6, hx6, hj6⟩ := ob hj6
       refine aJ (l := p1) (f := aK) (cs := [.i ((x6).kind), .str ((x6).name), aI ((x6).kids)]) hx6 (aR x6) rfl ?_
       obtain ⟨x7, hx7, hj6⟩ := ob hj6
       refine aJ (l := p1) (f := aK) (cs := [.i ((x7).kind), .str ((x7).name), aI ((x7).kids)]) hx7 (aR x7) rfl ?_
       obtain ⟨x8, hx8, hj6⟩ := ob hj6
       refine au (cB _ _ _ _ hx8) iQ (.cons (.same _) (.cons (.same _) .nil)) (fun g => by simp) (fun g => rfl) ?_
       refine ⟨rfl, ?_⟩
       cases hj6
       exact t21x0 (hR6 _ _)
      refine ⟨rfl, ?_⟩
      cases hj6
      exact t21x0 (hR6 _ _)
     refine .q fun K12 k12 => ?_
     obtain ⟨s7, hj7, h⟩ := ob h
     have hR7 : ∀ t9 h9, Le 0 t9 h9 (.unk :: (aI p1 :: (u2 (.ptr 0 0 :: (.unk :: (.i p0 :: (u32 (u8 (u4 (u2 (.unk :: (.bool s7 :: (u32 (u8 (u4 []))))))))))))))) [.box [.i 0, .str ([] : Str), .slice (List.map aK ([] : List Ty)) .nils]] → K12 t9 h9 := by
      intro t9 h9 hw
      refine k12 _ _ (AW.le hw ?_)
      clear hw
      refine .aC rfl h (fun hc7 h => ?_) (fun hc7 h => ?_)
      ·refine .q fun K13 k13 => rg 0 ?_
       refine au (u7 0 _ rfl) CJ .nil (fun g => rfl) (fun g => by simp) ?_
       refine au (vI 0 _ rfl) Dt .nil (fun g => rfl) (fun g => by simp) ?_
       obtain ⟨x9, hx9, h⟩ := ob h
       refine au (Fx _ _ _ _ hx9) KE (.cons (.same _) (.cons (.same _) .nil)) (fun g => by simp) (fun g => rfl) ?_
       refine k13 _ _ ?_
       refine .ret ?_
       have e9 := sj h
       subst e9
       refine hQ _ _ _ (aj aD (fun g => by simp) ?_)
       conv => whnf
       try rfl
      refine .q fun K14 k14 => ?_
      obtain ⟨s8, hj8, h⟩ := ob h
      have hR8 : ∀ t9 h9, Le 0 t9 h9 (.unk :: (aI p1 :: (u2 (.ptr 0 0 :: (.unk :: (.i p0 :: (u32 (u16 (u8 (.bool s8 :: (u32 (u2 (.unk :: []))))))))))))) [.box [.i 0, .str ([] : Str), .slice (List.map aK ([] : List Ty)) .nils]] → K14 t9 h9 := by
       intro t9 h9 hw
       refine k14 _ _ (AW.le hw ?_)
       clear hw
       refine .aC rfl h (fun hc8 h => ?_) (fun hc8 h => ?_)
       ·refine .q fun K15 k15 => ?_
        obtain ⟨s9, hj9, h⟩ := ob h
        have hR9 : ∀ t9 h9, Le 0 t9 h9 (u4 (.ptr 0 0 :: (.bool s9 :: (u64 (u16 (u8 (u4 (.unk :: [])))))))) [.box [.i 2, .str ([] : Str), aI ([])]] → K15 t9 h9 := by
         intro t9 h9 hw
         refine k15 _ _ (AW.le hw ?_)
         clear hw
         refine .ret ?_
         have e9 := sj h
         subst e9
         refine hQ _ _ _ (aj aD (fun g => by simp) ?_)
         conv => whnf
         try rfl
        refine rg 0 ?_
        refine au (u7 0 _ rfl) CJ .nil (fun g => rfl) (fun g => by simp) ?_
        obtain ⟨x10, hx10, hj9⟩ := ob hj9
        refine aJ (l := p1) (f := aK) (cs := [.i ((x10).kind), .str ((x10).name), aI ((x10).kids)]) hx10 (aR x10) rfl ?_
        refine aH hj9 (fun hc9 hj9 => ?_) (fun hc9 hj9 => ?_)
        ·obtain ⟨x11, hx11, hj9⟩ := ob hj9
         refine aJ (l := p1) (f := aK) (cs := [.i ((x11).kind), .str ((x11).name), aI ((x11).kids)]) hx11 (aR x11) rfl ?_
         refine cp (iG 0 x11 _ rfl) nS (.cons (.same _) .nil) ?_
         obtain ⟨x12, hx12, hj9⟩ := ob hj9
         refine aJ (l := p1) (f := aK) (cs := [.i ((x12).kind), .str ((x12).name), aI ((x12).kids)]) hx12 (aR x12) rfl ?_
         obtain ⟨x13, hx13, hj9⟩ := ob hj9
         refine au (cB _ _ _ _ hx13) iQ (.cons (.same _) (.cons (.same _) .nil)) (fun g => by simp) (fun g => rfl) ?_
         refine ⟨rfl, ?_⟩
         cases hj9
         exact t21x0 (hR9 _ _)
        refine ⟨rfl, ?_⟩
        cases hj9
        exact t21x0 (hR9 _ _)
       refine .q fun K16 k16 => rg 0 ?_
       refine k16 _ _ ?_
       refine .aC rfl h (fun hc10 h => ?_) (fun hc10 h => ?_)
       ·refine .q fun K17 k17 => ?_
        obtain ⟨s10, hj10, h⟩ := ob h
        have hR10 : ∀ t9 h9, Le 0 t9 h9 (u4 (.ptr 0 0 :: (.bool s10 :: (u64 (u16 (u8 (u4 (.unk :: [])))))))) [.box [.i 2, .str ([] : Str), aI ([])]] → K17 t9 h9 := by
         intro t9 h9 hw
         refine k17 _ _ (AW.le hw ?_)
         clear hw
         refine .ret ?_
         have e9 := sj h
         subst e9
         refine hQ _ _ _ (aj aD (fun g => by simp) ?_)
         conv => whnf
         try rfl
        refine rg 0 ?_
        refine au (u7 0 _ rfl) CJ .nil (fun g => rfl) (fun g => by simp) ?_
        obtain ⟨x14, hx14, hj10⟩ := ob hj10
        refine aJ (l := p1) (f := aK) (cs := [.i ((x14).kind), .str ((x14).name), aI ((x14).kids)]) hx14 (aR x14) rfl ?_
        obtain ⟨x15, hx15, hj10⟩ := ob hj10
        refine au (nZ _ _ _ hx15) yT (.cons (.same _) .nil) (fun g => by simp) (fun g => rfl) ?_
        refine aH hj10 (fun hc11 hj10 => ?_) (fun hc11 hj10 => ?_)
        ·obtain ⟨x16, hx16, hj10⟩ := ob hj10
         refine aJ (l := p1) (f := aK) (cs := [.i ((x16).kind), .str ((x16).name), aI ((x16).kids)]) hx16 (aR x16) rfl ?_
         obtain ⟨x17, hx17, hj10⟩ := ob hj10
         refine aJ (l := p1) (f := aK) (cs := [.i ((x17).kind), .str ((x17).name), aI ((x17).kids)]) hx17 (aR x17) rfl ?_
         obtain ⟨x18, hx18, hj10⟩ := ob hj10
         refine au (cB _ _ _ _ hx18) iQ (.cons (.same _) (.cons (.same _) .nil)) (fun g => by simp) (fun g => rfl) ?_
         refine ⟨rfl, ?_⟩
         cases hj10
         exact t21x0 (hR10 _ _)
        refine ⟨rfl, ?_⟩
        cases hj10
        exact t21x0 (hR10 _ _)
       refine .skip ?_
       refine k2 _ _ ?_
       refine .q fun K18 k18 => rg 0 ?_
       refine k18 _ _ ?_
       refine .ret ?_
       have e9 := sj h
       subst e9
       refine hQ _ _ _ (aj aD (fun g => by simp) ?_)
       conv => whnf
       try rfl
      refine .q fun K19 k19 => rg 0 ?_
      refine k19 _ _ ?_
      refine .aC rfl hj8 (fun hc12 hj8 => ?_) (fun hc12 hj8 => ?_)
      ·refine .skip ?_
       cases hj8
       exact hR8 _ _ (li (.u (.s (.u2 (.s (.u (.s (.u16 (.u16 (.u16 (.u8 (.s (.u16 (.u16 (.u2 (.u .n))))))))))))))))
      refine rg 0 ?_
      cases hj8
      exact hR8 _ _ (li (.u (.s (.u2 (.s (.u (.s (.u16 (.u16 (.u16 (.u8 (.s (.u16 (.u16 (.u2 (.u .n))))))))))))))))
     refine .q fun K20 k20 => rg 0 ?_
     refine k20 _ _ ?_
     refine .aC rfl hj7 (fun hc13 hj7 => ?_) (fun hc13 hj7 => ?_)
     ·refine .skip ?_
      cases hj7
      exact t21x2 (hR7 _ _)
     refine .q fun K21 k21 => rg 0 ?_
     refine k21 _ _ ?_
     refine .aC rfl hj7 (fun hc14 hj7 => ?_) (fun hc14 hj7 => ?_)
     ·refine .skip ?_
      cases hj7
      exact t21x2 (hR7 _ _)
     refine .q fun K22 k22 => rg 0 ?_
     refine k22 _ _ ?_
     refine .aC rfl hj7 (fun hc15 hj7 => ?_) (fun hc15 hj7 => ?_)
     ·refine .skip ?_
      cases hj7
      exact t21x2 (hR7 _ _)
     refine rg 0 ?_
     cases hj7
     exact t21x2 (hR7 _ _)
    refine .q fun K23 k23 => rg 0 ?_
    refine k23 _ _ ?_
    refine .aC rfl hj5 (fun hc16 hj5 => ?_) (fun hc16 hj5 => ?_)
    ·refine .skip ?_
     cases hj5
     exact hR5 _ _ (li (.u (.s (.u2 (.s (.u (.s (.u16 (.u8 (.u4 (.u (.s (.u16 (.u16 (.u16 (.u8 (.u4 (.u2 .n))))))))))))))))))
    refine rg 0 ?_
    cases hj5
    exact hR5 _ _ (li (.u (.s (.u2 (.s (.u (.s (.u16 (.u8 (.u4 (.u (.s (.u16 (.u16 (.u16 (.u8 (.u4 (.u2 .n))))))))))))))))))
   refine .q fun K24 k24 => rg 0 ?_
   refine k24 _ _ ?_
   refine .aC rfl hj3 (fun hc17 hj3 => ?_) (fun hc17 hj3 => ?_)
   ·refine .skip ?_
    cases hj3
    exact hR3 _ _ (li (.u (.s (.u2 (.s (.u (.s (.u8 (.u4 (.u2 (.s (.u16 (.u16 (.u16 (.u16 (.u8 (.u4 (.u .n))))))))))))))))))
   refine rg 0 ?_
   cases hj3
   exact hR3 _ _ (li (.u (.s (.u2 (.s (.u (.s (.u8 (.u4 (.u2 (.s (.u16 (.u16 (.u16 (.u16 (.u8 (.u4 (.u .n))))))))))))))))))
  refine .q fun K25 k25 => rg 0 ?_
  refine k25 _ _ ?_
  refine .aC rfl hj2 (fun hc18 hj2 => ?_) (fun hc18 hj2 => ?_)
  ·refine .skip ?_
   cases hj2
   exact t21x1 (hR2 _ _)
  refine .q fun K26 k26 => rg 0 ?_
  refine k26 _ _ ?_
  refine .aC rfl hj2 (fun hc19 hj2 => ?_) (fun hc19 hj2 => ?_)
  ·refine .skip ?_
   cases hj2
   exact t21x1 (hR2 _ _)
  refine .q fun K27 k27 => rg 0 ?_
  refine k27 _ _ ?_
  refine .aC rfl hj2 (fun hc20 hj2 => ?_) (fun hc20 hj2 => ?_)
  ·refine .skip ?_
   cases hj2
   exact t21x1 (hR2 _ _)
  refine .q fun K28 k28 => rg 0 ?_
  refine k28 _ _ ?_
  refine .aC rfl hj2 (fun hc21 hj2 => ?_) (fun hc21 hj2 => ?_)
  ·refine .skip ?_
   cases hj2
   exact t21x1 (hR2 _ _)
  refine rg 0 ?_
  cases hj2
  exact t21x1 (hR2 _ _)
 refine .q fun K29 k29 => rg 0 ?_
 refine k29 _ _ ?_
 refine .aC rfl hj1 (fun hc22 hj1 => ?_) (fun hc22 hj1 => ?_)
 ·refine .skip ?_
  cases hj1
  exact hR1 _ _ (li (.u (.s (.u2 (.s (.u (.s (.s (.u16 (.u16 (.u16 (.u16 (.u16 (.u8 (.u2 (.u .n))))))))))))))))
 refine rg 0 ?_
 cases hj1
 exact hR1 _ _ (li (.u (.s (.u2 (.s (.u (.s (.s (.u16 (.u16 (.u16 (.u16 (.u16 (.u8 (.u2 (.u .n))))))))))))))))
theorem UL (n : Nat) (p0 : Ty) (r : Bool) (h : EN n p0 = some r) : ak Tryz.prog 269 [aV p0] [] (.bool r) [] := by
 unfold EN at h
 refine ah true Tryz.func269 rfl (nt Tryz.ntmps269 rfl) fun Q hQ t ht => ?_
 conv at ht => whnf
 subst ht
 refine .q fun K1 k1 => rg 1 ?_
 refine k1 _ _ ?_
 refine .q fun K2 k2 => ?_
 obtain ⟨s1, hj1, h⟩ := ob h
 have hR1 : ∀ t9 h9, Le 0 t9 h9 (u2 (.bool s1 :: (u8 (u2 (.unk :: []))))) [] → K2 t9 h9 := by
  intro t9 h9 hw
  refine k2 _ _ (AW.le hw ?_)
  clear hw
  refine .ret ?_
  have e9 := sj h
  subst e9
  refine hQ _ _ _ (aj aD (fun g => rfl) ?_)
  conv => whnf
 refine rg 0 ?_
 refine aH hj1 (fun hc1 hj1 => ?_) (fun hc1 hj1 => ?_)
 ·obtain ⟨x1, hx1, hj1⟩ := ob hj1
  refine aJ (l := p0.kids) (f := aK) (cs := [.i ((x1).kind), .str ((x1).name), aI ((x1).kids)]) hx1 (aR x1) rfl ?_
  cases hj1
  exact hR1 _ _ (wk [] (.u2 (.c rfl (.u8 (.u2 (.u .nil))))) .nil rfl)
 cases hj1
 exact hR1 _ _ (wk [] (.u2 (.c rfl (.u8 (.u2 (.u .nil))))) .nil rfl)
theorem tZ (n : Nat) (p0 : Ty) (r : Ty) (h : sP n p0 = some r) : ak Tryz.prog 270 [aV p0] [] (aV r) [] := by
 unfold sP at h
 refine ah true Tryz.func270 rfl (nt Tryz.ntmps270 rfl) fun Q hQ t ht => ?_
 conv at ht => whnf
 subst ht
 refine .q fun K1 k1 => rg 2 ?_
 refine k1 _ _ ?_
 refine .q fun K2 k2 => rg 0 ?_
 obtain ⟨x1, hx1, h⟩ := ob h
 refine aJ (l := p0.kids) (f := aK) (cs := [.i ((x1).kind), .str ((x1).name), aI ((x1).kids)]) hx1 (aR x1) rfl ?_
 obtain ⟨x2, hx2, h⟩ := ob h
 refine aJ (l := x1.kids) (f := aK) (cs := [.i ((x2).kind), .str ((x2).name), aI ((x2).kids)]) hx2 (aR x2) rfl ?_
 refine k2 _ _ ?_
 refine .ret ?_
 have e9 := sj h
 subst e9
 refine hQ _ _ _ (aj aD (fun g => by simp) ?_)
 conv => whnf
 try rfl
theorem vR (n : Nat) (p0 : Ty) (r : Ty) (h : vO n p0 = some r) : ak Tryz.prog 271 [aV p0] [] (aV r) [] := by
 unfold vO at h
 refine ah true Tryz.func271 rfl (nt Tryz.ntmps271 rfl) fun Q hQ t ht => ?_
 conv at ht => whnf
 subst ht
 refine .q fun K1 k1 => rg 2 ?_
 refine k1 _ _ ?_
 refine .q fun K2 k2 => rg 0 ?_
 obtain ⟨x1, hx1, h⟩ := ob h
 refine aJ (l := p0.kids) (f := aK) (cs := [.i ((x1).kind), .str ((x1).name), aI ((x1).kids)]) hx1 (aR x1) rfl ?_
 obtain ⟨x2, hx2, h⟩ := ob h
 refine aJ (l := x1.kids) (f := aK) (cs := [.i ((x2).kind), .str ((x2).name), aI ((x2).kids)]) hx2 (aR x2) rfl ?_
 refine k2 _ _ ?_
 refine .ret ?_
 have e9 := sj h
 subst e9
 refine hQ _ _ _ (aj aD (fun g => by simp) ?_)
 conv => whnf
 try rfl
end Abs
end Go.Proofs.YtiiaccpcoclklaaGreat
