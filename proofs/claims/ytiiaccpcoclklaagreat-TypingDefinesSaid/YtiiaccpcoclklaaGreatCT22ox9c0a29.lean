/-
  Contracts of Go functions (printed). Conditions: none.
-/
import Derived.KernelRfl
import Derived.Test.YtiiaccpcoclklaaGreatCT21ox05ce65
set_option linter.unusedSimpArgs false
set_option linter.unusedVariables false
namespace Go.Proofs.YtiiaccpcoclklaaGreat
namespace Abs
open Go Go.Proofs
set_option maxRecDepth 100000
set_option maxHeartbeats 40000000
theorem abf (n : Nat) (p0 : Int) (p1 : List Ty) (r : Ty × Bool) (h : fJ n p0 p1 = some r) : ak Tryz.prog 234 [.i p0, aI p1] [] (.bq [aV r.1, .bool r.2]) [] := by
 unfold fJ at h
 refine ah true Tryz.func234 rfl (nt Tryz.ntmps234 rfl) fun Q hQ t ht => ?_
 conv at ht => whnf
 subst ht
 refine .q fun K1 k1 => rg 1 ?_
 refine k1 _ _ ?_
 refine .q fun K2 k2 => rg 1 ?_
 refine k2 _ _ ?_
 refine .q fun K3 k3 => rg 1 ?_
 obtain ⟨x1, hx1, h⟩ := ob h
 refine aJ (l := p1) (f := aK) (cs := [.i ((x1).kind), .str ((x1).name), aI ((x1).kids)]) hx1 (aR x1) rfl ?_
 refine k3 _ _ ?_
 refine .q fun K4 k4 => ?_
 obtain ⟨s1, hj1, h⟩ := ob h
 have hR1 : ∀ t9 h9, Le 0 t9 h9 (.i p0 :: (aI p1 :: (u2 (.ptr 0 0 :: (.unk :: (.ptr 1 0 :: (.ptr 2 0 :: (u64 (u32 (u16 (u2 []))))))))))) [.box [.i 0, .str ([] : Str), .slice (List.map aK ([] : List Ty)) .nils], .box [.i 0, .str ([] : Str), .slice (List.map aK ([] : List Ty)) .nils], .box [.i s1.1, .str s1.2.1, aI s1.2.2]] → K4 t9 h9 := by
  intro t9 h9 hw
  refine k4 _ _ (AW.le hw ?_)
  clear hw
  refine .q fun K5 k5 => .q fun K6 k6 => rg 0 ?_
  obtain ⟨x2, hx2, h⟩ := ob h
  refine au (UL _ _ _ hx2) ahD (.cons (.same _) .nil) (fun g => by simp) (fun g => rfl) ?_
  refine k6 _ _ ?_
  refine .aC rfl h (fun hc1 h => ?_) (fun hc1 h => ?_)
  ·refine .q fun K7 k7 => rg 0 ?_
   refine k7 _ _ ?_
   refine .ret ?_
   have e9 := sj h
   subst e9
   refine hQ _ _ _ (aj aD (fun g => by simp) ?_)
   conv => whnf
   try rfl
  refine .skip ?_
  refine k5 _ _ ?_
  refine .q fun K8 k8 => .q fun K9 k9 => rg 0 ?_
  refine k9 _ _ ?_
  refine .block ?_
  refine .q fun K10 k10 => rg 0 ?_
  refine k10 _ _ ?_
  refine .aC rfl h (fun hc2 h => ?_) (fun hc2 h => ?_)
  ·refine .q fun K11 k11 => rg 0 ?_
   obtain ⟨x3, hx3, h⟩ := ob h
   refine aJ (l := p1) (f := aK) (cs := [.i ((x3).kind), .str ((x3).name), aI ((x3).kids)]) hx3 (aR x3) rfl ?_
   obtain ⟨x4, hx4, h⟩ := ob h
   refine au (cB _ _ _ _ hx4) iQ (.cons (.same _) (.cons (.same _) .nil)) (fun g => by simp) (fun g => rfl) ?_
   refine ⟨rfl, ?_⟩
   refine k11 _ _ ?_
   refine .ret ?_
   have e9 := sj h
   subst e9
   refine hQ _ _ _ (aj aD (fun g => by simp) ?_)
   conv => whnf
   try rfl
  refine .q fun K12 k12 => rg 0 ?_
  refine k12 _ _ ?_
  refine .aC rfl h (fun hc3 h => ?_) (fun hc3 h => ?_)
  ·refine .q fun K13 k13 => .q fun K14 k14 => ?_
   obtain ⟨s2, hj2, h⟩ := ob h
   have hR2 : ∀ t9 h9, Le 0 t9 h9 (.unk :: (aI p1 :: (u2 (.ptr 0 0 :: (.unk :: (.ptr 1 0 :: (.ptr 2 0 :: (u32 (u8 (.unk :: (.bool s2 :: (u64 (u8 []))))))))))))) [.box [.i 0, .str ([] : Str), .slice (List.map aK ([] : List Ty)) .nils], .box [.i 0, .str ([] : Str), .slice (List.map aK ([] : List Ty)) .nils], .box [.i s1.1, .str s1.2.1, aI s1.2.2]] → K14 t9 h9 := by
    intro t9 h9 hw
    refine k14 _ _ (AW.le hw ?_)
    clear hw
    refine .aC rfl h (fun hc4 h => ?_) (fun hc4 h => ?_)
    ·refine .q fun K15 k15 => rg 0 ?_
     refine k15 _ _ ?_
     refine .ret ?_
     have e9 := sj h
     subst e9
     refine hQ _ _ _ (aj aD (fun g => by simp) ?_)
     conv => whnf
     try rfl
    refine .skip ?_
    refine k13 _ _ ?_
    refine .q fun K16 k16 => rg 0 ?_
    obtain ⟨x5, hx5, h⟩ := ob h
    refine cp (vR _ _ _ hx5) EH (.cons (.same _) .nil) ?_
    obtain ⟨x6, hx6, h⟩ := ob h
    refine aJ (l := p1) (f := aK) (cs := [.i ((x6).kind), .str ((x6).name), aI ((x6).kids)]) hx6 (aR x6) rfl ?_
    obtain ⟨x7, hx7, h⟩ := ob h
    refine cp (tZ _ _ _ hx7) EB (.cons (.same _) .nil) ?_
    refine cp (Dx 0 x5 x7 _ rfl) Qu (.cons (.same _) (.cons (.same _) .nil)) ?_
    refine cp (iG 0 (Ty.mk 4 ([] : Str) ([x5, x7])) _ rfl) nS (.cons (.same _) .nil) ?_
    refine ⟨rfl, ?_⟩
    refine k16 _ _ ?_
    refine .ret ?_
    have e9 := sj h
    subst e9
    refine hQ _ _ _ (aj aD (fun g => by simp) ?_)
    conv => whnf
    try rfl
   refine rg 0 ?_
   obtain ⟨x8, hx8, hj2⟩ := ob hj2
   refine aJ (l := p1) (f := aK) (cs := [.i ((x8).kind), .str ((x8).name), aI ((x8).kids)]) hx8 (aR x8) rfl ?_
   obtain ⟨x9, hx9, hj2⟩ := ob hj2
   refine au (UL _ _ _ hx9) ahD (.cons (.same _) .nil) (fun g => by simp) (fun g => rfl) ?_
   refine aH hj2 (fun hc5 hj2 => ?_) (fun hc5 hj2 => ?_)
   ·refine ⟨rfl, ?_⟩
    cases hj2
    exact hR2 _ _ (li (.u (.s (.u2 (.s (.u (.s (.s (.u16 (.u16 (.u8 (.u (.s (.u16 (.u16 (.u16 (.u16 (.u8 .n))))))))))))))))))
   obtain ⟨x10, hx10, hj2⟩ := ob hj2
   refine cp (tZ _ _ _ hx10) EB (.cons (.same _) .nil) ?_
   obtain ⟨x11, hx11, hj2⟩ := ob hj2
   refine aJ (l := p1) (f := aK) (cs := [.i ((x11).kind), .str ((x11).name), aI ((x11).kids)]) hx11 (aR x11) rfl ?_
   obtain ⟨x12, hx12, hj2⟩ := ob hj2
   refine cp (vR _ _ _ hx12) EH (.cons (.same _) .nil) ?_
   obtain ⟨x13, hx13, hj2⟩ := ob hj2
   refine au (cB _ _ _ _ hx13) iQ (.cons (.same _) (.cons (.same _) .nil)) (fun g => by simp) (fun g => rfl) ?_
   refine ⟨rfl, ?_⟩
   cases hj2
   exact hR2 _ _ (li (.u (.s (.u2 (.s (.u (.s (.s (.u16 (.u16 (.u8 (.u (.s (.u16 (.u16 (.u16 (.u16 (.u8 .n))))))))))))))))))
  refine .q fun K17 k17 => ?_
  obtain ⟨s3, hj3, h⟩ := ob h
  have hR3 : ∀ t9 h9, Le 0 t9 h9 (.unk :: (aI p1 :: (u2 (.ptr 0 0 :: (.unk :: (.ptr 1 0 :: (.ptr 2 0 :: (u16 (.i p0 :: (u32 (u2 (.bool s3 :: (u32 (u16 (u8 (u4 (u2 []))))))))))))))))) [.box [.i 0, .str ([] : Str), .slice (List.map aK ([] : List Ty)) .nils], .box [.i 0, .str ([] : Str), .slice (List.map aK ([] : List Ty)) .nils], .box [.i s1.1, .str s1.2.1, aI s1.2.2]] → K17 t9 h9 := by
   intro t9 h9 hw
   refine k17 _ _ (AW.le hw ?_)
   clear hw
   refine .aC rfl h (fun hc6 h => ?_) (fun hc6 h => ?_)
   ·refine .q fun K18 k18 => rg 0 ?_
    obtain ⟨x14, hx14, h⟩ := ob h
    refine aJ (l := p1) (f := aK) (cs := [.i ((x14).kind), .str ((x14).name), aI ((x14).kids)]) hx14 (aR x14) rfl ?_
    obtain ⟨x15, hx15, h⟩ := ob h
    refine cp (vR _ _ _ hx15) EH (.cons (.same _) .nil) ?_
    refine cp (iG 0 x15 _ rfl) nS (.cons (.same _) .nil) ?_
    obtain ⟨x16, hx16, h⟩ := ob h
    refine au (cB _ _ _ _ hx16) iQ (.cons (.same _) (.cons (.same _) .nil)) (fun g => by simp) (fun g => rfl) ?_
    refine ⟨rfl, ?_⟩
    refine k18 _ _ ?_
    refine .ret ?_
    have e9 := sj h
    subst e9
    refine hQ _ _ _ (aj aD (fun g => by simp) ?_)
    conv => whnf
    try rfl
   refine .q fun K19 k19 => ?_
   obtain ⟨s4, hj4, h⟩ := ob h
   have hR4 : ∀ t9 h9, Le 0 t9 h9 (.unk :: (aI p1 :: (u2 (.ptr 0 0 :: (.unk :: (.ptr 1 0 :: (.ptr 2 0 :: (u16 (.i p0 :: (u32 (u8 (u4 (.unk :: (.bool s4 :: (u32 (u16 (u2 (.unk :: [])))))))))))))))))) [.box [.i 0, .str ([] : Str), .slice (List.map aK ([] : List Ty)) .nils], .box [.i 0, .str ([] : Str), .slice (List.map aK ([] : List Ty)) .nils], .box [.i s1.1, .str s1.2.1, aI s1.2.2]] → K19 t9 h9 := by
    intro t9 h9 hw
    refine k19 _ _ (AW.le hw ?_)
    clear hw
    refine .aC rfl h (fun hc7 h => ?_) (fun hc7 h => ?_)
    ·refine .q fun K20 k20 => rg 0 ?_
     obtain ⟨x17, hx17, h⟩ := ob h
     refine aJ (l := p1) (f := aK) (cs := [.i ((x17).kind), .str ((x17).name), aI ((x17).kids)]) hx17 (aR x17) rfl ?_
     obtain ⟨x18, hx18, h⟩ := ob h
     refine cp (tZ _ _ _ hx18) EB (.cons (.same _) .nil) ?_
     refine cp (iG 0 x18 _ rfl) nS (.cons (.same _) .nil) ?_
     obtain ⟨x19, hx19, h⟩ := ob h
     refine au (cB _ _ _ _ hx19) iQ (.cons (.same _) (.cons (.same _) .nil)) (fun g => by simp) (fun g => rfl) ?_
     refine ⟨rfl, ?_⟩
     refine k20 _ _ ?_
     refine .ret ?_
     have e9 := sj h
     subst e9
     refine hQ _ _ _ (aj aD (fun g => by simp) ?_)
     conv => whnf
     try rfl
    refine .q fun K21 k21 => rg 0 ?_
    refine k21 _ _ ?_
    refine .aC rfl h (fun hc8 h => ?_) (fun hc8 h => ?_)
    ·refine .q fun K22 k22 => rg 0 ?_
     obtain ⟨x20, hx20, h⟩ := ob h
     refine cp (vR _ _ _ hx20) EH (.cons (.same _) .nil) ?_
     refine cp (iG 0 x20 _ rfl) nS (.cons (.same _) .nil) ?_
     refine k22 _ _ ?_
     refine .ret ?_
     have e9 := sj h
     subst e9
     refine hQ _ _ _ (aj aD (fun g => by simp) ?_)
     conv => whnf
     try rfl
    refine .q fun K23 k23 => rg 0 ?_
    refine k23 _ _ ?_
    refine .aC rfl h (fun hc9 h => ?_) (fun hc9 h => ?_)
    ·refine .q fun K24 k24 => rg 0 ?_
     obtain ⟨x21, hx21, h⟩ := ob h
     refine cp (tZ _ _ _ hx21) EB (.cons (.same _) .nil) ?_
     refine cp (iG 0 x21 _ rfl) nS (.cons (.same _) .nil) ?_
     refine k24 _ _ ?_
     refine .ret ?_
     have e9 := sj h
     subst e9
     refine hQ _ _ _ (aj aD (fun g => by simp) ?_)
     conv => whnf
     try rfl
    refine .q fun K25 k25 => rg 0 ?_
    refine k25 _ _ ?_
    refine .aC rfl h (fun hc10 h => ?_) (fun hc10 h => ?_)
    ·refine .q fun K26 k26 => rg 0 ?_
     obtain ⟨x22, hx22, h⟩ := ob h
     refine cp (tZ _ _ _ hx22) EB (.cons (.same _) .nil) ?_
     obtain ⟨x23, hx23, h⟩ := ob h
     refine cp (vR _ _ _ hx23) EH (.cons (.same _) .nil) ?_
     refine cp (Dx 0 x22 x23 _ rfl) Qu (.cons (.same _) (.cons (.same _) .nil)) ?_
     refine cp (iG 0 (Ty.mk 4 ([] : Str) ([x22, x23])) _ rfl) nS (.cons (.same _) .nil) ?_
     refine ⟨rfl, ?_⟩
     refine k26 _ _ ?_
     refine .ret ?_
     have e9 := sj h
     subst e9
     refine hQ _ _ _ (aj aD (fun g => by simp) ?_)
     conv => whnf
     try rfl
    refine .q fun K27 k27 => rg 0 ?_
    refine k27 _ _ ?_
    refine .aC rfl h (fun hc11 h => ?_) (fun hc11 h => ?_)
    ·refine .q fun K28 k28 => rg 0 ?_
     obtain ⟨x24, hx24, h⟩ := ob h
     refine cp (tZ _ _ _ hx24) EB (.cons (.same _) .nil) ?_
     refine cp (iG 0 x24 _ rfl) nS (.cons (.same _) .nil) ?_
     obtain ⟨x25, hx25, h⟩ := ob h
     refine aJ (l := p1) (f := aK) (cs := [.i ((x25).kind), .str ((x25).name), aI ((x25).kids)]) hx25 (aR x25) rfl ?_
     obtain ⟨x26, hx26, h⟩ := ob h
     refine cp (vR _ _ _ hx26) EH (.cons (.same _) .nil) ?_
     refine cp (iG 0 x26 _ rfl) nS (.cons (.same _) .nil) ?_
     obtain ⟨x27, hx27, h⟩ := ob h
     refine au (cB _ _ _ _ hx27) iQ (.cons (.same _) (.cons (.same _) .nil)) (fun g => by simp) (fun g => rfl) ?_
     refine ⟨rfl, ?_⟩
     refine k28 _ _ ?_
     refine .ret ?_
     have e9 := sj h
     subst e9
     refine hQ _ _ _ (aj aD (fun g => by simp) ?_)
     conv => whnf
     try rfl
    refine .q fun K29 k29 => rg 0 ?_
    refine k29 _ _ ?_
    refine .aC rfl h (fun hc12 h => ?_) (fun hc12 h => ?_)
    ·refine .q fun K30 k30 => rg 0 ?_
     obtain ⟨x28, hx28, h⟩ := ob h
     refine cp (tZ _ _ _ hx28) EB (.cons (.same _) .nil) ?_
     obtain ⟨x29, hx29, h⟩ := ob h
     refine aJ (l := p1) (f := aK) (cs := [.i ((x29).kind), .str ((x29).name), aI ((x29).kids)]) hx29 (aR x29) rfl ?_
     obtain ⟨x30, hx30, h⟩ := ob h
     refine cp (vR _ _ _ hx30) EH (.cons (.same _) .nil) ?_
     obtain ⟨x31, hx31, h⟩ := ob h
     refine au (cB _ _ _ _ hx31) iQ (.cons (.same _) (.cons (.same _) .nil)) (fun g => by simp) (fun g => rfl) ?_
     refine ⟨rfl, ?_⟩
     refine k30 _ _ ?_
     refine .ret ?_
     have e9 := sj h
     subst e9
     refine hQ _ _ _ (aj aD (fun g => by simp) ?_)
     conv => whnf
     try rfl
    refine .skip ?_
    refine k8 _ _ ?_
    refine .q fun K31 k31 => rg 0 ?_
    refine k31 _ _ ?_
    refine .ret ?_
    have e9 := sj h
    subst e9
    refine hQ _ _ _ (aj aD (fun g => by simp) ?_)
    conv => whnf
    try rfl
   refine .q fun K32 k32 => rg 0 ?_
   refine k32 _ _ ?_
   refine .aC rfl hj4 (fun hc13 hj4 => ?_) (fun hc13 hj4 => ?_)
   ·refine .skip ?_
    cases hj4
    exact hR4 _ _ (li (.u (.s (.u2 (.s (.u (.s (.s (.u16 (.s (.u16 (.u16 (.u8 (.u4 (.u (.s (.u16 (.u16 (.u16 (.u2 (.u .n)))))))))))))))))))))
   refine rg 0 ?_
   cases hj4
   exact hR4 _ _ (li (.u (.s (.u2 (.s (.u (.s (.s (.u16 (.s (.u16 (.u16 (.u8 (.u4 (.u (.s (.u16 (.u16 (.u16 (.u2 (.u .n)))))))))))))))))))))
  refine .q fun K33 k33 => rg 0 ?_
  refine k33 _ _ ?_
  refine .aC rfl hj3 (fun hc14 hj3 => ?_) (fun hc14 hj3 => ?_)
  ·refine .skip ?_
   cases hj3
   exact hR3 _ _ (li (.u (.s (.u2 (.s (.u (.s (.s (.u16 (.s (.u16 (.u16 (.u2 (.s (.u16 (.u16 (.u16 (.u8 (.u4 (.u2 .n))))))))))))))))))))
  refine rg 0 ?_
  cases hj3
  exact hR3 _ _ (li (.u (.s (.u2 (.s (.u (.s (.s (.u16 (.s (.u16 (.u16 (.u2 (.s (.u16 (.u16 (.u16 (.u8 (.u4 (.u2 .n))))))))))))))))))))
 refine .q fun K34 k34 => ?_
 obtain ⟨s5, hj5, hj1⟩ := ob hj1
 have hR5 : ∀ t9 h9, Le 0 t9 h9 (.i p0 :: (aI p1 :: (u2 (.ptr 0 0 :: (.unk :: (.ptr 1 0 :: (.ptr 2 0 :: (u8 (.bool s5 :: (u64 (u32 (u8 (.unk :: []))))))))))))) [.box [.i 0, .str ([] : Str), .slice (List.map aK ([] : List Ty)) .nils], .box [.i 0, .str ([] : Str), .slice (List.map aK ([] : List Ty)) .nils], .box [.i x1.kind, .str x1.name, aI x1.kids]] → K34 t9 h9 := by
  intro t9 h9 hw
  refine k34 _ _ (AW.le hw ?_)
  clear hw
  refine .aC rfl hj1 (fun hc15 hj1 => ?_) (fun hc15 hj1 => ?_)
  ·refine rg 0 ?_
   obtain ⟨x32, hx32, hj1⟩ := ob hj1
   refine aJ (l := p1) (f := aK) (cs := [.i ((x32).kind), .str ((x32).name), aI ((x32).kids)]) hx32 (aR x32) rfl ?_
   cases hj1
   exact hR1 _ _ (li (.s (.s (.u2 (.s (.u (.s (.s (.u16 (.u16 (.u16 (.u16 (.u16 (.u16 (.u16 (.u2 .n))))))))))))))))
  refine .skip ?_
  cases hj1
  exact hR1 _ _ (li (.s (.s (.u2 (.s (.u (.s (.s (.u16 (.u16 (.u16 (.u16 (.u16 (.u16 (.u16 (.u2 .n))))))))))))))))
 refine rg 0 ?_
 refine aH hj5 (fun hc16 hj5 => ?_) (fun hc16 hj5 => ?_)
 ·cases hj5
  exact hR5 _ _ (li (.s (.s (.u2 (.s (.u (.s (.s (.u8 (.s (.u16 (.u16 (.u16 (.u16 (.u16 (.u16 (.u8 (.u .n))))))))))))))))))
 cases hj5
 exact hR5 _ _ (li (.s (.s (.u2 (.s (.u (.s (.s (.u8 (.s (.u16 (.u16 (.u16 (.u16 (.u16 (.u16 (.u8 (.u .n))))))))))))))))))
end Abs
end Go.Proofs.YtiiaccpcoclklaaGreat
