/-
  Contracts of Go functions (printed). Conditions: none.
-/
import Derived.KernelRfl
import Derived.Test.YtiiaccpcoclklaaGreatCT22ox9c0a29
set_option linter.unusedSimpArgs false
set_option linter.unusedVariables false
namespace Go.Proofs.YtiiaccpcoclklaaGreat
namespace Abs
open Go Go.Proofs
set_option maxRecDepth 100000
set_option maxHeartbeats 40000000
theorem t23x0 {p q : Prop} (f : p → q) (h : p := by exact wk [some 1] (.u4 (.c rfl (.c rfl (.u64 (.u64 (.u64 (.u16 (.u4 .nil)))))))) (.b rfl (.c rfl (.c rfl (.e aB .nil))) .nil) rfl) : q := f h
theorem t23x1 {p q : Prop} (f : p → q) (h : p := by exact li (.u (.s (.s (.u (.s (.u16 (.u16 (.u16 (.u16 (.u16 (.u16 (.u16 (.u16 (.u16 (.u8 (.u4 (.u2 (.s (.u16 (.u16 (.u16 (.u4 (.u2 .n)))))))))))))))))))))))) : q := f h
theorem t23x2 {p q : Prop} (f : p → q) (h : p := by exact li (.u (.s (.s (.u (.s (.u2 (.u (.s (.u2 (.u (.s (.u16 (.u16 (.u16 (.u16 (.u16 (.u16 (.u16 (.u16 (.u16 (.u16 (.u16 (.u16 (.u8 (.u4 (.u .n))))))))))))))))))))))))))) : q := f h
theorem t23x3 {p q : Prop} (f : p → q) (h : p := by exact li (.u (.s (.s (.u (.s (.u2 (.u (.s (.u16 (.u16 (.u16 (.u16 (.u16 (.u16 (.u16 (.u16 (.u4 (.u2 (.s (.u16 (.u16 (.u16 (.u16 (.u8 (.u2 .n)))))))))))))))))))))))))) : q := f h
theorem akX (n : Nat) (p0 : Tm) (p1 : List Ty) (r : Ty × Bool) (h : gL n p0 p1 = some r) : ak Tryz.prog 140 [bg p0, aI p1] [] (.bq [aV r.1, .bool r.2]) [] := by
 unfold gL at h
 refine ah true Tryz.func140 rfl (nt Tryz.ntmps140 rfl) fun Q hQ t ht => ?_
 conv at ht => whnf
 subst ht
 refine .q fun K1 k1 => rg 2 ?_
 refine k1 _ _ ?_
 refine .q fun K2 k2 => .q fun K3 k3 => rg 0 ?_
 refine k3 _ _ ?_
 refine .block ?_
 refine .q fun K4 k4 => rg 0 ?_
 refine k4 _ _ ?_
 refine .aC rfl h (fun hc1 h => ?_) (fun hc1 h => ?_)
 ·refine .q fun K5 k5 => rg 0 ?_
  refine au (vI 0 _ rfl) Dt .nil (fun g => rfl) (fun g => by simp) ?_
  refine k5 _ _ ?_
  refine .ret ?_
  have e9 := sj h
  subst e9
  refine hQ _ _ _ (aj aD (fun g => by simp) ?_)
  conv => whnf
  try rfl
 refine .q fun K6 k6 => ?_
 obtain ⟨s1, hj1, h⟩ := ob h
 have hR1 : ∀ t9 h9, Le 0 t9 h9 (.unk :: (aI p1 :: (.ptr 0 0 :: (.unk :: (.ptr 1 0 :: (u2 (.unk :: (.i p0.op :: (u2 (.unk :: (.bool s1 :: (u64 (u64 (u64 (u8 (u4 (.unk :: []))))))))))))))))) [.box [.i p0.op, .str p0.name, .i p0.n, .i p0.ty.kind, .str p0.ty.name, aI p0.ty.kids, bn p0.kids], .box [.i 0, .str ([] : Str), .slice (List.map aK ([] : List Ty)) .nils]] → K6 t9 h9 := by
  intro t9 h9 hw
  refine k6 _ _ (AW.le hw ?_)
  clear hw
  refine .aC rfl h (fun hc2 h => ?_) (fun hc2 h => ?_)
  ·refine .q fun K7 k7 => rg 0 ?_
   refine au (vI 0 _ rfl) Dt .nil (fun g => rfl) (fun g => by simp) ?_
   refine au (vI 0 _ rfl) Dt .nil (fun g => rfl) (fun g => by simp) ?_
   obtain ⟨x1, hx1, h⟩ := ob h
   refine au (Fx _ _ _ _ hx1) KE (.cons (.same _) (.cons (.same _) .nil)) (fun g => by simp) (fun g => rfl) ?_
   refine k7 _ _ ?_
   refine .ret ?_
   have e9 := sj h
   subst e9
   refine hQ _ _ _ (aj aD (fun g => by simp) ?_)
   conv => whnf
   try rfl
  refine .q fun K8 k8 => rg 0 ?_
  refine k8 _ _ ?_
  refine .aC rfl h (fun hc3 h => ?_) (fun hc3 h => ?_)
  ·refine .q fun K9 k9 => ?_
   obtain ⟨s2, hj2, h⟩ := ob h
   have hR2 : ∀ t9 h9, Le 0 t9 h9 (u4 (.ptr 0 0 :: (.bool s2.1 :: (u64 (u64 (u64 (u16 (u4 [])))))))) [.box [.i 4, .str ([] : Str), aI s2.2]] → K9 t9 h9 := by
    intro t9 h9 hw
    refine k9 _ _ (AW.le hw ?_)
    clear hw
    refine .ret ?_
    have e9 := sj h
    subst e9
    refine hQ _ _ _ (aj aD (fun g => by simp) ?_)
    conv => whnf
    try rfl
   refine rg 0 ?_
   obtain ⟨x2, hx2, hj2⟩ := ob hj2
   refine aJ (l := p1) (f := aK) (cs := [.i ((x2).kind), .str ((x2).name), aI ((x2).kids)]) hx2 (aR x2) rfl ?_
   obtain ⟨x3, hx3, hj2⟩ := ob hj2
   refine aJ (l := p1) (f := aK) (cs := [.i ((x3).kind), .str ((x3).name), aI ((x3).kids)]) hx3 (aR x3) rfl ?_
   refine cp (Dx 0 x2 x3 _ rfl) Qu (.cons (.same _) (.cons (.same _) .nil)) ?_
   obtain ⟨x4, hx4, hj2⟩ := ob hj2
   refine aJ (l := p1) (f := aK) (cs := [.i ((x4).kind), .str ((x4).name), aI ((x4).kids)]) hx4 (aR x4) rfl ?_
   refine aH hj2 (fun hc4 hj2 => ?_) (fun hc4 hj2 => ?_)
   ·obtain ⟨x5, hx5, hj2⟩ := ob hj2
    refine aJ (l := p1) (f := aK) (cs := [.i ((x5).kind), .str ((x5).name), aI ((x5).kids)]) hx5 (aR x5) rfl ?_
    refine ⟨rfl, ?_⟩
    cases hj2
    exact t23x0 (hR2 _ _)
   refine ⟨rfl, ?_⟩
   cases hj2
   exact t23x0 (hR2 _ _)
  refine .q fun K10 k10 => rg 0 ?_
  refine k10 _ _ ?_
  refine .aC rfl h (fun hc5 h => ?_) (fun hc5 h => ?_)
  ·refine .q fun K11 k11 => ?_
   obtain ⟨s3, hj3, h⟩ := ob h
   have hR3 : ∀ t9 h9, Le 0 t9 h9 (u4 (.ptr 0 0 :: (.bool s3.1 :: (u64 (u64 (u64 (u16 (u4 [])))))))) [.box [.i 5, .str ([] : Str), aI s3.2]] → K11 t9 h9 := by
    intro t9 h9 hw
    refine k11 _ _ (AW.le hw ?_)
    clear hw
    refine .ret ?_
    have e9 := sj h
    subst e9
    refine hQ _ _ _ (aj aD (fun g => by simp) ?_)
    conv => whnf
    try rfl
   refine rg 0 ?_
   obtain ⟨x6, hx6, hj3⟩ := ob hj3
   refine aJ (l := p1) (f := aK) (cs := [.i ((x6).kind), .str ((x6).name), aI ((x6).kids)]) hx6 (aR x6) rfl ?_
   refine cp (iG 0 x6 _ rfl) nS (.cons (.same _) .nil) ?_
   obtain ⟨x7, hx7, hj3⟩ := ob hj3
   refine aJ (l := p1) (f := aK) (cs := [.i ((x7).kind), .str ((x7).name), aI ((x7).kids)]) hx7 (aR x7) rfl ?_
   refine aH hj3 (fun hc6 hj3 => ?_) (fun hc6 hj3 => ?_)
   ·obtain ⟨x8, hx8, hj3⟩ := ob hj3
    refine aJ (l := p1) (f := aK) (cs := [.i ((x8).kind), .str ((x8).name), aI ((x8).kids)]) hx8 (aR x8) rfl ?_
    obtain ⟨x9, hx9, hj3⟩ := ob hj3
    refine au (Fx _ _ _ _ hx9) KE (.cons (.same _) (.cons (.same _) .nil)) (fun g => by simp) (fun g => rfl) ?_
    refine ⟨rfl, ?_⟩
    cases hj3
    exact t23x0 (hR3 _ _)
   refine ⟨rfl, ?_⟩
   cases hj3
   exact t23x0 (hR3 _ _)
  refine .q fun K12 k12 => rg 0 ?_
  refine k12 _ _ ?_
  refine .aC rfl h (fun hc7 h => ?_) (fun hc7 h => ?_)
  ·refine .q fun K13 k13 => rg 0 ?_
   refine cp (iG 0 p0.ty _ rfl) nS (.cons (.same _) .nil) ?_
   refine k13 _ _ ?_
   refine .ret ?_
   have e9 := sj h
   subst e9
   refine hQ _ _ _ (aj aD (fun g => by simp) ?_)
   conv => whnf
   try rfl
  refine .q fun K14 k14 => rg 0 ?_
  refine k14 _ _ ?_
  refine .aC rfl h (fun hc8 h => ?_) (fun hc8 h => ?_)
  ·refine .q fun K15 k15 => rg 0 ?_
   refine au (vI 0 _ rfl) Dt .nil (fun g => rfl) (fun g => by simp) ?_
   refine cp (iG 0 (Ty.mk 1 ([] : Str) ([])) _ rfl) nS (.cons (.same _) .nil) ?_
   refine au (vI 0 _ rfl) Dt .nil (fun g => rfl) (fun g => by simp) ?_
   obtain ⟨x10, hx10, h⟩ := ob h
   refine au (Fx _ _ _ _ hx10) KE (.cons (.same _) (.cons (.same _) .nil)) (fun g => by simp) (fun g => rfl) ?_
   refine k15 _ _ ?_
   refine .ret ?_
   have e9 := sj h
   subst e9
   refine hQ _ _ _ (aj aD (fun g => by simp) ?_)
   conv => whnf
   try rfl
  refine .q fun K16 k16 => rg 0 ?_
  refine k16 _ _ ?_
  refine .aC rfl h (fun hc9 h => ?_) (fun hc9 h => ?_)
  ·refine .q fun K17 k17 => ?_
   obtain ⟨s4, hj4, h⟩ := ob h
   have hR4 : ∀ t9 h9, Le 0 t9 h9 (u4 (.ptr 0 0 :: (.bool s4.1 :: (u64 (u64 (u64 (u16 (u4 [])))))))) [.box [.i s4.2.1, .str s4.2.2.1, aI s4.2.2.2]] → K17 t9 h9 := by
    intro t9 h9 hw
    refine k17 _ _ (AW.le hw ?_)
    clear hw
    refine .ret ?_
    have e9 := sj h
    subst e9
    refine hQ _ _ _ (aj aD (fun g => by simp) ?_)
    conv => whnf
    try rfl
   refine rg 0 ?_
   obtain ⟨x11, hx11, hj4⟩ := ob hj4
   refine aJ (l := p1) (f := aK) (cs := [.i ((x11).kind), .str ((x11).name), aI ((x11).kids)]) hx11 (aR x11) rfl ?_
   obtain ⟨x12, hx12, hj4⟩ := ob hj4
   refine aJ (l := p1) (f := aK) (cs := [.i ((x12).kind), .str ((x12).name), aI ((x12).kids)]) hx12 (aR x12) rfl ?_
   obtain ⟨x13, hx13, hj4⟩ := ob hj4
   refine au (nZ _ _ _ hx13) yT (.cons (.same _) .nil) (fun g => by simp) (fun g => rfl) ?_
   refine aH hj4 (fun hc10 hj4 => ?_) (fun hc10 hj4 => ?_)
   ·obtain ⟨x14, hx14, hj4⟩ := ob hj4
    refine aJ (l := p1) (f := aK) (cs := [.i ((x14).kind), .str ((x14).name), aI ((x14).kids)]) hx14 (aR x14) rfl ?_
    refine ⟨rfl, ?_⟩
    cases hj4
    exact t23x0 (hR4 _ _)
   refine ⟨rfl, ?_⟩
   cases hj4
   exact t23x0 (hR4 _ _)
  refine .q fun K18 k18 => rg 0 ?_
  refine k18 _ _ ?_
  refine .aC rfl h (fun hc11 h => ?_) (fun hc11 h => ?_)
  ·refine .q fun K19 k19 => .q fun K20 k20 => ?_
   obtain ⟨s5, hj5, h⟩ := ob h
   have hR5 : ∀ t9 h9, Le 0 t9 h9 (.unk :: (aI p1 :: (u2 (.ptr 0 0 :: (u64 (u32 (u2 (.bool s5 :: (u64 (u32 (u16 (u2 [])))))))))))) [.box [.i 0, .str ([] : Str), .slice (List.map aK ([] : List Ty)) .nils]] → K20 t9 h9 := by
    intro t9 h9 hw
    refine k20 _ _ (AW.le hw ?_)
    clear hw
    refine .aC rfl h (fun hc12 h => ?_) (fun hc12 h => ?_)
    ·refine .q fun K21 k21 => rg 0 ?_
     refine k21 _ _ ?_
     refine .ret ?_
     have e9 := sj h
     subst e9
     refine hQ _ _ _ (aj aD (fun g => by simp) ?_)
     conv => whnf
     try rfl
    refine .skip ?_
    refine k19 _ _ ?_
    refine .q fun K22 k22 => rg 0 ?_
    obtain ⟨x15, hx15, h⟩ := ob h
    refine aJ (l := p1) (f := aK) (cs := [.i ((x15).kind), .str ((x15).name), aI ((x15).kids)]) hx15 (aR x15) rfl ?_
    obtain ⟨x16, hx16, h⟩ := ob h
    refine aJ (l := x15.kids) (f := aK) (cs := [.i ((x16).kind), .str ((x16).name), aI ((x16).kids)]) hx16 (aR x16) rfl ?_
    obtain ⟨x17, hx17, h⟩ := ob h
    refine aJ (l := p1) (f := aK) (cs := [.i ((x17).kind), .str ((x17).name), aI ((x17).kids)]) hx17 (aR x17) rfl ?_
    refine cp (Dx 0 x16 x17 _ rfl) Qu (.cons (.same _) (.cons (.same _) .nil)) ?_
    refine cp (iG 0 (Ty.mk 4 ([] : Str) ([x16, x17])) _ rfl) nS (.cons (.same _) .nil) ?_
    refine ⟨rfl, ?_⟩
    refine k22 _ _ ?_
    refine .ret ?_
    have e9 := sj h
    subst e9
    refine hQ _ _ _ (aj aD (fun g => by simp) ?_)
    conv => whnf
    try rfl
   refine rg 0 ?_
   obtain ⟨x18, hx18, hj5⟩ := ob hj5
   refine aJ (l := p1) (f := aK) (cs := [.i ((x18).kind), .str ((x18).name), aI ((x18).kids)]) hx18 (aR x18) rfl ?_
   obtain ⟨x19, hx19, hj5⟩ := ob hj5
   refine au (nZ _ _ _ hx19) yT (.cons (.same _) .nil) (fun g => by simp) (fun g => rfl) ?_
   refine aH hj5 (fun hc13 hj5 => ?_) (fun hc13 hj5 => ?_)
   ·cases hj5
    exact hR5 _ _ (wk [some 1] (.u (.e aB (.u2 (.c rfl (.u64 (.u32 (.u2 (.c rfl (.u64 (.u32 (.u16 (.u2 .nil)))))))))))) (.b rfl (.c rfl (.c rfl (.c rfl .nil))) .nil) rfl)
   obtain ⟨x20, hx20, hj5⟩ := ob hj5
   refine aJ (l := p1) (f := aK) (cs := [.i ((x20).kind), .str ((x20).name), aI ((x20).kids)]) hx20 (aR x20) rfl ?_
   cases hj5
   exact hR5 _ _ (wk [some 1] (.u (.e aB (.u2 (.c rfl (.u64 (.u32 (.u2 (.c rfl (.u64 (.u32 (.u16 (.u2 .nil)))))))))))) (.b rfl (.c rfl (.c rfl (.c rfl .nil))) .nil) rfl)
  refine .q fun K23 k23 => rg 0 ?_
  refine k23 _ _ ?_
  refine .aC rfl h (fun hc14 h => ?_) (fun hc14 h => ?_)
  ·refine .q fun K24 k24 => rg 0 ?_
   refine au (vI 0 _ rfl) Dt .nil (fun g => rfl) (fun g => by simp) ?_
   obtain ⟨x21, hx21, h⟩ := ob h
   refine aJ (l := p1) (f := aK) (cs := [.i ((x21).kind), .str ((x21).name), aI ((x21).kids)]) hx21 (aR x21) rfl ?_
   obtain ⟨x22, hx22, h⟩ := ob h
   refine au (nZ _ _ _ hx22) yT (.cons (.same _) .nil) (fun g => by simp) (fun g => rfl) ?_
   refine ⟨rfl, ?_⟩
   refine k24 _ _ ?_
   refine .ret ?_
   have e9 := sj h
   subst e9
   refine hQ _ _ _ (aj aD (fun g => by simp) ?_)
   conv => whnf
   try rfl
  refine .q fun K25 k25 => ?_
  obtain ⟨s6, hj6, h⟩ := ob h
  have hR6 : ∀ t9 h9, Le 0 t9 h9 (.unk :: (aI p1 :: (.ptr 0 0 :: (.unk :: (.ptr 1 0 :: (u2 (.unk :: (.i p0.op :: (u64 (u32 (u16 (u2 (.bool s6 :: (u64 (u16 (u8 (u4 (u2 [])))))))))))))))))) [.box [.i p0.op, .str p0.name, .i p0.n, .i p0.ty.kind, .str p0.ty.name, aI p0.ty.kids, bn p0.kids], .box [.i 0, .str ([] : Str), .slice (List.map aK ([] : List Ty)) .nils]] → K25 t9 h9 := by
   intro t9 h9 hw
   refine k25 _ _ (AW.le hw ?_)
   clear hw
   refine .aC rfl h (fun hc15 h => ?_) (fun hc15 h => ?_)
   ·refine .q fun K26 k26 => rg 0 ?_
    refine au (vI 0 _ rfl) Dt .nil (fun g => rfl) (fun g => by simp) ?_
    obtain ⟨x23, hx23, h⟩ := ob h
    refine aJ (l := p1) (f := aK) (cs := [.i ((x23).kind), .str ((x23).name), aI ((x23).kids)]) hx23 (aR x23) rfl ?_
    refine au (vI 0 _ rfl) Dt .nil (fun g => rfl) (fun g => by simp) ?_
    refine cp (iG 0 (Ty.mk 1 ([] : Str) ([])) _ rfl) nS (.cons (.same _) .nil) ?_
    obtain ⟨x24, hx24, h⟩ := ob h
    refine au (cB _ _ _ _ hx24) iQ (.cons (.same _) (.cons (.same _) .nil)) (fun g => by simp) (fun g => rfl) ?_
    refine ⟨rfl, ?_⟩
    refine k26 _ _ ?_
    refine .ret ?_
    have e9 := sj h
    subst e9
    refine hQ _ _ _ (aj aD (fun g => by simp) ?_)
    conv => whnf
    try rfl
   refine .q fun K27 k27 => rg 0 ?_
   refine k27 _ _ ?_
   refine .aC rfl h (fun hc16 h => ?_) (fun hc16 h => ?_)
   ·refine .q fun K28 k28 => rg 0 ?_
    obtain ⟨x25, hx25, h⟩ := ob h
    refine aJ (l := p1) (f := aK) (cs := [.i ((x25).kind), .str ((x25).name), aI ((x25).kids)]) hx25 (aR x25) rfl ?_
    refine cp (iG 0 x25 _ rfl) nS (.cons (.same _) .nil) ?_
    obtain ⟨x26, hx26, h⟩ := ob h
    refine aJ (l := p1) (f := aK) (cs := [.i ((x26).kind), .str ((x26).name), aI ((x26).kids)]) hx26 (aR x26) rfl ?_
    obtain ⟨x27, hx27, h⟩ := ob h
    refine au (nZ _ _ _ hx27) yT (.cons (.same _) .nil) (fun g => by simp) (fun g => rfl) ?_
    refine ⟨rfl, ?_⟩
    refine k28 _ _ ?_
    refine .ret ?_
    have e9 := sj h
    subst e9
    refine hQ _ _ _ (aj aD (fun g => by simp) ?_)
    conv => whnf
    try rfl
   refine .q fun K29 k29 => ?_
   obtain ⟨s7, hj7, h⟩ := ob h
   have hR7 : ∀ t9 h9, Le 0 t9 h9 (.unk :: (aI p1 :: (.ptr 0 0 :: (.unk :: (.ptr 1 0 :: (u2 (.unk :: (.i p0.op :: (u64 (u64 (u4 (u2 (.bool s7 :: (u64 (u8 (u2 [])))))))))))))))) [.box [.i p0.op, .str p0.name, .i p0.n, .i p0.ty.kind, .str p0.ty.name, aI p0.ty.kids, bn p0.kids], .box [.i 0, .str ([] : Str), .slice (List.map aK ([] : List Ty)) .nils]] → K29 t9 h9 := by
    intro t9 h9 hw
    refine k29 _ _ (AW.le hw ?_)
    clear hw
    refine .aC rfl h (fun hc17 h => ?_) (fun hc17 h => ?_)
    ·refine .q fun K30 k30 => ?_
     obtain ⟨s8, hj8, h⟩ := ob h
     have hR8 : ∀ t9 h9, Le 0 t9 h9 (u4 (.ptr 0 0 :: (.bool s8.1 :: (u64 (u64 (u64 (u16 (u4 [])))))))) [.box [.i s8.2.1, .str s8.2.2.1, aI s8.2.2.2]] → K30 t9 h9 := by
      intro t9 h9 hw
      refine k30 _ _ (AW.le hw ?_)
      clear hw
      refine .ret ?_
      have e9 := sj h
      subst e9
      refine hQ _ _ _ (aj aD (fun g => by simp) ?_)
      conv => whnf
      try rfl
     refine rg 0 ?_
     obtain ⟨x28, hx28, hj8⟩ := ob hj8
     refine aJ (l := p1) (f := aK) (cs := [.i ((x28).kind), .str ((x28).name), aI ((x28).kids)]) hx28 (aR x28) rfl ?_
     obtain ⟨x29, hx29, hj8⟩ := ob hj8
     refine aJ (l := p1) (f := aK) (cs := [.i ((x29).kind), .str ((x29).name), aI ((x29).kids)]) hx29 (aR x29) rfl ?_
     obtain ⟨x30, hx30, hj8⟩ := ob hj8
     refine au (nZ _ _ _ hx30) yT (.cons (.same _) .nil) (fun g => by simp) (fun g => rfl) ?_
     refine aH hj8 (fun hc18 hj8 => ?_) (fun hc18 hj8 => ?_)
     ·obtain ⟨x31, hx31, hj8⟩ := ob hj8
      refine aJ (l := p1) (f := aK) (cs := [.i ((x31).kind), .str ((x31).name), aI ((x31).kids)]) hx31 (aR x31) rfl ?_
      obtain ⟨x32, hx32, hj8⟩ := ob hj8
      refine aJ (l := p1) (f := aK) (cs := [.i ((x32).kind), .str ((x32).name), aI ((x32).kids)]) hx32 (aR x32) rfl ?_
      obtain ⟨x33, hx33, hj8⟩ := ob hj8
      refine au (cB _ _ _ _ hx33) iQ (.cons (.same _) (.cons (.same _) .nil)) (fun g => by simp) (fun g => rfl) ?_
      refine ⟨rfl, ?_⟩
      cases hj8
      exact t23x0 (hR8 _ _)
     refine ⟨rfl, ?_⟩
     cases hj8
     exact t23x0 (hR8 _ _)
    refine .q fun K31 k31 => ?_
    obtain ⟨s9, hj9, h⟩ := ob h
    have hR9 : ∀ t9 h9, Le 0 t9 h9 (.unk :: (aI p1 :: (.ptr 0 0 :: (.unk :: (.ptr 1 0 :: (u64 (u64 (u16 (u8 (u4 (u2 (.bool s9 :: (u32 (u16 (u4 (u2 [])))))))))))))))) [.box [.i p0.op, .str p0.name, .i p0.n, .i p0.ty.kind, .str p0.ty.name, aI p0.ty.kids, bn p0.kids], .box [.i 0, .str ([] : Str), .slice (List.map aK ([] : List Ty)) .nils]] → K31 t9 h9 := by
     intro t9 h9 hw
     refine k31 _ _ (AW.le hw ?_)
     clear hw
     refine .aC rfl h (fun hc19 h => ?_) (fun hc19 h => ?_)
     ·refine .q fun K32 k32 => .q fun K33 k33 => ?_
      obtain ⟨s10, hj10, h⟩ := ob h
      have hR10 : ∀ t9 h9, Le 0 t9 h9 (.unk :: (aI p1 :: (.ptr 0 0 :: (.unk :: (.ptr 1 0 :: (u64 (u64 (u32 (u16 (.bool s10 :: (u32 (u4 [])))))))))))) [.box [.i p0.op, .str p0.name, .i p0.n, .i p0.ty.kind, .str p0.ty.name, aI p0.ty.kids, bn p0.kids], .box [.i 0, .str ([] : Str), .slice (List.map aK ([] : List Ty)) .nils]] → K33 t9 h9 := by
       intro t9 h9 hw
       refine k33 _ _ (AW.le hw ?_)
       clear hw
       refine .aC rfl h (fun hc20 h => ?_) (fun hc20 h => ?_)
       ·refine .q fun K34 k34 => rg 0 ?_
        refine k34 _ _ ?_
        refine .ret ?_
        have e9 := sj h
        subst e9
        refine hQ _ _ _ (aj aD (fun g => by simp) ?_)
        conv => whnf
        try rfl
       refine .skip ?_
       refine k32 _ _ ?_
       refine .q fun K35 k35 => rg 1 ?_
       obtain ⟨x34, hx34, h⟩ := ob h
       refine aJ (l := p1) (f := aK) (cs := [.i ((x34).kind), .str ((x34).name), aI ((x34).kids)]) hx34 (aR x34) rfl ?_
       obtain ⟨x35, hx35, h⟩ := ob h
       refine aJ (l := x34.kids) (f := aK) (cs := [.i ((x35).kind), .str ((x35).name), aI ((x35).kids)]) hx35 (aR x35) rfl ?_
       obtain ⟨x36, hx36, h⟩ := ob h
       refine aJ (l := p1) (f := aK) (cs := [.i ((x36).kind), .str ((x36).name), aI ((x36).kids)]) hx36 (aR x36) rfl ?_
       obtain ⟨x37, hx37, h⟩ := ob h
       refine aJ (l := x36.kids) (f := aK) (cs := [.i ((x37).kind), .str ((x37).name), aI ((x37).kids)]) hx37 (aR x37) rfl ?_
       refine cp (Dx 0 x35 x37 _ rfl) Qu (.cons (.same _) (.cons (.same _) .nil)) ?_
       refine cp (iG 0 (Ty.mk 4 ([] : Str) ([x35, x37])) _ rfl) nS (.cons (.same _) .nil) ?_
       refine ⟨rfl, ?_⟩
       refine k35 _ _ ?_
       refine .q fun K36 k36 => ?_
       obtain ⟨s11, hj11, h⟩ := ob h
       have hR11 : ∀ t9 h9, Le 0 t9 h9 (u4 (.ptr 0 0 :: (.unk :: (.ptr 1 0 :: (u64 (u64 (u64 (u16 (u2 (.unk :: [])))))))))) [.box [.i 0, .str ([] : Str), .slice (List.map aK ([] : List Ty)) .nils], .box [.i 5, .str ([] : Str), aI s11]] → K36 t9 h9 := by
        intro t9 h9 hw
        refine k36 _ _ (AW.le hw ?_)
        clear hw
        refine .q fun K37 k37 => rg 0 ?_
        refine k37 _ _ ?_
        refine .ret ?_
        have e9 := sj h
        subst e9
        refine hQ _ _ _ (aj aD (fun g => by simp) ?_)
        conv => whnf
        try rfl
       refine .q fun K38 k38 => rg 0 ?_
       refine k38 _ _ ?_
       refine .aC rfl hj11 (fun hc21 hj11 => ?_) (fun hc21 hj11 => ?_)
       ·refine rg 0 ?_
        refine cp (iG 0 (Ty.mk 5 ([] : Str) ([(Ty.mk 4 ([] : Str) ([x35, x37]))])) _ rfl) nS (.cons (.same _) .nil) ?_
        cases hj11
        exact hR11 _ _ (wk [some 1, some 2] (.u4 (.c rfl (.u (.c rfl (.u64 (.u64 (.u64 (.u16 (.u2 (.u .nil)))))))))) (.b rfl (.c rfl (.c rfl (.c rfl .nil))) (.b rfl (.c rfl (.c rfl (.e aB .nil))) .nil)) rfl)
       refine .skip ?_
       cases hj11
       exact hR11 _ _ (wk [some 1, some 2] (.u4 (.c rfl (.u (.c rfl (.u64 (.u64 (.u64 (.u16 (.u2 (.u .nil)))))))))) (.b rfl (.c rfl (.c rfl (.c rfl .nil))) (.b rfl (.c rfl (.c rfl (.e aB .nil))) .nil)) rfl)
      refine rg 0 ?_
      obtain ⟨x38, hx38, hj10⟩ := ob hj10
      refine aJ (l := p1) (f := aK) (cs := [.i ((x38).kind), .str ((x38).name), aI ((x38).kids)]) hx38 (aR x38) rfl ?_
      obtain ⟨x39, hx39, hj10⟩ := ob hj10
      refine au (nZ _ _ _ hx39) yT (.cons (.same _) .nil) (fun g => by simp) (fun g => rfl) ?_
      refine aH hj10 (fun hc22 hj10 => ?_) (fun hc22 hj10 => ?_)
      ·cases hj10
       exact hR10 _ _ (li (.u (.s (.s (.u (.s (.u16 (.u16 (.u16 (.u16 (.u16 (.u16 (.u16 (.u16 (.u16 (.u16 (.u16 (.s (.u16 (.u16 (.u4 .n)))))))))))))))))))))
      obtain ⟨x40, hx40, hj10⟩ := ob hj10
      refine aJ (l := p1) (f := aK) (cs := [.i ((x40).kind), .str ((x40).name), aI ((x40).kids)]) hx40 (aR x40) rfl ?_
      obtain ⟨x41, hx41, hj10⟩ := ob hj10
      refine au (nZ _ _ _ hx41) yT (.cons (.same _) .nil) (fun g => by simp) (fun g => rfl) ?_
      cases hj10
      exact hR10 _ _ (li (.u (.s (.s (.u (.s (.u16 (.u16 (.u16 (.u16 (.u16 (.u16 (.u16 (.u16 (.u16 (.u16 (.u16 (.s (.u16 (.u16 (.u4 .n)))))))))))))))))))))
     refine .skip ?_
     refine k2 _ _ ?_
     refine .q fun K39 k39 => .q fun K40 k40 => rg 0 ?_
     refine k40 _ _ ?_
     refine .aC rfl h (fun hc23 h => ?_) (fun hc23 h => ?_)
     ·refine .q fun K41 k41 => rg 0 ?_
      obtain ⟨x42, hx42, h⟩ := ob h
      refine cp (agj _ _ _ _ hx42) aol (.cons (.same _) (.cons (.same _) .nil)) ?_
      refine k41 _ _ ?_
      refine .ret ?_
      have e9 := sj h
      subst e9
      refine hQ _ _ _ (aj aD (fun g => by simp) ?_)
      conv => whnf
      try rfl
     refine .skip ?_
     refine k39 _ _ ?_
     refine .q fun K42 k42 => rg 0 ?_
     obtain ⟨x43, hx43, h⟩ := ob h
     refine cp (abf _ _ _ _ hx43) aoh (.cons (.same _) (.cons (.same _) .nil)) ?_
     refine k42 _ _ ?_
     refine .ret ?_
     have e9 := sj h
     subst e9
     refine hQ _ _ _ (aj aD (fun g => by simp) ?_)
     conv => whnf
     try rfl
    refine .q fun K43 k43 => rg 0 ?_
    refine k43 _ _ ?_
    refine .aC rfl hj9 (fun hc24 hj9 => ?_) (fun hc24 hj9 => ?_)
    ·refine .skip ?_
     cases hj9
     exact t23x1 (hR9 _ _)
    refine .q fun K44 k44 => rg 0 ?_
    refine k44 _ _ ?_
    refine .aC rfl hj9 (fun hc25 hj9 => ?_) (fun hc25 hj9 => ?_)
    ·refine .skip ?_
     cases hj9
     exact t23x1 (hR9 _ _)
    refine .q fun K45 k45 => rg 0 ?_
    refine k45 _ _ ?_
    refine .aC rfl hj9 (fun hc26 hj9 => ?_) (fun hc26 hj9 => ?_)
    ·refine .skip ?_
     cases hj9
     exact t23x1 (hR9 _ _)
    refine .q fun K46 k46 => rg 0 ?_
    refine k46 _ _ ?_
    refine .aC rfl hj9 (fun hc27 hj9 => ?_) (fun hc27 hj9 => ?_)
    ·refine .skip ?_
     cases hj9
     exact t23x1 (hR9 _ _)
    refine .q fun K47 k47 => rg 0 ?_
    refine k47 _ _ ?_
    refine .aC rfl hj9 (fun hc28 hj9 => ?_) (fun hc28 hj9 => ?_)
    ·refine .skip ?_
     cases hj9
     exact t23x1 (hR9 _ _)
    refine rg 0 ?_
    cases hj9
    exact t23x1 (hR9 _ _)
   refine .q fun K48 k48 => rg 0 ?_
   refine k48 _ _ ?_
   refine .aC rfl hj7 (fun hc29 hj7 => ?_) (fun hc29 hj7 => ?_)
   ·refine .skip ?_
    cases hj7
    exact t23x3 (hR7 _ _)
   refine .q fun K49 k49 => rg 0 ?_
   refine k49 _ _ ?_
   refine .aC rfl hj7 (fun hc30 hj7 => ?_) (fun hc30 hj7 => ?_)
   ·refine .skip ?_
    cases hj7
    exact t23x3 (hR7 _ _)
   refine rg 0 ?_
   cases hj7
   exact t23x3 (hR7 _ _)
  refine .q fun K50 k50 => rg 0 ?_
  refine k50 _ _ ?_
  refine .aC rfl hj6 (fun hc31 hj6 => ?_) (fun hc31 hj6 => ?_)
  ·refine .skip ?_
   cases hj6
   exact hR6 _ _ (li (.u (.s (.s (.u (.s (.u2 (.u (.s (.u16 (.u16 (.u16 (.u16 (.u16 (.u16 (.u16 (.u2 (.s (.u16 (.u16 (.u16 (.u16 (.u16 (.u8 (.u4 (.u2 .n))))))))))))))))))))))))))
  refine rg 0 ?_
  cases hj6
  exact hR6 _ _ (li (.u (.s (.s (.u (.s (.u2 (.u (.s (.u16 (.u16 (.u16 (.u16 (.u16 (.u16 (.u16 (.u2 (.s (.u16 (.u16 (.u16 (.u16 (.u16 (.u8 (.u4 (.u2 .n))))))))))))))))))))))))))
 refine .q fun K51 k51 => rg 0 ?_
 refine k51 _ _ ?_
 refine .aC rfl hj1 (fun hc32 hj1 => ?_) (fun hc32 hj1 => ?_)
 ·refine .skip ?_
  cases hj1
  exact t23x2 (hR1 _ _)
 refine .q fun K52 k52 => rg 0 ?_
 refine k52 _ _ ?_
 refine .aC rfl hj1 (fun hc33 hj1 => ?_) (fun hc33 hj1 => ?_)
 ·refine .skip ?_
  cases hj1
  exact t23x2 (hR1 _ _)
 refine .q fun K53 k53 => rg 0 ?_
 refine k53 _ _ ?_
 refine .aC rfl hj1 (fun hc34 hj1 => ?_) (fun hc34 hj1 => ?_)
 ·refine .skip ?_
  cases hj1
  exact t23x2 (hR1 _ _)
 refine .q fun K54 k54 => rg 0 ?_
 refine k54 _ _ ?_
 refine .aC rfl hj1 (fun hc35 hj1 => ?_) (fun hc35 hj1 => ?_)
 ·refine .skip ?_
  cases hj1
  exact t23x2 (hR1 _ _)
 refine .q fun K55 k55 => rg 0 ?_
 refine k55 _ _ ?_
 refine .aC rfl hj1 (fun hc36 hj1 => ?_) (fun hc36 hj1 => ?_)
 ·refine .skip ?_
  cases hj1
  exact t23x2 (hR1 _ _)
 refine rg 0 ?_
 cases hj1
 exact t23x2 (hR1 _ _)
end Abs
end Go.Proofs.YtiiaccpcoclklaaGreat
