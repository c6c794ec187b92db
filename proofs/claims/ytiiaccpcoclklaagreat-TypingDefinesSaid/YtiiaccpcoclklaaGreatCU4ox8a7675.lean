/-
  Contracts of Go functions (printed). Conditions: none.
-/
import Derived.KernelRfl
import Derived.Test.YtiiaccpcoclklaaGreatCU4xa9f5b9
import Derived.Test.YtiiaccpcoclklaaGreatCU3ox3351cb
set_option linter.unusedSimpArgs false
set_option linter.unusedVariables false
namespace Go.Proofs.YtiiaccpcoclklaaGreat
namespace Abs
open Go Go.Proofs
set_option maxRecDepth 100000
set_option maxHeartbeats 40000000
theorem u4x0 {p q : Prop} (f : p → q) (h : p := by exact li (.u (.s (.s (.s (.u16 (.u16 (.u4 (.u2 (.s (.u16 (.u16 (.u16 (.u16 (.u16 (.u4 (.u2 (.u .n)))))))))))))))))) : q := f h
theorem u4x1 {p q : Prop} (f : p → q) (h : p := by exact wk [some 1, some 2] (.u2 (.c rfl (.e aN (.c rfl (.u64 (.u8 (.c rfl (.u16 (.u8 (.c rfl (.u16 (.u8 (.u2 (.u .nil)))))))))))))) (.b rfl (.c rfl (.c rfl (.c rfl (.c rfl (.c rfl (.c rfl (.c rfl .nil))))))) (.b rfl (.c rfl (.c rfl (.c rfl (.c rfl (.c rfl (.e aB (.e aN .nil))))))) .nil)) rfl) : q := f h
abbrev R2_defined_S (rec_R2_defined : Tm → Option Tm) : Prop := ∀ (p0 : Tm) (r : Tm), rec_R2_defined p0 = some r → ak Tryz.prog 88 [bg p0] [] (bg r) []
theorem QU (n : Nat) (rec_R2_defined : Tm → Option Tm) (hrec_R2_defined : R2_defined_S rec_R2_defined) (p0 : Tm) (r : Tm) (h : uZ n rec_R2_defined p0 = some r) : ak Tryz.prog 88 [bg p0] [] (bg r) [] := by
 unfold uZ at h
 refine ah true Tryz.func88 rfl (nt Tryz.ntmps88 rfl) fun Q hQ t ht => ?_
 conv at ht => whnf
 subst ht
 refine .q fun K1 k1 => rg 2 ?_
 refine k1 _ _ ?_
 refine .q fun K2 k2 => rg 0 ?_
 refine k2 _ _ ?_
 refine .q fun K3 k3 => .q fun K4 k4 => rg 0 ?_
 refine k4 _ _ ?_
 refine .block ?_
 refine .q fun K5 k5 => ?_
 obtain ⟨s1, hj1, h⟩ := ob h
 have hR1 : ∀ t9 h9, Le 0 t9 h9 (.unk :: (.ptr 0 0 :: (.ptr 1 0 :: (bn p0.kids :: (u4 (u2 (.i p0.op :: (.bool s1 :: (u64 (u32 (u16 (u4 (u2 []))))))))))))) [.box [.i p0.op, .str p0.name, .i p0.n, .i p0.ty.kind, .str p0.ty.name, aI p0.ty.kids, bn p0.kids], .box [.i 0, .str ([] : Str), .i 0, .i 0, .str ([] : Str), .slice (List.map aK ([] : List Ty)) .nils, .slice (List.map aS ([] : List Tm)) .nils]] → K5 t9 h9 := by
  intro t9 h9 hw
  refine k5 _ _ (AW.le hw ?_)
  clear hw
  refine .aC rfl h (fun hc1 h => ?_) (fun hc1 h => ?_)
  ·refine .q fun K6 k6 => rg 0 ?_
   obtain ⟨x1, hx1, h⟩ := ob h
   refine aJ (l := p0.kids) (f := aS) (cs := [.i ((x1).op), .str ((x1).name), .i ((x1).n), .i (((x1).ty).kind), .str (((x1).ty).name), aI (((x1).ty).kids), bn ((x1).kids)]) hx1 (aX x1) rfl ?_
   obtain ⟨x2, hx2, h⟩ := ob h
   refine cp (hrec_R2_defined _ _ hx2) FJ (.cons (.same _) .nil) ?_
   obtain ⟨x3, hx3, h⟩ := ob h
   refine aJ (l := p0.kids) (f := aS) (cs := [.i ((x3).op), .str ((x3).name), .i ((x3).n), .i (((x3).ty).kind), .str (((x3).ty).name), aI (((x3).ty).kids), bn ((x3).kids)]) hx3 (aX x3) rfl ?_
   obtain ⟨x4, hx4, h⟩ := ob h
   refine aJ (l := p0.kids) (f := aS) (cs := [.i ((x4).op), .str ((x4).name), .i ((x4).n), .i (((x4).ty).kind), .str (((x4).ty).name), aI (((x4).ty).kids), bn ((x4).kids)]) hx4 (aX x4) rfl ?_
   obtain ⟨x5, hx5, h⟩ := ob h
   refine cp (hrec_R2_defined _ _ hx5) FJ (.cons (.same _) .nil) ?_
   obtain ⟨x6, hx6, h⟩ := ob h
   refine cp (Pv _ _ _ _ _ hx6) aiv (.cons (.same _) (.cons (.same _) (.cons (.same _) .nil))) ?_
   obtain ⟨x7, hx7, h⟩ := ob h
   refine cp (sJ _ _ _ _ hx7) Ah (.cons (.same _) (.cons (.same _) .nil)) ?_
   refine ⟨rfl, ?_⟩
   refine k6 _ _ ?_
   refine .ret ?_
   have e9 := sj h
   subst e9
   refine hQ _ _ _ (aj aD (fun g => by simp) ?_)
   conv => whnf
   try rfl
  refine .q fun K7 k7 => rg 0 ?_
  refine k7 _ _ ?_
  refine .aC rfl h (fun hc2 h => ?_) (fun hc2 h => ?_)
  ·refine .q fun K8 k8 => rg 0 ?_
   obtain ⟨x8, hx8, h⟩ := ob h
   refine aJ (l := p0.kids) (f := aS) (cs := [.i ((x8).op), .str ((x8).name), .i ((x8).n), .i (((x8).ty).kind), .str (((x8).ty).name), aI (((x8).ty).kids), bn ((x8).kids)]) hx8 (aX x8) rfl ?_
   obtain ⟨x9, hx9, h⟩ := ob h
   refine cp (hrec_R2_defined _ _ hx9) FJ (.cons (.same _) .nil) ?_
   obtain ⟨x10, hx10, h⟩ := ob h
   refine aJ (l := p0.kids) (f := aS) (cs := [.i ((x10).op), .str ((x10).name), .i ((x10).n), .i (((x10).ty).kind), .str (((x10).ty).name), aI (((x10).ty).kids), bn ((x10).kids)]) hx10 (aX x10) rfl ?_
   obtain ⟨x11, hx11, h⟩ := ob h
   refine aJ (l := p0.kids) (f := aS) (cs := [.i ((x11).op), .str ((x11).name), .i ((x11).n), .i (((x11).ty).kind), .str (((x11).ty).name), aI (((x11).ty).kids), bn ((x11).kids)]) hx11 (aX x11) rfl ?_
   obtain ⟨x12, hx12, h⟩ := ob h
   refine cp (hrec_R2_defined _ _ hx12) FJ (.cons (.same _) .nil) ?_
   obtain ⟨x13, hx13, h⟩ := ob h
   refine cp (Pv _ _ _ _ _ hx13) aiv (.cons (.same _) (.cons (.same _) (.cons (.same _) .nil))) ?_
   obtain ⟨x14, hx14, h⟩ := ob h
   refine cp (sJ _ _ _ _ hx14) Ah (.cons (.same _) (.cons (.same _) .nil)) ?_
   refine ⟨rfl, ?_⟩
   refine k8 _ _ ?_
   refine .ret ?_
   have e9 := sj h
   subst e9
   refine hQ _ _ _ (aj aD (fun g => by simp) ?_)
   conv => whnf
   try rfl
  refine .q fun K9 k9 => ?_
  obtain ⟨s2, hj2, h⟩ := ob h
  have hR2 : ∀ t9 h9, Le 0 t9 h9 (.unk :: (.ptr 0 0 :: (.ptr 1 0 :: (bn p0.kids :: (u32 (u4 (u2 (.bool s2 :: (u64 (u16 (u4 (u2 (.unk :: []))))))))))))) [.box [.i p0.op, .str p0.name, .i p0.n, .i p0.ty.kind, .str p0.ty.name, aI p0.ty.kids, bn p0.kids], .box [.i 0, .str ([] : Str), .i 0, .i 0, .str ([] : Str), .slice (List.map aK ([] : List Ty)) .nils, .slice (List.map aS ([] : List Tm)) .nils]] → K9 t9 h9 := by
   intro t9 h9 hw
   refine k9 _ _ (AW.le hw ?_)
   clear hw
   refine .aC rfl h (fun hc3 h => ?_) (fun hc3 h => ?_)
   ·refine .q fun K10 k10 => rg 0 ?_
    obtain ⟨x15, hx15, h⟩ := ob h
    refine aJ (l := p0.kids) (f := aS) (cs := [.i ((x15).op), .str ((x15).name), .i ((x15).n), .i (((x15).ty).kind), .str (((x15).ty).name), aI (((x15).ty).kids), bn ((x15).kids)]) hx15 (aX x15) rfl ?_
    obtain ⟨x16, hx16, h⟩ := ob h
    refine cp (hrec_R2_defined _ _ hx16) FJ (.cons (.same _) .nil) ?_
    obtain ⟨x17, hx17, h⟩ := ob h
    refine aJ (l := p0.kids) (f := aS) (cs := [.i ((x17).op), .str ((x17).name), .i ((x17).n), .i (((x17).ty).kind), .str (((x17).ty).name), aI (((x17).ty).kids), bn ((x17).kids)]) hx17 (aX x17) rfl ?_
    obtain ⟨x18, hx18, h⟩ := ob h
    refine aJ (l := p0.kids) (f := aS) (cs := [.i ((x18).op), .str ((x18).name), .i ((x18).n), .i (((x18).ty).kind), .str (((x18).ty).name), aI (((x18).ty).kids), bn ((x18).kids)]) hx18 (aX x18) rfl ?_
    obtain ⟨x19, hx19, h⟩ := ob h
    refine cp (hrec_R2_defined _ _ hx19) FJ (.cons (.same _) .nil) ?_
    obtain ⟨x20, hx20, h⟩ := ob h
    refine cp (agw _ _ _ _ _ hx20) ao9 (.cons (.same _) (.cons (.same _) (.cons (.same _) .nil))) ?_
    obtain ⟨x21, hx21, h⟩ := ob h
    refine cp (sJ _ _ _ _ hx21) Ah (.cons (.same _) (.cons (.same _) .nil)) ?_
    refine ⟨rfl, ?_⟩
    refine k10 _ _ ?_
    refine .ret ?_
    have e9 := sj h
    subst e9
    refine hQ _ _ _ (aj aD (fun g => by simp) ?_)
    conv => whnf
    try rfl
   refine .skip ?_
   refine k3 _ _ ?_
   refine .q fun K11 k11 => rg 1 ?_
   refine au (agI 0 _ rfl) ao3 .nil (fun g => rfl) (fun g => by simp) ?_
   refine k11 _ _ ?_
   refine .q fun K12 k12 => .q fun K13 k13 => rg 0 ?_
   refine k13 _ _ ?_
   refine .block ?_
   obtain ⟨o1, ho1, h⟩ := ob h
   have hR3 : ∀ s4 : Int × Str × Int × Int × Str × (List Ty) × (List Tm), o1 = .nx s4 → ∀ t9 h9, Le 0 t9 h9 (.unk :: (.ptr 0 0 :: (.ptr 1 0 :: (bn p0.kids :: (.ptr 2 0 :: (u64 (u32 (u16 (u8 (u4 (.unk :: []))))))))))) [.box [.i p0.op, .str p0.name, .i p0.n, .i p0.ty.kind, .str p0.ty.name, aI p0.ty.kids, bn p0.kids], .box [.i 0, .str ([] : Str), .i 0, .i 0, .str ([] : Str), .slice (List.map aK ([] : List Ty)) .nils, .slice (List.map aS ([] : List Tm)) .nils], .box [.i s4.1, .str s4.2.1, .i s4.2.2.1, .i s4.2.2.2.1, .str s4.2.2.2.2.1, aI s4.2.2.2.2.2.1, bn s4.2.2.2.2.2.2]] → K12 t9 h9 := by
    intro s4 ho
    subst ho
    dsimp only [LR.el] at h
    intro t9 h9 hw
    refine k12 _ _ (AW.le hw ?_)
    refine .q fun K14 k14 => .q fun K15 k15 => rg 0 ?_
    refine k15 _ _ ?_
    refine .block ?_
    refine .q fun K16 k16 => rg 0 ?_
    refine k16 _ _ ?_
    refine .aC rfl h (fun hc4 h => ?_) (fun hc4 h => ?_)
    ·refine .q fun K17 k17 => rg 0 ?_
     obtain ⟨x22, hx22, h⟩ := ob h
     refine aJ (l := p0.kids) (f := aS) (cs := [.i ((x22).op), .str ((x22).name), .i ((x22).n), .i (((x22).ty).kind), .str (((x22).ty).name), aI (((x22).ty).kids), bn ((x22).kids)]) hx22 (aX x22) rfl ?_
     refine au (zX 0 0 _ rfl) KD (.cons (.same _) .nil) (fun g => rfl) (fun g => by simp) ?_
     refine cp (xB 0 11 x22 (Tm.mk 19 ([] : Str) 0 ((Ty.mk 0 ([] : Str) ([]))) ([])) _ rfl) Cy (.cons (.same _) (.cons (.same _) (.cons (.same _) .nil))) ?_
     obtain ⟨x23, hx23, h⟩ := ob h
     refine cp (sJ _ _ _ _ hx23) Ah (.cons (.same _) (.cons (.same _) .nil)) ?_
     refine ⟨rfl, ?_⟩
     refine k17 _ _ ?_
     refine .ret ?_
     have e9 := sj h
     subst e9
     refine hQ _ _ _ (aj aD (fun g => by simp) ?_)
     conv => whnf
     try rfl
    refine .q fun K18 k18 => rg 0 ?_
    refine k18 _ _ ?_
    refine .aC rfl h (fun hc5 h => ?_) (fun hc5 h => ?_)
    ·refine .q fun K19 k19 => rg 0 ?_
     refine au (zX 0 0 _ rfl) KD (.cons (.same _) .nil) (fun g => rfl) (fun g => by simp) ?_
     obtain ⟨x24, hx24, h⟩ := ob h
     refine aJ (l := p0.kids) (f := aS) (cs := [.i ((x24).op), .str ((x24).name), .i ((x24).n), .i (((x24).ty).kind), .str (((x24).ty).name), aI (((x24).ty).kids), bn ((x24).kids)]) hx24 (aX x24) rfl ?_
     refine cp (xB 0 13 (Tm.mk 19 ([] : Str) 0 ((Ty.mk 0 ([] : Str) ([]))) ([])) x24 _ rfl) Cy (.cons (.same _) (.cons (.same _) (.cons (.same _) .nil))) ?_
     obtain ⟨x25, hx25, h⟩ := ob h
     refine cp (sJ _ _ _ _ hx25) Ah (.cons (.same _) (.cons (.same _) .nil)) ?_
     refine au (zX 0 0 _ rfl) KD (.cons (.same _) .nil) (fun g => rfl) (fun g => by simp) ?_
     obtain ⟨x26, hx26, h⟩ := ob h
     refine aJ (l := p0.kids) (f := aS) (cs := [.i ((x26).op), .str ((x26).name), .i ((x26).n), .i (((x26).ty).kind), .str (((x26).ty).name), aI (((x26).ty).kids), bn ((x26).kids)]) hx26 (aX x26) rfl ?_
     refine cp (xB 0 12 (Tm.mk 19 ([] : Str) 0 ((Ty.mk 0 ([] : Str) ([]))) ([])) x26 _ rfl) Cy (.cons (.same _) (.cons (.same _) (.cons (.same _) .nil))) ?_
     obtain ⟨x27, hx27, h⟩ := ob h
     refine cp (sJ _ _ _ _ hx27) Ah (.cons (.same _) (.cons (.same _) .nil)) ?_
     refine ⟨rfl, ?_⟩
     refine k19 _ _ ?_
     refine .ret ?_
     have e9 := sj h
     subst e9
     refine hQ _ _ _ (aj aD (fun g => by simp) ?_)
     conv => whnf
     try rfl
    refine .q fun K20 k20 => ?_
    obtain ⟨s5, hj3, h⟩ := ob h
    have hR4 : ∀ t9 h9, Le 0 t9 h9 (u2 (.ptr 0 0 :: (bn p0.kids :: (.ptr 1 0 :: (u64 (u8 (.i p0.op :: (u16 (u8 (.bool s5 :: (u16 (u8 (u2 (.unk :: [])))))))))))))) [.box [.i 0, .str ([] : Str), .i 0, .i 0, .str ([] : Str), .slice (List.map aK ([] : List Ty)) .nils, .slice (List.map aS ([] : List Tm)) .nils], .box [.i s4.1, .str s4.2.1, .i s4.2.2.1, .i s4.2.2.2.1, .str s4.2.2.2.2.1, aI s4.2.2.2.2.2.1, bn s4.2.2.2.2.2.2]] → K20 t9 h9 := by
     intro t9 h9 hw
     refine k20 _ _ (AW.le hw ?_)
     clear hw
     refine .aC rfl h (fun hc6 h => ?_) (fun hc6 h => ?_)
     ·refine .q fun K21 k21 => rg 0 ?_
      refine au (zX 0 0 _ rfl) KD (.cons (.same _) .nil) (fun g => rfl) (fun g => by simp) ?_
      obtain ⟨x28, hx28, h⟩ := ob h
      refine aJ (l := p0.kids) (f := aS) (cs := [.i ((x28).op), .str ((x28).name), .i ((x28).n), .i (((x28).ty).kind), .str (((x28).ty).name), aI (((x28).ty).kids), bn ((x28).kids)]) hx28 (aX x28) rfl ?_
      refine cp (OT 0 47 x28 _ rfl) aaF (.cons (.same _) (.cons (.same _) .nil)) ?_
      refine cp (xB 0 12 (Tm.mk 19 ([] : Str) 0 ((Ty.mk 0 ([] : Str) ([]))) ([])) (Tm.mk 47 ([] : Str) 0 ((Ty.mk 0 ([] : Str) ([]))) ([x28])) _ rfl) Cy (.cons (.same _) (.cons (.same _) (.cons (.same _) .nil))) ?_
      obtain ⟨x29, hx29, h⟩ := ob h
      refine cp (sJ _ _ _ _ hx29) Ah (.cons (.same _) (.cons (.same _) .nil)) ?_
      refine ⟨rfl, ?_⟩
      refine k21 _ _ ?_
      refine .ret ?_
      have e9 := sj h
      subst e9
      refine hQ _ _ _ (aj aD (fun g => by simp) ?_)
      conv => whnf
      try rfl
     refine .q fun K22 k22 => rg 0 ?_
     refine k22 _ _ ?_
     refine .aC rfl h (fun hc7 h => ?_) (fun hc7 h => ?_)
     ·refine .q fun K23 k23 => rg 1 ?_
      obtain ⟨x30, hx30, h⟩ := ob h
      refine aJ (l := p0.kids) (f := aS) (cs := [.i ((x30).op), .str ((x30).name), .i ((x30).n), .i (((x30).ty).kind), .str (((x30).ty).name), aI (((x30).ty).kids), bn ((x30).kids)]) hx30 (aX x30) rfl ?_
      obtain ⟨x31, hx31, h⟩ := ob h
      refine aJ (l := p0.kids) (f := aS) (cs := [.i ((x31).op), .str ((x31).name), .i ((x31).n), .i (((x31).ty).kind), .str (((x31).ty).name), aI (((x31).ty).kids), bn ((x31).kids)]) hx31 (aX x31) rfl ?_
      refine cp (OT 0 28 x31 _ rfl) aaF (.cons (.same _) (.cons (.same _) .nil)) ?_
      refine cp (xB 0 53 x30 (Tm.mk 28 ([] : Str) 0 ((Ty.mk 0 ([] : Str) ([]))) ([x31])) _ rfl) Cy (.cons (.same _) (.cons (.same _) (.cons (.same _) .nil))) ?_
      refine ⟨rfl, ?_⟩
      refine k23 _ _ ?_
      refine .q fun K24 k24 => rg 0 ?_
      refine cp (OT 0 47 (Tm.mk 53 ([] : Str) 0 ((Ty.mk 0 ([] : Str) ([]))) ([x30, (Tm.mk 28 ([] : Str) 0 ((Ty.mk 0 ([] : Str) ([]))) ([x31]))])) _ rfl) aaF (.cons (.same _) (.cons (.same _) .nil)) ?_
      refine au (zX 0 1 _ rfl) KD (.cons (.same _) .nil) (fun g => rfl) (fun g => by simp) ?_
      refine cp (xB 0 10 (Tm.mk 47 ([] : Str) 0 ((Ty.mk 0 ([] : Str) ([]))) ([(Tm.mk 53 ([] : Str) 0 ((Ty.mk 0 ([] : Str) ([]))) ([x30, (Tm.mk 28 ([] : Str) 0 ((Ty.mk 0 ([] : Str) ([]))) ([x31]))]))])) (Tm.mk 19 ([] : Str) 1 ((Ty.mk 0 ([] : Str) ([]))) ([])) _ rfl) Cy (.cons (.same _) (.cons (.same _) (.cons (.same _) .nil))) ?_
      obtain ⟨x32, hx32, h⟩ := ob h
      refine cp (sJ _ _ _ _ hx32) Ah (.cons (.same _) (.cons (.same _) .nil)) ?_
      refine ⟨rfl, ?_⟩
      refine k24 _ _ ?_
      refine .ret ?_
      have e9 := sj h
      subst e9
      refine hQ _ _ _ (aj aD (fun g => by simp) ?_)
      conv => whnf
      try rfl
     refine .skip ?_
     refine k14 _ _ ?_
     refine .q fun K25 k25 => rg 0 ?_
     refine k25 _ _ ?_
     refine .ret ?_
     have e9 := sj h
     subst e9
     refine hQ _ _ _ (aj aD (fun g => by simp) ?_)
     conv => whnf
     try rfl
    refine .q fun K26 k26 => rg 0 ?_
    refine k26 _ _ ?_
    refine .aC rfl hj3 (fun hc8 hj3 => ?_) (fun hc8 hj3 => ?_)
    ·refine .skip ?_
     cases hj3
     exact u4x1 (hR4 _ _)
    refine rg 0 ?_
    cases hj3
    exact u4x1 (hR4 _ _)
   refine .loopS (yJ n rec_R2_defined p0) (fun (s3 : Int × Int × Str × Int × Int × Str × (List Ty) × (List Tm)) => (.unk :: (.ptr 0 0 :: (.ptr 1 0 :: (bn p0.kids :: (.ptr 2 0 :: (.i s3.1 :: (u64 (u32 (u16 (u8 (u4 [])))))))))))) (fun (s3 : Int × Int × Str × Int × Int × Str × (List Ty) × (List Tm)) => [.box [.i p0.op, .str p0.name, .i p0.n, .i p0.ty.kind, .str p0.ty.name, aI p0.ty.kids, bn p0.kids], .box [.i 0, .str ([] : Str), .i 0, .i 0, .str ([] : Str), .slice (List.map aK ([] : List Ty)) .nils, .slice (List.map aS ([] : List Tm)) .nils], .box [.i s3.2.1, .str s3.2.2.1, .i s3.2.2.2.1, .i s3.2.2.2.2.1, .str s3.2.2.2.2.2.1, aI s3.2.2.2.2.2.2.1, bn s3.2.2.2.2.2.2.2]]) ho1 (fun _ => rfl) (li (.u (.s (.s (.s (.s (.s (.u16 (.u16 (.u16 (.u16 (.u16 (.u16 (.u16 (.u8 (.u4 .n)))))))))))))))) ?_
   intro n1 s3 hs1 KL1 hKL1
   unfold yJ at hs1
   refine .q fun K27 k27 => .q fun K28 k28 => rg 0 ?_
   refine aW (l := p0.kids) (f := aS) ?_
   refine k28 _ _ ?_
   refine .aC rfl hs1 (fun hc9 hs1 => ?_) (fun hc9 hs1 => ?_)
   ·refine .skip ?_
    refine k27 _ _ ?_
    refine .q fun K29 k29 => ?_
    refine .block ?_
    refine rg 0 ?_
    obtain ⟨x33, hx33, hs1⟩ := ob hs1
    refine aJ (l := p0.kids) (f := aS) (cs := [.i ((x33).op), .str ((x33).name), .i ((x33).n), .i (((x33).ty).kind), .str (((x33).ty).name), aI (((x33).ty).kids), bn ((x33).kids)]) hx33 (aX x33) rfl ?_
    obtain ⟨x34, hx34, hs1⟩ := ob hs1
    refine cp (hrec_R2_defined _ _ hx34) FJ (.cons (.same _) .nil) ?_
    obtain ⟨x35, hx35, hs1⟩ := ob hs1
    refine cp (sJ _ _ _ _ hx35) Ah (.cons (.same _) (.cons (.same _) .nil)) ?_
    refine ⟨rfl, ?_⟩
    refine k29 _ _ ?_
    refine .know 5 0 fun hv1 => ?_
    refine .know 3 0 fun hv2 => ?_
    refine rg 0 ?_
    refine ⟨(s3.1 + 1), by have := dn hv1; have := eP hv2; have h8 := of_decide_eq_true hc9; exact bG (by omega) (by omega), ?_⟩
    exact hKL1 _ _ _ hs1 (li (.u (.s (.s (.s (.s (.s (.u16 (.u16 (.u16 (.u16 (.u16 (.u16 (.u16 (.u8 (.u4 .n))))))))))))))))
   refine .exit ?_
   exact hR3 _ (sj hs1).symm _ _ (li (.u (.s (.s (.s (.s (.u16 (.u16 (.u16 (.u16 (.u16 (.u16 (.u16 (.u8 (.u4 (.u .n))))))))))))))))
  refine .q fun K30 k30 => rg 0 ?_
  refine k30 _ _ ?_
  refine .aC rfl hj2 (fun hc10 hj2 => ?_) (fun hc10 hj2 => ?_)
  ·refine .skip ?_
   cases hj2
   exact u4x0 (hR2 _ _)
  refine .q fun K31 k31 => rg 0 ?_
  refine k31 _ _ ?_
  refine .aC rfl hj2 (fun hc11 hj2 => ?_) (fun hc11 hj2 => ?_)
  ·refine .skip ?_
   cases hj2
   exact u4x0 (hR2 _ _)
  refine .q fun K32 k32 => rg 0 ?_
  refine k32 _ _ ?_
  refine .aC rfl hj2 (fun hc12 hj2 => ?_) (fun hc12 hj2 => ?_)
  ·refine .skip ?_
   cases hj2
   exact u4x0 (hR2 _ _)
  refine rg 0 ?_
  cases hj2
  exact u4x0 (hR2 _ _)
 refine .q fun K33 k33 => rg 0 ?_
 refine k33 _ _ ?_
 refine .aC rfl hj1 (fun hc13 hj1 => ?_) (fun hc13 hj1 => ?_)
 ·refine .skip ?_
  cases hj1
  exact hR1 _ _ (li (.u (.s (.s (.s (.u4 (.u2 (.s (.s (.u16 (.u16 (.u16 (.u16 (.u16 (.u16 (.u16 (.u4 (.u2 .n))))))))))))))))))
 refine rg 0 ?_
 cases hj1
 exact hR1 _ _ (li (.u (.s (.s (.s (.u4 (.u2 (.s (.s (.u16 (.u16 (.u16 (.u16 (.u16 (.u16 (.u16 (.u4 (.u2 .n))))))))))))))))))
theorem abP (n : Nat) : R2_defined_S (oz n) := by
 induction n with
 | zero => exact (fun p0 r h => by unfold oz at h; cases h)
 | succ n ih =>
  exact (fun p0 r h => QU n _ ih p0 r (by unfold oz at h; exact h))
theorem adA (n : Nat) : R2_defined_S (oz n) := (abP n)
end Abs
end Go.Proofs.YtiiaccpcoclklaaGreat
