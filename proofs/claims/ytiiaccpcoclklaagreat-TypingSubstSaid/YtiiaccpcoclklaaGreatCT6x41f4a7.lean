/-
  Contracts of Go functions (printed). Conditions: none.
-/
import Derived.KernelRfl
import Derived.Test.YtiiaccpcoclklaaGreatCAbs38x04b7ad
import Derived.Test.YtiiaccpcoclklaaGreatCDfxa6bced
import Derived.Test.YtiiaccpcoclklaaGreatCTDx83fdfc
import Derived.Test.YtiiaccpcoclklaaGreatCT1xaae324
import Derived.Test.YtiiaccpcoclklaaGreatCT3x204825
import Derived.Test.YtiiaccpcoclklaaGreatCT5x40dca3
set_option linter.unusedSimpArgs false
set_option linter.unusedVariables false
namespace Go.Proofs.YtiiaccpcoclklaaGreat
namespace Abs
open Go Go.Proofs
set_option maxRecDepth 100000
set_option maxHeartbeats 40000000
theorem Xg (n : Nat) (p0 : Tm) (r : Bool) (h : y8 n p0 = some r) : aA Tryz.prog 195 [bC p0] [] (.bool r) [] := by
 unfold y8 at h
 refine ah true Tryz.func195 rfl (nt Tryz.ntmps195 rfl) fun Q hQ t ht => ?_
 conv at ht => whnf
 subst ht
 refine .q fun K1 k1 => rg 1 ?_
 refine k1 _ _ ?_
 refine .q fun K2 k2 => rg 0 ?_
 obtain ⟨x1, hx1, h⟩ := ob h
 refine ak (acp _ _ _ hx1) ajS (.cons (.same _) .nil) (fun g => rfl) (fun g => by simp) ?_
 refine k2 _ _ ?_
 refine .q fun K3 k3 => ?_
 obtain ⟨o1, hj1, h⟩ := ob h
 have hR1 : ∀ s1 : Bool, o1 = .nx s1 → ∀ t9 h9, Le 0 t9 h9 (.unk :: (.ptr 0 0 :: (u2 (.bool s1 :: (u64 (u16 (u4 []))))))) [.box [.i p0.op, .str p0.name, .i p0.n, .i p0.ty.kind, .str p0.ty.name, aH p0.ty.kids, bn p0.kids]] → K3 t9 h9 := by
  intro s1 ho
  subst ho
  dsimp only [LR.el] at h
  intro t9 h9 hw
  refine k3 _ _ (AW.le hw ?_)
  clear hw
  refine .q fun K4 k4 => ?_
  obtain ⟨s2, hj2, h⟩ := ob h
  have hR2 : ∀ t9 h9, Le 0 t9 h9 (.unk :: (.ptr 0 0 :: (u2 (.bool s2 :: (u64 (u16 (u4 []))))))) [.box [.i p0.op, .str p0.name, .i p0.n, .i p0.ty.kind, .str p0.ty.name, aH p0.ty.kids, bn p0.kids]] → K4 t9 h9 := by
   intro t9 h9 hw
   refine k4 _ _ (AW.le hw ?_)
   clear hw
   refine .q fun K5 k5 => .q fun K6 k6 => rg 0 ?_
   refine k6 _ _ ?_
   refine .aB rfl h (fun hc1 h => ?_) (fun hc1 h => ?_)
   ·refine .q fun K7 k7 => ?_
    obtain ⟨s3, hj3, h⟩ := ob h
    have hR3 : ∀ t9 h9, Le 0 t9 h9 (u2 (.bool s3 :: (u64 (u16 (u4 (u2 [])))))) [] → K7 t9 h9 := by
     intro t9 h9 hw
     refine k7 _ _ (AW.le hw ?_)
     clear hw
     refine .ret ?_
     have e9 := sj h
     subst e9
     refine hQ _ _ _ (aj aC (fun g => rfl) ?_)
     conv => whnf
    refine rg 0 ?_
    refine aG hj3 (fun hc2 hj3 => ?_) (fun hc2 hj3 => ?_)
    ·refine aG hj3 (fun hc3 hj3 => ?_) (fun hc3 hj3 => ?_)
     ·obtain ⟨x2, hx2, hj3⟩ := ob hj3
      refine ak (nO _ _ _ hx2) Jz (.cons (.same _) .nil) (fun g => by simp) (fun g => rfl) ?_
      cases hj3
      exact hR3 _ _ (wk [] (.u2 (.c rfl (.u64 (.u16 (.u4 (.u2 .nil)))))) .nil rfl)
     cases hj3
     exact hR3 _ _ (wk [] (.u2 (.c rfl (.u64 (.u16 (.u4 (.u2 .nil)))))) .nil rfl)
    cases hj3
    exact hR3 _ _ (wk [] (.u2 (.c rfl (.u64 (.u16 (.u4 (.u2 .nil)))))) .nil rfl)
   refine .skip ?_
   refine k5 _ _ ?_
   refine .q fun K8 k8 => ?_
   obtain ⟨s4, hj4, h⟩ := ob h
   have hR4 : ∀ t9 h9, Le 0 t9 h9 (u2 (.bool s4 :: (u64 (u16 (u4 (u2 [])))))) [] → K8 t9 h9 := by
    intro t9 h9 hw
    refine k8 _ _ (AW.le hw ?_)
    clear hw
    refine .ret ?_
    have e9 := sj h
    subst e9
    refine hQ _ _ _ (aj aC (fun g => rfl) ?_)
    conv => whnf
   refine rg 0 ?_
   refine aG hj4 (fun hc4 hj4 => ?_) (fun hc4 hj4 => ?_)
   ·obtain ⟨x3, hx3, hj4⟩ := ob hj4
    refine ak (Sy _ _ _ hx3) ak6 (.cons (.same _) .nil) (fun g => by simp) (fun g => rfl) ?_
    cases hj4
    exact hR4 _ _ (wk [] (.u2 (.c rfl (.u64 (.u16 (.u4 (.u2 .nil)))))) .nil rfl)
   cases hj4
   exact hR4 _ _ (wk [] (.u2 (.c rfl (.u64 (.u16 (.u4 (.u2 .nil)))))) .nil rfl)
  refine .q fun K9 k9 => rg 0 ?_
  refine k9 _ _ ?_
  refine .aB rfl hj2 (fun hc5 hj2 => ?_) (fun hc5 hj2 => ?_)
  ·refine rg 0 ?_
   refine aG hj2 (fun hc6 hj2 => ?_) (fun hc6 hj2 => ?_)
   ·refine aG hj2 (fun hc7 hj2 => ?_) (fun hc7 hj2 => ?_)
    ·cases hj2
     exact hR2 _ _ (li (.u (.s (.u2 (.s (.u16 (.u16 (.u16 (.u16 (.u16 (.u4 .n)))))))))))
    cases hj2
    exact hR2 _ _ (li (.u (.s (.u2 (.s (.u16 (.u16 (.u16 (.u16 (.u16 (.u4 .n)))))))))))
   cases hj2
   exact hR2 _ _ (li (.u (.s (.u2 (.s (.u16 (.u16 (.u16 (.u16 (.u16 (.u4 .n)))))))))))
  refine rg 0 ?_
  refine aG hj2 (fun hc8 hj2 => ?_) (fun hc8 hj2 => ?_)
  ·cases hj2
   exact hR2 _ _ (li (.u (.s (.u2 (.s (.u16 (.u16 (.u16 (.u16 (.u16 (.u4 .n)))))))))))
  cases hj2
  exact hR2 _ _ (li (.u (.s (.u2 (.s (.u16 (.u16 (.u16 (.u16 (.u16 (.u4 .n)))))))))))
 refine .block ?_
 refine .q fun K10 k10 => ?_
 obtain ⟨s5, hj5, hj1⟩ := ob hj1
 have hR5 : ∀ t9 h9, Le 0 t9 h9 (.unk :: (.ptr 0 0 :: (u8 (u4 (.bool s5 :: (u64 (u8 (u2 [])))))))) [.box [.i p0.op, .str p0.name, .i p0.n, .i p0.ty.kind, .str p0.ty.name, aH p0.ty.kids, bn p0.kids]] → K10 t9 h9 := by
  intro t9 h9 hw
  refine k10 _ _ (AW.le hw ?_)
  clear hw
  refine .aB rfl hj1 (fun hc9 hj1 => ?_) (fun hc9 hj1 => ?_)
  ·refine .q fun K11 k11 => rg 0 ?_
   refine k11 _ _ ?_
   refine .ret ?_
   have e9 := sj hj1
   subst e9
   dsimp only [LR.el] at h
   have e9 := sj h
   subst e9
   refine hQ _ _ _ (aj aC (fun g => rfl) ?_)
   conv => whnf
  refine .q fun K12 k12 => rg 0 ?_
  refine k12 _ _ ?_
  refine .aB rfl hj1 (fun hc10 hj1 => ?_) (fun hc10 hj1 => ?_)
  ·refine rg 0 ?_
   obtain ⟨x4, hx4, hj1⟩ := ob hj1
   refine ak (aar _ _ _ hx4) akM (.cons (.same _) .nil) (fun g => rfl) (fun g => rfl) ?_
   exact hR1 _ (sj hj1).symm _ _ (li (.u (.s (.u2 (.s (.u16 (.u16 (.u16 (.u16 (.u16 (.u4 .n)))))))))))
  refine .q fun K13 k13 => rg 0 ?_
  obtain ⟨x5, hx5, hj1⟩ := ob hj1
  refine ak (YC _ _ _ hx5) ajX (.cons (.same _) .nil) (fun g => rfl) (fun g => rfl) ?_
  refine k13 _ _ ?_
  refine .aB rfl hj1 (fun hc11 hj1 => ?_) (fun hc11 hj1 => ?_)
  ·refine rg 0 ?_
   obtain ⟨x6, hx6, hj1⟩ := ob hj1
   refine ak (mq _ _ _ hx6) Ez (.cons (.same _) .nil) (fun g => rfl) (fun g => rfl) ?_
   exact hR1 _ (sj hj1).symm _ _ (li (.u (.s (.u2 (.s (.u16 (.u16 (.u16 (.u16 (.u16 (.u4 .n)))))))))))
  refine rg 0 ?_
  exact hR1 _ (sj hj1).symm _ _ (li (.u (.s (.u2 (.s (.u16 (.u16 (.u16 (.u16 (.u16 (.u4 .n)))))))))))
 refine .q fun K14 k14 => rg 0 ?_
 refine k14 _ _ ?_
 refine .aB rfl hj5 (fun hc12 hj5 => ?_) (fun hc12 hj5 => ?_)
 ·refine .skip ?_
  cases hj5
  exact hR5 _ _ (li (.u (.s (.u8 (.u4 (.s (.u16 (.u16 (.u16 (.u16 (.u8 (.u2 .n))))))))))))
 refine .q fun K15 k15 => ?_
 obtain ⟨s6, hj6, hj5⟩ := ob hj5
 have hR6 : ∀ t9 h9, Le 0 t9 h9 (.unk :: (.ptr 0 0 :: (.unk :: (.i x1.1 :: (u8 (u2 (.bool s6 :: (u64 (u8 (u2 [])))))))))) [.box [.i p0.op, .str p0.name, .i p0.n, .i p0.ty.kind, .str p0.ty.name, aH p0.ty.kids, bn p0.kids]] → K15 t9 h9 := by
  intro t9 h9 hw
  refine k15 _ _ (AW.le hw ?_)
  clear hw
  refine .aB rfl hj5 (fun hc13 hj5 => ?_) (fun hc13 hj5 => ?_)
  ·refine .skip ?_
   cases hj5
   exact hR5 _ _ (li (.u (.s (.u8 (.u4 (.s (.u16 (.u16 (.u16 (.u16 (.u8 (.u2 .n))))))))))))
  refine rg 0 ?_
  refine aG hj5 (fun hc14 hj5 => ?_) (fun hc14 hj5 => ?_)
  ·refine bB (l := p0.kids) (f := aO) ?_
   cases hj5
   exact hR5 _ _ (li (.u (.s (.u8 (.u4 (.s (.u16 (.u16 (.u16 (.u16 (.u8 (.u2 .n))))))))))))
  cases hj5
  exact hR5 _ _ (li (.u (.s (.u8 (.u4 (.s (.u16 (.u16 (.u16 (.u16 (.u8 (.u2 .n))))))))))))
 refine rg 0 ?_
 refine aG hj6 (fun hc15 hj6 => ?_) (fun hc15 hj6 => ?_)
 ·refine bB (l := p0.kids) (f := aO) ?_
  cases hj6
  exact hR6 _ _ (li (.u (.s (.u (.s (.u8 (.u2 (.s (.u16 (.u16 (.u16 (.u16 (.u8 (.u2 .n))))))))))))))
 cases hj6
 exact hR6 _ _ (li (.u (.s (.u (.s (.u8 (.u2 (.s (.u16 (.u16 (.u16 (.u16 (.u8 (.u2 .n))))))))))))))
abbrev kX (rec_slices_IndexFunc_Term : (List Tm) → Int → Int → Int → Int → Option (Int × Int)) : Prop := ∀ (p0 : List Tm) (p1 : Int) (p2 : Int) (p3 : Int) (p4 : Int) (r : Int × Int), rec_slices_IndexFunc_Term p0 p1 p2 p3 p4 = some r → aA Tryz.prog 258 [bn p0, .func 197 [.ptr 0 0, .ptr 2 0]] [.box [.ptr 1 0], .box [.i p1, .i p2, .i p3], .box [.i p4]] (.i r.1) [.box [.ptr 1 0], .box [.i r.2, .i p2, .i p3], .box [.i p4]]
abbrev jq (rec_slices_ContainsFunc_Term : (List Tm) → Int → Int → Int → Int → Option (Bool × Int)) : Prop := ∀ (p0 : List Tm) (p1 : Int) (p2 : Int) (p3 : Int) (p4 : Int) (r : Bool × Int), rec_slices_ContainsFunc_Term p0 p1 p2 p3 p4 = some r → aA Tryz.prog 196 [bn p0, .func 197 [.ptr 0 0, .ptr 2 0]] [.box [.ptr 1 0], .box [.i p1, .i p2, .i p3], .box [.i p4]] (.bool r.1) [.box [.ptr 1 0], .box [.i r.2, .i p2, .i p3], .box [.i p4]]
abbrev lH (rec_term_measure_fits : Int → Int → Int → Tm → Int → Option (Bool × Int)) : Prop := ∀ (p0 : Int) (p1 : Int) (p2 : Int) (p3 : Tm) (p4 : Int) (r : Bool × Int), rec_term_measure_fits p0 p1 p2 p3 p4 = some r → aA Tryz.prog 130 [.ptr 0 0, bC p3, .i p4] [.box [.i p0, .i p1, .i p2]] (.bool r.1) [.box [.i r.2, .i p1, .i p2]]
abbrev mJ (rec_term_measure_fits_1 : Tm → Int → Int → Int → Int → Option (Bool × Int)) : Prop := ∀ (p0 : Tm) (p1 : Int) (p2 : Int) (p3 : Int) (p4 : Int) (r : Bool × Int), rec_term_measure_fits_1 p0 p1 p2 p3 p4 = some r → aA Tryz.prog 197 [bC p0, .ptr 0 0, .ptr 2 0] [.box [.ptr 1 0], .box [.i p1, .i p2, .i p3], .box [.i p4]] (.bool r.1) [.box [.ptr 1 0], .box [.i r.2, .i p2, .i p3], .box [.i p4]]
theorem BA (n : Nat) (rec_slices_IndexFunc_Term : (List Tm) → Int → Int → Int → Int → Option (Int × Int)) (rec_slices_ContainsFunc_Term : (List Tm) → Int → Int → Int → Int → Option (Bool × Int)) (rec_term_measure_fits : Int → Int → Int → Tm → Int → Option (Bool × Int)) (rec_term_measure_fits_1 : Tm → Int → Int → Int → Int → Option (Bool × Int)) (hrec_slices_IndexFunc_Term : kX rec_slices_IndexFunc_Term) (hrec_slices_ContainsFunc_Term : jq rec_slices_ContainsFunc_Term) (hrec_term_measure_fits : lH rec_term_measure_fits) (hrec_term_measure_fits_1 : mJ rec_term_measure_fits_1) (p0 : List Tm) (p1 : Int) (p2 : Int) (p3 : Int) (p4 : Int) (r : Int × Int) (h : fQ n rec_slices_IndexFunc_Term rec_slices_ContainsFunc_Term rec_term_measure_fits rec_term_measure_fits_1 p0 p1 p2 p3 p4 = some r) : aA Tryz.prog 258 [bn p0, .func 197 [.ptr 0 0, .ptr 2 0]] [.box [.ptr 1 0], .box [.i p1, .i p2, .i p3], .box [.i p4]] (.i r.1) [.box [.ptr 1 0], .box [.i r.2, .i p2, .i p3], .box [.i p4]] := by
 unfold fQ at h
 refine ah true Tryz.func258 rfl (nt Tryz.ntmps258 rfl) fun Q hQ t ht => ?_
 conv at ht => whnf
 subst ht
 refine .q fun K1 k1 => rg 0 ?_
 refine k1 _ _ ?_
 refine .q fun K2 k2 => .q fun K3 k3 => rg 0 ?_
 refine bB (l := p0) (f := aO) ?_
 refine k3 _ _ ?_
 refine .block ?_
 obtain ⟨o1, ho1, h⟩ := ob h
 have hR1 : ∀ s2 : Int, o1 = .nx s2 → ∀ t9 h9, Le 3 t9 h9 (u16 (u2 (.unk :: []))) [.box [.ptr 1 0], .box [.i s2, .i p2, .i p3], .box [.i p4]] → K2 t9 h9 := by
  intro s2 ho
  subst ho
  dsimp only [LR.el] at h
  intro t9 h9 hw
  refine k2 _ _ (AW.le hw ?_)
  refine .q fun K4 k4 => rg 0 ?_
  refine k4 _ _ ?_
  refine .ret ?_
  have e9 := sj h
  subst e9
  refine hQ _ _ _ (dz (u4 (.i (-1) :: (u8 (u4 (u2 []))))) [.box [.ptr 1 0], .box [.i s2, .i p2, .i p3], .box [.i p4]] (wk [some 0, some 1, some 2] (.u4 (.c rfl (.u8 (.u4 (.u2 .nil))))) (.b rfl (.c rfl .nil) (.b rfl (.c rfl (.c rfl (.c rfl .nil))) (.b rfl (.c rfl .nil) .nil))) rfl) (bG aC [0, 1, 2] rfl (.cons (rfl) (.cons (rfl) (.cons (rfl) .nil))) ?_))
  conv => whnf
  first | rfl | (simp; done) | (simp; rfl) | (simp; constructor <;> rfl)
 refine .loopS (kF n rec_slices_IndexFunc_Term rec_slices_ContainsFunc_Term rec_term_measure_fits rec_term_measure_fits_1 p0 p2 p3 p4) (fun (s1 : Int × Int) => (bn p0 :: (.func 197 [.ptr 0 0, .ptr 2 0] :: (u4 (.unk :: (.i (p0.length : Int) :: (.i s1.1 :: (u8 (u2 []))))))))) (fun (s1 : Int × Int) => [.box [.ptr 1 0], .box [.i s1.2, .i p2, .i p3], .box [.i p4]]) ho1 (fun _ => rfl) (li (.s (.s (.u4 (.u (.s (.s (.u8 (.u2 .n))))))))) ?_
 intro n1 s1 hs1 KL1 hKL1
 unfold kF at hs1
 refine .q fun K5 k5 => rg 0 ?_
 refine k5 _ _ ?_
 refine .q fun K6 k6 => ?_
 refine .aB rfl hs1 (fun hc1 hs1 => ?_) (fun hc1 hs1 => ?_)
 ·refine .skip ?_
  refine k6 _ _ ?_
  refine .q fun K7 k7 => ?_
  refine .block ?_
  refine .q fun K8 k8 => rg 0 ?_
  refine k8 _ _ ?_
  refine .q fun K9 k9 => rg 0 ?_
  obtain ⟨x1, hx1, hs1⟩ := ob hs1
  refine aI (l := p0) (f := aO) (cs := [.i ((x1).op), .str ((x1).name), .i ((x1).n), .i (((x1).ty).kind), .str (((x1).ty).name), aH (((x1).ty).kids), bn ((x1).kids)]) hx1 (aR x1) rfl ?_
  obtain ⟨x2, hx2, hs1⟩ := ob hs1
  refine bU [0, 1, 2] [] [bC x1, .ptr 0 0, .ptr 2 0] [bC x1, .ptr 0 0, .ptr 2 0] (hrec_term_measure_fits_1 _ _ _ _ _ _ hx2) akV rfl (.cons (rfl) (.cons (rfl) (.cons (rfl) .nil))) (by simp; try decide) (.cons (.same _) (.cons (.same _) (.cons (.same _) .nil))) (rn := .bool x2.1) (rfl) (Hn := [.box [.ptr 1 0], .box [.i x2.2, .i p2, .i p3], .box [.i p4]]) ((bK (rfl) (bK (rfl) (bK (rfl) rfl)))) ?_
  refine k9 _ _ ?_
  refine .aB rfl hs1 (fun hc2 hs1 => ?_) (fun hc2 hs1 => ?_)
  ·refine .q fun K10 k10 => rg 0 ?_
   refine k10 _ _ ?_
   refine .ret ?_
   have e9 := sj hs1
   subst e9
   dsimp only [LR.el] at h
   have e9 := sj h
   subst e9
   refine hQ _ _ _ (dz (u4 (.i s1.1 :: (u8 (u4 (u2 []))))) [.box [.ptr 1 0], .box [.i x2.2, .i p2, .i p3], .box [.i p4]] (wk [some 0, some 1, some 2] (.u4 (.c rfl (.u8 (.u4 (.u2 .nil))))) (.b rfl (.c rfl .nil) (.b rfl (.c rfl (.c rfl (.c rfl .nil))) (.b rfl (.c rfl .nil) .nil))) rfl) (bG aC [0, 1, 2] rfl (.cons (rfl) (.cons (rfl) (.cons (rfl) .nil))) ?_))
   conv => whnf
   first | rfl | (simp; done) | (simp; rfl) | (simp; constructor <;> rfl)
  refine .skip ?_
  refine k7 _ _ ?_
  refine .know 5 0 fun hv1 => ?_
  refine .know 0 0 fun hv2 => ?_
  refine rg 0 ?_
  refine ⟨(s1.1 + 1), by have := dK hv1; have := fU hv2; have h8 := of_decide_eq_true hc1; exact bI (by omega) (by omega), ?_⟩
  exact hKL1 _ _ _ hs1 (li (.s (.s (.u4 (.u (.s (.s (.u8 (.u2 .n)))))))))
 refine .exit ?_
 exact hR1 _ (sj hs1).symm _ _ (li (.u16 (.u2 (.u .n))))
theorem zC (n : Nat) (rec_slices_IndexFunc_Term : (List Tm) → Int → Int → Int → Int → Option (Int × Int)) (rec_slices_ContainsFunc_Term : (List Tm) → Int → Int → Int → Int → Option (Bool × Int)) (rec_term_measure_fits : Int → Int → Int → Tm → Int → Option (Bool × Int)) (rec_term_measure_fits_1 : Tm → Int → Int → Int → Int → Option (Bool × Int)) (hrec_slices_IndexFunc_Term : kX rec_slices_IndexFunc_Term) (hrec_slices_ContainsFunc_Term : jq rec_slices_ContainsFunc_Term) (hrec_term_measure_fits : lH rec_term_measure_fits) (hrec_term_measure_fits_1 : mJ rec_term_measure_fits_1) (p0 : List Tm) (p1 : Int) (p2 : Int) (p3 : Int) (p4 : Int) (r : Bool × Int) (h : iL n rec_slices_IndexFunc_Term rec_slices_ContainsFunc_Term rec_term_measure_fits rec_term_measure_fits_1 p0 p1 p2 p3 p4 = some r) : aA Tryz.prog 196 [bn p0, .func 197 [.ptr 0 0, .ptr 2 0]] [.box [.ptr 1 0], .box [.i p1, .i p2, .i p3], .box [.i p4]] (.bool r.1) [.box [.ptr 1 0], .box [.i r.2, .i p2, .i p3], .box [.i p4]] := by
 unfold iL at h
 refine ah true Tryz.func196 rfl (nt Tryz.ntmps196 rfl) fun Q hQ t ht => ?_
 conv at ht => whnf
 subst ht
 refine .q fun K1 k1 => rg 0 ?_
 refine k1 _ _ ?_
 refine .q fun K2 k2 => rg 0 ?_
 obtain ⟨x1, hx1, h⟩ := ob h
 refine bU [0, 1, 2] [] [bn p0, .func 197 [.ptr 0 0, .ptr 2 0]] [bn p0, .func 197 [.ptr 0 0, .ptr 2 0]] (hrec_slices_IndexFunc_Term _ _ _ _ _ _ hx1) aj0 rfl (.cons (rfl) (.cons (rfl) (.cons (rfl) .nil))) (by simp; try decide) (.cons (.same _) (.cons (.same _) .nil)) (rn := .i x1.1) (rfl) (Hn := [.box [.ptr 1 0], .box [.i x1.2, .i p2, .i p3], .box [.i p4]]) ((bK (rfl) (bK (rfl) (bK (rfl) rfl)))) ?_
 refine k2 _ _ ?_
 refine .ret ?_
 have e9 := sj h
 subst e9
 refine hQ _ _ _ (dz (u4 (.bool (decide (0 ≤ x1.1)) :: (u4 []))) [.box [.ptr 1 0], .box [.i x1.2, .i p2, .i p3], .box [.i p4]] (wk [some 0, some 1, some 2] (.u4 (.c rfl (.u4 .nil))) (.b rfl (.c rfl .nil) (.b rfl (.c rfl (.c rfl (.c rfl .nil))) (.b rfl (.c rfl .nil) .nil))) rfl) (bG aC [0, 1, 2] rfl (.cons (rfl) (.cons (rfl) (.cons (rfl) .nil))) ?_))
 conv => whnf
 first | rfl | (simp; done) | (simp; rfl) | (simp; constructor <;> rfl)
theorem Ed (n : Nat) (rec_slices_IndexFunc_Term : (List Tm) → Int → Int → Int → Int → Option (Int × Int)) (rec_slices_ContainsFunc_Term : (List Tm) → Int → Int → Int → Int → Option (Bool × Int)) (rec_term_measure_fits : Int → Int → Int → Tm → Int → Option (Bool × Int)) (rec_term_measure_fits_1 : Tm → Int → Int → Int → Int → Option (Bool × Int)) (hrec_slices_IndexFunc_Term : kX rec_slices_IndexFunc_Term) (hrec_slices_ContainsFunc_Term : jq rec_slices_ContainsFunc_Term) (hrec_term_measure_fits : lH rec_term_measure_fits) (hrec_term_measure_fits_1 : mJ rec_term_measure_fits_1) (p0 : Int) (p1 : Int) (p2 : Int) (p3 : Tm) (p4 : Int) (r : Bool × Int) (h : lM n rec_slices_IndexFunc_Term rec_slices_ContainsFunc_Term rec_term_measure_fits rec_term_measure_fits_1 p0 p1 p2 p3 p4 = some r) : aA Tryz.prog 130 [.ptr 0 0, bC p3, .i p4] [.box [.i p0, .i p1, .i p2]] (.bool r.1) [.box [.i r.2, .i p1, .i p2]] := by
 unfold lM at h
 refine ah true Tryz.func130 rfl (nt Tryz.ntmps130 rfl) fun Q hQ t ht => ?_
 conv at ht => whnf
 subst ht
 refine .q fun K1 k1 => rg 3 ?_
 refine k1 _ _ ?_
 refine .q fun K2 k2 => .q fun K3 k3 => ?_
 obtain ⟨s1, hj1, h⟩ := ob h
 have hR1 : ∀ t9 h9, Le 1 t9 h9 (u2 (.unk :: (.ptr 1 0 :: (.ptr 2 0 :: (.ptr 3 0 :: (u8 (.unk :: (.bool s1.1 :: (u4 (.unk :: [])))))))))) [.box [.i s1.2, .i p1, .i p2], .box [.ptr 0 0], .box [.i p3.op, .str p3.name, .i p3.n, .i p3.ty.kind, .str p3.ty.name, aH p3.ty.kids, bn p3.kids], .box [.i p4]] → K3 t9 h9 := by
  intro t9 h9 hw
  refine k3 _ _ (AW.le hw ?_)
  clear hw
  refine .aB rfl h (fun hc1 h => ?_) (fun hc1 h => ?_)
  ·refine .q fun K4 k4 => rg 0 ?_
   refine k4 _ _ ?_
   refine .ret ?_
   have e9 := sj h
   subst e9
   refine hQ _ _ _ (dz (u4 (u2 (.bool false :: (u8 (u4 (u2 [])))))) [.box [.i s1.2, .i p1, .i p2]] (wk [some 0] (.u4 (.u2 (.c rfl (.u8 (.u4 (.u2 .nil)))))) (.b rfl (.c rfl (.c rfl (.c rfl .nil))) .nil) rfl) (bG aC [0] rfl (.cons (rfl) .nil) ?_))
   conv => whnf
   first | rfl | (simp; done) | (simp; rfl) | (simp; constructor <;> rfl)
  refine .skip ?_
  refine k2 _ _ ?_
  refine .q fun K5 k5 => rg 0 ?_
  obtain ⟨x1, hx1, h⟩ := ob h
  refine bU [1, 0, 3] [] [bn p3.kids, .func 197 [.ptr 0 0, .ptr 2 0]] [bn p3.kids, .func 197 [.ptr 1 0, .ptr 3 0]] (hrec_slices_ContainsFunc_Term _ _ _ _ _ _ hx1) akT rfl (.cons (rfl) (.cons (rfl) (.cons (rfl) .nil))) (by simp; try decide) (.cons (.same _) (.cons (.same _) .nil)) (rn := .bool x1.1) (rfl) (Hn := [.box [.ptr 0 0], .box [.i x1.2, .i p1, .i p2], .box [.i p4]]) ((bK (rfl) (bK (rfl) (bK (rfl) rfl)))) ?_
  refine k5 _ _ ?_
  refine .ret ?_
  have e9 := sj h
  subst e9
  refine hQ _ _ _ (dz (u4 (u2 (.bool (!x1.1) :: (u8 (u4 (u2 [])))))) [.box [.i x1.2, .i p1, .i p2]] (wk [some 0] (.u4 (.u2 (.c rfl (.u8 (.u4 (.u2 .nil)))))) (.b rfl (.c rfl (.c rfl (.c rfl .nil))) .nil) rfl) (bG aC [0] rfl (.cons (rfl) .nil) ?_))
  conv => whnf
  first | rfl | (simp; done) | (simp; rfl) | (simp; constructor <;> rfl)
 refine rg 0 ?_
 obtain ⟨x2, hx2, hj1⟩ := ob hj1
 refine bU [0] [] [.ptr 0 0, .i p4] [.ptr 0 0, .i p4] (Ae _ _ _ _ _ _ hx2) adx rfl (.cons (rfl) .nil) (rfl) (.cons (.same _) (.cons (.same _) .nil)) (rn := .bool x2.1) (rfl) (Hn := [.box [.i x2.2, .i p1, .i p2]]) ((bK (rfl) rfl)) ?_
 refine aG hj1 (fun hc2 hj1 => ?_) (fun hc2 hj1 => ?_)
 ·cases hj1
  exact hR1 _ _ (li (.u2 (.u (.s (.s (.s (.u8 (.u (.s (.u4 (.u .n)))))))))))
 obtain ⟨x3, hx3, hj1⟩ := ob hj1
 refine ak (Xg _ _ _ hx3) ak8 (.cons (.same _) .nil) (fun g => by simp) (fun g => rfl) ?_
 cases hj1
 exact hR1 _ _ (li (.u2 (.u (.s (.s (.s (.u8 (.u (.s (.u4 (.u .n)))))))))))
theorem C8 (n : Nat) (rec_slices_IndexFunc_Term : (List Tm) → Int → Int → Int → Int → Option (Int × Int)) (rec_slices_ContainsFunc_Term : (List Tm) → Int → Int → Int → Int → Option (Bool × Int)) (rec_term_measure_fits : Int → Int → Int → Tm → Int → Option (Bool × Int)) (rec_term_measure_fits_1 : Tm → Int → Int → Int → Int → Option (Bool × Int)) (hrec_slices_IndexFunc_Term : kX rec_slices_IndexFunc_Term) (hrec_slices_ContainsFunc_Term : jq rec_slices_ContainsFunc_Term) (hrec_term_measure_fits : lH rec_term_measure_fits) (hrec_term_measure_fits_1 : mJ rec_term_measure_fits_1) (p0 : Tm) (p1 : Int) (p2 : Int) (p3 : Int) (p4 : Int) (r : Bool × Int) (h : kM n rec_slices_IndexFunc_Term rec_slices_ContainsFunc_Term rec_term_measure_fits rec_term_measure_fits_1 p0 p1 p2 p3 p4 = some r) : aA Tryz.prog 197 [bC p0, .ptr 0 0, .ptr 2 0] [.box [.ptr 1 0], .box [.i p1, .i p2, .i p3], .box [.i p4]] (.bool r.1) [.box [.ptr 1 0], .box [.i r.2, .i p2, .i p3], .box [.i p4]] := by
 unfold kM at h
 refine ah true Tryz.func197 rfl (nt Tryz.ntmps197 rfl) fun Q hQ t ht => ?_
 conv at ht => whnf
 subst ht
 refine .q fun K1 k1 => rg 1 ?_
 refine k1 _ _ ?_
 refine .q fun K2 k2 => rg 0 ?_
 refine ⟨(IntKind.wrap .i64 (p4 + 1)), rfl, ?_⟩
 obtain ⟨x1, hx1, h⟩ := ob h
 refine bU [1] [] [.ptr 0 0, bC p0, .i (IntKind.wrap .i64 (p4 + 1))] [.ptr 1 0, bC p0, .i (IntKind.wrap .i64 (p4 + 1))] (hrec_term_measure_fits _ _ _ _ _ _ hx1) adn rfl (.cons (rfl) .nil) (by simp; try decide) (.cons (.same _) (.cons (.same _) (.cons (.same _) .nil))) (rn := .bool x1.1) (rfl) (Hn := [.box [.i x1.2, .i p2, .i p3]]) ((bK (rfl) rfl)) ?_
 refine k2 _ _ ?_
 refine .ret ?_
 have e9 := sj h
 subst e9
 refine hQ _ _ _ (dz (u4 (.bool (!x1.1) :: (u4 (u2 [])))) [.box [.ptr 1 0], .box [.i x1.2, .i p2, .i p3], .box [.i p4]] (wk [some 0, some 1, some 2] (.u4 (.c rfl (.u4 (.u2 .nil)))) (.b rfl (.c rfl .nil) (.b rfl (.c rfl (.c rfl (.c rfl .nil))) (.b rfl (.c rfl .nil) .nil))) rfl) (bG aC [0, 1, 2] rfl (.cons (rfl) (.cons (rfl) (.cons (rfl) .nil))) ?_))
 conv => whnf
 first | rfl | (simp; done) | (simp; rfl) | (simp; constructor <;> rfl)
theorem Ee (n : Nat) : kX (gV n) ∧ jq (eO n) ∧ lH (fT n) ∧ mJ (fq n) := by
 induction n with
 | zero => exact ⟨(fun p0 p1 p2 p3 p4 r h => by unfold gV at h; cases h), (fun p0 p1 p2 p3 p4 r h => by unfold eO at h; cases h), (fun p0 p1 p2 p3 p4 r h => by unfold fT at h; cases h), (fun p0 p1 p2 p3 p4 r h => by unfold fq at h; cases h)⟩
 | succ n ih =>
  exact ⟨(fun p0 p1 p2 p3 p4 r h => BA n _ _ _ _ ih.1 ih.2.1 ih.2.2.1 ih.2.2.2 p0 p1 p2 p3 p4 r (by unfold gV at h; exact h)), (fun p0 p1 p2 p3 p4 r h => zC n _ _ _ _ ih.1 ih.2.1 ih.2.2.1 ih.2.2.2 p0 p1 p2 p3 p4 r (by unfold eO at h; exact h)), (fun p0 p1 p2 p3 p4 r h => Ed n _ _ _ _ ih.1 ih.2.1 ih.2.2.1 ih.2.2.2 p0 p1 p2 p3 p4 r (by unfold fT at h; exact h)), (fun p0 p1 p2 p3 p4 r h => C8 n _ _ _ _ ih.1 ih.2.1 ih.2.2.1 ih.2.2.2 p0 p1 p2 p3 p4 r (by unfold fq at h; exact h))⟩
theorem KM (n : Nat) : lH (fT n) := (Ee n).2.2.1
theorem Dx (n : Nat) (p0 : Tm) (r : Bool) (h : vM n p0 = some r) : aA Tryz.prog 66 [bC p0] [] (.bool r) [] := by
 unfold vM at h
 refine ah true Tryz.func66 rfl (nt Tryz.ntmps66 rfl) fun Q hQ t ht => ?_
 conv at ht => whnf
 subst ht
 refine .q fun K1 k1 => rg 1 ?_
 refine k1 _ _ ?_
 refine .q fun K2 k2 => rg 1 ?_
 refine k2 _ _ ?_
 refine .q fun K3 k3 => rg 0 ?_
 obtain ⟨x1, hx1, h⟩ := ob h
 refine bU [1] [] [.ptr 0 0, bC p0, .i 1] [.ptr 1 0, bC p0, .i 1] (KM _ _ _ _ _ _ _ hx1) adn rfl (.cons (rfl) .nil) (by simp; try decide) (.cons (.same _) (.cons (.same _) (.cons (.same _) .nil))) (rn := .bool x1.1) (rfl) (Hn := [.box [.i x1.2, .i 2000, .i 64]]) ((bK (rfl) rfl)) ?_
 refine k3 _ _ ?_
 refine .ret ?_
 have e9 := sj h
 subst e9
 refine hQ _ _ _ (aj aC (fun g => rfl) ?_)
 conv => whnf
theorem iD (n : Nat) (p0 : Ty) (r : Ty) (h : MF n p0 = some r) : aA Tryz.prog 138 [aU p0] [] (aU r) [] := by
 unfold MF at h
 refine ah true Tryz.func138 rfl (nt Tryz.ntmps138 rfl) fun Q hQ t ht => ?_
 conv at ht => whnf
 subst ht
 refine .q fun K1 k1 => rg 2 ?_
 refine k1 _ _ ?_
 refine .q fun K2 k2 => rg 1 ?_
 refine ⟨List.map aF ([p0]), by simp only [List.map_cons, List.map_nil, aL]; rfl, ?_⟩
 refine k2 _ _ ?_
 refine .ret ?_
 have e9 := sj h
 subst e9
 refine hQ _ _ _ (aj aC (fun g => by simp) ?_)
 conv => whnf
 try rfl
end Abs
end Go.Proofs.YtiiaccpcoclklaaGreat
