/-
  Contracts of Go functions (printed). Conditions: none.
-/
import Derived.KernelRfl
import Derived.Test.YtiiaccpcoclklaaGreatCAbs38x04b7ad
import Derived.Test.YtiiaccpcoclklaaGreatCDix50535f
import Derived.Test.YtiiaccpcoclklaaGreatCWDxaae3e4
import Derived.Test.YtiiaccpcoclklaaGreatCAwx7be38a
import Derived.Test.YtiiaccpcoclklaaGreatCT1xaae324
import Derived.Test.YtiiaccpcoclklaaGreatCT16xc0b479
import Derived.Test.YtiiaccpcoclklaaGreatCT19x57a74c
import Derived.Test.YtiiaccpcoclklaaGreatCT20x057806
import Derived.Test.YtiiaccpcoclklaaGreatCU1x3b79a6
import Derived.Test.YtiiaccpcoclklaaGreatCW1x981b0b
import Derived.Test.YtiiaccpcoclklaaGreatCW3x022977
set_option linter.unusedSimpArgs false
set_option linter.unusedVariables false
namespace Go.Proofs.YtiiaccpcoclklaaGreat
namespace Abs
open Go Go.Proofs
set_option maxRecDepth 100000
set_option maxHeartbeats 40000000
theorem w4x0 {p q : Prop} (f : p → q) (h : p := by exact wk [some 0, some 1, some 2, some 3, some 4] (.u2 (.u (.c rfl (.c rfl (.c rfl (.u (.c rfl (.u2 (.c rfl (.u (.c rfl (.u64 (.u8 (.u (.c rfl (.u .nil)))))))))))))))) (.b rfl (.e aK (.e aN .nil)) (.b rfl (.c rfl (.c rfl (.c rfl (.c rfl (.c rfl (.e aD (.e aM .nil))))))) (.b rfl (.c rfl (.c rfl (.c rfl (.c rfl (.c rfl (.e aD (.e aM .nil))))))) (.b rfl (.c rfl (.c rfl (.e aD .nil))) (.b rfl (.c rfl (.c rfl (.e aD .nil))) .nil))))) rfl) : q := f h
theorem acQ (n : Nat) (p0 : Tm) (p1 : List S_api_Binding) (r : Tm × Int) (h : zG n p0 p1 = some r) : aA Tryz.prog 32 [bC p0, .slice (List.map aP p1) .shared] [] (.aZ [bC r.1, .i r.2]) [] := by
 unfold zG at h
 refine ah true Tryz.func32 rfl (nt Tryz.ntmps32 rfl) fun Q hQ t ht => ?_
 conv at ht => whnf
 subst ht
 refine .q fun K1 k1 => rg 2 ?_
 refine k1 _ _ ?_
 refine .q fun K2 k2 => .q fun K3 k3 => rg 0 ?_
 obtain ⟨x1, hx1, h⟩ := ob h
 refine ak (mR _ _ _ hx1) y5 (.cons (.same _) .nil) (fun g => by simp) (fun g => rfl) ?_
 refine k3 _ _ ?_
 refine .aB rfl h (fun hc1 h => ?_) (fun hc1 h => ?_)
 ·refine .q fun K4 k4 => rg 0 ?_
  refine k4 _ _ ?_
  refine .ret ?_
  have e9 := sj h
  subst e9
  refine hQ _ _ _ (aj aC (fun g => by simp) ?_)
  conv => whnf
  try rfl
 refine .skip ?_
 refine k2 _ _ ?_
 refine .q fun K5 k5 => .q fun K6 k6 => rg 0 ?_
 refine k6 _ _ ?_
 refine .block ?_
 obtain ⟨o1, ho1, h⟩ := ob h
 have hR1 : ∀ s2 : Unit, o1 = .nx s2 → ∀ t9 h9, Le 0 t9 h9 (.unk :: (.slice (List.map aP p1) .shared :: (.ptr 0 0 :: (.unk :: (.ptr 1 0 :: (u16 (u8 (u4 [])))))))) [.box [.i p0.op, .str p0.name, .i p0.n, .i p0.ty.kind, .str p0.ty.name, aH p0.ty.kids, bn p0.kids], .box [.i 0, .str ([] : Str), .i 0, .i 0, .str ([] : Str), .slice (List.map aF ([] : List Ty)) .nils, .slice (List.map aO ([] : List Tm)) .nils]] → K5 t9 h9 := by
  intro s2 ho
  subst ho
  dsimp only [LR.el] at h
  intro t9 h9 hw
  refine k5 _ _ (AW.le hw ?_)
  refine .q fun K7 k7 => .q fun K8 k8 => rg 0 ?_
  obtain ⟨x2, hx2, h⟩ := ob h
  refine ak (acY _ _ _ _ _ _ _ hx2) ahk (.cons (.same _) (.cons (.same _) (.cons (.share _ _) (.cons (.same _) (.cons (.same _) .nil))))) (fun g => by simp) (fun g => rfl) ?_
  refine k8 _ _ ?_
  refine .aB rfl h (fun hc2 h => ?_) (fun hc2 h => ?_)
  ·refine .q fun K9 k9 => rg 0 ?_
   refine k9 _ _ ?_
   refine .ret ?_
   have e9 := sj h
   subst e9
   refine hQ _ _ _ (aj aC (fun g => by simp) ?_)
   conv => whnf
   try rfl
  refine .skip ?_
  refine k7 _ _ ?_
  refine .q fun K10 k10 => rg 0 ?_
  obtain ⟨x3, hx3, h⟩ := ob h
  refine cp (ac1 _ _ _ _ hx3) TH (.cons (.same _) (.cons (.same _) .nil)) ?_
  refine k10 _ _ ?_
  refine .ret ?_
  have e9 := sj h
  subst e9
  refine hQ _ _ _ (aj aC (fun g => by simp) ?_)
  conv => whnf
  try rfl
 refine .loopS (wM n p1) (fun (s1 : Int) => (.unk :: (.slice (List.map aP p1) .shared :: (.ptr 0 0 :: (.unk :: (.ptr 1 0 :: (.unk :: (.i s1 :: (u16 (u8 (u2 []))))))))))) (fun (s1 : Int) => [.box [.i p0.op, .str p0.name, .i p0.n, .i p0.ty.kind, .str p0.ty.name, aH p0.ty.kids, bn p0.kids], .box [.i 0, .str ([] : Str), .i 0, .i 0, .str ([] : Str), .slice (List.map aF ([] : List Ty)) .nils, .slice (List.map aO ([] : List Tm)) .nils]]) ho1 (fun _ => rfl) (li (.u (.s (.s (.u (.s (.u (.s (.u16 (.u8 (.u2 .n))))))))))) ?_
 intro n1 s1 hs1 KL1 hKL1
 unfold wM at hs1
 refine .q fun K11 k11 => .q fun K12 k12 => rg 0 ?_
 refine bB (l := p1) (f := aP) ?_
 refine k12 _ _ ?_
 refine .aB rfl hs1 (fun hc3 hs1 => ?_) (fun hc3 hs1 => ?_)
 ·refine .skip ?_
  refine k11 _ _ ?_
  refine .q fun K13 k13 => ?_
  refine .block ?_
  refine .q fun K14 k14 => rg 0 ?_
  obtain ⟨x4, hx4, hs1⟩ := ob hs1
  refine aI (l := p1) (f := aP) (cs := [.str ((x4).name), .i (((x4).term).op), .str (((x4).term).name), .i (((x4).term).n), .i ((((x4).term).ty).kind), .str ((((x4).term).ty).name), .slice (List.map aF ((((x4).term).ty).kids)) .shared, bn (((x4).term).kids)]) hx4 (rfl) rfl ?_
  obtain ⟨x5, hx5, hs1⟩ := ob hs1
  refine ak (mR _ _ _ hx5) y5 (.cons (.same _) .nil) (fun g => by simp) (fun g => rfl) ?_
  refine k14 _ _ ?_
  refine .aB rfl hs1 (fun hc4 hs1 => ?_) (fun hc4 hs1 => ?_)
  ·refine .q fun K15 k15 => rg 0 ?_
   refine k15 _ _ ?_
   refine .ret ?_
   have e9 := sj hs1
   subst e9
   dsimp only [LR.el] at h
   have e9 := sj h
   subst e9
   refine hQ _ _ _ (aj aC (fun g => by simp) ?_)
   conv => whnf
   try rfl
  refine .skip ?_
  refine k13 _ _ ?_
  refine .know 6 0 fun hv1 => ?_
  refine .know 1 0 fun hv2 => ?_
  refine rg 0 ?_
  refine ⟨(s1 + 1), by have := dK hv1; have := fU hv2; have h8 := of_decide_eq_true hc3; exact bI (by omega) (by omega), ?_⟩
  exact hKL1 _ _ _ hs1 (li (.u (.s (.s (.u (.s (.u (.s (.u16 (.u8 (.u2 .n)))))))))))
 refine .exit ?_
 exact hR1 _ (sj hs1).symm _ _ (li (.u (.s (.s (.u (.s (.u16 (.u8 (.u4 .n)))))))))
theorem P9 (n : Nat) (p0 : Env) (p1 : Tm) (p2 : Tm) (r : Bool) (h : yC n p0 p1 p2 = some r) : aA Tryz.prog 7 [jX p0, bC p1, bC p2] [] (.bool r) [] := by
 unfold yC at h
 refine ah true Tryz.func7 rfl (nt Tryz.ntmps7 rfl) fun Q hQ t ht => ?_
 conv at ht => whnf
 subst ht
 refine .q fun K1 k1 => rg 3 ?_
 refine k1 _ _ ?_
 refine .q fun K2 k2 => .q fun K3 k3 => rg 0 ?_
 obtain ⟨x1, hx1, h⟩ := ob h
 refine ak (wP _ _ _ hx1) Ir (.cons (.same _) .nil) (fun g => by simp) (fun g => rfl) ?_
 refine k3 _ _ ?_
 refine .aB rfl h (fun hc1 h => ?_) (fun hc1 h => ?_)
 ·refine .q fun K4 k4 => rg 0 ?_
  obtain ⟨x2, hx2, h⟩ := ob h
  refine ak (gX _ _ hx2) qg .nil (fun g => rfl) (fun g => rfl) ?_
  refine k4 _ _ ?_
  refine .ret ?_
  have e9 := sj h
  subst e9
  refine hQ _ _ _ (aj aC (fun g => rfl) ?_)
  conv => whnf
 refine .skip ?_
 refine k2 _ _ ?_
 refine .q fun K5 k5 => rg 1 ?_
 obtain ⟨x3, hx3, h⟩ := ob h
 refine cp (kG _ _ _ _ hx3) Db (.cons (.same _) (.cons (.same _) .nil)) ?_
 refine k5 _ _ ?_
 refine .q fun K6 k6 => rg 1 ?_
 obtain ⟨x4, hx4, h⟩ := ob h
 refine cp (typing_Expression_ok _ _ _ _ hx4) okF_31 (.cons (.same _) (.cons (.same _) .nil)) ?_
 refine k6 _ _ ?_
 refine .q fun K7 k7 => .q fun K8 k8 => ?_
 obtain ⟨s1, hj1, h⟩ := ob h
 have hR1 : ∀ t9 h9, Le 0 t9 h9 (u2 (.unk :: (.ptr 0 0 :: (.ptr 1 0 :: (.ptr 2 0 :: (.unk :: (.ptr 3 0 :: (u2 (.ptr 4 0 :: (u16 (u8 (u4 (u2 (.bool s1 :: (u32 (u8 (u4 (u2 [])))))))))))))))))) [.box [dS p0.carriers, dV p0.names], .box [.i p1.op, .str p1.name, .i p1.n, .i p1.ty.kind, .str p1.ty.name, aH p1.ty.kids, bn p1.kids], .box [.i p2.op, .str p2.name, .i p2.n, .i p2.ty.kind, .str p2.ty.name, aH p2.ty.kids, bn p2.kids], .box [.i x3.1.kind, .str x3.1.name, aH x3.1.kids], .box [.i x4.1.kind, .str x4.1.name, aH x4.1.kids]] → K8 t9 h9 := by
  intro t9 h9 hw
  refine k8 _ _ (AW.le hw ?_)
  clear hw
  refine .aB rfl h (fun hc2 h => ?_) (fun hc2 h => ?_)
  ·refine .q fun K9 k9 => rg 0 ?_
   obtain ⟨x5, hx5, h⟩ := ob h
   refine ak (gX _ _ hx5) qg .nil (fun g => rfl) (fun g => rfl) ?_
   refine k9 _ _ ?_
   refine .ret ?_
   have e9 := sj h
   subst e9
   refine hQ _ _ _ (aj aC (fun g => rfl) ?_)
   conv => whnf
  refine .skip ?_
  refine k7 _ _ ?_
  refine .q fun K10 k10 => .q fun K11 k11 => rg 0 ?_
  refine k11 _ _ ?_
  refine .block ?_
  obtain ⟨o1, ho1, h⟩ := ob h
  have hR2 : ∀ s3 : Unit, o1 = .nx s3 → ∀ t9 h9, Le 0 t9 h9 (u64 (u16 (u8 []))) [] → K10 t9 h9 := by
   intro s3 ho
   subst ho
   dsimp only [LR.el] at h
   intro t9 h9 hw
   refine k10 _ _ (AW.le hw ?_)
   refine .q fun K12 k12 => rg 0 ?_
   obtain ⟨x6, hx6, h⟩ := ob h
   refine ak (gX _ _ hx6) qg .nil (fun g => rfl) (fun g => rfl) ?_
   refine k12 _ _ ?_
   refine .ret ?_
   have e9 := sj h
   subst e9
   refine hQ _ _ _ (aj aC (fun g => rfl) ?_)
   conv => whnf
  refine .loopS (qj n p0 p1 p2 x3 x4) (fun (s2 : Int) => (u2 (.unk :: (.ptr 0 0 :: (.ptr 1 0 :: (.ptr 2 0 :: (.unk :: (.ptr 3 0 :: (u2 (.ptr 4 0 :: (.unk :: (.i s2 :: (u64 (u8 (u2 (.unk :: [])))))))))))))))) (fun (s2 : Int) => [.box [dS p0.carriers, dV p0.names], .box [.i p1.op, .str p1.name, .i p1.n, .i p1.ty.kind, .str p1.ty.name, aH p1.ty.kids, bn p1.kids], .box [.i p2.op, .str p2.name, .i p2.n, .i p2.ty.kind, .str p2.ty.name, aH p2.ty.kids, bn p2.kids], .box [.i x3.1.kind, .str x3.1.name, aH x3.1.kids], .box [.i x4.1.kind, .str x4.1.name, aH x4.1.kids]]) ho1 (fun _ => rfl) (li (.u2 (.u (.s (.s (.s (.u (.s (.u2 (.s (.u (.s (.u16 (.u16 (.u16 (.u16 (.u8 (.u2 (.u .n))))))))))))))))))) ?_
  intro n1 s2 hs1 KL1 hKL1
  unfold qj at hs1
  refine .q fun K13 k13 => .q fun K14 k14 => rg 0 ?_
  refine bB (l := p0.names) (f := bD) ?_
  refine k14 _ _ ?_
  refine .aB rfl hs1 (fun hc3 hs1 => ?_) (fun hc3 hs1 => ?_)
  ·refine .skip ?_
   refine k13 _ _ ?_
   refine .q fun K15 k15 => ?_
   obtain ⟨o2, hj2, hs1⟩ := ob hs1
   have hR3 : ∀ s4 : Unit, o2 = .nx s4 → ∀ t9 h9, Le 0 t9 h9 (u2 (.unk :: (.ptr 0 0 :: (.ptr 1 0 :: (.ptr 2 0 :: (.unk :: (.ptr 3 0 :: (u2 (.ptr 4 0 :: (.unk :: (.i s2 :: (u64 (u8 (u2 (.unk :: []))))))))))))))) [.box [dS p0.carriers, dV p0.names], .box [.i p1.op, .str p1.name, .i p1.n, .i p1.ty.kind, .str p1.ty.name, aH p1.ty.kids, bn p1.kids], .box [.i p2.op, .str p2.name, .i p2.n, .i p2.ty.kind, .str p2.ty.name, aH p2.ty.kids, bn p2.kids], .box [.i x3.1.kind, .str x3.1.name, aH x3.1.kids], .box [.i x4.1.kind, .str x4.1.name, aH x4.1.kids]] → K15 t9 h9 := by
    intro s4 ho
    subst ho
    dsimp only [LR.el] at hs1
    intro t9 h9 hw
    refine k15 _ _ (AW.le hw ?_)
    clear hw
    refine .know 12 0 fun hv1 => ?_
    refine .UN 0 1 (fun hv2 => ?_) ⟨3, 0, rfl⟩
    refine rg 0 ?_
    refine ⟨(s2 + 1), by have := dK hv1; have := fU hv2; have h8 := of_decide_eq_true hc3; exact bI (by omega) (by omega), ?_⟩
    exact hKL1 _ _ _ hs1 (li (.u2 (.u (.s (.s (.s (.u (.s (.u2 (.s (.u (.s (.u16 (.u16 (.u16 (.u16 (.u8 (.u2 (.u .n)))))))))))))))))))
   refine .block ?_
   refine .q fun K16 k16 => rg 1 ?_
   obtain ⟨x7, hx7, hj2⟩ := ob hj2
   refine aI (l := p0.names) (f := bD) (cs := [.str ((x7).name), .i (((x7).ty).kind), .str (((x7).ty).name), aH (((x7).ty).kids)]) hx7 (rfl) rfl ?_
   refine k16 _ _ ?_
   refine .q fun K17 k17 => .q fun K18 k18 => rg 0 ?_
   obtain ⟨x8, hx8, hj2⟩ := ob hj2
   refine ak (dN _ _ _ _ hx8) mH (.cons (.same _) (.cons (.same _) .nil)) (fun g => by simp) (fun g => rfl) ?_
   refine k18 _ _ ?_
   refine .aB rfl hj2 (fun hc4 hj2 => ?_) (fun hc4 hj2 => ?_)
   ·refine .exit ?_
    exact hR3 _ (sj hj2).symm _ _ (wk [some 0, some 1, some 2, some 3, some 4] (.u2 (.u (.c rfl (.c rfl (.c rfl (.u (.c rfl (.u2 (.c rfl (.u (.c rfl (.u64 (.u8 (.u2 (.u .nil))))))))))))))) (.b rfl (.e aK (.e aN .nil)) (.b rfl (.c rfl (.c rfl (.c rfl (.c rfl (.c rfl (.e aD (.e aM .nil))))))) (.b rfl (.c rfl (.c rfl (.c rfl (.c rfl (.c rfl (.e aD (.e aM .nil))))))) (.b rfl (.c rfl (.c rfl (.e aD .nil))) (.b rfl (.c rfl (.c rfl (.e aD .nil))) .nil))))) rfl)
   refine .skip ?_
   refine k17 _ _ ?_
   refine .q fun K19 k19 => rg 2 ?_
   refine ⟨List.map aP ([(S_api_Binding.mk x7.name p2)]), rfl, ?_⟩
   obtain ⟨x9, hx9, hj2⟩ := ob hj2
   refine cp (acQ _ _ _ _ hx9) alS (.cons (.same _) (.cons (.share _ _) .nil)) ?_
   refine k19 _ _ ?_
   refine .q fun K20 k20 => .q fun K21 k21 => rg 0 ?_
   refine k21 _ _ ?_
   refine .aB rfl hj2 (fun hc5 hj2 => ?_) (fun hc5 hj2 => ?_)
   ·refine .exit ?_
    exact hR3 _ (sj hj2).symm _ _ (wk [some 0, some 1, some 2, some 3, some 4] (.u2 (.u (.c rfl (.c rfl (.c rfl (.u (.c rfl (.u2 (.c rfl (.u (.c rfl (.u64 (.u8 (.u2 (.u .nil))))))))))))))) (.b rfl (.e aK (.e aN .nil)) (.b rfl (.c rfl (.c rfl (.c rfl (.c rfl (.c rfl (.e aD (.e aM .nil))))))) (.b rfl (.c rfl (.c rfl (.c rfl (.c rfl (.c rfl (.e aD (.e aM .nil))))))) (.b rfl (.c rfl (.c rfl (.e aD .nil))) (.b rfl (.c rfl (.c rfl (.e aD .nil))) .nil))))) rfl)
   refine .skip ?_
   refine k20 _ _ ?_
   refine .q fun K22 k22 => rg 1 ?_
   obtain ⟨x10, hx10, hj2⟩ := ob hj2
   refine cp (kG _ _ _ _ hx10) Db (.cons (.same _) (.cons (.same _) .nil)) ?_
   refine k22 _ _ ?_
   refine .q fun K23 k23 => ?_
   obtain ⟨s5, hj3, hj2⟩ := ob hj2
   have hR4 : ∀ t9 h9, Le 0 t9 h9 (u2 (.unk :: (.ptr 0 0 :: (.ptr 1 0 :: (.ptr 2 0 :: (.unk :: (.ptr 3 0 :: (u2 (.ptr 4 0 :: (.unk :: (.i s2 :: (u64 (u8 (.unk :: (.bool s5 :: (.unk :: [])))))))))))))))) [.box [dS p0.carriers, dV p0.names], .box [.i p1.op, .str p1.name, .i p1.n, .i p1.ty.kind, .str p1.ty.name, aH p1.ty.kids, bn p1.kids], .box [.i p2.op, .str p2.name, .i p2.n, .i p2.ty.kind, .str p2.ty.name, aH p2.ty.kids, bn p2.kids], .box [.i x3.1.kind, .str x3.1.name, aH x3.1.kids], .box [.i x4.1.kind, .str x4.1.name, aH x4.1.kids]] → K23 t9 h9 := by
    intro t9 h9 hw
    refine k23 _ _ (AW.le hw ?_)
    clear hw
    refine .aB rfl hj2 (fun hc6 hj2 => ?_) (fun hc6 hj2 => ?_)
    ·refine .q fun K24 k24 => rg 0 ?_
     refine k24 _ _ ?_
     refine .ret ?_
     have e9 := sj hj2
     subst e9
     dsimp only [LR.el] at hs1
     have e9 := sj hs1
     subst e9
     dsimp only [LR.el] at h
     have e9 := sj h
     subst e9
     refine hQ _ _ _ (aj aC (fun g => rfl) ?_)
     conv => whnf
    refine .skip ?_
    exact hR3 _ (sj hj2).symm _ _ (li (.u2 (.u (.s (.s (.s (.u (.s (.u2 (.s (.u (.s (.u16 (.u16 (.u16 (.u16 (.u8 (.u2 (.u .n)))))))))))))))))))
   refine rg 0 ?_
   refine aG hj3 (fun hc7 hj3 => ?_) (fun hc7 hj3 => ?_)
   ·cases hj3
    exact w4x0 (hR4 _ _)
   obtain ⟨x11, hx11, hj3⟩ := ob hj3
   refine ak (dN _ _ _ _ hx11) mH (.cons (.same _) (.cons (.same _) .nil)) (fun g => by simp) (fun g => rfl) ?_
   cases hj3
   exact w4x0 (hR4 _ _)
  refine .exit ?_
  exact hR2 _ (sj hs1).symm _ _ (wk [] (.u64 (.u16 (.u8 .nil))) .nil rfl)
 refine rg 0 ?_
 refine aG hj1 (fun hc8 hj1 => ?_) (fun hc8 hj1 => ?_)
 ·cases hj1
  exact hR1 _ _ (li (.u2 (.u (.s (.s (.s (.u (.s (.u2 (.s (.u16 (.u8 (.u4 (.u2 (.s (.u16 (.u16 (.u8 (.u4 (.u2 .n))))))))))))))))))))
 cases hj1
 exact hR1 _ _ (li (.u2 (.u (.s (.s (.s (.u (.s (.u2 (.s (.u16 (.u8 (.u4 (.u2 (.s (.u16 (.u16 (.u8 (.u4 (.u2 .n))))))))))))))))))))
end Abs
end Go.Proofs.YtiiaccpcoclklaaGreat
