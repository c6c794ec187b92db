/-
  Contracts of Go functions (printed). Conditions: none.
-/
import Derived.KernelRfl
import Derived.Test.YtiiaccpcoclklaaGreatCAbs38x04b7ad
import Derived.Test.YtiiaccpcoclklaaGreatCDgx5c904c
import Derived.Test.YtiiaccpcoclklaaGreatCDjx51e169
import Derived.Test.YtiiaccpcoclklaaGreatCYDx81c04b
import Derived.Test.YtiiaccpcoclklaaGreatCT19x1d9f53
import Derived.Test.YtiiaccpcoclklaaGreatCUDxad63aa
import Derived.Test.YtiiaccpcoclklaaGreatCU4x9c7168
set_option linter.unusedSimpArgs false
set_option linter.unusedVariables false
namespace Go.Proofs.YtiiaccpcoclklaaGreat
namespace Abs
open Go Go.Proofs
set_option maxRecDepth 100000
set_option maxHeartbeats 40000000
abbrev Gt (rec_R1_Copy : Tm → Option Tm) : Prop := ∀ (p0 : Tm) (r : Tm), rec_R1_Copy p0 = some r → aA Tryz.prog 78 [bC p0] [] (bC r) []
abbrev G5 (rec_R1_Copies : (List Tm) → Option (List Tm)) : Prop := ∀ (p0 : List Tm) (r : List Tm), rec_R1_Copies p0 = some r → aA Tryz.prog 153 [bn p0] [] (bn r) []
theorem Uh (n : Nat) (rec_R1_Copy : Tm → Option Tm) (rec_R1_Copies : (List Tm) → Option (List Tm)) (hrec_R1_Copy : Gt rec_R1_Copy) (hrec_R1_Copies : G5 rec_R1_Copies) (p0 : Tm) (r : Tm) (h : xB n rec_R1_Copy rec_R1_Copies p0 = some r) : aA Tryz.prog 78 [bC p0] [] (bC r) [] := by
 unfold xB at h
 refine ah true Tryz.func78 rfl (nt Tryz.ntmps78 rfl) fun Q hQ t ht => ?_
 conv at ht => whnf
 subst ht
 refine .q fun K1 k1 => rg 2 ?_
 refine k1 _ _ ?_
 refine .q fun K2 k2 => rg 1 ?_
 obtain ⟨x1, hx1, h⟩ := ob h
 refine cp (yg _ _ _ hx1) Om (.cons (.same _) .nil) ?_
 refine ⟨rfl, ?_⟩
 refine k2 _ _ ?_
 refine .q fun K3 k3 => rg 0 ?_
 obtain ⟨x2, hx2, h⟩ := ob h
 refine cp (hrec_R1_Copies _ _ hx2) aep (.cons (.same _) .nil) ?_
 refine k3 _ _ ?_
 refine .q fun K4 k4 => rg 0 ?_
 refine k4 _ _ ?_
 refine .ret ?_
 have e9 := sj h
 subst e9
 refine hQ _ _ _ (aj aC (fun g => by simp) ?_)
 conv => whnf
 try rfl
theorem Qz (n : Nat) (rec_R1_Copy : Tm → Option Tm) (rec_R1_Copies : (List Tm) → Option (List Tm)) (hrec_R1_Copy : Gt rec_R1_Copy) (hrec_R1_Copies : G5 rec_R1_Copies) (p0 : List Tm) (r : List Tm) (h : uP n rec_R1_Copy rec_R1_Copies p0 = some r) : aA Tryz.prog 153 [bn p0] [] (bn r) [] := by
 unfold uP at h
 refine ah true Tryz.func153 rfl (nt Tryz.ntmps153 rfl) fun Q hQ t ht => ?_
 conv at ht => whnf
 subst ht
 refine .q fun K1 k1 => rg 0 ?_
 refine k1 _ _ ?_
 refine .q fun K2 k2 => rg 0 ?_
 refine k2 _ _ ?_
 refine .q fun K3 k3 => .q fun K4 k4 => rg 0 ?_
 refine k4 _ _ ?_
 refine .block ?_
 obtain ⟨o1, ho1, h⟩ := ob h
 have hR1 : ∀ s2 : List Tm, o1 = .nx s2 → ∀ t9 h9, Le 0 t9 h9 (u2 (.unk :: (.slice (List.map aO s2) (.tip 0 7) :: (u16 [])))) [.tip (List.length s2 * 7)] → K3 t9 h9 := by
  intro s2 ho
  subst ho
  dsimp only [LR.el] at h
  intro t9 h9 hw
  refine k3 _ _ (AW.le hw ?_)
  refine .q fun K5 k5 => rg 0 ?_
  refine k5 _ _ ?_
  refine .ret ?_
  have e9 := sj h
  subst e9
  refine hQ _ _ _ (aj aC (fun g => by simp) ?_)
  conv => whnf
  try rfl
 refine .loopS (xq n rec_R1_Copy rec_R1_Copies p0) (fun (s1 : (List Tm) × Int) => (bn p0 :: (u2 (.slice (List.map aO s1.1) (.tip 0 7) :: (.i s1.2 :: (u8 (u4 (u2 (.unk :: []))))))))) (fun (s1 : (List Tm) × Int) => [.tip (List.length s1.1 * 7)]) ho1 (fun _ => rfl) (wk [none] (.e aM (.u2 (.cons (.nils _ _) (.c rfl (.u8 (.u4 (.u2 (.u .nil)))))))) (.w rfl .nil) rfl) ?_
 intro n1 s1 hs1 KL1 hKL1
 unfold xq at hs1
 refine .q fun K6 k6 => .q fun K7 k7 => rg 0 ?_
 refine bB (l := p0) (f := aO) ?_
 refine k7 _ _ ?_
 refine .aB rfl hs1 (fun hc1 hs1 => ?_) (fun hc1 hs1 => ?_)
 ·refine .skip ?_
  refine k6 _ _ ?_
  refine .q fun K8 k8 => ?_
  refine .block ?_
  refine rg 2 ?_
  obtain ⟨x1, hx1, hs1⟩ := ob hs1
  refine aI (l := p0) (f := aO) (cs := [.i ((x1).op), .str ((x1).name), .i ((x1).n), .i (((x1).ty).kind), .str (((x1).ty).name), aH (((x1).ty).kids), bn ((x1).kids)]) hx1 (aR x1) rfl ?_
  obtain ⟨x2, hx2, hs1⟩ := ob hs1
  refine cp (hrec_R1_Copy _ _ hx2) Dm (.cons (.same _) .nil) ?_
  refine ⟨List.map aO ([x2]), by simp only [List.map_cons, List.map_nil, aR]; rfl, ?_⟩
  obtain ⟨x3, hx3, hs1⟩ := ob hs1
  refine gN (l := s1.1) (ys := [x2]) (f := aO) hx3 aaC rfl rfl rfl ?_
  refine k8 _ _ ?_
  refine .know 4 0 fun hv1 => ?_
  refine .know 0 0 fun hv2 => ?_
  refine rg 0 ?_
  refine ⟨(s1.2 + 1), by have := dK hv1; have := fU hv2; have h8 := of_decide_eq_true hc1; exact bI (by omega) (by omega), ?_⟩
  exact hKL1 _ _ _ hs1 (wk [some 2] (.e aM (.u2 (.cons (.gB (aM _ _) rfl) (.c rfl (.u8 (.u4 (.u2 (.u .nil)))))))) (.t rfl .nil) rfl)
 refine .exit ?_
 exact hR1 _ (sj hs1).symm _ _ (li (.u2 (.u (.s (.u16 .n)))))
theorem acO (n : Nat) : Gt (mh n) ∧ G5 (vC n) := by
 induction n with
 | zero => exact ⟨(fun p0 r h => by unfold mh at h; cases h), (fun p0 r h => by unfold vC at h; cases h)⟩
 | succ n ih =>
  exact ⟨(fun p0 r h => Uh n _ _ ih.1 ih.2 p0 r (by unfold mh at h; exact h)), (fun p0 r h => Qz n _ _ ih.1 ih.2 p0 r (by unfold vC at h; exact h))⟩
theorem Bz (n : Nat) : Gt (mh n) := (acO n).1
theorem RY (n : Nat) (p0 : Tm) (p1 : List Int) (r : Tm × Int) (h : JX n p0 p1 = some r) : aA Tryz.prog 25 [bC p0, uz p1] [] (.aZ [bC r.1, .i r.2]) [] := by
 unfold JX at h
 refine ah true Tryz.func25 rfl (nt Tryz.ntmps25 rfl) fun Q hQ t ht => ?_
 conv at ht => whnf
 subst ht
 refine .q fun K1 k1 => rg 2 ?_
 refine k1 _ _ ?_
 refine .q fun K2 k2 => .q fun K3 k3 => rg 0 ?_
 obtain ⟨x1, hx1, h⟩ := ob h
 refine ak (mR _ _ _ hx1) y5 (.cons (.same _) .nil) (fun g => by simp) (fun g => rfl) ?_
 refine k3 _ _ ?_
 refine .aB rfl h (fun hc1 h => ?_) (fun hc1 h => ?_)
 ·refine .q fun K4 k4 => rg 0 ?_
  refine k4 _ _ ?_
  refine .ret ?_
  have e9 := sj h
  subst e9
  refine hQ _ _ _ (aj aC (fun g => by simp) ?_)
  conv => whnf
  try rfl
 refine .skip ?_
 refine k2 _ _ ?_
 refine .q fun K5 k5 => .q fun K6 k6 => rg 0 ?_
 refine k6 _ _ ?_
 refine .block ?_
 obtain ⟨o1, ho1, h⟩ := ob h
 have hR1 : ∀ s2 : Int × Str × Int × Int × Str × (List Ty) × (List Tm), o1 = .nx s2 → ∀ t9 h9, Le 0 t9 h9 (u2 (.ptr 0 0 :: (.unk :: (.ptr 1 0 :: (u32 (u4 (u2 []))))))) [.box [.i s2.1, .str s2.2.1, .i s2.2.2.1, .i s2.2.2.2.1, .str s2.2.2.2.2.1, aH s2.2.2.2.2.2.1, bn s2.2.2.2.2.2.2], .box [.i 0, .str ([] : Str), .i 0, .i 0, .str ([] : Str), .slice (List.map aF ([] : List Ty)) .nils, .slice (List.map aO ([] : List Tm)) .nils]] → K5 t9 h9 := by
  intro s2 ho
  subst ho
  dsimp only [LR.el] at h
  intro t9 h9 hw
  refine k5 _ _ (AW.le hw ?_)
  refine .q fun K7 k7 => rg 1 ?_
  obtain ⟨x2, hx2, h⟩ := ob h
  refine cp (Bz _ _ _ hx2) Dm (.cons (.same _) .nil) ?_
  refine k7 _ _ ?_
  refine .ret ?_
  have e9 := sj h
  subst e9
  refine hQ _ _ _ (aj aC (fun g => by simp) ?_)
  conv => whnf
  try rfl
 refine .loopS (EF n p1) (fun (s1 : Int × Int × Str × Int × Int × Str × (List Ty) × (List Tm)) => (.unk :: (uz p1 :: (.ptr 0 0 :: (.unk :: (.ptr 1 0 :: (.unk :: (.i s1.1 :: (u32 (u4 [])))))))))) (fun (s1 : Int × Int × Str × Int × Int × Str × (List Ty) × (List Tm)) => [.box [.i s1.2.1, .str s1.2.2.1, .i s1.2.2.2.1, .i s1.2.2.2.2.1, .str s1.2.2.2.2.2.1, aH s1.2.2.2.2.2.2.1, bn s1.2.2.2.2.2.2.2], .box [.i 0, .str ([] : Str), .i 0, .i 0, .str ([] : Str), .slice (List.map aF ([] : List Ty)) .nils, .slice (List.map aO ([] : List Tm)) .nils]]) ho1 (fun _ => rfl) (li (.u (.s (.s (.u (.s (.u (.s (.u16 (.u16 (.u4 .n))))))))))) ?_
 intro n1 s1 hs1 KL1 hKL1
 unfold EF at hs1
 refine .q fun K8 k8 => .q fun K9 k9 => rg 0 ?_
 refine bB (l := p1) (f := encI) ?_
 refine k9 _ _ ?_
 refine .aB rfl hs1 (fun hc2 hs1 => ?_) (fun hc2 hs1 => ?_)
 ·refine .skip ?_
  refine k8 _ _ ?_
  refine .q fun K10 k10 => ?_
  refine .block ?_
  refine .q fun K11 k11 => .q fun K12 k12 => ?_
  obtain ⟨s3, hj1, hs1⟩ := ob hs1
  have hR2 : ∀ t9 h9, Le 0 t9 h9 (.unk :: (uz p1 :: (.ptr 0 0 :: (.unk :: (.ptr 1 0 :: (.unk :: (.i s1.1 :: (u16 (u8 (.bool s3 :: (u8 (u2 (.unk :: []))))))))))))) [.box [.i s1.2.1, .str s1.2.2.1, .i s1.2.2.2.1, .i s1.2.2.2.2.1, .str s1.2.2.2.2.2.1, aH s1.2.2.2.2.2.2.1, bn s1.2.2.2.2.2.2.2], .box [.i 0, .str ([] : Str), .i 0, .i 0, .str ([] : Str), .slice (List.map aF ([] : List Ty)) .nils, .slice (List.map aO ([] : List Tm)) .nils]] → K12 t9 h9 := by
   intro t9 h9 hw
   refine k12 _ _ (AW.le hw ?_)
   clear hw
   refine .aB rfl hs1 (fun hc3 hs1 => ?_) (fun hc3 hs1 => ?_)
   ·refine .q fun K13 k13 => rg 0 ?_
    refine k13 _ _ ?_
    refine .ret ?_
    have e9 := sj hs1
    subst e9
    dsimp only [LR.el] at h
    have e9 := sj h
    subst e9
    refine hQ _ _ _ (aj aC (fun g => by simp) ?_)
    conv => whnf
    try rfl
   refine .skip ?_
   refine k11 _ _ ?_
   refine rg 0 ?_
   obtain ⟨x3, hx3, hs1⟩ := ob hs1
   refine aI (l := p1) (f := encI) (cs := [.i (x3)]) hx3 (rfl) rfl ?_
   obtain ⟨x4, hx4, hs1⟩ := ob hs1
   refine aI (l := s1.2.2.2.2.2.2.2) (f := aO) (cs := [.i ((x4).op), .str ((x4).name), .i ((x4).n), .i (((x4).ty).kind), .str (((x4).ty).name), aH (((x4).ty).kids), bn ((x4).kids)]) hx4 (aR x4) rfl ?_
   refine ⟨rfl, ?_⟩
   refine k10 _ _ ?_
   refine .know 6 0 fun hv1 => ?_
   refine .know 1 0 fun hv2 => ?_
   refine rg 0 ?_
   refine ⟨(s1.1 + 1), by have := dK hv1; have := fU hv2; have h8 := of_decide_eq_true hc2; exact bI (by omega) (by omega), ?_⟩
   exact hKL1 _ _ _ hs1 (li (.u (.s (.s (.u (.s (.u (.s (.u16 (.u16 (.u4 .n)))))))))))
  refine rg 0 ?_
  obtain ⟨x5, hx5, hj1⟩ := ob hj1
  refine aI (l := p1) (f := encI) (cs := [.i (x5)]) hx5 (rfl) rfl ?_
  refine aG hj1 (fun hc4 hj1 => ?_) (fun hc4 hj1 => ?_)
  ·refine ⟨rfl, ?_⟩
   cases hj1
   exact hR2 _ _ (li (.u (.s (.s (.u (.s (.u (.s (.u16 (.u8 (.s (.u8 (.u2 (.u .n))))))))))))))
  obtain ⟨x6, hx6, hj1⟩ := ob hj1
  refine aI (l := p1) (f := encI) (cs := [.i (x6)]) hx6 (rfl) rfl ?_
  refine bB (l := s1.2.2.2.2.2.2.2) (f := aO) ?_
  refine ⟨rfl, ?_⟩
  cases hj1
  exact hR2 _ _ (li (.u (.s (.s (.u (.s (.u (.s (.u16 (.u8 (.s (.u8 (.u2 (.u .n))))))))))))))
 refine .exit ?_
 exact hR1 _ (sj hs1).symm _ _ (li (.u2 (.s (.u (.s (.u16 (.u16 (.u4 (.u2 .n)))))))))
theorem acC (n : Nat) (p0 : Tm) (p1 : List Int) (r : (List Str) × Int) (h : FB n p0 p1 = some r) : aA Tryz.prog 26 [bC p0, uz p1] [] (.aZ [dx r.1, .i r.2]) [] := by
 unfold FB at h
 refine ah true Tryz.func26 rfl (nt Tryz.ntmps26 rfl) fun Q hQ t ht => ?_
 conv at ht => whnf
 subst ht
 refine .q fun K1 k1 => rg 1 ?_
 refine k1 _ _ ?_
 refine .q fun K2 k2 => .q fun K3 k3 => rg 1 ?_
 obtain ⟨x1, hx1, h⟩ := ob h
 refine cp (RY _ _ _ _ hx1) aaO (.cons (.same _) (.cons (.same _) .nil)) ?_
 refine k3 _ _ ?_
 refine .q fun K4 k4 => rg 0 ?_
 refine k4 _ _ ?_
 refine .aB rfl h (fun hc1 h => ?_) (fun hc1 h => ?_)
 ·refine .q fun K5 k5 => rg 0 ?_
  refine k5 _ _ ?_
  refine .ret ?_
  have e9 := sj h
  subst e9
  refine hQ _ _ _ (aj aC (fun g => by simp) ?_)
  conv => whnf
  try rfl
 refine .skip ?_
 refine k2 _ _ ?_
 refine .q fun K6 k6 => rg 0 ?_
 refine k6 _ _ ?_
 refine .q fun K7 k7 => .q fun K8 k8 => rg 0 ?_
 refine k8 _ _ ?_
 refine .block ?_
 obtain ⟨o1, ho1, h⟩ := ob h
 have hR1 : ∀ s2 : List Str, o1 = .nx s2 → ∀ t9 h9, Le 0 t9 h9 (u8 (.slice (List.map encS s2) (.tip 0 1) :: (u32 (u8 [])))) [.tip (List.length s2 * 1)] → K7 t9 h9 := by
  intro s2 ho
  subst ho
  dsimp only [LR.el] at h
  intro t9 h9 hw
  refine k7 _ _ (AW.le hw ?_)
  refine .q fun K9 k9 => rg 0 ?_
  refine k9 _ _ ?_
  refine .ret ?_
  have e9 := sj h
  subst e9
  refine hQ _ _ _ (aj aC (fun g => by simp) ?_)
  conv => whnf
  try rfl
 refine .loopS (yO n p1) (fun (s1 : (List Str) × Int × Int × Str × Int × Int × Str × (List Ty) × (List Tm)) => (.unk :: (uz p1 :: (.ptr 0 0 :: (u4 (.unk :: (.slice (List.map encS s1.1) (.tip 1 1) :: (.i s1.2.1 :: (u32 (u4 (u2 (.unk :: [])))))))))))) (fun (s1 : (List Str) × Int × Int × Str × Int × Int × Str × (List Ty) × (List Tm)) => [.box [.i s1.2.2.1, .str s1.2.2.2.1, .i s1.2.2.2.2.1, .i s1.2.2.2.2.2.1, .str s1.2.2.2.2.2.2.1, aH s1.2.2.2.2.2.2.2.1, bn s1.2.2.2.2.2.2.2.2], .tip (List.length s1.1 * 1)]) ho1 (fun _ => rfl) (wk [some 0, none] (.u (.e aQ (.c rfl (.u4 (.u (.cons (.nils _ _) (.c rfl (.u32 (.u4 (.u2 (.u .nil))))))))))) (.b rfl (.c rfl (.c rfl (.c rfl (.c rfl (.c rfl (.e aD (.e aM .nil))))))) (.w rfl .nil)) rfl) ?_
 intro n1 s1 hs1 KL1 hKL1
 unfold yO at hs1
 refine .q fun K10 k10 => .q fun K11 k11 => rg 0 ?_
 refine bB (l := p1) (f := encI) ?_
 refine k11 _ _ ?_
 refine .aB rfl hs1 (fun hc2 hs1 => ?_) (fun hc2 hs1 => ?_)
 ·refine .skip ?_
  refine k10 _ _ ?_
  refine .q fun K12 k12 => ?_
  refine .block ?_
  refine .q fun K13 k13 => ?_
  obtain ⟨s3, hj1, hs1⟩ := ob hs1
  have hR2 : ∀ t9 h9, Le 0 t9 h9 (.unk :: (uz p1 :: (.ptr 0 0 :: (u4 (.unk :: (.slice (List.map encS s3) (.tip 1 1) :: (.i s1.2.1 :: (u32 (u4 (u2 (.unk :: []))))))))))) [.box [.i s1.2.2.1, .str s1.2.2.2.1, .i s1.2.2.2.2.1, .i s1.2.2.2.2.2.1, .str s1.2.2.2.2.2.2.1, aH s1.2.2.2.2.2.2.2.1, bn s1.2.2.2.2.2.2.2.2], .tip (List.length s3 * 1)] → K13 t9 h9 := by
   intro t9 h9 hw
   refine k13 _ _ (AW.le hw ?_)
   clear hw
   refine rg 0 ?_
   obtain ⟨x2, hx2, hs1⟩ := ob hs1
   refine aI (l := p1) (f := encI) (cs := [.i (x2)]) hx2 (rfl) rfl ?_
   obtain ⟨x3, hx3, hs1⟩ := ob hs1
   refine aI (l := s1.2.2.2.2.2.2.2.2) (f := aO) (cs := [.i ((x3).op), .str ((x3).name), .i ((x3).n), .i (((x3).ty).kind), .str (((x3).ty).name), aH (((x3).ty).kids), bn ((x3).kids)]) hx3 (aR x3) rfl ?_
   refine ⟨rfl, ?_⟩
   refine k12 _ _ ?_
   refine .know 9 0 fun hv1 => ?_
   refine .know 1 0 fun hv2 => ?_
   refine rg 0 ?_
   refine ⟨(s1.2.1 + 1), by have := dK hv1; have := fU hv2; have h8 := of_decide_eq_true hc2; exact bI (by omega) (by omega), ?_⟩
   exact hKL1 _ _ _ hs1 (li (.u (.s (.s (.u4 (.u (.s (.s (.u16 (.u16 (.u4 (.u2 (.u .n)))))))))))))
  refine .q fun K14 k14 => ?_
  obtain ⟨s4, hj2, hj1⟩ := ob hj1
  have hR3 : ∀ t9 h9, Le 0 t9 h9 (.unk :: (uz p1 :: (.ptr 0 0 :: (u4 (.unk :: (.slice (List.map encS s1.1) (.tip 1 1) :: (.i s1.2.1 :: (u16 (u8 (.bool s4 :: (u8 (u4 (u2 []))))))))))))) [.box [.i s1.2.2.1, .str s1.2.2.2.1, .i s1.2.2.2.2.1, .i s1.2.2.2.2.2.1, .str s1.2.2.2.2.2.2.1, aH s1.2.2.2.2.2.2.2.1, bn s1.2.2.2.2.2.2.2.2], .tip (List.length s1.1 * 1)] → K14 t9 h9 := by
   intro t9 h9 hw
   refine k14 _ _ (AW.le hw ?_)
   clear hw
   refine .aB rfl hj1 (fun hc3 hj1 => ?_) (fun hc3 hj1 => ?_)
   ·refine rg 2 ?_
    refine ⟨List.map encS ([s1.2.2.2.1]), rfl, ?_⟩
    obtain ⟨x4, hx4, hj1⟩ := ob hj1
    refine gN (l := s1.1) (ys := [s1.2.2.2.1]) (f := encS) hx4 zW rfl rfl rfl ?_
    cases hj1
    exact hR2 _ _ (wk [some 0, some 3] (.u (.e aQ (.c rfl (.u4 (.u (.cons (.gB (bf _ _) rfl) (.c rfl (.u32 (.u4 (.u2 (.u .nil))))))))))) (.b rfl (.c rfl (.c rfl (.c rfl (.c rfl (.c rfl (.e aD (.e aM .nil))))))) (.t rfl .nil)) rfl)
   refine .skip ?_
   cases hj1
   exact hR2 _ _ (li (.u (.s (.s (.u4 (.u (.s (.s (.u16 (.u16 (.u4 (.u2 (.u .n)))))))))))))
  refine rg 0 ?_
  obtain ⟨x5, hx5, hj2⟩ := ob hj2
  refine ak (uS _ _ _ hx5) Jq (.cons (.same _) .nil) (fun g => rfl) (fun g => rfl) ?_
  refine aG hj2 (fun hc4 hj2 => ?_) (fun hc4 hj2 => ?_)
  ·obtain ⟨x6, hx6, hj2⟩ := ob hj2
   refine aI (l := p1) (f := encI) (cs := [.i (x6)]) hx6 (rfl) rfl ?_
   cases hj2
   exact hR3 _ _ (li (.u (.s (.s (.u4 (.u (.s (.s (.u16 (.u8 (.s (.u8 (.u4 (.u2 .n))))))))))))))
  cases hj2
  exact hR3 _ _ (li (.u (.s (.s (.u4 (.u (.s (.s (.u16 (.u8 (.s (.u8 (.u4 (.u2 .n))))))))))))))
 refine .exit ?_
 exact hR1 _ (sj hs1).symm _ _ (wk [some 1] (.u8 (.cons (.gB (bf _ _) rfl) (.u32 (.u8 .nil)))) (.t rfl .nil) rfl)
theorem WM (n : Nat) (p0 : List Tm) (r : List Tm) (h : y7 n p0 = some r) : aA Tryz.prog 153 [bn p0] [] (.psl 0 7 (List.length r)) [.arr 7 (List.map aO r)] := by
 unfold y7 at h
 refine ah false Tryz.func153 rfl (nt Tryz.ntmps153 rfl) fun Q hQ t ht => ?_
 conv at ht => whnf
 subst ht
 refine .q fun K1 k1 => rg 0 ?_
 refine k1 _ _ ?_
 refine .q fun K2 k2 => rg 0 ?_
 refine k2 _ _ ?_
 refine .q fun K3 k3 => .q fun K4 k4 => rg 0 ?_
 refine k4 _ _ ?_
 refine .block ?_
 obtain ⟨o1, ho1, h⟩ := ob h
 have hR1 : ∀ s2 : List Tm, o1 = .nx s2 → ∀ t9 h9, Le 0 t9 h9 (u2 (.unk :: (.psl 0 7 (List.length s2) :: (u16 [])))) [.arr 7 (List.map aO s2)] → K3 t9 h9 := by
  intro s2 ho
  subst ho
  dsimp only [LR.el] at h
  intro t9 h9 hw
  refine k3 _ _ (AW.le hw ?_)
  refine .q fun K5 k5 => rg 0 ?_
  refine k5 _ _ ?_
  refine .ret ?_
  have e9 := sj h
  subst e9
  refine hQ _ _ _ (dz (u2 (.psl 0 7 (List.length s2) :: (u16 (.unk :: [])))) [.arr 7 (List.map aO s2)] (wk [some 0] (.u2 (.c rfl (.u16 (.u .nil)))) (.old (.arr' aM (bJ _)) .nil) rfl) (bG aC [0] rfl (.cons (congrArg (AObj.arr _) (aM _ _)) .nil) ?_))
  conv => whnf
  first | rfl | (simp; done) | (simp; rfl) | (simp; constructor <;> rfl)
 refine .loopS (uQ n p0) (fun (s1 : (List Tm) × Int) => (bn p0 :: (u2 (.psl 0 7 (List.length s1.1) :: (.i s1.2 :: (u8 (u4 (u2 (.unk :: []))))))))) (fun (s1 : (List Tm) × Int) => [.arr 7 (List.map aO s1.1)]) ho1 (fun _ => rfl) (wk [none] (.e aM (.u2 (.cons (.nilP _ _) (.c rfl (.u8 (.u4 (.u2 (.u .nil)))))))) (.w rfl .nil) rfl) ?_
 intro n1 s1 hs1 KL1 hKL1
 unfold uQ at hs1
 refine .q fun K6 k6 => .q fun K7 k7 => rg 0 ?_
 refine bB (l := p0) (f := aO) ?_
 refine k7 _ _ ?_
 refine .aB rfl hs1 (fun hc1 hs1 => ?_) (fun hc1 hs1 => ?_)
 ·refine .skip ?_
  refine k6 _ _ ?_
  refine .q fun K8 k8 => ?_
  refine .block ?_
  refine rg 3 ?_
  obtain ⟨x1, hx1, hs1⟩ := ob hs1
  refine aI (l := p0) (f := aO) (cs := [.i ((x1).op), .str ((x1).name), .i ((x1).n), .i (((x1).ty).kind), .str (((x1).ty).name), aH (((x1).ty).kids), bn ((x1).kids)]) hx1 (aR x1) rfl ?_
  obtain ⟨x2, hx2, hs1⟩ := ob hs1
  refine cp (Bz _ _ _ hx2) Dm (.cons (.same _) .nil) ?_
  refine ⟨List.map aO ([x2]), by simp only [List.map_cons, List.map_nil, aR]; rfl, ?_⟩
  obtain ⟨x3, hx3, hs1⟩ := ob hs1
  refine XF (l := s1.1) (l' := s1.1) (ys := ([x2])) (f := aO) hx3 (bJ _) aaC ?_
  refine k8 _ _ ?_
  refine .know 4 0 fun hv1 => ?_
  refine .know 0 0 fun hv2 => ?_
  refine rg 0 ?_
  refine ⟨(s1.2 + 1), by have := dK hv1; have := fU hv2; have h8 := of_decide_eq_true hc1; exact bI (by omega) (by omega), ?_⟩
  exact hKL1 _ _ _ hs1 (wk [some 2] (.e aM (.u2 (.c rfl (.c rfl (.u8 (.u4 (.u2 (.u .nil)))))))) (.old (.arr' aM (bJ _)) .nil) rfl)
 refine .exit ?_
 exact hR1 _ (sj hs1).symm _ _ (wk [some 0] (.u2 (.u (.c rfl (.u16 .nil)))) (.old (.arr' aM (bJ _)) .nil) rfl)
theorem N9 (n : Nat) (p0 : Tm) (r : Int × Str × (List Ty) × (List Tm)) (h : Af n p0 = some r) : aA Tryz.prog 78 [bC p0] [] (.agg [.i p0.op, .str p0.name, .i p0.n, .i r.1, .str r.2.1, aH r.2.2.1, .psl 0 7 (List.length r.2.2.2)]) [.arr 7 (List.map aO r.2.2.2)] := by
 unfold Af at h
 refine ah false Tryz.func78 rfl (nt Tryz.ntmps78 rfl) fun Q hQ t ht => ?_
 conv at ht => whnf
 subst ht
 refine .q fun K1 k1 => rg 2 ?_
 refine k1 _ _ ?_
 refine .q fun K2 k2 => rg 1 ?_
 obtain ⟨x1, hx1, h⟩ := ob h
 refine cp (yg _ _ _ hx1) Om (.cons (.same _) .nil) ?_
 refine ⟨rfl, ?_⟩
 refine k2 _ _ ?_
 refine .q fun K3 k3 => rg 1 ?_
 obtain ⟨x2, hx2, h⟩ := ob h
 refine bU [] [3] [bn p0.kids] [bn p0.kids] (WM _ _ _ hx2) aep rfl .nil (by simp; try decide) (.cons (.same _) .nil) (rn := .psl 3 7 (List.length x2)) (by simp; try decide) (Hn := [.arr 7 (List.map aO x2)]) ((bK (congrArg (AObj.arr _) (aM _ _)) rfl)) ?_
 refine k3 _ _ ?_
 refine .q fun K4 k4 => rg 0 ?_
 refine k4 _ _ ?_
 refine .ret ?_
 have e9 := sj h
 subst e9
 refine hQ _ _ _ (dz (u2 (.ptr 0 0 :: (u16 []))) [.box [.i p0.op, .str p0.name, .i p0.n, .i x1.kind, .str x1.name, aH x1.kids, .psl 1 7 (List.length x2)], .arr 7 (List.map aO x2)] (wk [some 1, some 3] (.u2 (.c rfl (.u16 .nil))) (.b rfl (.c rfl (.c rfl (.c rfl (.c rfl (.c rfl (.e aD (.c rfl .nil))))))) (.old (.arr' aM (bJ _)) .nil)) rfl) (bG aC [1] rfl (.cons (congrArg (AObj.arr _) (aM _ _)) .nil) ?_))
 conv => whnf
 first | rfl | (simp; done) | (simp; rfl) | (simp; constructor <;> rfl)
end Abs
end Go.Proofs.YtiiaccpcoclklaaGreat
