/-
  Contracts of Go functions (printed). Conditions: none.
-/
import Derived.KernelRfl
import Derived.Test.YtiiaccpcoclklaaGreatCAbs38x04b7ad
import Derived.Test.YtiiaccpcoclklaaGreatCDfxa6bced
import Derived.Test.YtiiaccpcoclklaaGreatCTDx83fdfc
import Derived.Test.YtiiaccpcoclklaaGreatCT1xaae324
import Derived.Test.YtiiaccpcoclklaaGreatCT3x204825
import Derived.Test.YtiiaccpcoclklaaGreatCT4x6aaf17
set_option linter.unusedSimpArgs false
set_option linter.unusedVariables false
namespace Go.Proofs.YtiiaccpcoclklaaGreat
namespace Abs
open Go Go.Proofs
set_option maxRecDepth 100000
set_option maxHeartbeats 40000000
theorem ais {p q : Prop} (f : p → q) (h : p := by exact wk [some 0] (.u (.c rfl (.u32 (.u8 (.u4 (.u2 (.u (.e aN (.c rfl (.c rfl (.u16 (.u2 (.u (.c rfl (.u4 .nil))))))))))))))) (.b rfl (.e aK (.e aN .nil)) .nil) rfl) : q := f h
theorem Nh (n : Nat) (p0 : List Str) (r : Bool) (h : tu n p0 = some r) : aA Tryz.prog 118 [dx p0] [] (.bool r) [] := by
 unfold tu at h
 refine ah true Tryz.func118 rfl (nt Tryz.ntmps118 rfl) fun Q hQ t ht => ?_
 conv at ht => whnf
 subst ht
 refine .q fun K1 k1 => rg 0 ?_
 refine k1 _ _ ?_
 refine .q fun K2 k2 => rg 1 ?_
 refine k2 _ _ ?_
 refine .q fun K3 k3 => .q fun K4 k4 => rg 0 ?_
 refine bB (l := p0) (f := encS) ?_
 refine k4 _ _ ?_
 refine .block ?_
 obtain ⟨o1, ho1, h⟩ := ob h
 have hR1 : ∀ s2 : Unit, o1 = .nx s2 → ∀ t9 h9, Le 0 t9 h9 (u16 (u2 (.unk :: []))) [] → K3 t9 h9 := by
  intro s2 ho
  subst ho
  dsimp only [LR.el] at h
  intro t9 h9 hw
  refine k3 _ _ (AW.le hw ?_)
  refine .q fun K5 k5 => rg 0 ?_
  refine k5 _ _ ?_
  refine .ret ?_
  have e9 := sj h
  subst e9
  refine hQ _ _ _ (aj aC (fun g => rfl) ?_)
  conv => whnf
 refine .loopS (oL n p0) (fun (s1 : Int × (List (Str × Bool))) => (u2 (.unk :: (.mapr 0 :: (u2 (.unk :: (dx p0 :: (.i (p0.length : Int) :: (.i s1.1 :: (u8 (.unk :: []))))))))))) (fun (s1 : Int × (List (Str × Bool))) => [.mp (fI s1.2)]) ho1 (fun _ => rfl) (li (.u2 (.u (.s (.u2 (.u (.s (.s (.s (.u8 (.u .n))))))))))) ?_
 intro n1 s1 hs1 KL1 hKL1
 unfold oL at hs1
 refine .q fun K6 k6 => rg 0 ?_
 refine k6 _ _ ?_
 refine .q fun K7 k7 => ?_
 refine .aB rfl hs1 (fun hc1 hs1 => ?_) (fun hc1 hs1 => ?_)
 ·refine .skip ?_
  refine k7 _ _ ?_
  refine .q fun K8 k8 => ?_
  refine .block ?_
  refine .q fun K9 k9 => rg 0 ?_
  obtain ⟨x1, hx1, hs1⟩ := ob hs1
  refine aI (l := p0) (f := encS) (cs := [.str (x1)]) hx1 (rfl) rfl ?_
  refine k9 _ _ ?_
  refine .q fun K10 k10 => .q fun K11 k11 => ?_
  obtain ⟨s3, hj1, hs1⟩ := ob hs1
  have hR2 : ∀ t9 h9, Le 0 t9 h9 (u2 (.unk :: (.mapr 0 :: (.unk :: (.str x1 :: (.unk :: (dx p0 :: (.i (p0.length : Int) :: (.i s1.1 :: (u4 (.unk :: (.bool s3 :: (u2 (.unk :: [])))))))))))))) [.mp (fI s1.2)] → K11 t9 h9 := by
   intro t9 h9 hw
   refine k11 _ _ (AW.le hw ?_)
   clear hw
   refine .aB rfl hs1 (fun hc2 hs1 => ?_) (fun hc2 hs1 => ?_)
   ·refine .q fun K12 k12 => rg 0 ?_
    refine k12 _ _ ?_
    refine .ret ?_
    have e9 := sj hs1
    subst e9
    dsimp only [LR.el] at h
    have e9 := sj h
    subst e9
    refine hQ _ _ _ (aj aC (fun g => rfl) ?_)
    conv => whnf
   refine .skip ?_
   refine k10 _ _ ?_
   refine rg 0 ?_
   obtain ⟨x2, hx2, hs1⟩ := ob hs1
   refine Il (m := s1.2) (f := (fun (x : Bool) => .bool x)) hx2 rfl ?_
   refine k8 _ _ ?_
   refine .know 9 0 fun hv1 => ?_
   refine .know 7 0 fun hv2 => ?_
   refine rg 0 ?_
   refine ⟨(s1.1 + 1), by have := dK hv1; have := fU hv2; have h8 := of_decide_eq_true hc1; exact bI (by omega) (by omega), ?_⟩
   exact hKL1 _ _ _ hs1 (li (.u2 (.u (.s (.u2 (.u (.s (.s (.s (.u8 (.u .n)))))))))))
  refine rg 0 ?_
  refine XA (m := s1.2) (f := (fun (x : Bool) => .bool x)) hj1 (fun x3 hx3 hj1 => ?_) (fun hx3 hj1 => ?_)
  ·cases hj1
   exact hR2 _ _ (li (.u2 (.u (.s (.u (.s (.u (.s (.s (.s (.u4 (.u (.s (.u2 (.u .n)))))))))))))))
  cases hj1
  exact hR2 _ _ (li (.u2 (.u (.s (.u (.s (.u (.s (.s (.s (.u4 (.u (.s (.u2 (.u .n)))))))))))))))
 refine .exit ?_
 exact hR1 _ (sj hs1).symm _ _ (wk [] (.u16 (.u2 (.u .nil))) .nil rfl)
theorem Dn (n : Nat) (p0 : Env) (r : Bool) (h : pW n p0 = some r) : aA Tryz.prog 55 [jX p0] [] (.bool r) [] := by
 unfold pW at h
 refine ah true Tryz.func55 rfl (nt Tryz.ntmps55 rfl) fun Q hQ t ht => ?_
 conv at ht => whnf
 subst ht
 refine .q fun K1 k1 => rg 1 ?_
 refine k1 _ _ ?_
 refine .q fun K2 k2 => .q fun K3 k3 => ?_
 obtain ⟨s1, hj1, h⟩ := ob h
 have hR1 : ∀ t9 h9, Le 0 t9 h9 (.unk :: (.ptr 0 0 :: (u16 (.bool s1 :: (u32 (u16 (u8 (.unk :: [])))))))) [.box [dS p0.carriers, dV p0.names]] → K3 t9 h9 := by
  intro t9 h9 hw
  refine k3 _ _ (AW.le hw ?_)
  clear hw
  refine .aB rfl h (fun hc1 h => ?_) (fun hc1 h => ?_)
  ·refine .q fun K4 k4 => rg 0 ?_
   refine k4 _ _ ?_
   refine .ret ?_
   have e9 := sj h
   subst e9
   refine hQ _ _ _ (aj aC (fun g => rfl) ?_)
   conv => whnf
  refine .skip ?_
  refine k2 _ _ ?_
  refine .q fun K5 k5 => .q fun K6 k6 => rg 0 ?_
  refine bB (l := p0.carriers) (f := bQ) ?_
  refine k6 _ _ ?_
  refine .block ?_
  obtain ⟨o1, ho1, h⟩ := ob h
  have hR2 : ∀ s3 : Unit, o1 = .nx s3 → ∀ t9 h9, Le 0 t9 h9 (.unk :: (.ptr 0 0 :: (u64 (u8 (u2 []))))) [.box [dS p0.carriers, dV p0.names]] → K5 t9 h9 := by
   intro s3 ho
   subst ho
   dsimp only [LR.el] at h
   intro t9 h9 hw
   refine k5 _ _ (AW.le hw ?_)
   refine .q fun K7 k7 => .q fun K8 k8 => rg 0 ?_
   refine bB (l := p0.names) (f := bD) ?_
   refine k8 _ _ ?_
   refine .block ?_
   obtain ⟨o2, ho2, h⟩ := ob h
   have hR3 : ∀ s5 : Unit, o2 = .nx s5 → ∀ t9 h9, Le 0 t9 h9 (.unk :: (.ptr 0 0 :: (u64 (u8 (u2 []))))) [.box [dS p0.carriers, dV p0.names]] → K7 t9 h9 := by
    intro s5 ho
    subst ho
    dsimp only [LR.el] at h
    intro t9 h9 hw
    refine k7 _ _ (AW.le hw ?_)
    refine .q fun K9 k9 => rg 1 ?_
    obtain ⟨x1, hx1, h⟩ := ob h
    refine bU [] [1] [jX p0] [jX p0] (NT _ _ _ hx1) aj4 rfl .nil (by simp; try decide) (.cons (.same _) .nil) (rn := .slice (List.map encS x1) (.tip 1 1)) (by simp; try decide) (Hn := [.tip (List.length x1 * 1)]) ((bK (rfl) rfl)) ?_
    obtain ⟨x2, hx2, h⟩ := ob h
    refine ak (Nh _ _ _ hx2) alm (.cons (.share _ _) .nil) (fun g => by simp) (fun g => rfl) ?_
    refine k9 _ _ ?_
    refine .ret ?_
    have e9 := sj h
    subst e9
    refine hQ _ _ _ (aj aC (fun g => rfl) ?_)
    conv => whnf
   refine .loopS (o8 n p0) (fun (s4 : Int) => (.unk :: (.ptr 0 0 :: (u32 (u8 (u4 (u2 (.unk :: (dV p0.names :: (.i (p0.names.length : Int) :: (.i s4 :: (u16 (u8 []))))))))))))) (fun (s4 : Int) => [.box [dS p0.carriers, dV p0.names]]) ho2 (fun _ => rfl) (li (.u (.s (.u16 (.u16 (.u8 (.u4 (.u2 (.u (.s (.s (.s (.u16 (.u8 .n)))))))))))))) ?_
   intro n2 s4 hs2 KL2 hKL2
   unfold o8 at hs2
   refine .q fun K10 k10 => rg 0 ?_
   refine k10 _ _ ?_
   refine .q fun K11 k11 => ?_
   refine .aB rfl hs2 (fun hc2 hs2 => ?_) (fun hc2 hs2 => ?_)
   ·refine .skip ?_
    refine k11 _ _ ?_
    refine .q fun K12 k12 => ?_
    refine .block ?_
    refine .q fun K13 k13 => rg 1 ?_
    obtain ⟨x3, hx3, hs2⟩ := ob hs2
    refine aI (l := p0.names) (f := bD) (cs := [.str ((x3).name), .i (((x3).ty).kind), .str (((x3).ty).name), aH (((x3).ty).kids)]) hx3 (rfl) rfl ?_
    refine k13 _ _ ?_
    refine .q fun K14 k14 => ?_
    obtain ⟨s6, hj2, hs2⟩ := ob hs2
    have hR4 : ∀ t9 h9, Le 0 t9 h9 (.unk :: (.ptr 0 0 :: (u32 (u8 (u4 (u2 (.unk :: (dV p0.names :: (.i (p0.names.length : Int) :: (.i s4 :: (u16 (u2 (.unk :: (.bool s6 :: (u4 []))))))))))))))) [.box [dS p0.carriers, dV p0.names]] → K14 t9 h9 := by
     intro t9 h9 hw
     refine k14 _ _ (AW.le hw ?_)
     clear hw
     refine .aB rfl hs2 (fun hc3 hs2 => ?_) (fun hc3 hs2 => ?_)
     ·refine .q fun K15 k15 => rg 0 ?_
      refine k15 _ _ ?_
      refine .ret ?_
      have e9 := sj hs2
      subst e9
      dsimp only [LR.el] at h
      have e9 := sj h
      subst e9
      refine hQ _ _ _ (aj aC (fun g => rfl) ?_)
      conv => whnf
     refine .skip ?_
     refine k12 _ _ ?_
     refine .know 51 0 fun hv1 => ?_
     refine .know 49 0 fun hv2 => ?_
     refine rg 0 ?_
     refine ⟨(s4 + 1), by have := dK hv1; have := fU hv2; have h8 := of_decide_eq_true hc2; exact bI (by omega) (by omega), ?_⟩
     exact hKL2 _ _ _ hs2 (li (.u (.s (.u16 (.u16 (.u8 (.u4 (.u2 (.u (.s (.s (.s (.u16 (.u8 .n))))))))))))))
    refine rg 0 ?_
    obtain ⟨x4, hx4, hj2⟩ := ob hj2
    refine ak (NK _ _ _ hx4) ajV (.cons (.same _) .nil) (fun g => rfl) (fun g => rfl) ?_
    refine aG hj2 (fun hc4 hj2 => ?_) (fun hc4 hj2 => ?_)
    ·cases hj2
     exact ais (hR4 _ _)
    obtain ⟨x5, hx5, hj2⟩ := ob hj2
    refine ak (Bt _ _ _ hx5) afZ (.cons (.same _) .nil) (fun g => by simp) (fun g => rfl) ?_
    refine aG hj2 (fun hc5 hj2 => ?_) (fun hc5 hj2 => ?_)
    ·cases hj2
     exact ais (hR4 _ _)
    obtain ⟨x6, hx6, hj2⟩ := ob hj2
    refine ak (CQ _ _ _ _ hx6) ahM (.cons (.same _) (.cons (.same _) .nil)) (fun g => by simp) (fun g => rfl) ?_
    cases hj2
    exact ais (hR4 _ _)
   refine .exit ?_
   exact hR3 _ (sj hs2).symm _ _ (li (.u (.s (.u16 (.u16 (.u16 (.u16 (.u8 (.u2 .n)))))))))
  refine .loopS (oZ n p0) (fun (s2 : Int) => (.unk :: (.ptr 0 0 :: (u16 (u2 (dS p0.carriers :: (.i (p0.carriers.length : Int) :: (.i s2 :: (u32 (u16 (u4 (.unk :: [])))))))))))) (fun (s2 : Int) => [.box [dS p0.carriers, dV p0.names]]) ho1 (fun _ => rfl) (li (.u (.s (.u16 (.u2 (.s (.s (.s (.u16 (.u16 (.u16 (.u4 (.u .n))))))))))))) ?_
  intro n1 s2 hs1 KL1 hKL1
  unfold oZ at hs1
  refine .q fun K16 k16 => rg 0 ?_
  refine k16 _ _ ?_
  refine .q fun K17 k17 => ?_
  refine .aB rfl hs1 (fun hc6 hs1 => ?_) (fun hc6 hs1 => ?_)
  ·refine .skip ?_
   refine k17 _ _ ?_
   refine .q fun K18 k18 => ?_
   refine .block ?_
   refine .q fun K19 k19 => rg 1 ?_
   obtain ⟨x7, hx7, hs1⟩ := ob hs1
   refine aI (l := p0.carriers) (f := bQ) (cs := [.str ((x7).name), dx ((x7).elems)]) hx7 (rfl) rfl ?_
   refine k19 _ _ ?_
   refine .q fun K20 k20 => .q fun K21 k21 => ?_
   obtain ⟨s7, hj3, hs1⟩ := ob hs1
   have hR5 : ∀ t9 h9, Le 0 t9 h9 (.unk :: (.ptr 0 0 :: (u2 (.ptr 1 0 :: (u8 (u4 (u2 (.unk :: (dS p0.carriers :: (.i (p0.carriers.length : Int) :: (.i s2 :: (u8 (u4 (.bool s7 :: (u32 (u8 [])))))))))))))))) [.box [dS p0.carriers, dV p0.names], .box [.str x7.name, dx x7.elems]] → K21 t9 h9 := by
    intro t9 h9 hw
    refine k21 _ _ (AW.le hw ?_)
    clear hw
    refine .aB rfl hs1 (fun hc7 hs1 => ?_) (fun hc7 hs1 => ?_)
    ·refine .q fun K22 k22 => rg 0 ?_
     refine k22 _ _ ?_
     refine .ret ?_
     have e9 := sj hs1
     subst e9
     dsimp only [LR.el] at h
     have e9 := sj h
     subst e9
     refine hQ _ _ _ (aj aC (fun g => rfl) ?_)
     conv => whnf
    refine .skip ?_
    refine k20 _ _ ?_
    refine .q fun K23 k23 => rg 0 ?_
    refine bB (l := x7.elems) (f := encS) ?_
    refine k23 _ _ ?_
    refine .block ?_
    obtain ⟨o3, ho3, hs1⟩ := ob hs1
    have hR6 : ∀ s9 : Unit, o3 = .nx s9 → ∀ t9 h9, Le 0 t9 h9 (.unk :: (.ptr 0 0 :: (u16 (u2 (dS p0.carriers :: (.i (p0.carriers.length : Int) :: (.i s2 :: (u32 (u16 (u4 (.unk :: []))))))))))) [.box [dS p0.carriers, dV p0.names]] → K18 t9 h9 := by
     intro s9 ho
     subst ho
     dsimp only [LR.el] at hs1
     intro t9 h9 hw
     refine k18 _ _ (AW.le hw ?_)
     refine .know 22 0 fun hv3 => ?_
     refine .know 20 0 fun hv4 => ?_
     refine rg 0 ?_
     refine ⟨(s2 + 1), by have := dK hv3; have := fU hv4; have h8 := of_decide_eq_true hc6; exact bI (by omega) (by omega), ?_⟩
     exact hKL1 _ _ _ hs1 (li (.u (.s (.u16 (.u2 (.s (.s (.s (.u16 (.u16 (.u16 (.u4 (.u .n)))))))))))))
    refine .loopS (ku n x7) (fun (s8 : Int) => (.unk :: (.ptr 0 0 :: (u16 (u2 (dS p0.carriers :: (.i (p0.carriers.length : Int) :: (.i s2 :: (u8 (u4 (u2 (dx x7.elems :: (.i (x7.elems.length : Int) :: (.i s8 :: (u32 (u4 [])))))))))))))))) (fun (s8 : Int) => [.box [dS p0.carriers, dV p0.names]]) ho3 (fun _ => rfl) (wk [some 0] (.u (.c rfl (.u16 (.u2 (.e aK (.c rfl (.c rfl (.u8 (.u4 (.u2 (.e bf (.c rfl (.c rfl (.u32 (.u4 .nil))))))))))))))) (.b rfl (.e aK (.e aN .nil)) .nil) rfl) ?_
    intro n3 s8 hs3 KL3 hKL3
    unfold ku at hs3
    refine .q fun K24 k24 => rg 0 ?_
    refine k24 _ _ ?_
    refine .q fun K25 k25 => ?_
    refine .aB rfl hs3 (fun hc8 hs3 => ?_) (fun hc8 hs3 => ?_)
    ·refine .skip ?_
     refine k25 _ _ ?_
     refine .q fun K26 k26 => ?_
     refine .block ?_
     refine .q fun K27 k27 => rg 0 ?_
     obtain ⟨x8, hx8, hs3⟩ := ob hs3
     refine aI (l := x7.elems) (f := encS) (cs := [.str (x8)]) hx8 (rfl) rfl ?_
     refine k27 _ _ ?_
     refine .q fun K28 k28 => rg 0 ?_
     obtain ⟨x9, hx9, hs3⟩ := ob hs3
     refine ak (mq _ _ _ hx9) Ez (.cons (.same _) .nil) (fun g => rfl) (fun g => rfl) ?_
     refine k28 _ _ ?_
     refine .aB rfl hs3 (fun hc9 hs3 => ?_) (fun hc9 hs3 => ?_)
     ·refine .q fun K29 k29 => rg 0 ?_
      refine k29 _ _ ?_
      refine .ret ?_
      have e9 := sj hs3
      subst e9
      dsimp only [LR.el] at hs1
      have e9 := sj hs1
      subst e9
      dsimp only [LR.el] at h
      have e9 := sj h
      subst e9
      refine hQ _ _ _ (aj aC (fun g => rfl) ?_)
      conv => whnf
     refine .skip ?_
     refine k26 _ _ ?_
     refine .know 39 0 fun hv5 => ?_
     refine .know 37 0 fun hv6 => ?_
     refine rg 0 ?_
     refine ⟨(s8 + 1), by have := dK hv5; have := fU hv6; have h8 := of_decide_eq_true hc8; exact bI (by omega) (by omega), ?_⟩
     exact hKL3 _ _ _ hs3 (li (.u (.s (.u16 (.u2 (.s (.s (.s (.u8 (.u4 (.u2 (.s (.s (.s (.u16 (.u16 (.u4 .n)))))))))))))))))
    refine .exit ?_
    exact hR6 _ (sj hs3).symm _ _ (li (.u (.s (.u16 (.u2 (.s (.s (.s (.u16 (.u16 (.u16 (.u4 (.u .n)))))))))))))
   refine rg 0 ?_
   obtain ⟨x10, hx10, hj3⟩ := ob hj3
   refine ak (mq _ _ _ hx10) Ez (.cons (.same _) .nil) (fun g => rfl) (fun g => rfl) ?_
   refine aG hj3 (fun hc10 hj3 => ?_) (fun hc10 hj3 => ?_)
   ·cases hj3
    exact hR5 _ _ (li (.u (.s (.u2 (.s (.u8 (.u4 (.u2 (.u (.s (.s (.s (.u8 (.u4 (.s (.u16 (.u16 (.u8 .n))))))))))))))))))
   refine bB (l := x7.elems) (f := encS) ?_
   cases hj3
   exact hR5 _ _ (li (.u (.s (.u2 (.s (.u8 (.u4 (.u2 (.u (.s (.s (.s (.u8 (.u4 (.s (.u16 (.u16 (.u8 .n))))))))))))))))))
  refine .exit ?_
  exact hR2 _ (sj hs1).symm _ _ (li (.u (.s (.u16 (.u16 (.u16 (.u16 (.u8 (.u2 .n)))))))))
 refine rg 0 ?_
 refine bB (l := p0.carriers) (f := bQ) ?_
 refine aG hj1 (fun hc11 hj1 => ?_) (fun hc11 hj1 => ?_)
 ·cases hj1
  exact hR1 _ _ (li (.u (.s (.u16 (.s (.u16 (.u16 (.u16 (.u8 (.u .n))))))))))
 refine bB (l := p0.names) (f := bD) ?_
 cases hj1
 exact hR1 _ _ (li (.u (.s (.u16 (.s (.u16 (.u16 (.u16 (.u8 (.u .n))))))))))
theorem acp (n : Nat) (p0 : Int) (r : Int × Bool) (h : CW n p0 = some r) : aA Tryz.prog 254 [.i p0] [] (.aZ [.i r.1, .bool r.2]) [] := by
 unfold CW at h
 refine ah true Tryz.func254 rfl (nt Tryz.ntmps254 rfl) fun Q hQ t ht => ?_
 conv at ht => whnf
 subst ht
 refine .q fun K1 k1 => rg 0 ?_
 refine k1 _ _ ?_
 refine .q fun K2 k2 => ?_
 refine .block ?_
 refine .q fun K3 k3 => ?_
 obtain ⟨s1, hj1, h⟩ := ob h
 have hR1 : ∀ t9 h9, Le 0 t9 h9 (.i p0 :: (u2 (.unk :: (.bool s1 :: (u32 (.unk :: [])))))) [] → K3 t9 h9 := by
  intro t9 h9 hw
  refine k3 _ _ (AW.le hw ?_)
  clear hw
  refine .aB rfl h (fun hc1 h => ?_) (fun hc1 h => ?_)
  ·refine .q fun K4 k4 => rg 0 ?_
   refine k4 _ _ ?_
   refine .ret ?_
   have e9 := sj h
   subst e9
   refine hQ _ _ _ (aj aC (fun g => by simp) ?_)
   conv => whnf
   try rfl
  refine .q fun K5 k5 => ?_
  obtain ⟨s2, hj2, h⟩ := ob h
  have hR2 : ∀ t9 h9, Le 0 t9 h9 (.i p0 :: (u8 (u4 (u2 (.bool s2 :: (u16 (u4 (u2 [])))))))) [] → K5 t9 h9 := by
   intro t9 h9 hw
   refine k5 _ _ (AW.le hw ?_)
   clear hw
   refine .aB rfl h (fun hc2 h => ?_) (fun hc2 h => ?_)
   ·refine .q fun K6 k6 => rg 0 ?_
    refine k6 _ _ ?_
    refine .ret ?_
    have e9 := sj h
    subst e9
    refine hQ _ _ _ (aj aC (fun g => by simp) ?_)
    conv => whnf
    try rfl
   refine .q fun K7 k7 => rg 0 ?_
   refine k7 _ _ ?_
   refine .aB rfl h (fun hc3 h => ?_) (fun hc3 h => ?_)
   ·refine .q fun K8 k8 => rg 0 ?_
    refine k8 _ _ ?_
    refine .ret ?_
    have e9 := sj h
    subst e9
    refine hQ _ _ _ (aj aC (fun g => by simp) ?_)
    conv => whnf
    try rfl
   refine .q fun K9 k9 => ?_
   obtain ⟨s3, hj3, h⟩ := ob h
   have hR3 : ∀ t9 h9, Le 0 t9 h9 (u16 (u8 (u4 (u2 (.unk :: (.bool s3 :: (u4 (u2 [])))))))) [] → K9 t9 h9 := by
    intro t9 h9 hw
    refine k9 _ _ (AW.le hw ?_)
    clear hw
    refine .aB rfl h (fun hc4 h => ?_) (fun hc4 h => ?_)
    ·refine .q fun K10 k10 => rg 0 ?_
     refine k10 _ _ ?_
     refine .ret ?_
     have e9 := sj h
     subst e9
     refine hQ _ _ _ (aj aC (fun g => by simp) ?_)
     conv => whnf
     try rfl
    refine .skip ?_
    refine k2 _ _ ?_
    refine .q fun K11 k11 => rg 0 ?_
    refine k11 _ _ ?_
    refine .ret ?_
    have e9 := sj h
    subst e9
    refine hQ _ _ _ (aj aC (fun g => by simp) ?_)
    conv => whnf
    try rfl
   refine rg 0 ?_
   refine aG hj3 (fun hc5 hj3 => ?_) (fun hc5 hj3 => ?_)
   ·cases hj3
    exact hR3 _ _ (li (.u16 (.u8 (.u4 (.u2 (.u (.s (.u4 (.u2 .n)))))))))
   cases hj3
   exact hR3 _ _ (li (.u16 (.u8 (.u4 (.u2 (.u (.s (.u4 (.u2 .n)))))))))
  refine .q fun K12 k12 => rg 0 ?_
  refine k12 _ _ ?_
  refine .aB rfl hj2 (fun hc6 hj2 => ?_) (fun hc6 hj2 => ?_)
  ·refine .skip ?_
   cases hj2
   exact hR2 _ _ (li (.s (.u8 (.u4 (.u2 (.s (.u16 (.u4 (.u2 .n)))))))))
  refine .q fun K13 k13 => rg 0 ?_
  refine k13 _ _ ?_
  refine .aB rfl hj2 (fun hc7 hj2 => ?_) (fun hc7 hj2 => ?_)
  ·refine .skip ?_
   cases hj2
   exact hR2 _ _ (li (.s (.u8 (.u4 (.u2 (.s (.u16 (.u4 (.u2 .n)))))))))
  refine .q fun K14 k14 => ?_
  obtain ⟨s4, hj4, hj2⟩ := ob hj2
  have hR4 : ∀ t9 h9, Le 0 t9 h9 (.i p0 :: (u8 (u4 (u2 (.bool s4 :: (u16 (u4 (u2 [])))))))) [] → K14 t9 h9 := by
   intro t9 h9 hw
   refine k14 _ _ (AW.le hw ?_)
   clear hw
   refine .aB rfl hj2 (fun hc8 hj2 => ?_) (fun hc8 hj2 => ?_)
   ·refine .skip ?_
    cases hj2
    exact hR2 _ _ (li (.s (.u8 (.u4 (.u2 (.s (.u16 (.u4 (.u2 .n)))))))))
   refine rg 0 ?_
   cases hj2
   exact hR2 _ _ (li (.s (.u8 (.u4 (.u2 (.s (.u16 (.u4 (.u2 .n)))))))))
  refine rg 0 ?_
  refine aG hj4 (fun hc9 hj4 => ?_) (fun hc9 hj4 => ?_)
  ·cases hj4
   exact hR4 _ _ (li (.s (.u8 (.u4 (.u2 (.s (.u16 (.u4 (.u2 .n)))))))))
  cases hj4
  exact hR4 _ _ (li (.s (.u8 (.u4 (.u2 (.s (.u16 (.u4 (.u2 .n)))))))))
 refine .q fun K15 k15 => rg 0 ?_
 refine k15 _ _ ?_
 refine .aB rfl hj1 (fun hc10 hj1 => ?_) (fun hc10 hj1 => ?_)
 ·refine .skip ?_
  cases hj1
  exact hR1 _ _ (li (.s (.u2 (.u (.s (.u16 (.u16 (.u .n))))))))
 refine .q fun K16 k16 => rg 0 ?_
 refine k16 _ _ ?_
 refine .aB rfl hj1 (fun hc11 hj1 => ?_) (fun hc11 hj1 => ?_)
 ·refine .skip ?_
  cases hj1
  exact hR1 _ _ (li (.s (.u2 (.u (.s (.u16 (.u16 (.u .n))))))))
 refine .q fun K17 k17 => rg 0 ?_
 refine k17 _ _ ?_
 refine .aB rfl hj1 (fun hc12 hj1 => ?_) (fun hc12 hj1 => ?_)
 ·refine .skip ?_
  cases hj1
  exact hR1 _ _ (li (.s (.u2 (.u (.s (.u16 (.u16 (.u .n))))))))
 refine .q fun K18 k18 => rg 0 ?_
 refine k18 _ _ ?_
 refine .aB rfl hj1 (fun hc13 hj1 => ?_) (fun hc13 hj1 => ?_)
 ·refine .skip ?_
  cases hj1
  exact hR1 _ _ (li (.s (.u2 (.u (.s (.u16 (.u16 (.u .n))))))))
 refine rg 0 ?_
 cases hj1
 exact hR1 _ _ (li (.s (.u2 (.u (.s (.u16 (.u16 (.u .n))))))))
theorem aar (n : Nat) (p0 : Str) (r : Bool) (h : DY n p0 = some r) : aA Tryz.prog 255 [.str p0] [] (.bool r) [] := by
 unfold DY at h
 refine ah true Tryz.func255 rfl (nt Tryz.ntmps255 rfl) fun Q hQ t ht => ?_
 conv at ht => whnf
 subst ht
 refine .q fun K1 k1 => rg 0 ?_
 refine k1 _ _ ?_
 refine .q fun K2 k2 => rg 0 ?_
 obtain ⟨x1, hx1, h⟩ := ob h
 refine ak (Ab _ _ _ _ hx1) aez (.cons (.same _) (.cons (.same _) .nil)) (fun g => rfl) (fun g => rfl) ?_
 obtain ⟨x2, hx2, h⟩ := ob h
 refine ak (mq _ _ _ hx2) Ez (.cons (.same _) .nil) (fun g => rfl) (fun g => rfl) ?_
 refine k2 _ _ ?_
 refine .ret ?_
 have e9 := sj h
 subst e9
 refine hQ _ _ _ (aj aC (fun g => rfl) ?_)
 conv => whnf
theorem YC (n : Nat) (p0 : Int) (r : Bool) (h : wG n p0 = some r) : aA Tryz.prog 256 [.i p0] [] (.bool r) [] := by
 unfold wG at h
 refine ah true Tryz.func256 rfl (nt Tryz.ntmps256 rfl) fun Q hQ t ht => ?_
 conv at ht => whnf
 subst ht
 refine .q fun K1 k1 => rg 0 ?_
 refine k1 _ _ ?_
 refine .q fun K2 k2 => ?_
 obtain ⟨s1, hj1, h⟩ := ob h
 have hR1 : ∀ t9 h9, Le 0 t9 h9 (u2 (.bool s1 :: (u8 (u4 (u2 []))))) [] → K2 t9 h9 := by
  intro t9 h9 hw
  refine k2 _ _ (AW.le hw ?_)
  clear hw
  refine .ret ?_
  have e9 := sj h
  subst e9
  refine hQ _ _ _ (aj aC (fun g => rfl) ?_)
  conv => whnf
 refine rg 0 ?_
 refine aG hj1 (fun hc1 hj1 => ?_) (fun hc1 hj1 => ?_)
 ·cases hj1
  exact hR1 _ _ (li (.u2 (.s (.u8 (.u4 (.u2 .n))))))
 refine aG hj1 (fun hc2 hj1 => ?_) (fun hc2 hj1 => ?_)
 ·cases hj1
  exact hR1 _ _ (li (.u2 (.s (.u8 (.u4 (.u2 .n))))))
 refine aG hj1 (fun hc3 hj1 => ?_) (fun hc3 hj1 => ?_)
 ·cases hj1
  exact hR1 _ _ (li (.u2 (.s (.u8 (.u4 (.u2 .n))))))
 cases hj1
 exact hR1 _ _ (li (.u2 (.s (.u8 (.u4 (.u2 .n))))))
theorem Sy (n : Nat) (p0 : Ty) (r : Bool) (h : vZ n p0 = some r) : aA Tryz.prog 257 [aU p0] [] (.bool r) [] := by
 unfold vZ at h
 refine ah true Tryz.func257 rfl (nt Tryz.ntmps257 rfl) fun Q hQ t ht => ?_
 conv at ht => whnf
 subst ht
 refine .q fun K1 k1 => rg 1 ?_
 refine k1 _ _ ?_
 refine .q fun K2 k2 => ?_
 obtain ⟨s1, hj1, h⟩ := ob h
 have hR1 : ∀ t9 h9, Le 0 t9 h9 (u2 (.bool s1 :: (u8 (u4 (u2 []))))) [] → K2 t9 h9 := by
  intro t9 h9 hw
  refine k2 _ _ (AW.le hw ?_)
  clear hw
  refine .ret ?_
  have e9 := sj h
  subst e9
  refine hQ _ _ _ (aj aC (fun g => rfl) ?_)
  conv => whnf
 refine rg 0 ?_
 refine aG hj1 (fun hc1 hj1 => ?_) (fun hc1 hj1 => ?_)
 ·refine aG hj1 (fun hc2 hj1 => ?_) (fun hc2 hj1 => ?_)
  ·refine bB (l := p0.kids) (f := aF) ?_
   cases hj1
   exact hR1 _ _ (wk [] (.u2 (.c rfl (.u8 (.u4 (.u2 .nil))))) .nil rfl)
  cases hj1
  exact hR1 _ _ (wk [] (.u2 (.c rfl (.u8 (.u4 (.u2 .nil))))) .nil rfl)
 cases hj1
 exact hR1 _ _ (wk [] (.u2 (.c rfl (.u8 (.u4 (.u2 .nil))))) .nil rfl)
end Abs
end Go.Proofs.YtiiaccpcoclklaaGreat
