/-
  Contracts of Go functions (printed). Conditions: none.
-/
import Derived.KernelRfl
import Derived.Test.YtiiaccpcoclklaaGreatCT4xb6007b
set_option linter.unusedSimpArgs false
set_option linter.unusedVariables false
namespace Go.Proofs.YtiiaccpcoclklaaGreat
namespace Abs
open Go Go.Proofs
set_option maxRecDepth 100000
set_option maxHeartbeats 40000000
theorem t5x0 {p q : Prop} (f : p → q) (h : p := by exact wk [some 0] (.u (.c rfl (.u32 (.u8 (.u4 (.u2 (.u (.e aG (.c rfl (.c rfl (.u16 (.u2 (.u (.c rfl (.u4 .nil))))))))))))))) (.b rfl (.e aA (.e aG .nil)) .nil) rfl) : q := f h
theorem FL (n : Nat) (p0 : List Str) (r : Bool) (h : qZ n p0 = some r) : ak Tryz.prog 118 [bQ p0] [] (.bool r) [] := by
 unfold qZ at h
 refine ah true Tryz.func118 rfl (nt Tryz.ntmps118 rfl) fun Q hQ t ht => ?_
 conv at ht => whnf
 subst ht
 refine .q fun K1 k1 => rg 0 ?_
 refine k1 _ _ ?_
 refine .q fun K2 k2 => rg 1 ?_
 refine k2 _ _ ?_
 refine .q fun K3 k3 => .q fun K4 k4 => rg 0 ?_
 refine aW (l := p0) (f := encS) ?_
 refine k4 _ _ ?_
 refine .block ?_
 obtain ⟨o1, ho1, h⟩ := ob h
 have hR1 : ∀ s2 : Unit, o1 = .nx s2 → ∀ t9 h9, Le 0 t9 h9 (u16 (u2 (.unk :: []))) [] → K3 t9 h9 := by
  intro s2 ho
  subst ho
  dsimp only [LR.el] at h
  intro t9 h9 hw
  refine k3 _ _ (AW.le hw ?_)
  refine .q fun K5 k5 => rg 0 ?_
  refine k5 _ _ ?_
  refine .ret ?_
  have e9 := sj h
  subst e9
  refine hQ _ _ _ (aj aD (fun g => rfl) ?_)
  conv => whnf
 refine .loopS (qH n p0) (fun (s1 : Int × (List (Str × Bool))) => (u2 (.unk :: (.mapr 0 :: (u2 (.unk :: (bQ p0 :: (.i (p0.length : Int) :: (.i s1.1 :: (u8 (.unk :: []))))))))))) (fun (s1 : Int × (List (Str × Bool))) => [.mp (eX s1.2)]) ho1 (fun _ => rfl) (li (.u2 (.u (.s (.u2 (.u (.s (.s (.s (.u8 (.u .n))))))))))) ?_
 intro n1 s1 hs1 KL1 hKL1
 unfold qH at hs1
 refine .q fun K6 k6 => rg 0 ?_
 refine k6 _ _ ?_
 refine .q fun K7 k7 => ?_
 refine .aC rfl hs1 (fun hc1 hs1 => ?_) (fun hc1 hs1 => ?_)
 ·refine .skip ?_
  refine k7 _ _ ?_
  refine .q fun K8 k8 => ?_
  refine .block ?_
  refine .q fun K9 k9 => rg 0 ?_
  obtain ⟨x1, hx1, hs1⟩ := ob hs1
  refine aJ (l := p0) (f := encS) (cs := [.str (x1)]) hx1 (rfl) rfl ?_
  refine k9 _ _ ?_
  refine .q fun K10 k10 => .q fun K11 k11 => ?_
  obtain ⟨s3, hj1, hs1⟩ := ob hs1
  have hR2 : ∀ t9 h9, Le 0 t9 h9 (u2 (.unk :: (.mapr 0 :: (.unk :: (.str x1 :: (.unk :: (bQ p0 :: (.i (p0.length : Int) :: (.i s1.1 :: (u4 (.unk :: (.bool s3 :: (u2 (.unk :: [])))))))))))))) [.mp (eX s1.2)] → K11 t9 h9 := by
   intro t9 h9 hw
   refine k11 _ _ (AW.le hw ?_)
   clear hw
   refine .aC rfl hs1 (fun hc2 hs1 => ?_) (fun hc2 hs1 => ?_)
   ·refine .q fun K12 k12 => rg 0 ?_
    refine k12 _ _ ?_
    refine .ret ?_
    have e9 := sj hs1
    subst e9
    dsimp only [LR.el] at h
    have e9 := sj h
    subst e9
    refine hQ _ _ _ (aj aD (fun g => rfl) ?_)
    conv => whnf
   refine .skip ?_
   refine k10 _ _ ?_
   refine rg 0 ?_
   obtain ⟨x2, hx2, hs1⟩ := ob hs1
   refine Lb (m := s1.2) (f := (fun (x : Bool) => .bool x)) hx2 rfl ?_
   refine k8 _ _ ?_
   refine .know 9 0 fun hv1 => ?_
   refine .know 7 0 fun hv2 => ?_
   refine rg 0 ?_
   refine ⟨(s1.1 + 1), by have := dn hv1; have := eP hv2; have h8 := of_decide_eq_true hc1; exact bG (by omega) (by omega), ?_⟩
   exact hKL1 _ _ _ hs1 (li (.u2 (.u (.s (.u2 (.u (.s (.s (.s (.u8 (.u .n)))))))))))
  refine rg 0 ?_
  refine Rf (m := s1.2) (f := (fun (x : Bool) => .bool x)) hj1 (fun x3 hx3 hj1 => ?_) (fun hx3 hj1 => ?_)
  ·cases hj1
   exact hR2 _ _ (li (.u2 (.u (.s (.u (.s (.u (.s (.s (.s (.u4 (.u (.s (.u2 (.u .n)))))))))))))))
  cases hj1
  exact hR2 _ _ (li (.u2 (.u (.s (.u (.s (.u (.s (.s (.s (.u4 (.u (.s (.u2 (.u .n)))))))))))))))
 refine .exit ?_
 exact hR1 _ (sj hs1).symm _ _ (wk [] (.u16 (.u2 (.u .nil))) .nil rfl)
theorem jN (n : Nat) (p0 : Env) (r : Bool) (h : iB n p0 = some r) : ak Tryz.prog 55 [dz p0] [] (.bool r) [] := by
 unfold iB at h
 refine ah true Tryz.func55 rfl (nt Tryz.ntmps55 rfl) fun Q hQ t ht => ?_
 conv at ht => whnf
 subst ht
 refine .q fun K1 k1 => rg 1 ?_
 refine k1 _ _ ?_
 refine .q fun K2 k2 => .q fun K3 k3 => ?_
 obtain ⟨s1, hj1, h⟩ := ob h
 have hR1 : ∀ t9 h9, Le 0 t9 h9 (.unk :: (.ptr 0 0 :: (u16 (.bool s1 :: (u32 (u16 (u8 (.unk :: [])))))))) [.box [bT p0.carriers, bU p0.names]] → K3 t9 h9 := by
  intro t9 h9 hw
  refine k3 _ _ (AW.le hw ?_)
  clear hw
  refine .aC rfl h (fun hc1 h => ?_) (fun hc1 h => ?_)
  ·refine .q fun K4 k4 => rg 0 ?_
   refine k4 _ _ ?_
   refine .ret ?_
   have e9 := sj h
   subst e9
   refine hQ _ _ _ (aj aD (fun g => rfl) ?_)
   conv => whnf
  refine .skip ?_
  refine k2 _ _ ?_
  refine .q fun K5 k5 => .q fun K6 k6 => rg 0 ?_
  refine aW (l := p0.carriers) (f := aL) ?_
  refine k6 _ _ ?_
  refine .block ?_
  obtain ⟨o1, ho1, h⟩ := ob h
  have hR2 : ∀ s3 : Unit, o1 = .nx s3 → ∀ t9 h9, Le 0 t9 h9 (.unk :: (.ptr 0 0 :: (u64 (u8 (u2 []))))) [.box [bT p0.carriers, bU p0.names]] → K5 t9 h9 := by
   intro s3 ho
   subst ho
   dsimp only [LR.el] at h
   intro t9 h9 hw
   refine k5 _ _ (AW.le hw ?_)
   refine .q fun K7 k7 => .q fun K8 k8 => rg 0 ?_
   refine aW (l := p0.names) (f := aO) ?_
   refine k8 _ _ ?_
   refine .block ?_
   obtain ⟨o2, ho2, h⟩ := ob h
   have hR3 : ∀ s5 : Unit, o2 = .nx s5 → ∀ t9 h9, Le 0 t9 h9 (.unk :: (.ptr 0 0 :: (u64 (u8 (u2 []))))) [.box [bT p0.carriers, bU p0.names]] → K7 t9 h9 := by
    intro s5 ho
    subst ho
    dsimp only [LR.el] at h
    intro t9 h9 hw
    refine k7 _ _ (AW.le hw ?_)
    refine .q fun K9 k9 => rg 1 ?_
    obtain ⟨x1, hx1, h⟩ := ob h
    refine bM [] [1] [dz p0] [dz p0] (zM _ _ _ hx1) aaE rfl .nil (by simp; try decide) (.cons (.same _) .nil) (rn := .slice (List.map encS x1) (.tip 1 1)) (by simp; try decide) (Hn := [.tip (List.length x1 * 1)]) ((bI (rfl) rfl)) ?_
    obtain ⟨x2, hx2, h⟩ := ob h
    refine au (FL _ _ _ hx2) ahS (.cons (.share _ _) .nil) (fun g => by simp) (fun g => rfl) ?_
    refine k9 _ _ ?_
    refine .ret ?_
    have e9 := sj h
    subst e9
    refine hQ _ _ _ (aj aD (fun g => rfl) ?_)
    conv => whnf
   refine .loopS (qN n p0) (fun (s4 : Int) => (.unk :: (.ptr 0 0 :: (u32 (u8 (u4 (u2 (.unk :: (bU p0.names :: (.i (p0.names.length : Int) :: (.i s4 :: (u16 (u8 []))))))))))))) (fun (s4 : Int) => [.box [bT p0.carriers, bU p0.names]]) ho2 (fun _ => rfl) (li (.u (.s (.u16 (.u16 (.u8 (.u4 (.u2 (.u (.s (.s (.s (.u16 (.u8 .n)))))))))))))) ?_
   intro n2 s4 hs2 KL2 hKL2
   unfold qN at hs2
   refine .q fun K10 k10 => rg 0 ?_
   refine k10 _ _ ?_
   refine .q fun K11 k11 => ?_
   refine .aC rfl hs2 (fun hc2 hs2 => ?_) (fun hc2 hs2 => ?_)
   ·refine .skip ?_
    refine k11 _ _ ?_
    refine .q fun K12 k12 => ?_
    refine .block ?_
    refine .q fun K13 k13 => rg 1 ?_
    obtain ⟨x3, hx3, hs2⟩ := ob hs2
    refine aJ (l := p0.names) (f := aO) (cs := [.str ((x3).name), .i (((x3).ty).kind), .str (((x3).ty).name), aI (((x3).ty).kids)]) hx3 (rfl) rfl ?_
    refine k13 _ _ ?_
    refine .q fun K14 k14 => ?_
    obtain ⟨s6, hj2, hs2⟩ := ob hs2
    have hR4 : ∀ t9 h9, Le 0 t9 h9 (.unk :: (.ptr 0 0 :: (u32 (u8 (u4 (u2 (.unk :: (bU p0.names :: (.i (p0.names.length : Int) :: (.i s4 :: (u16 (u2 (.unk :: (.bool s6 :: (u4 []))))))))))))))) [.box [bT p0.carriers, bU p0.names]] → K14 t9 h9 := by
     intro t9 h9 hw
     refine k14 _ _ (AW.le hw ?_)
     clear hw
     refine .aC rfl hs2 (fun hc3 hs2 => ?_) (fun hc3 hs2 => ?_)
     ·refine .q fun K15 k15 => rg 0 ?_
      refine k15 _ _ ?_
      refine .ret ?_
      have e9 := sj hs2
      subst e9
      dsimp only [LR.el] at h
      have e9 := sj h
      subst e9
      refine hQ _ _ _ (aj aD (fun g => rfl) ?_)
      conv => whnf
     refine .skip ?_
     refine k12 _ _ ?_
     refine .know 51 0 fun hv1 => ?_
     refine .know 49 0 fun hv2 => ?_
     refine rg 0 ?_
     refine ⟨(s4 + 1), by have := dn hv1; have := eP hv2; have h8 := of_decide_eq_true hc2; exact bG (by omega) (by omega), ?_⟩
     exact hKL2 _ _ _ hs2 (li (.u (.s (.u16 (.u16 (.u8 (.u4 (.u2 (.u (.s (.s (.s (.u16 (.u8 .n))))))))))))))
    refine rg 0 ?_
    obtain ⟨x4, hx4, hj2⟩ := ob hj2
    refine au (Fe _ _ _ hx4) ahu (.cons (.same _) .nil) (fun g => rfl) (fun g => rfl) ?_
    refine aH hj2 (fun hc4 hj2 => ?_) (fun hc4 hj2 => ?_)
    ·cases hj2
     exact t5x0 (hR4 _ _)
    obtain ⟨x5, hx5, hj2⟩ := ob hj2
    refine au (xX _ _ _ hx5) ae4 (.cons (.same _) .nil) (fun g => by simp) (fun g => rfl) ?_
    refine aH hj2 (fun hc5 hj2 => ?_) (fun hc5 hj2 => ?_)
    ·cases hj2
     exact t5x0 (hR4 _ _)
    obtain ⟨x6, hx6, hj2⟩ := ob hj2
    refine au (zA _ _ _ _ hx6) afA (.cons (.same _) (.cons (.same _) .nil)) (fun g => by simp) (fun g => rfl) ?_
    cases hj2
    exact t5x0 (hR4 _ _)
   refine .exit ?_
   exact hR3 _ (sj hs2).symm _ _ (li (.u (.s (.u16 (.u16 (.u16 (.u16 (.u8 (.u2 .n)))))))))
  refine .loopS (qy n p0) (fun (s2 : Int) => (.unk :: (.ptr 0 0 :: (u16 (u2 (bT p0.carriers :: (.i (p0.carriers.length : Int) :: (.i s2 :: (u32 (u16 (u4 (.unk :: [])))))))))))) (fun (s2 : Int) => [.box [bT p0.carriers, bU p0.names]]) ho1 (fun _ => rfl) (li (.u (.s (.u16 (.u2 (.s (.s (.s (.u16 (.u16 (.u16 (.u4 (.u .n))))))))))))) ?_
  intro n1 s2 hs1 KL1 hKL1
  unfold qy at hs1
  refine .q fun K16 k16 => rg 0 ?_
  refine k16 _ _ ?_
  refine .q fun K17 k17 => ?_
  refine .aC rfl hs1 (fun hc6 hs1 => ?_) (fun hc6 hs1 => ?_)
  ·refine .skip ?_
   refine k17 _ _ ?_
   refine .q fun K18 k18 => ?_
   refine .block ?_
   refine .q fun K19 k19 => rg 1 ?_
   obtain ⟨x7, hx7, hs1⟩ := ob hs1
   refine aJ (l := p0.carriers) (f := aL) (cs := [.str ((x7).name), bQ ((x7).elems)]) hx7 (rfl) rfl ?_
   refine k19 _ _ ?_
   refine .q fun K20 k20 => .q fun K21 k21 => ?_
   obtain ⟨s7, hj3, hs1⟩ := ob hs1
   have hR5 : ∀ t9 h9, Le 0 t9 h9 (.unk :: (.ptr 0 0 :: (u2 (.ptr 1 0 :: (u8 (u4 (u2 (.unk :: (bT p0.carriers :: (.i (p0.carriers.length : Int) :: (.i s2 :: (u8 (u4 (.bool s7 :: (u32 (u8 [])))))))))))))))) [.box [bT p0.carriers, bU p0.names], .box [.str x7.name, bQ x7.elems]] → K21 t9 h9 := by
    intro t9 h9 hw
    refine k21 _ _ (AW.le hw ?_)
    clear hw
    refine .aC rfl hs1 (fun hc7 hs1 => ?_) (fun hc7 hs1 => ?_)
    ·refine .q fun K22 k22 => rg 0 ?_
     refine k22 _ _ ?_
     refine .ret ?_
     have e9 := sj hs1
     subst e9
     dsimp only [LR.el] at h
     have e9 := sj h
     subst e9
     refine hQ _ _ _ (aj aD (fun g => rfl) ?_)
     conv => whnf
    refine .skip ?_
    refine k20 _ _ ?_
    refine .q fun K23 k23 => rg 0 ?_
    refine aW (l := x7.elems) (f := encS) ?_
    refine k23 _ _ ?_
    refine .block ?_
    obtain ⟨o3, ho3, hs1⟩ := ob hs1
    have hR6 : ∀ s9 : Unit, o3 = .nx s9 → ∀ t9 h9, Le 0 t9 h9 (.unk :: (.ptr 0 0 :: (u16 (u2 (bT p0.carriers :: (.i (p0.carriers.length : Int) :: (.i s2 :: (u32 (u16 (u4 (.unk :: []))))))))))) [.box [bT p0.carriers, bU p0.names]] → K18 t9 h9 := by
     intro s9 ho
     subst ho
     dsimp only [LR.el] at hs1
     intro t9 h9 hw
     refine k18 _ _ (AW.le hw ?_)
     refine .know 22 0 fun hv3 => ?_
     refine .know 20 0 fun hv4 => ?_
     refine rg 0 ?_
     refine ⟨(s2 + 1), by have := dn hv3; have := eP hv4; have h8 := of_decide_eq_true hc6; exact bG (by omega) (by omega), ?_⟩
     exact hKL1 _ _ _ hs1 (li (.u (.s (.u16 (.u2 (.s (.s (.s (.u16 (.u16 (.u16 (.u4 (.u .n)))))))))))))
    refine .loopS (lI n x7) (fun (s8 : Int) => (.unk :: (.ptr 0 0 :: (u16 (u2 (bT p0.carriers :: (.i (p0.carriers.length : Int) :: (.i s2 :: (u8 (u4 (u2 (bQ x7.elems :: (.i (x7.elems.length : Int) :: (.i s8 :: (u32 (u4 [])))))))))))))))) (fun (s8 : Int) => [.box [bT p0.carriers, bU p0.names]]) ho3 (fun _ => rfl) (wk [some 0] (.u (.c rfl (.u16 (.u2 (.e aA (.c rfl (.c rfl (.u8 (.u4 (.u2 (.e aZ (.c rfl (.c rfl (.u32 (.u4 .nil))))))))))))))) (.b rfl (.e aA (.e aG .nil)) .nil) rfl) ?_
    intro n3 s8 hs3 KL3 hKL3
    unfold lI at hs3
    refine .q fun K24 k24 => rg 0 ?_
    refine k24 _ _ ?_
    refine .q fun K25 k25 => ?_
    refine .aC rfl hs3 (fun hc8 hs3 => ?_) (fun hc8 hs3 => ?_)
    ·refine .skip ?_
     refine k25 _ _ ?_
     refine .q fun K26 k26 => ?_
     refine .block ?_
     refine .q fun K27 k27 => rg 0 ?_
     obtain ⟨x8, hx8, hs3⟩ := ob hs3
     refine aJ (l := x7.elems) (f := encS) (cs := [.str (x8)]) hx8 (rfl) rfl ?_
     refine k27 _ _ ?_
     refine .q fun K28 k28 => rg 0 ?_
     obtain ⟨x9, hx9, hs3⟩ := ob hs3
     refine au (nL _ _ _ hx9) GH (.cons (.same _) .nil) (fun g => rfl) (fun g => rfl) ?_
     refine k28 _ _ ?_
     refine .aC rfl hs3 (fun hc9 hs3 => ?_) (fun hc9 hs3 => ?_)
     ·refine .q fun K29 k29 => rg 0 ?_
      refine k29 _ _ ?_
      refine .ret ?_
      have e9 := sj hs3
      subst e9
      dsimp only [LR.el] at hs1
      have e9 := sj hs1
      subst e9
      dsimp only [LR.el] at h
      have e9 := sj h
      subst e9
      refine hQ _ _ _ (aj aD (fun g => rfl) ?_)
      conv => whnf
     refine .skip ?_
     refine k26 _ _ ?_
     refine .know 39 0 fun hv5 => ?_
     refine .know 37 0 fun hv6 => ?_
     refine rg 0 ?_
     refine ⟨(s8 + 1), by have := dn hv5; have := eP hv6; have h8 := of_decide_eq_true hc8; exact bG (by omega) (by omega), ?_⟩
     exact hKL3 _ _ _ hs3 (li (.u (.s (.u16 (.u2 (.s (.s (.s (.u8 (.u4 (.u2 (.s (.s (.s (.u16 (.u16 (.u4 .n)))))))))))))))))
    refine .exit ?_
    exact hR6 _ (sj hs3).symm _ _ (li (.u (.s (.u16 (.u2 (.s (.s (.s (.u16 (.u16 (.u16 (.u4 (.u .n)))))))))))))
   refine rg 0 ?_
   obtain ⟨x10, hx10, hj3⟩ := ob hj3
   refine au (nL _ _ _ hx10) GH (.cons (.same _) .nil) (fun g => rfl) (fun g => rfl) ?_
   refine aH hj3 (fun hc10 hj3 => ?_) (fun hc10 hj3 => ?_)
   ·cases hj3
    exact hR5 _ _ (li (.u (.s (.u2 (.s (.u8 (.u4 (.u2 (.u (.s (.s (.s (.u8 (.u4 (.s (.u16 (.u16 (.u8 .n))))))))))))))))))
   refine aW (l := x7.elems) (f := encS) ?_
   cases hj3
   exact hR5 _ _ (li (.u (.s (.u2 (.s (.u8 (.u4 (.u2 (.u (.s (.s (.s (.u8 (.u4 (.s (.u16 (.u16 (.u8 .n))))))))))))))))))
  refine .exit ?_
  exact hR2 _ (sj hs1).symm _ _ (li (.u (.s (.u16 (.u16 (.u16 (.u16 (.u8 (.u2 .n)))))))))
 refine rg 0 ?_
 refine aW (l := p0.carriers) (f := aL) ?_
 refine aH hj1 (fun hc11 hj1 => ?_) (fun hc11 hj1 => ?_)
 ·cases hj1
  exact hR1 _ _ (li (.u (.s (.u16 (.s (.u16 (.u16 (.u16 (.u8 (.u .n))))))))))
 refine aW (l := p0.names) (f := aO) ?_
 cases hj1
 exact hR1 _ _ (li (.u (.s (.u16 (.s (.u16 (.u16 (.u16 (.u8 (.u .n))))))))))
theorem afn (n : Nat) (p0 : Int) (r : Int × Bool) (h : E9 n p0 = some r) : ak Tryz.prog 254 [.i p0] [] (.bq [.i r.1, .bool r.2]) [] := by
 unfold E9 at h
 refine ah true Tryz.func254 rfl (nt Tryz.ntmps254 rfl) fun Q hQ t ht => ?_
 conv at ht => whnf
 subst ht
 refine .q fun K1 k1 => rg 0 ?_
 refine k1 _ _ ?_
 refine .q fun K2 k2 => ?_
 refine .block ?_
 refine .q fun K3 k3 => ?_
 obtain ⟨s1, hj1, h⟩ := ob h
 have hR1 : ∀ t9 h9, Le 0 t9 h9 (.i p0 :: (u2 (.unk :: (.bool s1 :: (u32 (.unk :: [])))))) [] → K3 t9 h9 := by
  intro t9 h9 hw
  refine k3 _ _ (AW.le hw ?_)
  clear hw
  refine .aC rfl h (fun hc1 h => ?_) (fun hc1 h => ?_)
  ·refine .q fun K4 k4 => rg 0 ?_
   refine k4 _ _ ?_
   refine .ret ?_
   have e9 := sj h
   subst e9
   refine hQ _ _ _ (aj aD (fun g => by simp) ?_)
   conv => whnf
   try rfl
  refine .q fun K5 k5 => ?_
  obtain ⟨s2, hj2, h⟩ := ob h
  have hR2 : ∀ t9 h9, Le 0 t9 h9 (.i p0 :: (u8 (u4 (u2 (.bool s2 :: (u16 (u4 (u2 [])))))))) [] → K5 t9 h9 := by
   intro t9 h9 hw
   refine k5 _ _ (AW.le hw ?_)
   clear hw
   refine .aC rfl h (fun hc2 h => ?_) (fun hc2 h => ?_)
   ·refine .q fun K6 k6 => rg 0 ?_
    refine k6 _ _ ?_
    refine .ret ?_
    have e9 := sj h
    subst e9
    refine hQ _ _ _ (aj aD (fun g => by simp) ?_)
    conv => whnf
    try rfl
   refine .q fun K7 k7 => rg 0 ?_
   refine k7 _ _ ?_
   refine .aC rfl h (fun hc3 h => ?_) (fun hc3 h => ?_)
   ·refine .q fun K8 k8 => rg 0 ?_
    refine k8 _ _ ?_
    refine .ret ?_
    have e9 := sj h
    subst e9
    refine hQ _ _ _ (aj aD (fun g => by simp) ?_)
    conv => whnf
    try rfl
   refine .q fun K9 k9 => ?_
   obtain ⟨s3, hj3, h⟩ := ob h
   have hR3 : ∀ t9 h9, Le 0 t9 h9 (u16 (u8 (u4 (u2 (.unk :: (.bool s3 :: (u4 (u2 [])))))))) [] → K9 t9 h9 := by
    intro t9 h9 hw
    refine k9 _ _ (AW.le hw ?_)
    clear hw
    refine .aC rfl h (fun hc4 h => ?_) (fun hc4 h => ?_)
    ·refine .q fun K10 k10 => rg 0 ?_
     refine k10 _ _ ?_
     refine .ret ?_
     have e9 := sj h
     subst e9
     refine hQ _ _ _ (aj aD (fun g => by simp) ?_)
     conv => whnf
     try rfl
    refine .skip ?_
    refine k2 _ _ ?_
    refine .q fun K11 k11 => rg 0 ?_
    refine k11 _ _ ?_
    refine .ret ?_
    have e9 := sj h
    subst e9
    refine hQ _ _ _ (aj aD (fun g => by simp) ?_)
    conv => whnf
    try rfl
   refine rg 0 ?_
   refine aH hj3 (fun hc5 hj3 => ?_) (fun hc5 hj3 => ?_)
   ·cases hj3
    exact hR3 _ _ (li (.u16 (.u8 (.u4 (.u2 (.u (.s (.u4 (.u2 .n)))))))))
   cases hj3
   exact hR3 _ _ (li (.u16 (.u8 (.u4 (.u2 (.u (.s (.u4 (.u2 .n)))))))))
  refine .q fun K12 k12 => rg 0 ?_
  refine k12 _ _ ?_
  refine .aC rfl hj2 (fun hc6 hj2 => ?_) (fun hc6 hj2 => ?_)
  ·refine .skip ?_
   cases hj2
   exact hR2 _ _ (li (.s (.u8 (.u4 (.u2 (.s (.u16 (.u4 (.u2 .n)))))))))
  refine .q fun K13 k13 => rg 0 ?_
  refine k13 _ _ ?_
  refine .aC rfl hj2 (fun hc7 hj2 => ?_) (fun hc7 hj2 => ?_)
  ·refine .skip ?_
   cases hj2
   exact hR2 _ _ (li (.s (.u8 (.u4 (.u2 (.s (.u16 (.u4 (.u2 .n)))))))))
  refine .q fun K14 k14 => ?_
  obtain ⟨s4, hj4, hj2⟩ := ob hj2
  have hR4 : ∀ t9 h9, Le 0 t9 h9 (.i p0 :: (u8 (u4 (u2 (.bool s4 :: (u16 (u4 (u2 [])))))))) [] → K14 t9 h9 := by
   intro t9 h9 hw
   refine k14 _ _ (AW.le hw ?_)
   clear hw
   refine .aC rfl hj2 (fun hc8 hj2 => ?_) (fun hc8 hj2 => ?_)
   ·refine .skip ?_
    cases hj2
    exact hR2 _ _ (li (.s (.u8 (.u4 (.u2 (.s (.u16 (.u4 (.u2 .n)))))))))
   refine rg 0 ?_
   cases hj2
   exact hR2 _ _ (li (.s (.u8 (.u4 (.u2 (.s (.u16 (.u4 (.u2 .n)))))))))
  refine rg 0 ?_
  refine aH hj4 (fun hc9 hj4 => ?_) (fun hc9 hj4 => ?_)
  ·cases hj4
   exact hR4 _ _ (li (.s (.u8 (.u4 (.u2 (.s (.u16 (.u4 (.u2 .n)))))))))
  cases hj4
  exact hR4 _ _ (li (.s (.u8 (.u4 (.u2 (.s (.u16 (.u4 (.u2 .n)))))))))
 refine .q fun K15 k15 => rg 0 ?_
 refine k15 _ _ ?_
 refine .aC rfl hj1 (fun hc10 hj1 => ?_) (fun hc10 hj1 => ?_)
 ·refine .skip ?_
  cases hj1
  exact hR1 _ _ (li (.s (.u2 (.u (.s (.u16 (.u16 (.u .n))))))))
 refine .q fun K16 k16 => rg 0 ?_
 refine k16 _ _ ?_
 refine .aC rfl hj1 (fun hc11 hj1 => ?_) (fun hc11 hj1 => ?_)
 ·refine .skip ?_
  cases hj1
  exact hR1 _ _ (li (.s (.u2 (.u (.s (.u16 (.u16 (.u .n))))))))
 refine .q fun K17 k17 => rg 0 ?_
 refine k17 _ _ ?_
 refine .aC rfl hj1 (fun hc12 hj1 => ?_) (fun hc12 hj1 => ?_)
 ·refine .skip ?_
  cases hj1
  exact hR1 _ _ (li (.s (.u2 (.u (.s (.u16 (.u16 (.u .n))))))))
 refine .q fun K18 k18 => rg 0 ?_
 refine k18 _ _ ?_
 refine .aC rfl hj1 (fun hc13 hj1 => ?_) (fun hc13 hj1 => ?_)
 ·refine .skip ?_
  cases hj1
  exact hR1 _ _ (li (.s (.u2 (.u (.s (.u16 (.u16 (.u .n))))))))
 refine rg 0 ?_
 cases hj1
 exact hR1 _ _ (li (.s (.u2 (.u (.s (.u16 (.u16 (.u .n))))))))
theorem adk (n : Nat) (p0 : Str) (r : Bool) (h : Gw n p0 = some r) : ak Tryz.prog 255 [.str p0] [] (.bool r) [] := by
 unfold Gw at h
 refine ah true Tryz.func255 rfl (nt Tryz.ntmps255 rfl) fun Q hQ t ht => ?_
 conv at ht => whnf
 subst ht
 refine .q fun K1 k1 => rg 0 ?_
 refine k1 _ _ ?_
 refine .q fun K2 k2 => rg 0 ?_
 obtain ⟨x1, hx1, h⟩ := ob h
 refine au (CP _ _ _ _ hx1) ah1 (.cons (.same _) (.cons (.same _) .nil)) (fun g => rfl) (fun g => rfl) ?_
 obtain ⟨x2, hx2, h⟩ := ob h
 refine au (nL _ _ _ hx2) GH (.cons (.same _) .nil) (fun g => rfl) (fun g => rfl) ?_
 refine k2 _ _ ?_
 refine .ret ?_
 have e9 := sj h
 subst e9
 refine hQ _ _ _ (aj aD (fun g => rfl) ?_)
 conv => whnf
theorem abU (n : Nat) (p0 : Int) (r : Bool) (h : yU n p0 = some r) : ak Tryz.prog 256 [.i p0] [] (.bool r) [] := by
 unfold yU at h
 refine ah true Tryz.func256 rfl (nt Tryz.ntmps256 rfl) fun Q hQ t ht => ?_
 conv at ht => whnf
 subst ht
 refine .q fun K1 k1 => rg 0 ?_
 refine k1 _ _ ?_
 refine .q fun K2 k2 => ?_
 obtain ⟨s1, hj1, h⟩ := ob h
 have hR1 : ∀ t9 h9, Le 0 t9 h9 (u2 (.bool s1 :: (u8 (u4 (u2 []))))) [] → K2 t9 h9 := by
  intro t9 h9 hw
  refine k2 _ _ (AW.le hw ?_)
  clear hw
  refine .ret ?_
  have e9 := sj h
  subst e9
  refine hQ _ _ _ (aj aD (fun g => rfl) ?_)
  conv => whnf
 refine rg 0 ?_
 refine aH hj1 (fun hc1 hj1 => ?_) (fun hc1 hj1 => ?_)
 ·cases hj1
  exact hR1 _ _ (li (.u2 (.s (.u8 (.u4 (.u2 .n))))))
 refine aH hj1 (fun hc2 hj1 => ?_) (fun hc2 hj1 => ?_)
 ·cases hj1
  exact hR1 _ _ (li (.u2 (.s (.u8 (.u4 (.u2 .n))))))
 refine aH hj1 (fun hc3 hj1 => ?_) (fun hc3 hj1 => ?_)
 ·cases hj1
  exact hR1 _ _ (li (.u2 (.s (.u8 (.u4 (.u2 .n))))))
 cases hj1
 exact hR1 _ _ (li (.u2 (.s (.u8 (.u4 (.u2 .n))))))
theorem Wj (n : Nat) (p0 : Ty) (r : Bool) (h : yB n p0 = some r) : ak Tryz.prog 257 [aV p0] [] (.bool r) [] := by
 unfold yB at h
 refine ah true Tryz.func257 rfl (nt Tryz.ntmps257 rfl) fun Q hQ t ht => ?_
 conv at ht => whnf
 subst ht
 refine .q fun K1 k1 => rg 1 ?_
 refine k1 _ _ ?_
 refine .q fun K2 k2 => ?_
 obtain ⟨s1, hj1, h⟩ := ob h
 have hR1 : ∀ t9 h9, Le 0 t9 h9 (u2 (.bool s1 :: (u8 (u4 (u2 []))))) [] → K2 t9 h9 := by
  intro t9 h9 hw
  refine k2 _ _ (AW.le hw ?_)
  clear hw
  refine .ret ?_
  have e9 := sj h
  subst e9
  refine hQ _ _ _ (aj aD (fun g => rfl) ?_)
  conv => whnf
 refine rg 0 ?_
 refine aH hj1 (fun hc1 hj1 => ?_) (fun hc1 hj1 => ?_)
 ·refine aH hj1 (fun hc2 hj1 => ?_) (fun hc2 hj1 => ?_)
  ·refine aW (l := p0.kids) (f := aK) ?_
   cases hj1
   exact hR1 _ _ (wk [] (.u2 (.c rfl (.u8 (.u4 (.u2 .nil))))) .nil rfl)
  cases hj1
  exact hR1 _ _ (wk [] (.u2 (.c rfl (.u8 (.u4 (.u2 .nil))))) .nil rfl)
 cases hj1
 exact hR1 _ _ (wk [] (.u2 (.c rfl (.u8 (.u4 (.u2 .nil))))) .nil rfl)
theorem acn (n : Nat) (p0 : Tm) (r : Bool) (h : BG n p0 = some r) : ak Tryz.prog 195 [bg p0] [] (.bool r) [] := by
 unfold BG at h
 refine ah true Tryz.func195 rfl (nt Tryz.ntmps195 rfl) fun Q hQ t ht => ?_
 conv at ht => whnf
 subst ht
 refine .q fun K1 k1 => rg 1 ?_
 refine k1 _ _ ?_
 refine .q fun K2 k2 => rg 0 ?_
 obtain ⟨x1, hx1, h⟩ := ob h
 refine au (afn _ _ _ hx1) apb (.cons (.same _) .nil) (fun g => rfl) (fun g => by simp) ?_
 refine k2 _ _ ?_
 refine .q fun K3 k3 => ?_
 obtain ⟨o1, hj1, h⟩ := ob h
 have hR1 : ∀ s1 : Bool, o1 = .nx s1 → ∀ t9 h9, Le 0 t9 h9 (.unk :: (.ptr 0 0 :: (u2 (.bool s1 :: (u64 (u16 (u4 []))))))) [.box [.i p0.op, .str p0.name, .i p0.n, .i p0.ty.kind, .str p0.ty.name, aI p0.ty.kids, bn p0.kids]] → K3 t9 h9 := by
  intro s1 ho
  subst ho
  dsimp only [LR.el] at h
  intro t9 h9 hw
  refine k3 _ _ (AW.le hw ?_)
  clear hw
  refine .q fun K4 k4 => ?_
  obtain ⟨s2, hj2, h⟩ := ob h
  have hR2 : ∀ t9 h9, Le 0 t9 h9 (.unk :: (.ptr 0 0 :: (u2 (.bool s2 :: (u64 (u16 (u4 []))))))) [.box [.i p0.op, .str p0.name, .i p0.n, .i p0.ty.kind, .str p0.ty.name, aI p0.ty.kids, bn p0.kids]] → K4 t9 h9 := by
   intro t9 h9 hw
   refine k4 _ _ (AW.le hw ?_)
   clear hw
   refine .q fun K5 k5 => .q fun K6 k6 => rg 0 ?_
   refine k6 _ _ ?_
   refine .aC rfl h (fun hc1 h => ?_) (fun hc1 h => ?_)
   ·refine .q fun K7 k7 => ?_
    obtain ⟨s3, hj3, h⟩ := ob h
    have hR3 : ∀ t9 h9, Le 0 t9 h9 (u2 (.bool s3 :: (u64 (u16 (u4 (u2 [])))))) [] → K7 t9 h9 := by
     intro t9 h9 hw
     refine k7 _ _ (AW.le hw ?_)
     clear hw
     refine .ret ?_
     have e9 := sj h
     subst e9
     refine hQ _ _ _ (aj aD (fun g => rfl) ?_)
     conv => whnf
    refine rg 0 ?_
    refine aH hj3 (fun hc2 hj3 => ?_) (fun hc2 hj3 => ?_)
    ·refine aH hj3 (fun hc3 hj3 => ?_) (fun hc3 hj3 => ?_)
     ·obtain ⟨x2, hx2, hj3⟩ := ob hj3
      refine au (oW _ _ _ hx2) KV (.cons (.same _) .nil) (fun g => by simp) (fun g => rfl) ?_
      cases hj3
      exact hR3 _ _ (wk [] (.u2 (.c rfl (.u64 (.u16 (.u4 (.u2 .nil)))))) .nil rfl)
     cases hj3
     exact hR3 _ _ (wk [] (.u2 (.c rfl (.u64 (.u16 (.u4 (.u2 .nil)))))) .nil rfl)
    cases hj3
    exact hR3 _ _ (wk [] (.u2 (.c rfl (.u64 (.u16 (.u4 (.u2 .nil)))))) .nil rfl)
   refine .skip ?_
   refine k5 _ _ ?_
   refine .q fun K8 k8 => ?_
   obtain ⟨s4, hj4, h⟩ := ob h
   have hR4 : ∀ t9 h9, Le 0 t9 h9 (u2 (.bool s4 :: (u64 (u16 (u4 (u2 [])))))) [] → K8 t9 h9 := by
    intro t9 h9 hw
    refine k8 _ _ (AW.le hw ?_)
    clear hw
    refine .ret ?_
    have e9 := sj h
    subst e9
    refine hQ _ _ _ (aj aD (fun g => rfl) ?_)
    conv => whnf
   refine rg 0 ?_
   refine aH hj4 (fun hc4 hj4 => ?_) (fun hc4 hj4 => ?_)
   ·obtain ⟨x3, hx3, hj4⟩ := ob hj4
    refine au (Wj _ _ _ hx3) aoo (.cons (.same _) .nil) (fun g => by simp) (fun g => rfl) ?_
    cases hj4
    exact hR4 _ _ (wk [] (.u2 (.c rfl (.u64 (.u16 (.u4 (.u2 .nil)))))) .nil rfl)
   cases hj4
   exact hR4 _ _ (wk [] (.u2 (.c rfl (.u64 (.u16 (.u4 (.u2 .nil)))))) .nil rfl)
  refine .q fun K9 k9 => rg 0 ?_
  refine k9 _ _ ?_
  refine .aC rfl hj2 (fun hc5 hj2 => ?_) (fun hc5 hj2 => ?_)
  ·refine rg 0 ?_
   refine aH hj2 (fun hc6 hj2 => ?_) (fun hc6 hj2 => ?_)
   ·refine aH hj2 (fun hc7 hj2 => ?_) (fun hc7 hj2 => ?_)
    ·cases hj2
     exact hR2 _ _ (li (.u (.s (.u2 (.s (.u16 (.u16 (.u16 (.u16 (.u16 (.u4 .n)))))))))))
    cases hj2
    exact hR2 _ _ (li (.u (.s (.u2 (.s (.u16 (.u16 (.u16 (.u16 (.u16 (.u4 .n)))))))))))
   cases hj2
   exact hR2 _ _ (li (.u (.s (.u2 (.s (.u16 (.u16 (.u16 (.u16 (.u16 (.u4 .n)))))))))))
  refine rg 0 ?_
  refine aH hj2 (fun hc8 hj2 => ?_) (fun hc8 hj2 => ?_)
  ·cases hj2
   exact hR2 _ _ (li (.u (.s (.u2 (.s (.u16 (.u16 (.u16 (.u16 (.u16 (.u4 .n)))))))))))
  cases hj2
  exact hR2 _ _ (li (.u (.s (.u2 (.s (.u16 (.u16 (.u16 (.u16 (.u16 (.u4 .n)))))))))))
 refine .block ?_
 refine .q fun K10 k10 => ?_
 obtain ⟨s5, hj5, hj1⟩ := ob hj1
 have hR5 : ∀ t9 h9, Le 0 t9 h9 (.unk :: (.ptr 0 0 :: (u8 (u4 (.bool s5 :: (u64 (u8 (u2 [])))))))) [.box [.i p0.op, .str p0.name, .i p0.n, .i p0.ty.kind, .str p0.ty.name, aI p0.ty.kids, bn p0.kids]] → K10 t9 h9 := by
  intro t9 h9 hw
  refine k10 _ _ (AW.le hw ?_)
  clear hw
  refine .aC rfl hj1 (fun hc9 hj1 => ?_) (fun hc9 hj1 => ?_)
  ·refine .q fun K11 k11 => rg 0 ?_
   refine k11 _ _ ?_
   refine .ret ?_
   have e9 := sj hj1
   subst e9
   dsimp only [LR.el] at h
   have e9 := sj h
   subst e9
   refine hQ _ _ _ (aj aD (fun g => rfl) ?_)
   conv => whnf
  refine .q fun K12 k12 => rg 0 ?_
  refine k12 _ _ ?_
  refine .aC rfl hj1 (fun hc10 hj1 => ?_) (fun hc10 hj1 => ?_)
  ·refine rg 0 ?_
   obtain ⟨x4, hx4, hj1⟩ := ob hj1
   refine au (adk _ _ _ hx4) apC (.cons (.same _) .nil) (fun g => rfl) (fun g => rfl) ?_
   exact hR1 _ (sj hj1).symm _ _ (li (.u (.s (.u2 (.s (.u16 (.u16 (.u16 (.u16 (.u16 (.u4 .n)))))))))))
  refine .q fun K13 k13 => rg 0 ?_
  obtain ⟨x5, hx5, hj1⟩ := ob hj1
  refine au (abU _ _ _ hx5) aoF (.cons (.same _) .nil) (fun g => rfl) (fun g => rfl) ?_
  refine k13 _ _ ?_
  refine .aC rfl hj1 (fun hc11 hj1 => ?_) (fun hc11 hj1 => ?_)
  ·refine rg 0 ?_
   obtain ⟨x6, hx6, hj1⟩ := ob hj1
   refine au (nL _ _ _ hx6) GH (.cons (.same _) .nil) (fun g => rfl) (fun g => rfl) ?_
   exact hR1 _ (sj hj1).symm _ _ (li (.u (.s (.u2 (.s (.u16 (.u16 (.u16 (.u16 (.u16 (.u4 .n)))))))))))
  refine rg 0 ?_
  exact hR1 _ (sj hj1).symm _ _ (li (.u (.s (.u2 (.s (.u16 (.u16 (.u16 (.u16 (.u16 (.u4 .n)))))))))))
 refine .q fun K14 k14 => rg 0 ?_
 refine k14 _ _ ?_
 refine .aC rfl hj5 (fun hc12 hj5 => ?_) (fun hc12 hj5 => ?_)
 ·refine .skip ?_
  cases hj5
  exact hR5 _ _ (li (.u (.s (.u8 (.u4 (.s (.u16 (.u16 (.u16 (.u16 (.u8 (.u2 .n))))))))))))
 refine .q fun K15 k15 => ?_
 obtain ⟨s6, hj6, hj5⟩ := ob hj5
 have hR6 : ∀ t9 h9, Le 0 t9 h9 (.unk :: (.ptr 0 0 :: (.unk :: (.i x1.1 :: (u8 (u2 (.bool s6 :: (u64 (u8 (u2 [])))))))))) [.box [.i p0.op, .str p0.name, .i p0.n, .i p0.ty.kind, .str p0.ty.name, aI p0.ty.kids, bn p0.kids]] → K15 t9 h9 := by
  intro t9 h9 hw
  refine k15 _ _ (AW.le hw ?_)
  clear hw
  refine .aC rfl hj5 (fun hc13 hj5 => ?_) (fun hc13 hj5 => ?_)
  ·refine .skip ?_
   cases hj5
   exact hR5 _ _ (li (.u (.s (.u8 (.u4 (.s (.u16 (.u16 (.u16 (.u16 (.u8 (.u2 .n))))))))))))
  refine rg 0 ?_
  refine aH hj5 (fun hc14 hj5 => ?_) (fun hc14 hj5 => ?_)
  ·refine aW (l := p0.kids) (f := aS) ?_
   cases hj5
   exact hR5 _ _ (li (.u (.s (.u8 (.u4 (.s (.u16 (.u16 (.u16 (.u16 (.u8 (.u2 .n))))))))))))
  cases hj5
  exact hR5 _ _ (li (.u (.s (.u8 (.u4 (.s (.u16 (.u16 (.u16 (.u16 (.u8 (.u2 .n))))))))))))
 refine rg 0 ?_
 refine aH hj6 (fun hc15 hj6 => ?_) (fun hc15 hj6 => ?_)
 ·refine aW (l := p0.kids) (f := aS) ?_
  cases hj6
  exact hR6 _ _ (li (.u (.s (.u (.s (.u8 (.u2 (.s (.u16 (.u16 (.u16 (.u16 (.u8 (.u2 .n))))))))))))))
 cases hj6
 exact hR6 _ _ (li (.u (.s (.u (.s (.u8 (.u2 (.s (.u16 (.u16 (.u16 (.u16 (.u8 (.u2 .n))))))))))))))
end Abs
end Go.Proofs.YtiiaccpcoclklaaGreat
