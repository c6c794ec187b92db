/-
  Contracts of Go functions (printed). Conditions: none.
-/
import Derived.KernelRfl
import Derived.Test.YtiiaccpcoclklaaGreatCT17oxd0c755
set_option linter.unusedSimpArgs false
set_option linter.unusedVariables false
namespace Go.Proofs.YtiiaccpcoclklaaGreat
namespace Abs
open Go Go.Proofs
set_option maxRecDepth 100000
set_option maxHeartbeats 40000000
theorem t18x0 {p q : Prop} (f : p → q) (h : p := by exact wk [some 0] (.u (.c rfl (.u4 (.c rfl (.u64 (.u16 (.u2 (.c rfl (.u16 .nil))))))))) (.b rfl (.e aA (.e aG .nil)) .nil) rfl) : q := f h
theorem ET (n : Nat) (p0 : Env) (p1 : Ty) (r : Bool) (h : xH n p0 p1 = some r) : ak Tryz.prog 101 [dz p0, aV p1] [] (.bool r) [] := by
 unfold xH at h
 refine ah true Tryz.func101 rfl (nt Tryz.ntmps101 rfl) fun Q hQ t ht => ?_
 conv at ht => whnf
 subst ht
 refine .q fun K1 k1 => rg 2 ?_
 refine k1 _ _ ?_
 refine .q fun K2 k2 => rg 0 ?_
 obtain ⟨x1, hx1, h⟩ := ob h
 refine cp (KI _ _ _ hx1) ab5 (.cons (.same _) .nil) ?_
 refine k2 _ _ ?_
 refine .q fun K3 k3 => .q fun K4 k4 => rg 0 ?_
 refine k4 _ _ ?_
 refine .block ?_
 obtain ⟨o1, ho1, h⟩ := ob h
 have hR1 : ∀ s2 : Unit, o1 = .nx s2 → ∀ t9 h9, Le 0 t9 h9 (u16 (u4 (u2 []))) [] → K3 t9 h9 := by
  intro s2 ho
  subst ho
  dsimp only [LR.el] at h
  intro t9 h9 hw
  refine k3 _ _ (AW.le hw ?_)
  refine .q fun K5 k5 => rg 0 ?_
  refine k5 _ _ ?_
  refine .ret ?_
  have e9 := sj h
  subst e9
  refine hQ _ _ _ (aj aD (fun g => rfl) ?_)
  conv => whnf
 refine .loopS (Bl n p0 x1) (fun (s1 : Int) => (u2 (.ptr 0 0 :: (u2 (bQ x1 :: (.i s1 :: (u8 (u4 (u2 (.unk :: [])))))))))) (fun (s1 : Int) => [.box [bT p0.carriers, bU p0.names]]) ho1 (fun _ => rfl) (wk [some 0] (.u2 (.c rfl (.u2 (.e aZ (.c rfl (.u8 (.u4 (.u2 (.u .nil))))))))) (.b rfl (.e aA (.e aG .nil)) .nil) rfl) ?_
 intro n1 s1 hs1 KL1 hKL1
 unfold Bl at hs1
 refine .q fun K6 k6 => .q fun K7 k7 => rg 0 ?_
 refine aW (l := x1) (f := encS) ?_
 refine k7 _ _ ?_
 refine .aC rfl hs1 (fun hc1 hs1 => ?_) (fun hc1 hs1 => ?_)
 ·refine .skip ?_
  refine k6 _ _ ?_
  refine .q fun K8 k8 => ?_
  refine .block ?_
  refine .q fun K9 k9 => rg 0 ?_
  obtain ⟨x2, hx2, hs1⟩ := ob hs1
  refine aJ (l := x1) (f := encS) (cs := [.str (x2)]) hx2 (rfl) rfl ?_
  obtain ⟨x3, hx3, hs1⟩ := ob hs1
  refine au (AX _ _ _ _ hx3) ab0 (.cons (.same _) (.cons (.same _) .nil)) (fun g => by simp) (fun g => rfl) ?_
  refine ⟨rfl, ?_⟩
  refine k9 _ _ ?_
  refine .aC rfl hs1 (fun hc2 hs1 => ?_) (fun hc2 hs1 => ?_)
  ·refine .q fun K10 k10 => rg 0 ?_
   refine k10 _ _ ?_
   refine .ret ?_
   have e9 := sj hs1
   subst e9
   dsimp only [LR.el] at h
   have e9 := sj h
   subst e9
   refine hQ _ _ _ (aj aD (fun g => rfl) ?_)
   conv => whnf
  refine .skip ?_
  refine k8 _ _ ?_
  refine .know 6 0 fun hv1 => ?_
  refine .know 5 0 fun hv2 => ?_
  refine rg 0 ?_
  refine ⟨(s1 + 1), by have := dn hv1; have := eP hv2; have h8 := of_decide_eq_true hc1; exact bG (by omega) (by omega), ?_⟩
  exact hKL1 _ _ _ hs1 (li (.u2 (.s (.u2 (.s (.s (.u8 (.u4 (.u2 (.u .n))))))))))
 refine .exit ?_
 exact hR1 _ (sj hs1).symm _ _ (wk [] (.u16 (.u4 (.u2 .nil))) .nil rfl)
theorem wM (n : Nat) (p0 : Env) (r : List Str) (h : qw n p0 = some r) : ak Tryz.prog 62 [dz p0] [] (.slice (List.map encS r) (.tip 0 1)) [.tip (List.length r * 1)] := by
 unfold qw at h
 refine ah false Tryz.func62 rfl (nt Tryz.ntmps62 rfl) fun Q hQ t ht => ?_
 conv at ht => whnf
 subst ht
 refine .q fun K1 k1 => rg 1 ?_
 refine k1 _ _ ?_
 refine .q fun K2 k2 => rg 0 ?_
 refine k2 _ _ ?_
 refine .q fun K3 k3 => .q fun K4 k4 => rg 0 ?_
 refine k4 _ _ ?_
 refine .block ?_
 obtain ⟨o1, ho1, h⟩ := ob h
 have hR1 : ∀ s2 : List Str, o1 = .nx s2 → ∀ t9 h9, Le 0 t9 h9 (.unk :: (.ptr 0 0 :: (.unk :: (.slice (List.map encS s2) (.tip 1 1) :: (u32 (u16 (u2 (.unk :: [])))))))) [.box [bT p0.carriers, bU p0.names], .tip (List.length s2 * 1)] → K3 t9 h9 := by
  intro s2 ho
  subst ho
  dsimp only [LR.el] at h
  intro t9 h9 hw
  refine k3 _ _ (AW.le hw ?_)
  refine .q fun K5 k5 => .q fun K6 k6 => rg 0 ?_
  refine k6 _ _ ?_
  refine .block ?_
  obtain ⟨o2, ho2, h⟩ := ob h
  have hR2 : ∀ s4 : List Str, o2 = .nx s4 → ∀ t9 h9, Le 0 t9 h9 (.unk :: (.ptr 0 0 :: (.unk :: (.slice (List.map encS s4) (.tip 1 1) :: (u32 (u16 (u2 (.unk :: [])))))))) [.box [bT p0.carriers, bU p0.names], .tip (List.length s4 * 1)] → K5 t9 h9 := by
   intro s4 ho
   subst ho
   dsimp only [LR.el] at h
   intro t9 h9 hw
   refine k5 _ _ (AW.le hw ?_)
   refine .q fun K7 k7 => .q fun K8 k8 => rg 0 ?_
   refine k8 _ _ ?_
   refine .block ?_
   obtain ⟨o3, ho3, h⟩ := ob h
   have hR3 : ∀ s6 : List Str, o3 = .nx s6 → ∀ t9 h9, Le 0 t9 h9 (u2 (.unk :: (.slice (List.map encS s6) (.tip 0 1) :: (u32 (u16 (u2 (.unk :: []))))))) [.tip (List.length s6 * 1)] → K7 t9 h9 := by
    intro s6 ho
    subst ho
    dsimp only [LR.el] at h
    intro t9 h9 hw
    refine k7 _ _ (AW.le hw ?_)
    refine .q fun K9 k9 => rg 0 ?_
    refine k9 _ _ ?_
    refine .ret ?_
    have e9 := sj h
    subst e9
    refine hQ _ _ _ (dI (u2 (.slice (List.map encS s6) (.tip 0 1) :: (u32 (u16 (u4 []))))) [.tip (List.length s6 * 1)] (wk [some 0] (.u2 (.cons (.bF (aZ _ _) rfl) (.u32 (.u16 (.u4 .nil))))) (.t rfl .nil) rfl) (bP aD [0] rfl (.cons (rfl) .nil) ?_))
    conv => whnf
    first | rfl | (simp; done) | (simp; rfl) | (simp; constructor <;> rfl)
   refine .loopS (wm n p0) (fun (s5 : (List Str) × Int) => (.unk :: (.ptr 0 0 :: (.unk :: (.slice (List.map encS s5.1) (.tip 1 1) :: (u2 (.i s5.2 :: (u32 (u16 []))))))))) (fun (s5 : (List Str) × Int) => [.box [bT p0.carriers, bU p0.names], .tip (List.length s5.1 * 1)]) ho3 (fun _ => rfl) (li (.u (.s (.u (.s (.u2 (.s (.u16 (.u16 (.u16 .n)))))))))) ?_
   intro n3 s5 hs3 KL3 hKL3
   unfold wm at hs3
   refine .q fun K10 k10 => .q fun K11 k11 => rg 0 ?_
   refine aW (l := p0.names) (f := aO) ?_
   refine k11 _ _ ?_
   refine .aC rfl hs3 (fun hc1 hs3 => ?_) (fun hc1 hs3 => ?_)
   ·refine .skip ?_
    refine k10 _ _ ?_
    refine .q fun K12 k12 => ?_
    refine .block ?_
    refine rg 2 ?_
    obtain ⟨x1, hx1, hs3⟩ := ob hs3
    refine aJ (l := p0.names) (f := aO) (cs := [.str ((x1).name), .i (((x1).ty).kind), .str (((x1).ty).name), aI (((x1).ty).kids)]) hx1 (rfl) rfl ?_
    refine ⟨List.map encS ([x1.name]), rfl, ?_⟩
    obtain ⟨x2, hx2, hs3⟩ := ob hs3
    refine dW (l := s5.1) (ys := [x1.name]) (f := encS) hx2 wU rfl rfl rfl ?_
    refine k12 _ _ ?_
    refine .know 6 0 fun hv1 => ?_
    refine .know 40 0 fun hv2 => ?_
    refine rg 0 ?_
    refine ⟨(s5.2 + 1), by have := dn hv1; have := eP hv2; have h8 := of_decide_eq_true hc1; exact bG (by omega) (by omega), ?_⟩
    exact hKL3 _ _ _ hs3 (wk [some 0, some 3] (.u (.c rfl (.u (.cons (.bF (aZ _ _) rfl) (.u2 (.c rfl (.u32 (.u16 .nil)))))))) (.b rfl (.e aA (.e aG .nil)) (.t rfl .nil)) rfl)
   refine .exit ?_
   exact hR3 _ (sj hs3).symm _ _ (wk [some 1] (.u2 (.u (.cons (.bF (aZ _ _) rfl) (.u32 (.u16 (.u2 (.u .nil))))))) (.t rfl .nil) rfl)
  refine .loopS (wK n p0) (fun (s3 : (List Str) × Int) => (.unk :: (.ptr 0 0 :: (.unk :: (.slice (List.map encS s3.1) (.tip 1 1) :: (.unk :: (.i s3.2 :: (u32 (u16 (.unk :: [])))))))))) (fun (s3 : (List Str) × Int) => [.box [bT p0.carriers, bU p0.names], .tip (List.length s3.1 * 1)]) ho2 (fun _ => rfl) (li (.u (.s (.u (.s (.u (.s (.u16 (.u16 (.u16 (.u .n))))))))))) ?_
  intro n2 s3 hs2 KL2 hKL2
  unfold wK at hs2
  refine .q fun K13 k13 => .q fun K14 k14 => rg 0 ?_
  refine aW (l := p0.carriers) (f := aL) ?_
  refine k14 _ _ ?_
  refine .aC rfl hs2 (fun hc2 hs2 => ?_) (fun hc2 hs2 => ?_)
  ·refine .skip ?_
   refine k13 _ _ ?_
   refine .q fun K15 k15 => ?_
   refine .block ?_
   refine rg 1 ?_
   obtain ⟨x3, hx3, hs2⟩ := ob hs2
   refine aJ (l := p0.carriers) (f := aL) (cs := [.str ((x3).name), bQ ((x3).elems)]) hx3 (rfl) rfl ?_
   obtain ⟨x4, hx4, hs2⟩ := ob hs2
   refine dW (l := s3.1) (ys := x3.elems) (f := encS) hx4 wU rfl rfl rfl ?_
   refine k15 _ _ ?_
   refine .know 5 0 fun hv3 => ?_
   refine .know 25 0 fun hv4 => ?_
   refine rg 0 ?_
   refine ⟨(s3.2 + 1), by have := dn hv3; have := eP hv4; have h8 := of_decide_eq_true hc2; exact bG (by omega) (by omega), ?_⟩
   exact hKL2 _ _ _ hs2 (wk [some 0, some 2] (.u (.c rfl (.u (.cons (.bF (aZ _ _) rfl) (.u (.c rfl (.u32 (.u16 (.u .nil))))))))) (.b rfl (.e aA (.e aG .nil)) (.t rfl .nil)) rfl)
  refine .exit ?_
  exact hR2 _ (sj hs2).symm _ _ (li (.u (.s (.u (.s (.u16 (.u16 (.u16 (.u2 (.u .n))))))))))
 refine .loopS (wP n p0) (fun (s1 : (List Str) × Int) => (.unk :: (.ptr 0 0 :: (.unk :: (.slice (List.map encS s1.1) (.tip 1 1) :: (.i s1.2 :: (u32 (u16 (u2 []))))))))) (fun (s1 : (List Str) × Int) => [.box [bT p0.carriers, bU p0.names], .tip (List.length s1.1 * 1)]) ho1 (fun _ => rfl) (wk [some 0, none] (.u (.c rfl (.u (.cons (.nils _ _) (.c rfl (.u32 (.u16 (.u2 .nil)))))))) (.b rfl (.e aA (.e aG .nil)) (.w rfl .nil)) rfl) ?_
 intro n1 s1 hs1 KL1 hKL1
 unfold wP at hs1
 refine .q fun K16 k16 => .q fun K17 k17 => rg 0 ?_
 refine aW (l := p0.carriers) (f := aL) ?_
 refine k17 _ _ ?_
 refine .aC rfl hs1 (fun hc3 hs1 => ?_) (fun hc3 hs1 => ?_)
 ·refine .skip ?_
  refine k16 _ _ ?_
  refine .q fun K18 k18 => ?_
  refine .block ?_
  refine rg 2 ?_
  obtain ⟨x5, hx5, hs1⟩ := ob hs1
  refine aJ (l := p0.carriers) (f := aL) (cs := [.str ((x5).name), bQ ((x5).elems)]) hx5 (rfl) rfl ?_
  refine ⟨List.map encS ([x5.name]), rfl, ?_⟩
  obtain ⟨x6, hx6, hs1⟩ := ob hs1
  refine dW (l := s1.1) (ys := [x5.name]) (f := encS) hx6 wU rfl rfl rfl ?_
  refine k18 _ _ ?_
  refine .know 4 0 fun hv5 => ?_
  refine .know 9 0 fun hv6 => ?_
  refine rg 0 ?_
  refine ⟨(s1.2 + 1), by have := dn hv5; have := eP hv6; have h8 := of_decide_eq_true hc3; exact bG (by omega) (by omega), ?_⟩
  exact hKL1 _ _ _ hs1 (wk [some 0, some 3] (.u (.c rfl (.u (.cons (.bF (aZ _ _) rfl) (.c rfl (.u32 (.u16 (.u2 .nil)))))))) (.b rfl (.e aA (.e aG .nil)) (.t rfl .nil)) rfl)
 refine .exit ?_
 exact hR1 _ (sj hs1).symm _ _ (li (.u (.s (.u (.s (.u16 (.u16 (.u16 (.u2 (.u .n))))))))))
theorem nP (n : Nat) (p0 : Env) (r : Bool) (h : lS n p0 = some r) : ak Tryz.prog 56 [dz p0] [] (.bool r) [] := by
 unfold lS at h
 refine ah true Tryz.func56 rfl (nt Tryz.ntmps56 rfl) fun Q hQ t ht => ?_
 conv at ht => whnf
 subst ht
 refine .q fun K1 k1 => rg 1 ?_
 refine k1 _ _ ?_
 refine .q fun K2 k2 => .q fun K3 k3 => ?_
 obtain ⟨s1, hj1, h⟩ := ob h
 have hR1 : ∀ t9 h9, Le 0 t9 h9 (.unk :: (.ptr 0 0 :: (u16 (.unk :: (.bool s1 :: (u64 (u16 (u4 (u2 []))))))))) [.box [bT p0.carriers, bU p0.names]] → K3 t9 h9 := by
  intro t9 h9 hw
  refine k3 _ _ (AW.le hw ?_)
  clear hw
  refine .aC rfl h (fun hc1 h => ?_) (fun hc1 h => ?_)
  ·refine .q fun K4 k4 => rg 0 ?_
   refine k4 _ _ ?_
   refine .ret ?_
   have e9 := sj h
   subst e9
   refine hQ _ _ _ (aj aD (fun g => rfl) ?_)
   conv => whnf
  refine .skip ?_
  refine k2 _ _ ?_
  refine .q fun K5 k5 => .q fun K6 k6 => rg 0 ?_
  refine k6 _ _ ?_
  refine .block ?_
  obtain ⟨o1, ho1, h⟩ := ob h
  have hR2 : ∀ s3 : Unit, o1 = .nx s3 → ∀ t9 h9, Le 0 t9 h9 (.unk :: (.ptr 0 0 :: (u64 (u32 (u8 []))))) [.box [bT p0.carriers, bU p0.names]] → K5 t9 h9 := by
   intro s3 ho
   subst ho
   dsimp only [LR.el] at h
   intro t9 h9 hw
   refine k5 _ _ (AW.le hw ?_)
   refine .q fun K7 k7 => .q fun K8 k8 => rg 0 ?_
   refine k8 _ _ ?_
   refine .block ?_
   obtain ⟨o2, ho2, h⟩ := ob h
   have hR3 : ∀ s5 : Unit, o2 = .nx s5 → ∀ t9 h9, Le 0 t9 h9 (.unk :: (.ptr 0 0 :: (u64 (u32 (u8 []))))) [.box [bT p0.carriers, bU p0.names]] → K7 t9 h9 := by
    intro s5 ho
    subst ho
    dsimp only [LR.el] at h
    intro t9 h9 hw
    refine k7 _ _ (AW.le hw ?_)
    refine .q fun K9 k9 => rg 1 ?_
    obtain ⟨x1, hx1, h⟩ := ob h
    refine bM [] [1] [dz p0] [dz p0] (wM _ _ _ hx1) Pb rfl .nil (by simp; try decide) (.cons (.same _) .nil) (rn := .slice (List.map encS x1) (.tip 1 1)) (by simp; try decide) (Hn := [.tip (List.length x1 * 1)]) ((bI (rfl) rfl)) ?_
    refine k9 _ _ ?_
    refine .q fun K10 k10 => .q fun K11 k11 => rg 0 ?_
    refine k11 _ _ ?_
    refine .block ?_
    obtain ⟨o3, ho3, h⟩ := ob h
    have hR4 : ∀ s7 : Unit, o3 = .nx s7 → ∀ t9 h9, Le 0 t9 h9 (u64 (u32 (u8 (u2 [])))) [] → K10 t9 h9 := by
     intro s7 ho
     subst ho
     dsimp only [LR.el] at h
     intro t9 h9 hw
     refine k10 _ _ (AW.le hw ?_)
     refine .q fun K12 k12 => rg 0 ?_
     refine k12 _ _ ?_
     refine .ret ?_
     have e9 := sj h
     subst e9
     refine hQ _ _ _ (aj aD (fun g => rfl) ?_)
     conv => whnf
    refine .loopS (tJ n x1) (fun (s6 : Int) => (u8 (.slice (List.map encS x1) (.tip 0 1) :: (.i s6 :: (u64 (u32 [])))))) (fun (s6 : Int) => [.tip (List.length x1 * 1)]) ho3 (fun _ => rfl) (wk [some 1] (.u8 (.cons (.bF (aZ _ _) rfl) (.c rfl (.u64 (.u32 .nil))))) (.t rfl .nil) rfl) ?_
    intro n3 s6 hs3 KL3 hKL3
    unfold tJ at hs3
    refine .q fun K13 k13 => .q fun K14 k14 => rg 0 ?_
    refine aW (l := x1) (f := encS) ?_
    refine k14 _ _ ?_
    refine .aC rfl hs3 (fun hc2 hs3 => ?_) (fun hc2 hs3 => ?_)
    ·refine .skip ?_
     refine k13 _ _ ?_
     refine .q fun K15 k15 => ?_
     refine .block ?_
     refine .q fun K16 k16 => rg 0 ?_
     obtain ⟨x2, hx2, hs3⟩ := ob hs3
     refine aJ (l := x1) (f := encS) (cs := [.str (x2)]) hx2 (rfl) rfl ?_
     obtain ⟨x3, hx3, hs3⟩ := ob hs3
     refine ai9 (l := x1) (f := encS) hx3 (.none _) (.int _ _ _) wU ?_
     obtain ⟨x4, hx4, hs3⟩ := ob hs3
     refine au (uf _ _ _ _ hx4) zW (.cons (.same _) (.cons (.same _) .nil)) (fun g => by simp) (fun g => rfl) ?_
     refine ⟨rfl, ?_⟩
     refine k16 _ _ ?_
     refine .aC rfl hs3 (fun hc3 hs3 => ?_) (fun hc3 hs3 => ?_)
     ·refine .q fun K17 k17 => rg 0 ?_
      refine k17 _ _ ?_
      refine .ret ?_
      have e9 := sj hs3
      subst e9
      dsimp only [LR.el] at h
      have e9 := sj h
      subst e9
      refine hQ _ _ _ (aj aD (fun g => rfl) ?_)
      conv => whnf
     refine .skip ?_
     refine k15 _ _ ?_
     refine .know 9 0 fun hv1 => ?_
     refine .know 8 0 fun hv2 => ?_
     refine rg 0 ?_
     refine ⟨(s6 + 1), by have := dn hv1; have := eP hv2; have h8 := of_decide_eq_true hc2; exact bG (by omega) (by omega), ?_⟩
     exact hKL3 _ _ _ hs3 (li (.u8 (.s (.s (.u16 (.u16 (.u16 (.u16 (.u16 (.u16 .n))))))))))
    refine .exit ?_
    exact hR4 _ (sj hs3).symm _ _ (wk [] (.u64 (.u32 (.u8 (.u2 .nil)))) .nil rfl)
   refine .loopS (wz n p0) (fun (s4 : Int) => (.unk :: (.ptr 0 0 :: (u4 (.i s4 :: (u64 (u32 (u2 (.unk :: []))))))))) (fun (s4 : Int) => [.box [bT p0.carriers, bU p0.names]]) ho2 (fun _ => rfl) (li (.u (.s (.u4 (.s (.u16 (.u16 (.u16 (.u16 (.u16 (.u16 (.u2 (.u .n))))))))))))) ?_
   intro n2 s4 hs2 KL2 hKL2
   unfold wz at hs2
   refine .q fun K18 k18 => .q fun K19 k19 => rg 0 ?_
   refine aW (l := p0.names) (f := aO) ?_
   refine k19 _ _ ?_
   refine .aC rfl hs2 (fun hc4 hs2 => ?_) (fun hc4 hs2 => ?_)
   ·refine .skip ?_
    refine k18 _ _ ?_
    refine .q fun K20 k20 => ?_
    refine .block ?_
    refine .q fun K21 k21 => rg 1 ?_
    obtain ⟨x5, hx5, hs2⟩ := ob hs2
    refine aJ (l := p0.names) (f := aO) (cs := [.str ((x5).name), .i (((x5).ty).kind), .str (((x5).ty).name), aI (((x5).ty).kids)]) hx5 (rfl) rfl ?_
    refine k21 _ _ ?_
    refine .q fun K22 k22 => ?_
    obtain ⟨s8, hj2, hs2⟩ := ob hs2
    have hR5 : ∀ t9 h9, Le 0 t9 h9 (.unk :: (.ptr 0 0 :: (u4 (.i s4 :: (u64 (u16 (u2 (.bool s8 :: (u16 []))))))))) [.box [bT p0.carriers, bU p0.names]] → K22 t9 h9 := by
     intro t9 h9 hw
     refine k22 _ _ (AW.le hw ?_)
     clear hw
     refine .aC rfl hs2 (fun hc5 hs2 => ?_) (fun hc5 hs2 => ?_)
     ·refine .q fun K23 k23 => rg 0 ?_
      refine k23 _ _ ?_
      refine .ret ?_
      have e9 := sj hs2
      subst e9
      dsimp only [LR.el] at h
      have e9 := sj h
      subst e9
      refine hQ _ _ _ (aj aD (fun g => rfl) ?_)
      conv => whnf
     refine .skip ?_
     refine k20 _ _ ?_
     refine .know 6 0 fun hv3 => ?_
     refine .GD 0 1 (fun hv4 => ?_) ⟨1, 0, rfl⟩
     refine rg 0 ?_
     refine ⟨(s4 + 1), by have := dn hv3; have := eP hv4; have h8 := of_decide_eq_true hc4; exact bG (by omega) (by omega), ?_⟩
     exact hKL2 _ _ _ hs2 (li (.u (.s (.u4 (.s (.u16 (.u16 (.u16 (.u16 (.u16 (.u16 (.u2 (.u .n)))))))))))))
    refine rg 0 ?_
    obtain ⟨x6, hx6, hj2⟩ := ob hj2
    refine au (EU _ _ _ hx6) Rt (.cons (.same _) .nil) (fun g => rfl) (fun g => rfl) ?_
    refine aH hj2 (fun hc6 hj2 => ?_) (fun hc6 hj2 => ?_)
    ·cases hj2
     exact t18x0 (hR5 _ _)
    obtain ⟨x7, hx7, hj2⟩ := ob hj2
    refine au (jD _ _ _ hx7) BH (.cons (.same _) .nil) (fun g => by simp) (fun g => rfl) ?_
    refine aH hj2 (fun hc7 hj2 => ?_) (fun hc7 hj2 => ?_)
    ·cases hj2
     exact t18x0 (hR5 _ _)
    obtain ⟨x8, hx8, hj2⟩ := ob hj2
    refine au (DT _ _ _ hx8) Xv (.cons (.same _) .nil) (fun g => by simp) (fun g => rfl) ?_
    refine aH hj2 (fun hc8 hj2 => ?_) (fun hc8 hj2 => ?_)
    ·cases hj2
     exact t18x0 (hR5 _ _)
    obtain ⟨x9, hx9, hj2⟩ := ob hj2
    refine au (ET _ _ _ _ hx9) Rw (.cons (.same _) (.cons (.same _) .nil)) (fun g => by simp) (fun g => rfl) ?_
    cases hj2
    exact t18x0 (hR5 _ _)
   refine .exit ?_
   exact hR3 _ (sj hs2).symm _ _ (li (.u (.s (.u16 (.u16 (.u16 (.u16 (.u16 (.u16 (.u8 .n))))))))))
  refine .loopS (wh n p0) (fun (s2 : Int) => (.unk :: (.ptr 0 0 :: (.unk :: (.i s2 :: (u64 (u32 (u4 (u2 []))))))))) (fun (s2 : Int) => [.box [bT p0.carriers, bU p0.names]]) ho1 (fun _ => rfl) (li (.u (.s (.u (.s (.u16 (.u16 (.u16 (.u16 (.u16 (.u16 (.u4 (.u2 .n))))))))))))) ?_
  intro n1 s2 hs1 KL1 hKL1
  unfold wh at hs1
  refine .q fun K24 k24 => .q fun K25 k25 => rg 0 ?_
  refine aW (l := p0.carriers) (f := aL) ?_
  refine k25 _ _ ?_
  refine .aC rfl hs1 (fun hc9 hs1 => ?_) (fun hc9 hs1 => ?_)
  ·refine .skip ?_
   refine k24 _ _ ?_
   refine .q fun K26 k26 => ?_
   refine .block ?_
   refine .q fun K27 k27 => rg 1 ?_
   obtain ⟨x10, hx10, hs1⟩ := ob hs1
   refine aJ (l := p0.carriers) (f := aL) (cs := [.str ((x10).name), bQ ((x10).elems)]) hx10 (rfl) rfl ?_
   refine k27 _ _ ?_
   refine .q fun K28 k28 => .q fun K29 k29 => ?_
   obtain ⟨s9, hj3, hs1⟩ := ob hs1
   have hR6 : ∀ t9 h9, Le 0 t9 h9 (.unk :: (.ptr 0 0 :: (.unk :: (.i s2 :: (.ptr 1 0 :: (u32 (u4 (.bool s9 :: (u64 []))))))))) [.box [bT p0.carriers, bU p0.names], .box [.str x10.name, bQ x10.elems]] → K29 t9 h9 := by
    intro t9 h9 hw
    refine k29 _ _ (AW.le hw ?_)
    clear hw
    refine .aC rfl hs1 (fun hc10 hs1 => ?_) (fun hc10 hs1 => ?_)
    ·refine .q fun K30 k30 => rg 0 ?_
     refine k30 _ _ ?_
     refine .ret ?_
     have e9 := sj hs1
     subst e9
     dsimp only [LR.el] at h
     have e9 := sj h
     subst e9
     refine hQ _ _ _ (aj aD (fun g => rfl) ?_)
     conv => whnf
    refine .skip ?_
    refine k28 _ _ ?_
    refine .q fun K31 k31 => rg 0 ?_
    refine k31 _ _ ?_
    refine .block ?_
    obtain ⟨o4, ho4, hs1⟩ := ob hs1
    have hR7 : ∀ s11 : Unit, o4 = .nx s11 → ∀ t9 h9, Le 0 t9 h9 (.unk :: (.ptr 0 0 :: (.unk :: (.i s2 :: (u64 (u32 (u4 (u2 [])))))))) [.box [bT p0.carriers, bU p0.names]] → K26 t9 h9 := by
     intro s11 ho
     subst ho
     dsimp only [LR.el] at hs1
     intro t9 h9 hw
     refine k26 _ _ (AW.le hw ?_)
     refine .know 3 0 fun hv5 => ?_
     refine .GD 0 0 (fun hv6 => ?_) ⟨1, 0, rfl⟩
     refine rg 0 ?_
     refine ⟨(s2 + 1), by have := dn hv5; have := eP hv6; have h8 := of_decide_eq_true hc9; exact bG (by omega) (by omega), ?_⟩
     exact hKL1 _ _ _ hs1 (li (.u (.s (.u (.s (.u16 (.u16 (.u16 (.u16 (.u16 (.u16 (.u4 (.u2 .n)))))))))))))
    refine .loopS (pX n x10) (fun (s10 : Int) => (.unk :: (.ptr 0 0 :: (.unk :: (.i s2 :: (.ptr 1 0 :: (.i s10 :: (u64 (u32 (u4 [])))))))))) (fun (s10 : Int) => [.box [bT p0.carriers, bU p0.names], .box [.str x10.name, bQ x10.elems]]) ho4 (fun _ => rfl) (li (.u (.s (.u (.s (.s (.s (.u16 (.u16 (.u16 (.u16 (.u16 (.u16 (.u4 .n)))))))))))))) ?_
    intro n4 s10 hs4 KL4 hKL4
    unfold pX at hs4
    refine .q fun K32 k32 => .q fun K33 k33 => rg 0 ?_
    refine aW (l := x10.elems) (f := encS) ?_
    refine k33 _ _ ?_
    refine .aC rfl hs4 (fun hc11 hs4 => ?_) (fun hc11 hs4 => ?_)
    ·refine .skip ?_
     refine k32 _ _ ?_
     refine .q fun K34 k34 => ?_
     refine .block ?_
     refine .q fun K35 k35 => rg 0 ?_
     obtain ⟨x11, hx11, hs4⟩ := ob hs4
     refine aJ (l := x10.elems) (f := encS) (cs := [.str (x11)]) hx11 (rfl) rfl ?_
     obtain ⟨x12, hx12, hs4⟩ := ob hs4
     refine au (nD _ _ _ hx12) H7 (.cons (.same _) .nil) (fun g => rfl) (fun g => rfl) ?_
     refine k35 _ _ ?_
     refine .aC rfl hs4 (fun hc12 hs4 => ?_) (fun hc12 hs4 => ?_)
     ·refine .q fun K36 k36 => rg 0 ?_
      refine k36 _ _ ?_
      refine .ret ?_
      have e9 := sj hs4
      subst e9
      dsimp only [LR.el] at hs1
      have e9 := sj hs1
      subst e9
      dsimp only [LR.el] at h
      have e9 := sj h
      subst e9
      refine hQ _ _ _ (aj aD (fun g => rfl) ?_)
      conv => whnf
     refine .skip ?_
     refine k34 _ _ ?_
     refine .know 5 0 fun hv7 => ?_
     refine .know 44 0 fun hv8 => ?_
     refine rg 0 ?_
     refine ⟨(s10 + 1), by have := dn hv7; have := eP hv8; have h8 := of_decide_eq_true hc11; exact bG (by omega) (by omega), ?_⟩
     exact hKL4 _ _ _ hs4 (li (.u (.s (.u (.s (.s (.s (.u16 (.u16 (.u16 (.u16 (.u16 (.u16 (.u4 .n))))))))))))))
    refine .exit ?_
    exact hR7 _ (sj hs4).symm _ _ (wk [some 0] (.u (.c rfl (.u (.c rfl (.u64 (.u32 (.u4 (.u2 .nil)))))))) (.b rfl (.e aA (.e aG .nil)) .nil) rfl)
   refine rg 0 ?_
   obtain ⟨x13, hx13, hj3⟩ := ob hj3
   refine au (nD _ _ _ hx13) H7 (.cons (.same _) .nil) (fun g => rfl) (fun g => rfl) ?_
   refine aH hj3 (fun hc13 hj3 => ?_) (fun hc13 hj3 => ?_)
   ·cases hj3
    exact hR6 _ _ (li (.u (.s (.u (.s (.s (.u16 (.u16 (.u4 (.s (.u16 (.u16 (.u16 (.u16 .n))))))))))))))
   refine aW (l := x10.elems) (f := encS) ?_
   cases hj3
   exact hR6 _ _ (li (.u (.s (.u (.s (.s (.u16 (.u16 (.u4 (.s (.u16 (.u16 (.u16 (.u16 .n))))))))))))))
  refine .exit ?_
  exact hR2 _ (sj hs1).symm _ _ (li (.u (.s (.u16 (.u16 (.u16 (.u16 (.u16 (.u16 (.u8 .n))))))))))
 refine rg 0 ?_
 refine aW (l := p0.carriers) (f := aL) ?_
 refine aH hj1 (fun hc14 hj1 => ?_) (fun hc14 hj1 => ?_)
 ·cases hj1
  exact hR1 _ _ (li (.u (.s (.u16 (.u (.s (.u16 (.u16 (.u16 (.u16 (.u16 (.u4 (.u2 .n)))))))))))))
 refine aW (l := p0.names) (f := aO) ?_
 cases hj1
 exact hR1 _ _ (li (.u (.s (.u16 (.u (.s (.u16 (.u16 (.u16 (.u16 (.u16 (.u4 (.u2 .n)))))))))))))
theorem KS (n : Nat) (p0 : Env) (p1 : Str) (r : Int) (h : sU n p0 p1 = some r) : ak Tryz.prog 129 [dz p0, .str p1] [] (.i r) [] := by
 unfold sU at h
 refine ah true Tryz.func129 rfl (nt Tryz.ntmps129 rfl) fun Q hQ t ht => ?_
 conv at ht => whnf
 subst ht
 refine .q fun K1 k1 => rg 1 ?_
 refine k1 _ _ ?_
 refine .q fun K2 k2 => .q fun K3 k3 => rg 0 ?_
 refine k3 _ _ ?_
 refine .block ?_
 obtain ⟨o1, ho1, h⟩ := ob h
 have hR1 : ∀ s2 : Unit, o1 = .nx s2 → ∀ t9 h9, Le 0 t9 h9 (u16 (u4 (u2 []))) [] → K2 t9 h9 := by
  intro s2 ho
  subst ho
  dsimp only [LR.el] at h
  intro t9 h9 hw
  refine k2 _ _ (AW.le hw ?_)
  refine .q fun K4 k4 => rg 0 ?_
  refine k4 _ _ ?_
  refine .ret ?_
  have e9 := sj h
  subst e9
  refine hQ _ _ _ (aj aD (fun g => rfl) ?_)
  conv => whnf
 refine .loopS (wX n p0 p1) (fun (s1 : Int) => (.unk :: (.str p1 :: (.ptr 0 0 :: (u2 (.i s1 :: (u16 []))))))) (fun (s1 : Int) => [.box [bT p0.carriers, bU p0.names]]) ho1 (fun _ => rfl) (li (.u (.s (.s (.u2 (.s (.u16 .n))))))) ?_
 intro n1 s1 hs1 KL1 hKL1
 unfold wX at hs1
 refine .q fun K5 k5 => .q fun K6 k6 => rg 0 ?_
 refine aW (l := p0.names) (f := aO) ?_
 refine k6 _ _ ?_
 refine .aC rfl hs1 (fun hc1 hs1 => ?_) (fun hc1 hs1 => ?_)
 ·refine .skip ?_
  refine k5 _ _ ?_
  refine .q fun K7 k7 => ?_
  refine .block ?_
  refine .q fun K8 k8 => rg 0 ?_
  obtain ⟨x1, hx1, hs1⟩ := ob hs1
  refine aJ (l := p0.names) (f := aO) (cs := [.str ((x1).name), .i (((x1).ty).kind), .str (((x1).ty).name), aI (((x1).ty).kids)]) hx1 (rfl) rfl ?_
  refine k8 _ _ ?_
  refine .aC rfl hs1 (fun hc2 hs1 => ?_) (fun hc2 hs1 => ?_)
  ·refine .q fun K9 k9 => rg 0 ?_
   refine k9 _ _ ?_
   refine .ret ?_
   have e9 := sj hs1
   subst e9
   dsimp only [LR.el] at h
   have e9 := sj h
   subst e9
   refine hQ _ _ _ (aj aD (fun g => rfl) ?_)
   conv => whnf
  refine .skip ?_
  refine k7 _ _ ?_
  refine .know 5 0 fun hv1 => ?_
  refine .know 8 0 fun hv2 => ?_
  refine rg 0 ?_
  refine ⟨(s1 + 1), by have := dn hv1; have := eP hv2; have h8 := of_decide_eq_true hc1; exact bG (by omega) (by omega), ?_⟩
  exact hKL1 _ _ _ hs1 (li (.u (.s (.s (.u2 (.s (.u16 .n)))))))
 refine .exit ?_
 exact hR1 _ (sj hs1).symm _ _ (wk [] (.u16 (.u4 (.u2 .nil))) .nil rfl)
theorem ND (n : Nat) (p0 : Str) (r : Ty) (h : Y3 n p0 = some r) : ak Tryz.prog 63 [.str p0] [] (aV r) [] := by
 unfold Y3 at h
 refine ah true Tryz.func63 rfl (nt Tryz.ntmps63 rfl) fun Q hQ t ht => ?_
 conv at ht => whnf
 subst ht
 refine .q fun K1 k1 => rg 1 ?_
 refine k1 _ _ ?_
 refine .q fun K2 k2 => rg 0 ?_
 refine k2 _ _ ?_
 refine .ret ?_
 have e9 := sj h
 subst e9
 refine hQ _ _ _ (aj aD (fun g => by simp) ?_)
 conv => whnf
 try rfl
theorem iG (n : Nat) (p0 : Ty) (r : Ty) (h : alW n p0 = some r) : ak Tryz.prog 48 [aV p0] [] (aV r) [] := by
 unfold alW at h
 refine ah true Tryz.func48 rfl (nt Tryz.ntmps48 rfl) fun Q hQ t ht => ?_
 conv at ht => whnf
 subst ht
 refine .q fun K1 k1 => rg 2 ?_
 refine k1 _ _ ?_
 refine .q fun K2 k2 => rg 1 ?_
 refine ⟨List.map aK ([p0]), by simp only [List.map_cons, List.map_nil, aR]; rfl, ?_⟩
 refine k2 _ _ ?_
 refine .ret ?_
 have e9 := sj h
 subst e9
 refine hQ _ _ _ (aj aD (fun g => by simp) ?_)
 conv => whnf
 try rfl
end Abs
end Go.Proofs.YtiiaccpcoclklaaGreat
