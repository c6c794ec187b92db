/-
  Contracts of Go functions (printed). Conditions: none.
-/
import Derived.KernelRfl
import Derived.Test.YtiiaccpcoclklaaGreatCT20x0984ed
import Derived.Test.YtiiaccpcoclklaaGreatCT18oxf8186b
set_option linter.unusedSimpArgs false
set_option linter.unusedVariables false
namespace Go.Proofs.YtiiaccpcoclklaaGreat
namespace Abs
open Go Go.Proofs
set_option maxRecDepth 100000
set_option maxHeartbeats 40000000
theorem Sq (n : Nat) (p0 : Env) (p1 : Str) (r : Int × Int) (h : tu n p0 p1 = some r) : ak Tryz.prog 186 [dz p0, .str p1] [] (.bq [.i r.1, .i r.2]) [] := by
 unfold tu at h
 refine ah true Tryz.func186 rfl (nt Tryz.ntmps186 rfl) fun Q hQ t ht => ?_
 conv at ht => whnf
 subst ht
 refine .q fun K1 k1 => rg 1 ?_
 refine k1 _ _ ?_
 refine .q fun K2 k2 => .q fun K3 k3 => rg 0 ?_
 refine k3 _ _ ?_
 refine .block ?_
 obtain ⟨o1, ho1, h⟩ := ob h
 have hR1 : ∀ s2 : Unit, o1 = .nx s2 → ∀ t9 h9, Le 0 t9 h9 (u32 (u4 (u2 (.unk :: [])))) [] → K2 t9 h9 := by
  intro s2 ho
  subst ho
  dsimp only [LR.el] at h
  intro t9 h9 hw
  refine k2 _ _ (AW.le hw ?_)
  refine .q fun K4 k4 => rg 0 ?_
  refine k4 _ _ ?_
  refine .ret ?_
  have e9 := sj h
  subst e9
  refine hQ _ _ _ (aj aD (fun g => by simp) ?_)
  conv => whnf
  try rfl
 refine .loopS (su n p0 p1) (fun (s1 : Int) => (.unk :: (.str p1 :: (.ptr 0 0 :: (u2 (.unk :: (.i s1 :: (u32 [])))))))) (fun (s1 : Int) => [.box [bT p0.carriers, bU p0.names]]) ho1 (fun _ => rfl) (li (.u (.s (.s (.u2 (.u (.s (.u16 (.u16 .n))))))))) ?_
 intro n1 s1 hs1 KL1 hKL1
 unfold su at hs1
 refine .q fun K5 k5 => .q fun K6 k6 => rg 0 ?_
 refine aW (l := p0.carriers) (f := aL) ?_
 refine k6 _ _ ?_
 refine .aC rfl hs1 (fun hc1 hs1 => ?_) (fun hc1 hs1 => ?_)
 ·refine .skip ?_
  refine k5 _ _ ?_
  refine .q fun K7 k7 => ?_
  refine .block ?_
  refine .q fun K8 k8 => rg 0 ?_
  refine k8 _ _ ?_
  refine .block ?_
  obtain ⟨o2, ho2, hs1⟩ := ob hs1
  have hR2 : ∀ s4 : Unit, o2 = .nx s4 → ∀ t9 h9, Le 0 t9 h9 (.unk :: (.str p1 :: (.ptr 0 0 :: (u2 (.unk :: (.i s1 :: (u32 []))))))) [.box [bT p0.carriers, bU p0.names]] → K7 t9 h9 := by
   intro s4 ho
   subst ho
   dsimp only [LR.el] at hs1
   intro t9 h9 hw
   refine k7 _ _ (AW.le hw ?_)
   refine .know 6 0 fun hv1 => ?_
   refine .GD 0 0 (fun hv2 => ?_) ⟨2, 0, rfl⟩
   refine rg 0 ?_
   refine ⟨(s1 + 1), by have := dn hv1; have := eP hv2; have h8 := of_decide_eq_true hc1; exact bG (by omega) (by omega), ?_⟩
   exact hKL1 _ _ _ hs1 (li (.u (.s (.s (.u2 (.u (.s (.u16 (.u16 .n)))))))))
  refine .loopS (kL n p0 p1 s1) (fun (s3 : Int) => (.unk :: (.str p1 :: (.ptr 0 0 :: (u2 (.unk :: (.i s1 :: (.i s3 :: (u16 (u8 (u4 (u2 (.unk :: []))))))))))))) (fun (s3 : Int) => [.box [bT p0.carriers, bU p0.names]]) ho2 (fun _ => rfl) (li (.u (.s (.s (.u2 (.u (.s (.s (.u16 (.u8 (.u4 (.u2 (.u .n))))))))))))) ?_
  intro n2 s3 hs2 KL2 hKL2
  unfold kL at hs2
  refine .q fun K9 k9 => .q fun K10 k10 => rg 0 ?_
  obtain ⟨x1, hx1, hs2⟩ := ob hs2
  refine aJ (l := p0.carriers) (f := aL) (cs := [.str ((x1).name), bQ ((x1).elems)]) hx1 (rfl) rfl ?_
  refine aW (l := x1.elems) (f := encS) ?_
  refine k10 _ _ ?_
  refine .aC rfl hs2 (fun hc2 hs2 => ?_) (fun hc2 hs2 => ?_)
  ·refine .skip ?_
   refine k9 _ _ ?_
   refine .q fun K11 k11 => ?_
   refine .block ?_
   refine .q fun K12 k12 => rg 0 ?_
   obtain ⟨x2, hx2, hs2⟩ := ob hs2
   refine aJ (l := p0.carriers) (f := aL) (cs := [.str ((x2).name), bQ ((x2).elems)]) hx2 (rfl) rfl ?_
   obtain ⟨x3, hx3, hs2⟩ := ob hs2
   refine aJ (l := x2.elems) (f := encS) (cs := [.str (x3)]) hx3 (rfl) rfl ?_
   refine k12 _ _ ?_
   refine .aC rfl hs2 (fun hc3 hs2 => ?_) (fun hc3 hs2 => ?_)
   ·refine .q fun K13 k13 => rg 0 ?_
    refine k13 _ _ ?_
    refine .ret ?_
    have e9 := sj hs2
    subst e9
    dsimp only [LR.el] at hs1
    have e9 := sj hs1
    subst e9
    dsimp only [LR.el] at h
    have e9 := sj h
    subst e9
    refine hQ _ _ _ (aj aD (fun g => by simp) ?_)
    conv => whnf
    try rfl
   refine .skip ?_
   refine k11 _ _ ?_
   refine .know 7 0 fun hv3 => ?_
   refine .know 19 1 fun hv4 => ?_
   refine rg 0 ?_
   refine ⟨(s3 + 1), by have := dn hv3; have := eP hv4; have h8 := of_decide_eq_true hc2; exact bG (by omega) (by omega), ?_⟩
   exact hKL2 _ _ _ hs2 (li (.u (.s (.s (.u2 (.u (.s (.s (.u16 (.u8 (.u4 (.u2 (.u .n)))))))))))))
  refine .exit ?_
  exact hR2 _ (sj hs2).symm _ _ (li (.u (.s (.s (.u2 (.u (.s (.u16 (.u16 .n)))))))))
 refine .exit ?_
 exact hR1 _ (sj hs1).symm _ _ (wk [] (.u32 (.u4 (.u2 (.u .nil)))) .nil rfl)
theorem NP (n : Nat) (p0 : Env) (p1 : List Decl) (p2 : Str) (r : Ty × Bool) (h : uV n p0 p1 p2 = some r) : ak Tryz.prog 111 [dz p0, bU p1, .str p2] [] (.bq [aV r.1, .bool r.2]) [] := by
 unfold uV at h
 refine ah true Tryz.func111 rfl (nt Tryz.ntmps111 rfl) fun Q hQ t ht => ?_
 conv at ht => whnf
 subst ht
 refine .q fun K1 k1 => rg 2 ?_
 refine k1 _ _ ?_
 refine .q fun K2 k2 => .q fun K3 k3 => ?_
 refine .know 1 0 fun hv1 => ?_
 refine rg 0 ?_
 refine aW (l := p1) (f := aO) ?_
 refine ⟨((p1.length : Int) - 1), by have := eP hv1; exact bG (by omega) (by omega), ?_⟩
 refine k3 _ _ ?_
 refine .block ?_
 obtain ⟨o1, ho1, h⟩ := ob h
 have hR1 : ∀ s2 : Unit, o1 = .nx s2 → ∀ t9 h9, Le 0 t9 h9 (u2 (.str p2 :: (.ptr 0 0 :: (u2 (.ptr 1 0 :: (u32 (u16 (u8 (u2 []))))))))) [.box [bT p0.carriers, bU p0.names], .box [.i 0, .str ([] : Str), .slice (List.map aK ([] : List Ty)) .nils]] → K2 t9 h9 := by
  intro s2 ho
  subst ho
  dsimp only [LR.el] at h
  intro t9 h9 hw
  refine k2 _ _ (AW.le hw ?_)
  refine .q fun K4 k4 => .q fun K5 k5 => rg 0 ?_
  obtain ⟨x1, hx1, h⟩ := ob h
  refine au (KS _ _ _ _ hx1) aiz (.cons (.same _) (.cons (.same _) .nil)) (fun g => by simp) (fun g => rfl) ?_
  refine k5 _ _ ?_
  refine .q fun K6 k6 => rg 0 ?_
  refine k6 _ _ ?_
  refine .aC rfl h (fun hc1 h => ?_) (fun hc1 h => ?_)
  ·refine .q fun K7 k7 => rg 0 ?_
   obtain ⟨x2, hx2, h⟩ := ob h
   refine aJ (l := p0.names) (f := aO) (cs := [.str ((x2).name), .i (((x2).ty).kind), .str (((x2).ty).name), aI (((x2).ty).kids)]) hx2 (rfl) rfl ?_
   refine k7 _ _ ?_
   refine .ret ?_
   have e9 := sj h
   subst e9
   refine hQ _ _ _ (aj aD (fun g => by simp) ?_)
   conv => whnf
   try rfl
  refine .skip ?_
  refine k4 _ _ ?_
  refine .q fun K8 k8 => .q fun K9 k9 => rg 0 ?_
  obtain ⟨x3, hx3, h⟩ := ob h
  refine au (AX _ _ _ _ hx3) ab0 (.cons (.same _) (.cons (.same _) .nil)) (fun g => by simp) (fun g => rfl) ?_
  refine k9 _ _ ?_
  refine .aC rfl h (fun hc2 h => ?_) (fun hc2 h => ?_)
  ·refine .q fun K10 k10 => rg 0 ?_
   refine au (ND 0 p2 _ rfl) akb (.cons (.same _) .nil) (fun g => rfl) (fun g => by simp) ?_
   refine cp (iG 0 (Ty.mk 3 p2 ([])) _ rfl) nS (.cons (.same _) .nil) ?_
   refine k10 _ _ ?_
   refine .ret ?_
   have e9 := sj h
   subst e9
   refine hQ _ _ _ (aj aD (fun g => by simp) ?_)
   conv => whnf
   try rfl
  refine .skip ?_
  refine k8 _ _ ?_
  refine .q fun K11 k11 => .q fun K12 k12 => rg 0 ?_
  obtain ⟨x4, hx4, h⟩ := ob h
  refine cp (Sq _ _ _ _ hx4) ape (.cons (.same _) (.cons (.same _) .nil)) ?_
  refine k12 _ _ ?_
  refine .q fun K13 k13 => rg 0 ?_
  refine k13 _ _ ?_
  refine .aC rfl h (fun hc3 h => ?_) (fun hc3 h => ?_)
  ·refine .q fun K14 k14 => rg 0 ?_
   obtain ⟨x5, hx5, h⟩ := ob h
   refine aJ (l := p0.carriers) (f := aL) (cs := [.str ((x5).name), bQ ((x5).elems)]) hx5 (rfl) rfl ?_
   refine au (ND 0 x5.name _ rfl) akb (.cons (.same _) .nil) (fun g => rfl) (fun g => by simp) ?_
   refine k14 _ _ ?_
   refine .ret ?_
   have e9 := sj h
   subst e9
   refine hQ _ _ _ (aj aD (fun g => by simp) ?_)
   conv => whnf
   try rfl
  refine .skip ?_
  refine k11 _ _ ?_
  refine .q fun K15 k15 => rg 0 ?_
  refine k15 _ _ ?_
  refine .ret ?_
  have e9 := sj h
  subst e9
  refine hQ _ _ _ (aj aD (fun g => by simp) ?_)
  conv => whnf
  try rfl
 refine .loopS (rE n p1 p2) (fun (s1 : Int) => (.unk :: (bU p1 :: (.str p2 :: (.ptr 0 0 :: (u2 (.ptr 1 0 :: (.unk :: (.i s1 :: (u32 (u16 (u8 [])))))))))))) (fun (s1 : Int) => [.box [bT p0.carriers, bU p0.names], .box [.i 0, .str ([] : Str), .slice (List.map aK ([] : List Ty)) .nils]]) ho1 (fun _ => rfl) (li (.u (.s (.s (.s (.u2 (.s (.u (.s (.u16 (.u16 (.u16 (.u8 .n))))))))))))) ?_
 intro n1 s1 hs1 KL1 hKL1
 unfold rE at hs1
 refine .q fun K16 k16 => .q fun K17 k17 => rg 0 ?_
 refine k17 _ _ ?_
 refine .aC rfl hs1 (fun hc4 hs1 => ?_) (fun hc4 hs1 => ?_)
 ·refine .skip ?_
  refine k16 _ _ ?_
  refine .q fun K18 k18 => ?_
  refine .block ?_
  refine .q fun K19 k19 => rg 0 ?_
  obtain ⟨x6, hx6, hs1⟩ := ob hs1
  refine aJ (l := p1) (f := aO) (cs := [.str ((x6).name), .i (((x6).ty).kind), .str (((x6).ty).name), aI (((x6).ty).kids)]) hx6 (rfl) rfl ?_
  refine k19 _ _ ?_
  refine .aC rfl hs1 (fun hc5 hs1 => ?_) (fun hc5 hs1 => ?_)
  ·refine .q fun K20 k20 => rg 0 ?_
   obtain ⟨x7, hx7, hs1⟩ := ob hs1
   refine aJ (l := p1) (f := aO) (cs := [.str ((x7).name), .i (((x7).ty).kind), .str (((x7).ty).name), aI (((x7).ty).kids)]) hx7 (rfl) rfl ?_
   refine k20 _ _ ?_
   refine .ret ?_
   have e9 := sj hs1
   subst e9
   dsimp only [LR.el] at h
   have e9 := sj h
   subst e9
   refine hQ _ _ _ (aj aD (fun g => by simp) ?_)
   conv => whnf
   try rfl
  refine .skip ?_
  refine k18 _ _ ?_
  refine .know 8 0 fun hv2 => ?_
  refine rg 0 ?_
  refine ⟨(s1 - 1), by have := dn hv2; have h8 := of_decide_eq_true hc4; exact bG (by omega) (by omega), ?_⟩
  exact hKL1 _ _ _ hs1 (li (.u (.s (.s (.s (.u2 (.s (.u (.s (.u16 (.u16 (.u16 (.u8 .n)))))))))))))
 refine .exit ?_
 exact hR1 _ (sj hs1).symm _ _ (li (.u2 (.s (.s (.u2 (.s (.u16 (.u16 (.u16 (.u8 (.u2 .n)))))))))))
theorem nZ (n : Nat) (p0 : Ty) (r : Bool) (h : gD n p0 = some r) : ak Tryz.prog 139 [aV p0] [] (.bool r) [] := by
 unfold gD at h
 refine ah true Tryz.func139 rfl (nt Tryz.ntmps139 rfl) fun Q hQ t ht => ?_
 conv at ht => whnf
 subst ht
 refine .q fun K1 k1 => rg 1 ?_
 refine k1 _ _ ?_
 refine .q fun K2 k2 => ?_
 obtain ⟨s1, hj1, h⟩ := ob h
 have hR1 : ∀ t9 h9, Le 0 t9 h9 (u2 (.bool s1 :: (u8 (u2 (.unk :: []))))) [] → K2 t9 h9 := by
  intro t9 h9 hw
  refine k2 _ _ (AW.le hw ?_)
  clear hw
  refine .ret ?_
  have e9 := sj h
  subst e9
  refine hQ _ _ _ (aj aD (fun g => rfl) ?_)
  conv => whnf
 refine rg 0 ?_
 refine aH hj1 (fun hc1 hj1 => ?_) (fun hc1 hj1 => ?_)
 ·obtain ⟨x1, hx1, hj1⟩ := ob hj1
  refine aJ (l := p0.kids) (f := aK) (cs := [.i ((x1).kind), .str ((x1).name), aI ((x1).kids)]) hx1 (aR x1) rfl ?_
  cases hj1
  exact hR1 _ _ (wk [] (.u2 (.c rfl (.u8 (.u2 (.u .nil))))) .nil rfl)
 cases hj1
 exact hR1 _ _ (wk [] (.u2 (.c rfl (.u8 (.u2 (.u .nil))))) .nil rfl)
theorem vI (n : Nat) (r : Ty) (h : alX n = some r) : ak Tryz.prog 65 [] [] (aV r) [] := by
 unfold alX at h
 refine ah true Tryz.func65 rfl (nt Tryz.ntmps65 rfl) fun Q hQ t ht => ?_
 conv at ht => whnf
 subst ht
 refine .q fun K1 k1 => rg 1 ?_
 refine k1 _ _ ?_
 refine .q fun K2 k2 => rg 0 ?_
 refine k2 _ _ ?_
 refine .ret ?_
 have e9 := sj h
 subst e9
 refine hQ _ _ _ (aj aD (fun g => by simp) ?_)
 conv => whnf
 try rfl
theorem Fx (n : Nat) (p0 : List Ty) (p1 : Ty) (r : Bool) (h : u6 n p0 p1 = some r) : ak Tryz.prog 232 [aI p0, aV p1] [] (.bool r) [] := by
 unfold u6 at h
 refine ah true Tryz.func232 rfl (nt Tryz.ntmps232 rfl) fun Q hQ t ht => ?_
 conv at ht => whnf
 subst ht
 refine .q fun K1 k1 => rg 1 ?_
 refine k1 _ _ ?_
 refine .q fun K2 k2 => .q fun K3 k3 => rg 0 ?_
 refine k3 _ _ ?_
 refine .block ?_
 obtain ⟨o1, ho1, h⟩ := ob h
 have hR1 : ∀ s2 : Unit, o1 = .nx s2 → ∀ t9 h9, Le 0 t9 h9 (u16 (u2 (.unk :: []))) [] → K2 t9 h9 := by
  intro s2 ho
  subst ho
  dsimp only [LR.el] at h
  intro t9 h9 hw
  refine k2 _ _ (AW.le hw ?_)
  refine .q fun K4 k4 => rg 0 ?_
  refine k4 _ _ ?_
  refine .ret ?_
  have e9 := sj h
  subst e9
  refine hQ _ _ _ (aj aD (fun g => rfl) ?_)
  conv => whnf
 refine .loopS (Fp n p0 p1) (fun (s1 : Int) => (aI p0 :: (u2 (.ptr 0 0 :: (.unk :: (.i s1 :: (u8 (u4 (.unk :: []))))))))) (fun (s1 : Int) => [.box [.i p1.kind, .str p1.name, aI p1.kids]]) ho1 (fun _ => rfl) (li (.s (.u2 (.s (.u (.s (.u8 (.u4 (.u .n))))))))) ?_
 intro n1 s1 hs1 KL1 hKL1
 unfold Fp at hs1
 refine .q fun K5 k5 => .q fun K6 k6 => rg 0 ?_
 refine aW (l := p0) (f := aK) ?_
 refine k6 _ _ ?_
 refine .aC rfl hs1 (fun hc1 hs1 => ?_) (fun hc1 hs1 => ?_)
 ·refine .skip ?_
  refine k5 _ _ ?_
  refine .q fun K7 k7 => ?_
  refine .block ?_
  refine .q fun K8 k8 => rg 0 ?_
  obtain ⟨x1, hx1, hs1⟩ := ob hs1
  refine aJ (l := p0) (f := aK) (cs := [.i ((x1).kind), .str ((x1).name), aI ((x1).kids)]) hx1 (aR x1) rfl ?_
  obtain ⟨x2, hx2, hs1⟩ := ob hs1
  refine au (cB _ _ _ _ hx2) iQ (.cons (.same _) (.cons (.same _) .nil)) (fun g => by simp) (fun g => rfl) ?_
  refine ⟨rfl, ?_⟩
  refine k8 _ _ ?_
  refine .aC rfl hs1 (fun hc2 hs1 => ?_) (fun hc2 hs1 => ?_)
  ·refine .q fun K9 k9 => rg 0 ?_
   refine k9 _ _ ?_
   refine .ret ?_
   have e9 := sj hs1
   subst e9
   dsimp only [LR.el] at h
   have e9 := sj h
   subst e9
   refine hQ _ _ _ (aj aD (fun g => rfl) ?_)
   conv => whnf
  refine .skip ?_
  refine k7 _ _ ?_
  refine .know 5 0 fun hv1 => ?_
  refine .know 0 0 fun hv2 => ?_
  refine rg 0 ?_
  refine ⟨(s1 + 1), by have := dn hv1; have := eP hv2; have h8 := of_decide_eq_true hc1; exact bG (by omega) (by omega), ?_⟩
  exact hKL1 _ _ _ hs1 (li (.s (.u2 (.s (.u (.s (.u8 (.u4 (.u .n)))))))))
 refine .exit ?_
 exact hR1 _ (sj hs1).symm _ _ (wk [] (.u16 (.u2 (.u .nil))) .nil rfl)
theorem Dx (n : Nat) (p0 : Ty) (p1 : Ty) (r : Ty) (h : ahg n p0 p1 = some r) : ak Tryz.prog 64 [aV p0, aV p1] [] (aV r) [] := by
 unfold ahg at h
 refine ah true Tryz.func64 rfl (nt Tryz.ntmps64 rfl) fun Q hQ t ht => ?_
 conv at ht => whnf
 subst ht
 refine .q fun K1 k1 => rg 3 ?_
 refine k1 _ _ ?_
 refine .q fun K2 k2 => rg 1 ?_
 refine ⟨List.map aK ([p0, p1]), by simp only [List.map_cons, List.map_nil, aR]; rfl, ?_⟩
 refine k2 _ _ ?_
 refine .ret ?_
 have e9 := sj h
 subst e9
 refine hQ _ _ _ (aj aD (fun g => by simp) ?_)
 conv => whnf
 try rfl
theorem u7 (n : Nat) (r : Ty) (h : aha n = some r) : ak Tryz.prog 268 [] [] (aV r) [] := by
 unfold aha at h
 refine ah true Tryz.func268 rfl (nt Tryz.ntmps268 rfl) fun Q hQ t ht => ?_
 conv at ht => whnf
 subst ht
 refine .q fun K1 k1 => rg 1 ?_
 refine k1 _ _ ?_
 refine .q fun K2 k2 => rg 0 ?_
 refine k2 _ _ ?_
 refine .ret ?_
 have e9 := sj h
 subst e9
 refine hQ _ _ _ (aj aD (fun g => by simp) ?_)
 conv => whnf
 try rfl
end Abs
end Go.Proofs.YtiiaccpcoclklaaGreat
