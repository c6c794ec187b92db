/-
  Contracts of Go functions (printed). Conditions: none.
-/
import Derived.KernelRfl
import Derived.Test.YtiiaccpcoclklaaGreatCUDx009bf0
import Derived.Test.YtiiaccpcoclklaaGreatCT23ox73e303
set_option linter.unusedSimpArgs false
set_option linter.unusedVariables false
namespace Go.Proofs.YtiiaccpcoclklaaGreat
namespace Abs
open Go Go.Proofs
set_option maxRecDepth 100000
set_option maxHeartbeats 40000000
abbrev R2_typeOf_S (rec_R2_typeOf : Env → (List Decl) → Tm → Option (Ty × (List Int) × Int)) : Prop := ∀ (p0 : Env) (p1 : List Decl) (p2 : Tm) (r : Ty × (List Int) × Int), rec_R2_typeOf p0 p1 p2 = some r → ak Tryz.prog 71 [dz p0, bU p1, bg p2] [] (.bq [aV r.1, mE r.2.1, .i r.2.2]) []
theorem Tq (n : Nat) (rec_R2_typeOf : Env → (List Decl) → Tm → Option (Ty × (List Int) × Int)) (hrec_R2_typeOf : R2_typeOf_S rec_R2_typeOf) (p0 : Env) (p1 : List Decl) (p2 : Tm) (r : Ty × (List Int) × Int) (h : wQ n rec_R2_typeOf p0 p1 p2 = some r) : ak Tryz.prog 71 [dz p0, bU p1, bg p2] [] (.bq [aV r.1, mE r.2.1, .i r.2.2]) [] := by
 unfold wQ at h
 refine ah true Tryz.func71 rfl (nt Tryz.ntmps71 rfl) fun Q hQ t ht => ?_
 conv at ht => whnf
 subst ht
 refine .q fun K1 k1 => rg 3 ?_
 refine k1 _ _ ?_
 refine .q fun K2 k2 => rg 1 ?_
 refine k2 _ _ ?_
 refine .q fun K3 k3 => .q fun K4 k4 => rg 0 ?_
 refine k4 _ _ ?_
 refine .aC rfl h (fun hc1 h => ?_) (fun hc1 h => ?_)
 ·refine .q fun K5 k5 => rg 1 ?_
  obtain ⟨x1, hx1, h⟩ := ob h
  refine cp (NP _ _ _ _ _ hx1) ag1 (.cons (.same _) (.cons (.same _) (.cons (.same _) .nil))) ?_
  refine k5 _ _ ?_
  refine .q fun K6 k6 => .q fun K7 k7 => rg 0 ?_
  refine k7 _ _ ?_
  refine .aC rfl h (fun hc2 h => ?_) (fun hc2 h => ?_)
  ·refine .q fun K8 k8 => rg 0 ?_
   refine k8 _ _ ?_
   refine .ret ?_
   have e9 := sj h
   subst e9
   refine hQ _ _ _ (aj aD (fun g => by simp) ?_)
   conv => whnf
   try rfl
  refine .skip ?_
  refine k6 _ _ ?_
  refine .q fun K9 k9 => rg 0 ?_
  refine k9 _ _ ?_
  refine .ret ?_
  have e9 := sj h
  subst e9
  refine hQ _ _ _ (aj aD (fun g => by simp) ?_)
  conv => whnf
  try rfl
 refine .skip ?_
 refine k3 _ _ ?_
 refine .q fun K10 k10 => .q fun K11 k11 => ?_
 obtain ⟨s1, hj1, h⟩ := ob h
 have hR1 : ∀ t9 h9, Le 0 t9 h9 (.unk :: (bU p1 :: (.unk :: (.ptr 0 0 :: (.unk :: (.ptr 1 0 :: (.ptr 2 0 :: (u2 (.ptr 3 0 :: (u32 (u2 (.bool s1 :: (u64 (u8 (u2 []))))))))))))))) [.box [bT p0.carriers, bU p0.names], .box [.i p2.op, .str p2.name, .i p2.n, .i p2.ty.kind, .str p2.ty.name, aI p2.ty.kids, bn p2.kids], .box [.i 0, .str ([] : Str), .slice (List.map aK ([] : List Ty)) .nils], .box [.i 0, .str ([] : Str), .slice (List.map aK ([] : List Ty)) .nils]] → K11 t9 h9 := by
  intro t9 h9 hw
  refine k11 _ _ (AW.le hw ?_)
  clear hw
  refine .aC rfl h (fun hc3 h => ?_) (fun hc3 h => ?_)
  ·refine .q fun K12 k12 => rg 0 ?_
   refine k12 _ _ ?_
   refine .ret ?_
   have e9 := sj h
   subst e9
   refine hQ _ _ _ (aj aD (fun g => by simp) ?_)
   conv => whnf
   try rfl
  refine .skip ?_
  refine k10 _ _ ?_
  refine .q fun K13 k13 => rg 0 ?_
  refine k13 _ _ ?_
  refine .q fun K14 k14 => .q fun K15 k15 => rg 0 ?_
  refine k15 _ _ ?_
  refine .block ?_
  obtain ⟨o1, ho1, h⟩ := ob h
  have hR2 : ∀ s3 : List Ty, o1 = .nx s3 → ∀ t9 h9, Le 0 t9 h9 (u4 (.unk :: (.ptr 0 0 :: (.ptr 1 0 :: (u2 (.ptr 2 0 :: (u2 (.slice (List.map aK s3) (.tip 3 3) :: (u64 (u32 (u8 (u2 [])))))))))))) [.box [.i p2.op, .str p2.name, .i p2.n, .i p2.ty.kind, .str p2.ty.name, aI p2.ty.kids, bn p2.kids], .box [.i 0, .str ([] : Str), .slice (List.map aK ([] : List Ty)) .nils], .box [.i 0, .str ([] : Str), .slice (List.map aK ([] : List Ty)) .nils], .tip (List.length s3 * 3)] → K14 t9 h9 := by
   intro s3 ho
   subst ho
   dsimp only [LR.el] at h
   intro t9 h9 hw
   refine k14 _ _ (AW.le hw ?_)
   refine .q fun K16 k16 => rg 1 ?_
   obtain ⟨x2, hx2, h⟩ := ob h
   refine cp (akX _ _ _ _ hx2) apm (.cons (.same _) (.cons (.share _ _) .nil)) ?_
   refine k16 _ _ ?_
   refine .q fun K17 k17 => .q fun K18 k18 => rg 0 ?_
   refine k18 _ _ ?_
   refine .aC rfl h (fun hc4 h => ?_) (fun hc4 h => ?_)
   ·refine .q fun K19 k19 => rg 0 ?_
    refine k19 _ _ ?_
    refine .ret ?_
    have e9 := sj h
    subst e9
    refine hQ _ _ _ (aj aD (fun g => by simp) ?_)
    conv => whnf
    try rfl
   refine .skip ?_
   refine k17 _ _ ?_
   refine .q fun K20 k20 => .q fun K21 k21 => rg 0 ?_
   obtain ⟨x3, hx3, h⟩ := ob h
   refine au (jD _ _ _ hx3) BH (.cons (.same _) .nil) (fun g => by simp) (fun g => rfl) ?_
   refine k21 _ _ ?_
   refine .aC rfl h (fun hc5 h => ?_) (fun hc5 h => ?_)
   ·refine .q fun K22 k22 => rg 0 ?_
    refine k22 _ _ ?_
    refine .ret ?_
    have e9 := sj h
    subst e9
    refine hQ _ _ _ (aj aD (fun g => by simp) ?_)
    conv => whnf
    try rfl
   refine .skip ?_
   refine k20 _ _ ?_
   refine .q fun K23 k23 => rg 0 ?_
   refine k23 _ _ ?_
   refine .ret ?_
   have e9 := sj h
   subst e9
   refine hQ _ _ _ (aj aD (fun g => by simp) ?_)
   conv => whnf
   try rfl
  refine .loopS (zI n rec_R2_typeOf p0 p1 p2) (fun (s2 : (List Ty) × Int) => (.unk :: (bU p1 :: (.unk :: (.ptr 0 0 :: (.unk :: (.ptr 1 0 :: (.ptr 2 0 :: (u2 (.ptr 3 0 :: (u2 (.slice (List.map aK s2.1) (.tip 4 3) :: (.i s2.2 :: (u64 (u32 (u8 (.unk :: []))))))))))))))))) (fun (s2 : (List Ty) × Int) => [.box [bT p0.carriers, bU p0.names], .box [.i p2.op, .str p2.name, .i p2.n, .i p2.ty.kind, .str p2.ty.name, aI p2.ty.kids, bn p2.kids], .box [.i 0, .str ([] : Str), .slice (List.map aK ([] : List Ty)) .nils], .box [.i 0, .str ([] : Str), .slice (List.map aK ([] : List Ty)) .nils], .tip (List.length s2.1 * 3)]) ho1 (fun _ => rfl) (wk [some 0, some 1, some 2, some 3, none] (.u (.e aG (.u (.c rfl (.u (.c rfl (.c rfl (.u2 (.c rfl (.u2 (.cons (.nils _ _) (.c rfl (.u64 (.u32 (.u8 (.u .nil)))))))))))))))) (.b rfl (.e aA (.e aG .nil)) (.b rfl (.c rfl (.c rfl (.c rfl (.c rfl (.c rfl (.e aB (.e aN .nil))))))) (.b rfl (.c rfl (.c rfl (.c rfl .nil))) (.b rfl (.c rfl (.c rfl (.c rfl .nil))) (.w rfl .nil))))) rfl) ?_
  intro n1 s2 hs1 KL1 hKL1
  unfold zI at hs1
  refine .q fun K24 k24 => .q fun K25 k25 => rg 0 ?_
  refine aW (l := p2.kids) (f := aS) ?_
  refine k25 _ _ ?_
  refine .aC rfl hs1 (fun hc6 hs1 => ?_) (fun hc6 hs1 => ?_)
  ·refine .skip ?_
   refine k24 _ _ ?_
   refine .q fun K26 k26 => ?_
   refine .block ?_
   refine .q fun K27 k27 => rg 0 ?_
   refine k27 _ _ ?_
   refine .q fun K28 k28 => ?_
   obtain ⟨o2, hj2, hs1⟩ := ob hs1
   have hR3 : ∀ s4 : List Decl, o2 = .nx s4 → ∀ t9 h9, Le 0 t9 h9 (.unk :: (bU p1 :: (.unk :: (.ptr 0 0 :: (.unk :: (.ptr 1 0 :: (.ptr 2 0 :: (u2 (.ptr 3 0 :: (u2 (.slice (List.map aK s2.1) (.tip 4 3) :: (.i s2.2 :: (bU s4 :: (u64 (u32 (u8 [])))))))))))))))) [.box [bT p0.carriers, bU p0.names], .box [.i p2.op, .str p2.name, .i p2.n, .i p2.ty.kind, .str p2.ty.name, aI p2.ty.kids, bn p2.kids], .box [.i 0, .str ([] : Str), .slice (List.map aK ([] : List Ty)) .nils], .box [.i 0, .str ([] : Str), .slice (List.map aK ([] : List Ty)) .nils], .tip (List.length s2.1 * 3)] → K28 t9 h9 := by
    intro s4 ho
    subst ho
    dsimp only [LR.el] at hs1
    intro t9 h9 hw
    refine k28 _ _ (AW.le hw ?_)
    clear hw
    refine .q fun K29 k29 => rg 1 ?_
    obtain ⟨x4, hx4, hs1⟩ := ob hs1
    refine aJ (l := p2.kids) (f := aS) (cs := [.i ((x4).op), .str ((x4).name), .i ((x4).n), .i (((x4).ty).kind), .str (((x4).ty).name), aI (((x4).ty).kids), bn ((x4).kids)]) hx4 (aX x4) rfl ?_
    obtain ⟨x5, hx5, hs1⟩ := ob hs1
    refine cp (hrec_R2_typeOf _ _ _ _ hx5) amm (.cons (.same _) (.cons (.same _) (.cons (.same _) .nil))) ?_
    refine ⟨rfl, ?_⟩
    refine k29 _ _ ?_
    refine .q fun K30 k30 => .q fun K31 k31 => rg 0 ?_
    refine k31 _ _ ?_
    refine .aC rfl hs1 (fun hc7 hs1 => ?_) (fun hc7 hs1 => ?_)
    ·refine .q fun K32 k32 => rg 2 ?_
     refine ⟨List.map encI ([s2.2]), rfl, ?_⟩
     obtain ⟨x6, hx6, hs1⟩ := ob hs1
     refine dW (l := [s2.2]) (ys := x5.2.1) (f := encI) hx6 aiR rfl rfl rfl ?_
     refine ⟨rfl, ?_⟩
     refine k32 _ _ ?_
     refine .ret ?_
     have e9 := sj hs1
     subst e9
     dsimp only [LR.el] at h
     have e9 := sj h
     subst e9
     refine hQ _ _ _ (aj aD (fun g => by simp) ?_)
     conv => whnf
     try rfl
    refine .skip ?_
    refine k30 _ _ ?_
    refine rg 2 ?_
    refine ⟨List.map aK ([x5.1]), by simp only [List.map_cons, List.map_nil, aR]; rfl, ?_⟩
    obtain ⟨x7, hx7, hs1⟩ := ob hs1
    refine dW (l := s2.1) (ys := [x5.1]) (f := aK) hx7 adU rfl rfl rfl ?_
    refine k26 _ _ ?_
    refine .know 13 0 fun hv1 => ?_
    refine .know 85 0 fun hv2 => ?_
    refine rg 0 ?_
    refine ⟨(s2.2 + 1), by have := dn hv1; have := eP hv2; have h8 := of_decide_eq_true hc6; exact bG (by omega) (by omega), ?_⟩
    exact hKL1 _ _ _ hs1 (wk [some 0, some 1, some 2, some 3, some 7] (.u (.e aG (.u (.c rfl (.u (.c rfl (.c rfl (.u2 (.c rfl (.u2 (.cons (.bF (aB _ _) rfl) (.c rfl (.u64 (.u32 (.u8 (.u .nil)))))))))))))))) (.b rfl (.e aA (.e aG .nil)) (.b rfl (.c rfl (.c rfl (.c rfl (.c rfl (.c rfl (.e aB (.e aN .nil))))))) (.b rfl (.c rfl (.c rfl (.c rfl .nil))) (.b rfl (.c rfl (.c rfl (.c rfl .nil))) (.t rfl .nil))))) rfl)
   refine .q fun K33 k33 => ?_
   obtain ⟨s5, hj3, hj2⟩ := ob hj2
   have hR4 : ∀ t9 h9, Le 0 t9 h9 (.unk :: (bU p1 :: (.unk :: (.ptr 0 0 :: (.unk :: (.ptr 1 0 :: (.ptr 2 0 :: (u2 (.ptr 3 0 :: (u2 (.slice (List.map aK s2.1) (.tip 4 3) :: (.i s2.2 :: (bU p1 :: (u32 (u8 (u4 (.unk :: (.bool s5 :: (u32 (u16 (u8 (u2 [])))))))))))))))))))))) [.box [bT p0.carriers, bU p0.names], .box [.i p2.op, .str p2.name, .i p2.n, .i p2.ty.kind, .str p2.ty.name, aI p2.ty.kids, bn p2.kids], .box [.i 0, .str ([] : Str), .slice (List.map aK ([] : List Ty)) .nils], .box [.i 0, .str ([] : Str), .slice (List.map aK ([] : List Ty)) .nils], .tip (List.length s2.1 * 3)] → K33 t9 h9 := by
    intro t9 h9 hw
    refine k33 _ _ (AW.le hw ?_)
    clear hw
    refine .aC rfl hj2 (fun hc8 hj2 => ?_) (fun hc8 hj2 => ?_)
    ·refine .q fun K34 k34 => .q fun K35 k35 => rg 0 ?_
     obtain ⟨x8, hx8, hj2⟩ := ob hj2
     refine aJ (l := s2.1) (f := aK) (cs := [.i ((x8).kind), .str ((x8).name), aI ((x8).kids)]) hx8 (aR x8) rfl ?_
     obtain ⟨x9, hx9, hj2⟩ := ob hj2
     refine au (nZ _ _ _ hx9) yT (.cons (.same _) .nil) (fun g => by simp) (fun g => rfl) ?_
     refine k35 _ _ ?_
     refine .aC rfl hj2 (fun hc9 hj2 => ?_) (fun hc9 hj2 => ?_)
     ·refine .q fun K36 k36 => rg 0 ?_
      refine k36 _ _ ?_
      refine .ret ?_
      have e9 := sj hj2
      subst e9
      dsimp only [LR.el] at hs1
      have e9 := sj hs1
      subst e9
      dsimp only [LR.el] at h
      have e9 := sj h
      subst e9
      refine hQ _ _ _ (aj aD (fun g => by simp) ?_)
      conv => whnf
      try rfl
     refine .skip ?_
     refine k34 _ _ ?_
     refine rg 4 ?_
     refine ⟨List.map aO ([] : List Decl), rfl, ?_⟩
     obtain ⟨x10, hx10, hj2⟩ := ob hj2
     refine dW (l := ([] : List Decl)) (ys := p1) (f := aO) hx10 Ap rfl rfl rfl ?_
     obtain ⟨x11, hx11, hj2⟩ := ob hj2
     refine aJ (l := s2.1) (f := aK) (cs := [.i ((x11).kind), .str ((x11).name), aI ((x11).kids)]) hx11 (aR x11) rfl ?_
     obtain ⟨x12, hx12, hj2⟩ := ob hj2
     refine aJ (l := x11.kids) (f := aK) (cs := [.i ((x12).kind), .str ((x12).name), aI ((x12).kids)]) hx12 (aR x12) rfl ?_
     refine ⟨List.map aO ([(Decl.mk p2.name x12)]), rfl, ?_⟩
     obtain ⟨x13, hx13, hj2⟩ := ob hj2
     refine dW (l := x10) (ys := [(Decl.mk p2.name x12)]) (f := aO) hx13 Ap rfl rfl rfl ?_
     refine ⟨rfl, ?_⟩
     exact hR3 _ (sj hj2).symm _ _ (wk [some 0, some 1, some 2, some 3, some 4] (.u (.e aG (.u (.c rfl (.u (.c rfl (.c rfl (.u2 (.c rfl (.u2 (.cons (.bF (aB _ _) rfl) (.c rfl (.e aG (.u64 (.u32 (.u8 .nil)))))))))))))))) (.b rfl (.e aA (.e aG .nil)) (.b rfl (.c rfl (.c rfl (.c rfl (.c rfl (.c rfl (.e aB (.e aN .nil))))))) (.b rfl (.c rfl (.c rfl (.c rfl .nil))) (.b rfl (.c rfl (.c rfl (.c rfl .nil))) (.t rfl .nil))))) rfl)
    refine .skip ?_
    exact hR3 _ (sj hj2).symm _ _ (li (.u (.s (.u (.s (.u (.s (.s (.u2 (.s (.u2 (.s (.s (.s (.u16 (.u16 (.u16 (.u16 (.u16 (.u16 (.u8 .n)))))))))))))))))))))
   refine rg 0 ?_
   obtain ⟨x14, hx14, hj3⟩ := ob hj3
   refine au (qD _ _ _ hx14) E8 (.cons (.same _) .nil) (fun g => rfl) (fun g => rfl) ?_
   refine aH hj3 (fun hc10 hj3 => ?_) (fun hc10 hj3 => ?_)
   ·cases hj3
    exact hR4 _ _ (li (.u (.s (.u (.s (.u (.s (.s (.u2 (.s (.u2 (.s (.s (.s (.u16 (.u16 (.u8 (.u4 (.u (.s (.u16 (.u16 (.u16 (.u8 (.u2 .n)))))))))))))))))))))))))
   cases hj3
   exact hR4 _ _ (li (.u (.s (.u (.s (.u (.s (.s (.u2 (.s (.u2 (.s (.s (.s (.u16 (.u16 (.u8 (.u4 (.u (.s (.u16 (.u16 (.u16 (.u8 (.u2 .n)))))))))))))))))))))))))
  refine .exit ?_
  exact hR2 _ (sj hs1).symm _ _ (wk [some 1, some 2, some 3, some 4] (.u4 (.u (.c rfl (.c rfl (.u2 (.c rfl (.u2 (.cons (.bF (aB _ _) rfl) (.u64 (.u32 (.u8 (.u2 .nil)))))))))))) (.b rfl (.c rfl (.c rfl (.c rfl (.c rfl (.c rfl (.e aB (.e aN .nil))))))) (.b rfl (.c rfl (.c rfl (.c rfl .nil))) (.b rfl (.c rfl (.c rfl (.c rfl .nil))) (.t rfl .nil)))) rfl)
 refine rg 0 ?_
 refine aH hj1 (fun hc11 hj1 => ?_) (fun hc11 hj1 => ?_)
 ·obtain ⟨x15, hx15, hj1⟩ := ob hj1
  refine au (ET _ _ _ _ hx15) Rw (.cons (.same _) (.cons (.same _) .nil)) (fun g => by simp) (fun g => rfl) ?_
  cases hj1
  exact hR1 _ _ (li (.u (.s (.u (.s (.u (.s (.s (.u2 (.s (.u16 (.u16 (.u2 (.s (.u16 (.u16 (.u16 (.u16 (.u8 (.u2 .n))))))))))))))))))))
 cases hj1
 exact hR1 _ _ (li (.u (.s (.u (.s (.u (.s (.s (.u2 (.s (.u16 (.u16 (.u2 (.s (.u16 (.u16 (.u16 (.u16 (.u8 (.u2 .n))))))))))))))))))))
theorem adI (n : Nat) : R2_typeOf_S (sO n) := by
 induction n with
 | zero => exact (fun p0 p1 p2 r h => by unfold sO at h; cases h)
 | succ n ih =>
  exact (fun p0 p1 p2 r h => Tq n _ ih p0 p1 p2 r (by unfold sO at h; exact h))
theorem aeH (n : Nat) : R2_typeOf_S (sO n) := (adI n)
theorem Dj (n : Nat) (p0 : Env) (p1 : Tm) (r : Ty × (List Int) × Int) (h : xw n p0 p1 = some r) : ak Tryz.prog 19 [dz p0, bg p1] [] (.bq [aV r.1, mE r.2.1, .i r.2.2]) [] := by
 unfold xw at h
 refine ah true Tryz.func19 rfl (nt Tryz.ntmps19 rfl) fun Q hQ t ht => ?_
 conv at ht => whnf
 subst ht
 refine .q fun K1 k1 => rg 3 ?_
 refine k1 _ _ ?_
 refine .q fun K2 k2 => .q fun K3 k3 => ?_
 obtain ⟨s1, hj1, h⟩ := ob h
 have hR1 : ∀ t9 h9, Le 0 t9 h9 (u2 (.ptr 0 0 :: (.ptr 1 0 :: (.ptr 2 0 :: (u8 (u4 (.bool s1 :: (u8 (u4 []))))))))) [.box [bT p0.carriers, bU p0.names], .box [.i p1.op, .str p1.name, .i p1.n, .i p1.ty.kind, .str p1.ty.name, aI p1.ty.kids, bn p1.kids], .box [.i 0, .str ([] : Str), .slice (List.map aK ([] : List Ty)) .nils]] → K3 t9 h9 := by
  intro t9 h9 hw
  refine k3 _ _ (AW.le hw ?_)
  clear hw
  refine .aC rfl h (fun hc1 h => ?_) (fun hc1 h => ?_)
  ·refine .q fun K4 k4 => rg 0 ?_
   refine k4 _ _ ?_
   refine .ret ?_
   have e9 := sj h
   subst e9
   refine hQ _ _ _ (aj aD (fun g => by simp) ?_)
   conv => whnf
   try rfl
  refine .skip ?_
  refine k2 _ _ ?_
  refine .q fun K5 k5 => rg 1 ?_
  obtain ⟨x1, hx1, h⟩ := ob h
  refine cp (aeH _ _ _ _ _ hx1) amm (.cons (.same _) (.cons (.share _ _) (.cons (.same _) .nil))) ?_
  refine k5 _ _ ?_
  refine .q fun K6 k6 => rg 0 ?_
  obtain ⟨x2, hx2, h⟩ := ob h
  refine cp (nN _ _ _ hx2) Dp (.cons (.same _) .nil) ?_
  refine k6 _ _ ?_
  refine .ret ?_
  have e9 := sj h
  subst e9
  refine hQ _ _ _ (aj aD (fun g => by simp) ?_)
  conv => whnf
  try rfl
 refine rg 0 ?_
 obtain ⟨x3, hx3, hj1⟩ := ob hj1
 refine au (nP _ _ _ hx3) Fy (.cons (.same _) .nil) (fun g => by simp) (fun g => rfl) ?_
 refine aH hj1 (fun hc2 hj1 => ?_) (fun hc2 hj1 => ?_)
 ·cases hj1
  exact hR1 _ _ (li (.u2 (.s (.s (.s (.u8 (.u4 (.s (.u8 (.u4 .n))))))))))
 obtain ⟨x4, hx4, hj1⟩ := ob hj1
 refine au (jE _ _ _ hx4) uP (.cons (.same _) .nil) (fun g => by simp) (fun g => rfl) ?_
 cases hj1
 exact hR1 _ _ (li (.u2 (.s (.s (.s (.u8 (.u4 (.s (.u8 (.u4 .n))))))))))
end Abs
end Go.Proofs.YtiiaccpcoclklaaGreat
namespace Go.Proofs.YtiiaccpcoclklaaGreat
end Go.Proofs.YtiiaccpcoclklaaGreat
namespace Go.Proofs.YtiiaccpcoclklaaGreat
namespace Abs
open Go Go.Proofs
set_option maxRecDepth 100000
set_option maxHeartbeats 40000000
def amf (n : Nat) (p0 : Int) (p1 : Tm) (p2 : Tm) : Option Tm := some (Tm.mk p0 ([] : Str) 0 (Ty.mk 0 ([] : Str) ([])) ([p1, p2]))
def CF (n : Nat) (p0 : Int) (p1 : Tm) (p2 : Tm) : Option Tm := (cond (p2.op == 1) (some p2) (some (Tm.mk p0 ([] : Str) 0 ((Ty.mk 0 ([] : Str) ([]))) ([p1, p2]))))
def q9 (n : Nat) (p0 : Tm) (p1 : Tm) : Option Tm := (cond (p0.op == 1) (some p1) (cond (p1.op == 1) (some p0) (some (Tm.mk 4 ([] : Str) 0 ((Ty.mk 0 ([] : Str) ([]))) ([p0, p1])))))
def G8 (n : Nat) (p0 : Str) (p1 : Tm) (p2 : Tm) : Option Tm := (cond (p2.op == 1) (some p2) (some (Tm.mk 8 p0 0 (Ty.mk 0 ([] : Str) ([])) ([p1, p2]))))
def afd (n : Nat) : Option Tm := some (Tm.mk 1 ([] : Str) 0 (Ty.mk 0 ([] : Str) ([])) ([]))
def acZ (n : Nat) (p0 : Int) : Option Tm := some (Tm.mk 19 ([] : Str) p0 (Ty.mk 0 ([] : Str) ([])) ([]))
def akz (n : Nat) (p0 : Int) (p1 : Tm) : Option Tm := some (Tm.mk p0 ([] : Str) 0 (Ty.mk 0 ([] : Str) ([])) ([p1]))
def yJ (n : Nat) (rec_R2_defined : Tm → Option Tm) (p0 : Tm) : Nat → (Int × Int × Str × Int × Int × Str × (List Ty) × (List Tm)) → Option (LR (Int × Str × Int × Int × Str × (List Ty) × (List Tm)) Tm)
 | 0, _ => none
 | k + 1, s3 => (cond (decide (s3.1 < (p0.kids.length : Int))) ((idx p0.kids s3.1).bind fun x33 => ((rec_R2_defined x33).bind fun x34 => ((q9 n (Tm.mk s3.2.1 s3.2.2.1 s3.2.2.2.1 (Ty.mk s3.2.2.2.2.1 s3.2.2.2.2.2.1 s3.2.2.2.2.2.2.1) s3.2.2.2.2.2.2.2) x34).bind fun x35 => yJ n rec_R2_defined p0 k ((s3.1 + 1), x35.op, x35.name, x35.n, x35.ty.kind, x35.ty.name, x35.ty.kids, x35.kids)))) (some (.nx (s3.2.1, s3.2.2.1, s3.2.2.2.1, s3.2.2.2.2.1, s3.2.2.2.2.2.1, s3.2.2.2.2.2.2.1, s3.2.2.2.2.2.2.2))))
def uZ (n : Nat) (rec_R2_defined : Tm → Option Tm) (p0 : Tm) : Option Tm := (((cond (p0.op == 4) (some (p0.op == 4)) (some (p0.op == 6))) : Option Bool).bind fun s1 => (cond s1 ((idx p0.kids 0).bind fun x1 => ((rec_R2_defined x1).bind fun x2 => ((idx p0.kids 0).bind fun x3 => ((idx p0.kids 1).bind fun x4 => ((rec_R2_defined x4).bind fun x5 => ((CF n 6 x3 x5).bind fun x6 => ((q9 n x2 x6).bind fun x7 => some x7))))))) (cond (p0.op == 5) ((idx p0.kids 0).bind fun x8 => ((rec_R2_defined x8).bind fun x9 => ((idx p0.kids 0).bind fun x10 => ((idx p0.kids 1).bind fun x11 => ((rec_R2_defined x11).bind fun x12 => ((CF n 5 x10 x12).bind fun x13 => ((q9 n x9 x13).bind fun x14 => some x14))))))) (((cond (p0.op == 8) (some (p0.op == 8)) (cond (p0.op == 9) (some (p0.op == 9)) (cond (p0.op == 55) (some (p0.op == 55)) (some (p0.op == 56))))) : Option Bool).bind fun s2 => (cond s2 ((idx p0.kids 0).bind fun x15 => ((rec_R2_defined x15).bind fun x16 => ((idx p0.kids 0).bind fun x17 => ((idx p0.kids 1).bind fun x18 => ((rec_R2_defined x18).bind fun x19 => ((G8 n p0.name x17 x19).bind fun x20 => ((q9 n x16 x20).bind fun x21 => some x21))))))) ((yJ n rec_R2_defined p0 n (0, 1, ([] : Str), 0, ((Ty.mk 0 ([] : Str) ([]))).kind, ((Ty.mk 0 ([] : Str) ([]))).name, ((Ty.mk 0 ([] : Str) ([]))).kids, ([]))).bind (LR.el (fun s4 => (cond (p0.op == 25) ((idx p0.kids 1).bind fun x22 => ((q9 n (Tm.mk s4.1 s4.2.1 s4.2.2.1 (Ty.mk s4.2.2.2.1 s4.2.2.2.2.1 s4.2.2.2.2.2.1) s4.2.2.2.2.2.2) (Tm.mk 11 ([] : Str) 0 ((Ty.mk 0 ([] : Str) ([]))) ([x22, (Tm.mk 19 ([] : Str) 0 ((Ty.mk 0 ([] : Str) ([]))) ([]))]))).bind fun x23 => some x23)) (cond (p0.op == 26) ((idx p0.kids 0).bind fun x24 => ((q9 n (Tm.mk s4.1 s4.2.1 s4.2.2.1 (Ty.mk s4.2.2.2.1 s4.2.2.2.2.1 s4.2.2.2.2.2.1) s4.2.2.2.2.2.2) (Tm.mk 13 ([] : Str) 0 ((Ty.mk 0 ([] : Str) ([]))) ([(Tm.mk 19 ([] : Str) 0 ((Ty.mk 0 ([] : Str) ([]))) ([])), x24]))).bind fun x25 => ((idx p0.kids 1).bind fun x26 => ((q9 n x25 (Tm.mk 12 ([] : Str) 0 ((Ty.mk 0 ([] : Str) ([]))) ([(Tm.mk 19 ([] : Str) 0 ((Ty.mk 0 ([] : Str) ([]))) ([])), x26]))).bind fun x27 => some x27)))) (((cond (p0.op == 48) (some (p0.op == 48)) (some (p0.op == 49))) : Option Bool).bind fun s5 => (cond s5 ((idx p0.kids 0).bind fun x28 => ((q9 n (Tm.mk s4.1 s4.2.1 s4.2.2.1 (Ty.mk s4.2.2.2.1 s4.2.2.2.2.1 s4.2.2.2.2.2.1) s4.2.2.2.2.2.2) (Tm.mk 12 ([] : Str) 0 ((Ty.mk 0 ([] : Str) ([]))) ([(Tm.mk 19 ([] : Str) 0 ((Ty.mk 0 ([] : Str) ([]))) ([])), (Tm.mk 47 ([] : Str) 0 ((Ty.mk 0 ([] : Str) ([]))) ([x28]))]))).bind fun x29 => some x29)) (cond (p0.op == 54) ((idx p0.kids 0).bind fun x30 => ((idx p0.kids 1).bind fun x31 => ((q9 n (Tm.mk s4.1 s4.2.1 s4.2.2.1 (Ty.mk s4.2.2.2.1 s4.2.2.2.2.1 s4.2.2.2.2.2.1) s4.2.2.2.2.2.2) (Tm.mk 10 ([] : Str) 0 ((Ty.mk 0 ([] : Str) ([]))) ([(Tm.mk 47 ([] : Str) 0 ((Ty.mk 0 ([] : Str) ([]))) ([(Tm.mk 53 ([] : Str) 0 ((Ty.mk 0 ([] : Str) ([]))) ([x30, (Tm.mk 28 ([] : Str) 0 ((Ty.mk 0 ([] : Str) ([]))) ([x31]))]))])), (Tm.mk 19 ([] : Str) 1 ((Ty.mk 0 ([] : Str) ([]))) ([]))]))).bind fun x32 => some x32))) (some (Tm.mk s4.1 s4.2.1 s4.2.2.1 (Ty.mk s4.2.2.2.1 s4.2.2.2.2.1 s4.2.2.2.2.2.1) s4.2.2.2.2.2.2)))))))) (fun r => some r))))))))
def oz : Nat → Tm → Option Tm
 | 0, _ => none
 | n + 1, p0 => uZ n (fun p0 => oz n p0) p0
def DI (n : Nat) (p0 : Env) (p1 : Tm) : Option (Tm × Int) := ((xw n p0 p1).bind fun x1 => (cond (x1.2.2 != 0) (some ((Tm.mk 0 ([] : Str) 0 (Ty.mk 0 ([] : Str) ([])) ([])), x1.2.2)) ((oz n p1).bind fun x2 => ((jS n x2).bind fun x3 => (cond (!x3) (some ((Tm.mk 0 ([] : Str) 0 (Ty.mk 0 ([] : Str) ([])) ([])), 5)) ((nH n x2).bind fun x4 => some (x4, 0)))))))
def tK (n : Nat) (rec_R1_SameTerm : Tm → Tm → Option Bool) (rec_R1_SameTerms : (List Tm) → (List Tm) → Option Bool) (p0 : Tm) (p1 : Tm) : Option Bool := (((cond (p0.op == p1.op) (cond (p0.name == p1.name) (cond (p0.n == p1.n) ((bL n p0.ty p1.ty).bind fun x1 => (cond x1 ((rec_R1_SameTerms p0.kids p1.kids).bind fun x2 => some x2) (some false))) (some false)) (some false)) (some false)) : Option Bool).bind fun s1 => some s1)
def uT (n : Nat) (rec_R1_SameTerm : Tm → Tm → Option Bool) (rec_R1_SameTerms : (List Tm) → (List Tm) → Option Bool) (p0 : List Tm) (p1 : List Tm) : Nat → Int → Option (LR Unit Bool)
 | 0, _ => none
 | k + 1, s1 => (cond (decide (s1 < (p0.length : Int))) ((idx p0 s1).bind fun x1 => ((idx p1 s1).bind fun x2 => ((rec_R1_SameTerm x1 x2).bind fun x3 => (cond (!x3) (some (.rt false)) (uT n rec_R1_SameTerm rec_R1_SameTerms p0 p1 k (s1 + 1)))))) (some (.nx ())))
def rQ (n : Nat) (rec_R1_SameTerm : Tm → Tm → Option Bool) (rec_R1_SameTerms : (List Tm) → (List Tm) → Option Bool) (p0 : List Tm) (p1 : List Tm) : Option Bool := (cond ((p0.length : Int) != (p1.length : Int)) (some false) ((uT n rec_R1_SameTerm rec_R1_SameTerms p0 p1 n 0).bind (LR.el (fun s2 => some true) (fun r => some r))))
mutual
def jH : Nat → Tm → Tm → Option Bool
 | 0, _, _ => none
 | n + 1, p0, p1 => tK n (fun p0 p1 => jH n p0 p1) (fun p0 p1 => om n p0 p1) p0 p1
def om : Nat → (List Tm) → (List Tm) → Option Bool
 | 0, _, _ => none
 | n + 1, p0, p1 => rQ n (fun p0 p1 => jH n p0 p1) (fun p0 p1 => om n p0 p1) p0 p1
end
def vw (n : Nat) (rec_typing_total : Tm → Option Bool) (p0 : Tm) : Nat → Int → Option (LR Unit Bool)
 | 0, _ => none
 | k + 1, s2 => (cond (decide (s2 < (p0.kids.length : Int))) ((idx p0.kids s2).bind fun x1 => ((rec_typing_total x1).bind fun x2 => (cond (!x2) (some (.rt false)) (vw n rec_typing_total p0 k (s2 + 1))))) (some (.nx ())))
def sF (n : Nat) (rec_typing_total : Tm → Option Bool) (p0 : Tm) : Option Bool := (((cond (p0.op == 25) (some (p0.op == 25)) (cond (p0.op == 26) (some (p0.op == 26)) (cond (p0.op == 48) (some (p0.op == 48)) (cond (p0.op == 49) (some (p0.op == 49)) (some (p0.op == 54)))))) : Option Bool).bind fun s1 => (cond s1 (some false) ((vw n rec_typing_total p0 n 0).bind (LR.el (fun s3 => some true) (fun r => some r)))))
def mX : Nat → Tm → Option Bool
 | 0, _ => none
 | n + 1, p0 => sF n (fun p0 => mX n p0) p0
def wZ (n : Nat) (p0 : Tm) : Option Bool := ((((xI n p0).bind fun x1 => (cond x1 ((mX n p0).bind fun x2 => some x2) (some false))) : Option Bool).bind fun s1 => some s1)
def BA (n : Nat) (rec_R2_total : Tm → Option Bool) (p0 : Tm) : Nat → Int → Option (LR Unit Bool)
 | 0, _ => none
 | k + 1, s2 => (cond (decide (s2 < (p0.kids.length : Int))) ((idx p0.kids s2).bind fun x1 => ((rec_R2_total x1).bind fun x2 => (cond (!x2) (some (.rt false)) (BA n rec_R2_total p0 k (s2 + 1))))) (some (.nx ())))
def yA (n : Nat) (rec_R2_total : Tm → Option Bool) (p0 : Tm) : Option Bool := (((cond (p0.op == 25) (some true) (cond (p0.op == 26) (some true) (cond (p0.op == 48) (some true) (cond (p0.op == 49) (some true) (some (p0.op == 54)))))) : Option Bool).bind fun s1 => (cond s1 (some false) ((BA n rec_R2_total p0 n 0).bind (LR.el (fun s3 => some true) (fun r => some r)))))
def vQ : Nat → Tm → Option Bool
 | 0, _ => none
 | n + 1, p0 => yA n (fun p0 => vQ n p0) p0
def Im (n : Nat) (p0 : Tm) : Option Bool := ((((jS n p0).bind fun x1 => (cond x1 ((vQ n p0).bind fun x2 => some x2) (some false))) : Option Bool).bind fun s1 => some s1)
def yh (n : Nat) (p0 : Env) (p1 : Tm) : Option Bool := ((jW n p0).bind fun x1 => (cond (!x1) ((dh n).bind fun x2 => some x2) ((jw n p0 p1).bind fun x3 => ((DI n p0 p1).bind fun x4 => (((cond (x3.2 == x4.2) ((jH n x4.1 x3.1).bind fun x5 => (cond x5 ((wZ n p1).bind fun x6 => ((Im n p1).bind fun x7 => (cond (x6 == x7) ((dh n).bind fun x8 => some x8) (some false)))) (some false))) (some false)) : Option Bool).bind fun s1 => some s1)))))
end Abs
end Go.Proofs.YtiiaccpcoclklaaGreat
namespace Go.Proofs.YtiiaccpcoclklaaGreat
namespace Abs
open Go Go.Proofs
theorem aro : aF Tryz.prog 33 = true := by kernel_rfl
theorem ZG : aF Tryz.prog 34 = true := by kernel_rfl
theorem alh : aF Tryz.prog 35 = true := by kernel_rfl
theorem aqH : aF Tryz.prog 36 = true := by kernel_rfl
theorem FJ : aF Tryz.prog 88 = true := by kernel_rfl
theorem aqs : aF Tryz.prog 89 = true := by kernel_rfl
theorem akL : aF Tryz.prog 90 = true := by kernel_rfl
theorem alg : aF Tryz.prog 91 = true := by kernel_rfl
theorem Ah : aF Tryz.prog 169 = true := by kernel_rfl
theorem aiv : aF Tryz.prog 170 = true := by kernel_rfl
theorem ao9 : aF Tryz.prog 171 = true := by kernel_rfl
theorem ao3 : aF Tryz.prog 172 = true := by kernel_rfl
theorem Cy : aF Tryz.prog 173 = true := by kernel_rfl
theorem KD : aF Tryz.prog 174 = true := by kernel_rfl
theorem aaF : aF Tryz.prog 175 = true := by kernel_rfl
end Abs
end Go.Proofs.YtiiaccpcoclklaaGreat
