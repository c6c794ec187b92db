/-
  Contracts of Go functions (printed). Conditions: none.
-/
import Derived.KernelRfl
import Derived.Test.YtiiaccpcoclklaaGreatCU3xae3ead
import Derived.Test.YtiiaccpcoclklaaGreatCZ1ox825100
set_option linter.unusedSimpArgs false
set_option linter.unusedVariables false
namespace Go.Proofs.YtiiaccpcoclklaaGreat
namespace Abs
open Go Go.Proofs
set_option maxRecDepth 100000
set_option maxHeartbeats 40000000
theorem z2x0 {p q : Prop} (f : p → q) (h : p := by exact li (.u2 (.s (.s (.s (.s (.u16 (.u16 (.u4 (.s (.u16 (.u16 (.u16 (.u8 (.u4 (.u2 (.u .n))))))))))))))))) : q := f h
theorem z2x1 {p q : Prop} (f : p → q) (h : p := by exact wk [some 0, some 1, some 2] (.u2 (.u (.c rfl (.c rfl (.u2 (.c rfl (.u32 (.u16 (.u2 (.u (.c rfl (.u16 (.u8 (.u2 (.u .nil))))))))))))))) (.b rfl (.e aA (.e aG .nil)) (.b rfl (.c rfl (.c rfl (.c rfl (.c rfl (.c rfl (.e aB (.e aN .nil))))))) (.b rfl (.c rfl (.c rfl (.c rfl (.c rfl (.c rfl (.e aB (.e aN .nil))))))) .nil))) rfl) : q := f h
abbrev R1_alike_S (rec_R1_alike : Tm → Tm → (List Str) → (List Str) → Option Bool) : Prop := ∀ (p0 : Tm) (p1 : Tm) (p2 : List Str) (p3 : List Str) (r : Bool), rec_R1_alike p0 p1 p2 p3 = some r → ak Tryz.prog 77 [bg p0, bg p1, bQ p2, bQ p3] [] (.bool r) []
theorem VY (n : Nat) (rec_R1_alike : Tm → Tm → (List Str) → (List Str) → Option Bool) (hrec_R1_alike : R1_alike_S rec_R1_alike) (p0 : Tm) (p1 : Tm) (p2 : List Str) (p3 : List Str) (r : Bool) (h : yu n rec_R1_alike p0 p1 p2 p3 = some r) : ak Tryz.prog 77 [bg p0, bg p1, bQ p2, bQ p3] [] (.bool r) [] := by
 unfold yu at h
 refine ah true Tryz.func77 rfl (nt Tryz.ntmps77 rfl) fun Q hQ t ht => ?_
 conv at ht => whnf
 subst ht
 refine .q fun K1 k1 => rg 2 ?_
 refine k1 _ _ ?_
 refine .q fun K2 k2 => .q fun K3 k3 => ?_
 obtain ⟨s1, hj1, h⟩ := ob h
 have hR1 : ∀ t9 h9, Le 0 t9 h9 (u2 (bQ p2 :: (bQ p3 :: (.ptr 0 0 :: (.ptr 1 0 :: (u32 (u4 (.bool s1 :: (u32 (u16 (u8 (u4 (u2 (.unk :: [])))))))))))))) [.box [.i p0.op, .str p0.name, .i p0.n, .i p0.ty.kind, .str p0.ty.name, aI p0.ty.kids, bn p0.kids], .box [.i p1.op, .str p1.name, .i p1.n, .i p1.ty.kind, .str p1.ty.name, aI p1.ty.kids, bn p1.kids]] → K3 t9 h9 := by
  intro t9 h9 hw
  refine k3 _ _ (AW.le hw ?_)
  clear hw
  refine .aC rfl h (fun hc1 h => ?_) (fun hc1 h => ?_)
  ·refine .q fun K4 k4 => rg 0 ?_
   refine k4 _ _ ?_
   refine .ret ?_
   have e9 := sj h
   subst e9
   refine hQ _ _ _ (aj aD (fun g => rfl) ?_)
   conv => whnf
  refine .skip ?_
  refine k2 _ _ ?_
  refine .q fun K5 k5 => .q fun K6 k6 => rg 0 ?_
  refine k6 _ _ ?_
  refine .aC rfl h (fun hc2 h => ?_) (fun hc2 h => ?_)
  ·refine .q fun K7 k7 => rg 0 ?_
   obtain ⟨x1, hx1, h⟩ := ob h
   refine au (WM _ _ _ _ hx1) ahT (.cons (.same _) (.cons (.same _) .nil)) (fun g => by simp) (fun g => rfl) ?_
   obtain ⟨x2, hx2, h⟩ := ob h
   refine au (WM _ _ _ _ hx2) ahT (.cons (.same _) (.cons (.same _) .nil)) (fun g => by simp) (fun g => rfl) ?_
   refine ⟨rfl, ?_⟩
   refine k7 _ _ ?_
   refine .q fun K8 k8 => ?_
   obtain ⟨s2, hj2, h⟩ := ob h
   have hR2 : ∀ t9 h9, Le 0 t9 h9 (u8 (.bool s2 :: (u64 (u32 (.unk :: []))))) [] → K8 t9 h9 := by
    intro t9 h9 hw
    refine k8 _ _ (AW.le hw ?_)
    clear hw
    refine .ret ?_
    have e9 := sj h
    subst e9
    refine hQ _ _ _ (aj aD (fun g => rfl) ?_)
    conv => whnf
   refine rg 0 ?_
   refine aH hj2 (fun hc3 hj2 => ?_) (fun hc3 hj2 => ?_)
   ·refine aH hj2 (fun hc4 hj2 => ?_) (fun hc4 hj2 => ?_)
    ·cases hj2
     exact hR2 _ _ (wk [] (.u8 (.c rfl (.u64 (.u32 (.u .nil))))) .nil rfl)
    cases hj2
    exact hR2 _ _ (wk [] (.u8 (.c rfl (.u64 (.u32 (.u .nil))))) .nil rfl)
   cases hj2
   exact hR2 _ _ (wk [] (.u8 (.c rfl (.u64 (.u32 (.u .nil))))) .nil rfl)
  refine .skip ?_
  refine k5 _ _ ?_
  refine .q fun K9 k9 => .q fun K10 k10 => rg 0 ?_
  refine k10 _ _ ?_
  refine .block ?_
  obtain ⟨o1, ho1, h⟩ := ob h
  have hR3 : ∀ s4 : Unit, o1 = .nx s4 → ∀ t9 h9, Le 0 t9 h9 (u64 (u32 (u8 (u2 [])))) [] → K9 t9 h9 := by
   intro s4 ho
   subst ho
   dsimp only [LR.el] at h
   intro t9 h9 hw
   refine k9 _ _ (AW.le hw ?_)
   refine .q fun K11 k11 => rg 0 ?_
   refine k11 _ _ ?_
   refine .ret ?_
   have e9 := sj h
   subst e9
   refine hQ _ _ _ (aj aD (fun g => rfl) ?_)
   conv => whnf
  refine .loopS (qh n rec_R1_alike p0 p1 p2 p3) (fun (s3 : Int) => (u2 (bQ p2 :: (bQ p3 :: (.ptr 0 0 :: (.ptr 1 0 :: (u4 (.unk :: (.i s3 :: (u64 (u16 (u8 (u4 (u2 [])))))))))))))) (fun (s3 : Int) => [.box [.i p0.op, .str p0.name, .i p0.n, .i p0.ty.kind, .str p0.ty.name, aI p0.ty.kids, bn p0.kids], .box [.i p1.op, .str p1.name, .i p1.n, .i p1.ty.kind, .str p1.ty.name, aI p1.ty.kids, bn p1.kids]]) ho1 (fun _ => rfl) (li (.u2 (.s (.s (.s (.s (.u4 (.u (.s (.u16 (.u16 (.u16 (.u16 (.u16 (.u8 (.u4 (.u2 .n))))))))))))))))) ?_
  intro n1 s3 hs1 KL1 hKL1
  unfold qh at hs1
  refine .q fun K12 k12 => .q fun K13 k13 => rg 0 ?_
  refine aW (l := p0.kids) (f := aS) ?_
  refine k13 _ _ ?_
  refine .aC rfl hs1 (fun hc5 hs1 => ?_) (fun hc5 hs1 => ?_)
  ·refine .skip ?_
   refine k12 _ _ ?_
   refine .q fun K14 k14 => ?_
   refine .block ?_
   refine .q fun K15 k15 => rg 0 ?_
   refine k15 _ _ ?_
   refine .q fun K16 k16 => ?_
   obtain ⟨s5, hj3, hs1⟩ := ob hs1
   have hR4 : ∀ t9 h9, Le 0 t9 h9 (u2 (bQ p2 :: (bQ p3 :: (.ptr 0 0 :: (.ptr 1 0 :: (u4 (.unk :: (.i s3 :: (bQ s5.1 :: (bQ s5.2 :: (u64 (u16 (u8 (u4 [])))))))))))))) [.box [.i p0.op, .str p0.name, .i p0.n, .i p0.ty.kind, .str p0.ty.name, aI p0.ty.kids, bn p0.kids], .box [.i p1.op, .str p1.name, .i p1.n, .i p1.ty.kind, .str p1.ty.name, aI p1.ty.kids, bn p1.kids]] → K16 t9 h9 := by
    intro t9 h9 hw
    refine k16 _ _ (AW.le hw ?_)
    clear hw
    refine .q fun K17 k17 => rg 0 ?_
    obtain ⟨x3, hx3, hs1⟩ := ob hs1
    refine aJ (l := p0.kids) (f := aS) (cs := [.i ((x3).op), .str ((x3).name), .i ((x3).n), .i (((x3).ty).kind), .str (((x3).ty).name), aI (((x3).ty).kids), bn ((x3).kids)]) hx3 (aX x3) rfl ?_
    obtain ⟨x4, hx4, hs1⟩ := ob hs1
    refine aJ (l := p1.kids) (f := aS) (cs := [.i ((x4).op), .str ((x4).name), .i ((x4).n), .i (((x4).ty).kind), .str (((x4).ty).name), aI (((x4).ty).kids), bn ((x4).kids)]) hx4 (aX x4) rfl ?_
    obtain ⟨x5, hx5, hs1⟩ := ob hs1
    refine au (hrec_R1_alike _ _ _ _ _ hx5) alF (.cons (.same _) (.cons (.same _) (.cons (.same _) (.cons (.same _) .nil)))) (fun g => by simp) (fun g => rfl) ?_
    refine ⟨rfl, ?_⟩
    refine k17 _ _ ?_
    refine .aC rfl hs1 (fun hc6 hs1 => ?_) (fun hc6 hs1 => ?_)
    ·refine .q fun K18 k18 => rg 0 ?_
     refine k18 _ _ ?_
     refine .ret ?_
     have e9 := sj hs1
     subst e9
     dsimp only [LR.el] at h
     have e9 := sj h
     subst e9
     refine hQ _ _ _ (aj aD (fun g => rfl) ?_)
     conv => whnf
    refine .skip ?_
    refine k14 _ _ ?_
    refine .know 11 0 fun hv1 => ?_
    refine .know 93 0 fun hv2 => ?_
    refine rg 0 ?_
    refine ⟨(s3 + 1), by have := dn hv1; have := eP hv2; have h8 := of_decide_eq_true hc5; exact bG (by omega) (by omega), ?_⟩
    exact hKL1 _ _ _ hs1 (li (.u2 (.s (.s (.s (.s (.u4 (.u (.s (.u16 (.u16 (.u16 (.u16 (.u16 (.u8 (.u4 (.u2 .n)))))))))))))))))
   refine .q fun K19 k19 => ?_
   obtain ⟨s6, hj4, hj3⟩ := ob hj3
   have hR5 : ∀ t9 h9, Le 0 t9 h9 (u2 (bQ p2 :: (bQ p3 :: (.ptr 0 0 :: (.ptr 1 0 :: (u4 (.unk :: (.i s3 :: (bQ p2 :: (bQ p3 :: (u64 (u4 (.unk :: (.bool s6 :: (u16 (u4 (u2 []))))))))))))))))) [.box [.i p0.op, .str p0.name, .i p0.n, .i p0.ty.kind, .str p0.ty.name, aI p0.ty.kids, bn p0.kids], .box [.i p1.op, .str p1.name, .i p1.n, .i p1.ty.kind, .str p1.ty.name, aI p1.ty.kids, bn p1.kids]] → K19 t9 h9 := by
    intro t9 h9 hw
    refine k19 _ _ (AW.le hw ?_)
    clear hw
    refine .aC rfl hj3 (fun hc7 hj3 => ?_) (fun hc7 hj3 => ?_)
    ·refine rg 0 ?_
     obtain ⟨x6, hx6, hj3⟩ := ob hj3
     refine cp (Gq _ _ _ _ hx6) RD (.cons (.same _) (.cons (.same _) .nil)) ?_
     obtain ⟨x7, hx7, hj3⟩ := ob hj3
     refine cp (Gq _ _ _ _ hx7) RD (.cons (.same _) (.cons (.same _) .nil)) ?_
     refine ⟨rfl, ?_⟩
     cases hj3
     exact hR4 _ _ (li (.u2 (.s (.s (.s (.s (.u4 (.u (.s (.s (.s (.u16 (.u16 (.u16 (.u16 (.u16 (.u8 (.u4 .n))))))))))))))))))
    refine .skip ?_
    cases hj3
    exact hR4 _ _ (li (.u2 (.s (.s (.s (.s (.u4 (.u (.s (.s (.s (.u16 (.u16 (.u16 (.u16 (.u16 (.u8 (.u4 .n))))))))))))))))))
   refine rg 0 ?_
   obtain ⟨x8, hx8, hj4⟩ := ob hj4
   refine au (qD _ _ _ hx8) E8 (.cons (.same _) .nil) (fun g => rfl) (fun g => rfl) ?_
   refine aH hj4 (fun hc8 hj4 => ?_) (fun hc8 hj4 => ?_)
   ·cases hj4
    exact hR5 _ _ (li (.u2 (.s (.s (.s (.s (.u4 (.u (.s (.s (.s (.u16 (.u16 (.u16 (.u16 (.u4 (.u (.s (.u16 (.u4 (.u2 .n)))))))))))))))))))))
   cases hj4
   exact hR5 _ _ (li (.u2 (.s (.s (.s (.s (.u4 (.u (.s (.s (.s (.u16 (.u16 (.u16 (.u16 (.u4 (.u (.s (.u16 (.u4 (.u2 .n)))))))))))))))))))))
  refine .exit ?_
  exact hR3 _ (sj hs1).symm _ _ (wk [] (.u64 (.u32 (.u8 (.u2 .nil)))) .nil rfl)
 refine rg 0 ?_
 refine aH hj1 (fun hc9 hj1 => ?_) (fun hc9 hj1 => ?_)
 ·cases hj1
  exact z2x0 (hR1 _ _)
 refine aH hj1 (fun hc10 hj1 => ?_) (fun hc10 hj1 => ?_)
 ·cases hj1
  exact z2x0 (hR1 _ _)
 obtain ⟨x9, hx9, hj1⟩ := ob hj1
 refine au (cB _ _ _ _ hx9) iQ (.cons (.same _) (.cons (.same _) .nil)) (fun g => by simp) (fun g => rfl) ?_
 refine aH hj1 (fun hc11 hj1 => ?_) (fun hc11 hj1 => ?_)
 ·cases hj1
  exact z2x0 (hR1 _ _)
 refine aW (l := p0.kids) (f := aS) ?_
 refine aW (l := p1.kids) (f := aS) ?_
 cases hj1
 exact z2x0 (hR1 _ _)
theorem ae6 (n : Nat) : R1_alike_S (l9 n) := by
 induction n with
 | zero => exact (fun p0 p1 p2 p3 r h => by unfold l9 at h; cases h)
 | succ n ih =>
  exact (fun p0 p1 p2 p3 r h => VY n _ ih p0 p1 p2 p3 r (by unfold l9 at h; exact h))
theorem agD (n : Nat) : R1_alike_S (l9 n) := (ae6 n)
theorem agc (n : Nat) (p0 : Tm) (p1 : Tm) (r : Bool) (h : MK n p0 p1 = some r) : ak Tryz.prog 24 [bg p0, bg p1] [] (.bool r) [] := by
 unfold MK at h
 refine ah true Tryz.func24 rfl (nt Tryz.ntmps24 rfl) fun Q hQ t ht => ?_
 conv at ht => whnf
 subst ht
 refine .q fun K1 k1 => rg 2 ?_
 refine k1 _ _ ?_
 refine .q fun K2 k2 => ?_
 obtain ⟨s1, hj1, h⟩ := ob h
 have hR1 : ∀ t9 h9, Le 0 t9 h9 (u4 (.bool s1 :: (u8 (u2 (.unk :: []))))) [] → K2 t9 h9 := by
  intro t9 h9 hw
  refine k2 _ _ (AW.le hw ?_)
  clear hw
  refine .ret ?_
  have e9 := sj h
  subst e9
  refine hQ _ _ _ (aj aD (fun g => rfl) ?_)
  conv => whnf
 refine rg 0 ?_
 obtain ⟨x1, hx1, hj1⟩ := ob hj1
 refine au (jE _ _ _ hx1) uP (.cons (.same _) .nil) (fun g => by simp) (fun g => rfl) ?_
 refine aH hj1 (fun hc1 hj1 => ?_) (fun hc1 hj1 => ?_)
 ·obtain ⟨x2, hx2, hj1⟩ := ob hj1
  refine au (jE _ _ _ hx2) uP (.cons (.same _) .nil) (fun g => by simp) (fun g => rfl) ?_
  refine aH hj1 (fun hc2 hj1 => ?_) (fun hc2 hj1 => ?_)
  ·obtain ⟨x3, hx3, hj1⟩ := ob hj1
   refine au (agD _ _ _ _ _ _ hx3) alF (.cons (.same _) (.cons (.same _) (.cons (.share _ _) (.cons (.share _ _) .nil)))) (fun g => by simp) (fun g => rfl) ?_
   cases hj1
   exact hR1 _ _ (wk [] (.u4 (.c rfl (.u8 (.u2 (.u .nil))))) .nil rfl)
  cases hj1
  exact hR1 _ _ (wk [] (.u4 (.c rfl (.u8 (.u2 (.u .nil))))) .nil rfl)
 cases hj1
 exact hR1 _ _ (wk [] (.u4 (.c rfl (.u8 (.u2 (.u .nil))))) .nil rfl)
theorem Tg (n : Nat) (p0 : Env) (p1 : Tm) (p2 : List Int) (r : Bool) (h : Aj n p0 p1 p2 = some r) : ak Tryz.prog 4 [dz p0, bg p1, mE p2] [] (.bool r) [] := by
 unfold Aj at h
 refine ah true Tryz.func4 rfl (nt Tryz.ntmps4 rfl) fun Q hQ t ht => ?_
 conv at ht => whnf
 subst ht
 refine .q fun K1 k1 => rg 2 ?_
 refine k1 _ _ ?_
 refine .q fun K2 k2 => .q fun K3 k3 => ?_
 obtain ⟨s1, hj1, h⟩ := ob h
 have hR1 : ∀ t9 h9, Le 0 t9 h9 (u2 (mE p2 :: (.ptr 0 0 :: (.ptr 1 0 :: (u16 (u4 (.bool s1 :: (u32 (u16 (u8 (u4 (.unk :: [])))))))))))) [.box [bT p0.carriers, bU p0.names], .box [.i p1.op, .str p1.name, .i p1.n, .i p1.ty.kind, .str p1.ty.name, aI p1.ty.kids, bn p1.kids]] → K3 t9 h9 := by
  intro t9 h9 hw
  refine k3 _ _ (AW.le hw ?_)
  clear hw
  refine .aC rfl h (fun hc1 h => ?_) (fun hc1 h => ?_)
  ·refine .q fun K4 k4 => rg 0 ?_
   obtain ⟨x1, hx1, h⟩ := ob h
   refine au (cZ _ _ hx1) gJ .nil (fun g => rfl) (fun g => rfl) ?_
   refine k4 _ _ ?_
   refine .ret ?_
   have e9 := sj h
   subst e9
   refine hQ _ _ _ (aj aD (fun g => rfl) ?_)
   conv => whnf
  refine .skip ?_
  refine k2 _ _ ?_
  refine .q fun K5 k5 => rg 1 ?_
  obtain ⟨x2, hx2, h⟩ := ob h
  refine cp (ajx _ _ _ _ hx2) aqp (.cons (.same _) (.cons (.same _) .nil)) ?_
  refine k5 _ _ ?_
  refine .q fun K6 k6 => rg 1 ?_
  obtain ⟨x3, hx3, h⟩ := ob h
  refine cp (fu _ _ _ _ hx3) tX (.cons (.same _) (.cons (.same _) .nil)) ?_
  refine k6 _ _ ?_
  refine .q fun K7 k7 => rg 1 ?_
  obtain ⟨x4, hx4, h⟩ := ob h
  refine cp (fu _ _ _ _ hx4) tX (.cons (.same _) (.cons (.same _) .nil)) ?_
  refine k7 _ _ ?_
  refine .q fun K8 k8 => .q fun K9 k9 => ?_
  obtain ⟨s2, hj2, h⟩ := ob h
  have hR2 : ∀ t9 h9, Le 0 t9 h9 (u2 (.unk :: (.ptr 0 0 :: (.ptr 1 0 :: (u2 (.ptr 2 0 :: (u32 (u16 (u2 (.unk :: (.bool s2 :: (u16 (u8 (u2 (.unk :: []))))))))))))))) [.box [bT p0.carriers, bU p0.names], .box [.i p1.op, .str p1.name, .i p1.n, .i p1.ty.kind, .str p1.ty.name, aI p1.ty.kids, bn p1.kids], .box [.i x2.op, .str x2.name, .i x2.n, .i x2.ty.kind, .str x2.ty.name, aI x2.ty.kids, bn x2.kids]] → K9 t9 h9 := by
   intro t9 h9 hw
   refine k9 _ _ (AW.le hw ?_)
   clear hw
   refine .aC rfl h (fun hc2 h => ?_) (fun hc2 h => ?_)
   ·refine .q fun K10 k10 => rg 0 ?_
    refine k10 _ _ ?_
    refine .ret ?_
    have e9 := sj h
    subst e9
    refine hQ _ _ _ (aj aD (fun g => rfl) ?_)
    conv => whnf
   refine .skip ?_
   refine k8 _ _ ?_
   refine .q fun K11 k11 => rg 1 ?_
   obtain ⟨x5, hx5, h⟩ := ob h
   refine cp (l7 _ _ _ _ hx5) Iq (.cons (.same _) (.cons (.same _) .nil)) ?_
   refine k11 _ _ ?_
   refine .q fun K12 k12 => rg 1 ?_
   obtain ⟨x6, hx6, h⟩ := ob h
   refine cp (l7 _ _ _ _ hx6) Iq (.cons (.same _) (.cons (.same _) .nil)) ?_
   refine k12 _ _ ?_
   refine .q fun K13 k13 => ?_
   obtain ⟨s3, hj3, h⟩ := ob h
   have hR3 : ∀ t9 h9, Le 0 t9 h9 (u4 (u2 (.bool s3 :: (u64 (u16 []))))) [] → K13 t9 h9 := by
    intro t9 h9 hw
    refine k13 _ _ (AW.le hw ?_)
    clear hw
    refine .ret ?_
    have e9 := sj h
    subst e9
    refine hQ _ _ _ (aj aD (fun g => rfl) ?_)
    conv => whnf
   refine rg 0 ?_
   refine aH hj3 (fun hc3 hj3 => ?_) (fun hc3 hj3 => ?_)
   ·refine aH hj3 (fun hc4 hj3 => ?_) (fun hc4 hj3 => ?_)
    ·obtain ⟨x7, hx7, hj3⟩ := ob hj3
     refine au (cZ _ _ hx7) gJ .nil (fun g => rfl) (fun g => rfl) ?_
     cases hj3
     exact hR3 _ _ (wk [] (.u4 (.u2 (.c rfl (.u64 (.u16 .nil))))) .nil rfl)
    obtain ⟨x8, hx8, hj3⟩ := ob hj3
    refine au (agc _ _ _ _ hx8) aq8 (.cons (.same _) (.cons (.same _) .nil)) (fun g => by simp) (fun g => rfl) ?_
    refine aH hj3 (fun hc5 hj3 => ?_) (fun hc5 hj3 => ?_)
    ·obtain ⟨x9, hx9, hj3⟩ := ob hj3
     refine au (cZ _ _ hx9) gJ .nil (fun g => rfl) (fun g => rfl) ?_
     cases hj3
     exact hR3 _ _ (wk [] (.u4 (.u2 (.c rfl (.u64 (.u16 .nil))))) .nil rfl)
    cases hj3
    exact hR3 _ _ (wk [] (.u4 (.u2 (.c rfl (.u64 (.u16 .nil))))) .nil rfl)
   cases hj3
   exact hR3 _ _ (wk [] (.u4 (.u2 (.c rfl (.u64 (.u16 .nil))))) .nil rfl)
  refine rg 0 ?_
  refine aH hj2 (fun hc6 hj2 => ?_) (fun hc6 hj2 => ?_)
  ·cases hj2
   exact z2x1 (hR2 _ _)
  refine aW (l := x3.2.1) (f := encI) ?_
  refine aW (l := x4.2.1) (f := encI) ?_
  refine aH hj2 (fun hc7 hj2 => ?_) (fun hc7 hj2 => ?_)
  ·cases hj2
   exact z2x1 (hR2 _ _)
  obtain ⟨x10, hx10, hj2⟩ := ob hj2
  refine au (cB _ _ _ _ hx10) iQ (.cons (.same _) (.cons (.same _) .nil)) (fun g => by simp) (fun g => rfl) ?_
  cases hj2
  exact z2x1 (hR2 _ _)
 refine rg 0 ?_
 obtain ⟨x11, hx11, hj1⟩ := ob hj1
 refine au (iZ _ _ _ hx11) uo (.cons (.same _) .nil) (fun g => by simp) (fun g => rfl) ?_
 refine aH hj1 (fun hc8 hj1 => ?_) (fun hc8 hj1 => ?_)
 ·cases hj1
  exact hR1 _ _ (li (.u2 (.s (.s (.s (.u16 (.u4 (.s (.u16 (.u16 (.u16 (.u8 (.u4 (.u .n))))))))))))))
 obtain ⟨x12, hx12, hj1⟩ := ob hj1
 refine au (jE _ _ _ hx12) uP (.cons (.same _) .nil) (fun g => by simp) (fun g => rfl) ?_
 cases hj1
 exact hR1 _ _ (li (.u2 (.s (.s (.s (.u16 (.u4 (.s (.u16 (.u16 (.u16 (.u8 (.u4 (.u .n))))))))))))))
end Abs
end Go.Proofs.YtiiaccpcoclklaaGreat
