/-
  Contracts of Go functions (printed). Conditions: none.
-/
import Derived.KernelRfl
import Derived.Test.YtiiaccpcoclklaaGreatCS9ox04a428
set_option linter.unusedSimpArgs false
set_option linter.unusedVariables false
namespace Go.Proofs.YtiiaccpcoclklaaGreat
namespace Abs
open Go Go.Proofs
set_option maxRecDepth 100000
set_option maxHeartbeats 40000000
theorem Y1 (n : Nat) (p0 : Str) (p1 : Int) (p2 : Str) (p3 p4 : Int) (p5 p6 : Int) (r : Int × Int) (h : EO n p0 p1 p2 p3 p4 p5 p6 = some r) : aB Tryz.prog 83 [.ptr 0 0] [.box [.str p0, .i p1, .str p2, .i p3, .i p4, .i p5, .i p6]] (.aW []) [.box [.str p0, .i p1, .str p2, .i p3, .i p4, .i r.1, .i r.2]] := by
 unfold EO at h
 refine ah true Tryz.func83 rfl (nt Tryz.ntmps83 rfl) fun Q hQ t ht => ?_
 conv at ht => whnf
 subst ht
 refine .q fun K1 k1 => ?_
 obtain ⟨s1, hj1, h⟩ := ob h
 have hR1 : ∀ t9 h9, Le 1 t9 h9 (.ptr 0 0 :: (u8 (u2 (.bool s1 :: (u2 []))))) [.box [.str p0, .i p1, .str p2, .i p3, .i p4, .i p5, .i p6]] → K1 t9 h9 := by
  intro t9 h9 hw
  refine k1 _ _ (AW.le hw ?_)
  clear hw
  refine .ak rfl h (fun hc1 h => ?_) (fun hc1 h => ?_)
  ·refine rg 0 ?_
   obtain ⟨x1, hx1, h⟩ := ob h
   refine cg [0] [] [.ptr 0 0] (uL _ _ _ _ _ _ _ _ _ hx1) (.aW []) [.box [.str p0, .i p1, .str p2, .i p3, .i p4, .i x1.1, .i x1.2]] ?_
   obtain rfl := sj h
   exact hQ _ _ _ (rI [0])
  refine .skip ?_
  obtain rfl := sj h
  exact hQ _ _ _ (rI [0])
 refine rg 0 (cg [0] [] [.ptr 0 0] (iJ 0 p0 p1 p2 p3 p4 p5 p6 _ rfl) (.bool (p6 == 0)) [.box [.str p0, .i p1, .str p2, .i p3, .i p4, .i p5, .i p6]] ?_)
 refine aD hj1 (fun hc2 hj1 => ?_) (fun hc2 hj1 => ?_)
 ·cases hj1
  exact hR1 _ _ (li (.s (.u8 (.u2 (.s (.u2 .n))))))
 cases hj1
 exact hR1 _ _ (li (.s (.u8 (.u2 (.s (.u2 .n))))))
theorem akp (n : Nat) (p0 : Str) (r : Tm × Int × Int) (h : KI n p0 = some r) : aB Tryz.prog 29 [.str p0] [] (.aW [bD r.1, .i r.2.1, .i r.2.2]) [] := by
 unfold KI at h
 refine ah true Tryz.func29 rfl (nt Tryz.ntmps29 rfl) fun Q hQ t ht => ?_
 conv at ht => whnf
 subst ht
 refine .r1 fun K1 k1 => (k1 _ _ ?_)
 refine .q fun K2 k2 => .r fun K3 k3 => (k3 _ _ ?_)
 refine .ak rfl h (fun hc1 h => ?_) (fun hc1 h => ?_)
 ·refine .r fun K4 k4 => (k4 _ _ ?_)
  refine .ret ?_
  obtain rfl := sj h
  exact hQ _ _ _ rp
 refine .skip (k2 _ _ ?_)
 refine .r1 fun K5 k5 => ?_
 obtain ⟨x1, hx1, h⟩ := ob h
 refine aj (U7 _ _ _ _ hx1) aM (.cons (.same _) (.cons (.same _) .nil)) (fun g => rfl) (fun g => by simp) (k5 _ _ ?_)
 refine .r1 fun K6 k6 => ?_
 obtain ⟨x2, hx2, h⟩ := ob h
 refine bZ [1] [] [.ptr 0 0, .i 1] [.ptr 1 0, .i 1] (VR _ _ _ _ _ _ _ _ _ _ hx2) aM rfl (.cons (rfl) .nil) (rfl) (.cons (.same _) (.cons (.same _) .nil)) (rn := bD x2.1) (by simp; try decide) (Hn := [.box [.str p0, .i x2.2.1, .str x2.2.2.1, .i x2.2.2.2.1, .i x2.2.2.2.2.1, .i x2.2.2.2.2.2.1, .i x2.2.2.2.2.2.2]]) ((bN (rfl) rfl)) (k6 _ _ ?_)
 refine .r fun K7 k7 => ?_
 obtain ⟨x3, hx3, h⟩ := ob h
 refine bZ [1] [] [.ptr 0 0] [.ptr 1 0] (Y1 _ _ _ _ _ _ _ _ _ hx3) aM rfl (.cons (rfl) .nil) (rfl) (.cons (.same _) .nil) (rn := .aW []) (rfl) (Hn := [.box [.str p0, .i x2.2.1, .str x2.2.2.1, .i x2.2.2.2.1, .i x2.2.2.2.2.1, .i x3.1, .i x3.2]]) ((bN (rfl) rfl)) (k7 _ _ ?_)
 refine .q fun K8 k8 => .r fun K9 k9 => (bZ [1] [] [.ptr 0 0] [.ptr 1 0] (iJ 0 p0 x2.2.1 x2.2.2.1 x2.2.2.2.1 x2.2.2.2.2.1 x3.1 x3.2 _ rfl) aM rfl (.cons (rfl) .nil) (rfl) (.cons (.same _) .nil) (rn := .bool (x3.2 == 0)) (rfl) (Hn := [.box [.str p0, .i x2.2.1, .str x2.2.2.1, .i x2.2.2.2.1, .i x2.2.2.2.2.1, .i x3.1, .i x3.2]]) ((bN (rfl) rfl)) ?_)
 refine k9 _ _ (.ak rfl h (fun hc2 h => ?_) (fun hc2 h => ?_))
 ·refine .r fun K10 k10 => (⟨rfl, ?_⟩)
  refine k10 _ _ (.ret ?_)
  obtain rfl := sj h
  exact hQ _ _ _ rp
 refine .skip (k8 _ _ ?_)
 refine .q fun K11 k11 => .r fun K12 k12 => ?_
 obtain ⟨x4, hx4, h⟩ := ob h
 refine aj (iK _ _ _ hx4) aM (.cons (.same _) .nil) (fun g => by simp) (fun g => rfl) (k12 _ _ ?_)
 refine .ak rfl h (fun hc3 h => ?_) (fun hc3 h => ?_)
 ·refine .r fun K13 k13 => (k13 _ _ ?_)
  refine .ret ?_
  obtain rfl := sj h
  exact hQ _ _ _ rp
 refine .skip (k11 _ _ ?_)
 refine .r fun K14 k14 => (k14 _ _ ?_)
 refine .ret ?_
 obtain rfl := sj h
 exact hQ _ _ _ rp
theorem RF (n : Nat) (p0 : Env) (p1 : Tm) (r : Bool) (h : AA n p0 p1 = some r) : aB Tryz.prog 6 [dR p0, bD p1] [] (.bool r) [] := by
 unfold AA at h
 refine ah true Tryz.func6 rfl (nt Tryz.ntmps6 rfl) fun Q hQ t ht => ?_
 conv at ht => whnf
 subst ht
 refine .q fun K1 k1 => rg 2 (k1 _ _ ?_)
 refine .q fun K2 k2 => .q fun K3 k3 => ?_
 obtain ⟨s1, hj1, h⟩ := ob h
 have hR1 : ∀ t9 h9, Le 0 t9 h9 (u2 (.ptr 0 0 :: (.ptr 1 0 :: (u16 (u4 (u2 (.bool s1 :: (u32 (u8 (u4 [])))))))))) [.box [bT p0.carriers, bW p0.names], .box [.i p1.op, .str p1.name, .i p1.n, .i p1.ty.kind, .str p1.ty.name, aH p1.ty.kids, aZ p1.kids]] → K3 t9 h9 := by
  intro t9 h9 hw
  refine k3 _ _ (AW.le hw ?_)
  clear hw
  refine .ak rfl h (fun hc1 h => ?_) (fun hc1 h => ?_)
  ·refine .r fun K4 k4 => ?_
   obtain ⟨x1, hx1, h⟩ := ob h
   refine aj (cZ _ _ hx1) aM .nil (fun g => rfl) (fun g => rfl) (k4 _ _ ?_)
   refine .ret ?_
   obtain rfl := sj h
   exact hQ _ _ _ rp
  refine .skip (k2 _ _ ?_)
  refine .r1 fun K5 k5 => ?_
  obtain ⟨x2, hx2, h⟩ := ob h
  refine aj (Ua _ _ _ hx2) aM (.cons (.same _) .nil) (fun g => by simp) (fun g => rfl) ?_
  obtain ⟨x3, hx3, h⟩ := ob h
  refine aj (akp _ _ _ hx3) aM (.cons (.same _) .nil) (fun g => rfl) (fun g => by simp) (k5 _ _ ?_)
  refine .r1 fun K6 k6 => ?_
  obtain ⟨x4, hx4, h⟩ := ob h
  refine cP (fA _ _ _ _ hx4) (k6 _ _ ?_)
  refine .r1 fun K7 k7 => ?_
  obtain ⟨x5, hx5, h⟩ := ob h
  refine cP (fA _ _ _ _ hx5) (k7 _ _ ?_)
  refine .q fun K8 k8 => ?_
  obtain ⟨s2, hj2, h⟩ := ob h
  have hR2 : ∀ t9 h9, Le 0 t9 h9 (u4 (.bool s2 :: (u64 (u2 [])))) [] → K8 t9 h9 := by
   intro t9 h9 hw
   refine k8 _ _ (AW.le hw ?_)
   clear hw
   refine .ret ?_
   obtain rfl := sj h
   exact hQ _ _ _ rp
  refine rg 0 (aD hj2 (fun hc2 hj2 => ?_) (fun hc2 hj2 => ?_))
  ·refine aD hj2 (fun hc3 hj2 => ?_) (fun hc3 hj2 => ?_)
   ·refine aV (l := x4.2.1) (f := encI) (aV (l := x5.2.1) (f := encI) ?_)
    refine aD hj2 (fun hc4 hj2 => ?_) (fun hc4 hj2 => ?_)
    ·obtain ⟨x6, hx6, hj2⟩ := ob hj2
     refine aj (cO _ _ _ _ hx6) aM (.cons (.same _) (.cons (.same _) .nil)) (fun g => by simp) (fun g => rfl) (aD hj2 (fun hc5 hj2 => ?_) (fun hc5 hj2 => ?_))
     ·obtain ⟨x7, hx7, hj2⟩ := ob hj2
      refine aj (cZ _ _ hx7) aM .nil (fun g => rfl) (fun g => rfl) ?_
      cases hj2
      exact hR2 _ _ (wk [] (.u4 (.c rfl (.u64 (.u2 .nil)))) .nil rfl)
     cases hj2
     exact hR2 _ _ (wk [] (.u4 (.c rfl (.u64 (.u2 .nil)))) .nil rfl)
    cases hj2
    exact hR2 _ _ (wk [] (.u4 (.c rfl (.u64 (.u2 .nil)))) .nil rfl)
   cases hj2
   exact hR2 _ _ (wk [] (.u4 (.c rfl (.u64 (.u2 .nil)))) .nil rfl)
  cases hj2
  exact hR2 _ _ (wk [] (.u4 (.c rfl (.u64 (.u2 .nil)))) .nil rfl)
 refine rg 0 ?_
 obtain ⟨x8, hx8, hj1⟩ := ob hj1
 refine aj (jD _ _ _ hx8) aM (.cons (.same _) .nil) (fun g => by simp) (fun g => rfl) (aD hj1 (fun hc6 hj1 => ?_) (fun hc6 hj1 => ?_))
 ·cases hj1
  exact hR1 _ _ (li (.u2 (.s (.s (.u16 (.u4 (.u2 (.s (.u16 (.u16 (.u8 (.u4 .n))))))))))))
 obtain ⟨x9, hx9, hj1⟩ := ob hj1
 refine aj (iK _ _ _ hx9) aM (.cons (.same _) .nil) (fun g => by simp) (fun g => rfl) (aD hj1 (fun hc7 hj1 => ?_) (fun hc7 hj1 => ?_))
 ·cases hj1
  exact hR1 _ _ (li (.u2 (.s (.s (.u16 (.u4 (.u2 (.s (.u16 (.u16 (.u8 (.u4 .n))))))))))))
 obtain ⟨x10, hx10, hj1⟩ := ob hj1
 refine aj (afk _ _ _ hx10) aM (.cons (.same _) .nil) (fun g => by simp) (fun g => rfl) ?_
 cases hj1
 exact hR1 _ _ (li (.u2 (.s (.s (.u16 (.u4 (.u2 (.s (.u16 (.u16 (.u8 (.u4 .n))))))))))))
end Abs
end Go.Proofs.YtiiaccpcoclklaaGreat
