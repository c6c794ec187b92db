/-
  Contracts of Go functions (printed). Conditions: none.
-/
import Derived.KernelRfl
import Derived.Test.YtiiaccpcoclklaaGreatCT7ox29b38a
set_option linter.unusedSimpArgs false
set_option linter.unusedVariables false
namespace Go.Proofs.YtiiaccpcoclklaaGreat
namespace Abs
open Go Go.Proofs
set_option maxRecDepth 100000
set_option maxHeartbeats 40000000
theorem KX (n : Nat) (p0 r : Ty) (h : Ru n p0 = some r) : aB Tryz.prog 214 [bn p0] [] (bn r) [] := by
 unfold Ru at h
 refine ah true Tryz.func214 rfl (nt Tryz.ntmps214 rfl) fun Q hQ t ht => ?_
 conv at ht => whnf
 subst ht
 refine .q fun K1 k1 => rg 2 (k1 _ _ ?_)
 refine .r fun K2 k2 => (aj (rJ 0 _ rfl) aM .nil (fun g => rfl) (fun g => by simp) ?_)
 refine k2 _ _ (.ret ?_)
 obtain rfl := sj h
 exact hQ _ _ _ rp
theorem Jd (n : Nat) (p0 : List Ty) (r : Ty × Bool) (h : rR n p0 = some r) : aB Tryz.prog 266 [aH p0, .eptr [.func 214 []]] [] (.aW [bn r.1, .bool r.2]) [] := by
 unfold rR at h
 refine ah true Tryz.func266 rfl (nt Tryz.ntmps266 rfl) fun Q hQ t ht => ?_
 conv at ht => whnf
 subst ht
 refine .r1 fun K1 k1 => (k1 _ _ ?_)
 refine .r fun K2 k2 => ?_
 obtain ⟨x1, hx1, h⟩ := ob h
 refine aG (l := p0) (f := aI) (cs := [.i ((x1).kind), .str ((x1).name), aH ((x1).kids)]) hx1 (aR x1) rfl (cP (KX 0 x1 _ rfl) ?_)
 obtain ⟨x2, hx2, h⟩ := ob h
 refine aG (l := p0) (f := aI) (cs := [.i ((x2).kind), .str ((x2).name), aH ((x2).kids)]) hx2 (aR x2) rfl (⟨rfl, ?_⟩)
 refine k2 _ _ (.ret ?_)
 obtain rfl := sj h
 exact hQ _ _ _ rp
abbrev qen (qd0 : (List Ty) → (List Ty) → Option Bool) : Prop := ∀ (p0 : List Ty) (p1 : List Ty) (r : Bool), qd0 p0 p1 = some r → aB Tryz.prog 177 [aH p0, aH p1, .func 93 []] [] (.bool r) []
abbrev qe3 (qeh : Ty → Ty → Option Bool) : Prop := ∀ (p0 p1 : Ty) (r : Bool), qeh p0 p1 = some r → aB Tryz.prog 93 [bn p0, bn p1] [] (.bool r) []
theorem GV (n : Nat) (qd0 : (List Ty) → (List Ty) → Option Bool) (qeh : Ty → Ty → Option Bool) (qca : qen qd0) (qcq : qe3 qeh) (p0 : List Ty) (p1 : List Ty) (r : Bool) (h : l9 n qd0 qeh p0 p1 = some r) : aB Tryz.prog 177 [aH p0, aH p1, .func 93 []] [] (.bool r) [] := by
 unfold l9 at h
 refine ah true Tryz.func177 rfl (nt Tryz.ntmps177 rfl) fun Q hQ t ht => ?_
 conv at ht => whnf
 subst ht
 refine .r fun K1 k1 => (k1 _ _ ?_)
 refine .q fun K2 k2 => .r fun K3 k3 => (aV (l := p0) (f := aI) ?_)
 refine aV (l := p1) (f := aI) (k3 _ _ ?_)
 refine .ak rfl h (fun hc1 h => ?_) (fun hc1 h => ?_)
 ·refine .r fun K4 k4 => (k4 _ _ ?_)
  refine .ret ?_
  obtain rfl := sj h
  exact hQ _ _ _ rp
 refine .skip (k2 _ _ ?_)
 refine .q fun K5 k5 => .r fun K6 k6 => (aV (l := p0) (f := aI) ?_)
 refine k6 _ _ (.block ?_)
 obtain ⟨o1, ho1, h⟩ := ob h
 have hR1 : ∀ s2 : Unit, o1 = .nx s2 → ∀ t9 h9, Le 0 t9 h9 (u32 []) [] → K5 t9 h9 := by
  intro s2 ho
  subst ho
  dsimp only [LR.el] at h
  intro t9 h9 hw
  refine k5 _ _ (AW.le hw ?_)
  refine .r fun K7 k7 => (k7 _ _ ?_)
  refine .ret ?_
  obtain rfl := sj h
  exact hQ _ _ _ rp
 refine .loopS (nR n qd0 qeh p0 p1) (fun (s1 : Int) => (.unk :: (aH p1 :: (.func 93 [] :: (u8 (u4 (aH p0 :: (.i (p0.length : Int) :: (.i s1 :: (u8 (u4 (u2 [])))))))))))) (fun (s1 : Int) => []) ho1 (fun _ => rfl) (li (.u (.s (.s (.u8 (.u4 (.s (.s (.s (.u8 (.u4 (.u2 .n)))))))))))) ?_
 intro n1 s1 hs1 KL1 hKL1
 unfold nR at hs1
 refine .r fun K8 k8 => (k8 _ _ ?_)
 refine .q fun K9 k9 => (.ak rfl hs1 (fun hc2 hs1 => ?_) (fun hc2 hs1 => ?_))
 ·refine .skip (k9 _ _ ?_)
  refine .q fun K10 k10 => (.block ?_)
  refine .r1 fun K11 k11 => ?_
  obtain ⟨x1, hx1, hs1⟩ := ob hs1
  refine aG (l := p0) (f := aI) (cs := [.i ((x1).kind), .str ((x1).name), aH ((x1).kids)]) hx1 (aR x1) rfl (k11 _ _ ?_)
  refine .r1 fun K12 k12 => ?_
  obtain ⟨x2, hx2, hs1⟩ := ob hs1
  refine aG (l := p1) (f := aI) (cs := [.i ((x2).kind), .str ((x2).name), aH ((x2).kids)]) hx2 (aR x2) rfl (k12 _ _ ?_)
  refine .r fun K13 k13 => ?_
  obtain ⟨x3, hx3, hs1⟩ := ob hs1
  refine aj (qcq _ _ _ hx3) aM (.cons (.same _) (.cons (.same _) .nil)) (fun g => by simp) (fun g => rfl) (k13 _ _ ?_)
  refine .ak rfl hs1 (fun hc3 hs1 => ?_) (fun hc3 hs1 => ?_)
  ·refine .r fun K14 k14 => (k14 _ _ ?_)
   refine .ret ?_
   obtain rfl := sj hs1
   dsimp only [LR.el] at h
   obtain rfl := sj h
   exact hQ _ _ _ rp
  refine .skip (k10 _ _ ?_)
  refine .know 7 0 fun hv1 => (.know 15 0 fun hv2 => ?_)
  refine rg 0 (⟨(s1 + 1), by have := dz hv1; have := fG hv2; have h8 := of_decide_eq_true hc2; exact bC (by omega) (by omega), ?_⟩)
  exact hKL1 _ _ _ hs1 (wk [] (.u (.e aA (.cons (.func' .nil) (.u8 (.u4 (.e aA (.c2 (.u8 (.u4 (.u2 .nil)))))))))) .nil rfl)
 refine .exit ?_
 exact hR1 _ (sj hs1).symm _ _ (li (.u16 (.u16 .n)))
theorem Px (n : Nat) (qd0 : (List Ty) → (List Ty) → Option Bool) (qeh : Ty → Ty → Option Bool) (qca : qen qd0) (qcq : qe3 qeh) (p0 p1 : Ty) (r : Bool) (h : vS n qd0 qeh p0 p1 = some r) : aB Tryz.prog 93 [bn p0, bn p1] [] (.bool r) [] := by
 unfold vS at h
 refine ah true Tryz.func93 rfl (nt Tryz.ntmps93 rfl) fun Q hQ t ht => ?_
 conv at ht => whnf
 subst ht
 refine .q fun K1 k1 => rg 2 (k1 _ _ ?_)
 refine .q fun K2 k2 => ?_
 obtain ⟨s1, hj1, h⟩ := ob h
 have hR1 : ∀ t9 h9, Le 0 t9 h9 (u4 (.bool s1 :: (u16 (u2 (.unk :: []))))) [] → K2 t9 h9 := by
  intro t9 h9 hw
  refine k2 _ _ (AW.le hw ?_)
  clear hw
  refine .ret ?_
  obtain rfl := sj h
  exact hQ _ _ _ rp
 refine rg 0 (aD hj1 (fun hc1 hj1 => ?_) (fun hc1 hj1 => ?_))
 ·refine aD hj1 (fun hc2 hj1 => ?_) (fun hc2 hj1 => ?_)
  ·obtain ⟨x1, hx1, hj1⟩ := ob hj1
   refine aj (qca _ _ _ hx1) aM (.cons (.same _) (.cons (.same _) (.cons (.same _) .nil))) (fun g => by simp) (fun g => rfl) ?_
   cases hj1
   exact hR1 _ _ (wk [] (.u4 (.c rfl (.u16 (.u2 (.u .nil))))) .nil rfl)
  cases hj1
  exact hR1 _ _ (wk [] (.u4 (.c rfl (.u16 (.u2 (.u .nil))))) .nil rfl)
 cases hj1
 exact hR1 _ _ (wk [] (.u4 (.c rfl (.u16 (.u2 (.u .nil))))) .nil rfl)
theorem BU (n : Nat) : qen (kP n) ∧ qe3 (gL n) := by
 induction n with
 | zero => exact ⟨(fun p0 p1 r h => by unfold kP at h; cases h), (fun p0 p1 r h => by unfold gL at h; cases h)⟩
 | succ n ih =>
  exact ⟨(fun p0 p1 r h => GV n _ _ ih.1 ih.2 p0 p1 r (by unfold kP at h; exact h)), (fun p0 p1 r h => Px n _ _ ih.1 ih.2 p0 p1 r (by unfold gL at h; exact h))⟩
theorem mU (n : Nat) : qe3 (gL n) := (BU n).2
theorem WU (n : Nat) (p0 : Ty) (p1 : List Ty) (r : Bool) (h : z8 n p0 p1 = some r) : aB Tryz.prog 261 [bn p0, .ptr 0 0] [.box [aH p1]] (.bool r) [.box [aH p1]] := by
 unfold z8 at h
 refine ah true Tryz.func261 rfl (nt Tryz.ntmps261 rfl) fun Q hQ t ht => ?_
 conv at ht => whnf
 subst ht
 refine .r1 fun K1 k1 => (k1 _ _ ?_)
 refine .r fun K2 k2 => ?_
 obtain ⟨x1, hx1, h⟩ := ob h
 refine aG (l := p1) (f := aI) (cs := [.i ((x1).kind), .str ((x1).name), aH ((x1).kids)]) hx1 (aR x1) rfl ?_
 obtain ⟨x2, hx2, h⟩ := ob h
 refine aj (mU _ _ _ _ hx2) aM (.cons (.same _) (.cons (.same _) .nil)) (fun g => by simp) (fun g => rfl) (⟨rfl, ?_⟩)
 refine k2 _ _ (.ret ?_)
 obtain rfl := sj h
 refine hQ _ _ _ (gF (u2 (.unk :: (.bool (!x2) :: (u4 (u2 []))))) [.box [aH p1]] (wk [some 0] (.u2 (.u (.c rfl (.u4 (.u2 .nil))))) (.b rfl (.e aA .nil) .nil) rfl) (dA dJ [0] rfl (.cons (by simp only [dx, ren, bS, bK, dM, bO, aQ, aY, bQ, aA, aK, au, aF, aP]; try rfl) .nil) ?_))
 exact fin
theorem Ji (n : Nat) (p0 : List Ty) (p1 : List Ty) (r : Int) (h : sJ n p0 p1 = some r) : aB Tryz.prog 245 [aH p0, .func 261 [.ptr 0 0]] [.box [aH p1]] (.i r) [.box [aH p1]] := by
 unfold sJ at h
 refine ah true Tryz.func245 rfl (nt Tryz.ntmps245 rfl) fun Q hQ t ht => ?_
 conv at ht => whnf
 subst ht
 refine .r fun K1 k1 => (k1 _ _ ?_)
 refine .q fun K2 k2 => .r fun K3 k3 => (aV (l := p0) (f := aI) ?_)
 refine k3 _ _ (.block ?_)
 obtain ⟨o1, ho1, h⟩ := ob h
 have hR1 : ∀ s2 : Unit, o1 = .nx s2 → ∀ t9 h9, Le 1 t9 h9 (u16 (u2 (.unk :: []))) [.box [aH p1]] → K2 t9 h9 := by
  intro s2 ho
  subst ho
  dsimp only [LR.el] at h
  intro t9 h9 hw
  refine k2 _ _ (AW.le hw ?_)
  refine .r fun K4 k4 => (k4 _ _ ?_)
  refine .ret ?_
  obtain rfl := sj h
  refine hQ _ _ _ (gF (u4 (.i (-1) :: (u8 (u4 (u2 []))))) [.box [aH p1]] (wk [some 0] (.u4 (.c rfl (.u8 (.u4 (.u2 .nil))))) (.b rfl (.e aA .nil) .nil) rfl) (dA dJ [0] rfl (.cons (by simp only [dx, ren, bS, bK, dM, bO, aQ, aY, bQ, aA, aK, au, aF, aP]; try rfl) .nil) ?_))
  exact fin
 refine .loopS (mo n p0 p1) (fun (s1 : Int) => (aH p0 :: (.func 261 [.ptr 0 0] :: (u4 (.unk :: (.i (p0.length : Int) :: (.i s1 :: (u8 (u2 []))))))))) (fun (s1 : Int) => [.box [aH p1]]) ho1 (fun _ => rfl) (li (.s (.s (.u4 (.u (.s (.s (.u8 (.u2 .n))))))))) ?_
 intro n1 s1 hs1 KL1 hKL1
 unfold mo at hs1
 refine .r fun K5 k5 => (k5 _ _ ?_)
 refine .q fun K6 k6 => (.ak rfl hs1 (fun hc1 hs1 => ?_) (fun hc1 hs1 => ?_))
 ·refine .skip (k6 _ _ ?_)
  refine .q fun K7 k7 => (.block ?_)
  refine .r fun K8 k8 => (k8 _ _ ?_)
  refine .r fun K9 k9 => ?_
  obtain ⟨x1, hx1, hs1⟩ := ob hs1
  refine aG (l := p0) (f := aI) (cs := [.i ((x1).kind), .str ((x1).name), aH ((x1).kids)]) hx1 (aR x1) rfl ?_
  obtain ⟨x2, hx2, hs1⟩ := ob hs1
  refine bZ [0] [] [bn x1, .ptr 0 0] [bn x1, .ptr 0 0] (WU _ _ _ _ hx2) aM rfl (.cons (by simp only [dx, ren, bS, bK, dM, bO, aQ, aY, bQ, aA, aK, au, aF, aP]; try rfl) .nil) (by simp; try decide) (.cons (.same _) (.cons (.same _) .nil)) (rn := .bool x2) (rfl) (Hn := [.box [aH p1]]) ((bN (by simp only [dx, ren, bS, bK, dM, bO, aQ, aY, bQ, aA, aK, au, aF, aP]; try rfl) rfl)) (k9 _ _ ?_)
  refine .ak rfl hs1 (fun hc2 hs1 => ?_) (fun hc2 hs1 => ?_)
  ·refine .r fun K10 k10 => (k10 _ _ ?_)
   refine .ret ?_
   obtain rfl := sj hs1
   dsimp only [LR.el] at h
   obtain rfl := sj h
   refine hQ _ _ _ (gF (u4 (.i s1 :: (u8 (u4 (u2 []))))) [.box [aH p1]] (wk [some 0] (.u4 (.c rfl (.u8 (.u4 (.u2 .nil))))) (.b rfl (.e aA .nil) .nil) rfl) (dA dJ [0] rfl (.cons (by simp only [dx, ren, bS, bK, dM, bO, aQ, aY, bQ, aA, aK, au, aF, aP]; try rfl) .nil) ?_))
   exact fin
  refine .skip (k7 _ _ ?_)
  refine .know 5 0 fun hv1 => (.know 0 0 fun hv2 => ?_)
  refine rg 0 (⟨(s1 + 1), by have := dz hv1; have := fG hv2; have h8 := of_decide_eq_true hc1; exact bC (by omega) (by omega), ?_⟩)
  exact hKL1 _ _ _ hs1 (li (.s (.s (.u4 (.u (.s (.s (.u8 (.u2 .n)))))))))
 refine .exit ?_
 exact hR1 _ (sj hs1).symm _ _ (li (.u16 (.u2 (.u .n))))
theorem GX (n : Nat) (p0 : List Ty) (p1 : List Ty) (r : Bool) (h : pX n p0 p1 = some r) : aB Tryz.prog 178 [aH p0, .func 261 [.ptr 0 0]] [.box [aH p1]] (.bool r) [.box [aH p1]] := by
 unfold pX at h
 refine ah true Tryz.func178 rfl (nt Tryz.ntmps178 rfl) fun Q hQ t ht => ?_
 conv at ht => whnf
 subst ht
 refine .r fun K1 k1 => (k1 _ _ ?_)
 refine .r fun K2 k2 => ?_
 obtain ⟨x1, hx1, h⟩ := ob h
 refine bZ [0] [] [aH p0, .func 261 [.ptr 0 0]] [aH p0, .func 261 [.ptr 0 0]] (Ji _ _ _ _ hx1) aM rfl (.cons (by simp only [dx, ren, bS, bK, dM, bO, aQ, aY, bQ, aA, aK, au, aF, aP]; try rfl) .nil) (by simp; try decide) (.cons (.same _) (.cons (.same _) .nil)) (rn := .i x1) (rfl) (Hn := [.box [aH p1]]) ((bN (by simp only [dx, ren, bS, bK, dM, bO, aQ, aY, bQ, aA, aK, au, aF, aP]; try rfl) rfl)) (k2 _ _ ?_)
 refine .ret ?_
 obtain rfl := sj h
 refine hQ _ _ _ (gF (u4 (.bool (decide (0 ≤ x1)) :: (u4 []))) [.box [aH p1]] (wk [some 0] (.u4 (.c rfl (.u4 .nil))) (.b rfl (.e aA .nil) .nil) rfl) (dA dJ [0] rfl (.cons (by simp only [dx, ren, bS, bK, dM, bO, aQ, aY, bQ, aA, aK, au, aF, aP]; try rfl) .nil) ?_))
 exact fin
theorem yh (n : Nat) (p0 : List Ty) (r : Bool) (h : nV n p0 = some r) : aB Tryz.prog 202 [aH p0] [] (.bool r) [] := by
 unfold nV at h
 refine ah true Tryz.func202 rfl (nt Tryz.ntmps202 rfl) fun Q hQ t ht => ?_
 conv at ht => whnf
 subst ht
 refine .r1 fun K1 k1 => (k1 _ _ ?_)
 refine .q fun K2 k2 => ?_
 obtain ⟨s1, hj1, h⟩ := ob h
 have hR1 : ∀ t9 h9, Le 0 t9 h9 (u2 (.bool s1 :: (u8 (u2 (.unk :: []))))) [] → K2 t9 h9 := by
  intro t9 h9 hw
  refine k2 _ _ (AW.le hw ?_)
  clear hw
  refine .ret ?_
  obtain rfl := sj h
  exact hQ _ _ _ rp
 refine rg 0 ?_
 obtain ⟨x1, hx1, hj1⟩ := ob hj1
 refine aG (l := p0) (f := aI) (cs := [.i ((x1).kind), .str ((x1).name), aH ((x1).kids)]) hx1 (aR x1) rfl (aD hj1 (fun hc1 hj1 => ?_) (fun hc1 hj1 => ?_))
 ·obtain ⟨x2, hx2, hj1⟩ := ob hj1
  refine bZ [0] [] [aH p0, .func 261 [.ptr 0 0]] [aH p0, .func 261 [.ptr 0 0]] (GX _ _ _ _ hx2) aM rfl (.cons (by simp only [dx, ren, bS, bK, dM, bO, aQ, aY, bQ, aA, aK, au, aF, aP]; try rfl) .nil) (by simp; try decide) (.cons (.same _) (.cons (.same _) .nil)) (rn := .bool x2) (rfl) (Hn := [.box [aH p0]]) ((bN (by simp only [dx, ren, bS, bK, dM, bO, aQ, aY, bQ, aA, aK, au, aF, aP]; try rfl) rfl)) ?_
  cases hj1
  exact hR1 _ _ (wk [] (.u2 (.c rfl (.u8 (.u2 (.u .nil))))) .nil rfl)
 cases hj1
 exact hR1 _ _ (wk [] (.u2 (.c rfl (.u8 (.u2 (.u .nil))))) .nil rfl)
theorem KT (n : Nat) (p0 : List Ty) (r : Ty × Bool) (h : vC n p0 = some r) : aB Tryz.prog 201 [aH p0] [] (.aW [bn r.1, .bool r.2]) [] := by
 unfold vC at h
 refine ah true Tryz.func201 rfl (nt Tryz.ntmps201 rfl) fun Q hQ t ht => ?_
 conv at ht => whnf
 subst ht
 refine .r1 fun K1 k1 => (k1 _ _ ?_)
 refine .r fun K2 k2 => (aj (rJ 0 _ rfl) aM .nil (fun g => rfl) (fun g => by simp) ?_)
 obtain ⟨x1, hx1, h⟩ := ob h
 refine aj (yh _ _ _ hx1) aM (.cons (.same _) .nil) (fun g => by simp) (fun g => rfl) (k2 _ _ ?_)
 refine .ret ?_
 obtain rfl := sj h
 exact hQ _ _ _ rp
theorem KV (n : Nat) (p0 : List Ty) (r : Ty × Bool) (h : sw n p0 = some r) : aB Tryz.prog 216 [aH p0] [] (.aW [bn r.1, .bool r.2]) [] := by
 unfold sw at h
 refine ah true Tryz.func216 rfl (nt Tryz.ntmps216 rfl) fun Q hQ t ht => ?_
 conv at ht => whnf
 subst ht
 refine .r1 fun K1 k1 => (k1 _ _ ?_)
 refine .r1 fun K2 k2 => ?_
 obtain ⟨x1, hx1, h⟩ := ob h
 refine aG (l := p0) (f := aI) (cs := [.i ((x1).kind), .str ((x1).name), aH ((x1).kids)]) hx1 (aR x1) rfl ?_
 obtain ⟨x2, hx2, h⟩ := ob h
 refine cP (fE _ _ _ hx2) (k2 _ _ ?_)
 refine .q fun K3 k3 => ?_
 obtain ⟨s1, hj1, h⟩ := ob h
 have hR1 : ∀ t9 h9, Le 0 t9 h9 (u2 (.ptr 0 0 :: (.bool s1 :: (u16 (u2 []))))) [.box [.i 2, .str ([] : Str), aH ([])]] → K3 t9 h9 := by
  intro t9 h9 hw
  refine k3 _ _ (AW.le hw ?_)
  clear hw
  refine .ret ?_
  obtain rfl := sj h
  exact hQ _ _ _ rp
 refine rg 0 (aj (rJ 0 _ rfl) aM .nil (fun g => rfl) (fun g => by simp) ?_)
 refine aD hj1 (fun hc1 hj1 => ?_) (fun hc1 hj1 => ?_)
 ·obtain ⟨x3, hx3, hj1⟩ := ob hj1
  refine aG (l := p0) (f := aI) (cs := [.i ((x3).kind), .str ((x3).name), aH ((x3).kids)]) hx3 (aR x3) rfl ?_
  obtain ⟨x4, hx4, hj1⟩ := ob hj1
  refine aj (mU _ _ _ _ hx4) aM (.cons (.same _) (.cons (.same _) .nil)) (fun g => by simp) (fun g => rfl) (⟨rfl, ?_⟩)
  cases hj1
  exact hR1 _ _ (wk [some 0] (.u2 (.c2 (.u16 (.u2 .nil)))) (.b rfl (.c2 (.e aA .nil)) .nil) rfl)
 refine ⟨rfl, ?_⟩
 cases hj1
 exact hR1 _ _ (wk [some 0] (.u2 (.c2 (.u16 (.u2 .nil)))) (.b rfl (.c2 (.e aA .nil)) .nil) rfl)
theorem Uq (n : Nat) (p0 : List Ty) (r : Ty × Bool) (h : vw n p0 = some r) : aB Tryz.prog 267 [aH p0, .eptr [.func 214 []]] [] (.aW [bn r.1, .bool r.2]) [] := by
 unfold vw at h
 refine ah true Tryz.func267 rfl (nt Tryz.ntmps267 rfl) fun Q hQ t ht => ?_
 conv at ht => whnf
 subst ht
 refine .r1 fun K1 k1 => (k1 _ _ ?_)
 refine .q fun K2 k2 => ?_
 obtain ⟨s1, hj1, h⟩ := ob h
 have hR1 : ∀ t9 h9, Le 0 t9 h9 (u2 (.unk :: (.ptr 0 0 :: (.bool s1 :: (u8 (u4 (u2 []))))))) [.box [.i 2, .str ([] : Str), aH ([])]] → K2 t9 h9 := by
  intro t9 h9 hw
  refine k2 _ _ (AW.le hw ?_)
  clear hw
  refine .ret ?_
  obtain rfl := sj h
  exact hQ _ _ _ rp
 refine rg 0 ?_
 obtain ⟨x1, hx1, hj1⟩ := ob hj1
 refine aG (l := p0) (f := aI) (cs := [.i ((x1).kind), .str ((x1).name), aH ((x1).kids)]) hx1 (aR x1) rfl (cP (KX 0 x1 _ rfl) ?_)
 obtain ⟨x2, hx2, hj1⟩ := ob hj1
 refine aG (l := p0) (f := aI) (cs := [.i ((x2).kind), .str ((x2).name), aH ((x2).kids)]) hx2 (aR x2) rfl (aD hj1 (fun hc1 hj1 => ?_) (fun hc1 hj1 => ?_))
 ·obtain ⟨x3, hx3, hj1⟩ := ob hj1
  refine aj (yh _ _ _ hx3) aM (.cons (.same _) .nil) (fun g => by simp) (fun g => rfl) (⟨rfl, ?_⟩)
  cases hj1
  exact hR1 _ _ (li (.u2 (.u (.s (.s (.u8 (.u4 (.u2 .n))))))))
 refine ⟨rfl, ?_⟩
 cases hj1
 exact hR1 _ _ (li (.u2 (.u (.s (.s (.u8 (.u4 (.u2 .n))))))))
theorem LP (n : Nat) (p0 p1 r : Ty) (h : Rm n p0 p1 = some r) : aB Tryz.prog 219 [bn p0, bn p1] [] (bn r) [] := by
 unfold Rm at h
 refine ah true Tryz.func219 rfl (nt Tryz.ntmps219 rfl) fun Q hQ t ht => ?_
 conv at ht => whnf
 subst ht
 refine .q fun K1 k1 => rg 3 (k1 _ _ ?_)
 refine .r1 fun K2 k2 => (⟨List.map aI ([p0, p1]), by simp only [List.map_cons, List.map_nil, aR]; rfl, ?_⟩)
 refine k2 _ _ (.ret ?_)
 obtain rfl := sj h
 exact hQ _ _ _ rp
theorem YQ (n : Nat) (p0 : List Ty) (r : Ty × Bool) (h : xL n p0 = some r) : aB Tryz.prog 218 [aH p0] [] (.aW [bn r.1, .bool r.2]) [] := by
 unfold xL at h
 refine ah true Tryz.func218 rfl (nt Tryz.ntmps218 rfl) fun Q hQ t ht => ?_
 conv at ht => whnf
 subst ht
 refine .r1 fun K1 k1 => (k1 _ _ ?_)
 refine .q fun K2 k2 => ?_
 obtain ⟨s1, hj1, h⟩ := ob h
 have hR1 : ∀ t9 h9, Le 0 t9 h9 (u2 (.ptr 0 0 :: (.bool s1.1 :: (u16 (u2 (.unk :: [])))))) [.box [.i 4, .str ([] : Str), aH s1.2]] → K2 t9 h9 := by
  intro t9 h9 hw
  refine k2 _ _ (AW.le hw ?_)
  clear hw
  refine .ret ?_
  obtain rfl := sj h
  exact hQ _ _ _ rp
 refine rg 0 ?_
 obtain ⟨x1, hx1, hj1⟩ := ob hj1
 refine aG (l := p0) (f := aI) (cs := [.i ((x1).kind), .str ((x1).name), aH ((x1).kids)]) hx1 (aR x1) rfl ?_
 obtain ⟨x2, hx2, hj1⟩ := ob hj1
 refine aG (l := p0) (f := aI) (cs := [.i ((x2).kind), .str ((x2).name), aH ((x2).kids)]) hx2 (aR x2) rfl (cP (LP 0 x1 x2 _ rfl) ?_)
 obtain ⟨x3, hx3, hj1⟩ := ob hj1
 refine aG (l := p0) (f := aI) (cs := [.i ((x3).kind), .str ((x3).name), aH ((x3).kids)]) hx3 (aR x3) rfl (aD hj1 (fun hc1 hj1 => ?_) (fun hc1 hj1 => ?_))
 ·obtain ⟨x4, hx4, hj1⟩ := ob hj1
  refine aG (l := p0) (f := aI) (cs := [.i ((x4).kind), .str ((x4).name), aH ((x4).kids)]) hx4 (aR x4) rfl (⟨rfl, ?_⟩)
  cases hj1
  exact hR1 _ _ (li (.u2 (.s (.s (.u16 (.u2 (.u .n)))))))
 refine ⟨rfl, ?_⟩
 cases hj1
 exact hR1 _ _ (li (.u2 (.s (.s (.u16 (.u2 (.u .n)))))))
theorem Z4 (n : Nat) (p0 : List Ty) (r : Ty × Bool) (h : xO n p0 = some r) : aB Tryz.prog 220 [aH p0] [] (.aW [bn r.1, .bool r.2]) [] := by
 unfold xO at h
 refine ah true Tryz.func220 rfl (nt Tryz.ntmps220 rfl) fun Q hQ t ht => ?_
 conv at ht => whnf
 subst ht
 refine .r1 fun K1 k1 => (k1 _ _ ?_)
 refine .r fun K2 k2 => ?_
 obtain ⟨x1, hx1, h⟩ := ob h
 refine aG (l := p0) (f := aI) (cs := [.i ((x1).kind), .str ((x1).name), aH ((x1).kids)]) hx1 (aR x1) rfl (cP (jS 0 x1 _ rfl) ?_)
 obtain ⟨x2, hx2, h⟩ := ob h
 refine aj (yh _ _ _ hx2) aM (.cons (.same _) .nil) (fun g => by simp) (fun g => rfl) (k2 _ _ ?_)
 refine .ret ?_
 obtain rfl := sj h
 exact hQ _ _ _ rp
theorem KQ (n : Nat) (p0 r : Ty) (h : Rl n p0 = some r) : aB Tryz.prog 215 [bn p0] [] (bn r) [] := by
 unfold Rl at h
 refine ah true Tryz.func215 rfl (nt Tryz.ntmps215 rfl) fun Q hQ t ht => ?_
 conv at ht => whnf
 subst ht
 refine .q fun K1 k1 => rg 2 (k1 _ _ ?_)
 refine .r fun K2 k2 => (k2 _ _ ?_)
 refine .ret ?_
 obtain rfl := sj h
 exact hQ _ _ _ rp
theorem Cc (n : Nat) (p0 : List Ty) (r : Ty × Bool) (h : kW n p0 = some r) : aB Tryz.prog 267 [aH p0, .eptr [.func 215 []]] [] (.aW [bn r.1, .bool r.2]) [] := by
 unfold kW at h
 refine ah true Tryz.func267 rfl (nt Tryz.ntmps267 rfl) fun Q hQ t ht => ?_
 conv at ht => whnf
 subst ht
 refine .r1 fun K1 k1 => (k1 _ _ ?_)
 refine .q fun K2 k2 => ?_
 obtain ⟨s1, hj1, h⟩ := ob h
 have hR1 : ∀ t9 h9, Le 0 t9 h9 (u2 (.unk :: (.ptr 0 0 :: (.bool s1.1 :: (u8 (u4 (u2 []))))))) [.box [.i s1.2.1, .str s1.2.2.1, aH s1.2.2.2]] → K2 t9 h9 := by
  intro t9 h9 hw
  refine k2 _ _ (AW.le hw ?_)
  clear hw
  refine .ret ?_
  obtain rfl := sj h
  exact hQ _ _ _ rp
 refine rg 0 ?_
 obtain ⟨x1, hx1, hj1⟩ := ob hj1
 refine aG (l := p0) (f := aI) (cs := [.i ((x1).kind), .str ((x1).name), aH ((x1).kids)]) hx1 (aR x1) rfl (cP (KQ 0 x1 _ rfl) ?_)
 obtain ⟨x2, hx2, hj1⟩ := ob hj1
 refine aG (l := p0) (f := aI) (cs := [.i ((x2).kind), .str ((x2).name), aH ((x2).kids)]) hx2 (aR x2) rfl (aD hj1 (fun hc1 hj1 => ?_) (fun hc1 hj1 => ?_))
 ·obtain ⟨x3, hx3, hj1⟩ := ob hj1
  refine aj (yh _ _ _ hx3) aM (.cons (.same _) .nil) (fun g => by simp) (fun g => rfl) (⟨rfl, ?_⟩)
  cases hj1
  exact hR1 _ _ (li (.u2 (.u (.s (.s (.u8 (.u4 (.u2 .n))))))))
 refine ⟨rfl, ?_⟩
 cases hj1
 exact hR1 _ _ (li (.u2 (.u (.s (.s (.u8 (.u4 (.u2 .n))))))))
theorem uU (n : Nat) (p0 p1 r : Ty) (h : MC n p0 p1 = some r) : aB Tryz.prog 205 [bn p0, bn p1] [] (bn r) [] := by
 unfold MC at h
 refine ah true Tryz.func205 rfl (nt Tryz.ntmps205 rfl) fun Q hQ t ht => ?_
 conv at ht => whnf
 subst ht
 refine .q fun K1 k1 => rg 3 (k1 _ _ ?_)
 refine .r fun K2 k2 => (cP (LP 0 p0 p1 _ rfl) ?_)
 refine cP (jS 0 (Ty.mk 4 ([] : Str) ([p0, p1])) _ rfl) (k2 _ _ ?_)
 refine .ret ?_
 obtain rfl := sj h
 exact hQ _ _ _ rp
theorem VL (n : Nat) (p0 : List Ty) (r : Ty × Bool) (h : wJ n p0 = some r) : aB Tryz.prog 262 [aH p0, .eptr [.func 205 []]] [] (.aW [bn r.1, .bool r.2]) [] := by
 unfold wJ at h
 refine ah true Tryz.func262 rfl (nt Tryz.ntmps262 rfl) fun Q hQ t ht => ?_
 conv at ht => whnf
 subst ht
 refine .r1 fun K1 k1 => (k1 _ _ ?_)
 refine .r1 fun K2 k2 => ?_
 obtain ⟨x1, hx1, h⟩ := ob h
 refine aG (l := p0) (f := aI) (cs := [.i ((x1).kind), .str ((x1).name), aH ((x1).kids)]) hx1 (aR x1) rfl ?_
 obtain ⟨x2, hx2, h⟩ := ob h
 refine cP (fE _ _ _ hx2) (k2 _ _ ?_)
 refine .r1 fun K3 k3 => ?_
 obtain ⟨x3, hx3, h⟩ := ob h
 refine aG (l := p0) (f := aI) (cs := [.i ((x3).kind), .str ((x3).name), aH ((x3).kids)]) hx3 (aR x3) rfl ?_
 obtain ⟨x4, hx4, h⟩ := ob h
 refine cP (fE _ _ _ hx4) (k3 _ _ ?_)
 refine .q fun K4 k4 => .q fun K5 k5 => ?_
 obtain ⟨s1, hj1, h⟩ := ob h
 have hR1 : ∀ t9 h9, Le 0 t9 h9 (.unk :: (.eptr [.func 205 []] :: (.unk :: (.ptr 0 0 :: (.unk :: (.ptr 1 0 :: (.unk :: (.ptr 2 0 :: (u16 (u4 (.bool s1 :: (u4 (.unk :: []))))))))))))) [.box [.i 0, .str ([] : Str), .slice (List.map aI ([] : List Ty)) .nils], .box [.i x2.1.kind, .str x2.1.name, aH x2.1.kids], .box [.i x4.1.kind, .str x4.1.name, aH x4.1.kids]] → K5 t9 h9 := by
  intro t9 h9 hw
  refine k5 _ _ (AW.le hw ?_)
  clear hw
  refine .ak rfl h (fun hc1 h => ?_) (fun hc1 h => ?_)
  ·refine .r fun K6 k6 => (k6 _ _ ?_)
   refine .ret ?_
   obtain rfl := sj h
   exact hQ _ _ _ rp
  refine .skip (k4 _ _ ?_)
  refine .r fun K7 k7 => (cP (uU 0 x2.1 x4.1 _ rfl) ?_)
  refine k7 _ _ (.ret ?_)
  obtain rfl := sj h
  exact hQ _ _ _ rp
 refine rg 0 (aD hj1 (fun hc2 hj1 => ?_) (fun hc2 hj1 => ?_))
 ·cases hj1
  exact hR1 _ _ (li (.u (.s (.u (.s (.u (.s (.u (.s (.u16 (.u4 (.s (.u4 (.u .n))))))))))))))
 cases hj1
 exact hR1 _ _ (li (.u (.s (.u (.s (.u (.s (.u (.s (.u16 (.u4 (.s (.u4 (.u .n))))))))))))))
theorem lu (n : Nat) (p0 : Ty) (r : Ty × Ty × Bool) (h : jQ n p0 = some r) : aB Tryz.prog 207 [bn p0] [] (.aW [bn r.1, bn r.2.1, .bool r.2.2]) [] := by
 unfold jQ at h
 refine ah true Tryz.func207 rfl (nt Tryz.ntmps207 rfl) fun Q hQ t ht => ?_
 conv at ht => whnf
 subst ht
 refine .q fun K1 k1 => rg 3 (k1 _ _ ?_)
 refine .r1 fun K2 k2 => ?_
 obtain ⟨x1, hx1, h⟩ := ob h
 refine cP (fE _ _ _ hx1) (k2 _ _ ?_)
 refine .q fun K3 k3 => .q fun K4 k4 => ?_
 obtain ⟨s1, hj1, h⟩ := ob h
 have hR1 : ∀ t9 h9, Le 0 t9 h9 (u2 (.ptr 0 0 :: (.ptr 1 0 :: (.unk :: (.ptr 2 0 :: (u8 (u2 (.unk :: (.bool s1 :: (u8 (u2 []))))))))))) [.box [.i 0, .str ([] : Str), .slice (List.map aI ([] : List Ty)) .nils], .box [.i 0, .str ([] : Str), .slice (List.map aI ([] : List Ty)) .nils], .box [.i x1.1.kind, .str x1.1.name, aH x1.1.kids]] → K4 t9 h9 := by
  intro t9 h9 hw
  refine k4 _ _ (AW.le hw ?_)
  clear hw
  refine .ak rfl h (fun hc1 h => ?_) (fun hc1 h => ?_)
  ·refine .r fun K5 k5 => (k5 _ _ ?_)
   refine .ret ?_
   obtain rfl := sj h
   exact hQ _ _ _ rp
  refine .skip (k3 _ _ ?_)
  refine .r fun K6 k6 => ?_
  obtain ⟨x2, hx2, h⟩ := ob h
  refine aG (l := x1.1.kids) (f := aI) (cs := [.i ((x2).kind), .str ((x2).name), aH ((x2).kids)]) hx2 (aR x2) rfl ?_
  obtain ⟨x3, hx3, h⟩ := ob h
  refine aG (l := x1.1.kids) (f := aI) (cs := [.i ((x3).kind), .str ((x3).name), aH ((x3).kids)]) hx3 (aR x3) rfl (⟨rfl, ?_⟩)
  refine k6 _ _ (.ret ?_)
  obtain rfl := sj h
  exact hQ _ _ _ rp
 refine rg 0 (aD hj1 (fun hc2 hj1 => ?_) (fun hc2 hj1 => ?_))
 ·cases hj1
  exact hR1 _ _ (wk [some 1, some 2, some 3] (.u2 (.c2 (.u (.c rfl (.u8 (.u2 (.u (.c rfl (.u8 (.u2 .nil)))))))))) (.b rfl (.c2 (.c rfl .nil)) (.b rfl (.c2 (.c rfl .nil)) (.b rfl (.c2 (.e aA .nil)) .nil))) rfl)
 cases hj1
 exact hR1 _ _ (wk [some 1, some 2, some 3] (.u2 (.c2 (.u (.c rfl (.u8 (.u2 (.u (.c rfl (.u8 (.u2 .nil)))))))))) (.b rfl (.c2 (.c rfl .nil)) (.b rfl (.c2 (.c rfl .nil)) (.b rfl (.c2 (.e aA .nil)) .nil))) rfl)
theorem Za (n : Nat) (p0 p1 : Ty) (p2 : List Ty) (r : Ty × Bool) (h : Jg n p0 p1 p2 = some r) : aB Tryz.prog 221 [bn p0, bn p1, aH p2] [] (.aW [bn r.1, .bool r.2]) [] := by
 unfold Jg at h
 refine ah true Tryz.func221 rfl (nt Tryz.ntmps221 rfl) fun Q hQ t ht => ?_
 conv at ht => whnf
 subst ht
 refine .q fun K1 k1 => rg 3 (k1 _ _ ?_)
 refine .r fun K2 k2 => ?_
 obtain ⟨x1, hx1, h⟩ := ob h
 refine aG (l := p2) (f := aI) (cs := [.i ((x1).kind), .str ((x1).name), aH ((x1).kids)]) hx1 (aR x1) rfl ?_
 obtain ⟨x2, hx2, h⟩ := ob h
 refine aj (yh _ _ _ hx2) aM (.cons (.same _) .nil) (fun g => by simp) (fun g => rfl) (⟨rfl, ?_⟩)
 refine k2 _ _ (.ret ?_)
 obtain rfl := sj h
 exact hQ _ _ _ rp
theorem LJ (n : Nat) (p0 : List Ty) (r : Ty × Bool) (h : nC n p0 = some r) : aB Tryz.prog 263 [aH p0, .eptr [.func 221 []]] [] (.aW [bn r.1, .bool r.2]) [] := by
 unfold nC at h
 refine ah true Tryz.func263 rfl (nt Tryz.ntmps263 rfl) fun Q hQ t ht => ?_
 conv at ht => whnf
 subst ht
 refine .r1 fun K1 k1 => (k1 _ _ ?_)
 refine .q fun K2 k2 => rg 2 ?_
 obtain ⟨x1, hx1, h⟩ := ob h
 refine aG (l := p0) (f := aI) (cs := [.i ((x1).kind), .str ((x1).name), aH ((x1).kids)]) hx1 (aR x1) rfl ?_
 obtain ⟨x2, hx2, h⟩ := ob h
 refine cP (lu _ _ _ hx2) (k2 _ _ ?_)
 refine .q fun K3 k3 => .r fun K4 k4 => (k4 _ _ ?_)
 refine .ak rfl h (fun hc1 h => ?_) (fun hc1 h => ?_)
 ·refine .r fun K5 k5 => (k5 _ _ ?_)
  refine .ret ?_
  obtain rfl := sj h
  exact hQ _ _ _ rp
 refine .skip (k3 _ _ ?_)
 refine .r fun K6 k6 => ?_
 obtain ⟨x3, hx3, h⟩ := ob h
 refine cP (Za _ _ _ _ _ hx3) (k6 _ _ ?_)
 refine .ret ?_
 obtain rfl := sj h
 exact hQ _ _ _ rp
theorem YO (n : Nat) (p0 p1 : Ty) (p2 : List Ty) (r : Ty × Bool) (h : EL n p0 p1 p2 = some r) : aB Tryz.prog 222 [bn p0, bn p1, aH p2] [] (.aW [bn r.1, .bool r.2]) [] := by
 unfold EL at h
 refine ah true Tryz.func222 rfl (nt Tryz.ntmps222 rfl) fun Q hQ t ht => ?_
 conv at ht => whnf
 subst ht
 refine .q fun K1 k1 => rg 3 (k1 _ _ ?_)
 refine .q fun K2 k2 => rg 2 ?_
 obtain ⟨x1, hx1, h⟩ := ob h
 refine aG (l := p2) (f := aI) (cs := [.i ((x1).kind), .str ((x1).name), aH ((x1).kids)]) hx1 (aR x1) rfl ?_
 obtain ⟨x2, hx2, h⟩ := ob h
 refine cP (lu _ _ _ hx2) (k2 _ _ ?_)
 refine .q fun K3 k3 => ?_
 obtain ⟨s1, hj1, h⟩ := ob h
 have hR1 : ∀ t9 h9, Le 0 t9 h9 (u4 (u2 (.ptr 0 0 :: (.bool s1 :: (u16 (u4 [])))))) [.box [.i 5, .str ([] : Str), aH ([(Ty.mk 4 ([] : Str) ([p0, x2.2.1]))])]] → K3 t9 h9 := by
  intro t9 h9 hw
  refine k3 _ _ (AW.le hw ?_)
  clear hw
  refine .ret ?_
  obtain rfl := sj h
  exact hQ _ _ _ rp
 refine rg 0 (cP (uU 0 p0 x2.2.1 _ rfl) ?_)
 refine aD hj1 (fun hc1 hj1 => ?_) (fun hc1 hj1 => ?_)
 ·obtain ⟨x3, hx3, hj1⟩ := ob hj1
  refine aj (mU _ _ _ _ hx3) aM (.cons (.same _) (.cons (.same _) .nil)) (fun g => by simp) (fun g => rfl) ?_
  cases hj1
  exact hR1 _ _ (wk [some 2] (.u4 (.u2 (.c2 (.u16 (.u4 .nil))))) (.b rfl (.c2 (.e aA .nil)) .nil) rfl)
 cases hj1
 exact hR1 _ _ (wk [some 2] (.u4 (.u2 (.c2 (.u16 (.u4 .nil))))) (.b rfl (.c2 (.e aA .nil)) .nil) rfl)
theorem Ky (n : Nat) (p0 : List Ty) (r : Ty × Bool) (h : nE n p0 = some r) : aB Tryz.prog 263 [aH p0, .eptr [.func 222 []]] [] (.aW [bn r.1, .bool r.2]) [] := by
 unfold nE at h
 refine ah true Tryz.func263 rfl (nt Tryz.ntmps263 rfl) fun Q hQ t ht => ?_
 conv at ht => whnf
 subst ht
 refine .r1 fun K1 k1 => (k1 _ _ ?_)
 refine .q fun K2 k2 => rg 2 ?_
 obtain ⟨x1, hx1, h⟩ := ob h
 refine aG (l := p0) (f := aI) (cs := [.i ((x1).kind), .str ((x1).name), aH ((x1).kids)]) hx1 (aR x1) rfl ?_
 obtain ⟨x2, hx2, h⟩ := ob h
 refine cP (lu _ _ _ hx2) (k2 _ _ ?_)
 refine .q fun K3 k3 => .r fun K4 k4 => (k4 _ _ ?_)
 refine .ak rfl h (fun hc1 h => ?_) (fun hc1 h => ?_)
 ·refine .r fun K5 k5 => (k5 _ _ ?_)
  refine .ret ?_
  obtain rfl := sj h
  exact hQ _ _ _ rp
 refine .skip (k3 _ _ ?_)
 refine .r fun K6 k6 => ?_
 obtain ⟨x3, hx3, h⟩ := ob h
 refine cP (YO _ _ _ _ _ hx3) (k6 _ _ ?_)
 refine .ret ?_
 obtain rfl := sj h
 exact hQ _ _ _ rp
theorem LU (n : Nat) (p0 : List Ty) (r : Ty × Bool) (h : sH n p0 = some r) : aB Tryz.prog 206 [aH p0] [] (.aW [bn r.1, .bool r.2]) [] := by
 unfold sH at h
 refine ah true Tryz.func206 rfl (nt Tryz.ntmps206 rfl) fun Q hQ t ht => ?_
 conv at ht => whnf
 subst ht
 refine .r1 fun K1 k1 => (k1 _ _ ?_)
 refine .r1 fun K2 k2 => ?_
 obtain ⟨x1, hx1, h⟩ := ob h
 refine aG (l := p0) (f := aI) (cs := [.i ((x1).kind), .str ((x1).name), aH ((x1).kids)]) hx1 (aR x1) rfl ?_
 obtain ⟨x2, hx2, h⟩ := ob h
 refine cP (fE _ _ _ hx2) (k2 _ _ ?_)
 refine .q fun K3 k3 => rg 2 ?_
 obtain ⟨x3, hx3, h⟩ := ob h
 refine aG (l := p0) (f := aI) (cs := [.i ((x3).kind), .str ((x3).name), aH ((x3).kids)]) hx3 (aR x3) rfl ?_
 obtain ⟨x4, hx4, h⟩ := ob h
 refine cP (lu _ _ _ hx4) (k3 _ _ ?_)
 refine .q fun K4 k4 => ?_
 obtain ⟨s1, hj1, h⟩ := ob h
 have hR1 : ∀ t9 h9, Le 0 t9 h9 (u2 (.ptr 0 0 :: (.bool s1.1 :: (u32 [])))) [.box [.i s1.2.1, .str s1.2.2.1, aH s1.2.2.2]] → K4 t9 h9 := by
  intro t9 h9 hw
  refine k4 _ _ (AW.le hw ?_)
  clear hw
  refine .ret ?_
  obtain rfl := sj h
  exact hQ _ _ _ rp
 refine rg 0 ?_
 obtain ⟨x5, hx5, hj1⟩ := ob hj1
 refine aG (l := p0) (f := aI) (cs := [.i ((x5).kind), .str ((x5).name), aH ((x5).kids)]) hx5 (aR x5) rfl (aD hj1 (fun hc1 hj1 => ?_) (fun hc1 hj1 => ?_))
 ·refine aD hj1 (fun hc2 hj1 => ?_) (fun hc2 hj1 => ?_)
  ·obtain ⟨x6, hx6, hj1⟩ := ob hj1
   refine aj (mU _ _ _ _ hx6) aM (.cons (.same _) (.cons (.same _) .nil)) (fun g => by simp) (fun g => rfl) (⟨rfl, ?_⟩)
   cases hj1
   exact hR1 _ _ (wk [some 0] (.u2 (.c2 (.u32 .nil))) (.b rfl (.c2 (.e aA .nil)) .nil) rfl)
  refine ⟨rfl, ?_⟩
  cases hj1
  exact hR1 _ _ (wk [some 0] (.u2 (.c2 (.u32 .nil))) (.b rfl (.c2 (.e aA .nil)) .nil) rfl)
 refine ⟨rfl, ?_⟩
 cases hj1
 exact hR1 _ _ (wk [some 0] (.u2 (.c2 (.u32 .nil))) (.b rfl (.c2 (.e aA .nil)) .nil) rfl)
theorem YI (n : Nat) (p0 p1 : Ty) (p2 : List Ty) (r : Ty × Bool) (h : EU n p0 p1 p2 = some r) : aB Tryz.prog 209 [bn p0, bn p1, aH p2] [] (.aW [bn r.1, .bool r.2]) [] := by
 unfold EU at h
 refine ah true Tryz.func209 rfl (nt Tryz.ntmps209 rfl) fun Q hQ t ht => ?_
 conv at ht => whnf
 subst ht
 refine .q fun K1 k1 => rg 3 (k1 _ _ ?_)
 refine .r1 fun K2 k2 => ?_
 obtain ⟨x1, hx1, h⟩ := ob h
 refine aG (l := p2) (f := aI) (cs := [.i ((x1).kind), .str ((x1).name), aH ((x1).kids)]) hx1 (aR x1) rfl ?_
 obtain ⟨x2, hx2, h⟩ := ob h
 refine cP (fE _ _ _ hx2) (k2 _ _ ?_)
 refine .q fun K3 k3 => ?_
 obtain ⟨s1, hj1, h⟩ := ob h
 have hR1 : ∀ t9 h9, Le 0 t9 h9 (u4 (u2 (.ptr 0 0 :: (.bool s1.1 :: (u16 (u2 [])))))) [.box [.i s1.2.1, .str s1.2.2.1, aH s1.2.2.2]] → K3 t9 h9 := by
  intro t9 h9 hw
  refine k3 _ _ (AW.le hw ?_)
  clear hw
  refine .ret ?_
  obtain rfl := sj h
  exact hQ _ _ _ rp
 refine rg 0 ?_
 obtain ⟨x3, hx3, hj1⟩ := ob hj1
 refine aG (l := p2) (f := aI) (cs := [.i ((x3).kind), .str ((x3).name), aH ((x3).kids)]) hx3 (aR x3) rfl (aD hj1 (fun hc1 hj1 => ?_) (fun hc1 hj1 => ?_))
 ·obtain ⟨x4, hx4, hj1⟩ := ob hj1
  refine aj (mU _ _ _ _ hx4) aM (.cons (.same _) (.cons (.same _) .nil)) (fun g => by simp) (fun g => rfl) (⟨rfl, ?_⟩)
  cases hj1
  exact hR1 _ _ (wk [some 2] (.u4 (.u2 (.c2 (.u16 (.u2 .nil))))) (.b rfl (.c2 (.e aA .nil)) .nil) rfl)
 refine ⟨rfl, ?_⟩
 cases hj1
 exact hR1 _ _ (wk [some 2] (.u4 (.u2 (.c2 (.u16 (.u2 .nil))))) (.b rfl (.c2 (.e aA .nil)) .nil) rfl)
theorem Cv (n : Nat) (p0 : List Ty) (r : Ty × Bool) (h : jw n p0 = some r) : aB Tryz.prog 263 [aH p0, .eptr [.func 209 []]] [] (.aW [bn r.1, .bool r.2]) [] := by
 unfold jw at h
 refine ah true Tryz.func263 rfl (nt Tryz.ntmps263 rfl) fun Q hQ t ht => ?_
 conv at ht => whnf
 subst ht
 refine .r1 fun K1 k1 => (k1 _ _ ?_)
 refine .q fun K2 k2 => rg 2 ?_
 obtain ⟨x1, hx1, h⟩ := ob h
 refine aG (l := p0) (f := aI) (cs := [.i ((x1).kind), .str ((x1).name), aH ((x1).kids)]) hx1 (aR x1) rfl ?_
 obtain ⟨x2, hx2, h⟩ := ob h
 refine cP (lu _ _ _ hx2) (k2 _ _ ?_)
 refine .q fun K3 k3 => .r fun K4 k4 => (k4 _ _ ?_)
 refine .ak rfl h (fun hc1 h => ?_) (fun hc1 h => ?_)
 ·refine .r fun K5 k5 => (k5 _ _ ?_)
  refine .ret ?_
  obtain rfl := sj h
  exact hQ _ _ _ rp
 refine .skip (k3 _ _ ?_)
 refine .r fun K6 k6 => ?_
 obtain ⟨x3, hx3, h⟩ := ob h
 refine cP (YI _ _ _ _ _ hx3) (k6 _ _ ?_)
 refine .ret ?_
 obtain rfl := sj h
 exact hQ _ _ _ rp
theorem YV (n : Nat) (p0 p1 r : Ty) (h : Rv n p0 p1 = some r) : aB Tryz.prog 204 [bn p0, bn p1] [] (bn r) [] := by
 unfold Rv at h
 refine ah true Tryz.func204 rfl (nt Tryz.ntmps204 rfl) fun Q hQ t ht => ?_
 conv at ht => whnf
 subst ht
 refine .q fun K1 k1 => rg 3 (k1 _ _ ?_)
 refine .r fun K2 k2 => (cP (uU 0 p0 p1 _ rfl) ?_)
 refine cP (jS 0 (Ty.mk 5 ([] : Str) ([(Ty.mk 4 ([] : Str) ([p0, p1]))])) _ rfl) (k2 _ _ ?_)
 refine .ret ?_
 obtain rfl := sj h
 exact hQ _ _ _ rp
theorem vU (n : Nat) (p0 : List Ty) (r : Ty × Bool) (h : iI n p0 = some r) : aB Tryz.prog 262 [aH p0, .eptr [.func 204 []]] [] (.aW [bn r.1, .bool r.2]) [] := by
 unfold iI at h
 refine ah true Tryz.func262 rfl (nt Tryz.ntmps262 rfl) fun Q hQ t ht => ?_
 conv at ht => whnf
 subst ht
 refine .r1 fun K1 k1 => (k1 _ _ ?_)
 refine .r1 fun K2 k2 => ?_
 obtain ⟨x1, hx1, h⟩ := ob h
 refine aG (l := p0) (f := aI) (cs := [.i ((x1).kind), .str ((x1).name), aH ((x1).kids)]) hx1 (aR x1) rfl ?_
 obtain ⟨x2, hx2, h⟩ := ob h
 refine cP (fE _ _ _ hx2) (k2 _ _ ?_)
 refine .r1 fun K3 k3 => ?_
 obtain ⟨x3, hx3, h⟩ := ob h
 refine aG (l := p0) (f := aI) (cs := [.i ((x3).kind), .str ((x3).name), aH ((x3).kids)]) hx3 (aR x3) rfl ?_
 obtain ⟨x4, hx4, h⟩ := ob h
 refine cP (fE _ _ _ hx4) (k3 _ _ ?_)
 refine .q fun K4 k4 => .q fun K5 k5 => ?_
 obtain ⟨s1, hj1, h⟩ := ob h
 have hR1 : ∀ t9 h9, Le 0 t9 h9 (.unk :: (.eptr [.func 204 []] :: (.unk :: (.ptr 0 0 :: (.unk :: (.ptr 1 0 :: (.unk :: (.ptr 2 0 :: (u16 (u4 (.bool s1 :: (u4 (.unk :: []))))))))))))) [.box [.i 0, .str ([] : Str), .slice (List.map aI ([] : List Ty)) .nils], .box [.i x2.1.kind, .str x2.1.name, aH x2.1.kids], .box [.i x4.1.kind, .str x4.1.name, aH x4.1.kids]] → K5 t9 h9 := by
  intro t9 h9 hw
  refine k5 _ _ (AW.le hw ?_)
  clear hw
  refine .ak rfl h (fun hc1 h => ?_) (fun hc1 h => ?_)
  ·refine .r fun K6 k6 => (k6 _ _ ?_)
   refine .ret ?_
   obtain rfl := sj h
   exact hQ _ _ _ rp
  refine .skip (k4 _ _ ?_)
  refine .r fun K7 k7 => (cP (YV 0 x2.1 x4.1 _ rfl) ?_)
  refine k7 _ _ (.ret ?_)
  obtain rfl := sj h
  exact hQ _ _ _ rp
 refine rg 0 (aD hj1 (fun hc2 hj1 => ?_) (fun hc2 hj1 => ?_))
 ·cases hj1
  exact hR1 _ _ (li (.u (.s (.u (.s (.u (.s (.u (.s (.u16 (.u4 (.s (.u4 (.u .n))))))))))))))
 cases hj1
 exact hR1 _ _ (li (.u (.s (.u (.s (.u (.s (.u (.s (.u16 (.u4 (.s (.u4 (.u .n))))))))))))))
theorem Xb (n : Nat) (p0 : Ty) (r : Ty × Bool) (h : Oo n p0 = some r) : aB Tryz.prog 223 [bn p0] [] (.aW [bn r.1, .bool r.2]) [] := by
 unfold Oo at h
 refine ah true Tryz.func223 rfl (nt Tryz.ntmps223 rfl) fun Q hQ t ht => ?_
 conv at ht => whnf
 subst ht
 refine .q fun K1 k1 => rg 2 (k1 _ _ ?_)
 refine .r fun K2 k2 => (cP (jS 0 p0 _ rfl) ?_)
 refine cP (jS 0 (Ty.mk 5 ([] : Str) ([p0])) _ rfl) (k2 _ _ ?_)
 refine .ret ?_
 obtain rfl := sj h
 exact hQ _ _ _ rp
theorem R8 (n : Nat) (p0 : List Ty) (r : Ty × Bool) (h : tq n p0 = some r) : aB Tryz.prog 264 [aH p0, .eptr [.func 223 []]] [] (.aW [bn r.1, .bool r.2]) [] := by
 unfold tq at h
 refine ah true Tryz.func264 rfl (nt Tryz.ntmps264 rfl) fun Q hQ t ht => ?_
 conv at ht => whnf
 subst ht
 refine .r1 fun K1 k1 => (k1 _ _ ?_)
 refine .r1 fun K2 k2 => ?_
 obtain ⟨x1, hx1, h⟩ := ob h
 refine aG (l := p0) (f := aI) (cs := [.i ((x1).kind), .str ((x1).name), aH ((x1).kids)]) hx1 (aR x1) rfl ?_
 obtain ⟨x2, hx2, h⟩ := ob h
 refine cP (fE _ _ _ hx2) (k2 _ _ ?_)
 refine .q fun K3 k3 => .r fun K4 k4 => (k4 _ _ ?_)
 refine .ak rfl h (fun hc1 h => ?_) (fun hc1 h => ?_)
 ·refine .r fun K5 k5 => (k5 _ _ ?_)
  refine .ret ?_
  obtain rfl := sj h
  exact hQ _ _ _ rp
 refine .skip (k3 _ _ ?_)
 refine .r fun K6 k6 => (cP (Xb 0 x2.1 _ rfl) ?_)
 refine k6 _ _ (.ret ?_)
 obtain rfl := sj h
 exact hQ _ _ _ rp
theorem XG (n : Nat) (p0 : Ty) (r : Ty × Bool) (h : Od n p0 = some r) : aB Tryz.prog 224 [bn p0] [] (.aW [bn r.1, .bool r.2]) [] := by
 unfold Od at h
 refine ah true Tryz.func224 rfl (nt Tryz.ntmps224 rfl) fun Q hQ t ht => ?_
 conv at ht => whnf
 subst ht
 refine .q fun K1 k1 => rg 2 (k1 _ _ ?_)
 refine .r fun K2 k2 => (aj (vR 0 _ rfl) aM .nil (fun g => rfl) (fun g => by simp) ?_)
 refine k2 _ _ (.ret ?_)
 obtain rfl := sj h
 exact hQ _ _ _ rp
theorem R3 (n : Nat) (p0 : List Ty) (r : Ty × Bool) (h : tJ n p0 = some r) : aB Tryz.prog 264 [aH p0, .eptr [.func 224 []]] [] (.aW [bn r.1, .bool r.2]) [] := by
 unfold tJ at h
 refine ah true Tryz.func264 rfl (nt Tryz.ntmps264 rfl) fun Q hQ t ht => ?_
 conv at ht => whnf
 subst ht
 refine .r1 fun K1 k1 => (k1 _ _ ?_)
 refine .r1 fun K2 k2 => ?_
 obtain ⟨x1, hx1, h⟩ := ob h
 refine aG (l := p0) (f := aI) (cs := [.i ((x1).kind), .str ((x1).name), aH ((x1).kids)]) hx1 (aR x1) rfl ?_
 obtain ⟨x2, hx2, h⟩ := ob h
 refine cP (fE _ _ _ hx2) (k2 _ _ ?_)
 refine .q fun K3 k3 => .r fun K4 k4 => (k4 _ _ ?_)
 refine .ak rfl h (fun hc1 h => ?_) (fun hc1 h => ?_)
 ·refine .r fun K5 k5 => (k5 _ _ ?_)
  refine .ret ?_
  obtain rfl := sj h
  exact hQ _ _ _ rp
 refine .skip (k3 _ _ ?_)
 refine .r fun K6 k6 => (cP (XG 0 x2.1 _ rfl) ?_)
 refine k6 _ _ (.ret ?_)
 obtain rfl := sj h
 exact hQ _ _ _ rp
theorem Zy (n : Nat) (p0 : Ty) (r : Ty × Bool) (h : Ri n p0 = some r) : aB Tryz.prog 211 [bn p0] [] (.aW [bn r.1, .bool r.2]) [] := by
 unfold Ri at h
 refine ah true Tryz.func211 rfl (nt Tryz.ntmps211 rfl) fun Q hQ t ht => ?_
 conv at ht => whnf
 subst ht
 refine .q fun K1 k1 => rg 2 (k1 _ _ ?_)
 refine .r fun K2 k2 => (aj (vR 0 _ rfl) aM .nil (fun g => rfl) (fun g => by simp) ?_)
 refine ⟨rfl, ?_⟩
 refine k2 _ _ (.ret ?_)
 obtain rfl := sj h
 exact hQ _ _ _ rp
theorem Hf (n : Nat) (p0 : List Ty) (r : Ty × Bool) (h : nQ n p0 = some r) : aB Tryz.prog 264 [aH p0, .eptr [.func 211 []]] [] (.aW [bn r.1, .bool r.2]) [] := by
 unfold nQ at h
 refine ah true Tryz.func264 rfl (nt Tryz.ntmps264 rfl) fun Q hQ t ht => ?_
 conv at ht => whnf
 subst ht
 refine .r1 fun K1 k1 => (k1 _ _ ?_)
 refine .r1 fun K2 k2 => ?_
 obtain ⟨x1, hx1, h⟩ := ob h
 refine aG (l := p0) (f := aI) (cs := [.i ((x1).kind), .str ((x1).name), aH ((x1).kids)]) hx1 (aR x1) rfl ?_
 obtain ⟨x2, hx2, h⟩ := ob h
 refine cP (fE _ _ _ hx2) (k2 _ _ ?_)
 refine .q fun K3 k3 => .r fun K4 k4 => (k4 _ _ ?_)
 refine .ak rfl h (fun hc1 h => ?_) (fun hc1 h => ?_)
 ·refine .r fun K5 k5 => (k5 _ _ ?_)
  refine .ret ?_
  obtain rfl := sj h
  exact hQ _ _ _ rp
 refine .skip (k3 _ _ ?_)
 refine .r fun K6 k6 => (cP (Zy 0 x2.1 _ rfl) ?_)
 refine k6 _ _ (.ret ?_)
 obtain rfl := sj h
 exact hQ _ _ _ rp
theorem Wp (n : Nat) (p0 p1 : Ty) (p2 : List Ty) (r : Ty × Bool) (h : Ph n p0 p1 p2 = some r) : aB Tryz.prog 225 [bn p0, bn p1, aH p2] [] (.aW [bn r.1, .bool r.2]) [] := by
 unfold Ph at h
 refine ah true Tryz.func225 rfl (nt Tryz.ntmps225 rfl) fun Q hQ t ht => ?_
 conv at ht => whnf
 subst ht
 refine .q fun K1 k1 => rg 3 (k1 _ _ ?_)
 refine .r fun K2 k2 => (cP (jS 0 p0 _ rfl) ?_)
 refine k2 _ _ (.ret ?_)
 obtain rfl := sj h
 exact hQ _ _ _ rp
theorem LK (n : Nat) (p0 : List Ty) (r : Ty × Bool) (h : nA n p0 = some r) : aB Tryz.prog 263 [aH p0, .eptr [.func 225 []]] [] (.aW [bn r.1, .bool r.2]) [] := by
 unfold nA at h
 refine ah true Tryz.func263 rfl (nt Tryz.ntmps263 rfl) fun Q hQ t ht => ?_
 conv at ht => whnf
 subst ht
 refine .r1 fun K1 k1 => (k1 _ _ ?_)
 refine .q fun K2 k2 => rg 2 ?_
 obtain ⟨x1, hx1, h⟩ := ob h
 refine aG (l := p0) (f := aI) (cs := [.i ((x1).kind), .str ((x1).name), aH ((x1).kids)]) hx1 (aR x1) rfl ?_
 obtain ⟨x2, hx2, h⟩ := ob h
 refine cP (lu _ _ _ hx2) (k2 _ _ ?_)
 refine .q fun K3 k3 => .r fun K4 k4 => (k4 _ _ ?_)
 refine .ak rfl h (fun hc1 h => ?_) (fun hc1 h => ?_)
 ·refine .r fun K5 k5 => (k5 _ _ ?_)
  refine .ret ?_
  obtain rfl := sj h
  exact hQ _ _ _ rp
 refine .skip (k3 _ _ ?_)
 refine .r fun K6 k6 => (cP (Wp 0 x2.1 x2.2.1 p0 _ rfl) ?_)
 refine k6 _ _ (.ret ?_)
 obtain rfl := sj h
 exact hQ _ _ _ rp
theorem Xj (n : Nat) (p0 p1 : Ty) (p2 : List Ty) (r : Ty × Bool) (h : O7 n p0 p1 p2 = some r) : aB Tryz.prog 226 [bn p0, bn p1, aH p2] [] (.aW [bn r.1, .bool r.2]) [] := by
 unfold O7 at h
 refine ah true Tryz.func226 rfl (nt Tryz.ntmps226 rfl) fun Q hQ t ht => ?_
 conv at ht => whnf
 subst ht
 refine .q fun K1 k1 => rg 3 (k1 _ _ ?_)
 refine .r fun K2 k2 => (cP (jS 0 p1 _ rfl) ?_)
 refine k2 _ _ (.ret ?_)
 obtain rfl := sj h
 exact hQ _ _ _ rp
theorem KZ (n : Nat) (p0 : List Ty) (r : Ty × Bool) (h : ny n p0 = some r) : aB Tryz.prog 263 [aH p0, .eptr [.func 226 []]] [] (.aW [bn r.1, .bool r.2]) [] := by
 unfold ny at h
 refine ah true Tryz.func263 rfl (nt Tryz.ntmps263 rfl) fun Q hQ t ht => ?_
 conv at ht => whnf
 subst ht
 refine .r1 fun K1 k1 => (k1 _ _ ?_)
 refine .q fun K2 k2 => rg 2 ?_
 obtain ⟨x1, hx1, h⟩ := ob h
 refine aG (l := p0) (f := aI) (cs := [.i ((x1).kind), .str ((x1).name), aH ((x1).kids)]) hx1 (aR x1) rfl ?_
 obtain ⟨x2, hx2, h⟩ := ob h
 refine cP (lu _ _ _ hx2) (k2 _ _ ?_)
 refine .q fun K3 k3 => .r fun K4 k4 => (k4 _ _ ?_)
 refine .ak rfl h (fun hc1 h => ?_) (fun hc1 h => ?_)
 ·refine .r fun K5 k5 => (k5 _ _ ?_)
  refine .ret ?_
  obtain rfl := sj h
  exact hQ _ _ _ rp
 refine .skip (k3 _ _ ?_)
 refine .r fun K6 k6 => (cP (Xj 0 x2.1 x2.2.1 p0 _ rfl) ?_)
 refine k6 _ _ (.ret ?_)
 obtain rfl := sj h
 exact hQ _ _ _ rp
theorem V8 (n : Nat) (p0 p1 : Ty) (p2 : List Ty) (r : Ty × Bool) (h : Oq n p0 p1 p2 = some r) : aB Tryz.prog 227 [bn p0, bn p1, aH p2] [] (.aW [bn r.1, .bool r.2]) [] := by
 unfold Oq at h
 refine ah true Tryz.func227 rfl (nt Tryz.ntmps227 rfl) fun Q hQ t ht => ?_
 conv at ht => whnf
 subst ht
 refine .q fun K1 k1 => rg 3 (k1 _ _ ?_)
 refine .r fun K2 k2 => (cP (uU 0 p1 p0 _ rfl) ?_)
 refine k2 _ _ (.ret ?_)
 obtain rfl := sj h
 exact hQ _ _ _ rp
theorem Lb (n : Nat) (p0 : List Ty) (r : Ty × Bool) (h : nG n p0 = some r) : aB Tryz.prog 263 [aH p0, .eptr [.func 227 []]] [] (.aW [bn r.1, .bool r.2]) [] := by
 unfold nG at h
 refine ah true Tryz.func263 rfl (nt Tryz.ntmps263 rfl) fun Q hQ t ht => ?_
 conv at ht => whnf
 subst ht
 refine .r1 fun K1 k1 => (k1 _ _ ?_)
 refine .q fun K2 k2 => rg 2 ?_
 obtain ⟨x1, hx1, h⟩ := ob h
 refine aG (l := p0) (f := aI) (cs := [.i ((x1).kind), .str ((x1).name), aH ((x1).kids)]) hx1 (aR x1) rfl ?_
 obtain ⟨x2, hx2, h⟩ := ob h
 refine cP (lu _ _ _ hx2) (k2 _ _ ?_)
 refine .q fun K3 k3 => .r fun K4 k4 => (k4 _ _ ?_)
 refine .ak rfl h (fun hc1 h => ?_) (fun hc1 h => ?_)
 ·refine .r fun K5 k5 => (k5 _ _ ?_)
  refine .ret ?_
  obtain rfl := sj h
  exact hQ _ _ _ rp
 refine .skip (k3 _ _ ?_)
 refine .r fun K6 k6 => (cP (V8 0 x2.1 x2.2.1 p0 _ rfl) ?_)
 refine k6 _ _ (.ret ?_)
 obtain rfl := sj h
 exact hQ _ _ _ rp
theorem Wn (n : Nat) (p0 p1 : Ty) (p2 : List Ty) (r : Ty × Bool) (h : DK n p0 p1 p2 = some r) : aB Tryz.prog 228 [bn p0, bn p1, aH p2] [] (.aW [bn r.1, .bool r.2]) [] := by
 unfold DK at h
 refine ah true Tryz.func228 rfl (nt Tryz.ntmps228 rfl) fun Q hQ t ht => ?_
 conv at ht => whnf
 subst ht
 refine .q fun K1 k1 => rg 3 (k1 _ _ ?_)
 refine .r1 fun K2 k2 => ?_
 obtain ⟨x1, hx1, h⟩ := ob h
 refine aG (l := p2) (f := aI) (cs := [.i ((x1).kind), .str ((x1).name), aH ((x1).kids)]) hx1 (aR x1) rfl ?_
 obtain ⟨x2, hx2, h⟩ := ob h
 refine cP (fE _ _ _ hx2) (k2 _ _ ?_)
 refine .q fun K3 k3 => ?_
 obtain ⟨s1, hj1, h⟩ := ob h
 have hR1 : ∀ t9 h9, Le 0 t9 h9 (u4 (u2 (.ptr 0 0 :: (.bool s1 :: (u16 (.unk :: [])))))) [.box [.i 5, .str ([] : Str), aH ([p1])]] → K3 t9 h9 := by
  intro t9 h9 hw
  refine k3 _ _ (AW.le hw ?_)
  clear hw
  refine .ret ?_
  obtain rfl := sj h
  exact hQ _ _ _ rp
 refine rg 0 (cP (jS 0 p1 _ rfl) ?_)
 refine aD hj1 (fun hc1 hj1 => ?_) (fun hc1 hj1 => ?_)
 ·obtain ⟨x3, hx3, hj1⟩ := ob hj1
  refine aj (mU _ _ _ _ hx3) aM (.cons (.same _) (.cons (.same _) .nil)) (fun g => by simp) (fun g => rfl) ?_
  cases hj1
  exact hR1 _ _ (wk [some 2] (.u4 (.u2 (.c2 (.u16 (.u .nil))))) (.b rfl (.c2 (.e aA .nil)) .nil) rfl)
 cases hj1
 exact hR1 _ _ (wk [some 2] (.u4 (.u2 (.c2 (.u16 (.u .nil))))) (.b rfl (.c2 (.e aA .nil)) .nil) rfl)
theorem Ku (n : Nat) (p0 : List Ty) (r : Ty × Bool) (h : nD n p0 = some r) : aB Tryz.prog 263 [aH p0, .eptr [.func 228 []]] [] (.aW [bn r.1, .bool r.2]) [] := by
 unfold nD at h
 refine ah true Tryz.func263 rfl (nt Tryz.ntmps263 rfl) fun Q hQ t ht => ?_
 conv at ht => whnf
 subst ht
 refine .r1 fun K1 k1 => (k1 _ _ ?_)
 refine .q fun K2 k2 => rg 2 ?_
 obtain ⟨x1, hx1, h⟩ := ob h
 refine aG (l := p0) (f := aI) (cs := [.i ((x1).kind), .str ((x1).name), aH ((x1).kids)]) hx1 (aR x1) rfl ?_
 obtain ⟨x2, hx2, h⟩ := ob h
 refine cP (lu _ _ _ hx2) (k2 _ _ ?_)
 refine .q fun K3 k3 => .r fun K4 k4 => (k4 _ _ ?_)
 refine .ak rfl h (fun hc1 h => ?_) (fun hc1 h => ?_)
 ·refine .r fun K5 k5 => (k5 _ _ ?_)
  refine .ret ?_
  obtain rfl := sj h
  exact hQ _ _ _ rp
 refine .skip (k3 _ _ ?_)
 refine .r fun K6 k6 => ?_
 obtain ⟨x3, hx3, h⟩ := ob h
 refine cP (Wn _ _ _ _ _ hx3) (k6 _ _ ?_)
 refine .ret ?_
 obtain rfl := sj h
 exact hQ _ _ _ rp
theorem XO (n : Nat) (p0 p1 : Ty) (p2 : List Ty) (r : Ty × Bool) (h : Dr n p0 p1 p2 = some r) : aB Tryz.prog 229 [bn p0, bn p1, aH p2] [] (.aW [bn r.1, .bool r.2]) [] := by
 unfold Dr at h
 refine ah true Tryz.func229 rfl (nt Tryz.ntmps229 rfl) fun Q hQ t ht => ?_
 conv at ht => whnf
 subst ht
 refine .q fun K1 k1 => rg 3 (k1 _ _ ?_)
 refine .r fun K2 k2 => ?_
 obtain ⟨x1, hx1, h⟩ := ob h
 refine aG (l := p2) (f := aI) (cs := [.i ((x1).kind), .str ((x1).name), aH ((x1).kids)]) hx1 (aR x1) rfl ?_
 obtain ⟨x2, hx2, h⟩ := ob h
 refine aj (mU _ _ _ _ hx2) aM (.cons (.same _) (.cons (.same _) .nil)) (fun g => by simp) (fun g => rfl) (⟨rfl, ?_⟩)
 refine k2 _ _ (.ret ?_)
 obtain rfl := sj h
 exact hQ _ _ _ rp
theorem Lx (n : Nat) (p0 : List Ty) (r : Ty × Bool) (h : nH n p0 = some r) : aB Tryz.prog 263 [aH p0, .eptr [.func 229 []]] [] (.aW [bn r.1, .bool r.2]) [] := by
 unfold nH at h
 refine ah true Tryz.func263 rfl (nt Tryz.ntmps263 rfl) fun Q hQ t ht => ?_
 conv at ht => whnf
 subst ht
 refine .r1 fun K1 k1 => (k1 _ _ ?_)
 refine .q fun K2 k2 => rg 2 ?_
 obtain ⟨x1, hx1, h⟩ := ob h
 refine aG (l := p0) (f := aI) (cs := [.i ((x1).kind), .str ((x1).name), aH ((x1).kids)]) hx1 (aR x1) rfl ?_
 obtain ⟨x2, hx2, h⟩ := ob h
 refine cP (lu _ _ _ hx2) (k2 _ _ ?_)
 refine .q fun K3 k3 => .r fun K4 k4 => (k4 _ _ ?_)
 refine .ak rfl h (fun hc1 h => ?_) (fun hc1 h => ?_)
 ·refine .r fun K5 k5 => (k5 _ _ ?_)
  refine .ret ?_
  obtain rfl := sj h
  exact hQ _ _ _ rp
 refine .skip (k3 _ _ ?_)
 refine .r fun K6 k6 => ?_
 obtain ⟨x3, hx3, h⟩ := ob h
 refine cP (XO _ _ _ _ _ hx3) (k6 _ _ ?_)
 refine .ret ?_
 obtain rfl := sj h
 exact hQ _ _ _ rp
theorem Sq (n : Nat) (p0 : List Ty) (r : Ty × Bool) (h : yK n p0 = some r) : aB Tryz.prog 266 [aH p0, .eptr [.func 215 []]] [] (.aW [bn r.1, .bool r.2]) [] := by
 unfold yK at h
 refine ah true Tryz.func266 rfl (nt Tryz.ntmps266 rfl) fun Q hQ t ht => ?_
 conv at ht => whnf
 subst ht
 refine .r1 fun K1 k1 => (k1 _ _ ?_)
 refine .r fun K2 k2 => ?_
 obtain ⟨x1, hx1, h⟩ := ob h
 refine aG (l := p0) (f := aI) (cs := [.i ((x1).kind), .str ((x1).name), aH ((x1).kids)]) hx1 (aR x1) rfl (cP (KQ 0 x1 _ rfl) ?_)
 obtain ⟨x2, hx2, h⟩ := ob h
 refine aG (l := p0) (f := aI) (cs := [.i ((x2).kind), .str ((x2).name), aH ((x2).kids)]) hx2 (aR x2) rfl (⟨rfl, ?_⟩)
 refine k2 _ _ (.ret ?_)
 obtain rfl := sj h
 exact hQ _ _ _ rp
theorem XA (n : Nat) (p0 : List Ty) (r : Ty × Bool) (h : wK n p0 = some r) : aB Tryz.prog 230 [aH p0] [] (.aW [bn r.1, .bool r.2]) [] := by
 unfold wK at h
 refine ah true Tryz.func230 rfl (nt Tryz.ntmps230 rfl) fun Q hQ t ht => ?_
 conv at ht => whnf
 subst ht
 refine .r1 fun K1 k1 => (k1 _ _ ?_)
 refine .r1 fun K2 k2 => ?_
 obtain ⟨x1, hx1, h⟩ := ob h
 refine aG (l := p0) (f := aI) (cs := [.i ((x1).kind), .str ((x1).name), aH ((x1).kids)]) hx1 (aR x1) rfl ?_
 obtain ⟨x2, hx2, h⟩ := ob h
 refine cP (fE _ _ _ hx2) (k2 _ _ ?_)
 refine .q fun K3 k3 => ?_
 obtain ⟨s1, hj1, h⟩ := ob h
 have hR1 : ∀ t9 h9, Le 0 t9 h9 (u2 (.ptr 0 0 :: (.bool s1.1 :: (u16 (u4 (u2 [])))))) [.box [.i 5, .str ([] : Str), aH s1.2]] → K3 t9 h9 := by
  intro t9 h9 hw
  refine k3 _ _ (AW.le hw ?_)
  clear hw
  refine .ret ?_
  obtain rfl := sj h
  exact hQ _ _ _ rp
 refine rg 0 ?_
 obtain ⟨x3, hx3, hj1⟩ := ob hj1
 refine aG (l := p0) (f := aI) (cs := [.i ((x3).kind), .str ((x3).name), aH ((x3).kids)]) hx3 (aR x3) rfl (cP (uU 0 x2.1 x3 _ rfl) ?_)
 refine aD hj1 (fun hc1 hj1 => ?_) (fun hc1 hj1 => ?_)
 ·obtain ⟨x4, hx4, hj1⟩ := ob hj1
  refine aG (l := p0) (f := aI) (cs := [.i ((x4).kind), .str ((x4).name), aH ((x4).kids)]) hx4 (aR x4) rfl (⟨rfl, ?_⟩)
  cases hj1
  exact hR1 _ _ (wk [some 0] (.u2 (.c2 (.u16 (.u4 (.u2 .nil))))) (.b rfl (.c2 (.e aA .nil)) .nil) rfl)
 refine ⟨rfl, ?_⟩
 cases hj1
 exact hR1 _ _ (wk [some 0] (.u2 (.c2 (.u16 (.u4 (.u2 .nil))))) (.b rfl (.c2 (.e aA .nil)) .nil) rfl)
end Abs
end Go.Proofs.YtiiaccpcoclklaaGreat
