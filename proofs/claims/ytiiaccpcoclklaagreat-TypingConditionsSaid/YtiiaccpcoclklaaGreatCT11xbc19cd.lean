/-
  Plain functions and the contracts of Go functions by them (printed by gen.py). Conditions: none.
-/
import Derived.KernelRfl
import Derived.Test.YtiiaccpcoclklaaGreatCAbs38xf5d4b8
import Derived.Test.YtiiaccpcoclklaaGreatCDfx70d822
import Derived.Test.YtiiaccpcoclklaaGreatCDgx5ff6e3
import Derived.Test.YtiiaccpcoclklaaGreatCT8x8176f5
import Derived.Test.YtiiaccpcoclklaaGreatCT9xe36993
set_option linter.unusedSimpArgs false
set_option linter.unusedVariables false
namespace Go.Proofs.YtiiaccpcoclklaaGreat
namespace Abs
open Go Go.Proofs
set_option maxRecDepth 100000
set_option maxHeartbeats 40000000
theorem xU (n : Nat) (p0 : Ty) (r : Ty) (h : Ci n p0 = some r) : ak Tryz.prog 214 [aQ p0] [] (aQ r) [] := by
 unfold Ci at h
 refine ah true Tryz.func214 rfl (nt Tryz.ntmps214 rfl) fun Q hQ t ht => ?_
 conv at ht => whnf
 subst ht
 refine .q fun K1 k1 => rg 2 ?_
 refine k1 _ _ ?_
 refine .q fun K2 k2 => rg 0 ?_
 refine aD (jZ 0 _ rfl) uX .nil (fun g => rfl) (fun g => by simp) ?_
 refine k2 _ _ ?_
 refine .ret ?_
 have e9 := sj h
 subst e9
 refine hQ _ _ _ (aj au (fun g => by simp) ?_)
 conv => whnf
 try rfl
theorem vJ (n : Nat) (p0 : List Ty) (r : Ty × Bool) (h : ko n p0 = some r) : ak Tryz.prog 266 [aJ p0, .eptr [.func 214 []]] [] (.tup [aQ r.1, .bool r.2]) [] := by
 unfold ko at h
 refine ah true Tryz.func266 rfl (nt Tryz.ntmps266 rfl) fun Q hQ t ht => ?_
 conv at ht => whnf
 subst ht
 refine .q fun K1 k1 => rg 1 ?_
 refine k1 _ _ ?_
 refine .q fun K2 k2 => rg 0 ?_
 obtain ⟨x1, hx1, h⟩ := ob h
 refine aN (l := p0) (f := aG) (cs := [.i ((x1).kind), .str ((x1).name), aJ ((x1).kids)]) hx1 (aR x1) rfl ?_
 refine cp (xU 0 x1 _ rfl) NW (.cons (.same _) .nil) ?_
 obtain ⟨x2, hx2, h⟩ := ob h
 refine aN (l := p0) (f := aG) (cs := [.i ((x2).kind), .str ((x2).name), aJ ((x2).kids)]) hx2 (aR x2) rfl ?_
 refine ⟨rfl, ?_⟩
 refine k2 _ _ ?_
 refine .ret ?_
 have e9 := sj h
 subst e9
 refine hQ _ _ _ (aj au (fun g => by simp) ?_)
 conv => whnf
 try rfl
abbrev nA (rec_slices_EqualFunc_Type : (List Ty) → (List Ty) → Option Bool) : Prop := ∀ (p0 : List Ty) (p1 : List Ty) (r : Bool), rec_slices_EqualFunc_Type p0 p1 = some r → ak Tryz.prog 177 [aJ p0, aJ p1, .func 93 []] [] (.bool r) []
abbrev qE (rec_typing_equal : Ty → Ty → Option Bool) : Prop := ∀ (p0 : Ty) (p1 : Ty) (r : Bool), rec_typing_equal p0 p1 = some r → ak Tryz.prog 93 [aQ p0, aQ p1] [] (.bool r) []
theorem uw (n : Nat) (rec_slices_EqualFunc_Type : (List Ty) → (List Ty) → Option Bool) (rec_typing_equal : Ty → Ty → Option Bool) (hrec_slices_EqualFunc_Type : nA rec_slices_EqualFunc_Type) (hrec_typing_equal : qE rec_typing_equal) (p0 : List Ty) (p1 : List Ty) (r : Bool) (h : gT n rec_slices_EqualFunc_Type rec_typing_equal p0 p1 = some r) : ak Tryz.prog 177 [aJ p0, aJ p1, .func 93 []] [] (.bool r) [] := by
 unfold gT at h
 refine ah true Tryz.func177 rfl (nt Tryz.ntmps177 rfl) fun Q hQ t ht => ?_
 conv at ht => whnf
 subst ht
 refine .q fun K1 k1 => rg 0 ?_
 refine k1 _ _ ?_
 refine .q fun K2 k2 => .q fun K3 k3 => rg 0 ?_
 refine bO (l := p0) (f := aG) ?_
 refine bO (l := p1) (f := aG) ?_
 refine k3 _ _ ?_
 refine .aA rfl h (fun hc1 h => ?_) (fun hc1 h => ?_)
 ·refine .q fun K4 k4 => rg 0 ?_
  refine k4 _ _ ?_
  refine .ret ?_
  have e9 := sj h
  subst e9
  refine hQ _ _ _ (aj au (fun g => rfl) ?_)
  conv => whnf
 refine .skip ?_
 refine k2 _ _ ?_
 refine .q fun K5 k5 => .q fun K6 k6 => rg 0 ?_
 refine bO (l := p0) (f := aG) ?_
 refine k6 _ _ ?_
 refine .block ?_
 obtain ⟨o1, ho1, h⟩ := ob h
 have hR1 : ∀ s2 : Unit, o1 = .nx s2 → ∀ t9 h9, Le 0 t9 h9 (u32 []) [] → K5 t9 h9 := by
  intro s2 ho
  subst ho
  dsimp only [LR.el] at h
  intro t9 h9 hw
  refine k5 _ _ (AW.le hw ?_)
  refine .q fun K7 k7 => rg 0 ?_
  refine k7 _ _ ?_
  refine .ret ?_
  have e9 := sj h
  subst e9
  refine hQ _ _ _ (aj au (fun g => rfl) ?_)
  conv => whnf
 refine .loopS (iP n rec_slices_EqualFunc_Type rec_typing_equal p0 p1) (fun (s1 : Int) => (.unk :: (aJ p1 :: (.func 93 [] :: (u8 (u4 (aJ p0 :: (.i (p0.length : Int) :: (.i s1 :: (u8 (u4 (u2 [])))))))))))) (fun (s1 : Int) => []) ho1 (fun _ => rfl) (li (.u (.s (.s (.u8 (.u4 (.s (.s (.s (.u8 (.u4 (.u2 .n)))))))))))) ?_
 intro n1 s1 hs1 KL1 hKL1
 unfold iP at hs1
 refine .q fun K8 k8 => rg 0 ?_
 refine k8 _ _ ?_
 refine .q fun K9 k9 => ?_
 refine .aA rfl hs1 (fun hc2 hs1 => ?_) (fun hc2 hs1 => ?_)
 ·refine .skip ?_
  refine k9 _ _ ?_
  refine .q fun K10 k10 => ?_
  refine .block ?_
  refine .q fun K11 k11 => rg 1 ?_
  obtain ⟨x1, hx1, hs1⟩ := ob hs1
  refine aN (l := p0) (f := aG) (cs := [.i ((x1).kind), .str ((x1).name), aJ ((x1).kids)]) hx1 (aR x1) rfl ?_
  refine k11 _ _ ?_
  refine .q fun K12 k12 => rg 1 ?_
  obtain ⟨x2, hx2, hs1⟩ := ob hs1
  refine aN (l := p1) (f := aG) (cs := [.i ((x2).kind), .str ((x2).name), aJ ((x2).kids)]) hx2 (aR x2) rfl ?_
  refine k12 _ _ ?_
  refine .q fun K13 k13 => rg 0 ?_
  obtain ⟨x3, hx3, hs1⟩ := ob hs1
  refine aD (hrec_typing_equal _ _ _ hx3) u7 (.cons (.same _) (.cons (.same _) .nil)) (fun g => by simp) (fun g => rfl) ?_
  refine k13 _ _ ?_
  refine .aA rfl hs1 (fun hc3 hs1 => ?_) (fun hc3 hs1 => ?_)
  ·refine .q fun K14 k14 => rg 0 ?_
   refine k14 _ _ ?_
   refine .ret ?_
   have e9 := sj hs1
   subst e9
   dsimp only [LR.el] at h
   have e9 := sj h
   subst e9
   refine hQ _ _ _ (aj au (fun g => rfl) ?_)
   conv => whnf
  refine .skip ?_
  refine k10 _ _ ?_
  refine .know 7 0 fun hv1 => ?_
  refine .know 15 0 fun hv2 => ?_
  refine rg 0 ?_
  refine ⟨(s1 + 1), by have := iW hv1; have := ng hv2; have h8 := of_decide_eq_true hc2; exact dG (by omega) (by omega), ?_⟩
  exact hKL1 _ _ _ hs1 (wk [] (.u (.e aF (.cons (.func' .nil) (.u8 (.u4 (.e aF (.c rfl (.c rfl (.u8 (.u4 (.u2 .nil))))))))))) .nil rfl)
 refine .exit ?_
 exact hR1 _ (sj hs1).symm _ _ (li (.u16 (.u16 .n)))
theorem AQ (n : Nat) (rec_slices_EqualFunc_Type : (List Ty) → (List Ty) → Option Bool) (rec_typing_equal : Ty → Ty → Option Bool) (hrec_slices_EqualFunc_Type : nA rec_slices_EqualFunc_Type) (hrec_typing_equal : qE rec_typing_equal) (p0 : Ty) (p1 : Ty) (r : Bool) (h : mD n rec_slices_EqualFunc_Type rec_typing_equal p0 p1 = some r) : ak Tryz.prog 93 [aQ p0, aQ p1] [] (.bool r) [] := by
 unfold mD at h
 refine ah true Tryz.func93 rfl (nt Tryz.ntmps93 rfl) fun Q hQ t ht => ?_
 conv at ht => whnf
 subst ht
 refine .q fun K1 k1 => rg 2 ?_
 refine k1 _ _ ?_
 refine .q fun K2 k2 => ?_
 obtain ⟨s1, hj1, h⟩ := ob h
 have hR1 : ∀ t9 h9, Le 0 t9 h9 (u4 (.bool s1 :: (u16 (u2 (.unk :: []))))) [] → K2 t9 h9 := by
  intro t9 h9 hw
  refine k2 _ _ (AW.le hw ?_)
  clear hw
  refine .ret ?_
  have e9 := sj h
  subst e9
  refine hQ _ _ _ (aj au (fun g => rfl) ?_)
  conv => whnf
 refine rg 0 ?_
 refine aB hj1 (fun hc1 hj1 => ?_) (fun hc1 hj1 => ?_)
 ·refine aB hj1 (fun hc2 hj1 => ?_) (fun hc2 hj1 => ?_)
  ·obtain ⟨x1, hx1, hj1⟩ := ob hj1
   refine aD (hrec_slices_EqualFunc_Type _ _ _ hx1) TD (.cons (.same _) (.cons (.same _) (.cons (.same _) .nil))) (fun g => by simp) (fun g => rfl) ?_
   cases hj1
   exact hR1 _ _ (wk [] (.u4 (.c rfl (.u16 (.u2 (.u .nil))))) .nil rfl)
  cases hj1
  exact hR1 _ _ (wk [] (.u4 (.c rfl (.u16 (.u2 (.u .nil))))) .nil rfl)
 cases hj1
 exact hR1 _ _ (wk [] (.u4 (.c rfl (.u16 (.u2 (.u .nil))))) .nil rfl)
theorem wJ (n : Nat) : nA (iH n) ∧ qE (dR n) := by
 induction n with
 | zero => exact ⟨(fun p0 p1 r h => by unfold iH at h; cases h), (fun p0 p1 r h => by unfold dR at h; cases h)⟩
 | succ n ih =>
  exact ⟨(fun p0 p1 r h => uw n _ _ ih.1 ih.2 p0 p1 r (by unfold iH at h; exact h)), (fun p0 p1 r h => AQ n _ _ ih.1 ih.2 p0 p1 r (by unfold dR at h; exact h))⟩
theorem j3 (n : Nat) : qE (dR n) := (wJ n).2
theorem EH (n : Nat) (p0 : Ty) (p1 : List Ty) (r : Bool) (h : oJ n p0 p1 = some r) : ak Tryz.prog 261 [aQ p0, .ptr 0 0] [.box [aJ p1]] (.bool r) [.box [aJ p1]] := by
 unfold oJ at h
 refine ah true Tryz.func261 rfl (nt Tryz.ntmps261 rfl) fun Q hQ t ht => ?_
 conv at ht => whnf
 subst ht
 refine .q fun K1 k1 => rg 1 ?_
 refine k1 _ _ ?_
 refine .q fun K2 k2 => rg 0 ?_
 obtain ⟨x1, hx1, h⟩ := ob h
 refine aN (l := p1) (f := aG) (cs := [.i ((x1).kind), .str ((x1).name), aJ ((x1).kids)]) hx1 (aR x1) rfl ?_
 obtain ⟨x2, hx2, h⟩ := ob h
 refine aD (j3 _ _ _ _ hx2) u7 (.cons (.same _) (.cons (.same _) .nil)) (fun g => by simp) (fun g => rfl) ?_
 refine ⟨rfl, ?_⟩
 refine k2 _ _ ?_
 refine .ret ?_
 have e9 := sj h
 subst e9
 refine hQ _ _ _ (bP (u2 (.unk :: (.bool (!x2) :: (u4 (u2 []))))) [.box [aJ p1]] (wk [some 0] (.u2 (.u (.c rfl (.u4 (.u2 .nil))))) (.b rfl (.e aF .nil) .nil) rfl) (aX au [0] rfl (.cons (by simp only [bC, ren, bn, aW, cB, bf, aL, aU, bA, aF, aT, aC, aK, aI]; try rfl) .nil) ?_))
 conv => whnf
 first | rfl | (simp; done) | (simp; rfl) | (simp; constructor <;> rfl)
theorem vP (n : Nat) (p0 : List Ty) (p1 : List Ty) (r : Int) (h : kM n p0 p1 = some r) : ak Tryz.prog 245 [aJ p0, .func 261 [.ptr 0 0]] [.box [aJ p1]] (.i r) [.box [aJ p1]] := by
 unfold kM at h
 refine ah true Tryz.func245 rfl (nt Tryz.ntmps245 rfl) fun Q hQ t ht => ?_
 conv at ht => whnf
 subst ht
 refine .q fun K1 k1 => rg 0 ?_
 refine k1 _ _ ?_
 refine .q fun K2 k2 => .q fun K3 k3 => rg 0 ?_
 refine bO (l := p0) (f := aG) ?_
 refine k3 _ _ ?_
 refine .block ?_
 obtain ⟨o1, ho1, h⟩ := ob h
 have hR1 : ∀ s2 : Unit, o1 = .nx s2 → ∀ t9 h9, Le 1 t9 h9 (u16 (u2 (.unk :: []))) [.box [aJ p1]] → K2 t9 h9 := by
  intro s2 ho
  subst ho
  dsimp only [LR.el] at h
  intro t9 h9 hw
  refine k2 _ _ (AW.le hw ?_)
  refine .q fun K4 k4 => rg 0 ?_
  refine k4 _ _ ?_
  refine .ret ?_
  have e9 := sj h
  subst e9
  refine hQ _ _ _ (bP (u4 (.i (-1) :: (u8 (u4 (u2 []))))) [.box [aJ p1]] (wk [some 0] (.u4 (.c rfl (.u8 (.u4 (.u2 .nil))))) (.b rfl (.e aF .nil) .nil) rfl) (aX au [0] rfl (.cons (by simp only [bC, ren, bn, aW, cB, bf, aL, aU, bA, aF, aT, aC, aK, aI]; try rfl) .nil) ?_))
  conv => whnf
  first | rfl | (simp; done) | (simp; rfl) | (simp; constructor <;> rfl)
 refine .loopS (gV n p0 p1) (fun (s1 : Int) => (aJ p0 :: (.func 261 [.ptr 0 0] :: (u4 (.unk :: (.i (p0.length : Int) :: (.i s1 :: (u8 (u2 []))))))))) (fun (s1 : Int) => [.box [aJ p1]]) ho1 (fun _ => rfl) (li (.s (.s (.u4 (.u (.s (.s (.u8 (.u2 .n))))))))) ?_
 intro n1 s1 hs1 KL1 hKL1
 unfold gV at hs1
 refine .q fun K5 k5 => rg 0 ?_
 refine k5 _ _ ?_
 refine .q fun K6 k6 => ?_
 refine .aA rfl hs1 (fun hc1 hs1 => ?_) (fun hc1 hs1 => ?_)
 ·refine .skip ?_
  refine k6 _ _ ?_
  refine .q fun K7 k7 => ?_
  refine .block ?_
  refine .q fun K8 k8 => rg 0 ?_
  refine k8 _ _ ?_
  refine .q fun K9 k9 => rg 0 ?_
  obtain ⟨x1, hx1, hs1⟩ := ob hs1
  refine aN (l := p0) (f := aG) (cs := [.i ((x1).kind), .str ((x1).name), aJ ((x1).kids)]) hx1 (aR x1) rfl ?_
  obtain ⟨x2, hx2, hs1⟩ := ob hs1
  refine bI [0] [] [aQ x1, .ptr 0 0] [aQ x1, .ptr 0 0] (EH _ _ _ _ hx2) Tj rfl (.cons (by simp only [bC, ren, bn, aW, cB, bf, aL, aU, bA, aF, aT, aC, aK, aI]; try rfl) .nil) (by simp; try decide) (.cons (.same _) (.cons (.same _) .nil)) (rn := .bool x2) (rfl) (Hn := [.box [aJ p1]]) ((aZ (by simp only [bC, ren, bn, aW, cB, bf, aL, aU, bA, aF, aT, aC, aK, aI]; try rfl) rfl)) ?_
  refine k9 _ _ ?_
  refine .aA rfl hs1 (fun hc2 hs1 => ?_) (fun hc2 hs1 => ?_)
  ·refine .q fun K10 k10 => rg 0 ?_
   refine k10 _ _ ?_
   refine .ret ?_
   have e9 := sj hs1
   subst e9
   dsimp only [LR.el] at h
   have e9 := sj h
   subst e9
   refine hQ _ _ _ (bP (u4 (.i s1 :: (u8 (u4 (u2 []))))) [.box [aJ p1]] (wk [some 0] (.u4 (.c rfl (.u8 (.u4 (.u2 .nil))))) (.b rfl (.e aF .nil) .nil) rfl) (aX au [0] rfl (.cons (by simp only [bC, ren, bn, aW, cB, bf, aL, aU, bA, aF, aT, aC, aK, aI]; try rfl) .nil) ?_))
   conv => whnf
   first | rfl | (simp; done) | (simp; rfl) | (simp; constructor <;> rfl)
  refine .skip ?_
  refine k7 _ _ ?_
  refine .know 5 0 fun hv1 => ?_
  refine .know 0 0 fun hv2 => ?_
  refine rg 0 ?_
  refine ⟨(s1 + 1), by have := iW hv1; have := ng hv2; have h8 := of_decide_eq_true hc1; exact dG (by omega) (by omega), ?_⟩
  exact hKL1 _ _ _ hs1 (li (.s (.s (.u4 (.u (.s (.s (.u8 (.u2 .n)))))))))
 refine .exit ?_
 exact hR1 _ (sj hs1).symm _ _ (li (.u16 (.u2 (.u .n))))
theorem uo (n : Nat) (p0 : List Ty) (p1 : List Ty) (r : Bool) (h : jD n p0 p1 = some r) : ak Tryz.prog 178 [aJ p0, .func 261 [.ptr 0 0]] [.box [aJ p1]] (.bool r) [.box [aJ p1]] := by
 unfold jD at h
 refine ah true Tryz.func178 rfl (nt Tryz.ntmps178 rfl) fun Q hQ t ht => ?_
 conv at ht => whnf
 subst ht
 refine .q fun K1 k1 => rg 0 ?_
 refine k1 _ _ ?_
 refine .q fun K2 k2 => rg 0 ?_
 obtain ⟨x1, hx1, h⟩ := ob h
 refine bI [0] [] [aJ p0, .func 261 [.ptr 0 0]] [aJ p0, .func 261 [.ptr 0 0]] (vP _ _ _ _ hx1) Es rfl (.cons (by simp only [bC, ren, bn, aW, cB, bf, aL, aU, bA, aF, aT, aC, aK, aI]; try rfl) .nil) (by simp; try decide) (.cons (.same _) (.cons (.same _) .nil)) (rn := .i x1) (rfl) (Hn := [.box [aJ p1]]) ((aZ (by simp only [bC, ren, bn, aW, cB, bf, aL, aU, bA, aF, aT, aC, aK, aI]; try rfl) rfl)) ?_
 refine k2 _ _ ?_
 refine .ret ?_
 have e9 := sj h
 subst e9
 refine hQ _ _ _ (bP (u4 (.bool (decide (0 ≤ x1)) :: (u4 []))) [.box [aJ p1]] (wk [some 0] (.u4 (.c rfl (.u4 .nil))) (.b rfl (.e aF .nil) .nil) rfl) (aX au [0] rfl (.cons (by simp only [bC, ren, bn, aW, cB, bf, aL, aU, bA, aF, aT, aC, aK, aI]; try rfl) .nil) ?_))
 conv => whnf
 first | rfl | (simp; done) | (simp; rfl) | (simp; constructor <;> rfl)
theorem nT (n : Nat) (p0 : List Ty) (r : Bool) (h : iR n p0 = some r) : ak Tryz.prog 202 [aJ p0] [] (.bool r) [] := by
 unfold iR at h
 refine ah true Tryz.func202 rfl (nt Tryz.ntmps202 rfl) fun Q hQ t ht => ?_
 conv at ht => whnf
 subst ht
 refine .q fun K1 k1 => rg 1 ?_
 refine k1 _ _ ?_
 refine .q fun K2 k2 => ?_
 obtain ⟨s1, hj1, h⟩ := ob h
 have hR1 : ∀ t9 h9, Le 0 t9 h9 (u2 (.bool s1 :: (u8 (u2 (.unk :: []))))) [] → K2 t9 h9 := by
  intro t9 h9 hw
  refine k2 _ _ (AW.le hw ?_)
  clear hw
  refine .ret ?_
  have e9 := sj h
  subst e9
  refine hQ _ _ _ (aj au (fun g => rfl) ?_)
  conv => whnf
 refine rg 0 ?_
 obtain ⟨x1, hx1, hj1⟩ := ob hj1
 refine aN (l := p0) (f := aG) (cs := [.i ((x1).kind), .str ((x1).name), aJ ((x1).kids)]) hx1 (aR x1) rfl ?_
 refine aB hj1 (fun hc1 hj1 => ?_) (fun hc1 hj1 => ?_)
 ·obtain ⟨x2, hx2, hj1⟩ := ob hj1
  refine bI [0] [] [aJ p0, .func 261 [.ptr 0 0]] [aJ p0, .func 261 [.ptr 0 0]] (uo _ _ _ _ hx2) EB rfl (.cons (by simp only [bC, ren, bn, aW, cB, bf, aL, aU, bA, aF, aT, aC, aK, aI]; try rfl) .nil) (by simp; try decide) (.cons (.same _) (.cons (.same _) .nil)) (rn := .bool x2) (rfl) (Hn := [.box [aJ p0]]) ((aZ (by simp only [bC, ren, bn, aW, cB, bf, aL, aU, bA, aF, aT, aC, aK, aI]; try rfl) rfl)) ?_
  cases hj1
  exact hR1 _ _ (wk [] (.u2 (.c rfl (.u8 (.u2 (.u .nil))))) .nil rfl)
 cases hj1
 exact hR1 _ _ (wk [] (.u2 (.c rfl (.u8 (.u2 (.u .nil))))) .nil rfl)
theorem xM (n : Nat) (p0 : List Ty) (r : Ty × Bool) (h : lY n p0 = some r) : ak Tryz.prog 201 [aJ p0] [] (.tup [aQ r.1, .bool r.2]) [] := by
 unfold lY at h
 refine ah true Tryz.func201 rfl (nt Tryz.ntmps201 rfl) fun Q hQ t ht => ?_
 conv at ht => whnf
 subst ht
 refine .q fun K1 k1 => rg 1 ?_
 refine k1 _ _ ?_
 refine .q fun K2 k2 => rg 0 ?_
 refine aD (jZ 0 _ rfl) uX .nil (fun g => rfl) (fun g => by simp) ?_
 obtain ⟨x1, hx1, h⟩ := ob h
 refine aD (nT _ _ _ hx1) Ar (.cons (.same _) .nil) (fun g => by simp) (fun g => rfl) ?_
 refine k2 _ _ ?_
 refine .ret ?_
 have e9 := sj h
 subst e9
 refine hQ _ _ _ (aj au (fun g => by simp) ?_)
 conv => whnf
 try rfl
theorem xu (n : Nat) (p0 : List Ty) (r : Ty × Bool) (h : kI n p0 = some r) : ak Tryz.prog 216 [aJ p0] [] (.tup [aQ r.1, .bool r.2]) [] := by
 unfold kI at h
 refine ah true Tryz.func216 rfl (nt Tryz.ntmps216 rfl) fun Q hQ t ht => ?_
 conv at ht => whnf
 subst ht
 refine .q fun K1 k1 => rg 1 ?_
 refine k1 _ _ ?_
 refine .q fun K2 k2 => rg 1 ?_
 obtain ⟨x1, hx1, h⟩ := ob h
 refine aN (l := p0) (f := aG) (cs := [.i ((x1).kind), .str ((x1).name), aJ ((x1).kids)]) hx1 (aR x1) rfl ?_
 obtain ⟨x2, hx2, h⟩ := ob h
 refine cp (bU _ _ _ hx2) lV (.cons (.same _) .nil) ?_
 refine k2 _ _ ?_
 refine .q fun K3 k3 => ?_
 obtain ⟨s1, hj1, h⟩ := ob h
 have hR1 : ∀ t9 h9, Le 0 t9 h9 (u2 (.ptr 0 0 :: (.bool s1 :: (u16 (u2 []))))) [.box [.i 2, .str ([] : Str), aJ ([])]] → K3 t9 h9 := by
  intro t9 h9 hw
  refine k3 _ _ (AW.le hw ?_)
  clear hw
  refine .ret ?_
  have e9 := sj h
  subst e9
  refine hQ _ _ _ (aj au (fun g => by simp) ?_)
  conv => whnf
  try rfl
 refine rg 0 ?_
 refine aD (jZ 0 _ rfl) uX .nil (fun g => rfl) (fun g => by simp) ?_
 refine aB hj1 (fun hc1 hj1 => ?_) (fun hc1 hj1 => ?_)
 ·obtain ⟨x3, hx3, hj1⟩ := ob hj1
  refine aN (l := p0) (f := aG) (cs := [.i ((x3).kind), .str ((x3).name), aJ ((x3).kids)]) hx3 (aR x3) rfl ?_
  obtain ⟨x4, hx4, hj1⟩ := ob hj1
  refine aD (j3 _ _ _ _ hx4) u7 (.cons (.same _) (.cons (.same _) .nil)) (fun g => by simp) (fun g => rfl) ?_
  refine ⟨rfl, ?_⟩
  cases hj1
  exact hR1 _ _ (wk [some 0] (.u2 (.c rfl (.c rfl (.u16 (.u2 .nil))))) (.b rfl (.c rfl (.c rfl (.e aF .nil))) .nil) rfl)
 refine ⟨rfl, ?_⟩
 cases hj1
 exact hR1 _ _ (wk [some 0] (.u2 (.c rfl (.c rfl (.u16 (.u2 .nil))))) (.b rfl (.c rfl (.c rfl (.e aF .nil))) .nil) rfl)
theorem Dw (n : Nat) (p0 : List Ty) (r : Ty × Bool) (h : lQ n p0 = some r) : ak Tryz.prog 267 [aJ p0, .eptr [.func 214 []]] [] (.tup [aQ r.1, .bool r.2]) [] := by
 unfold lQ at h
 refine ah true Tryz.func267 rfl (nt Tryz.ntmps267 rfl) fun Q hQ t ht => ?_
 conv at ht => whnf
 subst ht
 refine .q fun K1 k1 => rg 1 ?_
 refine k1 _ _ ?_
 refine .q fun K2 k2 => ?_
 obtain ⟨s1, hj1, h⟩ := ob h
 have hR1 : ∀ t9 h9, Le 0 t9 h9 (u2 (.unk :: (.ptr 0 0 :: (.bool s1 :: (u8 (u4 (u2 []))))))) [.box [.i 2, .str ([] : Str), aJ ([])]] → K2 t9 h9 := by
  intro t9 h9 hw
  refine k2 _ _ (AW.le hw ?_)
  clear hw
  refine .ret ?_
  have e9 := sj h
  subst e9
  refine hQ _ _ _ (aj au (fun g => by simp) ?_)
  conv => whnf
  try rfl
 refine rg 0 ?_
 obtain ⟨x1, hx1, hj1⟩ := ob hj1
 refine aN (l := p0) (f := aG) (cs := [.i ((x1).kind), .str ((x1).name), aJ ((x1).kids)]) hx1 (aR x1) rfl ?_
 refine cp (xU 0 x1 _ rfl) NW (.cons (.same _) .nil) ?_
 obtain ⟨x2, hx2, hj1⟩ := ob hj1
 refine aN (l := p0) (f := aG) (cs := [.i ((x2).kind), .str ((x2).name), aJ ((x2).kids)]) hx2 (aR x2) rfl ?_
 refine aB hj1 (fun hc1 hj1 => ?_) (fun hc1 hj1 => ?_)
 ·obtain ⟨x3, hx3, hj1⟩ := ob hj1
  refine aD (nT _ _ _ hx3) Ar (.cons (.same _) .nil) (fun g => by simp) (fun g => rfl) ?_
  refine ⟨rfl, ?_⟩
  cases hj1
  exact hR1 _ _ (li (.u2 (.u (.s (.s (.u8 (.u4 (.u2 .n))))))))
 refine ⟨rfl, ?_⟩
 cases hj1
 exact hR1 _ _ (li (.u2 (.u (.s (.s (.u8 (.u4 (.u2 .n))))))))
theorem w9 (n : Nat) (p0 : Ty) (p1 : Ty) (r : Ty) (h : Ct n p0 p1 = some r) : ak Tryz.prog 219 [aQ p0, aQ p1] [] (aQ r) [] := by
 unfold Ct at h
 refine ah true Tryz.func219 rfl (nt Tryz.ntmps219 rfl) fun Q hQ t ht => ?_
 conv at ht => whnf
 subst ht
 refine .q fun K1 k1 => rg 3 ?_
 refine k1 _ _ ?_
 refine .q fun K2 k2 => rg 1 ?_
 refine ⟨List.map aG ([p0, p1]), by simp only [List.map_cons, List.map_nil, aR]; rfl, ?_⟩
 refine k2 _ _ ?_
 refine .ret ?_
 have e9 := sj h
 subst e9
 refine hQ _ _ _ (aj au (fun g => by simp) ?_)
 conv => whnf
 try rfl
end Abs
end Go.Proofs.YtiiaccpcoclklaaGreat
