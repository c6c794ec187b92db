/-
  Plain functions and the contracts of Go functions by them (printed by gen.py). Conditions: none.
-/
import Derived.KernelRfl
import Derived.Test.YtiiaccpcoclklaaGreatCAbs38xf5d4b8
import Derived.Test.YtiiaccpcoclklaaGreatCDfx70d822
import Derived.Test.YtiiaccpcoclklaaGreatCDgx5ff6e3
import Derived.Test.YtiiaccpcoclklaaGreatCT3x9ae258
import Derived.Test.YtiiaccpcoclklaaGreatCNilx5ea90a
set_option linter.unusedSimpArgs false
set_option linter.unusedVariables false
namespace Go.Proofs.YtiiaccpcoclklaaGreat
namespace Abs
open Go Go.Proofs
set_option maxRecDepth 100000
set_option maxHeartbeats 40000000
theorem vK (n : Nat) (p0 : Ty) (r : List Str) (h : lS n p0 = some r) : ak Tryz.prog 45 [aQ p0] [] (eP r) [] := by
 unfold lS at h
 refine ah true Tryz.func45 rfl (nt Tryz.ntmps45 rfl) fun Q hQ t ht => ?_
 conv at ht => whnf
 subst ht
 refine .q fun K1 k1 => rg 1 ?_
 refine k1 _ _ ?_
 refine .q fun K2 k2 => .q fun K3 k3 => rg 0 ?_
 obtain ⟨x1, hx1, h⟩ := ob h
 refine aD (oo _ _ _ hx1) Gp (.cons (.same _) .nil) (fun g => by simp) (fun g => rfl) ?_
 refine k3 _ _ ?_
 refine .aA rfl h (fun hc1 h => ?_) (fun hc1 h => ?_)
 ·refine .q fun K4 k4 => rg 0 ?_
  refine k4 _ _ ?_
  refine .ret ?_
  have e9 := sj h
  subst e9
  refine hQ _ _ _ (aj au (fun g => by simp) ?_)
  conv => whnf
  try rfl
 refine .skip ?_
 refine k2 _ _ ?_
 refine .q fun K5 k5 => rg 1 ?_
 refine k5 _ _ ?_
 refine .q fun K6 k6 => rg 0 ?_
 obtain ⟨x2, hx2, h⟩ := ob h
 refine bI [1] [] [aQ p0, .mapr 0] [aQ p0, .mapr 1] (EO _ _ _ _ hx2) MV rfl (.cons (congrArg AObj.mp (bK (f := (fun (x : Bool) => .bool x)) (fun g x => rfl) _ _)) .nil) (by simp; try decide) (.cons (.same _) (.cons (.same _) .nil)) (rn := .tup []) (rfl) (Hn := [.mp (dL x2)]) ((aZ (congrArg AObj.mp (bK (f := (fun (x : Bool) => .bool x)) (fun g x => rfl) _ _)) rfl)) ?_
 refine k6 _ _ ?_
 refine .q fun K7 k7 => rg 1 ?_
 refine bI [1] [2] [.mapr 0] [.mapr 1] (EI 0 x2 _ rfl) Tz rfl (.cons (congrArg AObj.mp (bK (f := (fun (x : Bool) => .bool x)) (fun g x => rfl) _ _)) .nil) (by simp; try decide) (.cons (.same _) .nil) (rn := .func 185 [.ptr 2 0]) (by simp; try decide) (Hn := [.mp (dL x2), .box [.mapr 1]]) ((aZ (congrArg AObj.mp (bK (f := (fun (x : Bool) => .bool x)) (fun g x => rfl) _ _)) (aZ rfl rfl))) ?_
 obtain ⟨x3, hx3, h⟩ := ob h
 refine bI [1, 2] [] [.func 185 [.ptr 1 0]] [.func 185 [.ptr 2 0]] (yH _ _ _ hx3) Td rfl (.cons (congrArg AObj.mp (bK (f := (fun (x : Bool) => .bool x)) (fun g x => rfl) _ _)) (.cons rfl .nil)) (by simp; try decide) (.cons (.same _) .nil) (rn := eP x3) (by simp; try decide) (Hn := [.mp (dL x2), .box [.mapr 1]]) ((aZ (congrArg AObj.mp (bK (f := (fun (x : Bool) => .bool x)) (fun g x => rfl) _ _)) (aZ rfl rfl))) ?_
 refine k7 _ _ ?_
 refine .ret ?_
 have e9 := sj h
 subst e9
 refine hQ _ _ _ (aj au (fun g => by simp) ?_)
 conv => whnf
 try rfl
theorem zI (n : Nat) (p0 : Carrier) (p1 : Str) (r : Bool) (h : uI n p0 p1 = some r) : ak Tryz.prog 248 [.agg [.str p0.name, eP p0.elems], .ptr 0 0] [.box [.str p1]] (.bool r) [.box [.str p1]] := by
 unfold uI at h
 refine ah true Tryz.func248 rfl (nt Tryz.ntmps248 rfl) fun Q hQ t ht => ?_
 conv at ht => whnf
 subst ht
 refine .q fun K1 k1 => rg 1 ?_
 refine k1 _ _ ?_
 refine .q fun K2 k2 => rg 0 ?_
 refine k2 _ _ ?_
 refine .ret ?_
 have e9 := sj h
 subst e9
 refine hQ _ _ _ (bP (u2 (.unk :: (.bool (p0.name == p1) :: (u4 [])))) [.box [.str p1]] (wk [some 0] (.u2 (.u (.c rfl (.u4 .nil)))) (.b rfl (.c rfl .nil) .nil) rfl) (aX au [0] rfl (.cons (rfl) .nil) ?_))
 conv => whnf
 first | rfl | (simp; done) | (simp; rfl) | (simp; constructor <;> rfl)
theorem vL (n : Nat) (p0 : List Carrier) (p1 : Str) (r : Int) (h : kg n p0 p1 = some r) : ak Tryz.prog 123 [gD p0, .func 248 [.ptr 0 0]] [.box [.str p1]] (.i r) [.box [.str p1]] := by
 unfold kg at h
 refine ah true Tryz.func123 rfl (nt Tryz.ntmps123 rfl) fun Q hQ t ht => ?_
 conv at ht => whnf
 subst ht
 refine .q fun K1 k1 => rg 0 ?_
 refine k1 _ _ ?_
 refine .q fun K2 k2 => .q fun K3 k3 => rg 0 ?_
 refine bO (l := p0) (f := cO) ?_
 refine k3 _ _ ?_
 refine .block ?_
 obtain ⟨o1, ho1, h⟩ := ob h
 have hR1 : ∀ s2 : Unit, o1 = .nx s2 → ∀ t9 h9, Le 1 t9 h9 (u16 (u2 (.unk :: []))) [.box [.str p1]] → K2 t9 h9 := by
  intro s2 ho
  subst ho
  dsimp only [LR.el] at h
  intro t9 h9 hw
  refine k2 _ _ (AW.le hw ?_)
  refine .q fun K4 k4 => rg 0 ?_
  refine k4 _ _ ?_
  refine .ret ?_
  have e9 := sj h
  subst e9
  refine hQ _ _ _ (bP (u4 (.i (-1) :: (u8 (u4 (u2 []))))) [.box [.str p1]] (wk [some 0] (.u4 (.c rfl (.u8 (.u4 (.u2 .nil))))) (.b rfl (.c rfl .nil) .nil) rfl) (aX au [0] rfl (.cons (rfl) .nil) ?_))
  conv => whnf
  first | rfl | (simp; done) | (simp; rfl) | (simp; constructor <;> rfl)
 refine .loopS (gI n p0 p1) (fun (s1 : Int) => (gD p0 :: (.func 248 [.ptr 0 0] :: (u4 (.unk :: (.i (p0.length : Int) :: (.i s1 :: (u8 (u2 []))))))))) (fun (s1 : Int) => [.box [.str p1]]) ho1 (fun _ => rfl) (li (.s (.s (.u4 (.u (.s (.s (.u8 (.u2 .n))))))))) ?_
 intro n1 s1 hs1 KL1 hKL1
 unfold gI at hs1
 refine .q fun K5 k5 => rg 0 ?_
 refine k5 _ _ ?_
 refine .q fun K6 k6 => ?_
 refine .aA rfl hs1 (fun hc1 hs1 => ?_) (fun hc1 hs1 => ?_)
 ·refine .skip ?_
  refine k6 _ _ ?_
  refine .q fun K7 k7 => ?_
  refine .block ?_
  refine .q fun K8 k8 => rg 0 ?_
  refine k8 _ _ ?_
  refine .q fun K9 k9 => rg 0 ?_
  obtain ⟨x1, hx1, hs1⟩ := ob hs1
  refine aN (l := p0) (f := cO) (cs := [.str ((x1).name), eP ((x1).elems)]) hx1 (rfl) rfl ?_
  refine bI [0] [] [.agg [.str x1.name, eP x1.elems], .ptr 0 0] [.agg [.str x1.name, eP x1.elems], .ptr 0 0] (zI 0 x1 p1 _ rfl) Tk rfl (.cons (rfl) .nil) (by simp; try decide) (.cons (.same _) (.cons (.same _) .nil)) (rn := .bool (x1.name == p1)) (rfl) (Hn := [.box [.str p1]]) ((aZ (rfl) rfl)) ?_
  refine k9 _ _ ?_
  refine .aA rfl hs1 (fun hc2 hs1 => ?_) (fun hc2 hs1 => ?_)
  ·refine .q fun K10 k10 => rg 0 ?_
   refine k10 _ _ ?_
   refine .ret ?_
   have e9 := sj hs1
   subst e9
   dsimp only [LR.el] at h
   have e9 := sj h
   subst e9
   refine hQ _ _ _ (bP (u4 (.i s1 :: (u8 (u4 (u2 []))))) [.box [.str p1]] (wk [some 0] (.u4 (.c rfl (.u8 (.u4 (.u2 .nil))))) (.b rfl (.c rfl .nil) .nil) rfl) (aX au [0] rfl (.cons (rfl) .nil) ?_))
   conv => whnf
   first | rfl | (simp; done) | (simp; rfl) | (simp; constructor <;> rfl)
  refine .skip ?_
  refine k7 _ _ ?_
  refine .know 5 0 fun hv1 => ?_
  refine .know 0 0 fun hv2 => ?_
  refine rg 0 ?_
  refine ⟨(s1 + 1), by have := iW hv1; have := ng hv2; have h8 := of_decide_eq_true hc1; exact dG (by omega) (by omega), ?_⟩
  exact hKL1 _ _ _ hs1 (li (.s (.s (.u4 (.u (.s (.s (.u8 (.u2 .n)))))))))
 refine .exit ?_
 exact hR1 _ (sj hs1).symm _ _ (li (.u16 (.u2 (.u .n))))
theorem ug (n : Nat) (p0 : List Carrier) (p1 : Str) (r : Bool) (h : jl n p0 p1 = some r) : ak Tryz.prog 247 [gD p0, .func 248 [.ptr 0 0]] [.box [.str p1]] (.bool r) [.box [.str p1]] := by
 unfold jl at h
 refine ah true Tryz.func247 rfl (nt Tryz.ntmps247 rfl) fun Q hQ t ht => ?_
 conv at ht => whnf
 subst ht
 refine .q fun K1 k1 => rg 0 ?_
 refine k1 _ _ ?_
 refine .q fun K2 k2 => rg 0 ?_
 obtain ⟨x1, hx1, h⟩ := ob h
 refine bI [0] [] [gD p0, .func 248 [.ptr 0 0]] [gD p0, .func 248 [.ptr 0 0]] (vL _ _ _ _ hx1) Uo rfl (.cons (rfl) .nil) (by simp; try decide) (.cons (.same _) (.cons (.same _) .nil)) (rn := .i x1) (rfl) (Hn := [.box [.str p1]]) ((aZ (rfl) rfl)) ?_
 refine k2 _ _ ?_
 refine .ret ?_
 have e9 := sj h
 subst e9
 refine hQ _ _ _ (bP (u4 (.bool (decide (0 ≤ x1)) :: (u4 []))) [.box [.str p1]] (wk [some 0] (.u4 (.c rfl (.u4 .nil))) (.b rfl (.c rfl .nil) .nil) rfl) (aX au [0] rfl (.cons (rfl) .nil) ?_))
 conv => whnf
 first | rfl | (simp; done) | (simp; rfl) | (simp; constructor <;> rfl)
theorem Bh (n : Nat) (p0 : Env) (p1 : Str) (r : Bool) (h : l6 n p0 p1 = some r) : ak Tryz.prog 182 [pW p0, .str p1] [] (.bool r) [] := by
 unfold l6 at h
 refine ah true Tryz.func182 rfl (nt Tryz.ntmps182 rfl) fun Q hQ t ht => ?_
 conv at ht => whnf
 subst ht
 refine .q fun K1 k1 => rg 2 ?_
 refine k1 _ _ ?_
 refine .q fun K2 k2 => rg 0 ?_
 obtain ⟨x1, hx1, h⟩ := ob h
 refine bI [1] [] [gD p0.carriers, .func 248 [.ptr 0 0]] [gD p0.carriers, .func 248 [.ptr 1 0]] (ug _ _ _ _ hx1) Uw rfl (.cons (rfl) .nil) (by simp; try decide) (.cons (.same _) (.cons (.same _) .nil)) (rn := .bool x1) (rfl) (Hn := [.box [.str p1]]) ((aZ (rfl) rfl)) ?_
 refine k2 _ _ ?_
 refine .ret ?_
 have e9 := sj h
 subst e9
 refine hQ _ _ _ (aj au (fun g => rfl) ?_)
 conv => whnf
theorem Bo (n : Nat) (p0 : Str) (p1 : List Carrier) (p2 : List Decl) (r : Bool) (h : mg n p0 p1 p2 = some r) : ak Tryz.prog 181 [.str p0, .ptr 0 0] [.box [gD p1, jJ p2]] (.bool r) [.box [gD p1, jJ p2]] := by
 unfold mg at h
 refine ah true Tryz.func181 rfl (nt Tryz.ntmps181 rfl) fun Q hQ t ht => ?_
 conv at ht => whnf
 subst ht
 refine .q fun K1 k1 => rg 0 ?_
 refine k1 _ _ ?_
 refine .q fun K2 k2 => rg 0 ?_
 obtain ⟨x1, hx1, h⟩ := ob h
 refine aD (Bh _ _ _ _ hx1) U7 (.cons (.same _) (.cons (.same _) .nil)) (fun g => by simp) (fun g => rfl) ?_
 refine k2 _ _ ?_
 refine .ret ?_
 have e9 := sj h
 subst e9
 refine hQ _ _ _ (bP (u2 (.unk :: (.bool (!x1) :: (u4 [])))) [.box [gD p1, jJ p2]] (wk [some 0] (.u2 (.u (.c rfl (.u4 .nil)))) (.b rfl (.e aC (.e aK .nil)) .nil) rfl) (aX au [0] rfl (.cons (by simp only [bC, ren, bn, aW, cB, bf, aL, aU, bA, aF, aT, aC, aK, aI]; try rfl) .nil) ?_))
 conv => whnf
 first | rfl | (simp; done) | (simp; rfl) | (simp; constructor <;> rfl)
theorem vR (n : Nat) (p0 : List Str) (p1 : List Carrier) (p2 : List Decl) (r : Int) (h : kK n p0 p1 p2 = some r) : ak Tryz.prog 246 [eP p0, .func 181 [.ptr 0 0]] [.box [gD p1, jJ p2]] (.i r) [.box [gD p1, jJ p2]] := by
 unfold kK at h
 refine ah true Tryz.func246 rfl (nt Tryz.ntmps246 rfl) fun Q hQ t ht => ?_
 conv at ht => whnf
 subst ht
 refine .q fun K1 k1 => rg 0 ?_
 refine k1 _ _ ?_
 refine .q fun K2 k2 => .q fun K3 k3 => rg 0 ?_
 refine bO (l := p0) (f := encS) ?_
 refine k3 _ _ ?_
 refine .block ?_
 obtain ⟨o1, ho1, h⟩ := ob h
 have hR1 : ∀ s2 : Unit, o1 = .nx s2 → ∀ t9 h9, Le 1 t9 h9 (u16 (u2 (.unk :: []))) [.box [gD p1, jJ p2]] → K2 t9 h9 := by
  intro s2 ho
  subst ho
  dsimp only [LR.el] at h
  intro t9 h9 hw
  refine k2 _ _ (AW.le hw ?_)
  refine .q fun K4 k4 => rg 0 ?_
  refine k4 _ _ ?_
  refine .ret ?_
  have e9 := sj h
  subst e9
  refine hQ _ _ _ (bP (u4 (.i (-1) :: (u8 (u4 (u2 []))))) [.box [gD p1, jJ p2]] (wk [some 0] (.u4 (.c rfl (.u8 (.u4 (.u2 .nil))))) (.b rfl (.e aC (.e aK .nil)) .nil) rfl) (aX au [0] rfl (.cons (by simp only [bC, ren, bn, aW, cB, bf, aL, aU, bA, aF, aT, aC, aK, aI]; try rfl) .nil) ?_))
  conv => whnf
  first | rfl | (simp; done) | (simp; rfl) | (simp; constructor <;> rfl)
 refine .loopS (gN n p0 p1 p2) (fun (s1 : Int) => (eP p0 :: (.func 181 [.ptr 0 0] :: (u4 (.unk :: (.i (p0.length : Int) :: (.i s1 :: (u8 (u2 []))))))))) (fun (s1 : Int) => [.box [gD p1, jJ p2]]) ho1 (fun _ => rfl) (li (.s (.s (.u4 (.u (.s (.s (.u8 (.u2 .n))))))))) ?_
 intro n1 s1 hs1 KL1 hKL1
 unfold gN at hs1
 refine .q fun K5 k5 => rg 0 ?_
 refine k5 _ _ ?_
 refine .q fun K6 k6 => ?_
 refine .aA rfl hs1 (fun hc1 hs1 => ?_) (fun hc1 hs1 => ?_)
 ·refine .skip ?_
  refine k6 _ _ ?_
  refine .q fun K7 k7 => ?_
  refine .block ?_
  refine .q fun K8 k8 => rg 0 ?_
  refine k8 _ _ ?_
  refine .q fun K9 k9 => rg 0 ?_
  obtain ⟨x1, hx1, hs1⟩ := ob hs1
  refine aN (l := p0) (f := encS) (cs := [.str (x1)]) hx1 (rfl) rfl ?_
  obtain ⟨x2, hx2, hs1⟩ := ob hs1
  refine bI [0] [] [.str x1, .ptr 0 0] [.str x1, .ptr 0 0] (Bo _ _ _ _ _ hx2) Vi rfl (.cons (by simp only [bC, ren, bn, aW, cB, bf, aL, aU, bA, aF, aT, aC, aK, aI]; try rfl) .nil) (rfl) (.cons (.same _) (.cons (.same _) .nil)) (rn := .bool x2) (rfl) (Hn := [.box [gD p1, jJ p2]]) ((aZ (by simp only [bC, ren, bn, aW, cB, bf, aL, aU, bA, aF, aT, aC, aK, aI]; try rfl) rfl)) ?_
  refine k9 _ _ ?_
  refine .aA rfl hs1 (fun hc2 hs1 => ?_) (fun hc2 hs1 => ?_)
  ·refine .q fun K10 k10 => rg 0 ?_
   refine k10 _ _ ?_
   refine .ret ?_
   have e9 := sj hs1
   subst e9
   dsimp only [LR.el] at h
   have e9 := sj h
   subst e9
   refine hQ _ _ _ (bP (u4 (.i s1 :: (u8 (u4 (u2 []))))) [.box [gD p1, jJ p2]] (wk [some 0] (.u4 (.c rfl (.u8 (.u4 (.u2 .nil))))) (.b rfl (.e aC (.e aK .nil)) .nil) rfl) (aX au [0] rfl (.cons (by simp only [bC, ren, bn, aW, cB, bf, aL, aU, bA, aF, aT, aC, aK, aI]; try rfl) .nil) ?_))
   conv => whnf
   first | rfl | (simp; done) | (simp; rfl) | (simp; constructor <;> rfl)
  refine .skip ?_
  refine k7 _ _ ?_
  refine .know 5 0 fun hv1 => ?_
  refine .know 0 0 fun hv2 => ?_
  refine rg 0 ?_
  refine ⟨(s1 + 1), by have := iW hv1; have := ng hv2; have h8 := of_decide_eq_true hc1; exact dG (by omega) (by omega), ?_⟩
  exact hKL1 _ _ _ hs1 (li (.s (.s (.u4 (.u (.s (.s (.u8 (.u2 .n)))))))))
 refine .exit ?_
 exact hR1 _ (sj hs1).symm _ _ (li (.u16 (.u2 (.u .n))))
theorem uz (n : Nat) (p0 : List Str) (p1 : List Carrier) (p2 : List Decl) (r : Bool) (h : jG n p0 p1 p2 = some r) : ak Tryz.prog 180 [eP p0, .func 181 [.ptr 0 0]] [.box [gD p1, jJ p2]] (.bool r) [.box [gD p1, jJ p2]] := by
 unfold jG at h
 refine ah true Tryz.func180 rfl (nt Tryz.ntmps180 rfl) fun Q hQ t ht => ?_
 conv at ht => whnf
 subst ht
 refine .q fun K1 k1 => rg 0 ?_
 refine k1 _ _ ?_
 refine .q fun K2 k2 => rg 0 ?_
 obtain ⟨x1, hx1, h⟩ := ob h
 refine bI [0] [] [eP p0, .func 181 [.ptr 0 0]] [eP p0, .func 181 [.ptr 0 0]] (vR _ _ _ _ _ hx1) NI rfl (.cons (by simp only [bC, ren, bn, aW, cB, bf, aL, aU, bA, aF, aT, aC, aK, aI]; try rfl) .nil) (by simp; try decide) (.cons (.same _) (.cons (.same _) .nil)) (rn := .i x1) (rfl) (Hn := [.box [gD p1, jJ p2]]) ((aZ (by simp only [bC, ren, bn, aW, cB, bf, aL, aU, bA, aF, aT, aC, aK, aI]; try rfl) rfl)) ?_
 refine k2 _ _ ?_
 refine .ret ?_
 have e9 := sj h
 subst e9
 refine hQ _ _ _ (bP (u4 (.bool (decide (0 ≤ x1)) :: (u4 []))) [.box [gD p1, jJ p2]] (wk [some 0] (.u4 (.c rfl (.u4 .nil))) (.b rfl (.e aC (.e aK .nil)) .nil) rfl) (aX au [0] rfl (.cons (by simp only [bC, ren, bn, aW, cB, bf, aL, aU, bA, aF, aT, aC, aK, aI]; try rfl) .nil) ?_))
 conv => whnf
 first | rfl | (simp; done) | (simp; rfl) | (simp; constructor <;> rfl)
theorem Da (n : Nat) (p0 : Env) (p1 : Ty) (r : Bool) (h : lM n p0 p1 = some r) : ak Tryz.prog 97 [pW p0, aQ p1] [] (.bool r) [] := by
 unfold lM at h
 refine ah true Tryz.func97 rfl (nt Tryz.ntmps97 rfl) fun Q hQ t ht => ?_
 conv at ht => whnf
 subst ht
 refine .q fun K1 k1 => rg 2 ?_
 refine k1 _ _ ?_
 refine .q fun K2 k2 => rg 0 ?_
 obtain ⟨x1, hx1, h⟩ := ob h
 refine cp (vK _ _ _ hx1) QI (.cons (.same _) .nil) ?_
 obtain ⟨x2, hx2, h⟩ := ob h
 refine bI [0] [] [eP x1, .func 181 [.ptr 0 0]] [eP x1, .func 181 [.ptr 0 0]] (uz _ _ _ _ _ hx2) Nt rfl (.cons (by simp only [bC, ren, bn, aW, cB, bf, aL, aU, bA, aF, aT, aC, aK, aI]; try rfl) .nil) (by simp; try decide) (.cons (.same _) (.cons (.same _) .nil)) (rn := .bool x2) (rfl) (Hn := [.box [gD p0.carriers, jJ p0.names]]) ((aZ (by simp only [bC, ren, bn, aW, cB, bf, aL, aU, bA, aF, aT, aC, aK, aI]; try rfl) rfl)) ?_
 refine k2 _ _ ?_
 refine .ret ?_
 have e9 := sj h
 subst e9
 refine hQ _ _ _ (aj au (fun g => rfl) ?_)
 conv => whnf
theorem Dz (n : Nat) (p0 : Env) (r : List Str) (h : nM n p0 = some r) : ak Tryz.prog 114 [pW p0] [] (.slice (List.map encS r) (.tip 0 1)) [.tip (List.length r * 1)] := by
 unfold nM at h
 refine ah false Tryz.func114 rfl (nt Tryz.ntmps114 rfl) fun Q hQ t ht => ?_
 conv at ht => whnf
 subst ht
 refine .q fun K1 k1 => rg 1 ?_
 refine k1 _ _ ?_
 refine .q fun K2 k2 => rg 0 ?_
 refine k2 _ _ ?_
 refine .q fun K3 k3 => .q fun K4 k4 => rg 0 ?_
 refine bO (l := p0.carriers) (f := cO) ?_
 refine k4 _ _ ?_
 refine .block ?_
 obtain ⟨o1, ho1, h⟩ := ob h
 have hR1 : ∀ s2 : List Str, o1 = .nx s2 → ∀ t9 h9, Le 0 t9 h9 (.unk :: (.ptr 0 0 :: (.unk :: (.slice (List.map encS s2) (.tip 1 1) :: (u32 (u2 [])))))) [.box [gD p0.carriers, jJ p0.names], .tip (List.length s2 * 1)] → K3 t9 h9 := by
  intro s2 ho
  subst ho
  dsimp only [LR.el] at h
  intro t9 h9 hw
  refine k3 _ _ (AW.le hw ?_)
  refine .q fun K5 k5 => .q fun K6 k6 => rg 0 ?_
  refine bO (l := p0.names) (f := bD) ?_
  refine k6 _ _ ?_
  refine .block ?_
  obtain ⟨o2, ho2, h⟩ := ob h
  have hR2 : ∀ s4 : List Str, o2 = .nx s4 → ∀ t9 h9, Le 0 t9 h9 (u2 (.unk :: (.slice (List.map encS s4) (.tip 0 1) :: (u32 (u2 []))))) [.tip (List.length s4 * 1)] → K5 t9 h9 := by
   intro s4 ho
   subst ho
   dsimp only [LR.el] at h
   intro t9 h9 hw
   refine k5 _ _ (AW.le hw ?_)
   refine .q fun K7 k7 => rg 0 ?_
   refine k7 _ _ ?_
   refine .ret ?_
   have e9 := sj h
   subst e9
   refine hQ _ _ _ (bP (u2 (.slice (List.map encS s4) (.tip 0 1) :: (u32 (u2 (.unk :: []))))) [.tip (List.length s4 * 1)] (wk [some 0] (.u2 (.cons (.su (aU _ _) rfl) (.u32 (.u2 (.u .nil))))) (.t rfl .nil) rfl) (aX au [0] rfl (.cons (rfl) .nil) ?_))
   conv => whnf
   first | rfl | (simp; done) | (simp; rfl) | (simp; constructor <;> rfl)
  refine .loopS (lH n p0) (fun (s3 : (List Str) × Int) => (u2 (.unk :: (.slice (List.map encS s3.1) (.tip 0 1) :: (u16 (u4 (.unk :: (jJ p0.names :: (.i (p0.names.length : Int) :: (.i s3.2 :: (u8 (u2 [])))))))))))) (fun (s3 : (List Str) × Int) => [.tip (List.length s3.1 * 1)]) ho2 (fun _ => rfl) (wk [some 1] (.u2 (.u (.cons (.su (aU _ _) rfl) (.u16 (.u4 (.u (.e aK (.c rfl (.c rfl (.u8 (.u2 .nil))))))))))) (.t rfl .nil) rfl) ?_
  intro n2 s3 hs2 KL2 hKL2
  unfold lH at hs2
  refine .q fun K8 k8 => rg 0 ?_
  refine k8 _ _ ?_
  refine .q fun K9 k9 => ?_
  refine .aA rfl hs2 (fun hc1 hs2 => ?_) (fun hc1 hs2 => ?_)
  ·refine .skip ?_
   refine k9 _ _ ?_
   refine .q fun K10 k10 => ?_
   refine .block ?_
   refine .q fun K11 k11 => rg 1 ?_
   obtain ⟨x1, hx1, hs2⟩ := ob hs2
   refine aN (l := p0.names) (f := bD) (cs := [.str ((x1).name), .i (((x1).ty).kind), .str (((x1).ty).name), aJ (((x1).ty).kids)]) hx1 (rfl) rfl ?_
   refine k11 _ _ ?_
   refine rg 2 ?_
   refine ⟨List.map encS ([x1.name]), rfl, ?_⟩
   obtain ⟨x2, hx2, hs2⟩ := ob hs2
   refine pR (l := s3.1) (ys := [x1.name]) (f := encS) hx2 FQ rfl rfl rfl ?_
   refine k10 _ _ ?_
   refine .know 27 0 fun hv1 => ?_
   refine .know 25 0 fun hv2 => ?_
   refine rg 0 ?_
   refine ⟨(s3.2 + 1), by have := iW hv1; have := ng hv2; have h8 := of_decide_eq_true hc1; exact dG (by omega) (by omega), ?_⟩
   exact hKL2 _ _ _ hs2 (wk [some 3] (.u2 (.u (.cons (.su (aU _ _) rfl) (.u16 (.u4 (.u (.e aK (.c rfl (.c rfl (.u8 (.u2 .nil))))))))))) (.t rfl .nil) rfl)
  refine .exit ?_
  exact hR2 _ (sj hs2).symm _ _ (li (.u2 (.u (.s (.u16 (.u16 (.u2 .n)))))))
 refine .loopS (lK n p0) (fun (s1 : (List Str) × Int) => (.unk :: (.ptr 0 0 :: (.unk :: (.slice (List.map encS s1.1) (.tip 1 1) :: (u4 (.unk :: (gD p0.carriers :: (.i (p0.carriers.length : Int) :: (.i s1.2 :: (u16 (u8 (u2 []))))))))))))) (fun (s1 : (List Str) × Int) => [.box [gD p0.carriers, jJ p0.names], .tip (List.length s1.1 * 1)]) ho1 (fun _ => rfl) (wk [some 0, none] (.u (.c rfl (.u (.cons (.nils _ _) (.u4 (.u (.e aC (.c rfl (.c rfl (.u16 (.u8 (.u2 .nil)))))))))))) (.b rfl (.e aC (.e aK .nil)) (.w rfl .nil)) rfl) ?_
 intro n1 s1 hs1 KL1 hKL1
 unfold lK at hs1
 refine .q fun K12 k12 => rg 0 ?_
 refine k12 _ _ ?_
 refine .q fun K13 k13 => ?_
 refine .aA rfl hs1 (fun hc2 hs1 => ?_) (fun hc2 hs1 => ?_)
 ·refine .skip ?_
  refine k13 _ _ ?_
  refine .q fun K14 k14 => ?_
  refine .block ?_
  refine .q fun K15 k15 => rg 1 ?_
  obtain ⟨x3, hx3, hs1⟩ := ob hs1
  refine aN (l := p0.carriers) (f := cO) (cs := [.str ((x3).name), eP ((x3).elems)]) hx3 (rfl) rfl ?_
  refine k15 _ _ ?_
  refine rg 3 ?_
  refine ⟨List.map encS ([x3.name]), rfl, ?_⟩
  obtain ⟨x4, hx4, hs1⟩ := ob hs1
  refine pR (l := s1.1) (ys := [x3.name]) (f := encS) hx4 FQ rfl rfl rfl ?_
  obtain ⟨x5, hx5, hs1⟩ := ob hs1
  refine pR (l := x4) (ys := x3.elems) (f := encS) hx5 FQ rfl rfl rfl ?_
  refine ⟨rfl, ?_⟩
  refine k14 _ _ ?_
  refine .know 11 0 fun hv3 => ?_
  refine .know 9 0 fun hv4 => ?_
  refine rg 0 ?_
  refine ⟨(s1.2 + 1), by have := iW hv3; have := ng hv4; have h8 := of_decide_eq_true hc2; exact dG (by omega) (by omega), ?_⟩
  exact hKL1 _ _ _ hs1 (wk [some 0, some 5] (.u (.c rfl (.u (.cons (.su (aU _ _) rfl) (.u4 (.u (.e aC (.c rfl (.c rfl (.u16 (.u8 (.u2 .nil)))))))))))) (.b rfl (.e aC (.e aK .nil)) (.t rfl .nil)) rfl)
 refine .exit ?_
 exact hR1 _ (sj hs1).symm _ _ (li (.u (.s (.u (.s (.u16 (.u16 (.u2 .n))))))))
end Abs
end Go.Proofs.YtiiaccpcoclklaaGreat
