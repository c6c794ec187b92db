/-
  Contracts of Go functions (printed). Conditions: none.
-/
import Derived.KernelRfl
import Derived.Test.YtiiaccpcoclklaaGreatCAbs38x04b7ad
import Derived.Test.YtiiaccpcoclklaaGreatCDfxa6bced
import Derived.Test.YtiiaccpcoclklaaGreatCDgx5c904c
import Derived.Test.YtiiaccpcoclklaaGreatCDhxbbaa12
import Derived.Test.YtiiaccpcoclklaaGreatCTDx83fdfc
import Derived.Test.YtiiaccpcoclklaaGreatCAwx7be38a
import Derived.Test.YtiiaccpcoclklaaGreatCNilxe592e0
import Derived.Test.YtiiaccpcoclklaaGreatCT1xaae324
import Derived.Test.YtiiaccpcoclklaaGreatCT3x204825
import Derived.Test.YtiiaccpcoclklaaGreatCT4x6aaf17
import Derived.Test.YtiiaccpcoclklaaGreatCT5x40dca3
import Derived.Test.YtiiaccpcoclklaaGreatCT8xcc98cb
import Derived.Test.YtiiaccpcoclklaaGreatCT11x837867
import Derived.Test.YtiiaccpcoclklaaGreatCT16xc0b479
import Derived.Test.YtiiaccpcoclklaaGreatCT17x62aad0
import Derived.Test.YtiiaccpcoclklaaGreatCT19x57a74c
import Derived.Test.YtiiaccpcoclklaaGreatCVDxed4cf6
import Derived.Test.YtiiaccpcoclklaaGreatCT20x057806
import Derived.Test.YtiiaccpcoclklaaGreatCUDxad63aa
set_option linter.unusedSimpArgs false
set_option linter.unusedVariables false
namespace Go.Proofs.YtiiaccpcoclklaaGreat
namespace Abs
open Go Go.Proofs
set_option maxRecDepth 100000
set_option maxHeartbeats 40000000
abbrev Dz (rec_R1_CopyType : Ty → Option Ty) : Prop := ∀ (p0 : Ty) (r : Ty), rec_R1_CopyType p0 = some r → aA Tryz.prog 72 [aU p0] [] (aU r) []
theorem Lu (n : Nat) (rec_R1_CopyType : Ty → Option Ty) (hrec_R1_CopyType : Dz rec_R1_CopyType) (p0 : Ty) (r : Ty) (h : rM n rec_R1_CopyType p0 = some r) : aA Tryz.prog 72 [aU p0] [] (aU r) [] := by
 unfold rM at h
 refine ah true Tryz.func72 rfl (nt Tryz.ntmps72 rfl) fun Q hQ t ht => ?_
 conv at ht => whnf
 subst ht
 refine .q fun K1 k1 => rg 2 ?_
 refine k1 _ _ ?_
 refine .q fun K2 k2 => rg 1 ?_
 refine k2 _ _ ?_
 refine .q fun K3 k3 => .q fun K4 k4 => rg 0 ?_
 refine k4 _ _ ?_
 refine .block ?_
 obtain ⟨o1, ho1, h⟩ := ob h
 have hR1 : ∀ s2 : List Ty, o1 = .nx s2 → ∀ t9 h9, Le 0 t9 h9 (u2 (.ptr 0 0 :: (.ptr 1 0 :: (u16 (u8 (.unk :: [])))))) [.box [.i 0, .str ([] : Str), .slice (List.map aF ([] : List Ty)) .nils], .box [.i p0.kind, .str p0.name, .slice (List.map aF s2) (.tip 2 3)], .tip (List.length s2 * 3)] → K3 t9 h9 := by
  intro s2 ho
  subst ho
  dsimp only [LR.el] at h
  intro t9 h9 hw
  refine k3 _ _ (AW.le hw ?_)
  refine .q fun K5 k5 => rg 0 ?_
  refine k5 _ _ ?_
  refine .ret ?_
  have e9 := sj h
  subst e9
  refine hQ _ _ _ (aj aC (fun g => by simp) ?_)
  conv => whnf
  try rfl
 refine .loopS (uO n rec_R1_CopyType p0) (fun (s1 : Int × (List Ty)) => (.unk :: (.ptr 0 0 :: (.ptr 1 0 :: (.ptr 2 0 :: (.i s1.1 :: (u16 (u8 [])))))))) (fun (s1 : Int × (List Ty)) => [.box [.i p0.kind, .str p0.name, aH p0.kids], .box [.i 0, .str ([] : Str), .slice (List.map aF ([] : List Ty)) .nils], .box [.i p0.kind, .str p0.name, .slice (List.map aF s1.2) (.tip 3 3)], .tip (List.length s1.2 * 3)]) ho1 (fun _ => rfl) (wk [some 0, some 1, some 2, none] (.u (.c rfl (.c rfl (.c rfl (.c rfl (.u16 (.u8 .nil))))))) (.b rfl (.c rfl (.c rfl (.e aD .nil))) (.b rfl (.c rfl (.c rfl (.c rfl .nil))) (.b rfl (.c rfl (.c rfl (.cons (.nils _ _) .nil))) (.w rfl .nil)))) rfl) ?_
 intro n1 s1 hs1 KL1 hKL1
 unfold uO at hs1
 refine .q fun K6 k6 => .q fun K7 k7 => rg 0 ?_
 refine bB (l := p0.kids) (f := aF) ?_
 refine k7 _ _ ?_
 refine .aB rfl hs1 (fun hc1 hs1 => ?_) (fun hc1 hs1 => ?_)
 ·refine .skip ?_
  refine k6 _ _ ?_
  refine .q fun K8 k8 => ?_
  refine .block ?_
  refine rg 2 ?_
  obtain ⟨x1, hx1, hs1⟩ := ob hs1
  refine aI (l := p0.kids) (f := aF) (cs := [.i ((x1).kind), .str ((x1).name), aH ((x1).kids)]) hx1 (aL x1) rfl ?_
  obtain ⟨x2, hx2, hs1⟩ := ob hs1
  refine cp (hrec_R1_CopyType _ _ hx2) Om (.cons (.same _) .nil) ?_
  refine ⟨List.map aF ([x2]), by simp only [List.map_cons, List.map_nil, aL]; rfl, ?_⟩
  obtain ⟨x3, hx3, hs1⟩ := ob hs1
  refine gN (l := s1.2) (ys := [x2]) (f := aF) hx3 aaJ rfl rfl rfl ?_
  refine ⟨rfl, ?_⟩
  refine k8 _ _ ?_
  refine .know 4 0 fun hv1 => ?_
  refine .know 12 0 fun hv2 => ?_
  refine rg 0 ?_
  refine ⟨(s1.1 + 1), by have := dK hv1; have := fU hv2; have h8 := of_decide_eq_true hc1; exact bI (by omega) (by omega), ?_⟩
  exact hKL1 _ _ _ hs1 (wk [some 0, some 1, some 2, some 5] (.u (.c rfl (.c rfl (.c rfl (.c rfl (.u16 (.u8 .nil))))))) (.b rfl (.c rfl (.c rfl (.e aD .nil))) (.b rfl (.c rfl (.c rfl (.c rfl .nil))) (.b rfl (.c rfl (.c rfl (.cons (.gB (aD _ _) rfl) .nil))) (.t rfl .nil)))) rfl)
 refine .exit ?_
 exact hR1 _ (sj hs1).symm _ _ (wk [some 1, some 2, some 3] (.u2 (.c rfl (.c rfl (.u16 (.u8 (.u .nil)))))) (.b rfl (.c rfl (.c rfl (.c rfl .nil))) (.b rfl (.c rfl (.c rfl (.cons (.gB (aD _ _) rfl) .nil))) (.t rfl .nil))) rfl)
theorem Vm (n : Nat) : Dz (kN n) := by
 induction n with
 | zero => exact (fun p0 r h => by unfold kN at h; cases h)
 | succ n ih =>
  exact (fun p0 r h => Lu n _ ih p0 r (by unfold kN at h; exact h))
theorem yg (n : Nat) : Dz (kN n) := (Vm n)
theorem typing_Expression_ok (n : Nat) (p0 : Env) (p1 : Tm) (r : Ty × Int) (h : typing_Expression n p0 p1 = some r) : aA Tryz.prog 31 [jX p0, bC p1] [] (.aZ [aU r.1, .i r.2]) [] := by
 unfold typing_Expression at h
 refine ah true Tryz.func31 rfl (nt Tryz.ntmps31 rfl) fun Q hQ t ht => ?_
 conv at ht => whnf
 subst ht
 refine .q fun K1 k1 => rg 3 ?_
 refine k1 _ _ ?_
 refine .q fun K2 k2 => rg 1 ?_
 obtain ⟨x1, hx1, h⟩ := ob h
 refine cp (kG _ _ _ _ hx1) Db (.cons (.same _) (.cons (.same _) .nil)) ?_
 refine k2 _ _ ?_
 refine .q fun K3 k3 => .q fun K4 k4 => ?_
 obtain ⟨s1, hj1, h⟩ := ob h
 have hR1 : ∀ t9 h9, Le 0 t9 h9 (u4 (.ptr 0 0 :: (.unk :: (.ptr 1 0 :: (.unk :: (.i x1.2.2 :: (u8 (u4 (.unk :: (.bool s1 :: (u2 (.unk :: [])))))))))))) [.box [.i 0, .str ([] : Str), .slice (List.map aF ([] : List Ty)) .nils], .box [.i x1.1.kind, .str x1.1.name, aH x1.1.kids]] → K4 t9 h9 := by
  intro t9 h9 hw
  refine k4 _ _ (AW.le hw ?_)
  clear hw
  refine .aB rfl h (fun hc1 h => ?_) (fun hc1 h => ?_)
  ·refine .q fun K5 k5 => rg 0 ?_
   refine k5 _ _ ?_
   refine .ret ?_
   have e9 := sj h
   subst e9
   refine hQ _ _ _ (aj aC (fun g => by simp) ?_)
   conv => whnf
   try rfl
  refine .skip ?_
  refine k3 _ _ ?_
  refine .q fun K6 k6 => rg 0 ?_
  refine k6 _ _ ?_
  refine .ret ?_
  have e9 := sj h
  subst e9
  refine hQ _ _ _ (aj aC (fun g => by simp) ?_)
  conv => whnf
  try rfl
 refine rg 0 ?_
 refine aG hj1 (fun hc2 hj1 => ?_) (fun hc2 hj1 => ?_)
 ·cases hj1
  exact hR1 _ _ (wk [some 2, some 3] (.u4 (.c rfl (.u (.c rfl (.u (.c rfl (.u8 (.u4 (.u (.c rfl (.u2 (.u .nil)))))))))))) (.b rfl (.c rfl (.c rfl (.c rfl .nil))) (.b rfl (.c rfl (.c rfl (.e aD .nil))) .nil)) rfl)
 cases hj1
 exact hR1 _ _ (wk [some 2, some 3] (.u4 (.c rfl (.u (.c rfl (.u (.c rfl (.u8 (.u4 (.u (.c rfl (.u2 (.u .nil)))))))))))) (.b rfl (.c rfl (.c rfl (.c rfl .nil))) (.b rfl (.c rfl (.c rfl (.e aD .nil))) .nil)) rfl)
end Abs
end Go.Proofs.YtiiaccpcoclklaaGreat
