/-
  Contracts of Go functions (printed). Conditions: none.
-/
import Derived.KernelRfl
import Derived.Test.YtiiaccpcoclklaaGreatCAbs38x04b7ad
import Derived.Test.YtiiaccpcoclklaaGreatCDgx5c904c
import Derived.Test.YtiiaccpcoclklaaGreatCDhxbbaa12
import Derived.Test.YtiiaccpcoclklaaGreatCAwx7be38a
import Derived.Test.YtiiaccpcoclklaaGreatCT1xaae324
import Derived.Test.YtiiaccpcoclklaaGreatCT4x6aaf17
import Derived.Test.YtiiaccpcoclklaaGreatCT16xc0b479
import Derived.Test.YtiiaccpcoclklaaGreatCT17x62aad0
import Derived.Test.YtiiaccpcoclklaaGreatCT19x57a74c
import Derived.Test.YtiiaccpcoclklaaGreatCVDxed4cf6
import Derived.Test.YtiiaccpcoclklaaGreatCT20x057806
import Derived.Test.YtiiaccpcoclklaaGreatCUDxad63aa
import Derived.Test.YtiiaccpcoclklaaGreatCU1x3b79a6
import Derived.Test.YtiiaccpcoclklaaGreatCU4x231145
set_option linter.unusedSimpArgs false
set_option linter.unusedVariables false
namespace Go.Proofs.YtiiaccpcoclklaaGreat
namespace Abs
open Go Go.Proofs
set_option maxRecDepth 100000
set_option maxHeartbeats 40000000
abbrev Gt (rec_R1_Copy : Tm → Option Tm) : Prop := ∀ (p0 : Tm) (r : Tm), rec_R1_Copy p0 = some r → aA Tryz.prog 78 [bC p0] [] (bC r) []
abbrev G5 (rec_R1_Copies : (List Tm) → Option (List Tm)) : Prop := ∀ (p0 : List Tm) (r : List Tm), rec_R1_Copies p0 = some r → aA Tryz.prog 153 [bn p0] [] (bn r) []
theorem Uh (n : Nat) (rec_R1_Copy : Tm → Option Tm) (rec_R1_Copies : (List Tm) → Option (List Tm)) (hrec_R1_Copy : Gt rec_R1_Copy) (hrec_R1_Copies : G5 rec_R1_Copies) (p0 : Tm) (r : Tm) (h : xB n rec_R1_Copy rec_R1_Copies p0 = some r) : aA Tryz.prog 78 [bC p0] [] (bC r) [] := by
 unfold xB at h
 refine ah true Tryz.func78 rfl (nt Tryz.ntmps78 rfl) fun Q hQ t ht => ?_
 conv at ht => whnf
 subst ht
 refine .q fun K1 k1 => rg 2 ?_
 refine k1 _ _ ?_
 refine .q fun K2 k2 => rg 1 ?_
 obtain ⟨x1, hx1, h⟩ := ob h
 refine cp (yg _ _ _ hx1) Om (.cons (.same _) .nil) ?_
 refine ⟨rfl, ?_⟩
 refine k2 _ _ ?_
 refine .q fun K3 k3 => rg 0 ?_
 obtain ⟨x2, hx2, h⟩ := ob h
 refine cp (hrec_R1_Copies _ _ hx2) aep (.cons (.same _) .nil) ?_
 refine k3 _ _ ?_
 refine .q fun K4 k4 => rg 0 ?_
 refine k4 _ _ ?_
 refine .ret ?_
 have e9 := sj h
 subst e9
 refine hQ _ _ _ (aj aC (fun g => by simp) ?_)
 conv => whnf
 try rfl
theorem Qz (n : Nat) (rec_R1_Copy : Tm → Option Tm) (rec_R1_Copies : (List Tm) → Option (List Tm)) (hrec_R1_Copy : Gt rec_R1_Copy) (hrec_R1_Copies : G5 rec_R1_Copies) (p0 : List Tm) (r : List Tm) (h : uP n rec_R1_Copy rec_R1_Copies p0 = some r) : aA Tryz.prog 153 [bn p0] [] (bn r) [] := by
 unfold uP at h
 refine ah true Tryz.func153 rfl (nt Tryz.ntmps153 rfl) fun Q hQ t ht => ?_
 conv at ht => whnf
 subst ht
 refine .q fun K1 k1 => rg 0 ?_
 refine k1 _ _ ?_
 refine .q fun K2 k2 => rg 0 ?_
 refine k2 _ _ ?_
 refine .q fun K3 k3 => .q fun K4 k4 => rg 0 ?_
 refine k4 _ _ ?_
 refine .block ?_
 obtain ⟨o1, ho1, h⟩ := ob h
 have hR1 : ∀ s2 : List Tm, o1 = .nx s2 → ∀ t9 h9, Le 0 t9 h9 (u2 (.unk :: (.slice (List.map aO s2) (.tip 0 7) :: (u16 [])))) [.tip (List.length s2 * 7)] → K3 t9 h9 := by
  intro s2 ho
  subst ho
  dsimp only [LR.el] at h
  intro t9 h9 hw
  refine k3 _ _ (AW.le hw ?_)
  refine .q fun K5 k5 => rg 0 ?_
  refine k5 _ _ ?_
  refine .ret ?_
  have e9 := sj h
  subst e9
  refine hQ _ _ _ (aj aC (fun g => by simp) ?_)
  conv => whnf
  try rfl
 refine .loopS (xq n rec_R1_Copy rec_R1_Copies p0) (fun (s1 : (List Tm) × Int) => (bn p0 :: (u2 (.slice (List.map aO s1.1) (.tip 0 7) :: (.i s1.2 :: (u8 (u4 (u2 (.unk :: []))))))))) (fun (s1 : (List Tm) × Int) => [.tip (List.length s1.1 * 7)]) ho1 (fun _ => rfl) (wk [none] (.e aM (.u2 (.cons (.nils _ _) (.c rfl (.u8 (.u4 (.u2 (.u .nil)))))))) (.w rfl .nil) rfl) ?_
 intro n1 s1 hs1 KL1 hKL1
 unfold xq at hs1
 refine .q fun K6 k6 => .q fun K7 k7 => rg 0 ?_
 refine bB (l := p0) (f := aO) ?_
 refine k7 _ _ ?_
 refine .aB rfl hs1 (fun hc1 hs1 => ?_) (fun hc1 hs1 => ?_)
 ·refine .skip ?_
  refine k6 _ _ ?_
  refine .q fun K8 k8 => ?_
  refine .block ?_
  refine rg 2 ?_
  obtain ⟨x1, hx1, hs1⟩ := ob hs1
  refine aI (l := p0) (f := aO) (cs := [.i ((x1).op), .str ((x1).name), .i ((x1).n), .i (((x1).ty).kind), .str (((x1).ty).name), aH (((x1).ty).kids), bn ((x1).kids)]) hx1 (aR x1) rfl ?_
  obtain ⟨x2, hx2, hs1⟩ := ob hs1
  refine cp (hrec_R1_Copy _ _ hx2) Dm (.cons (.same _) .nil) ?_
  refine ⟨List.map aO ([x2]), by simp only [List.map_cons, List.map_nil, aR]; rfl, ?_⟩
  obtain ⟨x3, hx3, hs1⟩ := ob hs1
  refine gN (l := s1.1) (ys := [x2]) (f := aO) hx3 aaC rfl rfl rfl ?_
  refine k8 _ _ ?_
  refine .know 4 0 fun hv1 => ?_
  refine .know 0 0 fun hv2 => ?_
  refine rg 0 ?_
  refine ⟨(s1.2 + 1), by have := dK hv1; have := fU hv2; have h8 := of_decide_eq_true hc1; exact bI (by omega) (by omega), ?_⟩
  exact hKL1 _ _ _ hs1 (wk [some 2] (.e aM (.u2 (.cons (.gB (aM _ _) rfl) (.c rfl (.u8 (.u4 (.u2 (.u .nil)))))))) (.t rfl .nil) rfl)
 refine .exit ?_
 exact hR1 _ (sj hs1).symm _ _ (li (.u2 (.u (.s (.u16 .n)))))
theorem acO (n : Nat) : Gt (mh n) ∧ G5 (vC n) := by
 induction n with
 | zero => exact ⟨(fun p0 r h => by unfold mh at h; cases h), (fun p0 r h => by unfold vC at h; cases h)⟩
 | succ n ih =>
  exact ⟨(fun p0 r h => Uh n _ _ ih.1 ih.2 p0 r (by unfold mh at h; exact h)), (fun p0 r h => Qz n _ _ ih.1 ih.2 p0 r (by unfold vC at h; exact h))⟩
theorem Bz (n : Nat) : Gt (mh n) := (acO n).1
theorem U2 (n : Nat) (p0 : List Str) (p1 : Str) (r : List Str) (h : Ac n p0 p1 = some r) : aA Tryz.prog 152 [dx p0, .str p1] [] (dx r) [] := by
 unfold Ac at h
 refine ah true Tryz.func152 rfl (nt Tryz.ntmps152 rfl) fun Q hQ t ht => ?_
 conv at ht => whnf
 subst ht
 refine .q fun K1 k1 => rg 0 ?_
 refine k1 _ _ ?_
 refine .q fun K2 k2 => rg 4 ?_
 refine ⟨List.map encS ([] : List Str), rfl, ?_⟩
 obtain ⟨x1, hx1, h⟩ := ob h
 refine gN (l := ([] : List Str)) (ys := p0) (f := encS) hx1 zW rfl rfl rfl ?_
 refine ⟨List.map encS ([p1]), rfl, ?_⟩
 obtain ⟨x2, hx2, h⟩ := ob h
 refine gN (l := x1) (ys := [p1]) (f := encS) hx2 zW rfl rfl rfl ?_
 refine k2 _ _ ?_
 refine .ret ?_
 have e9 := sj h
 subst e9
 refine hQ _ _ _ (aj aC (fun g => by simp) ?_)
 conv => whnf
 try rfl
abbrev R1_free_S (rec_R1_free : Tm → (List Str) → Option (List Str)) : Prop := ∀ (p0 : Tm) (p1 : List Str) (r : List Str), rec_R1_free p0 p1 = some r → aA Tryz.prog 109 [bC p0, dx p1] [] (.slice (List.map encS r) (.tip 0 1)) [.tip (List.length r * 1)]
theorem U1 (n : Nat) (rec_R1_free : Tm → (List Str) → Option (List Str)) (hrec_R1_free : R1_free_S rec_R1_free) (p0 : Tm) (p1 : List Str) (r : List Str) (h : xu n rec_R1_free p0 p1 = some r) : aA Tryz.prog 109 [bC p0, dx p1] [] (.slice (List.map encS r) (.tip 0 1)) [.tip (List.length r * 1)] := by
 unfold xu at h
 refine ah false Tryz.func109 rfl (nt Tryz.ntmps109 rfl) fun Q hQ t ht => ?_
 conv at ht => whnf
 subst ht
 refine .q fun K1 k1 => rg 1 ?_
 refine k1 _ _ ?_
 refine .q fun K2 k2 => .q fun K3 k3 => rg 0 ?_
 refine k3 _ _ ?_
 refine .aB rfl h (fun hc1 h => ?_) (fun hc1 h => ?_)
 ·refine .q fun K4 k4 => .q fun K5 k5 => rg 0 ?_
  obtain ⟨x1, hx1, h⟩ := ob h
  refine ak (vP _ _ _ _ hx1) Bo (.cons (.same _) (.cons (.same _) .nil)) (fun g => by simp) (fun g => rfl) ?_
  refine k5 _ _ ?_
  refine .aB rfl h (fun hc2 h => ?_) (fun hc2 h => ?_)
  ·refine .q fun K6 k6 => rg 0 ?_
   refine k6 _ _ ?_
   refine .ret ?_
   have e9 := sj h
   subst e9
   refine hQ _ _ _ (dz (u4 (.slice (List.map encS ([] : List Str)) (.tip 0 1) :: (u32 (u8 (u2 []))))) [.tip (List.length ([]) * 1)] (wk [none] (.u4 (.cons (.nils _ _) (.u32 (.u8 (.u2 .nil))))) (.w rfl .nil) rfl) (bG aC [0] rfl (.cons (rfl) .nil) ?_))
   conv => whnf
   first | rfl | (simp; done) | (simp; rfl) | (simp; constructor <;> rfl)
  refine .skip ?_
  refine k4 _ _ ?_
  refine .q fun K7 k7 => rg 1 ?_
  refine ⟨List.map encS ([p0.name]), rfl, ?_⟩
  refine k7 _ _ ?_
  refine .ret ?_
  have e9 := sj h
  subst e9
  refine hQ _ _ _ (dz (u4 (.slice (List.map encS ([p0.name])) (.tip 0 1) :: (u32 (u8 (u2 []))))) [.tip (List.length ([p0.name]) * 1)] (wk [some 1] (.u4 (.cons (.gB (bf _ _) rfl) (.u32 (.u8 (.u2 .nil))))) (.t rfl .nil) rfl) (bG aC [0] rfl (.cons (rfl) .nil) ?_))
  conv => whnf
  first | rfl | (simp; done) | (simp; rfl) | (simp; constructor <;> rfl)
 refine .skip ?_
 refine k2 _ _ ?_
 refine .q fun K8 k8 => rg 0 ?_
 refine k8 _ _ ?_
 refine .q fun K9 k9 => .q fun K10 k10 => rg 0 ?_
 refine k10 _ _ ?_
 refine .block ?_
 obtain ⟨o1, ho1, h⟩ := ob h
 have hR1 : ∀ s2 : List Str, o1 = .nx s2 → ∀ t9 h9, Le 0 t9 h9 (u4 (.unk :: (.slice (List.map encS s2) (.tip 0 1) :: (u32 (u8 (.unk :: [])))))) [.tip (List.length s2 * 1)] → K9 t9 h9 := by
  intro s2 ho
  subst ho
  dsimp only [LR.el] at h
  intro t9 h9 hw
  refine k9 _ _ (AW.le hw ?_)
  refine .q fun K11 k11 => rg 0 ?_
  refine k11 _ _ ?_
  refine .ret ?_
  have e9 := sj h
  subst e9
  refine hQ _ _ _ (dz (u4 (.slice (List.map encS s2) (.tip 0 1) :: (u32 (u8 (u2 []))))) [.tip (List.length s2 * 1)] (wk [some 0] (.u4 (.cons (.gB (bf _ _) rfl) (.u32 (.u8 (.u2 .nil))))) (.t rfl .nil) rfl) (bG aC [0] rfl (.cons (rfl) .nil) ?_))
  conv => whnf
  first | rfl | (simp; done) | (simp; rfl) | (simp; constructor <;> rfl)
 refine .loopS (Bu n rec_R1_free p0 p1) (fun (s1 : (List Str) × Int) => (.unk :: (dx p1 :: (.ptr 0 0 :: (u2 (.slice (List.map encS s1.1) (.tip 1 1) :: (.i s1.2 :: (u32 (u8 []))))))))) (fun (s1 : (List Str) × Int) => [.box [.i p0.op, .str p0.name, .i p0.n, .i p0.ty.kind, .str p0.ty.name, aH p0.ty.kids, bn p0.kids], .tip (List.length s1.1 * 1)]) ho1 (fun _ => rfl) (wk [some 0, none] (.u (.e bf (.c rfl (.u2 (.cons (.nils _ _) (.c rfl (.u32 (.u8 .nil)))))))) (.b rfl (.c rfl (.c rfl (.c rfl (.c rfl (.c rfl (.e aD (.e aM .nil))))))) (.w rfl .nil)) rfl) ?_
 intro n1 s1 hs1 KL1 hKL1
 unfold Bu at hs1
 refine .q fun K12 k12 => .q fun K13 k13 => rg 0 ?_
 refine bB (l := p0.kids) (f := aO) ?_
 refine k13 _ _ ?_
 refine .aB rfl hs1 (fun hc3 hs1 => ?_) (fun hc3 hs1 => ?_)
 ·refine .skip ?_
  refine k12 _ _ ?_
  refine .q fun K14 k14 => ?_
  refine .block ?_
  refine .q fun K15 k15 => rg 0 ?_
  refine k15 _ _ ?_
  refine .q fun K16 k16 => ?_
  obtain ⟨s3, hj1, hs1⟩ := ob hs1
  have hR2 : ∀ t9 h9, Le 0 t9 h9 (.unk :: (dx p1 :: (.ptr 0 0 :: (u2 (.slice (List.map encS s1.1) (.tip 1 1) :: (.i s1.2 :: (dx s3 :: (u32 (u4 (u2 (.unk :: []))))))))))) [.box [.i p0.op, .str p0.name, .i p0.n, .i p0.ty.kind, .str p0.ty.name, aH p0.ty.kids, bn p0.kids], .tip (List.length s1.1 * 1)] → K16 t9 h9 := by
   intro t9 h9 hw
   refine k16 _ _ (AW.le hw ?_)
   clear hw
   refine rg 2 ?_
   obtain ⟨x2, hx2, hs1⟩ := ob hs1
   refine aI (l := p0.kids) (f := aO) (cs := [.i ((x2).op), .str ((x2).name), .i ((x2).n), .i (((x2).ty).kind), .str (((x2).ty).name), aH (((x2).ty).kids), bn ((x2).kids)]) hx2 (aR x2) rfl ?_
   obtain ⟨x3, hx3, hs1⟩ := ob hs1
   refine bU [] [2] [bC x2, dx s3] [bC x2, dx s3] (hrec_R1_free _ _ _ hx3) I6 rfl .nil (by simp; try decide) (.cons (.same _) (.cons (.same _) .nil)) (rn := .slice (List.map encS x3) (.tip 2 1)) (by simp; try decide) (Hn := [.tip (List.length x3 * 1)]) ((bK (rfl) rfl)) ?_
   obtain ⟨x4, hx4, hs1⟩ := ob hs1
   refine gN (l := s1.1) (ys := x3) (f := encS) hx4 zW rfl rfl rfl ?_
   refine k14 _ _ ?_
   refine .know 6 0 fun hv1 => ?_
   refine .know 39 0 fun hv2 => ?_
   refine rg 0 ?_
   refine ⟨(s1.2 + 1), by have := dK hv1; have := fU hv2; have h8 := of_decide_eq_true hc3; exact bI (by omega) (by omega), ?_⟩
   exact hKL1 _ _ _ hs1 (wk [some 0, some 3] (.u (.e bf (.c rfl (.u2 (.cons (.gB (bf _ _) rfl) (.c rfl (.u32 (.u8 .nil)))))))) (.b rfl (.c rfl (.c rfl (.c rfl (.c rfl (.c rfl (.e aD (.e aM .nil))))))) (.t rfl .nil)) rfl)
  refine .q fun K17 k17 => ?_
  obtain ⟨s4, hj2, hj1⟩ := ob hj1
  have hR3 : ∀ t9 h9, Le 0 t9 h9 (.unk :: (dx p1 :: (.ptr 0 0 :: (u2 (.slice (List.map encS s1.1) (.tip 1 1) :: (.i s1.2 :: (dx p1 :: (u16 (u8 (.bool s4 :: (u8 (u4 (u2 []))))))))))))) [.box [.i p0.op, .str p0.name, .i p0.n, .i p0.ty.kind, .str p0.ty.name, aH p0.ty.kids, bn p0.kids], .tip (List.length s1.1 * 1)] → K17 t9 h9 := by
   intro t9 h9 hw
   refine k17 _ _ (AW.le hw ?_)
   clear hw
   refine .aB rfl hj1 (fun hc4 hj1 => ?_) (fun hc4 hj1 => ?_)
   ·refine rg 0 ?_
    obtain ⟨x5, hx5, hj1⟩ := ob hj1
    refine cp (U2 _ _ _ _ hx5) adw (.cons (.same _) (.cons (.same _) .nil)) ?_
    cases hj1
    exact hR2 _ _ (li (.u (.s (.s (.u2 (.s (.s (.s (.u16 (.u16 (.u4 (.u2 (.u .n)))))))))))))
   refine .skip ?_
   cases hj1
   exact hR2 _ _ (li (.u (.s (.s (.u2 (.s (.s (.s (.u16 (.u16 (.u4 (.u2 (.u .n)))))))))))))
  refine rg 0 ?_
  obtain ⟨x6, hx6, hj2⟩ := ob hj2
  refine ak (uS _ _ _ hx6) Jq (.cons (.same _) .nil) (fun g => rfl) (fun g => rfl) ?_
  refine aG hj2 (fun hc5 hj2 => ?_) (fun hc5 hj2 => ?_)
  ·cases hj2
   exact hR3 _ _ (li (.u (.s (.s (.u2 (.s (.s (.s (.u16 (.u8 (.s (.u8 (.u4 (.u2 .n))))))))))))))
  cases hj2
  exact hR3 _ _ (li (.u (.s (.s (.u2 (.s (.s (.s (.u16 (.u8 (.s (.u8 (.u4 (.u2 .n))))))))))))))
 refine .exit ?_
 exact hR1 _ (sj hs1).symm _ _ (wk [some 1] (.u4 (.u (.cons (.gB (bf _ _) rfl) (.u32 (.u8 (.u .nil)))))) (.t rfl .nil) rfl)
theorem adf (n : Nat) : R1_free_S (oG n) := by
 induction n with
 | zero => exact (fun p0 p1 r h => by unfold oG at h; cases h)
 | succ n ih =>
  exact (fun p0 p1 r h => U1 n _ ih p0 p1 r (by unfold oG at h; exact h))
theorem Ec (n : Nat) : R1_free_S (oG n) := (adf n)
end Abs
end Go.Proofs.YtiiaccpcoclklaaGreat
