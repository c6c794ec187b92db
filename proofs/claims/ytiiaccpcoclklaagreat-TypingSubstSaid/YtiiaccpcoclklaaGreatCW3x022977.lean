/-
  Contracts of Go functions (printed). Conditions: none.
-/
import Derived.KernelRfl
import Derived.Test.YtiiaccpcoclklaaGreatCAbs38x04b7ad
import Derived.Test.YtiiaccpcoclklaaGreatCDix50535f
import Derived.Test.YtiiaccpcoclklaaGreatCWDxaae3e4
import Derived.Test.YtiiaccpcoclklaaGreatCT16xc0b479
import Derived.Test.YtiiaccpcoclklaaGreatCT19x57a74c
import Derived.Test.YtiiaccpcoclklaaGreatCU1x3b79a6
import Derived.Test.YtiiaccpcoclklaaGreatCU5x48444d
import Derived.Test.YtiiaccpcoclklaaGreatCW1x981b0b
import Derived.Test.YtiiaccpcoclklaaGreatCW2xaaabbd
set_option linter.unusedSimpArgs false
set_option linter.unusedVariables false
namespace Go.Proofs.YtiiaccpcoclklaaGreat
namespace Abs
open Go Go.Proofs
set_option maxRecDepth 100000
set_option maxHeartbeats 40000000
abbrev R1_subst_S (rec_R1_subst : Tm → (List S_api_Binding) → Option Tm) : Prop := ∀ (p0 : Tm) (p1 : List S_api_Binding) (r : Tm), rec_R1_subst p0 p1 = some r → aA Tryz.prog 87 [bC p0, .slice (List.map aP p1) .shared] [] (bC r) []
theorem R4 (n : Nat) (rec_R1_subst : Tm → (List S_api_Binding) → Option Tm) (hrec_R1_subst : R1_subst_S rec_R1_subst) (p0 : Tm) (p1 : List S_api_Binding) (r : Tm) (h : nS n rec_R1_subst p0 p1 = some r) : aA Tryz.prog 87 [bC p0, .slice (List.map aP p1) .shared] [] (bC r) [] := by
 unfold nS at h
 refine ah true Tryz.func87 rfl (nt Tryz.ntmps87 rfl) fun Q hQ t ht => ?_
 conv at ht => whnf
 subst ht
 refine .q fun K1 k1 => rg 2 ?_
 refine k1 _ _ ?_
 refine .q fun K2 k2 => .q fun K3 k3 => rg 0 ?_
 refine k3 _ _ ?_
 refine .aB rfl h (fun hc1 h => ?_) (fun hc1 h => ?_)
 ·refine .q fun K4 k4 => .q fun K5 k5 => rg 1 ?_
  obtain ⟨x1, hx1, h⟩ := ob h
  refine cp (Ba _ _ _ _ hx1) WT (.cons (.same _) (.cons (.same _) .nil)) ?_
  refine k5 _ _ ?_
  refine .q fun K6 k6 => rg 0 ?_
  refine k6 _ _ ?_
  refine .aB rfl h (fun hc2 h => ?_) (fun hc2 h => ?_)
  ·refine .q fun K7 k7 => rg 0 ?_
   obtain ⟨x2, hx2, h⟩ := ob h
   refine cp (Bz _ _ _ hx2) Dm (.cons (.same _) .nil) ?_
   refine k7 _ _ ?_
   refine .ret ?_
   have e9 := sj h
   subst e9
   refine hQ _ _ _ (aj aC (fun g => by simp) ?_)
   conv => whnf
   try rfl
  refine .skip ?_
  refine k4 _ _ ?_
  refine .q fun K8 k8 => rg 0 ?_
  obtain ⟨x3, hx3, h⟩ := ob h
  refine cp (Bz _ _ _ hx3) Dm (.cons (.same _) .nil) ?_
  refine k8 _ _ ?_
  refine .ret ?_
  have e9 := sj h
  subst e9
  refine hQ _ _ _ (aj aC (fun g => by simp) ?_)
  conv => whnf
  try rfl
 refine .skip ?_
 refine k2 _ _ ?_
 refine .q fun K9 k9 => rg 1 ?_
 obtain ⟨x4, hx4, h⟩ := ob h
 refine cp (yg _ _ _ hx4) Om (.cons (.same _) .nil) ?_
 refine ⟨rfl, ?_⟩
 refine k9 _ _ ?_
 refine .q fun K10 k10 => .q fun K11 k11 => rg 0 ?_
 obtain ⟨x5, hx5, h⟩ := ob h
 refine ak (uS _ _ _ hx5) Jq (.cons (.same _) .nil) (fun g => rfl) (fun g => rfl) ?_
 refine k11 _ _ ?_
 refine .aB rfl h (fun hc3 h => ?_) (fun hc3 h => ?_)
 ·refine .q fun K12 k12 => .q fun K13 k13 => rg 0 ?_
  refine k13 _ _ ?_
  refine .block ?_
  obtain ⟨o1, ho1, h⟩ := ob h
  have hR1 : ∀ s2 : List Tm, o1 = .nx s2 → ∀ t9 h9, Le 0 t9 h9 (u4 (.ptr 0 0 :: (u2 (.ptr 1 0 :: (u64 (u32 (u16 []))))))) [.box [.i 0, .str ([] : Str), .i 0, .i 0, .str ([] : Str), .slice (List.map aF ([] : List Ty)) .nils, .slice (List.map aO ([] : List Tm)) .nils], .box [.i p0.op, .str p0.name, .i p0.n, .i x4.kind, .str x4.name, aH x4.kids, .slice (List.map aO s2) (.tip 2 7)], .tip (List.length s2 * 7)] → K12 t9 h9 := by
   intro s2 ho
   subst ho
   dsimp only [LR.el] at h
   intro t9 h9 hw
   refine k12 _ _ (AW.le hw ?_)
   refine .q fun K14 k14 => rg 0 ?_
   refine k14 _ _ ?_
   refine .ret ?_
   have e9 := sj h
   subst e9
   refine hQ _ _ _ (aj aC (fun g => by simp) ?_)
   conv => whnf
   try rfl
  refine .loopS (yU n rec_R1_subst p0 p1) (fun (s1 : Int × (List Tm)) => (.unk :: (.slice (List.map aP p1) .shared :: (.ptr 0 0 :: (.unk :: (.ptr 1 0 :: (u2 (.ptr 2 0 :: (.i s1.1 :: (u64 (u32 (u8 (u4 (u2 (.unk :: []))))))))))))))) (fun (s1 : Int × (List Tm)) => [.box [.i p0.op, .str p0.name, .i p0.n, .i p0.ty.kind, .str p0.ty.name, aH p0.ty.kids, bn p0.kids], .box [.i 0, .str ([] : Str), .i 0, .i 0, .str ([] : Str), .slice (List.map aF ([] : List Ty)) .nils, .slice (List.map aO ([] : List Tm)) .nils], .box [.i p0.op, .str p0.name, .i p0.n, .i x4.kind, .str x4.name, aH x4.kids, .slice (List.map aO s1.2) (.tip 3 7)], .tip (List.length s1.2 * 7)]) ho1 (fun _ => rfl) (wk [some 0, some 1, some 2, none] (.u (.e bZ (.c rfl (.u (.c rfl (.u2 (.c rfl (.c rfl (.u64 (.u32 (.u8 (.u4 (.u2 (.u .nil)))))))))))))) (.b rfl (.c rfl (.c rfl (.c rfl (.c rfl (.c rfl (.e aD (.e aM .nil))))))) (.b rfl (.c rfl (.c rfl (.c rfl (.c rfl (.c rfl (.c rfl (.c rfl .nil))))))) (.b rfl (.c rfl (.c rfl (.c rfl (.c rfl (.c rfl (.e aD (.cons (.nils _ _) .nil))))))) (.w rfl .nil)))) rfl) ?_
  intro n1 s1 hs1 KL1 hKL1
  unfold yU at hs1
  refine .q fun K15 k15 => .q fun K16 k16 => rg 0 ?_
  refine bB (l := p0.kids) (f := aO) ?_
  refine k16 _ _ ?_
  refine .aB rfl hs1 (fun hc4 hs1 => ?_) (fun hc4 hs1 => ?_)
  ·refine .skip ?_
   refine k15 _ _ ?_
   refine .q fun K17 k17 => ?_
   refine .block ?_
   refine rg 2 ?_
   obtain ⟨x6, hx6, hs1⟩ := ob hs1
   refine aI (l := p0.kids) (f := aO) (cs := [.i ((x6).op), .str ((x6).name), .i ((x6).n), .i (((x6).ty).kind), .str (((x6).ty).name), aH (((x6).ty).kids), bn ((x6).kids)]) hx6 (aR x6) rfl ?_
   obtain ⟨x7, hx7, hs1⟩ := ob hs1
   refine cp (hrec_R1_subst _ _ _ hx7) TH (.cons (.same _) (.cons (.same _) .nil)) ?_
   refine ⟨List.map aO ([x7]), by simp only [List.map_cons, List.map_nil, aR]; rfl, ?_⟩
   obtain ⟨x8, hx8, hs1⟩ := ob hs1
   refine gN (l := s1.2) (ys := [x7]) (f := aO) hx8 aaC rfl rfl rfl ?_
   refine ⟨rfl, ?_⟩
   refine k17 _ _ ?_
   refine .know 8 0 fun hv1 => ?_
   refine .know 45 0 fun hv2 => ?_
   refine rg 0 ?_
   refine ⟨(s1.1 + 1), by have := dK hv1; have := fU hv2; have h8 := of_decide_eq_true hc4; exact bI (by omega) (by omega), ?_⟩
   exact hKL1 _ _ _ hs1 (wk [some 0, some 1, some 2, some 5] (.u (.e bZ (.c rfl (.u (.c rfl (.u2 (.c rfl (.c rfl (.u64 (.u32 (.u8 (.u4 (.u2 (.u .nil)))))))))))))) (.b rfl (.c rfl (.c rfl (.c rfl (.c rfl (.c rfl (.e aD (.e aM .nil))))))) (.b rfl (.c rfl (.c rfl (.c rfl (.c rfl (.c rfl (.c rfl (.c rfl .nil))))))) (.b rfl (.c rfl (.c rfl (.c rfl (.c rfl (.c rfl (.e aD (.cons (.gB (aM _ _) rfl) .nil))))))) (.t rfl .nil)))) rfl)
  refine .exit ?_
  exact hR1 _ (sj hs1).symm _ _ (wk [some 1, some 2, some 3] (.u4 (.c rfl (.u2 (.c rfl (.u64 (.u32 (.u16 .nil))))))) (.b rfl (.c rfl (.c rfl (.c rfl (.c rfl (.c rfl (.c rfl (.c rfl .nil))))))) (.b rfl (.c rfl (.c rfl (.c rfl (.c rfl (.c rfl (.e aD (.cons (.gB (aM _ _) rfl) .nil))))))) (.t rfl .nil))) rfl)
 refine .skip ?_
 refine k10 _ _ ?_
 refine .q fun K18 k18 => rg 2 ?_
 obtain ⟨x9, hx9, h⟩ := ob h
 refine aI (l := p0.kids) (f := aO) (cs := [.i ((x9).op), .str ((x9).name), .i ((x9).n), .i (((x9).ty).kind), .str (((x9).ty).name), aH (((x9).ty).kids), bn ((x9).kids)]) hx9 (aR x9) rfl ?_
 obtain ⟨x10, hx10, h⟩ := ob h
 refine cp (hrec_R1_subst _ _ _ hx10) TH (.cons (.same _) (.cons (.same _) .nil)) ?_
 obtain ⟨x11, hx11, h⟩ := ob h
 refine aI (l := p0.kids) (f := aO) (cs := [.i ((x11).op), .str ((x11).name), .i ((x11).n), .i (((x11).ty).kind), .str (((x11).ty).name), aH (((x11).ty).kids), bn ((x11).kids)]) hx11 (aR x11) rfl ?_
 refine ⟨rfl, ?_⟩
 refine k18 _ _ ?_
 refine .q fun K19 k19 => rg 1 ?_
 obtain ⟨x12, hx12, h⟩ := ob h
 refine bU [] [5] [.slice (List.map aP p1) .shared, .str p0.name, bC x11] [.slice (List.map aP p1) .shared, .str p0.name, bC x11] (V7 _ _ _ _ _ hx12) aky rfl .nil (by simp; try decide) (.cons (.same _) (.cons (.same _) (.cons (.same _) .nil))) (rn := .slice (List.map aP x12) (.tip 5 8)) (by simp; try decide) (Hn := [.tip (List.length x12 * 8)]) ((bK (rfl) rfl)) ?_
 refine k19 _ _ ?_
 refine .q fun K20 k20 => rg 0 ?_
 refine k20 _ _ ?_
 refine .q fun K21 k21 => .q fun K22 k22 => rg 0 ?_
 refine k22 _ _ ?_
 refine .block ?_
 obtain ⟨o2, ho2, h⟩ := ob h
 have hR2 : ∀ s4 : List Str, o2 = .nx s4 → ∀ t9 h9, Le 0 t9 h9 (u2 (.ptr 0 0 :: (.unk :: (.ptr 1 0 :: (u2 (.ptr 2 0 :: (.unk :: (.ptr 3 0 :: (.ptr 4 0 :: (.slice (List.map aP x12) (.tip 5 8) :: (.slice (List.map encS s4) (.tip 6 1) :: (u64 (u32 (u8 (u2 (.unk :: [])))))))))))))))) [.box [.i p0.op, .str p0.name, .i p0.n, .i p0.ty.kind, .str p0.ty.name, aH p0.ty.kids, bn p0.kids], .box [.i 0, .str ([] : Str), .i 0, .i 0, .str ([] : Str), .slice (List.map aF ([] : List Ty)) .nils, .slice (List.map aO ([] : List Tm)) .nils], .box [.i p0.op, .str p0.name, .i p0.n, .i x4.kind, .str x4.name, aH x4.kids, .slice (List.map aO ([] : List Tm)) .nils], .box [.i x10.op, .str x10.name, .i x10.n, .i x10.ty.kind, .str x10.ty.name, aH x10.ty.kids, bn x10.kids], .box [.i x11.op, .str x11.name, .i x11.n, .i x11.ty.kind, .str x11.ty.name, aH x11.ty.kids, bn x11.kids], .tip (List.length x12 * 8), .tip (List.length s4 * 1)] → K21 t9 h9 := by
  intro s4 ho
  subst ho
  dsimp only [LR.el] at h
  intro t9 h9 hw
  refine k21 _ _ (AW.le hw ?_)
  refine .q fun K23 k23 => ?_
  obtain ⟨s5, hj1, h⟩ := ob h
  have hR3 : ∀ t9 h9, Le 0 t9 h9 (u4 (.ptr 0 0 :: (u2 (.ptr 1 0 :: (.unk :: (.ptr 2 0 :: (.ptr 3 0 :: (.slice (List.map aP s5.1) (.tip 4 8) :: (u64 (u32 (u8 (u4 [])))))))))))) [.box [.i 0, .str ([] : Str), .i 0, .i 0, .str ([] : Str), .slice (List.map aF ([] : List Ty)) .nils, .slice (List.map aO ([] : List Tm)) .nils], .box [.i p0.op, .str s5.2, .i p0.n, .i x4.kind, .str x4.name, aH x4.kids, .slice (List.map aO ([] : List Tm)) .nils], .box [.i x10.op, .str x10.name, .i x10.n, .i x10.ty.kind, .str x10.ty.name, aH x10.ty.kids, bn x10.kids], .box [.i x11.op, .str x11.name, .i x11.n, .i x11.ty.kind, .str x11.ty.name, aH x11.ty.kids, bn x11.kids], .tip (List.length s5.1 * 8)] → K23 t9 h9 := by
   intro t9 h9 hw
   refine k23 _ _ (AW.le hw ?_)
   clear hw
   refine .q fun K24 k24 => rg 1 ?_
   obtain ⟨x13, hx13, h⟩ := ob h
   refine cp (hrec_R1_subst _ _ _ hx13) TH (.cons (.same _) (.cons (.share _ _) .nil)) ?_
   refine ⟨List.map aO ([x10, x13]), by simp only [List.map_cons, List.map_nil, aR]; rfl, ?_⟩
   refine ⟨rfl, ?_⟩
   refine k24 _ _ ?_
   refine .q fun K25 k25 => rg 0 ?_
   refine k25 _ _ ?_
   refine .ret ?_
   have e9 := sj h
   subst e9
   refine hQ _ _ _ (aj aC (fun g => by simp) ?_)
   conv => whnf
   try rfl
  refine .q fun K26 k26 => rg 0 ?_
  obtain ⟨x14, hx14, hj1⟩ := ob hj1
  refine ak (vP _ _ _ _ hx14) Bo (.cons (.same _) (.cons (.share _ _) .nil)) (fun g => by simp) (fun g => rfl) ?_
  refine k26 _ _ ?_
  refine .aB rfl hj1 (fun hc5 hj1 => ?_) (fun hc5 hj1 => ?_)
  ·refine .q fun K27 k27 => rg 2 ?_
   obtain ⟨x15, hx15, hj1⟩ := ob hj1
   refine bU [] [7] [bC x11, dx ([] : List Str)] [bC x11, dx ([] : List Str)] (Ec _ _ _ _ hx15) I6 rfl .nil (by simp; try decide) (.cons (.same _) (.cons (.share _ _) .nil)) (rn := .slice (List.map encS x15) (.tip 7 1)) (by simp; try decide) (Hn := [.tip (List.length x15 * 1)]) ((bK (rfl) rfl)) ?_
   obtain ⟨x16, hx16, hj1⟩ := ob hj1
   refine gN (l := x15) (ys := s4) (f := encS) hx16 zW rfl rfl rfl ?_
   obtain ⟨x17, hx17, hj1⟩ := ob hj1
   refine ak (acM _ _ _ _ hx17) akO (.cons (.same _) (.cons (.share _ _) .nil)) (fun g => by simp) (fun g => rfl) ?_
   refine ⟨rfl, ?_⟩
   refine k27 _ _ ?_
   refine rg 2 ?_
   refine ⟨List.map aP ([(S_api_Binding.mk p0.name (Tm.mk 20 x17 0 (Ty.mk 0 ([] : Str) ([])) ([])))]), rfl, ?_⟩
   obtain ⟨x18, hx18, hj1⟩ := ob hj1
   refine gN (l := x12) (ys := [(S_api_Binding.mk p0.name (Tm.mk 20 x17 0 (Ty.mk 0 ([] : Str) ([])) ([])))]) (f := aP) hx18 E9 rfl rfl rfl ?_
   cases hj1
   exact hR3 _ _ (wk [some 1, some 2, some 3, some 4, some 10] (.u4 (.c rfl (.u2 (.c rfl (.u (.c rfl (.c rfl (.cons (.gB (bZ _ _) rfl) (.u64 (.u32 (.u8 (.u4 .nil)))))))))))) (.b rfl (.c rfl (.c rfl (.c rfl (.c rfl (.c rfl (.c rfl (.c rfl .nil))))))) (.b rfl (.c rfl (.c rfl (.c rfl (.c rfl (.c rfl (.e aD (.c rfl .nil))))))) (.b rfl (.c rfl (.c rfl (.c rfl (.c rfl (.c rfl (.e aD (.e aM .nil))))))) (.b rfl (.c rfl (.c rfl (.c rfl (.c rfl (.c rfl (.e aD (.e aM .nil))))))) (.t rfl .nil))))) rfl)
  refine .skip ?_
  cases hj1
  exact hR3 _ _ (wk [some 1, some 2, some 3, some 4, some 5] (.u4 (.c rfl (.u2 (.c rfl (.u (.c rfl (.c rfl (.cons (.gB (bZ _ _) rfl) (.u64 (.u32 (.u8 (.u4 .nil)))))))))))) (.b rfl (.c rfl (.c rfl (.c rfl (.c rfl (.c rfl (.c rfl (.c rfl .nil))))))) (.b rfl (.c rfl (.c rfl (.c rfl (.c rfl (.c rfl (.e aD (.c rfl .nil))))))) (.b rfl (.c rfl (.c rfl (.c rfl (.c rfl (.c rfl (.e aD (.e aM .nil))))))) (.b rfl (.c rfl (.c rfl (.c rfl (.c rfl (.c rfl (.e aD (.e aM .nil))))))) (.t rfl .nil))))) rfl)
 refine .loopS (wL n rec_R1_subst x12) (fun (s3 : (List Str) × Int) => (u2 (.ptr 0 0 :: (.unk :: (.ptr 1 0 :: (u2 (.ptr 2 0 :: (.unk :: (.ptr 3 0 :: (.ptr 4 0 :: (.slice (List.map aP x12) (.tip 5 8) :: (.slice (List.map encS s3.1) (.tip 6 1) :: (.i s3.2 :: (u64 (u32 (u8 (u2 []))))))))))))))))) (fun (s3 : (List Str) × Int) => [.box [.i p0.op, .str p0.name, .i p0.n, .i p0.ty.kind, .str p0.ty.name, aH p0.ty.kids, bn p0.kids], .box [.i 0, .str ([] : Str), .i 0, .i 0, .str ([] : Str), .slice (List.map aF ([] : List Ty)) .nils, .slice (List.map aO ([] : List Tm)) .nils], .box [.i p0.op, .str p0.name, .i p0.n, .i x4.kind, .str x4.name, aH x4.kids, .slice (List.map aO ([] : List Tm)) .nils], .box [.i x10.op, .str x10.name, .i x10.n, .i x10.ty.kind, .str x10.ty.name, aH x10.ty.kids, bn x10.kids], .box [.i x11.op, .str x11.name, .i x11.n, .i x11.ty.kind, .str x11.ty.name, aH x11.ty.kids, bn x11.kids], .tip (List.length x12 * 8), .tip (List.length s3.1 * 1)]) ho2 (fun _ => rfl) (wk [some 0, some 1, some 2, some 3, some 4, some 5, none] (.u2 (.c rfl (.u (.c rfl (.u2 (.c rfl (.u (.c rfl (.c rfl (.cons (.gB (bZ _ _) rfl) (.cons (.nils _ _) (.c rfl (.u64 (.u32 (.u8 (.u2 .nil)))))))))))))))) (.b rfl (.c rfl (.c rfl (.c rfl (.c rfl (.c rfl (.e aD (.e aM .nil))))))) (.b rfl (.c rfl (.c rfl (.c rfl (.c rfl (.c rfl (.c rfl (.c rfl .nil))))))) (.b rfl (.c rfl (.c rfl (.c rfl (.c rfl (.c rfl (.e aD (.c rfl .nil))))))) (.b rfl (.c rfl (.c rfl (.c rfl (.c rfl (.c rfl (.e aD (.e aM .nil))))))) (.b rfl (.c rfl (.c rfl (.c rfl (.c rfl (.c rfl (.e aD (.e aM .nil))))))) (.t rfl (.w rfl .nil))))))) rfl) ?_
 intro n2 s3 hs2 KL2 hKL2
 unfold wL at hs2
 refine .q fun K28 k28 => .q fun K29 k29 => rg 0 ?_
 refine bB (l := x12) (f := aP) ?_
 refine k29 _ _ ?_
 refine .aB rfl hs2 (fun hc6 hs2 => ?_) (fun hc6 hs2 => ?_)
 ·refine .skip ?_
  refine k28 _ _ ?_
  refine .q fun K30 k30 => ?_
  refine .block ?_
  refine rg 2 ?_
  obtain ⟨x19, hx19, hs2⟩ := ob hs2
  refine aI (l := x12) (f := aP) (cs := [.str ((x19).name), .i (((x19).term).op), .str (((x19).term).name), .i (((x19).term).n), .i ((((x19).term).ty).kind), .str ((((x19).term).ty).name), .slice (List.map aF ((((x19).term).ty).kids)) .shared, bn (((x19).term).kids)]) hx19 (rfl) rfl ?_
  obtain ⟨x20, hx20, hs2⟩ := ob hs2
  refine bU [] [7] [bC x19.term, dx ([] : List Str)] [bC x19.term, dx ([] : List Str)] (Ec _ _ _ _ hx20) I6 rfl .nil (by simp; try decide) (.cons (.same _) (.cons (.share _ _) .nil)) (rn := .slice (List.map encS x20) (.tip 7 1)) (by simp; try decide) (Hn := [.tip (List.length x20 * 1)]) ((bK (rfl) rfl)) ?_
  obtain ⟨x21, hx21, hs2⟩ := ob hs2
  refine gN (l := s3.1) (ys := x20) (f := encS) hx21 zW rfl rfl rfl ?_
  refine k30 _ _ ?_
  refine .know 13 0 fun hv3 => ?_
  refine .know 11 0 fun hv4 => ?_
  refine rg 0 ?_
  refine ⟨(s3.2 + 1), by have := dK hv3; have := fU hv4; have h8 := of_decide_eq_true hc6; exact bI (by omega) (by omega), ?_⟩
  exact hKL2 _ _ _ hs2 (wk [some 0, some 1, some 2, some 3, some 4, some 5, some 8] (.u2 (.c rfl (.u (.c rfl (.u2 (.c rfl (.u (.c rfl (.c rfl (.cons (.gB (bZ _ _) rfl) (.cons (.gB (bf _ _) rfl) (.c rfl (.u64 (.u32 (.u8 (.u2 .nil)))))))))))))))) (.b rfl (.c rfl (.c rfl (.c rfl (.c rfl (.c rfl (.e aD (.e aM .nil))))))) (.b rfl (.c rfl (.c rfl (.c rfl (.c rfl (.c rfl (.c rfl (.c rfl .nil))))))) (.b rfl (.c rfl (.c rfl (.c rfl (.c rfl (.c rfl (.e aD (.c rfl .nil))))))) (.b rfl (.c rfl (.c rfl (.c rfl (.c rfl (.c rfl (.e aD (.e aM .nil))))))) (.b rfl (.c rfl (.c rfl (.c rfl (.c rfl (.c rfl (.e aD (.e aM .nil))))))) (.t rfl (.t rfl .nil))))))) rfl)
 refine .exit ?_
 exact hR2 _ (sj hs2).symm _ _ (li (.u2 (.s (.u (.s (.u2 (.s (.u (.s (.s (.s (.s (.u16 (.u16 (.u16 (.u16 (.u16 (.u16 (.u8 (.u2 (.u .n)))))))))))))))))))))
theorem abC (n : Nat) : R1_subst_S (nu n) := by
 induction n with
 | zero => exact (fun p0 p1 r h => by unfold nu at h; cases h)
 | succ n ih =>
  exact (fun p0 p1 r h => R4 n _ ih p0 p1 r (by unfold nu at h; exact h))
theorem ac1 (n : Nat) : R1_subst_S (nu n) := (abC n)
end Abs
end Go.Proofs.YtiiaccpcoclklaaGreat
