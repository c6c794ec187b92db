/-
  Contracts of Go functions (printed). Conditions: none.
-/
import Derived.KernelRfl
import Derived.Test.YtiiaccpcoclklaaGreatCU5x2ccce2
import Derived.Test.YtiiaccpcoclklaaGreatCV3ox99e8c0
set_option linter.unusedSimpArgs false
set_option linter.unusedVariables false
namespace Go.Proofs.YtiiaccpcoclklaaGreat
namespace Abs
open Go Go.Proofs
set_option maxRecDepth 100000
set_option maxHeartbeats 40000000
abbrev R1_subst_S (rec_R1_subst : Tm → (List S_api_Binding) → Option Tm) : Prop := ∀ (p0 : Tm) (p1 : List S_api_Binding) (r : Tm), rec_R1_subst p0 p1 = some r → ak Tryz.prog 87 [bg p0, .slice (List.map aU p1) .shared] [] (bg r) []
theorem U0 (n : Nat) (rec_R1_subst : Tm → (List S_api_Binding) → Option Tm) (hrec_R1_subst : R1_subst_S rec_R1_subst) (p0 : Tm) (p1 : List S_api_Binding) (r : Tm) (h : pq n rec_R1_subst p0 p1 = some r) : ak Tryz.prog 87 [bg p0, .slice (List.map aU p1) .shared] [] (bg r) [] := by
 unfold pq at h
 refine ah true Tryz.func87 rfl (nt Tryz.ntmps87 rfl) fun Q hQ t ht => ?_
 conv at ht => whnf
 subst ht
 refine .q fun K1 k1 => rg 2 ?_
 refine k1 _ _ ?_
 refine .q fun K2 k2 => .q fun K3 k3 => rg 0 ?_
 refine k3 _ _ ?_
 refine .aC rfl h (fun hc1 h => ?_) (fun hc1 h => ?_)
 ·refine .q fun K4 k4 => .q fun K5 k5 => rg 1 ?_
  obtain ⟨x1, hx1, h⟩ := ob h
  refine cp (DU _ _ _ _ hx1) aaU (.cons (.same _) (.cons (.same _) .nil)) ?_
  refine k5 _ _ ?_
  refine .q fun K6 k6 => rg 0 ?_
  refine k6 _ _ ?_
  refine .aC rfl h (fun hc2 h => ?_) (fun hc2 h => ?_)
  ·refine .q fun K7 k7 => rg 0 ?_
   obtain ⟨x2, hx2, h⟩ := ob h
   refine cp (D7 _ _ _ hx2) Fg (.cons (.same _) .nil) ?_
   refine k7 _ _ ?_
   refine .ret ?_
   have e9 := sj h
   subst e9
   refine hQ _ _ _ (aj aD (fun g => by simp) ?_)
   conv => whnf
   try rfl
  refine .skip ?_
  refine k4 _ _ ?_
  refine .q fun K8 k8 => rg 0 ?_
  obtain ⟨x3, hx3, h⟩ := ob h
  refine cp (D7 _ _ _ hx3) Fg (.cons (.same _) .nil) ?_
  refine k8 _ _ ?_
  refine .ret ?_
  have e9 := sj h
  subst e9
  refine hQ _ _ _ (aj aD (fun g => by simp) ?_)
  conv => whnf
  try rfl
 refine .skip ?_
 refine k2 _ _ ?_
 refine .q fun K9 k9 => rg 1 ?_
 obtain ⟨x4, hx4, h⟩ := ob h
 refine cp (nN _ _ _ hx4) Dp (.cons (.same _) .nil) ?_
 refine ⟨rfl, ?_⟩
 refine k9 _ _ ?_
 refine .q fun K10 k10 => .q fun K11 k11 => rg 0 ?_
 obtain ⟨x5, hx5, h⟩ := ob h
 refine au (qD _ _ _ hx5) E8 (.cons (.same _) .nil) (fun g => rfl) (fun g => rfl) ?_
 refine k11 _ _ ?_
 refine .aC rfl h (fun hc3 h => ?_) (fun hc3 h => ?_)
 ·refine .q fun K12 k12 => .q fun K13 k13 => rg 0 ?_
  refine k13 _ _ ?_
  refine .block ?_
  obtain ⟨o1, ho1, h⟩ := ob h
  have hR1 : ∀ s2 : List Tm, o1 = .nx s2 → ∀ t9 h9, Le 0 t9 h9 (u4 (.ptr 0 0 :: (u2 (.ptr 1 0 :: (u64 (u32 (u16 []))))))) [.box [.i 0, .str ([] : Str), .i 0, .i 0, .str ([] : Str), .slice (List.map aK ([] : List Ty)) .nils, .slice (List.map aS ([] : List Tm)) .nils], .box [.i p0.op, .str p0.name, .i p0.n, .i x4.kind, .str x4.name, aI x4.kids, .slice (List.map aS s2) (.tip 2 7)], .tip (List.length s2 * 7)] → K12 t9 h9 := by
   intro s2 ho
   subst ho
   dsimp only [LR.el] at h
   intro t9 h9 hw
   refine k12 _ _ (AW.le hw ?_)
   refine .q fun K14 k14 => rg 0 ?_
   refine k14 _ _ ?_
   refine .ret ?_
   have e9 := sj h
   subst e9
   refine hQ _ _ _ (aj aD (fun g => by simp) ?_)
   conv => whnf
   try rfl
  refine .loopS (BI n rec_R1_subst p0 p1) (fun (s1 : Int × (List Tm)) => (.unk :: (.slice (List.map aU p1) .shared :: (.ptr 0 0 :: (.unk :: (.ptr 1 0 :: (u2 (.ptr 2 0 :: (.i s1.1 :: (u64 (u32 (u8 (u4 (u2 (.unk :: []))))))))))))))) (fun (s1 : Int × (List Tm)) => [.box [.i p0.op, .str p0.name, .i p0.n, .i p0.ty.kind, .str p0.ty.name, aI p0.ty.kids, bn p0.kids], .box [.i 0, .str ([] : Str), .i 0, .i 0, .str ([] : Str), .slice (List.map aK ([] : List Ty)) .nils, .slice (List.map aS ([] : List Tm)) .nils], .box [.i p0.op, .str p0.name, .i p0.n, .i x4.kind, .str x4.name, aI x4.kids, .slice (List.map aS s1.2) (.tip 3 7)], .tip (List.length s1.2 * 7)]) ho1 (fun _ => rfl) (wk [some 0, some 1, some 2, none] (.u (.e dB (.c rfl (.u (.c rfl (.u2 (.c rfl (.c rfl (.u64 (.u32 (.u8 (.u4 (.u2 (.u .nil)))))))))))))) (.b rfl (.c rfl (.c rfl (.c rfl (.c rfl (.c rfl (.e aB (.e aN .nil))))))) (.b rfl (.c rfl (.c rfl (.c rfl (.c rfl (.c rfl (.c rfl (.c rfl .nil))))))) (.b rfl (.c rfl (.c rfl (.c rfl (.c rfl (.c rfl (.e aB (.cons (.nils _ _) .nil))))))) (.w rfl .nil)))) rfl) ?_
  intro n1 s1 hs1 KL1 hKL1
  unfold BI at hs1
  refine .q fun K15 k15 => .q fun K16 k16 => rg 0 ?_
  refine aW (l := p0.kids) (f := aS) ?_
  refine k16 _ _ ?_
  refine .aC rfl hs1 (fun hc4 hs1 => ?_) (fun hc4 hs1 => ?_)
  ·refine .skip ?_
   refine k15 _ _ ?_
   refine .q fun K17 k17 => ?_
   refine .block ?_
   refine rg 2 ?_
   obtain ⟨x6, hx6, hs1⟩ := ob hs1
   refine aJ (l := p0.kids) (f := aS) (cs := [.i ((x6).op), .str ((x6).name), .i ((x6).n), .i (((x6).ty).kind), .str (((x6).ty).name), aI (((x6).ty).kids), bn ((x6).kids)]) hx6 (aX x6) rfl ?_
   obtain ⟨x7, hx7, hs1⟩ := ob hs1
   refine cp (hrec_R1_subst _ _ _ hx7) OQ (.cons (.same _) (.cons (.same _) .nil)) ?_
   refine ⟨List.map aS ([x7]), by simp only [List.map_cons, List.map_nil, aX]; rfl, ?_⟩
   obtain ⟨x8, hx8, hs1⟩ := ob hs1
   refine dW (l := s1.2) (ys := [x7]) (f := aS) hx8 Rk rfl rfl rfl ?_
   refine ⟨rfl, ?_⟩
   refine k17 _ _ ?_
   refine .know 8 0 fun hv1 => ?_
   refine .know 45 0 fun hv2 => ?_
   refine rg 0 ?_
   refine ⟨(s1.1 + 1), by have := dn hv1; have := eP hv2; have h8 := of_decide_eq_true hc4; exact bG (by omega) (by omega), ?_⟩
   exact hKL1 _ _ _ hs1 (wk [some 0, some 1, some 2, some 5] (.u (.e dB (.c rfl (.u (.c rfl (.u2 (.c rfl (.c rfl (.u64 (.u32 (.u8 (.u4 (.u2 (.u .nil)))))))))))))) (.b rfl (.c rfl (.c rfl (.c rfl (.c rfl (.c rfl (.e aB (.e aN .nil))))))) (.b rfl (.c rfl (.c rfl (.c rfl (.c rfl (.c rfl (.c rfl (.c rfl .nil))))))) (.b rfl (.c rfl (.c rfl (.c rfl (.c rfl (.c rfl (.e aB (.cons (.bF (aN _ _) rfl) .nil))))))) (.t rfl .nil)))) rfl)
  refine .exit ?_
  exact hR1 _ (sj hs1).symm _ _ (wk [some 1, some 2, some 3] (.u4 (.c rfl (.u2 (.c rfl (.u64 (.u32 (.u16 .nil))))))) (.b rfl (.c rfl (.c rfl (.c rfl (.c rfl (.c rfl (.c rfl (.c rfl .nil))))))) (.b rfl (.c rfl (.c rfl (.c rfl (.c rfl (.c rfl (.e aB (.cons (.bF (aN _ _) rfl) .nil))))))) (.t rfl .nil))) rfl)
 refine .skip ?_
 refine k10 _ _ ?_
 refine .q fun K18 k18 => rg 2 ?_
 obtain ⟨x9, hx9, h⟩ := ob h
 refine aJ (l := p0.kids) (f := aS) (cs := [.i ((x9).op), .str ((x9).name), .i ((x9).n), .i (((x9).ty).kind), .str (((x9).ty).name), aI (((x9).ty).kids), bn ((x9).kids)]) hx9 (aX x9) rfl ?_
 obtain ⟨x10, hx10, h⟩ := ob h
 refine cp (hrec_R1_subst _ _ _ hx10) OQ (.cons (.same _) (.cons (.same _) .nil)) ?_
 obtain ⟨x11, hx11, h⟩ := ob h
 refine aJ (l := p0.kids) (f := aS) (cs := [.i ((x11).op), .str ((x11).name), .i ((x11).n), .i (((x11).ty).kind), .str (((x11).ty).name), aI (((x11).ty).kids), bn ((x11).kids)]) hx11 (aX x11) rfl ?_
 refine ⟨rfl, ?_⟩
 refine k18 _ _ ?_
 refine .q fun K19 k19 => rg 1 ?_
 obtain ⟨x12, hx12, h⟩ := ob h
 refine bM [] [5] [.slice (List.map aU p1) .shared, .str p0.name, bg x11] [.slice (List.map aU p1) .shared, .str p0.name, bg x11] (YZ _ _ _ _ _ hx12) aoP rfl .nil (by simp; try decide) (.cons (.same _) (.cons (.same _) (.cons (.same _) .nil))) (rn := .slice (List.map aU x12) (.tip 5 8)) (by simp; try decide) (Hn := [.tip (List.length x12 * 8)]) ((bI (rfl) rfl)) ?_
 refine k19 _ _ ?_
 refine .q fun K20 k20 => rg 0 ?_
 refine k20 _ _ ?_
 refine .q fun K21 k21 => .q fun K22 k22 => rg 0 ?_
 refine k22 _ _ ?_
 refine .block ?_
 obtain ⟨o2, ho2, h⟩ := ob h
 have hR2 : ∀ s4 : List Str, o2 = .nx s4 → ∀ t9 h9, Le 0 t9 h9 (u2 (.ptr 0 0 :: (.unk :: (.ptr 1 0 :: (u2 (.ptr 2 0 :: (.unk :: (.ptr 3 0 :: (.ptr 4 0 :: (.slice (List.map aU x12) (.tip 5 8) :: (.slice (List.map encS s4) (.tip 6 1) :: (u64 (u32 (u8 (u2 (.unk :: [])))))))))))))))) [.box [.i p0.op, .str p0.name, .i p0.n, .i p0.ty.kind, .str p0.ty.name, aI p0.ty.kids, bn p0.kids], .box [.i 0, .str ([] : Str), .i 0, .i 0, .str ([] : Str), .slice (List.map aK ([] : List Ty)) .nils, .slice (List.map aS ([] : List Tm)) .nils], .box [.i p0.op, .str p0.name, .i p0.n, .i x4.kind, .str x4.name, aI x4.kids, .slice (List.map aS ([] : List Tm)) .nils], .box [.i x10.op, .str x10.name, .i x10.n, .i x10.ty.kind, .str x10.ty.name, aI x10.ty.kids, bn x10.kids], .box [.i x11.op, .str x11.name, .i x11.n, .i x11.ty.kind, .str x11.ty.name, aI x11.ty.kids, bn x11.kids], .tip (List.length x12 * 8), .tip (List.length s4 * 1)] → K21 t9 h9 := by
  intro s4 ho
  subst ho
  dsimp only [LR.el] at h
  intro t9 h9 hw
  refine k21 _ _ (AW.le hw ?_)
  refine .q fun K23 k23 => ?_
  obtain ⟨s5, hj1, h⟩ := ob h
  have hR3 : ∀ t9 h9, Le 0 t9 h9 (u4 (.ptr 0 0 :: (u2 (.ptr 1 0 :: (.unk :: (.ptr 2 0 :: (.ptr 3 0 :: (.slice (List.map aU s5.1) (.tip 4 8) :: (u64 (u32 (u8 (u4 [])))))))))))) [.box [.i 0, .str ([] : Str), .i 0, .i 0, .str ([] : Str), .slice (List.map aK ([] : List Ty)) .nils, .slice (List.map aS ([] : List Tm)) .nils], .box [.i p0.op, .str s5.2, .i p0.n, .i x4.kind, .str x4.name, aI x4.kids, .slice (List.map aS ([] : List Tm)) .nils], .box [.i x10.op, .str x10.name, .i x10.n, .i x10.ty.kind, .str x10.ty.name, aI x10.ty.kids, bn x10.kids], .box [.i x11.op, .str x11.name, .i x11.n, .i x11.ty.kind, .str x11.ty.name, aI x11.ty.kids, bn x11.kids], .tip (List.length s5.1 * 8)] → K23 t9 h9 := by
   intro t9 h9 hw
   refine k23 _ _ (AW.le hw ?_)
   clear hw
   refine .q fun K24 k24 => rg 1 ?_
   obtain ⟨x13, hx13, h⟩ := ob h
   refine cp (hrec_R1_subst _ _ _ hx13) OQ (.cons (.same _) (.cons (.share _ _) .nil)) ?_
   refine ⟨List.map aS ([x10, x13]), by simp only [List.map_cons, List.map_nil, aX]; rfl, ?_⟩
   refine ⟨rfl, ?_⟩
   refine k24 _ _ ?_
   refine .q fun K25 k25 => rg 0 ?_
   refine k25 _ _ ?_
   refine .ret ?_
   have e9 := sj h
   subst e9
   refine hQ _ _ _ (aj aD (fun g => by simp) ?_)
   conv => whnf
   try rfl
  refine .q fun K26 k26 => rg 0 ?_
  obtain ⟨x14, hx14, hj1⟩ := ob hj1
  refine au (uf _ _ _ _ hx14) zW (.cons (.same _) (.cons (.share _ _) .nil)) (fun g => by simp) (fun g => rfl) ?_
  refine k26 _ _ ?_
  refine .aC rfl hj1 (fun hc5 hj1 => ?_) (fun hc5 hj1 => ?_)
  ·refine .q fun K27 k27 => rg 2 ?_
   obtain ⟨x15, hx15, hj1⟩ := ob hj1
   refine bM [] [7] [bg x11, bQ ([] : List Str)] [bg x11, bQ ([] : List Str)] (Gy _ _ _ _ hx15) KU rfl .nil (by simp; try decide) (.cons (.same _) (.cons (.share _ _) .nil)) (rn := .slice (List.map encS x15) (.tip 7 1)) (by simp; try decide) (Hn := [.tip (List.length x15 * 1)]) ((bI (rfl) rfl)) ?_
   obtain ⟨x16, hx16, hj1⟩ := ob hj1
   refine dW (l := x15) (ys := s4) (f := encS) hx16 wU rfl rfl rfl ?_
   obtain ⟨x17, hx17, hj1⟩ := ob hj1
   refine au (Uo _ _ _ _ hx17) ahw (.cons (.same _) (.cons (.share _ _) .nil)) (fun g => by simp) (fun g => rfl) ?_
   refine ⟨rfl, ?_⟩
   refine k27 _ _ ?_
   refine rg 2 ?_
   refine ⟨List.map aU ([(S_api_Binding.mk p0.name (Tm.mk 20 x17 0 (Ty.mk 0 ([] : Str) ([])) ([])))]), rfl, ?_⟩
   obtain ⟨x18, hx18, hj1⟩ := ob hj1
   refine dW (l := x12) (ys := [(S_api_Binding.mk p0.name (Tm.mk 20 x17 0 (Ty.mk 0 ([] : Str) ([])) ([])))]) (f := aU) hx18 Hl rfl rfl rfl ?_
   cases hj1
   exact hR3 _ _ (wk [some 1, some 2, some 3, some 4, some 10] (.u4 (.c rfl (.u2 (.c rfl (.u (.c rfl (.c rfl (.cons (.bF (dB _ _) rfl) (.u64 (.u32 (.u8 (.u4 .nil)))))))))))) (.b rfl (.c rfl (.c rfl (.c rfl (.c rfl (.c rfl (.c rfl (.c rfl .nil))))))) (.b rfl (.c rfl (.c rfl (.c rfl (.c rfl (.c rfl (.e aB (.c rfl .nil))))))) (.b rfl (.c rfl (.c rfl (.c rfl (.c rfl (.c rfl (.e aB (.e aN .nil))))))) (.b rfl (.c rfl (.c rfl (.c rfl (.c rfl (.c rfl (.e aB (.e aN .nil))))))) (.t rfl .nil))))) rfl)
  refine .skip ?_
  cases hj1
  exact hR3 _ _ (wk [some 1, some 2, some 3, some 4, some 5] (.u4 (.c rfl (.u2 (.c rfl (.u (.c rfl (.c rfl (.cons (.bF (dB _ _) rfl) (.u64 (.u32 (.u8 (.u4 .nil)))))))))))) (.b rfl (.c rfl (.c rfl (.c rfl (.c rfl (.c rfl (.c rfl (.c rfl .nil))))))) (.b rfl (.c rfl (.c rfl (.c rfl (.c rfl (.c rfl (.e aB (.c rfl .nil))))))) (.b rfl (.c rfl (.c rfl (.c rfl (.c rfl (.c rfl (.e aB (.e aN .nil))))))) (.b rfl (.c rfl (.c rfl (.c rfl (.c rfl (.c rfl (.e aB (.e aN .nil))))))) (.t rfl .nil))))) rfl)
 refine .loopS (yV n rec_R1_subst x12) (fun (s3 : (List Str) × Int) => (u2 (.ptr 0 0 :: (.unk :: (.ptr 1 0 :: (u2 (.ptr 2 0 :: (.unk :: (.ptr 3 0 :: (.ptr 4 0 :: (.slice (List.map aU x12) (.tip 5 8) :: (.slice (List.map encS s3.1) (.tip 6 1) :: (.i s3.2 :: (u64 (u32 (u8 (u2 []))))))))))))))))) (fun (s3 : (List Str) × Int) => [.box [.i p0.op, .str p0.name, .i p0.n, .i p0.ty.kind, .str p0.ty.name, aI p0.ty.kids, bn p0.kids], .box [.i 0, .str ([] : Str), .i 0, .i 0, .str ([] : Str), .slice (List.map aK ([] : List Ty)) .nils, .slice (List.map aS ([] : List Tm)) .nils], .box [.i p0.op, .str p0.name, .i p0.n, .i x4.kind, .str x4.name, aI x4.kids, .slice (List.map aS ([] : List Tm)) .nils], .box [.i x10.op, .str x10.name, .i x10.n, .i x10.ty.kind, .str x10.ty.name, aI x10.ty.kids, bn x10.kids], .box [.i x11.op, .str x11.name, .i x11.n, .i x11.ty.kind, .str x11.ty.name, aI x11.ty.kids, bn x11.kids], .tip (List.length x12 * 8), .tip (List.length s3.1 * 1)]) ho2 (fun _ => rfl) (wk [some 0, some 1, some 2, some 3, some 4, some 5, none] (.u2 (.c rfl (.u (.c rfl (.u2 (.c rfl (.u (.c rfl (.c rfl (.cons (.bF (dB _ _) rfl) (.cons (.nils _ _) (.c rfl (.u64 (.u32 (.u8 (.u2 .nil)))))))))))))))) (.b rfl (.c rfl (.c rfl (.c rfl (.c rfl (.c rfl (.e aB (.e aN .nil))))))) (.b rfl (.c rfl (.c rfl (.c rfl (.c rfl (.c rfl (.c rfl (.c rfl .nil))))))) (.b rfl (.c rfl (.c rfl (.c rfl (.c rfl (.c rfl (.e aB (.c rfl .nil))))))) (.b rfl (.c rfl (.c rfl (.c rfl (.c rfl (.c rfl (.e aB (.e aN .nil))))))) (.b rfl (.c rfl (.c rfl (.c rfl (.c rfl (.c rfl (.e aB (.e aN .nil))))))) (.t rfl (.w rfl .nil))))))) rfl) ?_
 intro n2 s3 hs2 KL2 hKL2
 unfold yV at hs2
 refine .q fun K28 k28 => .q fun K29 k29 => rg 0 ?_
 refine aW (l := x12) (f := aU) ?_
 refine k29 _ _ ?_
 refine .aC rfl hs2 (fun hc6 hs2 => ?_) (fun hc6 hs2 => ?_)
 ·refine .skip ?_
  refine k28 _ _ ?_
  refine .q fun K30 k30 => ?_
  refine .block ?_
  refine rg 2 ?_
  obtain ⟨x19, hx19, hs2⟩ := ob hs2
  refine aJ (l := x12) (f := aU) (cs := [.str ((x19).name), .i (((x19).term).op), .str (((x19).term).name), .i (((x19).term).n), .i ((((x19).term).ty).kind), .str ((((x19).term).ty).name), .slice (List.map aK ((((x19).term).ty).kids)) .shared, bn (((x19).term).kids)]) hx19 (rfl) rfl ?_
  obtain ⟨x20, hx20, hs2⟩ := ob hs2
  refine bM [] [7] [bg x19.term, bQ ([] : List Str)] [bg x19.term, bQ ([] : List Str)] (Gy _ _ _ _ hx20) KU rfl .nil (by simp; try decide) (.cons (.same _) (.cons (.share _ _) .nil)) (rn := .slice (List.map encS x20) (.tip 7 1)) (by simp; try decide) (Hn := [.tip (List.length x20 * 1)]) ((bI (rfl) rfl)) ?_
  obtain ⟨x21, hx21, hs2⟩ := ob hs2
  refine dW (l := s3.1) (ys := x20) (f := encS) hx21 wU rfl rfl rfl ?_
  refine k30 _ _ ?_
  refine .know 13 0 fun hv3 => ?_
  refine .know 11 0 fun hv4 => ?_
  refine rg 0 ?_
  refine ⟨(s3.2 + 1), by have := dn hv3; have := eP hv4; have h8 := of_decide_eq_true hc6; exact bG (by omega) (by omega), ?_⟩
  exact hKL2 _ _ _ hs2 (wk [some 0, some 1, some 2, some 3, some 4, some 5, some 8] (.u2 (.c rfl (.u (.c rfl (.u2 (.c rfl (.u (.c rfl (.c rfl (.cons (.bF (dB _ _) rfl) (.cons (.bF (aZ _ _) rfl) (.c rfl (.u64 (.u32 (.u8 (.u2 .nil)))))))))))))))) (.b rfl (.c rfl (.c rfl (.c rfl (.c rfl (.c rfl (.e aB (.e aN .nil))))))) (.b rfl (.c rfl (.c rfl (.c rfl (.c rfl (.c rfl (.c rfl (.c rfl .nil))))))) (.b rfl (.c rfl (.c rfl (.c rfl (.c rfl (.c rfl (.e aB (.c rfl .nil))))))) (.b rfl (.c rfl (.c rfl (.c rfl (.c rfl (.c rfl (.e aB (.e aN .nil))))))) (.b rfl (.c rfl (.c rfl (.c rfl (.c rfl (.c rfl (.e aB (.e aN .nil))))))) (.t rfl (.t rfl .nil))))))) rfl)
 refine .exit ?_
 exact hR2 _ (sj hs2).symm _ _ (li (.u2 (.s (.u (.s (.u2 (.s (.u (.s (.s (.s (.s (.u16 (.u16 (.u16 (.u16 (.u16 (.u16 (.u8 (.u2 (.u .n)))))))))))))))))))))
theorem ad8 (n : Nat) : R1_subst_S (mg n) := by
 induction n with
 | zero => exact (fun p0 p1 r h => by unfold mg at h; cases h)
 | succ n ih =>
  exact (fun p0 p1 r h => U0 n _ ih p0 p1 r (by unfold mg at h; exact h))
theorem Uz (n : Nat) : R1_subst_S (mg n) := (ad8 n)
end Abs
end Go.Proofs.YtiiaccpcoclklaaGreat
