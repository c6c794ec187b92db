/-
  Contracts of Go functions (printed). Conditions: none.
-/
import Derived.KernelRfl
import Derived.Test.YtkopaeklihhdlaaGreatCAwox9e0763
import Derived.Test.YtkopaeklihhdlaaGreatCH1oxa48541
set_option linter.unusedSimpArgs false
set_option linter.unusedVariables false
namespace Go.Proofs.YtkopaeklihhdlaaGreat
namespace Abs
open Go Go.Proofs
set_option maxRecDepth 100000
set_option maxHeartbeats 40000000
theorem I9 (n : Nat) (p0 : S_api_World) (p1 : Str) (p2 : Val) (r : S_api_World × Int) (h : xU n p0 p1 p2 = some r) : au Tryz.prog 19 [.agg [.slice (List.map ah p0.env.carriers) .shared, .slice (List.map ak p0.env.names) .shared, .slice (List.map encI p0.sizes) .shared, .slice (List.map aj p0.values) .shared], .str p1, .agg [.int .i64 p2.kind, .int .i64 p2.n, .str p2.name, .slice (List.map aj p2.kids) .shared]] [] (.tup [.agg [.slice (List.map ah r.1.env.carriers) .shared, .slice (List.map ak r.1.env.names) .shared, .slice (List.map encI r.1.sizes) .shared, .slice (List.map aj r.1.values) .shared], .int .i64 r.2]) [] := by
 unfold xU at h
 refine aB true Tryz.func19 rfl (by rw [Tryz.ntmps19]; exact Nat.le_of_ble_eq_true rfl) fun Q hQ t ht => ?_
 conv at ht => whnf
 subst ht
 refine .q fun K1 k1 => ?_
 refine rg 3 ?_
 conv => whnf
 refine k1 _ _ ?_
 refine .q fun K2 k2 => ?_
 refine .q fun K3 k3 => ?_
 refine rg 0 ?_
 conv => whnf
 obtain ⟨x1, hx1, h⟩ := ob h
 refine aD (sG _ _ _ hx1) Sv (.cons (.same _) .nil) (fun g => by simp) (fun g => rfl) ?_
 conv => whnf
 refine k3 _ _ ?_
 refine .aL rfl h (fun hc1 h => ?_) (fun hc1 h => ?_)
 ·refine .q fun K4 k4 => ?_
  refine rg 0 ?_
  conv => whnf
  refine k4 _ _ ?_
  refine .ret ?_
  conv => whnf
  have e9 := sj h
  subst e9
  refine hQ _ _ _ (aG aK (fun g => by simp) ?_)
  conv => whnf
  try rfl
 refine .skip ?_
 conv => whnf
 refine k2 _ _ ?_
 refine .q fun K5 k5 => ?_
 refine rg 0 ?_
 conv => whnf
 obtain ⟨x2, hx2, h⟩ := ob h
 refine aD (EL _ _ _ _ hx2) Z4 (.cons (.same _) (.cons (.same _) .nil)) (fun g => by simp) (fun g => rfl) ?_
 conv => whnf
 refine k5 _ _ ?_
 refine .q fun K6 k6 => ?_
 refine .block ?_
 refine .q fun K7 k7 => ?_
 refine rg 0 ?_
 conv => whnf
 refine k7 _ _ ?_
 refine .aL rfl h (fun hc2 h => ?_) (fun hc2 h => ?_)
 ·refine .q fun K8 k8 => ?_
  refine rg 0 ?_
  conv => whnf
  refine k8 _ _ ?_
  refine .ret ?_
  conv => whnf
  have e9 := sj h
  subst e9
  refine hQ _ _ _ (aG aK (fun g => by simp) ?_)
  conv => whnf
  try rfl
 refine .q fun K9 k9 => ?_
 refine rg 0 ?_
 conv => whnf
 obtain ⟨x3, hx3, h⟩ := ob h
 refine aW (l := p0.env.names) (f := ak) (cs := [.str ((x3).name), .int .i64 (((x3).ty).kind), .str (((x3).ty).name), .slice (List.map aC (((x3).ty).kids)) .shared]) hx3 (rfl) rfl ?_
 conv => whnf
 obtain ⟨x4, hx4, h⟩ := ob h
 refine aD (BR _ _ _ _ _ _ hx4) Nb (.cons (.same _) (.cons (.same _) (.cons (.same _) (.cons (.same _) .nil)))) (fun g => by simp) (fun g => rfl) ?_
 conv => whnf
 refine ⟨by kernel_rfl, ?_⟩
 conv => whnf
 refine k9 _ _ ?_
 refine .aL rfl h (fun hc3 h => ?_) (fun hc3 h => ?_)
 ·refine .q fun K10 k10 => ?_
  refine rg 0 ?_
  conv => whnf
  refine k10 _ _ ?_
  refine .ret ?_
  conv => whnf
  have e9 := sj h
  subst e9
  refine hQ _ _ _ (aG aK (fun g => by simp) ?_)
  conv => whnf
  try rfl
 refine .skip ?_
 conv => whnf
 refine k6 _ _ ?_
 refine .q fun K11 k11 => ?_
 refine rg 2 ?_
 conv => whnf
 obtain ⟨x5, hx5, h⟩ := ob h
 refine bH [] [3] [.agg [.slice (List.map ah p0.env.carriers) .shared, .slice (List.map ak p0.env.names) .shared, .slice (List.map encI p0.sizes) .shared, .slice (List.map aj p0.values) .shared]] [.agg [.slice (List.map ah p0.env.carriers) .shared, .slice (List.map ak p0.env.names) .shared, .slice (List.map encI p0.sizes) .shared, .slice (List.map aj p0.values) .shared]] (Fu _ _ _ hx5) aft rfl .nil (by simp; try decide) (.cons (.same _) .nil) (rn := .agg [.slice (List.map ah x5.1) .shared, .slice (List.map ak x5.2.1) .shared, .slice (List.map encI x5.2.2.1) .shared, .psl 3 4 (List.length x5.2.2.2)]) (by simp; try decide) (Hn := [.arr 4 (List.map aj x5.2.2.2)]) ((bS (congrArg (AObj.arr _) (aI _ _)) rfl)) ?_
 conv => whnf
 refine k11 _ _ ?_
 refine .q fun K12 k12 => ?_
 refine rg 0 ?_
 conv => whnf
 obtain ⟨x6, hx6, h⟩ := ob h
 refine aD (sV _ _ _ hx6) GQ (.cons (.same _) .nil) (fun g => by simp) (fun g => by simp) ?_
 conv => whnf
 obtain ⟨x7, hx7, h⟩ := ob h
 refine Jj (l := x5.2.2.2) (l0 := x5.2.2.2) hx7 (by simp [upd]) ?_
 conv => whnf
 refine stp (l := x5.2.2.2) (f := aj) (v := x6) hx7 ((bg _).symm) (by decide) ?_
 conv => whnf
 refine ⟨by kernel_rfl, ?_⟩
 conv => whnf
 refine k12 _ _ ?_
 refine .q fun K13 k13 => ?_
 refine rg 0 ?_
 conv => whnf
 refine k13 _ _ ?_
 refine .le (t' := (.agg [.slice (List.map ah p0.env.carriers) .shared, .slice (List.map ak p0.env.names) .shared, .slice (List.map encI p0.sizes) .shared, .slice (List.map aj p0.values) .shared] :: (.str p1 :: (.agg [.int .i64 p2.kind, .int .i64 p2.n, .str p2.name, .slice (List.map aj p2.kids) .shared] :: (.ptr 0 0 :: (.tup [] :: (.ptr 1 0 :: (.ptr 2 0 :: (.int .i64 0 :: (.int .i64 x2 :: (.ptr 3 0 :: (.agg [.slice (List.map ah p0.env.carriers) .shared, .slice (List.map ak p0.env.names) .shared, .slice (List.map encI p0.sizes) .shared, .slice (List.map aj p0.values) .shared] :: (.bool x1 :: (.bool (!x1) :: (.tup [] :: (.agg [.slice (List.map ah p0.env.carriers) .shared, .slice (List.map ak p0.env.names) .shared, .slice (List.map encI p0.sizes) .shared, .slice (List.map aj p0.values) .shared] :: (.str p1 :: (.int .i64 x2 :: (.bool (decide (x2 < 0)) :: (.int .i64 x2 :: (.bool (decide (x2 < 0)) :: (.tup [] :: (.bool (!x4) :: (.ptr 0 0 :: (.agg [.slice (List.map ah p0.env.carriers) .shared, .slice (List.map ak p0.env.names) .shared] :: (.ptr 0 2 :: (.slice (List.map encI p0.sizes) .shared :: (.agg [.int .i64 p2.kind, .int .i64 p2.n, .str p2.name, .slice (List.map aj p2.kids) .shared] :: (.ptr 0 0 :: (.ptr 0 1 :: (.slice (List.map ak p0.env.names) .shared :: (.int .i64 x2 :: (.eptr [.str x3.name, .int .i64 x3.ty.kind, .str x3.ty.name, .slice (List.map aC x3.ty.kids) .shared] :: (.eptr [.int .i64 x3.ty.kind, .str x3.ty.name, .slice (List.map aC x3.ty.kids) .shared] :: (.agg [.int .i64 x3.ty.kind, .str x3.ty.name, .slice (List.map aC x3.ty.kids) .shared] :: (.bool x4 :: (.bool (!x4) :: (.tup [] :: (.agg [.slice (List.map ah p0.env.carriers) .shared, .slice (List.map ak p0.env.names) .shared, .slice (List.map encI p0.sizes) .shared, .slice (List.map aj p0.values) .shared] :: (.agg [.slice (List.map ah x5.1) .shared, .slice (List.map ak x5.2.1) .shared, .slice (List.map encI x5.2.2.1) .shared, .slice (List.map aj (upd x5.2.2.2 x2 x6)) .shared] :: (.ptr 3 3 :: (.slice (List.map aj (upd x5.2.2.2 x2 x6)) .shared :: (.int .i64 x2 :: (.agg [.int .i64 p2.kind, .int .i64 p2.n, .str p2.name, .slice (List.map aj p2.kids) .shared] :: (.agg [.int .i64 x6.kind, .int .i64 x6.n, .str x6.name, .slice (List.map aj x6.kids) .shared] :: (.unk :: (.agg [.slice (List.map ah x5.1) .shared, .slice (List.map ak x5.2.1) .shared, .slice (List.map encI x5.2.2.1) .shared, .slice (List.map aj (upd x5.2.2.2 x2 x6)) .shared] :: []))))))))))))))))))))))))))))))))))))))))))))))) (h' := [.box [.slice (List.map ah p0.env.carriers) .shared, .slice (List.map ak p0.env.names) .shared, .slice (List.map encI p0.sizes) .shared, .slice (List.map aj p0.values) .shared], .box [.int .i64 p2.kind, .int .i64 p2.n, .str p2.name, .slice (List.map aj p2.kids) .shared], .box [.slice (List.map ah x5.1) .shared, .slice (List.map ak x5.2.1) .shared, .slice (List.map encI x5.2.2.1) .shared, .slice (List.map aj (upd x5.2.2.2 x2 x6)) .shared], .box [.slice (List.map ah x5.1) .shared, .slice (List.map ak x5.2.1) .shared, .slice (List.map encI x5.2.2.1) .shared, .slice (List.map aj (upd x5.2.2.2 x2 x6)) .shared]]) (wk [some 0, some 1, some 2, some 4] (.cons (.agg' (.e aA (.e aF (.e aV (.e aI .nil))))) (.c rfl (.cons (.agg' (.c rfl (.c rfl (.c rfl (.e aI .nil))))) (.c rfl (.cons (.FD .nil) (.c rfl (.c rfl (.c rfl (.c rfl (.c rfl (.cons (.agg' (.e aA (.e aF (.e aV (.e aI .nil))))) (.c rfl (.c rfl (.cons (.FD .nil) (.cons (.agg' (.e aA (.e aF (.e aV (.e aI .nil))))) (.c rfl (.c rfl (.c rfl (.c rfl (.c rfl (.cons (.FD .nil) (.c rfl (.c rfl (.cons (.agg' (.e aA (.e aF .nil))) (.c rfl (.e aV (.cons (.agg' (.c rfl (.c rfl (.c rfl (.e aI .nil))))) (.c rfl (.c rfl (.e aF (.c rfl (.cons (.same (by simp)) (.cons (.same (by simp)) (.cons (.agg' (.c rfl (.c rfl (.e aZ .nil)))) (.c rfl (.c rfl (.cons (.FD .nil) (.cons (.agg' (.e aA (.e aF (.e aV (.e aI .nil))))) (.cons (.agg' (.e aA (.e aF (.e aV (.cons (VW.Cj (by simp [upd]) (.kN aI (aP _) rfl rfl)) .nil))))) (.c rfl (.cons (VW.Cj (by simp [upd]) (.kN aI (aP _) rfl rfl)) (.c rfl (.cons (.agg' (.c rfl (.c rfl (.c rfl (.e aI .nil))))) (.cons (.agg' (.c rfl (.c rfl (.c rfl (.e aI .nil))))) (.u (.cons (.agg' (.e aA (.e aF (.e aV (.cons (VW.Cj (by simp [upd]) (.kN aI (aP _) rfl rfl)) .nil))))) .nil)))))))))))))))))))))))))))))))))))))))))))))) (.b rfl (.e aA (.e aF (.e aV (.e aI .nil)))) (.b rfl (.c rfl (.c rfl (.c rfl (.e aI .nil)))) (.b rfl (.e aA (.e aF (.e aV (.cons (VW.Cj (by simp [upd]) (.kN aI (aP _) rfl rfl)) .nil)))) (.b rfl (.e aA (.e aF (.e aV (.cons (VW.Cj (by simp [upd]) (.kN aI (aP _) rfl rfl)) .nil)))) .nil)))) rfl) ?_
 refine .ret ?_
 conv => whnf
 have e9 := sj h
 subst e9
 refine hQ _ _ _ (aG aK (fun g => by simp) ?_)
 conv => whnf
 try rfl
abbrev qab (qce : Ty → Option Ty) : Prop := ∀ (p0 : Ty) (r : Ty), qce p0 = some r → au Tryz.prog 170 [.agg [.int .i64 p0.kind, .str p0.name, .slice (List.map aC p0.kids) .shared]] [] (.agg [.int .i64 r.kind, .str r.name, .slice (List.map aC r.kids) .shared]) []
theorem Fj (n : Nat) (qce : Ty → Option Ty) (qbk : qab qce) (p0 : Ty) (r : Ty) (h : nQ n qce p0 = some r) : au Tryz.prog 170 [.agg [.int .i64 p0.kind, .str p0.name, .slice (List.map aC p0.kids) .shared]] [] (.agg [.int .i64 r.kind, .str r.name, .slice (List.map aC r.kids) .shared]) [] := by
 unfold nQ at h
 refine aB true Tryz.func170 rfl (by rw [Tryz.ntmps170]; exact Nat.le_of_ble_eq_true rfl) fun Q hQ t ht => ?_
 conv at ht => whnf
 subst ht
 refine .q fun K1 k1 => ?_
 refine rg 2 ?_
 conv => whnf
 refine k1 _ _ ?_
 refine .q fun K2 k2 => ?_
 refine rg 1 ?_
 conv => whnf
 refine k2 _ _ ?_
 refine .q fun K3 k3 => ?_
 refine .q fun K4 k4 => ?_
 refine rg 0 ?_
 conv => whnf
 refine k4 _ _ ?_
 refine .block ?_
 obtain ⟨o1, ho1, h⟩ := ob h
 have hR1 : ∀ s2 : List Ty, o1 = .nx s2 → ∀ t9 h9, Le 0 t9 h9 (u2 (.ptr 0 0 :: (.ptr 1 0 :: (u16 (u8 (.unk :: [])))))) [.box [.int .i64 0, .str ([] : Str), .slice (List.map aC ([] : List Ty)) .nils], .box [.int .i64 p0.kind, .str p0.name, .slice (List.map aC s2) (.tip 2 3)], .tip (List.length s2 * 3)] → K3 t9 h9 := by
  intro s2 ho
  subst ho
  dsimp only [LR.el] at h
  intro t9 h9 hw
  refine k3 _ _ (AW.le hw ?_)
  refine .q fun K5 k5 => ?_
  refine rg 0 ?_
  conv => whnf
  refine k5 _ _ ?_
  refine .ret ?_
  conv => whnf
  have e9 := sj h
  subst e9
  refine hQ _ _ _ (aG aK (fun g => by simp) ?_)
  conv => whnf
  try rfl
 refine .loopS (o7 n qce p0) (fun (s1 : Int × (List Ty)) => (.unk :: (.ptr 0 0 :: (.ptr 1 0 :: (.ptr 2 0 :: (.int .i64 s1.1 :: (u16 (u8 [])))))))) (fun (s1 : Int × (List Ty)) => [.box [.int .i64 p0.kind, .str p0.name, .slice (List.map aC p0.kids) .shared], .box [.int .i64 0, .str ([] : Str), .slice (List.map aC ([] : List Ty)) .nils], .box [.int .i64 p0.kind, .str p0.name, .slice (List.map aC s1.2) (.tip 3 3)], .tip (List.length s1.2 * 3)]) ho1 (fun _ => rfl) (wk [some 0, some 1, some 2, none] (.u (.c rfl (.c rfl (.c rfl (.c rfl (.u16 (.u8 .nil))))))) (.b rfl (.c rfl (.c rfl (.e aZ .nil))) (.b rfl (.c rfl (.c rfl (.c rfl .nil))) (.b rfl (.c rfl (.c rfl (.cons (.nils _ _) .nil))) (.w rfl .nil)))) rfl) ?_
 intro n1 s1 hs1 KL1 hKL1
 unfold o7 at hs1
 refine .q fun K6 k6 => ?_
 refine .q fun K7 k7 => ?_
 refine rg 0 ?_
 conv => whnf
 refine aQ (l := p0.kids) (f := aC) ?_
 conv => whnf
 refine k7 _ _ ?_
 refine .aL rfl hs1 (fun hc1 hs1 => ?_) (fun hc1 hs1 => ?_)
 ·refine .skip ?_
  conv => whnf
  refine k6 _ _ ?_
  refine .q fun K8 k8 => ?_
  refine .block ?_
  refine rg 2 ?_
  conv => whnf
  obtain ⟨x1, hx1, hs1⟩ := ob hs1
  refine aW (l := p0.kids) (f := aC) (cs := [.int .i64 ((x1).kind), .str ((x1).name), .slice (List.map aC ((x1).kids)) .shared]) hx1 (fq x1) rfl ?_
  conv => whnf
  obtain ⟨x2, hx2, hs1⟩ := ob hs1
  refine aD (qbk _ _ hx2) Xb (.cons (.same _) .nil) (fun g => by simp) (fun g => by simp) ?_
  conv => whnf
  refine ⟨List.map aC ([x2]), by simp only [List.map_cons, List.map_nil, fq]; rfl, ?_⟩
  conv => whnf
  obtain ⟨x3, hx3, hs1⟩ := ob hs1
  refine gP (l := s1.2) (ys := [x2]) (f := aC) hx3 ab8 rfl rfl rfl ?_
  conv => whnf
  refine ⟨by kernel_rfl, ?_⟩
  conv => whnf
  refine k8 _ _ ?_
  refine .know 4 0 fun hv1 => ?_
  refine .know 12 0 fun hv2 => ?_
  refine rg 0 ?_
  conv => whnf
  refine ⟨(s1.1 + 1), by have := dn hv1; have := gX hv2; have h8 := of_decide_eq_true hc1; exact bD (by omega) (by omega), ?_⟩
  conv => whnf
  exact hKL1 _ _ _ hs1 (wk [some 0, some 1, some 2, some 5] (.u (.c rfl (.c rfl (.c rfl (.c rfl (.u16 (.u8 .nil))))))) (.b rfl (.c rfl (.c rfl (.e aZ .nil))) (.b rfl (.c rfl (.c rfl (.c rfl .nil))) (.b rfl (.c rfl (.c rfl (.cons (.gB (aZ _ _) rfl) .nil))) (.t rfl .nil)))) rfl)
 refine .exit ?_
 conv => whnf
 exact hR1 _ (sj hs1).symm _ _ (wk [some 1, some 2, some 3] (.u2 (.c rfl (.c rfl (.u16 (.u8 (.u .nil)))))) (.b rfl (.c rfl (.c rfl (.c rfl .nil))) (.b rfl (.c rfl (.c rfl (.cons (.gB (aZ _ _) rfl) .nil))) (.t rfl .nil))) rfl)
theorem Mi (n : Nat) : qab (d9 n) := by
 induction n with
 | zero => exact (fun p0 r h => by unfold d9 at h; cases h)
 | succ n ih =>
  exact (fun p0 r h => Fj n _ ih p0 r (by unfold d9 at h; exact h))
theorem OE (n : Nat) : qab (d9 n) := (Mi n)
theorem Qd (n : Nat) (p0 : Env) (r : (List Carrier) × (List Decl)) (h : mQ n p0 = some r) : au Tryz.prog 111 [.agg [.slice (List.map ah p0.carriers) .shared, .slice (List.map ak p0.names) .shared]] [] (.agg [.slice (List.map ah r.1) (.tip 0 2), .slice (List.map ak r.2) (.tip 1 4)]) [.tip (List.length r.1 * 2), .tip (List.length r.2 * 4)] := by
 unfold mQ at h
 refine aB false Tryz.func111 rfl (by rw [Tryz.ntmps111]; exact Nat.le_of_ble_eq_true rfl) fun Q hQ t ht => ?_
 conv at ht => whnf
 subst ht
 refine .q fun K1 k1 => ?_
 refine rg 2 ?_
 conv => whnf
 refine k1 _ _ ?_
 refine .q fun K2 k2 => ?_
 refine rg 1 ?_
 conv => whnf
 refine k2 _ _ ?_
 refine .q fun K3 k3 => ?_
 refine .q fun K4 k4 => ?_
 refine rg 0 ?_
 conv => whnf
 refine k4 _ _ ?_
 refine .block ?_
 obtain ⟨o1, ho1, h⟩ := ob h
 have hR1 : ∀ s2 : List Carrier, o1 = .nx s2 → ∀ t9 h9, Le 0 t9 h9 (.unk :: (.ptr 0 0 :: (.ptr 1 0 :: (.ptr 2 0 :: (u32 (u16 (u4 []))))))) [.box [.slice (List.map ah p0.carriers) .shared, .slice (List.map ak p0.names) .shared], .box [.slice (List.map ah ([] : List Carrier)) .nils, .slice (List.map ak ([] : List Decl)) .nils], .box [.slice (List.map ah s2) (.tip 3 2), .slice (List.map ak ([] : List Decl)) .nils], .tip (List.length s2 * 2)] → K3 t9 h9 := by
  intro s2 ho
  subst ho
  dsimp only [LR.el] at h
  intro t9 h9 hw
  refine k3 _ _ (AW.le hw ?_)
  refine .q fun K5 k5 => ?_
  refine .q fun K6 k6 => ?_
  refine rg 0 ?_
  conv => whnf
  refine k6 _ _ ?_
  refine .block ?_
  obtain ⟨o2, ho2, h⟩ := ob h
  have hR2 : ∀ s4 : List Decl, o2 = .nx s4 → ∀ t9 h9, Le 0 t9 h9 (u2 (.ptr 0 0 :: (.ptr 1 0 :: (u32 (u16 (u4 [])))))) [.box [.slice (List.map ah ([] : List Carrier)) .nils, .slice (List.map ak ([] : List Decl)) .nils], .box [.slice (List.map ah s2) (.tip 2 2), .slice (List.map ak s4) (.tip 3 4)], .tip (List.length s2 * 2), .tip (List.length s4 * 4)] → K5 t9 h9 := by
   intro s4 ho
   subst ho
   dsimp only [LR.el] at h
   intro t9 h9 hw
   refine k5 _ _ (AW.le hw ?_)
   refine .q fun K7 k7 => ?_
   refine rg 0 ?_
   conv => whnf
   refine k7 _ _ ?_
   refine .ret ?_
   conv => whnf
   have e9 := sj h
   subst e9
   refine hQ _ _ _ (dZ (u2 (.ptr 0 0 :: (u32 (u16 (u4 (.unk :: [])))))) [.box [.slice (List.map ah s2) (.tip 1 2), .slice (List.map ak s4) (.tip 2 4)], .tip (List.length s2 * 2), .tip (List.length s4 * 4)] (wk [some 0, some 2, some 3] (.u2 (.c rfl (.u32 (.u16 (.u4 (.u .nil)))))) (.b rfl (.cons (.gB (aA _ _) rfl) (.cons (.gB (aF _ _) rfl) .nil)) (.t rfl (.t rfl .nil))) rfl) (bG aK [1, 2] rfl (.cons (rfl) (.cons (rfl) .nil)) ?_))
   conv => whnf
   first | rfl | (simp; done) | (simp; rfl) | (simp; and_intros <;> rfl)
  refine .loopS (qY n p0) (fun (s3 : Int × (List Decl)) => (.unk :: (.ptr 0 0 :: (.ptr 1 0 :: (.ptr 2 0 :: (u2 (.int .i64 s3.1 :: (u32 (u16 (.unk :: [])))))))))) (fun (s3 : Int × (List Decl)) => [.box [.slice (List.map ah p0.carriers) .shared, .slice (List.map ak p0.names) .shared], .box [.slice (List.map ah ([] : List Carrier)) .nils, .slice (List.map ak ([] : List Decl)) .nils], .box [.slice (List.map ah s2) (.tip 3 2), .slice (List.map ak s3.2) (.tip 4 4)], .tip (List.length s2 * 2), .tip (List.length s3.2 * 4)]) ho2 (fun _ => rfl) (wk [some 0, some 1, some 2, some 3, none] (.u (.c rfl (.c rfl (.c rfl (.u2 (.c rfl (.u32 (.u16 (.u .nil))))))))) (.b rfl (.e aA (.e aF .nil)) (.b rfl (.c rfl (.c rfl .nil)) (.b rfl (.cons (.gB (aA _ _) rfl) (.cons (.nils _ _) .nil)) (.t rfl (.w rfl .nil))))) rfl) ?_
  intro n2 s3 hs2 KL2 hKL2
  unfold qY at hs2
  refine .q fun K8 k8 => ?_
  refine .q fun K9 k9 => ?_
  refine rg 0 ?_
  conv => whnf
  refine aQ (l := p0.names) (f := ak) ?_
  conv => whnf
  refine k9 _ _ ?_
  refine .aL rfl hs2 (fun hc1 hs2 => ?_) (fun hc1 hs2 => ?_)
  ·refine .skip ?_
   conv => whnf
   refine k8 _ _ ?_
   refine .q fun K10 k10 => ?_
   refine .block ?_
   refine .q fun K11 k11 => ?_
   refine rg 1 ?_
   conv => whnf
   obtain ⟨x1, hx1, hs2⟩ := ob hs2
   refine aW (l := p0.names) (f := ak) (cs := [.str ((x1).name), .int .i64 (((x1).ty).kind), .str (((x1).ty).name), .slice (List.map aC (((x1).ty).kids)) .shared]) hx1 (rfl) rfl ?_
   conv => whnf
   refine k11 _ _ ?_
   refine rg 2 ?_
   conv => whnf
   obtain ⟨x2, hx2, hs2⟩ := ob hs2
   refine aD (OE _ _ _ hx2) Xb (.cons (.same _) .nil) (fun g => by simp) (fun g => by simp) ?_
   conv => whnf
   refine ⟨List.map ak ([(Decl.mk x1.name x2)]), rfl, ?_⟩
   conv => whnf
   obtain ⟨x3, hx3, hs2⟩ := ob hs2
   refine gP (l := s3.2) (ys := [(Decl.mk x1.name x2)]) (f := ak) hx3 XR rfl rfl rfl ?_
   conv => whnf
   refine ⟨by kernel_rfl, ?_⟩
   conv => whnf
   refine k10 _ _ ?_
   refine .know 6 0 fun hv1 => ?_
   refine .know 34 0 fun hv2 => ?_
   refine rg 0 ?_
   conv => whnf
   refine ⟨(s3.1 + 1), by have := dn hv1; have := gX hv2; have h8 := of_decide_eq_true hc1; exact bD (by omega) (by omega), ?_⟩
   conv => whnf
   exact hKL2 _ _ _ hs2 (wk [some 0, some 1, some 2, some 3, some 7] (.u (.c rfl (.c rfl (.c rfl (.u2 (.c rfl (.u32 (.u16 (.u .nil))))))))) (.b rfl (.e aA (.e aF .nil)) (.b rfl (.c rfl (.c rfl .nil)) (.b rfl (.cons (.gB (aA _ _) rfl) (.cons (.gB (aF _ _) rfl) .nil)) (.t rfl (.t rfl .nil))))) rfl)
  refine .exit ?_
  conv => whnf
  exact hR2 _ (sj hs2).symm _ _ (wk [some 1, some 2, some 3, some 4] (.u2 (.c rfl (.c rfl (.u32 (.u16 (.u4 .nil)))))) (.b rfl (.c rfl (.c rfl .nil)) (.b rfl (.cons (.gB (aA _ _) rfl) (.cons (.gB (aF _ _) rfl) .nil)) (.t rfl (.t rfl .nil)))) rfl)
 refine .loopS (qO n p0) (fun (s1 : Int × (List Carrier)) => (.unk :: (.ptr 0 0 :: (.ptr 1 0 :: (.ptr 2 0 :: (.int .i64 s1.1 :: (u32 (u16 (u2 (.unk :: [])))))))))) (fun (s1 : Int × (List Carrier)) => [.box [.slice (List.map ah p0.carriers) .shared, .slice (List.map ak p0.names) .shared], .box [.slice (List.map ah ([] : List Carrier)) .nils, .slice (List.map ak ([] : List Decl)) .nils], .box [.slice (List.map ah s1.2) (.tip 3 2), .slice (List.map ak ([] : List Decl)) .nils], .tip (List.length s1.2 * 2)]) ho1 (fun _ => rfl) (wk [some 0, some 1, some 2, none] (.u (.c rfl (.c rfl (.c rfl (.c rfl (.u32 (.u16 (.u2 (.u .nil))))))))) (.b rfl (.e aA (.e aF .nil)) (.b rfl (.c rfl (.c rfl .nil)) (.b rfl (.cons (.nils _ _) (.c rfl .nil)) (.w rfl .nil)))) rfl) ?_
 intro n1 s1 hs1 KL1 hKL1
 unfold qO at hs1
 refine .q fun K12 k12 => ?_
 refine .q fun K13 k13 => ?_
 refine rg 0 ?_
 conv => whnf
 refine aQ (l := p0.carriers) (f := ah) ?_
 conv => whnf
 refine k13 _ _ ?_
 refine .aL rfl hs1 (fun hc2 hs1 => ?_) (fun hc2 hs1 => ?_)
 ·refine .skip ?_
  conv => whnf
  refine k12 _ _ ?_
  refine .q fun K14 k14 => ?_
  refine .block ?_
  refine .q fun K15 k15 => ?_
  refine rg 1 ?_
  conv => whnf
  obtain ⟨x4, hx4, hs1⟩ := ob hs1
  refine aW (l := p0.carriers) (f := ah) (cs := [.str ((x4).name), .slice (List.map encS ((x4).elems)) .shared]) hx4 (rfl) rfl ?_
  conv => whnf
  refine k15 _ _ ?_
  refine rg 4 ?_
  conv => whnf
  refine ⟨List.map encS ([] : List Str), rfl, ?_⟩
  conv => whnf
  obtain ⟨x5, hx5, hs1⟩ := ob hs1
  refine gP (l := ([] : List Str)) (ys := x4.elems) (f := encS) hx5 BP rfl rfl rfl ?_
  conv => whnf
  refine ⟨List.map ah ([(Carrier.mk x4.name x5)]), rfl, ?_⟩
  conv => whnf
  obtain ⟨x6, hx6, hs1⟩ := ob hs1
  refine gP (l := s1.2) (ys := [(Carrier.mk x4.name x5)]) (f := ah) hx6 MU rfl rfl rfl ?_
  conv => whnf
  refine ⟨by kernel_rfl, ?_⟩
  conv => whnf
  refine k14 _ _ ?_
  refine .know 4 0 fun hv3 => ?_
  refine .know 10 0 fun hv4 => ?_
  refine rg 0 ?_
  conv => whnf
  refine ⟨(s1.1 + 1), by have := dn hv3; have := gX hv4; have h8 := of_decide_eq_true hc2; exact bD (by omega) (by omega), ?_⟩
  conv => whnf
  exact hKL1 _ _ _ hs1 (wk [some 0, some 1, some 2, some 8] (.u (.c rfl (.c rfl (.c rfl (.c rfl (.u32 (.u16 (.u2 (.u .nil))))))))) (.b rfl (.e aA (.e aF .nil)) (.b rfl (.c rfl (.c rfl .nil)) (.b rfl (.cons (.gB (aA _ _) rfl) (.c rfl .nil)) (.t rfl .nil)))) rfl)
 refine .exit ?_
 conv => whnf
 exact hR1 _ (sj hs1).symm _ _ (li (.u (.s (.s (.s (.u16 (.u16 (.u16 (.u4 .n)))))))))
theorem Oe (n : Nat) (p0 : List Val) (r : List Val) (h : yh n p0 = some r) : au Tryz.prog 65 [.slice (List.map aj p0) .shared] [] (.psl 0 4 (List.length r)) [.arr 4 (List.map aj r)] := by
 unfold yh at h
 refine aB false Tryz.func65 rfl (by rw [Tryz.ntmps65]; exact Nat.le_of_ble_eq_true rfl) fun Q hQ t ht => ?_
 conv at ht => whnf
 subst ht
 refine .q fun K1 k1 => ?_
 refine rg 0 ?_
 conv => whnf
 refine k1 _ _ ?_
 refine .q fun K2 k2 => ?_
 refine rg 0 ?_
 conv => whnf
 refine k2 _ _ ?_
 refine .q fun K3 k3 => ?_
 refine .q fun K4 k4 => ?_
 refine rg 0 ?_
 conv => whnf
 refine k4 _ _ ?_
 refine .block ?_
 obtain ⟨o1, ho1, h⟩ := ob h
 have hR1 : ∀ s2 : List Val, o1 = .nx s2 → ∀ t9 h9, Le 0 t9 h9 (u2 (.unk :: (.psl 0 4 (List.length s2) :: (u16 [])))) [.arr 4 (List.map aj s2)] → K3 t9 h9 := by
  intro s2 ho
  subst ho
  dsimp only [LR.el] at h
  intro t9 h9 hw
  refine k3 _ _ (AW.le hw ?_)
  refine .q fun K5 k5 => ?_
  refine rg 0 ?_
  conv => whnf
  refine k5 _ _ ?_
  refine .ret ?_
  conv => whnf
  have e9 := sj h
  subst e9
  refine hQ _ _ _ (dZ (u2 (.psl 0 4 (List.length s2) :: (u16 (.unk :: [])))) [.arr 4 (List.map aj s2)] (wk [some 0] (.u2 (.c rfl (.u16 (.u .nil)))) (.old (.arr' aI (aP _)) .nil) rfl) (bG aK [0] rfl (.cons (congrArg (AObj.arr _) (aI _ _)) .nil) ?_))
  conv => whnf
  first | rfl | (simp; done) | (simp; rfl) | (simp; and_intros <;> rfl)
 refine .loopS (ql n p0) (fun (s1 : (List Val) × Int) => (.slice (List.map aj p0) .shared :: (u2 (.psl 0 4 (List.length s1.1) :: (.int .i64 s1.2 :: (u8 (u4 (u2 (.unk :: []))))))))) (fun (s1 : (List Val) × Int) => [.arr 4 (List.map aj s1.1)]) ho1 (fun _ => rfl) (wk [none] (.e aI (.u2 (.cons (.nilP _ _) (.c rfl (.u8 (.u4 (.u2 (.u .nil)))))))) (.w rfl .nil) rfl) ?_
 intro n1 s1 hs1 KL1 hKL1
 unfold ql at hs1
 refine .q fun K6 k6 => ?_
 refine .q fun K7 k7 => ?_
 refine rg 0 ?_
 conv => whnf
 refine aQ (l := p0) (f := aj) ?_
 conv => whnf
 refine k7 _ _ ?_
 refine .aL rfl hs1 (fun hc1 hs1 => ?_) (fun hc1 hs1 => ?_)
 ·refine .skip ?_
  conv => whnf
  refine k6 _ _ ?_
  refine .q fun K8 k8 => ?_
  refine .block ?_
  refine rg 2 ?_
  conv => whnf
  obtain ⟨x1, hx1, hs1⟩ := ob hs1
  refine aW (l := p0) (f := aj) (cs := [.int .i64 ((x1).kind), .int .i64 ((x1).n), .str ((x1).name), .slice (List.map aj ((x1).kids)) .shared]) hx1 (bg x1) rfl ?_
  conv => whnf
  obtain ⟨x2, hx2, hs1⟩ := ob hs1
  refine aD (El _ _ _ hx2) MN (.cons (.same _) .nil) (fun g => by simp) (fun g => by simp) ?_
  conv => whnf
  refine ⟨List.map aj ([x2]), by simp only [List.map_cons, List.map_nil, bg]; try rfl, ?_⟩
  conv => whnf
  obtain ⟨x3, hx3, hs1⟩ := ob hs1
  refine xW (l := s1.1) (l' := s1.1) (ys := ([x2])) (f := aj) hx3 (aP _) nD ?_
  conv => whnf
  refine k8 _ _ ?_
  refine .know 4 0 fun hv1 => ?_
  refine .know 0 0 fun hv2 => ?_
  refine rg 0 ?_
  conv => whnf
  refine ⟨(s1.2 + 1), by have := dn hv1; have := gX hv2; have h8 := of_decide_eq_true hc1; exact bD (by omega) (by omega), ?_⟩
  conv => whnf
  exact hKL1 _ _ _ hs1 (wk [some 2] (.e aI (.u2 (.c rfl (.c rfl (.u8 (.u4 (.u2 (.u .nil)))))))) (.old (.arr' aI (aP _)) .nil) rfl)
 refine .exit ?_
 conv => whnf
 exact hR1 _ (sj hs1).symm _ _ (wk [some 0] (.u2 (.u (.c rfl (.u16 .nil)))) (.old (.arr' aI (aP _)) .nil) rfl)
theorem IW (n : Nat) (p0 : S_api_World) (r : (List Carrier) × (List Decl) × (List Int) × (List Val)) (h : pV n p0 = some r) : au Tryz.prog 56 [.agg [.slice (List.map ah p0.env.carriers) .shared, .slice (List.map ak p0.env.names) .shared, .slice (List.map encI p0.sizes) .shared, .slice (List.map aj p0.values) .shared]] [] (.agg [.slice (List.map ah r.1) (.tip 0 2), .slice (List.map ak r.2.1) (.tip 1 4), .slice (List.map encI r.2.2.1) (.tip 2 1), .psl 3 4 (List.length r.2.2.2)]) [.tip (List.length r.1 * 2), .tip (List.length r.2.1 * 4), .tip (List.length r.2.2.1 * 1), .arr 4 (List.map aj r.2.2.2)] := by
 unfold pV at h
 refine aB false Tryz.func56 rfl (by rw [Tryz.ntmps56]; exact Nat.le_of_ble_eq_true rfl) fun Q hQ t ht => ?_
 conv at ht => whnf
 subst ht
 refine .q fun K1 k1 => ?_
 refine rg 2 ?_
 conv => whnf
 refine k1 _ _ ?_
 refine .q fun K2 k2 => ?_
 refine rg 5 ?_
 conv => whnf
 obtain ⟨x1, hx1, h⟩ := ob h
 refine bH [] [2, 3] [.agg [.slice (List.map ah p0.env.carriers) .shared, .slice (List.map ak p0.env.names) .shared]] [.agg [.slice (List.map ah p0.env.carriers) .shared, .slice (List.map ak p0.env.names) .shared]] (Qd _ _ _ hx1) adJ rfl .nil (by simp; try decide) (.cons (.same _) .nil) (rn := .agg [.slice (List.map ah x1.1) (.tip 2 2), .slice (List.map ak x1.2) (.tip 3 4)]) (by simp; try decide) (Hn := [.tip (List.length x1.1 * 2), .tip (List.length x1.2 * 4)]) ((bS (rfl) (bS (rfl) rfl))) ?_
 conv => whnf
 refine ⟨List.map encI ([] : List Int), rfl, ?_⟩
 conv => whnf
 obtain ⟨x2, hx2, h⟩ := ob h
 refine gP (l := ([] : List Int)) (ys := p0.sizes) (f := encI) hx2 afh rfl rfl rfl ?_
 conv => whnf
 obtain ⟨x3, hx3, h⟩ := ob h
 refine bH [] [6] [.slice (List.map aj p0.values) .shared] [.slice (List.map aj p0.values) .shared] (Oe _ _ _ hx3) TK rfl .nil (by simp; try decide) (.cons (.same _) .nil) (rn := .psl 6 4 (List.length x3)) (by simp; try decide) (Hn := [.arr 4 (List.map aj x3)]) ((bS (congrArg (AObj.arr _) (aI _ _)) rfl)) ?_
 conv => whnf
 refine ⟨by kernel_rfl, ?_⟩
 conv => whnf
 refine k2 _ _ ?_
 refine .ret ?_
 conv => whnf
 have e9 := sj h
 subst e9
 refine hQ _ _ _ (dZ (u2 (.ptr 0 0 :: (u8 (u2 (.unk :: []))))) [.box [.slice (List.map ah x1.1) (.tip 1 2), .slice (List.map ak x1.2) (.tip 2 4), .slice (List.map encI x2) (.tip 3 1), .psl 4 4 (List.length x3)], .tip (List.length x1.1 * 2), .tip (List.length x1.2 * 4), .tip (List.length x2 * 1), .arr 4 (List.map aj x3)] (wk [some 1, some 2, some 3, some 5, some 6] (.u2 (.c rfl (.u8 (.u2 (.u .nil))))) (.b rfl (.cons (.gB (aA _ _) rfl) (.cons (.gB (aF _ _) rfl) (.cons (.gB (aV _ _) rfl) (.c rfl .nil)))) (.t rfl (.t rfl (.t rfl (.old (.arr' aI (aP _)) .nil))))) rfl) (bG aK [1, 2, 3, 4] rfl (.cons (rfl) (.cons (rfl) (.cons (rfl) (.cons (congrArg (AObj.arr _) (aI _ _)) .nil)))) ?_))
 conv => whnf
 first | rfl | (simp; done) | (simp; rfl) | (simp; and_intros <;> rfl)
theorem aar (n : Nat) (p0 : S_api_World) (p1 : Str) (p2 : Val) (r : S_api_World × Int) (h : GD n p0 p1 p2 = some r) : au Tryz.prog 20 [.agg [.slice (List.map ah p0.env.carriers) .shared, .slice (List.map ak p0.env.names) .shared, .slice (List.map encI p0.sizes) .shared, .slice (List.map aj p0.values) .shared], .str p1, .agg [.int .i64 p2.kind, .int .i64 p2.n, .str p2.name, .slice (List.map aj p2.kids) .shared]] [] (.tup [.agg [.slice (List.map ah r.1.env.carriers) .shared, .slice (List.map ak r.1.env.names) .shared, .slice (List.map encI r.1.sizes) .shared, .slice (List.map aj r.1.values) .shared], .int .i64 r.2]) [] := by
 unfold GD at h
 refine aB true Tryz.func20 rfl (by rw [Tryz.ntmps20]; exact Nat.le_of_ble_eq_true rfl) fun Q hQ t ht => ?_
 conv at ht => whnf
 subst ht
 refine .q fun K1 k1 => ?_
 refine rg 3 ?_
 conv => whnf
 refine k1 _ _ ?_
 refine .q fun K2 k2 => ?_
 refine .q fun K3 k3 => ?_
 refine rg 0 ?_
 conv => whnf
 obtain ⟨x1, hx1, h⟩ := ob h
 refine aD (vv _ _ _ hx1) U1 (.cons (.same _) .nil) (fun g => by simp) (fun g => rfl) ?_
 conv => whnf
 refine k3 _ _ ?_
 refine .aL rfl h (fun hc1 h => ?_) (fun hc1 h => ?_)
 ·refine .q fun K4 k4 => ?_
  refine rg 0 ?_
  conv => whnf
  refine k4 _ _ ?_
  refine .ret ?_
  conv => whnf
  have e9 := sj h
  subst e9
  refine hQ _ _ _ (aG aK (fun g => by simp) ?_)
  conv => whnf
  try rfl
 refine .skip ?_
 conv => whnf
 refine k2 _ _ ?_
 refine .q fun K5 k5 => ?_
 refine rg 0 ?_
 conv => whnf
 obtain ⟨x2, hx2, h⟩ := ob h
 refine aD (CQ _ _ _ _ hx2) Zq (.cons (.same _) (.cons (.same _) .nil)) (fun g => by simp) (fun g => rfl) ?_
 conv => whnf
 refine k5 _ _ ?_
 refine .q fun K6 k6 => ?_
 refine .q fun K7 k7 => ?_
 refine rg 0 ?_
 conv => whnf
 refine k7 _ _ ?_
 refine .aL rfl h (fun hc2 h => ?_) (fun hc2 h => ?_)
 ·refine .q fun K8 k8 => ?_
  refine rg 0 ?_
  conv => whnf
  refine k8 _ _ ?_
  refine .ret ?_
  conv => whnf
  have e9 := sj h
  subst e9
  refine hQ _ _ _ (aG aK (fun g => by simp) ?_)
  conv => whnf
  try rfl
 refine .skip ?_
 conv => whnf
 refine k6 _ _ ?_
 refine .q fun K9 k9 => ?_
 refine .q fun K10 k10 => ?_
 refine rg 0 ?_
 conv => whnf
 obtain ⟨x3, hx3, h⟩ := ob h
 refine aW (l := p0.env.names) (f := ak) (cs := [.str ((x3).name), .int .i64 (((x3).ty).kind), .str (((x3).ty).name), .slice (List.map aC (((x3).ty).kids)) .shared]) hx3 (rfl) rfl ?_
 conv => whnf
 obtain ⟨x4, hx4, h⟩ := ob h
 refine aD (F5 _ _ _ _ _ _ hx4) Cu (.cons (.same _) (.cons (.same _) (.cons (.same _) (.cons (.same _) .nil)))) (fun g => by simp) (fun g => rfl) ?_
 conv => whnf
 refine ⟨by kernel_rfl, ?_⟩
 conv => whnf
 refine k10 _ _ ?_
 refine .aL rfl h (fun hc3 h => ?_) (fun hc3 h => ?_)
 ·refine .q fun K11 k11 => ?_
  refine rg 0 ?_
  conv => whnf
  refine k11 _ _ ?_
  refine .ret ?_
  conv => whnf
  have e9 := sj h
  subst e9
  refine hQ _ _ _ (aG aK (fun g => by simp) ?_)
  conv => whnf
  try rfl
 refine .skip ?_
 conv => whnf
 refine k9 _ _ ?_
 refine .q fun K12 k12 => ?_
 refine rg 5 ?_
 conv => whnf
 obtain ⟨x5, hx5, h⟩ := ob h
 refine bH [] [3, 4, 5, 6] [.agg [.slice (List.map ah p0.env.carriers) .shared, .slice (List.map ak p0.env.names) .shared, .slice (List.map encI p0.sizes) .shared, .slice (List.map aj p0.values) .shared]] [.agg [.slice (List.map ah p0.env.carriers) .shared, .slice (List.map ak p0.env.names) .shared, .slice (List.map encI p0.sizes) .shared, .slice (List.map aj p0.values) .shared]] (IW _ _ _ hx5) afa rfl .nil (by simp; try decide) (.cons (.same _) .nil) (rn := .agg [.slice (List.map ah x5.1) (.tip 3 2), .slice (List.map ak x5.2.1) (.tip 4 4), .slice (List.map encI x5.2.2.1) (.tip 5 1), .psl 6 4 (List.length x5.2.2.2)]) (by simp; try decide) (Hn := [.tip (List.length x5.1 * 2), .tip (List.length x5.2.1 * 4), .tip (List.length x5.2.2.1 * 1), .arr 4 (List.map aj x5.2.2.2)]) ((bS (rfl) (bS (rfl) (bS (rfl) (bS (congrArg (AObj.arr _) (aI _ _)) rfl))))) ?_
 conv => whnf
 refine k12 _ _ ?_
 refine .q fun K13 k13 => ?_
 refine rg 0 ?_
 conv => whnf
 obtain ⟨x6, hx6, h⟩ := ob h
 refine aD (El _ _ _ hx6) MN (.cons (.same _) .nil) (fun g => by simp) (fun g => by simp) ?_
 conv => whnf
 obtain ⟨x7, hx7, h⟩ := ob h
 refine Jj (l := x5.2.2.2) (l0 := x5.2.2.2) hx7 (by simp [upd]) ?_
 conv => whnf
 refine stp (l := x5.2.2.2) (f := aj) (v := x6) hx7 ((bg _).symm) (by decide) ?_
 conv => whnf
 refine ⟨by kernel_rfl, ?_⟩
 conv => whnf
 refine k13 _ _ ?_
 refine .q fun K14 k14 => ?_
 refine rg 0 ?_
 conv => whnf
 refine k14 _ _ ?_
 refine .le (t' := (.agg [.slice (List.map ah p0.env.carriers) .shared, .slice (List.map ak p0.env.names) .shared, .slice (List.map encI p0.sizes) .shared, .slice (List.map aj p0.values) .shared] :: (.str p1 :: (.agg [.int .i64 p2.kind, .int .i64 p2.n, .str p2.name, .slice (List.map aj p2.kids) .shared] :: (.ptr 0 0 :: (.tup [] :: (.ptr 1 0 :: (.ptr 2 0 :: (.int .i64 0 :: (.int .i64 x2 :: (.ptr 6 0 :: (.agg [.slice (List.map ah p0.env.carriers) .shared, .slice (List.map ak p0.env.names) .shared, .slice (List.map encI p0.sizes) .shared, .slice (List.map aj p0.values) .shared] :: (.bool x1 :: (.bool (!x1) :: (.tup [] :: (.ptr 0 0 :: (.agg [.slice (List.map ah p0.env.carriers) .shared, .slice (List.map ak p0.env.names) .shared] :: (.str p1 :: (.int .i64 x2 :: (.int .i64 x2 :: (.bool (decide (x2 < 0)) :: (.tup [] :: (.ptr 0 0 :: (.agg [.slice (List.map ah p0.env.carriers) .shared, .slice (List.map ak p0.env.names) .shared] :: (.ptr 0 2 :: (.slice (List.map encI p0.sizes) .shared :: (.agg [.int .i64 p2.kind, .int .i64 p2.n, .str p2.name, .slice (List.map aj p2.kids) .shared] :: (.ptr 0 0 :: (.ptr 0 1 :: (.slice (List.map ak p0.env.names) .shared :: (.int .i64 x2 :: (.eptr [.str x3.name, .int .i64 x3.ty.kind, .str x3.ty.name, .slice (List.map aC x3.ty.kids) .shared] :: (.eptr [.int .i64 x3.ty.kind, .str x3.ty.name, .slice (List.map aC x3.ty.kids) .shared] :: (.agg [.int .i64 x3.ty.kind, .str x3.ty.name, .slice (List.map aC x3.ty.kids) .shared] :: (.bool x4 :: (.bool (!x4) :: (.tup [] :: (.agg [.slice (List.map ah p0.env.carriers) .shared, .slice (List.map ak p0.env.names) .shared, .slice (List.map encI p0.sizes) .shared, .slice (List.map aj p0.values) .shared] :: (.agg [.slice (List.map ah x5.1) (.tip 3 2), .slice (List.map ak x5.2.1) (.tip 4 4), .slice (List.map encI x5.2.2.1) (.tip 5 1), .slice (List.map aj (upd x5.2.2.2 x2 x6)) .shared] :: (.ptr 6 3 :: (.slice (List.map aj (upd x5.2.2.2 x2 x6)) .shared :: (.int .i64 x2 :: (.agg [.int .i64 p2.kind, .int .i64 p2.n, .str p2.name, .slice (List.map aj p2.kids) .shared] :: (.agg [.int .i64 x6.kind, .int .i64 x6.n, .str x6.name, .slice (List.map aj x6.kids) .shared] :: (.unk :: (.agg [.slice (List.map ah x5.1) (.tip 3 2), .slice (List.map ak x5.2.1) (.tip 4 4), .slice (List.map encI x5.2.2.1) (.tip 5 1), .slice (List.map aj (upd x5.2.2.2 x2 x6)) .shared] :: [])))))))))))))))))))))))))))))))))))))))))))))) (h' := [.box [.slice (List.map ah p0.env.carriers) .shared, .slice (List.map ak p0.env.names) .shared, .slice (List.map encI p0.sizes) .shared, .slice (List.map aj p0.values) .shared], .box [.int .i64 p2.kind, .int .i64 p2.n, .str p2.name, .slice (List.map aj p2.kids) .shared], .box [.slice (List.map ah x5.1) (.tip 3 2), .slice (List.map ak x5.2.1) (.tip 4 4), .slice (List.map encI x5.2.2.1) (.tip 5 1), .slice (List.map aj (upd x5.2.2.2 x2 x6)) .shared], .tip (List.length x5.1 * 2), .tip (List.length x5.2.1 * 4), .tip (List.length x5.2.2.1 * 1), .box [.slice (List.map ah x5.1) (.tip 3 2), .slice (List.map ak x5.2.1) (.tip 4 4), .slice (List.map encI x5.2.2.1) (.tip 5 1), .slice (List.map aj (upd x5.2.2.2 x2 x6)) .shared]]) (wk [some 0, some 1, some 2, some 3, some 4, some 5, some 7] (.cons (.agg' (.e aA (.e aF (.e aV (.e aI .nil))))) (.c rfl (.cons (.agg' (.c rfl (.c rfl (.c rfl (.e aI .nil))))) (.c rfl (.cons (.FD .nil) (.c rfl (.c rfl (.c rfl (.c rfl (.c rfl (.cons (.agg' (.e aA (.e aF (.e aV (.e aI .nil))))) (.c rfl (.c rfl (.cons (.FD .nil) (.c rfl (.cons (.agg' (.e aA (.e aF .nil))) (.c rfl (.c rfl (.c rfl (.c rfl (.cons (.FD .nil) (.c rfl (.cons (.agg' (.e aA (.e aF .nil))) (.c rfl (.e aV (.cons (.agg' (.c rfl (.c rfl (.c rfl (.e aI .nil))))) (.c rfl (.c rfl (.e aF (.c rfl (.cons (.same (by simp)) (.cons (.same (by simp)) (.cons (.agg' (.c rfl (.c rfl (.e aZ .nil)))) (.c rfl (.c rfl (.cons (.FD .nil) (.cons (.agg' (.e aA (.e aF (.e aV (.e aI .nil))))) (.cons (.agg' (.cons (.gB (aA _ _) rfl) (.cons (.gB (aF _ _) rfl) (.cons (.gB (aV _ _) rfl) (.cons (VW.Cj (by simp [upd]) (.kN aI (aP _) rfl rfl)) .nil))))) (.c rfl (.cons (VW.Cj (by simp [upd]) (.kN aI (aP _) rfl rfl)) (.c rfl (.cons (.agg' (.c rfl (.c rfl (.c rfl (.e aI .nil))))) (.cons (.agg' (.c rfl (.c rfl (.c rfl (.e aI .nil))))) (.u (.cons (.agg' (.cons (.gB (aA _ _) rfl) (.cons (.gB (aF _ _) rfl) (.cons (.gB (aV _ _) rfl) (.cons (VW.Cj (by simp [upd]) (.kN aI (aP _) rfl rfl)) .nil))))) .nil))))))))))))))))))))))))))))))))))))))))))))) (.b rfl (.e aA (.e aF (.e aV (.e aI .nil)))) (.b rfl (.c rfl (.c rfl (.c rfl (.e aI .nil)))) (.b rfl (.cons (.gB (aA _ _) rfl) (.cons (.gB (aF _ _) rfl) (.cons (.gB (aV _ _) rfl) (.cons (VW.Cj (by simp [upd]) (.kN aI (aP _) rfl rfl)) .nil)))) (.t rfl (.t rfl (.t rfl (.b rfl (.cons (.gB (aA _ _) rfl) (.cons (.gB (aF _ _) rfl) (.cons (.gB (aV _ _) rfl) (.cons (VW.Cj (by simp [upd]) (.kN aI (aP _) rfl rfl)) .nil)))) .nil))))))) rfl) ?_
 refine .ret ?_
 conv => whnf
 have e9 := sj h
 subst e9
 refine hQ _ _ _ (aG aK (fun g => by simp) ?_)
 conv => whnf
 try rfl
theorem YS (n : Nat) (p0 : List Str) (p1 : List Str) (r : Bool) (h : vN n p0 p1 = some r) : au Tryz.prog 171 [.slice (List.map encS p0) .shared, .slice (List.map encS p1) .shared] [] (.bool r) [] := by
 unfold vN at h
 refine aB true Tryz.func171 rfl (by rw [Tryz.ntmps171]; exact Nat.le_of_ble_eq_true rfl) fun Q hQ t ht => ?_
 conv at ht => whnf
 subst ht
 refine .q fun K1 k1 => ?_
 refine rg 0 ?_
 conv => whnf
 refine k1 _ _ ?_
 refine .q fun K2 k2 => ?_
 refine .q fun K3 k3 => ?_
 refine rg 0 ?_
 conv => whnf
 refine aQ (l := p0) (f := encS) ?_
 conv => whnf
 refine aQ (l := p1) (f := encS) ?_
 conv => whnf
 refine k3 _ _ ?_
 refine .aL rfl h (fun hc1 h => ?_) (fun hc1 h => ?_)
 ·refine .q fun K4 k4 => ?_
  refine rg 0 ?_
  conv => whnf
  refine k4 _ _ ?_
  refine .ret ?_
  conv => whnf
  have e9 := sj h
  subst e9
  refine hQ _ _ _ (aG aK (fun g => rfl) ?_)
  conv => whnf
 refine .skip ?_
 conv => whnf
 refine k2 _ _ ?_
 refine .q fun K5 k5 => ?_
 refine .q fun K6 k6 => ?_
 refine rg 0 ?_
 conv => whnf
 refine k6 _ _ ?_
 refine .block ?_
 obtain ⟨o1, ho1, h⟩ := ob h
 have hR1 : ∀ s2 : Unit, o1 = .nx s2 → ∀ t9 h9, Le 0 t9 h9 (u16 (u8 (u2 []))) [] → K5 t9 h9 := by
  intro s2 ho
  subst ho
  dsimp only [LR.el] at h
  intro t9 h9 hw
  refine k5 _ _ (AW.le hw ?_)
  refine .q fun K7 k7 => ?_
  refine rg 0 ?_
  conv => whnf
  refine k7 _ _ ?_
  refine .ret ?_
  conv => whnf
  have e9 := sj h
  subst e9
  refine hQ _ _ _ (aG aK (fun g => rfl) ?_)
  conv => whnf
 refine .loopS (tQ n p0 p1) (fun (s1 : Int) => (.slice (List.map encS p0) .shared :: (.slice (List.map encS p1) .shared :: (u2 (.unk :: (.int .i64 s1 :: (u16 (u4 [])))))))) (fun (s1 : Int) => []) ho1 (fun _ => rfl) (li (.s (.s (.u2 (.u (.s (.u16 (.u4 .n)))))))) ?_
 intro n1 s1 hs1 KL1 hKL1
 unfold tQ at hs1
 refine .q fun K8 k8 => ?_
 refine .q fun K9 k9 => ?_
 refine rg 0 ?_
 conv => whnf
 refine aQ (l := p0) (f := encS) ?_
 conv => whnf
 refine k9 _ _ ?_
 refine .aL rfl hs1 (fun hc2 hs1 => ?_) (fun hc2 hs1 => ?_)
 ·refine .skip ?_
  conv => whnf
  refine k8 _ _ ?_
  refine .q fun K10 k10 => ?_
  refine .block ?_
  refine .q fun K11 k11 => ?_
  refine rg 0 ?_
  conv => whnf
  obtain ⟨x1, hx1, hs1⟩ := ob hs1
  refine aW (l := p0) (f := encS) (cs := [.str (x1)]) hx1 (rfl) rfl ?_
  conv => whnf
  obtain ⟨x2, hx2, hs1⟩ := ob hs1
  refine aW (l := p1) (f := encS) (cs := [.str (x2)]) hx2 (rfl) rfl ?_
  conv => whnf
  refine ⟨by kernel_rfl, ?_⟩
  conv => whnf
  refine k11 _ _ ?_
  refine .aL rfl hs1 (fun hc3 hs1 => ?_) (fun hc3 hs1 => ?_)
  ·refine .q fun K12 k12 => ?_
   refine rg 0 ?_
   conv => whnf
   refine k12 _ _ ?_
   refine .ret ?_
   conv => whnf
   have e9 := sj hs1
   subst e9
   dsimp only [LR.el] at h
   have e9 := sj h
   subst e9
   refine hQ _ _ _ (aG aK (fun g => rfl) ?_)
   conv => whnf
  refine .skip ?_
  conv => whnf
  refine k10 _ _ ?_
  refine .know 5 0 fun hv1 => ?_
  refine .know 0 0 fun hv2 => ?_
  refine rg 0 ?_
  conv => whnf
  refine ⟨(s1 + 1), by have := dn hv1; have := gX hv2; have h8 := of_decide_eq_true hc2; exact bD (by omega) (by omega), ?_⟩
  conv => whnf
  exact hKL1 _ _ _ hs1 (li (.s (.s (.u2 (.u (.s (.u16 (.u4 .n))))))))
 refine .exit ?_
 conv => whnf
 exact hR1 _ (sj hs1).symm _ _ (li (.u16 (.u8 (.u2 .n))))
theorem IC (n : Nat) (p0 : Carrier) (p1 : Carrier) (r : Bool) (h : jH n p0 p1 = some r) : au Tryz.prog 112 [.agg [.str p0.name, .slice (List.map encS p0.elems) .shared], .agg [.str p1.name, .slice (List.map encS p1.elems) .shared]] [] (.bool r) [] := by
 unfold jH at h
 refine aB true Tryz.func112 rfl (by rw [Tryz.ntmps112]; exact Nat.le_of_ble_eq_true rfl) fun Q hQ t ht => ?_
 conv at ht => whnf
 subst ht
 refine .q fun K1 k1 => ?_
 refine rg 2 ?_
 conv => whnf
 refine k1 _ _ ?_
 refine .q fun K2 k2 => ?_
 obtain ⟨s1, hj1, h⟩ := ob h
 have hR1 : ∀ t9 h9, Le 0 t9 h9 (u4 (.bool s1 :: (u8 (u4 [])))) [] → K2 t9 h9 := by
  intro t9 h9 hw
  refine k2 _ _ (AW.le hw ?_)
  clear hw
  refine .ret ?_
  conv => whnf
  have e9 := sj h
  subst e9
  refine hQ _ _ _ (aG aK (fun g => rfl) ?_)
  conv => whnf
 refine rg 0 ?_
 conv => whnf
 refine aH hj1 (fun hc1 hj1 => ?_) (fun hc1 hj1 => ?_)
 ·conv => whnf
  obtain ⟨x1, hx1, hj1⟩ := ob hj1
  refine aD (YS _ _ _ _ hx1) ady (.cons (.same _) (.cons (.same _) .nil)) (fun g => by simp) (fun g => rfl) ?_
  conv => whnf
  cases hj1
  exact hR1 _ _ (wk [] (.u4 (.c rfl (.u8 (.u4 .nil)))) .nil rfl)
 conv => whnf
 cases hj1
 exact hR1 _ _ (wk [] (.u4 (.c rfl (.u8 (.u4 .nil)))) .nil rfl)
abbrev qag (qci : Ty → Ty → Option Bool) : Prop := ∀ (p0 : Ty) (p1 : Ty) (r : Bool), qci p0 p1 = some r → au Tryz.prog 113 [.agg [.int .i64 p0.kind, .str p0.name, .slice (List.map aC p0.kids) .shared], .agg [.int .i64 p1.kind, .str p1.name, .slice (List.map aC p1.kids) .shared]] [] (.bool r) []
theorem Fw (n : Nat) (qci : Ty → Ty → Option Bool) (qbl : qag qci) (p0 : Ty) (p1 : Ty) (r : Bool) (h : jr n qci p0 p1 = some r) : au Tryz.prog 113 [.agg [.int .i64 p0.kind, .str p0.name, .slice (List.map aC p0.kids) .shared], .agg [.int .i64 p1.kind, .str p1.name, .slice (List.map aC p1.kids) .shared]] [] (.bool r) [] := by
 unfold jr at h
 refine aB true Tryz.func113 rfl (by rw [Tryz.ntmps113]; exact Nat.le_of_ble_eq_true rfl) fun Q hQ t ht => ?_
 conv at ht => whnf
 subst ht
 refine .q fun K1 k1 => ?_
 refine rg 2 ?_
 conv => whnf
 refine k1 _ _ ?_
 refine .q fun K2 k2 => ?_
 refine .q fun K3 k3 => ?_
 obtain ⟨s1, hj1, h⟩ := ob h
 have hR1 : ∀ t9 h9, Le 0 t9 h9 (u2 (.ptr 0 0 :: (.ptr 1 0 :: (u16 (u4 (u2 (.bool s1 :: (u16 (u2 (.unk :: [])))))))))) [.box [.int .i64 p0.kind, .str p0.name, .slice (List.map aC p0.kids) .shared], .box [.int .i64 p1.kind, .str p1.name, .slice (List.map aC p1.kids) .shared]] → K3 t9 h9 := by
  intro t9 h9 hw
  refine k3 _ _ (AW.le hw ?_)
  clear hw
  refine .aL rfl h (fun hc1 h => ?_) (fun hc1 h => ?_)
  ·refine .q fun K4 k4 => ?_
   refine rg 0 ?_
   conv => whnf
   refine k4 _ _ ?_
   refine .ret ?_
   conv => whnf
   have e9 := sj h
   subst e9
   refine hQ _ _ _ (aG aK (fun g => rfl) ?_)
   conv => whnf
  refine .skip ?_
  conv => whnf
  refine k2 _ _ ?_
  refine .q fun K5 k5 => ?_
  refine .q fun K6 k6 => ?_
  refine rg 0 ?_
  conv => whnf
  refine k6 _ _ ?_
  refine .block ?_
  obtain ⟨o1, ho1, h⟩ := ob h
  have hR2 : ∀ s3 : Unit, o1 = .nx s3 → ∀ t9 h9, Le 0 t9 h9 (u32 (u8 (u4 (u2 [])))) [] → K5 t9 h9 := by
   intro s3 ho
   subst ho
   dsimp only [LR.el] at h
   intro t9 h9 hw
   refine k5 _ _ (AW.le hw ?_)
   refine .q fun K7 k7 => ?_
   refine rg 0 ?_
   conv => whnf
   refine k7 _ _ ?_
   refine .ret ?_
   conv => whnf
   have e9 := sj h
   subst e9
   refine hQ _ _ _ (aG aK (fun g => rfl) ?_)
   conv => whnf
  refine .loopS (nA n qci p0 p1) (fun (s2 : Int) => (u2 (.ptr 0 0 :: (.ptr 1 0 :: (.unk :: (.int .i64 s2 :: (u32 (u8 [])))))))) (fun (s2 : Int) => [.box [.int .i64 p0.kind, .str p0.name, .slice (List.map aC p0.kids) .shared], .box [.int .i64 p1.kind, .str p1.name, .slice (List.map aC p1.kids) .shared]]) ho1 (fun _ => rfl) (li (.u2 (.s (.s (.u (.s (.u16 (.u16 (.u8 .n))))))))) ?_
  intro n1 s2 hs1 KL1 hKL1
  unfold nA at hs1
  refine .q fun K8 k8 => ?_
  refine .q fun K9 k9 => ?_
  refine rg 0 ?_
  conv => whnf
  refine aQ (l := p0.kids) (f := aC) ?_
  conv => whnf
  refine k9 _ _ ?_
  refine .aL rfl hs1 (fun hc2 hs1 => ?_) (fun hc2 hs1 => ?_)
  ·refine .skip ?_
   conv => whnf
   refine k8 _ _ ?_
   refine .q fun K10 k10 => ?_
   refine .block ?_
   refine .q fun K11 k11 => ?_
   refine rg 0 ?_
   conv => whnf
   obtain ⟨x1, hx1, hs1⟩ := ob hs1
   refine aW (l := p0.kids) (f := aC) (cs := [.int .i64 ((x1).kind), .str ((x1).name), .slice (List.map aC ((x1).kids)) .shared]) hx1 (fq x1) rfl ?_
   conv => whnf
   obtain ⟨x2, hx2, hs1⟩ := ob hs1
   refine aW (l := p1.kids) (f := aC) (cs := [.int .i64 ((x2).kind), .str ((x2).name), .slice (List.map aC ((x2).kids)) .shared]) hx2 (fq x2) rfl ?_
   conv => whnf
   obtain ⟨x3, hx3, hs1⟩ := ob hs1
   refine aD (qbl _ _ _ hx3) XE (.cons (.same _) (.cons (.same _) .nil)) (fun g => by simp) (fun g => rfl) ?_
   conv => whnf
   refine ⟨by kernel_rfl, ?_⟩
   conv => whnf
   refine k11 _ _ ?_
   refine .aL rfl hs1 (fun hc3 hs1 => ?_) (fun hc3 hs1 => ?_)
   ·refine .q fun K12 k12 => ?_
    refine rg 0 ?_
    conv => whnf
    refine k12 _ _ ?_
    refine .ret ?_
    conv => whnf
    have e9 := sj hs1
    subst e9
    dsimp only [LR.el] at h
    have e9 := sj h
    subst e9
    refine hQ _ _ _ (aG aK (fun g => rfl) ?_)
    conv => whnf
   refine .skip ?_
   conv => whnf
   refine k10 _ _ ?_
   refine .know 5 0 fun hv1 => ?_
   refine .know 29 0 fun hv2 => ?_
   refine rg 0 ?_
   conv => whnf
   refine ⟨(s2 + 1), by have := dn hv1; have := gX hv2; have h8 := of_decide_eq_true hc2; exact bD (by omega) (by omega), ?_⟩
   conv => whnf
   exact hKL1 _ _ _ hs1 (li (.u2 (.s (.s (.u (.s (.u16 (.u16 (.u8 .n)))))))))
  refine .exit ?_
  conv => whnf
  exact hR2 _ (sj hs1).symm _ _ (wk [] (.u32 (.u8 (.u4 (.u2 .nil)))) .nil rfl)
 refine rg 0 ?_
 conv => whnf
 refine aH hj1 (fun hc4 hj1 => ?_) (fun hc4 hj1 => ?_)
 ·conv => whnf
  cases hj1
  exact hR1 _ _ (li (.u2 (.s (.s (.u16 (.u4 (.u2 (.s (.u16 (.u2 (.u .n)))))))))))
 conv => whnf
 refine aH hj1 (fun hc5 hj1 => ?_) (fun hc5 hj1 => ?_)
 ·conv => whnf
  cases hj1
  exact hR1 _ _ (li (.u2 (.s (.s (.u16 (.u4 (.u2 (.s (.u16 (.u2 (.u .n)))))))))))
 conv => whnf
 refine aQ (l := p0.kids) (f := aC) ?_
 conv => whnf
 refine aQ (l := p1.kids) (f := aC) ?_
 conv => whnf
 cases hj1
 exact hR1 _ _ (li (.u2 (.s (.s (.u16 (.u4 (.u2 (.s (.u16 (.u2 (.u .n)))))))))))
theorem Mv (n : Nat) : qag (bf n) := by
 induction n with
 | zero => exact (fun p0 p1 r h => by unfold bf at h; cases h)
 | succ n ih =>
  exact (fun p0 p1 r h => Fw n _ ih p0 p1 r (by unfold bf at h; exact h))
theorem Ox (n : Nat) : qag (bf n) := (Mv n)
abbrev qbb (qdj : Val → Val → Option Bool) : Prop := ∀ (p0 : Val) (p1 : Val) (r : Bool), qdj p0 p1 = some r → au Tryz.prog 21 [.agg [.int .i64 p0.kind, .int .i64 p0.n, .str p0.name, .slice (List.map aj p0.kids) .shared], .agg [.int .i64 p1.kind, .int .i64 p1.n, .str p1.name, .slice (List.map aj p1.kids) .shared]] [] (.bool r) []
abbrev qbc (qdk : (List Val) → (List Val) → Option Bool) : Prop := ∀ (p0 : List Val) (p1 : List Val) (r : Bool), qdk p0 p1 = some r → au Tryz.prog 36 [.slice (List.map aj p0) .shared, .slice (List.map aj p1) .shared] [] (.bool r) []
theorem Ea (n : Nat) (qdj : Val → Val → Option Bool) (qdk : (List Val) → (List Val) → Option Bool) (qbs : qbb qdj) (qbt : qbc qdk) (p0 : Val) (p1 : Val) (r : Bool) (h : mq n qdj qdk p0 p1 = some r) : au Tryz.prog 21 [.agg [.int .i64 p0.kind, .int .i64 p0.n, .str p0.name, .slice (List.map aj p0.kids) .shared], .agg [.int .i64 p1.kind, .int .i64 p1.n, .str p1.name, .slice (List.map aj p1.kids) .shared]] [] (.bool r) [] := by
 unfold mq at h
 refine aB true Tryz.func21 rfl (by rw [Tryz.ntmps21]; exact Nat.le_of_ble_eq_true rfl) fun Q hQ t ht => ?_
 conv at ht => whnf
 subst ht
 refine .q fun K1 k1 => ?_
 refine rg 2 ?_
 conv => whnf
 refine k1 _ _ ?_
 refine .q fun K2 k2 => ?_
 obtain ⟨s1, hj1, h⟩ := ob h
 have hR1 : ∀ t9 h9, Le 0 t9 h9 (u4 (.bool s1 :: (u16 (u8 (u2 []))))) [] → K2 t9 h9 := by
  intro t9 h9 hw
  refine k2 _ _ (AW.le hw ?_)
  clear hw
  refine .ret ?_
  conv => whnf
  have e9 := sj h
  subst e9
  refine hQ _ _ _ (aG aK (fun g => rfl) ?_)
  conv => whnf
 refine rg 0 ?_
 conv => whnf
 refine aH hj1 (fun hc1 hj1 => ?_) (fun hc1 hj1 => ?_)
 ·conv => whnf
  refine aH hj1 (fun hc2 hj1 => ?_) (fun hc2 hj1 => ?_)
  ·conv => whnf
   refine aH hj1 (fun hc3 hj1 => ?_) (fun hc3 hj1 => ?_)
   ·conv => whnf
    obtain ⟨x1, hx1, hj1⟩ := ob hj1
    refine aD (qbt _ _ _ hx1) aal (.cons (.same _) (.cons (.same _) .nil)) (fun g => by simp) (fun g => rfl) ?_
    conv => whnf
    cases hj1
    exact hR1 _ _ (wk [] (.u4 (.c rfl (.u16 (.u8 (.u2 .nil))))) .nil rfl)
   conv => whnf
   cases hj1
   exact hR1 _ _ (wk [] (.u4 (.c rfl (.u16 (.u8 (.u2 .nil))))) .nil rfl)
  conv => whnf
  cases hj1
  exact hR1 _ _ (wk [] (.u4 (.c rfl (.u16 (.u8 (.u2 .nil))))) .nil rfl)
 conv => whnf
 cases hj1
 exact hR1 _ _ (wk [] (.u4 (.c rfl (.u16 (.u8 (.u2 .nil))))) .nil rfl)
theorem CJ (n : Nat) (qdj : Val → Val → Option Bool) (qdk : (List Val) → (List Val) → Option Bool) (qbs : qbb qdj) (qbt : qbc qdk) (p0 : List Val) (p1 : List Val) (r : Bool) (h : lV n qdj qdk p0 p1 = some r) : au Tryz.prog 36 [.slice (List.map aj p0) .shared, .slice (List.map aj p1) .shared] [] (.bool r) [] := by
 unfold lV at h
 refine aB true Tryz.func36 rfl (by rw [Tryz.ntmps36]; exact Nat.le_of_ble_eq_true rfl) fun Q hQ t ht => ?_
 conv at ht => whnf
 subst ht
 refine .q fun K1 k1 => ?_
 refine rg 0 ?_
 conv => whnf
 refine k1 _ _ ?_
 refine .q fun K2 k2 => ?_
 refine .q fun K3 k3 => ?_
 refine rg 0 ?_
 conv => whnf
 refine aQ (l := p0) (f := aj) ?_
 conv => whnf
 refine aQ (l := p1) (f := aj) ?_
 conv => whnf
 refine k3 _ _ ?_
 refine .aL rfl h (fun hc1 h => ?_) (fun hc1 h => ?_)
 ·refine .q fun K4 k4 => ?_
  refine rg 0 ?_
  conv => whnf
  refine k4 _ _ ?_
  refine .ret ?_
  conv => whnf
  have e9 := sj h
  subst e9
  refine hQ _ _ _ (aG aK (fun g => rfl) ?_)
  conv => whnf
 refine .skip ?_
 conv => whnf
 refine k2 _ _ ?_
 refine .q fun K5 k5 => ?_
 refine .q fun K6 k6 => ?_
 refine rg 0 ?_
 conv => whnf
 refine k6 _ _ ?_
 refine .block ?_
 obtain ⟨o1, ho1, h⟩ := ob h
 have hR1 : ∀ s2 : Unit, o1 = .nx s2 → ∀ t9 h9, Le 0 t9 h9 (u16 (u8 (u2 (.unk :: [])))) [] → K5 t9 h9 := by
  intro s2 ho
  subst ho
  dsimp only [LR.el] at h
  intro t9 h9 hw
  refine k5 _ _ (AW.le hw ?_)
  refine .q fun K7 k7 => ?_
  refine rg 0 ?_
  conv => whnf
  refine k7 _ _ ?_
  refine .ret ?_
  conv => whnf
  have e9 := sj h
  subst e9
  refine hQ _ _ _ (aG aK (fun g => rfl) ?_)
  conv => whnf
 refine .loopS (jv n qdj qdk p0 p1) (fun (s1 : Int) => (.slice (List.map aj p0) .shared :: (.slice (List.map aj p1) .shared :: (u2 (.unk :: (.int .i64 s1 :: (u16 (u4 (.unk :: []))))))))) (fun (s1 : Int) => []) ho1 (fun _ => rfl) (li (.s (.s (.u2 (.u (.s (.u16 (.u4 (.u .n))))))))) ?_
 intro n1 s1 hs1 KL1 hKL1
 unfold jv at hs1
 refine .q fun K8 k8 => ?_
 refine .q fun K9 k9 => ?_
 refine rg 0 ?_
 conv => whnf
 refine aQ (l := p0) (f := aj) ?_
 conv => whnf
 refine k9 _ _ ?_
 refine .aL rfl hs1 (fun hc2 hs1 => ?_) (fun hc2 hs1 => ?_)
 ·refine .skip ?_
  conv => whnf
  refine k8 _ _ ?_
  refine .q fun K10 k10 => ?_
  refine .block ?_
  refine .q fun K11 k11 => ?_
  refine rg 0 ?_
  conv => whnf
  obtain ⟨x1, hx1, hs1⟩ := ob hs1
  refine aW (l := p0) (f := aj) (cs := [.int .i64 ((x1).kind), .int .i64 ((x1).n), .str ((x1).name), .slice (List.map aj ((x1).kids)) .shared]) hx1 (bg x1) rfl ?_
  conv => whnf
  obtain ⟨x2, hx2, hs1⟩ := ob hs1
  refine aW (l := p1) (f := aj) (cs := [.int .i64 ((x2).kind), .int .i64 ((x2).n), .str ((x2).name), .slice (List.map aj ((x2).kids)) .shared]) hx2 (bg x2) rfl ?_
  conv => whnf
  obtain ⟨x3, hx3, hs1⟩ := ob hs1
  refine aD (qbs _ _ _ hx3) Ct (.cons (.same _) (.cons (.same _) .nil)) (fun g => by simp) (fun g => rfl) ?_
  conv => whnf
  refine ⟨by kernel_rfl, ?_⟩
  conv => whnf
  refine k11 _ _ ?_
  refine .aL rfl hs1 (fun hc3 hs1 => ?_) (fun hc3 hs1 => ?_)
  ·refine .q fun K12 k12 => ?_
   refine rg 0 ?_
   conv => whnf
   refine k12 _ _ ?_
   refine .ret ?_
   conv => whnf
   have e9 := sj hs1
   subst e9
   dsimp only [LR.el] at h
   have e9 := sj h
   subst e9
   refine hQ _ _ _ (aG aK (fun g => rfl) ?_)
   conv => whnf
  refine .skip ?_
  conv => whnf
  refine k10 _ _ ?_
  refine .know 5 0 fun hv1 => ?_
  refine .know 0 0 fun hv2 => ?_
  refine rg 0 ?_
  conv => whnf
  refine ⟨(s1 + 1), by have := dn hv1; have := gX hv2; have h8 := of_decide_eq_true hc2; exact bD (by omega) (by omega), ?_⟩
  conv => whnf
  exact hKL1 _ _ _ hs1 (li (.s (.s (.u2 (.u (.s (.u16 (.u4 (.u .n)))))))))
 refine .exit ?_
 conv => whnf
 exact hR1 _ (sj hs1).symm _ _ (li (.u16 (.u8 (.u2 (.u .n)))))
theorem Av (n : Nat) : qbb (dN n) ∧ qbc (iI n) := by
 induction n with
 | zero => exact ⟨(fun p0 p1 r h => by unfold dN at h; cases h), (fun p0 p1 r h => by unfold iI at h; cases h)⟩
 | succ n ih =>
  exact ⟨(fun p0 p1 r h => Ea n _ _ ih.1 ih.2 p0 p1 r (by unfold dN at h; exact h)), (fun p0 p1 r h => CJ n _ _ ih.1 ih.2 p0 p1 r (by unfold iI at h; exact h))⟩
theorem oF (n : Nat) : qbb (dN n) := (Av n).1
theorem JO (n : Nat) : qbc (iI n) := (Av n).2
end Abs
end Go.Proofs.YtkopaeklihhdlaaGreat
