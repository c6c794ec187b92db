/-
  Contracts of Go functions (printed). Conditions: none.
-/
import Derived.KernelRfl
import Derived.Test.YtkopaeklihhdlaaGreatCJDoxebc1f5
import Derived.Test.YtkopaeklihhdlaaGreatCExtKoxfcf5e8
import Derived.Test.YtkopaeklihhdlaaGreatCE11ox69f693
set_option linter.unusedSimpArgs false
set_option linter.unusedVariables false
namespace Go.Proofs.YtkopaeklihhdlaaGreat
namespace Abs
open Go Go.Proofs
set_option maxRecDepth 100000
set_option maxHeartbeats 40000000
abbrev qbj (qdx : Val → Option Val) : Prop := ∀ (p0 : Val) (r : Val), qdx p0 = some r → aA Tryz.prog 52 [.agg [.int .i64 p0.kind, .int .i64 p0.n, .str p0.name, .slice (List.map ah p0.kids) .shared]] [] (.agg [.int .i64 r.kind, .int .i64 r.n, .str r.name, .slice (List.map ah r.kids) .shared]) []
theorem Gg (n : Nat) (qdx : Val → Option Val) (qb4 : qbj qdx) (p0 : Val) (r : Val) (h : oh n qdx p0 = some r) : aA Tryz.prog 52 [.agg [.int .i64 p0.kind, .int .i64 p0.n, .str p0.name, .slice (List.map ah p0.kids) .shared]] [] (.agg [.int .i64 r.kind, .int .i64 r.n, .str r.name, .slice (List.map ah r.kids) .shared]) [] := by
 unfold oh at h
 refine aC true Tryz.func52 rfl (by rw [Tryz.ntmps52]; exact Nat.le_of_ble_eq_true rfl) fun Q hQ t ht => ?_
 conv at ht => whnf
 subst ht
 refine .q fun K1 k1 => ?_
 refine rg 2 ?_
 conv => whnf
 refine k1 _ _ ?_
 refine .q fun K2 k2 => ?_
 refine rg 1 ?_
 conv => whnf
 obtain ⟨x1, hx1, h⟩ := ob h
 refine bF [] [2] [.slice (List.map ah p0.kids) .shared] [.slice (List.map ah p0.kids) .shared] (Ef _ _ _ hx1) ae6 rfl .nil (by simp; try decide) (.cons (.same _) .nil) (rn := .psl 2 4 (List.length p0.kids)) (by simp; try decide) (Hn := [.arr 4 (List.map ah p0.kids)]) ((bJ (congrArg (AObj.arr _) (aD _ _)) rfl)) ?_
 conv => whnf
 obtain ⟨x2, hx2, h⟩ := ob h
 refine bF [2] [] [.psl 0 4 (List.length p0.kids)] [.psl 2 4 (List.length p0.kids)] (xW _ _ _ hx2) Xa rfl (.cons (congrArg (AObj.arr _) (aD _ _)) .nil) (by simp; try decide) (.cons (.same _) .nil) (rn := .psl 2 4 (List.length p0.kids)) (by simp; try decide) (Hn := [.arr 4 (List.map ah p0.kids)]) ((bJ (congrArg (AObj.arr _) (aD _ _)) rfl)) ?_
 conv => whnf
 refine k2 _ _ ?_
 refine .q fun K3 k3 => ?_
 refine .q fun K4 k4 => ?_
 refine rg 0 ?_
 conv => whnf
 refine k4 _ _ ?_
 refine .block ?_
 obtain ⟨o1, ho1, h⟩ := ob h
 have hR1 : ∀ s2 : List Val, o1 = .nx s2 → ∀ t9 h9, Le 0 t9 h9 (.unk :: (.ptr 0 0 :: (.ptr 1 0 :: (u16 (u4 (u2 (.unk :: []))))))) [.box [.int .i64 p0.kind, .int .i64 p0.n, .str p0.name, .psl 2 4 (List.length s2)], .box [.int .i64 0, .int .i64 0, .str ([] : Str), .psl 3 4 (List.length ([] : List Val))], .arr 4 (List.map ah s2), .arr 4 (List.map ah ([] : List Val))] → K3 t9 h9 := by
  intro s2 ho
  subst ho
  dsimp only [LR.el] at h
  intro t9 h9 hw
  refine k3 _ _ (AW.le hw ?_)
  refine .q fun K5 k5 => ?_
  refine rg 0 ?_
  conv => whnf
  refine k5 _ _ ?_
  refine .le (t' := (.unk :: (.ptr 0 0 :: (.ptr 1 0 :: (u16 (u4 (u2 (.agg [.int .i64 p0.kind, .int .i64 p0.n, .str p0.name, .slice (List.map ah s2) .shared] :: [])))))))) (h' := [.box [.int .i64 p0.kind, .int .i64 p0.n, .str p0.name, .slice (List.map ah s2) .shared], .box [.int .i64 p0.kind, .int .i64 p0.n, .str p0.name, .slice (List.map ah s2) .shared], .arr 4 (List.map ah ([] : List Val))]) (wk [some 0, some 1, some 3] (.u (.c rfl (.c rfl (.u16 (.u4 (.u2 (.cons (.agg' (.c rfl (.c rfl (.c rfl (.cons (.iJ aD (aN _) rfl rfl) .nil))))) .nil))))))) (.b rfl (.c rfl (.c rfl (.c rfl (.cons (.iJ aD (aN _) rfl rfl) .nil)))) (.b rfl (.c rfl (.c rfl (.c rfl (.cons (.iJ aD (aN _) rfl rfl) .nil)))) (.old (.arr' aD (aN _)) .nil))) rfl) ?_
  refine .ret ?_
  conv => whnf
  have e9 := sj h
  subst e9
  refine hQ _ _ _ (aG aJ (fun g => by simp) ?_)
  conv => whnf
  try rfl
 refine .loopS (lN n qdx p0) (fun (s1 : (List Val) × Int) => (.unk :: (.ptr 0 0 :: (.ptr 1 0 :: (u8 (.psl 2 4 (List.length s1.1) :: (.int .i64 (p0.kids.length : Int) :: (.int .i64 s1.2 :: (u8 (u4 [])))))))))) (fun (s1 : (List Val) × Int) => [.box [.int .i64 p0.kind, .int .i64 p0.n, .str p0.name, .psl 2 4 (List.length s1.1)], .box [.int .i64 0, .int .i64 0, .str ([] : Str), .psl 3 4 (List.length ([] : List Val))], .arr 4 (List.map ah s1.1), .arr 4 (List.map ah ([] : List Val))]) ho1 (fun _ => rfl) (wk [some 0, some 1, some 2, none] (.u (.c rfl (.c rfl (.u8 (.c rfl (.c rfl (.c rfl (.u8 (.u4 .nil))))))))) (.b rfl (.c rfl (.c rfl (.c rfl (.c rfl .nil)))) (.b rfl (.c rfl (.c rfl (.c rfl (.cons (.nilP _ _) .nil)))) (.old (.arr' aD (aN _)) (.w rfl .nil)))) rfl) ?_
 intro n1 s1 hs1 KL1 hKL1
 unfold lN at hs1
 refine .q fun K6 k6 => ?_
 refine rg 0 ?_
 conv => whnf
 refine k6 _ _ ?_
 refine .q fun K7 k7 => ?_
 refine .aK rfl hs1 (fun hc1 hs1 => ?_) (fun hc1 hs1 => ?_)
 ·refine .skip ?_
  conv => whnf
  refine k7 _ _ ?_
  refine .q fun K8 k8 => ?_
  refine .block ?_
  refine .q fun K9 k9 => ?_
  refine rg 1 ?_
  conv => whnf
  obtain ⟨x3, hx3, hs1⟩ := ob hs1
  refine yH (l := s1.1) (l0 := s1.1) hx3 (by simp [upd]) ?_
  conv => whnf
  refine QB (l := s1.1) (f := ah) (cs := [.int .i64 x3.kind, .int .i64 x3.n, .str x3.name, .slice (List.map ah x3.kids) .shared]) hx3 (aX x3) (by decide) ?_
  conv => whnf
  refine k9 _ _ ?_
  refine rg 0 ?_
  conv => whnf
  obtain ⟨x4, hx4, hs1⟩ := ob hs1
  refine aB (qb4 _ _ hx4) Iw (.cons (.same _) .nil) (fun g => by simp) (fun g => by simp) ?_
  conv => whnf
  obtain ⟨x5, hx5, hs1⟩ := ob hs1
  refine yH (l := s1.1) (l0 := s1.1) hx5 (by simp [upd]) ?_
  conv => whnf
  refine QV (l := s1.1) (f := ah) (v := x4) hx5 ((aX _).symm) (by decide) ?_
  conv => whnf
  refine ⟨by kernel_rfl, ?_⟩
  conv => whnf
  refine k8 _ _ ?_
  refine .know 3 0 fun hv1 => ?_
  refine .know 12 0 fun hv2 => ?_
  refine rg 0 ?_
  conv => whnf
  refine ⟨(s1.2 + 1), by have := bY hv1; have := bY hv2; have h8 := of_decide_eq_true hc1; exact bB (by omega) (by omega), ?_⟩
  conv => whnf
  exact hKL1 _ _ _ hs1 (wk [some 0, some 1, some 2, some 3] (.u (.c rfl (.c rfl (.u8 (.cons (.same (y7 (by simp [upd]) rfl)) (.c rfl (.c rfl (.u8 (.u4 .nil))))))))) (.b rfl (.c rfl (.c rfl (.c rfl (.cons (.same (y7 (by simp [upd]) rfl)) .nil)))) (.b rfl (.c rfl (.c rfl (.c rfl (.c rfl .nil)))) (.old (.arr' aD (aN _)) (.old (.arr' aD (aN _)) .nil)))) rfl)
 refine .exit ?_
 conv => whnf
 exact hR1 _ (sj hs1).symm _ _ (wk [some 0, some 1, some 2, some 3] (.u (.c rfl (.c rfl (.u16 (.u4 (.u2 (.u .nil))))))) (.b rfl (.c rfl (.c rfl (.c rfl (.c rfl .nil)))) (.b rfl (.c rfl (.c rfl (.c rfl (.c rfl .nil)))) (.old (.arr' aD (aN _)) (.old (.arr' aD (aN _)) .nil)))) rfl)
theorem MF (n : Nat) : qbj (gG n) := by
 induction n with
 | zero => exact (fun p0 r h => by unfold gG at h; cases h)
 | succ n ih =>
  exact (fun p0 r h => Gg n _ ih p0 r (by unfold gG at h; exact h))
theorem uT (n : Nat) : qbj (gG n) := (MF n)
abbrev qba (qdo : (List Val) → Option (List Val)) : Prop := ∀ (p0 : List Val) (r : List Val), qdo p0 = some r → aA Tryz.prog 65 [.slice (List.map ah p0) .shared] [] (.slice (List.map ah r) .shared) []
abbrev qbb (qdp : Val → Option Val) : Prop := ∀ (p0 : Val) (r : Val), qdp p0 = some r → aA Tryz.prog 54 [.agg [.int .i64 p0.kind, .int .i64 p0.n, .str p0.name, .slice (List.map ah p0.kids) .shared]] [] (.agg [.int .i64 r.kind, .int .i64 r.n, .str r.name, .slice (List.map ah r.kids) .shared]) []
theorem JL (n : Nat) (qdo : (List Val) → Option (List Val)) (qdp : Val → Option Val) (qbu : qba qdo) (qbw : qbb qdp) (p0 : List Val) (r : List Val) (h : qV n qdo qdp p0 = some r) : aA Tryz.prog 65 [.slice (List.map ah p0) .shared] [] (.slice (List.map ah r) .shared) [] := by
 unfold qV at h
 refine aC true Tryz.func65 rfl (by rw [Tryz.ntmps65]; exact Nat.le_of_ble_eq_true rfl) fun Q hQ t ht => ?_
 conv at ht => whnf
 subst ht
 refine .q fun K1 k1 => ?_
 refine rg 0 ?_
 conv => whnf
 refine k1 _ _ ?_
 refine .q fun K2 k2 => ?_
 refine rg 0 ?_
 conv => whnf
 refine k2 _ _ ?_
 refine .q fun K3 k3 => ?_
 refine .q fun K4 k4 => ?_
 refine rg 0 ?_
 conv => whnf
 refine k4 _ _ ?_
 refine .block ?_
 obtain ⟨o1, ho1, h⟩ := ob h
 have hR1 : ∀ s2 : List Val, o1 = .nx s2 → ∀ t9 h9, Le 0 t9 h9 (u2 (.unk :: (.slice (List.map ah s2) (.tip 0 4) :: (u16 [])))) [.tip (List.length s2 * 4)] → K3 t9 h9 := by
  intro s2 ho
  subst ho
  dsimp only [LR.el] at h
  intro t9 h9 hw
  refine k3 _ _ (AW.le hw ?_)
  refine .q fun K5 k5 => ?_
  refine rg 0 ?_
  conv => whnf
  refine k5 _ _ ?_
  refine .ret ?_
  conv => whnf
  have e9 := sj h
  subst e9
  refine hQ _ _ _ (aG aJ (fun g => by simp) ?_)
  conv => whnf
  try rfl
 refine .loopS (oz n qdo qdp p0) (fun (s1 : (List Val) × Int) => (.slice (List.map ah p0) .shared :: (u2 (.slice (List.map ah s1.1) (.tip 0 4) :: (.int .i64 s1.2 :: (u8 (u4 (u2 (.unk :: []))))))))) (fun (s1 : (List Val) × Int) => [.tip (List.length s1.1 * 4)]) ho1 (fun _ => rfl) (wk [none] (.e aD (.u2 (.cons (.nils _ _) (.c rfl (.u8 (.u4 (.u2 (.u .nil)))))))) (.w rfl .nil) rfl) ?_
 intro n1 s1 hs1 KL1 hKL1
 unfold oz at hs1
 refine .q fun K6 k6 => ?_
 refine .q fun K7 k7 => ?_
 refine rg 0 ?_
 conv => whnf
 refine aQ (l := p0) (f := ah) ?_
 conv => whnf
 refine k7 _ _ ?_
 refine .aK rfl hs1 (fun hc1 hs1 => ?_) (fun hc1 hs1 => ?_)
 ·refine .skip ?_
  conv => whnf
  refine k6 _ _ ?_
  refine .q fun K8 k8 => ?_
  refine .block ?_
  refine rg 2 ?_
  conv => whnf
  obtain ⟨x1, hx1, hs1⟩ := ob hs1
  refine aU (l := p0) (f := ah) (cs := [.int .i64 ((x1).kind), .int .i64 ((x1).n), .str ((x1).name), .slice (List.map ah ((x1).kids)) .shared]) hx1 (aX x1) rfl ?_
  conv => whnf
  obtain ⟨x2, hx2, hs1⟩ := ob hs1
  refine aB (qbw _ _ hx2) MU (.cons (.same _) .nil) (fun g => by simp) (fun g => by simp) ?_
  conv => whnf
  refine ⟨List.map ah ([x2]), by simp only [List.map_cons, List.map_nil, aX]; try rfl, ?_⟩
  conv => whnf
  obtain ⟨x3, hx3, hs1⟩ := ob hs1
  refine gq (l := s1.1) (ys := [x2]) (f := ah) hx3 lY rfl rfl rfl ?_
  conv => whnf
  refine k8 _ _ ?_
  refine .know 4 0 fun hv1 => ?_
  refine .know 0 0 fun hv2 => ?_
  refine rg 0 ?_
  conv => whnf
  refine ⟨(s1.2 + 1), by have := bY hv1; have := gI hv2; have h8 := of_decide_eq_true hc1; exact bB (by omega) (by omega), ?_⟩
  conv => whnf
  exact hKL1 _ _ _ hs1 (wk [some 2] (.e aD (.u2 (.cons (.dz (aD _ _) rfl) (.c rfl (.u8 (.u4 (.u2 (.u .nil)))))))) (.t rfl .nil) rfl)
 refine .exit ?_
 conv => whnf
 exact hR1 _ (sj hs1).symm _ _ (li (.u2 (.u (.s (.u16 .n)))))
theorem Nz (n : Nat) (qdo : (List Val) → Option (List Val)) (qdp : Val → Option Val) (qbu : qba qdo) (qbw : qbb qdp) (p0 : Val) (r : Val) (h : tF n qdo qdp p0 = some r) : aA Tryz.prog 54 [.agg [.int .i64 p0.kind, .int .i64 p0.n, .str p0.name, .slice (List.map ah p0.kids) .shared]] [] (.agg [.int .i64 r.kind, .int .i64 r.n, .str r.name, .slice (List.map ah r.kids) .shared]) [] := by
 unfold tF at h
 refine aC true Tryz.func54 rfl (by rw [Tryz.ntmps54]; exact Nat.le_of_ble_eq_true rfl) fun Q hQ t ht => ?_
 conv at ht => whnf
 subst ht
 refine .q fun K1 k1 => ?_
 refine rg 2 ?_
 conv => whnf
 refine k1 _ _ ?_
 refine .q fun K2 k2 => ?_
 refine rg 1 ?_
 conv => whnf
 refine k2 _ _ ?_
 refine .q fun K3 k3 => ?_
 refine rg 0 ?_
 conv => whnf
 obtain ⟨x1, hx1, h⟩ := ob h
 refine aB (qbu _ _ hx1) Xf (.cons (.same _) .nil) (fun g => by simp) (fun g => by simp) ?_
 conv => whnf
 refine k3 _ _ ?_
 refine .q fun K4 k4 => ?_
 refine rg 0 ?_
 conv => whnf
 refine k4 _ _ ?_
 refine .ret ?_
 conv => whnf
 have e9 := sj h
 subst e9
 refine hQ _ _ _ (aG aJ (fun g => by simp) ?_)
 conv => whnf
 try rfl
theorem F8 (n : Nat) : qba (nK n) ∧ qbb (kM n) := by
 induction n with
 | zero => exact ⟨(fun p0 r h => by unfold nK at h; cases h), (fun p0 r h => by unfold kM at h; cases h)⟩
 | succ n ih =>
  exact ⟨(fun p0 r h => JL n _ _ ih.1 ih.2 p0 r (by unfold nK at h; exact h)), (fun p0 r h => Nz n _ _ ih.1 ih.2 p0 r (by unfold kM at h; exact h))⟩
theorem Fh (n : Nat) : qbb (kM n) := (F8 n).2
theorem YP (n : Nat) (p0 : List Val) (p1 : List Val) (r : List Val) (h : Fb n p0 p1 = some r) : aA Tryz.prog 121 [.slice (List.map ah p0) .shared, .slice (List.map ah p1) .shared] [] (.slice (List.map ah r) .shared) [] := by
 unfold Fb at h
 refine aC true Tryz.func121 rfl (by rw [Tryz.ntmps121]; exact Nat.le_of_ble_eq_true rfl) fun Q hQ t ht => ?_
 conv at ht => whnf
 subst ht
 refine .q fun K1 k1 => ?_
 refine rg 0 ?_
 conv => whnf
 refine k1 _ _ ?_
 refine .q fun K2 k2 => ?_
 refine rg 0 ?_
 conv => whnf
 refine k2 _ _ ?_
 refine .q fun K3 k3 => ?_
 refine .block ?_
 obtain ⟨o1, ho1, h⟩ := ob h
 have hR1 : ∀ s2 : List Val, o1 = .nx s2 → ∀ t9 h9, Le 0 t9 h9 (u4 (.unk :: (.slice (List.map ah s2) (.tip 0 4) :: (u32 (u8 (u4 (u2 (.unk :: [])))))))) [.tip (List.length s2 * 4)] → K3 t9 h9 := by
  intro s2 ho
  subst ho
  dsimp only [LR.el] at h
  intro t9 h9 hw
  refine k3 _ _ (AW.le hw ?_)
  refine .q fun K4 k4 => ?_
  refine rg 0 ?_
  conv => whnf
  refine k4 _ _ ?_
  refine .ret ?_
  conv => whnf
  have e9 := sj h
  subst e9
  refine hQ _ _ _ (aG aJ (fun g => by simp) ?_)
  conv => whnf
  try rfl
 refine .loopS (iq n) (fun (s1 : (List Val) × (List Val) × (List Val)) => (.slice (List.map ah s1.1) .shared :: (.slice (List.map ah s1.2.1) .shared :: (u2 (.unk :: (.slice (List.map ah s1.2.2) (.tip 0 4) :: (u32 (u8 (u4 (u2 (.unk :: []))))))))))) (fun (s1 : (List Val) × (List Val) × (List Val)) => [.tip (List.length s1.2.2 * 4)]) ho1 (fun _ => rfl) (wk [none] (.e aD (.e aD (.u2 (.u (.cons (.nils _ _) (.u32 (.u8 (.u4 (.u2 (.u .nil)))))))))) (.w rfl .nil) rfl) ?_
 intro n1 s1 hs1 KL1 hKL1
 unfold iq at hs1
 refine .q fun K5 k5 => ?_
 refine .q fun K6 k6 => ?_
 obtain ⟨s3, hj1, hs1⟩ := ob hs1
 have hR2 : ∀ t9 h9, Le 0 t9 h9 (.slice (List.map ah s1.1) .shared :: (.slice (List.map ah s1.2.1) .shared :: (u2 (.unk :: (.slice (List.map ah s1.2.2) (.tip 0 4) :: (u8 (.bool s3 :: (u32 (u4 (u2 [])))))))))) [.tip (List.length s1.2.2 * 4)] → K6 t9 h9 := by
  intro t9 h9 hw
  refine k6 _ _ (AW.le hw ?_)
  clear hw
  refine .aK rfl hs1 (fun hc1 hs1 => ?_) (fun hc1 hs1 => ?_)
  ·refine .skip ?_
   conv => whnf
   refine k5 _ _ ?_
   refine .block ?_
   refine .q fun K7 k7 => ?_
   refine rg 0 ?_
   conv => whnf
   refine k7 _ _ ?_
   refine .q fun K8 k8 => ?_
   obtain ⟨s4, hj2, hs1⟩ := ob hs1
   have hR3 : ∀ t9 h9, Le 0 t9 h9 (.slice (List.map ah s1.1) .shared :: (.slice (List.map ah s1.2.1) .shared :: (u2 (.unk :: (.slice (List.map ah s1.2.2) (.tip 0 4) :: (.int .i64 s4 :: (u32 (u8 (u4 (u2 [])))))))))) [.tip (List.length s1.2.2 * 4)] → K8 t9 h9 := by
    intro t9 h9 hw
    refine k8 _ _ (AW.le hw ?_)
    clear hw
    refine .q fun K9 k9 => ?_
    obtain ⟨s5, hj3, hs1⟩ := ob hs1
    have hR4 : ∀ t9 h9, Le 0 t9 h9 (.slice (List.map ah s5.1) .shared :: (.slice (List.map ah s1.2.1) .shared :: (u2 (.unk :: (.slice (List.map ah s5.2) (.tip 0 4) :: (.int .i64 s4 :: (u32 (u8 (u4 (u2 [])))))))))) [.tip (List.length s5.2 * 4)] → K9 t9 h9 := by
     intro t9 h9 hw
     refine k9 _ _ (AW.le hw ?_)
     clear hw
     refine .q fun K10 k10 => ?_
     obtain ⟨s6, hj4, hs1⟩ := ob hs1
     have hR5 : ∀ t9 h9, Le 0 t9 h9 (.slice (List.map ah s5.1) .shared :: (.slice (List.map ah s1.2.1) .shared :: (u2 (.unk :: (.slice (List.map ah s6) (.tip 0 4) :: (.int .i64 s4 :: (u32 (u8 (u4 (u2 [])))))))))) [.tip (List.length s6 * 4)] → K10 t9 h9 := by
      intro t9 h9 hw
      refine k10 _ _ (AW.le hw ?_)
      clear hw
      refine .q fun K11 k11 => ?_
      refine rg 0 ?_
      conv => whnf
      refine k11 _ _ ?_
      refine .aK rfl hs1 (fun hc2 hs1 => ?_) (fun hc2 hs1 => ?_)
      ·refine rg 0 ?_
       conv => whnf
       obtain ⟨x1, hx1, hs1⟩ := ob hs1
       refine NQ (l := s1.2.1) (f := ah) hx1 (.int _ _ _) (.none _) lY ?_
       conv => whnf
       exact hKL1 _ _ _ hs1 (li (.s (.s (.u2 (.u (.s (.u16 (.u16 (.u8 (.u4 (.u2 (.u .n))))))))))))
      refine .skip ?_
      conv => whnf
      exact hKL1 _ _ _ hs1 (li (.s (.s (.u2 (.u (.s (.u16 (.u16 (.u8 (.u4 (.u2 (.u .n))))))))))))
     refine .q fun K12 k12 => ?_
     refine rg 0 ?_
     conv => whnf
     refine k12 _ _ ?_
     refine .aK rfl hj4 (fun hc3 hj4 => ?_) (fun hc3 hj4 => ?_)
     ·refine rg 2 ?_
      conv => whnf
      obtain ⟨x2, hx2, hj4⟩ := ob hj4
      refine aU (l := s1.2.1) (f := ah) (cs := [.int .i64 ((x2).kind), .int .i64 ((x2).n), .str ((x2).name), .slice (List.map ah ((x2).kids)) .shared]) hx2 (aX x2) rfl ?_
      conv => whnf
      refine ⟨List.map ah ([x2]), by simp only [List.map_cons, List.map_nil, aX]; try rfl, ?_⟩
      conv => whnf
      obtain ⟨x3, hx3, hj4⟩ := ob hj4
      refine gq (l := s5.2) (ys := [x2]) (f := ah) hx3 lY rfl rfl rfl ?_
      conv => whnf
      cases hj4
      exact hR5 _ _ (wk [some 2] (.e aD (.e aD (.u2 (.u (.cons (.dz (aD _ _) rfl) (.c rfl (.u32 (.u8 (.u4 (.u2 .nil)))))))))) (.t rfl .nil) rfl)
     refine .skip ?_
     conv => whnf
     cases hj4
     exact hR5 _ _ (li (.s (.s (.u2 (.u (.s (.s (.u16 (.u16 (.u8 (.u4 (.u2 .n))))))))))))
    refine .q fun K13 k13 => ?_
    refine rg 0 ?_
    conv => whnf
    refine k13 _ _ ?_
    refine .aK rfl hj3 (fun hc4 hj3 => ?_) (fun hc4 hj3 => ?_)
    ·refine .q fun K14 k14 => ?_
     refine rg 2 ?_
     conv => whnf
     obtain ⟨x4, hx4, hj3⟩ := ob hj3
     refine aU (l := s1.1) (f := ah) (cs := [.int .i64 ((x4).kind), .int .i64 ((x4).n), .str ((x4).name), .slice (List.map ah ((x4).kids)) .shared]) hx4 (aX x4) rfl ?_
     conv => whnf
     refine ⟨List.map ah ([x4]), by simp only [List.map_cons, List.map_nil, aX]; try rfl, ?_⟩
     conv => whnf
     obtain ⟨x5, hx5, hj3⟩ := ob hj3
     refine gq (l := s1.2.2) (ys := [x4]) (f := ah) hx5 lY rfl rfl rfl ?_
     conv => whnf
     refine k14 _ _ ?_
     refine rg 0 ?_
     conv => whnf
     obtain ⟨x6, hx6, hj3⟩ := ob hj3
     refine NQ (l := s1.1) (f := ah) hx6 (.int _ _ _) (.none _) lY ?_
     conv => whnf
     cases hj3
     exact hR4 _ _ (wk [some 2] (.e aD (.e aD (.u2 (.u (.cons (.dz (aD _ _) rfl) (.c rfl (.u32 (.u8 (.u4 (.u2 .nil)))))))))) (.t rfl .nil) rfl)
    refine .skip ?_
    conv => whnf
    cases hj3
    exact hR4 _ _ (li (.s (.s (.u2 (.u (.s (.s (.u16 (.u16 (.u8 (.u4 (.u2 .n))))))))))))
   refine .block ?_
   refine .q fun K15 k15 => ?_
   refine rg 0 ?_
   conv => whnf
   refine aQ (l := s1.1) (f := ah) ?_
   conv => whnf
   refine k15 _ _ ?_
   refine .aK rfl hj2 (fun hc5 hj2 => ?_) (fun hc5 hj2 => ?_)
   ·refine rg 0 ?_
    conv => whnf
    cases hj2
    exact hR3 _ _ (li (.s (.s (.u2 (.u (.s (.s (.u16 (.u16 (.u8 (.u4 (.u2 .n))))))))))))
   refine .q fun K16 k16 => ?_
   refine rg 0 ?_
   conv => whnf
   refine aQ (l := s1.2.1) (f := ah) ?_
   conv => whnf
   refine k16 _ _ ?_
   refine .aK rfl hj2 (fun hc6 hj2 => ?_) (fun hc6 hj2 => ?_)
   ·refine rg 0 ?_
    conv => whnf
    obtain ⟨x7, hx7, hj2⟩ := ob hj2
    refine aU (l := s1.1) (f := ah) (cs := [.int .i64 ((x7).kind), .int .i64 ((x7).n), .str ((x7).name), .slice (List.map ah ((x7).kids)) .shared]) hx7 (aX x7) rfl ?_
    conv => whnf
    obtain ⟨x8, hx8, hj2⟩ := ob hj2
    refine aU (l := s1.2.1) (f := ah) (cs := [.int .i64 ((x8).kind), .int .i64 ((x8).n), .str ((x8).name), .slice (List.map ah ((x8).kids)) .shared]) hx8 (aX x8) rfl ?_
    conv => whnf
    obtain ⟨x9, hx9, hj2⟩ := ob hj2
    refine aB (Af _ _ _ _ hx9) NU (.cons (.same _) (.cons (.same _) .nil)) (fun g => by simp) (fun g => rfl) ?_
    conv => whnf
    refine ⟨by kernel_rfl, ?_⟩
    conv => whnf
    cases hj2
    exact hR3 _ _ (li (.s (.s (.u2 (.u (.s (.s (.u16 (.u16 (.u8 (.u4 (.u2 .n))))))))))))
   refine .skip ?_
   conv => whnf
   cases hj2
   exact hR3 _ _ (li (.s (.s (.u2 (.u (.s (.s (.u16 (.u16 (.u8 (.u4 (.u2 .n))))))))))))
  refine .exit ?_
  conv => whnf
  exact hR1 _ (sj hs1).symm _ _ (li (.u4 (.u (.s (.u16 (.u16 (.u8 (.u4 (.u2 (.u .n))))))))))
 refine rg 0 ?_
 conv => whnf
 refine aQ (l := s1.1) (f := ah) ?_
 conv => whnf
 refine aI hj1 (fun hc7 hj1 => ?_) (fun hc7 hj1 => ?_)
 ·conv => whnf
  cases hj1
  exact hR2 _ _ (li (.s (.s (.u2 (.u (.s (.u8 (.s (.u16 (.u16 (.u4 (.u2 .n))))))))))))
 conv => whnf
 refine aQ (l := s1.2.1) (f := ah) ?_
 conv => whnf
 cases hj1
 exact hR2 _ _ (li (.s (.s (.u2 (.u (.s (.u8 (.s (.u16 (.u16 (.u4 (.u2 .n))))))))))))
abbrev qbe (qds : (List Val) → Option (List Val)) : Prop := ∀ (p0 : List Val) (r : List Val), qds p0 = some r → aA Tryz.prog 71 [.slice (List.map ah p0) .shared] [] (.slice (List.map ah r) .shared) []
theorem JK (n : Nat) (qds : (List Val) → Option (List Val)) (qbz : qbe qds) (p0 : List Val) (r : List Val) (h : iP n qds p0 = some r) : aA Tryz.prog 71 [.slice (List.map ah p0) .shared] [] (.slice (List.map ah r) .shared) [] := by
 unfold iP at h
 refine aC true Tryz.func71 rfl (by rw [Tryz.ntmps71]; exact Nat.le_of_ble_eq_true rfl) fun Q hQ t ht => ?_
 conv at ht => whnf
 subst ht
 refine .q fun K1 k1 => ?_
 refine rg 0 ?_
 conv => whnf
 refine k1 _ _ ?_
 refine .q fun K2 k2 => ?_
 refine .q fun K3 k3 => ?_
 refine rg 0 ?_
 conv => whnf
 refine aQ (l := p0) (f := ah) ?_
 conv => whnf
 refine k3 _ _ ?_
 refine .aK rfl h (fun hc1 h => ?_) (fun hc1 h => ?_)
 ·refine .q fun K4 k4 => ?_
  refine rg 2 ?_
  conv => whnf
  refine ⟨List.map ah ([] : List Val), by simp only [List.map_cons, List.map_nil, aX]; try rfl, ?_⟩
  conv => whnf
  obtain ⟨x1, hx1, h⟩ := ob h
  refine gq (l := ([] : List Val)) (ys := p0) (f := ah) hx1 lY rfl rfl rfl ?_
  conv => whnf
  refine k4 _ _ ?_
  refine .ret ?_
  conv => whnf
  have e9 := sj h
  subst e9
  refine hQ _ _ _ (aG aJ (fun g => by simp) ?_)
  conv => whnf
  try rfl
 refine .skip ?_
 conv => whnf
 refine k2 _ _ ?_
 refine .q fun K5 k5 => ?_
 refine rg 0 ?_
 conv => whnf
 refine aQ (l := p0) (f := ah) ?_
 conv => whnf
 refine k5 _ _ ?_
 refine .q fun K6 k6 => ?_
 refine rg 0 ?_
 conv => whnf
 obtain ⟨x2, hx2, h⟩ := ob h
 refine NQ (l := p0) (f := ah) hx2 (.none _) (.int _ _ _) lY ?_
 conv => whnf
 obtain ⟨x3, hx3, h⟩ := ob h
 refine aB (qbz _ _ hx3) OG (.cons (.same _) .nil) (fun g => by simp) (fun g => by simp) ?_
 conv => whnf
 obtain ⟨x4, hx4, h⟩ := ob h
 refine NQ (l := p0) (f := ah) hx4 (.int _ _ _) (.none _) lY ?_
 conv => whnf
 obtain ⟨x5, hx5, h⟩ := ob h
 refine aB (qbz _ _ hx5) OG (.cons (.same _) .nil) (fun g => by simp) (fun g => by simp) ?_
 conv => whnf
 obtain ⟨x6, hx6, h⟩ := ob h
 refine aB (YP _ _ _ _ hx6) afH (.cons (.same _) (.cons (.same _) .nil)) (fun g => by simp) (fun g => by simp) ?_
 conv => whnf
 refine ⟨by kernel_rfl, ?_⟩
 conv => whnf
 refine k6 _ _ ?_
 refine .ret ?_
 conv => whnf
 have e9 := sj h
 subst e9
 refine hQ _ _ _ (aG aJ (fun g => by simp) ?_)
 conv => whnf
 try rfl
theorem SS (n : Nat) : qbe (nM n) := by
 induction n with
 | zero => exact (fun p0 r h => by unfold nM at h; cases h)
 | succ n ih =>
  exact (fun p0 r h => JK n _ ih p0 r (by unfold nM at h; exact h))
theorem IK (n : Nat) : qbe (nM n) := (SS n)
abbrev qbk (qdy : Ty → Option Ty) : Prop := ∀ (p0 : Ty) (r : Ty), qdy p0 = some r → aA Tryz.prog 169 [.agg [.int .i64 p0.kind, .str p0.name, .slice (List.map aH p0.kids) .shared]] [] (.agg [.int .i64 r.kind, .str r.name, .slice (List.map aH r.kids) .shared]) []
theorem Ez (n : Nat) (qdy : Ty → Option Ty) (qb5 : qbk qdy) (p0 : Ty) (r : Ty) (h : mg n qdy p0 = some r) : aA Tryz.prog 169 [.agg [.int .i64 p0.kind, .str p0.name, .slice (List.map aH p0.kids) .shared]] [] (.agg [.int .i64 r.kind, .str r.name, .slice (List.map aH r.kids) .shared]) [] := by
 unfold mg at h
 refine aC true Tryz.func169 rfl (by rw [Tryz.ntmps169]; exact Nat.le_of_ble_eq_true rfl) fun Q hQ t ht => ?_
 conv at ht => whnf
 subst ht
 refine .q fun K1 k1 => ?_
 refine rg 2 ?_
 conv => whnf
 refine k1 _ _ ?_
 refine .q fun K2 k2 => ?_
 refine rg 1 ?_
 conv => whnf
 obtain ⟨x1, hx1, h⟩ := ob h
 refine bF [] [2] [.slice (List.map aH p0.kids) .shared] [.slice (List.map aH p0.kids) .shared] (EH _ _ _ hx1) aeP rfl .nil (by simp; try decide) (.cons (.same _) .nil) (rn := .psl 2 3 (List.length p0.kids)) (by simp; try decide) (Hn := [.arr 3 (List.map aH p0.kids)]) ((bJ (congrArg (AObj.arr _) (bf _ _)) rfl)) ?_
 conv => whnf
 obtain ⟨x2, hx2, h⟩ := ob h
 refine bF [2] [] [.psl 0 3 (List.length p0.kids)] [.psl 2 3 (List.length p0.kids)] (Gl _ _ _ hx2) afA rfl (.cons (congrArg (AObj.arr _) (bf _ _)) .nil) (by simp; try decide) (.cons (.same _) .nil) (rn := .psl 2 3 (List.length p0.kids)) (by simp; try decide) (Hn := [.arr 3 (List.map aH p0.kids)]) ((bJ (congrArg (AObj.arr _) (bf _ _)) rfl)) ?_
 conv => whnf
 refine k2 _ _ ?_
 refine .q fun K3 k3 => ?_
 refine .q fun K4 k4 => ?_
 refine rg 0 ?_
 conv => whnf
 refine k4 _ _ ?_
 refine .block ?_
 obtain ⟨o1, ho1, h⟩ := ob h
 have hR1 : ∀ s2 : List Ty, o1 = .nx s2 → ∀ t9 h9, Le 0 t9 h9 (.unk :: (.ptr 0 0 :: (.ptr 1 0 :: (u16 (u4 (u2 (.unk :: []))))))) [.box [.int .i64 p0.kind, .str p0.name, .psl 2 3 (List.length s2)], .box [.int .i64 0, .str ([] : Str), .psl 3 3 (List.length ([] : List Ty))], .arr 3 (List.map aH s2), .arr 3 (List.map aH ([] : List Ty))] → K3 t9 h9 := by
  intro s2 ho
  subst ho
  dsimp only [LR.el] at h
  intro t9 h9 hw
  refine k3 _ _ (AW.le hw ?_)
  refine .q fun K5 k5 => ?_
  refine rg 0 ?_
  conv => whnf
  refine k5 _ _ ?_
  refine .le (t' := (.unk :: (.ptr 0 0 :: (.ptr 1 0 :: (u16 (u4 (u2 (.agg [.int .i64 p0.kind, .str p0.name, .slice (List.map aH s2) .shared] :: [])))))))) (h' := [.box [.int .i64 p0.kind, .str p0.name, .slice (List.map aH s2) .shared], .box [.int .i64 p0.kind, .str p0.name, .slice (List.map aH s2) .shared], .arr 3 (List.map aH ([] : List Ty))]) (wk [some 0, some 1, some 3] (.u (.c rfl (.c rfl (.u16 (.u4 (.u2 (.cons (.agg' (.c rfl (.c rfl (.cons (.iJ bf (aN _) rfl rfl) .nil)))) .nil))))))) (.b rfl (.c rfl (.c rfl (.cons (.iJ bf (aN _) rfl rfl) .nil))) (.b rfl (.c rfl (.c rfl (.cons (.iJ bf (aN _) rfl rfl) .nil))) (.old (.arr' bf (aN _)) .nil))) rfl) ?_
  refine .ret ?_
  conv => whnf
  have e9 := sj h
  subst e9
  refine hQ _ _ _ (aG aJ (fun g => by simp) ?_)
  conv => whnf
  try rfl
 refine .loopS (oF n qdy p0) (fun (s1 : (List Ty) × Int) => (.unk :: (.ptr 0 0 :: (.ptr 1 0 :: (u8 (.psl 2 3 (List.length s1.1) :: (.int .i64 (p0.kids.length : Int) :: (.int .i64 s1.2 :: (u8 (u4 [])))))))))) (fun (s1 : (List Ty) × Int) => [.box [.int .i64 p0.kind, .str p0.name, .psl 2 3 (List.length s1.1)], .box [.int .i64 0, .str ([] : Str), .psl 3 3 (List.length ([] : List Ty))], .arr 3 (List.map aH s1.1), .arr 3 (List.map aH ([] : List Ty))]) ho1 (fun _ => rfl) (wk [some 0, some 1, some 2, none] (.u (.c rfl (.c rfl (.u8 (.c rfl (.c rfl (.c rfl (.u8 (.u4 .nil))))))))) (.b rfl (.c rfl (.c rfl (.c rfl .nil))) (.b rfl (.c rfl (.c rfl (.cons (.nilP _ _) .nil))) (.old (.arr' bf (aN _)) (.w rfl .nil)))) rfl) ?_
 intro n1 s1 hs1 KL1 hKL1
 unfold oF at hs1
 refine .q fun K6 k6 => ?_
 refine rg 0 ?_
 conv => whnf
 refine k6 _ _ ?_
 refine .q fun K7 k7 => ?_
 refine .aK rfl hs1 (fun hc1 hs1 => ?_) (fun hc1 hs1 => ?_)
 ·refine .skip ?_
  conv => whnf
  refine k7 _ _ ?_
  refine .q fun K8 k8 => ?_
  refine .block ?_
  refine .q fun K9 k9 => ?_
  refine rg 1 ?_
  conv => whnf
  obtain ⟨x3, hx3, hs1⟩ := ob hs1
  refine yH (l := s1.1) (l0 := s1.1) hx3 (by simp [upd]) ?_
  conv => whnf
  refine QB (l := s1.1) (f := aH) (cs := [.int .i64 x3.kind, .str x3.name, .slice (List.map aH x3.kids) .shared]) hx3 (fC x3) (by decide) ?_
  conv => whnf
  refine k9 _ _ ?_
  refine rg 0 ?_
  conv => whnf
  obtain ⟨x4, hx4, hs1⟩ := ob hs1
  refine aB (qb5 _ _ hx4) Za (.cons (.same _) .nil) (fun g => by simp) (fun g => by simp) ?_
  conv => whnf
  obtain ⟨x5, hx5, hs1⟩ := ob hs1
  refine yH (l := s1.1) (l0 := s1.1) hx5 (by simp [upd]) ?_
  conv => whnf
  refine QV (l := s1.1) (f := aH) (v := x4) hx5 ((fC _).symm) (by decide) ?_
  conv => whnf
  refine ⟨by kernel_rfl, ?_⟩
  conv => whnf
  refine k8 _ _ ?_
  refine .know 3 0 fun hv1 => ?_
  refine .know 12 0 fun hv2 => ?_
  refine rg 0 ?_
  conv => whnf
  refine ⟨(s1.2 + 1), by have := bY hv1; have := bY hv2; have h8 := of_decide_eq_true hc1; exact bB (by omega) (by omega), ?_⟩
  conv => whnf
  exact hKL1 _ _ _ hs1 (wk [some 0, some 1, some 2, some 3] (.u (.c rfl (.c rfl (.u8 (.cons (.same (y7 (by simp [upd]) rfl)) (.c rfl (.c rfl (.u8 (.u4 .nil))))))))) (.b rfl (.c rfl (.c rfl (.cons (.same (y7 (by simp [upd]) rfl)) .nil))) (.b rfl (.c rfl (.c rfl (.c rfl .nil))) (.old (.arr' bf (aN _)) (.old (.arr' bf (aN _)) .nil)))) rfl)
 refine .exit ?_
 conv => whnf
 exact hR1 _ (sj hs1).symm _ _ (wk [some 0, some 1, some 2, some 3] (.u (.c rfl (.c rfl (.u16 (.u4 (.u2 (.u .nil))))))) (.b rfl (.c rfl (.c rfl (.c rfl .nil))) (.b rfl (.c rfl (.c rfl (.c rfl .nil))) (.old (.arr' bf (aN _)) (.old (.arr' bf (aN _)) .nil)))) rfl)
theorem JR (n : Nat) : qbk (gV n) := by
 induction n with
 | zero => exact (fun p0 r h => by unfold gV at h; cases h)
 | succ n ih =>
  exact (fun p0 r h => Ez n _ ih p0 r (by unfold gV at h; exact h))
theorem La (n : Nat) : qbk (gV n) := (JR n)
theorem Oi (n : Nat) (p0 : Env) (r : Env) (h : uj n p0 = some r) : aA Tryz.prog 108 [.agg [.slice (List.map aj p0.carriers) .shared, .slice (List.map ak p0.names) .shared]] [] (.agg [.slice (List.map aj r.carriers) .shared, .slice (List.map ak r.names) .shared]) [] := by
 unfold uj at h
 refine aC true Tryz.func108 rfl (by rw [Tryz.ntmps108]; exact Nat.le_of_ble_eq_true rfl) fun Q hQ t ht => ?_
 conv at ht => whnf
 subst ht
 refine .q fun K1 k1 => ?_
 refine rg 2 ?_
 conv => whnf
 refine k1 _ _ ?_
 refine .q fun K2 k2 => ?_
 refine rg 3 ?_
 conv => whnf
 obtain ⟨x1, hx1, h⟩ := ob h
 refine bF [] [2] [.slice (List.map aj p0.carriers) .shared] [.slice (List.map aj p0.carriers) .shared] (Cc _ _ _ hx1) aeO rfl .nil (by simp; try decide) (.cons (.same _) .nil) (rn := .psl 2 2 (List.length p0.carriers)) (by simp; try decide) (Hn := [.arr 2 (List.map aj p0.carriers)]) ((bJ (congrArg (AObj.arr _) (au _ _)) rfl)) ?_
 conv => whnf
 obtain ⟨x2, hx2, h⟩ := ob h
 refine bF [2] [] [.psl 0 2 (List.length p0.carriers)] [.psl 2 2 (List.length p0.carriers)] (C8 _ _ _ hx2) aeE rfl (.cons (congrArg (AObj.arr _) (au _ _)) .nil) (by simp; try decide) (.cons (.same _) .nil) (rn := .psl 2 2 (List.length p0.carriers)) (by simp; try decide) (Hn := [.arr 2 (List.map aj p0.carriers)]) ((bJ (congrArg (AObj.arr _) (au _ _)) rfl)) ?_
 conv => whnf
 obtain ⟨x3, hx3, h⟩ := ob h
 refine bF [] [3] [.slice (List.map ak p0.names) .shared] [.slice (List.map ak p0.names) .shared] (FB _ _ _ hx3) afs rfl .nil (by simp; try decide) (.cons (.same _) .nil) (rn := .psl 3 4 (List.length p0.names)) (by simp; try decide) (Hn := [.arr 4 (List.map ak p0.names)]) ((bJ (congrArg (AObj.arr _) (aF _ _)) rfl)) ?_
 conv => whnf
 obtain ⟨x4, hx4, h⟩ := ob h
 refine bF [3] [] [.psl 0 4 (List.length p0.names)] [.psl 3 4 (List.length p0.names)] (Gu _ _ _ hx4) aeB rfl (.cons (congrArg (AObj.arr _) (aF _ _)) .nil) (by simp; try decide) (.cons (.same _) .nil) (rn := .psl 3 4 (List.length p0.names)) (by simp; try decide) (Hn := [.arr 4 (List.map ak p0.names)]) ((bJ (congrArg (AObj.arr _) (aF _ _)) rfl)) ?_
 conv => whnf
 refine ⟨by kernel_rfl, ?_⟩
 conv => whnf
 refine k2 _ _ ?_
 refine .q fun K3 k3 => ?_
 refine .q fun K4 k4 => ?_
 refine rg 0 ?_
 conv => whnf
 refine k4 _ _ ?_
 refine .block ?_
 obtain ⟨o1, ho1, h⟩ := ob h
 have hR1 : ∀ s2 : List Carrier, o1 = .nx s2 → ∀ t9 h9, Le 0 t9 h9 (u2 (.ptr 0 0 :: (.ptr 1 0 :: (u32 (u16 (.unk :: [])))))) [.box [.psl 2 2 (List.length ([] : List Carrier)), .psl 3 4 (List.length ([] : List Decl))], .box [.psl 4 2 (List.length s2), .psl 5 4 (List.length p0.names)], .arr 2 (List.map aj ([] : List Carrier)), .arr 4 (List.map ak ([] : List Decl)), .arr 2 (List.map aj s2), .arr 4 (List.map ak p0.names)] → K3 t9 h9 := by
  intro s2 ho
  subst ho
  dsimp only [LR.el] at h
  intro t9 h9 hw
  refine k3 _ _ (AW.le hw ?_)
  refine .q fun K5 k5 => ?_
  refine .q fun K6 k6 => ?_
  refine rg 0 ?_
  conv => whnf
  refine k6 _ _ ?_
  refine .block ?_
  obtain ⟨o2, ho2, h⟩ := ob h
  have hR2 : ∀ s4 : List Decl, o2 = .nx s4 → ∀ t9 h9, Le 0 t9 h9 (u2 (.ptr 0 0 :: (.ptr 1 0 :: (u32 (u16 (.unk :: [])))))) [.box [.psl 2 2 (List.length ([] : List Carrier)), .psl 3 4 (List.length ([] : List Decl))], .box [.psl 4 2 (List.length s2), .psl 5 4 (List.length s4)], .arr 2 (List.map aj ([] : List Carrier)), .arr 4 (List.map ak ([] : List Decl)), .arr 2 (List.map aj s2), .arr 4 (List.map ak s4)] → K5 t9 h9 := by
   intro s4 ho
   subst ho
   dsimp only [LR.el] at h
   intro t9 h9 hw
   refine k5 _ _ (AW.le hw ?_)
   refine .q fun K7 k7 => ?_
   refine rg 0 ?_
   conv => whnf
   refine k7 _ _ ?_
   refine .le (t' := (u2 (.ptr 0 0 :: (.ptr 1 0 :: (u32 (u16 (.agg [.slice (List.map aj s2) .shared, .psl 4 4 (List.length s4)] :: []))))))) (h' := [.box [.slice (List.map aj s2) .shared, .psl 4 4 (List.length s4)], .box [.slice (List.map aj s2) .shared, .psl 4 4 (List.length s4)], .arr 2 (List.map aj ([] : List Carrier)), .arr 4 (List.map ak ([] : List Decl)), .arr 4 (List.map ak s4)]) (wk [some 0, some 1, some 2, some 3, some 5] (.u2 (.c rfl (.c rfl (.u32 (.u16 (.cons (.agg' (.cons (.iJ au (aN _) rfl rfl) (.c rfl .nil))) .nil)))))) (.b rfl (.cons (.iJ au (aN _) rfl rfl) (.c rfl .nil)) (.b rfl (.cons (.iJ au (aN _) rfl rfl) (.c rfl .nil)) (.old (.arr' au (aN _)) (.old (.arr' aF (aN _)) (.old (.arr' aF (aN _)) .nil))))) rfl) ?_
   refine .le (t' := (u2 (.ptr 0 0 :: (.ptr 1 0 :: (u32 (u16 (.agg [.slice (List.map aj s2) .shared, .slice (List.map ak s4) .shared] :: []))))))) (h' := [.box [.slice (List.map aj s2) .shared, .slice (List.map ak s4) .shared], .box [.slice (List.map aj s2) .shared, .slice (List.map ak s4) .shared], .arr 2 (List.map aj ([] : List Carrier)), .arr 4 (List.map ak ([] : List Decl))]) (wk [some 0, some 1, some 2, some 3] (.u2 (.c rfl (.c rfl (.u32 (.u16 (.cons (.agg' (.e au (.cons (.iJ aF (aN _) rfl rfl) .nil))) .nil)))))) (.b rfl (.e au (.cons (.iJ aF (aN _) rfl rfl) .nil)) (.b rfl (.e au (.cons (.iJ aF (aN _) rfl rfl) .nil)) (.old (.arr' au (aN _)) (.old (.arr' aF (aN _)) .nil)))) rfl) ?_
   refine .ret ?_
   conv => whnf
   have e9 := sj h
   subst e9
   refine hQ _ _ _ (aG aJ (fun g => by simp) ?_)
   conv => whnf
   try rfl
  refine .loopS (pG n p0) (fun (s3 : (List Decl) × Int) => (u2 (.ptr 0 0 :: (.ptr 1 0 :: (u32 (.psl 2 4 (List.length s3.1) :: (.int .i64 (p0.names.length : Int) :: (.int .i64 s3.2 :: (u8 (u4 (u2 []))))))))))) (fun (s3 : (List Decl) × Int) => [.box [.psl 3 2 (List.length ([] : List Carrier)), .psl 4 4 (List.length ([] : List Decl))], .box [.psl 5 2 (List.length s2), .psl 2 4 (List.length s3.1)], .arr 4 (List.map ak s3.1), .arr 2 (List.map aj ([] : List Carrier)), .arr 4 (List.map ak ([] : List Decl)), .arr 2 (List.map aj s2)]) ho2 (fun _ => rfl) (wk [some 0, some 1, some 5, some 2, some 3, some 4] (.u2 (.c rfl (.c rfl (.u32 (.c rfl (.c rfl (.c rfl (.u8 (.u4 (.u2 .nil)))))))))) (.b rfl (.c rfl (.c rfl .nil)) (.b rfl (.c rfl (.c rfl .nil)) (.old (.arr' aF (aN _)) (.old (.arr' au (aN _)) (.old (.arr' aF (aN _)) (.old (.arr' au (aN _)) .nil)))))) rfl) ?_
  intro n2 s3 hs2 KL2 hKL2
  unfold pG at hs2
  refine .q fun K8 k8 => ?_
  refine rg 0 ?_
  conv => whnf
  refine k8 _ _ ?_
  refine .q fun K9 k9 => ?_
  refine .aK rfl hs2 (fun hc1 hs2 => ?_) (fun hc1 hs2 => ?_)
  ·refine .skip ?_
   conv => whnf
   refine k9 _ _ ?_
   refine .q fun K10 k10 => ?_
   refine .block ?_
   refine .q fun K11 k11 => ?_
   refine rg 1 ?_
   conv => whnf
   obtain ⟨x5, hx5, hs2⟩ := ob hs2
   refine yH (l := s3.1) (l0 := s3.1) hx5 (by simp [upd]) ?_
   conv => whnf
   refine QB (l := s3.1) (f := ak) (cs := [.str x5.name, .int .i64 x5.ty.kind, .str x5.ty.name, .slice (List.map aH x5.ty.kids) .shared]) hx5 (rfl) (by decide) ?_
   conv => whnf
   refine k11 _ _ ?_
   refine rg 0 ?_
   conv => whnf
   obtain ⟨x6, hx6, hs2⟩ := ob hs2
   refine aB (La _ _ _ hx6) Za (.cons (.same _) .nil) (fun g => by simp) (fun g => by simp) ?_
   conv => whnf
   obtain ⟨x7, hx7, hs2⟩ := ob hs2
   refine yH (l := s3.1) (l0 := s3.1) hx7 (by simp [upd]) ?_
   conv => whnf
   refine ahs (l := s3.1) (f := ak) (v := (Decl.mk x7.name x6)) (j := 1) hx7 (by decide) (Nat.le_of_ble_eq_true rfl) rfl ?_
   conv => whnf
   refine ⟨by kernel_rfl, ?_⟩
   conv => whnf
   refine k10 _ _ ?_
   refine .know 6 0 fun hv1 => ?_
   refine .know 37 0 fun hv2 => ?_
   refine rg 0 ?_
   conv => whnf
   refine ⟨(s3.2 + 1), by have := bY hv1; have := bY hv2; have h8 := of_decide_eq_true hc1; exact bB (by omega) (by omega), ?_⟩
   conv => whnf
   exact hKL2 _ _ _ hs2 (wk [some 0, some 1, some 2, some 3, some 4, some 5] (.u2 (.c rfl (.c rfl (.u32 (.cons (.same (y7 (by simp [upd]) rfl)) (.c rfl (.c rfl (.u8 (.u4 (.u2 .nil)))))))))) (.b rfl (.c rfl (.c rfl .nil)) (.b rfl (.c rfl (.cons (.same (y7 (by simp [upd]) rfl)) .nil)) (.old (.arr' aF (aN _)) (.old (.arr' au (aN _)) (.old (.arr' aF (aN _)) (.old (.arr' au (aN _)) .nil)))))) rfl)
  refine .exit ?_
  conv => whnf
  exact hR2 _ (sj hs2).symm _ _ (wk [some 0, some 1, some 3, some 4, some 5, some 2] (.u2 (.c rfl (.c rfl (.u32 (.u16 (.u .nil)))))) (.b rfl (.c rfl (.c rfl .nil)) (.b rfl (.c rfl (.c rfl .nil)) (.old (.arr' au (aN _)) (.old (.arr' aF (aN _)) (.old (.arr' au (aN _)) (.old (.arr' aF (aN _)) .nil)))))) rfl)
 refine .loopS (oQ n p0) (fun (s1 : (List Carrier) × Int) => (u2 (.ptr 0 0 :: (.ptr 1 0 :: (u8 (u4 (u2 (.psl 2 2 (List.length s1.1) :: (.int .i64 (p0.carriers.length : Int) :: (.int .i64 s1.2 :: (u32 []))))))))))) (fun (s1 : (List Carrier) × Int) => [.box [.psl 3 2 (List.length ([] : List Carrier)), .psl 4 4 (List.length ([] : List Decl))], .box [.psl 2 2 (List.length s1.1), .psl 5 4 (List.length p0.names)], .arr 2 (List.map aj s1.1), .arr 2 (List.map aj ([] : List Carrier)), .arr 4 (List.map ak ([] : List Decl)), .arr 4 (List.map ak p0.names)]) ho1 (fun _ => rfl) (wk [some 1, some 4, some 2, none, none, some 3] (.u2 (.c rfl (.c rfl (.u8 (.u4 (.u2 (.c rfl (.c rfl (.c rfl (.u32 .nil)))))))))) (.b rfl (.cons (.nilP _ _) (.cons (.nilP _ _) .nil)) (.b rfl (.c rfl (.c rfl .nil)) (.old (.arr' au (aN _)) (.w rfl (.w rfl (.old (.arr' aF (aN _)) .nil)))))) rfl) ?_
 intro n1 s1 hs1 KL1 hKL1
 unfold oQ at hs1
 refine .q fun K12 k12 => ?_
 refine rg 0 ?_
 conv => whnf
 refine k12 _ _ ?_
 refine .q fun K13 k13 => ?_
 refine .aK rfl hs1 (fun hc2 hs1 => ?_) (fun hc2 hs1 => ?_)
 ·refine .skip ?_
  conv => whnf
  refine k13 _ _ ?_
  refine .q fun K14 k14 => ?_
  refine .block ?_
  refine .q fun K15 k15 => ?_
  refine rg 1 ?_
  conv => whnf
  obtain ⟨x8, hx8, hs1⟩ := ob hs1
  refine yH (l := s1.1) (l0 := s1.1) hx8 (by simp [upd]) ?_
  conv => whnf
  refine QB (l := s1.1) (f := aj) (cs := [.str x8.name, .slice (List.map encS x8.elems) .shared]) hx8 (rfl) (by decide) ?_
  conv => whnf
  refine k15 _ _ ?_
  refine rg 0 ?_
  conv => whnf
  obtain ⟨x9, hx9, hs1⟩ := ob hs1
  refine aB (Df _ _ _ hx9) aeK (.cons (.same _) .nil) (fun g => by simp) (fun g => by simp) ?_
  conv => whnf
  obtain ⟨x10, hx10, hs1⟩ := ob hs1
  refine aB (BZ _ _ _ hx10) aer (.cons (.same _) .nil) (fun g => by simp) (fun g => by simp) ?_
  conv => whnf
  obtain ⟨x11, hx11, hs1⟩ := ob hs1
  refine yH (l := s1.1) (l0 := s1.1) hx11 (by simp [upd]) ?_
  conv => whnf
  refine ahs (l := s1.1) (f := aj) (v := (Carrier.mk x11.name x10)) (j := 1) hx11 (by decide) (Nat.le_of_ble_eq_true rfl) rfl ?_
  conv => whnf
  refine ⟨by kernel_rfl, ?_⟩
  conv => whnf
  refine k14 _ _ ?_
  refine .know 4 0 fun hv3 => ?_
  refine .know 19 0 fun hv4 => ?_
  refine rg 0 ?_
  conv => whnf
  refine ⟨(s1.2 + 1), by have := bY hv3; have := bY hv4; have h8 := of_decide_eq_true hc2; exact bB (by omega) (by omega), ?_⟩
  conv => whnf
  exact hKL1 _ _ _ hs1 (wk [some 0, some 1, some 2, some 3, some 4, some 5] (.u2 (.c rfl (.c rfl (.u8 (.u4 (.u2 (.cons (.same (y7 (by simp [upd]) rfl)) (.c rfl (.c rfl (.u32 .nil)))))))))) (.b rfl (.c rfl (.c rfl .nil)) (.b rfl (.cons (.same (y7 (by simp [upd]) rfl)) (.c rfl .nil)) (.old (.arr' au (aN _)) (.old (.arr' au (aN _)) (.old (.arr' aF (aN _)) (.old (.arr' aF (aN _)) .nil)))))) rfl)
 refine .exit ?_
 conv => whnf
 exact hR1 _ (sj hs1).symm _ _ (wk [some 0, some 1, some 3, some 4, some 2, some 5] (.u2 (.c rfl (.c rfl (.u32 (.u16 (.u .nil)))))) (.b rfl (.c rfl (.c rfl .nil)) (.b rfl (.c rfl (.c rfl .nil)) (.old (.arr' au (aN _)) (.old (.arr' aF (aN _)) (.old (.arr' au (aN _)) (.old (.arr' aF (aN _)) .nil)))))) rfl)
theorem yI (n : Nat) (p0 : S_api_World) (r : (List Carrier) × (List Decl) × (List Int) × (List Val)) (h : lQ n p0 = some r) : aA Tryz.prog 55 [.agg [.slice (List.map aj p0.env.carriers) .shared, .slice (List.map ak p0.env.names) .shared, .slice (List.map encI p0.sizes) .shared, .slice (List.map ah p0.values) .shared]] [] (.agg [.slice (List.map aj r.1) .shared, .slice (List.map ak r.2.1) .shared, .slice (List.map encI r.2.2.1) .shared, .psl 0 4 (List.length r.2.2.2)]) [.arr 4 (List.map ah r.2.2.2)] := by
 unfold lQ at h
 refine aC false Tryz.func55 rfl (by rw [Tryz.ntmps55]; exact Nat.le_of_ble_eq_true rfl) fun Q hQ t ht => ?_
 conv at ht => whnf
 subst ht
 refine .q fun K1 k1 => ?_
 refine rg 2 ?_
 conv => whnf
 refine k1 _ _ ?_
 refine .q fun K2 k2 => ?_
 refine rg 1 ?_
 conv => whnf
 obtain ⟨x1, hx1, h⟩ := ob h
 refine aB (Oi _ _ _ hx1) aeQ (.cons (.same _) .nil) (fun g => by simp) (fun g => by simp) ?_
 conv => whnf
 obtain ⟨x2, hx2, h⟩ := ob h
 refine aB (Gt _ _ _ hx2) afk (.cons (.same _) .nil) (fun g => by simp) (fun g => by simp) ?_
 conv => whnf
 obtain ⟨x3, hx3, h⟩ := ob h
 refine aB (EL _ _ _ hx3) aep (.cons (.same _) .nil) (fun g => by simp) (fun g => by simp) ?_
 conv => whnf
 refine ⟨by kernel_rfl, ?_⟩
 conv => whnf
 refine k2 _ _ ?_
 refine .q fun K3 k3 => ?_
 refine .q fun K4 k4 => ?_
 refine rg 0 ?_
 conv => whnf
 refine aQ (l := p0.values) (f := ah) ?_
 conv => whnf
 refine k4 _ _ ?_
 refine .block ?_
 obtain ⟨o1, ho1, h⟩ := ob h
 have hR1 : ∀ s2 : List Val, o1 = .nx s2 → ∀ t9 h9, Le 0 t9 h9 (u2 (.ptr 0 0 :: (.ptr 1 0 :: (u16 (u8 (u4 (u2 []))))))) [.box [.psl 2 2 (List.length ([] : List Carrier)), .psl 3 4 (List.length ([] : List Decl)), .psl 4 1 (List.length ([] : List Int)), .psl 5 4 (List.length ([] : List Val))], .box [.slice (List.map aj x1.carriers) .shared, .slice (List.map ak x1.names) .shared, .slice (List.map encI x3) .shared, .psl 6 4 (List.length s2)], .arr 2 (List.map aj ([] : List Carrier)), .arr 4 (List.map ak ([] : List Decl)), .arr 1 (List.map encI ([] : List Int)), .arr 4 (List.map ah ([] : List Val)), .arr 4 (List.map ah s2)] → K3 t9 h9 := by
  intro s2 ho
  subst ho
  dsimp only [LR.el] at h
  intro t9 h9 hw
  refine k3 _ _ (AW.le hw ?_)
  refine .q fun K5 k5 => ?_
  refine rg 0 ?_
  conv => whnf
  obtain ⟨x4, hx4, h⟩ := ob h
  refine bF [6] [] [.psl 0 4 (List.length s2)] [.psl 6 4 (List.length s2)] (xW _ _ _ hx4) Xa rfl (.cons (congrArg (AObj.arr _) (aD _ _)) .nil) (by simp; try decide) (.cons (.same _) .nil) (rn := .psl 6 4 (List.length s2)) (by simp; try decide) (Hn := [.arr 4 (List.map ah s2)]) ((bJ (congrArg (AObj.arr _) (aD _ _)) rfl)) ?_
  conv => whnf
  refine k5 _ _ ?_
  refine .q fun K6 k6 => ?_
  refine rg 0 ?_
  conv => whnf
  refine k6 _ _ ?_
  refine .ret ?_
  conv => whnf
  have e9 := sj h
  subst e9
  refine hQ _ _ _ (d9 (u2 (.ptr 0 0 :: (u16 (u8 (u4 (u2 (.unk :: []))))))) [.box [.slice (List.map aj x1.carriers) .shared, .slice (List.map ak x1.names) .shared, .slice (List.map encI x3) .shared, .psl 1 4 (List.length s2)], .arr 4 (List.map ah s2)] (wk [some 0, some 6] (.u2 (.c rfl (.u16 (.u8 (.u4 (.u2 (.u .nil))))))) (.b rfl (.e au (.e aF (.e aR (.c rfl .nil)))) (.old (.arr' aD (aN _)) .nil)) rfl) (bH aJ [1] rfl (.cons (congrArg (AObj.arr _) (aD _ _)) .nil) ?_))
  conv => whnf
  first | rfl | (simp; done) | (simp; rfl) | (simp; and_intros <;> rfl)
 refine .loopS (lg n p0) (fun (s1 : Int × (List Val)) => (u2 (.ptr 0 0 :: (.ptr 1 0 :: (u8 (u2 (.unk :: (.slice (List.map ah p0.values) .shared :: (.int .i64 (p0.values.length : Int) :: (.int .i64 s1.1 :: (u16 []))))))))))) (fun (s1 : Int × (List Val)) => [.box [.psl 2 2 (List.length ([] : List Carrier)), .psl 3 4 (List.length ([] : List Decl)), .psl 4 1 (List.length ([] : List Int)), .psl 5 4 (List.length ([] : List Val))], .box [.slice (List.map aj x1.carriers) .shared, .slice (List.map ak x1.names) .shared, .slice (List.map encI x3) .shared, .psl 6 4 (List.length s1.2)], .arr 2 (List.map aj ([] : List Carrier)), .arr 4 (List.map ak ([] : List Decl)), .arr 1 (List.map encI ([] : List Int)), .arr 4 (List.map ah ([] : List Val)), .arr 4 (List.map ah s1.2)]) ho1 (fun _ => rfl) (wk [some 1, some 2, none, none, none, none, none] (.u2 (.c rfl (.c rfl (.u8 (.u2 (.u (.e aD (.c rfl (.c rfl (.u16 .nil)))))))))) (.b rfl (.cons (.nilP _ _) (.cons (.nilP _ _) (.cons (.nilP _ _) (.cons (.nilP _ _) .nil)))) (.b rfl (.e au (.e aF (.e aR (.cons (.nilP _ _) .nil)))) (.w rfl (.w rfl (.w rfl (.w rfl (.w rfl .nil))))))) rfl) ?_
 intro n1 s1 hs1 KL1 hKL1
 unfold lg at hs1
 refine .q fun K7 k7 => ?_
 refine rg 0 ?_
 conv => whnf
 refine k7 _ _ ?_
 refine .q fun K8 k8 => ?_
 refine .aK rfl hs1 (fun hc1 hs1 => ?_) (fun hc1 hs1 => ?_)
 ·refine .skip ?_
  conv => whnf
  refine k8 _ _ ?_
  refine .q fun K9 k9 => ?_
  refine .block ?_
  refine .q fun K10 k10 => ?_
  refine rg 1 ?_
  conv => whnf
  obtain ⟨x5, hx5, hs1⟩ := ob hs1
  refine aU (l := p0.values) (f := ah) (cs := [.int .i64 ((x5).kind), .int .i64 ((x5).n), .str ((x5).name), .slice (List.map ah ((x5).kids)) .shared]) hx5 (aX x5) rfl ?_
  conv => whnf
  refine k10 _ _ ?_
  refine rg 2 ?_
  conv => whnf
  obtain ⟨x6, hx6, hs1⟩ := ob hs1
  refine aB (uT _ _ _ hx6) Iw (.cons (.same _) .nil) (fun g => by simp) (fun g => by simp) ?_
  conv => whnf
  refine ⟨List.map ah ([x6]), by simp only [List.map_cons, List.map_nil, aX]; try rfl, ?_⟩
  conv => whnf
  obtain ⟨x7, hx7, hs1⟩ := ob hs1
  refine yM (l := s1.2) (l' := s1.2) (ys := ([x6])) (f := ah) hx7 (aN _) lY ?_
  conv => whnf
  refine ⟨by kernel_rfl, ?_⟩
  conv => whnf
  refine k9 _ _ ?_
  refine .know 17 0 fun hv1 => ?_
  refine .know 15 0 fun hv2 => ?_
  refine rg 0 ?_
  conv => whnf
  refine ⟨(s1.1 + 1), by have := bY hv1; have := gI hv2; have h8 := of_decide_eq_true hc1; exact bB (by omega) (by omega), ?_⟩
  conv => whnf
  exact hKL1 _ _ _ hs1 (wk [some 0, some 1, some 2, some 3, some 4, some 5, some 9] (.u2 (.c rfl (.c rfl (.u8 (.u2 (.u (.e aD (.c rfl (.c rfl (.u16 .nil)))))))))) (.b rfl (.c rfl (.c rfl (.c rfl (.c rfl .nil)))) (.b rfl (.e au (.e aF (.e aR (.c rfl .nil)))) (.old (.arr' au (aN _)) (.old (.arr' aF (aN _)) (.old (.arr' aR (aN _)) (.old (.arr' aD (aN _)) (.old (.arr' aD (aN _)) .nil))))))) rfl)
 refine .exit ?_
 conv => whnf
 exact hR1 _ (sj hs1).symm _ _ (wk [some 0, some 1, some 2, some 3, some 4, some 5, some 6] (.u2 (.c rfl (.c rfl (.u16 (.u8 (.u4 (.u2 .nil))))))) (.b rfl (.c rfl (.c rfl (.c rfl (.c rfl .nil)))) (.b rfl (.e au (.e aF (.e aR (.c rfl .nil)))) (.old (.arr' au (aN _)) (.old (.arr' aF (aN _)) (.old (.arr' aR (aN _)) (.old (.arr' aD (aN _)) (.old (.arr' aD (aN _)) .nil))))))) rfl)
end Abs
end Go.Proofs.YtkopaeklihhdlaaGreat
