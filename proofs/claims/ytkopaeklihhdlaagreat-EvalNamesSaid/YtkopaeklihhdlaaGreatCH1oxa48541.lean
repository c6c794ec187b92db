/-
  Contracts of Go functions (printed). Conditions: none.
-/
import Derived.KernelRfl
import Derived.Test.YtkopaeklihhdlaaGreatCJDoxccd608
import Derived.Test.YtkopaeklihhdlaaGreatCExtKox61c3e4
import Derived.Test.YtkopaeklihhdlaaGreatCE14ox329c56
set_option linter.unusedSimpArgs false
set_option linter.unusedVariables false
namespace Go.Proofs.YtkopaeklihhdlaaGreat
namespace Abs
open Go Go.Proofs
set_option maxRecDepth 100000
set_option maxHeartbeats 40000000
abbrev qbg (qdo : Val → Option Val) : Prop := ∀ (p0 : Val) (r : Val), qdo p0 = some r → au Tryz.prog 52 [.agg [.int .i64 p0.kind, .int .i64 p0.n, .str p0.name, .slice (List.map aj p0.kids) .shared]] [] (.agg [.int .i64 r.kind, .int .i64 r.n, .str r.name, .slice (List.map aj r.kids) .shared]) []
theorem Fp (n : Nat) (qdo : Val → Option Val) (qby : qbg qdo) (p0 : Val) (r : Val) (h : nN n qdo p0 = some r) : au Tryz.prog 52 [.agg [.int .i64 p0.kind, .int .i64 p0.n, .str p0.name, .slice (List.map aj p0.kids) .shared]] [] (.agg [.int .i64 r.kind, .int .i64 r.n, .str r.name, .slice (List.map aj r.kids) .shared]) [] := by
 unfold nN at h
 refine aB true Tryz.func52 rfl (by rw [Tryz.ntmps52]; exact Nat.le_of_ble_eq_true rfl) fun Q hQ t ht => ?_
 conv at ht => whnf
 subst ht
 refine .q fun K1 k1 => ?_
 refine rg 2 ?_
 conv => whnf
 refine k1 _ _ ?_
 refine .q fun K2 k2 => ?_
 refine rg 1 ?_
 conv => whnf
 obtain ⟨x1, hx1, h⟩ := ob h
 refine bH [] [2] [.slice (List.map aj p0.kids) .shared] [.slice (List.map aj p0.kids) .shared] (Dq _ _ _ hx1) ado rfl .nil (by simp; try decide) (.cons (.same _) .nil) (rn := .psl 2 4 (List.length p0.kids)) (by simp; try decide) (Hn := [.arr 4 (List.map aj p0.kids)]) ((bS (congrArg (AObj.arr _) (aI _ _)) rfl)) ?_
 conv => whnf
 obtain ⟨x2, hx2, h⟩ := ob h
 refine bH [2] [] [.psl 0 4 (List.length p0.kids)] [.psl 2 4 (List.length p0.kids)] (wQ _ _ _ hx2) aaJ rfl (.cons (congrArg (AObj.arr _) (aI _ _)) .nil) (by simp; try decide) (.cons (.same _) .nil) (rn := .psl 2 4 (List.length p0.kids)) (by simp; try decide) (Hn := [.arr 4 (List.map aj p0.kids)]) ((bS (congrArg (AObj.arr _) (aI _ _)) rfl)) ?_
 conv => whnf
 refine k2 _ _ ?_
 refine .q fun K3 k3 => ?_
 refine .q fun K4 k4 => ?_
 refine rg 0 ?_
 conv => whnf
 refine k4 _ _ ?_
 refine .block ?_
 obtain ⟨o1, ho1, h⟩ := ob h
 have hR1 : ∀ s2 : List Val, o1 = .nx s2 → ∀ t9 h9, Le 0 t9 h9 (.unk :: (.ptr 0 0 :: (.ptr 1 0 :: (u16 (u4 (u2 (.unk :: []))))))) [.box [.int .i64 p0.kind, .int .i64 p0.n, .str p0.name, .psl 2 4 (List.length s2)], .box [.int .i64 0, .int .i64 0, .str ([] : Str), .psl 3 4 (List.length ([] : List Val))], .arr 4 (List.map aj s2), .arr 4 (List.map aj ([] : List Val))] → K3 t9 h9 := by
  intro s2 ho
  subst ho
  dsimp only [LR.el] at h
  intro t9 h9 hw
  refine k3 _ _ (AW.le hw ?_)
  refine .q fun K5 k5 => ?_
  refine rg 0 ?_
  conv => whnf
  refine k5 _ _ ?_
  refine .le (t' := (.unk :: (.ptr 0 0 :: (.ptr 1 0 :: (u16 (u4 (u2 (.agg [.int .i64 p0.kind, .int .i64 p0.n, .str p0.name, .slice (List.map aj s2) .shared] :: [])))))))) (h' := [.box [.int .i64 p0.kind, .int .i64 p0.n, .str p0.name, .slice (List.map aj s2) .shared], .box [.int .i64 p0.kind, .int .i64 p0.n, .str p0.name, .slice (List.map aj s2) .shared], .arr 4 (List.map aj ([] : List Val))]) (wk [some 0, some 1, some 3] (.u (.c rfl (.c rfl (.u16 (.u4 (.u2 (.cons (.agg' (.c rfl (.c rfl (.c rfl (.cons (.kN aI (aP _) rfl rfl) .nil))))) .nil))))))) (.b rfl (.c rfl (.c rfl (.c rfl (.cons (.kN aI (aP _) rfl rfl) .nil)))) (.b rfl (.c rfl (.c rfl (.c rfl (.cons (.kN aI (aP _) rfl rfl) .nil)))) (.old (.arr' aI (aP _)) .nil))) rfl) ?_
  refine .ret ?_
  conv => whnf
  have e9 := sj h
  subst e9
  refine hQ _ _ _ (aG aK (fun g => by simp) ?_)
  conv => whnf
  try rfl
 refine .loopS (kX n qdo p0) (fun (s1 : (List Val) × Int) => (.unk :: (.ptr 0 0 :: (.ptr 1 0 :: (u8 (.psl 2 4 (List.length s1.1) :: (.int .i64 (p0.kids.length : Int) :: (.int .i64 s1.2 :: (u8 (u4 [])))))))))) (fun (s1 : (List Val) × Int) => [.box [.int .i64 p0.kind, .int .i64 p0.n, .str p0.name, .psl 2 4 (List.length s1.1)], .box [.int .i64 0, .int .i64 0, .str ([] : Str), .psl 3 4 (List.length ([] : List Val))], .arr 4 (List.map aj s1.1), .arr 4 (List.map aj ([] : List Val))]) ho1 (fun _ => rfl) (wk [some 0, some 1, some 2, none] (.u (.c rfl (.c rfl (.u8 (.c rfl (.c rfl (.c rfl (.u8 (.u4 .nil))))))))) (.b rfl (.c rfl (.c rfl (.c rfl (.c rfl .nil)))) (.b rfl (.c rfl (.c rfl (.c rfl (.cons (.nilP _ _) .nil)))) (.old (.arr' aI (aP _)) (.w rfl .nil)))) rfl) ?_
 intro n1 s1 hs1 KL1 hKL1
 unfold kX at hs1
 refine .q fun K6 k6 => ?_
 refine rg 0 ?_
 conv => whnf
 refine k6 _ _ ?_
 refine .q fun K7 k7 => ?_
 refine .aL rfl hs1 (fun hc1 hs1 => ?_) (fun hc1 hs1 => ?_)
 ·refine .skip ?_
  conv => whnf
  refine k7 _ _ ?_
  refine .q fun K8 k8 => ?_
  refine .block ?_
  refine .q fun K9 k9 => ?_
  refine rg 1 ?_
  conv => whnf
  obtain ⟨x3, hx3, hs1⟩ := ob hs1
  refine Jj (l := s1.1) (l0 := s1.1) hx3 (by simp [upd]) ?_
  conv => whnf
  refine ldp (l := s1.1) (f := aj) (cs := [.int .i64 x3.kind, .int .i64 x3.n, .str x3.name, .slice (List.map aj x3.kids) .shared]) hx3 (bg x3) (by decide) ?_
  conv => whnf
  refine k9 _ _ ?_
  refine rg 0 ?_
  conv => whnf
  obtain ⟨x4, hx4, hs1⟩ := ob hs1
  refine aD (qby _ _ hx4) GQ (.cons (.same _) .nil) (fun g => by simp) (fun g => by simp) ?_
  conv => whnf
  obtain ⟨x5, hx5, hs1⟩ := ob hs1
  refine Jj (l := s1.1) (l0 := s1.1) hx5 (by simp [upd]) ?_
  conv => whnf
  refine stp (l := s1.1) (f := aj) (v := x4) hx5 ((bg _).symm) (by decide) ?_
  conv => whnf
  refine ⟨by kernel_rfl, ?_⟩
  conv => whnf
  refine k8 _ _ ?_
  refine .know 3 0 fun hv1 => ?_
  refine .know 12 0 fun hv2 => ?_
  refine rg 0 ?_
  conv => whnf
  refine ⟨(s1.2 + 1), by have := dn hv1; have := dn hv2; have h8 := of_decide_eq_true hc1; exact bD (by omega) (by omega), ?_⟩
  conv => whnf
  exact hKL1 _ _ _ hs1 (wk [some 0, some 1, some 2, some 3] (.u (.c rfl (.c rfl (.u8 (.cons (.same (GN (by simp [upd]) rfl)) (.c rfl (.c rfl (.u8 (.u4 .nil))))))))) (.b rfl (.c rfl (.c rfl (.c rfl (.cons (.same (GN (by simp [upd]) rfl)) .nil)))) (.b rfl (.c rfl (.c rfl (.c rfl (.c rfl .nil)))) (.old (.arr' aI (aP _)) (.old (.arr' aI (aP _)) .nil)))) rfl)
 refine .exit ?_
 conv => whnf
 exact hR1 _ (sj hs1).symm _ _ (wk [some 0, some 1, some 2, some 3] (.u (.c rfl (.c rfl (.u16 (.u4 (.u2 (.u .nil))))))) (.b rfl (.c rfl (.c rfl (.c rfl (.c rfl .nil)))) (.b rfl (.c rfl (.c rfl (.c rfl (.c rfl .nil)))) (.old (.arr' aI (aP _)) (.old (.arr' aI (aP _)) .nil)))) rfl)
theorem LC (n : Nat) : qbg (gu n) := by
 induction n with
 | zero => exact (fun p0 r h => by unfold gu at h; cases h)
 | succ n ih =>
  exact (fun p0 r h => Fp n _ ih p0 r (by unfold gu at h; exact h))
theorem sV (n : Nat) : qbg (gu n) := (LC n)
abbrev qa9 (qdh : (List Val) → Option (List Val)) : Prop := ∀ (p0 : List Val) (r : List Val), qdh p0 = some r → au Tryz.prog 65 [.slice (List.map aj p0) .shared] [] (.slice (List.map aj r) .shared) []
abbrev qba (qdi : Val → Option Val) : Prop := ∀ (p0 : Val) (r : Val), qdi p0 = some r → au Tryz.prog 54 [.agg [.int .i64 p0.kind, .int .i64 p0.n, .str p0.name, .slice (List.map aj p0.kids) .shared]] [] (.agg [.int .i64 r.kind, .int .i64 r.n, .str r.name, .slice (List.map aj r.kids) .shared]) []
theorem IU (n : Nat) (qdh : (List Val) → Option (List Val)) (qdi : Val → Option Val) (qbq : qa9 qdh) (qbr : qba qdi) (p0 : List Val) (r : List Val) (h : pF n qdh qdi p0 = some r) : au Tryz.prog 65 [.slice (List.map aj p0) .shared] [] (.slice (List.map aj r) .shared) [] := by
 unfold pF at h
 refine aB true Tryz.func65 rfl (by rw [Tryz.ntmps65]; exact Nat.le_of_ble_eq_true rfl) fun Q hQ t ht => ?_
 conv at ht => whnf
 subst ht
 refine .q fun K1 k1 => ?_
 refine rg 0 ?_
 conv => whnf
 refine k1 _ _ ?_
 refine .q fun K2 k2 => ?_
 refine rg 0 ?_
 conv => whnf
 refine k2 _ _ ?_
 refine .q fun K3 k3 => ?_
 refine .q fun K4 k4 => ?_
 refine rg 0 ?_
 conv => whnf
 refine k4 _ _ ?_
 refine .block ?_
 obtain ⟨o1, ho1, h⟩ := ob h
 have hR1 : ∀ s2 : List Val, o1 = .nx s2 → ∀ t9 h9, Le 0 t9 h9 (u2 (.unk :: (.slice (List.map aj s2) (.tip 0 4) :: (u16 [])))) [.tip (List.length s2 * 4)] → K3 t9 h9 := by
  intro s2 ho
  subst ho
  dsimp only [LR.el] at h
  intro t9 h9 hw
  refine k3 _ _ (AW.le hw ?_)
  refine .q fun K5 k5 => ?_
  refine rg 0 ?_
  conv => whnf
  refine k5 _ _ ?_
  refine .ret ?_
  conv => whnf
  have e9 := sj h
  subst e9
  refine hQ _ _ _ (aG aK (fun g => by simp) ?_)
  conv => whnf
  try rfl
 refine .loopS (nK n qdh qdi p0) (fun (s1 : (List Val) × Int) => (.slice (List.map aj p0) .shared :: (u2 (.slice (List.map aj s1.1) (.tip 0 4) :: (.int .i64 s1.2 :: (u8 (u4 (u2 (.unk :: []))))))))) (fun (s1 : (List Val) × Int) => [.tip (List.length s1.1 * 4)]) ho1 (fun _ => rfl) (wk [none] (.e aI (.u2 (.cons (.nils _ _) (.c rfl (.u8 (.u4 (.u2 (.u .nil)))))))) (.w rfl .nil) rfl) ?_
 intro n1 s1 hs1 KL1 hKL1
 unfold nK at hs1
 refine .q fun K6 k6 => ?_
 refine .q fun K7 k7 => ?_
 refine rg 0 ?_
 conv => whnf
 refine aQ (l := p0) (f := aj) ?_
 conv => whnf
 refine k7 _ _ ?_
 refine .aL rfl hs1 (fun hc1 hs1 => ?_) (fun hc1 hs1 => ?_)
 ·refine .skip ?_
  conv => whnf
  refine k6 _ _ ?_
  refine .q fun K8 k8 => ?_
  refine .block ?_
  refine rg 2 ?_
  conv => whnf
  obtain ⟨x1, hx1, hs1⟩ := ob hs1
  refine aW (l := p0) (f := aj) (cs := [.int .i64 ((x1).kind), .int .i64 ((x1).n), .str ((x1).name), .slice (List.map aj ((x1).kids)) .shared]) hx1 (bg x1) rfl ?_
  conv => whnf
  obtain ⟨x2, hx2, hs1⟩ := ob hs1
  refine aD (qbr _ _ hx2) MN (.cons (.same _) .nil) (fun g => by simp) (fun g => by simp) ?_
  conv => whnf
  refine ⟨List.map aj ([x2]), by simp only [List.map_cons, List.map_nil, bg]; try rfl, ?_⟩
  conv => whnf
  obtain ⟨x3, hx3, hs1⟩ := ob hs1
  refine gP (l := s1.1) (ys := [x2]) (f := aj) hx3 nD rfl rfl rfl ?_
  conv => whnf
  refine k8 _ _ ?_
  refine .know 4 0 fun hv1 => ?_
  refine .know 0 0 fun hv2 => ?_
  refine rg 0 ?_
  conv => whnf
  refine ⟨(s1.2 + 1), by have := dn hv1; have := gX hv2; have h8 := of_decide_eq_true hc1; exact bD (by omega) (by omega), ?_⟩
  conv => whnf
  exact hKL1 _ _ _ hs1 (wk [some 2] (.e aI (.u2 (.cons (.gB (aI _ _) rfl) (.c rfl (.u8 (.u4 (.u2 (.u .nil)))))))) (.t rfl .nil) rfl)
 refine .exit ?_
 conv => whnf
 exact hR1 _ (sj hs1).symm _ _ (li (.u2 (.u (.s (.u16 .n)))))
theorem MQ (n : Nat) (qdh : (List Val) → Option (List Val)) (qdi : Val → Option Val) (qbq : qa9 qdh) (qbr : qba qdi) (p0 : Val) (r : Val) (h : sH n qdh qdi p0 = some r) : au Tryz.prog 54 [.agg [.int .i64 p0.kind, .int .i64 p0.n, .str p0.name, .slice (List.map aj p0.kids) .shared]] [] (.agg [.int .i64 r.kind, .int .i64 r.n, .str r.name, .slice (List.map aj r.kids) .shared]) [] := by
 unfold sH at h
 refine aB true Tryz.func54 rfl (by rw [Tryz.ntmps54]; exact Nat.le_of_ble_eq_true rfl) fun Q hQ t ht => ?_
 conv at ht => whnf
 subst ht
 refine .q fun K1 k1 => ?_
 refine rg 2 ?_
 conv => whnf
 refine k1 _ _ ?_
 refine .q fun K2 k2 => ?_
 refine rg 1 ?_
 conv => whnf
 refine k2 _ _ ?_
 refine .q fun K3 k3 => ?_
 refine rg 0 ?_
 conv => whnf
 obtain ⟨x1, hx1, h⟩ := ob h
 refine aD (qbq _ _ hx1) TK (.cons (.same _) .nil) (fun g => by simp) (fun g => by simp) ?_
 conv => whnf
 refine k3 _ _ ?_
 refine .q fun K4 k4 => ?_
 refine rg 0 ?_
 conv => whnf
 refine k4 _ _ ?_
 refine .ret ?_
 conv => whnf
 have e9 := sj h
 subst e9
 refine hQ _ _ _ (aG aK (fun g => by simp) ?_)
 conv => whnf
 try rfl
theorem EN (n : Nat) : qa9 (ng n) ∧ qba (kC n) := by
 induction n with
 | zero => exact ⟨(fun p0 r h => by unfold ng at h; cases h), (fun p0 r h => by unfold kC at h; cases h)⟩
 | succ n ih =>
  exact ⟨(fun p0 r h => IU n _ _ ih.1 ih.2 p0 r (by unfold ng at h; exact h)), (fun p0 r h => MQ n _ _ ih.1 ih.2 p0 r (by unfold kC at h; exact h))⟩
theorem El (n : Nat) : qba (kC n) := (EN n).2
theorem Mc (n : Nat) (p0 : Decl) (p1 : Str) (r : Bool) (h : Ga n p0 p1 = some r) : au Tryz.prog 106 [.agg [.str p0.name, .int .i64 p0.ty.kind, .str p0.ty.name, .slice (List.map aC p0.ty.kids) .shared], .ptr 0 0] [.box [.str p1]] (.bool r) [.box [.str p1]] := by
 unfold Ga at h
 refine aB true Tryz.func106 rfl (by rw [Tryz.ntmps106]; exact Nat.le_of_ble_eq_true rfl) fun Q hQ t ht => ?_
 conv at ht => whnf
 subst ht
 refine .q fun K1 k1 => ?_
 refine rg 1 ?_
 conv => whnf
 refine k1 _ _ ?_
 refine .q fun K2 k2 => ?_
 refine rg 0 ?_
 conv => whnf
 refine k2 _ _ ?_
 refine .ret ?_
 conv => whnf
 have e9 := sj h
 subst e9
 refine hQ _ _ _ (dZ (u2 (.unk :: (.bool (p0.name == p1) :: (u4 [])))) [.box [.str p1]] (wk [some 0] (.u2 (.u (.c rfl (.u4 .nil)))) (.b rfl (.c rfl .nil) .nil) rfl) (bG aK [0] rfl (.cons (rfl) .nil) ?_))
 conv => whnf
 first | rfl | (simp; done) | (simp; rfl) | (simp; and_intros <;> rfl)
theorem yG (n : Nat) (p0 : List Decl) (p1 : Str) (r : Int) (h : jZ n p0 p1 = some r) : au Tryz.prog 105 [.slice (List.map ak p0) .shared, .func 106 [.ptr 0 0]] [.box [.str p1]] (.int .i64 r) [.box [.str p1]] := by
 unfold jZ at h
 refine aB true Tryz.func105 rfl (by rw [Tryz.ntmps105]; exact Nat.le_of_ble_eq_true rfl) fun Q hQ t ht => ?_
 conv at ht => whnf
 subst ht
 refine .q fun K1 k1 => ?_
 refine rg 0 ?_
 conv => whnf
 refine k1 _ _ ?_
 refine .q fun K2 k2 => ?_
 refine .q fun K3 k3 => ?_
 refine rg 0 ?_
 conv => whnf
 refine aQ (l := p0) (f := ak) ?_
 conv => whnf
 refine k3 _ _ ?_
 refine .block ?_
 obtain ⟨o1, ho1, h⟩ := ob h
 have hR1 : ∀ s2 : Unit, o1 = .nx s2 → ∀ t9 h9, Le 1 t9 h9 (u16 (u2 (.unk :: []))) [.box [.str p1]] → K2 t9 h9 := by
  intro s2 ho
  subst ho
  dsimp only [LR.el] at h
  intro t9 h9 hw
  refine k2 _ _ (AW.le hw ?_)
  refine .q fun K4 k4 => ?_
  refine rg 0 ?_
  conv => whnf
  refine k4 _ _ ?_
  refine .ret ?_
  conv => whnf
  have e9 := sj h
  subst e9
  refine hQ _ _ _ (dZ (u4 (.int .i64 (-1) :: (u8 (u4 (u2 []))))) [.box [.str p1]] (wk [some 0] (.u4 (.c rfl (.u8 (.u4 (.u2 .nil))))) (.b rfl (.c rfl .nil) .nil) rfl) (bG aK [0] rfl (.cons (rfl) .nil) ?_))
  conv => whnf
  first | rfl | (simp; done) | (simp; rfl) | (simp; and_intros <;> rfl)
 refine .loopS (eF n p0 p1) (fun (s1 : Int) => (.slice (List.map ak p0) .shared :: (.func 106 [.ptr 0 0] :: (u4 (.unk :: (.int .i64 (p0.length : Int) :: (.int .i64 s1 :: (u8 (u2 []))))))))) (fun (s1 : Int) => [.box [.str p1]]) ho1 (fun _ => rfl) (li (.s (.s (.u4 (.u (.s (.s (.u8 (.u2 .n))))))))) ?_
 intro n1 s1 hs1 KL1 hKL1
 unfold eF at hs1
 refine .q fun K5 k5 => ?_
 refine rg 0 ?_
 conv => whnf
 refine k5 _ _ ?_
 refine .q fun K6 k6 => ?_
 refine .aL rfl hs1 (fun hc1 hs1 => ?_) (fun hc1 hs1 => ?_)
 ·refine .skip ?_
  conv => whnf
  refine k6 _ _ ?_
  refine .q fun K7 k7 => ?_
  refine .block ?_
  refine .q fun K8 k8 => ?_
  refine rg 0 ?_
  conv => whnf
  refine k8 _ _ ?_
  refine .q fun K9 k9 => ?_
  refine rg 0 ?_
  conv => whnf
  obtain ⟨x1, hx1, hs1⟩ := ob hs1
  refine aW (l := p0) (f := ak) (cs := [.str ((x1).name), .int .i64 (((x1).ty).kind), .str (((x1).ty).name), .slice (List.map aC (((x1).ty).kids)) .shared]) hx1 (rfl) rfl ?_
  conv => whnf
  refine bH [0] [] [.agg [.str x1.name, .int .i64 x1.ty.kind, .str x1.ty.name, .slice (List.map aC x1.ty.kids) .shared], .ptr 0 0] [.agg [.str x1.name, .int .i64 x1.ty.kind, .str x1.ty.name, .slice (List.map aC x1.ty.kids) .shared], .ptr 0 0] (Mc 0 x1 p1 _ rfl) adS rfl (.cons (rfl) .nil) (by simp; try decide) (.cons (.same _) (.cons (.same _) .nil)) (rn := .bool (x1.name == p1)) (rfl) (Hn := [.box [.str p1]]) ((bS (rfl) rfl)) ?_
  conv => whnf
  refine k9 _ _ ?_
  refine .aL rfl hs1 (fun hc2 hs1 => ?_) (fun hc2 hs1 => ?_)
  ·refine .q fun K10 k10 => ?_
   refine rg 0 ?_
   conv => whnf
   refine k10 _ _ ?_
   refine .ret ?_
   conv => whnf
   have e9 := sj hs1
   subst e9
   dsimp only [LR.el] at h
   have e9 := sj h
   subst e9
   refine hQ _ _ _ (dZ (u4 (.int .i64 s1 :: (u8 (u4 (u2 []))))) [.box [.str p1]] (wk [some 0] (.u4 (.c rfl (.u8 (.u4 (.u2 .nil))))) (.b rfl (.c rfl .nil) .nil) rfl) (bG aK [0] rfl (.cons (rfl) .nil) ?_))
   conv => whnf
   first | rfl | (simp; done) | (simp; rfl) | (simp; and_intros <;> rfl)
  refine .skip ?_
  conv => whnf
  refine k7 _ _ ?_
  refine .know 5 0 fun hv1 => ?_
  refine .know 0 0 fun hv2 => ?_
  refine rg 0 ?_
  conv => whnf
  refine ⟨(s1 + 1), by have := dn hv1; have := gX hv2; have h8 := of_decide_eq_true hc1; exact bD (by omega) (by omega), ?_⟩
  conv => whnf
  exact hKL1 _ _ _ hs1 (li (.s (.s (.u4 (.u (.s (.s (.u8 (.u2 .n)))))))))
 refine .exit ?_
 conv => whnf
 exact hR1 _ (sj hs1).symm _ _ (li (.u16 (.u2 (.u .n))))
theorem EL (n : Nat) (p0 : S_api_World) (p1 : Str) (r : Int) (h : tq n p0 p1 = some r) : au Tryz.prog 51 [.agg [.slice (List.map ah p0.env.carriers) .shared, .slice (List.map ak p0.env.names) .shared, .slice (List.map encI p0.sizes) .shared, .slice (List.map aj p0.values) .shared], .str p1] [] (.int .i64 r) [] := by
 unfold tq at h
 refine aB true Tryz.func51 rfl (by rw [Tryz.ntmps51]; exact Nat.le_of_ble_eq_true rfl) fun Q hQ t ht => ?_
 conv at ht => whnf
 subst ht
 refine .q fun K1 k1 => ?_
 refine rg 2 ?_
 conv => whnf
 refine k1 _ _ ?_
 refine .q fun K2 k2 => ?_
 refine rg 0 ?_
 conv => whnf
 obtain ⟨x1, hx1, h⟩ := ob h
 refine bH [1] [] [.slice (List.map ak p0.env.names) .shared, .func 106 [.ptr 0 0]] [.slice (List.map ak p0.env.names) .shared, .func 106 [.ptr 1 0]] (yG _ _ _ _ hx1) adF rfl (.cons (rfl) .nil) (by simp; try decide) (.cons (.same _) (.cons (.same _) .nil)) (rn := .int .i64 x1) (rfl) (Hn := [.box [.str p1]]) ((bS (rfl) rfl)) ?_
 conv => whnf
 refine k2 _ _ ?_
 refine .ret ?_
 conv => whnf
 have e9 := sj h
 subst e9
 refine hQ _ _ _ (aG aK (fun g => rfl) ?_)
 conv => whnf
theorem ER (n : Nat) (p0 : S_api_World) (p1 : Str) (r : Val × Bool) (h : sU n p0 p1 = some r) : au Tryz.prog 17 [.agg [.slice (List.map ah p0.env.carriers) .shared, .slice (List.map ak p0.env.names) .shared, .slice (List.map encI p0.sizes) .shared, .slice (List.map aj p0.values) .shared], .str p1] [] (.tup [.agg [.int .i64 r.1.kind, .int .i64 r.1.n, .str r.1.name, .slice (List.map aj r.1.kids) .shared], .bool r.2]) [] := by
 unfold sU at h
 refine aB true Tryz.func17 rfl (by rw [Tryz.ntmps17]; exact Nat.le_of_ble_eq_true rfl) fun Q hQ t ht => ?_
 conv at ht => whnf
 subst ht
 refine .q fun K1 k1 => ?_
 refine rg 2 ?_
 conv => whnf
 refine k1 _ _ ?_
 refine .q fun K2 k2 => ?_
 refine .q fun K3 k3 => ?_
 refine rg 0 ?_
 conv => whnf
 obtain ⟨x1, hx1, h⟩ := ob h
 refine aD (sG _ _ _ hx1) Sv (.cons (.same _) .nil) (fun g => by simp) (fun g => rfl) ?_
 conv => whnf
 refine k3 _ _ ?_
 refine .aL rfl h (fun hc1 h => ?_) (fun hc1 h => ?_)
 ·refine .q fun K4 k4 => ?_
  refine rg 0 ?_
  conv => whnf
  refine k4 _ _ ?_
  refine .ret ?_
  conv => whnf
  have e9 := sj h
  subst e9
  refine hQ _ _ _ (aG aK (fun g => by simp) ?_)
  conv => whnf
  try rfl
 refine .skip ?_
 conv => whnf
 refine k2 _ _ ?_
 refine .q fun K5 k5 => ?_
 refine rg 0 ?_
 conv => whnf
 obtain ⟨x2, hx2, h⟩ := ob h
 refine aD (EL _ _ _ _ hx2) Z4 (.cons (.same _) (.cons (.same _) .nil)) (fun g => by simp) (fun g => rfl) ?_
 conv => whnf
 refine k5 _ _ ?_
 refine .q fun K6 k6 => ?_
 refine .q fun K7 k7 => ?_
 refine rg 0 ?_
 conv => whnf
 refine k7 _ _ ?_
 refine .aL rfl h (fun hc2 h => ?_) (fun hc2 h => ?_)
 ·refine .q fun K8 k8 => ?_
  refine rg 0 ?_
  conv => whnf
  refine k8 _ _ ?_
  refine .ret ?_
  conv => whnf
  have e9 := sj h
  subst e9
  refine hQ _ _ _ (aG aK (fun g => by simp) ?_)
  conv => whnf
  try rfl
 refine .skip ?_
 conv => whnf
 refine k6 _ _ ?_
 refine .q fun K9 k9 => ?_
 refine rg 0 ?_
 conv => whnf
 obtain ⟨x3, hx3, h⟩ := ob h
 refine aW (l := p0.values) (f := aj) (cs := [.int .i64 ((x3).kind), .int .i64 ((x3).n), .str ((x3).name), .slice (List.map aj ((x3).kids)) .shared]) hx3 (bg x3) rfl ?_
 conv => whnf
 obtain ⟨x4, hx4, h⟩ := ob h
 refine aD (sV _ _ _ hx4) GQ (.cons (.same _) .nil) (fun g => by simp) (fun g => by simp) ?_
 conv => whnf
 refine k9 _ _ ?_
 refine .ret ?_
 conv => whnf
 have e9 := sj h
 subst e9
 refine hQ _ _ _ (aG aK (fun g => by simp) ?_)
 conv => whnf
 try rfl
theorem CQ (n : Nat) (p0 : Env) (p1 : Str) (r : Int) (h : jL n p0 p1 = some r) : au Tryz.prog 53 [.agg [.slice (List.map ah p0.carriers) .shared, .slice (List.map ak p0.names) .shared], .str p1] [] (.int .i64 r) [] := by
 unfold jL at h
 refine aB true Tryz.func53 rfl (by rw [Tryz.ntmps53]; exact Nat.le_of_ble_eq_true rfl) fun Q hQ t ht => ?_
 conv at ht => whnf
 subst ht
 refine .q fun K1 k1 => ?_
 refine rg 1 ?_
 conv => whnf
 refine k1 _ _ ?_
 refine .q fun K2 k2 => ?_
 refine .q fun K3 k3 => ?_
 refine rg 0 ?_
 conv => whnf
 refine k3 _ _ ?_
 refine .block ?_
 obtain ⟨o1, ho1, h⟩ := ob h
 have hR1 : ∀ s2 : Unit, o1 = .nx s2 → ∀ t9 h9, Le 0 t9 h9 (u16 (u4 (u2 []))) [] → K2 t9 h9 := by
  intro s2 ho
  subst ho
  dsimp only [LR.el] at h
  intro t9 h9 hw
  refine k2 _ _ (AW.le hw ?_)
  refine .q fun K4 k4 => ?_
  refine rg 0 ?_
  conv => whnf
  refine k4 _ _ ?_
  refine .ret ?_
  conv => whnf
  have e9 := sj h
  subst e9
  refine hQ _ _ _ (aG aK (fun g => rfl) ?_)
  conv => whnf
 refine .loopS (qh n p0 p1) (fun (s1 : Int) => (.unk :: (.str p1 :: (.ptr 0 0 :: (u2 (.int .i64 s1 :: (u16 []))))))) (fun (s1 : Int) => [.box [.slice (List.map ah p0.carriers) .shared, .slice (List.map ak p0.names) .shared]]) ho1 (fun _ => rfl) (li (.u (.s (.s (.u2 (.s (.u16 .n))))))) ?_
 intro n1 s1 hs1 KL1 hKL1
 unfold qh at hs1
 refine .q fun K5 k5 => ?_
 refine .q fun K6 k6 => ?_
 refine rg 0 ?_
 conv => whnf
 refine aQ (l := p0.names) (f := ak) ?_
 conv => whnf
 refine k6 _ _ ?_
 refine .aL rfl hs1 (fun hc1 hs1 => ?_) (fun hc1 hs1 => ?_)
 ·refine .skip ?_
  conv => whnf
  refine k5 _ _ ?_
  refine .q fun K7 k7 => ?_
  refine .block ?_
  refine .q fun K8 k8 => ?_
  refine rg 0 ?_
  conv => whnf
  obtain ⟨x1, hx1, hs1⟩ := ob hs1
  refine aW (l := p0.names) (f := ak) (cs := [.str ((x1).name), .int .i64 (((x1).ty).kind), .str (((x1).ty).name), .slice (List.map aC (((x1).ty).kids)) .shared]) hx1 (rfl) rfl ?_
  conv => whnf
  refine k8 _ _ ?_
  refine .aL rfl hs1 (fun hc2 hs1 => ?_) (fun hc2 hs1 => ?_)
  ·refine .q fun K9 k9 => ?_
   refine rg 0 ?_
   conv => whnf
   refine k9 _ _ ?_
   refine .ret ?_
   conv => whnf
   have e9 := sj hs1
   subst e9
   dsimp only [LR.el] at h
   have e9 := sj h
   subst e9
   refine hQ _ _ _ (aG aK (fun g => rfl) ?_)
   conv => whnf
  refine .skip ?_
  conv => whnf
  refine k7 _ _ ?_
  refine .know 5 0 fun hv1 => ?_
  refine .know 8 0 fun hv2 => ?_
  refine rg 0 ?_
  conv => whnf
  refine ⟨(s1 + 1), by have := dn hv1; have := gX hv2; have h8 := of_decide_eq_true hc1; exact bD (by omega) (by omega), ?_⟩
  conv => whnf
  exact hKL1 _ _ _ hs1 (li (.u (.s (.s (.u2 (.s (.u16 .n)))))))
 refine .exit ?_
 conv => whnf
 exact hR1 _ (sj hs1).symm _ _ (wk [] (.u16 (.u4 (.u2 .nil))) .nil rfl)
theorem WU (n : Nat) (p0 : S_api_World) (p1 : Str) (r : Val × Bool) (h : zY n p0 p1 = some r) : au Tryz.prog 18 [.agg [.slice (List.map ah p0.env.carriers) .shared, .slice (List.map ak p0.env.names) .shared, .slice (List.map encI p0.sizes) .shared, .slice (List.map aj p0.values) .shared], .str p1] [] (.tup [.agg [.int .i64 r.1.kind, .int .i64 r.1.n, .str r.1.name, .slice (List.map aj r.1.kids) .shared], .bool r.2]) [] := by
 unfold zY at h
 refine aB true Tryz.func18 rfl (by rw [Tryz.ntmps18]; exact Nat.le_of_ble_eq_true rfl) fun Q hQ t ht => ?_
 conv at ht => whnf
 subst ht
 refine .q fun K1 k1 => ?_
 refine rg 2 ?_
 conv => whnf
 refine k1 _ _ ?_
 refine .q fun K2 k2 => ?_
 refine rg 0 ?_
 conv => whnf
 obtain ⟨x1, hx1, h⟩ := ob h
 refine aD (CQ _ _ _ _ hx1) Zq (.cons (.same _) (.cons (.same _) .nil)) (fun g => by simp) (fun g => rfl) ?_
 conv => whnf
 refine k2 _ _ ?_
 refine .q fun K3 k3 => ?_
 refine .q fun K4 k4 => ?_
 obtain ⟨s1, hj1, h⟩ := ob h
 have hR1 : ∀ t9 h9, Le 0 t9 h9 (u2 (.ptr 0 0 :: (.unk :: (.ptr 1 0 :: (.unk :: (.int .i64 x1 :: (u8 (u2 (.bool s1 :: (u4 (u2 (.unk :: [])))))))))))) [.box [.slice (List.map ah p0.env.carriers) .shared, .slice (List.map ak p0.env.names) .shared, .slice (List.map encI p0.sizes) .shared, .slice (List.map aj p0.values) .shared], .box [.int .i64 0, .int .i64 0, .str ([] : Str), .slice (List.map aj ([] : List Val)) .nils]] → K4 t9 h9 := by
  intro t9 h9 hw
  refine k4 _ _ (AW.le hw ?_)
  clear hw
  refine .aL rfl h (fun hc1 h => ?_) (fun hc1 h => ?_)
  ·refine .q fun K5 k5 => ?_
   refine rg 0 ?_
   conv => whnf
   refine k5 _ _ ?_
   refine .ret ?_
   conv => whnf
   have e9 := sj h
   subst e9
   refine hQ _ _ _ (aG aK (fun g => by simp) ?_)
   conv => whnf
   try rfl
  refine .skip ?_
  conv => whnf
  refine k3 _ _ ?_
  refine .q fun K6 k6 => ?_
  refine rg 0 ?_
  conv => whnf
  obtain ⟨x2, hx2, h⟩ := ob h
  refine aW (l := p0.values) (f := aj) (cs := [.int .i64 ((x2).kind), .int .i64 ((x2).n), .str ((x2).name), .slice (List.map aj ((x2).kids)) .shared]) hx2 (bg x2) rfl ?_
  conv => whnf
  obtain ⟨x3, hx3, h⟩ := ob h
  refine aD (El _ _ _ hx3) MN (.cons (.same _) .nil) (fun g => by simp) (fun g => by simp) ?_
  conv => whnf
  refine k6 _ _ ?_
  refine .ret ?_
  conv => whnf
  have e9 := sj h
  subst e9
  refine hQ _ _ _ (aG aK (fun g => by simp) ?_)
  conv => whnf
  try rfl
 refine rg 0 ?_
 conv => whnf
 obtain ⟨x4, hx4, hj1⟩ := ob hj1
 refine aD (vv _ _ _ hx4) U1 (.cons (.same _) .nil) (fun g => by simp) (fun g => rfl) ?_
 conv => whnf
 refine aH hj1 (fun hc2 hj1 => ?_) (fun hc2 hj1 => ?_)
 ·conv => whnf
  cases hj1
  exact hR1 _ _ (li (.u2 (.s (.u (.s (.u (.s (.u8 (.u2 (.s (.u4 (.u2 (.u .n)))))))))))))
 conv => whnf
 cases hj1
 exact hR1 _ _ (li (.u2 (.s (.u (.s (.u (.s (.u8 (.u2 (.s (.u4 (.u2 (.u .n)))))))))))))
abbrev qbh (qdp : Ty → Option Ty) : Prop := ∀ (p0 : Ty) (r : Ty), qdp p0 = some r → au Tryz.prog 169 [.agg [.int .i64 p0.kind, .str p0.name, .slice (List.map aC p0.kids) .shared]] [] (.agg [.int .i64 r.kind, .str r.name, .slice (List.map aC r.kids) .shared]) []
theorem CZ (n : Nat) (qdp : Ty → Option Ty) (qbz : qbh qdp) (p0 : Ty) (r : Ty) (h : lW n qdp p0 = some r) : au Tryz.prog 169 [.agg [.int .i64 p0.kind, .str p0.name, .slice (List.map aC p0.kids) .shared]] [] (.agg [.int .i64 r.kind, .str r.name, .slice (List.map aC r.kids) .shared]) [] := by
 unfold lW at h
 refine aB true Tryz.func169 rfl (by rw [Tryz.ntmps169]; exact Nat.le_of_ble_eq_true rfl) fun Q hQ t ht => ?_
 conv at ht => whnf
 subst ht
 refine .q fun K1 k1 => ?_
 refine rg 2 ?_
 conv => whnf
 refine k1 _ _ ?_
 refine .q fun K2 k2 => ?_
 refine rg 1 ?_
 conv => whnf
 obtain ⟨x1, hx1, h⟩ := ob h
 refine bH [] [2] [.slice (List.map aC p0.kids) .shared] [.slice (List.map aC p0.kids) .shared] (Ee _ _ _ hx1) adK rfl .nil (by simp; try decide) (.cons (.same _) .nil) (rn := .psl 2 3 (List.length p0.kids)) (by simp; try decide) (Hn := [.arr 3 (List.map aC p0.kids)]) ((bS (congrArg (AObj.arr _) (aZ _ _)) rfl)) ?_
 conv => whnf
 obtain ⟨x2, hx2, h⟩ := ob h
 refine bH [2] [] [.psl 0 3 (List.length p0.kids)] [.psl 2 3 (List.length p0.kids)] (Fa _ _ _ hx2) adt rfl (.cons (congrArg (AObj.arr _) (aZ _ _)) .nil) (by simp; try decide) (.cons (.same _) .nil) (rn := .psl 2 3 (List.length p0.kids)) (by simp; try decide) (Hn := [.arr 3 (List.map aC p0.kids)]) ((bS (congrArg (AObj.arr _) (aZ _ _)) rfl)) ?_
 conv => whnf
 refine k2 _ _ ?_
 refine .q fun K3 k3 => ?_
 refine .q fun K4 k4 => ?_
 refine rg 0 ?_
 conv => whnf
 refine k4 _ _ ?_
 refine .block ?_
 obtain ⟨o1, ho1, h⟩ := ob h
 have hR1 : ∀ s2 : List Ty, o1 = .nx s2 → ∀ t9 h9, Le 0 t9 h9 (.unk :: (.ptr 0 0 :: (.ptr 1 0 :: (u16 (u4 (u2 (.unk :: []))))))) [.box [.int .i64 p0.kind, .str p0.name, .psl 2 3 (List.length s2)], .box [.int .i64 0, .str ([] : Str), .psl 3 3 (List.length ([] : List Ty))], .arr 3 (List.map aC s2), .arr 3 (List.map aC ([] : List Ty))] → K3 t9 h9 := by
  intro s2 ho
  subst ho
  dsimp only [LR.el] at h
  intro t9 h9 hw
  refine k3 _ _ (AW.le hw ?_)
  refine .q fun K5 k5 => ?_
  refine rg 0 ?_
  conv => whnf
  refine k5 _ _ ?_
  refine .le (t' := (.unk :: (.ptr 0 0 :: (.ptr 1 0 :: (u16 (u4 (u2 (.agg [.int .i64 p0.kind, .str p0.name, .slice (List.map aC s2) .shared] :: [])))))))) (h' := [.box [.int .i64 p0.kind, .str p0.name, .slice (List.map aC s2) .shared], .box [.int .i64 p0.kind, .str p0.name, .slice (List.map aC s2) .shared], .arr 3 (List.map aC ([] : List Ty))]) (wk [some 0, some 1, some 3] (.u (.c rfl (.c rfl (.u16 (.u4 (.u2 (.cons (.agg' (.c rfl (.c rfl (.cons (.kN aZ (aP _) rfl rfl) .nil)))) .nil))))))) (.b rfl (.c rfl (.c rfl (.cons (.kN aZ (aP _) rfl rfl) .nil))) (.b rfl (.c rfl (.c rfl (.cons (.kN aZ (aP _) rfl rfl) .nil))) (.old (.arr' aZ (aP _)) .nil))) rfl) ?_
  refine .ret ?_
  conv => whnf
  have e9 := sj h
  subst e9
  refine hQ _ _ _ (aG aK (fun g => by simp) ?_)
  conv => whnf
  try rfl
 refine .loopS (nE n qdp p0) (fun (s1 : (List Ty) × Int) => (.unk :: (.ptr 0 0 :: (.ptr 1 0 :: (u8 (.psl 2 3 (List.length s1.1) :: (.int .i64 (p0.kids.length : Int) :: (.int .i64 s1.2 :: (u8 (u4 [])))))))))) (fun (s1 : (List Ty) × Int) => [.box [.int .i64 p0.kind, .str p0.name, .psl 2 3 (List.length s1.1)], .box [.int .i64 0, .str ([] : Str), .psl 3 3 (List.length ([] : List Ty))], .arr 3 (List.map aC s1.1), .arr 3 (List.map aC ([] : List Ty))]) ho1 (fun _ => rfl) (wk [some 0, some 1, some 2, none] (.u (.c rfl (.c rfl (.u8 (.c rfl (.c rfl (.c rfl (.u8 (.u4 .nil))))))))) (.b rfl (.c rfl (.c rfl (.c rfl .nil))) (.b rfl (.c rfl (.c rfl (.cons (.nilP _ _) .nil))) (.old (.arr' aZ (aP _)) (.w rfl .nil)))) rfl) ?_
 intro n1 s1 hs1 KL1 hKL1
 unfold nE at hs1
 refine .q fun K6 k6 => ?_
 refine rg 0 ?_
 conv => whnf
 refine k6 _ _ ?_
 refine .q fun K7 k7 => ?_
 refine .aL rfl hs1 (fun hc1 hs1 => ?_) (fun hc1 hs1 => ?_)
 ·refine .skip ?_
  conv => whnf
  refine k7 _ _ ?_
  refine .q fun K8 k8 => ?_
  refine .block ?_
  refine .q fun K9 k9 => ?_
  refine rg 1 ?_
  conv => whnf
  obtain ⟨x3, hx3, hs1⟩ := ob hs1
  refine Jj (l := s1.1) (l0 := s1.1) hx3 (by simp [upd]) ?_
  conv => whnf
  refine ldp (l := s1.1) (f := aC) (cs := [.int .i64 x3.kind, .str x3.name, .slice (List.map aC x3.kids) .shared]) hx3 (fq x3) (by decide) ?_
  conv => whnf
  refine k9 _ _ ?_
  refine rg 0 ?_
  conv => whnf
  obtain ⟨x4, hx4, hs1⟩ := ob hs1
  refine aD (qbz _ _ hx4) Xm (.cons (.same _) .nil) (fun g => by simp) (fun g => by simp) ?_
  conv => whnf
  obtain ⟨x5, hx5, hs1⟩ := ob hs1
  refine Jj (l := s1.1) (l0 := s1.1) hx5 (by simp [upd]) ?_
  conv => whnf
  refine stp (l := s1.1) (f := aC) (v := x4) hx5 ((fq _).symm) (by decide) ?_
  conv => whnf
  refine ⟨by kernel_rfl, ?_⟩
  conv => whnf
  refine k8 _ _ ?_
  refine .know 3 0 fun hv1 => ?_
  refine .know 12 0 fun hv2 => ?_
  refine rg 0 ?_
  conv => whnf
  refine ⟨(s1.2 + 1), by have := dn hv1; have := dn hv2; have h8 := of_decide_eq_true hc1; exact bD (by omega) (by omega), ?_⟩
  conv => whnf
  exact hKL1 _ _ _ hs1 (wk [some 0, some 1, some 2, some 3] (.u (.c rfl (.c rfl (.u8 (.cons (.same (GN (by simp [upd]) rfl)) (.c rfl (.c rfl (.u8 (.u4 .nil))))))))) (.b rfl (.c rfl (.c rfl (.cons (.same (GN (by simp [upd]) rfl)) .nil))) (.b rfl (.c rfl (.c rfl (.c rfl .nil))) (.old (.arr' aZ (aP _)) (.old (.arr' aZ (aP _)) .nil)))) rfl)
 refine .exit ?_
 conv => whnf
 exact hR1 _ (sj hs1).symm _ _ (wk [some 0, some 1, some 2, some 3] (.u (.c rfl (.c rfl (.u16 (.u4 (.u2 (.u .nil))))))) (.b rfl (.c rfl (.c rfl (.c rfl .nil))) (.b rfl (.c rfl (.c rfl (.c rfl .nil))) (.old (.arr' aZ (aP _)) (.old (.arr' aZ (aP _)) .nil)))) rfl)
theorem IG (n : Nat) : qbh (gJ n) := by
 induction n with
 | zero => exact (fun p0 r h => by unfold gJ at h; cases h)
 | succ n ih =>
  exact (fun p0 r h => CZ n _ ih p0 r (by unfold gJ at h; exact h))
theorem KI (n : Nat) : qbh (gJ n) := (IG n)
theorem LD (n : Nat) (p0 : Env) (r : Env) (h : rU n p0 = some r) : au Tryz.prog 108 [.agg [.slice (List.map ah p0.carriers) .shared, .slice (List.map ak p0.names) .shared]] [] (.agg [.slice (List.map ah r.carriers) .shared, .slice (List.map ak r.names) .shared]) [] := by
 unfold rU at h
 refine aB true Tryz.func108 rfl (by rw [Tryz.ntmps108]; exact Nat.le_of_ble_eq_true rfl) fun Q hQ t ht => ?_
 conv at ht => whnf
 subst ht
 refine .q fun K1 k1 => ?_
 refine rg 2 ?_
 conv => whnf
 refine k1 _ _ ?_
 refine .q fun K2 k2 => ?_
 refine rg 3 ?_
 conv => whnf
 obtain ⟨x1, hx1, h⟩ := ob h
 refine bH [] [2] [.slice (List.map ah p0.carriers) .shared] [.slice (List.map ah p0.carriers) .shared] (A8 _ _ _ hx1) acC rfl .nil (by simp; try decide) (.cons (.same _) .nil) (rn := .psl 2 2 (List.length p0.carriers)) (by simp; try decide) (Hn := [.arr 2 (List.map ah p0.carriers)]) ((bS (congrArg (AObj.arr _) (aA _ _)) rfl)) ?_
 conv => whnf
 obtain ⟨x2, hx2, h⟩ := ob h
 refine bH [2] [] [.psl 0 2 (List.length p0.carriers)] [.psl 2 2 (List.length p0.carriers)] (BX _ _ _ hx2) ad8 rfl (.cons (congrArg (AObj.arr _) (aA _ _)) .nil) (by simp; try decide) (.cons (.same _) .nil) (rn := .psl 2 2 (List.length p0.carriers)) (by simp; try decide) (Hn := [.arr 2 (List.map ah p0.carriers)]) ((bS (congrArg (AObj.arr _) (aA _ _)) rfl)) ?_
 conv => whnf
 obtain ⟨x3, hx3, h⟩ := ob h
 refine bH [] [3] [.slice (List.map ak p0.names) .shared] [.slice (List.map ak p0.names) .shared] (DZ _ _ _ hx3) acT rfl .nil (by simp; try decide) (.cons (.same _) .nil) (rn := .psl 3 4 (List.length p0.names)) (by simp; try decide) (Hn := [.arr 4 (List.map ak p0.names)]) ((bS (congrArg (AObj.arr _) (aF _ _)) rfl)) ?_
 conv => whnf
 obtain ⟨x4, hx4, h⟩ := ob h
 refine bH [3] [] [.psl 0 4 (List.length p0.names)] [.psl 3 4 (List.length p0.names)] (Fx _ _ _ hx4) adP rfl (.cons (congrArg (AObj.arr _) (aF _ _)) .nil) (by simp; try decide) (.cons (.same _) .nil) (rn := .psl 3 4 (List.length p0.names)) (by simp; try decide) (Hn := [.arr 4 (List.map ak p0.names)]) ((bS (congrArg (AObj.arr _) (aF _ _)) rfl)) ?_
 conv => whnf
 refine ⟨by kernel_rfl, ?_⟩
 conv => whnf
 refine k2 _ _ ?_
 refine .q fun K3 k3 => ?_
 refine .q fun K4 k4 => ?_
 refine rg 0 ?_
 conv => whnf
 refine k4 _ _ ?_
 refine .block ?_
 obtain ⟨o1, ho1, h⟩ := ob h
 have hR1 : ∀ s2 : List Carrier, o1 = .nx s2 → ∀ t9 h9, Le 0 t9 h9 (u2 (.ptr 0 0 :: (.ptr 1 0 :: (u32 (u16 (.unk :: [])))))) [.box [.psl 2 2 (List.length ([] : List Carrier)), .psl 3 4 (List.length ([] : List Decl))], .box [.psl 4 2 (List.length s2), .psl 5 4 (List.length p0.names)], .arr 2 (List.map ah ([] : List Carrier)), .arr 4 (List.map ak ([] : List Decl)), .arr 2 (List.map ah s2), .arr 4 (List.map ak p0.names)] → K3 t9 h9 := by
  intro s2 ho
  subst ho
  dsimp only [LR.el] at h
  intro t9 h9 hw
  refine k3 _ _ (AW.le hw ?_)
  refine .q fun K5 k5 => ?_
  refine .q fun K6 k6 => ?_
  refine rg 0 ?_
  conv => whnf
  refine k6 _ _ ?_
  refine .block ?_
  obtain ⟨o2, ho2, h⟩ := ob h
  have hR2 : ∀ s4 : List Decl, o2 = .nx s4 → ∀ t9 h9, Le 0 t9 h9 (u2 (.ptr 0 0 :: (.ptr 1 0 :: (u32 (u16 (.unk :: [])))))) [.box [.psl 2 2 (List.length ([] : List Carrier)), .psl 3 4 (List.length ([] : List Decl))], .box [.psl 4 2 (List.length s2), .psl 5 4 (List.length s4)], .arr 2 (List.map ah ([] : List Carrier)), .arr 4 (List.map ak ([] : List Decl)), .arr 2 (List.map ah s2), .arr 4 (List.map ak s4)] → K5 t9 h9 := by
   intro s4 ho
   subst ho
   dsimp only [LR.el] at h
   intro t9 h9 hw
   refine k5 _ _ (AW.le hw ?_)
   refine .q fun K7 k7 => ?_
   refine rg 0 ?_
   conv => whnf
   refine k7 _ _ ?_
   refine .le (t' := (u2 (.ptr 0 0 :: (.ptr 1 0 :: (u32 (u16 (.agg [.slice (List.map ah s2) .shared, .psl 4 4 (List.length s4)] :: []))))))) (h' := [.box [.slice (List.map ah s2) .shared, .psl 4 4 (List.length s4)], .box [.slice (List.map ah s2) .shared, .psl 4 4 (List.length s4)], .arr 2 (List.map ah ([] : List Carrier)), .arr 4 (List.map ak ([] : List Decl)), .arr 4 (List.map ak s4)]) (wk [some 0, some 1, some 2, some 3, some 5] (.u2 (.c rfl (.c rfl (.u32 (.u16 (.cons (.agg' (.cons (.kN aA (aP _) rfl rfl) (.c rfl .nil))) .nil)))))) (.b rfl (.cons (.kN aA (aP _) rfl rfl) (.c rfl .nil)) (.b rfl (.cons (.kN aA (aP _) rfl rfl) (.c rfl .nil)) (.old (.arr' aA (aP _)) (.old (.arr' aF (aP _)) (.old (.arr' aF (aP _)) .nil))))) rfl) ?_
   refine .le (t' := (u2 (.ptr 0 0 :: (.ptr 1 0 :: (u32 (u16 (.agg [.slice (List.map ah s2) .shared, .slice (List.map ak s4) .shared] :: []))))))) (h' := [.box [.slice (List.map ah s2) .shared, .slice (List.map ak s4) .shared], .box [.slice (List.map ah s2) .shared, .slice (List.map ak s4) .shared], .arr 2 (List.map ah ([] : List Carrier)), .arr 4 (List.map ak ([] : List Decl))]) (wk [some 0, some 1, some 2, some 3] (.u2 (.c rfl (.c rfl (.u32 (.u16 (.cons (.agg' (.e aA (.cons (.kN aF (aP _) rfl rfl) .nil))) .nil)))))) (.b rfl (.e aA (.cons (.kN aF (aP _) rfl rfl) .nil)) (.b rfl (.e aA (.cons (.kN aF (aP _) rfl rfl) .nil)) (.old (.arr' aA (aP _)) (.old (.arr' aF (aP _)) .nil)))) rfl) ?_
   refine .ret ?_
   conv => whnf
   have e9 := sj h
   subst e9
   refine hQ _ _ _ (aG aK (fun g => by simp) ?_)
   conv => whnf
   try rfl
  refine .loopS (og n p0) (fun (s3 : (List Decl) × Int) => (u2 (.ptr 0 0 :: (.ptr 1 0 :: (u32 (.psl 2 4 (List.length s3.1) :: (.int .i64 (p0.names.length : Int) :: (.int .i64 s3.2 :: (u8 (u4 (u2 []))))))))))) (fun (s3 : (List Decl) × Int) => [.box [.psl 3 2 (List.length ([] : List Carrier)), .psl 4 4 (List.length ([] : List Decl))], .box [.psl 5 2 (List.length s2), .psl 2 4 (List.length s3.1)], .arr 4 (List.map ak s3.1), .arr 2 (List.map ah ([] : List Carrier)), .arr 4 (List.map ak ([] : List Decl)), .arr 2 (List.map ah s2)]) ho2 (fun _ => rfl) (wk [some 0, some 1, some 5, some 2, some 3, some 4] (.u2 (.c rfl (.c rfl (.u32 (.c rfl (.c rfl (.c rfl (.u8 (.u4 (.u2 .nil)))))))))) (.b rfl (.c rfl (.c rfl .nil)) (.b rfl (.c rfl (.c rfl .nil)) (.old (.arr' aF (aP _)) (.old (.arr' aA (aP _)) (.old (.arr' aF (aP _)) (.old (.arr' aA (aP _)) .nil)))))) rfl) ?_
  intro n2 s3 hs2 KL2 hKL2
  unfold og at hs2
  refine .q fun K8 k8 => ?_
  refine rg 0 ?_
  conv => whnf
  refine k8 _ _ ?_
  refine .q fun K9 k9 => ?_
  refine .aL rfl hs2 (fun hc1 hs2 => ?_) (fun hc1 hs2 => ?_)
  ·refine .skip ?_
   conv => whnf
   refine k9 _ _ ?_
   refine .q fun K10 k10 => ?_
   refine .block ?_
   refine .q fun K11 k11 => ?_
   refine rg 1 ?_
   conv => whnf
   obtain ⟨x5, hx5, hs2⟩ := ob hs2
   refine Jj (l := s3.1) (l0 := s3.1) hx5 (by simp [upd]) ?_
   conv => whnf
   refine ldp (l := s3.1) (f := ak) (cs := [.str x5.name, .int .i64 x5.ty.kind, .str x5.ty.name, .slice (List.map aC x5.ty.kids) .shared]) hx5 (rfl) (by decide) ?_
   conv => whnf
   refine k11 _ _ ?_
   refine rg 0 ?_
   conv => whnf
   obtain ⟨x6, hx6, hs2⟩ := ob hs2
   refine aD (KI _ _ _ hx6) Xm (.cons (.same _) .nil) (fun g => by simp) (fun g => by simp) ?_
   conv => whnf
   obtain ⟨x7, hx7, hs2⟩ := ob hs2
   refine Jj (l := s3.1) (l0 := s3.1) hx7 (by simp [upd]) ?_
   conv => whnf
   refine aeY (l := s3.1) (f := ak) (v := (Decl.mk x7.name x6)) (j := 1) hx7 (by decide) (Nat.le_of_ble_eq_true rfl) rfl ?_
   conv => whnf
   refine ⟨by kernel_rfl, ?_⟩
   conv => whnf
   refine k10 _ _ ?_
   refine .know 6 0 fun hv1 => ?_
   refine .know 37 0 fun hv2 => ?_
   refine rg 0 ?_
   conv => whnf
   refine ⟨(s3.2 + 1), by have := dn hv1; have := dn hv2; have h8 := of_decide_eq_true hc1; exact bD (by omega) (by omega), ?_⟩
   conv => whnf
   exact hKL2 _ _ _ hs2 (wk [some 0, some 1, some 2, some 3, some 4, some 5] (.u2 (.c rfl (.c rfl (.u32 (.cons (.same (GN (by simp [upd]) rfl)) (.c rfl (.c rfl (.u8 (.u4 (.u2 .nil)))))))))) (.b rfl (.c rfl (.c rfl .nil)) (.b rfl (.c rfl (.cons (.same (GN (by simp [upd]) rfl)) .nil)) (.old (.arr' aF (aP _)) (.old (.arr' aA (aP _)) (.old (.arr' aF (aP _)) (.old (.arr' aA (aP _)) .nil)))))) rfl)
  refine .exit ?_
  conv => whnf
  exact hR2 _ (sj hs2).symm _ _ (wk [some 0, some 1, some 3, some 4, some 5, some 2] (.u2 (.c rfl (.c rfl (.u32 (.u16 (.u .nil)))))) (.b rfl (.c rfl (.c rfl .nil)) (.b rfl (.c rfl (.c rfl .nil)) (.old (.arr' aA (aP _)) (.old (.arr' aF (aP _)) (.old (.arr' aA (aP _)) (.old (.arr' aF (aP _)) .nil)))))) rfl)
 refine .loopS (nZ n p0) (fun (s1 : (List Carrier) × Int) => (u2 (.ptr 0 0 :: (.ptr 1 0 :: (u8 (u4 (u2 (.psl 2 2 (List.length s1.1) :: (.int .i64 (p0.carriers.length : Int) :: (.int .i64 s1.2 :: (u32 []))))))))))) (fun (s1 : (List Carrier) × Int) => [.box [.psl 3 2 (List.length ([] : List Carrier)), .psl 4 4 (List.length ([] : List Decl))], .box [.psl 2 2 (List.length s1.1), .psl 5 4 (List.length p0.names)], .arr 2 (List.map ah s1.1), .arr 2 (List.map ah ([] : List Carrier)), .arr 4 (List.map ak ([] : List Decl)), .arr 4 (List.map ak p0.names)]) ho1 (fun _ => rfl) (wk [some 1, some 4, some 2, none, none, some 3] (.u2 (.c rfl (.c rfl (.u8 (.u4 (.u2 (.c rfl (.c rfl (.c rfl (.u32 .nil)))))))))) (.b rfl (.cons (.nilP _ _) (.cons (.nilP _ _) .nil)) (.b rfl (.c rfl (.c rfl .nil)) (.old (.arr' aA (aP _)) (.w rfl (.w rfl (.old (.arr' aF (aP _)) .nil)))))) rfl) ?_
 intro n1 s1 hs1 KL1 hKL1
 unfold nZ at hs1
 refine .q fun K12 k12 => ?_
 refine rg 0 ?_
 conv => whnf
 refine k12 _ _ ?_
 refine .q fun K13 k13 => ?_
 refine .aL rfl hs1 (fun hc2 hs1 => ?_) (fun hc2 hs1 => ?_)
 ·refine .skip ?_
  conv => whnf
  refine k13 _ _ ?_
  refine .q fun K14 k14 => ?_
  refine .block ?_
  refine .q fun K15 k15 => ?_
  refine rg 1 ?_
  conv => whnf
  obtain ⟨x8, hx8, hs1⟩ := ob hs1
  refine Jj (l := s1.1) (l0 := s1.1) hx8 (by simp [upd]) ?_
  conv => whnf
  refine ldp (l := s1.1) (f := ah) (cs := [.str x8.name, .slice (List.map encS x8.elems) .shared]) hx8 (rfl) (by decide) ?_
  conv => whnf
  refine k15 _ _ ?_
  refine rg 0 ?_
  conv => whnf
  obtain ⟨x9, hx9, hs1⟩ := ob hs1
  refine aD (Ch _ _ _ hx9) adw (.cons (.same _) .nil) (fun g => by simp) (fun g => by simp) ?_
  conv => whnf
  obtain ⟨x10, hx10, hs1⟩ := ob hs1
  refine aD (AZ _ _ _ hx10) adU (.cons (.same _) .nil) (fun g => by simp) (fun g => by simp) ?_
  conv => whnf
  obtain ⟨x11, hx11, hs1⟩ := ob hs1
  refine Jj (l := s1.1) (l0 := s1.1) hx11 (by simp [upd]) ?_
  conv => whnf
  refine aeY (l := s1.1) (f := ah) (v := (Carrier.mk x11.name x10)) (j := 1) hx11 (by decide) (Nat.le_of_ble_eq_true rfl) rfl ?_
  conv => whnf
  refine ⟨by kernel_rfl, ?_⟩
  conv => whnf
  refine k14 _ _ ?_
  refine .know 4 0 fun hv3 => ?_
  refine .know 19 0 fun hv4 => ?_
  refine rg 0 ?_
  conv => whnf
  refine ⟨(s1.2 + 1), by have := dn hv3; have := dn hv4; have h8 := of_decide_eq_true hc2; exact bD (by omega) (by omega), ?_⟩
  conv => whnf
  exact hKL1 _ _ _ hs1 (wk [some 0, some 1, some 2, some 3, some 4, some 5] (.u2 (.c rfl (.c rfl (.u8 (.u4 (.u2 (.cons (.same (GN (by simp [upd]) rfl)) (.c rfl (.c rfl (.u32 .nil)))))))))) (.b rfl (.c rfl (.c rfl .nil)) (.b rfl (.cons (.same (GN (by simp [upd]) rfl)) (.c rfl .nil)) (.old (.arr' aA (aP _)) (.old (.arr' aA (aP _)) (.old (.arr' aF (aP _)) (.old (.arr' aF (aP _)) .nil)))))) rfl)
 refine .exit ?_
 conv => whnf
 exact hR1 _ (sj hs1).symm _ _ (wk [some 0, some 1, some 3, some 4, some 2, some 5] (.u2 (.c rfl (.c rfl (.u32 (.u16 (.u .nil)))))) (.b rfl (.c rfl (.c rfl .nil)) (.b rfl (.c rfl (.c rfl .nil)) (.old (.arr' aA (aP _)) (.old (.arr' aF (aP _)) (.old (.arr' aA (aP _)) (.old (.arr' aF (aP _)) .nil)))))) rfl)
theorem Fu (n : Nat) (p0 : S_api_World) (r : (List Carrier) × (List Decl) × (List Int) × (List Val)) (h : nR n p0 = some r) : au Tryz.prog 55 [.agg [.slice (List.map ah p0.env.carriers) .shared, .slice (List.map ak p0.env.names) .shared, .slice (List.map encI p0.sizes) .shared, .slice (List.map aj p0.values) .shared]] [] (.agg [.slice (List.map ah r.1) .shared, .slice (List.map ak r.2.1) .shared, .slice (List.map encI r.2.2.1) .shared, .psl 0 4 (List.length r.2.2.2)]) [.arr 4 (List.map aj r.2.2.2)] := by
 unfold nR at h
 refine aB false Tryz.func55 rfl (by rw [Tryz.ntmps55]; exact Nat.le_of_ble_eq_true rfl) fun Q hQ t ht => ?_
 conv at ht => whnf
 subst ht
 refine .q fun K1 k1 => ?_
 refine rg 2 ?_
 conv => whnf
 refine k1 _ _ ?_
 refine .q fun K2 k2 => ?_
 refine rg 1 ?_
 conv => whnf
 obtain ⟨x1, hx1, h⟩ := ob h
 refine aD (LD _ _ _ hx1) acy (.cons (.same _) .nil) (fun g => by simp) (fun g => by simp) ?_
 conv => whnf
 obtain ⟨x2, hx2, h⟩ := ob h
 refine aD (Fq _ _ _ hx2) ad4 (.cons (.same _) .nil) (fun g => by simp) (fun g => by simp) ?_
 conv => whnf
 obtain ⟨x3, hx3, h⟩ := ob h
 refine aD (DF _ _ _ hx3) adg (.cons (.same _) .nil) (fun g => by simp) (fun g => by simp) ?_
 conv => whnf
 refine ⟨by kernel_rfl, ?_⟩
 conv => whnf
 refine k2 _ _ ?_
 refine .q fun K3 k3 => ?_
 refine .q fun K4 k4 => ?_
 refine rg 0 ?_
 conv => whnf
 refine aQ (l := p0.values) (f := aj) ?_
 conv => whnf
 refine k4 _ _ ?_
 refine .block ?_
 obtain ⟨o1, ho1, h⟩ := ob h
 have hR1 : ∀ s2 : List Val, o1 = .nx s2 → ∀ t9 h9, Le 0 t9 h9 (u2 (.ptr 0 0 :: (.ptr 1 0 :: (u16 (u8 (u4 (u2 []))))))) [.box [.psl 2 2 (List.length ([] : List Carrier)), .psl 3 4 (List.length ([] : List Decl)), .psl 4 1 (List.length ([] : List Int)), .psl 5 4 (List.length ([] : List Val))], .box [.slice (List.map ah x1.carriers) .shared, .slice (List.map ak x1.names) .shared, .slice (List.map encI x3) .shared, .psl 6 4 (List.length s2)], .arr 2 (List.map ah ([] : List Carrier)), .arr 4 (List.map ak ([] : List Decl)), .arr 1 (List.map encI ([] : List Int)), .arr 4 (List.map aj ([] : List Val)), .arr 4 (List.map aj s2)] → K3 t9 h9 := by
  intro s2 ho
  subst ho
  dsimp only [LR.el] at h
  intro t9 h9 hw
  refine k3 _ _ (AW.le hw ?_)
  refine .q fun K5 k5 => ?_
  refine rg 0 ?_
  conv => whnf
  obtain ⟨x4, hx4, h⟩ := ob h
  refine bH [6] [] [.psl 0 4 (List.length s2)] [.psl 6 4 (List.length s2)] (wQ _ _ _ hx4) aaJ rfl (.cons (congrArg (AObj.arr _) (aI _ _)) .nil) (by simp; try decide) (.cons (.same _) .nil) (rn := .psl 6 4 (List.length s2)) (by simp; try decide) (Hn := [.arr 4 (List.map aj s2)]) ((bS (congrArg (AObj.arr _) (aI _ _)) rfl)) ?_
  conv => whnf
  refine k5 _ _ ?_
  refine .q fun K6 k6 => ?_
  refine rg 0 ?_
  conv => whnf
  refine k6 _ _ ?_
  refine .ret ?_
  conv => whnf
  have e9 := sj h
  subst e9
  refine hQ _ _ _ (dZ (u2 (.ptr 0 0 :: (u16 (u8 (u4 (u2 (.unk :: []))))))) [.box [.slice (List.map ah x1.carriers) .shared, .slice (List.map ak x1.names) .shared, .slice (List.map encI x3) .shared, .psl 1 4 (List.length s2)], .arr 4 (List.map aj s2)] (wk [some 0, some 6] (.u2 (.c rfl (.u16 (.u8 (.u4 (.u2 (.u .nil))))))) (.b rfl (.e aA (.e aF (.e aV (.c rfl .nil)))) (.old (.arr' aI (aP _)) .nil)) rfl) (bG aK [1] rfl (.cons (congrArg (AObj.arr _) (aI _ _)) .nil) ?_))
  conv => whnf
  first | rfl | (simp; done) | (simp; rfl) | (simp; and_intros <;> rfl)
 refine .loopS (kU n p0) (fun (s1 : Int × (List Val)) => (u2 (.ptr 0 0 :: (.ptr 1 0 :: (u8 (u2 (.unk :: (.slice (List.map aj p0.values) .shared :: (.int .i64 (p0.values.length : Int) :: (.int .i64 s1.1 :: (u16 []))))))))))) (fun (s1 : Int × (List Val)) => [.box [.psl 2 2 (List.length ([] : List Carrier)), .psl 3 4 (List.length ([] : List Decl)), .psl 4 1 (List.length ([] : List Int)), .psl 5 4 (List.length ([] : List Val))], .box [.slice (List.map ah x1.carriers) .shared, .slice (List.map ak x1.names) .shared, .slice (List.map encI x3) .shared, .psl 6 4 (List.length s1.2)], .arr 2 (List.map ah ([] : List Carrier)), .arr 4 (List.map ak ([] : List Decl)), .arr 1 (List.map encI ([] : List Int)), .arr 4 (List.map aj ([] : List Val)), .arr 4 (List.map aj s1.2)]) ho1 (fun _ => rfl) (wk [some 1, some 2, none, none, none, none, none] (.u2 (.c rfl (.c rfl (.u8 (.u2 (.u (.e aI (.c rfl (.c rfl (.u16 .nil)))))))))) (.b rfl (.cons (.nilP _ _) (.cons (.nilP _ _) (.cons (.nilP _ _) (.cons (.nilP _ _) .nil)))) (.b rfl (.e aA (.e aF (.e aV (.cons (.nilP _ _) .nil)))) (.w rfl (.w rfl (.w rfl (.w rfl (.w rfl .nil))))))) rfl) ?_
 intro n1 s1 hs1 KL1 hKL1
 unfold kU at hs1
 refine .q fun K7 k7 => ?_
 refine rg 0 ?_
 conv => whnf
 refine k7 _ _ ?_
 refine .q fun K8 k8 => ?_
 refine .aL rfl hs1 (fun hc1 hs1 => ?_) (fun hc1 hs1 => ?_)
 ·refine .skip ?_
  conv => whnf
  refine k8 _ _ ?_
  refine .q fun K9 k9 => ?_
  refine .block ?_
  refine .q fun K10 k10 => ?_
  refine rg 1 ?_
  conv => whnf
  obtain ⟨x5, hx5, hs1⟩ := ob hs1
  refine aW (l := p0.values) (f := aj) (cs := [.int .i64 ((x5).kind), .int .i64 ((x5).n), .str ((x5).name), .slice (List.map aj ((x5).kids)) .shared]) hx5 (bg x5) rfl ?_
  conv => whnf
  refine k10 _ _ ?_
  refine rg 2 ?_
  conv => whnf
  obtain ⟨x6, hx6, hs1⟩ := ob hs1
  refine aD (sV _ _ _ hx6) GQ (.cons (.same _) .nil) (fun g => by simp) (fun g => by simp) ?_
  conv => whnf
  refine ⟨List.map aj ([x6]), by simp only [List.map_cons, List.map_nil, bg]; try rfl, ?_⟩
  conv => whnf
  obtain ⟨x7, hx7, hs1⟩ := ob hs1
  refine xW (l := s1.2) (l' := s1.2) (ys := ([x6])) (f := aj) hx7 (aP _) nD ?_
  conv => whnf
  refine ⟨by kernel_rfl, ?_⟩
  conv => whnf
  refine k9 _ _ ?_
  refine .know 17 0 fun hv1 => ?_
  refine .know 15 0 fun hv2 => ?_
  refine rg 0 ?_
  conv => whnf
  refine ⟨(s1.1 + 1), by have := dn hv1; have := gX hv2; have h8 := of_decide_eq_true hc1; exact bD (by omega) (by omega), ?_⟩
  conv => whnf
  exact hKL1 _ _ _ hs1 (wk [some 0, some 1, some 2, some 3, some 4, some 5, some 9] (.u2 (.c rfl (.c rfl (.u8 (.u2 (.u (.e aI (.c rfl (.c rfl (.u16 .nil)))))))))) (.b rfl (.c rfl (.c rfl (.c rfl (.c rfl .nil)))) (.b rfl (.e aA (.e aF (.e aV (.c rfl .nil)))) (.old (.arr' aA (aP _)) (.old (.arr' aF (aP _)) (.old (.arr' aV (aP _)) (.old (.arr' aI (aP _)) (.old (.arr' aI (aP _)) .nil))))))) rfl)
 refine .exit ?_
 conv => whnf
 exact hR1 _ (sj hs1).symm _ _ (wk [some 0, some 1, some 2, some 3, some 4, some 5, some 6] (.u2 (.c rfl (.c rfl (.u16 (.u8 (.u4 (.u2 .nil))))))) (.b rfl (.c rfl (.c rfl (.c rfl (.c rfl .nil)))) (.b rfl (.e aA (.e aF (.e aV (.c rfl .nil)))) (.old (.arr' aA (aP _)) (.old (.arr' aF (aP _)) (.old (.arr' aV (aP _)) (.old (.arr' aI (aP _)) (.old (.arr' aI (aP _)) .nil))))))) rfl)
end Abs
end Go.Proofs.YtkopaeklihhdlaaGreat
