/-
  Contracts of Go functions (printed). Conditions: none.
-/
import Derived.KernelRfl
import Derived.Test.YtkopaeklihhdlaaGreatCE3ox76f4e3
set_option linter.unusedSimpArgs false
set_option linter.unusedVariables false
namespace Go.Proofs.YtkopaeklihhdlaaGreat
namespace Abs
open Go Go.Proofs
set_option maxRecDepth 100000
set_option maxHeartbeats 40000000
theorem Ry (n : Nat) (p0 : List Int) (r : Int) (h : Aw n p0 = some r) : aA Tryz.prog 59 [.slice (List.map encI p0) .shared] [] (.int .i64 r) [] := by
 unfold Aw at h
 refine aC true Tryz.func59 rfl (by rw [Tryz.ntmps59]; exact Nat.le_of_ble_eq_true rfl) fun Q hQ t ht => ?_
 conv at ht => whnf
 subst ht
 refine .q fun K1 k1 => ?_
 refine rg 0 ?_
 conv => whnf
 refine k1 _ _ ?_
 refine .q fun K2 k2 => ?_
 refine rg 0 ?_
 conv => whnf
 refine k2 _ _ ?_
 refine .q fun K3 k3 => ?_
 refine .q fun K4 k4 => ?_
 refine rg 0 ?_
 conv => whnf
 refine aQ (l := p0) (f := encI) ?_
 conv => whnf
 refine k4 _ _ ?_
 refine .block ?_
 obtain ⟨o1, ho1, h⟩ := ob h
 have hR1 : ∀ s2 : Unit, o1 = .nx s2 → ∀ t9 h9, Le 0 t9 h9 (u2 (.unk :: (.int .i64 0 :: (u8 (u4 (u2 [])))))) [] → K3 t9 h9 := by
  intro s2 ho
  subst ho
  dsimp only [LR.el] at h
  intro t9 h9 hw
  refine k3 _ _ (AW.le hw ?_)
  refine .q fun K5 k5 => ?_
  refine rg 0 ?_
  conv => whnf
  refine k5 _ _ ?_
  refine .ret ?_
  conv => whnf
  have e9 := sj h
  subst e9
  refine hQ _ _ _ (aG aJ (fun g => rfl) ?_)
  conv => whnf
 refine .loopS (oJ n p0) (fun (s1 : Int) => (u2 (.unk :: (.int .i64 0 :: (u2 (.slice (List.map encI p0) .shared :: (.int .i64 (p0.length : Int) :: (.int .i64 s1 :: (u8 (.unk :: [])))))))))) (fun (s1 : Int) => []) ho1 (fun _ => rfl) (li (.u2 (.u (.s (.u2 (.s (.s (.s (.u8 (.u .n)))))))))) ?_
 intro n1 s1 hs1 KL1 hKL1
 unfold oJ at hs1
 refine .q fun K6 k6 => ?_
 refine rg 0 ?_
 conv => whnf
 refine k6 _ _ ?_
 refine .q fun K7 k7 => ?_
 refine .aK rfl hs1 (fun hc1 hs1 => ?_) (fun hc1 hs1 => ?_)
 ·refine .skip ?_
  conv => whnf
  refine k7 _ _ ?_
  refine .q fun K8 k8 => ?_
  refine .block ?_
  refine .q fun K9 k9 => ?_
  refine rg 0 ?_
  conv => whnf
  obtain ⟨x1, hx1, hs1⟩ := ob hs1
  refine aU (l := p0) (f := encI) (cs := [.int .i64 (x1)]) hx1 (rfl) rfl ?_
  conv => whnf
  refine k9 _ _ ?_
  refine .q fun K10 k10 => ?_
  refine rg 0 ?_
  conv => whnf
  refine k10 _ _ ?_
  refine .aK rfl hs1 (fun hc2 hs1 => ?_) (fun hc2 hs1 => ?_)
  ·refine .q fun K11 k11 => ?_
   refine rg 0 ?_
   conv => whnf
   refine k11 _ _ ?_
   refine .ret ?_
   conv => whnf
   have e9 := sj hs1
   subst e9
   dsimp only [LR.el] at h
   have e9 := sj h
   subst e9
   refine hQ _ _ _ (aG aJ (fun g => rfl) ?_)
   conv => whnf
  refine .skip ?_
  conv => whnf
  refine k8 _ _ ?_
  refine .know 8 0 fun hv1 => ?_
  refine .know 6 0 fun hv2 => ?_
  refine rg 0 ?_
  conv => whnf
  refine ⟨(s1 + 1), by have := bY hv1; have := gI hv2; have h8 := of_decide_eq_true hc1; exact bB (by omega) (by omega), ?_⟩
  conv => whnf
  exact hKL1 _ _ _ hs1 (li (.u2 (.u (.s (.u2 (.s (.s (.s (.u8 (.u .n))))))))))
 refine .exit ?_
 conv => whnf
 exact hR1 _ (sj hs1).symm _ _ (li (.u2 (.u (.s (.u8 (.u4 (.u2 .n)))))))
abbrev qep (qd1 : (List Val) → (List Val) → Option Int) : Prop := ∀ (p0 : List Val) (p1 : List Val) (r : Int), qd1 p0 p1 = some r → aA Tryz.prog 62 [.slice (List.map ah p0) .shared, .slice (List.map ah p1) .shared, .func 23 []] [] (.int .i64 r) []
abbrev qbh (qdv : Val → Val → Option Int) : Prop := ∀ (p0 : Val) (p1 : Val) (r : Int), qdv p0 p1 = some r → aA Tryz.prog 23 [.agg [.int .i64 p0.kind, .int .i64 p0.n, .str p0.name, .slice (List.map ah p0.kids) .shared], .agg [.int .i64 p1.kind, .int .i64 p1.n, .str p1.name, .slice (List.map ah p1.kids) .shared]] [] (.int .i64 r) []
theorem wF (n : Nat) (qd1 : (List Val) → (List Val) → Option Int) (qdv : Val → Val → Option Int) (qb8 : qep qd1) (qb2 : qbh qdv) (p0 : List Val) (p1 : List Val) (r : Int) (h : fT n qd1 qdv p0 p1 = some r) : aA Tryz.prog 62 [.slice (List.map ah p0) .shared, .slice (List.map ah p1) .shared, .func 23 []] [] (.int .i64 r) [] := by
 unfold fT at h
 refine aC true Tryz.func62 rfl (by rw [Tryz.ntmps62]; exact Nat.le_of_ble_eq_true rfl) fun Q hQ t ht => ?_
 conv at ht => whnf
 subst ht
 refine .q fun K1 k1 => ?_
 refine rg 0 ?_
 conv => whnf
 refine k1 _ _ ?_
 refine .q fun K2 k2 => ?_
 refine .q fun K3 k3 => ?_
 refine rg 0 ?_
 conv => whnf
 refine aQ (l := p0) (f := ah) ?_
 conv => whnf
 refine k3 _ _ ?_
 refine .block ?_
 obtain ⟨o1, ho1, h⟩ := ob h
 have hR1 : ∀ s2 : Unit, o1 = .nx s2 → ∀ t9 h9, Le 0 t9 h9 (.slice (List.map ah p0) .shared :: (.slice (List.map ah p1) .shared :: (u32 (u4 (.unk :: []))))) [] → K2 t9 h9 := by
  intro s2 ho
  subst ho
  dsimp only [LR.el] at h
  intro t9 h9 hw
  refine k2 _ _ (AW.le hw ?_)
  refine .q fun K4 k4 => ?_
  refine .q fun K5 k5 => ?_
  refine rg 0 ?_
  conv => whnf
  refine aQ (l := p0) (f := ah) ?_
  conv => whnf
  refine aQ (l := p1) (f := ah) ?_
  conv => whnf
  refine k5 _ _ ?_
  refine .aK rfl h (fun hc1 h => ?_) (fun hc1 h => ?_)
  ·refine .q fun K6 k6 => ?_
   refine rg 0 ?_
   conv => whnf
   refine k6 _ _ ?_
   refine .ret ?_
   conv => whnf
   have e9 := sj h
   subst e9
   refine hQ _ _ _ (aG aJ (fun g => rfl) ?_)
   conv => whnf
  refine .skip ?_
  conv => whnf
  refine k4 _ _ ?_
  refine .q fun K7 k7 => ?_
  refine rg 0 ?_
  conv => whnf
  refine k7 _ _ ?_
  refine .ret ?_
  conv => whnf
  have e9 := sj h
  subst e9
  refine hQ _ _ _ (aG aJ (fun g => rfl) ?_)
  conv => whnf
 refine .loopS (dA n qd1 qdv p0 p1) (fun (s1 : Int) => (.slice (List.map ah p0) .shared :: (.slice (List.map ah p1) .shared :: (.func 23 [] :: (u8 (.slice (List.map ah p0) .shared :: (.int .i64 (p0.length : Int) :: (.int .i64 s1 :: (u16 (u8 (.unk :: []))))))))))) (fun (s1 : Int) => []) ho1 (fun _ => rfl) (li (.s (.s (.s (.u8 (.s (.s (.s (.u16 (.u8 (.u .n))))))))))) ?_
 intro n1 s1 hs1 KL1 hKL1
 unfold dA at hs1
 refine .q fun K8 k8 => ?_
 refine rg 0 ?_
 conv => whnf
 refine k8 _ _ ?_
 refine .q fun K9 k9 => ?_
 refine .aK rfl hs1 (fun hc2 hs1 => ?_) (fun hc2 hs1 => ?_)
 ·refine .skip ?_
  conv => whnf
  refine k9 _ _ ?_
  refine .q fun K10 k10 => ?_
  refine .block ?_
  refine .q fun K11 k11 => ?_
  refine rg 1 ?_
  conv => whnf
  obtain ⟨x1, hx1, hs1⟩ := ob hs1
  refine aU (l := p0) (f := ah) (cs := [.int .i64 ((x1).kind), .int .i64 ((x1).n), .str ((x1).name), .slice (List.map ah ((x1).kids)) .shared]) hx1 (aX x1) rfl ?_
  conv => whnf
  refine k11 _ _ ?_
  refine .q fun K12 k12 => ?_
  refine .q fun K13 k13 => ?_
  refine rg 0 ?_
  conv => whnf
  refine aQ (l := p1) (f := ah) ?_
  conv => whnf
  refine k13 _ _ ?_
  refine .aK rfl hs1 (fun hc3 hs1 => ?_) (fun hc3 hs1 => ?_)
  ·refine .q fun K14 k14 => ?_
   refine rg 0 ?_
   conv => whnf
   refine k14 _ _ ?_
   refine .ret ?_
   conv => whnf
   have e9 := sj hs1
   subst e9
   dsimp only [LR.el] at h
   have e9 := sj h
   subst e9
   refine hQ _ _ _ (aG aJ (fun g => rfl) ?_)
   conv => whnf
  refine .skip ?_
  conv => whnf
  refine k12 _ _ ?_
  refine .q fun K15 k15 => ?_
  refine rg 1 ?_
  conv => whnf
  obtain ⟨x2, hx2, hs1⟩ := ob hs1
  refine aU (l := p1) (f := ah) (cs := [.int .i64 ((x2).kind), .int .i64 ((x2).n), .str ((x2).name), .slice (List.map ah ((x2).kids)) .shared]) hx2 (aX x2) rfl ?_
  conv => whnf
  refine k15 _ _ ?_
  refine .q fun K16 k16 => ?_
  refine rg 0 ?_
  conv => whnf
  obtain ⟨x3, hx3, hs1⟩ := ob hs1
  refine aB (qb2 _ _ _ hx3) BS (.cons (.same _) (.cons (.same _) .nil)) (fun g => by simp) (fun g => rfl) ?_
  conv => whnf
  refine k16 _ _ ?_
  refine .q fun K17 k17 => ?_
  refine rg 0 ?_
  conv => whnf
  refine k17 _ _ ?_
  refine .aK rfl hs1 (fun hc4 hs1 => ?_) (fun hc4 hs1 => ?_)
  ·refine .q fun K18 k18 => ?_
   refine rg 0 ?_
   conv => whnf
   refine k18 _ _ ?_
   refine .ret ?_
   conv => whnf
   have e9 := sj hs1
   subst e9
   dsimp only [LR.el] at h
   have e9 := sj h
   subst e9
   refine hQ _ _ _ (aG aJ (fun g => rfl) ?_)
   conv => whnf
  refine .skip ?_
  conv => whnf
  refine k10 _ _ ?_
  refine .know 7 0 fun hv1 => ?_
  refine .know 0 0 fun hv2 => ?_
  refine rg 0 ?_
  conv => whnf
  refine ⟨(s1 + 1), by have := bY hv1; have := gI hv2; have h8 := of_decide_eq_true hc2; exact bB (by omega) (by omega), ?_⟩
  conv => whnf
  exact hKL1 _ _ _ hs1 (wk [] (.e aD (.e aD (.cons (.func' .nil) (.u8 (.e aD (.c rfl (.c rfl (.u16 (.u8 (.u .nil)))))))))) .nil rfl)
 refine .exit ?_
 conv => whnf
 exact hR1 _ (sj hs1).symm _ _ (li (.s (.s (.u16 (.u16 (.u4 (.u .n)))))))
theorem FI (n : Nat) (qd1 : (List Val) → (List Val) → Option Int) (qdv : Val → Val → Option Int) (qb8 : qep qd1) (qb2 : qbh qdv) (p0 : Val) (p1 : Val) (r : Int) (h : nu n qd1 qdv p0 p1 = some r) : aA Tryz.prog 23 [.agg [.int .i64 p0.kind, .int .i64 p0.n, .str p0.name, .slice (List.map ah p0.kids) .shared], .agg [.int .i64 p1.kind, .int .i64 p1.n, .str p1.name, .slice (List.map ah p1.kids) .shared]] [] (.int .i64 r) [] := by
 unfold nu at h
 refine aC true Tryz.func23 rfl (by rw [Tryz.ntmps23]; exact Nat.le_of_ble_eq_true rfl) fun Q hQ t ht => ?_
 conv at ht => whnf
 subst ht
 refine .q fun K1 k1 => ?_
 refine rg 2 ?_
 conv => whnf
 refine k1 _ _ ?_
 refine .q fun K2 k2 => ?_
 refine .q fun K3 k3 => ?_
 refine rg 1 ?_
 conv => whnf
 obtain ⟨x1, hx1, h⟩ := ob h
 refine aB (zK _ _ _ _ hx1) abC (.cons (.same _) (.cons (.same _) .nil)) (fun g => rfl) (fun g => rfl) ?_
 conv => whnf
 obtain ⟨x2, hx2, h⟩ := ob h
 refine aB (zK _ _ _ _ hx2) abC (.cons (.same _) (.cons (.same _) .nil)) (fun g => rfl) (fun g => rfl) ?_
 conv => whnf
 obtain ⟨x3, hx3, h⟩ := ob h
 refine aB (zD _ _ _ _ hx3) agY (.cons (.same _) (.cons (.same _) .nil)) (fun g => rfl) (fun g => rfl) ?_
 conv => whnf
 refine ⟨List.map encI ([x1, x2, x3]), rfl, ?_⟩
 conv => whnf
 obtain ⟨x4, hx4, h⟩ := ob h
 refine aB (Ry _ _ _ hx4) aho (.cons (.share _ _) .nil) (fun g => by simp) (fun g => rfl) ?_
 conv => whnf
 refine ⟨by kernel_rfl, ?_⟩
 conv => whnf
 refine k3 _ _ ?_
 refine .q fun K4 k4 => ?_
 refine rg 0 ?_
 conv => whnf
 refine k4 _ _ ?_
 refine .aK rfl h (fun hc1 h => ?_) (fun hc1 h => ?_)
 ·refine .q fun K5 k5 => ?_
  refine rg 0 ?_
  conv => whnf
  refine k5 _ _ ?_
  refine .ret ?_
  conv => whnf
  have e9 := sj h
  subst e9
  refine hQ _ _ _ (aG aJ (fun g => rfl) ?_)
  conv => whnf
 refine .skip ?_
 conv => whnf
 refine k2 _ _ ?_
 refine .q fun K6 k6 => ?_
 refine rg 0 ?_
 conv => whnf
 obtain ⟨x5, hx5, h⟩ := ob h
 refine aB (qb8 _ _ _ hx5) agh (.cons (.same _) (.cons (.same _) (.cons (.same _) .nil))) (fun g => by simp) (fun g => rfl) ?_
 conv => whnf
 refine k6 _ _ ?_
 refine .ret ?_
 conv => whnf
 have e9 := sj h
 subst e9
 refine hQ _ _ _ (aG aJ (fun g => rfl) ?_)
 conv => whnf
theorem qA (n : Nat) : qep (dQ n) ∧ qbh (dL n) := by
 induction n with
 | zero => exact ⟨(fun p0 p1 r h => by unfold dQ at h; cases h), (fun p0 p1 r h => by unfold dL at h; cases h)⟩
 | succ n ih =>
  exact ⟨(fun p0 p1 r h => wF n _ _ ih.1 ih.2 p0 p1 r (by unfold dQ at h; exact h)), (fun p0 p1 r h => FI n _ _ ih.1 ih.2 p0 p1 r (by unfold dL at h; exact h))⟩
theorem j3 (n : Nat) : qbh (dL n) := (qA n).2
theorem e5x0 {p q : Prop} (f : p → q) (h : p := by exact wk [some 0] (.u (.c rfl (.u32 (.u8 (.u4 (.u2 (.u (.e aF (.c rfl (.c rfl (.u16 (.u2 (.u (.c rfl (.u4 .nil))))))))))))))) (.b rfl (.e au (.e aF .nil)) .nil) rfl) : q := f h
theorem Ic (n : Nat) (p0 : Env) (r : List Str) (h : jZ n p0 = some r) : aA Tryz.prog 92 [.agg [.slice (List.map aj p0.carriers) .shared, .slice (List.map ak p0.names) .shared]] [] (.slice (List.map encS r) (.tip 0 1)) [.tip (List.length r * 1)] := by
 unfold jZ at h
 refine aC false Tryz.func92 rfl (by rw [Tryz.ntmps92]; exact Nat.le_of_ble_eq_true rfl) fun Q hQ t ht => ?_
 conv at ht => whnf
 subst ht
 refine .q fun K1 k1 => ?_
 refine rg 1 ?_
 conv => whnf
 refine k1 _ _ ?_
 refine .q fun K2 k2 => ?_
 refine rg 0 ?_
 conv => whnf
 refine k2 _ _ ?_
 refine .q fun K3 k3 => ?_
 refine .q fun K4 k4 => ?_
 refine rg 0 ?_
 conv => whnf
 refine aQ (l := p0.carriers) (f := aj) ?_
 conv => whnf
 refine k4 _ _ ?_
 refine .block ?_
 obtain ⟨o1, ho1, h⟩ := ob h
 have hR1 : ∀ s2 : List Str, o1 = .nx s2 → ∀ t9 h9, Le 0 t9 h9 (.unk :: (.ptr 0 0 :: (.unk :: (.slice (List.map encS s2) (.tip 1 1) :: (u32 (u2 [])))))) [.box [.slice (List.map aj p0.carriers) .shared, .slice (List.map ak p0.names) .shared], .tip (List.length s2 * 1)] → K3 t9 h9 := by
  intro s2 ho
  subst ho
  dsimp only [LR.el] at h
  intro t9 h9 hw
  refine k3 _ _ (AW.le hw ?_)
  refine .q fun K5 k5 => ?_
  refine .q fun K6 k6 => ?_
  refine rg 0 ?_
  conv => whnf
  refine aQ (l := p0.names) (f := ak) ?_
  conv => whnf
  refine k6 _ _ ?_
  refine .block ?_
  obtain ⟨o2, ho2, h⟩ := ob h
  have hR2 : ∀ s4 : List Str, o2 = .nx s4 → ∀ t9 h9, Le 0 t9 h9 (u2 (.unk :: (.slice (List.map encS s4) (.tip 0 1) :: (u32 (u2 []))))) [.tip (List.length s4 * 1)] → K5 t9 h9 := by
   intro s4 ho
   subst ho
   dsimp only [LR.el] at h
   intro t9 h9 hw
   refine k5 _ _ (AW.le hw ?_)
   refine .q fun K7 k7 => ?_
   refine rg 0 ?_
   conv => whnf
   refine k7 _ _ ?_
   refine .ret ?_
   conv => whnf
   have e9 := sj h
   subst e9
   refine hQ _ _ _ (d9 (u2 (.slice (List.map encS s4) (.tip 0 1) :: (u32 (u2 (.unk :: []))))) [.tip (List.length s4 * 1)] (wk [some 0] (.u2 (.cons (.dz (bE _ _) rfl) (.u32 (.u2 (.u .nil))))) (.t rfl .nil) rfl) (bH aJ [0] rfl (.cons (rfl) .nil) ?_))
   conv => whnf
   first | rfl | (simp; done) | (simp; rfl) | (simp; and_intros <;> rfl)
  refine .loopS (mo n p0) (fun (s3 : (List Str) × Int) => (u2 (.unk :: (.slice (List.map encS s3.1) (.tip 0 1) :: (u16 (u4 (.unk :: (.slice (List.map ak p0.names) .shared :: (.int .i64 (p0.names.length : Int) :: (.int .i64 s3.2 :: (u8 (u2 [])))))))))))) (fun (s3 : (List Str) × Int) => [.tip (List.length s3.1 * 1)]) ho2 (fun _ => rfl) (wk [some 1] (.u2 (.u (.cons (.dz (bE _ _) rfl) (.u16 (.u4 (.u (.e aF (.c rfl (.c rfl (.u8 (.u2 .nil))))))))))) (.t rfl .nil) rfl) ?_
  intro n2 s3 hs2 KL2 hKL2
  unfold mo at hs2
  refine .q fun K8 k8 => ?_
  refine rg 0 ?_
  conv => whnf
  refine k8 _ _ ?_
  refine .q fun K9 k9 => ?_
  refine .aK rfl hs2 (fun hc1 hs2 => ?_) (fun hc1 hs2 => ?_)
  ·refine .skip ?_
   conv => whnf
   refine k9 _ _ ?_
   refine .q fun K10 k10 => ?_
   refine .block ?_
   refine .q fun K11 k11 => ?_
   refine rg 1 ?_
   conv => whnf
   obtain ⟨x1, hx1, hs2⟩ := ob hs2
   refine aU (l := p0.names) (f := ak) (cs := [.str ((x1).name), .int .i64 (((x1).ty).kind), .str (((x1).ty).name), .slice (List.map aH (((x1).ty).kids)) .shared]) hx1 (rfl) rfl ?_
   conv => whnf
   refine k11 _ _ ?_
   refine rg 2 ?_
   conv => whnf
   refine ⟨List.map encS ([x1.name]), rfl, ?_⟩
   conv => whnf
   obtain ⟨x2, hx2, hs2⟩ := ob hs2
   refine gq (l := s3.1) (ys := [x1.name]) (f := encS) hx2 Dj rfl rfl rfl ?_
   conv => whnf
   refine k10 _ _ ?_
   refine .know 27 0 fun hv1 => ?_
   refine .know 25 0 fun hv2 => ?_
   refine rg 0 ?_
   conv => whnf
   refine ⟨(s3.2 + 1), by have := bY hv1; have := gI hv2; have h8 := of_decide_eq_true hc1; exact bB (by omega) (by omega), ?_⟩
   conv => whnf
   exact hKL2 _ _ _ hs2 (wk [some 3] (.u2 (.u (.cons (.dz (bE _ _) rfl) (.u16 (.u4 (.u (.e aF (.c rfl (.c rfl (.u8 (.u2 .nil))))))))))) (.t rfl .nil) rfl)
  refine .exit ?_
  conv => whnf
  exact hR2 _ (sj hs2).symm _ _ (li (.u2 (.u (.s (.u16 (.u16 (.u2 .n)))))))
 refine .loopS (l5 n p0) (fun (s1 : (List Str) × Int) => (.unk :: (.ptr 0 0 :: (.unk :: (.slice (List.map encS s1.1) (.tip 1 1) :: (u4 (.unk :: (.slice (List.map aj p0.carriers) .shared :: (.int .i64 (p0.carriers.length : Int) :: (.int .i64 s1.2 :: (u16 (u8 (u2 []))))))))))))) (fun (s1 : (List Str) × Int) => [.box [.slice (List.map aj p0.carriers) .shared, .slice (List.map ak p0.names) .shared], .tip (List.length s1.1 * 1)]) ho1 (fun _ => rfl) (wk [some 0, none] (.u (.c rfl (.u (.cons (.nils _ _) (.u4 (.u (.e au (.c rfl (.c rfl (.u16 (.u8 (.u2 .nil)))))))))))) (.b rfl (.e au (.e aF .nil)) (.w rfl .nil)) rfl) ?_
 intro n1 s1 hs1 KL1 hKL1
 unfold l5 at hs1
 refine .q fun K12 k12 => ?_
 refine rg 0 ?_
 conv => whnf
 refine k12 _ _ ?_
 refine .q fun K13 k13 => ?_
 refine .aK rfl hs1 (fun hc2 hs1 => ?_) (fun hc2 hs1 => ?_)
 ·refine .skip ?_
  conv => whnf
  refine k13 _ _ ?_
  refine .q fun K14 k14 => ?_
  refine .block ?_
  refine .q fun K15 k15 => ?_
  refine rg 1 ?_
  conv => whnf
  obtain ⟨x3, hx3, hs1⟩ := ob hs1
  refine aU (l := p0.carriers) (f := aj) (cs := [.str ((x3).name), .slice (List.map encS ((x3).elems)) .shared]) hx3 (rfl) rfl ?_
  conv => whnf
  refine k15 _ _ ?_
  refine rg 3 ?_
  conv => whnf
  refine ⟨List.map encS ([x3.name]), rfl, ?_⟩
  conv => whnf
  obtain ⟨x4, hx4, hs1⟩ := ob hs1
  refine gq (l := s1.1) (ys := [x3.name]) (f := encS) hx4 Dj rfl rfl rfl ?_
  conv => whnf
  obtain ⟨x5, hx5, hs1⟩ := ob hs1
  refine gq (l := x4) (ys := x3.elems) (f := encS) hx5 Dj rfl rfl rfl ?_
  conv => whnf
  refine ⟨by kernel_rfl, ?_⟩
  conv => whnf
  refine k14 _ _ ?_
  refine .know 11 0 fun hv3 => ?_
  refine .know 9 0 fun hv4 => ?_
  refine rg 0 ?_
  conv => whnf
  refine ⟨(s1.2 + 1), by have := bY hv3; have := gI hv4; have h8 := of_decide_eq_true hc2; exact bB (by omega) (by omega), ?_⟩
  conv => whnf
  exact hKL1 _ _ _ hs1 (wk [some 0, some 5] (.u (.c rfl (.u (.cons (.dz (bE _ _) rfl) (.u4 (.u (.e au (.c rfl (.c rfl (.u16 (.u8 (.u2 .nil)))))))))))) (.b rfl (.e au (.e aF .nil)) (.t rfl .nil)) rfl)
 refine .exit ?_
 conv => whnf
 exact hR1 _ (sj hs1).symm _ _ (li (.u (.s (.u (.s (.u16 (.u16 (.u2 .n))))))))
theorem G9 (n : Nat) (p0 : List Str) (r : Bool) (h : mG n p0 = some r) : aA Tryz.prog 91 [.slice (List.map encS p0) .shared] [] (.bool r) [] := by
 unfold mG at h
 refine aC true Tryz.func91 rfl (by rw [Tryz.ntmps91]; exact Nat.le_of_ble_eq_true rfl) fun Q hQ t ht => ?_
 conv at ht => whnf
 subst ht
 refine .q fun K1 k1 => ?_
 refine rg 0 ?_
 conv => whnf
 refine k1 _ _ ?_
 refine .q fun K2 k2 => ?_
 refine rg 1 ?_
 conv => whnf
 refine k2 _ _ ?_
 refine .q fun K3 k3 => ?_
 refine .q fun K4 k4 => ?_
 refine rg 0 ?_
 conv => whnf
 refine aQ (l := p0) (f := encS) ?_
 conv => whnf
 refine k4 _ _ ?_
 refine .block ?_
 obtain ⟨o1, ho1, h⟩ := ob h
 have hR1 : ∀ s2 : Unit, o1 = .nx s2 → ∀ t9 h9, Le 0 t9 h9 (u16 (u2 (.unk :: []))) [] → K3 t9 h9 := by
  intro s2 ho
  subst ho
  dsimp only [LR.el] at h
  intro t9 h9 hw
  refine k3 _ _ (AW.le hw ?_)
  refine .q fun K5 k5 => ?_
  refine rg 0 ?_
  conv => whnf
  refine k5 _ _ ?_
  refine .ret ?_
  conv => whnf
  have e9 := sj h
  subst e9
  refine hQ _ _ _ (aG aJ (fun g => rfl) ?_)
  conv => whnf
 refine .loopS (lX n p0) (fun (s1 : Int × (List (Str × Bool))) => (u2 (.unk :: (.mapr 0 :: (u2 (.unk :: (.slice (List.map encS p0) .shared :: (.int .i64 (p0.length : Int) :: (.int .i64 s1.1 :: (u8 (.unk :: []))))))))))) (fun (s1 : Int × (List (Str × Bool))) => [.mp (List.map (fun p => (p.1, (fun (x : Bool) => .bool x) p.2)) s1.2)]) ho1 (fun _ => rfl) (li (.u2 (.u (.s (.u2 (.u (.s (.s (.s (.u8 (.u .n))))))))))) ?_
 intro n1 s1 hs1 KL1 hKL1
 unfold lX at hs1
 refine .q fun K6 k6 => ?_
 refine rg 0 ?_
 conv => whnf
 refine k6 _ _ ?_
 refine .q fun K7 k7 => ?_
 refine .aK rfl hs1 (fun hc1 hs1 => ?_) (fun hc1 hs1 => ?_)
 ·refine .skip ?_
  conv => whnf
  refine k7 _ _ ?_
  refine .q fun K8 k8 => ?_
  refine .block ?_
  refine .q fun K9 k9 => ?_
  refine rg 0 ?_
  conv => whnf
  obtain ⟨x1, hx1, hs1⟩ := ob hs1
  refine aU (l := p0) (f := encS) (cs := [.str (x1)]) hx1 (rfl) rfl ?_
  conv => whnf
  refine k9 _ _ ?_
  refine .q fun K10 k10 => ?_
  refine .q fun K11 k11 => ?_
  obtain ⟨s3, hj1, hs1⟩ := ob hs1
  have hR2 : ∀ t9 h9, Le 0 t9 h9 (u2 (.unk :: (.mapr 0 :: (.unk :: (.str x1 :: (.unk :: (.slice (List.map encS p0) .shared :: (.int .i64 (p0.length : Int) :: (.int .i64 s1.1 :: (u4 (.unk :: (.bool s3 :: (u2 (.unk :: [])))))))))))))) [.mp (List.map (fun p => (p.1, (fun (x : Bool) => .bool x) p.2)) s1.2)] → K11 t9 h9 := by
   intro t9 h9 hw
   refine k11 _ _ (AW.le hw ?_)
   clear hw
   refine .aK rfl hs1 (fun hc2 hs1 => ?_) (fun hc2 hs1 => ?_)
   ·refine .q fun K12 k12 => ?_
    refine rg 0 ?_
    conv => whnf
    refine k12 _ _ ?_
    refine .ret ?_
    conv => whnf
    have e9 := sj hs1
    subst e9
    dsimp only [LR.el] at h
    have e9 := sj h
    subst e9
    refine hQ _ _ _ (aG aJ (fun g => rfl) ?_)
    conv => whnf
   refine .skip ?_
   conv => whnf
   refine k10 _ _ ?_
   refine rg 0 ?_
   conv => whnf
   obtain ⟨x2, hx2, hs1⟩ := ob hs1
   refine ab8 (m := s1.2) (f := (fun (x : Bool) => .bool x)) hx2 rfl ?_
   conv => whnf
   refine k8 _ _ ?_
   refine .know 9 0 fun hv1 => ?_
   refine .know 7 0 fun hv2 => ?_
   refine rg 0 ?_
   conv => whnf
   refine ⟨(s1.1 + 1), by have := bY hv1; have := gI hv2; have h8 := of_decide_eq_true hc1; exact bB (by omega) (by omega), ?_⟩
   conv => whnf
   exact hKL1 _ _ _ hs1 (li (.u2 (.u (.s (.u2 (.u (.s (.s (.s (.u8 (.u .n)))))))))))
  refine rg 0 ?_
  conv => whnf
  refine afX (m := s1.2) (f := (fun (x : Bool) => .bool x)) hj1 (fun x3 hx3 hj1 => ?_) (fun hx3 hj1 => ?_)
  ·conv => whnf
   cases hj1
   exact hR2 _ _ (li (.u2 (.u (.s (.u (.s (.u (.s (.s (.s (.u4 (.u (.s (.u2 (.u .n)))))))))))))))
  conv => whnf
  cases hj1
  exact hR2 _ _ (li (.u2 (.u (.s (.u (.s (.u (.s (.s (.s (.u4 (.u (.s (.u2 (.u .n)))))))))))))))
 refine .exit ?_
 conv => whnf
 exact hR1 _ (sj hs1).symm _ _ (wk [] (.u16 (.u2 (.u .nil))) .nil rfl)
theorem uq (n : Nat) (p0 : Env) (r : Bool) (h : dF n p0 = some r) : aA Tryz.prog 42 [.agg [.slice (List.map aj p0.carriers) .shared, .slice (List.map ak p0.names) .shared]] [] (.bool r) [] := by
 unfold dF at h
 refine aC true Tryz.func42 rfl (by rw [Tryz.ntmps42]; exact Nat.le_of_ble_eq_true rfl) fun Q hQ t ht => ?_
 conv at ht => whnf
 subst ht
 refine .q fun K1 k1 => ?_
 refine rg 1 ?_
 conv => whnf
 refine k1 _ _ ?_
 refine .q fun K2 k2 => ?_
 refine .q fun K3 k3 => ?_
 obtain ⟨s1, hj1, h⟩ := ob h
 have hR1 : ∀ t9 h9, Le 0 t9 h9 (.unk :: (.ptr 0 0 :: (u16 (.bool s1 :: (u32 (u16 (u8 (.unk :: [])))))))) [.box [.slice (List.map aj p0.carriers) .shared, .slice (List.map ak p0.names) .shared]] → K3 t9 h9 := by
  intro t9 h9 hw
  refine k3 _ _ (AW.le hw ?_)
  clear hw
  refine .aK rfl h (fun hc1 h => ?_) (fun hc1 h => ?_)
  ·refine .q fun K4 k4 => ?_
   refine rg 0 ?_
   conv => whnf
   refine k4 _ _ ?_
   refine .ret ?_
   conv => whnf
   have e9 := sj h
   subst e9
   refine hQ _ _ _ (aG aJ (fun g => rfl) ?_)
   conv => whnf
  refine .skip ?_
  conv => whnf
  refine k2 _ _ ?_
  refine .q fun K5 k5 => ?_
  refine .q fun K6 k6 => ?_
  refine rg 0 ?_
  conv => whnf
  refine aQ (l := p0.carriers) (f := aj) ?_
  conv => whnf
  refine k6 _ _ ?_
  refine .block ?_
  obtain ⟨o1, ho1, h⟩ := ob h
  have hR2 : ∀ s3 : Unit, o1 = .nx s3 → ∀ t9 h9, Le 0 t9 h9 (.unk :: (.ptr 0 0 :: (u64 (u8 (u2 []))))) [.box [.slice (List.map aj p0.carriers) .shared, .slice (List.map ak p0.names) .shared]] → K5 t9 h9 := by
   intro s3 ho
   subst ho
   dsimp only [LR.el] at h
   intro t9 h9 hw
   refine k5 _ _ (AW.le hw ?_)
   refine .q fun K7 k7 => ?_
   refine .q fun K8 k8 => ?_
   refine rg 0 ?_
   conv => whnf
   refine aQ (l := p0.names) (f := ak) ?_
   conv => whnf
   refine k8 _ _ ?_
   refine .block ?_
   obtain ⟨o2, ho2, h⟩ := ob h
   have hR3 : ∀ s5 : Unit, o2 = .nx s5 → ∀ t9 h9, Le 0 t9 h9 (.unk :: (.ptr 0 0 :: (u64 (u8 (u2 []))))) [.box [.slice (List.map aj p0.carriers) .shared, .slice (List.map ak p0.names) .shared]] → K7 t9 h9 := by
    intro s5 ho
    subst ho
    dsimp only [LR.el] at h
    intro t9 h9 hw
    refine k7 _ _ (AW.le hw ?_)
    refine .q fun K9 k9 => ?_
    refine rg 1 ?_
    conv => whnf
    obtain ⟨x1, hx1, h⟩ := ob h
    refine bF [] [1] [.agg [.slice (List.map aj p0.carriers) .shared, .slice (List.map ak p0.names) .shared]] [.agg [.slice (List.map aj p0.carriers) .shared, .slice (List.map ak p0.names) .shared]] (Ic _ _ _ hx1) ahw rfl .nil (by simp; try decide) (.cons (.same _) .nil) (rn := .slice (List.map encS x1) (.tip 1 1)) (by simp; try decide) (Hn := [.tip (List.length x1 * 1)]) ((bJ (rfl) rfl)) ?_
    conv => whnf
    obtain ⟨x2, hx2, h⟩ := ob h
    refine aB (G9 _ _ _ hx2) ahC (.cons (.share _ _) .nil) (fun g => by simp) (fun g => rfl) ?_
    conv => whnf
    refine k9 _ _ ?_
    refine .ret ?_
    conv => whnf
    have e9 := sj h
    subst e9
    refine hQ _ _ _ (aG aJ (fun g => rfl) ?_)
    conv => whnf
   refine .loopS (mh n p0) (fun (s4 : Int) => (.unk :: (.ptr 0 0 :: (u32 (u8 (u4 (u2 (.unk :: (.slice (List.map ak p0.names) .shared :: (.int .i64 (p0.names.length : Int) :: (.int .i64 s4 :: (u16 (u8 []))))))))))))) (fun (s4 : Int) => [.box [.slice (List.map aj p0.carriers) .shared, .slice (List.map ak p0.names) .shared]]) ho2 (fun _ => rfl) (li (.u (.s (.u16 (.u16 (.u8 (.u4 (.u2 (.u (.s (.s (.s (.u16 (.u8 .n)))))))))))))) ?_
   intro n2 s4 hs2 KL2 hKL2
   unfold mh at hs2
   refine .q fun K10 k10 => ?_
   refine rg 0 ?_
   conv => whnf
   refine k10 _ _ ?_
   refine .q fun K11 k11 => ?_
   refine .aK rfl hs2 (fun hc2 hs2 => ?_) (fun hc2 hs2 => ?_)
   ·refine .skip ?_
    conv => whnf
    refine k11 _ _ ?_
    refine .q fun K12 k12 => ?_
    refine .block ?_
    refine .q fun K13 k13 => ?_
    refine rg 1 ?_
    conv => whnf
    obtain ⟨x3, hx3, hs2⟩ := ob hs2
    refine aU (l := p0.names) (f := ak) (cs := [.str ((x3).name), .int .i64 (((x3).ty).kind), .str (((x3).ty).name), .slice (List.map aH (((x3).ty).kids)) .shared]) hx3 (rfl) rfl ?_
    conv => whnf
    refine k13 _ _ ?_
    refine .q fun K14 k14 => ?_
    obtain ⟨s6, hj2, hs2⟩ := ob hs2
    have hR4 : ∀ t9 h9, Le 0 t9 h9 (.unk :: (.ptr 0 0 :: (u32 (u8 (u4 (u2 (.unk :: (.slice (List.map ak p0.names) .shared :: (.int .i64 (p0.names.length : Int) :: (.int .i64 s4 :: (u16 (u2 (.unk :: (.bool s6 :: (u4 []))))))))))))))) [.box [.slice (List.map aj p0.carriers) .shared, .slice (List.map ak p0.names) .shared]] → K14 t9 h9 := by
     intro t9 h9 hw
     refine k14 _ _ (AW.le hw ?_)
     clear hw
     refine .aK rfl hs2 (fun hc3 hs2 => ?_) (fun hc3 hs2 => ?_)
     ·refine .q fun K15 k15 => ?_
      refine rg 0 ?_
      conv => whnf
      refine k15 _ _ ?_
      refine .ret ?_
      conv => whnf
      have e9 := sj hs2
      subst e9
      dsimp only [LR.el] at h
      have e9 := sj h
      subst e9
      refine hQ _ _ _ (aG aJ (fun g => rfl) ?_)
      conv => whnf
     refine .skip ?_
     conv => whnf
     refine k12 _ _ ?_
     refine .know 51 0 fun hv1 => ?_
     refine .know 49 0 fun hv2 => ?_
     refine rg 0 ?_
     conv => whnf
     refine ⟨(s4 + 1), by have := bY hv1; have := gI hv2; have h8 := of_decide_eq_true hc2; exact bB (by omega) (by omega), ?_⟩
     conv => whnf
     exact hKL2 _ _ _ hs2 (li (.u (.s (.u16 (.u16 (.u8 (.u4 (.u2 (.u (.s (.s (.s (.u16 (.u8 .n))))))))))))))
    refine rg 0 ?_
    conv => whnf
    obtain ⟨x4, hx4, hj2⟩ := ob hj2
    refine aB (Iu _ _ _ hx4) ahE (.cons (.same _) .nil) (fun g => rfl) (fun g => rfl) ?_
    conv => whnf
    refine aI hj2 (fun hc4 hj2 => ?_) (fun hc4 hj2 => ?_)
    ·conv => whnf
     cases hj2
     exact e5x0 (hR4 _ _)
    conv => whnf
    obtain ⟨x5, hx5, hj2⟩ := ob hj2
    refine aB (FJ _ _ _ hx5) agl (.cons (.same _) .nil) (fun g => by simp) (fun g => rfl) ?_
    conv => whnf
    refine aI hj2 (fun hc5 hj2 => ?_) (fun hc5 hj2 => ?_)
    ·conv => whnf
     cases hj2
     exact e5x0 (hR4 _ _)
    conv => whnf
    obtain ⟨x6, hx6, hj2⟩ := ob hj2
    refine aB (Ij _ _ _ _ hx6) agL (.cons (.same _) (.cons (.same _) .nil)) (fun g => by simp) (fun g => rfl) ?_
    conv => whnf
    cases hj2
    exact e5x0 (hR4 _ _)
   refine .exit ?_
   conv => whnf
   exact hR3 _ (sj hs2).symm _ _ (li (.u (.s (.u16 (.u16 (.u16 (.u16 (.u8 (.u2 .n)))))))))
  refine .loopS (mq n p0) (fun (s2 : Int) => (.unk :: (.ptr 0 0 :: (u16 (u2 (.slice (List.map aj p0.carriers) .shared :: (.int .i64 (p0.carriers.length : Int) :: (.int .i64 s2 :: (u32 (u16 (u4 (.unk :: [])))))))))))) (fun (s2 : Int) => [.box [.slice (List.map aj p0.carriers) .shared, .slice (List.map ak p0.names) .shared]]) ho1 (fun _ => rfl) (li (.u (.s (.u16 (.u2 (.s (.s (.s (.u16 (.u16 (.u16 (.u4 (.u .n))))))))))))) ?_
  intro n1 s2 hs1 KL1 hKL1
  unfold mq at hs1
  refine .q fun K16 k16 => ?_
  refine rg 0 ?_
  conv => whnf
  refine k16 _ _ ?_
  refine .q fun K17 k17 => ?_
  refine .aK rfl hs1 (fun hc6 hs1 => ?_) (fun hc6 hs1 => ?_)
  ·refine .skip ?_
   conv => whnf
   refine k17 _ _ ?_
   refine .q fun K18 k18 => ?_
   refine .block ?_
   refine .q fun K19 k19 => ?_
   refine rg 1 ?_
   conv => whnf
   obtain ⟨x7, hx7, hs1⟩ := ob hs1
   refine aU (l := p0.carriers) (f := aj) (cs := [.str ((x7).name), .slice (List.map encS ((x7).elems)) .shared]) hx7 (rfl) rfl ?_
   conv => whnf
   refine k19 _ _ ?_
   refine .q fun K20 k20 => ?_
   refine .q fun K21 k21 => ?_
   obtain ⟨s7, hj3, hs1⟩ := ob hs1
   have hR5 : ∀ t9 h9, Le 0 t9 h9 (.unk :: (.ptr 0 0 :: (u2 (.ptr 1 0 :: (u8 (u4 (u2 (.unk :: (.slice (List.map aj p0.carriers) .shared :: (.int .i64 (p0.carriers.length : Int) :: (.int .i64 s2 :: (u8 (u4 (.bool s7 :: (u32 (u8 [])))))))))))))))) [.box [.slice (List.map aj p0.carriers) .shared, .slice (List.map ak p0.names) .shared], .box [.str x7.name, .slice (List.map encS x7.elems) .shared]] → K21 t9 h9 := by
    intro t9 h9 hw
    refine k21 _ _ (AW.le hw ?_)
    clear hw
    refine .aK rfl hs1 (fun hc7 hs1 => ?_) (fun hc7 hs1 => ?_)
    ·refine .q fun K22 k22 => ?_
     refine rg 0 ?_
     conv => whnf
     refine k22 _ _ ?_
     refine .ret ?_
     conv => whnf
     have e9 := sj hs1
     subst e9
     dsimp only [LR.el] at h
     have e9 := sj h
     subst e9
     refine hQ _ _ _ (aG aJ (fun g => rfl) ?_)
     conv => whnf
    refine .skip ?_
    conv => whnf
    refine k20 _ _ ?_
    refine .q fun K23 k23 => ?_
    refine rg 0 ?_
    conv => whnf
    refine aQ (l := x7.elems) (f := encS) ?_
    conv => whnf
    refine k23 _ _ ?_
    refine .block ?_
    obtain ⟨o3, ho3, hs1⟩ := ob hs1
    have hR6 : ∀ s9 : Unit, o3 = .nx s9 → ∀ t9 h9, Le 0 t9 h9 (.unk :: (.ptr 0 0 :: (u16 (u2 (.slice (List.map aj p0.carriers) .shared :: (.int .i64 (p0.carriers.length : Int) :: (.int .i64 s2 :: (u32 (u16 (u4 (.unk :: []))))))))))) [.box [.slice (List.map aj p0.carriers) .shared, .slice (List.map ak p0.names) .shared]] → K18 t9 h9 := by
     intro s9 ho
     subst ho
     dsimp only [LR.el] at hs1
     intro t9 h9 hw
     refine k18 _ _ (AW.le hw ?_)
     refine .know 22 0 fun hv3 => ?_
     refine .know 20 0 fun hv4 => ?_
     refine rg 0 ?_
     conv => whnf
     refine ⟨(s2 + 1), by have := bY hv3; have := gI hv4; have h8 := of_decide_eq_true hc6; exact bB (by omega) (by omega), ?_⟩
     conv => whnf
     exact hKL1 _ _ _ hs1 (li (.u (.s (.u16 (.u2 (.s (.s (.s (.u16 (.u16 (.u16 (.u4 (.u .n)))))))))))))
    refine .loopS (iM n x7) (fun (s8 : Int) => (.unk :: (.ptr 0 0 :: (u16 (u2 (.slice (List.map aj p0.carriers) .shared :: (.int .i64 (p0.carriers.length : Int) :: (.int .i64 s2 :: (u8 (u4 (u2 (.slice (List.map encS x7.elems) .shared :: (.int .i64 (x7.elems.length : Int) :: (.int .i64 s8 :: (u32 (u4 [])))))))))))))))) (fun (s8 : Int) => [.box [.slice (List.map aj p0.carriers) .shared, .slice (List.map ak p0.names) .shared]]) ho3 (fun _ => rfl) (wk [some 0] (.u (.c rfl (.u16 (.u2 (.e au (.c rfl (.c rfl (.u8 (.u4 (.u2 (.e bE (.c rfl (.c rfl (.u32 (.u4 .nil))))))))))))))) (.b rfl (.e au (.e aF .nil)) .nil) rfl) ?_
    intro n3 s8 hs3 KL3 hKL3
    unfold iM at hs3
    refine .q fun K24 k24 => ?_
    refine rg 0 ?_
    conv => whnf
    refine k24 _ _ ?_
    refine .q fun K25 k25 => ?_
    refine .aK rfl hs3 (fun hc8 hs3 => ?_) (fun hc8 hs3 => ?_)
    ·refine .skip ?_
     conv => whnf
     refine k25 _ _ ?_
     refine .q fun K26 k26 => ?_
     refine .block ?_
     refine .q fun K27 k27 => ?_
     refine rg 0 ?_
     conv => whnf
     obtain ⟨x8, hx8, hs3⟩ := ob hs3
     refine aU (l := x7.elems) (f := encS) (cs := [.str (x8)]) hx8 (rfl) rfl ?_
     conv => whnf
     refine k27 _ _ ?_
     refine .q fun K28 k28 => ?_
     refine rg 0 ?_
     conv => whnf
     obtain ⟨x9, hx9, hs3⟩ := ob hs3
     refine aB (oW _ _ _ hx9) NP (.cons (.same _) .nil) (fun g => rfl) (fun g => rfl) ?_
     conv => whnf
     refine k28 _ _ ?_
     refine .aK rfl hs3 (fun hc9 hs3 => ?_) (fun hc9 hs3 => ?_)
     ·refine .q fun K29 k29 => ?_
      refine rg 0 ?_
      conv => whnf
      refine k29 _ _ ?_
      refine .ret ?_
      conv => whnf
      have e9 := sj hs3
      subst e9
      dsimp only [LR.el] at hs1
      have e9 := sj hs1
      subst e9
      dsimp only [LR.el] at h
      have e9 := sj h
      subst e9
      refine hQ _ _ _ (aG aJ (fun g => rfl) ?_)
      conv => whnf
     refine .skip ?_
     conv => whnf
     refine k26 _ _ ?_
     refine .know 39 0 fun hv5 => ?_
     refine .know 37 0 fun hv6 => ?_
     refine rg 0 ?_
     conv => whnf
     refine ⟨(s8 + 1), by have := bY hv5; have := gI hv6; have h8 := of_decide_eq_true hc8; exact bB (by omega) (by omega), ?_⟩
     conv => whnf
     exact hKL3 _ _ _ hs3 (li (.u (.s (.u16 (.u2 (.s (.s (.s (.u8 (.u4 (.u2 (.s (.s (.s (.u16 (.u16 (.u4 .n)))))))))))))))))
    refine .exit ?_
    conv => whnf
    exact hR6 _ (sj hs3).symm _ _ (li (.u (.s (.u16 (.u2 (.s (.s (.s (.u16 (.u16 (.u16 (.u4 (.u .n)))))))))))))
   refine rg 0 ?_
   conv => whnf
   obtain ⟨x10, hx10, hj3⟩ := ob hj3
   refine aB (oW _ _ _ hx10) NP (.cons (.same _) .nil) (fun g => rfl) (fun g => rfl) ?_
   conv => whnf
   refine aI hj3 (fun hc10 hj3 => ?_) (fun hc10 hj3 => ?_)
   ·conv => whnf
    cases hj3
    exact hR5 _ _ (li (.u (.s (.u2 (.s (.u8 (.u4 (.u2 (.u (.s (.s (.s (.u8 (.u4 (.s (.u16 (.u16 (.u8 .n))))))))))))))))))
   conv => whnf
   refine aQ (l := x7.elems) (f := encS) ?_
   conv => whnf
   cases hj3
   exact hR5 _ _ (li (.u (.s (.u2 (.s (.u8 (.u4 (.u2 (.u (.s (.s (.s (.u8 (.u4 (.s (.u16 (.u16 (.u8 .n))))))))))))))))))
  refine .exit ?_
  conv => whnf
  exact hR2 _ (sj hs1).symm _ _ (li (.u (.s (.u16 (.u16 (.u16 (.u16 (.u8 (.u2 .n)))))))))
 refine rg 0 ?_
 conv => whnf
 refine aQ (l := p0.carriers) (f := aj) ?_
 conv => whnf
 refine aI hj1 (fun hc11 hj1 => ?_) (fun hc11 hj1 => ?_)
 ·conv => whnf
  cases hj1
  exact hR1 _ _ (li (.u (.s (.u16 (.s (.u16 (.u16 (.u16 (.u8 (.u .n))))))))))
 conv => whnf
 refine aQ (l := p0.names) (f := ak) ?_
 conv => whnf
 cases hj1
 exact hR1 _ _ (li (.u (.s (.u16 (.s (.u16 (.u16 (.u16 (.u8 (.u .n))))))))))
theorem e8x0 {p q : Prop} (f : p → q) (h : p := by exact wk [] (.u8 (.c rfl (.u64 (.u64 (.u32 (.u8 (.u4 (.u .nil)))))))) .nil rfl) : q := f h
theorem e8x1 {p q : Prop} (f : p → q) (h : p := by exact wk [some 2] (.u4 (.u2 (.c rfl (.u64 (.u64 (.u16 (.u8 (.u2 (.c rfl (.u16 (.u4 .nil))))))))))) (.b rfl (.c rfl (.c rfl (.c rfl (.e aD .nil)))) .nil) rfl) : q := f h
abbrev qbm (qdz : Env → (List Int) → Val → Ty → Option Bool) : Prop := ∀ (p0 : Env) (p1 : List Int) (p2 : Val) (p3 : Ty) (r : Bool), qdz p0 p1 p2 p3 = some r → aA Tryz.prog 45 [.agg [.slice (List.map aj p0.carriers) .shared, .slice (List.map ak p0.names) .shared], .slice (List.map encI p1) .shared, .agg [.int .i64 p2.kind, .int .i64 p2.n, .str p2.name, .slice (List.map ah p2.kids) .shared], .agg [.int .i64 p3.kind, .str p3.name, .slice (List.map aH p3.kids) .shared]] [] (.bool r) []
abbrev qbl (qd0 : (List Ty) → Int → Int → Str → (List Val) → (List Carrier) → (List Decl) → (List Int) → Option Bool) : Prop := ∀ (p0 : List Ty) (p1 : Int) (p2 : Int) (p3 : Str) (p4 : List Val) (p5 : List Carrier) (p6 : List Decl) (p7 : List Int) (r : Bool), qd0 p0 p1 p2 p3 p4 p5 p6 p7 = some r → aA Tryz.prog 97 [.slice (List.map aH p0) .shared, .ptr 0 0, .ptr 1 0, .ptr 2 0] [.box [.int .i64 p1, .int .i64 p2, .str p3, .slice (List.map ah p4) .shared], .box [.slice (List.map aj p5) .shared, .slice (List.map ak p6) .shared], .box [.slice (List.map encI p7) .shared]] (.bool r) [.box [.int .i64 p1, .int .i64 p2, .str p3, .slice (List.map ah p4) .shared], .box [.slice (List.map aj p5) .shared, .slice (List.map ak p6) .shared], .box [.slice (List.map encI p7) .shared]]
theorem KN (n : Nat) (qdz : Env → (List Int) → Val → Ty → Option Bool) (qd0 : (List Ty) → Int → Int → Str → (List Val) → (List Carrier) → (List Decl) → (List Int) → Option Bool) (qb6 : qbm qdz) (qb7 : qbl qd0) (p0 : Env) (p1 : List Int) (p2 : Val) (p3 : Ty) (r : Bool) (h : fE n qdz qd0 p0 p1 p2 p3 = some r) : aA Tryz.prog 45 [.agg [.slice (List.map aj p0.carriers) .shared, .slice (List.map ak p0.names) .shared], .slice (List.map encI p1) .shared, .agg [.int .i64 p2.kind, .int .i64 p2.n, .str p2.name, .slice (List.map ah p2.kids) .shared], .agg [.int .i64 p3.kind, .str p3.name, .slice (List.map aH p3.kids) .shared]] [] (.bool r) [] := by
 unfold fE at h
 refine aC true Tryz.func45 rfl (by rw [Tryz.ntmps45]; exact Nat.le_of_ble_eq_true rfl) fun Q hQ t ht => ?_
 conv at ht => whnf
 subst ht
 refine .q fun K1 k1 => ?_
 refine rg 4 ?_
 conv => whnf
 refine k1 _ _ ?_
 refine .q fun K2 k2 => ?_
 refine rg 0 ?_
 conv => whnf
 refine k2 _ _ ?_
 refine .q fun K3 k3 => ?_
 refine .q fun K4 k4 => ?_
 refine rg 0 ?_
 conv => whnf
 refine k4 _ _ ?_
 refine .block ?_
 refine .q fun K5 k5 => ?_
 refine rg 0 ?_
 conv => whnf
 refine k5 _ _ ?_
 refine .aK rfl h (fun hc1 h => ?_) (fun hc1 h => ?_)
 ·refine .q fun K6 k6 => ?_
  obtain ⟨s1, hj1, h⟩ := ob h
  have hR1 : ∀ t9 h9, Le 0 t9 h9 (u8 (.bool s1 :: (u64 (u64 (u32 (u8 (u4 (.unk :: [])))))))) [] → K6 t9 h9 := by
   intro t9 h9 hw
   refine k6 _ _ (AW.le hw ?_)
   clear hw
   refine .ret ?_
   conv => whnf
   have e9 := sj h
   subst e9
   refine hQ _ _ _ (aG aJ (fun g => rfl) ?_)
   conv => whnf
  refine rg 0 ?_
  conv => whnf
  refine aI hj1 (fun hc2 hj1 => ?_) (fun hc2 hj1 => ?_)
  ·conv => whnf
   refine aI hj1 (fun hc3 hj1 => ?_) (fun hc3 hj1 => ?_)
   ·conv => whnf
    refine aI hj1 (fun hc4 hj1 => ?_) (fun hc4 hj1 => ?_)
    ·conv => whnf
     refine aI hj1 (fun hc5 hj1 => ?_) (fun hc5 hj1 => ?_)
     ·conv => whnf
      refine aQ (l := p2.kids) (f := ah) ?_
      conv => whnf
      cases hj1
      exact e8x0 (hR1 _ _)
     conv => whnf
     cases hj1
     exact e8x0 (hR1 _ _)
    conv => whnf
    cases hj1
    exact e8x0 (hR1 _ _)
   conv => whnf
   cases hj1
   exact e8x0 (hR1 _ _)
  conv => whnf
  cases hj1
  exact e8x0 (hR1 _ _)
 refine .q fun K7 k7 => ?_
 refine rg 0 ?_
 conv => whnf
 refine k7 _ _ ?_
 refine .aK rfl h (fun hc6 h => ?_) (fun hc6 h => ?_)
 ·refine .q fun K8 k8 => ?_
  obtain ⟨s2, hj2, h⟩ := ob h
  have hR2 : ∀ t9 h9, Le 0 t9 h9 (u8 (.bool s2 :: (u64 (u64 (u32 (u8 (u4 (.unk :: [])))))))) [] → K8 t9 h9 := by
   intro t9 h9 hw
   refine k8 _ _ (AW.le hw ?_)
   clear hw
   refine .ret ?_
   conv => whnf
   have e9 := sj h
   subst e9
   refine hQ _ _ _ (aG aJ (fun g => rfl) ?_)
   conv => whnf
  refine rg 0 ?_
  conv => whnf
  refine aI hj2 (fun hc7 hj2 => ?_) (fun hc7 hj2 => ?_)
  ·conv => whnf
   refine aI hj2 (fun hc8 hj2 => ?_) (fun hc8 hj2 => ?_)
   ·conv => whnf
    refine aI hj2 (fun hc9 hj2 => ?_) (fun hc9 hj2 => ?_)
    ·conv => whnf
     refine aQ (l := p2.kids) (f := ah) ?_
     conv => whnf
     cases hj2
     exact e8x0 (hR2 _ _)
    conv => whnf
    cases hj2
    exact e8x0 (hR2 _ _)
   conv => whnf
   refine aI hj2 (fun hc10 hj2 => ?_) (fun hc10 hj2 => ?_)
   ·conv => whnf
    refine aI hj2 (fun hc11 hj2 => ?_) (fun hc11 hj2 => ?_)
    ·conv => whnf
     refine aQ (l := p2.kids) (f := ah) ?_
     conv => whnf
     cases hj2
     exact e8x0 (hR2 _ _)
    conv => whnf
    cases hj2
    exact e8x0 (hR2 _ _)
   conv => whnf
   cases hj2
   exact e8x0 (hR2 _ _)
  conv => whnf
  cases hj2
  exact e8x0 (hR2 _ _)
 refine .q fun K9 k9 => ?_
 refine rg 0 ?_
 conv => whnf
 refine k9 _ _ ?_
 refine .aK rfl h (fun hc12 h => ?_) (fun hc12 h => ?_)
 ·refine .q fun K10 k10 => ?_
  refine rg 0 ?_
  conv => whnf
  obtain ⟨x1, hx1, h⟩ := ob h
  refine aB (z8 _ _ _ _ hx1) Va (.cons (.same _) (.cons (.same _) .nil)) (fun g => by simp) (fun g => rfl) ?_
  conv => whnf
  refine k10 _ _ ?_
  refine .q fun K11 k11 => ?_
  obtain ⟨s3, hj3, h⟩ := ob h
  have hR3 : ∀ t9 h9, Le 0 t9 h9 (u8 (.bool s3 :: (u64 (u64 (u32 (u8 (u4 (.unk :: [])))))))) [] → K11 t9 h9 := by
   intro t9 h9 hw
   refine k11 _ _ (AW.le hw ?_)
   clear hw
   refine .ret ?_
   conv => whnf
   have e9 := sj h
   subst e9
   refine hQ _ _ _ (aG aJ (fun g => rfl) ?_)
   conv => whnf
  refine rg 0 ?_
  conv => whnf
  refine aI hj3 (fun hc13 hj3 => ?_) (fun hc13 hj3 => ?_)
  ·conv => whnf
   refine aI hj3 (fun hc14 hj3 => ?_) (fun hc14 hj3 => ?_)
   ·conv => whnf
    refine aI hj3 (fun hc15 hj3 => ?_) (fun hc15 hj3 => ?_)
    ·conv => whnf
     refine aI hj3 (fun hc16 hj3 => ?_) (fun hc16 hj3 => ?_)
     ·conv => whnf
      obtain ⟨x2, hx2, hj3⟩ := ob hj3
      refine aU (l := p1) (f := encI) (cs := [.int .i64 (x2)]) hx2 (rfl) rfl ?_
      conv => whnf
      refine aI hj3 (fun hc17 hj3 => ?_) (fun hc17 hj3 => ?_)
      ·conv => whnf
       refine aQ (l := p2.kids) (f := ah) ?_
       conv => whnf
       refine ⟨by kernel_rfl, ?_⟩
       conv => whnf
       cases hj3
       exact e8x0 (hR3 _ _)
      conv => whnf
      refine ⟨by kernel_rfl, ?_⟩
      conv => whnf
      cases hj3
      exact e8x0 (hR3 _ _)
     conv => whnf
     refine ⟨by kernel_rfl, ?_⟩
     conv => whnf
     cases hj3
     exact e8x0 (hR3 _ _)
    conv => whnf
    refine ⟨by kernel_rfl, ?_⟩
    conv => whnf
    cases hj3
    exact e8x0 (hR3 _ _)
   conv => whnf
   refine ⟨by kernel_rfl, ?_⟩
   conv => whnf
   cases hj3
   exact e8x0 (hR3 _ _)
  conv => whnf
  refine ⟨by kernel_rfl, ?_⟩
  conv => whnf
  cases hj3
  exact e8x0 (hR3 _ _)
 refine .q fun K12 k12 => ?_
 refine rg 0 ?_
 conv => whnf
 refine k12 _ _ ?_
 refine .aK rfl h (fun hc18 h => ?_) (fun hc18 h => ?_)
 ·refine .q fun K13 k13 => ?_
  obtain ⟨s4, hj4, h⟩ := ob h
  have hR4 : ∀ t9 h9, Le 0 t9 h9 (u8 (.bool s4 :: (u64 (u64 (u32 (u8 (u4 (.unk :: [])))))))) [] → K13 t9 h9 := by
   intro t9 h9 hw
   refine k13 _ _ (AW.le hw ?_)
   clear hw
   refine .ret ?_
   conv => whnf
   have e9 := sj h
   subst e9
   refine hQ _ _ _ (aG aJ (fun g => rfl) ?_)
   conv => whnf
  refine rg 0 ?_
  conv => whnf
  refine aI hj4 (fun hc19 hj4 => ?_) (fun hc19 hj4 => ?_)
  ·conv => whnf
   refine aI hj4 (fun hc20 hj4 => ?_) (fun hc20 hj4 => ?_)
   ·conv => whnf
    refine aI hj4 (fun hc21 hj4 => ?_) (fun hc21 hj4 => ?_)
    ·conv => whnf
     refine aQ (l := p2.kids) (f := ah) ?_
     conv => whnf
     refine aI hj4 (fun hc22 hj4 => ?_) (fun hc22 hj4 => ?_)
     ·conv => whnf
      obtain ⟨x3, hx3, hj4⟩ := ob hj4
      refine bF [2, 0, 1] [] [.slice (List.map aH p3.kids) .shared, .ptr 0 0, .ptr 1 0, .ptr 2 0] [.slice (List.map aH p3.kids) .shared, .ptr 2 0, .ptr 0 0, .ptr 1 0] (qb7 _ _ _ _ _ _ _ _ _ hx3) abw rfl (.cons (by simp only [bS, ren, bD, bq, dx, bM, aR, bE, bQ, bf, bP, au, aF, aD, aS, aL, aT]; try rfl) (.cons (by simp only [bS, ren, bD, bq, dx, bM, aR, bE, bQ, bf, bP, au, aF, aD, aS, aL, aT]; try rfl) (.cons (by simp only [bS, ren, bD, bq, dx, bM, aR, bE, bQ, bf, bP, au, aF, aD, aS, aL, aT]; try rfl) .nil))) (by simp; try decide) (.cons (.same _) (.cons (.same _) (.cons (.same _) (.cons (.same _) .nil)))) (rn := .bool x3) (rfl) (Hn := [.box [.int .i64 p2.kind, .int .i64 p2.n, .str p2.name, .slice (List.map ah p2.kids) .shared], .box [.slice (List.map aj p0.carriers) .shared, .slice (List.map ak p0.names) .shared], .box [.slice (List.map encI p1) .shared]]) ((bJ (by simp only [bS, ren, bD, bq, dx, bM, aR, bE, bQ, bf, bP, au, aF, aD, aS, aL, aT]; try rfl) (bJ (by simp only [bS, ren, bD, bq, dx, bM, aR, bE, bQ, bf, bP, au, aF, aD, aS, aL, aT]; try rfl) (bJ (by simp only [bS, ren, bD, bq, dx, bM, aR, bE, bQ, bf, bP, au, aF, aD, aS, aL, aT]; try rfl) rfl)))) ?_
      conv => whnf
      cases hj4
      exact e8x0 (hR4 _ _)
     conv => whnf
     cases hj4
     exact e8x0 (hR4 _ _)
    conv => whnf
    cases hj4
    exact e8x0 (hR4 _ _)
   conv => whnf
   cases hj4
   exact e8x0 (hR4 _ _)
  conv => whnf
  cases hj4
  exact e8x0 (hR4 _ _)
 refine .q fun K14 k14 => ?_
 refine rg 0 ?_
 conv => whnf
 refine k14 _ _ ?_
 refine .aK rfl h (fun hc23 h => ?_) (fun hc23 h => ?_)
 ·refine .q fun K15 k15 => ?_
  refine .q fun K16 k16 => ?_
  obtain ⟨s5, hj5, h⟩ := ob h
  have hR5 : ∀ t9 h9, Le 0 t9 h9 (u4 (u2 (.ptr 0 0 :: (u64 (u64 (u16 (u8 (u2 (.bool s5 :: (u16 (u4 []))))))))))) [.box [.int .i64 p2.kind, .int .i64 p2.n, .str p2.name, .slice (List.map ah p2.kids) .shared]] → K16 t9 h9 := by
   intro t9 h9 hw
   refine k16 _ _ (AW.le hw ?_)
   clear hw
   refine .aK rfl h (fun hc24 h => ?_) (fun hc24 h => ?_)
   ·refine .q fun K17 k17 => ?_
    refine rg 0 ?_
    conv => whnf
    refine k17 _ _ ?_
    refine .ret ?_
    conv => whnf
    have e9 := sj h
    subst e9
    refine hQ _ _ _ (aG aJ (fun g => rfl) ?_)
    conv => whnf
   refine .skip ?_
   conv => whnf
   refine k15 _ _ ?_
   refine .q fun K18 k18 => ?_
   refine .q fun K19 k19 => ?_
   refine rg 0 ?_
   conv => whnf
   refine k19 _ _ ?_
   refine .block ?_
   obtain ⟨o1, ho1, h⟩ := ob h
   have hR6 : ∀ s7 : Unit, o1 = .nx s7 → ∀ t9 h9, Le 0 t9 h9 (u64 (u64 (u32 (u16 (u4 (u2 [])))))) [] → K18 t9 h9 := by
    intro s7 ho
    subst ho
    dsimp only [LR.el] at h
    intro t9 h9 hw
    refine k18 _ _ (AW.le hw ?_)
    refine .q fun K20 k20 => ?_
    refine rg 0 ?_
    conv => whnf
    refine k20 _ _ ?_
    refine .ret ?_
    conv => whnf
    have e9 := sj h
    subst e9
    refine hQ _ _ _ (aG aJ (fun g => rfl) ?_)
    conv => whnf
   refine .loopS (lU n qdz qd0 p2) (fun (s6 : Int) => (u4 (u2 (.ptr 0 0 :: (u4 (.int .i64 s6 :: (u64 (u64 (u32 (u8 (u2 []))))))))))) (fun (s6 : Int) => [.box [.int .i64 p2.kind, .int .i64 p2.n, .str p2.name, .slice (List.map ah p2.kids) .shared]]) ho1 (fun _ => rfl) (li (.u4 (.u2 (.s (.u4 (.s (.u16 (.u16 (.u16 (.u16 (.u16 (.u16 (.u16 (.u16 (.u16 (.u16 (.u8 (.u2 .n)))))))))))))))))) ?_
   intro n1 s6 hs1 KL1 hKL1
   unfold lU at hs1
   refine .q fun K21 k21 => ?_
   refine .q fun K22 k22 => ?_
   refine rg 0 ?_
   conv => whnf
   refine aQ (l := p2.kids) (f := ah) ?_
   conv => whnf
   refine k22 _ _ ?_
   refine .aK rfl hs1 (fun hc25 hs1 => ?_) (fun hc25 hs1 => ?_)
   ·refine .skip ?_
    conv => whnf
    refine k21 _ _ ?_
    refine .q fun K23 k23 => ?_
    refine .block ?_
    refine .q fun K24 k24 => ?_
    refine .know 11 0 fun hv1 => ?_
    refine rg 0 ?_
    conv => whnf
    refine ⟨(IntKind.wrap .i64 (s6 - 1)), rfl, ?_⟩
    conv => whnf
    obtain ⟨x4, hx4, hs1⟩ := ob hs1
    refine aU (l := p2.kids) (f := ah) (cs := [.int .i64 ((x4).kind), .int .i64 ((x4).n), .str ((x4).name), .slice (List.map ah ((x4).kids)) .shared]) hx4 (aX x4) rfl ?_
    conv => whnf
    obtain ⟨x5, hx5, hs1⟩ := ob hs1
    refine aU (l := p2.kids) (f := ah) (cs := [.int .i64 ((x5).kind), .int .i64 ((x5).n), .str ((x5).name), .slice (List.map ah ((x5).kids)) .shared]) hx5 (aX x5) rfl ?_
    conv => whnf
    obtain ⟨x6, hx6, hs1⟩ := ob hs1
    refine aB (j3 _ _ _ _ hx6) BS (.cons (.same _) (.cons (.same _) .nil)) (fun g => by simp) (fun g => rfl) ?_
    conv => whnf
    refine ⟨by kernel_rfl, ?_⟩
    conv => whnf
    refine k24 _ _ ?_
    refine .aK rfl hs1 (fun hc26 hs1 => ?_) (fun hc26 hs1 => ?_)
    ·refine .q fun K25 k25 => ?_
     refine rg 0 ?_
     conv => whnf
     refine k25 _ _ ?_
     refine .ret ?_
     conv => whnf
     have e9 := sj hs1
     subst e9
     dsimp only [LR.el] at h
     have e9 := sj h
     subst e9
     refine hQ _ _ _ (aG aJ (fun g => rfl) ?_)
     conv => whnf
    refine .skip ?_
    conv => whnf
    refine k23 _ _ ?_
    refine .know 11 0 fun hv2 => ?_
    refine .know 164 0 fun hv3 => ?_
    refine rg 0 ?_
    conv => whnf
    refine ⟨(s6 + 1), by have := bY hv2; have := gI hv3; have h8 := of_decide_eq_true hc25; exact bB (by omega) (by omega), ?_⟩
    conv => whnf
    exact hKL1 _ _ _ hs1 (li (.u4 (.u2 (.s (.u4 (.s (.u16 (.u16 (.u16 (.u16 (.u16 (.u16 (.u16 (.u16 (.u16 (.u16 (.u8 (.u2 .n))))))))))))))))))
   refine .exit ?_
   conv => whnf
   exact hR6 _ (sj hs1).symm _ _ (wk [] (.u64 (.u64 (.u32 (.u16 (.u4 (.u2 .nil)))))) .nil rfl)
  refine rg 0 ?_
  conv => whnf
  refine aI hj5 (fun hc27 hj5 => ?_) (fun hc27 hj5 => ?_)
  ·conv => whnf
   cases hj5
   exact e8x1 (hR5 _ _)
  conv => whnf
  refine aI hj5 (fun hc28 hj5 => ?_) (fun hc28 hj5 => ?_)
  ·conv => whnf
   cases hj5
   exact e8x1 (hR5 _ _)
  conv => whnf
  refine aI hj5 (fun hc29 hj5 => ?_) (fun hc29 hj5 => ?_)
  ·conv => whnf
   cases hj5
   exact e8x1 (hR5 _ _)
  conv => whnf
  refine aQ (l := p2.kids) (f := ah) ?_
  conv => whnf
  refine aI hj5 (fun hc30 hj5 => ?_) (fun hc30 hj5 => ?_)
  ·conv => whnf
   cases hj5
   exact e8x1 (hR5 _ _)
  conv => whnf
  obtain ⟨x7, hx7, hj5⟩ := ob hj5
  refine bF [2, 0, 1] [] [.slice (List.map aH p3.kids) .shared, .ptr 0 0, .ptr 1 0, .ptr 2 0] [.slice (List.map aH p3.kids) .shared, .ptr 2 0, .ptr 0 0, .ptr 1 0] (qb7 _ _ _ _ _ _ _ _ _ hx7) abw rfl (.cons (by simp only [bS, ren, bD, bq, dx, bM, aR, bE, bQ, bf, bP, au, aF, aD, aS, aL, aT]; try rfl) (.cons (by simp only [bS, ren, bD, bq, dx, bM, aR, bE, bQ, bf, bP, au, aF, aD, aS, aL, aT]; try rfl) (.cons (by simp only [bS, ren, bD, bq, dx, bM, aR, bE, bQ, bf, bP, au, aF, aD, aS, aL, aT]; try rfl) .nil))) (by simp; try decide) (.cons (.same _) (.cons (.same _) (.cons (.same _) (.cons (.same _) .nil)))) (rn := .bool x7) (rfl) (Hn := [.box [.int .i64 p2.kind, .int .i64 p2.n, .str p2.name, .slice (List.map ah p2.kids) .shared], .box [.slice (List.map aj p0.carriers) .shared, .slice (List.map ak p0.names) .shared], .box [.slice (List.map encI p1) .shared]]) ((bJ (by simp only [bS, ren, bD, bq, dx, bM, aR, bE, bQ, bf, bP, au, aF, aD, aS, aL, aT]; try rfl) (bJ (by simp only [bS, ren, bD, bq, dx, bM, aR, bE, bQ, bf, bP, au, aF, aD, aS, aL, aT]; try rfl) (bJ (by simp only [bS, ren, bD, bq, dx, bM, aR, bE, bQ, bf, bP, au, aF, aD, aS, aL, aT]; try rfl) rfl)))) ?_
  conv => whnf
  cases hj5
  exact e8x1 (hR5 _ _)
 refine .skip ?_
 conv => whnf
 refine k3 _ _ ?_
 refine .q fun K26 k26 => ?_
 refine rg 0 ?_
 conv => whnf
 refine k26 _ _ ?_
 refine .ret ?_
 conv => whnf
 have e9 := sj h
 subst e9
 refine hQ _ _ _ (aG aJ (fun g => rfl) ?_)
 conv => whnf
theorem HZ (n : Nat) (qdz : Env → (List Int) → Val → Ty → Option Bool) (qd0 : (List Ty) → Int → Int → Str → (List Val) → (List Carrier) → (List Decl) → (List Int) → Option Bool) (qb6 : qbm qdz) (qb7 : qbl qd0) (p0 : List Ty) (p1 : Int) (p2 : Int) (p3 : Str) (p4 : List Val) (p5 : List Carrier) (p6 : List Decl) (p7 : List Int) (r : Bool) (h : j4 n qdz qd0 p0 p1 p2 p3 p4 p5 p6 p7 = some r) : aA Tryz.prog 97 [.slice (List.map aH p0) .shared, .ptr 0 0, .ptr 1 0, .ptr 2 0] [.box [.int .i64 p1, .int .i64 p2, .str p3, .slice (List.map ah p4) .shared], .box [.slice (List.map aj p5) .shared, .slice (List.map ak p6) .shared], .box [.slice (List.map encI p7) .shared]] (.bool r) [.box [.int .i64 p1, .int .i64 p2, .str p3, .slice (List.map ah p4) .shared], .box [.slice (List.map aj p5) .shared, .slice (List.map ak p6) .shared], .box [.slice (List.map encI p7) .shared]] := by
 unfold j4 at h
 refine aC true Tryz.func97 rfl (by rw [Tryz.ntmps97]; exact Nat.le_of_ble_eq_true rfl) fun Q hQ t ht => ?_
 conv at ht => whnf
 subst ht
 refine .q fun K1 k1 => ?_
 refine rg 0 ?_
 conv => whnf
 refine k1 _ _ ?_
 refine .q fun K2 k2 => ?_
 refine .q fun K3 k3 => ?_
 refine rg 0 ?_
 conv => whnf
 refine aQ (l := p4) (f := ah) ?_
 conv => whnf
 refine k3 _ _ ?_
 refine .block ?_
 obtain ⟨o1, ho1, h⟩ := ob h
 have hR1 : ∀ s2 : Unit, o1 = .nx s2 → ∀ t9 h9, Le 3 t9 h9 (u16 (u8 (u4 (u2 [])))) [.box [.int .i64 p1, .int .i64 p2, .str p3, .slice (List.map ah p4) .shared], .box [.slice (List.map aj p5) .shared, .slice (List.map ak p6) .shared], .box [.slice (List.map encI p7) .shared]] → K2 t9 h9 := by
  intro s2 ho
  subst ho
  dsimp only [LR.el] at h
  intro t9 h9 hw
  refine k2 _ _ (AW.le hw ?_)
  refine .q fun K4 k4 => ?_
  refine rg 0 ?_
  conv => whnf
  refine k4 _ _ ?_
  refine .ret ?_
  conv => whnf
  have e9 := sj h
  subst e9
  refine hQ _ _ _ (d9 (u4 (.unk :: (.bool true :: (u16 (u8 []))))) [.box [.int .i64 p1, .int .i64 p2, .str p3, .slice (List.map ah p4) .shared], .box [.slice (List.map aj p5) .shared, .slice (List.map ak p6) .shared], .box [.slice (List.map encI p7) .shared]] (wk [some 0, some 1, some 2] (.u4 (.u (.c rfl (.u16 (.u8 .nil))))) (.b rfl (.c rfl (.c rfl (.c rfl (.e aD .nil)))) (.b rfl (.e au (.e aF .nil)) (.b rfl (.e aR .nil) .nil))) rfl) (bH aJ [0, 1, 2] rfl (.cons (by simp only [bS, ren, bD, bq, dx, bM, aR, bE, bQ, bf, bP, au, aF, aD, aS, aL, aT]; try rfl) (.cons (by simp only [bS, ren, bD, bq, dx, bM, aR, bE, bQ, bf, bP, au, aF, aD, aS, aL, aT]; try rfl) (.cons (by simp only [bS, ren, bD, bq, dx, bM, aR, bE, bQ, bf, bP, au, aF, aD, aS, aL, aT]; try rfl) .nil))) ?_))
  conv => whnf
  first | rfl | (simp; done) | (simp; rfl) | (simp; and_intros <;> rfl)
 refine .loopS (jr n qdz qd0 p0 p4 p5 p6 p7) (fun (s1 : Int) => (.slice (List.map aH p0) .shared :: (.unk :: (.ptr 1 0 :: (.ptr 2 0 :: (u4 (.unk :: (.slice (List.map ah p4) .shared :: (.int .i64 (p4.length : Int) :: (.int .i64 s1 :: (u16 (u2 [])))))))))))) (fun (s1 : Int) => [.box [.int .i64 p1, .int .i64 p2, .str p3, .slice (List.map ah p4) .shared], .box [.slice (List.map aj p5) .shared, .slice (List.map ak p6) .shared], .box [.slice (List.map encI p7) .shared]]) ho1 (fun _ => rfl) (li (.s (.u (.s (.s (.u4 (.u (.s (.s (.s (.u16 (.u2 .n)))))))))))) ?_
 intro n1 s1 hs1 KL1 hKL1
 unfold jr at hs1
 refine .q fun K5 k5 => ?_
 refine rg 0 ?_
 conv => whnf
 refine k5 _ _ ?_
 refine .q fun K6 k6 => ?_
 refine .aK rfl hs1 (fun hc1 hs1 => ?_) (fun hc1 hs1 => ?_)
 ·refine .skip ?_
  conv => whnf
  refine k6 _ _ ?_
  refine .q fun K7 k7 => ?_
  refine .block ?_
  refine .q fun K8 k8 => ?_
  refine rg 1 ?_
  conv => whnf
  obtain ⟨x1, hx1, hs1⟩ := ob hs1
  refine aU (l := p4) (f := ah) (cs := [.int .i64 ((x1).kind), .int .i64 ((x1).n), .str ((x1).name), .slice (List.map ah ((x1).kids)) .shared]) hx1 (aX x1) rfl ?_
  conv => whnf
  refine k8 _ _ ?_
  refine .q fun K9 k9 => ?_
  refine .know 0 0 fun hv1 => ?_
  refine rg 0 ?_
  conv => whnf
  refine aQ (l := p0) (f := aH) ?_
  conv => whnf
  refine ⟨((p0.length : Int) - 1), by have := gI hv1; exact bB (by omega) (by omega), ?_⟩
  conv => whnf
  obtain ⟨x2, hx2, hs1⟩ := ob hs1
  refine aU (l := p0) (f := aH) (cs := [.int .i64 ((x2).kind), .str ((x2).name), .slice (List.map aH ((x2).kids)) .shared]) hx2 (fC x2) rfl ?_
  conv => whnf
  obtain ⟨x3, hx3, hs1⟩ := ob hs1
  refine aB (qb6 _ _ _ _ _ hx3) OC (.cons (.same _) (.cons (.same _) (.cons (.same _) (.cons (.same _) .nil)))) (fun g => by simp) (fun g => rfl) ?_
  conv => whnf
  refine ⟨by kernel_rfl, ?_⟩
  conv => whnf
  refine k9 _ _ ?_
  refine .aK rfl hs1 (fun hc2 hs1 => ?_) (fun hc2 hs1 => ?_)
  ·refine .q fun K10 k10 => ?_
   refine rg 0 ?_
   conv => whnf
   refine k10 _ _ ?_
   refine .ret ?_
   conv => whnf
   have e9 := sj hs1
   subst e9
   dsimp only [LR.el] at h
   have e9 := sj h
   subst e9
   refine hQ _ _ _ (d9 (u4 (.unk :: (.bool false :: (u16 (u8 []))))) [.box [.int .i64 p1, .int .i64 p2, .str p3, .slice (List.map ah p4) .shared], .box [.slice (List.map aj p5) .shared, .slice (List.map ak p6) .shared], .box [.slice (List.map encI p7) .shared]] (wk [some 0, some 1, some 2] (.u4 (.u (.c rfl (.u16 (.u8 .nil))))) (.b rfl (.c rfl (.c rfl (.c rfl (.e aD .nil)))) (.b rfl (.e au (.e aF .nil)) (.b rfl (.e aR .nil) .nil))) rfl) (bH aJ [0, 1, 2] rfl (.cons (by simp only [bS, ren, bD, bq, dx, bM, aR, bE, bQ, bf, bP, au, aF, aD, aS, aL, aT]; try rfl) (.cons (by simp only [bS, ren, bD, bq, dx, bM, aR, bE, bQ, bf, bP, au, aF, aD, aS, aL, aT]; try rfl) (.cons (by simp only [bS, ren, bD, bq, dx, bM, aR, bE, bQ, bf, bP, au, aF, aD, aS, aL, aT]; try rfl) .nil))) ?_))
   conv => whnf
   first | rfl | (simp; done) | (simp; rfl) | (simp; and_intros <;> rfl)
  refine .skip ?_
  conv => whnf
  refine k7 _ _ ?_
  refine .know 6 0 fun hv2 => ?_
  refine .know 9 0 fun hv3 => ?_
  refine rg 0 ?_
  conv => whnf
  refine ⟨(s1 + 1), by have := bY hv2; have := gI hv3; have h8 := of_decide_eq_true hc1; exact bB (by omega) (by omega), ?_⟩
  conv => whnf
  exact hKL1 _ _ _ hs1 (wk [some 0, some 1, some 2] (.e bf (.u (.c rfl (.c rfl (.u4 (.u (.e aD (.c rfl (.c rfl (.u16 (.u2 .nil))))))))))) (.b rfl (.c rfl (.c rfl (.c rfl (.e aD .nil)))) (.b rfl (.e au (.e aF .nil)) (.b rfl (.e aR .nil) .nil))) rfl)
 refine .exit ?_
 conv => whnf
 exact hR1 _ (sj hs1).symm _ _ (li (.u16 (.u8 (.u4 (.u2 .n)))))
theorem IJ (n : Nat) : qbm (fB n) ∧ qbl (ko n) := by
 induction n with
 | zero => exact ⟨(fun p0 p1 p2 p3 r h => by unfold fB at h; cases h), (fun p0 p1 p2 p3 p4 p5 p6 p7 r h => by unfold ko at h; cases h)⟩
 | succ n ih =>
  exact ⟨(fun p0 p1 p2 p3 r h => KN n _ _ ih.1 ih.2 p0 p1 p2 p3 r (by unfold fB at h; exact h)), (fun p0 p1 p2 p3 p4 p5 p6 p7 r h => HZ n _ _ ih.1 ih.2 p0 p1 p2 p3 p4 p5 p6 p7 r (by unfold ko at h; exact h))⟩
theorem Dc (n : Nat) : qbm (fB n) := (IJ n).1
end Abs
end Go.Proofs.YtkopaeklihhdlaaGreat
