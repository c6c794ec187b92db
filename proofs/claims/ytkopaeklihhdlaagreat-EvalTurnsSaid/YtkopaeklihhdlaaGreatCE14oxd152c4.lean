/-
  Contracts of Go functions (printed). Conditions: none.
-/
import Derived.KernelRfl
import Derived.Test.YtkopaeklihhdlaaGreatCE7ox89cd52
import Derived.Test.YtkopaeklihhdlaaGreatCE11ox69f693
set_option linter.unusedSimpArgs false
set_option linter.unusedVariables false
namespace Go.Proofs.YtkopaeklihhdlaaGreat
namespace Abs
open Go Go.Proofs
set_option maxRecDepth 100000
set_option maxHeartbeats 40000000
theorem oP (n : Nat) (p0 : S_api_World) (r : Bool) (h : je n p0 = some r) : aA Tryz.prog 13 [.agg [.slice (List.map aj p0.env.carriers) .shared, .slice (List.map ak p0.env.names) .shared, .slice (List.map encI p0.sizes) .shared, .slice (List.map ah p0.values) .shared]] [] (.bool r) [] := by
 unfold je at h
 refine aC true Tryz.func13 rfl (by rw [Tryz.ntmps13]; exact Nat.le_of_ble_eq_true rfl) fun Q hQ t ht => ?_
 conv at ht => whnf
 subst ht
 refine .q fun K1 k1 => ?_
 refine rg 1 ?_
 conv => whnf
 refine k1 _ _ ?_
 refine .q fun K2 k2 => ?_
 refine .q fun K3 k3 => ?_
 obtain ⟨s1, hj1, h⟩ := ob h
 have hR1 : ∀ t9 h9, Le 0 t9 h9 (.unk :: (.ptr 0 0 :: (u16 (u8 (.bool s1 :: (u16 (u4 (u2 (.unk :: []))))))))) [.box [.slice (List.map aj p0.env.carriers) .shared, .slice (List.map ak p0.env.names) .shared, .slice (List.map encI p0.sizes) .shared, .slice (List.map ah p0.values) .shared]] → K3 t9 h9 := by
  intro t9 h9 hw
  refine k3 _ _ (AW.le hw ?_)
  clear hw
  refine .aK rfl h (fun hc1 h => ?_) (fun hc1 h => ?_)
  ·refine .q fun K4 k4 => ?_
   refine rg 0 ?_
   conv => whnf
   refine k4 _ _ ?_
   refine .ret ?_
   conv => whnf
   have e9 := sj h
   subst e9
   refine hQ _ _ _ (aG aJ (fun g => rfl) ?_)
   conv => whnf
  refine .skip ?_
  conv => whnf
  refine k2 _ _ ?_
  refine .q fun K5 k5 => ?_
  refine .q fun K6 k6 => ?_
  refine rg 0 ?_
  conv => whnf
  refine aQ (l := p0.env.names) (f := ak) ?_
  conv => whnf
  refine k6 _ _ ?_
  refine .block ?_
  obtain ⟨o1, ho1, h⟩ := ob h
  have hR2 : ∀ s3 : Unit, o1 = .nx s3 → ∀ t9 h9, Le 0 t9 h9 (u32 (u16 (u2 []))) [] → K5 t9 h9 := by
   intro s3 ho
   subst ho
   dsimp only [LR.el] at h
   intro t9 h9 hw
   refine k5 _ _ (AW.le hw ?_)
   refine .q fun K7 k7 => ?_
   refine rg 0 ?_
   conv => whnf
   refine k7 _ _ ?_
   refine .ret ?_
   conv => whnf
   have e9 := sj h
   subst e9
   refine hQ _ _ _ (aG aJ (fun g => rfl) ?_)
   conv => whnf
  refine .loopS (l8 n p0) (fun (s2 : Int) => (.unk :: (.ptr 0 0 :: (u16 (u8 (u2 (.unk :: (.slice (List.map ak p0.env.names) .shared :: (.int .i64 (p0.env.names.length : Int) :: (.int .i64 s2 :: (u16 (u2 [])))))))))))) (fun (s2 : Int) => [.box [.slice (List.map aj p0.env.carriers) .shared, .slice (List.map ak p0.env.names) .shared, .slice (List.map encI p0.sizes) .shared, .slice (List.map ah p0.values) .shared]]) ho1 (fun _ => rfl) (li (.u (.s (.u16 (.u8 (.u2 (.u (.s (.s (.s (.u16 (.u2 .n)))))))))))) ?_
  intro n1 s2 hs1 KL1 hKL1
  unfold l8 at hs1
  refine .q fun K8 k8 => ?_
  refine rg 0 ?_
  conv => whnf
  refine k8 _ _ ?_
  refine .q fun K9 k9 => ?_
  refine .aK rfl hs1 (fun hc2 hs1 => ?_) (fun hc2 hs1 => ?_)
  ·refine .skip ?_
   conv => whnf
   refine k9 _ _ ?_
   refine .q fun K10 k10 => ?_
   refine .block ?_
   refine .q fun K11 k11 => ?_
   refine rg 1 ?_
   conv => whnf
   obtain ⟨x1, hx1, hs1⟩ := ob hs1
   refine aU (l := p0.env.names) (f := ak) (cs := [.str ((x1).name), .int .i64 (((x1).ty).kind), .str (((x1).ty).name), .slice (List.map aH (((x1).ty).kids)) .shared]) hx1 (rfl) rfl ?_
   conv => whnf
   refine k11 _ _ ?_
   refine .q fun K12 k12 => ?_
   refine rg 0 ?_
   conv => whnf
   obtain ⟨x2, hx2, hs1⟩ := ob hs1
   refine aU (l := p0.values) (f := ah) (cs := [.int .i64 ((x2).kind), .int .i64 ((x2).n), .str ((x2).name), .slice (List.map ah ((x2).kids)) .shared]) hx2 (aX x2) rfl ?_
   conv => whnf
   obtain ⟨x3, hx3, hs1⟩ := ob hs1
   refine aB (Dc _ _ _ _ _ _ hx3) OC (.cons (.same _) (.cons (.same _) (.cons (.same _) (.cons (.same _) .nil)))) (fun g => by simp) (fun g => rfl) ?_
   conv => whnf
   refine ⟨by kernel_rfl, ?_⟩
   conv => whnf
   refine k12 _ _ ?_
   refine .aK rfl hs1 (fun hc3 hs1 => ?_) (fun hc3 hs1 => ?_)
   ·refine .q fun K13 k13 => ?_
    refine rg 0 ?_
    conv => whnf
    refine k13 _ _ ?_
    refine .ret ?_
    conv => whnf
    have e9 := sj hs1
    subst e9
    dsimp only [LR.el] at h
    have e9 := sj h
    subst e9
    refine hQ _ _ _ (aG aJ (fun g => rfl) ?_)
    conv => whnf
   refine .skip ?_
   conv => whnf
   refine k10 _ _ ?_
   refine .know 3 0 fun hv1 => ?_
   refine .know 29 0 fun hv2 => ?_
   refine rg 0 ?_
   conv => whnf
   refine ⟨(s2 + 1), by have := bY hv1; have := gI hv2; have h8 := of_decide_eq_true hc2; exact bB (by omega) (by omega), ?_⟩
   conv => whnf
   exact hKL1 _ _ _ hs1 (wk [some 0] (.u (.c rfl (.u16 (.u8 (.u2 (.u (.e aF (.c rfl (.c rfl (.u16 (.u2 .nil))))))))))) (.b rfl (.e au (.e aF (.e aR (.e aD .nil)))) .nil) rfl)
  refine .exit ?_
  conv => whnf
  exact hR2 _ (sj hs1).symm _ _ (wk [] (.u32 (.u16 (.u2 .nil))) .nil rfl)
 refine rg 0 ?_
 conv => whnf
 obtain ⟨x4, hx4, hj1⟩ := ob hj1
 refine aB (uq _ _ _ hx4) VL (.cons (.same _) .nil) (fun g => by simp) (fun g => rfl) ?_
 conv => whnf
 refine aI hj1 (fun hc4 hj1 => ?_) (fun hc4 hj1 => ?_)
 ·conv => whnf
  cases hj1
  exact hR1 _ _ (li (.u (.s (.u16 (.u8 (.s (.u16 (.u4 (.u2 (.u .n))))))))))
 conv => whnf
 obtain ⟨x5, hx5, hj1⟩ := ob hj1
 refine aB (wG _ _ _ _ hx5) Xm (.cons (.same _) (.cons (.same _) .nil)) (fun g => by simp) (fun g => rfl) ?_
 conv => whnf
 refine aI hj1 (fun hc5 hj1 => ?_) (fun hc5 hj1 => ?_)
 ·conv => whnf
  cases hj1
  exact hR1 _ _ (li (.u (.s (.u16 (.u8 (.s (.u16 (.u4 (.u2 (.u .n))))))))))
 conv => whnf
 refine aQ (l := p0.values) (f := ah) ?_
 conv => whnf
 refine aQ (l := p0.env.names) (f := ak) ?_
 conv => whnf
 cases hj1
 exact hR1 _ _ (li (.u (.s (.u16 (.u8 (.s (.u16 (.u4 (.u2 (.u .n))))))))))
theorem ou (n : Nat) (p0 : S_api_World) (r : Bool) (h : fV n p0 = some r) : aA Tryz.prog 14 [.agg [.slice (List.map aj p0.env.carriers) .shared, .slice (List.map ak p0.env.names) .shared, .slice (List.map encI p0.sizes) .shared, .slice (List.map ah p0.values) .shared]] [] (.bool r) [] := by
 unfold fV at h
 refine aC true Tryz.func14 rfl (by rw [Tryz.ntmps14]; exact Nat.le_of_ble_eq_true rfl) fun Q hQ t ht => ?_
 conv at ht => whnf
 subst ht
 refine .q fun K1 k1 => ?_
 refine rg 1 ?_
 conv => whnf
 refine k1 _ _ ?_
 refine .q fun K2 k2 => ?_
 refine .q fun K3 k3 => ?_
 obtain ⟨s1, hj1, h⟩ := ob h
 have hR1 : ∀ t9 h9, Le 0 t9 h9 (.unk :: (.ptr 0 0 :: (u16 (u4 (u2 (.unk :: (.bool s1 :: (u16 (u8 (.unk :: [])))))))))) [.box [.slice (List.map aj p0.env.carriers) .shared, .slice (List.map ak p0.env.names) .shared, .slice (List.map encI p0.sizes) .shared, .slice (List.map ah p0.values) .shared]] → K3 t9 h9 := by
  intro t9 h9 hw
  refine k3 _ _ (AW.le hw ?_)
  clear hw
  refine .aK rfl h (fun hc1 h => ?_) (fun hc1 h => ?_)
  ·refine .q fun K4 k4 => ?_
   refine rg 0 ?_
   conv => whnf
   refine k4 _ _ ?_
   refine .ret ?_
   conv => whnf
   have e9 := sj h
   subst e9
   refine hQ _ _ _ (aG aJ (fun g => rfl) ?_)
   conv => whnf
  refine .skip ?_
  conv => whnf
  refine k2 _ _ ?_
  refine .q fun K5 k5 => ?_
  refine .q fun K6 k6 => ?_
  refine rg 0 ?_
  conv => whnf
  refine k6 _ _ ?_
  refine .block ?_
  obtain ⟨o1, ho1, h⟩ := ob h
  have hR2 : ∀ s3 : Unit, o1 = .nx s3 → ∀ t9 h9, Le 0 t9 h9 (u32 (u16 (u2 (.unk :: [])))) [] → K5 t9 h9 := by
   intro s3 ho
   subst ho
   dsimp only [LR.el] at h
   intro t9 h9 hw
   refine k5 _ _ (AW.le hw ?_)
   refine .q fun K7 k7 => ?_
   refine rg 0 ?_
   conv => whnf
   refine k7 _ _ ?_
   refine .ret ?_
   conv => whnf
   have e9 := sj h
   subst e9
   refine hQ _ _ _ (aG aJ (fun g => rfl) ?_)
   conv => whnf
  refine .loopS (lJ n p0) (fun (s2 : Int) => (.unk :: (.ptr 0 0 :: (.unk :: (.int .i64 s2 :: (u32 (u8 (u4 (u2 (.unk :: [])))))))))) (fun (s2 : Int) => [.box [.slice (List.map aj p0.env.carriers) .shared, .slice (List.map ak p0.env.names) .shared, .slice (List.map encI p0.sizes) .shared, .slice (List.map ah p0.values) .shared]]) ho1 (fun _ => rfl) (li (.u (.s (.u (.s (.u16 (.u16 (.u8 (.u4 (.u2 (.u .n))))))))))) ?_
  intro n1 s2 hs1 KL1 hKL1
  unfold lJ at hs1
  refine .q fun K8 k8 => ?_
  refine .q fun K9 k9 => ?_
  refine rg 0 ?_
  conv => whnf
  refine aQ (l := p0.values) (f := ah) ?_
  conv => whnf
  refine k9 _ _ ?_
  refine .aK rfl hs1 (fun hc2 hs1 => ?_) (fun hc2 hs1 => ?_)
  ·refine .skip ?_
   conv => whnf
   refine k8 _ _ ?_
   refine .q fun K10 k10 => ?_
   refine .block ?_
   refine .q fun K11 k11 => ?_
   refine rg 0 ?_
   conv => whnf
   obtain ⟨x1, hx1, hs1⟩ := ob hs1
   refine aU (l := p0.values) (f := ah) (cs := [.int .i64 ((x1).kind), .int .i64 ((x1).n), .str ((x1).name), .slice (List.map ah ((x1).kids)) .shared]) hx1 (aX x1) rfl ?_
   conv => whnf
   obtain ⟨x2, hx2, hs1⟩ := ob hs1
   refine aU (l := p0.env.names) (f := ak) (cs := [.str ((x2).name), .int .i64 (((x2).ty).kind), .str (((x2).ty).name), .slice (List.map aH (((x2).ty).kids)) .shared]) hx2 (rfl) rfl ?_
   conv => whnf
   obtain ⟨x3, hx3, hs1⟩ := ob hs1
   refine aB (Iy _ _ _ _ _ _ hx3) DI (.cons (.same _) (.cons (.same _) (.cons (.same _) (.cons (.same _) .nil)))) (fun g => by simp) (fun g => rfl) ?_
   conv => whnf
   refine ⟨by kernel_rfl, ?_⟩
   conv => whnf
   refine k11 _ _ ?_
   refine .aK rfl hs1 (fun hc3 hs1 => ?_) (fun hc3 hs1 => ?_)
   ·refine .q fun K12 k12 => ?_
    refine rg 0 ?_
    conv => whnf
    refine k12 _ _ ?_
    refine .ret ?_
    conv => whnf
    have e9 := sj hs1
    subst e9
    dsimp only [LR.el] at h
    have e9 := sj h
    subst e9
    refine hQ _ _ _ (aG aJ (fun g => rfl) ?_)
    conv => whnf
   refine .skip ?_
   conv => whnf
   refine k10 _ _ ?_
   refine .know 3 0 fun hv1 => ?_
   refine .know 28 0 fun hv2 => ?_
   refine rg 0 ?_
   conv => whnf
   refine ⟨(s2 + 1), by have := bY hv1; have := gI hv2; have h8 := of_decide_eq_true hc2; exact bB (by omega) (by omega), ?_⟩
   conv => whnf
   exact hKL1 _ _ _ hs1 (li (.u (.s (.u (.s (.u16 (.u16 (.u8 (.u4 (.u2 (.u .n)))))))))))
  refine .exit ?_
  conv => whnf
  exact hR2 _ (sj hs1).symm _ _ (wk [] (.u32 (.u16 (.u2 (.u .nil)))) .nil rfl)
 refine rg 0 ?_
 conv => whnf
 obtain ⟨x4, hx4, hj1⟩ := ob hj1
 refine aB (yO _ _ _ hx4) Xq (.cons (.same _) .nil) (fun g => by simp) (fun g => rfl) ?_
 conv => whnf
 refine aI hj1 (fun hc4 hj1 => ?_) (fun hc4 hj1 => ?_)
 ·conv => whnf
  cases hj1
  exact hR1 _ _ (li (.u (.s (.u16 (.u4 (.u2 (.u (.s (.u16 (.u8 (.u .n)))))))))))
 conv => whnf
 obtain ⟨x5, hx5, hj1⟩ := ob hj1
 refine aB (E9 _ _ _ _ hx5) Wx (.cons (.same _) (.cons (.same _) .nil)) (fun g => by simp) (fun g => rfl) ?_
 conv => whnf
 refine aI hj1 (fun hc5 hj1 => ?_) (fun hc5 hj1 => ?_)
 ·conv => whnf
  cases hj1
  exact hR1 _ _ (li (.u (.s (.u16 (.u4 (.u2 (.u (.s (.u16 (.u8 (.u .n)))))))))))
 conv => whnf
 refine aQ (l := p0.values) (f := ah) ?_
 conv => whnf
 refine aQ (l := p0.env.names) (f := ak) ?_
 conv => whnf
 cases hj1
 exact hR1 _ _ (li (.u (.s (.u16 (.u4 (.u2 (.u (.s (.u16 (.u8 (.u .n)))))))))))
end Abs
end Go.Proofs.YtkopaeklihhdlaaGreat
