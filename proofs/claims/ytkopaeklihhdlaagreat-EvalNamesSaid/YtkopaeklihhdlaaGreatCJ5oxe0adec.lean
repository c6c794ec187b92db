/-
  Contracts of Go functions (printed). Conditions: none.
-/
import Derived.KernelRfl
import Derived.Test.YtkopaeklihhdlaaGreatCJ3oxaa15f5
set_option linter.unusedSimpArgs false
set_option linter.unusedVariables false
namespace Go.Proofs.YtkopaeklihhdlaaGreat
namespace Abs
open Go Go.Proofs
set_option maxRecDepth 100000
set_option maxHeartbeats 40000000
theorem j5x0 {p q : Prop} (f : p → q) (h : p := by exact wk [some 0, some 1, some 2, some 4] (.u (.c rfl (.u (.c rfl (.u (.c rfl (.u (.c rfl (.u2 (.u (.c rfl (.c rfl (.u32 (.u16 (.u8 (.c rfl (.u32 (.u2 .nil)))))))))))))))))) (.b rfl (.e aA (.e aF (.e aV (.e aI .nil)))) (.b rfl (.c rfl (.c rfl (.c rfl (.e aI .nil)))) (.b rfl (.c rfl (.c rfl (.c rfl (.e aI .nil)))) (.b rfl (.e aA (.e aF (.e aV (.e aI .nil)))) .nil)))) rfl) : q := f h
theorem QO (n : Nat) (p0 : Env) (p1 : Env) (r : Bool) (h : qC n p0 p1 = some r) : au Tryz.prog 57 [.agg [.slice (List.map ah p0.carriers) .shared, .slice (List.map ak p0.names) .shared], .agg [.slice (List.map ah p1.carriers) .shared, .slice (List.map ak p1.names) .shared]] [] (.bool r) [] := by
 unfold qC at h
 refine aB true Tryz.func57 rfl (by rw [Tryz.ntmps57]; exact Nat.le_of_ble_eq_true rfl) fun Q hQ t ht => ?_
 conv at ht => whnf
 subst ht
 refine .q fun K1 k1 => ?_
 refine rg 2 ?_
 conv => whnf
 refine k1 _ _ ?_
 refine .q fun K2 k2 => ?_
 refine .q fun K3 k3 => ?_
 obtain ⟨s1, hj1, h⟩ := ob h
 have hR1 : ∀ t9 h9, Le 0 t9 h9 (u2 (.ptr 0 0 :: (.ptr 1 0 :: (u16 (u2 (.bool s1 :: (u32 (u16 (u4 (u2 (.unk :: []))))))))))) [.box [.slice (List.map ah p0.carriers) .shared, .slice (List.map ak p0.names) .shared], .box [.slice (List.map ah p1.carriers) .shared, .slice (List.map ak p1.names) .shared]] → K3 t9 h9 := by
  intro t9 h9 hw
  refine k3 _ _ (AW.le hw ?_)
  clear hw
  refine .aL rfl h (fun hc1 h => ?_) (fun hc1 h => ?_)
  ·refine .q fun K4 k4 => ?_
   refine rg 0 ?_
   conv => whnf
   refine k4 _ _ ?_
   refine .ret ?_
   conv => whnf
   have e9 := sj h
   subst e9
   refine hQ _ _ _ (aG aK (fun g => rfl) ?_)
   conv => whnf
  refine .skip ?_
  conv => whnf
  refine k2 _ _ ?_
  refine .q fun K5 k5 => ?_
  refine .q fun K6 k6 => ?_
  refine rg 0 ?_
  conv => whnf
  refine k6 _ _ ?_
  refine .block ?_
  obtain ⟨o1, ho1, h⟩ := ob h
  have hR2 : ∀ s3 : Unit, o1 = .nx s3 → ∀ t9 h9, Le 0 t9 h9 (u2 (.ptr 0 0 :: (.ptr 1 0 :: (u64 (u8 (u2 [])))))) [.box [.slice (List.map ah p0.carriers) .shared, .slice (List.map ak p0.names) .shared], .box [.slice (List.map ah p1.carriers) .shared, .slice (List.map ak p1.names) .shared]] → K5 t9 h9 := by
   intro s3 ho
   subst ho
   dsimp only [LR.el] at h
   intro t9 h9 hw
   refine k5 _ _ (AW.le hw ?_)
   refine .q fun K7 k7 => ?_
   refine .q fun K8 k8 => ?_
   refine rg 0 ?_
   conv => whnf
   refine k8 _ _ ?_
   refine .block ?_
   obtain ⟨o2, ho2, h⟩ := ob h
   have hR3 : ∀ s5 : Unit, o2 = .nx s5 → ∀ t9 h9, Le 0 t9 h9 (u64 (u8 (u4 (u2 [])))) [] → K7 t9 h9 := by
    intro s5 ho
    subst ho
    dsimp only [LR.el] at h
    intro t9 h9 hw
    refine k7 _ _ (AW.le hw ?_)
    refine .q fun K9 k9 => ?_
    refine rg 0 ?_
    conv => whnf
    refine k9 _ _ ?_
    refine .ret ?_
    conv => whnf
    have e9 := sj h
    subst e9
    refine hQ _ _ _ (aG aK (fun g => rfl) ?_)
    conv => whnf
   refine .loopS (qM n p0 p1) (fun (s4 : Int) => (u2 (.ptr 0 0 :: (.ptr 1 0 :: (u2 (.int .i64 s4 :: (u64 (u4 (u2 (.unk :: [])))))))))) (fun (s4 : Int) => [.box [.slice (List.map ah p0.carriers) .shared, .slice (List.map ak p0.names) .shared], .box [.slice (List.map ah p1.carriers) .shared, .slice (List.map ak p1.names) .shared]]) ho2 (fun _ => rfl) (li (.u2 (.s (.s (.u2 (.s (.u16 (.u16 (.u16 (.u16 (.u4 (.u2 (.u .n))))))))))))) ?_
   intro n2 s4 hs2 KL2 hKL2
   unfold qM at hs2
   refine .q fun K10 k10 => ?_
   refine .q fun K11 k11 => ?_
   refine rg 0 ?_
   conv => whnf
   refine aQ (l := p0.names) (f := ak) ?_
   conv => whnf
   refine k11 _ _ ?_
   refine .aL rfl hs2 (fun hc2 hs2 => ?_) (fun hc2 hs2 => ?_)
   ·refine .skip ?_
    conv => whnf
    refine k10 _ _ ?_
    refine .q fun K12 k12 => ?_
    refine .block ?_
    refine .q fun K13 k13 => ?_
    obtain ⟨s6, hj2, hs2⟩ := ob hs2
    have hR4 : ∀ t9 h9, Le 0 t9 h9 (u2 (.ptr 0 0 :: (.ptr 1 0 :: (u2 (.int .i64 s4 :: (u64 (u4 (u2 (.bool s6 :: []))))))))) [.box [.slice (List.map ah p0.carriers) .shared, .slice (List.map ak p0.names) .shared], .box [.slice (List.map ah p1.carriers) .shared, .slice (List.map ak p1.names) .shared]] → K13 t9 h9 := by
     intro t9 h9 hw
     refine k13 _ _ (AW.le hw ?_)
     clear hw
     refine .aL rfl hs2 (fun hc3 hs2 => ?_) (fun hc3 hs2 => ?_)
     ·refine .q fun K14 k14 => ?_
      refine rg 0 ?_
      conv => whnf
      refine k14 _ _ ?_
      refine .ret ?_
      conv => whnf
      have e9 := sj hs2
      subst e9
      dsimp only [LR.el] at h
      have e9 := sj h
      subst e9
      refine hQ _ _ _ (aG aK (fun g => rfl) ?_)
      conv => whnf
     refine .skip ?_
     conv => whnf
     refine k12 _ _ ?_
     refine .know 6 0 fun hv1 => ?_
     refine .R8 0 1 (fun hv2 => ?_) ⟨2, 0, rfl⟩
     refine rg 0 ?_
     conv => whnf
     refine ⟨(s4 + 1), by have := dn hv1; have := gX hv2; have h8 := of_decide_eq_true hc2; exact bD (by omega) (by omega), ?_⟩
     conv => whnf
     exact hKL2 _ _ _ hs2 (li (.u2 (.s (.s (.u2 (.s (.u16 (.u16 (.u16 (.u16 (.u4 (.u2 (.u .n)))))))))))))
    refine rg 0 ?_
    conv => whnf
    obtain ⟨x1, hx1, hj2⟩ := ob hj2
    refine aW (l := p0.names) (f := ak) (cs := [.str ((x1).name), .int .i64 (((x1).ty).kind), .str (((x1).ty).name), .slice (List.map aC (((x1).ty).kids)) .shared]) hx1 (rfl) rfl ?_
    conv => whnf
    obtain ⟨x2, hx2, hj2⟩ := ob hj2
    refine aW (l := p1.names) (f := ak) (cs := [.str ((x2).name), .int .i64 (((x2).ty).kind), .str (((x2).ty).name), .slice (List.map aC (((x2).ty).kids)) .shared]) hx2 (rfl) rfl ?_
    conv => whnf
    refine aH hj2 (fun hc4 hj2 => ?_) (fun hc4 hj2 => ?_)
    ·conv => whnf
     refine ⟨by kernel_rfl, ?_⟩
     conv => whnf
     cases hj2
     exact hR4 _ _ (li (.u2 (.s (.s (.u2 (.s (.u16 (.u16 (.u16 (.u16 (.u4 (.u2 (.s .n)))))))))))))
    conv => whnf
    obtain ⟨x3, hx3, hj2⟩ := ob hj2
    refine aW (l := p0.names) (f := ak) (cs := [.str ((x3).name), .int .i64 (((x3).ty).kind), .str (((x3).ty).name), .slice (List.map aC (((x3).ty).kids)) .shared]) hx3 (rfl) rfl ?_
    conv => whnf
    obtain ⟨x4, hx4, hj2⟩ := ob hj2
    refine aW (l := p1.names) (f := ak) (cs := [.str ((x4).name), .int .i64 (((x4).ty).kind), .str (((x4).ty).name), .slice (List.map aC (((x4).ty).kids)) .shared]) hx4 (rfl) rfl ?_
    conv => whnf
    obtain ⟨x5, hx5, hj2⟩ := ob hj2
    refine aD (Ox _ _ _ _ hx5) XE (.cons (.same _) (.cons (.same _) .nil)) (fun g => by simp) (fun g => rfl) ?_
    conv => whnf
    refine ⟨by kernel_rfl, ?_⟩
    conv => whnf
    cases hj2
    exact hR4 _ _ (li (.u2 (.s (.s (.u2 (.s (.u16 (.u16 (.u16 (.u16 (.u4 (.u2 (.s .n)))))))))))))
   refine .exit ?_
   conv => whnf
   exact hR3 _ (sj hs2).symm _ _ (wk [] (.u64 (.u8 (.u4 (.u2 .nil)))) .nil rfl)
  refine .loopS (qX n p0 p1) (fun (s2 : Int) => (u2 (.ptr 0 0 :: (.ptr 1 0 :: (.unk :: (.int .i64 s2 :: (u64 (u8 [])))))))) (fun (s2 : Int) => [.box [.slice (List.map ah p0.carriers) .shared, .slice (List.map ak p0.names) .shared], .box [.slice (List.map ah p1.carriers) .shared, .slice (List.map ak p1.names) .shared]]) ho1 (fun _ => rfl) (li (.u2 (.s (.s (.u (.s (.u16 (.u16 (.u16 (.u16 (.u8 .n))))))))))) ?_
  intro n1 s2 hs1 KL1 hKL1
  unfold qX at hs1
  refine .q fun K15 k15 => ?_
  refine .q fun K16 k16 => ?_
  refine rg 0 ?_
  conv => whnf
  refine aQ (l := p0.carriers) (f := ah) ?_
  conv => whnf
  refine k16 _ _ ?_
  refine .aL rfl hs1 (fun hc5 hs1 => ?_) (fun hc5 hs1 => ?_)
  ·refine .skip ?_
   conv => whnf
   refine k15 _ _ ?_
   refine .q fun K17 k17 => ?_
   refine .block ?_
   refine .q fun K18 k18 => ?_
   refine rg 0 ?_
   conv => whnf
   obtain ⟨x6, hx6, hs1⟩ := ob hs1
   refine aW (l := p0.carriers) (f := ah) (cs := [.str ((x6).name), .slice (List.map encS ((x6).elems)) .shared]) hx6 (rfl) rfl ?_
   conv => whnf
   obtain ⟨x7, hx7, hs1⟩ := ob hs1
   refine aW (l := p1.carriers) (f := ah) (cs := [.str ((x7).name), .slice (List.map encS ((x7).elems)) .shared]) hx7 (rfl) rfl ?_
   conv => whnf
   obtain ⟨x8, hx8, hs1⟩ := ob hs1
   refine aD (IC _ _ _ _ hx8) acN (.cons (.same _) (.cons (.same _) .nil)) (fun g => by simp) (fun g => rfl) ?_
   conv => whnf
   refine ⟨by kernel_rfl, ?_⟩
   conv => whnf
   refine k18 _ _ ?_
   refine .aL rfl hs1 (fun hc6 hs1 => ?_) (fun hc6 hs1 => ?_)
   ·refine .q fun K19 k19 => ?_
    refine rg 0 ?_
    conv => whnf
    refine k19 _ _ ?_
    refine .ret ?_
    conv => whnf
    have e9 := sj hs1
    subst e9
    dsimp only [LR.el] at h
    have e9 := sj h
    subst e9
    refine hQ _ _ _ (aG aK (fun g => rfl) ?_)
    conv => whnf
   refine .skip ?_
   conv => whnf
   refine k17 _ _ ?_
   refine .know 5 0 fun hv3 => ?_
   refine .know 25 0 fun hv4 => ?_
   refine rg 0 ?_
   conv => whnf
   refine ⟨(s2 + 1), by have := dn hv3; have := gX hv4; have h8 := of_decide_eq_true hc5; exact bD (by omega) (by omega), ?_⟩
   conv => whnf
   exact hKL1 _ _ _ hs1 (li (.u2 (.s (.s (.u (.s (.u16 (.u16 (.u16 (.u16 (.u8 .n)))))))))))
  refine .exit ?_
  conv => whnf
  exact hR2 _ (sj hs1).symm _ _ (li (.u2 (.s (.s (.u16 (.u16 (.u16 (.u16 (.u8 (.u2 .n))))))))))
 refine rg 0 ?_
 conv => whnf
 refine aQ (l := p0.carriers) (f := ah) ?_
 conv => whnf
 refine aQ (l := p1.carriers) (f := ah) ?_
 conv => whnf
 refine aH hj1 (fun hc7 hj1 => ?_) (fun hc7 hj1 => ?_)
 ·conv => whnf
  cases hj1
  exact hR1 _ _ (li (.u2 (.s (.s (.u16 (.u2 (.s (.u16 (.u16 (.u16 (.u4 (.u2 (.u .n)))))))))))))
 conv => whnf
 refine aQ (l := p0.names) (f := ak) ?_
 conv => whnf
 refine aQ (l := p1.names) (f := ak) ?_
 conv => whnf
 cases hj1
 exact hR1 _ _ (li (.u2 (.s (.s (.u16 (.u2 (.s (.u16 (.u16 (.u16 (.u4 (.u2 (.u .n)))))))))))))
theorem Ng (n : Nat) (p0 : List Int) (p1 : List Int) (r : Bool) (h : uJ n p0 p1 = some r) : au Tryz.prog 58 [.slice (List.map encI p0) .shared, .slice (List.map encI p1) .shared] [] (.bool r) [] := by
 unfold uJ at h
 refine aB true Tryz.func58 rfl (by rw [Tryz.ntmps58]; exact Nat.le_of_ble_eq_true rfl) fun Q hQ t ht => ?_
 conv at ht => whnf
 subst ht
 refine .q fun K1 k1 => ?_
 refine rg 0 ?_
 conv => whnf
 refine k1 _ _ ?_
 refine .q fun K2 k2 => ?_
 refine .q fun K3 k3 => ?_
 refine rg 0 ?_
 conv => whnf
 refine aQ (l := p0) (f := encI) ?_
 conv => whnf
 refine aQ (l := p1) (f := encI) ?_
 conv => whnf
 refine k3 _ _ ?_
 refine .aL rfl h (fun hc1 h => ?_) (fun hc1 h => ?_)
 ·refine .q fun K4 k4 => ?_
  refine rg 0 ?_
  conv => whnf
  refine k4 _ _ ?_
  refine .ret ?_
  conv => whnf
  have e9 := sj h
  subst e9
  refine hQ _ _ _ (aG aK (fun g => rfl) ?_)
  conv => whnf
 refine .skip ?_
 conv => whnf
 refine k2 _ _ ?_
 refine .q fun K5 k5 => ?_
 refine .q fun K6 k6 => ?_
 refine rg 0 ?_
 conv => whnf
 refine k6 _ _ ?_
 refine .block ?_
 obtain ⟨o1, ho1, h⟩ := ob h
 have hR1 : ∀ s2 : Unit, o1 = .nx s2 → ∀ t9 h9, Le 0 t9 h9 (u16 (u8 (u2 []))) [] → K5 t9 h9 := by
  intro s2 ho
  subst ho
  dsimp only [LR.el] at h
  intro t9 h9 hw
  refine k5 _ _ (AW.le hw ?_)
  refine .q fun K7 k7 => ?_
  refine rg 0 ?_
  conv => whnf
  refine k7 _ _ ?_
  refine .ret ?_
  conv => whnf
  have e9 := sj h
  subst e9
  refine hQ _ _ _ (aG aK (fun g => rfl) ?_)
  conv => whnf
 refine .loopS (pU n p0 p1) (fun (s1 : Int) => (.slice (List.map encI p0) .shared :: (.slice (List.map encI p1) .shared :: (u2 (.unk :: (.int .i64 s1 :: (u16 (u4 [])))))))) (fun (s1 : Int) => []) ho1 (fun _ => rfl) (li (.s (.s (.u2 (.u (.s (.u16 (.u4 .n)))))))) ?_
 intro n1 s1 hs1 KL1 hKL1
 unfold pU at hs1
 refine .q fun K8 k8 => ?_
 refine .q fun K9 k9 => ?_
 refine rg 0 ?_
 conv => whnf
 refine aQ (l := p0) (f := encI) ?_
 conv => whnf
 refine k9 _ _ ?_
 refine .aL rfl hs1 (fun hc2 hs1 => ?_) (fun hc2 hs1 => ?_)
 ·refine .skip ?_
  conv => whnf
  refine k8 _ _ ?_
  refine .q fun K10 k10 => ?_
  refine .block ?_
  refine .q fun K11 k11 => ?_
  refine rg 0 ?_
  conv => whnf
  obtain ⟨x1, hx1, hs1⟩ := ob hs1
  refine aW (l := p0) (f := encI) (cs := [.int .i64 (x1)]) hx1 (rfl) rfl ?_
  conv => whnf
  obtain ⟨x2, hx2, hs1⟩ := ob hs1
  refine aW (l := p1) (f := encI) (cs := [.int .i64 (x2)]) hx2 (rfl) rfl ?_
  conv => whnf
  refine ⟨by kernel_rfl, ?_⟩
  conv => whnf
  refine k11 _ _ ?_
  refine .aL rfl hs1 (fun hc3 hs1 => ?_) (fun hc3 hs1 => ?_)
  ·refine .q fun K12 k12 => ?_
   refine rg 0 ?_
   conv => whnf
   refine k12 _ _ ?_
   refine .ret ?_
   conv => whnf
   have e9 := sj hs1
   subst e9
   dsimp only [LR.el] at h
   have e9 := sj h
   subst e9
   refine hQ _ _ _ (aG aK (fun g => rfl) ?_)
   conv => whnf
  refine .skip ?_
  conv => whnf
  refine k10 _ _ ?_
  refine .know 5 0 fun hv1 => ?_
  refine .know 0 0 fun hv2 => ?_
  refine rg 0 ?_
  conv => whnf
  refine ⟨(s1 + 1), by have := dn hv1; have := gX hv2; have h8 := of_decide_eq_true hc2; exact bD (by omega) (by omega), ?_⟩
  conv => whnf
  exact hKL1 _ _ _ hs1 (li (.s (.s (.u2 (.u (.s (.u16 (.u4 .n))))))))
 refine .exit ?_
 conv => whnf
 exact hR1 _ (sj hs1).symm _ _ (li (.u16 (.u8 (.u2 .n))))
theorem Bj (n : Nat) (p0 : S_api_World) (p1 : S_api_World) (r : Bool) (h : qm n p0 p1 = some r) : au Tryz.prog 22 [.agg [.slice (List.map ah p0.env.carriers) .shared, .slice (List.map ak p0.env.names) .shared, .slice (List.map encI p0.sizes) .shared, .slice (List.map aj p0.values) .shared], .agg [.slice (List.map ah p1.env.carriers) .shared, .slice (List.map ak p1.env.names) .shared, .slice (List.map encI p1.sizes) .shared, .slice (List.map aj p1.values) .shared]] [] (.bool r) [] := by
 unfold qm at h
 refine aB true Tryz.func22 rfl (by rw [Tryz.ntmps22]; exact Nat.le_of_ble_eq_true rfl) fun Q hQ t ht => ?_
 conv at ht => whnf
 subst ht
 refine .q fun K1 k1 => ?_
 refine rg 2 ?_
 conv => whnf
 refine k1 _ _ ?_
 refine .q fun K2 k2 => ?_
 obtain ⟨s1, hj1, h⟩ := ob h
 have hR1 : ∀ t9 h9, Le 0 t9 h9 (u4 (.bool s1 :: (u16 (u2 (.unk :: []))))) [] → K2 t9 h9 := by
  intro t9 h9 hw
  refine k2 _ _ (AW.le hw ?_)
  clear hw
  refine .ret ?_
  conv => whnf
  have e9 := sj h
  subst e9
  refine hQ _ _ _ (aG aK (fun g => rfl) ?_)
  conv => whnf
 refine rg 0 ?_
 conv => whnf
 obtain ⟨x1, hx1, hj1⟩ := ob hj1
 refine aD (QO _ _ _ _ hx1) afO (.cons (.same _) (.cons (.same _) .nil)) (fun g => by simp) (fun g => rfl) ?_
 conv => whnf
 refine aH hj1 (fun hc1 hj1 => ?_) (fun hc1 hj1 => ?_)
 ·conv => whnf
  obtain ⟨x2, hx2, hj1⟩ := ob hj1
  refine aD (Ng _ _ _ _ hx2) afF (.cons (.same _) (.cons (.same _) .nil)) (fun g => by simp) (fun g => rfl) ?_
  conv => whnf
  refine aH hj1 (fun hc2 hj1 => ?_) (fun hc2 hj1 => ?_)
  ·conv => whnf
   obtain ⟨x3, hx3, hj1⟩ := ob hj1
   refine aD (JO _ _ _ _ hx3) aal (.cons (.same _) (.cons (.same _) .nil)) (fun g => by simp) (fun g => rfl) ?_
   conv => whnf
   cases hj1
   exact hR1 _ _ (wk [] (.u4 (.c rfl (.u16 (.u2 (.u .nil))))) .nil rfl)
  conv => whnf
  cases hj1
  exact hR1 _ _ (wk [] (.u4 (.c rfl (.u16 (.u2 (.u .nil))))) .nil rfl)
 conv => whnf
 cases hj1
 exact hR1 _ _ (wk [] (.u4 (.c rfl (.u16 (.u2 (.u .nil))))) .nil rfl)
theorem Ls (n : Nat) (p0 : S_api_World) (p1 : Str) (p2 : Val) (r : Bool) (h : vT n p0 p1 p2 = some r) : au Tryz.prog 4 [.agg [.slice (List.map ah p0.env.carriers) .shared, .slice (List.map ak p0.env.names) .shared, .slice (List.map encI p0.sizes) .shared, .slice (List.map aj p0.values) .shared], .str p1, .agg [.int .i64 p2.kind, .int .i64 p2.n, .str p2.name, .slice (List.map aj p2.kids) .shared]] [] (.bool r) [] := by
 unfold vT at h
 refine aB true Tryz.func4 rfl (by rw [Tryz.ntmps4]; exact Nat.le_of_ble_eq_true rfl) fun Q hQ t ht => ?_
 conv at ht => whnf
 subst ht
 refine .q fun K1 k1 => ?_
 refine rg 2 ?_
 conv => whnf
 refine k1 _ _ ?_
 refine .q fun K2 k2 => ?_
 refine .q fun K3 k3 => ?_
 refine rg 0 ?_
 conv => whnf
 obtain ⟨x1, hx1, h⟩ := ob h
 refine aD (Jt _ _ _ hx1) ab6 (.cons (.same _) .nil) (fun g => by simp) (fun g => rfl) ?_
 conv => whnf
 refine k3 _ _ ?_
 refine .aL rfl h (fun hc1 h => ?_) (fun hc1 h => ?_)
 ·refine .q fun K4 k4 => ?_
  refine rg 0 ?_
  conv => whnf
  obtain ⟨x2, hx2, h⟩ := ob h
  refine aD (mY _ _ hx2) yH .nil (fun g => rfl) (fun g => rfl) ?_
  conv => whnf
  refine k4 _ _ ?_
  refine .ret ?_
  conv => whnf
  have e9 := sj h
  subst e9
  refine hQ _ _ _ (aG aK (fun g => rfl) ?_)
  conv => whnf
 refine .skip ?_
 conv => whnf
 refine k2 _ _ ?_
 refine .q fun K5 k5 => ?_
 refine rg 1 ?_
 conv => whnf
 obtain ⟨x3, hx3, h⟩ := ob h
 refine aD (ER _ _ _ _ hx3) ZJ (.cons (.same _) (.cons (.same _) .nil)) (fun g => by simp) (fun g => by simp) ?_
 conv => whnf
 refine k5 _ _ ?_
 refine .q fun K6 k6 => ?_
 refine rg 1 ?_
 conv => whnf
 obtain ⟨x4, hx4, h⟩ := ob h
 refine aD (WU _ _ _ _ hx4) aez (.cons (.same _) (.cons (.same _) .nil)) (fun g => by simp) (fun g => by simp) ?_
 conv => whnf
 refine k6 _ _ ?_
 refine .q fun K7 k7 => ?_
 refine rg 1 ?_
 conv => whnf
 obtain ⟨x5, hx5, h⟩ := ob h
 refine aD (I9 _ _ _ _ _ hx5) ZQ (.cons (.same _) (.cons (.same _) (.cons (.same _) .nil))) (fun g => by simp) (fun g => by simp) ?_
 conv => whnf
 refine k7 _ _ ?_
 refine .q fun K8 k8 => ?_
 refine rg 1 ?_
 conv => whnf
 obtain ⟨x6, hx6, h⟩ := ob h
 refine aD (aar _ _ _ _ _ hx6) afP (.cons (.same _) (.cons (.same _) (.cons (.same _) .nil))) (fun g => by simp) (fun g => by simp) ?_
 conv => whnf
 refine k8 _ _ ?_
 refine .q fun K9 k9 => ?_
 refine .q fun K10 k10 => ?_
 obtain ⟨s1, hj1, h⟩ := ob h
 have hR1 : ∀ t9 h9, Le 0 t9 h9 (.unk :: (.str p1 :: (.unk :: (.ptr 0 0 :: (.unk :: (.ptr 1 0 :: (.unk :: (.ptr 2 0 :: (u2 (.unk :: (.ptr 3 0 :: (.int .i64 x5.2 :: (u32 (u16 (u8 (.bool s1 :: (u32 (u2 [])))))))))))))))))) [.box [.slice (List.map ah p0.env.carriers) .shared, .slice (List.map ak p0.env.names) .shared, .slice (List.map encI p0.sizes) .shared, .slice (List.map aj p0.values) .shared], .box [.int .i64 p2.kind, .int .i64 p2.n, .str p2.name, .slice (List.map aj p2.kids) .shared], .box [.int .i64 x3.1.kind, .int .i64 x3.1.n, .str x3.1.name, .slice (List.map aj x3.1.kids) .shared], .box [.slice (List.map ah x5.1.env.carriers) .shared, .slice (List.map ak x5.1.env.names) .shared, .slice (List.map encI x5.1.sizes) .shared, .slice (List.map aj x5.1.values) .shared]] → K10 t9 h9 := by
  intro t9 h9 hw
  refine k10 _ _ (AW.le hw ?_)
  clear hw
  refine .aL rfl h (fun hc2 h => ?_) (fun hc2 h => ?_)
  ·refine .q fun K11 k11 => ?_
   refine rg 0 ?_
   conv => whnf
   refine k11 _ _ ?_
   refine .ret ?_
   conv => whnf
   have e9 := sj h
   subst e9
   refine hQ _ _ _ (aG aK (fun g => rfl) ?_)
   conv => whnf
  refine .skip ?_
  conv => whnf
  refine k9 _ _ ?_
  refine .q fun K12 k12 => ?_
  refine .q fun K13 k13 => ?_
  refine rg 0 ?_
  conv => whnf
  refine k13 _ _ ?_
  refine .aL rfl h (fun hc3 h => ?_) (fun hc3 h => ?_)
  ·refine .q fun K14 k14 => ?_
   refine rg 0 ?_
   conv => whnf
   obtain ⟨x7, hx7, h⟩ := ob h
   refine aD (mY _ _ hx7) yH .nil (fun g => rfl) (fun g => rfl) ?_
   conv => whnf
   refine k14 _ _ ?_
   refine .ret ?_
   conv => whnf
   have e9 := sj h
   subst e9
   refine hQ _ _ _ (aG aK (fun g => rfl) ?_)
   conv => whnf
  refine .skip ?_
  conv => whnf
  refine k12 _ _ ?_
  refine .q fun K15 k15 => ?_
  refine rg 1 ?_
  conv => whnf
  obtain ⟨x8, hx8, h⟩ := ob h
  refine aD (ER _ _ _ _ hx8) ZJ (.cons (.same _) (.cons (.same _) .nil)) (fun g => by simp) (fun g => by simp) ?_
  conv => whnf
  refine k15 _ _ ?_
  refine .q fun K16 k16 => ?_
  refine rg 1 ?_
  conv => whnf
  obtain ⟨x9, hx9, h⟩ := ob h
  refine aD (I9 _ _ _ _ _ hx9) ZQ (.cons (.same _) (.cons (.same _) (.cons (.same _) .nil))) (fun g => by simp) (fun g => by simp) ?_
  conv => whnf
  refine k16 _ _ ?_
  refine .q fun K17 k17 => ?_
  obtain ⟨s2, hj2, h⟩ := ob h
  have hR2 : ∀ t9 h9, Le 0 t9 h9 (u4 (u2 (.bool s2 :: (u64 (u32 (.unk :: [])))))) [] → K17 t9 h9 := by
   intro t9 h9 hw
   refine k17 _ _ (AW.le hw ?_)
   clear hw
   refine .ret ?_
   conv => whnf
   have e9 := sj h
   subst e9
   refine hQ _ _ _ (aG aK (fun g => rfl) ?_)
   conv => whnf
  refine rg 0 ?_
  conv => whnf
  refine aH hj2 (fun hc4 hj2 => ?_) (fun hc4 hj2 => ?_)
  ·conv => whnf
   obtain ⟨x10, hx10, hj2⟩ := ob hj2
   refine aD (oF _ _ _ _ hx10) Ct (.cons (.same _) (.cons (.same _) .nil)) (fun g => by simp) (fun g => rfl) ?_
   conv => whnf
   refine aH hj2 (fun hc5 hj2 => ?_) (fun hc5 hj2 => ?_)
   ·conv => whnf
    refine aH hj2 (fun hc6 hj2 => ?_) (fun hc6 hj2 => ?_)
    ·conv => whnf
     obtain ⟨x11, hx11, hj2⟩ := ob hj2
     refine aD (Bj _ _ _ _ hx11) aaj (.cons (.same _) (.cons (.same _) .nil)) (fun g => by simp) (fun g => rfl) ?_
     conv => whnf
     refine aH hj2 (fun hc7 hj2 => ?_) (fun hc7 hj2 => ?_)
     ·conv => whnf
      obtain ⟨x12, hx12, hj2⟩ := ob hj2
      refine aD (mY _ _ hx12) yH .nil (fun g => rfl) (fun g => rfl) ?_
      conv => whnf
      cases hj2
      exact hR2 _ _ (wk [] (.u4 (.u2 (.c rfl (.u64 (.u32 (.u .nil)))))) .nil rfl)
     conv => whnf
     cases hj2
     exact hR2 _ _ (wk [] (.u4 (.u2 (.c rfl (.u64 (.u32 (.u .nil)))))) .nil rfl)
    conv => whnf
    cases hj2
    exact hR2 _ _ (wk [] (.u4 (.u2 (.c rfl (.u64 (.u32 (.u .nil)))))) .nil rfl)
   conv => whnf
   cases hj2
   exact hR2 _ _ (wk [] (.u4 (.u2 (.c rfl (.u64 (.u32 (.u .nil)))))) .nil rfl)
  conv => whnf
  cases hj2
  exact hR2 _ _ (wk [] (.u4 (.u2 (.c rfl (.u64 (.u32 (.u .nil)))))) .nil rfl)
 refine rg 0 ?_
 conv => whnf
 refine aH hj1 (fun hc8 hj1 => ?_) (fun hc8 hj1 => ?_)
 ·conv => whnf
  cases hj1
  exact j5x0 (hR1 _ _)
 conv => whnf
 refine aH hj1 (fun hc9 hj1 => ?_) (fun hc9 hj1 => ?_)
 ·conv => whnf
  cases hj1
  exact j5x0 (hR1 _ _)
 conv => whnf
 obtain ⟨x13, hx13, hj1⟩ := ob hj1
 refine aD (oF _ _ _ _ hx13) Ct (.cons (.same _) (.cons (.same _) .nil)) (fun g => by simp) (fun g => rfl) ?_
 conv => whnf
 refine aH hj1 (fun hc10 hj1 => ?_) (fun hc10 hj1 => ?_)
 ·conv => whnf
  cases hj1
  exact j5x0 (hR1 _ _)
 conv => whnf
 obtain ⟨x14, hx14, hj1⟩ := ob hj1
 refine aD (Bj _ _ _ _ hx14) aaj (.cons (.same _) (.cons (.same _) .nil)) (fun g => by simp) (fun g => rfl) ?_
 conv => whnf
 cases hj1
 exact j5x0 (hR1 _ _)
end Abs
end Go.Proofs.YtkopaeklihhdlaaGreat
