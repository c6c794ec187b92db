/-
  Contracts of Go functions (printed). Conditions: none.
-/
import Derived.KernelRfl
import Derived.Test.YtkopaeklihhdlaaGreatCE9ox377aed
set_option linter.unusedSimpArgs false
set_option linter.unusedVariables false
namespace Go.Proofs.YtkopaeklihhdlaaGreat
namespace Abs
open Go Go.Proofs
set_option maxRecDepth 100000
set_option maxHeartbeats 40000000
theorem e11x0 {p q : Prop} (f : p → q) (h : p := by exact wk [some 0] (.u (.c rfl (.u4 (.c rfl (.u64 (.u16 (.u2 (.c rfl (.u16 .nil))))))))) (.b rfl (.e au (.e aF .nil)) .nil) rfl) : q := f h
theorem P9 (n : Nat) (p0 : Env) (r : List Str) (h : lV n p0 = some r) : aA Tryz.prog 101 [.agg [.slice (List.map aj p0.carriers) .shared, .slice (List.map ak p0.names) .shared]] [] (.slice (List.map encS r) (.tip 0 1)) [.tip (List.length r * 1)] := by
 unfold lV at h
 refine aC false Tryz.func101 rfl (by rw [Tryz.ntmps101]; exact Nat.le_of_ble_eq_true rfl) fun Q hQ t ht => ?_
 conv at ht => whnf
 subst ht
 refine .q fun K1 k1 => ?_
 refine rg 1 ?_
 conv => whnf
 refine k1 _ _ ?_
 refine .q fun K2 k2 => ?_
 refine rg 0 ?_
 conv => whnf
 refine k2 _ _ ?_
 refine .q fun K3 k3 => ?_
 refine .q fun K4 k4 => ?_
 refine rg 0 ?_
 conv => whnf
 refine k4 _ _ ?_
 refine .block ?_
 obtain ⟨o1, ho1, h⟩ := ob h
 have hR1 : ∀ s2 : List Str, o1 = .nx s2 → ∀ t9 h9, Le 0 t9 h9 (.unk :: (.ptr 0 0 :: (.unk :: (.slice (List.map encS s2) (.tip 1 1) :: (u32 (u16 (u2 (.unk :: [])))))))) [.box [.slice (List.map aj p0.carriers) .shared, .slice (List.map ak p0.names) .shared], .tip (List.length s2 * 1)] → K3 t9 h9 := by
  intro s2 ho
  subst ho
  dsimp only [LR.el] at h
  intro t9 h9 hw
  refine k3 _ _ (AW.le hw ?_)
  refine .q fun K5 k5 => ?_
  refine .q fun K6 k6 => ?_
  refine rg 0 ?_
  conv => whnf
  refine k6 _ _ ?_
  refine .block ?_
  obtain ⟨o2, ho2, h⟩ := ob h
  have hR2 : ∀ s4 : List Str, o2 = .nx s4 → ∀ t9 h9, Le 0 t9 h9 (.unk :: (.ptr 0 0 :: (.unk :: (.slice (List.map encS s4) (.tip 1 1) :: (u32 (u16 (u2 (.unk :: [])))))))) [.box [.slice (List.map aj p0.carriers) .shared, .slice (List.map ak p0.names) .shared], .tip (List.length s4 * 1)] → K5 t9 h9 := by
   intro s4 ho
   subst ho
   dsimp only [LR.el] at h
   intro t9 h9 hw
   refine k5 _ _ (AW.le hw ?_)
   refine .q fun K7 k7 => ?_
   refine .q fun K8 k8 => ?_
   refine rg 0 ?_
   conv => whnf
   refine k8 _ _ ?_
   refine .block ?_
   obtain ⟨o3, ho3, h⟩ := ob h
   have hR3 : ∀ s6 : List Str, o3 = .nx s6 → ∀ t9 h9, Le 0 t9 h9 (u2 (.unk :: (.slice (List.map encS s6) (.tip 0 1) :: (u32 (u16 (u2 (.unk :: []))))))) [.tip (List.length s6 * 1)] → K7 t9 h9 := by
    intro s6 ho
    subst ho
    dsimp only [LR.el] at h
    intro t9 h9 hw
    refine k7 _ _ (AW.le hw ?_)
    refine .q fun K9 k9 => ?_
    refine rg 0 ?_
    conv => whnf
    refine k9 _ _ ?_
    refine .ret ?_
    conv => whnf
    have e9 := sj h
    subst e9
    refine hQ _ _ _ (d9 (u2 (.slice (List.map encS s6) (.tip 0 1) :: (u32 (u16 (u4 []))))) [.tip (List.length s6 * 1)] (wk [some 0] (.u2 (.cons (.dz (bE _ _) rfl) (.u32 (.u16 (.u4 .nil))))) (.t rfl .nil) rfl) (bH aJ [0] rfl (.cons (rfl) .nil) ?_))
    conv => whnf
    first | rfl | (simp; done) | (simp; rfl) | (simp; and_intros <;> rfl)
   refine .loopS (qL n p0) (fun (s5 : (List Str) × Int) => (.unk :: (.ptr 0 0 :: (.unk :: (.slice (List.map encS s5.1) (.tip 1 1) :: (u2 (.int .i64 s5.2 :: (u32 (u16 []))))))))) (fun (s5 : (List Str) × Int) => [.box [.slice (List.map aj p0.carriers) .shared, .slice (List.map ak p0.names) .shared], .tip (List.length s5.1 * 1)]) ho3 (fun _ => rfl) (li (.u (.s (.u (.s (.u2 (.s (.u16 (.u16 (.u16 .n)))))))))) ?_
   intro n3 s5 hs3 KL3 hKL3
   unfold qL at hs3
   refine .q fun K10 k10 => ?_
   refine .q fun K11 k11 => ?_
   refine rg 0 ?_
   conv => whnf
   refine aQ (l := p0.names) (f := ak) ?_
   conv => whnf
   refine k11 _ _ ?_
   refine .aK rfl hs3 (fun hc1 hs3 => ?_) (fun hc1 hs3 => ?_)
   ·refine .skip ?_
    conv => whnf
    refine k10 _ _ ?_
    refine .q fun K12 k12 => ?_
    refine .block ?_
    refine rg 2 ?_
    conv => whnf
    obtain ⟨x1, hx1, hs3⟩ := ob hs3
    refine aU (l := p0.names) (f := ak) (cs := [.str ((x1).name), .int .i64 (((x1).ty).kind), .str (((x1).ty).name), .slice (List.map aH (((x1).ty).kids)) .shared]) hx1 (rfl) rfl ?_
    conv => whnf
    refine ⟨List.map encS ([x1.name]), rfl, ?_⟩
    conv => whnf
    obtain ⟨x2, hx2, hs3⟩ := ob hs3
    refine gq (l := s5.1) (ys := [x1.name]) (f := encS) hx2 Dj rfl rfl rfl ?_
    conv => whnf
    refine k12 _ _ ?_
    refine .know 6 0 fun hv1 => ?_
    refine .know 40 0 fun hv2 => ?_
    refine rg 0 ?_
    conv => whnf
    refine ⟨(s5.2 + 1), by have := bY hv1; have := gI hv2; have h8 := of_decide_eq_true hc1; exact bB (by omega) (by omega), ?_⟩
    conv => whnf
    exact hKL3 _ _ _ hs3 (wk [some 0, some 3] (.u (.c rfl (.u (.cons (.dz (bE _ _) rfl) (.u2 (.c rfl (.u32 (.u16 .nil)))))))) (.b rfl (.e au (.e aF .nil)) (.t rfl .nil)) rfl)
   refine .exit ?_
   conv => whnf
   exact hR3 _ (sj hs3).symm _ _ (wk [some 1] (.u2 (.u (.cons (.dz (bE _ _) rfl) (.u32 (.u16 (.u2 (.u .nil))))))) (.t rfl .nil) rfl)
  refine .loopS (qD n p0) (fun (s3 : (List Str) × Int) => (.unk :: (.ptr 0 0 :: (.unk :: (.slice (List.map encS s3.1) (.tip 1 1) :: (.unk :: (.int .i64 s3.2 :: (u32 (u16 (.unk :: [])))))))))) (fun (s3 : (List Str) × Int) => [.box [.slice (List.map aj p0.carriers) .shared, .slice (List.map ak p0.names) .shared], .tip (List.length s3.1 * 1)]) ho2 (fun _ => rfl) (li (.u (.s (.u (.s (.u (.s (.u16 (.u16 (.u16 (.u .n))))))))))) ?_
  intro n2 s3 hs2 KL2 hKL2
  unfold qD at hs2
  refine .q fun K13 k13 => ?_
  refine .q fun K14 k14 => ?_
  refine rg 0 ?_
  conv => whnf
  refine aQ (l := p0.carriers) (f := aj) ?_
  conv => whnf
  refine k14 _ _ ?_
  refine .aK rfl hs2 (fun hc2 hs2 => ?_) (fun hc2 hs2 => ?_)
  ·refine .skip ?_
   conv => whnf
   refine k13 _ _ ?_
   refine .q fun K15 k15 => ?_
   refine .block ?_
   refine rg 1 ?_
   conv => whnf
   obtain ⟨x3, hx3, hs2⟩ := ob hs2
   refine aU (l := p0.carriers) (f := aj) (cs := [.str ((x3).name), .slice (List.map encS ((x3).elems)) .shared]) hx3 (rfl) rfl ?_
   conv => whnf
   obtain ⟨x4, hx4, hs2⟩ := ob hs2
   refine gq (l := s3.1) (ys := x3.elems) (f := encS) hx4 Dj rfl rfl rfl ?_
   conv => whnf
   refine k15 _ _ ?_
   refine .know 5 0 fun hv3 => ?_
   refine .know 25 0 fun hv4 => ?_
   refine rg 0 ?_
   conv => whnf
   refine ⟨(s3.2 + 1), by have := bY hv3; have := gI hv4; have h8 := of_decide_eq_true hc2; exact bB (by omega) (by omega), ?_⟩
   conv => whnf
   exact hKL2 _ _ _ hs2 (wk [some 0, some 2] (.u (.c rfl (.u (.cons (.dz (bE _ _) rfl) (.u (.c rfl (.u32 (.u16 (.u .nil))))))))) (.b rfl (.e au (.e aF .nil)) (.t rfl .nil)) rfl)
  refine .exit ?_
  conv => whnf
  exact hR2 _ (sj hs2).symm _ _ (li (.u (.s (.u (.s (.u16 (.u16 (.u16 (.u2 (.u .n))))))))))
 refine .loopS (qm n p0) (fun (s1 : (List Str) × Int) => (.unk :: (.ptr 0 0 :: (.unk :: (.slice (List.map encS s1.1) (.tip 1 1) :: (.int .i64 s1.2 :: (u32 (u16 (u2 []))))))))) (fun (s1 : (List Str) × Int) => [.box [.slice (List.map aj p0.carriers) .shared, .slice (List.map ak p0.names) .shared], .tip (List.length s1.1 * 1)]) ho1 (fun _ => rfl) (wk [some 0, none] (.u (.c rfl (.u (.cons (.nils _ _) (.c rfl (.u32 (.u16 (.u2 .nil)))))))) (.b rfl (.e au (.e aF .nil)) (.w rfl .nil)) rfl) ?_
 intro n1 s1 hs1 KL1 hKL1
 unfold qm at hs1
 refine .q fun K16 k16 => ?_
 refine .q fun K17 k17 => ?_
 refine rg 0 ?_
 conv => whnf
 refine aQ (l := p0.carriers) (f := aj) ?_
 conv => whnf
 refine k17 _ _ ?_
 refine .aK rfl hs1 (fun hc3 hs1 => ?_) (fun hc3 hs1 => ?_)
 ·refine .skip ?_
  conv => whnf
  refine k16 _ _ ?_
  refine .q fun K18 k18 => ?_
  refine .block ?_
  refine rg 2 ?_
  conv => whnf
  obtain ⟨x5, hx5, hs1⟩ := ob hs1
  refine aU (l := p0.carriers) (f := aj) (cs := [.str ((x5).name), .slice (List.map encS ((x5).elems)) .shared]) hx5 (rfl) rfl ?_
  conv => whnf
  refine ⟨List.map encS ([x5.name]), rfl, ?_⟩
  conv => whnf
  obtain ⟨x6, hx6, hs1⟩ := ob hs1
  refine gq (l := s1.1) (ys := [x5.name]) (f := encS) hx6 Dj rfl rfl rfl ?_
  conv => whnf
  refine k18 _ _ ?_
  refine .know 4 0 fun hv5 => ?_
  refine .know 9 0 fun hv6 => ?_
  refine rg 0 ?_
  conv => whnf
  refine ⟨(s1.2 + 1), by have := bY hv5; have := gI hv6; have h8 := of_decide_eq_true hc3; exact bB (by omega) (by omega), ?_⟩
  conv => whnf
  exact hKL1 _ _ _ hs1 (wk [some 0, some 3] (.u (.c rfl (.u (.cons (.dz (bE _ _) rfl) (.c rfl (.u32 (.u16 (.u2 .nil)))))))) (.b rfl (.e au (.e aF .nil)) (.t rfl .nil)) rfl)
 refine .exit ?_
 conv => whnf
 exact hR1 _ (sj hs1).symm _ _ (li (.u (.s (.u (.s (.u16 (.u16 (.u16 (.u2 (.u .n))))))))))
theorem yO (n : Nat) (p0 : Env) (r : Bool) (h : fK n p0 = some r) : aA Tryz.prog 46 [.agg [.slice (List.map aj p0.carriers) .shared, .slice (List.map ak p0.names) .shared]] [] (.bool r) [] := by
 unfold fK at h
 refine aC true Tryz.func46 rfl (by rw [Tryz.ntmps46]; exact Nat.le_of_ble_eq_true rfl) fun Q hQ t ht => ?_
 conv at ht => whnf
 subst ht
 refine .q fun K1 k1 => ?_
 refine rg 1 ?_
 conv => whnf
 refine k1 _ _ ?_
 refine .q fun K2 k2 => ?_
 refine .q fun K3 k3 => ?_
 obtain ⟨s1, hj1, h⟩ := ob h
 have hR1 : ∀ t9 h9, Le 0 t9 h9 (.unk :: (.ptr 0 0 :: (u16 (.unk :: (.bool s1 :: (u64 (u16 (u4 (u2 []))))))))) [.box [.slice (List.map aj p0.carriers) .shared, .slice (List.map ak p0.names) .shared]] → K3 t9 h9 := by
  intro t9 h9 hw
  refine k3 _ _ (AW.le hw ?_)
  clear hw
  refine .aK rfl h (fun hc1 h => ?_) (fun hc1 h => ?_)
  ·refine .q fun K4 k4 => ?_
   refine rg 0 ?_
   conv => whnf
   refine k4 _ _ ?_
   refine .ret ?_
   conv => whnf
   have e9 := sj h
   subst e9
   refine hQ _ _ _ (aG aJ (fun g => rfl) ?_)
   conv => whnf
  refine .skip ?_
  conv => whnf
  refine k2 _ _ ?_
  refine .q fun K5 k5 => ?_
  refine .q fun K6 k6 => ?_
  refine rg 0 ?_
  conv => whnf
  refine k6 _ _ ?_
  refine .block ?_
  obtain ⟨o1, ho1, h⟩ := ob h
  have hR2 : ∀ s3 : Unit, o1 = .nx s3 → ∀ t9 h9, Le 0 t9 h9 (.unk :: (.ptr 0 0 :: (u64 (u32 (u8 []))))) [.box [.slice (List.map aj p0.carriers) .shared, .slice (List.map ak p0.names) .shared]] → K5 t9 h9 := by
   intro s3 ho
   subst ho
   dsimp only [LR.el] at h
   intro t9 h9 hw
   refine k5 _ _ (AW.le hw ?_)
   refine .q fun K7 k7 => ?_
   refine .q fun K8 k8 => ?_
   refine rg 0 ?_
   conv => whnf
   refine k8 _ _ ?_
   refine .block ?_
   obtain ⟨o2, ho2, h⟩ := ob h
   have hR3 : ∀ s5 : Unit, o2 = .nx s5 → ∀ t9 h9, Le 0 t9 h9 (.unk :: (.ptr 0 0 :: (u64 (u32 (u8 []))))) [.box [.slice (List.map aj p0.carriers) .shared, .slice (List.map ak p0.names) .shared]] → K7 t9 h9 := by
    intro s5 ho
    subst ho
    dsimp only [LR.el] at h
    intro t9 h9 hw
    refine k7 _ _ (AW.le hw ?_)
    refine .q fun K9 k9 => ?_
    refine rg 1 ?_
    conv => whnf
    obtain ⟨x1, hx1, h⟩ := ob h
    refine bF [] [1] [.agg [.slice (List.map aj p0.carriers) .shared, .slice (List.map ak p0.names) .shared]] [.agg [.slice (List.map aj p0.carriers) .shared, .slice (List.map ak p0.names) .shared]] (P9 _ _ _ hx1) afL rfl .nil (by simp; try decide) (.cons (.same _) .nil) (rn := .slice (List.map encS x1) (.tip 1 1)) (by simp; try decide) (Hn := [.tip (List.length x1 * 1)]) ((bJ (rfl) rfl)) ?_
    conv => whnf
    refine k9 _ _ ?_
    refine .q fun K10 k10 => ?_
    refine .q fun K11 k11 => ?_
    refine rg 0 ?_
    conv => whnf
    refine k11 _ _ ?_
    refine .block ?_
    obtain ⟨o3, ho3, h⟩ := ob h
    have hR4 : ∀ s7 : Unit, o3 = .nx s7 → ∀ t9 h9, Le 0 t9 h9 (u64 (u32 (u8 (u2 [])))) [] → K10 t9 h9 := by
     intro s7 ho
     subst ho
     dsimp only [LR.el] at h
     intro t9 h9 hw
     refine k10 _ _ (AW.le hw ?_)
     refine .q fun K12 k12 => ?_
     refine rg 0 ?_
     conv => whnf
     refine k12 _ _ ?_
     refine .ret ?_
     conv => whnf
     have e9 := sj h
     subst e9
     refine hQ _ _ _ (aG aJ (fun g => rfl) ?_)
     conv => whnf
    refine .loopS (nT n x1) (fun (s6 : Int) => (u8 (.slice (List.map encS x1) (.tip 0 1) :: (.int .i64 s6 :: (u64 (u32 [])))))) (fun (s6 : Int) => [.tip (List.length x1 * 1)]) ho3 (fun _ => rfl) (wk [some 1] (.u8 (.cons (.dz (bE _ _) rfl) (.c rfl (.u64 (.u32 .nil))))) (.t rfl .nil) rfl) ?_
    intro n3 s6 hs3 KL3 hKL3
    unfold nT at hs3
    refine .q fun K13 k13 => ?_
    refine .q fun K14 k14 => ?_
    refine rg 0 ?_
    conv => whnf
    refine aQ (l := x1) (f := encS) ?_
    conv => whnf
    refine k14 _ _ ?_
    refine .aK rfl hs3 (fun hc2 hs3 => ?_) (fun hc2 hs3 => ?_)
    ·refine .skip ?_
     conv => whnf
     refine k13 _ _ ?_
     refine .q fun K15 k15 => ?_
     refine .block ?_
     refine .q fun K16 k16 => ?_
     refine rg 0 ?_
     conv => whnf
     obtain ⟨x2, hx2, hs3⟩ := ob hs3
     refine aU (l := x1) (f := encS) (cs := [.str (x2)]) hx2 (rfl) rfl ?_
     conv => whnf
     obtain ⟨x3, hx3, hs3⟩ := ob hs3
     refine NQ (l := x1) (f := encS) hx3 (.none _) (.int _ _ _) Dj ?_
     conv => whnf
     obtain ⟨x4, hx4, hs3⟩ := ob hs3
     refine aB (Wy _ _ _ _ hx4) Zo (.cons (.same _) (.cons (.same _) .nil)) (fun g => by simp) (fun g => rfl) ?_
     conv => whnf
     refine ⟨by kernel_rfl, ?_⟩
     conv => whnf
     refine k16 _ _ ?_
     refine .aK rfl hs3 (fun hc3 hs3 => ?_) (fun hc3 hs3 => ?_)
     ·refine .q fun K17 k17 => ?_
      refine rg 0 ?_
      conv => whnf
      refine k17 _ _ ?_
      refine .ret ?_
      conv => whnf
      have e9 := sj hs3
      subst e9
      dsimp only [LR.el] at h
      have e9 := sj h
      subst e9
      refine hQ _ _ _ (aG aJ (fun g => rfl) ?_)
      conv => whnf
     refine .skip ?_
     conv => whnf
     refine k15 _ _ ?_
     refine .know 9 0 fun hv1 => ?_
     refine .know 8 0 fun hv2 => ?_
     refine rg 0 ?_
     conv => whnf
     refine ⟨(s6 + 1), by have := bY hv1; have := gI hv2; have h8 := of_decide_eq_true hc2; exact bB (by omega) (by omega), ?_⟩
     conv => whnf
     exact hKL3 _ _ _ hs3 (li (.u8 (.s (.s (.u16 (.u16 (.u16 (.u16 (.u16 (.u16 .n))))))))))
    refine .exit ?_
    conv => whnf
    exact hR4 _ (sj hs3).symm _ _ (wk [] (.u64 (.u32 (.u8 (.u2 .nil)))) .nil rfl)
   refine .loopS (qO n p0) (fun (s4 : Int) => (.unk :: (.ptr 0 0 :: (u4 (.int .i64 s4 :: (u64 (u32 (u2 (.unk :: []))))))))) (fun (s4 : Int) => [.box [.slice (List.map aj p0.carriers) .shared, .slice (List.map ak p0.names) .shared]]) ho2 (fun _ => rfl) (li (.u (.s (.u4 (.s (.u16 (.u16 (.u16 (.u16 (.u16 (.u16 (.u2 (.u .n))))))))))))) ?_
   intro n2 s4 hs2 KL2 hKL2
   unfold qO at hs2
   refine .q fun K18 k18 => ?_
   refine .q fun K19 k19 => ?_
   refine rg 0 ?_
   conv => whnf
   refine aQ (l := p0.names) (f := ak) ?_
   conv => whnf
   refine k19 _ _ ?_
   refine .aK rfl hs2 (fun hc4 hs2 => ?_) (fun hc4 hs2 => ?_)
   ·refine .skip ?_
    conv => whnf
    refine k18 _ _ ?_
    refine .q fun K20 k20 => ?_
    refine .block ?_
    refine .q fun K21 k21 => ?_
    refine rg 1 ?_
    conv => whnf
    obtain ⟨x5, hx5, hs2⟩ := ob hs2
    refine aU (l := p0.names) (f := ak) (cs := [.str ((x5).name), .int .i64 (((x5).ty).kind), .str (((x5).ty).name), .slice (List.map aH (((x5).ty).kids)) .shared]) hx5 (rfl) rfl ?_
    conv => whnf
    refine k21 _ _ ?_
    refine .q fun K22 k22 => ?_
    obtain ⟨s8, hj2, hs2⟩ := ob hs2
    have hR5 : ∀ t9 h9, Le 0 t9 h9 (.unk :: (.ptr 0 0 :: (u4 (.int .i64 s4 :: (u64 (u16 (u2 (.bool s8 :: (u16 []))))))))) [.box [.slice (List.map aj p0.carriers) .shared, .slice (List.map ak p0.names) .shared]] → K22 t9 h9 := by
     intro t9 h9 hw
     refine k22 _ _ (AW.le hw ?_)
     clear hw
     refine .aK rfl hs2 (fun hc5 hs2 => ?_) (fun hc5 hs2 => ?_)
     ·refine .q fun K23 k23 => ?_
      refine rg 0 ?_
      conv => whnf
      refine k23 _ _ ?_
      refine .ret ?_
      conv => whnf
      have e9 := sj hs2
      subst e9
      dsimp only [LR.el] at h
      have e9 := sj h
      subst e9
      refine hQ _ _ _ (aG aJ (fun g => rfl) ?_)
      conv => whnf
     refine .skip ?_
     conv => whnf
     refine k20 _ _ ?_
     refine .know 6 0 fun hv3 => ?_
     refine .Uz 0 1 (fun hv4 => ?_) ⟨1, 0, rfl⟩
     refine rg 0 ?_
     conv => whnf
     refine ⟨(s4 + 1), by have := bY hv3; have := gI hv4; have h8 := of_decide_eq_true hc4; exact bB (by omega) (by omega), ?_⟩
     conv => whnf
     exact hKL2 _ _ _ hs2 (li (.u (.s (.u4 (.s (.u16 (.u16 (.u16 (.u16 (.u16 (.u16 (.u2 (.u .n)))))))))))))
    refine rg 0 ?_
    conv => whnf
    obtain ⟨x6, hx6, hj2⟩ := ob hj2
    refine aB (X6 _ _ _ hx6) ahb (.cons (.same _) .nil) (fun g => rfl) (fun g => rfl) ?_
    conv => whnf
    refine aI hj2 (fun hc6 hj2 => ?_) (fun hc6 hj2 => ?_)
    ·conv => whnf
     cases hj2
     exact e11x0 (hR5 _ _)
    conv => whnf
    obtain ⟨x7, hx7, hj2⟩ := ob hj2
    refine aB (Cn _ _ _ hx7) acI (.cons (.same _) .nil) (fun g => by simp) (fun g => rfl) ?_
    conv => whnf
    refine aI hj2 (fun hc7 hj2 => ?_) (fun hc7 hj2 => ?_)
    ·conv => whnf
     cases hj2
     exact e11x0 (hR5 _ _)
    conv => whnf
    obtain ⟨x8, hx8, hj2⟩ := ob hj2
    refine aB (NC _ _ _ hx8) Y5 (.cons (.same _) .nil) (fun g => by simp) (fun g => rfl) ?_
    conv => whnf
    refine aI hj2 (fun hc8 hj2 => ?_) (fun hc8 hj2 => ?_)
    ·conv => whnf
     cases hj2
     exact e11x0 (hR5 _ _)
    conv => whnf
    obtain ⟨x9, hx9, hj2⟩ := ob hj2
    refine aB (Ke _ _ _ _ hx9) ab5 (.cons (.same _) (.cons (.same _) .nil)) (fun g => by simp) (fun g => rfl) ?_
    conv => whnf
    cases hj2
    exact e11x0 (hR5 _ _)
   refine .exit ?_
   conv => whnf
   exact hR3 _ (sj hs2).symm _ _ (li (.u (.s (.u16 (.u16 (.u16 (.u16 (.u16 (.u16 (.u8 .n))))))))))
  refine .loopS (qy n p0) (fun (s2 : Int) => (.unk :: (.ptr 0 0 :: (.unk :: (.int .i64 s2 :: (u64 (u32 (u4 (u2 []))))))))) (fun (s2 : Int) => [.box [.slice (List.map aj p0.carriers) .shared, .slice (List.map ak p0.names) .shared]]) ho1 (fun _ => rfl) (li (.u (.s (.u (.s (.u16 (.u16 (.u16 (.u16 (.u16 (.u16 (.u4 (.u2 .n))))))))))))) ?_
  intro n1 s2 hs1 KL1 hKL1
  unfold qy at hs1
  refine .q fun K24 k24 => ?_
  refine .q fun K25 k25 => ?_
  refine rg 0 ?_
  conv => whnf
  refine aQ (l := p0.carriers) (f := aj) ?_
  conv => whnf
  refine k25 _ _ ?_
  refine .aK rfl hs1 (fun hc9 hs1 => ?_) (fun hc9 hs1 => ?_)
  ·refine .skip ?_
   conv => whnf
   refine k24 _ _ ?_
   refine .q fun K26 k26 => ?_
   refine .block ?_
   refine .q fun K27 k27 => ?_
   refine rg 1 ?_
   conv => whnf
   obtain ⟨x10, hx10, hs1⟩ := ob hs1
   refine aU (l := p0.carriers) (f := aj) (cs := [.str ((x10).name), .slice (List.map encS ((x10).elems)) .shared]) hx10 (rfl) rfl ?_
   conv => whnf
   refine k27 _ _ ?_
   refine .q fun K28 k28 => ?_
   refine .q fun K29 k29 => ?_
   obtain ⟨s9, hj3, hs1⟩ := ob hs1
   have hR6 : ∀ t9 h9, Le 0 t9 h9 (.unk :: (.ptr 0 0 :: (.unk :: (.int .i64 s2 :: (.ptr 1 0 :: (u32 (u4 (.bool s9 :: (u64 []))))))))) [.box [.slice (List.map aj p0.carriers) .shared, .slice (List.map ak p0.names) .shared], .box [.str x10.name, .slice (List.map encS x10.elems) .shared]] → K29 t9 h9 := by
    intro t9 h9 hw
    refine k29 _ _ (AW.le hw ?_)
    clear hw
    refine .aK rfl hs1 (fun hc10 hs1 => ?_) (fun hc10 hs1 => ?_)
    ·refine .q fun K30 k30 => ?_
     refine rg 0 ?_
     conv => whnf
     refine k30 _ _ ?_
     refine .ret ?_
     conv => whnf
     have e9 := sj hs1
     subst e9
     dsimp only [LR.el] at h
     have e9 := sj h
     subst e9
     refine hQ _ _ _ (aG aJ (fun g => rfl) ?_)
     conv => whnf
    refine .skip ?_
    conv => whnf
    refine k28 _ _ ?_
    refine .q fun K31 k31 => ?_
    refine rg 0 ?_
    conv => whnf
    refine k31 _ _ ?_
    refine .block ?_
    obtain ⟨o4, ho4, hs1⟩ := ob hs1
    have hR7 : ∀ s11 : Unit, o4 = .nx s11 → ∀ t9 h9, Le 0 t9 h9 (.unk :: (.ptr 0 0 :: (.unk :: (.int .i64 s2 :: (u64 (u32 (u4 (u2 [])))))))) [.box [.slice (List.map aj p0.carriers) .shared, .slice (List.map ak p0.names) .shared]] → K26 t9 h9 := by
     intro s11 ho
     subst ho
     dsimp only [LR.el] at hs1
     intro t9 h9 hw
     refine k26 _ _ (AW.le hw ?_)
     refine .know 3 0 fun hv5 => ?_
     refine .Uz 0 0 (fun hv6 => ?_) ⟨1, 0, rfl⟩
     refine rg 0 ?_
     conv => whnf
     refine ⟨(s2 + 1), by have := bY hv5; have := gI hv6; have h8 := of_decide_eq_true hc9; exact bB (by omega) (by omega), ?_⟩
     conv => whnf
     exact hKL1 _ _ _ hs1 (li (.u (.s (.u (.s (.u16 (.u16 (.u16 (.u16 (.u16 (.u16 (.u4 (.u2 .n)))))))))))))
    refine .loopS (lH n x10) (fun (s10 : Int) => (.unk :: (.ptr 0 0 :: (.unk :: (.int .i64 s2 :: (.ptr 1 0 :: (.int .i64 s10 :: (u64 (u32 (u4 [])))))))))) (fun (s10 : Int) => [.box [.slice (List.map aj p0.carriers) .shared, .slice (List.map ak p0.names) .shared], .box [.str x10.name, .slice (List.map encS x10.elems) .shared]]) ho4 (fun _ => rfl) (li (.u (.s (.u (.s (.s (.s (.u16 (.u16 (.u16 (.u16 (.u16 (.u16 (.u4 .n)))))))))))))) ?_
    intro n4 s10 hs4 KL4 hKL4
    unfold lH at hs4
    refine .q fun K32 k32 => ?_
    refine .q fun K33 k33 => ?_
    refine rg 0 ?_
    conv => whnf
    refine aQ (l := x10.elems) (f := encS) ?_
    conv => whnf
    refine k33 _ _ ?_
    refine .aK rfl hs4 (fun hc11 hs4 => ?_) (fun hc11 hs4 => ?_)
    ·refine .skip ?_
     conv => whnf
     refine k32 _ _ ?_
     refine .q fun K34 k34 => ?_
     refine .block ?_
     refine .q fun K35 k35 => ?_
     refine rg 0 ?_
     conv => whnf
     obtain ⟨x11, hx11, hs4⟩ := ob hs4
     refine aU (l := x10.elems) (f := encS) (cs := [.str (x11)]) hx11 (rfl) rfl ?_
     conv => whnf
     obtain ⟨x12, hx12, hs4⟩ := ob hs4
     refine aB (oC _ _ _ hx12) Hg (.cons (.same _) .nil) (fun g => rfl) (fun g => rfl) ?_
     conv => whnf
     refine k35 _ _ ?_
     refine .aK rfl hs4 (fun hc12 hs4 => ?_) (fun hc12 hs4 => ?_)
     ·refine .q fun K36 k36 => ?_
      refine rg 0 ?_
      conv => whnf
      refine k36 _ _ ?_
      refine .ret ?_
      conv => whnf
      have e9 := sj hs4
      subst e9
      dsimp only [LR.el] at hs1
      have e9 := sj hs1
      subst e9
      dsimp only [LR.el] at h
      have e9 := sj h
      subst e9
      refine hQ _ _ _ (aG aJ (fun g => rfl) ?_)
      conv => whnf
     refine .skip ?_
     conv => whnf
     refine k34 _ _ ?_
     refine .know 5 0 fun hv7 => ?_
     refine .know 44 0 fun hv8 => ?_
     refine rg 0 ?_
     conv => whnf
     refine ⟨(s10 + 1), by have := bY hv7; have := gI hv8; have h8 := of_decide_eq_true hc11; exact bB (by omega) (by omega), ?_⟩
     conv => whnf
     exact hKL4 _ _ _ hs4 (li (.u (.s (.u (.s (.s (.s (.u16 (.u16 (.u16 (.u16 (.u16 (.u16 (.u4 .n))))))))))))))
    refine .exit ?_
    conv => whnf
    exact hR7 _ (sj hs4).symm _ _ (wk [some 0] (.u (.c rfl (.u (.c rfl (.u64 (.u32 (.u4 (.u2 .nil)))))))) (.b rfl (.e au (.e aF .nil)) .nil) rfl)
   refine rg 0 ?_
   conv => whnf
   obtain ⟨x13, hx13, hj3⟩ := ob hj3
   refine aB (oC _ _ _ hx13) Hg (.cons (.same _) .nil) (fun g => rfl) (fun g => rfl) ?_
   conv => whnf
   refine aI hj3 (fun hc13 hj3 => ?_) (fun hc13 hj3 => ?_)
   ·conv => whnf
    cases hj3
    exact hR6 _ _ (li (.u (.s (.u (.s (.s (.u16 (.u16 (.u4 (.s (.u16 (.u16 (.u16 (.u16 .n))))))))))))))
   conv => whnf
   refine aQ (l := x10.elems) (f := encS) ?_
   conv => whnf
   cases hj3
   exact hR6 _ _ (li (.u (.s (.u (.s (.s (.u16 (.u16 (.u4 (.s (.u16 (.u16 (.u16 (.u16 .n))))))))))))))
  refine .exit ?_
  conv => whnf
  exact hR2 _ (sj hs1).symm _ _ (li (.u (.s (.u16 (.u16 (.u16 (.u16 (.u16 (.u16 (.u8 .n))))))))))
 refine rg 0 ?_
 conv => whnf
 refine aQ (l := p0.carriers) (f := aj) ?_
 conv => whnf
 refine aI hj1 (fun hc14 hj1 => ?_) (fun hc14 hj1 => ?_)
 ·conv => whnf
  cases hj1
  exact hR1 _ _ (li (.u (.s (.u16 (.u (.s (.u16 (.u16 (.u16 (.u16 (.u16 (.u4 (.u2 .n)))))))))))))
 conv => whnf
 refine aQ (l := p0.names) (f := ak) ?_
 conv => whnf
 cases hj1
 exact hR1 _ _ (li (.u (.s (.u16 (.u (.s (.u16 (.u16 (.u16 (.u16 (.u16 (.u4 (.u2 .n)))))))))))))
theorem E9 (n : Nat) (p0 : Env) (p1 : List Int) (r : Bool) (h : za n p0 p1 = some r) : aA Tryz.prog 49 [.agg [.slice (List.map aj p0.carriers) .shared, .slice (List.map ak p0.names) .shared], .slice (List.map encI p1) .shared] [] (.bool r) [] := by
 unfold za at h
 refine aC true Tryz.func49 rfl (by rw [Tryz.ntmps49]; exact Nat.le_of_ble_eq_true rfl) fun Q hQ t ht => ?_
 conv at ht => whnf
 subst ht
 refine .q fun K1 k1 => ?_
 refine rg 1 ?_
 conv => whnf
 refine k1 _ _ ?_
 refine .q fun K2 k2 => ?_
 refine .q fun K3 k3 => ?_
 refine rg 0 ?_
 conv => whnf
 refine aQ (l := p1) (f := encI) ?_
 conv => whnf
 refine aQ (l := p0.carriers) (f := aj) ?_
 conv => whnf
 refine k3 _ _ ?_
 refine .aK rfl h (fun hc1 h => ?_) (fun hc1 h => ?_)
 ·refine .q fun K4 k4 => ?_
  refine rg 0 ?_
  conv => whnf
  refine k4 _ _ ?_
  refine .ret ?_
  conv => whnf
  have e9 := sj h
  subst e9
  refine hQ _ _ _ (aG aJ (fun g => rfl) ?_)
  conv => whnf
 refine .skip ?_
 conv => whnf
 refine k2 _ _ ?_
 refine .q fun K5 k5 => ?_
 refine .q fun K6 k6 => ?_
 refine rg 0 ?_
 conv => whnf
 refine k6 _ _ ?_
 refine .block ?_
 obtain ⟨o1, ho1, h⟩ := ob h
 have hR1 : ∀ s2 : Unit, o1 = .nx s2 → ∀ t9 h9, Le 0 t9 h9 (u32 (u16 (u2 []))) [] → K5 t9 h9 := by
  intro s2 ho
  subst ho
  dsimp only [LR.el] at h
  intro t9 h9 hw
  refine k5 _ _ (AW.le hw ?_)
  refine .q fun K7 k7 => ?_
  refine rg 0 ?_
  conv => whnf
  refine k7 _ _ ?_
  refine .ret ?_
  conv => whnf
  have e9 := sj h
  subst e9
  refine hQ _ _ _ (aG aJ (fun g => rfl) ?_)
  conv => whnf
 refine .loopS (rC n p0 p1) (fun (s1 : Int) => (.unk :: (.slice (List.map encI p1) .shared :: (.ptr 0 0 :: (u2 (.int .i64 s1 :: (u32 (u8 (u4 []))))))))) (fun (s1 : Int) => [.box [.slice (List.map aj p0.carriers) .shared, .slice (List.map ak p0.names) .shared]]) ho1 (fun _ => rfl) (li (.u (.s (.s (.u2 (.s (.u16 (.u16 (.u8 (.u4 .n)))))))))) ?_
 intro n1 s1 hs1 KL1 hKL1
 unfold rC at hs1
 refine .q fun K8 k8 => ?_
 refine .q fun K9 k9 => ?_
 refine rg 0 ?_
 conv => whnf
 refine aQ (l := p1) (f := encI) ?_
 conv => whnf
 refine k9 _ _ ?_
 refine .aK rfl hs1 (fun hc2 hs1 => ?_) (fun hc2 hs1 => ?_)
 ·refine .skip ?_
  conv => whnf
  refine k8 _ _ ?_
  refine .q fun K10 k10 => ?_
  refine .block ?_
  refine .q fun K11 k11 => ?_
  refine rg 0 ?_
  conv => whnf
  obtain ⟨x1, hx1, hs1⟩ := ob hs1
  refine aU (l := p0.carriers) (f := aj) (cs := [.str ((x1).name), .slice (List.map encS ((x1).elems)) .shared]) hx1 (rfl) rfl ?_
  conv => whnf
  refine aQ (l := x1.elems) (f := encS) ?_
  conv => whnf
  refine k11 _ _ ?_
  refine .q fun K12 k12 => ?_
  obtain ⟨s3, hj1, hs1⟩ := ob hs1
  have hR2 : ∀ t9 h9, Le 0 t9 h9 (.unk :: (.slice (List.map encI p1) .shared :: (.ptr 0 0 :: (u2 (.int .i64 s1 :: (u32 (u8 (u2 (.unk :: (.bool s3 :: [])))))))))) [.box [.slice (List.map aj p0.carriers) .shared, .slice (List.map ak p0.names) .shared]] → K12 t9 h9 := by
   intro t9 h9 hw
   refine k12 _ _ (AW.le hw ?_)
   clear hw
   refine .aK rfl hs1 (fun hc3 hs1 => ?_) (fun hc3 hs1 => ?_)
   ·refine .q fun K13 k13 => ?_
    refine rg 0 ?_
    conv => whnf
    refine k13 _ _ ?_
    refine .ret ?_
    conv => whnf
    have e9 := sj hs1
    subst e9
    dsimp only [LR.el] at h
    have e9 := sj h
    subst e9
    refine hQ _ _ _ (aG aJ (fun g => rfl) ?_)
    conv => whnf
   refine .skip ?_
   conv => whnf
   refine k10 _ _ ?_
   refine .know 5 0 fun hv1 => ?_
   refine .know 1 0 fun hv2 => ?_
   refine rg 0 ?_
   conv => whnf
   refine ⟨(s1 + 1), by have := bY hv1; have := gI hv2; have h8 := of_decide_eq_true hc2; exact bB (by omega) (by omega), ?_⟩
   conv => whnf
   exact hKL1 _ _ _ hs1 (li (.u (.s (.s (.u2 (.s (.u16 (.u16 (.u8 (.u4 .n))))))))))
  refine rg 0 ?_
  conv => whnf
  obtain ⟨x2, hx2, hj1⟩ := ob hj1
  refine aU (l := p1) (f := encI) (cs := [.int .i64 (x2)]) hx2 (rfl) rfl ?_
  conv => whnf
  refine aI hj1 (fun hc4 hj1 => ?_) (fun hc4 hj1 => ?_)
  ·conv => whnf
   cases hj1
   exact hR2 _ _ (li (.u (.s (.s (.u2 (.s (.u16 (.u16 (.u8 (.u2 (.u (.s .n))))))))))))
  conv => whnf
  obtain ⟨x3, hx3, hj1⟩ := ob hj1
  refine aU (l := p1) (f := encI) (cs := [.int .i64 (x3)]) hx3 (rfl) rfl ?_
  conv => whnf
  refine aI hj1 (fun hc5 hj1 => ?_) (fun hc5 hj1 => ?_)
  ·conv => whnf
   cases hj1
   exact hR2 _ _ (li (.u (.s (.s (.u2 (.s (.u16 (.u16 (.u8 (.u2 (.u (.s .n))))))))))))
  conv => whnf
  refine aI hj1 (fun hc6 hj1 => ?_) (fun hc6 hj1 => ?_)
  ·conv => whnf
   obtain ⟨x4, hx4, hj1⟩ := ob hj1
   refine aU (l := p1) (f := encI) (cs := [.int .i64 (x4)]) hx4 (rfl) rfl ?_
   conv => whnf
   cases hj1
   exact hR2 _ _ (li (.u (.s (.s (.u2 (.s (.u16 (.u16 (.u8 (.u2 (.u (.s .n))))))))))))
  conv => whnf
  cases hj1
  exact hR2 _ _ (li (.u (.s (.s (.u2 (.s (.u16 (.u16 (.u8 (.u2 (.u (.s .n))))))))))))
 refine .exit ?_
 conv => whnf
 exact hR1 _ (sj hs1).symm _ _ (wk [] (.u32 (.u16 (.u2 .nil))) .nil rfl)
theorem Fg (n : Nat) (p0 : Int) (p1 : Int) (r : Int) (h : wS n p0 p1 = some r) : aA Tryz.prog 66 [.int .i64 p0, .int .i64 p1] [] (.int .i64 r) [] := by
 unfold wS at h
 refine aC true Tryz.func66 rfl (by rw [Tryz.ntmps66]; exact Nat.le_of_ble_eq_true rfl) fun Q hQ t ht => ?_
 conv at ht => whnf
 subst ht
 refine .q fun K1 k1 => ?_
 refine rg 0 ?_
 conv => whnf
 refine k1 _ _ ?_
 refine .q fun K2 k2 => ?_
 refine .block ?_
 refine .q fun K3 k3 => ?_
 refine rg 0 ?_
 conv => whnf
 refine k3 _ _ ?_
 refine .aK rfl h (fun hc1 h => ?_) (fun hc1 h => ?_)
 ·refine .q fun K4 k4 => ?_
  refine rg 0 ?_
  conv => whnf
  refine k4 _ _ ?_
  refine .ret ?_
  conv => whnf
  have e9 := sj h
  subst e9
  refine hQ _ _ _ (aG aJ (fun g => rfl) ?_)
  conv => whnf
 refine .q fun K5 k5 => ?_
 refine rg 0 ?_
 conv => whnf
 refine k5 _ _ ?_
 refine .aK rfl h (fun hc2 h => ?_) (fun hc2 h => ?_)
 ·refine .q fun K6 k6 => ?_
  refine rg 0 ?_
  conv => whnf
  refine k6 _ _ ?_
  refine .ret ?_
  conv => whnf
  have e9 := sj h
  subst e9
  refine hQ _ _ _ (aG aJ (fun g => rfl) ?_)
  conv => whnf
 refine .skip ?_
 conv => whnf
 refine k2 _ _ ?_
 refine .q fun K7 k7 => ?_
 refine rg 0 ?_
 conv => whnf
 refine k7 _ _ ?_
 refine .ret ?_
 conv => whnf
 have e9 := sj h
 subst e9
 refine hQ _ _ _ (aG aJ (fun g => rfl) ?_)
 conv => whnf
abbrev qa9 (qdn : Val → Val → Option Int) : Prop := ∀ (p0 : Val) (p1 : Val) (r : Int), qdn p0 p1 = some r → aA Tryz.prog 26 [.agg [.int .i64 p0.kind, .int .i64 p0.n, .str p0.name, .slice (List.map ah p0.kids) .shared], .agg [.int .i64 p1.kind, .int .i64 p1.n, .str p1.name, .slice (List.map ah p1.kids) .shared]] [] (.int .i64 r) []
theorem GU (n : Nat) (qdn : Val → Val → Option Int) (qbt : qa9 qdn) (p0 : Val) (p1 : Val) (r : Int) (h : oU n qdn p0 p1 = some r) : aA Tryz.prog 26 [.agg [.int .i64 p0.kind, .int .i64 p0.n, .str p0.name, .slice (List.map ah p0.kids) .shared], .agg [.int .i64 p1.kind, .int .i64 p1.n, .str p1.name, .slice (List.map ah p1.kids) .shared]] [] (.int .i64 r) [] := by
 unfold oU at h
 refine aC true Tryz.func26 rfl (by rw [Tryz.ntmps26]; exact Nat.le_of_ble_eq_true rfl) fun Q hQ t ht => ?_
 conv at ht => whnf
 subst ht
 refine .q fun K1 k1 => ?_
 refine rg 2 ?_
 conv => whnf
 refine k1 _ _ ?_
 refine .q fun K2 k2 => ?_
 refine .q fun K3 k3 => ?_
 refine rg 0 ?_
 conv => whnf
 refine k3 _ _ ?_
 refine .aK rfl h (fun hc1 h => ?_) (fun hc1 h => ?_)
 ·refine .q fun K4 k4 => ?_
  refine rg 0 ?_
  conv => whnf
  obtain ⟨x1, hx1, h⟩ := ob h
  refine aB (Fg _ _ _ _ hx1) VU (.cons (.same _) (.cons (.same _) .nil)) (fun g => rfl) (fun g => rfl) ?_
  conv => whnf
  refine k4 _ _ ?_
  refine .ret ?_
  conv => whnf
  have e9 := sj h
  subst e9
  refine hQ _ _ _ (aG aJ (fun g => rfl) ?_)
  conv => whnf
 refine .skip ?_
 conv => whnf
 refine k2 _ _ ?_
 refine .q fun K5 k5 => ?_
 refine .q fun K6 k6 => ?_
 refine rg 0 ?_
 conv => whnf
 refine k6 _ _ ?_
 refine .aK rfl h (fun hc2 h => ?_) (fun hc2 h => ?_)
 ·refine .q fun K7 k7 => ?_
  refine rg 0 ?_
  conv => whnf
  obtain ⟨x2, hx2, h⟩ := ob h
  refine aB (Fg _ _ _ _ hx2) VU (.cons (.same _) (.cons (.same _) .nil)) (fun g => rfl) (fun g => rfl) ?_
  conv => whnf
  refine k7 _ _ ?_
  refine .ret ?_
  conv => whnf
  have e9 := sj h
  subst e9
  refine hQ _ _ _ (aG aJ (fun g => rfl) ?_)
  conv => whnf
 refine .skip ?_
 conv => whnf
 refine k5 _ _ ?_
 refine .q fun K8 k8 => ?_
 refine .q fun K9 k9 => ?_
 refine rg 0 ?_
 conv => whnf
 refine k9 _ _ ?_
 refine .aK rfl h (fun hc3 h => ?_) (fun hc3 h => ?_)
 ·refine .q fun K10 k10 => ?_
  refine rg 0 ?_
  conv => whnf
  refine k10 _ _ ?_
  refine .ret ?_
  conv => whnf
  have e9 := sj h
  subst e9
  refine hQ _ _ _ (aG aJ (fun g => rfl) ?_)
  conv => whnf
 refine .skip ?_
 conv => whnf
 refine k8 _ _ ?_
 refine .q fun K11 k11 => ?_
 refine .q fun K12 k12 => ?_
 refine rg 0 ?_
 conv => whnf
 refine k12 _ _ ?_
 refine .aK rfl h (fun hc4 h => ?_) (fun hc4 h => ?_)
 ·refine .q fun K13 k13 => ?_
  refine rg 0 ?_
  conv => whnf
  refine k13 _ _ ?_
  refine .ret ?_
  conv => whnf
  have e9 := sj h
  subst e9
  refine hQ _ _ _ (aG aJ (fun g => rfl) ?_)
  conv => whnf
 refine .skip ?_
 conv => whnf
 refine k11 _ _ ?_
 refine .q fun K14 k14 => ?_
 refine .q fun K15 k15 => ?_
 refine rg 0 ?_
 conv => whnf
 refine k15 _ _ ?_
 refine .block ?_
 obtain ⟨o1, ho1, h⟩ := ob h
 have hR1 : ∀ s2 : Unit, o1 = .nx s2 → ∀ t9 h9, Le 0 t9 h9 (u2 (.ptr 0 0 :: (.ptr 1 0 :: (u64 (u4 []))))) [.box [.int .i64 p0.kind, .int .i64 p0.n, .str p0.name, .slice (List.map ah p0.kids) .shared], .box [.int .i64 p1.kind, .int .i64 p1.n, .str p1.name, .slice (List.map ah p1.kids) .shared]] → K14 t9 h9 := by
  intro s2 ho
  subst ho
  dsimp only [LR.el] at h
  intro t9 h9 hw
  refine k14 _ _ (AW.le hw ?_)
  refine .q fun K16 k16 => ?_
  refine rg 0 ?_
  conv => whnf
  refine aQ (l := p0.kids) (f := ah) ?_
  conv => whnf
  refine aQ (l := p1.kids) (f := ah) ?_
  conv => whnf
  obtain ⟨x3, hx3, h⟩ := ob h
  refine aB (Fg _ _ _ _ hx3) VU (.cons (.same _) (.cons (.same _) .nil)) (fun g => rfl) (fun g => rfl) ?_
  conv => whnf
  refine k16 _ _ ?_
  refine .ret ?_
  conv => whnf
  have e9 := sj h
  subst e9
  refine hQ _ _ _ (aG aJ (fun g => rfl) ?_)
  conv => whnf
 refine .loopS (kR n qdn p0 p1) (fun (s1 : Int) => (u2 (.ptr 0 0 :: (.ptr 1 0 :: (.unk :: (.int .i64 s1 :: (u64 (u2 [])))))))) (fun (s1 : Int) => [.box [.int .i64 p0.kind, .int .i64 p0.n, .str p0.name, .slice (List.map ah p0.kids) .shared], .box [.int .i64 p1.kind, .int .i64 p1.n, .str p1.name, .slice (List.map ah p1.kids) .shared]]) ho1 (fun _ => rfl) (li (.u2 (.s (.s (.u (.s (.u16 (.u16 (.u16 (.u16 (.u2 .n))))))))))) ?_
 intro n1 s1 hs1 KL1 hKL1
 unfold kR at hs1
 refine .q fun K17 k17 => ?_
 refine .q fun K18 k18 => ?_
 obtain ⟨s3, hj1, hs1⟩ := ob hs1
 have hR2 : ∀ t9 h9, Le 0 t9 h9 (u2 (.ptr 0 0 :: (.ptr 1 0 :: (.unk :: (.int .i64 s1 :: (u32 (u8 (u2 (.bool s3 :: (u16 (u4 (u2 (.unk :: []))))))))))))) [.box [.int .i64 p0.kind, .int .i64 p0.n, .str p0.name, .slice (List.map ah p0.kids) .shared], .box [.int .i64 p1.kind, .int .i64 p1.n, .str p1.name, .slice (List.map ah p1.kids) .shared]] → K18 t9 h9 := by
  intro t9 h9 hw
  refine k18 _ _ (AW.le hw ?_)
  clear hw
  refine .aK rfl hs1 (fun hc5 hs1 => ?_) (fun hc5 hs1 => ?_)
  ·refine .skip ?_
   conv => whnf
   refine k17 _ _ ?_
   refine .q fun K19 k19 => ?_
   refine .block ?_
   refine .q fun K20 k20 => ?_
   refine rg 0 ?_
   conv => whnf
   obtain ⟨x4, hx4, hs1⟩ := ob hs1
   refine aU (l := p0.kids) (f := ah) (cs := [.int .i64 ((x4).kind), .int .i64 ((x4).n), .str ((x4).name), .slice (List.map ah ((x4).kids)) .shared]) hx4 (aX x4) rfl ?_
   conv => whnf
   obtain ⟨x5, hx5, hs1⟩ := ob hs1
   refine aU (l := p1.kids) (f := ah) (cs := [.int .i64 ((x5).kind), .int .i64 ((x5).n), .str ((x5).name), .slice (List.map ah ((x5).kids)) .shared]) hx5 (aX x5) rfl ?_
   conv => whnf
   obtain ⟨x6, hx6, hs1⟩ := ob hs1
   refine aB (qbt _ _ _ hx6) NU (.cons (.same _) (.cons (.same _) .nil)) (fun g => by simp) (fun g => rfl) ?_
   conv => whnf
   refine ⟨by kernel_rfl, ?_⟩
   conv => whnf
   refine k20 _ _ ?_
   refine .q fun K21 k21 => ?_
   refine rg 0 ?_
   conv => whnf
   refine k21 _ _ ?_
   refine .aK rfl hs1 (fun hc6 hs1 => ?_) (fun hc6 hs1 => ?_)
   ·refine .q fun K22 k22 => ?_
    refine rg 0 ?_
    conv => whnf
    refine k22 _ _ ?_
    refine .ret ?_
    conv => whnf
    have e9 := sj hs1
    subst e9
    dsimp only [LR.el] at h
    have e9 := sj h
    subst e9
    refine hQ _ _ _ (aG aJ (fun g => rfl) ?_)
    conv => whnf
   refine .skip ?_
   conv => whnf
   refine k19 _ _ ?_
   refine rg 0 ?_
   conv => whnf
   refine ⟨(IntKind.wrap .i64 (s1 + 1)), rfl, ?_⟩
   conv => whnf
   exact hKL1 _ _ _ hs1 (li (.u2 (.s (.s (.u (.s (.u16 (.u16 (.u16 (.u16 (.u2 .n)))))))))))
  refine .exit ?_
  conv => whnf
  exact hR1 _ (sj hs1).symm _ _ (li (.u2 (.s (.s (.u16 (.u16 (.u16 (.u16 (.u4 .n)))))))))
 refine rg 0 ?_
 conv => whnf
 refine aQ (l := p0.kids) (f := ah) ?_
 conv => whnf
 refine aI hj1 (fun hc7 hj1 => ?_) (fun hc7 hj1 => ?_)
 ·conv => whnf
  refine aQ (l := p1.kids) (f := ah) ?_
  conv => whnf
  cases hj1
  exact hR2 _ _ (li (.u2 (.s (.s (.u (.s (.u16 (.u16 (.u8 (.u2 (.s (.u16 (.u4 (.u2 (.u .n)))))))))))))))
 conv => whnf
 cases hj1
 exact hR2 _ _ (li (.u2 (.s (.s (.u (.s (.u16 (.u16 (.u8 (.u2 (.s (.u16 (.u4 (.u2 (.u .n)))))))))))))))
theorem OO (n : Nat) : qa9 (fU n) := by
 induction n with
 | zero => exact (fun p0 p1 r h => by unfold fU at h; cases h)
 | succ n ih =>
  exact (fun p0 p1 r h => GU n _ ih p0 p1 r (by unfold fU at h; exact h))
theorem Af (n : Nat) : qa9 (fU n) := (OO n)
theorem e13x0 {p q : Prop} (f : p → q) (h : p := by exact wk [] (.u8 (.c rfl (.u64 (.u64 (.u64 (.u2 (.u .nil))))))) .nil rfl) : q := f h
theorem e13x1 {p q : Prop} (f : p → q) (h : p := by exact li (.u (.s (.u2 (.s (.u (.s (.s (.u16 (.u16 (.u16 (.u16 (.u16 (.u16 (.u16 (.u16 (.u16 (.u8 (.u4 (.s (.u16 (.u16 (.u4 (.u2 (.u .n))))))))))))))))))))))))) : q := f h
theorem e13x2 {p q : Prop} (f : p → q) (h : p := by exact li (.u (.s (.u2 (.s (.u (.s (.s (.u (.s (.u16 (.u16 (.u16 (.u16 (.u16 (.u16 (.u16 (.u16 (.u16 (.u16 (.u16 (.u16 (.u (.s .n)))))))))))))))))))))))) : q := f h
abbrev qbg (qdu : Env → (List Int) → Val → Ty → Option Bool) : Prop := ∀ (p0 : Env) (p1 : List Int) (p2 : Val) (p3 : Ty) (r : Bool), qdu p0 p1 p2 p3 = some r → aA Tryz.prog 50 [.agg [.slice (List.map aj p0.carriers) .shared, .slice (List.map ak p0.names) .shared], .slice (List.map encI p1) .shared, .agg [.int .i64 p2.kind, .int .i64 p2.n, .str p2.name, .slice (List.map ah p2.kids) .shared], .agg [.int .i64 p3.kind, .str p3.name, .slice (List.map aH p3.kids) .shared]] [] (.bool r) []
theorem Qn (n : Nat) (qdu : Env → (List Int) → Val → Ty → Option Bool) (qb1 : qbg qdu) (p0 : Env) (p1 : List Int) (p2 : Val) (p3 : Ty) (r : Bool) (h : ig n qdu p0 p1 p2 p3 = some r) : aA Tryz.prog 50 [.agg [.slice (List.map aj p0.carriers) .shared, .slice (List.map ak p0.names) .shared], .slice (List.map encI p1) .shared, .agg [.int .i64 p2.kind, .int .i64 p2.n, .str p2.name, .slice (List.map ah p2.kids) .shared], .agg [.int .i64 p3.kind, .str p3.name, .slice (List.map aH p3.kids) .shared]] [] (.bool r) [] := by
 unfold ig at h
 refine aC true Tryz.func50 rfl (by rw [Tryz.ntmps50]; exact Nat.le_of_ble_eq_true rfl) fun Q hQ t ht => ?_
 conv at ht => whnf
 subst ht
 refine .q fun K1 k1 => ?_
 refine rg 3 ?_
 conv => whnf
 refine k1 _ _ ?_
 refine .q fun K2 k2 => ?_
 refine .q fun K3 k3 => ?_
 refine rg 0 ?_
 conv => whnf
 refine k3 _ _ ?_
 refine .block ?_
 refine .q fun K4 k4 => ?_
 refine rg 0 ?_
 conv => whnf
 refine k4 _ _ ?_
 refine .aK rfl h (fun hc1 h => ?_) (fun hc1 h => ?_)
 ·refine .q fun K5 k5 => ?_
  obtain ⟨s1, hj1, h⟩ := ob h
  have hR1 : ∀ t9 h9, Le 0 t9 h9 (u8 (.bool s1 :: (u64 (u64 (u64 (u2 (.unk :: []))))))) [] → K5 t9 h9 := by
   intro t9 h9 hw
   refine k5 _ _ (AW.le hw ?_)
   clear hw
   refine .ret ?_
   conv => whnf
   have e9 := sj h
   subst e9
   refine hQ _ _ _ (aG aJ (fun g => rfl) ?_)
   conv => whnf
  refine rg 0 ?_
  conv => whnf
  refine aI hj1 (fun hc2 hj1 => ?_) (fun hc2 hj1 => ?_)
  ·conv => whnf
   refine aI hj1 (fun hc3 hj1 => ?_) (fun hc3 hj1 => ?_)
   ·conv => whnf
    refine aQ (l := p2.kids) (f := ah) ?_
    conv => whnf
    refine aI hj1 (fun hc4 hj1 => ?_) (fun hc4 hj1 => ?_)
    ·conv => whnf
     refine aI hj1 (fun hc5 hj1 => ?_) (fun hc5 hj1 => ?_)
     ·conv => whnf
      cases hj1
      exact e13x0 (hR1 _ _)
     conv => whnf
     cases hj1
     exact e13x0 (hR1 _ _)
    conv => whnf
    cases hj1
    exact e13x0 (hR1 _ _)
   conv => whnf
   cases hj1
   exact e13x0 (hR1 _ _)
  conv => whnf
  cases hj1
  exact e13x0 (hR1 _ _)
 refine .q fun K6 k6 => ?_
 refine rg 0 ?_
 conv => whnf
 refine k6 _ _ ?_
 refine .aK rfl h (fun hc6 h => ?_) (fun hc6 h => ?_)
 ·refine .q fun K7 k7 => ?_
  obtain ⟨s2, hj2, h⟩ := ob h
  have hR2 : ∀ t9 h9, Le 0 t9 h9 (u8 (.bool s2 :: (u64 (u64 (u64 (u2 (.unk :: []))))))) [] → K7 t9 h9 := by
   intro t9 h9 hw
   refine k7 _ _ (AW.le hw ?_)
   clear hw
   refine .ret ?_
   conv => whnf
   have e9 := sj h
   subst e9
   refine hQ _ _ _ (aG aJ (fun g => rfl) ?_)
   conv => whnf
  refine rg 0 ?_
  conv => whnf
  refine aI hj2 (fun hc7 hj2 => ?_) (fun hc7 hj2 => ?_)
  ·conv => whnf
   refine aI hj2 (fun hc8 hj2 => ?_) (fun hc8 hj2 => ?_)
   ·conv => whnf
    refine aQ (l := p2.kids) (f := ah) ?_
    conv => whnf
    refine aI hj2 (fun hc9 hj2 => ?_) (fun hc9 hj2 => ?_)
    ·conv => whnf
     refine aI hj2 (fun hc10 hj2 => ?_) (fun hc10 hj2 => ?_)
     ·conv => whnf
      cases hj2
      exact e13x0 (hR2 _ _)
     conv => whnf
     cases hj2
     exact e13x0 (hR2 _ _)
    conv => whnf
    cases hj2
    exact e13x0 (hR2 _ _)
   conv => whnf
   cases hj2
   exact e13x0 (hR2 _ _)
  conv => whnf
  cases hj2
  exact e13x0 (hR2 _ _)
 refine .q fun K8 k8 => ?_
 refine rg 0 ?_
 conv => whnf
 refine k8 _ _ ?_
 refine .aK rfl h (fun hc11 h => ?_) (fun hc11 h => ?_)
 ·refine .q fun K9 k9 => ?_
  obtain ⟨s3, hj3, h⟩ := ob h
  have hR3 : ∀ t9 h9, Le 0 t9 h9 (u8 (.bool s3 :: (u64 (u64 (u64 (u2 (.unk :: []))))))) [] → K9 t9 h9 := by
   intro t9 h9 hw
   refine k9 _ _ (AW.le hw ?_)
   clear hw
   refine .ret ?_
   conv => whnf
   have e9 := sj h
   subst e9
   refine hQ _ _ _ (aG aJ (fun g => rfl) ?_)
   conv => whnf
  refine rg 0 ?_
  conv => whnf
  refine aI hj3 (fun hc12 hj3 => ?_) (fun hc12 hj3 => ?_)
  ·conv => whnf
   refine aI hj3 (fun hc13 hj3 => ?_) (fun hc13 hj3 => ?_)
   ·conv => whnf
    refine aQ (l := p2.kids) (f := ah) ?_
    conv => whnf
    refine aI hj3 (fun hc14 hj3 => ?_) (fun hc14 hj3 => ?_)
    ·conv => whnf
     refine aI hj3 (fun hc15 hj3 => ?_) (fun hc15 hj3 => ?_)
     ·conv => whnf
      obtain ⟨x1, hx1, hj3⟩ := ob hj3
      refine aB (vE _ _ _ _ hx1) VA (.cons (.same _) (.cons (.same _) .nil)) (fun g => by simp) (fun g => rfl) ?_
      conv => whnf
      obtain ⟨x2, hx2, hj3⟩ := ob hj3
      refine aU (l := p1) (f := encI) (cs := [.int .i64 (x2)]) hx2 (rfl) rfl ?_
      conv => whnf
      refine ⟨by kernel_rfl, ?_⟩
      conv => whnf
      cases hj3
      exact e13x0 (hR3 _ _)
     conv => whnf
     refine ⟨by kernel_rfl, ?_⟩
     conv => whnf
     cases hj3
     exact e13x0 (hR3 _ _)
    conv => whnf
    refine ⟨by kernel_rfl, ?_⟩
    conv => whnf
    cases hj3
    exact e13x0 (hR3 _ _)
   conv => whnf
   refine ⟨by kernel_rfl, ?_⟩
   conv => whnf
   cases hj3
   exact e13x0 (hR3 _ _)
  conv => whnf
  refine ⟨by kernel_rfl, ?_⟩
  conv => whnf
  cases hj3
  exact e13x0 (hR3 _ _)
 refine .q fun K10 k10 => ?_
 refine rg 0 ?_
 conv => whnf
 refine k10 _ _ ?_
 refine .aK rfl h (fun hc16 h => ?_) (fun hc16 h => ?_)
 ·refine .q fun K11 k11 => ?_
  obtain ⟨s4, hj4, h⟩ := ob h
  have hR4 : ∀ t9 h9, Le 0 t9 h9 (u8 (.bool s4 :: (u64 (u64 (u64 (u2 (.unk :: []))))))) [] → K11 t9 h9 := by
   intro t9 h9 hw
   refine k11 _ _ (AW.le hw ?_)
   clear hw
   refine .ret ?_
   conv => whnf
   have e9 := sj h
   subst e9
   refine hQ _ _ _ (aG aJ (fun g => rfl) ?_)
   conv => whnf
  refine rg 0 ?_
  conv => whnf
  refine aI hj4 (fun hc17 hj4 => ?_) (fun hc17 hj4 => ?_)
  ·conv => whnf
   refine aI hj4 (fun hc18 hj4 => ?_) (fun hc18 hj4 => ?_)
   ·conv => whnf
    refine aI hj4 (fun hc19 hj4 => ?_) (fun hc19 hj4 => ?_)
    ·conv => whnf
     refine aQ (l := p2.kids) (f := ah) ?_
     conv => whnf
     refine aI hj4 (fun hc20 hj4 => ?_) (fun hc20 hj4 => ?_)
     ·conv => whnf
      obtain ⟨x3, hx3, hj4⟩ := ob hj4
      refine aU (l := p2.kids) (f := ah) (cs := [.int .i64 ((x3).kind), .int .i64 ((x3).n), .str ((x3).name), .slice (List.map ah ((x3).kids)) .shared]) hx3 (aX x3) rfl ?_
      conv => whnf
      obtain ⟨x4, hx4, hj4⟩ := ob hj4
      refine aU (l := p3.kids) (f := aH) (cs := [.int .i64 ((x4).kind), .str ((x4).name), .slice (List.map aH ((x4).kids)) .shared]) hx4 (fC x4) rfl ?_
      conv => whnf
      obtain ⟨x5, hx5, hj4⟩ := ob hj4
      refine aB (qb1 _ _ _ _ _ hx5) DI (.cons (.same _) (.cons (.same _) (.cons (.same _) (.cons (.same _) .nil)))) (fun g => by simp) (fun g => rfl) ?_
      conv => whnf
      refine aI hj4 (fun hc21 hj4 => ?_) (fun hc21 hj4 => ?_)
      ·conv => whnf
       obtain ⟨x6, hx6, hj4⟩ := ob hj4
       refine aU (l := p2.kids) (f := ah) (cs := [.int .i64 ((x6).kind), .int .i64 ((x6).n), .str ((x6).name), .slice (List.map ah ((x6).kids)) .shared]) hx6 (aX x6) rfl ?_
       conv => whnf
       obtain ⟨x7, hx7, hj4⟩ := ob hj4
       refine aU (l := p3.kids) (f := aH) (cs := [.int .i64 ((x7).kind), .str ((x7).name), .slice (List.map aH ((x7).kids)) .shared]) hx7 (fC x7) rfl ?_
       conv => whnf
       obtain ⟨x8, hx8, hj4⟩ := ob hj4
       refine aB (qb1 _ _ _ _ _ hx8) DI (.cons (.same _) (.cons (.same _) (.cons (.same _) (.cons (.same _) .nil)))) (fun g => by simp) (fun g => rfl) ?_
       conv => whnf
       refine ⟨by kernel_rfl, ?_⟩
       conv => whnf
       cases hj4
       exact e13x0 (hR4 _ _)
      conv => whnf
      refine ⟨by kernel_rfl, ?_⟩
      conv => whnf
      cases hj4
      exact e13x0 (hR4 _ _)
     conv => whnf
     refine ⟨by kernel_rfl, ?_⟩
     conv => whnf
     cases hj4
     exact e13x0 (hR4 _ _)
    conv => whnf
    refine ⟨by kernel_rfl, ?_⟩
    conv => whnf
    cases hj4
    exact e13x0 (hR4 _ _)
   conv => whnf
   refine ⟨by kernel_rfl, ?_⟩
   conv => whnf
   cases hj4
   exact e13x0 (hR4 _ _)
  conv => whnf
  refine ⟨by kernel_rfl, ?_⟩
  conv => whnf
  cases hj4
  exact e13x0 (hR4 _ _)
 refine .skip ?_
 conv => whnf
 refine k2 _ _ ?_
 refine .q fun K12 k12 => ?_
 refine .q fun K13 k13 => ?_
 obtain ⟨s5, hj5, h⟩ := ob h
 have hR5 : ∀ t9 h9, Le 0 t9 h9 (.unk :: (.slice (List.map encI p1) .shared :: (u2 (.ptr 0 0 :: (.unk :: (.ptr 1 0 :: (.ptr 2 0 :: (u64 (u64 (u16 (u8 (u4 (.bool s5 :: (u32 (u4 (u2 (.unk :: []))))))))))))))))) [.box [.slice (List.map aj p0.carriers) .shared, .slice (List.map ak p0.names) .shared], .box [.int .i64 p2.kind, .int .i64 p2.n, .str p2.name, .slice (List.map ah p2.kids) .shared], .box [.int .i64 p3.kind, .str p3.name, .slice (List.map aH p3.kids) .shared]] → K13 t9 h9 := by
  intro t9 h9 hw
  refine k13 _ _ (AW.le hw ?_)
  clear hw
  refine .aK rfl h (fun hc22 h => ?_) (fun hc22 h => ?_)
  ·refine .q fun K14 k14 => ?_
   refine rg 0 ?_
   conv => whnf
   refine k14 _ _ ?_
   refine .ret ?_
   conv => whnf
   have e9 := sj h
   subst e9
   refine hQ _ _ _ (aG aJ (fun g => rfl) ?_)
   conv => whnf
  refine .skip ?_
  conv => whnf
  refine k12 _ _ ?_
  refine .q fun K15 k15 => ?_
  refine .q fun K16 k16 => ?_
  refine rg 0 ?_
  conv => whnf
  refine k16 _ _ ?_
  refine .block ?_
  obtain ⟨o1, ho1, h⟩ := ob h
  have hR6 : ∀ s7 : Unit, o1 = .nx s7 → ∀ t9 h9, Le 0 t9 h9 (u64 (u64 (u64 (u8 (u4 []))))) [] → K15 t9 h9 := by
   intro s7 ho
   subst ho
   dsimp only [LR.el] at h
   intro t9 h9 hw
   refine k15 _ _ (AW.le hw ?_)
   refine .q fun K17 k17 => ?_
   refine rg 0 ?_
   conv => whnf
   refine k17 _ _ ?_
   refine .ret ?_
   conv => whnf
   have e9 := sj h
   subst e9
   refine hQ _ _ _ (aG aJ (fun g => rfl) ?_)
   conv => whnf
  refine .loopS (kU n qdu p0 p1 p2 p3) (fun (s6 : Int) => (.unk :: (.slice (List.map encI p1) .shared :: (u2 (.ptr 0 0 :: (.unk :: (.ptr 1 0 :: (.ptr 2 0 :: (.unk :: (.int .i64 s6 :: (u64 (u64 (u64 (u2 [])))))))))))))) (fun (s6 : Int) => [.box [.slice (List.map aj p0.carriers) .shared, .slice (List.map ak p0.names) .shared], .box [.int .i64 p2.kind, .int .i64 p2.n, .str p2.name, .slice (List.map ah p2.kids) .shared], .box [.int .i64 p3.kind, .str p3.name, .slice (List.map aH p3.kids) .shared]]) ho1 (fun _ => rfl) (li (.u (.s (.u2 (.s (.u (.s (.s (.u (.s (.u16 (.u16 (.u16 (.u16 (.u16 (.u16 (.u16 (.u16 (.u16 (.u16 (.u16 (.u16 (.u2 .n))))))))))))))))))))))) ?_
  intro n1 s6 hs1 KL1 hKL1
  unfold kU at hs1
  refine .q fun K18 k18 => ?_
  refine .q fun K19 k19 => ?_
  refine rg 0 ?_
  conv => whnf
  refine aQ (l := p2.kids) (f := ah) ?_
  conv => whnf
  refine k19 _ _ ?_
  refine .aK rfl hs1 (fun hc23 hs1 => ?_) (fun hc23 hs1 => ?_)
  ·refine .skip ?_
   conv => whnf
   refine k18 _ _ ?_
   refine .q fun K20 k20 => ?_
   refine .block ?_
   refine .q fun K21 k21 => ?_
   obtain ⟨s8, hj6, hs1⟩ := ob hs1
   have hR7 : ∀ t9 h9, Le 0 t9 h9 (.unk :: (.slice (List.map encI p1) .shared :: (u2 (.ptr 0 0 :: (.unk :: (.ptr 1 0 :: (.ptr 2 0 :: (.unk :: (.int .i64 s6 :: (u64 (u64 (u64 (.unk :: (.bool s8 :: [])))))))))))))) [.box [.slice (List.map aj p0.carriers) .shared, .slice (List.map ak p0.names) .shared], .box [.int .i64 p2.kind, .int .i64 p2.n, .str p2.name, .slice (List.map ah p2.kids) .shared], .box [.int .i64 p3.kind, .str p3.name, .slice (List.map aH p3.kids) .shared]] → K21 t9 h9 := by
    intro t9 h9 hw
    refine k21 _ _ (AW.le hw ?_)
    clear hw
    refine .aK rfl hs1 (fun hc24 hs1 => ?_) (fun hc24 hs1 => ?_)
    ·refine .q fun K22 k22 => ?_
     refine rg 0 ?_
     conv => whnf
     refine k22 _ _ ?_
     refine .ret ?_
     conv => whnf
     have e9 := sj hs1
     subst e9
     dsimp only [LR.el] at h
     have e9 := sj h
     subst e9
     refine hQ _ _ _ (aG aJ (fun g => rfl) ?_)
     conv => whnf
    refine .skip ?_
    conv => whnf
    refine k20 _ _ ?_
    refine .know 9 0 fun hv1 => ?_
    refine .Uz 1 3 (fun hv2 => ?_) ⟨6, 0, rfl⟩
    refine rg 0 ?_
    conv => whnf
    refine ⟨(s6 + 1), by have := bY hv1; have := gI hv2; have h8 := of_decide_eq_true hc23; exact bB (by omega) (by omega), ?_⟩
    conv => whnf
    exact hKL1 _ _ _ hs1 (li (.u (.s (.u2 (.s (.u (.s (.s (.u (.s (.u16 (.u16 (.u16 (.u16 (.u16 (.u16 (.u16 (.u16 (.u16 (.u16 (.u16 (.u16 (.u2 .n)))))))))))))))))))))))
   refine .know 9 0 fun hv3 => ?_
   refine rg 0 ?_
   conv => whnf
   obtain ⟨x9, hx9, hj6⟩ := ob hj6
   refine aU (l := p2.kids) (f := ah) (cs := [.int .i64 ((x9).kind), .int .i64 ((x9).n), .str ((x9).name), .slice (List.map ah ((x9).kids)) .shared]) hx9 (aX x9) rfl ?_
   conv => whnf
   obtain ⟨x10, hx10, hj6⟩ := ob hj6
   refine aU (l := p3.kids) (f := aH) (cs := [.int .i64 ((x10).kind), .str ((x10).name), .slice (List.map aH ((x10).kids)) .shared]) hx10 (fC x10) rfl ?_
   conv => whnf
   obtain ⟨x11, hx11, hj6⟩ := ob hj6
   refine aB (qb1 _ _ _ _ _ hx11) DI (.cons (.same _) (.cons (.same _) (.cons (.same _) (.cons (.same _) .nil)))) (fun g => by simp) (fun g => rfl) ?_
   conv => whnf
   refine aI hj6 (fun hc25 hj6 => ?_) (fun hc25 hj6 => ?_)
   ·conv => whnf
    refine ⟨by kernel_rfl, ?_⟩
    conv => whnf
    cases hj6
    exact e13x2 (hR7 _ _)
   conv => whnf
   refine aI hj6 (fun hc26 hj6 => ?_) (fun hc26 hj6 => ?_)
   ·conv => whnf
    refine ⟨(s6 - 1), by have := bY hv3; have h8 := of_decide_eq_true hc26; exact bB (by omega) (by omega), ?_⟩
    conv => whnf
    obtain ⟨x12, hx12, hj6⟩ := ob hj6
    refine aU (l := p2.kids) (f := ah) (cs := [.int .i64 ((x12).kind), .int .i64 ((x12).n), .str ((x12).name), .slice (List.map ah ((x12).kids)) .shared]) hx12 (aX x12) rfl ?_
    conv => whnf
    obtain ⟨x13, hx13, hj6⟩ := ob hj6
    refine aU (l := p2.kids) (f := ah) (cs := [.int .i64 ((x13).kind), .int .i64 ((x13).n), .str ((x13).name), .slice (List.map ah ((x13).kids)) .shared]) hx13 (aX x13) rfl ?_
    conv => whnf
    obtain ⟨x14, hx14, hj6⟩ := ob hj6
    refine aB (Af _ _ _ _ hx14) NU (.cons (.same _) (.cons (.same _) .nil)) (fun g => by simp) (fun g => rfl) ?_
    conv => whnf
    refine ⟨by kernel_rfl, ?_⟩
    conv => whnf
    cases hj6
    exact e13x2 (hR7 _ _)
   conv => whnf
   refine ⟨by kernel_rfl, ?_⟩
   conv => whnf
   cases hj6
   exact e13x2 (hR7 _ _)
  refine .exit ?_
  conv => whnf
  exact hR6 _ (sj hs1).symm _ _ (wk [] (.u64 (.u64 (.u64 (.u8 (.u4 .nil))))) .nil rfl)
 refine rg 0 ?_
 conv => whnf
 refine aI hj5 (fun hc27 hj5 => ?_) (fun hc27 hj5 => ?_)
 ·conv => whnf
  cases hj5
  exact e13x1 (hR5 _ _)
 conv => whnf
 refine aI hj5 (fun hc28 hj5 => ?_) (fun hc28 hj5 => ?_)
 ·conv => whnf
  cases hj5
  exact e13x1 (hR5 _ _)
 conv => whnf
 refine aI hj5 (fun hc29 hj5 => ?_) (fun hc29 hj5 => ?_)
 ·conv => whnf
  cases hj5
  exact e13x1 (hR5 _ _)
 conv => whnf
 refine aQ (l := p2.kids) (f := ah) ?_
 conv => whnf
 cases hj5
 exact e13x1 (hR5 _ _)
theorem aaQ (n : Nat) : qbg (lu n) := by
 induction n with
 | zero => exact (fun p0 p1 p2 p3 r h => by unfold lu at h; cases h)
 | succ n ih =>
  exact (fun p0 p1 p2 p3 r h => Qn n _ ih p0 p1 p2 p3 r (by unfold lu at h; exact h))
theorem Iy (n : Nat) : qbg (lu n) := (aaQ n)
end Abs
end Go.Proofs.YtkopaeklihhdlaaGreat
