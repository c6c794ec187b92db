/-
  Plain functions and the contracts of Go functions by them (printed by gen.py). Conditions: none.
-/
import Derived.KernelRfl
import Derived.Test.YtiiaccpcoclklaaGreatCAbs38xf5d4b8
import Derived.Test.YtiiaccpcoclklaaGreatCDfx70d822
import Derived.Test.YtiiaccpcoclklaaGreatCDgx5ff6e3
import Derived.Test.YtiiaccpcoclklaaGreatCAwxd2604b
import Derived.Test.YtiiaccpcoclklaaGreatCT1x37f514
import Derived.Test.YtiiaccpcoclklaaGreatCT3x9ae258
import Derived.Test.YtiiaccpcoclklaaGreatCNilx5ea90a
import Derived.Test.YtiiaccpcoclklaaGreatCT4xe22024
import Derived.Test.YtiiaccpcoclklaaGreatCT5x5135bf
import Derived.Test.YtiiaccpcoclklaaGreatCT8x8176f5
import Derived.Test.YtiiaccpcoclklaaGreatCT16x39cf98
import Derived.Test.YtiiaccpcoclklaaGreatCT17x91c7ad
import Derived.Test.YtiiaccpcoclklaaGreatCT19xe6117e
set_option linter.unusedSimpArgs false
set_option linter.unusedVariables false
namespace Go.Proofs.YtiiaccpcoclklaaGreat
namespace Abs
open Go Go.Proofs
set_option maxRecDepth 100000
set_option maxHeartbeats 40000000
theorem CJ (n : Nat) (p0 : Env) (p1 : Tm) (r : Int) (h : mZ n p0 p1 = some r) : ak Tryz.prog 38 [pW p0, dW p1] [] (.i r) [] := by
 unfold mZ at h
 refine ah true Tryz.func38 rfl (nt Tryz.ntmps38 rfl) fun Q hQ t ht => ?_
 conv at ht => whnf
 subst ht
 refine .q fun K1 k1 => rg 2 ?_
 refine k1 _ _ ?_
 refine .q fun K2 k2 => rg 1 ?_
 obtain ⟨x1, hx1, h⟩ := ob h
 refine cp (xw _ _ _ _ hx1) Pq (.cons (.same _) (.cons (.same _) .nil)) ?_
 refine k2 _ _ ?_
 refine .q fun K3 k3 => .q fun K4 k4 => ?_
 obtain ⟨s1, hj1, h⟩ := ob h
 have hR1 : ∀ t9 h9, Le 0 t9 h9 (u4 (u2 (.unk :: (.i x1.2.2 :: (u8 (u4 (.unk :: (.bool s1 :: (.unk :: []))))))))) [] → K4 t9 h9 := by
  intro t9 h9 hw
  refine k4 _ _ (AW.le hw ?_)
  clear hw
  refine .aA rfl h (fun hc1 h => ?_) (fun hc1 h => ?_)
  ·refine .q fun K5 k5 => rg 0 ?_
   refine k5 _ _ ?_
   refine .ret ?_
   have e9 := sj h
   subst e9
   refine hQ _ _ _ (aj au (fun g => rfl) ?_)
   conv => whnf
  refine .skip ?_
  refine k3 _ _ ?_
  refine .q fun K6 k6 => rg 0 ?_
  refine k6 _ _ ?_
  refine .ret ?_
  have e9 := sj h
  subst e9
  refine hQ _ _ _ (aj au (fun g => rfl) ?_)
  conv => whnf
 refine rg 0 ?_
 refine aB hj1 (fun hc2 hj1 => ?_) (fun hc2 hj1 => ?_)
 ·cases hj1
  exact hR1 _ _ (wk [] (.u4 (.u2 (.u (.c rfl (.u8 (.u4 (.u (.c rfl (.u .nil))))))))) .nil rfl)
 cases hj1
 exact hR1 _ _ (wk [] (.u4 (.u2 (.u (.c rfl (.u8 (.u4 (.u (.c rfl (.u .nil))))))))) .nil rfl)
end Abs
end Go.Proofs.YtiiaccpcoclklaaGreat
namespace Go.Proofs.YtiiaccpcoclklaaGreat
namespace Abs
open Go Go.Proofs
set_option maxRecDepth 100000
set_option maxHeartbeats 40000000
end Abs
end Go.Proofs.YtiiaccpcoclklaaGreat
namespace Go.Proofs.YtiiaccpcoclklaaGreat
namespace Abs
open Go Go.Proofs
set_option maxRecDepth 100000
set_option maxHeartbeats 40000000
end Abs
end Go.Proofs.YtiiaccpcoclklaaGreat
namespace Go.Proofs.YtiiaccpcoclklaaGreat
namespace Abs
open Go Go.Proofs
set_option maxRecDepth 100000
set_option maxHeartbeats 40000000
theorem Kn (n : Nat) (p0 : List Str) (r : List Str) (h : vD n p0 = some r) : ak Tryz.prog 106 [eP p0] [] (eP r) [] := by
 unfold vD at h
 refine ah true Tryz.func106 rfl (nt Tryz.ntmps106 rfl) fun Q hQ t ht => ?_
 conv at ht => whnf
 subst ht
 refine .q fun K1 k1 => rg 0 ?_
 refine k1 _ _ ?_
 refine .q fun K2 k2 => rg 0 ?_
 refine k2 _ _ ?_
 refine .q fun K3 k3 => .q fun K4 k4 => rg 0 ?_
 refine k4 _ _ ?_
 refine .block ?_
 obtain ⟨o1, ho1, h⟩ := ob h
 have hR1 : ∀ s2 : List Str, o1 = .nx s2 → ∀ t9 h9, Le 0 t9 h9 (u2 (.unk :: (.psl 0 1 (List.length s2) :: (u64 (u4 []))))) [.arr 1 (List.map encS s2)] → K3 t9 h9 := by
  intro s2 ho
  subst ho
  dsimp only [LR.el] at h
  intro t9 h9 hw
  refine k3 _ _ (AW.le hw ?_)
  refine .q fun K5 k5 => rg 0 ?_
  refine k5 _ _ ?_
  refine .le (t' := (u2 (eP s2 :: (eP s2 :: (u64 (u2 (.unk :: (eP s2 :: [])))))))) (h' := []) (wk [] (.u2 (.cons (.JY aU (bB _) rfl rfl) (.cons (.JY aU (bB _) rfl rfl) (.u64 (.u2 (.u (.cons (.JY aU (bB _) rfl rfl) .nil))))))) .nil rfl) ?_
  refine .ret ?_
  have e9 := sj h
  subst e9
  refine hQ _ _ _ (aj au (fun g => by simp) ?_)
  conv => whnf
  try rfl
 refine .loopS (qj n p0) (fun (s1 : (List Str) × Int) => (eP p0 :: (u2 (.psl 0 1 (List.length s1.1) :: (.i s1.2 :: (u64 (u2 (.unk :: [])))))))) (fun (s1 : (List Str) × Int) => [.arr 1 (List.map encS s1.1)]) ho1 (fun _ => rfl) (wk [none] (.e aU (.u2 (.cons (.nilP _ _) (.c rfl (.u64 (.u2 (.u .nil))))))) (.w rfl .nil) rfl) ?_
 intro n1 s1 hs1 KL1 hKL1
 unfold qj at hs1
 refine .q fun K6 k6 => .q fun K7 k7 => rg 0 ?_
 refine bO (l := p0) (f := encS) ?_
 refine k7 _ _ ?_
 refine .aA rfl hs1 (fun hc1 hs1 => ?_) (fun hc1 hs1 => ?_)
 ·refine .skip ?_
  refine k6 _ _ ?_
  refine .q fun K8 k8 => ?_
  obtain ⟨s3, hj1, hs1⟩ := ob hs1
  have hR2 : ∀ t9 h9, Le 0 t9 h9 (eP p0 :: (u2 (.psl 0 1 (List.length s3) :: (.i s1.2 :: (u64 (u2 (.unk :: []))))))) [.arr 1 (List.map encS s3)] → K8 t9 h9 := by
   intro t9 h9 hw
   refine k8 _ _ (AW.le hw ?_)
   clear hw
   refine .know 4 0 fun hv1 => ?_
   refine .know 0 0 fun hv2 => ?_
   refine rg 0 ?_
   refine ⟨(s1.2 + 1), by have := iW hv1; have := ng hv2; have h8 := of_decide_eq_true hc1; exact dG (by omega) (by omega), ?_⟩
   exact hKL1 _ _ _ hs1 (wk [some 0] (.e aU (.u2 (.c rfl (.c rfl (.u64 (.u2 (.u .nil))))))) (.old (.arr' aU (bB _)) .nil) rfl)
  refine .block ?_
  refine .q fun K9 k9 => rg 0 ?_
  refine k9 _ _ ?_
  refine .q fun K10 k10 => ?_
  refine .block ?_
  obtain ⟨o2, ho2, hj1⟩ := ob hj1
  have hR3 : ∀ s5 : Int, o2 = .nx s5 → ∀ t9 h9, Le 0 t9 h9 (eP p0 :: (u2 (.psl 0 1 (List.length s1.1) :: (.i s1.2 :: (.i s5 :: (u64 (u2 []))))))) [.arr 1 (List.map encS s1.1)] → K10 t9 h9 := by
   intro s5 ho
   subst ho
   dsimp only [LR.el] at hj1
   intro t9 h9 hw
   refine k10 _ _ (AW.le hw ?_)
   refine .q fun K11 k11 => .q fun K12 k12 => ?_
   obtain ⟨s6, hj2, hj1⟩ := ob hj1
   have hR4 : ∀ t9 h9, Le 0 t9 h9 (eP p0 :: (u2 (.psl 0 1 (List.length s1.1) :: (.i s1.2 :: (.i s5 :: (u32 (u4 (u2 (.bool s6 :: (u16 (u8 (u2 (.unk :: []))))))))))))) [.arr 1 (List.map encS s1.1)] → K12 t9 h9 := by
    intro t9 h9 hw
    refine k12 _ _ (AW.le hw ?_)
    clear hw
    refine .aA rfl hj1 (fun hc2 hj1 => ?_) (fun hc2 hj1 => ?_)
    ·refine .exit ?_
     cases hj1
     exact hR2 _ _ (wk [some 0] (.e aU (.u2 (.c rfl (.c rfl (.u64 (.u2 (.u .nil))))))) (.old (.arr' aU (bB _)) .nil) rfl)
    refine .skip ?_
    refine k11 _ _ ?_
    refine .q fun K13 k13 => rg 2 ?_
    refine ⟨List.map encS ([([] : Str)]), rfl, ?_⟩
    obtain ⟨x1, hx1, hj1⟩ := ob hj1
    refine Np (l := s1.1) (l' := s1.1) (ys := ([([] : Str)])) (f := encS) hx1 (bB _) FQ ?_
    refine k13 _ _ ?_
    refine .q fun K14 k14 => .q fun K15 k15 => rg 0 ?_
    refine ⟨(IntKind.wrap .i64 ((x1.length : Int) - 1)), rfl, ?_⟩
    refine k15 _ _ ?_
    refine .block ?_
    obtain ⟨o3, ho3, hj1⟩ := ob hj1
    have hR5 : ∀ s8 : List Str, o3 = .nx s8 → ∀ t9 h9, Le 0 t9 h9 (eP p0 :: (u2 (.psl 0 1 (List.length s8) :: (.i s1.2 :: (.i s5 :: (u64 (u2 []))))))) [.arr 1 (List.map encS s8)] → K14 t9 h9 := by
     intro s8 ho
     subst ho
     dsimp only [LR.el] at hj1
     intro t9 h9 hw
     refine k14 _ _ (AW.le hw ?_)
     refine rg 0 ?_
     obtain ⟨x2, hx2, hj1⟩ := ob hj1
     refine aN (l := p0) (f := encS) (cs := [.str (x2)]) hx2 (rfl) rfl ?_
     obtain ⟨x3, hx3, hj1⟩ := ob hj1
     refine Q5 (l := s8) (l0 := s8) hx3 (by simp [upd]) ?_
     refine XB (l := s8) (f := encS) (v := x2) hx3 (rfl) (by decide) ?_
     cases hj1
     exact hR2 _ _ (wk [some 0] (.e aU (.u2 (.cons (.same (VR (by simp [upd]) rfl)) (.c rfl (.u64 (.u2 (.u .nil))))))) (.old (.arr' aU (bB _)) .nil) rfl)
    refine .loopS (lq n s5) (fun (s7 : (List Str) × Int) => (eP p0 :: (u2 (.psl 0 1 (List.length s7.1) :: (.i s1.2 :: (.i s5 :: (.i s7.2 :: (u64 (.unk :: []))))))))) (fun (s7 : (List Str) × Int) => [.arr 1 (List.map encS s7.1)]) ho3 (fun _ => rfl) (wk [some 2] (.e aU (.u2 (.c rfl (.c rfl (.c rfl (.c rfl (.u64 (.u .nil)))))))) (.old (.arr' aU (bB _)) .nil) rfl) ?_
    intro n3 s7 hs3 KL3 hKL3
    unfold lq at hs3
    refine .q fun K16 k16 => .q fun K17 k17 => rg 0 ?_
    refine k17 _ _ ?_
    refine .aA rfl hs3 (fun hc3 hs3 => ?_) (fun hc3 hs3 => ?_)
    ·refine .skip ?_
     refine k16 _ _ ?_
     refine .q fun K18 k18 => ?_
     refine .block ?_
     refine .know 6 0 fun hv3 => ?_
     refine rg 0 ?_
     refine ⟨(IntKind.wrap .i64 (s7.2 - 1)), rfl, ?_⟩
     obtain ⟨x4, hx4, hs3⟩ := ob hs3
     refine Q5 (l := s7.1) (l0 := s7.1) hx4 (by simp [upd]) ?_
     refine VO (l := s7.1) (f := encS) (cs := [.str x4]) hx4 (rfl) (by decide) ?_
     obtain ⟨x5, hx5, hs3⟩ := ob hs3
     refine Q5 (l := s7.1) (l0 := s7.1) hx5 (by simp [upd]) ?_
     refine XB (l := s7.1) (f := encS) (v := x4) hx5 (rfl) (by decide) ?_
     refine k18 _ _ ?_
     refine .know 6 0 fun hv4 => ?_
     refine rg 0 ?_
     refine ⟨(IntKind.wrap .i64 (s7.2 - 1)), rfl, ?_⟩
     exact hKL3 _ _ _ hs3 (wk [some 0] (.e aU (.u2 (.cons (.same (VR (by simp [upd]) rfl)) (.c rfl (.c rfl (.c rfl (.u64 (.u .nil)))))))) (.old (.arr' aU (bB _)) .nil) rfl)
    refine .exit ?_
    exact hR5 _ (sj hs3).symm _ _ (wk [some 0] (.e aU (.u2 (.c rfl (.c rfl (.c rfl (.u64 (.u2 .nil))))))) (.old (.arr' aU (bB _)) .nil) rfl)
   refine rg 0 ?_
   refine aB hj2 (fun hc4 hj2 => ?_) (fun hc4 hj2 => ?_)
   ·obtain ⟨x6, hx6, hj2⟩ := ob hj2
    refine Q5 (l := s1.1) (l0 := s1.1) hx6 (by simp [upd]) ?_
    refine VO (l := s1.1) (f := encS) (cs := [.str x6]) hx6 (rfl) (by decide) ?_
    obtain ⟨x7, hx7, hj2⟩ := ob hj2
    refine aN (l := p0) (f := encS) (cs := [.str (x7)]) hx7 (rfl) rfl ?_
    refine ⟨rfl, ?_⟩
    cases hj2
    exact hR4 _ _ (li (.s (.u2 (.s (.s (.s (.u16 (.u16 (.u4 (.u2 (.s (.u16 (.u8 (.u2 (.u .n)))))))))))))))
   refine ⟨rfl, ?_⟩
   cases hj2
   exact hR4 _ _ (li (.s (.u2 (.s (.s (.s (.u16 (.u16 (.u4 (.u2 (.s (.u16 (.u8 (.u2 (.u .n)))))))))))))))
  refine .loopS (lD n p0 s1) (fun (s4 : Int) => (eP p0 :: (u2 (.psl 0 1 (List.length s1.1) :: (.i s1.2 :: (.i s4 :: (u64 (u2 [])))))))) (fun (s4 : Int) => [.arr 1 (List.map encS s1.1)]) ho2 (fun _ => rfl) (li (.s (.u2 (.s (.s (.s (.u16 (.u16 (.u16 (.u16 (.u2 .n))))))))))) ?_
  intro n2 s4 hs2 KL2 hKL2
  unfold lD at hs2
  refine .q fun K19 k19 => .q fun K20 k20 => ?_
  obtain ⟨s9, hj3, hs2⟩ := ob hs2
  have hR6 : ∀ t9 h9, Le 0 t9 h9 (eP p0 :: (u2 (.psl 0 1 (List.length s1.1) :: (.i s1.2 :: (.i s4 :: (u16 (u4 (.unk :: (.bool s9 :: (u32 (u8 (u4 [])))))))))))) [.arr 1 (List.map encS s1.1)] → K20 t9 h9 := by
   intro t9 h9 hw
   refine k20 _ _ (AW.le hw ?_)
   clear hw
   refine .aA rfl hs2 (fun hc5 hs2 => ?_) (fun hc5 hs2 => ?_)
   ·refine .skip ?_
    refine k19 _ _ ?_
    refine .block ?_
    refine rg 0 ?_
    refine ⟨(IntKind.wrap .i64 (s4 + 1)), rfl, ?_⟩
    exact hKL2 _ _ _ hs2 (li (.s (.u2 (.s (.s (.s (.u16 (.u16 (.u16 (.u16 (.u2 .n)))))))))))
   refine .exit ?_
   exact hR3 _ (sj hs2).symm _ _ (li (.s (.u2 (.s (.s (.s (.u16 (.u16 (.u16 (.u16 (.u2 .n)))))))))))
  refine rg 0 ?_
  refine aB hj3 (fun hc6 hj3 => ?_) (fun hc6 hj3 => ?_)
  ·obtain ⟨x8, hx8, hj3⟩ := ob hj3
   refine Q5 (l := s1.1) (l0 := s1.1) hx8 (by simp [upd]) ?_
   refine VO (l := s1.1) (f := encS) (cs := [.str x8]) hx8 (rfl) (by decide) ?_
   obtain ⟨x9, hx9, hj3⟩ := ob hj3
   refine aN (l := p0) (f := encS) (cs := [.str (x9)]) hx9 (rfl) rfl ?_
   refine ⟨rfl, ?_⟩
   cases hj3
   exact hR6 _ _ (li (.s (.u2 (.s (.s (.s (.u16 (.u4 (.u (.s (.u16 (.u16 (.u8 (.u4 .n))))))))))))))
  refine ⟨rfl, ?_⟩
  cases hj3
  exact hR6 _ _ (li (.s (.u2 (.s (.s (.s (.u16 (.u4 (.u (.s (.u16 (.u16 (.u8 (.u4 .n))))))))))))))
 refine .exit ?_
 exact hR1 _ (sj hs1).symm _ _ (wk [some 0] (.u2 (.u (.c rfl (.u64 (.u4 .nil))))) (.old (.arr' aU (bB _)) .nil) rfl)
end Abs
end Go.Proofs.YtiiaccpcoclklaaGreat
