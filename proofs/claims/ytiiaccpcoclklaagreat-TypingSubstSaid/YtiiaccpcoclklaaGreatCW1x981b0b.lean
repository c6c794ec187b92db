/-
  Contracts of Go functions (printed). Conditions: none.
-/
import Derived.KernelRfl
import Derived.Test.YtiiaccpcoclklaaGreatCAbs38x04b7ad
import Derived.Test.YtiiaccpcoclklaaGreatCDix50535f
import Derived.Test.YtiiaccpcoclklaaGreatCWDxaae3e4
import Derived.Test.YtiiaccpcoclklaaGreatCT16xc0b479
import Derived.Test.YtiiaccpcoclklaaGreatCT19x57a74c
import Derived.Test.YtiiaccpcoclklaaGreatCU5x48444d
set_option linter.unusedSimpArgs false
set_option linter.unusedVariables false
namespace Go.Proofs.YtiiaccpcoclklaaGreat
namespace Abs
open Go Go.Proofs
set_option maxRecDepth 100000
set_option maxHeartbeats 40000000
theorem Ba (n : Nat) (p0 : List S_api_Binding) (p1 : Str) (r : Tm × Bool) (h : nD n p0 p1 = some r) : aA Tryz.prog 166 [.slice (List.map aP p0) .shared, .str p1] [] (.aZ [bC r.1, .bool r.2]) [] := by
 unfold nD at h
 refine ah true Tryz.func166 rfl (nt Tryz.ntmps166 rfl) fun Q hQ t ht => ?_
 conv at ht => whnf
 subst ht
 refine .q fun K1 k1 => rg 1 ?_
 refine k1 _ _ ?_
 refine .q fun K2 k2 => .q fun K3 k3 => rg 0 ?_
 refine k3 _ _ ?_
 refine .block ?_
 obtain ⟨o1, ho1, h⟩ := ob h
 have hR1 : ∀ s2 : Unit, o1 = .nx s2 → ∀ t9 h9, Le 0 t9 h9 (u4 (.ptr 0 0 :: (u16 (u4 (.unk :: []))))) [.box [.i 0, .str ([] : Str), .i 0, .i 0, .str ([] : Str), .slice (List.map aF ([] : List Ty)) .nils, .slice (List.map aO ([] : List Tm)) .nils]] → K2 t9 h9 := by
  intro s2 ho
  subst ho
  dsimp only [LR.el] at h
  intro t9 h9 hw
  refine k2 _ _ (AW.le hw ?_)
  refine .q fun K4 k4 => rg 0 ?_
  refine k4 _ _ ?_
  refine .ret ?_
  have e9 := sj h
  subst e9
  refine hQ _ _ _ (aj aC (fun g => by simp) ?_)
  conv => whnf
  try rfl
 refine .loopS (tO n p0 p1) (fun (s1 : Int) => (.slice (List.map aP p0) .shared :: (.str p1 :: (u2 (.ptr 0 0 :: (.unk :: (.i s1 :: (u16 (u2 (.unk :: [])))))))))) (fun (s1 : Int) => [.box [.i 0, .str ([] : Str), .i 0, .i 0, .str ([] : Str), .slice (List.map aF ([] : List Ty)) .nils, .slice (List.map aO ([] : List Tm)) .nils]]) ho1 (fun _ => rfl) (li (.s (.s (.u2 (.s (.u (.s (.u16 (.u2 (.u .n)))))))))) ?_
 intro n1 s1 hs1 KL1 hKL1
 unfold tO at hs1
 refine .q fun K5 k5 => .q fun K6 k6 => rg 0 ?_
 refine bB (l := p0) (f := aP) ?_
 refine k6 _ _ ?_
 refine .aB rfl hs1 (fun hc1 hs1 => ?_) (fun hc1 hs1 => ?_)
 ·refine .skip ?_
  refine k5 _ _ ?_
  refine .q fun K7 k7 => ?_
  refine .block ?_
  refine .q fun K8 k8 => rg 0 ?_
  obtain ⟨x1, hx1, hs1⟩ := ob hs1
  refine aI (l := p0) (f := aP) (cs := [.str ((x1).name), .i (((x1).term).op), .str (((x1).term).name), .i (((x1).term).n), .i ((((x1).term).ty).kind), .str ((((x1).term).ty).name), .slice (List.map aF ((((x1).term).ty).kids)) .shared, bn (((x1).term).kids)]) hx1 (rfl) rfl ?_
  refine k8 _ _ ?_
  refine .aB rfl hs1 (fun hc2 hs1 => ?_) (fun hc2 hs1 => ?_)
  ·refine .q fun K9 k9 => rg 0 ?_
   obtain ⟨x2, hx2, hs1⟩ := ob hs1
   refine aI (l := p0) (f := aP) (cs := [.str ((x2).name), .i (((x2).term).op), .str (((x2).term).name), .i (((x2).term).n), .i ((((x2).term).ty).kind), .str ((((x2).term).ty).name), .slice (List.map aF ((((x2).term).ty).kids)) .shared, bn (((x2).term).kids)]) hx2 (rfl) rfl ?_
   refine k9 _ _ ?_
   refine .ret ?_
   have e9 := sj hs1
   subst e9
   dsimp only [LR.el] at h
   have e9 := sj h
   subst e9
   refine hQ _ _ _ (aj aC (fun g => by simp) ?_)
   conv => whnf
   try rfl
  refine .skip ?_
  refine k7 _ _ ?_
  refine .know 6 0 fun hv1 => ?_
  refine .know 0 0 fun hv2 => ?_
  refine rg 0 ?_
  refine ⟨(s1 + 1), by have := dK hv1; have := fU hv2; have h8 := of_decide_eq_true hc1; exact bI (by omega) (by omega), ?_⟩
  exact hKL1 _ _ _ hs1 (li (.s (.s (.u2 (.s (.u (.s (.u16 (.u2 (.u .n))))))))))
 refine .exit ?_
 exact hR1 _ (sj hs1).symm _ _ (li (.u4 (.s (.u16 (.u4 (.u .n))))))
abbrev R1_depth_S (rec_R1_depth : Tm → Option Int) : Prop := ∀ (p0 : Tm) (r : Int), rec_R1_depth p0 = some r → aA Tryz.prog 243 [bC p0] [] (.i r) []
theorem R6 (n : Nat) (rec_R1_depth : Tm → Option Int) (hrec_R1_depth : R1_depth_S rec_R1_depth) (p0 : Tm) (r : Int) (h : wm n rec_R1_depth p0 = some r) : aA Tryz.prog 243 [bC p0] [] (.i r) [] := by
 unfold wm at h
 refine ah true Tryz.func243 rfl (nt Tryz.ntmps243 rfl) fun Q hQ t ht => ?_
 conv at ht => whnf
 subst ht
 refine .q fun K1 k1 => rg 1 ?_
 refine k1 _ _ ?_
 refine .q fun K2 k2 => rg 0 ?_
 refine k2 _ _ ?_
 refine .q fun K3 k3 => .q fun K4 k4 => rg 0 ?_
 refine k4 _ _ ?_
 refine .block ?_
 obtain ⟨o1, ho1, h⟩ := ob h
 have hR1 : ∀ s2 : Int, o1 = .nx s2 → ∀ t9 h9, Le 0 t9 h9 (u2 (.unk :: (.i s2 :: (u16 (u2 []))))) [] → K3 t9 h9 := by
  intro s2 ho
  subst ho
  dsimp only [LR.el] at h
  intro t9 h9 hw
  refine k3 _ _ (AW.le hw ?_)
  refine .q fun K5 k5 => rg 0 ?_
  refine ⟨(IntKind.wrap .i64 (s2 + 1)), rfl, ?_⟩
  refine k5 _ _ ?_
  refine .ret ?_
  have e9 := sj h
  subst e9
  refine hQ _ _ _ (aj aC (fun g => rfl) ?_)
  conv => whnf
 refine .loopS (yZ n rec_R1_depth p0) (fun (s1 : Int × Int) => (.unk :: (.ptr 0 0 :: (.unk :: (.i s1.1 :: (.i s1.2 :: (u16 (.unk :: [])))))))) (fun (s1 : Int × Int) => [.box [.i p0.op, .str p0.name, .i p0.n, .i p0.ty.kind, .str p0.ty.name, aH p0.ty.kids, bn p0.kids]]) ho1 (fun _ => rfl) (li (.u (.s (.u (.s (.s (.u16 (.u .n)))))))) ?_
 intro n1 s1 hs1 KL1 hKL1
 unfold yZ at hs1
 refine .q fun K6 k6 => .q fun K7 k7 => rg 0 ?_
 refine bB (l := p0.kids) (f := aO) ?_
 refine k7 _ _ ?_
 refine .aB rfl hs1 (fun hc1 hs1 => ?_) (fun hc1 hs1 => ?_)
 ·refine .skip ?_
  refine k6 _ _ ?_
  refine .q fun K8 k8 => ?_
  refine .block ?_
  refine rg 0 ?_
  obtain ⟨x1, hx1, hs1⟩ := ob hs1
  refine aI (l := p0.kids) (f := aO) (cs := [.i ((x1).op), .str ((x1).name), .i ((x1).n), .i (((x1).ty).kind), .str (((x1).ty).name), aH (((x1).ty).kids), bn ((x1).kids)]) hx1 (aR x1) rfl ?_
  obtain ⟨x2, hx2, hs1⟩ := ob hs1
  refine ak (hrec_R1_depth _ _ hx2) adQ (.cons (.same _) .nil) (fun g => by simp) (fun g => rfl) ?_
  refine k8 _ _ ?_
  refine .know 4 0 fun hv1 => ?_
  refine .know 7 0 fun hv2 => ?_
  refine rg 0 ?_
  refine ⟨(s1.2 + 1), by have := dK hv1; have := fU hv2; have h8 := of_decide_eq_true hc1; exact bI (by omega) (by omega), ?_⟩
  exact hKL1 _ _ _ hs1 (li (.u (.s (.u (.s (.s (.u16 (.u .n))))))))
 refine .exit ?_
 exact hR1 _ (sj hs1).symm _ _ (wk [] (.u2 (.u (.c rfl (.u16 (.u2 .nil))))) .nil rfl)
theorem aaP (n : Nat) : R1_depth_S (uq n) := by
 induction n with
 | zero => exact (fun p0 r h => by unfold uq at h; cases h)
 | succ n ih =>
  exact (fun p0 r h => R6 n _ ih p0 r (by unfold uq at h; exact h))
theorem acA (n : Nat) : R1_depth_S (uq n) := (aaP n)
theorem afI (n : Nat) (p0 : Tm) (r : Int × Int) (h : Ey n p0 = some r) : aA Tryz.prog 167 [bC p0] [] (.aZ [.i r.1, .i r.2]) [] := by
 unfold Ey at h
 refine ah true Tryz.func167 rfl (nt Tryz.ntmps167 rfl) fun Q hQ t ht => ?_
 conv at ht => whnf
 subst ht
 refine .q fun K1 k1 => rg 1 ?_
 refine k1 _ _ ?_
 refine .q fun K2 k2 => rg 0 ?_
 obtain ⟨x1, hx1, h⟩ := ob h
 refine ak (Rq _ _ _ _ _ hx1) abL (.cons (.same _) (.cons (.same _) (.cons (.same _) .nil))) (fun g => by simp) (fun g => rfl) ?_
 refine k2 _ _ ?_
 refine .q fun K3 k3 => .q fun K4 k4 => rg 0 ?_
 refine k4 _ _ ?_
 refine .aB rfl h (fun hc1 h => ?_) (fun hc1 h => ?_)
 ·refine .q fun K5 k5 => rg 0 ?_
  refine k5 _ _ ?_
  refine .ret ?_
  have e9 := sj h
  subst e9
  refine hQ _ _ _ (aj aC (fun g => by simp) ?_)
  conv => whnf
  try rfl
 refine .skip ?_
 refine k3 _ _ ?_
 refine .q fun K6 k6 => rg 0 ?_
 obtain ⟨x2, hx2, h⟩ := ob h
 refine ak (acA _ _ _ hx2) adQ (.cons (.same _) .nil) (fun g => by simp) (fun g => rfl) ?_
 refine k6 _ _ ?_
 refine .ret ?_
 have e9 := sj h
 subst e9
 refine hQ _ _ _ (aj aC (fun g => by simp) ?_)
 conv => whnf
 try rfl
abbrev R1_weigh_S (rec_R1_weigh : Tm → (List S_api_Binding) → (List Str) → Int → Int → Option Int) : Prop := ∀ (p0 : Tm) (p1 : List S_api_Binding) (p2 : List Str) (p3 : Int) (p4 : Int) (r : Int), rec_R1_weigh p0 p1 p2 p3 p4 = some r → aA Tryz.prog 86 [bC p0, .slice (List.map aP p1) .shared, dx p2, .i p3, .i p4] [] (.i r) []
theorem SX (n : Nat) (rec_R1_weigh : Tm → (List S_api_Binding) → (List Str) → Int → Int → Option Int) (hrec_R1_weigh : R1_weigh_S rec_R1_weigh) (p0 : Tm) (p1 : List S_api_Binding) (p2 : List Str) (p3 : Int) (p4 : Int) (r : Int) (h : vT n rec_R1_weigh p0 p1 p2 p3 p4 = some r) : aA Tryz.prog 86 [bC p0, .slice (List.map aP p1) .shared, dx p2, .i p3, .i p4] [] (.i r) [] := by
 unfold vT at h
 refine ah true Tryz.func86 rfl (nt Tryz.ntmps86 rfl) fun Q hQ t ht => ?_
 conv at ht => whnf
 subst ht
 refine .q fun K1 k1 => rg 1 ?_
 refine k1 _ _ ?_
 refine .q fun K2 k2 => ?_
 obtain ⟨o2, hj1, h⟩ := ob h
 have hR1 : ∀ s1 : Unit, o2 = .nx s1 → ∀ t9 h9, Le 0 t9 h9 (.unk :: (.slice (List.map aP p1) .shared :: (dx p2 :: (.i p3 :: (.i p4 :: (.ptr 0 0 :: (u64 (u16 (u8 (.unk :: [])))))))))) [.box [.i p0.op, .str p0.name, .i p0.n, .i p0.ty.kind, .str p0.ty.name, aH p0.ty.kids, bn p0.kids]] → K2 t9 h9 := by
  intro s1 ho
  subst ho
  dsimp only [LR.el] at h
  intro t9 h9 hw
  refine k2 _ _ (AW.le hw ?_)
  clear hw
  refine .q fun K3 k3 => rg 0 ?_
  refine ⟨(IntKind.wrap .i64 (p3 + 1)), rfl, ?_⟩
  refine k3 _ _ ?_
  refine .q fun K4 k4 => .q fun K5 k5 => ?_
  obtain ⟨s2, hj2, h⟩ := ob h
  have hR2 : ∀ t9 h9, Le 0 t9 h9 (.unk :: (.slice (List.map aP p1) .shared :: (dx p2 :: (.i (IntKind.wrap .i64 (p3 + 1)) :: (.i p4 :: (.ptr 0 0 :: (u32 (u16 (u4 (u2 (.unk :: (.bool s2 :: (u32 (.unk :: [])))))))))))))) [.box [.i p0.op, .str p0.name, .i p0.n, .i p0.ty.kind, .str p0.ty.name, aH p0.ty.kids, bn p0.kids]] → K5 t9 h9 := by
   intro t9 h9 hw
   refine k5 _ _ (AW.le hw ?_)
   clear hw
   refine .aB rfl h (fun hc1 h => ?_) (fun hc1 h => ?_)
   ·refine .q fun K6 k6 => rg 0 ?_
    refine k6 _ _ ?_
    refine .ret ?_
    have e9 := sj h
    subst e9
    refine hQ _ _ _ (aj aC (fun g => rfl) ?_)
    conv => whnf
   refine .skip ?_
   refine k4 _ _ ?_
   refine .q fun K7 k7 => .q fun K8 k8 => rg 0 ?_
   refine k8 _ _ ?_
   refine .block ?_
   obtain ⟨o1, ho1, h⟩ := ob h
   have hR3 : ∀ s4 : Int, o1 = .nx s4 → ∀ t9 h9, Le 0 t9 h9 (u2 (.unk :: (.i s4 :: (u64 (u16 (u8 (u2 (.unk :: [])))))))) [] → K7 t9 h9 := by
    intro s4 ho
    subst ho
    dsimp only [LR.el] at h
    intro t9 h9 hw
    refine k7 _ _ (AW.le hw ?_)
    refine .q fun K9 k9 => rg 0 ?_
    refine k9 _ _ ?_
    refine .ret ?_
    have e9 := sj h
    subst e9
    refine hQ _ _ _ (aj aC (fun g => rfl) ?_)
    conv => whnf
   refine .loopS (yQ n rec_R1_weigh p0 p1 p2 p4) (fun (s3 : Int × Int) => (.unk :: (.slice (List.map aP p1) .shared :: (dx p2 :: (.i s3.1 :: (.i p4 :: (.ptr 0 0 :: (u8 (.unk :: (.i s3.2 :: (u64 (u8 (u4 (u2 (.unk :: []))))))))))))))) (fun (s3 : Int × Int) => [.box [.i p0.op, .str p0.name, .i p0.n, .i p0.ty.kind, .str p0.ty.name, aH p0.ty.kids, bn p0.kids]]) ho1 (fun _ => rfl) (li (.u (.s (.s (.s (.s (.s (.u8 (.u (.s (.u16 (.u16 (.u16 (.u16 (.u8 (.u4 (.u2 (.u .n)))))))))))))))))) ?_
   intro n1 s3 hs1 KL1 hKL1
   unfold yQ at hs1
   refine .q fun K10 k10 => .q fun K11 k11 => rg 0 ?_
   refine bB (l := p0.kids) (f := aO) ?_
   refine k11 _ _ ?_
   refine .aB rfl hs1 (fun hc2 hs1 => ?_) (fun hc2 hs1 => ?_)
   ·refine .skip ?_
    refine k10 _ _ ?_
    refine .q fun K12 k12 => ?_
    refine .block ?_
    refine .q fun K13 k13 => rg 0 ?_
    refine k13 _ _ ?_
    refine .q fun K14 k14 => ?_
    obtain ⟨s5, hj3, hs1⟩ := ob hs1
    have hR4 : ∀ t9 h9, Le 0 t9 h9 (.unk :: (.slice (List.map aP p1) .shared :: (dx p2 :: (.i s3.1 :: (.i p4 :: (.ptr 0 0 :: (u8 (.unk :: (.i s3.2 :: (dx s5 :: (u64 (u8 (u4 (u2 [])))))))))))))) [.box [.i p0.op, .str p0.name, .i p0.n, .i p0.ty.kind, .str p0.ty.name, aH p0.ty.kids, bn p0.kids]] → K14 t9 h9 := by
     intro t9 h9 hw
     refine k14 _ _ (AW.le hw ?_)
     clear hw
     refine .q fun K15 k15 => rg 0 ?_
     obtain ⟨x1, hx1, hs1⟩ := ob hs1
     refine aI (l := p0.kids) (f := aO) (cs := [.i ((x1).op), .str ((x1).name), .i ((x1).n), .i (((x1).ty).kind), .str (((x1).ty).name), aH (((x1).ty).kids), bn ((x1).kids)]) hx1 (aR x1) rfl ?_
     refine ⟨(IntKind.wrap .i64 (p4 + 1)), rfl, ?_⟩
     obtain ⟨x2, hx2, hs1⟩ := ob hs1
     refine ak (hrec_R1_weigh _ _ _ _ _ _ hx2) ahk (.cons (.same _) (.cons (.same _) (.cons (.same _) (.cons (.same _) (.cons (.same _) .nil))))) (fun g => by simp) (fun g => rfl) ?_
     refine k15 _ _ ?_
     refine .q fun K16 k16 => rg 0 ?_
     refine k16 _ _ ?_
     refine .aB rfl hs1 (fun hc3 hs1 => ?_) (fun hc3 hs1 => ?_)
     ·refine .q fun K17 k17 => rg 0 ?_
      refine k17 _ _ ?_
      refine .ret ?_
      have e9 := sj hs1
      subst e9
      dsimp only [LR.el] at h
      have e9 := sj h
      subst e9
      refine hQ _ _ _ (aj aC (fun g => rfl) ?_)
      conv => whnf
     refine .skip ?_
     refine k12 _ _ ?_
     refine .know 15 0 fun hv1 => ?_
     refine .know 82 0 fun hv2 => ?_
     refine rg 0 ?_
     refine ⟨(s3.2 + 1), by have := dK hv1; have := fU hv2; have h8 := of_decide_eq_true hc2; exact bI (by omega) (by omega), ?_⟩
     exact hKL1 _ _ _ hs1 (li (.u (.s (.s (.s (.s (.s (.u8 (.u (.s (.u16 (.u16 (.u16 (.u16 (.u8 (.u4 (.u2 (.u .n))))))))))))))))))
    refine .q fun K18 k18 => ?_
    obtain ⟨s6, hj4, hj3⟩ := ob hj3
    have hR5 : ∀ t9 h9, Le 0 t9 h9 (.unk :: (.slice (List.map aP p1) .shared :: (dx p2 :: (.i s3.1 :: (.i p4 :: (.ptr 0 0 :: (u8 (.unk :: (.i s3.2 :: (dx p2 :: (u32 (u16 (u8 (u2 (.unk :: (.bool s6 :: (u16 (u2 [])))))))))))))))))) [.box [.i p0.op, .str p0.name, .i p0.n, .i p0.ty.kind, .str p0.ty.name, aH p0.ty.kids, bn p0.kids]] → K18 t9 h9 := by
     intro t9 h9 hw
     refine k18 _ _ (AW.le hw ?_)
     clear hw
     refine .aB rfl hj3 (fun hc4 hj3 => ?_) (fun hc4 hj3 => ?_)
     ·refine rg 0 ?_
      obtain ⟨x3, hx3, hj3⟩ := ob hj3
      refine cp (U2 _ _ _ _ hx3) adw (.cons (.same _) (.cons (.same _) .nil)) ?_
      cases hj3
      exact hR4 _ _ (li (.u (.s (.s (.s (.s (.s (.u8 (.u (.s (.s (.u16 (.u16 (.u16 (.u16 (.u8 (.u4 (.u2 .n))))))))))))))))))
     refine .skip ?_
     cases hj3
     exact hR4 _ _ (li (.u (.s (.s (.s (.s (.s (.u8 (.u (.s (.s (.u16 (.u16 (.u16 (.u16 (.u8 (.u4 (.u2 .n))))))))))))))))))
    refine rg 0 ?_
    obtain ⟨x4, hx4, hj4⟩ := ob hj4
    refine ak (uS _ _ _ hx4) Jq (.cons (.same _) .nil) (fun g => rfl) (fun g => rfl) ?_
    refine aG hj4 (fun hc5 hj4 => ?_) (fun hc5 hj4 => ?_)
    ·cases hj4
     exact hR5 _ _ (li (.u (.s (.s (.s (.s (.s (.u8 (.u (.s (.s (.u16 (.u16 (.u16 (.u8 (.u2 (.u (.s (.u16 (.u2 .n))))))))))))))))))))
    cases hj4
    exact hR5 _ _ (li (.u (.s (.s (.s (.s (.s (.u8 (.u (.s (.s (.u16 (.u16 (.u16 (.u8 (.u2 (.u (.s (.u16 (.u2 .n))))))))))))))))))))
   refine .exit ?_
   exact hR3 _ (sj hs1).symm _ _ (wk [] (.u2 (.u (.c rfl (.u64 (.u16 (.u8 (.u2 (.u .nil)))))))) .nil rfl)
  refine rg 0 ?_
  refine aG hj2 (fun hc6 hj2 => ?_) (fun hc6 hj2 => ?_)
  ·cases hj2
   exact hR2 _ _ (li (.u (.s (.s (.s (.s (.s (.u16 (.u16 (.u16 (.u4 (.u2 (.u (.s (.u16 (.u16 (.u .n)))))))))))))))))
  cases hj2
  exact hR2 _ _ (li (.u (.s (.s (.s (.s (.s (.u16 (.u16 (.u16 (.u4 (.u2 (.u (.s (.u16 (.u16 (.u .n)))))))))))))))))
 refine .q fun K19 k19 => ?_
 obtain ⟨s7, hj5, hj1⟩ := ob hj1
 have hR6 : ∀ t9 h9, Le 0 t9 h9 (.unk :: (.slice (List.map aP p1) .shared :: (dx p2 :: (.i p3 :: (.i p4 :: (.ptr 0 0 :: (u16 (u4 (.bool s7 :: (u64 (u4 []))))))))))) [.box [.i p0.op, .str p0.name, .i p0.n, .i p0.ty.kind, .str p0.ty.name, aH p0.ty.kids, bn p0.kids]] → K19 t9 h9 := by
  intro t9 h9 hw
  refine k19 _ _ (AW.le hw ?_)
  clear hw
  refine .aB rfl hj1 (fun hc7 hj1 => ?_) (fun hc7 hj1 => ?_)
  ·refine .q fun K20 k20 => rg 1 ?_
   obtain ⟨x5, hx5, hj1⟩ := ob hj1
   refine cp (Ba _ _ _ _ hx5) WT (.cons (.same _) (.cons (.same _) .nil)) ?_
   refine k20 _ _ ?_
   refine .q fun K21 k21 => rg 0 ?_
   refine k21 _ _ ?_
   refine .aB rfl hj1 (fun hc8 hj1 => ?_) (fun hc8 hj1 => ?_)
   ·refine .q fun K22 k22 => rg 0 ?_
    obtain ⟨x6, hx6, hj1⟩ := ob hj1
    refine cp (afI _ _ _ hx6) akm (.cons (.same _) .nil) ?_
    refine k22 _ _ ?_
    refine .q fun K23 k23 => .q fun K24 k24 => ?_
    obtain ⟨s8, hj6, hj1⟩ := ob hj1
    have hR7 : ∀ t9 h9, Le 0 t9 h9 (u2 (.unk :: (.i p3 :: (u8 (.unk :: (.i x6.1 :: (u32 (u4 (.bool s8 :: (u32 (u8 (u4 [])))))))))))) [] → K24 t9 h9 := by
     intro t9 h9 hw
     refine k24 _ _ (AW.le hw ?_)
     clear hw
     refine .aB rfl hj1 (fun hc9 hj1 => ?_) (fun hc9 hj1 => ?_)
     ·refine .q fun K25 k25 => rg 0 ?_
      refine k25 _ _ ?_
      refine .ret ?_
      have e9 := sj hj1
      subst e9
      dsimp only [LR.el] at h
      have e9 := sj h
      subst e9
      refine hQ _ _ _ (aj aC (fun g => rfl) ?_)
      conv => whnf
     refine .skip ?_
     refine k23 _ _ ?_
     refine .q fun K26 k26 => rg 0 ?_
     refine ⟨(IntKind.wrap .i64 (p3 + x6.1)), rfl, ?_⟩
     refine k26 _ _ ?_
     refine .ret ?_
     have e9 := sj hj1
     subst e9
     dsimp only [LR.el] at h
     have e9 := sj h
     subst e9
     refine hQ _ _ _ (aj aC (fun g => rfl) ?_)
     conv => whnf
    refine rg 0 ?_
    refine ⟨(IntKind.wrap .i64 (p3 + x6.1)), rfl, ?_⟩
    refine aG hj6 (fun hc10 hj6 => ?_) (fun hc10 hj6 => ?_)
    ·cases hj6
     exact hR7 _ _ (wk [] (.u2 (.u (.c rfl (.u8 (.u (.c rfl (.u32 (.u4 (.c rfl (.u32 (.u8 (.u4 .nil)))))))))))) .nil rfl)
    refine ⟨(IntKind.wrap .i64 (p4 + x6.2)), rfl, ?_⟩
    refine ⟨(IntKind.wrap .i64 ((IntKind.wrap .i64 (p4 + x6.2)) - 1)), rfl, ?_⟩
    cases hj6
    exact hR7 _ _ (wk [] (.u2 (.u (.c rfl (.u8 (.u (.c rfl (.u32 (.u4 (.c rfl (.u32 (.u8 (.u4 .nil)))))))))))) .nil rfl)
   refine .skip ?_
   exact hR1 _ (sj hj1).symm _ _ (wk [some 0] (.u (.e bZ (.e bf (.c rfl (.c rfl (.c rfl (.u64 (.u16 (.u8 (.u .nil)))))))))) (.b rfl (.c rfl (.c rfl (.c rfl (.c rfl (.c rfl (.e aD (.e aM .nil))))))) .nil) rfl)
  refine .skip ?_
  exact hR1 _ (sj hj1).symm _ _ (li (.u (.s (.s (.s (.s (.s (.u16 (.u16 (.u16 (.u16 (.u16 (.u8 (.u .n))))))))))))))
 refine rg 0 ?_
 refine aG hj5 (fun hc11 hj5 => ?_) (fun hc11 hj5 => ?_)
 ·obtain ⟨x7, hx7, hj5⟩ := ob hj5
  refine ak (vP _ _ _ _ hx7) Bo (.cons (.same _) (.cons (.same _) .nil)) (fun g => by simp) (fun g => rfl) ?_
  cases hj5
  exact hR6 _ _ (li (.u (.s (.s (.s (.s (.s (.u16 (.u4 (.s (.u16 (.u16 (.u16 (.u16 (.u4 .n)))))))))))))))
 cases hj5
 exact hR6 _ _ (li (.u (.s (.s (.s (.s (.s (.u16 (.u4 (.s (.u16 (.u16 (.u16 (.u16 (.u4 .n)))))))))))))))
theorem ab4 (n : Nat) : R1_weigh_S (rO n) := by
 induction n with
 | zero => exact (fun p0 p1 p2 p3 p4 r h => by unfold rO at h; cases h)
 | succ n ih =>
  exact (fun p0 p1 p2 p3 p4 r h => SX n _ ih p0 p1 p2 p3 p4 r (by unfold rO at h; exact h))
theorem acY (n : Nat) : R1_weigh_S (rO n) := (ab4 n)
end Abs
end Go.Proofs.YtiiaccpcoclklaaGreat
