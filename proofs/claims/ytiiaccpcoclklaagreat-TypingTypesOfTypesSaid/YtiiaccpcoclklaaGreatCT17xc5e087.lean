/-
  Plain functions and the contracts of Go functions by them (printed by gen.py). Conditions: none. More structures of the program (printed by gen.py). Conditions: none.
-/
import Derived.KernelRfl
import Derived.Test.YtiiaccpcoclklaaGreatCAbs38xf390fb
import Derived.Test.YtiiaccpcoclklaaGreatCDfxb0d24e
import Derived.Test.YtiiaccpcoclklaaGreatCDgx37bbb7
import Derived.Test.YtiiaccpcoclklaaGreatCT16x7693fd
set_option linter.unusedSimpArgs false
set_option linter.unusedVariables false
namespace Go.Proofs.YtiiaccpcoclklaaGreat
namespace Abs
open Go Go.Proofs
set_option maxRecDepth 100000
set_option maxHeartbeats 40000000
theorem R1_Named_ok (n : Nat) (p0 : Str) (r : Bool) (h : R1_Named n p0 = some r) : ACalls Tryz.prog 116 [.str p0] [] (.bool r) [] := by
 unfold R1_Named at h
 refine acalls_start true Tryz.func116 rfl (nt Tryz.ntmps116 rfl) fun Q hQ t ht => ?_
 conv at ht => whnf
 subst ht
 refine .q fun K1 k1 => rg 0 ?_
 refine k1 _ _ ?_
 refine .q fun K2 k2 => ?_
 obtain ⟨s1, hj1, h⟩ := ob h
 have hR1 : ∀ t9 h9, Le 0 t9 h9 (u2 (.bool s1 :: (u4 (u2 [])))) [] → K2 t9 h9 := by
  intro t9 h9 hw
  refine k2 _ _ (AW.le hw ?_)
  clear hw
  refine .ret ?_
  have e9 := sj h
  subst e9
  refine hQ _ _ _ (retPure τ_ok (fun g => rfl) ?_)
  conv => whnf
 refine rg 0 ?_
 obtain ⟨x1, hx1, hj1⟩ := ob hj1
 refine call_pur (R1_Identifier_ok _ _ _ hx1) okF_58 (.cons (.same _) .nil) (fun g => rfl) (fun g => rfl) ?_
 refine onB_cond hj1 (fun hc1 hj1 => ?_) (fun hc1 hj1 => ?_)
 ·cases hj1
  exact hR1 _ _ (li (.u2 (.s (.u4 (.u2 .n)))))
 ·obtain ⟨x2, hx2, hj1⟩ := ob hj1
  refine call_pur (R1_Primed_ok _ _ _ hx2) okF_190 (.cons (.same _) .nil) (fun g => rfl) (fun g => rfl) ?_
  cases hj1
  exact hR1 _ _ (li (.u2 (.s (.u4 (.u2 .n)))))
abbrev R1_typed_S (rec_R1_typed : Ty → Int → Int → Option Int) : Prop := ∀ (p0 : Ty) (p1 : Int) (p2 : Int) (r : Int), rec_R1_typed p0 p1 p2 = some r → ACalls Tryz.prog 94 [aTy p0, .i p1, .i p2] [] (.i r) []
theorem R1_typed_body_ok (n : Nat) (rec_R1_typed : Ty → Int → Int → Option Int) (hrec_R1_typed : R1_typed_S rec_R1_typed) (p0 : Ty) (p1 : Int) (p2 : Int) (r : Int) (h : R1_typed_body n rec_R1_typed p0 p1 p2 = some r) : ACalls Tryz.prog 94 [aTy p0, .i p1, .i p2] [] (.i r) [] := by
 unfold R1_typed_body at h
 refine acalls_start true Tryz.func94 rfl (nt Tryz.ntmps94 rfl) fun Q hQ t ht => ?_
 conv at ht => whnf
 subst ht
 refine .q fun K1 k1 => rg 1 ?_
 refine k1 _ _ ?_
 refine .q fun K2 k2 => rg 0 ?_
 refine ⟨(IntKind.wrap .i64 (p2 + 1)), rfl, ?_⟩
 refine k2 _ _ ?_
 refine .q fun K3 k3 => .q fun K4 k4 => ?_
 obtain ⟨s1, hj1, h⟩ := ob h
 have hR1 : ∀ t9 h9, Le 0 t9 h9 (.unk :: (.i p1 :: (.i (IntKind.wrap .i64 (p2 + 1)) :: (.ptr 0 0 :: (u16 (u4 (.unk :: (.bool s1 :: (u32 (u16 (u4 (u2 (.unk :: []))))))))))))) [.box [.i p0.kind, .str p0.name, sTy p0.kids]] → K4 t9 h9 := by
  intro t9 h9 hw
  refine k4 _ _ (AW.le hw ?_)
  clear hw
  refine .condS rfl h (fun hc1 h => ?_) (fun hc1 h => ?_)
  ·refine .q fun K5 k5 => rg 0 ?_
   refine k5 _ _ ?_
   refine .ret ?_
   have e9 := sj h
   subst e9
   refine hQ _ _ _ (retPure τ_ok (fun g => rfl) ?_)
   conv => whnf
  ·refine .skip ?_
   refine k3 _ _ ?_
   refine .q fun K6 k6 => rg 0 ?_
   refine k6 _ _ ?_
   refine .q fun K7 k7 => ?_
   obtain ⟨o2, hj2, h⟩ := ob h
   have hR2 : ∀ s2 : Int, o2 = .nx s2 → ∀ t9 h9, Le 0 t9 h9 (.unk :: (.i p1 :: (.i (IntKind.wrap .i64 (p2 + 1)) :: (.ptr 0 0 :: (u2 (.unk :: (.i s2 :: (u64 (u8 (.unk :: [])))))))))) [.box [.i p0.kind, .str p0.name, sTy p0.kids]] → K7 t9 h9 := by
    intro s2 ho
    subst ho
    dsimp only [LR.el] at h
    intro t9 h9 hw
    refine k7 _ _ (AW.le hw ?_)
    clear hw
    refine .q fun K8 k8 => .q fun K9 k9 => ?_
    obtain ⟨s3, hj3, h⟩ := ob h
    have hR3 : ∀ t9 h9, Le 0 t9 h9 (.unk :: (.i p1 :: (.i (IntKind.wrap .i64 (p2 + 1)) :: (.ptr 0 0 :: (u32 (u16 (u8 (.unk :: (.bool s3 :: (u16 (u2 (.unk :: [])))))))))))) [.box [.i p0.kind, .str p0.name, sTy p0.kids]] → K9 t9 h9 := by
     intro t9 h9 hw
     refine k9 _ _ (AW.le hw ?_)
     clear hw
     refine .condS rfl h (fun hc2 h => ?_) (fun hc2 h => ?_)
     ·refine .q fun K10 k10 => rg 0 ?_
      refine k10 _ _ ?_
      refine .ret ?_
      have e9 := sj h
      subst e9
      refine hQ _ _ _ (retPure τ_ok (fun g => rfl) ?_)
      conv => whnf
     ·refine .skip ?_
      refine k8 _ _ ?_
      refine .q fun K11 k11 => .q fun K12 k12 => rg 0 ?_
      refine k12 _ _ ?_
      refine .block ?_
      obtain ⟨o1, ho1, h⟩ := ob h
      have hR4 : ∀ s5 : Int, o1 = .nx s5 → ∀ t9 h9, Le 0 t9 h9 (u2 (.i s5 :: (u64 (u8 (u4 (u2 [])))))) [] → K11 t9 h9 := by
       intro s5 ho
       subst ho
       dsimp only [LR.el] at h
       intro t9 h9 hw
       refine k11 _ _ (AW.le hw ?_)
       refine .q fun K13 k13 => rg 0 ?_
       refine k13 _ _ ?_
       refine .ret ?_
       have e9 := sj h
       subst e9
       refine hQ _ _ _ (retPure τ_ok (fun g => rfl) ?_)
       conv => whnf
      refine .loopS (R1_typed_L0 n rec_R1_typed p0 p1) (fun (s4 : Int × Int) => (.unk :: (.i p1 :: (.i s4.1 :: (.ptr 0 0 :: (u4 (.i s4.2 :: (u64 (u8 []))))))))) (fun (s4 : Int × Int) => [.box [.i p0.kind, .str p0.name, sTy p0.kids]]) ho1 (fun _ => rfl) (li (.u (.s (.s (.s (.u4 (.s (.u16 (.u16 (.u16 (.u16 (.u8 .n)))))))))))) ?_
      intro n1 s4 hs1 KL1 hKL1
      unfold R1_typed_L0 at hs1
      refine .q fun K14 k14 => .q fun K15 k15 => rg 0 ?_
      refine len_of (l := p0.kids) (f := encTy) ?_
      refine k15 _ _ ?_
      refine .condS rfl hs1 (fun hc3 hs1 => ?_) (fun hc3 hs1 => ?_)
      ·refine .skip ?_
       refine k14 _ _ ?_
       refine .q fun K16 k16 => ?_
       refine .block ?_
       refine .q fun K17 k17 => rg 0 ?_
       obtain ⟨x1, hx1, hs1⟩ := ob hs1
       refine idx_of (l := p0.kids) (f := encTy) (cs := [.i ((x1).kind), .str ((x1).name), sTy ((x1).kids)]) hx1 (encTy_eq x1) rfl ?_
       refine ⟨(IntKind.wrap .i64 (p1 + 1)), rfl, ?_⟩
       obtain ⟨x2, hx2, hs1⟩ := ob hs1
       refine call_pur (hrec_R1_typed _ _ _ _ hx2) okF_94 (.cons (.same _) (.cons (.same _) (.cons (.same _) .nil))) (fun g => by simp) (fun g => rfl) ?_
       refine k17 _ _ ?_
       refine .q fun K18 k18 => rg 0 ?_
       refine k18 _ _ ?_
       refine .condS rfl hs1 (fun hc4 hs1 => ?_) (fun hc4 hs1 => ?_)
       ·refine .q fun K19 k19 => rg 0 ?_
        refine k19 _ _ ?_
        refine .ret ?_
        have e9 := sj hs1
        subst e9
        dsimp only [LR.el] at h
        have e9 := sj h
        subst e9
        refine hQ _ _ _ (retPure τ_ok (fun g => rfl) ?_)
        conv => whnf
       ·refine .skip ?_
        refine k16 _ _ ?_
        refine .know 8 0 fun hv1 => ?_
        refine .know 64 0 fun hv2 => ?_
        refine rg 0 ?_
        refine ⟨(s4.2 + 1), by have := wf64 hv1; have := vfl hv2; have h8 := of_decide_eq_true hc3; exact w64_id (by omega) (by omega), ?_⟩
        exact hKL1 _ _ _ hs1 (li (.u (.s (.s (.s (.u4 (.s (.u16 (.u16 (.u16 (.u16 (.u8 .n))))))))))))
      ·refine .exit ?_
       exact hR4 _ (sj hs1).symm _ _ (wk [] (.u2 (.c rfl (.u64 (.u8 (.u4 (.u2 .nil)))))) .nil rfl)
    refine rg 0 ?_
    refine len_of (l := p0.kids) (f := encTy) ?_
    refine onB_cond hj3 (fun hc5 hj3 => ?_) (fun hc5 hj3 => ?_)
    ·cases hj3
     exact hR3 _ _ (li (.u (.s (.s (.s (.u16 (.u16 (.u16 (.u8 (.u (.s (.u16 (.u2 (.u .n))))))))))))))
    ·refine onB_cond hj3 (fun hc6 hj3 => ?_) (fun hc6 hj3 => ?_)
     ·obtain ⟨x3, hx3, hj3⟩ := ob hj3
      refine call_pur (R1_Identifier_ok _ _ _ hx3) okF_58 (.cons (.same _) .nil) (fun g => rfl) (fun g => rfl) ?_
      refine onB_cond hj3 (fun hc7 hj3 => ?_) (fun hc7 hj3 => ?_)
      ·cases hj3
       exact hR3 _ _ (li (.u (.s (.s (.s (.u16 (.u16 (.u16 (.u8 (.u (.s (.u16 (.u2 (.u .n))))))))))))))
      ·refine onB_cond hj3 (fun hc8 hj3 => ?_) (fun hc8 hj3 => ?_)
       ·cases hj3
        exact hR3 _ _ (li (.u (.s (.s (.s (.u16 (.u16 (.u16 (.u8 (.u (.s (.u16 (.u2 (.u .n))))))))))))))
       ·cases hj3
        exact hR3 _ _ (li (.u (.s (.s (.s (.u16 (.u16 (.u16 (.u8 (.u (.s (.u16 (.u2 (.u .n))))))))))))))
     ·refine onB_cond hj3 (fun hc9 hj3 => ?_) (fun hc9 hj3 => ?_)
      ·cases hj3
       exact hR3 _ _ (li (.u (.s (.s (.s (.u16 (.u16 (.u16 (.u8 (.u (.s (.u16 (.u2 (.u .n))))))))))))))
      ·cases hj3
       exact hR3 _ _ (li (.u (.s (.s (.s (.u16 (.u16 (.u16 (.u8 (.u (.s (.u16 (.u2 (.u .n))))))))))))))
   refine .q fun K20 k20 => rg 0 ?_
   refine k20 _ _ ?_
   refine .block ?_
   refine .q fun K21 k21 => ?_
   obtain ⟨s6, hj4, hj2⟩ := ob hj2
   have hR5 : ∀ t9 h9, Le 0 t9 h9 (.unk :: (.i p1 :: (.i (IntKind.wrap .i64 (p2 + 1)) :: (.ptr 0 0 :: (u2 (.unk :: (.i 0 :: (u16 (u2 (.unk :: (.i p0.kind :: (.bool s6 :: (u32 (u16 (u4 []))))))))))))))) [.box [.i p0.kind, .str p0.name, sTy p0.kids]] → K21 t9 h9 := by
    intro t9 h9 hw
    refine k21 _ _ (AW.le hw ?_)
    clear hw
    refine .condS rfl hj2 (fun hc10 hj2 => ?_) (fun hc10 hj2 => ?_)
    ·refine .skip ?_
     exact hR2 _ (sj hj2).symm _ _ (li (.u (.s (.s (.s (.u2 (.u (.s (.u16 (.u16 (.u16 (.u16 (.u8 (.u .n))))))))))))))
    ·refine .q fun K22 k22 => rg 0 ?_
     refine k22 _ _ ?_
     refine .condS rfl hj2 (fun hc11 hj2 => ?_) (fun hc11 hj2 => ?_)
     ·refine rg 0 ?_
      exact hR2 _ (sj hj2).symm _ _ (li (.u (.s (.s (.s (.u2 (.u (.s (.u16 (.u16 (.u16 (.u16 (.u8 (.u .n))))))))))))))
     ·refine .q fun K23 k23 => rg 0 ?_
      refine k23 _ _ ?_
      refine .condS rfl hj2 (fun hc12 hj2 => ?_) (fun hc12 hj2 => ?_)
      ·refine rg 0 ?_
       exact hR2 _ (sj hj2).symm _ _ (li (.u (.s (.s (.s (.u2 (.u (.s (.u16 (.u16 (.u16 (.u16 (.u8 (.u .n))))))))))))))
      ·refine .q fun K24 k24 => rg 0 ?_
       refine k24 _ _ ?_
       refine .ret ?_
       have e9 := sj hj2
       subst e9
       dsimp only [LR.el] at h
       have e9 := sj h
       subst e9
       refine hQ _ _ _ (retPure τ_ok (fun g => rfl) ?_)
       conv => whnf
   refine .q fun K25 k25 => rg 0 ?_
   refine k25 _ _ ?_
   refine .condS rfl hj4 (fun hc13 hj4 => ?_) (fun hc13 hj4 => ?_)
   ·refine .skip ?_
    cases hj4
    exact hR5 _ _ (li (.u (.s (.s (.s (.u2 (.u (.s (.u16 (.u2 (.u (.s (.s (.u16 (.u16 (.u16 (.u4 .n)))))))))))))))))
   ·refine .q fun K26 k26 => rg 0 ?_
    refine k26 _ _ ?_
    refine .condS rfl hj4 (fun hc14 hj4 => ?_) (fun hc14 hj4 => ?_)
    ·refine .skip ?_
     cases hj4
     exact hR5 _ _ (li (.u (.s (.s (.s (.u2 (.u (.s (.u16 (.u2 (.u (.s (.s (.u16 (.u16 (.u16 (.u4 .n)))))))))))))))))
    ·refine rg 0 ?_
     cases hj4
     exact hR5 _ _ (li (.u (.s (.s (.s (.u2 (.u (.s (.u16 (.u2 (.u (.s (.s (.u16 (.u16 (.u16 (.u4 .n)))))))))))))))))
 refine rg 0 ?_
 refine onB_cond hj1 (fun hc15 hj1 => ?_) (fun hc15 hj1 => ?_)
 ·cases hj1
  exact hR1 _ _ (li (.u (.s (.s (.s (.u16 (.u4 (.u (.s (.u16 (.u16 (.u16 (.u4 (.u2 (.u .n)))))))))))))))
 ·refine onB_cond hj1 (fun hc16 hj1 => ?_) (fun hc16 hj1 => ?_)
  ·cases hj1
   exact hR1 _ _ (li (.u (.s (.s (.s (.u16 (.u4 (.u (.s (.u16 (.u16 (.u16 (.u4 (.u2 (.u .n)))))))))))))))
  ·refine onB_cond hj1 (fun hc17 hj1 => ?_) (fun hc17 hj1 => ?_)
   ·cases hj1
    exact hR1 _ _ (li (.u (.s (.s (.s (.u16 (.u4 (.u (.s (.u16 (.u16 (.u16 (.u4 (.u2 (.u .n)))))))))))))))
   ·cases hj1
    exact hR1 _ _ (li (.u (.s (.s (.s (.u16 (.u4 (.u (.s (.u16 (.u16 (.u16 (.u4 (.u2 (.u .n)))))))))))))))
theorem R1_typed_all (n : Nat) : R1_typed_S (R1_typed n) := by
 induction n with
 | zero => exact (fun p0 p1 p2 r h => by unfold R1_typed at h; cases h)
 | succ n ih =>
  exact (fun p0 p1 p2 r h => R1_typed_body_ok n _ ih p0 p1 p2 r (by unfold R1_typed at h; exact h))
theorem R1_typed_ok (n : Nat) : R1_typed_S (R1_typed n) := (R1_typed_all n)
theorem R1_ValidType_ok (n : Nat) (p0 : Ty) (r : Bool) (h : R1_ValidType n p0 = some r) : ACalls Tryz.prog 42 [aTy p0] [] (.bool r) [] := by
 unfold R1_ValidType at h
 refine acalls_start true Tryz.func42 rfl (nt Tryz.ntmps42 rfl) fun Q hQ t ht => ?_
 conv at ht => whnf
 subst ht
 refine .q fun K1 k1 => rg 1 ?_
 refine k1 _ _ ?_
 refine .q fun K2 k2 => rg 0 ?_
 obtain ⟨x1, hx1, h⟩ := ob h
 refine call_pur (R1_typed_ok _ _ _ _ _ hx1) okF_94 (.cons (.same _) (.cons (.same _) (.cons (.same _) .nil))) (fun g => by simp) (fun g => rfl) ?_
 refine k2 _ _ ?_
 refine .ret ?_
 have e9 := sj h
 subst e9
 refine hQ _ _ _ (retPure τ_ok (fun g => rfl) ?_)
 conv => whnf
abbrev R2_holdsBool_S (rec_R2_holdsBool : Ty → Option Bool) : Prop := ∀ (p0 : Ty) (r : Bool), rec_R2_holdsBool p0 = some r → ACalls Tryz.prog 99 [aTy p0] [] (.bool r) []
theorem R2_holdsBool_body_ok (n : Nat) (rec_R2_holdsBool : Ty → Option Bool) (hrec_R2_holdsBool : R2_holdsBool_S rec_R2_holdsBool) (p0 : Ty) (r : Bool) (h : R2_holdsBool_body n rec_R2_holdsBool p0 = some r) : ACalls Tryz.prog 99 [aTy p0] [] (.bool r) [] := by
 unfold R2_holdsBool_body at h
 refine acalls_start true Tryz.func99 rfl (nt Tryz.ntmps99 rfl) fun Q hQ t ht => ?_
 conv at ht => whnf
 subst ht
 refine .q fun K1 k1 => rg 1 ?_
 refine k1 _ _ ?_
 refine .q fun K2 k2 => .q fun K3 k3 => rg 0 ?_
 refine k3 _ _ ?_
 refine .condS rfl h (fun hc1 h => ?_) (fun hc1 h => ?_)
 ·refine .q fun K4 k4 => rg 0 ?_
  refine k4 _ _ ?_
  refine .ret ?_
  have e9 := sj h
  subst e9
  refine hQ _ _ _ (retPure τ_ok (fun g => rfl) ?_)
  conv => whnf
 ·refine .skip ?_
  refine k2 _ _ ?_
  refine .q fun K5 k5 => .q fun K6 k6 => rg 0 ?_
  refine k6 _ _ ?_
  refine .block ?_
  obtain ⟨o1, ho1, h⟩ := ob h
  have hR1 : ∀ s2 : Unit, o1 = .nx s2 → ∀ t9 h9, Le 0 t9 h9 (u16 (u4 [])) [] → K5 t9 h9 := by
   intro s2 ho
   subst ho
   dsimp only [LR.el] at h
   intro t9 h9 hw
   refine k5 _ _ (AW.le hw ?_)
   refine .q fun K7 k7 => rg 0 ?_
   refine k7 _ _ ?_
   refine .ret ?_
   have e9 := sj h
   subst e9
   refine hQ _ _ _ (retPure τ_ok (fun g => rfl) ?_)
   conv => whnf
  refine .loopS (R2_holdsBool_L0 n rec_R2_holdsBool p0) (fun (s1 : Int) => (.unk :: (.ptr 0 0 :: (.unk :: (.i s1 :: (u16 [])))))) (fun (s1 : Int) => [.box [.i p0.kind, .str p0.name, sTy p0.kids]]) ho1 (fun _ => rfl) (li (.u (.s (.u (.s (.u16 .n)))))) ?_
  intro n1 s1 hs1 KL1 hKL1
  unfold R2_holdsBool_L0 at hs1
  refine .q fun K8 k8 => .q fun K9 k9 => rg 0 ?_
  refine len_of (l := p0.kids) (f := encTy) ?_
  refine k9 _ _ ?_
  refine .condS rfl hs1 (fun hc2 hs1 => ?_) (fun hc2 hs1 => ?_)
  ·refine .skip ?_
   refine k8 _ _ ?_
   refine .q fun K10 k10 => ?_
   refine .block ?_
   refine .q fun K11 k11 => rg 0 ?_
   obtain ⟨x1, hx1, hs1⟩ := ob hs1
   refine idx_of (l := p0.kids) (f := encTy) (cs := [.i ((x1).kind), .str ((x1).name), sTy ((x1).kids)]) hx1 (encTy_eq x1) rfl ?_
   obtain ⟨x2, hx2, hs1⟩ := ob hs1
   refine call_pur (hrec_R2_holdsBool _ _ hx2) okF_99 (.cons (.same _) .nil) (fun g => by simp) (fun g => rfl) ?_
   refine k11 _ _ ?_
   refine .condS rfl hs1 (fun hc3 hs1 => ?_) (fun hc3 hs1 => ?_)
   ·refine .q fun K12 k12 => rg 0 ?_
    refine k12 _ _ ?_
    refine .ret ?_
    have e9 := sj hs1
    subst e9
    dsimp only [LR.el] at h
    have e9 := sj h
    subst e9
    refine hQ _ _ _ (retPure τ_ok (fun g => rfl) ?_)
    conv => whnf
   ·refine .skip ?_
    refine k10 _ _ ?_
    refine .know 3 0 fun hv1 => ?_
    refine .know 9 0 fun hv2 => ?_
    refine rg 0 ?_
    refine ⟨(s1 + 1), by have := wf64 hv1; have := vfl hv2; have h8 := of_decide_eq_true hc2; exact w64_id (by omega) (by omega), ?_⟩
    exact hKL1 _ _ _ hs1 (li (.u (.s (.u (.s (.u16 .n))))))
  ·refine .exit ?_
   exact hR1 _ (sj hs1).symm _ _ (wk [] (.u16 (.u4 .nil)) .nil rfl)
theorem R2_holdsBool_all (n : Nat) : R2_holdsBool_S (R2_holdsBool n) := by
 induction n with
 | zero => exact (fun p0 r h => by unfold R2_holdsBool at h; cases h)
 | succ n ih =>
  exact (fun p0 r h => R2_holdsBool_body_ok n _ ih p0 r (by unfold R2_holdsBool at h; exact h))
theorem R2_holdsBool_ok (n : Nat) : R2_holdsBool_S (R2_holdsBool n) := (R2_holdsBool_all n)
abbrev R2_carriers_S (rec_R2_carriers : Ty → Option (List Str)) : Prop := ∀ (p0 : Ty) (r : List Str), rec_R2_carriers p0 = some r → ACalls Tryz.prog 107 [aTy p0] [] (sSt r) []
theorem R2_carriers_body_ok (n : Nat) (rec_R2_carriers : Ty → Option (List Str)) (hrec_R2_carriers : R2_carriers_S rec_R2_carriers) (p0 : Ty) (r : List Str) (h : R2_carriers_body n rec_R2_carriers p0 = some r) : ACalls Tryz.prog 107 [aTy p0] [] (sSt r) [] := by
 unfold R2_carriers_body at h
 refine acalls_start true Tryz.func107 rfl (nt Tryz.ntmps107 rfl) fun Q hQ t ht => ?_
 conv at ht => whnf
 subst ht
 refine .q fun K1 k1 => rg 1 ?_
 refine k1 _ _ ?_
 refine .q fun K2 k2 => .q fun K3 k3 => rg 0 ?_
 refine k3 _ _ ?_
 refine .condS rfl h (fun hc1 h => ?_) (fun hc1 h => ?_)
 ·refine .q fun K4 k4 => rg 1 ?_
  refine ⟨List.map encS ([p0.name]), rfl, ?_⟩
  refine k4 _ _ ?_
  refine .ret ?_
  have e9 := sj h
  subst e9
  refine hQ _ _ _ (retPure τ_ok (fun g => by simp) ?_)
  conv => whnf
  try rfl
 ·refine .skip ?_
  refine k2 _ _ ?_
  refine .q fun K5 k5 => rg 0 ?_
  refine k5 _ _ ?_
  refine .q fun K6 k6 => .q fun K7 k7 => rg 0 ?_
  refine k7 _ _ ?_
  refine .block ?_
  obtain ⟨o1, ho1, h⟩ := ob h
  have hR1 : ∀ s2 : List Str, o1 = .nx s2 → ∀ t9 h9, Le 0 t9 h9 (u2 (.unk :: (.slice (List.map encS s2) (.tip 0 1) :: (u16 (u4 (u2 (.unk :: []))))))) [.tip (List.length s2 * 1)] → K6 t9 h9 := by
   intro s2 ho
   subst ho
   dsimp only [LR.el] at h
   intro t9 h9 hw
   refine k6 _ _ (AW.le hw ?_)
   refine .q fun K8 k8 => rg 0 ?_
   refine k8 _ _ ?_
   refine .ret ?_
   have e9 := sj h
   subst e9
   refine hQ _ _ _ (retPure τ_ok (fun g => by simp) ?_)
   conv => whnf
   try rfl
  refine .loopS (R2_carriers_L0 n rec_R2_carriers p0) (fun (s1 : (List Str) × Int) => (.unk :: (.ptr 0 0 :: (.unk :: (.slice (List.map encS s1.1) (.tip 1 1) :: (.i s1.2 :: (u16 (u4 (u2 []))))))))) (fun (s1 : (List Str) × Int) => [.box [.i p0.kind, .str p0.name, sTy p0.kids], .tip (List.length s1.1 * 1)]) ho1 (fun _ => rfl) (wk [some 0, none] (.u (.c rfl (.u (.cons (.nils _ _) (.c rfl (.u16 (.u4 (.u2 .nil)))))))) (.b rfl (.c rfl (.c rfl (.e renl_Ty .nil))) (.w rfl .nil)) rfl) ?_
  intro n1 s1 hs1 KL1 hKL1
  unfold R2_carriers_L0 at hs1
  refine .q fun K9 k9 => .q fun K10 k10 => rg 0 ?_
  refine len_of (l := p0.kids) (f := encTy) ?_
  refine k10 _ _ ?_
  refine .condS rfl hs1 (fun hc2 hs1 => ?_) (fun hc2 hs1 => ?_)
  ·refine .skip ?_
   refine k9 _ _ ?_
   refine .q fun K11 k11 => ?_
   refine .block ?_
   refine rg 1 ?_
   obtain ⟨x1, hx1, hs1⟩ := ob hs1
   refine idx_of (l := p0.kids) (f := encTy) (cs := [.i ((x1).kind), .str ((x1).name), sTy ((x1).kids)]) hx1 (encTy_eq x1) rfl ?_
   obtain ⟨x2, hx2, hs1⟩ := ob hs1
   refine cp (hrec_R2_carriers _ _ hx2) okF_107 (.cons (.same _) .nil) ?_
   obtain ⟨x3, hx3, hs1⟩ := ob hs1
   refine app_tip (l := s1.1) (ys := x2) (f := encS) hx3 ok_S rfl rfl rfl ?_
   refine k11 _ _ ?_
   refine .know 4 0 fun hv1 => ?_
   refine .know 13 0 fun hv2 => ?_
   refine rg 0 ?_
   refine ⟨(s1.2 + 1), by have := wf64 hv1; have := vfl hv2; have h8 := of_decide_eq_true hc2; exact w64_id (by omega) (by omega), ?_⟩
   exact hKL1 _ _ _ hs1 (wk [some 0, some 2] (.u (.c rfl (.u (.cons (.tipS (renl_S _ _) rfl) (.c rfl (.u16 (.u4 (.u2 .nil)))))))) (.b rfl (.c rfl (.c rfl (.e renl_Ty .nil))) (.t rfl .nil)) rfl)
  ·refine .exit ?_
   exact hR1 _ (sj hs1).symm _ _ (wk [some 1] (.u2 (.u (.cons (.tipS (renl_S _ _) rfl) (.u16 (.u4 (.u2 (.u .nil))))))) (.t rfl .nil) rfl)
theorem R2_carriers_all (n : Nat) : R2_carriers_S (R2_carriers n) := by
 induction n with
 | zero => exact (fun p0 r h => by unfold R2_carriers at h; cases h)
 | succ n ih =>
  exact (fun p0 r h => R2_carriers_body_ok n _ ih p0 r (by unfold R2_carriers at h; exact h))
theorem R2_carriers_ok (n : Nat) : R2_carriers_S (R2_carriers n) := (R2_carriers_all n)
theorem R2_FindCarrier_ok (n : Nat) (p0 : Env) (p1 : Str) (r : Int) (h : R2_FindCarrier n p0 p1 = some r) : ACalls Tryz.prog 128 [aEnv p0, .str p1] [] (.i r) [] := by
 unfold R2_FindCarrier at h
 refine acalls_start true Tryz.func128 rfl (nt Tryz.ntmps128 rfl) fun Q hQ t ht => ?_
 conv at ht => whnf
 subst ht
 refine .q fun K1 k1 => rg 1 ?_
 refine k1 _ _ ?_
 refine .q fun K2 k2 => .q fun K3 k3 => rg 0 ?_
 refine k3 _ _ ?_
 refine .block ?_
 obtain ⟨o1, ho1, h⟩ := ob h
 have hR1 : ∀ s2 : Unit, o1 = .nx s2 → ∀ t9 h9, Le 0 t9 h9 (u16 (u4 (u2 []))) [] → K2 t9 h9 := by
  intro s2 ho
  subst ho
  dsimp only [LR.el] at h
  intro t9 h9 hw
  refine k2 _ _ (AW.le hw ?_)
  refine .q fun K4 k4 => rg 0 ?_
  refine k4 _ _ ?_
  refine .ret ?_
  have e9 := sj h
  subst e9
  refine hQ _ _ _ (retPure τ_ok (fun g => rfl) ?_)
  conv => whnf
 refine .loopS (R2_FindCarrier_L0 n p0 p1) (fun (s1 : Int) => (.unk :: (.str p1 :: (.ptr 0 0 :: (u2 (.i s1 :: (u16 []))))))) (fun (s1 : Int) => [.box [sCa p0.carriers, sDe p0.names]]) ho1 (fun _ => rfl) (li (.u (.s (.s (.u2 (.s (.u16 .n))))))) ?_
 intro n1 s1 hs1 KL1 hKL1
 unfold R2_FindCarrier_L0 at hs1
 refine .q fun K5 k5 => .q fun K6 k6 => rg 0 ?_
 refine len_of (l := p0.carriers) (f := encCarrier) ?_
 refine k6 _ _ ?_
 refine .condS rfl hs1 (fun hc1 hs1 => ?_) (fun hc1 hs1 => ?_)
 ·refine .skip ?_
  refine k5 _ _ ?_
  refine .q fun K7 k7 => ?_
  refine .block ?_
  refine .q fun K8 k8 => rg 0 ?_
  obtain ⟨x1, hx1, hs1⟩ := ob hs1
  refine idx_of (l := p0.carriers) (f := encCarrier) (cs := [.str ((x1).name), sSt ((x1).elems)]) hx1 (rfl) rfl ?_
  refine k8 _ _ ?_
  refine .condS rfl hs1 (fun hc2 hs1 => ?_) (fun hc2 hs1 => ?_)
  ·refine .q fun K9 k9 => rg 0 ?_
   refine k9 _ _ ?_
   refine .ret ?_
   have e9 := sj hs1
   subst e9
   dsimp only [LR.el] at h
   have e9 := sj h
   subst e9
   refine hQ _ _ _ (retPure τ_ok (fun g => rfl) ?_)
   conv => whnf
  ·refine .skip ?_
   refine k7 _ _ ?_
   refine .know 5 0 fun hv1 => ?_
   refine .know 8 0 fun hv2 => ?_
   refine rg 0 ?_
   refine ⟨(s1 + 1), by have := wf64 hv1; have := vfl hv2; have h8 := of_decide_eq_true hc1; exact w64_id (by omega) (by omega), ?_⟩
   exact hKL1 _ _ _ hs1 (li (.u (.s (.s (.u2 (.s (.u16 .n)))))))
 ·refine .exit ?_
  exact hR1 _ (sj hs1).symm _ _ (wk [] (.u16 (.u4 (.u2 .nil))) .nil rfl)
end Abs
end Go.Proofs.YtiiaccpcoclklaaGreat
namespace Go.Proofs.YtiiaccpcoclklaaGreat
namespace Abs
open Go Go.Proofs
set_option maxRecDepth 100000
set_option maxHeartbeats 40000000
theorem R2_Set_ok (n : Nat) (p0 : Ty) (r : Ty) (h : R2_Set n p0 = some r) : ACalls Tryz.prog 48 [aTy p0] [] (aTy r) [] := by
 unfold R2_Set at h
 refine acalls_start true Tryz.func48 rfl (nt Tryz.ntmps48 rfl) fun Q hQ t ht => ?_
 conv at ht => whnf
 subst ht
 refine .q fun K1 k1 => rg 2 ?_
 refine k1 _ _ ?_
 refine .q fun K2 k2 => rg 1 ?_
 refine ⟨List.map encTy ([p0]), by simp only [List.map_cons, List.map_nil, encTy_eq]; rfl, ?_⟩
 refine k2 _ _ ?_
 refine .ret ?_
 have e9 := sj h
 subst e9
 refine hQ _ _ _ (retPure τ_ok (fun g => by simp) ?_)
 conv => whnf
 try rfl
end Abs
end Go.Proofs.YtiiaccpcoclklaaGreat
namespace Go.Proofs.YtiiaccpcoclklaaGreat
namespace Abs
open Go Go.Proofs
set_option maxRecDepth 100000
set_option maxHeartbeats 40000000
abbrev R1_SameType_S (rec_R1_SameType : Ty → Ty → Option Bool) : Prop := ∀ (p0 : Ty) (p1 : Ty) (r : Bool), rec_R1_SameType p0 p1 = some r → ACalls Tryz.prog 20 [aTy p0, aTy p1] [] (.bool r) []
theorem R1_SameType_body_ok (n : Nat) (rec_R1_SameType : Ty → Ty → Option Bool) (hrec_R1_SameType : R1_SameType_S rec_R1_SameType) (p0 : Ty) (p1 : Ty) (r : Bool) (h : R1_SameType_body n rec_R1_SameType p0 p1 = some r) : ACalls Tryz.prog 20 [aTy p0, aTy p1] [] (.bool r) [] := by
 unfold R1_SameType_body at h
 refine acalls_start true Tryz.func20 rfl (nt Tryz.ntmps20 rfl) fun Q hQ t ht => ?_
 conv at ht => whnf
 subst ht
 refine .q fun K1 k1 => rg 2 ?_
 refine k1 _ _ ?_
 refine .q fun K2 k2 => .q fun K3 k3 => ?_
 obtain ⟨s1, hj1, h⟩ := ob h
 have hR1 : ∀ t9 h9, Le 0 t9 h9 (u2 (.ptr 0 0 :: (.ptr 1 0 :: (u16 (u4 (u2 (.bool s1 :: (u16 (u2 (.unk :: [])))))))))) [.box [.i p0.kind, .str p0.name, sTy p0.kids], .box [.i p1.kind, .str p1.name, sTy p1.kids]] → K3 t9 h9 := by
  intro t9 h9 hw
  refine k3 _ _ (AW.le hw ?_)
  clear hw
  refine .condS rfl h (fun hc1 h => ?_) (fun hc1 h => ?_)
  ·refine .q fun K4 k4 => rg 0 ?_
   refine k4 _ _ ?_
   refine .ret ?_
   have e9 := sj h
   subst e9
   refine hQ _ _ _ (retPure τ_ok (fun g => rfl) ?_)
   conv => whnf
  ·refine .skip ?_
   refine k2 _ _ ?_
   refine .q fun K5 k5 => .q fun K6 k6 => rg 0 ?_
   refine k6 _ _ ?_
   refine .block ?_
   obtain ⟨o1, ho1, h⟩ := ob h
   have hR2 : ∀ s3 : Unit, o1 = .nx s3 → ∀ t9 h9, Le 0 t9 h9 (u32 (u8 (u4 (u2 [])))) [] → K5 t9 h9 := by
    intro s3 ho
    subst ho
    dsimp only [LR.el] at h
    intro t9 h9 hw
    refine k5 _ _ (AW.le hw ?_)
    refine .q fun K7 k7 => rg 0 ?_
    refine k7 _ _ ?_
    refine .ret ?_
    have e9 := sj h
    subst e9
    refine hQ _ _ _ (retPure τ_ok (fun g => rfl) ?_)
    conv => whnf
   refine .loopS (R1_SameType_L0 n rec_R1_SameType p0 p1) (fun (s2 : Int) => (u2 (.ptr 0 0 :: (.ptr 1 0 :: (.unk :: (.i s2 :: (u32 (u8 [])))))))) (fun (s2 : Int) => [.box [.i p0.kind, .str p0.name, sTy p0.kids], .box [.i p1.kind, .str p1.name, sTy p1.kids]]) ho1 (fun _ => rfl) (li (.u2 (.s (.s (.u (.s (.u16 (.u16 (.u8 .n))))))))) ?_
   intro n1 s2 hs1 KL1 hKL1
   unfold R1_SameType_L0 at hs1
   refine .q fun K8 k8 => .q fun K9 k9 => rg 0 ?_
   refine len_of (l := p0.kids) (f := encTy) ?_
   refine k9 _ _ ?_
   refine .condS rfl hs1 (fun hc2 hs1 => ?_) (fun hc2 hs1 => ?_)
   ·refine .skip ?_
    refine k8 _ _ ?_
    refine .q fun K10 k10 => ?_
    refine .block ?_
    refine .q fun K11 k11 => rg 0 ?_
    obtain ⟨x1, hx1, hs1⟩ := ob hs1
    refine idx_of (l := p0.kids) (f := encTy) (cs := [.i ((x1).kind), .str ((x1).name), sTy ((x1).kids)]) hx1 (encTy_eq x1) rfl ?_
    obtain ⟨x2, hx2, hs1⟩ := ob hs1
    refine idx_of (l := p1.kids) (f := encTy) (cs := [.i ((x2).kind), .str ((x2).name), sTy ((x2).kids)]) hx2 (encTy_eq x2) rfl ?_
    obtain ⟨x3, hx3, hs1⟩ := ob hs1
    refine call_pur (hrec_R1_SameType _ _ _ hx3) okF_20 (.cons (.same _) (.cons (.same _) .nil)) (fun g => by simp) (fun g => rfl) ?_
    refine ⟨rfl, ?_⟩
    refine k11 _ _ ?_
    refine .condS rfl hs1 (fun hc3 hs1 => ?_) (fun hc3 hs1 => ?_)
    ·refine .q fun K12 k12 => rg 0 ?_
     refine k12 _ _ ?_
     refine .ret ?_
     have e9 := sj hs1
     subst e9
     dsimp only [LR.el] at h
     have e9 := sj h
     subst e9
     refine hQ _ _ _ (retPure τ_ok (fun g => rfl) ?_)
     conv => whnf
    ·refine .skip ?_
     refine k10 _ _ ?_
     refine .know 5 0 fun hv1 => ?_
     refine .know 29 0 fun hv2 => ?_
     refine rg 0 ?_
     refine ⟨(s2 + 1), by have := wf64 hv1; have := vfl hv2; have h8 := of_decide_eq_true hc2; exact w64_id (by omega) (by omega), ?_⟩
     exact hKL1 _ _ _ hs1 (li (.u2 (.s (.s (.u (.s (.u16 (.u16 (.u8 .n)))))))))
   ·refine .exit ?_
    exact hR2 _ (sj hs1).symm _ _ (wk [] (.u32 (.u8 (.u4 (.u2 .nil)))) .nil rfl)
 refine rg 0 ?_
 refine onB_cond hj1 (fun hc4 hj1 => ?_) (fun hc4 hj1 => ?_)
 ·cases hj1
  exact hR1 _ _ (li (.u2 (.s (.s (.u16 (.u4 (.u2 (.s (.u16 (.u2 (.u .n)))))))))))
 ·refine onB_cond hj1 (fun hc5 hj1 => ?_) (fun hc5 hj1 => ?_)
  ·cases hj1
   exact hR1 _ _ (li (.u2 (.s (.s (.u16 (.u4 (.u2 (.s (.u16 (.u2 (.u .n)))))))))))
  ·refine len_of (l := p0.kids) (f := encTy) ?_
   refine len_of (l := p1.kids) (f := encTy) ?_
   cases hj1
   exact hR1 _ _ (li (.u2 (.s (.s (.u16 (.u4 (.u2 (.s (.u16 (.u2 (.u .n)))))))))))
theorem R1_SameType_all (n : Nat) : R1_SameType_S (R1_SameType n) := by
 induction n with
 | zero => exact (fun p0 p1 r h => by unfold R1_SameType at h; cases h)
 | succ n ih =>
  exact (fun p0 p1 r h => R1_SameType_body_ok n _ ih p0 p1 r (by unfold R1_SameType at h; exact h))
theorem R1_SameType_ok (n : Nat) : R1_SameType_S (R1_SameType n) := (R1_SameType_all n)
end Abs
end Go.Proofs.YtiiaccpcoclklaaGreat
namespace Go.Proofs.YtiiaccpcoclklaaGreat
namespace Abs
open Go Go.Proofs
def encS_refinementlaw02_Binding (x : S_refinementlaw02_Binding) : List AV := [.slice (List.map encCarrier x.env.carriers) .shared, .slice (List.map encDecl x.env.names) .shared, .int .i64 x.body.op, .str x.body.name, .int .i64 x.body.n, .int .i64 x.body.ty.kind, .str x.body.ty.name, .slice (List.map encTy x.body.ty.kids) .shared, .slice (List.map encTm x.body.kids) .shared, .int .i64 x.domain.op, .str x.domain.name, .int .i64 x.domain.n, .int .i64 x.domain.ty.kind, .str x.domain.ty.name, .slice (List.map encTy x.domain.ty.kids) .shared, .slice (List.map encTm x.domain.kids) .shared, .str x.name]
theorem renl_S_refinementlaw02_Binding (g : Nat → Nat) (l : List S_refinementlaw02_Binding) : renLL g (l.map encS_refinementlaw02_Binding) = l.map encS_refinementlaw02_Binding := ren_map (fun g x => by simp only [encS_refinementlaw02_Binding, renL, ren, renT, renl_I, renl_S, renl_U8, renl_Ty, renl_Tm, renl_Carrier, renl_Decl]) g l
theorem okF_34 : okFn Tryz.prog 34 = true := by kernel_rfl
theorem okF_89 : okFn Tryz.prog 89 = true := by kernel_rfl
theorem okF_149 : okFn Tryz.prog 149 = true := by kernel_rfl
attribute [simp] renl_S_refinementlaw02_Binding
end Abs
end Go.Proofs.YtiiaccpcoclklaaGreat
namespace Go.Proofs.YtiiaccpcoclklaaGreat
namespace Abs
open Go Go.Proofs
set_option maxRecDepth 100000
set_option maxHeartbeats 40000000
theorem typing_node_ok (n : Nat) (p0 : Int) (p1 : List Tm) (r : Tm) (h : typing_node n p0 p1 = some r) : ACalls Tryz.prog 149 [.i p0, sTm p1] [] (aTm r) [] := by
 unfold typing_node at h
 refine acalls_start true Tryz.func149 rfl (nt Tryz.ntmps149 rfl) fun Q hQ t ht => ?_
 conv at ht => whnf
 subst ht
 refine .q fun K1 k1 => rg 1 ?_
 refine k1 _ _ ?_
 refine .q fun K2 k2 => rg 0 ?_
 refine k2 _ _ ?_
 refine .ret ?_
 have e9 := sj h
 subst e9
 refine hQ _ _ _ (retPure τ_ok (fun g => by simp) ?_)
 conv => whnf
 try rfl
end Abs
end Go.Proofs.YtiiaccpcoclklaaGreat
