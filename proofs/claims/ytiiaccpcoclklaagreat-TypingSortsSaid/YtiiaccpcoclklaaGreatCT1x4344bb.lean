/-
  Plain functions and the contracts of Go functions by them (printed by gen.py). Conditions: none.
-/
import Derived.KernelRfl
import Derived.Test.YtiiaccpcoclklaaGreatCData2x72b33f
import Derived.Test.YtiiaccpcoclklaaGreatCDfx223ef1
import Derived.Test.YtiiaccpcoclklaaGreatCTDx112680
set_option linter.unusedSimpArgs false
set_option linter.unusedVariables false
namespace Go.Proofs.YtiiaccpcoclklaaGreat
namespace Abs
open Go Go.Proofs
set_option maxRecDepth 100000
set_option maxHeartbeats 40000000
theorem L2_small_ok (n : Nat) (p0 : Env) (r : Bool) (h : L2_small n p0 = some r) : ACalls Tryz.prog 16 [aEnv p0] [] (.bool r) [] := by
 unfold L2_small at h
 refine acalls_start true Tryz.func16 rfl (nt Tryz.ntmps16 rfl) fun Q hQ t ht => ?_
 conv at ht => whnf
 subst ht
 refine .q fun K1 k1 => rg 1 ?_
 refine k1 _ _ ?_
 refine .q fun K2 k2 => .q fun K3 k3 => ?_
 obtain ⟨s1, hj1, h⟩ := ob h
 have hR1 : ∀ t9 h9, Le 0 t9 h9 (.unk :: (.ptr 0 0 :: (u8 (u2 (.unk :: (.bool s1 :: (u8 (u4 (u2 (.unk :: [])))))))))) [.box [sCa p0.carriers, sDe p0.names]] → K3 t9 h9 := by
  intro t9 h9 hw
  refine k3 _ _ (AW.le hw ?_)
  clear hw
  refine .condS rfl h (fun hc1 h => ?_) (fun hc1 h => ?_)
  ·refine .q fun K4 k4 => rg 0 ?_
   refine k4 _ _ ?_
   refine .ret ?_
   have e9 := sj h
   subst e9
   refine hQ _ _ _ (retPure τ_ok (fun g => rfl) ?_)
   conv => whnf
  ·refine .skip ?_
   refine k2 _ _ ?_
   refine .q fun K5 k5 => .q fun K6 k6 => rg 0 ?_
   refine k6 _ _ ?_
   refine .block ?_
   obtain ⟨o1, ho1, h⟩ := ob h
   have hR2 : ∀ s3 : Unit, o1 = .nx s3 → ∀ t9 h9, Le 0 t9 h9 (u16 (u8 (u4 (.unk :: [])))) [] → K5 t9 h9 := by
    intro s3 ho
    subst ho
    dsimp only [LR.el] at h
    intro t9 h9 hw
    refine k5 _ _ (AW.le hw ?_)
    refine .q fun K7 k7 => rg 0 ?_
    refine k7 _ _ ?_
    refine .ret ?_
    have e9 := sj h
    subst e9
    refine hQ _ _ _ (retPure τ_ok (fun g => rfl) ?_)
    conv => whnf
   refine .loopS (L2_small_L0 n p0) (fun (s2 : Int) => (.unk :: (.ptr 0 0 :: (.unk :: (.i s2 :: (u16 (u8 (.unk :: [])))))))) (fun (s2 : Int) => [.box [sCa p0.carriers, sDe p0.names]]) ho1 (fun _ => rfl) (li (.u (.s (.u (.s (.u16 (.u8 (.u .n)))))))) ?_
   intro n1 s2 hs1 KL1 hKL1
   unfold L2_small_L0 at hs1
   refine .q fun K8 k8 => .q fun K9 k9 => rg 0 ?_
   refine len_of (l := p0.carriers) (f := encCarrier) ?_
   refine k9 _ _ ?_
   refine .condS rfl hs1 (fun hc2 hs1 => ?_) (fun hc2 hs1 => ?_)
   ·refine .skip ?_
    refine k8 _ _ ?_
    refine .q fun K10 k10 => ?_
    refine .block ?_
    refine .q fun K11 k11 => rg 0 ?_
    obtain ⟨x1, hx1, hs1⟩ := ob hs1
    refine idx_of (l := p0.carriers) (f := encCarrier) (cs := [.str ((x1).name), sSt ((x1).elems)]) hx1 (rfl) rfl ?_
    refine len_of (l := x1.elems) (f := encS) ?_
    refine k11 _ _ ?_
    refine .condS rfl hs1 (fun hc3 hs1 => ?_) (fun hc3 hs1 => ?_)
    ·refine .q fun K12 k12 => rg 0 ?_
     refine k12 _ _ ?_
     refine .ret ?_
     have e9 := sj hs1
     subst e9
     dsimp only [LR.el] at h
     have e9 := sj h
     subst e9
     refine hQ _ _ _ (retPure τ_ok (fun g => rfl) ?_)
     conv => whnf
    ·refine .skip ?_
     refine k10 _ _ ?_
     refine .know 3 0 fun hv1 => ?_
     refine .know 16 0 fun hv2 => ?_
     refine rg 0 ?_
     refine ⟨(s2 + 1), by have := wf64 hv1; have := vfl hv2; have h8 := of_decide_eq_true hc2; exact w64_id (by omega) (by omega), ?_⟩
     exact hKL1 _ _ _ hs1 (li (.u (.s (.u (.s (.u16 (.u8 (.u .n))))))))
   ·refine .exit ?_
    exact hR2 _ (sj hs1).symm _ _ (wk [] (.u16 (.u8 (.u4 (.u .nil)))) .nil rfl)
 refine rg 0 ?_
 refine len_of (l := p0.carriers) (f := encCarrier) ?_
 refine onB_cond hj1 (fun hc4 hj1 => ?_) (fun hc4 hj1 => ?_)
 ·cases hj1
  exact hR1 _ _ (li (.u (.s (.u8 (.u2 (.u (.s (.u8 (.u4 (.u2 (.u .n)))))))))))
 ·refine len_of (l := p0.names) (f := encDecl) ?_
  cases hj1
  exact hR1 _ _ (li (.u (.s (.u8 (.u2 (.u (.s (.u8 (.u4 (.u2 (.u .n)))))))))))
theorem term_letter_ok (n : Nat) (p0 : Int) (r : Bool) (h : term_letter n p0 = some r) : ACalls Tryz.prog 191 [.int .u8 p0] [] (.bool r) [] := by
 unfold term_letter at h
 refine acalls_start true Tryz.func191 rfl (nt Tryz.ntmps191 rfl) fun Q hQ t ht => ?_
 conv at ht => whnf
 subst ht
 refine .q fun K1 k1 => rg 0 ?_
 refine k1 _ _ ?_
 refine .q fun K2 k2 => ?_
 obtain ⟨s1, hj1, h⟩ := ob h
 have hR1 : ∀ t9 h9, Le 0 t9 h9 (u2 (.bool s1 :: (u8 (u4 (u2 []))))) [] → K2 t9 h9 := by
  intro t9 h9 hw
  refine k2 _ _ (AW.le hw ?_)
  clear hw
  refine .ret ?_
  have e9 := sj h
  subst e9
  refine hQ _ _ _ (retPure τ_ok (fun g => rfl) ?_)
  conv => whnf
 refine rg 0 ?_
 refine onB_cond hj1 (fun hc1 hj1 => ?_) (fun hc1 hj1 => ?_)
 ·refine onB_cond hj1 (fun hc2 hj1 => ?_) (fun hc2 hj1 => ?_)
  ·cases hj1
   exact hR1 _ _ (li (.u2 (.s (.u8 (.u4 (.u2 .n))))))
  ·refine onB_cond hj1 (fun hc3 hj1 => ?_) (fun hc3 hj1 => ?_)
   ·cases hj1
    exact hR1 _ _ (li (.u2 (.s (.u8 (.u4 (.u2 .n))))))
   ·cases hj1
    exact hR1 _ _ (li (.u2 (.s (.u8 (.u4 (.u2 .n))))))
 ·refine onB_cond hj1 (fun hc4 hj1 => ?_) (fun hc4 hj1 => ?_)
  ·cases hj1
   exact hR1 _ _ (li (.u2 (.s (.u8 (.u4 (.u2 .n))))))
  ·cases hj1
   exact hR1 _ _ (li (.u2 (.s (.u8 (.u4 (.u2 .n))))))
theorem term_keyword_ok (n : Nat) (p0 : Str) (r : Bool) (h : term_keyword n p0 = some r) : ACalls Tryz.prog 192 [.str p0] [] (.bool r) [] := by
 unfold term_keyword at h
 refine acalls_start true Tryz.func192 rfl (nt Tryz.ntmps192 rfl) fun Q hQ t ht => ?_
 conv at ht => whnf
 subst ht
 refine .q fun K1 k1 => rg 0 ?_
 refine k1 _ _ ?_
 refine .q fun K2 k2 => .q fun K3 k3 => rg 0 ?_
 refine k3 _ _ ?_
 refine .block ?_
 refine .q fun K4 k4 => ?_
 obtain ⟨s1, hj1, h⟩ := ob h
 have hR1 : ∀ t9 h9, Le 0 t9 h9 (u4 (.bool s1 :: (u16 (u4 (.unk :: []))))) [] → K4 t9 h9 := by
  intro t9 h9 hw
  refine k4 _ _ (AW.le hw ?_)
  clear hw
  refine .condS rfl h (fun hc1 h => ?_) (fun hc1 h => ?_)
  ·refine .q fun K5 k5 => rg 0 ?_
   refine k5 _ _ ?_
   refine .ret ?_
   have e9 := sj h
   subst e9
   refine hQ _ _ _ (retPure τ_ok (fun g => rfl) ?_)
   conv => whnf
  ·refine .skip ?_
   refine k2 _ _ ?_
   refine .q fun K6 k6 => rg 0 ?_
   refine k6 _ _ ?_
   refine .ret ?_
   have e9 := sj h
   subst e9
   refine hQ _ _ _ (retPure τ_ok (fun g => rfl) ?_)
   conv => whnf
 refine .q fun K7 k7 => rg 0 ?_
 refine k7 _ _ ?_
 refine .condS rfl hj1 (fun hc2 hj1 => ?_) (fun hc2 hj1 => ?_)
 ·refine .skip ?_
  cases hj1
  exact hR1 _ _ (li (.u4 (.s (.u16 (.u4 (.u .n))))))
 ·refine .q fun K8 k8 => rg 0 ?_
  refine k8 _ _ ?_
  refine .condS rfl hj1 (fun hc3 hj1 => ?_) (fun hc3 hj1 => ?_)
  ·refine .skip ?_
   cases hj1
   exact hR1 _ _ (li (.u4 (.s (.u16 (.u4 (.u .n))))))
  ·refine .q fun K9 k9 => rg 0 ?_
   refine k9 _ _ ?_
   refine .condS rfl hj1 (fun hc4 hj1 => ?_) (fun hc4 hj1 => ?_)
   ·refine .skip ?_
    cases hj1
    exact hR1 _ _ (li (.u4 (.s (.u16 (.u4 (.u .n))))))
   ·refine .q fun K10 k10 => rg 0 ?_
    refine k10 _ _ ?_
    refine .condS rfl hj1 (fun hc5 hj1 => ?_) (fun hc5 hj1 => ?_)
    ·refine .skip ?_
     cases hj1
     exact hR1 _ _ (li (.u4 (.s (.u16 (.u4 (.u .n))))))
    ·refine .q fun K11 k11 => rg 0 ?_
     refine k11 _ _ ?_
     refine .condS rfl hj1 (fun hc6 hj1 => ?_) (fun hc6 hj1 => ?_)
     ·refine .skip ?_
      cases hj1
      exact hR1 _ _ (li (.u4 (.s (.u16 (.u4 (.u .n))))))
     ·refine .q fun K12 k12 => rg 0 ?_
      refine k12 _ _ ?_
      refine .condS rfl hj1 (fun hc7 hj1 => ?_) (fun hc7 hj1 => ?_)
      ·refine .skip ?_
       cases hj1
       exact hR1 _ _ (li (.u4 (.s (.u16 (.u4 (.u .n))))))
      ·refine .q fun K13 k13 => rg 0 ?_
       refine k13 _ _ ?_
       refine .condS rfl hj1 (fun hc8 hj1 => ?_) (fun hc8 hj1 => ?_)
       ·refine .skip ?_
        cases hj1
        exact hR1 _ _ (li (.u4 (.s (.u16 (.u4 (.u .n))))))
       ·refine .q fun K14 k14 => rg 0 ?_
        refine k14 _ _ ?_
        refine .condS rfl hj1 (fun hc9 hj1 => ?_) (fun hc9 hj1 => ?_)
        ·refine .skip ?_
         cases hj1
         exact hR1 _ _ (li (.u4 (.s (.u16 (.u4 (.u .n))))))
        ·refine .q fun K15 k15 => rg 0 ?_
         refine k15 _ _ ?_
         refine .condS rfl hj1 (fun hc10 hj1 => ?_) (fun hc10 hj1 => ?_)
         ·refine .skip ?_
          cases hj1
          exact hR1 _ _ (li (.u4 (.s (.u16 (.u4 (.u .n))))))
         ·refine .q fun K16 k16 => rg 0 ?_
          refine k16 _ _ ?_
          refine .condS rfl hj1 (fun hc11 hj1 => ?_) (fun hc11 hj1 => ?_)
          ·refine .skip ?_
           cases hj1
           exact hR1 _ _ (li (.u4 (.s (.u16 (.u4 (.u .n))))))
          ·refine .q fun K17 k17 => rg 0 ?_
           refine k17 _ _ ?_
           refine .condS rfl hj1 (fun hc12 hj1 => ?_) (fun hc12 hj1 => ?_)
           ·refine .skip ?_
            cases hj1
            exact hR1 _ _ (li (.u4 (.s (.u16 (.u4 (.u .n))))))
           ·refine .q fun K18 k18 => rg 0 ?_
            refine k18 _ _ ?_
            refine .condS rfl hj1 (fun hc13 hj1 => ?_) (fun hc13 hj1 => ?_)
            ·refine .skip ?_
             cases hj1
             exact hR1 _ _ (li (.u4 (.s (.u16 (.u4 (.u .n))))))
            ·refine .q fun K19 k19 => rg 0 ?_
             refine k19 _ _ ?_
             refine .condS rfl hj1 (fun hc14 hj1 => ?_) (fun hc14 hj1 => ?_)
             ·refine .skip ?_
              cases hj1
              exact hR1 _ _ (li (.u4 (.s (.u16 (.u4 (.u .n))))))
             ·refine .q fun K20 k20 => rg 0 ?_
              refine k20 _ _ ?_
              refine .condS rfl hj1 (fun hc15 hj1 => ?_) (fun hc15 hj1 => ?_)
              ·refine .skip ?_
               cases hj1
               exact hR1 _ _ (li (.u4 (.s (.u16 (.u4 (.u .n))))))
              ·refine .q fun K21 k21 => rg 0 ?_
               refine k21 _ _ ?_
               refine .condS rfl hj1 (fun hc16 hj1 => ?_) (fun hc16 hj1 => ?_)
               ·refine .skip ?_
                cases hj1
                exact hR1 _ _ (li (.u4 (.s (.u16 (.u4 (.u .n))))))
               ·refine .q fun K22 k22 => rg 0 ?_
                refine k22 _ _ ?_
                refine .condS rfl hj1 (fun hc17 hj1 => ?_) (fun hc17 hj1 => ?_)
                ·refine .skip ?_
                 cases hj1
                 exact hR1 _ _ (li (.u4 (.s (.u16 (.u4 (.u .n))))))
                ·refine .q fun K23 k23 => rg 0 ?_
                 refine k23 _ _ ?_
                 refine .condS rfl hj1 (fun hc18 hj1 => ?_) (fun hc18 hj1 => ?_)
                 ·refine .skip ?_
                  cases hj1
                  exact hR1 _ _ (li (.u4 (.s (.u16 (.u4 (.u .n))))))
                 ·refine .q fun K24 k24 => rg 0 ?_
                  refine k24 _ _ ?_
                  refine .condS rfl hj1 (fun hc19 hj1 => ?_) (fun hc19 hj1 => ?_)
                  ·refine .skip ?_
                   cases hj1
                   exact hR1 _ _ (li (.u4 (.s (.u16 (.u4 (.u .n))))))
                  ·refine .q fun K25 k25 => rg 0 ?_
                   refine k25 _ _ ?_
                   refine .condS rfl hj1 (fun hc20 hj1 => ?_) (fun hc20 hj1 => ?_)
                   ·refine .skip ?_
                    cases hj1
                    exact hR1 _ _ (li (.u4 (.s (.u16 (.u4 (.u .n))))))
                   ·refine .q fun K26 k26 => rg 0 ?_
                    refine k26 _ _ ?_
                    refine .condS rfl hj1 (fun hc21 hj1 => ?_) (fun hc21 hj1 => ?_)
                    ·refine .skip ?_
                     cases hj1
                     exact hR1 _ _ (li (.u4 (.s (.u16 (.u4 (.u .n))))))
                    ·refine rg 0 ?_
                     cases hj1
                     exact hR1 _ _ (li (.u4 (.s (.u16 (.u4 (.u .n))))))
theorem term_digit_ok (n : Nat) (p0 : Int) (r : Bool) (h : term_digit n p0 = some r) : ACalls Tryz.prog 253 [.int .u8 p0] [] (.bool r) [] := by
 unfold term_digit at h
 refine acalls_start true Tryz.func253 rfl (nt Tryz.ntmps253 rfl) fun Q hQ t ht => ?_
 conv at ht => whnf
 subst ht
 refine .q fun K1 k1 => rg 0 ?_
 refine k1 _ _ ?_
 refine .q fun K2 k2 => ?_
 obtain ⟨s1, hj1, h⟩ := ob h
 have hR1 : ∀ t9 h9, Le 0 t9 h9 (u2 (.bool s1 :: (u4 (u2 [])))) [] → K2 t9 h9 := by
  intro t9 h9 hw
  refine k2 _ _ (AW.le hw ?_)
  clear hw
  refine .ret ?_
  have e9 := sj h
  subst e9
  refine hQ _ _ _ (retPure τ_ok (fun g => rfl) ?_)
  conv => whnf
 refine rg 0 ?_
 refine onB_cond hj1 (fun hc1 hj1 => ?_) (fun hc1 hj1 => ?_)
 ·cases hj1
  exact hR1 _ _ (li (.u2 (.s (.u4 (.u2 .n)))))
 ·cases hj1
  exact hR1 _ _ (li (.u2 (.s (.u4 (.u2 .n)))))
theorem term_inWord_ok (n : Nat) (p0 : Int) (r : Bool) (h : term_inWord n p0 = some r) : ACalls Tryz.prog 193 [.int .u8 p0] [] (.bool r) [] := by
 unfold term_inWord at h
 refine acalls_start true Tryz.func193 rfl (nt Tryz.ntmps193 rfl) fun Q hQ t ht => ?_
 conv at ht => whnf
 subst ht
 refine .q fun K1 k1 => rg 0 ?_
 refine k1 _ _ ?_
 refine .q fun K2 k2 => ?_
 obtain ⟨s1, hj1, h⟩ := ob h
 have hR1 : ∀ t9 h9, Le 0 t9 h9 (u2 (.bool s1 :: (u8 (u2 [])))) [] → K2 t9 h9 := by
  intro t9 h9 hw
  refine k2 _ _ (AW.le hw ?_)
  clear hw
  refine .ret ?_
  have e9 := sj h
  subst e9
  refine hQ _ _ _ (retPure τ_ok (fun g => rfl) ?_)
  conv => whnf
 refine rg 0 ?_
 obtain ⟨x1, hx1, hj1⟩ := ob hj1
 refine call_pur (term_letter_ok _ _ _ hx1) okF_191 (.cons (.same _) .nil) (fun g => rfl) (fun g => rfl) ?_
 refine onB_cond hj1 (fun hc1 hj1 => ?_) (fun hc1 hj1 => ?_)
 ·cases hj1
  exact hR1 _ _ (li (.u2 (.s (.u8 (.u2 .n)))))
 ·obtain ⟨x2, hx2, hj1⟩ := ob hj1
  refine call_pur (term_digit_ok _ _ _ hx2) okF_253 (.cons (.same _) .nil) (fun g => rfl) (fun g => rfl) ?_
  refine onB_cond hj1 (fun hc2 hj1 => ?_) (fun hc2 hj1 => ?_)
  ·cases hj1
   exact hR1 _ _ (li (.u2 (.s (.u8 (.u2 .n)))))
  ·cases hj1
   exact hR1 _ _ (li (.u2 (.s (.u8 (.u2 .n)))))
theorem term_Identifier_ok (n : Nat) (p0 : Str) (r : Bool) (h : term_Identifier n p0 = some r) : ACalls Tryz.prog 117 [.str p0] [] (.bool r) [] := by
 unfold term_Identifier at h
 refine acalls_start true Tryz.func117 rfl (nt Tryz.ntmps117 rfl) fun Q hQ t ht => ?_
 conv at ht => whnf
 subst ht
 refine .q fun K1 k1 => rg 0 ?_
 refine k1 _ _ ?_
 refine .q fun K2 k2 => .q fun K3 k3 => ?_
 obtain ⟨s1, hj1, h⟩ := ob h
 have hR1 : ∀ t9 h9, Le 0 t9 h9 (.str p0 :: (u16 (u2 (.unk :: (.bool s1 :: (u8 (u2 (.unk :: [])))))))) [] → K3 t9 h9 := by
  intro t9 h9 hw
  refine k3 _ _ (AW.le hw ?_)
  clear hw
  refine .condS rfl h (fun hc1 h => ?_) (fun hc1 h => ?_)
  ·refine .q fun K4 k4 => rg 0 ?_
   refine k4 _ _ ?_
   refine .ret ?_
   have e9 := sj h
   subst e9
   refine hQ _ _ _ (retPure τ_ok (fun g => rfl) ?_)
   conv => whnf
  ·refine .skip ?_
   refine k2 _ _ ?_
   refine .q fun K5 k5 => .q fun K6 k6 => rg 0 ?_
   refine k6 _ _ ?_
   refine .block ?_
   obtain ⟨o1, ho1, h⟩ := ob h
   have hR2 : ∀ s3 : Unit, o1 = .nx s3 → ∀ t9 h9, Le 0 t9 h9 (u32 []) [] → K5 t9 h9 := by
    intro s3 ho
    subst ho
    dsimp only [LR.el] at h
    intro t9 h9 hw
    refine k5 _ _ (AW.le hw ?_)
    refine .q fun K7 k7 => rg 0 ?_
    refine k7 _ _ ?_
    refine .ret ?_
    have e9 := sj h
    subst e9
    refine hQ _ _ _ (retPure τ_ok (fun g => rfl) ?_)
    conv => whnf
   refine .loopS (term_Identifier_L0 n p0) (fun (s2 : Int) => (.str p0 :: (u16 (u4 (.unk :: (.i (p0.length : Int) :: (.i s2 :: (u8 [])))))))) (fun (s2 : Int) => []) ho1 (fun _ => rfl) (li (.s (.u16 (.u4 (.u (.s (.s (.u8 .n)))))))) ?_
   intro n1 s2 hs1 KL1 hKL1
   unfold term_Identifier_L0 at hs1
   refine .q fun K8 k8 => rg 0 ?_
   refine k8 _ _ ?_
   refine .q fun K9 k9 => ?_
   refine .condS rfl hs1 (fun hc2 hs1 => ?_) (fun hc2 hs1 => ?_)
   ·refine .skip ?_
    refine k9 _ _ ?_
    refine .q fun K10 k10 => ?_
    refine .block ?_
    refine .q fun K11 k11 => rg 0 ?_
    refine k11 _ _ ?_
    refine .q fun K12 k12 => rg 0 ?_
    obtain ⟨x1, hx1, hs1⟩ := ob hs1
    refine sidx_of hx1 ?_
    obtain ⟨x2, hx2, hs1⟩ := ob hs1
    refine call_pur (term_inWord_ok _ _ _ hx2) okF_193 (.cons (.same _) .nil) (fun g => rfl) (fun g => rfl) ?_
    refine k12 _ _ ?_
    refine .condS rfl hs1 (fun hc3 hs1 => ?_) (fun hc3 hs1 => ?_)
    ·refine .q fun K13 k13 => rg 0 ?_
     refine k13 _ _ ?_
     refine .ret ?_
     have e9 := sj hs1
     subst e9
     dsimp only [LR.el] at h
     have e9 := sj h
     subst e9
     refine hQ _ _ _ (retPure τ_ok (fun g => rfl) ?_)
     conv => whnf
    ·refine .skip ?_
     refine k10 _ _ ?_
     refine .know 3 0 fun hv1 => ?_
     refine .know 0 0 fun hv2 => ?_
     refine rg 0 ?_
     refine ⟨(s2 + 1), by have := wf64 hv1; have := vfs hv2; have h8 := of_decide_eq_true hc2; exact w64_id (by omega) (by omega), ?_⟩
     exact hKL1 _ _ _ hs1 (li (.s (.u16 (.u4 (.u (.s (.s (.u8 .n))))))))
   ·refine .exit ?_
    exact hR2 _ (sj hs1).symm _ _ (li (.u16 (.u16 .n)))
 refine rg 0 ?_
 refine onB_cond hj1 (fun hc4 hj1 => ?_) (fun hc4 hj1 => ?_)
 ·cases hj1
  exact hR1 _ _ (li (.s (.u16 (.u2 (.u (.s (.u8 (.u2 (.u .n)))))))))
 ·refine onB_cond hj1 (fun hc5 hj1 => ?_) (fun hc5 hj1 => ?_)
  ·cases hj1
   exact hR1 _ _ (li (.s (.u16 (.u2 (.u (.s (.u8 (.u2 (.u .n)))))))))
  ·obtain ⟨x3, hx3, hj1⟩ := ob hj1
   refine sidx_of hx3 ?_
   obtain ⟨x4, hx4, hj1⟩ := ob hj1
   refine call_pur (term_letter_ok _ _ _ hx4) okF_191 (.cons (.same _) .nil) (fun g => rfl) (fun g => rfl) ?_
   refine onB_cond hj1 (fun hc6 hj1 => ?_) (fun hc6 hj1 => ?_)
   ·cases hj1
    exact hR1 _ _ (li (.s (.u16 (.u2 (.u (.s (.u8 (.u2 (.u .n)))))))))
   ·obtain ⟨x5, hx5, hj1⟩ := ob hj1
    refine call_pur (term_keyword_ok _ _ _ hx5) okF_192 (.cons (.same _) .nil) (fun g => rfl) (fun g => rfl) ?_
    cases hj1
    exact hR1 _ _ (li (.s (.u16 (.u2 (.u (.s (.u8 (.u2 (.u .n)))))))))
theorem internal_stringslite_HasSuffix_ok (n : Nat) (p0 : Str) (p1 : Str) (r : Bool) (h : internal_stringslite_HasSuffix n p0 p1 = some r) : ACalls Tryz.prog 288 [.str p0, .str p1] [] (.bool r) [] := by
 unfold internal_stringslite_HasSuffix at h
 refine acalls_start true Tryz.func288 rfl (nt Tryz.ntmps288 rfl) fun Q hQ t ht => ?_
 conv at ht => whnf
 subst ht
 refine .q fun K1 k1 => rg 0 ?_
 refine k1 _ _ ?_
 refine .q fun K2 k2 => ?_
 obtain ⟨s1, hj1, h⟩ := ob h
 have hR1 : ∀ t9 h9, Le 0 t9 h9 (u4 (.bool s1 :: (u16 []))) [] → K2 t9 h9 := by
  intro t9 h9 hw
  refine k2 _ _ (AW.le hw ?_)
  clear hw
  refine .ret ?_
  have e9 := sj h
  subst e9
  refine hQ _ _ _ (retPure τ_ok (fun g => rfl) ?_)
  conv => whnf
 refine rg 0 ?_
 refine onB_cond hj1 (fun hc1 hj1 => ?_) (fun hc1 hj1 => ?_)
 ·refine ⟨(IntKind.wrap .i64 ((p0.length : Int) - (p1.length : Int))), rfl, ?_⟩
  obtain ⟨x1, hx1, hj1⟩ := ob hj1
  refine cut_s hx1 (.int _ _ _) (.none _) ?_
  cases hj1
  exact hR1 _ _ (li (.u4 (.s (.u16 .n))))
 ·cases hj1
  exact hR1 _ _ (li (.u4 (.s (.u16 .n))))
theorem internal_stringslite_TrimSuffix_ok (n : Nat) (p0 : Str) (p1 : Str) (r : Str) (h : internal_stringslite_TrimSuffix n p0 p1 = some r) : ACalls Tryz.prog 252 [.str p0, .str p1] [] (.str r) [] := by
 unfold internal_stringslite_TrimSuffix at h
 refine acalls_start true Tryz.func252 rfl (nt Tryz.ntmps252 rfl) fun Q hQ t ht => ?_
 conv at ht => whnf
 subst ht
 refine .q fun K1 k1 => rg 0 ?_
 refine k1 _ _ ?_
 refine .q fun K2 k2 => .q fun K3 k3 => rg 0 ?_
 obtain ⟨x1, hx1, h⟩ := ob h
 refine call_pur (internal_stringslite_HasSuffix_ok _ _ _ _ hx1) okF_288 (.cons (.same _) (.cons (.same _) .nil)) (fun g => rfl) (fun g => rfl) ?_
 refine k3 _ _ ?_
 refine .condS rfl h (fun hc1 h => ?_) (fun hc1 h => ?_)
 ·refine .q fun K4 k4 => rg 0 ?_
  refine ⟨(IntKind.wrap .i64 ((p0.length : Int) - (p1.length : Int))), rfl, ?_⟩
  obtain ⟨x2, hx2, h⟩ := ob h
  refine cut_s hx2 (.none _) (.int _ _ _) ?_
  refine k4 _ _ ?_
  refine .ret ?_
  have e9 := sj h
  subst e9
  refine hQ _ _ _ (retPure τ_ok (fun g => rfl) ?_)
  conv => whnf
 ·refine .skip ?_
  refine k2 _ _ ?_
  refine .q fun K5 k5 => rg 0 ?_
  refine k5 _ _ ?_
  refine .ret ?_
  have e9 := sj h
  subst e9
  refine hQ _ _ _ (retPure τ_ok (fun g => rfl) ?_)
  conv => whnf
theorem strings_TrimSuffix_ok (n : Nat) (p0 : Str) (p1 : Str) (r : Str) (h : strings_TrimSuffix n p0 p1 = some r) : ACalls Tryz.prog 187 [.str p0, .str p1] [] (.str r) [] := by
 unfold strings_TrimSuffix at h
 refine acalls_start true Tryz.func187 rfl (nt Tryz.ntmps187 rfl) fun Q hQ t ht => ?_
 conv at ht => whnf
 subst ht
 refine .q fun K1 k1 => rg 0 ?_
 refine k1 _ _ ?_
 refine .q fun K2 k2 => rg 0 ?_
 obtain ⟨x1, hx1, h⟩ := ob h
 refine call_pur (internal_stringslite_TrimSuffix_ok _ _ _ _ hx1) okF_252 (.cons (.same _) (.cons (.same _) .nil)) (fun g => rfl) (fun g => rfl) ?_
 refine k2 _ _ ?_
 refine .ret ?_
 have e9 := sj h
 subst e9
 refine hQ _ _ _ (retPure τ_ok (fun g => rfl) ?_)
 conv => whnf
theorem typing_nameable_ok (n : Nat) (p0 : Str) (r : Bool) (h : typing_nameable n p0 = some r) : ACalls Tryz.prog 112 [.str p0] [] (.bool r) [] := by
 unfold typing_nameable at h
 refine acalls_start true Tryz.func112 rfl (nt Tryz.ntmps112 rfl) fun Q hQ t ht => ?_
 conv at ht => whnf
 subst ht
 refine .q fun K1 k1 => rg 0 ?_
 refine k1 _ _ ?_
 refine .q fun K2 k2 => rg 0 ?_
 obtain ⟨x1, hx1, h⟩ := ob h
 refine call_pur (strings_TrimSuffix_ok _ _ _ _ hx1) okF_187 (.cons (.same _) (.cons (.same _) .nil)) (fun g => rfl) (fun g => rfl) ?_
 obtain ⟨x2, hx2, h⟩ := ob h
 refine call_pur (term_Identifier_ok _ _ _ hx2) okF_117 (.cons (.same _) .nil) (fun g => rfl) (fun g => rfl) ?_
 refine k2 _ _ ?_
 refine .ret ?_
 have e9 := sj h
 subst e9
 refine hQ _ _ _ (retPure τ_ok (fun g => rfl) ?_)
 conv => whnf
theorem term_measure_enter_ok (n : Nat) (p0 : Int) (p1 : Int) (p2 : Int) (p3 : Int) (r : Bool × Int) (h : term_measure_enter n p0 p1 p2 p3 = some r) : ACalls Tryz.prog 194 [.ptr 0 0, .i p3] [.box [.i p0, .i p1, .i p2]] (.bool r.1) [.box [.i r.2, .i p1, .i p2]] := by
 unfold term_measure_enter at h
 refine acalls_start true Tryz.func194 rfl (nt Tryz.ntmps194 rfl) fun Q hQ t ht => ?_
 conv at ht => whnf
 subst ht
 refine .q fun K1 k1 => rg 0 ?_
 refine k1 _ _ ?_
 refine .q fun K2 k2 => rg 0 ?_
 refine ⟨(IntKind.wrap .i64 (p0 + 1)), rfl, ?_⟩
 refine k2 _ _ ?_
 refine .q fun K3 k3 => ?_
 obtain ⟨s1, hj1, h⟩ := ob h
 have hR1 : ∀ t9 h9, Le 1 t9 h9 (u4 (.bool s1 :: (u16 (u8 [])))) [.box [.i (IntKind.wrap .i64 (p0 + 1)), .i p1, .i p2]] → K3 t9 h9 := by
  intro t9 h9 hw
  refine k3 _ _ (AW.le hw ?_)
  clear hw
  refine .ret ?_
  have e9 := sj h
  subst e9
  refine hQ _ _ _ (retW (u4 (.bool s1 :: (u16 (u8 [])))) [.box [.i (IntKind.wrap .i64 (p0 + 1)), .i p1, .i p2]] (wk [some 0] (.u4 (.c rfl (.u16 (.u8 .nil)))) (.b rfl (.c rfl (.c rfl (.c rfl .nil))) .nil) rfl) (retObj τ_ok [0] rfl (.cons (rfl) .nil) ?_))
  conv => whnf
  first | rfl | (simp; done) | (simp; rfl) | (simp; constructor <;> rfl)
 refine rg 0 ?_
 refine onB_cond hj1 (fun hc1 hj1 => ?_) (fun hc1 hj1 => ?_)
 ·refine ⟨rfl, ?_⟩
  cases hj1
  exact hR1 _ _ (li (.u4 (.s (.u16 (.u8 .n)))))
 ·refine ⟨rfl, ?_⟩
  cases hj1
  exact hR1 _ _ (li (.u4 (.s (.u16 (.u8 .n)))))
end Abs
end Go.Proofs.YtiiaccpcoclklaaGreat
