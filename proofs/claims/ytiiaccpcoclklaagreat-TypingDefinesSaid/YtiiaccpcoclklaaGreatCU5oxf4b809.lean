/-
  Contracts of Go functions (printed). Conditions: none.
-/
import Derived.KernelRfl
import Derived.Test.YtiiaccpcoclklaaGreatCU5x2ccce2
import Derived.Test.YtiiaccpcoclklaaGreatCU4ox8a7675
set_option linter.unusedSimpArgs false
set_option linter.unusedVariables false
namespace Go.Proofs.YtiiaccpcoclklaaGreat
namespace Abs
open Go Go.Proofs
set_option maxRecDepth 100000
set_option maxHeartbeats 40000000
theorem adi (n : Nat) (p0 : Env) (p1 : Tm) (r : Tm × Int) (h : DI n p0 p1 = some r) : ak Tryz.prog 33 [dz p0, bg p1] [] (.bq [bg r.1, .i r.2]) [] := by
 unfold DI at h
 refine ah true Tryz.func33 rfl (nt Tryz.ntmps33 rfl) fun Q hQ t ht => ?_
 conv at ht => whnf
 subst ht
 refine .q fun K1 k1 => rg 3 ?_
 refine k1 _ _ ?_
 refine .q fun K2 k2 => .q fun K3 k3 => rg 1 ?_
 obtain ⟨x1, hx1, h⟩ := ob h
 refine cp (Dj _ _ _ _ hx1) Wz (.cons (.same _) (.cons (.same _) .nil)) ?_
 refine k3 _ _ ?_
 refine .q fun K4 k4 => rg 0 ?_
 refine k4 _ _ ?_
 refine .aC rfl h (fun hc1 h => ?_) (fun hc1 h => ?_)
 ·refine .q fun K5 k5 => rg 0 ?_
  refine k5 _ _ ?_
  refine .ret ?_
  have e9 := sj h
  subst e9
  refine hQ _ _ _ (aj aD (fun g => by simp) ?_)
  conv => whnf
  try rfl
 refine .skip ?_
 refine k2 _ _ ?_
 refine .q fun K6 k6 => rg 1 ?_
 obtain ⟨x2, hx2, h⟩ := ob h
 refine cp (adA _ _ _ hx2) FJ (.cons (.same _) .nil) ?_
 refine k6 _ _ ?_
 refine .q fun K7 k7 => .q fun K8 k8 => rg 0 ?_
 obtain ⟨x3, hx3, h⟩ := ob h
 refine au (jE _ _ _ hx3) uP (.cons (.same _) .nil) (fun g => by simp) (fun g => rfl) ?_
 refine k8 _ _ ?_
 refine .aC rfl h (fun hc2 h => ?_) (fun hc2 h => ?_)
 ·refine .q fun K9 k9 => rg 0 ?_
  refine k9 _ _ ?_
  refine .ret ?_
  have e9 := sj h
  subst e9
  refine hQ _ _ _ (aj aD (fun g => by simp) ?_)
  conv => whnf
  try rfl
 refine .skip ?_
 refine k7 _ _ ?_
 refine .q fun K10 k10 => rg 0 ?_
 obtain ⟨x4, hx4, h⟩ := ob h
 refine cp (D7 _ _ _ hx4) Fg (.cons (.same _) .nil) ?_
 refine k10 _ _ ?_
 refine .ret ?_
 have e9 := sj h
 subst e9
 refine hQ _ _ _ (aj aD (fun g => by simp) ?_)
 conv => whnf
 try rfl
abbrev R1_SameTerm_S (rec_R1_SameTerm : Tm → Tm → Option Bool) : Prop := ∀ (p0 : Tm) (p1 : Tm) (r : Bool), rec_R1_SameTerm p0 p1 = some r → ak Tryz.prog 34 [bg p0, bg p1] [] (.bool r) []
abbrev R1_SameTerms_S (rec_R1_SameTerms : (List Tm) → (List Tm) → Option Bool) : Prop := ∀ (p0 : List Tm) (p1 : List Tm) (r : Bool), rec_R1_SameTerms p0 p1 = some r → ak Tryz.prog 89 [bn p0, bn p1] [] (.bool r) []
theorem N8 (n : Nat) (rec_R1_SameTerm : Tm → Tm → Option Bool) (rec_R1_SameTerms : (List Tm) → (List Tm) → Option Bool) (hrec_R1_SameTerm : R1_SameTerm_S rec_R1_SameTerm) (hrec_R1_SameTerms : R1_SameTerms_S rec_R1_SameTerms) (p0 : Tm) (p1 : Tm) (r : Bool) (h : tK n rec_R1_SameTerm rec_R1_SameTerms p0 p1 = some r) : ak Tryz.prog 34 [bg p0, bg p1] [] (.bool r) [] := by
 unfold tK at h
 refine ah true Tryz.func34 rfl (nt Tryz.ntmps34 rfl) fun Q hQ t ht => ?_
 conv at ht => whnf
 subst ht
 refine .q fun K1 k1 => rg 2 ?_
 refine k1 _ _ ?_
 refine .q fun K2 k2 => ?_
 obtain ⟨s1, hj1, h⟩ := ob h
 have hR1 : ∀ t9 h9, Le 0 t9 h9 (u4 (.bool s1 :: (u32 (.unk :: [])))) [] → K2 t9 h9 := by
  intro t9 h9 hw
  refine k2 _ _ (AW.le hw ?_)
  clear hw
  refine .ret ?_
  have e9 := sj h
  subst e9
  refine hQ _ _ _ (aj aD (fun g => rfl) ?_)
  conv => whnf
 refine rg 0 ?_
 refine aH hj1 (fun hc1 hj1 => ?_) (fun hc1 hj1 => ?_)
 ·refine aH hj1 (fun hc2 hj1 => ?_) (fun hc2 hj1 => ?_)
  ·refine aH hj1 (fun hc3 hj1 => ?_) (fun hc3 hj1 => ?_)
   ·obtain ⟨x1, hx1, hj1⟩ := ob hj1
    refine au (cB _ _ _ _ hx1) iQ (.cons (.same _) (.cons (.same _) .nil)) (fun g => by simp) (fun g => rfl) ?_
    refine aH hj1 (fun hc4 hj1 => ?_) (fun hc4 hj1 => ?_)
    ·obtain ⟨x2, hx2, hj1⟩ := ob hj1
     refine au (hrec_R1_SameTerms _ _ _ hx2) aqs (.cons (.same _) (.cons (.same _) .nil)) (fun g => by simp) (fun g => rfl) ?_
     cases hj1
     exact hR1 _ _ (wk [] (.u4 (.c rfl (.u32 (.u .nil)))) .nil rfl)
    cases hj1
    exact hR1 _ _ (wk [] (.u4 (.c rfl (.u32 (.u .nil)))) .nil rfl)
   cases hj1
   exact hR1 _ _ (wk [] (.u4 (.c rfl (.u32 (.u .nil)))) .nil rfl)
  cases hj1
  exact hR1 _ _ (wk [] (.u4 (.c rfl (.u32 (.u .nil)))) .nil rfl)
 cases hj1
 exact hR1 _ _ (wk [] (.u4 (.c rfl (.u32 (.u .nil)))) .nil rfl)
theorem Nq (n : Nat) (rec_R1_SameTerm : Tm → Tm → Option Bool) (rec_R1_SameTerms : (List Tm) → (List Tm) → Option Bool) (hrec_R1_SameTerm : R1_SameTerm_S rec_R1_SameTerm) (hrec_R1_SameTerms : R1_SameTerms_S rec_R1_SameTerms) (p0 : List Tm) (p1 : List Tm) (r : Bool) (h : rQ n rec_R1_SameTerm rec_R1_SameTerms p0 p1 = some r) : ak Tryz.prog 89 [bn p0, bn p1] [] (.bool r) [] := by
 unfold rQ at h
 refine ah true Tryz.func89 rfl (nt Tryz.ntmps89 rfl) fun Q hQ t ht => ?_
 conv at ht => whnf
 subst ht
 refine .q fun K1 k1 => rg 0 ?_
 refine k1 _ _ ?_
 refine .q fun K2 k2 => .q fun K3 k3 => rg 0 ?_
 refine aW (l := p0) (f := aS) ?_
 refine aW (l := p1) (f := aS) ?_
 refine k3 _ _ ?_
 refine .aC rfl h (fun hc1 h => ?_) (fun hc1 h => ?_)
 ·refine .q fun K4 k4 => rg 0 ?_
  refine k4 _ _ ?_
  refine .ret ?_
  have e9 := sj h
  subst e9
  refine hQ _ _ _ (aj aD (fun g => rfl) ?_)
  conv => whnf
 refine .skip ?_
 refine k2 _ _ ?_
 refine .q fun K5 k5 => .q fun K6 k6 => rg 0 ?_
 refine k6 _ _ ?_
 refine .block ?_
 obtain ⟨o1, ho1, h⟩ := ob h
 have hR1 : ∀ s2 : Unit, o1 = .nx s2 → ∀ t9 h9, Le 0 t9 h9 (u16 (u8 (u2 (.unk :: [])))) [] → K5 t9 h9 := by
  intro s2 ho
  subst ho
  dsimp only [LR.el] at h
  intro t9 h9 hw
  refine k5 _ _ (AW.le hw ?_)
  refine .q fun K7 k7 => rg 0 ?_
  refine k7 _ _ ?_
  refine .ret ?_
  have e9 := sj h
  subst e9
  refine hQ _ _ _ (aj aD (fun g => rfl) ?_)
  conv => whnf
 refine .loopS (uT n rec_R1_SameTerm rec_R1_SameTerms p0 p1) (fun (s1 : Int) => (bn p0 :: (bn p1 :: (u2 (.unk :: (.i s1 :: (u16 (u4 (.unk :: []))))))))) (fun (s1 : Int) => []) ho1 (fun _ => rfl) (li (.s (.s (.u2 (.u (.s (.u16 (.u4 (.u .n))))))))) ?_
 intro n1 s1 hs1 KL1 hKL1
 unfold uT at hs1
 refine .q fun K8 k8 => .q fun K9 k9 => rg 0 ?_
 refine aW (l := p0) (f := aS) ?_
 refine k9 _ _ ?_
 refine .aC rfl hs1 (fun hc2 hs1 => ?_) (fun hc2 hs1 => ?_)
 ·refine .skip ?_
  refine k8 _ _ ?_
  refine .q fun K10 k10 => ?_
  refine .block ?_
  refine .q fun K11 k11 => rg 0 ?_
  obtain ⟨x1, hx1, hs1⟩ := ob hs1
  refine aJ (l := p0) (f := aS) (cs := [.i ((x1).op), .str ((x1).name), .i ((x1).n), .i (((x1).ty).kind), .str (((x1).ty).name), aI (((x1).ty).kids), bn ((x1).kids)]) hx1 (aX x1) rfl ?_
  obtain ⟨x2, hx2, hs1⟩ := ob hs1
  refine aJ (l := p1) (f := aS) (cs := [.i ((x2).op), .str ((x2).name), .i ((x2).n), .i (((x2).ty).kind), .str (((x2).ty).name), aI (((x2).ty).kids), bn ((x2).kids)]) hx2 (aX x2) rfl ?_
  obtain ⟨x3, hx3, hs1⟩ := ob hs1
  refine au (hrec_R1_SameTerm _ _ _ hx3) ZG (.cons (.same _) (.cons (.same _) .nil)) (fun g => by simp) (fun g => rfl) ?_
  refine ⟨rfl, ?_⟩
  refine k11 _ _ ?_
  refine .aC rfl hs1 (fun hc3 hs1 => ?_) (fun hc3 hs1 => ?_)
  ·refine .q fun K12 k12 => rg 0 ?_
   refine k12 _ _ ?_
   refine .ret ?_
   have e9 := sj hs1
   subst e9
   dsimp only [LR.el] at h
   have e9 := sj h
   subst e9
   refine hQ _ _ _ (aj aD (fun g => rfl) ?_)
   conv => whnf
  refine .skip ?_
  refine k10 _ _ ?_
  refine .know 5 0 fun hv1 => ?_
  refine .know 0 0 fun hv2 => ?_
  refine rg 0 ?_
  refine ⟨(s1 + 1), by have := dn hv1; have := eP hv2; have h8 := of_decide_eq_true hc2; exact bG (by omega) (by omega), ?_⟩
  exact hKL1 _ _ _ hs1 (li (.s (.s (.u2 (.u (.s (.u16 (.u4 (.u .n)))))))))
 refine .exit ?_
 exact hR1 _ (sj hs1).symm _ _ (li (.u16 (.u8 (.u2 (.u .n)))))
theorem Jf (n : Nat) : R1_SameTerm_S (jH n) ∧ R1_SameTerms_S (om n) := by
 induction n with
 | zero => exact ⟨(fun p0 p1 r h => by unfold jH at h; cases h), (fun p0 p1 r h => by unfold om at h; cases h)⟩
 | succ n ih =>
  exact ⟨(fun p0 p1 r h => N8 n _ _ ih.1 ih.2 p0 p1 r (by unfold jH at h; exact h)), (fun p0 p1 r h => Nq n _ _ ih.1 ih.2 p0 p1 r (by unfold om at h; exact h))⟩
theorem Ey (n : Nat) : R1_SameTerm_S (jH n) := (Jf n).1
abbrev typing_total_S (rec_typing_total : Tm → Option Bool) : Prop := ∀ (p0 : Tm) (r : Bool), rec_typing_total p0 = some r → ak Tryz.prog 90 [bg p0] [] (.bool r) []
theorem Np (n : Nat) (rec_typing_total : Tm → Option Bool) (hrec_typing_total : typing_total_S rec_typing_total) (p0 : Tm) (r : Bool) (h : sF n rec_typing_total p0 = some r) : ak Tryz.prog 90 [bg p0] [] (.bool r) [] := by
 unfold sF at h
 refine ah true Tryz.func90 rfl (nt Tryz.ntmps90 rfl) fun Q hQ t ht => ?_
 conv at ht => whnf
 subst ht
 refine .q fun K1 k1 => rg 1 ?_
 refine k1 _ _ ?_
 refine .q fun K2 k2 => .q fun K3 k3 => rg 0 ?_
 refine k3 _ _ ?_
 refine .block ?_
 refine .q fun K4 k4 => ?_
 obtain ⟨s1, hj1, h⟩ := ob h
 have hR1 : ∀ t9 h9, Le 0 t9 h9 (.unk :: (.ptr 0 0 :: (u4 (.unk :: (.bool s1 :: (u16 [])))))) [.box [.i p0.op, .str p0.name, .i p0.n, .i p0.ty.kind, .str p0.ty.name, aI p0.ty.kids, bn p0.kids]] → K4 t9 h9 := by
  intro t9 h9 hw
  refine k4 _ _ (AW.le hw ?_)
  clear hw
  refine .aC rfl h (fun hc1 h => ?_) (fun hc1 h => ?_)
  ·refine .q fun K5 k5 => rg 0 ?_
   refine k5 _ _ ?_
   refine .ret ?_
   have e9 := sj h
   subst e9
   refine hQ _ _ _ (aj aD (fun g => rfl) ?_)
   conv => whnf
  refine .skip ?_
  refine k2 _ _ ?_
  refine .q fun K6 k6 => .q fun K7 k7 => rg 0 ?_
  refine aW (l := p0.kids) (f := aS) ?_
  refine k7 _ _ ?_
  refine .block ?_
  obtain ⟨o1, ho1, h⟩ := ob h
  have hR2 : ∀ s3 : Unit, o1 = .nx s3 → ∀ t9 h9, Le 0 t9 h9 (u16 (u8 [])) [] → K6 t9 h9 := by
   intro s3 ho
   subst ho
   dsimp only [LR.el] at h
   intro t9 h9 hw
   refine k6 _ _ (AW.le hw ?_)
   refine .q fun K8 k8 => rg 0 ?_
   refine k8 _ _ ?_
   refine .ret ?_
   have e9 := sj h
   subst e9
   refine hQ _ _ _ (aj aD (fun g => rfl) ?_)
   conv => whnf
  refine .loopS (vw n rec_typing_total p0) (fun (s2 : Int) => (u8 (u4 (u2 (bn p0.kids :: (.i (p0.kids.length : Int) :: (.i s2 :: (u4 (u2 (.unk :: [])))))))))) (fun (s2 : Int) => []) ho1 (fun _ => rfl) (wk [] (.u8 (.u4 (.u2 (.e aN (.c rfl (.c rfl (.u4 (.u2 (.u .nil))))))))) .nil rfl) ?_
  intro n1 s2 hs1 KL1 hKL1
  unfold vw at hs1
  refine .q fun K9 k9 => rg 0 ?_
  refine k9 _ _ ?_
  refine .q fun K10 k10 => ?_
  refine .aC rfl hs1 (fun hc2 hs1 => ?_) (fun hc2 hs1 => ?_)
  ·refine .skip ?_
   refine k10 _ _ ?_
   refine .q fun K11 k11 => ?_
   refine .block ?_
   refine .q fun K12 k12 => rg 1 ?_
   obtain ⟨x1, hx1, hs1⟩ := ob hs1
   refine aJ (l := p0.kids) (f := aS) (cs := [.i ((x1).op), .str ((x1).name), .i ((x1).n), .i (((x1).ty).kind), .str (((x1).ty).name), aI (((x1).ty).kids), bn ((x1).kids)]) hx1 (aX x1) rfl ?_
   refine k12 _ _ ?_
   refine .q fun K13 k13 => rg 0 ?_
   obtain ⟨x2, hx2, hs1⟩ := ob hs1
   refine au (hrec_typing_total _ _ hx2) akL (.cons (.same _) .nil) (fun g => by simp) (fun g => rfl) ?_
   refine k13 _ _ ?_
   refine .aC rfl hs1 (fun hc3 hs1 => ?_) (fun hc3 hs1 => ?_)
   ·refine .q fun K14 k14 => rg 0 ?_
    refine k14 _ _ ?_
    refine .ret ?_
    have e9 := sj hs1
    subst e9
    dsimp only [LR.el] at h
    have e9 := sj h
    subst e9
    refine hQ _ _ _ (aj aD (fun g => rfl) ?_)
    conv => whnf
   refine .skip ?_
   refine k11 _ _ ?_
   refine .know 16 0 fun hv1 => ?_
   refine .know 14 0 fun hv2 => ?_
   refine rg 0 ?_
   refine ⟨(s2 + 1), by have := dn hv1; have := eP hv2; have h8 := of_decide_eq_true hc2; exact bG (by omega) (by omega), ?_⟩
   exact hKL1 _ _ _ hs1 (wk [] (.u8 (.u4 (.u2 (.e aN (.c rfl (.c rfl (.u4 (.u2 (.u .nil))))))))) .nil rfl)
  refine .exit ?_
  exact hR2 _ (sj hs1).symm _ _ (li (.u16 (.u8 .n)))
 refine .q fun K15 k15 => rg 0 ?_
 refine k15 _ _ ?_
 refine .aC rfl hj1 (fun hc4 hj1 => ?_) (fun hc4 hj1 => ?_)
 ·refine .skip ?_
  cases hj1
  exact hR1 _ _ (li (.u (.s (.u4 (.u (.s (.u16 .n)))))))
 refine .q fun K16 k16 => rg 0 ?_
 refine k16 _ _ ?_
 refine .aC rfl hj1 (fun hc5 hj1 => ?_) (fun hc5 hj1 => ?_)
 ·refine .skip ?_
  cases hj1
  exact hR1 _ _ (li (.u (.s (.u4 (.u (.s (.u16 .n)))))))
 refine .q fun K17 k17 => rg 0 ?_
 refine k17 _ _ ?_
 refine .aC rfl hj1 (fun hc6 hj1 => ?_) (fun hc6 hj1 => ?_)
 ·refine .skip ?_
  cases hj1
  exact hR1 _ _ (li (.u (.s (.u4 (.u (.s (.u16 .n)))))))
 refine .q fun K18 k18 => rg 0 ?_
 refine k18 _ _ ?_
 refine .aC rfl hj1 (fun hc7 hj1 => ?_) (fun hc7 hj1 => ?_)
 ·refine .skip ?_
  cases hj1
  exact hR1 _ _ (li (.u (.s (.u4 (.u (.s (.u16 .n)))))))
 refine rg 0 ?_
 cases hj1
 exact hR1 _ _ (li (.u (.s (.u4 (.u (.s (.u16 .n)))))))
theorem VR (n : Nat) : typing_total_S (mX n) := by
 induction n with
 | zero => exact (fun p0 r h => by unfold mX at h; cases h)
 | succ n ih =>
  exact (fun p0 r h => Np n _ ih p0 r (by unfold mX at h; exact h))
theorem WG (n : Nat) : typing_total_S (mX n) := (VR n)
theorem Je (n : Nat) (p0 : Tm) (r : Bool) (h : wZ n p0 = some r) : ak Tryz.prog 35 [bg p0] [] (.bool r) [] := by
 unfold wZ at h
 refine ah true Tryz.func35 rfl (nt Tryz.ntmps35 rfl) fun Q hQ t ht => ?_
 conv at ht => whnf
 subst ht
 refine .q fun K1 k1 => rg 1 ?_
 refine k1 _ _ ?_
 refine .q fun K2 k2 => ?_
 obtain ⟨s1, hj1, h⟩ := ob h
 have hR1 : ∀ t9 h9, Le 0 t9 h9 (u2 (.bool s1 :: (u4 (u2 [])))) [] → K2 t9 h9 := by
  intro t9 h9 hw
  refine k2 _ _ (AW.le hw ?_)
  clear hw
  refine .ret ?_
  have e9 := sj h
  subst e9
  refine hQ _ _ _ (aj aD (fun g => rfl) ?_)
  conv => whnf
 refine rg 0 ?_
 obtain ⟨x1, hx1, hj1⟩ := ob hj1
 refine au (FV _ _ _ hx1) ae0 (.cons (.same _) .nil) (fun g => by simp) (fun g => rfl) ?_
 refine aH hj1 (fun hc1 hj1 => ?_) (fun hc1 hj1 => ?_)
 ·obtain ⟨x2, hx2, hj1⟩ := ob hj1
  refine au (WG _ _ _ hx2) akL (.cons (.same _) .nil) (fun g => by simp) (fun g => rfl) ?_
  cases hj1
  exact hR1 _ _ (wk [] (.u2 (.c rfl (.u4 (.u2 .nil)))) .nil rfl)
 cases hj1
 exact hR1 _ _ (wk [] (.u2 (.c rfl (.u4 (.u2 .nil)))) .nil rfl)
abbrev R2_total_S (rec_R2_total : Tm → Option Bool) : Prop := ∀ (p0 : Tm) (r : Bool), rec_R2_total p0 = some r → ak Tryz.prog 91 [bg p0] [] (.bool r) []
theorem Wm (n : Nat) (rec_R2_total : Tm → Option Bool) (hrec_R2_total : R2_total_S rec_R2_total) (p0 : Tm) (r : Bool) (h : yA n rec_R2_total p0 = some r) : ak Tryz.prog 91 [bg p0] [] (.bool r) [] := by
 unfold yA at h
 refine ah true Tryz.func91 rfl (nt Tryz.ntmps91 rfl) fun Q hQ t ht => ?_
 conv at ht => whnf
 subst ht
 refine .q fun K1 k1 => rg 1 ?_
 refine k1 _ _ ?_
 refine .q fun K2 k2 => .q fun K3 k3 => ?_
 obtain ⟨s1, hj1, h⟩ := ob h
 have hR1 : ∀ t9 h9, Le 0 t9 h9 (.unk :: (.ptr 0 0 :: (u16 (u8 (.bool s1 :: (u8 (u4 (u2 [])))))))) [.box [.i p0.op, .str p0.name, .i p0.n, .i p0.ty.kind, .str p0.ty.name, aI p0.ty.kids, bn p0.kids]] → K3 t9 h9 := by
  intro t9 h9 hw
  refine k3 _ _ (AW.le hw ?_)
  clear hw
  refine .aC rfl h (fun hc1 h => ?_) (fun hc1 h => ?_)
  ·refine .q fun K4 k4 => rg 0 ?_
   refine k4 _ _ ?_
   refine .ret ?_
   have e9 := sj h
   subst e9
   refine hQ _ _ _ (aj aD (fun g => rfl) ?_)
   conv => whnf
  refine .skip ?_
  refine k2 _ _ ?_
  refine .q fun K5 k5 => .q fun K6 k6 => rg 0 ?_
  refine k6 _ _ ?_
  refine .block ?_
  obtain ⟨o1, ho1, h⟩ := ob h
  have hR2 : ∀ s3 : Unit, o1 = .nx s3 → ∀ t9 h9, Le 0 t9 h9 (u32 (u8 (.unk :: []))) [] → K5 t9 h9 := by
   intro s3 ho
   subst ho
   dsimp only [LR.el] at h
   intro t9 h9 hw
   refine k5 _ _ (AW.le hw ?_)
   refine .q fun K7 k7 => rg 0 ?_
   refine k7 _ _ ?_
   refine .ret ?_
   have e9 := sj h
   subst e9
   refine hQ _ _ _ (aj aD (fun g => rfl) ?_)
   conv => whnf
  refine .loopS (BA n rec_R2_total p0) (fun (s2 : Int) => (.unk :: (.ptr 0 0 :: (.unk :: (.i s2 :: (u32 (u4 (.unk :: [])))))))) (fun (s2 : Int) => [.box [.i p0.op, .str p0.name, .i p0.n, .i p0.ty.kind, .str p0.ty.name, aI p0.ty.kids, bn p0.kids]]) ho1 (fun _ => rfl) (li (.u (.s (.u (.s (.u16 (.u16 (.u4 (.u .n))))))))) ?_
  intro n1 s2 hs1 KL1 hKL1
  unfold BA at hs1
  refine .q fun K8 k8 => .q fun K9 k9 => rg 0 ?_
  refine aW (l := p0.kids) (f := aS) ?_
  refine k9 _ _ ?_
  refine .aC rfl hs1 (fun hc2 hs1 => ?_) (fun hc2 hs1 => ?_)
  ·refine .skip ?_
   refine k8 _ _ ?_
   refine .q fun K10 k10 => ?_
   refine .block ?_
   refine .q fun K11 k11 => rg 0 ?_
   obtain ⟨x1, hx1, hs1⟩ := ob hs1
   refine aJ (l := p0.kids) (f := aS) (cs := [.i ((x1).op), .str ((x1).name), .i ((x1).n), .i (((x1).ty).kind), .str (((x1).ty).name), aI (((x1).ty).kids), bn ((x1).kids)]) hx1 (aX x1) rfl ?_
   obtain ⟨x2, hx2, hs1⟩ := ob hs1
   refine au (hrec_R2_total _ _ hx2) alg (.cons (.same _) .nil) (fun g => by simp) (fun g => rfl) ?_
   refine k11 _ _ ?_
   refine .aC rfl hs1 (fun hc3 hs1 => ?_) (fun hc3 hs1 => ?_)
   ·refine .q fun K12 k12 => rg 0 ?_
    refine k12 _ _ ?_
    refine .ret ?_
    have e9 := sj hs1
    subst e9
    dsimp only [LR.el] at h
    have e9 := sj h
    subst e9
    refine hQ _ _ _ (aj aD (fun g => rfl) ?_)
    conv => whnf
   refine .skip ?_
   refine k10 _ _ ?_
   refine .know 3 0 fun hv1 => ?_
   refine .know 29 0 fun hv2 => ?_
   refine rg 0 ?_
   refine ⟨(s2 + 1), by have := dn hv1; have := eP hv2; have h8 := of_decide_eq_true hc2; exact bG (by omega) (by omega), ?_⟩
   exact hKL1 _ _ _ hs1 (li (.u (.s (.u (.s (.u16 (.u16 (.u4 (.u .n)))))))))
  refine .exit ?_
  exact hR2 _ (sj hs1).symm _ _ (wk [] (.u32 (.u8 (.u .nil))) .nil rfl)
 refine rg 0 ?_
 refine aH hj1 (fun hc4 hj1 => ?_) (fun hc4 hj1 => ?_)
 ·cases hj1
  exact hR1 _ _ (li (.u (.s (.u16 (.u8 (.s (.u8 (.u4 (.u2 .n)))))))))
 refine aH hj1 (fun hc5 hj1 => ?_) (fun hc5 hj1 => ?_)
 ·cases hj1
  exact hR1 _ _ (li (.u (.s (.u16 (.u8 (.s (.u8 (.u4 (.u2 .n)))))))))
 refine aH hj1 (fun hc6 hj1 => ?_) (fun hc6 hj1 => ?_)
 ·cases hj1
  exact hR1 _ _ (li (.u (.s (.u16 (.u8 (.s (.u8 (.u4 (.u2 .n)))))))))
 refine aH hj1 (fun hc7 hj1 => ?_) (fun hc7 hj1 => ?_)
 ·cases hj1
  exact hR1 _ _ (li (.u (.s (.u16 (.u8 (.s (.u8 (.u4 (.u2 .n)))))))))
 cases hj1
 exact hR1 _ _ (li (.u (.s (.u16 (.u8 (.s (.u8 (.u4 (.u2 .n)))))))))
theorem aeD (n : Nat) : R2_total_S (vQ n) := by
 induction n with
 | zero => exact (fun p0 r h => by unfold vQ at h; cases h)
 | succ n ih =>
  exact (fun p0 r h => Wm n _ ih p0 r (by unfold vQ at h; exact h))
theorem agF (n : Nat) : R2_total_S (vQ n) := (aeD n)
theorem agO (n : Nat) (p0 : Tm) (r : Bool) (h : Im n p0 = some r) : ak Tryz.prog 36 [bg p0] [] (.bool r) [] := by
 unfold Im at h
 refine ah true Tryz.func36 rfl (nt Tryz.ntmps36 rfl) fun Q hQ t ht => ?_
 conv at ht => whnf
 subst ht
 refine .q fun K1 k1 => rg 1 ?_
 refine k1 _ _ ?_
 refine .q fun K2 k2 => ?_
 obtain ⟨s1, hj1, h⟩ := ob h
 have hR1 : ∀ t9 h9, Le 0 t9 h9 (u2 (.bool s1 :: (u4 (u2 [])))) [] → K2 t9 h9 := by
  intro t9 h9 hw
  refine k2 _ _ (AW.le hw ?_)
  clear hw
  refine .ret ?_
  have e9 := sj h
  subst e9
  refine hQ _ _ _ (aj aD (fun g => rfl) ?_)
  conv => whnf
 refine rg 0 ?_
 obtain ⟨x1, hx1, hj1⟩ := ob hj1
 refine au (jE _ _ _ hx1) uP (.cons (.same _) .nil) (fun g => by simp) (fun g => rfl) ?_
 refine aH hj1 (fun hc1 hj1 => ?_) (fun hc1 hj1 => ?_)
 ·obtain ⟨x2, hx2, hj1⟩ := ob hj1
  refine au (agF _ _ _ hx2) alg (.cons (.same _) .nil) (fun g => by simp) (fun g => rfl) ?_
  cases hj1
  exact hR1 _ _ (wk [] (.u2 (.c rfl (.u4 (.u2 .nil)))) .nil rfl)
 cases hj1
 exact hR1 _ _ (wk [] (.u2 (.c rfl (.u4 (.u2 .nil)))) .nil rfl)
theorem Oy (n : Nat) (p0 : Env) (p1 : Tm) (r : Bool) (h : yh n p0 p1 = some r) : ak Tryz.prog 8 [dz p0, bg p1] [] (.bool r) [] := by
 unfold yh at h
 refine ah true Tryz.func8 rfl (nt Tryz.ntmps8 rfl) fun Q hQ t ht => ?_
 conv at ht => whnf
 subst ht
 refine .q fun K1 k1 => rg 2 ?_
 refine k1 _ _ ?_
 refine .q fun K2 k2 => .q fun K3 k3 => rg 0 ?_
 obtain ⟨x1, hx1, h⟩ := ob h
 refine au (iZ _ _ _ hx1) uo (.cons (.same _) .nil) (fun g => by simp) (fun g => rfl) ?_
 refine k3 _ _ ?_
 refine .aC rfl h (fun hc1 h => ?_) (fun hc1 h => ?_)
 ·refine .q fun K4 k4 => rg 0 ?_
  obtain ⟨x2, hx2, h⟩ := ob h
  refine au (cZ _ _ hx2) gJ .nil (fun g => rfl) (fun g => rfl) ?_
  refine k4 _ _ ?_
  refine .ret ?_
  have e9 := sj h
  subst e9
  refine hQ _ _ _ (aj aD (fun g => rfl) ?_)
  conv => whnf
 refine .skip ?_
 refine k2 _ _ ?_
 refine .q fun K5 k5 => rg 1 ?_
 obtain ⟨x3, hx3, h⟩ := ob h
 refine cp (l7 _ _ _ _ hx3) Iq (.cons (.same _) (.cons (.same _) .nil)) ?_
 refine k5 _ _ ?_
 refine .q fun K6 k6 => rg 1 ?_
 obtain ⟨x4, hx4, h⟩ := ob h
 refine cp (adi _ _ _ _ hx4) aro (.cons (.same _) (.cons (.same _) .nil)) ?_
 refine k6 _ _ ?_
 refine .q fun K7 k7 => ?_
 obtain ⟨s1, hj1, h⟩ := ob h
 have hR1 : ∀ t9 h9, Le 0 t9 h9 (u4 (.bool s1 :: (u32 (u4 (u2 []))))) [] → K7 t9 h9 := by
  intro t9 h9 hw
  refine k7 _ _ (AW.le hw ?_)
  clear hw
  refine .ret ?_
  have e9 := sj h
  subst e9
  refine hQ _ _ _ (aj aD (fun g => rfl) ?_)
  conv => whnf
 refine rg 0 ?_
 refine aH hj1 (fun hc2 hj1 => ?_) (fun hc2 hj1 => ?_)
 ·obtain ⟨x5, hx5, hj1⟩ := ob hj1
  refine au (Ey _ _ _ _ hx5) ZG (.cons (.same _) (.cons (.same _) .nil)) (fun g => by simp) (fun g => rfl) ?_
  refine aH hj1 (fun hc3 hj1 => ?_) (fun hc3 hj1 => ?_)
  ·obtain ⟨x6, hx6, hj1⟩ := ob hj1
   refine au (Je _ _ _ hx6) alh (.cons (.same _) .nil) (fun g => by simp) (fun g => rfl) ?_
   obtain ⟨x7, hx7, hj1⟩ := ob hj1
   refine au (agO _ _ _ hx7) aqH (.cons (.same _) .nil) (fun g => by simp) (fun g => rfl) ?_
   refine aH hj1 (fun hc4 hj1 => ?_) (fun hc4 hj1 => ?_)
   ·obtain ⟨x8, hx8, hj1⟩ := ob hj1
    refine au (cZ _ _ hx8) gJ .nil (fun g => rfl) (fun g => rfl) ?_
    refine ⟨rfl, ?_⟩
    cases hj1
    exact hR1 _ _ (wk [] (.u4 (.c rfl (.u32 (.u4 (.u2 .nil))))) .nil rfl)
   refine ⟨rfl, ?_⟩
   cases hj1
   exact hR1 _ _ (wk [] (.u4 (.c rfl (.u32 (.u4 (.u2 .nil))))) .nil rfl)
  refine ⟨rfl, ?_⟩
  cases hj1
  exact hR1 _ _ (wk [] (.u4 (.c rfl (.u32 (.u4 (.u2 .nil))))) .nil rfl)
 refine ⟨rfl, ?_⟩
 cases hj1
 exact hR1 _ _ (wk [] (.u4 (.c rfl (.u32 (.u4 (.u2 .nil))))) .nil rfl)
end Abs
end Go.Proofs.YtiiaccpcoclklaaGreat
namespace Go.Proofs.YtiiaccpcoclklaaGreat
end Go.Proofs.YtiiaccpcoclklaaGreat
