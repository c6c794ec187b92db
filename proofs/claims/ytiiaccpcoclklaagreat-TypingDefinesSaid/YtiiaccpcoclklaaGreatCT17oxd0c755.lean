/-
  Contracts of Go functions (printed). Conditions: none.
-/
import Derived.KernelRfl
import Derived.Test.YtiiaccpcoclklaaGreatCT17x96ddbc
import Derived.Test.YtiiaccpcoclklaaGreatCDfoxd2611c
set_option linter.unusedSimpArgs false
set_option linter.unusedVariables false
namespace Go.Proofs.YtiiaccpcoclklaaGreat
namespace Abs
open Go Go.Proofs
set_option maxRecDepth 100000
set_option maxHeartbeats 40000000
abbrev R2_holdsBool_S (rec_R2_holdsBool : Ty → Option Bool) : Prop := ∀ (p0 : Ty) (r : Bool), rec_R2_holdsBool p0 = some r → ak Tryz.prog 99 [aV p0] [] (.bool r) []
theorem M9 (n : Nat) (rec_R2_holdsBool : Ty → Option Bool) (hrec_R2_holdsBool : R2_holdsBool_S rec_R2_holdsBool) (p0 : Ty) (r : Bool) (h : sD n rec_R2_holdsBool p0 = some r) : ak Tryz.prog 99 [aV p0] [] (.bool r) [] := by
 unfold sD at h
 refine ah true Tryz.func99 rfl (nt Tryz.ntmps99 rfl) fun Q hQ t ht => ?_
 conv at ht => whnf
 subst ht
 refine .q fun K1 k1 => rg 1 ?_
 refine k1 _ _ ?_
 refine .q fun K2 k2 => .q fun K3 k3 => rg 0 ?_
 refine k3 _ _ ?_
 refine .aC rfl h (fun hc1 h => ?_) (fun hc1 h => ?_)
 ·refine .q fun K4 k4 => rg 0 ?_
  refine k4 _ _ ?_
  refine .ret ?_
  have e9 := sj h
  subst e9
  refine hQ _ _ _ (aj aD (fun g => rfl) ?_)
  conv => whnf
 refine .skip ?_
 refine k2 _ _ ?_
 refine .q fun K5 k5 => .q fun K6 k6 => rg 0 ?_
 refine k6 _ _ ?_
 refine .block ?_
 obtain ⟨o1, ho1, h⟩ := ob h
 have hR1 : ∀ s2 : Unit, o1 = .nx s2 → ∀ t9 h9, Le 0 t9 h9 (u16 (u4 [])) [] → K5 t9 h9 := by
  intro s2 ho
  subst ho
  dsimp only [LR.el] at h
  intro t9 h9 hw
  refine k5 _ _ (AW.le hw ?_)
  refine .q fun K7 k7 => rg 0 ?_
  refine k7 _ _ ?_
  refine .ret ?_
  have e9 := sj h
  subst e9
  refine hQ _ _ _ (aj aD (fun g => rfl) ?_)
  conv => whnf
 refine .loopS (uS n rec_R2_holdsBool p0) (fun (s1 : Int) => (.unk :: (.ptr 0 0 :: (.unk :: (.i s1 :: (u16 [])))))) (fun (s1 : Int) => [.box [.i p0.kind, .str p0.name, aI p0.kids]]) ho1 (fun _ => rfl) (li (.u (.s (.u (.s (.u16 .n)))))) ?_
 intro n1 s1 hs1 KL1 hKL1
 unfold uS at hs1
 refine .q fun K8 k8 => .q fun K9 k9 => rg 0 ?_
 refine aW (l := p0.kids) (f := aK) ?_
 refine k9 _ _ ?_
 refine .aC rfl hs1 (fun hc2 hs1 => ?_) (fun hc2 hs1 => ?_)
 ·refine .skip ?_
  refine k8 _ _ ?_
  refine .q fun K10 k10 => ?_
  refine .block ?_
  refine .q fun K11 k11 => rg 0 ?_
  obtain ⟨x1, hx1, hs1⟩ := ob hs1
  refine aJ (l := p0.kids) (f := aK) (cs := [.i ((x1).kind), .str ((x1).name), aI ((x1).kids)]) hx1 (aR x1) rfl ?_
  obtain ⟨x2, hx2, hs1⟩ := ob hs1
  refine au (hrec_R2_holdsBool _ _ hx2) Xv (.cons (.same _) .nil) (fun g => by simp) (fun g => rfl) ?_
  refine k11 _ _ ?_
  refine .aC rfl hs1 (fun hc3 hs1 => ?_) (fun hc3 hs1 => ?_)
  ·refine .q fun K12 k12 => rg 0 ?_
   refine k12 _ _ ?_
   refine .ret ?_
   have e9 := sj hs1
   subst e9
   dsimp only [LR.el] at h
   have e9 := sj h
   subst e9
   refine hQ _ _ _ (aj aD (fun g => rfl) ?_)
   conv => whnf
  refine .skip ?_
  refine k10 _ _ ?_
  refine .know 3 0 fun hv1 => ?_
  refine .know 9 0 fun hv2 => ?_
  refine rg 0 ?_
  refine ⟨(s1 + 1), by have := dn hv1; have := eP hv2; have h8 := of_decide_eq_true hc2; exact bG (by omega) (by omega), ?_⟩
  exact hKL1 _ _ _ hs1 (li (.u (.s (.u (.s (.u16 .n))))))
 refine .exit ?_
 exact hR1 _ (sj hs1).symm _ _ (wk [] (.u16 (.u4 .nil)) .nil rfl)
theorem VN (n : Nat) : R2_holdsBool_S (j5 n) := by
 induction n with
 | zero => exact (fun p0 r h => by unfold j5 at h; cases h)
 | succ n ih =>
  exact (fun p0 r h => M9 n _ ih p0 r (by unfold j5 at h; exact h))
theorem DT (n : Nat) : R2_holdsBool_S (j5 n) := (VN n)
abbrev R2_carriers_S (rec_R2_carriers : Ty → Option (List Str)) : Prop := ∀ (p0 : Ty) (r : List Str), rec_R2_carriers p0 = some r → ak Tryz.prog 107 [aV p0] [] (bQ r) []
theorem Oq (n : Nat) (rec_R2_carriers : Ty → Option (List Str)) (hrec_R2_carriers : R2_carriers_S rec_R2_carriers) (p0 : Ty) (r : List Str) (h : tO n rec_R2_carriers p0 = some r) : ak Tryz.prog 107 [aV p0] [] (bQ r) [] := by
 unfold tO at h
 refine ah true Tryz.func107 rfl (nt Tryz.ntmps107 rfl) fun Q hQ t ht => ?_
 conv at ht => whnf
 subst ht
 refine .q fun K1 k1 => rg 1 ?_
 refine k1 _ _ ?_
 refine .q fun K2 k2 => .q fun K3 k3 => rg 0 ?_
 refine k3 _ _ ?_
 refine .aC rfl h (fun hc1 h => ?_) (fun hc1 h => ?_)
 ·refine .q fun K4 k4 => rg 1 ?_
  refine ⟨List.map encS ([p0.name]), rfl, ?_⟩
  refine k4 _ _ ?_
  refine .ret ?_
  have e9 := sj h
  subst e9
  refine hQ _ _ _ (aj aD (fun g => by simp) ?_)
  conv => whnf
  try rfl
 refine .skip ?_
 refine k2 _ _ ?_
 refine .q fun K5 k5 => rg 0 ?_
 refine k5 _ _ ?_
 refine .q fun K6 k6 => .q fun K7 k7 => rg 0 ?_
 refine k7 _ _ ?_
 refine .block ?_
 obtain ⟨o1, ho1, h⟩ := ob h
 have hR1 : ∀ s2 : List Str, o1 = .nx s2 → ∀ t9 h9, Le 0 t9 h9 (u2 (.unk :: (.slice (List.map encS s2) (.tip 0 1) :: (u16 (u4 (u2 (.unk :: []))))))) [.tip (List.length s2 * 1)] → K6 t9 h9 := by
  intro s2 ho
  subst ho
  dsimp only [LR.el] at h
  intro t9 h9 hw
  refine k6 _ _ (AW.le hw ?_)
  refine .q fun K8 k8 => rg 0 ?_
  refine k8 _ _ ?_
  refine .ret ?_
  have e9 := sj h
  subst e9
  refine hQ _ _ _ (aj aD (fun g => by simp) ?_)
  conv => whnf
  try rfl
 refine .loopS (wY n rec_R2_carriers p0) (fun (s1 : (List Str) × Int) => (.unk :: (.ptr 0 0 :: (.unk :: (.slice (List.map encS s1.1) (.tip 1 1) :: (.i s1.2 :: (u16 (u4 (u2 []))))))))) (fun (s1 : (List Str) × Int) => [.box [.i p0.kind, .str p0.name, aI p0.kids], .tip (List.length s1.1 * 1)]) ho1 (fun _ => rfl) (wk [some 0, none] (.u (.c rfl (.u (.cons (.nils _ _) (.c rfl (.u16 (.u4 (.u2 .nil)))))))) (.b rfl (.c rfl (.c rfl (.e aB .nil))) (.w rfl .nil)) rfl) ?_
 intro n1 s1 hs1 KL1 hKL1
 unfold wY at hs1
 refine .q fun K9 k9 => .q fun K10 k10 => rg 0 ?_
 refine aW (l := p0.kids) (f := aK) ?_
 refine k10 _ _ ?_
 refine .aC rfl hs1 (fun hc2 hs1 => ?_) (fun hc2 hs1 => ?_)
 ·refine .skip ?_
  refine k9 _ _ ?_
  refine .q fun K11 k11 => ?_
  refine .block ?_
  refine rg 1 ?_
  obtain ⟨x1, hx1, hs1⟩ := ob hs1
  refine aJ (l := p0.kids) (f := aK) (cs := [.i ((x1).kind), .str ((x1).name), aI ((x1).kids)]) hx1 (aR x1) rfl ?_
  obtain ⟨x2, hx2, hs1⟩ := ob hs1
  refine cp (hrec_R2_carriers _ _ hx2) ab5 (.cons (.same _) .nil) ?_
  obtain ⟨x3, hx3, hs1⟩ := ob hs1
  refine dW (l := s1.1) (ys := x2) (f := encS) hx3 wU rfl rfl rfl ?_
  refine k11 _ _ ?_
  refine .know 4 0 fun hv1 => ?_
  refine .know 13 0 fun hv2 => ?_
  refine rg 0 ?_
  refine ⟨(s1.2 + 1), by have := dn hv1; have := eP hv2; have h8 := of_decide_eq_true hc2; exact bG (by omega) (by omega), ?_⟩
  exact hKL1 _ _ _ hs1 (wk [some 0, some 2] (.u (.c rfl (.u (.cons (.bF (aZ _ _) rfl) (.c rfl (.u16 (.u4 (.u2 .nil)))))))) (.b rfl (.c rfl (.c rfl (.e aB .nil))) (.t rfl .nil)) rfl)
 refine .exit ?_
 exact hR1 _ (sj hs1).symm _ _ (wk [some 1] (.u2 (.u (.cons (.bF (aZ _ _) rfl) (.u16 (.u4 (.u2 (.u .nil))))))) (.t rfl .nil) rfl)
theorem WS (n : Nat) : R2_carriers_S (og n) := by
 induction n with
 | zero => exact (fun p0 r h => by unfold og at h; cases h)
 | succ n ih =>
  exact (fun p0 r h => Oq n _ ih p0 r (by unfold og at h; exact h))
theorem KI (n : Nat) : R2_carriers_S (og n) := (WS n)
theorem AX (n : Nat) (p0 : Env) (p1 : Str) (r : Int) (h : kH n p0 p1 = some r) : ak Tryz.prog 128 [dz p0, .str p1] [] (.i r) [] := by
 unfold kH at h
 refine ah true Tryz.func128 rfl (nt Tryz.ntmps128 rfl) fun Q hQ t ht => ?_
 conv at ht => whnf
 subst ht
 refine .q fun K1 k1 => rg 1 ?_
 refine k1 _ _ ?_
 refine .q fun K2 k2 => .q fun K3 k3 => rg 0 ?_
 refine k3 _ _ ?_
 refine .block ?_
 obtain ⟨o1, ho1, h⟩ := ob h
 have hR1 : ∀ s2 : Unit, o1 = .nx s2 → ∀ t9 h9, Le 0 t9 h9 (u16 (u4 (u2 []))) [] → K2 t9 h9 := by
  intro s2 ho
  subst ho
  dsimp only [LR.el] at h
  intro t9 h9 hw
  refine k2 _ _ (AW.le hw ?_)
  refine .q fun K4 k4 => rg 0 ?_
  refine k4 _ _ ?_
  refine .ret ?_
  have e9 := sj h
  subst e9
  refine hQ _ _ _ (aj aD (fun g => rfl) ?_)
  conv => whnf
 refine .loopS (rZ n p0 p1) (fun (s1 : Int) => (.unk :: (.str p1 :: (.ptr 0 0 :: (u2 (.i s1 :: (u16 []))))))) (fun (s1 : Int) => [.box [bT p0.carriers, bU p0.names]]) ho1 (fun _ => rfl) (li (.u (.s (.s (.u2 (.s (.u16 .n))))))) ?_
 intro n1 s1 hs1 KL1 hKL1
 unfold rZ at hs1
 refine .q fun K5 k5 => .q fun K6 k6 => rg 0 ?_
 refine aW (l := p0.carriers) (f := aL) ?_
 refine k6 _ _ ?_
 refine .aC rfl hs1 (fun hc1 hs1 => ?_) (fun hc1 hs1 => ?_)
 ·refine .skip ?_
  refine k5 _ _ ?_
  refine .q fun K7 k7 => ?_
  refine .block ?_
  refine .q fun K8 k8 => rg 0 ?_
  obtain ⟨x1, hx1, hs1⟩ := ob hs1
  refine aJ (l := p0.carriers) (f := aL) (cs := [.str ((x1).name), bQ ((x1).elems)]) hx1 (rfl) rfl ?_
  refine k8 _ _ ?_
  refine .aC rfl hs1 (fun hc2 hs1 => ?_) (fun hc2 hs1 => ?_)
  ·refine .q fun K9 k9 => rg 0 ?_
   refine k9 _ _ ?_
   refine .ret ?_
   have e9 := sj hs1
   subst e9
   dsimp only [LR.el] at h
   have e9 := sj h
   subst e9
   refine hQ _ _ _ (aj aD (fun g => rfl) ?_)
   conv => whnf
  refine .skip ?_
  refine k7 _ _ ?_
  refine .know 5 0 fun hv1 => ?_
  refine .know 8 0 fun hv2 => ?_
  refine rg 0 ?_
  refine ⟨(s1 + 1), by have := dn hv1; have := eP hv2; have h8 := of_decide_eq_true hc1; exact bG (by omega) (by omega), ?_⟩
  exact hKL1 _ _ _ hs1 (li (.u (.s (.s (.u2 (.s (.u16 .n)))))))
 refine .exit ?_
 exact hR1 _ (sj hs1).symm _ _ (wk [] (.u16 (.u4 (.u2 .nil))) .nil rfl)
end Abs
end Go.Proofs.YtiiaccpcoclklaaGreat
