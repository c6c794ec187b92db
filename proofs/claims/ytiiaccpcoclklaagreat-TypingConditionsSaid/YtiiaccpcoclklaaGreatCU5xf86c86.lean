/-
  Plain functions and the contracts of Go functions by them (printed by gen.py). Conditions: none.
-/
import Derived.KernelRfl
import Derived.Test.YtiiaccpcoclklaaGreatCAbs38xf5d4b8
import Derived.Test.YtiiaccpcoclklaaGreatCDfx70d822
import Derived.Test.YtiiaccpcoclklaaGreatCDgx5ff6e3
import Derived.Test.YtiiaccpcoclklaaGreatCAwxd2604b
import Derived.Test.YtiiaccpcoclklaaGreatCT1x37f514
import Derived.Test.YtiiaccpcoclklaaGreatCT4xe22024
import Derived.Test.YtiiaccpcoclklaaGreatCT5x5135bf
import Derived.Test.YtiiaccpcoclklaaGreatCT6x32a01b
import Derived.Test.YtiiaccpcoclklaaGreatCT11xbc19cd
import Derived.Test.YtiiaccpcoclklaaGreatCT16x39cf98
import Derived.Test.YtiiaccpcoclklaaGreatCT17x91c7ad
import Derived.Test.YtiiaccpcoclklaaGreatCT19xe6117e
import Derived.Test.YtiiaccpcoclklaaGreatCT25x4c18dc
import Derived.Test.YtiiaccpcoclklaaGreatCU3xed5df8
import Derived.Test.YtiiaccpcoclklaaGreatCU4xd8ece0
set_option linter.unusedSimpArgs false
set_option linter.unusedVariables false
namespace Go.Proofs.YtiiaccpcoclklaaGreat
namespace Abs
open Go Go.Proofs
set_option maxRecDepth 100000
set_option maxHeartbeats 40000000
abbrev uQ (rec_typing_total : Tm → Option Bool) : Prop := ∀ (p0 : Tm) (r : Bool), rec_typing_total p0 = some r → ak Tryz.prog 90 [dW p0] [] (.bool r) []
theorem AP (n : Nat) (rec_typing_total : Tm → Option Bool) (hrec_typing_total : uQ rec_typing_total) (p0 : Tm) (r : Bool) (h : l8 n rec_typing_total p0 = some r) : ak Tryz.prog 90 [dW p0] [] (.bool r) [] := by
 unfold l8 at h
 refine ah true Tryz.func90 rfl (nt Tryz.ntmps90 rfl) fun Q hQ t ht => ?_
 conv at ht => whnf
 subst ht
 refine .q fun K1 k1 => rg 1 ?_
 refine k1 _ _ ?_
 refine .q fun K2 k2 => .q fun K3 k3 => rg 0 ?_
 refine k3 _ _ ?_
 refine .block ?_
 refine .q fun K4 k4 => ?_
 obtain ⟨s1, hj1, h⟩ := ob h
 have hR1 : ∀ t9 h9, Le 0 t9 h9 (.unk :: (.ptr 0 0 :: (u4 (.unk :: (.bool s1 :: (u16 [])))))) [.box [.i p0.op, .str p0.name, .i p0.n, .i p0.ty.kind, .str p0.ty.name, aJ p0.ty.kids, dN p0.kids]] → K4 t9 h9 := by
  intro t9 h9 hw
  refine k4 _ _ (AW.le hw ?_)
  clear hw
  refine .aA rfl h (fun hc1 h => ?_) (fun hc1 h => ?_)
  ·refine .q fun K5 k5 => rg 0 ?_
   refine k5 _ _ ?_
   refine .ret ?_
   have e9 := sj h
   subst e9
   refine hQ _ _ _ (aj au (fun g => rfl) ?_)
   conv => whnf
  refine .skip ?_
  refine k2 _ _ ?_
  refine .q fun K6 k6 => .q fun K7 k7 => rg 0 ?_
  refine bO (l := p0.kids) (f := aY) ?_
  refine k7 _ _ ?_
  refine .block ?_
  obtain ⟨o1, ho1, h⟩ := ob h
  have hR2 : ∀ s3 : Unit, o1 = .nx s3 → ∀ t9 h9, Le 0 t9 h9 (u16 (u8 [])) [] → K6 t9 h9 := by
   intro s3 ho
   subst ho
   dsimp only [LR.el] at h
   intro t9 h9 hw
   refine k6 _ _ (AW.le hw ?_)
   refine .q fun K8 k8 => rg 0 ?_
   refine k8 _ _ ?_
   refine .ret ?_
   have e9 := sj h
   subst e9
   refine hQ _ _ _ (aj au (fun g => rfl) ?_)
   conv => whnf
  refine .loopS (nW n rec_typing_total p0) (fun (s2 : Int) => (u8 (u4 (u2 (dN p0.kids :: (.i (p0.kids.length : Int) :: (.i s2 :: (u4 (u2 (.unk :: [])))))))))) (fun (s2 : Int) => []) ho1 (fun _ => rfl) (wk [] (.u8 (.u4 (.u2 (.e aT (.c rfl (.c rfl (.u4 (.u2 (.u .nil))))))))) .nil rfl) ?_
  intro n1 s2 hs1 KL1 hKL1
  unfold nW at hs1
  refine .q fun K9 k9 => rg 0 ?_
  refine k9 _ _ ?_
  refine .q fun K10 k10 => ?_
  refine .aA rfl hs1 (fun hc2 hs1 => ?_) (fun hc2 hs1 => ?_)
  ·refine .skip ?_
   refine k10 _ _ ?_
   refine .q fun K11 k11 => ?_
   refine .block ?_
   refine .q fun K12 k12 => rg 1 ?_
   obtain ⟨x1, hx1, hs1⟩ := ob hs1
   refine aN (l := p0.kids) (f := aY) (cs := [.i ((x1).op), .str ((x1).name), .i ((x1).n), .i (((x1).ty).kind), .str (((x1).ty).name), aJ (((x1).ty).kids), dN ((x1).kids)]) hx1 (bG x1) rfl ?_
   refine k12 _ _ ?_
   refine .q fun K13 k13 => rg 0 ?_
   obtain ⟨x2, hx2, hs1⟩ := ob hs1
   refine aD (hrec_typing_total _ _ hx2) Qe (.cons (.same _) .nil) (fun g => by simp) (fun g => rfl) ?_
   refine k13 _ _ ?_
   refine .aA rfl hs1 (fun hc3 hs1 => ?_) (fun hc3 hs1 => ?_)
   ·refine .q fun K14 k14 => rg 0 ?_
    refine k14 _ _ ?_
    refine .ret ?_
    have e9 := sj hs1
    subst e9
    dsimp only [LR.el] at h
    have e9 := sj h
    subst e9
    refine hQ _ _ _ (aj au (fun g => rfl) ?_)
    conv => whnf
   refine .skip ?_
   refine k11 _ _ ?_
   refine .know 16 0 fun hv1 => ?_
   refine .know 14 0 fun hv2 => ?_
   refine rg 0 ?_
   refine ⟨(s2 + 1), by have := iW hv1; have := ng hv2; have h8 := of_decide_eq_true hc2; exact dG (by omega) (by omega), ?_⟩
   exact hKL1 _ _ _ hs1 (wk [] (.u8 (.u4 (.u2 (.e aT (.c rfl (.c rfl (.u4 (.u2 (.u .nil))))))))) .nil rfl)
  refine .exit ?_
  exact hR2 _ (sj hs1).symm _ _ (li (.u16 (.u8 .n)))
 refine .q fun K15 k15 => rg 0 ?_
 refine k15 _ _ ?_
 refine .aA rfl hj1 (fun hc4 hj1 => ?_) (fun hc4 hj1 => ?_)
 ·refine .skip ?_
  cases hj1
  exact hR1 _ _ (li (.u (.s (.u4 (.u (.s (.u16 .n)))))))
 refine .q fun K16 k16 => rg 0 ?_
 refine k16 _ _ ?_
 refine .aA rfl hj1 (fun hc5 hj1 => ?_) (fun hc5 hj1 => ?_)
 ·refine .skip ?_
  cases hj1
  exact hR1 _ _ (li (.u (.s (.u4 (.u (.s (.u16 .n)))))))
 refine .q fun K17 k17 => rg 0 ?_
 refine k17 _ _ ?_
 refine .aA rfl hj1 (fun hc6 hj1 => ?_) (fun hc6 hj1 => ?_)
 ·refine .skip ?_
  cases hj1
  exact hR1 _ _ (li (.u (.s (.u4 (.u (.s (.u16 .n)))))))
 refine .q fun K18 k18 => rg 0 ?_
 refine k18 _ _ ?_
 refine .aA rfl hj1 (fun hc7 hj1 => ?_) (fun hc7 hj1 => ?_)
 ·refine .skip ?_
  cases hj1
  exact hR1 _ _ (li (.u (.s (.u4 (.u (.s (.u16 .n)))))))
 refine rg 0 ?_
 cases hj1
 exact hR1 _ _ (li (.u (.s (.u4 (.u (.s (.u16 .n)))))))
theorem FR (n : Nat) : uQ (jv n) := by
 induction n with
 | zero => exact (fun p0 r h => by unfold jv at h; cases h)
 | succ n ih =>
  exact (fun p0 r h => AP n _ ih p0 r (by unfold jv at h; exact h))
theorem GQ (n : Nat) : uQ (jv n) := (FR n)
end Abs
end Go.Proofs.YtiiaccpcoclklaaGreat
namespace Go.Proofs.YtiiaccpcoclklaaGreat
namespace Abs
open Go Go.Proofs
set_option maxRecDepth 100000
set_option maxHeartbeats 40000000
theorem Om (n : Nat) (p0 : List Str) (p1 : Str) (r : List Str) (h : wR n p0 p1 = some r) : ak Tryz.prog 152 [eP p0, .str p1] [] (eP r) [] := by
 unfold wR at h
 refine ah true Tryz.func152 rfl (nt Tryz.ntmps152 rfl) fun Q hQ t ht => ?_
 conv at ht => whnf
 subst ht
 refine .q fun K1 k1 => rg 0 ?_
 refine k1 _ _ ?_
 refine .q fun K2 k2 => rg 4 ?_
 refine ⟨List.map encS ([] : List Str), rfl, ?_⟩
 obtain ⟨x1, hx1, h⟩ := ob h
 refine pR (l := ([] : List Str)) (ys := p0) (f := encS) hx1 FQ rfl rfl rfl ?_
 refine ⟨List.map encS ([p1]), rfl, ?_⟩
 obtain ⟨x2, hx2, h⟩ := ob h
 refine pR (l := x1) (ys := [p1]) (f := encS) hx2 FQ rfl rfl rfl ?_
 refine k2 _ _ ?_
 refine .ret ?_
 have e9 := sj h
 subst e9
 refine hQ _ _ _ (aj au (fun g => by simp) ?_)
 conv => whnf
 try rfl
abbrev Du (rec_R1_free : Tm → (List Str) → Option (List Str)) : Prop := ∀ (p0 : Tm) (p1 : List Str) (r : List Str), rec_R1_free p0 p1 = some r → ak Tryz.prog 109 [dW p0, eP p1] [] (.slice (List.map encS r) (.tip 0 1)) [.tip (List.length r * 1)]
theorem Gm (n : Nat) (rec_R1_free : Tm → (List Str) → Option (List Str)) (hrec_R1_free : Du rec_R1_free) (p0 : Tm) (p1 : List Str) (r : List Str) (h : qo n rec_R1_free p0 p1 = some r) : ak Tryz.prog 109 [dW p0, eP p1] [] (.slice (List.map encS r) (.tip 0 1)) [.tip (List.length r * 1)] := by
 unfold qo at h
 refine ah false Tryz.func109 rfl (nt Tryz.ntmps109 rfl) fun Q hQ t ht => ?_
 conv at ht => whnf
 subst ht
 refine .q fun K1 k1 => rg 1 ?_
 refine k1 _ _ ?_
 refine .q fun K2 k2 => .q fun K3 k3 => rg 0 ?_
 refine k3 _ _ ?_
 refine .aA rfl h (fun hc1 h => ?_) (fun hc1 h => ?_)
 ·refine .q fun K4 k4 => .q fun K5 k5 => rg 0 ?_
  obtain ⟨x1, hx1, h⟩ := ob h
  refine aD (Ga _ _ _ _ hx1) LD (.cons (.same _) (.cons (.same _) .nil)) (fun g => by simp) (fun g => rfl) ?_
  refine k5 _ _ ?_
  refine .aA rfl h (fun hc2 h => ?_) (fun hc2 h => ?_)
  ·refine .q fun K6 k6 => rg 0 ?_
   refine k6 _ _ ?_
   refine .ret ?_
   have e9 := sj h
   subst e9
   refine hQ _ _ _ (bP (u4 (.slice (List.map encS ([] : List Str)) (.tip 0 1) :: (u32 (u8 (u2 []))))) [.tip (List.length ([]) * 1)] (wk [none] (.u4 (.cons (.nils _ _) (.u32 (.u8 (.u2 .nil))))) (.w rfl .nil) rfl) (aX au [0] rfl (.cons (rfl) .nil) ?_))
   conv => whnf
   first | rfl | (simp; done) | (simp; rfl) | (simp; constructor <;> rfl)
  refine .skip ?_
  refine k4 _ _ ?_
  refine .q fun K7 k7 => rg 1 ?_
  refine ⟨List.map encS ([p0.name]), rfl, ?_⟩
  refine k7 _ _ ?_
  refine .ret ?_
  have e9 := sj h
  subst e9
  refine hQ _ _ _ (bP (u4 (.slice (List.map encS ([p0.name])) (.tip 0 1) :: (u32 (u8 (u2 []))))) [.tip (List.length ([p0.name]) * 1)] (wk [some 1] (.u4 (.cons (.su (aU _ _) rfl) (.u32 (.u8 (.u2 .nil))))) (.t rfl .nil) rfl) (aX au [0] rfl (.cons (rfl) .nil) ?_))
  conv => whnf
  first | rfl | (simp; done) | (simp; rfl) | (simp; constructor <;> rfl)
 refine .skip ?_
 refine k2 _ _ ?_
 refine .q fun K8 k8 => rg 0 ?_
 refine k8 _ _ ?_
 refine .q fun K9 k9 => .q fun K10 k10 => rg 0 ?_
 refine k10 _ _ ?_
 refine .block ?_
 obtain ⟨o1, ho1, h⟩ := ob h
 have hR1 : ∀ s2 : List Str, o1 = .nx s2 → ∀ t9 h9, Le 0 t9 h9 (u4 (.unk :: (.slice (List.map encS s2) (.tip 0 1) :: (u32 (u8 (.unk :: [])))))) [.tip (List.length s2 * 1)] → K9 t9 h9 := by
  intro s2 ho
  subst ho
  dsimp only [LR.el] at h
  intro t9 h9 hw
  refine k9 _ _ (AW.le hw ?_)
  refine .q fun K11 k11 => rg 0 ?_
  refine k11 _ _ ?_
  refine .ret ?_
  have e9 := sj h
  subst e9
  refine hQ _ _ _ (bP (u4 (.slice (List.map encS s2) (.tip 0 1) :: (u32 (u8 (u2 []))))) [.tip (List.length s2 * 1)] (wk [some 0] (.u4 (.cons (.su (aU _ _) rfl) (.u32 (.u8 (.u2 .nil))))) (.t rfl .nil) rfl) (aX au [0] rfl (.cons (rfl) .nil) ?_))
  conv => whnf
  first | rfl | (simp; done) | (simp; rfl) | (simp; constructor <;> rfl)
 refine .loopS (tq n rec_R1_free p0 p1) (fun (s1 : (List Str) × Int) => (.unk :: (eP p1 :: (.ptr 0 0 :: (u2 (.slice (List.map encS s1.1) (.tip 1 1) :: (.i s1.2 :: (u32 (u8 []))))))))) (fun (s1 : (List Str) × Int) => [.box [.i p0.op, .str p0.name, .i p0.n, .i p0.ty.kind, .str p0.ty.name, aJ p0.ty.kids, dN p0.kids], .tip (List.length s1.1 * 1)]) ho1 (fun _ => rfl) (wk [some 0, none] (.u (.e aU (.c rfl (.u2 (.cons (.nils _ _) (.c rfl (.u32 (.u8 .nil)))))))) (.b rfl (.c rfl (.c rfl (.c rfl (.c rfl (.c rfl (.e aF (.e aT .nil))))))) (.w rfl .nil)) rfl) ?_
 intro n1 s1 hs1 KL1 hKL1
 unfold tq at hs1
 refine .q fun K12 k12 => .q fun K13 k13 => rg 0 ?_
 refine bO (l := p0.kids) (f := aY) ?_
 refine k13 _ _ ?_
 refine .aA rfl hs1 (fun hc3 hs1 => ?_) (fun hc3 hs1 => ?_)
 ·refine .skip ?_
  refine k12 _ _ ?_
  refine .q fun K14 k14 => ?_
  refine .block ?_
  refine .q fun K15 k15 => rg 0 ?_
  refine k15 _ _ ?_
  refine .q fun K16 k16 => ?_
  obtain ⟨s3, hj1, hs1⟩ := ob hs1
  have hR2 : ∀ t9 h9, Le 0 t9 h9 (.unk :: (eP p1 :: (.ptr 0 0 :: (u2 (.slice (List.map encS s1.1) (.tip 1 1) :: (.i s1.2 :: (eP s3 :: (u32 (u4 (u2 (.unk :: []))))))))))) [.box [.i p0.op, .str p0.name, .i p0.n, .i p0.ty.kind, .str p0.ty.name, aJ p0.ty.kids, dN p0.kids], .tip (List.length s1.1 * 1)] → K16 t9 h9 := by
   intro t9 h9 hw
   refine k16 _ _ (AW.le hw ?_)
   clear hw
   refine rg 2 ?_
   obtain ⟨x2, hx2, hs1⟩ := ob hs1
   refine aN (l := p0.kids) (f := aY) (cs := [.i ((x2).op), .str ((x2).name), .i ((x2).n), .i (((x2).ty).kind), .str (((x2).ty).name), aJ (((x2).ty).kids), dN ((x2).kids)]) hx2 (bG x2) rfl ?_
   obtain ⟨x3, hx3, hs1⟩ := ob hs1
   refine bI [] [2] [dW x2, eP s3] [dW x2, eP s3] (hrec_R1_free _ _ _ hx3) MQ rfl .nil (by simp; try decide) (.cons (.same _) (.cons (.same _) .nil)) (rn := .slice (List.map encS x3) (.tip 2 1)) (by simp; try decide) (Hn := [.tip (List.length x3 * 1)]) ((aZ (rfl) rfl)) ?_
   obtain ⟨x4, hx4, hs1⟩ := ob hs1
   refine pR (l := s1.1) (ys := x3) (f := encS) hx4 FQ rfl rfl rfl ?_
   refine k14 _ _ ?_
   refine .know 6 0 fun hv1 => ?_
   refine .know 39 0 fun hv2 => ?_
   refine rg 0 ?_
   refine ⟨(s1.2 + 1), by have := iW hv1; have := ng hv2; have h8 := of_decide_eq_true hc3; exact dG (by omega) (by omega), ?_⟩
   exact hKL1 _ _ _ hs1 (wk [some 0, some 3] (.u (.e aU (.c rfl (.u2 (.cons (.su (aU _ _) rfl) (.c rfl (.u32 (.u8 .nil)))))))) (.b rfl (.c rfl (.c rfl (.c rfl (.c rfl (.c rfl (.e aF (.e aT .nil))))))) (.t rfl .nil)) rfl)
  refine .q fun K17 k17 => ?_
  obtain ⟨s4, hj2, hj1⟩ := ob hj1
  have hR3 : ∀ t9 h9, Le 0 t9 h9 (.unk :: (eP p1 :: (.ptr 0 0 :: (u2 (.slice (List.map encS s1.1) (.tip 1 1) :: (.i s1.2 :: (eP p1 :: (u16 (u8 (.bool s4 :: (u8 (u4 (u2 []))))))))))))) [.box [.i p0.op, .str p0.name, .i p0.n, .i p0.ty.kind, .str p0.ty.name, aJ p0.ty.kids, dN p0.kids], .tip (List.length s1.1 * 1)] → K17 t9 h9 := by
   intro t9 h9 hw
   refine k17 _ _ (AW.le hw ?_)
   clear hw
   refine .aA rfl hj1 (fun hc4 hj1 => ?_) (fun hc4 hj1 => ?_)
   ·refine rg 0 ?_
    obtain ⟨x5, hx5, hj1⟩ := ob hj1
    refine cp (Om _ _ _ _ hx5) Uk (.cons (.same _) (.cons (.same _) .nil)) ?_
    cases hj1
    exact hR2 _ _ (li (.u (.s (.s (.u2 (.s (.s (.s (.u16 (.u16 (.u4 (.u2 (.u .n)))))))))))))
   refine .skip ?_
   cases hj1
   exact hR2 _ _ (li (.u (.s (.s (.u2 (.s (.s (.s (.u16 (.u16 (.u4 (.u2 (.u .n)))))))))))))
  refine rg 0 ?_
  obtain ⟨x6, hx6, hj2⟩ := ob hj2
  refine aD (Dy _ _ _ hx6) QU (.cons (.same _) .nil) (fun g => rfl) (fun g => rfl) ?_
  refine aB hj2 (fun hc5 hj2 => ?_) (fun hc5 hj2 => ?_)
  ·cases hj2
   exact hR3 _ _ (li (.u (.s (.s (.u2 (.s (.s (.s (.u16 (.u8 (.s (.u8 (.u4 (.u2 .n))))))))))))))
  cases hj2
  exact hR3 _ _ (li (.u (.s (.s (.u2 (.s (.s (.s (.u16 (.u8 (.s (.u8 (.u4 (.u2 .n))))))))))))))
 refine .exit ?_
 exact hR1 _ (sj hs1).symm _ _ (wk [some 1] (.u4 (.u (.cons (.su (aU _ _) rfl) (.u32 (.u8 (.u .nil)))))) (.t rfl .nil) rfl)
theorem LU (n : Nat) : Du (pI n) := by
 induction n with
 | zero => exact (fun p0 p1 r h => by unfold pI at h; cases h)
 | succ n ih =>
  exact (fun p0 p1 r h => Gm n _ ih p0 p1 r (by unfold pI at h; exact h))
theorem Oz (n : Nat) : Du (pI n) := (LU n)
end Abs
end Go.Proofs.YtiiaccpcoclklaaGreat
namespace Go.Proofs.YtiiaccpcoclklaaGreat
namespace Abs
open Go Go.Proofs
set_option maxRecDepth 100000
set_option maxHeartbeats 40000000
end Abs
end Go.Proofs.YtiiaccpcoclklaaGreat
namespace Go.Proofs.YtiiaccpcoclklaaGreat
namespace Abs
open Go Go.Proofs
set_option maxRecDepth 100000
set_option maxHeartbeats 40000000
end Abs
end Go.Proofs.YtiiaccpcoclklaaGreat
namespace Go.Proofs.YtiiaccpcoclklaaGreat
namespace Abs
open Go Go.Proofs
set_option maxRecDepth 100000
set_option maxHeartbeats 40000000
theorem Gn (n : Nat) (p0 : Tm) (r : Bool) (h : p9 n p0 = some r) : ak Tryz.prog 35 [dW p0] [] (.bool r) [] := by
 unfold p9 at h
 refine ah true Tryz.func35 rfl (nt Tryz.ntmps35 rfl) fun Q hQ t ht => ?_
 conv at ht => whnf
 subst ht
 refine .q fun K1 k1 => rg 1 ?_
 refine k1 _ _ ?_
 refine .q fun K2 k2 => ?_
 obtain ⟨s1, hj1, h⟩ := ob h
 have hR1 : ∀ t9 h9, Le 0 t9 h9 (u2 (.bool s1 :: (u4 (u2 [])))) [] → K2 t9 h9 := by
  intro t9 h9 hw
  refine k2 _ _ (AW.le hw ?_)
  clear hw
  refine .ret ?_
  have e9 := sj h
  subst e9
  refine hQ _ _ _ (aj au (fun g => rfl) ?_)
  conv => whnf
 refine rg 0 ?_
 obtain ⟨x1, hx1, hj1⟩ := ob hj1
 refine aD (vS _ _ _ hx1) Lv (.cons (.same _) .nil) (fun g => by simp) (fun g => rfl) ?_
 refine aB hj1 (fun hc1 hj1 => ?_) (fun hc1 hj1 => ?_)
 ·obtain ⟨x2, hx2, hj1⟩ := ob hj1
  refine aD (GQ _ _ _ hx2) Qe (.cons (.same _) .nil) (fun g => by simp) (fun g => rfl) ?_
  cases hj1
  exact hR1 _ _ (wk [] (.u2 (.c rfl (.u4 (.u2 .nil)))) .nil rfl)
 cases hj1
 exact hR1 _ _ (wk [] (.u2 (.c rfl (.u4 (.u2 .nil)))) .nil rfl)
end Abs
end Go.Proofs.YtiiaccpcoclklaaGreat
namespace Go.Proofs.YtiiaccpcoclklaaGreat
namespace Abs
open Go Go.Proofs
set_option maxRecDepth 100000
set_option maxHeartbeats 40000000
theorem Sq {p q : Prop} (f : p → q) (h : p := by exact wk [some 0, some 1, some 2] (.u2 (.c rfl (.c rfl (.u (.c rfl (.u32 (.u16 (.u8 (.u (.c rfl (.u8 (.u4 (.u2 (.u .nil)))))))))))))) (.b rfl (.e aC (.e aK .nil)) (.b rfl (.c rfl (.c rfl (.c rfl (.c rfl (.c rfl (.e aF (.e aT .nil))))))) (.b rfl (.c rfl (.c rfl (.c rfl (.c rfl (.c rfl (.e aF (.e aT .nil))))))) .nil))) rfl) : q := f h
theorem GI (n : Nat) (p0 : Tm) (r : List Str) (h : wT n p0 = some r) : ak Tryz.prog 49 [dW p0] [] (eP r) [] := by
 unfold wT at h
 refine ah true Tryz.func49 rfl (nt Tryz.ntmps49 rfl) fun Q hQ t ht => ?_
 conv at ht => whnf
 subst ht
 refine .q fun K1 k1 => rg 1 ?_
 refine k1 _ _ ?_
 refine .q fun K2 k2 => .q fun K3 k3 => rg 0 ?_
 obtain ⟨x1, hx1, h⟩ := ob h
 refine aD (Mc _ _ _ hx1) Wm (.cons (.same _) .nil) (fun g => by simp) (fun g => rfl) ?_
 refine k3 _ _ ?_
 refine .aA rfl h (fun hc1 h => ?_) (fun hc1 h => ?_)
 ·refine .q fun K4 k4 => rg 0 ?_
  refine k4 _ _ ?_
  refine .ret ?_
  have e9 := sj h
  subst e9
  refine hQ _ _ _ (aj au (fun g => by simp) ?_)
  conv => whnf
  try rfl
 refine .skip ?_
 refine k2 _ _ ?_
 refine .q fun K5 k5 => rg 1 ?_
 obtain ⟨x2, hx2, h⟩ := ob h
 refine bI [] [1] [dW p0, eP ([] : List Str)] [dW p0, eP ([] : List Str)] (Oz _ _ _ _ hx2) MQ rfl .nil (by simp; try decide) (.cons (.same _) (.cons (.share _ _) .nil)) (rn := .slice (List.map encS x2) (.tip 1 1)) (by simp; try decide) (Hn := [.tip (List.length x2 * 1)]) ((aZ (rfl) rfl)) ?_
 obtain ⟨x3, hx3, h⟩ := ob h
 refine cp (Kn _ _ _ hx3) UW (.cons (.share _ _) .nil) ?_
 refine k5 _ _ ?_
 refine .ret ?_
 have e9 := sj h
 subst e9
 refine hQ _ _ _ (aj au (fun g => by simp) ?_)
 conv => whnf
 try rfl
theorem zx (n : Nat) (p0 : Env) (p1 : Tm) (r : Bool) (h : ny n p0 p1 = some r) : ak Tryz.prog 11 [pW p0, dW p1] [] (.bool r) [] := by
 unfold ny at h
 refine ah true Tryz.func11 rfl (nt Tryz.ntmps11 rfl) fun Q hQ t ht => ?_
 conv at ht => whnf
 subst ht
 refine .q fun K1 k1 => rg 2 ?_
 refine k1 _ _ ?_
 refine .q fun K2 k2 => .q fun K3 k3 => rg 0 ?_
 obtain ⟨x1, hx1, h⟩ := ob h
 refine aD (L6 _ _ _ hx1) Vn (.cons (.same _) .nil) (fun g => by simp) (fun g => rfl) ?_
 refine k3 _ _ ?_
 refine .aA rfl h (fun hc1 h => ?_) (fun hc1 h => ?_)
 ·refine .q fun K4 k4 => rg 0 ?_
  obtain ⟨x2, hx2, h⟩ := ob h
  refine aD (zy _ _ hx2) Ko .nil (fun g => rfl) (fun g => rfl) ?_
  refine k4 _ _ ?_
  refine .ret ?_
  have e9 := sj h
  subst e9
  refine hQ _ _ _ (aj au (fun g => rfl) ?_)
  conv => whnf
 refine .skip ?_
 refine k2 _ _ ?_
 refine .q fun K5 k5 => rg 1 ?_
 obtain ⟨x3, hx3, h⟩ := ob h
 refine cp (vY _ _ _ _ hx3) Q0 (.cons (.same _) (.cons (.same _) .nil)) ?_
 refine k5 _ _ ?_
 refine .q fun K6 k6 => .q fun K7 k7 => rg 0 ?_
 refine k7 _ _ ?_
 refine .aA rfl h (fun hc2 h => ?_) (fun hc2 h => ?_)
 ·refine .q fun K8 k8 => ?_
  obtain ⟨s1, hj1, h⟩ := ob h
  have hR1 : ∀ t9 h9, Le 0 t9 h9 (u4 (.bool s1 :: (u64 (u8 (u2 []))))) [] → K8 t9 h9 := by
   intro t9 h9 hw
   refine k8 _ _ (AW.le hw ?_)
   clear hw
   refine .ret ?_
   have e9 := sj h
   subst e9
   refine hQ _ _ _ (aj au (fun g => rfl) ?_)
   conv => whnf
  refine rg 0 ?_
  refine aB hj1 (fun hc3 hj1 => ?_) (fun hc3 hj1 => ?_)
  ·obtain ⟨x4, hx4, hj1⟩ := ob hj1
   refine aD (zy _ _ hx4) Ko .nil (fun g => rfl) (fun g => rfl) ?_
   cases hj1
   exact hR1 _ _ (wk [] (.u4 (.c rfl (.u64 (.u8 (.u2 .nil))))) .nil rfl)
  cases hj1
  exact hR1 _ _ (wk [] (.u4 (.c rfl (.u64 (.u8 (.u2 .nil))))) .nil rfl)
 refine .skip ?_
 refine k6 _ _ ?_
 refine .q fun K9 k9 => rg 0 ?_
 obtain ⟨x5, hx5, h⟩ := ob h
 refine cp (GI _ _ _ hx5) P5 (.cons (.same _) .nil) ?_
 obtain ⟨x6, hx6, h⟩ := ob h
 refine cp (GI _ _ _ hx6) P5 (.cons (.same _) .nil) ?_
 refine ⟨rfl, ?_⟩
 refine k9 _ _ ?_
 refine .q fun K10 k10 => .q fun K11 k11 => rg 0 ?_
 refine k11 _ _ ?_
 refine .block ?_
 obtain ⟨o1, ho1, h⟩ := ob h
 have hR2 : ∀ s3 : Unit, o1 = .nx s3 → ∀ t9 h9, Le 0 t9 h9 (u2 (.ptr 0 0 :: (.ptr 1 0 :: (.unk :: (.ptr 2 0 :: (u64 (u8 (.unk :: [])))))))) [.box [gD p0.carriers, jJ p0.names], .box [.i p1.op, .str p1.name, .i p1.n, .i p1.ty.kind, .str p1.ty.name, aJ p1.ty.kids, dN p1.kids], .box [.i x3.1.op, .str x3.1.name, .i x3.1.n, .i x3.1.ty.kind, .str x3.1.ty.name, aJ x3.1.ty.kids, dN x3.1.kids]] → K10 t9 h9 := by
  intro s3 ho
  subst ho
  dsimp only [LR.el] at h
  intro t9 h9 hw
  refine k10 _ _ (AW.le hw ?_)
  refine .q fun K12 k12 => rg 1 ?_
  obtain ⟨x7, hx7, h⟩ := ob h
  refine cp (vY _ _ _ _ hx7) Q0 (.cons (.same _) (.cons (.same _) .nil)) ?_
  refine k12 _ _ ?_
  refine .q fun K13 k13 => .q fun K14 k14 => ?_
  obtain ⟨s4, hj2, h⟩ := ob h
  have hR3 : ∀ t9 h9, Le 0 t9 h9 (u2 (.ptr 0 0 :: (.ptr 1 0 :: (.unk :: (.ptr 2 0 :: (u32 (u16 (u8 (.unk :: (.bool s4 :: (u8 (u4 (u2 (.unk :: [])))))))))))))) [.box [gD p0.carriers, jJ p0.names], .box [.i p1.op, .str p1.name, .i p1.n, .i p1.ty.kind, .str p1.ty.name, aJ p1.ty.kids, dN p1.kids], .box [.i x3.1.op, .str x3.1.name, .i x3.1.n, .i x3.1.ty.kind, .str x3.1.ty.name, aJ x3.1.ty.kids, dN x3.1.kids]] → K14 t9 h9 := by
   intro t9 h9 hw
   refine k14 _ _ (AW.le hw ?_)
   clear hw
   refine .aA rfl h (fun hc4 h => ?_) (fun hc4 h => ?_)
   ·refine .q fun K15 k15 => rg 0 ?_
    refine k15 _ _ ?_
    refine .ret ?_
    have e9 := sj h
    subst e9
    refine hQ _ _ _ (aj au (fun g => rfl) ?_)
    conv => whnf
   refine .skip ?_
   refine k13 _ _ ?_
   refine .q fun K16 k16 => ?_
   obtain ⟨s5, hj3, h⟩ := ob h
   have hR4 : ∀ t9 h9, Le 0 t9 h9 (u4 (.bool s5 :: (u64 (u8 (u2 []))))) [] → K16 t9 h9 := by
    intro t9 h9 hw
    refine k16 _ _ (AW.le hw ?_)
    clear hw
    refine .ret ?_
    have e9 := sj h
    subst e9
    refine hQ _ _ _ (aj au (fun g => rfl) ?_)
    conv => whnf
   refine rg 0 ?_
   obtain ⟨x8, hx8, hj3⟩ := ob hj3
   refine aD (CJ _ _ _ _ hx8) VG (.cons (.same _) (.cons (.same _) .nil)) (fun g => by simp) (fun g => rfl) ?_
   refine aB hj3 (fun hc5 hj3 => ?_) (fun hc5 hj3 => ?_)
   ·obtain ⟨x9, hx9, hj3⟩ := ob hj3
    refine aD (Gn _ _ _ hx9) Wx (.cons (.same _) .nil) (fun g => by simp) (fun g => rfl) ?_
    refine aB hj3 (fun hc6 hj3 => ?_) (fun hc6 hj3 => ?_)
    ·obtain ⟨x10, hx10, hj3⟩ := ob hj3
     refine aD (zy _ _ hx10) Ko .nil (fun g => rfl) (fun g => rfl) ?_
     refine ⟨rfl, ?_⟩
     cases hj3
     exact hR4 _ _ (wk [] (.u4 (.c rfl (.u64 (.u8 (.u2 .nil))))) .nil rfl)
    refine ⟨rfl, ?_⟩
    cases hj3
    exact hR4 _ _ (wk [] (.u4 (.c rfl (.u64 (.u8 (.u2 .nil))))) .nil rfl)
   refine ⟨rfl, ?_⟩
   cases hj3
   exact hR4 _ _ (wk [] (.u4 (.c rfl (.u64 (.u8 (.u2 .nil))))) .nil rfl)
  refine rg 0 ?_
  refine aB hj2 (fun hc7 hj2 => ?_) (fun hc7 hj2 => ?_)
  ·refine aB hj2 (fun hc8 hj2 => ?_) (fun hc8 hj2 => ?_)
   ·cases hj2
    exact Sq (hR3 _ _)
   cases hj2
   exact Sq (hR3 _ _)
  cases hj2
  exact Sq (hR3 _ _)
 refine .loopS (jB n x5 x6) (fun (s2 : Int) => (u2 (.ptr 0 0 :: (.ptr 1 0 :: (.unk :: (.ptr 2 0 :: (.unk :: (eP x5 :: (eP x6 :: (.i s2 :: (u64 (u4 (.unk :: []))))))))))))) (fun (s2 : Int) => [.box [gD p0.carriers, jJ p0.names], .box [.i p1.op, .str p1.name, .i p1.n, .i p1.ty.kind, .str p1.ty.name, aJ p1.ty.kids, dN p1.kids], .box [.i x3.1.op, .str x3.1.name, .i x3.1.n, .i x3.1.ty.kind, .str x3.1.ty.name, aJ x3.1.ty.kids, dN x3.1.kids]]) ho1 (fun _ => rfl) (li (.u2 (.s (.s (.u (.s (.u (.s (.s (.s (.u16 (.u16 (.u16 (.u16 (.u4 (.u .n)))))))))))))))) ?_
 intro n1 s2 hs1 KL1 hKL1
 unfold jB at hs1
 refine .q fun K17 k17 => .q fun K18 k18 => rg 0 ?_
 refine bO (l := x5) (f := encS) ?_
 refine k18 _ _ ?_
 refine .aA rfl hs1 (fun hc9 hs1 => ?_) (fun hc9 hs1 => ?_)
 ·refine .skip ?_
  refine k17 _ _ ?_
  refine .q fun K19 k19 => ?_
  refine .block ?_
  refine .q fun K20 k20 => rg 0 ?_
  obtain ⟨x11, hx11, hs1⟩ := ob hs1
  refine aN (l := x5) (f := encS) (cs := [.str (x11)]) hx11 (rfl) rfl ?_
  obtain ⟨x12, hx12, hs1⟩ := ob hs1
  refine aD (Ga _ _ _ _ hx12) LD (.cons (.same _) (.cons (.same _) .nil)) (fun g => by simp) (fun g => rfl) ?_
  refine k20 _ _ ?_
  refine .aA rfl hs1 (fun hc10 hs1 => ?_) (fun hc10 hs1 => ?_)
  ·refine .q fun K21 k21 => rg 0 ?_
   refine k21 _ _ ?_
   refine .ret ?_
   have e9 := sj hs1
   subst e9
   dsimp only [LR.el] at h
   have e9 := sj h
   subst e9
   refine hQ _ _ _ (aj au (fun g => rfl) ?_)
   conv => whnf
  refine .skip ?_
  refine k19 _ _ ?_
  refine .know 9 0 fun hv1 => ?_
  refine .know 7 0 fun hv2 => ?_
  refine rg 0 ?_
  refine ⟨(s2 + 1), by have := iW hv1; have := ng hv2; have h8 := of_decide_eq_true hc9; exact dG (by omega) (by omega), ?_⟩
  exact hKL1 _ _ _ hs1 (li (.u2 (.s (.s (.u (.s (.u (.s (.s (.s (.u16 (.u16 (.u16 (.u16 (.u4 (.u .n))))))))))))))))
 refine .exit ?_
 exact hR2 _ (sj hs1).symm _ _ (li (.u2 (.s (.s (.u (.s (.u16 (.u16 (.u16 (.u16 (.u8 (.u .n))))))))))))
end Abs
end Go.Proofs.YtiiaccpcoclklaaGreat
