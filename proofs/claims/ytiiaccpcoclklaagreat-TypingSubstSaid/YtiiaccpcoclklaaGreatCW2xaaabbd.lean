/-
  Contracts of Go functions (printed). Conditions: none.
-/
import Derived.KernelRfl
import Derived.Test.YtiiaccpcoclklaaGreatCAbs38x04b7ad
import Derived.Test.YtiiaccpcoclklaaGreatCDix50535f
import Derived.Test.YtiiaccpcoclklaaGreatCWDxaae3e4
import Derived.Test.YtiiaccpcoclklaaGreatCT16xc0b479
import Derived.Test.YtiiaccpcoclklaaGreatCT17x62aad0
import Derived.Test.YtiiaccpcoclklaaGreatCU5x48444d
import Derived.Test.YtiiaccpcoclklaaGreatCW1x981b0b
set_option linter.unusedSimpArgs false
set_option linter.unusedVariables false
namespace Go.Proofs.YtiiaccpcoclklaaGreat
namespace Abs
open Go Go.Proofs
set_option maxRecDepth 100000
set_option maxHeartbeats 40000000
theorem w2x0 {p q : Prop} (f : p → q) (h : p := by exact wk [some 0, some 1] (.e bZ (.c rfl (.u4 (.u (.cons (.gB (bf _ _) rfl) (.cons (.gB (bZ _ _) rfl) (.c rfl (.u32 (.u4 (.u2 (.u (.c rfl (.u8 .nil))))))))))))) (.t rfl (.t rfl .nil)) rfl) : q := f h
theorem V7 (n : Nat) (p0 : List S_api_Binding) (p1 : Str) (p2 : Tm) (r : List S_api_Binding) (h : wX n p0 p1 p2 = some r) : aA Tryz.prog 168 [.slice (List.map aP p0) .shared, .str p1, bC p2] [] (.slice (List.map aP r) (.tip 0 8)) [.tip (List.length r * 8)] := by
 unfold wX at h
 refine ah false Tryz.func168 rfl (nt Tryz.ntmps168 rfl) fun Q hQ t ht => ?_
 conv at ht => whnf
 subst ht
 refine .q fun K1 k1 => rg 1 ?_
 refine k1 _ _ ?_
 refine .q fun K2 k2 => rg 1 ?_
 obtain ⟨x1, hx1, h⟩ := ob h
 refine bU [] [1] [bC p2, dx ([] : List Str)] [bC p2, dx ([] : List Str)] (Ec _ _ _ _ hx1) I6 rfl .nil (by simp; try decide) (.cons (.same _) (.cons (.share _ _) .nil)) (rn := .slice (List.map encS x1) (.tip 1 1)) (by simp; try decide) (Hn := [.tip (List.length x1 * 1)]) ((bK (rfl) rfl)) ?_
 refine k2 _ _ ?_
 refine .q fun K3 k3 => rg 0 ?_
 refine k3 _ _ ?_
 refine .q fun K4 k4 => .q fun K5 k5 => rg 0 ?_
 refine k5 _ _ ?_
 refine .block ?_
 obtain ⟨o1, ho1, h⟩ := ob h
 have hR1 : ∀ s2 : List S_api_Binding, o1 = .nx s2 → ∀ t9 h9, Le 0 t9 h9 (u8 (.slice (List.map aP s2) (.tip 0 8) :: (u32 (u16 (.unk :: []))))) [.tip (List.length s2 * 8)] → K4 t9 h9 := by
  intro s2 ho
  subst ho
  dsimp only [LR.el] at h
  intro t9 h9 hw
  refine k4 _ _ (AW.le hw ?_)
  refine .q fun K6 k6 => rg 0 ?_
  refine k6 _ _ ?_
  refine .ret ?_
  have e9 := sj h
  subst e9
  refine hQ _ _ _ (dz (u4 (u2 (.slice (List.map aP s2) (.tip 0 8) :: (u32 (u16 (u2 (.unk :: []))))))) [.tip (List.length s2 * 8)] (wk [some 0] (.u4 (.u2 (.cons (.gB (bZ _ _) rfl) (.u32 (.u16 (.u2 (.u .nil))))))) (.t rfl .nil) rfl) (bG aC [0] rfl (.cons (rfl) .nil) ?_))
  conv => whnf
  first | rfl | (simp; done) | (simp; rfl) | (simp; constructor <;> rfl)
 refine .loopS (sM n p0 p1 x1) (fun (s1 : (List S_api_Binding) × Int) => (.slice (List.map aP p0) .shared :: (.str p1 :: (u4 (.unk :: (.slice (List.map encS x1) (.tip 0 1) :: (.slice (List.map aP s1.1) (.tip 1 8) :: (.i s1.2 :: (u32 (u16 [])))))))))) (fun (s1 : (List S_api_Binding) × Int) => [.tip (List.length x1 * 1), .tip (List.length s1.1 * 8)]) ho1 (fun _ => rfl) (wk [some 1, none] (.e bZ (.c rfl (.u4 (.u (.cons (.gB (bf _ _) rfl) (.cons (.nils _ _) (.c rfl (.u32 (.u16 .nil))))))))) (.t rfl (.w rfl .nil)) rfl) ?_
 intro n1 s1 hs1 KL1 hKL1
 unfold sM at hs1
 refine .q fun K7 k7 => .q fun K8 k8 => rg 0 ?_
 refine bB (l := p0) (f := aP) ?_
 refine k8 _ _ ?_
 refine .aB rfl hs1 (fun hc1 hs1 => ?_) (fun hc1 hs1 => ?_)
 ·refine .skip ?_
  refine k7 _ _ ?_
  refine .q fun K9 k9 => ?_
  obtain ⟨s3, hj1, hs1⟩ := ob hs1
  have hR2 : ∀ t9 h9, Le 0 t9 h9 (.slice (List.map aP p0) .shared :: (.str p1 :: (u4 (.unk :: (.slice (List.map encS x1) (.tip 0 1) :: (.slice (List.map aP s3) (.tip 1 8) :: (.i s1.2 :: (u32 (u16 []))))))))) [.tip (List.length x1 * 1), .tip (List.length s3 * 8)] → K9 t9 h9 := by
   intro t9 h9 hw
   refine k9 _ _ (AW.le hw ?_)
   clear hw
   refine .know 9 0 fun hv1 => ?_
   refine .know 0 0 fun hv2 => ?_
   refine rg 0 ?_
   refine ⟨(s1.2 + 1), by have := dK hv1; have := fU hv2; have h8 := of_decide_eq_true hc1; exact bI (by omega) (by omega), ?_⟩
   exact hKL1 _ _ _ hs1 (li (.s (.s (.u4 (.u (.s (.s (.s (.u16 (.u16 (.u16 .n)))))))))))
  refine .block ?_
  refine .q fun K10 k10 => .q fun K11 k11 => rg 1 ?_
  obtain ⟨x2, hx2, hj1⟩ := ob hj1
  refine aI (l := p0) (f := aP) (cs := [.str ((x2).name), .i (((x2).term).op), .str (((x2).term).name), .i (((x2).term).n), .i ((((x2).term).ty).kind), .str ((((x2).term).ty).name), .slice (List.map aF ((((x2).term).ty).kids)) .shared, bn (((x2).term).kids)]) hx2 (rfl) rfl ?_
  obtain ⟨x3, hx3, hj1⟩ := ob hj1
  refine cp (Ba _ _ _ _ hx3) WT (.cons (.share _ _) (.cons (.same _) .nil)) ?_
  refine k11 _ _ ?_
  refine .q fun K12 k12 => ?_
  obtain ⟨s4, hj2, hj1⟩ := ob hj1
  have hR3 : ∀ t9 h9, Le 0 t9 h9 (.slice (List.map aP p0) .shared :: (.str p1 :: (u4 (.unk :: (.slice (List.map encS x1) (.tip 0 1) :: (.slice (List.map aP s1.1) (.tip 1 8) :: (.i s1.2 :: (u32 (u4 (u2 (.unk :: (.bool s4 :: (u8 []))))))))))))) [.tip (List.length x1 * 1), .tip (List.length s1.1 * 8)] → K12 t9 h9 := by
   intro t9 h9 hw
   refine k12 _ _ (AW.le hw ?_)
   clear hw
   refine .aB rfl hj1 (fun hc2 hj1 => ?_) (fun hc2 hj1 => ?_)
   ·refine .exit ?_
    cases hj1
    exact hR2 _ _ (li (.s (.s (.u4 (.u (.s (.s (.s (.u16 (.u16 (.u16 .n)))))))))))
   refine .skip ?_
   refine k10 _ _ ?_
   refine rg 2 ?_
   obtain ⟨x4, hx4, hj1⟩ := ob hj1
   refine aI (l := p0) (f := aP) (cs := [.str ((x4).name), .i (((x4).term).op), .str (((x4).term).name), .i (((x4).term).n), .i ((((x4).term).ty).kind), .str ((((x4).term).ty).name), .slice (List.map aF ((((x4).term).ty).kids)) .shared, bn (((x4).term).kids)]) hx4 (rfl) rfl ?_
   refine ⟨List.map aP ([x4]), rfl, ?_⟩
   obtain ⟨x5, hx5, hj1⟩ := ob hj1
   refine gN (l := s1.1) (ys := [x4]) (f := aP) hx5 E9 rfl rfl rfl ?_
   cases hj1
   exact hR2 _ _ (wk [some 0, some 3] (.e bZ (.c rfl (.u4 (.u (.cons (.gB (bf _ _) rfl) (.cons (.gB (bZ _ _) rfl) (.c rfl (.u32 (.u16 .nil))))))))) (.t rfl (.t rfl .nil)) rfl)
  refine rg 0 ?_
  refine aG hj2 (fun hc3 hj2 => ?_) (fun hc3 hj2 => ?_)
  ·cases hj2
   exact w2x0 (hR3 _ _)
  obtain ⟨x6, hx6, hj2⟩ := ob hj2
  refine aI (l := p0) (f := aP) (cs := [.str ((x6).name), .i (((x6).term).op), .str (((x6).term).name), .i (((x6).term).n), .i ((((x6).term).ty).kind), .str ((((x6).term).ty).name), .slice (List.map aF ((((x6).term).ty).kids)) .shared, bn (((x6).term).kids)]) hx6 (rfl) rfl ?_
  refine aG hj2 (fun hc4 hj2 => ?_) (fun hc4 hj2 => ?_)
  ·cases hj2
   exact w2x0 (hR3 _ _)
  obtain ⟨x7, hx7, hj2⟩ := ob hj2
  refine aI (l := p0) (f := aP) (cs := [.str ((x7).name), .i (((x7).term).op), .str (((x7).term).name), .i (((x7).term).n), .i ((((x7).term).ty).kind), .str ((((x7).term).ty).name), .slice (List.map aF ((((x7).term).ty).kids)) .shared, bn (((x7).term).kids)]) hx7 (rfl) rfl ?_
  obtain ⟨x8, hx8, hj2⟩ := ob hj2
  refine ak (vP _ _ _ _ hx8) Bo (.cons (.same _) (.cons (.share _ _) .nil)) (fun g => by simp) (fun g => rfl) ?_
  cases hj2
  exact w2x0 (hR3 _ _)
 refine .exit ?_
 exact hR1 _ (sj hs1).symm _ _ (wk [some 1] (.u8 (.cons (.gB (bZ _ _) rfl) (.u32 (.u16 (.u .nil))))) (.t rfl .nil) rfl)
abbrev R1_Decimal_S (rec_R1_Decimal : Int → Option Str) : Prop := ∀ (p0 : Int) (r : Str), rec_R1_Decimal p0 = some r → aA Tryz.prog 162 [.i p0] [] (.str r) []
theorem Nu (n : Nat) (rec_R1_Decimal : Int → Option Str) (hrec_R1_Decimal : R1_Decimal_S rec_R1_Decimal) (p0 : Int) (r : Str) (h : sQ n rec_R1_Decimal p0 = some r) : aA Tryz.prog 162 [.i p0] [] (.str r) [] := by
 unfold sQ at h
 refine ah true Tryz.func162 rfl (nt Tryz.ntmps162 rfl) fun Q hQ t ht => ?_
 conv at ht => whnf
 subst ht
 refine .q fun K1 k1 => rg 0 ?_
 refine k1 _ _ ?_
 refine .q fun K2 k2 => .q fun K3 k3 => rg 0 ?_
 refine k3 _ _ ?_
 refine .aB rfl h (fun hc1 h => ?_) (fun hc1 h => ?_)
 ·refine .q fun K4 k4 => rg 0 ?_
  refine k4 _ _ ?_
  refine .ret ?_
  have e9 := sj h
  subst e9
  refine hQ _ _ _ (aj aC (fun g => rfl) ?_)
  conv => whnf
 refine .skip ?_
 refine k2 _ _ ?_
 refine .q fun K5 k5 => .q fun K6 k6 => rg 0 ?_
 refine k6 _ _ ?_
 refine .aB rfl h (fun hc2 h => ?_) (fun hc2 h => ?_)
 ·refine .q fun K7 k7 => rg 0 ?_
  obtain ⟨x1, hx1, h⟩ := ob h
  refine ak (hrec_R1_Decimal _ _ hx1) WQ (.cons (.same _) .nil) (fun g => rfl) (fun g => rfl) ?_
  obtain ⟨x2, hx2, h⟩ := ob h
  refine cat_of hx2 ?_
  refine k7 _ _ ?_
  refine .ret ?_
  have e9 := sj h
  subst e9
  refine hQ _ _ _ (aj aC (fun g => rfl) ?_)
  conv => whnf
 refine .skip ?_
 refine k5 _ _ ?_
 refine .q fun K8 k8 => .q fun K9 k9 => rg 0 ?_
 refine k9 _ _ ?_
 refine .aB rfl h (fun hc3 h => ?_) (fun hc3 h => ?_)
 ·refine .q fun K10 k10 => rg 1 ?_
  refine ⟨(IntKind.wrap .i64 (48 + p0)), rfl, ?_⟩
  refine ⟨List.map Pg ([(IntKind.wrap .u8 (IntKind.wrap .i64 (48 + p0)))]), rfl, ?_⟩
  refine bytes_of (l := [(IntKind.wrap .u8 (IntKind.wrap .i64 (48 + p0)))]) ?_
  refine k10 _ _ ?_
  refine .ret ?_
  have e9 := sj h
  subst e9
  refine hQ _ _ _ (aj aC (fun g => rfl) ?_)
  conv => whnf
 refine .skip ?_
 refine k8 _ _ ?_
 refine .q fun K11 k11 => rg 1 ?_
 obtain ⟨x3, hx3, h⟩ := ob h
 refine ak (hrec_R1_Decimal _ _ hx3) WQ (.cons (.same _) .nil) (fun g => rfl) (fun g => rfl) ?_
 refine ⟨(IntKind.wrap .i64 (48 + (Int.tmod p0 10))), rfl, ?_⟩
 refine ⟨List.map Pg ([(IntKind.wrap .u8 (IntKind.wrap .i64 (48 + (Int.tmod p0 10))))]), rfl, ?_⟩
 refine bytes_of (l := [(IntKind.wrap .u8 (IntKind.wrap .i64 (48 + (Int.tmod p0 10))))]) ?_
 obtain ⟨x4, hx4, h⟩ := ob h
 refine cat_of hx4 ?_
 refine ⟨rfl, ?_⟩
 refine k11 _ _ ?_
 refine .ret ?_
 have e9 := sj h
 subst e9
 refine hQ _ _ _ (aj aC (fun g => rfl) ?_)
 conv => whnf
theorem XW (n : Nat) : R1_Decimal_S (oJ n) := by
 induction n with
 | zero => exact (fun p0 r h => by unfold oJ at h; cases h)
 | succ n ih =>
  exact (fun p0 r h => Nu n _ ih p0 r (by unfold oJ at h; exact h))
theorem Z4 (n : Nat) : R1_Decimal_S (oJ n) := (XW n)
theorem acM (n : Nat) (p0 : Str) (p1 : List Str) (r : Str) (h : zH n p0 p1 = some r) : aA Tryz.prog 142 [.str p0, dx p1] [] (.str r) [] := by
 unfold zH at h
 refine ah true Tryz.func142 rfl (nt Tryz.ntmps142 rfl) fun Q hQ t ht => ?_
 conv at ht => whnf
 subst ht
 refine .q fun K1 k1 => rg 0 ?_
 refine k1 _ _ ?_
 refine .q fun K2 k2 => ?_
 obtain ⟨s1, hj1, h⟩ := ob h
 have hR1 : ∀ t9 h9, Le 0 t9 h9 (.str s1 :: (dx p1 :: (u32 (u16 (u8 (.unk :: [])))))) [] → K2 t9 h9 := by
  intro t9 h9 hw
  refine k2 _ _ (AW.le hw ?_)
  clear hw
  refine .q fun K3 k3 => .q fun K4 k4 => rg 0 ?_
  obtain ⟨x1, hx1, h⟩ := ob h
  refine ak (vP _ _ _ _ hx1) Bo (.cons (.same _) (.cons (.same _) .nil)) (fun g => by simp) (fun g => rfl) ?_
  refine k4 _ _ ?_
  refine .aB rfl h (fun hc1 h => ?_) (fun hc1 h => ?_)
  ·refine .q fun K5 k5 => rg 0 ?_
   refine k5 _ _ ?_
   refine .ret ?_
   have e9 := sj h
   subst e9
   refine hQ _ _ _ (aj aC (fun g => rfl) ?_)
   conv => whnf
  refine .skip ?_
  refine k3 _ _ ?_
  refine .q fun K6 k6 => ?_
  obtain ⟨s2, hj2, h⟩ := ob h
  have hR2 : ∀ t9 h9, Le 0 t9 h9 (.str s2 :: (dx p1 :: (u32 (u16 (u8 (.unk :: [])))))) [] → K6 t9 h9 := by
   intro t9 h9 hw
   refine k6 _ _ (AW.le hw ?_)
   clear hw
   refine .q fun K7 k7 => ?_
   refine .block ?_
   obtain ⟨o1, ho1, h⟩ := ob h
   have hR3 : ∀ s4 : Str, o1 = .nx s4 → ∀ t9 h9, Le 0 t9 h9 (.str s4 :: (dx p1 :: (u32 (u16 (u8 (.unk :: [])))))) [] → K7 t9 h9 := by
    intro s4 ho
    subst ho
    dsimp only [LR.el] at h
    intro t9 h9 hw
    refine k7 _ _ (AW.le hw ?_)
    refine .q fun K8 k8 => rg 0 ?_
    refine k8 _ _ ?_
    refine .block ?_
    obtain ⟨o2, ho2, h⟩ := ob h
    refine .loopS (qM n p1 s4) (fun (s5 : Int) => (.str s4 :: (dx p1 :: (u2 (.unk :: (.i s5 :: (u32 (u16 (u4 (.unk :: [])))))))))) (fun (s5 : Int) => []) ho2 (fun _ => rfl) (li (.s (.s (.u2 (.u (.s (.u16 (.u16 (.u16 (.u4 (.u .n))))))))))) ?_
    intro n2 s5 hs2 KL2 hKL2
    unfold qM at hs2
    refine .q fun K9 k9 => ?_
    refine .block ?_
    refine .q fun K10 k10 => rg 0 ?_
    obtain ⟨x2, hx2, hs2⟩ := ob hs2
    refine ak (Z4 _ _ _ hx2) WQ (.cons (.same _) .nil) (fun g => rfl) (fun g => rfl) ?_
    refine k10 _ _ ?_
    refine .q fun K11 k11 => rg 0 ?_
    refine k11 _ _ ?_
    refine .q fun K12 k12 => ?_
    obtain ⟨s6, hj3, hs2⟩ := ob hs2
    have hR5 : ∀ t9 h9, Le 0 t9 h9 (.str s4 :: (dx p1 :: (u2 (.unk :: (.i s5 :: (.str x2 :: (.str s6 :: (u32 (u16 (u2 (.unk :: []))))))))))) [] → K12 t9 h9 := by
     intro t9 h9 hw
     refine k12 _ _ (AW.le hw ?_)
     clear hw
     refine .q fun K13 k13 => rg 0 ?_
     obtain ⟨x3, hx3, hs2⟩ := ob hs2
     refine cat_of hx3 ?_
     obtain ⟨x4, hx4, hs2⟩ := ob hs2
     refine ak (vP _ _ _ _ hx4) Bo (.cons (.same _) (.cons (.same _) .nil)) (fun g => by simp) (fun g => rfl) ?_
     refine k13 _ _ ?_
     refine .aB rfl hs2 (fun hc2 hs2 => ?_) (fun hc2 hs2 => ?_)
     ·refine .q fun K14 k14 => rg 0 ?_
      obtain ⟨x5, hx5, hs2⟩ := ob hs2
      refine cat_of hx5 ?_
      refine k14 _ _ ?_
      refine .ret ?_
      have e9 := sj hs2
      subst e9
      dsimp only [LR.el] at h
      have e9 := sj h
      subst e9
      refine hQ _ _ _ (aj aC (fun g => rfl) ?_)
      conv => whnf
     refine .skip ?_
     refine k9 _ _ ?_
     refine rg 0 ?_
     refine ⟨(IntKind.wrap .i64 (s5 + 1)), rfl, ?_⟩
     exact hKL2 _ _ _ hs2 (li (.s (.s (.u2 (.u (.s (.u16 (.u16 (.u16 (.u4 (.u .n)))))))))))
    refine .q fun K15 k15 => rg 0 ?_
    refine ⟨(IntKind.wrap .i64 ((s4.length : Int) + (x2.length : Int))), rfl, ?_⟩
    refine k15 _ _ ?_
    refine .aB rfl hj3 (fun hc3 hj3 => ?_) (fun hc3 hj3 => ?_)
    ·refine rg 0 ?_
     refine ⟨(IntKind.wrap .i64 (16 - (x2.length : Int))), rfl, ?_⟩
     obtain ⟨x6, hx6, hj3⟩ := ob hj3
     refine Pe hx6 (.none _) (.int _ _ _) ?_
     cases hj3
     exact hR5 _ _ (li (.s (.s (.u2 (.u (.s (.s (.s (.u16 (.u16 (.u16 (.u2 (.u .n)))))))))))))
    refine .skip ?_
    cases hj3
    exact hR5 _ _ (li (.s (.s (.u2 (.u (.s (.s (.s (.u16 (.u16 (.u16 (.u2 (.u .n)))))))))))))
   refine .loopS (wJ n) (fun (s3 : Str) => (.str s3 :: (dx p1 :: (u32 (u16 (u8 (.unk :: []))))))) (fun (s3 : Str) => []) ho1 (fun _ => rfl) (li (.s (.s (.u16 (.u16 (.u16 (.u8 (.u .n)))))))) ?_
   intro n1 s3 hs1 KL1 hKL1
   unfold wJ at hs1
   refine .q fun K16 k16 => .q fun K17 k17 => ?_
   refine .know 0 0 fun hv1 => ?_
   refine rg 0 ?_
   refine ⟨((s3.length : Int) - 1), by have := vfs hv1; exact bI (by omega) (by omega), ?_⟩
   obtain ⟨x7, hx7, hs1⟩ := ob hs1
   refine z8 hx7 ?_
   obtain ⟨x8, hx8, hs1⟩ := ob hs1
   refine ak (Ru _ _ _ hx8) aef (.cons (.same _) .nil) (fun g => rfl) (fun g => rfl) ?_
   refine k17 _ _ ?_
   refine .aB rfl hs1 (fun hc4 hs1 => ?_) (fun hc4 hs1 => ?_)
   ·refine .skip ?_
    refine k16 _ _ ?_
    refine .block ?_
    refine .know 0 0 fun hv2 => ?_
    refine rg 0 ?_
    refine ⟨((s3.length : Int) - 1), by have := vfs hv2; exact bI (by omega) (by omega), ?_⟩
    obtain ⟨x9, hx9, hs1⟩ := ob hs1
    refine Pe hx9 (.none _) (.int _ _ _) ?_
    exact hKL1 _ _ _ hs1 (li (.s (.s (.u16 (.u16 (.u16 (.u8 (.u .n))))))))
   refine .exit ?_
   exact hR3 _ (sj hs1).symm _ _ (li (.s (.s (.u16 (.u16 (.u16 (.u8 (.u .n))))))))
  refine .q fun K18 k18 => rg 0 ?_
  obtain ⟨x10, hx10, hj2⟩ := ob hj2
  refine ak (N7 _ _ _ hx10) adT (.cons (.same _) .nil) (fun g => rfl) (fun g => rfl) ?_
  refine k18 _ _ ?_
  refine .aB rfl hj2 (fun hc5 hj2 => ?_) (fun hc5 hj2 => ?_)
  ·refine .know 0 0 fun hv3 => ?_
   refine rg 0 ?_
   refine ⟨((s1.length : Int) - 1), by have := vfs hv3; exact bI (by omega) (by omega), ?_⟩
   obtain ⟨x11, hx11, hj2⟩ := ob hj2
   refine Pe hx11 (.none _) (.int _ _ _) ?_
   cases hj2
   exact hR2 _ _ (li (.s (.s (.u16 (.u16 (.u16 (.u8 (.u .n))))))))
  refine .skip ?_
  cases hj2
  exact hR2 _ _ (li (.s (.s (.u16 (.u16 (.u16 (.u8 (.u .n))))))))
 refine .q fun K19 k19 => rg 0 ?_
 obtain ⟨x12, hx12, hj1⟩ := ob hj1
 refine ak (HZ _ _ _ hx12) Xe (.cons (.same _) .nil) (fun g => rfl) (fun g => rfl) ?_
 refine k19 _ _ ?_
 refine .aB rfl hj1 (fun hc6 hj1 => ?_) (fun hc6 hj1 => ?_)
 ·refine rg 0 ?_
  cases hj1
  exact hR1 _ _ (li (.s (.s (.u16 (.u16 (.u16 (.u8 (.u .n))))))))
 refine .skip ?_
 cases hj1
 exact hR1 _ _ (li (.s (.s (.u16 (.u16 (.u16 (.u8 (.u .n))))))))
end Abs
end Go.Proofs.YtiiaccpcoclklaaGreat
