/-
  Contracts of Go functions (printed). Conditions: none.
-/
import Derived.KernelRfl
import Derived.Test.YtiiaccpcoclklaaGreatCAbs38x04b7ad
import Derived.Test.YtiiaccpcoclklaaGreatCDfxa6bced
import Derived.Test.YtiiaccpcoclklaaGreatCTDx83fdfc
import Derived.Test.YtiiaccpcoclklaaGreatCT16xc0b479
set_option linter.unusedSimpArgs false
set_option linter.unusedVariables false
namespace Go.Proofs.YtiiaccpcoclklaaGreat
namespace Abs
open Go Go.Proofs
set_option maxRecDepth 100000
set_option maxHeartbeats 40000000
theorem OP {p q : Prop} (f : p → q) (h : p := by exact li (.u (.s (.s (.s (.u16 (.u16 (.u16 (.u8 (.u (.s (.u16 (.u2 (.u .n)))))))))))))) : q := f h
theorem HZ (n : Nat) (p0 : Str) (r : Bool) (h : wW n p0 = some r) : aA Tryz.prog 116 [.str p0] [] (.bool r) [] := by
 unfold wW at h
 refine ah true Tryz.func116 rfl (nt Tryz.ntmps116 rfl) fun Q hQ t ht => ?_
 conv at ht => whnf
 subst ht
 refine .q fun K1 k1 => rg 0 ?_
 refine k1 _ _ ?_
 refine .q fun K2 k2 => ?_
 obtain ⟨s1, hj1, h⟩ := ob h
 have hR1 : ∀ t9 h9, Le 0 t9 h9 (u2 (.bool s1 :: (u4 (u2 [])))) [] → K2 t9 h9 := by
  intro t9 h9 hw
  refine k2 _ _ (AW.le hw ?_)
  clear hw
  refine .ret ?_
  have e9 := sj h
  subst e9
  refine hQ _ _ _ (aj aC (fun g => rfl) ?_)
  conv => whnf
 refine rg 0 ?_
 obtain ⟨x1, hx1, hj1⟩ := ob hj1
 refine ak (ou _ _ _ hx1) Ip (.cons (.same _) .nil) (fun g => rfl) (fun g => rfl) ?_
 refine aG hj1 (fun hc1 hj1 => ?_) (fun hc1 hj1 => ?_)
 ·cases hj1
  exact hR1 _ _ (li (.u2 (.s (.u4 (.u2 .n)))))
 obtain ⟨x2, hx2, hj1⟩ := ob hj1
 refine ak (N7 _ _ _ hx2) adT (.cons (.same _) .nil) (fun g => rfl) (fun g => rfl) ?_
 cases hj1
 exact hR1 _ _ (li (.u2 (.s (.u4 (.u2 .n)))))
abbrev KW (rec_R1_typed : Ty → Int → Int → Option Int) : Prop := ∀ (p0 : Ty) (p1 : Int) (p2 : Int) (r : Int), rec_R1_typed p0 p1 p2 = some r → aA Tryz.prog 94 [aU p0, .i p1, .i p2] [] (.i r) []
theorem Tj (n : Nat) (rec_R1_typed : Ty → Int → Int → Option Int) (hrec_R1_typed : KW rec_R1_typed) (p0 : Ty) (p1 : Int) (p2 : Int) (r : Int) (h : wz n rec_R1_typed p0 p1 p2 = some r) : aA Tryz.prog 94 [aU p0, .i p1, .i p2] [] (.i r) [] := by
 unfold wz at h
 refine ah true Tryz.func94 rfl (nt Tryz.ntmps94 rfl) fun Q hQ t ht => ?_
 conv at ht => whnf
 subst ht
 refine .q fun K1 k1 => rg 1 ?_
 refine k1 _ _ ?_
 refine .q fun K2 k2 => rg 0 ?_
 refine ⟨(IntKind.wrap .i64 (p2 + 1)), rfl, ?_⟩
 refine k2 _ _ ?_
 refine .q fun K3 k3 => .q fun K4 k4 => ?_
 obtain ⟨s1, hj1, h⟩ := ob h
 have hR1 : ∀ t9 h9, Le 0 t9 h9 (.unk :: (.i p1 :: (.i (IntKind.wrap .i64 (p2 + 1)) :: (.ptr 0 0 :: (u16 (u4 (.unk :: (.bool s1 :: (u32 (u16 (u4 (u2 (.unk :: []))))))))))))) [.box [.i p0.kind, .str p0.name, aH p0.kids]] → K4 t9 h9 := by
  intro t9 h9 hw
  refine k4 _ _ (AW.le hw ?_)
  clear hw
  refine .aB rfl h (fun hc1 h => ?_) (fun hc1 h => ?_)
  ·refine .q fun K5 k5 => rg 0 ?_
   refine k5 _ _ ?_
   refine .ret ?_
   have e9 := sj h
   subst e9
   refine hQ _ _ _ (aj aC (fun g => rfl) ?_)
   conv => whnf
  refine .skip ?_
  refine k3 _ _ ?_
  refine .q fun K6 k6 => rg 0 ?_
  refine k6 _ _ ?_
  refine .q fun K7 k7 => ?_
  obtain ⟨o2, hj2, h⟩ := ob h
  have hR2 : ∀ s2 : Int, o2 = .nx s2 → ∀ t9 h9, Le 0 t9 h9 (.unk :: (.i p1 :: (.i (IntKind.wrap .i64 (p2 + 1)) :: (.ptr 0 0 :: (u2 (.unk :: (.i s2 :: (u64 (u8 (.unk :: [])))))))))) [.box [.i p0.kind, .str p0.name, aH p0.kids]] → K7 t9 h9 := by
   intro s2 ho
   subst ho
   dsimp only [LR.el] at h
   intro t9 h9 hw
   refine k7 _ _ (AW.le hw ?_)
   clear hw
   refine .q fun K8 k8 => .q fun K9 k9 => ?_
   obtain ⟨s3, hj3, h⟩ := ob h
   have hR3 : ∀ t9 h9, Le 0 t9 h9 (.unk :: (.i p1 :: (.i (IntKind.wrap .i64 (p2 + 1)) :: (.ptr 0 0 :: (u32 (u16 (u8 (.unk :: (.bool s3 :: (u16 (u2 (.unk :: [])))))))))))) [.box [.i p0.kind, .str p0.name, aH p0.kids]] → K9 t9 h9 := by
    intro t9 h9 hw
    refine k9 _ _ (AW.le hw ?_)
    clear hw
    refine .aB rfl h (fun hc2 h => ?_) (fun hc2 h => ?_)
    ·refine .q fun K10 k10 => rg 0 ?_
     refine k10 _ _ ?_
     refine .ret ?_
     have e9 := sj h
     subst e9
     refine hQ _ _ _ (aj aC (fun g => rfl) ?_)
     conv => whnf
    refine .skip ?_
    refine k8 _ _ ?_
    refine .q fun K11 k11 => .q fun K12 k12 => rg 0 ?_
    refine k12 _ _ ?_
    refine .block ?_
    obtain ⟨o1, ho1, h⟩ := ob h
    have hR4 : ∀ s5 : Int, o1 = .nx s5 → ∀ t9 h9, Le 0 t9 h9 (u2 (.i s5 :: (u64 (u8 (u4 (u2 [])))))) [] → K11 t9 h9 := by
     intro s5 ho
     subst ho
     dsimp only [LR.el] at h
     intro t9 h9 hw
     refine k11 _ _ (AW.le hw ?_)
     refine .q fun K13 k13 => rg 0 ?_
     refine k13 _ _ ?_
     refine .ret ?_
     have e9 := sj h
     subst e9
     refine hQ _ _ _ (aj aC (fun g => rfl) ?_)
     conv => whnf
    refine .loopS (tQ n rec_R1_typed p0 p1) (fun (s4 : Int × Int) => (.unk :: (.i p1 :: (.i s4.1 :: (.ptr 0 0 :: (u4 (.i s4.2 :: (u64 (u8 []))))))))) (fun (s4 : Int × Int) => [.box [.i p0.kind, .str p0.name, aH p0.kids]]) ho1 (fun _ => rfl) (li (.u (.s (.s (.s (.u4 (.s (.u16 (.u16 (.u16 (.u16 (.u8 .n)))))))))))) ?_
    intro n1 s4 hs1 KL1 hKL1
    unfold tQ at hs1
    refine .q fun K14 k14 => .q fun K15 k15 => rg 0 ?_
    refine bB (l := p0.kids) (f := aF) ?_
    refine k15 _ _ ?_
    refine .aB rfl hs1 (fun hc3 hs1 => ?_) (fun hc3 hs1 => ?_)
    ·refine .skip ?_
     refine k14 _ _ ?_
     refine .q fun K16 k16 => ?_
     refine .block ?_
     refine .q fun K17 k17 => rg 0 ?_
     obtain ⟨x1, hx1, hs1⟩ := ob hs1
     refine aI (l := p0.kids) (f := aF) (cs := [.i ((x1).kind), .str ((x1).name), aH ((x1).kids)]) hx1 (aL x1) rfl ?_
     refine ⟨(IntKind.wrap .i64 (p1 + 1)), rfl, ?_⟩
     obtain ⟨x2, hx2, hs1⟩ := ob hs1
     refine ak (hrec_R1_typed _ _ _ _ hx2) ahG (.cons (.same _) (.cons (.same _) (.cons (.same _) .nil))) (fun g => by simp) (fun g => rfl) ?_
     refine k17 _ _ ?_
     refine .q fun K18 k18 => rg 0 ?_
     refine k18 _ _ ?_
     refine .aB rfl hs1 (fun hc4 hs1 => ?_) (fun hc4 hs1 => ?_)
     ·refine .q fun K19 k19 => rg 0 ?_
      refine k19 _ _ ?_
      refine .ret ?_
      have e9 := sj hs1
      subst e9
      dsimp only [LR.el] at h
      have e9 := sj h
      subst e9
      refine hQ _ _ _ (aj aC (fun g => rfl) ?_)
      conv => whnf
     refine .skip ?_
     refine k16 _ _ ?_
     refine .know 8 0 fun hv1 => ?_
     refine .know 64 0 fun hv2 => ?_
     refine rg 0 ?_
     refine ⟨(s4.2 + 1), by have := dK hv1; have := fU hv2; have h8 := of_decide_eq_true hc3; exact bI (by omega) (by omega), ?_⟩
     exact hKL1 _ _ _ hs1 (li (.u (.s (.s (.s (.u4 (.s (.u16 (.u16 (.u16 (.u16 (.u8 .n))))))))))))
    refine .exit ?_
    exact hR4 _ (sj hs1).symm _ _ (wk [] (.u2 (.c rfl (.u64 (.u8 (.u4 (.u2 .nil)))))) .nil rfl)
   refine rg 0 ?_
   refine bB (l := p0.kids) (f := aF) ?_
   refine aG hj3 (fun hc5 hj3 => ?_) (fun hc5 hj3 => ?_)
   ·cases hj3
    exact OP (hR3 _ _)
   refine aG hj3 (fun hc6 hj3 => ?_) (fun hc6 hj3 => ?_)
   ·obtain ⟨x3, hx3, hj3⟩ := ob hj3
    refine ak (ou _ _ _ hx3) Ip (.cons (.same _) .nil) (fun g => rfl) (fun g => rfl) ?_
    refine aG hj3 (fun hc7 hj3 => ?_) (fun hc7 hj3 => ?_)
    ·cases hj3
     exact OP (hR3 _ _)
    refine aG hj3 (fun hc8 hj3 => ?_) (fun hc8 hj3 => ?_)
    ·cases hj3
     exact OP (hR3 _ _)
    cases hj3
    exact OP (hR3 _ _)
   refine aG hj3 (fun hc9 hj3 => ?_) (fun hc9 hj3 => ?_)
   ·cases hj3
    exact OP (hR3 _ _)
   cases hj3
   exact OP (hR3 _ _)
  refine .q fun K20 k20 => rg 0 ?_
  refine k20 _ _ ?_
  refine .block ?_
  refine .q fun K21 k21 => ?_
  obtain ⟨s6, hj4, hj2⟩ := ob hj2
  have hR5 : ∀ t9 h9, Le 0 t9 h9 (.unk :: (.i p1 :: (.i (IntKind.wrap .i64 (p2 + 1)) :: (.ptr 0 0 :: (u2 (.unk :: (.i 0 :: (u16 (u2 (.unk :: (.i p0.kind :: (.bool s6 :: (u32 (u16 (u4 []))))))))))))))) [.box [.i p0.kind, .str p0.name, aH p0.kids]] → K21 t9 h9 := by
   intro t9 h9 hw
   refine k21 _ _ (AW.le hw ?_)
   clear hw
   refine .aB rfl hj2 (fun hc10 hj2 => ?_) (fun hc10 hj2 => ?_)
   ·refine .skip ?_
    exact hR2 _ (sj hj2).symm _ _ (li (.u (.s (.s (.s (.u2 (.u (.s (.u16 (.u16 (.u16 (.u16 (.u8 (.u .n))))))))))))))
   refine .q fun K22 k22 => rg 0 ?_
   refine k22 _ _ ?_
   refine .aB rfl hj2 (fun hc11 hj2 => ?_) (fun hc11 hj2 => ?_)
   ·refine rg 0 ?_
    exact hR2 _ (sj hj2).symm _ _ (li (.u (.s (.s (.s (.u2 (.u (.s (.u16 (.u16 (.u16 (.u16 (.u8 (.u .n))))))))))))))
   refine .q fun K23 k23 => rg 0 ?_
   refine k23 _ _ ?_
   refine .aB rfl hj2 (fun hc12 hj2 => ?_) (fun hc12 hj2 => ?_)
   ·refine rg 0 ?_
    exact hR2 _ (sj hj2).symm _ _ (li (.u (.s (.s (.s (.u2 (.u (.s (.u16 (.u16 (.u16 (.u16 (.u8 (.u .n))))))))))))))
   refine .q fun K24 k24 => rg 0 ?_
   refine k24 _ _ ?_
   refine .ret ?_
   have e9 := sj hj2
   subst e9
   dsimp only [LR.el] at h
   have e9 := sj h
   subst e9
   refine hQ _ _ _ (aj aC (fun g => rfl) ?_)
   conv => whnf
  refine .q fun K25 k25 => rg 0 ?_
  refine k25 _ _ ?_
  refine .aB rfl hj4 (fun hc13 hj4 => ?_) (fun hc13 hj4 => ?_)
  ·refine .skip ?_
   cases hj4
   exact hR5 _ _ (li (.u (.s (.s (.s (.u2 (.u (.s (.u16 (.u2 (.u (.s (.s (.u16 (.u16 (.u16 (.u4 .n)))))))))))))))))
  refine .q fun K26 k26 => rg 0 ?_
  refine k26 _ _ ?_
  refine .aB rfl hj4 (fun hc14 hj4 => ?_) (fun hc14 hj4 => ?_)
  ·refine .skip ?_
   cases hj4
   exact hR5 _ _ (li (.u (.s (.s (.s (.u2 (.u (.s (.u16 (.u2 (.u (.s (.s (.u16 (.u16 (.u16 (.u4 .n)))))))))))))))))
  refine rg 0 ?_
  cases hj4
  exact hR5 _ _ (li (.u (.s (.s (.s (.u2 (.u (.s (.u16 (.u2 (.u (.s (.s (.u16 (.u16 (.u16 (.u4 .n)))))))))))))))))
 refine rg 0 ?_
 refine aG hj1 (fun hc15 hj1 => ?_) (fun hc15 hj1 => ?_)
 ·cases hj1
  exact hR1 _ _ (li (.u (.s (.s (.s (.u16 (.u4 (.u (.s (.u16 (.u16 (.u16 (.u4 (.u2 (.u .n)))))))))))))))
 refine aG hj1 (fun hc16 hj1 => ?_) (fun hc16 hj1 => ?_)
 ·cases hj1
  exact hR1 _ _ (li (.u (.s (.s (.s (.u16 (.u4 (.u (.s (.u16 (.u16 (.u16 (.u4 (.u2 (.u .n)))))))))))))))
 refine aG hj1 (fun hc17 hj1 => ?_) (fun hc17 hj1 => ?_)
 ·cases hj1
  exact hR1 _ _ (li (.u (.s (.s (.s (.u16 (.u4 (.u (.s (.u16 (.u16 (.u16 (.u4 (.u2 (.u .n)))))))))))))))
 cases hj1
 exact hR1 _ _ (li (.u (.s (.s (.s (.u16 (.u4 (.u (.s (.u16 (.u16 (.u16 (.u4 (.u2 (.u .n)))))))))))))))
theorem aaY (n : Nat) : KW (p9 n) := by
 induction n with
 | zero => exact (fun p0 p1 p2 r h => by unfold p9 at h; cases h)
 | succ n ih =>
  exact (fun p0 p1 p2 r h => Tj n _ ih p0 p1 p2 r (by unfold p9 at h; exact h))
theorem acL (n : Nat) : KW (p9 n) := (aaY n)
theorem jU (n : Nat) (p0 : Ty) (r : Bool) (h : iF n p0 = some r) : aA Tryz.prog 42 [aU p0] [] (.bool r) [] := by
 unfold iF at h
 refine ah true Tryz.func42 rfl (nt Tryz.ntmps42 rfl) fun Q hQ t ht => ?_
 conv at ht => whnf
 subst ht
 refine .q fun K1 k1 => rg 1 ?_
 refine k1 _ _ ?_
 refine .q fun K2 k2 => rg 0 ?_
 obtain ⟨x1, hx1, h⟩ := ob h
 refine ak (acL _ _ _ _ _ hx1) ahG (.cons (.same _) (.cons (.same _) (.cons (.same _) .nil))) (fun g => by simp) (fun g => rfl) ?_
 refine k2 _ _ ?_
 refine .ret ?_
 have e9 := sj h
 subst e9
 refine hQ _ _ _ (aj aC (fun g => rfl) ?_)
 conv => whnf
end Abs
end Go.Proofs.YtiiaccpcoclklaaGreat
