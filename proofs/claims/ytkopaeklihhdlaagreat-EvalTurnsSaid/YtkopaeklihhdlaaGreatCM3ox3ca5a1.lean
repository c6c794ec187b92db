/-
  Contracts of Go functions (printed). Conditions: none.
-/
import Derived.KernelRfl
import Derived.Test.YtkopaeklihhdlaaGreatCM2oxbfe1dd
set_option linter.unusedSimpArgs false
set_option linter.unusedVariables false
namespace Go.Proofs.YtkopaeklihhdlaaGreat
namespace Abs
open Go Go.Proofs
set_option maxRecDepth 100000
set_option maxHeartbeats 40000000
theorem m3x0 {p q : Prop} (f : p → q) (h : p := by exact wk [some 0, some 1, some 2] (.u2 (.u (.c rfl (.c rfl (.c rfl (.u32 (.u8 (.u2 (.u (.c rfl (.u32 (.u16 (.u4 (.u2 .nil)))))))))))))) (.b rfl (.e au (.e aF (.e aR (.e aD .nil)))) (.b rfl (.c rfl (.c rfl (.c rfl (.e aD .nil)))) (.b rfl (.c rfl (.e aR .nil)) .nil))) rfl) : q := f h
abbrev qaa (qci : Val → Option Bool) : Prop := ∀ (p0 : Val) (r : Bool), qci p0 = some r → aA Tryz.prog 31 [.agg [.int .i64 p0.kind, .int .i64 p0.n, .str p0.name, .slice (List.map ah p0.kids) .shared]] [] (.bool r) []
theorem LZ (n : Nat) (qci : Val → Option Bool) (qbn : qaa qci) (p0 : Val) (r : Bool) (h : su n qci p0 = some r) : aA Tryz.prog 31 [.agg [.int .i64 p0.kind, .int .i64 p0.n, .str p0.name, .slice (List.map ah p0.kids) .shared]] [] (.bool r) [] := by
 unfold su at h
 refine aC true Tryz.func31 rfl (by rw [Tryz.ntmps31]; exact Nat.le_of_ble_eq_true rfl) fun Q hQ t ht => ?_
 conv at ht => whnf
 subst ht
 refine .q fun K1 k1 => ?_
 refine rg 1 ?_
 conv => whnf
 refine k1 _ _ ?_
 refine .q fun K2 k2 => ?_
 refine .q fun K3 k3 => ?_
 refine rg 0 ?_
 conv => whnf
 refine k3 _ _ ?_
 refine .block ?_
 refine .q fun K4 k4 => ?_
 obtain ⟨s1, hj1, h⟩ := ob h
 have hR1 : ∀ t9 h9, Le 0 t9 h9 (.unk :: (.ptr 0 0 :: (u2 (.unk :: (.int .i64 p0.kind :: (.bool s1 :: (u32 (u8 (u4 []))))))))) [.box [.int .i64 p0.kind, .int .i64 p0.n, .str p0.name, .slice (List.map ah p0.kids) .shared]] → K4 t9 h9 := by
  intro t9 h9 hw
  refine k4 _ _ (AW.le hw ?_)
  clear hw
  refine .aK rfl h (fun hc1 h => ?_) (fun hc1 h => ?_)
  ·refine .q fun K5 k5 => ?_
   refine rg 0 ?_
   conv => whnf
   refine aQ (l := p0.kids) (f := ah) ?_
   conv => whnf
   refine k5 _ _ ?_
   refine .ret ?_
   conv => whnf
   have e9 := sj h
   subst e9
   refine hQ _ _ _ (aG aJ (fun g => rfl) ?_)
   conv => whnf
  refine .q fun K6 k6 => ?_
  refine rg 0 ?_
  conv => whnf
  refine k6 _ _ ?_
  refine .aK rfl h (fun hc2 h => ?_) (fun hc2 h => ?_)
  ·refine .q fun K7 k7 => ?_
   obtain ⟨s2, hj2, h⟩ := ob h
   have hR2 : ∀ t9 h9, Le 0 t9 h9 (u2 (.bool s2 :: (u32 (u16 [])))) [] → K7 t9 h9 := by
    intro t9 h9 hw
    refine k7 _ _ (AW.le hw ?_)
    clear hw
    refine .ret ?_
    conv => whnf
    have e9 := sj h
    subst e9
    refine hQ _ _ _ (aG aJ (fun g => rfl) ?_)
    conv => whnf
   refine rg 0 ?_
   conv => whnf
   refine aQ (l := p0.kids) (f := ah) ?_
   conv => whnf
   refine aI hj2 (fun hc3 hj2 => ?_) (fun hc3 hj2 => ?_)
   ·conv => whnf
    obtain ⟨x1, hx1, hj2⟩ := ob hj2
    refine aU (l := p0.kids) (f := ah) (cs := [.int .i64 ((x1).kind), .int .i64 ((x1).n), .str ((x1).name), .slice (List.map ah ((x1).kids)) .shared]) hx1 (aX x1) rfl ?_
    conv => whnf
    obtain ⟨x2, hx2, hj2⟩ := ob hj2
    refine aB (qbn _ _ hx2) MQ (.cons (.same _) .nil) (fun g => by simp) (fun g => rfl) ?_
    conv => whnf
    refine aI hj2 (fun hc4 hj2 => ?_) (fun hc4 hj2 => ?_)
    ·conv => whnf
     obtain ⟨x3, hx3, hj2⟩ := ob hj2
     refine aU (l := p0.kids) (f := ah) (cs := [.int .i64 ((x3).kind), .int .i64 ((x3).n), .str ((x3).name), .slice (List.map ah ((x3).kids)) .shared]) hx3 (aX x3) rfl ?_
     conv => whnf
     obtain ⟨x4, hx4, hj2⟩ := ob hj2
     refine aB (qbn _ _ hx4) MQ (.cons (.same _) .nil) (fun g => by simp) (fun g => rfl) ?_
     conv => whnf
     cases hj2
     exact hR2 _ _ (wk [] (.u2 (.c rfl (.u32 (.u16 .nil)))) .nil rfl)
    conv => whnf
    cases hj2
    exact hR2 _ _ (wk [] (.u2 (.c rfl (.u32 (.u16 .nil)))) .nil rfl)
   conv => whnf
   cases hj2
   exact hR2 _ _ (wk [] (.u2 (.c rfl (.u32 (.u16 .nil)))) .nil rfl)
  refine .skip ?_
  conv => whnf
  refine k2 _ _ ?_
  refine .q fun K8 k8 => ?_
  refine .q fun K9 k9 => ?_
  refine rg 0 ?_
  conv => whnf
  refine k9 _ _ ?_
  refine .block ?_
  obtain ⟨o1, ho1, h⟩ := ob h
  have hR3 : ∀ s4 : Unit, o1 = .nx s4 → ∀ t9 h9, Le 0 t9 h9 (.unk :: (.ptr 0 0 :: (u32 (u16 (.unk :: []))))) [.box [.int .i64 p0.kind, .int .i64 p0.n, .str p0.name, .slice (List.map ah p0.kids) .shared]] → K8 t9 h9 := by
   intro s4 ho
   subst ho
   dsimp only [LR.el] at h
   intro t9 h9 hw
   refine k8 _ _ (AW.le hw ?_)
   refine .q fun K10 k10 => ?_
   refine rg 0 ?_
   conv => whnf
   refine k10 _ _ ?_
   refine .ret ?_
   conv => whnf
   have e9 := sj h
   subst e9
   refine hQ _ _ _ (aG aJ (fun g => rfl) ?_)
   conv => whnf
  refine .loopS (vV n qci p0) (fun (s3 : Int) => (.unk :: (.ptr 0 0 :: (.unk :: (.int .i64 s3 :: (u32 (u8 (u4 (u2 (.unk :: [])))))))))) (fun (s3 : Int) => [.box [.int .i64 p0.kind, .int .i64 p0.n, .str p0.name, .slice (List.map ah p0.kids) .shared]]) ho1 (fun _ => rfl) (li (.u (.s (.u (.s (.u16 (.u16 (.u8 (.u4 (.u2 (.u .n))))))))))) ?_
  intro n1 s3 hs1 KL1 hKL1
  unfold vV at hs1
  refine .q fun K11 k11 => ?_
  refine .q fun K12 k12 => ?_
  refine rg 0 ?_
  conv => whnf
  refine aQ (l := p0.kids) (f := ah) ?_
  conv => whnf
  refine k12 _ _ ?_
  refine .aK rfl hs1 (fun hc5 hs1 => ?_) (fun hc5 hs1 => ?_)
  ·refine .skip ?_
   conv => whnf
   refine k11 _ _ ?_
   refine .q fun K13 k13 => ?_
   refine .block ?_
   refine .q fun K14 k14 => ?_
   refine rg 0 ?_
   conv => whnf
   obtain ⟨x5, hx5, hs1⟩ := ob hs1
   refine aU (l := p0.kids) (f := ah) (cs := [.int .i64 ((x5).kind), .int .i64 ((x5).n), .str ((x5).name), .slice (List.map ah ((x5).kids)) .shared]) hx5 (aX x5) rfl ?_
   conv => whnf
   obtain ⟨x6, hx6, hs1⟩ := ob hs1
   refine aB (qbn _ _ hx6) MQ (.cons (.same _) .nil) (fun g => by simp) (fun g => rfl) ?_
   conv => whnf
   refine k14 _ _ ?_
   refine .aK rfl hs1 (fun hc6 hs1 => ?_) (fun hc6 hs1 => ?_)
   ·refine .q fun K15 k15 => ?_
    refine rg 0 ?_
    conv => whnf
    refine k15 _ _ ?_
    refine .ret ?_
    conv => whnf
    have e9 := sj hs1
    subst e9
    dsimp only [LR.el] at h
    have e9 := sj h
    subst e9
    refine hQ _ _ _ (aG aJ (fun g => rfl) ?_)
    conv => whnf
   refine .skip ?_
   conv => whnf
   refine k13 _ _ ?_
   refine .know 3 0 fun hv1 => ?_
   refine .know 36 0 fun hv2 => ?_
   refine rg 0 ?_
   conv => whnf
   refine ⟨(s3 + 1), by have := bY hv1; have := gI hv2; have h8 := of_decide_eq_true hc5; exact bB (by omega) (by omega), ?_⟩
   conv => whnf
   exact hKL1 _ _ _ hs1 (li (.u (.s (.u (.s (.u16 (.u16 (.u8 (.u4 (.u2 (.u .n)))))))))))
  refine .exit ?_
  conv => whnf
  exact hR3 _ (sj hs1).symm _ _ (li (.u (.s (.u16 (.u16 (.u16 (.u .n)))))))
 refine .q fun K16 k16 => ?_
 refine rg 0 ?_
 conv => whnf
 refine k16 _ _ ?_
 refine .aK rfl hj1 (fun hc7 hj1 => ?_) (fun hc7 hj1 => ?_)
 ·refine .skip ?_
  conv => whnf
  cases hj1
  exact hR1 _ _ (li (.u (.s (.u2 (.u (.s (.s (.u16 (.u16 (.u8 (.u4 .n)))))))))))
 refine .q fun K17 k17 => ?_
 refine rg 0 ?_
 conv => whnf
 refine k17 _ _ ?_
 refine .aK rfl hj1 (fun hc8 hj1 => ?_) (fun hc8 hj1 => ?_)
 ·refine .skip ?_
  conv => whnf
  cases hj1
  exact hR1 _ _ (li (.u (.s (.u2 (.u (.s (.s (.u16 (.u16 (.u8 (.u4 .n)))))))))))
 refine rg 0 ?_
 conv => whnf
 cases hj1
 exact hR1 _ _ (li (.u (.s (.u2 (.u (.s (.s (.u16 (.u16 (.u8 (.u4 .n)))))))))))
theorem Vz (n : Nat) : qaa (ku n) := by
 induction n with
 | zero => exact (fun p0 r h => by unfold ku at h; cases h)
 | succ n ih =>
  exact (fun p0 r h => LZ n _ ih p0 r (by unfold ku at h; exact h))
theorem Yg (n : Nat) : qaa (ku n) := (Vz n)
theorem N9 (n : Nat) (p0 : S_api_World) (p1 : Val) (p2 : S_refinementlaw03_Turned) (r : Bool) (h : xR n p0 p1 p2 = some r) : aA Tryz.prog 7 [.agg [.slice (List.map aj p0.env.carriers) .shared, .slice (List.map ak p0.env.names) .shared, .slice (List.map encI p0.sizes) .shared, .slice (List.map ah p0.values) .shared], .agg [.int .i64 p1.kind, .int .i64 p1.n, .str p1.name, .slice (List.map ah p1.kids) .shared], .agg [.str p2.carrier, .slice (List.map encI p2.perm) .shared]] [] (.bool r) [] := by
 unfold xR at h
 refine aC true Tryz.func7 rfl (by rw [Tryz.ntmps7]; exact Nat.le_of_ble_eq_true rfl) fun Q hQ t ht => ?_
 conv at ht => whnf
 subst ht
 refine .q fun K1 k1 => ?_
 refine rg 3 ?_
 conv => whnf
 refine k1 _ _ ?_
 refine .q fun K2 k2 => ?_
 refine .q fun K3 k3 => ?_
 obtain ⟨s1, hj1, h⟩ := ob h
 have hR1 : ∀ t9 h9, Le 0 t9 h9 (u2 (.unk :: (.ptr 0 0 :: (.ptr 1 0 :: (.ptr 2 0 :: (u8 (u4 (u2 (.unk :: (.bool s1 :: (u64 (u16 (u2 []))))))))))))) [.box [.slice (List.map aj p0.env.carriers) .shared, .slice (List.map ak p0.env.names) .shared, .slice (List.map encI p0.sizes) .shared, .slice (List.map ah p0.values) .shared], .box [.int .i64 p1.kind, .int .i64 p1.n, .str p1.name, .slice (List.map ah p1.kids) .shared], .box [.str p2.carrier, .slice (List.map encI p2.perm) .shared]] → K3 t9 h9 := by
  intro t9 h9 hw
  refine k3 _ _ (AW.le hw ?_)
  clear hw
  refine .aK rfl h (fun hc1 h => ?_) (fun hc1 h => ?_)
  ·refine .q fun K4 k4 => ?_
   refine rg 0 ?_
   conv => whnf
   obtain ⟨x1, hx1, h⟩ := ob h
   refine aB (jl _ _ hx1) uF .nil (fun g => rfl) (fun g => rfl) ?_
   conv => whnf
   refine k4 _ _ ?_
   refine .ret ?_
   conv => whnf
   have e9 := sj h
   subst e9
   refine hQ _ _ _ (aG aJ (fun g => rfl) ?_)
   conv => whnf
  refine .skip ?_
  conv => whnf
  refine k2 _ _ ?_
  refine .q fun K5 k5 => ?_
  refine rg 1 ?_
  conv => whnf
  obtain ⟨x2, hx2, h⟩ := ob h
  refine aB (Oz _ _ _ _ _ hx2) agy (.cons (.same _) (.cons (.same _) (.cons (.same _) .nil))) (fun g => by simp) (fun g => by simp) ?_
  conv => whnf
  refine k5 _ _ ?_
  refine .q fun K6 k6 => ?_
  refine rg 1 ?_
  conv => whnf
  obtain ⟨x3, hx3, h⟩ := ob h
  refine aB (TG _ _ _ _ _ hx3) agA (.cons (.same _) (.cons (.same _) (.cons (.same _) .nil))) (fun g => by simp) (fun g => by simp) ?_
  conv => whnf
  refine k6 _ _ ?_
  refine .q fun K7 k7 => ?_
  refine .q fun K8 k8 => ?_
  obtain ⟨s2, hj2, h⟩ := ob h
  have hR2 : ∀ t9 h9, Le 0 t9 h9 (u2 (.unk :: (.ptr 0 0 :: (.ptr 1 0 :: (.ptr 2 0 :: (u32 (u8 (u2 (.unk :: (.bool s2 :: (u32 (u16 (u4 (u2 [])))))))))))))) [.box [.slice (List.map aj p0.env.carriers) .shared, .slice (List.map ak p0.env.names) .shared, .slice (List.map encI p0.sizes) .shared, .slice (List.map ah p0.values) .shared], .box [.int .i64 p1.kind, .int .i64 p1.n, .str p1.name, .slice (List.map ah p1.kids) .shared], .box [.str p2.carrier, .slice (List.map encI p2.perm) .shared]] → K8 t9 h9 := by
   intro t9 h9 hw
   refine k8 _ _ (AW.le hw ?_)
   clear hw
   refine .aK rfl h (fun hc2 h => ?_) (fun hc2 h => ?_)
   ·refine .q fun K9 k9 => ?_
    refine rg 0 ?_
    conv => whnf
    refine k9 _ _ ?_
    refine .ret ?_
    conv => whnf
    have e9 := sj h
    subst e9
    refine hQ _ _ _ (aG aJ (fun g => rfl) ?_)
    conv => whnf
   refine .skip ?_
   conv => whnf
   refine k7 _ _ ?_
   refine .q fun K10 k10 => ?_
   refine .q fun K11 k11 => ?_
   refine rg 0 ?_
   conv => whnf
   refine k11 _ _ ?_
   refine .block ?_
   obtain ⟨o1, ho1, h⟩ := ob h
   have hR3 : ∀ s4 : Unit, o1 = .nx s4 → ∀ t9 h9, Le 0 t9 h9 (u4 (.ptr 0 0 :: (.ptr 1 0 :: (u64 (u32 (u2 [])))))) [.box [.int .i64 p1.kind, .int .i64 p1.n, .str p1.name, .slice (List.map ah p1.kids) .shared], .box [.str p2.carrier, .slice (List.map encI p2.perm) .shared]] → K10 t9 h9 := by
    intro s4 ho
    subst ho
    dsimp only [LR.el] at h
    intro t9 h9 hw
    refine k10 _ _ (AW.le hw ?_)
    refine .q fun K12 k12 => ?_
    obtain ⟨s5, hj3, h⟩ := ob h
    have hR4 : ∀ t9 h9, Le 0 t9 h9 (u4 (u2 (.bool s5 :: (u64 (u32 (.unk :: [])))))) [] → K12 t9 h9 := by
     intro t9 h9 hw
     refine k12 _ _ (AW.le hw ?_)
     clear hw
     refine .ret ?_
     conv => whnf
     have e9 := sj h
     subst e9
     refine hQ _ _ _ (aG aJ (fun g => rfl) ?_)
     conv => whnf
    refine rg 0 ?_
    conv => whnf
    obtain ⟨x4, hx4, hj3⟩ := ob hj3
    refine aB (Yg _ _ _ hx4) MQ (.cons (.same _) .nil) (fun g => by simp) (fun g => rfl) ?_
    conv => whnf
    refine aI hj3 (fun hc3 hj3 => ?_) (fun hc3 hj3 => ?_)
    ·conv => whnf
     obtain ⟨x5, hx5, hj3⟩ := ob hj3
     refine aB (jl _ _ hx5) uF .nil (fun g => rfl) (fun g => rfl) ?_
     conv => whnf
     refine ⟨by kernel_rfl, ?_⟩
     conv => whnf
     cases hj3
     exact hR4 _ _ (wk [] (.u4 (.u2 (.c rfl (.u64 (.u32 (.u .nil)))))) .nil rfl)
    conv => whnf
    obtain ⟨x6, hx6, hj3⟩ := ob hj3
    refine aB (A9 _ _ _ _ _ hx6) ND (.cons (.same _) (.cons (.same _) (.cons (.same _) .nil))) (fun g => by simp) (fun g => by simp) ?_
    conv => whnf
    obtain ⟨x7, hx7, hj3⟩ := ob hj3
    refine aB (Fw _ _ _ _ _ hx7) NH (.cons (.same _) (.cons (.same _) (.cons (.same _) .nil))) (fun g => by simp) (fun g => by simp) ?_
    conv => whnf
    obtain ⟨x8, hx8, hj3⟩ := ob hj3
    refine aB (kK _ _ _ _ hx8) zI (.cons (.same _) (.cons (.same _) .nil)) (fun g => by simp) (fun g => rfl) ?_
    conv => whnf
    refine aI hj3 (fun hc4 hj3 => ?_) (fun hc4 hj3 => ?_)
    ·conv => whnf
     obtain ⟨x9, hx9, hj3⟩ := ob hj3
     refine aB (jl _ _ hx9) uF .nil (fun g => rfl) (fun g => rfl) ?_
     conv => whnf
     refine ⟨by kernel_rfl, ?_⟩
     conv => whnf
     cases hj3
     exact hR4 _ _ (wk [] (.u4 (.u2 (.c rfl (.u64 (.u32 (.u .nil)))))) .nil rfl)
    conv => whnf
    refine ⟨by kernel_rfl, ?_⟩
    conv => whnf
    cases hj3
    exact hR4 _ _ (wk [] (.u4 (.u2 (.c rfl (.u64 (.u32 (.u .nil)))))) .nil rfl)
   refine .loopS (gK n p0 p2) (fun (s3 : Int) => (u2 (.unk :: (.ptr 0 0 :: (.ptr 1 0 :: (.ptr 2 0 :: (u4 (.unk :: (.int .i64 s3 :: (u64 (u16 (u8 (u4 []))))))))))))) (fun (s3 : Int) => [.box [.slice (List.map aj p0.env.carriers) .shared, .slice (List.map ak p0.env.names) .shared, .slice (List.map encI p0.sizes) .shared, .slice (List.map ah p0.values) .shared], .box [.int .i64 p1.kind, .int .i64 p1.n, .str p1.name, .slice (List.map ah p1.kids) .shared], .box [.str p2.carrier, .slice (List.map encI p2.perm) .shared]]) ho1 (fun _ => rfl) (li (.u2 (.u (.s (.s (.s (.u4 (.u (.s (.u16 (.u16 (.u16 (.u16 (.u16 (.u8 (.u4 .n)))))))))))))))) ?_
   intro n1 s3 hs1 KL1 hKL1
   unfold gK at hs1
   refine .q fun K13 k13 => ?_
   refine .q fun K14 k14 => ?_
   obtain ⟨s6, hj4, hs1⟩ := ob hs1
   have hR5 : ∀ t9 h9, Le 0 t9 h9 (u2 (.unk :: (.ptr 0 0 :: (.ptr 1 0 :: (.ptr 2 0 :: (u4 (.unk :: (.int .i64 s3 :: (u32 (u8 (u4 (u2 (.bool s6 :: (u32 (u8 (u4 (.unk :: []))))))))))))))))) [.box [.slice (List.map aj p0.env.carriers) .shared, .slice (List.map ak p0.env.names) .shared, .slice (List.map encI p0.sizes) .shared, .slice (List.map ah p0.values) .shared], .box [.int .i64 p1.kind, .int .i64 p1.n, .str p1.name, .slice (List.map ah p1.kids) .shared], .box [.str p2.carrier, .slice (List.map encI p2.perm) .shared]] → K14 t9 h9 := by
    intro t9 h9 hw
    refine k14 _ _ (AW.le hw ?_)
    clear hw
    refine .aK rfl hs1 (fun hc5 hs1 => ?_) (fun hc5 hs1 => ?_)
    ·refine .skip ?_
     conv => whnf
     refine k13 _ _ ?_
     refine .q fun K15 k15 => ?_
     refine .block ?_
     refine .q fun K16 k16 => ?_
     refine rg 0 ?_
     conv => whnf
     obtain ⟨x10, hx10, hs1⟩ := ob hs1
     refine aU (l := p0.values) (f := ah) (cs := [.int .i64 ((x10).kind), .int .i64 ((x10).n), .str ((x10).name), .slice (List.map ah ((x10).kids)) .shared]) hx10 (aX x10) rfl ?_
     conv => whnf
     obtain ⟨x11, hx11, hs1⟩ := ob hs1
     refine aB (A9 _ _ _ _ _ hx11) ND (.cons (.same _) (.cons (.same _) (.cons (.same _) .nil))) (fun g => by simp) (fun g => by simp) ?_
     conv => whnf
     obtain ⟨x12, hx12, hs1⟩ := ob hs1
     refine aU (l := p0.values) (f := ah) (cs := [.int .i64 ((x12).kind), .int .i64 ((x12).n), .str ((x12).name), .slice (List.map ah ((x12).kids)) .shared]) hx12 (aX x12) rfl ?_
     conv => whnf
     obtain ⟨x13, hx13, hs1⟩ := ob hs1
     refine aB (Fw _ _ _ _ _ hx13) NH (.cons (.same _) (.cons (.same _) (.cons (.same _) .nil))) (fun g => by simp) (fun g => by simp) ?_
     conv => whnf
     obtain ⟨x14, hx14, hs1⟩ := ob hs1
     refine aB (kK _ _ _ _ hx14) zI (.cons (.same _) (.cons (.same _) .nil)) (fun g => by simp) (fun g => rfl) ?_
     conv => whnf
     refine ⟨by kernel_rfl, ?_⟩
     conv => whnf
     refine k16 _ _ ?_
     refine .aK rfl hs1 (fun hc6 hs1 => ?_) (fun hc6 hs1 => ?_)
     ·refine .q fun K17 k17 => ?_
      refine rg 0 ?_
      conv => whnf
      refine k17 _ _ ?_
      refine .ret ?_
      conv => whnf
      have e9 := sj hs1
      subst e9
      dsimp only [LR.el] at h
      have e9 := sj h
      subst e9
      refine hQ _ _ _ (aG aJ (fun g => rfl) ?_)
      conv => whnf
     refine .skip ?_
     conv => whnf
     refine k15 _ _ ?_
     refine rg 0 ?_
     conv => whnf
     refine ⟨(IntKind.wrap .i64 (s3 + 1)), rfl, ?_⟩
     conv => whnf
     exact hKL1 _ _ _ hs1 (li (.u2 (.u (.s (.s (.s (.u4 (.u (.s (.u16 (.u16 (.u16 (.u16 (.u16 (.u8 (.u4 .n))))))))))))))))
    refine .exit ?_
    conv => whnf
    exact hR3 _ (sj hs1).symm _ _ (wk [some 1, some 2] (.u4 (.c rfl (.c rfl (.u64 (.u32 (.u2 .nil)))))) (.b rfl (.c rfl (.c rfl (.c rfl (.e aD .nil)))) (.b rfl (.c rfl (.e aR .nil)) .nil)) rfl)
   refine rg 0 ?_
   conv => whnf
   refine aQ (l := p0.values) (f := ah) ?_
   conv => whnf
   refine aI hj4 (fun hc7 hj4 => ?_) (fun hc7 hj4 => ?_)
   ·conv => whnf
    obtain ⟨x15, hx15, hj4⟩ := ob hj4
    refine aB (ou _ _ _ hx15) Ho (.cons (.same _) .nil) (fun g => by simp) (fun g => rfl) ?_
    conv => whnf
    cases hj4
    exact hR5 _ _ (li (.u2 (.u (.s (.s (.s (.u4 (.u (.s (.u16 (.u16 (.u8 (.u4 (.u2 (.s (.u16 (.u16 (.u8 (.u4 (.u .n))))))))))))))))))))
   conv => whnf
   cases hj4
   exact hR5 _ _ (li (.u2 (.u (.s (.s (.s (.u4 (.u (.s (.u16 (.u16 (.u8 (.u4 (.u2 (.s (.u16 (.u16 (.u8 (.u4 (.u .n))))))))))))))))))))
  refine rg 0 ?_
  conv => whnf
  refine aI hj2 (fun hc8 hj2 => ?_) (fun hc8 hj2 => ?_)
  ·conv => whnf
   cases hj2
   exact m3x0 (hR2 _ _)
  conv => whnf
  obtain ⟨x16, hx16, hj2⟩ := ob hj2
  refine aB (xE _ _ _ _ hx16) Vh (.cons (.same _) (.cons (.same _) .nil)) (fun g => by simp) (fun g => rfl) ?_
  conv => whnf
  cases hj2
  exact m3x0 (hR2 _ _)
 refine rg 0 ?_
 conv => whnf
 obtain ⟨x17, hx17, hj1⟩ := ob hj1
 refine aB (Dp _ _ _ hx17) aaR (.cons (.same _) .nil) (fun g => by simp) (fun g => rfl) ?_
 conv => whnf
 refine aI hj1 (fun hc9 hj1 => ?_) (fun hc9 hj1 => ?_)
 ·conv => whnf
  cases hj1
  exact hR1 _ _ (li (.u2 (.u (.s (.s (.s (.u8 (.u4 (.u2 (.u (.s (.u16 (.u16 (.u16 (.u16 (.u16 (.u2 .n)))))))))))))))))
 conv => whnf
 refine aQ (l := p2.perm) (f := encI) ?_
 conv => whnf
 cases hj1
 exact hR1 _ _ (li (.u2 (.u (.s (.s (.s (.u8 (.u4 (.u2 (.u (.s (.u16 (.u16 (.u16 (.u16 (.u16 (.u2 .n)))))))))))))))))
end Abs
end Go.Proofs.YtkopaeklihhdlaaGreat
