/-
  Contracts of Go functions (printed). Conditions: none.
-/
import Derived.KernelRfl
import Derived.Test.YtkopaeklihhdlaaGreatCE10ox987f7b
set_option linter.unusedSimpArgs false
set_option linter.unusedVariables false
namespace Go.Proofs.YtkopaeklihhdlaaGreat
namespace Abs
open Go Go.Proofs
set_option maxRecDepth 100000
set_option maxHeartbeats 40000000
theorem AA (n : Nat) (p0 : Env) (p1 : List Int) (r : Bool) (h : uE n p0 p1 = some r) : aj Tryz.prog 49 [.agg [.slice (List.map ah p0.carriers) .shared, .slice (List.map aA p0.names) .shared], .slice (List.map encI p1) .shared] [] (.bool r) [] := by
 unfold uE at h
 refine aB true Tryz.func49 rfl (by rw [Tryz.ntmps49]; exact Nat.le_of_ble_eq_true rfl) fun Q hQ t ht => ?_
 conv at ht => whnf
 subst ht
 refine .q fun K1 k1 => ?_
 refine rg 1 ?_
 conv => whnf
 refine k1 _ _ ?_
 refine .q fun K2 k2 => ?_
 refine .q fun K3 k3 => ?_
 refine rg 0 ?_
 conv => whnf
 refine aU (l := p1) (f := encI) ?_
 conv => whnf
 refine aU (l := p0.carriers) (f := ah) ?_
 conv => whnf
 refine k3 _ _ ?_
 refine .aM rfl h (fun hc1 h => ?_) (fun hc1 h => ?_)
 ·refine .q fun K4 k4 => ?_
  refine rg 0 ?_
  conv => whnf
  refine k4 _ _ ?_
  refine .ret ?_
  conv => whnf
  have e9 := sj h
  subst e9
  refine hQ _ _ _ (aH aI (fun g => rfl) ?_)
  conv => whnf
 refine .skip ?_
 conv => whnf
 refine k2 _ _ ?_
 refine .q fun K5 k5 => ?_
 refine .q fun K6 k6 => ?_
 refine rg 0 ?_
 conv => whnf
 refine k6 _ _ ?_
 refine .block ?_
 obtain ⟨o1, ho1, h⟩ := ob h
 have hR1 : ∀ s2 : Unit, o1 = .nx s2 → ∀ t9 h9, Le 0 t9 h9 (u32 (u16 (u2 []))) [] → K5 t9 h9 := by
  intro s2 ho
  subst ho
  dsimp only [LR.el] at h
  intro t9 h9 hw
  refine k5 _ _ (AW.le hw ?_)
  refine .q fun K7 k7 => ?_
  refine rg 0 ?_
  conv => whnf
  refine k7 _ _ ?_
  refine .ret ?_
  conv => whnf
  have e9 := sj h
  subst e9
  refine hQ _ _ _ (aH aI (fun g => rfl) ?_)
  conv => whnf
 refine .loopS (oG n p0 p1) (fun (s1 : Int) => (.unk :: (.slice (List.map encI p1) .shared :: (.ptr 0 0 :: (u2 (.int .i64 s1 :: (u32 (u8 (u4 []))))))))) (fun (s1 : Int) => [.box [.slice (List.map ah p0.carriers) .shared, .slice (List.map aA p0.names) .shared]]) ho1 (fun _ => rfl) (li (.u (.s (.s (.u2 (.s (.u16 (.u16 (.u8 (.u4 .n)))))))))) ?_
 intro n1 s1 hs1 KL1 hKL1
 unfold oG at hs1
 refine .q fun K8 k8 => ?_
 refine .q fun K9 k9 => ?_
 refine rg 0 ?_
 conv => whnf
 refine aU (l := p1) (f := encI) ?_
 conv => whnf
 refine k9 _ _ ?_
 refine .aM rfl hs1 (fun hc2 hs1 => ?_) (fun hc2 hs1 => ?_)
 ·refine .skip ?_
  conv => whnf
  refine k8 _ _ ?_
  refine .q fun K10 k10 => ?_
  refine .block ?_
  refine .q fun K11 k11 => ?_
  refine rg 0 ?_
  conv => whnf
  obtain ⟨x1, hx1, hs1⟩ := ob hs1
  refine bA (l := p0.carriers) (f := ah) (cs := [.str ((x1).name), .slice (List.map encS ((x1).elems)) .shared]) hx1 (rfl) rfl ?_
  conv => whnf
  refine aU (l := x1.elems) (f := encS) ?_
  conv => whnf
  refine k11 _ _ ?_
  refine .q fun K12 k12 => ?_
  obtain ⟨s3, hj1, hs1⟩ := ob hs1
  have hR2 : ∀ t9 h9, Le 0 t9 h9 (.unk :: (.slice (List.map encI p1) .shared :: (.ptr 0 0 :: (u2 (.int .i64 s1 :: (u32 (u8 (u2 (.unk :: (.bool s3 :: [])))))))))) [.box [.slice (List.map ah p0.carriers) .shared, .slice (List.map aA p0.names) .shared]] → K12 t9 h9 := by
   intro t9 h9 hw
   refine k12 _ _ (AW.le hw ?_)
   clear hw
   refine .aM rfl hs1 (fun hc3 hs1 => ?_) (fun hc3 hs1 => ?_)
   ·refine .q fun K13 k13 => ?_
    refine rg 0 ?_
    conv => whnf
    refine k13 _ _ ?_
    refine .ret ?_
    conv => whnf
    have e9 := sj hs1
    subst e9
    dsimp only [LR.el] at h
    have e9 := sj h
    subst e9
    refine hQ _ _ _ (aH aI (fun g => rfl) ?_)
    conv => whnf
   refine .skip ?_
   conv => whnf
   refine k10 _ _ ?_
   refine .know 5 0 fun hv1 => ?_
   refine .know 1 0 fun hv2 => ?_
   refine rg 0 ?_
   conv => whnf
   refine ⟨(s1 + 1), by have := fQ hv1; have := ko hv2; have h8 := of_decide_eq_true hc2; exact bT (by omega) (by omega), ?_⟩
   conv => whnf
   exact hKL1 _ _ _ hs1 (li (.u (.s (.s (.u2 (.s (.u16 (.u16 (.u8 (.u4 .n))))))))))
  refine rg 0 ?_
  conv => whnf
  obtain ⟨x2, hx2, hj1⟩ := ob hj1
  refine bA (l := p1) (f := encI) (cs := [.int .i64 (x2)]) hx2 (rfl) rfl ?_
  conv => whnf
  refine aD hj1 (fun hc4 hj1 => ?_) (fun hc4 hj1 => ?_)
  ·conv => whnf
   cases hj1
   exact hR2 _ _ (li (.u (.s (.s (.u2 (.s (.u16 (.u16 (.u8 (.u2 (.u (.s .n))))))))))))
  conv => whnf
  obtain ⟨x3, hx3, hj1⟩ := ob hj1
  refine bA (l := p1) (f := encI) (cs := [.int .i64 (x3)]) hx3 (rfl) rfl ?_
  conv => whnf
  refine aD hj1 (fun hc5 hj1 => ?_) (fun hc5 hj1 => ?_)
  ·conv => whnf
   cases hj1
   exact hR2 _ _ (li (.u (.s (.s (.u2 (.s (.u16 (.u16 (.u8 (.u2 (.u (.s .n))))))))))))
  conv => whnf
  refine aD hj1 (fun hc6 hj1 => ?_) (fun hc6 hj1 => ?_)
  ·conv => whnf
   obtain ⟨x4, hx4, hj1⟩ := ob hj1
   refine bA (l := p1) (f := encI) (cs := [.int .i64 (x4)]) hx4 (rfl) rfl ?_
   conv => whnf
   cases hj1
   exact hR2 _ _ (li (.u (.s (.s (.u2 (.s (.u16 (.u16 (.u8 (.u2 (.u (.s .n))))))))))))
  conv => whnf
  cases hj1
  exact hR2 _ _ (li (.u (.s (.s (.u2 (.s (.u16 (.u16 (.u8 (.u2 (.u (.s .n))))))))))))
 refine .exit ?_
 conv => whnf
 exact hR1 _ (sj hs1).symm _ _ (wk [] (.u32 (.u16 (.u2 .nil))) .nil rfl)
theorem AX (n : Nat) (p0 : Int) (p1 : Int) (r : Int) (h : rX n p0 p1 = some r) : aj Tryz.prog 66 [.int .i64 p0, .int .i64 p1] [] (.int .i64 r) [] := by
 unfold rX at h
 refine aB true Tryz.func66 rfl (by rw [Tryz.ntmps66]; exact Nat.le_of_ble_eq_true rfl) fun Q hQ t ht => ?_
 conv at ht => whnf
 subst ht
 refine .q fun K1 k1 => ?_
 refine rg 0 ?_
 conv => whnf
 refine k1 _ _ ?_
 refine .q fun K2 k2 => ?_
 refine .block ?_
 refine .q fun K3 k3 => ?_
 refine rg 0 ?_
 conv => whnf
 refine k3 _ _ ?_
 refine .aM rfl h (fun hc1 h => ?_) (fun hc1 h => ?_)
 ·refine .q fun K4 k4 => ?_
  refine rg 0 ?_
  conv => whnf
  refine k4 _ _ ?_
  refine .ret ?_
  conv => whnf
  have e9 := sj h
  subst e9
  refine hQ _ _ _ (aH aI (fun g => rfl) ?_)
  conv => whnf
 refine .q fun K5 k5 => ?_
 refine rg 0 ?_
 conv => whnf
 refine k5 _ _ ?_
 refine .aM rfl h (fun hc2 h => ?_) (fun hc2 h => ?_)
 ·refine .q fun K6 k6 => ?_
  refine rg 0 ?_
  conv => whnf
  refine k6 _ _ ?_
  refine .ret ?_
  conv => whnf
  have e9 := sj h
  subst e9
  refine hQ _ _ _ (aH aI (fun g => rfl) ?_)
  conv => whnf
 refine .skip ?_
 conv => whnf
 refine k2 _ _ ?_
 refine .q fun K7 k7 => ?_
 refine rg 0 ?_
 conv => whnf
 refine k7 _ _ ?_
 refine .ret ?_
 conv => whnf
 have e9 := sj h
 subst e9
 refine hQ _ _ _ (aH aI (fun g => rfl) ?_)
 conv => whnf
abbrev qa8 (qcu : Val → Val → Option Int) : Prop := ∀ (p0 : Val) (p1 : Val) (r : Int), qcu p0 p1 = some r → aj Tryz.prog 26 [.agg [.int .i64 p0.kind, .int .i64 p0.n, .str p0.name, .slice (List.map ak p0.kids) .shared], .agg [.int .i64 p1.kind, .int .i64 p1.n, .str p1.name, .slice (List.map ak p1.kids) .shared]] [] (.int .i64 r) []
theorem Dw (n : Nat) (qcu : Val → Val → Option Int) (qbg : qa8 qcu) (p0 : Val) (p1 : Val) (r : Int) (h : mP n qcu p0 p1 = some r) : aj Tryz.prog 26 [.agg [.int .i64 p0.kind, .int .i64 p0.n, .str p0.name, .slice (List.map ak p0.kids) .shared], .agg [.int .i64 p1.kind, .int .i64 p1.n, .str p1.name, .slice (List.map ak p1.kids) .shared]] [] (.int .i64 r) [] := by
 unfold mP at h
 refine aB true Tryz.func26 rfl (by rw [Tryz.ntmps26]; exact Nat.le_of_ble_eq_true rfl) fun Q hQ t ht => ?_
 conv at ht => whnf
 subst ht
 refine .q fun K1 k1 => ?_
 refine rg 2 ?_
 conv => whnf
 refine k1 _ _ ?_
 refine .q fun K2 k2 => ?_
 refine .q fun K3 k3 => ?_
 refine rg 0 ?_
 conv => whnf
 refine k3 _ _ ?_
 refine .aM rfl h (fun hc1 h => ?_) (fun hc1 h => ?_)
 ·refine .q fun K4 k4 => ?_
  refine rg 0 ?_
  conv => whnf
  obtain ⟨x1, hx1, h⟩ := ob h
  refine aJ (AX _ _ _ _ hx1) MO (.cons (.same _) (.cons (.same _) .nil)) (fun g => rfl) (fun g => rfl) ?_
  conv => whnf
  refine k4 _ _ ?_
  refine .ret ?_
  conv => whnf
  have e9 := sj h
  subst e9
  refine hQ _ _ _ (aH aI (fun g => rfl) ?_)
  conv => whnf
 refine .skip ?_
 conv => whnf
 refine k2 _ _ ?_
 refine .q fun K5 k5 => ?_
 refine .q fun K6 k6 => ?_
 refine rg 0 ?_
 conv => whnf
 refine k6 _ _ ?_
 refine .aM rfl h (fun hc2 h => ?_) (fun hc2 h => ?_)
 ·refine .q fun K7 k7 => ?_
  refine rg 0 ?_
  conv => whnf
  obtain ⟨x2, hx2, h⟩ := ob h
  refine aJ (AX _ _ _ _ hx2) MO (.cons (.same _) (.cons (.same _) .nil)) (fun g => rfl) (fun g => rfl) ?_
  conv => whnf
  refine k7 _ _ ?_
  refine .ret ?_
  conv => whnf
  have e9 := sj h
  subst e9
  refine hQ _ _ _ (aH aI (fun g => rfl) ?_)
  conv => whnf
 refine .skip ?_
 conv => whnf
 refine k5 _ _ ?_
 refine .q fun K8 k8 => ?_
 refine .q fun K9 k9 => ?_
 refine rg 0 ?_
 conv => whnf
 refine k9 _ _ ?_
 refine .aM rfl h (fun hc3 h => ?_) (fun hc3 h => ?_)
 ·refine .q fun K10 k10 => ?_
  refine rg 0 ?_
  conv => whnf
  refine k10 _ _ ?_
  refine .ret ?_
  conv => whnf
  have e9 := sj h
  subst e9
  refine hQ _ _ _ (aH aI (fun g => rfl) ?_)
  conv => whnf
 refine .skip ?_
 conv => whnf
 refine k8 _ _ ?_
 refine .q fun K11 k11 => ?_
 refine .q fun K12 k12 => ?_
 refine rg 0 ?_
 conv => whnf
 refine k12 _ _ ?_
 refine .aM rfl h (fun hc4 h => ?_) (fun hc4 h => ?_)
 ·refine .q fun K13 k13 => ?_
  refine rg 0 ?_
  conv => whnf
  refine k13 _ _ ?_
  refine .ret ?_
  conv => whnf
  have e9 := sj h
  subst e9
  refine hQ _ _ _ (aH aI (fun g => rfl) ?_)
  conv => whnf
 refine .skip ?_
 conv => whnf
 refine k11 _ _ ?_
 refine .q fun K14 k14 => ?_
 refine .q fun K15 k15 => ?_
 refine rg 0 ?_
 conv => whnf
 refine k15 _ _ ?_
 refine .block ?_
 obtain ⟨o1, ho1, h⟩ := ob h
 have hR1 : ∀ s2 : Unit, o1 = .nx s2 → ∀ t9 h9, Le 0 t9 h9 (u2 (.ptr 0 0 :: (.ptr 1 0 :: (u64 (u4 []))))) [.box [.int .i64 p0.kind, .int .i64 p0.n, .str p0.name, .slice (List.map ak p0.kids) .shared], .box [.int .i64 p1.kind, .int .i64 p1.n, .str p1.name, .slice (List.map ak p1.kids) .shared]] → K14 t9 h9 := by
  intro s2 ho
  subst ho
  dsimp only [LR.el] at h
  intro t9 h9 hw
  refine k14 _ _ (AW.le hw ?_)
  refine .q fun K16 k16 => ?_
  refine rg 0 ?_
  conv => whnf
  refine aU (l := p0.kids) (f := ak) ?_
  conv => whnf
  refine aU (l := p1.kids) (f := ak) ?_
  conv => whnf
  obtain ⟨x3, hx3, h⟩ := ob h
  refine aJ (AX _ _ _ _ hx3) MO (.cons (.same _) (.cons (.same _) .nil)) (fun g => rfl) (fun g => rfl) ?_
  conv => whnf
  refine k16 _ _ ?_
  refine .ret ?_
  conv => whnf
  have e9 := sj h
  subst e9
  refine hQ _ _ _ (aH aI (fun g => rfl) ?_)
  conv => whnf
 refine .loopS (jO n qcu p0 p1) (fun (s1 : Int) => (u2 (.ptr 0 0 :: (.ptr 1 0 :: (.unk :: (.int .i64 s1 :: (u64 (u2 [])))))))) (fun (s1 : Int) => [.box [.int .i64 p0.kind, .int .i64 p0.n, .str p0.name, .slice (List.map ak p0.kids) .shared], .box [.int .i64 p1.kind, .int .i64 p1.n, .str p1.name, .slice (List.map ak p1.kids) .shared]]) ho1 (fun _ => rfl) (li (.u2 (.s (.s (.u (.s (.u16 (.u16 (.u16 (.u16 (.u2 .n))))))))))) ?_
 intro n1 s1 hs1 KL1 hKL1
 unfold jO at hs1
 refine .q fun K17 k17 => ?_
 refine .q fun K18 k18 => ?_
 obtain ⟨s3, hj1, hs1⟩ := ob hs1
 have hR2 : ∀ t9 h9, Le 0 t9 h9 (u2 (.ptr 0 0 :: (.ptr 1 0 :: (.unk :: (.int .i64 s1 :: (u32 (u8 (u2 (.bool s3 :: (u16 (u4 (u2 (.unk :: []))))))))))))) [.box [.int .i64 p0.kind, .int .i64 p0.n, .str p0.name, .slice (List.map ak p0.kids) .shared], .box [.int .i64 p1.kind, .int .i64 p1.n, .str p1.name, .slice (List.map ak p1.kids) .shared]] → K18 t9 h9 := by
  intro t9 h9 hw
  refine k18 _ _ (AW.le hw ?_)
  clear hw
  refine .aM rfl hs1 (fun hc5 hs1 => ?_) (fun hc5 hs1 => ?_)
  ·refine .skip ?_
   conv => whnf
   refine k17 _ _ ?_
   refine .q fun K19 k19 => ?_
   refine .block ?_
   refine .q fun K20 k20 => ?_
   refine rg 0 ?_
   conv => whnf
   obtain ⟨x4, hx4, hs1⟩ := ob hs1
   refine bA (l := p0.kids) (f := ak) (cs := [.int .i64 ((x4).kind), .int .i64 ((x4).n), .str ((x4).name), .slice (List.map ak ((x4).kids)) .shared]) hx4 (dB x4) rfl ?_
   conv => whnf
   obtain ⟨x5, hx5, hs1⟩ := ob hs1
   refine bA (l := p1.kids) (f := ak) (cs := [.int .i64 ((x5).kind), .int .i64 ((x5).n), .str ((x5).name), .slice (List.map ak ((x5).kids)) .shared]) hx5 (dB x5) rfl ?_
   conv => whnf
   obtain ⟨x6, hx6, hs1⟩ := ob hs1
   refine aJ (qbg _ _ _ hx6) UF (.cons (.same _) (.cons (.same _) .nil)) (fun g => by simp) (fun g => rfl) ?_
   conv => whnf
   refine ⟨by kernel_rfl, ?_⟩
   conv => whnf
   refine k20 _ _ ?_
   refine .q fun K21 k21 => ?_
   refine rg 0 ?_
   conv => whnf
   refine k21 _ _ ?_
   refine .aM rfl hs1 (fun hc6 hs1 => ?_) (fun hc6 hs1 => ?_)
   ·refine .q fun K22 k22 => ?_
    refine rg 0 ?_
    conv => whnf
    refine k22 _ _ ?_
    refine .ret ?_
    conv => whnf
    have e9 := sj hs1
    subst e9
    dsimp only [LR.el] at h
    have e9 := sj h
    subst e9
    refine hQ _ _ _ (aH aI (fun g => rfl) ?_)
    conv => whnf
   refine .skip ?_
   conv => whnf
   refine k19 _ _ ?_
   refine rg 0 ?_
   conv => whnf
   refine ⟨(IntKind.wrap .i64 (s1 + 1)), rfl, ?_⟩
   conv => whnf
   exact hKL1 _ _ _ hs1 (li (.u2 (.s (.s (.u (.s (.u16 (.u16 (.u16 (.u16 (.u2 .n)))))))))))
  refine .exit ?_
  conv => whnf
  exact hR1 _ (sj hs1).symm _ _ (li (.u2 (.s (.s (.u16 (.u16 (.u16 (.u16 (.u4 .n)))))))))
 refine rg 0 ?_
 conv => whnf
 refine aU (l := p0.kids) (f := ak) ?_
 conv => whnf
 refine aD hj1 (fun hc7 hj1 => ?_) (fun hc7 hj1 => ?_)
 ·conv => whnf
  refine aU (l := p1.kids) (f := ak) ?_
  conv => whnf
  cases hj1
  exact hR2 _ _ (li (.u2 (.s (.s (.u (.s (.u16 (.u16 (.u8 (.u2 (.s (.u16 (.u4 (.u2 (.u .n)))))))))))))))
 conv => whnf
 cases hj1
 exact hR2 _ _ (li (.u2 (.s (.s (.u (.s (.u16 (.u16 (.u8 (.u2 (.s (.u16 (.u4 (.u2 (.u .n)))))))))))))))
theorem I4 (n : Nat) : qa8 (jF n) := by
 induction n with
 | zero => exact (fun p0 p1 r h => by unfold jF at h; cases h)
 | succ n ih =>
  exact (fun p0 p1 r h => Dw n _ ih p0 p1 r (by unfold jF at h; exact h))
theorem KV (n : Nat) : qa8 (jF n) := (I4 n)
theorem e13x0 {p q : Prop} (f : p → q) (h : p := by exact wk [] (.u8 (.c rfl (.u64 (.u64 (.u64 (.u2 (.u .nil))))))) .nil rfl) : q := f h
theorem e13x1 {p q : Prop} (f : p → q) (h : p := by exact li (.u (.s (.u2 (.s (.u (.s (.s (.u16 (.u16 (.u16 (.u16 (.u16 (.u16 (.u16 (.u16 (.u16 (.u8 (.u4 (.s (.u16 (.u16 (.u4 (.u2 (.u .n))))))))))))))))))))))))) : q := f h
theorem e13x2 {p q : Prop} (f : p → q) (h : p := by exact li (.u (.s (.u2 (.s (.u (.s (.s (.u (.s (.u16 (.u16 (.u16 (.u16 (.u16 (.u16 (.u16 (.u16 (.u16 (.u16 (.u16 (.u16 (.u (.s .n)))))))))))))))))))))))) : q := f h
abbrev qa9 (qcv : Env → (List Int) → Val → Ty → Option Bool) : Prop := ∀ (p0 : Env) (p1 : List Int) (p2 : Val) (p3 : Ty) (r : Bool), qcv p0 p1 p2 p3 = some r → aj Tryz.prog 50 [.agg [.slice (List.map ah p0.carriers) .shared, .slice (List.map aA p0.names) .shared], .slice (List.map encI p1) .shared, .agg [.int .i64 p2.kind, .int .i64 p2.n, .str p2.name, .slice (List.map ak p2.kids) .shared], .agg [.int .i64 p3.kind, .str p3.name, .slice (List.map aC p3.kids) .shared]] [] (.bool r) []
theorem IZ (n : Nat) (qcv : Env → (List Int) → Val → Ty → Option Bool) (qbh : qa9 qcv) (p0 : Env) (p1 : List Int) (p2 : Val) (p3 : Ty) (r : Bool) (h : fV n qcv p0 p1 p2 p3 = some r) : aj Tryz.prog 50 [.agg [.slice (List.map ah p0.carriers) .shared, .slice (List.map aA p0.names) .shared], .slice (List.map encI p1) .shared, .agg [.int .i64 p2.kind, .int .i64 p2.n, .str p2.name, .slice (List.map ak p2.kids) .shared], .agg [.int .i64 p3.kind, .str p3.name, .slice (List.map aC p3.kids) .shared]] [] (.bool r) [] := by
 unfold fV at h
 refine aB true Tryz.func50 rfl (by rw [Tryz.ntmps50]; exact Nat.le_of_ble_eq_true rfl) fun Q hQ t ht => ?_
 conv at ht => whnf
 subst ht
 refine .q fun K1 k1 => ?_
 refine rg 3 ?_
 conv => whnf
 refine k1 _ _ ?_
 refine .q fun K2 k2 => ?_
 refine .q fun K3 k3 => ?_
 refine rg 0 ?_
 conv => whnf
 refine k3 _ _ ?_
 refine .block ?_
 refine .q fun K4 k4 => ?_
 refine rg 0 ?_
 conv => whnf
 refine k4 _ _ ?_
 refine .aM rfl h (fun hc1 h => ?_) (fun hc1 h => ?_)
 ·refine .q fun K5 k5 => ?_
  obtain ⟨s1, hj1, h⟩ := ob h
  have hR1 : ∀ t9 h9, Le 0 t9 h9 (u8 (.bool s1 :: (u64 (u64 (u64 (u2 (.unk :: []))))))) [] → K5 t9 h9 := by
   intro t9 h9 hw
   refine k5 _ _ (AW.le hw ?_)
   clear hw
   refine .ret ?_
   conv => whnf
   have e9 := sj h
   subst e9
   refine hQ _ _ _ (aH aI (fun g => rfl) ?_)
   conv => whnf
  refine rg 0 ?_
  conv => whnf
  refine aD hj1 (fun hc2 hj1 => ?_) (fun hc2 hj1 => ?_)
  ·conv => whnf
   refine aD hj1 (fun hc3 hj1 => ?_) (fun hc3 hj1 => ?_)
   ·conv => whnf
    refine aU (l := p2.kids) (f := ak) ?_
    conv => whnf
    refine aD hj1 (fun hc4 hj1 => ?_) (fun hc4 hj1 => ?_)
    ·conv => whnf
     refine aD hj1 (fun hc5 hj1 => ?_) (fun hc5 hj1 => ?_)
     ·conv => whnf
      cases hj1
      exact e13x0 (hR1 _ _)
     conv => whnf
     cases hj1
     exact e13x0 (hR1 _ _)
    conv => whnf
    cases hj1
    exact e13x0 (hR1 _ _)
   conv => whnf
   cases hj1
   exact e13x0 (hR1 _ _)
  conv => whnf
  cases hj1
  exact e13x0 (hR1 _ _)
 refine .q fun K6 k6 => ?_
 refine rg 0 ?_
 conv => whnf
 refine k6 _ _ ?_
 refine .aM rfl h (fun hc6 h => ?_) (fun hc6 h => ?_)
 ·refine .q fun K7 k7 => ?_
  obtain ⟨s2, hj2, h⟩ := ob h
  have hR2 : ∀ t9 h9, Le 0 t9 h9 (u8 (.bool s2 :: (u64 (u64 (u64 (u2 (.unk :: []))))))) [] → K7 t9 h9 := by
   intro t9 h9 hw
   refine k7 _ _ (AW.le hw ?_)
   clear hw
   refine .ret ?_
   conv => whnf
   have e9 := sj h
   subst e9
   refine hQ _ _ _ (aH aI (fun g => rfl) ?_)
   conv => whnf
  refine rg 0 ?_
  conv => whnf
  refine aD hj2 (fun hc7 hj2 => ?_) (fun hc7 hj2 => ?_)
  ·conv => whnf
   refine aD hj2 (fun hc8 hj2 => ?_) (fun hc8 hj2 => ?_)
   ·conv => whnf
    refine aU (l := p2.kids) (f := ak) ?_
    conv => whnf
    refine aD hj2 (fun hc9 hj2 => ?_) (fun hc9 hj2 => ?_)
    ·conv => whnf
     refine aD hj2 (fun hc10 hj2 => ?_) (fun hc10 hj2 => ?_)
     ·conv => whnf
      cases hj2
      exact e13x0 (hR2 _ _)
     conv => whnf
     cases hj2
     exact e13x0 (hR2 _ _)
    conv => whnf
    cases hj2
    exact e13x0 (hR2 _ _)
   conv => whnf
   cases hj2
   exact e13x0 (hR2 _ _)
  conv => whnf
  cases hj2
  exact e13x0 (hR2 _ _)
 refine .q fun K8 k8 => ?_
 refine rg 0 ?_
 conv => whnf
 refine k8 _ _ ?_
 refine .aM rfl h (fun hc11 h => ?_) (fun hc11 h => ?_)
 ·refine .q fun K9 k9 => ?_
  obtain ⟨s3, hj3, h⟩ := ob h
  have hR3 : ∀ t9 h9, Le 0 t9 h9 (u8 (.bool s3 :: (u64 (u64 (u64 (u2 (.unk :: []))))))) [] → K9 t9 h9 := by
   intro t9 h9 hw
   refine k9 _ _ (AW.le hw ?_)
   clear hw
   refine .ret ?_
   conv => whnf
   have e9 := sj h
   subst e9
   refine hQ _ _ _ (aH aI (fun g => rfl) ?_)
   conv => whnf
  refine rg 0 ?_
  conv => whnf
  refine aD hj3 (fun hc12 hj3 => ?_) (fun hc12 hj3 => ?_)
  ·conv => whnf
   refine aD hj3 (fun hc13 hj3 => ?_) (fun hc13 hj3 => ?_)
   ·conv => whnf
    refine aU (l := p2.kids) (f := ak) ?_
    conv => whnf
    refine aD hj3 (fun hc14 hj3 => ?_) (fun hc14 hj3 => ?_)
    ·conv => whnf
     refine aD hj3 (fun hc15 hj3 => ?_) (fun hc15 hj3 => ?_)
     ·conv => whnf
      obtain ⟨x1, hx1, hj3⟩ := ob hj3
      refine aJ (vQ _ _ _ _ hx1) TN (.cons (.same _) (.cons (.same _) .nil)) (fun g => by simp) (fun g => rfl) ?_
      conv => whnf
      obtain ⟨x2, hx2, hj3⟩ := ob hj3
      refine bA (l := p1) (f := encI) (cs := [.int .i64 (x2)]) hx2 (rfl) rfl ?_
      conv => whnf
      refine ⟨by kernel_rfl, ?_⟩
      conv => whnf
      cases hj3
      exact e13x0 (hR3 _ _)
     conv => whnf
     refine ⟨by kernel_rfl, ?_⟩
     conv => whnf
     cases hj3
     exact e13x0 (hR3 _ _)
    conv => whnf
    refine ⟨by kernel_rfl, ?_⟩
    conv => whnf
    cases hj3
    exact e13x0 (hR3 _ _)
   conv => whnf
   refine ⟨by kernel_rfl, ?_⟩
   conv => whnf
   cases hj3
   exact e13x0 (hR3 _ _)
  conv => whnf
  refine ⟨by kernel_rfl, ?_⟩
  conv => whnf
  cases hj3
  exact e13x0 (hR3 _ _)
 refine .q fun K10 k10 => ?_
 refine rg 0 ?_
 conv => whnf
 refine k10 _ _ ?_
 refine .aM rfl h (fun hc16 h => ?_) (fun hc16 h => ?_)
 ·refine .q fun K11 k11 => ?_
  obtain ⟨s4, hj4, h⟩ := ob h
  have hR4 : ∀ t9 h9, Le 0 t9 h9 (u8 (.bool s4 :: (u64 (u64 (u64 (u2 (.unk :: []))))))) [] → K11 t9 h9 := by
   intro t9 h9 hw
   refine k11 _ _ (AW.le hw ?_)
   clear hw
   refine .ret ?_
   conv => whnf
   have e9 := sj h
   subst e9
   refine hQ _ _ _ (aH aI (fun g => rfl) ?_)
   conv => whnf
  refine rg 0 ?_
  conv => whnf
  refine aD hj4 (fun hc17 hj4 => ?_) (fun hc17 hj4 => ?_)
  ·conv => whnf
   refine aD hj4 (fun hc18 hj4 => ?_) (fun hc18 hj4 => ?_)
   ·conv => whnf
    refine aD hj4 (fun hc19 hj4 => ?_) (fun hc19 hj4 => ?_)
    ·conv => whnf
     refine aU (l := p2.kids) (f := ak) ?_
     conv => whnf
     refine aD hj4 (fun hc20 hj4 => ?_) (fun hc20 hj4 => ?_)
     ·conv => whnf
      obtain ⟨x3, hx3, hj4⟩ := ob hj4
      refine bA (l := p2.kids) (f := ak) (cs := [.int .i64 ((x3).kind), .int .i64 ((x3).n), .str ((x3).name), .slice (List.map ak ((x3).kids)) .shared]) hx3 (dB x3) rfl ?_
      conv => whnf
      obtain ⟨x4, hx4, hj4⟩ := ob hj4
      refine bA (l := p3.kids) (f := aC) (cs := [.int .i64 ((x4).kind), .str ((x4).name), .slice (List.map aC ((x4).kids)) .shared]) hx4 (gX x4) rfl ?_
      conv => whnf
      obtain ⟨x5, hx5, hj4⟩ := ob hj4
      refine aJ (qbh _ _ _ _ _ hx5) DZ (.cons (.same _) (.cons (.same _) (.cons (.same _) (.cons (.same _) .nil)))) (fun g => by simp) (fun g => rfl) ?_
      conv => whnf
      refine aD hj4 (fun hc21 hj4 => ?_) (fun hc21 hj4 => ?_)
      ·conv => whnf
       obtain ⟨x6, hx6, hj4⟩ := ob hj4
       refine bA (l := p2.kids) (f := ak) (cs := [.int .i64 ((x6).kind), .int .i64 ((x6).n), .str ((x6).name), .slice (List.map ak ((x6).kids)) .shared]) hx6 (dB x6) rfl ?_
       conv => whnf
       obtain ⟨x7, hx7, hj4⟩ := ob hj4
       refine bA (l := p3.kids) (f := aC) (cs := [.int .i64 ((x7).kind), .str ((x7).name), .slice (List.map aC ((x7).kids)) .shared]) hx7 (gX x7) rfl ?_
       conv => whnf
       obtain ⟨x8, hx8, hj4⟩ := ob hj4
       refine aJ (qbh _ _ _ _ _ hx8) DZ (.cons (.same _) (.cons (.same _) (.cons (.same _) (.cons (.same _) .nil)))) (fun g => by simp) (fun g => rfl) ?_
       conv => whnf
       refine ⟨by kernel_rfl, ?_⟩
       conv => whnf
       cases hj4
       exact e13x0 (hR4 _ _)
      conv => whnf
      refine ⟨by kernel_rfl, ?_⟩
      conv => whnf
      cases hj4
      exact e13x0 (hR4 _ _)
     conv => whnf
     refine ⟨by kernel_rfl, ?_⟩
     conv => whnf
     cases hj4
     exact e13x0 (hR4 _ _)
    conv => whnf
    refine ⟨by kernel_rfl, ?_⟩
    conv => whnf
    cases hj4
    exact e13x0 (hR4 _ _)
   conv => whnf
   refine ⟨by kernel_rfl, ?_⟩
   conv => whnf
   cases hj4
   exact e13x0 (hR4 _ _)
  conv => whnf
  refine ⟨by kernel_rfl, ?_⟩
  conv => whnf
  cases hj4
  exact e13x0 (hR4 _ _)
 refine .skip ?_
 conv => whnf
 refine k2 _ _ ?_
 refine .q fun K12 k12 => ?_
 refine .q fun K13 k13 => ?_
 obtain ⟨s5, hj5, h⟩ := ob h
 have hR5 : ∀ t9 h9, Le 0 t9 h9 (.unk :: (.slice (List.map encI p1) .shared :: (u2 (.ptr 0 0 :: (.unk :: (.ptr 1 0 :: (.ptr 2 0 :: (u64 (u64 (u16 (u8 (u4 (.bool s5 :: (u32 (u4 (u2 (.unk :: []))))))))))))))))) [.box [.slice (List.map ah p0.carriers) .shared, .slice (List.map aA p0.names) .shared], .box [.int .i64 p2.kind, .int .i64 p2.n, .str p2.name, .slice (List.map ak p2.kids) .shared], .box [.int .i64 p3.kind, .str p3.name, .slice (List.map aC p3.kids) .shared]] → K13 t9 h9 := by
  intro t9 h9 hw
  refine k13 _ _ (AW.le hw ?_)
  clear hw
  refine .aM rfl h (fun hc22 h => ?_) (fun hc22 h => ?_)
  ·refine .q fun K14 k14 => ?_
   refine rg 0 ?_
   conv => whnf
   refine k14 _ _ ?_
   refine .ret ?_
   conv => whnf
   have e9 := sj h
   subst e9
   refine hQ _ _ _ (aH aI (fun g => rfl) ?_)
   conv => whnf
  refine .skip ?_
  conv => whnf
  refine k12 _ _ ?_
  refine .q fun K15 k15 => ?_
  refine .q fun K16 k16 => ?_
  refine rg 0 ?_
  conv => whnf
  refine k16 _ _ ?_
  refine .block ?_
  obtain ⟨o1, ho1, h⟩ := ob h
  have hR6 : ∀ s7 : Unit, o1 = .nx s7 → ∀ t9 h9, Le 0 t9 h9 (u64 (u64 (u64 (u8 (u4 []))))) [] → K15 t9 h9 := by
   intro s7 ho
   subst ho
   dsimp only [LR.el] at h
   intro t9 h9 hw
   refine k15 _ _ (AW.le hw ?_)
   refine .q fun K17 k17 => ?_
   refine rg 0 ?_
   conv => whnf
   refine k17 _ _ ?_
   refine .ret ?_
   conv => whnf
   have e9 := sj h
   subst e9
   refine hQ _ _ _ (aH aI (fun g => rfl) ?_)
   conv => whnf
  refine .loopS (jN n qcv p0 p1 p2 p3) (fun (s6 : Int) => (.unk :: (.slice (List.map encI p1) .shared :: (u2 (.ptr 0 0 :: (.unk :: (.ptr 1 0 :: (.ptr 2 0 :: (.unk :: (.int .i64 s6 :: (u64 (u64 (u64 (u2 [])))))))))))))) (fun (s6 : Int) => [.box [.slice (List.map ah p0.carriers) .shared, .slice (List.map aA p0.names) .shared], .box [.int .i64 p2.kind, .int .i64 p2.n, .str p2.name, .slice (List.map ak p2.kids) .shared], .box [.int .i64 p3.kind, .str p3.name, .slice (List.map aC p3.kids) .shared]]) ho1 (fun _ => rfl) (li (.u (.s (.u2 (.s (.u (.s (.s (.u (.s (.u16 (.u16 (.u16 (.u16 (.u16 (.u16 (.u16 (.u16 (.u16 (.u16 (.u16 (.u16 (.u2 .n))))))))))))))))))))))) ?_
  intro n1 s6 hs1 KL1 hKL1
  unfold jN at hs1
  refine .q fun K18 k18 => ?_
  refine .q fun K19 k19 => ?_
  refine rg 0 ?_
  conv => whnf
  refine aU (l := p2.kids) (f := ak) ?_
  conv => whnf
  refine k19 _ _ ?_
  refine .aM rfl hs1 (fun hc23 hs1 => ?_) (fun hc23 hs1 => ?_)
  ·refine .skip ?_
   conv => whnf
   refine k18 _ _ ?_
   refine .q fun K20 k20 => ?_
   refine .block ?_
   refine .q fun K21 k21 => ?_
   obtain ⟨s8, hj6, hs1⟩ := ob hs1
   have hR7 : ∀ t9 h9, Le 0 t9 h9 (.unk :: (.slice (List.map encI p1) .shared :: (u2 (.ptr 0 0 :: (.unk :: (.ptr 1 0 :: (.ptr 2 0 :: (.unk :: (.int .i64 s6 :: (u64 (u64 (u64 (.unk :: (.bool s8 :: [])))))))))))))) [.box [.slice (List.map ah p0.carriers) .shared, .slice (List.map aA p0.names) .shared], .box [.int .i64 p2.kind, .int .i64 p2.n, .str p2.name, .slice (List.map ak p2.kids) .shared], .box [.int .i64 p3.kind, .str p3.name, .slice (List.map aC p3.kids) .shared]] → K21 t9 h9 := by
    intro t9 h9 hw
    refine k21 _ _ (AW.le hw ?_)
    clear hw
    refine .aM rfl hs1 (fun hc24 hs1 => ?_) (fun hc24 hs1 => ?_)
    ·refine .q fun K22 k22 => ?_
     refine rg 0 ?_
     conv => whnf
     refine k22 _ _ ?_
     refine .ret ?_
     conv => whnf
     have e9 := sj hs1
     subst e9
     dsimp only [LR.el] at h
     have e9 := sj h
     subst e9
     refine hQ _ _ _ (aH aI (fun g => rfl) ?_)
     conv => whnf
    refine .skip ?_
    conv => whnf
    refine k20 _ _ ?_
    refine .know 9 0 fun hv1 => ?_
    refine .RP 1 3 (fun hv2 => ?_) ⟨6, 0, rfl⟩
    refine rg 0 ?_
    conv => whnf
    refine ⟨(s6 + 1), by have := fQ hv1; have := ko hv2; have h8 := of_decide_eq_true hc23; exact bT (by omega) (by omega), ?_⟩
    conv => whnf
    exact hKL1 _ _ _ hs1 (li (.u (.s (.u2 (.s (.u (.s (.s (.u (.s (.u16 (.u16 (.u16 (.u16 (.u16 (.u16 (.u16 (.u16 (.u16 (.u16 (.u16 (.u16 (.u2 .n)))))))))))))))))))))))
   refine .know 9 0 fun hv3 => ?_
   refine rg 0 ?_
   conv => whnf
   obtain ⟨x9, hx9, hj6⟩ := ob hj6
   refine bA (l := p2.kids) (f := ak) (cs := [.int .i64 ((x9).kind), .int .i64 ((x9).n), .str ((x9).name), .slice (List.map ak ((x9).kids)) .shared]) hx9 (dB x9) rfl ?_
   conv => whnf
   obtain ⟨x10, hx10, hj6⟩ := ob hj6
   refine bA (l := p3.kids) (f := aC) (cs := [.int .i64 ((x10).kind), .str ((x10).name), .slice (List.map aC ((x10).kids)) .shared]) hx10 (gX x10) rfl ?_
   conv => whnf
   obtain ⟨x11, hx11, hj6⟩ := ob hj6
   refine aJ (qbh _ _ _ _ _ hx11) DZ (.cons (.same _) (.cons (.same _) (.cons (.same _) (.cons (.same _) .nil)))) (fun g => by simp) (fun g => rfl) ?_
   conv => whnf
   refine aD hj6 (fun hc25 hj6 => ?_) (fun hc25 hj6 => ?_)
   ·conv => whnf
    refine ⟨by kernel_rfl, ?_⟩
    conv => whnf
    cases hj6
    exact e13x2 (hR7 _ _)
   conv => whnf
   refine aD hj6 (fun hc26 hj6 => ?_) (fun hc26 hj6 => ?_)
   ·conv => whnf
    refine ⟨(s6 - 1), by have := fQ hv3; have h8 := of_decide_eq_true hc26; exact bT (by omega) (by omega), ?_⟩
    conv => whnf
    obtain ⟨x12, hx12, hj6⟩ := ob hj6
    refine bA (l := p2.kids) (f := ak) (cs := [.int .i64 ((x12).kind), .int .i64 ((x12).n), .str ((x12).name), .slice (List.map ak ((x12).kids)) .shared]) hx12 (dB x12) rfl ?_
    conv => whnf
    obtain ⟨x13, hx13, hj6⟩ := ob hj6
    refine bA (l := p2.kids) (f := ak) (cs := [.int .i64 ((x13).kind), .int .i64 ((x13).n), .str ((x13).name), .slice (List.map ak ((x13).kids)) .shared]) hx13 (dB x13) rfl ?_
    conv => whnf
    obtain ⟨x14, hx14, hj6⟩ := ob hj6
    refine aJ (KV _ _ _ _ hx14) UF (.cons (.same _) (.cons (.same _) .nil)) (fun g => by simp) (fun g => rfl) ?_
    conv => whnf
    refine ⟨by kernel_rfl, ?_⟩
    conv => whnf
    cases hj6
    exact e13x2 (hR7 _ _)
   conv => whnf
   refine ⟨by kernel_rfl, ?_⟩
   conv => whnf
   cases hj6
   exact e13x2 (hR7 _ _)
  refine .exit ?_
  conv => whnf
  exact hR6 _ (sj hs1).symm _ _ (wk [] (.u64 (.u64 (.u64 (.u8 (.u4 .nil))))) .nil rfl)
 refine rg 0 ?_
 conv => whnf
 refine aD hj5 (fun hc27 hj5 => ?_) (fun hc27 hj5 => ?_)
 ·conv => whnf
  cases hj5
  exact e13x1 (hR5 _ _)
 conv => whnf
 refine aD hj5 (fun hc28 hj5 => ?_) (fun hc28 hj5 => ?_)
 ·conv => whnf
  cases hj5
  exact e13x1 (hR5 _ _)
 conv => whnf
 refine aD hj5 (fun hc29 hj5 => ?_) (fun hc29 hj5 => ?_)
 ·conv => whnf
  cases hj5
  exact e13x1 (hR5 _ _)
 conv => whnf
 refine aU (l := p2.kids) (f := ak) ?_
 conv => whnf
 cases hj5
 exact e13x1 (hR5 _ _)
theorem Rs (n : Nat) : qa9 (kP n) := by
 induction n with
 | zero => exact (fun p0 p1 p2 p3 r h => by unfold kP at h; cases h)
 | succ n ih =>
  exact (fun p0 p1 p2 p3 r h => IZ n _ ih p0 p1 p2 p3 r (by unfold kP at h; exact h))
theorem JV (n : Nat) : qa9 (kP n) := (Rs n)
theorem TM (n : Nat) (p0 : Env) (p1 : List Int) (p2 : Val) (p3 : Ty) (r : Bool) (h : Cn n p0 p1 p2 p3 = some r) : aj Tryz.prog 12 [.agg [.slice (List.map ah p0.carriers) .shared, .slice (List.map aA p0.names) .shared], .slice (List.map encI p1) .shared, .agg [.int .i64 p2.kind, .int .i64 p2.n, .str p2.name, .slice (List.map ak p2.kids) .shared], .agg [.int .i64 p3.kind, .str p3.name, .slice (List.map aC p3.kids) .shared]] [] (.bool r) [] := by
 unfold Cn at h
 refine aB true Tryz.func12 rfl (by rw [Tryz.ntmps12]; exact Nat.le_of_ble_eq_true rfl) fun Q hQ t ht => ?_
 conv at ht => whnf
 subst ht
 refine .q fun K1 k1 => ?_
 refine rg 3 ?_
 conv => whnf
 refine k1 _ _ ?_
 refine .q fun K2 k2 => ?_
 obtain ⟨s1, hj1, h⟩ := ob h
 have hR1 : ∀ t9 h9, Le 0 t9 h9 (u8 (.bool s1 :: (u16 (u4 (u2 (.unk :: [])))))) [] → K2 t9 h9 := by
  intro t9 h9 hw
  refine k2 _ _ (AW.le hw ?_)
  clear hw
  refine .ret ?_
  conv => whnf
  have e9 := sj h
  subst e9
  refine hQ _ _ _ (aH aI (fun g => rfl) ?_)
  conv => whnf
 refine rg 0 ?_
 conv => whnf
 obtain ⟨x1, hx1, hj1⟩ := ob hj1
 refine aJ (uq _ _ _ hx1) LY (.cons (.same _) .nil) (fun g => by simp) (fun g => rfl) ?_
 conv => whnf
 refine aD hj1 (fun hc1 hj1 => ?_) (fun hc1 hj1 => ?_)
 ·conv => whnf
  obtain ⟨x2, hx2, hj1⟩ := ob hj1
  refine aJ (yP _ _ _ hx2) Tx (.cons (.same _) .nil) (fun g => by simp) (fun g => rfl) ?_
  conv => whnf
  refine aD hj1 (fun hc2 hj1 => ?_) (fun hc2 hj1 => ?_)
  ·conv => whnf
   obtain ⟨x3, hx3, hj1⟩ := ob hj1
   refine aJ (Fu _ _ _ _ hx3) Uk (.cons (.same _) (.cons (.same _) .nil)) (fun g => by simp) (fun g => rfl) ?_
   conv => whnf
   refine aD hj1 (fun hc3 hj1 => ?_) (fun hc3 hj1 => ?_)
   ·conv => whnf
    obtain ⟨x4, hx4, hj1⟩ := ob hj1
    refine aJ (AA _ _ _ _ hx4) LX (.cons (.same _) (.cons (.same _) .nil)) (fun g => by simp) (fun g => rfl) ?_
    conv => whnf
    refine aD hj1 (fun hc4 hj1 => ?_) (fun hc4 hj1 => ?_)
    ·conv => whnf
     obtain ⟨x5, hx5, hj1⟩ := ob hj1
     refine aJ (JV _ _ _ _ _ _ hx5) DZ (.cons (.same _) (.cons (.same _) (.cons (.same _) (.cons (.same _) .nil)))) (fun g => by simp) (fun g => rfl) ?_
     conv => whnf
     cases hj1
     exact hR1 _ _ (wk [] (.u8 (.c rfl (.u16 (.u4 (.u2 (.u .nil)))))) .nil rfl)
    conv => whnf
    cases hj1
    exact hR1 _ _ (wk [] (.u8 (.c rfl (.u16 (.u4 (.u2 (.u .nil)))))) .nil rfl)
   conv => whnf
   cases hj1
   exact hR1 _ _ (wk [] (.u8 (.c rfl (.u16 (.u4 (.u2 (.u .nil)))))) .nil rfl)
  conv => whnf
  cases hj1
  exact hR1 _ _ (wk [] (.u8 (.c rfl (.u16 (.u4 (.u2 (.u .nil)))))) .nil rfl)
 conv => whnf
 cases hj1
 exact hR1 _ _ (wk [] (.u8 (.c rfl (.u16 (.u4 (.u2 (.u .nil)))))) .nil rfl)
theorem e14x0 {p q : Prop} (f : p → q) (h : p := by exact wk [] (.u4 (.c rfl (.u16 (.u8 (.u .nil))))) .nil rfl) : q := f h
theorem CY (n : Nat) (p0 : S_api_World) (r : Bool) (h : mU n p0 = some r) : aj Tryz.prog 13 [.agg [.slice (List.map ah p0.env.carriers) .shared, .slice (List.map aA p0.env.names) .shared, .slice (List.map encI p0.sizes) .shared, .slice (List.map ak p0.values) .shared]] [] (.bool r) [] := by
 unfold mU at h
 refine aB true Tryz.func13 rfl (by rw [Tryz.ntmps13]; exact Nat.le_of_ble_eq_true rfl) fun Q hQ t ht => ?_
 conv at ht => whnf
 subst ht
 refine .q fun K1 k1 => ?_
 refine rg 1 ?_
 conv => whnf
 refine k1 _ _ ?_
 refine .q fun K2 k2 => ?_
 refine .q fun K3 k3 => ?_
 obtain ⟨s1, hj1, h⟩ := ob h
 have hR1 : ∀ t9 h9, Le 0 t9 h9 (.unk :: (.ptr 0 0 :: (u16 (u8 (.bool s1 :: (u16 (u4 (u2 (.unk :: []))))))))) [.box [.slice (List.map ah p0.env.carriers) .shared, .slice (List.map aA p0.env.names) .shared, .slice (List.map encI p0.sizes) .shared, .slice (List.map ak p0.values) .shared]] → K3 t9 h9 := by
  intro t9 h9 hw
  refine k3 _ _ (AW.le hw ?_)
  clear hw
  refine .aM rfl h (fun hc1 h => ?_) (fun hc1 h => ?_)
  ·refine .q fun K4 k4 => ?_
   refine rg 0 ?_
   conv => whnf
   refine k4 _ _ ?_
   refine .ret ?_
   conv => whnf
   have e9 := sj h
   subst e9
   refine hQ _ _ _ (aH aI (fun g => rfl) ?_)
   conv => whnf
  refine .skip ?_
  conv => whnf
  refine k2 _ _ ?_
  refine .q fun K5 k5 => ?_
  refine .q fun K6 k6 => ?_
  refine rg 0 ?_
  conv => whnf
  refine aU (l := p0.env.names) (f := aA) ?_
  conv => whnf
  refine k6 _ _ ?_
  refine .block ?_
  obtain ⟨o1, ho1, h⟩ := ob h
  have hR2 : ∀ s3 : Unit, o1 = .nx s3 → ∀ t9 h9, Le 0 t9 h9 (u32 (u16 (u2 []))) [] → K5 t9 h9 := by
   intro s3 ho
   subst ho
   dsimp only [LR.el] at h
   intro t9 h9 hw
   refine k5 _ _ (AW.le hw ?_)
   refine .q fun K7 k7 => ?_
   refine rg 0 ?_
   conv => whnf
   refine k7 _ _ ?_
   refine .ret ?_
   conv => whnf
   have e9 := sj h
   subst e9
   refine hQ _ _ _ (aH aI (fun g => rfl) ?_)
   conv => whnf
  refine .loopS (kN n p0) (fun (s2 : Int) => (.unk :: (.ptr 0 0 :: (u16 (u8 (u2 (.unk :: (.slice (List.map aA p0.env.names) .shared :: (.int .i64 (p0.env.names.length : Int) :: (.int .i64 s2 :: (u16 (u2 [])))))))))))) (fun (s2 : Int) => [.box [.slice (List.map ah p0.env.carriers) .shared, .slice (List.map aA p0.env.names) .shared, .slice (List.map encI p0.sizes) .shared, .slice (List.map ak p0.values) .shared]]) ho1 (fun _ => rfl) (li (.u (.s (.u16 (.u8 (.u2 (.u (.s (.s (.s (.u16 (.u2 .n)))))))))))) ?_
  intro n1 s2 hs1 KL1 hKL1
  unfold kN at hs1
  refine .q fun K8 k8 => ?_
  refine rg 0 ?_
  conv => whnf
  refine k8 _ _ ?_
  refine .q fun K9 k9 => ?_
  refine .aM rfl hs1 (fun hc2 hs1 => ?_) (fun hc2 hs1 => ?_)
  ·refine .skip ?_
   conv => whnf
   refine k9 _ _ ?_
   refine .q fun K10 k10 => ?_
   refine .block ?_
   refine .q fun K11 k11 => ?_
   refine rg 1 ?_
   conv => whnf
   obtain ⟨x1, hx1, hs1⟩ := ob hs1
   refine bA (l := p0.env.names) (f := aA) (cs := [.str ((x1).name), .int .i64 (((x1).ty).kind), .str (((x1).ty).name), .slice (List.map aC (((x1).ty).kids)) .shared]) hx1 (rfl) rfl ?_
   conv => whnf
   refine k11 _ _ ?_
   refine .q fun K12 k12 => ?_
   refine rg 0 ?_
   conv => whnf
   obtain ⟨x2, hx2, hs1⟩ := ob hs1
   refine bA (l := p0.values) (f := ak) (cs := [.int .i64 ((x2).kind), .int .i64 ((x2).n), .str ((x2).name), .slice (List.map ak ((x2).kids)) .shared]) hx2 (dB x2) rfl ?_
   conv => whnf
   obtain ⟨x3, hx3, hs1⟩ := ob hs1
   refine aJ (ED _ _ _ _ _ _ hx3) NK (.cons (.same _) (.cons (.same _) (.cons (.same _) (.cons (.same _) .nil)))) (fun g => by simp) (fun g => rfl) ?_
   conv => whnf
   refine ⟨by kernel_rfl, ?_⟩
   conv => whnf
   refine k12 _ _ ?_
   refine .aM rfl hs1 (fun hc3 hs1 => ?_) (fun hc3 hs1 => ?_)
   ·refine .q fun K13 k13 => ?_
    refine rg 0 ?_
    conv => whnf
    refine k13 _ _ ?_
    refine .ret ?_
    conv => whnf
    have e9 := sj hs1
    subst e9
    dsimp only [LR.el] at h
    have e9 := sj h
    subst e9
    refine hQ _ _ _ (aH aI (fun g => rfl) ?_)
    conv => whnf
   refine .skip ?_
   conv => whnf
   refine k10 _ _ ?_
   refine .know 3 0 fun hv1 => ?_
   refine .know 29 0 fun hv2 => ?_
   refine rg 0 ?_
   conv => whnf
   refine ⟨(s2 + 1), by have := fQ hv1; have := ko hv2; have h8 := of_decide_eq_true hc2; exact bT (by omega) (by omega), ?_⟩
   conv => whnf
   exact hKL1 _ _ _ hs1 (wk [some 0] (.u (.c rfl (.u16 (.u8 (.u2 (.u (.e aN (.c rfl (.c rfl (.u16 (.u2 .nil))))))))))) (.b rfl (.e aF (.e aN (.e bB (.e aR .nil)))) .nil) rfl)
  refine .exit ?_
  conv => whnf
  exact hR2 _ (sj hs1).symm _ _ (wk [] (.u32 (.u16 (.u2 .nil))) .nil rfl)
 refine rg 0 ?_
 conv => whnf
 obtain ⟨x4, hx4, hj1⟩ := ob hj1
 refine aJ (pE _ _ _ hx4) M7 (.cons (.same _) .nil) (fun g => by simp) (fun g => rfl) ?_
 conv => whnf
 refine aD hj1 (fun hc4 hj1 => ?_) (fun hc4 hj1 => ?_)
 ·conv => whnf
  cases hj1
  exact hR1 _ _ (li (.u (.s (.u16 (.u8 (.s (.u16 (.u4 (.u2 (.u .n))))))))))
 conv => whnf
 obtain ⟨x5, hx5, hj1⟩ := ob hj1
 refine aJ (rz _ _ _ _ hx5) Ni (.cons (.same _) (.cons (.same _) .nil)) (fun g => by simp) (fun g => rfl) ?_
 conv => whnf
 refine aD hj1 (fun hc5 hj1 => ?_) (fun hc5 hj1 => ?_)
 ·conv => whnf
  cases hj1
  exact hR1 _ _ (li (.u (.s (.u16 (.u8 (.s (.u16 (.u4 (.u2 (.u .n))))))))))
 conv => whnf
 refine aU (l := p0.values) (f := ak) ?_
 conv => whnf
 refine aU (l := p0.env.names) (f := aA) ?_
 conv => whnf
 cases hj1
 exact hR1 _ _ (li (.u (.s (.u16 (.u8 (.s (.u16 (.u4 (.u2 (.u .n))))))))))
theorem FX (n : Nat) (p0 : S_api_World) (r : Bool) (h : oJ n p0 = some r) : aj Tryz.prog 14 [.agg [.slice (List.map ah p0.env.carriers) .shared, .slice (List.map aA p0.env.names) .shared, .slice (List.map encI p0.sizes) .shared, .slice (List.map ak p0.values) .shared]] [] (.bool r) [] := by
 unfold oJ at h
 refine aB true Tryz.func14 rfl (by rw [Tryz.ntmps14]; exact Nat.le_of_ble_eq_true rfl) fun Q hQ t ht => ?_
 conv at ht => whnf
 subst ht
 refine .q fun K1 k1 => ?_
 refine rg 1 ?_
 conv => whnf
 refine k1 _ _ ?_
 refine .q fun K2 k2 => ?_
 refine .q fun K3 k3 => ?_
 obtain ⟨s1, hj1, h⟩ := ob h
 have hR1 : ∀ t9 h9, Le 0 t9 h9 (.unk :: (.ptr 0 0 :: (u16 (u4 (u2 (.unk :: (.bool s1 :: (u16 (u8 (.unk :: [])))))))))) [.box [.slice (List.map ah p0.env.carriers) .shared, .slice (List.map aA p0.env.names) .shared, .slice (List.map encI p0.sizes) .shared, .slice (List.map ak p0.values) .shared]] → K3 t9 h9 := by
  intro t9 h9 hw
  refine k3 _ _ (AW.le hw ?_)
  clear hw
  refine .aM rfl h (fun hc1 h => ?_) (fun hc1 h => ?_)
  ·refine .q fun K4 k4 => ?_
   refine rg 0 ?_
   conv => whnf
   refine k4 _ _ ?_
   refine .ret ?_
   conv => whnf
   have e9 := sj h
   subst e9
   refine hQ _ _ _ (aH aI (fun g => rfl) ?_)
   conv => whnf
  refine .skip ?_
  conv => whnf
  refine k2 _ _ ?_
  refine .q fun K5 k5 => ?_
  refine .q fun K6 k6 => ?_
  refine rg 0 ?_
  conv => whnf
  refine k6 _ _ ?_
  refine .block ?_
  obtain ⟨o1, ho1, h⟩ := ob h
  have hR2 : ∀ s3 : Unit, o1 = .nx s3 → ∀ t9 h9, Le 0 t9 h9 (u32 (u16 (u2 (.unk :: [])))) [] → K5 t9 h9 := by
   intro s3 ho
   subst ho
   dsimp only [LR.el] at h
   intro t9 h9 hw
   refine k5 _ _ (AW.le hw ?_)
   refine .q fun K7 k7 => ?_
   refine rg 0 ?_
   conv => whnf
   refine k7 _ _ ?_
   refine .ret ?_
   conv => whnf
   have e9 := sj h
   subst e9
   refine hQ _ _ _ (aH aI (fun g => rfl) ?_)
   conv => whnf
  refine .loopS (j4 n p0) (fun (s2 : Int) => (.unk :: (.ptr 0 0 :: (.unk :: (.int .i64 s2 :: (u32 (u8 (u4 (u2 (.unk :: [])))))))))) (fun (s2 : Int) => [.box [.slice (List.map ah p0.env.carriers) .shared, .slice (List.map aA p0.env.names) .shared, .slice (List.map encI p0.sizes) .shared, .slice (List.map ak p0.values) .shared]]) ho1 (fun _ => rfl) (li (.u (.s (.u (.s (.u16 (.u16 (.u8 (.u4 (.u2 (.u .n))))))))))) ?_
  intro n1 s2 hs1 KL1 hKL1
  unfold j4 at hs1
  refine .q fun K8 k8 => ?_
  refine .q fun K9 k9 => ?_
  refine rg 0 ?_
  conv => whnf
  refine aU (l := p0.values) (f := ak) ?_
  conv => whnf
  refine k9 _ _ ?_
  refine .aM rfl hs1 (fun hc2 hs1 => ?_) (fun hc2 hs1 => ?_)
  ·refine .skip ?_
   conv => whnf
   refine k8 _ _ ?_
   refine .q fun K10 k10 => ?_
   refine .block ?_
   refine .q fun K11 k11 => ?_
   refine rg 0 ?_
   conv => whnf
   obtain ⟨x1, hx1, hs1⟩ := ob hs1
   refine bA (l := p0.values) (f := ak) (cs := [.int .i64 ((x1).kind), .int .i64 ((x1).n), .str ((x1).name), .slice (List.map ak ((x1).kids)) .shared]) hx1 (dB x1) rfl ?_
   conv => whnf
   obtain ⟨x2, hx2, hs1⟩ := ob hs1
   refine bA (l := p0.env.names) (f := aA) (cs := [.str ((x2).name), .int .i64 (((x2).ty).kind), .str (((x2).ty).name), .slice (List.map aC (((x2).ty).kids)) .shared]) hx2 (rfl) rfl ?_
   conv => whnf
   obtain ⟨x3, hx3, hs1⟩ := ob hs1
   refine aJ (JV _ _ _ _ _ _ hx3) DZ (.cons (.same _) (.cons (.same _) (.cons (.same _) (.cons (.same _) .nil)))) (fun g => by simp) (fun g => rfl) ?_
   conv => whnf
   refine ⟨by kernel_rfl, ?_⟩
   conv => whnf
   refine k11 _ _ ?_
   refine .aM rfl hs1 (fun hc3 hs1 => ?_) (fun hc3 hs1 => ?_)
   ·refine .q fun K12 k12 => ?_
    refine rg 0 ?_
    conv => whnf
    refine k12 _ _ ?_
    refine .ret ?_
    conv => whnf
    have e9 := sj hs1
    subst e9
    dsimp only [LR.el] at h
    have e9 := sj h
    subst e9
    refine hQ _ _ _ (aH aI (fun g => rfl) ?_)
    conv => whnf
   refine .skip ?_
   conv => whnf
   refine k10 _ _ ?_
   refine .know 3 0 fun hv1 => ?_
   refine .know 28 0 fun hv2 => ?_
   refine rg 0 ?_
   conv => whnf
   refine ⟨(s2 + 1), by have := fQ hv1; have := ko hv2; have h8 := of_decide_eq_true hc2; exact bT (by omega) (by omega), ?_⟩
   conv => whnf
   exact hKL1 _ _ _ hs1 (li (.u (.s (.u (.s (.u16 (.u16 (.u8 (.u4 (.u2 (.u .n)))))))))))
  refine .exit ?_
  conv => whnf
  exact hR2 _ (sj hs1).symm _ _ (wk [] (.u32 (.u16 (.u2 (.u .nil)))) .nil rfl)
 refine rg 0 ?_
 conv => whnf
 obtain ⟨x4, hx4, hj1⟩ := ob hj1
 refine aJ (uq _ _ _ hx4) LY (.cons (.same _) .nil) (fun g => by simp) (fun g => rfl) ?_
 conv => whnf
 refine aD hj1 (fun hc4 hj1 => ?_) (fun hc4 hj1 => ?_)
 ·conv => whnf
  cases hj1
  exact hR1 _ _ (li (.u (.s (.u16 (.u4 (.u2 (.u (.s (.u16 (.u8 (.u .n)))))))))))
 conv => whnf
 obtain ⟨x5, hx5, hj1⟩ := ob hj1
 refine aJ (AA _ _ _ _ hx5) LX (.cons (.same _) (.cons (.same _) .nil)) (fun g => by simp) (fun g => rfl) ?_
 conv => whnf
 refine aD hj1 (fun hc5 hj1 => ?_) (fun hc5 hj1 => ?_)
 ·conv => whnf
  cases hj1
  exact hR1 _ _ (li (.u (.s (.u16 (.u4 (.u2 (.u (.s (.u16 (.u8 (.u .n)))))))))))
 conv => whnf
 refine aU (l := p0.values) (f := ak) ?_
 conv => whnf
 refine aU (l := p0.env.names) (f := aA) ?_
 conv => whnf
 cases hj1
 exact hR1 _ _ (li (.u (.s (.u16 (.u4 (.u2 (.u (.s (.u16 (.u8 (.u .n)))))))))))
theorem Cw (n : Nat) (p0 : Env) (p1 : S_api_Scope) (r : Bool) (h : mM n p0 p1 = some r) : aj Tryz.prog 15 [.agg [.slice (List.map ah p0.carriers) .shared, .slice (List.map aA p0.names) .shared], .agg [.slice (List.map encI p1.sizes) .shared, .int .i64 p1.lo, .int .i64 p1.hi]] [] (.bool r) [] := by
 unfold mM at h
 refine aB true Tryz.func15 rfl (by rw [Tryz.ntmps15]; exact Nat.le_of_ble_eq_true rfl) fun Q hQ t ht => ?_
 conv at ht => whnf
 subst ht
 refine .q fun K1 k1 => ?_
 refine rg 2 ?_
 conv => whnf
 refine k1 _ _ ?_
 refine .q fun K2 k2 => ?_
 obtain ⟨s1, hj1, h⟩ := ob h
 have hR1 : ∀ t9 h9, Le 0 t9 h9 (u4 (.bool s1 :: (u16 (u8 (.unk :: []))))) [] → K2 t9 h9 := by
  intro t9 h9 hw
  refine k2 _ _ (AW.le hw ?_)
  clear hw
  refine .ret ?_
  conv => whnf
  have e9 := sj h
  subst e9
  refine hQ _ _ _ (aH aI (fun g => rfl) ?_)
  conv => whnf
 refine rg 0 ?_
 conv => whnf
 obtain ⟨x1, hx1, hj1⟩ := ob hj1
 refine aJ (pE _ _ _ hx1) M7 (.cons (.same _) .nil) (fun g => by simp) (fun g => rfl) ?_
 conv => whnf
 refine aD hj1 (fun hc1 hj1 => ?_) (fun hc1 hj1 => ?_)
 ·conv => whnf
  obtain ⟨x2, hx2, hj1⟩ := ob hj1
  refine aJ (rz _ _ _ _ hx2) Ni (.cons (.same _) (.cons (.same _) .nil)) (fun g => by simp) (fun g => rfl) ?_
  conv => whnf
  refine aD hj1 (fun hc2 hj1 => ?_) (fun hc2 hj1 => ?_)
  ·conv => whnf
   refine aD hj1 (fun hc3 hj1 => ?_) (fun hc3 hj1 => ?_)
   ·conv => whnf
    refine aD hj1 (fun hc4 hj1 => ?_) (fun hc4 hj1 => ?_)
    ·conv => whnf
     cases hj1
     exact e14x0 (hR1 _ _)
    conv => whnf
    cases hj1
    exact e14x0 (hR1 _ _)
   conv => whnf
   cases hj1
   exact e14x0 (hR1 _ _)
  conv => whnf
  cases hj1
  exact e14x0 (hR1 _ _)
 conv => whnf
 cases hj1
 exact e14x0 (hR1 _ _)
theorem FY (n : Nat) (p0 : Env) (p1 : S_api_Scope) (r : Bool) (h : oK n p0 p1 = some r) : aj Tryz.prog 16 [.agg [.slice (List.map ah p0.carriers) .shared, .slice (List.map aA p0.names) .shared], .agg [.slice (List.map encI p1.sizes) .shared, .int .i64 p1.lo, .int .i64 p1.hi]] [] (.bool r) [] := by
 unfold oK at h
 refine aB true Tryz.func16 rfl (by rw [Tryz.ntmps16]; exact Nat.le_of_ble_eq_true rfl) fun Q hQ t ht => ?_
 conv at ht => whnf
 subst ht
 refine .q fun K1 k1 => ?_
 refine rg 2 ?_
 conv => whnf
 refine k1 _ _ ?_
 refine .q fun K2 k2 => ?_
 obtain ⟨s1, hj1, h⟩ := ob h
 have hR1 : ∀ t9 h9, Le 0 t9 h9 (u4 (.bool s1 :: (u16 (u8 (.unk :: []))))) [] → K2 t9 h9 := by
  intro t9 h9 hw
  refine k2 _ _ (AW.le hw ?_)
  clear hw
  refine .ret ?_
  conv => whnf
  have e9 := sj h
  subst e9
  refine hQ _ _ _ (aH aI (fun g => rfl) ?_)
  conv => whnf
 refine rg 0 ?_
 conv => whnf
 obtain ⟨x1, hx1, hj1⟩ := ob hj1
 refine aJ (uq _ _ _ hx1) LY (.cons (.same _) .nil) (fun g => by simp) (fun g => rfl) ?_
 conv => whnf
 refine aD hj1 (fun hc1 hj1 => ?_) (fun hc1 hj1 => ?_)
 ·conv => whnf
  obtain ⟨x2, hx2, hj1⟩ := ob hj1
  refine aJ (AA _ _ _ _ hx2) LX (.cons (.same _) (.cons (.same _) .nil)) (fun g => by simp) (fun g => rfl) ?_
  conv => whnf
  refine aD hj1 (fun hc2 hj1 => ?_) (fun hc2 hj1 => ?_)
  ·conv => whnf
   refine aD hj1 (fun hc3 hj1 => ?_) (fun hc3 hj1 => ?_)
   ·conv => whnf
    refine aD hj1 (fun hc4 hj1 => ?_) (fun hc4 hj1 => ?_)
    ·conv => whnf
     cases hj1
     exact e14x0 (hR1 _ _)
    conv => whnf
    cases hj1
    exact e14x0 (hR1 _ _)
   conv => whnf
   cases hj1
   exact e14x0 (hR1 _ _)
  conv => whnf
  cases hj1
  exact e14x0 (hR1 _ _)
 conv => whnf
 cases hj1
 exact e14x0 (hR1 _ _)
end Abs
end Go.Proofs.YtkopaeklihhdlaaGreat
