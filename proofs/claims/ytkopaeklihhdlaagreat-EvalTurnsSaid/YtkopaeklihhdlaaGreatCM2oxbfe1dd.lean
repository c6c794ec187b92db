/-
  Contracts of Go functions (printed). Conditions: none.
-/
import Derived.KernelRfl
import Derived.Test.YtkopaeklihhdlaaGreatCAwox105464
import Derived.Test.YtkopaeklihhdlaaGreatCM1ox33466b
set_option linter.unusedSimpArgs false
set_option linter.unusedVariables false
namespace Go.Proofs.YtkopaeklihhdlaaGreat
namespace Abs
open Go Go.Proofs
set_option maxRecDepth 100000
set_option maxHeartbeats 40000000
theorem OX (n : Nat) (p0 : List Int) (p1 : Int) (r : Bool) (h : vS n p0 p1 = some r) : aA Tryz.prog 69 [.slice (List.map encI p0) .shared, .int .i64 p1] [] (.bool r) [] := by
 unfold vS at h
 refine aC true Tryz.func69 rfl (by rw [Tryz.ntmps69]; exact Nat.le_of_ble_eq_true rfl) fun Q hQ t ht => ?_
 conv at ht => whnf
 subst ht
 refine .q fun K1 k1 => ?_
 refine rg 0 ?_
 conv => whnf
 refine k1 _ _ ?_
 refine .q fun K2 k2 => ?_
 refine .q fun K3 k3 => ?_
 refine rg 0 ?_
 conv => whnf
 refine aQ (l := p0) (f := encI) ?_
 conv => whnf
 refine k3 _ _ ?_
 refine .aK rfl h (fun hc1 h => ?_) (fun hc1 h => ?_)
 ·refine .q fun K4 k4 => ?_
  refine rg 0 ?_
  conv => whnf
  refine k4 _ _ ?_
  refine .ret ?_
  conv => whnf
  have e9 := sj h
  subst e9
  refine hQ _ _ _ (aG aJ (fun g => rfl) ?_)
  conv => whnf
 refine .skip ?_
 conv => whnf
 refine k2 _ _ ?_
 refine .q fun K5 k5 => ?_
 refine .ZG aJ dN 1 ?_
 conv => whnf
 obtain ⟨x1, hx1, h⟩ := ob h
 refine mks (f := xY) hx1 rfl rfl (Nat.le_of_ble_eq_true rfl) ?_
 conv => whnf
 refine k5 _ _ ?_
 refine .q fun K6 k6 => ?_
 refine .q fun K7 k7 => ?_
 refine rg 0 ?_
 conv => whnf
 refine k7 _ _ ?_
 refine .block ?_
 obtain ⟨o1, ho1, h⟩ := ob h
 have hR1 : ∀ s2 : Unit, o1 = .nx s2 → ∀ t9 h9, Le 0 t9 h9 (u32 (u8 (u4 (u2 [])))) [] → K6 t9 h9 := by
  intro s2 ho
  subst ho
  dsimp only [LR.el] at h
  intro t9 h9 hw
  refine k6 _ _ (AW.le hw ?_)
  refine .q fun K8 k8 => ?_
  refine rg 0 ?_
  conv => whnf
  refine k8 _ _ ?_
  refine .ret ?_
  conv => whnf
  have e9 := sj h
  subst e9
  refine hQ _ _ _ (aG aJ (fun g => rfl) ?_)
  conv => whnf
 refine .loopS (nO n p0 p1) (fun (s1 : (List Bool) × Int) => (.slice (List.map encI p0) .shared :: (.int .i64 p1 :: (u2 (.unk :: (.psl 0 1 (List.length s1.1) :: (.int .i64 s1.2 :: (u32 (u4 (u2 (.unk :: []))))))))))) (fun (s1 : (List Bool) × Int) => [.arr 1 (List.map xY s1.1)]) ho1 (fun _ => rfl) (wk [some 0] (.e aR (.c rfl (.u2 (.u (.c rfl (.c rfl (.u32 (.u4 (.u2 (.u .nil)))))))))) (.old (.arr' G6 (aN _)) .nil) rfl) ?_
 intro n1 s1 hs1 KL1 hKL1
 unfold nO at hs1
 refine .q fun K9 k9 => ?_
 refine .q fun K10 k10 => ?_
 refine rg 0 ?_
 conv => whnf
 refine k10 _ _ ?_
 refine .aK rfl hs1 (fun hc2 hs1 => ?_) (fun hc2 hs1 => ?_)
 ·refine .skip ?_
  conv => whnf
  refine k9 _ _ ?_
  refine .q fun K11 k11 => ?_
  refine .block ?_
  refine .q fun K12 k12 => ?_
  refine .q fun K13 k13 => ?_
  obtain ⟨s3, hj1, hs1⟩ := ob hs1
  have hR2 : ∀ t9 h9, Le 0 t9 h9 (.slice (List.map encI p0) .shared :: (.int .i64 p1 :: (u2 (.unk :: (.psl 0 1 (List.length s1.1) :: (.int .i64 s1.2 :: (u32 (.bool s3 :: (u4 (u2 [])))))))))) [.arr 1 (List.map xY s1.1)] → K13 t9 h9 := by
   intro t9 h9 hw
   refine k13 _ _ (AW.le hw ?_)
   clear hw
   refine .aK rfl hs1 (fun hc3 hs1 => ?_) (fun hc3 hs1 => ?_)
   ·refine .q fun K14 k14 => ?_
    refine rg 0 ?_
    conv => whnf
    refine k14 _ _ ?_
    refine .ret ?_
    conv => whnf
    have e9 := sj hs1
    subst e9
    dsimp only [LR.el] at h
    have e9 := sj h
    subst e9
    refine hQ _ _ _ (aG aJ (fun g => rfl) ?_)
    conv => whnf
   refine .skip ?_
   conv => whnf
   refine k12 _ _ ?_
   refine rg 0 ?_
   conv => whnf
   obtain ⟨x2, hx2, hs1⟩ := ob hs1
   refine aU (l := p0) (f := encI) (cs := [.int .i64 (x2)]) hx2 (rfl) rfl ?_
   conv => whnf
   obtain ⟨x3, hx3, hs1⟩ := ob hs1
   refine yH (l := s1.1) (l0 := s1.1) hx3 (by simp [upd]) ?_
   conv => whnf
   refine QV (l := s1.1) (f := xY) (v := true) hx3 (rfl) (by decide) ?_
   conv => whnf
   refine k11 _ _ ?_
   refine .know 6 0 fun hv1 => ?_
   refine .know 1 0 fun hv2 => ?_
   refine rg 0 ?_
   conv => whnf
   refine ⟨(s1.2 + 1), by have := bY hv1; have := bY hv2; have h8 := of_decide_eq_true hc2; exact bB (by omega) (by omega), ?_⟩
   conv => whnf
   exact hKL1 _ _ _ hs1 (wk [some 0] (.e aR (.c rfl (.u2 (.u (.cons (.same (y7 (by simp [upd]) rfl)) (.c rfl (.u32 (.u4 (.u2 (.u .nil)))))))))) (.old (.arr' G6 (aN _)) .nil) rfl)
  refine rg 0 ?_
  conv => whnf
  obtain ⟨x4, hx4, hj1⟩ := ob hj1
  refine aU (l := p0) (f := encI) (cs := [.int .i64 (x4)]) hx4 (rfl) rfl ?_
  conv => whnf
  refine aI hj1 (fun hc4 hj1 => ?_) (fun hc4 hj1 => ?_)
  ·conv => whnf
   cases hj1
   exact hR2 _ _ (li (.s (.s (.u2 (.u (.s (.s (.u16 (.u16 (.s (.u4 (.u2 .n))))))))))))
  conv => whnf
  obtain ⟨x5, hx5, hj1⟩ := ob hj1
  refine aU (l := p0) (f := encI) (cs := [.int .i64 (x5)]) hx5 (rfl) rfl ?_
  conv => whnf
  refine aI hj1 (fun hc5 hj1 => ?_) (fun hc5 hj1 => ?_)
  ·conv => whnf
   cases hj1
   exact hR2 _ _ (li (.s (.s (.u2 (.u (.s (.s (.u16 (.u16 (.s (.u4 (.u2 .n))))))))))))
  conv => whnf
  obtain ⟨x6, hx6, hj1⟩ := ob hj1
  refine aU (l := p0) (f := encI) (cs := [.int .i64 (x6)]) hx6 (rfl) rfl ?_
  conv => whnf
  obtain ⟨x7, hx7, hj1⟩ := ob hj1
  refine yH (l := s1.1) (l0 := s1.1) hx7 (by simp [upd]) ?_
  conv => whnf
  refine QB (l := s1.1) (f := xY) (cs := [.bool x7]) hx7 (rfl) (by decide) ?_
  conv => whnf
  cases hj1
  exact hR2 _ _ (li (.s (.s (.u2 (.u (.s (.s (.u16 (.u16 (.s (.u4 (.u2 .n))))))))))))
 refine .exit ?_
 conv => whnf
 exact hR1 _ (sj hs1).symm _ _ (wk [] (.u32 (.u8 (.u4 (.u2 .nil)))) .nil rfl)
abbrev qbf (qdt : Val → Str → (List Int) → Option Val) : Prop := ∀ (p0 : Val) (p1 : Str) (p2 : List Int) (r : Val), qdt p0 p1 p2 = some r → aA Tryz.prog 30 [.agg [.int .i64 p0.kind, .int .i64 p0.n, .str p0.name, .slice (List.map ah p0.kids) .shared], .str p1, .slice (List.map encI p2) .shared] [] (.agg [.int .i64 r.kind, .int .i64 r.n, .str r.name, .slice (List.map ah r.kids) .shared]) []
theorem Oj (n : Nat) (qdt : Val → Str → (List Int) → Option Val) (qb0 : qbf qdt) (p0 : Val) (p1 : Str) (p2 : List Int) (r : Val) (h : uf n qdt p0 p1 p2 = some r) : aA Tryz.prog 30 [.agg [.int .i64 p0.kind, .int .i64 p0.n, .str p0.name, .slice (List.map ah p0.kids) .shared], .str p1, .slice (List.map encI p2) .shared] [] (.agg [.int .i64 r.kind, .int .i64 r.n, .str r.name, .slice (List.map ah r.kids) .shared]) [] := by
 unfold uf at h
 refine aC true Tryz.func30 rfl (by rw [Tryz.ntmps30]; exact Nat.le_of_ble_eq_true rfl) fun Q hQ t ht => ?_
 conv at ht => whnf
 subst ht
 refine .q fun K1 k1 => ?_
 refine rg 2 ?_
 conv => whnf
 refine k1 _ _ ?_
 refine .q fun K2 k2 => ?_
 refine rg 1 ?_
 conv => whnf
 refine k2 _ _ ?_
 refine .q fun K3 k3 => ?_
 obtain ⟨s1, hj1, h⟩ := ob h
 have hR1 : ∀ t9 h9, Le 0 t9 h9 (.unk :: (.str p1 :: (.slice (List.map encI p2) .shared :: (.ptr 0 0 :: (u2 (.ptr 1 0 :: (.ptr 2 0 :: (u32 (u16 (u8 (u4 (u2 (.unk :: []))))))))))))) [.box [.int .i64 p0.kind, .int .i64 p0.n, .str p0.name, .slice (List.map ah p0.kids) .shared], .box [.int .i64 0, .int .i64 0, .str ([] : Str), .slice (List.map ah ([] : List Val)) .nils], .box [.int .i64 p0.kind, .int .i64 s1, .str p0.name, .slice (List.map ah ([] : List Val)) .nils]] → K3 t9 h9 := by
  intro t9 h9 hw
  refine k3 _ _ (AW.le hw ?_)
  clear hw
  refine .q fun K4 k4 => ?_
  refine .q fun K5 k5 => ?_
  refine rg 0 ?_
  conv => whnf
  refine k5 _ _ ?_
  refine .block ?_
  obtain ⟨o1, ho1, h⟩ := ob h
  have hR2 : ∀ s3 : List Val, o1 = .nx s3 → ∀ t9 h9, Le 0 t9 h9 (u2 (.unk :: (.ptr 0 0 :: (u2 (.ptr 1 0 :: (.ptr 2 0 :: (u32 (u16 (u8 (u4 (u2 (.unk :: [])))))))))))) [.box [.int .i64 p0.kind, .int .i64 p0.n, .str p0.name, .slice (List.map ah p0.kids) .shared], .box [.int .i64 0, .int .i64 0, .str ([] : Str), .slice (List.map ah ([] : List Val)) .nils], .box [.int .i64 p0.kind, .int .i64 s1, .str p0.name, .slice (List.map ah s3) (.tip 3 4)], .tip (List.length s3 * 4)] → K4 t9 h9 := by
   intro s3 ho
   subst ho
   dsimp only [LR.el] at h
   intro t9 h9 hw
   refine k4 _ _ (AW.le hw ?_)
   refine .q fun K6 k6 => ?_
   obtain ⟨s4, hj2, h⟩ := ob h
   have hR3 : ∀ t9 h9, Le 0 t9 h9 (u4 (u2 (.ptr 0 0 :: (.ptr 1 0 :: (u32 (u16 (u8 (u4 (u2 (.unk :: [])))))))))) [.box [.int .i64 0, .int .i64 0, .str ([] : Str), .slice (List.map ah ([] : List Val)) .nils], .box [.int .i64 p0.kind, .int .i64 s1, .str p0.name, .slice (List.map ah s4) .shared]] → K6 t9 h9 := by
    intro t9 h9 hw
    refine k6 _ _ (AW.le hw ?_)
    clear hw
    refine .q fun K7 k7 => ?_
    refine rg 0 ?_
    conv => whnf
    refine k7 _ _ ?_
    refine .ret ?_
    conv => whnf
    have e9 := sj h
    subst e9
    refine hQ _ _ _ (aG aJ (fun g => by simp) ?_)
    conv => whnf
    try rfl
   refine .q fun K8 k8 => ?_
   refine rg 0 ?_
   conv => whnf
   refine k8 _ _ ?_
   refine .aK rfl hj2 (fun hc1 hj2 => ?_) (fun hc1 hj2 => ?_)
   ·refine rg 0 ?_
    conv => whnf
    obtain ⟨x1, hx1, hj2⟩ := ob hj2
    refine aB (IK _ _ _ hx1) OG (.cons (.share _ _) .nil) (fun g => by simp) (fun g => by simp) ?_
    conv => whnf
    cases hj2
    exact hR3 _ _ (wk [some 1, some 2] (.u4 (.u2 (.c rfl (.c rfl (.u32 (.u16 (.u8 (.u4 (.u2 (.u .nil)))))))))) (.b rfl (.c rfl (.c rfl (.c rfl (.c rfl .nil)))) (.b rfl (.c rfl (.c rfl (.c rfl (.e aD .nil)))) .nil)) rfl)
   refine .skip ?_
   conv => whnf
   cases hj2
   exact hR3 _ _ (wk [some 1, some 2] (.u4 (.u2 (.c rfl (.c rfl (.u32 (.u16 (.u8 (.u4 (.u2 (.u .nil)))))))))) (.b rfl (.c rfl (.c rfl (.c rfl (.c rfl .nil)))) (.b rfl (.c rfl (.c rfl (.c rfl (.e aD .nil)))) .nil)) rfl)
  refine .loopS (xC n qdt p0 p1 p2) (fun (s2 : Int × (List Val)) => (.unk :: (.str p1 :: (.slice (List.map encI p2) .shared :: (.ptr 0 0 :: (u2 (.ptr 1 0 :: (.ptr 2 0 :: (.int .i64 s2.1 :: (u32 (u16 (u8 (u4 (u2 [])))))))))))))) (fun (s2 : Int × (List Val)) => [.box [.int .i64 p0.kind, .int .i64 p0.n, .str p0.name, .slice (List.map ah p0.kids) .shared], .box [.int .i64 0, .int .i64 0, .str ([] : Str), .slice (List.map ah ([] : List Val)) .nils], .box [.int .i64 p0.kind, .int .i64 s1, .str p0.name, .slice (List.map ah s2.2) (.tip 3 4)], .tip (List.length s2.2 * 4)]) ho1 (fun _ => rfl) (wk [some 0, some 1, some 2, none] (.u (.c rfl (.e aR (.c rfl (.u2 (.c rfl (.c rfl (.c rfl (.u32 (.u16 (.u8 (.u4 (.u2 .nil))))))))))))) (.b rfl (.c rfl (.c rfl (.c rfl (.e aD .nil)))) (.b rfl (.c rfl (.c rfl (.c rfl (.c rfl .nil)))) (.b rfl (.c rfl (.c rfl (.c rfl (.cons (.nils _ _) .nil)))) (.w rfl .nil)))) rfl) ?_
  intro n1 s2 hs1 KL1 hKL1
  unfold xC at hs1
  refine .q fun K9 k9 => ?_
  refine .q fun K10 k10 => ?_
  refine rg 0 ?_
  conv => whnf
  refine aQ (l := p0.kids) (f := ah) ?_
  conv => whnf
  refine k10 _ _ ?_
  refine .aK rfl hs1 (fun hc2 hs1 => ?_) (fun hc2 hs1 => ?_)
  ·refine .skip ?_
   conv => whnf
   refine k9 _ _ ?_
   refine .q fun K11 k11 => ?_
   refine .block ?_
   refine rg 2 ?_
   conv => whnf
   obtain ⟨x2, hx2, hs1⟩ := ob hs1
   refine aU (l := p0.kids) (f := ah) (cs := [.int .i64 ((x2).kind), .int .i64 ((x2).n), .str ((x2).name), .slice (List.map ah ((x2).kids)) .shared]) hx2 (aX x2) rfl ?_
   conv => whnf
   obtain ⟨x3, hx3, hs1⟩ := ob hs1
   refine aB (qb0 _ _ _ _ hx3) NH (.cons (.same _) (.cons (.same _) (.cons (.same _) .nil))) (fun g => by simp) (fun g => by simp) ?_
   conv => whnf
   refine ⟨List.map ah ([x3]), by simp only [List.map_cons, List.map_nil, aX]; try rfl, ?_⟩
   conv => whnf
   obtain ⟨x4, hx4, hs1⟩ := ob hs1
   refine gq (l := s2.2) (ys := [x3]) (f := ah) hx4 lY rfl rfl rfl ?_
   conv => whnf
   refine ⟨by kernel_rfl, ?_⟩
   conv => whnf
   refine k11 _ _ ?_
   refine .know 8 0 fun hv1 => ?_
   refine .know 45 0 fun hv2 => ?_
   refine rg 0 ?_
   conv => whnf
   refine ⟨(s2.1 + 1), by have := bY hv1; have := gI hv2; have h8 := of_decide_eq_true hc2; exact bB (by omega) (by omega), ?_⟩
   conv => whnf
   exact hKL1 _ _ _ hs1 (wk [some 0, some 1, some 2, some 5] (.u (.c rfl (.e aR (.c rfl (.u2 (.c rfl (.c rfl (.c rfl (.u32 (.u16 (.u8 (.u4 (.u2 .nil))))))))))))) (.b rfl (.c rfl (.c rfl (.c rfl (.e aD .nil)))) (.b rfl (.c rfl (.c rfl (.c rfl (.c rfl .nil)))) (.b rfl (.c rfl (.c rfl (.c rfl (.cons (.dz (aD _ _) rfl) .nil)))) (.t rfl .nil)))) rfl)
  refine .exit ?_
  conv => whnf
  exact hR2 _ (sj hs1).symm _ _ (li (.u2 (.u (.s (.u2 (.s (.s (.u16 (.u16 (.u16 (.u8 (.u4 (.u2 (.u .n))))))))))))))
 refine .q fun K12 k12 => ?_
 obtain ⟨s5, hj3, hj1⟩ := ob hj1
 have hR4 : ∀ t9 h9, Le 0 t9 h9 (.unk :: (.str p1 :: (.slice (List.map encI p2) .shared :: (.ptr 0 0 :: (u2 (.ptr 1 0 :: (.ptr 2 0 :: (u16 (u8 (u4 (.bool s5 :: (u32 (u2 []))))))))))))) [.box [.int .i64 p0.kind, .int .i64 p0.n, .str p0.name, .slice (List.map ah p0.kids) .shared], .box [.int .i64 0, .int .i64 0, .str ([] : Str), .slice (List.map ah ([] : List Val)) .nils], .box [.int .i64 p0.kind, .int .i64 p0.n, .str p0.name, .slice (List.map ah ([] : List Val)) .nils]] → K12 t9 h9 := by
  intro t9 h9 hw
  refine k12 _ _ (AW.le hw ?_)
  clear hw
  refine .aK rfl hj1 (fun hc3 hj1 => ?_) (fun hc3 hj1 => ?_)
  ·refine rg 0 ?_
   conv => whnf
   obtain ⟨x5, hx5, hj1⟩ := ob hj1
   refine aU (l := p2) (f := encI) (cs := [.int .i64 (x5)]) hx5 (rfl) rfl ?_
   conv => whnf
   cases hj1
   exact hR1 _ _ (li (.u (.s (.s (.s (.u2 (.s (.s (.u16 (.u16 (.u16 (.u8 (.u4 (.u2 (.u .n)))))))))))))))
  refine .skip ?_
  conv => whnf
  cases hj1
  exact hR1 _ _ (li (.u (.s (.s (.s (.u2 (.s (.s (.u16 (.u16 (.u16 (.u8 (.u4 (.u2 (.u .n)))))))))))))))
 refine rg 0 ?_
 conv => whnf
 refine aI hj3 (fun hc4 hj3 => ?_) (fun hc4 hj3 => ?_)
 ·conv => whnf
  refine aI hj3 (fun hc5 hj3 => ?_) (fun hc5 hj3 => ?_)
  ·conv => whnf
   refine aI hj3 (fun hc6 hj3 => ?_) (fun hc6 hj3 => ?_)
   ·conv => whnf
    refine aQ (l := p2) (f := encI) ?_
    conv => whnf
    cases hj3
    exact hR4 _ _ (li (.u (.s (.s (.s (.u2 (.s (.s (.u16 (.u8 (.u4 (.s (.u16 (.u16 (.u2 .n)))))))))))))))
   conv => whnf
   cases hj3
   exact hR4 _ _ (li (.u (.s (.s (.s (.u2 (.s (.s (.u16 (.u8 (.u4 (.s (.u16 (.u16 (.u2 .n)))))))))))))))
  conv => whnf
  cases hj3
  exact hR4 _ _ (li (.u (.s (.s (.s (.u2 (.s (.s (.u16 (.u8 (.u4 (.s (.u16 (.u16 (.u2 .n)))))))))))))))
 conv => whnf
 cases hj3
 exact hR4 _ _ (li (.u (.s (.s (.s (.u2 (.s (.s (.u16 (.u8 (.u4 (.s (.u16 (.u16 (.u2 .n)))))))))))))))
theorem YT (n : Nat) : qbf (mJ n) := by
 induction n with
 | zero => exact (fun p0 p1 p2 r h => by unfold mJ at h; cases h)
 | succ n ih =>
  exact (fun p0 p1 p2 r h => Oj n _ ih p0 p1 p2 r (by unfold mJ at h; exact h))
theorem Fw (n : Nat) : qbf (mJ n) := (YT n)
theorem TG (n : Nat) (p0 : S_api_World) (p1 : Str) (p2 : List Int) (r : S_api_World × Int) (h : xZ n p0 p1 p2 = some r) : aA Tryz.prog 28 [.agg [.slice (List.map aj p0.env.carriers) .shared, .slice (List.map ak p0.env.names) .shared, .slice (List.map encI p0.sizes) .shared, .slice (List.map ah p0.values) .shared], .str p1, .slice (List.map encI p2) .shared] [] (.tup [.agg [.slice (List.map aj r.1.env.carriers) .shared, .slice (List.map ak r.1.env.names) .shared, .slice (List.map encI r.1.sizes) .shared, .slice (List.map ah r.1.values) .shared], .int .i64 r.2]) [] := by
 unfold xZ at h
 refine aC true Tryz.func28 rfl (by rw [Tryz.ntmps28]; exact Nat.le_of_ble_eq_true rfl) fun Q hQ t ht => ?_
 conv at ht => whnf
 subst ht
 refine .q fun K1 k1 => ?_
 refine rg 2 ?_
 conv => whnf
 refine k1 _ _ ?_
 refine .q fun K2 k2 => ?_
 refine .q fun K3 k3 => ?_
 refine rg 0 ?_
 conv => whnf
 obtain ⟨x1, hx1, h⟩ := ob h
 refine aB (ou _ _ _ hx1) Ho (.cons (.same _) .nil) (fun g => by simp) (fun g => rfl) ?_
 conv => whnf
 refine k3 _ _ ?_
 refine .aK rfl h (fun hc1 h => ?_) (fun hc1 h => ?_)
 ·refine .q fun K4 k4 => ?_
  refine rg 0 ?_
  conv => whnf
  refine k4 _ _ ?_
  refine .ret ?_
  conv => whnf
  have e9 := sj h
  subst e9
  refine hQ _ _ _ (aG aJ (fun g => by simp) ?_)
  conv => whnf
  try rfl
 refine .skip ?_
 conv => whnf
 refine k2 _ _ ?_
 refine .q fun K5 k5 => ?_
 refine rg 0 ?_
 conv => whnf
 obtain ⟨x2, hx2, h⟩ := ob h
 refine aB (vE _ _ _ _ hx2) VA (.cons (.same _) (.cons (.same _) .nil)) (fun g => by simp) (fun g => rfl) ?_
 conv => whnf
 refine k5 _ _ ?_
 refine .q fun K6 k6 => ?_
 refine .q fun K7 k7 => ?_
 refine rg 0 ?_
 conv => whnf
 refine k7 _ _ ?_
 refine .aK rfl h (fun hc2 h => ?_) (fun hc2 h => ?_)
 ·refine .q fun K8 k8 => ?_
  refine rg 0 ?_
  conv => whnf
  refine k8 _ _ ?_
  refine .ret ?_
  conv => whnf
  have e9 := sj h
  subst e9
  refine hQ _ _ _ (aG aJ (fun g => by simp) ?_)
  conv => whnf
  try rfl
 refine .skip ?_
 conv => whnf
 refine k6 _ _ ?_
 refine .q fun K9 k9 => ?_
 refine .q fun K10 k10 => ?_
 refine rg 0 ?_
 conv => whnf
 obtain ⟨x3, hx3, h⟩ := ob h
 refine aU (l := p0.env.carriers) (f := aj) (cs := [.str ((x3).name), .slice (List.map encS ((x3).elems)) .shared]) hx3 (rfl) rfl ?_
 conv => whnf
 refine aQ (l := x3.elems) (f := encS) ?_
 conv => whnf
 refine k10 _ _ ?_
 refine .aK rfl h (fun hc3 h => ?_) (fun hc3 h => ?_)
 ·refine .q fun K11 k11 => ?_
  refine rg 0 ?_
  conv => whnf
  refine k11 _ _ ?_
  refine .ret ?_
  conv => whnf
  have e9 := sj h
  subst e9
  refine hQ _ _ _ (aG aJ (fun g => by simp) ?_)
  conv => whnf
  try rfl
 refine .skip ?_
 conv => whnf
 refine k9 _ _ ?_
 refine .q fun K12 k12 => ?_
 refine .q fun K13 k13 => ?_
 refine rg 0 ?_
 conv => whnf
 obtain ⟨x4, hx4, h⟩ := ob h
 refine aU (l := p0.sizes) (f := encI) (cs := [.int .i64 (x4)]) hx4 (rfl) rfl ?_
 conv => whnf
 obtain ⟨x5, hx5, h⟩ := ob h
 refine aB (OX _ _ _ _ hx5) aha (.cons (.same _) (.cons (.same _) .nil)) (fun g => by simp) (fun g => rfl) ?_
 conv => whnf
 refine k13 _ _ ?_
 refine .aK rfl h (fun hc4 h => ?_) (fun hc4 h => ?_)
 ·refine .q fun K14 k14 => ?_
  refine rg 0 ?_
  conv => whnf
  refine k14 _ _ ?_
  refine .ret ?_
  conv => whnf
  have e9 := sj h
  subst e9
  refine hQ _ _ _ (aG aJ (fun g => by simp) ?_)
  conv => whnf
  try rfl
 refine .skip ?_
 conv => whnf
 refine k12 _ _ ?_
 refine .q fun K15 k15 => ?_
 refine rg 5 ?_
 conv => whnf
 obtain ⟨x6, hx6, h⟩ := ob h
 refine bF [] [2, 3, 4, 5] [.agg [.slice (List.map aj p0.env.carriers) .shared, .slice (List.map ak p0.env.names) .shared, .slice (List.map encI p0.sizes) .shared, .slice (List.map ah p0.values) .shared]] [.agg [.slice (List.map aj p0.env.carriers) .shared, .slice (List.map ak p0.env.names) .shared, .slice (List.map encI p0.sizes) .shared, .slice (List.map ah p0.values) .shared]] (Al _ _ _ hx6) acj rfl .nil (by simp; try decide) (.cons (.same _) .nil) (rn := .agg [.slice (List.map aj x6.1) (.tip 2 2), .slice (List.map ak x6.2.1) (.tip 3 4), .slice (List.map encI x6.2.2.1) (.tip 4 1), .psl 5 4 (List.length x6.2.2.2)]) (by simp; try decide) (Hn := [.tip (List.length x6.1 * 2), .tip (List.length x6.2.1 * 4), .tip (List.length x6.2.2.1 * 1), .arr 4 (List.map ah x6.2.2.2)]) ((bJ (rfl) (bJ (rfl) (bJ (rfl) (bJ (congrArg (AObj.arr _) (aD _ _)) rfl))))) ?_
 conv => whnf
 refine k15 _ _ ?_
 refine .q fun K16 k16 => ?_
 refine .q fun K17 k17 => ?_
 refine rg 0 ?_
 conv => whnf
 refine k17 _ _ ?_
 refine .block ?_
 obtain ⟨o1, ho1, h⟩ := ob h
 have hR1 : ∀ s2 : List Val, o1 = .nx s2 → ∀ t9 h9, Le 0 t9 h9 (u4 (u2 (.ptr 0 0 :: (u2 (.ptr 1 0 :: (u32 (u16 (u4 (.unk :: []))))))))) [.box [.slice (List.map aj ([] : List Carrier)) .nils, .slice (List.map ak ([] : List Decl)) .nils, .slice (List.map encI ([] : List Int)) .nils, .slice (List.map ah ([] : List Val)) .nils], .box [.slice (List.map aj x6.1) (.tip 2 2), .slice (List.map ak x6.2.1) (.tip 3 4), .slice (List.map encI x6.2.2.1) (.tip 4 1), .psl 5 4 (List.length s2)], .tip (List.length x6.1 * 2), .tip (List.length x6.2.1 * 4), .tip (List.length x6.2.2.1 * 1), .arr 4 (List.map ah s2)] → K16 t9 h9 := by
  intro s2 ho
  subst ho
  dsimp only [LR.el] at h
  intro t9 h9 hw
  refine k16 _ _ (AW.le hw ?_)
  refine .q fun K18 k18 => ?_
  refine rg 0 ?_
  conv => whnf
  refine k18 _ _ ?_
  refine .le (t' := (u4 (u2 (.ptr 0 0 :: (.int .i64 0 :: (.unk :: (.ptr 1 0 :: (u32 (u16 (u4 (.agg [.slice (List.map aj x6.1) (.tip 2 2), .slice (List.map ak x6.2.1) (.tip 3 4), .slice (List.map encI x6.2.2.1) (.tip 4 1), .slice (List.map ah s2) .shared] :: []))))))))))) (h' := [.box [.slice (List.map aj x6.1) (.tip 2 2), .slice (List.map ak x6.2.1) (.tip 3 4), .slice (List.map encI x6.2.2.1) (.tip 4 1), .slice (List.map ah s2) .shared], .box [.slice (List.map aj x6.1) (.tip 2 2), .slice (List.map ak x6.2.1) (.tip 3 4), .slice (List.map encI x6.2.2.1) (.tip 4 1), .slice (List.map ah s2) .shared], .tip (List.length x6.1 * 2), .tip (List.length x6.2.1 * 4), .tip (List.length x6.2.2.1 * 1)]) (wk [some 0, some 1, some 2, some 3, some 4] (.u4 (.u2 (.c rfl (.c rfl (.u (.c rfl (.u32 (.u16 (.u4 (.cons (.agg' (.cons (.dz (au _ _) rfl) (.cons (.dz (aF _ _) rfl) (.cons (.dz (aR _ _) rfl) (.cons (.iJ aD (aN _) rfl rfl) .nil))))) .nil)))))))))) (.b rfl (.cons (.dz (au _ _) rfl) (.cons (.dz (aF _ _) rfl) (.cons (.dz (aR _ _) rfl) (.cons (.iJ aD (aN _) rfl rfl) .nil)))) (.b rfl (.cons (.dz (au _ _) rfl) (.cons (.dz (aF _ _) rfl) (.cons (.dz (aR _ _) rfl) (.cons (.iJ aD (aN _) rfl rfl) .nil)))) (.t rfl (.t rfl (.t rfl .nil))))) rfl) ?_
  refine .ret ?_
  conv => whnf
  have e9 := sj h
  subst e9
  refine hQ _ _ _ (aG aJ (fun g => by simp) ?_)
  conv => whnf
  try rfl
 refine .loopS (rU n p1 p2) (fun (s1 : Int × (List Val)) => (.unk :: (.str p1 :: (.slice (List.map encI p2) .shared :: (u2 (.unk :: (.ptr 0 0 :: (u2 (.ptr 1 0 :: (.int .i64 s1.1 :: (u32 (u16 (u4 []))))))))))))) (fun (s1 : Int × (List Val)) => [.box [.slice (List.map aj ([] : List Carrier)) .nils, .slice (List.map ak ([] : List Decl)) .nils, .slice (List.map encI ([] : List Int)) .nils, .slice (List.map ah ([] : List Val)) .nils], .box [.slice (List.map aj x6.1) (.tip 2 2), .slice (List.map ak x6.2.1) (.tip 3 4), .slice (List.map encI x6.2.2.1) (.tip 4 1), .psl 5 4 (List.length s1.2)], .tip (List.length x6.1 * 2), .tip (List.length x6.2.1 * 4), .tip (List.length x6.2.2.1 * 1), .arr 4 (List.map ah s1.2)]) ho1 (fun _ => rfl) (wk [some 1, some 6, some 2, some 3, some 4, some 5] (.u (.c rfl (.e aR (.u2 (.u (.c rfl (.u2 (.c rfl (.c rfl (.u32 (.u16 (.u4 .nil)))))))))))) (.b rfl (.c rfl (.c rfl (.c rfl (.c rfl .nil)))) (.b rfl (.cons (.dz (au _ _) rfl) (.cons (.dz (aF _ _) rfl) (.cons (.dz (aR _ _) rfl) (.c rfl .nil)))) (.t rfl (.t rfl (.t rfl (.old (.arr' aD (aN _)) .nil)))))) rfl) ?_
 intro n1 s1 hs1 KL1 hKL1
 unfold rU at hs1
 refine .q fun K19 k19 => ?_
 refine .q fun K20 k20 => ?_
 refine rg 0 ?_
 conv => whnf
 refine k20 _ _ ?_
 refine .aK rfl hs1 (fun hc5 hs1 => ?_) (fun hc5 hs1 => ?_)
 ·refine .skip ?_
  conv => whnf
  refine k19 _ _ ?_
  refine .q fun K21 k21 => ?_
  refine .block ?_
  refine rg 0 ?_
  conv => whnf
  obtain ⟨x7, hx7, hs1⟩ := ob hs1
  refine yH (l := s1.2) (l0 := s1.2) hx7 (by simp [upd]) ?_
  conv => whnf
  refine QB (l := s1.2) (f := ah) (cs := [.int .i64 x7.kind, .int .i64 x7.n, .str x7.name, .slice (List.map ah x7.kids) .shared]) hx7 (aX x7) (by decide) ?_
  conv => whnf
  obtain ⟨x8, hx8, hs1⟩ := ob hs1
  refine aB (Fw _ _ _ _ _ hx8) NH (.cons (.same _) (.cons (.same _) (.cons (.same _) .nil))) (fun g => by simp) (fun g => by simp) ?_
  conv => whnf
  obtain ⟨x9, hx9, hs1⟩ := ob hs1
  refine yH (l := s1.2) (l0 := s1.2) hx9 (by simp [upd]) ?_
  conv => whnf
  refine QV (l := s1.2) (f := ah) (v := x8) hx9 ((aX _).symm) (by decide) ?_
  conv => whnf
  refine ⟨by kernel_rfl, ?_⟩
  conv => whnf
  refine k21 _ _ ?_
  refine .know 10 0 fun hv1 => ?_
  refine .know 46 0 fun hv2 => ?_
  refine rg 0 ?_
  conv => whnf
  refine ⟨(s1.1 + 1), by have := bY hv1; have := bY hv2; have h8 := of_decide_eq_true hc5; exact bB (by omega) (by omega), ?_⟩
  conv => whnf
  exact hKL1 _ _ _ hs1 (wk [some 0, some 1, some 2, some 3, some 4, some 5] (.u (.c rfl (.e aR (.u2 (.u (.c rfl (.u2 (.c rfl (.c rfl (.u32 (.u16 (.u4 .nil)))))))))))) (.b rfl (.c rfl (.c rfl (.c rfl (.c rfl .nil)))) (.b rfl (.cons (.dz (au _ _) rfl) (.cons (.dz (aF _ _) rfl) (.cons (.dz (aR _ _) rfl) (.cons (.same (y7 (by simp [upd]) rfl)) .nil)))) (.t rfl (.t rfl (.t rfl (.old (.arr' aD (aN _)) .nil)))))) rfl)
 refine .exit ?_
 conv => whnf
 exact hR1 _ (sj hs1).symm _ _ (wk [some 0, some 1, some 2, some 3, some 4, some 5] (.u4 (.u2 (.c rfl (.u2 (.c rfl (.u32 (.u16 (.u4 (.u .nil))))))))) (.b rfl (.c rfl (.c rfl (.c rfl (.c rfl .nil)))) (.b rfl (.cons (.dz (au _ _) rfl) (.cons (.dz (aF _ _) rfl) (.cons (.dz (aR _ _) rfl) (.c rfl .nil)))) (.t rfl (.t rfl (.t rfl (.old (.arr' aD (aN _)) .nil)))))) rfl)
abbrev qbc (qdq : Val → Val → Option Bool) : Prop := ∀ (p0 : Val) (p1 : Val) (r : Bool), qdq p0 p1 = some r → aA Tryz.prog 21 [.agg [.int .i64 p0.kind, .int .i64 p0.n, .str p0.name, .slice (List.map ah p0.kids) .shared], .agg [.int .i64 p1.kind, .int .i64 p1.n, .str p1.name, .slice (List.map ah p1.kids) .shared]] [] (.bool r) []
abbrev qbd (qdr : (List Val) → (List Val) → Option Bool) : Prop := ∀ (p0 : List Val) (p1 : List Val) (r : Bool), qdr p0 p1 = some r → aA Tryz.prog 36 [.slice (List.map ah p0) .shared, .slice (List.map ah p1) .shared] [] (.bool r) []
theorem EW (n : Nat) (qdq : Val → Val → Option Bool) (qdr : (List Val) → (List Val) → Option Bool) (qbx : qbc qdq) (qby : qbd qdr) (p0 : Val) (p1 : Val) (r : Bool) (h : ni n qdq qdr p0 p1 = some r) : aA Tryz.prog 21 [.agg [.int .i64 p0.kind, .int .i64 p0.n, .str p0.name, .slice (List.map ah p0.kids) .shared], .agg [.int .i64 p1.kind, .int .i64 p1.n, .str p1.name, .slice (List.map ah p1.kids) .shared]] [] (.bool r) [] := by
 unfold ni at h
 refine aC true Tryz.func21 rfl (by rw [Tryz.ntmps21]; exact Nat.le_of_ble_eq_true rfl) fun Q hQ t ht => ?_
 conv at ht => whnf
 subst ht
 refine .q fun K1 k1 => ?_
 refine rg 2 ?_
 conv => whnf
 refine k1 _ _ ?_
 refine .q fun K2 k2 => ?_
 obtain ⟨s1, hj1, h⟩ := ob h
 have hR1 : ∀ t9 h9, Le 0 t9 h9 (u4 (.bool s1 :: (u16 (u8 (u2 []))))) [] → K2 t9 h9 := by
  intro t9 h9 hw
  refine k2 _ _ (AW.le hw ?_)
  clear hw
  refine .ret ?_
  conv => whnf
  have e9 := sj h
  subst e9
  refine hQ _ _ _ (aG aJ (fun g => rfl) ?_)
  conv => whnf
 refine rg 0 ?_
 conv => whnf
 refine aI hj1 (fun hc1 hj1 => ?_) (fun hc1 hj1 => ?_)
 ·conv => whnf
  refine aI hj1 (fun hc2 hj1 => ?_) (fun hc2 hj1 => ?_)
  ·conv => whnf
   refine aI hj1 (fun hc3 hj1 => ?_) (fun hc3 hj1 => ?_)
   ·conv => whnf
    obtain ⟨x1, hx1, hj1⟩ := ob hj1
    refine aB (qby _ _ _ hx1) acP (.cons (.same _) (.cons (.same _) .nil)) (fun g => by simp) (fun g => rfl) ?_
    conv => whnf
    cases hj1
    exact hR1 _ _ (wk [] (.u4 (.c rfl (.u16 (.u8 (.u2 .nil))))) .nil rfl)
   conv => whnf
   cases hj1
   exact hR1 _ _ (wk [] (.u4 (.c rfl (.u16 (.u8 (.u2 .nil))))) .nil rfl)
  conv => whnf
  cases hj1
  exact hR1 _ _ (wk [] (.u4 (.c rfl (.u16 (.u8 (.u2 .nil))))) .nil rfl)
 conv => whnf
 cases hj1
 exact hR1 _ _ (wk [] (.u4 (.c rfl (.u16 (.u8 (.u2 .nil))))) .nil rfl)
theorem El (n : Nat) (qdq : Val → Val → Option Bool) (qdr : (List Val) → (List Val) → Option Bool) (qbx : qbc qdq) (qby : qbd qdr) (p0 : List Val) (p1 : List Val) (r : Bool) (h : l9 n qdq qdr p0 p1 = some r) : aA Tryz.prog 36 [.slice (List.map ah p0) .shared, .slice (List.map ah p1) .shared] [] (.bool r) [] := by
 unfold l9 at h
 refine aC true Tryz.func36 rfl (by rw [Tryz.ntmps36]; exact Nat.le_of_ble_eq_true rfl) fun Q hQ t ht => ?_
 conv at ht => whnf
 subst ht
 refine .q fun K1 k1 => ?_
 refine rg 0 ?_
 conv => whnf
 refine k1 _ _ ?_
 refine .q fun K2 k2 => ?_
 refine .q fun K3 k3 => ?_
 refine rg 0 ?_
 conv => whnf
 refine aQ (l := p0) (f := ah) ?_
 conv => whnf
 refine aQ (l := p1) (f := ah) ?_
 conv => whnf
 refine k3 _ _ ?_
 refine .aK rfl h (fun hc1 h => ?_) (fun hc1 h => ?_)
 ·refine .q fun K4 k4 => ?_
  refine rg 0 ?_
  conv => whnf
  refine k4 _ _ ?_
  refine .ret ?_
  conv => whnf
  have e9 := sj h
  subst e9
  refine hQ _ _ _ (aG aJ (fun g => rfl) ?_)
  conv => whnf
 refine .skip ?_
 conv => whnf
 refine k2 _ _ ?_
 refine .q fun K5 k5 => ?_
 refine .q fun K6 k6 => ?_
 refine rg 0 ?_
 conv => whnf
 refine k6 _ _ ?_
 refine .block ?_
 obtain ⟨o1, ho1, h⟩ := ob h
 have hR1 : ∀ s2 : Unit, o1 = .nx s2 → ∀ t9 h9, Le 0 t9 h9 (u16 (u8 (u2 (.unk :: [])))) [] → K5 t9 h9 := by
  intro s2 ho
  subst ho
  dsimp only [LR.el] at h
  intro t9 h9 hw
  refine k5 _ _ (AW.le hw ?_)
  refine .q fun K7 k7 => ?_
  refine rg 0 ?_
  conv => whnf
  refine k7 _ _ ?_
  refine .ret ?_
  conv => whnf
  have e9 := sj h
  subst e9
  refine hQ _ _ _ (aG aJ (fun g => rfl) ?_)
  conv => whnf
 refine .loopS (jC n qdq qdr p0 p1) (fun (s1 : Int) => (.slice (List.map ah p0) .shared :: (.slice (List.map ah p1) .shared :: (u2 (.unk :: (.int .i64 s1 :: (u16 (u4 (.unk :: []))))))))) (fun (s1 : Int) => []) ho1 (fun _ => rfl) (li (.s (.s (.u2 (.u (.s (.u16 (.u4 (.u .n))))))))) ?_
 intro n1 s1 hs1 KL1 hKL1
 unfold jC at hs1
 refine .q fun K8 k8 => ?_
 refine .q fun K9 k9 => ?_
 refine rg 0 ?_
 conv => whnf
 refine aQ (l := p0) (f := ah) ?_
 conv => whnf
 refine k9 _ _ ?_
 refine .aK rfl hs1 (fun hc2 hs1 => ?_) (fun hc2 hs1 => ?_)
 ·refine .skip ?_
  conv => whnf
  refine k8 _ _ ?_
  refine .q fun K10 k10 => ?_
  refine .block ?_
  refine .q fun K11 k11 => ?_
  refine rg 0 ?_
  conv => whnf
  obtain ⟨x1, hx1, hs1⟩ := ob hs1
  refine aU (l := p0) (f := ah) (cs := [.int .i64 ((x1).kind), .int .i64 ((x1).n), .str ((x1).name), .slice (List.map ah ((x1).kids)) .shared]) hx1 (aX x1) rfl ?_
  conv => whnf
  obtain ⟨x2, hx2, hs1⟩ := ob hs1
  refine aU (l := p1) (f := ah) (cs := [.int .i64 ((x2).kind), .int .i64 ((x2).n), .str ((x2).name), .slice (List.map ah ((x2).kids)) .shared]) hx2 (aX x2) rfl ?_
  conv => whnf
  obtain ⟨x3, hx3, hs1⟩ := ob hs1
  refine aB (qbx _ _ _ hx3) zI (.cons (.same _) (.cons (.same _) .nil)) (fun g => by simp) (fun g => rfl) ?_
  conv => whnf
  refine ⟨by kernel_rfl, ?_⟩
  conv => whnf
  refine k11 _ _ ?_
  refine .aK rfl hs1 (fun hc3 hs1 => ?_) (fun hc3 hs1 => ?_)
  ·refine .q fun K12 k12 => ?_
   refine rg 0 ?_
   conv => whnf
   refine k12 _ _ ?_
   refine .ret ?_
   conv => whnf
   have e9 := sj hs1
   subst e9
   dsimp only [LR.el] at h
   have e9 := sj h
   subst e9
   refine hQ _ _ _ (aG aJ (fun g => rfl) ?_)
   conv => whnf
  refine .skip ?_
  conv => whnf
  refine k10 _ _ ?_
  refine .know 5 0 fun hv1 => ?_
  refine .know 0 0 fun hv2 => ?_
  refine rg 0 ?_
  conv => whnf
  refine ⟨(s1 + 1), by have := bY hv1; have := gI hv2; have h8 := of_decide_eq_true hc2; exact bB (by omega) (by omega), ?_⟩
  conv => whnf
  exact hKL1 _ _ _ hs1 (li (.s (.s (.u2 (.u (.s (.u16 (.u4 (.u .n)))))))))
 refine .exit ?_
 conv => whnf
 exact hR1 _ (sj hs1).symm _ _ (li (.u16 (.u8 (.u2 (.u .n)))))
theorem Bg (n : Nat) : qbc (dn n) ∧ qbd (iN n) := by
 induction n with
 | zero => exact ⟨(fun p0 p1 r h => by unfold dn at h; cases h), (fun p0 p1 r h => by unfold iN at h; cases h)⟩
 | succ n ih =>
  exact ⟨(fun p0 p1 r h => EW n _ _ ih.1 ih.2 p0 p1 r (by unfold dn at h; exact h)), (fun p0 p1 r h => El n _ _ ih.1 ih.2 p0 p1 r (by unfold iN at h; exact h))⟩
theorem kK (n : Nat) : qbc (dn n) := (Bg n).1
theorem Mi (n : Nat) : qbd (iN n) := (Bg n).2
theorem R5 (n : Nat) (p0 : Env) (p1 : Env) (r : Bool) (h : rH n p0 p1 = some r) : aA Tryz.prog 57 [.agg [.slice (List.map aj p0.carriers) .shared, .slice (List.map ak p0.names) .shared], .agg [.slice (List.map aj p1.carriers) .shared, .slice (List.map ak p1.names) .shared]] [] (.bool r) [] := by
 unfold rH at h
 refine aC true Tryz.func57 rfl (by rw [Tryz.ntmps57]; exact Nat.le_of_ble_eq_true rfl) fun Q hQ t ht => ?_
 conv at ht => whnf
 subst ht
 refine .q fun K1 k1 => ?_
 refine rg 2 ?_
 conv => whnf
 refine k1 _ _ ?_
 refine .q fun K2 k2 => ?_
 refine .q fun K3 k3 => ?_
 obtain ⟨s1, hj1, h⟩ := ob h
 have hR1 : ∀ t9 h9, Le 0 t9 h9 (u2 (.ptr 0 0 :: (.ptr 1 0 :: (u16 (u2 (.bool s1 :: (u32 (u16 (u4 (u2 (.unk :: []))))))))))) [.box [.slice (List.map aj p0.carriers) .shared, .slice (List.map ak p0.names) .shared], .box [.slice (List.map aj p1.carriers) .shared, .slice (List.map ak p1.names) .shared]] → K3 t9 h9 := by
  intro t9 h9 hw
  refine k3 _ _ (AW.le hw ?_)
  clear hw
  refine .aK rfl h (fun hc1 h => ?_) (fun hc1 h => ?_)
  ·refine .q fun K4 k4 => ?_
   refine rg 0 ?_
   conv => whnf
   refine k4 _ _ ?_
   refine .ret ?_
   conv => whnf
   have e9 := sj h
   subst e9
   refine hQ _ _ _ (aG aJ (fun g => rfl) ?_)
   conv => whnf
  refine .skip ?_
  conv => whnf
  refine k2 _ _ ?_
  refine .q fun K5 k5 => ?_
  refine .q fun K6 k6 => ?_
  refine rg 0 ?_
  conv => whnf
  refine k6 _ _ ?_
  refine .block ?_
  obtain ⟨o1, ho1, h⟩ := ob h
  have hR2 : ∀ s3 : Unit, o1 = .nx s3 → ∀ t9 h9, Le 0 t9 h9 (u2 (.ptr 0 0 :: (.ptr 1 0 :: (u64 (u8 (u2 [])))))) [.box [.slice (List.map aj p0.carriers) .shared, .slice (List.map ak p0.names) .shared], .box [.slice (List.map aj p1.carriers) .shared, .slice (List.map ak p1.names) .shared]] → K5 t9 h9 := by
   intro s3 ho
   subst ho
   dsimp only [LR.el] at h
   intro t9 h9 hw
   refine k5 _ _ (AW.le hw ?_)
   refine .q fun K7 k7 => ?_
   refine .q fun K8 k8 => ?_
   refine rg 0 ?_
   conv => whnf
   refine k8 _ _ ?_
   refine .block ?_
   obtain ⟨o2, ho2, h⟩ := ob h
   have hR3 : ∀ s5 : Unit, o2 = .nx s5 → ∀ t9 h9, Le 0 t9 h9 (u64 (u8 (u4 (u2 [])))) [] → K7 t9 h9 := by
    intro s5 ho
    subst ho
    dsimp only [LR.el] at h
    intro t9 h9 hw
    refine k7 _ _ (AW.le hw ?_)
    refine .q fun K9 k9 => ?_
    refine rg 0 ?_
    conv => whnf
    refine k9 _ _ ?_
    refine .ret ?_
    conv => whnf
    have e9 := sj h
    subst e9
    refine hQ _ _ _ (aG aJ (fun g => rfl) ?_)
    conv => whnf
   refine .loopS (sw n p0 p1) (fun (s4 : Int) => (u2 (.ptr 0 0 :: (.ptr 1 0 :: (u2 (.int .i64 s4 :: (u64 (u4 (u2 (.unk :: [])))))))))) (fun (s4 : Int) => [.box [.slice (List.map aj p0.carriers) .shared, .slice (List.map ak p0.names) .shared], .box [.slice (List.map aj p1.carriers) .shared, .slice (List.map ak p1.names) .shared]]) ho2 (fun _ => rfl) (li (.u2 (.s (.s (.u2 (.s (.u16 (.u16 (.u16 (.u16 (.u4 (.u2 (.u .n))))))))))))) ?_
   intro n2 s4 hs2 KL2 hKL2
   unfold sw at hs2
   refine .q fun K10 k10 => ?_
   refine .q fun K11 k11 => ?_
   refine rg 0 ?_
   conv => whnf
   refine aQ (l := p0.names) (f := ak) ?_
   conv => whnf
   refine k11 _ _ ?_
   refine .aK rfl hs2 (fun hc2 hs2 => ?_) (fun hc2 hs2 => ?_)
   ·refine .skip ?_
    conv => whnf
    refine k10 _ _ ?_
    refine .q fun K12 k12 => ?_
    refine .block ?_
    refine .q fun K13 k13 => ?_
    obtain ⟨s6, hj2, hs2⟩ := ob hs2
    have hR4 : ∀ t9 h9, Le 0 t9 h9 (u2 (.ptr 0 0 :: (.ptr 1 0 :: (u2 (.int .i64 s4 :: (u64 (u4 (u2 (.bool s6 :: []))))))))) [.box [.slice (List.map aj p0.carriers) .shared, .slice (List.map ak p0.names) .shared], .box [.slice (List.map aj p1.carriers) .shared, .slice (List.map ak p1.names) .shared]] → K13 t9 h9 := by
     intro t9 h9 hw
     refine k13 _ _ (AW.le hw ?_)
     clear hw
     refine .aK rfl hs2 (fun hc3 hs2 => ?_) (fun hc3 hs2 => ?_)
     ·refine .q fun K14 k14 => ?_
      refine rg 0 ?_
      conv => whnf
      refine k14 _ _ ?_
      refine .ret ?_
      conv => whnf
      have e9 := sj hs2
      subst e9
      dsimp only [LR.el] at h
      have e9 := sj h
      subst e9
      refine hQ _ _ _ (aG aJ (fun g => rfl) ?_)
      conv => whnf
     refine .skip ?_
     conv => whnf
     refine k12 _ _ ?_
     refine .know 6 0 fun hv1 => ?_
     refine .Uz 0 1 (fun hv2 => ?_) ⟨2, 0, rfl⟩
     refine rg 0 ?_
     conv => whnf
     refine ⟨(s4 + 1), by have := bY hv1; have := gI hv2; have h8 := of_decide_eq_true hc2; exact bB (by omega) (by omega), ?_⟩
     conv => whnf
     exact hKL2 _ _ _ hs2 (li (.u2 (.s (.s (.u2 (.s (.u16 (.u16 (.u16 (.u16 (.u4 (.u2 (.u .n)))))))))))))
    refine rg 0 ?_
    conv => whnf
    obtain ⟨x1, hx1, hj2⟩ := ob hj2
    refine aU (l := p0.names) (f := ak) (cs := [.str ((x1).name), .int .i64 (((x1).ty).kind), .str (((x1).ty).name), .slice (List.map aH (((x1).ty).kids)) .shared]) hx1 (rfl) rfl ?_
    conv => whnf
    obtain ⟨x2, hx2, hj2⟩ := ob hj2
    refine aU (l := p1.names) (f := ak) (cs := [.str ((x2).name), .int .i64 (((x2).ty).kind), .str (((x2).ty).name), .slice (List.map aH (((x2).ty).kids)) .shared]) hx2 (rfl) rfl ?_
    conv => whnf
    refine aI hj2 (fun hc4 hj2 => ?_) (fun hc4 hj2 => ?_)
    ·conv => whnf
     refine ⟨by kernel_rfl, ?_⟩
     conv => whnf
     cases hj2
     exact hR4 _ _ (li (.u2 (.s (.s (.u2 (.s (.u16 (.u16 (.u16 (.u16 (.u4 (.u2 (.s .n)))))))))))))
    conv => whnf
    obtain ⟨x3, hx3, hj2⟩ := ob hj2
    refine aU (l := p0.names) (f := ak) (cs := [.str ((x3).name), .int .i64 (((x3).ty).kind), .str (((x3).ty).name), .slice (List.map aH (((x3).ty).kids)) .shared]) hx3 (rfl) rfl ?_
    conv => whnf
    obtain ⟨x4, hx4, hj2⟩ := ob hj2
    refine aU (l := p1.names) (f := ak) (cs := [.str ((x4).name), .int .i64 (((x4).ty).kind), .str (((x4).ty).name), .slice (List.map aH (((x4).ty).kids)) .shared]) hx4 (rfl) rfl ?_
    conv => whnf
    obtain ⟨x5, hx5, hj2⟩ := ob hj2
    refine aB (Pm _ _ _ _ hx5) Zg (.cons (.same _) (.cons (.same _) .nil)) (fun g => by simp) (fun g => rfl) ?_
    conv => whnf
    refine ⟨by kernel_rfl, ?_⟩
    conv => whnf
    cases hj2
    exact hR4 _ _ (li (.u2 (.s (.s (.u2 (.s (.u16 (.u16 (.u16 (.u16 (.u4 (.u2 (.s .n)))))))))))))
   refine .exit ?_
   conv => whnf
   exact hR3 _ (sj hs2).symm _ _ (wk [] (.u64 (.u8 (.u4 (.u2 .nil)))) .nil rfl)
  refine .loopS (sD n p0 p1) (fun (s2 : Int) => (u2 (.ptr 0 0 :: (.ptr 1 0 :: (.unk :: (.int .i64 s2 :: (u64 (u8 [])))))))) (fun (s2 : Int) => [.box [.slice (List.map aj p0.carriers) .shared, .slice (List.map ak p0.names) .shared], .box [.slice (List.map aj p1.carriers) .shared, .slice (List.map ak p1.names) .shared]]) ho1 (fun _ => rfl) (li (.u2 (.s (.s (.u (.s (.u16 (.u16 (.u16 (.u16 (.u8 .n))))))))))) ?_
  intro n1 s2 hs1 KL1 hKL1
  unfold sD at hs1
  refine .q fun K15 k15 => ?_
  refine .q fun K16 k16 => ?_
  refine rg 0 ?_
  conv => whnf
  refine aQ (l := p0.carriers) (f := aj) ?_
  conv => whnf
  refine k16 _ _ ?_
  refine .aK rfl hs1 (fun hc5 hs1 => ?_) (fun hc5 hs1 => ?_)
  ·refine .skip ?_
   conv => whnf
   refine k15 _ _ ?_
   refine .q fun K17 k17 => ?_
   refine .block ?_
   refine .q fun K18 k18 => ?_
   refine rg 0 ?_
   conv => whnf
   obtain ⟨x6, hx6, hs1⟩ := ob hs1
   refine aU (l := p0.carriers) (f := aj) (cs := [.str ((x6).name), .slice (List.map encS ((x6).elems)) .shared]) hx6 (rfl) rfl ?_
   conv => whnf
   obtain ⟨x7, hx7, hs1⟩ := ob hs1
   refine aU (l := p1.carriers) (f := aj) (cs := [.str ((x7).name), .slice (List.map encS ((x7).elems)) .shared]) hx7 (rfl) rfl ?_
   conv => whnf
   obtain ⟨x8, hx8, hs1⟩ := ob hs1
   refine aB (JX _ _ _ _ hx8) afd (.cons (.same _) (.cons (.same _) .nil)) (fun g => by simp) (fun g => rfl) ?_
   conv => whnf
   refine ⟨by kernel_rfl, ?_⟩
   conv => whnf
   refine k18 _ _ ?_
   refine .aK rfl hs1 (fun hc6 hs1 => ?_) (fun hc6 hs1 => ?_)
   ·refine .q fun K19 k19 => ?_
    refine rg 0 ?_
    conv => whnf
    refine k19 _ _ ?_
    refine .ret ?_
    conv => whnf
    have e9 := sj hs1
    subst e9
    dsimp only [LR.el] at h
    have e9 := sj h
    subst e9
    refine hQ _ _ _ (aG aJ (fun g => rfl) ?_)
    conv => whnf
   refine .skip ?_
   conv => whnf
   refine k17 _ _ ?_
   refine .know 5 0 fun hv3 => ?_
   refine .know 25 0 fun hv4 => ?_
   refine rg 0 ?_
   conv => whnf
   refine ⟨(s2 + 1), by have := bY hv3; have := gI hv4; have h8 := of_decide_eq_true hc5; exact bB (by omega) (by omega), ?_⟩
   conv => whnf
   exact hKL1 _ _ _ hs1 (li (.u2 (.s (.s (.u (.s (.u16 (.u16 (.u16 (.u16 (.u8 .n)))))))))))
  refine .exit ?_
  conv => whnf
  exact hR2 _ (sj hs1).symm _ _ (li (.u2 (.s (.s (.u16 (.u16 (.u16 (.u16 (.u8 (.u2 .n))))))))))
 refine rg 0 ?_
 conv => whnf
 refine aQ (l := p0.carriers) (f := aj) ?_
 conv => whnf
 refine aQ (l := p1.carriers) (f := aj) ?_
 conv => whnf
 refine aI hj1 (fun hc7 hj1 => ?_) (fun hc7 hj1 => ?_)
 ·conv => whnf
  cases hj1
  exact hR1 _ _ (li (.u2 (.s (.s (.u16 (.u2 (.s (.u16 (.u16 (.u16 (.u4 (.u2 (.u .n)))))))))))))
 conv => whnf
 refine aQ (l := p0.names) (f := ak) ?_
 conv => whnf
 refine aQ (l := p1.names) (f := ak) ?_
 conv => whnf
 cases hj1
 exact hR1 _ _ (li (.u2 (.s (.s (.u16 (.u2 (.s (.u16 (.u16 (.u16 (.u4 (.u2 (.u .n)))))))))))))
theorem Qb (n : Nat) (p0 : List Int) (p1 : List Int) (r : Bool) (h : vQ n p0 p1 = some r) : aA Tryz.prog 58 [.slice (List.map encI p0) .shared, .slice (List.map encI p1) .shared] [] (.bool r) [] := by
 unfold vQ at h
 refine aC true Tryz.func58 rfl (by rw [Tryz.ntmps58]; exact Nat.le_of_ble_eq_true rfl) fun Q hQ t ht => ?_
 conv at ht => whnf
 subst ht
 refine .q fun K1 k1 => ?_
 refine rg 0 ?_
 conv => whnf
 refine k1 _ _ ?_
 refine .q fun K2 k2 => ?_
 refine .q fun K3 k3 => ?_
 refine rg 0 ?_
 conv => whnf
 refine aQ (l := p0) (f := encI) ?_
 conv => whnf
 refine aQ (l := p1) (f := encI) ?_
 conv => whnf
 refine k3 _ _ ?_
 refine .aK rfl h (fun hc1 h => ?_) (fun hc1 h => ?_)
 ·refine .q fun K4 k4 => ?_
  refine rg 0 ?_
  conv => whnf
  refine k4 _ _ ?_
  refine .ret ?_
  conv => whnf
  have e9 := sj h
  subst e9
  refine hQ _ _ _ (aG aJ (fun g => rfl) ?_)
  conv => whnf
 refine .skip ?_
 conv => whnf
 refine k2 _ _ ?_
 refine .q fun K5 k5 => ?_
 refine .q fun K6 k6 => ?_
 refine rg 0 ?_
 conv => whnf
 refine k6 _ _ ?_
 refine .block ?_
 obtain ⟨o1, ho1, h⟩ := ob h
 have hR1 : ∀ s2 : Unit, o1 = .nx s2 → ∀ t9 h9, Le 0 t9 h9 (u16 (u8 (u2 []))) [] → K5 t9 h9 := by
  intro s2 ho
  subst ho
  dsimp only [LR.el] at h
  intro t9 h9 hw
  refine k5 _ _ (AW.le hw ?_)
  refine .q fun K7 k7 => ?_
  refine rg 0 ?_
  conv => whnf
  refine k7 _ _ ?_
  refine .ret ?_
  conv => whnf
  have e9 := sj h
  subst e9
  refine hQ _ _ _ (aG aJ (fun g => rfl) ?_)
  conv => whnf
 refine .loopS (qw n p0 p1) (fun (s1 : Int) => (.slice (List.map encI p0) .shared :: (.slice (List.map encI p1) .shared :: (u2 (.unk :: (.int .i64 s1 :: (u16 (u4 [])))))))) (fun (s1 : Int) => []) ho1 (fun _ => rfl) (li (.s (.s (.u2 (.u (.s (.u16 (.u4 .n)))))))) ?_
 intro n1 s1 hs1 KL1 hKL1
 unfold qw at hs1
 refine .q fun K8 k8 => ?_
 refine .q fun K9 k9 => ?_
 refine rg 0 ?_
 conv => whnf
 refine aQ (l := p0) (f := encI) ?_
 conv => whnf
 refine k9 _ _ ?_
 refine .aK rfl hs1 (fun hc2 hs1 => ?_) (fun hc2 hs1 => ?_)
 ·refine .skip ?_
  conv => whnf
  refine k8 _ _ ?_
  refine .q fun K10 k10 => ?_
  refine .block ?_
  refine .q fun K11 k11 => ?_
  refine rg 0 ?_
  conv => whnf
  obtain ⟨x1, hx1, hs1⟩ := ob hs1
  refine aU (l := p0) (f := encI) (cs := [.int .i64 (x1)]) hx1 (rfl) rfl ?_
  conv => whnf
  obtain ⟨x2, hx2, hs1⟩ := ob hs1
  refine aU (l := p1) (f := encI) (cs := [.int .i64 (x2)]) hx2 (rfl) rfl ?_
  conv => whnf
  refine ⟨by kernel_rfl, ?_⟩
  conv => whnf
  refine k11 _ _ ?_
  refine .aK rfl hs1 (fun hc3 hs1 => ?_) (fun hc3 hs1 => ?_)
  ·refine .q fun K12 k12 => ?_
   refine rg 0 ?_
   conv => whnf
   refine k12 _ _ ?_
   refine .ret ?_
   conv => whnf
   have e9 := sj hs1
   subst e9
   dsimp only [LR.el] at h
   have e9 := sj h
   subst e9
   refine hQ _ _ _ (aG aJ (fun g => rfl) ?_)
   conv => whnf
  refine .skip ?_
  conv => whnf
  refine k10 _ _ ?_
  refine .know 5 0 fun hv1 => ?_
  refine .know 0 0 fun hv2 => ?_
  refine rg 0 ?_
  conv => whnf
  refine ⟨(s1 + 1), by have := bY hv1; have := gI hv2; have h8 := of_decide_eq_true hc2; exact bB (by omega) (by omega), ?_⟩
  conv => whnf
  exact hKL1 _ _ _ hs1 (li (.s (.s (.u2 (.u (.s (.u16 (.u4 .n))))))))
 refine .exit ?_
 conv => whnf
 exact hR1 _ (sj hs1).symm _ _ (li (.u16 (.u8 (.u2 .n))))
theorem xE (n : Nat) (p0 : S_api_World) (p1 : S_api_World) (r : Bool) (h : oD n p0 p1 = some r) : aA Tryz.prog 22 [.agg [.slice (List.map aj p0.env.carriers) .shared, .slice (List.map ak p0.env.names) .shared, .slice (List.map encI p0.sizes) .shared, .slice (List.map ah p0.values) .shared], .agg [.slice (List.map aj p1.env.carriers) .shared, .slice (List.map ak p1.env.names) .shared, .slice (List.map encI p1.sizes) .shared, .slice (List.map ah p1.values) .shared]] [] (.bool r) [] := by
 unfold oD at h
 refine aC true Tryz.func22 rfl (by rw [Tryz.ntmps22]; exact Nat.le_of_ble_eq_true rfl) fun Q hQ t ht => ?_
 conv at ht => whnf
 subst ht
 refine .q fun K1 k1 => ?_
 refine rg 2 ?_
 conv => whnf
 refine k1 _ _ ?_
 refine .q fun K2 k2 => ?_
 obtain ⟨s1, hj1, h⟩ := ob h
 have hR1 : ∀ t9 h9, Le 0 t9 h9 (u4 (.bool s1 :: (u16 (u2 (.unk :: []))))) [] → K2 t9 h9 := by
  intro t9 h9 hw
  refine k2 _ _ (AW.le hw ?_)
  clear hw
  refine .ret ?_
  conv => whnf
  have e9 := sj h
  subst e9
  refine hQ _ _ _ (aG aJ (fun g => rfl) ?_)
  conv => whnf
 refine rg 0 ?_
 conv => whnf
 obtain ⟨x1, hx1, hj1⟩ := ob hj1
 refine aB (R5 _ _ _ _ hx1) agR (.cons (.same _) (.cons (.same _) .nil)) (fun g => by simp) (fun g => rfl) ?_
 conv => whnf
 refine aI hj1 (fun hc1 hj1 => ?_) (fun hc1 hj1 => ?_)
 ·conv => whnf
  obtain ⟨x2, hx2, hj1⟩ := ob hj1
  refine aB (Qb _ _ _ _ hx2) agi (.cons (.same _) (.cons (.same _) .nil)) (fun g => by simp) (fun g => rfl) ?_
  conv => whnf
  refine aI hj1 (fun hc2 hj1 => ?_) (fun hc2 hj1 => ?_)
  ·conv => whnf
   obtain ⟨x3, hx3, hj1⟩ := ob hj1
   refine aB (Mi _ _ _ _ hx3) acP (.cons (.same _) (.cons (.same _) .nil)) (fun g => by simp) (fun g => rfl) ?_
   conv => whnf
   cases hj1
   exact hR1 _ _ (wk [] (.u4 (.c rfl (.u16 (.u2 (.u .nil))))) .nil rfl)
  conv => whnf
  cases hj1
  exact hR1 _ _ (wk [] (.u4 (.c rfl (.u16 (.u2 (.u .nil))))) .nil rfl)
 conv => whnf
 cases hj1
 exact hR1 _ _ (wk [] (.u4 (.c rfl (.u16 (.u2 (.u .nil))))) .nil rfl)
end Abs
end Go.Proofs.YtkopaeklihhdlaaGreat
